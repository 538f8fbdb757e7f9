/- What leads to the law, part 4. Conditions: each lemma's own. -/
import Derived.Laws.CopyRow
import Derived.Lib.AppendZerosOnto
import Derived.Lib.Overlaps
import Derived.RangeFuncLeaves
import Derived.RangeFuncRecord
import Derived.Test.YticbaadnibdbkaaGreatProg
import Derived.Test.YticbaadnibdbkaaGreatNOM3
set_option linter.unusedVariables false
set_option linter.unusedSimpArgs false
set_option maxHeartbeats 2000000
set_option linter.defProp false
namespace Go.Proofs.YticbaadnibdbkaaGreat
open Go.RowKit
def afX:=@Go.World.putObj_heap_other
def aha:=@of_decide_eq_false
def ahO:=@List.mem_of_mem_drop
def afZ:=@List.findIdx?_eq_some_iff_getElem
def aiD:=@List.contains_iff_mem
def afO:=@Int.le_refl
variable {ρ:List RE}
def Rd.qd {c:Cx} {a:AV} {v:Value} (h:Rd c ρ a v):Qd c a v:=fun b=>(gU b).1 h
theorem gS {fr:AFr} {t:Nat}:∀ {U:List Nat},t ∈ U->lookA (du fr U) t=lookA fr t
 | u :: r,h=>by
  simp only [du];split
  ·rename_i v b;rw [dw];by_cases a:u=t
   ·grind
   rw [if_neg a];refine gS ?_;grind
  rename_i b;by_cases a:u=t
  ·subst a;by_cases c:u ∈ r
   ·exact gS c
   rw [b];cases d:lookA (du fr r) u with
   | none=>rfl
   | some x=>exact absurd (jN d).1 c
  refine gS ?_;grind
def iy {fr:AFr} {U:List Nat} {x:Operand} (h:∀ t ∈ Operand.sl x,t ∈ U):dh (du fr U) x=dh fr x:=by
 cases x with
 | tmp i=>exact gS (h i (by simp [Operand.sl]))
 | _=>rfl
theorem vq {fr:AFr}:∀ {A B:List Nat},du fr (A++B)=du fr A++du fr B
 | [],_=>rfl
 | a :: r,B=>by
  simp only [List.cons_append,du,vq (A:=r)];split <;> rfl
theorem tN {c d:Type} {R:c->d->Prop}:∀ {a b:List c} {F:List d},All2 R (a++b) F->∃ x y,F=x++y/\All2 R a x/\All2 R b y
 | [],b,F,h=>⟨[],F,rfl,.nil,h⟩
 | p :: a,b,_,h=>by
  cases h with
  | cons f g=>
   obtain ⟨x,y,e,i,j⟩:=tN g;exact ⟨_ :: x,y,by rw [e]; rfl,.cons f i,j⟩
theorem Qf {A B:Fr} {i:Nat} {v:Value}:look A i=some v->look (A++B) i=some v:=by
 intro h;induction A with
 | nil=>cases h
 | cons q r a=>
  rw [List.cons_append,aW];rw [aW] at h;grind
theorem rF {g:Bool} {v:TV} {K:TV->Prop} (h:split g v K):∃ f,K f /\ ∀ c ρ u,Rt c ρ v u->Rt c ρ f u:=by
 unfold split at h;split at h
 ·rename_i b i;have:=acD (dL i);grind
 ·rename_i e _ j;have:=acD (dL j);subst this;cases a:e.val with
  | true=>
   refine ⟨_,h.1 ((BE.fB e true).2 a),fun c ρ u d=>?_⟩;cases d;rw [a]; exact Pd.bool (e:=.lit true)
  | false=>
   refine ⟨_,h.2 ((BE.fB e false).2 a),fun c ρ u d=>?_⟩;cases d;rw [a]; exact Pd.bool (e:=.lit false)
 grind
section
variable {P:Program} {T:List (Nat × TI)} {shp:TypeId->Option Sh} {O:bP} {n:Nat} {ro:Lv} {l:List Oper}
variable {G:Gl} {w:World} {A B:List Nat} {F:Fr} {o:Oper}
def zi {fr:AFr} (d:FrR (cx G ρ w) ρ (du fr (A++B)) F) {e:Value->World->Prop} (h:∀ b,FrR (cx G ρ w) ρ (du fr A) b->eK P n b w o.op o.type e):eK P n F w o.op o.type e:=by
 rw [vq] at d;obtain ⟨b,j,rfl,f,_⟩:=tN d;exact eK.sub (fun a c=>⟨c.1,c.2.1,fun i v g=>c.2.2 i v (Qf g)⟩) (h b f)
variable {H:AH}
def pure_run {fr:AFr} {σ:List Nat} {v g:TV} {ob i:List Prop} (k:∀ c ρ u,Rt c ρ v u->Rt c ρ g u)
  (h:∀ (G:Gl) (ρ:List RE) (w:World) (F:Fr),G.shp=shp->Rep G ρ (maskH σ 0 H) w->FrR (cx G ρ w) ρ (du fr A) F->(∀ p ∈ ob,p)->Yields P n F w o.op o.type fun u a=>Kp [] w a /\ Rt (cx G ρ a) ρ v u/\∀ p ∈ i,p) (b:Nat) :
  RunOK P shp n ro o ⟨true,o.dst,g,A++B,σ,[],[],b,maskH σ 0 H,none,ob,i,fr,H⟩:=by
 intro G ρ w F m d q e;refine zi q fun r f=>.inl ((h G ρ w r m d f e).mono fun u a ⟨j,s,t⟩=>⟨ρ,Stp.kp d j,d.kp j,k _ _ _ s,t⟩)
theorem MS {c:Cx} {ρ:List RE} {H:AH}:∀ {b:List AV} {f:List Value},(∀ i,i ∉ eU b)->All2 (Rd c ρ) b f->All2 (Qd c) (Hj H b) f
 | [],_,_,h=>by cases h; exact .nil
 | a :: r,_,d,h=>by
  cases h with
  | cons g j=>
   have k:∀ i,i ∉ eU r:=fun i m=>d i (by cases a <;> simp [eU,m]);refine .cons ?_ (MS k j);have e:a.vw H=a:=by
    cases a with
    | own i=>exact absurd (by simp [eU]) (d i)
    | sub i _ _=>exact absurd (by simp [eU]) (d i)
    | _=>rfl
   rw [e]; exact Rd.qd g
variable {r:PR} {op:Op}
def QQ (hT:bh P shp T) {J:AFr} {K:AH} {ty:TypeId} (V:G.shp=shp) (L:Rep G ρ K w) (W:FrR (cx G ρ w) ρ J F) (h:Jn T J K op=some r):Yields P n F w op ty fun u N=>Kp [] w N /\ Rt (cx G ρ N) ρ r.v u/\∀ p ∈ r.fc,p:=by
 subst V;unfold Jn at h;split at h
 ·rename_i t m b;split at h
  ·rename_i e s sz z l q X;split at h
   ·rename_i Y j x;split at h
    ·rename_i a;cases h;simp only [Bool.and_eq_true] at a;have a:=a.1;have Q:=aaF a.1.1;have y:=afL a.1.2;have C:=afL a.2;obtain ⟨Z,o⟩:=(hT _ _ q).2;obtain ⟨k,⟨zz,g,A⟩,_⟩:=o s rfl;have d:(P.info? e).map (·.size)=some s.size:=by
      cases S:P.info? e with
      | none=>simp [S] at g
      | some i=>simp only [S,Option.map_some,Option.some.injEq,Prod.mk.injEq] at g ⊢; exact g.2.1
     obtain ⟨pv,B,H⟩:=jU W X;obtain ⟨f,O,h4,h5,h6⟩:=po x H fun p hp us D=>MS (fun i hi=>by
      have:=tk hp hi;rw [j] at this; simp at this) D
     have c:=R.buildSlice (P:=P) (n:=n) (F:=F) (w:=w) (ty:=ty) (m:=m) Z d (Fv g) B O h4 aE y;have e0:b.toList.toArray=b:=by simp
     rw [e0] at c;have U:=Kp.alloc w (.cells f.flatten.toArray e);have hml:m<=maxLen:=by
      have:=ag5 m (gN s);simp only [maxLen]; omega
     have I:Pds (cx G ρ (w.alloc (.cells f.flatten.toArray e))) (Y.flatMap (cellsOf s)) f.flatten:=h6.carry (Kp.le U);refine .inl ⟨_,_,c,U,?_,aa⟩;show Pd _ _ _;rw [<- Q];refine .fz (Nat.le_refl _) aE (by rw [Q]; exact C) I (.inr ⟨_,rfl,⟨⟨aa,fun ⟨i,r,q1,q2⟩=>by have:=(L.bnd i r _ q1 q2).2.1; simp at this,fun g=>by have:=L.z _ g; simp at this⟩,.inr ⟨_,e,(0,0),af6 w _,k,fun _=>rfl⟩⟩,?_⟩);exact cw (sp:=[]) (by rw [ad8]; exact af6 w _)
    cases h
   cases h
  cases h
 cases h
def Nk (hT:bh P shp T) {fr:AFr} {id:Nat} {e:Ent} (h:aaY T ro fr H o.op=some (id,e)) (b:Nat) (res:AH) :
  EntOK P shp n ro o ⟨true,none,.un,jg o.op++B,[],[id],[],b,res,some e,[],[],fr,H⟩ e id/\isSt o.op=true:=by
 unfold aaY at h;split at h
 ·rename_i t x y z Z;have r:jg o.op=Operand.sl x++Operand.sl y++Operand.sl z:=by rw [Z]; rfl
  have hmx:∀ U ∈ Operand.sl x,U ∈ jg o.op++B:=fun U h=>by rw [r]; simp [h]
  have hmy:∀ U ∈ Operand.sl y,U ∈ jg o.op++B:=fun U h=>by rw [r]; simp [h]
  have hmz:∀ U ∈ Operand.sl z,U ∈ jg o.op++B:=fun U h=>by rw [r]; simp [h]
  refine ⟨?_,by rw [Z]; rfl⟩;intro G ρ w F S hG hR V C;subst hG;have V:FrR (cx G ρ w) ρ (du fr (jg o.op++B)) F:=V;have C:(S[id]?).map kd=(H[id]?).map kd:=C;rw [Z]
  have fin:∀ (g:Nat) (o':AO) (i:World),ρ[id]? = some (.blk g)->(∃ o0,S[id]? = some o0)->Kp [g] w i -> ro.wr id=true->OR (cx G ρ i) ρ o' (.blk g)->Rep G ρ (S.set id o') i /\ Stp ro ρ w ρ i:=fun g o' i I ⟨o0,m⟩ d hw ho'=>by
   have W:=hR.put m I rfl d ho';refine ⟨W.1,W.2,fun _ _ _ h=>h,fun j r' hj p=>⟨p,fun gx hgx=>d.block gx (hR.bnd j r' gx p hgx).2.1 ?_⟩,fun _ _ h=>h⟩;simp only [acr];rintro rfl;have:=hR.inj j id _ _ _ p I hgx rfl;subst this; rw [hw] at hj; cases hj
  have X:∀ (g:Nat) (i:World),ρ[id]? = some (.blk g)->Kp [g] w i -> (cx G ρ w).le (cx G ρ i):=fun g i I d=>(show Ext ρ w ρ i from ⟨d.os,d.tape,d.output,d.size,fun b hb hl=>⟨hl,d.block b hb (by
   simp only [acr];rintro rfl;exact hl ⟨id,_,I,rfl⟩)⟩⟩).le hR.lo
  split at h
  ·rename_i s id' k v A hx hy hz;split at h
   ·rename_i s' f x' O hown hof;split at h
    ·rename_i hck;cases h;simp only [Bool.and_eq_true,decide_eq_true_eq] at hck;obtain ⟨⟨rfl,J⟩,hw⟩:=hck;obtain ⟨hm,hk,_⟩:=(hT _ _ A).2;rw [<- iy hmx] at hx; rw [<- iy hmy] at hy; rw [<- iy hmz] at hz;obtain ⟨va,h1,g,I,rfl⟩:=aq V hx;obtain ⟨vb,h3,h4⟩:=aq V hy;cases h4 with | int=>
     obtain ⟨vz,h5,Y⟩:=aq V hz;have hHs:=bM O aa;rw [hHs] at C;obtain ⟨o0,m,u⟩:=aeB.1 C;have K:=gJ m;obtain ⟨r',p,hor⟩:=hR.at_ m;rw [I] at p; cases p;cases o0 with
     | mapo s2 f2=>
      have u:(some (some s2):Option (Option Sh))=some (some s'):=u;have e3:s2=s':=acD (acD u);subst e3;obtain ⟨g',e,a,c,k1,k2,k3⟩:=hor;cases e;obtain ⟨i,a'',c',hsk,d,hg',hl',L⟩:=UY (P:=P) (n:=n) (ty:=o.type) h1 h3 h5 hm hk k1 k2;have D:=X g i I d;have hV:V1 (cx G ρ i) s2 x' vz:=by
       cases v with
       | c a=>
        have Y:Rd (cx G ρ w) ρ a vz:=Y;have hp:=aK (vs:=[vz]) hof (.cons (Rd.qd Y) .nil);exact ⟨[vz],hp.carry D,.inr ⟨by simpa [nM] using J,rfl⟩⟩
       | agg l=>
        obtain ⟨us,e,Y⟩:=Y;have hp:=aK hof (Y.imp fun _ _ h=>Rd.qd h);exact ⟨us,hp.carry D,.inl ⟨J,e⟩⟩
      obtain ⟨j1,j2⟩:=fin g (.mapo s2 fun j=>if j=k then some x' else f2 j) i I ⟨_,m⟩ d hw ⟨g,rfl,a'',c',hg',hl',fun q=>by
       rw [L q];show VO _ _ _ (if q=k then some x' else f2 q);by_cases N:q=k
       ·rw [if_pos N,if_pos N]; exact hV
       rw [if_neg N,if_neg N];have Q:=k3 q;cases hgm:getM q a.toList <;> cases hfk:f2 q <;> rw [hgm,hfk] at Q
       ·trivial
       ·exact Q
       ·exact Q
       exact V1.carry Q D⟩
      refine ⟨i,hsk.1,?_,j2⟩;rw [K];simpa only [Ent.put,aju] using j1
     | mapf l=>cases u
     | _=>cases u
    cases h
   cases h
  ·rename_i id' k a A hx hy hz;split at h
   ·rename_i l O hw;cases h;obtain ⟨hm,hk,_⟩:=(hT _ _ A).2;rw [<- iy hmx] at hx; rw [<- iy hmy] at hy; rw [<- iy hmz] at hz;obtain ⟨va,h1,g,I,rfl⟩:=aq V hx;obtain ⟨vb,h3,h4⟩:=aq V hy;cases h4 with | int=>
    obtain ⟨vz,h5,Y⟩:=aq V hz;have hHs:=bM O aa;rw [hHs] at C;obtain ⟨o0,m,u⟩:=aeB.1 C;have K:=gJ m;obtain ⟨r',p,hor⟩:=hR.at_ m;rw [I] at p; cases p;cases o0 with
    | mapf l2=>
     obtain ⟨g',e,a',c,k1,k2,k3⟩:=hor;cases e;obtain ⟨i,a'',c',hsk,d,hg',hl',L⟩:=UY (P:=P) (n:=n) (ty:=o.type) h1 h3 h5 hm hk k1 k2;have D:=X g i I d;obtain ⟨j1,j2⟩:=fin g (.mapf ((k,a) :: l2)) i I ⟨_,m⟩ d hw ⟨g,rfl,a'',c',hg',hl',fun q=>by
      rw [L q];simp only [lookF];by_cases N:q=k
      ·rw [if_pos N,if_pos N]; exact Rd.carry Y D (ky.refl _)
      rw [if_neg N,if_neg N];have Q:=k3 q;cases hgm:getM q a'.toList <;> cases hfk:lookF q l2 <;> rw [hgm,hfk] at Q
      ·trivial
      ·exact Q
      ·exact Q
      exact Rd.carry Q D (ky.refl _)⟩
     refine ⟨i,hsk.1,?_,j2⟩;rw [K];exact j1
    | mapo s f=>cases u
    | _=>cases u
   cases h
  cases h
 cases h
theorem Cb (hT:bh P shp T) (g:aA P shp O) {j:AFr} {k:AH} {op:Op} {x:XR}:∀ {l:List (List Nat × List Nat)},SP T O ro j k op l=some x->∀ (G:Gl) (ρ:List RE) (w:World) (F:Fr) (ty:TypeId),G.shp=shp->Rep G ρ k w->FrR (cx G ρ w) ρ j F->(∀ p ∈ x.ob,p) ->
  eK P n F w op ty fun u b=>∃ a,Stp ⟨fun i=>cd i x.ch && ro.wr i,fun i=>cd i x.mv && ro.mv i⟩ ρ w a b /\ Rep G a x.res b /\ Rt (cx G a b) a x.v u/\∀ p ∈ x.fc,p
 | (m,s) :: r,h,G,ρ,w,F,ty,t,y,z,c=>by
  simp only [SP] at h;split at h
  ·rename_i q C;cases h;subst t;have:=Nh (n:=n) (ty:=ty) hT g y z C c;have d:∀ u b,eN G ⟨fun i=>cd i m && ro.wr i,fun i=>cd i s && ro.mv i⟩ ρ w q F u b -> ∃ a,Stp ⟨fun i=>cd i m && ro.wr i,fun i=>cd i s && ro.mv i⟩ ρ w a b /\ Rep G a q.H b /\ Rt (cx G a b) a q.v u/\∀ p ∈ q.fc,p:=fun u b ⟨a,e,f,_,D,I⟩=>⟨a,e,f,D,I⟩;rcases this with h | ⟨J,b,e,f⟩
   ·exact .inl (h.mono d)
   exact .inr ⟨J,b,e,d _ _ f⟩
  exact Cb hT g h G ρ w F ty t y z c
variable {i:Nat}
def RcOK.ext {b a:List RC} {r:RC} (h:RcOK P shp n ro l b o i r) (d:∀ j,j<i->a[j]? = b[j]?):RcOK P shp n ro l a o i r:=
 ⟨h.dst,h.dn,h.st,h.run,h.off,h.gd.imp id fun ⟨j,e,t,f,g,k,m⟩=>⟨j,e,t,f,g,k,m.imp (fun ⟨p,q,c,s,u⟩=>⟨p,by rw [d j c]; exact q,c,s,u⟩) id⟩⟩
theorem tu:∀ {rs:List RC} {j:Nat},aa2 rs j=false->∃ r,rs[j]? = some r/\r.on=false/\j<rs.length
 | r :: _,0,h=>⟨r,rfl,h,aa⟩
 | r :: rs,j+1,h=>by
  obtain ⟨a,b,c,d⟩:=tu (rs:=rs) h;grind
def Chain0:AFr × AH->List RC->Prop
 | _,[]=>True
 | q,r :: a=>r.fr0=q.1/\r.H0=q.2/\Chain0 (r.app q) a
theorem Chain0.Nc:∀ {a b:List RC} {p:AFr × AH},Chain0 p (a++b)↔Chain0 p a/\Chain0 (prg a p) b
 | [],b,p=>by simp [Chain0,prg]
 | r :: a,b,p=>by simp only [List.cons_append,Chain0,prg,Chain0.Nc (a:=a),and_assoc]
def Chain0.fit:∀ {a:List RC} {p:AFr × AH},Chain0 p a->(∀ r ∈ a,r.Fit)->fQ p a
 | [],_,_,_=>trivial
 | r :: a,_,h,b=>⟨h.1,h.2.1,b r aa,h.2.2.fit fun x c=>b x (by simp [c])⟩
structure Walk (P:Program) (shp:TypeId->Option Sh) (n:Nat) (ro:Lv) (l:List Oper) (q0:AFr × AH) (i:Nat) (done:List RC) (q:AFr × AH):Prop where
 len:done.length=i
 ch:Chain0 q0 done
 st:prg done q0=q
 ok:∀ j o r,l[j]? = some o->done[j]? = some r->RcOK P shp n ro l done o j r
variable {done:List RC}
def Walk.next {g q:AFr × AH} (h:Walk P shp n ro l g i done q) (m:l[i]? = some o) {r:RC} (p:r.fr0=q.1) (s:r.H0=q.2) (t:RcOK P shp n ro l done o i r):Walk P shp n ro l g (i+1) (done++[r]) (r.app q):=by
 have b:∀ j,j<i->(done++[r])[j]? = done[j]?:=fun j c=>List.getElem?_append_left (by rw [h.len]; exact c);refine ⟨by simp [h.len],Chain0.Nc.2 ⟨h.ch,by rw [h.st]; exact ⟨p,s,trivial⟩⟩,by rw [yz,h.st]; rfl,fun j u v c a=>?_⟩;by_cases d:j<i
 ·rw [b j d] at a;exact (h.ok j u v c a).ext fun k x=>b k aE
 have f:=(aaw.1 a).1;simp [h.len] at f;have e:j=i:=by omega
 subst e;rw [afS (by rw [h.len]; exact Nat.le_refl _),h.len,Nat.sub_self] at a;simp at a; subst a;rw [m] at c; cases c;exact t.ext b
theorem BD {b:List Nat}:∀ {a done:List RC} {j:Nat},DD b j done a=true->∀ r ∈ a,r.Fit
 | [],_,_,_,r,h=>by simp at h
 | x :: a,done,j,h,r,hr=>by
  simp only [DD,Bool.and_eq_true] at h;obtain ⟨⟨⟨⟨⟨⟨⟨⟨⟨c,d⟩,_⟩,_⟩,_⟩,_⟩,_⟩,_⟩,_⟩,e⟩:=h;rcases acw.1 hr with rfl | hr
  ·exact ⟨aaF c,afL d⟩
  exact BD e r hr
def adG {fr:AFr} (h:pv T O H fr op=some r):isSt op=false:=by cases op <;> first | rfl | simp [pv,pvB,pvX] at h
def Vg {fr:AFr} (h:Jn T fr H op=some r):isSt op=false:=by cases op <;> first | rfl | simp [Jn] at h
def Wf {fr:AFr} {r:MpR} (h:mapA T H fr op=some r):isSt op=false:=by cases op <;> first | rfl | simp [mapA] at h
def mO {j:Nat} {a:Bool} {t:Nat} (h:idst l j=some t):t ∈ ic l (some (j,a)):=by simp [ic,h]
def OH {fr:AFr} {g:Option (Nat × Bool)} (h:tg l fr done g=some true):g=none\/∃ j a t,g=some (j,a)/\idst l j=some t/\t ∈ ic l g/\∃ b,lookA fr t=some (one (.bool (.lit b)))/\true=(b == a):=by
 cases g with
 | none=>exact .inl rfl
 | some g=>
  obtain ⟨j,a⟩:=g;right;simp only [tg] at h;split at h
  ·rename_i t c;split at h
   ·cases h
   ·rename_i b _ d;exact ⟨j,a,t,rfl,c,mO c,b,d,(acD h).symm⟩
   cases h
  cases h
def IY {fr:AFr} (p:done.length=i) {g:Option (Nat × Bool)} (h:tg l fr done g=some false):∃ j a t,g=some (j,a)/\idst l j=some t/\t ∈ ic l g/\((∃ d,done[j]? = some d/\j<i/\d.on=false/\false=false)\/∃ b,lookA fr t=some (one (.bool (.lit b)))/\false=(b == a)):=by
 cases g with
 | none=>cases h
 | some g=>
  obtain ⟨j,a⟩:=g;simp only [tg] at h;split at h
  ·rename_i t c;split at h
   ·rename_i e;obtain ⟨r,f,k,q⟩:=tu e;exact ⟨j,a,t,rfl,c,mO c,.inl ⟨r,f,aE,k,rfl⟩⟩
   ·rename_i b _ m;exact ⟨j,a,t,rfl,c,mO c,.inr ⟨b,m,(acD h).symm⟩⟩
   cases h
  cases h
theorem drop_cons {a:List Oper} (h:l.drop i=o :: a):l[i]? = some o/\l.drop (i+1)=a:=by
 constructor
 ·have:=congrArg (·[0]?) h;grind
 have:=congrArg (List.drop 1) h;simpa [af5,Nat.add_comm] using this
theorem Gf (hT:bh P shp T) (hO:aA P shp O) {K:AFr->AH->Prop} {q0:AFr × AH}:∀ (m i:Nat) (c:List Oper) (fr:AFr) (H:AH) (done:List RC),l.drop i=c->i<=l.length->kB n c=true->Walk P shp n ro l q0 i done (fr,H)->Rk T O ro l K m i c fr H done ->
  ∃ L,Walk P shp n ro l q0 l.length L (prg L q0)/\okR l L=true/\uB (obR L (iR [] l) L) (kL (fcR L) (K (uL (prg L q0).1 []) (prg L q0).2))
 | 0,_,_,_,_,_,_,_,_,_,h=>h.elim
 | m+1,i,[],fr,H,done,hd,hil,_,Z,h=>by
  simp only [Rk] at h;have hi:i=l.length:=by
   have:=congrArg List.length hd;simp at this; omega
  subst hi;split at h
  ·rename_i hok;refine ⟨done,by rw [Z.st]; exact Z,hok,?_⟩;rw [Z.st]; exact h
  exact h.elim
 | m+1,i,o :: c,fr,H,done,hd,hil,S,Z,h=>by
  obtain ⟨ho,hd2⟩:=drop_cons hd;have hil2:i+1<=l.length:=(aaw.1 ho).1;have g:∀ d,o.dst=some d->Nat.blt d n=true:=fun d hdd=>k_ S o aa d hdd;have hdr:kB n c=true:=by simp only [kB,Bool.and_eq_true] at S; exact S.2
  have V:=fun W (hrc:RcOK P shp n ro l done o i W) (h1:W.fr0=fr) (h2:W.H0=H) (h:Rk T O ro l K m (i+1) c (W.app (fr,H)).1 (W.app (fr,H)).2 (done++[W]))=>Gf hT hO m (i+1) c _ _ _ hd2 hil2 hdr (Z.next ho h1 h2 hrc) h;simp only [Rk] at h;split at h
  ·-- it is not run
   rename_i hg;obtain ⟨j,wt,t,h1,h2,h3,h4⟩:=IY Z.len hg;exact V _ ⟨rfl,g,(fun h=>by cases h),(fun h=>by cases h),fun _=>⟨rfl,rfl,rfl,rfl,rfl,rfl,rfl⟩,.inr ⟨j,wt,t,h1,h2,h3,h4⟩⟩ rfl rfl h
  ·-- it is run
   rename_i hg;have s:∀ U,(o.guard=none/\true=true)\/∃ j wt t,o.guard=some (j,wt)/\idst l j=some t/\t ∈ U++ic l o.guard/\((∃ rj,done[j]? = some rj/\j<i/\rj.on=false/\true=false)\/∃ b,lookA fr t=some (one (.bool (.lit b)))/\true=(b == wt)):=fun U=>by
    rcases OH hg with h | ⟨j,wt,t,h1,h2,h3,h4⟩
    ·exact .inl ⟨h,rfl⟩
    exact .inr ⟨j,wt,t,h1,h2,acB _ h3,.inr h4⟩
   split at h
   ·-- a pick
    rename_i t x y hop;split at h
    ·rename_i b hlk;split at h
     ·rename_i v hev;obtain ⟨v',h,X⟩:=rF h;refine V _ ⟨rfl,g,(fun _ z=>by rw [hop] at z; cases z),fun _=>.inl ⟨rfl,?_⟩,(fun h=>by cases h),s _⟩ rfl rfl h;refine pure_run (A:=t :: Operand.sl (cond b x y)) (σ:=[]) (v:=v) X (fun G ρ w F N Q C _=>?_) _;have e1:lookA (du fr (t :: Operand.sl (cond b x y))) t=some (one (.bool (.lit b))):=by rw [gS aa]; exact hlk
      obtain ⟨vt,k1,k2⟩:=eH C e1;have k2:=Hp k2;subst k2;rw [<- iy (U:=t :: Operand.sl (cond b x y)) (fun t' ht=>by simp [ht])] at hev;obtain ⟨u,k3,k4⟩:=aq C hev;rw [hop];refine .inl ⟨u,w,?_,Kp.refl w,k4,aa⟩;cases b with
      | true=>exact R.AL k1 rfl k3
      | false=>exact R.CB k1 rfl k3
     exact h.elim
    exact h.elim
   split at h
   ·-- an entry is put
    rename_i id e hins;obtain ⟨k1,k2⟩:=Nk (P:=P) (n:=n) hT (B:=ic l o.guard) hins H.length (maskH [] 0 H);split at h
    ·rename_i W k;refine V _ ⟨k.symm,g,fun _ _=>k,fun _=>.inr ⟨e,id,rfl,rfl,rfl,rfl,rfl,by rw [oY],k2,k1⟩,(fun h=>by cases h),s _⟩ rfl rfl h
    exact h.elim
   split at h
   ·-- a map of functions
    rename_i mr hmp;obtain ⟨v',h,X⟩:=rF (m_ h);refine V _ ⟨rfl,g,(fun _ z=>by rw [Wf hmp] at z; cases z),fun _=>.inl ⟨rfl,?_⟩,(fun h=>by cases h),s _⟩ rfl rfl h;refine pure_run X (fun G ρ w F N Q C _=>?_) _;subst N;obtain ⟨u,j1,j2⟩:=AA (n:=n) (ty:=o.type) hT Q C hmp;exact .inl ⟨u,w,j1,Kp.refl w,j2,aa⟩
   split at h
   ·rename_i r D;obtain ⟨v',h,X⟩:=rF h;have hr0:=D;unfold adI at D;dsimp only at D;split at D
    ·rename_i r' q;replace q:=aao T O q;cases D;refine V _ ⟨rfl,g,(fun _ z=>by rw [Vg q] at z; cases z),fun _=>.inl ⟨rfl,?_⟩,(fun h=>by cases h),s _⟩ rfl rfl h;exact pure_run X (fun G ρ w F N Q C _=>QQ hT N Q C q) _
    split at D
    ·rename_i r' hpv;cases D;refine V _ ⟨rfl,g,(fun _ z=>by rw [adG hpv] at z; cases z),fun _=>.inl ⟨rfl,?_⟩,(fun h=>by cases h),s _⟩ rfl rfl h;exact pure_run X (fun G ρ w F N Q C Y=>by subst N; exact ua hT hO Q C hpv Y) _
    split at D
    ·rename_i I;refine V _ ⟨rfl,g,(fun _ z=>by
      unfold UP at I;rw [z] at I;cases k:o.dst with
      | none=>rfl
      | some d=>rw [k] at I; cases I),fun _=>.inl ⟨rfl,?_⟩,(fun h=>by cases h),s _⟩ rfl rfl h
     intro G ρ w F N Q C Y;refine zi C fun FA hfA=>?_;have hk:=Cb (n:=n) hT hO D G ρ w FA o.type N Q hfA Y;have key:∀ u J,(∃ f,Stp ⟨fun i=>cd i r.ch && ro.wr i,fun i=>cd i r.mv && ro.mv i⟩ ρ w f J /\ Rep G f r.res J /\ Rt (cx G f J) f r.v u/\∀ p ∈ r.fc,p)->∃ f,Stp ⟨fun i=>cd i r.ch && ro.wr i,fun i=>cd i r.mv && ro.mv i⟩ ρ w f J /\ Rep G f r.res J /\ Rt (cx G f J) f v' u/\∀ p ∈ r.fc,p:=fun u J ⟨f,j1,j2,j3,j4⟩=>⟨f,j1,j2,X _ _ _ j3,j4⟩;rcases hk with hk | ⟨h0,J,j1,j2⟩
     ·exact .inl (hk.mono key)
     exact .inr ⟨h0,J,j1,key _ _ j2⟩
    cases D
   exact h.elim
  exact h.elim
end
section
variable {P:Program} {T:List (Nat × TI)} {G:Gl} {O:bP} {n k:Nat} {l:List Oper} {ρ:List RE} {H:AH} {fr:AFr} {F:Fr} {ds:List DV} {vs:Nat->Value} {f g:DV->Value->World->Prop}
def pM (ds:List DV) (f:DV->Value->World->Prop):List Sp:=ds.map fun a=>⟨a.deps,[],f a⟩
variable {a:DV} {i:Nat}
def qK (h:ds[i]? = some a):spAt (pM ds f) i=⟨a.deps,[],f a⟩:=by
 simp [spAt,pM,h]
theorem JJ:(spAt (pM ds f) i).deps=((ds[i]?).map DV.deps).getD []:=by
 cases h:ds[i]? with
 | none=>simp [spAt,pM,h]
 | some a=>rw [qK h]; rfl
def Pc {b:List Nat}:mo l (pM ds f) b k=mo l (pM ds g) b k:=by
 simp only [mo,JJ];simp only [pM,List.length_map]
theorem ur:∀ {ds:List DV},DA (pM ds f)=[]
 | []=>rfl
 | _ :: r=>ur (ds:=r)
theorem su:∀ {ds:List DV} {i:Nat},tW (pM ds f) i=[]
 | [],_=>rfl
 | _ :: r,0=>ur (ds:=r)
 | _ :: r,i+1=>su (ds:=r) (i:=i)
theorem EH (h:∀ a u w b,f a u w->Kp [] w b -> f a u b):∀ {r:List DV} {i:Nat},nk (pM ds f) i (pM r f)
 | [],_=>trivial
 | a :: r,i=>⟨fun u w b c d=>h a u w b c (by rwa [su] at d),EH h (r:=r)⟩
theorem Om {Q:List Sp} {w:World}:∀ {r:List Oper} {i:Nat},(∀ j o,r[j]? = some o->∀ vs b,Kp (tW Q (i+j)) w b->gj Q vs b (spAt Q (i+j)).deps->WO P (qf n (idst l (i+j)) (spAt Q (i+j)).S (spAt Q (i+j)).V b) n l [o] (dz l F vs (spAt Q (i+j)).deps) b)->th P n l Q F w i r
 | [],_,_=>trivial
 | o :: r,i,h=>⟨h 0 o rfl,Om fun j c d=>by
  have:=h (j+1) c (by simpa using d);rwa [show i+(j+1)=i+1+j by omega] at this⟩
theorem vS:∀ {r:List Oper} {p ds:List DV},xe T O H fr r p=some ds->(∃ q,ds=p++q/\q.length=r.length)/\∀ i o,r[i]? = some o->∃ a,ds[p.length+i]? = some a/\tZ T O H fr (ds.take (p.length+i)) o=some a
 | [],p,ds,h=>by cases h; exact ⟨⟨[],aa⟩,fun i o c=>by simp at c⟩
 | o :: r,p,ds,h=>by
  simp only [xe] at h;split at h
  ·rename_i a v;obtain ⟨⟨q,m,s⟩,t⟩:=vS h;refine ⟨⟨a :: q,by rw [m]; simp,by simp [s]⟩,fun i u c=>?_⟩;cases i with
   | zero=>
    grind
   | succ i=>
    obtain ⟨b,d,j⟩:=t i u (by simpa using c);have e:(p++[a]).length+i=p.length+(i+1):=by simp; omega
    rw [e] at d j;exact ⟨b,d,j⟩
  cases h
theorem vY {p:List DV} {o:Oper} (h:tZ T O H fr p o=some a):o.dst=some a.d/\∃ b,a.deps=d_ b 0 p:=by
 unfold tZ at h;grind
theorem tx {Q:List Sp} {w:World}:∀ {deps:List Nat},gj Q vs w deps->∀ j ∈ deps,(spAt Q j).V (vs j) w
 | i :: r,h,j,hj=>by
  rcases acw.1 hj with rfl | hj
  ·exact h.1
  exact tx h.2 j hj
theorem Cn:∀ {ds:List DV} {i:Nat} {a:DV},ds[i]? = some a->∀ q ∈ a.ob,q ∈ ZA ds
 | b :: r,0,a,h,q,c=>by simp at h; subst h; exact acz _ c
 | b :: r,i+1,a,h,q,c=>acB _ (Cn (ds:=r) (i:=i) (by simpa using h) q c)
theorem Ci:∀ {ds:List DV} {q:Prop},q ∈ VW ds->∃ (i:Nat) (a:DV),ds[i]? = some a/\q ∈ a.fc
 | b :: r,q,h=>by
  rcases acq.1 h with h | h
  ·exact ⟨0,b,rfl,h⟩
  obtain ⟨i,a,c,d⟩:=Ci h;exact ⟨i+1,a,by simpa using c,d⟩
theorem AB {c:Cx} {D:Fr} (j:FrR c ρ fr F) (m:∀ i v,look F i=some v->look D i=some v):∀ {r:List DV},(∀ a ∈ r,a.ch=[]->∃ u,look D a.d=some u/\Rt c ρ a.v u)->∃ e,FrR c ρ (zy r fr) e /\ ∀ i v,look e i=some v->look D i=some v
 | [],_=>⟨F,j,m⟩
 | a :: r,h=>by
  obtain ⟨e,o,w⟩:=AB j m (r:=r) fun b p=>h b (by simp [p]);unfold zy;split
  ·rename_i q;obtain ⟨u,x,s⟩:=h a aa q;refine ⟨(a.d,u) :: e,.cons ⟨rfl,s⟩ o,fun i v t=>?_⟩;rw [aW] at t;grind
  grind
theorem uk {i:Nat}:∀ {deps:List Nat},(∀ j ∈ deps,idst l j≠some i)->look (dz l F vs deps) i=look F i
 | [],_=>rfl
 | j :: r,h=>by
  have b:=uk (i:=i) (deps:=r) fun j c=>h j (by simp [c]);unfold dz;split
  ·rename_i d m;rw [aW,if_neg (fun e=>h j aa (by rw [m,e]))];exact b
  exact b
def Oq {c:Cx} (b:FrR c ρ fr F):fr.map (·.1)=F.map (·.1):=by
 induction b with
 | nil=>rfl
 | cons h _ d=>simp [h.1,d]
end
theorem Ha {s:Nat->Bool}:∀ {a:List RC} {k:Nat} {q:AFr × AH},(∀ i,k<=i->i<k+a.length->s i=true)->iT s k a q=prg a q
 | [],_,_,_=>rfl
 | r :: a,k,q,h=>by
  simp only [iT];rw [h k (Nat.le_refl _) aa,cond_true];exact Ha fun i c b=>h i aE (by simp at b ⊢; omega)
theorem zC:∀ {rs:List RC} {k:Nat} {q:AFr × AH},∃ m,iT (fun _=>false) k rs q=(q.1,q.2++List.replicate m .gone)
 | [],_,q=>⟨0,by simp [iT]⟩
 | r :: rs,k,q=>by
  obtain ⟨m,h⟩:=zC (rs:=rs) (k:=k+1) (q:=r.IX q);refine ⟨(r.res.length - r.base)+m,?_⟩;simp only [iT,cond_false];rw [h];simp only [RC.IX,List.append_assoc,List.replicate_append_replicate]
variable {G:Gl} {H:AH} {w:World}
theorem Rep.ahs (h:Rep G ρ H w) (m:Nat):Rep G (ρ++List.replicate m RE.no) (H++List.replicate m .gone) w/\(cx G ρ w).le (cx G (ρ++List.replicate m RE.no) w)/\ky ρ (ρ++List.replicate m RE.no)/\∀ x,Stp x ρ w (ρ++List.replicate m RE.no) w:=by
 have c:∀ i r,(ρ++List.replicate m RE.no)[i]? = some r->r≠RE.no->ρ[i]? = some r:=fun i r q B=>by
  by_cases s:i<ρ.length
  ·rw [List.getElem?_append_left s] at q; exact q
  grind
 have t:∀ b,live (ρ++List.replicate m RE.no) b->live ρ b:=fun b ⟨i,r,l,e⟩=>⟨i,r,c i r l (by rintro rfl; cases e),e⟩;have a:Ext ρ w (ρ++List.replicate m RE.no) w:=⟨rfl,rfl,rfl,Nat.le_refl _,fun b _ s=>⟨fun k=>s (t b k),rfl⟩⟩;have f:=gk ρ (List.replicate m .no);refine ⟨⟨?_,fun i j r u g l e y A=>h.inj i j r u g (c i r l (by rintro rfl; cases y)) (c j u e (by rintro rfl; cases A)) y A,fun i r g l e=>h.bnd i r g (c i r l (by rintro rfl; cases e)) e,h.z,h.b0,h.tb.carry (a.le h.lo)⟩,a.le h.lo,f,fun x=>⟨a,fun i r _ d=>?_,fun i r _ d=>⟨?_,fun _ _=>rfl⟩,fun i g C=>f i _ C aa⟩⟩
 ·refine All2.append (cA h.obj.length fun i o r n d=>?_) ?_
  ·obtain ⟨u,p,v⟩:=h.at_ n;rw [d] at p; cases p;exact v.carry (a.le h.lo) f fun _ _=>rfl
  refine cA aa fun i o r n d=>?_;rw [List.getElem?_replicate] at n d;by_cases q:i<m
  ·rw [if_pos q] at n d; cases n; cases d; rfl
  grind
 ·grind
 rw [List.getElem?_append_left (aaw.1 d).1]; exact d
theorem oI {t:Nat} {v:TV}:∀ {fr:AFr} {l:List Nat},(t,v) ∈ uL fr l->t ∉ l/\lookA fr t=some v
 | (i,x) :: r,l,h=>by
  simp only [uL] at h;cases b:cd i l <;> rw [b] at h
  ·rcases acw.1 h with e | h
   ·cases e;refine ⟨fun d=>?_,by rw [dw,if_pos rfl]⟩;rw [bw.2 d] at b; cases b
   obtain ⟨a,c⟩:=oI h;simp only [acw,not_or] at a;exact ⟨a.2,by rw [dw,if_neg (fun e=>a.1 e.symm)]; exact c⟩
  obtain ⟨a,c⟩:=oI h;refine ⟨a,?_⟩;rw [dw,if_neg]
  ·exact c
  rintro rfl; exact a (bw.1 b)
theorem vB {m:Nat} {p:Prop}:∀ {a:List RC} {k:Nat},p ∈ Cp m k a->∃ j r,a[j]? = some r/\bitN m (k+j)=true/\p ∈ r.fc
 | r :: a,k,h=>by
  simp only [Cp,acq] at h;rcases h with h | h
  ·cases b:bitN m k <;> rw [b] at h
   ·simp at h
   exact ⟨0,r,rfl,b,h⟩
  obtain ⟨j,c,d,f,e⟩:=vB h;exact ⟨j+1,c,by simpa using d,by rwa [show k+(j+1)=k+1+j by omega],e⟩
theorem KH {c:List RC}:∀ {a:List Nat} {d:List RC},a.length=d.length->(∀ p ∈ obR c a d,p)->∀ i r,d[i]? = some r->(∀ p ∈ Cp (a.getD i 0) 0 c,p)->∀ p ∈ r.ob,p
 | _,[],_,_,i,r,h,_=>by simp at h
 | m :: a,b :: d,n,h,i,r,e,k=>by
  cases i with
  | zero=>
   simp at e; subst e;intro p f;have l:=fun q g=>h q (acz _ g);cases j:b.ob with
   | nil=>rw [j] at f; simp at f
   | cons x y=>
    rw [j] at l;exact ew.1 (ez.1 (l _ (aaZ _)) k) p (by rw [<- j]; exact f)
  | succ i=>
   exact KH (by simpa using n) (fun q g=>h q (acB _ g)) i r (by simpa using e) (by simpa using k)
theorem Gw:∀ {a:List RC} {p:Prop},p ∈ fcR a->∃ (j:Nat) (r:RC),a[j]? = some r/\p ∈ r.fc
 | r :: a,p,h=>by
  simp only [fcR,acq] at h;rcases h with h | h
  ·exact ⟨0,r,rfl,h⟩
  obtain ⟨j,b,c,d⟩:=Gw h;exact ⟨j+1,b,by simpa using c,d⟩
variable {P:Program} {T:List (Nat × TI)} {O:bP}
theorem CM {n:Nat} {e:Lv} {l:List Oper} {c:List RE} {V:World} {Q:Exit->Act->World->Prop} {id:Nat} (hT:bh P G.shp T) (hO:aA P G.shp O) (hm:P.follows .mixedOrders=true) (W:∀ i,e.wr i=false\/e.mv i=false->i<c.length) {K:AFr->AH->Prop} {fr:AFr} {F:Fr} (hd:kB n l=true)
  (h:ZC T O e l K fr H) (X:St G e c V fr H F w) (hK:∀ fr H F w,K fr H->St G e c V fr H F w->WX Q n .normal F w):WC P Q n (.region id l.toArray true) F w:=by
 obtain ⟨ρ,Y,Z,hf⟩:=X;obtain ⟨rs,hw,d,A⟩:=Gf (n:=n) hT hO _ 0 l fr H [] aa (af3 _) hd ⟨rfl,trivial,rfl,fun j o r _ hr=>by simp at hr⟩ h;simp only [okR,Bool.and_eq_true] at d;obtain ⟨⟨f,b⟩,d⟩:=d;have b:=aaF b;have f:∀ i,∀ j ∈ bG l i,j<i:=fun i j hj=>by have:=pQ f i j hj; omega
 have hc:=hw.ch.fit (BD d);obtain ⟨C,D⟩:=js.1 A;have hbl:(iR [] l).length=rs.length:=by rw [za,b]; simp
 have hq0:∀ i,i<c.length->(e.wr i=false\/e.mv i=false)->i<H.length:=fun i hi hh=>by
  rw [Z.obj.length];have I:=List.getElem?_eq_getElem hi;rcases hh with hh | hh
  ·exact (aaw.1 (Y.pro i _ hh I).1).1
  exact (aaw.1 (Y.loc i _ hh I)).1
 intro a ha;refine ad6 hm (Inv:=Tl G e c V n (fr,H) rs) f (fun s a w h=>by obtain ⟨_,_,_,_,h,_⟩:=h; exact h) (fun s a w i o inv ho hsi J hcl=>?_) (fun s a w inv g=>?_) ?_
 ·refine My rfl W hq0 f hc d b hw.ok (fun i r hr hfc=>KH hbl C i r hr fun p f=>?_) inv ho hsi J hcl;obtain ⟨j,r',y,z,L⟩:=vB f;rw [acC] at z;exact hfc j r' y z p L
 ·obtain ⟨ρ',k1,k2,k3,k4,k5,k6⟩:=inv;rw [Ha fun i _ hi=>g i aE] at k2 k3;have hk:=ez.1 D fun p f=>by
   obtain ⟨j,r,y,z⟩:=Gw f;exact (k6 j r y (g j (by have:=(aaw.1 y).1; omega))).1 p z
  refine hK _ _ (AG a (uL (prg rs (fr,H)).1 [])) w hk ⟨ρ',k1,k2,qM fun q hq=>(k3 q.1 q.2 (oI hq).2).2⟩ a ⟨k4,k5,fun i v S=>?_⟩;obtain ⟨y,U,z⟩:=pj S;have L:lookA (prg rs (fr,H)).1 i=some U:=by
   have:∀ {fr:AFr} {l:List Nat},lookA (uL fr l) i=some U->(i,U) ∈ uL fr l:=by
    intro fr l;generalize uL fr l=x;induction x with
    | nil=>intro h; cases h
    | cons q r ih=>
     obtain ⟨j,u⟩:=q;rw [dw];split
     ·grind
     grind
   exact (oI (this z)).2
  exact ⟨(k3 i U L).1,y.symm⟩
 obtain ⟨m,N⟩:=zC (rs:=rs) (k:=0) (q:=(fr,H));have B:Kp [] w { w with drawn:=w.drawn+1 }:=(Kp.refl w).drew;obtain ⟨g1,g2,g3,g4⟩:=(Z.kp B).ahs m;refine ⟨_,(Y.trans (Stp.kp Z B)).trans (g4 e),by rw [N]; exact g1,fun t v S=>?_,ha.1,ha.2.1,fun k r _ hk=>by cases hk⟩;rw [N] at S;obtain ⟨u,y,z⟩:=eH (hf.kp B) S;obtain ⟨L,h4⟩:=ha.2.2 t u y;exact ⟨L,by rw [h4]; exact z.carry g2 g3⟩
def od {shp:TypeId->Option Sh} (hT:bh P shp T) (hO:aA P shp O) (hm:P.follows .mixedOrders=true):xF P shp T O:=by
 intro G n ro ρ0 w0 U V Q k0 id L c K fr H F w hd h hst hK;subst U;obtain ⟨ρ,hS,W,X⟩:=hst;simp only [jb] at h;generalize Qj T O H fr c.toList [] 0=k at h;split at h
 ·rename_i ds hds;split at h
  ·rename_i hB;obtain ⟨hob,h⟩:=js.1 h;rw [ez] at h;have Y:mo c.toList (pM ds fun a u w=>DVal G ρ ds a u w) (F.map (·.1)) k=true:=by
    rw [Pc (g:=fun _ _ _=>True),<- Oq X]; exact hB
   have Z:=Y;simp only [mo,Bool.and_eq_true,decide_eq_true_eq,List.all_eq_true,List.mem_range,Bool.or_eq_true] at Z;obtain ⟨⟨⟨⟨hnl,hsp⟩,hops⟩,_⟩,_⟩:=Z;have hdl:ds.length=k:=by simpa [pM] using hsp
   obtain ⟨_,N⟩:=vS hds;simp only [List.length_nil,acC] at N;have x:∀ i a,ds[i]? = some a->i<k:=fun i a h=>by rw [<- hdl]; exact (aaw.1 h).1
   have s:∀ (j:Nat) (a:DV),ds[j]? = some a->idst c.toList j=some a.d:=fun j a t=>by
    have y:=x j a t;have hjl:j<c.toList.length:=by omega
    obtain ⟨b,S,h2⟩:=N j (c.toList[j]) (by rw [afF,if_pos y,List.getElem?_eq_getElem hjl]);rw [t] at S; cases S;rw [kj,List.getElem?_eq_getElem hjl];exact (vY h2).1
   have z:∀ (j:Nat) (a:DV),ds[j]? = some a->a.d ∉ F.map (·.1)/\∀ i,i<k->i=j\/idst c.toList i≠some a.d:=fun j a t=>by
    have:=(hops j (x j a t)).2;rw [s j a t] at this;simp only [Bool.and_eq_true,Bool.not_eq_true',List.all_eq_true,List.mem_range,Bool.or_eq_true,beq_iff_eq,bne_iff_ne,List.contains_eq_mem,decide_eq_false_iff_not] at this;exact this
   have A:∀ (i j:Nat) (a b:DV),ds[i]? = some a->ds[j]? = some b->a.d=b.d->i=j:=fun i j a b t hb he=>by
    rcases (z j b hb).2 i (x i a t) with h | h
    ·exact h
    rw [s i a t,he] at h; exact absurd rfl h
   have e:c=c.toList.toArray:=by simp
   have hdt:kB n (c.toList.take k)=true/\kB n (c.toList.drop k)=true:=by
    rw [<- oq,List.take_append_drop]; exact hd
   rw [e];refine WC.wU hm _ k Y (EH (f:=fun a u w=>DVal G ρ ds a u w) (ds:=ds) (r:=ds) fun a u w w' h B=>DVal.kp h B) (Om fun j o ho vs w1 B m=>?_) fun vs w1 B m=>?_
   ·rw [acC] at B m ⊢;rw [su] at B;obtain ⟨a,t,C⟩:=N j o ho;rw [qK t] at m ⊢;obtain ⟨hod,sl,hsl⟩:=vY C;rw [s j a t];refine (Uf (l:=c.toList) (vs:=vs) hT hO C ⟨fun i b hb=>(yH hb).1,s,A,fun i hi=>?_⟩ (fun ch g=>zh) (fun q hq=>hob q (Cn t q hq)) (k_ hdt.1 o (acA ho)) (W.kp B) (X.kp B)).2;have hv:=tx m i hi;rw [hsl] at hi;obtain ⟨i',b,e1,e2,_⟩:=fp.1 hi;rw [acC] at e1; subst e1;rw [qK (yH e2).1] at hv;exact ⟨b,e2,hv⟩
   rw [ur] at B;have I:∀ j a,ds[j]? = some a->DVal G ρ ds a (vs j) w1:=fun j a t=>by
    have:=tx m j (List.mem_range.2 (x j a t));rwa [qK t] at this
   have hctx:DCtx G ρ c.toList ds vs ds (List.range k) w1:=⟨fun _ _ h=>h,s,A,fun j y=>by
    have y:=List.mem_range.1 y;have J:j<ds.length:=by omega
    exact ⟨_,List.getElem?_eq_getElem J,I j _ (List.getElem?_eq_getElem J)⟩⟩
   have hfc:∀ p ∈ VW ds,p:=fun p hp=>by
    obtain ⟨i,a,S,h2⟩:=Ci hp;exact (I i a S).1 p h2
   obtain ⟨F',S,h2⟩:=AB (D:=dz c.toList F vs (List.range k)) (X.kp B) (fun i v hv=>by
    rw [uk fun j y he=>?_]
    ·exact hv
    ·have y:=List.mem_range.1 y;have J:j<ds.length:=by omega
     have:=s j _ (List.getElem?_eq_getElem J);rw [he] at this;have h3:=(z j _ (List.getElem?_eq_getElem J)).1;rw [<- acD this] at h3;exact h3 (ahE.2 (yR hv))) (r:=ds) (fun a t hc=>by
    obtain ⟨j,y⟩:=List.getElem?_of_mem t;refine ⟨vs j,hctx.look (List.mem_range.2 (x j a y)) y,(I j a y).2.1 ?_⟩;rw [hc];exact fun q hq=>by simp at hq)
   have:=l_ (Q:=Q) (l:=c.toList) hT hO hK _ _ _ _ F' w1 hdt.2 (h hfc) ⟨ρ,hS.trans (Stp.kp W B),W.kp B,S⟩;exact fun a t=>this a (t.sub h2)
  have e:c=c.toList.toArray:=by simp
  rw [e];exact CM hT hO hm V hd h ⟨ρ,hS,W,X⟩ hK
 have e:c=c.toList.toArray:=by simp
 rw [e];exact CM hT hO hm V hd h ⟨ρ,hS,W,X⟩ hK
def ak:List (Nat × TI)->TypeId->Option Sh
 | [],_=>none
 | (_,⟨.sl e (some s),_,_⟩) :: r,t=>bif Nat.beq e t then some s else ak r t
 | _ :: r,t=>ak r t
def fsB (P:Program):List Go.Field->List (Nat × Nat)->Bool
 | [],[]=>true
 | f :: r,q :: l=>(match P.info? f.type with
  | some i=>Nat.beq f.offset q.1 && Nat.beq i.size q.2 && Nat.blt 0 q.2
  | none=>false) && fsB P r l
 | _,_=>false
def mzB (s:Sh) (z:Value):Bool:=match s.pn,z with
 | true,.agg a=>CR (cellsOf s (au s)) a.toList
 | true,_=>false
 | false,z=>CR (cellsOf s (au s)) [z]
theorem aaH {s:Sh} {z:Value} (h:mzB s z=true):∃ a,CR (cellsOf s (au s)) a=true/\((s.pn=true/\z = .agg a.toArray)\/(s.pn=false/\a=[z])):=by
 unfold mzB at h;split at h
 ·grind
 ·cases h
 grind
def kzB:KC->Value->Bool
 | .i n,.int .i64 m=>decide (m=n)
 | .b x,.bool y=>decide (y=x)
 | .nf,.nilFunc=>true
 | _,_=>false
def kvB:List KC->List Value->Bool
 | [],[]=>true
 | k :: r,v :: s=>kzB k v && kvB r s
 | _,_=>false
theorem OE:∀ {z:List KC} {b:List Value},kvB z b=true->b=z.map KC.val
 | [],[],_=>rfl
 | k :: r,v :: s,h=>by
  simp only [kvB,Bool.and_eq_true] at h;rw [afV,<- OE h.2];have a:=h.1;unfold kzB at a;split at a
  ·rw [acx a]; rfl
  ·rw [acx a]; rfl
  ·rfl
  cases a
def TX (P:Program) (F:Array Go.Field) (t:Nat):List (Nat × Nat)->Bool
 | []=>true
 | (a,b) :: r=>(!Nat.beq t a || (match (F[b]?).bind fun f=>P.underlying f.type with
  | some d=>!kx d
  | none=>false)) && TX P F t r
theorem Fo {P:Program} {F:Array Go.Field} {t i:Nat}:∀ {l:List (Nat × Nat)},TX P F t l=true->Lx t i l=true->∃ f d,F[i]? = some f/\P.underlying f.type=some d/\kx d=false
 | (a,b) :: r,h,hm=>by
  simp only [TX,Bool.and_eq_true] at h;simp only [Lx,Bool.or_eq_true,Bool.and_eq_true] at hm;rcases hm with ⟨g,c⟩ | hm
  ·have e:=aaF c;grind
  exact Fo h.2 hm
def acM (P:Program) (T:List (Nat × TI)) (t:TypeId) (g:TI):Bool:=match g.k,P.underlying t with
 | .i k,some (.int a)=>decide (a = k)
 | .bool,some .bool=>true
 | .str,some .string=>true
 | .sl e c,some (.slice b)=>Nat.beq b e && (match c with
  | none=>true
  | some s=>decide (ak T e=some s) && (match P.info? e with
   | some i=>Nat.beq i.size s.size && Nat.beq i.bytes s.bytes && (match i.zero with
    | some z=>CR (cellsOf s (au s)) z.cells.toList
    | none=>false)
   | none=>false) && (match s with
   | .u8=>(match P.underlying e,(P.info? e).bind (·.zero) with
    | some (.int k),some (.int a z)=>decide (k = .u8) && decide (a = .u8) && decide (z=0)
    | _,_=>false)
   | _=>true))
 | .st h,some (.struct F)=>fsB P F.toList h && (match Yf g.zero with
  | some j=>eqB P t j
  | none=>true) && TX P F t abc
 | .ar n e,some (.array l b)=>Nat.beq l n && Nat.beq b e
 | .mg k e z,some (.map a b)=>Nat.beq a k && Nat.beq b e && (match P.underlying k with
  | some (.int f)=>decide (f = .i64)
  | _=>false) && (match (P.info? e).bind (·.zero) with
  | some (.agg m)=>kvB z m.toList
  | _=>false)
 | .mp k e c,some (.map a b)=>Nat.beq a k && Nat.beq b e && (match P.underlying k with
  | some (.int f)=>decide (f = .i64)
  | _=>false) && (match c with
  | none=>match (P.info? e).bind (·.zero) with
   | some .nilFunc=>true
   | _=>false
  | some s=>match (P.info? e).bind (·.zero) with
   | some z=>mzB s z
   | none=>false)
 | .ifc,some (.interface _)=>true
 | .ms k e,some (.map a b)=>Nat.beq a k && Nat.beq b e && (match P.underlying k with
  | some .string=>true
  | _=>false) && (match (P.info? e).bind (·.zero) with
  | some (.int .i64 0)=>true
  | _=>false)
 | .ptr,some (.pointer _)=>true
 | .fn,some d=>!kx d
 | .oth,some d=>!kx d
 | _,_=>false
def tiB (P:Program) (T:List (Nat × TI)) (t:TypeId) (a:TI):Bool:=(match P.info? t with
 | some i=>Nat.beq i.size a.size && (match i.zero with
  | some z=>CR a.zero z.cells.toList
  | none=>false)
 | none=>false) && acM P T t a
def SX (P:Program) (T:List (Nat × TI)):List (Nat × TI)->Bool
 | []=>true
 | (t,a) :: r=>tiB P T t a && SX P T r
theorem LZ {P:Program}:∀ {F:List Go.Field} {d:List (Nat × Nat)},fsB P F d=true->F.mapM (fun f=>(P.info? f.type).map fun i=>(f.offset,i.size))=some d/\∀ q ∈ d,0<q.2
 | [],[],_=>⟨rfl,aa⟩
 | f :: F,(a,b) :: d,h=>by
  simp only [fsB,Bool.and_eq_true] at h;obtain ⟨c,e⟩:=h;obtain ⟨g,j⟩:=LZ e;split at c
  ·rename_i i k;simp only [Bool.and_eq_true] at c;have l:=aaF c.1.1;have m:=aaF c.1.2;have n:0<b:=by have:=(Nat.blt_eq).mp c.2; exact this
   grind
  cases c
theorem abD {t:TypeId} {C:TI} (h:tiB P T t C=true):adz P (ak T) t C:=by
 simp only [tiB,Bool.and_eq_true] at h;obtain ⟨r,c⟩:=h;refine ⟨?_,?_⟩
 ·split at r
  ·rename_i i o;simp only [Bool.and_eq_true] at r;obtain ⟨j,f⟩:=r;refine ⟨by rw [o,Option.map_some,aaF j],?_⟩;split at f
   ·rename_i z p;exact ⟨z.cells.toList,by simp [o,p],f⟩
   cases f
  cases r
 unfold acM at c;split at c
 ·rename_i k v b a;simp only [b]; rw [a,acx c]
 ·rename_i b a;simp only [b]; exact a
 ·rename_i b a;simp only [b]; exact a
 ·rename_i e D u b a;simp only [b];simp only [Bool.and_eq_true] at c;have I:=aaF c.1;subst I;refine ⟨a,fun s x=>?_⟩;subst x;have j:=c.2;simp only [Bool.and_eq_true,decide_eq_true_eq] at j;obtain ⟨⟨j,f⟩,l⟩:=j;refine ⟨j,?_,?_⟩
  ·split at f
   ·rename_i i o;simp only [Bool.and_eq_true] at f;obtain ⟨⟨g,y⟩,q⟩:=f;split at q
    ·rename_i z p;refine ⟨z.cells.toList,?_,q⟩;rw [o,Option.map_some,p,aaF g,aaF y];simp
    cases q
   cases f
  grind
 ·rename_i N F b a;simp only [b];simp only [Bool.and_eq_true] at c;obtain ⟨j,f⟩:=LZ c.1.1;refine ⟨F,a,j,f,fun Q A=>?_,fun i o=>Fo c.2 o⟩;have l:=c.1.2;rw [A] at l;exact l
 ·rename_i n e S u b a;simp only [b];simp only [Bool.and_eq_true] at c;rw [a,aaF c.1,aaF c.2]
 ·rename_i k e z v u b a;simp only [b];simp only [Bool.and_eq_true] at c;obtain ⟨⟨⟨j,f⟩,l⟩,g⟩:=c;rw [aaF j,aaF f] at a;refine ⟨a,?_,?_⟩
  ·split at l
   ·rename_i J m;rw [m,acx l]
   cases l
  split at g
  ·rename_i U B;rw [B,<- OE g]
  cases g
 ·rename_i k e D v u b a;simp only [b];simp only [Bool.and_eq_true] at c;obtain ⟨⟨⟨j,f⟩,l⟩,g⟩:=c;rw [aaF j,aaF f] at a;refine ⟨a,?_,fun s x=>?_,fun K=>?_⟩
  ·split at l
   ·rename_i J m;rw [m,acx l]
   cases l
  ·subst x;simp only at g;split at g
   ·rename_i z p;obtain ⟨L,y,q⟩:=aaH g;exact ⟨z,L,p,y,q⟩
   cases g
  subst K;simp only at g;split at g
  ·assumption
  cases g
 ·rename_i V b a;simp only [b];simp only [Program.methodsAt,a]
 ·rename_i k e v u b a;simp only [b];simp only [Bool.and_eq_true] at c;obtain ⟨⟨⟨j,f⟩,l⟩,g⟩:=c;rw [aaF j,aaF f] at a;refine ⟨a,?_,?_⟩
  ·split at l
   ·assumption
   cases l
  split at g
  ·assumption
  cases g
 ·rename_i e b a;simp only [b];exact ⟨e,a⟩
 ·rename_i d b a;simp only [b];exact ⟨d,a,by simpa using c⟩
 ·rename_i d b a;simp only [b];exact ⟨d,a,by simpa using c⟩
 cases c
theorem vN {t:TypeId} {a:TI}:∀ {T:List (Nat × TI)},a_ T t=some a->(t,a) ∈ T
 | (j,v) :: r,h=>by
  simp only [a_] at h;cases b:Nat.beq j t <;> rw [b] at h
  ·exact acs _ (vN h)
  simp_all
theorem zg {P:Program} {T:List (Nat × TI)}:∀ {r:List (Nat × TI)},SX P T r=true->∀ q ∈ r,tiB P T q.1 q.2=true
 | (t,a) :: r,h,q,hq=>by
  simp only [SX,Bool.and_eq_true] at h;rcases acw.1 hq with rfl | hq
  ·exact h.1
  exact zg h.2 q hq
def ab8 (h:SX P T T=true):bh P (ak T) T:=fun _ _ a=>abD (zg h _ (vN a))
end Go.Proofs.YticbaadnibdbkaaGreat
namespace Go.Proofs.YticbaadnibdbkaaGreat
def tyT:List (Nat × TI):=[
 (1,⟨.fn,1,[.nf]⟩),
 (2,⟨.i .i64,1,[.int 0]⟩),
 (3,⟨.i .i64,1,[.int 0]⟩),
 (4,⟨.bool,1,[.bool (.lit false)]⟩),
 (5,⟨.i .u8,1,[.u8 0]⟩),
 (6,⟨.i .u8,1,[.u8 0]⟩),
 (9,⟨.str,1,[.str ⟨[]⟩]⟩),
 (10,⟨.str,1,[.str ⟨[]⟩]⟩),
 (25,⟨.ptr,1,[.np]⟩),
 (26,⟨.i .i64,1,[.int 0]⟩),
 (30,⟨.sl 40 (some (.nm .letter)),1,[.em true]⟩),
 (33,⟨.sl 3 (some .int),1,[.em true]⟩),
 (34,⟨.st [(0,1),(1,1),(2,1),(3,1),(4,1),(5,1),(6,1),(7,1)],8,[.int 0,.int 0,.int 0,.int 0,.int 0,.int 0,.em true,.str ⟨[]⟩]⟩),
 (35,⟨.st [(0,1),(1,1),(2,1),(3,1),(4,1),(5,1),(6,1),(7,1)],8,[.int 0,.int 0,.int 0,.int 0,.int 0,.int 0,.em true,.str ⟨[]⟩]⟩),
 (38,⟨.sl 52 (some (.nm .entry)),1,[.em true]⟩),
 (39,⟨.st [(0,1),(1,1),(2,1),(3,1),(4,1),(5,1),(6,1),(7,1),(8,1),(9,1)],10,[.int 0,.int 0,.int 0,.int 0,.int 0,.int 0,.int 0,.int 0,.bool (.lit false),.em true]⟩),
 (40,⟨.st [(0,1),(1,1),(2,1),(3,1),(4,1),(5,1),(6,1),(7,1),(8,1),(9,1)],10,[.int 0,.int 0,.int 0,.int 0,.int 0,.int 0,.int 0,.int 0,.bool (.lit false),.em true]⟩),
 (41,⟨.fn,1,[.nf]⟩),
 (42,⟨.sl 137 (some (.nm .sess)),1,[.em true]⟩),
 (43,⟨.sl 139 (some (.nm .opn)),1,[.em true]⟩),
 (44,⟨.sl 172 (some (.nm .snap)),1,[.em true]⟩),
 (45,⟨.st [(0,1),(1,1),(2,1),(3,1),(4,1),(5,1),(6,1)],7,[.int 0,.int 0,.int 0,.int 0,.em true,.em true,.em true]⟩),
 (46,⟨.st [(0,1),(1,1),(2,1),(3,1),(4,1),(5,1),(6,1)],7,[.int 0,.int 0,.int 0,.int 0,.em true,.em true,.em true]⟩),
 (47,⟨.st [(0,1),(1,1),(2,1),(3,1),(4,1),(5,1),(6,1),(7,1),(8,1),(9,7)],16,[.bool (.lit false),.int 0,.int 0,.int 0,.int 0,.int 0,.int 0,.int 0,.em true,.int 0,.int 0,.int 0,.int 0,.em true,.em true,.em true]⟩),
 (48,⟨.st [(0,1),(1,1),(2,1),(3,1),(4,1),(5,1),(6,1),(7,1),(8,1),(9,7)],16,[.bool (.lit false),.int 0,.int 0,.int 0,.int 0,.int 0,.int 0,.int 0,.em true,.int 0,.int 0,.int 0,.int 0,.em true,.em true,.em true]⟩),
 (50,⟨.sl 5 (some .u8),1,[.em true]⟩),
 (51,⟨.st [(0,1),(1,1)],2,[.int 0,.em true]⟩),
 (52,⟨.st [(0,1),(1,1)],2,[.int 0,.em true]⟩),
 (54,⟨.sl 60 (some (.nm .nop)),1,[.em true]⟩),
 (56,⟨.st [(0,1),(1,1),(2,1),(3,1)],4,[.em true,.int 0,.int 0,.int 0]⟩),
 (57,⟨.st [(0,1),(1,1),(2,1),(3,1)],4,[.em true,.int 0,.int 0,.int 0]⟩),
 (59,⟨.st [(0,1),(1,1),(2,10),(12,8)],20,[.u8 0,.int 0,.int 0,.int 0,.int 0,.int 0,.int 0,.int 0,.int 0,.int 0,.bool (.lit false),.em true,.int 0,.int 0,.int 0,.int 0,.int 0,.int 0,.em true,.str ⟨[]⟩]⟩),
 (60,⟨.st [(0,1),(1,1),(2,10),(12,8)],20,[.u8 0,.int 0,.int 0,.int 0,.int 0,.int 0,.int 0,.int 0,.int 0,.int 0,.bool (.lit false),.em true,.int 0,.int 0,.int 0,.int 0,.int 0,.int 0,.em true,.str ⟨[]⟩]⟩),
 (63,⟨.st [(0,1),(1,1),(2,1),(3,1)],4,[.int 0,.int 0,.int 0,.em true]⟩),
 (64,⟨.st [(0,1),(1,1),(2,1),(3,1)],4,[.int 0,.int 0,.int 0,.em true]⟩),
 (72,⟨.sl 78 (some (.nm .reply)),1,[.em true]⟩),
 (77,⟨.st [(0,1),(1,1)],2,[.int 0,.int 0]⟩),
 (78,⟨.st [(0,1),(1,1)],2,[.int 0,.int 0]⟩),
 (92,⟨.sl 4 (some .bool),1,[.em true]⟩),
 (96,⟨.ptr,1,[.np]⟩),
 (98,⟨.st [(0,1),(1,1),(2,1),(3,1)],4,[.em true,.em true,.em true,.em true]⟩),
 (99,⟨.st [(0,1),(1,1),(2,1),(3,1)],4,[.em true,.em true,.em true,.em true]⟩),
 (100,⟨.st [(0,1),(1,4),(5,1),(6,1),(7,1),(8,7),(15,1),(16,4)],20,[.int 0,.int 0,.int 0,.int 0,.em true,.int 0,.int 0,.int 0,.int 0,.int 0,.int 0,.int 0,.em true,.em true,.em true,.em true,.em true,.em true,.em true,.em true]⟩),
 (101,⟨.st [(0,1),(1,4),(5,1),(6,1),(7,1),(8,7),(15,1),(16,4)],20,[.int 0,.int 0,.int 0,.int 0,.em true,.int 0,.int 0,.int 0,.int 0,.int 0,.int 0,.int 0,.em true,.em true,.em true,.em true,.em true,.em true,.em true,.em true]⟩),
 (102,⟨.st [(0,1),(1,1),(2,1),(3,20)],23,[.int 0,.int 0,.np,.int 0,.int 0,.int 0,.int 0,.em true,.int 0,.int 0,.int 0,.int 0,.int 0,.int 0,.int 0,.em true,.em true,.em true,.em true,.em true,.em true,.em true,.em true]⟩),
 (103,⟨.st [(0,1),(1,1),(2,1),(3,20)],23,[.int 0,.int 0,.np,.int 0,.int 0,.int 0,.int 0,.em true,.int 0,.int 0,.int 0,.int 0,.int 0,.int 0,.int 0,.em true,.em true,.em true,.em true,.em true,.em true,.em true,.em true]⟩),
 (107,⟨.st [(0,1),(1,1),(2,1),(3,1)],4,[.int 0,.int 0,.int 0,.em true]⟩),
 (108,⟨.st [(0,1),(1,1),(2,1),(3,1)],4,[.int 0,.int 0,.int 0,.em true]⟩),
 (109,⟨.sl 108 (some (.nm .record)),1,[.em true]⟩),
 (121,⟨.mp 3 41 none,1,[.dead]⟩),
 (136,⟨.st [(0,1),(1,1),(2,2)],4,[.int 0,.int 0,.int 0,.int 0]⟩),
 (137,⟨.st [(0,1),(1,1),(2,2)],4,[.int 0,.int 0,.int 0,.int 0]⟩),
 (138,⟨.st [(0,1),(1,1)],2,[.int 0,.int 0]⟩),
 (139,⟨.st [(0,1),(1,1)],2,[.int 0,.int 0]⟩),
 (146,⟨.st [(0,1),(1,1),(2,1),(3,1),(4,1)],5,[.em true,.int 0,.bool (.lit false),.bool (.lit false),.int 0]⟩),
 (147,⟨.st [(0,1),(1,1),(2,1),(3,1),(4,1)],5,[.em true,.int 0,.bool (.lit false),.bool (.lit false),.int 0]⟩),
 (150,⟨.fn,1,[.nf]⟩),
 (162,⟨.fn,1,[.nf]⟩),
 (171,⟨.st [(0,1),(1,1),(2,1),(3,1),(4,1)],5,[.int 0,.int 0,.em true,.bool (.lit false),.str ⟨[]⟩]⟩),
 (172,⟨.st [(0,1),(1,1),(2,1),(3,1),(4,1)],5,[.int 0,.int 0,.em true,.bool (.lit false),.str ⟨[]⟩]⟩),
 (173,⟨.i .u64,1,[.u64 0]⟩),
 (177,⟨.sl 219 (some (.nm .field)),1,[.em true]⟩),
 (186,⟨.st [(0,1),(1,1),(2,1),(3,1),(4,1)],5,[.int 0,.int 0,.int 0,.int 0,.int 0]⟩),
 (187,⟨.st [(0,1),(1,1),(2,1),(3,1),(4,1)],5,[.int 0,.int 0,.int 0,.int 0,.int 0]⟩),
 (192,⟨.i .u64,1,[.u64 0]⟩),
 (193,⟨.i .u32,1,[.xx (.w 0) []]⟩),
 (199,⟨.fn,1,[.nf]⟩),
 (200,⟨.st [(0,1),(1,1),(2,1),(3,1),(4,1),(5,1)],6,[.int 0,.int 0,.bool (.lit false),.int 0,.int 0,.nf]⟩),
 (201,⟨.st [(0,1),(1,1),(2,1),(3,1),(4,1),(5,1)],6,[.int 0,.int 0,.bool (.lit false),.int 0,.int 0,.nf]⟩),
 (202,⟨.mg 3 201 [.i 0,.i 0,.b false,.i 0,.i 0,.nf],1,[.dead]⟩),
 (204,⟨.ptr,1,[.np]⟩),
 (207,⟨.mp 3 3 (some .int),1,[.dead]⟩),
 (210,⟨.st [(0,1),(1,1)],2,[.int 0,.int 0]⟩),
 (211,⟨.st [(0,1),(1,1)],2,[.int 0,.int 0]⟩),
 (213,⟨.mp 3 211 (some (.nm .span)),1,[.dead]⟩),
 (217,⟨.fn,1,[.nf]⟩),
 (218,⟨.st [(0,1),(1,1),(2,1),(3,1)],4,[.int 0,.int 0,.u64 0,.em true]⟩),
 (219,⟨.st [(0,1),(1,1),(2,1),(3,1)],4,[.int 0,.int 0,.u64 0,.em true]⟩),
 (251,⟨.ar 5 3,5,[.int 0,.int 0,.int 0,.int 0,.int 0]⟩),
 (252,⟨.sl 255 (some (.nm .spec)),1,[.em true]⟩),
 (254,⟨.st [(0,1),(1,1),(2,1),(3,1),(4,1)],5,[.int 0,.int 0,.int 0,.bool (.lit false),.bool (.lit false)]⟩),
 (255,⟨.st [(0,1),(1,1),(2,1),(3,1),(4,1)],5,[.int 0,.int 0,.int 0,.bool (.lit false),.bool (.lit false)]⟩),
 (261,⟨.fn,1,[.nf]⟩),
 (262,⟨.fn,1,[.nf]⟩),
 (264,⟨.st [(0,8),(8,1),(9,1)],10,[.int 0,.int 0,.int 0,.int 0,.int 0,.int 0,.em true,.str ⟨[]⟩,.bool (.lit false),.int 0]⟩),
 (265,⟨.st [(0,8),(8,1),(9,1)],10,[.int 0,.int 0,.int 0,.int 0,.int 0,.int 0,.em true,.str ⟨[]⟩,.bool (.lit false),.int 0]⟩),
 (282,⟨.fn,1,[.nf]⟩),
 (286,⟨.ar 2 193,2,[.xx (.w 0) [],.xx (.w 0) []]⟩),
 (289,⟨.mp 3 252 (some (.lst (.nm .spec))),1,[.dead]⟩),
 (291,⟨.fn,1,[.nf]⟩),
 (301,⟨.fn,1,[.nf]⟩),
 (303,⟨.fn,1,[.nf]⟩),
 (305,⟨.fn,1,[.nf]⟩),
 (306,⟨.fn,1,[.nf]⟩),
 (307,⟨.fn,1,[.nf]⟩),
 (308,⟨.fn,1,[.nf]⟩),
 (313,⟨.ptr,1,[.np]⟩),
 (315,⟨.mp 3 307 none,1,[.dead]⟩),
 (317,⟨.i .i64,1,[.int 0]⟩),
 (328,⟨.fn,1,[.nf]⟩),
 (330,⟨.fn,1,[.nf]⟩),
 (337,⟨.ar 65 3,65,(List.replicate 65 (.int 0))⟩),
 (338,⟨.ar 65 3,65,(List.replicate 65 (.int 0))⟩),
 (340,⟨.i .u64,1,[.u64 0]⟩),
 (344,⟨.ptr,1,[.np]⟩),
 (353,⟨.ptr,1,[.np]⟩),
 (355,⟨.ptr,1,[.np]⟩)]
end Go.Proofs.YticbaadnibdbkaaGreat
namespace Go.Proofs.YticbaadnibdbkaaGreat
def dF:bh Tryz.prog (ak tyT) tyT:=ab8 bN
def jM:Tryz.prog.follows .mixedOrders=true:=bN
end Go.Proofs.YticbaadnibdbkaaGreat
namespace Go.Proofs.YticbaadnibdbkaaGreat
open Go.RowKit
def Sub1 (a b:TV1):Prop:=∀ c d v,di c d a v->di c d b v
def SubL:List TV1->List TV1->Prop
 | [],[]=>True
 | a :: r,b :: l=>Sub1 a b/\SubL r l
 | _,_=>False
def SubL.rd {c:Cx} {a:List RE}:∀ {b d:List TV1} {e:List Value},SubL b d->All2 (di c a) b e->All2 (di c a) d e
 | [],[],_,_,h=>h
 | _ :: _,_ :: _,_,h,k=>by cases k with | cons f g=>exact .cons (h.1 _ _ _ f) (SubL.rd h.2 g)
structure PU (α:Type) where
 p:TV1->Option α
 u:α->TV1
 ok:∀ a y,p a=some y->Sub1 a (u y)
def kT (s:Sh):PU (den s):=⟨fun | .agg l=>gi s l | _=>none,fun x=>.agg (cellsOf s x),fun a y h=>by
 cases a with
 | c a=>cases h
 | agg l=>exact fun c f v ⟨b,e,d⟩=>⟨b,e,gH (aK h (d.imp fun _ _ h=>Rd.qd h))⟩⟩
def kAp (s:Sh) (n:Nat):TV1->Option (List (den s))
 | .agg l=>match ui s l with
  | some a=>bif Nat.beq a.length n && Nat.beq s.size 1 then some a else none
  | none=>none
 | .c _=>none
theorem wD {s:Sh} {a:List (den s)}:∀ (n k:Nat),k+n=a.length->ym s a k n=(a.drop k).flatMap (cellsOf s)
 | 0,k,h=>by rw [afY aE]; rfl
 | n+1,k,h=>by
  have b:k<a.length:=by omega
  rw [ym,wD n (k+1) aE,afP b,List.flatMap_cons,List.getD_eq_getElem?_getD,List.getElem?_eq_getElem b]; rfl
def kA (s:Sh) (n:Nat):PU (List (den s)):=⟨kAp s n,fun b=>.agg (ym s b 0 n),fun a y h=>by
 cases a with
 | c a=>cases h
 | agg l=>
  simp only [kAp] at h
  split at h
  ·rename_i b g
   cases d:(Nat.beq b.length n && Nat.beq s.size 1) <;> rw [d] at h <;> cases h
   simp only [Bool.and_eq_true] at d
   intro c k v i
   obtain ⟨f,e,j⟩:=i
   refine ⟨f,e,?_⟩
   show All2 _ (ym s y 0 n) f
   have:=aaF d.1
   rw [wD n 0 aE]
   exact gH (ll g j)
  ·cases h⟩
def CO (s:Sh) (a:List (den s)):Nat->Nat->List (den s)
 | _,0=>[]
 | k,n+1=>a.getD k (au s) :: CO s a (k+1) n
theorem qS {s:Sh} {a:List (den s)}:∀ (n k:Nat),(CO s a k n).length=n
 | 0,_=>rfl
 | n+1,k=>by rw [CO,List.length_cons,qS n]
theorem Br {s:Sh} {a:List (den s)}:∀ (n k:Nat),k+n=a.length->CO s a k n=a.drop k
 | 0,k,h=>by rw [afY aE]; rfl
 | n+1,k,h=>by
  have b:k<a.length:=by omega
  rw [CO,Br n (k+1) aE,afP b,List.getD_eq_getElem?_getD,List.getElem?_eq_getElem b]; rfl
variable {n:Nat}
def jK {s:Sh} {xs:List (den s)} (h:xs.length=n):CO s xs 0 n=xs:=Br n 0 aE
structure PC (α:Type) where
 p:AV->Option α
 u:α->AV
 ok:∀ a y,p a=some y->∀ c ρ v,Rd c ρ a v->Rd c ρ (u y) v
def nh {A:AV} {y:AV} (h:∀ c v,Qd c A v->Pd c y v):∀ c a v,Rd c a A v->Rd c a y v:=fun c a v b=>kU (h c v (Rd.qd b))
def cI:PC Int:=⟨AV.bd,.int,fun _ _ h=>nh fun _ _=>Pd.bd h⟩
def cU:PC U64:=⟨AV.WG,fun n=>.u64 n.n,fun _ _ h=>nh fun _ _=>Pd.WG h⟩
def cB:PC Bool:=⟨AV.uw,fun b=>.bool (.atom b),fun _ _ h=>nh fun _ _=>Pd.uw h⟩
def cL (s:Sh):PC (List (den s)):=⟨AV.fS s,.fz s,fun _ _ h=>nh fun _ _=>Pd.fS h⟩
def y_:List (Nat × Nat)->List (Nat × Nat)->Bool
 | [],[]=>true
 | (i,o) :: r,(j,k) :: l=>Nat.beq i j && Nat.beq o k && y_ r l
 | _,_=>false
theorem ug:∀ {a b:List (Nat × Nat)},y_ a b=true->a=b
 | [],[],_=>rfl
 | (i,o) :: r,(j,k) :: l,h=>by
  simp only [y_,Bool.and_eq_true] at h;rw [aaF h.1.1,aaF h.1.2,ug h.2]
def cQ (e:AV->Bool) (x:AV) (h:∀ a,e a=true->a=x):PC Unit:=⟨fun a=>bif e a then some () else none,fun _=>x,fun a y k c f v b=>by
 cases d:e a <;> rw [d] at k
 ·cases k
 ·rw [h a d] at b; exact b⟩
def eI (i:Nat):PC Unit:=cQ (fun | .own j=>Nat.beq j i | _=>false) (.own i) fun a h=>by cases a <;> first | cases h | rw [aaF h]
def ba (i o:Nat):PC Unit:=cQ (fun | .ptr j k=>Nat.beq j i && Nat.beq k o | _=>false) (.ptr i o) fun a h=>by
 cases a <;> first | cases h | (simp only [Bool.and_eq_true] at h; rw [aaF h.1,aaF h.2])
def qL (f:Nat) (b d:List (Nat × Nat)):PC Unit:=cQ (fun | .fn g e c=>Nat.beq g f && y_ e b && y_ c d | _=>false) (.fn f b d) fun a h=>by
 cases a <;> first | cases h | (simp only [Bool.and_eq_true] at h; rw [aaF h.1.1,ug h.1.2,ug h.2])
def Zq (b:Bool):PC Unit:=cQ (fun | .em c=>c == b | _=>false) (.em b) fun a h=>by cases a <;> first | cases h | rw [beq_iff_eq.1 h]
structure PL (α:Type) where
 p:List AV->Option α
 u:α->List AV
 ok:∀ l y,p l=some y->∀ c ρ vs,All2 (Rd c ρ) l vs->All2 (Rd c ρ) (u y) vs
def dA:PL Unit:=⟨fun | []=>some () | _=>none,fun _=>[],fun l y h c b d a=>by cases l <;> first | exact a | cases h⟩
def ax {b d:Type} (A:PC b) (R:PL d):PL (b × d):=⟨fun
 | a :: r=>match A.p a,R.p r with
  | some x,some y=>some (x,y)
  | _,_=>none
 | _=>none,fun q=>A.u q.1 :: R.u q.2,fun l y h c k m e=>by
 cases l with
 | nil=>cases h
 | cons a r=>
  dsimp only at h
  split at h
  ·rename_i f g
   cases h
   cases e with
   | cons i j=>exact .cons (A.ok _ _ f _ _ _ i) (R.ok _ _ g _ _ _ j)
  ·cases h⟩
def lSt {a:Type} (s:Sh) (R:PL a):PL (den s × a):=⟨fun l=>match gi s (l.take s.size),R.p (l.drop s.size) with
 | some x,some y=>some (x,y)
 | _,_=>none,fun q=>cellsOf s q.1++R.u q.2,fun l y h c ρ i b=>by
 split at h
 ·rename_i d e
  cases h
  have f:=gH (ρ:=ρ) (aK d ((b.take s.size).imp fun _ _ h=>Rd.qd h))
  have g:=R.ok _ _ e _ _ _ (b.drop s.size)
  have:=f.append g
  rwa [List.take_append_drop] at this
 ·cases h⟩
def PL.Ys {b d:Type} (A:PL b) (f:b->d) (g:d->b) (h:∀ a,g (f a)=a:=by intros; rfl):PL d:=⟨fun l=>(A.p l).map f,fun y=>A.u (g y),fun l y i c j e k=>by
 obtain ⟨a,m,rfl⟩:=aeB.1 i
 show All2 _ (A.u (g (f a))) e
 rw [h]; exact A.ok l a m c j e k⟩
def kC {b:Type} (A:PC b):PU b:=⟨fun | .c a=>A.p a | _=>none,fun y=>.c (A.u y),fun a y h=>by
 cases a with
 | c a=>exact fun c d v e=>A.ok _ _ h c d v e
 | agg l=>cases h⟩
def kG {b:Type} (R:PL b):PU b:=⟨fun | .agg l=>R.p l | _=>none,fun y=>.agg (R.u y),fun a y h=>by
 cases a with
 | c a=>cases h
 | agg l=>exact fun c g v ⟨d,e,f⟩=>⟨d,e,R.ok _ _ h _ _ _ f⟩⟩
structure PT (α:Type) where
 p:List TV1->Option α
 u:α->List TV1
 ok:∀ l y,p l=some y->SubL l (u y)
def ao:PT Unit:=⟨fun | []=>some () | _=>none,fun _=>[],fun l y h=>by cases l <;> first | exact trivial | cases h⟩
def ae {b c:Type} (A:PU b) (R:PT c):PT (b × c):=⟨fun
 | a :: r=>match A.p a,R.p r with
  | some x,some y=>some (x,y)
  | _,_=>none
 | _=>none,fun q=>A.u q.1 :: R.u q.2,fun l y h=>by
 cases l with
 | nil=>cases h
 | cons a r=>
  dsimp only at h
  split at h
  ·rename_i d e
   cases h
   exact ⟨A.ok _ _ d,R.ok _ _ e⟩
  ·cases h⟩
structure PO (α:Type) where
 p:AO->Option α
 u:α->AO
 ok:∀ o y,p o=some y->∀ c ρ r,OR c ρ o r->OR c ρ (u y) r
def dC {b:Type} (t:TypeId) (R:PL b):PO b:=⟨fun | .box a d=>bif Nat.beq a t then R.p d else none | _=>none,fun y=>.box t (R.u y),fun o y h c m r i=>by
 cases o <;> dsimp only at h <;> try cases h
 rename_i a d
 cases f:Nat.beq a t <;> rw [f] at h
 ·cases h
 ·have:=aaF f
  subst this
  obtain ⟨g,j,e,k,l⟩:=i
  exact ⟨g,j,e,k,R.ok _ _ h _ _ _ l⟩⟩
def eG (t:TypeId) (s:Sh):PO (List (den s)):=⟨fun | .row b d a=>bif Nat.beq b t then (if h:d = s then some (h ▸ a) else none) else none | _=>none,fun a=>.row t s a,fun o y h c i r g=>by
 cases o <;> dsimp only at h <;> try cases h
 rename_i b d a
 cases f:Nat.beq b t <;> rw [f] at h
 ·cases h
 ·have:=aaF f
  subst this
  simp only [cond_true] at h
  split at h
  ·rename_i e
   subst e
   cases h
   exact g
  ·cases h⟩
def Dg (t:TypeId) (s:Sh) (n:Nat):PO (List (den s)):=⟨fun | .arr d g f a=>bif Nat.beq d t && Nat.beq f n then (if h:g = s then some (h ▸ a) else none) else none | _=>none,fun a=>.arr t s n a,fun o y h c j r i=>by
 cases o <;> dsimp only at h <;> try cases h
 rename_i d g f a
 cases b:(Nat.beq d t && Nat.beq f n) <;> rw [b] at h
 ·cases h
 ·simp only [Bool.and_eq_true] at b
  have:=aaF b.1
  subst this
  have:=aaF b.2
  subst this
  simp only [cond_true] at h
  split at h
  ·rename_i e
   subst e
   cases h
   exact i
  ·cases h⟩
structure PH (α:Type) where
 p:AH->Option α
 u:α->AH
 ok:∀ H y,p H=some y->∀ c ρ ρ',All2 (OR c ρ) H ρ' -> All2 (OR c ρ) (u y) ρ'
def aw:PH Unit:=⟨fun | []=>some () | _=>none,fun _=>[],fun l y h c d a b=>by cases l <;> first | exact b | cases h⟩
def aC {b d:Type} (A:PO b) (R:PH d):PH (b × d):=⟨fun
 | a :: r=>match A.p a,R.p r with
  | some x,some y=>some (x,y)
  | _,_=>none
 | _=>none,fun q=>A.u q.1 :: R.u q.2,fun l y h c m e f=>by
 cases l with
 | nil=>cases h
 | cons a r=>
  dsimp only at h
  split at h
  ·rename_i g i
   cases h
   cases f with
   | cons j k=>exact .cons (A.ok _ _ g _ _ _ j) (R.ok _ _ i _ _ _ k)
  ·cases h⟩
def PH.Ys {b d:Type} (A:PH b) (f:b->d) (g:d->b) (h:∀ a,g (f a)=a:=by intros; rfl):PH d:=⟨fun l=>(A.p l).map f,fun y=>A.u (g y),fun l y i c j e k=>by
 obtain ⟨a,m,rfl⟩:=aeB.1 i
 show All2 _ (A.u (g (f a))) e
 rw [h]; exact A.ok l a m c j e k⟩
def yI (t:TypeId) (s:Sh):PO (den s):=dC t (PL.Ys (lSt s dA) (·.1) (fun x=>(x,())))
def rz (k:Nat) (s:State):AH:=[.box 46 [.int s.version,.int s.next,.int s.keep,.int s.quota,.own (k+1),.own (k+2),.own (k+3)],.row 137 (.nm .sess) s.sess,.row 139 (.nm .opn) s.opens,.row 172 (.nm .snap) s.snaps]
def qD {a:Type} (k:Nat) (R:PH a):PH (State × a):=PH.Ys (aC (dC 46 (ax cI (ax cI (ax cI (ax cI (ax (eI (k+1)) (ax (eI (k+2)) (ax (eI (k+3)) dA)))))))) (aC (eG 137 (.nm .sess)) (aC (eG 139 (.nm .opn)) (aC (eG 172 (.nm .snap)) R))))
 (fun q=>(⟨q.1.1,q.1.2.1,q.1.2.2.1,q.1.2.2.2.1,q.2.1,q.2.2.1,q.2.2.2.1⟩,q.2.2.2.2)) (fun q=>((q.1.version,q.1.next,q.1.keep,q.1.quota,(),(),(),()),q.1.sess,q.1.opens,q.1.snaps,q.2))
variable {H H':AH} {f:Nat}
def Sat.agw {P:Program} {shp:TypeId->Option Sh} {e g:List TV1} {r:SpecR} (h:Sat P shp f g H' r) (i:SubL e g) (j:∀ c d b,All2 (OR c d) H b -> All2 (OR c d) H' b):Sat P shp f e H r:=
 ⟨h.1,fun G d w k l a m=>h.2 G d w k l ⟨j _ _ _ a.obj,a.inj,a.bnd,a.z,a.b0,a.tb⟩ (i.rd m)⟩
section
variable {α β:Type} {P:Program} {shp:TypeId->Option Sh} {f:Nat}
def aO (A:PT α) (B:PH β) (r:α->β->SpecR):List TV1->AH->Option SpecR:=fun a H=>match A.p a,B.p H with
 | some x,some y=>some (r x y)
 | _,_=>none
def QR (P:Program) (shp:TypeId->Option Sh) (f:Nat) (k:List TV1->AH->Option SpecR):Prop:=∀ args H r,k args H=some r->(∀ p ∈ r.pre,p)->Sat P shp f args H r
def ah {A:PT α} {B:PH β} {r:α->β->SpecR} (h:∀ x y,(∀ p ∈ (r x y).pre,p)->Sat P shp f (A.u x) (B.u y) (r x y)):QR P shp f (aO A B r):=fun args H R e b=>by
 unfold aO at e;split at e
 ·rename_i d g;cases e;exact (h _ _ b).agw (A.ok _ _ d) fun c i a j=>B.ok _ _ g c i a j
 cases e
def aQ (f:Nat) (k:List TV1->AH->Option SpecR) (O:bP):bP:=fun g a H=>bif Nat.beq f g then (match k a H with
 | some r=>some r
 | none=>O g a H) else O g a H
variable {O:bP}
def ag {k:List TV1->AH->Option SpecR} (e:QR P shp f k) (c:aA P shp O):aA P shp (aQ f k O):=fun g args H r h a=>by
 unfold aQ at h;cases d:Nat.beq f g <;> rw [d] at h
 ·exact c g args H r h a
 have:=aaF d;subst this;split at h
 ·rename_i b;cases h;exact e _ _ _ b a
 exact c f args H r h a
def adA:bP:=fun _ _ _=>none
def aeR (O:bP):bP:=fun g a H=>bif Nat.beq g 1000000002 then some ⟨[False],[],none,false⟩ else O g a H
def VU (b:aA P shp O):aA P shp (aeR O):=fun g args H r h a=>by
 unfold aeR at h;cases c:Nat.beq g 1000000002 <;> rw [c] at h
 ·exact b g args H r h a
 cases h; exact (a False aa).elim
def gh:aA P shp adA:=fun _ _ _ _ h=>by cases h
variable {l:List Prop}
def cg {p:Prop} (h:∀ q ∈ p :: l,q):p:=h _ (.head _)
def eP {p:Prop} (h:∀ q ∈ p :: l,q):∀ q ∈ l,q:=fun q a=>h q (.tail _ a)
end
abbrev Kn:=List TV1->AH->Option SpecR
abbrev CK (f:Nat) (k:Kn):Prop:=QR Tryz.prog (ak tyT) f k
variable {pre:List Prop} {O:bP} {fn:Func} {rs args:List TV1} {t:Prop}
def av (d:aA Tryz.prog (ak tyT) O) (L:List (Nat × LI)) (a:Tryz.prog.funcs[f]? = some fn) (h:t) (e:t=Xx tyT O L fn args H rs:=by kernel_rfl) (b:(fn.name == "runtime.NumGoroutine")=false:=by decide)
  (g:(match fn.body with
   | some c=>eD fn.ntmps c && Nat.ble args.length fn.ntmps
   | none=>false)=true:=by kernel_rfl):Sat Tryz.prog (ak tyT) f args H ⟨pre,rs,none,false⟩:=Sat.aap dF d (od dF d jM) a b g (e ▸ h)
def bz (d:aA Tryz.prog (ak tyT) O) (L:List (Nat × LI)) (a:Tryz.prog.funcs[f]? = some fn) (h:t) (e:t=wpE tyT O L fn args H rs H':=by kernel_rfl) (b:(fn.name == "runtime.NumGoroutine")=false:=by decide)
  (g:(match fn.body with
   | some c=>eD fn.ntmps c && Nat.ble args.length fn.ntmps
   | none=>false)=true:=by kernel_rfl):Sat Tryz.prog (ak tyT) f args H ⟨pre,rs,some H',false⟩:=Sat.ML dF d (od dF d jM) a b g (e ▸ h)
def cT (d:aA Tryz.prog (ak tyT) O) (L:List (Nat × LI)) (a:Tryz.prog.funcs[f]? = some fn) (h:t) (e:t=wpN tyT O L fn args H rs H':=by kernel_rfl) (b:(fn.name == "runtime.NumGoroutine")=false:=by decide)
  (g:(match fn.body with
   | some c=>eD fn.ntmps c && Nat.ble args.length fn.ntmps
   | none=>false)=true:=by kernel_rfl):Sat Tryz.prog (ak tyT) f args H ⟨pre,rs,some H',true⟩:=Sat.ML dF d (od dF d jM) a b g (e ▸ h)
abbrev jO (a:Sess) (p:Prop):Prop:=I64 a.client->I64 a.seq->I64 a.last.code->I64 a.last.n->p
abbrev fq (a:Snap) (p:Prop):Prop:=I64 a.id->I64 a.set->a.chunks.length*8<=140737488355328->a.tag.b.length<=140737488355328->p
abbrev dq (a b:State):Prop:=a.version=b.version/\a.next=b.next/\a.keep=b.keep/\a.quota=b.quota/\a.sess=b.sess/\a.opens=b.opens/\a.snaps=b.snaps
abbrev bO (a b:State) (p:Prop):Prop:=a.version=b.version/\a.next=b.next/\a.keep=b.keep/\a.quota=b.quota/\a.sess=b.sess/\a.opens=b.opens/\a.snaps=b.snaps/\p
abbrev fK (a:State) (p:Prop):Prop:=I64 a.version->I64 a.next->I64 a.keep->I64 a.quota->a.sess.length*32<=140737488355328->a.opens.length*16<=140737488355328->a.snaps.length*64<=140737488355328->p
abbrev aS (a b:Command):Prop:=a.kind=b.kind/\a.client=b.client/\a.seq=b.seq/\a.set=b.set/\a.id=b.id/\a.n=b.n/\a.chunks=b.chunks/\a.text=b.text
abbrev bu (a b:Command) (p:Prop):Prop:=a.kind=b.kind/\a.client=b.client/\a.seq=b.seq/\a.set=b.set/\a.id=b.id/\a.n=b.n/\a.chunks=b.chunks/\a.text=b.text/\p
abbrev bF (a:Command) (p:Prop):Prop:=I64 a.kind->I64 a.client->I64 a.seq->I64 a.set->I64 a.id->I64 a.n->a.chunks.length*8<=140737488355328->a.text.b.length<=140737488355328->p
abbrev mS (a:Spec) (p:Prop):Prop:=I64 a.num->I64 a.wire->I64 a.since->p
abbrev tU (a b:Record) (p:Prop):Prop:=a.kind=b.kind/\a.a=b.a/\a.b=b.b/\a.x=b.x/\p
abbrev dU (a:Record) (p:Prop):Prop:=I64 a.kind->I64 a.a->I64 a.b->a.x.length*1<=140737488355328->p
abbrev B_ (a b:Letter):Prop:=a.kind=b.kind/\a.frm=b.frm/\a.to=b.to/\a.term=b.term/\a.a=b.a/\a.b=b.b/\a.c=b.c/\a.bin=b.bin/\a.ok=b.ok/\a.l=b.l
abbrev iw (a b:Letter) (p:Prop):Prop:=a.kind=b.kind/\a.frm=b.frm/\a.to=b.to/\a.term=b.term/\a.a=b.a/\a.b=b.b/\a.c=b.c/\a.bin=b.bin/\a.ok=b.ok/\a.l=b.l/\p
abbrev aT (a:Letter) (p:Prop):Prop:=I64 a.kind->I64 a.frm->I64 a.to->I64 a.term->I64 a.a->I64 a.b->I64 a.c->I64 a.bin->a.l.length*32<=140737488355328->p
abbrev dT (a b:Stable):Prop:=a.floor=b.floor/\a.term=b.term/\a.vote=b.vote/\a.log=b.log
abbrev aG (a b:Stable) (p:Prop):Prop:=a.floor=b.floor/\a.term=b.term/\a.vote=b.vote/\a.log=b.log/\p
abbrev cj (a:Stable) (p:Prop):Prop:=I64 a.floor->I64 a.term->I64 a.vote->a.log.length*32<=140737488355328->p
abbrev RL (a:Route) (p:Prop):Prop:=I64 a.frm->I64 a.to->I64 a.next->I64 a.commit->I64 a.bin->p
abbrev ZG (a b:Site):Prop:=a.up=b.up/\a.role=b.role/\a.binary=b.binary/\a.floor=b.floor/\a.term=b.term/\a.vote=b.vote/\a.commit=b.commit/\a.applied=b.applied/\a.log=b.log/\a.state.version=b.state.version/\a.state.next=b.state.next/\a.state.keep=b.state.keep/\a.state.quota=b.state.quota/\a.state.sess=b.state.sess/\a.state.opens=b.state.opens/\a.state.snaps=b.state.snaps
abbrev Ni (a b:Site) (p:Prop):Prop:=a.up=b.up/\a.role=b.role/\a.binary=b.binary/\a.floor=b.floor/\a.term=b.term/\a.vote=b.vote/\a.commit=b.commit/\a.applied=b.applied/\a.log=b.log/\a.state.version=b.state.version/\a.state.next=b.state.next/\a.state.keep=b.state.keep/\a.state.quota=b.state.quota/\a.state.sess=b.state.sess/\a.state.opens=b.state.opens/\a.state.snaps=b.state.snaps/\p
abbrev Qb (a:Site) (p:Prop):Prop:=I64 a.role->I64 a.binary->I64 a.floor->I64 a.term->I64 a.vote->I64 a.commit->I64 a.applied->a.log.length*32<=140737488355328->I64 a.state.version->I64 a.state.next->I64 a.state.keep->I64 a.state.quota->a.state.sess.length*32<=140737488355328->a.state.opens.length*16<=140737488355328->a.state.snaps.length*64<=140737488355328->p
abbrev XL (a:NOp) (p:Prop):Prop:=I64 a.n->I64 a.x.kind->I64 a.x.frm->I64 a.x.to->I64 a.x.term->I64 a.x.a->I64 a.x.b->I64 a.x.c->I64 a.x.bin->a.x.l.length*32<=140737488355328->I64 a.c.kind->I64 a.c.client->I64 a.c.seq->I64 a.c.set->I64 a.c.id->I64 a.c.n->a.c.chunks.length*8<=140737488355328->a.c.text.b.length<=140737488355328->p
def GZ (G:Gl) (a b:Nat):Gl:=⟨G.shp,G.B0,fun x=>G.Z x\/x=a\/x=b⟩
structure Adv (Z:Nat->Prop) (ρ:List RE) (w:World) (ρ':List RE) (w':World):Prop where
 os:w'.os=w.os
 tape:w'.tape=w.tape
 output:w'.output=w.output
 size:w.heap.size<=w'.heap.size
 old:∀ b,b<w.heap.size->¬ live ρ b->¬ live ρ' b/\(¬ Z b->w'.heap[b]? = w.heap[b]?)
 bx:∀ (i g:Nat),ρ[i]? = some (.blk g)->ρ'[i]? = some (.blk g)
section
variable {Z:Nat->Prop} {G:Gl} {H:AH} {ρ ρ0 ρ1 ρ2 ρ':List RE} {w w' wa wb wc:World}
def Adv.trans (h:Adv Z ρ0 wa ρ1 wb) (k:Adv Z ρ1 wb ρ2 wc):Adv Z ρ0 wa ρ2 wc:=
 ⟨k.os.trans h.os,k.tape.trans h.tape,k.output.trans h.output,Nat.le_trans h.size k.size,fun x a c=>by
  obtain ⟨d,e⟩:=h.old x a c;obtain ⟨j,l⟩:=k.old x (acv a h.size) d;exact ⟨j,fun b=>(l b).trans (e b)⟩,fun i g m=>k.bx i g (h.bx i g m)⟩
def Adv.yr (h:Ext ρ w ρ' w') (a:∀ (i g:Nat),ρ[i]? = some (.blk g)->ρ'[i]? = some (.blk g)):Adv Z ρ w ρ' w':=
 ⟨h.os,h.tape,h.output,h.size,fun b a c=>⟨(h.old b a c).1,fun _=>(h.old b a c).2⟩,a⟩
variable {l:Nat}
theorem Adv.put (o:Obj) (a:Z l):Adv Z ρ w ρ (w.putObj l o):=
 ⟨rfl,rfl,rfl,aa,fun b _ h=>⟨h,fun c=>afX (fun e=>c (e ▸ a))⟩,fun _ _ h=>h⟩
def Adv.le (e:∀ b,Z b->G.Z b) (c:∀ b,b<G.B0->b<w.heap.size/\¬ live ρ b) (g:∀ b,Z b->G.B0<=b) (h:Adv Z ρ w ρ' w'):(cx G ρ w).le (cx G ρ' w'):=
 ⟨rfl,rfl,fun b a=>⟨⟨acv a.1 h.size,(h.old b a.1 a.2.1).1,a.2.2⟩,(h.old b a.1 a.2.1).2 fun d=>a.2.2 (e b d)⟩,fun b a i=>(h.old b i (c b a).2).2 fun d=>Nat.lt_irrefl _ (acv a (g b d))⟩
theorem Rep.Iv (h:Rep G ρ H w) (o:Obj) (k:G.Z l) (p:G.B0<=l):Rep G ρ H (w.putObj l o):=by
 have a:(cx G ρ w).le (cx G ρ (w.putObj l o)):=Adv.le (Z:=fun b=>b=l) (fun b c=>c ▸ k) h.lo (fun b c=>c ▸ p) (Adv.put o rfl);refine ⟨cA h.obj.length fun i x r q m=>?_,h.inj,fun i r g s u=>?_,fun b c=>by have:=h.z b c; simpa using this,by have:=h.b0; simpa using this,h.tb.carry a⟩
 ·obtain ⟨y,d,j⟩:=h.at_ q;rw [m] at d; cases d;exact j.carry a (ky.refl _) fun g v=>afX (fun e=>(h.bnd i r g m v).2.2 (e ▸ k))
 have:=h.bnd i r g s u;simp_all
theorem Rep.enter (h:Rep G ρ H w) (a d:Obj):Rep (GZ G w.heap.size (w.heap.size+1)) ρ H ((w.alloc a).alloc d)/\(cx G ρ w).le (cx (GZ G w.heap.size (w.heap.size+1)) ρ ((w.alloc a).alloc d))/\Kp [] w ((w.alloc a).alloc d):=by
 have c:Kp [] w ((w.alloc a).alloc d):=by
  have q:=World.grownBy_alloc w a none;have s:=World.grownBy_alloc (w.alloc a) d none;refine ⟨rfl,rfl,rfl,by simp; omega,fun b hb _=>?_⟩;exact (s.block b (by simp; omega) aa).trans (q.block b hb aa)
 have e:(cx G ρ w).le (cx (GZ G w.heap.size (w.heap.size+1)) ρ ((w.alloc a).alloc d)):=⟨rfl,rfl,fun b hb=>by
  have u:b<w.heap.size:=hb.1;exact ⟨⟨acv hb.1 c.size,hb.2.1,fun hz=>by
   rcases hz with hz | hz | hz
   ·exact hb.2.2 hz
   ·omega
   omega⟩,c.block b hb.1 aa⟩,fun b _ m=>c.block b m aa⟩
 refine ⟨⟨cA h.obj.length fun i o r v p=>?_,h.inj,fun i r g x y=>?_,fun b hb=>?_,Nat.le_trans h.b0 c.size,h.tb.carry e⟩,e,c⟩
 ·obtain ⟨B,j,k⟩:=h.at_ v;rw [p] at j; cases j;exact k.carry e (ky.refl _) fun g A=>c.block g (h.bnd i r g p A).2.1 aa
 ·have:=h.bnd i r g x y;refine ⟨this.1,acv this.2.1 c.size,fun hz=>?_⟩;rcases hz with hz | hz | hz
  ·grind
  ·grind
  have:=this.2.1; omega
 have m:((w.alloc a).alloc d).heap.size=w.heap.size+1+1:=by simp
 rcases hb with hb | hb | hb
 ·exact acv (h.z b hb) c.size
 ·omega
 omega
def Rep.leave {a b:Nat} (h:Rep (GZ G a b) ρ H w) (e:∀ x,G.Z x->x<w.heap.size):Rep G ρ H w/\(cx (GZ G a b) ρ w).le (cx G ρ w):=by
 have c:(cx (GZ G a b) ρ w).le (cx G ρ w):=⟨rfl,rfl,fun x j=>⟨⟨j.1,j.2.1,fun h=>j.2.2 (.inl h)⟩,rfl⟩,fun _ _ _=>rfl⟩;refine ⟨⟨cA h.obj.length fun i o r m p=>?_,h.inj,fun i r g q s=>?_,e,h.b0,h.tb.carry c⟩,c⟩
 ·obtain ⟨u,d,k⟩:=h.at_ m;rw [p] at d; cases d;exact k.carry c (ky.refl _) fun g _=>rfl
 have:=h.bnd i r g q s;exact ⟨this.1,this.2.1,fun e=>this.2.2 (.inl e)⟩
def Hk:AV->Bool
 | .own _=>false
 | .sub _ _ _=>false
 | .elp _ _ _=>false
 | _=>true
def ae5:TV1->Bool
 | .c a=>Hk a
 | .agg l=>l.all Hk
def GO:AFr->Bool
 | []=>true
 | (_,.one t) :: r=>ae5 t && GO r
 | _ :: _=>false
def dY.eO {q:Nat × Nat} {v:Value} (h:dY ρ q v) (k:∀ (i g:Nat),ρ[i]? = some (.blk g)->ρ'[i]? = some (.blk g)):dY ρ' q v:=by
 obtain ⟨g,a,b⟩:=h;exact ⟨g,k _ _ a,b⟩
def Rd.eO {c q:Cx} {a:AV} {v:Value} (h:Rd c ρ a v) (o:Hk a=true) (j:c.le q) (k:∀ (i g:Nat),ρ[i]? = some (.blk g)->ρ'[i]? = some (.blk g)):Rd q ρ' a v:=by
 cases a;case own=>cases o
 case sub=>cases o
 case elp=>cases o
 case ptr=>exact dY.eO h k
 case np=>exact h
 case fe=>
  obtain ⟨A,d,b,m,r,e⟩:=h;exact ⟨A,d,(j.S _ b).1,m.keep (j.S _ b).2,r.carry j,e⟩
 case fn=>
  obtain ⟨s,p,b,m,e⟩:=h;exact ⟨s,p,b.imp fun _ _ h=>h.eO k,m.imp fun _ _ h=>h.eO k,e⟩
 case nf=>exact h
 case yl=>exact h
 case xx=>
  obtain ⟨p,b,m⟩:=h;exact ⟨p,b.imp fun _ _ h=>h.eO k,m.le j⟩
 case mq=>
  obtain ⟨g,b,e⟩:=h;exact ⟨g,k _ _ b,e⟩
 case dead=>exact h
 all_goals exact Pd.carry h j
def XP.eO {c b:Cx}:∀ {l:List AV} {d:List Value},All2 (Rd c ρ) l d->l.all Hk=true->c.le b -> (∀ (i g:Nat),ρ[i]? = some (.blk g)->ρ'[i]? = some (.blk g))->All2 (Rd b ρ') l d
 | [],_,h,_,_,_=>by cases h; exact .nil
 | _ :: _,_,h,a,e,k=>by
  cases h with | cons j m=>
  simp only [List.all_cons,Bool.and_eq_true] at a;exact .cons (j.eO a.1 e k) (XP.eO m a.2 e k)
def FrR.eO {c m:Cx}:∀ {fr:AFr} {F:Fr},FrR c ρ fr F->GO fr=true->c.le m -> (∀ (i g:Nat),ρ[i]? = some (.blk g)->ρ'[i]? = some (.blk g))->FrR m ρ' fr F
 | [],_,h,_,_,_=>by cases h; exact .nil
 | (i,t) :: r,_,h,b,d,k=>by
  cases h with | cons j o=>
  cases t with
  | one t=>
   simp only [GO,Bool.and_eq_true] at b;refine .cons ⟨j.1,?_⟩ (FrR.eO o b.2 d k);cases t with
   | c a=>exact Rd.eO j.2 b.1 d k
   | agg l=>obtain ⟨p,e,q⟩:=j.2; exact ⟨p,e,XP.eO q b.1 d k⟩
  | _=>cases b
end
section
variable {P:Program} {Q:Exit->Act->World->Prop} {n:Nat} {F:Fr} {w:World} {a:Act}
def MW (h:a.defers=[]):iU a []=a:=by rw [iU,<- h]
variable {ro:Option Nat} {m:Nat}
def Nx {c:Code} (h:c.wpIn (gM ro) 0 P Q a w):c.wpIn (gM ro) m P Q a w:=fun b k d e g _=>h b k d e g ac6
def kD.in0 {c:Code} (d:a.defers=[]) (h:kD P c Q a w):c.wpIn (gM ro) m P Q a w:=by
 have b:=h ro [];rw [MW d] at b;exact Nx (wpIn_mono b fun e k l ⟨o,g,i,j⟩=>by rw [i,MW g]; exact j)
variable {l:List Oper}
theorem WO.app {d g:List Oper} (h:WO P (fun e a w=>match e with | .normal=>Pa P l.toArray Q g a w | e=>Q e a w) n l d F w):WO P Q n l (d++g) F w:=fun a k ro i=>
 iu (fun e o p q b=>by
  obtain ⟨j,r,c,b⟩:=b;refine ⟨j,r,c,?_⟩;cases e with
  | normal=>exact absurd rfl q
  | _=>exact b) (fun o p ⟨j,_,c,b⟩=>by rw [c]; exact b ro i) _ (h a k ro i)
variable {tmps:Array Value} {L:Nat} {body:Code}
def WO.yield {b:List Oper} {d:Nat} {o:Op} {p:TypeId} {c:String} {j:Array Edge} {assign:Code} {q:Value->World->Prop}
  (h:∀ a d c j g,M n F a->(execOp a.eval ⟨d,o,p,c,j,g⟩).run P w = .ok (.round L f tmps assign body) w) (s:Nat.blt d n=true)
  (u:∀ ro m,RoundIn (gM ro) m P L f tmps assign body w fun e i=>∃ v,e = .returned v/\q v i) (k:∀ v i,q v i -> WO P Q n l b ((d,v) :: F) i):WO P Q n l (⟨some d,o,p,c,j,none⟩ :: b) F w:=fun a r ro x=>
 wpListIn_plain rfl fun K hK=>by
  refine ⟨fun _ _=>trivial,?_⟩;rw [ns,aeM (h a _ _ _ _ r) (fun d=>by simp)];refine ⟨(fun h=>by cases h),(u ro _).mono fun e i ⟨v,y,z⟩=>?_⟩;subst y;refine hK _ _ ?_;exact k v i z _ (r.put s) ro x
def Nj {b:Code} {R:Ending->World->Prop}
  (h:kD P b (Exit.then (fun d g=>∃ c,(Instr.beginRound L).run P g = .ok () c/\kD P body (roundPost P L R) d c/\d.defers=[]) (fun _ _ _=>False)) { tmps:=tmps,defers:=[] } w):RoundIn (gM ro) m P L f tmps b body w R:=by
 refine roundIn_of_wpIn (F:=gM ro) trivial ?_;refine wpIn_mono (kD.in0 (ro:=some L) rfl h) fun e d g i=>?_;cases e with
 | normal=>
  obtain ⟨c,j,k,o⟩:=i;exact ⟨c,j,kD.in0 (ro:=some L) o k⟩
 | _=>exact i
end
def aft (T:List (Nat × TI)) (a:AH) (b:Nat) (H':AH) (H:AH):List Prop:=
 match JA a b H [] [] H' 3 [] with
 | σ=>same (mJ H.length σ)++Zz T H H.length σ σ H'
section
variable {P:Program} {T:List (Nat × TI)} {G:Gl} {ρ ρ0:List RE} {H H0 H':AH} {w w0:World} {k0:Nat}
def MV (hT:bh P G.shp T) (e:Rep G ρ H w) (hE:Ext ρ0 w0 ρ w) (j:∀ (i g:Nat),ρ0[i]? = some (.blk g)->ρ[i]? = some (.blk g)) (k:∀ (i g:Nat),i<k0->ρ0[i]? = some (.blk g)->kV (getO H0 i)=false) (h:jw (aft T H0 k0 H' H)) :
  ∃ a,Rep G a H' w/\Ext ρ0 w0 a w/\∀ (i g:Nat),i<k0->ρ0[i]? = some (.blk g)->a[i]? = some (.blk g):=by
 replace h:=ew.1 h;refine ⟨cV ρ (JA H0 k0 H [] [] H' 3 []),nD hT e rfl (bH.1 fun p b=>h p (acz _ b)) fun p b=>h p (acB _ b),nn hE,fun i g c d=>?_⟩;exact dt (ot c (k i g c d) _ _) (j i g d)
end
section
variable {P:Program} {n:Nat} {fr:Fr} {w:World} {x y:Operand} {t t' ty e:TypeId}
variable {m:Nat}
def R.Ua {a:Option Addr} {c:Nat} (b:ev fr x=some (.slice a m c)) (d:P.underlying t=some (.slice e)):aF P n fr w (.call { callee:=.builtin .cap,args:=#[x],argTypes:=#[t] }) ty (.int .i64 (c:Int)) w:=fun _ _ _ _ _ g=>by
 simp [execOp,resolve,invoke,builtin,g.ev b,Builtin.cap_,run_underlying d,goInt]
variable {k sc:Nat} {ti:TypeInfo} {zv:Value}
def R.ac_ {base:Option Addr} {a:Nat} {b:List Value} (o:ev fr x=some (.slice base a sc)) (p:ev fr y=some (.int .i64 (k:Int))) (q:P.underlying t=some (.slice e)) (g:P.underlying t' = some (.int .i64)) (r:P.info? e=some ti) (s:ti.zero=some zv)
  (c:(Builtin.firstCells ti.size a (.slice base a sc)).run P w.drew = .ok b.toArray w.drew) (u:0<k) (v:0<ti.size) (z:sc<a+k) (i:((a+k:Nat):Int)<=9223372036854775807) (j:k*ti.bytes<=281474976710656) (d:Builtin.nextslicecap (a+k) sc*ti.bytes<=281474976710656) :
  aF P n fr w (.call { callee:=.builtin .append,args:=#[x,y],argTypes:=#[t,t'] }) ty (.slice (some ⟨w.heap.size,0,none⟩) (a+k) (grownCap w (a+k) sc e))
   (w.drew.alloc (.cells (b.toArray++Builtin.zeroCells zv.cells k++Builtin.zeroCells zv.cells (grownCap w (a+k) sc e - (a+k))) e)):=fun _ _ _ _ _ l=>by
 have h:=Lib.run_append_grow_zeros w t t' ty e ti zv .i64 .i64 q g r s base a sc b c k u v z i j d;simp [execOp,resolve,invoke,builtin,l.ev o,l.ev p,h]
variable {lb z la ca cb:Nat} {tR tB tA tS:TypeId} {curB curA:Array Value} {b a:Addr} {fA:Nat × Nat}
def UG (A:P.underlying tS=some (.slice e)) (B:(P.info? e).map (·.size)=some z) (c:a.block≠b.block) 
  (F:w.heap[a.block]? = some (.cells curA tA fA)) (l:curA.size≠0) (o:w.heap[b.block]? = some (.cells curB tB (0,0))) :
  (Extern.SlicesOverlaps.overlaps #[tS,tS] #[tR] #[.slice (some a) la ca,.slice (some b) lb cb]).run P w = .ok (.bool false) w:=by
 have p:(a.block != b.block)=true:=by simpa using c
 have d:(a.block == b.block)=false:=by simpa using c
 have q:w.frozen? b=false:=by
  simp [World.frozen?,o]
 have r:w.frozen? { block:=b.block,off:=curB.size }=false:=by
  simp [World.frozen?,o]
 have g:w.shape? a.block=some (tA,curA.size):=by simp [World.shape?,F]
 have s:w.shape? b.block=some (tB,curB.size):=by simp [World.shape?,o]
 have h:(sizeOf e).run P w = .ok z w:=by
  cases u:P.info? e with
  | none=>simp [u] at B
  | some i=>
   have G:i.size=z:=by simpa [u] using B
   simp [sizeOf,typeInfo,u,G]
 change Sem.run P (α:=Value) (do
  let some t:=(#[tS,tS]:Array TypeId)[0]? | stuck "slices.overlaps: no parameter types"
  let .slice elem <- underlying t | stuck "slices.overlaps: slice type expected"
  let size <- sizeOf elem
  match (some a:Option Addr),(some b:Option Addr) with
  | some a,some b=>
   if la=0\/lb=0\/size=0 then pure (Value.bool false)
   else if a.block != b.block && (<- frozen a) && (<- frozen b) then unsupported .addressObserved
   else do
    if a.block != b.block then do
     noView a; noView b
     if <- mayBeOne a b then return Value.bool ((<- choose (.extern "sameAddr.stringBytes" 2)) == 1)
    pure (Value.bool (a.block == b.block && a.off<b.off+lb*size && b.off<a.off+la*size))
  | _,_=>pure (Value.bool false)) w=_
 by_cases C:la=0\/lb=0\/z=0
 ·simp [run_underlying A,h,C]
 cases D:curA.size with
 | zero=>exact absurd D l
 | succ k=>
  rw [D] at g;cases v:w.frozen? a <;> cases j:w.frozen? { block:=a.block,off:=k+1 } <;>
   simp [run_underlying A,h,C,p,d,frozen,noView,viewAt,mayBeOne,stringish,shape,Sem.run,g,s,v,q,r,j]
def R.ovl {f:FuncId} {d:Array TypeId} (l:P.funcs[f]? = some fn) (c:(fn.name == "runtime.NumGoroutine")=false) (o:fn.body.isNone=true) (p:Extern.findNext fn=none) (q:Extern.find fn=some (Extern.SlicesOverlaps.overlaps #[tS,tS] #[tR]))
  (r:P.underlying tS=some (.slice e)) (s:(P.info? e).map (·.size)=some z) (g:a.block≠b.block) 
  (u:w.heap[a.block]? = some (.cells curA tA fA)) (h:curA.size≠0) (v:w.heap[b.block]? = some (.cells curB tB (0,0))) (A:ev fr x=some (.slice (some a) la ca)) (B:ev fr y=some (.slice (some b) lb cb)) :
  aF P n fr w (.call { callee:=.value (.func f),args:=#[x,y],argTypes:=d }) ty (.bool false) w:=fun ac _ _ _ _ i=>by
 have j:=run_callFunc_extern l c o p q #[.slice (some a) la ca,.slice (some b) lb cb] w;rw [UG r s g u h v] at j;have C:ac.eval (.func f) = .func (.func f) #[] #[]:=rfl;simp [execOp,resolve,C,Deferred.ofValue,invoke,i.ev A,i.ev B,j]
def WO.ve {Q:Exit->Act->World->Prop} {l c:List Oper} {d:Nat} {j:Op} {i:String} {p:Array Edge} {o:Value->World->Prop} (h:∃ v g,aF P n fr w j ty v g /\ o v g) (q:Nat.blt d n=true) (k:∀ v g,o v g -> WO P Q n l c ((d,v) :: fr) g):WO P Q n l (⟨some d,j,ty,i,p,none⟩ :: c) fr w:=by
 obtain ⟨v,g,r,s⟩:=h;exact WO.v r q (k v g s)
def R.Hh {u l v:Value} {o:World} {p:Array TypeId} (h:aF P n [] w (.call { callee:=.builtin .append,args:=#[.const u,.const l],argTypes:=p }) ty v o) (r:ev fr x=some u) (s:ev fr y=some l):aF P n fr w (.call { callee:=.builtin .append,args:=#[x,y],argTypes:=p }) ty v o:=fun a d c A g j=>by
 have q:=h a d c A g (j.sub fun i v B=>by cases B);simp only [execOp,resolve,j.ev r,j.ev s,List.map_toArray,afV] at q ⊢;exact q
variable {ad:Addr} {cur:List Value}
def R.VT {g sl c:Nat} {d:List Value} (p:ev fr x=some (.slice (some ⟨g,0,none⟩) sl sc)) (q:ev fr y=some (.slice (some ad) m c)) (r:P.underlying t=some (.slice e)) (s:P.info? e=some ti) (v:w.heap[g]? = some (.cells cur.toArray e (0,0)))
  (A:d.length=m*ti.size) (j:CellsAt w ad d) (B:∀ u ∈ d,u.oneCell' = true) (i:sl+m<=sc) (l:sl*ti.size+d.length<=cur.length) :
  aF P n fr w (.call { callee:=.builtin .append,args:=#[x,y],argTypes:=#[t,t] }) ty (.slice (some ⟨g,0,none⟩) (sl+m) sc) (w.setRow g (cur.take (sl*ti.size)++d++cur.drop (sl*ti.size+d.length)).toArray):=fun _ _ _ _ _ o=>by
 have h:=run_append_room (P:=P) w t ty e ti r s g sl sc cur.toArray v ad m c d A j B i (by simpa using l);simp [execOp,resolve,invoke,builtin,o.ev p,o.ev q,h]
variable {o:Nat}
def R.clr {g c:Nat} {i:TypeId} (j:ev fr x=some (.slice (some ⟨g,o,none⟩) m c)) (l:m=1) (p:P.underlying t=some (.slice e)) (q:P.info? e=some ti) (r:ti.zero=some zv) (s:∀ u ∈ (Builtin.zeroCells zv.cells 1).toList,u.oneCell' = true) (v:w.heap[g]? = some (.cells cur.toArray i (0,0))) (d:o+(Builtin.zeroCells zv.cells 1).toList.length<=cur.length) :
  aF P n fr w (.call { callee:=.builtin .clear,args:=#[x],argTypes:=#[t] }) ty (.tuple #[]) (w.setRow g (cur.take o++(Builtin.zeroCells zv.cells 1).toList++cur.drop (o+(Builtin.zeroCells zv.cells 1).toList.length)).toArray):=fun _ _ _ _ _ A=>by
 subst l;have h:=run_storeCells_at P g o i (Builtin.zeroCells zv.cells 1).toList 0 cur.toArray w v (by simpa using d) s;have B:(Builtin.clear_ #[t] ty #[.slice (some ⟨g,o,none⟩) 1 c]).run P w = .ok (.tuple #[]) (w.setRow g (cur.take o++(Builtin.zeroCells zv.cells 1).toList++cur.drop (o+(Builtin.zeroCells zv.cells 1).toList.length)).toArray):=by
  simp [Builtin.clear_,run_underlying p,zeroValue,typeInfo,q,r,h]
 simp [execOp,resolve,invoke,builtin,A.ev j,B]
variable {i:Nat}
def aa7 {A:Addr} {c:Nat}:(if c=i then (some A:Option Addr) else (some A:Option Addr).map (·.add (i*z)))=some (if c=i then A else A.add (i*z)):=by
 split <;> rfl
theorem vv {v:Value} (h:w.cell? a=some v):∃ cur t f,w.heap[a.block]? = some (.cells cur t f)/\cur.size≠0:=by
 unfold World.cell? at h;grind
theorem aaO {c:Cx} {s:Sh} {d:List (den s)} (h:Pd c (.fz s d) (.slice (some ad) m k)) (g:d.length≠0):c.at s ad.block:=by
 cases h with
 | fz j l p q r=>
  grind
variable {α:Type}
def XM {c g d:List α} (j:o+z<=c.length) (l:d.length=z):((c++g).take (o+z)++c.drop o++(c++g).drop (o+z+(c.drop o).length)).take o++d++((c++g).take (o+z)++c.drop o++(c++g).drop (o+z+(c.drop o).length)).drop (o+d.length)=c.take o++d++c.drop o++g.drop z:=by
 have p:(c++g).take (o+z)=c.take (o+z):=afQ j;have q:(c++g).drop (o+z+(c.drop o).length)=g.drop z:=by
  rw [List.length_drop,show o+z+(c.length - o)=c.length+z by omega,List.drop_append];simp
 have r:(c.take (o+z)).length=o+z:=by rw [List.length_take]; omega
 rw [p,q,l];generalize s:c.take (o+z)=A at *;have h:A.take o=c.take o:=by rw [<- s,ai3,afR aE]
 rw [List.append_assoc A,afQ aE,h,List.drop_left' r];simp
def Yc {cur cells d c:List α} (p:o+z<=cur.length) (g:c.length=z) (j:cur.take o=cells.take o):(cur.take o++c++cur.drop (o+c.length)).take (o+z)++d++(cur.take o++c++cur.drop (o+c.length)).drop (o+z+d.length)=cells.take o++c++d++cur.drop (o+z+d.length):=by
 have h:(cur.take o++c).length=o+z:=by rw [List.length_append,List.length_take,g]; omega
 have l:(cur.take o++c++cur.drop (o+z)).drop (o+z+d.length)=cur.drop (o+z+d.length):=by
  rw [<- af5,List.drop_left' h,af5]
 rw [g,List.take_left' h,l,j]
def fw {g c:Nat} (h:¬ c=i):(if c=i then (some ⟨g,0,none⟩:Option Addr) else (some ⟨g,0,none⟩:Option Addr).map (·.add (i*z)))=some ⟨g,i*z,none⟩:=by
 rw [if_neg h,Option.map_some,add_lit,acC]
end
def sY (z:Array Value) (n:Nat):(Builtin.zeroCells z n).toList.length=n*z.size:=by rw [Array.length_toList,size_zeroCells]
variable {w:World}
def fi {g:Nat} {o:Obj} (h:w.heap[g]? = some o):g<w.heap.size:=(af1.1 h).1
def dv:(Tryz.prog.info? 137).map (·.size)=some 4:=bN
def QB:(Tryz.prog.info? 137).map (fun i=>(i.zero,i.size,i.bytes))=some (some (.agg #[.int .i64 0,.int .i64 0,.int .i64 0,.int .i64 0]),4,32):=bN
variable {φ:Value->World->Prop} {A B:Option Addr} {vc:Nat}
set_option maxRecDepth 100000 in
def Ae {c:Nat} (a:∀ (F:Fr) (x y:Operand) (g:TypeId),ev F x=some (.slice A n c)->ev F y=some (.slice B 1 vc)->∃ b d,aF Tryz.prog 95 F w (.call { callee:=.builtin .append,args:=#[x,y],argTypes:=#[42,42] }) g b d/\φ b d) :
  jT Tryz.prog 263 [.slice A n c,.int .i64 (n:Int),.slice B 1 vc].toArray w φ:=by
 refine jT.enter Tryz.func263 rfl rfl rfl rfl ?_;refine WC.seq ?_;refine WC.region ?_;refine WO.v (R.assign rfl) rfl ?_;refine WO.nil ?_;refine WX.next ?_
 refine WC.seq ?_;refine WC.region ?_;refine WO.v (R.move rfl) rfl ?_;refine WO.v (R.move rfl) rfl ?_;refine WO.v (R.dk rfl rfl Tryz.underlying42 dv rfl aE) rfl ?_;refine WO.nil ?_;refine WX.next ?_
 refine WC.seq ?_;refine WC.region ?_;refine WO.v (R.move rfl) rfl ?_;refine WO.v (R.len rfl Tryz.underlying42) rfl ?_;refine WO.v (R.assign rfl) rfl ?_;refine WO.nil ?_;refine WX.next ?_
 refine WC.seq ?_;refine WC.seq ?_;refine WC.region ?_;refine WO.v (R.move rfl) rfl ?_;refine WO.v (R.eql rfl rfl) rfl ?_;refine WO.nil ?_;refine WX.next ?_
 refine WC.cond rfl (fun q=>absurd (acx q) aE) (fun _=>?_);refine WC.skip ?_;refine WX.next ?_
 refine WC.seq ?_;refine WC.region ?_;refine WO.v (R.move rfl) rfl ?_;refine WO.v (R.len rfl Tryz.underlying42) rfl ?_;refine WO.v (R.assign rfl) rfl ?_;refine WO.nil ?_;refine WX.next ?_
 refine WC.seq ?_;refine WC.seq ?_;refine WC.region ?_;refine WO.v (R.move rfl) rfl ?_;refine WO.v (R.move rfl) rfl ?_;refine WO.v (R.eql rfl rfl) rfl ?_;refine WO.nil ?_;refine WX.next ?_
 refine WC.cond rfl (fun _=>?_) (fun q=>absurd rfl (aha q));refine WC.seq ?_;refine WC.region ?_;refine WO.v (R.move rfl) rfl ?_;refine WO.v (R.move rfl) rfl ?_;refine WO.ve (a _ _ _ _ rfl rfl) rfl fun b d e=>?_;refine WO.v (R.assign rfl) rfl ?_;refine WO.nil ?_;refine WX.next ?_
 refine WC.ret ?_;refine WX.mc ?_;refine WX.Bp rfl rfl ?_;exact e
variable {G b i:Nat} {ad:Addr} {ds vs cur:List Value} {W1:World}
set_option maxRecDepth 100000 in
def x_ {g c:Nat} (B:i<n) (N:n<=c) (H:c<n+1) (j:c<=maxLen) (O:n+1<=G) (k:G<=maxLen)
  (l:∀ (F:Fr) (x y:Operand) (P:TypeId),ev F x=some (.slice (some ⟨g,0*4,none⟩) i c)->ev F y=some (.int .i64 ((n+1 - i:Nat):Int))->aF Tryz.prog 95 F w (.call { callee:=.builtin .append,args:=#[x,y],argTypes:=#[42,3] }) P (.slice (some ⟨b,0,none⟩) (n+1) G) W1)
  (a:W1.heap[b]? = some (.cells cur.toArray 137 (0,0))) (L:(n+1)*4<=cur.length) (Q:CellsAt W1 ad vs) (p:vs.length=4) (S:CellsAt W1 ⟨g,i*4,none⟩ ds) (r:g≠b) (m:g<W1.heap.size) (s:ds.length=(n - i)*4)
  (z:∀ u ∈ vs,u.oneCell' = true) (C:∀ u ∈ ds,u.oneCell' = true) :
  jT Tryz.prog 263 [.slice (some ⟨g,0,none⟩) n c,.int .i64 (i:Int),.slice (some ad) 1 vc].toArray w fun v T=>v = .slice (some ⟨b,0,none⟩) (n+1) G/\∃ d,Kp [] (W1.setRow b (cur.take (i*4)++vs++cur.drop (i*4+vs.length)).toArray) d/\T = d.setRow b ((cur.take (i*4)++vs++cur.drop (i*4+vs.length)).take ((i+1)*4)++ds++(cur.take (i*4)++vs++cur.drop (i*4+vs.length)).drop ((i+1)*4+ds.length)).toArray:=by
 have k:G<=9223372036854775807:=k;have j:c<=9223372036854775807:=j;have D:vs.length=Nat.min 1 (n+1 - i)*4:=by rw [show Nat.min 1 (n+1 - i)=1 from afR aE,Nat.one_mul]; exact p
 have I:ds.length=Nat.min (n - i) (n+1 - (i+1))*4:=by rw [show Nat.min (n - i) (n+1 - (i+1))=n - i from afR aE]; exact s
 refine jT.enter Tryz.func263 rfl rfl rfl rfl ?_;refine WC.seq ?_;refine WC.region ?_;refine WO.v (R.assign rfl) rfl ?_;refine WO.nil ?_;refine WX.next ?_
 refine WC.seq ?_;refine WC.region ?_;refine WO.v (R.move rfl) rfl ?_;refine WO.v (R.move rfl) rfl ?_;refine WO.v (R.dk rfl rfl Tryz.underlying42 dv rfl aE) rfl ?_;refine WO.nil ?_;refine WX.next ?_
 refine WC.seq ?_;refine WC.region ?_;refine WO.v (R.move rfl) rfl ?_;refine WO.v (R.len rfl Tryz.underlying42) rfl ?_;refine WO.v (R.assign rfl) rfl ?_;refine WO.nil ?_;refine WX.next ?_
 refine WC.seq ?_;refine WC.seq ?_;refine WC.region ?_;refine WO.v (R.move rfl) rfl ?_;refine WO.v (R.eql rfl rfl) rfl ?_;refine WO.nil ?_;refine WX.next ?_
 refine WC.cond rfl (fun q=>absurd (acx q) aE) (fun _=>?_);refine WC.skip ?_;refine WX.next ?_
 refine WC.seq ?_;refine WC.region ?_;refine WO.v (R.move rfl) rfl ?_;refine WO.v (R.len rfl Tryz.underlying42) rfl ?_;refine WO.v (R.assign rfl) rfl ?_;refine WO.nil ?_;refine WX.next ?_
 refine WC.seq ?_;refine WC.seq ?_;refine WC.region ?_;refine WO.v (R.move rfl) rfl ?_;refine WO.v (R.move rfl) rfl ?_;refine WO.v (R.eql rfl rfl) rfl ?_;refine WO.nil ?_;refine WX.next ?_
 refine WC.cond rfl (fun q=>absurd (acx q) aE) (fun _=>?_);refine WC.skip ?_;refine WX.next ?_
 refine WC.seq ?_;refine WC.seq ?_;refine WC.region ?_;refine WO.v (R.move rfl) rfl ?_;refine WO.v (R.move rfl) rfl ?_;refine WO.v (R.oA rfl rfl aE) rfl ?_;refine WO.v (R.move rfl) rfl ?_;refine WO.v (R.Ua rfl Tryz.underlying42) rfl ?_;refine WO.v (R.gtr rfl rfl) rfl ?_;refine WO.nil ?_;refine WX.next ?_
 refine WC.cond rfl (fun _=>?_) (fun q=>absurd aE (aha q));refine WC.seq ?_;refine WC.region ?_;refine WO.v (R.move rfl) rfl ?_;refine WO.v (R.move rfl) rfl ?_;refine WO.v (R.lE rfl rfl Tryz.underlying42 dv (fw (i:=0) aE) aE) rfl ?_;refine WO.v (R.move rfl) rfl ?_;refine WO.v (R.move rfl) rfl ?_;refine WO.v (R.oA rfl rfl aE) rfl ?_;refine WO.v (R.move rfl) rfl ?_;refine WO.v (R.aeL rfl rfl aE aE) rfl ?_;refine WO.v (l _ _ _ _ rfl rfl) rfl ?_;refine WO.v (R.assign rfl) rfl ?_;refine WO.nil ?_;refine WX.next ?_
 refine WC.seq ?_;refine WC.region ?_;refine WO.v (R.move rfl) rfl ?_;refine WO.v (R.move rfl) rfl ?_;refine WO.v (R.dk rfl rfl Tryz.underlying42 dv (fw aE) aE) rfl ?_;refine WO.v (R.move rfl) rfl ?_;refine WO.v (R.nI rfl rfl Tryz.underlying42 dv a D Q aE z) rfl ?_;refine WO.nil ?_;refine WX.next ?_
 refine WC.seq ?_;refine WC.wU jM [.ex [] (.slice (some ⟨b,0,none⟩) (n+1) G),.ex [] (.int .i64 ((i:Nat):Int)),.ex [] (.int .i64 ((1:Nat):Int)),.ex [1,2] (.int .i64 ((i+1:Nat):Int)),.ex [0,3] (.slice (some ⟨b,(i+1)*4,none⟩) (n+1 - (i+1)) (G - (i+1))),.ex [] (.slice (some ⟨g,0,none⟩) n c),.ex [] (.int .i64 ((i:Nat):Int)),.ex [5,6] (.slice (some ⟨g,i*4,none⟩) (n - i) (c - i))] 8 bN ⟨fun _ _ _ h _=>h,fun _ _ _ h _=>h,fun _ _ _ h _=>h,fun _ _ _ h _=>h,fun _ _ _ h _=>h,fun _ _ _ h _=>h,fun _ _ _ h _=>h,fun _ _ _ h _=>h,trivial⟩ ⟨?_,?_,?_,?_,?_,?_,?_,?_,trivial⟩ ?_
 ·rintro vs e kd ⟨-⟩;refine WO.bX (fr':=[(9,.slice (some ⟨b,0,none⟩) (n+1) G)]) ⟨⟨_,rfl,rfl⟩,trivial⟩ ?_;refine WO.v (R.move rfl) rfl ?_;refine WO.nil ?_;exact WX.aI rfl rfl (Kp.refl _)
 ·rintro vs e kd ⟨-⟩;refine WO.bX (fr':=[(1,.int .i64 ((i:Nat):Int))]) ⟨⟨_,rfl,rfl⟩,trivial⟩ ?_;refine WO.v (R.move rfl) rfl ?_;refine WO.nil ?_;exact WX.aI rfl rfl (Kp.refl _)
 ·rintro vs e kd ⟨-⟩;refine WO.bX (fr':=[(7,.int .i64 ((1:Nat):Int))]) ⟨⟨_,rfl,rfl⟩,trivial⟩ ?_;refine WO.v (R.move rfl) rfl ?_;refine WO.nil ?_;exact WX.aI rfl rfl (Kp.refl _)
 ·rintro vs e kd ⟨U,V,-⟩;refine WO.bX (fr':=[(47,.int .i64 ((i:Nat):Int)),(48,.int .i64 ((1:Nat):Int))]) ⟨⟨_,rfl,U⟩,⟨_,rfl,V⟩,trivial⟩ ?_;refine WO.v (R.oA rfl rfl aE) rfl ?_;refine WO.nil ?_;exact WX.aI rfl rfl (Kp.refl _)
 ·rintro vs e kd ⟨W,X,-⟩;refine WO.bX (fr':=[(46,.slice (some ⟨b,0,none⟩) (n+1) G),(49,.int .i64 ((i+1:Nat):Int))]) ⟨⟨_,rfl,W⟩,⟨_,rfl,X⟩,trivial⟩ ?_;refine WO.v (R.dk rfl rfl Tryz.underlying42 dv (fw aE) aE) rfl ?_;refine WO.nil ?_;exact WX.aI rfl rfl (Kp.refl _)
 ·rintro vs e kd ⟨-⟩;refine WO.bX (fr':=[(0,.slice (some ⟨g,0,none⟩) n c)]) ⟨⟨_,rfl,rfl⟩,trivial⟩ ?_;refine WO.v (R.move rfl) rfl ?_;refine WO.nil ?_;exact WX.aI rfl rfl (Kp.refl _)
 ·rintro vs e kd ⟨-⟩;refine WO.bX (fr':=[(1,.int .i64 ((i:Nat):Int))]) ⟨⟨_,rfl,rfl⟩,trivial⟩ ?_;refine WO.v (R.move rfl) rfl ?_;refine WO.nil ?_;exact WX.aI rfl rfl (Kp.refl _)
 ·rintro vs e kd ⟨Y,Z,-⟩;refine WO.bX (fr':=[(51,.slice (some ⟨g,0,none⟩) n c),(52,.int .i64 ((i:Nat):Int))]) ⟨⟨_,rfl,Y⟩,⟨_,rfl,Z⟩,trivial⟩ ?_;refine WO.v (R.dk rfl rfl Tryz.underlying42 dv (fw aE) aE) rfl ?_;refine WO.nil ?_;exact WX.aI rfl rfl (Kp.refl _)
 rintro f d o ⟨-,-,-,-,t,-,-,A,-⟩;replace o:Kp [] (W1.setRow b (cur.take (i*4)++vs++cur.drop (i*4+vs.length)).toArray) d:=o;refine WO.bX (fr':=[(50,.slice (some ⟨b,(i+1)*4,none⟩) (n+1 - (i+1)) (G - (i+1))),(53,.slice (some ⟨g,i*4,none⟩) (n - i) (c - i)),(9,.slice (some ⟨b,0,none⟩) (n+1) G)]) ⟨⟨_,rfl,t⟩,⟨_,rfl,A⟩,⟨_,rfl,rfl⟩,trivial⟩ ?_;have J:d.heap[b]? = some (.cells (List.toArray (cur.take (i*4)++vs++cur.drop (i*4+vs.length))) 137 (0,0)):=by rw [o.block b (by simpa using fi a) aa]; exact afU W1 b _ _ 137 _ a
 have K:CellsAt d ⟨g,i*4,none⟩ ds:=(S.kp (Kp.setRow W1 b _) m (by simpa using r.symm)).kp o (by simpa using m) aa;refine WO.v (R.nI rfl rfl Tryz.underlying42 dv J I K (by simp only [List.length_append,List.length_take,List.length_drop]; omega) C) rfl ?_;refine WO.nil ?_;refine WX.next ?_
 refine WC.seq ?_;refine WC.region ?_;refine WO.v (R.move rfl) rfl ?_;refine WO.v (R.assign rfl) rfl ?_;refine WO.nil ?_;refine WX.next ?_
 refine WC.ret ?_;refine WX.mc ?_;refine WX.Bp rfl rfl ?_;exact ⟨rfl,d,o,rfl⟩
variable {tA:TypeId} {fA:Nat × Nat} {curA:Array Value}
set_option maxRecDepth 100000 in
def uE {g c:Nat} (Y:i<n) (Z:n+1<=c) (l:c<=maxLen)
  (a:w.heap[g]? = some (.cells cur.toArray 137 (0,0))) (I:(n+1)*4<=cur.length) (J:CellsAt w ad vs) (e:w.heap[ad.block]? = some (.cells curA tA fA)) (m:curA.size≠0) (o:ad.block≠g) (r:vs.length=4) (K:CellsAt w ⟨g,i*4,none⟩ ds) (s:ds.length=(n - i)*4)
  (x:∀ u ∈ vs,u.oneCell' = true) (y:∀ u ∈ ds,u.oneCell' = true) :
  jT Tryz.prog 263 [.slice (some ⟨g,0,none⟩) n c,.int .i64 (i:Int),.slice (some ad) 1 vc].toArray w fun v L=>v = .slice (some ⟨g,0,none⟩) (n+1) c/\∃ d,Kp [] w d/\L = (d.setRow g (cur.take ((i+1)*4)++ds++cur.drop ((i+1)*4+ds.length)).toArray).setRow g ((cur.take ((i+1)*4)++ds++cur.drop ((i+1)*4+ds.length)).take (i*4)++vs++(cur.take ((i+1)*4)++ds++cur.drop ((i+1)*4+ds.length)).drop (i*4+vs.length)).toArray:=by
 have l:c<=9223372036854775807:=l;have z:vs.length=Nat.min 1 (n+1 - i)*4:=by rw [show Nat.min 1 (n+1 - i)=1 from afR aE,Nat.one_mul]; exact r
 have C:ds.length=Nat.min (n+1 - i) (n+1 - (i+1))*4:=by rw [show Nat.min (n+1 - i) (n+1 - (i+1))=n+1 - (i+1) from aie aE,s]; congr 1; omega
 refine jT.enter Tryz.func263 rfl rfl rfl rfl ?_;refine WC.seq ?_;refine WC.region ?_;refine WO.v (R.assign rfl) rfl ?_;refine WO.nil ?_;refine WX.next ?_
 refine WC.seq ?_;refine WC.region ?_;refine WO.v (R.move rfl) rfl ?_;refine WO.v (R.move rfl) rfl ?_;refine WO.v (R.dk rfl rfl Tryz.underlying42 dv rfl aE) rfl ?_;refine WO.nil ?_;refine WX.next ?_
 refine WC.seq ?_;refine WC.region ?_;refine WO.v (R.move rfl) rfl ?_;refine WO.v (R.len rfl Tryz.underlying42) rfl ?_;refine WO.v (R.assign rfl) rfl ?_;refine WO.nil ?_;refine WX.next ?_
 refine WC.seq ?_;refine WC.seq ?_;refine WC.region ?_;refine WO.v (R.move rfl) rfl ?_;refine WO.v (R.eql rfl rfl) rfl ?_;refine WO.nil ?_;refine WX.next ?_
 refine WC.cond rfl (fun q=>absurd (acx q) aE) (fun _=>?_);refine WC.skip ?_;refine WX.next ?_
 refine WC.seq ?_;refine WC.region ?_;refine WO.v (R.move rfl) rfl ?_;refine WO.v (R.len rfl Tryz.underlying42) rfl ?_;refine WO.v (R.assign rfl) rfl ?_;refine WO.nil ?_;refine WX.next ?_
 refine WC.seq ?_;refine WC.seq ?_;refine WC.region ?_;refine WO.v (R.move rfl) rfl ?_;refine WO.v (R.move rfl) rfl ?_;refine WO.v (R.eql rfl rfl) rfl ?_;refine WO.nil ?_;refine WX.next ?_
 refine WC.cond rfl (fun q=>absurd (acx q) aE) (fun _=>?_);refine WC.skip ?_;refine WX.next ?_
 refine WC.seq ?_;refine WC.seq ?_;refine WC.region ?_;refine WO.v (R.move rfl) rfl ?_;refine WO.v (R.move rfl) rfl ?_;refine WO.v (R.oA rfl rfl aE) rfl ?_;refine WO.v (R.move rfl) rfl ?_;refine WO.v (R.Ua rfl Tryz.underlying42) rfl ?_;refine WO.v (R.gtr rfl rfl) rfl ?_;refine WO.nil ?_;refine WX.next ?_
 refine WC.cond rfl (fun q=>absurd (acx q) aE) (fun _=>?_);refine WC.skip ?_;refine WX.next ?_
 refine WC.seq ?_;refine WC.region ?_;refine WO.v (R.move rfl) rfl ?_;refine WO.v (R.move rfl) rfl ?_;refine WO.v (R.move rfl) rfl ?_;refine WO.v (R.oA rfl rfl aE) rfl ?_;refine WO.v (R.lE rfl rfl Tryz.underlying42 dv (fw (i:=0) aE) aE) rfl ?_;refine WO.v (R.assign rfl) rfl ?_;refine WO.nil ?_;refine WX.next ?_
 refine WC.seq ?_;refine WC.seq ?_;refine WC.region ?_;refine WO.v (R.move rfl) rfl ?_;refine WO.v (R.move rfl) rfl ?_;refine WO.v (R.move rfl) rfl ?_;refine WO.v (R.move rfl) rfl ?_;refine WO.v (R.oA rfl rfl aE) rfl ?_;refine WO.v (R.dk rfl rfl Tryz.underlying42 dv (fw aE) aE) rfl ?_;refine WO.v (R.ovl (tS:=42) (tR:=4) Tryz.func279 rfl rfl bN bN Tryz.underlying42 dv o e m a rfl rfl) rfl ?_;refine WO.v (R.not rfl) rfl ?_;refine WO.nil ?_;refine WX.next ?_
 refine WC.Ff rfl ?_;refine WC.seq ?_;refine WC.wU jM [.ex [] (.slice (some ⟨g,0,none⟩) (n+1) c),.ex [] (.int .i64 ((i:Nat):Int)),.ex [] (.int .i64 ((1:Nat):Int)),.ex [1,2] (.int .i64 ((i+1:Nat):Int)),.ex [0,3] (.slice (some ⟨g,(i+1)*4,none⟩) (n+1 - (i+1)) (c - (i+1))),.ex [] (.slice (some ⟨g,0,none⟩) (n+1) c),.ex [] (.int .i64 ((i:Nat):Int)),.ex [5,6] (.slice (some ⟨g,i*4,none⟩) (n+1 - i) (c - i))] 8 bN ⟨fun _ _ _ h _=>h,fun _ _ _ h _=>h,fun _ _ _ h _=>h,fun _ _ _ h _=>h,fun _ _ _ h _=>h,fun _ _ _ h _=>h,fun _ _ _ h _=>h,fun _ _ _ h _=>h,trivial⟩ ⟨?_,?_,?_,?_,?_,?_,?_,?_,trivial⟩ ?_
 ·rintro vs j kd ⟨-⟩;refine WO.bX (fr':=[(0,.slice (some ⟨g,0,none⟩) (n+1) c)]) ⟨⟨_,rfl,rfl⟩,trivial⟩ ?_;refine WO.v (R.move rfl) rfl ?_;refine WO.nil ?_;exact WX.aI rfl rfl (Kp.refl _)
 ·rintro vs j kd ⟨-⟩;refine WO.bX (fr':=[(1,.int .i64 ((i:Nat):Int))]) ⟨⟨_,rfl,rfl⟩,trivial⟩ ?_;refine WO.v (R.move rfl) rfl ?_;refine WO.nil ?_;exact WX.aI rfl rfl (Kp.refl _)
 ·rintro vs j kd ⟨-⟩;refine WO.bX (fr':=[(7,.int .i64 ((1:Nat):Int))]) ⟨⟨_,rfl,rfl⟩,trivial⟩ ?_;refine WO.v (R.move rfl) rfl ?_;refine WO.nil ?_;exact WX.aI rfl rfl (Kp.refl _)
 ·rintro vs j kd ⟨N,P,-⟩;refine WO.bX (fr':=[(70,.int .i64 ((i:Nat):Int)),(71,.int .i64 ((1:Nat):Int))]) ⟨⟨_,rfl,N⟩,⟨_,rfl,P⟩,trivial⟩ ?_;refine WO.v (R.oA rfl rfl aE) rfl ?_;refine WO.nil ?_;exact WX.aI rfl rfl (Kp.refl _)
 ·rintro vs j kd ⟨Q,S,-⟩;refine WO.bX (fr':=[(69,.slice (some ⟨g,0,none⟩) (n+1) c),(72,.int .i64 ((i+1:Nat):Int))]) ⟨⟨_,rfl,Q⟩,⟨_,rfl,S⟩,trivial⟩ ?_;refine WO.v (R.dk rfl rfl Tryz.underlying42 dv (fw aE) aE) rfl ?_;refine WO.nil ?_;exact WX.aI rfl rfl (Kp.refl _)
 ·rintro vs j kd ⟨-⟩;refine WO.bX (fr':=[(0,.slice (some ⟨g,0,none⟩) (n+1) c)]) ⟨⟨_,rfl,rfl⟩,trivial⟩ ?_;refine WO.v (R.move rfl) rfl ?_;refine WO.nil ?_;exact WX.aI rfl rfl (Kp.refl _)
 ·rintro vs j kd ⟨-⟩;refine WO.bX (fr':=[(1,.int .i64 ((i:Nat):Int))]) ⟨⟨_,rfl,rfl⟩,trivial⟩ ?_;refine WO.v (R.move rfl) rfl ?_;refine WO.nil ?_;exact WX.aI rfl rfl (Kp.refl _)
 ·rintro vs j kd ⟨T,U,-⟩;refine WO.bX (fr':=[(74,.slice (some ⟨g,0,none⟩) (n+1) c),(75,.int .i64 ((i:Nat):Int))]) ⟨⟨_,rfl,T⟩,⟨_,rfl,U⟩,trivial⟩ ?_;refine WO.v (R.dk rfl rfl Tryz.underlying42 dv (fw aE) aE) rfl ?_;refine WO.nil ?_;exact WX.aI rfl rfl (Kp.refl _)
 rintro V d k ⟨-,-,-,-,W,-,-,X,-⟩;replace k:Kp [] w d:=k;refine WO.bX (fr':=[(73,.slice (some ⟨g,(i+1)*4,none⟩) (n+1 - (i+1)) (c - (i+1))),(76,.slice (some ⟨g,i*4,none⟩) (n+1 - i) (c - i)),(0,.slice (some ⟨g,0,none⟩) (n+1) c),(1,.int .i64 ((i:Nat):Int)),(2,.slice (some ad) 1 vc)]) ⟨⟨_,rfl,W⟩,⟨_,rfl,X⟩,⟨_,rfl,rfl⟩,⟨_,rfl,rfl⟩,⟨_,rfl,rfl⟩,trivial⟩ ?_;have p:d.heap[g]? = some (.cells (List.toArray cur) 137 (0,0)):=by rw [k.block g (fi a) aa]; exact a
 refine WO.v (R.nI rfl rfl Tryz.underlying42 dv p C (K.kp k (fi a) aa) aE y) rfl ?_;refine WO.nil ?_;refine WX.next ?_
 have D:(d.setRow g (cur.take ((i+1)*4)++ds++cur.drop ((i+1)*4+ds.length)).toArray).heap[g]? = some (.cells (List.toArray (cur.take ((i+1)*4)++ds++cur.drop ((i+1)*4+ds.length))) 137 (0,0)):=afU d g _ _ 137 _ p;have F:CellsAt (d.setRow g (cur.take ((i+1)*4)++ds++cur.drop ((i+1)*4+ds.length)).toArray) ad vs:=(J.kp k (fi e) aa).kp (Kp.setRow d g _) (acv (fi e) k.size) (by simpa using fun h=>o h.symm);refine WC.seq ?_;refine WC.region ?_;refine WO.v (R.move rfl) rfl ?_;refine WO.v (R.move rfl) rfl ?_;refine WO.v (R.dk rfl rfl Tryz.underlying42 dv (fw aE) aE) rfl ?_;refine WO.v (R.move rfl) rfl ?_;refine WO.v (R.nI rfl rfl Tryz.underlying42 dv D z F (by simp only [List.length_append,List.length_take,List.length_drop]; omega) x) rfl ?_;refine WO.nil ?_;refine WX.next ?_
 refine WC.seq ?_;refine WC.region ?_;refine WO.v (R.move rfl) rfl ?_;refine WO.v (R.assign rfl) rfl ?_;refine WO.nil ?_;refine WX.next ?_
 refine WC.ret ?_;refine WX.mc ?_;refine WX.Bp rfl rfl ?_;exact ⟨rfl,d,k,rfl⟩
variable {k:Nat} {bAV:AV} {cys:List Value} {ρ:List RE}
def zq {G:Gl} (hs:G.shp=ak tyT) (Y:Rep G ρ H w) {l m:List (den (.nm .sess))} (Z:getO H 0 = .row 137 (.nm .sess) l) (hl:l.length<1048576) (hi:i<=l.length) {v0:Value} (h0:Rd (cx G ρ w) ρ (.own 0) v0)
  (hm:m.length=1) (f:Rd (cx G ρ w) ρ bAV (.slice (some ad) 1 k)) (hbv:(bAV.vw H).fS (.nm .sess)=some m) (hv:CellsAt w ad cys) (C:cys.length=4) (h1v:∀ u ∈ cys,u.oneCell' = true) (hp:Pds (cx G ρ w) (m.flatMap (cellsOf (.nm .sess))) cys)
  (hne:∀ g c n z,ρ[0]? = some (.row g c n z)->ad.block≠g) (hvb:w.heap[ad.block]? = some (.cells curA tA fA)) (hvb0:curA.size≠0) :
  jT Tryz.prog 263 [v0,.int .i64 (i:Int),.slice (some ad) 1 k].toArray w fun v q=>∃ o,Stp (gF 0) ρ w o q /\ Rep G o ((iF (AV.kill 0) H).set 0 (.row 137 (.nm .sess) (l.take i++m++l.drop i))) q /\ Rd (cx G o q) o (.own 0) v:=by
 have hT:bh Tryz.prog G.shp tyT:=hs ▸ dF;obtain ⟨hshp,hlen⟩:=dD Y Z;have hl64:l.length<=9223372036854775807:=by omega
 have hin:((l.length:Nat):Int)<=9223372036854775807:=by omega
 by_cases hie:i=l.length
 ·subst hie;have hc:∃ A c,v0 = .slice A l.length c:=by
   rcases h0 with ⟨g,d,len,z,s,rfl⟩ | ⟨s,a,rfl⟩
   ·rcases bE Y Z with ⟨r,_⟩ | ⟨g',U,cells,t,r,_⟩
    ·rw [s] at r; cases r
    rw [s] at r; cases r; exact ⟨_,_,rfl⟩
   rcases bE Y Z with ⟨_,r⟩ | ⟨g',U,cells,t,r,_⟩
   ·subst r; exact ⟨_,_,rfl⟩
   rw [s] at r; cases r
  obtain ⟨A,c,rfl⟩:=hc;refine Ae fun F x y ty hx hy=>?_;have D:kg tyT (gF 0) ([]:AFr) H 42 (.own 0) bAV=some ⟨one (.own 0),[],(iF (AV.kill 0) H).set 0 (.row 137 (.nm .sess) (l++m)),[(l.length+m.length)*(Sh.nm NT.sess).bytes<=140737488355328],[]⟩:=by
   unfold kg;rw [show a_ tyT 42=some ⟨.sl 137 (some (.nm .sess)),1,[.em true]⟩ from by kernel_rfl];simp only [hbv,mf,Z];rfl
  obtain ⟨v,q,s,o,r,h3,_,h5,_⟩:=jY (P:=Tryz.prog) (n:=95) (F:=[]) (ty:=ty) (fr:=[]) (x:=.const (.slice A l.length c)) (y:=.const (.slice (some ad) 1 k)) hT Y .nil D (by
   intro p hp;rw [acr] at hp; subst hp;show (l.length+m.length)*32<=_;omega) h0 f rfl rfl
  refine ⟨v,q,R.Hh s hx hy,o,r,?_,h5⟩;rw [List.take_length,List.drop_length,ad8];exact h3
 have B:i<l.length:=by omega
 rcases bE Y Z with ⟨_,r⟩ | ⟨g,d,cells,t,I,hg,N,hsz,hcap,J⟩
 ·subst r; simp at B
 obtain ⟨hnb,hil,hiH⟩:=na Y Z;have hv0:v0 = .slice (some ⟨g,0,none⟩) l.length d:=by
  rcases h0 with ⟨g',U,len,z,s,rfl⟩ | ⟨s,a,rfl⟩
  ·rw [I] at s; cases s; rfl
  rw [I] at s; cases s
 subst hv0;have hz:(Sh.nm NT.sess).size=4:=rfl;have hby:(Sh.nm NT.sess).bytes=32:=rfl;have hcl:cells.length=l.length*4:=by rw [<- N.length,bU,hz]
 rw [hz,List.length_append] at hsz;have V:∀ u ∈ cells.drop (i*4),u.oneCell' = true:=fun u hu=>N.Md u (ahO hu);have hd:CellsAt w ⟨g,i*4,none⟩ (cells.drop (i*4)):=by
  have:=(cw hg).shift (i*4);rwa [add_lit,acC] at this
 have hdl:(cells.drop (i*4)).length=(l.length - i)*4:=by rw [List.length_drop,hcl]; omega
 have O:=fi hg;have hzl:(l.take i++m++l.drop i).length=l.length+1:=by
  rw [List.length_append,List.length_append,List.length_take,List.length_drop,hm]; omega
 have hnew:∀ {c:Cx},(cx G ρ w).le c->Pds c ((l.take i++m++l.drop i).flatMap (cellsOf (.nm .sess))) (cells.take (i*4)++cys++cells.drop (i*4)):=fun {c} hle=>by
  rw [List.flatMap_append,List.flatMap_append];exact (((bC N i).append hp).append (bV N i)).carry hle
 have hnl:(cells.take (i*4)++cys++cells.drop (i*4)).length=(l.length+1)*4:=by
  rw [List.length_append,List.length_append,List.length_take,List.length_drop,hcl,C]; omega
 have hbig:(l.take i++m++l.drop i).length*(Sh.nm NT.sess).bytes<=140737488355328:=by rw [hzl,hby]; omega
 have fin:∀ (S:List Nat) (W j:Nat) (Q:List Value) (q:World),Kp S w q -> (∀ b ∈ S,b=g)->(W=g\/w.heap.size<=W)->q.heap[W]? = some (.cells (List.toArray (cells.take (i*4)++cys++cells.drop (i*4)++Q)) 137 (0,0))->(l.length+1)*4+Q.length=j*4->l.length+1<=j->j<=maxLen ->
   ∃ o,Stp (gF 0) ρ w o q /\ Rep G o ((iF (AV.kill 0) H).set 0 (.row 137 (.nm .sess) (l.take i++m++l.drop i))) q /\ Rd (cx G o q) o (.own 0) (.slice (some ⟨W,0,none⟩) (l.length+1) j):=by
  intro S W j Q q hk hS hg2 hh hlen2 hle2 hmax2;obtain ⟨k1,k2,_⟩:=jv (ro:=gF 0) (s':=.nm .sess) (e':=137) (zs:=l.take i++m++l.drop i) Y Z ⟨rfl,rfl⟩ hk (fun b f=>⟨_,I,by rw [hS b f]; rfl⟩) (r':=.row W j (l.take i++m++l.drop i).length (Sh.nm NT.sess).size) (fun b f=>by
   cases f;rcases hg2 with rfl | hg2
   ·exact .inl ⟨_,I,rfl⟩
   exact .inr ⟨hg2,fi hh⟩) (fun hle=>⟨hshp,hbig,.inr ⟨W,j,_,Q,rfl,hh,hnew hle,by rw [List.length_append,hnl,hz]; exact hlen2,by rw [hzl]; exact hle2,hmax2⟩⟩)
  exact ⟨_,k1,k2,.inl ⟨W,j,_,_,adU hil,by rw [hzl]⟩⟩
 have eo:(i+1)*4=i*4+4:=by omega
 by_cases K:l.length+1<=d
 ·refine (uE B K J hg (by rw [List.length_append]; omega) hv hvb hvb0 (hne _ _ _ _ I) C hd hdl h1v V).mono fun v q ⟨e1,X,k1,e2⟩=>?_;subst e1; subst e2;rw [eo,XM aE C];have hk:Kp [g] w ((X.setRow g ((cells++t).take (i*4+4)++cells.drop (i*4)++(cells++t).drop (i*4+4+(cells.drop (i*4)).length)).toArray).setRow g (cells.take (i*4)++cys++cells.drop (i*4)++t.drop 4).toArray):=((k1.sub aa).step (Kp.setRow X g _) aa).step (Kp.setRow _ g _) aa;have hg1:X.heap[g]? = some (.cells (List.toArray (cells++t)) 137 (0,0)):=by rw [k1.block g O aa]; exact hg
  exact fin [g] g d (t.drop 4) _ hk aa (.inl rfl) (afU _ g _ _ 137 _ (afU X g _ _ 137 _ hg1)) (by rw [List.length_drop]; omega) K J
 obtain ⟨ti,hi0,hz0,hz1,hz2⟩:=info_parts QB;have eik:i+(l.length+1 - i)=l.length+1:=by omega
 have hge:=grownCap_ge w (l.length+1) d 137;have hgm:=grownCap_le_maxLen w (l.length+1) d 137 (by simp [maxLen]; omega);have hold:(Builtin.firstCells ti.size i (.slice (some ⟨g,0*4,none⟩) i d)).run Tryz.prog w.drew = .ok (cells.take (i*4)).toArray w.drew:=by
  have h:=aih (P:=Tryz.prog) w.drew ⟨g,0*4,none⟩ (cells.take (i*4)) (by rw [ajp]; exact (cw hg).take _);rw [List.length_take,afR aE] at h;rw [hz1]; exact h
 have D:∀ (F:Fr) (x y:Operand) (ty:TypeId),ev F x=some (.slice (some ⟨g,0*4,none⟩) i d)->ev F y=some (.int .i64 ((l.length+1 - i:Nat):Int))->aF Tryz.prog 95 F w (.call { callee:=.builtin .append,args:=#[x,y],argTypes:=#[42,3] }) ty (.slice (some ⟨w.heap.size,0,none⟩) (l.length+1) (grownCap w (l.length+1) d 137)) (w.drew.alloc (.cells (List.toArray (cells.take (i*4)++((Builtin.zeroCells (Value.agg #[.int .i64 0,.int .i64 0,.int .i64 0,.int .i64 0]).cells (l.length+1 - i)).toList++(Builtin.zeroCells (Value.agg #[.int .i64 0,.int .i64 0,.int .i64 0,.int .i64 0]).cells (grownCap w (l.length+1) d 137 - (l.length+1))).toList))) 137)):=fun F x y ty hx hy=>by
  have h:=R.ac_ (P:=Tryz.prog) (n:=95) (ty:=ty) hx hy Tryz.underlying42 Tryz.underlying3 hi0 hz0 hold aE (by rw [hz1]; decide) aE aE (by rw [hz2]; omega) (by rw [hz2,eik]; exact ajA aE aE);rw [eik] at h;have e:∀ (a:List Value) (b c:Array Value),a.toArray++b++c=(a++(b.toList++c.toList)).toArray:=fun a b c=>by apply agd; simp
  rw [e] at h;exact h
 have hcurl:(cells.take (i*4)++((Builtin.zeroCells (Value.agg #[.int .i64 0,.int .i64 0,.int .i64 0,.int .i64 0]).cells (l.length+1 - i)).toList++(Builtin.zeroCells (Value.agg #[.int .i64 0,.int .i64 0,.int .i64 0,.int .i64 0]).cells (grownCap w (l.length+1) d 137 - (l.length+1))).toList)).length=grownCap w (l.length+1) d 137*4:=by
  rw [List.length_append,List.length_append,List.length_take,sY,sY];show min _ _+((l.length+1 - i)*4+(grownCap w (l.length+1) d 137 - (l.length+1))*4)=_;omega
 have htk:(cells.take (i*4)++((Builtin.zeroCells (Value.agg #[.int .i64 0,.int .i64 0,.int .i64 0,.int .i64 0]).cells (l.length+1 - i)).toList++(Builtin.zeroCells (Value.agg #[.int .i64 0,.int .i64 0,.int .i64 0,.int .i64 0]).cells (grownCap w (l.length+1) d 137 - (l.length+1))).toList)).take (i*4)=cells.take (i*4):=List.take_left' (by rw [List.length_take]; omega);generalize grownCap w (l.length+1) d 137=GC at *;generalize cells.take (i*4)++((Builtin.zeroCells (Value.agg #[.int .i64 0,.int .i64 0,.int .i64 0,.int .i64 0]).cells (l.length+1 - i)).toList++(Builtin.zeroCells (Value.agg #[.int .i64 0,.int .i64 0,.int .i64 0,.int .i64 0]).cells (GC - (l.length+1))).toList)=cur at *;have T:Kp [] w (w.drew.alloc (.cells (List.toArray cur) 137)):=((Kp.refl w).drew).step (Kp.alloc w.drew _) aa;have L:(w.drew.alloc (.cells (List.toArray cur) 137)).heap[w.heap.size]? = some (.cells (List.toArray cur) 137 (0,0)):=af6 w.drew _;generalize w.drew.alloc (.cells (List.toArray cur) 137)=W1 at *;refine (x_ B hcap aE J hge hgm D L aE (hv.kp T (fi hvb) aa) C (hd.kp T O aa) aE (acv O T.size) hdl h1v V).mono fun v q ⟨e1,X,k1,e2⟩=>?_;subst e1; subst e2;rw [eo,Yc (cells:=cells) aE C htk];have hs1:∀ b ∈ [w.heap.size],b ∈ ([]:List Nat)\/w.heap.size<=b:=fun b f=>.inr (by rw [acr] at f; omega);have hk:Kp [] w (X.setRow w.heap.size (cells.take (i*4)++cys++cells.drop (i*4)++cur.drop (i*4+4+(cells.drop (i*4)).length)).toArray):=((T.step (Kp.setRow W1 w.heap.size _) hs1).step k1 aa).step (Kp.setRow X w.heap.size _) hs1;have hg1:=(k1.block w.heap.size (by simpa using fi L) aa).trans (afU W1 w.heap.size _ (cur.take (i*4)++cys++cur.drop (i*4+cys.length)).toArray 137 _ L);exact fin [] w.heap.size GC _ _ hk aa (.inr (Nat.le_refl _)) (afU X w.heap.size _ _ 137 _ hg1) (by rw [List.length_drop]; omega) hge hgm
def xR (i:Int) (l m:List (den (.nm .sess))) (h:0<=i/\i<=(l.length:Int)) (Q:l.length<1048576) (p:m.length=1):Sat Tryz.prog (ak tyT) 263 [.c (.own 0),.c (.int i),.c (.own 1)] [.row 137 (.nm .sess) l,.row 137 (.nm .sess) m] ⟨[0<=i/\i<=(l.length:Int),l.length<1048576,m.length=1],[.c (.own 0)],some [.row 137 (.nm .sess) (l.take i.toNat++m++l.drop i.toNat),.row 137 (.nm .sess) m],false⟩:=by
 refine ⟨⟨_,Tryz.func263,am,rfl⟩,fun G ρ w vs S q d=>?_⟩;obtain ⟨i,rfl⟩:=aa5 h.1;cases d with | cons r d=>
 cases d with | cons s d=>
 cases d with | cons j d=>
 cases d;have s:Pd (cx G ρ w) (.int (i:Int)) _:=s;cases s;have r:Rd (cx G ρ w) ρ (.own 0) _:=r;have j:Rd (cx G ρ w) ρ (.own 1) _:=j;have T:getO [AO.row 137 (.nm .sess) l,.row 137 (.nm .sess) m] 0 = .row 137 (.nm .sess) l:=rfl;have o:(AV.vw [AO.row 137 (.nm .sess) l,.row 137 (.nm .sess) m] (.own 1)).fS (.nm .sess)=some m:=by simp [AV.vw,AV.fS,getO]
 obtain ⟨A,k,cys,rfl,x,U,I,V⟩:=oB q o j;rw [p] at j x I;rw [p];obtain ⟨ad,rfl,J⟩:∃ ad,A=some ad/\CellsAt w ad cys:=I.resolve_left am;have W:(Sh.nm NT.sess).size=4:=rfl;rw [W] at x;obtain ⟨u,X⟩:∃ u,cys[0]? = some u:=⟨_,List.getElem?_eq_getElem aE⟩;obtain ⟨cur,t,f,K,y⟩:=vv (J 0 u X);have C:∀ g c n z,ρ[0]? = some (.row g c n z)->ad.block≠g:=fun g c n z Y e=>by
  rcases j with ⟨H,L,len,O,N,D⟩ | ⟨N,a,D⟩
  ·cases D;have:=q.inj 0 1 _ _ g Y N rfl (by rw [<- e]; rfl);omega
  cases D
 rw [gb] at K;refine (zq S q T Q aE r p j o J x U V C K y).mono fun v w' ⟨F,P,Z,b⟩=>?_;exact ⟨[v],rfl,F,Z,P.ext,P.bx,.cons b .nil,fun B=>by cases B⟩
def dy:(Tryz.prog.info? 139).map (·.size)=some 2:=bN
def EU:(Tryz.prog.info? 139).map (fun i=>(i.zero,i.size,i.bytes))=some (some (.agg #[.int .i64 0,.int .i64 0]),2,16):=bN
set_option maxRecDepth 100000 in
def Df {c:Nat} (a:∀ (F:Fr) (x y:Operand) (h:TypeId),ev F x=some (.slice A n c)->ev F y=some (.slice B 1 vc)->∃ d e,aF Tryz.prog 95 F w (.call { callee:=.builtin .append,args:=#[x,y],argTypes:=#[43,43] }) h d e/\φ d e) :
  jT Tryz.prog 341 [.slice A n c,.int .i64 (n:Int),.slice B 1 vc].toArray w φ:=by
 refine jT.enter Tryz.func341 rfl rfl rfl rfl ?_;refine WC.seq ?_;refine WC.region ?_;refine WO.v (R.assign rfl) rfl ?_;refine WO.nil ?_;refine WX.next ?_
 refine WC.seq ?_;refine WC.region ?_;refine WO.v (R.move rfl) rfl ?_;refine WO.v (R.move rfl) rfl ?_;refine WO.v (R.dk rfl rfl Tryz.underlying43 dy rfl aE) rfl ?_;refine WO.nil ?_;refine WX.next ?_
 refine WC.seq ?_;refine WC.region ?_;refine WO.v (R.move rfl) rfl ?_;refine WO.v (R.len rfl Tryz.underlying43) rfl ?_;refine WO.v (R.assign rfl) rfl ?_;refine WO.nil ?_;refine WX.next ?_
 refine WC.seq ?_;refine WC.seq ?_;refine WC.region ?_;refine WO.v (R.move rfl) rfl ?_;refine WO.v (R.eql rfl rfl) rfl ?_;refine WO.nil ?_;refine WX.next ?_
 refine WC.cond rfl (fun q=>absurd (acx q) aE) (fun _=>?_);refine WC.skip ?_;refine WX.next ?_
 refine WC.seq ?_;refine WC.region ?_;refine WO.v (R.move rfl) rfl ?_;refine WO.v (R.len rfl Tryz.underlying43) rfl ?_;refine WO.v (R.assign rfl) rfl ?_;refine WO.nil ?_;refine WX.next ?_
 refine WC.seq ?_;refine WC.seq ?_;refine WC.region ?_;refine WO.v (R.move rfl) rfl ?_;refine WO.v (R.move rfl) rfl ?_;refine WO.v (R.eql rfl rfl) rfl ?_;refine WO.nil ?_;refine WX.next ?_
 refine WC.cond rfl (fun _=>?_) (fun q=>absurd rfl (aha q));refine WC.seq ?_;refine WC.region ?_;refine WO.v (R.move rfl) rfl ?_;refine WO.v (R.move rfl) rfl ?_;refine WO.ve (a _ _ _ _ rfl rfl) rfl fun d e g=>?_;refine WO.v (R.assign rfl) rfl ?_;refine WO.nil ?_;refine WX.next ?_
 refine WC.ret ?_;refine WX.mc ?_;refine WX.Bp rfl rfl ?_;exact g
set_option maxRecDepth 100000 in
def yP {g c:Nat} (B:i<n) (P:n<=c) (H:c<n+1) (j:c<=maxLen) (O:n+1<=G) (l:G<=maxLen)
  (m:∀ (F:Fr) (x y:Operand) (Q:TypeId),ev F x=some (.slice (some ⟨g,0*2,none⟩) i c)->ev F y=some (.int .i64 ((n+1 - i:Nat):Int))->aF Tryz.prog 95 F w (.call { callee:=.builtin .append,args:=#[x,y],argTypes:=#[43,3] }) Q (.slice (some ⟨b,0,none⟩) (n+1) G) W1)
  (a:W1.heap[b]? = some (.cells cur.toArray 139 (0,0))) (N:(n+1)*2<=cur.length) (S:CellsAt W1 ad vs) (r:vs.length=2) (T:CellsAt W1 ⟨g,i*2,none⟩ ds) (s:g≠b) (o:g<W1.heap.size) (z:ds.length=(n - i)*2)
  (C:∀ u ∈ vs,u.oneCell' = true) (D:∀ u ∈ ds,u.oneCell' = true) :
  jT Tryz.prog 341 [.slice (some ⟨g,0,none⟩) n c,.int .i64 (i:Int),.slice (some ad) 1 vc].toArray w fun v U=>v = .slice (some ⟨b,0,none⟩) (n+1) G/\∃ d,Kp [] (W1.setRow b (cur.take (i*2)++vs++cur.drop (i*2+vs.length)).toArray) d/\U = d.setRow b ((cur.take (i*2)++vs++cur.drop (i*2+vs.length)).take ((i+1)*2)++ds++(cur.take (i*2)++vs++cur.drop (i*2+vs.length)).drop ((i+1)*2+ds.length)).toArray:=by
 have l:G<=9223372036854775807:=l;have j:c<=9223372036854775807:=j;have I:vs.length=Nat.min 1 (n+1 - i)*2:=by rw [show Nat.min 1 (n+1 - i)=1 from afR aE,Nat.one_mul]; exact r
 have J:ds.length=Nat.min (n - i) (n+1 - (i+1))*2:=by rw [show Nat.min (n - i) (n+1 - (i+1))=n - i from afR aE]; exact z
 refine jT.enter Tryz.func341 rfl rfl rfl rfl ?_;refine WC.seq ?_;refine WC.region ?_;refine WO.v (R.assign rfl) rfl ?_;refine WO.nil ?_;refine WX.next ?_
 refine WC.seq ?_;refine WC.region ?_;refine WO.v (R.move rfl) rfl ?_;refine WO.v (R.move rfl) rfl ?_;refine WO.v (R.dk rfl rfl Tryz.underlying43 dy rfl aE) rfl ?_;refine WO.nil ?_;refine WX.next ?_
 refine WC.seq ?_;refine WC.region ?_;refine WO.v (R.move rfl) rfl ?_;refine WO.v (R.len rfl Tryz.underlying43) rfl ?_;refine WO.v (R.assign rfl) rfl ?_;refine WO.nil ?_;refine WX.next ?_
 refine WC.seq ?_;refine WC.seq ?_;refine WC.region ?_;refine WO.v (R.move rfl) rfl ?_;refine WO.v (R.eql rfl rfl) rfl ?_;refine WO.nil ?_;refine WX.next ?_
 refine WC.cond rfl (fun q=>absurd (acx q) aE) (fun _=>?_);refine WC.skip ?_;refine WX.next ?_
 refine WC.seq ?_;refine WC.region ?_;refine WO.v (R.move rfl) rfl ?_;refine WO.v (R.len rfl Tryz.underlying43) rfl ?_;refine WO.v (R.assign rfl) rfl ?_;refine WO.nil ?_;refine WX.next ?_
 refine WC.seq ?_;refine WC.seq ?_;refine WC.region ?_;refine WO.v (R.move rfl) rfl ?_;refine WO.v (R.move rfl) rfl ?_;refine WO.v (R.eql rfl rfl) rfl ?_;refine WO.nil ?_;refine WX.next ?_
 refine WC.cond rfl (fun q=>absurd (acx q) aE) (fun _=>?_);refine WC.skip ?_;refine WX.next ?_
 refine WC.seq ?_;refine WC.seq ?_;refine WC.region ?_;refine WO.v (R.move rfl) rfl ?_;refine WO.v (R.move rfl) rfl ?_;refine WO.v (R.oA rfl rfl aE) rfl ?_;refine WO.v (R.move rfl) rfl ?_;refine WO.v (R.Ua rfl Tryz.underlying43) rfl ?_;refine WO.v (R.gtr rfl rfl) rfl ?_;refine WO.nil ?_;refine WX.next ?_
 refine WC.cond rfl (fun _=>?_) (fun q=>absurd aE (aha q));refine WC.seq ?_;refine WC.region ?_;refine WO.v (R.move rfl) rfl ?_;refine WO.v (R.move rfl) rfl ?_;refine WO.v (R.lE rfl rfl Tryz.underlying43 dy (fw (i:=0) aE) aE) rfl ?_;refine WO.v (R.move rfl) rfl ?_;refine WO.v (R.move rfl) rfl ?_;refine WO.v (R.oA rfl rfl aE) rfl ?_;refine WO.v (R.move rfl) rfl ?_;refine WO.v (R.aeL rfl rfl aE aE) rfl ?_;refine WO.v (m _ _ _ _ rfl rfl) rfl ?_;refine WO.v (R.assign rfl) rfl ?_;refine WO.nil ?_;refine WX.next ?_
 refine WC.seq ?_;refine WC.region ?_;refine WO.v (R.move rfl) rfl ?_;refine WO.v (R.move rfl) rfl ?_;refine WO.v (R.dk rfl rfl Tryz.underlying43 dy (fw aE) aE) rfl ?_;refine WO.v (R.move rfl) rfl ?_;refine WO.v (R.nI rfl rfl Tryz.underlying43 dy a I S aE C) rfl ?_;refine WO.nil ?_;refine WX.next ?_
 refine WC.seq ?_;refine WC.wU jM [.ex [] (.slice (some ⟨b,0,none⟩) (n+1) G),.ex [] (.int .i64 ((i:Nat):Int)),.ex [] (.int .i64 ((1:Nat):Int)),.ex [1,2] (.int .i64 ((i+1:Nat):Int)),.ex [0,3] (.slice (some ⟨b,(i+1)*2,none⟩) (n+1 - (i+1)) (G - (i+1))),.ex [] (.slice (some ⟨g,0,none⟩) n c),.ex [] (.int .i64 ((i:Nat):Int)),.ex [5,6] (.slice (some ⟨g,i*2,none⟩) (n - i) (c - i))] 8 bN ⟨fun _ _ _ h _=>h,fun _ _ _ h _=>h,fun _ _ _ h _=>h,fun _ _ _ h _=>h,fun _ _ _ h _=>h,fun _ _ _ h _=>h,fun _ _ _ h _=>h,fun _ _ _ h _=>h,trivial⟩ ⟨?_,?_,?_,?_,?_,?_,?_,?_,trivial⟩ ?_
 ·rintro vs e kd ⟨-⟩;refine WO.bX (fr':=[(9,.slice (some ⟨b,0,none⟩) (n+1) G)]) ⟨⟨_,rfl,rfl⟩,trivial⟩ ?_;refine WO.v (R.move rfl) rfl ?_;refine WO.nil ?_;exact WX.aI rfl rfl (Kp.refl _)
 ·rintro vs e kd ⟨-⟩;refine WO.bX (fr':=[(1,.int .i64 ((i:Nat):Int))]) ⟨⟨_,rfl,rfl⟩,trivial⟩ ?_;refine WO.v (R.move rfl) rfl ?_;refine WO.nil ?_;exact WX.aI rfl rfl (Kp.refl _)
 ·rintro vs e kd ⟨-⟩;refine WO.bX (fr':=[(7,.int .i64 ((1:Nat):Int))]) ⟨⟨_,rfl,rfl⟩,trivial⟩ ?_;refine WO.v (R.move rfl) rfl ?_;refine WO.nil ?_;exact WX.aI rfl rfl (Kp.refl _)
 ·rintro vs e kd ⟨V,W,-⟩;refine WO.bX (fr':=[(47,.int .i64 ((i:Nat):Int)),(48,.int .i64 ((1:Nat):Int))]) ⟨⟨_,rfl,V⟩,⟨_,rfl,W⟩,trivial⟩ ?_;refine WO.v (R.oA rfl rfl aE) rfl ?_;refine WO.nil ?_;exact WX.aI rfl rfl (Kp.refl _)
 ·rintro vs e kd ⟨X,Y,-⟩;refine WO.bX (fr':=[(46,.slice (some ⟨b,0,none⟩) (n+1) G),(49,.int .i64 ((i+1:Nat):Int))]) ⟨⟨_,rfl,X⟩,⟨_,rfl,Y⟩,trivial⟩ ?_;refine WO.v (R.dk rfl rfl Tryz.underlying43 dy (fw aE) aE) rfl ?_;refine WO.nil ?_;exact WX.aI rfl rfl (Kp.refl _)
 ·rintro vs e kd ⟨-⟩;refine WO.bX (fr':=[(0,.slice (some ⟨g,0,none⟩) n c)]) ⟨⟨_,rfl,rfl⟩,trivial⟩ ?_;refine WO.v (R.move rfl) rfl ?_;refine WO.nil ?_;exact WX.aI rfl rfl (Kp.refl _)
 ·rintro vs e kd ⟨-⟩;refine WO.bX (fr':=[(1,.int .i64 ((i:Nat):Int))]) ⟨⟨_,rfl,rfl⟩,trivial⟩ ?_;refine WO.v (R.move rfl) rfl ?_;refine WO.nil ?_;exact WX.aI rfl rfl (Kp.refl _)
 ·rintro vs e kd ⟨Z,f,-⟩;refine WO.bX (fr':=[(51,.slice (some ⟨g,0,none⟩) n c),(52,.int .i64 ((i:Nat):Int))]) ⟨⟨_,rfl,Z⟩,⟨_,rfl,f⟩,trivial⟩ ?_;refine WO.v (R.dk rfl rfl Tryz.underlying43 dy (fw aE) aE) rfl ?_;refine WO.nil ?_;exact WX.aI rfl rfl (Kp.refl _)
 rintro k d p ⟨-,-,-,-,t,-,-,A,-⟩;replace p:Kp [] (W1.setRow b (cur.take (i*2)++vs++cur.drop (i*2+vs.length)).toArray) d:=p;refine WO.bX (fr':=[(50,.slice (some ⟨b,(i+1)*2,none⟩) (n+1 - (i+1)) (G - (i+1))),(53,.slice (some ⟨g,i*2,none⟩) (n - i) (c - i)),(9,.slice (some ⟨b,0,none⟩) (n+1) G)]) ⟨⟨_,rfl,t⟩,⟨_,rfl,A⟩,⟨_,rfl,rfl⟩,trivial⟩ ?_;have K:d.heap[b]? = some (.cells (List.toArray (cur.take (i*2)++vs++cur.drop (i*2+vs.length))) 139 (0,0)):=by rw [p.block b (by simpa using fi a) aa]; exact afU W1 b _ _ 139 _ a
 have L:CellsAt d ⟨g,i*2,none⟩ ds:=(T.kp (Kp.setRow W1 b _) o (by simpa using s.symm)).kp p (by simpa using o) aa;refine WO.v (R.nI rfl rfl Tryz.underlying43 dy K J L (by simp only [List.length_append,List.length_take,List.length_drop]; omega) D) rfl ?_;refine WO.nil ?_;refine WX.next ?_
 refine WC.seq ?_;refine WC.region ?_;refine WO.v (R.move rfl) rfl ?_;refine WO.v (R.assign rfl) rfl ?_;refine WO.nil ?_;refine WX.next ?_
 refine WC.ret ?_;refine WX.mc ?_;refine WX.Bp rfl rfl ?_;exact ⟨rfl,d,p,rfl⟩
set_option maxRecDepth 100000 in
def xp {g c:Nat} (Z:i<n) (b:n+1<=c) (m:c<=maxLen)
  (a:w.heap[g]? = some (.cells cur.toArray 139 (0,0))) (J:(n+1)*2<=cur.length) (K:CellsAt w ad vs) (e:w.heap[ad.block]? = some (.cells curA tA fA)) (o:curA.size≠0) (p:ad.block≠g) (s:vs.length=2) (L:CellsAt w ⟨g,i*2,none⟩ ds) (x:ds.length=(n - i)*2)
  (y:∀ u ∈ vs,u.oneCell' = true) (z:∀ u ∈ ds,u.oneCell' = true) :
  jT Tryz.prog 341 [.slice (some ⟨g,0,none⟩) n c,.int .i64 (i:Int),.slice (some ad) 1 vc].toArray w fun v N=>v = .slice (some ⟨g,0,none⟩) (n+1) c/\∃ d,Kp [] w d/\N = (d.setRow g (cur.take ((i+1)*2)++ds++cur.drop ((i+1)*2+ds.length)).toArray).setRow g ((cur.take ((i+1)*2)++ds++cur.drop ((i+1)*2+ds.length)).take (i*2)++vs++(cur.take ((i+1)*2)++ds++cur.drop ((i+1)*2+ds.length)).drop (i*2+vs.length)).toArray:=by
 have m:c<=9223372036854775807:=m;have C:vs.length=Nat.min 1 (n+1 - i)*2:=by rw [show Nat.min 1 (n+1 - i)=1 from afR aE,Nat.one_mul]; exact s
 have D:ds.length=Nat.min (n+1 - i) (n+1 - (i+1))*2:=by rw [show Nat.min (n+1 - i) (n+1 - (i+1))=n+1 - (i+1) from aie aE,x]; congr 1; omega
 refine jT.enter Tryz.func341 rfl rfl rfl rfl ?_;refine WC.seq ?_;refine WC.region ?_;refine WO.v (R.assign rfl) rfl ?_;refine WO.nil ?_;refine WX.next ?_
 refine WC.seq ?_;refine WC.region ?_;refine WO.v (R.move rfl) rfl ?_;refine WO.v (R.move rfl) rfl ?_;refine WO.v (R.dk rfl rfl Tryz.underlying43 dy rfl aE) rfl ?_;refine WO.nil ?_;refine WX.next ?_
 refine WC.seq ?_;refine WC.region ?_;refine WO.v (R.move rfl) rfl ?_;refine WO.v (R.len rfl Tryz.underlying43) rfl ?_;refine WO.v (R.assign rfl) rfl ?_;refine WO.nil ?_;refine WX.next ?_
 refine WC.seq ?_;refine WC.seq ?_;refine WC.region ?_;refine WO.v (R.move rfl) rfl ?_;refine WO.v (R.eql rfl rfl) rfl ?_;refine WO.nil ?_;refine WX.next ?_
 refine WC.cond rfl (fun q=>absurd (acx q) aE) (fun _=>?_);refine WC.skip ?_;refine WX.next ?_
 refine WC.seq ?_;refine WC.region ?_;refine WO.v (R.move rfl) rfl ?_;refine WO.v (R.len rfl Tryz.underlying43) rfl ?_;refine WO.v (R.assign rfl) rfl ?_;refine WO.nil ?_;refine WX.next ?_
 refine WC.seq ?_;refine WC.seq ?_;refine WC.region ?_;refine WO.v (R.move rfl) rfl ?_;refine WO.v (R.move rfl) rfl ?_;refine WO.v (R.eql rfl rfl) rfl ?_;refine WO.nil ?_;refine WX.next ?_
 refine WC.cond rfl (fun q=>absurd (acx q) aE) (fun _=>?_);refine WC.skip ?_;refine WX.next ?_
 refine WC.seq ?_;refine WC.seq ?_;refine WC.region ?_;refine WO.v (R.move rfl) rfl ?_;refine WO.v (R.move rfl) rfl ?_;refine WO.v (R.oA rfl rfl aE) rfl ?_;refine WO.v (R.move rfl) rfl ?_;refine WO.v (R.Ua rfl Tryz.underlying43) rfl ?_;refine WO.v (R.gtr rfl rfl) rfl ?_;refine WO.nil ?_;refine WX.next ?_
 refine WC.cond rfl (fun q=>absurd (acx q) aE) (fun _=>?_);refine WC.skip ?_;refine WX.next ?_
 refine WC.seq ?_;refine WC.region ?_;refine WO.v (R.move rfl) rfl ?_;refine WO.v (R.move rfl) rfl ?_;refine WO.v (R.move rfl) rfl ?_;refine WO.v (R.oA rfl rfl aE) rfl ?_;refine WO.v (R.lE rfl rfl Tryz.underlying43 dy (fw (i:=0) aE) aE) rfl ?_;refine WO.v (R.assign rfl) rfl ?_;refine WO.nil ?_;refine WX.next ?_
 refine WC.seq ?_;refine WC.seq ?_;refine WC.region ?_;refine WO.v (R.move rfl) rfl ?_;refine WO.v (R.move rfl) rfl ?_;refine WO.v (R.move rfl) rfl ?_;refine WO.v (R.move rfl) rfl ?_;refine WO.v (R.oA rfl rfl aE) rfl ?_;refine WO.v (R.dk rfl rfl Tryz.underlying43 dy (fw aE) aE) rfl ?_;refine WO.v (R.ovl (tS:=43) (tR:=4) Tryz.func358 rfl rfl bN bN Tryz.underlying43 dy p e o a rfl rfl) rfl ?_;refine WO.v (R.not rfl) rfl ?_;refine WO.nil ?_;refine WX.next ?_
 refine WC.Ff rfl ?_;refine WC.seq ?_;refine WC.wU jM [.ex [] (.slice (some ⟨g,0,none⟩) (n+1) c),.ex [] (.int .i64 ((i:Nat):Int)),.ex [] (.int .i64 ((1:Nat):Int)),.ex [1,2] (.int .i64 ((i+1:Nat):Int)),.ex [0,3] (.slice (some ⟨g,(i+1)*2,none⟩) (n+1 - (i+1)) (c - (i+1))),.ex [] (.slice (some ⟨g,0,none⟩) (n+1) c),.ex [] (.int .i64 ((i:Nat):Int)),.ex [5,6] (.slice (some ⟨g,i*2,none⟩) (n+1 - i) (c - i))] 8 bN ⟨fun _ _ _ h _=>h,fun _ _ _ h _=>h,fun _ _ _ h _=>h,fun _ _ _ h _=>h,fun _ _ _ h _=>h,fun _ _ _ h _=>h,fun _ _ _ h _=>h,fun _ _ _ h _=>h,trivial⟩ ⟨?_,?_,?_,?_,?_,?_,?_,?_,trivial⟩ ?_
 ·rintro vs j kd ⟨-⟩;refine WO.bX (fr':=[(0,.slice (some ⟨g,0,none⟩) (n+1) c)]) ⟨⟨_,rfl,rfl⟩,trivial⟩ ?_;refine WO.v (R.move rfl) rfl ?_;refine WO.nil ?_;exact WX.aI rfl rfl (Kp.refl _)
 ·rintro vs j kd ⟨-⟩;refine WO.bX (fr':=[(1,.int .i64 ((i:Nat):Int))]) ⟨⟨_,rfl,rfl⟩,trivial⟩ ?_;refine WO.v (R.move rfl) rfl ?_;refine WO.nil ?_;exact WX.aI rfl rfl (Kp.refl _)
 ·rintro vs j kd ⟨-⟩;refine WO.bX (fr':=[(7,.int .i64 ((1:Nat):Int))]) ⟨⟨_,rfl,rfl⟩,trivial⟩ ?_;refine WO.v (R.move rfl) rfl ?_;refine WO.nil ?_;exact WX.aI rfl rfl (Kp.refl _)
 ·rintro vs j kd ⟨P,Q,-⟩;refine WO.bX (fr':=[(70,.int .i64 ((i:Nat):Int)),(71,.int .i64 ((1:Nat):Int))]) ⟨⟨_,rfl,P⟩,⟨_,rfl,Q⟩,trivial⟩ ?_;refine WO.v (R.oA rfl rfl aE) rfl ?_;refine WO.nil ?_;exact WX.aI rfl rfl (Kp.refl _)
 ·rintro vs j kd ⟨S,T,-⟩;refine WO.bX (fr':=[(69,.slice (some ⟨g,0,none⟩) (n+1) c),(72,.int .i64 ((i+1:Nat):Int))]) ⟨⟨_,rfl,S⟩,⟨_,rfl,T⟩,trivial⟩ ?_;refine WO.v (R.dk rfl rfl Tryz.underlying43 dy (fw aE) aE) rfl ?_;refine WO.nil ?_;exact WX.aI rfl rfl (Kp.refl _)
 ·rintro vs j kd ⟨-⟩;refine WO.bX (fr':=[(0,.slice (some ⟨g,0,none⟩) (n+1) c)]) ⟨⟨_,rfl,rfl⟩,trivial⟩ ?_;refine WO.v (R.move rfl) rfl ?_;refine WO.nil ?_;exact WX.aI rfl rfl (Kp.refl _)
 ·rintro vs j kd ⟨-⟩;refine WO.bX (fr':=[(1,.int .i64 ((i:Nat):Int))]) ⟨⟨_,rfl,rfl⟩,trivial⟩ ?_;refine WO.v (R.move rfl) rfl ?_;refine WO.nil ?_;exact WX.aI rfl rfl (Kp.refl _)
 ·rintro vs j kd ⟨U,V,-⟩;refine WO.bX (fr':=[(74,.slice (some ⟨g,0,none⟩) (n+1) c),(75,.int .i64 ((i:Nat):Int))]) ⟨⟨_,rfl,U⟩,⟨_,rfl,V⟩,trivial⟩ ?_;refine WO.v (R.dk rfl rfl Tryz.underlying43 dy (fw aE) aE) rfl ?_;refine WO.nil ?_;exact WX.aI rfl rfl (Kp.refl _)
 rintro W d l ⟨-,-,-,-,X,-,-,Y,-⟩;replace l:Kp [] w d:=l;refine WO.bX (fr':=[(73,.slice (some ⟨g,(i+1)*2,none⟩) (n+1 - (i+1)) (c - (i+1))),(76,.slice (some ⟨g,i*2,none⟩) (n+1 - i) (c - i)),(0,.slice (some ⟨g,0,none⟩) (n+1) c),(1,.int .i64 ((i:Nat):Int)),(2,.slice (some ad) 1 vc)]) ⟨⟨_,rfl,X⟩,⟨_,rfl,Y⟩,⟨_,rfl,rfl⟩,⟨_,rfl,rfl⟩,⟨_,rfl,rfl⟩,trivial⟩ ?_;have r:d.heap[g]? = some (.cells (List.toArray cur) 139 (0,0)):=by rw [l.block g (fi a) aa]; exact a
 refine WO.v (R.nI rfl rfl Tryz.underlying43 dy r D (L.kp l (fi a) aa) aE z) rfl ?_;refine WO.nil ?_;refine WX.next ?_
 have F:(d.setRow g (cur.take ((i+1)*2)++ds++cur.drop ((i+1)*2+ds.length)).toArray).heap[g]? = some (.cells (List.toArray (cur.take ((i+1)*2)++ds++cur.drop ((i+1)*2+ds.length))) 139 (0,0)):=afU d g _ _ 139 _ r;have I:CellsAt (d.setRow g (cur.take ((i+1)*2)++ds++cur.drop ((i+1)*2+ds.length)).toArray) ad vs:=(K.kp l (fi e) aa).kp (Kp.setRow d g _) (acv (fi e) l.size) (by simpa using fun h=>p h.symm);refine WC.seq ?_;refine WC.region ?_;refine WO.v (R.move rfl) rfl ?_;refine WO.v (R.move rfl) rfl ?_;refine WO.v (R.dk rfl rfl Tryz.underlying43 dy (fw aE) aE) rfl ?_;refine WO.v (R.move rfl) rfl ?_;refine WO.v (R.nI rfl rfl Tryz.underlying43 dy F C I (by simp only [List.length_append,List.length_take,List.length_drop]; omega) y) rfl ?_;refine WO.nil ?_;refine WX.next ?_
 refine WC.seq ?_;refine WC.region ?_;refine WO.v (R.move rfl) rfl ?_;refine WO.v (R.assign rfl) rfl ?_;refine WO.nil ?_;refine WX.next ?_
 refine WC.ret ?_;refine WX.mc ?_;refine WX.Bp rfl rfl ?_;exact ⟨rfl,d,l,rfl⟩
def Ek {G:Gl} (hs:G.shp=ak tyT) (Y:Rep G ρ H w) {l m:List (den (.nm .opn))} (Z:getO H 0 = .row 139 (.nm .opn) l) (hl:l.length<1048576) (hi:i<=l.length) {v0:Value} (h0:Rd (cx G ρ w) ρ (.own 0) v0)
  (hm:m.length=1) (f:Rd (cx G ρ w) ρ bAV (.slice (some ad) 1 k)) (hbv:(bAV.vw H).fS (.nm .opn)=some m) (hv:CellsAt w ad cys) (C:cys.length=2) (h1v:∀ u ∈ cys,u.oneCell' = true) (hp:Pds (cx G ρ w) (m.flatMap (cellsOf (.nm .opn))) cys)
  (hne:∀ g c n z,ρ[0]? = some (.row g c n z)->ad.block≠g) (hvb:w.heap[ad.block]? = some (.cells curA tA fA)) (hvb0:curA.size≠0) :
  jT Tryz.prog 341 [v0,.int .i64 (i:Int),.slice (some ad) 1 k].toArray w fun v q=>∃ o,Stp (gF 0) ρ w o q /\ Rep G o ((iF (AV.kill 0) H).set 0 (.row 139 (.nm .opn) (l.take i++m++l.drop i))) q /\ Rd (cx G o q) o (.own 0) v:=by
 have hT:bh Tryz.prog G.shp tyT:=hs ▸ dF;obtain ⟨hshp,hlen⟩:=dD Y Z;have hl64:l.length<=9223372036854775807:=by omega
 have hin:((l.length:Nat):Int)<=9223372036854775807:=by omega
 by_cases hie:i=l.length
 ·subst hie;have hc:∃ A c,v0 = .slice A l.length c:=by
   rcases h0 with ⟨g,d,len,z,s,rfl⟩ | ⟨s,a,rfl⟩
   ·rcases bE Y Z with ⟨r,_⟩ | ⟨g',U,cells,t,r,_⟩
    ·rw [s] at r; cases r
    rw [s] at r; cases r; exact ⟨_,_,rfl⟩
   rcases bE Y Z with ⟨_,r⟩ | ⟨g',U,cells,t,r,_⟩
   ·subst r; exact ⟨_,_,rfl⟩
   rw [s] at r; cases r
  obtain ⟨A,c,rfl⟩:=hc;refine Df fun F x y ty hx hy=>?_;have D:kg tyT (gF 0) ([]:AFr) H 43 (.own 0) bAV=some ⟨one (.own 0),[],(iF (AV.kill 0) H).set 0 (.row 139 (.nm .opn) (l++m)),[(l.length+m.length)*(Sh.nm NT.opn).bytes<=140737488355328],[]⟩:=by
   unfold kg;rw [show a_ tyT 43=some ⟨.sl 139 (some (.nm .opn)),1,[.em true]⟩ from by kernel_rfl];simp only [hbv,mf,Z];rfl
  obtain ⟨v,q,s,o,r,h3,_,h5,_⟩:=jY (P:=Tryz.prog) (n:=95) (F:=[]) (ty:=ty) (fr:=[]) (x:=.const (.slice A l.length c)) (y:=.const (.slice (some ad) 1 k)) hT Y .nil D (by
   intro p hp;rw [acr] at hp; subst hp;show (l.length+m.length)*16<=_;omega) h0 f rfl rfl
  refine ⟨v,q,R.Hh s hx hy,o,r,?_,h5⟩;rw [List.take_length,List.drop_length,ad8];exact h3
 have B:i<l.length:=by omega
 rcases bE Y Z with ⟨_,r⟩ | ⟨g,d,cells,t,I,hg,N,hsz,hcap,J⟩
 ·subst r; simp at B
 obtain ⟨hnb,hil,hiH⟩:=na Y Z;have hv0:v0 = .slice (some ⟨g,0,none⟩) l.length d:=by
  rcases h0 with ⟨g',U,len,z,s,rfl⟩ | ⟨s,a,rfl⟩
  ·rw [I] at s; cases s; rfl
  rw [I] at s; cases s
 subst hv0;have hz:(Sh.nm NT.opn).size=2:=rfl;have hby:(Sh.nm NT.opn).bytes=16:=rfl;have hcl:cells.length=l.length*2:=by rw [<- N.length,bU,hz]
 rw [hz,List.length_append] at hsz;have V:∀ u ∈ cells.drop (i*2),u.oneCell' = true:=fun u hu=>N.Md u (ahO hu);have hd:CellsAt w ⟨g,i*2,none⟩ (cells.drop (i*2)):=by
  have:=(cw hg).shift (i*2);rwa [add_lit,acC] at this
 have hdl:(cells.drop (i*2)).length=(l.length - i)*2:=by rw [List.length_drop,hcl]; omega
 have O:=fi hg;have hzl:(l.take i++m++l.drop i).length=l.length+1:=by
  rw [List.length_append,List.length_append,List.length_take,List.length_drop,hm]; omega
 have hnew:∀ {c:Cx},(cx G ρ w).le c->Pds c ((l.take i++m++l.drop i).flatMap (cellsOf (.nm .opn))) (cells.take (i*2)++cys++cells.drop (i*2)):=fun {c} hle=>by
  rw [List.flatMap_append,List.flatMap_append];exact (((bC N i).append hp).append (bV N i)).carry hle
 have hnl:(cells.take (i*2)++cys++cells.drop (i*2)).length=(l.length+1)*2:=by
  rw [List.length_append,List.length_append,List.length_take,List.length_drop,hcl,C]; omega
 have hbig:(l.take i++m++l.drop i).length*(Sh.nm NT.opn).bytes<=140737488355328:=by rw [hzl,hby]; omega
 have fin:∀ (S:List Nat) (W j:Nat) (Q:List Value) (q:World),Kp S w q -> (∀ b ∈ S,b=g)->(W=g\/w.heap.size<=W)->q.heap[W]? = some (.cells (List.toArray (cells.take (i*2)++cys++cells.drop (i*2)++Q)) 139 (0,0))->(l.length+1)*2+Q.length=j*2->l.length+1<=j->j<=maxLen ->
   ∃ o,Stp (gF 0) ρ w o q /\ Rep G o ((iF (AV.kill 0) H).set 0 (.row 139 (.nm .opn) (l.take i++m++l.drop i))) q /\ Rd (cx G o q) o (.own 0) (.slice (some ⟨W,0,none⟩) (l.length+1) j):=by
  intro S W j Q q hk hS hg2 hh hlen2 hle2 hmax2;obtain ⟨k1,k2,_⟩:=jv (ro:=gF 0) (s':=.nm .opn) (e':=139) (zs:=l.take i++m++l.drop i) Y Z ⟨rfl,rfl⟩ hk (fun b f=>⟨_,I,by rw [hS b f]; rfl⟩) (r':=.row W j (l.take i++m++l.drop i).length (Sh.nm NT.opn).size) (fun b f=>by
   cases f;rcases hg2 with rfl | hg2
   ·exact .inl ⟨_,I,rfl⟩
   exact .inr ⟨hg2,fi hh⟩) (fun hle=>⟨hshp,hbig,.inr ⟨W,j,_,Q,rfl,hh,hnew hle,by rw [List.length_append,hnl,hz]; exact hlen2,by rw [hzl]; exact hle2,hmax2⟩⟩)
  exact ⟨_,k1,k2,.inl ⟨W,j,_,_,adU hil,by rw [hzl]⟩⟩
 have eo:(i+1)*2=i*2+2:=by omega
 by_cases K:l.length+1<=d
 ·refine (xp B K J hg (by rw [List.length_append]; omega) hv hvb hvb0 (hne _ _ _ _ I) C hd hdl h1v V).mono fun v q ⟨e1,X,k1,e2⟩=>?_;subst e1; subst e2;rw [eo,XM aE C];have hk:Kp [g] w ((X.setRow g ((cells++t).take (i*2+2)++cells.drop (i*2)++(cells++t).drop (i*2+2+(cells.drop (i*2)).length)).toArray).setRow g (cells.take (i*2)++cys++cells.drop (i*2)++t.drop 2).toArray):=((k1.sub aa).step (Kp.setRow X g _) aa).step (Kp.setRow _ g _) aa;have hg1:X.heap[g]? = some (.cells (List.toArray (cells++t)) 139 (0,0)):=by rw [k1.block g O aa]; exact hg
  exact fin [g] g d (t.drop 2) _ hk aa (.inl rfl) (afU _ g _ _ 139 _ (afU X g _ _ 139 _ hg1)) (by rw [List.length_drop]; omega) K J
 obtain ⟨ti,hi0,hz0,hz1,hz2⟩:=info_parts EU;have eik:i+(l.length+1 - i)=l.length+1:=by omega
 have hge:=grownCap_ge w (l.length+1) d 139;have hgm:=grownCap_le_maxLen w (l.length+1) d 139 (by simp [maxLen]; omega);have hold:(Builtin.firstCells ti.size i (.slice (some ⟨g,0*2,none⟩) i d)).run Tryz.prog w.drew = .ok (cells.take (i*2)).toArray w.drew:=by
  have h:=aih (P:=Tryz.prog) w.drew ⟨g,0*2,none⟩ (cells.take (i*2)) (by rw [ajp]; exact (cw hg).take _);rw [List.length_take,afR aE] at h;rw [hz1]; exact h
 have D:∀ (F:Fr) (x y:Operand) (ty:TypeId),ev F x=some (.slice (some ⟨g,0*2,none⟩) i d)->ev F y=some (.int .i64 ((l.length+1 - i:Nat):Int))->aF Tryz.prog 95 F w (.call { callee:=.builtin .append,args:=#[x,y],argTypes:=#[43,3] }) ty (.slice (some ⟨w.heap.size,0,none⟩) (l.length+1) (grownCap w (l.length+1) d 139)) (w.drew.alloc (.cells (List.toArray (cells.take (i*2)++((Builtin.zeroCells (Value.agg #[.int .i64 0,.int .i64 0]).cells (l.length+1 - i)).toList++(Builtin.zeroCells (Value.agg #[.int .i64 0,.int .i64 0]).cells (grownCap w (l.length+1) d 139 - (l.length+1))).toList))) 139)):=fun F x y ty hx hy=>by
  have h:=R.ac_ (P:=Tryz.prog) (n:=95) (ty:=ty) hx hy Tryz.underlying43 Tryz.underlying3 hi0 hz0 hold aE (by rw [hz1]; decide) aE aE (by rw [hz2]; omega) (by rw [hz2,eik]; exact ajA aE aE);rw [eik] at h;have e:∀ (a:List Value) (b c:Array Value),a.toArray++b++c=(a++(b.toList++c.toList)).toArray:=fun a b c=>by apply agd; simp
  rw [e] at h;exact h
 have hcurl:(cells.take (i*2)++((Builtin.zeroCells (Value.agg #[.int .i64 0,.int .i64 0]).cells (l.length+1 - i)).toList++(Builtin.zeroCells (Value.agg #[.int .i64 0,.int .i64 0]).cells (grownCap w (l.length+1) d 139 - (l.length+1))).toList)).length=grownCap w (l.length+1) d 139*2:=by
  rw [List.length_append,List.length_append,List.length_take,sY,sY];show min _ _+((l.length+1 - i)*2+(grownCap w (l.length+1) d 139 - (l.length+1))*2)=_;omega
 have htk:(cells.take (i*2)++((Builtin.zeroCells (Value.agg #[.int .i64 0,.int .i64 0]).cells (l.length+1 - i)).toList++(Builtin.zeroCells (Value.agg #[.int .i64 0,.int .i64 0]).cells (grownCap w (l.length+1) d 139 - (l.length+1))).toList)).take (i*2)=cells.take (i*2):=List.take_left' (by rw [List.length_take]; omega);generalize grownCap w (l.length+1) d 139=GC at *;generalize cells.take (i*2)++((Builtin.zeroCells (Value.agg #[.int .i64 0,.int .i64 0]).cells (l.length+1 - i)).toList++(Builtin.zeroCells (Value.agg #[.int .i64 0,.int .i64 0]).cells (GC - (l.length+1))).toList)=cur at *;have T:Kp [] w (w.drew.alloc (.cells (List.toArray cur) 139)):=((Kp.refl w).drew).step (Kp.alloc w.drew _) aa;have L:(w.drew.alloc (.cells (List.toArray cur) 139)).heap[w.heap.size]? = some (.cells (List.toArray cur) 139 (0,0)):=af6 w.drew _;generalize w.drew.alloc (.cells (List.toArray cur) 139)=W1 at *;refine (yP B hcap aE J hge hgm D L aE (hv.kp T (fi hvb) aa) C (hd.kp T O aa) aE (acv O T.size) hdl h1v V).mono fun v q ⟨e1,X,k1,e2⟩=>?_;subst e1; subst e2;rw [eo,Yc (cells:=cells) aE C htk];have hs1:∀ b ∈ [w.heap.size],b ∈ ([]:List Nat)\/w.heap.size<=b:=fun b f=>.inr (by rw [acr] at f; omega);have hk:Kp [] w (X.setRow w.heap.size (cells.take (i*2)++cys++cells.drop (i*2)++cur.drop (i*2+2+(cells.drop (i*2)).length)).toArray):=((T.step (Kp.setRow W1 w.heap.size _) hs1).step k1 aa).step (Kp.setRow X w.heap.size _) hs1;have hg1:=(k1.block w.heap.size (by simpa using fi L) aa).trans (afU W1 w.heap.size _ (cur.take (i*2)++cys++cur.drop (i*2+cys.length)).toArray 139 _ L);exact fin [] w.heap.size GC _ _ hk aa (.inr (Nat.le_refl _)) (afU X w.heap.size _ _ 139 _ hg1) (by rw [List.length_drop]; omega) hge hgm
def xY (i:Int) (l m:List (den (.nm .opn))) (h:0<=i/\i<=(l.length:Int)) (K:l.length<1048576) (o:m.length=1):Sat Tryz.prog (ak tyT) 341 [.c (.own 0),.c (.int i),.c (.fz (.nm .opn) m)] [.row 139 (.nm .opn) l] ⟨[0<=i/\i<=(l.length:Int),l.length<1048576,m.length=1],[.c (.own 0)],some [.row 139 (.nm .opn) (l.take i.toNat++m++l.drop i.toNat)],false⟩:=by
 refine ⟨⟨_,Tryz.func341,am,rfl⟩,fun G ρ w vs L C a=>?_⟩;obtain ⟨i,rfl⟩:=aa5 h.1;cases a with | cons p a=>
 cases a with | cons q a=>
 cases a with | cons d a=>
 cases a;have q:Pd (cx G ρ w) (.int (i:Int)) _:=q;cases q;have p:Rd (cx G ρ w) ρ (.own 0) _:=p;have d:Rd (cx G ρ w) ρ (.fz (.nm .opn) m) _:=d;have N:getO [AO.row 139 (.nm .opn) l] 0 = .row 139 (.nm .opn) l:=rfl;have j:(AV.vw [AO.row 139 (.nm .opn) l] (.fz (.nm .opn) m)).fS (.nm .opn)=some m:=by simp [AV.vw,AV.fS,getO]
 obtain ⟨A,k,cys,rfl,r,P,D,Q⟩:=oB C j d;rw [o] at d r D;rw [o];obtain ⟨ad,rfl,F⟩:∃ ad,A=some ad/\CellsAt w ad cys:=D.resolve_left am;have S:(Sh.nm NT.opn).size=2:=rfl;rw [S] at r;obtain ⟨u,T⟩:∃ u,cys[0]? = some u:=⟨_,List.getElem?_eq_getElem aE⟩;obtain ⟨cur,t,f,I,s⟩:=vv (F 0 u T);have x:∀ g c n z,ρ[0]? = some (.row g c n z)->ad.block≠g:=fun g c n z U e=>by
  have d:Pd (cx G ρ w) (.fz (.nm .opn) m) (.slice (some ad) 1 k):=d;have V:=aaO d (by rw [o]; decide);exact V.1.2.1 ⟨0,_,U,by rw [e]; rfl⟩
 rw [gb] at I;refine (Ek L C N K aE p o d j F r P Q x I s).mono fun v Z ⟨y,J,W,X⟩=>?_;exact ⟨[v],rfl,y,W,J.ext,J.bx,.cons X .nil,fun Y=>by cases Y⟩
def QV:(Builtin.zeroCells (Value.agg #[.int .i64 0,.int .i64 0]).cells 1).toList=[.int .i64 0,.int .i64 0]:=bN
set_option maxRecDepth 100000 in
def QX {g c:Nat} {a:TypeInfo} (U:i<n) (F:n<=c) (j:c<=maxLen) (r:w.heap[g]? = some (.cells cur.toArray 139 (0,0))) (D:n*2<=cur.length) (s:ds.length=(n - (i+1))*2) (I:CellsAt w (if c=i+1 then ⟨g,0,none⟩ else (⟨g,0,none⟩:Addr).add ((i+1)*2)) ds) (x:∀ u ∈ ds,u.oneCell' = true)
  (l:Tryz.prog.info? 139=some a) (y:a.zero=some (.agg #[.int .i64 0,.int .i64 0])) (e:a.size=2) :
  jT Tryz.prog 344 [.slice (some ⟨g,0,none⟩) n c,.int .i64 (i:Int),.int .i64 ((i+1:Nat):Int)].toArray w fun v J=>v = .slice (some ⟨g,0,none⟩) (i+(n - (i+1))) c/\∃ d,Kp [] w d/\J = (d.setRow g (cur.take (i*a.size)++ds++cur.drop (i*a.size+ds.length)).toArray).setRow g ((cur.take (i*a.size)++ds++cur.drop (i*a.size+ds.length)).take ((i+(n - (i+1)))*2)++(Builtin.zeroCells (Value.agg #[.int .i64 0,.int .i64 0]).cells 1).toList++(cur.take (i*a.size)++ds++cur.drop (i*a.size+ds.length)).drop ((i+(n - (i+1)))*2+(Builtin.zeroCells (Value.agg #[.int .i64 0,.int .i64 0]).cells 1).toList.length)).toArray:=by
 have j:c<=9223372036854775807:=j;refine jT.enter Tryz.func344 rfl rfl rfl rfl ?_;refine WC.seq ?_;refine WC.region ?_;refine WO.v (R.assign rfl) rfl ?_;refine WO.nil ?_;refine WX.next ?_
 refine WC.seq ?_;refine WC.region ?_;refine WO.v (R.move rfl) rfl ?_;refine WO.v (R.move rfl) rfl ?_;refine WO.v (R.move rfl) rfl ?_;refine WO.v (R.move rfl) rfl ?_;refine WO.v (R.len rfl Tryz.underlying43) rfl ?_;refine WO.v (R.slice3 rfl rfl rfl rfl Tryz.underlying43 dy aE aE aE) rfl ?_;refine WO.nil ?_;refine WX.next ?_
 refine WC.seq ?_;refine WC.seq ?_;refine WC.region ?_;refine WO.v (R.move rfl) rfl ?_;refine WO.v (R.move rfl) rfl ?_;refine WO.v (R.eql rfl rfl) rfl ?_;refine WO.nil ?_;refine WX.next ?_
 refine WC.cond rfl (fun q=>absurd (acx q) aE) (fun _=>?_);refine WC.skip ?_;refine WX.next ?_
 refine WC.seq ?_;refine WC.region ?_;refine WO.v (R.move rfl) rfl ?_;refine WO.v (R.len rfl Tryz.underlying43) rfl ?_;refine WO.v (R.assign rfl) rfl ?_;refine WO.nil ?_;refine WX.next ?_
 refine WC.seq ?_;refine WC.wU jM [.ex [] (.slice (some ⟨g,0,none⟩) n c),.ex [] (.int .i64 ((i:Nat):Int)),.ex [0,1] (.slice (some ⟨g,0*2,none⟩) (i - 0) (c - 0)),.ex [] (.slice (some ⟨g,0,none⟩) n c),.ex [] (.int .i64 ((i+1:Nat):Int)),.ex [3,4] (.slice (some (if c=i+1 then ⟨g,0,none⟩ else (⟨g,0,none⟩:Addr).add ((i+1)*2))) (n - (i+1)) (c - (i+1)))] 6 bN ⟨fun _ _ _ h _=>h,fun _ _ _ h _=>h,fun _ _ _ h _=>h,fun _ _ _ h _=>h,fun _ _ _ h _=>h,fun _ _ _ h _=>h,trivial⟩ ⟨?_,?_,?_,?_,?_,?_,trivial⟩ ?_
 ·rintro vs m kd ⟨-⟩;refine WO.bX (fr':=[(0,.slice (some ⟨g,0,none⟩) n c)]) ⟨⟨_,rfl,rfl⟩,trivial⟩ ?_;refine WO.v (R.move rfl) rfl ?_;refine WO.nil ?_;exact WX.aI rfl rfl (Kp.refl _)
 ·rintro vs m kd ⟨-⟩;refine WO.bX (fr':=[(1,.int .i64 ((i:Nat):Int))]) ⟨⟨_,rfl,rfl⟩,trivial⟩ ?_;refine WO.v (R.move rfl) rfl ?_;refine WO.nil ?_;exact WX.aI rfl rfl (Kp.refl _)
 ·rintro vs m kd ⟨K,L,-⟩;refine WO.bX (fr':=[(20,.slice (some ⟨g,0,none⟩) n c),(21,.int .i64 ((i:Nat):Int))]) ⟨⟨_,rfl,K⟩,⟨_,rfl,L⟩,trivial⟩ ?_;refine WO.v (R.lE rfl rfl Tryz.underlying43 dy (fw (i:=0) aE) aE) rfl ?_;refine WO.nil ?_;exact WX.aI rfl rfl (Kp.refl _)
 ·rintro vs m kd ⟨-⟩;refine WO.bX (fr':=[(0,.slice (some ⟨g,0,none⟩) n c)]) ⟨⟨_,rfl,rfl⟩,trivial⟩ ?_;refine WO.v (R.move rfl) rfl ?_;refine WO.nil ?_;exact WX.aI rfl rfl (Kp.refl _)
 ·rintro vs m kd ⟨-⟩;refine WO.bX (fr':=[(2,.int .i64 ((i+1:Nat):Int))]) ⟨⟨_,rfl,rfl⟩,trivial⟩ ?_;refine WO.v (R.move rfl) rfl ?_;refine WO.nil ?_;exact WX.aI rfl rfl (Kp.refl _)
 ·rintro vs m kd ⟨N,P,-⟩;refine WO.bX (fr':=[(23,.slice (some ⟨g,0,none⟩) n c),(24,.int .i64 ((i+1:Nat):Int))]) ⟨⟨_,rfl,N⟩,⟨_,rfl,P⟩,trivial⟩ ?_;refine WO.v (R.dk rfl rfl Tryz.underlying43 dy aa7 aE) rfl ?_;refine WO.nil ?_;exact WX.aI rfl rfl (Kp.refl _)
 rintro Q d o ⟨-,-,S,-,-,T,-⟩;replace o:Kp [] w d:=o;refine WO.bX (fr':=[(22,.slice (some ⟨g,0*2,none⟩) (i - 0) (c - 0)),(25,.slice (some (if c=i+1 then ⟨g,0,none⟩ else (⟨g,0,none⟩:Addr).add ((i+1)*2))) (n - (i+1)) (c - (i+1))),(7,.int .i64 ((n:Nat):Int))]) ⟨⟨_,rfl,S⟩,⟨_,rfl,T⟩,⟨_,rfl,rfl⟩,trivial⟩ ?_;have p:d.heap[g]? = some (.cells (List.toArray cur) 139 (0,0)):=by rw [o.block g (fi r) aa]; exact r
 have z:CellsAt d (if c=i+1 then ⟨g,0,none⟩ else (⟨g,0,none⟩:Addr).add ((i+1)*2)) ds:=I.keep (o.block _ (by split <;> exact fi r) aa);refine WO.v (R.VT (sl:=i) (sc:=c) rfl rfl Tryz.underlying43 l p (by rw [e]; exact s) z x aE (by rw [e]; omega)) rfl ?_;refine WO.v (R.assign rfl) rfl ?_;refine WO.nil ?_;refine WX.next ?_
 have C:=afU d g _ (cur.take (i*a.size)++ds++cur.drop (i*a.size+ds.length)).toArray 139 _ p;refine WC.seq ?_;refine WC.region ?_;refine WO.v (R.move rfl) rfl ?_;refine WO.v (R.move rfl) rfl ?_;refine WO.v (R.len rfl Tryz.underlying43) rfl ?_;refine WO.v (R.move rfl) rfl ?_;refine WO.v (R.GM rfl rfl rfl Tryz.underlying43 dy (fw aE) aE aE) rfl ?_;refine WO.v0 (R.clr rfl aE Tryz.underlying43 l y (by rw [QV]; simp [Value.oneCell']) C (by rw [sY,e]; simp only [List.length_append,List.length_take,List.length_drop]; show _+1*2<=_; omega)) ?_;refine WO.nil ?_;refine WX.next ?_
 refine WC.seq ?_;refine WC.region ?_;refine WO.v (R.move rfl) rfl ?_;refine WO.v (R.assign rfl) rfl ?_;refine WO.nil ?_;refine WX.next ?_
 refine WC.ret ?_;refine WX.Bp rfl rfl ?_;exact ⟨rfl,d,o,rfl⟩
def Cj (i j:Int) (l:List (den (.nm .opn))) (h:0<=i/\i<(l.length:Int)/\j=i+1):Sat Tryz.prog (ak tyT) 344 [.c (.own 0),.c (.int i),.c (.int j)] [.row 139 (.nm .opn) l] ⟨[0<=i/\i<(l.length:Int)/\j=i+1],[.c (.own 0)],some [.row 139 (.nm .opn) (l.take i.toNat++l.drop j.toNat)],false⟩:=by
 refine ⟨⟨_,Tryz.func344,am,rfl⟩,fun G ρ w vs hs Z e=>?_⟩;obtain ⟨s,hi1,rfl⟩:=h;obtain ⟨i,rfl⟩:=aa5 s;have D:i<l.length:=by omega
 cases e with | cons F e=>
 cases e with | cons o e=>
 cases e with | cons I e=>
 cases e;have o:Pd (cx G ρ w) (.int (i:Int)) _:=o;have I:Pd (cx G ρ w) (.int ((i:Int)+1)) _:=I;cases o;cases I;have F:Rd (cx G ρ w) ρ (.own 0) _:=F;have f:getO [AO.row 139 (.nm .opn) l] 0 = .row 139 (.nm .opn) l:=rfl;obtain ⟨J,K⟩:=dD Z f;rcases bE Z f with ⟨_,I⟩ | ⟨g,m,d,x,p,k,q,n,L,r⟩
 ·subst I; simp at D
 obtain ⟨hnb,t,hiH⟩:=na Z f;have A:(Sh.nm NT.opn).size=2:=rfl;have N:(Sh.nm NT.opn).bytes=16:=rfl;have B:d.length=l.length*2:=by rw [<- q.length,bU,A]
 rw [A,List.length_append] at n;rw [N] at K;obtain ⟨ti,s,H,P,hz2⟩:=info_parts EU;have Q:∀ u ∈ d.drop ((i+1)*2),u.oneCell' = true:=fun u hu=>q.Md u (ahO hu);have hd:CellsAt w (if m=i+1 then ⟨g,0,none⟩ else (⟨g,0,none⟩:Addr).add ((i+1)*2)) (d.drop ((i+1)*2)):=by
  split
  ·rw [afY aE]; exact CellsAt.nil
  exact (cw k).shift _
 have O:∀ v,Rd (cx G ρ w) ρ (.own 0) v->v = .slice (some ⟨g,0,none⟩) l.length m:=fun v F=>by
  rcases F with ⟨g',cap',len,z,o,rfl⟩ | ⟨o,a,rfl⟩
  ·rw [p] at o; cases o; rfl
  rw [p] at o; cases o
 obtain rfl:=O _ F;have e0:((i:Int)+1)=((i+1:Nat):Int):=by omega
 rw [e0];refine (QX D L r k (by rw [List.length_append]; omega) (by rw [List.length_drop,B]; omega) hd Q s H P).mono fun v w' ⟨e1,w1,k1,S⟩=>?_;subst e1;have hq:i+(l.length - (i+1))=l.length - 1:=by omega
 rw [hq,P,QV] at S;rw [hq];have U:(l.take i++l.drop (i+1)).length=l.length - 1:=by rw [List.length_append,List.length_take,List.length_drop]; omega
 have V:(d.take (i*2)++d.drop ((i+1)*2)).length=(l.length - 1)*2:=by rw [List.length_append,List.length_take,List.length_drop]; omega
 have W:((d++x).take (i*2)++d.drop ((i+1)*2)++(d++x).drop (i*2+(d.drop ((i+1)*2)).length)).take ((l.length - 1)*2)=d.take (i*2)++d.drop ((i+1)*2):=by
  rw [afQ (l₁:=d) aE];exact List.take_left' V
 have X:((d++x).take (i*2)++d.drop ((i+1)*2)++(d++x).drop (i*2+(d.drop ((i+1)*2)).length)).length=m*2:=by
  simp only [List.length_append,List.length_drop,List.length_take];omega
 generalize (d++x).take (i*2)++d.drop ((i+1)*2)++(d++x).drop (i*2+(d.drop ((i+1)*2)).length)=r1 at S W X;rw [W,List.append_assoc] at S;generalize Y:([.int .i64 0,.int .i64 0]:List Value)++List.drop ((l.length - 1)*2+([.int .i64 0,.int .i64 0]:List Value).length) r1=sp2 at S;have y:(l.length - 1)*2+sp2.length=m*2:=by
  rw [<- Y];simp only [List.length_append,List.length_cons,List.length_nil,List.length_drop];omega
 have hg1:w1.heap[g]? = some (.cells (List.toArray (d++x)) 139 (0,0)):=by rw [k1.block g (fi k) aa]; exact k
 have hh:=afU _ g _ (d.take (i*2)++d.drop ((i+1)*2)++sp2).toArray 139 _ (afU w1 g _ r1.toArray 139 _ hg1);have hk:=((k1.sub (T:=[g]) aa).step (Kp.setRow w1 g r1.toArray) aa).step (Kp.setRow _ g (d.take (i*2)++d.drop ((i+1)*2)++sp2).toArray) aa;subst S;obtain ⟨k2,k3,_⟩:=jv (ro:=gF 0) (s':=.nm .opn) (e':=139) (zs:=l.take i++l.drop (i+1)) Z f ⟨rfl,rfl⟩ hk (fun b C=>⟨_,p,by rw [acr] at C; subst C; rfl⟩) (r':=.row g m (l.take i++l.drop (i+1)).length (Sh.nm NT.opn).size) (fun b C=>by
  cases C; exact .inl ⟨_,p,rfl⟩) (fun hle=>⟨J,by rw [U,N]; omega,.inr ⟨g,m,_,sp2,rfl,hh,by
   rw [List.flatMap_append]; exact ((bC q i).append (bV q (i+1))).carry hle,by rw [List.length_append,V,A]; exact y,aE,r⟩⟩)
 exact ⟨[_],rfl,_,k3,k2.ext,k2.bx,.cons (.inl ⟨g,m,_,_,adU t,by rw [U]⟩) .nil,fun C=>by cases C⟩
def vK {a:Type} (z:a) (k:Int):List (Int × a)->a
 | []=>z
 | p :: r=>if k=p.1 then p.2 else vK z k r
def b_ (a b:Int):Int:=if (1<=a/\a<=3)/\(1<=b/\b<=3) then (if a<b then 32 else 0) else 1
def bR (n:Int):Bool:=decide (1<=n) && decide (n<=3)
def iK (l:List Int) (k:Nat):Int:=((l.take k).tail).foldl min (l.headD 0)
def zH (l:List Int):Int:=l.tail.foldl min (l.headD 0)
def iZ (l:List Int):Int:=if decide (l.length=0) || !l.all bR then 0 else zH l
def kF (v:Int) (l:List Int):Bool:=(decide (1<=v) && decide (v<3)) && decide (v<iZ l)
variable {α:Type}
def ai {l:List α} {x:α} (a:l[k]? = some x):l.take (k+1)=l.take k++[x]:=by
 rw [List.take_add_one,a]; rfl
variable {l:List Int} {x:Int}
def DW (d:1<=k) (a:l[k]? = some x):min (iK l k) x=iK l (k+1):=by
 unfold iK;rw [ai a,List.tail_append_of_ne_nil,List.foldl_append]
 ·rfl
 intro h;have c:(l.take k).length=0:=by rw [h]; rfl
 have e:=xN a;rw [List.length_take] at c;omega
def Ka (c:l[0]? = some x):x=iK l 1:=by
 cases l with
 | nil=>simp at c
 | cons a r=>simp at c; simp [iK,c]
def IC (a:l.length<=k):iK l k=zH l:=by
 unfold iK zH; rw [List.take_of_length_le a]
def cq (n a b:Int):Bool:=decide (a<=n) && decide (n<=b)
def aB {α:Type} (d:α->Int) (c:Int):Int->List α->Bool
 | _,[]=>true
 | a,x :: r=>cq (d x) (a+1) c && aB d c (d x) r
def cc {α:Type} (c:α->Int) (a:Int) (l:List α):Int:=l.foldl (fun _ x=>c x) a
theorem kM {α:Type} {d:α->Int} {c:Int} {x:α}:∀ (p:List α) (a:Int),aB d c a (p++[x])=(aB d c a p && cq (d x) (cc d a p+1) c)
 | [],a=>by simp [aB,cc]
 | y :: p,a=>by
  rw [List.cons_append,aB,aB,kM p,Bool.and_assoc]; rfl
theorem mB {α:Type} {d:α->Int} {c:Int} (q:List α):∀ (p:List α) (a:Int),aB d c a (p++q)=true->aB d c a p=true
 | [],a,_=>rfl
 | y :: p,a,h=>by
  rw [List.cons_append,aB,Bool.and_eq_true] at h;rw [aB,Bool.and_eq_true];exact ⟨h.1,mB q p _ h.2⟩
variable {a:Int}
def dK {key:α->Int} {l:List α} {x:α} (c:l[k]? = some x):key x=cc key a (l.take (k+1)):=by
 rw [ai c,cc,List.foldl_append]; rfl
variable {most:Int}
def p_ {key:α->Int} {l:List α} {x:α} (h:aB key most a (l.take k)=true) (c:l[k]? = some x) (e:cc key a (l.take k)<key x) (d:key x<=most):aB key most a (l.take (k+1))=true:=by
 rw [ai c,kM,h,Bool.true_and,cq,Bool.and_eq_true,decide_eq_true_eq,decide_eq_true_eq];exact ⟨aE,d⟩
def qv {key:α->Int} {l:List α} {x:α} (d:l[k]? = some x) (h:¬ (cc key a (l.take k)<key x/\key x<=most)):aB key most a l=false:=by
 cases e:aB key most a l with
 | false=>rfl
 | true=>
  have c:=mB (l.drop (k+1)) (l.take (k+1)) a (by rw [List.take_append_drop]; exact e);rw [ai d,kM,Bool.and_eq_true,cq,Bool.and_eq_true,decide_eq_true_eq,decide_eq_true_eq] at c;exact absurd ⟨aE,c.2.2⟩ h
def pV {c:α->Int} {l:List α} (h:aB c most a (l.take k)=true) (d:l.length<=k):aB c most a l=true:=by
 rwa [List.take_of_length_le d] at h
def cJ (l:List Int):Bool:=(decide ((1:Int)<=((l.length:Nat):Int)) && decide (((l.length:Nat):Int)<=8)) && aB id 64 0 l
theorem pP (c:l[k]? = some x) (h:¬ (cc id 0 (l.take k)<x/\x<=64)):false=cJ l:=by
 rw [cJ,qv (key:=id) c h,Bool.and_false]
theorem mP (h:aB id 64 0 (l.take k)=true) (c:l.length<=k) (d:1<=l.length/\l.length<=8):true=cJ l:=by
 rw [cJ,pV h c,Bool.and_true]; symm; rw [Bool.and_eq_true,decide_eq_true_eq,decide_eq_true_eq]; omega
theorem sT (c:¬ (1<=l.length/\l.length<=8)):false=cJ l:=by
 symm;rw [cJ,Bool.and_eq_false_iff]; left;rw [Bool.and_eq_false_iff,decide_eq_false_iff_not,decide_eq_false_iff_not]; omega
def dZ (x:Sess):Bool:=(cq x.seq 0 1048576 && cq x.last.code 0 99) && cq x.last.n 0 1048576
def ek (x:Opn):Bool:=cq x.client 1 8
def sN {p:α->Bool} {l:List α} {x:α} (h:(l.take k).all p=true) (c:l[k]? = some x) (d:p x=true):(l.take (k+1)).all p=true:=by
 rw [ai c,List.all_append,h]; simp [d]
def QD {p:α->Bool} {l:List α} {x:α} (c:l[k]? = some x) (d:p x=false):l.all p=false:=by
 rw [List.all_eq_false]; exact ⟨x,acA c,by simp [d]⟩
def Lp {p:α->Bool} {l:List α} (h:(l.take k).all p=true) (c:l.length<=k):l.all p=true:=by
 rwa [List.take_of_length_le c] at h
def bf (n:Nat):Nat:=if h:n<128 then 1 else bf (n / 128)+1
termination_by n
decreasing_by omega
def mM (h:¬ n<128):bf n=bf (n / 128)+1:=by rw [bf,dif_neg h]
def jL (h:n<128):bf n=1:=by rw [bf,aju h]
def jo (n:Nat):1<=bf n:=by rw [bf]; split <;> omega
theorem Cv:∀ (k n:Nat),n<128 ^ (k+1)->bf n<=k+1
 | 0,n,h=>by rw [jL (by simpa using h)]; omega
 | k+1,n,h=>by
  by_cases c:n<128
  ·rw [jL c]; omega
  rw [mM c];have:=Cv k (n / 128) (by rw [Nat.div_lt_iff_lt_mul aE,<- Nat.pow_succ]; exact h);omega
def ub (h:n<18446744073709551616):bf n<=10:=Cv 9 n (acv h am)
def mV (n i:Nat):UInt8:=UInt8.ofNat (n / 128 ^ i) ||| 128
def ft (n k:Nat):List UInt8:=(List.range k).map (mV n)++List.replicate (bf n - k) 0
def de (n:Nat):List UInt8:=(ft n (bf n)).set (bf n - 1) (mV n (bf n - 1) &&& 127)
def oL (h:k<=bf n):(ft n k).length=bf n:=by simp [ft]; omega
def Dv (h:k<bf n):(ft n k).set k (mV n k)=ft n (k+1):=by
 unfold ft;rw [List.set_append_right _ _ aa,List.range_succ,List.map_append,List.append_assoc];congr 1;obtain ⟨j,c⟩:∃ j,bf n - k=j+1:=⟨bf n - k - 1,aE⟩;rw [c,show bf n - (k+1)=j by omega];simp [List.replicate_succ]
def DG (n:Nat):List.replicate (bf n) (0:UInt8)=ft n 0:=by simp [ft]
def Dd {x:UInt8} (h:(ft n (bf n))[bf n - 1]? = some x):x=mV n (bf n - 1):=by
 have c:=jo n;unfold ft at h;rw [List.getElem?_append_left (by simp; omega)] at h;simp only [List.getElem?_map,List.getElem?_range (show bf n - 1<bf n by omega),Option.map_some,Option.some.injEq] at h;exact h.symm
def div_pow:n / 128 ^ k / 2 ^ 7=n / 128 ^ (k+1):=by show n / 128 ^ k / 128=_; rw [Nat.div_div_eq_div_mul,Nat.pow_succ]
def LA (n:Nat):(de n).length=bf n:=by rw [de,acF,oL (Nat.le_refl _)]
def db (h:n<18446744073709551616):(de n).length<=10:=by rw [LA]; exact ub h
def iq (l:List Int):List UInt8:=l.flatMap fun x=>de x.toNat
def Jv (c:l[k]? = some x):iq (l.take k)++de x.toNat=iq (l.take (k+1)):=by
 rw [ai c]; simp [iq]
def Px (h:∀ x ∈ l,x<=64):(iq l).length<=10*l.length:=by
 induction l with
 | nil=>simp [iq]
 | cons a l c=>
  have e:=c fun x d=>h x (acs _ d);have g:=db (n:=a.toNat) (by have:=h a aa; omega);simp only [iq,List.flatMap_cons,List.length_append,List.length_cons] at *;omega
def xH (h:cJ l=true):∀ x ∈ l,0<x/\x<=64:=by
 rw [cJ,Bool.and_eq_true] at h;have:∀ (l:List Int) (a:Int),0<=a->aB id 64 a l=true->∀ x ∈ l,0<x/\x<=64:=by
  intro l;induction l with
  | nil=>intro a _ _ x hx; cases hx
  | cons y l d=>
   intro a e c x hx;rw [aB,Bool.and_eq_true,cq,Bool.and_eq_true,decide_eq_true_eq,decide_eq_true_eq] at c;have g:a+1<=y:=c.1.1;have j:y<=64:=c.1.2;rcases acw.1 hx with rfl | hx
   ·omega
   exact d (id y) (by show 0<=y; omega) c.2 x hx
 exact this l 0 aE h.2
def Eu (h:cJ l=true):1<=l.length/\l.length<=8:=by
 rw [cJ,Bool.and_eq_true,Bool.and_eq_true,decide_eq_true_eq,decide_eq_true_eq] at h;omega
def eM (l:List Int):List UInt8:=if cJ l then iq l else []
def fI (l:List Int):Int:=if cJ l then 0 else 1
def KE (c:cJ l=true) (d:l.length<=k):iq (l.take k)=eM l:=by rw [List.take_of_length_le d,eM,if_pos c]
def Jj (c:cJ l=false):[]=eM l:=by rw [eM,c]; rfl
def Aq (c:cJ l=true):0=fI l:=by rw [fI,c]; rfl
def tL (c:cJ l=false):1=fI l:=by rw [fI,c]; rfl
def dE (v t:Int) (x:Snap):Bool:=((decide (fI x.chunks=0) && cq x.set 1 8) && (!x.held || decide (2<=v))) && decide (((x.tag.b.length:Nat):Int)<=t)
def xv (v:Int):Int:=if v<3 then 0 else 16
def fW (s:State) (v:Int):Bool:=!(decide (16<((s.snaps.length:Nat):Int)) || !(aB Snap.id (s.next - 1) 0 s.snaps)) && s.snaps.all (dE v (xv v))
def kZ (s:State) (v:Int):Bool:=((cq s.version 1 3 && cq s.next 1 1048576) && cq s.keep 0 8) && cq s.quota 0 (if v<3 then 0 else 64)
def A_ (s:State):Bool:=aB Sess.client 8 0 s.sess && s.sess.all dZ
def xo (s:State):Bool:=aB Opn.set 8 0 s.opens && s.opens.all ek
def eA (s:State) (v:Int):Int:=if !(cq v 1 3) then 1 else if (((!kZ s v || !A_ s) || !xo s) || !fW s v) then 6 else 0
def cE (k:Int):Int:=vK 0 k [((1:Int),(1:Int)),((2:Int),(1:Int)),((3:Int),(1:Int)),((4:Int),(1:Int)),((5:Int),(1:Int)),((6:Int),(1:Int)),((7:Int),(1:Int)),((8:Int),(1:Int)),((9:Int),(2:Int)),((10:Int),(2:Int)),((11:Int),(3:Int)),((12:Int),(3:Int))]
def UJ {k:Int} (h:¬ (1<=k/\k<=12)):cE k=0:=by
 unfold cE;simp only [vK];repeat rw [if_neg aE]
variable {b:Int}
def Ki {n:Int} (h:cq n a b=true):a<=n/\n<=b:=by unfold cq at h; rw [Bool.and_eq_true,decide_eq_true_eq,decide_eq_true_eq] at h; exact h
def inF {n:Int} (h:cq n a b=false):¬ (a<=n/\n<=b):=fun c=>by
 have:cq n a b=true:=by unfold cq; rw [Bool.and_eq_true,decide_eq_true_eq,decide_eq_true_eq]; exact c
 rw [h] at this; cases this
def ja (x:Int) (l:List Int):Int:=match l.findIdx? (fun y=>decide (x=y)) with | some i=>(i:Int) | none=>-1
def Oy {y:Int} (h:∀ j y,j<k->l[j]? = some y->¬ x=y) (d:l[k]? = some y) (c:x=y):(k:Int)=ja x l:=by
 have:l.findIdx? (fun y=>decide (x=y))=some k:=by
  obtain ⟨e,rfl⟩:=aaw.1 d;rw [afZ];exact ⟨e,decide_eq_true c,fun j g=>by simpa using h j _ g (List.getElem?_eq_getElem aE)⟩
 simp [ja,this]
def MN (x:Int) (l:List Int):decide (0<=ja x l)=l.contains x:=by
 unfold ja;cases h:l.findIdx? (fun y=>decide (x=y)) with
 | none=>
  rw [List.findIdx?_eq_none_iff] at h;have:l.contains x=false:=by
   rw [<- Bool.not_eq_true,aiD];intro c; have:=h x c; simp at this
  rw [this]; rfl
 | some i=>
  rw [afZ] at h;obtain ⟨d,e,_⟩:=h;have:l.contains x=true:=by
   rw [aiD,acx e]; exact afT d
  rw [this]; simp
def oF (n most:Int) (c:Bool):Bool:=if c then (decide (1<=n) && decide (n<=most)) else decide (n=0)
def vi (k:Int):Int × Int:=vK (0,0) k [((6:Int),((0:Int),(8:Int))),((8:Int),((2:Int),(3:Int))),((12:Int),((0:Int),(64:Int)))]
def chF (c:Command):Bool:=if c.kind=3 then cJ c.chunks else decide (((c.chunks.length:Nat):Int)=0)
def txF (c:Command):Bool:=if c.kind=11 then decide (((c.text.b.length:Nat):Int)<=16) else decide (c.text=⟨[]⟩)
def mu (c:Command):Bool:=((((((((decide ((vi c.kind).1<=c.n) && decide (c.n<=(vi c.kind).2)) && chF c) && txF c) && oF c.client 8 (!([(8:Int)].contains c.kind))) && oF c.seq 1048576 (!([(1:Int),8].contains c.kind))) && oF c.set 8 ([(2:Int),3,4].contains c.kind)) && oF c.id 1048576 ([(5:Int),7,9,10,11].contains c.kind)))
def bK (c:Command) (v:Int):Int:=if !(cq v 1 3) || decide (cE c.kind=0) then 1 else if v<cE c.kind then 10 else if !mu c then 1 else 0
def TL {s:Str}:decide (((s.b.length:Nat):Int)=0)=decide (s=⟨[]⟩):=by
 cases s with | mk b=>
 cases b with
 | nil=>simp
 | cons a t=>rw [aht]; simp; omega
def wj (c:Command):Bool:=(((cq c.client 0 1048576 && cq c.seq 0 1048576) && cq c.set 0 1048576) && cq c.id 0 1048576) && cq c.n 0 1048576
def gw (c:Command) (v:Int):Bool:=(((cq c.kind 1 99 && (decide (cE c.kind=0) || decide (v<cE c.kind))) && wj c) && (decide (((c.chunks.length:Nat):Int)=0) || cJ c.chunks)) && (decide (((c.text.b.length:Nat):Int)=0) || (decide (3<=v) && decide (((c.text.b.length:Nat):Int)<=16)))
def Mf {c:Command} {v:Int} (h:((c.kind<1\/99<c.kind)\/(¬ cE c.kind=0/\cE c.kind<=v))):false=gw c v:=by
 have:(cq c.kind 1 99 && (decide (cE c.kind=0) || decide (v<cE c.kind)))=false:=by
  rw [<- Bool.not_eq_true]; simp only [cq,Bool.and_eq_true,Bool.or_eq_true,decide_eq_true_eq]; omega
 unfold gw; rw [this]; rfl
def Ub {c:Command} {v:Int} (h:(c.client<0\/1048576<c.client)\/(c.seq<0\/1048576<c.seq)\/(c.set<0\/1048576<c.set)\/(c.id<0\/1048576<c.id)\/(c.n<0\/1048576<c.n)):false=gw c v:=by
 have:wj c=false:=by
  rw [<- Bool.not_eq_true]; unfold wj; simp only [cq,Bool.and_eq_true,decide_eq_true_eq]; omega
 unfold gw; rw [this,Bool.and_false]; rfl
def Sa {c:Command} {v:Int} (h:0<((c.chunks.length:Nat):Int)/\cJ c.chunks=false):false=gw c v:=by
 have:(decide (((c.chunks.length:Nat):Int)=0) || cJ c.chunks)=false:=by
  rw [h.2,Bool.or_false]; exact decide_eq_false aE
 unfold gw; rw [this,Bool.and_false]; rfl
def HB {c:Command} {v:Int} (h:¬ ((c.kind<1\/99<c.kind)\/(¬ cE c.kind=0/\cE c.kind<=v))) (j:¬ ((c.client<0\/1048576<c.client)\/(c.seq<0\/1048576<c.seq)\/(c.set<0\/1048576<c.set)\/(c.id<0\/1048576<c.id)\/(c.n<0\/1048576<c.n)))
  (h3:(¬ (0<((c.chunks.length:Nat):Int)))\/cJ c.chunks=true):gw c v=(decide (((c.text.b.length:Nat):Int)=0) || (decide (3<=v) && decide (((c.text.b.length:Nat):Int)<=16))):=by
 have d:(cq c.kind 1 99 && (decide (cE c.kind=0) || decide (v<cE c.kind)))=true:=by
  simp only [cq,Bool.and_eq_true,Bool.or_eq_true,decide_eq_true_eq]; omega
 have e:wj c=true:=by unfold wj; simp only [cq,Bool.and_eq_true,decide_eq_true_eq]; omega
 have g:(decide (((c.chunks.length:Nat):Int)=0) || cJ c.chunks)=true:=by
  rcases h3 with h3 | h3
  ·rw [decide_eq_true (show ((c.chunks.length:Nat):Int)=0 by omega)]; rfl
  rw [h3,Bool.or_true]
 unfold gw; rw [d,e,g]; rfl
def aar {c:Command} {v:Int} (d:¬ ((c.kind<1\/99<c.kind)\/(¬ cE c.kind=0/\cE c.kind<=v))) (e:¬ ((c.client<0\/1048576<c.client)\/(c.seq<0\/1048576<c.seq)\/(c.set<0\/1048576<c.set)\/(c.id<0\/1048576<c.id)\/(c.n<0\/1048576<c.n)))
  (g:(¬ (0<((c.chunks.length:Nat):Int)))\/cJ c.chunks=true) (h:v<3):decide (c.text=⟨[]⟩)=gw c v:=by
 rw [HB d e g,TL,decide_eq_false (show ¬ (3:Int)<=v by omega)]; simp
def Yu {c:Command} {v:Int} (d:¬ ((c.kind<1\/99<c.kind)\/(¬ cE c.kind=0/\cE c.kind<=v))) (e:¬ ((c.client<0\/1048576<c.client)\/(c.seq<0\/1048576<c.seq)\/(c.set<0\/1048576<c.set)\/(c.id<0\/1048576<c.id)\/(c.n<0\/1048576<c.n)))
  (g:(¬ (0<((c.chunks.length:Nat):Int)))\/cJ c.chunks=true) (h:¬ v<3):decide (((c.text.b.length:Nat):Int)<=16)=gw c v:=by
 rw [HB d e g,aht]; simp only [Bool.or_eq_true,Bool.and_eq_true,decide_eq_true_eq]; omega
def cG (k:Int):Bool:=decide (1<=k) && decide (k<=3)
def OJ {s:Str} (h:(s.b.length:Int)<=n):s=⟨s.b.take n⟩:=by
 cases s; rw [List.take_of_length_le (by simpa using h)]
theorem YC (c:l[k]? = some x):x=cc id 0 (l.take (k+1)):=dK (key:=id) c
theorem QK (h:aB id 64 0 (l.take k)=true) (c:l[k]? = some x) (d:cc id 0 (l.take k)<x) (e:x<=64):aB id 64 0 (l.take (k+1))=true:=p_ (key:=id) h c (by dsimp only [id]; omega) (by dsimp only [id]; omega)
def ahj (l:List Int):List (Nat × LI):=[(5,{ σ:=Nat,F:=fun k=>([(3,one (.int (cc id 0 (l.take k)))),(14,one (.fz .int (l))),(15,one (.int (l).length)),(16,one (.int k))],[]),J:=fun k=>k<=l.length/\aB id 64 0 (l.take k)=true/\1<=l.length/\l.length<=8,μ:=fun k=>(l).length - k })]
def GH:Kn:=aO (ae (kC cI) ao) aw fun (k,_) _=>⟨[],[.c (.bool (.atom ((cG k))))],none,false⟩
theorem RQ:CK 90 GH:=ah fun (k,_) _ _=>by
 refine av gh [] Tryz.func90 (?_:I64 k->(decide (1<=k) && decide (k<=3))=cG k);grind [cG]
def Yi:Kn:=aO (ae (kC (cL .int)) ao) aw fun (l,_) _=>⟨[],[.c (.bool (.atom ((cJ l))))],none,false⟩
theorem adZ:CK 156 Yi:=ah fun (l,_) _ _=>by
 refine av gh (ahj l) Tryz.func156 (?_:(fun (e:Int)=>(fun (d:Int)=>(fun (c:Nat)=>(fun (j:Prop)=>l.length*8<=140737488355328->(e<1\/8<e->false=cJ l)/\(1<=e/\e<=8->∃ (h:Nat),(d=cc id d (List.take h l)/\l=l/\e=(↑c:Int)/\d=(↑h:Int))/\(h<=c/\aB id 64 d (List.take h l)=true/\j)/\∀ (s:Nat),s<=c/\aB id 64 d (List.take s l)=true/\j->((↑s:Int)<(↑c:Int)->d<=(↑s:Int)/\(↑s:Int)<e/\∀ (x:Int),l[s]? = some x->I64 x->(x<=cc id d (List.take s l)\/64<x->false=cJ l)/\(cc id d (List.take s l)<x/\x<=64->I64 ((↑s:Int)+1)/\∃ (g:Nat),(x=cc id d (List.take g l)/\l=l/\(↑c:Int)=(↑c:Int)/\(↑s:Int)+1=(↑g:Int))/\(g <= c/\aB id 64 d (List.take g l)=true/\j)/\c - g < c - s))/\((↑c:Int)<=(↑s:Int)->true=cJ l))) (1<=c/\c<=8)) l.length) 0) (↑l.length:Int));(repeat' (first | refine And.intro ?_ ?_ | intro))
 all_goals try (grind [sT,pP,mP,YC,QK,aB,cc])
 all_goals (refine ⟨0,?_⟩; (repeat' (first | refine And.intro ?_ ?_ | intro)))
 all_goals try (grind [sT,pP,mP,YC,QK,aB,cc])
 all_goals (refine ⟨‹Nat› + 1,?_⟩; (repeat' (first | refine And.intro ?_ ?_ | intro)))
 all_goals grind [sT,pP,mP,YC,QK,aB,cc]
def QE:Kn:=aO (ae (kC cI) ao) aw fun (x,_) _=>⟨[],[.c (.int ((cE x)))],none,false⟩
def ack:CK 89 QE:=ah fun (x,_) _ _=>by
 refine av gh [] Tryz.func89 (?_:(fun c=>I64 x->(if x=12 then some 3 else if x=11 then some 3 else if x=10 then some 2 else if x=9 then some 2 else if x=8 then c else if x=7 then c else if x=6 then c else if x=5 then c else if x=4 then c else if x=3 then c else if x=2 then c else if x=1 then c else none).getD (au Sh.int)=cE x) (some (1:Int)));intro _;simp only [cE,vK];by_cases h:1<=x/\x<=12
 ·have d:x=1\/x=2\/x=3\/x=4\/x=5\/x=6\/x=7\/x=8\/x=9\/x=10\/x=11\/x=12:=by omega
  rcases d with rfl | rfl | rfl | rfl | rfl | rfl | rfl | rfl | rfl | rfl | rfl | rfl <;> rfl
 have m:¬ x=1:=by omega
 have d:¬ x=2:=by omega
 have o:¬ x=3:=by omega
 have p:¬ x=4:=by omega
 have q:¬ x=5:=by omega
 have r:¬ x=6:=by omega
 have s:¬ x=7:=by omega
 have u:¬ x=8:=by omega
 have v:¬ x=9:=by omega
 have e:¬ x=10:=by omega
 have g:¬ x=11:=by omega
 have j:¬ x=12:=by omega
 simp [m,d,o,p,q,r,s,u,v,e,g,j,au]
def WY:Kn:=aO (ae (kT (.nm .span)) (ae (kC cI) ao)) aw fun (s,k,_) _=>⟨[],[.c (.bool (.atom ((decide (s.lo<=k) && decide (k<=s.hi)))))],none,false⟩
theorem adb:CK 155 WY:=ah fun (s,k,_) _ _=>by
 refine av gh [] Tryz.func155 (?_:(fun c=>I64 s.lo->I64 s.hi->I64 k->c=c) (decide (s.lo<=k) && decide (k<=s.hi)));grind
def Ab:Kn:=aO (ae (kC cI) (ae (kC cI) (ae (kC cI) ao))) aw fun (n,a,b,_) _=>⟨[],[.c (.bool (.atom ((cq n a b))))],none,false⟩
theorem PE:CK 290 Ab:=ah fun (n,a,b,_) _ _=>by
 refine av gh [] Tryz.func290 (?_:I64 n->I64 a->I64 b->(decide (a<=n) && decide (n<=b))=cq n a b);grind [cq]
def rJ:Kn:=aO (ae (kT (.nm .sess)) ao) aw fun (x,_) _=>⟨[],[.c (.int ((x.client)))],none,false⟩
theorem Ee:CK 278 rJ:=ah fun (x,_) _ _=>by
 refine av gh [] Tryz.func278 (?_:jO x (x.client=x.client));grind
def Gk:Kn:=aO (ae (kT (.nm .opn)) ao) aw fun (x,_) _=>⟨[],[.c (.int ((x.set)))],none,false⟩
theorem SB:CK 295 Gk:=ah fun (x,_) _ _=>by
 refine av gh [] Tryz.func295 (?_:I64 x.set->I64 x.client->x.set=x.set);grind
def OA:Kn:=aO (ae (kT (.nm .snap)) ao) aw fun (x,_) _=>⟨[],[.c (.int ((x.id)))],none,false⟩
theorem abC:CK 335 OA:=ah fun (x,_) _ _=>by
 refine av gh [] Tryz.func335 (?_:fq x (x.id=x.id));grind
def vT:Kn:=aO (ae (kC cI) ao) aw fun (e,_) _=>⟨[],[.agg (cellsOf (.nm .reply) (⟨e,0⟩))],none,false⟩
theorem Kc:CK 261 vT:=ah fun (e,_) _ _=>by
 refine av gh [] Tryz.func261 (?_:I64 e->e=e/\(0:Int)=0);grind
def afi:bP:=(aQ 261 vT (aQ 335 OA (aQ 295 Gk (aQ 278 rJ (aQ 290 Ab (aQ 155 WY (aQ 89 QE (aQ 156 Yi (aQ 90 GH adA)))))))))
def rb:aA Tryz.prog (ak tyT) afi:=(ag Kc (ag abC (ag SB (ag Ee (ag PE (ag adb (ag ack (ag adZ (ag RQ gh)))))))))
def aD {n:Int} (c:-9223372036854775808<=n) (d:n<=9223372036854775807):I64 n:=⟨c,d⟩
def al {α:Type} (d:α->Int) (c:Int) (l:List α):Int:=match l.findIdx? (fun x=>decide (d x=c)) with
 | some i=>(i:Int)
 | none=>-1
section
variable {α:Type} {key:α->Int} {want:Int} {l:List α} {k:Nat} {x:α}
theorem rP:al key want l = -1↔∀ x ∈ l,¬ key x=want:=by
 unfold al;grind
def xn:al key want (l.take 0) = -1:=rfl
theorem nP (h:al key want (l.take k) = -1) (c:l[k]? = some x) (d:¬ key x=want):al key want (l.take (k+1)) = -1:=by
 rw [rP] at h ⊢;rw [ai c];grind
def sG (h:al key want (l.take k) = -1) (c:l.length<=k):-1=al key want l:=by
 rw [List.take_of_length_le c] at h; exact h.symm
theorem lX (h:al key want (l.take k) = -1) (c:l[k]? = some x) (d:key x=want):(k:Int)=al key want l:=by
 have:l.findIdx? (fun x=>decide (key x=want))=some k:=by
  rw [rP] at h;obtain ⟨e,rfl⟩:=aaw.1 c;rw [afZ];refine ⟨e,decide_eq_true d,fun j g=>?_⟩;have:=h l[j] (by rw [List.mem_take_iff_getElem]; exact ⟨j,aE,rfl⟩);grind
 rw [al,this]
end
def Dr (l:List Sess) (c:Int):List (Nat × LI):=[(2,{ σ:=Nat,F:=fun k=>([(1,one (.int (c))),(2,one (.fn 278 [] [])),(9,one (.fz (.nm .sess) (l))),(10,one (.int (l).length)),(11,one (.int k))],[]),J:=fun k=>k<=l.length/\al Sess.client c (l.take k) = -1,μ:=fun k=>(l).length - k })]
def DI (l:List Opn) (c:Int):List (Nat × LI):=[(2,{ σ:=Nat,F:=fun k=>([(1,one (.int (c))),(2,one (.fn 295 [] [])),(9,one (.fz (.nm .opn) (l))),(10,one (.int (l).length)),(11,one (.int k))],[]),J:=fun k=>k<=l.length/\al Opn.set c (l.take k) = -1,μ:=fun k=>(l).length - k })]
def CS (l:List Snap) (c:Int):List (Nat × LI):=[(2,{ σ:=Nat,F:=fun k=>([(1,one (.int (c))),(2,one (.fn 335 [] [])),(9,one (.fz (.nm .snap) (l))),(10,one (.int (l).length)),(11,one (.int k))],[]),J:=fun k=>k<=l.length/\al Snap.id c (l.take k) = -1,μ:=fun k=>(l).length - k })]
def pZ:Kn:=aO (ae (kC (cL (.nm .sess))) (ae (kC cI) (ae (kC (qL 278 [] [])) ao))) aw fun (l,d,_,_) _=>⟨[],[.c (.int ((al Sess.client d l)))],none,false⟩
theorem CJ:CK 277 pZ:=ah fun (l,c,_,_) _ _=>by
 refine av rb (Dr l c) Tryz.func277 (?_:(fun (e:Int)=>(fun (d:Nat)=>l.length*32<=140737488355328->I64 c->∃ (h:Nat),(c=c/\l=l/\(↑l.length:Int)=(↑d:Int)/\0=(↑h:Int))/\(h<=d/\al Sess.client c (List.take h l) = -e)/\∀ (s:Nat),s<=d/\al Sess.client c (List.take s l) = -e->((↑s:Int)<(↑d:Int)->0<=(↑s:Int)/\(↑s:Int)<(↑l.length:Int)/\∀ (x:Sess),l[s]? = some x->jO x (I64 x.client->(x.client=c->(↑s:Int)=al Sess.client c l)/\(¬x.client=c->I64 ((↑s:Int)+e)/\∃ (g:Nat),(c=c/\l=l/\(↑d:Int)=(↑d:Int)/\(↑s:Int)+e=(↑g:Int))/\(g <= d/\al Sess.client c (List.take g l) = -e)/\d - g < d - s)))/\((↑d:Int)<=(↑s:Int) -> -e=al Sess.client c l)) l.length) 1);iterate 3 ((all_goals (repeat' with_reducible first|apply aV|refine bl ?_|intro)); (all_goals try (first | exact bY | exact (xn (key:=Sess.client)) | exact (lX (key:=Sess.client) ab ab ab) | exact (sG (key:=Sess.client) ab aE) | exact (nP (key:=Sess.client) ab ab ab))); all_goals try first | refine ⟨‹Nat› + 1,?_⟩ | refine ⟨0,?_⟩)
def qa:Kn:=aO (ae (kC (cL (.nm .opn))) (ae (kC cI) (ae (kC (qL 295 [] [])) ao))) aw fun (l,d,_,_) _=>⟨[],[.c (.int ((al Opn.set d l)))],none,false⟩
theorem zf:CK 357 qa:=ah fun (l,c,_,_) _ _=>by
 refine av rb (DI l c) Tryz.func357 (?_:(fun (e:Int)=>(fun (d:Nat)=>l.length*16<=140737488355328->I64 c->∃ (h:Nat),(c=c/\l=l/\(↑l.length:Int)=(↑d:Int)/\0=(↑h:Int))/\(h<=d/\al Opn.set c (List.take h l) = -e)/\∀ (s:Nat),s<=d/\al Opn.set c (List.take s l) = -e->((↑s:Int)<(↑d:Int)->0<=(↑s:Int)/\(↑s:Int)<(↑l.length:Int)/\∀ (x:Opn),l[s]? = some x->I64 x.set->I64 x.client->I64 x.set->(x.set=c->(↑s:Int)=al Opn.set c l)/\(¬x.set=c->I64 ((↑s:Int)+e)/\∃ (g:Nat),(c=c/\l=l/\(↑d:Int)=(↑d:Int)/\(↑s:Int)+e=(↑g:Int))/\(g <= d/\al Opn.set c (List.take g l) = -e)/\d - g < d - s))/\((↑d:Int)<=(↑s:Int) -> -e=al Opn.set c l)) l.length) 1);iterate 3 ((all_goals (repeat' with_reducible first|apply aV|refine bl ?_|intro)); (all_goals try (first | exact bY | exact (xn (key:=Opn.set)) | exact (lX (key:=Opn.set) ab ab ab) | exact (sG (key:=Opn.set) ab aE) | exact (nP (key:=Opn.set) ab ab ab))); all_goals try first | refine ⟨‹Nat› + 1,?_⟩ | refine ⟨0,?_⟩)
def qe:Kn:=aO (ae (kC (cL (.nm .snap))) (ae (kC cI) (ae (kC (qL 335 [] [])) ao))) aw fun (l,d,_,_) _=>⟨[],[.c (.int ((al Snap.id d l)))],none,false⟩
theorem By:CK 339 qe:=ah fun (l,c,_,_) _ _=>by
 refine av rb (CS l c) Tryz.func339 (?_:(fun (e:Int)=>(fun (d:Nat)=>l.length*64<=140737488355328->I64 c->∃ (h:Nat),(c=c/\l=l/\(↑l.length:Int)=(↑d:Int)/\0=(↑h:Int))/\(h<=d/\al Snap.id c (List.take h l) = -e)/\∀ (s:Nat),s<=d/\al Snap.id c (List.take s l) = -e->((↑s:Int)<(↑d:Int)->0<=(↑s:Int)/\(↑s:Int)<(↑l.length:Int)/\∀ (x:Snap),l[s]? = some x->fq x (I64 x.id->(x.id=c->(↑s:Int)=al Snap.id c l)/\(¬x.id=c->I64 ((↑s:Int)+e)/\∃ (g:Nat),(c=c/\l=l/\(↑d:Int)=(↑d:Int)/\(↑s:Int)+e=(↑g:Int))/\(g <= d/\al Snap.id c (List.take g l) = -e)/\d - g < d - s)))/\((↑d:Int)<=(↑s:Int) -> -e=al Snap.id c l)) l.length) 1);iterate 3 ((all_goals (repeat' with_reducible first|apply aV|refine bl ?_|intro)); (all_goals try (first | exact bY | exact (xn (key:=Snap.id)) | exact (lX (key:=Snap.id) ab ab ab) | exact (sG (key:=Snap.id) ab aE) | exact (nP (key:=Snap.id) ab ab ab))); all_goals try first | refine ⟨‹Nat› + 1,?_⟩ | refine ⟨0,?_⟩)
def afa:bP:=(aQ 339 qe (aQ 357 qa (aQ 277 pZ afi)))
def jP:aA Tryz.prog (ak tyT) afa:=(ag By (ag zf (ag CJ rb)))
variable {r m:Nat}
def Vx (h:bf n+1=bf r+m) (c:128<=r):bf n+1=bf (r / 128)+(m+1):=by
 have:=mM (n:=r) aE; omega
def Sq (h:bf n+1=bf r+m) (c:n<18446744073709551616):m<=10:=by
 have:=ub c; have:=jo r; omega
def MU (h:bf n+1=bf r+m) (c:r<128):m=bf n:=by
 have:=jL c; omega
section
variable {α:Type} {key:α->Int} {most:Int} {l:List α} {k:Nat} {x:α}
def nV (h:aB key most 0 (l.take k)=true) (d:l[k]? = some x) (c:cq (key x) (cc key 0 (l.take k)+1) most=true):aB key most 0 (l.take (k+1))=true:=
 p_ h d (by have:=Ki c; omega) (Ki c).2
def wA (c:l[k]? = some x) (d:cq (key x) (cc key 0 (l.take k)+1) most=false):false=aB key most 0 l:=
 (qv c (by have:=inF d; omega)).symm
def wo (h:aB key most 0 (l.take k)=true) (c:l.length<=k):true=aB key most 0 l:=(pV h c).symm
def vW (c:l[k]? = some x) (e:0<=cc key 0 (l.take k)) (d:cq (key x) (cc key 0 (l.take k)+1) most=true):0<=cc key 0 (l.take (k+1)):=by
 have:=Ki d; rw [<- dK c]; omega
def wN (c:l[k]? = some x) (d:cq (key x) (cc key 0 (l.take k)+1) most=true) (e:most<=1048576):cc key 0 (l.take (k+1))<=1048576:=by
 have:=Ki d; rw [<- dK c]; omega
variable {p:α->Bool}
def Nq (c:l[k]? = some x) (d:p x=false):false=l.all p:=(QD c d).symm
def KJ (h:(l.take k).all p=true) (c:l.length<=k):true=l.all p:=(Lp h c).symm
end
def aem (n:U64):List (Nat × LI):=[(2,{ σ:=Nat × Nat,F:=fun s=>([(0,one (.u64 s.1)),(3,one (.int s.2))],[]),J:=fun s=>s.1<18446744073709551616/\bf n.n+1=bf s.1+s.2,μ:=fun s=>s.1 })]
def yS (l:List Sess) (most:Int):List (Nat × LI):=[(3,{ σ:=Nat,F:=fun k=>([(1,one (.int (most))),(2,one (.fn 278 [] [])),(7,one (.int (cc Sess.client 0 (l.take k)))),(10,one (.fz (.nm .sess) (l))),(11,one (.int (l).length)),(12,one (.int k))],[]),J:=fun k=>k<=l.length/\aB Sess.client most 0 (l.take k)=true/\0<=cc Sess.client 0 (l.take k)/\cc Sess.client 0 (l.take k)<=1048576,μ:=fun k=>(l).length - k })]
def Cc (l:List Opn) (most:Int):List (Nat × LI):=[(3,{ σ:=Nat,F:=fun k=>([(1,one (.int (most))),(2,one (.fn 295 [] [])),(7,one (.int (cc Opn.set 0 (l.take k)))),(10,one (.fz (.nm .opn) (l))),(11,one (.int (l).length)),(12,one (.int k))],[]),J:=fun k=>k<=l.length/\aB Opn.set most 0 (l.take k)=true/\0<=cc Opn.set 0 (l.take k)/\cc Opn.set 0 (l.take k)<=1048576,μ:=fun k=>(l).length - k })]
def zK (l:List Snap) (most:Int):List (Nat × LI):=[(3,{ σ:=Nat,F:=fun k=>([(1,one (.int (most))),(2,one (.fn 335 [] [])),(7,one (.int (cc Snap.id 0 (l.take k)))),(10,one (.fz (.nm .snap) (l))),(11,one (.int (l).length)),(12,one (.int k))],[]),J:=fun k=>k<=l.length/\aB Snap.id most 0 (l.take k)=true/\0<=cc Snap.id 0 (l.take k)/\cc Snap.id 0 (l.take k)<=1048576,μ:=fun k=>(l).length - k })]
def Kr:Kn:=aO (ae (kC cU) ao) aw fun (n,_) _=>⟨[],[.c (.int (((bf n.n:Int))))],none,false⟩
def YO:CK 253 Kr:=ah fun (n,_) _ _=>by
 refine av jP (aem n) Tryz.func253 (?_:(fun (e:Nat)=>n.n<(18446744073709551616:Nat)->∃ (d:Nat × Nat),(n.n=d.fst/\(1:Int)=(↑d.snd:Int))/\(d.fst<(18446744073709551616:Nat)/\e=bf d.fst+d.snd)/\∀ (s:Nat × Nat),s.fst<(18446744073709551616:Nat)/\e=bf s.fst+s.snd->((↑(128:Nat):Int)<=(↑s.fst:Int)->(7:Nat)<(64:Nat)/\I64 ((↑s.snd:Int)+(1:Int))/\∃ (c:Nat × Nat),(s.fst / (2:Nat) ^ (7:Nat)=c.fst/\(↑s.snd:Int)+(1:Int)=(↑c.snd:Int))/\(c.fst<(18446744073709551616:Nat)/\e=bf c.fst+c.snd)/\c.fst<s.fst)/\((↑s.fst:Int)<(↑(128:Nat):Int)->(↑s.snd:Int)=(↑(bf n.n):Int))) (bf n.n+(1:Nat)));intro j;refine ⟨(n.n,1),⟨rfl,rfl⟩,⟨j,rfl⟩,fun s g=>⟨fun h=>?_,fun h=>?_⟩⟩
 ·have o:=Vx g.2 aE;have p:=Sq g.2 j;exact ⟨aE,by constructor <;> omega,(s.1 / 128,s.2+1),⟨rfl,aa⟩,⟨by show s.1 / 128<_; omega,o⟩,by show s.1 / 128<s.1; omega⟩
 exact congrArg Int.ofNat (MU g.2 aE)
def oy:Kn:=aO (ae (kC (cL (.nm .sess))) (ae (kC cI) (ae (kC (qL 278 [] [])) ao))) aw fun (l,most,_,_) _=>⟨[most<=1048576],[.c (.bool (.atom ((aB Sess.client most 0 l))))],none,false⟩
theorem xw:CK 291 oy:=ah fun (l,most,_,_) _ q=>by
 have u:=cg q;refine av jP (yS l most) Tryz.func291 (?_:(fun (d:Nat)=>(fun (c:Int)=>l.length*32<=140737488355328->I64 most->∃ (g:Nat),(fun (h:Int)=>(most=most/\c=h/\l=l/\(↑l.length:Int)=(↑d:Int)/\c=(↑g:Int))/\(g<=d/\aB Sess.client most c (List.take g l)=true/\c<=h/\h<=1048576)/\∀ (s:Nat),(fun (j:Int)=>(fun (o:Int)=>s<=d/\aB Sess.client most c (List.take s l)=true/\c<=j/\j<=1048576->((↑s:Int)<(↑d:Int)->c<=(↑s:Int)/\(↑s:Int)<(↑l.length:Int)/\∀ (x:Sess),l[s]? = some x->jO x (I64 x.client->I64 o/\(cq x.client o most=false->false=aB Sess.client most c l)/\(cq x.client o most=true->I64 x.client->I64 ((↑s:Int)+1)/\∃ (e:Nat),(fun (p:Int)=>(most=most/\x.client=p/\l=l/\(↑d:Int)=(↑d:Int)/\(↑s:Int)+1=(↑e:Int))/\(e <= d/\aB Sess.client most c (List.take e l)=true/\c<=p/\p<=1048576)/\d - e < d - s) (cc Sess.client c (List.take e l)))))/\((↑d:Int)<=(↑s:Int)->true=aB Sess.client most c l)) (j+1)) (cc Sess.client c (List.take s l))) (cc Sess.client c (List.take g l))) 0) l.length);(repeat' (intro))
 all_goals try (first | (first | (refine aD ?_ ?_ <;> omega)) | exact (nV (key:=Sess.client) ab ab ab) | exact (wA (key:=Sess.client) ab ab) | exact (wo (key:=Sess.client) ab aE) | exact (dK (key:=Sess.client) ab) | exact (vW (key:=Sess.client) ab ab ab) | exact (wN (key:=Sess.client) ab ab ab) | exact rfl | exact afO _ | exact (show (0:Int)<=1048576 by omega))
 all_goals try (refine ⟨0,?_⟩; (repeat' with_reducible first|apply aV|refine bl ?_|intro))
 all_goals try (exact (nV (key:=Sess.client) ab ab ab))
 all_goals try (refine ⟨‹Nat› + 1,?_⟩; (repeat' with_reducible first|apply aV|refine bl ?_|intro))
 all_goals (first | (first | omega | (refine aD ?_ ?_ <;> omega)) | exact (nV (key:=Sess.client) ab ab ab) | exact (wA (key:=Sess.client) ab ab) | exact (wo (key:=Sess.client) ab aE) | exact (dK (key:=Sess.client) ab) | exact (vW (key:=Sess.client) ab ab ab) | exact (wN (key:=Sess.client) ab ab ab) | exact rfl | exact afO _ | exact (show (0:Int)<=1048576 by omega))
def om:Kn:=aO (ae (kC (cL (.nm .opn))) (ae (kC cI) (ae (kC (qL 295 [] [])) ao))) aw fun (l,most,_,_) _=>⟨[most<=1048576],[.c (.bool (.atom ((aB Opn.set most 0 l))))],none,false⟩
theorem yF:CK 294 om:=ah fun (l,most,_,_) _ q=>by
 have u:=cg q;refine av jP (Cc l most) Tryz.func294 (?_:(fun (d:Nat)=>(fun (c:Int)=>l.length*16<=140737488355328->I64 most->∃ (g:Nat),(fun (h:Int)=>(most=most/\c=h/\l=l/\(↑l.length:Int)=(↑d:Int)/\c=(↑g:Int))/\(g<=d/\aB Opn.set most c (List.take g l)=true/\c<=h/\h<=1048576)/\∀ (s:Nat),(fun (j:Int)=>(fun (o:Int)=>s<=d/\aB Opn.set most c (List.take s l)=true/\c<=j/\j<=1048576->((↑s:Int)<(↑d:Int)->c<=(↑s:Int)/\(↑s:Int)<(↑l.length:Int)/\∀ (x:Opn),l[s]? = some x->I64 x.set->I64 x.client->I64 x.set->I64 o/\(cq x.set o most=false->false=aB Opn.set most c l)/\(cq x.set o most=true->I64 x.set->I64 ((↑s:Int)+1)/\∃ (e:Nat),(fun (p:Int)=>(most=most/\x.set=p/\l=l/\(↑d:Int)=(↑d:Int)/\(↑s:Int)+1=(↑e:Int))/\(e <= d/\aB Opn.set most c (List.take e l)=true/\c<=p/\p<=1048576)/\d - e < d - s) (cc Opn.set c (List.take e l))))/\((↑d:Int)<=(↑s:Int)->true=aB Opn.set most c l)) (j+1)) (cc Opn.set c (List.take s l))) (cc Opn.set c (List.take g l))) 0) l.length);(repeat' (intro))
 all_goals try (first | (first | (refine aD ?_ ?_ <;> omega)) | exact (nV (key:=Opn.set) ab ab ab) | exact (wA (key:=Opn.set) ab ab) | exact (wo (key:=Opn.set) ab aE) | exact (dK (key:=Opn.set) ab) | exact (vW (key:=Opn.set) ab ab ab) | exact (wN (key:=Opn.set) ab ab ab) | exact rfl | exact afO _ | exact (show (0:Int)<=1048576 by omega))
 all_goals try (refine ⟨0,?_⟩; (repeat' with_reducible first|apply aV|refine bl ?_|intro))
 all_goals try (exact (nV (key:=Opn.set) ab ab ab))
 all_goals try (refine ⟨‹Nat› + 1,?_⟩; (repeat' with_reducible first|apply aV|refine bl ?_|intro))
 all_goals (first | (first | omega | (refine aD ?_ ?_ <;> omega)) | exact (nV (key:=Opn.set) ab ab ab) | exact (wA (key:=Opn.set) ab ab) | exact (wo (key:=Opn.set) ab aE) | exact (dK (key:=Opn.set) ab) | exact (vW (key:=Opn.set) ab ab ab) | exact (wN (key:=Opn.set) ab ab ab) | exact rfl | exact afO _ | exact (show (0:Int)<=1048576 by omega))
def nJ:Kn:=aO (ae (kC (cL (.nm .snap))) (ae (kC cI) (ae (kC (qL 335 [] [])) ao))) aw fun (l,most,_,_) _=>⟨[most<=1048576],[.c (.bool (.atom ((aB Snap.id most 0 l))))],none,false⟩
theorem xW:CK 334 nJ:=ah fun (l,most,_,_) _ q=>by
 have u:=cg q;refine av jP (zK l most) Tryz.func334 (?_:(fun (d:Nat)=>(fun (c:Int)=>l.length*64<=140737488355328->I64 most->∃ (g:Nat),(fun (h:Int)=>(most=most/\c=h/\l=l/\(↑l.length:Int)=(↑d:Int)/\c=(↑g:Int))/\(g<=d/\aB Snap.id most c (List.take g l)=true/\c<=h/\h<=1048576)/\∀ (s:Nat),(fun (j:Int)=>(fun (o:Int)=>s<=d/\aB Snap.id most c (List.take s l)=true/\c<=j/\j<=1048576->((↑s:Int)<(↑d:Int)->c<=(↑s:Int)/\(↑s:Int)<(↑l.length:Int)/\∀ (x:Snap),l[s]? = some x->fq x (I64 x.id->I64 o/\(cq x.id o most=false->false=aB Snap.id most c l)/\(cq x.id o most=true->I64 x.id->I64 ((↑s:Int)+1)/\∃ (e:Nat),(fun (p:Int)=>(most=most/\x.id=p/\l=l/\(↑d:Int)=(↑d:Int)/\(↑s:Int)+1=(↑e:Int))/\(e <= d/\aB Snap.id most c (List.take e l)=true/\c<=p/\p<=1048576)/\d - e < d - s) (cc Snap.id c (List.take e l)))))/\((↑d:Int)<=(↑s:Int)->true=aB Snap.id most c l)) (j+1)) (cc Snap.id c (List.take s l))) (cc Snap.id c (List.take g l))) 0) l.length);(repeat' (intro))
 all_goals try (first | (first | (refine aD ?_ ?_ <;> omega)) | exact (nV (key:=Snap.id) ab ab ab) | exact (wA (key:=Snap.id) ab ab) | exact (wo (key:=Snap.id) ab aE) | exact (dK (key:=Snap.id) ab) | exact (vW (key:=Snap.id) ab ab ab) | exact (wN (key:=Snap.id) ab ab ab) | exact rfl | exact afO _ | exact (show (0:Int)<=1048576 by omega))
 all_goals try (refine ⟨0,?_⟩; (repeat' with_reducible first|apply aV|refine bl ?_|intro))
 all_goals try (exact (nV (key:=Snap.id) ab ab ab))
 all_goals try (refine ⟨‹Nat› + 1,?_⟩; (repeat' with_reducible first|apply aV|refine bl ?_|intro))
 all_goals (first | (first | omega | (refine aD ?_ ?_ <;> omega)) | exact (nV (key:=Snap.id) ab ab ab) | exact (wA (key:=Snap.id) ab ab) | exact (wo (key:=Snap.id) ab aE) | exact (dK (key:=Snap.id) ab) | exact (vW (key:=Snap.id) ab ab ab) | exact (wN (key:=Snap.id) ab ab ab) | exact rfl | exact afO _ | exact (show (0:Int)<=1048576 by omega))
def Oa:Kn:=aO (ae (kT (.nm .sess)) ao) aw fun (x,_) _=>⟨[],[.c (.bool (.atom ((dZ x))))],none,false⟩
theorem aaj:CK 293 Oa:=ah fun (x,_) _ _=>by
 refine av jP [] Tryz.func293 (?_:jO x ((cq x.seq 0 1048576 && cq x.last.code 0 99 && cq x.last.n 0 1048576)=dZ x));grind [dZ,cq]
def LH:Kn:=aO (ae (kT (.nm .opn)) ao) aw fun (x,_) _=>⟨[],[.c (.bool (.atom ((ek x))))],none,false⟩
theorem Zj:CK 297 LH:=ah fun (x,_) _ _=>by
 refine av jP [] Tryz.func297 (?_:I64 x.set->I64 x.client->cq x.client 1 8=ek x);grind [ek,cq]
def ael:bP:=(aQ 297 LH (aQ 293 Oa (aQ 334 nJ (aQ 294 om (aQ 291 oy (aQ 253 Kr afa))))))
def iM:aA Tryz.prog (ak tyT) ael:=(ag Zj (ag aaj (ag xW (ag yF (ag xw (ag YO jP))))))
def YP (h:(k:Int)<bf n):(ft n k).set k (UInt8.ofNat (n / 128 ^ k) ||| UInt8.ofNat 128)=ft n (k+1):=Dv aE
def Sz (g:k<=bf n) (h:(bf n:Int)<=(k:Int)):(ft n k).set ((bf n:Int) - 1).toNat ((ft n k).getD ((bf n:Int) - 1).toNat (au Sh.u8) &&& UInt8.ofNat 127)=de n:=by
 have e:k=bf n:=by omega
 have d:((bf n:Int) - 1).toNat=bf n - 1:=by omega
 have j:=oL (n:=n) (Nat.le_refl _);have o:=jo n;subst e;have c:bf n - 1<(ft n (bf n)).length:=by omega
 rw [d,List.getD_eq_getElem?_getD,List.getElem?_eq_getElem c,ajs,Dd (List.getElem?_eq_getElem c)];rfl
def ajl (n:U64):List (Nat × LI):=[(4,{ σ:=Nat,F:=fun k=>([(0,one (.u64 (n.n / 128 ^ k))),(3,one (.int (bf n.n))),(4,one (.own 0)),(10,one (.int (bf n.n))),(11,one (.int k))],[.row 5 .u8 ((ft n.n k))]),J:=fun k=>k<=bf n.n,μ:=fun k=>bf n.n - k })]
def PM (l:List Sess):List (Nat × LI):=[(2,{ σ:=Nat,F:=fun k=>([(1,one (.fn 293 [] [])),(7,one (.fz (.nm .sess) (l))),(8,one (.int (l).length)),(9,one (.int k))],[]),J:=fun k=>k<=l.length/\(l.take k).all (dZ)=true,μ:=fun k=>(l).length - k })]
def Nn (l:List Opn):List (Nat × LI):=[(2,{ σ:=Nat,F:=fun k=>([(1,one (.fn 297 [] [])),(7,one (.fz (.nm .opn) (l))),(8,one (.int (l).length)),(9,one (.int k))],[]),J:=fun k=>k<=l.length/\(l.take k).all (ek)=true,μ:=fun k=>(l).length - k })]
def Xg:Kn:=aO (ae (kC cU) ao) aw fun (n,_) _=>⟨[],[.c (.own 0)],some ([.row 5 .u8 ((de n.n))]),true⟩
theorem adp:CK 212 Xg:=ah fun (n,_) _ _=>by
 refine cT iM (ajl n) Tryz.func212 (?_:(fun (d:Nat)=>(fun (o:Int)=>(fun (c:Int)=>(fun (e:Int)=>n.n<(18446744073709551616:Nat)->I64 c->(0:Int)<=c/\c*(↑(1:Nat):Int)<=(140737488355328:Int)/\c=c/\∃ (j:Nat),(n.n=n.n / (128:Nat) ^ j/\c=c/\c=c/\(0:Int)=(↑j:Int)/\List.replicate d (au Sh.u8)=ft n.n j)/\j<=d/\∀ (s:Nat),(fun (g:List UInt8)=>s<=d->((↑s:Int)<c->(0:Int)<=(↑s:Int)/\(↑s:Int)<(↑g.length:Int)/\(7:Nat)<(64:Nat)/\I64 ((↑s:Int)+o)/\∃ (h:Nat),(n.n / (128:Nat) ^ s / (2:Nat) ^ (7:Nat)=n.n / (128:Nat) ^ h /\ c=c/\c=c/\(↑s:Int)+o=(↑h:Int)/\g.set s (UInt8.ofNat (n.n / (128:Nat) ^ s) ||| UInt8.ofNat (128:Nat))=ft n.n h)/\h <= d/\d - h < d - s)/\(c<=(↑s:Int)->I64 e/\(0:Int)<=e/\e<(↑g.length:Int)/\(0:Int)<=e/\e<(↑g.length:Int)/\g.set e.toNat (g.getD e.toNat (au Sh.u8) &&& UInt8.ofNat (127:Nat))=de n.n)) (ft n.n s)) (c - o)) (↑d:Int)) (1:Int)) (bf n.n));intro p;have u:=jo n.n;have q:=ub p;iterate 3 ((all_goals (repeat' with_reducible first|apply aV|refine bl ?_|intro)); (all_goals try (first | exact bY | exact (DG n.n) | exact (YP aE) | exact (Sz aE aE) | exact div_pow | exact (by rw [Nat.pow_zero,Nat.div_one]) | exact (by rw [oL aE]; omega))); all_goals try first | refine ⟨‹Nat› + 1,?_⟩ | refine ⟨0,?_⟩)
def uW:Kn:=aO (ae (kC (cL (.nm .sess))) (ae (kC (qL 293 [] [])) ao)) aw fun (l,_,_) _=>⟨[],[.c (.bool (.atom ((l.all (dZ)))))],none,false⟩
theorem Jd:CK 292 uW:=ah fun (l,_,_) _ _=>by
 refine av iM (PM l) Tryz.func292 (?_:(fun (c:Nat)=>l.length*32<=140737488355328->∃ (e:Nat),(l=l/\(↑l.length:Int)=(↑c:Int)/\0=(↑e:Int))/\(e<=c/\(List.take e l).all dZ=true)/\∀ (s:Nat),s<=c/\(List.take s l).all dZ=true->((↑s:Int)<(↑c:Int)->0<=(↑s:Int)/\(↑s:Int)<(↑l.length:Int)/\∀ (x:Sess),l[s]? = some x->jO x ((dZ x=false->false=l.all dZ)/\(dZ x=true->I64 ((↑s:Int)+1)/\∃ (d:Nat),(l=l/\(↑c:Int)=(↑c:Int)/\(↑s:Int)+1=(↑d:Int))/\(d <= c/\(List.take d l).all dZ=true)/\c - d < c - s)))/\((↑c:Int)<=(↑s:Int)->true=l.all dZ)) l.length);iterate 3 ((all_goals (repeat' with_reducible first|apply aV|refine bl ?_|intro)); (all_goals try (first | exact bY | exact (sN (p:=dZ) ab ab ab) | exact (Nq (p:=dZ) ab ab) | exact (KJ (p:=dZ) ab aE) | exact rfl)); all_goals try first | refine ⟨‹Nat› + 1,?_⟩ | refine ⟨0,?_⟩)
def uV:Kn:=aO (ae (kC (cL (.nm .opn))) (ae (kC (qL 297 [] [])) ao)) aw fun (l,_,_) _=>⟨[],[.c (.bool (.atom ((l.all (ek)))))],none,false⟩
theorem IF:CK 296 uV:=ah fun (l,_,_) _ _=>by
 refine av iM (Nn l) Tryz.func296 (?_:(fun (c:Nat)=>l.length*16<=140737488355328->∃ (e:Nat),(l=l/\(↑l.length:Int)=(↑c:Int)/\0=(↑e:Int))/\(e<=c/\(List.take e l).all ek=true)/\∀ (s:Nat),s<=c/\(List.take s l).all ek=true->((↑s:Int)<(↑c:Int)->0<=(↑s:Int)/\(↑s:Int)<(↑l.length:Int)/\∀ (x:Opn),l[s]? = some x->I64 x.set->I64 x.client->(ek x=false->false=l.all ek)/\(ek x=true->I64 ((↑s:Int)+1)/\∃ (d:Nat),(l=l/\(↑c:Int)=(↑c:Int)/\(↑s:Int)+1=(↑d:Int))/\(d <= c/\(List.take d l).all ek=true)/\c - d < c - s))/\((↑c:Int)<=(↑s:Int)->true=l.all ek)) l.length);iterate 3 ((all_goals (repeat' with_reducible first|apply aV|refine bl ?_|intro)); (all_goals try (first | exact bY | exact (sN (p:=ek) ab ab ab) | exact (Nq (p:=ek) ab ab) | exact (KJ (p:=ek) ab aE) | exact rfl)); all_goals try first | refine ⟨‹Nat› + 1,?_⟩ | refine ⟨0,?_⟩)
def ov:Kn:=aO (ae (kC (cL (.nm .sess))) ao) aw fun (l,_) _=>⟨[],[.c (.own 0)],some ([.row 137 (.nm .sess) ((l))]),true⟩
def xK:CK 105 ov:=ah fun (l,_) _ _=>by
 refine cT iM [] Tryz.func105 (?_:(fun c=>c->∀ (b:Bool),(b=true->l=[])->(b=true->l=[])/\(b=false->c/\l=l)) (l.length*32<=140737488355328));exact fun h b d=>⟨d,fun _=>⟨h,rfl⟩⟩
def qq:Kn:=aO (ae (kC (cL (.nm .opn))) ao) aw fun (l,_) _=>⟨[],[.c (.own 0)],some ([.row 139 (.nm .opn) ((l))]),true⟩
def Ba:CK 106 qq:=ah fun (l,_) _ _=>by
 refine cT iM [] Tryz.func106 (?_:(fun c=>c->∀ (b:Bool),(b=true->l=[])->(b=true->l=[])/\(b=false->c/\l=l)) (l.length*16<=140737488355328));exact fun h b d=>⟨d,fun _=>⟨h,rfl⟩⟩
def nF:Kn:=aO (ae (kC (cL (.nm .snap))) ao) aw fun (l,_) _=>⟨[],[.c (.own 0)],some ([.row 172 (.nm .snap) ((l))]),true⟩
def yt:CK 107 nF:=ah fun (l,_) _ _=>by
 refine cT iM [] Tryz.func107 (?_:(fun c=>c->∀ (b:Bool),(b=true->l=[])->(b=true->l=[])/\(b=false->c/\l=l)) (l.length*64<=140737488355328));exact fun h b d=>⟨d,fun _=>⟨h,rfl⟩⟩
def qk:Kn:=aO (ae (kC (cL .int)) ao) aw fun (l,_) _=>⟨[],[.c (.fz .int ((l)))],none,false⟩
theorem AY:CK 75 qk:=ah fun (l,_) _ _=>by
 refine av iM [] Tryz.func75 (?_:(fun c=>c->∀ (b:Bool),(b=true->l=[])->(b=true->l=[])/\(b=false->c/\l=l)) (l.length*8<=140737488355328));intros; repeat' (first | refine And.intro ?_ ?_ | intro)
 all_goals first | rfl | assumption | simp_all
def afe:bP:=(aQ 75 qk (aQ 107 nF (aQ 106 qq (aQ 105 ov (aQ 296 uV (aQ 292 uW (aQ 212 Xg ael)))))))
def jE:aA Tryz.prog (ak tyT) afe:=(ag AY (ag yt (ag Ba (ag xK (ag IF (ag Jd (ag adp iM)))))))
def Yr (h:ja x (l.take k) = -1) (c:l.length<=k):-1=ja x l:=by rw [List.take_of_length_le c] at h; exact h.symm
theorem UD {y:Int} (h:ja x (l.take k) = -1) (c:l[k]? = some y) (e:x=y):(k:Int)=ja x l:=by
 refine Oy (fun j z q d g=>?_) c e;have o:z ∈ l.take k:=by
  obtain ⟨s,p⟩:=aaw.1 d;rw [List.mem_take_iff_getElem]; exact ⟨j,aE,p⟩
 have:decide (0<=ja x (l.take k))=true:=by rw [MN,aiD,g]; exact o
 grind
theorem abJ {y:Int} (h:ja x (l.take k) = -1) (c:l[k]? = some y) (e:¬ x=y):ja x (l.take (k+1)) = -1:=by
 have g:(l.take k).contains x=false:=by
  have:=MN x (l.take k);grind
 have d:(l.take (k+1)).contains x=false:=by
  rw [ai c,<- Bool.not_eq_true,aiD] at *;grind
 unfold ja at d ⊢;grind
def ahD (c:cJ l=true) (d:l[k]? = some x):0<=x:=Int.le_of_lt (xH c x (acA d)).1
theorem aaG (c:cJ l=true) (d:l[k]? = some x):((iq (l.take k)).length+(de x.toNat).length)*1<=140737488355328:=by
 have e:=Px (l:=l.take k) (fun x d=>(xH c x (List.mem_of_mem_take d)).2);have g:=Eu c;have h:=xH c x (acA d);have j:=db (n:=x.toNat) aE;grind
def abV (l:List Int) (x:Int):List (Nat × LI):=[(2,{ σ:=Nat,F:=fun k=>([(0,one (.fz .int (l))),(1,one (.int (x))),(7,one (.int (l).length)),(8,one (.int k))],[]),J:=fun k=>k<=l.length/\ja x (l.take k) = -1,μ:=fun k=>(l).length - k })]
def VX (l:List Int):List (Nat × LI):=[(5,{ σ:=Nat,F:=fun k=>([(4,one (.own 0)),(10,one (.fz .int (l))),(11,one (.int (l).length)),(12,one (.int k))],[.row 5 .u8 ((iq (l.take k)))]),J:=fun k=>k<=l.length/\cJ l=true,μ:=fun k=>(l).length - k })]
def Ft:Kn:=aO (ae (kC (cL .int)) (ae (kC cI) ao)) aw fun (l,x,_) _=>⟨[],[.c (.int ((ja x l)))],none,false⟩
theorem Uw:CK 218 Ft:=ah fun (l,x,_) _ _=>by
 refine av jE (abV l x) Tryz.func218 (?_:(fun (e:Int)=>(fun (c:Nat)=>l.length*8<=140737488355328->I64 x->∃ (h:Nat),(l=l/\x=x/\(↑l.length:Int)=(↑c:Int)/\0=(↑h:Int))/\(h<=c/\ja x (List.take h l) = -e)/\∀ (s:Nat),s<=c/\ja x (List.take s l) = -e->((↑s:Int)<(↑c:Int)->0<=(↑s:Int)/\(↑s:Int)<(↑l.length:Int)/\∀ (d:Int),l[s]? = some d->I64 d->(x=d->(↑s:Int)=ja x l)/\(¬x=d->I64 ((↑s:Int)+e)/\∃ (g:Nat),(l=l/\x=x/\(↑c:Int)=(↑c:Int)/\(↑s:Int)+e=(↑g:Int))/\(g <= c/\ja x (List.take g l) = -e)/\c - g < c - s))/\((↑c:Int)<=(↑s:Int) -> -e=ja x l)) l.length) 1);iterate 3 ((all_goals (repeat' with_reducible first|apply aV|refine bl ?_|intro)); (all_goals try (first | exact bY | exact rfl | exact (Yr ab aE) | exact (UD ab ab ab) | exact (abJ ab ab ab))); all_goals try first | refine ⟨‹Nat› + 1,?_⟩ | refine ⟨0,?_⟩)
def Fc:Kn:=aO (ae (kC cI) (ae (kC cI) (ae (kC cB) ao))) aw fun (n,most,d,_) _=>⟨[],[.c (.bool (.atom ((oF n most d))))],none,false⟩
theorem Sr:CK 154 Fc:=ah fun (n,most,c,_) _ _=>by
 refine av jE [] Tryz.func154 (?_:I64 n->I64 most->(c=true->(decide (1<=n) && decide (n<=most))=oF n most c)/\(c=false->decide (n=0)=oF n most c));grind [oF]
def CI:Kn:=aO (ae (kC (cL .int)) ao) aw fun (l,_) _=>⟨[],[.c (.fz .u8 ((eM l))),.c (.int ((fI l)))],none,false⟩
theorem MI:CK 225 CI:=ah fun (l,_) _ _=>by
 refine av jE (VX l) Tryz.func225 (?_:(fun (d:Prop)=>(fun (c:Nat)=>l.length*8<=140737488355328->(cJ l=false->eM l=[]/\1=fI l)/\(d->∃ (g:Nat),(l=l/\(↑l.length:Int)=(↑c:Int)/\0=(↑g:Int)/\iq (List.take g l)=[])/\(g<=c/\d)/\∀ (s:Nat),s<=c/\d->((↑s:Int)<(↑c:Int)->0<=(↑s:Int)/\(↑s:Int)<(↑l.length:Int)/\∀ (x:Int),l[s]? = some x->I64 x->0<=x/\((iq (List.take s l)).length+(de x.toNat).length)*1<=140737488355328/\I64 ((↑s:Int)+1)/\∃ (e:Nat),(l=l/\(↑c:Int)=(↑c:Int)/\(↑s:Int)+1=(↑e:Int)/\iq (List.take s l)++de x.toNat=iq (List.take e l))/\(e <= c/\d)/\c - e < c - s)/\((↑c:Int)<=(↑s:Int)->iq (List.take s l)=eM l/\0=fI l))) l.length) (cJ l=true));iterate 3 ((all_goals (repeat' with_reducible first|apply aV|refine bl ?_|intro)); (all_goals try (first | exact bY | exact rfl | exact (Jj ab).symm | exact (tL ab) | exact (Aq ab) | exact (KE ab aE) | exact (Jv ab) | exact (ahD ab ab) | exact (aaG ab ab))); all_goals try first | refine ⟨‹Nat› + 1,?_⟩ | refine ⟨0,?_⟩)
def AT:Kn:=aO (ae (kT (.nm .state)) (ae (kC cI) ao)) aw fun (s,x,_) _=>⟨[],[.c (.int ((al Sess.client x s.sess)))],none,false⟩
theorem Lc:CK 262 AT:=ah fun (s,x,_) _ _=>by
 refine av jE [] Tryz.func262 (?_:(fun c=>fK s (I64 x->I64 c->c=c)) (al Sess.client x s.sess));grind
def Cg:Kn:=aO (ae (kT (.nm .state)) (ae (kC cI) ao)) aw fun (s,x,_) _=>⟨[],[.c (.int ((al Opn.set x s.opens)))],none,false⟩
theorem OV:CK 340 Cg:=ah fun (s,x,_) _ _=>by
 refine av jE [] Tryz.func340 (?_:(fun c=>fK s (I64 x->I64 c->c=c)) (al Opn.set x s.opens));grind
def BK:Kn:=aO (ae (kT (.nm .state)) (ae (kC cI) ao)) aw fun (s,x,_) _=>⟨[],[.c (.int ((al Snap.id x s.snaps)))],none,false⟩
theorem QT:CK 302 BK:=ah fun (s,x,_) _ _=>by
 refine av jE [] Tryz.func302 (?_:(fun c=>fK s (I64 x->I64 c->c=c)) (al Snap.id x s.snaps));grind
def adq:bP:=(aQ 302 BK (aQ 340 Cg (aQ 262 AT (aQ 225 CI (aQ 154 Fc (aQ 218 Ft afe))))))
def xl:aA Tryz.prog (ak tyT) adq:=(ag QT (ag OV (ag Lc (ag MI (ag Sr (ag Uw jE))))))
def tO:Kn:=aO (ae (kC (cL .int)) (ae (kC cI) ao)) aw fun (l,x,_) _=>⟨[],[.c (.bool (.atom ((l.contains x))))],none,false⟩
def contains_k:CK 153 tO:=ah fun (l,x,_) _ _=>by
 refine av xl [] Tryz.func153 (?_:l.length*8<=140737488355328->I64 x->I64 (ja x l)->decide (0<=ja x l)=l.contains x);intros; exact MN _ _
def AF:Kn:=aO (ae (kT (.nm .snap)) (ae (kC (ba 0 0)) (ae (kC (ba 1 0)) ao))) (aC (dC 3 (ax cI dA)) (aC (dC 3 (ax cI dA)) aw)) fun (x,_,_,_) ((v,_),(t,_),_)=>⟨[],[.c (.bool (.atom ((dE v t x))))],none,false⟩
def M_:CK 337 AF:=ah fun (x,_,_,_) ((v,_),(t,_),_) _=>by
 refine av xl [] Tryz.func337 (?_:fq x ((eM x.chunks).length*1<=140737488355328->I64 (fI x.chunks)->(decide (fI x.chunks=0) && cq x.set 1 8 && (!x.held || decide (2<=v)) && decide ((↑x.tag.b.length:Int)<=t))=dE v t x));(repeat intro); rfl
def afk:bP:=(aQ 337 AF (aQ 153 tO adq))
def yy:aA Tryz.prog (ak tyT) afk:=(ag M_ (ag contains_k xl))
def Ld (l:List Snap) (v:Int) (t:Int):List (Nat × LI):=[(2,{ σ:=Nat,F:=fun k=>([(1,one (.fn 337 [] [(0,0),(1,0)])),(7,one (.fz (.nm .snap) (l))),(8,one (.int (l).length)),(9,one (.int k))],[.box 3 ([.int ((v))]),.box 3 ([.int ((t))])]),J:=fun k=>k<=l.length/\(l.take k).all ((dE v t))=true,μ:=fun k=>(l).length - k })]
def Fk:Kn:=aO (ae (kC (cL .int)) (ae (kC (ba 0 0)) ao)) (aC (yI 35 (.nm .command)) aw) fun (l,_,_) (c,_)=>⟨[],[.c (.bool (.atom ((l.contains c.kind))))],none,false⟩
theorem Tg:CK 152 Fk:=ah fun (l,_,_) (c,_) _=>by
 refine av yy [] Tryz.func152 (?_:l.length*8<=140737488355328->l.contains c.kind=l.contains c.kind);grind
def we:Kn:=aO (ae (kC (cL (.nm .snap))) (ae (kC (qL 337 [] [(0,0),(1,0)])) ao)) (aC (dC 3 (ax cI dA)) (aC (dC 3 (ax cI dA)) aw)) fun (l,_,_) ((v,_),(t,_),_)=>⟨[],[.c (.bool (.atom ((l.all ((dE v t))))))],none,false⟩
theorem JK:CK 336 we:=ah fun (l,_,_) ((v,_),(t,_),_) _=>by
 refine av yy (Ld l v t) Tryz.func336 (?_:(fun (c:Nat)=>l.length*64<=140737488355328->∃ (e:Nat),(l=l/\(↑l.length:Int)=(↑c:Int)/\0=(↑e:Int)/\v=v/\t=t)/\(e<=c/\(List.take e l).all (dE v t)=true)/\∀ (s:Nat),s<=c/\(List.take s l).all (dE v t)=true->((↑s:Int)<(↑c:Int)->0<=(↑s:Int)/\(↑s:Int)<(↑l.length:Int)/\∀ (x:Snap),l[s]? = some x->fq x ((dE v t x=false->false=l.all (dE v t))/\(dE v t x=true->I64 ((↑s:Int)+1)/\∃ (d:Nat),(l=l/\(↑c:Int)=(↑c:Int)/\(↑s:Int)+1=(↑d:Int)/\v=v/\t=t)/\(d <= c/\(List.take d l).all (dE v t)=true)/\c - d < c - s)))/\((↑c:Int)<=(↑s:Int)->true=l.all (dE v t))) l.length);iterate 3 ((all_goals (repeat' with_reducible first|apply aV|refine bl ?_|intro)); (all_goals try (first | exact bY | exact (sN (p:=(dE v t)) ab ab ab) | exact (Nq (p:=(dE v t)) ab ab) | exact (KJ (p:=(dE v t)) ab aE) | exact rfl)); all_goals try first | refine ⟨‹Nat› + 1,?_⟩ | refine ⟨0,?_⟩)
def ae2:bP:=(aQ 336 we (aQ 152 Fk afk))
def xB:aA Tryz.prog (ak tyT) ae2:=(ag JK (ag Tg yy))
theorem adn (k:Int):(if k=12 then some (Span.mk 0 64) else if k=8 then some (Span.mk 2 3) else if k=6 then some (Span.mk 0 8) else none).getD (au (.nm .span))=⟨(vi k).1,(vi k).2⟩:=by
 by_cases c:k=12
 ·subst c; rfl
 by_cases d:k=8
 ·subst d; rfl
 by_cases e:k=6
 ·subst e; rfl
 simp [vi,vK,c,d,e,au]; rfl
def MD:Kn:=aO (ae (kT (.nm .command)) ao) aw fun (c,_) _=>⟨[],[.c (.bool (.atom ((mu c))))],none,false⟩
theorem aaB:CK 91 MD:=ah fun (c,_) _ _=>by
 refine av xB [] Tryz.func91 (?_:(fun d=>(fun e=>(fun p=>(fun q=>(fun s=>(fun u=>(fun o=>(fun g=>(fun v=>(fun y=>(fun j=>(fun h=>bF c ((e=3->(h=true->(cJ c.chunks=true->j)/\(cJ c.chunks=false->g))/\(h=false->g))/\(¬e=3->(e=11->(h=true->(o->((↑c.text.b.length:Int)<=16->y)/\(16<(↑c.text.b.length:Int)->g))/\(¬o->g))/\(h=false->g))/\(¬e=11->(h=true->(o->j)/\(¬o->g))/\(h=false->g))))) (decide (v.lo<=c.n) && decide (c.n<=v.hi))) ((p->y)/\(¬p->g))) ((q=true->(s=true->(u=true->oF c.id 1048576 ([5,7,9,10,11].contains e)=mu c)/\(u=false->g))/\(s=false->g))/\(q=false->g))) ((if e=12 then some (Span.mk 0 64) else if e=d then some (Span.mk 2 3) else if e=6 then some (Span.mk 0 d) else none).getD (au (Sh.nm NT.span)))) (false=mu c)) ((↑c.chunks.length:Int)=0)) (oF c.set d ([2,3,4].contains e))) (oF c.seq 1048576 ![1,d].contains e)) (oF c.client d ![d].contains e)) (c.text=Str.mk [])) c.kind) (8:Int));simp only [adn];(repeat' with_reducible first|apply aV|refine bl ?_|intro)
 all_goals ((unfold mu chF txF; simp_all) <;> (intros; omega))
def GL:Kn:=aO (ae (kT (.nm .state)) (ae (kC cI) ao)) aw fun (s,v,_) _=>⟨[1<=s.next/\s.next<=1048576],[.c (.bool (.atom ((fW s v))))],none,false⟩
theorem Rv:CK 298 GL:=ah fun (s,v,_) _ e=>by
 have g:=cg e;refine av xB [] Tryz.func298 (?_:(fun d=>(fun c=>fK s (I64 v->(d<=16->I64 c/\c<=1048576)/\(16<d\/aB Snap.id c 0 s.snaps=false->false=fW s v)/\(d<=16/\aB Snap.id c 0 s.snaps=true->(v<3->s.snaps.all (dE v 0)=fW s v)/\(3<=v->s.snaps.all (dE v 16)=fW s v)))) (s.next - 1)) (↑s.snaps.length:Int));(repeat' with_reducible first|apply aV|refine bl ?_|intro)
 all_goals (first | exact bY | ((simp only [fW,xv]; simp_all) <;> (intros; omega)) | (simp only [fW,xv]; grind))
def adS:bP:=(aQ 298 GL (aQ 91 MD ae2))
def Fw:aA Tryz.prog (ak tyT) adS:=(ag Rv (ag aaB xB))
end Go.Proofs.YticbaadnibdbkaaGreat
