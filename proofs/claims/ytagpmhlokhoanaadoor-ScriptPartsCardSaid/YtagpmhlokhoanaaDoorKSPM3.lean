/- What leads to the law, part 3. Conditions: each lemma's own. -/
import Derived.Scope
import Derived.Test.YtagpmhlokhoanaaDoorProg
import Derived.Test.YtagpmhlokhoanaaDoorKSPM2
set_option linter.unusedVariables false
set_option linter.unusedSimpArgs false
namespace Go.Proofs.YtagpmhlokhoanaaDoor
open Go.RowKit
section
variable {P:Program} {T:List (Nat × TI)} {G:Gl} {O:cC} {n:Nat} {F:Fr} {w:World} {x y:Operand} {ty t:TypeId} {ρ:List RE} {H:AH} {fr:AFr} {ro:Lv}
theorem sL (hO:aW P G.shp O) (hR:Rep G ρ H w) (hf:bK (cx G ρ w) ρ fr F) {f:Nat} {a:List TV1} {vs:List Value} {r:SR} (hvs:All2 (bt (cx G ρ w) ρ) a vs) (h:xl O fr H f a=some r) (hob:∀ p ∈ r.ob,p) :
  (∃ fn,P.funcs[f]? = some fn/\(fn.name == "runtime.NumGoroutine")=false/\fn.body.isNone=false)/\lY P f vs.toArray w fun v w'=>cU G ro ρ w r F v w':=by
 unfold xl at h
 generalize kB H a=σ at h
 simp only at h
 split at h
 ·rename_i hck
  simp only [Bool.and_eq_true] at hck
  obtain ⟨⟨hn,hai⟩,hcl⟩:=hck
  split at h
  ·rename_i pre rs H' hrs
   split at h
   ·rename_i hlen
    cases h
    have hlenH:=Nat.le_of_ble_eq_true hlen
    have hai:=dZ.1 hai
    have hnd:=ej.1 hn
    have hclo:=dB.1 hcl
    let Z':Nat->Prop:=fun b=>G.Z b\/(live ρ b/\¬ live (br ρ σ) b)
    obtain ⟨hR',hle⟩:=hR.sub (σ:=σ) (Z':=Z') hn hcl (fun b hb=>hb.elim (hR.z b) fun ⟨⟨i,r,h1,h2⟩,_⟩=>(hR.bnd i r b h1 h2).2.1) (fun b h1 h2 hz=>hz.elim h1 fun h3=>h2 h3.1)
     (fun b h1 hz=>hz.elim (fun h2=>by obtain ⟨i,r,h3,h4⟩:=ed h1; exact (hR.bnd i r b h3 h4).2.2 h2) fun h2=>h2.2 h1)
    obtain ⟨hfn,hrun⟩:=hO _ _ _ _ hrs hob
    refine ⟨hfn,?_⟩
    have hargs:All2 (bt (cx ⟨G.shp,G.B0,Z'⟩ (br ρ σ) w) (br ρ σ)) (dO (posOf · σ) a) vs:=by
     refine fq (fun t ht a ha' v hv=>?_) hvs
     refine Rd.fx (fun _ hp=>hp.carry hle) (fun s x o e=>?_) (fun _ _ _ _ h=>h.le hle) (fun i hi r hr _=>dq (hai i (eM ht ha' hi)) hr) hv
     subst e
     obtain ⟨A,cells,k1,k2,k3,e⟩:=hv
     exact ⟨A,cells,(hle.S _ k1).1,k2,k3.carry hle,e⟩
    refine (hrun ⟨G.shp,G.B0,Z'⟩ _ w vs rfl hR' hargs).mono fun v w' ⟨us,hv,ρ2,hR2,hext2,hbx2,hrs',hkeep⟩=>?_
    obtain ⟨hk,hρ2⟩:=hkeep rfl
    have hl2:H'.length=ρ2.length:=hR2.obj.length
    have hHρ:H.length=ρ.length:=hR.obj.length
    have hnew:∀ (b j:Nat) (r:RE),σ.length<=j->ρ2[j]? = some r->r.g? = some b->w.heap.size<=b:=fun b j r hj h1 h2=>by
     by_cases hb:b<w.heap.size
     ·by_cases hs:live (br ρ σ) b
      ·obtain ⟨i,r',h3,h4⟩:=hs
       have:=hR2.inj _ _ _ _ b h1 (hρ2 i r' h3) h2 h4
       have h6:i<σ.length:=by simpa [br] using (List.getElem?_eq_some_iff.1 h3).1
       omega
      ·exact absurd ⟨j,r,h1,h2⟩ (hext2.old b hb hs).1
     ·omega
    have hN:∀ (i:Nat) (r:RE),ρ[i]? = some r->(ρ++ρ2.drop σ.length)[i]? = some r:=fun i r h=>by
     rw [List.getElem?_append_left (List.getElem?_eq_some_iff.1 h).1]; exact h
    have hNge:∀ (i:Nat),ρ.length<=i->(ρ++ρ2.drop σ.length)[i]? = ρ2[σ.length+(i - ρ.length)]?:=fun i hi=>by
     rw [List.getElem?_append_right hi,List.getElem?_drop]
    have hcase:∀ (i:Nat) (r:RE) (g:Nat),(ρ++ρ2.drop σ.length)[i]? = some r->r.g? = some g->(i<ρ.length/\ρ[i]? = some r)\/(ρ.length<=i/\ρ2[σ.length+(i - ρ.length)]? = some r/\w.heap.size<=g):=fun i r g h1 h2=>by
     by_cases hi:i<ρ.length
     ·rw [List.getElem?_append_left hi] at h1; exact .inl ⟨hi,h1⟩
     ·rw [hNge i (by omega)] at h1
      exact .inr ⟨by omega,h1,hnew g _ r cQ h1 h2⟩
    have hext:Ext ρ w (ρ++ρ2.drop σ.length) w':=⟨hk.os,hk.tape,hk.output,hk.size,fun b hb hl=>⟨fun ⟨i,r,h1,h2⟩=>(hcase i r b h1 h2).elim (fun h=>hl ⟨i,r,h.2,h2⟩) fun h=>by omega,hk.block b hb (by simp)⟩⟩
    have hle1:=hext.le (G:=G)
    have hagr:gV ρ (ρ++ρ2.drop σ.length):=fun i r h _=>hN i r h
    have hτ:∀ (j:Nat) (r:RE),ρ2[j]? = some r->r ≠ .no->(ρ++ρ2.drop σ.length)[cJ H σ j]? = some r:=fun j r hj hne=>by
     unfold cJ
     by_cases hjn:j<σ.length
     ·have hb:Nat.ble σ.length j=false:=by rw [<- Bool.not_eq_true,Nat.ble_eq]; omega
      rw [hb]
      have hs:(br ρ σ)[j]? = some ((br ρ σ)[j]'(by simpa [br] using hjn)):=List.getElem?_eq_getElem _
      have h1:=hρ2 j _ hs
      rw [hj] at h1
      rw [<- Option.some.inj h1] at hs
      exact hN _ _ (cf hs hne)
     ·have hb:Nat.ble σ.length j=true:=by rw [Nat.ble_eq]; omega
      rw [hb]
      show (ρ++ρ2.drop σ.length)[H.length+(j - σ.length)]? = some r
      rw [hNge _ (by omega),hHρ,<- hj]
      congr 1; omega
    have hS:(cx ⟨G.shp,G.B0,Z'⟩ ρ2 w').le (cx G (ρ++ρ2.drop σ.length) w'):=⟨rfl,rfl,fun b hb=>⟨⟨hb.1,by
     rintro ⟨i,r,h1,h2⟩
     rcases hcase i r b h1 h2 with ⟨h3,h4⟩ | ⟨_,h4,_⟩
     ·by_cases hs:live (br ρ σ) b
      ·obtain ⟨j,r',h5,h6⟩:=hs
       exact hb.2.1 ⟨j,r',hρ2 j r' h5,h6⟩
      ·exact hb.2.2 (.inr ⟨⟨i,r,h4,h2⟩,hs⟩)
     ·exact hb.2.1 ⟨_,r,h4,h2⟩,fun hz=>hb.2.2 (.inl hz)⟩,rfl⟩⟩
    have htake:∀ (a:AV) (u:Value),Rd (cx ⟨G.shp,G.B0,Z'⟩ ρ2 w') ρ2 a u->Rd (cx G (ρ++ρ2.drop σ.length) w') (ρ++ρ2.drop σ.length) (a.fx (cJ H σ)) u:=fun a u hu=>by
     refine Rd.fx (fun _ hp=>hp.carry hS) (fun s x o e=>?_) (fun _ _ _ _ h=>h.le hS) (fun i hi r hr hne=>hτ i r hr hne) hu
     subst e
     obtain ⟨A,cells,k1,k2,k3,e⟩:=hu
     exact ⟨A,cells,(hS.S _ k1).1,k2,k3.carry hS,e⟩
    have hobj:∀ (j:Nat) (o:AO) (r:RE),H'[j]? = some o->ρ2[j]? = some r->OR (cx G (ρ++ρ2.drop σ.length) w') (ρ++ρ2.drop σ.length) (o.fx (cJ H σ)) r:=fun j o r ho hr=>by
     obtain ⟨r',hr',hor⟩:=hR2.at_ ho
     rw [hr] at hr'; cases hr'
     cases o with
     | gone=>exact hor
     | loc=>trivial
     | mapo s f=>
      obtain ⟨g,rfl,h⟩:=hor
      exact ⟨g,rfl,h.carry hS rfl⟩
     | mapf l=>
      obtain ⟨g,rfl,h⟩:=hor
      exact ⟨g,rfl,h.map (g0:=fun a=>a.fx (cJ H σ)) (jz l) (fun q hq u hu=>htake q.2 u hu) rfl⟩
     | box t cs=>
      obtain ⟨g,vs',rfl,h1,h2⟩:=hor
      exact ⟨g,vs',rfl,h1,gP (fun a ha u hu=>htake a u hu) h2⟩
     | arr t s n xs=>
      obtain ⟨g,vs',rfl,h4,h5,h6⟩:=hor
      exact ⟨g,vs',rfl,h4,h5.carry hS,h6⟩
     | row t s xs=>
      obtain ⟨h1,h2,h3⟩:=hor
      exact ⟨h1,h2,h3.imp id fun ⟨g,cap,cells,sp,e,h4,h5,h6⟩=>⟨g,cap,cells,sp,e,h4,h5.carry hS,h6⟩⟩
    refine ⟨ρ++ρ2.drop σ.length,⟨hext,fun i r _ hr=>hN i r hr,fun i r _ hr=>⟨hN i r hr,fun g hg=>hk.block g (hR.bnd i r g hr hg).2.1 (by simp)⟩,fun i g hi=>hN i _ hi⟩,⟨?_,?_,?_,fun b hb=>Nat.lt_of_lt_of_le (hR.z b hb) hext.size,Nat.le_trans hR.b0 hext.size,hR.tb.carry hle1⟩,hf.carry hle1 hagr,?_,zC.gF hrs'⟩
    ·refine All2.append (bl hR.obj.length fun i o r ho hr=>?_) (bl (by simp [eH,hl2]) fun i o r ho hr=>?_)
     ·obtain ⟨r',hr',hor⟩:=hR.at_ ho
      rw [hr] at hr'; cases hr'
      exact hor.carry hle1 hagr fun g hg=>hk.block g (hR.bnd i r g hr hg).2.1 (by simp)
     ·rw [List.getElem?_drop] at hr
      have hil:σ.length+i<H'.length:=by
       have:=(List.getElem?_eq_some_iff.1 hr).1; omega
      have hx:(H'.drop σ.length)[i]? = some H'[σ.length+i]:=by
       rw [List.getElem?_drop]; exact List.getElem?_eq_getElem hil
      rw [jq hx] at ho
      have ho:=Option.some.inj ho
      subst ho
      exact hobj (σ.length+i) _ r (List.getElem?_eq_getElem hil) hr
    ·intro i i' r r' g h1 h2 h3 h4
     rcases hcase i r g h1 h3 with ⟨a1,a2⟩ | ⟨a1,a2,a3⟩ <;> rcases hcase i' r' g h2 h4 with ⟨b1,b2⟩ | ⟨b1,b2,b3⟩
     ·exact hR.inj _ _ _ _ g a2 b2 h3 h4
     ·have:=(hR.bnd i r g a2 h3).2.1; omega
     ·have:=(hR.bnd i' r' g b2 h4).2.1; omega
     ·have:=hR2.inj _ _ _ _ g a2 b2 h3 h4; omega
    ·intro i r g h1 h2
     rcases hcase i r g h1 h2 with ⟨_,a3⟩ | ⟨_,a3,_⟩
     ·have:=hR.bnd i r g a3 h2
      exact ⟨this.1,Nat.lt_of_lt_of_le this.2.1 hext.size,this.2.2⟩
     ·have:=hR2.bnd _ r g a3 h2
      exact ⟨this.1,this.2.1,fun hz=>this.2.2 (.inl hz)⟩
    ·have hback:All2 (bt (cx G (ρ++ρ2.drop σ.length) w') (ρ++ρ2.drop σ.length)) (dO (cJ H σ) rs) us:=fq (fun t ht a ha u hu=>htake a u hu) hrs'
     subst hv
     show Rt _ _ (tG (dO (cJ H σ) rs)) (pH us)
     generalize dO (cJ H σ) rs=rs' at hback ⊢
     cases hback with
     | nil=>exact ⟨[],rfl,.nil⟩
     | @cons t u l us h1 h2=>
      cases h2 with
      | nil=>exact h1
      | cons h3 h4=>exact ⟨_,rfl,.cons h1 (.cons h3 h4)⟩
   ·cases h
  ·cases h
 ·cases h
theorem tO (hO:aW P G.shp O) (hR:Rep G ρ H w) (hf:bK (cx G ρ w) ρ fr F) {f:Nat} {args:List TV1} {vs:List Value} {r:SR} (ha:All2 (bt (cx G ρ w) ρ) args vs) (h:vR O ro fr H f args=some r) (hob:∀ p ∈ r.ob,p) :
  (∃ fn,P.funcs[f]? = some fn/\(fn.name == "runtime.NumGoroutine")=false/\fn.body.isNone=false)/\lY P f vs.toArray w fun v w'=>cU G ro ρ w r F v w':=by
 unfold vR at h
 split at h
 ·rename_i r' hn
  cases h
  exact sL hO hR hf ha hn hob
 split at h
 ·rename_i r' hrw hr'
  cases h
  refine lW hO hR hf (fun G' σ hs hle hids hl=>?_) (fun id hid r hr hne=>fR.1 hrw id hid) hr' hob
  refine qw (fun t ht a ha' v hv=>?_) ha
  have hid:∀ i ∈ (a.vw H).ids,i ∈ σ:=fun i hi=>hids i (eM (mU ht) (nX ha') hi)
  by_cases hown:∃ id,a = .own id\/∃ o k,a = .sub id o k
  ·obtain ⟨id,hio⟩:=hown
   have hmem:=jM ht ha' hio
   cases hv2:a.vw H with
   | fz s xs=>
    refine eX (gM hR hle rfl hv (fun g cap len z ⟨id',he,h1⟩=>?_) hv2)
    have e:id' = id:=by rcases hio with rfl | ⟨o,k,rfl⟩ <;> rcases he with he | ⟨_,_,he⟩ <;> cases he <;> rfl
    subst e
    exact hl id' hmem g cap len z h1
   | dead=>exact Rd.one hv
   | _=>rcases hio with rfl | ⟨o,k,rfl⟩ <;> simp only [AV.vw] at hv2 <;> split at hv2 <;> cases hv2
  ·have e:a.vw H=a:=by
    cases a <;> first | rfl | exact absurd ⟨_,.inl rfl⟩ hown | exact absurd ⟨_,.inr ⟨_,_,rfl⟩⟩ hown
   rw [e] at hid ⊢
   refine Rd.fx (fun _ hp=>hp.carry hle) (fun s x o e=>?_) (fun _ _ _ _ h=>h.le hle) (fun i hi r hr _=>dq (hid i hi) hr) hv
   subst e
   obtain ⟨A,cells,k1,k2,k3,e⟩:=hv
   exact ⟨A,cells,(hle.S _ k1).1,k2,k3.carry hle,e⟩
 ·refine lW hO hR hf (fun G' σ hs hle hids hl=>?_) (by simp) h hob
  refine fq (fun t ht a ha' v hv=>?_) ha
  refine Rd.fx (fun _ hp=>hp.carry hle) (fun s x o e=>?_) (fun _ _ _ _ h=>h.le hle) (fun i hi r hr _=>dq (hids i (eM ht ha' hi)) hr) hv
  subst e
  obtain ⟨A,cells,k1,k2,k3,e⟩:=hv
  exact ⟨A,cells,(hle.S _ k1).1,k2,k3.carry hle,e⟩
theorem wc {c:Cx} {s:Sh} {z:List Value} (hz:All2 (Rd c ρ) (cellsOf s (aY s)) z) (h1:s.size=1):∀ m:Nat,Pds c ((List.replicate m (aY s)).flatMap (cellsOf s)) (List.replicate m (z.headD undef)):=by
 have hp:=eA (iX s _) hz
 have hl:=hz.length
 rw [bq,h1] at hl
 obtain ⟨u,rfl⟩:∃ u,z=[u]:=by
  cases z with
  | nil=>simp at hl
  | cons u r=>
   cases r with
   | nil=>exact ⟨u,rfl⟩
   | cons _ _=>simp at hl
 intro m
 induction m with
 | zero=>exact .nil
 | succ m ih=>
  rw [List.replicate_succ,List.replicate_succ,List.flatMap_cons]
  exact hp.append ih
theorem sY (hT:aD P G.shp T) (hR:Rep G ρ H w) (hf:bK (cx G ρ w) ρ fr F) {t:TypeId} {x y z:Operand} {r:SR} (h:tU T ro fr H t x y z=some r) :
  ∃ w',(cT P n F w (.insert t x y z) ty w' /\ cT P n F w (.mapUpdate t x y z) ty w')/\cU G ro ρ w r F undef w':=by
 unfold tU at h
 split at h
 ·rename_i s id k v hft hx hy hz
  split at h
  ·rename_i s' f hO2
   split at h
   ·rename_i hss
    subst hss
    split at h
    ·rename_i x' q hck hof hfz
     cases h
     simp only [Bool.and_eq_true,Bool.not_eq_true',<- Bool.not_eq_true,aF] at hck
     obtain ⟨⟨hro,hform⟩,hnm⟩:=hck
     obtain ⟨hm,hk,_⟩:=(hT _ _ hft).2
     obtain ⟨va,h1,g,hg,rfl⟩:=ae hf hx
     obtain ⟨vb,h3,h4⟩:=ae hf hy
     cases h4 with | int=>
     obtain ⟨vz,h5,h6⟩:=ae hf hz
     have hHs:=aN hO2 (by simp)
     obtain ⟨r',hr',hor⟩:=hR.at_ hHs
     rw [hg] at hr'; cases hr'
     obtain ⟨g',e,a,c,k1,k2,k3⟩:=hor
     cases e
     obtain ⟨ρ1,j1,j2,j3,j4,j5,j6,j7,j8⟩:=ic (ro:=ro) hfz hR hf
     obtain ⟨w',a',c',hsk,hkp,hg',hl',hget⟩:=yT (P:=P) (n:=n) (ty:=ty) h1 h3 h5 hm hk k1 k2
     have hρ1:ρ1[id]? = some (.blk g):=by rw [j8 id hnm]; exact hg
     have hH1:q.2[id]? = some (.mapo s' f):=j7 id _ hnm hHs (by simp)
     have hext:Ext ρ1 w ρ1 w':=⟨hkp.os,hkp.tape,hkp.output,hkp.size,fun b hb hl=>⟨hl,hkp.block b hb (by
      simp only [List.mem_singleton]
      rintro rfl
      exact hl ⟨id,_,hρ1,rfl⟩)⟩⟩
     have hle:=hext.le (G:=G)
     have hV:V1 (cx G ρ1 w') s' x' vz:=by
      cases v with
      | c a=>
       have h6:Rd (cx G ρ w) ρ a vz:=h6
       have:=aq hof (j6 [a] [vz] (fun i hi=>hi) (.cons h6 .nil))
       refine ⟨[vz],this.carry hle,.inr ⟨?_,rfl⟩⟩
       simpa [gr] using hform
      | agg l=>
       obtain ⟨us,e,h6⟩:=h6
       have:=aq hof (j6 l us (fun i hi=>hi) h6)
       exact ⟨us,this.carry hle,.inl ⟨hform,e⟩⟩
     have hput:=j3.put hH1 hρ1 rfl hkp (o':=.mapo s' fun j=>if j=k then some x' else f j) ⟨g,rfl,a',c',hg',hl',fun q=>by
      rw [hget q]
      show VO _ _ _ (if q=k then some x' else f q)
      by_cases hq:q=k
      ·rw [if_pos hq,if_pos hq]; exact hV
      ·rw [if_neg hq,if_neg hq]
       have k4:=k3 q
       cases hgm:getM q a.toList <;> cases hfk:f q <;> rw [hgm,hfk] at k4
       ·trivial
       ·exact k4
       ·exact k4
       ·exact V1.carry k4 (j2.trans hle)⟩
     refine ⟨w',hsk,ρ1,j1.trans ⟨hput.2,fun _ _ _ h=>h,fun j r' hj hr'=>⟨hr',fun gx hgx=>hkp.block gx (j3.bnd j r' gx hr' hgx).2.1 ?_⟩,fun _ _ h=>h⟩,hput.1,j4.carry hle (gV.refl _),trivial,by simp⟩
     simp only [List.mem_singleton]
     rintro rfl
     have:=j3.inj j id _ _ _ hr' hρ1 hgx rfl
     subst this; rw [hro] at hj; cases hj
    ·cases h
   ·cases h
  ·cases h
 ·cases h
theorem qv (hT:aD P G.shp T) (hR:Rep G ρ H w) (hf:bK (cx G ρ w) ρ fr F) {t:TypeId} {x y z:Operand} {r:SR} (h:vl T ro fr H t x y z=some r) :
  ∃ w',(cT P n F w (.insert t x y z) ty w' /\ cT P n F w (.mapUpdate t x y z) ty w')/\cU G ro ρ w r F undef w':=by
 unfold vl at h
 split at h
 ·rename_i id k a hft hx hy hz
  split at h
  ·rename_i l hO2
   split at h
   ·rename_i hro
    cases h
    obtain ⟨hm,hk,_⟩:=(hT _ _ hft).2
    obtain ⟨va,h1,g,hg,rfl⟩:=ae hf hx
    obtain ⟨vb,h3,h4⟩:=ae hf hy
    cases h4 with | int=>
    obtain ⟨vz,h5,h6⟩:=ae hf hz
    have hHs:=aN hO2 (by simp)
    obtain ⟨r',hr',hor⟩:=hR.at_ hHs
    rw [hg] at hr'; cases hr'
    obtain ⟨g',e,a',c,k1,k2,k3⟩:=hor
    cases e
    obtain ⟨w',a'',c',hsk,hkp,hg',hl',hget⟩:=yT (P:=P) (n:=n) (ty:=ty) h1 h3 h5 hm hk k1 k2
    have hext:Ext ρ w ρ w':=⟨hkp.os,hkp.tape,hkp.output,hkp.size,fun b hb hl=>⟨hl,hkp.block b hb (by
     simp only [List.mem_singleton]
     rintro rfl
     exact hl ⟨id,_,hg,rfl⟩)⟩⟩
    have hle:=hext.le (G:=G)
    have hput:=hR.put hHs hg rfl hkp (o':=.mapf ((k,a) :: l)) ⟨g,rfl,a'',c',hg',hl',fun q=>by
     rw [hget q]
     simp only [lookF]
     by_cases hq:q=k
     ·rw [if_pos hq,if_pos hq]; exact Rd.carry h6 hle (gV.refl _)
     ·rw [if_neg hq,if_neg hq]
      have k4:=k3 q
      cases hgm:getM q a'.toList <;> cases hfk:lookF q l <;> rw [hgm,hfk] at k4
      ·trivial
      ·exact k4
      ·exact k4
      ·exact Rd.carry k4 hle (gV.refl _)⟩
    refine ⟨w',hsk,ρ,⟨hput.2,fun _ _ _ h=>h,fun j r' hj hr'=>⟨hr',fun gx hgx=>hkp.block gx (hR.bnd j r' gx hr' hgx).2.1 ?_⟩,fun _ _ h=>h⟩,hput.1,hf.carry hle (gV.refl _),trivial,by simp⟩
    simp only [List.mem_singleton]
    rintro rfl
    have:=hR.inj j id _ _ _ hr' hg hgx rfl
    subst this; rw [hro] at hj; cases hj
   ·cases h
  ·cases h
 ·cases h
theorem kW (hT:aD P G.shp T) (hR:Rep G ρ H w) (hf:bK (cx G ρ w) ρ fr F) {t:TypeId} {x y z:Operand} {r:SR} (h:rW T ro fr H t x y z=some r) :
  ∃ w',(cT P n F w (.insert t x y z) ty w' /\ cT P n F w (.mapUpdate t x y z) ty w')/\cU G ro ρ w r F undef w':=by
 unfold rW at h
 split at h
 ·rename_i r' hr'
  cases h
  exact sY hT hR hf hr'
 ·exact qv hT hR hf h
theorem wk (hT:aD P G.shp T) (hO:aW P G.shp O) (hR:Rep G ρ H w) (hf:bK (cx G ρ w) ρ fr F) {op:Op} {r:SR} (h:sv T O ro fr H op=some r) (hob:∀ p ∈ r.ob,p):cj P n F w op ty (cU G ro ρ w r F):=by
 cases op <;> simp only [sv] at h
 case box t x=>
  split at h
  ·rename_i v hx
   cases h
   obtain ⟨u,h1,h2⟩:=ae hf hx
   obtain ⟨us,h3,h4⟩:=bt.cells h2
   exact .inl (.inl ⟨_,_,R.box h1 h3,ml hR hf h4⟩)
  ·cases h
 case alloc t=>
  split at h
  ·rename_i ti hti
   cases h
   obtain ⟨⟨_,zs,hz,hzb⟩,_⟩:=hT _ _ hti
   exact .inl (.inl ⟨_,_,R.alloc hz,ml hR hf (fb hzb)⟩)
  ·cases h
 case store t x v=>
  split at h
  ·rename_i a b ti hx hv hti
   split at h
   ·rename_i hsz
    obtain ⟨va,h1,h2⟩:=ae hf hx
    obtain ⟨vb,h3,h4⟩:=ae hf hv
    obtain ⟨w',h5,h6⟩:=pW (ty:=ty) hT hR hf hti hsz h2 h4 h1 h3 h hob
    exact .inr ⟨rfl,w',h5,h6⟩
   ·cases h
  ·cases h
 case buildSlice t m parts=>
  split at h
  ·rename_i e s sz z l hft hl
   obtain ⟨hu,hs⟩:=(hT _ _ hft).2
   obtain ⟨hshp,⟨zz,hz,hzb⟩,_⟩:=hs s rfl
   have hsize:(P.info? e).map (·.size)=some s.size:=by
    cases hq:P.info? e with
    | none=>simp [hq] at hz
    | some i=>simp only [hq,Option.map_some,Option.some.injEq,Prod.mk.injEq] at hz ⊢; exact hz.2.1
   split at h
   ·rename_i xs q hel hfz
    split at h
    ·rename_i hck
     simp only [Bool.and_eq_true] at hck
     have hm:=Nat.eq_of_beq_eq_true hck.1.1
     have hsm:=Nat.le_of_ble_eq_true hck.1.2
     have hbm:=Nat.le_of_ble_eq_true hck.2
     obtain ⟨pv,h1,h2⟩:=fl hf hl
     obtain ⟨ρ1,k1,k2,k3,k4,k5,k6,_,_⟩:=ic hfz hR hf
     obtain ⟨vss,h3,h4,h5,h6⟩:=iO hel h2 fun p hp us hus=>k6 _ us (fun i hi=>kN hp hi) hus
     have hrun:=R.buildSlice (P:=P) (n:=n) (F:=F) (w:=w) (ty:=ty) (m:=m) hu hsize (rA hz) h1 h3 h4 (by omega) hsm
     have e0:parts.toList.toArray=parts:=by simp
     rw [e0] at hrun
     have hk:=Kp.alloc w (.cells vss.flatten.toArray e)
     cases m with
     | zero=>
      cases h
      refine .inl (.inl ⟨_,_,hrun,ρ,Stp.kp hR hk,hR.kp hk,hf.kp hk,Pd.em (a:=some ⟨w.heap.size,0,none⟩) rfl,by simp⟩)
     | succ m=>
      cases h
      have hfl:vss.flatten.length=(m+1)*s.size:=by rw [<- h6.length,bf,hm]
      obtain ⟨ρ2,j1,j2,j3,j4⟩:=mW (ro:=ro) (sp:=[]) (cap:=m+1) k3 k4 hk (by rw [List.append_nil]; exact heap_alloc_new w _) hshp (by rw [hm]; exact hbm) h6 (by rw [List.append_nil]; exact hfl) (by omega) (by
       have:=Nat.mul_le_mul_left (m+1) (fB s)
       simp only [maxLen]; omega)
      rw [hm] at j4
      exact .inl (.inl ⟨_,_,hrun,ρ2,k1.trans j1,j2,j3,j4,by simp⟩)
    ·cases h
   ·cases h
  ·cases h
 case makeSlice t a b=>
  split at h
  ·rename_i e s sz z k k' hft hx hy
   split at h
   ·rename_i hs1
    cases h
    obtain ⟨hu,hs⟩:=(hT _ _ hft).2
    obtain ⟨hshp,⟨zz,hz,hzb⟩,_⟩:=hs s rfl
    have hs1:=Nat.eq_of_beq_eq_true hs1
    have g0:=hob _ (List.mem_cons_self); have g1:=hob _ (List.mem_cons_of_mem _ (List.mem_cons_self)); have g2:=hob _ (List.mem_cons_of_mem _ (List.mem_cons_of_mem _ (List.mem_singleton_self _)))
    subst g2
    obtain ⟨m,rfl⟩:=Int.eq_ofNat_of_zero_le g0
    obtain ⟨va,h1,h2⟩:=ae hf hx
    obtain ⟨vb,h3,h4⟩:=ae hf hy
    cases h2 with | int=>
    cases h4 with | int=>
    have hmb:m*s.bytes<=140737488355328:=by
     have e9:((m*s.bytes:Nat):Int)=(m:Int)*s.bytes:=by simp
     omega
    have hml:m<=maxLen:=by
     have:=Nat.mul_le_mul_left m (fB s)
     simp only [maxLen]; omega
    obtain ⟨i,zv,hq,hzv,hzc,hsz,hby⟩:=mV hz
    obtain ⟨w',hrun,hown,hgr⟩:=run_make_full (P:=P) w w.heap.size t e i zv s.size hu hq hzv hsz .i64 .i64 m (by rw [hby,Nat.mul_comm]; omega) hml (Nat.le_refl _)
    have hmade:(madeCells zv.cells (m*s.size)).toList=List.replicate m (zz.headD undef):=by
     have hzl:=(fb (c:=cx G ρ w) (ρ:=ρ) hzb).length
     rw [bq,hs1] at hzl
     obtain ⟨u,rfl⟩:∃ u,zz=[u]:=by
      cases zz with
      | nil=>simp at hzl
      | cons u r=>
       cases r with
       | nil=>exact ⟨u,rfl⟩
       | cons _ _=>simp at hzl
     rw [hzc,hs1]; simp [madeCells,Nat.mod_one,List.map_const']
    rw [hmade] at hown
    have hk:=Kp.tj hgr
    rcases iC hown with ⟨h0,_⟩ | ⟨g,cap,sp,hv,j1,j2,j3,j4⟩
    ·cases h0
    ·injection hv with e1 e2 e3
     cases e1
     subst e3
     have hrl:(List.replicate m (aY s)).length=m:=List.length_replicate
     obtain ⟨ρ2,q1,q2,q3,q4⟩:=mW (ro:=ro) (xs:=List.replicate m (aY s)) hR hf hk j1 hshp (by rw [hrl]; exact hmb) (wc (fb (ρ:=ρ) hzb) hs1 m) j2 (by rw [hrl]; exact j3) j4
     rw [hrl] at q4
     exact .inl (.inl ⟨_,w',fun a _ _ _ _ ha=>by simp [execOp,ha.ev h1,ha.ev h3,hrun],ρ2,q1,q2,q3,q4,by simp⟩)
   ·cases h
  ·cases h
 case call cl=>
  split at h
  ·rename_i hcal
   split at h
   ·rename_i x y t t' hargs htys
    split at h
    ·rename_i a b htt hx hy
     have htt:=Nat.eq_of_beq_eq_true htt
     subst htt
     obtain ⟨va,h1,h2⟩:=ae hf hx
     obtain ⟨vb,h3,h4⟩:=ae hf hy
     obtain ⟨v,w',h5,h6⟩:=m_ (P:=P) (n:=n) (ty:=ty) hT hR hf h hob h2 h4 h1 h3
     have e:cl={ callee:=.builtin .append,args:=#[x,y],argTypes:=#[t,t] }:=by
      cases cl; simp at hcal hargs htys; subst hcal
      simp only [Call.mk.injEq,true_and]
      exact ⟨Array.ext' (by simpa using hargs),Array.ext' (by simpa using htys)⟩
     rw [e]
     exact .inl (.inl ⟨v,w',h5,h6⟩)
    ·rename_i a b htt hx hy
     obtain ⟨va,h1,h2⟩:=ae hf hx
     obtain ⟨vb,h3,h4⟩:=ae hf hy
     obtain ⟨v,w',h5,h6⟩:=lz (P:=P) (n:=n) (ty:=ty) hT hR hf h hob h2 h4 h1 h3
     have e:cl={ callee:=.builtin .append,args:=#[x,y],argTypes:=#[t,t'] }:=by
      cases cl; simp at hcal hargs htys; subst hcal
      simp only [Call.mk.injEq,true_and]
      exact ⟨Array.ext' (by simpa using hargs),Array.ext' (by simpa using htys)⟩
     rw [e]
     exact .inl (.inl ⟨v,w',h5,h6⟩)
    ·cases h
   ·cases h
  ·rename_i x hcal
   split at h
   ·rename_i f l hl
    split at h
    ·rename_i r' hce
     cases h
     obtain ⟨x',xs,vs,cap,h1,h2,h3,h4,h5⟩:=eP hf hl
     obtain ⟨⟨fn,h6,h7,h8⟩,hrun⟩:=tO hO hR hf h5 hce hob
     have e:cl={ callee:=.value x',args:=xs.toArray,argTypes:=cl.argTypes }:=by
      cases cl; simp at h1 h2; subst h1; subst h2; rfl
     rw [e]
     exact .inl (.inr ⟨_,_,E.call h3 h4 h6 h7 h8,hrun⟩)
    ·unfold vi at h
     split at h
     ·rename_i q hfz
      split at h
      ·rename_i f' l' hl'
       split at h
       ·rename_i r' hcp
        cases h
        obtain ⟨ρ',k1,k2,k3,k4,k5,_,_,_⟩:=dw hfz hR hf
        obtain ⟨x',xs,vs,cap,h1,h2,h3,h4,h5⟩:=eP k4 hl'
        obtain ⟨⟨fn,h6,h7,h8⟩,hrun⟩:=mg hO k3 h5 hcp hob
        have e:cl={ callee:=.value x',args:=xs.toArray,argTypes:=cl.argTypes }:=by
         cases cl; simp at h1 h2; subst h1; subst h2; rfl
        rw [e]
        exact .inl (.inr ⟨_,_,E.call h3 h4 h6 h7 h8,hrun.mono fun v w' hp=>⟨ρ',k1.trans (Stp.kp k3 hp.1),k3.kp hp.1,k4.kp hp.1,hp.2.1,hp.2.2⟩⟩)
       ·cases h
      ·cases h
     ·cases h
   ·cases h
  ·cases h
 case slice t x lo hi mx=>
  split at h
  ·rename_i i hx
   split at h
   ·rename_i q hfz
    split at h
    ·rename_i r' hpv
     cases h
     obtain ⟨ρ',k1,k2,k3,k4,k5,_,_,_⟩:=dw hfz hR hf
     rcases jR (ty:=ty) hT hO k3 k4 hpv hob with ⟨v,w',h1,h2⟩ | ⟨f,args,h1,h2⟩
     ·exact .inl (.inl ⟨v,w',h1,ρ',k1.trans (Stp.kp k3 h2.1),k3.kp h2.1,k4.kp h2.1,h2.2.1,h2.2.2⟩)
     ·exact .inl (.inr ⟨f,args,h1,h2.mono fun v w' hp=>⟨ρ',k1.trans (Stp.kp k3 hp.1),k3.kp hp.1,k4.kp hp.1,hp.2.1,hp.2.2⟩⟩)
    ·cases h
   ·cases h
  ·cases h
 case makeMap t o=>
  cases o with
  | some o=>cases h
  | none=>
   simp only at h
   split at h
   ·rename_i s hft
    cases h
    have hk:=Kp.alloc w (.map #[] 0)
    have hext:Ext ρ w (ρ++[.blk w.heap.size]) (w.alloc (.map #[] 0)):=Ext.app hk fun g hg=>by cases hg; exact Nat.le_refl _
    have hle:=hext.le (G:=G)
    exact .inl (.inl ⟨_,_,R.kE,ρ++[.blk w.heap.size],Stp.app hR hk (fun g hg=>by cases hg; exact Nat.le_refl _),hR.app hk (fun g hg=>by cases hg; exact ⟨Nat.le_refl _,by simp⟩) ⟨_,rfl,#[],0,(Go.MapKept.heap_alloc w _).1,by simp,fun _=>trivial⟩,hf.carry hle (cX _ _),⟨w.heap.size,by rw [hR.obj.length]; simp,rfl⟩,by simp⟩)
   ·rename_i hft
    cases h
    have hk:=Kp.alloc w (.map #[] 0)
    have hext:Ext ρ w (ρ++[.blk w.heap.size]) (w.alloc (.map #[] 0)):=Ext.app hk fun g hg=>by cases hg; exact Nat.le_refl _
    have hle:=hext.le (G:=G)
    exact .inl (.inl ⟨_,_,R.kE,ρ++[.blk w.heap.size],Stp.app hR hk (fun g hg=>by cases hg; exact Nat.le_refl _),hR.app hk (fun g hg=>by cases hg; exact ⟨Nat.le_refl _,by simp⟩) ⟨_,rfl,#[],0,(Go.MapKept.heap_alloc w _).1,by simp,fun _=>trivial⟩,hf.carry hle (cX _ _),⟨w.heap.size,by rw [hR.obj.length]; simp,rfl⟩,by simp⟩)
   ·cases h
 case insert t x y z=>
  obtain ⟨w',h1,h2⟩:=kW (n:=n) (ty:=ty) hT hR hf h
  exact .inr ⟨rfl,w',h1.1,h2⟩
 case mapUpdate t x y z=>
  obtain ⟨w',h1,h2⟩:=kW (n:=n) (ty:=ty) hT hR hf h
  exact .inr ⟨rfl,w',h1.2,h2⟩
 all_goals cases h
end
theorem bC {q:Prop} (h:∀ p ∈ [q],p):q:=h q (List.mem_singleton_self q)
theorem aO {b:Bool}:(∀ p ∈ same b,p)↔b=true:=by
 cases b with
 | true=>simp [same]
 | false=>exact ⟨fun h=>(bC h).elim,fun h=>by cases h⟩
theorem oR:∀ {k n:Nat},(iota k n).length=n
 | _,0=>rfl
 | k,n+1=>by simp [iota,oR]
theorem nn:∀ {k n i:Nat},i<n->(iota k n)[i]? = some (k+i)
 | k,n+1,0,_=>by simp [iota]
 | k,n+1,i+1,h=>by
  have:=nn (k:=k+1) (n:=n) (i:=i) (by omega)
  rw [iota,List.getElem?_cons_succ,this,show k+1+i=k+(i+1) by omega]
theorem vg {k n i:Nat}:i ∈ iota k n↔k<=i/\i<k+n:=by
 induction n generalizing k with
 | zero=>simp [iota]
 | succ n ih=>simp [iota,ih]; omega
theorem dC:∀ {σ:List Nat} {j i:Nat},tS σ j i=true↔σ[j]? = some i
 | [],j,i=>by simp [tS]
 | k :: r,0,i=>by simp [tS]
 | k :: r,j+1,i=>by simpa [tS] using dC (σ:=r)
theorem pE {n:Nat}:∀ {σ:List Nat} {j:Nat},tH n σ j=true↔∃ k,σ[j]? = some k/\n<=k
 | [],j=>by simp [tH]
 | k :: r,0=>by simp [tH]
 | k :: r,j+1=>by simpa [tH] using pE (σ:=r)
def bg (ρ:List RE) (σ:List Nat):List RE:=σ.map fun k=>ρ.getD k .emp
theorem bD {ρ:List RE} {σ:List Nat} {i j:Nat} {r:RE} (h:σ[j]? = some i) (hr:ρ[i]? = some r):(bg ρ σ)[j]? = some r:=by
 simp [bg,h,List.getD_eq_getElem?_getD,hr]
theorem uJ {ρ:List RE} {σ:List Nat} {i j:Nat} (h:σ[j]? = some i) (hr:ρ.length<=i):(bg ρ σ)[j]? = some .emp:=by
 simp [bg,h,List.getD_eq_getElem?_getD,List.getElem?_eq_none hr]
theorem gv {ρ:List RE} {σ:List Nat} {j g:Nat} {r:RE} (h:(bg ρ σ)[j]? = some r) (hg:r.g? = some g):∃ i,σ[j]? = some i/\ρ[i]? = some r:=by
 simp only [bg,List.getElem?_map,Option.map_eq_some_iff] at h
 obtain ⟨i,h1,h2⟩:=h
 refine ⟨i,h1,?_⟩
 rw [List.getD_eq_getElem?_getD] at h2
 cases hi:ρ[i]? with
 | none=>rw [hi] at h2; simp at h2; subst h2; cases hg
 | some r'=>rw [hi] at h2; simp at h2; rw [h2]
theorem iM {ρ:List RE} {σ:List Nat} {b:Nat} (h:live (bg ρ σ) b):∃ i r,i ∈ σ/\ρ[i]? = some r/\r.g? = some b:=by
 obtain ⟨j,r,h1,h2⟩:=h
 obtain ⟨i,h3,h4⟩:=gv h1 h2
 exact ⟨i,r,List.mem_of_getElem? h3,h4,h2⟩
section
variable {G:Gl} {ρ:List RE} {H:AH} {w:World} {σ:List Nat} {n:Nat}
theorem nk:(cx G ρ w).le (cx G (bg ρ σ) w):=
 ⟨rfl,rfl,fun _ hb=>⟨⟨hb.1,fun h=>by
  obtain ⟨i,r,_,h1,h2⟩:=iM h
  exact hb.2.1 ⟨i,r,h1,h2⟩,hb.2.2⟩,rfl⟩⟩
theorem de:∀ {b b':List (Nat × Nat)} {us:List Value},jf σ b b' = true->All2 (ct ρ) b us->All2 (ct (bg ρ σ)) b' us
 | [],[],_,_,h=>by cases h; exact .nil
 | [],_ :: _,_,h,_=>by cases h
 | (_,_) :: _,[],_,h,_=>by cases h
 | (i,o) :: b,(j,o') :: b',_,h,k=>by
  simp only [jf,Bool.and_eq_true] at h
  cases k with | cons k1 k2=>
  have ho:=Nat.eq_of_beq_eq_true h.1.2
  subst ho
  obtain ⟨g,e1,e2⟩:=k1
  exact .cons ⟨g,bD (dC.1 h.1.1) e1,e2⟩ (de h.2 k2)
theorem xg (hR:Rep G ρ H w) (hn:n=H.length) {a b:AV} {v:Value} (h:Rd (cx G ρ w) ρ a v) (he:∀ p ∈ Ee H n σ a b,p):Rd (cx G (bg ρ σ) w) (bg ρ σ) b v:=by
 have hlen:=hR.obj.length
 by_cases hd:b = .dead
 ·subst hd; exact h.one
 have hle:(cx G ρ w).le (cx G (bg ρ σ) w):=nk
 cases a <;> cases b <;> first | exact (hd rfl).elim | (dsimp only [Ee] at he; try exact (bC he).elim)
 case int.int=>have he:=bC he; subst he; exact Pd.carry h hle
 case u8.u8=>have he:=bC he; subst he; exact Pd.carry h hle
 case u64.u64=>have he:=bC he; subst he; exact Pd.carry h hle
 case bool.bool=>
  have h:Pd (cx G ρ w) _ v:=h
  cases h
  rw [bC he]; exact Pd.bool
 case str.str=>have he:=bC he; subst he; exact Pd.carry h hle
 case fz.fz=>
  rename_i s xs s' ys
  by_cases hs:s=s'
  ·subst hs
   rw [dif_pos rfl] at he
   have he:xs=ys:=bC he
   subst he
   exact Pd.carry h hle
  ·rw [dif_neg hs] at he
   exact (bC he).elim
 case em.fz=>
  have he:=bC he
  subst he
  exact Pd.mG (Pd.carry h hle)
 case em.em=>
  have:=aO.1 he
  simp at this; subst this
  exact Pd.carry h hle
 case em.own=>
  obtain ⟨k,h1,h2⟩:=pE.1 (aO.1 he)
  have h:Pd (cx G ρ w) _ v:=h
  cases h with | em _=>
  exact .inr ⟨uJ h1 cQ,_,rfl⟩
 case own.own=>
  have h1:=dC.1 (aO.1 he)
  rcases h with ⟨g,cap,len,z,h,e⟩ | ⟨h,e⟩
  ·exact .inl ⟨g,cap,len,z,bD h1 h,e⟩
  ·exact .inr ⟨bD h1 h,e⟩
 case own.fz=>
  rename_i i s ys
  split at he
  ·rename_i t s' xs hH
   by_cases hs:s' = s
   ·subst hs
    rw [dif_pos rfl] at he
    have h1:=aO.1 fun p hp=>he p (List.mem_append_left _ hp)
    have h2:xs=ys:=he _ (List.mem_append_right _ (List.mem_singleton_self _))
    simp only [Bool.not_eq_true'] at h1
    subst h2
    have hni:i ∉ σ:=fun hi=>by rw [aF.2 hi] at h1; cases h1
    have hv:(AV.own i).vw H = .fz s' xs:=by simp [AV.vw,hH]
    refine eX (gM hR hle rfl h (fun g cap len z ⟨id,he,hid⟩=>?_) hv)
    have hb:=hR.bnd _ _ g hid rfl
    refine ⟨hb.2.1,fun hl=>?_,hb.2.2⟩
    obtain ⟨i',r',h3,h4,h5⟩:=iM hl
    have:=hR.inj _ _ _ _ g hid h4 rfl h5
    rcases he with he | ⟨_,_,he⟩ <;> cases he
    subst this
    exact hni h3
   ·rw [dif_neg hs] at he
    exact (bC he).elim
  ·exact (bC he).elim
 case sub.sub=>
  simp only [List.mem_append,List.mem_cons,List.not_mem_nil,or_false] at he
  have h1:=dC.1 (aO.1 fun p hp=>he p (.inl hp))
  have h2:=he _ (.inr (.inl rfl))
  have h3:=he _ (.inr (.inr rfl))
  subst h2; subst h3
  rcases h with ⟨g,cap,len,z,h,e⟩ | ⟨h,e⟩
  ·exact .inl ⟨g,cap,len,z,bD h1 h,e⟩
  ·exact .inr ⟨bD h1 h,e⟩
 case ptr.ptr=>
  have h1:=aO.1 he
  simp only [Bool.and_eq_true] at h1
  have ho:=Nat.eq_of_beq_eq_true h1.2
  subst ho
  obtain ⟨g,h,e⟩:=h
  exact ⟨g,bD (dC.1 h1.1) h,e⟩
 case np.np=>exact h
 case elp.elp=>
  simp only [List.mem_append,List.mem_cons,List.not_mem_nil,or_false] at he
  have h1:=aO.1 fun p hp=>he p (.inl hp)
  have h2:=he _ (.inr rfl)
  simp only [Bool.and_eq_true] at h1
  have ho:=Nat.eq_of_beq_eq_true h1.2
  subst ho; subst h2
  obtain ⟨g,cap,len,z,h,e⟩:=h
  exact ⟨g,cap,len,z,bD (dC.1 h1.1) h,e⟩
 case fn.fn=>
  have h1:=aO.1 he
  simp only [Bool.and_eq_true] at h1
  have ho:=Nat.eq_of_beq_eq_true h1.1.1
  subst ho
  obtain ⟨bs,us,h2,h3,e⟩:=h
  exact ⟨bs,us,de h1.1.2 h2,de h1.2 h3,e⟩
 case nf.nf=>exact h
 case yl.yl=>rw [<- Nat.eq_of_beq_eq_true (aO.1 he)]; exact h
 case np.xx k b=>
  unfold DF at he
  split at he
  ·rename_i q
   have h1:=aO.1 he
   unfold CX at h1
   split at h1
   ·rename_i i hi
    split at h1
    ·rename_i t cs hH
     obtain ⟨r,hr,g,vs,rfl,_⟩:=hR.at_ (aN hH (by simp))
     have h:v = .pointer none:=h
     exact ⟨[_],.cons ⟨g,bD hi hr,rfl⟩ .nil,rfl,.inl h⟩
    ·cases h1
   ·cases h1
  ·exact (bC he).elim
 case ptr.xx i o k b=>
  unfold Dc at he
  split at he
  ·rename_i q
   have h1:=aO.1 he
   simp only [Bool.and_eq_true] at h1
   obtain ⟨g,h2,e⟩:=h
   have ho:=Nat.eq_of_beq_eq_true h1.2
   subst ho
   exact ⟨[v],.cons ⟨g,bD (dC.1 h1.1) h2,e⟩ .nil,rfl,.inr rfl⟩
  ·exact (bC he).elim
 case xx.xx k b k' b'=>
  obtain ⟨us,h1,h2⟩:=h
  unfold FM at he
  split at he
  ·have:=he _ (List.mem_singleton_self _)
   subst this
   cases h1
   exact ⟨[],.nil,h2⟩
  ·exact ⟨us,de (aO.1 he) h1,h2.le hle⟩
  ·exact ⟨us,de (aO.1 he) h1,h2.le hle⟩
  ·exact ⟨us,de (aO.1 he) h1,h2.le hle⟩
  ·exact (bC he).elim
 case mq.mq=>
  obtain ⟨g,h,e⟩:=h
  exact ⟨g,bD (dC.1 (aO.1 he)) h,e⟩
theorem mT (hR:Rep G ρ H w) (hn:n=H.length):∀ {asx bs:List AV} {vs:List Value},All2 (Rd (cx G ρ w) ρ) asx vs->(∀ p ∈ uc H n σ asx bs,p)->All2 (Rd (cx G (bg ρ σ) w) (bg ρ σ)) bs vs
 | [],[],_,h,_=>by cases h; exact .nil
 | [],_ :: _,_,_,h=>(bC h).elim
 | _ :: _,[],_,_,h=>(bC h).elim
 | a :: asx,b :: bs,_,h,he=>by
  cases h with | cons h1 h2=>
  simp only [uc,List.mem_append] at he
  exact .cons (xg hR hn h1 fun p hp=>he p (.inl hp)) (mT hR hn h2 fun p hp=>he p (.inr hp))
theorem qZ (hR:Rep G ρ H w) (hn:n=H.length) {a b:TV1} {v:Value} (h:bt (cx G ρ w) ρ a v) (he:∀ p ∈ zr H n σ a b,p):bt (cx G (bg ρ σ) w) (bg ρ σ) b v:=by
 cases a <;> cases b <;> simp only [zr] at he
 ·exact xg hR hn h he
 ·exact (bC he).elim
 ·exact (bC he).elim
 ·obtain ⟨vs,e,h⟩:=h
  exact ⟨vs,e,mT hR hn h he⟩
theorem jA (hR:Rep G ρ H w) (hn:n=H.length):∀ {asx bs:List TV1} {vs:List Value},All2 (bt (cx G ρ w) ρ) asx vs->(∀ p ∈ pJ H n σ asx bs,p)->All2 (bt (cx G (bg ρ σ) w) (bg ρ σ)) bs vs
 | [],[],_,h,_=>by cases h; exact .nil
 | [],_ :: _,_,_,h=>(bC h).elim
 | _ :: _,[],_,_,h=>(bC h).elim
 | a :: asx,b :: bs,_,h,he=>by
  cases h with | cons h1 h2=>
  simp only [pJ,List.mem_append] at he
  exact .cons (qZ hR hn h1 fun p hp=>he p (.inl hp)) (jA hR hn h2 fun p hp=>he p (.inr hp))
theorem AL (hR:Rep G ρ H w) (hn:n=H.length) {a b:TV} {v:Value} (h:Rt (cx G ρ w) ρ a v) (he:∀ p ∈ Ei H n σ a b,p):Rt (cx G (bg ρ σ) w) (bg ρ σ) b v:=by
 cases b with
 | un=>trivial
 | one b=>
  cases a <;> simp only [Ei] at he
  ·exact qZ hR hn h he
  ·exact (bC he).elim
  ·exact (bC he).elim
 | tup b=>
  cases a <;> simp only [Ei] at he
  ·exact (bC he).elim
  ·obtain ⟨vs,e,h⟩:=h
   exact ⟨vs,e,jA hR hn h he⟩
  ·exact (bC he).elim
theorem si (hR:Rep G ρ H w) (hn:n=H.length) {fr:AFr} {F:Fr} (hf:bK (cx G ρ w) ρ fr F):∀ {fr':AFr},(∀ p ∈ yj H n σ fr fr',p)->∃ F',bK (cx G (bg ρ σ) w) (bg ρ σ) fr' F' /\ ∀ i v,look F' i=some v->look F i=some v
 | [],_=>⟨[],.nil,fun i v h=>by cases h⟩
 | (i,b) :: fr',he=>by
  simp only [yj] at he
  split at he
  ·rename_i u hu
   simp only [List.mem_append] at he
   obtain ⟨v,h1,h2⟩:=cN hf hu
   obtain ⟨F',h3,h4⟩:=si hR hn hf fun p hp=>he p (.inr hp)
   refine ⟨(i,v) :: F',.cons ⟨rfl,AL hR hn h2 fun p hp=>he p (.inl hp)⟩ h3,fun j x hj=>?_⟩
   rw [au] at hj
   by_cases hij:i=j
   ·subst hij; rw [if_pos rfl] at hj; cases hj; exact h1
   ·rw [if_neg hij] at hj; exact h4 j x hj
  ·exact (bC he).elim
theorem pc {P:Program} {t:TypeId} {s:Sh} {T:List (Nat × TI)} (hT:aD P G.shp T):∀ {r:List (Nat × TI)},nq T t s r=true->G.shp t=some s
 | [],h=>by cases h
 | (i,_) :: r,h=>by
  simp only [nq,Bool.or_eq_true] at h
  rcases h with h | h
  ·split at h
   ·rename_i e s' _ _ hu
    simp only [Bool.and_eq_true,decide_eq_true_eq] at h
    have h1:=Nat.eq_of_beq_eq_true h.1
    obtain ⟨_,h2⟩:=h
    subst h1; subst h2
    exact ((hT _ _ hu).2.2 _ rfl).1
   ·cases h
  ·exact pc hT h
theorem vy {P:Program} {T:List (Nat × TI)} (hT:aD P G.shp T) (hR:Rep G ρ H w) (hn:n=H.length):∀ {r:List Nat} {H':AH},(∀ p ∈ Ck T H n σ r H',p)->All2 (OR (cx G (bg ρ σ) w) (bg ρ σ)) H' (r.map fun k=>ρ.getD k .emp)
 | [],[],_=>.nil
 | [],_ :: _,h=>(bC h).elim
 | _ :: _,[],h=>(bC h).elim
 | k :: r,b :: H',h=>by
  simp only [Ck,List.mem_append] at h
  refine .cons ?_ (vy hT hR hn fun p hp=>h p (.inr hp))
  replace h:=fun p hp=>h p (.inl hp)
  have hle:(cx G ρ w).le (cx G (bg ρ σ) w):=nk
  cases hk:Nat.blt k n <;> rw [hk] at h
  ·-- a new row
   have hk':n<=k:=by
    have:¬ k<n:=fun hlt=>by have:=(Nat.blt_eq).mpr hlt; rw [hk] at this; cases this
    omega
   dsimp only [cond_false] at h
   have hlen:=hR.obj.length
   show OR _ _ _ (ρ.getD k .emp)
   rw [List.getD_eq_getElem?_getD,List.getElem?_eq_none (by omega)]
   cases b with
   | row t s ys=>
    dsimp only [FP] at h
    have h1:=aO.1 fun p hp=>h p (List.mem_append_left _ hp)
    have h2:ys=[]:=h _ (List.mem_append_right _ (List.mem_singleton_self _))
    subst h2
    exact ⟨pc hT h1,by simp,.inl ⟨rfl,rfl⟩⟩
   | gone=>exact (bC h).elim
   | mapo _ _=>exact (bC h).elim
   | mapf _=>exact (bC h).elim
   | loc=>exact (bC h).elim
   | arr _ _ _ _=>exact (bC h).elim
   | box _ _=>exact (bC h).elim
  ·dsimp only [cond_true] at h
   have hk':k<H.length:=by have:=Nat.blt_eq.mp hk; omega
   have hg:H[k]? = some (getO H k):=by
    unfold getO
    rw [List.getD_eq_getElem?_getD,List.getElem?_eq_getElem hk']
    rfl
   obtain ⟨rr,h1,h2⟩:=hR.at_ hg
   show OR _ _ _ (ρ.getD k .emp)
   rw [List.getD_eq_getElem?_getD,h1,Option.getD_some]
   generalize getO H k=a at h h2
   cases a <;> cases b <;> dsimp only [FN] at h <;> try exact (bC h).elim
   case gone.gone=>exact h2
   case mapo.mapo s f s' f'=>
    by_cases hs:s=s'
    ·subst hs
     rw [dif_pos rfl] at h
     have he:f=f':=bC h
     subst he
     obtain ⟨g,e,h3⟩:=h2
     exact ⟨g,e,h3.carry hle rfl⟩
    ·rw [dif_neg hs] at h
     exact (bC h).elim
   case arr.arr t s m xs t' s' m' ys=>
    have h0:=aO.1 fun p hp=>h p (List.mem_append_left _ hp)
    simp only [Bool.and_eq_true] at h0
    have h3:=Nat.eq_of_beq_eq_true h0.1
    have h4:=Nat.eq_of_beq_eq_true h0.2
    subst h3; subst h4
    replace h:=fun p hp=>h p (List.mem_append_right _ hp)
    by_cases hs:s=s'
    ·subst hs
     rw [dif_pos rfl] at h
     have he:xs=ys:=bC h
     subst he
     obtain ⟨g,vs,e,h5,h6,h7⟩:=h2
     exact ⟨g,vs,e,h5,h6.carry hle,h7⟩
    ·rw [dif_neg hs] at h
     exact (bC h).elim
   case box.box t cs t' cs'=>
    have h3:=Nat.eq_of_beq_eq_true (aO.1 fun p hp=>h p (List.mem_append_left _ hp))
    subst h3
    obtain ⟨g,vs,e,h4,h5⟩:=h2
    exact ⟨g,vs,e,h4,mT hR hn h5 fun p hp=>h p (List.mem_append_right _ hp)⟩
   case row.row t s xs t' s' ys=>
    have h3:=Nat.eq_of_beq_eq_true (aO.1 fun p hp=>h p (List.mem_append_left _ hp))
    subst h3
    replace h:=fun p hp=>h p (List.mem_append_right _ hp)
    by_cases hs:s=s'
    ·subst hs
     rw [dif_pos rfl] at h
     have he:xs=ys:=bC h
     subst he
     refine ⟨h2.1,h2.2.1,h2.2.2.imp id ?_⟩
     rintro ⟨g,cap,cells,sp,e,h4,h5,h6⟩
     exact ⟨g,cap,cells,sp,e,h4,h5.carry hle,h6⟩
    ·rw [dif_neg hs] at h
     exact (bC h).elim
theorem jV {n:Nat}:∀ {σ:List Nat},iu n σ=true->∀ (i j k:Nat),σ[i]? = some k->σ[j]? = some k->k<n->i=j
 | [],_,i,j,k,h,_,_=>by simp at h
 | x :: r,hs,i,j,k,h1,h2,hk=>by
  simp only [iu,Bool.and_eq_true,Bool.or_eq_true,Bool.not_eq_true'] at hs
  have hx:k=x->∀ m:Nat,r[m]? = some k->False:=by
   rintro rfl m hm
   rcases hs.1 with h | h
   ·have:=Nat.le_of_ble_eq_true h; omega
   ·rw [aF.2 (List.mem_of_getElem? hm)] at h; cases h
  cases i with
  | zero=>
   simp at h1
   cases j with
   | zero=>rfl
   | succ j=>exact (hx h1.symm j (by simpa using h2)).elim
  | succ i=>
   cases j with
   | zero=>simp at h2; exact (hx h2.symm i (by simpa using h1)).elim
   | succ j=>rw [jV hs.2 i j k (by simpa using h1) (by simpa using h2) hk]
theorem pV {P:Program} {T:List (Nat × TI)} (hT:aD P G.shp T) (hR:Rep G ρ H w) (hn:n=H.length) (hs:iu n σ=true) {H':AH} (h:∀ p ∈ Ck T H n σ σ H',p):Rep G (bg ρ σ) H' w:=by
 have hlen:=hR.obj.length
 refine ⟨vy hT hR hn h,fun i j r r' g h1 h2 h3 h4=>?_,fun i r g h1 h2=>?_,hR.z,hR.b0,hR.tb.carry nk⟩
 ·obtain ⟨a,h5,h6⟩:=gv h1 h3
  obtain ⟨b,h7,h8⟩:=gv h2 h4
  have:=hR.inj a b r r' g h6 h8 h3 h4
  subst this
  exact jV hs i j a h5 h7 (by have:=(List.getElem?_eq_some_iff.1 h6).1; omega)
 ·obtain ⟨a,h5,h6⟩:=gv h1 h2
  exact hR.bnd a r g h6 h2
theorem ot {ρ0:List RE} {w0:World} (h:Ext ρ0 w0 ρ w):Ext ρ0 w0 (bg ρ σ) w:=
 ⟨h.os,h.tape,h.output,h.size,fun b hb hl=>⟨fun hk=>by
  obtain ⟨i,r,_,h1,h2⟩:=iM hk
  exact (h.old b hb hl).1 ⟨i,r,h1,h2⟩,(h.old b hb hl).2⟩⟩
theorem vv {ro:Lv} {ρ0:List RE} {w0:World} (h:Stp ro ρ0 w0 ρ w) (hσ:∀ i,i<ρ0.length->σ[i]? = some i):Stp ro ρ0 w0 (bg ρ σ) w:=
 ⟨ot h.ext,fun i r hi hr=>bD (hσ i (List.getElem?_eq_some_iff.1 hr).1) (h.loc i r hi hr),fun i r hi hr=>⟨bD (hσ i (List.getElem?_eq_some_iff.1 hr).1) (h.pro i r hi hr).1,(h.pro i r hi hr).2⟩,
  fun i g hg=>bD (hσ i (List.getElem?_eq_some_iff.1 hg).1) (h.bx i g hg)⟩
def St (G:Gl) (ro:Lv) (ρ0:List RE) (w0:World) (fr:AFr) (H:AH) (F:Fr) (w:World):Prop:=∃ ρ,Stp ro ρ0 w0 ρ w/\Rep G ρ H w/\bK (cx G ρ w) ρ fr F
theorem py {k0:Nat} {fr:AFr} {H:AH} {q:AFr × AH} {i:Nat} (h:i<k0):∀ (f:Nat) (ps:List (Nat × Nat)),(zn k0 fr H q f ps)[i]? = some i
 | 0,ps=>by
  show (iota 0 k0++_)[i]? = _
  have:=nn (k:=0) (n:=k0) (i:=i) h
  rw [Nat.zero_add] at this
  rw [List.getElem?_append_left (List.getElem?_eq_some_iff.1 this).1]; exact this
 | f+1,ps=>py h f _
theorem ox {P:Program} {T:List (Nat × TI)} (hT:aD P G.shp T) {ro:Lv} {k0:Nat} {ρ0:List RE} {w0:World} {fr:AFr} {F:Fr} {q:AFr × AH} (hk0:ρ0.length<=k0) (h:St G ro ρ0 w0 fr H F w) (he:gS (yd T k0 fr H q)) :
  ∃ F',St G ro ρ0 w0 q.1 q.2 F' w/\∀ i v,look F' i=some v->look F i=some v:=by
 obtain ⟨ρ,hS,hR,hf⟩:=h
 replace he:=ck.1 he
 dsimp only [yd] at he
 have h0:=aO.1 fun p hp=>he p (List.mem_append_left _ (List.mem_append_left _ hp))
 rw [Bool.and_eq_true] at h0
 obtain ⟨F',h2,h3⟩:=si (σ:=zn k0 fr H q 3 []) hR rfl hf fun p hp=>he p (List.mem_append_left _ (List.mem_append_right _ hp))
 have h4:=pV hT hR rfl h0.2 fun p hp=>he p (List.mem_append_right _ hp)
 exact ⟨F',⟨_,vv hS fun i hi=>py cQ 3 [],h4,h2⟩,h3⟩
end
theorem ee {R:Prop}:∀ {l:List Prop},lE l R↔(∀ p ∈ l,p)/\R
 | []=>by simp [lE]
 | p :: l=>by simp only [lE,ee,List.forall_mem_cons,and_assoc]
theorem bV {R:Prop}:∀ {l:List Prop},gI l R↔((∀ p ∈ l,p)->R)
 | []=>by simp [gI]
 | p :: l=>by simp only [gI,bV,List.forall_mem_cons,and_imp]
section
variable {P:Program} {T:List (Nat × TI)} {G:Gl} {O:cC} {Q:Exit->Act->World->Prop} {n:Nat} {ro:Lv} {l:List Oper} {ρ0:List RE} {w0:World}
theorem vf {ρ:List RE} {H:AH} {w:World} (hR:Rep G ρ H w) {a:AV} {v:Value} (h:Rd (cx G ρ w) ρ a v) {s:Sh} {xs:List (den s)} (hv:a.vw H = .fz s xs):∃ A m c,v = .slice A m c/\(A.isNone=true->xs=[]):=by
 cases a <;> simp only [AV.vw] at hv <;> try cases hv
 case fz=>
  have h:Pd (cx G ρ w) (.fz s xs) v:=h
  cases h with
  | fz h1 h2 h3 h4 h5=>
   refine ⟨_,_,_,rfl,fun hn=>?_⟩
   rcases h5 with h5 | ⟨A,rfl,_⟩
   ·exact h5
   ·cases hn
 case own id=>
  split at hv
  ·rename_i t s' ys hH
   cases hv
   rcases h with ⟨g,cap,len,z,h,rfl⟩ | ⟨h,A,rfl⟩
   ·exact ⟨_,_,_,rfl,fun hn=>by cases hn⟩
   ·refine ⟨_,_,_,rfl,fun _=>?_⟩
    rcases bb hR hH with ⟨_,h2⟩ | ⟨g,cap,cells,sp,h2,_⟩
    ·exact h2
    ·rw [h] at h2; cases h2
  ·cases hv
 case sub id o k=>
  split at hv
  ·rename_i t s' ys hH
   cases hv
   rcases h with ⟨g,cap,L,z,h,_,rfl⟩ | ⟨h,rfl,rfl,A,rfl⟩
   ·exact ⟨_,_,_,rfl,fun hn=>by cases hn⟩
   ·exact ⟨_,_,_,rfl,fun _=>by simp⟩
  ·cases hv
theorem xG (hT:aD P G.shp T) {ρ:List RE} {H:AH} {w:World} (hR:Rep G ρ H w) {fr:AFr} {F:Fr} (hf:bK (cx G ρ w) ρ fr F) {op:Op} {s:Sh} {xs:List (den s)} {ne:Bool} {ty:TypeId} (h:Bc T H fr op=some ⟨s,xs,ne⟩):∃ b,ao P n F w op ty (.bool (Av ne b).val) w/\(b=true->xs=[]):=by
 unfold Bc at h
 split at h
 ·rename_i bo t x y t'
  have key:∀ {a:AV} {e so sz z},aE T t=some ⟨.sl e so,sz,z⟩->bT fr x=some (.one (.c a))->bT fr y=some (.one (.c (.em true)))->a.vw H = .fz s xs->∃ A m c,ev F x=some (.slice A m c)/\ev F y=some (.slice none 0 0)/\P.underlying t=some (.slice e)/\(A.isNone=true->xs=[]):=by
   intro a e so sz z hft hx hy hv
   obtain ⟨va,h1,h2⟩:=ae hf hx
   obtain ⟨vb,h3,h4⟩:=ae hf hy
   obtain ⟨A,m,c,rfl,hn⟩:=vf hR h2 hv
   have h4:Pd (cx G ρ w) (.em true) vb:=h4
   cases h4 with
   | @em b A' he=>
    cases A' with
    | none=>exact ⟨A,m,c,h1,h3,(hT _ _ hft).2.1,hn⟩
    | some _=>cases he
  split at h
  ·rename_i e so sz z a hft hx hy
   split at h
   ·rename_i s' ys hv
    cases h
    obtain ⟨A,m,c,h1,h2,h3,h4⟩:=key hft hx hy hv
    exact ⟨A.isNone,R.vj h1 h2 h3,h4⟩
   ·cases h
  ·rename_i e so sz z a hft hx hy
   split at h
   ·rename_i s' ys hv
    cases h
    obtain ⟨A,m,c,h1,h2,h3,h4⟩:=key hft hx hy hv
    exact ⟨A.isNone,R.wX h1 h2 h3,h4⟩
   ·cases h
  ·cases h
 ·cases h
theorem fZ {k:Int} {ok:Bool} {K:TV->Prop}:∀ {l:List (Int × AV)},na k ok K l->K (match lookF k l with
  | some a=>sG ok a true
  | none=>sG ok .nf false)
 | [],h=>h
 | (j,a) :: r,h=>by
  simp only [lookF]
  by_cases hk:k=j
  ·rw [if_pos hk]; exact h.1 hk
  ·rw [if_neg hk]; exact fZ (h.2 hk)
theorem oG (hT:aD P G.shp T) {ρ:List RE} {H:AH} {w:World} (hR:Rep G ρ H w) {fr:AFr} {F:Fr} (hf:bK (cx G ρ w) ρ fr F) {op:Op} {m:MpR} {ty:TypeId} (h:mapA T H fr op=some m):∃ v,ao P n F w op ty v w/\Rt (cx G ρ w) ρ (match lookF m.k m.l with
  | some a=>sG m.ok a true
  | none=>sG m.ok .nf false) v:=by
 unfold mapA at h
 split at h
 ·rename_i t x y ok
  split at h
  ·rename_i id k hft hx hy
   split at h
   ·rename_i l hO2
    cases h
    obtain ⟨hm,hk,_,hz⟩:=(hT _ _ hft).2
    obtain ⟨va,h1,h2⟩:=ae hf hx
    obtain ⟨vb,h3,h4⟩:=ae hf hy
    cases h4 with | int=>
    obtain ⟨g,hg,rfl⟩:=h2
    obtain ⟨r',hr',hor⟩:=hR.at_ (aN hO2 (by simp))
    rw [hg] at hr'; cases hr'
    obtain ⟨g',e,a,c,k1,k2,k3⟩:=hor
    cases e
    have hrun:=R.ry (P:=P) (n:=n) (ty:=ty) ok h1 h3 hm hk (hz rfl) k1 k2
    refine ⟨_,hrun,?_⟩
    have k4:=k3 k
    dsimp only
    cases hgm:getM k a.toList <;> cases hfk:lookF k l <;> rw [hgm,hfk] at k4
    ·cases ok with
     | false=>exact (rfl:(_:Value)=_)
     | true=>exact ⟨_,rfl,.cons rfl (.cons (Pd.bool (e:=.lit false)) .nil)⟩
    ·exact k4.elim
    ·exact k4.elim
    ·cases ok with
     | false=>exact k4
     | true=>exact ⟨_,rfl,.cons k4 (.cons (Pd.bool (e:=.lit true)) .nil)⟩
   ·cases h
  ·cases h
 ·cases h
theorem kX {l:List Oper} {fr:AFr} {j:Nat} {w:Bool}:∀ {grp:List Oper} {us:List Nat},qJ l fr j w us grp=true->∀ o ∈ grp,dM fr o.dst=true
 | [],_,_,o,ho=>by cases ho
 | x :: r,us,h,o,ho=>by
  simp only [qJ,Bool.and_eq_true] at h
  rcases List.mem_cons.1 ho with rfl | ho
  ·exact h.1.1
  ·exact kX h.2 o ho
theorem sj {n j:Nat} {w:Bool}:∀ {grp:List Oper},eR n grp=true->eR n (grp.map (vO j w))=true
 | [],h=>h
 | x :: r,h=>by
  simp only [eR,List.map_cons,Bool.and_eq_true] at h ⊢
  refine ⟨?_,sj h.2⟩
  have e:(vO j w x).dst=x.dst:=by unfold vO; rw [Bool.cond_eq_ite]; split <;> first | rfl | (split <;> rfl)
  rw [e]; exact h.1
theorem gX (hT:aD P G.shp T) (hO:aW P G.shp O) {K:AFr->AH->Prop} (hK:∀ fr H F w,K fr H->St G ro ρ0 w0 fr H F w->WX Q n .normal F w) :
  ∀ (m:Nat) (ops:List Oper) (fr:AFr) (H:AH) (F:Fr) (w:World),eR n ops=true->wpOps T O ro l K m ops fr H->St G ro ρ0 w0 fr H F w->WO P Q n l ops F w
 | 0,_,_,_,_,_,_,h,_=>h.elim
 | _+1,[],fr,H,F,w,_,h,hs=>WO.nil (hK fr H F w h hs)
 | m+1,o :: rest,fr,H,F,w,hd,h,hs=>by
  have ih:=gX hT hO hK m
  have hs0:=hs
  obtain ⟨ρ,hS,hR,hf⟩:=hs
  have hdo:=eT hd o (by simp)
  have hdr:eR n rest=true:=by simp only [eR,Bool.and_eq_true] at hd; exact hd.2
  obtain ⟨dst,op,ty,pos,af,g⟩:=o
  simp only [wpOps] at h
  split at h
  ·-- no guard
   split at h
   ·-- an element of what nobody writes
    rename_i s xs i hat
    unfold FR at hat
    split at hat
    ·rename_i t x y
     split at hat
     ·rename_i s1 xs1 b s2 hx hy hsl
      split at hat
      ·rename_i i' hdc hix
       cases hat
       have hss:s2=s:=of_decide_eq_true hdc
       subst hss
       obtain ⟨h0,h1,h2⟩:=h
       obtain ⟨va,h3,h4⟩:=ae hf hx
       obtain ⟨vb,h5,h6⟩:=ae hf hy
       obtain ⟨k,rfl⟩:=iA hix h6
       obtain ⟨e,hu,_,_,hsz,_⟩:=qN hT hsl
       obtain ⟨j,rfl⟩:=Int.eq_ofNat_of_zero_le h0
       have hj:j<xs.length:=by omega
       have hxj:=List.getElem?_eq_getElem hj
       obtain ⟨A,kk,rfl,_,hfe,us,hus⟩:=vS (ρ:=ρ) h4 hxj
       have h7:=bV.1 (h2 _ (by rw [Int.toNat_natCast]; exact hxj)) hus.gF
       refine WO.y (φ:=fun v w'=>v = .pointer (some (A.add (j*s2.size)))/\w' = w) (.inl ⟨_,_,R.eo h3 h5 hu hsz rfl hj,rfl,rfl⟩) hdo fun v w' ⟨e1,e2⟩=>?_
       subst e1; subst e2
       refine ih rest _ H _ _ hdr h7 ⟨ρ,hS,hR,?_⟩
       cases dst with
       | some d=>exact .cons ⟨rfl,hfe⟩ hf
       | none=>exact hf
      ·cases hat
     ·cases hat
    ·cases hat
   ·split at h
    ·-- a comparison to nil
     rename_i s xs ne hnl
     obtain ⟨b,hrun,hb⟩:=xG (n:=n) (ty:=ty) hT hR hf hnl
     refine WO.y (φ:=fun v w'=>v = .bool (Av ne b).val/\w' = w) (.inl ⟨_,_,hrun,rfl,rfl⟩) hdo fun v w' ⟨e1,e2⟩=>?_
     subst e1; subst e2
     refine ih rest _ H _ _ hdr (h b hb) ⟨ρ,hS,hR,?_⟩
     cases dst with
     | some d=>exact .cons ⟨rfl,Pd.bool⟩ hf
     | none=>exact hf
    split at h
    ·-- a map of functions
     rename_i m0 hmp
     obtain ⟨v0,hrun,hv0⟩:=oG (n:=n) (ty:=ty) hT hR hf hmp
     refine WO.y (φ:=fun v w'=>v=v0/\w' = w) (.inl ⟨_,_,hrun,rfl,rfl⟩) hdo fun v w' ⟨e1,e2⟩=>?_
     subst e1; subst e2
     refine ih rest _ H _ _ hdr (fZ h) ⟨ρ,hS,hR,?_⟩
     cases dst with
     | some d=>exact .cons ⟨rfl,hv0⟩ hf
     | none=>exact hf
    split at h
    ·-- a step that changes nothing
     rename_i r hpv
     obtain ⟨hob,h⟩:=ee.1 h
     refine WO.y (jR (ty:=ty) hT hO hR hf hpv hob) hdo fun v w1 ⟨hk1,hv1,hfc1⟩=>?_
     refine ih rest _ H _ _ hdr (bV.1 h hfc1) ⟨ρ,hS.trans (Stp.kp hR hk1),hR.kp hk1,?_⟩
     cases dst with
     | some d=>exact .cons ⟨rfl,hv1⟩ (hf.kp hk1)
     | none=>exact hf.kp hk1
    ·split at h
     ·rename_i r hst hsv
      obtain ⟨hob,h⟩:=ee.1 h
      have key:∀ v w',cU G ro ρ w r F v w' -> WO P Q n l rest (eb dst v F) w':=by
       rintro v w' ⟨ρ',k1,k2,k3,k4,k5⟩
       refine ih rest _ _ _ _ hdr (bV.1 h k5) ⟨ρ',hS.trans k1,k2,?_⟩
       cases dst with
       | some d=>exact .cons ⟨rfl,k4⟩ k3
       | none=>exact k3
      rcases wk (ty:=ty) hT hO hR hf hsv hob with hy | ⟨e,w',hsk,haf⟩
      ·exact WO.y hy hdo key
      ·cases dst with
       | some d=>simp [ye,e] at hst
       | none=>exact WO.s hsk (key _ _ haf)
     ·exact h.elim
  ·-- a guard
   rename_i g0 j wt
   split at h
   ·rename_i r hgr
    obtain ⟨hob,h⟩:=ee.1 h
    have:=rk (tl:=[]) (G:=G) (Q:=Q) (n:=n) (l:=l) (ρ:=ρ) (H:=H) (gl hT hO m) hgr (fun _ _ e=>by cases e) hob hd hR hf fun w1 hk1 hfc1 hFd hfd hf1 hbd hdt=>by
     rw [List.append_nil]
     exact ih r.tail _ H _ _ hdt (bV.1 h hfc1) ⟨ρ,hS.trans (Stp.kp hR hk1),hR.kp hk1,.cons ⟨rfl,Pd.bool⟩ hf1⟩
    rwa [List.append_nil] at this
   ·split at h
    ·-- a group,in two ways
     rename_i r hgs
     obtain ⟨hon,hoff'⟩:=h
     unfold CT at hgs
     split at hgs
     ·rename_i t hj
      split at hgs
      ·rename_i e grp pk tail he hsp
       split at hgs
       ·rename_i z x y d hck hpk hpd
        cases hgs
        simp only [Bool.and_eq_true] at hck
        obtain ⟨⟨hoffB,hpg⟩,hfresh⟩:=hck
        obtain ⟨hops,hip⟩:=gW hsp
        replace hpg:=mZ hpg
        replace he:=bI he
        rw [hops] at hd
        rw [hops]
        obtain ⟨vt,hvt,hvr⟩:=cN hf he
        cases hvr with | bool=>
        obtain ⟨hd1,hd2⟩:=gL.1 hd
        have hd3:eR n tail=true:=by simp only [eR,Bool.and_eq_true] at hd2; exact hd2.2
        have hdd:Nat.blt d n=true:=eT hd2 pk (by simp) d hpd
        rw [hpd] at hfresh
        have hFd:look F d=none:=dr hf hfresh d rfl
        obtain ⟨dst,op,ty,pos,af,pg⟩:=pk
        simp only at hpk hpd hpg hon hoff'
        subst hpk; subst hpd; subst hpg
        have hz:z = .tmp t:=by
         cases z <;> simp only [iq] at hip
         ·rw [Nat.eq_of_beq_eq_true hip]
         all_goals cases hip
        subst hz
        by_cases hew:e.val=wt
        ·rw [hew] at hvt
         refine WO.split (t:=t) hj hvt (fun o ho d' hd' e=>?_) (ih _ _ H _ _ ?_ (hon ((BE.cb e wt).2 hew)) ⟨ρ,hS,hR,hf⟩)
         ·have:=dr hf (kX hoffB o ho) d' hd'
          rw [e,hvt] at this; cases this
         ·refine gL.2 ⟨sj hd1,?_⟩
          simp only [eR,Bool.and_eq_true] at hd2 ⊢
          exact hd2
        ·have hew':e.val = !wt:=by revert hew; cases e.val <;> cases wt <;> simp
         have hoff':=hoff' ((BE.cb e _).2 hew')
         split at hoff'
         ·rename_i v hv
          refine fo (us:=[]) hf hj hvt hew' hoffB hd1 (by simp) ?_
          obtain ⟨u,hu,hr⟩:=ae hf hv
          have k:=ih tail ((d,v) :: fr) H ((d,u) :: F) _ hd3 hoff' ⟨ρ,hS,hR,.cons ⟨rfl,hr⟩ hf⟩
          have hl:ev F (.tmp t)=some (.bool e.val):=hvt
          cases wt with
          | true=>exact WO.v (R.pM hl hew' hu) hdd k
          | false=>exact WO.v (R.pP hl hew' hu) hdd k
         ·exact hoff'.elim
       ·cases hgs
      ·cases hgs
     ·cases hgs
    ·exact h.elim
def cr (n:Nat):Code->Bool
 | .seq a b=>cr n a && cr n b
 | .cond _ a b=>cr n a && cr n b
 | .block _ a=>cr n a
 | .loop a=>cr n a
 | .scope a=>cr n a
 | .region _ ops _=>eR n ops.toList
 | _=>true
theorem qb {c:Cx} {ρ:List RE} {fr:AFr} {F:Fr} (h:bK c ρ fr F):∀ l:List Nat,∃ F2,bK c ρ (bm fr l) F2/\∀ i v,look F2 i=some v->look F i=some v
 | []=>⟨[],.nil,fun i v h=>by cases h⟩
 | t :: r=>by
  obtain ⟨F2,h1,h2⟩:=qb h r
  unfold bm
  split
  ·rename_i v hv
   obtain ⟨u,h3,h4⟩:=cN h hv
   refine ⟨(t,u) :: F2,.cons ⟨rfl,h4⟩ h1,fun i x hx=>?_⟩
   rw [au] at hx
   split at hx
   ·rename_i e; subst e; cases hx; exact h3
   ·exact h2 i x hx
  ·exact ⟨F2,h1,h2⟩
def tV (P:Program) (T:List (Nat × TI)) (G:Gl) (O:cC) (n:Nat) (ro:Lv) (ρ0:List RE) (w0:World):Prop:=
 ∀ (Q:Exit->Act->World->Prop) (k0 id:Nat) (L:List (Nat × LI)) (ops:Array Oper) (K:Exit->AFr->AH->Prop) (fr:AFr) (H:AH) (F:Fr) (w:World),eR n ops.toList=true->nO T O ro k0 L (.region id ops true) K fr H->St G ro ρ0 w0 fr H F w ->
  (∀ fr H F w,K .normal fr H->St G ro ρ0 w0 fr H F w->WX Q n .normal F w)->WC P Q n (.region id ops true) F w
theorem rB (hT:aD P G.shp T) (hO:aW P G.shp O) (hD:tV P T G O n ro ρ0 w0) {k0:Nat} (hk0:ρ0.length<=k0) {L:List (Nat × LI)} :
  ∀ (c:Code) (Q:Exit->Act->World->Prop) (K:Exit->AFr->AH->Prop) (fr:AFr) (H:AH) (F:Fr) (w:World),cr n c=true->nO T O ro k0 L c K fr H->St G ro ρ0 w0 fr H F w ->
   (∀ e fr H F w,K e fr H->St G ro ρ0 w0 fr H F w->WX Q n e F w)->WC P Q n c F w:=by
 intro c
 induction c <;> intro Q K fr H F w hc h hs hK
 case skip=>exact WC.skip (hK _ _ _ _ _ h hs)
 case seq a b iha ihb=>
  simp only [cr,Bool.and_eq_true] at hc
  refine WC.seq (iha _ _ fr H F w hc.1 h hs fun e fr H F w h hs=>?_)
  cases e with
  | normal=>exact WX.next (ihb _ _ fr H F w hc.2 h hs hK)
  | _=>exact hK _ fr H F w h hs
 case cond c a b iha ihb=>
  simp only [cr,Bool.and_eq_true] at hc
  obtain ⟨ρ,hS,hR,hf⟩:=hs
  have hs:St G ro ρ0 w0 fr H F w:=⟨ρ,hS,hR,hf⟩
  simp only [nO] at h
  split at h
  ·rename_i he
   obtain ⟨v,h1,h2⟩:=ae hf (bI he)
   cases h2 with | bool=>
   exact WC.Dk h1 (iha _ _ fr H F w hc.1 h hs hK)
  ·rename_i he
   obtain ⟨v,h1,h2⟩:=ae hf (bI he)
   cases h2 with | bool=>
   exact WC.DM h1 (ihb _ _ fr H F w hc.2 h hs hK)
  ·rename_i e _ _ he
   obtain ⟨v,h1,h2⟩:=ae hf (bI he)
   cases h2 with | bool=>
   exact WC.cond h1 (fun hv=>iha _ _ fr H F w hc.1 (h.1 ((BE.cb e true).2 hv)) hs hK) (fun hv=>ihb _ _ fr H F w hc.2 (h.2 ((BE.cb e false).2 hv)) hs hK)
  ·exact h.elim
 case block i a iha=>
  refine WC.block (iha _ _ fr H F w hc h hs fun e fr H F w h hs=>?_)
  cases e with
  | exit j=>
   simp only at h
   intro x hx
   show (if j=i then Q .normal x w else Q (.exit j) x w)
   cases hb:Nat.beq j i <;> rw [hb] at h
   ·have:j≠i:=by rintro rfl; simp at hb
    rw [if_neg this]
    exact hK _ fr H F w h hs x hx
   ·rw [if_pos (Nat.eq_of_beq_eq_true hb)]
    exact hK _ fr H F w h hs x hx
  | _=>exact hK _ fr H F w h hs
 case loop a iha=>
  simp only [nO] at h
  split at h
  ·rename_i I hI
   split at h
   ·rename_i m l _
    intro x hx
    refine kj (fun a' w m=>∃ fr H F,Bi (nO T O ro k0 L a) K l m fr H/\M n F a' /\ St G ro ρ0 w0 fr H F w) id m ⟨fr,H,F,h,hx,hs⟩ fun m a' w hD=>?_
    obtain ⟨fr,H,F',hu,hM,hst⟩:=hD
    cases m with
    | zero=>exact hu.elim
    | succ m=>
     obtain ⟨ρ',hS,hR,hf⟩:=hst
     obtain ⟨F2,hf2,hsub⟩:=qb hf l
     exact iha _ _ _ _ F2 w hc hu ⟨ρ',hS,hR,hf2⟩ (fun e fr H F w h hs=>by
      cases e with
      | normal=>exact fun x hx=>⟨m,⟨fr,H,F,h,hx,hs⟩,Nat.lt_succ_self m⟩
      | _=>exact hK _ fr H F w h hs) a' (hM.sub hsub)
   obtain ⟨s0,h1,h2,h3⟩:=h
   obtain ⟨hr0,h3⟩:=LI.rH.1 h3
   intro x hx
   obtain ⟨F2,h7,h8⟩:=ox hT hk0 hs h1
   refine kj (fun a w s=>I.J s/\I.rel s0 s/\∃ F,M n F a/\St G ro ρ0 w0 (I.F s).1 (I.F s).2 F w) I.μ s0 ⟨h2,hr0,F2,hx.sub h8,h7⟩ fun s a' w hD=>?_
   obtain ⟨hJ,hrl,F',hM,hst⟩:=hD
   exact iha _ _ _ _ F' w hc (LI.yN.1 (h3 s hJ) hrl) hst (fun e fr H F w h hs=>by
    cases e with
    | normal=>
     obtain ⟨s',h4,h5,h6⟩:=h
     obtain ⟨h9,h6⟩:=LI.rH.1 h6
     obtain ⟨F2,h7,h8⟩:=ox hT hk0 hs h4
     exact fun x hx=>⟨s',⟨h5,h9,F2,hx.sub h8,h7⟩,h6⟩
    | _=>exact hK _ fr H F w h hs) a' hM
  ·exact h.elim
 case exit i=>exact WC.exit (hK _ _ _ _ _ h hs)
 case ret=>exact WC.ret (hK _ _ _ _ _ h hs)
 case scope a iha=>
  refine fun x hx=>tF (iha (Exit.noGoto Q) _ fr H F w hc h hs (fun e fr H F w h hs=>?_) x hx)
  cases e with
  | goto i=>exact h.elim
  | _=>exact hK _ fr H F w h hs
 case label i=>exact WC.label (hK _ _ _ _ _ h hs)
 case region i ops b=>
  cases b with
  | true=>exact hD Q k0 i L ops K fr H F w hc h hs fun fr H F w=>hK _ fr H F w
  | false=>
   have e:ops=ops.toList.toArray:=by simp
   rw [e]
   exact WC.region (gX hT hO (fun fr H F w=>hK _ fr H F w) _ _ fr H F w hc h hs)
 all_goals exact h.elim
end
def BB (n:Nat) (ps:List (Nat × Nat)):Nat->Nat->List Nat
 | _,0=>[]
 | k,m+1=>rE n ps k :: BB n ps (k+1) m
def fT:AO->Bool
 | .row _ _ _=>true
 | _=>false
def zI (H0:AH) (ps:List (Nat × Nat)):Nat->Nat->List Nat
 | _,0=>[]
 | k,m+1=>(bif fT (getO H0 k) then rE k ps k else k) :: zI H0 ps (k+1) m
def yh (H0:AH) (k0:Nat) (H:AH) (l rs:List TV1) (H':AH):Nat->List (Nat × Nat)->List Nat
 | 0,ps=>zI H0 ps 0 k0++BB H.length ps k0 (H'.length - k0)
 | f+1,ps=>yh H0 k0 H l rs H' f (rQ l rs++xt H (zI H0 ps 0 k0++BB H.length ps k0 (H'.length - k0)) H')
def Dd (T:List (Nat × TI)) (H0:AH) (k0:Nat) (fn:Func) (rs:List TV1) (H':AH) (fr:AFr) (H:AH):List Prop:=
 match lC T fr H fn.results.toList with
 | some l=>match yh H0 k0 H l rs H' 3 [] with
  | σ=>same (iu H.length σ)++pJ H H.length σ l rs++Ck T H H.length σ σ H'
 | none=>[False]
def xY (T:List (Nat × TI)) (H0:AH) (k0:Nat) (fn:Func) (rs:List TV1) (H':AH) (fr:AFr) (H:AH):Prop:=gS (Dd T H0 k0 fn rs H' fr H)
def Ft (b:Bool) (T:List (Nat × TI)) (O:cC) (L:List (Nat × LI)) (fn:Func) (args:List TV1) (H:AH) (rs:List TV1) (H':AH):Prop:=
 match fn.body with
 | some c=>gI (yZ args) (nO T O (Ef (bif b then H.length else 0)) H.length L c (fun e fr K=>match e with
  | .ret=>xY T (bif b then [] else H) H.length fn rs H' fr K
  | .normal=>xY T (bif b then [] else H) H.length fn rs H' fr K
  | _=>False) (rR 0 args) H)
 | none=>False
def zA:=Ft false
section
variable {P:Program} {T:List (Nat × TI)} {G:Gl} {O:cC} {n:Nat} {ρ:List RE} {H:AH} {w:World} {fr:AFr} {F:Fr}
theorem ln {c:Cx}:∀ {args:List TV1} {vs:List Value} {k:Nat},All2 (bt c ρ) args vs->bK c ρ (rR k args) (oP k vs)
 | [],_,_,h=>by cases h; exact .nil
 | _ :: _,_,_,h=>by cases h with | cons h1 h2=>exact .cons ⟨rfl,h1⟩ (ln h2)
def yB (tm:Array Value):ResultVar->Sem Value
 | .tmp t=>pure (tm.getD t undef)
 | .cell a t=>do loadVar t (<- asAddr (tm.getD a undef))
theorem vJ {t:TypeId} {v u:Value} (h:ao P 0 [] w (.load t (.const v)) 0 u w):(do loadVar t (<- asAddr v)).run P w = .ok u w:=by
 replace h:=h ⟨#[],[]⟩ none "" #[] none ⟨rfl,rfl,fun _ _ h=>by cases h⟩
 have e:(⟨#[],[]⟩:Act).eval (.const v)=v:=rfl
 simp only [execOp,e,Instr.loadAt] at h
 cases v
 case pointer a=>
  cases a with
  | none=>simp [Instr.sureAddr] at h
  | some a=>
   simp only [Instr.sureAddr,asAddr,pure_bind] at h ⊢
   rw [Sem.run_bind] at h
   cases hr:(loadVar t a).run P w with
   | ok x w'=>rw [hr] at h; simp at h; rw [h.1,h.2]
   | halt x w'=>rw [hr] at h; simp at h
 all_goals simp [Instr.sureAddr] at h
theorem lf (hT:aD P G.shp T) (hR:Rep G ρ H w) (hf:bK (cx G ρ w) ρ fr F) {a:Act} (hM:M n F a):∀ {rs:List ResultVar} {l:List TV1},lC T fr H rs=some l ->
  ∃ us,All2 (bt (cx G ρ w) ρ) l us/\(rs.mapM (yB a.tmps)).run P w = .ok us w
 | [],l,h=>by cases h; exact ⟨[],.nil,rfl⟩
 | .tmp t :: r,l,h=>by
  simp only [lC] at h
  split at h
  ·rename_i tv l' ht hl
   cases h
   obtain ⟨us,h1,h2⟩:=lf hT hR hf hM hl
   obtain ⟨v,h3,h4⟩:=cN hf ht
   refine ⟨v :: us,.cons h4 h1,?_⟩
   have h5:=hM.at_ h3
   rw [List.mapM_cons]
   simp [yB,h2,h5]
  ·cases h
 | .cell p t :: r,l,h=>by
  simp only [lC] at h
  split at h
  ·rename_i ap l' ht hl
   split at h
   ·rename_i tv fc hld
    cases h
    obtain ⟨us,h1,h2⟩:=lf hT hR hf hM hl
    obtain ⟨v,h3,h4⟩:=cN hf ht
    obtain ⟨u,h6,h7⟩:∃ u,ao P 0 [] w (.load t (.const v)) 0 u w/\Rt (cx G ρ w) ρ (.one tv) u:=by
     unfold zF at hld
     split at hld
     ·rename_i hla
      cases hld
      obtain ⟨u,h6,h7,_⟩:=iV (P:=P) (F:=[]) (n:=0) (ty:=0) (x:=.const v) hT hR h4 rfl hla (by simp)
      exact ⟨u,h6,h7⟩
     ·obtain ⟨u,h6,h7,_,_⟩:=oX (P:=P) (F:=[]) (n:=0) (ty:=0) (x:=.const v) hT hR h4 rfl hld
      exact ⟨u,h6,h7⟩
    have h8:=vJ h6
    refine ⟨u :: us,.cons h7 h1,?_⟩
    have h5:a.tmps.getD p undef=v:=(hM.2.2 p v h3).2
    rw [List.mapM_cons,Sem.run_bind]
    simp only [yB,h5,h8]
    simp [h2]
   ·cases h
  ·cases h
theorem jg {fn:Func} (hT:aD P G.shp T) (hR:Rep G ρ H w) (hf:bK (cx G ρ w) ρ fr F) {a:Act} (hM:M n F a) {l:List TV1} (h:lC T fr H fn.results.toList=some l) :
  ∃ us,All2 (bt (cx G ρ w) ρ) l us/\(results fn a.tmps).run P w = .ok (pH us) w:=by
 obtain ⟨us,h1,h2⟩:=lf hT hR hf hM h
 refine ⟨us,h1,?_⟩
 have e:results fn a.tmps=(do let vs <- fn.results.mapM (yB a.tmps); pure (if h:vs.size=1 then vs[0] else .tuple vs)):=rfl
 have e2:fn.results=fn.results.toList.toArray:=by simp
 rw [e,e2,List.mapM_toArray]
 simp only [Sem.run_bind,h2,map_eq_pure_bind,Result.andThen_ok,Sem.run_pure,bind_assoc,pure_bind]
 cases us with
 | nil=>rfl
 | cons u us=>
  cases us with
  | nil=>rfl
  | cons u2 us=>rfl
theorem nc {k i:Nat} (h:i<k):Nat.ble k i=false:=by
 rw [<- Bool.not_eq_true,Nat.ble_eq]; omega
theorem lQ {k m:Nat} (h:k<=m) (i:Nat) (hi:(Ef k).wr i=false\/(Ef k).mv i=false):i<m:=by
 have:Nat.ble k i=false:=hi.elim id id
 rw [<- Bool.not_eq_true,Nat.ble_eq] at this; omega
def mX (P:Program) (shp:TypeId->Option Sh) (T:List (Nat × TI)) (O:cC):Prop:=∀ (G:Gl) (n:Nat) (ro:Lv) (ρ0:List RE) (w0:World),G.shp=shp->(∀ i,ro.wr i=false\/ro.mv i=false->i<ρ0.length)->tV P T G O n ro ρ0 w0
theorem Sat.Bl {shp:TypeId->Option Sh} {f:Nat} {fn:Func} {args rs:List TV1} {pre:List Prop} {L:List (Nat × LI)} (hT:aD P shp T) (hO:aW P shp O) (hD:mX P shp T O) (hfn:P.funcs[f]? = some fn) (hng:(fn.name == "runtime.NumGoroutine")=false)
  (hc:(match fn.body with
   | some c=>cr fn.ntmps c && Nat.ble args.length fn.ntmps
   | none=>false)=true) (h:lF T O L fn args H rs):Sat P shp f args H ⟨pre,rs,none,false⟩:=by
 cases hb:fn.body with
 | none=>rw [hb] at hc; cases hc
 | some c=>
 rw [hb] at hc
 simp only [Bool.and_eq_true] at hc
 refine ⟨⟨fn,hfn,hng,by rw [hb]; rfl⟩,?_⟩
 intro G ρ w vs hshp hR hvs
 subst hshp
 simp only [lF,hb] at h
 have h:=bV.1 h (zC.gF hvs)
 refine lY.enter hfn hb rfl (by rw [<- hvs.length]; exact hc.2) rfl (rB hT hO (hD G _ _ ρ w rfl (lQ (by rw [<- hR.obj.length]; exact Nat.le_refl _))) (k0:=H.length) (by rw [<- hR.obj.length]; exact Nat.le_refl _) c _ _ _ H _ w hc.1 h ⟨ρ,Stp.refl _ _ _,hR,ln hvs⟩ ?_)
 intro e fr H' F w' hK hst
 obtain ⟨ρ',hS,hR',hf⟩:=hst
 have key:∀ {l},lC T fr H' fn.results.toList=some l->gS (pJ H' H'.length (iota 0 H.length) l rs)->∀ a,M fn.ntmps F a->a.defers=[]/\∃ v,(results fn a.tmps).run P w' = .ok v w' /\ ∃ x,Ending.returned v = .returned x/\∃ us,x=pH us/\Kp [] w w' /\ All2 (bt (cx G ρ w') ρ) rs us:=by
  intro l hl he a hM
  obtain ⟨us,h1,h2⟩:=jg hT hR' hf hM hl
  refine ⟨hM.1,_,h2,_,rfl,us,rfl,?_,?_⟩
  ·refine ⟨hS.ext.os,hS.ext.tape,hS.ext.output,hS.ext.size,fun b hb _=>?_⟩
   by_cases hl:live ρ b
   ·obtain ⟨i,r,h3,h4⟩:=hl
    exact (hS.pro i r (nc (by rw [hR.obj.length]; exact (List.getElem?_eq_some_iff.1 h3).1)) h3).2 b h4
   ·exact (hS.ext.old b hb hl).2
  ·have h3:=jA hR' rfl h1 (ck.1 he)
   have h4:bg ρ' (iota 0 H.length)=ρ:=by
    refine List.ext_getElem? fun i=>?_
    by_cases hi:i<H.length
    ·have h5:i<ρ.length:=by rw [<- hR.obj.length]; exact hi
     rw [List.getElem?_eq_getElem h5]
     exact bD (by have:=nn (k:=0) hi; rwa [Nat.zero_add] at this) (hS.pro i _ (nc hi) (List.getElem?_eq_getElem h5)).1
    ·rw [List.getElem?_eq_none (by simp [bg,oR]; omega),List.getElem?_eq_none (by rw [<- hR.obj.length]; omega)]
   rwa [h4] at h3
 cases e with
 | ret=>
  simp only at hK
  split at hK
  ·rename_i l hl; exact fun a ha=>key hl hK a ha
  ·exact hK.elim
 | normal=>
  simp only at hK
  split at hK
  ·rename_i l hl; exact fun a ha=>key hl hK a ha
  ·exact hK.elim
 | _=>exact hK.elim
theorem rq {H0:AH} {ps:List (Nat × Nat)}:∀ {m k:Nat},(zI H0 ps k m).length=m
 | 0,_=>rfl
 | m+1,k=>by rw [zI,List.length_cons,rq]
theorem uO {H0:AH} {ps:List (Nat × Nat)}:∀ {m k i:Nat},i<m->fT (getO H0 (k+i))=false->(zI H0 ps k m)[i]? = some (k+i)
 | 0,_,_,h,_=>absurd h (Nat.not_lt_zero _)
 | m+1,k,0,_,hr=>by
  rw [Nat.add_zero] at hr
  simp [zI,hr]
 | m+1,k,i+1,h,hr=>by
  have:=uO (ps:=ps) (m:=m) (k:=k+1) (i:=i) (Nat.lt_of_succ_lt_succ h) (by rw [show k+1+i=k+(i+1) by omega]; exact hr)
  rw [show k+(i+1)=k+1+i by omega,<- this]; rfl
theorem kS {H0:AH} {k0:Nat} {K:AH} {l rs:List TV1} {H':AH} {i:Nat} (h:i<k0) (hr:fT (getO H0 i)=false):∀ (f:Nat) (ps:List (Nat × Nat)),(yh H0 k0 K l rs H' f ps)[i]? = some i
 | 0,ps=>by
  show (zI H0 ps 0 k0++_)[i]? = _
  rw [List.getElem?_append_left (by rw [rq]; exact h)]
  have:=uO (ps:=ps) (k:=0) h (by rw [Nat.zero_add]; exact hr)
  rwa [Nat.zero_add] at this
 | f+1,ps=>kS h hr f _
theorem CQ {b:Bool} (hR:Rep G ρ H w) {i g:Nat} (hg:ρ[i]? = some (.blk g)):fT (getO (bif b then [] else H) i)=false:=by
 cases b
 ·show fT (getO H i)=false
  cases ho:getO H i with
  | row t s xs=>
   obtain ⟨r,hr,h⟩:=hR.at_ (aN ho (by simp))
   rw [hg] at hr; cases hr
   obtain ⟨_,_,h | ⟨_,_,_,_,h,_⟩⟩:=h
   ·exact absurd h.1 (by simp)
   ·cases h
  | _=>rfl
 ·show fT (getO [] i)=false
  simp [getO,fT]
theorem Sat.Au {b:Bool} {shp:TypeId->Option Sh} {f:Nat} {fn:Func} {args rs:List TV1} {pre:List Prop} {H':AH} {L:List (Nat × LI)} (hT:aD P shp T) (hO:aW P shp O) (hD:mX P shp T O) (hfn:P.funcs[f]? = some fn) (hng:(fn.name == "runtime.NumGoroutine")=false)
  (hc:(match fn.body with
   | some c=>cr fn.ntmps c && Nat.ble args.length fn.ntmps
   | none=>false)=true) (h:Ft b T O L fn args H rs H'):Sat P shp f args H ⟨pre,rs,some H',b⟩:=by
 cases hb:fn.body with
 | none=>rw [hb] at hc; cases hc
 | some c=>
 rw [hb] at hc
 simp only [Bool.and_eq_true] at hc
 refine ⟨⟨fn,hfn,hng,by rw [hb]; rfl⟩,?_⟩
 intro G ρ w vs hshp hR hvs
 subst hshp
 simp only [Ft,hb] at h
 have h:=bV.1 h (zC.gF hvs)
 refine lY.enter hfn hb rfl (by rw [<- hvs.length]; exact hc.2) rfl (rB hT hO (hD G _ _ ρ w rfl (lQ (by cases b <;> simp [hR.obj.length]))) (k0:=H.length) (by rw [<- hR.obj.length]; exact Nat.le_refl _) c _ _ _ H _ w hc.1 h ⟨ρ,Stp.refl _ _ _,hR,ln hvs⟩ ?_)
 intro e fr K F w' hK hst
 obtain ⟨ρ',hS,hR',hf⟩:=hst
 have key:xY T (bif b then [] else H) H.length fn rs H' fr K->∀ a,M fn.ntmps F a->a.defers=[]/\∃ v,(results fn a.tmps).run P w' = .ok v w' /\ ∃ x,Ending.returned v = .returned x/\∃ us,x=pH us /\
   ∃ ρ',Rep G ρ' H' w' /\ Ext ρ w ρ' w' /\ (∀ (i g:Nat),ρ[i]? = some (.blk g)->ρ'[i]? = some (.blk g))/\All2 (bt (cx G ρ' w') ρ') rs us/\(b=true->Kp [] w w' /\ ∀ (i:Nat) (rr:RE),ρ[i]? = some rr->ρ'[i]? = some rr):=by
  intro hE a hM
  unfold xY Dd at hE
  split at hE
  ·rename_i l hl
   obtain ⟨us,h1,h2⟩:=jg hT hR' hf hM hl
   replace hE:=ck.1 hE
   refine ⟨hM.1,_,h2,_,rfl,us,rfl,bg ρ' (yh (bif b then [] else H) H.length K l rs H' 3 []),?_,ot hS.ext,fun i g hg=>?_,?_,fun hb=>?_⟩
   ·exact pV hT hR' rfl (aO.1 fun p hp=>hE p (List.mem_append_left _ (List.mem_append_left _ hp))) fun p hp=>hE p (List.mem_append_right _ hp)
   ·exact bD (kS (by rw [hR.obj.length]; exact (List.getElem?_eq_some_iff.1 hg).1) (CQ hR hg) _ _) (hS.bx i g hg)
   ·exact jA hR' rfl h1 fun p hp=>hE p (List.mem_append_left _ (List.mem_append_right _ hp))
   ·subst hb
    have hlt:∀ (i:Nat) (rr:RE),ρ[i]? = some rr->i<H.length:=fun i rr h=>by rw [hR.obj.length]; exact (List.getElem?_eq_some_iff.1 h).1
    refine ⟨⟨hS.ext.os,hS.ext.tape,hS.ext.output,hS.ext.size,fun b hb _=>?_⟩,fun i rr hi=>?_⟩
    ·by_cases hl:live ρ b
     ·obtain ⟨i,r,h3,h4⟩:=hl
      exact (hS.pro i r (nc (hlt i r h3)) h3).2 b h4
     ·exact (hS.ext.old b hb hl).2
    ·exact bD (kS (hlt i rr hi) rfl _ _) (hS.pro i rr (nc (hlt i rr hi)) hi).1
  ·exact (show False from hE).elim
 cases e with
 | ret=>exact fun a ha=>key hK a ha
 | normal=>exact fun a ha=>key hK a ha
 | _=>exact hK.elim
end
theorem dA:∀ {ds:List DV} {i:Nat},mQ ds i=ds[i]?
 | [],_=>rfl
 | _ :: _,0=>rfl
 | _ :: r,i+1=>by simpa [mQ] using dA (ds:=r) (i:=i)
theorem b_ {sl:List Nat}:∀ {ds:List DV} {k j:Nat},j ∈ bM sl k ds↔∃ i a,j=k+i/\ds[i]? = some a/\a.d ∈ sl
 | [],k,j=>by simp [bM]
 | a :: r,k,j=>by
  have ih:=b_ (sl:=sl) (ds:=r) (k:=k+1) (j:=j)
  have key:(∃ i b,j=k+i/\(a :: r)[i]? = some b/\b.d ∈ sl)↔(j=k/\a.d ∈ sl)\/j ∈ bM sl (k+1) r:=by
   rw [ih]
   constructor
   ·rintro ⟨i,b,h1,h2,h3⟩
    cases i with
    | zero=>simp at h2; subst h2; exact .inl ⟨h1,h3⟩
    | succ i=>exact .inr ⟨i,b,by omega,by simpa using h2,h3⟩
   ·rintro (⟨h1,h2⟩ | ⟨i,b,h1,h2,h3⟩)
    ·exact ⟨0,a,by omega,rfl,h2⟩
    ·exact ⟨i+1,b,by omega,by simpa using h2,h3⟩
  rw [key,show bM sl k (a :: r)=(bif aQ a.d sl then k :: bM sl (k+1) r else bM sl (k+1) r) from rfl]
  cases hm:aQ a.d sl
  ·have:a.d ∉ sl:=fun h=>by rw [aF.2 h] at hm; cases hm
   simp [this]
  ·simp [aF.1 hm]
def tP (ds:List DV) (ch:List (Nat × Bool)):Prop:=∀ q ∈ ch,∃ a e,ds[q.1]? = some a/\a.v=one (.bool e)/\e.val=q.2
theorem jy {ds:List DV}:∀ {ch:List (Nat × Bool)} {g:BE},xC ds ch=some g->(g.val=true↔tP ds ch)/\∀ q ∈ ch,∃ a e,ds[q.1]? = some a/\a.v=one (.bool e)
 | [],g,h=>by cases h; simp [BE.val,tP]
 | (j,wt) :: r,g,h=>by
  simp only [xC,dA] at h
  split at h
  ·rename_i a g' h1 h2
   split at h
   ·rename_i e he
    cases h
    obtain ⟨ih1,ih2⟩:=jy h2
    have he:=Option.some.inj (bI he)
    refine ⟨?_,fun q hq=>?_⟩
    ·have e1:tP ds ((j,wt) :: r)↔e.val=wt/\tP ds r:=by
      constructor
      ·intro h
       refine ⟨?_,fun q hq=>h q (by simp [hq])⟩
       obtain ⟨a',e',k1,k2,k3⟩:=h (j,wt) (by simp)
       simp only at k1 k3
       rw [h1] at k1; cases k1
       rw [he] at k2
       cases k2
       exact k3
      ·rintro ⟨k1,k2⟩ q hq
       rcases List.mem_cons.1 hq with rfl | hq
       ·exact ⟨a,e,h1,he,k1⟩
       ·exact k2 q hq
     rw [e1,<- ih1]
     cases wt <;> simp [BE.val]
    ·rcases List.mem_cons.1 hq with rfl | hq
     ·exact ⟨a,e,h1,he⟩
     ·exact ih2 q hq
   ·cases h
  ·cases h
theorem nb {ds:List DV} {i j:Nat} {a:DV} (h:(ds.take i)[j]? = some a):ds[j]? = some a/\j<i:=by
 rw [List.getElem?_take] at h
 split at h
 ·exact ⟨h,‹_›⟩
 ·cases h
theorem oo {ds:List DV} {i:Nat}:∀ {ch:List (Nat × Bool)} {g:BE},xC (ds.take i) ch=some g->xC ds ch=some g
 | [],g,h=>h
 | (j,wt) :: r,g,h=>by
  simp only [xC,dA] at h ⊢
  split at h
  ·rename_i a g' h1 h2
   rw [(nb h1).1,oo h2]
   exact h
  ·cases h
theorem lM:∀ {x y:List (Nat × Bool)},iT x y=true->∀ q ∈ x,q ∈ y
 | [],_,_,q,hq=>by simp at hq
 | (i,a) :: r,(j,b) :: l,h,q,hq=>by
  simp only [iT,Bool.and_eq_true,beq_iff_eq] at h
  have h1:=Nat.eq_of_beq_eq_true h.1.1
  rcases List.mem_cons.1 hq with rfl | hq
  ·rw [h1,h.1.2]; simp
  ·exact List.mem_cons_of_mem _ (lM h.2 q hq)
 | _ :: _,[],h,_,_=>by cases h
theorem nr {ds:List DV} {x y:List (Nat × Bool)} (h:iT x y=true) (k:tP ds y):tP ds x:=fun q hq=>k q (lM h q hq)
theorem lX (g:BE):(pK g).val=g.val:=by fun_induction pK g <;> simp_all [BE.val]
theorem qx {e:BE} {ob:List Prop} (h:∀ p ∈ fk e ob,p) (he:e.val=true):∀ p ∈ ob,p:=by
 unfold fk at h
 split at h
 ·simp
 ·split at h
  ·exact h
  ·exact ck.1 (bC h ((BE.cb e true).2 he))
theorem jK {e:BE} {ob:List Prop} (h:e.val=true->∀ p ∈ ob,p):∀ p ∈ fk e ob,p:=by
 unfold fk
 split
 ·simp
 ·split
  ·exact h rfl
  ·intro q hq
   rw [List.mem_singleton.1 hq]
   exact fun he=>ck.2 (h ((BE.cb e true).1 he))
section
variable {P:Program} {T:List (Nat × TI)} {G:Gl} {O:cC} {n k:Nat} {l:List Oper} {ρ:List RE} {H:AH} {fr:AFr} {F:Fr} {ds:List DV} {vs:Nat->Value}
def DVal (G:Gl) (ρ:List RE) (ds:List DV) (a:DV) (u:Value) (w:World):Prop:=(∀ p ∈ a.fc,p)/\(tP ds a.ch->Rt (cx G ρ w) ρ a.v u)/\(¬ tP ds a.ch->u=undef)
theorem DVal.kp {a:DV} {u:Value} {w w':World} (h:DVal G ρ ds a u w) (k:Kp [] w w'):DVal G ρ ds a u w':=⟨h.1,fun hc=>(h.2.1 hc).carry (Ext.kp k).le (gV.refl _),h.2.2⟩
theorem oL {vs:Nat->Value} {t jc:Nat} (ht:idst l jc=some t):∀ {deps:List Nat},(∀ j ∈ deps,∃ d,idst l j=some d)->(∀ j ∈ deps,idst l j=some t->j=jc)->jc ∈ deps->look (bB l F vs deps) t=some (vs jc)
 | [],_,_,h=>by simp at h
 | j :: r,h1,h2,h=>by
  obtain ⟨d,hd⟩:=h1 j (by simp)
  simp only [bB,hd]
  rw [au]
  by_cases hdt:d=t
  ·subst hdt
   rw [if_pos rfl,h2 j (by simp) hd]
  ·rw [if_neg hdt]
   refine oL ht (fun j hj=>h1 j (by simp [hj])) (fun j hj=>h2 j (by simp [hj])) ?_
   rcases List.mem_cons.1 h with rfl | h
   ·rw [hd] at ht; exact absurd (Option.some.inj ht) hdt
   ·exact h
theorem qY {w:World} {p:List DV} (hf:bK (cx G ρ w) ρ fr F):∀ {deps:List Nat},(∀ j ∈ deps,∃ b,p[j]? = some b/\idst l j=some b.d/\Rt (cx G ρ w) ρ b.v (vs j))->bK (cx G ρ w) ρ (xq p fr deps) (bB l F vs deps)
 | [],_=>hf
 | j :: r,h=>by
  obtain ⟨b,h1,h2,h3⟩:=h j (by simp)
  simp only [xq,dA,h1,bB,h2]
  exact .cons ⟨rfl,h3⟩ (qY hf fun j hj=>h j (by simp [hj]))
theorem mw {p:List DV} {ch:List (Nat × Bool)}:∀ {deps:List Nat},mP p ch deps=true->∀ j ∈ deps,∃ b,p[j]? = some b/\iT b.ch ch=true
 | [],_,j,hj=>by simp at hj
 | i :: r,h,j,hj=>by
  simp only [mP,dA,Bool.and_eq_true] at h
  rcases List.mem_cons.1 hj with rfl | hj
  ·have h1:=h.1
   split at h1
   ·exact ⟨_,by assumption,h1⟩
   ·cases h1
  ·exact mw h.2 j hj
structure DCtx (G:Gl) (ρ:List RE) (l:List Oper) (ds:List DV) (vs:Nat->Value) (p:List DV) (deps:List Nat) (w:World):Prop where
 pre:∀ (j:Nat) (a:DV),p[j]? = some a->ds[j]? = some a
 dst:∀ (j:Nat) (a:DV),ds[j]? = some a->idst l j=some a.d
 dist:∀ (i j:Nat) (a b:DV),ds[i]? = some a->ds[j]? = some b->a.d=b.d->i=j
 dep:∀ j ∈ deps,∃ a,p[j]? = some a/\DVal G ρ ds a (vs j) w
theorem DCtx.look {p:List DV} {deps:List Nat} {w:World} (h:DCtx G ρ l ds vs p deps w) {j:Nat} (hj:j ∈ deps) {a:DV} (ha:p[j]? = some a):look (bB l F vs deps) a.d=some (vs j):=by
 refine oL (h.dst j a (h.pre j a ha)) (fun i hi=>?_) (fun i hi he=>?_) hj
 ·obtain ⟨b,hb,_⟩:=h.dep i hi
  exact ⟨_,h.dst i b (h.pre i b hb)⟩
 ·obtain ⟨b,hb,_⟩:=h.dep i hi
  have:=h.dst i b (h.pre i b hb)
  rw [he] at this
  exact h.dist i j b a (h.pre i b hb) (h.pre j a ha) (Option.some.inj this).symm
theorem mf {Q:Exit->Act->World->Prop} {p:List DV} {deps:List Nat} {w:World} (h:DCtx G ρ l ds vs p deps w) {gd:Option (Nat × Bool)} {ch:List (Nat × Bool)} {gs:List Nat} {g:BE} (hc:qo p gd=some (ch,gs)) (hgs:∀ (j:Nat) (a:DV),p[j]? = some a->a.d ∈ gs->j ∈ deps) (hg:xC ds ch=some g)
  {d:Nat} {op:Op} {ty:TypeId} {pos:String} {af:Array Edge} (hd:Nat.blt d n=true)
  (on:tP ds ch->WO P Q n l [⟨some d,op,ty,pos,af,none⟩] (bB l F vs deps) w) (off:¬ tP ds ch->WO P Q n l [] ((d,undef) :: bB l F vs deps) w):WO P Q n l [⟨some d,op,ty,pos,af,gd⟩] (bB l F vs deps) w:=by
 cases gd with
 | none=>
  cases hc
  exact on fun q hq=>by simp at hq
 | some q=>
  obtain ⟨j,wt⟩:=q
  simp only [qo,dA] at hc
  split at hc
  ·rename_i a ha
   cases hc
   have hj:=hgs j a ha (by simp)
   have hl:=h.look (F:=F) hj ha
   obtain ⟨a',ha',hv⟩:=h.dep j hj
   rw [ha] at ha'; cases ha'
   obtain ⟨b,e,hb,he⟩:=(jy hg).2 (j,wt) (by simp)
   simp only at hb
   rw [h.pre j a ha] at hb; cases hb
   have hi:=h.dst j a (h.pre j a ha)
   by_cases hch:tP ds a.ch
   ·have hr:=hv.2.1 hch
    rw [he] at hr
    obtain ⟨bv,hbv⟩:∃ bv,vs j = .bool bv/\bv=e.val:=by
     have hr:Pd (cx G ρ w) (.bool e) (vs j):=hr
     generalize vs j=u at hr
     cases hr
     exact ⟨_,rfl,rfl⟩
    obtain ⟨hbv,rfl⟩:=hbv
    rw [hbv] at hl
    by_cases hw:e.val=wt
    ·exact WO.on hi hl hw (on fun q hq=>by
      rcases List.mem_append.1 hq with hq | hq
      ·exact hch q hq
      ·rw [List.mem_singleton.1 hq]
       exact ⟨a,e,h.pre j a ha,he,hw⟩)
    ·refine WO.off hi hl (by revert hw; cases e.val <;> cases wt <;> simp) hd (off fun hc=>?_)
     obtain ⟨b,e',k1,k2,k3⟩:=hc (j,wt) (by simp)
     simp only at k1 k3
     rw [h.pre j a ha] at k1; cases k1
     rw [he] at k2; cases k2
     exact hw k3
   ·have hu:=hv.2.2 hch
    rw [hu] at hl
    exact WO.BK hi hl hd (off fun hc=>hch fun q hq=>hc q (by simp [hq]))
  ·cases hc
theorem vF {x:Operand} {v:Value} (h:ev [] x=some v):ev F x=some v:=by
 cases x with
 | tmp i=>cases h
 | _=>exact h
theorem ua {p:List DV} {deps:List Nat} {w:World} (h:DCtx G ρ l ds vs p deps w) {ch:List (Nat × Bool)} (hch:tP ds ch) {t:Nat} {x y:Operand} {v:BE} (hp:vX p ch t x y=some v) (hdep:∀ (j:Nat) (a:DV),p[j]? = some a->a.d=t\/a.d ∈ Operand.sl x\/a.d ∈ Operand.sl y->j ∈ deps) {ty:TypeId} :
  ao P n (bB l F vs deps) w (.pick (.tmp t) x y) ty (.bool v.val) w:=by
 unfold vX at hp
 split at hp
 ·rename_i jc hjc
  split at hp
  ·rename_i c hc
   rw [dA] at hc
   split at hp
   ·rename_i e he hpre
    split at hp
    ·rename_i jx hjx
     split at hp
     ·rename_i a ha
      rw [dA] at ha
      split at hp
      ·rename_i hpa
       have hct:c.d=t:=by
        obtain ⟨i,b,k1,k2,k3⟩:=b_.1 (show jc ∈ bM [t] 0 p by rw [hjc]; simp)
        rw [Nat.zero_add] at k1; subst k1
        rw [hc] at k2; cases k2
        simpa using k3
       have hjd:=hdep jc c hc (.inl hct)
       have hl:=h.look (F:=F) hjd hc
       rw [hct] at hl
       have he:=Option.some.inj (bI he)
       have hlb:look (bB l F vs deps) t=some (.bool e.val):=by
        obtain ⟨c',hc',hv⟩:=h.dep jc hjd
        rw [hc] at hc'; cases hc'
        have hr:=hv.2.1 (nr hpre hch)
        rw [he] at hr
        have hr:Pd (cx G ρ w) (.bool e) (vs jc):=hr
        rw [hl]
        generalize vs jc=u at hr
        cases hr
        rfl
       -- the side that was walked
       have hon:e.val=eC x->∀ z,jk (some a.v)=some z->ev (bB l F vs deps) (cond (eC x) x y)=some (.bool z.val):=by
        intro hw z hz
        have hz:=Option.some.inj (bI hz)
        have hmem:=b_.1 (show jx ∈ bM (Operand.sl (cond (eC x) x y)) 0 p by rw [hjx]; simp)
        obtain ⟨i,b,k1,k2,k3⟩:=hmem
        rw [Nat.zero_add] at k1; subst k1
        rw [ha] at k2; cases k2
        have hjd2:=hdep jx a ha (.inr (by
         cases hx:eC x <;> rw [hx] at k3
         ·exact .inr k3
         ·exact .inl k3))
        obtain ⟨a',ha',hv⟩:=h.dep jx hjd2
        rw [ha] at ha'; cases ha'
        have hr:=hv.2.1 (nr hpa fun q hq=>by
         rcases List.mem_append.1 hq with hq | hq
         ·exact hch q hq
         ·rw [List.mem_singleton.1 hq]
          exact ⟨c,e,h.pre jc c hc,he,hw⟩)
        rw [hz] at hr
        have hr:Pd (cx G ρ w) (.bool z) (vs jx):=hr
        have hl2:=h.look (F:=F) hjd2 ha
        generalize cond (eC x) x y=o at k3 ⊢
        cases o <;> simp only [Operand.sl,List.mem_singleton,List.not_mem_nil] at k3
        rw [<- k3]
        show look _ a.d=_
        rw [hl2]
        generalize vs jx=u at hr
        cases hr
        rfl
       have hoff:∀ z,jk (bT [] (cond (eC x) y x))=some z->ev (bB l F vs deps) (cond (eC x) y x)=some (.bool z.val):=by
        intro z hz
        obtain ⟨u,k1,k2⟩:=ae (c:=cx G ρ w) (ρ:=ρ) (fr:=[]) (F:=[]) .nil (bI hz)
        have k2:Pd (cx G ρ w) (.bool z) u:=k2
        cases k2
        exact vF k1
       unfold re at hp
       cases hx:eC x <;> rw [hx] at hp hon hoff <;> simp only [cond_true,cond_false] at hon hoff hp
       ·split at hp
        ·contradiction
        ·rename_i z _ hz hz2
         cases hp
         cases hev:e.val with
         | false=>rw [show (BE.or e z).val=z.val by simp [BE.val,hev]]; exact R.pM (hev ▸ hlb) rfl (hon hev z hz)
         | true=>rw [show (BE.or e z).val=true by simp [BE.val,hev]]; exact R.pP (hev ▸ hlb) rfl (hoff _ hz2)
        ·cases hp
       ·split at hp
        ·rename_i z _ hz hz2
         cases hp
         cases hev:e.val with
         | true=>rw [show (BE.and e z).val=z.val by simp [BE.val,hev]]; exact R.pP (hev ▸ hlb) rfl (hon hev z hz)
         | false=>rw [show (BE.and e z).val=false by simp [BE.val,hev]]; exact R.pM (hev ▸ hlb) rfl (hoff _ hz2)
        ·contradiction
        ·cases hp
      ·cases hp
     ·cases hp
    ·cases hp
   ·cases hp
  ·cases hp
 ·cases hp
theorem yx (hT:aD P G.shp T) (hO:aW P G.shp O) {p:List DV} {o:Oper} {a:DV} (hs:ku T O H fr p o=some a) {w:World} (h:DCtx G ρ l ds vs p a.deps w) (hpg:∀ ch g,xC p ch=some g->xC ds ch=some g) (hob:∀ q ∈ a.ob,q) (hd:∀ d,o.dst=some d->Nat.blt d n=true) (hR:Rep G ρ H w) (hf:bK (cx G ρ w) ρ fr F) :
  o.dst=some a.d/\WO P (jd n (some a.d) [] (DVal G ρ ds a) w) n l [o] (bB l F vs a.deps) w:=by
 obtain ⟨dst,op,ty,pos,af,gd⟩:=o
 unfold ku at hs
 split at hs
 ·rename_i d ch gs hdst hch
  simp only at hdst hch
  subst hdst
  split at hs
  ·rename_i g hg
   have hg':=hpg _ _ hg
   have hdn:=hd d rfl
   split at hs
   ·-- a pick
    rename_i t x y hop
    simp only at hop
    subst hop
    split at hs
    ·rename_i v hv
     cases hs
     refine ⟨rfl,mf h hch (fun j b hj hb=>b_.2 ⟨j,b,by simp,hj,by simp [hb]⟩) hg' hdn (fun hc=>?_) (fun hc=>?_)⟩
     ·refine WO.v (ua h hc hv fun j b hj hb=>b_.2 ⟨j,b,by simp,hj,?_⟩) hdn (WO.nil (WX.gA (v:=.bool v.val) (by rw [au,if_pos rfl]) ⟨by simp,fun _=>Pd.bool,fun h=>absurd hc h⟩ (Kp.refl w)))
      simp only [qq,Operand.sl,List.mem_append,List.mem_singleton]
      rcases hb with hb | hb | hb
      ·exact .inl (.inl (.inl hb))
      ·exact .inl (.inl (.inr hb))
      ·exact .inl (.inr hb)
     ·exact WO.nil (WX.gA (v:=undef) (by rw [au,if_pos rfl]) ⟨by simp,fun h=>absurd h hc,fun _=>rfl⟩ (Kp.refl w))
    ·cases hs
   ·split at hs
    ·rename_i r hall hpv
     cases hs
     refine ⟨rfl,mf h hch (fun j b hj hb=>b_.2 ⟨j,b,by simp,hj,by simp [hb]⟩) hg' hdn (fun hc=>?_) (fun hc=>?_)⟩
     ·have hgv:=(jy hg').1.2 hc
      have hfr:=qY (l:=l) (vs:=vs) (F:=F) hf (p:=p) (deps:=bM (qq op++gs) 0 p) fun j hj=>by
       obtain ⟨b,hb,hpre⟩:=mw hall j hj
       obtain ⟨b',hb',hv⟩:=h.dep j hj
       rw [hb] at hb'; cases hb'
       exact ⟨b,hb,h.dst j b (h.pre j b hb),hv.2.1 (nr hpre hc)⟩
      refine WO.y (jR (ty:=ty) hT hO hR hfr hpv (qx hob (by rw [lX]; exact hgv))) hd fun v w' ⟨hk,hv,hfc⟩=>?_
      exact WO.nil (WX.gA (v:=v) (by simp only [eb]; rw [au,if_pos rfl]) ⟨jK fun _=>hfc,fun _=>hv,fun h=>absurd hc h⟩ hk)
     ·refine WO.nil (WX.gA (v:=undef) (by rw [au,if_pos rfl]) ⟨jK fun he=>?_,fun h=>absurd h hc,fun _=>rfl⟩ (Kp.refl w))
      rw [lX] at he
      exact absurd ((jy hg').1.1 he) hc
    ·cases hs
  ·cases hs
 ·cases hs
end
theorem aZ {a:List Nat}:∀ {l:List Nat},disj a l=true↔∀ i ∈ l,i ∉ a
 | []=>by simp [disj]
 | j :: r=>by simp only [disj,Bool.and_eq_true,aZ,List.forall_mem_cons,Bool.not_eq_true',<- Bool.not_eq_true,aF]
theorem df {n:Nat}:∀ {l:List Nat},gE n l=true↔∀ i ∈ l,i<n
 | []=>by simp [gE]
 | j :: r=>by
  have:Nat.blt j n=true↔j<n:=by rw [Nat.blt_eq]
  simp [gE,df,this]
theorem gC {σ:List Nat}:∀ {H:AH} {k p:Nat},(maskH σ k H)[p]? = (H[p]?).map fun o=>if k+p ∈ σ then o else .loc
 | [],_,_=>by simp [maskH]
 | o :: r,k,0=>by
  simp only [maskH,List.getElem?_cons_zero,Option.map_some,Nat.add_zero]
  cases h:aQ k σ with
  | true=>rw [if_pos (aF.1 h)]; rfl
  | false=>rw [if_neg fun hm=>by rw [aF.2 hm] at h; cases h]; rfl
 | o :: r,k,p+1=>by
  simp only [maskH,List.getElem?_cons_succ,gC,Nat.add_right_comm]
  rw [Nat.add_assoc]
theorem iJ {σ:List Nat}:∀ {H:AH} {k:Nat},(maskH σ k H).length=H.length
 | [],_=>rfl
 | _ :: r,k=>by simp [maskH,iJ (H:=r)]
def RC.obj (r:RC) (p:Nat) (o:AO):AO:=if p ∈ r.ch then (match r.ent with
 | some e=>e.put o
 | none=>getO r.res p) else killO r.mv o
theorem mo {r:RC}:∀ {H:AH} {k p:Nat},(fg r.ch r.mv r.ent r.res k H)[p]? = (H[p]?).map (r.obj (k+p))
 | [],_,_=>by simp [fg]
 | o :: l,k,0=>by
  simp only [fg,List.getElem?_cons_zero,Option.map_some,Nat.add_zero,RC.obj]
  cases h:aQ k r.ch with
  | true=>rw [if_pos (aF.1 h)]; cases r.ent <;> rfl
  | false=>rw [if_neg fun hm=>by rw [aF.2 hm] at h; cases h]; rfl
 | o :: l,k,p+1=>by
  simp only [fg,List.getElem?_cons_succ,mo]
  rw [Nat.add_assoc,Nat.add_comm 1 p]
theorem di {ch mv:List Nat} {e:Option Ent} {res:AH}:∀ {H:AH} {k:Nat},(fg ch mv e res k H).length=H.length
 | [],_=>rfl
 | _ :: r,k=>by simp [fg,di (H:=r)]
def killTV (mv:List Nat) (v:TV):TV:=match mv with
 | []=>v
 | _ :: _=>v.mapA (AV.aT mv)
theorem kZ {g:AV->AV} {t:Nat}:∀ {fr:AFr},lookA (eD g fr) t=(lookA fr t).map (TV.mapA g)
 | []=>rfl
 | (i,v) :: r=>by
  simp only [eD,lookA]
  cases Nat.beq i t
  ·exact kZ
  ·rfl
theorem qO {mv:List Nat} {fr:AFr} {t:Nat}:lookA (wS mv fr) t=(lookA fr t).map (killTV mv):=by
 cases mv with
 | nil=>cases h:lookA fr t <;> simp [wS,killTV,h]
 | cons a r=>exact kZ
theorem sA {d:Option Nat} {v:TV} {fr:AFr} {t:Nat}:lookA (ji d v fr) t=if d=some t then some v else lookA fr t:=by
 cases d with
 | none=>simp [ji]
 | some d=>simp only [ji,bz,Option.some.injEq]
structure RC.Fit (r:RC):Prop where
 base:r.base=r.H0.length
 le:r.base<=r.res.length
theorem aU {r:RC} {q:AFr × AH} (h:r.Fit) (hq:q.2.length=r.base):(r.app q).2.length=r.res.length:=by
 have:=h.le
 simp only [RC.app,List.length_append,di,List.length_drop]; omega
theorem cV {r:RC} {q:AFr × AH} (h:r.Fit) (hq:q.2.length=r.base) {p:Nat}:(r.app q).2[p]? = if p<r.base then (q.2[p]?).map (r.obj p) else r.res[p]?:=by
 have:=h.le
 simp only [RC.app]
 by_cases hp:p<r.base
 ·rw [if_pos hp,List.getElem?_append_left (by rw [di]; omega),mo,Nat.zero_add]
 ·rw [if_neg hp,List.getElem?_append_right (by rw [di]; omega),di,List.getElem?_drop]
  congr 1; omega
theorem dj {r:RC} {q:AFr × AH} {t:Nat}:lookA (r.app q).1 t=if r.dst=some t then some r.v else (lookA q.1 t).map (killTV r.mv):=by
 simp only [RC.app,sA,qO]
def RC.sO (r:RC) (q:AFr × AH):AFr × AH:=(q.1,q.2++List.replicate (r.res.length - r.base) .gone)
theorem c_ {r:RC} {q:AFr × AH} (h:r.Fit) (hq:q.2.length=r.base):(r.sO q).2.length=r.res.length:=by
 have:=h.le
 simp only [RC.sO,List.length_append,List.length_replicate]; omega
theorem dm {r:RC} {q:AFr × AH} (h:r.Fit) (hq:q.2.length=r.base) {p:Nat}:(r.sO q).2[p]? = if p<r.base then q.2[p]? else if p<r.res.length then some .gone else none:=by
 have:=h.le
 simp only [RC.sO]
 by_cases hp:p<r.base
 ·rw [if_pos hp,List.getElem?_append_left (by omega)]
 ·rw [if_neg hp,List.getElem?_append_right (by omega),List.getElem?_replicate]
  by_cases h2:p<r.res.length
  ·rw [if_pos h2,if_pos (by omega)]
  ·rw [if_neg h2,if_neg (by omega)]
def dI (s:Nat->Bool):Nat->List RC->AFr × AH->AFr × AH
 | _,[],q=>q
 | i,r :: rs,q=>dI s (i+1) rs (bif s i then r.app q else r.sO q)
def prg:List RC->AFr × AH->AFr × AH
 | [],q=>q
 | r :: rs,q=>prg rs (r.app q)
def cA:AFr × AH->List RC->Prop
 | _,[]=>True
 | q,r :: rs=>r.fr0=q.1/\r.H0=q.2/\r.Fit/\cA (r.app q) rs
theorem rU {s:Nat->Bool}:∀ {a b:List RC} {k:Nat} {q:AFr × AH},dI s k (a++b) q=dI s (k+a.length) b (dI s k a q)
 | [],_,_,_=>by simp [dI]
 | r :: a,b,k,q=>by
  simp only [List.cons_append,dI,rU (a:=a),List.length_cons]
  congr 1; omega
theorem ig {s s':Nat->Bool}:∀ {rs:List RC} {k:Nat} {q:AFr × AH},(∀ i,k<=i->i<k+rs.length->s i=s' i)->dI s k rs q=dI s' k rs q
 | [],_,_,_=>rfl
 | r :: rs,k,q,h=>by
  simp only [dI]
  rw [h k (Nat.le_refl _) (by simp)]
  exact ig fun i h1 h2=>h i cQ (by simp at h2 ⊢; omega)
theorem nC {s:Nat->Bool}:∀ {rs:List RC} {k:Nat} {q p:AFr × AH},cA p rs->q.2.length=p.2.length->(dI s k rs q).2.length=(prg rs p).2.length
 | [],_,_,_,_,h=>h
 | r :: rs,k,q,p,hc,h=>by
  obtain ⟨_,h2,h3,h4⟩:=hc
  have hb:=h3.base
  rw [h2] at hb
  simp only [dI,prg]
  refine nC h4 ?_
  cases s k
  ·exact (c_ h3 cQ).trans (aU h3 hb.symm).symm
  ·exact (aU h3 cQ).trans (aU h3 hb.symm).symm
theorem qH:∀ {rs:List RC} {p:AFr × AH},cA p rs->p.2.length<=(prg rs p).2.length
 | [],_,_=>Nat.le_refl _
 | r :: rs,p,hc=>by
  obtain ⟨_,h2,h3,h4⟩:=hc
  have hb:=h3.base
  rw [h2] at hb
  have:=qH h4
  rw [aU h3 hb.symm] at this
  have:=h3.le
  simp only [prg]; omega
theorem cA.uW:∀ {a b:List RC} {p:AFr × AH},cA p (a++b)↔cA p a/\cA (prg a p) b
 | [],b,p=>by simp [cA,prg]
 | r :: a,b,p=>by simp only [List.cons_append,cA,prg,cA.uW (a:=a),and_assoc]
theorem nM:∀ {a b:List RC} {p:AFr × AH},prg (a++b) p=prg b (prg a p)
 | [],_,_=>rfl
 | r :: a,b,p=>by simp only [List.cons_append,prg,nM (a:=a)]
theorem cP {mv:List Nat} {a:AV} (h:∀ i ∈ a.rids,i ∉ mv):a.aT mv=a:=by
 have key:∀ j,j ∉ mv->aQ j mv=false:=fun j hj=>by rw [<- Bool.not_eq_true,aF]; exact hj
 cases a with
 | own j=>simp [AV.aT,key j (h j (by simp [AV.rids]))]
 | sub j _ _=>simp [AV.aT,key j (h j (by simp [AV.rids]))]
 | elp j _ _=>simp [AV.aT,key j (h j (by simp [AV.rids]))]
 | _=>rfl
theorem dS {i:Nat}:∀ {l:List AV} {a:AV},a ∈ l->i ∈ a.rids->i ∈ ll l
 | [],_,h,_=>by simp at h
 | b :: r,a,h,hi=>by
  simp only [ll,List.mem_append]
  rcases List.mem_cons.1 h with rfl | h
  ·exact .inl hi
  ·exact .inr (dS h hi)
theorem jC {g:AV->AV}:∀ {l:List AV},(∀ a ∈ l,g a=a)->kF g l=l
 | [],_=>rfl
 | a :: r,h=>by simp only [kF]; rw [h a (by simp),jC fun b hb=>h b (by simp [hb])]
theorem lp {g:AV->AV} {t:TV1} (h:∀ a ∈ t.cells,g a=a):t.mapA g=t:=by
 cases t with
 | c a=>simp only [TV1.mapA]; rw [h a (by simp [TV1.cells])]
 | agg l=>exact congrArg TV1.agg (jC h)
theorem mz {i:Nat}:∀ {l:List TV1} {t:TV1} {a:AV},t ∈ l->a ∈ t.cells->i ∈ a.rids->i ∈ rV l
 | [],_,_,h,_,_=>by simp at h
 | b :: r,t,a,h,ha,hi=>by
  simp only [rV,List.mem_append]
  rcases List.mem_cons.1 h with rfl | h
  ·exact .inl (dS ha hi)
  ·exact .inr (mz h ha hi)
theorem mE {g:AV->AV}:∀ {l:List TV1},(∀ t ∈ l,∀ a ∈ t.cells,g a=a)->mH g l=l
 | [],_=>rfl
 | a :: r,h=>by simp only [mH]; rw [lp (h a (by simp)),mE fun b hb=>h b (by simp [hb])]
theorem ir {mv:List Nat} {v:TV} (h:disj mv v.rids=true):killTV mv v=v:=by
 have h:=aZ.1 h
 cases mv with
 | nil=>rfl
 | cons m r=>
  cases v with
  | one t=>exact congrArg TV.one (lp fun a ha=>cP fun i hi=>h i (dS ha hi))
  | tup l=>exact congrArg TV.tup (mE fun t ht a ha=>cP fun i hi=>h i (mz ht ha hi))
  | un=>rfl
theorem gj {mv:List Nat} {o:AO} (h:disj mv o.rids=true):killO mv o=o:=by
 have h:=aZ.1 h
 cases mv with
 | nil=>rfl
 | cons m r=>
  cases o with
  | box t cs=>exact congrArg (AO.box t) (jC fun a ha=>cP fun i hi=>h i (dS ha hi))
  | mapf l=>
   show AO.mapf (mapM _ l)=_
   rw [jv]
   congr 1
   refine (List.map_congr_left fun q hq=>?_).trans (List.map_id _)
   have e:=cP (mv:=m :: r) (a:=q.2) fun i hi=>h i (dS (List.mem_map_of_mem hq) hi)
   show (q.1,AV.aT (m :: r) q.2)=q
   rw [e]
  | _=>rfl
theorem ke {a b:List Nat} {x:AV}:(x.aT a).aT b=(x.aT b).aT a:=by
 cases x with
 | own j=>cases h1:aQ j a <;> cases h2:aQ j b <;> simp [AV.aT,h1,h2]
 | sub j _ _=>cases h1:aQ j a <;> cases h2:aQ j b <;> simp [AV.aT,h1,h2]
 | elp j _ _=>cases h1:aQ j a <;> cases h2:aQ j b <;> simp [AV.aT,h1,h2]
 | _=>rfl
theorem iv {g h:AV->AV}:∀ {l:List AV},kF g (kF h l)=kF (fun a=>g (h a)) l
 | []=>rfl
 | a :: r=>by simp [kF,iv (l:=r)]
theorem lj {g h:AV->AV} {t:TV1}:(t.mapA h).mapA g=t.mapA fun a=>g (h a):=by
 cases t with
 | c a=>rfl
 | agg l=>simp [TV1.mapA,iv]
theorem lN {g h:AV->AV}:∀ {l:List TV1},mH g (mH h l)=mH (fun a=>g (h a)) l
 | []=>rfl
 | a :: r=>by simp [mH,lj,lN (l:=r)]
theorem oU {a b:List Nat} {v:TV}:killTV b (killTV a v)=killTV a (killTV b v):=by
 cases a with
 | nil=>rfl
 | cons x r=>
  cases b with
  | nil=>rfl
  | cons y q=>
   have e:(fun z:AV=>(z.aT (x :: r)).aT (y :: q))=fun z=>(z.aT (y :: q)).aT (x :: r):=funext fun z=>ke
   cases v with
   | one t=>simp only [killTV,TV.mapA,lj,e]
   | tup l=>simp only [killTV,TV.mapA,lN,e]
   | un=>rfl
theorem s_ {g h:AV->AV} {l:List (Int × AV)}:mapM g (mapM h l)=mapM (fun a=>g (h a)) l:=by
 induction l with
 | nil=>rfl
 | cons q r ih=>obtain ⟨k,a⟩:=q; simp [mapM,ih]
theorem qu {a b:List Nat} {o:AO}:killO b (killO a o)=killO a (killO b o):=by
 cases a with
 | nil=>rfl
 | cons x r=>
  cases b with
  | nil=>rfl
  | cons y q=>
   have e:(fun z:AV=>(z.aT (x :: r)).aT (y :: q))=fun z=>(z.aT (y :: q)).aT (x :: r):=funext fun z=>ke
   cases o with
   | box t cs=>simp only [killO,AO.mapA,iv,e]
   | mapf l=>simp only [killO,AO.mapA,s_,e]
   | _=>rfl
theorem kn {a:List Nat}:killO a .gone = .gone:=by cases a <;> rfl
inductive AOq:AO->AO->Prop
 | rfl {o:AO}:AOq o o
 | map {l l':List (Int × AV)}:(∀ k,lookF k l=lookF k l')->AOq (.mapf l) (.mapf l')
theorem AOq.or {c:Cx} {ρ:List RE} {o o':AO} {r:RE} (h:AOq o o') (k:OR c ρ o r):OR c ρ o' r:=by
 cases h with
 | rfl=>exact k
 | map hl=>
  obtain ⟨g,e,a,n,h1,h2,h3⟩:=k
  exact ⟨g,e,a,n,h1,h2,fun k=>by rw [<- hl]; exact h3 k⟩
theorem AOq.trans {a b c:AO} (h:AOq a b) (k:AOq b c):AOq a c:=by
 cases h with
 | rfl=>exact k
 | map h=>
  cases k with
  | rfl=>exact .map h
  | map k=>exact .map fun x=>(h x).trans (k x)
theorem AOq.symm {a b:AO} (h:AOq a b):AOq b a:=by
 cases h with
 | rfl=>exact .rfl
 | map h=>exact .map fun x=>(h x).symm
theorem iE {g:AV->AV} {k:Int}:∀ {l:List (Int × AV)},lookF k (mapM g l)=(lookF k l).map g
 | []=>rfl
 | (j,a) :: r=>by
  simp only [mapM,lookF]
  by_cases h:k=j
  ·rw [if_pos h,if_pos h]; rfl
  ·rw [if_neg h,if_neg h]; exact iE
theorem AOq.kill {mv:List Nat} {o o':AO} (h:AOq o o'):AOq (killO mv o) (killO mv o'):=by
 cases h with
 | rfl=>exact .rfl
 | map h=>
  cases mv with
  | nil=>exact .map h
  | cons a r=>exact .map fun k=>by rw [iE,iE,h]
theorem AOq.put {e:Ent} {o o':AO} (h:AOq o o'):AOq (e.put o) (e.put o'):=by
 cases h with
 | rfl=>exact .rfl
 | map h=>
  cases e with
  | fn k a=>exact .map fun j=>by simp only [lookF,h]
  | da s k x=>exact .map h
theorem v_ {j k:Int} {b:AV} {s:Sh} {x:den s} {o:AO}:(Ent.fn j b).put ((Ent.da s k x).put o)=(Ent.da s k x).put ((Ent.fn j b).put o):=by
 cases o with
 | mapo s' g=>
  by_cases h:s' = s
  ·subst h; simp only [Ent.put,dif_pos]
  ·simp only [Ent.put,dif_neg h]
 | _=>rfl
theorem put_comm {e f:Ent} {o:AO} (h:e.key≠f.key):AOq (f.put (e.put o)) (e.put (f.put o)):=by
 cases e with
 | fn k a=>
  cases f with
  | fn j b=>
   cases o with
   | mapf l=>
    refine .map fun i=>?_
    simp only [lookF]
    have h:k≠j:=h
    by_cases h1:i=j
    ·rw [if_pos h1,if_neg (show ¬ i=k by omega),if_pos h1]
    ·rw [if_neg h1]
     by_cases h2:i=k
     ·rw [if_pos h2,if_pos h2]
     ·rw [if_neg h2,if_neg h2,if_neg h1]
   | _=>exact .rfl
  | da s j x=>rw [v_]; exact .rfl
 | da s k x=>
  cases f with
  | fn j b=>rw [v_]; exact .rfl
  | da s2 j y=>
   cases o with
   | mapo s' g=>
    by_cases h1:s' = s
    ·by_cases h2:s' = s2
     ·subst h1; subst h2
      simp only [Ent.put,dif_pos]
      have e2:(fun i=>if i=j then some y else if i=k then some x else g i)=fun i=>if i=k then some x else if i=j then some y else g i:=by
       funext i
       have h:k≠j:=h
       by_cases h1:i=j
       ·rw [if_pos h1,if_neg (show ¬ i=k by omega),if_pos h1]
       ·rw [if_neg h1]
        by_cases h2:i=k
        ·rw [if_pos h2,if_pos h2]
        ·rw [if_neg h2,if_neg h2,if_neg h1]
      rw [e2]
      exact .rfl
     ·subst h1
      simp only [Ent.put,dif_pos,dif_neg h2]
      exact .rfl
    ·by_cases h2:s' = s2
     ·subst h2
      simp only [Ent.put,dif_neg h1,dif_pos]
      exact .rfl
     ·simp only [Ent.put,dif_neg h1,dif_neg h2]
      exact .rfl
   | _=>exact .rfl
theorem pZ {e:Ent} {mv:List Nat} {o:AO} (h:∀ k a,e = .fn k a->disj mv a.rids=true):killO mv (e.put o)=e.put (killO mv o):=by
 cases mv with
 | nil=>rfl
 | cons m r=>
  cases e with
  | fn k a=>
   cases o with
   | mapf l=>
    have:=cP (mv:=m :: r) (a:=a) (aZ.1 (h k a rfl))
    simp only [killO,Ent.put,AO.mapA,mapM,this]
   | _=>rfl
  | da s k x=>
   cases o with
   | mapo s' g=>
    by_cases h:s' = s
    ·subst h; simp only [Ent.put,dif_pos,killO,AO.mapA]
    ·simp only [Ent.put,dif_neg h,killO,AO.mapA]
   | _=>rfl
def kd:AO->Option (Option Sh)
 | .mapf _=>some none
 | .mapo s _=>some (some s)
 | _=>none
theorem mF {e:Ent} {o:AO}:kd (e.put o)=kd o:=by
 cases e with
 | fn k a=>cases o <;> rfl
 | da s k x=>
  cases o with
  | mapo s' g=>
   simp only [Ent.put]
   split
   ·rename_i h; subst h; rfl
   ·rfl
  | _=>rfl
theorem jE {mv:List Nat} {o:AO}:kd (killO mv o)=kd o:=by cases mv <;> cases o <;> rfl
theorem pD {mv:List Nat}:∀ {H:AH} {k p:Nat} {o:AO},H[p]? = some o->k+p ∉ te mv k H->disj mv o.rids=true
 | [],_,_,_,h,_=>by simp at h
 | x :: r,k,0,o,h,hn=>by
  simp at h; subst h
  simp only [te] at hn
  cases hd:disj mv x.rids with
  | true=>rfl
  | false=>rw [hd] at hn; simp at hn
 | x :: r,k,p+1,o,h,hn=>by
  refine pD (H:=r) (k:=k+1) (p:=p) (by simpa using h) fun hm=>hn ?_
  simp only [te]
  have e:k+1+p=k+(p+1):=by omega
  rw [e] at hm
  cases disj mv x.rids
  ·exact List.mem_cons_of_mem _ hm
  ·exact hm
theorem nR {mv:List Nat}:∀ {fr:AFr} {t:Nat} {v:TV},lookA fr t=some v->t ∉ wC mv fr->disj mv v.rids=true
 | [],_,_,h,_=>by cases h
 | (i,x) :: r,t,v,h,hn=>by
  rw [bz] at h
  simp only [wC] at hn
  by_cases hi:i=t
  ·rw [if_pos hi] at h; cases h
   cases hd:disj mv x.rids with
   | true=>rfl
   | false=>rw [hd] at hn; simp [hi] at hn
  ·rw [if_neg hi] at h
   refine nR h fun hm=>hn ?_
   cases disj mv x.rids
   ·exact List.mem_cons_of_mem _ hm
   ·exact hm
theorem gG {fr:AFr} {i t:Nat} {v:TV} (hv:lookA fr t=some v) (hi:i ∈ v.rids):∀ {U:List Nat},t ∈ U->i ∈ gT fr U
 | [],h=>by simp at h
 | u :: r,h=>by
  simp only [gT,List.mem_append]
  rcases List.mem_cons.1 h with rfl | h
  ·left; rw [hv]; exact hi
  ·exact .inr (gG hv hi h)
theorem je {fr:AFr} {i t:Nat} {v:TV} (hv:lookA fr t=some v) (hi:i ∈ v.ids):∀ {U:List Nat},t ∈ U->i ∈ slotIds fr U
 | [],h=>by simp at h
 | u :: r,h=>by
  simp only [slotIds,List.mem_append]
  rcases List.mem_cons.1 h with rfl | h
  ·left; rw [hv]; exact hi
  ·exact .inr (je hv hi h)
theorem dF {H:AH} {i p:Nat} (hi:i ∈ (getO H p).rids):∀ {l:List Nat},p ∈ l->i ∈ fi H l
 | [],h=>by simp at h
 | u :: r,h=>by
  simp only [fi,List.mem_append]
  rcases List.mem_cons.1 h with rfl | h
  ·exact .inl hi
  ·exact .inr (dF hi h)
theorem kz {H:AH} {i p:Nat} (hi:i ∈ (getO H p).ids):∀ {l:List Nat},p ∈ l->i ∈ objIds H l
 | [],h=>by simp at h
 | u :: r,h=>by
  simp only [objIds,List.mem_append]
  rcases List.mem_cons.1 h with rfl | h
  ·exact .inl hi
  ·exact .inr (kz hi h)
theorem gm {r:RC} (h:r.Fit) {p:Nat}:p ∈ r.new↔r.base<=p/\p<r.res.length:=by
 have:=h.le
 rw [RC.new,vg]; omega
theorem cW {H:AH} {p:Nat} {o:AO} (h:H[p]? = some o):getO H p=o:=by unfold getO; rw [List.getD_eq_getElem?_getD,h]; rfl
structure OkD (a b:RC):Prop where
 dst:∀ d,b.dst=some d->d ∉ a.U
 chσ:∀ p ∈ a.σ,p ∉ b.ch
 chn:∀ p ∈ a.new,p ∉ b.ch
 nσ:∀ p ∈ a.σ,p ∉ b.new
 nch:∀ p ∈ a.ch,p ∉ b.new
 kp:∀ p ∈ a.σ,∀ o,b.H0[p]? = some o->killO b.mv o=o
 ks:∀ t ∈ a.U,∀ v,lookA b.fr0 t=some v->killTV b.mv v=v
 sl:∀ t ∈ a.U,∀ v,lookA a.fr0 t=some v->killTV b.mv v=v
 ob:∀ p ∈ a.σ,killO b.mv (getO a.H0 p)=getO a.H0 p
 v:killTV b.mv a.v=a.v
 rc:∀ p ∈ a.ch,killO b.mv (getO a.res p)=getO a.res p
 rn:∀ p ∈ a.new,killO b.mv (getO a.res p)=getO a.res p
 en:∀ k x,a.ent=some (.fn k x)->disj b.mv x.rids=true
theorem xk {l:List Nat}:disj [] l=true:=aZ.2 fun _ _ h=>by simp at h
theorem gz {mv l l':List Nat} (h:disj mv l=true) (hs:∀ i ∈ l',i ∈ l):disj mv l' = true:=aZ.2 fun i hi=>aZ.1 h i (hs i hi)
theorem qT {a b:RC} (h:Ej a b=true):OkD a b:=by
 simp only [Ej,Bool.and_eq_true] at h
 obtain ⟨⟨⟨⟨⟨h1,h2⟩,h3⟩,h4⟩,h5⟩,h6⟩:=h
 have hd:∀ d,b.dst=some d->d ∉ a.U:=fun d hd hm=>by
  simp only [hd,zK,aF.2 hm,Bool.not_true] at h1; cases h1
 refine ⟨hd,aZ.1 h2,aZ.1 h3,aZ.1 h4,aZ.1 h5,?_,?_,?_,?_,?_,?_,?_,?_⟩ <;> (cases hmv:b.mv with
  | nil=>intros; first | rfl | exact xk
  | cons m r=>?_) <;> (rw [hmv] at h6; simp only [Bool.and_eq_true] at h6; obtain ⟨⟨⟨⟨⟨⟨⟨k1,k2⟩,k3⟩,k4⟩,k5⟩,k6⟩,k7⟩,k8⟩:=h6)
 ·intro p hp o ho
  exact gj (pD (k:=0) ho (by rw [Nat.zero_add]; exact aZ.1 k1 p hp))
 ·intro t ht v hv
  exact ir (nR hv (aZ.1 k2 t ht))
 ·intro t ht v hv
  exact ir (gz k3 fun i hi=>gG hv hi ht)
 ·intro p hp
  exact gj (gz k4 fun i hi=>dF hi hp)
 ·exact ir k5
 ·intro p hp
  exact gj (gz k6 fun i hi=>dF hi hp)
 ·intro p hp
  exact gj (gz k7 fun i hi=>dF hi hp)
 ·intro k x hx
  rw [hx] at k8; exact k8
theorem RC.bX {r:RC} {p:Nat} {o:AO} (h:p ∉ r.ch):r.obj p o=killO r.mv o:=by rw [RC.obj,if_neg h]
structure Agr (b:RC) (q p:AFr × AH):Prop where
 len:q.2.length=p.2.length
 ob:∀ x ∈ b.σ,q.2[x]? = p.2[x]?
 kd:∀ x ∈ b.ch,(q.2[x]?).map kd=(p.2[x]?).map kd
 sl:∀ t ∈ b.U,lookA q.1 t=lookA p.1 t
theorem nL {a b:RC} (h:okI a b=true) {p:Nat} (ha:p ∈ a.ch) (hb:p ∈ b.ch):∃ e f,a.ent=some e/\b.ent=some f/\e.key≠f.key:=by
 unfold okI at h
 split at h
 ·rename_i e f he hf
  simp only [Bool.or_eq_true,Bool.not_eq_true',decide_eq_false_iff_not] at h
  rcases h with h | h
  ·exact absurd ha (aZ.1 h p hb)
  ·exact ⟨e,f,he,hf,h⟩
 ·exact absurd ha (aZ.1 h p hb)
theorem rS {b:RC} {s:Nat->Bool}:∀ {rs:List RC} {k:Nat} {q p:AFr × AH},cA p rs->(∀ j r,rs[j]? = some r->s (k+j)=true\/(OkD b r/\okI b r=true))->Agr b q p->Agr b (dI s k rs q) (prg rs p)
 | [],_,_,_,_,_,h=>h
 | r :: rs,k,q,p,hc,hs,h=>by
  obtain ⟨h1,h2,h3,h4⟩:=hc
  have hb:p.2.length=r.base:=by rw [<- h2]; exact h3.base.symm
  have hqb:q.2.length=r.base:=h.len.trans hb
  simp only [dI,prg]
  refine rS h4 (fun j r' hj=>by have:=hs (j+1) r' (by simpa using hj); rwa [show k+(j+1)=k+1+j by omega] at this) ?_
  cases hk:s k with
  | true=>
   simp only [cond_true]
   refine ⟨(aU h3 hqb).trans (aU h3 hb).symm,fun x hx=>?_,fun x hx=>?_,fun t ht=>?_⟩
   ·rw [cV h3 hqb,cV h3 hb,h.ob x hx]
   ·rw [cV h3 hqb,cV h3 hb]
    by_cases hlt:x<r.base
    ·rw [if_pos hlt,if_pos hlt]
     have:=h.kd x hx
     have key:∀ o o',kd o=kd o' -> kd (r.obj x o)=kd (r.obj x o'):=fun o o' e=>by
      unfold RC.obj
      split
      ·split
       ·rw [mF,mF,e]
       ·rfl
      ·rw [jE,jE,e]
     cases hq:q.2[x]? <;> cases hp:p.2[x]? <;> rw [hq,hp] at this <;> simp at this ⊢
     exact key _ _ this
    ·rw [if_neg hlt,if_neg hlt]
   ·rw [dj,dj,h.sl t ht]
  | false=>
   simp only [cond_false]
   obtain ⟨hd,hi⟩:=(hs 0 r rfl).resolve_left (by rw [Nat.add_zero,hk]; simp)
   refine ⟨(c_ h3 hqb).trans (aU h3 hb).symm,fun x hx=>?_,fun x hx=>?_,fun t ht=>?_⟩
   ·rw [dm h3 hqb,cV h3 hb,h.ob x hx]
    by_cases hlt:x<r.base
    ·rw [if_pos hlt,if_pos hlt]
     cases hp:p.2[x]? with
     | none=>rfl
     | some o=>
      rw [Option.map_some,RC.bX (hd.chσ x hx),hd.kp x hx o (by rw [h2]; exact hp)]
    ·rw [if_neg hlt,if_neg hlt]
     have hn:=hd.nσ x hx
     rw [gm h3] at hn
     rw [if_neg (fun hh=>hn ⟨by omega,hh⟩),List.getElem?_eq_none (by omega)]
   ·rw [dm h3 hqb,cV h3 hb]
    by_cases hlt:x<r.base
    ·rw [if_pos hlt,if_pos hlt]
     have:=h.kd x hx
     cases hq:q.2[x]? <;> cases hp:p.2[x]? <;> rw [hq,hp] at this <;> simp at this ⊢
     rw [this]
     unfold RC.obj
     split
     ·rename_i hxr
      obtain ⟨e,f,_,hf,_⟩:=nL hi hx hxr
      rw [hf]; exact mF.symm
     ·exact jE.symm
    ·rw [if_neg hlt,if_neg hlt]
     have hn:=hd.nch x hx
     rw [gm h3] at hn
     rw [if_neg (fun hh=>hn ⟨by omega,hh⟩),List.getElem?_eq_none (by omega)]
   ·rw [dj,if_neg (fun e=>hd.dst t e ht)]
    show lookA q.1 t=_
    rw [h.sl t ht]
    cases hp:lookA p.1 t with
    | none=>rfl
    | some v=>rw [Option.map_some,hd.ks t ht v (by rw [h1]; exact hp)]
structure AgrB (b:RC) (q:AFr × AH):Prop where
 ob:∀ x ∈ b.σ,x<b.base->q.2[x]? = b.H0[x]?
 kd:∀ x ∈ b.ch,x<b.base->(q.2[x]?).map kd=(b.H0[x]?).map kd
 sl:∀ t ∈ b.U,lookA q.1 t=lookA b.fr0 t
 gn:∀ x,b.base<=x->x<b.res.length->q.2[x]? = some .gone
theorem oc {b:RC} (hbf:b.Fit) {s:Nat->Bool}:∀ {rs:List RC} {k:Nat} {q p:AFr × AH},cA p rs->b.res.length<=p.2.length->q.2.length=p.2.length->(∀ j r,rs[j]? = some r->s (k+j)=false\/(OkD b r/\okI b r=true))->AgrB b q->AgrB b (dI s k rs q)
 | [],_,_,_,_,_,_,_,h=>h
 | r :: rs,k,q,p,hc,hbl,hlen,hs,h=>by
  obtain ⟨h1,h2,h3,h4⟩:=hc
  have hb:p.2.length=r.base:=by rw [<- h2]; exact h3.base.symm
  have hqb:q.2.length=r.base:=hlen.trans hb
  have hle:=h3.le
  simp only [dI]
  have hl2:(bif s k then r.app q else r.sO q).2.length=(r.app p).2.length:=by
   cases s k
   ·exact (c_ h3 hqb).trans (aU h3 hb).symm
   ·exact (aU h3 hqb).trans (aU h3 hb).symm
  have hble:=hbf.le
  refine oc hbf h4 (by rw [aU h3 hb]; omega) hl2 (fun j r' hj=>by have:=hs (j+1) r' (by simpa using hj); rwa [show k+(j+1)=k+1+j by omega] at this) ?_
  cases hk:s k with
  | false=>
   simp only [cond_false]
   refine ⟨fun x hx hlt=>?_,fun x hx hlt=>?_,fun t ht=>h.sl t ht,fun x hx hlt=>?_⟩
   ·rw [dm h3 hqb,if_pos (by omega)]; exact h.ob x hx hlt
   ·rw [dm h3 hqb,if_pos (by omega)]; exact h.kd x hx hlt
   ·rw [dm h3 hqb,if_pos (by omega)]; exact h.gn x hx hlt
  | true=>
   simp only [cond_true]
   obtain ⟨hd,hi⟩:=(hs 0 r rfl).resolve_left (by rw [Nat.add_zero,hk]; simp)
   refine ⟨fun x hx hlt=>?_,fun x hx hlt=>?_,fun t ht=>?_,fun x hx hlt=>?_⟩
   ·rw [cV h3 hqb,if_pos (by omega),h.ob x hx hlt]
    cases hp:b.H0[x]? with
    | none=>rfl
    | some o=>
     have:=hd.ob x hx
     rw [cW hp] at this
     rw [Option.map_some,RC.bX (hd.chσ x hx),this]
   ·rw [cV h3 hqb,if_pos (by omega),<- h.kd x hx hlt]
    cases hq:q.2[x]? with
    | none=>rfl
    | some o=>
     simp only [Option.map_some,Option.some.injEq]
     unfold RC.obj
     split
     ·rename_i hxr
      obtain ⟨e,f,_,hf,_⟩:=nL hi hx hxr
      rw [hf]; exact mF
     ·exact jE
   ·rw [dj,if_neg (fun e=>hd.dst t e ht),h.sl t ht]
    cases hp:lookA b.fr0 t with
    | none=>rfl
    | some v=>rw [Option.map_some,hd.sl t ht v hp]
   ·rw [cV h3 hqb,if_pos (by omega),h.gn x hx hlt,Option.map_some,RC.bX (hd.chn x ((gm hbf).2 ⟨hx,hlt⟩)),kn]
def RC.endO (b:RC) (x:Nat) (o:AO):AO:=if b.base<=x/\x<b.res.length then getO b.res x else b.obj x o
def RC.endF (b:RC) (t:Nat) (v:Option TV):Option TV:=if b.dst=some t then some b.v else v.map (killTV b.mv)
inductive OOq:Option AO->Option AO->Prop
 | none:OOq none none
 | some {o o':AO}:AOq o o' -> OOq (some o) (some o')
structure Rel (b:RC) (q' q:AFr × AH):Prop where
 len:q'.2.length=q.2.length
 ob:∀ x,OOq (q'.2[x]?) ((q.2[x]?).map (b.endO x))
 sl:∀ t,lookA q'.1 t=b.endF t (lookA q.1 t)
theorem OOq.refl:∀ o:Option AO,OOq o o
 | .none=>.none
 | .some _=>.some .rfl
theorem sH {b:RC} (hb:b.Fit) {q:AFr × AH} (hq:q.2.length=b.base):Rel b (b.app q) (b.sO q):=by
 refine ⟨(aU hb hq).trans (c_ hb hq).symm,fun x=>?_,fun t=>dj⟩
 rw [cV hb hq,dm hb hq]
 by_cases h1:x<b.base
 ·rw [if_pos h1,if_pos h1]
  have:(q.2[x]?).map (b.obj x)=(q.2[x]?).map (b.endO x):=by
   cases q.2[x]? with
   | none=>rfl
   | some o=>simp only [Option.map_some,RC.endO,if_neg (show ¬ (b.base<=x/\x<b.res.length) by omega)]
  rw [this]; exact .refl _
 ·rw [if_neg h1,if_neg h1]
  by_cases h2:x<b.res.length
  ·rw [if_pos h2,Option.map_some,RC.endO,if_pos ⟨by omega,h2⟩,List.getElem?_eq_getElem h2]
   exact .some (by rw [cW (List.getElem?_eq_getElem h2)]; exact .rfl)
  ·rw [if_neg h2,List.getElem?_eq_none (by omega)]; exact .none
theorem yE {b r:RC} (hb:b.Fit) (hdb:OkD b r) (hdr:OkD r b) (hi:okI b r=true) {x:Nat} {o o':AO} (h:AOq o' (b.endO x o)):AOq (r.obj x o') (b.endO x (r.obj x o)):=by
 by_cases hn:b.base<=x/\x<b.res.length
 ·-- b's own
  have hxb:x ∈ b.new:=(gm hb).2 hn
  have hxr:x ∉ r.ch:=hdb.chn x hxb
  simp only [RC.endO,if_pos hn] at h ⊢
  rw [RC.bX hxr]
  have:=(h.kill (mv:=r.mv)).trans (by rw [hdb.rn x hxb]; exact .rfl)
  exact this
 ·simp only [RC.endO,if_neg hn] at h ⊢
  by_cases hxb:x ∈ b.ch
  ·by_cases hxr:x ∈ r.ch
   ·obtain ⟨e,f,he,hf,hne⟩:=nL hi hxb hxr
    simp only [RC.obj,if_pos hxb,if_pos hxr,he,hf] at h ⊢
    exact (h.put (e:=f)).trans (put_comm hne)
   ·rw [RC.bX hxr,RC.bX hxr]
    cases he:b.ent with
    | some e=>
     simp only [RC.obj,if_pos hxb,he] at h ⊢
     refine (h.kill (mv:=r.mv)).trans ?_
     rw [pZ fun k a hk=>hdb.en k a (by rw [he,hk])]
     exact .rfl
    | none=>
     simp only [RC.obj,if_pos hxb,he] at h ⊢
     have:=h.kill (mv:=r.mv)
     rwa [hdb.rc x hxb] at this
  ·rw [RC.bX hxb] at h ⊢
   by_cases hxr:x ∈ r.ch
   ·cases he:r.ent with
    | some e=>
     simp only [RC.obj,if_pos hxr,he]
     refine (h.put (e:=e)).trans ?_
     rw [pZ fun k a hk=>hdr.en k a (by rw [he,hk])]
     exact .rfl
    | none=>
     simp only [RC.obj,if_pos hxr,he]
     rw [hdr.rc x hxr]; exact .rfl
   ·rw [RC.bX hxr,RC.bX hxr,qu]
    exact h.kill
theorem uK {b r:RC} (hb:b.Fit) (hr:r.Fit) (hdb:OkD b r) (hdr:OkD r b) (hi:okI b r=true) (hds:∀ d,b.dst=some d->r.dst≠some d) {q' q:AFr × AH} (hq:q.2.length=r.base) (hbr:b.res.length<=r.base) (h:Rel b q' q):Rel b (r.app q') (r.app q):=by
 have hq':q'.2.length=r.base:=h.len.trans hq
 refine ⟨(aU hr hq').trans (aU hr hq).symm,fun x=>?_,fun t=>?_⟩
 ·rw [cV hr hq',cV hr hq]
  by_cases hlt:x<r.base
  ·rw [if_pos hlt,if_pos hlt]
   have:=h.ob x
   cases hx':q'.2[x]? <;> cases hx:q.2[x]? <;> rw [hx',hx] at this <;> simp only [Option.map_some,Option.map_none] at this ⊢ <;> cases this
   ·exact .none
   ·rename_i hh; exact .some (yE hb hdb hdr hi hh)
  ·rw [if_neg hlt,if_neg hlt]
   cases hx:r.res[x]? with
   | none=>exact .none
   | some o=>
    refine .some ?_
    have hlx:=(List.getElem?_eq_some_iff.1 hx).1
    have hxn:x ∈ r.new:=(gm hr).2 ⟨by omega,hlx⟩
    have h1:=hdr.rn x hxn
    rw [cW hx] at h1
    have h2:x ∉ b.ch:=hdr.chn x hxn
    rw [RC.endO,if_neg (by omega),RC.bX h2,h1]
    exact .rfl
 ·rw [dj,dj,h.sl t]
  unfold RC.endF
  by_cases hrt:r.dst=some t
  ·rw [if_pos hrt,if_pos hrt,if_neg (fun e=>hds t e hrt),Option.map_some,hdr.v]
  ·rw [if_neg hrt,if_neg hrt]
   by_cases hbt:b.dst=some t
   ·rw [if_pos hbt,if_pos hbt,Option.map_some,hdb.v]
   ·rw [if_neg hbt,if_neg hbt,Option.map_map,Option.map_map]
    cases lookA q.1 t with
    | none=>rfl
    | some v=>simp only [Option.map_some,Function.comp,oU]
theorem zf {b r:RC} (hb:b.Fit) (hr:r.Fit) (hdr:∀ x ∈ b.ch,x<b.base) {q' q:AFr × AH} (hq:q.2.length=r.base) (hbr:b.res.length<=r.base) (h:Rel b q' q):Rel b (r.sO q') (r.sO q):=by
 have hq':q'.2.length=r.base:=h.len.trans hq
 have hble:=hb.le
 refine ⟨(c_ hr hq').trans (c_ hr hq).symm,fun x=>?_,h.sl⟩
 rw [dm hr hq',dm hr hq]
 by_cases hlt:x<r.base
 ·rw [if_pos hlt,if_pos hlt]; exact h.ob x
 ·rw [if_neg hlt,if_neg hlt]
  by_cases h2:x<r.res.length
  ·rw [if_pos h2,Option.map_some,RC.endO,if_neg (by omega),RC.bX (fun hm=>by have:=hdr x hm; omega),kn]
   exact .some .rfl
  ·rw [if_neg h2]; exact .none
theorem rD {b:RC} (hb:b.Fit) (hch:∀ x ∈ b.ch,x<b.base) {s:Nat->Bool}:∀ {rs:List RC} {k:Nat} {q' q p:AFr × AH},cA p rs->b.res.length<=p.2.length->q.2.length=p.2.length->(∀ j r,rs[j]? = some r->(s (k+j)=false\/(OkD b r/\OkD r b/\okI b r=true))/\∀ d,b.dst=some d->r.dst≠some d)->Rel b q' q->Rel b (dI s k rs q') (dI s k rs q)
 | [],_,_,_,_,_,_,_,_,h=>h
 | r :: rs,k,q',q,p,hc,hbl,hlen,hs,h=>by
  obtain ⟨_,h2,h3,h4⟩:=hc
  have hb0:p.2.length=r.base:=by rw [<- h2]; exact h3.base.symm
  have hqb:q.2.length=r.base:=hlen.trans hb0
  have hle:=h3.le
  simp only [dI]
  have hl2:(bif s k then r.app q else r.sO q).2.length=(r.app p).2.length:=by
   cases s k
   ·exact (c_ h3 hqb).trans (aU h3 hb0).symm
   ·exact (aU h3 hqb).trans (aU h3 hb0).symm
  refine rD hb hch h4 (by rw [aU h3 hb0]; omega) hl2 (fun j r' hj=>by have:=hs (j+1) r' (by simpa using hj); rwa [show k+(j+1)=k+1+j by omega] at this) ?_
  cases hk:s k with
  | false=>exact zf hb h3 hch hqb (by omega) h
  | true=>
   obtain ⟨hh,hds⟩:=hs 0 r rfl
   obtain ⟨hd1,hd2,hi⟩:=hh.resolve_left (by rw [Nat.add_zero,hk]; simp)
   exact uK hb h3 hd1 hd2 hi hds hqb cQ h
theorem Rd.on {c c':Cx} {ρ ρ':List RE} {a:AV} {v:Value} (h:Rd c ρ a v) (hc:c.le c') (k:∀ i ∈ a.ids,∀ r,ρ[i]? = some r->r ≠ .no->ρ'[i]? = some r):Rd c' ρ' a v:=by
 have cap:∀ q u,q.1 ∈ a.ids->ct ρ q u->ct ρ' q u:=fun q u hq ⟨g,h1,h2⟩=>⟨g,k _ hq _ h1 (by simp),h2⟩
 cases a with
 | own id=>
  rcases h with ⟨g,cap,len,z,h,e⟩ | ⟨h,e⟩
  ·exact .inl ⟨g,cap,len,z,k id (by simp [AV.ids]) _ h (by simp),e⟩
  ·exact .inr ⟨k id (by simp [AV.ids]) _ h (by simp),e⟩
 | sub id o l=>
  rcases h with ⟨g,cap,len,z,h,e⟩ | ⟨h,e⟩
  ·exact .inl ⟨g,cap,len,z,k id (by simp [AV.ids]) _ h (by simp),e⟩
  ·exact .inr ⟨k id (by simp [AV.ids]) _ h (by simp),e⟩
 | ptr id o=>exact cap (id,o) _ (by simp [AV.ids]) h
 | elp id i o=>
  obtain ⟨g,cap,len,z,h,e⟩:=h
  exact ⟨g,cap,len,z,k id (by simp [AV.ids]) _ h (by simp),e⟩
 | fe s x o=>
  obtain ⟨A,cells,h1,h2,h3,e⟩:=h
  exact ⟨A,cells,(hc.S _ h1).1,h2.keep (hc.S _ h1).2,h3.carry hc,e⟩
 | fn f b cs=>
  obtain ⟨bs,us,h1,h2,e⟩:=h
  have all:∀ (l:List (Nat × Nat)) (us:List Value),(∀ q ∈ l,q.1 ∈ (AV.fn f b cs).ids)->All2 (ct ρ) l us->All2 (ct ρ') l us:=fun l us hl h=>by
   induction h with
   | nil=>exact .nil
   | cons h1 _ ih=>exact .cons (cap _ _ (hl _ (by simp)) h1) (ih fun q hq=>hl q (by simp [hq]))
  refine ⟨bs,us,all b bs (fun q hq=>?_) h1,all cs us (fun q hq=>?_) h2,e⟩ <;> simp only [AV.ids,List.mem_append] <;> first | exact .inl (List.mem_map_of_mem hq) | exact .inr (List.mem_map_of_mem hq)
 | mq id=>
  obtain ⟨g,h1,e⟩:=h
  exact ⟨g,k id (by simp [AV.ids]) _ h1 (by simp),e⟩
 | np=>exact h
 | nf=>exact h
 | yl l=>exact h
 | xx k' cs=>
  obtain ⟨us,h1,h2⟩:=h
  have all:∀ (l:List (Nat × Nat)) (us:List Value),(∀ q ∈ l,q.1 ∈ (AV.xx k' cs).ids)->All2 (ct ρ) l us->All2 (ct ρ') l us:=fun l us hl h=>by
   induction h with
   | nil=>exact .nil
   | cons h1 _ ih=>exact .cons (cap _ _ (hl _ (by simp)) h1) (ih fun q hq=>hl q (by simp [hq]))
  exact ⟨us,all cs us (fun q hq=>by simp only [AV.ids]; exact List.mem_map_of_mem hq) h1,h2.le hc⟩
 | dead=>exact h
 | int n=>exact Pd.carry h hc
 | u8 b=>exact Pd.carry h hc
 | u64 n=>exact Pd.carry h hc
 | bool e=>exact Pd.carry h hc
 | str s=>exact Pd.carry h hc
 | em b=>exact Pd.carry h hc
 | fz s xs=>exact Pd.carry h hc
theorem DS.on {c c':Cx} {ρ ρ':List RE}:∀ {asx:List AV} {vs:List Value},All2 (Rd c ρ) asx vs->c.le c' -> (∀ i ∈ ny asx,∀ r,ρ[i]? = some r->r ≠ .no->ρ'[i]? = some r)->All2 (Rd c' ρ') asx vs
 | [],_,h,_,_=>by cases h; exact .nil
 | a :: r,_,h,hc,k=>by
  cases h with
  | cons h1 h2=>exact .cons (h1.on hc fun i hi=>k i (eI (a:=a) (by simp) hi)) (DS.on h2 hc fun i hi=>k i (by simp only [ny,List.mem_append]; exact .inr hi))
theorem bt.on {c c':Cx} {ρ ρ':List RE} {t:TV1} {v:Value} (h:bt c ρ t v) (hc:c.le c') (k:∀ i ∈ ny t.cells,∀ r,ρ[i]? = some r->r ≠ .no->ρ'[i]? = some r):bt c' ρ' t v:=by
 cases t with
 | c a=>exact Rd.on h hc fun i hi=>k i (eI (a:=a) (by simp [TV1.cells]) hi)
 | agg l=>obtain ⟨vs,e,h⟩:=h; exact ⟨vs,e,DS.on h hc k⟩
theorem zC.on {c c':Cx} {ρ ρ':List RE}:∀ {asx:List TV1} {vs:List Value},All2 (bt c ρ) asx vs->c.le c' -> (∀ i ∈ jh asx,∀ r,ρ[i]? = some r->r ≠ .no->ρ'[i]? = some r)->All2 (bt c' ρ') asx vs
 | [],_,h,_,_=>by cases h; exact .nil
 | a :: r,_,h,hc,k=>by
  cases h with
  | cons h1 h2=>exact .cons (h1.on hc fun i hi=>k i (by simp only [jh,List.mem_append]; exact .inl hi)) (zC.on h2 hc fun i hi=>k i (by simp only [jh,List.mem_append]; exact .inr hi))
theorem Rt.on {c c':Cx} {ρ ρ':List RE} {t:TV} {v:Value} (h:Rt c ρ t v) (hc:c.le c') (k:∀ i ∈ t.ids,∀ r,ρ[i]? = some r->r ≠ .no->ρ'[i]? = some r):Rt c' ρ' t v:=by
 cases t with
 | one t=>exact bt.on h hc k
 | tup l=>obtain ⟨vs,e,h⟩:=h; exact ⟨vs,e,zC.on h hc k⟩
 | un=>trivial
theorem yb {i:Nat} {l:List (Int × AV)} {q:Int × AV} (h:q ∈ l) (hi:i ∈ q.2.ids):i ∈ wh l:=jL h hi
theorem OR.on {c c':Cx} {ρ ρ':List RE} {o:AO} {r:RE} (h:OR c ρ o r) (hc:c.le c') (hw:c'.w=c.w) (k:∀ i ∈ o.ids,∀ r,ρ[i]? = some r->r ≠ .no->ρ'[i]? = some r):OR c' ρ' o r:=by
 cases o with
 | gone=>exact h
 | loc=>trivial
 | mapo s f=>
  obtain ⟨g,rfl,h⟩:=h
  exact ⟨g,rfl,h.carry hc (by rw [hw])⟩
 | mapf l=>
  obtain ⟨g,rfl,h⟩:=h
  exact ⟨g,rfl,h.map (g0:=fun a=>a) (by simp) (fun q hq _ h=>h.on hc fun i hi=>k i (yb hq hi)) (by rw [hw])⟩
 | arr t s n xs=>
  obtain ⟨g,vs,rfl,h1,h2,h3⟩:=h
  exact ⟨g,vs,rfl,by rw [hw]; exact h1,h2.carry hc,h3⟩
 | box t cs=>
  obtain ⟨g,vs,rfl,h1,h2⟩:=h
  exact ⟨g,vs,rfl,by rw [hw]; exact h1,DS.on h2 hc k⟩
 | row t s xs=>
  obtain ⟨h1,h2,h3⟩:=h
  refine ⟨hc.shp ▸ h1,h2,h3.imp id ?_⟩
  rintro ⟨g,cap,cells,sp,rfl,h4,h5,h6⟩
  exact ⟨g,cap,cells,sp,rfl,by rw [hw]; exact h4,h5.carry hc,h6⟩
theorem th {mv:List Nat} (h:mv=[]) {l:List AV}:kF (AV.aT mv) l=l:=jC fun a _=>cP (by subst h; simp)
theorem vr {mv:List Nat} {o:AO}:killO mv o=o.mapA (AV.aT mv):=by
 cases mv with
 | cons _ _=>rfl
 | nil=>
  cases o with
  | box t cs=>exact congrArg (AO.box t) (th rfl).symm
  | mapf l=>
   show AO.mapf l=AO.mapf (mapM _ l)
   rw [jv]
   congr 1
   refine ((List.map_congr_left fun q _=>?_).trans (List.map_id _)).symm
   have e:=cP (mv:=[]) (a:=q.2) (by simp)
   show (q.1,AV.aT [] q.2)=q
   rw [e]
  | _=>rfl
def Gz (G:Gl) (ρc:List RE):Gl:=⟨G.shp,G.B0,fun b=>G.Z b\/live ρc b⟩
section
variable {G:Gl} {ρ:List RE} {S:AH} {w w':World} {m top:Nat}
structure Part (G:Gl) (ρ:List RE) (S:AH) (w:World) (m top:Nat):Prop where
 R:Rep G ρ S w
 le:m<=top
 len:top<=S.length
 gn:∀ x,m<=x->x<top->S[x]? = some .gone
theorem Part.ES (h:Part G ρ S w m top) {x:Nat} (h1:m<=x) (h2:x<top):ρ[x]? = some .no:=by
 obtain ⟨r,hr,hor⟩:=h.R.at_ (h.gn x h1 h2)
 cases hor; exact hr
theorem Part.lv (h:Part G ρ S w m top) {b:Nat}:live ρ b↔live (ρ.take m) b\/live (ρ.drop top) b:=by
 have:=h.le
 constructor
 ·rintro ⟨i,r,h1,h2⟩
  by_cases hi:i<m
  ·exact .inl ⟨i,r,by rw [List.getElem?_take,if_pos hi]; exact h1,h2⟩
  ·by_cases hj:i<top
   ·rw [h.ES (by omega) hj] at h1; cases h1; cases h2
   ·exact .inr ⟨i - top,r,by rw [List.getElem?_drop,show top+(i - top)=i by omega]; exact h1,h2⟩
 ·rintro (⟨i,r,h1,h2⟩ | ⟨i,r,h1,h2⟩)
  ·rw [List.getElem?_take] at h1
   split at h1
   ·exact ⟨i,r,h1,h2⟩
   ·cases h1
  ·rw [List.getElem?_drop] at h1
   exact ⟨_,r,h1,h2⟩
theorem Part.sS (h:Part G ρ S w m top) {b:Nat}:(cx (Gz G (ρ.drop top)) (ρ.take m) w).S b↔(cx G ρ w).S b:=by
 show (b<w.heap.size/\¬ live (ρ.take m) b/\¬ (G.Z b\/live (ρ.drop top) b))↔(b<w.heap.size/\¬ live ρ b/\¬ G.Z b)
 rw [h.lv]
 constructor
 ·rintro ⟨h1,h2,h3⟩; exact ⟨h1,fun hh=>hh.elim h2 fun k=>h3 (.inr k),fun k=>h3 (.inl k)⟩
 ·rintro ⟨h1,h2,h3⟩; exact ⟨h1,fun k=>h2 (.inl k),fun hh=>hh.elim h3 fun k=>h2 (.inr k)⟩
theorem Part.FD (h:Part G ρ S w m top):(cx G ρ w).le (cx (Gz G (ρ.drop top)) (ρ.take m) w):=⟨rfl,rfl,fun _ hb=>⟨h.sS.2 hb,rfl⟩⟩
theorem eO {i:Nat} {r:RE} (h:(ρ.take m)[i]? = some r):ρ[i]? = some r/\i<m:=by
 rw [List.getElem?_take] at h
 split at h
 ·exact ⟨h,‹_›⟩
 ·cases h
theorem Part.mask (h:Part G ρ S w m top) {σ:List Nat} (hσ:∀ x ∈ σ,∀ i ∈ (getO S x).ids,i<m):Rep (Gz G (ρ.drop top)) (ρ.take m) (maskH σ 0 (S.take m)) w:=by
 have hl:=h.R.obj.length
 refine ⟨bl (by rw [iJ,List.length_take,List.length_take,hl]) fun j o r ho hr=>?_,fun i j r r' g h1 h2 h3 h4=>h.R.inj i j r r' g (eO h1).1 (eO h2).1 h3 h4,fun i r g h1 h2=>?_,fun b hb=>hb.elim (h.R.z b) fun ⟨j,r,h1,h2⟩=>?_,h.R.b0,h.R.tb.carry h.FD⟩
 ·obtain ⟨hr,hj⟩:=eO hr
  rw [gC,List.getElem?_take,if_pos hj,Nat.zero_add,Option.map_eq_some_iff] at ho
  obtain ⟨o',ho',rfl⟩:=ho
  split
  ·rename_i hm
   obtain ⟨r',hr',hor⟩:=h.R.at_ ho'
   rw [hr] at hr'; cases hr'
   refine hor.on h.FD rfl fun i hi r hri _=>?_
   have:=hσ j hm i (by rw [cW ho']; exact hi)
   rw [List.getElem?_take,if_pos this]; exact hri
  ·trivial
 ·obtain ⟨h1,hi⟩:=eO h1
  have:=h.R.bnd i r g h1 h2
  refine ⟨this.1,this.2.1,fun hz=>hz.elim this.2.2 fun ⟨j,r',h3,h4⟩=>?_⟩
  rw [List.getElem?_drop] at h3
  have e:=h.R.inj i _ r r' g h1 h3 h2 h4
  have:=h.le
  omega
 ·rw [List.getElem?_drop] at h1
  exact (h.R.bnd _ r b h1 h2).2.1
theorem Part.merge (h:Part G ρ S w m top) {ro:Lv} {b:RC} (hbase:b.base=m) (hres:b.res.length=top) (hent:b.ent=none) (hch:∀ x ∈ b.ch,x<m) {ρt:List RE} (hro:∀ i,ro.wr i=false\/ro.mv i=false->i<m) (hS:Stp ⟨fun i=>aQ i b.ch && ro.wr i,fun i=>aQ i b.mv && ro.mv i⟩ (ρ.take m) w ρt w') (hRt:Rep (Gz G (ρ.drop top)) ρt b.res w') {S':AH} (hlen:S'.length=S.length) (hS':∀ x,OOq (S'[x]?) ((S[x]?).map (b.endO x))) :
  Rep G (ρt++ρ.drop top) S' w' /\ Stp ro ρ w (ρt++ρ.drop top) w' /\ (∀ a v,Rd (cx G ρ w) ρ a v->Rd (cx G (ρt++ρ.drop top) w') (ρt++ρ.drop top) (a.aT b.mv) v)/\(∀ t v,Rt (cx (Gz G (ρ.drop top)) ρt w') ρt t v->Rt (cx G (ρt++ρ.drop top) w') (ρt++ρ.drop top) t v):=by
 have hl:=h.R.obj.length
 have hle:=h.le
 have htl:ρt.length=top:=by rw [<- hRt.obj.length,hres]
 have hSl:=h.len
 -- where they lie
 have at1:∀ i,i<top->(ρt++ρ.drop top)[i]? = ρt[i]?:=fun i hi=>List.getElem?_append_left (by omega)
 have at2:∀ i,top<=i->(ρt++ρ.drop top)[i]? = ρ[i]?:=fun i hi=>by rw [List.getElem?_append_right (by omega),htl,List.getElem?_drop]; congr 1; omega
 have lv':∀ b,live (ρt++ρ.drop top) b↔live ρt b\/live (ρ.drop top) b:=fun b=>by
  constructor
  ·rintro ⟨i,r,h1,h2⟩
   by_cases hi:i<top
   ·exact .inl ⟨i,r,by rw [<- at1 i hi]; exact h1,h2⟩
   ·refine .inr ⟨i - top,r,?_,h2⟩
    rw [at2 i (by omega)] at h1
    rw [List.getElem?_drop,show top+(i - top)=i by omega]; exact h1
  ·rintro (⟨i,r,h1,h2⟩ | ⟨i,r,h1,h2⟩)
   ·exact ⟨i,r,by rw [at1 i (by rw [<- htl]; exact (List.getElem?_eq_some_iff.1 h1).1)]; exact h1,h2⟩
   ·rw [List.getElem?_drop] at h1
    exact ⟨top+i,r,by rw [at2 _ (by omega)]; exact h1,h2⟩
 have hblk:∀ g,g<w.heap.size->¬ live (ρ.take m) g->¬ live ρt g/\w'.heap[g]? = w.heap[g]?:=fun g hg hn=>hS.ext.old g hg hn
 have hcn:∀ g,live (ρ.drop top) g->g<w.heap.size/\¬ live (ρ.take m) g:=by
  rintro g ⟨j,r,h1,h2⟩
  rw [List.getElem?_drop] at h1
  refine ⟨(h.R.bnd _ r g h1 h2).2.1,?_⟩
  rintro ⟨i,r',h3,h4⟩
  obtain ⟨h3,h5⟩:=eO h3
  have:=h.R.inj _ _ _ _ g h1 h3 h2 h4
  omega
 have hext:Ext ρ w (ρt++ρ.drop top) w':=⟨hS.ext.os,hS.ext.tape,hS.ext.output,hS.ext.size,fun b hb hl=>by
  rw [h.lv] at hl
  have hk:=hblk b hb fun k=>hl (.inl k)
  exact ⟨fun k=>((lv' b).1 k).elim hk.1 fun k=>hl (.inr k),hk.2⟩⟩
 have hcle:(cx G ρ w).le (cx G (ρt++ρ.drop top) w'):=hext.le
 have hcle2:(cx (Gz G (ρ.drop top)) ρt w').le (cx G (ρt++ρ.drop top) w'):=⟨rfl,rfl,fun b ⟨h1,h2,h3⟩=>⟨⟨h1,fun k=>((lv' b).1 k).elim h2 fun k=>h3 (.inr k),fun k=>h3 (.inl k)⟩,rfl⟩⟩
 have hagr:gV ρt (ρt++ρ.drop top):=cX _ _
 -- what is kept
 have keep:∀ i r,ρ[i]? = some r->r ≠ .no->((∃ g,r = .blk g)\/i ∉ b.mv)->(ρt++ρ.drop top)[i]? = some r:=fun i r hr hne hk=>by
  by_cases hi:i<m
  ·rw [at1 i (by omega)]
   have hr':(ρ.take m)[i]? = some r:=by rw [List.getElem?_take,if_pos hi]; exact hr
   rcases hk with ⟨g,rfl⟩ | hk
   ·exact hS.bx i g hr'
   ·refine hS.loc i r ?_ hr'
    have:aQ i b.mv=false:=by rw [<- Bool.not_eq_true,aF]; exact hk
    simp [this]
  ·by_cases hj:i<top
   ·rw [h.ES (by omega) hj] at hr; cases hr; exact absurd rfl hne
   ·rw [at2 i (by omega)]; exact hr
 have hrd:∀ a v,Rd (cx G ρ w) ρ a v->Rd (cx G (ρt++ρ.drop top) w') (ρt++ρ.drop top) (a.aT b.mv) v:=by
  intro a v hd
  have nm:∀ j,aQ j b.mv=false->j ∉ b.mv:=fun j hb hm=>by rw [aF.2 hm] at hb; cases hb
  cases a with
  | own j=>
   simp only [AV.aT]
   cases hb:aQ j b.mv
   ·refine Rd.on hd hcle fun i hi r hr hne=>keep i r hr hne (.inr ?_)
    simp only [AV.ids,cond_false,List.mem_singleton] at hi; subst hi; exact nm _ hb
   ·exact Rd.one hd
  | sub j o k=>
   simp only [AV.aT]
   cases hb:aQ j b.mv
   ·refine Rd.on hd hcle fun i hi r hr hne=>keep i r hr hne (.inr ?_)
    simp only [AV.ids,cond_false,List.mem_singleton] at hi; subst hi; exact nm _ hb
   ·exact Rd.one hd
  | elp j k o=>
   simp only [AV.aT]
   cases hb:aQ j b.mv
   ·refine Rd.on hd hcle fun i hi r hr hne=>keep i r hr hne (.inr ?_)
    simp only [AV.ids,cond_false,List.mem_singleton] at hi; subst hi; exact nm _ hb
   ·exact Rd.one hd
  | ptr j o=>
   obtain ⟨g,h1,e⟩:=hd
   exact ⟨g,keep _ _ h1 (by simp) (.inl ⟨g,rfl⟩),e⟩
  | mq j=>
   obtain ⟨g,h1,e⟩:=hd
   exact ⟨g,keep _ _ h1 (by simp) (.inl ⟨g,rfl⟩),e⟩
  | fn f b' cs=>
   obtain ⟨bs,us,h1,h2,e⟩:=hd
   exact ⟨bs,us,h1.imp fun _ _ ⟨g,k1,k2⟩=>⟨g,keep _ _ k1 (by simp) (.inl ⟨g,rfl⟩),k2⟩,h2.imp fun _ _ ⟨g,k1,k2⟩=>⟨g,keep _ _ k1 (by simp) (.inl ⟨g,rfl⟩),k2⟩,e⟩
  | fe s x o=>
   obtain ⟨A,cells,h1,h2,h3,e⟩:=hd
   exact ⟨A,cells,(hcle.S _ h1).1,h2.keep (hcle.S _ h1).2,h3.carry hcle,e⟩
  | np=>exact hd
  | nf=>exact hd
  | yl l=>exact hd
  | xx k' cs=>
   obtain ⟨us,h1,h2⟩:=hd
   exact ⟨us,h1.imp fun _ _ ⟨g,k1,k2⟩=>⟨g,keep _ _ k1 (by simp) (.inl ⟨g,rfl⟩),k2⟩,h2.le hcle⟩
  | dead=>exact hd
  | int n=>exact Pd.carry hd hcle
  | u8 b=>exact Pd.carry hd hcle
  | u64 n=>exact Pd.carry hd hcle
  | bool e=>exact Pd.carry hd hcle
  | str s=>exact Pd.carry hd hcle
  | em b=>exact Pd.carry hd hcle
  | fz s xs=>exact Pd.carry hd hcle
 refine ⟨⟨?_,?_,?_,fun b hb=>Nat.lt_of_lt_of_le (h.R.z b hb) hext.size,Nat.le_trans h.R.b0 hext.size,h.R.tb.carry hcle⟩,⟨hext,fun i r hi hr=>?_,fun i r hi hr=>?_,fun i g hi=>?_⟩,hrd,fun t v ht=>ht.carry hcle2 hagr⟩
 ·refine bl (by rw [hlen,List.length_append,htl,List.length_drop]; omega) fun x o r ho hr=>?_
  have hq:=hS' x
  rw [ho] at hq
  cases hx:S[x]? with
  | none=>rw [hx] at hq; cases hq
  | some o0=>
   rw [hx,Option.map_some] at hq
   cases hq with
   | some hq=>
   refine hq.symm.or ?_
   obtain ⟨r0,hr0,hor0⟩:=h.R.at_ hx
   -- those that stay: uY
   have stay:ρ[x]? = some r->(∀ g,r.g? = some g->w'.heap[g]? = w.heap[g]?)->OR (cx G (ρt++ρ.drop top) w') (ρt++ρ.drop top) (killO b.mv o0) r:=fun hr' hg=>by
    rw [hr0] at hr'; cases hr'
    rw [vr]
    exact hor0.map hcle hrd hg
   have fromRes:x<top->∀ o1,b.res[x]? = some o1->OR (cx G (ρt++ρ.drop top) w') (ρt++ρ.drop top) o1 r:=fun hx1 o1 ho1=>by
    rw [at1 x hx1] at hr
    obtain ⟨r1,hr1,hor1⟩:=hRt.at_ ho1
    rw [hr] at hr1; cases hr1
    exact hor1.carry hcle2 hagr fun _ _=>rfl
   unfold RC.endO
   rw [hbase,hres]
   split
   ·rename_i hn
    refine fromRes hn.2 _ ?_
    rw [List.getElem?_eq_getElem (by omega),cW (List.getElem?_eq_getElem (by omega))]
   ·rename_i hn
    unfold RC.obj
    split
    ·rename_i hchx
     rw [hent]
     have hx1:=hch x hchx
     refine fromRes (by omega) _ ?_
     rw [List.getElem?_eq_getElem (by omega),cW (List.getElem?_eq_getElem (by omega))]
    ·rename_i hch
     have hm:aQ x b.ch=false:=by rw [<- Bool.not_eq_true,aF]; exact hch
     by_cases hx1:x<m
     ·have hr':(ρ.take m)[x]? = some r0:=by rw [List.getElem?_take,if_pos hx1]; exact hr0
      have hp:=hS.pro x r0 (by simp [hm]) hr'
      rw [at1 x (by omega),hp.1] at hr; cases hr
      exact stay hr0 hp.2
     ·have hx2:top<=x:=by omega
      rw [at2 x hx2] at hr
      refine stay hr fun g hg=>(hblk g (h.R.bnd x r g hr hg).2.1 (hcn g ⟨x - top,r,?_,hg⟩).2).2
      rw [List.getElem?_drop,show top+(x - top)=x by omega]; exact hr
 ·intro i j r r' g h1 h2 h3 h4
  by_cases hi:i<top <;> by_cases hj:j<top
  ·rw [at1 i hi] at h1; rw [at1 j hj] at h2
   exact hRt.inj i j r r' g h1 h2 h3 h4
  ·rw [at1 i hi] at h1; rw [at2 j (by omega)] at h2
   have hc:live (ρ.drop top) g:=⟨j - top,r',by rw [List.getElem?_drop,show top+(j - top)=j by omega]; exact h2,h4⟩
   exact absurd ⟨i,r,h1,h3⟩ (hblk g (hcn g hc).1 (hcn g hc).2).1
  ·rw [at2 i (by omega)] at h1; rw [at1 j hj] at h2
   have hc:live (ρ.drop top) g:=⟨i - top,r,by rw [List.getElem?_drop,show top+(i - top)=i by omega]; exact h1,h3⟩
   exact absurd ⟨j,r',h2,h4⟩ (hblk g (hcn g hc).1 (hcn g hc).2).1
  ·rw [at2 i (by omega)] at h1; rw [at2 j (by omega)] at h2
   exact h.R.inj i j r r' g h1 h2 h3 h4
 ·intro i r g h1 h2
  by_cases hi:i<top
  ·rw [at1 i hi] at h1
   have:=hRt.bnd i r g h1 h2
   exact ⟨this.1,this.2.1,fun hz=>this.2.2 (.inl hz)⟩
  ·rw [at2 i (by omega)] at h1
   have:=h.R.bnd i r g h1 h2
   exact ⟨this.1,Nat.lt_of_lt_of_le this.2.1 hext.size,this.2.2⟩
 ·have hi':=hro i (.inr hi)
  rw [at1 i (by omega)]
  exact hS.loc i r (by simp [hi]) (by rw [List.getElem?_take,if_pos hi']; exact hr)
 ·have hi':=hro i (.inl hi)
  rw [at1 i (by omega)]
  exact hS.pro i r (by simp [hi]) (by rw [List.getElem?_take,if_pos hi']; exact hr)
 ·by_cases h1:i<m
  ·rw [at1 i (by omega)]
   exact hS.bx i g (by rw [List.getElem?_take,if_pos h1]; exact hi)
  ·by_cases h2:i<top
   ·rw [h.ES (by omega) h2] at hi; cases hi
   ·rw [at2 i (by omega)]; exact hi
end
theorem CS {P:Program} {Q:Exit->Act->World->Prop} {id:Nat} {l:List Oper} {a:Act} {w:World} (hm:P.follows .mixedOrders=true) {Inv:(Nat->Bool)->Act->World->Prop}
  (hlt:∀ i,∀ j ∈ aI l i,j<i) (hdef:∀ s a w,Inv s a w->a.defers=[])
  (hs:∀ s a w i o,Inv s a w->l[i]? = some o->s i=false->(∀ j ∈ aI l i,s j=true)->(∀ k,s k=true->∀ j ∈ aI l k,s j=true) ->
   xA P l.toArray (fun e a' w'=>e = .normal/\Inv (fun j=>s j || Nat.beq i j) a' w') [o] a w)
  (he:∀ s a w,Inv s a w->(∀ i,i<l.length->s i=true)->Q .normal a w) (h0:Inv (fun _=>false) a { w with drawn:=w.drawn+1 }):gU P (.region id l.toArray true) Q a w:=by
 intro ro ds
 refine wpIn_region_any hm ?_
 have main:∀ f (listed:Array Bool) a w,listed.size=l.length->(List.range l.length).countP (fun i=>!listed.getD i false)=f->(∀ k,listed.getD k false=true->∀ j ∈ aI l k,listed.getD j false=true)->Inv (fun i=>listed.getD i false) a w->wpAnyIn (gY ro) 0 P .any l.toArray (gB ds Q) f listed (eE a ds) w:=by
  intro f
  induction f with
  | zero=>
   intro listed a w hsz hc hcl inv
   have hall:∀ i,i<l.length->listed.getD i false=true:=fun i hi=>by
    have:=List.countP_eq_zero.1 hc i (List.mem_range.2 hi)
    simpa using this
   refine ⟨?_,a,hdef _ _ _ inv,rfl,he _ a w inv hall⟩
   cases hr:Region.ready .any l.toArray listed with
   | nil=>rfl
   | cons i r=>
    obtain ⟨hun,o,ho,_⟩:=mem_ready.1 (show i ∈ Region.ready .any l.toArray listed by rw [hr]; simp)
    have hil:i<l.length:=by simpa using (Array.getElem?_eq_some_iff.1 ho).1
    have:=hall i hil
    rw [getD_both hun] at this; cases this
  | succ f ih=>
   intro listed a w hsz hc hcl inv
   have hex:∃ i,i<l.length/\listed.getD i false=false/\∀ j,j<i->listed.getD j false=true:=by
    have h1:∃ i,i<l.length/\listed.getD i false=false:=by
     have:0<(List.range l.length).countP (fun i=>!listed.getD i false):=by omega
     obtain ⟨i,hi,hp⟩:=List.countP_pos_iff.1 this
     exact ⟨i,List.mem_range.1 hi,by simpa using hp⟩
    obtain ⟨i,hi,hp⟩:=h1
    have hmin:∀ m,∀ i,i<l.length->listed.getD i false=false->i<=m->∃ i,i<l.length/\listed.getD i false=false/\∀ j,j<i->listed.getD j false=true:=by
     intro m
     induction m with
     | zero=>intro i hi hp him; exact ⟨i,hi,hp,fun j hj=>by omega⟩
     | succ m ihm=>
      intro i hi hp him
      by_cases hlt:∃ j,j<i/\listed.getD j false=false
      ·obtain ⟨j,hj,hpj⟩:=hlt
       exact ihm j cQ hpj cQ
      ·exact ⟨i,hi,hp,fun j hj=>by
        cases h:listed.getD j false with
        | true=>rfl
        | false=>exact absurd ⟨j,hj,h⟩ hlt⟩
    exact hmin i i hi hp (Nat.le_refl _)
   obtain ⟨m,hml,hmu,hmall⟩:=hex
   have hready:m ∈ Region.ready .any l.toArray listed:=by
    refine mem_ready.2 ⟨getD_in (by rw [hsz]; exact hml) hmu,l[m],by simp [hml],fun e he hb=>?_⟩
    exact hmall _ (hlt m e.on (by
     simp only [aI,List.getElem?_eq_getElem hml,cn,List.mem_map,List.mem_filter]
     exact ⟨e,⟨by simpa using he,hb⟩,rfl⟩))
   refine ⟨fun h0=>(by rw [h0] at hready; cases hready),fun i hi=>?_⟩
   obtain ⟨hun,o,ho,hafter⟩:=mem_ready.1 hi
   have ho':l[i]? = some o:=by simpa using ho
   have hil:i<l.length:=(List.getElem?_eq_some_iff.1 ho').1
   have hun':listed.getD i false=false:=getD_both hun
   have hpre:∀ k ∈ aI l i,listed.getD k false=true:=fun k hk=>by
    simp only [aI,ho',cn,List.mem_map,List.mem_filter] at hk
    obtain ⟨e,⟨he,hb⟩,rfl⟩:=hk
    exact hafter e (by simpa using he) hb
   have hw:=hs _ a w i o inv ho' hun' hpre hcl ro ds
   have hset:∀ j,(listed.setIfInBounds i true).getD j false=(listed.getD j false || Nat.beq i j):=fun j=>by
    by_cases hj:j=i
    ·subst hj; simp [Array.getD,hsz,hil]
    ·have:Nat.beq i j=false:=by rw [<- Bool.not_eq_true,Nat.beq_eq]; exact fun e=>hj e.symm
     rw [getD_set_ne false (Ne.symm hj),this,Bool.or_false]
   have step:∀ v w2,(True/\Inv (fun j=>listed.getD j false || Nat.beq i j) (a.put o.dst v) w2)->wpAnyIn (gY ro) 0 P .any l.toArray (gB ds Q) f (listed.setIfInBounds i true) (eE (a.put o.dst v) ds) w2:=by
    intro v w2 ⟨_,hv⟩
    refine ih _ _ _ (by simp [hsz]) ?_ ?_ ?_
    ·have:=countP_set (n:=l.length) (i:=i) (p:=fun j=>!listed.getD j false) (q:=fun j=>!(listed.setIfInBounds i true).getD j false) hil (by simp [hun']) (by simp [hset]) (fun j hj=>by
      have:Nat.beq i j=false:=by rw [<- Bool.not_eq_true,Nat.beq_eq]; exact fun e=>hj e.symm
      simp [hset,this])
     omega
    ·intro k hk j hj
     rw [hset] at hk ⊢
     rw [Bool.or_eq_true] at hk ⊢
     rcases hk with hk | hk
     ·exact .inl (hcl k hk j hj)
     ·have:=Nat.eq_of_beq_eq_true hk
      subst this; exact .inl (hpre j hj)
    ·have e:(fun j=>(listed.setIfInBounds i true).getD j false)=fun j=>(listed.getD j false || Nat.beq i j):=funext hset
     rw [e]; exact hv
   have step':∀ v w2,gB ds (fun e a' w'=>e = .normal/\Inv (fun j=>listed.getD j false || Nat.beq i j) a' w') .normal ((eE a ds).put o.dst v) w2->wpAnyIn (gY ro) 0 P .any l.toArray (gB ds Q) f (listed.setIfInBounds i true) ((eE a ds).put o.dst v) w2:=fun v w2 ⟨a0,h0,e,h⟩=>by
    rw [gf] at e ⊢
    rw [<- xf e (rY (hdef _ _ _ inv) _ _) h0] at h
    exact step v w2 ⟨trivial,h.2⟩
   unfold wpOpIn
   simp only [ho]
   simp only [wpListIn] at hw
   try simp only [eq_self_iff_true] at hw
   by_cases hwant:Region.wanted o (yielded l.toArray (eE a ds).tmps)=true
   ·rw [if_pos hwant] at hw ⊢
    unfold Oper.wpIn at hw ⊢
    refine ⟨fun _ _=>trivial,pw hw.2 step' (fun d w2 ⟨a0,h0,e,h⟩=>?_) (fun e a w he ⟨_,_,_,h⟩=>he h.1)⟩
    have:=congrArg Act.defers e
    cases hd:o.dst <;> rw [hd] at this <;> simp [Act.put,eE] at this
   ·rw [if_neg hwant] at hw ⊢
    exact ⟨fun _ _=>trivial,step' undef w hw.2⟩
 have hcount:(List.range l.length).countP (fun i=>!(Array.replicate l.toArray.size false).getD i false)=l.length:=by
  rw [List.countP_eq_length.2 (fun i _=>by rw [getD_replicate_false]; rfl),List.length_range]
 have:=main l.length (Array.replicate l.toArray.size false) a { w with drawn:=w.drawn+1 } (by simp) hcount (fun k hk=>by rw [getD_replicate_false] at hk; cases hk) (by
  have e:(fun i=>(Array.replicate l.toArray.size false).getD i false)=fun _=>false:=funext fun i=>getD_replicate_false _ _
  rw [e]; exact h0)
 rw [show l.toArray.size=l.length by simp]
 exact this
theorem e_ {m j:Nat}:bitN m j=m.testBit j:=by
 rw [Nat.testBit_eq_decide_div_mod_eq]
 show Nat.beq ((m >>> j) &&& 1) 1=_
 rw [Nat.and_one_is_mod,Nat.shiftRight_eq_div_pow]
 generalize m / 2 ^ j % 2=q
 by_cases h:q=1
 ·subst h; rfl
 ·rw [decide_eq_false h,<- Bool.not_eq_true,Nat.beq_eq]; exact h
theorem yr {a b j:Nat}:bitN (Nat.lor a b) j=(bitN a j || bitN b j):=by
 rw [e_,e_,e_]
 exact Nat.testBit_or a b j
theorem yL {k j:Nat}:bitN (Nat.shiftLeft 1 k) j=true↔j=k:=by
 rw [e_]
 show (1 <<< k).testBit j=true↔_
 rw [Nat.testBit_shiftLeft,Bool.and_eq_true,decide_eq_true_eq,Nat.testBit_one_eq_true_iff_self_eq_zero]
 omega
theorem vA {j:Nat}:bitN 0 j=false:=by rw [e_]; exact Nat.zero_testBit j
theorem im {acc:List Nat} {j:Nat}:∀ {l:List Nat},bitN (dv acc l) j=true↔∃ k ∈ l,j=k\/bitN (acc.getD k 0) j=true
 | []=>by simp [dv,vA]
 | k :: r=>by simp only [dv,yr,Bool.or_eq_true,yL,im,List.mem_cons,or_and_right,exists_or,exists_eq_left]
theorem pf:∀ {l:List Oper} {acc:List Nat},(dQ acc l).length=acc.length+l.length
 | [],_=>by simp [dQ]
 | o :: r,acc=>by
  have:=pf (l:=r) (acc:=acc++[dv acc (cn o)])
  simp only [dQ,this]
  simp; omega
theorem kP:∀ {l:List Oper} {acc:List Nat} {k:Nat},k<acc.length->(dQ acc l).getD k 0=acc.getD k 0
 | [],_,_,_=>rfl
 | o :: r,acc,k,h=>by
  simp only [dQ]
  rw [kP (by simp; omega),List.getD_eq_getElem?_getD,List.getElem?_append_left h,List.getD_eq_getElem?_getD]
theorem ja:∀ {l:List Oper} {k:Nat},jo k l=true->∀ i,∀ j ∈ aI l i,j<k+i
 | [],_,_,i,j,hj=>by simp [aI] at hj
 | o :: r,k,h,i,j,hj=>by
  simp only [jo,Bool.and_eq_true] at h
  cases i with
  | zero=>exact df.1 h.1 j (by simpa [aI] using hj)
  | succ i=>
   have:=ja h.2 i j (by simpa [aI] using hj)
   omega
theorem nj:∀ {l:List Oper} {acc:List Nat} {i:Nat},(∀ i,∀ j ∈ aI l i,j<acc.length+i)->i<l.length->(dQ acc l).getD (acc.length+i) 0=dv (dQ acc l) (aI l i)
 | [],_,_,_,h=>by simp at h
 | o :: r,acc,0,hp,_=>by
  simp only [dQ]
  have e:(dQ (acc++[dv acc (cn o)]) r).getD (acc.length+0) 0=dv acc (cn o):=by
   rw [kP (by simp),List.getD_eq_getElem?_getD]; simp
  rw [e]
  have hpa:aI (o :: r) 0=cn o:=rfl
  rw [hpa]
  have key:∀ l:List Nat,(∀ j ∈ l,j<acc.length)->dv acc l=dv (dQ (acc++[dv acc (cn o)]) r) l:=by
   intro l
   induction l with
   | nil=>intro _; rfl
   | cons k t ih=>
    intro hl
    have hk:=hl k (by simp)
    simp only [dv]
    rw [ih fun j hj=>hl j (by simp [hj]),kP (show k<(acc++[dv acc (cn o)]).length by simp; omega)]
    congr 2
    rw [List.getD_eq_getElem?_getD,List.getD_eq_getElem?_getD,List.getElem?_append_left hk]
  exact key _ fun j hj=>by have:=hp 0 j (by rw [hpa]; exact hj); omega
 | o :: r,acc,i+1,hp,hi=>by
  simp only [dQ]
  have:=nj (l:=r) (acc:=acc++[dv acc (cn o)]) (i:=i) (fun k j hj=>by
   have:=hp (k+1) j (by simpa [aI] using hj)
   simp; omega) (by simpa using hi)
  simp only [List.length_append,List.length_singleton] at this
  rw [show acc.length+(i+1)=acc.length+1+i by omega,this]
  simp [aI]
theorem ld {l:List Oper} {s:Nat->Bool} (hp:∀ i,∀ j ∈ aI l i,j<i) (hcl:∀ k,s k=true->∀ j ∈ aI l k,s j=true):∀ (n i:Nat),i<=n->i<l.length->(∀ j ∈ aI l i,s j=true)->∀ j,bitN ((dQ [] l).getD i 0) j=true->s j=true:=by
 intro n
 induction n with
 | zero=>
  intro i hi hl hpi j hb
  have:=nj (acc:=[]) (fun i j hj=>by have:=hp i j hj; simp; omega) hl
  simp only [List.length_nil,Nat.zero_add] at this
  rw [this,im] at hb
  obtain ⟨k,hk,_⟩:=hb
  have:=hp i k hk
  omega
 | succ n ih=>
  intro i hi hl hpi j hb
  have:=nj (acc:=[]) (fun i j hj=>by have:=hp i j hj; simp; omega) hl
  simp only [List.length_nil,Nat.zero_add] at this
  rw [this,im] at hb
  obtain ⟨k,hk,rfl | hb⟩:=hb
  ·exact hpi _ hk
  ·have hki:=hp i k hk
   exact ih k cQ cQ (hcl k (hpi k hk)) j hb
def dX (a:Act):Nat->Fr
 | 0=>[]
 | k+1=>(k,a.tmps.getD k undef) :: dX a k
theorem cE {a:Act} {t:Nat}:∀ {n:Nat},look (dX a n) t=if t<n then some (a.tmps.getD t undef) else none
 | 0=>rfl
 | k+1=>by
  simp only [dX,au,cE]
  by_cases h:k=t
  ·subst h; rw [if_pos rfl,if_pos (by omega)]
  ·rw [if_neg h]
   by_cases h2:t<k
   ·rw [if_pos h2,if_pos (by omega)]
   ·rw [if_neg h2,if_neg (by omega)]
theorem BD {n:Nat} {a a':Act} (h:a.defers=[]) (h':a'.defers=[]) (hs:a.tmps.size=n) (hs':a'.tmps.size=n) (ht:∀ t,t<n->a'.tmps.getD t undef=a.tmps.getD t undef):a' = a:=by
 cases a with
 | mk t d=>
 cases a' with
 | mk t' d'=>
 simp only at h h' hs hs' ht
 subst h; subst h'
 congr 1
 refine Array.ext (by omega) fun i h1 h2=>?_
 have:=ht i (by omega)
 simpa [Array.getD,h1,h2] using this
theorem wK {n:Nat} {a:Act} (h:a.defers=[]) (hs:a.tmps.size=n):M n (dX a n) a:=⟨h,hs,fun i v hv=>by
 rw [cE] at hv
 split at hv
 ·cases hv; exact ⟨‹_›,rfl⟩
 ·cases hv⟩
theorem fA {n:Nat} {a:Act} {d:Option Nat} {u:Value} (hs:a.tmps.size=n) {t:Nat} (ht:t<n):(a.put d u).tmps.getD t undef=if d=some t then u else a.tmps.getD t undef:=by
 cases d with
 | none=>simp [Act.put]
 | some d=>
  by_cases hd:d=t
  ·subst hd; simp [Act.put,Array.getD,hs,ht]
  ·have h2:¬ (some d=some t):=fun e=>hd (Option.some.inj e)
   rw [if_neg h2]
   have h3:t<a.tmps.size:=by omega
   have h4:(a.tmps.setIfInBounds d u)[t]? = a.tmps[t]?:=Array.getElem?_setIfInBounds_ne hd
   show (a.tmps.setIfInBounds d u).getD t undef=_
   rw [Array.getD_eq_getD_getElem?,Array.getD_eq_getD_getElem?,h4]
theorem jX {n:Nat} {a a':Act} {d:Option Nat} {u:Value} (h:a.defers=[]) (hs:a.tmps.size=n) (hM:M n (eb d u (dX a n)) a'):a' = a.put d u:=by
 have hp:(a.put d u).defers=[]/\(a.put d u).tmps.size=n:=by cases d <;> simp [Act.put,h,hs]
 refine BD hp.1 hM.1 hp.2 hM.2.1 fun t ht=>?_
 rw [fA hs ht]
 cases d with
 | none=>
  rw [if_neg (by simp)]
  exact (hM.2.2 t (a.tmps.getD t undef) (by show look (dX a n) t=_; rw [cE,if_pos ht])).2
 | some d=>
  by_cases hd:d=t
  ·subst hd
   rw [if_pos rfl]
   exact (hM.2.2 d u (by show look ((d,u) :: dX a n) d=_; rw [au,if_pos rfl])).2
  ·rw [if_neg (fun e=>hd (Option.some.inj e))]
   exact (hM.2.2 t (a.tmps.getD t undef) (by show look ((d,u) :: dX a n) t=_; rw [au,if_neg hd,cE,if_pos ht])).2
theorem cj.sub {P:Program} {n:Nat} {F F':Fr} {w:World} {op:Op} {ty:TypeId} {φ:Value->World->Prop} (h:∀ a,M n F' a->M n F a) (k:cj P n F w op ty φ):cj P n F' w op ty φ:=by
 rcases k with (⟨v,w',h1,h2⟩ | ⟨f,args,h1,h2⟩) | ⟨h0,w',h1,h2⟩
 ·exact .inl (.inl ⟨v,w',fun a d pos af g ha=>h1 a d pos af g (h a ha),h2⟩)
 ·exact .inl (.inr ⟨f,args,fun a d pos af g ha=>h1 a d pos af g (h a ha),h2⟩)
 ·exact .inr ⟨h0,w',fun a d pos af g ha=>h1 a d pos af g (h a ha),h2⟩
section
variable {P:Program} {n:Nat} {l:List Oper} {a:Act} {w:World}
theorem rK {o:Oper} (h:a.defers=[]) (hs:a.tmps.size=n) {F:Fr} (hF:∀ i v,look F i=some v->i<n/\a.tmps.getD i undef=v) {Φ:Value->World->Prop} (hy:cj P n F w o.op o.type Φ) (hd:∀ d,o.dst=some d->Nat.blt d n=true) (hst:isSt o.op=true->o.dst=none)
  (hg:∀ j wt,o.guard=some (j,wt)->∃ t,idst l j=some t/\t<n/\a.tmps.getD t undef = .bool wt) {Q:Exit->Act->World->Prop} (hQ:∀ u w',Φ u w' -> Q .normal (a.put o.dst u) w'):xA P l.toArray Q [o] a w:=by
 have hM:=wK h hs
 have hy':=cj.sub (F':=dX a n) (fun a' ha=>⟨ha.1,ha.2.1,fun i v hv=>by
  obtain ⟨h1,h2⟩:=hF i v hv
  have:=(ha.2.2 i (a.tmps.getD i undef) (by rw [cE,if_pos h1])).2
  exact ⟨h1,this.trans h2⟩⟩) hy
 obtain ⟨dst,op,ty,pos,af,g⟩:=o
 simp only at hd hst hg hQ hy'
 have main:WO P Q n l [⟨dst,op,ty,pos,af,none⟩] (dX a n) w:=by
  rcases hy' with hy' | ⟨h0,w',h1,h2⟩
  ·exact WO.y hy' hd fun v w' hv=>WO.nil fun a' ha'=>by rw [jX h hs ha']; exact hQ _ _ hv
  ·obtain rfl:=hst h0
   exact WO.s h1 (WO.nil fun a' ha'=>by
    have e:=jX (d:=none) (u:=undef) h hs ha'
    rw [e]; exact hQ _ _ h2)
 cases g with
 | none=>exact main a hM
 | some g=>
  obtain ⟨j,wt⟩:=g
  obtain ⟨t,h1,h2,h3⟩:=hg j wt rfl
  exact WO.on h1 (by rw [cE,if_pos h2,h3]) rfl main a hM
theorem ud {o:Oper} (h:a.defers=[]) (hs:a.tmps.size=n) (hd:∀ d,o.dst=some d->Nat.blt d n=true) {j:Nat} {wt:Bool} (hg:o.guard=some (j,wt)) {t:Nat} (ht:idst l j=some t) (htn:t<n) (hv:a.tmps.getD t undef = .bool (!wt)\/a.tmps.getD t undef=undef) {Q:Exit->Act->World->Prop} (hQ:Q .normal (a.put o.dst undef) w):xA P l.toArray Q [o] a w:=by
 have hM:=wK h hs
 obtain ⟨dst,op,ty,pos,af,g⟩:=o
 simp only at hd hg hQ
 subst hg
 have hl:look (dX a n) t=some (a.tmps.getD t undef):=by rw [cE,if_pos htn]
 have fin:WO P Q n l [] (eb dst undef (dX a n)) w:=WO.nil fun a' ha'=>by rw [jX h hs ha']; exact hQ
 cases dst with
 | some d=>
  rcases hv with hv | hv
  ·exact WO.off ht (by rw [hl,hv]) rfl (hd d rfl) fin a hM
  ·exact WO.BK ht (by rw [hl,hv]) (hd d rfl) fin a hM
 | none=>
  have fin:WO P Q n l [] (dX a n) w:=fin
  rcases hv with hv | hv
  ·exact WO.Cy ht (by rw [hl,hv]) rfl fin a hM
  ·exact WO.zX ht (by rw [hl,hv]) fin a hM
end
def RunOK (P:Program) (shp:TypeId->Option Sh) (n:Nat) (ro:Lv) (o:Oper) (r:RC):Prop:=∀ (G:Gl) (ρ:List RE) (w:World) (F:Fr),G.shp=shp->Rep G ρ (maskH r.σ 0 r.H0) w->bK (cx G ρ w) ρ (bm r.fr0 r.U) F->(∀ p ∈ r.ob,p) ->
 cj P n F w o.op o.type fun u w'=>∃ ρ',Stp ⟨fun i=>aQ i r.ch && ro.wr i,fun i=>aQ i r.mv && ro.mv i⟩ ρ w ρ' w' /\ Rep G ρ' r.res w' /\ Rt (cx G ρ' w') ρ' r.v u/\∀ p ∈ r.fc,p
def EntOK (P:Program) (shp:TypeId->Option Sh) (n:Nat) (ro:Lv) (o:Oper) (r:RC) (e:Ent) (p:Nat):Prop:=∀ (G:Gl) (ρ:List RE) (w:World) (F:Fr) (S:AH),G.shp=shp->Rep G ρ S w->bK (cx G ρ w) ρ (bm r.fr0 r.U) F->(S[p]?).map kd=(r.H0[p]?).map kd ->
 ∃ w',cT P n F w o.op o.type w' /\ Rep G ρ (S.set p (e.put (getO S p))) w' /\ Stp ro ρ w ρ w'
structure RcOK (P:Program) (shp:TypeId->Option Sh) (n:Nat) (ro:Lv) (l:List Oper) (rs:List RC) (o:Oper) (i:Nat) (r:RC):Prop where
 dst:r.dst=o.dst
 dn:∀ d,o.dst=some d->Nat.blt d n=true
 st:r.on=true->isSt o.op=true->o.dst=none
 run:r.on=true->(r.ent=none/\RunOK P shp n ro o r)\/∃ e p,r.ent=some e/\r.ch=[p]/\r.mv=[]/\r.v = .un/\r.fc=[]/\r.res.length=r.base/\isSt o.op=true/\EntOK P shp n ro o r e p
 off:r.on=false->r.ch=[]/\r.mv=[]/\r.σ=[]/\r.res=maskH [] 0 r.H0/\r.ent=none/\r.v = .un/\r.fc=[]
 gd:(o.guard=none/\r.on=true)\/∃ j wt t,o.guard=some (j,wt)/\idst l j=some t/\t ∈ r.U/\((∃ rj,rs[j]? = some rj/\j<i/\rj.on=false/\r.on=false)\/∃ b,lookA r.fr0 t=some (one (.bool (.lit b)))/\r.on=(b == wt))
theorem wj {a b:RC} (h:okI a b=true):okI b a=true:=by
 have hd:disj a.ch b.ch=true->disj b.ch a.ch=true:=fun h=>aZ.2 fun i hi hb=>aZ.1 h i hb hi
 unfold okI at h ⊢
 cases ha:a.ent <;> cases hb:b.ent <;> rw [ha,hb] at h <;> simp only at h ⊢ <;> first | exact hd h | skip
 simp only [Bool.or_eq_true,Bool.not_eq_true',decide_eq_false_iff_not] at h ⊢
 exact h.imp hd fun h e=>h e.symm
theorem pI {m:Nat} {b:RC}:∀ {l:List RC} {k:Nat},ru m b k l=true->∀ i a,l[i]? = some a->bitN m (k+i)=true\/(OkD a b/\OkD b a/\okI a b=true)
 | [],_,_,i,a,h=>by simp at h
 | x :: r,k,h,i,a,ha=>by
  simp only [ru,Bool.and_eq_true,Bool.or_eq_true] at h
  cases i with
  | zero=>
   simp at ha; subst ha
   rw [Nat.add_zero]
   exact h.1.imp id fun ⟨⟨h1,h2⟩,h3⟩=>⟨qT h1,qT h2,h3⟩
  | succ i=>
   have:=pI h.2 i a (by simpa using ha)
   rwa [show k+1+i=k+(i+1) by omega] at this
theorem lK {b:RC}:∀ {l:List RC},nD b l=true->∀ a ∈ l,∀ d,a.dst=some d->b.dst≠some d
 | [],_,a,h,_,_=>by simp at h
 | x :: r,h,a,ha,d,hd=>by
  simp only [nD,Bool.and_eq_true] at h
  rcases List.mem_cons.1 ha with rfl | ha
  ·intro hb
   have:=h.1
   rw [hd,hb] at this
   simp at this
  ·exact lK h.2 a ha d hd
structure OkAt (bef:List Nat) (j:Nat) (b:RC) (done:List RC):Prop where
 fit:b.Fit
 U:∀ i ∈ slotIds b.fr0 b.U,i<b.base
 σ:∀ i ∈ objIds b.H0 b.σ,i<b.base
 σb:∀ i ∈ b.σ,i<b.base
 ch:∀ i ∈ b.ch,i<b.base
 row:∀ i a,done[i]? = some a->bitN (bef.getD j 0) i=true\/(OkD a b/\OkD b a/\okI a b=true)
 dst:∀ a ∈ done,∀ d,a.dst=some d->b.dst≠some d
theorem sd {bef:List Nat}:∀ {rest done:List RC} {j:Nat},done.length=j->qp bef j done rest=true->∀ i b,rest[i]? = some b->OkAt bef (j+i) b ((done++rest).take (j+i))
 | [],_,_,_,_,i,b,h=>by simp at h
 | x :: r,done,j,hl,h,i,b,hb=>by
  simp only [qp,Bool.and_eq_true] at h
  obtain ⟨⟨⟨⟨⟨⟨⟨⟨⟨h1,h2⟩,h3⟩,h4⟩,h4b⟩,h5⟩,h6⟩,h7⟩,h8⟩,h9⟩:=h
  cases i with
  | zero=>
   simp at hb; subst hb
   have e:(done++x :: r).take (j+0)=done:=by rw [Nat.add_zero,<- hl]; simp
   rw [e,Nat.add_zero]
   exact ⟨⟨Nat.eq_of_beq_eq_true h1,Nat.le_of_ble_eq_true h2⟩,df.1 h3,df.1 h4,df.1 h4b,df.1 h5,fun i a ha=>by
    have:=pI h8 i a ha
    rwa [Nat.zero_add] at this,lK h6⟩
  | succ i=>
   have:=sd (rest:=r) (done:=done++[x]) (j:=j+1) (by simp [hl]) h9 i b (by simpa using hb)
   rw [show j+1+i=j+(i+1) by omega] at this
   simpa using this
section
variable {P:Program} {T:List (Nat × TI)} {shp:TypeId->Option Sh} {n:Nat} {ro:Lv} {l:List Oper}
def F_ (c:Cx) (ρ:List RE) (n:Nat) (fr:AFr) (a:Act):Prop:=∀ t v,lookA fr t=some v->t<n/\Rt c ρ v (a.tmps.getD t undef)
def xX (G:Gl) (ro:Lv) (ρ0:List RE) (w0:World) (n:Nat) (q0:AFr × AH) (rs:List RC) (s:Nat->Bool) (a:Act) (w:World):Prop:=
 ∃ ρ,Stp ro ρ0 w0 ρ w/\Rep G ρ (dI s 0 rs q0).2 w/\F_ (cx G ρ w) ρ n (dI s 0 rs q0).1 a/\a.defers=[]/\a.tmps.size=n/\∀ k r,rs[k]? = some r->s k=true->(∀ p ∈ r.fc,p)/\(r.on=false->∀ d,r.dst=some d->a.tmps.getD d undef=undef)
def pU (a:Act):AFr->Fr
 | []=>[]
 | (t,_) :: r=>(t,a.tmps.getD t undef) :: pU a r
theorem iH {a:Act} {t:Nat} {v:Value}:∀ {fr:AFr},look (pU a fr) t=some v->v=a.tmps.getD t undef/\∃ tv,lookA fr t=some tv
 | [],h=>by cases h
 | (i,x) :: r,h=>by
  simp only [pU,au] at h
  rw [bz]
  by_cases hi:i=t
  ·subst hi; rw [if_pos rfl] at h ⊢; cases h; exact ⟨rfl,_,rfl⟩
  ·rw [if_neg hi] at h ⊢; exact iH h
theorem eB {fr:AFr} {t:Nat} {tv:TV}:∀ {U:List Nat},lookA (bm fr U) t=some tv->t ∈ U/\lookA fr t=some tv
 | [],h=>by cases h
 | u :: r,h=>by
  simp only [bm] at h
  split at h
  ·rename_i v hv
   rw [bz] at h
   by_cases hi:u=t
   ·subst hi; rw [if_pos rfl] at h; cases h; exact ⟨by simp,hv⟩
   ·rw [if_neg hi] at h
    obtain ⟨h1,h2⟩:=eB h; exact ⟨by simp [h1],h2⟩
  ·obtain ⟨h1,h2⟩:=eB h; exact ⟨by simp [h1],h2⟩
theorem ft {fr:AFr} {q:Nat × TV}:∀ {U:List Nat},q ∈ bm fr U->q.1 ∈ U/\lookA fr q.1=some q.2
 | [],h=>by simp [bm] at h
 | u :: r,h=>by
  simp only [bm] at h
  split at h
  ·rename_i v hv
   rcases List.mem_cons.1 h with rfl | h
   ·exact ⟨by simp,hv⟩
   ·obtain ⟨h1,h2⟩:=ft h; exact ⟨by simp [h1],h2⟩
  ·obtain ⟨h1,h2⟩:=ft h; exact ⟨by simp [h1],h2⟩
theorem jB {c:Cx} {ρ:List RE} {a:Act}:∀ {fr:AFr},(∀ q ∈ fr,Rt c ρ q.2 (a.tmps.getD q.1 undef))->bK c ρ fr (pU a fr)
 | [],_=>.nil
 | (t,v) :: r,h=>.cons ⟨rfl,h (t,v) (by simp)⟩ (jB fun q hq=>h q (by simp [hq]))
theorem gD {a:Act} {d:Option Nat} {u:Value} (h:a.defers=[]) (hs:a.tmps.size=n):(a.put d u).defers=[]/\(a.put d u).tmps.size=n:=by cases d <;> simp [Act.put,h,hs]
theorem sF {mv:List Nat} {v:TV}:killTV mv v=v.mapA (AV.aT mv):=by
 cases mv with
 | cons _ _=>rfl
 | nil=>
  have e:∀ a:AV,a.aT []=a:=fun a=>cP (by simp)
  cases v with
  | one t=>exact congrArg TV.one (lp fun a _=>e a).symm
  | tup l=>exact congrArg TV.tup (mE fun t _ a _=>e a).symm
  | un=>rfl
theorem Rt.uY {c c':Cx} {ρ ρ':List RE} {mv:List Nat} (hg:∀ a v,Rd c ρ a v->Rd c' ρ' (AV.aT mv a) v) {t:TV} {v:Value} (h:Rt c ρ t v):Rt c' ρ' (killTV mv t) v:=by
 rw [sF]
 cases t with
 | one t=>exact nu hg h
 | tup l=>obtain ⟨vs,e,h⟩:=h; exact ⟨vs,e,rJ hg h⟩
 | un=>trivial
theorem Rep.q {G:Gl} {ρ:List RE} {A B:AH} {w:World} (h:Rep G ρ A w) (hl:B.length=A.length) (hq:∀ x:Nat,OOq (B[x]?) (A[x]?)):Rep G ρ B w:=by
 refine ⟨bl (by rw [hl]; exact h.obj.length) fun x o r ho hr=>?_,h.inj,h.bnd,h.z,h.b0,h.tb⟩
 have:=hq x
 rw [ho] at this
 cases hA:A[x]? with
 | none=>rw [hA] at this; cases this
 | some o'=>
  rw [hA] at this
  cases this with
  | some hh=>
   obtain ⟨r',hr',hor⟩:=h.at_ hA
   rw [hr] at hr'; cases hr'
   exact hh.symm.or hor
theorem se {c:Cx} {ρ:List RE} {b:Bool} {v:Value} (h:Rt c ρ (one (.bool (.lit b))) v):v = .bool b:=by
 have h:Pd c (.bool (.lit b)) v:=h
 cases h; rfl
variable {G:Gl} {ρ0:List RE} {w0:World} {q0:AFr × AH} {rs:List RC}
theorem vY (hG:G.shp=shp) (hro:∀ i,ro.wr i=false\/ro.mv i=false->i<ρ0.length) (hq0:∀ i,i<ρ0.length->(ro.wr i=false\/ro.mv i=false)->i<q0.2.length) (hp:∀ i,∀ j ∈ aI l i,j<i) (hc:cA q0 rs) (hok:qp (dQ [] l) 0 [] rs=true) (hlen:rs.length=l.length) (hrc:∀ i o r,l[i]? = some o->rs[i]? = some r->RcOK P shp n ro l rs o i r)
  (hob:∀ i r,rs[i]? = some r->(∀ j r',rs[j]? = some r' -> bitN ((dQ [] l).getD i 0) j=true->∀ p ∈ r'.fc,p)->∀ p ∈ r.ob,p)
  {s:Nat->Bool} {a:Act} {w:World} {i:Nat} {o:Oper} (inv:xX G ro ρ0 w0 n q0 rs s a w) (ho:l[i]? = some o) (hsi:s i=false) (hpre:∀ j ∈ aI l i,s j=true) (hcl:∀ k,s k=true->∀ j ∈ aI l k,s j=true) :
  xA P l.toArray (fun e a' w'=>e = .normal/\xX G ro ρ0 w0 n q0 rs (fun j=>s j || Nat.beq i j) a' w') [o] a w:=by
 obtain ⟨ρ,hS,hR,hf,hdf,hsz,hfc⟩:=inv
 have hil:i<l.length:=(List.getElem?_eq_some_iff.1 ho).1
 obtain ⟨b,hb⟩:∃ b,rs[i]? = some b:=⟨_,List.getElem?_eq_getElem (by omega)⟩
 have hbo:=hrc i o b ho hb
 have okAt:∀ j r,rs[j]? = some r->OkAt (dQ [] l) j r (rs.take j):=fun j r hr=>by
  have:=sd (done:=[]) rfl hok j r hr
  simpa using this
 have hbk:=okAt i b hb
 have hbits:∀ j,bitN ((dQ [] l).getD i 0) j=true->s j=true:=ld hp hcl i i (Nat.le_refl _) hil hpre
 -- what comes ahead,and behind
 have hbefore:∀ j r,rs[j]? = some r->j<i->s j=true\/(OkD b r/\OkD r b/\okI b r=true):=fun j r hr hj=>by
  rcases hbk.row j r (by rw [List.getElem?_take,if_pos hj]; exact hr) with h | ⟨h1,h2,h3⟩
  ·exact .inl (hbits j h)
  ·exact .inr ⟨h2,h1,wj h3⟩
 have hbehind:∀ j r,rs[j]? = some r->i<j->s j=false\/(OkD b r/\OkD r b/\okI b r=true):=fun j r hr hj=>by
  cases hsj:s j with
  | false=>exact .inl rfl
  | true=>
   right
   rcases (okAt j r hr).row i b (by rw [List.getElem?_take,if_pos hj]; exact hb) with h | ⟨h1,h2,h3⟩
   ·have hjl:j<l.length:=by rw [<- hlen]; exact (List.getElem?_eq_some_iff.1 hr).1
    have:=ld hp hcl j j (Nat.le_refl _) hjl (hcl j hsj) i h
    rw [hsi] at this; cases this
   ·exact ⟨h1,h2,h3⟩
 have hdsts:∀ j r,rs[j]? = some r->i≠j->∀ d,b.dst=some d->r.dst≠some d:=fun j r hr hj d hd=>by
  rcases Nat.lt_or_gt_of_ne hj with h | h
  ·exact (okAt j r hr).dst b (List.mem_of_getElem? (by rw [List.getElem?_take,if_pos h]; exact hb)) d hd
  ·intro hrd
   exact hbk.dst r (List.mem_of_getElem? (by rw [List.getElem?_take,if_pos h]; exact hr)) d hrd hd
 -- the list of records,parted
 have hrs:rs=rs.take i++b :: rs.drop (i+1):=by
  have h1:=(List.getElem?_eq_some_iff.1 hb)
  obtain ⟨h1,h2⟩:=h1
  rw [<- h2,<- List.drop_eq_getElem_cons h1,List.take_append_drop]
 have hti:(rs.take i).length=i:=by
  have:=(List.getElem?_eq_some_iff.1 hb).1
  simp; omega
 generalize hpreD:rs.take i=pre at hrs hti
 generalize hpostD:rs.drop (i+1)=post at hrs
 have hpre_at:∀ j r,pre[j]? = some r->rs[j]? = some r/\j<i:=fun j r h=>by
  have hj:=(List.getElem?_eq_some_iff.1 h).1
  rw [<- hpreD,List.getElem?_take] at h
  split at h
  ·exact ⟨h,‹_›⟩
  ·cases h
 have hpost_at:∀ j r,post[j]? = some r->rs[i+1+j]? = some r:=fun j r h=>by
  rw [<- hpostD,List.getElem?_drop] at h; exact h
 have hcp:cA q0 pre/\cA (prg pre q0) (b :: post):=by rw [hrs] at hc; exact cA.uW.1 hc
 obtain ⟨hc1,hb1,hb2,hbf,hc2⟩:=hcp
 have hbase:b.base=(prg pre q0).2.length:=by rw [<- hb2]; exact hbf.base
 have hst:∀ s',dI s' 0 rs q0=dI s' (i+1) post (bif s' i then b.app (dI s' 0 pre q0) else b.sO (dI s' 0 pre q0)):=fun s'=>by
  rw [hrs,rU,hti,Nat.zero_add]; rfl
 have hl1:(dI s 0 pre q0).2.length=b.base:=by rw [hbase]; exact nC hc1 rfl
 have hag:Agr b (dI s 0 pre q0) (prg pre q0):=rS hc1 (fun j r hr=>by
  rw [Nat.zero_add]
  obtain ⟨h1,h2⟩:=hpre_at j r hr
  exact (hbefore j r h1 h2).imp id fun ⟨h3,_,h4⟩=>⟨h3,h4⟩) ⟨rfl,fun _ _=>rfl,fun _ _=>rfl,fun _ _=>rfl⟩
 have hgb:AgrB b (dI s 0 rs q0):=by
  rw [hst s,hsi,cond_false]
  refine oc hbf hc2 (by rw [aU hbf hbase.symm]; exact Nat.le_refl _) ((c_ hbf hl1).trans (aU hbf hbase.symm).symm) (fun j r hr=>(hbehind _ r (hpost_at j r hr) (by omega)).imp id fun ⟨h3,_,h4⟩=>⟨h3,h4⟩) ?_
  refine ⟨fun x hx hlt=>?_,fun x hx hlt=>?_,fun t ht=>?_,fun x hx hlt=>?_⟩
  ·rw [dm hbf hl1,if_pos hlt,hag.ob x hx,hb2]
  ·rw [dm hbf hl1,if_pos hlt,hag.kd x hx,hb2]
  ·show lookA (dI s 0 pre q0).1 t=_
   rw [hag.sl t ht,hb1]
  ·rw [dm hbf hl1,if_neg (by omega),if_pos hlt]
 have hrel:Rel b (dI (fun j=>s j || Nat.beq i j) 0 rs q0) (dI s 0 rs q0):=by
  rw [hst s,hst (fun j=>s j || Nat.beq i j),hsi,cond_false]
  have e1:(false || Nat.beq i i)=true:=by simp
  rw [e1,cond_true]
  have ne:∀ j,j≠i->(s j || Nat.beq i j)=s j:=fun j hj=>by
   have:Nat.beq i j=false:=by rw [<- Bool.not_eq_true,Nat.beq_eq]; exact fun e=>hj e.symm
   rw [this,Bool.or_false]
  have e2:dI (fun j=>s j || Nat.beq i j) 0 pre q0=dI s 0 pre q0:=ig fun j _ hj=>ne j (by omega)
  have e3:∀ q,dI (fun j=>s j || Nat.beq i j) (i+1) post q=dI s (i+1) post q:=fun q=>ig fun j hj _=>ne j (by omega)
  rw [e2,e3]
  refine rD hbf hbk.ch hc2 (by rw [aU hbf hbase.symm]; exact Nat.le_refl _) ((c_ hbf hl1).trans (aU hbf hbase.symm).symm) (fun j r hr=>⟨hbehind _ r (hpost_at j r hr) (by omega),hdsts _ r (hpost_at j r hr) (by omega)⟩) (sH hbf hl1)
 have hSl:b.res.length<=(dI s 0 rs q0).2.length:=by
  have h1:(dI s 0 rs q0).2.length=(prg rs q0).2.length:=nC hc rfl
  rw [h1,hrs,nM]
  have:=qH hc2
  rw [aU hbf hbase.symm] at this
  exact this
 have hge:q0.2.length<=b.base:=by rw [hbase]; exact qH hc1
 generalize hq:dI s 0 rs q0=q at hR hf hgb hrel hSl
 generalize hq':dI (fun j=>s j || Nat.beq i j) 0 rs q0=q' at hrel
 have part:Part G ρ q.2 w b.base b.res.length:=⟨hR,hbf.le,hSl,hgb.gn⟩
 -- what is masked
 have hmask:maskH b.σ 0 (q.2.take b.base)=maskH b.σ 0 b.H0:=by
  refine List.ext_getElem? fun x=>?_
  rw [gC,gC,List.getElem?_take,Nat.zero_add]
  by_cases hx:x<b.base
  ·rw [if_pos hx]
   by_cases hm:x ∈ b.σ
   ·rw [hgb.ob x hm hx]
   ·simp only [if_neg hm]
    have h1:x<q.2.length:=by have:=hbf.le; omega
    have h2:x<b.H0.length:=by have:=hbf.base; omega
    rw [List.getElem?_eq_getElem h1,List.getElem?_eq_getElem h2]; rfl
  ·rw [if_neg hx,List.getElem?_eq_none (l:=b.H0) (by have:=hbf.base; omega)]
 have hσids:∀ x ∈ b.σ,∀ k ∈ (getO q.2 x).ids,k<b.base:=fun x hx k hk=>by
  have:=hgb.ob x hx (hbk.σb x hx)
  have e:getO q.2 x=getO b.H0 x:=by unfold getO; rw [List.getD_eq_getElem?_getD,List.getD_eq_getElem?_getD,this]
  rw [e] at hk
  exact hbk.σ k (kz hk hx)
 have hslot:∀ t ∈ b.U,∀ v,lookA b.fr0 t=some v->t<n/\Rt (cx G ρ w) ρ v (a.tmps.getD t undef):=fun t ht v hv=>hf t v (by rw [hgb.sl t ht]; exact hv)
 have hslotIds:∀ t ∈ b.U,∀ v,lookA b.fr0 t=some v->∀ k ∈ v.ids,k<b.base:=fun t ht v hv k hk=>hbk.U k (je hv hk ht)
 have hro':∀ k,ro.wr k=false\/ro.mv k=false->k<b.base:=fun k hk=>Nat.lt_of_lt_of_le (hq0 k (hro k hk) hk) hge
 -- the guard's slot
 have hgs:∀ j wt t,o.guard=some (j,wt)->idst l j=some t->t ∈ b.U->∀ c,lookA b.fr0 t=some (one (.bool (.lit c)))->t<n/\a.tmps.getD t undef = .bool c:=fun j wt t _ _ ht c hc=>by
  obtain ⟨h1,h2⟩:=hslot t ht _ hc
  exact ⟨h1,se h2⟩
 -- behind it
 have clause:∀ u k r,rs[k]? = some r->k≠i->s k=true->(∀ p ∈ r.fc,p)/\(r.on=false->∀ d,r.dst=some d->(a.put o.dst u).tmps.getD d undef=undef):=fun u k r hr hk hsk=>by
  obtain ⟨h1,h2⟩:=hfc k r hr hsk
  refine ⟨h1,fun hoff d hd=>?_⟩
  have hkl:k<l.length:=by rw [<- hlen]; exact (List.getElem?_eq_some_iff.1 hr).1
  have hrk:=hrc k _ r (List.getElem?_eq_getElem hkl) hr
  have hdn:d<n:=by have:=hrk.dn d (by rw [<- hrk.dst]; exact hd); exact Nat.blt_eq.mp this
  rw [fA hsz hdn,if_neg (fun e=>hdsts k r hr (Ne.symm hk) d (by rw [hbo.dst]; exact e) hd)]
  exact h2 hoff d hd
 have hsne:∀ k,(s k || Nat.beq i k)=true->k≠i->s k=true:=fun k hk hne=>by
  have:Nat.beq i k=false:=by rw [<- Bool.not_eq_true,Nat.beq_eq]; exact fun e=>hne e.symm
  rwa [this,Bool.or_false] at hk
 have fin:∀ u w' ρt,b.ent=none->Stp ⟨fun i=>aQ i b.ch && ro.wr i,fun i=>aQ i b.mv && ro.mv i⟩ (ρ.take b.base) w ρt w' -> Rep (Gz G (ρ.drop b.res.length)) ρt b.res w' -> Rt (cx (Gz G (ρ.drop b.res.length)) ρt w') ρt b.v u->(∀ p ∈ b.fc,p)->(b.on=false->u=undef)->xX G ro ρ0 w0 n q0 rs (fun j=>s j || Nat.beq i j) (a.put o.dst u) w':=by
  intro u w' ρt hent hSt hRt hv hfcb hoff
  obtain ⟨k1,k2,k3,k4⟩:=part.merge rfl rfl hent hbk.ch hro' hSt hRt hrel.len hrel.ob
  refine ⟨_,hS.trans k2,by rw [hq']; exact k1,fun t v hv'=>?_,(gD hdf hsz).1,(gD hdf hsz).2,fun k r hr hsk=>?_⟩
  ·rw [hq',hrel.sl t] at hv'
   unfold RC.endF at hv'
   by_cases hd:b.dst=some t
   ·rw [if_pos hd] at hv'
    cases hv'
    rw [hbo.dst] at hd
    have htn:t<n:=Nat.blt_eq.mp (hbo.dn t hd)
    rw [fA hsz htn,if_pos hd]
    exact ⟨htn,k4 _ _ hv⟩
   ·rw [if_neg hd,Option.map_eq_some_iff] at hv'
    obtain ⟨v0,h1,rfl⟩:=hv'
    obtain ⟨h2,h3⟩:=hf t v0 h1
    rw [hbo.dst] at hd
    rw [fA hsz h2,if_neg hd]
    exact ⟨h2,h3.uY k3⟩
  ·by_cases hk:k=i
   ·subst hk
    rw [hb] at hr; cases hr
    refine ⟨hfcb,fun ho' d hd=>?_⟩
    rw [hbo.dst] at hd
    rw [fA hsz (Nat.blt_eq.mp (hbo.dn d hd)),if_pos hd]
    exact hoff ho'
   ·exact clause u k r hr hk (hsne k hsk hk)
 cases hon:b.on with
 | false=>
  obtain ⟨e1,e2,e3,e4,e5,e6,e7⟩:=hbo.off hon
  rcases hbo.gd with ⟨_,h2⟩ | ⟨j,wt,t,hg,ht,htU,hcase⟩
  ·rw [hon] at h2; cases h2
  ·have htv:t<n/\(a.tmps.getD t undef = .bool (!wt)\/a.tmps.getD t undef=undef):=by
    rcases hcase with ⟨rj,hrj,hji,hoffj,_⟩ | ⟨c,hc,hb2⟩
    ·have hjl:j<l.length:=by omega
     have hrcj:=hrc j _ rj (List.getElem?_eq_getElem hjl) hrj
     have hdj:rj.dst=some t:=by
      rw [hrcj.dst]
      have:=ht
      rw [ek,List.getElem?_eq_getElem hjl] at this
      exact this
     have hsj:s j=true:=by
      rcases hbefore j rj hrj hji with h | ⟨h,_,_⟩
      ·exact h
      ·exact absurd htU (h.dst t hdj)
     exact ⟨Nat.blt_eq.mp (hrcj.dn t (by rw [<- hrcj.dst]; exact hdj)),.inr ((hfc j rj hrj hsj).2 hoffj t hdj)⟩
    ·obtain ⟨h1,h2⟩:=hgs j wt t hg ht htU c hc
     refine ⟨h1,.inl ?_⟩
     rw [h2]
     rw [hon] at hb2
     cases c <;> cases wt <;> simp at hb2 ⊢
   refine ud hdf hsz hbo.dn hg ht htv.1 htv.2 ⟨rfl,fin undef w (ρ.take b.base) e5 (Stp.refl _ _ _) ?_ (by rw [e6]; trivial) (by rw [e7]; simp) fun _=>rfl⟩
   have key:maskH b.σ 0 (q.2.take b.base)=b.res:=by rw [hmask,e3,e4]
   have hm:=part.mask hσids
   rw [key] at hm
   exact hm
 | true=>
  have hg:∀ j wt,o.guard=some (j,wt)->∃ t,idst l j=some t/\t<n/\a.tmps.getD t undef = .bool wt:=fun j wt hgd=>by
   rcases hbo.gd with ⟨h1,_⟩ | ⟨j',wt',t,hg,ht,htU,hcase⟩
   ·rw [hgd] at h1; cases h1
   ·rw [hgd] at hg; cases hg
    rcases hcase with ⟨_,_,_,_,h⟩ | ⟨c,hc,hb2⟩
    ·rw [hon] at h; cases h
    ·obtain ⟨h1,h2⟩:=hgs j wt t hgd ht htU c hc
     refine ⟨t,ht,h1,?_⟩
     rw [h2]
     rw [hon] at hb2
     cases c <;> cases wt <;> simp at hb2 ⊢
  have hF:∀ k v,look (pU a (bm b.fr0 b.U)) k=some v->k<n/\a.tmps.getD k undef=v:=fun k v hk=>by
   obtain ⟨h1,tv,h2⟩:=iH hk
   obtain ⟨h3,h4⟩:=eB h2
   exact ⟨(hslot k h3 tv h4).1,h1.symm⟩
  rcases hbo.run hon with ⟨hent,hrun⟩ | ⟨e,p,hent,hch,hmv,hv,hfcb,hres,hst2,hrun⟩
  ·have hy:=hrun (Gz G (ρ.drop b.res.length)) (ρ.take b.base) w (pU a (bm b.fr0 b.U)) hG (by rw [<- hmask]; exact part.mask hσids) (jB fun x hx=>by
    obtain ⟨h1,h2⟩:=ft hx
    refine (hslot _ h1 _ h2).2.on part.FD fun k hk r hr _=>?_
    rw [List.getElem?_take,if_pos (hslotIds _ h1 _ h2 k hk)]; exact hr) (hob i b hb fun j r' hr' hbit=>(hfc j r' hr' (hbits j hbit)).1)
   exact rK hdf hsz hF hy hbo.dn (hbo.st hon) hg fun u w' ⟨ρt,h1,h2,h3,h4⟩=>⟨rfl,fin u w' ρt hent h1 h2 h3 h4 fun h=>by rw [hon] at h; cases h⟩
  ·have hpb:p<b.base:=hbk.ch p (by rw [hch]; simp)
   obtain ⟨w',h1,h2,h3⟩:=hrun G ρ w (pU a (bm b.fr0 b.U)) q.2 hG hR (jB fun x hx=>by
    obtain ⟨h1,h2⟩:=ft hx
    exact (hslot _ h1 _ h2).2) (hgb.kd p (by rw [hch]; simp) hpb)
   have hdst:=hbo.st hon hst2
   refine rK (Φ:=fun u x=>u=undef/\x=w') hdf hsz hF (.inr ⟨hst2,w',h1,rfl,rfl⟩) hbo.dn (hbo.st hon) hg fun u x ⟨_,hx⟩=>?_
   subst hx
   have hle:=h3.ext.le (G:=G)
   refine ⟨rfl,ρ,hS.trans h3,?_,fun t v hv'=>?_,(gD hdf hsz).1,(gD hdf hsz).2,fun k r hr hsk=>?_⟩
   ·rw [hq']
    refine h2.q (by rw [List.length_set]; exact hrel.len) fun x=>?_
    have:=hrel.ob x
    have hpl:p<q.2.length:=by omega
    by_cases hxp:x=p
    ·subst hxp
     rw [List.getElem?_set_self hpl]
     rw [List.getElem?_eq_getElem hpl,Option.map_some,RC.endO,if_neg (by omega),RC.obj,if_pos (by rw [hch]; simp),hent] at this
     rw [cW (List.getElem?_eq_getElem hpl)]
     exact this
    ·rw [List.getElem?_set_ne (fun e=>hxp e.symm)]
     have e9:(q.2[x]?).map (b.endO x)=q.2[x]?:=by
      cases q.2[x]? with
      | none=>rfl
      | some o=>
       rw [Option.map_some,RC.endO,if_neg (by omega),RC.bX (by rw [hch]; simpa using hxp),hmv]
       rfl
     rw [e9] at this
     exact this
   ·rw [hq',hrel.sl t] at hv'
    unfold RC.endF at hv'
    rw [hbo.dst,hdst,if_neg (by simp),hmv] at hv'
    have hv2:lookA q.1 t=some v:=by
     cases hx:lookA q.1 t with
     | none=>rw [hx] at hv'; cases hv'
     | some v0=>rw [hx] at hv'; exact hv'
    obtain ⟨h5,h6⟩:=hf t v hv2
    rw [fA hsz h5,hdst,if_neg (by simp)]
    exact ⟨h5,h6.carry hle (gV.refl _)⟩
   ·by_cases hk:k=i
    ·subst hk
     rw [hb] at hr; cases hr
     exact ⟨by rw [hfcb]; simp,fun h=>by rw [hon] at h; cases h⟩
    ·exact clause u k r hr hk (hsne k hsk hk)
end
theorem Rd.qd {c:Cx} {ρ:List RE} {a:AV} {v:Value} (h:Rd c ρ a v):Qd c a v:=fun hp=>(dp hp).1 h
theorem du {fr:AFr} {t:Nat}:∀ {U:List Nat},t ∈ U->lookA (bm fr U) t=lookA fr t
 | [],h=>by simp at h
 | u :: r,h=>by
  simp only [bm]
  split
  ·rename_i v hv
   rw [bz]
   by_cases hu:u=t
   ·subst hu; rw [if_pos rfl,hv]
   ·rw [if_neg hu]
    refine du ?_
    rcases List.mem_cons.1 h with rfl | h
    ·exact absurd rfl hu
    ·exact h
  ·rename_i hv
   by_cases hu:u=t
   ·subst hu
    by_cases hr:u ∈ r
    ·exact du hr
    ·rw [hv]
     cases h2:lookA (bm fr r) u with
     | none=>rfl
     | some x=>exact absurd (eB h2).1 hr
   ·refine du ?_
    rcases List.mem_cons.1 h with rfl | h
    ·exact absurd rfl hu
    ·exact h
theorem dt {fr:AFr} {U:List Nat} {x:Operand} (h:∀ t ∈ Operand.sl x,t ∈ U):bT (bm fr U) x=bT fr x:=by
 cases x with
 | tmp i=>exact du (h i (by simp [Operand.sl]))
 | _=>rfl
theorem mm {fr:AFr}:∀ {A B:List Nat},bm fr (A++B)=bm fr A++bm fr B
 | [],_=>rfl
 | a :: r,B=>by
  simp only [List.cons_append,bm,mm (A:=r)]
  split <;> rfl
theorem kK {α β:Type} {R:α->β->Prop}:∀ {a b:List α} {F:List β},All2 R (a++b) F->∃ x y,F=x++y/\All2 R a x/\All2 R b y
 | [],b,F,h=>⟨[],F,rfl,.nil,h⟩
 | p :: a,b,_,h=>by
  cases h with
  | cons h1 h2=>
   obtain ⟨x,y,e,h3,h4⟩:=kK h2
   exact ⟨_ :: x,y,by rw [e]; rfl,.cons h1 h3,h4⟩
theorem wV {A B:Fr} {i:Nat} {v:Value}:look A i=some v->look (A++B) i=some v:=by
 intro h
 induction A with
 | nil=>cases h
 | cons q r ih=>
  obtain ⟨j,u⟩:=q
  rw [List.cons_append,au]
  rw [au] at h
  by_cases hj:j=i
  ·rw [if_pos hj] at h ⊢; exact h
  ·rw [if_neg hj] at h ⊢; exact ih h
theorem jN {g:Bool} {v:TV} {K:TV->Prop} (h:split g v K):∃ v',K v' /\ ∀ c ρ u,Rt c ρ v u->Rt c ρ v' u:=by
 unfold split at h
 split at h
 ·rename_i b hb
  have:=Option.some.inj (bI hb)
  subst this
  exact ⟨_,h,fun _ _ _ h=>h⟩
 ·rename_i e _ he
  have:=Option.some.inj (bI he)
  subst this
  cases hv:e.val with
  | true=>
   refine ⟨_,h.1 ((BE.cb e true).2 hv),fun c ρ u hu=>?_⟩
   have hu:Pd c (.bool e) u:=hu
   cases hu
   rw [hv]; exact Pd.bool (e:=.lit true)
  | false=>
   refine ⟨_,h.2 ((BE.cb e false).2 hv),fun c ρ u hu=>?_⟩
   have hu:Pd c (.bool e) u:=hu
   cases hu
   rw [hv]; exact Pd.bool (e:=.lit false)
 ·exact ⟨_,h,fun _ _ _ h=>h⟩
section
variable {P:Program} {T:List (Nat × TI)} {shp:TypeId->Option Sh} {O:cC} {n:Nat} {ro:Lv} {l:List Oper}
theorem pB {o:Oper} {fr:AFr} {A B:List Nat} {G:Gl} {ρ:List RE} {w:World} {F:Fr} (hf:bK (cx G ρ w) ρ (bm fr (A++B)) F) {φ:Value->World->Prop} (h:∀ FA,bK (cx G ρ w) ρ (bm fr A) FA->cj P n FA w o.op o.type φ):cj P n F w o.op o.type φ:=by
 rw [mm] at hf
 obtain ⟨FA,FB,rfl,h1,_⟩:=kK hf
 exact cj.sub (fun a ha=>⟨ha.1,ha.2.1,fun i v hv=>ha.2.2 i v (wV hv)⟩) (h FA h1)
theorem pure_run {o:Oper} {fr:AFr} {H:AH} {A B σ:List Nat} {v v':TV} {ob fc:List Prop} (hv:∀ c ρ u,Rt c ρ v u->Rt c ρ v' u)
  (h:∀ (G:Gl) (ρ:List RE) (w:World) (F:Fr),G.shp=shp->Rep G ρ (maskH σ 0 H) w->bK (cx G ρ w) ρ (bm fr A) F->(∀ p ∈ ob,p)->Yields P n F w o.op o.type fun u w'=>Kp [] w w' /\ Rt (cx G ρ w') ρ v u/\∀ p ∈ fc,p) (b:Nat) :
  RunOK P shp n ro o ⟨true,o.dst,v',A++B,σ,[],[],b,maskH σ 0 H,none,ob,fc,fr,H⟩:=by
 intro G ρ w F hG hR hf hob
 refine pB hf fun FA hfA=>.inl ((h G ρ w FA hG hR hfA hob).mono fun u w' ⟨h1,h2,h3⟩=>⟨ρ,Stp.kp hR h1,hR.kp h1,hv _ _ _ h2,h3⟩)
theorem wA {c:Cx} {ρ:List RE} {H:AH}:∀ {asx:List AV} {us:List Value},(∀ i,i ∉ bW asx)->All2 (Rd c ρ) asx us->All2 (Qd c) (rL H asx) us
 | [],_,_,h=>by cases h; exact .nil
 | a :: r,_,hn,h=>by
  cases h with
  | cons h1 h2=>
   have hr:∀ i,i ∉ bW r:=fun i hi=>hn i (by cases a <;> simp [bW,hi])
   refine .cons ?_ (wA hr h2)
   have e:a.vw H=a:=by
    cases a with
    | own i=>exact absurd (by simp [bW]) (hn i)
    | sub i _ _=>exact absurd (by simp [bW]) (hn i)
    | _=>rfl
   rw [e]; exact Rd.qd h1
theorem vE (hT:aD P shp T) {G:Gl} {ρ:List RE} {w:World} {F:Fr} {fm:AFr} {Hm:AH} {op:Op} {ty:TypeId} {r:PR} (hG:G.shp=shp) (hR:Rep G ρ Hm w) (hf:bK (cx G ρ w) ρ fm F) (h:vP T fm Hm op=some r):Yields P n F w op ty fun u w'=>Kp [] w w' /\ Rt (cx G ρ w') ρ r.v u/\∀ p ∈ r.fc,p:=by
 subst hG
 unfold vP at h
 split at h
 ·rename_i t m parts
  split at h
  ·rename_i e s sz z l hft hl
   split at h
   ·rename_i xs hown hel
    split at h
    ·rename_i hck
     cases h
     simp only [Bool.and_eq_true] at hck
     have hck:=hck.1
     have hm:=Nat.eq_of_beq_eq_true hck.1.1
     have hsm:=Nat.le_of_ble_eq_true hck.1.2
     have hbm:=Nat.le_of_ble_eq_true hck.2
     obtain ⟨hu,hs⟩:=(hT _ _ hft).2
     obtain ⟨hshp,⟨zz,hz,hzb⟩,_⟩:=hs s rfl
     have hsize:(P.info? e).map (·.size)=some s.size:=by
      cases hq:P.info? e with
      | none=>simp [hq] at hz
      | some i=>simp only [hq,Option.map_some,Option.some.injEq,Prod.mk.injEq] at hz ⊢; exact hz.2.1
     obtain ⟨pv,h1,h2⟩:=fl hf hl
     obtain ⟨vss,h3,h4,h5,h6⟩:=iO hel h2 fun p hp us hus=>wA (fun i hi=>by
      have:=kN hp hi
      rw [hown] at this; simp at this) hus
     have hrun:=R.buildSlice (P:=P) (n:=n) (F:=F) (w:=w) (ty:=ty) (m:=m) hu hsize (rA hz) h1 h3 h4 (by omega) hsm
     have e0:parts.toList.toArray=parts:=by simp
     rw [e0] at hrun
     have hk:=Kp.alloc w (.cells vss.flatten.toArray e)
     have hml:m<=maxLen:=by
      have:=Nat.mul_le_mul_left m (fB s)
      simp only [maxLen]; omega
     have hpd:Pds (cx G ρ (w.alloc (.cells vss.flatten.toArray e))) (xs.flatMap (cellsOf s)) vss.flatten:=h6.carry (Ext.kp hk).le
     refine .inl ⟨_,_,hrun,hk,?_,by simp⟩
     show Pd _ _ _
     rw [<- hm]
     refine .fz (Nat.le_refl _) (by omega) (by rw [hm]; exact hbm) hpd (.inr ⟨_,rfl,⟨⟨by simp,fun ⟨i,r,q1,q2⟩=>by have:=(hR.bnd i r _ q1 q2).2.1; simp at this,fun hz=>by have:=hR.z _ hz; simp at this⟩,.inr ⟨_,e,(0,0),heap_alloc_new w _,hshp⟩⟩,?_⟩)
     exact a_ (sp:=[]) (by rw [List.append_nil]; exact heap_alloc_new w _)
    ·cases h
   ·cases h
  ·cases h
 ·cases h
theorem uj (hT:aD P shp T) {o:Oper} {fr:AFr} {H:AH} {B:List Nat} {id:Nat} {e:Ent} (h:At T ro fr H o.op=some (id,e)) (b:Nat) (res:AH) :
  EntOK P shp n ro o ⟨true,none,.un,dR o.op++B,[],[id],[],b,res,some e,[],[],fr,H⟩ e id/\isSt o.op=true:=by
 unfold At at h
 split at h
 ·rename_i t x y z hop
  have hsl:dR o.op=Operand.sl x++Operand.sl y++Operand.sl z:=by rw [hop]; rfl
  have hmx:∀ t' ∈ Operand.sl x,t' ∈ dR o.op++B:=fun t' h=>by rw [hsl]; simp [h]
  have hmy:∀ t' ∈ Operand.sl y,t' ∈ dR o.op++B:=fun t' h=>by rw [hsl]; simp [h]
  have hmz:∀ t' ∈ Operand.sl z,t' ∈ dR o.op++B:=fun t' h=>by rw [hsl]; simp [h]
  refine ⟨?_,by rw [hop]; rfl⟩
  intro G ρ w F S hG hR hf hkd
  subst hG
  have hf:bK (cx G ρ w) ρ (bm fr (dR o.op++B)) F:=hf
  have hkd:(S[id]?).map kd=(H[id]?).map kd:=hkd
  rw [hop]
  -- what a step on the map's block leaves
  have fin:∀ (g:Nat) (o':AO) (w':World),ρ[id]? = some (.blk g)->(∃ o0,S[id]? = some o0)->Kp [g] w w' -> ro.wr id=true->OR (cx G ρ w') ρ o' (.blk g)->Rep G ρ (S.set id o') w' /\ Stp ro ρ w ρ w':=fun g o' w' hg ⟨o0,ho0⟩ hkp hw ho'=>by
   have hput:=hR.put ho0 hg rfl hkp ho'
   refine ⟨hput.1,hput.2,fun _ _ _ h=>h,fun j r' hj hr'=>⟨hr',fun gx hgx=>hkp.block gx (hR.bnd j r' gx hr' hgx).2.1 ?_⟩,fun _ _ h=>h⟩
   simp only [List.mem_singleton]
   rintro rfl
   have:=hR.inj j id _ _ _ hr' hg hgx rfl
   subst this; rw [hw] at hj; cases hj
  have hext:∀ (g:Nat) (w':World),ρ[id]? = some (.blk g)->Kp [g] w w' -> (cx G ρ w).le (cx G ρ w'):=fun g w' hg hkp=>(show Ext ρ w ρ w' from ⟨hkp.os,hkp.tape,hkp.output,hkp.size,fun b hb hl=>⟨hl,hkp.block b hb (by
   simp only [List.mem_singleton]
   rintro rfl
   exact hl ⟨id,_,hg,rfl⟩)⟩⟩).le
  split at h
  ·rename_i s id' k v hft hx hy hz
   split at h
   ·rename_i s' f x' hgo hown hof
    split at h
    ·rename_i hck
     cases h
     simp only [Bool.and_eq_true,decide_eq_true_eq] at hck
     obtain ⟨⟨rfl,hform⟩,hw⟩:=hck
     obtain ⟨hm,hk,_⟩:=(hT _ _ hft).2
     rw [<- dt hmx] at hx; rw [<- dt hmy] at hy; rw [<- dt hmz] at hz
     obtain ⟨va,h1,g,hg,rfl⟩:=ae hf hx
     obtain ⟨vb,h3,h4⟩:=ae hf hy
     cases h4 with | int=>
     obtain ⟨vz,h5,h6⟩:=ae hf hz
     have hHs:=aN hgo (by simp)
     rw [hHs] at hkd
     obtain ⟨o0,ho0,hk0⟩:=Option.map_eq_some_iff.1 hkd
     have hgo0:=cW ho0
     obtain ⟨r',hr',hor⟩:=hR.at_ ho0
     rw [hg] at hr'; cases hr'
     cases o0 with
     | mapo s2 f2=>
      have hk0:(some (some s2):Option (Option Sh))=some (some s'):=hk0
      have e3:s2=s':=Option.some.inj (Option.some.inj hk0)
      subst e3
      obtain ⟨g',e,a,c,k1,k2,k3⟩:=hor
      cases e
      obtain ⟨w',a'',c',hsk,hkp,hg',hl',hget⟩:=yT (P:=P) (n:=n) (ty:=o.type) h1 h3 h5 hm hk k1 k2
      have hle:=hext g w' hg hkp
      have hV:V1 (cx G ρ w') s2 x' vz:=by
       cases v with
       | c a=>
        have h6:Rd (cx G ρ w) ρ a vz:=h6
        have hp:=aq (vs:=[vz]) hof (.cons (Rd.qd h6) .nil)
        exact ⟨[vz],hp.carry hle,.inr ⟨by simpa [gr] using hform,rfl⟩⟩
       | agg l=>
        obtain ⟨us,e,h6⟩:=h6
        have hp:=aq hof (h6.imp fun _ _ h=>Rd.qd h)
        exact ⟨us,hp.carry hle,.inl ⟨hform,e⟩⟩
      obtain ⟨j1,j2⟩:=fin g (.mapo s2 fun j=>if j=k then some x' else f2 j) w' hg ⟨_,ho0⟩ hkp hw ⟨g,rfl,a'',c',hg',hl',fun q=>by
       rw [hget q]
       show VO _ _ _ (if q=k then some x' else f2 q)
       by_cases hq:q=k
       ·rw [if_pos hq,if_pos hq]; exact hV
       ·rw [if_neg hq,if_neg hq]
        have k4:=k3 q
        cases hgm:getM q a.toList <;> cases hfk:f2 q <;> rw [hgm,hfk] at k4
        ·trivial
        ·exact k4
        ·exact k4
        ·exact V1.carry k4 hle⟩
      refine ⟨w',hsk.1,?_,j2⟩
      rw [hgo0]
      simpa only [Ent.put,dif_pos] using j1
     | mapf l=>cases hk0
     | _=>cases hk0
    ·cases h
   ·cases h
  ·rename_i id' k a hft hx hy hz
   split at h
   ·rename_i l hgo hw
    cases h
    obtain ⟨hm,hk,_⟩:=(hT _ _ hft).2
    rw [<- dt hmx] at hx; rw [<- dt hmy] at hy; rw [<- dt hmz] at hz
    obtain ⟨va,h1,g,hg,rfl⟩:=ae hf hx
    obtain ⟨vb,h3,h4⟩:=ae hf hy
    cases h4 with | int=>
    obtain ⟨vz,h5,h6⟩:=ae hf hz
    have hHs:=aN hgo (by simp)
    rw [hHs] at hkd
    obtain ⟨o0,ho0,hk0⟩:=Option.map_eq_some_iff.1 hkd
    have hgo0:=cW ho0
    obtain ⟨r',hr',hor⟩:=hR.at_ ho0
    rw [hg] at hr'; cases hr'
    cases o0 with
    | mapf l2=>
     obtain ⟨g',e,a',c,k1,k2,k3⟩:=hor
     cases e
     obtain ⟨w',a'',c',hsk,hkp,hg',hl',hget⟩:=yT (P:=P) (n:=n) (ty:=o.type) h1 h3 h5 hm hk k1 k2
     have hle:=hext g w' hg hkp
     obtain ⟨j1,j2⟩:=fin g (.mapf ((k,a) :: l2)) w' hg ⟨_,ho0⟩ hkp hw ⟨g,rfl,a'',c',hg',hl',fun q=>by
      rw [hget q]
      simp only [lookF]
      by_cases hq:q=k
      ·rw [if_pos hq,if_pos hq]; exact Rd.carry h6 hle (gV.refl _)
      ·rw [if_neg hq,if_neg hq]
       have k4:=k3 q
       cases hgm:getM q a'.toList <;> cases hfk:lookF q l2 <;> rw [hgm,hfk] at k4
       ·trivial
       ·exact k4
       ·exact k4
       ·exact Rd.carry k4 hle (gV.refl _)⟩
     refine ⟨w',hsk.1,?_,j2⟩
     rw [hgo0]
     exact j1
    | mapo s f=>cases hk0
    | _=>cases hk0
   ·cases h
  ·cases h
 ·cases h
theorem pq (hT:aD P shp T) (hO:aW P shp O) {fm:AFr} {Hm:AH} {op:Op} {x:XR}:∀ {l:List (List Nat × List Nat)},xF T O ro fm Hm op l=some x->∀ (G:Gl) (ρ:List RE) (w:World) (F:Fr) (ty:TypeId),G.shp=shp->Rep G ρ Hm w->bK (cx G ρ w) ρ fm F->(∀ p ∈ x.ob,p) ->
  cj P n F w op ty fun u w'=>∃ ρ',Stp ⟨fun i=>aQ i x.ch && ro.wr i,fun i=>aQ i x.mv && ro.mv i⟩ ρ w ρ' w' /\ Rep G ρ' x.res w' /\ Rt (cx G ρ' w') ρ' x.v u/\∀ p ∈ x.fc,p
 | [],h,_,_,_,_,_,_,_,_,_=>by cases h
 | (ch,mv) :: r,h,G,ρ,w,F,ty,hG,hR,hf,hob=>by
  simp only [xF] at h
  split at h
  ·rename_i q hq
   cases h
   subst hG
   have:=wk (n:=n) (ty:=ty) hT hO hR hf hq hob
   have key:∀ u w',cU G ⟨fun i=>aQ i ch && ro.wr i,fun i=>aQ i mv && ro.mv i⟩ ρ w q F u w' -> ∃ ρ',Stp ⟨fun i=>aQ i ch && ro.wr i,fun i=>aQ i mv && ro.mv i⟩ ρ w ρ' w' /\ Rep G ρ' q.H w' /\ Rt (cx G ρ' w') ρ' q.v u/\∀ p ∈ q.fc,p:=fun u w' ⟨ρ',h1,h2,_,h3,h4⟩=>⟨ρ',h1,h2,h3,h4⟩
   rcases this with h | ⟨h0,w',h1,h2⟩
   ·exact .inl (h.mono key)
   ·exact .inr ⟨h0,w',h1,key _ _ h2⟩
  ·exact pq hT hO h G ρ w F ty hG hR hf hob
theorem RcOK.ext {rs rs':List RC} {o:Oper} {i:Nat} {r:RC} (h:RcOK P shp n ro l rs o i r) (hi:∀ j,j<i->rs'[j]? = rs[j]?):RcOK P shp n ro l rs' o i r:=
 ⟨h.dst,h.dn,h.st,h.run,h.off,h.gd.imp id fun ⟨j,wt,t,h1,h2,h3,h4⟩=>⟨j,wt,t,h1,h2,h3,h4.imp (fun ⟨rj,k1,k2,k3,k4⟩=>⟨rj,by rw [hi j k2]; exact k1,k2,k3,k4⟩) id⟩⟩
theorem lh:∀ {rs:List RC} {j:Nat},BG rs j=false->∃ r,rs[j]? = some r/\r.on=false/\j<rs.length
 | [],_,h=>by cases h
 | r :: _,0,h=>⟨r,rfl,h,by simp⟩
 | r :: rs,j+1,h=>by
  obtain ⟨r',h1,h2,h3⟩:=lh (rs:=rs) h
  exact ⟨r',by simpa using h1,h2,by simpa using h3⟩
def Chain0:AFr × AH->List RC->Prop
 | _,[]=>True
 | q,r :: rs=>r.fr0=q.1/\r.H0=q.2/\Chain0 (r.app q) rs
theorem Chain0.uW:∀ {a b:List RC} {p:AFr × AH},Chain0 p (a++b)↔Chain0 p a/\Chain0 (prg a p) b
 | [],b,p=>by simp [Chain0,prg]
 | r :: a,b,p=>by simp only [List.cons_append,Chain0,prg,Chain0.uW (a:=a),and_assoc]
theorem Chain0.fit:∀ {rs:List RC} {p:AFr × AH},Chain0 p rs->(∀ r ∈ rs,r.Fit)->cA p rs
 | [],_,_,_=>trivial
 | r :: rs,_,h,hf=>⟨h.1,h.2.1,hf r (by simp),h.2.2.fit fun x hx=>hf x (by simp [hx])⟩
structure Walk (P:Program) (shp:TypeId->Option Sh) (n:Nat) (ro:Lv) (l:List Oper) (q0:AFr × AH) (i:Nat) (done:List RC) (q:AFr × AH):Prop where
 len:done.length=i
 ch:Chain0 q0 done
 st:prg done q0=q
 ok:∀ j o r,l[j]? = some o->done[j]? = some r->RcOK P shp n ro l done o j r
theorem Walk.next {q0 q:AFr × AH} {i:Nat} {done:List RC} (h:Walk P shp n ro l q0 i done q) {o:Oper} (ho:l[i]? = some o) {r:RC} (h1:r.fr0=q.1) (h2:r.H0=q.2) (hr:RcOK P shp n ro l done o i r):Walk P shp n ro l q0 (i+1) (done++[r]) (r.app q):=by
 have hpre:∀ j,j<i->(done++[r])[j]? = done[j]?:=fun j hj=>List.getElem?_append_left (by rw [h.len]; exact hj)
 refine ⟨by simp [h.len],Chain0.uW.2 ⟨h.ch,by rw [h.st]; exact ⟨h1,h2,trivial⟩⟩,by rw [nM,h.st]; rfl,fun j o' r' hj hr'=>?_⟩
 by_cases hji:j<i
 ·rw [hpre j hji] at hr'
  exact (h.ok j o' r' hj hr').ext fun k hk=>hpre k cQ
 ·have hjl:=(List.getElem?_eq_some_iff.1 hr').1
  simp [h.len] at hjl
  have e:j=i:=by omega
  subst e
  rw [List.getElem?_append_right (by rw [h.len]; exact Nat.le_refl _),h.len,Nat.sub_self] at hr'
  simp at hr'; subst hr'
  rw [ho] at hj; cases hj
  exact hr.ext hpre
theorem ph {bef:List Nat}:∀ {rest done:List RC} {j:Nat},qp bef j done rest=true->∀ r ∈ rest,r.Fit
 | [],_,_,_,r,h=>by simp at h
 | x :: rest,done,j,h,r,hr=>by
  simp only [qp,Bool.and_eq_true] at h
  obtain ⟨⟨⟨⟨⟨⟨⟨⟨⟨h1,h2⟩,_⟩,_⟩,_⟩,_⟩,_⟩,_⟩,_⟩,h9⟩:=h
  rcases List.mem_cons.1 hr with rfl | hr
  ·exact ⟨Nat.eq_of_beq_eq_true h1,Nat.le_of_ble_eq_true h2⟩
  ·exact ph h9 r hr
theorem Ds {H:AH} {fr:AFr} {op:Op} {r:PR} (h:pv T O H fr op=some r):isSt op=false:=by cases op <;> first | rfl | simp [pv] at h
theorem zu {H:AH} {fr:AFr} {op:Op} {r:PR} (h:vP T fr H op=some r):isSt op=false:=by cases op <;> first | rfl | simp [vP] at h
theorem xL {H:AH} {fr:AFr} {op:Op} {r:MpR} (h:mapA T H fr op=some r):isSt op=false:=by cases op <;> first | rfl | simp [mapA] at h
theorem fM {j:Nat} {wt:Bool} {t:Nat} (h:idst l j=some t):t ∈ dy l (some (j,wt)):=by simp [dy,h]
theorem wT {fr:AFr} {done:List RC} {g:Option (Nat × Bool)} (h:kb l fr done g=some true):g=none\/∃ j wt t,g=some (j,wt)/\idst l j=some t/\t ∈ dy l g/\∃ b,lookA fr t=some (one (.bool (.lit b)))/\true=(b == wt):=by
 cases g with
 | none=>exact .inl rfl
 | some g=>
  obtain ⟨j,wt⟩:=g
  right
  simp only [kb] at h
  split at h
  ·rename_i t ht
   split at h
   ·cases h
   ·rename_i b _ hb
    exact ⟨j,wt,t,rfl,ht,fM ht,b,hb,(Option.some.inj h).symm⟩
   ·cases h
  ·cases h
theorem sy {fr:AFr} {done:List RC} {i:Nat} (hi:done.length=i) {g:Option (Nat × Bool)} (h:kb l fr done g=some false):∃ j wt t,g=some (j,wt)/\idst l j=some t/\t ∈ dy l g/\((∃ rj,done[j]? = some rj/\j<i/\rj.on=false/\false=false)\/∃ b,lookA fr t=some (one (.bool (.lit b)))/\false=(b == wt)):=by
 cases g with
 | none=>cases h
 | some g=>
  obtain ⟨j,wt⟩:=g
  simp only [kb] at h
  split at h
  ·rename_i t ht
   split at h
   ·rename_i ho
    obtain ⟨r,h1,h2,h3⟩:=lh ho
    exact ⟨j,wt,t,rfl,ht,fM ht,.inl ⟨r,h1,by omega,h2,rfl⟩⟩
   ·rename_i b _ hb
    exact ⟨j,wt,t,rfl,ht,fM ht,.inr ⟨b,hb,(Option.some.inj h).symm⟩⟩
   ·cases h
  ·cases h
theorem drop_cons {i:Nat} {o:Oper} {rest:List Oper} (h:l.drop i=o :: rest):l[i]? = some o/\l.drop (i+1)=rest:=by
 constructor
 ·have:=congrArg (·[0]?) h
  simpa using this
 ·have:=congrArg (List.drop 1) h
  simpa [List.drop_drop,Nat.add_comm] using this
theorem sf (hT:aD P shp T) (hO:aW P shp O) {K:AFr->AH->Prop} {q0:AFr × AH}:∀ (m i:Nat) (rest:List Oper) (fr:AFr) (H:AH) (done:List RC),l.drop i=rest->i<=l.length->eR n rest=true->Walk P shp n ro l q0 i done (fr,H)->xw T O ro l K m i rest fr H done ->
  ∃ rs,Walk P shp n ro l q0 l.length rs (prg rs q0)/\Ez l rs=true/\lE (Db rs (dQ [] l) rs) (gI (Cj rs) (K (kg (prg rs q0).1 []) (prg rs q0).2))
 | 0,_,_,_,_,_,_,_,_,_,h=>h.elim
 | m+1,i,[],fr,H,done,hd,hil,_,hw,h=>by
  simp only [xw] at h
  have hi:i=l.length:=by
   have:=congrArg List.length hd
   simp at this; omega
  subst hi
  split at h
  ·rename_i hok
   refine ⟨done,by rw [hw.st]; exact hw,hok,?_⟩
   rw [hw.st]; exact h
  ·exact h.elim
 | m+1,i,o :: rest,fr,H,done,hd,hil,hdo,hw,h=>by
  obtain ⟨ho,hd2⟩:=drop_cons hd
  have hil2:i+1<=l.length:=(List.getElem?_eq_some_iff.1 ho).1
  have hdn:∀ d,o.dst=some d->Nat.blt d n=true:=fun d hdd=>eT hdo o (by simp) d hdd
  have hdr:eR n rest=true:=by simp only [eR,Bool.and_eq_true] at hdo; exact hdo.2
  have ih:=fun rc (hrc:RcOK P shp n ro l done o i rc) (h1:rc.fr0=fr) (h2:rc.H0=H) (h:xw T O ro l K m (i+1) rest (rc.app (fr,H)).1 (rc.app (fr,H)).2 (done++[rc]))=>sf hT hO m (i+1) rest _ _ _ hd2 hil2 hdr (hw.next ho h1 h2 hrc) h
  simp only [xw] at h
  split at h
  ·-- it is not run
   rename_i hg
   obtain ⟨j,wt,t,h1,h2,h3,h4⟩:=sy hw.len hg
   exact ih _ ⟨rfl,hdn,(fun h=>by cases h),(fun h=>by cases h),fun _=>⟨rfl,rfl,rfl,rfl,rfl,rfl,rfl⟩,.inr ⟨j,wt,t,h1,h2,h3,h4⟩⟩ rfl rfl h
  ·-- it is run
   rename_i hg
   have hgd:∀ U,(o.guard=none/\true=true)\/∃ j wt t,o.guard=some (j,wt)/\idst l j=some t/\t ∈ U++dy l o.guard/\((∃ rj,done[j]? = some rj/\j<i/\rj.on=false/\true=false)\/∃ b,lookA fr t=some (one (.bool (.lit b)))/\true=(b == wt)):=fun U=>by
    rcases wT hg with h | ⟨j,wt,t,h1,h2,h3,h4⟩
    ·exact .inl ⟨h,rfl⟩
    ·exact .inr ⟨j,wt,t,h1,h2,List.mem_append_right _ h3,.inr h4⟩
   split at h
   ·-- a pick
    rename_i t x y hop
    split at h
    ·rename_i b hlk
     split at h
     ·rename_i v hev
      obtain ⟨v',h,hv⟩:=jN h
      refine ih _ ⟨rfl,hdn,(fun _ hs=>by rw [hop] at hs; cases hs),fun _=>.inl ⟨rfl,?_⟩,(fun h=>by cases h),hgd _⟩ rfl rfl h
      refine pure_run (A:=t :: Operand.sl (cond b x y)) (σ:=[]) (v:=v) hv (fun G ρ w F hG hR hf _=>?_) _
      have e1:lookA (bm fr (t :: Operand.sl (cond b x y))) t=some (one (.bool (.lit b))):=by rw [du (by simp)]; exact hlk
      obtain ⟨vt,k1,k2⟩:=cN hf e1
      have k2:=se k2
      subst k2
      rw [<- dt (U:=t :: Operand.sl (cond b x y)) (fun t' ht=>by simp [ht])] at hev
      obtain ⟨u,k3,k4⟩:=ae hf hev
      rw [hop]
      refine .inl ⟨u,w,?_,Kp.refl w,k4,by simp⟩
      cases b with
      | true=>exact R.pP k1 rfl k3
      | false=>exact R.pM k1 rfl k3
     ·exact h.elim
    ·exact h.elim
   ·split at h
    ·-- an entry is put
     rename_i id e hins
     obtain ⟨k1,k2⟩:=uj (P:=P) (n:=n) hT (B:=dy l o.guard) hins H.length (maskH [] 0 H)
     split at h
     ·rename_i rc hdst
      refine ih _ ⟨hdst.symm,hdn,fun _ _=>hdst,fun _=>.inr ⟨e,id,rfl,rfl,rfl,rfl,rfl,by rw [iJ],k2,k1⟩,(fun h=>by cases h),hgd _⟩ rfl rfl h
     ·exact h.elim
    ·split at h
     ·-- a map of functions
      rename_i mr hmp
      obtain ⟨v',h,hv⟩:=jN (fZ h)
      refine ih _ ⟨rfl,hdn,(fun _ hs=>by rw [xL hmp] at hs; cases hs),fun _=>.inl ⟨rfl,?_⟩,(fun h=>by cases h),hgd _⟩ rfl rfl h
      refine pure_run hv (fun G ρ w F hG hR hf _=>?_) _
      subst hG
      obtain ⟨u,j1,j2⟩:=oG (n:=n) (ty:=o.type) hT hR hf hmp
      exact .inl ⟨u,w,j1,Kp.refl w,j2,by simp⟩
     ·split at h
      ·rename_i r hr
       obtain ⟨v',h,hv⟩:=jN h
       have hr0:=hr
       unfold DZ at hr
       dsimp only at hr
       split at hr
       ·rename_i r' hrow
        cases hr
        refine ih _ ⟨rfl,hdn,(fun _ hs=>by rw [zu hrow] at hs; cases hs),fun _=>.inl ⟨rfl,?_⟩,(fun h=>by cases h),hgd _⟩ rfl rfl h
        exact pure_run hv (fun G ρ w F hG hR hf _=>vE hT hG hR hf hrow) _
       ·split at hr
        ·rename_i r' hpv
         cases hr
         refine ih _ ⟨rfl,hdn,(fun _ hs=>by rw [Ds hpv] at hs; cases hs),fun _=>.inl ⟨rfl,?_⟩,(fun h=>by cases h),hgd _⟩ rfl rfl h
         exact pure_run hv (fun G ρ w F hG hR hf hob=>by subst hG; exact jR hT hO hR hf hpv hob) _
        ·split at hr
         ·rename_i hst
          refine ih _ ⟨rfl,hdn,(fun _ hs=>by
           unfold ye at hst
           rw [hs] at hst
           cases hdst:o.dst with
           | none=>rfl
           | some d=>rw [hdst] at hst; cases hst),fun _=>.inl ⟨rfl,?_⟩,(fun h=>by cases h),hgd _⟩ rfl rfl h
          intro G ρ w F hG hR hf hob
          refine pB hf fun FA hfA=>?_
          have hk:=pq (n:=n) hT hO hr G ρ w FA o.type hG hR hfA hob
          have key:∀ u w',(∃ ρ',Stp ⟨fun i=>aQ i r.ch && ro.wr i,fun i=>aQ i r.mv && ro.mv i⟩ ρ w ρ' w' /\ Rep G ρ' r.res w' /\ Rt (cx G ρ' w') ρ' r.v u/\∀ p ∈ r.fc,p)->∃ ρ',Stp ⟨fun i=>aQ i r.ch && ro.wr i,fun i=>aQ i r.mv && ro.mv i⟩ ρ w ρ' w' /\ Rep G ρ' r.res w' /\ Rt (cx G ρ' w') ρ' v' u/\∀ p ∈ r.fc,p:=fun u w' ⟨ρ',j1,j2,j3,j4⟩=>⟨ρ',j1,j2,hv _ _ _ j3,j4⟩
          rcases hk with hk | ⟨h0,w',j1,j2⟩
          ·exact .inl (hk.mono key)
          ·exact .inr ⟨h0,w',j1,key _ _ j2⟩
         ·cases hr
      ·exact h.elim
  ·exact h.elim
end
section
variable {P:Program} {T:List (Nat × TI)} {G:Gl} {O:cC} {n k:Nat} {l:List Oper} {ρ:List RE} {H:AH} {fr:AFr} {F:Fr} {ds:List DV} {vs:Nat->Value} {f g:DV->Value->World->Prop}
def iF (ds:List DV) (f:DV->Value->World->Prop):List Sp:=ds.map fun a=>⟨a.deps,[],f a⟩
theorem js {i:Nat} {a:DV} (h:ds[i]? = some a):spAt (iF ds f) i=⟨a.deps,[],f a⟩:=by
 simp [spAt,iF,List.getD_eq_getElem?_getD,h]
theorem tn {i:Nat}:(spAt (iF ds f) i).deps=((ds[i]?).map DV.deps).getD []:=by
 cases h:ds[i]? with
 | none=>simp [spAt,iF,List.getD_eq_getElem?_getD,h]
 | some a=>rw [js h]; rfl
theorem t_ {sl:List Nat}:fH l (iF ds f) sl k=fH l (iF ds g) sl k:=by
 simp only [fH,tn]
 simp only [iF,List.length_map]
theorem lb:∀ {ds:List DV},qS (iF ds f)=[]
 | []=>rfl
 | _ :: r=>lb (ds:=r)
theorem jO:∀ {ds:List DV} {i:Nat},jZ (iF ds f) i=[]
 | [],_=>rfl
 | _ :: r,0=>lb (ds:=r)
 | _ :: r,i+1=>jO (ds:=r) (i:=i)
theorem rP (h:∀ a u w w',f a u w->Kp [] w w' -> f a u w'):∀ {r:List DV} {i:Nat},gk (iF ds f) i (iF r f)
 | [],_=>trivial
 | a :: r,i=>⟨fun u w w' hv hk=>h a u w w' hv (by rwa [jO] at hk),rP h (r:=r)⟩
theorem vk {Q:List Sp} {w:World}:∀ {r:List Oper} {i:Nat},(∀ j o,r[j]? = some o->∀ vs w1,Kp (jZ Q (i+j)) w w1->cO Q vs w1 (spAt Q (i+j)).deps->WO P (jd n (idst l (i+j)) (spAt Q (i+j)).S (spAt Q (i+j)).V w1) n l [o] (bB l F vs (spAt Q (i+j)).deps) w1)->jI P n l Q F w i r
 | [],_,_=>trivial
 | o :: r,i,h=>⟨h 0 o rfl,vk fun j o' ho=>by
  have:=h (j+1) o' (by simpa using ho)
  rwa [show i+(j+1)=i+1+j by omega] at this⟩
theorem mn:∀ {r:List Oper} {p ds:List DV},nh T O H fr r p=some ds->(∃ q,ds=p++q/\q.length=r.length)/\∀ i o,r[i]? = some o->∃ a,ds[p.length+i]? = some a/\ku T O H fr (ds.take (p.length+i)) o=some a
 | [],p,ds,h=>by cases h; exact ⟨⟨[],by simp⟩,fun i o ho=>by simp at ho⟩
 | o :: r,p,ds,h=>by
  simp only [nh] at h
  split at h
  ·rename_i a ha
   obtain ⟨⟨q,h1,h2⟩,h3⟩:=mn h
   refine ⟨⟨a :: q,by rw [h1]; simp,by simp [h2]⟩,fun i o' ho=>?_⟩
   cases i with
   | zero=>
    simp only [List.getElem?_cons_zero,Option.some.injEq] at ho
    subst ho
    refine ⟨a,?_,?_⟩
    ·rw [h1]; simp
    ·have:ds.take (p.length+0)=p:=by rw [h1]; simp
     rw [this]; exact ha
   | succ i=>
    obtain ⟨b,h4,h5⟩:=h3 i o' (by simpa using ho)
    have e:(p++[a]).length+i=p.length+(i+1):=by simp; omega
    rw [e] at h4 h5
    exact ⟨b,h4,h5⟩
  ·cases h
theorem me {p:List DV} {o:Oper} {a:DV} (h:ku T O H fr p o=some a):o.dst=some a.d/\∃ sl,a.deps=bM sl 0 p:=by
 unfold ku at h
 split at h
 ·rename_i d ch gs hd hc
  rw [hd]
  split at h
  ·split at h
   ·split at h
    ·cases h; exact ⟨rfl,_,rfl⟩
    ·cases h
   ·split at h
    ·cases h; exact ⟨rfl,_,rfl⟩
    ·cases h
  ·cases h
 ·cases h
theorem kH {Q:List Sp} {w:World}:∀ {deps:List Nat},cO Q vs w deps->∀ j ∈ deps,(spAt Q j).V (vs j) w
 | [],_,j,hj=>by simp at hj
 | i :: r,h,j,hj=>by
  rcases List.mem_cons.1 hj with rfl | hj
  ·exact h.1
  ·exact kH h.2 j hj
theorem nT:∀ {ds:List DV} {i:Nat} {a:DV},ds[i]? = some a->∀ q ∈ a.ob,q ∈ Ap ds
 | [],i,a,h,_,_=>by simp at h
 | b :: r,0,a,h,q,hq=>by simp at h; subst h; exact List.mem_append_left _ hq
 | b :: r,i+1,a,h,q,hq=>List.mem_append_right _ (nT (ds:=r) (i:=i) (by simpa using h) q hq)
theorem oV:∀ {ds:List DV} {q:Prop},q ∈ wF ds->∃ (i:Nat) (a:DV),ds[i]? = some a/\q ∈ a.fc
 | [],q,h=>by simp [wF] at h
 | b :: r,q,h=>by
  rcases List.mem_append.1 h with h | h
  ·exact ⟨0,b,rfl,h⟩
  ·obtain ⟨i,a,h1,h2⟩:=oV h
   exact ⟨i+1,a,by simpa using h1,h2⟩
theorem pS {c:Cx} {D:Fr} (hf:bK c ρ fr F) (hF:∀ i v,look F i=some v->look D i=some v):∀ {r:List DV},(∀ a ∈ r,a.ch=[]->∃ u,look D a.d=some u/\Rt c ρ a.v u)->∃ F',bK c ρ (oS r fr) F' /\ ∀ i v,look F' i=some v->look D i=some v
 | [],_=>⟨F,hf,hF⟩
 | a :: r,h=>by
  obtain ⟨F',h1,h2⟩:=pS hf hF (r:=r) fun b hb=>h b (by simp [hb])
  unfold oS
  split
  ·rename_i hc
   obtain ⟨u,h3,h4⟩:=h a (by simp) hc
   refine ⟨(a.d,u) :: F',.cons ⟨rfl,h4⟩ h1,fun i v hv=>?_⟩
   rw [au] at hv
   by_cases hi:a.d=i
   ·subst hi; rw [if_pos rfl] at hv; cases hv; exact h3
   ·rw [if_neg hi] at hv; exact h2 i v hv
  ·exact ⟨F',h1,h2⟩
theorem jH {i:Nat}:∀ {deps:List Nat},(∀ j ∈ deps,idst l j≠some i)->look (bB l F vs deps) i=look F i
 | [],_=>rfl
 | j :: r,h=>by
  have ih:=jH (i:=i) (deps:=r) fun j hj=>h j (by simp [hj])
  unfold bB
  split
  ·rename_i d hd
   rw [au,if_neg (fun e=>h j (by simp) (by rw [hd,e]))]
   exact ih
  ·exact ih
theorem wN {c:Cx} (hf:bK c ρ fr F):fr.map (·.1)=F.map (·.1):=by
 induction hf with
 | nil=>rfl
 | cons h _ ih=>simp [h.1,ih]
end
theorem rf {s:Nat->Bool}:∀ {rs:List RC} {k:Nat} {q:AFr × AH},(∀ i,k<=i->i<k+rs.length->s i=true)->dI s k rs q=prg rs q
 | [],_,_,_=>rfl
 | r :: rs,k,q,h=>by
  simp only [dI,prg]
  rw [h k (Nat.le_refl _) (by simp),cond_true]
  exact rf fun i h1 h2=>h i cQ (by simp at h2 ⊢; omega)
theorem pn:∀ {rs:List RC} {k:Nat} {q:AFr × AH},∃ m,dI (fun _=>false) k rs q=(q.1,q.2++List.replicate m .gone)
 | [],_,q=>⟨0,by simp [dI]⟩
 | r :: rs,k,q=>by
  obtain ⟨m,h⟩:=pn (rs:=rs) (k:=k+1) (q:=r.sO q)
  refine ⟨(r.res.length - r.base)+m,?_⟩
  simp only [dI,cond_false]
  rw [h]
  simp only [RC.sO,List.append_assoc,List.replicate_append_replicate]
theorem Rep.Fx {G:Gl} {ρ:List RE} {H:AH} {w:World} (h:Rep G ρ H w) (m:Nat):Rep G (ρ++List.replicate m RE.no) (H++List.replicate m .gone) w/\(cx G ρ w).le (cx G (ρ++List.replicate m RE.no) w)/\gV ρ (ρ++List.replicate m RE.no)/\∀ ro,Stp ro ρ w (ρ++List.replicate m RE.no) w:=by
 have key:∀ i r,(ρ++List.replicate m RE.no)[i]? = some r->r≠RE.no->ρ[i]? = some r:=fun i r hi hne=>by
  by_cases hl:i<ρ.length
  ·rw [List.getElem?_append_left hl] at hi; exact hi
  ·rw [List.getElem?_append_right (by omega),List.getElem?_replicate] at hi
   split at hi
   ·cases hi; exact absurd rfl hne
   ·cases hi
 have hlv:∀ b,live (ρ++List.replicate m RE.no) b->live ρ b:=fun b ⟨i,r,h1,h2⟩=>⟨i,r,key i r h1 (by rintro rfl; cases h2),h2⟩
 have hext:Ext ρ w (ρ++List.replicate m RE.no) w:=⟨rfl,rfl,rfl,Nat.le_refl _,fun b _ hl=>⟨fun k=>hl (hlv b k),rfl⟩⟩
 have hag:=cX ρ (List.replicate m .no)
 refine ⟨⟨?_,fun i j r r' g h1 h2 h3 h4=>h.inj i j r r' g (key i r h1 (by rintro rfl; cases h3)) (key j r' h2 (by rintro rfl; cases h4)) h3 h4,fun i r g h1 h2=>h.bnd i r g (key i r h1 (by rintro rfl; cases h2)) h2,h.z,h.b0,h.tb.carry hext.le⟩,hext.le,hag,fun ro=>⟨hext,fun i r _ hr=>?_,fun i r _ hr=>⟨?_,fun _ _=>rfl⟩,fun i g hg=>hag i _ hg (by simp)⟩⟩
 ·refine All2.append (bl h.obj.length fun i o r ho hr=>?_) ?_
  ·obtain ⟨r',hr',hor⟩:=h.at_ ho
   rw [hr] at hr'; cases hr'
   exact hor.carry hext.le hag fun _ _=>rfl
  ·refine bl (by simp) fun i o r ho hr=>?_
   rw [List.getElem?_replicate] at ho hr
   by_cases hi:i<m
   ·rw [if_pos hi] at ho hr; cases ho; cases hr; rfl
   ·rw [if_neg hi] at ho; cases ho
 ·rw [List.getElem?_append_left (List.getElem?_eq_some_iff.1 hr).1]; exact hr
 ·rw [List.getElem?_append_left (List.getElem?_eq_some_iff.1 hr).1]; exact hr
theorem gu {t:Nat} {v:TV}:∀ {fr:AFr} {l:List Nat},(t,v) ∈ kg fr l->t ∉ l/\lookA fr t=some v
 | [],_,h=>by simp [kg] at h
 | (i,x) :: r,l,h=>by
  simp only [kg] at h
  cases hm:aQ i l <;> rw [hm] at h
  ·rcases List.mem_cons.1 h with e | h
   ·cases e
    refine ⟨fun hl=>?_,by rw [bz,if_pos rfl]⟩
    rw [aF.2 hl] at hm; cases hm
   ·obtain ⟨h1,h2⟩:=gu h
    simp only [List.mem_cons,not_or] at h1
    exact ⟨h1.2,by rw [bz,if_neg (fun e=>h1.1 e.symm)]; exact h2⟩
  ·obtain ⟨h1,h2⟩:=gu h
   refine ⟨h1,?_⟩
   rw [bz,if_neg]
   ·exact h2
   ·rintro rfl; exact h1 (aF.1 hm)
theorem lH {m:Nat} {p:Prop}:∀ {rs:List RC} {k:Nat},p ∈ lI m k rs->∃ j r,rs[j]? = some r/\bitN m (k+j)=true/\p ∈ r.fc
 | [],_,h=>by simp [lI] at h
 | r :: rs,k,h=>by
  simp only [lI,List.mem_append] at h
  rcases h with h | h
  ·cases hb:bitN m k <;> rw [hb] at h
   ·simp at h
   ·exact ⟨0,r,rfl,hb,h⟩
  ·obtain ⟨j,r',h1,h2,h3⟩:=lH h
   exact ⟨j+1,r',by simpa using h1,by rwa [show k+(j+1)=k+1+j by omega],h3⟩
theorem wH {all:List RC}:∀ {bef:List Nat} {rs:List RC},bef.length=rs.length->(∀ p ∈ Db all bef rs,p)->∀ i r,rs[i]? = some r->(∀ p ∈ lI (bef.getD i 0) 0 all,p)->∀ p ∈ r.ob,p
 | _,[],_,_,i,r,h,_=>by simp at h
 | [],_ :: _,hl,_,_,_,_,_=>by simp at hl
 | m :: bef,b :: rs,hl,h,i,r,hr,hf=>by
  simp only [Db] at h
  cases i with
  | zero=>
   simp at hr; subst hr
   intro p hp
   have h1:=fun q hq=>h q (List.mem_append_left _ hq)
   cases ho:b.ob with
   | nil=>rw [ho] at hp; simp at hp
   | cons x y=>
    rw [ho] at h1
    exact ck.1 (bV.1 (h1 _ (List.mem_singleton_self _)) hf) p (by rw [<- ho]; exact hp)
  | succ i=>
   exact wH (by simpa using hl) (fun q hq=>h q (List.mem_append_right _ hq)) i r (by simpa using hr) (by simpa using hf)
theorem sk:∀ {rs:List RC} {p:Prop},p ∈ Cj rs->∃ (j:Nat) (r:RC),rs[j]? = some r/\p ∈ r.fc
 | [],_,h=>by simp [Cj] at h
 | r :: rs,p,h=>by
  simp only [Cj,List.mem_append] at h
  rcases h with h | h
  ·exact ⟨0,r,rfl,h⟩
  ·obtain ⟨j,r',h1,h2⟩:=sk h
   exact ⟨j+1,r',by simpa using h1,h2⟩
theorem oD {P:Program} {T:List (Nat × TI)} {O:cC} {G:Gl} {n:Nat} {ro:Lv} {l:List Oper} {ρ0:List RE} {w0:World} {Q:Exit->Act->World->Prop} {id:Nat} (hT:aD P G.shp T) (hO:aW P G.shp O) (hm:P.follows .mixedOrders=true) (hro:∀ i,ro.wr i=false\/ro.mv i=false->i<ρ0.length) {K:AFr->AH->Prop} {fr:AFr} {H:AH} {F:Fr} {w:World} (hd:eR n l=true)
  (h:Bp T O ro l K fr H) (hst:St G ro ρ0 w0 fr H F w) (hK:∀ fr H F w,K fr H->St G ro ρ0 w0 fr H F w->WX Q n .normal F w):WC P Q n (.region id l.toArray true) F w:=by
 obtain ⟨ρ,hS,hR,hf⟩:=hst
 obtain ⟨rs,hw,hok,hgoal⟩:=sf (n:=n) hT hO _ 0 l fr H [] (by simp) (Nat.zero_le _) hd ⟨rfl,trivial,rfl,fun j o r _ hr=>by simp at hr⟩ h
 simp only [Ez,Bool.and_eq_true] at hok
 obtain ⟨⟨hp,hlen⟩,hok⟩:=hok
 have hlen:=Nat.eq_of_beq_eq_true hlen
 have hp:∀ i,∀ j ∈ aI l i,j<i:=fun i j hj=>by have:=ja hp i j hj; omega
 have hc:=hw.ch.fit (ph hok)
 obtain ⟨hobs,hfin⟩:=ee.1 hgoal
 have hbl:(dQ [] l).length=rs.length:=by rw [pf,hlen]; simp
 have hq0:∀ i,i<ρ0.length->(ro.wr i=false\/ro.mv i=false)->i<H.length:=fun i hi hh=>by
  rw [hR.obj.length]
  have hr0:=List.getElem?_eq_getElem hi
  rcases hh with hh | hh
  ·exact (List.getElem?_eq_some_iff.1 (hS.pro i _ hh hr0).1).1
  ·exact (List.getElem?_eq_some_iff.1 (hS.loc i _ hh hr0)).1
 intro a ha
 refine CS hm (Inv:=xX G ro ρ0 w0 n (fr,H) rs) hp (fun s a w h=>by obtain ⟨_,_,_,_,h,_⟩:=h; exact h) (fun s a w i o inv ho hsi hpre hcl=>?_) (fun s a w inv hall=>?_) ?_
 ·refine vY rfl hro hq0 hp hc hok hlen hw.ok (fun i r hr hfc=>wH hbl hobs i r hr fun p hp=>?_) inv ho hsi hpre hcl
  obtain ⟨j,r',h1,h2,h3⟩:=lH hp
  rw [Nat.zero_add] at h2
  exact hfc j r' h1 h2 p h3
 ·obtain ⟨ρ',k1,k2,k3,k4,k5,k6⟩:=inv
  rw [rf fun i _ hi=>hall i (by omega)] at k2 k3
  have hk:=bV.1 hfin fun p hp=>by
   obtain ⟨j,r,h1,h2⟩:=sk hp
   exact (k6 j r h1 (hall j (by have:=(List.getElem?_eq_some_iff.1 h1).1; omega))).1 p h2
  refine hK _ _ (pU a (kg (prg rs (fr,H)).1 [])) w hk ⟨ρ',k1,k2,jB fun q hq=>(k3 q.1 q.2 (gu hq).2).2⟩ a ⟨k4,k5,fun i v hv=>?_⟩
  obtain ⟨h1,tv,h2⟩:=iH hv
  have h3:lookA (prg rs (fr,H)).1 i=some tv:=by
   have:∀ {fr:AFr} {l:List Nat},lookA (kg fr l) i=some tv->(i,tv) ∈ kg fr l:=by
    intro fr l
    generalize kg fr l=x
    induction x with
    | nil=>intro h; cases h
    | cons q r ih=>
     obtain ⟨j,u⟩:=q
     rw [bz]
     split
     ·rename_i hj; subst hj; intro h; cases h; simp
     ·intro h; exact List.mem_cons_of_mem _ (ih h)
   exact (gu (this h2)).2
  exact ⟨(k3 i tv h3).1,h1.symm⟩
 ·obtain ⟨m,hm2⟩:=pn (rs:=rs) (k:=0) (q:=(fr,H))
  have hkp:Kp [] w { w with drawn:=w.drawn+1 }:=(Kp.refl w).drew
  obtain ⟨g1,g2,g3,g4⟩:=(hR.kp hkp).Fx m
  refine ⟨_,(hS.trans (Stp.kp hR hkp)).trans (g4 ro),by rw [hm2]; exact g1,fun t v hv=>?_,ha.1,ha.2.1,fun k r _ hk=>by cases hk⟩
  rw [hm2] at hv
  obtain ⟨u,h1,h2⟩:=cN (hf.kp hkp) hv
  obtain ⟨h3,h4⟩:=ha.2.2 t u h1
  exact ⟨h3,by rw [h4]; exact h2.carry g2 g3⟩
theorem oy {P:Program} {T:List (Nat × TI)} {shp:TypeId->Option Sh} {O:cC} (hT:aD P shp T) (hO:aW P shp O) (hm:P.follows .mixedOrders=true):mX P shp T O:=by
 intro G n ro ρ0 w0 hshp hro Q k0 id L ops K fr H F w hd h hst hK
 subst hshp
 obtain ⟨ρ,hS,hR,hf⟩:=hst
 simp only [nO] at h
 generalize vC T O H fr ops.toList [] 0=k at h
 split at h
 ·rename_i ds hds
  split at h
  ·rename_i hB
   obtain ⟨hob,h⟩:=ee.1 h
   rw [bV] at h
   have hB1:fH ops.toList (iF ds fun a u w=>DVal G ρ ds a u w) (F.map (·.1)) k=true:=by
    rw [t_ (g:=fun _ _ _=>True),<- wN hf]; exact hB
   have hB2:=hB1
   simp only [fH,Bool.and_eq_true,decide_eq_true_eq,List.all_eq_true,List.mem_range,Bool.or_eq_true] at hB2
   obtain ⟨⟨⟨⟨hnl,hsp⟩,hops⟩,_⟩,_⟩:=hB2
   have hdl:ds.length=k:=by simpa [iF] using hsp
   obtain ⟨_,hat⟩:=mn hds
   simp only [List.length_nil,Nat.zero_add] at hat
   have hlt:∀ i a,ds[i]? = some a->i<k:=fun i a h=>by rw [<- hdl]; exact (List.getElem?_eq_some_iff.1 h).1
   have hdst:∀ (j:Nat) (a:DV),ds[j]? = some a->idst ops.toList j=some a.d:=fun j a ha=>by
    have hj:=hlt j a ha
    have hjl:j<ops.toList.length:=by omega
    obtain ⟨b,h1,h2⟩:=hat j (ops.toList[j]) (by rw [List.getElem?_take,if_pos hj,List.getElem?_eq_getElem hjl])
    rw [ha] at h1; cases h1
    rw [ek,List.getElem?_eq_getElem hjl]
    exact (me h2).1
   have hfree:∀ (j:Nat) (a:DV),ds[j]? = some a->a.d ∉ F.map (·.1)/\∀ i,i<k->i=j\/idst ops.toList i≠some a.d:=fun j a ha=>by
    have:=(hops j (hlt j a ha)).2
    rw [hdst j a ha] at this
    simp only [Bool.and_eq_true,Bool.not_eq_true',List.all_eq_true,List.mem_range,Bool.or_eq_true,beq_iff_eq,bne_iff_ne,List.contains_eq_mem,decide_eq_false_iff_not] at this
    exact this
   have hdist:∀ (i j:Nat) (a b:DV),ds[i]? = some a->ds[j]? = some b->a.d=b.d->i=j:=fun i j a b ha hb he=>by
    rcases (hfree j b hb).2 i (hlt i a ha) with h | h
    ·exact h
    ·rw [hdst i a ha,he] at h; exact absurd rfl h
   have e:ops=ops.toList.toArray:=by simp
   have hdt:eR n (ops.toList.take k)=true/\eR n (ops.toList.drop k)=true:=by
    rw [<- gL,List.take_append_drop]; exact hd
   rw [e]
   refine WC.CM hm _ k hB1 (rP (f:=fun a u w=>DVal G ρ ds a u w) (ds:=ds) (r:=ds) fun a u w w' h hk=>DVal.kp h hk) (vk fun j o ho vs w1 hk hfacts=>?_) fun vs w1 hk hfacts=>?_
   ·rw [Nat.zero_add] at hk hfacts ⊢
    rw [jO] at hk
    obtain ⟨a,ha,hstep⟩:=hat j o ho
    rw [js ha] at hfacts ⊢
    obtain ⟨hod,sl,hsl⟩:=me hstep
    rw [hdst j a ha]
    refine (yx (l:=ops.toList) (vs:=vs) hT hO hstep ⟨fun i b hb=>(nb hb).1,hdst,hdist,fun i hi=>?_⟩ (fun ch g=>oo) (fun q hq=>hob q (nT ha q hq)) (eT hdt.1 o (List.mem_of_getElem? ho)) (hR.kp hk) (hf.kp hk)).2
    have hv:=kH hfacts i hi
    rw [hsl] at hi
    obtain ⟨i',b,e1,e2,_⟩:=b_.1 hi
    rw [Nat.zero_add] at e1; subst e1
    rw [js (nb e2).1] at hv
    exact ⟨b,e2,hv⟩
   ·rw [lb] at hk
    have hall:∀ j a,ds[j]? = some a->DVal G ρ ds a (vs j) w1:=fun j a ha=>by
     have:=kH hfacts j (List.mem_range.2 (hlt j a ha))
     rwa [js ha] at this
    have hctx:DCtx G ρ ops.toList ds vs ds (List.range k) w1:=⟨fun _ _ h=>h,hdst,hdist,fun j hj=>by
     have hj:=List.mem_range.1 hj
     have hj2:j<ds.length:=by omega
     exact ⟨_,List.getElem?_eq_getElem hj2,hall j _ (List.getElem?_eq_getElem hj2)⟩⟩
    have hfc:∀ p ∈ wF ds,p:=fun p hp=>by
     obtain ⟨i,a,h1,h2⟩:=oV hp
     exact (hall i a h1).1 p h2
    obtain ⟨F',h1,h2⟩:=pS (D:=bB ops.toList F vs (List.range k)) (hf.kp hk) (fun i v hv=>by
     rw [jH fun j hj he=>?_]
     ·exact hv
     ·have hj:=List.mem_range.1 hj
      have hj2:j<ds.length:=by omega
      have:=hdst j _ (List.getElem?_eq_getElem hj2)
      rw [he] at this
      have h3:=(hfree j _ (List.getElem?_eq_getElem hj2)).1
      rw [<- Option.some.inj this] at h3
      exact h3 (List.mem_map.2 (oQ hv))) (r:=ds) (fun a ha hc=>by
     obtain ⟨j,hj⟩:=List.getElem?_of_mem ha
     refine ⟨vs j,hctx.look (List.mem_range.2 (hlt j a hj)) hj,(hall j a hj).2.1 ?_⟩
     rw [hc]
     exact fun q hq=>by simp at hq)
    have:=gX (Q:=Q) (l:=ops.toList) hT hO hK _ _ _ _ F' w1 hdt.2 (h hfc) ⟨ρ,hS.trans (Stp.kp hR hk),hR.kp hk,h1⟩
    exact fun a ha=>this a (ha.sub h2)
  ·have e:ops=ops.toList.toArray:=by simp
   rw [e]
   exact oD hT hO hm hro hd h ⟨ρ,hS,hR,hf⟩ hK
 ·have e:ops=ops.toList.toArray:=by simp
  rw [e]
  exact oD hT hO hm hro hd h ⟨ρ,hS,hR,hf⟩ hK
def ai:List (Nat × TI)->TypeId->Option Sh
 | [],_=>none
 | (_,⟨.sl e (some s),_,_⟩) :: r,t=>bif Nat.beq e t then some s else ai r t
 | _ :: r,t=>ai r t
def Ek (P:Program):List Go.Field->List (Nat × Nat)->Bool
 | [],[]=>true
 | f :: r,q :: l=>(match P.info? f.type with
  | some i=>Nat.beq f.offset q.1 && Nat.beq i.size q.2 && Nat.blt 0 q.2
  | none=>false) && Ek P r l
 | _,_=>false
def FK (s:Sh) (z:Value):Bool:=match s.iD,z with
 | true,.agg a=>nN (cellsOf s (aY s)) a.toList
 | true,_=>false
 | false,z=>nN (cellsOf s (aY s)) [z]
theorem Az {s:Sh} {z:Value} (h:FK s z=true):∃ zs,nN (cellsOf s (aY s)) zs=true/\((s.iD=true/\z = .agg zs.toArray)\/(s.iD=false/\zs=[z])):=by
 unfold FK at h
 split at h
 ·rename_i a hs
  exact ⟨a.toList,h,.inl ⟨hs,by simp⟩⟩
 ·cases h
 ·exact ⟨[_],h,.inr ⟨by assumption,rfl⟩⟩
def Cv (P:Program) (T:List (Nat × TI)) (t:TypeId) (ti:TI):Bool:=match ti.k,P.underlying t with
 | .i k,some (.int k')=>decide (k' = k)
 | .bool,some .bool=>true
 | .str,some .string=>true
 | .sl e so,some (.slice e')=>Nat.beq e' e && (match so with
  | none=>true
  | some s=>decide (ai T e=some s) && (match P.info? e with
   | some i=>Nat.beq i.size s.size && Nat.beq i.bytes s.bytes && (match i.zero with
    | some z=>nN (cellsOf s (aY s)) z.cells.toList
    | none=>false)
   | none=>false) && (match s with
   | .u8=>(match P.underlying e,(P.info? e).bind (·.zero) with
    | some (.int k),some (.int k' z)=>decide (k = .u8) && decide (k' = .u8) && decide (z=0)
    | _,_=>false)
   | _=>true))
 | .st fs,some (.struct F)=>Ek P F.toList fs && (match zU ti.zero with
  | some ks=>Eh P t ks
  | none=>true)
 | .ar n e,some (.array n' e')=>Nat.beq n' n && Nat.beq e' e
 | .mp k e so,some (.map k' e')=>Nat.beq k' k && Nat.beq e' e && (match P.underlying k with
  | some (.int ik)=>decide (ik = .i64)
  | _=>false) && (match so with
  | none=>match (P.info? e).bind (·.zero) with
   | some .nilFunc=>true
   | _=>false
  | some s=>match (P.info? e).bind (·.zero) with
   | some z=>FK s z
   | none=>false)
 | .ifc,some (.interface _)=>true
 | .ms k e,some (.map k' e')=>Nat.beq k' k && Nat.beq e' e && (match P.underlying k with
  | some .string=>true
  | _=>false) && (match (P.info? e).bind (·.zero) with
  | some (.int .i64 0)=>true
  | _=>false)
 | .ptr,some d=>!ga d
 | .fn,some d=>!ga d
 | .oth,some d=>!ga d
 | _,_=>false
def Eg (P:Program) (T:List (Nat × TI)) (t:TypeId) (ti:TI):Bool:=(match P.info? t with
 | some i=>Nat.beq i.size ti.size && (match i.zero with
  | some z=>nN ti.zero z.cells.toList
  | none=>false)
 | none=>false) && Cv P T t ti
def zt (P:Program) (T:List (Nat × TI)):List (Nat × TI)->Bool
 | []=>true
 | (t,ti) :: r=>Eg P T t ti && zt P T r
theorem uS {P:Program}:∀ {F:List Go.Field} {fs:List (Nat × Nat)},Ek P F fs=true->F.mapM (fun f=>(P.info? f.type).map fun i=>(f.offset,i.size))=some fs/\∀ q ∈ fs,0<q.2
 | [],[],_=>⟨rfl,by simp⟩
 | [],_ :: _,h=>by cases h
 | _ :: _,[],h=>by cases h
 | f :: F,(a,b) :: fs,h=>by
  simp only [Ek,Bool.and_eq_true] at h
  obtain ⟨h1,h2⟩:=h
  obtain ⟨h3,h4⟩:=uS h2
  split at h1
  ·rename_i i hi
   simp only [Bool.and_eq_true] at h1
   have e1:=Nat.eq_of_beq_eq_true h1.1.1
   have e2:=Nat.eq_of_beq_eq_true h1.1.2
   have e3:0<b:=by have:=(Nat.blt_eq).mp h1.2; exact this
   refine ⟨by rw [List.mapM_cons,hi,h3,e1,<- e2]; rfl,fun q hq=>?_⟩
   rcases List.mem_cons.1 hq with rfl | hq
   ·exact e3
   ·exact h4 q hq
  ·cases h1
theorem BQ {P:Program} {T:List (Nat × TI)} {t:TypeId} {ti:TI} (h:Eg P T t ti=true):CB P (ai T) t ti:=by
 simp only [Eg,Bool.and_eq_true] at h
 obtain ⟨h1,h2⟩:=h
 refine ⟨?_,?_⟩
 ·split at h1
  ·rename_i i hi
   simp only [Bool.and_eq_true] at h1
   obtain ⟨h3,h4⟩:=h1
   refine ⟨by rw [hi,Option.map_some,Nat.eq_of_beq_eq_true h3],?_⟩
   split at h4
   ·rename_i z hz
    exact ⟨z.cells.toList,by simp [hi,hz],h4⟩
   ·cases h4
  ·cases h1
 ·unfold Cv at h2
  split at h2
  ·rename_i k k' hk hu
   simp only [hk]; rw [hu,of_decide_eq_true h2]
  ·rename_i hk hu
   simp only [hk]; exact hu
  ·rename_i hk hu
   simp only [hk]; exact hu
  ·rename_i e so e' hk hu
   simp only [hk]
   simp only [Bool.and_eq_true] at h2
   have e1:=Nat.eq_of_beq_eq_true h2.1
   subst e1
   refine ⟨hu,fun s hs=>?_⟩
   subst hs
   have h3:=h2.2
   simp only [Bool.and_eq_true,decide_eq_true_eq] at h3
   obtain ⟨⟨h3,h4⟩,h5⟩:=h3
   refine ⟨h3,?_,?_⟩
   ·split at h4
    ·rename_i i hi
     simp only [Bool.and_eq_true] at h4
     obtain ⟨⟨h6,h7⟩,h8⟩:=h4
     split at h8
     ·rename_i z hz
      refine ⟨z.cells.toList,?_,h8⟩
      rw [hi,Option.map_some,hz,Nat.eq_of_beq_eq_true h6,Nat.eq_of_beq_eq_true h7]
      simp
     ·cases h8
    ·cases h4
   ·rintro rfl
    simp only at h5
    split at h5
    ·rename_i k k' z hk hz
     simp only [Bool.and_eq_true,decide_eq_true_eq] at h5
     obtain ⟨⟨rfl,rfl⟩,rfl⟩:=h5
     exact ⟨hk,hz⟩
    ·cases h5
  ·rename_i fs F hk hu
   simp only [hk]
   simp only [Bool.and_eq_true] at h2
   obtain ⟨h3,h4⟩:=uS h2.1
   refine ⟨F,hu,h3,h4,fun ks hks=>?_⟩
   have h5:=h2.2
   rw [hks] at h5
   exact h5
  ·rename_i n e n' e' hk hu
   simp only [hk]
   simp only [Bool.and_eq_true] at h2
   rw [hu,Nat.eq_of_beq_eq_true h2.1,Nat.eq_of_beq_eq_true h2.2]
  ·rename_i k e so k' e' hk hu
   simp only [hk]
   simp only [Bool.and_eq_true] at h2
   obtain ⟨⟨⟨h3,h4⟩,h5⟩,h6⟩:=h2
   rw [Nat.eq_of_beq_eq_true h3,Nat.eq_of_beq_eq_true h4] at hu
   refine ⟨hu,?_,fun s hs=>?_,fun hn=>?_⟩
   ·split at h5
    ·rename_i ik hik
     rw [hik,of_decide_eq_true h5]
    ·cases h5
   ·subst hs
    simp only at h6
    split at h6
    ·rename_i z hz
     obtain ⟨zs,h7,h8⟩:=Az h6
     exact ⟨z,zs,hz,h7,h8⟩
    ·cases h6
   ·subst hn
    simp only at h6
    split at h6
    ·assumption
    ·cases h6
  ·rename_i ms hk hu
   simp only [hk]
   simp only [Program.methodsAt,hu]
  ·rename_i k e k' e' hk hu
   simp only [hk]
   simp only [Bool.and_eq_true] at h2
   obtain ⟨⟨⟨h3,h4⟩,h5⟩,h6⟩:=h2
   rw [Nat.eq_of_beq_eq_true h3,Nat.eq_of_beq_eq_true h4] at hu
   refine ⟨hu,?_,?_⟩
   ·split at h5
    ·assumption
    ·cases h5
   ·split at h6
    ·assumption
    ·cases h6
  ·rename_i d hk hu
   simp only [hk]
   exact ⟨d,hu,by simpa using h2⟩
  ·rename_i d hk hu
   simp only [hk]
   exact ⟨d,hu,by simpa using h2⟩
  ·rename_i d hk hu
   simp only [hk]
   exact ⟨d,hu,by simpa using h2⟩
  ·cases h2
theorem lJ {t:TypeId} {ti:TI}:∀ {T:List (Nat × TI)},aE T t=some ti->(t,ti) ∈ T
 | [],h=>by cases h
 | (j,v) :: r,h=>by
  simp only [aE] at h
  cases hb:Nat.beq j t <;> rw [hb] at h
  ·exact List.mem_cons_of_mem _ (lJ h)
  ·cases h
   rw [Nat.eq_of_beq_eq_true hb]
   simp
theorem pz {P:Program} {T:List (Nat × TI)}:∀ {r:List (Nat × TI)},zt P T r=true->∀ q ∈ r,Eg P T q.1 q.2=true
 | [],_,q,hq=>by simp at hq
 | (t,ti) :: r,h,q,hq=>by
  simp only [zt,Bool.and_eq_true] at h
  rcases List.mem_cons.1 hq with rfl | hq
  ·exact h.1
  ·exact pz h.2 q hq
theorem AY {P:Program} {T:List (Nat × TI)} (h:zt P T T=true):aD P (ai T) T:=fun _ _ ht=>BQ (pz h _ (lJ ht))
end Go.Proofs.YtagpmhlokhoanaaDoor
namespace Go.Proofs.YtagpmhlokhoanaaDoor
def aX:List (Nat × TI):=[
 (1,⟨.fn,1,[.nf]⟩),
 (2,⟨.i .i64,1,[.int 0]⟩),
 (3,⟨.i .i64,1,[.int 0]⟩),
 (4,⟨.bool,1,[.bool (.lit false)]⟩),
 (5,⟨.i .u8,1,[.u8 0]⟩),
 (6,⟨.i .u8,1,[.u8 0]⟩),
 (9,⟨.str,1,[.str ⟨[]⟩]⟩),
 (10,⟨.str,1,[.str ⟨[]⟩]⟩),
 (11,⟨.str,1,[.str ⟨[]⟩]⟩),
 (12,⟨.i .u64,1,[.u64 0]⟩),
 (15,⟨.ptr,1,[.np]⟩),
 (16,⟨.ptr,1,[.np]⟩),
 (17,⟨.ptr,1,[.np]⟩),
 (18,⟨.st [(0,1)],1,[.np]⟩),
 (19,⟨.st [(0,1)],1,[.np]⟩),
 (20,⟨.ifc,1,[.xx (.er true) []]⟩),
 (22,⟨.sl 3 (some .int),1,[.em true]⟩),
 (23,⟨.st [(0,1),(1,1),(2,1),(3,1),(4,1),(5,1),(6,1),(7,1)],8,[.int 0,.int 0,.int 0,.int 0,.int 0,.int 0,.em true,.str ⟨[]⟩]⟩),
 (24,⟨.st [(0,1),(1,1),(2,1),(3,1),(4,1),(5,1),(6,1),(7,1)],8,[.int 0,.int 0,.int 0,.int 0,.int 0,.int 0,.em true,.str ⟨[]⟩]⟩),
 (25,⟨.st [(0,1),(1,1),(2,1),(3,8)],11,[.int 0,.int 0,.int 0,.int 0,.int 0,.int 0,.int 0,.int 0,.int 0,.em true,.str ⟨[]⟩]⟩),
 (26,⟨.st [(0,1),(1,1),(2,1),(3,8)],11,[.int 0,.int 0,.int 0,.int 0,.int 0,.int 0,.int 0,.int 0,.int 0,.em true,.str ⟨[]⟩]⟩),
 (27,⟨.fn,1,[.nf]⟩),
 (28,⟨.fn,1,[.nf]⟩),
 (29,⟨.i .i64,1,[.int 0]⟩),
 (31,⟨.fn,1,[.nf]⟩),
 (32,⟨.fn,1,[.nf]⟩),
 (34,⟨.fn,1,[.nf]⟩),
 (35,⟨.fn,1,[.nf]⟩),
 (36,⟨.sl 26 (some (.nm .event)),1,[.em true]⟩),
 (37,⟨.fn,1,[.nf]⟩),
 (38,⟨.fn,1,[.nf]⟩),
 (39,⟨.fn,1,[.nf]⟩),
 (41,⟨.fn,1,[.nf]⟩),
 (42,⟨.fn,1,[.nf]⟩),
 (43,⟨.fn,1,[.nf]⟩),
 (44,⟨.fn,1,[.nf]⟩),
 (45,⟨.ar 10 9,10,[.str ⟨[]⟩,.str ⟨[]⟩,.str ⟨[]⟩,.str ⟨[]⟩,.str ⟨[]⟩,.str ⟨[]⟩,.str ⟨[]⟩,.str ⟨[]⟩,.str ⟨[]⟩,.str ⟨[]⟩]⟩),
 (46,⟨.sl 9 (some .str),1,[.em true]⟩),
 (47,⟨.fn,1,[.nf]⟩),
 (48,⟨.fn,1,[.nf]⟩),
 (49,⟨.fn,1,[.nf]⟩),
 (50,⟨.fn,1,[.nf]⟩),
 (51,⟨.fn,1,[.nf]⟩),
 (52,⟨.fn,1,[.nf]⟩),
 (54,⟨.fn,1,[.nf]⟩),
 (55,⟨.fn,1,[.nf]⟩),
 (56,⟨.fn,1,[.nf]⟩),
 (57,⟨.fn,1,[.nf]⟩),
 (58,⟨.sl 5 (some .u8),1,[.em true]⟩),
 (59,⟨.fn,1,[.nf]⟩),
 (60,⟨.ptr,1,[.np]⟩),
 (61,⟨.st [(0,1),(1,1)],2,[.np,.em true]⟩),
 (62,⟨.st [(0,1),(1,1)],2,[.np,.em true]⟩),
 (63,⟨.ifc,1,[.xx (.er true) []]⟩),
 (64,⟨.ifc,1,[.xx (.er true) []]⟩),
 (66,⟨.fn,1,[.nf]⟩),
 (67,⟨.fn,1,[.nf]⟩),
 (68,⟨.fn,1,[.nf]⟩),
 (69,⟨.i .u64,1,[.u64 0]⟩),
 (70,⟨.fn,1,[.nf]⟩),
 (71,⟨.fn,1,[.nf]⟩),
 (72,⟨.ms 9 3,1,[.dead]⟩),
 (73,⟨.fn,1,[.nf]⟩),
 (74,⟨.sl 75 none,1,[.em true]⟩),
 (75,⟨.ptr,1,[.np]⟩),
 (76,⟨.fn,1,[.nf]⟩),
 (77,⟨.ptr,1,[.np]⟩),
 (79,⟨.fn,1,[.nf]⟩),
 (80,⟨.fn,1,[.nf]⟩),
 (81,⟨.ptr,1,[.np]⟩),
 (82,⟨.fn,1,[.nf]⟩),
 (83,⟨.fn,1,[.nf]⟩),
 (84,⟨.fn,1,[.nf]⟩),
 (85,⟨.fn,1,[.nf]⟩),
 (86,⟨.fn,1,[.nf]⟩),
 (88,⟨.fn,1,[.nf]⟩),
 (89,⟨.ar 24 5,24,[.u8 0,.u8 0,.u8 0,.u8 0,.u8 0,.u8 0,.u8 0,.u8 0,.u8 0,.u8 0,.u8 0,.u8 0,.u8 0,.u8 0,.u8 0,.u8 0,.u8 0,.u8 0,.u8 0,.u8 0,.u8 0,.u8 0,.u8 0,.u8 0]⟩),
 (90,⟨.i .u64,1,[.u64 0]⟩),
 (91,⟨.fn,1,[.nf]⟩),
 (92,⟨.fn,1,[.nf]⟩),
 (94,⟨.fn,1,[.nf]⟩),
 (95,⟨.fn,1,[.nf]⟩),
 (96,⟨.i .i64,1,[.int 0]⟩),
 (98,⟨.fn,1,[.nf]⟩),
 (99,⟨.ptr,1,[.np]⟩),
 (100,⟨.fn,1,[.nf]⟩),
 (101,⟨.fn,1,[.nf]⟩),
 (103,⟨.fn,1,[.nf]⟩),
 (104,⟨.fn,1,[.nf]⟩),
 (105,⟨.fn,1,[.nf]⟩),
 (106,⟨.ar 20 90,20,[.u64 0,.u64 0,.u64 0,.u64 0,.u64 0,.u64 0,.u64 0,.u64 0,.u64 0,.u64 0,.u64 0,.u64 0,.u64 0,.u64 0,.u64 0,.u64 0,.u64 0,.u64 0,.u64 0,.u64 0]⟩),
 (108,⟨.ar 65 5,65,[.u8 0,.u8 0,.u8 0,.u8 0,.u8 0,.u8 0,.u8 0,.u8 0,.u8 0,.u8 0,.u8 0,.u8 0,.u8 0,.u8 0,.u8 0,.u8 0,.u8 0,.u8 0,.u8 0,.u8 0,.u8 0,.u8 0,.u8 0,.u8 0,.u8 0,.u8 0,.u8 0,.u8 0,.u8 0,.u8 0,.u8 0,.u8 0,.u8 0,.u8 0,.u8 0,.u8 0,.u8 0,.u8 0,.u8 0,.u8 0,.u8 0,.u8 0,.u8 0,.u8 0,.u8 0,.u8 0,.u8 0,.u8 0,.u8 0,.u8 0,.u8 0,.u8 0,.u8 0,.u8 0,.u8 0,.u8 0,.u8 0,.u8 0,.u8 0,.u8 0,.u8 0,.u8 0,.u8 0,.u8 0,.u8 0]⟩),
 (109,⟨.fn,1,[.nf]⟩),
 (111,⟨.fn,1,[.nf]⟩),
 (112,⟨.st [(0,1),(1,1),(2,1)],3,[.str ⟨[]⟩,.str ⟨[]⟩,.xx (.er true) []]⟩),
 (113,⟨.st [(0,1),(1,1),(2,1)],3,[.str ⟨[]⟩,.str ⟨[]⟩,.xx (.er true) []]⟩),
 (114,⟨.fn,1,[.nf]⟩),
 (115,⟨.fn,1,[.nf]⟩),
 (116,⟨.fn,1,[.nf]⟩),
 (117,⟨.fn,1,[.nf]⟩),
 (118,⟨.ptr,1,[.np]⟩),
 (124,⟨.ar 16 123,32,[.u8 0,.u8 0,.u8 0,.u8 0,.u8 0,.u8 0,.u8 0,.u8 0,.u8 0,.u8 0,.u8 0,.u8 0,.u8 0,.u8 0,.u8 0,.u8 0,.u8 0,.u8 0,.u8 0,.u8 0,.u8 0,.u8 0,.u8 0,.u8 0,.u8 0,.u8 0,.u8 0,.u8 0,.u8 0,.u8 0,.u8 0,.u8 0]⟩),
 (126,⟨.fn,1,[.nf]⟩),
 (127,⟨.ar 32 5,32,[.u8 0,.u8 0,.u8 0,.u8 0,.u8 0,.u8 0,.u8 0,.u8 0,.u8 0,.u8 0,.u8 0,.u8 0,.u8 0,.u8 0,.u8 0,.u8 0,.u8 0,.u8 0,.u8 0,.u8 0,.u8 0,.u8 0,.u8 0,.u8 0,.u8 0,.u8 0,.u8 0,.u8 0,.u8 0,.u8 0,.u8 0,.u8 0]⟩),
 (128,⟨.ar 64 5,64,[.u8 0,.u8 0,.u8 0,.u8 0,.u8 0,.u8 0,.u8 0,.u8 0,.u8 0,.u8 0,.u8 0,.u8 0,.u8 0,.u8 0,.u8 0,.u8 0,.u8 0,.u8 0,.u8 0,.u8 0,.u8 0,.u8 0,.u8 0,.u8 0,.u8 0,.u8 0,.u8 0,.u8 0,.u8 0,.u8 0,.u8 0,.u8 0,.u8 0,.u8 0,.u8 0,.u8 0,.u8 0,.u8 0,.u8 0,.u8 0,.u8 0,.u8 0,.u8 0,.u8 0,.u8 0,.u8 0,.u8 0,.u8 0,.u8 0,.u8 0,.u8 0,.u8 0,.u8 0,.u8 0,.u8 0,.u8 0,.u8 0,.u8 0,.u8 0,.u8 0,.u8 0,.u8 0,.u8 0,.u8 0]⟩),
 (129,⟨.st [(0,1),(1,1),(2,1),(3,1)],4,[.np,.np,.np,.str ⟨[]⟩]⟩),
 (130,⟨.st [(0,1),(1,1),(2,1),(3,1)],4,[.np,.np,.np,.str ⟨[]⟩]⟩),
 (131,⟨.ar 0 16,0,[]⟩),
 (134,⟨.fn,1,[.nf]⟩),
 (135,⟨.i .u8,1,[.u8 0]⟩),
 (136,⟨.i .u8,1,[.u8 0]⟩),
 (137,⟨.fn,1,[.nf]⟩)]
end Go.Proofs.YtagpmhlokhoanaaDoor
namespace Go.Proofs.YtagpmhlokhoanaaDoor
theorem ni:aD Tryd.prog (ai aX) aX:=AY (by kernel_rfl)
theorem uy:Tryd.prog.follows .mixedOrders=true:=by kernel_rfl
end Go.Proofs.YtagpmhlokhoanaaDoor
namespace Go.Proofs.YtagpmhlokhoanaaDoor
open Go.RowKit
def Ct (a b:TV1):Prop:=∀ c ρ v,bt c ρ a v->bt c ρ b v
def sw:List TV1->List TV1->Prop
 | [],[]=>True
 | a :: r,b :: l=>Ct a b/\sw r l
 | _,_=>False
theorem sw.rd {c:Cx} {ρ:List RE}:∀ {aa bs:List TV1} {vs:List Value},sw aa bs->All2 (bt c ρ) aa vs->All2 (bt c ρ) bs vs
 | [],[],_,_,h=>h
 | [],_ :: _,_,h,_=>h.elim
 | _ :: _,[],_,h,_=>h.elim
 | _ :: _,_ :: _,_,h,k=>by cases k with | cons k1 k2=>exact .cons (h.1 _ _ _ k1) (sw.rd h.2 k2)
structure PU (α:Type) where
 p:TV1->Option α
 u:α->TV1
def PU.OK {α:Type} (A:PU α):Prop:=∀ a y,A.p a=some y->Ct a (A.u y)
def kT (s:Sh):PU (den s):=⟨fun | .agg l=>db s l | _=>none,fun x=>.agg (cellsOf s x)⟩
theorem kU {s:Sh}:(kT s).OK:=fun a y h=>by
 cases a with
 | c a=>cases h
 | agg l=>exact fun c ρ v ⟨vs,e,hv⟩=>⟨vs,e,ei (aq h (hv.imp fun _ _ h=>Rd.qd h))⟩
structure PC (α:Type) where
 p:AV->Option α
 u:α->AV
def PC.OK {α:Type} (A:PC α):Prop:=∀ a y,A.p a=some y->∀ c ρ v,Rd c ρ a v->Rd c ρ (A.u y) v
def cI:PC Int:=⟨AV.aP,.int⟩
def cY:PC UInt8:=⟨AV.zH,.u8⟩
def cS:PC Str:=⟨AV.rT,.str⟩
def cB:PC Bool:=⟨AV.qi,fun b=>.bool (.atom b)⟩
def cL (s:Sh):PC (List (den s)):=⟨AV.eJ s,.fz s⟩
def pN (i:Nat):PC Unit:=⟨fun | .own j=>bif Nat.beq j i then some () else none | _=>none,fun _=>.own i⟩
def ff (i o:Nat):PC Unit:=⟨fun | .ptr j k=>bif Nat.beq j i && Nat.beq k o then some () else none | _=>none,fun _=>.ptr i o⟩
def k_:List (Nat × Nat)->List (Nat × Nat)->Bool
 | [],[]=>true
 | (i,o) :: r,(j,k) :: l=>Nat.beq i j && Nat.beq o k && k_ r l
 | _,_=>false
def ER:PC Unit:=⟨fun | .np=>some () | _=>none,fun _=>.np⟩
def Cl (b:Bool):PC Unit:=⟨fun | .em b'=>bif b' == b then some () else none | _=>none,fun _=>.em b⟩
def Cc (cs:List (Nat × Nat)):AV->Option Unit
 | .xx .pl b=>bif k_ b cs then some () else none
 | _=>none
def Di (cs:List (Nat × Nat)):PC Unit:=⟨Cc cs,fun _=>.xx .pl cs⟩
def Cb (cs:List (Nat × Nat)):AV->Option Unit
 | .xx .bp b=>bif k_ b cs then some () else none
 | _=>none
def CC (i o:Nat):PC Unit:=⟨Cb [(i,o)],fun _=>.xx .bp [(i,o)]⟩
theorem eW {A:AV} {y:AV} (h:∀ c v,Qd c A v->Pd c y v):∀ c ρ v,Rd c ρ A v->Rd c ρ y v:=fun c ρ v hv=>eX (h c v (Rd.qd hv))
theorem bn:cI.OK:=fun a y h=>eW fun _ _ hv=>Pd.aP h hv
theorem zW:cY.OK:=fun a y h=>eW fun _ _ hv=>Pd.zH h hv
theorem ea:cS.OK:=fun a y h=>eW fun _ _ hv=>Pd.rT h hv
theorem po:cB.OK:=fun a y h=>eW fun _ _ hv=>Pd.qi h hv
theorem dG {s:Sh}:(cL s).OK:=fun a y h=>eW fun _ _ hv=>Pd.eJ h hv
theorem fp {i:Nat}:(pN i).OK:=fun a y h c ρ v hv=>by
 cases a <;> simp only [pN] at h <;> try cases h
 rename_i j
 cases hb:Nat.beq j i <;> rw [hb] at h <;> cases h
 rw [Nat.eq_of_beq_eq_true hb] at hv; exact hv
theorem bH {i o:Nat}:(ff i o).OK:=fun a y h c ρ v hv=>by
 cases a <;> simp only [ff] at h <;> try cases h
 rename_i j k
 cases hb:(Nat.beq j i && Nat.beq k o) <;> rw [hb] at h <;> cases h
 simp only [Bool.and_eq_true] at hb
 rw [Nat.eq_of_beq_eq_true hb.1,Nat.eq_of_beq_eq_true hb.2] at hv; exact hv
theorem kr:∀ {a b:List (Nat × Nat)},k_ a b=true->a=b
 | [],[],_=>rfl
 | [],_ :: _,h=>by cases h
 | _ :: _,[],h=>by cases h
 | (i,o) :: r,(j,k) :: l,h=>by
  simp only [k_,Bool.and_eq_true] at h
  rw [Nat.eq_of_beq_eq_true h.1.1,Nat.eq_of_beq_eq_true h.1.2,kr h.2]
theorem mN {cs:List (Nat × Nat)}:(Di cs).OK:=fun a y h c ρ v hv=>by
 replace h:Cc cs a=some y:=h
 unfold Cc at h
 split at h
 ·rename_i b
  cases hb:k_ b cs with
  | false=>rw [hb] at h; cases h
  | true=>rw [kr hb] at hv; exact hv
 ·cases h
theorem mY {i o:Nat}:(CC i o).OK:=fun a y h c ρ v hv=>by
 replace h:Cb [(i,o)] a=some y:=h
 unfold Cb at h
 split at h
 ·rename_i b
  cases hb:k_ b [(i,o)] with
  | false=>rw [hb] at h; cases h
  | true=>rw [kr hb] at hv; exact hv
 ·cases h
theorem B_:ER.OK:=fun a y h c ρ v hv=>by cases a <;> simp only [ER] at h <;> first | exact hv | cases h
theorem mC {b:Bool}:(Cl b).OK:=fun a y h c ρ v hv=>by
 cases a <;> simp only [Cl] at h <;> try cases h
 rename_i b'
 cases hb:(b' == b) <;> rw [hb] at h <;> cases h
 have:=beq_iff_eq.1 hb
 subst this; exact hv
structure PL (α:Type) where
 p:List AV->Option α
 u:α->List AV
def PL.OK {α:Type} (A:PL α):Prop:=∀ l y,A.p l=some y->∀ c ρ vs,All2 (Rd c ρ) l vs->All2 (Rd c ρ) (A.u y) vs
def dK:PL Unit:=⟨fun | []=>some () | _=>none,fun _=>[]⟩
def aB {α β:Type} (A:PC α) (R:PL β):PL (α × β):=⟨fun
 | a :: r=>match A.p a,R.p r with
  | some x,some y=>some (x,y)
  | _,_=>none
 | _=>none,fun q=>A.u q.1 :: R.u q.2⟩
theorem bc:dK.OK:=fun l y h c ρ vs hv=>by cases l <;> simp only [dK] at h <;> first | exact hv | cases h
theorem ab {α β:Type} {A:PC α} {R:PL β} (hA:A.OK) (hR:R.OK):(aB A R).OK:=fun l y h c ρ vs hv=>by
 cases l with
 | nil=>cases h
 | cons a r=>
  simp only [aB] at h
  split at h
  ·rename_i h1 h2
   cases h
   cases hv with
   | cons k1 k2=>exact .cons (hA _ _ h1 _ _ _ k1) (hR _ _ h2 _ _ _ k2)
  ·cases h
def kC {α:Type} (A:PC α):PU α:=⟨fun | .c a=>A.p a | _=>none,fun y=>.c (A.u y)⟩
theorem aL {α:Type} {A:PC α} (hA:A.OK):(kC A).OK:=fun a y h=>by
 cases a with
 | c a=>exact fun c ρ v hv=>hA _ _ h c ρ v hv
 | agg l=>cases h
structure PT (α:Type) where
 p:List TV1->Option α
 u:α->List TV1
def PT.OK {α:Type} (A:PT α):Prop:=∀ l y,A.p l=some y->sw l (A.u y)
def bP:PT Unit:=⟨fun | []=>some () | _=>none,fun _=>[]⟩
def aC {α β:Type} (A:PU α) (R:PT β):PT (α × β):=⟨fun
 | a :: r=>match A.p a,R.p r with
  | some x,some y=>some (x,y)
  | _,_=>none
 | _=>none,fun q=>A.u q.1 :: R.u q.2⟩
theorem ay:bP.OK:=fun l y h=>by cases l <;> simp only [bP] at h <;> first | exact trivial | cases h
theorem ag {α β:Type} {A:PU α} {R:PT β} (hA:A.OK) (hR:R.OK):(aC A R).OK:=fun l y h=>by
 cases l with
 | nil=>cases h
 | cons a r=>
  simp only [aC] at h
  split at h
  ·rename_i h1 h2
   cases h
   exact ⟨hA _ _ h1,hR _ _ h2⟩
  ·cases h
structure PO (α:Type) where
 p:AO->Option α
 u:α->AO
def PO.OK {α:Type} (A:PO α):Prop:=∀ o y,A.p o=some y->∀ c ρ r,OR c ρ o r->OR c ρ (A.u y) r
def dL {α:Type} (t:TypeId) (R:PL α):PO α:=⟨fun | .box t' cs=>bif Nat.beq t' t then R.p cs else none | _=>none,fun y=>.box t (R.u y)⟩
def n_ (t:TypeId) (s:Sh):PO (List (den s)):=⟨fun | .row t' s' xs=>bif Nat.beq t' t then (if h:s' = s then some (h ▸ xs) else none) else none | _=>none,fun xs=>.row t s xs⟩
theorem bd {α:Type} {t:TypeId} {R:PL α} (hR:R.OK):(dL t R).OK:=fun o y h c ρ r hr=>by
 cases o <;> simp only [dL] at h <;> try cases h
 rename_i t' cs
 cases hb:Nat.beq t' t <;> rw [hb] at h
 ·cases h
 ·have:=Nat.eq_of_beq_eq_true hb
  subst this
  obtain ⟨g,vs,e,h1,h2⟩:=hr
  exact ⟨g,vs,e,h1,hR _ _ h _ _ _ h2⟩
theorem fw {t:TypeId} {s:Sh}:(n_ t s).OK:=fun o y h c ρ r hr=>by
 cases o <;> simp only [n_] at h <;> try cases h
 rename_i t' s' xs
 cases hb:Nat.beq t' t <;> rw [hb] at h
 ·cases h
 ·have:=Nat.eq_of_beq_eq_true hb
  subst this
  simp only [cond_true] at h
  split at h
  ·rename_i e
   subst e
   cases h
   exact hr
  ·cases h
structure PH (α:Type) where
 p:AH->Option α
 u:α->AH
def PH.OK {α:Type} (A:PH α):Prop:=∀ H y,A.p H=some y->∀ c ρ ρ',All2 (OR c ρ) H ρ' -> All2 (OR c ρ) (A.u y) ρ'
def bO:PH Unit:=⟨fun | []=>some () | _=>none,fun _=>[]⟩
def bE {α β:Type} (A:PO α) (R:PH β):PH (α × β):=⟨fun
 | a :: r=>match A.p a,R.p r with
  | some x,some y=>some (x,y)
  | _,_=>none
 | _=>none,fun q=>A.u q.1 :: R.u q.2⟩
theorem az:bO.OK:=fun l y h c ρ ρ' hr=>by cases l <;> simp only [bO] at h <;> first | exact hr | cases h
theorem aG {α β:Type} {A:PO α} {R:PH β} (hA:A.OK) (hR:R.OK):(bE A R).OK:=fun l y h c ρ ρ' hr=>by
 cases l with
 | nil=>cases h
 | cons a r=>
  simp only [bE] at h
  split at h
  ·rename_i h1 h2
   cases h
   cases hr with
   | cons k1 k2=>exact .cons (hA _ _ h1 _ _ _ k1) (hR _ _ h2 _ _ _ k2)
  ·cases h
theorem Sat.Fy {P:Program} {shp:TypeId->Option Sh} {f:Nat} {aa bs:List TV1} {H H':AH} {r:SpecR} (h:Sat P shp f bs H' r) (hs:sw aa bs) (hH:∀ c ρ ρ',All2 (OR c ρ) H ρ' -> All2 (OR c ρ) H' ρ'):Sat P shp f aa H r:=
 ⟨h.1,fun G ρ w vs hg hR hv=>h.2 G ρ w vs hg ⟨hH _ _ _ hR.obj,hR.inj,hR.bnd,hR.z,hR.b0,hR.tb⟩ (hs.rd hv)⟩
section
variable {α β:Type} {P:Program} {shp:TypeId->Option Sh} {f:Nat}
def dY (A:PT α) (B:PH β) (r:α->β->SpecR):List TV1->AH->Option SpecR:=fun a H=>match A.p a,B.p H with
 | some x,some y=>some (r x y)
 | _,_=>none
def zQ (P:Program) (shp:TypeId->Option Sh) (f:Nat) (k:List TV1->AH->Option SpecR):Prop:=∀ args H r,k args H=some r->(∀ p ∈ r.pre,p)->Sat P shp f args H r
theorem aJ {A:PT α} {B:PH β} {r:α->β->SpecR} (hA:A.OK) (hB:B.OK) (h:∀ x y,(∀ p ∈ (r x y).pre,p)->Sat P shp f (A.u x) (B.u y) (r x y)):zQ P shp f (dY A B r):=fun args H R e hp=>by
 unfold dY at e
 split at e
 ·rename_i hx hy
  cases e
  exact (h _ _ hp).Fy (hA _ _ hx) fun c ρ ρ' hr=>hB _ _ hy c ρ ρ' hr
 ·cases e
def eG (f:Nat) (k:List TV1->AH->Option SpecR) (O:cC):cC:=fun g a H=>bif Nat.beq f g then (match k a H with
 | some r=>some r
 | none=>O g a H) else O g a H
theorem aK {k:List TV1->AH->Option SpecR} {O:cC} (hk:zQ P shp f k) (hO:aW P shp O):aW P shp (eG f k O):=fun g args H r h hp=>by
 unfold eG at h
 cases hb:Nat.beq f g <;> rw [hb] at h
 ·exact hO g args H r h hp
 ·have:=Nat.eq_of_beq_eq_true hb
  subst this
  simp only [cond_true] at h
  split at h
  ·rename_i hkk
   cases h
   exact hk _ _ _ hkk hp
  ·exact hO f args H r h hp
def Ea:cC:=fun _ _ _=>none
theorem zi:aW P shp Ea:=fun _ _ _ _ h=>by cases h
theorem sB {p:Prop} {l:List Prop} (h:∀ q ∈ p :: l,q):p:=h _ (.head _)
theorem FX {p:Prop} {l:List Prop} (h:∀ q ∈ p :: l,q):∀ q ∈ l,q:=fun q hq=>h q (.tail _ hq)
end
theorem cz {O:cC} (hO:aW Tryd.prog (ai aX) O) {f:Nat} {fn:Func} {args rs:List TV1} {H:AH} {pre:List Prop} (L:List (Nat × LI)) (hfn:Tryd.prog.funcs[f]? = some fn) (hng:(fn.name == "runtime.NumGoroutine")=false)
  (hc:(match fn.body with
   | some c=>cr fn.ntmps c && Nat.ble args.length fn.ntmps
   | none=>false)=true) (h:lF aX O L fn args H rs):Sat Tryd.prog (ai aX) f args H ⟨pre,rs,none,false⟩:=Sat.Bl ni hO (oy ni hO uy) hfn hng hc h
theorem kQ {O:cC} (hO:aW Tryd.prog (ai aX) O) {f:Nat} {fn:Func} {args rs:List TV1} {H H':AH} {pre:List Prop} (L:List (Nat × LI)) (hfn:Tryd.prog.funcs[f]? = some fn) (hng:(fn.name == "runtime.NumGoroutine")=false)
  (hc:(match fn.body with
   | some c=>cr fn.ntmps c && Nat.ble args.length fn.ntmps
   | none=>false)=true) (h:zA aX O L fn args H rs H'):Sat Tryd.prog (ai aX) f args H ⟨pre,rs,some H',false⟩:=Sat.Au ni hO (oy ni hO uy) hfn hng hc h
end Go.Proofs.YtagpmhlokhoanaaDoor
