/- What leads to the law, part 3. Conditions: each lemma's own. -/
import Derived.Scope
import Derived.Test.YtjmbgkmkinmlkaaProg
import Derived.Test.YtjmbgkmkinmlkaaKOM2
set_option linter.unusedVariables false
set_option linter.unusedSimpArgs false
namespace Go.Proofs.Ytjmbgkmkinmlkaa
open Go.RowKit
section
variable {P:Program} {T:List (Nat × TI)} {G:Gl} {O:cO} {n:Nat} {F:Fr} {w:World} {x y:Operand} {ty t:TypeId} {ρ:List RE} {H:AH} {fr:AFr} {ro:Lv}
theorem xB (hO:bk P G.shp O) (hR:Rep G ρ H w) (hf:cK (cx G ρ w) ρ fr F) {f:Nat} {a:List TV1} {vs:List Value} {r:SR} (hvs:All2 (bX (cx G ρ w) ρ) a vs) (h:AW O fr H f a=some r) (hob:∀ p ∈ r.ob,p) :
  (∃ fn,P.funcs[f]? = some fn/\(fn.name == "runtime.NumGoroutine")=false/\fn.body.isNone=false)/\gw P f vs.toArray w fun v w'=>ee G ro ρ w r F v w':=by
 unfold AW at h
 generalize nH H a=σ at h
 simp only at h
 split at h
 ·rename_i hck
  simp only [Bool.and_eq_true] at hck
  obtain ⟨⟨hn,hai⟩,hcl⟩:=hck
  split at h
  ·rename_i pre rs H' hrs
   split at h
   ·rename_i hlen
    cases h
    have hlenH:=Nat.le_of_ble_eq_true hlen
    have hai:=fH.1 hai
    have hnd:=fO.1 hn
    have hclo:=eY.1 hcl
    let Z':Nat->Prop:=fun b=>G.Z b\/(live ρ b/\¬ live (cu ρ σ) b)
    obtain ⟨hR',hle⟩:=hR.sub (σ:=σ) (Z':=Z') hn hcl (fun b hb=>hb.elim (hR.z b) fun ⟨⟨i,r,h1,h2⟩,_⟩=>(hR.bnd i r b h1 h2).2.1) (fun b h1 h2 hz=>hz.elim h1 fun h3=>h2 h3.1)
     (fun b h1 hz=>hz.elim (fun h2=>by obtain ⟨i,r,h3,h4⟩:=fp h1; exact (hR.bnd i r b h3 h4).2.2 h2) fun h2=>h2.2 h1)
    obtain ⟨hfn,hrun⟩:=hO _ _ _ _ hrs hob
    refine ⟨hfn,?_⟩
    have hargs:All2 (bX (cx ⟨G.shp,G.B0,Z'⟩ (cu ρ σ) w) (cu ρ σ)) (fi (posOf · σ) a) vs:=by
     refine gZ (fun t ht a ha' v hv=>?_) hvs
     refine Rd.ir (fun _ hp=>hp.carry hle) (fun s x o e=>?_) (fun _ _ _ _ h=>h.le hle) (fun i hi r hr _=>eH (hai i (gN ht ha' hi)) hr) hv
     subst e
     obtain ⟨A,cells,k1,k2,k3,e⟩:=hv
     exact ⟨A,cells,(hle.S _ k1).1,k2,k3.carry hle,e⟩
    refine (hrun ⟨G.shp,G.B0,Z'⟩ _ w vs rfl hR' hargs).mono fun v w' ⟨us,hv,ρ2,hR2,hext2,hbx2,hrs',hkeep⟩=>?_
    obtain ⟨hk,hρ2⟩:=hkeep rfl
    have hl2:H'.length=ρ2.length:=hR2.obj.length
    have hHρ:H.length=ρ.length:=hR.obj.length
    have hnew:∀ (b j:Nat) (r:RE),σ.length<=j->ρ2[j]? = some r->r.g? = some b->w.heap.size<=b:=fun b j r hj h1 h2=>by
     by_cases hb:b<w.heap.size
     ·by_cases hs:live (cu ρ σ) b
      ·obtain ⟨i,r',h3,h4⟩:=hs
       have:=hR2.inj _ _ _ _ b h1 (hρ2 i r' h3) h2 h4
       have h6:i<σ.length:=by simpa [cu] using (List.getElem?_eq_some_iff.1 h3).1
       omega
      ·exact absurd ⟨j,r,h1,h2⟩ (hext2.old b hb hs).1
     ·omega
    have hN:∀ (i:Nat) (r:RE),ρ[i]? = some r->(ρ++ρ2.drop σ.length)[i]? = some r:=fun i r h=>by
     rw [List.getElem?_append_left (List.getElem?_eq_some_iff.1 h).1]; exact h
    have hNge:∀ (i:Nat),ρ.length<=i->(ρ++ρ2.drop σ.length)[i]? = ρ2[σ.length+(i - ρ.length)]?:=fun i hi=>by
     rw [List.getElem?_append_right hi,List.getElem?_drop]
    have hcase:∀ (i:Nat) (r:RE) (g:Nat),(ρ++ρ2.drop σ.length)[i]? = some r->r.g? = some g->(i<ρ.length/\ρ[i]? = some r)\/(ρ.length<=i/\ρ2[σ.length+(i - ρ.length)]? = some r/\w.heap.size<=g):=fun i r g h1 h2=>by
     by_cases hi:i<ρ.length
     ·rw [List.getElem?_append_left hi] at h1; exact .inl ⟨hi,h1⟩
     ·rw [hNge i (by omega)] at h1
      exact .inr ⟨by omega,h1,hnew g _ r bt h1 h2⟩
    have hext:Ext ρ w (ρ++ρ2.drop σ.length) w':=⟨hk.os,hk.tape,hk.output,hk.size,fun b hb hl=>⟨fun ⟨i,r,h1,h2⟩=>(hcase i r b h1 h2).elim (fun h=>hl ⟨i,r,h.2,h2⟩) fun h=>by omega,hk.block b hb (by simp)⟩⟩
    have hle1:=hext.le hR.lo
    have hagr:je ρ (ρ++ρ2.drop σ.length):=fun i r h _=>hN i r h
    have hτ:∀ (j:Nat) (r:RE),ρ2[j]? = some r->r ≠ .no->(ρ++ρ2.drop σ.length)[dU H σ j]? = some r:=fun j r hj hne=>by
     unfold dU
     by_cases hjn:j<σ.length
     ·have hb:Nat.ble σ.length j=false:=by rw [<- Bool.not_eq_true,Nat.ble_eq]; omega
      rw [hb]
      have hs:(cu ρ σ)[j]? = some ((cu ρ σ)[j]'(by simpa [cu] using hjn)):=List.getElem?_eq_getElem _
      have h1:=hρ2 j _ hs
      rw [hj] at h1
      rw [<- Option.some.inj h1] at hs
      exact hN _ _ (dx hs hne)
     ·have hb:Nat.ble σ.length j=true:=by rw [Nat.ble_eq]; omega
      rw [hb]
      show (ρ++ρ2.drop σ.length)[H.length+(j - σ.length)]? = some r
      rw [hNge _ (by omega),hHρ,<- hj]
      congr 1; omega
    have hS:(cx ⟨G.shp,G.B0,Z'⟩ ρ2 w').le (cx G (ρ++ρ2.drop σ.length) w'):=⟨rfl,rfl,fun b hb=>⟨⟨hb.1,by
     rintro ⟨i,r,h1,h2⟩
     rcases hcase i r b h1 h2 with ⟨h3,h4⟩ | ⟨_,h4,_⟩
     ·by_cases hs:live (cu ρ σ) b
      ·obtain ⟨j,r',h5,h6⟩:=hs
       exact hb.2.1 ⟨j,r',hρ2 j r' h5,h6⟩
      ·exact hb.2.2 (.inr ⟨⟨i,r,h4,h2⟩,hs⟩)
     ·exact hb.2.1 ⟨_,r,h4,h2⟩,fun hz=>hb.2.2 (.inl hz)⟩,rfl⟩,fun _ _ _=>rfl⟩
    have htake:∀ (a:AV) (u:Value),Rd (cx ⟨G.shp,G.B0,Z'⟩ ρ2 w') ρ2 a u->Rd (cx G (ρ++ρ2.drop σ.length) w') (ρ++ρ2.drop σ.length) (a.ir (dU H σ)) u:=fun a u hu=>by
     refine Rd.ir (fun _ hp=>hp.carry hS) (fun s x o e=>?_) (fun _ _ _ _ h=>h.le hS) (fun i hi r hr hne=>hτ i r hr hne) hu
     subst e
     obtain ⟨A,cells,k1,k2,k3,e⟩:=hu
     exact ⟨A,cells,(hS.S _ k1).1,k2,k3.carry hS,e⟩
    have hobj:∀ (j:Nat) (o:AO) (r:RE),H'[j]? = some o->ρ2[j]? = some r->OR (cx G (ρ++ρ2.drop σ.length) w') (ρ++ρ2.drop σ.length) (o.ir (dU H σ)) r:=fun j o r ho hr=>by
     obtain ⟨r',hr',hor⟩:=hR2.at_ ho
     rw [hr] at hr'; cases hr'
     cases o with
     | gone=>exact hor
     | loc=>trivial
     | mapo s f=>
      obtain ⟨g,rfl,h⟩:=hor
      exact ⟨g,rfl,h.carry hS rfl⟩
     | mapf l=>
      obtain ⟨g,rfl,h⟩:=hor
      exact ⟨g,rfl,h.map (g0:=fun a=>a.ir (dU H σ)) (lW l) (fun q hq u hu=>htake q.2 u hu) rfl⟩
     | box t cs=>
      obtain ⟨g,vs',rfl,h1,h2⟩:=hor
      exact ⟨g,vs',rfl,h1,jQ (fun a ha u hu=>htake a u hu) h2⟩
     | arr t s n xs=>
      obtain ⟨g,vs',rfl,h4,h5,h6⟩:=hor
      exact ⟨g,vs',rfl,h4,h5.carry hS,h6⟩
     | row t s xs=>
      obtain ⟨h1,h2,h3⟩:=hor
      exact ⟨h1,h2,h3.imp id fun ⟨g,cap,cells,sp,e,h4,h5,h6⟩=>⟨g,cap,cells,sp,e,h4,h5.carry hS,h6⟩⟩
    refine ⟨ρ++ρ2.drop σ.length,⟨hext,fun i r _ hr=>hN i r hr,fun i r _ hr=>⟨hN i r hr,fun g hg=>hk.block g (hR.bnd i r g hr hg).2.1 (by simp)⟩,fun i g hi=>hN i _ hi⟩,⟨?_,?_,?_,fun b hb=>Nat.lt_of_lt_of_le (hR.z b hb) hext.size,Nat.le_trans hR.b0 hext.size,hR.tb.carry hle1⟩,hf.carry hle1 hagr,?_,Fj.jd hrs'⟩
    ·refine All2.append (cd hR.obj.length fun i o r ho hr=>?_) (cd (by simp [gI,hl2]) fun i o r ho hr=>?_)
     ·obtain ⟨r',hr',hor⟩:=hR.at_ ho
      rw [hr] at hr'; cases hr'
      exact hor.carry hle1 hagr fun g hg=>hk.block g (hR.bnd i r g hr hg).2.1 (by simp)
     ·rw [List.getElem?_drop] at hr
      have hil:σ.length+i<H'.length:=by
       have:=(List.getElem?_eq_some_iff.1 hr).1; omega
      have hx:(H'.drop σ.length)[i]? = some H'[σ.length+i]:=by
       rw [List.getElem?_drop]; exact List.getElem?_eq_getElem hil
      rw [lQ hx] at ho
      have ho:=Option.some.inj ho
      subst ho
      exact hobj (σ.length+i) _ r (List.getElem?_eq_getElem hil) hr
    ·intro i i' r r' g h1 h2 h3 h4
     rcases hcase i r g h1 h3 with ⟨a1,a2⟩ | ⟨a1,a2,a3⟩ <;> rcases hcase i' r' g h2 h4 with ⟨b1,b2⟩ | ⟨b1,b2,b3⟩
     ·exact hR.inj _ _ _ _ g a2 b2 h3 h4
     ·have:=(hR.bnd i r g a2 h3).2.1; omega
     ·have:=(hR.bnd i' r' g b2 h4).2.1; omega
     ·have:=hR2.inj _ _ _ _ g a2 b2 h3 h4; omega
    ·intro i r g h1 h2
     rcases hcase i r g h1 h2 with ⟨_,a3⟩ | ⟨_,a3,_⟩
     ·have:=hR.bnd i r g a3 h2
      exact ⟨this.1,Nat.lt_of_lt_of_le this.2.1 hext.size,this.2.2⟩
     ·have:=hR2.bnd _ r g a3 h2
      exact ⟨this.1,this.2.1,fun hz=>this.2.2 (.inl hz)⟩
    ·have hback:All2 (bX (cx G (ρ++ρ2.drop σ.length) w') (ρ++ρ2.drop σ.length)) (fi (dU H σ) rs) us:=gZ (fun t ht a ha u hu=>htake a u hu) hrs'
     subst hv
     show Rt _ _ (yf (fi (dU H σ) rs)) (uZ us)
     generalize fi (dU H σ) rs=rs' at hback ⊢
     cases hback with
     | nil=>exact ⟨[],rfl,.nil⟩
     | @cons t u l us h1 h2=>
      cases h2 with
      | nil=>exact h1
      | cons h3 h4=>exact ⟨_,rfl,.cons h1 (.cons h3 h4)⟩
   ·cases h
  ·cases h
 ·cases h
theorem xw (hO:bk P G.shp O) (hR:Rep G ρ H w) (hf:cK (cx G ρ w) ρ fr F) {f:Nat} {args:List TV1} {vs:List Value} {r:SR} (ha:All2 (bX (cx G ρ w) ρ) args vs) (h:zS O ro fr H f args=some r) (hob:∀ p ∈ r.ob,p) :
  (∃ fn,P.funcs[f]? = some fn/\(fn.name == "runtime.NumGoroutine")=false/\fn.body.isNone=false)/\gw P f vs.toArray w fun v w'=>ee G ro ρ w r F v w':=by
 unfold zS at h
 split at h
 ·rename_i r' hn
  cases h
  exact xB hO hR hf ha hn hob
 split at h
 ·rename_i r' hrw hr'
  cases h
  refine oQ hO hR hf (fun G' σ hs hle hids hl=>?_) (fun id hid r hr hne=>iX.1 hrw id hid) hr' hob
  refine ur (fun t ht a ha' v hv=>?_) ha
  have hid:∀ i ∈ (a.vw H).ids,i ∈ σ:=fun i hi=>hids i (gN (qT ht) (sx ha') hi)
  by_cases hown:∃ id,a = .own id\/∃ o k,a = .sub id o k
  ·obtain ⟨id,hio⟩:=hown
   have hmem:=mC ht ha' hio
   cases hv2:a.vw H with
   | fz s xs=>
    refine ga (jT hR hle rfl hv (fun g cap len z ⟨id',he,h1⟩=>?_) hv2)
    have e:id' = id:=by rcases hio with rfl | ⟨o,k,rfl⟩ <;> rcases he with he | ⟨_,_,he⟩ <;> cases he <;> rfl
    subst e
    exact hl id' hmem g cap len z h1
   | dead=>exact Rd.one hv
   | _=>rcases hio with rfl | ⟨o,k,rfl⟩ <;> simp only [AV.vw] at hv2 <;> split at hv2 <;> cases hv2
  ·have e:a.vw H=a:=by
    cases a <;> first | rfl | exact absurd ⟨_,.inl rfl⟩ hown | exact absurd ⟨_,.inr ⟨_,_,rfl⟩⟩ hown
   rw [e] at hid ⊢
   refine Rd.ir (fun _ hp=>hp.carry hle) (fun s x o e=>?_) (fun _ _ _ _ h=>h.le hle) (fun i hi r hr _=>eH (hid i hi) hr) hv
   subst e
   obtain ⟨A,cells,k1,k2,k3,e⟩:=hv
   exact ⟨A,cells,(hle.S _ k1).1,k2,k3.carry hle,e⟩
 ·refine oQ hO hR hf (fun G' σ hs hle hids hl=>?_) (by simp) h hob
  refine gZ (fun t ht a ha' v hv=>?_) ha
  refine Rd.ir (fun _ hp=>hp.carry hle) (fun s x o e=>?_) (fun _ _ _ _ h=>h.le hle) (fun i hi r hr _=>eH (hids i (gN ht ha' hi)) hr) hv
  subst e
  obtain ⟨A,cells,k1,k2,k3,e⟩:=hv
  exact ⟨A,cells,(hle.S _ k1).1,k2,k3.carry hle,e⟩
theorem CL {c:Cx} {s:Sh} {z:List Value} (hz:All2 (Rd c ρ) (cellsOf s (aG s)) z) (h1:s.size=1):∀ m:Nat,Pds c ((List.replicate m (aG s)).flatMap (cellsOf s)) (List.replicate m (z.headD undef)):=by
 have hp:=fY (ly s _) hz
 have hl:=hz.length
 rw [ct,h1] at hl
 obtain ⟨u,rfl⟩:∃ u,z=[u]:=by
  cases z with
  | nil=>simp at hl
  | cons u r=>
   cases r with
   | nil=>exact ⟨u,rfl⟩
   | cons _ _=>simp at hl
 intro m
 induction m with
 | zero=>exact .nil
 | succ m ih=>
  rw [List.replicate_succ,List.replicate_succ,List.flatMap_cons]
  exact hp.append ih
theorem yD (hT:bn P G.shp T) (hR:Rep G ρ H w) (hf:cK (cx G ρ w) ρ fr F) {t:TypeId} {x y z:Operand} {r:SR} (h:Aw T ro fr H t x y z=some r) :
  ∃ w',(eO P n F w (.insert t x y z) ty w' /\ eO P n F w (.mapUpdate t x y z) ty w')/\ee G ro ρ w r F undef w':=by
 unfold Aw at h
 split at h
 ·rename_i s id k v hft hx hy hz
  split at h
  ·rename_i s' f hO2
   split at h
   ·rename_i hss
    subst hss
    split at h
    ·rename_i x' q hck hof hfz
     cases h
     simp only [Bool.and_eq_true,Bool.not_eq_true',<- Bool.not_eq_true,bw] at hck
     obtain ⟨⟨hro,hform⟩,hnm⟩:=hck
     obtain ⟨hm,hk,_⟩:=(hT _ _ hft).2
     obtain ⟨va,h1,g,hg,rfl⟩:=aK hf hx
     obtain ⟨vb,h3,h4⟩:=aK hf hy
     cases h4 with | int=>
     obtain ⟨vz,h5,h6⟩:=aK hf hz
     have hHs:=bG hO2 (by simp)
     obtain ⟨r',hr',hor⟩:=hR.at_ hHs
     rw [hg] at hr'; cases hr'
     obtain ⟨g',e,a,c,k1,k2,k3⟩:=hor
     cases e
     obtain ⟨ρ1,j1,j2,j3,j4,j5,j6,j7,j8⟩:=kb (ro:=ro) hfz hR hf
     obtain ⟨w',a',c',hsk,hkp,hg',hl',hget⟩:=Fu (P:=P) (n:=n) (ty:=ty) h1 h3 h5 hm hk k1 k2
     have hρ1:ρ1[id]? = some (.blk g):=by rw [j8 id hnm]; exact hg
     have hH1:q.2[id]? = some (.mapo s' f):=j7 id _ hnm hHs (by simp)
     have hext:Ext ρ1 w ρ1 w':=⟨hkp.os,hkp.tape,hkp.output,hkp.size,fun b hb hl=>⟨hl,hkp.block b hb (by
      simp only [List.mem_singleton]
      rintro rfl
      exact hl ⟨id,_,hρ1,rfl⟩)⟩⟩
     have hle:=hext.le j3.lo
     have hV:V1 (cx G ρ1 w') s' x' vz:=by
      cases v with
      | c a=>
       have h6:Rd (cx G ρ w) ρ a vz:=h6
       have:=aW hof (j6 [a] [vz] (fun i hi=>hi) (.cons h6 .nil))
       refine ⟨[vz],this.carry hle,.inr ⟨?_,rfl⟩⟩
       simpa [jA] using hform
      | agg l=>
       obtain ⟨us,e,h6⟩:=h6
       have:=aW hof (j6 l us (fun i hi=>hi) h6)
       exact ⟨us,this.carry hle,.inl ⟨hform,e⟩⟩
     have hput:=j3.put hH1 hρ1 rfl hkp (o':=.mapo s' fun j=>if j=k then some x' else f j) ⟨g,rfl,a',c',hg',hl',fun q=>by
      rw [hget q]
      show VO _ _ _ (if q=k then some x' else f q)
      by_cases hq:q=k
      ·rw [if_pos hq,if_pos hq]; exact hV
      ·rw [if_neg hq,if_neg hq]
       have k4:=k3 q
       cases hgm:getM q a.toList <;> cases hfk:f q <;> rw [hgm,hfk] at k4
       ·trivial
       ·exact k4
       ·exact k4
       ·exact V1.carry k4 (j2.trans hle)⟩
     refine ⟨w',hsk,ρ1,j1.trans ⟨hput.2,fun _ _ _ h=>h,fun j r' hj hr'=>⟨hr',fun gx hgx=>hkp.block gx (j3.bnd j r' gx hr' hgx).2.1 ?_⟩,fun _ _ h=>h⟩,hput.1,j4.carry hle (je.refl _),trivial,by simp⟩
     simp only [List.mem_singleton]
     rintro rfl
     have:=j3.inj j id _ _ _ hr' hρ1 hgx rfl
     subst this; rw [hro] at hj; cases hj
    ·cases h
   ·cases h
  ·cases h
 ·cases h
theorem vf (hT:bn P G.shp T) (hR:Rep G ρ H w) (hf:cK (cx G ρ w) ρ fr F) {t:TypeId} {x y z:Operand} {r:SR} (h:Bm T ro fr H t x y z=some r) :
  ∃ w',(eO P n F w (.insert t x y z) ty w' /\ eO P n F w (.mapUpdate t x y z) ty w')/\ee G ro ρ w r F undef w':=by
 unfold Bm at h
 split at h
 ·rename_i id k a hft hx hy hz
  split at h
  ·rename_i l hO2
   split at h
   ·rename_i hro
    cases h
    obtain ⟨hm,hk,_⟩:=(hT _ _ hft).2
    obtain ⟨va,h1,g,hg,rfl⟩:=aK hf hx
    obtain ⟨vb,h3,h4⟩:=aK hf hy
    cases h4 with | int=>
    obtain ⟨vz,h5,h6⟩:=aK hf hz
    have hHs:=bG hO2 (by simp)
    obtain ⟨r',hr',hor⟩:=hR.at_ hHs
    rw [hg] at hr'; cases hr'
    obtain ⟨g',e,a',c,k1,k2,k3⟩:=hor
    cases e
    obtain ⟨w',a'',c',hsk,hkp,hg',hl',hget⟩:=Fu (P:=P) (n:=n) (ty:=ty) h1 h3 h5 hm hk k1 k2
    have hext:Ext ρ w ρ w':=⟨hkp.os,hkp.tape,hkp.output,hkp.size,fun b hb hl=>⟨hl,hkp.block b hb (by
     simp only [List.mem_singleton]
     rintro rfl
     exact hl ⟨id,_,hg,rfl⟩)⟩⟩
    have hle:=hext.le hR.lo
    have hput:=hR.put hHs hg rfl hkp (o':=.mapf ((k,a) :: l)) ⟨g,rfl,a'',c',hg',hl',fun q=>by
     rw [hget q]
     simp only [lookF]
     by_cases hq:q=k
     ·rw [if_pos hq,if_pos hq]; exact Rd.carry h6 hle (je.refl _)
     ·rw [if_neg hq,if_neg hq]
      have k4:=k3 q
      cases hgm:getM q a'.toList <;> cases hfk:lookF q l <;> rw [hgm,hfk] at k4
      ·trivial
      ·exact k4
      ·exact k4
      ·exact Rd.carry k4 hle (je.refl _)⟩
    refine ⟨w',hsk,ρ,⟨hput.2,fun _ _ _ h=>h,fun j r' hj hr'=>⟨hr',fun gx hgx=>hkp.block gx (hR.bnd j r' gx hr' hgx).2.1 ?_⟩,fun _ _ h=>h⟩,hput.1,hf.carry hle (je.refl _),trivial,by simp⟩
    simp only [List.mem_singleton]
    rintro rfl
    have:=hR.inj j id _ _ _ hr' hg hgx rfl
    subst this; rw [hro] at hj; cases hj
   ·cases h
  ·cases h
 ·cases h
theorem mD (hT:bn P G.shp T) (hR:Rep G ρ H w) (hf:cK (cx G ρ w) ρ fr F) {t:TypeId} {x y z:Operand} {r:SR} (h:vQ T ro fr H t x y z=some r) :
  ∃ w',(eO P n F w (.insert t x y z) ty w' /\ eO P n F w (.mapUpdate t x y z) ty w')/\ee G ro ρ w r F undef w':=by
 unfold vQ at h
 split at h
 ·rename_i r' hr'
  cases h
  exact yD hT hR hf hr'
 ·exact vf hT hR hf h
theorem zU (hT:bn P G.shp T) (hO:bk P G.shp O) (hR:Rep G ρ H w) (hf:cK (cx G ρ w) ρ fr F) {op:Op} {r:SR} (h:sv T O ro fr H op=some r) (hob:∀ p ∈ r.ob,p):dD P n F w op ty (ee G ro ρ w r F):=by
 cases op <;> simp only [sv] at h
 case box t x=>
  split at h
  ·rename_i v hx
   cases h
   obtain ⟨u,h1,h2⟩:=aK hf hx
   obtain ⟨us,h3,h4⟩:=bX.cells h2
   exact .inl (.inl ⟨_,_,R.box h1 h3,pq hR hf h4⟩)
  ·cases h
 case alloc t=>
  split at h
  ·rename_i ti hti
   cases h
   obtain ⟨⟨_,zs,hz,hzb⟩,_⟩:=hT _ _ hti
   exact .inl (.inl ⟨_,_,R.alloc hz,pq hR hf (gT hzb)⟩)
  ·cases h
 case store t x v=>
  split at h
  ·rename_i a b ti hx hv hti
   split at h
   ·rename_i hsz
    obtain ⟨va,h1,h2⟩:=aK hf hx
    obtain ⟨vb,h3,h4⟩:=aK hf hv
    obtain ⟨w',h5,h6⟩:=tw (ty:=ty) hT hR hf hti hsz h2 h4 h1 h3 h hob
    exact .inr ⟨rfl,w',h5,h6⟩
   ·cases h
  ·cases h
 case buildSlice t m parts=>
  split at h
  ·rename_i e s sz z l hft hl
   obtain ⟨hu,hs⟩:=(hT _ _ hft).2
   obtain ⟨hshp,⟨zz,hz,hzb⟩,_⟩:=hs s rfl
   have hsize:(P.info? e).map (·.size)=some s.size:=by
    cases hq:P.info? e with
    | none=>simp [hq] at hz
    | some i=>simp only [hq,Option.map_some,Option.some.injEq,Prod.mk.injEq] at hz ⊢; exact hz.2.1
   split at h
   ·rename_i xs q hel hfz
    split at h
    ·rename_i hck
     simp only [Bool.and_eq_true] at hck
     have hm:=Nat.eq_of_beq_eq_true hck.1.1
     have hsm:=Nat.le_of_ble_eq_true hck.1.2
     have hbm:=Nat.le_of_ble_eq_true hck.2
     obtain ⟨pv,h1,h2⟩:=iq hf hl
     obtain ⟨ρ1,k1,k2,k3,k4,k5,k6,_,_⟩:=kb hfz hR hf
     obtain ⟨vss,h3,h4,h5,h6⟩:=kH hel h2 fun p hp us hus=>k6 _ us (fun i hi=>mA hp hi) hus
     have hrun:=R.buildSlice (P:=P) (n:=n) (F:=F) (w:=w) (ty:=ty) (m:=m) hu hsize (wc hz) h1 h3 h4 (by omega) hsm
     have e0:parts.toList.toArray=parts:=by simp
     rw [e0] at hrun
     have hk:=Kp.alloc w (.cells vss.flatten.toArray e)
     cases m with
     | zero=>
      cases h
      refine .inl (.inl ⟨_,_,hrun,ρ,Stp.kp hR hk,hR.kp hk,hf.kp hk,Pd.em (a:=some ⟨w.heap.size,0,none⟩) rfl,by simp⟩)
     | succ m=>
      cases h
      have hfl:vss.flatten.length=(m+1)*s.size:=by rw [<- h6.length,bT,hm]
      obtain ⟨ρ2,j1,j2,j3,j4⟩:=qV (ro:=ro) (sp:=[]) (cap:=m+1) k3 k4 hk (by rw [List.append_nil]; exact heap_alloc_new w _) hshp (by rw [hm]; exact hbm) h6 (by rw [List.append_nil]; exact hfl) (by omega) (by
       have:=Nat.mul_le_mul_left (m+1) (gY s)
       simp only [maxLen]; omega)
      rw [hm] at j4
      exact .inl (.inl ⟨_,_,hrun,ρ2,k1.trans j1,j2,j3,j4,by simp⟩)
    ·cases h
   ·cases h
  ·cases h
 case makeSlice t a b=>
  split at h
  ·rename_i e s sz z k k' hft hx hy
   split at h
   ·rename_i hs1
    cases h
    obtain ⟨hu,hs⟩:=(hT _ _ hft).2
    obtain ⟨hshp,⟨zz,hz,hzb⟩,_⟩:=hs s rfl
    have hs1:=Nat.eq_of_beq_eq_true hs1
    have g0:=hob _ (List.mem_cons_self); have g1:=hob _ (List.mem_cons_of_mem _ (List.mem_cons_self)); have g2:=hob _ (List.mem_cons_of_mem _ (List.mem_cons_of_mem _ (List.mem_singleton_self _)))
    subst g2
    obtain ⟨m,rfl⟩:=Int.eq_ofNat_of_zero_le g0
    obtain ⟨va,h1,h2⟩:=aK hf hx
    obtain ⟨vb,h3,h4⟩:=aK hf hy
    cases h2 with | int=>
    cases h4 with | int=>
    have hmb:m*s.bytes<=140737488355328:=by
     have e9:((m*s.bytes:Nat):Int)=(m:Int)*s.bytes:=by simp
     omega
    have hml:m<=maxLen:=by
     have:=Nat.mul_le_mul_left m (gY s)
     simp only [maxLen]; omega
    obtain ⟨i,zv,hq,hzv,hzc,hsz,hby⟩:=qL hz
    obtain ⟨w',hrun,hown,hgr⟩:=run_make_full (P:=P) w w.heap.size t e i zv s.size hu hq hzv hsz .i64 .i64 m (by rw [hby,Nat.mul_comm]; omega) hml (Nat.le_refl _)
    have hmade:(madeCells zv.cells (m*s.size)).toList=List.replicate m (zz.headD undef):=by
     have hzl:=(gT (c:=cx G ρ w) (ρ:=ρ) hzb).length
     rw [ct,hs1] at hzl
     obtain ⟨u,rfl⟩:∃ u,zz=[u]:=by
      cases zz with
      | nil=>simp at hzl
      | cons u r=>
       cases r with
       | nil=>exact ⟨u,rfl⟩
       | cons _ _=>simp at hzl
     rw [hzc,hs1]; simp [madeCells,Nat.mod_one,List.map_const']
    rw [hmade] at hown
    have hk:=Kp.yn hgr
    rcases ki hown with ⟨h0,_⟩ | ⟨g,cap,sp,hv,j1,j2,j3,j4⟩
    ·cases h0
    ·injection hv with e1 e2 e3
     cases e1
     subst e3
     have hrl:(List.replicate m (aG s)).length=m:=List.length_replicate
     obtain ⟨ρ2,q1,q2,q3,q4⟩:=qV (ro:=ro) (xs:=List.replicate m (aG s)) hR hf hk j1 hshp (by rw [hrl]; exact hmb) (CL (gT (ρ:=ρ) hzb) hs1 m) j2 (by rw [hrl]; exact j3) j4
     rw [hrl] at q4
     exact .inl (.inl ⟨_,w',fun a _ _ _ _ ha=>by simp [execOp,ha.ev h1,ha.ev h3,hrun],ρ2,q1,q2,q3,q4,by simp⟩)
   ·cases h
  ·cases h
 case call cl=>
  split at h
  ·rename_i hcal
   split at h
   ·rename_i x y t t' hargs htys
    split at h
    ·rename_i a b htt hx hy
     have htt:=Nat.eq_of_beq_eq_true htt
     subst htt
     obtain ⟨va,h1,h2⟩:=aK hf hx
     obtain ⟨vb,h3,h4⟩:=aK hf hy
     obtain ⟨v,w',h5,h6⟩:=fR (P:=P) (n:=n) (ty:=ty) hT hR hf h hob h2 h4 h1 h3
     have e:cl={ callee:=.builtin .append,args:=#[x,y],argTypes:=#[t,t] }:=by
      cases cl; simp at hcal hargs htys; subst hcal
      simp only [Call.mk.injEq,true_and]
      exact ⟨Array.ext' (by simpa using hargs),Array.ext' (by simpa using htys)⟩
     rw [e]
     exact .inl (.inl ⟨v,w',h5,h6⟩)
    ·rename_i a b htt hx hy
     obtain ⟨va,h1,h2⟩:=aK hf hx
     obtain ⟨vb,h3,h4⟩:=aK hf hy
     obtain ⟨v,w',h5,h6⟩:=om (P:=P) (n:=n) (ty:=ty) hT hR hf h hob h2 h4 h1 h3
     have e:cl={ callee:=.builtin .append,args:=#[x,y],argTypes:=#[t,t'] }:=by
      cases cl; simp at hcal hargs htys; subst hcal
      simp only [Call.mk.injEq,true_and]
      exact ⟨Array.ext' (by simpa using hargs),Array.ext' (by simpa using htys)⟩
     rw [e]
     exact .inl (.inl ⟨v,w',h5,h6⟩)
    ·cases h
   ·cases h
  ·rename_i x hcal
   split at h
   ·rename_i f l hl
    split at h
    ·rename_i r' hce
     cases h
     obtain ⟨x',xs,vs,cap,h1,h2,h3,h4,h5⟩:=gy hf hl
     obtain ⟨⟨fn,h6,h7,h8⟩,hrun⟩:=xw hO hR hf h5 hce hob
     have e:cl={ callee:=.value x',args:=xs.toArray,argTypes:=cl.argTypes }:=by
      cases cl; simp at h1 h2; subst h1; subst h2; rfl
     rw [e]
     exact .inl (.inr ⟨_,_,E.call h3 h4 h6 h7 h8,hrun⟩)
    ·unfold zJ at h
     split at h
     ·rename_i q hfz
      split at h
      ·rename_i f' l' hl'
       split at h
       ·rename_i r' hcp
        cases h
        obtain ⟨ρ',k1,k2,k3,k4,k5,_,_,_⟩:=eF hfz hR hf
        obtain ⟨x',xs,vs,cap,h1,h2,h3,h4,h5⟩:=gy k4 hl'
        obtain ⟨⟨fn,h6,h7,h8⟩,hrun⟩:=oZ hO k3 h5 hcp hob
        have e:cl={ callee:=.value x',args:=xs.toArray,argTypes:=cl.argTypes }:=by
         cases cl; simp at h1 h2; subst h1; subst h2; rfl
        rw [e]
        exact .inl (.inr ⟨_,_,E.call h3 h4 h6 h7 h8,hrun.mono fun v w' hp=>⟨ρ',k1.trans (Stp.kp k3 hp.1),k3.kp hp.1,k4.kp hp.1,hp.2.1,hp.2.2⟩⟩)
       ·cases h
      ·cases h
     ·cases h
   ·cases h
  ·cases h
 case slice t x lo hi mx=>
  split at h
  ·rename_i i hx
   split at h
   ·rename_i q hfz
    split at h
    ·rename_i r' hpv
     cases h
     obtain ⟨ρ',k1,k2,k3,k4,k5,_,_,_⟩:=eF hfz hR hf
     rcases mG (ty:=ty) hT hO k3 k4 hpv hob with ⟨v,w',h1,h2⟩ | ⟨f,args,h1,h2⟩
     ·exact .inl (.inl ⟨v,w',h1,ρ',k1.trans (Stp.kp k3 h2.1),k3.kp h2.1,k4.kp h2.1,h2.2.1,h2.2.2⟩)
     ·exact .inl (.inr ⟨f,args,h1,h2.mono fun v w' hp=>⟨ρ',k1.trans (Stp.kp k3 hp.1),k3.kp hp.1,k4.kp hp.1,hp.2.1,hp.2.2⟩⟩)
    ·cases h
   ·cases h
  ·cases h
 case makeMap t o=>
  cases o with
  | some o=>cases h
  | none=>
   simp only at h
   split at h
   ·rename_i s hft
    cases h
    have hk:=Kp.alloc w (.map #[] 0)
    have hext:Ext ρ w (ρ++[.blk w.heap.size]) (w.alloc (.map #[] 0)):=Ext.app hk fun g hg=>by cases hg; exact Nat.le_refl _
    have hle:=hext.le hR.lo
    exact .inl (.inl ⟨_,_,R.sa,ρ++[.blk w.heap.size],Stp.app hR hk (fun g hg=>by cases hg; exact Nat.le_refl _),hR.app hk (fun g hg=>by cases hg; exact ⟨Nat.le_refl _,by simp⟩) ⟨_,rfl,#[],0,(Go.MapKept.heap_alloc w _).1,by simp,fun _=>trivial⟩,hf.carry hle (dH _ _),⟨w.heap.size,by rw [hR.obj.length]; simp,rfl⟩,by simp⟩)
   ·rename_i hft
    cases h
    have hk:=Kp.alloc w (.map #[] 0)
    have hext:Ext ρ w (ρ++[.blk w.heap.size]) (w.alloc (.map #[] 0)):=Ext.app hk fun g hg=>by cases hg; exact Nat.le_refl _
    have hle:=hext.le hR.lo
    exact .inl (.inl ⟨_,_,R.sa,ρ++[.blk w.heap.size],Stp.app hR hk (fun g hg=>by cases hg; exact Nat.le_refl _),hR.app hk (fun g hg=>by cases hg; exact ⟨Nat.le_refl _,by simp⟩) ⟨_,rfl,#[],0,(Go.MapKept.heap_alloc w _).1,by simp,fun _=>trivial⟩,hf.carry hle (dH _ _),⟨w.heap.size,by rw [hR.obj.length]; simp,rfl⟩,by simp⟩)
   ·cases h
 case insert t x y z=>
  obtain ⟨w',h1,h2⟩:=mD (n:=n) (ty:=ty) hT hR hf h
  exact .inr ⟨rfl,w',h1.1,h2⟩
 case mapUpdate t x y z=>
  obtain ⟨w',h1,h2⟩:=mD (n:=n) (ty:=ty) hT hR hf h
  exact .inr ⟨rfl,w',h1.2,h2⟩
 all_goals cases h
end
theorem cA {q:Prop} (h:∀ p ∈ [q],p):q:=h q (List.mem_singleton_self q)
theorem bI {b:Bool}:(∀ p ∈ same b,p)↔b=true:=by
 cases b with
 | true=>simp [same]
 | false=>exact ⟨fun h=>(cA h).elim,fun h=>by cases h⟩
theorem sU:∀ {k n:Nat},(iota k n).length=n
 | _,0=>rfl
 | k,n+1=>by simp [iota,sU]
theorem pO:∀ {k n i:Nat},i<n->(iota k n)[i]? = some (k+i)
 | k,n+1,0,_=>by simp [iota]
 | k,n+1,i+1,h=>by
  have:=pO (k:=k+1) (n:=n) (i:=i) (by omega)
  rw [iota,List.getElem?_cons_succ,this,show k+1+i=k+(i+1) by omega]
theorem Cw {k n i:Nat}:i ∈ iota k n↔k<=i/\i<k+n:=by
 induction n generalizing k with
 | zero=>simp [iota]
 | succ n ih=>simp [iota,ih]; omega
theorem eX:∀ {σ:List Nat} {j i:Nat},yY σ j i=true↔σ[j]? = some i
 | [],j,i=>by simp [yY]
 | k :: r,0,i=>by simp [yY]
 | k :: r,j+1,i=>by simpa [yY] using eX (σ:=r)
theorem tq {n:Nat}:∀ {σ:List Nat} {j:Nat},yC n σ j=true↔∃ k,σ[j]? = some k/\n<=k
 | [],j=>by simp [yC]
 | k :: r,0=>by simp [yC]
 | k :: r,j+1=>by simpa [yC] using tq (σ:=r)
def cm (ρ:List RE) (σ:List Nat):List RE:=σ.map fun k=>ρ.getD k .emp
theorem cF {ρ:List RE} {σ:List Nat} {i j:Nat} {r:RE} (h:σ[j]? = some i) (hr:ρ[i]? = some r):(cm ρ σ)[j]? = some r:=by
 simp [cm,h,List.getD_eq_getElem?_getD,hr]
theorem CY {ρ:List RE} {σ:List Nat} {i j:Nat} (h:σ[j]? = some i) (hr:ρ.length<=i):(cm ρ σ)[j]? = some .emp:=by
 simp [cm,h,List.getD_eq_getElem?_getD,List.getElem?_eq_none hr]
theorem jL {ρ:List RE} {σ:List Nat} {j g:Nat} {r:RE} (h:(cm ρ σ)[j]? = some r) (hg:r.g? = some g):∃ i,σ[j]? = some i/\ρ[i]? = some r:=by
 simp only [cm,List.getElem?_map,Option.map_eq_some_iff] at h
 obtain ⟨i,h1,h2⟩:=h
 refine ⟨i,h1,?_⟩
 rw [List.getD_eq_getElem?_getD] at h2
 cases hi:ρ[i]? with
 | none=>rw [hi] at h2; simp at h2; subst h2; cases hg
 | some r'=>rw [hi] at h2; simp at h2; rw [h2]
theorem kn {ρ:List RE} {σ:List Nat} {b:Nat} (h:live (cm ρ σ) b):∃ i r,i ∈ σ/\ρ[i]? = some r/\r.g? = some b:=by
 obtain ⟨j,r,h1,h2⟩:=h
 obtain ⟨i,h3,h4⟩:=jL h1 h2
 exact ⟨i,r,List.mem_of_getElem? h3,h4,h2⟩
section
variable {G:Gl} {ρ:List RE} {H:AH} {w:World} {σ:List Nat} {n:Nat}
theorem qI:(cx G ρ w).le (cx G (cm ρ σ) w):=
 ⟨rfl,rfl,fun _ hb=>⟨⟨hb.1,fun h=>by
  obtain ⟨i,r,_,h1,h2⟩:=kn h
  exact hb.2.1 ⟨i,r,h1,h2⟩,hb.2.2⟩,rfl⟩,fun _ _ _=>rfl⟩
theorem ez:∀ {b b':List (Nat × Nat)} {us:List Value},k_ σ b b' = true->All2 (cR ρ) b us->All2 (cR (cm ρ σ)) b' us
 | [],[],_,_,h=>by cases h; exact .nil
 | [],_ :: _,_,h,_=>by cases h
 | (_,_) :: _,[],_,h,_=>by cases h
 | (i,o) :: b,(j,o') :: b',_,h,k=>by
  simp only [k_,Bool.and_eq_true] at h
  cases k with | cons k1 k2=>
  have ho:=Nat.eq_of_beq_eq_true h.1.2
  subst ho
  obtain ⟨g,e1,e2⟩:=k1
  exact .cons ⟨g,cF (eX.1 h.1.1) e1,e2⟩ (ez h.2 k2)
theorem zm (hR:Rep G ρ H w) (hn:n=H.length) {a b:AV} {v:Value} (h:Rd (cx G ρ w) ρ a v) (he:∀ p ∈ L_ H n σ a b,p):Rd (cx G (cm ρ σ) w) (cm ρ σ) b v:=by
 have hlen:=hR.obj.length
 by_cases hd:b = .dead
 ·subst hd; exact h.one
 have hle:(cx G ρ w).le (cx G (cm ρ σ) w):=qI
 cases a <;> cases b <;> first | exact (hd rfl).elim | (dsimp only [L_] at he; try exact (cA he).elim)
 case int.int=>have he:=cA he; subst he; exact Pd.carry h hle
 case u8.u8=>have he:=cA he; subst he; exact Pd.carry h hle
 case u64.u64=>have he:=cA he; subst he; exact Pd.carry h hle
 case bool.bool=>
  have h:Pd (cx G ρ w) _ v:=h
  cases h
  rw [cA he]; exact Pd.bool
 case str.str=>have he:=cA he; subst he; exact Pd.carry h hle
 case li.li=>
  have e1:=he _ (List.mem_cons_self ..)
  have e2:=he _ (List.mem_cons_of_mem _ (List.mem_singleton_self _))
  subst e1; subst e2; exact Pd.carry h hle
 case fz.fz=>
  rename_i s xs s' ys
  by_cases hs:s=s'
  ·subst hs
   rw [dif_pos rfl] at he
   have he:xs=ys:=cA he
   subst he
   exact Pd.carry h hle
  ·rw [dif_neg hs] at he
   exact (cA he).elim
 case em.fz=>
  have he:=cA he
  subst he
  exact Pd.qB (Pd.carry h hle)
 case em.em=>
  have:=bI.1 he
  simp at this; subst this
  exact Pd.carry h hle
 case em.own=>
  obtain ⟨k,h1,h2⟩:=tq.1 (bI.1 he)
  have h:Pd (cx G ρ w) _ v:=h
  cases h with | em _=>
  exact .inr ⟨CY h1 bt,_,rfl⟩
 case own.own=>
  have h1:=eX.1 (bI.1 he)
  rcases h with ⟨g,cap,len,z,h,e⟩ | ⟨h,e⟩
  ·exact .inl ⟨g,cap,len,z,cF h1 h,e⟩
  ·exact .inr ⟨cF h1 h,e⟩
 case own.fz=>
  rename_i i s ys
  split at he
  ·rename_i t s' xs hH
   by_cases hs:s' = s
   ·subst hs
    rw [dif_pos rfl] at he
    have h1:=bI.1 fun p hp=>he p (List.mem_append_left _ hp)
    have h2:xs=ys:=he _ (List.mem_append_right _ (List.mem_singleton_self _))
    simp only [Bool.not_eq_true'] at h1
    subst h2
    have hni:i ∉ σ:=fun hi=>by rw [bw.2 hi] at h1; cases h1
    have hv:(AV.own i).vw H = .fz s' xs:=by simp [AV.vw,hH]
    refine ga (jT hR hle rfl h (fun g cap len z ⟨id,he,hid⟩=>?_) hv)
    have hb:=hR.bnd _ _ g hid rfl
    refine ⟨hb.2.1,fun hl=>?_,hb.2.2⟩
    obtain ⟨i',r',h3,h4,h5⟩:=kn hl
    have:=hR.inj _ _ _ _ g hid h4 rfl h5
    rcases he with he | ⟨_,_,he⟩ <;> cases he
    subst this
    exact hni h3
   ·rw [dif_neg hs] at he
    exact (cA he).elim
  ·exact (cA he).elim
 case sub.sub=>
  simp only [List.mem_append,List.mem_cons,List.not_mem_nil,or_false] at he
  have h1:=eX.1 (bI.1 fun p hp=>he p (.inl hp))
  have h2:=he _ (.inr (.inl rfl))
  have h3:=he _ (.inr (.inr rfl))
  subst h2; subst h3
  rcases h with ⟨g,cap,len,z,h,e⟩ | ⟨h,e⟩
  ·exact .inl ⟨g,cap,len,z,cF h1 h,e⟩
  ·exact .inr ⟨cF h1 h,e⟩
 case ptr.ptr=>
  have h1:=bI.1 he
  simp only [Bool.and_eq_true] at h1
  have ho:=Nat.eq_of_beq_eq_true h1.2
  subst ho
  obtain ⟨g,h,e⟩:=h
  exact ⟨g,cF (eX.1 h1.1) h,e⟩
 case np.np=>exact h
 case elp.elp=>
  simp only [List.mem_append,List.mem_cons,List.not_mem_nil,or_false] at he
  have h1:=bI.1 fun p hp=>he p (.inl hp)
  have h2:=he _ (.inr rfl)
  simp only [Bool.and_eq_true] at h1
  have ho:=Nat.eq_of_beq_eq_true h1.2
  subst ho; subst h2
  obtain ⟨g,cap,len,z,h,e⟩:=h
  exact ⟨g,cap,len,z,cF (eX.1 h1.1) h,e⟩
 case fn.fn=>
  have h1:=bI.1 he
  simp only [Bool.and_eq_true] at h1
  have ho:=Nat.eq_of_beq_eq_true h1.1.1
  subst ho
  obtain ⟨bs,us,h2,h3,e⟩:=h
  exact ⟨bs,us,ez h1.1.2 h2,ez h1.2 h3,e⟩
 case nf.nf=>exact h
 case yl.yl=>rw [<- Nat.eq_of_beq_eq_true (bI.1 he)]; exact h
 case np.xx k b=>
  unfold Kj at he
  split at he
  ·rename_i q
   have h1:=bI.1 he
   unfold JI at h1
   split at h1
   ·rename_i i hi
    split at h1
    ·rename_i t cs hH
     obtain ⟨r,hr,g,vs,rfl,_⟩:=hR.at_ (bG hH (by simp))
     have h:v = .pointer none:=h
     exact ⟨[_],.cons ⟨g,cF hi hr,rfl⟩ .nil,rfl,.inl h⟩
    ·cases h1
   ·cases h1
  ·exact (cA he).elim
 case ptr.xx i o k b=>
  unfold Kd at he
  split at he
  ·rename_i q
   have h1:=bI.1 he
   simp only [Bool.and_eq_true] at h1
   obtain ⟨g,h2,e⟩:=h
   have ho:=Nat.eq_of_beq_eq_true h1.2
   subst ho
   exact ⟨[v],.cons ⟨g,cF (eX.1 h1.1) h2,e⟩ .nil,rfl,.inr rfl⟩
  ·exact (cA he).elim
 case xx.xx k b k' b'=>
  obtain ⟨us,h1,h2⟩:=h
  unfold NW at he
  split at he
  ·have:=he _ (List.mem_singleton_self _)
   subst this
   cases h1
   exact ⟨[],.nil,h2⟩
  ·exact ⟨us,ez (bI.1 he) h1,h2.le hle⟩
  ·split at he
   ·rename_i hs
    subst hs
    have:=he _ (List.mem_singleton_self _)
    subst this
    cases h1
    exact ⟨[],.nil,h2.le hle⟩
   ·exact (cA he).elim
  ·have e1:=he _ (List.mem_cons_self ..)
   have e2:=he _ (List.mem_cons_of_mem _ (List.mem_singleton_self _))
   subst e1; subst e2
   cases h1
   exact ⟨[],.nil,h2.le hle⟩
  ·exact ⟨us,ez (bI.1 he) h1,h2.le hle⟩
  ·exact ⟨us,ez (bI.1 he) h1,h2.le hle⟩
  ·exact (cA he).elim
 case mq.mq=>
  obtain ⟨g,h,e⟩:=h
  exact ⟨g,cF (eX.1 (bI.1 he)) h,e⟩
theorem qq (hR:Rep G ρ H w) (hn:n=H.length):∀ {asx bs:List AV} {vs:List Value},All2 (Rd (cx G ρ w) ρ) asx vs->(∀ p ∈ zH H n σ asx bs,p)->All2 (Rd (cx G (cm ρ σ) w) (cm ρ σ)) bs vs
 | [],[],_,h,_=>by cases h; exact .nil
 | [],_ :: _,_,_,h=>(cA h).elim
 | _ :: _,[],_,_,h=>(cA h).elim
 | a :: asx,b :: bs,_,h,he=>by
  cases h with | cons h1 h2=>
  simp only [zH,List.mem_append] at he
  exact .cons (zm hR hn h1 fun p hp=>he p (.inl hp)) (qq hR hn h2 fun p hp=>he p (.inr hp))
theorem vT (hR:Rep G ρ H w) (hn:n=H.length) {a b:TV1} {v:Value} (h:bX (cx G ρ w) ρ a v) (he:∀ p ∈ Fy H n σ a b,p):bX (cx G (cm ρ σ) w) (cm ρ σ) b v:=by
 cases a <;> cases b <;> simp only [Fy] at he
 ·exact zm hR hn h he
 ·exact (cA he).elim
 ·exact (cA he).elim
 ·obtain ⟨vs,e,h⟩:=h
  exact ⟨vs,e,qq hR hn h he⟩
theorem lT (hR:Rep G ρ H w) (hn:n=H.length):∀ {asx bs:List TV1} {vs:List Value},All2 (bX (cx G ρ w) ρ) asx vs->(∀ p ∈ rS H n σ asx bs,p)->All2 (bX (cx G (cm ρ σ) w) (cm ρ σ)) bs vs
 | [],[],_,h,_=>by cases h; exact .nil
 | [],_ :: _,_,_,h=>(cA h).elim
 | _ :: _,[],_,_,h=>(cA h).elim
 | a :: asx,b :: bs,_,h,he=>by
  cases h with | cons h1 h2=>
  simp only [rS,List.mem_append] at he
  exact .cons (vT hR hn h1 fun p hp=>he p (.inl hp)) (lT hR hn h2 fun p hp=>he p (.inr hp))
theorem HL (hR:Rep G ρ H w) (hn:n=H.length) {a b:TV} {v:Value} (h:Rt (cx G ρ w) ρ a v) (he:∀ p ∈ Mi H n σ a b,p):Rt (cx G (cm ρ σ) w) (cm ρ σ) b v:=by
 cases b with
 | un=>trivial
 | one b=>
  cases a <;> simp only [Mi] at he
  ·exact vT hR hn h he
  ·exact (cA he).elim
  ·exact (cA he).elim
 | tup b=>
  cases a <;> simp only [Mi] at he
  ·exact (cA he).elim
  ·obtain ⟨vs,e,h⟩:=h
   exact ⟨vs,e,lT hR hn h he⟩
  ·exact (cA he).elim
theorem wb (hR:Rep G ρ H w) (hn:n=H.length) {fr:AFr} {F:Fr} (hf:cK (cx G ρ w) ρ fr F):∀ {fr':AFr},(∀ p ∈ El H n σ fr fr',p)->∃ F',cK (cx G (cm ρ σ) w) (cm ρ σ) fr' F' /\ ∀ i v,look F' i=some v->look F i=some v
 | [],_=>⟨[],.nil,fun i v h=>by cases h⟩
 | (i,b) :: fr',he=>by
  simp only [El] at he
  split at he
  ·rename_i u hu
   simp only [List.mem_append] at he
   obtain ⟨v,h1,h2⟩:=dL hf hu
   obtain ⟨F',h3,h4⟩:=wb hR hn hf fun p hp=>he p (.inr hp)
   refine ⟨(i,v) :: F',.cons ⟨rfl,HL hR hn h2 fun p hp=>he p (.inl hp)⟩ h3,fun j x hj=>?_⟩
   rw [aY] at hj
   by_cases hij:i=j
   ·subst hij; rw [if_pos rfl] at hj; cases hj; exact h1
   ·rw [if_neg hij] at hj; exact h4 j x hj
  ·exact (cA he).elim
theorem tV {P:Program} {t:TypeId} {s:Sh} {T:List (Nat × TI)} (hT:bn P G.shp T):∀ {r:List (Nat × TI)},pL T t s r=true->G.shp t=some s
 | [],h=>by cases h
 | (i,_) :: r,h=>by
  simp only [pL,Bool.or_eq_true] at h
  rcases h with h | h
  ·split at h
   ·rename_i e s' _ _ hu
    simp only [Bool.and_eq_true,decide_eq_true_eq] at h
    have h1:=Nat.eq_of_beq_eq_true h.1
    obtain ⟨_,h2⟩:=h
    subst h1; subst h2
    exact ((hT _ _ hu).2.2 _ rfl).1
   ·cases h
  ·exact tV hT h
theorem zg {P:Program} {T:List (Nat × TI)} (hT:bn P G.shp T) (hR:Rep G ρ H w) (hn:n=H.length):∀ {r:List Nat} {H':AH},(∀ p ∈ Jz T H n σ r H',p)->All2 (OR (cx G (cm ρ σ) w) (cm ρ σ)) H' (r.map fun k=>ρ.getD k .emp)
 | [],[],_=>.nil
 | [],_ :: _,h=>(cA h).elim
 | _ :: _,[],h=>(cA h).elim
 | k :: r,b :: H',h=>by
  simp only [Jz,List.mem_append] at h
  refine .cons ?_ (zg hT hR hn fun p hp=>h p (.inr hp))
  replace h:=fun p hp=>h p (.inl hp)
  have hle:(cx G ρ w).le (cx G (cm ρ σ) w):=qI
  cases hk:Nat.blt k n <;> rw [hk] at h
  ·-- a new row
   have hk':n<=k:=by
    have:¬ k<n:=fun hlt=>by have:=(Nat.blt_eq).mpr hlt; rw [hk] at this; cases this
    omega
   dsimp only [cond_false] at h
   have hlen:=hR.obj.length
   show OR _ _ _ (ρ.getD k .emp)
   rw [List.getD_eq_getElem?_getD,List.getElem?_eq_none (by omega)]
   cases b with
   | row t s ys=>
    dsimp only [Oc] at h
    have h1:=bI.1 fun p hp=>h p (List.mem_append_left _ hp)
    have h2:ys=[]:=h _ (List.mem_append_right _ (List.mem_singleton_self _))
    subst h2
    exact ⟨tV hT h1,by simp,.inl ⟨rfl,rfl⟩⟩
   | gone=>exact (cA h).elim
   | mapo _ _=>exact (cA h).elim
   | mapf _=>exact (cA h).elim
   | loc=>exact (cA h).elim
   | arr _ _ _ _=>exact (cA h).elim
   | box _ _=>exact (cA h).elim
  ·dsimp only [cond_true] at h
   have hk':k<H.length:=by have:=Nat.blt_eq.mp hk; omega
   have hg:H[k]? = some (getO H k):=by
    unfold getO
    rw [List.getD_eq_getElem?_getD,List.getElem?_eq_getElem hk']
    rfl
   obtain ⟨rr,h1,h2⟩:=hR.at_ hg
   show OR _ _ _ (ρ.getD k .emp)
   rw [List.getD_eq_getElem?_getD,h1,Option.getD_some]
   generalize getO H k=a at h h2
   cases a <;> cases b <;> dsimp only [NN] at h <;> try exact (cA h).elim
   case gone.gone=>exact h2
   case mapo.mapo s f s' f'=>
    by_cases hs:s=s'
    ·subst hs
     rw [dif_pos rfl] at h
     have he:f=f':=cA h
     subst he
     obtain ⟨g,e,h3⟩:=h2
     exact ⟨g,e,h3.carry hle rfl⟩
    ·rw [dif_neg hs] at h
     exact (cA h).elim
   case arr.arr t s m xs t' s' m' ys=>
    have h0:=bI.1 fun p hp=>h p (List.mem_append_left _ hp)
    simp only [Bool.and_eq_true] at h0
    have h3:=Nat.eq_of_beq_eq_true h0.1
    have h4:=Nat.eq_of_beq_eq_true h0.2
    subst h3; subst h4
    replace h:=fun p hp=>h p (List.mem_append_right _ hp)
    by_cases hs:s=s'
    ·subst hs
     rw [dif_pos rfl] at h
     have he:xs=ys:=cA h
     subst he
     obtain ⟨g,vs,e,h5,h6,h7⟩:=h2
     exact ⟨g,vs,e,h5,h6.carry hle,h7⟩
    ·rw [dif_neg hs] at h
     exact (cA h).elim
   case box.box t cs t' cs'=>
    have h3:=Nat.eq_of_beq_eq_true (bI.1 fun p hp=>h p (List.mem_append_left _ hp))
    subst h3
    obtain ⟨g,vs,e,h4,h5⟩:=h2
    exact ⟨g,vs,e,h4,qq hR hn h5 fun p hp=>h p (List.mem_append_right _ hp)⟩
   case row.row t s xs t' s' ys=>
    have h3:=Nat.eq_of_beq_eq_true (bI.1 fun p hp=>h p (List.mem_append_left _ hp))
    subst h3
    replace h:=fun p hp=>h p (List.mem_append_right _ hp)
    by_cases hs:s=s'
    ·subst hs
     rw [dif_pos rfl] at h
     have he:xs=ys:=cA h
     subst he
     refine ⟨h2.1,h2.2.1,h2.2.2.imp id ?_⟩
     rintro ⟨g,cap,cells,sp,e,h4,h5,h6⟩
     exact ⟨g,cap,cells,sp,e,h4,h5.carry hle,h6⟩
    ·rw [dif_neg hs] at h
     exact (cA h).elim
theorem nE {n:Nat}:∀ {σ:List Nat},kJ n σ=true->∀ (i j k:Nat),σ[i]? = some k->σ[j]? = some k->k<n->i=j
 | [],_,i,j,k,h,_,_=>by simp at h
 | x :: r,hs,i,j,k,h1,h2,hk=>by
  simp only [kJ,Bool.and_eq_true,Bool.or_eq_true,Bool.not_eq_true'] at hs
  have hx:k=x->∀ m:Nat,r[m]? = some k->False:=by
   rintro rfl m hm
   rcases hs.1 with h | h
   ·have:=Nat.le_of_ble_eq_true h; omega
   ·rw [bw.2 (List.mem_of_getElem? hm)] at h; cases h
  cases i with
  | zero=>
   simp at h1
   cases j with
   | zero=>rfl
   | succ j=>exact (hx h1.symm j (by simpa using h2)).elim
  | succ i=>
   cases j with
   | zero=>simp at h2; exact (hx h2.symm i (by simpa using h1)).elim
   | succ j=>rw [nE hs.2 i j k (by simpa using h1) (by simpa using h2) hk]
theorem si {P:Program} {T:List (Nat × TI)} (hT:bn P G.shp T) (hR:Rep G ρ H w) (hn:n=H.length) (hs:kJ n σ=true) {H':AH} (h:∀ p ∈ Jz T H n σ σ H',p):Rep G (cm ρ σ) H' w:=by
 have hlen:=hR.obj.length
 refine ⟨zg hT hR hn h,fun i j r r' g h1 h2 h3 h4=>?_,fun i r g h1 h2=>?_,hR.z,hR.b0,hR.tb.carry qI⟩
 ·obtain ⟨a,h5,h6⟩:=jL h1 h3
  obtain ⟨b,h7,h8⟩:=jL h2 h4
  have:=hR.inj a b r r' g h6 h8 h3 h4
  subst this
  exact nE hs i j a h5 h7 (by have:=(List.getElem?_eq_some_iff.1 h6).1; omega)
 ·obtain ⟨a,h5,h6⟩:=jL h1 h2
  exact hR.bnd a r g h6 h2
theorem tD {ρ0:List RE} {w0:World} (h:Ext ρ0 w0 ρ w):Ext ρ0 w0 (cm ρ σ) w:=
 ⟨h.os,h.tape,h.output,h.size,fun b hb hl=>⟨fun hk=>by
  obtain ⟨i,r,_,h1,h2⟩:=kn hk
  exact (h.old b hb hl).1 ⟨i,r,h1,h2⟩,(h.old b hb hl).2⟩⟩
theorem Db {ro:Lv} {ρ0:List RE} {w0:World} (h:Stp ro ρ0 w0 ρ w) (hσ:∀ i,i<ρ0.length->σ[i]? = some i):Stp ro ρ0 w0 (cm ρ σ) w:=
 ⟨tD h.ext,fun i r hi hr=>cF (hσ i (List.getElem?_eq_some_iff.1 hr).1) (h.loc i r hi hr),fun i r hi hr=>⟨cF (hσ i (List.getElem?_eq_some_iff.1 hr).1) (h.pro i r hi hr).1,(h.pro i r hi hr).2⟩,
  fun i g hg=>cF (hσ i (List.getElem?_eq_some_iff.1 hg).1) (h.bx i g hg)⟩
def St (G:Gl) (ro:Lv) (ρ0:List RE) (w0:World) (fr:AFr) (H:AH) (F:Fr) (w:World):Prop:=∃ ρ,Stp ro ρ0 w0 ρ w/\Rep G ρ H w/\cK (cx G ρ w) ρ fr F
theorem sH {k0:Nat} {fr:AFr} {H:AH} {q:AFr × AH} {i:Nat} (h:i<k0):∀ (f:Nat) (ps:List (Nat × Nat)),(Fx k0 fr H q f ps)[i]? = some i
 | 0,ps=>by
  show (iota 0 k0++_)[i]? = _
  have:=pO (k:=0) (n:=k0) (i:=i) h
  rw [Nat.zero_add] at this
  rw [List.getElem?_append_left (List.getElem?_eq_some_iff.1 this).1]; exact this
 | f+1,ps=>sH h f _
theorem gW {P:Program} {T:List (Nat × TI)} (hT:bn P G.shp T) {ro:Lv} {k0:Nat} {ρ0:List RE} {w0:World} {fr:AFr} {F:Fr} {q:AFr × AH} (hk0:ρ0.length<=k0) (h:St G ro ρ0 w0 fr H F w) (he:gO (uJ T k0 fr H q)) :
  ∃ F',St G ro ρ0 w0 q.1 q.2 F' w/\∀ i v,look F' i=some v->look F i=some v:=by
 obtain ⟨ρ,hS,hR,hf⟩:=h
 replace he:=dK.1 he
 dsimp only [uJ] at he
 have h0:=bI.1 fun p hp=>he p (List.mem_append_left _ (List.mem_append_left _ hp))
 rw [Bool.and_eq_true] at h0
 obtain ⟨F',h2,h3⟩:=wb (σ:=Fx k0 fr H q 3 []) hR rfl hf fun p hp=>he p (List.mem_append_left _ (List.mem_append_right _ hp))
 have h4:=si hT hR rfl h0.2 fun p hp=>he p (List.mem_append_right _ hp)
 exact ⟨F',⟨_,Db hS fun i hi=>sH bt 3 [],h4,h2⟩,h3⟩
end
theorem fk {R:Prop}:∀ {l:List Prop},oa l R↔(∀ p ∈ l,p)/\R
 | []=>by simp [oa]
 | p :: l=>by simp only [oa,fk,List.forall_mem_cons,and_assoc]
theorem cZ {R:Prop}:∀ {l:List Prop},iz l R↔((∀ p ∈ l,p)->R)
 | []=>by simp [iz]
 | p :: l=>by simp only [iz,cZ,List.forall_mem_cons,and_imp]
section
variable {P:Program} {T:List (Nat × TI)} {G:Gl} {O:cO} {Q:Exit->Act->World->Prop} {n:Nat} {ro:Lv} {l:List Oper} {ρ0:List RE} {w0:World}
theorem BF {ρ:List RE} {H:AH} {w:World} (hR:Rep G ρ H w) {a:AV} {v:Value} (h:Rd (cx G ρ w) ρ a v) {s:Sh} {xs:List (den s)} (hv:a.vw H = .fz s xs):∃ A m c,v = .slice A m c/\(A.isNone=true->xs=[]):=by
 cases a <;> simp only [AV.vw] at hv <;> try cases hv
 case fz=>
  have h:Pd (cx G ρ w) (.fz s xs) v:=h
  cases h with
  | fz h1 h2 h3 h4 h5=>
   refine ⟨_,_,_,rfl,fun hn=>?_⟩
   rcases h5 with h5 | ⟨A,rfl,_⟩
   ·exact h5
   ·cases hn
 case own id=>
  split at hv
  ·rename_i t s' ys hH
   cases hv
   rcases h with ⟨g,cap,len,z,h,rfl⟩ | ⟨h,A,rfl⟩
   ·exact ⟨_,_,_,rfl,fun hn=>by cases hn⟩
   ·refine ⟨_,_,_,rfl,fun _=>?_⟩
    rcases bJ hR hH with ⟨_,h2⟩ | ⟨g,cap,cells,sp,h2,_⟩
    ·exact h2
    ·rw [h] at h2; cases h2
  ·cases hv
 case sub id o k=>
  split at hv
  ·rename_i t s' ys hH
   cases hv
   rcases h with ⟨g,cap,L,z,h,_,rfl⟩ | ⟨h,rfl,rfl,A,rfl⟩
   ·exact ⟨_,_,_,rfl,fun hn=>by cases hn⟩
   ·exact ⟨_,_,_,rfl,fun _=>by simp⟩
  ·cases hv
theorem FM (hT:bn P G.shp T) {ρ:List RE} {H:AH} {w:World} (hR:Rep G ρ H w) {fr:AFr} {F:Fr} (hf:cK (cx G ρ w) ρ fr F) {op:Op} {s:Sh} {xs:List (den s)} {ne:Bool} {ty:TypeId} (h:IW T H fr op=some ⟨s,xs,ne⟩):∃ b,aU P n F w op ty (.bool (Iw ne b).val) w/\(b=true->xs=[]):=by
 unfold IW at h
 split at h
 ·rename_i bo t x y t'
  have key:∀ {a:AV} {e so sz z},bq T t=some ⟨.sl e so,sz,z⟩->cW fr x=some (.one (.c a))->cW fr y=some (.one (.c (.em true)))->a.vw H = .fz s xs->∃ A m c,ev F x=some (.slice A m c)/\ev F y=some (.slice none 0 0)/\P.underlying t=some (.slice e)/\(A.isNone=true->xs=[]):=by
   intro a e so sz z hft hx hy hv
   obtain ⟨va,h1,h2⟩:=aK hf hx
   obtain ⟨vb,h3,h4⟩:=aK hf hy
   obtain ⟨A,m,c,rfl,hn⟩:=BF hR h2 hv
   have h4:Pd (cx G ρ w) (.em true) vb:=h4
   cases h4 with
   | @em b A' he=>
    cases A' with
    | none=>exact ⟨A,m,c,h1,h3,(hT _ _ hft).2.1,hn⟩
    | some _=>cases he
  split at h
  ·rename_i e so sz z a hft hx hy
   split at h
   ·rename_i s' ys hv
    cases h
    obtain ⟨A,m,c,h1,h2,h3,h4⟩:=key hft hx hy hv
    exact ⟨A.isNone,R.zq h1 h2 h3,h4⟩
   ·cases h
  ·rename_i e so sz z a hft hx hy
   split at h
   ·rename_i s' ys hv
    cases h
    obtain ⟨A,m,c,h1,h2,h3,h4⟩:=key hft hx hy hv
    exact ⟨A.isNone,R.AM h1 h2 h3,h4⟩
   ·cases h
  ·cases h
 ·cases h
theorem i_ {k:Int} {ok:Bool} {K:TV->Prop}:∀ {l:List (Int × AV)},qf k ok K l->K (match lookF k l with
  | some a=>yv ok a true
  | none=>yv ok .nf false)
 | [],h=>h
 | (j,a) :: r,h=>by
  simp only [lookF]
  by_cases hk:k=j
  ·rw [if_pos hk]; exact h.1 hk
  ·rw [if_neg hk]; exact i_ (h.2 hk)
theorem sX (hT:bn P G.shp T) {ρ:List RE} {H:AH} {w:World} (hR:Rep G ρ H w) {fr:AFr} {F:Fr} (hf:cK (cx G ρ w) ρ fr F) {op:Op} {m:MpR} {ty:TypeId} (h:mapA T H fr op=some m):∃ v,aU P n F w op ty v w/\Rt (cx G ρ w) ρ (match lookF m.k m.l with
  | some a=>yv m.ok a true
  | none=>yv m.ok .nf false) v:=by
 unfold mapA at h
 split at h
 ·rename_i t x y ok
  split at h
  ·rename_i id k hft hx hy
   split at h
   ·rename_i l hO2
    cases h
    obtain ⟨hm,hk,_,hz⟩:=(hT _ _ hft).2
    obtain ⟨va,h1,h2⟩:=aK hf hx
    obtain ⟨vb,h3,h4⟩:=aK hf hy
    cases h4 with | int=>
    obtain ⟨g,hg,rfl⟩:=h2
    obtain ⟨r',hr',hor⟩:=hR.at_ (bG hO2 (by simp))
    rw [hg] at hr'; cases hr'
    obtain ⟨g',e,a,c,k1,k2,k3⟩:=hor
    cases e
    have hrun:=R.vS (P:=P) (n:=n) (ty:=ty) ok h1 h3 hm hk (hz rfl) k1 k2
    refine ⟨_,hrun,?_⟩
    have k4:=k3 k
    dsimp only
    cases hgm:getM k a.toList <;> cases hfk:lookF k l <;> rw [hgm,hfk] at k4
    ·cases ok with
     | false=>exact (rfl:(_:Value)=_)
     | true=>exact ⟨_,rfl,.cons rfl (.cons (Pd.bool (e:=.lit false)) .nil)⟩
    ·exact k4.elim
    ·exact k4.elim
    ·cases ok with
     | false=>exact k4
     | true=>exact ⟨_,rfl,.cons k4 (.cons (Pd.bool (e:=.lit true)) .nil)⟩
   ·cases h
  ·cases h
 ·cases h
theorem nF {l:List Oper} {fr:AFr} {j:Nat} {w:Bool}:∀ {grp:List Oper} {us:List Nat},uO l fr j w us grp=true->∀ o ∈ grp,e_ fr o.dst=true
 | [],_,_,o,ho=>by cases ho
 | x :: r,us,h,o,ho=>by
  simp only [uO,Bool.and_eq_true] at h
  rcases List.mem_cons.1 ho with rfl | ho
  ·exact h.1.1
  ·exact nF h.2 o ho
theorem xb {n j:Nat} {w:Bool}:∀ {grp:List Oper},gi n grp=true->gi n (grp.map (AD j w))=true
 | [],h=>h
 | x :: r,h=>by
  simp only [gi,List.map_cons,Bool.and_eq_true] at h ⊢
  refine ⟨?_,xb h.2⟩
  have e:(AD j w x).dst=x.dst:=by unfold AD; rw [Bool.cond_eq_ite]; split <;> first | rfl | (split <;> rfl)
  rw [e]; exact h.1
theorem ij (hT:bn P G.shp T) (hO:bk P G.shp O) {K:AFr->AH->Prop} (hK:∀ fr H F w,K fr H->St G ro ρ0 w0 fr H F w->WX Q n .normal F w) :
  ∀ (m:Nat) (ops:List Oper) (fr:AFr) (H:AH) (F:Fr) (w:World),gi n ops=true->wpOps T O ro l K m ops fr H->St G ro ρ0 w0 fr H F w->WO P Q n l ops F w
 | 0,_,_,_,_,_,_,h,_=>h.elim
 | _+1,[],fr,H,F,w,_,h,hs=>WO.nil (hK fr H F w h hs)
 | m+1,o :: rest,fr,H,F,w,hd,h,hs=>by
  have ih:=ij hT hO hK m
  have hs0:=hs
  obtain ⟨ρ,hS,hR,hf⟩:=hs
  have hdo:=gP hd o (by simp)
  have hdr:gi n rest=true:=by simp only [gi,Bool.and_eq_true] at hd; exact hd.2
  obtain ⟨dst,op,ty,pos,af,g⟩:=o
  simp only [wpOps] at h
  split at h
  ·-- no guard
   split at h
   ·-- an element of what nobody writes
    rename_i s xs i hat
    unfold Og at hat
    split at hat
    ·rename_i t x y
     split at hat
     ·rename_i s1 xs1 b s2 hx hy hsl
      split at hat
      ·rename_i i' hdc hix
       cases hat
       have hss:s2=s:=of_decide_eq_true hdc
       subst hss
       obtain ⟨h0,h1,h2⟩:=h
       obtain ⟨va,h3,h4⟩:=aK hf hx
       obtain ⟨vb,h5,h6⟩:=aK hf hy
       obtain ⟨k,rfl⟩:=jU hix h6
       obtain ⟨e,hu,_,_,hsz,_⟩:=uX hT hsl
       obtain ⟨j,rfl⟩:=Int.eq_ofNat_of_zero_le h0
       have hj:j<xs.length:=by omega
       have hxj:=List.getElem?_eq_getElem hj
       obtain ⟨A,kk,rfl,_,hfe,us,hus⟩:=Bk (ρ:=ρ) h4 hxj
       have h7:=cZ.1 (h2 _ (by rw [Int.toNat_natCast]; exact hxj)) hus.jd
       refine WO.y (φ:=fun v w'=>v = .pointer (some (A.add (j*s2.size)))/\w' = w) (.inl ⟨_,_,R.dV h3 h5 hu hsz rfl hj,rfl,rfl⟩) hdo fun v w' ⟨e1,e2⟩=>?_
       subst e1; subst e2
       refine ih rest _ H _ _ hdr h7 ⟨ρ,hS,hR,?_⟩
       cases dst with
       | some d=>exact .cons ⟨rfl,hfe⟩ hf
       | none=>exact hf
      ·cases hat
     ·cases hat
    ·cases hat
   ·split at h
    ·-- a comparison to nil
     rename_i s xs ne hnl
     obtain ⟨b,hrun,hb⟩:=FM (n:=n) (ty:=ty) hT hR hf hnl
     refine WO.y (φ:=fun v w'=>v = .bool (Iw ne b).val/\w' = w) (.inl ⟨_,_,hrun,rfl,rfl⟩) hdo fun v w' ⟨e1,e2⟩=>?_
     subst e1; subst e2
     refine ih rest _ H _ _ hdr (h b hb) ⟨ρ,hS,hR,?_⟩
     cases dst with
     | some d=>exact .cons ⟨rfl,Pd.bool⟩ hf
     | none=>exact hf
    split at h
    ·-- a map of functions
     rename_i m0 hmp
     obtain ⟨v0,hrun,hv0⟩:=sX (n:=n) (ty:=ty) hT hR hf hmp
     refine WO.y (φ:=fun v w'=>v=v0/\w' = w) (.inl ⟨_,_,hrun,rfl,rfl⟩) hdo fun v w' ⟨e1,e2⟩=>?_
     subst e1; subst e2
     refine ih rest _ H _ _ hdr (i_ h) ⟨ρ,hS,hR,?_⟩
     cases dst with
     | some d=>exact .cons ⟨rfl,hv0⟩ hf
     | none=>exact hf
    split at h
    ·-- a step that changes nothing
     rename_i r hpv
     obtain ⟨hob,h⟩:=fk.1 h
     refine WO.y (mG (ty:=ty) hT hO hR hf hpv hob) hdo fun v w1 ⟨hk1,hv1,hfc1⟩=>?_
     refine ih rest _ H _ _ hdr (cZ.1 h hfc1) ⟨ρ,hS.trans (Stp.kp hR hk1),hR.kp hk1,?_⟩
     cases dst with
     | some d=>exact .cons ⟨rfl,hv1⟩ (hf.kp hk1)
     | none=>exact hf.kp hk1
    ·split at h
     ·rename_i r hst hsv
      obtain ⟨hob,h⟩:=fk.1 h
      have key:∀ v w',ee G ro ρ w r F v w' -> WO P Q n l rest (fo dst v F) w':=by
       rintro v w' ⟨ρ',k1,k2,k3,k4,k5⟩
       refine ih rest _ _ _ _ hdr (cZ.1 h k5) ⟨ρ',hS.trans k1,k2,?_⟩
       cases dst with
       | some d=>exact .cons ⟨rfl,k4⟩ k3
       | none=>exact k3
      rcases zU (ty:=ty) hT hO hR hf hsv hob with hy | ⟨e,w',hsk,haf⟩
      ·exact WO.y hy hdo key
      ·cases dst with
       | some d=>simp [D_,e] at hst
       | none=>exact WO.s hsk (key _ _ haf)
     ·exact h.elim
  ·-- a guard
   rename_i g0 j wt
   split at h
   ·rename_i r hgr
    obtain ⟨hob,h⟩:=fk.1 h
    have:=xm (tl:=[]) (G:=G) (Q:=Q) (n:=n) (l:=l) (ρ:=ρ) (H:=H) (jC hT hO m) hgr (fun _ _ e=>by cases e) hob hd hR hf fun w1 hk1 hfc1 hFd hfd hf1 hbd hdt=>by
     rw [List.append_nil]
     exact ih r.tail _ H _ _ hdt (cZ.1 h hfc1) ⟨ρ,hS.trans (Stp.kp hR hk1),hR.kp hk1,.cons ⟨rfl,Pd.bool⟩ hf1⟩
    rwa [List.append_nil] at this
   ·split at h
    ·-- a group,in two ways
     rename_i r hgs
     obtain ⟨hon,hoff'⟩:=h
     unfold JW at hgs
     split at hgs
     ·rename_i t hj
      split at hgs
      ·rename_i e grp pk tail he hsp
       split at hgs
       ·rename_i z x y d hck hpk hpd
        cases hgs
        simp only [Bool.and_eq_true] at hck
        obtain ⟨⟨hoffB,hpg⟩,hfresh⟩:=hck
        obtain ⟨hops,hip⟩:=ko hsp
        replace hpg:=qK hpg
        replace he:=cM he
        rw [hops] at hd
        rw [hops]
        obtain ⟨vt,hvt,hvr⟩:=dL hf he
        cases hvr with | bool=>
        obtain ⟨hd1,hd2⟩:=jm.1 hd
        have hd3:gi n tail=true:=by simp only [gi,Bool.and_eq_true] at hd2; exact hd2.2
        have hdd:Nat.blt d n=true:=gP hd2 pk (by simp) d hpd
        rw [hpd] at hfresh
        have hFd:look F d=none:=eL hf hfresh d rfl
        obtain ⟨dst,op,ty,pos,af,pg⟩:=pk
        simp only at hpk hpd hpg hon hoff'
        subst hpk; subst hpd; subst hpg
        have hz:z = .tmp t:=by
         cases z <;> simp only [kz] at hip
         ·rw [Nat.eq_of_beq_eq_true hip]
         all_goals cases hip
        subst hz
        by_cases hew:e.val=wt
        ·rw [hew] at hvt
         refine WO.split (t:=t) hj hvt (fun o ho d' hd' e=>?_) (ih _ _ H _ _ ?_ (hon ((BE.dB e wt).2 hew)) ⟨ρ,hS,hR,hf⟩)
         ·have:=eL hf (nF hoffB o ho) d' hd'
          rw [e,hvt] at this; cases this
         ·refine jm.2 ⟨xb hd1,?_⟩
          simp only [gi,Bool.and_eq_true] at hd2 ⊢
          exact hd2
        ·have hew':e.val = !wt:=by revert hew; cases e.val <;> cases wt <;> simp
         have hoff':=hoff' ((BE.dB e _).2 hew')
         split at hoff'
         ·rename_i v hv
          refine hP (us:=[]) hf hj hvt hew' hoffB hd1 (by simp) ?_
          obtain ⟨u,hu,hr⟩:=aK hf hv
          have k:=ih tail ((d,v) :: fr) H ((d,u) :: F) _ hd3 hoff' ⟨ρ,hS,hR,.cons ⟨rfl,hr⟩ hf⟩
          have hl:ev F (.tmp t)=some (.bool e.val):=hvt
          cases wt with
          | true=>exact WO.v (R.rR hl hew' hu) hdd k
          | false=>exact WO.v (R.tg hl hew' hu) hdd k
         ·exact hoff'.elim
       ·cases hgs
      ·cases hgs
     ·cases hgs
    ·exact h.elim
def cJ (n:Nat):Code->Bool
 | .seq a b=>cJ n a && cJ n b
 | .cond _ a b=>cJ n a && cJ n b
 | .block _ a=>cJ n a
 | .loop a=>cJ n a
 | .scope a=>cJ n a
 | .region _ ops _=>gi n ops.toList
 | _=>true
theorem sY {c:Cx} {ρ:List RE} {fr:AFr} {F:Fr} (h:cK c ρ fr F):∀ l:List Nat,∃ F2,cK c ρ (cn fr l) F2/\∀ i v,look F2 i=some v->look F i=some v
 | []=>⟨[],.nil,fun i v h=>by cases h⟩
 | t :: r=>by
  obtain ⟨F2,h1,h2⟩:=sY h r
  unfold cn
  split
  ·rename_i v hv
   obtain ⟨u,h3,h4⟩:=dL h hv
   refine ⟨(t,u) :: F2,.cons ⟨rfl,h4⟩ h1,fun i x hx=>?_⟩
   rw [aY] at hx
   split at hx
   ·rename_i e; subst e; cases hx; exact h3
   ·exact h2 i x hx
  ·exact ⟨F2,h1,h2⟩
def zO (P:Program) (T:List (Nat × TI)) (G:Gl) (O:cO) (n:Nat) (ro:Lv) (ρ0:List RE) (w0:World):Prop:=
 ∀ (Q:Exit->Act->World->Prop) (k0 id:Nat) (L:List (Nat × LI)) (ops:Array Oper) (K:Exit->AFr->AH->Prop) (fr:AFr) (H:AH) (F:Fr) (w:World),gi n ops.toList=true->gz T O ro k0 L (.region id ops true) K fr H->St G ro ρ0 w0 fr H F w ->
  (∀ fr H F w,K .normal fr H->St G ro ρ0 w0 fr H F w->WX Q n .normal F w)->WC P Q n (.region id ops true) F w
theorem pF (hT:bn P G.shp T) (hO:bk P G.shp O) (hD:zO P T G O n ro ρ0 w0) {k0:Nat} (hk0:ρ0.length<=k0) {L:List (Nat × LI)} :
  ∀ (c:Code) (Q:Exit->Act->World->Prop) (K:Exit->AFr->AH->Prop) (fr:AFr) (H:AH) (F:Fr) (w:World),cJ n c=true->gz T O ro k0 L c K fr H->St G ro ρ0 w0 fr H F w ->
   (∀ e fr H F w,K e fr H->St G ro ρ0 w0 fr H F w->WX Q n e F w)->WC P Q n c F w:=by
 intro c
 induction c <;> intro Q K fr H F w hc h hs hK
 case skip=>exact WC.skip (hK _ _ _ _ _ h hs)
 case seq a b iha ihb=>
  simp only [cJ,Bool.and_eq_true] at hc
  refine WC.seq (iha _ _ fr H F w hc.1 h hs fun e fr H F w h hs=>?_)
  cases e with
  | normal=>exact WX.next (ihb _ _ fr H F w hc.2 h hs hK)
  | _=>exact hK _ fr H F w h hs
 case cond c a b iha ihb=>
  simp only [cJ,Bool.and_eq_true] at hc
  obtain ⟨ρ,hS,hR,hf⟩:=hs
  have hs:St G ro ρ0 w0 fr H F w:=⟨ρ,hS,hR,hf⟩
  simp only [gz] at h
  split at h
  ·rename_i he
   obtain ⟨v,h1,h2⟩:=aK hf (cM he)
   cases h2 with | bool=>
   exact WC.z_ h1 (iha _ _ fr H F w hc.1 h hs hK)
  ·rename_i he
   obtain ⟨v,h1,h2⟩:=aK hf (cM he)
   cases h2 with | bool=>
   exact WC.Lt h1 (ihb _ _ fr H F w hc.2 h hs hK)
  ·rename_i e _ _ he
   obtain ⟨v,h1,h2⟩:=aK hf (cM he)
   cases h2 with | bool=>
   exact WC.cond h1 (fun hv=>iha _ _ fr H F w hc.1 (h.1 ((BE.dB e true).2 hv)) hs hK) (fun hv=>ihb _ _ fr H F w hc.2 (h.2 ((BE.dB e false).2 hv)) hs hK)
  ·exact h.elim
 case block i a iha=>
  refine WC.block (iha _ _ fr H F w hc h hs fun e fr H F w h hs=>?_)
  cases e with
  | exit j=>
   simp only at h
   intro x hx
   show (if j=i then Q .normal x w else Q (.exit j) x w)
   cases hb:Nat.beq j i <;> rw [hb] at h
   ·have:j≠i:=by rintro rfl; simp at hb
    rw [if_neg this]
    exact hK _ fr H F w h hs x hx
   ·rw [if_pos (Nat.eq_of_beq_eq_true hb)]
    exact hK _ fr H F w h hs x hx
  | _=>exact hK _ fr H F w h hs
 case loop a iha=>
  simp only [gz] at h
  split at h
  ·rename_i I hI
   split at h
   ·rename_i m l _
    intro x hx
    refine nh (fun a' w m=>∃ fr H F,GY (gz T O ro k0 L a) K l m fr H/\M n F a' /\ St G ro ρ0 w0 fr H F w) id m ⟨fr,H,F,h,hx,hs⟩ fun m a' w hD=>?_
    obtain ⟨fr,H,F',hu,hM,hst⟩:=hD
    cases m with
    | zero=>exact hu.elim
    | succ m=>
     obtain ⟨ρ',hS,hR,hf⟩:=hst
     obtain ⟨F2,hf2,hsub⟩:=sY hf l
     exact iha _ _ _ _ F2 w hc hu ⟨ρ',hS,hR,hf2⟩ (fun e fr H F w h hs=>by
      cases e with
      | normal=>exact fun x hx=>⟨m,⟨fr,H,F,h,hx,hs⟩,Nat.lt_succ_self m⟩
      | _=>exact hK _ fr H F w h hs) a' (hM.sub hsub)
   obtain ⟨s0,h1,h2,h3⟩:=h
   obtain ⟨hr0,h3⟩:=LI.wQ.1 h3
   intro x hx
   obtain ⟨F2,h7,h8⟩:=gW hT hk0 hs h1
   refine nh (fun a w s=>I.J s/\I.rel s0 s/\∃ F,M n F a/\St G ro ρ0 w0 (I.F s).1 (I.F s).2 F w) I.μ s0 ⟨h2,hr0,F2,hx.sub h8,h7⟩ fun s a' w hD=>?_
   obtain ⟨hJ,hrl,F',hM,hst⟩:=hD
   exact iha _ _ _ _ F' w hc (LI.Fv.1 (h3 s hJ) hrl) hst (fun e fr H F w h hs=>by
    cases e with
    | normal=>
     obtain ⟨s',h4,h5,h6⟩:=h
     obtain ⟨h9,h6⟩:=LI.wQ.1 h6
     obtain ⟨F2,h7,h8⟩:=gW hT hk0 hs h4
     exact fun x hx=>⟨s',⟨h5,h9,F2,hx.sub h8,h7⟩,h6⟩
    | _=>exact hK _ fr H F w h hs) a' hM
  ·exact h.elim
 case exit i=>exact WC.exit (hK _ _ _ _ _ h hs)
 case ret=>exact WC.ret (hK _ _ _ _ _ h hs)
 case scope a iha=>
  refine fun x hx=>xP (iha (Exit.noGoto Q) _ fr H F w hc h hs (fun e fr H F w h hs=>?_) x hx)
  cases e with
  | goto i=>exact h.elim
  | _=>exact hK _ fr H F w h hs
 case label i=>exact WC.label (hK _ _ _ _ _ h hs)
 case region i ops b=>
  cases b with
  | true=>exact hD Q k0 i L ops K fr H F w hc h hs fun fr H F w=>hK _ fr H F w
  | false=>
   have e:ops=ops.toList.toArray:=by simp
   rw [e]
   exact WC.region (ij hT hO (fun fr H F w=>hK _ fr H F w) _ _ fr H F w hc h hs)
 all_goals exact h.elim
end
def Jq (n:Nat) (ps:List (Nat × Nat)):Nat->Nat->List Nat
 | _,0=>[]
 | k,m+1=>xg n ps k :: Jq n ps (k+1) m
def iY:AO->Bool
 | .row _ _ _=>true
 | _=>false
def GM (H0:AH) (ps:List (Nat × Nat)):Nat->Nat->List Nat
 | _,0=>[]
 | k,m+1=>(bif iY (getO H0 k) then xg k ps k else k) :: GM H0 ps (k+1) m
def Er (H0:AH) (k0:Nat) (H:AH) (l rs:List TV1) (H':AH):Nat->List (Nat × Nat)->List Nat
 | 0,ps=>GM H0 ps 0 k0++Jq H.length ps k0 (H'.length - k0)
 | f+1,ps=>Er H0 k0 H l rs H' f (xd l rs++CD H (GM H0 ps 0 k0++Jq H.length ps k0 (H'.length - k0)) H')
def JR (T:List (Nat × TI)) (H0:AH) (k0:Nat) (fn:Func) (rs:List TV1) (H':AH) (fr:AFr) (H:AH):List Prop:=
 match oo T fr H fn.results.toList with
 | some l=>match Er H0 k0 H l rs H' 3 [] with
  | σ=>same (kJ H.length σ)++rS H H.length σ l rs++Jz T H H.length σ σ H'
 | none=>[False]
def DU (T:List (Nat × TI)) (H0:AH) (k0:Nat) (fn:Func) (rs:List TV1) (H':AH) (fr:AFr) (H:AH):Prop:=gO (JR T H0 k0 fn rs H' fr H)
def Me (b:Bool) (T:List (Nat × TI)) (O:cO) (L:List (Nat × LI)) (fn:Func) (args:List TV1) (H:AH) (rs:List TV1) (H':AH):Prop:=
 match fn.body with
 | some c=>iz (xY args) (gz T O (dS (bif b then H.length else 0)) H.length L c (fun e fr K=>match e with
  | .ret=>DU T (bif b then [] else H) H.length fn rs H' fr K
  | .normal=>DU T (bif b then [] else H) H.length fn rs H' fr K
  | _=>False) (lH 0 args) H)
 | none=>False
def g_:=Me false
def lF:=Me true
section
variable {P:Program} {T:List (Nat × TI)} {G:Gl} {O:cO} {n:Nat} {ρ:List RE} {H:AH} {w:World} {fr:AFr} {F:Fr}
theorem jP {c:Cx}:∀ {args:List TV1} {vs:List Value} {k:Nat},All2 (bX c ρ) args vs->cK c ρ (lH k args) (sj k vs)
 | [],_,_,h=>by cases h; exact .nil
 | _ :: _,_,_,h=>by cases h with | cons h1 h2=>exact .cons ⟨rfl,h1⟩ (jP h2)
def Et (tm:Array Value):ResultVar->Sem Value
 | .tmp t=>pure (tm.getD t undef)
 | .cell a t=>do loadVar t (<- asAddr (tm.getD a undef))
theorem zh {t:TypeId} {v u:Value} (h:aU P 0 [] w (.load t (.const v)) 0 u w):(do loadVar t (<- asAddr v)).run P w = .ok u w:=by
 replace h:=h ⟨#[],[]⟩ none "" #[] none ⟨rfl,rfl,fun _ _ h=>by cases h⟩
 have e:(⟨#[],[]⟩:Act).eval (.const v)=v:=rfl
 simp only [execOp,e,Instr.loadAt] at h
 cases v
 case pointer a=>
  cases a with
  | none=>simp [Instr.sureAddr] at h
  | some a=>
   simp only [Instr.sureAddr,asAddr,pure_bind] at h ⊢
   rw [Sem.run_bind] at h
   cases hr:(loadVar t a).run P w with
   | ok x w'=>rw [hr] at h; simp at h; rw [h.1,h.2]
   | halt x w'=>rw [hr] at h; simp at h
 all_goals simp [Instr.sureAddr] at h
theorem mY (hT:bn P G.shp T) (hR:Rep G ρ H w) (hf:cK (cx G ρ w) ρ fr F) {a:Act} (hM:M n F a):∀ {rs:List ResultVar} {l:List TV1},oo T fr H rs=some l ->
  ∃ us,All2 (bX (cx G ρ w) ρ) l us/\(rs.mapM (Et a.tmps)).run P w = .ok us w
 | [],l,h=>by cases h; exact ⟨[],.nil,rfl⟩
 | .tmp t :: r,l,h=>by
  simp only [oo] at h
  split at h
  ·rename_i tv l' ht hl
   cases h
   obtain ⟨us,h1,h2⟩:=mY hT hR hf hM hl
   obtain ⟨v,h3,h4⟩:=dL hf ht
   refine ⟨v :: us,.cons h4 h1,?_⟩
   have h5:=hM.at_ h3
   rw [List.mapM_cons]
   simp [Et,h2,h5]
  ·cases h
 | .cell p t :: r,l,h=>by
  simp only [oo] at h
  split at h
  ·rename_i ap l' ht hl
   split at h
   ·rename_i tv fc hld
    cases h
    obtain ⟨us,h1,h2⟩:=mY hT hR hf hM hl
    obtain ⟨v,h3,h4⟩:=dL hf ht
    obtain ⟨u,h6,h7⟩:∃ u,aU P 0 [] w (.load t (.const v)) 0 u w/\Rt (cx G ρ w) ρ (.one tv) u:=by
     unfold Gx at hld
     split at hld
     ·rename_i hla
      cases hld
      obtain ⟨u,h6,h7,_⟩:=lG (P:=P) (F:=[]) (n:=0) (ty:=0) (x:=.const v) hT hR h4 rfl hla (by simp)
      exact ⟨u,h6,h7⟩
     ·obtain ⟨u,h6,h7,_,_⟩:=rI (P:=P) (F:=[]) (n:=0) (ty:=0) (x:=.const v) hT hR h4 rfl hld
      exact ⟨u,h6,h7⟩
    have h8:=zh h6
    refine ⟨u :: us,.cons h7 h1,?_⟩
    have h5:a.tmps.getD p undef=v:=(hM.2.2 p v h3).2
    rw [List.mapM_cons,Sem.run_bind]
    simp only [Et,h5,h8]
    simp [h2]
   ·cases h
  ·cases h
theorem kY {fn:Func} (hT:bn P G.shp T) (hR:Rep G ρ H w) (hf:cK (cx G ρ w) ρ fr F) {a:Act} (hM:M n F a) {l:List TV1} (h:oo T fr H fn.results.toList=some l) :
  ∃ us,All2 (bX (cx G ρ w) ρ) l us/\(results fn a.tmps).run P w = .ok (uZ us) w:=by
 obtain ⟨us,h1,h2⟩:=mY hT hR hf hM h
 refine ⟨us,h1,?_⟩
 have e:results fn a.tmps=(do let vs <- fn.results.mapM (Et a.tmps); pure (if h:vs.size=1 then vs[0] else .tuple vs)):=rfl
 have e2:fn.results=fn.results.toList.toArray:=by simp
 rw [e,e2,List.mapM_toArray]
 simp only [Sem.run_bind,h2,map_eq_pure_bind,Result.andThen_ok,Sem.run_pure,bind_assoc,pure_bind]
 cases us with
 | nil=>rfl
 | cons u us=>
  cases us with
  | nil=>rfl
  | cons u2 us=>rfl
theorem kW {k i:Nat} (h:i<k):Nat.ble k i=false:=by
 rw [<- Bool.not_eq_true,Nat.ble_eq]; omega
theorem kK {k m:Nat} (h:k<=m) (i:Nat) (hi:(dS k).wr i=false\/(dS k).mv i=false):i<m:=by
 have:Nat.ble k i=false:=hi.elim id id
 rw [<- Bool.not_eq_true,Nat.ble_eq] at this; omega
def qw (P:Program) (shp:TypeId->Option Sh) (T:List (Nat × TI)) (O:cO):Prop:=∀ (G:Gl) (n:Nat) (ro:Lv) (ρ0:List RE) (w0:World),G.shp=shp->(∀ i,ro.wr i=false\/ro.mv i=false->i<ρ0.length)->zO P T G O n ro ρ0 w0
theorem Sat.Jc {shp:TypeId->Option Sh} {f:Nat} {fn:Func} {args rs:List TV1} {pre:List Prop} {L:List (Nat × LI)} (hT:bn P shp T) (hO:bk P shp O) (hD:qw P shp T O) (hfn:P.funcs[f]? = some fn) (hng:(fn.name == "runtime.NumGoroutine")=false)
  (hc:(match fn.body with
   | some c=>cJ fn.ntmps c && Nat.ble args.length fn.ntmps
   | none=>false)=true) (h:dp T O L fn args H rs):Sat P shp f args H ⟨pre,rs,none,false⟩:=by
 cases hb:fn.body with
 | none=>rw [hb] at hc; cases hc
 | some c=>
 rw [hb] at hc
 simp only [Bool.and_eq_true] at hc
 refine ⟨⟨fn,hfn,hng,by rw [hb]; rfl⟩,?_⟩
 intro G ρ w vs hshp hR hvs
 subst hshp
 simp only [dp,hb] at h
 have h:=cZ.1 h (Fj.jd hvs)
 refine gw.enter hfn hb rfl (by rw [<- hvs.length]; exact hc.2) rfl (pF hT hO (hD G _ _ ρ w rfl (kK (by rw [<- hR.obj.length]; exact Nat.le_refl _))) (k0:=H.length) (by rw [<- hR.obj.length]; exact Nat.le_refl _) c _ _ _ H _ w hc.1 h ⟨ρ,Stp.refl _ _ _,hR,jP hvs⟩ ?_)
 intro e fr H' F w' hK hst
 obtain ⟨ρ',hS,hR',hf⟩:=hst
 have key:∀ {l},oo T fr H' fn.results.toList=some l->gO (rS H' H'.length (iota 0 H.length) l rs)->∀ a,M fn.ntmps F a->a.defers=[]/\∃ v,(results fn a.tmps).run P w' = .ok v w' /\ ∃ x,Ending.returned v = .returned x/\∃ us,x=uZ us/\Kp [] w w' /\ All2 (bX (cx G ρ w') ρ) rs us:=by
  intro l hl he a hM
  obtain ⟨us,h1,h2⟩:=kY hT hR' hf hM hl
  refine ⟨hM.1,_,h2,_,rfl,us,rfl,?_,?_⟩
  ·refine ⟨hS.ext.os,hS.ext.tape,hS.ext.output,hS.ext.size,fun b hb _=>?_⟩
   by_cases hl:live ρ b
   ·obtain ⟨i,r,h3,h4⟩:=hl
    exact (hS.pro i r (kW (by rw [hR.obj.length]; exact (List.getElem?_eq_some_iff.1 h3).1)) h3).2 b h4
   ·exact (hS.ext.old b hb hl).2
  ·have h3:=lT hR' rfl h1 (dK.1 he)
   have h4:cm ρ' (iota 0 H.length)=ρ:=by
    refine List.ext_getElem? fun i=>?_
    by_cases hi:i<H.length
    ·have h5:i<ρ.length:=by rw [<- hR.obj.length]; exact hi
     rw [List.getElem?_eq_getElem h5]
     exact cF (by have:=pO (k:=0) hi; rwa [Nat.zero_add] at this) (hS.pro i _ (kW hi) (List.getElem?_eq_getElem h5)).1
    ·rw [List.getElem?_eq_none (by simp [cm,sU]; omega),List.getElem?_eq_none (by rw [<- hR.obj.length]; omega)]
   rwa [h4] at h3
 cases e with
 | ret=>
  simp only at hK
  split at hK
  ·rename_i l hl; exact fun a ha=>key hl hK a ha
  ·exact hK.elim
 | normal=>
  simp only at hK
  split at hK
  ·rename_i l hl; exact fun a ha=>key hl hK a ha
  ·exact hK.elim
 | _=>exact hK.elim
theorem vL {H0:AH} {ps:List (Nat × Nat)}:∀ {m k:Nat},(GM H0 ps k m).length=m
 | 0,_=>rfl
 | m+1,k=>by rw [GM,List.length_cons,vL]
theorem zn {H0:AH} {ps:List (Nat × Nat)}:∀ {m k i:Nat},i<m->iY (getO H0 (k+i))=false->(GM H0 ps k m)[i]? = some (k+i)
 | 0,_,_,h,_=>absurd h (Nat.not_lt_zero _)
 | m+1,k,0,_,hr=>by
  rw [Nat.add_zero] at hr
  simp [GM,hr]
 | m+1,k,i+1,h,hr=>by
  have:=zn (ps:=ps) (m:=m) (k:=k+1) (i:=i) (Nat.lt_of_succ_lt_succ h) (by rw [show k+1+i=k+(i+1) by omega]; exact hr)
  rw [show k+(i+1)=k+1+i by omega,<- this]; rfl
theorem ns {H0:AH} {k0:Nat} {K:AH} {l rs:List TV1} {H':AH} {i:Nat} (h:i<k0) (hr:iY (getO H0 i)=false):∀ (f:Nat) (ps:List (Nat × Nat)),(Er H0 k0 K l rs H' f ps)[i]? = some i
 | 0,ps=>by
  show (GM H0 ps 0 k0++_)[i]? = _
  rw [List.getElem?_append_left (by rw [vL]; exact h)]
  have:=zn (ps:=ps) (k:=0) h (by rw [Nat.zero_add]; exact hr)
  rwa [Nat.zero_add] at this
 | f+1,ps=>ns h hr f _
theorem Kg {b:Bool} (hR:Rep G ρ H w) {i g:Nat} (hg:ρ[i]? = some (.blk g)):iY (getO (bif b then [] else H) i)=false:=by
 cases b
 ·show iY (getO H i)=false
  cases ho:getO H i with
  | row t s xs=>
   obtain ⟨r,hr,h⟩:=hR.at_ (bG ho (by simp))
   rw [hg] at hr; cases hr
   obtain ⟨_,_,h | ⟨_,_,_,_,h,_⟩⟩:=h
   ·exact absurd h.1 (by simp)
   ·cases h
  | _=>rfl
 ·show iY (getO [] i)=false
  simp [getO,iY]
theorem Sat.uz {b:Bool} {shp:TypeId->Option Sh} {f:Nat} {fn:Func} {args rs:List TV1} {pre:List Prop} {H':AH} {L:List (Nat × LI)} (hT:bn P shp T) (hO:bk P shp O) (hD:qw P shp T O) (hfn:P.funcs[f]? = some fn) (hng:(fn.name == "runtime.NumGoroutine")=false)
  (hc:(match fn.body with
   | some c=>cJ fn.ntmps c && Nat.ble args.length fn.ntmps
   | none=>false)=true) (h:Me b T O L fn args H rs H'):Sat P shp f args H ⟨pre,rs,some H',b⟩:=by
 cases hb:fn.body with
 | none=>rw [hb] at hc; cases hc
 | some c=>
 rw [hb] at hc
 simp only [Bool.and_eq_true] at hc
 refine ⟨⟨fn,hfn,hng,by rw [hb]; rfl⟩,?_⟩
 intro G ρ w vs hshp hR hvs
 subst hshp
 simp only [Me,hb] at h
 have h:=cZ.1 h (Fj.jd hvs)
 refine gw.enter hfn hb rfl (by rw [<- hvs.length]; exact hc.2) rfl (pF hT hO (hD G _ _ ρ w rfl (kK (by cases b <;> simp [hR.obj.length]))) (k0:=H.length) (by rw [<- hR.obj.length]; exact Nat.le_refl _) c _ _ _ H _ w hc.1 h ⟨ρ,Stp.refl _ _ _,hR,jP hvs⟩ ?_)
 intro e fr K F w' hK hst
 obtain ⟨ρ',hS,hR',hf⟩:=hst
 have key:DU T (bif b then [] else H) H.length fn rs H' fr K->∀ a,M fn.ntmps F a->a.defers=[]/\∃ v,(results fn a.tmps).run P w' = .ok v w' /\ ∃ x,Ending.returned v = .returned x/\∃ us,x=uZ us /\
   ∃ ρ',Rep G ρ' H' w' /\ Ext ρ w ρ' w' /\ (∀ (i g:Nat),ρ[i]? = some (.blk g)->ρ'[i]? = some (.blk g))/\All2 (bX (cx G ρ' w') ρ') rs us/\(b=true->Kp [] w w' /\ ∀ (i:Nat) (rr:RE),ρ[i]? = some rr->ρ'[i]? = some rr):=by
  intro hE a hM
  unfold DU JR at hE
  split at hE
  ·rename_i l hl
   obtain ⟨us,h1,h2⟩:=kY hT hR' hf hM hl
   replace hE:=dK.1 hE
   refine ⟨hM.1,_,h2,_,rfl,us,rfl,cm ρ' (Er (bif b then [] else H) H.length K l rs H' 3 []),?_,tD hS.ext,fun i g hg=>?_,?_,fun hb=>?_⟩
   ·exact si hT hR' rfl (bI.1 fun p hp=>hE p (List.mem_append_left _ (List.mem_append_left _ hp))) fun p hp=>hE p (List.mem_append_right _ hp)
   ·exact cF (ns (by rw [hR.obj.length]; exact (List.getElem?_eq_some_iff.1 hg).1) (Kg hR hg) _ _) (hS.bx i g hg)
   ·exact lT hR' rfl h1 fun p hp=>hE p (List.mem_append_left _ (List.mem_append_right _ hp))
   ·subst hb
    have hlt:∀ (i:Nat) (rr:RE),ρ[i]? = some rr->i<H.length:=fun i rr h=>by rw [hR.obj.length]; exact (List.getElem?_eq_some_iff.1 h).1
    refine ⟨⟨hS.ext.os,hS.ext.tape,hS.ext.output,hS.ext.size,fun b hb _=>?_⟩,fun i rr hi=>?_⟩
    ·by_cases hl:live ρ b
     ·obtain ⟨i,r,h3,h4⟩:=hl
      exact (hS.pro i r (kW (hlt i r h3)) h3).2 b h4
     ·exact (hS.ext.old b hb hl).2
    ·exact cF (ns (hlt i rr hi) rfl _ _) (hS.pro i rr (kW (hlt i rr hi)) hi).1
  ·exact (show False from hE).elim
 cases e with
 | ret=>exact fun a ha=>key hK a ha
 | normal=>exact fun a ha=>key hK a ha
 | _=>exact hK.elim
end
theorem eU:∀ {ds:List DV} {i:Nat},qQ ds i=ds[i]?
 | [],_=>rfl
 | _ :: _,0=>rfl
 | _ :: r,i+1=>by simpa [qQ] using eU (ds:=r) (i:=i)
theorem dt {sl:List Nat}:∀ {ds:List DV} {k j:Nat},j ∈ cT sl k ds↔∃ i a,j=k+i/\ds[i]? = some a/\a.d ∈ sl
 | [],k,j=>by simp [cT]
 | a :: r,k,j=>by
  have ih:=dt (sl:=sl) (ds:=r) (k:=k+1) (j:=j)
  have key:(∃ i b,j=k+i/\(a :: r)[i]? = some b/\b.d ∈ sl)↔(j=k/\a.d ∈ sl)\/j ∈ cT sl (k+1) r:=by
   rw [ih]
   constructor
   ·rintro ⟨i,b,h1,h2,h3⟩
    cases i with
    | zero=>simp at h2; subst h2; exact .inl ⟨h1,h3⟩
    | succ i=>exact .inr ⟨i,b,by omega,by simpa using h2,h3⟩
   ·rintro (⟨h1,h2⟩ | ⟨i,b,h1,h2,h3⟩)
    ·exact ⟨0,a,by omega,rfl,h2⟩
    ·exact ⟨i+1,b,by omega,by simpa using h2,h3⟩
  rw [key,show cT sl k (a :: r)=(bif bM a.d sl then k :: cT sl (k+1) r else cT sl (k+1) r) from rfl]
  cases hm:bM a.d sl
  ·have:a.d ∉ sl:=fun h=>by rw [bw.2 h] at hm; cases hm
   simp [this]
  ·simp [bw.1 hm]
def za (ds:List DV) (ch:List (Nat × Bool)):Prop:=∀ q ∈ ch,∃ a e,ds[q.1]? = some a/\a.v=one (.bool e)/\e.val=q.2
theorem ma {ds:List DV}:∀ {ch:List (Nat × Bool)} {g:BE},Ds ds ch=some g->(g.val=true↔za ds ch)/\∀ q ∈ ch,∃ a e,ds[q.1]? = some a/\a.v=one (.bool e)
 | [],g,h=>by cases h; simp [BE.val,za]
 | (j,wt) :: r,g,h=>by
  simp only [Ds,eU] at h
  split at h
  ·rename_i a g' h1 h2
   split at h
   ·rename_i e he
    cases h
    obtain ⟨ih1,ih2⟩:=ma h2
    have he:=Option.some.inj (cM he)
    refine ⟨?_,fun q hq=>?_⟩
    ·have e1:za ds ((j,wt) :: r)↔e.val=wt/\za ds r:=by
      constructor
      ·intro h
       refine ⟨?_,fun q hq=>h q (by simp [hq])⟩
       obtain ⟨a',e',k1,k2,k3⟩:=h (j,wt) (by simp)
       simp only at k1 k3
       rw [h1] at k1; cases k1
       rw [he] at k2
       cases k2
       exact k3
      ·rintro ⟨k1,k2⟩ q hq
       rcases List.mem_cons.1 hq with rfl | hq
       ·exact ⟨a,e,h1,he,k1⟩
       ·exact k2 q hq
     rw [e1,<- ih1]
     cases wt <;> simp [BE.val]
    ·rcases List.mem_cons.1 hq with rfl | hq
     ·exact ⟨a,e,h1,he⟩
     ·exact ih2 q hq
   ·cases h
  ·cases h
theorem qA {ds:List DV} {i j:Nat} {a:DV} (h:(ds.take i)[j]? = some a):ds[j]? = some a/\j<i:=by
 rw [List.getElem?_take] at h
 split at h
 ·exact ⟨h,‹_›⟩
 ·cases h
theorem sR {ds:List DV} {i:Nat}:∀ {ch:List (Nat × Bool)} {g:BE},Ds (ds.take i) ch=some g->Ds ds ch=some g
 | [],g,h=>h
 | (j,wt) :: r,g,h=>by
  simp only [Ds,eU] at h ⊢
  split at h
  ·rename_i a g' h1 h2
   rw [(qA h1).1,sR h2]
   exact h
  ·cases h
theorem oE:∀ {x y:List (Nat × Bool)},kX x y=true->∀ q ∈ x,q ∈ y
 | [],_,_,q,hq=>by simp at hq
 | (i,a) :: r,(j,b) :: l,h,q,hq=>by
  simp only [kX,Bool.and_eq_true,beq_iff_eq] at h
  have h1:=Nat.eq_of_beq_eq_true h.1.1
  rcases List.mem_cons.1 hq with rfl | hq
  ·rw [h1,h.1.2]; simp
  ·exact List.mem_cons_of_mem _ (oE h.2 q hq)
 | _ :: _,[],h,_,_=>by cases h
theorem qg {ds:List DV} {x y:List (Nat × Bool)} (h:kX x y=true) (k:za ds y):za ds x:=fun q hq=>k q (oE h q hq)
theorem oH (g:BE):(ry g).val=g.val:=by fun_induction ry g <;> simp_all [BE.val]
theorem vG {e:BE} {ob:List Prop} (h:∀ p ∈ iy e ob,p) (he:e.val=true):∀ p ∈ ob,p:=by
 unfold iy at h
 split at h
 ·simp
 ·split at h
  ·exact h
  ·exact dK.1 (cA h ((BE.dB e true).2 he))
theorem nb {e:BE} {ob:List Prop} (h:e.val=true->∀ p ∈ ob,p):∀ p ∈ iy e ob,p:=by
 unfold iy
 split
 ·simp
 ·split
  ·exact h rfl
  ·intro q hq
   rw [List.mem_singleton.1 hq]
   exact fun he=>dK.2 (h ((BE.dB e true).1 he))
section
variable {P:Program} {T:List (Nat × TI)} {G:Gl} {O:cO} {n k:Nat} {l:List Oper} {ρ:List RE} {H:AH} {fr:AFr} {F:Fr} {ds:List DV} {vs:Nat->Value}
def DVal (G:Gl) (ρ:List RE) (ds:List DV) (a:DV) (u:Value) (w:World):Prop:=(∀ p ∈ a.fc,p)/\(za ds a.ch->Rt (cx G ρ w) ρ a.v u)/\(¬ za ds a.ch->u=undef)
theorem DVal.kp {a:DV} {u:Value} {w w':World} (h:DVal G ρ ds a u w) (k:Kp [] w w'):DVal G ρ ds a u w':=⟨h.1,fun hc=>(h.2.1 hc).carry (Kp.le k) (je.refl _),h.2.2⟩
theorem tx {vs:Nat->Value} {t jc:Nat} (ht:idst l jc=some t):∀ {deps:List Nat},(∀ j ∈ deps,∃ d,idst l j=some d)->(∀ j ∈ deps,idst l j=some t->j=jc)->jc ∈ deps->look (cE l F vs deps) t=some (vs jc)
 | [],_,_,h=>by simp at h
 | j :: r,h1,h2,h=>by
  obtain ⟨d,hd⟩:=h1 j (by simp)
  simp only [cE,hd]
  rw [aY]
  by_cases hdt:d=t
  ·subst hdt
   rw [if_pos rfl,h2 j (by simp) hd]
  ·rw [if_neg hdt]
   refine tx ht (fun j hj=>h1 j (by simp [hj])) (fun j hj=>h2 j (by simp [hj])) ?_
   rcases List.mem_cons.1 h with rfl | h
   ·rw [hd] at ht; exact absurd (Option.some.inj ht) hdt
   ·exact h
theorem v_ {w:World} {p:List DV} (hf:cK (cx G ρ w) ρ fr F):∀ {deps:List Nat},(∀ j ∈ deps,∃ b,p[j]? = some b/\idst l j=some b.d/\Rt (cx G ρ w) ρ b.v (vs j))->cK (cx G ρ w) ρ (AT p fr deps) (cE l F vs deps)
 | [],_=>hf
 | j :: r,h=>by
  obtain ⟨b,h1,h2,h3⟩:=h j (by simp)
  simp only [AT,eU,h1,cE,h2]
  exact .cons ⟨rfl,h3⟩ (v_ hf fun j hj=>h j (by simp [hj]))
theorem pe {p:List DV} {ch:List (Nat × Bool)}:∀ {deps:List Nat},qm p ch deps=true->∀ j ∈ deps,∃ b,p[j]? = some b/\kX b.ch ch=true
 | [],_,j,hj=>by simp at hj
 | i :: r,h,j,hj=>by
  simp only [qm,eU,Bool.and_eq_true] at h
  rcases List.mem_cons.1 hj with rfl | hj
  ·have h1:=h.1
   split at h1
   ·exact ⟨_,by assumption,h1⟩
   ·cases h1
  ·exact pe h.2 j hj
structure DCtx (G:Gl) (ρ:List RE) (l:List Oper) (ds:List DV) (vs:Nat->Value) (p:List DV) (deps:List Nat) (w:World):Prop where
 pre:∀ (j:Nat) (a:DV),p[j]? = some a->ds[j]? = some a
 dst:∀ (j:Nat) (a:DV),ds[j]? = some a->idst l j=some a.d
 dist:∀ (i j:Nat) (a b:DV),ds[i]? = some a->ds[j]? = some b->a.d=b.d->i=j
 dep:∀ j ∈ deps,∃ a,p[j]? = some a/\DVal G ρ ds a (vs j) w
theorem DCtx.look {p:List DV} {deps:List Nat} {w:World} (h:DCtx G ρ l ds vs p deps w) {j:Nat} (hj:j ∈ deps) {a:DV} (ha:p[j]? = some a):look (cE l F vs deps) a.d=some (vs j):=by
 refine tx (h.dst j a (h.pre j a ha)) (fun i hi=>?_) (fun i hi he=>?_) hj
 ·obtain ⟨b,hb,_⟩:=h.dep i hi
  exact ⟨_,h.dst i b (h.pre i b hb)⟩
 ·obtain ⟨b,hb,_⟩:=h.dep i hi
  have:=h.dst i b (h.pre i b hb)
  rw [he] at this
  exact h.dist i j b a (h.pre i b hb) (h.pre j a ha) (Option.some.inj this).symm
theorem po {Q:Exit->Act->World->Prop} {p:List DV} {deps:List Nat} {w:World} (h:DCtx G ρ l ds vs p deps w) {gd:Option (Nat × Bool)} {ch:List (Nat × Bool)} {gs:List Nat} {g:BE} (hc:uD p gd=some (ch,gs)) (hgs:∀ (j:Nat) (a:DV),p[j]? = some a->a.d ∈ gs->j ∈ deps) (hg:Ds ds ch=some g)
  {d:Nat} {op:Op} {ty:TypeId} {pos:String} {af:Array Edge} (hd:Nat.blt d n=true)
  (on:za ds ch->WO P Q n l [⟨some d,op,ty,pos,af,none⟩] (cE l F vs deps) w) (off:¬ za ds ch->WO P Q n l [] ((d,undef) :: cE l F vs deps) w):WO P Q n l [⟨some d,op,ty,pos,af,gd⟩] (cE l F vs deps) w:=by
 cases gd with
 | none=>
  cases hc
  exact on fun q hq=>by simp at hq
 | some q=>
  obtain ⟨j,wt⟩:=q
  simp only [uD,eU] at hc
  split at hc
  ·rename_i a ha
   cases hc
   have hj:=hgs j a ha (by simp)
   have hl:=h.look (F:=F) hj ha
   obtain ⟨a',ha',hv⟩:=h.dep j hj
   rw [ha] at ha'; cases ha'
   obtain ⟨b,e,hb,he⟩:=(ma hg).2 (j,wt) (by simp)
   simp only at hb
   rw [h.pre j a ha] at hb; cases hb
   have hi:=h.dst j a (h.pre j a ha)
   by_cases hch:za ds a.ch
   ·have hr:=hv.2.1 hch
    rw [he] at hr
    obtain ⟨bv,hbv⟩:∃ bv,vs j = .bool bv/\bv=e.val:=by
     have hr:Pd (cx G ρ w) (.bool e) (vs j):=hr
     generalize vs j=u at hr
     cases hr
     exact ⟨_,rfl,rfl⟩
    obtain ⟨hbv,rfl⟩:=hbv
    rw [hbv] at hl
    by_cases hw:e.val=wt
    ·exact WO.on hi hl hw (on fun q hq=>by
      rcases List.mem_append.1 hq with hq | hq
      ·exact hch q hq
      ·rw [List.mem_singleton.1 hq]
       exact ⟨a,e,h.pre j a ha,he,hw⟩)
    ·refine WO.off hi hl (by revert hw; cases e.val <;> cases wt <;> simp) hd (off fun hc=>?_)
     obtain ⟨b,e',k1,k2,k3⟩:=hc (j,wt) (by simp)
     simp only at k1 k3
     rw [h.pre j a ha] at k1; cases k1
     rw [he] at k2; cases k2
     exact hw k3
   ·have hu:=hv.2.2 hch
    rw [hu] at hl
    exact WO.Ht hi hl hd (off fun hc=>hch fun q hq=>hc q (by simp [hq]))
  ·cases hc
theorem AI {x:Operand} {v:Value} (h:ev [] x=some v):ev F x=some v:=by
 cases x with
 | tmp i=>cases h
 | _=>exact h
theorem BN {p:List DV} {deps:List Nat} {w:World} (h:DCtx G ρ l ds vs p deps w) {ch:List (Nat × Bool)} (hch:za ds ch) {t:Nat} {x y:Operand} {v:BE} (hp:zy p ch t x y=some v) (hdep:∀ (j:Nat) (a:DV),p[j]? = some a->a.d=t\/a.d ∈ Operand.sl x\/a.d ∈ Operand.sl y->j ∈ deps) {ty:TypeId} :
  aU P n (cE l F vs deps) w (.pick (.tmp t) x y) ty (.bool v.val) w:=by
 unfold zy at hp
 split at hp
 ·rename_i jc hjc
  split at hp
  ·rename_i c hc
   rw [eU] at hc
   split at hp
   ·rename_i e he hpre
    split at hp
    ·rename_i jx hjx
     split at hp
     ·rename_i a ha
      rw [eU] at ha
      split at hp
      ·rename_i hpa
       have hct:c.d=t:=by
        obtain ⟨i,b,k1,k2,k3⟩:=dt.1 (show jc ∈ cT [t] 0 p by rw [hjc]; simp)
        rw [Nat.zero_add] at k1; subst k1
        rw [hc] at k2; cases k2
        simpa using k3
       have hjd:=hdep jc c hc (.inl hct)
       have hl:=h.look (F:=F) hjd hc
       rw [hct] at hl
       have he:=Option.some.inj (cM he)
       have hlb:look (cE l F vs deps) t=some (.bool e.val):=by
        obtain ⟨c',hc',hv⟩:=h.dep jc hjd
        rw [hc] at hc'; cases hc'
        have hr:=hv.2.1 (qg hpre hch)
        rw [he] at hr
        have hr:Pd (cx G ρ w) (.bool e) (vs jc):=hr
        rw [hl]
        generalize vs jc=u at hr
        cases hr
        rfl
       -- the side that was walked
       have hon:e.val=gb x->∀ z,lK (some a.v)=some z->ev (cE l F vs deps) (cond (gb x) x y)=some (.bool z.val):=by
        intro hw z hz
        have hz:=Option.some.inj (cM hz)
        have hmem:=dt.1 (show jx ∈ cT (Operand.sl (cond (gb x) x y)) 0 p by rw [hjx]; simp)
        obtain ⟨i,b,k1,k2,k3⟩:=hmem
        rw [Nat.zero_add] at k1; subst k1
        rw [ha] at k2; cases k2
        have hjd2:=hdep jx a ha (.inr (by
         cases hx:gb x <;> rw [hx] at k3
         ·exact .inr k3
         ·exact .inl k3))
        obtain ⟨a',ha',hv⟩:=h.dep jx hjd2
        rw [ha] at ha'; cases ha'
        have hr:=hv.2.1 (qg hpa fun q hq=>by
         rcases List.mem_append.1 hq with hq | hq
         ·exact hch q hq
         ·rw [List.mem_singleton.1 hq]
          exact ⟨c,e,h.pre jc c hc,he,hw⟩)
        rw [hz] at hr
        have hr:Pd (cx G ρ w) (.bool z) (vs jx):=hr
        have hl2:=h.look (F:=F) hjd2 ha
        generalize cond (gb x) x y=o at k3 ⊢
        cases o <;> simp only [Operand.sl,List.mem_singleton,List.not_mem_nil] at k3
        rw [<- k3]
        show look _ a.d=_
        rw [hl2]
        generalize vs jx=u at hr
        cases hr
        rfl
       have hoff:∀ z,lK (cW [] (cond (gb x) y x))=some z->ev (cE l F vs deps) (cond (gb x) y x)=some (.bool z.val):=by
        intro z hz
        obtain ⟨u,k1,k2⟩:=aK (c:=cx G ρ w) (ρ:=ρ) (fr:=[]) (F:=[]) .nil (cM hz)
        have k2:Pd (cx G ρ w) (.bool z) u:=k2
        cases k2
        exact AI k1
       unfold vK at hp
       cases hx:gb x <;> rw [hx] at hp hon hoff <;> simp only [cond_true,cond_false] at hon hoff hp
       ·split at hp
        ·contradiction
        ·rename_i z _ hz hz2
         cases hp
         cases hev:e.val with
         | false=>rw [show (BE.or e z).val=z.val by simp [BE.val,hev]]; exact R.rR (hev ▸ hlb) rfl (hon hev z hz)
         | true=>rw [show (BE.or e z).val=true by simp [BE.val,hev]]; exact R.tg (hev ▸ hlb) rfl (hoff _ hz2)
        ·cases hp
       ·split at hp
        ·rename_i z _ hz hz2
         cases hp
         cases hev:e.val with
         | true=>rw [show (BE.and e z).val=z.val by simp [BE.val,hev]]; exact R.tg (hev ▸ hlb) rfl (hon hev z hz)
         | false=>rw [show (BE.and e z).val=false by simp [BE.val,hev]]; exact R.rR (hev ▸ hlb) rfl (hoff _ hz2)
        ·contradiction
        ·cases hp
      ·cases hp
     ·cases hp
    ·cases hp
   ·cases hp
  ·cases hp
 ·cases hp
theorem FN (hT:bn P G.shp T) (hO:bk P G.shp O) {p:List DV} {o:Oper} {a:DV} (hs:mU T O H fr p o=some a) {w:World} (h:DCtx G ρ l ds vs p a.deps w) (hpg:∀ ch g,Ds p ch=some g->Ds ds ch=some g) (hob:∀ q ∈ a.ob,q) (hd:∀ d,o.dst=some d->Nat.blt d n=true) (hR:Rep G ρ H w) (hf:cK (cx G ρ w) ρ fr F) :
  o.dst=some a.d/\WO P (lz n (some a.d) [] (DVal G ρ ds a) w) n l [o] (cE l F vs a.deps) w:=by
 obtain ⟨dst,op,ty,pos,af,gd⟩:=o
 unfold mU at hs
 split at hs
 ·rename_i d ch gs hdst hch
  simp only at hdst hch
  subst hdst
  split at hs
  ·rename_i g hg
   have hg':=hpg _ _ hg
   have hdn:=hd d rfl
   split at hs
   ·-- a pick
    rename_i t x y hop
    simp only at hop
    subst hop
    split at hs
    ·rename_i v hv
     cases hs
     refine ⟨rfl,po h hch (fun j b hj hb=>dt.2 ⟨j,b,by simp,hj,by simp [hb]⟩) hg' hdn (fun hc=>?_) (fun hc=>?_)⟩
     ·refine WO.v (BN h hc hv fun j b hj hb=>dt.2 ⟨j,b,by simp,hj,?_⟩) hdn (WO.nil (WX.aT (v:=.bool v.val) (by rw [aY,if_pos rfl]) ⟨by simp,fun _=>Pd.bool,fun h=>absurd hc h⟩ (Kp.refl w)))
      simp only [uL,Operand.sl,List.mem_append,List.mem_singleton]
      rcases hb with hb | hb | hb
      ·exact .inl (.inl (.inl hb))
      ·exact .inl (.inl (.inr hb))
      ·exact .inl (.inr hb)
     ·exact WO.nil (WX.aT (v:=undef) (by rw [aY,if_pos rfl]) ⟨by simp,fun h=>absurd h hc,fun _=>rfl⟩ (Kp.refl w))
    ·cases hs
   ·split at hs
    ·rename_i r hall hpv
     cases hs
     refine ⟨rfl,po h hch (fun j b hj hb=>dt.2 ⟨j,b,by simp,hj,by simp [hb]⟩) hg' hdn (fun hc=>?_) (fun hc=>?_)⟩
     ·have hgv:=(ma hg').1.2 hc
      have hfr:=v_ (l:=l) (vs:=vs) (F:=F) hf (p:=p) (deps:=cT (uL op++gs) 0 p) fun j hj=>by
       obtain ⟨b,hb,hpre⟩:=pe hall j hj
       obtain ⟨b',hb',hv⟩:=h.dep j hj
       rw [hb] at hb'; cases hb'
       exact ⟨b,hb,h.dst j b (h.pre j b hb),hv.2.1 (qg hpre hc)⟩
      refine WO.y (mG (ty:=ty) hT hO hR hfr hpv (vG hob (by rw [oH]; exact hgv))) hd fun v w' ⟨hk,hv,hfc⟩=>?_
      exact WO.nil (WX.aT (v:=v) (by simp only [fo]; rw [aY,if_pos rfl]) ⟨nb fun _=>hfc,fun _=>hv,fun h=>absurd hc h⟩ hk)
     ·refine WO.nil (WX.aT (v:=undef) (by rw [aY,if_pos rfl]) ⟨nb fun he=>?_,fun h=>absurd h hc,fun _=>rfl⟩ (Kp.refl w))
      rw [oH] at he
      exact absurd ((ma hg').1.1 he) hc
    ·cases hs
  ·cases hs
 ·cases hs
end
theorem bZ {a:List Nat}:∀ {l:List Nat},disj a l=true↔∀ i ∈ l,i ∉ a
 | []=>by simp [disj]
 | j :: r=>by simp only [disj,Bool.and_eq_true,bZ,List.forall_mem_cons,Bool.not_eq_true',<- Bool.not_eq_true,bw]
theorem ew {n:Nat}:∀ {l:List Nat},jn n l=true↔∀ i ∈ l,i<n
 | []=>by simp [jn]
 | j :: r=>by
  have:Nat.blt j n=true↔j<n:=by rw [Nat.blt_eq]
  simp [jn,ew,this]
theorem jI {σ:List Nat}:∀ {H:AH} {k p:Nat},(maskH σ k H)[p]? = (H[p]?).map fun o=>if k+p ∈ σ then o else .loc
 | [],_,_=>by simp [maskH]
 | o :: r,k,0=>by
  simp only [maskH,List.getElem?_cons_zero,Option.map_some,Nat.add_zero]
  cases h:bM k σ with
  | true=>rw [if_pos (bw.1 h)]; rfl
  | false=>rw [if_neg fun hm=>by rw [bw.2 hm] at h; cases h]; rfl
 | o :: r,k,p+1=>by
  simp only [maskH,List.getElem?_cons_succ,jI,Nat.add_right_comm]
  rw [Nat.add_assoc]
theorem kf {σ:List Nat}:∀ {H:AH} {k:Nat},(maskH σ k H).length=H.length
 | [],_=>rfl
 | _ :: r,k=>by simp [maskH,kf (H:=r)]
def RC.obj (r:RC) (p:Nat) (o:AO):AO:=if p ∈ r.ch then (match r.ent with
 | some e=>e.put o
 | none=>getO r.res p) else killO r.mv o
theorem oO {r:RC}:∀ {H:AH} {k p:Nat},(gK r.ch r.mv r.ent r.res k H)[p]? = (H[p]?).map (r.obj (k+p))
 | [],_,_=>by simp [gK]
 | o :: l,k,0=>by
  simp only [gK,List.getElem?_cons_zero,Option.map_some,Nat.add_zero,RC.obj]
  cases h:bM k r.ch with
  | true=>rw [if_pos (bw.1 h)]; cases r.ent <;> rfl
  | false=>rw [if_neg fun hm=>by rw [bw.2 hm] at h; cases h]; rfl
 | o :: l,k,p+1=>by
  simp only [gK,List.getElem?_cons_succ,oO]
  rw [Nat.add_assoc,Nat.add_comm 1 p]
theorem eM {ch mv:List Nat} {e:Option Ent} {res:AH}:∀ {H:AH} {k:Nat},(gK ch mv e res k H).length=H.length
 | [],_=>rfl
 | _ :: r,k=>by simp [gK,eM (H:=r)]
def killTV (mv:List Nat) (v:TV):TV:=match mv with
 | []=>v
 | _ :: _=>v.mapA (AV.bN mv)
theorem nM {g:AV->AV} {t:Nat}:∀ {fr:AFr},lookA (gf g fr) t=(lookA fr t).map (TV.mapA g)
 | []=>rfl
 | (i,v) :: r=>by
  simp only [gf,lookA]
  cases Nat.beq i t
  ·exact nM
  ·rfl
theorem vo {mv:List Nat} {fr:AFr} {t:Nat}:lookA (BT mv fr) t=(lookA fr t).map (killTV mv):=by
 cases mv with
 | nil=>cases h:lookA fr t <;> simp [BT,killTV,h]
 | cons a r=>exact nM
theorem xn {d:Option Nat} {v:TV} {fr:AFr} {t:Nat}:lookA (lO d v fr) t=if d=some t then some v else lookA fr t:=by
 cases d with
 | none=>simp [lO]
 | some d=>simp only [lO,cz,Option.some.injEq]
structure RC.Fit (r:RC):Prop where
 base:r.base=r.H0.length
 le:r.base<=r.res.length
theorem bR {r:RC} {q:AFr × AH} (h:r.Fit) (hq:q.2.length=r.base):(r.app q).2.length=r.res.length:=by
 have:=h.le
 simp only [RC.app,List.length_append,eM,List.length_drop]; omega
theorem eh {r:RC} {q:AFr × AH} (h:r.Fit) (hq:q.2.length=r.base) {p:Nat}:(r.app q).2[p]? = if p<r.base then (q.2[p]?).map (r.obj p) else r.res[p]?:=by
 have:=h.le
 simp only [RC.app]
 by_cases hp:p<r.base
 ·rw [if_pos hp,List.getElem?_append_left (by rw [eM]; omega),oO,Nat.zero_add]
 ·rw [if_neg hp,List.getElem?_append_right (by rw [eM]; omega),eM,List.getElem?_drop]
  congr 1; omega
theorem eP {r:RC} {q:AFr × AH} {t:Nat}:lookA (r.app q).1 t=if r.dst=some t then some r.v else (lookA q.1 t).map (killTV r.mv):=by
 simp only [RC.app,xn,vo]
def RC.xt (r:RC) (q:AFr × AH):AFr × AH:=(q.1,q.2++List.replicate (r.res.length - r.base) .gone)
theorem eu {r:RC} {q:AFr × AH} (h:r.Fit) (hq:q.2.length=r.base):(r.xt q).2.length=r.res.length:=by
 have:=h.le
 simp only [RC.xt,List.length_append,List.length_replicate]; omega
theorem eJ {r:RC} {q:AFr × AH} (h:r.Fit) (hq:q.2.length=r.base) {p:Nat}:(r.xt q).2[p]? = if p<r.base then q.2[p]? else if p<r.res.length then some .gone else none:=by
 have:=h.le
 simp only [RC.xt]
 by_cases hp:p<r.base
 ·rw [if_pos hp,List.getElem?_append_left (by omega)]
 ·rw [if_neg hp,List.getElem?_append_right (by omega),List.getElem?_replicate]
  by_cases h2:p<r.res.length
  ·rw [if_pos h2,if_pos (by omega)]
  ·rw [if_neg h2,if_neg (by omega)]
def fa (s:Nat->Bool):Nat->List RC->AFr × AH->AFr × AH
 | _,[],q=>q
 | i,r :: rs,q=>fa s (i+1) rs (bif s i then r.app q else r.xt q)
def prg:List RC->AFr × AH->AFr × AH
 | [],q=>q
 | r :: rs,q=>prg rs (r.app q)
def dP:AFr × AH->List RC->Prop
 | _,[]=>True
 | q,r :: rs=>r.fr0=q.1/\r.H0=q.2/\r.Fit/\dP (r.app q) rs
theorem xh {s:Nat->Bool}:∀ {a b:List RC} {k:Nat} {q:AFr × AH},fa s k (a++b) q=fa s (k+a.length) b (fa s k a q)
 | [],_,_,_=>by simp [fa]
 | r :: a,b,k,q=>by
  simp only [List.cons_append,fa,xh (a:=a),List.length_cons]
  congr 1; omega
theorem kP {s s':Nat->Bool}:∀ {rs:List RC} {k:Nat} {q:AFr × AH},(∀ i,k<=i->i<k+rs.length->s i=s' i)->fa s k rs q=fa s' k rs q
 | [],_,_,_=>rfl
 | r :: rs,k,q,h=>by
  simp only [fa]
  rw [h k (Nat.le_refl _) (by simp)]
  exact kP fun i h1 h2=>h i bt (by simp at h2 ⊢; omega)
theorem pW {s:Nat->Bool}:∀ {rs:List RC} {k:Nat} {q p:AFr × AH},dP p rs->q.2.length=p.2.length->(fa s k rs q).2.length=(prg rs p).2.length
 | [],_,_,_,_,h=>h
 | r :: rs,k,q,p,hc,h=>by
  obtain ⟨_,h2,h3,h4⟩:=hc
  have hb:=h3.base
  rw [h2] at hb
  simp only [fa,prg]
  refine pW h4 ?_
  cases s k
  ·exact (eu h3 bt).trans (bR h3 hb.symm).symm
  ·exact (bR h3 bt).trans (bR h3 hb.symm).symm
theorem uM:∀ {rs:List RC} {p:AFr × AH},dP p rs->p.2.length<=(prg rs p).2.length
 | [],_,_=>Nat.le_refl _
 | r :: rs,p,hc=>by
  obtain ⟨_,h2,h3,h4⟩:=hc
  have hb:=h3.base
  rw [h2] at hb
  have:=uM h4
  rw [bR h3 hb.symm] at this
  have:=h3.le
  simp only [prg]; omega
theorem dP.Bu:∀ {a b:List RC} {p:AFr × AH},dP p (a++b)↔dP p a/\dP (prg a p) b
 | [],b,p=>by simp [dP,prg]
 | r :: a,b,p=>by simp only [List.cons_append,dP,prg,dP.Bu (a:=a),and_assoc]
theorem qM:∀ {a b:List RC} {p:AFr × AH},prg (a++b) p=prg b (prg a p)
 | [],_,_=>rfl
 | r :: a,b,p=>by simp only [List.cons_append,prg,qM (a:=a)]
theorem eb {mv:List Nat} {a:AV} (h:∀ i ∈ a.rids,i ∉ mv):a.bN mv=a:=by
 have key:∀ j,j ∉ mv->bM j mv=false:=fun j hj=>by rw [<- Bool.not_eq_true,bw]; exact hj
 cases a with
 | own j=>simp [AV.bN,key j (h j (by simp [AV.rids]))]
 | sub j _ _=>simp [AV.bN,key j (h j (by simp [AV.rids]))]
 | elp j _ _=>simp [AV.bN,key j (h j (by simp [AV.rids]))]
 | _=>rfl
theorem fG {i:Nat}:∀ {l:List AV} {a:AV},a ∈ l->i ∈ a.rids->i ∈ nQ l
 | [],_,h,_=>by simp at h
 | b :: r,a,h,hi=>by
  simp only [nQ,List.mem_append]
  rcases List.mem_cons.1 h with rfl | h
  ·exact .inl hi
  ·exact .inr (fG h hi)
theorem lR {g:AV->AV}:∀ {l:List AV},(∀ a ∈ l,g a=a)->nN g l=l
 | [],_=>rfl
 | a :: r,h=>by simp only [nN]; rw [h a (by simp),lR fun b hb=>h b (by simp [hb])]
theorem nv {g:AV->AV} {t:TV1} (h:∀ a ∈ t.cells,g a=a):t.mapA g=t:=by
 cases t with
 | c a=>simp only [TV1.mapA]; rw [h a (by simp [TV1.cells])]
 | agg l=>exact congrArg TV1.agg (lR h)
theorem oS {i:Nat}:∀ {l:List TV1} {t:TV1} {a:AV},t ∈ l->a ∈ t.cells->i ∈ a.rids->i ∈ wY l
 | [],_,_,h,_,_=>by simp at h
 | b :: r,t,a,h,ha,hi=>by
  simp only [wY,List.mem_append]
  rcases List.mem_cons.1 h with rfl | h
  ·exact .inl (fG ha hi)
  ·exact .inr (oS h ha hi)
theorem qJ {g:AV->AV}:∀ {l:List TV1},(∀ t ∈ l,∀ a ∈ t.cells,g a=a)->qC g l=l
 | [],_=>rfl
 | a :: r,h=>by simp only [qC]; rw [nv (h a (by simp)),qJ fun b hb=>h b (by simp [hb])]
theorem jW {mv:List Nat} {v:TV} (h:disj mv v.rids=true):killTV mv v=v:=by
 have h:=bZ.1 h
 cases mv with
 | nil=>rfl
 | cons m r=>
  cases v with
  | one t=>exact congrArg TV.one (nv fun a ha=>eb fun i hi=>h i (fG ha hi))
  | tup l=>exact congrArg TV.tup (qJ fun t ht a ha=>eb fun i hi=>h i (oS ht ha hi))
  | un=>rfl
theorem jS {mv:List Nat} {o:AO} (h:disj mv o.rids=true):killO mv o=o:=by
 have h:=bZ.1 h
 cases mv with
 | nil=>rfl
 | cons m r=>
  cases o with
  | box t cs=>exact congrArg (AO.box t) (lR fun a ha=>eb fun i hi=>h i (fG ha hi))
  | mapf l=>
   show AO.mapf (mapM _ l)=_
   rw [mg]
   congr 1
   refine (List.map_congr_left fun q hq=>?_).trans (List.map_id _)
   have e:=eb (mv:=m :: r) (a:=q.2) fun i hi=>h i (fG (List.mem_map_of_mem hq) hi)
   show (q.1,AV.bN (m :: r) q.2)=q
   rw [e]
  | _=>rfl
theorem nG {a b:List Nat} {x:AV}:(x.bN a).bN b=(x.bN b).bN a:=by
 cases x with
 | own j=>cases h1:bM j a <;> cases h2:bM j b <;> simp [AV.bN,h1,h2]
 | sub j _ _=>cases h1:bM j a <;> cases h2:bM j b <;> simp [AV.bN,h1,h2]
 | elp j _ _=>cases h1:bM j a <;> cases h2:bM j b <;> simp [AV.bN,h1,h2]
 | _=>rfl
theorem kj {g h:AV->AV}:∀ {l:List AV},nN g (nN h l)=nN (fun a=>g (h a)) l
 | []=>rfl
 | a :: r=>by simp [nN,kj (l:=r)]
theorem mS {g h:AV->AV} {t:TV1}:(t.mapA h).mapA g=t.mapA fun a=>g (h a):=by
 cases t with
 | c a=>rfl
 | agg l=>simp [TV1.mapA,kj]
theorem oK {g h:AV->AV}:∀ {l:List TV1},qC g (qC h l)=qC (fun a=>g (h a)) l
 | []=>rfl
 | a :: r=>by simp [qC,mS,oK (l:=r)]
theorem sM {a b:List Nat} {v:TV}:killTV b (killTV a v)=killTV a (killTV b v):=by
 cases a with
 | nil=>rfl
 | cons x r=>
  cases b with
  | nil=>rfl
  | cons y q=>
   have e:(fun z:AV=>(z.bN (x :: r)).bN (y :: q))=fun z=>(z.bN (y :: q)).bN (x :: r):=funext fun z=>nG
   cases v with
   | one t=>simp only [killTV,TV.mapA,mS,e]
   | tup l=>simp only [killTV,TV.mapA,oK,e]
   | un=>rfl
theorem xp {g h:AV->AV} {l:List (Int × AV)}:mapM g (mapM h l)=mapM (fun a=>g (h a)) l:=by
 induction l with
 | nil=>rfl
 | cons q r ih=>obtain ⟨k,a⟩:=q; simp [mapM,ih]
theorem ux {a b:List Nat} {o:AO}:killO b (killO a o)=killO a (killO b o):=by
 cases a with
 | nil=>rfl
 | cons x r=>
  cases b with
  | nil=>rfl
  | cons y q=>
   have e:(fun z:AV=>(z.bN (x :: r)).bN (y :: q))=fun z=>(z.bN (y :: q)).bN (x :: r):=funext fun z=>nG
   cases o with
   | box t cs=>simp only [killO,AO.mapA,kj,e]
   | mapf l=>simp only [killO,AO.mapA,xp,e]
   | _=>rfl
theorem mH {a:List Nat}:killO a .gone = .gone:=by cases a <;> rfl
inductive AOq:AO->AO->Prop
 | rfl {o:AO}:AOq o o
 | map {l l':List (Int × AV)}:(∀ k,lookF k l=lookF k l')->AOq (.mapf l) (.mapf l')
theorem AOq.or {c:Cx} {ρ:List RE} {o o':AO} {r:RE} (h:AOq o o') (k:OR c ρ o r):OR c ρ o' r:=by
 cases h with
 | rfl=>exact k
 | map hl=>
  obtain ⟨g,e,a,n,h1,h2,h3⟩:=k
  exact ⟨g,e,a,n,h1,h2,fun k=>by rw [<- hl]; exact h3 k⟩
theorem AOq.trans {a b c:AO} (h:AOq a b) (k:AOq b c):AOq a c:=by
 cases h with
 | rfl=>exact k
 | map h=>
  cases k with
  | rfl=>exact .map h
  | map k=>exact .map fun x=>(h x).trans (k x)
theorem AOq.symm {a b:AO} (h:AOq a b):AOq b a:=by
 cases h with
 | rfl=>exact .rfl
 | map h=>exact .map fun x=>(h x).symm
theorem kS {g:AV->AV} {k:Int}:∀ {l:List (Int × AV)},lookF k (mapM g l)=(lookF k l).map g
 | []=>rfl
 | (j,a) :: r=>by
  simp only [mapM,lookF]
  by_cases h:k=j
  ·rw [if_pos h,if_pos h]; rfl
  ·rw [if_neg h,if_neg h]; exact kS
theorem AOq.kill {mv:List Nat} {o o':AO} (h:AOq o o'):AOq (killO mv o) (killO mv o'):=by
 cases h with
 | rfl=>exact .rfl
 | map h=>
  cases mv with
  | nil=>exact .map h
  | cons a r=>exact .map fun k=>by rw [kS,kS,h]
theorem AOq.put {e:Ent} {o o':AO} (h:AOq o o'):AOq (e.put o) (e.put o'):=by
 cases h with
 | rfl=>exact .rfl
 | map h=>
  cases e with
  | fn k a=>exact .map fun j=>by simp only [lookF,h]
  | da s k x=>exact .map h
theorem Br {j k:Int} {b:AV} {s:Sh} {x:den s} {o:AO}:(Ent.fn j b).put ((Ent.da s k x).put o)=(Ent.da s k x).put ((Ent.fn j b).put o):=by
 cases o with
 | mapo s' g=>
  by_cases h:s' = s
  ·subst h; simp only [Ent.put,dif_pos]
  ·simp only [Ent.put,dif_neg h]
 | _=>rfl
theorem put_comm {e f:Ent} {o:AO} (h:e.key≠f.key):AOq (f.put (e.put o)) (e.put (f.put o)):=by
 cases e with
 | fn k a=>
  cases f with
  | fn j b=>
   cases o with
   | mapf l=>
    refine .map fun i=>?_
    simp only [lookF]
    have h:k≠j:=h
    by_cases h1:i=j
    ·rw [if_pos h1,if_neg (show ¬ i=k by omega),if_pos h1]
    ·rw [if_neg h1]
     by_cases h2:i=k
     ·rw [if_pos h2,if_pos h2]
     ·rw [if_neg h2,if_neg h2,if_neg h1]
   | _=>exact .rfl
  | da s j x=>rw [Br]; exact .rfl
 | da s k x=>
  cases f with
  | fn j b=>rw [Br]; exact .rfl
  | da s2 j y=>
   cases o with
   | mapo s' g=>
    by_cases h1:s' = s
    ·by_cases h2:s' = s2
     ·subst h1; subst h2
      simp only [Ent.put,dif_pos]
      have e2:(fun i=>if i=j then some y else if i=k then some x else g i)=fun i=>if i=k then some x else if i=j then some y else g i:=by
       funext i
       have h:k≠j:=h
       by_cases h1:i=j
       ·rw [if_pos h1,if_neg (show ¬ i=k by omega),if_pos h1]
       ·rw [if_neg h1]
        by_cases h2:i=k
        ·rw [if_pos h2,if_pos h2]
        ·rw [if_neg h2,if_neg h2,if_neg h1]
      rw [e2]
      exact .rfl
     ·subst h1
      simp only [Ent.put,dif_pos,dif_neg h2]
      exact .rfl
    ·by_cases h2:s' = s2
     ·subst h2
      simp only [Ent.put,dif_neg h1,dif_pos]
      exact .rfl
     ·simp only [Ent.put,dif_neg h1,dif_neg h2]
      exact .rfl
   | _=>exact .rfl
theorem sm {e:Ent} {mv:List Nat} {o:AO} (h:∀ k a,e = .fn k a->disj mv a.rids=true):killO mv (e.put o)=e.put (killO mv o):=by
 cases mv with
 | nil=>rfl
 | cons m r=>
  cases e with
  | fn k a=>
   cases o with
   | mapf l=>
    have:=eb (mv:=m :: r) (a:=a) (bZ.1 (h k a rfl))
    simp only [killO,Ent.put,AO.mapA,mapM,this]
   | _=>rfl
  | da s k x=>
   cases o with
   | mapo s' g=>
    by_cases h:s' = s
    ·subst h; simp only [Ent.put,dif_pos,killO,AO.mapA]
    ·simp only [Ent.put,dif_neg h,killO,AO.mapA]
   | _=>rfl
def kd:AO->Option (Option Sh)
 | .mapf _=>some none
 | .mapo s _=>some (some s)
 | _=>none
theorem qE {e:Ent} {o:AO}:kd (e.put o)=kd o:=by
 cases e with
 | fn k a=>cases o <;> rfl
 | da s k x=>
  cases o with
  | mapo s' g=>
   simp only [Ent.put]
   split
   ·rename_i h; subst h; rfl
   ·rfl
  | _=>rfl
theorem lV {mv:List Nat} {o:AO}:kd (killO mv o)=kd o:=by cases mv <;> cases o <;> rfl
theorem ua {mv:List Nat}:∀ {H:AH} {k p:Nat} {o:AO},H[p]? = some o->k+p ∉ yN mv k H->disj mv o.rids=true
 | [],_,_,_,h,_=>by simp at h
 | x :: r,k,0,o,h,hn=>by
  simp at h; subst h
  simp only [yN] at hn
  cases hd:disj mv x.rids with
  | true=>rfl
  | false=>rw [hd] at hn; simp at hn
 | x :: r,k,p+1,o,h,hn=>by
  refine ua (H:=r) (k:=k+1) (p:=p) (by simpa using h) fun hm=>hn ?_
  simp only [yN]
  have e:k+1+p=k+(p+1):=by omega
  rw [e] at hm
  cases disj mv x.rids
  ·exact List.mem_cons_of_mem _ hm
  ·exact hm
theorem rL {mv:List Nat}:∀ {fr:AFr} {t:Nat} {v:TV},lookA fr t=some v->t ∉ Cq mv fr->disj mv v.rids=true
 | [],_,_,h,_=>by cases h
 | (i,x) :: r,t,v,h,hn=>by
  rw [cz] at h
  simp only [Cq] at hn
  by_cases hi:i=t
  ·rw [if_pos hi] at h; cases h
   cases hd:disj mv x.rids with
   | true=>rfl
   | false=>rw [hd] at hn; simp [hi] at hn
  ·rw [if_neg hi] at h
   refine rL h fun hm=>hn ?_
   cases disj mv x.rids
   ·exact List.mem_cons_of_mem _ hm
   ·exact hm
theorem jB {fr:AFr} {i t:Nat} {v:TV} (hv:lookA fr t=some v) (hi:i ∈ v.rids):∀ {U:List Nat},t ∈ U->i ∈ jJ fr U
 | [],h=>by simp at h
 | u :: r,h=>by
  simp only [jJ,List.mem_append]
  rcases List.mem_cons.1 h with rfl | h
  ·left; rw [hv]; exact hi
  ·exact .inr (jB hv hi h)
theorem ld {fr:AFr} {i t:Nat} {v:TV} (hv:lookA fr t=some v) (hi:i ∈ v.ids):∀ {U:List Nat},t ∈ U->i ∈ slotIds fr U
 | [],h=>by simp at h
 | u :: r,h=>by
  simp only [slotIds,List.mem_append]
  rcases List.mem_cons.1 h with rfl | h
  ·left; rw [hv]; exact hi
  ·exact .inr (ld hv hi h)
theorem eS {H:AH} {i p:Nat} (hi:i ∈ (getO H p).rids):∀ {l:List Nat},p ∈ l->i ∈ iv H l
 | [],h=>by simp at h
 | u :: r,h=>by
  simp only [iv,List.mem_append]
  rcases List.mem_cons.1 h with rfl | h
  ·exact .inl hi
  ·exact .inr (eS hi h)
theorem mm {H:AH} {i p:Nat} (hi:i ∈ (getO H p).ids):∀ {l:List Nat},p ∈ l->i ∈ objIds H l
 | [],h=>by simp at h
 | u :: r,h=>by
  simp only [objIds,List.mem_append]
  rcases List.mem_cons.1 h with rfl | h
  ·exact .inl hi
  ·exact .inr (mm hi h)
theorem jN {r:RC} (h:r.Fit) {p:Nat}:p ∈ r.new↔r.base<=p/\p<r.res.length:=by
 have:=h.le
 rw [RC.new,Cw]; omega
theorem ek {H:AH} {p:Nat} {o:AO} (h:H[p]? = some o):getO H p=o:=by unfold getO; rw [List.getD_eq_getElem?_getD,h]; rfl
structure OkD (a b:RC):Prop where
 dst:∀ d,b.dst=some d->d ∉ a.U
 chσ:∀ p ∈ a.σ,p ∉ b.ch
 chn:∀ p ∈ a.new,p ∉ b.ch
 nσ:∀ p ∈ a.σ,p ∉ b.new
 nch:∀ p ∈ a.ch,p ∉ b.new
 kp:∀ p ∈ a.σ,∀ o,b.H0[p]? = some o->killO b.mv o=o
 ks:∀ t ∈ a.U,∀ v,lookA b.fr0 t=some v->killTV b.mv v=v
 sl:∀ t ∈ a.U,∀ v,lookA a.fr0 t=some v->killTV b.mv v=v
 ob:∀ p ∈ a.σ,killO b.mv (getO a.H0 p)=getO a.H0 p
 v:killTV b.mv a.v=a.v
 rc:∀ p ∈ a.ch,killO b.mv (getO a.res p)=getO a.res p
 rn:∀ p ∈ a.new,killO b.mv (getO a.res p)=getO a.res p
 en:∀ k x,a.ent=some (.fn k x)->disj b.mv x.rids=true
theorem AX {l:List Nat}:disj [] l=true:=bZ.2 fun _ _ h=>by simp at h
theorem ji {mv l l':List Nat} (h:disj mv l=true) (hs:∀ i ∈ l',i ∈ l):disj mv l' = true:=bZ.2 fun i hi=>bZ.1 h i (hs i hi)
theorem wT {a b:RC} (h:Mh a b=true):OkD a b:=by
 simp only [Mh,Bool.and_eq_true] at h
 obtain ⟨⟨⟨⟨⟨h1,h2⟩,h3⟩,h4⟩,h5⟩,h6⟩:=h
 have hd:∀ d,b.dst=some d->d ∉ a.U:=fun d hd hm=>by
  simp only [hd,Gt,bw.2 hm,Bool.not_true] at h1; cases h1
 refine ⟨hd,bZ.1 h2,bZ.1 h3,bZ.1 h4,bZ.1 h5,?_,?_,?_,?_,?_,?_,?_,?_⟩ <;> (cases hmv:b.mv with
  | nil=>intros; first | rfl | exact AX
  | cons m r=>?_) <;> (rw [hmv] at h6; simp only [Bool.and_eq_true] at h6; obtain ⟨⟨⟨⟨⟨⟨⟨k1,k2⟩,k3⟩,k4⟩,k5⟩,k6⟩,k7⟩,k8⟩:=h6)
 ·intro p hp o ho
  exact jS (ua (k:=0) ho (by rw [Nat.zero_add]; exact bZ.1 k1 p hp))
 ·intro t ht v hv
  exact jW (rL hv (bZ.1 k2 t ht))
 ·intro t ht v hv
  exact jW (ji k3 fun i hi=>jB hv hi ht)
 ·intro p hp
  exact jS (ji k4 fun i hi=>eS hi hp)
 ·exact jW k5
 ·intro p hp
  exact jS (ji k6 fun i hi=>eS hi hp)
 ·intro p hp
  exact jS (ji k7 fun i hi=>eS hi hp)
 ·intro k x hx
  rw [hx] at k8; exact k8
theorem RC.dr {r:RC} {p:Nat} {o:AO} (h:p ∉ r.ch):r.obj p o=killO r.mv o:=by rw [RC.obj,if_neg h]
structure Agr (b:RC) (q p:AFr × AH):Prop where
 len:q.2.length=p.2.length
 ob:∀ x ∈ b.σ,q.2[x]? = p.2[x]?
 kd:∀ x ∈ b.ch,(q.2[x]?).map kd=(p.2[x]?).map kd
 sl:∀ t ∈ b.U,lookA q.1 t=lookA p.1 t
theorem qi {a b:RC} (h:okI a b=true) {p:Nat} (ha:p ∈ a.ch) (hb:p ∈ b.ch):∃ e f,a.ent=some e/\b.ent=some f/\e.key≠f.key:=by
 unfold okI at h
 split at h
 ·rename_i e f he hf
  simp only [Bool.or_eq_true,Bool.not_eq_true',decide_eq_false_iff_not] at h
  rcases h with h | h
  ·exact absurd ha (bZ.1 h p hb)
  ·exact ⟨e,f,he,hf,h⟩
 ·exact absurd ha (bZ.1 h p hb)
theorem wJ {b:RC} {s:Nat->Bool}:∀ {rs:List RC} {k:Nat} {q p:AFr × AH},dP p rs->(∀ j r,rs[j]? = some r->s (k+j)=true\/(OkD b r/\okI b r=true))->Agr b q p->Agr b (fa s k rs q) (prg rs p)
 | [],_,_,_,_,_,h=>h
 | r :: rs,k,q,p,hc,hs,h=>by
  obtain ⟨h1,h2,h3,h4⟩:=hc
  have hb:p.2.length=r.base:=by rw [<- h2]; exact h3.base.symm
  have hqb:q.2.length=r.base:=h.len.trans hb
  simp only [fa,prg]
  refine wJ h4 (fun j r' hj=>by have:=hs (j+1) r' (by simpa using hj); rwa [show k+(j+1)=k+1+j by omega] at this) ?_
  cases hk:s k with
  | true=>
   simp only [cond_true]
   refine ⟨(bR h3 hqb).trans (bR h3 hb).symm,fun x hx=>?_,fun x hx=>?_,fun t ht=>?_⟩
   ·rw [eh h3 hqb,eh h3 hb,h.ob x hx]
   ·rw [eh h3 hqb,eh h3 hb]
    by_cases hlt:x<r.base
    ·rw [if_pos hlt,if_pos hlt]
     have:=h.kd x hx
     have key:∀ o o',kd o=kd o' -> kd (r.obj x o)=kd (r.obj x o'):=fun o o' e=>by
      unfold RC.obj
      split
      ·split
       ·rw [qE,qE,e]
       ·rfl
      ·rw [lV,lV,e]
     cases hq:q.2[x]? <;> cases hp:p.2[x]? <;> rw [hq,hp] at this <;> simp at this ⊢
     exact key _ _ this
    ·rw [if_neg hlt,if_neg hlt]
   ·rw [eP,eP,h.sl t ht]
  | false=>
   simp only [cond_false]
   obtain ⟨hd,hi⟩:=(hs 0 r rfl).resolve_left (by rw [Nat.add_zero,hk]; simp)
   refine ⟨(eu h3 hqb).trans (bR h3 hb).symm,fun x hx=>?_,fun x hx=>?_,fun t ht=>?_⟩
   ·rw [eJ h3 hqb,eh h3 hb,h.ob x hx]
    by_cases hlt:x<r.base
    ·rw [if_pos hlt,if_pos hlt]
     cases hp:p.2[x]? with
     | none=>rfl
     | some o=>
      rw [Option.map_some,RC.dr (hd.chσ x hx),hd.kp x hx o (by rw [h2]; exact hp)]
    ·rw [if_neg hlt,if_neg hlt]
     have hn:=hd.nσ x hx
     rw [jN h3] at hn
     rw [if_neg (fun hh=>hn ⟨by omega,hh⟩),List.getElem?_eq_none (by omega)]
   ·rw [eJ h3 hqb,eh h3 hb]
    by_cases hlt:x<r.base
    ·rw [if_pos hlt,if_pos hlt]
     have:=h.kd x hx
     cases hq:q.2[x]? <;> cases hp:p.2[x]? <;> rw [hq,hp] at this <;> simp at this ⊢
     rw [this]
     unfold RC.obj
     split
     ·rename_i hxr
      obtain ⟨e,f,_,hf,_⟩:=qi hi hx hxr
      rw [hf]; exact qE.symm
     ·exact lV.symm
    ·rw [if_neg hlt,if_neg hlt]
     have hn:=hd.nch x hx
     rw [jN h3] at hn
     rw [if_neg (fun hh=>hn ⟨by omega,hh⟩),List.getElem?_eq_none (by omega)]
   ·rw [eP,if_neg (fun e=>hd.dst t e ht)]
    show lookA q.1 t=_
    rw [h.sl t ht]
    cases hp:lookA p.1 t with
    | none=>rfl
    | some v=>rw [Option.map_some,hd.ks t ht v (by rw [h1]; exact hp)]
structure AgrB (b:RC) (q:AFr × AH):Prop where
 ob:∀ x ∈ b.σ,x<b.base->q.2[x]? = b.H0[x]?
 kd:∀ x ∈ b.ch,x<b.base->(q.2[x]?).map kd=(b.H0[x]?).map kd
 sl:∀ t ∈ b.U,lookA q.1 t=lookA b.fr0 t
 gn:∀ x,b.base<=x->x<b.res.length->q.2[x]? = some .gone
theorem sq {b:RC} (hbf:b.Fit) {s:Nat->Bool}:∀ {rs:List RC} {k:Nat} {q p:AFr × AH},dP p rs->b.res.length<=p.2.length->q.2.length=p.2.length->(∀ j r,rs[j]? = some r->s (k+j)=false\/(OkD b r/\okI b r=true))->AgrB b q->AgrB b (fa s k rs q)
 | [],_,_,_,_,_,_,_,h=>h
 | r :: rs,k,q,p,hc,hbl,hlen,hs,h=>by
  obtain ⟨h1,h2,h3,h4⟩:=hc
  have hb:p.2.length=r.base:=by rw [<- h2]; exact h3.base.symm
  have hqb:q.2.length=r.base:=hlen.trans hb
  have hle:=h3.le
  simp only [fa]
  have hl2:(bif s k then r.app q else r.xt q).2.length=(r.app p).2.length:=by
   cases s k
   ·exact (eu h3 hqb).trans (bR h3 hb).symm
   ·exact (bR h3 hqb).trans (bR h3 hb).symm
  have hble:=hbf.le
  refine sq hbf h4 (by rw [bR h3 hb]; omega) hl2 (fun j r' hj=>by have:=hs (j+1) r' (by simpa using hj); rwa [show k+(j+1)=k+1+j by omega] at this) ?_
  cases hk:s k with
  | false=>
   simp only [cond_false]
   refine ⟨fun x hx hlt=>?_,fun x hx hlt=>?_,fun t ht=>h.sl t ht,fun x hx hlt=>?_⟩
   ·rw [eJ h3 hqb,if_pos (by omega)]; exact h.ob x hx hlt
   ·rw [eJ h3 hqb,if_pos (by omega)]; exact h.kd x hx hlt
   ·rw [eJ h3 hqb,if_pos (by omega)]; exact h.gn x hx hlt
  | true=>
   simp only [cond_true]
   obtain ⟨hd,hi⟩:=(hs 0 r rfl).resolve_left (by rw [Nat.add_zero,hk]; simp)
   refine ⟨fun x hx hlt=>?_,fun x hx hlt=>?_,fun t ht=>?_,fun x hx hlt=>?_⟩
   ·rw [eh h3 hqb,if_pos (by omega),h.ob x hx hlt]
    cases hp:b.H0[x]? with
    | none=>rfl
    | some o=>
     have:=hd.ob x hx
     rw [ek hp] at this
     rw [Option.map_some,RC.dr (hd.chσ x hx),this]
   ·rw [eh h3 hqb,if_pos (by omega),<- h.kd x hx hlt]
    cases hq:q.2[x]? with
    | none=>rfl
    | some o=>
     simp only [Option.map_some,Option.some.injEq]
     unfold RC.obj
     split
     ·rename_i hxr
      obtain ⟨e,f,_,hf,_⟩:=qi hi hx hxr
      rw [hf]; exact qE
     ·exact lV
   ·rw [eP,if_neg (fun e=>hd.dst t e ht),h.sl t ht]
    cases hp:lookA b.fr0 t with
    | none=>rfl
    | some v=>rw [Option.map_some,hd.sl t ht v hp]
   ·rw [eh h3 hqb,if_pos (by omega),h.gn x hx hlt,Option.map_some,RC.dr (hd.chn x ((jN hbf).2 ⟨hx,hlt⟩)),mH]
def RC.endO (b:RC) (x:Nat) (o:AO):AO:=if b.base<=x/\x<b.res.length then getO b.res x else b.obj x o
def RC.endF (b:RC) (t:Nat) (v:Option TV):Option TV:=if b.dst=some t then some b.v else v.map (killTV b.mv)
inductive OOq:Option AO->Option AO->Prop
 | none:OOq none none
 | some {o o':AO}:AOq o o' -> OOq (some o) (some o')
structure Rel (b:RC) (q' q:AFr × AH):Prop where
 len:q'.2.length=q.2.length
 ob:∀ x,OOq (q'.2[x]?) ((q.2[x]?).map (b.endO x))
 sl:∀ t,lookA q'.1 t=b.endF t (lookA q.1 t)
theorem OOq.refl:∀ o:Option AO,OOq o o
 | .none=>.none
 | .some _=>.some .rfl
theorem yI {b:RC} (hb:b.Fit) {q:AFr × AH} (hq:q.2.length=b.base):Rel b (b.app q) (b.xt q):=by
 refine ⟨(bR hb hq).trans (eu hb hq).symm,fun x=>?_,fun t=>eP⟩
 rw [eh hb hq,eJ hb hq]
 by_cases h1:x<b.base
 ·rw [if_pos h1,if_pos h1]
  have:(q.2[x]?).map (b.obj x)=(q.2[x]?).map (b.endO x):=by
   cases q.2[x]? with
   | none=>rfl
   | some o=>simp only [Option.map_some,RC.endO,if_neg (show ¬ (b.base<=x/\x<b.res.length) by omega)]
  rw [this]; exact .refl _
 ·rw [if_neg h1,if_neg h1]
  by_cases h2:x<b.res.length
  ·rw [if_pos h2,Option.map_some,RC.endO,if_pos ⟨by omega,h2⟩,List.getElem?_eq_getElem h2]
   exact .some (by rw [ek (List.getElem?_eq_getElem h2)]; exact .rfl)
  ·rw [if_neg h2,List.getElem?_eq_none (by omega)]; exact .none
theorem ET {b r:RC} (hb:b.Fit) (hdb:OkD b r) (hdr:OkD r b) (hi:okI b r=true) {x:Nat} {o o':AO} (h:AOq o' (b.endO x o)):AOq (r.obj x o') (b.endO x (r.obj x o)):=by
 by_cases hn:b.base<=x/\x<b.res.length
 ·-- b's own
  have hxb:x ∈ b.new:=(jN hb).2 hn
  have hxr:x ∉ r.ch:=hdb.chn x hxb
  simp only [RC.endO,if_pos hn] at h ⊢
  rw [RC.dr hxr]
  have:=(h.kill (mv:=r.mv)).trans (by rw [hdb.rn x hxb]; exact .rfl)
  exact this
 ·simp only [RC.endO,if_neg hn] at h ⊢
  by_cases hxb:x ∈ b.ch
  ·by_cases hxr:x ∈ r.ch
   ·obtain ⟨e,f,he,hf,hne⟩:=qi hi hxb hxr
    simp only [RC.obj,if_pos hxb,if_pos hxr,he,hf] at h ⊢
    exact (h.put (e:=f)).trans (put_comm hne)
   ·rw [RC.dr hxr,RC.dr hxr]
    cases he:b.ent with
    | some e=>
     simp only [RC.obj,if_pos hxb,he] at h ⊢
     refine (h.kill (mv:=r.mv)).trans ?_
     rw [sm fun k a hk=>hdb.en k a (by rw [he,hk])]
     exact .rfl
    | none=>
     simp only [RC.obj,if_pos hxb,he] at h ⊢
     have:=h.kill (mv:=r.mv)
     rwa [hdb.rc x hxb] at this
  ·rw [RC.dr hxb] at h ⊢
   by_cases hxr:x ∈ r.ch
   ·cases he:r.ent with
    | some e=>
     simp only [RC.obj,if_pos hxr,he]
     refine (h.put (e:=e)).trans ?_
     rw [sm fun k a hk=>hdr.en k a (by rw [he,hk])]
     exact .rfl
    | none=>
     simp only [RC.obj,if_pos hxr,he]
     rw [hdr.rc x hxr]; exact .rfl
   ·rw [RC.dr hxr,RC.dr hxr,ux]
    exact h.kill
theorem Cr {b r:RC} (hb:b.Fit) (hr:r.Fit) (hdb:OkD b r) (hdr:OkD r b) (hi:okI b r=true) (hds:∀ d,b.dst=some d->r.dst≠some d) {q' q:AFr × AH} (hq:q.2.length=r.base) (hbr:b.res.length<=r.base) (h:Rel b q' q):Rel b (r.app q') (r.app q):=by
 have hq':q'.2.length=r.base:=h.len.trans hq
 refine ⟨(bR hr hq').trans (bR hr hq).symm,fun x=>?_,fun t=>?_⟩
 ·rw [eh hr hq',eh hr hq]
  by_cases hlt:x<r.base
  ·rw [if_pos hlt,if_pos hlt]
   have:=h.ob x
   cases hx':q'.2[x]? <;> cases hx:q.2[x]? <;> rw [hx',hx] at this <;> simp only [Option.map_some,Option.map_none] at this ⊢ <;> cases this
   ·exact .none
   ·rename_i hh; exact .some (ET hb hdb hdr hi hh)
  ·rw [if_neg hlt,if_neg hlt]
   cases hx:r.res[x]? with
   | none=>exact .none
   | some o=>
    refine .some ?_
    have hlx:=(List.getElem?_eq_some_iff.1 hx).1
    have hxn:x ∈ r.new:=(jN hr).2 ⟨by omega,hlx⟩
    have h1:=hdr.rn x hxn
    rw [ek hx] at h1
    have h2:x ∉ b.ch:=hdr.chn x hxn
    rw [RC.endO,if_neg (by omega),RC.dr h2,h1]
    exact .rfl
 ·rw [eP,eP,h.sl t]
  unfold RC.endF
  by_cases hrt:r.dst=some t
  ·rw [if_pos hrt,if_pos hrt,if_neg (fun e=>hds t e hrt),Option.map_some,hdr.v]
  ·rw [if_neg hrt,if_neg hrt]
   by_cases hbt:b.dst=some t
   ·rw [if_pos hbt,if_pos hbt,Option.map_some,hdb.v]
   ·rw [if_neg hbt,if_neg hbt,Option.map_map,Option.map_map]
    cases lookA q.1 t with
    | none=>rfl
    | some v=>simp only [Option.map_some,Function.comp,sM]
theorem Ei {b r:RC} (hb:b.Fit) (hr:r.Fit) (hdr:∀ x ∈ b.ch,x<b.base) {q' q:AFr × AH} (hq:q.2.length=r.base) (hbr:b.res.length<=r.base) (h:Rel b q' q):Rel b (r.xt q') (r.xt q):=by
 have hq':q'.2.length=r.base:=h.len.trans hq
 have hble:=hb.le
 refine ⟨(eu hr hq').trans (eu hr hq).symm,fun x=>?_,h.sl⟩
 rw [eJ hr hq',eJ hr hq]
 by_cases hlt:x<r.base
 ·rw [if_pos hlt,if_pos hlt]; exact h.ob x
 ·rw [if_neg hlt,if_neg hlt]
  by_cases h2:x<r.res.length
  ·rw [if_pos h2,Option.map_some,RC.endO,if_neg (by omega),RC.dr (fun hm=>by have:=hdr x hm; omega),mH]
   exact .some .rfl
  ·rw [if_neg h2]; exact .none
theorem wW {b:RC} (hb:b.Fit) (hch:∀ x ∈ b.ch,x<b.base) {s:Nat->Bool}:∀ {rs:List RC} {k:Nat} {q' q p:AFr × AH},dP p rs->b.res.length<=p.2.length->q.2.length=p.2.length->(∀ j r,rs[j]? = some r->(s (k+j)=false\/(OkD b r/\OkD r b/\okI b r=true))/\∀ d,b.dst=some d->r.dst≠some d)->Rel b q' q->Rel b (fa s k rs q') (fa s k rs q)
 | [],_,_,_,_,_,_,_,_,h=>h
 | r :: rs,k,q',q,p,hc,hbl,hlen,hs,h=>by
  obtain ⟨_,h2,h3,h4⟩:=hc
  have hb0:p.2.length=r.base:=by rw [<- h2]; exact h3.base.symm
  have hqb:q.2.length=r.base:=hlen.trans hb0
  have hle:=h3.le
  simp only [fa]
  have hl2:(bif s k then r.app q else r.xt q).2.length=(r.app p).2.length:=by
   cases s k
   ·exact (eu h3 hqb).trans (bR h3 hb0).symm
   ·exact (bR h3 hqb).trans (bR h3 hb0).symm
  refine wW hb hch h4 (by rw [bR h3 hb0]; omega) hl2 (fun j r' hj=>by have:=hs (j+1) r' (by simpa using hj); rwa [show k+(j+1)=k+1+j by omega] at this) ?_
  cases hk:s k with
  | false=>exact Ei hb h3 hch hqb (by omega) h
  | true=>
   obtain ⟨hh,hds⟩:=hs 0 r rfl
   obtain ⟨hd1,hd2,hi⟩:=hh.resolve_left (by rw [Nat.add_zero,hk]; simp)
   exact Cr hb h3 hd1 hd2 hi hds hqb bt h
theorem Rd.on {c c':Cx} {ρ ρ':List RE} {a:AV} {v:Value} (h:Rd c ρ a v) (hc:c.le c') (k:∀ i ∈ a.ids,∀ r,ρ[i]? = some r->r ≠ .no->ρ'[i]? = some r):Rd c' ρ' a v:=by
 have cap:∀ q u,q.1 ∈ a.ids->cR ρ q u->cR ρ' q u:=fun q u hq ⟨g,h1,h2⟩=>⟨g,k _ hq _ h1 (by simp),h2⟩
 cases a with
 | own id=>
  rcases h with ⟨g,cap,len,z,h,e⟩ | ⟨h,e⟩
  ·exact .inl ⟨g,cap,len,z,k id (by simp [AV.ids]) _ h (by simp),e⟩
  ·exact .inr ⟨k id (by simp [AV.ids]) _ h (by simp),e⟩
 | sub id o l=>
  rcases h with ⟨g,cap,len,z,h,e⟩ | ⟨h,e⟩
  ·exact .inl ⟨g,cap,len,z,k id (by simp [AV.ids]) _ h (by simp),e⟩
  ·exact .inr ⟨k id (by simp [AV.ids]) _ h (by simp),e⟩
 | ptr id o=>exact cap (id,o) _ (by simp [AV.ids]) h
 | elp id i o=>
  obtain ⟨g,cap,len,z,h,e⟩:=h
  exact ⟨g,cap,len,z,k id (by simp [AV.ids]) _ h (by simp),e⟩
 | fe s x o=>
  obtain ⟨A,cells,h1,h2,h3,e⟩:=h
  exact ⟨A,cells,(hc.S _ h1).1,h2.keep (hc.S _ h1).2,h3.carry hc,e⟩
 | fn f b cs=>
  obtain ⟨bs,us,h1,h2,e⟩:=h
  have all:∀ (l:List (Nat × Nat)) (us:List Value),(∀ q ∈ l,q.1 ∈ (AV.fn f b cs).ids)->All2 (cR ρ) l us->All2 (cR ρ') l us:=fun l us hl h=>by
   induction h with
   | nil=>exact .nil
   | cons h1 _ ih=>exact .cons (cap _ _ (hl _ (by simp)) h1) (ih fun q hq=>hl q (by simp [hq]))
  refine ⟨bs,us,all b bs (fun q hq=>?_) h1,all cs us (fun q hq=>?_) h2,e⟩ <;> simp only [AV.ids,List.mem_append] <;> first | exact .inl (List.mem_map_of_mem hq) | exact .inr (List.mem_map_of_mem hq)
 | mq id=>
  obtain ⟨g,h1,e⟩:=h
  exact ⟨g,k id (by simp [AV.ids]) _ h1 (by simp),e⟩
 | np=>exact h
 | nf=>exact h
 | yl l=>exact h
 | xx k' cs=>
  obtain ⟨us,h1,h2⟩:=h
  have all:∀ (l:List (Nat × Nat)) (us:List Value),(∀ q ∈ l,q.1 ∈ (AV.xx k' cs).ids)->All2 (cR ρ) l us->All2 (cR ρ') l us:=fun l us hl h=>by
   induction h with
   | nil=>exact .nil
   | cons h1 _ ih=>exact .cons (cap _ _ (hl _ (by simp)) h1) (ih fun q hq=>hl q (by simp [hq]))
  exact ⟨us,all cs us (fun q hq=>by simp only [AV.ids]; exact List.mem_map_of_mem hq) h1,h2.le hc⟩
 | dead=>exact h
 | int n=>exact Pd.carry h hc
 | u8 b=>exact Pd.carry h hc
 | u64 n=>exact Pd.carry h hc
 | bool e=>exact Pd.carry h hc
 | str s=>exact Pd.carry h hc
 | em b=>exact Pd.carry h hc
 | li nw xs=>exact Pd.carry h hc
 | fz s xs=>exact Pd.carry h hc
theorem KY.on {c c':Cx} {ρ ρ':List RE}:∀ {asx:List AV} {vs:List Value},All2 (Rd c ρ) asx vs->c.le c' -> (∀ i ∈ qN asx,∀ r,ρ[i]? = some r->r ≠ .no->ρ'[i]? = some r)->All2 (Rd c' ρ') asx vs
 | [],_,h,_,_=>by cases h; exact .nil
 | a :: r,_,h,hc,k=>by
  cases h with
  | cons h1 h2=>exact .cons (h1.on hc fun i hi=>k i (gF (a:=a) (by simp) hi)) (KY.on h2 hc fun i hi=>k i (by simp only [qN,List.mem_append]; exact .inr hi))
theorem bX.on {c c':Cx} {ρ ρ':List RE} {t:TV1} {v:Value} (h:bX c ρ t v) (hc:c.le c') (k:∀ i ∈ qN t.cells,∀ r,ρ[i]? = some r->r ≠ .no->ρ'[i]? = some r):bX c' ρ' t v:=by
 cases t with
 | c a=>exact Rd.on h hc fun i hi=>k i (gF (a:=a) (by simp [TV1.cells]) hi)
 | agg l=>obtain ⟨vs,e,h⟩:=h; exact ⟨vs,e,KY.on h hc k⟩
theorem Fj.on {c c':Cx} {ρ ρ':List RE}:∀ {asx:List TV1} {vs:List Value},All2 (bX c ρ) asx vs->c.le c' -> (∀ i ∈ lL asx,∀ r,ρ[i]? = some r->r ≠ .no->ρ'[i]? = some r)->All2 (bX c' ρ') asx vs
 | [],_,h,_,_=>by cases h; exact .nil
 | a :: r,_,h,hc,k=>by
  cases h with
  | cons h1 h2=>exact .cons (h1.on hc fun i hi=>k i (by simp only [lL,List.mem_append]; exact .inl hi)) (Fj.on h2 hc fun i hi=>k i (by simp only [lL,List.mem_append]; exact .inr hi))
theorem Rt.on {c c':Cx} {ρ ρ':List RE} {t:TV} {v:Value} (h:Rt c ρ t v) (hc:c.le c') (k:∀ i ∈ t.ids,∀ r,ρ[i]? = some r->r ≠ .no->ρ'[i]? = some r):Rt c' ρ' t v:=by
 cases t with
 | one t=>exact bX.on h hc k
 | tup l=>obtain ⟨vs,e,h⟩:=h; exact ⟨vs,e,Fj.on h hc k⟩
 | un=>trivial
theorem DB {i:Nat} {l:List (Int × AV)} {q:Int × AV} (h:q ∈ l) (hi:i ∈ q.2.ids):i ∈ Cf l:=nR h hi
theorem OR.on {c c':Cx} {ρ ρ':List RE} {o:AO} {r:RE} (h:OR c ρ o r) (hc:c.le c') (hw:c'.w=c.w) (k:∀ i ∈ o.ids,∀ r,ρ[i]? = some r->r ≠ .no->ρ'[i]? = some r):OR c' ρ' o r:=by
 cases o with
 | gone=>exact h
 | loc=>trivial
 | mapo s f=>
  obtain ⟨g,rfl,h⟩:=h
  exact ⟨g,rfl,h.carry hc (by rw [hw])⟩
 | mapf l=>
  obtain ⟨g,rfl,h⟩:=h
  exact ⟨g,rfl,h.map (g0:=fun a=>a) (by simp) (fun q hq _ h=>h.on hc fun i hi=>k i (DB hq hi)) (by rw [hw])⟩
 | arr t s n xs=>
  obtain ⟨g,vs,rfl,h1,h2,h3⟩:=h
  exact ⟨g,vs,rfl,by rw [hw]; exact h1,h2.carry hc,h3⟩
 | box t cs=>
  obtain ⟨g,vs,rfl,h1,h2⟩:=h
  exact ⟨g,vs,rfl,by rw [hw]; exact h1,KY.on h2 hc k⟩
 | row t s xs=>
  obtain ⟨h1,h2,h3⟩:=h
  refine ⟨hc.shp ▸ h1,h2,h3.imp id ?_⟩
  rintro ⟨g,cap,cells,sp,rfl,h4,h5,h6⟩
  exact ⟨g,cap,cells,sp,rfl,by rw [hw]; exact h4,h5.carry hc,h6⟩
theorem yy {mv:List Nat} (h:mv=[]) {l:List AV}:nN (AV.bN mv) l=l:=lR fun a _=>eb (by subst h; simp)
theorem Ad {mv:List Nat} {o:AO}:killO mv o=o.mapA (AV.bN mv):=by
 cases mv with
 | cons _ _=>rfl
 | nil=>
  cases o with
  | box t cs=>exact congrArg (AO.box t) (yy rfl).symm
  | mapf l=>
   show AO.mapf l=AO.mapf (mapM _ l)
   rw [mg]
   congr 1
   refine ((List.map_congr_left fun q _=>?_).trans (List.map_id _)).symm
   have e:=eb (mv:=[]) (a:=q.2) (by simp)
   show (q.1,AV.bN [] q.2)=q
   rw [e]
  | _=>rfl
def Gz (G:Gl) (ρc:List RE):Gl:=⟨G.shp,G.B0,fun b=>G.Z b\/live ρc b⟩
section
variable {G:Gl} {ρ:List RE} {S:AH} {w w':World} {m top:Nat}
structure Part (G:Gl) (ρ:List RE) (S:AH) (w:World) (m top:Nat):Prop where
 R:Rep G ρ S w
 le:m<=top
 len:top<=S.length
 gn:∀ x,m<=x->x<top->S[x]? = some .gone
theorem Part.Mx (h:Part G ρ S w m top) {x:Nat} (h1:m<=x) (h2:x<top):ρ[x]? = some .no:=by
 obtain ⟨r,hr,hor⟩:=h.R.at_ (h.gn x h1 h2)
 cases hor; exact hr
theorem Part.lv (h:Part G ρ S w m top) {b:Nat}:live ρ b↔live (ρ.take m) b\/live (ρ.drop top) b:=by
 have:=h.le
 constructor
 ·rintro ⟨i,r,h1,h2⟩
  by_cases hi:i<m
  ·exact .inl ⟨i,r,by rw [List.getElem?_take,if_pos hi]; exact h1,h2⟩
  ·by_cases hj:i<top
   ·rw [h.Mx (by omega) hj] at h1; cases h1; cases h2
   ·exact .inr ⟨i - top,r,by rw [List.getElem?_drop,show top+(i - top)=i by omega]; exact h1,h2⟩
 ·rintro (⟨i,r,h1,h2⟩ | ⟨i,r,h1,h2⟩)
  ·rw [List.getElem?_take] at h1
   split at h1
   ·exact ⟨i,r,h1,h2⟩
   ·cases h1
  ·rw [List.getElem?_drop] at h1
   exact ⟨_,r,h1,h2⟩
theorem Part.sS (h:Part G ρ S w m top) {b:Nat}:(cx (Gz G (ρ.drop top)) (ρ.take m) w).S b↔(cx G ρ w).S b:=by
 show (b<w.heap.size/\¬ live (ρ.take m) b/\¬ (G.Z b\/live (ρ.drop top) b))↔(b<w.heap.size/\¬ live ρ b/\¬ G.Z b)
 rw [h.lv]
 constructor
 ·rintro ⟨h1,h2,h3⟩; exact ⟨h1,fun hh=>hh.elim h2 fun k=>h3 (.inr k),fun k=>h3 (.inl k)⟩
 ·rintro ⟨h1,h2,h3⟩; exact ⟨h1,fun k=>h2 (.inl k),fun hh=>hh.elim h3 fun k=>h2 (.inr k)⟩
theorem Part.NF (h:Part G ρ S w m top):(cx G ρ w).le (cx (Gz G (ρ.drop top)) (ρ.take m) w):=⟨rfl,rfl,fun _ hb=>⟨h.sS.2 hb,rfl⟩,fun _ _ _=>rfl⟩
theorem gQ {i:Nat} {r:RE} (h:(ρ.take m)[i]? = some r):ρ[i]? = some r/\i<m:=by
 rw [List.getElem?_take] at h
 split at h
 ·exact ⟨h,‹_›⟩
 ·cases h
theorem Part.mask (h:Part G ρ S w m top) {σ:List Nat} (hσ:∀ x ∈ σ,∀ i ∈ (getO S x).ids,i<m):Rep (Gz G (ρ.drop top)) (ρ.take m) (maskH σ 0 (S.take m)) w:=by
 have hl:=h.R.obj.length
 refine ⟨cd (by rw [kf,List.length_take,List.length_take,hl]) fun j o r ho hr=>?_,fun i j r r' g h1 h2 h3 h4=>h.R.inj i j r r' g (gQ h1).1 (gQ h2).1 h3 h4,fun i r g h1 h2=>?_,fun b hb=>hb.elim (h.R.z b) fun ⟨j,r,h1,h2⟩=>?_,h.R.b0,h.R.tb.carry h.NF⟩
 ·obtain ⟨hr,hj⟩:=gQ hr
  rw [jI,List.getElem?_take,if_pos hj,Nat.zero_add,Option.map_eq_some_iff] at ho
  obtain ⟨o',ho',rfl⟩:=ho
  split
  ·rename_i hm
   obtain ⟨r',hr',hor⟩:=h.R.at_ ho'
   rw [hr] at hr'; cases hr'
   refine hor.on h.NF rfl fun i hi r hri _=>?_
   have:=hσ j hm i (by rw [ek ho']; exact hi)
   rw [List.getElem?_take,if_pos this]; exact hri
  ·trivial
 ·obtain ⟨h1,hi⟩:=gQ h1
  have:=h.R.bnd i r g h1 h2
  refine ⟨this.1,this.2.1,fun hz=>hz.elim this.2.2 fun ⟨j,r',h3,h4⟩=>?_⟩
  rw [List.getElem?_drop] at h3
  have e:=h.R.inj i _ r r' g h1 h3 h2 h4
  have:=h.le
  omega
 ·rw [List.getElem?_drop] at h1
  exact (h.R.bnd _ r b h1 h2).2.1
theorem Part.merge (h:Part G ρ S w m top) {ro:Lv} {b:RC} (hbase:b.base=m) (hres:b.res.length=top) (hent:b.ent=none) (hch:∀ x ∈ b.ch,x<m) {ρt:List RE} (hro:∀ i,ro.wr i=false\/ro.mv i=false->i<m) (hS:Stp ⟨fun i=>bM i b.ch && ro.wr i,fun i=>bM i b.mv && ro.mv i⟩ (ρ.take m) w ρt w') (hRt:Rep (Gz G (ρ.drop top)) ρt b.res w') {S':AH} (hlen:S'.length=S.length) (hS':∀ x,OOq (S'[x]?) ((S[x]?).map (b.endO x))) :
  Rep G (ρt++ρ.drop top) S' w' /\ Stp ro ρ w (ρt++ρ.drop top) w' /\ (∀ a v,Rd (cx G ρ w) ρ a v->Rd (cx G (ρt++ρ.drop top) w') (ρt++ρ.drop top) (a.bN b.mv) v)/\(∀ t v,Rt (cx (Gz G (ρ.drop top)) ρt w') ρt t v->Rt (cx G (ρt++ρ.drop top) w') (ρt++ρ.drop top) t v):=by
 have hl:=h.R.obj.length
 have hle:=h.le
 have htl:ρt.length=top:=by rw [<- hRt.obj.length,hres]
 have hSl:=h.len
 -- where they lie
 have at1:∀ i,i<top->(ρt++ρ.drop top)[i]? = ρt[i]?:=fun i hi=>List.getElem?_append_left (by omega)
 have at2:∀ i,top<=i->(ρt++ρ.drop top)[i]? = ρ[i]?:=fun i hi=>by rw [List.getElem?_append_right (by omega),htl,List.getElem?_drop]; congr 1; omega
 have lv':∀ b,live (ρt++ρ.drop top) b↔live ρt b\/live (ρ.drop top) b:=fun b=>by
  constructor
  ·rintro ⟨i,r,h1,h2⟩
   by_cases hi:i<top
   ·exact .inl ⟨i,r,by rw [<- at1 i hi]; exact h1,h2⟩
   ·refine .inr ⟨i - top,r,?_,h2⟩
    rw [at2 i (by omega)] at h1
    rw [List.getElem?_drop,show top+(i - top)=i by omega]; exact h1
  ·rintro (⟨i,r,h1,h2⟩ | ⟨i,r,h1,h2⟩)
   ·exact ⟨i,r,by rw [at1 i (by rw [<- htl]; exact (List.getElem?_eq_some_iff.1 h1).1)]; exact h1,h2⟩
   ·rw [List.getElem?_drop] at h1
    exact ⟨top+i,r,by rw [at2 _ (by omega)]; exact h1,h2⟩
 have hblk:∀ g,g<w.heap.size->¬ live (ρ.take m) g->¬ live ρt g/\w'.heap[g]? = w.heap[g]?:=fun g hg hn=>hS.ext.old g hg hn
 have hcn:∀ g,live (ρ.drop top) g->g<w.heap.size/\¬ live (ρ.take m) g:=by
  rintro g ⟨j,r,h1,h2⟩
  rw [List.getElem?_drop] at h1
  refine ⟨(h.R.bnd _ r g h1 h2).2.1,?_⟩
  rintro ⟨i,r',h3,h4⟩
  obtain ⟨h3,h5⟩:=gQ h3
  have:=h.R.inj _ _ _ _ g h1 h3 h2 h4
  omega
 have hext:Ext ρ w (ρt++ρ.drop top) w':=⟨hS.ext.os,hS.ext.tape,hS.ext.output,hS.ext.size,fun b hb hl=>by
  rw [h.lv] at hl
  have hk:=hblk b hb fun k=>hl (.inl k)
  exact ⟨fun k=>((lv' b).1 k).elim hk.1 fun k=>hl (.inr k),hk.2⟩⟩
 have hcle:(cx G ρ w).le (cx G (ρt++ρ.drop top) w'):=hext.le h.R.lo
 have hcle2:(cx (Gz G (ρ.drop top)) ρt w').le (cx G (ρt++ρ.drop top) w'):=⟨rfl,rfl,fun b ⟨h1,h2,h3⟩=>⟨⟨h1,fun k=>((lv' b).1 k).elim h2 fun k=>h3 (.inr k),fun k=>h3 (.inl k)⟩,rfl⟩,fun _ _ _=>rfl⟩
 have hagr:je ρt (ρt++ρ.drop top):=dH _ _
 -- what is kept
 have keep:∀ i r,ρ[i]? = some r->r ≠ .no->((∃ g,r = .blk g)\/i ∉ b.mv)->(ρt++ρ.drop top)[i]? = some r:=fun i r hr hne hk=>by
  by_cases hi:i<m
  ·rw [at1 i (by omega)]
   have hr':(ρ.take m)[i]? = some r:=by rw [List.getElem?_take,if_pos hi]; exact hr
   rcases hk with ⟨g,rfl⟩ | hk
   ·exact hS.bx i g hr'
   ·refine hS.loc i r ?_ hr'
    have:bM i b.mv=false:=by rw [<- Bool.not_eq_true,bw]; exact hk
    simp [this]
  ·by_cases hj:i<top
   ·rw [h.Mx (by omega) hj] at hr; cases hr; exact absurd rfl hne
   ·rw [at2 i (by omega)]; exact hr
 have hrd:∀ a v,Rd (cx G ρ w) ρ a v->Rd (cx G (ρt++ρ.drop top) w') (ρt++ρ.drop top) (a.bN b.mv) v:=by
  intro a v hd
  have nm:∀ j,bM j b.mv=false->j ∉ b.mv:=fun j hb hm=>by rw [bw.2 hm] at hb; cases hb
  cases a with
  | own j=>
   simp only [AV.bN]
   cases hb:bM j b.mv
   ·refine Rd.on hd hcle fun i hi r hr hne=>keep i r hr hne (.inr ?_)
    simp only [AV.ids,cond_false,List.mem_singleton] at hi; subst hi; exact nm _ hb
   ·exact Rd.one hd
  | sub j o k=>
   simp only [AV.bN]
   cases hb:bM j b.mv
   ·refine Rd.on hd hcle fun i hi r hr hne=>keep i r hr hne (.inr ?_)
    simp only [AV.ids,cond_false,List.mem_singleton] at hi; subst hi; exact nm _ hb
   ·exact Rd.one hd
  | elp j k o=>
   simp only [AV.bN]
   cases hb:bM j b.mv
   ·refine Rd.on hd hcle fun i hi r hr hne=>keep i r hr hne (.inr ?_)
    simp only [AV.ids,cond_false,List.mem_singleton] at hi; subst hi; exact nm _ hb
   ·exact Rd.one hd
  | ptr j o=>
   obtain ⟨g,h1,e⟩:=hd
   exact ⟨g,keep _ _ h1 (by simp) (.inl ⟨g,rfl⟩),e⟩
  | mq j=>
   obtain ⟨g,h1,e⟩:=hd
   exact ⟨g,keep _ _ h1 (by simp) (.inl ⟨g,rfl⟩),e⟩
  | fn f b' cs=>
   obtain ⟨bs,us,h1,h2,e⟩:=hd
   exact ⟨bs,us,h1.imp fun _ _ ⟨g,k1,k2⟩=>⟨g,keep _ _ k1 (by simp) (.inl ⟨g,rfl⟩),k2⟩,h2.imp fun _ _ ⟨g,k1,k2⟩=>⟨g,keep _ _ k1 (by simp) (.inl ⟨g,rfl⟩),k2⟩,e⟩
  | fe s x o=>
   obtain ⟨A,cells,h1,h2,h3,e⟩:=hd
   exact ⟨A,cells,(hcle.S _ h1).1,h2.keep (hcle.S _ h1).2,h3.carry hcle,e⟩
  | np=>exact hd
  | nf=>exact hd
  | yl l=>exact hd
  | xx k' cs=>
   obtain ⟨us,h1,h2⟩:=hd
   exact ⟨us,h1.imp fun _ _ ⟨g,k1,k2⟩=>⟨g,keep _ _ k1 (by simp) (.inl ⟨g,rfl⟩),k2⟩,h2.le hcle⟩
  | dead=>exact hd
  | int n=>exact Pd.carry hd hcle
  | u8 b=>exact Pd.carry hd hcle
  | u64 n=>exact Pd.carry hd hcle
  | bool e=>exact Pd.carry hd hcle
  | str s=>exact Pd.carry hd hcle
  | em b=>exact Pd.carry hd hcle
  | li nw xs=>exact Pd.carry hd hcle
  | fz s xs=>exact Pd.carry hd hcle
 refine ⟨⟨?_,?_,?_,fun b hb=>Nat.lt_of_lt_of_le (h.R.z b hb) hext.size,Nat.le_trans h.R.b0 hext.size,h.R.tb.carry hcle⟩,⟨hext,fun i r hi hr=>?_,fun i r hi hr=>?_,fun i g hi=>?_⟩,hrd,fun t v ht=>ht.carry hcle2 hagr⟩
 ·refine cd (by rw [hlen,List.length_append,htl,List.length_drop]; omega) fun x o r ho hr=>?_
  have hq:=hS' x
  rw [ho] at hq
  cases hx:S[x]? with
  | none=>rw [hx] at hq; cases hq
  | some o0=>
   rw [hx,Option.map_some] at hq
   cases hq with
   | some hq=>
   refine hq.symm.or ?_
   obtain ⟨r0,hr0,hor0⟩:=h.R.at_ hx
   -- those that stay: BI
   have stay:ρ[x]? = some r->(∀ g,r.g? = some g->w'.heap[g]? = w.heap[g]?)->OR (cx G (ρt++ρ.drop top) w') (ρt++ρ.drop top) (killO b.mv o0) r:=fun hr' hg=>by
    rw [hr0] at hr'; cases hr'
    rw [Ad]
    exact hor0.map hcle hrd hg
   have fromRes:x<top->∀ o1,b.res[x]? = some o1->OR (cx G (ρt++ρ.drop top) w') (ρt++ρ.drop top) o1 r:=fun hx1 o1 ho1=>by
    rw [at1 x hx1] at hr
    obtain ⟨r1,hr1,hor1⟩:=hRt.at_ ho1
    rw [hr] at hr1; cases hr1
    exact hor1.carry hcle2 hagr fun _ _=>rfl
   unfold RC.endO
   rw [hbase,hres]
   split
   ·rename_i hn
    refine fromRes hn.2 _ ?_
    rw [List.getElem?_eq_getElem (by omega),ek (List.getElem?_eq_getElem (by omega))]
   ·rename_i hn
    unfold RC.obj
    split
    ·rename_i hchx
     rw [hent]
     have hx1:=hch x hchx
     refine fromRes (by omega) _ ?_
     rw [List.getElem?_eq_getElem (by omega),ek (List.getElem?_eq_getElem (by omega))]
    ·rename_i hch
     have hm:bM x b.ch=false:=by rw [<- Bool.not_eq_true,bw]; exact hch
     by_cases hx1:x<m
     ·have hr':(ρ.take m)[x]? = some r0:=by rw [List.getElem?_take,if_pos hx1]; exact hr0
      have hp:=hS.pro x r0 (by simp [hm]) hr'
      rw [at1 x (by omega),hp.1] at hr; cases hr
      exact stay hr0 hp.2
     ·have hx2:top<=x:=by omega
      rw [at2 x hx2] at hr
      refine stay hr fun g hg=>(hblk g (h.R.bnd x r g hr hg).2.1 (hcn g ⟨x - top,r,?_,hg⟩).2).2
      rw [List.getElem?_drop,show top+(x - top)=x by omega]; exact hr
 ·intro i j r r' g h1 h2 h3 h4
  by_cases hi:i<top <;> by_cases hj:j<top
  ·rw [at1 i hi] at h1; rw [at1 j hj] at h2
   exact hRt.inj i j r r' g h1 h2 h3 h4
  ·rw [at1 i hi] at h1; rw [at2 j (by omega)] at h2
   have hc:live (ρ.drop top) g:=⟨j - top,r',by rw [List.getElem?_drop,show top+(j - top)=j by omega]; exact h2,h4⟩
   exact absurd ⟨i,r,h1,h3⟩ (hblk g (hcn g hc).1 (hcn g hc).2).1
  ·rw [at2 i (by omega)] at h1; rw [at1 j hj] at h2
   have hc:live (ρ.drop top) g:=⟨i - top,r,by rw [List.getElem?_drop,show top+(i - top)=i by omega]; exact h1,h3⟩
   exact absurd ⟨j,r',h2,h4⟩ (hblk g (hcn g hc).1 (hcn g hc).2).1
  ·rw [at2 i (by omega)] at h1; rw [at2 j (by omega)] at h2
   exact h.R.inj i j r r' g h1 h2 h3 h4
 ·intro i r g h1 h2
  by_cases hi:i<top
  ·rw [at1 i hi] at h1
   have:=hRt.bnd i r g h1 h2
   exact ⟨this.1,this.2.1,fun hz=>this.2.2 (.inl hz)⟩
  ·rw [at2 i (by omega)] at h1
   have:=h.R.bnd i r g h1 h2
   exact ⟨this.1,Nat.lt_of_lt_of_le this.2.1 hext.size,this.2.2⟩
 ·have hi':=hro i (.inr hi)
  rw [at1 i (by omega)]
  exact hS.loc i r (by simp [hi]) (by rw [List.getElem?_take,if_pos hi']; exact hr)
 ·have hi':=hro i (.inl hi)
  rw [at1 i (by omega)]
  exact hS.pro i r (by simp [hi]) (by rw [List.getElem?_take,if_pos hi']; exact hr)
 ·by_cases h1:i<m
  ·rw [at1 i (by omega)]
   exact hS.bx i g (by rw [List.getElem?_take,if_pos h1]; exact hi)
  ·by_cases h2:i<top
   ·rw [h.Mx (by omega) h2] at hi; cases hi
   ·rw [at2 i (by omega)]; exact hi
end
theorem JM {P:Program} {Q:Exit->Act->World->Prop} {id:Nat} {l:List Oper} {a:Act} {w:World} (hm:P.follows .mixedOrders=true) {Inv:(Nat->Bool)->Act->World->Prop}
  (hlt:∀ i,∀ j ∈ bA l i,j<i) (hdef:∀ s a w,Inv s a w->a.defers=[])
  (hs:∀ s a w i o,Inv s a w->l[i]? = some o->s i=false->(∀ j ∈ bA l i,s j=true)->(∀ k,s k=true->∀ j ∈ bA l k,s j=true) ->
   Dp P l.toArray (fun e a' w'=>e = .normal/\Inv (fun j=>s j || Nat.beq i j) a' w') [o] a w)
  (he:∀ s a w,Inv s a w->(∀ i,i<l.length->s i=true)->Q .normal a w) (h0:Inv (fun _=>false) a { w with drawn:=w.drawn+1 }):js P (.region id l.toArray true) Q a w:=by
 intro ro ds
 refine wpIn_region_any hm ?_
 have main:∀ f (listed:Array Bool) a w,listed.size=l.length->(List.range l.length).countP (fun i=>!listed.getD i false)=f->(∀ k,listed.getD k false=true->∀ j ∈ bA l k,listed.getD j false=true)->Inv (fun i=>listed.getD i false) a w->wpAnyIn (kg ro) 0 P .any l.toArray (jk ds Q) f listed (gh a ds) w:=by
  intro f
  induction f with
  | zero=>
   intro listed a w hsz hc hcl inv
   have hall:∀ i,i<l.length->listed.getD i false=true:=fun i hi=>by
    have:=List.countP_eq_zero.1 hc i (List.mem_range.2 hi)
    simpa using this
   refine ⟨?_,a,hdef _ _ _ inv,rfl,he _ a w inv hall⟩
   cases hr:Region.ready .any l.toArray listed with
   | nil=>rfl
   | cons i r=>
    obtain ⟨hun,o,ho,_⟩:=mem_ready.1 (show i ∈ Region.ready .any l.toArray listed by rw [hr]; simp)
    have hil:i<l.length:=by simpa using (Array.getElem?_eq_some_iff.1 ho).1
    have:=hall i hil
    rw [getD_both hun] at this; cases this
  | succ f ih=>
   intro listed a w hsz hc hcl inv
   have hex:∃ i,i<l.length/\listed.getD i false=false/\∀ j,j<i->listed.getD j false=true:=by
    have h1:∃ i,i<l.length/\listed.getD i false=false:=by
     have:0<(List.range l.length).countP (fun i=>!listed.getD i false):=by omega
     obtain ⟨i,hi,hp⟩:=List.countP_pos_iff.1 this
     exact ⟨i,List.mem_range.1 hi,by simpa using hp⟩
    obtain ⟨i,hi,hp⟩:=h1
    have hmin:∀ m,∀ i,i<l.length->listed.getD i false=false->i<=m->∃ i,i<l.length/\listed.getD i false=false/\∀ j,j<i->listed.getD j false=true:=by
     intro m
     induction m with
     | zero=>intro i hi hp him; exact ⟨i,hi,hp,fun j hj=>by omega⟩
     | succ m ihm=>
      intro i hi hp him
      by_cases hlt:∃ j,j<i/\listed.getD j false=false
      ·obtain ⟨j,hj,hpj⟩:=hlt
       exact ihm j bt hpj bt
      ·exact ⟨i,hi,hp,fun j hj=>by
        cases h:listed.getD j false with
        | true=>rfl
        | false=>exact absurd ⟨j,hj,h⟩ hlt⟩
    exact hmin i i hi hp (Nat.le_refl _)
   obtain ⟨m,hml,hmu,hmall⟩:=hex
   have hready:m ∈ Region.ready .any l.toArray listed:=by
    refine mem_ready.2 ⟨getD_in (by rw [hsz]; exact hml) hmu,l[m],by simp [hml],fun e he hb=>?_⟩
    exact hmall _ (hlt m e.on (by
     simp only [bA,List.getElem?_eq_getElem hml,dI,List.mem_map,List.mem_filter]
     exact ⟨e,⟨by simpa using he,hb⟩,rfl⟩))
   refine ⟨fun h0=>(by rw [h0] at hready; cases hready),fun i hi=>?_⟩
   obtain ⟨hun,o,ho,hafter⟩:=mem_ready.1 hi
   have ho':l[i]? = some o:=by simpa using ho
   have hil:i<l.length:=(List.getElem?_eq_some_iff.1 ho').1
   have hun':listed.getD i false=false:=getD_both hun
   have hpre:∀ k ∈ bA l i,listed.getD k false=true:=fun k hk=>by
    simp only [bA,ho',dI,List.mem_map,List.mem_filter] at hk
    obtain ⟨e,⟨he,hb⟩,rfl⟩:=hk
    exact hafter e (by simpa using he) hb
   have hw:=hs _ a w i o inv ho' hun' hpre hcl ro ds
   have hset:∀ j,(listed.setIfInBounds i true).getD j false=(listed.getD j false || Nat.beq i j):=fun j=>by
    by_cases hj:j=i
    ·subst hj; simp [Array.getD,hsz,hil]
    ·have:Nat.beq i j=false:=by rw [<- Bool.not_eq_true,Nat.beq_eq]; exact fun e=>hj e.symm
     rw [getD_set_ne false (Ne.symm hj),this,Bool.or_false]
   have step:∀ v w2,(True/\Inv (fun j=>listed.getD j false || Nat.beq i j) (a.put o.dst v) w2)->wpAnyIn (kg ro) 0 P .any l.toArray (jk ds Q) f (listed.setIfInBounds i true) (gh (a.put o.dst v) ds) w2:=by
    intro v w2 ⟨_,hv⟩
    refine ih _ _ _ (by simp [hsz]) ?_ ?_ ?_
    ·have:=countP_set (n:=l.length) (i:=i) (p:=fun j=>!listed.getD j false) (q:=fun j=>!(listed.setIfInBounds i true).getD j false) hil (by simp [hun']) (by simp [hset]) (fun j hj=>by
      have:Nat.beq i j=false:=by rw [<- Bool.not_eq_true,Nat.beq_eq]; exact fun e=>hj e.symm
      simp [hset,this])
     omega
    ·intro k hk j hj
     rw [hset] at hk ⊢
     rw [Bool.or_eq_true] at hk ⊢
     rcases hk with hk | hk
     ·exact .inl (hcl k hk j hj)
     ·have:=Nat.eq_of_beq_eq_true hk
      subst this; exact .inl (hpre j hj)
    ·have e:(fun j=>(listed.setIfInBounds i true).getD j false)=fun j=>(listed.getD j false || Nat.beq i j):=funext hset
     rw [e]; exact hv
   have step':∀ v w2,jk ds (fun e a' w'=>e = .normal/\Inv (fun j=>listed.getD j false || Nat.beq i j) a' w') .normal ((gh a ds).put o.dst v) w2->wpAnyIn (kg ro) 0 P .any l.toArray (jk ds Q) f (listed.setIfInBounds i true) ((gh a ds).put o.dst v) w2:=fun v w2 ⟨a0,h0,e,h⟩=>by
    rw [iR] at e ⊢
    rw [<- CV e (wy (hdef _ _ _ inv) _ _) h0] at h
    exact step v w2 ⟨trivial,h.2⟩
   unfold wpOpIn
   simp only [ho]
   simp only [wpListIn] at hw
   try simp only [eq_self_iff_true] at hw
   by_cases hwant:Region.wanted o (yielded l.toArray (gh a ds).tmps)=true
   ·rw [if_pos hwant] at hw ⊢
    unfold Oper.wpIn at hw ⊢
    refine ⟨fun _ _=>trivial,ue hw.2 step' (fun d w2 ⟨a0,h0,e,h⟩=>?_) (fun e a w he ⟨_,_,_,h⟩=>he h.1)⟩
    have:=congrArg Act.defers e
    cases hd:o.dst <;> rw [hd] at this <;> simp [Act.put,gh] at this
   ·rw [if_neg hwant] at hw ⊢
    exact ⟨fun _ _=>trivial,step' undef w hw.2⟩
 have hcount:(List.range l.length).countP (fun i=>!(Array.replicate l.toArray.size false).getD i false)=l.length:=by
  rw [List.countP_eq_length.2 (fun i _=>by rw [getD_replicate_false]; rfl),List.length_range]
 have:=main l.length (Array.replicate l.toArray.size false) a { w with drawn:=w.drawn+1 } (by simp) hcount (fun k hk=>by rw [getD_replicate_false] at hk; cases hk) (by
  have e:(fun i=>(Array.replicate l.toArray.size false).getD i false)=fun _=>false:=funext fun i=>getD_replicate_false _ _
  rw [e]; exact h0)
 rw [show l.toArray.size=l.length by simp]
 exact this
theorem gV {m j:Nat}:bitN m j=m.testBit j:=by
 rw [Nat.testBit_eq_decide_div_mod_eq]
 show Nat.beq ((m >>> j) &&& 1) 1=_
 rw [Nat.and_one_is_mod,Nat.shiftRight_eq_div_pow]
 generalize m / 2 ^ j % 2=q
 by_cases h:q=1
 ·subst h; rfl
 ·rw [decide_eq_false h,<- Bool.not_eq_true,Nat.beq_eq]; exact h
theorem FD {a b j:Nat}:bitN (Nat.lor a b) j=(bitN a j || bitN b j):=by
 rw [gV,gV,gV]
 exact Nat.testBit_or a b j
theorem Fh {k j:Nat}:bitN (Nat.shiftLeft 1 k) j=true↔j=k:=by
 rw [gV]
 show (1 <<< k).testBit j=true↔_
 rw [Nat.testBit_shiftLeft,Bool.and_eq_true,decide_eq_true_eq,Nat.testBit_one_eq_true_iff_self_eq_zero]
 omega
theorem An {j:Nat}:bitN 0 j=false:=by rw [gV]; exact Nat.zero_testBit j
theorem kF {acc:List Nat} {j:Nat}:∀ {l:List Nat},bitN (eE acc l) j=true↔∃ k ∈ l,j=k\/bitN (acc.getD k 0) j=true
 | []=>by simp [eE,An]
 | k :: r=>by simp only [eE,FD,Bool.or_eq_true,Fh,kF,List.mem_cons,or_and_right,exists_or,exists_eq_left]
theorem uc:∀ {l:List Oper} {acc:List Nat},(fh acc l).length=acc.length+l.length
 | [],_=>by simp [fh]
 | o :: r,acc=>by
  have:=uc (l:=r) (acc:=acc++[eE acc (dI o)])
  simp only [fh,this]
  simp; omega
theorem mj:∀ {l:List Oper} {acc:List Nat} {k:Nat},k<acc.length->(fh acc l).getD k 0=acc.getD k 0
 | [],_,_,_=>rfl
 | o :: r,acc,k,h=>by
  simp only [fh]
  rw [mj (by simp; omega),List.getD_eq_getElem?_getD,List.getElem?_append_left h,List.getD_eq_getElem?_getD]
theorem ll:∀ {l:List Oper} {k:Nat},mb k l=true->∀ i,∀ j ∈ bA l i,j<k+i
 | [],_,_,i,j,hj=>by simp [bA] at hj
 | o :: r,k,h,i,j,hj=>by
  simp only [mb,Bool.and_eq_true] at h
  cases i with
  | zero=>exact ew.1 h.1 j (by simpa [bA] using hj)
  | succ i=>
   have:=ll h.2 i j (by simpa [bA] using hj)
   omega
theorem pw:∀ {l:List Oper} {acc:List Nat} {i:Nat},(∀ i,∀ j ∈ bA l i,j<acc.length+i)->i<l.length->(fh acc l).getD (acc.length+i) 0=eE (fh acc l) (bA l i)
 | [],_,_,_,h=>by simp at h
 | o :: r,acc,0,hp,_=>by
  simp only [fh]
  have e:(fh (acc++[eE acc (dI o)]) r).getD (acc.length+0) 0=eE acc (dI o):=by
   rw [mj (by simp),List.getD_eq_getElem?_getD]; simp
  rw [e]
  have hpa:bA (o :: r) 0=dI o:=rfl
  rw [hpa]
  have key:∀ l:List Nat,(∀ j ∈ l,j<acc.length)->eE acc l=eE (fh (acc++[eE acc (dI o)]) r) l:=by
   intro l
   induction l with
   | nil=>intro _; rfl
   | cons k t ih=>
    intro hl
    have hk:=hl k (by simp)
    simp only [eE]
    rw [ih fun j hj=>hl j (by simp [hj]),mj (show k<(acc++[eE acc (dI o)]).length by simp; omega)]
    congr 2
    rw [List.getD_eq_getElem?_getD,List.getD_eq_getElem?_getD,List.getElem?_append_left hk]
  exact key _ fun j hj=>by have:=hp 0 j (by rw [hpa]; exact hj); omega
 | o :: r,acc,i+1,hp,hi=>by
  simp only [fh]
  have:=pw (l:=r) (acc:=acc++[eE acc (dI o)]) (i:=i) (fun k j hj=>by
   have:=hp (k+1) j (by simpa [bA] using hj)
   simp; omega) (by simpa using hi)
  simp only [List.length_append,List.length_singleton] at this
  rw [show acc.length+(i+1)=acc.length+1+i by omega,this]
  simp [bA]
theorem nU {l:List Oper} {s:Nat->Bool} (hp:∀ i,∀ j ∈ bA l i,j<i) (hcl:∀ k,s k=true->∀ j ∈ bA l k,s j=true):∀ (n i:Nat),i<=n->i<l.length->(∀ j ∈ bA l i,s j=true)->∀ j,bitN ((fh [] l).getD i 0) j=true->s j=true:=by
 intro n
 induction n with
 | zero=>
  intro i hi hl hpi j hb
  have:=pw (acc:=[]) (fun i j hj=>by have:=hp i j hj; simp; omega) hl
  simp only [List.length_nil,Nat.zero_add] at this
  rw [this,kF] at hb
  obtain ⟨k,hk,_⟩:=hb
  have:=hp i k hk
  omega
 | succ n ih=>
  intro i hi hl hpi j hb
  have:=pw (acc:=[]) (fun i j hj=>by have:=hp i j hj; simp; omega) hl
  simp only [List.length_nil,Nat.zero_add] at this
  rw [this,kF] at hb
  obtain ⟨k,hk,rfl | hb⟩:=hb
  ·exact hpi _ hk
  ·have hki:=hp i k hk
   exact ih k bt bt (hcl k (hpi k hk)) j hb
def fw (a:Act):Nat->Fr
 | 0=>[]
 | k+1=>(k,a.tmps.getD k undef) :: fw a k
theorem dR {a:Act} {t:Nat}:∀ {n:Nat},look (fw a n) t=if t<n then some (a.tmps.getD t undef) else none
 | 0=>rfl
 | k+1=>by
  simp only [fw,aY,dR]
  by_cases h:k=t
  ·subst h; rw [if_pos rfl,if_pos (by omega)]
  ·rw [if_neg h]
   by_cases h2:t<k
   ·rw [if_pos h2,if_pos (by omega)]
   ·rw [if_neg h2,if_neg (by omega)]
theorem Js {n:Nat} {a a':Act} (h:a.defers=[]) (h':a'.defers=[]) (hs:a.tmps.size=n) (hs':a'.tmps.size=n) (ht:∀ t,t<n->a'.tmps.getD t undef=a.tmps.getD t undef):a' = a:=by
 cases a with
 | mk t d=>
 cases a' with
 | mk t' d'=>
 simp only at h h' hs hs' ht
 subst h; subst h'
 congr 1
 refine Array.ext (by omega) fun i h1 h2=>?_
 have:=ht i (by omega)
 simpa [Array.getD,h1,h2] using this
theorem Cd {n:Nat} {a:Act} (h:a.defers=[]) (hs:a.tmps.size=n):M n (fw a n) a:=⟨h,hs,fun i v hv=>by
 rw [dR] at hv
 split at hv
 ·cases hv; exact ⟨‹_›,rfl⟩
 ·cases hv⟩
theorem ic {n:Nat} {a:Act} {d:Option Nat} {u:Value} (hs:a.tmps.size=n) {t:Nat} (ht:t<n):(a.put d u).tmps.getD t undef=if d=some t then u else a.tmps.getD t undef:=by
 cases d with
 | none=>simp [Act.put]
 | some d=>
  by_cases hd:d=t
  ·subst hd; simp [Act.put,Array.getD,hs,ht]
  ·have h2:¬ (some d=some t):=fun e=>hd (Option.some.inj e)
   rw [if_neg h2]
   have h3:t<a.tmps.size:=by omega
   have h4:(a.tmps.setIfInBounds d u)[t]? = a.tmps[t]?:=Array.getElem?_setIfInBounds_ne hd
   show (a.tmps.setIfInBounds d u).getD t undef=_
   rw [Array.getD_eq_getD_getElem?,Array.getD_eq_getD_getElem?,h4]
theorem ng {n:Nat} {a a':Act} {d:Option Nat} {u:Value} (h:a.defers=[]) (hs:a.tmps.size=n) (hM:M n (fo d u (fw a n)) a'):a' = a.put d u:=by
 have hp:(a.put d u).defers=[]/\(a.put d u).tmps.size=n:=by cases d <;> simp [Act.put,h,hs]
 refine Js hp.1 hM.1 hp.2 hM.2.1 fun t ht=>?_
 rw [ic hs ht]
 cases d with
 | none=>
  rw [if_neg (by simp)]
  exact (hM.2.2 t (a.tmps.getD t undef) (by show look (fw a n) t=_; rw [dR,if_pos ht])).2
 | some d=>
  by_cases hd:d=t
  ·subst hd
   rw [if_pos rfl]
   exact (hM.2.2 d u (by show look ((d,u) :: fw a n) d=_; rw [aY,if_pos rfl])).2
  ·rw [if_neg (fun e=>hd (Option.some.inj e))]
   exact (hM.2.2 t (a.tmps.getD t undef) (by show look ((d,u) :: fw a n) t=_; rw [aY,if_neg hd,dR,if_pos ht])).2
theorem dD.sub {P:Program} {n:Nat} {F F':Fr} {w:World} {op:Op} {ty:TypeId} {φ:Value->World->Prop} (h:∀ a,M n F' a->M n F a) (k:dD P n F w op ty φ):dD P n F' w op ty φ:=by
 rcases k with (⟨v,w',h1,h2⟩ | ⟨f,args,h1,h2⟩) | ⟨h0,w',h1,h2⟩
 ·exact .inl (.inl ⟨v,w',fun a d pos af g ha=>h1 a d pos af g (h a ha),h2⟩)
 ·exact .inl (.inr ⟨f,args,fun a d pos af g ha=>h1 a d pos af g (h a ha),h2⟩)
 ·exact .inr ⟨h0,w',fun a d pos af g ha=>h1 a d pos af g (h a ha),h2⟩
section
variable {P:Program} {n:Nat} {l:List Oper} {a:Act} {w:World}
theorem vV {o:Oper} (h:a.defers=[]) (hs:a.tmps.size=n) {F:Fr} (hF:∀ i v,look F i=some v->i<n/\a.tmps.getD i undef=v) {Φ:Value->World->Prop} (hy:dD P n F w o.op o.type Φ) (hd:∀ d,o.dst=some d->Nat.blt d n=true) (hst:isSt o.op=true->o.dst=none)
  (hg:∀ j wt,o.guard=some (j,wt)->∃ t,idst l j=some t/\t<n/\a.tmps.getD t undef = .bool wt) {Q:Exit->Act->World->Prop} (hQ:∀ u w',Φ u w' -> Q .normal (a.put o.dst u) w'):Dp P l.toArray Q [o] a w:=by
 have hM:=Cd h hs
 have hy':=dD.sub (F':=fw a n) (fun a' ha=>⟨ha.1,ha.2.1,fun i v hv=>by
  obtain ⟨h1,h2⟩:=hF i v hv
  have:=(ha.2.2 i (a.tmps.getD i undef) (by rw [dR,if_pos h1])).2
  exact ⟨h1,this.trans h2⟩⟩) hy
 obtain ⟨dst,op,ty,pos,af,g⟩:=o
 simp only at hd hst hg hQ hy'
 have main:WO P Q n l [⟨dst,op,ty,pos,af,none⟩] (fw a n) w:=by
  rcases hy' with hy' | ⟨h0,w',h1,h2⟩
  ·exact WO.y hy' hd fun v w' hv=>WO.nil fun a' ha'=>by rw [ng h hs ha']; exact hQ _ _ hv
  ·obtain rfl:=hst h0
   exact WO.s h1 (WO.nil fun a' ha'=>by
    have e:=ng (d:=none) (u:=undef) h hs ha'
    rw [e]; exact hQ _ _ h2)
 cases g with
 | none=>exact main a hM
 | some g=>
  obtain ⟨j,wt⟩:=g
  obtain ⟨t,h1,h2,h3⟩:=hg j wt rfl
  exact WO.on h1 (by rw [dR,if_pos h2,h3]) rfl main a hM
theorem AA {o:Oper} (h:a.defers=[]) (hs:a.tmps.size=n) (hd:∀ d,o.dst=some d->Nat.blt d n=true) {j:Nat} {wt:Bool} (hg:o.guard=some (j,wt)) {t:Nat} (ht:idst l j=some t) (htn:t<n) (hv:a.tmps.getD t undef = .bool (!wt)\/a.tmps.getD t undef=undef) {Q:Exit->Act->World->Prop} (hQ:Q .normal (a.put o.dst undef) w):Dp P l.toArray Q [o] a w:=by
 have hM:=Cd h hs
 obtain ⟨dst,op,ty,pos,af,g⟩:=o
 simp only at hd hg hQ
 subst hg
 have hl:look (fw a n) t=some (a.tmps.getD t undef):=by rw [dR,if_pos htn]
 have fin:WO P Q n l [] (fo dst undef (fw a n)) w:=WO.nil fun a' ha'=>by rw [ng h hs ha']; exact hQ
 cases dst with
 | some d=>
  rcases hv with hv | hv
  ·exact WO.off ht (by rw [hl,hv]) rfl (hd d rfl) fin a hM
  ·exact WO.Ht ht (by rw [hl,hv]) (hd d rfl) fin a hM
 | none=>
  have fin:WO P Q n l [] (fw a n) w:=fin
  rcases hv with hv | hv
  ·exact WO.LP ht (by rw [hl,hv]) rfl fin a hM
  ·exact WO.GJ ht (by rw [hl,hv]) fin a hM
end
def RunOK (P:Program) (shp:TypeId->Option Sh) (n:Nat) (ro:Lv) (o:Oper) (r:RC):Prop:=∀ (G:Gl) (ρ:List RE) (w:World) (F:Fr),G.shp=shp->Rep G ρ (maskH r.σ 0 r.H0) w->cK (cx G ρ w) ρ (cn r.fr0 r.U) F->(∀ p ∈ r.ob,p) ->
 dD P n F w o.op o.type fun u w'=>∃ ρ',Stp ⟨fun i=>bM i r.ch && ro.wr i,fun i=>bM i r.mv && ro.mv i⟩ ρ w ρ' w' /\ Rep G ρ' r.res w' /\ Rt (cx G ρ' w') ρ' r.v u/\∀ p ∈ r.fc,p
def EntOK (P:Program) (shp:TypeId->Option Sh) (n:Nat) (ro:Lv) (o:Oper) (r:RC) (e:Ent) (p:Nat):Prop:=∀ (G:Gl) (ρ:List RE) (w:World) (F:Fr) (S:AH),G.shp=shp->Rep G ρ S w->cK (cx G ρ w) ρ (cn r.fr0 r.U) F->(S[p]?).map kd=(r.H0[p]?).map kd ->
 ∃ w',eO P n F w o.op o.type w' /\ Rep G ρ (S.set p (e.put (getO S p))) w' /\ Stp ro ρ w ρ w'
structure RcOK (P:Program) (shp:TypeId->Option Sh) (n:Nat) (ro:Lv) (l:List Oper) (rs:List RC) (o:Oper) (i:Nat) (r:RC):Prop where
 dst:r.dst=o.dst
 dn:∀ d,o.dst=some d->Nat.blt d n=true
 st:r.on=true->isSt o.op=true->o.dst=none
 run:r.on=true->(r.ent=none/\RunOK P shp n ro o r)\/∃ e p,r.ent=some e/\r.ch=[p]/\r.mv=[]/\r.v = .un/\r.fc=[]/\r.res.length=r.base/\isSt o.op=true/\EntOK P shp n ro o r e p
 off:r.on=false->r.ch=[]/\r.mv=[]/\r.σ=[]/\r.res=maskH [] 0 r.H0/\r.ent=none/\r.v = .un/\r.fc=[]
 gd:(o.guard=none/\r.on=true)\/∃ j wt t,o.guard=some (j,wt)/\idst l j=some t/\t ∈ r.U/\((∃ rj,rs[j]? = some rj/\j<i/\rj.on=false/\r.on=false)\/∃ b,lookA r.fr0 t=some (one (.bool (.lit b)))/\r.on=(b == wt))
theorem Az {a b:RC} (h:okI a b=true):okI b a=true:=by
 have hd:disj a.ch b.ch=true->disj b.ch a.ch=true:=fun h=>bZ.2 fun i hi hb=>bZ.1 h i hb hi
 unfold okI at h ⊢
 cases ha:a.ent <;> cases hb:b.ent <;> rw [ha,hb] at h <;> simp only at h ⊢ <;> first | exact hd h | skip
 simp only [Bool.or_eq_true,Bool.not_eq_true',decide_eq_false_iff_not] at h ⊢
 exact h.imp hd fun h e=>h e.symm
theorem uj {m:Nat} {b:RC}:∀ {l:List RC} {k:Nat},vH m b k l=true->∀ i a,l[i]? = some a->bitN m (k+i)=true\/(OkD a b/\OkD b a/\okI a b=true)
 | [],_,_,i,a,h=>by simp at h
 | x :: r,k,h,i,a,ha=>by
  simp only [vH,Bool.and_eq_true,Bool.or_eq_true] at h
  cases i with
  | zero=>
   simp at ha; subst ha
   rw [Nat.add_zero]
   exact h.1.imp id fun ⟨⟨h1,h2⟩,h3⟩=>⟨wT h1,wT h2,h3⟩
  | succ i=>
   have:=uj h.2 i a (by simpa using ha)
   rwa [show k+1+i=k+(i+1) by omega] at this
theorem pj {b:RC}:∀ {l:List RC},q_ b l=true->∀ a ∈ l,∀ d,a.dst=some d->b.dst≠some d
 | [],_,a,h,_,_=>by simp at h
 | x :: r,h,a,ha,d,hd=>by
  simp only [q_,Bool.and_eq_true] at h
  rcases List.mem_cons.1 ha with rfl | ha
  ·intro hb
   have:=h.1
   rw [hd,hb] at this
   simp at this
  ·exact pj h.2 a ha d hd
structure OkAt (bef:List Nat) (j:Nat) (b:RC) (done:List RC):Prop where
 fit:b.Fit
 U:∀ i ∈ slotIds b.fr0 b.U,i<b.base
 σ:∀ i ∈ objIds b.H0 b.σ,i<b.base
 σb:∀ i ∈ b.σ,i<b.base
 ch:∀ i ∈ b.ch,i<b.base
 row:∀ i a,done[i]? = some a->bitN (bef.getD j 0) i=true\/(OkD a b/\OkD b a/\okI a b=true)
 dst:∀ a ∈ done,∀ d,a.dst=some d->b.dst≠some d
theorem wh {bef:List Nat}:∀ {rest done:List RC} {j:Nat},done.length=j->uG bef j done rest=true->∀ i b,rest[i]? = some b->OkAt bef (j+i) b ((done++rest).take (j+i))
 | [],_,_,_,_,i,b,h=>by simp at h
 | x :: r,done,j,hl,h,i,b,hb=>by
  simp only [uG,Bool.and_eq_true] at h
  obtain ⟨⟨⟨⟨⟨⟨⟨⟨⟨h1,h2⟩,h3⟩,h4⟩,h4b⟩,h5⟩,h6⟩,h7⟩,h8⟩,h9⟩:=h
  cases i with
  | zero=>
   simp at hb; subst hb
   have e:(done++x :: r).take (j+0)=done:=by rw [Nat.add_zero,<- hl]; simp
   rw [e,Nat.add_zero]
   exact ⟨⟨Nat.eq_of_beq_eq_true h1,Nat.le_of_ble_eq_true h2⟩,ew.1 h3,ew.1 h4,ew.1 h4b,ew.1 h5,fun i a ha=>by
    have:=uj h8 i a ha
    rwa [Nat.zero_add] at this,pj h6⟩
  | succ i=>
   have:=wh (rest:=r) (done:=done++[x]) (j:=j+1) (by simp [hl]) h9 i b (by simpa using hb)
   rw [show j+1+i=j+(i+1) by omega] at this
   simpa using this
section
variable {P:Program} {T:List (Nat × TI)} {shp:TypeId->Option Sh} {n:Nat} {ro:Lv} {l:List Oper}
def Ot (c:Cx) (ρ:List RE) (n:Nat) (fr:AFr) (a:Act):Prop:=∀ t v,lookA fr t=some v->t<n/\Rt c ρ v (a.tmps.getD t undef)
def EA (G:Gl) (ro:Lv) (ρ0:List RE) (w0:World) (n:Nat) (q0:AFr × AH) (rs:List RC) (s:Nat->Bool) (a:Act) (w:World):Prop:=
 ∃ ρ,Stp ro ρ0 w0 ρ w/\Rep G ρ (fa s 0 rs q0).2 w/\Ot (cx G ρ w) ρ n (fa s 0 rs q0).1 a/\a.defers=[]/\a.tmps.size=n/\∀ k r,rs[k]? = some r->s k=true->(∀ p ∈ r.fc,p)/\(r.on=false->∀ d,r.dst=some d->a.tmps.getD d undef=undef)
def rv (a:Act):AFr->Fr
 | []=>[]
 | (t,_) :: r=>(t,a.tmps.getD t undef) :: rv a r
theorem kr {a:Act} {t:Nat} {v:Value}:∀ {fr:AFr},look (rv a fr) t=some v->v=a.tmps.getD t undef/\∃ tv,lookA fr t=some tv
 | [],h=>by cases h
 | (i,x) :: r,h=>by
  simp only [rv,aY] at h
  rw [cz]
  by_cases hi:i=t
  ·subst hi; rw [if_pos rfl] at h ⊢; cases h; exact ⟨rfl,_,rfl⟩
  ·rw [if_neg hi] at h ⊢; exact kr h
theorem fV {fr:AFr} {t:Nat} {tv:TV}:∀ {U:List Nat},lookA (cn fr U) t=some tv->t ∈ U/\lookA fr t=some tv
 | [],h=>by cases h
 | u :: r,h=>by
  simp only [cn] at h
  split at h
  ·rename_i v hv
   rw [cz] at h
   by_cases hi:u=t
   ·subst hi; rw [if_pos rfl] at h; cases h; exact ⟨by simp,hv⟩
   ·rw [if_neg hi] at h
    obtain ⟨h1,h2⟩:=fV h; exact ⟨by simp [h1],h2⟩
  ·obtain ⟨h1,h2⟩:=fV h; exact ⟨by simp [h1],h2⟩
theorem iu {fr:AFr} {q:Nat × TV}:∀ {U:List Nat},q ∈ cn fr U->q.1 ∈ U/\lookA fr q.1=some q.2
 | [],h=>by simp [cn] at h
 | u :: r,h=>by
  simp only [cn] at h
  split at h
  ·rename_i v hv
   rcases List.mem_cons.1 h with rfl | h
   ·exact ⟨by simp,hv⟩
   ·obtain ⟨h1,h2⟩:=iu h; exact ⟨by simp [h1],h2⟩
  ·obtain ⟨h1,h2⟩:=iu h; exact ⟨by simp [h1],h2⟩
theorem me {c:Cx} {ρ:List RE} {a:Act}:∀ {fr:AFr},(∀ q ∈ fr,Rt c ρ q.2 (a.tmps.getD q.1 undef))->cK c ρ fr (rv a fr)
 | [],_=>.nil
 | (t,v) :: r,h=>.cons ⟨rfl,h (t,v) (by simp)⟩ (me fun q hq=>h q (by simp [hq]))
theorem jr {a:Act} {d:Option Nat} {u:Value} (h:a.defers=[]) (hs:a.tmps.size=n):(a.put d u).defers=[]/\(a.put d u).tmps.size=n:=by cases d <;> simp [Act.put,h,hs]
theorem yc {mv:List Nat} {v:TV}:killTV mv v=v.mapA (AV.bN mv):=by
 cases mv with
 | cons _ _=>rfl
 | nil=>
  have e:∀ a:AV,a.bN []=a:=fun a=>eb (by simp)
  cases v with
  | one t=>exact congrArg TV.one (nv fun a _=>e a).symm
  | tup l=>exact congrArg TV.tup (qJ fun t _ a _=>e a).symm
  | un=>rfl
theorem Rt.BI {c c':Cx} {ρ ρ':List RE} {mv:List Nat} (hg:∀ a v,Rd c ρ a v->Rd c' ρ' (AV.bN mv a) v) {t:TV} {v:Value} (h:Rt c ρ t v):Rt c' ρ' (killTV mv t) v:=by
 rw [yc]
 cases t with
 | one t=>exact pP hg h
 | tup l=>obtain ⟨vs,e,h⟩:=h; exact ⟨vs,e,xj hg h⟩
 | un=>trivial
theorem Rep.q {G:Gl} {ρ:List RE} {A B:AH} {w:World} (h:Rep G ρ A w) (hl:B.length=A.length) (hq:∀ x:Nat,OOq (B[x]?) (A[x]?)):Rep G ρ B w:=by
 refine ⟨cd (by rw [hl]; exact h.obj.length) fun x o r ho hr=>?_,h.inj,h.bnd,h.z,h.b0,h.tb⟩
 have:=hq x
 rw [ho] at this
 cases hA:A[x]? with
 | none=>rw [hA] at this; cases this
 | some o'=>
  rw [hA] at this
  cases this with
  | some hh=>
   obtain ⟨r',hr',hor⟩:=h.at_ hA
   rw [hr] at hr'; cases hr'
   exact hh.symm.or hor
theorem wz {c:Cx} {ρ:List RE} {b:Bool} {v:Value} (h:Rt c ρ (one (.bool (.lit b))) v):v = .bool b:=by
 have h:Pd c (.bool (.lit b)) v:=h
 cases h; rfl
variable {G:Gl} {ρ0:List RE} {w0:World} {q0:AFr × AH} {rs:List RC}
theorem zK (hG:G.shp=shp) (hro:∀ i,ro.wr i=false\/ro.mv i=false->i<ρ0.length) (hq0:∀ i,i<ρ0.length->(ro.wr i=false\/ro.mv i=false)->i<q0.2.length) (hp:∀ i,∀ j ∈ bA l i,j<i) (hc:dP q0 rs) (hok:uG (fh [] l) 0 [] rs=true) (hlen:rs.length=l.length) (hrc:∀ i o r,l[i]? = some o->rs[i]? = some r->RcOK P shp n ro l rs o i r)
  (hob:∀ i r,rs[i]? = some r->(∀ j r',rs[j]? = some r' -> bitN ((fh [] l).getD i 0) j=true->∀ p ∈ r'.fc,p)->∀ p ∈ r.ob,p)
  {s:Nat->Bool} {a:Act} {w:World} {i:Nat} {o:Oper} (inv:EA G ro ρ0 w0 n q0 rs s a w) (ho:l[i]? = some o) (hsi:s i=false) (hpre:∀ j ∈ bA l i,s j=true) (hcl:∀ k,s k=true->∀ j ∈ bA l k,s j=true) :
  Dp P l.toArray (fun e a' w'=>e = .normal/\EA G ro ρ0 w0 n q0 rs (fun j=>s j || Nat.beq i j) a' w') [o] a w:=by
 obtain ⟨ρ,hS,hR,hf,hdf,hsz,hfc⟩:=inv
 have hil:i<l.length:=(List.getElem?_eq_some_iff.1 ho).1
 obtain ⟨b,hb⟩:∃ b,rs[i]? = some b:=⟨_,List.getElem?_eq_getElem (by omega)⟩
 have hbo:=hrc i o b ho hb
 have okAt:∀ j r,rs[j]? = some r->OkAt (fh [] l) j r (rs.take j):=fun j r hr=>by
  have:=wh (done:=[]) rfl hok j r hr
  simpa using this
 have hbk:=okAt i b hb
 have hbits:∀ j,bitN ((fh [] l).getD i 0) j=true->s j=true:=nU hp hcl i i (Nat.le_refl _) hil hpre
 -- what comes ahead,and behind
 have hbefore:∀ j r,rs[j]? = some r->j<i->s j=true\/(OkD b r/\OkD r b/\okI b r=true):=fun j r hr hj=>by
  rcases hbk.row j r (by rw [List.getElem?_take,if_pos hj]; exact hr) with h | ⟨h1,h2,h3⟩
  ·exact .inl (hbits j h)
  ·exact .inr ⟨h2,h1,Az h3⟩
 have hbehind:∀ j r,rs[j]? = some r->i<j->s j=false\/(OkD b r/\OkD r b/\okI b r=true):=fun j r hr hj=>by
  cases hsj:s j with
  | false=>exact .inl rfl
  | true=>
   right
   rcases (okAt j r hr).row i b (by rw [List.getElem?_take,if_pos hj]; exact hb) with h | ⟨h1,h2,h3⟩
   ·have hjl:j<l.length:=by rw [<- hlen]; exact (List.getElem?_eq_some_iff.1 hr).1
    have:=nU hp hcl j j (Nat.le_refl _) hjl (hcl j hsj) i h
    rw [hsi] at this; cases this
   ·exact ⟨h1,h2,h3⟩
 have hdsts:∀ j r,rs[j]? = some r->i≠j->∀ d,b.dst=some d->r.dst≠some d:=fun j r hr hj d hd=>by
  rcases Nat.lt_or_gt_of_ne hj with h | h
  ·exact (okAt j r hr).dst b (List.mem_of_getElem? (by rw [List.getElem?_take,if_pos h]; exact hb)) d hd
  ·intro hrd
   exact hbk.dst r (List.mem_of_getElem? (by rw [List.getElem?_take,if_pos h]; exact hr)) d hrd hd
 -- the list of records,parted
 have hrs:rs=rs.take i++b :: rs.drop (i+1):=by
  have h1:=(List.getElem?_eq_some_iff.1 hb)
  obtain ⟨h1,h2⟩:=h1
  rw [<- h2,<- List.drop_eq_getElem_cons h1,List.take_append_drop]
 have hti:(rs.take i).length=i:=by
  have:=(List.getElem?_eq_some_iff.1 hb).1
  simp; omega
 generalize hpreD:rs.take i=pre at hrs hti
 generalize hpostD:rs.drop (i+1)=post at hrs
 have hpre_at:∀ j r,pre[j]? = some r->rs[j]? = some r/\j<i:=fun j r h=>by
  have hj:=(List.getElem?_eq_some_iff.1 h).1
  rw [<- hpreD,List.getElem?_take] at h
  split at h
  ·exact ⟨h,‹_›⟩
  ·cases h
 have hpost_at:∀ j r,post[j]? = some r->rs[i+1+j]? = some r:=fun j r h=>by
  rw [<- hpostD,List.getElem?_drop] at h; exact h
 have hcp:dP q0 pre/\dP (prg pre q0) (b :: post):=by rw [hrs] at hc; exact dP.Bu.1 hc
 obtain ⟨hc1,hb1,hb2,hbf,hc2⟩:=hcp
 have hbase:b.base=(prg pre q0).2.length:=by rw [<- hb2]; exact hbf.base
 have hst:∀ s',fa s' 0 rs q0=fa s' (i+1) post (bif s' i then b.app (fa s' 0 pre q0) else b.xt (fa s' 0 pre q0)):=fun s'=>by
  rw [hrs,xh,hti,Nat.zero_add]; rfl
 have hl1:(fa s 0 pre q0).2.length=b.base:=by rw [hbase]; exact pW hc1 rfl
 have hag:Agr b (fa s 0 pre q0) (prg pre q0):=wJ hc1 (fun j r hr=>by
  rw [Nat.zero_add]
  obtain ⟨h1,h2⟩:=hpre_at j r hr
  exact (hbefore j r h1 h2).imp id fun ⟨h3,_,h4⟩=>⟨h3,h4⟩) ⟨rfl,fun _ _=>rfl,fun _ _=>rfl,fun _ _=>rfl⟩
 have hgb:AgrB b (fa s 0 rs q0):=by
  rw [hst s,hsi,cond_false]
  refine sq hbf hc2 (by rw [bR hbf hbase.symm]; exact Nat.le_refl _) ((eu hbf hl1).trans (bR hbf hbase.symm).symm) (fun j r hr=>(hbehind _ r (hpost_at j r hr) (by omega)).imp id fun ⟨h3,_,h4⟩=>⟨h3,h4⟩) ?_
  refine ⟨fun x hx hlt=>?_,fun x hx hlt=>?_,fun t ht=>?_,fun x hx hlt=>?_⟩
  ·rw [eJ hbf hl1,if_pos hlt,hag.ob x hx,hb2]
  ·rw [eJ hbf hl1,if_pos hlt,hag.kd x hx,hb2]
  ·show lookA (fa s 0 pre q0).1 t=_
   rw [hag.sl t ht,hb1]
  ·rw [eJ hbf hl1,if_neg (by omega),if_pos hlt]
 have hrel:Rel b (fa (fun j=>s j || Nat.beq i j) 0 rs q0) (fa s 0 rs q0):=by
  rw [hst s,hst (fun j=>s j || Nat.beq i j),hsi,cond_false]
  have e1:(false || Nat.beq i i)=true:=by simp
  rw [e1,cond_true]
  have ne:∀ j,j≠i->(s j || Nat.beq i j)=s j:=fun j hj=>by
   have:Nat.beq i j=false:=by rw [<- Bool.not_eq_true,Nat.beq_eq]; exact fun e=>hj e.symm
   rw [this,Bool.or_false]
  have e2:fa (fun j=>s j || Nat.beq i j) 0 pre q0=fa s 0 pre q0:=kP fun j _ hj=>ne j (by omega)
  have e3:∀ q,fa (fun j=>s j || Nat.beq i j) (i+1) post q=fa s (i+1) post q:=fun q=>kP fun j hj _=>ne j (by omega)
  rw [e2,e3]
  refine wW hbf hbk.ch hc2 (by rw [bR hbf hbase.symm]; exact Nat.le_refl _) ((eu hbf hl1).trans (bR hbf hbase.symm).symm) (fun j r hr=>⟨hbehind _ r (hpost_at j r hr) (by omega),hdsts _ r (hpost_at j r hr) (by omega)⟩) (yI hbf hl1)
 have hSl:b.res.length<=(fa s 0 rs q0).2.length:=by
  have h1:(fa s 0 rs q0).2.length=(prg rs q0).2.length:=pW hc rfl
  rw [h1,hrs,qM]
  have:=uM hc2
  rw [bR hbf hbase.symm] at this
  exact this
 have hge:q0.2.length<=b.base:=by rw [hbase]; exact uM hc1
 generalize hq:fa s 0 rs q0=q at hR hf hgb hrel hSl
 generalize hq':fa (fun j=>s j || Nat.beq i j) 0 rs q0=q' at hrel
 have part:Part G ρ q.2 w b.base b.res.length:=⟨hR,hbf.le,hSl,hgb.gn⟩
 -- what is masked
 have hmask:maskH b.σ 0 (q.2.take b.base)=maskH b.σ 0 b.H0:=by
  refine List.ext_getElem? fun x=>?_
  rw [jI,jI,List.getElem?_take,Nat.zero_add]
  by_cases hx:x<b.base
  ·rw [if_pos hx]
   by_cases hm:x ∈ b.σ
   ·rw [hgb.ob x hm hx]
   ·simp only [if_neg hm]
    have h1:x<q.2.length:=by have:=hbf.le; omega
    have h2:x<b.H0.length:=by have:=hbf.base; omega
    rw [List.getElem?_eq_getElem h1,List.getElem?_eq_getElem h2]; rfl
  ·rw [if_neg hx,List.getElem?_eq_none (l:=b.H0) (by have:=hbf.base; omega)]
 have hσids:∀ x ∈ b.σ,∀ k ∈ (getO q.2 x).ids,k<b.base:=fun x hx k hk=>by
  have:=hgb.ob x hx (hbk.σb x hx)
  have e:getO q.2 x=getO b.H0 x:=by unfold getO; rw [List.getD_eq_getElem?_getD,List.getD_eq_getElem?_getD,this]
  rw [e] at hk
  exact hbk.σ k (mm hk hx)
 have hslot:∀ t ∈ b.U,∀ v,lookA b.fr0 t=some v->t<n/\Rt (cx G ρ w) ρ v (a.tmps.getD t undef):=fun t ht v hv=>hf t v (by rw [hgb.sl t ht]; exact hv)
 have hslotIds:∀ t ∈ b.U,∀ v,lookA b.fr0 t=some v->∀ k ∈ v.ids,k<b.base:=fun t ht v hv k hk=>hbk.U k (ld hv hk ht)
 have hro':∀ k,ro.wr k=false\/ro.mv k=false->k<b.base:=fun k hk=>Nat.lt_of_lt_of_le (hq0 k (hro k hk) hk) hge
 -- the guard's slot
 have hgs:∀ j wt t,o.guard=some (j,wt)->idst l j=some t->t ∈ b.U->∀ c,lookA b.fr0 t=some (one (.bool (.lit c)))->t<n/\a.tmps.getD t undef = .bool c:=fun j wt t _ _ ht c hc=>by
  obtain ⟨h1,h2⟩:=hslot t ht _ hc
  exact ⟨h1,wz h2⟩
 -- behind it
 have clause:∀ u k r,rs[k]? = some r->k≠i->s k=true->(∀ p ∈ r.fc,p)/\(r.on=false->∀ d,r.dst=some d->(a.put o.dst u).tmps.getD d undef=undef):=fun u k r hr hk hsk=>by
  obtain ⟨h1,h2⟩:=hfc k r hr hsk
  refine ⟨h1,fun hoff d hd=>?_⟩
  have hkl:k<l.length:=by rw [<- hlen]; exact (List.getElem?_eq_some_iff.1 hr).1
  have hrk:=hrc k _ r (List.getElem?_eq_getElem hkl) hr
  have hdn:d<n:=by have:=hrk.dn d (by rw [<- hrk.dst]; exact hd); exact Nat.blt_eq.mp this
  rw [ic hsz hdn,if_neg (fun e=>hdsts k r hr (Ne.symm hk) d (by rw [hbo.dst]; exact e) hd)]
  exact h2 hoff d hd
 have hsne:∀ k,(s k || Nat.beq i k)=true->k≠i->s k=true:=fun k hk hne=>by
  have:Nat.beq i k=false:=by rw [<- Bool.not_eq_true,Nat.beq_eq]; exact fun e=>hne e.symm
  rwa [this,Bool.or_false] at hk
 have fin:∀ u w' ρt,b.ent=none->Stp ⟨fun i=>bM i b.ch && ro.wr i,fun i=>bM i b.mv && ro.mv i⟩ (ρ.take b.base) w ρt w' -> Rep (Gz G (ρ.drop b.res.length)) ρt b.res w' -> Rt (cx (Gz G (ρ.drop b.res.length)) ρt w') ρt b.v u->(∀ p ∈ b.fc,p)->(b.on=false->u=undef)->EA G ro ρ0 w0 n q0 rs (fun j=>s j || Nat.beq i j) (a.put o.dst u) w':=by
  intro u w' ρt hent hSt hRt hv hfcb hoff
  obtain ⟨k1,k2,k3,k4⟩:=part.merge rfl rfl hent hbk.ch hro' hSt hRt hrel.len hrel.ob
  refine ⟨_,hS.trans k2,by rw [hq']; exact k1,fun t v hv'=>?_,(jr hdf hsz).1,(jr hdf hsz).2,fun k r hr hsk=>?_⟩
  ·rw [hq',hrel.sl t] at hv'
   unfold RC.endF at hv'
   by_cases hd:b.dst=some t
   ·rw [if_pos hd] at hv'
    cases hv'
    rw [hbo.dst] at hd
    have htn:t<n:=Nat.blt_eq.mp (hbo.dn t hd)
    rw [ic hsz htn,if_pos hd]
    exact ⟨htn,k4 _ _ hv⟩
   ·rw [if_neg hd,Option.map_eq_some_iff] at hv'
    obtain ⟨v0,h1,rfl⟩:=hv'
    obtain ⟨h2,h3⟩:=hf t v0 h1
    rw [hbo.dst] at hd
    rw [ic hsz h2,if_neg hd]
    exact ⟨h2,h3.BI k3⟩
  ·by_cases hk:k=i
   ·subst hk
    rw [hb] at hr; cases hr
    refine ⟨hfcb,fun ho' d hd=>?_⟩
    rw [hbo.dst] at hd
    rw [ic hsz (Nat.blt_eq.mp (hbo.dn d hd)),if_pos hd]
    exact hoff ho'
   ·exact clause u k r hr hk (hsne k hsk hk)
 cases hon:b.on with
 | false=>
  obtain ⟨e1,e2,e3,e4,e5,e6,e7⟩:=hbo.off hon
  rcases hbo.gd with ⟨_,h2⟩ | ⟨j,wt,t,hg,ht,htU,hcase⟩
  ·rw [hon] at h2; cases h2
  ·have htv:t<n/\(a.tmps.getD t undef = .bool (!wt)\/a.tmps.getD t undef=undef):=by
    rcases hcase with ⟨rj,hrj,hji,hoffj,_⟩ | ⟨c,hc,hb2⟩
    ·have hjl:j<l.length:=by omega
     have hrcj:=hrc j _ rj (List.getElem?_eq_getElem hjl) hrj
     have hdj:rj.dst=some t:=by
      rw [hrcj.dst]
      have:=ht
      rw [fJ,List.getElem?_eq_getElem hjl] at this
      exact this
     have hsj:s j=true:=by
      rcases hbefore j rj hrj hji with h | ⟨h,_,_⟩
      ·exact h
      ·exact absurd htU (h.dst t hdj)
     exact ⟨Nat.blt_eq.mp (hrcj.dn t (by rw [<- hrcj.dst]; exact hdj)),.inr ((hfc j rj hrj hsj).2 hoffj t hdj)⟩
    ·obtain ⟨h1,h2⟩:=hgs j wt t hg ht htU c hc
     refine ⟨h1,.inl ?_⟩
     rw [h2]
     rw [hon] at hb2
     cases c <;> cases wt <;> simp at hb2 ⊢
   refine AA hdf hsz hbo.dn hg ht htv.1 htv.2 ⟨rfl,fin undef w (ρ.take b.base) e5 (Stp.refl _ _ _) ?_ (by rw [e6]; trivial) (by rw [e7]; simp) fun _=>rfl⟩
   have key:maskH b.σ 0 (q.2.take b.base)=b.res:=by rw [hmask,e3,e4]
   have hm:=part.mask hσids
   rw [key] at hm
   exact hm
 | true=>
  have hg:∀ j wt,o.guard=some (j,wt)->∃ t,idst l j=some t/\t<n/\a.tmps.getD t undef = .bool wt:=fun j wt hgd=>by
   rcases hbo.gd with ⟨h1,_⟩ | ⟨j',wt',t,hg,ht,htU,hcase⟩
   ·rw [hgd] at h1; cases h1
   ·rw [hgd] at hg; cases hg
    rcases hcase with ⟨_,_,_,_,h⟩ | ⟨c,hc,hb2⟩
    ·rw [hon] at h; cases h
    ·obtain ⟨h1,h2⟩:=hgs j wt t hgd ht htU c hc
     refine ⟨t,ht,h1,?_⟩
     rw [h2]
     rw [hon] at hb2
     cases c <;> cases wt <;> simp at hb2 ⊢
  have hF:∀ k v,look (rv a (cn b.fr0 b.U)) k=some v->k<n/\a.tmps.getD k undef=v:=fun k v hk=>by
   obtain ⟨h1,tv,h2⟩:=kr hk
   obtain ⟨h3,h4⟩:=fV h2
   exact ⟨(hslot k h3 tv h4).1,h1.symm⟩
  rcases hbo.run hon with ⟨hent,hrun⟩ | ⟨e,p,hent,hch,hmv,hv,hfcb,hres,hst2,hrun⟩
  ·have hy:=hrun (Gz G (ρ.drop b.res.length)) (ρ.take b.base) w (rv a (cn b.fr0 b.U)) hG (by rw [<- hmask]; exact part.mask hσids) (me fun x hx=>by
    obtain ⟨h1,h2⟩:=iu hx
    refine (hslot _ h1 _ h2).2.on part.NF fun k hk r hr _=>?_
    rw [List.getElem?_take,if_pos (hslotIds _ h1 _ h2 k hk)]; exact hr) (hob i b hb fun j r' hr' hbit=>(hfc j r' hr' (hbits j hbit)).1)
   exact vV hdf hsz hF hy hbo.dn (hbo.st hon) hg fun u w' ⟨ρt,h1,h2,h3,h4⟩=>⟨rfl,fin u w' ρt hent h1 h2 h3 h4 fun h=>by rw [hon] at h; cases h⟩
  ·have hpb:p<b.base:=hbk.ch p (by rw [hch]; simp)
   obtain ⟨w',h1,h2,h3⟩:=hrun G ρ w (rv a (cn b.fr0 b.U)) q.2 hG hR (me fun x hx=>by
    obtain ⟨h1,h2⟩:=iu hx
    exact (hslot _ h1 _ h2).2) (hgb.kd p (by rw [hch]; simp) hpb)
   have hdst:=hbo.st hon hst2
   refine vV (Φ:=fun u x=>u=undef/\x=w') hdf hsz hF (.inr ⟨hst2,w',h1,rfl,rfl⟩) hbo.dn (hbo.st hon) hg fun u x ⟨_,hx⟩=>?_
   subst hx
   have hle:=h3.ext.le hR.lo
   refine ⟨rfl,ρ,hS.trans h3,?_,fun t v hv'=>?_,(jr hdf hsz).1,(jr hdf hsz).2,fun k r hr hsk=>?_⟩
   ·rw [hq']
    refine h2.q (by rw [List.length_set]; exact hrel.len) fun x=>?_
    have:=hrel.ob x
    have hpl:p<q.2.length:=by omega
    by_cases hxp:x=p
    ·subst hxp
     rw [List.getElem?_set_self hpl]
     rw [List.getElem?_eq_getElem hpl,Option.map_some,RC.endO,if_neg (by omega),RC.obj,if_pos (by rw [hch]; simp),hent] at this
     rw [ek (List.getElem?_eq_getElem hpl)]
     exact this
    ·rw [List.getElem?_set_ne (fun e=>hxp e.symm)]
     have e9:(q.2[x]?).map (b.endO x)=q.2[x]?:=by
      cases q.2[x]? with
      | none=>rfl
      | some o=>
       rw [Option.map_some,RC.endO,if_neg (by omega),RC.dr (by rw [hch]; simpa using hxp),hmv]
       rfl
     rw [e9] at this
     exact this
   ·rw [hq',hrel.sl t] at hv'
    unfold RC.endF at hv'
    rw [hbo.dst,hdst,if_neg (by simp),hmv] at hv'
    have hv2:lookA q.1 t=some v:=by
     cases hx:lookA q.1 t with
     | none=>rw [hx] at hv'; cases hv'
     | some v0=>rw [hx] at hv'; exact hv'
    obtain ⟨h5,h6⟩:=hf t v hv2
    rw [ic hsz h5,hdst,if_neg (by simp)]
    exact ⟨h5,h6.carry hle (je.refl _)⟩
   ·by_cases hk:k=i
    ·subst hk
     rw [hb] at hr; cases hr
     exact ⟨by rw [hfcb]; simp,fun h=>by rw [hon] at h; cases h⟩
    ·exact clause u k r hr hk (hsne k hsk hk)
end
theorem Rd.qd {c:Cx} {ρ:List RE} {a:AV} {v:Value} (h:Rd c ρ a v):Qd c a v:=fun hp=>(eG hp).1 h
theorem eC {fr:AFr} {t:Nat}:∀ {U:List Nat},t ∈ U->lookA (cn fr U) t=lookA fr t
 | [],h=>by simp at h
 | u :: r,h=>by
  simp only [cn]
  split
  ·rename_i v hv
   rw [cz]
   by_cases hu:u=t
   ·subst hu; rw [if_pos rfl,hv]
   ·rw [if_neg hu]
    refine eC ?_
    rcases List.mem_cons.1 h with rfl | h
    ·exact absurd rfl hu
    ·exact h
  ·rename_i hv
   by_cases hu:u=t
   ·subst hu
    by_cases hr:u ∈ r
    ·exact eC hr
    ·rw [hv]
     cases h2:lookA (cn fr r) u with
     | none=>rfl
     | some x=>exact absurd (fV h2).1 hr
   ·refine eC ?_
    rcases List.mem_cons.1 h with rfl | h
    ·exact absurd rfl hu
    ·exact h
theorem eN {fr:AFr} {U:List Nat} {x:Operand} (h:∀ t ∈ Operand.sl x,t ∈ U):cW (cn fr U) x=cW fr x:=by
 cases x with
 | tmp i=>exact eC (h i (by simp [Operand.sl]))
 | _=>rfl
theorem pc {fr:AFr}:∀ {A B:List Nat},cn fr (A++B)=cn fr A++cn fr B
 | [],_=>rfl
 | a :: r,B=>by
  simp only [List.cons_append,cn,pc (A:=r)]
  split <;> rfl
theorem mz {α β:Type} {R:α->β->Prop}:∀ {a b:List α} {F:List β},All2 R (a++b) F->∃ x y,F=x++y/\All2 R a x/\All2 R b y
 | [],b,F,h=>⟨[],F,rfl,.nil,h⟩
 | p :: a,b,_,h=>by
  cases h with
  | cons h1 h2=>
   obtain ⟨x,y,e,h3,h4⟩:=mz h2
   exact ⟨_ :: x,y,by rw [e]; rfl,.cons h1 h3,h4⟩
theorem CH {A B:Fr} {i:Nat} {v:Value}:look A i=some v->look (A++B) i=some v:=by
 intro h
 induction A with
 | nil=>cases h
 | cons q r ih=>
  obtain ⟨j,u⟩:=q
  rw [List.cons_append,aY]
  rw [aY] at h
  by_cases hj:j=i
  ·rw [if_pos hj] at h ⊢; exact h
  ·rw [if_neg hj] at h ⊢; exact ih h
theorem nS {g:Bool} {v:TV} {K:TV->Prop} (h:split g v K):∃ v',K v' /\ ∀ c ρ u,Rt c ρ v u->Rt c ρ v' u:=by
 unfold split at h
 split at h
 ·rename_i b hb
  have:=Option.some.inj (cM hb)
  subst this
  exact ⟨_,h,fun _ _ _ h=>h⟩
 ·rename_i e _ he
  have:=Option.some.inj (cM he)
  subst this
  cases hv:e.val with
  | true=>
   refine ⟨_,h.1 ((BE.dB e true).2 hv),fun c ρ u hu=>?_⟩
   have hu:Pd c (.bool e) u:=hu
   cases hu
   rw [hv]; exact Pd.bool (e:=.lit true)
  | false=>
   refine ⟨_,h.2 ((BE.dB e false).2 hv),fun c ρ u hu=>?_⟩
   have hu:Pd c (.bool e) u:=hu
   cases hu
   rw [hv]; exact Pd.bool (e:=.lit false)
 ·exact ⟨_,h,fun _ _ _ h=>h⟩
section
variable {P:Program} {T:List (Nat × TI)} {shp:TypeId->Option Sh} {O:cO} {n:Nat} {ro:Lv} {l:List Oper}
theorem ug {o:Oper} {fr:AFr} {A B:List Nat} {G:Gl} {ρ:List RE} {w:World} {F:Fr} (hf:cK (cx G ρ w) ρ (cn fr (A++B)) F) {φ:Value->World->Prop} (h:∀ FA,cK (cx G ρ w) ρ (cn fr A) FA->dD P n FA w o.op o.type φ):dD P n F w o.op o.type φ:=by
 rw [pc] at hf
 obtain ⟨FA,FB,rfl,h1,_⟩:=mz hf
 exact dD.sub (fun a ha=>⟨ha.1,ha.2.1,fun i v hv=>ha.2.2 i v (CH hv)⟩) (h FA h1)
theorem pure_run {o:Oper} {fr:AFr} {H:AH} {A B σ:List Nat} {v v':TV} {ob fc:List Prop} (hv:∀ c ρ u,Rt c ρ v u->Rt c ρ v' u)
  (h:∀ (G:Gl) (ρ:List RE) (w:World) (F:Fr),G.shp=shp->Rep G ρ (maskH σ 0 H) w->cK (cx G ρ w) ρ (cn fr A) F->(∀ p ∈ ob,p)->Yields P n F w o.op o.type fun u w'=>Kp [] w w' /\ Rt (cx G ρ w') ρ v u/\∀ p ∈ fc,p) (b:Nat) :
  RunOK P shp n ro o ⟨true,o.dst,v',A++B,σ,[],[],b,maskH σ 0 H,none,ob,fc,fr,H⟩:=by
 intro G ρ w F hG hR hf hob
 refine ug hf fun FA hfA=>.inl ((h G ρ w FA hG hR hfA hob).mono fun u w' ⟨h1,h2,h3⟩=>⟨ρ,Stp.kp hR h1,hR.kp h1,hv _ _ _ h2,h3⟩)
theorem Bz {c:Cx} {ρ:List RE} {H:AH}:∀ {asx:List AV} {us:List Value},(∀ i,i ∉ dk asx)->All2 (Rd c ρ) asx us->All2 (Qd c) (vI H asx) us
 | [],_,_,h=>by cases h; exact .nil
 | a :: r,_,hn,h=>by
  cases h with
  | cons h1 h2=>
   have hr:∀ i,i ∉ dk r:=fun i hi=>hn i (by cases a <;> simp [dk,hi])
   refine .cons ?_ (Bz hr h2)
   have e:a.vw H=a:=by
    cases a with
    | own i=>exact absurd (by simp [dk]) (hn i)
    | sub i _ _=>exact absurd (by simp [dk]) (hn i)
    | _=>rfl
   rw [e]; exact Rd.qd h1
theorem Dk (hT:bn P shp T) {G:Gl} {ρ:List RE} {w:World} {F:Fr} {fm:AFr} {Hm:AH} {op:Op} {ty:TypeId} {r:PR} (hG:G.shp=shp) (hR:Rep G ρ Hm w) (hf:cK (cx G ρ w) ρ fm F) (h:Bf T fm Hm op=some r):Yields P n F w op ty fun u w'=>Kp [] w w' /\ Rt (cx G ρ w') ρ r.v u/\∀ p ∈ r.fc,p:=by
 subst hG
 unfold Bf at h
 split at h
 ·rename_i t m parts
  split at h
  ·rename_i e s sz z l hft hl
   split at h
   ·rename_i xs hown hel
    split at h
    ·rename_i hck
     cases h
     simp only [Bool.and_eq_true] at hck
     have hck:=hck.1
     have hm:=Nat.eq_of_beq_eq_true hck.1.1
     have hsm:=Nat.le_of_ble_eq_true hck.1.2
     have hbm:=Nat.le_of_ble_eq_true hck.2
     obtain ⟨hu,hs⟩:=(hT _ _ hft).2
     obtain ⟨hshp,⟨zz,hz,hzb⟩,_⟩:=hs s rfl
     have hsize:(P.info? e).map (·.size)=some s.size:=by
      cases hq:P.info? e with
      | none=>simp [hq] at hz
      | some i=>simp only [hq,Option.map_some,Option.some.injEq,Prod.mk.injEq] at hz ⊢; exact hz.2.1
     obtain ⟨pv,h1,h2⟩:=iq hf hl
     obtain ⟨vss,h3,h4,h5,h6⟩:=kH hel h2 fun p hp us hus=>Bz (fun i hi=>by
      have:=mA hp hi
      rw [hown] at this; simp at this) hus
     have hrun:=R.buildSlice (P:=P) (n:=n) (F:=F) (w:=w) (ty:=ty) (m:=m) hu hsize (wc hz) h1 h3 h4 (by omega) hsm
     have e0:parts.toList.toArray=parts:=by simp
     rw [e0] at hrun
     have hk:=Kp.alloc w (.cells vss.flatten.toArray e)
     have hml:m<=maxLen:=by
      have:=Nat.mul_le_mul_left m (gY s)
      simp only [maxLen]; omega
     have hpd:Pds (cx G ρ (w.alloc (.cells vss.flatten.toArray e))) (xs.flatMap (cellsOf s)) vss.flatten:=h6.carry (Kp.le hk)
     refine .inl ⟨_,_,hrun,hk,?_,by simp⟩
     show Pd _ _ _
     rw [<- hm]
     refine .fz (Nat.le_refl _) (by omega) (by rw [hm]; exact hbm) hpd (.inr ⟨_,rfl,⟨⟨by simp,fun ⟨i,r,q1,q2⟩=>by have:=(hR.bnd i r _ q1 q2).2.1; simp at this,fun hz=>by have:=hR.z _ hz; simp at this⟩,.inr ⟨_,e,(0,0),heap_alloc_new w _,hshp,fun _=>rfl⟩⟩,?_⟩)
     exact bU (sp:=[]) (by rw [List.append_nil]; exact heap_alloc_new w _)
    ·cases h
   ·cases h
  ·cases h
 ·cases h
theorem zM (hT:bn P shp T) {o:Oper} {fr:AFr} {H:AH} {B:List Nat} {id:Nat} {e:Ent} (h:IA T ro fr H o.op=some (id,e)) (b:Nat) (res:AH) :
  EntOK P shp n ro o ⟨true,none,.un,fq o.op++B,[],[id],[],b,res,some e,[],[],fr,H⟩ e id/\isSt o.op=true:=by
 unfold IA at h
 split at h
 ·rename_i t x y z hop
  have hsl:fq o.op=Operand.sl x++Operand.sl y++Operand.sl z:=by rw [hop]; rfl
  have hmx:∀ t' ∈ Operand.sl x,t' ∈ fq o.op++B:=fun t' h=>by rw [hsl]; simp [h]
  have hmy:∀ t' ∈ Operand.sl y,t' ∈ fq o.op++B:=fun t' h=>by rw [hsl]; simp [h]
  have hmz:∀ t' ∈ Operand.sl z,t' ∈ fq o.op++B:=fun t' h=>by rw [hsl]; simp [h]
  refine ⟨?_,by rw [hop]; rfl⟩
  intro G ρ w F S hG hR hf hkd
  subst hG
  have hf:cK (cx G ρ w) ρ (cn fr (fq o.op++B)) F:=hf
  have hkd:(S[id]?).map kd=(H[id]?).map kd:=hkd
  rw [hop]
  -- what a step on the map's block leaves
  have fin:∀ (g:Nat) (o':AO) (w':World),ρ[id]? = some (.blk g)->(∃ o0,S[id]? = some o0)->Kp [g] w w' -> ro.wr id=true->OR (cx G ρ w') ρ o' (.blk g)->Rep G ρ (S.set id o') w' /\ Stp ro ρ w ρ w':=fun g o' w' hg ⟨o0,ho0⟩ hkp hw ho'=>by
   have hput:=hR.put ho0 hg rfl hkp ho'
   refine ⟨hput.1,hput.2,fun _ _ _ h=>h,fun j r' hj hr'=>⟨hr',fun gx hgx=>hkp.block gx (hR.bnd j r' gx hr' hgx).2.1 ?_⟩,fun _ _ h=>h⟩
   simp only [List.mem_singleton]
   rintro rfl
   have:=hR.inj j id _ _ _ hr' hg hgx rfl
   subst this; rw [hw] at hj; cases hj
  have hext:∀ (g:Nat) (w':World),ρ[id]? = some (.blk g)->Kp [g] w w' -> (cx G ρ w).le (cx G ρ w'):=fun g w' hg hkp=>(show Ext ρ w ρ w' from ⟨hkp.os,hkp.tape,hkp.output,hkp.size,fun b hb hl=>⟨hl,hkp.block b hb (by
   simp only [List.mem_singleton]
   rintro rfl
   exact hl ⟨id,_,hg,rfl⟩)⟩⟩).le hR.lo
  split at h
  ·rename_i s id' k v hft hx hy hz
   split at h
   ·rename_i s' f x' hgo hown hof
    split at h
    ·rename_i hck
     cases h
     simp only [Bool.and_eq_true,decide_eq_true_eq] at hck
     obtain ⟨⟨rfl,hform⟩,hw⟩:=hck
     obtain ⟨hm,hk,_⟩:=(hT _ _ hft).2
     rw [<- eN hmx] at hx; rw [<- eN hmy] at hy; rw [<- eN hmz] at hz
     obtain ⟨va,h1,g,hg,rfl⟩:=aK hf hx
     obtain ⟨vb,h3,h4⟩:=aK hf hy
     cases h4 with | int=>
     obtain ⟨vz,h5,h6⟩:=aK hf hz
     have hHs:=bG hgo (by simp)
     rw [hHs] at hkd
     obtain ⟨o0,ho0,hk0⟩:=Option.map_eq_some_iff.1 hkd
     have hgo0:=ek ho0
     obtain ⟨r',hr',hor⟩:=hR.at_ ho0
     rw [hg] at hr'; cases hr'
     cases o0 with
     | mapo s2 f2=>
      have hk0:(some (some s2):Option (Option Sh))=some (some s'):=hk0
      have e3:s2=s':=Option.some.inj (Option.some.inj hk0)
      subst e3
      obtain ⟨g',e,a,c,k1,k2,k3⟩:=hor
      cases e
      obtain ⟨w',a'',c',hsk,hkp,hg',hl',hget⟩:=Fu (P:=P) (n:=n) (ty:=o.type) h1 h3 h5 hm hk k1 k2
      have hle:=hext g w' hg hkp
      have hV:V1 (cx G ρ w') s2 x' vz:=by
       cases v with
       | c a=>
        have h6:Rd (cx G ρ w) ρ a vz:=h6
        have hp:=aW (vs:=[vz]) hof (.cons (Rd.qd h6) .nil)
        exact ⟨[vz],hp.carry hle,.inr ⟨by simpa [jA] using hform,rfl⟩⟩
       | agg l=>
        obtain ⟨us,e,h6⟩:=h6
        have hp:=aW hof (h6.imp fun _ _ h=>Rd.qd h)
        exact ⟨us,hp.carry hle,.inl ⟨hform,e⟩⟩
      obtain ⟨j1,j2⟩:=fin g (.mapo s2 fun j=>if j=k then some x' else f2 j) w' hg ⟨_,ho0⟩ hkp hw ⟨g,rfl,a'',c',hg',hl',fun q=>by
       rw [hget q]
       show VO _ _ _ (if q=k then some x' else f2 q)
       by_cases hq:q=k
       ·rw [if_pos hq,if_pos hq]; exact hV
       ·rw [if_neg hq,if_neg hq]
        have k4:=k3 q
        cases hgm:getM q a.toList <;> cases hfk:f2 q <;> rw [hgm,hfk] at k4
        ·trivial
        ·exact k4
        ·exact k4
        ·exact V1.carry k4 hle⟩
      refine ⟨w',hsk.1,?_,j2⟩
      rw [hgo0]
      simpa only [Ent.put,dif_pos] using j1
     | mapf l=>cases hk0
     | _=>cases hk0
    ·cases h
   ·cases h
  ·rename_i id' k a hft hx hy hz
   split at h
   ·rename_i l hgo hw
    cases h
    obtain ⟨hm,hk,_⟩:=(hT _ _ hft).2
    rw [<- eN hmx] at hx; rw [<- eN hmy] at hy; rw [<- eN hmz] at hz
    obtain ⟨va,h1,g,hg,rfl⟩:=aK hf hx
    obtain ⟨vb,h3,h4⟩:=aK hf hy
    cases h4 with | int=>
    obtain ⟨vz,h5,h6⟩:=aK hf hz
    have hHs:=bG hgo (by simp)
    rw [hHs] at hkd
    obtain ⟨o0,ho0,hk0⟩:=Option.map_eq_some_iff.1 hkd
    have hgo0:=ek ho0
    obtain ⟨r',hr',hor⟩:=hR.at_ ho0
    rw [hg] at hr'; cases hr'
    cases o0 with
    | mapf l2=>
     obtain ⟨g',e,a',c,k1,k2,k3⟩:=hor
     cases e
     obtain ⟨w',a'',c',hsk,hkp,hg',hl',hget⟩:=Fu (P:=P) (n:=n) (ty:=o.type) h1 h3 h5 hm hk k1 k2
     have hle:=hext g w' hg hkp
     obtain ⟨j1,j2⟩:=fin g (.mapf ((k,a) :: l2)) w' hg ⟨_,ho0⟩ hkp hw ⟨g,rfl,a'',c',hg',hl',fun q=>by
      rw [hget q]
      simp only [lookF]
      by_cases hq:q=k
      ·rw [if_pos hq,if_pos hq]; exact Rd.carry h6 hle (je.refl _)
      ·rw [if_neg hq,if_neg hq]
       have k4:=k3 q
       cases hgm:getM q a'.toList <;> cases hfk:lookF q l2 <;> rw [hgm,hfk] at k4
       ·trivial
       ·exact k4
       ·exact k4
       ·exact Rd.carry k4 hle (je.refl _)⟩
     refine ⟨w',hsk.1,?_,j2⟩
     rw [hgo0]
     exact j1
    | mapo s f=>cases hk0
    | _=>cases hk0
   ·cases h
  ·cases h
 ·cases h
theorem tX (hT:bn P shp T) (hO:bk P shp O) {fm:AFr} {Hm:AH} {op:Op} {x:XR}:∀ {l:List (List Nat × List Nat)},Ed T O ro fm Hm op l=some x->∀ (G:Gl) (ρ:List RE) (w:World) (F:Fr) (ty:TypeId),G.shp=shp->Rep G ρ Hm w->cK (cx G ρ w) ρ fm F->(∀ p ∈ x.ob,p) ->
  dD P n F w op ty fun u w'=>∃ ρ',Stp ⟨fun i=>bM i x.ch && ro.wr i,fun i=>bM i x.mv && ro.mv i⟩ ρ w ρ' w' /\ Rep G ρ' x.res w' /\ Rt (cx G ρ' w') ρ' x.v u/\∀ p ∈ x.fc,p
 | [],h,_,_,_,_,_,_,_,_,_=>by cases h
 | (ch,mv) :: r,h,G,ρ,w,F,ty,hG,hR,hf,hob=>by
  simp only [Ed] at h
  split at h
  ·rename_i q hq
   cases h
   subst hG
   have:=zU (n:=n) (ty:=ty) hT hO hR hf hq hob
   have key:∀ u w',ee G ⟨fun i=>bM i ch && ro.wr i,fun i=>bM i mv && ro.mv i⟩ ρ w q F u w' -> ∃ ρ',Stp ⟨fun i=>bM i ch && ro.wr i,fun i=>bM i mv && ro.mv i⟩ ρ w ρ' w' /\ Rep G ρ' q.H w' /\ Rt (cx G ρ' w') ρ' q.v u/\∀ p ∈ q.fc,p:=fun u w' ⟨ρ',h1,h2,_,h3,h4⟩=>⟨ρ',h1,h2,h3,h4⟩
   rcases this with h | ⟨h0,w',h1,h2⟩
   ·exact .inl (h.mono key)
   ·exact .inr ⟨h0,w',h1,key _ _ h2⟩
  ·exact tX hT hO h G ρ w F ty hG hR hf hob
theorem RcOK.ext {rs rs':List RC} {o:Oper} {i:Nat} {r:RC} (h:RcOK P shp n ro l rs o i r) (hi:∀ j,j<i->rs'[j]? = rs[j]?):RcOK P shp n ro l rs' o i r:=
 ⟨h.dst,h.dn,h.st,h.run,h.off,h.gd.imp id fun ⟨j,wt,t,h1,h2,h3,h4⟩=>⟨j,wt,t,h1,h2,h3,h4.imp (fun ⟨rj,k1,k2,k3,k4⟩=>⟨rj,by rw [hi j k2]; exact k1,k2,k3,k4⟩) id⟩⟩
theorem mO:∀ {rs:List RC} {j:Nat},IM rs j=false->∃ r,rs[j]? = some r/\r.on=false/\j<rs.length
 | [],_,h=>by cases h
 | r :: _,0,h=>⟨r,rfl,h,by simp⟩
 | r :: rs,j+1,h=>by
  obtain ⟨r',h1,h2,h3⟩:=mO (rs:=rs) h
  exact ⟨r',by simpa using h1,h2,by simpa using h3⟩
def Chain0:AFr × AH->List RC->Prop
 | _,[]=>True
 | q,r :: rs=>r.fr0=q.1/\r.H0=q.2/\Chain0 (r.app q) rs
theorem Chain0.Bu:∀ {a b:List RC} {p:AFr × AH},Chain0 p (a++b)↔Chain0 p a/\Chain0 (prg a p) b
 | [],b,p=>by simp [Chain0,prg]
 | r :: a,b,p=>by simp only [List.cons_append,Chain0,prg,Chain0.Bu (a:=a),and_assoc]
theorem Chain0.fit:∀ {rs:List RC} {p:AFr × AH},Chain0 p rs->(∀ r ∈ rs,r.Fit)->dP p rs
 | [],_,_,_=>trivial
 | r :: rs,_,h,hf=>⟨h.1,h.2.1,hf r (by simp),h.2.2.fit fun x hx=>hf x (by simp [hx])⟩
structure Walk (P:Program) (shp:TypeId->Option Sh) (n:Nat) (ro:Lv) (l:List Oper) (q0:AFr × AH) (i:Nat) (done:List RC) (q:AFr × AH):Prop where
 len:done.length=i
 ch:Chain0 q0 done
 st:prg done q0=q
 ok:∀ j o r,l[j]? = some o->done[j]? = some r->RcOK P shp n ro l done o j r
theorem Walk.next {q0 q:AFr × AH} {i:Nat} {done:List RC} (h:Walk P shp n ro l q0 i done q) {o:Oper} (ho:l[i]? = some o) {r:RC} (h1:r.fr0=q.1) (h2:r.H0=q.2) (hr:RcOK P shp n ro l done o i r):Walk P shp n ro l q0 (i+1) (done++[r]) (r.app q):=by
 have hpre:∀ j,j<i->(done++[r])[j]? = done[j]?:=fun j hj=>List.getElem?_append_left (by rw [h.len]; exact hj)
 refine ⟨by simp [h.len],Chain0.Bu.2 ⟨h.ch,by rw [h.st]; exact ⟨h1,h2,trivial⟩⟩,by rw [qM,h.st]; rfl,fun j o' r' hj hr'=>?_⟩
 by_cases hji:j<i
 ·rw [hpre j hji] at hr'
  exact (h.ok j o' r' hj hr').ext fun k hk=>hpre k bt
 ·have hjl:=(List.getElem?_eq_some_iff.1 hr').1
  simp [h.len] at hjl
  have e:j=i:=by omega
  subst e
  rw [List.getElem?_append_right (by rw [h.len]; exact Nat.le_refl _),h.len,Nat.sub_self] at hr'
  simp at hr'; subst hr'
  rw [ho] at hj; cases hj
  exact hr.ext hpre
theorem ud {bef:List Nat}:∀ {rest done:List RC} {j:Nat},uG bef j done rest=true->∀ r ∈ rest,r.Fit
 | [],_,_,_,r,h=>by simp at h
 | x :: rest,done,j,h,r,hr=>by
  simp only [uG,Bool.and_eq_true] at h
  obtain ⟨⟨⟨⟨⟨⟨⟨⟨⟨h1,h2⟩,_⟩,_⟩,_⟩,_⟩,_⟩,_⟩,_⟩,h9⟩:=h
  rcases List.mem_cons.1 hr with rfl | hr
  ·exact ⟨Nat.eq_of_beq_eq_true h1,Nat.le_of_ble_eq_true h2⟩
  ·exact ud h9 r hr
theorem KJ {H:AH} {fr:AFr} {op:Op} {r:PR} (h:pv T O H fr op=some r):isSt op=false:=by cases op <;> first | rfl | simp [pv] at h
theorem Ej {H:AH} {fr:AFr} {op:Op} {r:PR} (h:Bf T fr H op=some r):isSt op=false:=by cases op <;> first | rfl | simp [Bf] at h
theorem Fb {H:AH} {fr:AFr} {op:Op} {r:MpR} (h:mapA T H fr op=some r):isSt op=false:=by cases op <;> first | rfl | simp [mapA] at h
theorem iN {j:Nat} {wt:Bool} {t:Nat} (h:idst l j=some t):t ∈ eA l (some (j,wt)):=by simp [eA,h]
theorem BA {fr:AFr} {done:List RC} {g:Option (Nat × Bool)} (h:na l fr done g=some true):g=none\/∃ j wt t,g=some (j,wt)/\idst l j=some t/\t ∈ eA l g/\∃ b,lookA fr t=some (one (.bool (.lit b)))/\true=(b == wt):=by
 cases g with
 | none=>exact .inl rfl
 | some g=>
  obtain ⟨j,wt⟩:=g
  right
  simp only [na] at h
  split at h
  ·rename_i t ht
   split at h
   ·cases h
   ·rename_i b _ hb
    exact ⟨j,wt,t,rfl,ht,iN ht,b,hb,(Option.some.inj h).symm⟩
   ·cases h
  ·cases h
theorem yh {fr:AFr} {done:List RC} {i:Nat} (hi:done.length=i) {g:Option (Nat × Bool)} (h:na l fr done g=some false):∃ j wt t,g=some (j,wt)/\idst l j=some t/\t ∈ eA l g/\((∃ rj,done[j]? = some rj/\j<i/\rj.on=false/\false=false)\/∃ b,lookA fr t=some (one (.bool (.lit b)))/\false=(b == wt)):=by
 cases g with
 | none=>cases h
 | some g=>
  obtain ⟨j,wt⟩:=g
  simp only [na] at h
  split at h
  ·rename_i t ht
   split at h
   ·rename_i ho
    obtain ⟨r,h1,h2,h3⟩:=mO ho
    exact ⟨j,wt,t,rfl,ht,iN ht,.inl ⟨r,h1,by omega,h2,rfl⟩⟩
   ·rename_i b _ hb
    exact ⟨j,wt,t,rfl,ht,iN ht,.inr ⟨b,hb,(Option.some.inj h).symm⟩⟩
   ·cases h
  ·cases h
theorem drop_cons {i:Nat} {o:Oper} {rest:List Oper} (h:l.drop i=o :: rest):l[i]? = some o/\l.drop (i+1)=rest:=by
 constructor
 ·have:=congrArg (·[0]?) h
  simpa using this
 ·have:=congrArg (List.drop 1) h
  simpa [List.drop_drop,Nat.add_comm] using this
theorem wX (hT:bn P shp T) (hO:bk P shp O) {K:AFr->AH->Prop} {q0:AFr × AH}:∀ (m i:Nat) (rest:List Oper) (fr:AFr) (H:AH) (done:List RC),l.drop i=rest->i<=l.length->gi n rest=true->Walk P shp n ro l q0 i done (fr,H)->Dq T O ro l K m i rest fr H done ->
  ∃ rs,Walk P shp n ro l q0 l.length rs (prg rs q0)/\Nf l rs=true/\oa (Kk rs (fh [] l) rs) (iz (JB rs) (K (nt (prg rs q0).1 []) (prg rs q0).2))
 | 0,_,_,_,_,_,_,_,_,_,h=>h.elim
 | m+1,i,[],fr,H,done,hd,hil,_,hw,h=>by
  simp only [Dq] at h
  have hi:i=l.length:=by
   have:=congrArg List.length hd
   simp at this; omega
  subst hi
  split at h
  ·rename_i hok
   refine ⟨done,by rw [hw.st]; exact hw,hok,?_⟩
   rw [hw.st]; exact h
  ·exact h.elim
 | m+1,i,o :: rest,fr,H,done,hd,hil,hdo,hw,h=>by
  obtain ⟨ho,hd2⟩:=drop_cons hd
  have hil2:i+1<=l.length:=(List.getElem?_eq_some_iff.1 ho).1
  have hdn:∀ d,o.dst=some d->Nat.blt d n=true:=fun d hdd=>gP hdo o (by simp) d hdd
  have hdr:gi n rest=true:=by simp only [gi,Bool.and_eq_true] at hdo; exact hdo.2
  have ih:=fun rc (hrc:RcOK P shp n ro l done o i rc) (h1:rc.fr0=fr) (h2:rc.H0=H) (h:Dq T O ro l K m (i+1) rest (rc.app (fr,H)).1 (rc.app (fr,H)).2 (done++[rc]))=>wX hT hO m (i+1) rest _ _ _ hd2 hil2 hdr (hw.next ho h1 h2 hrc) h
  simp only [Dq] at h
  split at h
  ·-- it is not run
   rename_i hg
   obtain ⟨j,wt,t,h1,h2,h3,h4⟩:=yh hw.len hg
   exact ih _ ⟨rfl,hdn,(fun h=>by cases h),(fun h=>by cases h),fun _=>⟨rfl,rfl,rfl,rfl,rfl,rfl,rfl⟩,.inr ⟨j,wt,t,h1,h2,h3,h4⟩⟩ rfl rfl h
  ·-- it is run
   rename_i hg
   have hgd:∀ U,(o.guard=none/\true=true)\/∃ j wt t,o.guard=some (j,wt)/\idst l j=some t/\t ∈ U++eA l o.guard/\((∃ rj,done[j]? = some rj/\j<i/\rj.on=false/\true=false)\/∃ b,lookA fr t=some (one (.bool (.lit b)))/\true=(b == wt)):=fun U=>by
    rcases BA hg with h | ⟨j,wt,t,h1,h2,h3,h4⟩
    ·exact .inl ⟨h,rfl⟩
    ·exact .inr ⟨j,wt,t,h1,h2,List.mem_append_right _ h3,.inr h4⟩
   split at h
   ·-- a pick
    rename_i t x y hop
    split at h
    ·rename_i b hlk
     split at h
     ·rename_i v hev
      obtain ⟨v',h,hv⟩:=nS h
      refine ih _ ⟨rfl,hdn,(fun _ hs=>by rw [hop] at hs; cases hs),fun _=>.inl ⟨rfl,?_⟩,(fun h=>by cases h),hgd _⟩ rfl rfl h
      refine pure_run (A:=t :: Operand.sl (cond b x y)) (σ:=[]) (v:=v) hv (fun G ρ w F hG hR hf _=>?_) _
      have e1:lookA (cn fr (t :: Operand.sl (cond b x y))) t=some (one (.bool (.lit b))):=by rw [eC (by simp)]; exact hlk
      obtain ⟨vt,k1,k2⟩:=dL hf e1
      have k2:=wz k2
      subst k2
      rw [<- eN (U:=t :: Operand.sl (cond b x y)) (fun t' ht=>by simp [ht])] at hev
      obtain ⟨u,k3,k4⟩:=aK hf hev
      rw [hop]
      refine .inl ⟨u,w,?_,Kp.refl w,k4,by simp⟩
      cases b with
      | true=>exact R.tg k1 rfl k3
      | false=>exact R.rR k1 rfl k3
     ·exact h.elim
    ·exact h.elim
   ·split at h
    ·-- an entry is put
     rename_i id e hins
     obtain ⟨k1,k2⟩:=zM (P:=P) (n:=n) hT (B:=eA l o.guard) hins H.length (maskH [] 0 H)
     split at h
     ·rename_i rc hdst
      refine ih _ ⟨hdst.symm,hdn,fun _ _=>hdst,fun _=>.inr ⟨e,id,rfl,rfl,rfl,rfl,rfl,by rw [kf],k2,k1⟩,(fun h=>by cases h),hgd _⟩ rfl rfl h
     ·exact h.elim
    ·split at h
     ·-- a map of functions
      rename_i mr hmp
      obtain ⟨v',h,hv⟩:=nS (i_ h)
      refine ih _ ⟨rfl,hdn,(fun _ hs=>by rw [Fb hmp] at hs; cases hs),fun _=>.inl ⟨rfl,?_⟩,(fun h=>by cases h),hgd _⟩ rfl rfl h
      refine pure_run hv (fun G ρ w F hG hR hf _=>?_) _
      subst hG
      obtain ⟨u,j1,j2⟩:=sX (n:=n) (ty:=o.type) hT hR hf hmp
      exact .inl ⟨u,w,j1,Kp.refl w,j2,by simp⟩
     ·split at h
      ·rename_i r hr
       obtain ⟨v',h,hv⟩:=nS h
       have hr0:=hr
       unfold Kw at hr
       dsimp only at hr
       split at hr
       ·rename_i r' hrow
        cases hr
        refine ih _ ⟨rfl,hdn,(fun _ hs=>by rw [Ej hrow] at hs; cases hs),fun _=>.inl ⟨rfl,?_⟩,(fun h=>by cases h),hgd _⟩ rfl rfl h
        exact pure_run hv (fun G ρ w F hG hR hf _=>Dk hT hG hR hf hrow) _
       ·split at hr
        ·rename_i r' hpv
         cases hr
         refine ih _ ⟨rfl,hdn,(fun _ hs=>by rw [KJ hpv] at hs; cases hs),fun _=>.inl ⟨rfl,?_⟩,(fun h=>by cases h),hgd _⟩ rfl rfl h
         exact pure_run hv (fun G ρ w F hG hR hf hob=>by subst hG; exact mG hT hO hR hf hpv hob) _
        ·split at hr
         ·rename_i hst
          refine ih _ ⟨rfl,hdn,(fun _ hs=>by
           unfold D_ at hst
           rw [hs] at hst
           cases hdst:o.dst with
           | none=>rfl
           | some d=>rw [hdst] at hst; cases hst),fun _=>.inl ⟨rfl,?_⟩,(fun h=>by cases h),hgd _⟩ rfl rfl h
          intro G ρ w F hG hR hf hob
          refine ug hf fun FA hfA=>?_
          have hk:=tX (n:=n) hT hO hr G ρ w FA o.type hG hR hfA hob
          have key:∀ u w',(∃ ρ',Stp ⟨fun i=>bM i r.ch && ro.wr i,fun i=>bM i r.mv && ro.mv i⟩ ρ w ρ' w' /\ Rep G ρ' r.res w' /\ Rt (cx G ρ' w') ρ' r.v u/\∀ p ∈ r.fc,p)->∃ ρ',Stp ⟨fun i=>bM i r.ch && ro.wr i,fun i=>bM i r.mv && ro.mv i⟩ ρ w ρ' w' /\ Rep G ρ' r.res w' /\ Rt (cx G ρ' w') ρ' v' u/\∀ p ∈ r.fc,p:=fun u w' ⟨ρ',j1,j2,j3,j4⟩=>⟨ρ',j1,j2,hv _ _ _ j3,j4⟩
          rcases hk with hk | ⟨h0,w',j1,j2⟩
          ·exact .inl (hk.mono key)
          ·exact .inr ⟨h0,w',j1,key _ _ j2⟩
         ·cases hr
      ·exact h.elim
  ·exact h.elim
end
section
variable {P:Program} {T:List (Nat × TI)} {G:Gl} {O:cO} {n k:Nat} {l:List Oper} {ρ:List RE} {H:AH} {fr:AFr} {F:Fr} {ds:List DV} {vs:Nat->Value} {f g:DV->Value->World->Prop}
def kq (ds:List DV) (f:DV->Value->World->Prop):List Sp:=ds.map fun a=>⟨a.deps,[],f a⟩
theorem mh {i:Nat} {a:DV} (h:ds[i]? = some a):spAt (kq ds f) i=⟨a.deps,[],f a⟩:=by
 simp [spAt,kq,List.getD_eq_getElem?_getD,h]
theorem xE {i:Nat}:(spAt (kq ds f) i).deps=((ds[i]?).map DV.deps).getD []:=by
 cases h:ds[i]? with
 | none=>simp [spAt,kq,List.getD_eq_getElem?_getD,h]
 | some a=>rw [mh h]; rfl
theorem Bn {sl:List Nat}:iH l (kq ds f) sl k=iH l (kq ds g) sl k:=by
 simp only [iH,xE]
 simp only [kq,List.length_map]
theorem nJ:∀ {ds:List DV},uy (kq ds f)=[]
 | []=>rfl
 | _ :: r=>nJ (ds:=r)
theorem mB:∀ {ds:List DV} {i:Nat},nT (kq ds f) i=[]
 | [],_=>rfl
 | _ :: r,0=>nJ (ds:=r)
 | _ :: r,i+1=>mB (ds:=r) (i:=i)
theorem wI (h:∀ a u w w',f a u w->Kp [] w w' -> f a u w'):∀ {r:List DV} {i:Nat},jo (kq ds f) i (kq r f)
 | [],_=>trivial
 | a :: r,i=>⟨fun u w w' hv hk=>h a u w w' hv (by rwa [mB] at hk),wI h (r:=r)⟩
theorem BV {Q:List Sp} {w:World}:∀ {r:List Oper} {i:Nat},(∀ j o,r[j]? = some o->∀ vs w1,Kp (nT Q (i+j)) w w1->dX Q vs w1 (spAt Q (i+j)).deps->WO P (lz n (idst l (i+j)) (spAt Q (i+j)).S (spAt Q (i+j)).V w1) n l [o] (cE l F vs (spAt Q (i+j)).deps) w1)->nY P n l Q F w i r
 | [],_,_=>trivial
 | o :: r,i,h=>⟨h 0 o rfl,BV fun j o' ho=>by
  have:=h (j+1) o' (by simpa using ho)
  rwa [show i+(j+1)=i+1+j by omega] at this⟩
theorem oL:∀ {r:List Oper} {p ds:List DV},qF T O H fr r p=some ds->(∃ q,ds=p++q/\q.length=r.length)/\∀ i o,r[i]? = some o->∃ a,ds[p.length+i]? = some a/\mU T O H fr (ds.take (p.length+i)) o=some a
 | [],p,ds,h=>by cases h; exact ⟨⟨[],by simp⟩,fun i o ho=>by simp at ho⟩
 | o :: r,p,ds,h=>by
  simp only [qF] at h
  split at h
  ·rename_i a ha
   obtain ⟨⟨q,h1,h2⟩,h3⟩:=oL h
   refine ⟨⟨a :: q,by rw [h1]; simp,by simp [h2]⟩,fun i o' ho=>?_⟩
   cases i with
   | zero=>
    simp only [List.getElem?_cons_zero,Option.some.injEq] at ho
    subst ho
    refine ⟨a,?_,?_⟩
    ·rw [h1]; simp
    ·have:ds.take (p.length+0)=p:=by rw [h1]; simp
     rw [this]; exact ha
   | succ i=>
    obtain ⟨b,h4,h5⟩:=h3 i o' (by simpa using ho)
    have e:(p++[a]).length+i=p.length+(i+1):=by simp; omega
    rw [e] at h4 h5
    exact ⟨b,h4,h5⟩
  ·cases h
theorem pn {p:List DV} {o:Oper} {a:DV} (h:mU T O H fr p o=some a):o.dst=some a.d/\∃ sl,a.deps=cT sl 0 p:=by
 unfold mU at h
 split at h
 ·rename_i d ch gs hd hc
  rw [hd]
  split at h
  ·split at h
   ·split at h
    ·cases h; exact ⟨rfl,_,rfl⟩
    ·cases h
   ·split at h
    ·cases h; exact ⟨rfl,_,rfl⟩
    ·cases h
  ·cases h
 ·cases h
theorem mu {Q:List Sp} {w:World}:∀ {deps:List Nat},dX Q vs w deps->∀ j ∈ deps,(spAt Q j).V (vs j) w
 | [],_,j,hj=>by simp at hj
 | i :: r,h,j,hj=>by
  rcases List.mem_cons.1 hj with rfl | hj
  ·exact h.1
  ·exact mu h.2 j hj
theorem tZ:∀ {ds:List DV} {i:Nat} {a:DV},ds[i]? = some a->∀ q ∈ a.ob,q ∈ Jv ds
 | [],i,a,h,_,_=>by simp at h
 | b :: r,0,a,h,q,hq=>by simp at h; subst h; exact List.mem_append_left _ hq
 | b :: r,i+1,a,h,q,hq=>List.mem_append_right _ (tZ (ds:=r) (i:=i) (by simpa using h) q hq)
theorem sk:∀ {ds:List DV} {q:Prop},q ∈ Bx ds->∃ (i:Nat) (a:DV),ds[i]? = some a/\q ∈ a.fc
 | [],q,h=>by simp [Bx] at h
 | b :: r,q,h=>by
  rcases List.mem_append.1 h with h | h
  ·exact ⟨0,b,rfl,h⟩
  ·obtain ⟨i,a,h1,h2⟩:=sk h
   exact ⟨i+1,a,by simpa using h1,h2⟩
theorem tG {c:Cx} {D:Fr} (hf:cK c ρ fr F) (hF:∀ i v,look F i=some v->look D i=some v):∀ {r:List DV},(∀ a ∈ r,a.ch=[]->∃ u,look D a.d=some u/\Rt c ρ a.v u)->∃ F',cK c ρ (sg r fr) F' /\ ∀ i v,look F' i=some v->look D i=some v
 | [],_=>⟨F,hf,hF⟩
 | a :: r,h=>by
  obtain ⟨F',h1,h2⟩:=tG hf hF (r:=r) fun b hb=>h b (by simp [hb])
  unfold sg
  split
  ·rename_i hc
   obtain ⟨u,h3,h4⟩:=h a (by simp) hc
   refine ⟨(a.d,u) :: F',.cons ⟨rfl,h4⟩ h1,fun i v hv=>?_⟩
   rw [aY] at hv
   by_cases hi:a.d=i
   ·subst hi; rw [if_pos rfl] at hv; cases hv; exact h3
   ·rw [if_neg hi] at hv; exact h2 i v hv
  ·exact ⟨F',h1,h2⟩
theorem nB {i:Nat}:∀ {deps:List Nat},(∀ j ∈ deps,idst l j≠some i)->look (cE l F vs deps) i=look F i
 | [],_=>rfl
 | j :: r,h=>by
  have ih:=nB (i:=i) (deps:=r) fun j hj=>h j (by simp [hj])
  unfold cE
  split
  ·rename_i d hd
   rw [aY,if_neg (fun e=>h j (by simp) (by rw [hd,e]))]
   exact ih
  ·exact ih
theorem AS {c:Cx} (hf:cK c ρ fr F):fr.map (·.1)=F.map (·.1):=by
 induction hf with
 | nil=>rfl
 | cons h _ ih=>simp [h.1,ih]
end
theorem wN {s:Nat->Bool}:∀ {rs:List RC} {k:Nat} {q:AFr × AH},(∀ i,k<=i->i<k+rs.length->s i=true)->fa s k rs q=prg rs q
 | [],_,_,_=>rfl
 | r :: rs,k,q,h=>by
  simp only [fa,prg]
  rw [h k (Nat.le_refl _) (by simp),cond_true]
  exact wN fun i h1 h2=>h i bt (by simp at h2 ⊢; omega)
theorem rJ:∀ {rs:List RC} {k:Nat} {q:AFr × AH},∃ m,fa (fun _=>false) k rs q=(q.1,q.2++List.replicate m .gone)
 | [],_,q=>⟨0,by simp [fa]⟩
 | r :: rs,k,q=>by
  obtain ⟨m,h⟩:=rJ (rs:=rs) (k:=k+1) (q:=r.xt q)
  refine ⟨(r.res.length - r.base)+m,?_⟩
  simp only [fa,cond_false]
  rw [h]
  simp only [RC.xt,List.append_assoc,List.replicate_append_replicate]
theorem Rep.Ny {G:Gl} {ρ:List RE} {H:AH} {w:World} (h:Rep G ρ H w) (m:Nat):Rep G (ρ++List.replicate m RE.no) (H++List.replicate m .gone) w/\(cx G ρ w).le (cx G (ρ++List.replicate m RE.no) w)/\je ρ (ρ++List.replicate m RE.no)/\∀ ro,Stp ro ρ w (ρ++List.replicate m RE.no) w:=by
 have key:∀ i r,(ρ++List.replicate m RE.no)[i]? = some r->r≠RE.no->ρ[i]? = some r:=fun i r hi hne=>by
  by_cases hl:i<ρ.length
  ·rw [List.getElem?_append_left hl] at hi; exact hi
  ·rw [List.getElem?_append_right (by omega),List.getElem?_replicate] at hi
   split at hi
   ·cases hi; exact absurd rfl hne
   ·cases hi
 have hlv:∀ b,live (ρ++List.replicate m RE.no) b->live ρ b:=fun b ⟨i,r,h1,h2⟩=>⟨i,r,key i r h1 (by rintro rfl; cases h2),h2⟩
 have hext:Ext ρ w (ρ++List.replicate m RE.no) w:=⟨rfl,rfl,rfl,Nat.le_refl _,fun b _ hl=>⟨fun k=>hl (hlv b k),rfl⟩⟩
 have hag:=dH ρ (List.replicate m .no)
 refine ⟨⟨?_,fun i j r r' g h1 h2 h3 h4=>h.inj i j r r' g (key i r h1 (by rintro rfl; cases h3)) (key j r' h2 (by rintro rfl; cases h4)) h3 h4,fun i r g h1 h2=>h.bnd i r g (key i r h1 (by rintro rfl; cases h2)) h2,h.z,h.b0,h.tb.carry (hext.le h.lo)⟩,hext.le h.lo,hag,fun ro=>⟨hext,fun i r _ hr=>?_,fun i r _ hr=>⟨?_,fun _ _=>rfl⟩,fun i g hg=>hag i _ hg (by simp)⟩⟩
 ·refine All2.append (cd h.obj.length fun i o r ho hr=>?_) ?_
  ·obtain ⟨r',hr',hor⟩:=h.at_ ho
   rw [hr] at hr'; cases hr'
   exact hor.carry (hext.le h.lo) hag fun _ _=>rfl
  ·refine cd (by simp) fun i o r ho hr=>?_
   rw [List.getElem?_replicate] at ho hr
   by_cases hi:i<m
   ·rw [if_pos hi] at ho hr; cases ho; cases hr; rfl
   ·rw [if_neg hi] at ho; cases ho
 ·rw [List.getElem?_append_left (List.getElem?_eq_some_iff.1 hr).1]; exact hr
 ·rw [List.getElem?_append_left (List.getElem?_eq_some_iff.1 hr).1]; exact hr
theorem jt {t:Nat} {v:TV}:∀ {fr:AFr} {l:List Nat},(t,v) ∈ nt fr l->t ∉ l/\lookA fr t=some v
 | [],_,h=>by simp [nt] at h
 | (i,x) :: r,l,h=>by
  simp only [nt] at h
  cases hm:bM i l <;> rw [hm] at h
  ·rcases List.mem_cons.1 h with e | h
   ·cases e
    refine ⟨fun hl=>?_,by rw [cz,if_pos rfl]⟩
    rw [bw.2 hl] at hm; cases hm
   ·obtain ⟨h1,h2⟩:=jt h
    simp only [List.mem_cons,not_or] at h1
    exact ⟨h1.2,by rw [cz,if_neg (fun e=>h1.1 e.symm)]; exact h2⟩
  ·obtain ⟨h1,h2⟩:=jt h
   refine ⟨h1,?_⟩
   rw [cz,if_neg]
   ·exact h2
   ·rintro rfl; exact h1 (bw.1 hm)
theorem pf {m:Nat} {p:Prop}:∀ {rs:List RC} {k:Nat},p ∈ o_ m k rs->∃ j r,rs[j]? = some r/\bitN m (k+j)=true/\p ∈ r.fc
 | [],_,h=>by simp [o_] at h
 | r :: rs,k,h=>by
  simp only [o_,List.mem_append] at h
  rcases h with h | h
  ·cases hb:bitN m k <;> rw [hb] at h
   ·simp at h
   ·exact ⟨0,r,rfl,hb,h⟩
  ·obtain ⟨j,r',h1,h2,h3⟩:=pf h
   exact ⟨j+1,r',by simpa using h1,by rwa [show k+(j+1)=k+1+j by omega],h3⟩
theorem CR {all:List RC}:∀ {bef:List Nat} {rs:List RC},bef.length=rs.length->(∀ p ∈ Kk all bef rs,p)->∀ i r,rs[i]? = some r->(∀ p ∈ o_ (bef.getD i 0) 0 all,p)->∀ p ∈ r.ob,p
 | _,[],_,_,i,r,h,_=>by simp at h
 | [],_ :: _,hl,_,_,_,_,_=>by simp at hl
 | m :: bef,b :: rs,hl,h,i,r,hr,hf=>by
  simp only [Kk] at h
  cases i with
  | zero=>
   simp at hr; subst hr
   intro p hp
   have h1:=fun q hq=>h q (List.mem_append_left _ hq)
   cases ho:b.ob with
   | nil=>rw [ho] at hp; simp at hp
   | cons x y=>
    rw [ho] at h1
    exact dK.1 (cZ.1 (h1 _ (List.mem_singleton_self _)) hf) p (by rw [<- ho]; exact hp)
  | succ i=>
   exact CR (by simpa using hl) (fun q hq=>h q (List.mem_append_right _ hq)) i r (by simpa using hr) (by simpa using hf)
theorem wv:∀ {rs:List RC} {p:Prop},p ∈ JB rs->∃ (j:Nat) (r:RC),rs[j]? = some r/\p ∈ r.fc
 | [],_,h=>by simp [JB] at h
 | r :: rs,p,h=>by
  simp only [JB,List.mem_append] at h
  rcases h with h | h
  ·exact ⟨0,r,rfl,h⟩
  ·obtain ⟨j,r',h1,h2⟩:=wv h
   exact ⟨j+1,r',by simpa using h1,h2⟩
theorem tf {P:Program} {T:List (Nat × TI)} {O:cO} {G:Gl} {n:Nat} {ro:Lv} {l:List Oper} {ρ0:List RE} {w0:World} {Q:Exit->Act->World->Prop} {id:Nat} (hT:bn P G.shp T) (hO:bk P G.shp O) (hm:P.follows .mixedOrders=true) (hro:∀ i,ro.wr i=false\/ro.mv i=false->i<ρ0.length) {K:AFr->AH->Prop} {fr:AFr} {H:AH} {F:Fr} {w:World} (hd:gi n l=true)
  (h:Hk T O ro l K fr H) (hst:St G ro ρ0 w0 fr H F w) (hK:∀ fr H F w,K fr H->St G ro ρ0 w0 fr H F w->WX Q n .normal F w):WC P Q n (.region id l.toArray true) F w:=by
 obtain ⟨ρ,hS,hR,hf⟩:=hst
 obtain ⟨rs,hw,hok,hgoal⟩:=wX (n:=n) hT hO _ 0 l fr H [] (by simp) (Nat.zero_le _) hd ⟨rfl,trivial,rfl,fun j o r _ hr=>by simp at hr⟩ h
 simp only [Nf,Bool.and_eq_true] at hok
 obtain ⟨⟨hp,hlen⟩,hok⟩:=hok
 have hlen:=Nat.eq_of_beq_eq_true hlen
 have hp:∀ i,∀ j ∈ bA l i,j<i:=fun i j hj=>by have:=ll hp i j hj; omega
 have hc:=hw.ch.fit (ud hok)
 obtain ⟨hobs,hfin⟩:=fk.1 hgoal
 have hbl:(fh [] l).length=rs.length:=by rw [uc,hlen]; simp
 have hq0:∀ i,i<ρ0.length->(ro.wr i=false\/ro.mv i=false)->i<H.length:=fun i hi hh=>by
  rw [hR.obj.length]
  have hr0:=List.getElem?_eq_getElem hi
  rcases hh with hh | hh
  ·exact (List.getElem?_eq_some_iff.1 (hS.pro i _ hh hr0).1).1
  ·exact (List.getElem?_eq_some_iff.1 (hS.loc i _ hh hr0)).1
 intro a ha
 refine JM hm (Inv:=EA G ro ρ0 w0 n (fr,H) rs) hp (fun s a w h=>by obtain ⟨_,_,_,_,h,_⟩:=h; exact h) (fun s a w i o inv ho hsi hpre hcl=>?_) (fun s a w inv hall=>?_) ?_
 ·refine zK rfl hro hq0 hp hc hok hlen hw.ok (fun i r hr hfc=>CR hbl hobs i r hr fun p hp=>?_) inv ho hsi hpre hcl
  obtain ⟨j,r',h1,h2,h3⟩:=pf hp
  rw [Nat.zero_add] at h2
  exact hfc j r' h1 h2 p h3
 ·obtain ⟨ρ',k1,k2,k3,k4,k5,k6⟩:=inv
  rw [wN fun i _ hi=>hall i (by omega)] at k2 k3
  have hk:=cZ.1 hfin fun p hp=>by
   obtain ⟨j,r,h1,h2⟩:=wv hp
   exact (k6 j r h1 (hall j (by have:=(List.getElem?_eq_some_iff.1 h1).1; omega))).1 p h2
  refine hK _ _ (rv a (nt (prg rs (fr,H)).1 [])) w hk ⟨ρ',k1,k2,me fun q hq=>(k3 q.1 q.2 (jt hq).2).2⟩ a ⟨k4,k5,fun i v hv=>?_⟩
  obtain ⟨h1,tv,h2⟩:=kr hv
  have h3:lookA (prg rs (fr,H)).1 i=some tv:=by
   have:∀ {fr:AFr} {l:List Nat},lookA (nt fr l) i=some tv->(i,tv) ∈ nt fr l:=by
    intro fr l
    generalize nt fr l=x
    induction x with
    | nil=>intro h; cases h
    | cons q r ih=>
     obtain ⟨j,u⟩:=q
     rw [cz]
     split
     ·rename_i hj; subst hj; intro h; cases h; simp
     ·intro h; exact List.mem_cons_of_mem _ (ih h)
   exact (jt (this h2)).2
  exact ⟨(k3 i tv h3).1,h1.symm⟩
 ·obtain ⟨m,hm2⟩:=rJ (rs:=rs) (k:=0) (q:=(fr,H))
  have hkp:Kp [] w { w with drawn:=w.drawn+1 }:=(Kp.refl w).drew
  obtain ⟨g1,g2,g3,g4⟩:=(hR.kp hkp).Ny m
  refine ⟨_,(hS.trans (Stp.kp hR hkp)).trans (g4 ro),by rw [hm2]; exact g1,fun t v hv=>?_,ha.1,ha.2.1,fun k r _ hk=>by cases hk⟩
  rw [hm2] at hv
  obtain ⟨u,h1,h2⟩:=dL (hf.kp hkp) hv
  obtain ⟨h3,h4⟩:=ha.2.2 t u h1
  exact ⟨h3,by rw [h4]; exact h2.carry g2 g3⟩
theorem gC {P:Program} {T:List (Nat × TI)} {shp:TypeId->Option Sh} {O:cO} (hT:bn P shp T) (hO:bk P shp O) (hm:P.follows .mixedOrders=true):qw P shp T O:=by
 intro G n ro ρ0 w0 hshp hro Q k0 id L ops K fr H F w hd h hst hK
 subst hshp
 obtain ⟨ρ,hS,hR,hf⟩:=hst
 simp only [gz] at h
 generalize Ba T O H fr ops.toList [] 0=k at h
 split at h
 ·rename_i ds hds
  split at h
  ·rename_i hB
   obtain ⟨hob,h⟩:=fk.1 h
   rw [cZ] at h
   have hB1:iH ops.toList (kq ds fun a u w=>DVal G ρ ds a u w) (F.map (·.1)) k=true:=by
    rw [Bn (g:=fun _ _ _=>True),<- AS hf]; exact hB
   have Mj:=hB1
   simp only [iH,Bool.and_eq_true,decide_eq_true_eq,List.all_eq_true,List.mem_range,Bool.or_eq_true] at Mj
   obtain ⟨⟨⟨⟨hnl,hsp⟩,hops⟩,_⟩,_⟩:=Mj
   have hdl:ds.length=k:=by simpa [kq] using hsp
   obtain ⟨_,hat⟩:=oL hds
   simp only [List.length_nil,Nat.zero_add] at hat
   have hlt:∀ i a,ds[i]? = some a->i<k:=fun i a h=>by rw [<- hdl]; exact (List.getElem?_eq_some_iff.1 h).1
   have hdst:∀ (j:Nat) (a:DV),ds[j]? = some a->idst ops.toList j=some a.d:=fun j a ha=>by
    have hj:=hlt j a ha
    have hjl:j<ops.toList.length:=by omega
    obtain ⟨b,h1,h2⟩:=hat j (ops.toList[j]) (by rw [List.getElem?_take,if_pos hj,List.getElem?_eq_getElem hjl])
    rw [ha] at h1; cases h1
    rw [fJ,List.getElem?_eq_getElem hjl]
    exact (pn h2).1
   have hfree:∀ (j:Nat) (a:DV),ds[j]? = some a->a.d ∉ F.map (·.1)/\∀ i,i<k->i=j\/idst ops.toList i≠some a.d:=fun j a ha=>by
    have:=(hops j (hlt j a ha)).2
    rw [hdst j a ha] at this
    simp only [Bool.and_eq_true,Bool.not_eq_true',List.all_eq_true,List.mem_range,Bool.or_eq_true,beq_iff_eq,bne_iff_ne,List.contains_eq_mem,decide_eq_false_iff_not] at this
    exact this
   have hdist:∀ (i j:Nat) (a b:DV),ds[i]? = some a->ds[j]? = some b->a.d=b.d->i=j:=fun i j a b ha hb he=>by
    rcases (hfree j b hb).2 i (hlt i a ha) with h | h
    ·exact h
    ·rw [hdst i a ha,he] at h; exact absurd rfl h
   have e:ops=ops.toList.toArray:=by simp
   have hdt:gi n (ops.toList.take k)=true/\gi n (ops.toList.drop k)=true:=by
    rw [<- jm,List.take_append_drop]; exact hd
   rw [e]
   refine WC.oX hm _ k hB1 (wI (f:=fun a u w=>DVal G ρ ds a u w) (ds:=ds) (r:=ds) fun a u w w' h hk=>DVal.kp h hk) (BV fun j o ho vs w1 hk hfacts=>?_) fun vs w1 hk hfacts=>?_
   ·rw [Nat.zero_add] at hk hfacts ⊢
    rw [mB] at hk
    obtain ⟨a,ha,hstep⟩:=hat j o ho
    rw [mh ha] at hfacts ⊢
    obtain ⟨hod,sl,hsl⟩:=pn hstep
    rw [hdst j a ha]
    refine (FN (l:=ops.toList) (vs:=vs) hT hO hstep ⟨fun i b hb=>(qA hb).1,hdst,hdist,fun i hi=>?_⟩ (fun ch g=>sR) (fun q hq=>hob q (tZ ha q hq)) (gP hdt.1 o (List.mem_of_getElem? ho)) (hR.kp hk) (hf.kp hk)).2
    have hv:=mu hfacts i hi
    rw [hsl] at hi
    obtain ⟨i',b,e1,e2,_⟩:=dt.1 hi
    rw [Nat.zero_add] at e1; subst e1
    rw [mh (qA e2).1] at hv
    exact ⟨b,e2,hv⟩
   ·rw [nJ] at hk
    have hall:∀ j a,ds[j]? = some a->DVal G ρ ds a (vs j) w1:=fun j a ha=>by
     have:=mu hfacts j (List.mem_range.2 (hlt j a ha))
     rwa [mh ha] at this
    have hctx:DCtx G ρ ops.toList ds vs ds (List.range k) w1:=⟨fun _ _ h=>h,hdst,hdist,fun j hj=>by
     have hj:=List.mem_range.1 hj
     have hj2:j<ds.length:=by omega
     exact ⟨_,List.getElem?_eq_getElem hj2,hall j _ (List.getElem?_eq_getElem hj2)⟩⟩
    have hfc:∀ p ∈ Bx ds,p:=fun p hp=>by
     obtain ⟨i,a,h1,h2⟩:=sk hp
     exact (hall i a h1).1 p h2
    obtain ⟨F',h1,h2⟩:=tG (D:=cE ops.toList F vs (List.range k)) (hf.kp hk) (fun i v hv=>by
     rw [nB fun j hj he=>?_]
     ·exact hv
     ·have hj:=List.mem_range.1 hj
      have hj2:j<ds.length:=by omega
      have:=hdst j _ (List.getElem?_eq_getElem hj2)
      rw [he] at this
      have h3:=(hfree j _ (List.getElem?_eq_getElem hj2)).1
      rw [<- Option.some.inj this] at h3
      exact h3 (List.mem_map.2 (sN hv))) (r:=ds) (fun a ha hc=>by
     obtain ⟨j,hj⟩:=List.getElem?_of_mem ha
     refine ⟨vs j,hctx.look (List.mem_range.2 (hlt j a hj)) hj,(hall j a hj).2.1 ?_⟩
     rw [hc]
     exact fun q hq=>by simp at hq)
    have:=ij (Q:=Q) (l:=ops.toList) hT hO hK _ _ _ _ F' w1 hdt.2 (h hfc) ⟨ρ,hS.trans (Stp.kp hR hk),hR.kp hk,h1⟩
    exact fun a ha=>this a (ha.sub h2)
  ·have e:ops=ops.toList.toArray:=by simp
   rw [e]
   exact tf hT hO hm hro hd h ⟨ρ,hS,hR,hf⟩ hK
 ·have e:ops=ops.toList.toArray:=by simp
  rw [e]
  exact tf hT hO hm hro hd h ⟨ρ,hS,hR,hf⟩ hK
def ao:List (Nat × TI)->TypeId->Option Sh
 | [],_=>none
 | (_,⟨.sl e (some s),_,_⟩) :: r,t=>bif Nat.beq e t then some s else ao r t
 | _ :: r,t=>ao r t
def Md (P:Program):List Go.Field->List (Nat × Nat)->Bool
 | [],[]=>true
 | f :: r,q :: l=>(match P.info? f.type with
  | some i=>Nat.beq f.offset q.1 && Nat.beq i.size q.2 && Nat.blt 0 q.2
  | none=>false) && Md P r l
 | _,_=>false
def MV (s:Sh) (z:Value):Bool:=match s.ky,z with
 | true,.agg a=>re (cellsOf s (aG s)) a.toList
 | true,_=>false
 | false,z=>re (cellsOf s (aG s)) [z]
theorem IL {s:Sh} {z:Value} (h:MV s z=true):∃ zs,re (cellsOf s (aG s)) zs=true/\((s.ky=true/\z = .agg zs.toArray)\/(s.ky=false/\zs=[z])):=by
 unfold MV at h
 split at h
 ·rename_i a hs
  exact ⟨a.toList,h,.inl ⟨hs,by simp⟩⟩
 ·cases h
 ·exact ⟨[_],h,.inr ⟨by assumption,rfl⟩⟩
def Ko (P:Program) (T:List (Nat × TI)) (t:TypeId) (ti:TI):Bool:=match ti.k,P.underlying t with
 | .i k,some (.int k')=>decide (k' = k)
 | .bool,some .bool=>true
 | .str,some .string=>true
 | .sl e so,some (.slice e')=>Nat.beq e' e && (match so with
  | none=>true
  | some s=>decide (ao T e=some s) && (match P.info? e with
   | some i=>Nat.beq i.size s.size && Nat.beq i.bytes s.bytes && (match i.zero with
    | some z=>re (cellsOf s (aG s)) z.cells.toList
    | none=>false)
   | none=>false) && (match s with
   | .u8=>(match P.underlying e,(P.info? e).bind (·.zero) with
    | some (.int k),some (.int k' z)=>decide (k = .u8) && decide (k' = .u8) && decide (z=0)
    | _,_=>false)
   | _=>true))
 | .st fs,some (.struct F)=>Md P F.toList fs && (match Gm ti.zero with
  | some ks=>Mg P t ks
  | none=>true)
 | .ar n e,some (.array n' e')=>Nat.beq n' n && Nat.beq e' e
 | .mp k e so,some (.map k' e')=>Nat.beq k' k && Nat.beq e' e && (match P.underlying k with
  | some (.int ik)=>decide (ik = .i64)
  | _=>false) && (match so with
  | none=>match (P.info? e).bind (·.zero) with
   | some .nilFunc=>true
   | _=>false
  | some s=>match (P.info? e).bind (·.zero) with
   | some z=>MV s z
   | none=>false)
 | .ifc,some (.interface _)=>true
 | .ms k e,some (.map k' e')=>Nat.beq k' k && Nat.beq e' e && (match P.underlying k with
  | some .string=>true
  | _=>false) && (match (P.info? e).bind (·.zero) with
  | some (.int .i64 0)=>true
  | _=>false)
 | .ptr,some d=>!iP d
 | .fn,some d=>!iP d
 | .oth,some d=>!iP d
 | _,_=>false
def Ma (P:Program) (T:List (Nat × TI)) (t:TypeId) (ti:TI):Bool:=(match P.info? t with
 | some i=>Nat.beq i.size ti.size && (match i.zero with
  | some z=>re ti.zero z.cells.toList
  | none=>false)
 | none=>false) && Ko P T t ti
def Ff (P:Program) (T:List (Nat × TI)):List (Nat × TI)->Bool
 | []=>true
 | (t,ti) :: r=>Ma P T t ti && Ff P T r
theorem Cb {P:Program}:∀ {F:List Go.Field} {fs:List (Nat × Nat)},Md P F fs=true->F.mapM (fun f=>(P.info? f.type).map fun i=>(f.offset,i.size))=some fs/\∀ q ∈ fs,0<q.2
 | [],[],_=>⟨rfl,by simp⟩
 | [],_ :: _,h=>by cases h
 | _ :: _,[],h=>by cases h
 | f :: F,(a,b) :: fs,h=>by
  simp only [Md,Bool.and_eq_true] at h
  obtain ⟨h1,h2⟩:=h
  obtain ⟨h3,h4⟩:=Cb h2
  split at h1
  ·rename_i i hi
   simp only [Bool.and_eq_true] at h1
   have e1:=Nat.eq_of_beq_eq_true h1.1.1
   have e2:=Nat.eq_of_beq_eq_true h1.1.2
   have e3:0<b:=by have:=(Nat.blt_eq).mp h1.2; exact this
   refine ⟨by rw [List.mapM_cons,hi,h3,e1,<- e2]; rfl,fun q hq=>?_⟩
   rcases List.mem_cons.1 hq with rfl | hq
   ·exact e3
   ·exact h4 q hq
  ·cases h1
theorem Ix {P:Program} {T:List (Nat × TI)} {t:TypeId} {ti:TI} (h:Ma P T t ti=true):KK P (ao T) t ti:=by
 simp only [Ma,Bool.and_eq_true] at h
 obtain ⟨h1,h2⟩:=h
 refine ⟨?_,?_⟩
 ·split at h1
  ·rename_i i hi
   simp only [Bool.and_eq_true] at h1
   obtain ⟨h3,h4⟩:=h1
   refine ⟨by rw [hi,Option.map_some,Nat.eq_of_beq_eq_true h3],?_⟩
   split at h4
   ·rename_i z hz
    exact ⟨z.cells.toList,by simp [hi,hz],h4⟩
   ·cases h4
  ·cases h1
 ·unfold Ko at h2
  split at h2
  ·rename_i k k' hk hu
   simp only [hk]; rw [hu,of_decide_eq_true h2]
  ·rename_i hk hu
   simp only [hk]; exact hu
  ·rename_i hk hu
   simp only [hk]; exact hu
  ·rename_i e so e' hk hu
   simp only [hk]
   simp only [Bool.and_eq_true] at h2
   have e1:=Nat.eq_of_beq_eq_true h2.1
   subst e1
   refine ⟨hu,fun s hs=>?_⟩
   subst hs
   have h3:=h2.2
   simp only [Bool.and_eq_true,decide_eq_true_eq] at h3
   obtain ⟨⟨h3,h4⟩,h5⟩:=h3
   refine ⟨h3,?_,?_⟩
   ·split at h4
    ·rename_i i hi
     simp only [Bool.and_eq_true] at h4
     obtain ⟨⟨h6,h7⟩,h8⟩:=h4
     split at h8
     ·rename_i z hz
      refine ⟨z.cells.toList,?_,h8⟩
      rw [hi,Option.map_some,hz,Nat.eq_of_beq_eq_true h6,Nat.eq_of_beq_eq_true h7]
      simp
     ·cases h8
    ·cases h4
   ·rintro rfl
    simp only at h5
    split at h5
    ·rename_i k k' z hk hz
     simp only [Bool.and_eq_true,decide_eq_true_eq] at h5
     obtain ⟨⟨rfl,rfl⟩,rfl⟩:=h5
     exact ⟨hk,hz⟩
    ·cases h5
  ·rename_i fs F hk hu
   simp only [hk]
   simp only [Bool.and_eq_true] at h2
   obtain ⟨h3,h4⟩:=Cb h2.1
   refine ⟨F,hu,h3,h4,fun ks hks=>?_⟩
   have h5:=h2.2
   rw [hks] at h5
   exact h5
  ·rename_i n e n' e' hk hu
   simp only [hk]
   simp only [Bool.and_eq_true] at h2
   rw [hu,Nat.eq_of_beq_eq_true h2.1,Nat.eq_of_beq_eq_true h2.2]
  ·rename_i k e so k' e' hk hu
   simp only [hk]
   simp only [Bool.and_eq_true] at h2
   obtain ⟨⟨⟨h3,h4⟩,h5⟩,h6⟩:=h2
   rw [Nat.eq_of_beq_eq_true h3,Nat.eq_of_beq_eq_true h4] at hu
   refine ⟨hu,?_,fun s hs=>?_,fun hn=>?_⟩
   ·split at h5
    ·rename_i ik hik
     rw [hik,of_decide_eq_true h5]
    ·cases h5
   ·subst hs
    simp only at h6
    split at h6
    ·rename_i z hz
     obtain ⟨zs,h7,h8⟩:=IL h6
     exact ⟨z,zs,hz,h7,h8⟩
    ·cases h6
   ·subst hn
    simp only at h6
    split at h6
    ·assumption
    ·cases h6
  ·rename_i ms hk hu
   simp only [hk]
   simp only [Program.methodsAt,hu]
  ·rename_i k e k' e' hk hu
   simp only [hk]
   simp only [Bool.and_eq_true] at h2
   obtain ⟨⟨⟨h3,h4⟩,h5⟩,h6⟩:=h2
   rw [Nat.eq_of_beq_eq_true h3,Nat.eq_of_beq_eq_true h4] at hu
   refine ⟨hu,?_,?_⟩
   ·split at h5
    ·assumption
    ·cases h5
   ·split at h6
    ·assumption
    ·cases h6
  ·rename_i d hk hu
   simp only [hk]
   exact ⟨d,hu,by simpa using h2⟩
  ·rename_i d hk hu
   simp only [hk]
   exact ⟨d,hu,by simpa using h2⟩
  ·rename_i d hk hu
   simp only [hk]
   exact ⟨d,hu,by simpa using h2⟩
  ·cases h2
theorem oF {t:TypeId} {ti:TI}:∀ {T:List (Nat × TI)},bq T t=some ti->(t,ti) ∈ T
 | [],h=>by cases h
 | (j,v) :: r,h=>by
  simp only [bq] at h
  cases hb:Nat.beq j t <;> rw [hb] at h
  ·exact List.mem_cons_of_mem _ (oF h)
  ·cases h
   rw [Nat.eq_of_beq_eq_true hb]
   simp
theorem rG {P:Program} {T:List (Nat × TI)}:∀ {r:List (Nat × TI)},Ff P T r=true->∀ q ∈ r,Ma P T q.1 q.2=true
 | [],_,q,hq=>by simp at hq
 | (t,ti) :: r,h,q,hq=>by
  simp only [Ff,Bool.and_eq_true] at h
  rcases List.mem_cons.1 hq with rfl | hq
  ·exact h.1
  ·exact rG h.2 q hq
theorem BJ {P:Program} {T:List (Nat × TI)} (h:Ff P T T=true):bn P (ao T) T:=fun _ _ ht=>Ix (rG h _ (oF ht))
end Go.Proofs.Ytjmbgkmkinmlkaa
namespace Go.Proofs.Ytjmbgkmkinmlkaa
def aI:List (Nat × TI):=[
 (1,⟨.fn,1,[.nf]⟩),
 (2,⟨.i .i64,1,[.int 0]⟩),
 (3,⟨.i .i64,1,[.int 0]⟩),
 (4,⟨.bool,1,[.bool (.lit false)]⟩),
 (5,⟨.i .u8,1,[.u8 0]⟩),
 (6,⟨.i .u8,1,[.u8 0]⟩),
 (9,⟨.str,1,[.str ⟨[]⟩]⟩),
 (10,⟨.str,1,[.str ⟨[]⟩]⟩),
 (11,⟨.str,1,[.str ⟨[]⟩]⟩),
 (12,⟨.i .u64,1,[.u64 0]⟩),
 (15,⟨.ptr,1,[.np]⟩),
 (16,⟨.ptr,1,[.np]⟩),
 (17,⟨.ptr,1,[.np]⟩),
 (18,⟨.st [(0,1)],1,[.np]⟩),
 (19,⟨.st [(0,1)],1,[.np]⟩),
 (20,⟨.ifc,1,[.xx (.er true) []]⟩),
 (22,⟨.sl 46 (some (.nm .sess)),1,[.em true]⟩),
 (23,⟨.sl 42 (some (.nm .opn)),1,[.em true]⟩),
 (24,⟨.sl 44 (some (.nm .snap)),1,[.em true]⟩),
 (25,⟨.st [(0,1),(1,1),(2,1),(3,1),(4,1),(5,1),(6,1)],7,[.int 0,.int 0,.int 0,.int 0,.em true,.em true,.em true]⟩),
 (26,⟨.st [(0,1),(1,1),(2,1),(3,1),(4,1),(5,1),(6,1)],7,[.int 0,.int 0,.int 0,.int 0,.em true,.em true,.em true]⟩),
 (27,⟨.sl 3 (some .int),1,[.em true]⟩),
 (28,⟨.st [(0,1),(1,1),(2,1),(3,1),(4,1),(5,1),(6,1),(7,1)],8,[.int 0,.int 0,.int 0,.int 0,.int 0,.int 0,.em true,.str ⟨[]⟩]⟩),
 (29,⟨.st [(0,1),(1,1),(2,1),(3,1),(4,1),(5,1),(6,1),(7,1)],8,[.int 0,.int 0,.int 0,.int 0,.int 0,.int 0,.em true,.str ⟨[]⟩]⟩),
 (30,⟨.fn,1,[.nf]⟩),
 (31,⟨.fn,1,[.nf]⟩),
 (32,⟨.fn,1,[.nf]⟩),
 (33,⟨.i .i64,1,[.int 0]⟩),
 (34,⟨.st [(0,1),(1,1)],2,[.int 0,.int 0]⟩),
 (35,⟨.st [(0,1),(1,1)],2,[.int 0,.int 0]⟩),
 (37,⟨.fn,1,[.nf]⟩),
 (38,⟨.fn,1,[.nf]⟩),
 (39,⟨.fn,1,[.nf]⟩),
 (40,⟨.fn,1,[.nf]⟩),
 (41,⟨.st [(0,1),(1,1)],2,[.int 0,.int 0]⟩),
 (42,⟨.st [(0,1),(1,1)],2,[.int 0,.int 0]⟩),
 (43,⟨.st [(0,1),(1,1),(2,1),(3,1),(4,1)],5,[.int 0,.int 0,.em true,.bool (.lit false),.str ⟨[]⟩]⟩),
 (44,⟨.st [(0,1),(1,1),(2,1),(3,1),(4,1)],5,[.int 0,.int 0,.em true,.bool (.lit false),.str ⟨[]⟩]⟩),
 (45,⟨.st [(0,1),(1,1),(2,2)],4,[.int 0,.int 0,.int 0,.int 0]⟩),
 (46,⟨.st [(0,1),(1,1),(2,2)],4,[.int 0,.int 0,.int 0,.int 0]⟩),
 (47,⟨.fn,1,[.nf]⟩),
 (48,⟨.fn,1,[.nf]⟩),
 (49,⟨.fn,1,[.nf]⟩),
 (50,⟨.fn,1,[.nf]⟩),
 (51,⟨.fn,1,[.nf]⟩),
 (52,⟨.fn,1,[.nf]⟩),
 (53,⟨.fn,1,[.nf]⟩),
 (54,⟨.fn,1,[.nf]⟩),
 (55,⟨.fn,1,[.nf]⟩),
 (56,⟨.fn,1,[.nf]⟩),
 (57,⟨.fn,1,[.nf]⟩),
 (58,⟨.fn,1,[.nf]⟩),
 (59,⟨.fn,1,[.nf]⟩),
 (60,⟨.fn,1,[.nf]⟩),
 (61,⟨.fn,1,[.nf]⟩),
 (62,⟨.fn,1,[.nf]⟩),
 (63,⟨.fn,1,[.nf]⟩),
 (64,⟨.fn,1,[.nf]⟩),
 (65,⟨.fn,1,[.nf]⟩),
 (66,⟨.fn,1,[.nf]⟩),
 (67,⟨.fn,1,[.nf]⟩),
 (68,⟨.fn,1,[.nf]⟩),
 (69,⟨.fn,1,[.nf]⟩),
 (70,⟨.fn,1,[.nf]⟩),
 (71,⟨.fn,1,[.nf]⟩),
 (72,⟨.fn,1,[.nf]⟩),
 (73,⟨.fn,1,[.nf]⟩),
 (74,⟨.fn,1,[.nf]⟩),
 (75,⟨.fn,1,[.nf]⟩),
 (76,⟨.fn,1,[.nf]⟩),
 (77,⟨.fn,1,[.nf]⟩),
 (78,⟨.fn,1,[.nf]⟩),
 (79,⟨.fn,1,[.nf]⟩),
 (80,⟨.ptr,1,[.np]⟩),
 (81,⟨.fn,1,[.nf]⟩),
 (83,⟨.fn,1,[.nf]⟩),
 (84,⟨.ptr,1,[.np]⟩),
 (85,⟨.fn,1,[.nf]⟩),
 (86,⟨.fn,1,[.nf]⟩),
 (87,⟨.mp 3 78 none,1,[.dead]⟩),
 (88,⟨.fn,1,[.nf]⟩),
 (89,⟨.fn,1,[.nf]⟩),
 (90,⟨.fn,1,[.nf]⟩),
 (91,⟨.fn,1,[.nf]⟩),
 (92,⟨.sl 5 (some .u8),1,[.em true]⟩),
 (94,⟨.fn,1,[.nf]⟩),
 (95,⟨.fn,1,[.nf]⟩),
 (96,⟨.mp 3 3 (some .int),1,[.dead]⟩),
 (97,⟨.fn,1,[.nf]⟩),
 (98,⟨.fn,1,[.nf]⟩),
 (99,⟨.st [(0,1),(1,1)],2,[.int 0,.int 0]⟩),
 (100,⟨.st [(0,1),(1,1)],2,[.int 0,.int 0]⟩),
 (101,⟨.fn,1,[.nf]⟩),
 (102,⟨.mp 3 100 (some (.nm .span)),1,[.dead]⟩),
 (103,⟨.fn,1,[.nf]⟩),
 (104,⟨.fn,1,[.nf]⟩),
 (105,⟨.fn,1,[.nf]⟩),
 (106,⟨.fn,1,[.nf]⟩),
 (107,⟨.fn,1,[.nf]⟩),
 (108,⟨.fn,1,[.nf]⟩),
 (109,⟨.fn,1,[.nf]⟩),
 (110,⟨.ar 65 3,65,[.int 0,.int 0,.int 0,.int 0,.int 0,.int 0,.int 0,.int 0,.int 0,.int 0,.int 0,.int 0,.int 0,.int 0,.int 0,.int 0,.int 0,.int 0,.int 0,.int 0,.int 0,.int 0,.int 0,.int 0,.int 0,.int 0,.int 0,.int 0,.int 0,.int 0,.int 0,.int 0,.int 0,.int 0,.int 0,.int 0,.int 0,.int 0,.int 0,.int 0,.int 0,.int 0,.int 0,.int 0,.int 0,.int 0,.int 0,.int 0,.int 0,.int 0,.int 0,.int 0,.int 0,.int 0,.int 0,.int 0,.int 0,.int 0,.int 0,.int 0,.int 0,.int 0,.int 0,.int 0,.int 0]⟩),
 (111,⟨.ar 65 3,65,[.int 0,.int 0,.int 0,.int 0,.int 0,.int 0,.int 0,.int 0,.int 0,.int 0,.int 0,.int 0,.int 0,.int 0,.int 0,.int 0,.int 0,.int 0,.int 0,.int 0,.int 0,.int 0,.int 0,.int 0,.int 0,.int 0,.int 0,.int 0,.int 0,.int 0,.int 0,.int 0,.int 0,.int 0,.int 0,.int 0,.int 0,.int 0,.int 0,.int 0,.int 0,.int 0,.int 0,.int 0,.int 0,.int 0,.int 0,.int 0,.int 0,.int 0,.int 0,.int 0,.int 0,.int 0,.int 0,.int 0,.int 0,.int 0,.int 0,.int 0,.int 0,.int 0,.int 0,.int 0,.int 0]⟩),
 (112,⟨.fn,1,[.nf]⟩),
 (113,⟨.fn,1,[.nf]⟩),
 (114,⟨.fn,1,[.nf]⟩),
 (115,⟨.fn,1,[.nf]⟩),
 (116,⟨.i .u64,1,[.u64 0]⟩),
 (117,⟨.fn,1,[.nf]⟩),
 (118,⟨.fn,1,[.nf]⟩),
 (119,⟨.fn,1,[.nf]⟩),
 (120,⟨.fn,1,[.nf]⟩),
 (121,⟨.fn,1,[.nf]⟩),
 (122,⟨.fn,1,[.nf]⟩),
 (123,⟨.fn,1,[.nf]⟩),
 (124,⟨.i .u64,1,[.u64 0]⟩),
 (125,⟨.ptr,1,[.np]⟩),
 (126,⟨.fn,1,[.nf]⟩),
 (127,⟨.fn,1,[.nf]⟩),
 (128,⟨.st [(0,1),(1,1),(2,1),(3,1)],4,[.np,.np,.np,.str ⟨[]⟩]⟩),
 (129,⟨.st [(0,1),(1,1),(2,1),(3,1)],4,[.np,.np,.np,.str ⟨[]⟩]⟩),
 (130,⟨.ar 0 16,0,[]⟩),
 (133,⟨.fn,1,[.nf]⟩),
 (135,⟨.i .u8,1,[.u8 0]⟩),
 (136,⟨.i .u8,1,[.u8 0]⟩),
 (137,⟨.fn,1,[.nf]⟩),
 (138,⟨.ptr,1,[.np]⟩)]
end Go.Proofs.Ytjmbgkmkinmlkaa
namespace Go.Proofs.Ytjmbgkmkinmlkaa
theorem dG:bn Try.prog (ao aI) aI:=BJ (by kernel_rfl)
theorem eZ:Try.prog.follows .mixedOrders=true:=by kernel_rfl
end Go.Proofs.Ytjmbgkmkinmlkaa
