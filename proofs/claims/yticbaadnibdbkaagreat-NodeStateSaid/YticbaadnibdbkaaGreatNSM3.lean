/- What leads to the law, part 3. Conditions: each lemma's own. -/
import Derived.Scope
import Derived.Test.YticbaadnibdbkaaGreatNSM2
set_option linter.unusedVariables false
set_option linter.unusedSimpArgs false
set_option maxHeartbeats 2000000
set_option linter.defProp false
open List (length_drop map_id range replicate)
open Nat (beq_eq ble ble_eq blt blt_eq)
open Bool (not_eq_true)
namespace Go.Proofs.YticbaadnibdbkaaGreat
open Go.RowKit
def D6:=@Option.map_some
def Q9:=@Nat.mul_comm
def L6:=@List.length_replicate
def R1:=@Nat.min_eq_right
def V5:=@List.set_getElem_self
def I2:=@List.take_length
def K0:=@List.getElem?_eq_none
def R2:=@List.not_mem_nil
def V3:=@List.map_congr_left
def T4:=@List.mem_map_of_mem
def D1:=@decide_eq_false
def Q5:=@List.length_singleton
def C1:=@List.length_nil
theorem i_ {f:Nat->AO}:∀ {l:List Nat} {H:AH},(nD f l H).length=H.length
 | [],_=>rfl
 | i :: r,H=>by rw [nD,i_,B8]
theorem xX {f:Nat->AO} {j:Nat}:∀ {l:List Nat} {H:AH},j<H.length->(nD f l H)[j]? = if j ∈ l then some (f j) else H[j]?
 | [],_,_=>by simp [nD]
 | i :: r,H,a=>by
  rw [nD,xX (by rw [B8]; exact a)];grind
theorem iQ {H:AH} {i:Nat}:∀ {l:List Nat},i ∈ rowsOf H l↔i ∈ l/\((∃ t s a,l4 H i = .row t s a)\/l4 H i = .loc)
 | []=>by simp [rowsOf]
 | j :: r=>by
  unfold rowsOf;split
  ·rename_i t s a h;simp [iQ];grind
  ·rename_i h;simp [iQ];grind
  rename_i b c;simp [iQ];grind
theorem xl {a:Lv}:∀ {l:List Nat},Ep a l=true↔∀ i ∈ l,a.wr i=true/\a.mv i=true
 | []=>by simp [Ep]
 | i :: r=>by simp [Ep,xl]
theorem qV {b:Sh} {o:AO}:∀ {H:AH},vx b H=true->o ∈ H->vx b [o]=true
 | o' :: r,h,hm=>by
  rcases u2.1 hm with rfl | hm
  ·cases o <;> simp [vx] at h ⊢ <;> simp_all
  exact qV (H:=r) (by cases o' <;> simp [vx] at h <;> first | exact h | exact h.2) hm
variable {t:TypeId} {H:AH} {b:Sh}
def ZP {a:List AV} (h:vx b H=true) (c:.box t a ∈ H):P7 b a=true:=by simpa [vx] using qV h c
def ZT {s:Sh} {a:List (l5 s)} (h:vx b H=true) (c:.row t s a ∈ H):kq (Sh.no 5 b) s.iy=true:=by simpa [vx] using qV h c
def Xa {s:Sh} {f:Int->Option (l5 s)} (h:vx b H=true) (a:.q7 s f ∈ H):kq (Sh.no 5 b) s.iy=true:=by simpa [vx] using qV h a
variable {n:Nat}
def WU {s:Sh} {a:List (l5 s)} (h:vx b H=true) (c:.y9 t s n a ∈ H):kq (Sh.no 5 b) s.iy=true:=by simpa [vx] using qV h c
theorem JE {b:Sh}:∀ {l:List (Int × AV)},U5 b l=true->∀ q ∈ l,q.2.no b=true
 | (k,a) :: r,h,q,hq=>by
  simp [U5] at h;rcases u2.1 hq with rfl | hq
  ·exact h.1
  exact JE h.2 q hq
variable {l:List (Int × AV)}
def Nj (h:vx b H=true) (a:.p7 l ∈ H):U5 b l=true:=by simpa [vx] using qV h a
variable {σ:List Nat} {j:Nat}
def FE (a:σ.Nodup) (c:j<σ.length):posOf σ[j] σ=j:=by
 have d:=lL (σ:=σ) (I1 c);have e:=(r3.1 d);obtain ⟨g,f⟩:=e;exact (List.getElem_inj a).1 f
def gB (c:List RE) (σ:List Nat) (a:List RE):List RE:=((range c.length).map fun j=>if j ∈ σ then a.getD (posOf j σ) .no else c.getD j .no)++a.drop σ.length
variable {ρ ρ2:List RE}
theorem kv (a:j<ρ.length):(gB ρ σ ρ2)[j]? = some (if j ∈ σ then ρ2.getD (posOf j σ) .no else ρ.getD j .no):=by
 unfold gB;grind
theorem yP (a:ρ.length<=j):(gB ρ σ ρ2)[j]? = ρ2[σ.length+(j - ρ.length)]?:=by
 unfold gB;grind
section
variable {P:Program} {G:Gl} {O:ck} {n:Nat} {F:Fr} {w:World} {ρ:List RE} {H:AH} {fr:j9} {ro:Lv}
def wM (hO:ay P G.shp O) (hR:oh G ρ H w) (hf:o9 (cx G ρ w) ρ fr F) {f:Nat} {a:List n8} {D:List Nat} {vs:List Value} {r:SR}
  (hvs:∀ (G':Gl) (σ:List Nat),G'.shp=G.shp->(cx G ρ w).le (cx G' (dL ρ σ) w)->(∀ i ∈ rR a,i ∈ σ)->(∀ id ∈ D,∀ g L len z,ρ[id]? = some (.row g L len z)->(cx G' (dL ρ σ) w).S g)->hQ (dJ (cx G' (dL ρ σ) w) (dL ρ σ)) (jF (posOf · σ) a) vs)
  (hlent:∀ id ∈ D,∀ r,ρ[id]? = some r->r ≠ .no->(∃ t s xs,l4 H id = .row t s xs))
  (h:Ju O ro fr H f a D=some r) (hob:∀ p ∈ r.ob,p) :
  (∃ fn,P.funcs[f]? = some fn/\(fn.name == "runtime.NumGoroutine")=false/\fn.body.isNone=false)/\kI P f vs.toArray w fun v X=>fw G ro ρ w r F v X:=by
 unfold Ju at h;generalize tI H a=σ at h;simp only at h;split at h
 ·rename_i hck;simp at hck;obtain ⟨⟨⟨⟨hn,hai⟩,hcl⟩,hno⟩,hge⟩:=hck;split at h
  ·rename_i pre rs H' kp hrs;split at h
   ·rename_i hck2;cases h;simp only [pe] at hck2;have hlenH:=F4 hck2.1;have hsh:=gG.1 hck2.2;have hai:=kn.1 hai;have hno:=nR.1 hno;have hge:=xl.1 hge;have hnd:=kQ.1 hn;have hclo:=ju.1 hcl;let lt:Nat->Prop:=fun b=>∃ id ∈ D,∃ rr,ρ[id]? = some rr/\rr.g? = some b
    let Z':Nat->Prop:=fun b=>G.Z b\/(live ρ b/\¬ live (dL ρ σ) b/\¬ lt b)
    have hsub:∀ (b i:Nat) (r:RE),ρ[i]? = some r->r.g? = some b->live (dL ρ σ) b->i ∈ σ:=by
     rintro b i r m d ⟨j,r2,K,h4⟩;have e:=fX K (by rintro rfl; cases h4);have e2:=hR.inj _ _ _ _ b m e d h4;have hj:j<σ.length:=by simpa [dL] using (r3.1 K).1
     have a1:σ.getD j 0=σ[j]:=by rw [ts,p6 hj]; rfl
     rw [e2,a1]; exact I1 _
    have hltσ:∀ b,lt b->¬ live (dL ρ σ) b:=by
     rintro b ⟨id,hid,rr,m,d⟩ hl;exact hno id hid (hsub b id rr m d hl)
    obtain ⟨hR',hle⟩:=hR.sub (σ:=σ) (Z':=Z') hn hcl (fun b I=>I.elim (hR.z b) fun ⟨⟨i,r,m,d⟩,_⟩=>(hR.sr i r b m d).2.1) (fun b m d hz=>hz.elim m fun K=>d K.1)
     (fun b m hz=>hz.elim (fun d=>by obtain ⟨i,r,K,h4⟩:=hU m; exact (hR.sr i r b K h4).2.2 d) fun d=>d.2.1 m)
    obtain ⟨hfn,hrun⟩:=hO _ _ _ _ hrs hob;refine ⟨hfn,?_⟩;have hargs:=hvs ⟨G.shp,G.B0,Z'⟩ σ rfl hle hai fun id hid g L len z m=>by
     have hl:lt g:=⟨id,hid,_,m,rfl⟩;have I:=hR.sr _ _ g m rfl;exact ⟨I.2.1,hltσ g hl,fun hz=>hz.elim I.2.2 fun d=>d.2.2 hl⟩
    refine (hrun ⟨G.shp,G.B0,Z'⟩ _ w vs rfl hR' hargs).mono fun v X ⟨us,hv,ρ2,hR2,J,hbx2,hrs',_⟩=>?_;have hl2:H'.length=ρ2.length:=hR2.obj.length;have hHρ:H.length=ρ.length:=hR.obj.length;have N:∀ {j:Nat},j<σ.length->gL H σ j=σ.getD j 0:=fun {j} hj=>by
     unfold gL;have:ble σ.length j=false:=by rw [<- not_eq_true,ble_eq]; omega
     rw [this]; rfl
    have Q:∀ {j:Nat},σ.length<=j->gL H σ j=H.length+(j - σ.length):=fun {j} hj=>by
     unfold gL;have:ble σ.length j=true:=by rw [ble_eq]; exact hj
     rw [this]; rfl
    have hσlt:∀ i ∈ σ,i<ρ.length:=fun i hi=>by rw [<- hHρ]; exact (hclo i hi).1
    have hτ:∀ (j:Nat) (r:RE),ρ2[j]? = some r->(gB ρ σ ρ2)[gL H σ j]? = some r:=fun j r hj=>by
     by_cases hjn:j<σ.length
     ·rw [N hjn];have a1:σ.getD j 0=σ[j]:=by rw [ts,p6 hjn]; rfl
      rw [a1,kv (hσlt _ (I1 hjn)),eg (I1 hjn),FE hnd hjn,getD_some hj]
     rw [Q az,yP az,hHρ,<- hj];congr 1; omega
    have hmix:∀ (i:Nat) (r:RE) (g:Nat),(gB ρ σ ρ2)[i]? = some r->r.g? = some g->(i<ρ.length/\i ∉ σ/\ρ[i]? = some r)\/∃ j,ρ2[j]? = some r/\gL H σ j=i:=fun i r g m d=>by
     by_cases hi:i<ρ.length
     ·rw [kv hi] at m;by_cases Y:i ∈ σ
      ·rw [eg Y] at m;cases m;have hp:=lL Y;obtain ⟨hpl,hpe⟩:=r3.1 hp;refine .inr ⟨posOf i σ,?_,?_⟩
       ·cases hq:ρ2[posOf i σ]? with
        | none=>rw [ts,hq] at d; cases d
        | some r'=>rw [getD_some hq]
       rw [N hpl,ts,hp]; rfl
      rw [dc Y] at m;cases m;have:ρ[i]? = some ρ[i]:=p6 hi;exact .inl ⟨hi,Y,by rw [getD_some this]; exact this⟩
     rw [yP az] at m;refine .inr ⟨σ.length+(i - ρ.length),m,?_⟩;rw [Q az,hHρ]; omega
    have hτinj:∀ (j j':Nat),j<ρ2.length->j' < ρ2.length->gL H σ j=gL H σ j' -> j=j':=fun j j' hj hj' he=>by
     by_cases m:j<σ.length <;> by_cases d:j' < σ.length
     ·rw [N m,N d] at he;rw [ts,p6 m,ts,p6 d] at he;exact (List.getElem_inj hnd).1 he
     ·rw [N m,Q az,ts,p6 m] at he;have:=(hclo _ (I1 m)).1;simp at he; omega
     ·rw [Q az,N d,ts,p6 d] at he;have:=(hclo _ (I1 d)).1;simp at he; omega
     rw [Q az,Q az] at he; omega
    have hlive2:∀ b,live ρ2 b->live (dL ρ σ) b\/w.heap.size<=b:=fun b hl=>by
     by_cases I:b<w.heap.size
     ·by_cases hs:live (dL ρ σ) b
      ·exact .inl hs
      exact absurd hl (J.x4 b I hs).1
     exact .inr az
    have hoth:∀ (i:Nat) (r:RE) (g:Nat),i ∉ σ->ρ[i]? = some r->r.g? = some g->¬ live ρ2 g/\X.heap[g]? = w.heap[g]?:=fun i r g hi m d=>
     J.x4 g (hR.sr i r g m d).2.1 fun hl=>hi (hsub g i r m d hl)
    have hlv:∀ b,b<w.heap.size->¬ live ρ b->¬ live (gB ρ σ ρ2) b:=fun b I hl ⟨i,r,m,d⟩=>by
     rcases hmix i r b m d with ⟨_,_,K⟩ | ⟨j,K,_⟩
     ·exact hl ⟨i,r,K,d⟩
     rcases hlive2 b ⟨j,r,K,d⟩ with h4 | h4
     ·exact hl (hU h4)
     omega
    have hext:u1 ρ w (gB ρ σ ρ2) X:=⟨J.os,J.tape,J.output,J.size,fun b I hl=>⟨hlv b I hl,(J.x4 b I fun h=>hl (hU h)).2⟩⟩;have B:=hext.le hR.lo;have hstp:s8 ro ρ w (gB ρ σ ρ2) X:=by
     refine ⟨hext,fun i r hi W=>?_,fun i r hi W=>?_,fun i g hi=>?_⟩
     ·have him:i ∉ σ:=fun Y=>by have:=(hge i Y).2; rw [hi] at this; cases this
      rw [kv (r3.1 W).1,dc him,getD_some W]
     ·have him:i ∉ σ:=fun Y=>by have:=(hge i Y).1; rw [hi] at this; cases this
      have hil:=(r3.1 W).1;refine ⟨?_,fun g hg=>(hoth i r g him W hg).2⟩;rw [kv hil,dc him,getD_some W]
     have hil:=(r3.1 hi).1;rw [kv hil];by_cases Y:i ∈ σ
     ·rw [eg Y];have:=hbx2 (posOf i σ) g (iY Y hi);rw [getD_some this]
     rw [dc Y,getD_some hi]
    have hag:∀ (i:Nat) (r:RE),(i ∉ σ\/∃ g,r = .blk g)->ρ[i]? = some r->(gB ρ σ ρ2)[i]? = some r:=fun i r hh W=>by
     rcases hh with hh | ⟨g,rfl⟩
     ·rw [kv (r3.1 W).1,dc hh,getD_some W]
     exact hstp.bx i g W
    have hcap:∀ q v,eQ ρ q v->eQ (gB ρ σ ρ2) q v:=fun q v ⟨g,m,d⟩=>⟨g,hag _ _ (.inr ⟨g,rfl⟩) m,d⟩;have hrow:∀ (i:Nat) (r:RE),ρ[i]? = some r->(r = .emp\/∃ g L len z,r = .row g L len z)->cM i (rowsOf H σ)=false->i ∉ σ:=fun i r m d K Y=>by
     have hlt:=(hclo i Y).1;obtain ⟨r',hr',C⟩:=hR.at_ (p6 hlt);rw [m] at hr'; cases hr';have hO:l4 H i=H[i]:=by unfold l4; rw [ts,p6 hlt]; rfl
     cases U:H[i] with
     | gone=>rw [U] at C; rcases d with rfl | ⟨_,_,_,_,rfl⟩ <;> cases C
     | box t cs=>rw [U] at C; obtain ⟨g,_,e,_⟩:=C; subst e; rcases d with d | ⟨_,_,_,_,d⟩ <;> cases d
     | q7 s f=>rw [U] at C; obtain ⟨g,e,_⟩:=C; subst e; rcases d with d | ⟨_,_,_,_,d⟩ <;> cases d
     | loc=>
      have:i ∈ rowsOf H σ:=iQ.2 ⟨Y,.inr (by rw [hO,U])⟩;rw [bQ.2 this] at K; cases K
     | p7 l=>rw [U] at C; obtain ⟨g,e,_⟩:=C; subst e; rcases d with d | ⟨_,_,_,_,d⟩ <;> cases d
     | y9 t s n xs=>rw [U] at C; obtain ⟨g,_,e,_⟩:=C; subst e; rcases d with d | ⟨_,_,_,_,d⟩ <;> cases d
     | row t s xs=>
      have:i ∈ rowsOf H σ:=iQ.2 ⟨Y,.inl ⟨t,s,xs,by rw [hO,U]⟩⟩;rw [bQ.2 this] at K; cases K
    have hrd:∀ a v,Rd (cx G ρ w) ρ a v->Rd (cx G (gB ρ σ ρ2) X) (gB ρ σ ρ2) (a.cX (rowsOf H σ)) v:=by
     intro a v h;cases a with
     | own j=>
      simp [AV.cX];cases I:cM j (rowsOf H σ)
      ·rcases h with ⟨g,L,len,z,h,e⟩ | ⟨h,e⟩
       ·exact .inl ⟨g,L,len,z,hag _ _ (.inl (hrow j _ h (.inr ⟨_,_,_,_,rfl⟩) I)) h,e⟩
       exact .inr ⟨hag _ _ (.inl (hrow j _ h (.inl rfl) I)) h,e⟩
      exact Rd.one h
     | sub j o k=>
      simp [AV.cX];cases I:cM j (rowsOf H σ)
      ·rcases h with ⟨g,L,len,z,h,e⟩ | ⟨h,e⟩
       ·exact .inl ⟨g,L,len,z,hag _ _ (.inl (hrow j _ h (.inr ⟨_,_,_,_,rfl⟩) I)) h,e⟩
       exact .inr ⟨hag _ _ (.inl (hrow j _ h (.inl rfl) I)) h,e⟩
      exact Rd.one h
     | x8 j k o=>
      simp [AV.cX];cases I:cM j (rowsOf H σ)
      ·obtain ⟨g,L,len,z,h,e⟩:=h;exact ⟨g,L,len,z,hag _ _ (.inl (hrow j _ h (.inr ⟨_,_,_,_,rfl⟩) I)) h,e⟩
      exact Rd.one h
     | ptr j o=>exact hcap _ _ h
     | mq j=>
      obtain ⟨g,m,e⟩:=h;exact ⟨g,hag _ _ (.inr ⟨g,rfl⟩) m,e⟩
     | fn f b cs=>
      obtain ⟨bs,us,m,d,e⟩:=h;exact ⟨bs,us,m.imp fun _ _ h=>hcap _ _ h,d.imp fun _ _ h=>hcap _ _ h,e⟩
     | fe s' x o=>
      obtain ⟨A,T,m,d,K,e⟩:=h;exact ⟨A,T,(B.S _ m).1,d.dm (B.S _ m).2,K.c8 B,e⟩
     | np=>exact h
     | nf=>exact h
     | yl l=>exact h
     | xx k cs=>
      obtain ⟨us,m,d⟩:=h;exact ⟨us,m.imp fun _ _ h=>hcap _ _ h,d.le B⟩
     | dead=>exact h
     | int n=>exact Pd.c8 h B
     | u8 b=>exact Pd.c8 h B
     | u64 n=>exact Pd.c8 h B
     | bool e=>exact Pd.c8 h B
     | str s=>exact Pd.c8 h B
     | em b=>exact Pd.c8 h B
     | li nw xs=>exact Pd.c8 h B
     | fz s xs=>exact Pd.c8 h B
    have hS:∀ b,(cx ⟨G.shp,G.B0,Z'⟩ ρ2 X).S b->(cx G (gB ρ σ ρ2) X).S b\/(¬ b<G.B0/\∃ sb ∈ fU H D,∃ cur t fr,X.heap[b]? = some (.cells cur t fr)/\G.shp t=some sb):=by
     rintro b ⟨m,d,K⟩;by_cases hl:live (gB ρ σ ρ2) b
     ·right;obtain ⟨i,r,h4,h5⟩:=hl;rcases hmix i r b h4 h5 with ⟨_,him,h6⟩ | ⟨j,h6,_⟩
      ·have hnl:¬ live (dL ρ σ) b:=fun hh=>him (hsub b i r h6 h5 hh);have hlt:lt b:=by
        by_cases hx:lt b
        ·exact hx
        exact absurd (.inr ⟨⟨i,r,h6,h5⟩,hnl,hx⟩) K
       obtain ⟨id,hid,rr,h7,h8⟩:=hlt;have I:=hR.sr _ _ b h7 h8;refine ⟨az,?_⟩;obtain ⟨t,s,xs,hrw⟩:=hlent id hid rr h7 (by rintro rfl; cases h8);refine ⟨s,qR hrw hid,?_⟩;have hfc:=dZ hR hrw;rcases cc hR hrw with ⟨h9,_⟩ | ⟨g,L,T,sp,h9,h10,_⟩
       ·rw [h7] at h9; cases h9; cases h8
       rw [h7] at h9; cases h9; cases h8;have hids:id ∉ σ:=hno id hid;exact ⟨_,t,(0,0),(hoth id _ _ hids h7 rfl).2.trans h10,hfc.1⟩
      exact absurd ⟨j,r,h6,h5⟩ d
     left; exact ⟨m,hl,fun hz=>K (.inl hz)⟩
    have hpd:∀ {b:AV} {u:Value},Pd (cx ⟨G.shp,G.B0,Z'⟩ ρ2 X) b u->(∀ sb ∈ fU H D,WB 5 sb b=true)->Pd (cx G (gB ρ σ ρ2) X) b u:=fun I hn=>Pd.NB (c:=cx ⟨G.shp,G.B0,Z'⟩ ρ2 X) (c':=cx G (gB ρ σ ρ2) X) (fU H D) rfl rfl rfl hS I 5 hn;have htake:∀ (a:AV) (u:Value),(∀ b ∈ fU H D,a.no b=true)->Rd (cx ⟨G.shp,G.B0,Z'⟩ ρ2 X) ρ2 a u->Rd (cx G (gB ρ σ ρ2) X) (gB ρ σ ρ2) (a.mN (gL H σ)) u:=fun a u hno5 hu=>by
     refine Rd.mN (fun _ hp=>hpd hp fun sb hsb=>RW (hno5 sb hsb)) (fun s x o e=>?_) (fun k cs us e h=>h.unl (c:=cx ⟨G.shp,G.B0,Z'⟩ ρ2 X) (c':=cx G (gB ρ σ ρ2) X) rfl rfl rfl hS fun sb hsb=>e ▸ hno5 sb hsb) (fun i hi r W _=>hτ i r W) hu;subst e;have hnil:fU H D=[]:=by
      cases hq:fU H D with
      | nil=>rfl
      | cons b l=>have:=hno5 b (by rw [hq]; simp); simp [AV.no] at this
     rw [hnil] at hS;have hS':(cx ⟨G.shp,G.B0,Z'⟩ ρ2 X).le (cx G (gB ρ σ ρ2) X):=⟨rfl,rfl,fun b I=>⟨(hS b I).resolve_right fun ⟨_,sb,h,_⟩=>by simp at h,rfl⟩,fun _ _ _=>rfl⟩;obtain ⟨A,T,k1,k2,k3,e⟩:=hu;exact ⟨A,T,(hS'.S _ k1).1,k2,k3.c8 hS',e⟩
    have hobj:∀ (j:Nat) (o:AO) (r:RE),H'[j]? = some o->ρ2[j]? = some r->OR (cx G (gB ρ σ ρ2) X) (gB ρ σ ρ2) (o.mN (gL H σ)) r:=fun j o r U W=>by
     obtain ⟨r',hr',C⟩:=hR2.at_ U;rw [W] at hr'; cases hr';have hmem:o ∈ H':=A9 U;have hnoO:∀ b ∈ fU H D,vx b H' = true:=fun b I=>by have:=hsh b I; simp at this; exact this.2
     cases o with
     | gone=>exact C
     | q7 s f=>
      obtain ⟨g,rfl,a,n,k1,k2,k3⟩:=C;refine ⟨g,rfl,a,n,k1,k2,fun k=>?_⟩;have k4:=k3 k;cases hg:getM k a.toList <;> cases hf:f k <;> rw [hg,hf] at k4
      ·trivial
      ·exact k4
      ·exact k4
      rename_i v x;obtain ⟨us,k5,k6⟩:=k4;refine ⟨us,p0.of (df k5.length fun i a u ha hu=>?_),k6⟩;obtain ⟨u',hu',hau⟩:=eE k5.all i a ha;rw [hu] at hu'; cases hu';refine hpd hau fun sb hsb=>?_;have hns:=gG.1 (Xa (hnoO sb hsb) hmem);cases a with
      | fz s' ys=>exact hns s' (kU (A9 ha))
      | li nw ys=>exact hns .int (ky (A9 ha))
      | _=>rfl
     | box t cs=>
      obtain ⟨g,vs',rfl,m,d⟩:=C;exact ⟨g,vs',rfl,m,pb (fun a ha u hu=>htake a u (fun b I=>Ae.1 (ZP (hnoO b I) hmem) a ha) hu) d⟩
     | loc=>trivial
     | p7 l=>
      obtain ⟨g,rfl,h⟩:=C;exact ⟨g,rfl,h.map (g0:=fun a=>a.mN (gL H σ)) (sO l) (fun q hq u hu=>htake q.2 u (fun b I=>JE (Nj (hnoO b I) hmem) q hq) hu) rfl⟩
     | y9 t s n xs=>
      obtain ⟨g,vs',rfl,h4,h5,h6⟩:=C;refine ⟨g,vs',rfl,h4,?_,h6⟩;refine p0.of (df h5.length fun i a u ha hu=>?_);obtain ⟨u',hu',hau⟩:=eE h5.all i a ha;rw [hu] at hu'; cases hu';refine hpd hau fun sb hsb=>?_;have hns:=gG.1 (WU (hnoO sb hsb) hmem);have V:=A9 ha;rw [List.mem_flatMap] at V;obtain ⟨y,_,hy⟩:=V;cases a with
      | fz s' ys=>exact hns s' (kU hy)
      | li nw ys=>exact hns .int (ky hy)
      | _=>rfl
     | row t s xs=>
      obtain ⟨m,d,K⟩:=C;refine ⟨m,d,K.imp id fun ⟨g,L,T,sp,e,h4,h5,h6⟩=>⟨g,L,T,sp,e,h4,?_,h6⟩⟩;refine p0.of (df h5.length fun i a u ha hu=>?_);obtain ⟨u',hu',hau⟩:=eE h5.all i a ha;rw [hu] at hu'; cases hu';refine hpd hau fun sb hsb=>?_;have hns:=gG.1 (ZT (hnoO sb hsb) hmem);have V:=A9 ha;rw [List.mem_flatMap] at V;obtain ⟨y,_,hy⟩:=V;cases a with
      | fz s' ys=>exact hns s' (kU hy)
      | li nw ys=>exact hns .int (ky hy)
      | _=>rfl
    refine ⟨gB ρ σ ρ2,hstp,⟨?_,?_,?_,fun b I=>w9 (hR.z b I) hext.size,z7 hR.b0 hext.size,hR.tb.c8 (hext.le hR.lo)⟩,tC hrd hf,?_,Yh.qp hrs'⟩
    ·-- the objects
     refine df ?_ fun i o r U W=>?_
     ·simp [r5,i_,fG,mE,length_drop,gB,J4,V4];omega
     by_cases hi:i<H.length
     ·rw [C9 (by rw [i_,fG]; exact hi),xX (by rw [fG]; exact hi)] at U;rw [kv az] at W;by_cases Y:i ∈ σ
      ·rw [eg Y] at U W;cases U; cases W;obtain ⟨hpl,_⟩:=r3.1 (lL Y);have hp2:posOf i σ<H'.length:=by omega
       have e1:H'[posOf i σ]? = some H'[posOf i σ]:=p6 hp2;have e2:ρ2[posOf i σ]? = some (ρ2[posOf i σ]' az):=p6 az;have e3:H'.getD (posOf i σ) .gone=H'[posOf i σ]:=by rw [ts,e1]; rfl
       rw [e3,getD_some e2];exact hobj _ _ _ e1 e2
      rw [dc Y] at U W;cases W;rw [mL,G4] at U;obtain ⟨o',ho',rfl⟩:=U;obtain ⟨r',hr',C⟩:=hR.at_ ho';rw [getD_some hr'];exact C.map B hrd fun g hg=>(hoth i r' g Y hr' hg).2
     rw [N9 (by rw [i_,fG]; omega),i_,fG] at U;rw [yP az] at W;have hil:σ.length+(i - H.length)<H'.length:=by
      have:=(r3.1 U).1;simp [mE,length_drop] at this; omega
     have hx:(H'.drop σ.length)[i - H.length]? = some H'[σ.length+(i - H.length)]:=by
      rw [C7]; exact p6 hil
     rw [sa hx] at U;have U:=B1 U;subst U;refine hobj (σ.length+(i - H.length)) _ r (p6 hil) ?_;rw [hHρ]; exact W
    ·intro i i' r r' g m d K h4;rcases hmix i r g m K with ⟨a1,a2,a3⟩ | ⟨j,a3,a4⟩ <;> rcases hmix i' r' g d h4 with ⟨b1,b2,b3⟩ | ⟨j',b3,b4⟩
     ·exact hR.inj _ _ _ _ g a3 b3 K h4
     ·exact absurd ⟨j',r',b3,h4⟩ (hoth i r g a2 a3 K).1
     ·exact absurd ⟨j,r,a3,K⟩ (hoth i' r' g b2 b3 h4).1
     rw [<- a4,<- b4,hR2.inj _ _ _ _ g a3 b3 K h4]
    ·intro i r g m d;rcases hmix i r g m d with ⟨_,_,a3⟩ | ⟨j,a3,_⟩
     ·have:=hR.sr i r g a3 d;exact ⟨this.1,w9 this.2.1 hext.size,this.2.2⟩
     have:=hR2.sr j r g a3 d;exact ⟨this.1,this.2.1,fun hz=>this.2.2 (.inl hz)⟩
    have hback:hQ (dJ (cx G (gB ρ σ ρ2) X) (gB ρ σ ρ2)) (jF (gL H σ) rs) us:=by
     refine mY (fun t ht a ha u hu=>htake a u (fun b I=>?_) hu) hrs';have:=hsh b I;simp at this;exact zH.1 this.1 t ht a ha
    subst hv;show Rt _ _ (K_ (jF (gL H σ) rs)) (BW us);generalize jF (gL H σ) rs=rs' at hback ⊢;cases hback with
    | nil=>exact ⟨[],rfl,.nil⟩
    | @cons t u l us m d=>
     cases d with
     | nil=>exact m
     | cons K h4=>exact ⟨_,rfl,.cons m (.cons K h4)⟩
   cases h
  cases h
 cases h
end
section
variable {P:Program} {T:List (Nat × TI)} {G:Gl} {O:ck} {n:Nat} {F:Fr} {w:World} {x y:Operand} {ty t:TypeId} {ρ:List RE} {H:AH} {fr:j9} {ro:Lv}
variable {r:SR} {f:Nat} {vs:List Value}
theorem My (hO:ay P G.shp O) (C:oh G ρ H w) (hf:o9 (cx G ρ w) ρ fr F) {a:List n8} (hvs:hQ (dJ (cx G ρ w) ρ) a vs) (h:Td O fr H f a=some r) (hob:∀ p ∈ r.ob,p) :
  (∃ fn,P.funcs[f]? = some fn/\(fn.name == "runtime.NumGoroutine")=false/\fn.body.isNone=false)/\kI P f vs.toArray w fun v Y=>fw G ro ρ w r F v Y:=by
 unfold Td at h;generalize tI H a=σ at h;simp only at h;split at h
 ·rename_i hck;simp at hck;obtain ⟨⟨hn,hai⟩,hcl⟩:=hck;split at h
  ·rename_i pre rs H' hrs;split at h
   ·rename_i hlen;cases h;have hlenH:=F4 hlen;have hai:=kn.1 hai;have hnd:=kQ.1 hn;have hclo:=ju.1 hcl;let Z':Nat->Prop:=fun b=>G.Z b\/(live ρ b/\¬ live (dL ρ σ) b)
    obtain ⟨hR',y⟩:=C.sub (σ:=σ) (Z':=Z') hn hcl (fun b D=>D.elim (C.z b) fun ⟨⟨i,r,c,d⟩,_⟩=>(C.sr i r b c d).2.1) (fun b c d hz=>hz.elim c fun L=>d L.1)
     (fun b c hz=>hz.elim (fun d=>by obtain ⟨i,r,L,B⟩:=hU c; exact (C.sr i r b L B).2.2 d) fun d=>d.2 c)
    obtain ⟨hfn,hrun⟩:=hO _ _ _ _ hrs hob;refine ⟨hfn,?_⟩;have hargs:hQ (dJ (cx ⟨G.shp,G.B0,Z'⟩ (dL ρ σ) w) (dL ρ σ)) (jF (posOf · σ) a) vs:=by
     refine mY (fun t ht a ha' v hv=>?_) hvs;refine Rd.mN (fun _ hp=>hp.c8 y) (fun s x o e=>?_) (fun _ _ _ _ h=>h.le y) (fun i T r I _=>iY (hai i (l_ ht ha' T)) I) hv;subst e;obtain ⟨A,k,k1,k2,k3,e⟩:=hv;exact ⟨A,k,(y.S _ k1).1,k2,k3.c8 y,e⟩
    refine (hrun ⟨G.shp,G.B0,Z'⟩ _ w vs rfl hR' hargs).mono fun v Y ⟨us,hv,ρ2,Q,hext2,hbx2,hrs',hkeep⟩=>?_;obtain ⟨hk,U⟩:=hkeep rfl;have hl2:H'.length=ρ2.length:=Q.obj.length;have hHρ:H.length=ρ.length:=C.obj.length;have hnew:∀ (b j:Nat) (r:RE),σ.length<=j->ρ2[j]? = some r->r.g? = some b->w.heap.size<=b:=fun b j r hj c d=>by
     by_cases D:b<w.heap.size
     ·by_cases hs:live (dL ρ σ) b
      ·obtain ⟨i,r',L,B⟩:=hs;have:=Q.inj _ _ _ _ b c (U i r' L) d B;have h6:i<σ.length:=by simpa [dL] using (r3.1 L).1
       omega
      exact absurd ⟨j,r,c,d⟩ (hext2.x4 b D hs).1
     omega
    have hN:∀ (i:Nat) (r:RE),ρ[i]? = some r->(ρ++ρ2.drop σ.length)[i]? = some r:=fun i r h=>by
     rw [C9 (r3.1 h).1]; exact h
    have hNge:∀ (i:Nat),ρ.length<=i->(ρ++ρ2.drop σ.length)[i]? = ρ2[σ.length+(i - ρ.length)]?:=fun i T=>by
     rw [N9 T,C7]
    have m:∀ (i:Nat) (r:RE) (g:Nat),(ρ++ρ2.drop σ.length)[i]? = some r->r.g? = some g->(i<ρ.length/\ρ[i]? = some r)\/(ρ.length<=i/\ρ2[σ.length+(i - ρ.length)]? = some r/\w.heap.size<=g):=fun i r g c d=>by
     by_cases T:i<ρ.length
     ·rw [C9 T] at c; exact .inl ⟨T,c⟩
     rw [hNge i az] at c;exact .inr ⟨az,c,hnew g _ r az c d⟩
    have J:u1 ρ w (ρ++ρ2.drop σ.length) Y:=⟨hk.os,hk.tape,hk.output,hk.size,fun b D hl=>⟨fun ⟨i,r,c,d⟩=>(m i r b c d).elim (fun h=>hl ⟨i,r,h.2,d⟩) fun h=>by omega,hk.block b D aa⟩⟩;have V:=J.le C.lo;have hagr:lu ρ (ρ++ρ2.drop σ.length):=fun i r h _=>hN i r h;have hτ:∀ (j:Nat) (r:RE),ρ2[j]? = some r->r ≠ .no->(ρ++ρ2.drop σ.length)[gL H σ j]? = some r:=fun j r hj hne=>by
     unfold gL;by_cases hjn:j<σ.length
     ·have D:ble σ.length j=false:=by rw [<- not_eq_true,ble_eq]; omega
      rw [D];have hs:(dL ρ σ)[j]? = some ((dL ρ σ)[j]'(by simpa [dL] using hjn)):=p6 _;have c:=U j _ hs;rw [hj] at c;rw [<- B1 c] at hs;exact hN _ _ (fX hs hne)
     have D:ble σ.length j=true:=by rw [ble_eq]; omega
     rw [D];show (ρ++ρ2.drop σ.length)[H.length+(j - σ.length)]? = some r;rw [hNge _ az,hHρ,<- hj];congr 1; omega
    have hS:(cx ⟨G.shp,G.B0,Z'⟩ ρ2 Y).le (cx G (ρ++ρ2.drop σ.length) Y):=⟨rfl,rfl,fun b D=>⟨⟨D.1,by
     rintro ⟨i,r,c,d⟩;rcases m i r b c d with ⟨L,B⟩ | ⟨_,B,_⟩
     ·by_cases hs:live (dL ρ σ) b
      ·obtain ⟨j,r',h5,h6⟩:=hs;exact D.2.1 ⟨j,r',U j r' h5,h6⟩
      exact D.2.2 (.inr ⟨⟨i,r,B,d⟩,hs⟩)
     exact D.2.1 ⟨_,r,B,d⟩,fun hz=>D.2.2 (.inl hz)⟩,rfl⟩,fun _ _ _=>rfl⟩
    have N:∀ (a:AV) (u:Value),Rd (cx ⟨G.shp,G.B0,Z'⟩ ρ2 Y) ρ2 a u->Rd (cx G (ρ++ρ2.drop σ.length) Y) (ρ++ρ2.drop σ.length) (a.mN (gL H σ)) u:=fun a u hu=>by
     refine Rd.mN (fun _ hp=>hp.c8 hS) (fun s x o e=>?_) (fun _ _ _ _ h=>h.le hS) (fun i T r I hne=>hτ i r I hne) hu;subst e;obtain ⟨A,k,k1,k2,k3,e⟩:=hu;exact ⟨A,k,(hS.S _ k1).1,k2,k3.c8 hS,e⟩
    have hobj:∀ (j:Nat) (o:AO) (r:RE),H'[j]? = some o->ρ2[j]? = some r->OR (cx G (ρ++ρ2.drop σ.length) Y) (ρ++ρ2.drop σ.length) (o.mN (gL H σ)) r:=fun j o r ho I=>by
     obtain ⟨r',W,K⟩:=Q.at_ ho;rw [I] at W; cases W;cases o with
     | gone=>exact K
     | loc=>trivial
     | q7 s f=>
      obtain ⟨g,rfl,h⟩:=K;exact ⟨g,rfl,h.c8 hS rfl⟩
     | p7 l=>
      obtain ⟨g,rfl,h⟩:=K;exact ⟨g,rfl,h.map (g0:=fun a=>a.mN (gL H σ)) (sO l) (fun q hq u hu=>N q.2 u hu) rfl⟩
     | box t cs=>
      obtain ⟨g,vs',rfl,c,d⟩:=K;exact ⟨g,vs',rfl,c,pb (fun a ha u hu=>N a u hu) d⟩
     | y9 t s n xs=>
      obtain ⟨g,vs',rfl,B,h5,h6⟩:=K;exact ⟨g,vs',rfl,B,h5.c8 hS,h6⟩
     | row t s xs=>
      obtain ⟨c,d,L⟩:=K;exact ⟨c,d,L.imp id fun ⟨g,cap,k,sp,e,B,h5,h6⟩=>⟨g,cap,k,sp,e,B,h5.c8 hS,h6⟩⟩
    refine ⟨ρ++ρ2.drop σ.length,⟨J,fun i r _ I=>hN i r I,fun i r _ I=>⟨hN i r I,fun g hg=>hk.block g (C.sr i r g I hg).2.1 aa⟩,fun i g T=>hN i _ T⟩,⟨?_,?_,?_,fun b D=>w9 (C.z b D) J.size,z7 C.b0 J.size,C.tb.c8 V⟩,hf.c8 V hagr,?_,Yh.qp hrs'⟩
    ·refine hQ.append (df C.obj.length fun i o r ho I=>?_) (df (by simp [mE,hl2]) fun i o r ho I=>?_)
     ·obtain ⟨r',W,K⟩:=C.at_ ho;rw [I] at W; cases W;exact K.c8 V hagr fun g hg=>hk.block g (C.sr i r g I hg).2.1 aa
     rw [C7] at I;have hil:σ.length+i<H'.length:=by
      have:=(r3.1 I).1; omega
     have hx:(H'.drop σ.length)[i]? = some H'[σ.length+i]:=by
      rw [C7]; exact p6 hil
     rw [sa hx] at ho;have ho:=B1 ho;subst ho;exact hobj (σ.length+i) _ r (p6 hil) I
    ·intro i i' r r' g c d L B;rcases m i r g c L with ⟨a1,a2⟩ | ⟨a1,a2,a3⟩ <;> rcases m i' r' g d B with ⟨b1,b2⟩ | ⟨b1,b2,b3⟩
     ·exact C.inj _ _ _ _ g a2 b2 L B
     ·have:=(C.sr i r g a2 L).2.1; omega
     ·have:=(C.sr i' r' g b2 B).2.1; omega
     have:=Q.inj _ _ _ _ g a2 b2 L B; omega
    ·intro i r g c d;rcases m i r g c d with ⟨_,a3⟩ | ⟨_,a3,_⟩
     ·have:=C.sr i r g a3 d;exact ⟨this.1,w9 this.2.1 J.size,this.2.2⟩
     have:=Q.sr _ r g a3 d;exact ⟨this.1,this.2.1,fun hz=>this.2.2 (.inl hz)⟩
    have X:hQ (dJ (cx G (ρ++ρ2.drop σ.length) Y) (ρ++ρ2.drop σ.length)) (jF (gL H σ) rs) us:=mY (fun t ht a ha u hu=>N a u hu) hrs';subst hv;show Rt _ _ (K_ (jF (gL H σ) rs)) (BW us);generalize jF (gL H σ) rs=rs' at X ⊢;cases X with
    | nil=>exact ⟨[],rfl,.nil⟩
    | @cons t u l us c d=>
     cases d with
     | nil=>exact c
     | cons L B=>exact ⟨_,rfl,.cons c (.cons L B)⟩
   cases h
  cases h
 cases h
theorem LD (T:ay P G.shp O) (W:oh G ρ H w) (hf:o9 (cx G ρ w) ρ fr F) {args:List n8} (ha:hQ (dJ (cx G ρ w) ρ) args vs) (h:Rv O ro fr H f args=some r) (J:∀ p ∈ r.ob,p) :
  (∃ X,P.funcs[f]? = some X/\(X.name == "runtime.NumGoroutine")=false/\X.body.isNone=false)/\kI P f vs.toArray w fun v w'=>fw G ro ρ w r F v w':=by
 unfold Rv at h;split at h
 ·grind [My]
 split at h
 ·rename_i r' Y Z;cases h;refine wM T W hf (fun G' σ hs c m hl=>?_) (fun id u r Q hne=>nN.1 Y id u) Z J;refine FT (fun t U a B v D=>?_) ha;have u:∀ i ∈ (a.vw H).ids,i ∈ σ:=fun i K=>m i (l_ (yG U) (Eh B) K);by_cases q:∃ id,a = .own id\/∃ o k,a = .sub id o k
  ·obtain ⟨id,I⟩:=q;have L:=uO U B I;cases C:a.vw H with
   | fz s xs=>
    refine lV (oI W c rfl D (fun g b len z ⟨N,V,h1⟩=>?_) C);have e:N = id:=by rcases I with rfl | ⟨o,k,rfl⟩ <;> rcases V with V | ⟨_,_,V⟩ <;> cases V <;> rfl
    subst e;exact hl N L g b len z h1
   | dead=>exact Rd.one D
   | _=>rcases I with rfl | ⟨o,k,rfl⟩ <;> simp [AV.vw] at C <;> split at C <;> cases C
  have e:a.vw H=a:=by
   cases a <;> first | rfl | exact absurd ⟨_,.inl rfl⟩ q | exact absurd ⟨_,.inr ⟨_,_,rfl⟩⟩ q
  rw [e] at u ⊢;refine Rd.mN (fun _ j=>j.c8 c) (fun s x o e=>?_) (fun _ _ _ _ h=>h.le c) (fun i K r Q _=>iY (u i K) Q) D;subst e;obtain ⟨A,d,l,n,y,e⟩:=D;exact ⟨A,d,(c.S _ l).1,n,y.c8 c,e⟩
 refine wM T W hf (fun G' σ hs c m hl=>?_) aa h J;refine mY (fun t U a B v D=>?_) ha;refine Rd.mN (fun _ j=>j.c8 c) (fun s x o e=>?_) (fun _ _ _ _ h=>h.le c) (fun i K r Q _=>iY (m i (l_ U B K)) Q) D;subst e;obtain ⟨A,d,l,n,y,e⟩:=D;exact ⟨A,d,(c.S _ l).1,n,y.c8 c,e⟩
theorem QC {c:Cx} {s:Sh} {z:List Value} (a:hQ (Rd c ρ) (cellsOf s (c5 s)) z) (e:s.size=1):∀ m:Nat,p0 c ((replicate m (c5 s)).flatMap (cellsOf s)) (replicate m (z.headD undef)):=by
 have g:=ku (ri s _) a;have d:=a.length;rw [dz,e] at d;obtain ⟨u,rfl⟩:∃ u,z=[u]:=by
  cases z with
  | nil=>simp at d
  | cons u r=>
   grind
 intro m;induction m with
 | zero=>exact .nil
 | succ m h=>
  exact g.append h
variable {z:Operand}
def KL (hT:bz P G.shp T) (hR:oh G ρ H w) (U:o9 (cx G ρ w) ρ fr F) {y:Operand} (h:TC T ro fr H t x y z=some r) :
  ∃ C,(ji P n F w (.insert t x y z) ty C /\ ji P n F w (.mapUpdate t x y z) ty C)/\fw G ro ρ w r F undef C:=by
 unfold TC at h;split at h
 ·rename_i s id k v Z hx hy hz;split at h
  ·rename_i O f hO2;split at h
   ·rename_i hss;subst hss;split at h
    ·rename_i x' q I J hfz;cases h;simp [<- not_eq_true,bQ] at I;obtain ⟨⟨hro,o⟩,K⟩:=I;obtain ⟨hm,hk,_⟩:=(hT _ _ Z).2;obtain ⟨va,h1,g,hg,rfl⟩:=aw U hx;obtain ⟨vb,h3,h4⟩:=aw U hy;cases h4 with | int=>
     obtain ⟨V,h5,D⟩:=aw U hz;have L:=cq hO2 aa;obtain ⟨r',m,hor⟩:=hR.at_ L;rw [hg] at m; cases m;obtain ⟨g',e,a,c,k1,k2,k3⟩:=hor;cases e;obtain ⟨p,j1,j2,W,j4,j5,j6,j7,j8⟩:=qa (ro:=ro) hfz hR U;obtain ⟨C,a',c',hsk,d,hg',hl',N⟩:=VT (P:=P) (n:=n) (ty:=ty) h1 h3 h5 hm hk k1 k2;have u:p[id]? = some (.blk g):=by rw [j8 id K]; exact hg
     have hH1:q.2[id]? = some (.q7 O f):=j7 id _ K L aa;have Q:u1 p w p C:=⟨d.os,d.tape,d.output,d.size,fun b hb hl=>⟨hl,d.block b hb (by
      simp;rintro rfl;exact hl ⟨id,_,u,rfl⟩)⟩⟩
     have A:=Q.le W.lo;have hV:V1 (cx G p C) O x' V:=by
      cases v with
      | c a=>
       have D:Rd (cx G ρ w) ρ a V:=D;have:=aV J (j6 [a] [V] (fun i hi=>hi) (.cons D .nil));refine ⟨[V],this.c8 A,.inr ⟨?_,rfl⟩⟩;simpa [ow] using o
      | agg l=>
       obtain ⟨us,e,D⟩:=D;have:=aV J (j6 l us (fun i hi=>hi) D);exact ⟨us,this.c8 A,.inl ⟨o,e⟩⟩
     have B:=W.put hH1 u rfl d (o':=.q7 O fun j=>if j=k then some x' else f j) ⟨g,rfl,a',c',hg',hl',fun q=>by
      rw [N q];show VO _ _ _ (if q=k then some x' else f q);by_cases X:q=k
      ·rw [eg X,eg X]; exact hV
      rw [dc X,dc X];have Y:=k3 q;cases hgm:getM q a.toList <;> cases hfk:f q <;> rw [hgm,hfk] at Y
      ·trivial
      ·exact Y
      ·exact Y
      exact V1.c8 Y (j2.trans A)⟩
     refine ⟨C,hsk,p,j1.trans ⟨B.2,fun _ _ _ h=>h,fun j r' hj m=>⟨m,fun gx S=>d.block gx (W.sr j r' gx m S).2.1 ?_⟩,fun _ _ h=>h⟩,B.1,j4.c8 A (lu.refl _),trivial,aa⟩;simp;rintro rfl;have:=W.inj j id _ _ _ m u S rfl;subst this; rw [hro] at hj; cases hj
    cases h
   cases h
  cases h
 cases h
def FQ (hT:bz P G.shp T) (s:oh G ρ H w) (C:o9 (cx G ρ w) ρ fr F) {y:Operand} (h:Uc T ro fr H t x y z=some r) :
  ∃ p,(ji P n F w (.insert t x y z) ty p /\ ji P n F w (.mapUpdate t x y z) ty p)/\fw G ro ρ w r F undef p:=by
 unfold Uc at h;split at h
 ·rename_i id k a K hx hy hz;split at h
  ·rename_i l L;split at h
   ·rename_i N;cases h;obtain ⟨hm,hk,_⟩:=(hT _ _ K).2;obtain ⟨va,h1,g,D,rfl⟩:=aw C hx;obtain ⟨vb,h3,h4⟩:=aw C hy;cases h4 with | int=>
    obtain ⟨vz,h5,h6⟩:=aw C hz;have u:=cq L aa;obtain ⟨Z,i,Q⟩:=s.at_ u;rw [D] at i; cases i;obtain ⟨g',e,a',c,k1,k2,k3⟩:=Q;cases e;obtain ⟨p,S,c',U,d,V,W,v⟩:=VT (P:=P) (n:=n) (ty:=ty) h1 h3 h5 hm hk k1 k2;have A:u1 ρ w ρ p:=⟨d.os,d.tape,d.output,d.size,fun b hb f=>⟨f,d.block b hb (by
     simp;rintro rfl;exact f ⟨id,_,D,rfl⟩)⟩⟩
    have o:=A.le s.lo;have m:=s.put u D rfl d (o':=.p7 ((k,a) :: l)) ⟨g,rfl,S,c',V,W,fun q=>by
     rw [v q];simp [u0];by_cases I:q=k
     ·rw [eg I,eg I]; exact Rd.c8 h6 o (lu.refl _)
     rw [dc I,dc I];have J:=k3 q;cases X:getM q a'.toList <;> cases Y:u0 q l <;> rw [X,Y] at J
     ·trivial
     ·exact J
     ·exact J
     exact Rd.c8 J o (lu.refl _)⟩
    refine ⟨p,U,ρ,⟨m.2,fun _ _ _ h=>h,fun j Z O i=>⟨i,fun gx B=>d.block gx (s.sr j Z gx i B).2.1 ?_⟩,fun _ _ h=>h⟩,m.1,C.c8 o (lu.refl _),trivial,aa⟩;simp;rintro rfl;have:=s.inj j id _ _ _ i D B rfl;subst this; rw [N] at O; cases O
   cases h
  cases h
 cases h
def tu (hT:bz P G.shp T) (d:oh G ρ H w) (e:o9 (cx G ρ w) ρ fr F) {y:Operand} (h:Jj T ro fr H t x y z=some r) :
  ∃ a,(ji P n F w (.insert t x y z) ty a /\ ji P n F w (.mapUpdate t x y z) ty a)/\fw G ro ρ w r F undef a:=by
 unfold Jj at h;split at h
 ·rename_i g c;cases h;exact KL hT d e c
 exact FQ hT d e h
theorem Yx (hT:bz P G.shp T) (hO:ay P G.shp O) (D:oh G ρ H w) (B:o9 (cx G ρ w) ρ fr F) {op:Op} (h:svB T O ro fr H op=some r) (I:∀ p ∈ r.ob,p):fp P n F w op ty (fw G ro ρ w r F):=by
 cases op <;> simp [svB] at h;case box t x=>
  split at h
  ·rename_i v hx;cases h;obtain ⟨u,C,d⟩:=aw B hx;obtain ⟨us,L,N⟩:=dJ.cells d;exact .inl (.inl ⟨_,_,R.box C L,xS D B N⟩)
  cases h
 case alloc t=>
  split at h
  ·rename_i ti hti;cases h;obtain ⟨⟨_,zs,hz,X⟩,_⟩:=hT _ _ hti;exact .inl (.inl ⟨_,_,R.alloc hz,xS D B (kx X)⟩)
  cases h
 case store t x v=>
  split at h
  ·rename_i a b ti hx hv hti;split at h
   ·rename_i hsz;obtain ⟨va,C,d⟩:=aw B hx;obtain ⟨vb,L,N⟩:=aw B hv;obtain ⟨Q,h5,W⟩:=CL (ty:=ty) hT D B hti hsz d N C L h I;exact .inr ⟨rfl,Q,h5,W⟩
   cases h
  cases h
 case buildSlice t m Y=>
  split at h
  ·rename_i e s sz z l Z hl;obtain ⟨hu,hs⟩:=(hT _ _ Z).2;obtain ⟨j,⟨zz,hz,X⟩,_⟩:=hs s rfl;have hsize:(P.info? e).map (·.size)=some s.size:=by
    cases hq:P.info? e with
    | none=>simp [hq] at hz
    | some i=>simp [hq,D6,Option.some.injEq,Prod.mk.injEq] at hz ⊢; exact hz.2.1
   split at h
   ·rename_i xs q hel hfz;split at h
    ·rename_i hck;simp only [pe] at hck;have hm:=r7 hck.1.1;have hsm:=F4 hck.1.2;have hbm:=F4 hck.2;obtain ⟨pv,C,d⟩:=kP B hl;obtain ⟨ρ1,k1,k2,k3,k4,k5,k6,_,_⟩:=qa hfz D B;obtain ⟨vss,L,N,h5,W⟩:=pY hel d fun p V us hus=>k6 _ us (fun i hi=>ui V hi) hus;have A:=R.buildSlice (P:=P) (n:=n) (F:=F) (w:=w) (ty:=ty) (m:=m) hu hsize (Km hz) C L N az hsm;have e0:Y.toList.toArray=Y:=by simp
     rw [e0] at A;have S:=Kp.alloc w (.cells vss.flatten.toArray e);cases m with
     | zero=>
      cases h;refine .inl (.inl ⟨_,_,A,ρ,s8.kp D S,D.kp S,B.kp S,Pd.em (a:=some ⟨w.heap.size,0,none⟩) rfl,aa⟩)
     | succ m=>
      cases h;have hfl:vss.flatten.length=(m+1)*s.size:=by rw [<- W.length,cz,hm]
      obtain ⟨ρ2,j1,j2,j3,j4⟩:=sJ (ro:=ro) (sp:=[]) (cap:=m+1) k3 k4 S (by rw [A3]; exact J6 w _) j (by rw [hm]; exact hbm) W (by rw [A3]; exact hfl) az (by
       have:=R0 (m+1) (iF s);simp [maxLen]; omega)
      rw [hm] at j4;exact .inl (.inl ⟨_,_,A,ρ2,k1.trans j1,j2,j3,j4,aa⟩)
    cases h
   cases h
  cases h
 case makeSlice t a b=>
  split at h
  ·rename_i e s sz z k k' Z hx hy;split at h
   ·rename_i hs1;cases h;obtain ⟨hu,hs⟩:=(hT _ _ Z).2;obtain ⟨j,⟨zz,hz,X⟩,_⟩:=hs s rfl;have hs1:=r7 hs1;have g0:=I _ (z6); have g1:=I _ (w8 _ (z6)); have g2:=I _ (w8 _ (w8 _ (u3 _)));subst g2;obtain ⟨m,rfl⟩:=x6 g0;obtain ⟨va,C,d⟩:=aw B hx;obtain ⟨vb,L,N⟩:=aw B hy;cases d with | int=>
    cases N with | int=>
    have hmb:m*s.bytes<=140737488355328:=by
     have e9:((m*s.bytes:Nat):Int)=(m:Int)*s.bytes:=by simp
     omega
    have hml:m<=maxLen:=by
     have:=R0 m (iF s);simp [maxLen]; omega
    obtain ⟨i,zv,hq,hzv,hzc,hsz,hby⟩:=sj hz;obtain ⟨Q,A,hown,hgr⟩:=run_make_full (P:=P) w w.heap.size t e i zv s.size hu hq hzv hsz .i64 .i64 m (by rw [hby,Q9]; omega) hml (sh _);have hmade:(madeCells zv.cells (m*s.size)).toList=replicate m (zz.headD undef):=by
     have hzl:=(kx (c:=cx G ρ w) (ρ:=ρ) X).length;rw [dz,hs1] at hzl;obtain ⟨u,rfl⟩:∃ u,zz=[u]:=by
      cases zz with
      | nil=>simp at hzl
      | cons u r=>
       cases r with
       | nil=>exact ⟨u,rfl⟩
       | cons _ _=>simp at hzl
     rw [hzc,hs1]; simp [madeCells,Nat.mod_one,List.map_const']
    rw [hmade] at hown;have S:=Kp.Mw hgr;rcases qq hown with ⟨h0,_⟩ | ⟨g,cap,sp,hv,j1,j2,j3,j4⟩
    ·cases h0
    injection hv with e1 e2 e3;cases e1;subst e3;have hrl:(replicate m (c5 s)).length=m:=L6;obtain ⟨ρ2,q1,q2,q3,q4⟩:=sJ (ro:=ro) (xs:=replicate m (c5 s)) D B S j1 j (by rw [hrl]; exact hmb) (QC (kx (ρ:=ρ) X) hs1 m) j2 (by rw [hrl]; exact j3) j4;rw [hrl] at q4;exact .inl (.inl ⟨_,Q,fun a _ _ _ _ ha=>by simp [execOp,ha.ev C,ha.ev L,A],ρ2,q1,q2,q3,q4,aa⟩)
   cases h
  cases h
 case call cl=>
  split at h
  ·rename_i K;split at h
   ·rename_i x y t t' J U;split at h
    ·rename_i a b htt hx hy;have htt:=r7 htt;subst htt;obtain ⟨va,C,d⟩:=aw B hx;obtain ⟨vb,L,N⟩:=aw B hy;obtain ⟨v,Q,h5,W⟩:=kr (P:=P) (n:=n) (ty:=ty) hT D B h I d N C L;have e:cl={ callee:=.builtin .append,args:=#[x,y],argTypes:=#[t,t] }:=by
      cases cl; simp at K J U; subst K;simp;exact ⟨G6 (by simpa using J),G6 (by simpa using U)⟩
     rw [e];exact .inl (.inl ⟨v,Q,h5,W⟩)
    ·rename_i a b htt hx hy;obtain ⟨va,C,d⟩:=aw B hx;obtain ⟨vb,L,N⟩:=aw B hy;obtain ⟨v,Q,h5,W⟩:=vZ (P:=P) (n:=n) (ty:=ty) hT D B h I d N C L;have e:cl={ callee:=.builtin .append,args:=#[x,y],argTypes:=#[t,t'] }:=by
      cases cl; simp at K J U; subst K;simp;exact ⟨G6 (by simpa using J),G6 (by simpa using U)⟩
     rw [e];exact .inl (.inl ⟨v,Q,h5,W⟩)
    cases h
   cases h
  ·rename_i x K;split at h
   ·rename_i f l hl;split at h
    ·rename_i r' hce;cases h;obtain ⟨x',xs,vs,bs,cap,C,d,L,N,h5⟩:=mz B hl;obtain ⟨⟨fn,W,h7,h8⟩,A⟩:=LD hO D B h5 hce I;have e:cl={ callee:=.value x',args:=xs.toArray,argTypes:=cl.argTypes }:=by
      cases cl; simp at C d; subst C; subst d; rfl
     rw [e];exact .inl (.inr ⟨_,_,E.Vd L N W h7 h8,A⟩)
    unfold SC at h;split at h
    ·rename_i q hfz;split at h
     ·rename_i f' l' hl';split at h
      ·rename_i r' hcp;cases h;obtain ⟨ρ',k1,k2,k3,k4,k5,_,_,_⟩:=iT hfz D B;obtain ⟨x',xs,vs,bs,cap,C,d,L,N,h5⟩:=mz k4 hl';obtain ⟨⟨fn,W,h7,h8⟩,A⟩:=xm hO k3 h5 hcp I;have e:cl={ callee:=.value x',args:=xs.toArray,argTypes:=cl.argTypes }:=by
        cases cl; simp at C d; subst C; subst d; rfl
       rw [e];exact .inl (.inr ⟨_,_,E.Vd L N W h7 h8,A.mono fun v Q V=>⟨ρ',k1.trans (s8.kp k3 V.1),k3.kp V.1,k4.kp V.1,V.2.1,V.2.2⟩⟩)
      cases h
     cases h
    cases h
   cases h
  cases h
 case slice t x lo hi mx=>
  split at h
  ·rename_i i hx;split at h
   ·rename_i q hfz;split at h
    ·rename_i r' hpv;cases h;obtain ⟨ρ',k1,k2,k3,k4,k5,_,_,_⟩:=iT hfz D B;rcases vH (ty:=ty) hT hO k3 k4 hpv I with ⟨v,Q,C,d⟩ | ⟨f,args,C,d⟩
     ·exact .inl (.inl ⟨v,Q,C,ρ',k1.trans (s8.kp k3 d.1),k3.kp d.1,k4.kp d.1,d.2.1,d.2.2⟩)
     exact .inl (.inr ⟨f,args,C,d.mono fun v Q V=>⟨ρ',k1.trans (s8.kp k3 V.1),k3.kp V.1,k4.kp V.1,V.2.1,V.2.2⟩⟩)
    cases h
   cases h
  cases h
 case makeMap t o=>
  cases o with
  | some o=>cases h
  | none=>
   simp only at h;split at h
   ·rename_i s Z;cases h;have S:=Kp.alloc w (.map #[] 0);have hext:u1 ρ w (ρ++[.blk w.heap.size]) (w.alloc (.map #[] 0)):=u1.p4 S fun g hg=>by cases hg; exact sh _
    have hle:=hext.le D.lo;exact .inl (.inl ⟨_,_,R.tE,ρ++[.blk w.heap.size],s8.p4 D S (fun g hg=>by cases hg; exact sh _),D.p4 S (fun g hg=>by cases hg; exact ⟨sh _,aa⟩) ⟨_,rfl,#[],0,(Go.MapKept.heap_alloc w _).1,aa,fun _=>trivial⟩,B.c8 hle (gO _ _),⟨w.heap.size,by rw [D.obj.length]; simp,rfl⟩,aa⟩)
   ·rename_i Z;cases h;have S:=Kp.alloc w (.map #[] 0);have hext:u1 ρ w (ρ++[.blk w.heap.size]) (w.alloc (.map #[] 0)):=u1.p4 S fun g hg=>by cases hg; exact sh _
    have hle:=hext.le D.lo;exact .inl (.inl ⟨_,_,R.tE,ρ++[.blk w.heap.size],s8.p4 D S (fun g hg=>by cases hg; exact sh _),D.p4 S (fun g hg=>by cases hg; exact ⟨sh _,aa⟩) ⟨_,rfl,#[],0,(Go.MapKept.heap_alloc w _).1,aa,fun _=>trivial⟩,B.c8 hle (gO _ _),⟨w.heap.size,by rw [D.obj.length]; simp,rfl⟩,aa⟩)
   cases h
 case insert t x y z=>
  obtain ⟨Q,C,d⟩:=tu (n:=n) (ty:=ty) hT D B h;exact .inr ⟨rfl,Q,C.1,d⟩
 case mapUpdate t x y z=>
  obtain ⟨Q,C,d⟩:=tu (n:=n) (ty:=ty) hT D B h;exact .inr ⟨rfl,Q,C.2,d⟩
 all_goals cases h
end
section
variable {P:Program} {T:List (Nat × TI)} {G:Gl} {O:ck} {n:Nat} {F:Fr} {w:World} {x y:Operand} {ty t t':TypeId} {ρ:List RE} {H:AH} {fr:j9} {ro:Lv}
variable {e:TypeId} {r:SR} {va:Value} {a:AV}
theorem Ld (hT:bz P G.shp T) (C:oh G ρ H w) (y:o9 (cx G ρ w) ρ fr F) {h:Int} {N:Sh} {sz:Nat} {z:List AV} {O:Operand} (Q:bj T t=some ⟨.sl e (some N),sz,z⟩) (o:adw ro fr H a h=some r) (D:∀ p ∈ r.ob,p) (ha:Rd (cx G ρ w) ρ a va) (hx:ev F x=some va) (hy:ev F O=some (.int .i64 h)) :
  ∃ v w',aL P n F w (.slice t x none (some O) none) ty v w' /\ fw G ro ρ w r F v w':=by
 obtain ⟨hu,hs⟩:=(hT _ _ Q).2;obtain ⟨_,⟨zz,S,_⟩,_⟩:=hs _ rfl;have f:(P.info? e).map (·.size)=some N.size:=by
  cases hq:P.info? e with
  | none=>simp [hq] at S
  | some q=>simp [hq] at S; simp [S.2.1]
 unfold adw at o;split at o
 ·rename_i id;split at o
  ·rename_i er s k I;split at o
   ·rename_i A;cases o;simp at A;have o1:=D _ (.head _);have o2:=D _ (.tail _ (.head _));obtain ⟨j,rfl⟩:=x6 o1;have U:j<=k.length:=by omega
    obtain ⟨_,J,_⟩:=nI C I;obtain ⟨u,m⟩:=dZ C I;have K:(k.take j).length=j:=by rw [s9]; omega
    have L:(k.take j).length*s.bytes<=140737488355328:=z7 (H4 _ az) m;rcases cc C I with ⟨h0,h1⟩ | ⟨g,i,c,sp,V,h3,h4,h5,h6,h7⟩
    ·rcases ha with ⟨_,_,_,_,B,_⟩ | ⟨_,a0,rfl⟩
     ·grind
     have W:j=0:=by rw [h1] at U; simpa using U
     subst W;have d:=R.mc (P:=P) (n:=n) (w:=w) (ty:=ty) (a':=a0) hx hy hu f aa (sh 0);obtain ⟨X,Y,Z⟩:=jV (r':=.emp) (zs:=k.take 0) C I A (Kp.refl w) aa (by rintro g ⟨⟩) (fun _=>⟨u,L,.inl ⟨rfl,rfl⟩⟩);exact ⟨_,w,d,_,X,Y,Z fr F y,.inr ⟨E8 J,a0,rfl⟩,aa⟩
    rcases ha with ⟨_,_,_,_,B,rfl⟩ | ⟨B,_⟩
    ·rw [V] at B; cases B;have e0:(if i=0 then (some (⟨g,0,none⟩:Addr)) else (some (⟨g,0,none⟩:Addr)).map (·.add (0*N.size)))=some ⟨g,0,none⟩:=by
      split
      ·rfl
      simp [Addr.add]
     have d:=R.mc (P:=P) (n:=n) (w:=w) (ty:=ty) hx hy hu f e0 (show j<=i by omega);rw [O5,O5] at d;have hcl:c.length=k.length*s.size:=by rw [<- h4.length,cz]
     have hmul:j*s.size<=k.length*s.size:=H4 _ U;obtain ⟨X,Y,Z⟩:=jV (r':=.row g i (k.take j).length s.size) (zs:=k.take j) (e':=er) C I A (Kp.refl w) aa (fun g' b=>by cases b; exact .inl ⟨_,V,rfl⟩) (fun l=>⟨u,L,.inr ⟨g,i,c.take (j*s.size),c.drop (j*s.size)++sp,rfl,by rw [<- I4,D5]; exact h3,(bU h4 j).c8 l,by rw [<- I4,D5]; exact h5,az,h7⟩⟩);refine ⟨_,w,d,_,X,Y,Z fr F y,.inl ⟨g,i,(k.take j).length,s.size,E8 J,by rw [K]⟩,aa⟩
    rw [V] at B; cases B
   cases o
  cases o
 cases o
def R.akN {A B:Option Addr} {c f d g z:Nat} (o:ev F x=some (.slice A c f)) (p:ev F y=some (.slice B d g)) (q:P.underlying t=some (.slice e)) (s:(P.info? e).map (·.size)=some z) (u:Nat.min d c=0) :
  aL P n F w (.call { callee:=.builtin .copy,args:=#[x,y],argTypes:=#[t,t'] }) ty (goInt 0) w:=fun _ _ _ _ _ k=>by
 cases m:P.info? e with
 | none=>simp [m] at s
 | some i=>
  have C:∀ a:Addr,(loadCells a 0).run P w = .ok #[] w:=fun a=>T5 (P:=P) w a [] (fun j v h=>by simp at h);have D:(Builtin.copy_ #[t,t'] ty #[.slice A c f,.slice B d g]).run P w = .ok (goInt 0) w:=by
   cases A <;> cases B <;> simp [Builtin.copy_,A5 q,Builtin.lenOf,Builtin.firstCells,sizeOf,typeInfo,m,u,C,storeCells]
  simp [execOp,resolve,invoke,builtin,k.ev o,k.ev p,D]
def Gj (hT:bz P G.shp T) (S:oh G ρ H w) (hf:o9 (cx G ρ w) ρ fr F) {b:AV} {vb:Value} (K:NF T ro H t t' a b=some r) (ha:Rd (cx G ρ w) ρ a va) (hb:Rd (cx G ρ w) ρ b vb) (hx:ev F x=some va) (hy:ev F y=some vb) :
  ∃ v l,aL P n F w (.call { callee:=.builtin .copy,args:=#[x,y],argTypes:=#[t,t'] }) ty v l /\ fw G ro ρ w ⟨r.v,fr,r.H,r.ob,r.fc⟩ F v l:=by
 unfold NF at K;split at K
 ·rename_i id e s sz z e' so sz' z' hft hft';obtain ⟨hu,hs⟩:=(hT _ _ hft).2;obtain ⟨_,⟨zz,hz,_⟩,_⟩:=hs _ rfl;have J:(P.info? e).map (·.size)=some s.size:=by
   cases hq:P.info? e with
   | none=>simp [hq] at hz
   | some q=>simp [hq] at hz; simp [hz.2.1]
  split at K
  ·rename_i er p d o hH hys;split at K
   ·rename_i hss;subst hss;split at K
    ·rename_i O;cases K;simp at O;obtain ⟨A,k,u,rfl,s1,s2,s3,s4⟩:=pP S hys hb;obtain ⟨hshp,L⟩:=dZ S hH;have hI:a7 ((min o.length d.length:Nat):Int):=by
      have:=R0 d.length (iF p);constructor <;> omega
     have hHs:=cq hH aa;have same:min o.length d.length=0->o.take d.length++d.drop o.length=d:=fun D=>by
      rcases Nat.le_total o.length d.length with hle | hle
      ·have:o.length=0:=by rw [E3 hle] at D; exact D
       rw [this,T1,B7 this]; simp
      have:d.length=0:=by rw [R1 hle] at D; exact D
      rw [B7 this]; simp
     have U:∀ (A':Option Addr) (m c:Nat),va = .slice A' m c->m=d.length->min o.length d.length=0->∃ v l,aL P n F w (.call { callee:=.builtin .copy,args:=#[x,y],argTypes:=#[t,t'] }) ty v l /\ fw G ro ρ w ⟨one (.int (min o.length d.length:Nat)),fr,H.set id (.row er p (o.take d.length++d.drop o.length)),[],[]⟩ F v l:=fun A' m c e1 e2 D=>by
      subst e1; subst e2;refine ⟨_,w,R.akN hx hy hu J D,ρ,s8.refl _ _ _,?_,hf,?_,aa⟩
      ·rw [same D];have:H.set id (.row er p d)=H:=by
        obtain ⟨hi,he⟩:=r3.1 hHs;rw [<- he,V5]
       rw [this]; exact S
      have e3:(min o.length d.length)=0:=D;rw [e3]; exact Pd.int ⟨am,am⟩
     rcases cc S hH with ⟨D,h1⟩ | ⟨g,cap,f,I,h2,h3,h4,h5,h6,h7⟩
     ·rcases ha with ⟨_,_,_,_,V,_⟩ | ⟨_,a0,rfl⟩
      ·rw [D] at V; cases V
      exact U a0 0 0 rfl (by rw [h1]; rfl) (by rw [h1]; exact Nat.min_zero _)
     rcases ha with ⟨_,_,_,_,V,rfl⟩ | ⟨V,_⟩
     ·rw [h2] at V; cases V;by_cases D:min o.length d.length=0
      ·exact U _ _ _ rfl rfl D
      have hy0:¬ o.length=0:=fun e=>D (by rw [e]; exact Nat.zero_min _);obtain ⟨ad,rfl,hsrc⟩:=s3.resolve_left hy0;have N:f.length=d.length*p.size:=by rw [<- h4.length,cz]
      have hml:min o.length d.length<=o.length:=Nat.min_le_left _ _;have hmr:min o.length d.length<=d.length:=Nat.min_le_right _ _;have b1:min o.length d.length*p.size<=o.length*p.size:=H4 _ hml;have b2:min o.length d.length*p.size<=d.length*p.size:=H4 _ hmr;have Y:(u.take (min o.length d.length*p.size)).length=min o.length d.length*p.size:=by rw [s9,s1]; exact E3 b1
      have hrun:=R.pM (P:=P) (n:=n) (w:=w) (ty:=ty) (t':=t') (cur:=f++I) (cs:=u.take (min o.length d.length*p.size)) hx hy hu J h3 Y (hsrc.take _) (by rw [Y,r5,N]; omega) (fun v hv=>s2 v (List.mem_of_mem_take hv));refine ⟨_,_,hrun,?_⟩;have B:=Kp.setRow w g ((f++I).take 0++u.take (min o.length d.length*p.size)++(f++I).drop (0+(u.take (min o.length d.length*p.size)).length)).toArray;have Q:=D2 w g _ ((f++I).take 0++u.take (min o.length d.length*p.size)++(f++I).drop (0+(u.take (min o.length d.length*p.size)).length)).toArray er _ h3;revert B Q;generalize hW:w.setRow g ((f++I).take 0++u.take (min o.length d.length*p.size)++(f++I).drop (0+(u.take (min o.length d.length*p.size)).length)).toArray=W;intro B Q;have C:(f++I).take 0++u.take (min o.length d.length*p.size)++(f++I).drop (0+(u.take (min o.length d.length*p.size)).length)=(u.take (d.length*p.size)++f.drop (o.length*p.size))++I:=by
       rw [Y,T2,T0,x7,List.drop_append_of_le_length az,<- I4];congr 1;rcases Nat.le_total o.length d.length with hle | hle
       ·have e1:min o.length d.length=o.length:=E3 hle;rw [e1,<- s1,I2,r6 (by rw [s1]; exact H4 _ hle)]
       have e1:min o.length d.length=d.length:=R1 hle;rw [e1,<- N,List.drop_length,O0 (by rw [N]; exact H4 _ hle)]
      rw [C] at Q;have hnew:p0 (cx G ρ w) ((o.take d.length++d.drop o.length).flatMap (cellsOf p)) (u.take (d.length*p.size)++f.drop (o.length*p.size)):=by
       rw [K1];exact (bU s4 _).append (cC h4 _)
      have Z:(o.take d.length++d.drop o.length).length=d.length:=by
       rw [r5,s9,length_drop]; omega
      have hext:u1 ρ w ρ W:=⟨B.os,B.tape,B.output,B.size,fun b hb hl=>⟨hl,B.block b hb (by
       simp;rintro rfl;exact hl ⟨id,_,h2,rfl⟩)⟩⟩
      have hle:=hext.le S.lo;have X:=S.put (o':=.row er p (o.take d.length++d.drop o.length)) hHs h2 rfl B ⟨hshp,by rw [Z]; exact L,.inr ⟨g,cap,_,I,by rw [Z],Q,hnew.c8 hle,by
       rw [<- C,<- h5];simp only [r5,s9,length_drop,x7,s1];have e9:min (min o.length d.length*p.size) (o.length*p.size)=min o.length d.length*p.size:=E3 b1;rw [e9,N];have e8:min 0 (d.length*p.size+I.length)=0:=Nat.zero_min _;omega,by rw [Z]; exact h6,h7⟩⟩
      refine ⟨ρ,⟨X.2,fun _ _ _ h=>h,fun i r' hi j=>⟨j,fun g' hg'=>B.block g' (S.sr i r' g' j hg').2.1 ?_⟩,fun _ _ h=>h⟩,X.1,hf.c8 hle (lu.refl _),(show Pd _ (.int (min o.length d.length:Nat)) (.int .i64 _) from Pd.int hI),aa⟩;simp;rintro rfl;have:=S.inj i id _ _ g' j h2 hg' rfl;subst this; rw [O.1] at hi; cases hi
     rw [h2] at V; cases V
    cases K
   cases K
  cases K
 cases K
variable {op:Op}
theorem ZL (hT:bz P G.shp T) (m:oh G ρ H w) (g:o9 (cx G ρ w) ρ fr F) (h:svX T ro fr H op=some r) (o:∀ p ∈ r.ob,p):fp P n F w op ty (fw G ro ρ w r F):=by
 unfold svX at h;split at h
 ·rename_i k;split at h
  ·rename_i c;split at h
   ·rename_i x y t t' d f;split at h
    ·rename_i a b q s;split at h
     ·rename_i J i;cases h;obtain ⟨va,u,z⟩:=aw g q;obtain ⟨vb,A,B⟩:=aw g s;obtain ⟨v,C,D,I⟩:=Gj (P:=P) (n:=n) (ty:=ty) hT m g i z B u A;have e:k={ callee:=.builtin .copy,args:=#[x,y],argTypes:=#[t,t'] }:=by
       cases k; simp at c d f; subst c;simp;grind
      rw [e];exact .inl (.inl ⟨v,C,D,I⟩)
     cases h
    cases h
   cases h
  cases h
 cases h
theorem Qw (hT:bz P G.shp T) (hO:ay P G.shp O) (S:oh G ρ H w) (u:o9 (cx G ρ w) ρ fr F) (h:sv T O ro fr H op=some r) (g:∀ p ∈ r.ob,p):fp P n F w op ty (fw G ro ρ w r F):=by
 unfold sv at h;split at h
 ·rename_i r' d;cases h;unfold svC at d;split at d
  ·rename_i t x hi;split at d
   ·rename_i V W o;obtain ⟨va,X,Y⟩:=aw u V;obtain ⟨vb,D,I⟩:=aw u W;cases I with | int=>
    obtain ⟨v,Z,j,l⟩:=Ld (P:=P) (n:=n) (ty:=ty) hT S u o d g Y X D;exact .inl (.inl ⟨v,Z,j,l⟩)
   cases d
  ·rename_i t b;split at d
   ·rename_i e s sz z k o y;split at d
    ·rename_i q;cases d;obtain ⟨hu,hs⟩:=(hT _ _ o).2;obtain ⟨A,⟨zz,hz,J⟩,_⟩:=hs s rfl;have q:=r7 q;have g0:=g _ (.head _);have g1:=g _ (.tail _ (.head _));obtain ⟨m,rfl⟩:=x6 g0;obtain ⟨vb,D,I⟩:=aw u y;cases I with | int=>
     have hmb:m*s.bytes<=140737488355328:=by grind
     have B:m<=maxLen:=by
      have:=R0 m (iF s);simp [maxLen]; omega
     obtain ⟨i,C,hq,K,hzc,L,N⟩:=sj hz;have Q:=(kx (c:=cx G ρ w) (ρ:=ρ) J).length;rw [dz,q] at Q;have f:=run_make (P:=P) w t e i C hu hq K .i64 .i64 0 (m:Int) az az (by
      rw [N];have e9:((s.bytes*m:Nat):Int)=(s.bytes:Int)*m:=by simp
      rw [<- e9,Q9]; omega) (by simp [maxLen] at B; omega)
     simp at f;have hk:=Kp.alloc w (.cells (madeCells C.cells (m*i.size)) e);obtain ⟨ρ2,q1,q2,q3,q4⟩:=sJ (ro:=ro) (xs:=([]:List (l5 s))) (cells:=[]) (sp:=(madeCells C.cells (m*i.size)).toList) (cap:=m) S u hk (by
      have:=J6 w (.cells (madeCells C.cells (m*i.size)) e);simpa using this) A aa .nil (by simp [madeCells,L]) (F8 _) B
     exact .inl (.inl ⟨_,_,fun a _ _ _ _ U=>by simp [execOp,U.ev (show ev F (.const (.int .i64 0))=some (.int .i64 0) from rfl),U.ev D,f],ρ2,q1,q2,q3,q4,aa⟩)
    cases d
   cases d
  cases d
 grind [Yx,ZL]
end
def eD {q:Prop} (h:∀ p ∈ [q],p):q:=h q (u3 q)
def cg {b:Bool}:(∀ p ∈ same b,p)↔b=true:=by
 cases b with
 | true=>simp [same]
 | false=>exact ⟨fun h=>(eD h).elim,fun h=>by cases h⟩
theorem BB:∀ {k n:Nat},(y6 k n).length=n
 | _,0=>rfl
 | k,n+1=>by simp [y6,BB]
theorem zA:∀ {k n i:Nat},i<n->(y6 k n)[i]? = some (k+i)
 | k,n+1,0,_=>by simp [y6]
 | k,n+1,i+1,h=>by
  have:=zA (k:=k+1) (n:=n) (i:=i) az;rw [y6,List.getElem?_cons_succ,this,show k+1+i=k+(i+1) by omega]
variable {k i:Nat}
def QL:i ∈ y6 k n↔k<=i/\i<k+n:=by
 induction n generalizing k with
 | zero=>simp [y6]
 | succ n a=>simp [y6,a]; omega
theorem jk:∀ {σ:List Nat} {j i:Nat},Nh σ j i=true↔σ[j]? = some i
 | [],j,i=>by simp [Nh]
 | k :: r,0,i=>by simp [Nh]
 | k :: r,j+1,i=>by simpa [Nh] using jk (σ:=r)
theorem DT {n:Nat}:∀ {σ:List Nat} {j:Nat},KT n σ j=true↔∃ k,σ[j]? = some k/\n<=k
 | [],j=>by simp [KT]
 | k :: r,0=>by simp [KT]
 | k :: r,j+1=>by simpa [KT] using DT (σ:=r)
def dy (ρ:List RE) (σ:List Nat):List RE:=σ.map fun k=>ρ.getD k .emp
variable {r:RE}
def dR (h:σ[j]? = some i) (a:ρ[i]? = some r):(dy ρ σ)[j]? = some r:=by
 simp [dy,h,a]
def UP (h:σ[j]? = some i) (a:ρ.length<=i):(dy ρ σ)[j]? = some .emp:=by
 simp [dy,h,K0 a]
def oz {g:Nat} (h:(dy ρ σ)[j]? = some r) (d:r.g? = some g):∃ i,σ[j]? = some i/\ρ[i]? = some r:=by
 simp only [dy,List.getElem?_map,G4] at h;obtain ⟨i,e,a⟩:=h;refine ⟨i,e,?_⟩;rw [ts] at a;cases c:ρ[i]? with
 | none=>rw [c] at a; simp at a; subst a; cases d
 | some f=>rw [c] at a; simp at a; rw [a]
theorem pW {b:Nat} (h:live (dy ρ σ) b):∃ i r,i ∈ σ/\ρ[i]? = some r/\r.g? = some b:=by
 obtain ⟨j,r,a,c⟩:=h;obtain ⟨i,d,e⟩:=oz a c;grind
section
variable {G:Gl} {ρ:List RE} {H:AH} {w:World} {σ:List Nat} {n:Nat}
def yk:(cx G ρ w).le (cx G (dy ρ σ) w):=
 ⟨rfl,rfl,fun _ a=>⟨⟨a.1,fun h=>by
  obtain ⟨i,r,_,c,d⟩:=pW h;exact a.2.1 ⟨i,r,c,d⟩,a.2.2⟩,rfl⟩,fun _ _ _=>rfl⟩
theorem iE:∀ {b a:List (Nat × Nat)} {c:List Value},rK σ b a = true->hQ (eQ ρ) b c->hQ (eQ (dy ρ σ)) a c
 | [],[],_,_,h=>by cases h; exact .nil
 | (i,o) :: b,(j,q) :: a,_,h,k=>by
  simp only [rK,pe] at h;cases k with | cons d e=>
  have f:=r7 h.1.2;subst f;obtain ⟨g,m,p⟩:=d;exact .cons ⟨g,dR (jk.1 h.1.1) m,p⟩ (iE h.2 e)
def Rb (A:oh G ρ H w) (l:n=H.length) {a b:AV} {v:Value} (h:Rd (cx G ρ w) ρ a v) (c:∀ p ∈ V7 H n σ a b,p):Rd (cx G (dy ρ σ) w) (dy ρ σ) b v:=by
 have S:=A.obj.length;by_cases T:b = .dead
 ·subst T; exact h.one
 have f:(cx G ρ w).le (cx G (dy ρ σ) w):=yk;cases a <;> cases b <;> first | exact (T rfl).elim | (dsimp only [V7] at c; try exact (eD c).elim)
 case int.int=>have c:=eD c; subst c; exact Pd.c8 h f
 case u8.u8=>have c:=eD c; subst c; exact Pd.c8 h f
 case u64.u64=>have c:=eD c; subst c; exact Pd.c8 h f
 case bool.bool=>
  have h:Pd (cx G ρ w) _ v:=h;cases h;rw [eD c]; exact Pd.bool
 case str.str=>have c:=eD c; subst c; exact Pd.c8 h f
 case li.li=>
  have K:=c _ (z6 ..);have L:=c _ (w8 _ (u3 _));subst K; subst L; exact Pd.c8 h f
 case fz.fz=>
  rename_i s I J N;by_cases x:s=J
  ·subst x;rw [dif_pos rfl] at c;have c:I=N:=eD c;subst c;exact Pd.c8 h f
  rw [dif_neg x] at c;exact (eD c).elim
 case em.fz=>
  have c:=eD c;subst c;exact Pd.Ab (Pd.c8 h f)
 case em.em=>
  have:=cg.1 c;simp at this; subst this;exact Pd.c8 h f
 case em.own=>
  obtain ⟨k,d,m⟩:=DT.1 (cg.1 c);have h:Pd (cx G ρ w) _ v:=h;cases h with | em _=>
  exact .inr ⟨UP d az,_,rfl⟩
 case own.own=>
  have d:=jk.1 (cg.1 c);rcases h with ⟨g,u,len,z,h,e⟩ | ⟨h,e⟩
  ·exact .inl ⟨g,u,len,z,dR d h,e⟩
  exact .inr ⟨dR d h,e⟩
 case own.fz=>
  rename_i i s N;split at c
  ·rename_i t J I O;by_cases x:J = s
   ·subst x;rw [dif_pos rfl] at c;have d:=cg.1 fun p B=>c p (B9 _ B);have m:I=N:=c _ (C6 _ (u3 _));simp at d;subst m;have P:i ∉ σ:=fun Q=>by rw [bQ.2 Q] at d; cases d
    have V:(AV.own i).vw H = .fz J I:=by simp [AV.vw,O]
    refine lV (oI A f rfl h (fun g u len z ⟨id,c,C⟩=>?_) V);have U:=A.sr _ _ g C rfl;refine ⟨U.2.1,fun W=>?_,U.2.2⟩;obtain ⟨i',r',D,X,Y⟩:=pW W;have:=A.inj _ _ _ _ g C X rfl Y;rcases c with c | ⟨_,_,c⟩ <;> cases c;subst this;exact P D
   rw [dif_neg x] at c;exact (eD c).elim
  exact (eD c).elim
 case sub.sub=>
  simp only [y2,u2,R2,or_false] at c;have d:=jk.1 (cg.1 fun p B=>c p (.inl B));have m:=c _ (.inr (.inl rfl));have D:=c _ (.inr (.inr rfl));subst m; subst D;rcases h with ⟨g,u,len,z,h,e⟩ | ⟨h,e⟩
  ·exact .inl ⟨g,u,len,z,dR d h,e⟩
  exact .inr ⟨dR d h,e⟩
 case ptr.ptr=>
  have d:=cg.1 c;simp only [pe] at d;have y:=r7 d.2;subst y;obtain ⟨g,h,e⟩:=h;exact ⟨g,dR (jk.1 d.1) h,e⟩
 case np.np=>exact h
 case x8.x8=>
  simp only [y2,u2,R2,or_false] at c;have d:=cg.1 fun p B=>c p (.inl B);have m:=c _ (.inr rfl);simp only [pe] at d;have y:=r7 d.2;subst y; subst m;obtain ⟨g,u,len,z,h,e⟩:=h;exact ⟨g,u,len,z,dR (jk.1 d.1) h,e⟩
 case fn.fn=>
  have d:=cg.1 c;simp only [pe] at d;have y:=r7 d.1.1;subst y;obtain ⟨Z,F,m,D,e⟩:=h;exact ⟨Z,F,iE d.1.2 m,iE d.2 D,e⟩
 case nf.nf=>exact h
 case yl.yl=>rw [<- r7 (cg.1 c)]; exact h
 case np.xx k b=>
  unfold aiL at c;split at c
  ·rename_i q;have d:=cg.1 c;unfold ahw at d;split at d
   ·rename_i i Q;split at d
    ·rename_i t cs O;obtain ⟨r,j,g,vs,rfl,_⟩:=A.at_ (cq O aa);have h:v = .pointer none:=h;exact ⟨[_],.cons ⟨g,dR Q j,rfl⟩ .nil,rfl,.inl h⟩
    cases d
   cases d
  exact (eD c).elim
 case ptr.xx i o k b=>
  unfold ahx at c;split at c
  ·rename_i q;have d:=cg.1 c;simp only [pe] at d;obtain ⟨g,m,e⟩:=h;have y:=r7 d.2;subst y;exact ⟨[v],.cons ⟨g,dR (jk.1 d.1) m,e⟩ .nil,rfl,.inr rfl⟩
  exact (eD c).elim
 case xx.xx k b k' b'=>
  obtain ⟨F,d,m⟩:=h;unfold eqX at c;split at c
  ·have:=c _ (u3 _);subst this;cases d;exact ⟨[],.nil,m⟩
  ·exact ⟨F,iE (cg.1 c) d,m.le f⟩
  ·split at c
   ·rename_i x;subst x;have:=c _ (u3 _);subst this;cases d;exact ⟨[],.nil,m.le f⟩
   exact (eD c).elim
  ·have K:=c _ (z6 ..);have L:=c _ (w8 _ (u3 _));subst K; subst L;cases d;exact ⟨[],.nil,m.le f⟩
  ·have:=c _ (u3 _);subst this;cases d;exact ⟨[],.nil,m⟩
  ·exact ⟨F,iE (cg.1 c) d,m.le f⟩
  ·exact ⟨F,iE (cg.1 c) d,m.le f⟩
  exact (eD c).elim
 case mq.mq=>
  obtain ⟨g,h,e⟩:=h;exact ⟨g,dR (jk.1 (cg.1 c)) h,e⟩
theorem zZ (g:oh G ρ H w) (m:n=H.length):∀ {c d:List AV} {o:List Value},hQ (Rd (cx G ρ w) ρ) c o->(∀ p ∈ SW H n σ c d,p)->hQ (Rd (cx G (dy ρ σ) w) (dy ρ σ)) d o
 | [],[],_,h,_=>by cases h; exact .nil
 | [],_ :: _,_,_,h=>(eD h).elim
 | _ :: _,[],_,_,h=>(eD h).elim
 | a :: c,b :: d,_,h,e=>by
  cases h with | cons q s=>
  simp [SW] at e;exact .cons (Rb g m q fun p f=>e p (.inl f)) (zZ g m s fun p f=>e p (.inr f))
theorem HA (d:oh G ρ H w) (f:n=H.length) {a b:n8} {v:Value} (h:dJ (cx G ρ w) ρ a v) (c:∀ p ∈ Zv H n σ a b,p):dJ (cx G (dy ρ σ) w) (dy ρ σ) b v:=by
 cases a <;> cases b <;> simp only [Zv] at c
 ·exact Rb d f h c
 ·simp_all
 ·exact (eD c).elim
 obtain ⟨g,e,h⟩:=h;exact ⟨g,e,zZ d f h c⟩
theorem o_ (g:oh G ρ H w) (m:n=H.length):∀ {c d:List n8} {o:List Value},hQ (dJ (cx G ρ w) ρ) c o->(∀ p ∈ AN H n σ c d,p)->hQ (dJ (cx G (dy ρ σ) w) (dy ρ σ)) d o
 | [],[],_,h,_=>by cases h; exact .nil
 | [],_ :: _,_,_,h=>(eD h).elim
 | _ :: _,[],_,_,h=>(eD h).elim
 | a :: c,b :: d,_,h,e=>by
  cases h with | cons q s=>
  simp [AN] at e;exact .cons (HA g m q fun p f=>e p (.inl f)) (o_ g m s fun p f=>e p (.inr f))
theorem ad0 (d:oh G ρ H w) (f:n=H.length) {a b:TV} {v:Value} (h:Rt (cx G ρ w) ρ a v) (c:∀ p ∈ V9 H n σ a b,p):Rt (cx G (dy ρ σ) w) (dy ρ σ) b v:=by
 cases b with
 | un=>trivial
 | one b=>
  cases a <;> simp only [V9] at c
  ·exact HA d f h c
  ·simp_all
  exact (eD c).elim
 | C4 b=>
  cases a <;> simp only [V9] at c
  ·exact (eD c).elim
  ·obtain ⟨g,e,h⟩:=h;exact ⟨g,e,o_ d f h c⟩
  exact (eD c).elim
theorem IE (f:oh G ρ H w) (g:n=H.length) {fr:j9} {F:Fr} (m:o9 (cx G ρ w) ρ fr F):∀ {a:j9},(∀ p ∈ ZR H n σ fr a,p)->∃ d,o9 (cx G (dy ρ σ) w) (dy ρ σ) a d /\ ∀ i v,look d i=some v->look F i=some v
 | [],_=>⟨[],.nil,fun i v h=>by cases h⟩
 | (i,b) :: a,c=>by
  simp [ZR] at c;split at c
  ·rename_i u o;simp at c;obtain ⟨v,z,q⟩:=fq m o;obtain ⟨d,s,A⟩:=IE f g m fun p e=>c p (.inr e);refine ⟨(i,v) :: d,.cons ⟨rfl,ad0 f g q fun p e=>c p (.inl e)⟩ s,fun j x y=>?_⟩;rw [bg] at y;grind
  simp_all
theorem DZ {P:Program} {t:TypeId} {s:Sh} {T:List (Nat × TI)} (hT:bz P G.shp T):∀ {r:List (Nat × TI)},zG T t s r=true->G.shp t=some s
 | (i,_) :: r,h=>by
  simp [zG] at h;rcases h with h | h
  ·split at h
   ·rename_i e f _ _ a;simp only [pe,vo] at h;have c:=r7 h.1;obtain ⟨_,d⟩:=h;subst c; subst d;exact ((hT _ _ a).2.2 _ rfl).1
   cases h
  exact DZ hT h
theorem SJ {P:Program} {T:List (Nat × TI)} (hT:bz P G.shp T) (D:oh G ρ H w) (U:n=H.length):∀ {r:List Nat} {F:AH},(∀ p ∈ P2 T H n σ r F,p)->hQ (OR (cx G (dy ρ σ) w) (dy ρ σ)) F (r.map fun k=>ρ.getD k .emp)
 | [],[],_=>.nil
 | [],_ :: _,h=>(eD h).elim
 | _ :: _,[],h=>(eD h).elim
 | k :: r,b :: F,h=>by
  simp [P2,y2] at h;refine .cons ?_ (SJ hT D U fun p c=>h p (.inr c));replace h:=fun p c=>h p (.inl c);have o:(cx G ρ w).le (cx G (dy ρ σ) w):=yk;cases I:blt k n <;> rw [I] at h
  ·-- a new row
   have x:n<=k:=by
    have:¬ k<n:=fun J=>by have:=(blt_eq).mpr J; rw [I] at this; cases this
    omega
   dsimp only [cond_false] at h;have V:=D.obj.length;show OR _ _ _ (ρ.getD k .emp);rw [ts,K0 az];cases b with
   | row t s y=>
    dsimp only [eqN] at h;have K:=cg.1 fun p c=>h p (B9 _ c);have d:y=[]:=h _ (C6 _ (u3 _));subst d;exact ⟨DZ hT K,aa,.inl ⟨rfl,rfl⟩⟩
   | gone=>exact (eD h).elim
   | q7 _ _=>exact (eD h).elim
   | p7 _=>exact (eD h).elim
   | loc=>exact (eD h).elim
   | y9 _ _ _ _=>exact (eD h).elim
   | box _ _=>exact (eD h).elim
  dsimp only [cond_true] at h;have x:k<H.length:=by have:=blt_eq.mp I; omega
  have X:H[k]? = some (l4 H k):=by
   unfold l4;rw [ts,p6 x];rfl
  obtain ⟨l,K,d⟩:=D.at_ X;show OR _ _ _ (ρ.getD k .emp);rw [ts,K,Option.getD_some];generalize l4 H k=a at h d;cases a <;> cases b <;> dsimp only [eqO] at h <;> try exact (eD h).elim
  case gone.gone=>exact d
  case q7.q7 s f z Y=>
   by_cases q:s=z
   ·subst q;rw [dif_pos rfl] at h;have A:f=Y:=eD h;subst A;obtain ⟨g,e,u⟩:=d;exact ⟨g,e,u.c8 o rfl⟩
   simp_all
  case y9.y9 t s m L W z m' y=>
   have N:=cg.1 fun p c=>h p (B9 _ c);simp only [pe] at N;have u:=r7 N.1;have B:=r7 N.2;subst u; subst B;replace h:=fun p c=>h p (C6 _ c);by_cases q:s=z
   ·subst q;rw [dif_pos rfl] at h;have A:L=y:=eD h;subst A;obtain ⟨g,O,e,C,Q,Z⟩:=d;exact ⟨g,O,e,C,Q.c8 o,Z⟩
   rw [dif_neg q] at h;exact (eD h).elim
  case box.box t cs W i=>
   have u:=r7 (cg.1 fun p c=>h p (B9 _ c));subst u;obtain ⟨g,O,e,B,C⟩:=d;exact ⟨g,O,e,B,zZ D U C fun p c=>h p (C6 _ c)⟩
  case row.row t s L W z y=>
   have u:=r7 (cg.1 fun p c=>h p (B9 _ c));subst u;replace h:=fun p c=>h p (C6 _ c);by_cases q:s=z
   ·subst q;rw [dif_pos rfl] at h;have A:L=y:=eD h;subst A;refine ⟨d.1,d.2.1,d.2.2.imp id ?_⟩;rintro ⟨g,S,v,j,e,B,C,Q⟩;exact ⟨g,S,v,j,e,B,C.c8 o,Q⟩
   rw [dif_neg q] at h;exact (eD h).elim
theorem uH {n:Nat}:∀ {σ:List Nat},nT n σ=true->∀ (i j k:Nat),σ[i]? = some k->σ[j]? = some k->k<n->i=j
 | x :: r,a,i,j,k,d,c,e=>by
  simp only [nT,pe,F5] at a;have f:k=x->∀ m:Nat,r[m]? = some k->False:=by
   rintro rfl m g;rcases a.1 with h | h
   ·have:=F4 h; omega
   rw [bQ.2 (A9 g)] at h; cases h
  cases i with
  | zero=>
   grind
  | succ i=>
   cases j with
   | zero=>simp at c; exact (f c.symm i (by simpa using d)).elim
   | succ j=>rw [uH a.2 i j k (by simpa using d) (by simpa using c) e]
variable {P:Program} {T:List (Nat × TI)}
def pn (hT:bz P G.shp T) (c:oh G ρ H w) (v:n=H.length) (x:nT n σ=true) {m:AH} (h:∀ p ∈ P2 T H n σ σ m,p):oh G (dy ρ σ) m w:=by
 have o:=c.obj.length;refine ⟨SJ hT c v h,fun i j r y g f d q s=>?_,fun i r g f d=>?_,c.z,c.b0,c.tb.c8 yk⟩
 ·obtain ⟨a,u,e⟩:=oz f q;obtain ⟨b,A,B⟩:=oz d s;have:=c.inj a b r y g e B q s;subst this;exact uH x i j a u A (by have:=(r3.1 e).1; omega)
 obtain ⟨a,u,e⟩:=oz f d;exact c.sr a r g e d
variable {w0:World} {ρ0:List RE}
def om (h:u1 ρ0 w0 ρ w):u1 ρ0 w0 (dy ρ σ) w:=
 ⟨h.os,h.tape,h.output,h.size,fun b a c=>⟨fun d=>by
  obtain ⟨i,r,_,e,f⟩:=pW d;exact (h.x4 b a c).1 ⟨i,r,e,f⟩,(h.x4 b a c).2⟩⟩
variable {ro:Lv}
def Rm (h:s8 ro ρ0 w0 ρ w) (a:∀ i,i<ρ0.length->σ[i]? = some i):s8 ro ρ0 w0 (dy ρ σ) w:=
 ⟨om h.ext,fun i r d c=>dR (a i (r3.1 c).1) (h.loc i r d c),fun i r d c=>⟨dR (a i (r3.1 c).1) (h.J1 i r d c).1,(h.J1 i r d c).2⟩,
  fun i g e=>dR (a i (r3.1 e).1) (h.bx i g e)⟩
def St (G:Gl) (ro:Lv) (ρ0:List RE) (w0:World) (fr:j9) (H:AH) (F:Fr) (w:World):Prop:=∃ ρ,s8 ro ρ0 w0 ρ w/\oh G ρ H w/\o9 (cx G ρ w) ρ fr F
theorem As {a:Nat} {fr:j9} {H:AH} {q:j9 × AH} {i:Nat} (h:i<a):∀ (f:Nat) (c:List (Nat × Nat)),(VB a fr H q f c)[i]? = some i
 | 0,c=>by
  show (y6 0 a++_)[i]? = _;have:=zA (k:=0) (n:=a) (i:=i) h;grind
 | f+1,c=>As h f _
def gV (hT:bz P G.shp T) {e:Nat} {fr:j9} {F:Fr} {q:j9 × AH} (m:ρ0.length<=e) (h:St G ro ρ0 w0 fr H F w) (a:kj (Gp T e fr H q)) :
  ∃ d,St G ro ρ0 w0 q.1 q.2 d w/\∀ i v,look d i=some v->look F i=some v:=by
 obtain ⟨ρ,o,f,s⟩:=h;replace a:=fa.1 a;have g:=cg.1 fun p c=>a p (B9 _ (B9 _ c));rw [pe] at g;obtain ⟨d,u,x⟩:=IE (σ:=VB e fr H q 3 []) f rfl s fun p c=>a p (B9 _ (C6 _ c));have y:=pn hT f rfl g.2 fun p c=>a p (C6 _ c);exact ⟨d,⟨_,Rm o fun i z=>As az 3 [],y,u⟩,x⟩
end
theorem jR {R:Prop}:∀ {l:List Prop},wh l R↔(∀ p ∈ l,p)/\R
 | []=>by simp [wh]
 | p :: l=>by simp only [wh,jR,List.forall_mem_cons,and_assoc]
theorem fi {R:Prop}:∀ {l:List Prop},lS l R↔((∀ p ∈ l,p)->R)
 | []=>by simp [lS]
 | p :: l=>by simp only [lS,fi,List.forall_mem_cons,and_imp]
section
variable {P:Program} {T:List (Nat × TI)} {G:Gl} {O:ck} {Q:Exit->Act->World->Prop} {n:Nat} {ro:Lv} {l:List Oper} {ρ0:List RE} {w0:World}
variable {w:World}
theorem Rq (x:oh G ρ H w) {a:AV} {v:Value} (h:Rd (cx G ρ w) ρ a v) {s:Sh} {f:List (l5 s)} (d:a.vw H = .fz s f):∃ A m c,v = .slice A m c/\(A.isNone=true->f=[]):=by
 cases a <;> simp [AV.vw] at d <;> try cases d
 case fz=>
  cases h with
  | fz y B C D F=>
   grind
 case own id=>
  split at d
  ·rename_i t p q u;cases d;rcases h with ⟨g,e,len,z,h,rfl⟩ | ⟨h,A,rfl⟩
   ·grind
   grind [cc]
  cases d
 case sub id o k=>
  split at d
  ·rename_i t p q u;rcases h with ⟨g,e,L,z,h,_,rfl⟩ | ⟨h,rfl,rfl,A,rfl⟩
   ·grind
   grind
  cases d
variable {op:Op} {F:Fr} {ty:TypeId}
def VE (hT:bz P G.shp T) (K:oh G ρ H w) {fr:j9} (I:o9 (cx G ρ w) ρ fr F) {s:Sh} {C:List (l5 s)} {J:Bool} (h:afl T H fr op=some ⟨s,C,J⟩):∃ b,aL P n F w op ty (.bool (Z3 J b).val) w/\(b=true->C=[]):=by
 unfold afl at h;split at h
 ·rename_i W t x y X;have g:∀ {a:AV} {e D sz z},bj T t=some ⟨.sl e D,sz,z⟩->dI fr x=some (.one (.c a))->dI fr y=some (.one (.c (.em true)))->a.vw H = .fz s C->∃ A m c,ev F x=some (.slice A m c)/\ev F y=some (.slice none 0 0)/\P.underlying t=some (.slice e)/\(A.isNone=true->C=[]):=by
   intro a e D sz z d o p q;obtain ⟨Y,u,v⟩:=aw I o;obtain ⟨vb,B,f⟩:=aw I p;obtain ⟨A,m,c,rfl,L⟩:=Rq K v q;have f:Pd (cx G ρ w) (.em true) vb:=f;cases f with
   | @em b N S=>
    cases N with
    | none=>exact ⟨A,m,c,u,B,(hT _ _ d).2.1,L⟩
    | some _=>cases S
  split at h
  ·rename_i e D sz z a d o p;split at h
   ·rename_i U V q;cases h;obtain ⟨A,m,c,u,v,B,f⟩:=g d o p q;exact ⟨A.isNone,R.SG u v B,f⟩
   cases h
  ·rename_i e D sz z a d o p;split at h
   ·rename_i U V q;cases h;obtain ⟨A,m,c,u,v,B,f⟩:=g d o p q;exact ⟨A.isNone,R.TX u v B,f⟩
   cases h
  cases h
 cases h
theorem nE {k:Int} {ok:Bool} {K:TV->Prop}:∀ {l:List (Int × AV)},yn k ok K l->K (match u0 k l with
  | some a=>KH ok a true
  | none=>KH ok .nf false)
 | [],h=>h
 | (j,a) :: r,h=>by
  simp [u0];by_cases c:k=j
  ·rw [eg c]; exact h.1 c
  rw [dc c]; exact nE (h.2 c)
def AF (hT:bz P G.shp T) (B:oh G ρ H w) {fr:j9} (A:o9 (cx G ρ w) ρ fr F) {m:Y5} (h:mapA T H fr op=some m):∃ v,aL P n F w op ty v w/\Rt (cx G ρ w) ρ (match u0 m.k m.l with
  | some a=>KH m.ok a true
  | none=>KH m.ok .nf false) v:=by
 unfold mapA at h;split at h
 ·rename_i t x y ok;split at h
  ·rename_i id k p C D;split at h
   ·rename_i l q;cases h;obtain ⟨I,J,_,K⟩:=(hT _ _ p).2;obtain ⟨Z,L,N⟩:=aw A C;obtain ⟨vb,S,U⟩:=aw A D;cases U with | int=>
    obtain ⟨g,V,rfl⟩:=N;obtain ⟨b,d,s⟩:=B.at_ (cq q aa);rw [V] at d; cases d;obtain ⟨i,e,a,c,W,X,Y⟩:=s;cases e;have f:=R.sk (P:=P) (n:=n) (ty:=ty) ok L S I J (K rfl) W X;refine ⟨_,f,?_⟩;have o:=Y k;cases u:getM k a.toList <;> cases z:u0 k l <;> rw [u,z] at o
    ·cases ok with
     | false=>exact (rfl:(_:Value)=_)
     | true=>exact ⟨_,rfl,.cons rfl (.cons (Pd.bool (e:=.lit false)) .nil)⟩
    ·exact o.elim
    ·exact o.elim
    cases ok with
    | false=>exact o
    | true=>exact ⟨_,rfl,.cons o (.cons (Pd.bool (e:=.lit true)) .nil)⟩
   cases h
  cases h
 cases h
theorem t_ {l:List Oper} {fr:j9} {j:Nat} {w:Bool}:∀ {a:List Oper} {c:List Nat},EF l fr j w c a=true->∀ o ∈ a,jw fr o.dst=true
 | [],_,_,o,ho=>by cases ho
 | x :: r,c,h,o,ho=>by
  simp [EF] at h;rcases u2.1 ho with rfl | ho
  ·exact h.1.1
  exact t_ h.2 o ho
theorem GF {n j:Nat} {w:Bool}:∀ {a:List Oper},lz n a=true->lz n (a.map (Pf j w))=true
 | [],h=>h
 | x :: r,h=>by
  simp [lz] at h ⊢;refine ⟨?_,GF h.2⟩;have e:(Pf j w x).dst=x.dst:=by unfold Pf; rw [Bool.cond_eq_ite]; split <;> first | (split <;> rfl)
  grind
theorem na (hT:bz P G.shp T) (hO:ay P G.shp O) {K:j9->AH->Prop} (hK:∀ fr H F w,K fr H->St G ro ρ0 w0 fr H F w->WX Q n .normal F w) :
  ∀ (m:Nat) (ops:List Oper) (fr:j9) (H:AH) (F:Fr) (w:World),lz n ops=true->wpOps T O ro l K m ops fr H->St G ro ρ0 w0 fr H F w->WO P Q n l ops F w
 | 0,_,_,_,_,_,_,h,_=>h.elim
 | _+1,[],fr,H,F,w,_,h,hs=>WO.nil (hK fr H F w h hs)
 | m+1,o :: f,fr,H,F,w,hd,h,hs=>by
  have ih:=na hT hO hK m;have hs0:=hs;obtain ⟨ρ,hS,D,p⟩:=hs;have N:=mm hd o aa;have S:lz n f=true:=by simp [lz,pe] at hd; exact hd.2
  obtain ⟨dst,op,ty,pos,af,g⟩:=o;simp only [wpOps] at h;split at h
  ·-- no guard
   split at h
   ·-- an element of what nobody writes
    rename_i s xs i q;unfold atA at q;split at q
    ·rename_i t x y;split at q
     ·rename_i s1 xs1 b s2 hx hy hsl;split at q
      ·rename_i i' hdc hix;cases q;have hss:s2=s:=zc hdc;subst hss;obtain ⟨h0,h1,h2⟩:=h;obtain ⟨va,h3,h4⟩:=aw p hx;obtain ⟨vb,h5,h6⟩:=aw p hy;obtain ⟨k,rfl⟩:=ql hix h6;obtain ⟨e,hu,_,_,hsz,_⟩:=Fu hT hsl;obtain ⟨j,rfl⟩:=x6 h0;have hj:j<xs.length:=by omega
       have hxj:=p6 hj;obtain ⟨A,kk,rfl,_,hfe,us,hus⟩:=Tb (ρ:=ρ) h4 hxj;have h7:=fi.1 (h2 _ (by rw [G5]; exact hxj)) hus.qp;refine WO.y (φ:=fun v L=>v = .pointer (some (A.add (j*s2.size)))/\L = w) (.inl ⟨_,_,R.kR h3 h5 hu hsz rfl hj,rfl,rfl⟩) N fun v L ⟨e1,e2⟩=>?_;subst e1; subst e2;refine ih f _ H _ _ S h7 ⟨ρ,hS,D,?_⟩;cases dst with
       | some d=>exact .cons ⟨rfl,hfe⟩ p
       | none=>exact p
      cases q
     cases q
    cases q
   split at h
   ·-- a comparison to nil
    rename_i s xs ne hnl;obtain ⟨b,U,hb⟩:=VE (n:=n) (ty:=ty) hT D p hnl;refine WO.y (φ:=fun v L=>v = .bool (Z3 ne b).val/\L = w) (.inl ⟨_,_,U,rfl,rfl⟩) N fun v L ⟨e1,e2⟩=>?_;subst e1; subst e2;refine ih f _ H _ _ S (h b hb) ⟨ρ,hS,D,?_⟩;cases dst with
    | some d=>exact .cons ⟨rfl,Pd.bool⟩ p
    | none=>exact p
   split at h
   ·-- a map of functions
    rename_i m0 hmp;obtain ⟨v0,U,hv0⟩:=AF (n:=n) (ty:=ty) hT D p hmp;refine WO.y (φ:=fun v L=>v=v0/\L = w) (.inl ⟨_,_,U,rfl,rfl⟩) N fun v L ⟨e1,e2⟩=>?_;subst e1; subst e2;refine ih f _ H _ _ S (nE h) ⟨ρ,hS,D,?_⟩;cases dst with
    | some d=>exact .cons ⟨rfl,hv0⟩ p
    | none=>exact p
   split at h
   ·-- a step that changes nothing
    rename_i r hpv;obtain ⟨V,h⟩:=jR.1 h;refine WO.y (vH (ty:=ty) hT hO D p hpv V) N fun v w1 ⟨C,hv1,W⟩=>?_;refine ih f _ H _ _ S (fi.1 h W) ⟨ρ,hS.trans (s8.kp D C),D.kp C,?_⟩;cases dst with
    | some d=>exact .cons ⟨rfl,hv1⟩ (p.kp C)
    | none=>exact p.kp C
   split at h
   ·rename_i r hst hsv;obtain ⟨V,h⟩:=jR.1 h;have key:∀ v L,fw G ro ρ w r F v L -> WO P Q n l f (jW dst v F) L:=by
     rintro v L ⟨ρ',k1,k2,k3,k4,k5⟩;refine ih f _ _ _ _ S (fi.1 h k5) ⟨ρ',hS.trans k1,k2,?_⟩;cases dst with
     | some d=>exact .cons ⟨rfl,k4⟩ k3
     | none=>exact k3
    rcases Qw (ty:=ty) hT hO D p hsv V with hy | ⟨e,L,hsk,haf⟩
    ·exact WO.y hy N key
    cases dst with
    | some d=>simp [YF,e] at hst
    | none=>exact WO.s hsk (key _ _ haf)
   exact h.elim
  rename_i g0 j wt;split at h
  ·rename_i r hgr;obtain ⟨V,h⟩:=jR.1 h;have:=Ij (tl:=[]) (G:=G) (Q:=Q) (n:=n) (l:=l) (ρ:=ρ) (H:=H) (pO hT hO m) hgr (fun _ _ e=>by cases e) V hd D p fun w1 C W hFd hfd hf1 hbd hdt=>by
    rw [A3];exact ih r.tail _ H _ _ hdt (fi.1 h W) ⟨ρ,hS.trans (s8.kp D C),D.kp C,.cons ⟨rfl,Pd.bool⟩ hf1⟩
   rwa [A3] at this
  split at h
  ·-- a group,in two ways
   rename_i r B;obtain ⟨hon,c⟩:=h;unfold akw at B;split at B
   ·rename_i t hj;split at B
    ·rename_i e grp pk tail he hsp;split at B
     ·rename_i z x y d hck hpk hpd;cases B;simp at hck;obtain ⟨⟨X,hpg⟩,I⟩:=hck;obtain ⟨hops,hip⟩:=pZ hsp;replace hpg:=Ad hpg;replace he:=eA he;rw [hops] at hd;rw [hops];obtain ⟨vt,Y,hvr⟩:=fq p he;cases hvr with | bool=>
      obtain ⟨hd1,Z⟩:=od.1 hd;have hd3:lz n tail=true:=by simp [lz,pe] at Z; exact Z.2
      have hdd:blt d n=true:=mm Z pk aa d hpd;rw [hpd] at I;have hFd:look F d=none:=jd p I d rfl;obtain ⟨dst,op,ty,pos,af,pg⟩:=pk;simp only at hpk hpd hpg hon c;subst hpk; subst hpd; subst hpg;have hz:z = .tmp t:=by
       cases z <;> simp only [qy] at hip
       ·rw [r7 hip]
       all_goals cases hip
      subst hz;by_cases hew:e.val=wt
      ·rw [hew] at Y;refine WO.split (t:=t) hj Y (fun o ho d' hd' e=>?_) (ih _ _ H _ _ ?_ (hon ((BE.fV e wt).2 hew)) ⟨ρ,hS,D,p⟩)
       ·have:=jd p (t_ X o ho) d' hd';rw [e,Y] at this; cases this
       refine od.2 ⟨GF hd1,?_⟩;simp [lz,pe] at Z ⊢;exact Z
      have J:e.val = !wt:=by revert hew; cases e.val <;> cases wt <;> simp
      have c:=c ((BE.fV e _).2 J);split at c
      ·rename_i v hv;refine mR (us:=[]) p hj Y J X hd1 aa ?_;obtain ⟨u,hu,hr⟩:=aw p hv;have k:=ih tail ((d,v) :: fr) H ((d,u) :: F) _ hd3 c ⟨ρ,hS,D,.cons ⟨rfl,hr⟩ p⟩;have hl:ev F (.tmp t)=some (.bool e.val):=Y;cases wt with
       | true=>exact WO.v (R.DK hl J hu) hdd k
       | false=>exact WO.v (R.AM hl J hu) hdd k
      exact c.elim
     cases B
    cases B
   cases B
  exact h.elim
def e_ (n:Nat):Code->Bool
 | .seq a b=>e_ n a && e_ n b
 | .cond _ a b=>e_ n a && e_ n b
 | .block _ a=>e_ n a
 | .loop a=>e_ n a
 | .scope a=>e_ n a
 | .region _ c _=>lz n c.toList
 | _=>true
theorem Du {c:Cx} {ρ:List RE} {fr:j9} {F:Fr} (h:o9 c ρ fr F):∀ l:List Nat,∃ a,o9 c ρ (dQ fr l) a/\∀ i v,look a i=some v->look F i=some v
 | []=>⟨[],.nil,fun i v h=>by cases h⟩
 | t :: r=>by
  obtain ⟨a,d,m⟩:=Du h r;unfold dQ;split
  ·rename_i v e;obtain ⟨u,o,f⟩:=fq h e;refine ⟨(t,u) :: a,.cons ⟨rfl,f⟩ d,fun i x g=>?_⟩;rw [bg] at g;grind
  grind
def RD (P:Program) (T:List (Nat × TI)) (G:Gl) (O:ck) (n:Nat) (ro:Lv) (ρ0:List RE) (w0:World):Prop:=
 ∀ (Q:Exit->Act->World->Prop) (c id:Nat) (L:List (Nat × LI)) (a:Array Oper) (K:Exit->j9->AH->Prop) (fr:j9) (H:AH) (F:Fr) (w:World),lz n a.toList=true->jH T O ro c L (.region id a true) K fr H->St G ro ρ0 w0 fr H F w ->
  (∀ fr H F w,K .normal fr H->St G ro ρ0 w0 fr H F w->WX Q n .normal F w)->WC P Q n (.region id a true) F w
theorem zN (hT:bz P G.shp T) (hO:ay P G.shp O) (B:RD P T G O n ro ρ0 w0) {k0:Nat} (C:ρ0.length<=k0) {L:List (Nat × LI)} :
  ∀ (c:Code) (Q:Exit->Act->World->Prop) (K:Exit->j9->AH->Prop) (fr:j9) (H:AH) (F:Fr) (w:World),e_ n c=true->jH T O ro k0 L c K fr H->St G ro ρ0 w0 fr H F w ->
   (∀ e fr H F w,K e fr H->St G ro ρ0 w0 fr H F w->WX Q n e F w)->WC P Q n c F w:=by
 intro c;induction c <;> intro Q K fr H F w g h d hK
 case skip=>exact WC.skip (hK _ _ _ _ _ h d)
 case seq a b f p=>
  simp [e_,pe] at g;refine WC.seq (f _ _ fr H F w g.1 h d fun e fr H F w h d=>?_);cases e with
  | normal=>exact WX.next (p _ _ fr H F w g.2 h d hK)
  | _=>exact hK _ fr H F w h d
 case cond c a b f p=>
  simp [e_,pe] at g;obtain ⟨ρ,V,W,A⟩:=d;have d:St G ro ρ0 w0 fr H F w:=⟨ρ,V,W,A⟩;simp [jH] at h;split at h
  ·rename_i D;obtain ⟨v,q,u⟩:=aw A (eA D);cases u with | bool=>
   exact WC.IG q (f _ _ fr H F w g.1 h d hK)
  ·rename_i D;obtain ⟨v,q,u⟩:=aw A (eA D);cases u with | bool=>
   exact WC.ah6 q (p _ _ fr H F w g.2 h d hK)
  ·rename_i e _ _ D;obtain ⟨v,q,u⟩:=aw A (eA D);cases u with | bool=>
   exact WC.cond q (fun X=>f _ _ fr H F w g.1 (h.1 ((BE.fV e true).2 X)) d hK) (fun X=>p _ _ fr H F w g.2 (h.2 ((BE.fV e false).2 X)) d hK)
  grind
 case block i a f=>
  refine WC.block (f _ _ fr H F w g h d fun e fr H F w h d=>?_);cases e with
  | exit j=>
   simp only at h;intro x o;show (if j=i then Q .normal x w else Q (.exit j) x w);cases Y:Nat.beq j i <;> rw [Y] at h
   ·have:j≠i:=by rintro rfl; simp at Y
    rw [dc this];exact hK _ fr H F w h d x o
   rw [eg (r7 Y)];exact hK _ fr H F w h d x o
  | _=>exact hK _ fr H F w h d
 case loop a f=>
  simp [jH] at h;split at h
  ·rename_i I hI;split at h
   ·rename_i m l _;intro x o;refine uB (fun N w m=>∃ fr H F,Z9 (jH T O ro k0 L a) K l m fr H/\M n F N /\ St G ro ρ0 w0 fr H F w) id m ⟨fr,H,F,h,o,d⟩ fun m N w B=>?_;obtain ⟨fr,H,F',hu,Z,y⟩:=B;cases m with
    | zero=>exact hu.elim
    | succ m=>
     obtain ⟨k,V,W,A⟩:=y;obtain ⟨S,r,U⟩:=Du A l;exact f _ _ _ _ S w g hu ⟨k,V,W,r⟩ (fun e fr H F w h d=>by
      cases e with
      | normal=>exact fun x o=>⟨m,⟨fr,H,F,h,o,d⟩,Nat.lt_succ_self m⟩
      | _=>exact hK _ fr H F w h d) N (Z.sub U)
   obtain ⟨s0,q,u,t⟩:=h;obtain ⟨hr0,t⟩:=LI.GA.1 t;intro x o;obtain ⟨S,h7,h8⟩:=gV hT C d q;refine uB (fun a w s=>I.J s/\I.rel s0 s/\∃ F,M n F a/\St G ro ρ0 w0 (I.F s).1 (I.F s).2 F w) I.μ s0 ⟨u,hr0,S,o.sub h8,h7⟩ fun s N w B=>?_;obtain ⟨hJ,hrl,F',Z,y⟩:=B;exact f _ _ _ _ F' w g (LI.XN.1 (t s hJ) hrl) y (fun e fr H F w h d=>by
    cases e with
    | normal=>
     obtain ⟨s',h4,h5,h6⟩:=h;obtain ⟨h9,h6⟩:=LI.GA.1 h6;obtain ⟨S,h7,h8⟩:=gV hT C d h4;exact fun x o=>⟨s',⟨h5,h9,S,o.sub h8,h7⟩,h6⟩
    | _=>exact hK _ fr H F w h d) N Z
  exact h.elim
 case exit i=>exact WC.exit (hK _ _ _ _ _ h d)
 case ret=>exact WC.ret (hK _ _ _ _ _ h d)
 case scope a f=>
  refine fun x o=>Mz (f (Exit.noGoto Q) _ fr H F w g h d (fun e fr H F w h d=>?_) x o);cases e with
  | goto i=>exact h.elim
  | _=>exact hK _ fr H F w h d
 case label i=>exact WC.label (hK _ _ _ _ _ h d)
 case region i z b=>
  cases b with
  | true=>exact B Q k0 i L z K fr H F w g h d fun fr H F w=>hK _ fr H F w
  | false=>
   have e:z=z.toList.toArray:=by simp
   rw [e];exact WC.region (na hT hO (fun fr H F w=>hK _ fr H F w) _ _ fr H F w g h d)
 all_goals exact h.elim
end
def adW (n:Nat) (a:List (Nat × Nat)):Nat->Nat->List Nat
 | _,0=>[]
 | k,m+1=>Hc n a k :: adW n a (k+1) m
def lW:AO->Bool
 | .row _ _ _=>true
 | _=>false
def R8 (a:AH) (c:List (Nat × Nat)):Nat->Nat->List Nat
 | _,0=>[]
 | k,m+1=>(bif lW (l4 a k) then Hc k c k else k) :: R8 a c (k+1) m
def Lk (e:AH) (a:Nat) (H:AH) (l g:List n8) (d:AH):Nat->List (Nat × Nat)->List Nat
 | 0,c=>R8 e c 0 a++adW H.length c a (d.length - a)
 | f+1,c=>Lk e a H l g d f (Hi l g++Uv H (R8 e c 0 a++adW H.length c a (d.length - a)) d)
def aex (T:List (Nat × TI)) (d:AH) (e:Nat) (f:Func) (a:List n8) (c:AH) (fr:j9) (H:AH):List Prop:=
 match wz T fr H f.results.toList with
 | some l=>match Lk d e H l a c 3 [] with
  | σ=>same (nT H.length σ)++AN H H.length σ l a++P2 T H H.length σ σ c
 | none=>[False]
def C2 (T:List (Nat × TI)) (a:AH) (c:Nat) (d:Func) (e:List n8) (f:AH) (fr:j9) (H:AH):Prop:=kj (aex T a c d e f fr H)
def Y2 (b:Bool) (T:List (Nat × TI)) (O:ck) (L:List (Nat × LI)) (a:Func) (args:List n8) (H:AH) (d:List n8) (f:AH):Prop:=
 match a.body with
 | some c=>lS (LH args) (jH T O (iu (bif b then H.length else 0)) H.length L c (fun e fr K=>match e with
  | .ret=>C2 T (bif b then [] else H) H.length a d f fr K
  | .normal=>C2 T (bif b then [] else H) H.length a d f fr K
  | _=>False) (vj 0 args) H)
 | none=>False
def wpE:=Y2 false
def wpN:=Y2 true
section
variable {P:Program} {T:List (Nat × TI)} {G:Gl} {O:ck} {n:Nat} {ρ:List RE} {H:AH} {w:World} {fr:j9} {F:Fr}
theorem oQ {c:Cx}:∀ {args:List n8} {a:List Value} {k:Nat},hQ (dJ c ρ) args a->o9 c ρ (vj k args) (xL k a)
 | [],_,_,h=>by cases h; exact .nil
 | _ :: _,_,_,h=>by cases h with | cons d e=>exact .cons ⟨rfl,d⟩ (oQ e)
def WM (c:Array Value):ResultVar->Sem Value
 | .tmp t=>pure (c.getD t undef)
 | .cell a t=>do loadVar t (<- asAddr (c.getD a undef))
def Ph {v u:Value} (h:aL P 0 [] w (.load t (.const v)) 0 u w):(do loadVar t (<- asAddr v)).run P w = .ok u w:=by
 replace h:=h ⟨#[],[]⟩ none "" #[] none ⟨rfl,rfl,fun _ _ h=>by cases h⟩;have e:(⟨#[],[]⟩:Act).eval (.const v)=v:=rfl;simp only [execOp,e,Instr.loadAt] at h;cases v;case pointer a=>
  cases a with
  | none=>simp [Instr.sureAddr] at h
  | some a=>
   simp only [Instr.sureAddr,asAddr,pure_bind] at h ⊢;rw [Q7] at h;cases c:(loadVar t a).run P w with
   | ok x d=>rw [c] at h; simp at h; rw [h.1,h.2]
   | halt x d=>rw [c] at h; simp at h
 all_goals simp [Instr.sureAddr] at h
theorem tX (hT:bz P G.shp T) (e:oh G ρ H w) (f:o9 (cx G ρ w) ρ fr F) {a:Act} (g:M n F a):∀ {I:List ResultVar} {l:List n8},wz T fr H I=some l ->
  ∃ d,hQ (dJ (cx G ρ w) ρ) l d/\(I.mapM (WM a.tmps)).run P w = .ok d w
 | [],l,h=>by cases h; exact ⟨[],.nil,rfl⟩
 | .tmp t :: r,l,h=>by
  simp [wz] at h;split at h
  ·rename_i J K o q;cases h;obtain ⟨d,s,y⟩:=tX hT e f g q;obtain ⟨v,z,m⟩:=fq f o;refine ⟨v :: d,.cons m s,?_⟩;have A:=g.at_ z;simp [WM,y,A]
  cases h
 | .cell p t :: r,l,h=>by
  simp [wz] at h;split at h
  ·rename_i N K o q;split at h
   ·rename_i J Q c;cases h;obtain ⟨d,s,y⟩:=tX hT e f g q;obtain ⟨v,z,m⟩:=fq f o;obtain ⟨u,B,C⟩:∃ u,aL P 0 [] w (.load t (.const v)) 0 u w/\Rt (cx G ρ w) ρ (.one J) u:=by
     unfold aaf at c;split at c
     ·rename_i D;cases c;obtain ⟨u,B,C,_⟩:=rz (P:=P) (F:=[]) (n:=0) (ty:=0) (x:=.const v) hT e m rfl D aa;grind
     obtain ⟨u,B,C,_,_⟩:=BM (P:=P) (F:=[]) (n:=0) (ty:=0) (x:=.const v) hT e m rfl c;grind
    have L:=Ph B;refine ⟨u :: d,.cons C s,?_⟩;have A:a.tmps.getD p undef=v:=(g.2.2 p v z).2;rw [List.mapM_cons,Q7];simp [WM,A,L];simp [y]
   cases h
  cases h
variable {fn:Func}
def lU (hT:bz P G.shp T) (f:oh G ρ H w) (g:o9 (cx G ρ w) ρ fr F) {a:Act} (m:M n F a) {l:List n8} (h:wz T fr H fn.results.toList=some l) :
  ∃ c,hQ (dJ (cx G ρ w) ρ) l c/\(results fn a.tmps).run P w = .ok (BW c) w:=by
 obtain ⟨c,o,p⟩:=tX hT f g m h;refine ⟨c,o,?_⟩;have e:results fn a.tmps=(do let d <- fn.results.mapM (WM a.tmps); pure (if h:d.size=1 then d[0] else .tuple d)):=rfl;have q:fn.results=fn.results.toList.toArray:=by simp
 rw [e,q,List.mapM_toArray];simp only [Q7,p,map_eq_pure_bind];cases c with
 | nil=>rfl
 | cons u c=>
  cases c with
  | nil=>rfl
  | cons s c=>rfl
def zL (h:i<k):ble k i=false:=by
 rw [<- not_eq_true,ble_eq]; omega
def xU {m:Nat} (h:k<=m) (i:Nat) (a:(iu k).wr i=false\/(iu k).mv i=false):i<m:=by
 have:ble k i=false:=a.elim id id;rw [<- not_eq_true,ble_eq] at this; omega
def zF (P:Program) (shp:TypeId->Option Sh) (T:List (Nat × TI)) (O:ck):Prop:=∀ (G:Gl) (n:Nat) (c:Lv) (a:List RE) (d:World),G.shp=shp->(∀ i,c.wr i=false\/c.mv i=false->i<a.length)->RD P T G O n c a d
variable {rs:List n8} {f:Nat} {L:List (Nat × LI)} {shp:TypeId->Option Sh}
theorem s6.adC {args:List n8} {pre:List Prop} (hT:bz P shp T) (W:ay P shp O) (X:zF P shp T O) (s:P.funcs[f]? = some fn) (D:(fn.name == "runtime.NumGoroutine")=false)
  (p:(match fn.body with
   | some c=>e_ fn.ntmps c && ble args.length fn.ntmps
   | none=>false)=true) (h:N4 T O L fn args H rs):s6 P shp f args H ⟨pre,rs,none,false⟩:=by
 cases g:fn.body with
 | none=>rw [g] at p; cases p
 | some c=>
 rw [g] at p;simp only [pe] at p;refine ⟨⟨fn,s,D,by rw [g]; rfl⟩,?_⟩;intro G ρ w t u q m;subst u;simp [N4,g] at h;have h:=fi.1 h (Yh.qp m);refine kI.enter s g rfl (by rw [<- m.length]; exact p.2) rfl (zN hT W (X G _ _ ρ w rfl (xU (by rw [<- q.obj.length]; exact sh _))) (k0:=H.length) (by rw [<- q.obj.length]; exact sh _) c _ _ _ H _ w p.1 h ⟨ρ,s8.refl _ _ _,q,oQ m⟩ ?_);intro e fr I F A hK J;obtain ⟨K,o,y,Y⟩:=J;have z:∀ {l},wz T fr I fn.results.toList=some l->kj (AN I I.length (y6 0 H.length) l rs)->∀ a,M fn.ntmps F a->a.defers=[]/\∃ v,(results fn a.tmps).run P A = .ok v A /\ ∃ x,Ending.returned v = .returned x/\∃ B,x=BW B/\Kp [] w A /\ hQ (dJ (cx G ρ A) ρ) rs B:=by
  intro l d Z a U;obtain ⟨B,j,n⟩:=lU hT y Y U d;refine ⟨U.1,_,n,_,rfl,B,rfl,?_,?_⟩
  ·refine ⟨o.ext.os,o.ext.tape,o.ext.output,o.ext.size,fun b g _=>?_⟩;by_cases d:live ρ b
   ·obtain ⟨i,r,C,N⟩:=d;exact (o.J1 i r (zL (by rw [q.obj.length]; exact (r3.1 C).1)) C).2 b N
   exact (o.ext.x4 b g d).2
  have C:=o_ y rfl j (fa.1 Z);have N:dy K (y6 0 H.length)=ρ:=by
   refine List.ext_getElem? fun i=>?_;by_cases Q:i<H.length
   ·have V:i<ρ.length:=by rw [<- q.obj.length]; exact Q
    rw [p6 V];exact dR (by have:=zA (k:=0) Q; rwa [x7] at this) (o.J1 i _ (zL Q) (p6 V)).1
   rw [K0 (by simp [dy,BB]; omega),K0 (by rw [<- q.obj.length]; omega)]
  rwa [N] at C
 cases e with
 | ret=>
  simp only at hK;split at hK
  ·rename_i l d; exact fun a S=>z d hK a S
  grind
 | normal=>
  simp only at hK;split at hK
  ·rename_i l d; exact fun a S=>z d hK a S
  exact hK.elim
 | _=>exact hK.elim
theorem Ud {c:AH} {ps:List (Nat × Nat)}:∀ {m k i:Nat},i<m->lW (l4 c (k+i))=false->(R8 c ps k m)[i]? = some (k+i)
 | m+1,k,0,_,a=>by
  rw [K5] at a;simp [R8,a]
 | m+1,k,i+1,h,a=>by
  have:=Ud (ps:=ps) (m:=m) (k:=k+1) (i:=i) (Nat.lt_of_succ_lt_succ h) (by rw [show k+1+i=k+(i+1) by omega]; exact a);rw [show k+(i+1)=k+1+i by omega,<- this]; rfl
theorem ph {a:AH} {c:Nat} {K:AH} {l rs:List n8} {e:AH} {i:Nat} (h:i<c) (d:lW (l4 a i)=false):∀ (f:Nat) (ps:List (Nat × Nat)),(Lk a c K l rs e f ps)[i]? = some i
 | 0,ps=>by
  show (R8 a ps 0 c++_)[i]? = _;have:=Ud (ps:=ps) (k:=0) h (by rw [x7]; exact d);grind
 | f+1,ps=>ph h d f _
variable {b:Bool}
theorem abq (c:oh G ρ H w) {g:Nat} (d:ρ[i]? = some (.blk g)):lW (l4 (bif b then [] else H) i)=false:=by
 cases b
 ·show lW (l4 H i)=false;cases e:l4 H i with
  | row t s m=>
   obtain ⟨r,a,h⟩:=c.at_ (cq e aa);rw [d] at a; cases a;obtain ⟨_,_,h | ⟨_,_,_,_,h,_⟩⟩:=h
   ·grind
   cases h
  | _=>rfl
 show lW (l4 [] i)=false;simp [l4,lW]
def s6.OY {args:List n8} {pre:List Prop} {C:AH} (hT:bz P shp T) (k:ay P shp O) (n:zF P shp T O) (D:P.funcs[f]? = some fn) (U:(fn.name == "runtime.NumGoroutine")=false)
  (z:(match fn.body with
   | some c=>e_ fn.ntmps c && ble args.length fn.ntmps
   | none=>false)=true) (h:Y2 b T O L fn args H rs C):s6 P shp f args H ⟨pre,rs,some C,b⟩:=by
 cases m:fn.body with
 | none=>rw [m] at z; cases z
 | some c=>
 rw [m] at z;simp only [pe] at z;refine ⟨⟨fn,D,U,by rw [m]; rfl⟩,?_⟩;intro G ρ w vs I A s;subst I;simp [Y2,m] at h;have h:=fi.1 h (Yh.qp s);refine kI.enter D m rfl (by rw [<- s.length]; exact z.2) rfl (zN hT k (n G _ _ ρ w rfl (xU (by cases b <;> simp [A.obj.length]))) (k0:=H.length) (by rw [<- A.obj.length]; exact sh _) c _ _ _ H _ w z.1 h ⟨ρ,s8.refl _ _ _,A,oQ s⟩ ?_);intro e fr K F B hK V;obtain ⟨d,o,u,t⟩:=V;have J:C2 T (bif b then [] else H) H.length fn rs C fr K->∀ a,M fn.ntmps F a->a.defers=[]/\∃ v,(results fn a.tmps).run P B = .ok v B /\ ∃ x,Ending.returned v = .returned x/\∃ Q,x=BW Q /\
   ∃ d,oh G d C B /\ u1 ρ w d B /\ (∀ (i g:Nat),ρ[i]? = some (.blk g)->d[i]? = some (.blk g))/\hQ (dJ (cx G d B) d) rs Q/\(b=true->Kp [] w B /\ ∀ (i:Nat) (q:RE),ρ[i]? = some q->d[i]? = some q):=by
  intro hE a Z;unfold C2 aex at hE;split at hE
  ·rename_i l S;obtain ⟨Q,h1,h2⟩:=lU hT u t Z S;replace hE:=fa.1 hE;refine ⟨Z.1,_,h2,_,rfl,Q,rfl,dy d (Lk (bif b then [] else H) H.length K l rs C 3 []),?_,om o.ext,fun i g W=>?_,?_,fun m=>?_⟩
   ·exact pn hT u rfl (cg.1 fun p N=>hE p (B9 _ (B9 _ N))) fun p N=>hE p (C6 _ N)
   ·exact dR (ph (by rw [A.obj.length]; exact (r3.1 W).1) (abq A W) _ _) (o.bx i g W)
   ·exact o_ u rfl h1 fun p N=>hE p (B9 _ (C6 _ N))
   subst m;have y:∀ (i:Nat) (q:RE),ρ[i]? = some q->i<H.length:=fun i q h=>by rw [A.obj.length]; exact (r3.1 h).1
   refine ⟨⟨o.ext.os,o.ext.tape,o.ext.output,o.ext.size,fun b m _=>?_⟩,fun i q X=>?_⟩
   ·by_cases S:live ρ b
    ·obtain ⟨i,r,j,h4⟩:=S;exact (o.J1 i r (zL (y i r j)) j).2 b h4
    exact (o.ext.x4 b m S).2
   exact dR (ph (y i q X) rfl _ _) (o.J1 i q (zL (y i q X)) X).1
  exact (show False from hE).elim
 cases e with
 | ret=>exact fun a Y=>J hK a Y
 | normal=>exact fun a Y=>J hK a Y
 | _=>exact hK.elim
end
theorem jo:∀ {ds:List DV} {i:Nat},zP ds i=ds[i]?
 | [],_=>rfl
 | _ :: _,0=>rfl
 | _ :: r,i+1=>by simpa [zP] using jo (ds:=r) (i:=i)
theorem fT {sl:List Nat}:∀ {ds:List DV} {k j:Nat},j ∈ eU sl k ds↔∃ i a,j=k+i/\ds[i]? = some a/\a.d ∈ sl
 | [],k,j=>by simp [eU]
 | a :: r,k,j=>by
  have g:=fT (sl:=sl) (ds:=r) (k:=k+1) (j:=j);have c:(∃ i b,j=k+i/\(a :: r)[i]? = some b/\b.d ∈ sl)↔(j=k/\a.d ∈ sl)\/j ∈ eU sl (k+1) r:=by
   rw [g];constructor
   ·grind
   rintro (⟨m,f⟩ | ⟨i,b,m,f,o⟩)
   ·simp_all
   exact ⟨i+1,b,az,by simpa using f,o⟩
  rw [c,show eU sl k (a :: r)=(bif cM a.d sl then k :: eU sl (k+1) r else eU sl (k+1) r) from rfl];cases e:cM a.d sl
  ·have:a.d ∉ sl:=fun h=>by rw [bQ.2 h] at e; cases e
   simp [this]
  simp [bQ.1 e]
def Na (c:List DV) (d:List (Nat × Bool)):Prop:=∀ q ∈ d,∃ a e,c[q.1]? = some a/\a.v=one (.bool e)/\e.val=q.2
theorem sD {c:List DV}:∀ {o:List (Nat × Bool)} {g:BE},Vw c o=some g->(g.val=true↔Na c o)/\∀ q ∈ o,∃ a e,c[q.1]? = some a/\a.v=one (.bool e)
 | [],g,h=>by cases h; simp [BE.val,Na]
 | (j,d) :: r,g,h=>by
  simp [Vw,jo] at h;split at h
  ·rename_i a A w x;split at h
   ·rename_i e p;cases h;obtain ⟨s,y⟩:=sD x;have p:=B1 (eA p);refine ⟨?_,fun q hq=>?_⟩
    ·have z:Na c ((j,d) :: r)↔e.val=d/\Na c r:=by
      constructor
      ·intro h;refine ⟨?_,fun q hq=>h q (by simp [hq])⟩;obtain ⟨B,C,f,m,u⟩:=h (j,d) aa;simp only at f u;rw [w] at f; cases f;rw [p] at m;cases m;exact u
      rintro ⟨f,m⟩ q hq;rcases u2.1 hq with rfl | hq
      ·grind
      exact m q hq
     rw [z,<- s];cases d <;> simp [BE.val]
    grind
   cases h
  cases h
variable {ds:List DV}
theorem zj {a:DV} (h:(ds.take i)[j]? = some a):ds[j]? = some a/\j<i:=by grind
theorem AT {ds:List DV} {i:Nat}:∀ {c:List (Nat × Bool)} {g:BE},Vw (ds.take i) c=some g->Vw ds c=some g
 | [],g,h=>h
 | (j,f) :: r,g,h=>by
  simp [Vw,jo] at h ⊢;split at h
  ·rename_i a m d e;rw [(zj d).1,AT e];exact h
  cases h
theorem xZ:∀ {x y:List (Nat × Bool)},rv x y=true->∀ q ∈ x,q ∈ y
 | (i,a) :: r,(j,b) :: l,h,q,hq=>by
  simp only [rv,pe] at h;have c:=r7 h.1.1;rcases u2.1 hq with rfl | hq
  ·grind
  exact w8 _ (xZ h.2 q hq)
def zR {x y:List (Nat × Bool)} (h:rv x y=true) (k:Na ds y):Na ds x:=fun q a=>k q (xZ h q a)
theorem xo (g:BE):(Dz g).val=g.val:=by fun_induction Dz g <;> simp_all [BE.val]
variable {e:BE}
def EJ {ob:List Prop} (h:∀ p ∈ nc e ob,p) (a:e.val=true):∀ p ∈ ob,p:=by
 unfold nc at h;split at h
 ·simp
 split at h
 ·exact h
 exact fa.1 (eD h ((BE.fV e true).2 a))
def vG {ob:List Prop} (h:e.val=true->∀ p ∈ ob,p):∀ p ∈ nc e ob,p:=by
 unfold nc;split
 ·simp
 split
 ·exact h rfl
 intro q a;rw [A1.1 a];exact fun c=>fa.2 (h ((BE.fV e true).1 c))
section
variable {P:Program} {T:List (Nat × TI)} {G:Gl} {O:ck} {n k:Nat} {l:List Oper} {ρ:List RE} {H:AH} {fr:j9} {F:Fr} {ds:List DV} {vs:Nat->Value}
def D3 (G:Gl) (ρ:List RE) (ds:List DV) (a:DV) (u:Value) (w:World):Prop:=(∀ p ∈ a.fc,p)/\(Na ds a.ch->Rt (cx G ρ w) ρ a.v u)/\(¬ Na ds a.ch->u=undef)
variable {w:World} {a:DV}
def D3.kp {u:Value} {c:World} (h:D3 G ρ ds a u w) (k:Kp [] w c):D3 G ρ ds a u c:=⟨h.1,fun d=>(h.2.1 d).c8 (Kp.le k) (lu.refl _),h.2.2⟩
theorem Bn {vs:Nat->Value} {t c:Nat} (o:p5 l c=some t):∀ {deps:List Nat},(∀ j ∈ deps,∃ d,p5 l j=some d)->(∀ j ∈ deps,p5 l j=some t->j=c)->c ∈ deps->look (dW l F vs deps) t=some (vs c)
 | j :: r,m,p,h=>by
  obtain ⟨d,q⟩:=m j aa;simp [dW,q];rw [bg];by_cases f:d=t
  ·grind
  rw [dc f];refine Bn o (fun j g=>m j (by simp [g])) (fun j g=>p j (by simp [g])) ?_;grind
theorem Hr {w:World} {p:List DV} (c:o9 (cx G ρ w) ρ fr F):∀ {deps:List Nat},(∀ j ∈ deps,∃ b,p[j]? = some b/\p5 l j=some b.d/\Rt (cx G ρ w) ρ b.v (vs j))->o9 (cx G ρ w) ρ (Of p fr deps) (dW l F vs deps)
 | [],_=>c
 | j :: r,h=>by
  obtain ⟨b,f,g,m⟩:=h j aa;simp [Of,jo,f,dW,g];exact .cons ⟨rfl,m⟩ (Hr c fun j o=>h j (by simp [o]))
theorem xn {p:List DV} {c:List (Nat × Bool)}:∀ {deps:List Nat},zt p c deps=true->∀ j ∈ deps,∃ b,p[j]? = some b/\rv b.ch c=true
 | i :: r,h,j,hj=>by
  simp [zt,jo] at h;rcases u2.1 hj with rfl | hj
  ·grind
  exact xn h.2 j hj
structure G8 (G:Gl) (ρ:List RE) (l:List Oper) (ds:List DV) (vs:Nat->Value) (p:List DV) (deps:List Nat) (w:World):Prop where
 pre:∀ (j:Nat) (a:DV),p[j]? = some a->ds[j]? = some a
 dst:∀ (j:Nat) (a:DV),ds[j]? = some a->p5 l j=some a.d
 xaa:∀ (i j:Nat) (a b:DV),ds[i]? = some a->ds[j]? = some b->a.d=b.d->i=j
 R6:∀ j ∈ deps,∃ a,p[j]? = some a/\D3 G ρ ds a (vs j) w
theorem G8.look {p:List DV} {deps:List Nat} {w:World} (h:G8 G ρ l ds vs p deps w) {j:Nat} (m:j ∈ deps) {a:DV} (g:p[j]? = some a):look (dW l F vs deps) a.d=some (vs j):=by
 refine Bn (h.dst j a (h.pre j a g)) (fun i f=>?_) (fun i f o=>?_) m
 ·obtain ⟨b,c,_⟩:=h.R6 i f;exact ⟨_,h.dst i b (h.pre i b c)⟩
 obtain ⟨b,c,_⟩:=h.R6 i f;have:=h.dst i b (h.pre i b c);rw [o] at this;exact h.xaa i j b a (h.pre i b c) (h.pre j a g) (B1 this).symm
variable {deps:List Nat} {ty:TypeId} {ch:List (Nat × Bool)}
theorem xV {Q:Exit->Act->World->Prop} {p:List DV} (h:G8 G ρ l ds vs p deps w) {gd:Option (Nat × Bool)} {N:List Nat} {g:BE} (c:FN p gd=some (ch,N)) (C:∀ (j:Nat) (a:DV),p[j]? = some a->a.d ∈ N->j ∈ deps) (i:Vw ds ch=some g)
  {d:Nat} {S:Op} {s:String} {U:Array Edge} (V:blt d n=true)
  (on:Na ds ch->WO P Q n l [⟨some d,S,ty,s,U,none⟩] (dW l F vs deps) w) (v:¬ Na ds ch->WO P Q n l [] ((d,undef) :: dW l F vs deps) w):WO P Q n l [⟨some d,S,ty,s,U,gd⟩] (dW l F vs deps) w:=by
 cases gd with
 | none=>
  cases c;exact on fun q hq=>by simp at hq
 | some q=>
  obtain ⟨j,A⟩:=q;simp [FN,jo] at c;split at c
  ·rename_i a m;cases c;have W:=C j a m aa;have x:=h.look (F:=F) W m;obtain ⟨r,y,X⟩:=h.R6 j W;rw [m] at y; cases y;obtain ⟨b,e,D,I⟩:=(sD i).2 (j,A) aa;simp only at D;rw [h.pre j a m] at D; cases D;have J:=h.dst j a (h.pre j a m);by_cases f:Na ds a.ch
   ·have z:=X.2.1 f;rw [I] at z;obtain ⟨K,o⟩:∃ K,vs j = .bool K/\K=e.val:=by
     have z:Pd (cx G ρ w) (.bool e) (vs j):=z;generalize vs j=u at z;cases z;grind
    obtain ⟨o,rfl⟩:=o;rw [o] at x;by_cases B:e.val=A
    ·exact WO.on J x B (on fun q hq=>by
      rcases y2.1 hq with hq | hq
      ·exact f q hq
      rw [A1.1 hq];exact ⟨a,e,h.pre j a m,I,B⟩)
    refine WO.off J x (by revert B; cases e.val <;> cases A <;> simp) V (v fun c=>?_);obtain ⟨b,t,L,Y,Z⟩:=c (j,A) aa;simp only at L Z;rw [h.pre j a m] at L; cases L;rw [I] at Y; cases Y;exact B Z
   have k:=X.2.2 f;rw [k] at x;exact WO.Z4 J x V (v fun c=>f fun q hq=>c q (by simp [hq]))
  cases c
variable {x:Operand}
def Ps {v:Value} (h:ev [] x=some v):ev F x=some v:=by
 cases x with
 | tmp i=>cases h
 | _=>exact h
theorem NI {p:List DV} (h:G8 G ρ l ds vs p deps w) (U:Na ds ch) {t:Nat} {y:Operand} {v:BE} (g:QA p ch t x y=some v) (I:∀ (j:Nat) (a:DV),p[j]? = some a->a.d=t\/a.d ∈ Operand.sl x\/a.d ∈ Operand.sl y->j ∈ deps) :
  aL P n (dW l F vs deps) w (.pick (.tmp t) x y) ty (.bool v.val) w:=by
 unfold QA at g;split at g
 ·rename_i Q T;split at g
  ·rename_i c S;rw [jo] at S;split at g
   ·rename_i e O V;split at g
    ·rename_i W hjx;split at g
     ·rename_i a X;rw [jo] at X;split at g
      ·rename_i hpa;have Y:c.d=t:=by
        obtain ⟨i,b,K,A,L⟩:=fT.1 (show Q ∈ eU [t] 0 p by rw [T]; simp);rw [x7] at K; subst K;rw [S] at A; cases A;simpa using L
       have Z:=I Q c S (.inl Y);have hl:=h.look (F:=F) Z S;rw [Y] at hl;have O:=B1 (eA O);have B:look (dW l F vs deps) t=some (.bool e.val):=by
        obtain ⟨c',k,hv⟩:=h.R6 Q Z;rw [S] at k; cases k;have s:=hv.2.1 (zR V U);rw [O] at s;have s:Pd (cx G ρ w) (.bool e) (vs Q):=s;rw [hl];generalize vs Q=u at s;cases s;rfl
       have C:e.val=ln x->∀ z,rX (some a.v)=some z->ev (dW l F vs deps) (cond (ln x) x y)=some (.bool z.val):=by
        intro hw z D;have D:=B1 (eA D);have r:=fT.1 (show W ∈ eU (Operand.sl (cond (ln x) x y)) 0 p by rw [hjx]; simp);obtain ⟨i,b,K,A,L⟩:=r;rw [x7] at K; subst K;rw [X] at A; cases A;have J:=I W a X (.inr (by
         cases hx:ln x <;> rw [hx] at L
         ·grind
         exact .inl L))
        obtain ⟨a',H,hv⟩:=h.R6 W J;rw [X] at H; cases H;have s:=hv.2.1 (zR hpa fun q hq=>by
         rcases y2.1 hq with hq | hq
         ·exact U q hq
         rw [A1.1 hq];exact ⟨c,e,h.pre Q c S,O,hw⟩)
        rw [D] at s;have s:Pd (cx G ρ w) (.bool z) (vs W):=s;have hl2:=h.look (F:=F) J X;generalize cond (ln x) x y=o at L ⊢;cases o <;> simp [Operand.sl,A1,R2] at L;rw [<- L];show look _ a.d=_;rw [hl2];generalize vs W=u at s;cases s;rfl
       have m:∀ z,rX (dI [] (cond (ln x) y x))=some z->ev (dW l F vs deps) (cond (ln x) y x)=some (.bool z.val):=by
        intro z D;obtain ⟨u,K,A⟩:=aw (c:=cx G ρ w) (ρ:=ρ) (fr:=[]) (F:=[]) .nil (eA D);have A:Pd (cx G ρ w) (.bool z) u:=A;cases A;exact Ps K
       unfold Jq at g;cases hx:ln x <;> rw [hx] at g C m <;> simp at C m g
       ·split at g
        ·grind
        ·rename_i z _ D N;cases g;cases f:e.val with
         | false=>rw [show (BE.or e z).val=z.val by simp [BE.val,f]]; exact R.DK (f ▸ B) rfl (C f z D)
         | true=>rw [show (BE.or e z).val=true by simp [BE.val,f]]; exact R.AM (f ▸ B) rfl (m _ N)
        cases g
       split at g
       ·rename_i z _ D N;cases g;cases f:e.val with
        | true=>rw [show (BE.and e z).val=z.val by simp [BE.val,f]]; exact R.AM (f ▸ B) rfl (C f z D)
        | false=>rw [show (BE.and e z).val=false by simp [BE.val,f]]; exact R.DK (f ▸ B) rfl (m _ N)
       ·contradiction
       cases g
      cases g
     cases g
    cases g
   cases g
  cases g
 cases g
theorem VP (hT:bz P G.shp T) (X:ay P G.shp O) {p:List DV} {o:Oper} (c:uv T O H fr p o=some a) (h:G8 G ρ l ds vs p a.deps w) (K:∀ ch g,Vw p ch=some g->Vw ds ch=some g) (L:∀ q ∈ a.ob,q) (V:∀ d,o.dst=some d->blt d n=true) (Y:oh G ρ H w) (Z:o9 (cx G ρ w) ρ fr F) :
  o.dst=some a.d/\WO P (rf n (some a.d) [] (D3 G ρ ds a) w) n l [o] (dW l F vs a.deps) w:=by
 obtain ⟨dst,e,ty,i,af,gd⟩:=o;unfold uv at c;split at c
 ·rename_i d ch k s z;simp only at s z;subst s;split at c
  ·rename_i g hg;have m:=K _ _ hg;have A:=V d rfl;split at c
   ·-- a pick
    rename_i t x y B;simp only at B;subst B;split at c
    ·rename_i v C;cases c;refine ⟨rfl,xV h z (fun j b u hb=>fT.2 ⟨j,b,aa,u,by simp [hb]⟩) m A (fun f=>?_) (fun f=>?_)⟩
     ·refine WO.v (NI h f C fun j b u hb=>fT.2 ⟨j,b,aa,u,?_⟩) A (WO.nil (WX.aQ (v:=.bool v.val) (by rw [bg,eg rfl]) ⟨aa,fun _=>Pd.bool,fun h=>absurd f h⟩ (Kp.refl w)));simp only [EN,Operand.sl,y2,A1];rcases hb with hb | hb | hb
      ·grind
      ·exact .inl (.inl (.inr hb))
      exact .inl (.inr hb)
     exact WO.nil (WX.aQ (v:=undef) (by rw [bg,eg rfl]) ⟨aa,fun h=>absurd h f,fun _=>rfl⟩ (Kp.refl w))
    cases c
   split at c
   ·rename_i r D N;cases c;refine ⟨rfl,xV h z (fun j b u hb=>fT.2 ⟨j,b,aa,u,by simp [hb]⟩) m A (fun f=>?_) (fun f=>?_)⟩
    ·have Q:=(sD m).1.2 f;have S:=Hr (l:=l) (vs:=vs) (F:=F) Z (p:=p) (deps:=eU (EN e++k) 0 p) fun j u=>by
      obtain ⟨b,hb,I⟩:=xn D j u;obtain ⟨b',J,C⟩:=h.R6 j u;rw [hb] at J; cases J;exact ⟨b,hb,h.dst j b (h.pre j b hb),C.2.1 (zR I f)⟩
     refine WO.y (vH (ty:=ty) hT X Y S N (EJ L (by rw [xo]; exact Q))) V fun v w' ⟨hk,C,U⟩=>?_;exact WO.nil (WX.aQ (v:=v) (by simp [jW]; rw [bg,eg rfl]) ⟨vG fun _=>U,fun _=>C,fun h=>absurd f h⟩ hk)
    refine WO.nil (WX.aQ (v:=undef) (by rw [bg,eg rfl]) ⟨vG fun W=>?_,fun h=>absurd h f,fun _=>rfl⟩ (Kp.refl w));rw [xo] at W;exact absurd ((sD m).1.1 W) f
   cases c
  cases c
 cases c
end
theorem dg {a:List Nat}:∀ {l:List Nat},tt a l=true↔∀ i ∈ l,i ∉ a
 | []=>by simp [tt]
 | j :: r=>by simp [tt,dg,<- not_eq_true,bQ]
theorem iD {n:Nat}:∀ {l:List Nat},oZ n l=true↔∀ i ∈ l,i<n
 | []=>by simp [oZ]
 | j :: r=>by
  simp [oZ,iD]
theorem ox {σ:List Nat}:∀ {H:AH} {k p:Nat},(sy σ k H)[p]? = (H[p]?).map fun o=>if k+p ∈ σ then o else .loc
 | [],_,_=>by simp [sy]
 | o :: r,k,0=>by
  simp only [sy,List.getElem?_cons_zero,D6,K5];cases h:cM k σ with
  | true=>rw [eg (bQ.1 h)]; rfl
  | false=>rw [dc fun a=>by rw [bQ.2 a] at h; cases h]; rfl
 | o :: r,k,p+1=>by
  simp [sy,ox];grind
theorem qK {σ:List Nat}:∀ {H:AH} {k:Nat},(sy σ k H).length=H.length
 | [],_=>rfl
 | _ :: r,k=>by simp [sy,qK (H:=r)]
def RC.obj (r:RC) (p:Nat) (o:AO):AO:=if p ∈ r.ch then (match r.E6 with
 | some e=>e.put o
 | none=>l4 r.u5 p) else q6 r.mv o
theorem yb {r:RC}:∀ {H:AH} {k p:Nat},(mj r.ch r.mv r.E6 r.u5 k H)[p]? = (H[p]?).map (r.obj (k+p))
 | [],_,_=>by simp [mj]
 | o :: l,k,0=>by
  simp only [mj,List.getElem?_cons_zero,D6,K5,RC.obj];cases h:cM k r.ch with
  | true=>rw [eg (bQ.1 h)]; cases r.E6 <;> rfl
  | false=>rw [dc fun a=>by rw [bQ.2 a] at h; cases h]; rfl
 | o :: l,k,p+1=>by
  simp [mj,yb];grind
theorem iP {c d:List Nat} {e:Option B2} {a:AH}:∀ {H:AH} {k:Nat},(mj c d e a k H).length=H.length
 | [],_=>rfl
 | _ :: r,k=>by simp [mj,iP (H:=r)]
def s5 (a:List Nat) (v:TV):TV:=match a with
 | []=>v
 | _ :: _=>v.mapA (AV.cX a)
theorem tJ {g:AV->AV} {t:Nat}:∀ {fr:j9},l1 (jK g fr) t=(l1 fr t).map (TV.mapA g)
 | []=>rfl
 | (i,v) :: r=>by
  simp [jK,l1];cases Nat.beq i t
  ·exact tJ
  rfl
variable {t:Nat} {mv:List Nat}
theorem Fm {fr:j9}:l1 (TR mv fr) t=(l1 fr t).map (s5 mv):=by
 cases mv with
 | nil=>cases h:l1 fr t <;> simp [TR,s5,h]
 | cons a r=>exact tJ
variable {d:Option Nat}
theorem MD {v:TV} {fr:j9}:l1 (rV d v fr) t=if d=some t then some v else l1 fr t:=by
 cases d with
 | none=>simp [rV]
 | some d=>simp [rV,dT]
structure RC.Fit (r:RC):Prop where
 base:r.base=r.H0.length
 le:r.base<=r.u5.length
variable {r:RC}
theorem dH {q:j9 × AH} (h:r.Fit) (a:q.2.length=r.base):(r.p4 q).2.length=r.u5.length:=by
 have:=h.le;simp [RC.p4,iP]; omega
def ig {q:j9 × AH} (h:r.Fit) (c:q.2.length=r.base) {p:Nat}:(r.p4 q).2[p]? = if p<r.base then (q.2[p]?).map (r.obj p) else r.u5[p]?:=by
 simp [RC.p4];by_cases a:p<r.base
 ·rw [eg a,C9 (by rw [iP]; omega),yb,x7]
 rw [dc a,N9 (by rw [iP]; omega),iP,C7];congr 1; omega
def jf {q:j9 × AH}:l1 (r.p4 q).1 t=if r.dst=some t then some r.v else (l1 q.1 t).map (s5 r.mv):=by
 simp [RC.p4,MD,Fm]
def RC.KN (r:RC) (q:j9 × AH):j9 × AH:=(q.1,q.2++replicate (r.u5.length - r.base) .gone)
theorem iq {q:j9 × AH} (h:r.Fit) (a:q.2.length=r.base):(r.KN q).2.length=r.u5.length:=by
 have:=h.le;simp [RC.KN]; omega
theorem iM {q:j9 × AH} (h:r.Fit) (a:q.2.length=r.base) {p:Nat}:(r.KN q).2[p]? = if p<r.base then q.2[p]? else if p<r.u5.length then some .gone else none:=by
 simp [RC.KN];grind
def jG (s:Nat->Bool):Nat->List RC->j9 × AH->j9 × AH
 | _,[],q=>q
 | i,r :: a,q=>jG s (i+1) a (bif s i then r.p4 q else r.KN q)
def B6:List RC->j9 × AH->j9 × AH
 | [],q=>q
 | r :: a,q=>B6 a (r.p4 q)
def gA:j9 × AH->List RC->Prop
 | _,[]=>True
 | q,r :: a=>r.u6=q.1/\r.H0=q.2/\r.Fit/\gA (r.p4 q) a
theorem Hz {s:Nat->Bool}:∀ {a b:List RC} {k:Nat} {q:j9 × AH},jG s k (a++b) q=jG s (k+a.length) b (jG s k a q)
 | [],_,_,_=>by simp [jG]
 | r :: a,b,k,q=>by
  simp [jG,Hz (a:=a)];congr 1; omega
theorem qi {s c:Nat->Bool}:∀ {a:List RC} {k:Nat} {q:j9 × AH},(∀ i,k<=i->i<k+a.length->s i=c i)->jG s k a q=jG c k a q
 | [],_,_,_=>rfl
 | r :: a,k,q,h=>by
  simp [jG];rw [h k (sh _) aa];exact qi fun i g f=>h i az (by simp at f ⊢; omega)
theorem yQ {s:Nat->Bool}:∀ {a:List RC} {k:Nat} {q p:j9 × AH},gA p a->q.2.length=p.2.length->(jG s k a q).2.length=(B6 a p).2.length
 | [],_,_,_,_,h=>h
 | r :: a,k,q,p,c,h=>by
  obtain ⟨_,f,g,m⟩:=c;have o:=g.base;rw [f] at o;simp [jG];refine yQ m ?_;cases s k
  ·grind [iq,dH]
  grind [dH]
theorem FZ:∀ {a:List RC} {p:j9 × AH},gA p a->p.2.length<=(B6 a p).2.length
 | [],_,_=>sh _
 | r :: a,p,g=>by
  obtain ⟨_,h,c,m⟩:=g;have f:=c.base;rw [h] at f;have:=FZ m;rw [dH c f.symm] at this;have:=c.le;simp [B6]; omega
theorem gA.Ny:∀ {a b:List RC} {p:j9 × AH},gA p (a++b)↔gA p a/\gA (B6 a p) b
 | [],b,p=>by simp [gA,B6]
 | r :: a,b,p=>by simp [gA,B6,gA.Ny (a:=a),and_assoc]
theorem zi:∀ {a b:List RC} {p:j9 × AH},B6 (a++b) p=B6 b (B6 a p)
 | [],_,_=>rfl
 | r :: a,b,p=>by simp [B6,zi (a:=a)]
def ic {a:AV} (h:∀ i ∈ a.v8,i ∉ mv):a.cX mv=a:=by
 have c:∀ j,j ∉ mv->cM j mv=false:=fun j f=>by rw [<- not_eq_true,bQ]; exact f
 cases a with
 | own j=>simp [AV.cX,c j (h j (by simp [AV.v8]))]
 | sub j _ _=>simp [AV.cX,c j (h j (by simp [AV.v8]))]
 | x8 j _ _=>simp [AV.cX,c j (h j (by simp [AV.v8]))]
 | _=>rfl
theorem jM {i:Nat}:∀ {l:List AV} {a:AV},a ∈ l->i ∈ a.v8->i ∈ vJ l
 | b :: r,a,h,c=>by
  simp [vJ];rcases u2.1 h with rfl | h
  ·grind
  exact .inr (jM h c)
theorem sI {g:AV->AV}:∀ {l:List AV},(∀ a ∈ l,g a=a)->tf g l=l
 | [],_=>rfl
 | a :: r,h=>by simp only [tf]; rw [h a aa,sI fun b c=>h b (by simp [c])]
def ub {g:AV->AV} {t:n8} (h:∀ a ∈ t.cells,g a=a):t.mapA g=t:=by
 cases t with
 | c a=>simp [n8.mapA]; rw [h a (by simp [n8.cells])]
 | agg l=>exact hC n8.agg (sI h)
theorem xr {i:Nat}:∀ {l:List n8} {t:n8} {a:AV},t ∈ l->a ∈ t.cells->i ∈ a.v8->i ∈ Kk l
 | b :: r,t,a,h,c,f=>by
  simp [Kk];rcases u2.1 h with rfl | h
  ·exact .inl (jM c f)
  exact .inr (xr h c f)
theorem yz {g:AV->AV}:∀ {l:List n8},(∀ t ∈ l,∀ a ∈ t.cells,g a=a)->yU g l=l
 | [],_=>rfl
 | a :: r,h=>by simp only [yU]; rw [ub (h a aa),yz fun b c=>h b (by simp [c])]
theorem qj {v:TV} (h:tt mv v.v8=true):s5 mv v=v:=by
 have h:=dg.1 h;cases mv with
 | nil=>rfl
 | cons m r=>
  cases v with
  | one t=>exact hC TV.one (ub fun a c=>ic fun i f=>h i (jM c f))
  | C4 l=>exact hC TV.C4 (yz fun t g a c=>ic fun i f=>h i (xr g c f))
  | un=>rfl
variable {o:AO}
theorem pF (h:tt mv o.v8=true):q6 mv o=o:=by
 have h:=dg.1 h;cases mv with
 | nil=>rfl
 | cons m r=>
  cases o with
  | box t p=>exact hC (AO.box t) (sI fun a f=>ic fun i c=>h i (jM f c))
  | p7 l=>
   show AO.p7 (mapM _ l)=_;rw [sK];congr 1;refine (V3 fun q g=>?_).trans (map_id _);have e:=ic (mv:=m :: r) (a:=q.2) fun i c=>h i (jM (T4 g) c);grind
  | _=>rfl
variable {a b:List Nat}
def tj {x:AV}:(x.cX a).cX b=(x.cX b).cX a:=by
 cases x with
 | own j=>cases c:cM j a <;> cases f:cM j b <;> simp [AV.cX,c,f]
 | sub j _ _=>cases c:cM j a <;> cases f:cM j b <;> simp [AV.cX,c,f]
 | x8 j _ _=>cases c:cM j a <;> cases f:cM j b <;> simp [AV.cX,c,f]
 | _=>rfl
theorem qm {g h:AV->AV}:∀ {l:List AV},tf g (tf h l)=tf (fun a=>g (h a)) l
 | []=>rfl
 | a :: r=>by simp [tf,qm (l:=r)]
variable {h:AV->AV}
theorem vF {g:AV->AV} {t:n8}:(t.mapA h).mapA g=t.mapA fun a=>g (h a):=by
 cases t with
 | c a=>rfl
 | agg l=>simp [n8.mapA,qm]
theorem xY {g h:AV->AV}:∀ {l:List n8},yU g (yU h l)=yU (fun a=>g (h a)) l
 | []=>rfl
 | a :: r=>by simp [yU,vF,xY (l:=r)]
theorem Cd {v:TV}:s5 b (s5 a v)=s5 a (s5 b v):=by
 cases a with
 | nil=>rfl
 | cons x r=>
  cases b with
  | nil=>rfl
  | cons y q=>
   have e:(fun z:AV=>(z.cX (x :: r)).cX (y :: q))=fun z=>(z.cX (y :: q)).cX (x :: r):=funext fun z=>tj;cases v with
   | one t=>simp [s5,TV.mapA,vF,e]
   | C4 l=>simp [s5,TV.mapA,xY,e]
   | un=>rfl
theorem Ln {g:AV->AV}:mapM g (mapM h l)=mapM (fun a=>g (h a)) l:=by
 induction l with
 | nil=>rfl
 | cons q r c=>obtain ⟨k,a⟩:=q; simp [mapM,c]
def EX:q6 b (q6 a o)=q6 a (q6 b o):=by
 cases a with
 | nil=>rfl
 | cons x r=>
  cases b with
  | nil=>rfl
  | cons y q=>
   have e:(fun z:AV=>(z.cX (x :: r)).cX (y :: q))=fun z=>(z.cX (y :: q)).cX (x :: r):=funext fun z=>tj;cases o with
   | box t c=>simp [q6,AO.mapA,qm,e]
   | p7 l=>simp [q6,AO.mapA,Ln,e]
   | _=>rfl
def tr:q6 a .gone = .gone:=by cases a <;> rfl
inductive C5:AO->AO->Prop
 | rfl {o:AO}:C5 o o
 | map {l l':List (Int × AV)}:(∀ k,u0 k l=u0 k l')->C5 (.p7 l) (.p7 l')
variable {o':AO}
def C5.or {c:Cx} {r:RE} (h:C5 o o') (k:OR c ρ o r):OR c ρ o' r:=by
 cases h with
 | rfl=>exact k
 | map f=>
  obtain ⟨g,e,a,n,m,p,q⟩:=k;exact ⟨g,e,a,n,m,p,fun k=>by rw [<- f]; exact q k⟩
def C5.trans {a b c:AO} (h:C5 a b) (k:C5 b c):C5 a c:=by
 cases h with
 | rfl=>exact k
 | map h=>
  cases k with
  | rfl=>exact .map h
  | map k=>exact .map fun x=>(h x).trans (k x)
def C5.symm {a b:AO} (h:C5 a b):C5 b a:=by
 cases h with
 | rfl=>exact .rfl
 | map h=>exact .map fun x=>(h x).symm
theorem qk {g:AV->AV} {k:Int}:∀ {l:List (Int × AV)},u0 k (mapM g l)=(u0 k l).map g
 | []=>rfl
 | (j,a) :: r=>by
  simp [mapM,u0];by_cases h:k=j
  ·grind
  simp_all [qk]
theorem C5.kill (h:C5 o o'):C5 (q6 mv o) (q6 mv o'):=by
 cases h with
 | rfl=>exact .rfl
 | map h=>
  cases mv with
  | nil=>exact .map h
  | cons a r=>exact .map fun k=>by rw [qk,qk,h]
theorem C5.put {e:B2} {o o':AO} (h:C5 o o'):C5 (e.put o) (e.put o'):=by
 cases h with
 | rfl=>exact .rfl
 | map h=>
  cases e with
  | fn k a=>exact .map fun j=>by simp [u0,h]
  | da s k x=>exact .map h
def Uz {j k:Int} {b:AV} {s:Sh} {x:l5 s}:(B2.fn j b).put ((B2.da s k x).put o)=(B2.da s k x).put ((B2.fn j b).put o):=by
 cases o with
 | q7 c g=>
  by_cases h:c = s
  ·subst h; simp [B2.put]
  simp [B2.put,dif_neg h]
 | _=>rfl
variable {e:B2}
theorem put_comm {f:B2} (h:e.key≠f.key):C5 (f.put (e.put o)) (e.put (f.put o)):=by
 cases e with
 | fn k a=>
  cases f with
  | fn j b=>
   cases o with
   | p7 l=>
    refine .map fun i=>?_;simp [u0];have h:k≠j:=h;grind
   | _=>exact .rfl
  | da s j x=>rw [Uz]; exact .rfl
 | da s k x=>
  cases f with
  | fn j b=>rw [Uz]; exact .rfl
  | da q j y=>
   cases o with
   | q7 p g=>
    by_cases m:p = s
    ·by_cases c:p = q
     ·subst m; subst c;simp [B2.put];have u:(fun i=>if i=j then some y else if i=k then some x else g i)=fun i=>if i=k then some x else if i=j then some y else g i:=by
       have h:k≠j:=h;grind
      rw [u];exact .rfl
     subst m;simp [B2.put,dif_neg c];exact .rfl
    by_cases c:p = q
    ·subst c;simp [B2.put,dif_neg m];exact .rfl
    simp [B2.put,dif_neg m,dif_neg c];exact .rfl
   | _=>exact .rfl
def BL (h:∀ k a,e = .fn k a->tt mv a.v8=true):q6 mv (e.put o)=e.put (q6 mv o):=by
 cases mv with
 | nil=>rfl
 | cons m r=>
  cases e with
  | fn k a=>
   cases o with
   | p7 l=>
    have:=ic (mv:=m :: r) (a:=a) (dg.1 (h k a rfl));simp [q6,B2.put,AO.mapA,mapM,this]
   | _=>rfl
  | da s k x=>
   cases o with
   | q7 c g=>
    by_cases h:c = s
    ·subst h; simp [B2.put,q6,AO.mapA]
    simp [B2.put,dif_neg h,q6,AO.mapA]
   | _=>rfl
def kd:AO->Option (Option Sh)
 | .p7 _=>some none
 | .q7 s _=>some (some s)
 | _=>none
theorem EM:kd (e.put o)=kd o:=by
 cases e with
 | fn k a=>cases o <;> rfl
 | da s k x=>
  cases o with
  | q7 c g=>
   simp [B2.put];split
   ·rename_i h; subst h; rfl
   rfl
  | _=>rfl
def sM:kd (q6 mv o)=kd o:=by cases mv <;> cases o <;> rfl
theorem CV {mv:List Nat}:∀ {H:AH} {k p:Nat} {o:AO},H[p]? = some o->k+p ∉ Le mv k H->tt mv o.v8=true
 | x :: r,k,0,o,h,c=>by
  simp [Le] at c;grind
 | x :: r,k,p+1,o,h,c=>by
  refine CV (H:=r) (k:=k+1) (p:=p) (by simpa using h) fun f=>c ?_;simp [Le];grind
theorem Dm {mv:List Nat}:∀ {fr:j9} {t:Nat} {v:TV},l1 fr t=some v->t ∉ UW mv fr->tt mv v.v8=true
 | (i,x) :: r,t,v,h,c=>by
  rw [dT] at h;simp [UW] at c;by_cases f:i=t
  ·grind
  rw [dc f] at h;refine Dm h fun g=>c ?_;grind
theorem oX {fr:j9} {i t:Nat} {v:TV} (c:l1 fr t=some v) (f:i ∈ v.v8):∀ {U:List Nat},t ∈ U->i ∈ pj fr U
 | u :: r,h=>by
  simp [pj];rcases u2.1 h with rfl | h
  ·grind
  exact .inr (oX c f h)
theorem rF {fr:j9} {i t:Nat} {v:TV} (c:l1 fr t=some v) (f:i ∈ v.ids):∀ {U:List Nat},t ∈ U->i ∈ x5 fr U
 | u :: r,h=>by
  simp [x5];rcases u2.1 h with rfl | h
  ·grind
  exact .inr (rF c f h)
theorem jl {H:AH} {i p:Nat} (c:i ∈ (l4 H p).v8):∀ {l:List Nat},p ∈ l->i ∈ mS H l
 | u :: r,h=>by
  simp [mS];rcases u2.1 h with rfl | h
  ·grind
  exact .inr (jl c h)
theorem sY {H:AH} {i p:Nat} (c:i ∈ (l4 H p).ids):∀ {l:List Nat},p ∈ l->i ∈ C3 H l
 | u :: r,h=>by
  simp [C3];rcases u2.1 h with rfl | h
  ·grind
  exact .inr (sY c h)
def oS (h:r.Fit) {p:Nat}:p ∈ r.new↔r.base<=p/\p<r.u5.length:=by
 rw [RC.new,QL]; omega
def ir {p:Nat} (h:H[p]? = some o):l4 H p=o:=by unfold l4; rw [ts,h]; rfl
structure E7 (a b:RC):Prop where
 dst:∀ d,b.dst=some d->d ∉ a.U
 chσ:∀ p ∈ a.σ,p ∉ b.ch
 chn:∀ p ∈ a.new,p ∉ b.ch
 nσ:∀ p ∈ a.σ,p ∉ b.new
 r8:∀ p ∈ a.ch,p ∉ b.new
 kp:∀ p ∈ a.σ,∀ o,b.H0[p]? = some o->q6 b.mv o=o
 ks:∀ t ∈ a.U,∀ v,l1 b.u6 t=some v->s5 b.mv v=v
 sl:∀ t ∈ a.U,∀ v,l1 a.u6 t=some v->s5 b.mv v=v
 ob:∀ p ∈ a.σ,q6 b.mv (l4 a.H0 p)=l4 a.H0 p
 v:s5 b.mv a.v=a.v
 rc:∀ p ∈ a.ch,q6 b.mv (l4 a.u5 p)=l4 a.u5 p
 rn:∀ p ∈ a.new,q6 b.mv (l4 a.u5 p)=l4 a.u5 p
 en:∀ k x,a.E6=some (.fn k x)->tt b.mv x.v8=true
def Us {l:List Nat}:tt [] l=true:=dg.2 fun _ _ h=>by simp at h
theorem pG {l c:List Nat} (h:tt mv l=true) (f:∀ i ∈ c,i ∈ l):tt mv c = true:=dg.2 fun i g=>dg.1 h i (f i g)
variable {a b:RC}
theorem IT (h:W8 a b=true):E7 a b:=by
 simp [W8] at h;obtain ⟨⟨⟨⟨⟨q,s⟩,u⟩,w⟩,x⟩,c⟩:=h;have f:∀ d,b.dst=some d->d ∉ a.U:=fun d f y=>by
  simp only [f,abP,bQ.2 y] at q; cases q
 refine ⟨f,dg.1 s,dg.1 u,dg.1 w,dg.1 x,?_,?_,?_,?_,?_,?_,?_,?_⟩ <;> (cases g:b.mv with
  | nil=>intros; first | rfl | exact Us
  | cons m r=>?_) <;> (rw [g] at c; simp at c; obtain ⟨⟨⟨⟨⟨⟨⟨z,A⟩,I⟩,J⟩,B⟩,K⟩,L⟩,N⟩:=c)
 ·intro p C o D;exact pF (CV (k:=0) D (by rw [x7]; exact dg.1 z p C))
 ·intro t F v G;exact qj (Dm G (dg.1 A t F))
 ·grind [qj,pG,oX]
 ·grind [pF,pG,jl]
 ·exact qj B
 ·grind [pF,pG,jl]
 ·grind [pF,pG,jl]
 grind
def RC.fP {p:Nat} (h:p ∉ r.ch):r.obj p o=q6 r.mv o:=by rw [RC.obj,dc h]
structure Y3 (b:RC) (q p:j9 × AH):Prop where
 len:q.2.length=p.2.length
 ob:∀ x ∈ b.σ,q.2[x]? = p.2[x]?
 kd:∀ x ∈ b.ch,(q.2[x]?).map kd=(p.2[x]?).map kd
 sl:∀ t ∈ b.U,l1 q.1 t=l1 p.1 t
theorem yZ (h:G0 a b=true) {p:Nat} (c:p ∈ a.ch) (g:p ∈ b.ch):∃ e f,a.E6=some e/\b.E6=some f/\e.key≠f.key:=by
 unfold G0 at h;split at h
 ·rename_i e f m q;simp at h;rcases h with h | h
  ·exact absurd c (dg.1 h p g)
  grind
 exact absurd c (dg.1 h p g)
theorem HH {b:RC} {s:Nat->Bool}:∀ {A:List RC} {k:Nat} {q p:j9 × AH},gA p A->(∀ j r,A[j]? = some r->s (k+j)=true\/(E7 b r/\G0 b r=true))->Y3 b q p->Y3 b (jG s k A q) (B6 A p)
 | [],_,_,_,_,_,h=>h
 | r :: A,k,q,p,L,J,h=>by
  obtain ⟨N,K,g,O⟩:=L;have w:p.2.length=r.base:=by rw [<- K]; exact g.base.symm
  have m:q.2.length=r.base:=h.len.trans w;simp [jG,B6];refine HH O (fun j P Q=>by have:=J (j+1) P (by simpa using Q); rwa [show k+(j+1)=k+1+j by omega] at this) ?_;cases S:s k with
  | true=>
   simp;refine ⟨(dH g m).trans (dH g w).symm,fun x u=>?_,fun x u=>?_,fun t B=>?_⟩
   ·rw [ig g m,ig g w,h.ob x u]
   ·rw [ig g m,ig g w];by_cases c:x<r.base
    ·rw [eg c,eg c];have:=h.kd x u;have D:∀ o o',kd o=kd o' -> kd (r.obj x o)=kd (r.obj x o'):=fun o o' e=>by
      unfold RC.obj;split
      ·grind [EM]
      rw [sM,sM,e]
     cases F:q.2[x]? <;> cases y:p.2[x]? <;> rw [F,y] at this <;> simp at this ⊢;exact D _ _ this
    grind
   rw [jf,jf,h.sl t B]
  | false=>
   simp;obtain ⟨z,T⟩:=(J 0 r rfl).resolve_left (by rw [K5,S]; simp);refine ⟨(iq g m).trans (dH g w).symm,fun x u=>?_,fun x u=>?_,fun t B=>?_⟩
   ·rw [iM g m,ig g w,h.ob x u];by_cases c:x<r.base
    ·rw [eg c,eg c];cases y:p.2[x]? with
     | none=>rfl
     | some o=>
      rw [D6,RC.fP (z.chσ x u),z.kp x u o (by rw [K]; exact y)]
    rw [dc c,dc c];have C:=z.nσ x u;rw [oS g] at C;rw [dc (fun G=>C ⟨az,G⟩),K0 az]
   ·rw [iM g m,ig g w];by_cases c:x<r.base
    ·rw [eg c,eg c];have:=h.kd x u;cases F:q.2[x]? <;> cases y:p.2[x]? <;> rw [F,y] at this <;> simp at this ⊢;rw [this];unfold RC.obj;split
     ·rename_i I;obtain ⟨e,f,_,U,_⟩:=yZ T u I;rw [U]; exact EM.symm
     exact sM.symm
    rw [dc c,dc c];have C:=z.r8 x u;rw [oS g] at C;rw [dc (fun G=>C ⟨az,G⟩),K0 az]
   rw [jf,dc (fun e=>z.dst t e B)];show l1 q.1 t=_;rw [h.sl t B];cases y:l1 p.1 t with
   | none=>rfl
   | some v=>rw [D6,z.ks t B v (by rw [N]; exact y)]
structure N5 (b:RC) (q:j9 × AH):Prop where
 ob:∀ x ∈ b.σ,x<b.base->q.2[x]? = b.H0[x]?
 kd:∀ x ∈ b.ch,x<b.base->(q.2[x]?).map kd=(b.H0[x]?).map kd
 sl:∀ t ∈ b.U,l1 q.1 t=l1 b.u6 t
 gn:∀ x,b.base<=x->x<b.u5.length->q.2[x]? = some .gone
theorem DX {b:RC} (u:b.Fit) {s:Nat->Bool}:∀ {A:List RC} {k:Nat} {q p:j9 × AH},gA p A->b.u5.length<=p.2.length->q.2.length=p.2.length->(∀ j r,A[j]? = some r->s (k+j)=false\/(E7 b r/\G0 b r=true))->N5 b q->N5 b (jG s k A q)
 | [],_,_,_,_,_,_,_,h=>h
 | r :: A,k,q,p,I,J,w,D,h=>by
  obtain ⟨S,K,m,L⟩:=I;have F:p.2.length=r.base:=by rw [<- K]; exact m.base.symm
  have g:q.2.length=r.base:=w.trans F;have N:=m.le;simp [jG];have B:(bif s k then r.p4 q else r.KN q).2.length=(r.p4 p).2.length:=by grind [iq,dH]
  have G:=u.le;refine DX u L (by rw [dH m F]; omega) B (fun j O P=>by have:=D (j+1) O (by simpa using P); rwa [show k+(j+1)=k+1+j by omega] at this) ?_;cases Q:s k with
  | false=>
   simp;refine ⟨fun x f c=>?_,fun x f c=>?_,fun t y=>h.sl t y,fun x f c=>?_⟩
   ·rw [iM m g,eg az]; exact h.ob x f c
   ·rw [iM m g,eg az]; exact h.kd x f c
   rw [iM m g,eg az]; exact h.gn x f c
  | true=>
   simp;obtain ⟨z,T⟩:=(D 0 r rfl).resolve_left (by rw [K5,Q]; simp);refine ⟨fun x f c=>?_,fun x f c=>?_,fun t y=>?_,fun x f c=>?_⟩
   ·rw [ig m g,eg az,h.ob x f c];cases C:b.H0[x]? with
    | none=>rfl
    | some o=>
     have:=z.ob x f;rw [ir C] at this;rw [D6,RC.fP (z.chσ x f),this]
   ·rw [ig m g,eg az,<- h.kd x f c];cases U:q.2[x]? with
    | none=>rfl
    | some o=>
     simp;unfold RC.obj;split
     ·grind [yZ,EM]
     exact sM
   ·rw [jf,dc (fun e=>z.dst t e y),h.sl t y];cases C:l1 b.u6 t with
    | none=>rfl
    | some v=>rw [D6,z.sl t y v C]
   rw [ig m g,eg az,h.gn x f c,D6,RC.fP (z.chn x ((oS u).2 ⟨f,c⟩)),tr]
def RC.A4 (b:RC) (x:Nat) (o:AO):AO:=if b.base<=x/\x<b.u5.length then l4 b.u5 x else b.obj x o
def RC.K7 (b:RC) (t:Nat) (v:Option TV):Option TV:=if b.dst=some t then some b.v else v.map (s5 b.mv)
inductive N6:Option AO->Option AO->Prop
 | none:N6 none none
 | some {o o':AO}:C5 o o' -> N6 (some o) (some o')
structure Rel (b:RC) (q' q:j9 × AH):Prop where
 len:q'.2.length=q.2.length
 ob:∀ x,N6 (q'.2[x]?) ((q.2[x]?).map (b.A4 x))
 sl:∀ t,l1 q'.1 t=b.K7 t (l1 q.1 t)
def N6.refl:∀ o:Option AO,N6 o o
 | .none=>.none
 | .some _=>.some .rfl
def KJ (f:b.Fit) {q:j9 × AH} (g:q.2.length=b.base):Rel b (b.p4 q) (b.KN q):=by
 refine ⟨(dH f g).trans (iq f g).symm,fun x=>?_,fun t=>jf⟩;rw [ig f g,iM f g];by_cases m:x<b.base
 ·rw [eg m,eg m];have:(q.2[x]?).map (b.obj x)=(q.2[x]?).map (b.A4 x):=by
   cases q.2[x]? with
   | none=>rfl
   | some o=>simp [RC.A4,dc (show ¬ (b.base<=x/\x<b.u5.length) by omega)]
  rw [this]; exact .refl _
 rw [dc m,dc m];by_cases c:x<b.u5.length
 ·rw [eg c,D6,RC.A4,eg ⟨az,c⟩,p6 c];exact .some (by rw [ir (p6 c)]; exact .rfl)
 rw [dc c,K0 az]; exact .none
def Xb (w:b.Fit) (m:E7 b r) (q:E7 r b) (y:G0 b r=true) {x:Nat} (h:C5 o' (b.A4 x o)):C5 (r.obj x o') (b.A4 x (r.obj x o)):=by
 by_cases s:b.base<=x/\x<b.u5.length
 ·-- b's own
  have g:x ∈ b.new:=(oS w).2 s;have c:x ∉ r.ch:=m.chn x g;simp [RC.A4,eg s] at h ⊢;rw [RC.fP c];have:=(h.kill (mv:=r.mv)).trans (by rw [m.rn x g]; exact .rfl);exact this
 simp [RC.A4,dc s] at h ⊢;by_cases g:x ∈ b.ch
 ·by_cases c:x ∈ r.ch
  ·obtain ⟨e,f,p,z,u⟩:=yZ y g c;simp [RC.obj,eg g,eg c,p,z] at h ⊢;exact (h.put (e:=f)).trans (put_comm u)
  rw [RC.fP c,RC.fP c];cases p:b.E6 with
  | some e=>
   simp [RC.obj,eg g,p] at h ⊢;refine (h.kill (mv:=r.mv)).trans ?_;rw [BL fun k a v=>m.en k a (by rw [p,v])];exact .rfl
  | none=>
   simp [RC.obj,eg g,p] at h ⊢;have:=h.kill (mv:=r.mv);rwa [m.rc x g] at this
 rw [RC.fP g] at h ⊢;by_cases c:x ∈ r.ch
 ·cases p:r.E6 with
  | some e=>
   simp [RC.obj,eg c,p];refine (h.put (e:=e)).trans ?_;rw [BL fun k a v=>q.en k a (by rw [p,v])];exact .rfl
  | none=>
   simp [RC.obj,eg c,p];rw [q.rc x c]; exact .rfl
 rw [RC.fP c,RC.fP c,EX];exact h.kill
variable {q':j9 × AH}
def Oi (F:b.Fit) (p:r.Fit) (s:E7 b r) (f:E7 r b) (G:G0 b r=true) (z:∀ d,b.dst=some d->r.dst≠some d) {q:j9 × AH} (A:q.2.length=r.base) (I:b.u5.length<=r.base) (h:Rel b q' q):Rel b (r.p4 q') (r.p4 q):=by
 have u:q'.2.length=r.base:=h.len.trans A;refine ⟨(dH p u).trans (dH p A).symm,fun x=>?_,fun t=>?_⟩
 ·rw [ig p u,ig p A];by_cases g:x<r.base
  ·rw [eg g,eg g];have:=h.ob x;cases B:q'.2[x]? <;> cases y:q.2[x]? <;> rw [B,y] at this <;> simp at this ⊢ <;> cases this
   ·exact .none
   rename_i J; exact .some (Xb F s f G J)
  rw [dc g,dc g];cases y:r.u5[x]? with
  | none=>exact .none
  | some o=>
   refine .some ?_;have C:=(r3.1 y).1;have w:x ∈ r.new:=(oS p).2 ⟨az,C⟩;have D:=f.rn x w;rw [ir y] at D;have K:x ∉ b.ch:=f.chn x w;rw [RC.A4,dc az,RC.fP K,D];exact .rfl
 rw [jf,jf,h.sl t];unfold RC.K7;by_cases c:r.dst=some t
 ·rw [eg c,eg c,dc (fun e=>z t e c),D6,f.v]
 rw [dc c,dc c];by_cases m:b.dst=some t
 ·rw [eg m,eg m,D6,s.v]
 rw [dc m,dc m,Option.map_map,Option.map_map];cases l1 q.1 t with
 | none=>rfl
 | some v=>simp [Cd]
def VQ (v:b.Fit) (g:r.Fit) (m:∀ x ∈ b.ch,x<b.base) {q:j9 × AH} (p:q.2.length=r.base) (w:b.u5.length<=r.base) (h:Rel b q' q):Rel b (r.KN q') (r.KN q):=by
 have f:q'.2.length=r.base:=h.len.trans p;have s:=v.le;refine ⟨(iq g f).trans (iq g p).symm,fun x=>?_,h.sl⟩;rw [iM g f,iM g p];by_cases c:x<r.base
 ·rw [eg c,eg c]; exact h.ob x
 rw [dc c,dc c];by_cases u:x<r.u5.length
 ·rw [eg u,D6,RC.A4,dc az,RC.fP (fun y=>by have:=m x y; omega),tr];exact .some .rfl
 rw [dc u]; exact .none
theorem I_ {b:RC} (w:b.Fit) (c:∀ x ∈ b.ch,x<b.base) {s:Nat->Bool}:∀ {f:List RC} {k:Nat} {q' q p:j9 × AH},gA p f->b.u5.length<=p.2.length->q.2.length=p.2.length->(∀ j r,f[j]? = some r->(s (k+j)=false\/(E7 b r/\E7 r b/\G0 b r=true))/\∀ d,b.dst=some d->r.dst≠some d)->Rel b q' q->Rel b (jG s k f q') (jG s k f q)
 | [],_,_,_,_,_,_,_,_,h=>h
 | r :: f,k,q',q,p,D,F,g,C,h=>by
  obtain ⟨_,G,m,I⟩:=D;have u:p.2.length=r.base:=by rw [<- G]; exact m.base.symm
  have v:q.2.length=r.base:=g.trans u;have J:=m.le;simp [jG];have y:(bif s k then r.p4 q else r.KN q).2.length=(r.p4 p).2.length:=by grind [iq,dH]
  refine I_ w c I (by rw [dH m u]; omega) y (fun j K L=>by have:=C (j+1) K (by simpa using L); rwa [show k+(j+1)=k+1+j by omega] at this) ?_;cases N:s k with
  | false=>exact VQ w m c v az h
  | true=>
   obtain ⟨O,z⟩:=C 0 r rfl;obtain ⟨A,B,P⟩:=O.resolve_left (by rw [K5,N]; simp);exact Oi w m A B P z v az h
def Rd.on {c L:Cx} {B:List RE} {a:AV} {v:Value} (h:Rd c ρ a v) (y:c.le L) (k:∀ i ∈ a.ids,∀ r,ρ[i]? = some r->r ≠ .no->B[i]? = some r):Rd L B a v:=by
 have m:∀ q u,q.1 ∈ a.ids->eQ ρ q u->eQ B q u:=fun q u C ⟨g,p,F⟩=>⟨g,k _ C _ p aa,F⟩;cases a with
 | own id=>
  rcases h with ⟨g,m,len,z,h,e⟩ | ⟨h,e⟩
  ·exact .inl ⟨g,m,len,z,k id (by simp [AV.ids]) _ h aa,e⟩
  exact .inr ⟨k id (by simp [AV.ids]) _ h aa,e⟩
 | sub id o l=>
  rcases h with ⟨g,m,len,z,h,e⟩ | ⟨h,e⟩
  ·exact .inl ⟨g,m,len,z,k id (by simp [AV.ids]) _ h aa,e⟩
  exact .inr ⟨k id (by simp [AV.ids]) _ h aa,e⟩
 | ptr id o=>exact m (id,o) _ (by simp [AV.ids]) h
 | x8 id i o=>
  obtain ⟨g,m,len,z,h,e⟩:=h;exact ⟨g,m,len,z,k id (by simp [AV.ids]) _ h aa,e⟩
 | fe s x o=>
  obtain ⟨A,G,p,F,O,e⟩:=h;exact ⟨A,G,(y.S _ p).1,F.dm (y.S _ p).2,O.c8 y,e⟩
 | fn f b I=>
  obtain ⟨N,w,p,F,e⟩:=h;have D:∀ (l:List (Nat × Nat)) (w:List Value),(∀ q ∈ l,q.1 ∈ (AV.fn f b I).ids)->hQ (eQ ρ) l w->hQ (eQ B) l w:=fun l w J h=>by
   induction h with
   | nil=>exact .nil
   | cons p _ K=>exact .cons (m _ _ (J _ aa) p) (K fun q C=>J q (by simp [C]))
  refine ⟨N,w,D b N (fun q C=>?_) p,D I w (fun q C=>?_) F,e⟩ <;> simp only [AV.ids,y2] <;> first | exact .inl (T4 C) | exact .inr (T4 C)
 | mq id=>
  obtain ⟨g,p,e⟩:=h;exact ⟨g,k id (by simp [AV.ids]) _ p aa,e⟩
 | np=>exact h
 | nf=>exact h
 | yl l=>exact h
 | xx P I=>
  obtain ⟨w,p,F⟩:=h;have D:∀ (l:List (Nat × Nat)) (w:List Value),(∀ q ∈ l,q.1 ∈ (AV.xx P I).ids)->hQ (eQ ρ) l w->hQ (eQ B) l w:=fun l w J h=>by
   induction h with
   | nil=>exact .nil
   | cons p _ K=>exact .cons (m _ _ (J _ aa) p) (K fun q C=>J q (by simp [C]))
  exact ⟨w,D I w (fun q C=>by simp only [AV.ids]; exact T4 C) p,F.le y⟩
 | dead=>exact h
 | int n=>exact Pd.c8 h y
 | u8 b=>exact Pd.c8 h y
 | u64 n=>exact Pd.c8 h y
 | bool e=>exact Pd.c8 h y
 | str s=>exact Pd.c8 h y
 | em b=>exact Pd.c8 h y
 | li T Q=>exact Pd.c8 h y
 | fz s Q=>exact Pd.c8 h y
def K9.on {c p:Cx} {ρ g:List RE}:∀ {f:List AV} {q:List Value},hQ (Rd c ρ) f q->c.le p -> (∀ i ∈ ym f,∀ r,ρ[i]? = some r->r ≠ .no->g[i]? = some r)->hQ (Rd p g) f q
 | [],_,h,_,_=>by cases h; exact .nil
 | a :: r,_,h,s,k=>by
  cases h with
  | cons u v=>exact .cons (u.on s fun i m=>k i (lE (a:=a) aa m)) (K9.on v s fun i m=>k i (by simp [ym]; exact .inr m))
def dJ.on {c g:Cx} {ρ f:List RE} {t:n8} {v:Value} (h:dJ c ρ t v) (m:c.le g) (k:∀ i ∈ ym t.cells,∀ r,ρ[i]? = some r->r ≠ .no->f[i]? = some r):dJ g f t v:=by
 cases t with
 | c a=>exact Rd.on h m fun i p=>k i (lE (a:=a) (by simp [n8.cells]) p)
 | agg l=>obtain ⟨q,e,h⟩:=h; exact ⟨q,e,K9.on h m k⟩
def Yh.on {c p:Cx} {ρ g:List RE}:∀ {f:List n8} {q:List Value},hQ (dJ c ρ) f q->c.le p -> (∀ i ∈ rR f,∀ r,ρ[i]? = some r->r ≠ .no->g[i]? = some r)->hQ (dJ p g) f q
 | [],_,h,_,_=>by cases h; exact .nil
 | a :: r,_,h,s,k=>by
  cases h with
  | cons u v=>exact .cons (u.on s fun i m=>k i (by simp [rR]; exact .inl m)) (Yh.on v s fun i m=>k i (by simp [rR]; exact .inr m))
def Rt.on {c g:Cx} {ρ f:List RE} {t:TV} {v:Value} (h:Rt c ρ t v) (m:c.le g) (k:∀ i ∈ t.ids,∀ r,ρ[i]? = some r->r ≠ .no->f[i]? = some r):Rt g f t v:=by
 cases t with
 | one t=>exact dJ.on h m k
 | C4 l=>obtain ⟨p,e,h⟩:=h; exact ⟨p,e,Yh.on h m k⟩
 | un=>trivial
def Wt {q:Int × AV} (h:q ∈ l) (c:i ∈ q.2.ids):i ∈ Vq l:=uW h c
def OR.on {c z:Cx} {ρ u:List RE} {o:AO} {r:RE} (h:OR c ρ o r) (p:c.le z) (v:z.w=c.w) (k:∀ i ∈ o.ids,∀ r,ρ[i]? = some r->r ≠ .no->u[i]? = some r):OR z u o r:=by
 cases o with
 | gone=>exact h
 | loc=>trivial
 | q7 s f=>
  obtain ⟨g,rfl,h⟩:=h;exact ⟨g,rfl,h.c8 p (by rw [v])⟩
 | p7 l=>
  obtain ⟨g,rfl,h⟩:=h;exact ⟨g,rfl,h.map (g0:=fun a=>a) aa (fun q D _ h=>h.on p fun i F=>k i (Wt D F)) (by rw [v])⟩
 | y9 t s n G=>
  obtain ⟨g,A,rfl,x,y,B⟩:=h;exact ⟨g,A,rfl,by rw [v]; exact x,y.c8 p,B⟩
 | box t N=>
  obtain ⟨g,A,rfl,x,y⟩:=h;exact ⟨g,A,rfl,by rw [v]; exact x,K9.on y p k⟩
 | row t s G=>
  obtain ⟨x,y,B⟩:=h;refine ⟨p.shp ▸ x,y,B.imp id ?_⟩;rintro ⟨g,C,m,I,rfl,J,K,L⟩;exact ⟨g,C,m,I,rfl,by rw [v]; exact J,K.c8 p,L⟩
def LV (h:mv=[]) {l:List AV}:tf (AV.cX mv) l=l:=sI fun a _=>ic (by subst h; simp)
theorem RM:q6 mv o=o.mapA (AV.cX mv):=by
 cases mv with
 | cons _ _=>rfl
 | nil=>
  cases o with
  | box t c=>exact hC (AO.box t) (LV rfl).symm
  | p7 l=>
   show AO.p7 l=AO.p7 (mapM _ l);rw [sK];congr 1;refine ((V3 fun q _=>?_).trans (map_id _)).symm;have e:=ic (mv:=[]) (a:=q.2) aa;grind
  | _=>rfl
def Gz (G:Gl) (c:List RE):Gl:=⟨G.shp,G.B0,fun b=>G.Z b\/live c b⟩
section
variable {G:Gl} {ρ:List RE} {S:AH} {w w':World} {m top:Nat}
structure Part (G:Gl) (ρ:List RE) (S:AH) (w:World) (m top:Nat):Prop where
 R:oh G ρ S w
 le:m<=top
 len:top<=S.length
 gn:∀ x,m<=x->x<top->S[x]? = some .gone
def Part.mid (h:Part G ρ S w m top) {x:Nat} (f:m<=x) (g:x<top):ρ[x]? = some .no:=by
 obtain ⟨r,p,c⟩:=h.R.at_ (h.gn x f g);cases c; exact p
def Part.lv (h:Part G ρ S w m top) {b:Nat}:live ρ b↔live (ρ.take m) b\/live (ρ.drop top) b:=by
 constructor
 ·rintro ⟨i,r,c,f⟩;by_cases g:i<m
  ·exact .inl ⟨i,r,by rw [E0,eg g]; exact c,f⟩
  by_cases p:i<top
  ·rw [h.mid az p] at c; cases c; cases f
  exact .inr ⟨i - top,r,by rw [C7,show top+(i - top)=i by omega]; exact c,f⟩
 rintro (⟨i,r,c,f⟩ | ⟨i,r,c,f⟩)
 ·rw [E0] at c;split at c
  ·exact ⟨i,r,c,f⟩
  cases c
 rw [C7] at c;exact ⟨_,r,c,f⟩
theorem Part.sS (h:Part G ρ S w m top) {b:Nat}:(cx (Gz G (ρ.drop top)) (ρ.take m) w).S b↔(cx G ρ w).S b:=by
 show (b<w.heap.size/\¬ live (ρ.take m) b/\¬ (G.Z b\/live (ρ.drop top) b))↔(b<w.heap.size/\¬ live ρ b/\¬ G.Z b);rw [h.lv];grind
def Part.cle (h:Part G ρ S w m top):(cx G ρ w).le (cx (Gz G (ρ.drop top)) (ρ.take m) w):=⟨rfl,rfl,fun _ c=>⟨h.sS.2 c,rfl⟩,fun _ _ _=>rfl⟩
theorem lF {r:RE} (h:(ρ.take m)[i]? = some r):ρ[i]? = some r/\i<m:=by grind
theorem Part.U4 (h:Part G ρ S w m top) (v:∀ x ∈ σ,∀ i ∈ (l4 S x).ids,i<m):oh (Gz G (ρ.drop top)) (ρ.take m) (sy σ 0 (S.take m)) w:=by
 have F:=h.R.obj.length;refine ⟨df (by rw [qK,s9,s9,F]) fun j o r C y=>?_,fun i j r s g c f u A=>h.R.inj i j r s g (lF c).1 (lF f).1 u A,fun i r g c f=>?_,fun b I=>I.elim (h.R.z b) fun ⟨j,r,c,f⟩=>?_,h.R.b0,h.R.tb.c8 h.cle⟩
 ·obtain ⟨y,J⟩:=lF y;rw [ox,E0,eg J,x7,G4] at C;obtain ⟨o',p,rfl⟩:=C;split
  ·rename_i K;obtain ⟨s,q,B⟩:=h.R.at_ p;rw [y] at q; cases q;refine B.on h.cle rfl fun i D r L _=>?_;have:=v j K i (by rw [ir p]; exact D);grind
  trivial
 ·obtain ⟨c,D⟩:=lF c;have:=h.R.sr i r g c f;refine ⟨this.1,this.2.1,fun N=>N.elim this.2.2 fun ⟨j,s,u,A⟩=>?_⟩;rw [C7] at u;have e:=h.R.inj i _ r s g c u f A;have:=h.le;omega
 rw [C7] at c;exact (h.R.sr _ r b c f).2.1
def Part.merge (h:Part G ρ S w m top) {ro:Lv} (H:b.base=m) (Y:b.u5.length=top) (hent:b.E6=none) (hch:∀ x ∈ b.ch,x<m) {c:List RE} (hro:∀ i,ro.wr i=false\/ro.mv i=false->i<m) (T:s8 ⟨fun i=>cM i b.ch && ro.wr i,fun i=>cM i b.mv && ro.mv i⟩ (ρ.take m) w c w') (W:oh (Gz G (ρ.drop top)) c b.u5 w') {S':AH} (hlen:S'.length=S.length) (hS':∀ x,N6 (S'[x]?) ((S[x]?).map (b.A4 x))) :
  oh G (c++ρ.drop top) S' w' /\ s8 ro ρ w (c++ρ.drop top) w' /\ (∀ a v,Rd (cx G ρ w) ρ a v->Rd (cx G (c++ρ.drop top) w') (c++ρ.drop top) (a.cX b.mv) v)/\(∀ t v,Rt (cx (Gz G (ρ.drop top)) c w') c t v->Rt (cx G (c++ρ.drop top) w') (c++ρ.drop top) t v):=by
 have hl:=h.R.obj.length;have hle:=h.le;have htl:c.length=top:=by rw [<- W.obj.length,Y]
 have hSl:=h.len
 have B:∀ i,i<top->(c++ρ.drop top)[i]? = c[i]?:=fun i y=>C9 az;have I:∀ i,top<=i->(c++ρ.drop top)[i]? = ρ[i]?:=fun i y=>by rw [N9 az,htl,C7]; congr 1; omega
 have lv':∀ b,live (c++ρ.drop top) b↔live c b\/live (ρ.drop top) b:=fun b=>by
  constructor
  ·rintro ⟨i,r,q,u⟩;by_cases y:i<top
   ·exact .inl ⟨i,r,by rw [<- B i y]; exact q,u⟩
   refine .inr ⟨i - top,r,?_,u⟩;rw [I i az] at q;rw [C7,show top+(i - top)=i by omega]; exact q
  rintro (⟨i,r,q,u⟩ | ⟨i,r,q,u⟩)
  ·exact ⟨i,r,by rw [B i (by rw [<- htl]; exact (r3.1 q).1)]; exact q,u⟩
  rw [C7] at q;exact ⟨top+i,r,by rw [I _ az]; exact q,u⟩
 have O:∀ g,g<w.heap.size->¬ live (ρ.take m) g->¬ live c g/\w'.heap[g]? = w.heap[g]?:=fun g hg hn=>T.ext.x4 g hg hn;have U:∀ g,live (ρ.drop top) g->g<w.heap.size/\¬ live (ρ.take m) g:=by
  rintro g ⟨j,r,q,u⟩;rw [C7] at q;refine ⟨(h.R.sr _ r g q u).2.1,?_⟩;rintro ⟨i,r',P,h4⟩;obtain ⟨P,h5⟩:=lF P;have:=h.R.inj _ _ _ _ g q P u h4;omega
 have J:u1 ρ w (c++ρ.drop top) w':=⟨T.ext.os,T.ext.tape,T.ext.output,T.ext.size,fun b Q hl=>by
  rw [h.lv] at hl;have hk:=O b Q fun k=>hl (.inl k);exact ⟨fun k=>((lv' b).1 k).elim hk.1 fun k=>hl (.inr k),hk.2⟩⟩
 have p:(cx G ρ w).le (cx G (c++ρ.drop top) w'):=J.le h.R.lo;have V:(cx (Gz G (ρ.drop top)) c w').le (cx G (c++ρ.drop top) w'):=⟨rfl,rfl,fun b ⟨q,u,P⟩=>⟨⟨q,fun k=>((lv' b).1 k).elim u fun k=>P (.inr k),fun k=>P (.inl k)⟩,rfl⟩,fun _ _ _=>rfl⟩;have Z:lu c (c++ρ.drop top):=gO _ _
 have C:∀ i r,ρ[i]? = some r->r ≠ .no->((∃ g,r = .blk g)\/i ∉ b.mv)->(c++ρ.drop top)[i]? = some r:=fun i r D L hk=>by
  by_cases y:i<m
  ·rw [B i az];have N:(ρ.take m)[i]? = some r:=by rw [E0,eg y]; exact D
   rcases hk with ⟨g,rfl⟩ | hk
   ·exact T.bx i g N
   refine T.loc i r ?_ N;have:cM i b.mv=false:=by rw [<- not_eq_true,bQ]; exact hk
   simp [this]
  by_cases hj:i<top
  ·rw [h.mid az hj] at D; cases D; exact absurd rfl L
  rw [I i az]; exact D
 have hrd:∀ a v,Rd (cx G ρ w) ρ a v->Rd (cx G (c++ρ.drop top) w') (c++ρ.drop top) (a.cX b.mv) v:=by
  intro a v F;have nm:∀ j,cM j b.mv=false->j ∉ b.mv:=fun j Q hm=>by rw [bQ.2 hm] at Q; cases Q
  cases a with
  | own j=>
   simp [AV.cX];cases Q:cM j b.mv
   ·refine Rd.on F p fun i y r D L=>C i r D L (.inr ?_);simp [AV.ids,cond_false,A1] at y; subst y; exact nm _ Q
   exact Rd.one F
  | sub j o k=>
   simp [AV.cX];cases Q:cM j b.mv
   ·refine Rd.on F p fun i y r D L=>C i r D L (.inr ?_);simp [AV.ids,cond_false,A1] at y; subst y; exact nm _ Q
   exact Rd.one F
  | x8 j k o=>
   simp [AV.cX];cases Q:cM j b.mv
   ·refine Rd.on F p fun i y r D L=>C i r D L (.inr ?_);simp [AV.ids,cond_false,A1] at y; subst y; exact nm _ Q
   exact Rd.one F
  | ptr j o=>
   obtain ⟨g,q,e⟩:=F;exact ⟨g,C _ _ q aa (.inl ⟨g,rfl⟩),e⟩
  | mq j=>
   obtain ⟨g,q,e⟩:=F;exact ⟨g,C _ _ q aa (.inl ⟨g,rfl⟩),e⟩
  | fn f b' cs=>
   obtain ⟨bs,us,q,u,e⟩:=F;exact ⟨bs,us,q.imp fun _ _ ⟨g,k1,k2⟩=>⟨g,C _ _ k1 aa (.inl ⟨g,rfl⟩),k2⟩,u.imp fun _ _ ⟨g,k1,k2⟩=>⟨g,C _ _ k1 aa (.inl ⟨g,rfl⟩),k2⟩,e⟩
  | fe s x o=>
   obtain ⟨A,cells,q,u,P,e⟩:=F;exact ⟨A,cells,(p.S _ q).1,u.dm (p.S _ q).2,P.c8 p,e⟩
  | np=>exact F
  | nf=>exact F
  | yl l=>exact F
  | xx k' cs=>
   obtain ⟨us,q,u⟩:=F;exact ⟨us,q.imp fun _ _ ⟨g,k1,k2⟩=>⟨g,C _ _ k1 aa (.inl ⟨g,rfl⟩),k2⟩,u.le p⟩
  | dead=>exact F
  | int n=>exact Pd.c8 F p
  | u8 b=>exact Pd.c8 F p
  | u64 n=>exact Pd.c8 F p
  | bool e=>exact Pd.c8 F p
  | str s=>exact Pd.c8 F p
  | em b=>exact Pd.c8 F p
  | li nw xs=>exact Pd.c8 F p
  | fz s xs=>exact Pd.c8 F p
 refine ⟨⟨?_,?_,?_,fun b Q=>w9 (h.R.z b Q) J.size,z7 h.R.b0 J.size,h.R.tb.c8 p⟩,⟨J,fun i r y D=>?_,fun i r y D=>?_,fun i g y=>?_⟩,hrd,fun t v ht=>ht.c8 V Z⟩
 ·refine df (by rw [hlen,r5,htl,length_drop]; omega) fun x o r ho D=>?_;have hq:=hS' x;rw [ho] at hq;cases hx:S[x]? with
  | none=>rw [hx] at hq; cases hq
  | some o0=>
   rw [hx,D6] at hq;cases hq with
   | some hq=>
   refine hq.symm.or ?_;obtain ⟨r0,hr0,hor0⟩:=h.R.at_ hx
   have d:ρ[x]? = some r->(∀ g,r.g? = some g->w'.heap[g]? = w.heap[g]?)->OR (cx G (c++ρ.drop top) w') (c++ρ.drop top) (q6 b.mv o0) r:=fun N hg=>by
    rw [hr0] at N; cases N;rw [RM];exact hor0.map p hrd hg
   have K:x<top->∀ o1,b.u5[x]? = some o1->OR (cx G (c++ρ.drop top) w') (c++ρ.drop top) o1 r:=fun X o1 ho1=>by
    rw [B x X] at D;obtain ⟨r1,hr1,hor1⟩:=W.at_ ho1;rw [D] at hr1; cases hr1;exact hor1.c8 V Z fun _ _=>rfl
   unfold RC.A4;rw [H,Y];split
   ·rename_i hn;refine K hn.2 _ ?_;rw [p6 az,ir (p6 az)]
   rename_i hn;unfold RC.obj;split
   ·rename_i hchx;rw [hent];have X:=hch x hchx;refine K az _ ?_;rw [p6 az,ir (p6 az)]
   rename_i hch;have hm:cM x b.ch=false:=by rw [<- not_eq_true,bQ]; exact hch
   by_cases X:x<m
   ·have N:(ρ.take m)[x]? = some r0:=by rw [E0,eg X]; exact hr0
    have hp:=T.J1 x r0 (by simp [hm]) N;rw [B x az,hp.1] at D; cases D;exact d hr0 hp.2
   have hx2:top<=x:=by omega
   rw [I x hx2] at D;refine d D fun g hg=>(O g (h.R.sr x r g D hg).2.1 (U g ⟨x - top,r,?_,hg⟩).2).2;rw [C7,show top+(x - top)=x by omega]; exact D
 ·intro i j r r' g q u P h4;by_cases y:i<top <;> by_cases hj:j<top
  ·rw [B i y] at q; rw [B j hj] at u;exact W.inj i j r r' g q u P h4
  ·rw [B i y] at q; rw [I j az] at u;have hc:live (ρ.drop top) g:=⟨j - top,r',by rw [C7,show top+(j - top)=j by omega]; exact u,h4⟩;exact absurd ⟨i,r,q,P⟩ (O g (U g hc).1 (U g hc).2).1
  ·rw [I i az] at q; rw [B j hj] at u;have hc:live (ρ.drop top) g:=⟨i - top,r,by rw [C7,show top+(i - top)=i by omega]; exact q,P⟩;exact absurd ⟨j,r',u,h4⟩ (O g (U g hc).1 (U g hc).2).1
  rw [I i az] at q; rw [I j az] at u;exact h.R.inj i j r r' g q u P h4
 ·intro i r g q u;by_cases y:i<top
  ·rw [B i y] at q;have:=W.sr i r g q u;exact ⟨this.1,this.2.1,fun hz=>this.2.2 (.inl hz)⟩
  rw [I i az] at q;have:=h.R.sr i r g q u;exact ⟨this.1,w9 this.2.1 J.size,this.2.2⟩
 ·have hi':=hro i (.inr y);rw [B i az];exact T.loc i r (by simp [y]) (by rw [E0,eg hi']; exact D)
 ·have hi':=hro i (.inl y);rw [B i az];exact T.J1 i r (by simp [y]) (by rw [E0,eg hi']; exact D)
 by_cases q:i<m
 ·rw [B i az];exact T.bx i g (by rw [E0,eg q]; exact y)
 by_cases u:i<top
 ·rw [h.mid az u] at y; cases y
 rw [I i az]; exact y
end
variable {P:Program} {w:World} {l:List Oper} {a:Act}
theorem aja {Q:Exit->Act->World->Prop} {id:Nat} (hm:P.follows .mixedOrders=true) {Inv:(Nat->Bool)->Act->World->Prop}
  (N:∀ i,∀ j ∈ cf l i,j<i) (I:∀ s a w,Inv s a w->a.defers=[])
  (hs:∀ s a w i o,Inv s a w->l[i]? = some o->s i=false->(∀ j ∈ cf l i,s j=true)->(∀ k,s k=true->∀ j ∈ cf l k,s j=true) ->
   Nw P l.toArray (fun e a' w'=>e = .normal/\Inv (fun j=>s j || Nat.beq i j) a' w') [o] a w)
  (O:∀ s a w,Inv s a w->(∀ i,i<l.length->s i=true)->Q .normal a w) (Y:Inv (fun _=>false) a { w with drawn:=w.drawn+1 }):lB P (.region id l.toArray true) Q a w:=by
 intro H ds;refine wpIn_region_any hm ?_;have b:∀ f (c:Array Bool) a w,c.size=l.length->(range l.length).countP (fun i=>!c.getD i false)=f->(∀ k,c.getD k false=true->∀ j ∈ cf l k,c.getD j false=true)->Inv (fun i=>c.getD i false) a w->wpAnyIn (iz H) 0 P .any l.toArray (rY ds Q) f c (jy a ds) w:=by
  intro f;induction f with
  | zero=>
   intro c a w B hc S inv;have J:∀ i,i<l.length->c.getD i false=true:=fun i z=>by
    have:=List.countP_eq_zero.1 hc i (E4.2 z);simpa using this
   refine ⟨?_,a,I _ _ _ inv,rfl,O _ a w inv J⟩;cases hr:Region.ready .any l.toArray c with
   | nil=>rfl
   | cons i r=>
    obtain ⟨T,o,ho,_⟩:=mem_ready.1 (show i ∈ Region.ready .any l.toArray c by rw [hr]; simp);have C:i<l.length:=by simpa using (Q4.1 ho).1
    have:=J i C;rw [getD_both T] at this; cases this
  | succ f ih=>
   intro c a w B hc S inv;have hex:∃ i,i<l.length/\c.getD i false=false/\∀ j,j<i->c.getD j false=true:=by
    have h1:∃ i,i<l.length/\c.getD i false=false:=by
     have:0<(range l.length).countP (fun i=>!c.getD i false):=by omega
     obtain ⟨i,z,Z⟩:=List.countP_pos_iff.1 this;exact ⟨i,E4.1 z,by simpa using Z⟩
    obtain ⟨i,z,Z⟩:=h1;have t:∀ m,∀ i,i<l.length->c.getD i false=false->i<=m->∃ i,i<l.length/\c.getD i false=false/\∀ j,j<i->c.getD j false=true:=by
     intro m;induction m with
     | zero=>intro i z Z him; exact ⟨i,z,Z,fun j A=>by omega⟩
     | succ m ihm=>
      intro i z Z him;by_cases N:∃ j,j<i/\c.getD j false=false
      ·obtain ⟨j,A,hpj⟩:=N;exact ihm j az hpj az
      grind
    exact t i i z Z (sh _)
   obtain ⟨m,U,hmu,V⟩:=hex;have g:m ∈ Region.ready .any l.toArray c:=by
    refine mem_ready.2 ⟨getD_in (by rw [B]; exact U) hmu,l[m],by simp [U],fun e O hb=>?_⟩;exact V _ (N m e.on (by
     simp [cf,p6 U,gk,K4,R3];exact ⟨e,⟨by simpa using O,hb⟩,rfl⟩))
   refine ⟨fun Y=>(by rw [Y] at g; cases g),fun i z=>?_⟩;obtain ⟨T,o,ho,D⟩:=mem_ready.1 z;have W:l[i]? = some o:=by simpa using ho
   have C:i<l.length:=(r3.1 W).1;have K:c.getD i false=false:=getD_both T;have L:∀ k ∈ cf l i,c.getD k false=true:=fun k hk=>by
    simp [cf,W,gk,K4,R3] at hk;obtain ⟨e,⟨O,hb⟩,rfl⟩:=hk;exact D e (by simpa using O) hb
   have X:=hs _ a w i o inv W K L S H ds;have u:∀ j,(c.setIfInBounds i true).getD j false=(c.getD j false || Nat.beq i j):=fun j=>by
    by_cases A:j=i
    ·subst A; simp [Array.getD,B,C]
    have:Nat.beq i j=false:=by rw [<- not_eq_true,beq_eq]; exact fun e=>A e.symm
    rw [getD_set_ne false (Ne.symm A),this,Bool.or_false]
   have step:∀ v F,(True/\Inv (fun j=>c.getD j false || Nat.beq i j) (a.put o.dst v) F)->wpAnyIn (iz H) 0 P .any l.toArray (rY ds Q) f (c.setIfInBounds i true) (jy (a.put o.dst v) ds) F:=by
    intro v F ⟨_,hv⟩;refine ih _ _ _ (by simp [B]) ?_ ?_ ?_
    ·have:=countP_set (n:=l.length) (i:=i) (p:=fun j=>!c.getD j false) (q:=fun j=>!(c.setIfInBounds i true).getD j false) C (by simp [K]) (by simp [u]) (fun j A=>by
      have:Nat.beq i j=false:=by rw [<- not_eq_true,beq_eq]; exact fun e=>A e.symm
      simp [u,this])
     omega
    ·intro k hk j A;rw [u] at hk ⊢;rw [F5] at hk ⊢;rcases hk with hk | hk
     ·exact .inl (S k hk j A)
     have:=r7 hk;subst this; exact .inl (L j A)
    have e:(fun j=>(c.setIfInBounds i true).getD j false)=fun j=>(c.getD j false || Nat.beq i j):=funext u;rw [e]; exact hv
   have x:∀ v F,rY ds (fun e a' w'=>e = .normal/\Inv (fun j=>c.getD j false || Nat.beq i j) a' w') .normal ((jy a ds).put o.dst v) F->wpAnyIn (iz H) 0 P .any l.toArray (rY ds Q) f (c.setIfInBounds i true) ((jy a ds).put o.dst v) F:=fun v F ⟨a0,Y,e,h⟩=>by
    rw [ug] at e ⊢;rw [<- QN e (Kd (I _ _ _ inv) _ _) Y] at h;exact step v F ⟨trivial,h.2⟩
   unfold wpOpIn;simp only [ho];simp only [wpListIn] at X;try simp only [eq_self_iff_true] at X
   by_cases y:Region.wanted o (yielded l.toArray (jy a ds).tmps)=true
   ·rw [eg y] at X ⊢;unfold Oper.wpIn at X ⊢;refine ⟨fun _ _=>trivial,Dh X.2 x (fun d F ⟨a0,Y,e,h⟩=>?_) (fun e a w O ⟨_,_,_,h⟩=>O h.1)⟩;have:=hC Act.defers e;cases hd:o.dst <;> rw [hd] at this <;> simp [Act.put,jy] at this
   rw [dc y] at X ⊢;exact ⟨fun _ _=>trivial,x undef w X.2⟩
 have G:(range l.length).countP (fun i=>!(Array.replicate l.toArray.size false).getD i false)=l.length:=by
  rw [List.countP_eq_length.2 (fun i _=>by rw [L7]; rfl),V4]
 have:=b l.length (Array.replicate l.toArray.size false) a { w with drawn:=w.drawn+1 } aa G (fun k hk=>by rw [L7] at hk; cases hk) (by
  have e:(fun i=>(Array.replicate l.toArray.size false).getD i false)=fun _=>false:=funext fun i=>L7 _ _;rw [e]; exact Y)
 rw [show l.toArray.size=l.length by simp];exact this
theorem lG {m:Nat}:y5 m j=m.testBit j:=by
 rw [Nat.testBit_eq_decide_div_mod_eq];show Nat.beq ((m >>> j) &&& 1) 1=_;rw [Nat.and_one_is_mod,Nat.shiftRight_eq_div_pow];generalize m / 2 ^ j % 2=q;by_cases h:q=1
 ·simp_all
 rw [D1 h,<- not_eq_true,beq_eq]; exact h
theorem YW {a b:Nat}:y5 (Nat.lor a b) j=(y5 a j || y5 b j):=by
 rw [lG,lG,lG];simp_all
theorem ZE:y5 (Nat.shiftLeft 1 k) j=true↔j=k:=by
 rw [lG];show (1 <<< k).testBit j=true↔_;rw [Nat.testBit_shiftLeft,pe,vo,Nat.testBit_one_eq_true_iff_self_eq_zero];omega
theorem UT:y5 0 j=false:=by rw [lG]; exact Nat.zero_testBit j
theorem qT {c:List Nat} {j:Nat}:∀ {l:List Nat},y5 (ja c l) j=true↔∃ k ∈ l,j=k\/y5 (c.getD k 0) j=true
 | []=>by simp [ja,UT]
 | k :: r=>by simp only [ja,YW,F5,ZE,qT,u2,or_and_right,exists_or,exists_eq_left]
theorem BP:∀ {l:List Oper} {acc:List Nat},(jE acc l).length=acc.length+l.length
 | [],_=>by simp [jE]
 | o :: r,acc=>by
  have:=BP (l:=r) (acc:=acc++[ja acc (gk o)]);simp only [jE,this];simp; omega
theorem sR:∀ {l:List Oper} {c:List Nat} {k:Nat},k<c.length->(jE c l).getD k 0=c.getD k 0
 | [],_,_,_=>rfl
 | o :: r,c,k,h=>by
  simp only [jE];rw [sR (by simp; omega),ts,C9 h,ts]
theorem q_:∀ {l:List Oper} {k:Nat},sg k l=true->∀ i,∀ j ∈ cf l i,j<k+i
 | o :: r,k,h,i,j,c=>by
  simp [sg] at h;cases i with
  | zero=>exact iD.1 h.1 j (by simpa [cf] using c)
  | succ i=>
   have:=q_ h.2 i j (by simpa [cf] using c);omega
theorem zm:∀ {l:List Oper} {acc:List Nat} {i:Nat},(∀ i,∀ j ∈ cf l i,j<acc.length+i)->i<l.length->(jE acc l).getD (acc.length+i) 0=ja (jE acc l) (cf l i)
 | o :: r,acc,0,f,_=>by
  simp [jE];have e:(jE (acc++[ja acc (gk o)]) r).getD (acc.length+0) 0=ja acc (gk o):=by
   rw [sR aa,ts]; simp
  have m:cf (o :: r) 0=gk o:=rfl;have p:∀ l:List Nat,(∀ j ∈ l,j<acc.length)->ja acc l=ja (jE (acc++[ja acc (gk o)]) r) l:=by
   intro l;induction l with
   | nil=>intro _; rfl
   | cons k t q=>
    intro g;have u:=g k aa;simp only [ja];rw [q fun j c=>g j (by simp [c]),sR (show k<(acc++[ja acc (gk o)]).length by simp; omega)];grind
  grind
 | o :: r,acc,i+1,f,s=>by
  simp only [jE];have:=zm (l:=r) (acc:=acc++[ja acc (gk o)]) (i:=i) (fun k j c=>by
   have:=f (k+1) j (by simpa [cf] using c);simp; omega) (by simpa using s)
  simp only [r5,Q5] at this;rw [show acc.length+(i+1)=acc.length+1+i by omega,this];simp [cf]
theorem vu {s:Nat->Bool} (p:∀ i,∀ j ∈ cf l i,j<i) (q:∀ k,s k=true->∀ j ∈ cf l k,s j=true):∀ (n i:Nat),i<=n->i<l.length->(∀ j ∈ cf l i,s j=true)->∀ j,y5 ((jE [] l).getD i 0) j=true->s j=true:=by
 intro n;induction n with
 | zero=>
  intro i u c f j g;have:=zm (acc:=[]) (fun i j m=>by have:=p i j m; simp; omega) c;simp only [C1,x7] at this;rw [this,qT] at g;grind
 | succ n v=>
  intro i u c f j g;have:=zm (acc:=[]) (fun i j m=>by have:=p i j m; simp; omega) c;simp only [C1,x7] at this;rw [this,qT] at g;grind
def ki (a:Act):Nat->Fr
 | 0=>[]
 | k+1=>(k,a.tmps.getD k undef) :: ki a k
theorem gC {a:Act} {t:Nat}:∀ {n:Nat},look (ki a n) t=if t<n then some (a.tmps.getD t undef) else none
 | 0=>rfl
 | k+1=>by
  simp [ki,bg,gC];grind
variable {a':Act}
def ad7 (h:a.defers=[]) (f:a'.defers=[]) (m:a.tmps.size=n) (c:a'.tmps.size=n) (g:∀ t,t<n->a'.tmps.getD t undef=a.tmps.getD t undef):a' = a:=by
 cases a with
 | mk t d=>
 cases a' with
 | mk s u=>
 simp only at h f m c g;subst h; subst f;congr 1;refine Array.ext az fun i p q=>?_;have:=g i az;simpa [Array.getD,p,q] using this
theorem RV (h:a.defers=[]) (f:a.tmps.size=n):M n (ki a n) a:=⟨h,f,fun i v c=>by
 rw [gC] at c;split at c
 ·grind
 cases c⟩
variable {u:Value}
theorem nj (f:a.tmps.size=n) (g:t<n):(a.put d u).tmps.getD t undef=if d=some t then u else a.tmps.getD t undef:=by
 cases d with
 | none=>simp [Act.put]
 | some d=>
  by_cases c:d=t
  ·subst c; simp [Act.put,f,g]
  have m:¬ (some d=some t):=fun e=>c (B1 e);show (a.tmps.setIfInBounds d u).getD t undef=_;simp_all
def vk (h:a.defers=[]) (m:a.tmps.size=n) (c:M n (jW d u (ki a n)) a'):a' = a.put d u:=by
 have p:(a.put d u).defers=[]/\(a.put d u).tmps.size=n:=by cases d <;> simp [Act.put,h,m]
 refine ad7 p.1 c.1 p.2 c.2.1 fun t f=>?_;rw [nj m f];cases d with
 | none=>
  exact (c.2.2 t (a.tmps.getD t undef) (by show look (ki a n) t=_; rw [gC,eg f])).2
 | some d=>
  by_cases g:d=t
  ·subst g;rw [eg rfl];exact (c.2.2 d u (by show look ((d,u) :: ki a n) d=_; rw [bg,eg rfl])).2
  rw [dc (fun e=>g (B1 e))];exact (c.2.2 t (a.tmps.getD t undef) (by show look ((d,u) :: ki a n) t=_; rw [bg,dc g,gC,eg f])).2
def fp.sub {F F':Fr} {y:Op} {ty:TypeId} {z:Value->World->Prop} (h:∀ a,M n F' a->M n F a) (k:fp P n F w y ty z):fp P n F' w y ty z:=by
 rcases k with (⟨v,x,m,p⟩ | ⟨f,args,m,p⟩) | ⟨A,x,m,p⟩
 ·exact .inl (.inl ⟨v,x,fun a d c q g s=>m a d c q g (h a s),p⟩)
 ·exact .inl (.inr ⟨f,args,fun a d c q g s=>m a d c q g (h a s),p⟩)
 exact .inr ⟨A,x,fun a d c q g s=>m a d c q g (h a s),p⟩
section
variable {P:Program} {n:Nat} {l:List Oper} {a:Act} {w:World}
variable {Q:Exit->Act->World->Prop} {o:Oper}
def HV (h:a.defers=[]) (A:a.tmps.size=n) {F:Fr} (K:∀ i v,look F i=some v->i<n/\a.tmps.getD i undef=v) {Φ:Value->World->Prop} (L:fp P n F w o.op o.type Φ) (N:∀ d,o.dst=some d->blt d n=true) (B:D8 o.op=true->o.dst=none)
  (O:∀ j x,o.guard=some (j,x)->∃ t,p5 l j=some t/\t<n/\a.tmps.getD t undef = .bool x) (I:∀ u z,Φ u z -> Q .normal (a.put o.dst u) z):Nw P l.toArray Q [o] a w:=by
 have J:=RV h A;have f:=fp.sub (F':=ki a n) (fun a' C=>⟨C.1,C.2.1,fun i v D=>by
  obtain ⟨p,q⟩:=K i v D;have:=(C.2.2 i (a.tmps.getD i undef) (by rw [gC,eg p])).2;exact ⟨p,this.trans q⟩⟩) L
 obtain ⟨dst,S,T,G,U,g⟩:=o;have c:WO P Q n l [⟨dst,S,T,G,U,none⟩] (ki a n) w:=by
  rcases f with f | ⟨V,z,p,q⟩
  ·exact WO.y f N fun v z D=>WO.nil fun a' m=>by rw [vk h A m]; exact I _ _ D
  obtain rfl:=B V;exact WO.s p (WO.nil fun a' m=>by
   have e:=vk (d:=none) (u:=undef) h A m;rw [e]; exact I _ _ q)
 cases g with
 | none=>exact c a J
 | some g=>
  obtain ⟨j,x⟩:=g;obtain ⟨t,p,q,W⟩:=O j x rfl;exact WO.on p (by rw [gC,eg q,W]) rfl c a J
def Tv (h:a.defers=[]) (v:a.tmps.size=n) (x:∀ d,o.dst=some d->blt d n=true) {y:Bool} (z:o.guard=some (j,y)) (f:p5 l j=some t) (q:t<n) (hv:a.tmps.getD t undef = .bool (!y)\/a.tmps.getD t undef=undef) (A:Q .normal (a.put o.dst undef) w):Nw P l.toArray Q [o] a w:=by
 have m:=RV h v;obtain ⟨dst,C,D,B,F,g⟩:=o;subst z;have p:look (ki a n) t=some (a.tmps.getD t undef):=by rw [gC,eg q]
 have c:WO P Q n l [] (jW dst undef (ki a n)) w:=WO.nil fun a' s=>by rw [vk h v s]; exact A
 cases dst with
 | some d=>
  rcases hv with hv | hv
  ·exact WO.off f (by rw [p,hv]) rfl (x d rfl) c a m
  exact WO.Z4 f (by rw [p,hv]) (x d rfl) c a m
 | none=>
  have c:WO P Q n l [] (ki a n) w:=c;rcases hv with hv | hv
  ·exact WO.ag7 f (by rw [p,hv]) rfl c a m
  exact WO.aa6 f (by rw [p,hv]) c a m
end
def L0 (P:Program) (shp:TypeId->Option Sh) (n:Nat) (g:Lv) (o:Oper) (r:RC):Prop:=∀ (G:Gl) (ρ:List RE) (w:World) (F:Fr),G.shp=shp->oh G ρ (sy r.σ 0 r.H0) w->o9 (cx G ρ w) ρ (dQ r.u6 r.U) F->(∀ p ∈ r.ob,p) ->
 fp P n F w o.op o.type fun u f=>∃ c,s8 ⟨fun i=>cM i r.ch && g.wr i,fun i=>cM i r.mv && g.mv i⟩ ρ w c f /\ oh G c r.u5 f /\ Rt (cx G c f) c r.v u/\∀ p ∈ r.fc,p
def K8 (P:Program) (shp:TypeId->Option Sh) (n:Nat) (f:Lv) (o:Oper) (r:RC) (e:B2) (p:Nat):Prop:=∀ (G:Gl) (ρ:List RE) (w:World) (F:Fr) (S:AH),G.shp=shp->oh G ρ S w->o9 (cx G ρ w) ρ (dQ r.u6 r.U) F->(S[p]?).map kd=(r.H0[p]?).map kd ->
 ∃ c,ji P n F w o.op o.type c /\ oh G ρ (S.set p (e.put (l4 S p))) c /\ s8 f ρ w ρ c
structure F3 (P:Program) (shp:TypeId->Option Sh) (n:Nat) (ro:Lv) (l:List Oper) (rs:List RC) (o:Oper) (i:Nat) (r:RC):Prop where
 dst:r.dst=o.dst
 dn:∀ d,o.dst=some d->blt d n=true
 st:r.on=true->D8 o.op=true->o.dst=none
 run:r.on=true->(r.E6=none/\L0 P shp n ro o r)\/∃ e p,r.E6=some e/\r.ch=[p]/\r.mv=[]/\r.v = .un/\r.fc=[]/\r.u5.length=r.base/\D8 o.op=true/\K8 P shp n ro o r e p
 off:r.on=false->r.ch=[]/\r.mv=[]/\r.σ=[]/\r.u5=sy [] 0 r.H0/\r.E6=none/\r.v = .un/\r.fc=[]
 gd:(o.guard=none/\r.on=true)\/∃ j wt t,o.guard=some (j,wt)/\p5 l j=some t/\t ∈ r.U/\((∃ rj,rs[j]? = some rj/\j<i/\rj.on=false/\r.on=false)\/∃ b,l1 r.u6 t=some (one (.bool (.lit b)))/\r.on=(b == wt))
theorem Pk {a:RC} (h:G0 a b=true):G0 b a=true:=by
 have g:tt a.ch b.ch=true->tt b.ch a.ch=true:=fun h=>dg.2 fun i c f=>dg.1 h i f c;unfold G0 at h ⊢;grind
theorem DE {m:Nat} {b:RC}:∀ {l:List RC} {k:Nat},GY m b k l=true->∀ i a,l[i]? = some a->y5 m (k+i)=true\/(E7 a b/\E7 b a/\G0 a b=true)
 | [],_,_,i,a,h=>by simp at h
 | x :: r,k,h,i,a,c=>by
  simp [GY] at h;cases i with
  | zero=>
   simp at c; subst c;exact h.1.imp id fun ⟨⟨f,g⟩,p⟩=>⟨IT f,IT g,p⟩
  | succ i=>
   have:=DE h.2 i a (by simpa using c);grind
theorem xq {b:RC}:∀ {l:List RC},yx b l=true->∀ a ∈ l,∀ d,a.dst=some d->b.dst≠some d
 | [],_,a,h,_,_=>by simp at h
 | x :: r,h,a,ha,d,c=>by
  simp [yx] at h;rcases u2.1 ha with rfl | ha
  ·intro f;simp_all
  exact xq h.2 a ha d c
structure S5 (bef:List Nat) (j:Nat) (b:RC) (done:List RC):Prop where
 fit:b.Fit
 U:∀ i ∈ x5 b.u6 b.U,i<b.base
 σ:∀ i ∈ C3 b.H0 b.σ,i<b.base
 σb:∀ i ∈ b.σ,i<b.base
 ch:∀ i ∈ b.ch,i<b.base
 row:∀ i a,done[i]? = some a->y5 (bef.getD j 0) i=true\/(E7 a b/\E7 b a/\G0 a b=true)
 dst:∀ a ∈ done,∀ d,a.dst=some d->b.dst≠some d
theorem HE {c:List Nat}:∀ {rest done:List RC} {j:Nat},done.length=j->Gh c j done rest=true->∀ i b,rest[i]? = some b->S5 c (j+i) b ((done++rest).take (j+i))
 | [],_,_,_,_,i,b,h=>by simp at h
 | x :: r,done,j,m,h,i,b,f=>by
  simp only [Gh,pe] at h;obtain ⟨⟨⟨⟨⟨⟨⟨⟨⟨p,q⟩,s⟩,v⟩,g⟩,y⟩,z⟩,D⟩,A⟩,B⟩:=h;cases i with
  | zero=>
   simp at f; subst f;have e:(done++x :: r).take (j+0)=done:=by rw [K5,<- m]; simp
   rw [e,K5];exact ⟨⟨r7 p,F4 q⟩,iD.1 s,iD.1 v,iD.1 g,iD.1 y,fun i a C=>by
    have:=DE A i a C;rwa [x7] at this,xq z⟩
  | succ i=>
   have:=HE (rest:=r) (done:=done++[x]) (j:=j+1) (by simp [m]) B i b (by simpa using f);rw [show j+1+i=j+(i+1) by omega] at this;simpa using this
section
variable {P:Program} {T:List (Nat × TI)} {shp:TypeId->Option Sh} {n:Nat} {ro:Lv} {l:List Oper}
def FrA (c:Cx) (ρ:List RE) (n:Nat) (fr:j9) (a:Act):Prop:=∀ t v,l1 fr t=some v->t<n/\Rt c ρ v (a.tmps.getD t undef)
def Yd (G:Gl) (ro:Lv) (c:List RE) (m:World) (n:Nat) (g:j9 × AH) (f:List RC) (s:Nat->Bool) (a:Act) (w:World):Prop:=
 ∃ ρ,s8 ro c m ρ w/\oh G ρ (jG s 0 f g).2 w/\FrA (cx G ρ w) ρ n (jG s 0 f g).1 a/\a.defers=[]/\a.tmps.size=n/\∀ k r,f[k]? = some r->s k=true->(∀ p ∈ r.fc,p)/\(r.on=false->∀ d,r.dst=some d->a.tmps.getD d undef=undef)
def DQ (a:Act):j9->Fr
 | []=>[]
 | (t,_) :: r=>(t,a.tmps.getD t undef) :: DQ a r
theorem qD {a:Act} {t:Nat} {v:Value}:∀ {fr:j9},look (DQ a fr) t=some v->v=a.tmps.getD t undef/\∃ c,l1 fr t=some c
 | (i,x) :: r,h=>by
  simp [DQ,bg] at h;rw [dT];by_cases f:i=t
  ·simp_all
  rw [dc f] at h ⊢; exact qD h
theorem kV {fr:j9} {t:Nat} {g:TV}:∀ {U:List Nat},l1 (dQ fr U) t=some g->t ∈ U/\l1 fr t=some g
 | u :: r,h=>by
  simp [dQ] at h;split at h
  ·rename_i v p;rw [dT] at h;by_cases m:u=t
   ·grind
   rw [dc m] at h;obtain ⟨c,f⟩:=kV h; exact ⟨by simp [c],f⟩
  obtain ⟨c,f⟩:=kV h; exact ⟨by simp [c],f⟩
theorem mX {fr:j9} {q:Nat × TV}:∀ {U:List Nat},q ∈ dQ fr U->q.1 ∈ U/\l1 fr q.1=some q.2
 | u :: r,h=>by
  simp [dQ] at h;split at h
  ·rename_i v g;rcases u2.1 h with rfl | h
   ·grind
   obtain ⟨c,f⟩:=mX h; exact ⟨by simp [c],f⟩
  obtain ⟨c,f⟩:=mX h; exact ⟨by simp [c],f⟩
theorem su {c:Cx} {ρ:List RE} {a:Act}:∀ {fr:j9},(∀ q ∈ fr,Rt c ρ q.2 (a.tmps.getD q.1 undef))->o9 c ρ fr (DQ a fr)
 | [],_=>.nil
 | (t,v) :: r,h=>.cons ⟨rfl,h (t,v) aa⟩ (su fun q f=>h q (by simp [f]))
def py (h:a.defers=[]) (c:a.tmps.size=n):(a.put d u).defers=[]/\(a.put d u).tmps.size=n:=by cases d <;> simp [Act.put,h,c]
def Mr {v:TV}:s5 mv v=v.mapA (AV.cX mv):=by
 cases mv with
 | cons _ _=>rfl
 | nil=>
  have e:∀ a:AV,a.cX []=a:=fun a=>ic aa;cases v with
  | one t=>exact hC TV.one (ub fun a _=>e a).symm
  | C4 l=>exact hC TV.C4 (yz fun t _ a _=>e a).symm
  | un=>rfl
def Rt.Nq {c g:Cx} {f:List RE} (m:∀ a v,Rd c ρ a v->Rd g f (AV.cX mv a) v) {t:TV} {v:Value} (h:Rt c ρ t v):Rt g f (s5 mv t) v:=by
 rw [Mr];cases t with
 | one t=>exact yu m h
 | C4 l=>obtain ⟨p,e,h⟩:=h; exact ⟨p,e,Iu m h⟩
 | un=>trivial
theorem oh.q {G:Gl} {A B:AH} (h:oh G ρ A w) (m:B.length=A.length) (p:∀ x:Nat,N6 (B[x]?) (A[x]?)):oh G ρ B w:=by
 refine ⟨df (by rw [m]; exact h.obj.length) fun x o r s v=>?_,h.inj,h.sr,h.z,h.b0,h.tb⟩;have:=p x;rw [s] at this;cases f:A[x]? with
 | none=>rw [f] at this; cases this
 | some o'=>
  rw [f] at this;cases this with
  | some y=>
   obtain ⟨C,c,g⟩:=h.at_ f;rw [v] at c; cases c;exact y.symm.or g
def IH {c:Cx} {b:Bool} {v:Value} (h:Rt c ρ (one (.bool (.lit b))) v):v = .bool b:=by
 cases h; rfl
variable {G:Gl} {ρ0:List RE} {w0:World} {q0:j9 × AH} {rs:List RC}
theorem OT (hG:G.shp=shp) (hro:∀ i,ro.wr i=false\/ro.mv i=false->i<ρ0.length) (hq0:∀ i,i<ρ0.length->(ro.wr i=false\/ro.mv i=false)->i<q0.2.length) (hp:∀ i,∀ j ∈ cf l i,j<i) (hc:gA q0 rs) (hok:Gh (jE [] l) 0 [] rs=true) (hlen:rs.length=l.length) (hrc:∀ i o r,l[i]? = some o->rs[i]? = some r->F3 P shp n ro l rs o i r)
  (hob:∀ i r,rs[i]? = some r->(∀ j r',rs[j]? = some r' -> y5 ((jE [] l).getD i 0) j=true->∀ p ∈ r'.fc,p)->∀ p ∈ r.ob,p)
  {s:Nat->Bool} {o:Oper} (inv:Yd G ro ρ0 w0 n q0 rs s a w) (ho:l[i]? = some o) (hsi:s i=false) (hpre:∀ j ∈ cf l i,s j=true) (hcl:∀ k,s k=true->∀ j ∈ cf l k,s j=true) :
  Nw P l.toArray (fun e a' w'=>e = .normal/\Yd G ro ρ0 w0 n q0 rs (fun j=>s j || Nat.beq i j) a' w') [o] a w:=by
 obtain ⟨ρ,hS,hR,hf,Y,F,hfc⟩:=inv;have hil:i<l.length:=(r3.1 ho).1;obtain ⟨b,hb⟩:∃ b,rs[i]? = some b:=⟨_,p6 az⟩;have m:=hrc i o b ho hb;have okAt:∀ j r,rs[j]? = some r->S5 (jE [] l) j r (rs.take j):=fun j r z=>by
  have:=HE (done:=[]) rfl hok j r z;simpa using this
 have Q:=okAt i b hb;have hbits:∀ j,y5 ((jE [] l).getD i 0) j=true->s j=true:=vu hp hcl i i (sh _) hil hpre
 have S:∀ j r,rs[j]? = some r->j<i->s j=true\/(E7 b r/\E7 r b/\G0 b r=true):=fun j r z hj=>by
  rcases Q.row j r (by rw [E0,eg hj]; exact z) with h | ⟨f,y,X⟩
  ·exact .inl (hbits j h)
  exact .inr ⟨y,f,Pk X⟩
 have V:∀ j r,rs[j]? = some r->i<j->s j=false\/(E7 b r/\E7 r b/\G0 b r=true):=fun j r z hj=>by
  cases hsj:s j with
  | false=>exact .inl rfl
  | true=>
   right;rcases (okAt j r z).row i b (by rw [E0,eg hj]; exact hb) with h | ⟨f,y,X⟩
   ·have hjl:j<l.length:=by rw [<- hlen]; exact (r3.1 z).1
    have:=vu hp hcl j j (sh _) hjl (hcl j hsj) i h;rw [hsi] at this; cases this
   exact ⟨f,y,X⟩
 have hdsts:∀ j r,rs[j]? = some r->i≠j->∀ d,b.dst=some d->r.dst≠some d:=fun j r z hj d O=>by
  rcases Nat.lt_or_gt_of_ne hj with h | h
  ·exact (okAt j r z).dst b (A9 (by rw [E0,eg h]; exact hb)) d O
  intro hrd;exact Q.dst r (A9 (by rw [E0,eg h]; exact z)) d hrd O
 have hrs:rs=rs.take i++b :: rs.drop (i+1):=by
  have f:=(r3.1 hb);obtain ⟨f,y⟩:=f;rw [<- y,<- J2 f,D5]
 have hti:(rs.take i).length=i:=by
  have:=(r3.1 hb).1;simp; omega
 generalize hpreD:rs.take i=pre at hrs hti;generalize hpostD:rs.drop (i+1)=post at hrs;have hpre_at:∀ j r,pre[j]? = some r->rs[j]? = some r/\j<i:=fun j r h=>by
  have hj:=(r3.1 h).1;rw [<- hpreD,E0] at h;split at h
  ·exact ⟨h,‹_›⟩
  cases h
 have C:∀ j r,post[j]? = some r->rs[i+1+j]? = some r:=fun j r h=>by
  rw [<- hpostD,C7] at h; exact h
 have hcp:gA q0 pre/\gA (B6 pre q0) (b :: post):=by rw [hrs] at hc; exact gA.Ny.1 hc
 obtain ⟨hc1,hb1,L,g,hc2⟩:=hcp;have A:b.base=(B6 pre q0).2.length:=by rw [<- L]; exact g.base
 have hst:∀ s',jG s' 0 rs q0=jG s' (i+1) post (bif s' i then b.p4 (jG s' 0 pre q0) else b.KN (jG s' 0 pre q0)):=fun s'=>by
  rw [hrs,Hz,hti,x7]; rfl
 have hl1:(jG s 0 pre q0).2.length=b.base:=by rw [A]; exact yQ hc1 rfl
 have hag:Y3 b (jG s 0 pre q0) (B6 pre q0):=HH hc1 (fun j r z=>by
  rw [x7];obtain ⟨f,y⟩:=hpre_at j r z;exact (S j r f y).imp id fun ⟨X,_,h4⟩=>⟨X,h4⟩) ⟨rfl,fun _ _=>rfl,fun _ _=>rfl,fun _ _=>rfl⟩
 have hgb:N5 b (jG s 0 rs q0):=by
  rw [hst s,hsi,cond_false];refine DX g hc2 (by rw [dH g A.symm]; exact sh _) ((iq g hl1).trans (dH g A.symm).symm) (fun j r z=>(V _ r (C j r z) az).imp id fun ⟨X,_,h4⟩=>⟨X,h4⟩) ?_;refine ⟨fun x K hlt=>?_,fun x K hlt=>?_,fun t T=>?_,fun x K hlt=>?_⟩
  ·rw [iM g hl1,eg hlt,hag.ob x K,L]
  ·rw [iM g hl1,eg hlt,hag.kd x K,L]
  ·show l1 (jG s 0 pre q0).1 t=_;rw [hag.sl t T,hb1]
  rw [iM g hl1,dc az,eg hlt]
 have D:Rel b (jG (fun j=>s j || Nat.beq i j) 0 rs q0) (jG s 0 rs q0):=by
  rw [hst s,hst (fun j=>s j || Nat.beq i j),hsi,cond_false];have e1:(false || Nat.beq i i)=true:=by simp
  rw [e1,cond_true];have ne:∀ j,j≠i->(s j || Nat.beq i j)=s j:=fun j hj=>by
   have:Nat.beq i j=false:=by rw [<- not_eq_true,beq_eq]; exact fun e=>hj e.symm
   rw [this,Bool.or_false]
  have e2:jG (fun j=>s j || Nat.beq i j) 0 pre q0=jG s 0 pre q0:=qi fun j _ hj=>ne j az;have e3:∀ q,jG (fun j=>s j || Nat.beq i j) (i+1) post q=jG s (i+1) post q:=fun q=>qi fun j hj _=>ne j az;rw [e2,e3];refine I_ g Q.ch hc2 (by rw [dH g A.symm]; exact sh _) ((iq g hl1).trans (dH g A.symm).symm) (fun j r z=>⟨V _ r (C j r z) az,hdsts _ r (C j r z) az⟩) (KJ g hl1)
 have hSl:b.u5.length<=(jG s 0 rs q0).2.length:=by
  have f:(jG s 0 rs q0).2.length=(B6 rs q0).2.length:=yQ hc rfl;rw [f,hrs,zi];have:=FZ hc2;rw [dH g A.symm] at this;exact this
 have hge:q0.2.length<=b.base:=by rw [A]; exact FZ hc1
 generalize hq:jG s 0 rs q0=q at hR hf hgb D hSl;generalize hq':jG (fun j=>s j || Nat.beq i j) 0 rs q0=q' at D;have part:Part G ρ q.2 w b.base b.u5.length:=⟨hR,g.le,hSl,hgb.gn⟩
 have hmask:sy b.σ 0 (q.2.take b.base)=sy b.σ 0 b.H0:=by
  refine List.ext_getElem? fun x=>?_;rw [ox,ox,E0,x7];by_cases K:x<b.base
  ·rw [eg K];by_cases hm:x ∈ b.σ
   ·rw [hgb.ob x hm K]
   simp [dc hm];have f:x<q.2.length:=by have:=g.le; omega
   have y:x<b.H0.length:=by have:=g.base; omega
   rw [p6 f,p6 y]; rfl
  rw [dc K,K0 (l:=b.H0) (by have:=g.base; omega)]
 have hσids:∀ x ∈ b.σ,∀ k ∈ (l4 q.2 x).ids,k<b.base:=fun x K k I=>by
  have:=hgb.ob x K (Q.σb x K);have e:l4 q.2 x=l4 b.H0 x:=by unfold l4; rw [ts,ts,this]
  rw [e] at I;exact Q.σ k (sY I K)
 have N:∀ t ∈ b.U,∀ v,l1 b.u6 t=some v->t<n/\Rt (cx G ρ w) ρ v (a.tmps.getD t undef):=fun t T v hv=>hf t v (by rw [hgb.sl t T]; exact hv);have hslotIds:∀ t ∈ b.U,∀ v,l1 b.u6 t=some v->∀ k ∈ v.ids,k<b.base:=fun t T v hv k I=>Q.U k (rF hv I T);have hro':∀ k,ro.wr k=false\/ro.mv k=false->k<b.base:=fun k I=>w9 (hq0 k (hro k I) I) hge
 have hgs:∀ j wt t,o.guard=some (j,wt)->p5 l j=some t->t ∈ b.U->∀ c,l1 b.u6 t=some (one (.bool (.lit c)))->t<n/\a.tmps.getD t undef = .bool c:=fun j wt t _ _ T c hc=>by
  obtain ⟨f,y⟩:=N t T _ hc;exact ⟨f,IH y⟩
 have clause:∀ u k r,rs[k]? = some r->k≠i->s k=true->(∀ p ∈ r.fc,p)/\(r.on=false->∀ d,r.dst=some d->(a.put o.dst u).tmps.getD d undef=undef):=fun u k r z I hsk=>by
  obtain ⟨f,y⟩:=hfc k r z hsk;refine ⟨f,fun hoff d O=>?_⟩;have hkl:k<l.length:=by rw [<- hlen]; exact (r3.1 z).1
  have hrk:=hrc k _ r (p6 hkl) z;have hdn:d<n:=by have:=hrk.dn d (by rw [<- hrk.dst]; exact O); exact blt_eq.mp this
  rw [nj F hdn,dc (fun e=>hdsts k r z (Ne.symm I) d (by rw [m.dst]; exact e) O)];exact y hoff d O
 have hsne:∀ k,(s k || Nat.beq i k)=true->k≠i->s k=true:=fun k I hne=>by
  have:Nat.beq i k=false:=by rw [<- not_eq_true,beq_eq]; exact fun e=>hne e.symm
  rwa [this,Bool.or_false] at I
 have fin:∀ u w' Z,b.E6=none->s8 ⟨fun i=>cM i b.ch && ro.wr i,fun i=>cM i b.mv && ro.mv i⟩ (ρ.take b.base) w Z w' -> oh (Gz G (ρ.drop b.u5.length)) Z b.u5 w' -> Rt (cx (Gz G (ρ.drop b.u5.length)) Z w') Z b.v u->(∀ p ∈ b.fc,p)->(b.on=false->u=undef)->Yd G ro ρ0 w0 n q0 rs (fun j=>s j || Nat.beq i j) (a.put o.dst u) w':=by
  intro u w' Z W rW hRt hv hfcb hoff;obtain ⟨k1,k2,k3,k4⟩:=part.merge rfl rfl W Q.ch hro' rW hRt D.len D.ob;refine ⟨_,hS.trans k2,by rw [hq']; exact k1,fun t v B=>?_,(py Y F).1,(py Y F).2,fun k r z hsk=>?_⟩
  ·rw [hq',D.sl t] at B;unfold RC.K7 at B;by_cases O:b.dst=some t
   ·rw [eg O] at B;cases B;rw [m.dst] at O;have htn:t<n:=blt_eq.mp (m.dn t O);rw [nj F htn,eg O];exact ⟨htn,k4 _ _ hv⟩
   rw [dc O,G4] at B;obtain ⟨v0,f,rfl⟩:=B;obtain ⟨y,X⟩:=hf t v0 f;rw [m.dst] at O;rw [nj F y,dc O];exact ⟨y,X.Nq k3⟩
  by_cases I:k=i
  ·subst I;rw [hb] at z; cases z;refine ⟨hfcb,fun ho' d O=>?_⟩;rw [m.dst] at O;rw [nj F (blt_eq.mp (m.dn d O)),eg O];exact hoff ho'
  exact clause u k r z I (hsne k hsk I)
 cases J:b.on with
 | false=>
  obtain ⟨e1,e2,e3,e4,e5,e6,e7⟩:=m.off J;rcases m.gd with ⟨_,y⟩ | ⟨j,wt,t,hg,T,htU,H⟩
  ·rw [J] at y; cases y
  have htv:t<n/\(a.tmps.getD t undef = .bool (!wt)\/a.tmps.getD t undef=undef):=by
   rcases H with ⟨rj,hrj,hji,hoffj,_⟩ | ⟨c,hc,L⟩
   ·have hjl:j<l.length:=by omega
    have hrcj:=hrc j _ rj (p6 hjl) hrj;have hdj:rj.dst=some t:=by
     rw [hrcj.dst];have:=T;rw [k_,p6 hjl] at this;exact this
    have hsj:s j=true:=by
     rcases S j rj hrj hji with h | ⟨h,_,_⟩
     ·exact h
     exact absurd htU (h.dst t hdj)
    exact ⟨blt_eq.mp (hrcj.dn t (by rw [<- hrcj.dst]; exact hdj)),.inr ((hfc j rj hrj hsj).2 hoffj t hdj)⟩
   obtain ⟨f,y⟩:=hgs j wt t hg T htU c hc;refine ⟨f,.inl ?_⟩;rw [y];rw [J] at L;cases c <;> cases wt <;> simp at L ⊢
  refine Tv Y F m.dn hg T htv.1 htv.2 ⟨rfl,fin undef w (ρ.take b.base) e5 (s8.refl _ _ _) ?_ (by rw [e6]; trivial) (by rw [e7]; simp) fun _=>rfl⟩;have key:sy b.σ 0 (q.2.take b.base)=b.u5:=by rw [hmask,e3,e4]
  have hm:=part.U4 hσids;rw [key] at hm;exact hm
 | true=>
  have hg:∀ j wt,o.guard=some (j,wt)->∃ t,p5 l j=some t/\t<n/\a.tmps.getD t undef = .bool wt:=fun j wt hgd=>by
   rcases m.gd with ⟨f,_⟩ | ⟨j',wt',t,hg,T,htU,H⟩
   ·rw [hgd] at f; cases f
   rw [hgd] at hg; cases hg;rcases H with ⟨_,_,_,_,h⟩ | ⟨c,hc,L⟩
   ·rw [J] at h; cases h
   obtain ⟨f,y⟩:=hgs j wt t hgd T htU c hc;refine ⟨t,T,f,?_⟩;rw [y];rw [J] at L;cases c <;> cases wt <;> simp at L ⊢
  have hF:∀ k v,look (DQ a (dQ b.u6 b.U)) k=some v->k<n/\a.tmps.getD k undef=v:=fun k v I=>by
   obtain ⟨f,tv,y⟩:=qD I;obtain ⟨X,h4⟩:=kV y;exact ⟨(N k X tv h4).1,f.symm⟩
  rcases m.run J with ⟨W,hrun⟩ | ⟨e,p,W,hch,hmv,hv,hfcb,hres,hst2,hrun⟩
  ·have hy:=hrun (Gz G (ρ.drop b.u5.length)) (ρ.take b.base) w (DQ a (dQ b.u6 b.U)) hG (by rw [<- hmask]; exact part.U4 hσids) (su fun x K=>by
    obtain ⟨f,y⟩:=mX K;refine (N _ f _ y).2.on part.cle fun k I r z _=>?_;rw [E0,eg (hslotIds _ f _ y k I)]; exact z) (hob i b hb fun j r' hr' hbit=>(hfc j r' hr' (hbits j hbit)).1)
   exact HV Y F hF hy m.dn (m.st J) hg fun u w' ⟨Z,f,y,X,h4⟩=>⟨rfl,fin u w' Z W f y X h4 fun h=>by rw [J] at h; cases h⟩
  have hpb:p<b.base:=Q.ch p (by rw [hch]; simp);obtain ⟨w',f,y,X⟩:=hrun G ρ w (DQ a (dQ b.u6 b.U)) q.2 hG hR (su fun x K=>by
   obtain ⟨f,y⟩:=mX K;exact (N _ f _ y).2) (hgb.kd p (by rw [hch]; simp) hpb)
  have hdst:=m.st J hst2;refine HV (Φ:=fun u x=>u=undef/\x=w') Y F hF (.inr ⟨hst2,w',f,rfl,rfl⟩) m.dn (m.st J) hg fun u x ⟨_,K⟩=>?_;subst K;have hle:=X.ext.le hR.lo;refine ⟨rfl,ρ,hS.trans X,?_,fun t v B=>?_,(py Y F).1,(py Y F).2,fun k r z hsk=>?_⟩
  ·rw [hq'];refine y.q (by rw [B8]; exact D.len) fun x=>?_;have:=D.ob x;have hpl:p<q.2.length:=by omega
   by_cases hxp:x=p
   ·subst hxp;rw [E8 hpl];rw [p6 hpl,D6,RC.A4,dc az,RC.obj,eg (by rw [hch]; simp),W] at this;rw [ir (p6 hpl)];exact this
   rw [L8 (fun e=>hxp e.symm)];have e9:(q.2[x]?).map (b.A4 x)=q.2[x]?:=by
    cases q.2[x]? with
    | none=>rfl
    | some o=>
     rw [D6,RC.A4,dc az,RC.fP (by rw [hch]; simpa using hxp),hmv];rfl
   rw [e9] at this;exact this
  ·rw [hq',D.sl t] at B;unfold RC.K7 at B;rw [m.dst,hdst,dc aa,hmv] at B;have hv2:l1 q.1 t=some v:=by
    cases K:l1 q.1 t with
    | none=>rw [K] at B; cases B
    | some v0=>rw [K] at B; exact B
   obtain ⟨h5,h6⟩:=hf t v hv2;rw [nj F h5,hdst,dc aa];exact ⟨h5,h6.c8 hle (lu.refl _)⟩
  by_cases I:k=i
  ·subst I;rw [hb] at z; cases z;exact ⟨by rw [hfcb]; simp,fun h=>by rw [J] at h; cases h⟩
  exact clause u k r z I (hsne k hsk I)
end
def Rd.qd {c:Cx} {a:AV} {v:Value} (h:Rd c ρ a v):Qd c a v:=fun f=>(iZ f).1 h
theorem jg {fr:j9} {t:Nat}:∀ {U:List Nat},t ∈ U->l1 (dQ fr U) t=l1 fr t
 | u :: r,h=>by
  simp only [dQ];split
  ·rename_i v f;rw [dT];by_cases c:u=t
   ·grind
   rw [dc c];refine jg ?_;grind
  rename_i f;by_cases c:u=t
  ·subst c;by_cases g:u ∈ r
   ·exact jg g
   rw [f];cases m:l1 (dQ fr r) u with
   | none=>rfl
   | some x=>exact absurd (kV m).1 g
  refine jg ?_;grind
def iV {fr:j9} {U:List Nat} {x:Operand} (h:∀ t ∈ Operand.sl x,t ∈ U):dI (dQ fr U) x=dI fr x:=by
 cases x with
 | tmp i=>exact jg (h i (by simp [Operand.sl]))
 | _=>rfl
theorem yd {fr:j9}:∀ {A B:List Nat},dQ fr (A++B)=dQ fr A++dQ fr B
 | [],_=>rfl
 | a :: r,B=>by
  simp only [D0,dQ,yd (A:=r)];split <;> rfl
theorem tO {c f:Type} {R:c->f->Prop}:∀ {a b:List c} {F:List f},hQ R (a++b) F->∃ x y,F=x++y/\hQ R a x/\hQ R b y
 | [],b,F,h=>⟨[],F,rfl,.nil,h⟩
 | p :: a,b,_,h=>by
  cases h with
  | cons g m=>
   obtain ⟨x,y,e,q,s⟩:=tO m;exact ⟨_ :: x,y,by rw [e]; rfl,.cons g q,s⟩
theorem NZ {A B:Fr} {v:Value}:look A i=some v->look (A++B) i=some v:=by
 intro h;induction A with
 | nil=>cases h
 | cons q r c=>
  rw [D0,bg];rw [bg] at h;grind
theorem uT {g:Bool} {v:TV} {K:TV->Prop} (h:split g v K):∃ p,K p /\ ∀ c ρ u,Rt c ρ v u->Rt c ρ p u:=by
 unfold split at h;split at h
 ·rename_i b q;have:=B1 (eA q);grind
 ·rename_i e _ s;have:=B1 (eA s);subst this;cases f:e.val with
  | true=>
   refine ⟨_,h.1 ((BE.fV e true).2 f),fun c ρ u m=>?_⟩;cases m;rw [f]; exact Pd.bool (e:=.lit true)
  | false=>
   refine ⟨_,h.2 ((BE.fV e false).2 f),fun c ρ u m=>?_⟩;cases m;rw [f]; exact Pd.bool (e:=.lit false)
 grind
section
variable {P:Program} {T:List (Nat × TI)} {shp:TypeId->Option Sh} {O:ck} {n:Nat} {ro:Lv} {l:List Oper}
variable {o:Oper} {F:Fr} {A B:List Nat} {G:Gl}
def DJ {fr:j9} (g:o9 (cx G ρ w) ρ (dQ fr (A++B)) F) {m:Value->World->Prop} (h:∀ c,o9 (cx G ρ w) ρ (dQ fr A) c->fp P n c w o.op o.type m):fp P n F w o.op o.type m:=by
 rw [yd] at g;obtain ⟨c,s,rfl,p,_⟩:=tO g;exact fp.sub (fun a f=>⟨f.1,f.2.1,fun i v q=>f.2.2 i v (NZ q)⟩) (h c p)
def pure_run {fr:j9} {v s:TV} {ob x:List Prop} (z:∀ c ρ u,Rt c ρ v u->Rt c ρ s u)
  (h:∀ (G:Gl) (ρ:List RE) (w:World) (F:Fr),G.shp=shp->oh G ρ (sy σ 0 H) w->o9 (cx G ρ w) ρ (dQ fr A) F->(∀ p ∈ ob,p)->Yields P n F w o.op o.type fun u f=>Kp [] w f /\ Rt (cx G ρ f) ρ v u/\∀ p ∈ x,p) (b:Nat) :
  L0 P shp n ro o ⟨true,o.dst,s,A++B,σ,[],[],b,sy σ 0 H,none,ob,x,fr,H⟩:=by
 intro G ρ w F C g D m;refine DJ D fun I q=>.inl ((h G ρ w I C g q m).mono fun u f ⟨y,J,K⟩=>⟨ρ,s8.kp g y,g.kp y,z _ _ _ J,K⟩)
theorem TU {c:Cx} {ρ:List RE} {H:AH}:∀ {f:List AV} {m:List Value},(∀ i,i ∉ fy f)->hQ (Rd c ρ) f m->hQ (Qd c) (IM H f) m
 | [],_,_,h=>by cases h; exact .nil
 | a :: r,_,g,h=>by
  cases h with
  | cons p q=>
   have s:∀ i,i ∉ fy r:=fun i v=>g i (by cases a <;> simp [fy,v]);refine .cons ?_ (TU s q);have e:a.vw H=a:=by
    cases a with
    | own i=>exact absurd (by simp [fy]) (g i)
    | sub i _ _=>exact absurd (by simp [fy]) (g i)
    | _=>rfl
   rw [e]; exact Rd.qd p
variable {op:Op}
def QT (hT:bz P shp T) {S:j9} {U:AH} {ty:TypeId} {r:PR} (a:G.shp=shp) (V:oh G ρ U w) (b:o9 (cx G ρ w) ρ S F) (h:Ls T S U op=some r):Yields P n F w op ty fun u W=>Kp [] w W /\ Rt (cx G ρ W) ρ r.v u/\∀ p ∈ r.fc,p:=by
 subst a;unfold Ls at h;split at h
 ·rename_i t m f;split at h
  ·rename_i e s sz z l I d;split at h
   ·rename_i j C J;split at h
    ·rename_i c;cases h;simp only [pe] at c;have c:=c.1;have X:=r7 c.1.1;have K:=F4 c.1.2;have L:=F4 c.2;obtain ⟨k,o⟩:=(hT _ _ I).2;obtain ⟨D,⟨zz,y,A⟩,_⟩:=o s rfl;have q:(P.info? e).map (·.size)=some s.size:=by
      cases Y:P.info? e with
      | none=>simp [Y] at y
      | some i=>simp only [Y,D6,Option.some.injEq,Prod.mk.injEq] at y ⊢; exact y.2.1
     obtain ⟨pv,B,H⟩:=kP b d;obtain ⟨x,O,h4,h5,h6⟩:=pY J H fun p hp us N=>TU (fun i hi=>by
      have:=ui hp hi;rw [C] at this; simp at this) N
     have g:=R.buildSlice (P:=P) (n:=n) (F:=F) (w:=w) (ty:=ty) (m:=m) k q (Km y) B O h4 az K;have e0:f.toList.toArray=f:=by simp
     rw [e0] at g;have Z:=Kp.alloc w (.cells x.flatten.toArray e);have hml:m<=maxLen:=by
      have:=R0 m (iF s);simp only [maxLen]; omega
     have Q:p0 (cx G ρ (w.alloc (.cells x.flatten.toArray e))) (j.flatMap (cellsOf s)) x.flatten:=h6.c8 (Kp.le Z);refine .inl ⟨_,_,g,Z,?_,aa⟩;show Pd _ _ _;rw [<- X];refine .fz (sh _) az (by rw [X]; exact L) Q (.inr ⟨_,rfl,⟨⟨aa,fun ⟨i,r,q1,q2⟩=>by have:=(V.sr i r _ q1 q2).2.1; simp at this,fun y=>by have:=V.z _ y; simp at this⟩,.inr ⟨_,e,(0,0),J6 w _,D,fun _=>rfl⟩⟩,?_⟩);exact db (sp:=[]) (by rw [A3]; exact J6 w _)
    cases h
   cases h
  cases h
 cases h
def OZ (hT:bz P shp T) {fr:j9} {id:Nat} (h:afG T ro fr H o.op=some (id,e)) (b:Nat) (u5:AH) :
  K8 P shp n ro o ⟨true,none,.un,ko o.op++B,[],[id],[],b,u5,some e,[],[],fr,H⟩ e id/\D8 o.op=true:=by
 unfold afG at h;split at h
 ·rename_i t x y z r;have u:ko o.op=Operand.sl x++Operand.sl y++Operand.sl z:=by rw [r]; rfl
  have hmx:∀ X ∈ Operand.sl x,X ∈ ko o.op++B:=fun X h=>by rw [u]; simp [h]
  have hmy:∀ X ∈ Operand.sl y,X ∈ ko o.op++B:=fun X h=>by rw [u]; simp [h]
  have hmz:∀ X ∈ Operand.sl z,X ∈ ko o.op++B:=fun X h=>by rw [u]; simp [h]
  refine ⟨?_,by rw [r]; rfl⟩;intro G ρ w F S hG hR Y J;subst hG;have Y:o9 (cx G ρ w) ρ (dQ fr (ko o.op++B)) F:=Y;have J:(S[id]?).map kd=(H[id]?).map kd:=J;rw [r]
  have fin:∀ (g:Nat) (o':AO) (p:World),ρ[id]? = some (.blk g)->(∃ o0,S[id]? = some o0)->Kp [g] w p -> ro.wr id=true->OR (cx G ρ p) ρ o' (.blk g)->oh G ρ (S.set id o') p /\ s8 ro ρ w ρ p:=fun g o' p L ⟨o0,C⟩ m hw ho'=>by
   have Z:=hR.put C L rfl m ho';refine ⟨Z.1,Z.2,fun _ _ _ h=>h,fun j r' hj D=>⟨D,fun gx hgx=>m.block gx (hR.sr j r' gx D hgx).2.1 ?_⟩,fun _ _ h=>h⟩;simp only [A1];rintro rfl;have:=hR.inj j id _ _ _ D L hgx rfl;subst this; rw [hw] at hj; cases hj
  have d:∀ (g:Nat) (p:World),ρ[id]? = some (.blk g)->Kp [g] w p -> (cx G ρ w).le (cx G ρ p):=fun g p L m=>(show u1 ρ w ρ p from ⟨m.os,m.tape,m.output,m.size,fun b hb hl=>⟨hl,m.block b hb (by
   simp only [A1];rintro rfl;exact hl ⟨id,_,L,rfl⟩)⟩⟩).le hR.lo
  split at h
  ·rename_i s id' k v A hx hy hz;split at h
   ·rename_i s' f x' O hown hof;split at h
    ·rename_i hck;cases h;simp only [pe,vo] at hck;obtain ⟨⟨rfl,N⟩,hw⟩:=hck;obtain ⟨hm,hk,_⟩:=(hT _ _ A).2;rw [<- iV hmx] at hx; rw [<- iV hmy] at hy; rw [<- iV hmz] at hz;obtain ⟨va,h1,g,L,rfl⟩:=aw Y hx;obtain ⟨vb,h3,h4⟩:=aw Y hy;cases h4 with | int=>
     obtain ⟨vz,h5,i⟩:=aw Y hz;have hHs:=cq O aa;rw [hHs] at J;obtain ⟨o0,C,I⟩:=G4.1 J;have Q:=ir C;obtain ⟨r',D,hor⟩:=hR.at_ C;rw [L] at D; cases D;cases o0 with
     | q7 s2 f2=>
      have I:(some (some s2):Option (Option Sh))=some (some s'):=I;have e3:s2=s':=B1 (B1 I);subst e3;obtain ⟨g',e,a,c,k1,k2,k3⟩:=hor;cases e;obtain ⟨p,a'',c',hsk,m,hg',hl',U⟩:=VT (P:=P) (n:=n) (ty:=o.type) h1 h3 h5 hm hk k1 k2;have K:=d g p L m;have hV:V1 (cx G ρ p) s2 x' vz:=by
       cases v with
       | c a=>
        have i:Rd (cx G ρ w) ρ a vz:=i;have hp:=aV (vs:=[vz]) hof (.cons (Rd.qd i) .nil);exact ⟨[vz],hp.c8 K,.inr ⟨by simpa [ow] using N,rfl⟩⟩
       | agg l=>
        obtain ⟨us,e,i⟩:=i;have hp:=aV hof (i.imp fun _ _ h=>Rd.qd h);exact ⟨us,hp.c8 K,.inl ⟨N,e⟩⟩
      obtain ⟨j1,j2⟩:=fin g (.q7 s2 fun j=>if j=k then some x' else f2 j) p L ⟨_,C⟩ m hw ⟨g,rfl,a'',c',hg',hl',fun q=>by
       rw [U q];show VO _ _ _ (if q=k then some x' else f2 q);by_cases V:q=k
       ·rw [eg V,eg V]; exact hV
       rw [dc V,dc V];have W:=k3 q;cases hgm:getM q a.toList <;> cases hfk:f2 q <;> rw [hgm,hfk] at W
       ·trivial
       ·exact W
       ·exact W
       exact V1.c8 W K⟩
      refine ⟨p,hsk.1,?_,j2⟩;rw [Q];simpa only [B2.put,dif_pos] using j1
     | p7 l=>cases I
     | _=>cases I
    cases h
   cases h
  ·rename_i id' k a A hx hy hz;split at h
   ·rename_i l O hw;cases h;obtain ⟨hm,hk,_⟩:=(hT _ _ A).2;rw [<- iV hmx] at hx; rw [<- iV hmy] at hy; rw [<- iV hmz] at hz;obtain ⟨va,h1,g,L,rfl⟩:=aw Y hx;obtain ⟨vb,h3,h4⟩:=aw Y hy;cases h4 with | int=>
    obtain ⟨vz,h5,i⟩:=aw Y hz;have hHs:=cq O aa;rw [hHs] at J;obtain ⟨o0,C,I⟩:=G4.1 J;have Q:=ir C;obtain ⟨r',D,hor⟩:=hR.at_ C;rw [L] at D; cases D;cases o0 with
    | p7 l2=>
     obtain ⟨g',e,a',c,k1,k2,k3⟩:=hor;cases e;obtain ⟨p,a'',c',hsk,m,hg',hl',U⟩:=VT (P:=P) (n:=n) (ty:=o.type) h1 h3 h5 hm hk k1 k2;have K:=d g p L m;obtain ⟨j1,j2⟩:=fin g (.p7 ((k,a) :: l2)) p L ⟨_,C⟩ m hw ⟨g,rfl,a'',c',hg',hl',fun q=>by
      rw [U q];simp only [u0];by_cases V:q=k
      ·rw [eg V,eg V]; exact Rd.c8 i K (lu.refl _)
      rw [dc V,dc V];have W:=k3 q;cases hgm:getM q a'.toList <;> cases hfk:u0 q l2 <;> rw [hgm,hfk] at W
      ·trivial
      ·exact W
      ·exact W
      exact Rd.c8 W K (lu.refl _)⟩
     refine ⟨p,hsk.1,?_,j2⟩;rw [Q];exact j1
    | q7 s f=>cases I
    | _=>cases I
   cases h
  cases h
 cases h
theorem BQ (hT:bz P shp T) (z:ay P shp O) {C:j9} {D:AH} {op:Op} {x:XR}:∀ {l:List (List Nat × List Nat)},ZK T O ro C D op l=some x->∀ (G:Gl) (ρ:List RE) (w:World) (F:Fr) (ty:TypeId),G.shp=shp->oh G ρ D w->o9 (cx G ρ w) ρ C F->(∀ p ∈ x.ob,p) ->
  fp P n F w op ty fun u f=>∃ c,s8 ⟨fun i=>cM i x.ch && ro.wr i,fun i=>cM i x.mv && ro.mv i⟩ ρ w c f /\ oh G c x.u5 f /\ Rt (cx G c f) c x.v u/\∀ p ∈ x.fc,p
 | (I,mv) :: r,h,G,ρ,w,F,ty,J,K,L,g=>by
  simp only [ZK] at h;split at h
  ·rename_i q N;cases h;subst J;have:=Qw (n:=n) (ty:=ty) hT z K L N g;have m:∀ u f,fw G ⟨fun i=>cM i I && ro.wr i,fun i=>cM i mv && ro.mv i⟩ ρ w q F u f -> ∃ c,s8 ⟨fun i=>cM i I && ro.wr i,fun i=>cM i mv && ro.mv i⟩ ρ w c f /\ oh G c q.H f /\ Rt (cx G c f) c q.v u/\∀ p ∈ q.fc,p:=fun u f ⟨c,s,y,_,Q,S⟩=>⟨c,s,y,Q,S⟩;rcases this with h | ⟨U,f,s,y⟩
   ·exact .inl (h.mono m)
   exact .inr ⟨U,f,s,m _ _ y⟩
  exact BQ hT z h G ρ w F ty J K L g
def F3.ext {f c:List RC} (h:F3 P shp n ro l f o i r) (m:∀ j,j<i->c[j]? = f[j]?):F3 P shp n ro l c o i r:=
 ⟨h.dst,h.dn,h.st,h.run,h.off,h.gd.imp id fun ⟨j,p,t,q,s,v,x⟩=>⟨j,p,t,q,s,v,x.imp (fun ⟨y,z,g,C,D⟩=>⟨y,by rw [m j g]; exact z,g,C,D⟩) id⟩⟩
theorem vf:∀ {rs:List RC} {j:Nat},aei rs j=false->∃ r,rs[j]? = some r/\r.on=false/\j<rs.length
 | r :: _,0,h=>⟨r,rfl,h,aa⟩
 | r :: rs,j+1,h=>by
  obtain ⟨c,f,g,m⟩:=vf (rs:=rs) h;grind
def u9:j9 × AH->List RC->Prop
 | _,[]=>True
 | q,r :: c=>r.u6=q.1/\r.H0=q.2/\u9 (r.p4 q) c
theorem u9.Ny:∀ {a b:List RC} {p:j9 × AH},u9 p (a++b)↔u9 p a/\u9 (B6 a p) b
 | [],b,p=>by simp [u9,B6]
 | r :: a,b,p=>by simp only [D0,u9,B6,u9.Ny (a:=a),and_assoc]
def u9.fit:∀ {c:List RC} {p:j9 × AH},u9 p c->(∀ r ∈ c,r.Fit)->gA p c
 | [],_,_,_=>trivial
 | r :: c,_,h,f=>⟨h.1,h.2.1,f r aa,h.2.2.fit fun x g=>f x (by simp [g])⟩
structure I0 (P:Program) (shp:TypeId->Option Sh) (n:Nat) (ro:Lv) (l:List Oper) (q0:j9 × AH) (i:Nat) (done:List RC) (q:j9 × AH):Prop where
 len:done.length=i
 ch:u9 q0 done
 st:B6 done q0=q
 ok:∀ j o r,l[j]? = some o->done[j]? = some r->F3 P shp n ro l done o j r
def I0.next {s q:j9 × AH} {done:List RC} (h:I0 P shp n ro l s i done q) (v:l[i]? = some o) (x:r.u6=q.1) (y:r.H0=q.2) (z:F3 P shp n ro l done o i r):I0 P shp n ro l s (i+1) (done++[r]) (r.p4 q):=by
 have f:∀ j,j<i->(done++[r])[j]? = done[j]?:=fun j g=>C9 (by rw [h.len]; exact g);refine ⟨by simp [h.len],u9.Ny.2 ⟨h.ch,by rw [h.st]; exact ⟨x,y,trivial⟩⟩,by rw [zi,h.st]; rfl,fun j o' C g c=>?_⟩;by_cases m:j<i
 ·rw [f j m] at c;exact (h.ok j o' C g c).ext fun k D=>f k az
 have p:=(r3.1 c).1;simp [h.len] at p;have e:j=i:=by omega
 subst e;rw [N9 (by rw [h.len]; exact sh _),h.len,Nat.sub_self] at c;simp at c; subst c;rw [v] at g; cases g;exact z.ext f
theorem Ef {f:List Nat}:∀ {c done:List RC} {j:Nat},Gh f j done c=true->∀ r ∈ c,r.Fit
 | [],_,_,_,r,h=>by simp at h
 | x :: c,done,j,h,r,hr=>by
  simp only [Gh,pe] at h;obtain ⟨⟨⟨⟨⟨⟨⟨⟨⟨g,m⟩,_⟩,_⟩,_⟩,_⟩,_⟩,_⟩,_⟩,p⟩:=h;rcases u2.1 hr with rfl | hr
  ·exact ⟨r7 g,F4 m⟩
  exact Ef p r hr
variable {r:PR}
def ahG {fr:j9} (h:pv T O H fr op=some r):D8 op=false:=by cases op <;> first | rfl | simp [pv,X3,X4] at h
def WN {fr:j9} (h:Ls T fr H op=some r):D8 op=false:=by cases op <;> first | rfl | simp [Ls] at h
def Wh {fr:j9} {r:Y5} (h:mapA T H fr op=some r):D8 op=false:=by cases op <;> first | rfl | simp [mapA] at h
def nZ {c:Bool} (h:p5 l j=some t):t ∈ iR l (some (j,c)):=by simp [iR,h]
def Tj {fr:j9} {done:List RC} {g:Option (Nat × Bool)} (h:vQ l fr done g=some true):g=none\/∃ j c t,g=some (j,c)/\p5 l j=some t/\t ∈ iR l g/\∃ b,l1 fr t=some (one (.bool (.lit b)))/\true=(b == c):=by
 cases g with
 | none=>exact .inl rfl
 | some g=>
  obtain ⟨j,c⟩:=g;right;simp only [vQ] at h;split at h
  ·rename_i t f;split at h
   ·cases h
   ·rename_i b _ m;exact ⟨j,c,t,rfl,f,nZ f,b,m,(B1 h).symm⟩
   cases h
  cases h
def Lj {fr:j9} {done:List RC} (x:done.length=i) {g:Option (Nat × Bool)} (h:vQ l fr done g=some false):∃ j c t,g=some (j,c)/\p5 l j=some t/\t ∈ iR l g/\((∃ m,done[j]? = some m/\j<i/\m.on=false/\false=false)\/∃ b,l1 fr t=some (one (.bool (.lit b)))/\false=(b == c)):=by
 cases g with
 | none=>cases h
 | some g=>
  obtain ⟨j,c⟩:=g;simp only [vQ] at h;split at h
  ·rename_i t f;split at h
   ·rename_i p;obtain ⟨r,q,s,y⟩:=vf p;exact ⟨j,c,t,rfl,f,nZ f,.inl ⟨r,q,az,s,rfl⟩⟩
   ·rename_i b _ v;exact ⟨j,c,t,rfl,f,nZ f,.inr ⟨b,v,(B1 h).symm⟩⟩
   cases h
  cases h
theorem drop_cons {c:List Oper} (h:l.drop i=o :: c):l[i]? = some o/\l.drop (i+1)=c:=by
 constructor
 ·have:=hC (·[0]?) h;grind
 have:=hC (List.drop 1) h;simpa [I6,Nat.add_comm] using this
theorem JJ (hT:bz P shp T) (hO:ay P shp O) {K:j9->AH->Prop} {q0:j9 × AH}:∀ (m i:Nat) (c:List Oper) (fr:j9) (H:AH) (done:List RC),l.drop i=c->i<=l.length->lz n c=true->I0 P shp n ro l q0 i done (fr,H)->Vv T O ro l K m i c fr H done ->
  ∃ N,I0 P shp n ro l q0 l.length N (B6 N q0)/\okR l N=true/\wh (W7 N (jE [] l) N) (lS (T9 N) (K (wx (B6 N q0).1 []) (B6 N q0).2))
 | 0,_,_,_,_,_,_,_,_,_,h=>h.elim
 | m+1,i,[],fr,H,done,hd,hil,_,k,h=>by
  simp only [Vv] at h;have hi:i=l.length:=by
   have:=hC List.length hd;simp at this; omega
  subst hi;split at h
  ·rename_i hok;refine ⟨done,by rw [k.st]; exact k,hok,?_⟩;rw [k.st]; exact h
  exact h.elim
 | m+1,i,o :: c,fr,H,done,hd,hil,V,k,h=>by
  obtain ⟨ho,hd2⟩:=drop_cons hd;have hil2:i+1<=l.length:=(r3.1 ho).1;have g:∀ d,o.dst=some d->blt d n=true:=fun d hdd=>mm V o aa d hdd;have hdr:lz n c=true:=by simp only [lz,pe] at V; exact V.2
  have W:=fun X (hrc:F3 P shp n ro l done o i X) (h1:X.u6=fr) (h2:X.H0=H) (h:Vv T O ro l K m (i+1) c (X.p4 (fr,H)).1 (X.p4 (fr,H)).2 (done++[X]))=>JJ hT hO m (i+1) c _ _ _ hd2 hil2 hdr (k.next ho h1 h2 hrc) h;simp only [Vv] at h;split at h
  ·-- it is not run
   rename_i hg;obtain ⟨j,wt,t,h1,h2,h3,h4⟩:=Lj k.len hg;exact W _ ⟨rfl,g,(fun h=>by cases h),(fun h=>by cases h),fun _=>⟨rfl,rfl,rfl,rfl,rfl,rfl,rfl⟩,.inr ⟨j,wt,t,h1,h2,h3,h4⟩⟩ rfl rfl h
  ·-- it is run
   rename_i hg;have z:∀ U,(o.guard=none/\true=true)\/∃ j wt t,o.guard=some (j,wt)/\p5 l j=some t/\t ∈ U++iR l o.guard/\((∃ rj,done[j]? = some rj/\j<i/\rj.on=false/\true=false)\/∃ b,l1 fr t=some (one (.bool (.lit b)))/\true=(b == wt)):=fun U=>by
    rcases Tj hg with h | ⟨j,wt,t,h1,h2,h3,h4⟩
    ·exact .inl ⟨h,rfl⟩
    exact .inr ⟨j,wt,t,h1,h2,C6 _ h3,.inr h4⟩
   split at h
   ·-- a pick
    rename_i t x y hop;split at h
    ·rename_i b hlk;split at h
     ·rename_i v hev;obtain ⟨v',h,Y⟩:=uT h;refine W _ ⟨rfl,g,(fun _ C=>by rw [hop] at C; cases C),fun _=>.inl ⟨rfl,?_⟩,(fun h=>by cases h),z _⟩ rfl rfl h;refine pure_run (A:=t :: Operand.sl (cond b x y)) (σ:=[]) (v:=v) Y (fun G ρ w F Q S D _=>?_) _;have e1:l1 (dQ fr (t :: Operand.sl (cond b x y))) t=some (one (.bool (.lit b))):=by rw [jg aa]; exact hlk
      obtain ⟨vt,k1,k2⟩:=fq D e1;have k2:=IH k2;subst k2;rw [<- iV (U:=t :: Operand.sl (cond b x y)) (fun t' ht=>by simp [ht])] at hev;obtain ⟨u,k3,k4⟩:=aw D hev;rw [hop];refine .inl ⟨u,w,?_,Kp.refl w,k4,aa⟩;cases b with
      | true=>exact R.AM k1 rfl k3
      | false=>exact R.DK k1 rfl k3
     exact h.elim
    exact h.elim
   split at h
   ·-- an entry is put
    rename_i id e hins;obtain ⟨k1,k2⟩:=OZ (P:=P) (n:=n) hT (B:=iR l o.guard) hins H.length (sy [] 0 H);split at h
    ·rename_i X q;refine W _ ⟨q.symm,g,fun _ _=>q,fun _=>.inr ⟨e,id,rfl,rfl,rfl,rfl,rfl,by rw [qK],k2,k1⟩,(fun h=>by cases h),z _⟩ rfl rfl h
    exact h.elim
   split at h
   ·-- a map of functions
    rename_i mr hmp;obtain ⟨v',h,Y⟩:=uT (nE h);refine W _ ⟨rfl,g,(fun _ C=>by rw [Wh hmp] at C; cases C),fun _=>.inl ⟨rfl,?_⟩,(fun h=>by cases h),z _⟩ rfl rfl h;refine pure_run Y (fun G ρ w F Q S D _=>?_) _;subst Q;obtain ⟨u,j1,j2⟩:=AF (n:=n) (ty:=o.type) hT S D hmp;exact .inl ⟨u,w,j1,Kp.refl w,j2,aa⟩
   split at h
   ·rename_i r I;obtain ⟨v',h,Y⟩:=uT h;have hr0:=I;unfold aiU at I;dsimp only at I;split at I
    ·rename_i r' s;replace s:=acJ T O s;cases I;refine W _ ⟨rfl,g,(fun _ C=>by rw [WN s] at C; cases C),fun _=>.inl ⟨rfl,?_⟩,(fun h=>by cases h),z _⟩ rfl rfl h;exact pure_run Y (fun G ρ w F Q S D _=>QT hT Q S D s) _
    split at I
    ·rename_i r' hpv;cases I;refine W _ ⟨rfl,g,(fun _ C=>by rw [ahG hpv] at C; cases C),fun _=>.inl ⟨rfl,?_⟩,(fun h=>by cases h),z _⟩ rfl rfl h;exact pure_run Y (fun G ρ w F Q S D Z=>by subst Q; exact vH hT hO S D hpv Z) _
    split at I
    ·rename_i J;refine W _ ⟨rfl,g,(fun _ C=>by
      unfold YF at J;rw [C] at J;cases q:o.dst with
      | none=>rfl
      | some d=>rw [q] at J; cases J),fun _=>.inl ⟨rfl,?_⟩,(fun h=>by cases h),z _⟩ rfl rfl h
     intro G ρ w F Q S D Z;refine DJ D fun FA hfA=>?_;have hk:=BQ (n:=n) hT hO I G ρ w FA o.type Q S hfA Z;have key:∀ u L,(∃ f,s8 ⟨fun i=>cM i r.ch && ro.wr i,fun i=>cM i r.mv && ro.mv i⟩ ρ w f L /\ oh G f r.u5 L /\ Rt (cx G f L) f r.v u/\∀ p ∈ r.fc,p)->∃ f,s8 ⟨fun i=>cM i r.ch && ro.wr i,fun i=>cM i r.mv && ro.mv i⟩ ρ w f L /\ oh G f r.u5 L /\ Rt (cx G f L) f v' u/\∀ p ∈ r.fc,p:=fun u L ⟨f,j1,j2,j3,j4⟩=>⟨f,j1,j2,Y _ _ _ j3,j4⟩;rcases hk with hk | ⟨h0,L,j1,j2⟩
     ·exact .inl (hk.mono key)
     exact .inr ⟨h0,L,j1,key _ _ j2⟩
    cases I
   exact h.elim
  exact h.elim
end
end Go.Proofs.YticbaadnibdbkaaGreat
