/- What leads to the law, part 3. Conditions: each lemma's own. -/
import Derived.Scope
import Derived.Test.YtoecbhljidgajaaGreatProg
import Derived.Test.YtoecbhljidgajaaGreatNPM2
set_option linter.unusedVariables false
set_option linter.unusedSimpArgs false
set_option maxHeartbeats 2000000
set_option linter.defProp false
open List (getD_eq_getElem?_getD length_drop map_id range replicate)
open Nat (beq_eq ble ble_eq blt blt_eq)
open Bool (not_eq_true)
namespace Go.Proofs.YtoecbhljidgajaaGreat
open Go.RowKit
def E5:=@Option.map_some
def T6:=@Nat.mul_comm
def J6:=@List.length_replicate
def V8:=@Nat.min_eq_right
def X5:=@List.set_getElem_self
def X8:=@List.mem_of_mem_take
def O1:=@List.take_length
def M3:=@List.getElem?_eq_none
def X4:=@List.getElem?_map
def T1:=@List.not_mem_nil
def O2:=@Option.getD_some
def X9:=@List.map_congr_left
def V5:=@List.mem_map_of_mem
def D7:=@decide_eq_false
def Q5:=@List.length_singleton
def B2:=@List.length_nil
theorem js{f:Nat->AO}:∀{l:List Nat} {H:AH},(oI f l H)=H.length
 |[],_=>rfl
 |i::r,H=>by rw[oI,js,B1]
theorem xm{f:Nat->AO}{j:Nat}:∀{l:List Nat} {H:AH},j<H->(oI f l H)[j]? =if j∈l then some (f j)else H[j]?
 |[],_,_=>by simp[oI]
 |i::r,H,a=>by
  rw[oI,xm (by rw[B1];exact a)];grind
theorem jz{H:AH}{i:Nat}:∀{l:List Nat},i∈rowsOf H l↔i∈l/\((∃t s a,l9 H i=.row t s a)\/l9 H i=.loc)
 |[]=>by simp[rowsOf]
 |j::r=>by
  unfold rowsOf;split
  next t s a h=>simp[jz];grind
  next h=>simp[jz];grind
  rename_i b c;simp[jz];grind
theorem xO{a:Lv}:∀{l:List Nat},Ck a l=true↔∀i∈l,a.wr i=true/\a.mv i=true
 |[]=>by simp[Ck]
 |i::r=>by simp[Ck,xO]
def si{b:Sh}{o:AO}:∀{H:AH},vF b H=true->o∈H->vF b [o]=true
 |o'::r,h,hm=>by
  rcases v7.1 hm with rfl|hm
  .cases o<;>simp[vF]at h⊢ <;>simp_all
  exact si (H:=r) (by cases o'<;>simp[vF]at h<;>first|exact h|exact h.2) hm
variable{b:Sh}{H:AH}{t:TypeId}
def Zg{a:List AV}(h:vF b H=true)(c:.box t a∈H):S0 b a=true:=by simpa[vF] using si h c
def Wz{s:Sh}{a:List (l7 s)}(h:vF b H=true)(c:.row t s a∈H):kJ (Sh.no 5 b) s.je=true:=by simpa[vF] using si h c
def WK{s:Sh}{f:Int->Option (l7 s)}(h:vF b H=true)(a:.s6 s f∈H):kJ (Sh.no 5 b) s.je=true:=by simpa[vF] using si h a
variable{n:Nat}
def Xe{s:Sh}{a:List (l7 s)}(h:vF b H=true)(c:.A8 t s n a∈H):kJ (Sh.no 5 b) s.je=true:=by simpa[vF] using si h c
def Iy{b:Sh}:∀{l:List (Int×AV)},W9 b l=true->∀q∈l,q.2.no b=true
 |(k,a)::r,h,q,hq=>by
  simp[W9]at h;rcases v7.1 hq with rfl|hq
  .exact h.1
  exact Iy h.2 q hq
variable{l:List (Int×AV)}
def UB(h:vF b H=true)(a:.r9 l∈H):W9 b l=true:=by simpa[vF] using si h a
variable{σ:List Nat}{j:Nat}
def Fu(a:σ.Nodup)(c:j<σ):posOf σ[j] σ=j:=by
 have d:=nq (σ:=σ) (I1 c);have e:=(sy.1 d);let⟨g,f⟩:=e;exact(List.getElem_inj a).1 f
def iA(c:List RE)(σ:List Nat)(a:List RE):=((range c).map λj=>if j∈σ then a.getD (posOf j σ) .no else c.getD j .no)++a.drop σ
variable{ρ2 ρ:List RE}
theorem lD(a:j<ρ):(iA ρ σ ρ2)[j]? =some (if j∈σ then ρ2.getD (posOf j σ) .no else ρ.getD j .no):=by
 unfold iA;grind
theorem zp(a:ρ<=j):(iA ρ σ ρ2)[j]? =ρ2[σ+(j-ρ)]?:=by
 unfold iA;grind
section
variable{P:Program}{G:Gl}{m3:ic}{n:Nat}{F:Fr}{w:World}{ρ:List RE}{H:AH}{fr:lg}{ro:Lv}
def yg(hO:dN P G.shp m3)(hR:pe G ρ H w)(hf:r7 (cx G ρ w) ρ fr F){f:Nat}{a:List oh}{D:List Nat}{vs:List Value}{r:SR}
  (hvs:∀(G':Gl) (σ:List Nat),G'.shp=G.shp->(cx G ρ w).le (cx G' (eu ρ σ) w)->(∀i∈tc a,i∈σ)->(∀id∈D,∀g L len z,ρ[id]? =some (.row g L len z)->(cx G' (eu ρ σ) w).S g)->hY (eh (cx G' (eu ρ σ) w) (eu ρ σ)) (kq (posOf · σ) a) vs)
  (hlent:∀id∈D,∀r,ρ[id]? =some r->r≠ .no->(∃t s xs,l9 H id=.row t s xs))
  (h:Iz m3 ro fr H f a D=some r)(hob:∀p∈r.ob,p):
  (∃fn,P.funcs[f]? =some fn/\(fn.name== "runtime.NumGoroutine")=false/\fn.body.isNone=false)/\mT P f vs.toArray w λv E=>fY G ro ρ w r F v E:=by
 unfold Iz at h;generalize uw H a=σ at h;simp only at h;split at h
 .rename_i hck;simp at hck;obtain⟨⟨⟨⟨hn,hai⟩,hcl⟩,hno⟩,hge⟩:=hck;split at h
  .rename_i pre rs H' kp hrs;split at h
   .rename_i hck2;cases h;simp only[r3]at hck2;have hlenH:=G8 hck2.1;have hsh:=iv.1 hck2.2;have hai:=kO.1 hai;have hno:=oO.1 hno;have hge:=xO.1 hge;have hnd:=lB.1 hn;have hclo:=kg.1 hcl;let lt:Nat->Prop:=λb=>∃id∈D,∃rr,ρ[id]? =some rr/\rr.g?=some b
    let Z':Nat->Prop:=λb=>G.Z b\/(live ρ b/\¬live (eu ρ σ) b/\¬lt b)
    have hsub:∀(b i:Nat) (r:RE),ρ[i]? =some r->r.g?=some b->live (eu ρ σ) b->i∈σ:=by
     rintro b i r m d ⟨j,r2,K,h4⟩;have e:=gF K (by rintro rfl;cases h4);have e2:=hR.inj _ _ _ _ b m e d h4;have hj:j<σ.length:=by simpa[eu] using(sy.1 K).1
     have a1:σ.getD j 0=σ[j]:=by rw[getD_eq_getElem?_getD,r5 hj];rfl
     rw[e2,a1];exact I1 _
    have hltσ:∀b,lt b->¬live (eu ρ σ) b:=by
     rintro b ⟨id,hid,rr,m,d⟩ hl;exact hno id hid (hsub b id rr m d hl)
    obtain⟨hR',hle⟩:=hR.sub (σ:=σ) (Z':=Z') hn hcl (λb I=>I.elim (hR.z b) λ⟨⟨i,r,m,d⟩,_⟩=>(hR.u0 i r b m d).2.1) (λb m d hz=>hz.elim m λK=>d K.1)
     (λb m hz=>hz.elim (λd=>by obtain⟨i,r,K,h4⟩:=iT m;exact(hR.u0 i r b K h4).2.2 d) λd=>d.2.1 m)
    obtain⟨hfn,hrun⟩:=hO _ _ _ _ hrs hob;refine⟨hfn,?_⟩;have hargs:=hvs ⟨G.shp,G.B0,Z'⟩ σ rfl hle hai λid hid g L len z m=>by
     have hl:lt g:=⟨id,hid,_,m,rfl⟩;have I:=hR.u0 _ _ g m rfl;exact⟨I.2.1,hltσ g hl,λhz=>hz.elim I.2.2 λd=>d.2.2 hl⟩
    refine(hrun ⟨G.shp,G.B0,Z'⟩ _ w vs rfl hR' hargs).mono λv E ⟨us,hv,ρ2,hR2,J,hbx2,hrs',_⟩=>?_;have hl2:H'.length=ρ2.length:=hR2.obj.length;have hHρ:H.length=ρ.length:=hR.obj.length;have Z:∀{j:Nat},j<σ.length->ir H σ j=σ.getD j 0:=λ{j} hj=>by
     unfold ir;have:ble σ.length j=false:=by rw[<-not_eq_true,ble_eq];omega
     rw[this];rfl
    have Q:∀{j:Nat},σ.length<=j->ir H σ j=H.length+(j-σ.length):=λ{j} hj=>by
     unfold ir;have:ble σ.length j=true:=by rw[ble_eq];exact hj
     rw[this];rfl
    have hσlt:∀i∈σ,i<ρ.length:=λi hi=>by rw[<-hHρ];exact(hclo i hi).1
    have hτ:∀(j:Nat) (r:RE),ρ2[j]? =some r->(iA ρ σ ρ2)[ir H σ j]? =some r:=λj r hj=>by
     by_cases hjn:j<σ.length
     .rw[Z hjn];have a1:σ.getD j 0=σ[j]:=by rw[getD_eq_getElem?_getD,r5 hjn];rfl
      rw[a1,lD (hσlt _ (I1 hjn)),O (I1 hjn),Fu hnd hjn,getD_some hj]
     rw[Q N,zp N,hHρ,<-hj];congr 1;omega
    have hmix:∀(i:Nat) (r:RE) (g:Nat),(iA ρ σ ρ2)[i]? =some r->r.g?=some g->(i<ρ.length/\i∉σ/\ρ[i]? =some r)\/∃j,ρ2[j]? =some r/\ir H σ j=i:=λi r g m d=>by
     by_cases hi:i<ρ.length
     .rw[lD hi]at m;by_cases R:i∈σ
      .rw[O R]at m;cases m;have hp:=nq R;obtain⟨hpl,hpe⟩:=sy.1 hp;refine .inr ⟨posOf i σ,?_,?_⟩
       .cases hq:ρ2[posOf i σ]? with
        |none=>rw[getD_eq_getElem?_getD,hq]at d;cases d
        |some r'=>rw[getD_some hq]
       rw[Z hpl,getD_eq_getElem?_getD,hp];rfl
      rw[X R]at m;cases m;have:ρ[i]? =some ρ[i]:=r5 hi;exact .inl ⟨hi,R,by rw[getD_some this];exact this⟩
     rw[zp N]at m;refine .inr ⟨σ.length+(i-ρ.length),m,?_⟩;rw[Q N,hHρ];omega
    have hτinj:∀(j j':Nat),j<ρ2.length->j'<ρ2.length->ir H σ j=ir H σ j'->j=j':=λj j' hj hj' he=>by
     by_cases m:j<σ.length<;>by_cases d:j'<σ.length
     .rw[Z m,Z d]at he;rw[getD_eq_getElem?_getD,r5 m,getD_eq_getElem?_getD,r5 d]at he;exact(List.getElem_inj hnd).1 he
     .rw[Z m,Q N,getD_eq_getElem?_getD,r5 m]at he;have:=(hclo _ (I1 m)).1;simp at he;omega
     .rw[Q N,Z d,getD_eq_getElem?_getD,r5 d]at he;have:=(hclo _ (I1 d)).1;simp at he;omega
     rw[Q N,Q N]at he;omega
    have hlive2:∀b,live ρ2 b->live (eu ρ σ) b\/w.heap.size<=b:=λb hl=>by
     by_cases I:b<w.heap.size
     .by_cases hs:live (eu ρ σ) b
      .exact .inl hs
      exact absurd hl (J.z7 b I hs).1
     exact .inr N
    have hoth:∀(i:Nat) (r:RE) (g:Nat),i∉σ->ρ[i]? =some r->r.g?=some g->¬live ρ2 g/\E.heap[g]? =w.heap[g]?:=λi r g hi m d=>
     J.z7 g (hR.u0 i r g m d).2.1 λhl=>hi (hsub g i r m d hl)
    have hlv:∀b,b<w.heap.size->¬live ρ b->¬live (iA ρ σ ρ2) b:=λb I hl ⟨i,r,m,d⟩=>by
     rcases hmix i r b m d with⟨_,_,K⟩|⟨j,K,_⟩
     .exact hl ⟨i,r,K,d⟩
     rcases hlive2 b ⟨j,r,K,d⟩with h4|h4
     .exact hl (iT h4)
     omega
    have hext:u7 ρ w (iA ρ σ ρ2) E:=⟨J.os,J.tape,J.output,J.size,λb I hl=>⟨hlv b I hl,(J.z7 b I λh=>hl (iT h)).2⟩⟩;have B:=hext.le hR.lo;have hstp:u6 ro ρ w (iA ρ σ ρ2) E:=by
     refine⟨hext,λi r hi S=>?_,λi r hi S=>?_,λi g hi=>?_⟩
     .have him:i∉σ:=λR=>by have:=(hge i R).2;rw[hi]at this;cases this
      rw[lD (sy.1 S).1,X him,getD_some S]
     .have him:i∉σ:=λR=>by have:=(hge i R).1;rw[hi]at this;cases this
      have hil:=(sy.1 S).1;refine⟨?_,λg hg=>(hoth i r g him S hg).2⟩;rw[lD hil,X him,getD_some S]
     have hil:=(sy.1 hi).1;rw[lD hil];by_cases R:i∈σ
     .rw[O R];have:=hbx2 (posOf i σ) g (jG R hi);rw[getD_some this]
     rw[X R,getD_some hi]
    have hag:∀(i:Nat) (r:RE),(i∉σ\/∃g,r=.blk g)->ρ[i]? =some r->(iA ρ σ ρ2)[i]? =some r:=λi r hh S=>by
     rcases hh with hh|⟨g,rfl⟩
     .rw[lD (sy.1 S).1,X hh,getD_some S]
     exact hstp.bx i g S
    have hcap:∀q v,fw ρ q v->fw (iA ρ σ ρ2) q v:=λq v ⟨g,m,d⟩=>⟨g,hag _ _ (.inr ⟨g,rfl⟩) m,d⟩;have hrow:∀(i:Nat) (r:RE),ρ[i]? =some r->(r=.emp\/∃g L len z,r=.row g L len z)->cZ i (rowsOf H σ)=false->i∉σ:=λi r m d K R=>by
     have hlt:=(hclo i R).1;obtain⟨r',hr',C⟩:=hR.at_ (r5 hlt);rw[m]at hr';cases hr';have hO:l9 H i=H[i]:=by unfold l9;rw[getD_eq_getElem?_getD,r5 hlt];rfl
     cases U:H[i]with
     |gone=>rw[U]at C;rcases d with rfl|⟨_,_,_,_,rfl⟩<;>cases C
     |box t cs=>rw[U]at C;obtain⟨g,_,e,_⟩:=C;subst e;rcases d with d|⟨_,_,_,_,d⟩<;>cases d
     |s6 s f=>rw[U]at C;obtain⟨g,e,_⟩:=C;subst e;rcases d with d|⟨_,_,_,_,d⟩<;>cases d
     |loc=>
      have:i∈rowsOf H σ:=jz.2 ⟨R,.inr (by rw[hO,U])⟩;rw[cu.2 this]at K;cases K
     |r9 l=>rw[U]at C;obtain⟨g,e,_⟩:=C;subst e;rcases d with d|⟨_,_,_,_,d⟩<;>cases d
     |A8 t s n xs=>rw[U]at C;obtain⟨g,_,e,_⟩:=C;subst e;rcases d with d|⟨_,_,_,_,d⟩<;>cases d
     |row t s xs=>
      have:i∈rowsOf H σ:=jz.2 ⟨R,.inl ⟨t,s,xs,by rw[hO,U]⟩⟩;rw[cu.2 this]at K;cases K
    have hrd:∀a v,Rd (cx G ρ w) ρ a v->Rd (cx G (iA ρ σ ρ2) E) (iA ρ σ ρ2) (a.di (rowsOf H σ)) v:=by
     intro a v h;cases a with
     |own j=>
      simp[AV.di];cases I:cZ j (rowsOf H σ)
      .rcases h with⟨g,L,len,z,h,e⟩|⟨h,e⟩
       .exact .inl ⟨g,L,len,z,hag _ _ (.inl (hrow j _ h (.inr ⟨_,_,_,_,rfl⟩) I)) h,e⟩
       exact .inr ⟨hag _ _ (.inl (hrow j _ h (.inl rfl) I)) h,e⟩
      exact Rd.one h
     |sub j o k=>
      simp[AV.di];cases I:cZ j (rowsOf H σ)
      .rcases h with⟨g,L,len,z,h,e⟩|⟨h,e⟩
       .exact .inl ⟨g,L,len,z,hag _ _ (.inl (hrow j _ h (.inr ⟨_,_,_,_,rfl⟩) I)) h,e⟩
       exact .inr ⟨hag _ _ (.inl (hrow j _ h (.inl rfl) I)) h,e⟩
      exact Rd.one h
     |y8 j k o=>
      simp[AV.di];cases I:cZ j (rowsOf H σ)
      .obtain⟨g,L,len,z,h,e⟩:=h;exact⟨g,L,len,z,hag _ _ (.inl (hrow j _ h (.inr ⟨_,_,_,_,rfl⟩) I)) h,e⟩
      exact Rd.one h
     |ptr j o=>exact hcap _ _ h
     |mq j=>
      obtain⟨g,m,e⟩:=h;exact⟨g,hag _ _ (.inr ⟨g,rfl⟩) m,e⟩
     |fn f b cs=>
      obtain⟨bs,us,m,d,e⟩:=h;exact⟨bs,us,m.imp λ_ _ h=>hcap _ _ h,d.imp λ_ _ h=>hcap _ _ h,e⟩
     |fe s' x o=>
      obtain⟨A,T,m,d,K,e⟩:=h;exact⟨A,T,(B.S _ m).1,d.dc (B.S _ m).2,K.ed B,e⟩
     |np=>exact h
     |nf=>exact h
     |yl l=>exact h
     |xx k cs=>
      obtain⟨us,m,d⟩:=h;exact⟨us,m.imp λ_ _ h=>hcap _ _ h,d.le B⟩
     |dead=>exact h
     |int n=>exact Pd.ed h B
     |u8 b=>exact Pd.ed h B
     |u64 n=>exact Pd.ed h B
     |bool e=>exact Pd.ed h B
     |str s=>exact Pd.ed h B
     |em b=>exact Pd.ed h B
     |li nw xs=>exact Pd.ed h B
     |fz s xs=>exact Pd.ed h B
    have hS:∀b,(cx ⟨G.shp,G.B0,Z'⟩ ρ2 E).S b->(cx G (iA ρ σ ρ2) E).S b\/(¬b<G.B0/\∃sb∈gE H D,∃cur t fr,E.heap[b]? =some (.cells cur t fr)/\G.shp t=some sb):=by
     rintro b ⟨m,d,K⟩;by_cases hl:live (iA ρ σ ρ2) b
     .right;obtain⟨i,r,h4,h5⟩:=hl;rcases hmix i r b h4 h5 with⟨_,him,h6⟩|⟨j,h6,_⟩
      .have hnl:¬live (eu ρ σ) b:=λhh=>him (hsub b i r h6 h5 hh);have hlt:lt b:=by
        by_cases hx:lt b
        .exact hx
        exact absurd (.inr ⟨⟨i,r,h6,h5⟩,hnl,hx⟩) K
       obtain⟨id,hid,rr,h7,h8⟩:=hlt;have I:=hR.u0 _ _ b h7 h8;refine⟨N,?_⟩;obtain⟨t,s,xs,hrw⟩:=hlent id hid rr h7 (by rintro rfl;cases h8);refine⟨s,sa hrw hid,?_⟩;have hfc:=fu hR hrw;rcases cS hR hrw with⟨h9,_⟩|⟨g,L,T,sp,h9,h10,_⟩
       .rw[h7]at h9;cases h9;cases h8
       rw[h7]at h9;cases h9;cases h8;have hids:id∉σ:=hno id hid;exact⟨_,t,(0,0),(hoth id _ _ hids h7 rfl).2.trans h10,hfc.1⟩
      exact absurd ⟨j,r,h6,h5⟩ d
     left;exact⟨m,hl,λhz=>K (.inl hz)⟩
    have hpd:∀{b:AV} {u:Value},Pd (cx ⟨G.shp,G.B0,Z'⟩ ρ2 E) b u->(∀sb∈gE H D,Vg 5 sb b=true)->Pd (cx G (iA ρ σ ρ2) E) b u:=λI hn=>Pd.SO (c:=cx ⟨G.shp,G.B0,Z'⟩ ρ2 E) (c':=cx G (iA ρ σ ρ2) E) (gE H D) rfl rfl rfl hS I 5 hn;have htake:∀(a:AV) (u:Value),(∀b∈gE H D,a.no b=true)->Rd (cx ⟨G.shp,G.B0,Z'⟩ ρ2 E) ρ2 a u->Rd (cx G (iA ρ σ ρ2) E) (iA ρ σ ρ2) (a.nH (ir H σ)) u:=λa u hno5 hu=>by
     refine Rd.nH (λ_ hp=>hpd hp λsb hsb=>Rm (hno5 sb hsb)) (λs x o e=>?_) (λk cs us e h=>h.unl (c:=cx ⟨G.shp,G.B0,Z'⟩ ρ2 E) (c':=cx G (iA ρ σ ρ2) E) rfl rfl rfl hS λsb hsb=>e▸hno5 sb hsb) (λi hi r S _=>hτ i r S) hu;subst e;have hnil:gE H D=[]:=by
      cases hq:gE H D with
      |nil=>rfl
      |cons b l=>have:=hno5 b (by rw[hq];simp);simp[AV.no]at this
     rw[hnil]at hS;have hS':(cx ⟨G.shp,G.B0,Z'⟩ ρ2 E).le (cx G (iA ρ σ ρ2) E):=⟨rfl,rfl,λb I=>⟨(hS b I).resolve_right λ⟨_,sb,h,_⟩=>by simp at h,rfl⟩,λ_ _ _=>rfl⟩;obtain⟨A,T,k1,k2,k3,e⟩:=hu;exact⟨A,T,(hS'.S _ k1).1,k2,k3.ed hS',e⟩
    have hobj:∀(j:Nat) (o:AO) (r:RE),H'[j]? =some o->ρ2[j]? =some r->OR (cx G (iA ρ σ ρ2) E) (iA ρ σ ρ2) (o.nH (ir H σ)) r:=λj o r U S=>by
     obtain⟨r',hr',C⟩:=hR2.at_ U;rw[S]at hr';cases hr';have hmem:o∈H':=C5 U;have hnoO:∀b∈gE H D,vF b H'=true:=λb I=>by have:=hsh b I;simp at this;exact this.2
     cases o with
     |gone=>exact C
     |s6 s f=>
      obtain⟨g,rfl,a,n,k1,k2,k3⟩:=C;refine⟨g,rfl,a,n,k1,k2,λk=>?_⟩;have k4:=k3 k;cases hg:getM k a.toList<;>cases hf:f k<;>rw[hg,hf]at k4
      .trivial
      .exact k4
      .exact k4
      rename_i v x;obtain⟨us,k5,k6⟩:=k4;refine⟨us,r6.of (dw k5.length λi a u ha hu=>?_),k6⟩;obtain⟨u',hu',hau⟩:=e_ k5.all i a ha;rw[hu]at hu';cases hu';refine hpd hau λsb hsb=>?_;have hns:=iv.1 (WK (hnoO sb hsb) hmem);cases a with
      |fz s' ys=>exact hns s' (lQ (C5 ha))
      |li nw ys=>exact hns .int (lj (C5 ha))
      |_=>rfl
     |box t cs=>
      obtain⟨g,vs',rfl,m,d⟩:=C;exact⟨g,vs',rfl,m,qx (λa ha u hu=>htake a u (λb I=>zh.1 (Zg (hnoO b I) hmem) a ha) hu) d⟩
     |loc=>trivial
     |r9 l=>
      obtain⟨g,rfl,h⟩:=C;exact⟨g,rfl,h.map (g0:=λa=>a.nH (ir H σ)) (tW l) (λq hq u hu=>htake q.2 u (λb I=>Iy (UB (hnoO b I) hmem) q hq) hu) rfl⟩
     |A8 t s n xs=>
      obtain⟨g,vs',rfl,h4,h5,h6⟩:=C;refine⟨g,vs',rfl,h4,?_,h6⟩;refine r6.of (dw h5.length λi a u ha hu=>?_);obtain⟨u',hu',hau⟩:=e_ h5.all i a ha;rw[hu]at hu';cases hu';refine hpd hau λsb hsb=>?_;have hns:=iv.1 (Xe (hnoO sb hsb) hmem);have V:=C5 ha;rw[List.mem_flatMap]at V;obtain⟨y,_,hy⟩:=V;cases a with
      |fz s' ys=>exact hns s' (lQ hy)
      |li nw ys=>exact hns .int (lj hy)
      |_=>rfl
     |row t s xs=>
      obtain⟨m,d,K⟩:=C;refine⟨m,d,K.imp id λ⟨g,L,T,sp,e,h4,h5,h6⟩=>⟨g,L,T,sp,e,h4,?_,h6⟩⟩;refine r6.of (dw h5.length λi a u ha hu=>?_);obtain⟨u',hu',hau⟩:=e_ h5.all i a ha;rw[hu]at hu';cases hu';refine hpd hau λsb hsb=>?_;have hns:=iv.1 (Wz (hnoO sb hsb) hmem);have V:=C5 ha;rw[List.mem_flatMap]at V;obtain⟨y,_,hy⟩:=V;cases a with
      |fz s' ys=>exact hns s' (lQ hy)
      |li nw ys=>exact hns .int (lj hy)
      |_=>rfl
    refine⟨iA ρ σ ρ2,hstp,⟨?_,?_,?_,λb I=>y7 (hR.z b I) hext.size,zc hR.b0 hext.size,hR.tb.ed (hext.le hR.lo)⟩,vM hrd hf,?_,Zp.qZ hrs'⟩
    ·-- the objects
     refine dw ?_ λi o r U S=>?_
     .simp[s8,js,gr,nu,length_drop,iA,K9,Y3];omega
     by_cases hi:i<H.length
     .rw[E0 (by rw[js,gr];exact hi),xm (by rw[gr];exact hi)]at U;rw[lD N]at S;by_cases R:i∈σ
      .rw[O R]at U S;cases U;cases S;obtain⟨hpl,_⟩:=sy.1 (nq R);have hp2:posOf i σ<H'.length:=by omega
       have e1:H'[posOf i σ]? =some H'[posOf i σ]:=r5 hp2;have e2:ρ2[posOf i σ]? =some (ρ2[posOf i σ]' N):=r5 N;have e3:H'.getD (posOf i σ) .gone=H'[posOf i σ]:=by rw[getD_eq_getElem?_getD,e1];rfl
       rw[e3,getD_some e2];exact hobj _ _ _ e1 e2
      rw[X R]at U S;cases S;rw[oe,I0]at U;obtain⟨o',ho',rfl⟩:=U;obtain⟨r',hr',C⟩:=hR.at_ ho';rw[getD_some hr'];exact C.map B hrd λg hg=>(hoth i r' g R hr' hg).2
     rw[Q4 (by rw[js,gr];omega),js,gr]at U;rw[zp N]at S;have hil:σ.length+(i-H.length)<H'.length:=by
      have:=(sy.1 U).1;simp[nu,length_drop]at this;omega
     have hx:(H'.drop σ.length)[i-H.length]? =some H'[σ.length+(i-H.length)]:=by
      rw[D1];exact r5 hil
     rw[ua hx]at U;have U:=D4 U;subst U;refine hobj (σ.length+(i-H.length)) _ r (r5 hil) ?_;rw[hHρ];exact S
    .intro i i' r r' g m d K h4;rcases hmix i r g m K with⟨a1,a2,a3⟩|⟨j,a3,a4⟩<;>rcases hmix i' r' g d h4 with⟨b1,b2,b3⟩|⟨j',b3,b4⟩
     .exact hR.inj _ _ _ _ g a3 b3 K h4
     .exact absurd ⟨j',r',b3,h4⟩ (hoth i r g a2 a3 K).1
     .exact absurd ⟨j,r,a3,K⟩ (hoth i' r' g b2 b3 h4).1
     rw[<-a4,<-b4,hR2.inj _ _ _ _ g a3 b3 K h4]
    .intro i r g m d;rcases hmix i r g m d with⟨_,_,a3⟩|⟨j,a3,_⟩
     .have:=hR.u0 i r g a3 d;exact⟨this.1,y7 this.2.1 hext.size,this.2.2⟩
     have:=hR2.u0 j r g a3 d;exact⟨this.1,this.2.1,λhz=>this.2.2 (.inl hz)⟩
    have hback:hY (eh (cx G (iA ρ σ ρ2) E) (iA ρ σ ρ2)) (kq (ir H σ) rs) us:=by
     refine nU (λt ht a ha u hu=>htake a u (λb I=>?_) hu) hrs';have:=hsh b I;simp at this;exact zC.1 this.1 t ht a ha
    subst hv;show Rt _ _ (Jw (kq (ir H σ) rs)) (DK us);generalize kq (ir H σ) rs=rs' at hback⊢;cases hback with
    |nil=>exact⟨[],rfl,.nil⟩
    |@cons t u l us m d=>
     cases d with
     |nil=>exact m
     |cons K h4=>exact⟨_,rfl,.cons m (.cons K h4)⟩
   cases h
  cases h
 cases h
end
section
variable{P:Program}{T:List (Nat×TI)}{G:Gl}{m3:ic}{n:Nat}{F:Fr}{w:World}{x y:Operand}{ty t:TypeId}{ρ:List RE}{H:AH}{fr:lg}{ro:Lv}
variable{f:Nat}{vs:List Value}{r:SR}
theorem JO(hO:dN P G.shp m3)(C:pe G ρ H w)(hf:r7 (cx G ρ w) ρ fr F){a:List oh}(hvs:hY (eh (cx G ρ w) ρ) a vs)(h:QJ m3 fr H f a=some r)(hob:∀p∈r.ob,p):
  (∃fn,P.funcs[f]? =some fn/\(fn.name== "runtime.NumGoroutine")=false/\fn.body.isNone=false)/\mT P f vs.toArray w λv z=>fY G ro ρ w r F v z:=by
 unfold QJ at h;generalize uw H a=σ at h;simp only at h;split at h
 .rename_i hck;simp at hck;obtain⟨⟨hn,hai⟩,hcl⟩:=hck;split at h
  .rename_i pre rs H' hrs;split at h
   .rename_i hlen;cases h;have hlenH:=G8 hlen;have hai:=kO.1 hai;have hnd:=lB.1 hn;have hclo:=kg.1 hcl;let Z':Nat->Prop:=λb=>G.Z b\/(live ρ b/\¬live (eu ρ σ) b)
    obtain⟨hR',y⟩:=C.sub (σ:=σ) (Z':=Z') hn hcl (λb D=>D.elim (C.z b) λ⟨⟨i,r,c,d⟩,_⟩=>(C.u0 i r b c d).2.1) (λb c d hz=>hz.elim c λL=>d L.1)
     (λb c hz=>hz.elim (λd=>by obtain⟨i,r,L,B⟩:=iT c;exact(C.u0 i r b L B).2.2 d) λd=>d.2 c)
    obtain⟨hfn,hrun⟩:=hO _ _ _ _ hrs hob;refine⟨hfn,?_⟩;have hargs:hY (eh (cx ⟨G.shp,G.B0,Z'⟩ (eu ρ σ) w) (eu ρ σ)) (kq (posOf · σ) a) vs:=by
     refine nU (λt ht a ha' v hv=>?_) hvs;refine Rd.nH (λ_ hp=>hp.ed y) (λs x o e=>?_) (λ_ _ _ _ h=>h.le y) (λi T r I _=>jG (hai i (nb ht ha' T)) I) hv;subst e;obtain⟨A,k,k1,k2,k3,e⟩:=hv;exact⟨A,k,(y.S _ k1).1,k2,k3.ed y,e⟩
    refine(hrun ⟨G.shp,G.B0,Z'⟩ _ w vs rfl hR' hargs).mono λv z ⟨us,hv,ρ2,Q,hext2,hbx2,hrs',hkeep⟩=>?_;obtain⟨hk,U⟩:=hkeep rfl;have hl2:H'=ρ2.length:=Q.obj.length;have hHρ:H=ρ.length:=C.obj.length;have hnew:∀(b j:Nat) (r:RE),σ.length<=j->ρ2[j]? =some r->r.g?=some b->w.heap.size<=b:=λb j r hj c d=>by
     by_cases D:b<w.heap.size
     .by_cases hs:live (eu ρ σ) b
      .obtain⟨i,r',L,B⟩:=hs;have:=Q.inj _ _ _ _ b c (U i r' L) d B;have h6:i<σ.length:=by simpa[eu] using(sy.1 L).1
       omega
      exact absurd ⟨j,r,c,d⟩ (hext2.z7 b D hs).1
     omega
    have hN:∀(i:Nat) (r:RE),ρ[i]? =some r->(ρ++ρ2.drop σ.length)[i]? =some r:=λi r h=>by
     rw[E0 (sy.1 h).1];exact h
    have hNge:∀(i:Nat),ρ.length<=i->(ρ++ρ2.drop σ.length)[i]? =ρ2[σ.length+(i-ρ.length)]?:=λi T=>by
     rw[Q4 T,D1]
    have m:∀(i:Nat) (r:RE) (g:Nat),(ρ++ρ2.drop σ.length)[i]? =some r->r.g?=some g->(i<ρ.length/\ρ[i]? =some r)\/(ρ.length<=i/\ρ2[σ.length+(i-ρ.length)]? =some r/\w.heap.size<=g):=λi r g c d=>by
     by_cases T:i<ρ.length
     .rw[E0 T]at c;exact .inl ⟨T,c⟩
     rw[hNge i N]at c;exact .inr ⟨N,c,hnew g _ r N c d⟩
    have J:u7 ρ w (ρ++ρ2.drop σ.length) z:=⟨hk.os,hk.tape,hk.output,hk.size,λb D hl=>⟨λ⟨i,r,c,d⟩=>(m i r b c d).elim (λh=>hl ⟨i,r,h.2,d⟩) λh=>by omega,hk.block b D aa⟩⟩;have V:=J.le C.lo;have hagr:mz ρ (ρ++ρ2.drop σ.length):=λi r h _=>hN i r h;have hτ:∀(j:Nat) (r:RE),ρ2[j]? =some r->r≠ .no->(ρ++ρ2.drop σ.length)[ir H σ j]? =some r:=λj r hj hne=>by
     unfold ir;by_cases hjn:j<σ.length
     .have D:ble σ.length j=false:=by rw[<-not_eq_true,ble_eq];omega
      rw[D];have hs:(eu ρ σ)[j]? =some ((eu ρ σ)[j]'(by simpa[eu] using hjn)):=r5 _;have c:=U j _ hs;rw[hj]at c;rw[<-D4 c]at hs;exact hN _ _ (gF hs hne)
     have D:ble σ.length j=true:=by rw[ble_eq];omega
     rw[D];show(ρ++ρ2.drop σ.length)[H.length+(j-σ.length)]? =some r;rw[hNge _ N,hHρ,<-hj];congr 1;omega
    have hS:(cx ⟨G.shp,G.B0,Z'⟩ ρ2 z).le (cx G (ρ++ρ2.drop σ.length) z):=⟨rfl,rfl,λb D=>⟨⟨D.1,by
     rintro⟨i,r,c,d⟩;rcases m i r b c d with⟨L,B⟩|⟨_,B,_⟩
     .by_cases hs:live (eu ρ σ) b
      .obtain⟨j,r',h5,h6⟩:=hs;exact D.2.1 ⟨j,r',U j r' h5,h6⟩
      exact D.2.2 (.inr ⟨⟨i,r,B,d⟩,hs⟩)
     exact D.2.1 ⟨_,r,B,d⟩,λhz=>D.2.2 (.inl hz)⟩,rfl⟩,λ_ _ _=>rfl⟩
    have S:∀(a:AV) (u:Value),Rd (cx ⟨G.shp,G.B0,Z'⟩ ρ2 z) ρ2 a u->Rd (cx G (ρ++ρ2.drop σ.length) z) (ρ++ρ2.drop σ.length) (a.nH (ir H σ)) u:=λa u hu=>by
     refine Rd.nH (λ_ hp=>hp.ed hS) (λs x o e=>?_) (λ_ _ _ _ h=>h.le hS) (λi T r I hne=>hτ i r I hne) hu;subst e;obtain⟨A,k,k1,k2,k3,e⟩:=hu;exact⟨A,k,(hS.S _ k1).1,k2,k3.ed hS,e⟩
    have hobj:∀(j:Nat) (o:AO) (r:RE),H'[j]? =some o->ρ2[j]? =some r->OR (cx G (ρ++ρ2.drop σ.length) z) (ρ++ρ2.drop σ.length) (o.nH (ir H σ)) r:=λj o r ho I=>by
     obtain⟨r',R,K⟩:=Q.at_ ho;rw[I]at R;cases R;cases o with
     |gone=>exact K
     |loc=>trivial
     |s6 s f=>
      obtain⟨g,rfl,h⟩:=K;exact⟨g,rfl,h.ed hS rfl⟩
     |r9 l=>
      obtain⟨g,rfl,h⟩:=K;exact⟨g,rfl,h.map (g0:=λa=>a.nH (ir H σ)) (tW l) (λq hq u hu=>S q.2 u hu) rfl⟩
     |box t cs=>
      obtain⟨g,vs',rfl,c,d⟩:=K;exact⟨g,vs',rfl,c,qx (λa ha u hu=>S a u hu) d⟩
     |A8 t s n xs=>
      obtain⟨g,vs',rfl,B,h5,h6⟩:=K;exact⟨g,vs',rfl,B,h5.ed hS,h6⟩
     |row t s xs=>
      obtain⟨c,d,L⟩:=K;exact⟨c,d,L.imp id λ⟨g,cap,k,sp,e,B,h5,h6⟩=>⟨g,cap,k,sp,e,B,h5.ed hS,h6⟩⟩
    refine⟨ρ++ρ2.drop σ.length,⟨J,λi r _ I=>hN i r I,λi r _ I=>⟨hN i r I,λg hg=>hk.block g (C.u0 i r g I hg).2.1 aa⟩,λi g T=>hN i _ T⟩,⟨?_,?_,?_,λb D=>y7 (C.z b D) J.size,zc C.b0 J.size,C.tb.ed V⟩,hf.ed V hagr,?_,Zp.qZ hrs'⟩
    .refine hY.append (dw C.obj.length λi o r ho I=>?_) (dw (by simp[nu,hl2]) λi o r ho I=>?_)
     .obtain⟨r',R,K⟩:=C.at_ ho;rw[I]at R;cases R;exact K.ed V hagr λg hg=>hk.block g (C.u0 i r g I hg).2.1 aa
     rw[D1]at I;have hil:σ.length+i<H'.length:=by
      have:=(sy.1 I).1;omega
     have hx:(H'.drop σ.length)[i]? =some H'[σ.length+i]:=by
      rw[D1];exact r5 hil
     rw[ua hx]at ho;have ho:=D4 ho;subst ho;exact hobj (σ.length+i) _ r (r5 hil) I
    .intro i i' r r' g c d L B;rcases m i r g c L with⟨a1,a2⟩|⟨a1,a2,a3⟩<;>rcases m i' r' g d B with⟨b1,b2⟩|⟨b1,b2,b3⟩
     .exact C.inj _ _ _ _ g a2 b2 L B
     .have:=(C.u0 i r g a2 L).2.1;omega
     .have:=(C.u0 i' r' g b2 B).2.1;omega
     have:=Q.inj _ _ _ _ g a2 b2 L B;omega
    .intro i r g c d;rcases m i r g c d with⟨_,a3⟩|⟨_,a3,_⟩
     .have:=C.u0 i r g a3 d;exact⟨this.1,y7 this.2.1 J.size,this.2.2⟩
     have:=Q.u0 _ r g a3 d;exact⟨this.1,this.2.1,λhz=>this.2.2 (.inl hz)⟩
    have Z:hY (eh (cx G (ρ++ρ2.drop σ.length) z) (ρ++ρ2.drop σ.length)) (kq (ir H σ) rs) us:=nU (λt ht a ha u hu=>S a u hu) hrs';subst hv;show Rt _ _ (Jw (kq (ir H σ) rs)) (DK us);generalize kq (ir H σ) rs=rs' at Z⊢;cases Z with
    |nil=>exact⟨[],rfl,.nil⟩
    |@cons t u l us c d=>
     cases d with
     |nil=>exact c
     |cons L B=>exact⟨_,rfl,.cons c (.cons L B)⟩
   cases h
  cases h
 cases h
def Md(T:dN P G.shp m3)(S:pe G ρ H w)(hf:r7 (cx G ρ w) ρ fr F){args:List oh}(ha:hY (eh (cx G ρ w) ρ) args vs)(h:QW m3 ro fr H f args=some r)(J:∀p∈r.ob,p):
  (∃m1,P.funcs[f]? =some m1/\(m1.name== "runtime.NumGoroutine")=false/\m1.body.isNone=false)/\mT P f vs.toArray w λv w'=>fY G ro ρ w r F v w':=by
 unfold QW at h;split at h
 .grind[JO]
 split at h
 .rename_i r' R Z;cases h;refine yg T S hf (λG' σ hs c m hl=>?_) (λid u r Q hne=>oX.1 R id u) Z J;refine EL (λt U a B v D=>?_) ha;have u:=λi K=>m i (nb (yZ U) (CF B) K);by_cases q:∃id,a=.own id\/∃o k,a=.sub id o k
  .obtain⟨id,I⟩:=q;have L:=vQ U B I;cases C:a.vw H with
   |fz s xs=>
    refine mF (pP S c rfl D (λg b len z ⟨E,V,h1⟩=>?_) C);have e:E=id:=by rcases I with rfl|⟨o,k,rfl⟩<;>rcases V with V|⟨_,_,V⟩<;>cases V<;>rfl
    subst e;exact hl E L g b len z h1
   |dead=>exact Rd.one D
   |_=>rcases I with rfl|⟨o,k,rfl⟩<;>simp[AV.vw]at C<;>split at C<;>cases C
  have e:a.vw H=a:=by
   cases a<;>first|rfl|exact absurd ⟨_,.inl rfl⟩ q|exact absurd ⟨_,.inr ⟨_,_,rfl⟩⟩ q
  rw[e]at u⊢;refine Rd.nH (λ_ j=>j.ed c) (λs x o e=>?_) (λ_ _ _ _ h=>h.le c) (λi K r Q _=>jG (u i K) Q) D;subst e;let⟨A,d,l,n,y,e⟩:=D;exact⟨A,d,(c.S _ l).1,n,y.ed c,e⟩
 refine yg T S hf (λG' σ hs c m hl=>?_) aa h J;refine nU (λt U a B v D=>?_) ha;refine Rd.nH (λ_ j=>j.ed c) (λs x o e=>?_) (λ_ _ _ _ h=>h.le c) (λi K r Q _=>jG (m i (nb U B K)) Q) D;subst e;let⟨A,d,l,n,y,e⟩:=D;exact⟨A,d,(c.S _ l).1,n,y.ed c,e⟩
def Om{c:Cx}{s:Sh}{z:List Value}(a:hY (Rd c ρ) (cellsOf s (c4 s)) z)(e:s.size=1):∀m:Nat,r6 c ((replicate m (c4 s)).flatMap (cellsOf s)) (replicate m (z.headD undef)):=by
 have g:=lO (sW s _) a;have d:=a.length;rw[dV,e]at d;obtain⟨u,rfl⟩:∃u,z=[u]:=by
  cases z with
  |nil=>simp at d
  |cons u r=>
   grind
 intro m;induction m with
 |zero=>exact .nil
 |succ m h=>
  exact g.append h
variable{z:Operand}
def Kd(hT:bG P G.shp T)(hR:pe G ρ H w)(U:r7 (cx G ρ w) ρ fr F){y:Operand}(h:Mx T ro fr H t x y z=some r):
  ∃C,(jJ P n F w (.insert t x y z) ty C/\jJ P n F w (.mapUpdate t x y z) ty C)/\fY G ro ρ w r F undef C:=by
 unfold Mx at h;split at h
 .rename_i s id k v Z hx hy hz;split at h
  .rename_i m3 f hO2;split at h
   .rename_i hss;subst hss;split at h
    .rename_i x' q I J hfz;cases h;simp[<-not_eq_true,cu]at I;let⟨⟨hro,o⟩,K⟩:=I;let⟨hm,hk,_⟩:=(hT _ _ Z).2;obtain⟨va,h1,g,hg,rfl⟩:=az U hx;let⟨vb,h3,h4⟩:=az U hy;cases h4 with|int=>
     let⟨V,h5,D⟩:=az U hz;have L:=cC hO2 aa;let⟨r',m,hor⟩:=hR.at_ L;rw[hg]at m;cases m;let⟨g',e,a,c,k1,k2,k3⟩:=hor;cases e;let⟨p,j1,j2,E,j4,j5,j6,j7,j8⟩:=rk (ro:=ro) hfz hR U;let⟨C,a',c',hsk,d,hg',hl',v6⟩:=YY (P:=P) (n:=n) (ty:=ty) h1 h3 h5 hm hk k1 k2;have u:p[id]? =some (.blk g):=by rw[j8 id K];exact hg
     have hH1:=j7 id _ K L aa;have Q:u7 p w p C:=⟨d.os,d.tape,d.output,d.size,λb hb hl=>⟨hl,d.block b hb (by
      simp;rintro rfl;exact hl ⟨id,_,u,rfl⟩)⟩⟩
     have A:=Q.le E.lo;have hV:V1 (cx G p C) m3 x' V:=by
      cases v with
      |c a=>
       have D:=D;have:=ba J (j6 [a] [V] (λi hi=>hi) (.cons D .nil));refine⟨[V],this.ed A,.inr ⟨?_,rfl⟩⟩;simpa[pM] using o
      |agg l=>
       let⟨us,e,D⟩:=D;have:=ba J (j6 l us (λi hi=>hi) D);exact⟨us,this.ed A,.inl ⟨o,e⟩⟩
     have B:=E.put hH1 u rfl d (o':=.s6 m3 λj=>if j=k then some x' else f j) ⟨g,rfl,a',c',hg',hl',λq=>by
      rw[v6 q];show VO _ _ _ (if q=k then some x' else f q);by_cases m1:q=k
      .rw[O m1,O m1];exact hV
      rw[X m1,X m1];have R:=k3 q;cases hgm:getM q a.toList<;>cases hfk:f q<;>rw[hgm,hfk]at R
      .trivial
      .exact R
      .exact R
      exact V1.ed R (j2.trans A)⟩
     refine⟨C,hsk,p,j1.trans ⟨B.2,λ_ _ _ h=>h,λj r' hj m=>⟨m,λgx S=>d.block gx (E.u0 j r' gx m S).2.1 ?_⟩,λ_ _ h=>h⟩,B.1,j4.ed A (mz.refl _),trivial,aa⟩;simp;rintro rfl;have:=E.inj j id _ _ _ m u S rfl;subst this;rw[hro]at hj;cases hj
    cases h
   cases h
  cases h
 cases h
def E_(hT:bG P G.shp T)(s:pe G ρ H w)(C:r7 (cx G ρ w) ρ fr F){y:Operand}(h:Ng T ro fr H t x y z=some r):
  ∃p,(jJ P n F w (.insert t x y z) ty p/\jJ P n F w (.mapUpdate t x y z) ty p)/\fY G ro ρ w r F undef p:=by
 unfold Ng at h;split at h
 .rename_i id k a K hx hy hz;split at h
  .rename_i l L;split at h
   .rename_i v6;cases h;let⟨hm,hk,_⟩:=(hT _ _ K).2;obtain⟨va,h1,g,D,rfl⟩:=az C hx;let⟨vb,h3,h4⟩:=az C hy;cases h4 with|int=>
    let⟨vz,h5,h6⟩:=az C hz;have u:=cC L aa;let⟨Z,i,Q⟩:=s.at_ u;rw[D]at i;cases i;let⟨g',e,a',c,k1,k2,k3⟩:=Q;cases e;let⟨p,S,c',U,d,V,E,v⟩:=YY (P:=P) (n:=n) (ty:=ty) h1 h3 h5 hm hk k1 k2;have A:u7 ρ w ρ p:=⟨d.os,d.tape,d.output,d.size,λb hb f=>⟨f,d.block b hb (by
     simp;rintro rfl;exact f ⟨id,_,D,rfl⟩)⟩⟩
    have o:=A.le s.lo;have m:=s.put u D rfl d (o':=.r9 ((k,a)::l)) ⟨g,rfl,S,c',V,E,λq=>by
     rw[v q];simp[u5];by_cases I:q=k
     .rw[O I,O I];exact Rd.ed h6 o (mz.refl _)
     rw[X I,X I];have J:=k3 q;cases m1:getM q a'.toList<;>cases R:u5 q l<;>rw[m1,R]at J
     .trivial
     .exact J
     .exact J
     exact Rd.ed J o (mz.refl _)⟩
    refine⟨p,U,ρ,⟨m.2,λ_ _ _ h=>h,λj Z m3 i=>⟨i,λgx B=>d.block gx (s.u0 j Z gx i B).2.1 ?_⟩,λ_ _ h=>h⟩,m.1,C.ed o (mz.refl _),trivial,aa⟩;simp;rintro rfl;have:=s.inj j id _ _ _ i D B rfl;subst this;rw[v6]at m3;cases m3
   cases h
  cases h
 cases h
def wz(hT:bG P G.shp T)(d:pe G ρ H w)(e:r7 (cx G ρ w) ρ fr F){y:Operand}(h:GQ T ro fr H t x y z=some r):
  ∃a,(jJ P n F w (.insert t x y z) ty a/\jJ P n F w (.mapUpdate t x y z) ty a)/\fY G ro ρ w r F undef a:=by
 unfold GQ at h;split at h
 next g c=>cases h;exact Kd hT d e c
 exact E_ hT d e h
theorem Yi(hT:bG P G.shp T)(hO:dN P G.shp m3)(D:pe G ρ H w)(B:r7 (cx G ρ w) ρ fr F){op:Op}(h:svB T m3 ro fr H op=some r)(I:∀p∈r.ob,p):fR P n F w op ty (fY G ro ρ w r F):=by
 cases op<;>simp[svB]at h;case box t x=>
  split at h
  .rename_i v hx;cases h;obtain⟨u,C,d⟩:=az B hx;obtain⟨us,L,v6⟩:=eh.cells d;exact .inl (.inl ⟨_,_,R.box C L,xw D B v6⟩)
  cases h
 case alloc t=>
  split at h
  .rename_i ti hti;cases h;obtain⟨⟨_,zs,hz,m1⟩,_⟩:=hT _ _ hti;exact .inl (.inl ⟨_,_,R.alloc hz,xw D B (lJ m1)⟩)
  cases h
 case store t x v=>
  split at h
  .rename_i a b ti hx hv hti;split at h
   .rename_i hsz;obtain⟨va,C,d⟩:=az B hx;obtain⟨vb,L,v6⟩:=az B hv;obtain⟨Q,h5,v2⟩:=AR (ty:=ty) hT D B hti hsz d v6 C L h I;exact .inr ⟨rfl,Q,h5,v2⟩
   cases h
  cases h
 case buildSlice t m z2=>
  split at h
  .rename_i e s sz z l Z hl;obtain⟨hu,hs⟩:=(hT _ _ Z).2;obtain⟨j,⟨zz,hz,m1⟩,_⟩:=hs s rfl;have hsize:(P.info? e).map (·.size)=some s.size:=by
    cases hq:P.info? e with
    |none=>simp[hq]at hz
    |some i=>simp[hq,E5,Option.some.injEq,Prod.mk.injEq]at hz⊢;exact hz.2.1
   split at h
   .rename_i xs q hel hfz;split at h
    .rename_i hck;simp only[r3]at hck;have hm:=ts hck.1.1;have hsm:=G8 hck.1.2;have hbm:=G8 hck.2;obtain⟨pv,C,d⟩:=lW B hl;obtain⟨ρ1,k1,k2,k3,k4,k5,k6,_,_⟩:=rk hfz D B;obtain⟨vss,L,v6,h5,v2⟩:=rX hel d λp V us hus=>k6 _ us (λi hi=>wy V hi) hus;have A:=R.buildSlice (P:=P) (n:=n) (F:=F) (w:=w) (ty:=ty) (m:=m) hu hsize (GL hz) C L v6 N hsm;have e0:z2.toList.toArray=z2:=by simp
     rw[e0]at A;have S:=Kp.alloc w (.cells vss.flatten.toArray e);cases m with
     |zero=>
      cases h;refine .inl (.inl ⟨_,_,A,ρ,u6.kp D S,D.kp S,B.kp S,Pd.em (a:=some ⟨w.heap.size,0,none⟩) rfl,aa⟩)
     |succ m=>
      cases h;have hfl:vss.flatten=(m+1)*s.size:=by rw[<-v2.length,cX,hm]
      obtain⟨ρ2,j1,j2,j3,j4⟩:=tT (ro:=ro) (sp:=[]) (cap:=m+1) k3 k4 S (by rw[A1];exact M5 w _) j (by rw[hm];exact hbm) v2 (by rw[A1];exact hfl) N (by
       have:=S8 (m+1) (jn s);simp[maxLen];omega)
      rw[hm]at j4;exact .inl (.inl ⟨_,_,A,ρ2,k1.trans j1,j2,j3,j4,aa⟩)
    cases h
   cases h
  cases h
 case makeSlice t a b=>
  split at h
  .rename_i e s sz z k k' Z hx hy;split at h
   .rename_i hs1;cases h;obtain⟨hu,hs⟩:=(hT _ _ Z).2;obtain⟨j,⟨zz,hz,m1⟩,_⟩:=hs s rfl;have hs1:=ts hs1;have g0:=I _ A9;have g1:=I _ (x9 _ A9);have g2:=I _ (x9 _ (x9 _ (v8 _)));subst g2;obtain⟨m,rfl⟩:=y6 g0;obtain⟨va,C,d⟩:=az B hx;obtain⟨vb,L,v6⟩:=az B hy;cases d with|int=>
    cases v6 with|int=>
    have hmb:m*s.bytes<=140737488355328:=by
     have e9:((m*s.bytes:Nat):Int)=(m:Int)*s.bytes:=by simp
     omega
    have hml:m<=maxLen:=by
     have:=S8 m (jn s);simp[maxLen];omega
    obtain⟨i,zv,hq,hzv,hzc,hsz,hby⟩:=tQ hz;obtain⟨Q,A,hown,hgr⟩:=run_make_full (P:=P) w w.heap.size t e i zv s.size hu hq hzv hsz .i64 .i64 m (by rw[hby,T6];omega) hml (tw _);have hmade:(madeCells zv.cells (m*s.size)).toList=replicate m (zz.headD undef):=by
     have hzl:=(lJ (c:=cx G ρ w) (ρ:=ρ) m1).length;rw[dV,hs1]at hzl;obtain⟨u,rfl⟩:∃u,zz=[u]:=by
      cases zz with
      |nil=>simp at hzl
      |cons u r=>
       cases r with
       |nil=>exact⟨u,rfl⟩
       |cons _ _=>simp at hzl
     rw[hzc,hs1];simp[madeCells,Nat.mod_one,List.map_const']
    rw[hmade]at hown;have S:=Kp.KQ hgr;rcases qY hown with⟨h0,_⟩|⟨g,cap,sp,hv,j1,j2,j3,j4⟩
    .cases h0
    injection hv with e1 e2 e3;cases e1;subst e3;have hrl:(replicate m (c4 s)).length=m:=J6;obtain⟨ρ2,q1,q2,q3,q4⟩:=tT (ro:=ro) (xs:=replicate m (c4 s)) D B S j1 j (by rw[hrl];exact hmb) (Om (lJ (ρ:=ρ) m1) hs1 m) j2 (by rw[hrl];exact j3) j4;rw[hrl]at q4;exact .inl (.inl ⟨_,Q,λa _ _ _ _ ha=>by simp[execOp,ha.ev C,ha.ev L,A],ρ2,q1,q2,q3,q4,aa⟩)
   cases h
  cases h
 case call cl=>
  split at h
  .rename_i K;split at h
   .rename_i x y t t' J U;split at h
    .rename_i a b htt hx hy;have htt:=ts htt;subst htt;obtain⟨va,C,d⟩:=az B hx;obtain⟨vb,L,v6⟩:=az B hy;obtain⟨v,Q,h5,v2⟩:=qT (P:=P) (n:=n) (ty:=ty) hT D B h I d v6 C L;have e:cl={callee:=.builtin .append,args:=#[x,y],argTypes:=#[t,t]}:=by
      cases cl;simp at K J U;subst K;simp;exact⟨J4 (by simpa using J),J4 (by simpa using U)⟩
     rw[e];exact .inl (.inl ⟨v,Q,h5,v2⟩)
    .rename_i a b htt hx hy;obtain⟨va,C,d⟩:=az B hx;obtain⟨vb,L,v6⟩:=az B hy;obtain⟨v,Q,h5,v2⟩:=xe (P:=P) (n:=n) (ty:=ty) hT D B h I d v6 C L;have e:cl={callee:=.builtin .append,args:=#[x,y],argTypes:=#[t,t']}:=by
      cases cl;simp at K J U;subst K;simp;exact⟨J4 (by simpa using J),J4 (by simpa using U)⟩
     rw[e];exact .inl (.inl ⟨v,Q,h5,v2⟩)
    cases h
   cases h
  .rename_i x K;split at h
   .rename_i f l hl;split at h
    .rename_i r' hce;cases h;obtain⟨x',xs,vs,bs,cap,C,d,L,v6,h5⟩:=mS B hl;obtain⟨⟨fn,v2,h7,h8⟩,A⟩:=Md hO D B h5 hce I;have e:cl={callee:=.value x',args:=xs.toArray,argTypes:=cl.argTypes}:=by
      cases cl;simp at C d;subst C;subst d;rfl
     rw[e];exact .inl (.inr ⟨_,_,E.SB L v6 v2 h7 h8,A⟩)
    unfold Qe at h;split at h
    .rename_i q hfz;split at h
     .rename_i f' l' hl';split at h
      .rename_i r' hcp;cases h;obtain⟨ρ',k1,k2,k3,k4,k5,_,_,_⟩:=jI hfz D B;obtain⟨x',xs,vs,bs,cap,C,d,L,v6,h5⟩:=mS k4 hl';obtain⟨⟨fn,v2,h7,h8⟩,A⟩:=xt hO k3 h5 hcp I;have e:cl={callee:=.value x',args:=xs.toArray,argTypes:=cl.argTypes}:=by
        cases cl;simp at C d;subst C;subst d;rfl
       rw[e];exact .inl (.inr ⟨_,_,E.SB L v6 v2 h7 h8,A.mono λv Q V=>⟨ρ',k1.trans (u6.kp k3 V.1),k3.kp V.1,k4.kp V.1,V.2.1,V.2.2⟩⟩)
      cases h
     cases h
    cases h
   cases h
  cases h
 case slice t x lo hi mx=>
  split at h
  .rename_i i hx;split at h
   .rename_i q hfz;split at h
    .rename_i r' hpv;cases h;obtain⟨ρ',k1,k2,k3,k4,k5,_,_,_⟩:=jI hfz D B;rcases zF (ty:=ty) hT hO k3 k4 hpv I with⟨v,Q,C,d⟩|⟨f,args,C,d⟩
     .exact .inl (.inl ⟨v,Q,C,ρ',k1.trans (u6.kp k3 d.1),k3.kp d.1,k4.kp d.1,d.2.1,d.2.2⟩)
     exact .inl (.inr ⟨f,args,C,d.mono λv Q V=>⟨ρ',k1.trans (u6.kp k3 V.1),k3.kp V.1,k4.kp V.1,V.2.1,V.2.2⟩⟩)
    cases h
   cases h
  cases h
 case makeMap t o=>
  cases o with
  |some o=>cases h
  |none=>
   simp only at h;split at h
   .rename_i s Z;cases h;have S:=Kp.alloc w (.map #[] 0);have hext:u7 ρ w (ρ++[.blk w.heap.size]) (w.alloc (.map #[] 0)):=u7.qs S λg hg=>by cases hg;exact tw _
    have hle:=hext.le D.lo;exact .inl (.inl ⟨_,_,R.uG,ρ++[.blk w.heap.size],u6.qs D S (λg hg=>by cases hg;exact tw _),D.qs S (λg hg=>by cases hg;exact⟨tw _,aa⟩) ⟨_,rfl,#[],0,(Go.MapKept.heap_alloc w _).1,aa,λ_=>trivial⟩,B.ed hle (iF _ _),⟨w.heap.size,by rw[D.obj.length];simp,rfl⟩,aa⟩)
   .rename_i Z;cases h;have S:=Kp.alloc w (.map #[] 0);have hext:u7 ρ w (ρ++[.blk w.heap.size]) (w.alloc (.map #[] 0)):=u7.qs S λg hg=>by cases hg;exact tw _
    have hle:=hext.le D.lo;exact .inl (.inl ⟨_,_,R.uG,ρ++[.blk w.heap.size],u6.qs D S (λg hg=>by cases hg;exact tw _),D.qs S (λg hg=>by cases hg;exact⟨tw _,aa⟩) ⟨_,rfl,#[],0,(Go.MapKept.heap_alloc w _).1,aa,λ_=>trivial⟩,B.ed hle (iF _ _),⟨w.heap.size,by rw[D.obj.length];simp,rfl⟩,aa⟩)
   cases h
 case insert t x y z=>
  obtain⟨Q,C,d⟩:=wz (n:=n) (ty:=ty) hT D B h;exact .inr ⟨rfl,Q,C.1,d⟩
 case mapUpdate t x y z=>
  obtain⟨Q,C,d⟩:=wz (n:=n) (ty:=ty) hT D B h;exact .inr ⟨rfl,Q,C.2,d⟩
 all_goals cases h
end
section
variable{P:Program}{T:List (Nat×TI)}{G:Gl}{m3:ic}{n:Nat}{F:Fr}{w:World}{x y:Operand}{ty t t':TypeId}{ρ:List RE}{H:AH}{fr:lg}{ro:Lv}
variable{va:Value}{r:SR}{e:TypeId}{a:AV}
def Jv(hT:bG P G.shp T)(C:pe G ρ H w)(y:r7 (cx G ρ w) ρ fr F){h:Int}{v6:Sh}{sz:Nat}{z:List AV}{m3:Operand}(Q:bt T t=some ⟨.sl e (some v6),sz,z⟩)(o:ac7 ro fr H a h=some r)(D:∀p∈r.ob,p)(ha:Rd (cx G ρ w) ρ a va)(hx:ev F x=some va)(hy:ev F m3=some (.int .i64 h)):
  ∃v w',aW P n F w (.slice t x none (some m3) none) ty v w'/\fY G ro ρ w r F v w':=by
 let⟨hu,hs⟩:=(hT _ _ Q).2;let⟨_,⟨zz,S,_⟩,_⟩:=hs _ rfl;have f:(P.info? e).map (·.size)=some v6.size:=by
  cases hq:P.info? e with
  |none=>simp[hq]at S
  |some q=>simp[hq]at S;simp[S.2.1]
 unfold ac7 at o;split at o
 .rename_i id;split at o
  .rename_i er s k I;split at o
   .rename_i A;cases o;simp at A;have o1:=D _ (.head _);have o2:=D _ (.tail _ (.head _));obtain⟨j,rfl⟩:=y6 o1;have U:j<=k:=by omega
    let⟨_,J,_⟩:=rJ C I;let⟨u,m⟩:=fu C I;have K:(k.take j)=j:=by rw[sh];omega
    have L:(k.take j)*s.bytes<=140737488355328:=zc (J3 _ N) m;rcases cS C I with⟨h0,h1⟩|⟨g,i,c,sp,V,h3,h4,h5,h6,h7⟩
    .rcases ha with⟨_,_,_,_,B,_⟩|⟨_,a0,rfl⟩
     .grind
     have v2:j=0:=by rw[h1]at U;simpa using U
     subst v2;have d:=R.rY (P:=P) (n:=n) (w:=w) (ty:=ty) (a':=a0) hx hy hu f aa (tw 0);let⟨m1,E,Z⟩:=mM (r':=.emp) (zs:=k.take 0) C I A (Kp.refl w) aa (by rintro g ⟨⟩) (λ_=>⟨u,L,.inl ⟨rfl,rfl⟩⟩);exact⟨_,w,d,_,m1,E,Z fr F y,.inr ⟨G5 J,a0,rfl⟩,aa⟩
    rcases ha with⟨_,_,_,_,B,rfl⟩|⟨B,_⟩
    .rw[V]at B;cases B;have e0:(if i=0 then(some (⟨g,0,none⟩:Addr))else(some (⟨g,0,none⟩:Addr)).map (·.add (0*v6.size)))=some ⟨g,0,none⟩:=by
      split
      .rfl
      simp[Addr.add]
     have d:=R.rY (P:=P) (n:=n) (w:=w) (ty:=ty) hx hy hu f e0 (show j<=i by omega);rw[R2,R2]at d;have hcl:c=k.length*s.size:=by rw[<-h4.length,cX]
     have hmul:j*s.size<=k*s.size:=J3 _ U;let⟨m1,E,Z⟩:=mM (r':=.row g i (k.take j) s.size) (zs:=k.take j) (e':=er) C I A (Kp.refl w) aa (λg' b=>by cases b;exact .inl ⟨_,V,rfl⟩) (λl=>⟨u,L,.inr ⟨g,i,c.take (j*s.size),c.drop (j*s.size)++sp,rfl,by rw[<-J9,E7];exact h3,(cz h4 j).ed l,by rw[<-J9,E7];exact h5,N,h7⟩⟩);refine⟨_,w,d,_,m1,E,Z fr F y,.inl ⟨g,i,(k.take j),s.size,G5 J,by rw[K]⟩,aa⟩
    rw[V]at B;cases B
   cases o
  cases o
 cases o
def R.ain{A B:Option Addr}{c f d g z:Nat}(o:ev F x=some (.slice A c f))(p:ev F y=some (.slice B d g))(q:P.underlying t=some (.slice e))(s:(P.info? e).map (·.size)=some z)(u:Nat.min d c=0):
  aW P n F w (.call {callee:=.builtin .copy,args:=#[x,y],argTypes:=#[t,t']}) ty (goInt 0) w:=λ_ _ _ _ _ k=>by
 cases m:P.info? e with
 |none=>simp[m]at s
 |some i=>
  have C:∀a:Addr,(loadCells a 0).run P w=.ok #[] w:=λa=>Y2 (P:=P) w a [] (λj v h=>by simp at h);have D:(Builtin.copy_ #[t,t'] ty #[.slice A c f,.slice B d g]).run P w=.ok (goInt 0) w:=by
   cases A<;>cases B<;>simp[Builtin.copy_,C0 q,Builtin.lenOf,Builtin.firstCells,sizeOf,typeInfo,m,u,C,storeCells]
  simp[execOp,resolve,invoke,builtin,k.ev o,k.ev p,D]
def Eb(hT:bG P G.shp T)(S:pe G ρ H w)(hf:r7 (cx G ρ w) ρ fr F){b:AV}{vb:Value}(K:OC T ro H t t' a b=some r)(ha:Rd (cx G ρ w) ρ a va)(hb:Rd (cx G ρ w) ρ b vb)(hx:ev F x=some va)(hy:ev F y=some vb):
  ∃v l,aW P n F w (.call {callee:=.builtin .copy,args:=#[x,y],argTypes:=#[t,t']}) ty v l/\fY G ro ρ w ⟨r.v,fr,r.H,r.ob,r.fc⟩ F v l:=by
 unfold OC at K;split at K
 .rename_i id e s sz z e' so sz' z' hft hft';obtain⟨hu,hs⟩:=(hT _ _ hft).2;obtain⟨_,⟨zz,hz,_⟩,_⟩:=hs _ rfl;have J:(P.info? e).map (·.size)=some s.size:=by
   cases hq:P.info? e with
   |none=>simp[hq]at hz
   |some q=>simp[hq]at hz;simp[hz.2.1]
  split at K
  .rename_i er p d o hH hys;split at K
   .rename_i hss;subst hss;split at K
    .rename_i m3;cases K;simp at m3;obtain⟨A,k,u,rfl,s1,s2,s3,s4⟩:=po S hys hb;obtain⟨hshp,L⟩:=fu S hH;have hI:W ((min o d:Nat):Int):=by
      have:=S8 d (jn p);constructor<;>omega
     have hHs:=cC hH aa;have same:min o.length d=0->o.take d.length++d.drop o.length=d:=λD=>by
      rcases Nat.le_total o.length d.length with hle|hle
      .have:o.length=0:=by rw[I2 hle]at D;exact D
       rw[this,V9,A6 this];simp
      have:d.length=0:=by rw[V8 hle]at D;exact D
      rw[A6 this];simp
     have U:∀(A':Option Addr) (m c:Nat),va=.slice A' m c->m=d.length->min o.length d.length=0->∃v l,aW P n F w (.call {callee:=.builtin .copy,args:=#[x,y],argTypes:=#[t,t']}) ty v l/\fY G ro ρ w ⟨one (.int (min o.length d.length:Nat)),fr,H.set id (.row er p (o.take d.length++d.drop o.length)),[],[]⟩ F v l:=λA' m c e1 e2 D=>by
      subst e1;subst e2;refine⟨_,w,R.ain hx hy hu J D,ρ,u6.refl _ _ _,?_,hf,?_,aa⟩
      .rw[same D];have:H.set id (.row er p d)=H:=by
        obtain⟨hi,he⟩:=sy.1 hHs;rw[<-he,X5]
       rw[this];exact S
      have e3:(min o.length d.length)=0:=D;rw[e3];exact Pd.int ⟨am,am⟩
     rcases cS S hH with⟨D,h1⟩|⟨g,cap,f,I,h2,h3,h4,h5,h6,h7⟩
     .rcases ha with⟨_,_,_,_,V,_⟩|⟨_,a0,rfl⟩
      .rw[D]at V;cases V
      exact U a0 0 0 rfl (by rw[h1];rfl) (by rw[h1];exact Nat.min_zero _)
     rcases ha with⟨_,_,_,_,V,rfl⟩|⟨V,_⟩
     .rw[h2]at V;cases V;by_cases D:min o.length d.length=0
      .exact U _ _ _ rfl rfl D
      have hy0:¬o.length=0:=λe=>D (by rw[e];exact Nat.zero_min _);obtain⟨ad,rfl,hsrc⟩:=s3.resolve_left hy0;have v6:f.length=d.length*p.size:=by rw[<-h4.length,cX]
      have hml:min o.length d.length<=o.length:=Nat.min_le_left _ _;have hmr:min o.length d.length<=d.length:=Nat.min_le_right _ _;have b1:min o.length d.length*p.size<=o.length*p.size:=J3 _ hml;have b2:min o.length d.length*p.size<=d.length*p.size:=J3 _ hmr;have E:(u.take (min o.length d.length*p.size)).length=min o.length d.length*p.size:=by rw[sh,s1];exact I2 b1
      have hrun:=R.BJ (P:=P) (n:=n) (w:=w) (ty:=ty) (t':=t') (cur:=f++I) (cs:=u.take (min o.length d.length*p.size)) hx hy hu J h3 E (hsrc.take _) (by rw[E,s8,v6];omega) (λv hv=>s2 v (X8 hv));refine⟨_,_,hrun,?_⟩;have B:=Kp.setRow w g ((f++I).take 0++u.take (min o.length d.length*p.size)++(f++I).drop (0+(u.take (min o.length d.length*p.size)).length)).toArray;have Q:=I3 w g _ ((f++I).take 0++u.take (min o.length d.length*p.size)++(f++I).drop (0+(u.take (min o.length d.length*p.size)).length)).toArray er _ h3;revert B Q;generalize hW:w.setRow g ((f++I).take 0++u.take (min o.length d.length*p.size)++(f++I).drop (0+(u.take (min o.length d.length*p.size)).length)).toArray=v2;intro B Q;have C:(f++I).take 0++u.take (min o.length d.length*p.size)++(f++I).drop (0+(u.take (min o.length d.length*p.size)).length)=(u.take (d.length*p.size)++f.drop (o.length*p.size))++I:=by
       rw[E,R1,Q9,A3,List.drop_append_of_le_length N,<-J9];congr 1;rcases Nat.le_total o.length d.length with hle|hle
       .have e1:min o.length d.length=o.length:=I2 hle;rw[e1,<-s1,O1,List.take_of_length_le (by rw[s1];exact J3 _ hle)]
       have e1:min o.length d.length=d.length:=V8 hle;rw[e1,<-v6,List.drop_length,M1 (by rw[v6];exact J3 _ hle)]
      rw[C]at Q;have hnew:r6 (cx G ρ w) ((o.take d.length++d.drop o.length).flatMap (cellsOf p)) (u.take (d.length*p.size)++f.drop (o.length*p.size)):=by
       rw[Q8];exact(cz s4 _).append (c_ h4 _)
      have Z:(o.take d.length++d.drop o.length).length=d.length:=by
       rw[s8,sh,length_drop];omega
      have hext:u7 ρ w ρ v2:=⟨B.os,B.tape,B.output,B.size,λb hb hl=>⟨hl,B.block b hb (by
       simp;rintro rfl;exact hl ⟨id,_,h2,rfl⟩)⟩⟩
      have hle:=hext.le S.lo;have m1:=S.put (o':=.row er p (o.take d.length++d.drop o.length)) hHs h2 rfl B ⟨hshp,by rw[Z];exact L,.inr ⟨g,cap,_,I,by rw[Z],Q,hnew.ed hle,by
       rw[<-C,<-h5];simp only[s8,sh,length_drop,A3,s1];have e9:min (min o.length d.length*p.size) (o.length*p.size)=min o.length d.length*p.size:=I2 b1;rw[e9,v6];have e8:min 0 (d.length*p.size+I.length)=0:=Nat.zero_min _;omega,by rw[Z];exact h6,h7⟩⟩
      refine⟨ρ,⟨m1.2,λ_ _ _ h=>h,λi r' hi j=>⟨j,λg' hg'=>B.block g' (S.u0 i r' g' j hg').2.1 ?_⟩,λ_ _ h=>h⟩,m1.1,hf.ed hle (mz.refl _),(show Pd _ (.int (min o.length d.length:Nat)) (.int .i64 _)from Pd.int hI),aa⟩;simp;rintro rfl;have:=S.inj i id _ _ g' j h2 hg' rfl;subst this;rw[m3.1]at hi;cases hi
     rw[h2]at V;cases V
    cases K
   cases K
  cases K
 cases K
variable{op:Op}
theorem Yb(hT:bG P G.shp T)(m:pe G ρ H w)(g:r7 (cx G ρ w) ρ fr F)(h:svX T ro fr H op=some r)(o:∀p∈r.ob,p):fR P n F w op ty (fY G ro ρ w r F):=by
 unfold svX at h;split at h
 .rename_i k;split at h
  .rename_i c;split at h
   .rename_i x y t t' d f;split at h
    .rename_i a b q s;split at h
     .rename_i J i;cases h;let⟨va,u,z⟩:=az g q;let⟨vb,A,B⟩:=az g s;let⟨v,C,D,I⟩:=Eb (P:=P) (n:=n) (ty:=ty) hT m g i z B u A;have e:k={callee:=.builtin .copy,args:=#[x,y],argTypes:=#[t,t']}:=by
       cases k;simp at c d f;subst c;simp;grind
      rw[e];exact .inl (.inl ⟨v,C,D,I⟩)
     cases h
    cases h
   cases h
  cases h
 cases h
def SP(hT:bG P G.shp T)(hO:dN P G.shp m3)(S:pe G ρ H w)(u:r7 (cx G ρ w) ρ fr F)(h:sv T m3 ro fr H op=some r)(g:∀p∈r.ob,p):fR P n F w op ty (fY G ro ρ w r F):=by
 unfold sv at h;split at h
 .rename_i r' d;cases h;unfold svC at d;split at d
  .rename_i t x hi;split at d
   .rename_i V E o;let⟨va,m1,R⟩:=az u V;let⟨vb,D,I⟩:=az u E;cases I with|int=>
    let⟨v,Z,j,l⟩:=Jv (P:=P) (n:=n) (ty:=ty) hT S u o d g R m1 D;exact .inl (.inl ⟨v,Z,j,l⟩)
   cases d
  .rename_i t b;split at d
   .rename_i e s sz z k o y;split at d
    .rename_i q;cases d;let⟨hu,hs⟩:=(hT _ _ o).2;let⟨A,⟨zz,hz,J⟩,_⟩:=hs s rfl;have q:=ts q;have g0:=g _ (.head _);have g1:=g _ (.tail _ (.head _));obtain⟨m,rfl⟩:=y6 g0;let⟨vb,D,I⟩:=az u y;cases I with|int=>
     have hmb:m*s.bytes<=140737488355328:=by grind
     have B:m<=maxLen:=by
      have:=S8 m (jn s);simp[maxLen];omega
     let⟨i,C,hq,K,hzc,L,v6⟩:=tQ hz;have Q:=(lJ (c:=cx G ρ w) (ρ:=ρ) J).length;rw[dV,q]at Q;have f:=run_make (P:=P) w t e i C hu hq K .i64 .i64 0 m N N (by
      rw[v6];have e9:(s.bytes*m:Nat)=(s.bytes:Int)*m:=by simp
      rw[<-e9,T6];omega) (by simp[maxLen]at B;omega)
     simp at f;have hk:=Kp.alloc w (.cells (madeCells C.cells (m*i.size)) e);let⟨ρ2,q1,q2,q3,q4⟩:=tT (ro:=ro) (xs:=([]:List (l7 s))) (cells:=[]) (sp:=(madeCells C.cells (m*i.size)).toList) (cap:=m) S u hk (by
      have:=M5 w (.cells (madeCells C.cells (m*i.size)) e);simpa using this) A aa .nil (by simp[madeCells,L]) (H4 _) B
     exact .inl (.inl ⟨_,_,λa _ _ _ _ U=>by simp[execOp,U.ev (show ev F (.const (.int .i64 0))=some (.int .i64 0)from rfl),U.ev D,f],ρ2,q1,q2,q3,q4,aa⟩)
    cases d
   cases d
  cases d
 grind[Yi,Yb]
end
def fo{q:Prop}(h:∀p∈[q],p):=h q (v8 q)
def ct{b:Bool}:(∀p∈same b,p)↔b=true:=by
 cases b with
 |true=>simp[same]
 |false=>exact⟨λh=>(fo h).elim,λh=>by cases h⟩
theorem Cb:∀{k n:Nat},(x4 k n)=n
 |_,0=>rfl
 |k,n+1=>by simp[x4,Cb]
theorem tX:∀{k n i:Nat},i<n->(x4 k n)[i]? =some (k+i)
 |k,n+1,0,_=>by simp[x4]
 |k,n+1,i+1,h=>by
  have:=tX (k:=k+1) (n:=n) (i:=i) N;rw[x4,List.getElem?_cons_succ,this,show k+1+i=k+(i+1) by omega]
variable{k i:Nat}
def Q_:i∈x4 k n↔k<=i/\i<k+n:=by
 induction n generalizing k with
 |zero=>simp[x4]
 |succ n a=>simp[x4,a];omega
def jX:∀{σ:List Nat} {j i:Nat},Mn σ j i=true↔σ[j]? =some i
 |[],j,i=>by simp[Mn]
 |k::r,0,i=>by simp[Mn]
 |k::r,j+1,i=>by simpa[Mn] using jX (σ:=r)
def DA{n:Nat}:∀{σ:List Nat} {j:Nat},KP n σ j=true↔∃k,σ[j]? =some k/\n<=k
 |[],j=>by simp[KP]
 |k::r,0=>by simp[KP]
 |k::r,j+1=>by simpa[KP] using DA (σ:=r)
def dU(ρ:List RE)(σ:List Nat):=σ.map λk=>ρ.getD k .emp
variable{r:RE}
def eC(h:σ[j]? =some i)(a:ρ[i]? =some r):(dU ρ σ)[j]? =some r:=by
 simp[dU,h,a]
def Ty(h:σ[j]? =some i)(a:ρ<=i):(dU ρ σ)[j]? =some .emp:=by
 simp[dU,h,M3 a]
def pn{g:Nat}(h:(dU ρ σ)[j]? =some r)(d:r.g?=some g):∃i,σ[j]? =some i/\ρ[i]? =some r:=by
 simp only[dU,X4,I0]at h;let⟨i,e,a⟩:=h;refine⟨i,e,?_⟩;rw[getD_eq_getElem?_getD]at a;cases c:ρ[i]? with
 |none=>rw[c]at a;simp at a;subst a;cases d
 |some f=>rw[c]at a;simp at a;rw[a]
def rB{b:Nat}(h:live (dU ρ σ) b):∃i r,i∈σ/\ρ[i]? =some r/\r.g?=some b:=by
 let⟨j,r,a,c⟩:=h;let⟨i,d,e⟩:=pn a c;grind
section
variable{G:Gl}{ρ:List RE}{H:AH}{w:World}{σ:List Nat}{n:Nat}
def yx:(cx G ρ w).le (cx G (dU ρ σ) w):=
 ⟨rfl,rfl,λ_ a=>⟨⟨a.1,λh=>by
  let⟨i,r,_,c,d⟩:=rB h;exact a.2.1 ⟨i,r,c,d⟩,a.2.2⟩,rfl⟩,λ_ _ _=>rfl⟩
def jm:∀{b a:List (Nat×Nat)} {c:List Value},sQ σ b a=true->hY (fw ρ) b c->hY (fw (dU ρ σ)) a c
 |[],[],_,_,h=>by cases h;exact .nil
 |(i,o)::b,(j,q)::a,_,h,k=>by
  simp only[sQ,r3]at h;cases k with|cons d e=>
  have f:=ts h.1.2;subst f;let⟨g,m,p⟩:=d;exact .cons ⟨g,eC (jX.1 h.1.1) m,p⟩ (jm h.2 e)
def TE(A:pe G ρ H w)(l:n=H){a b:AV}{v:Value}(h:Rd (cx G ρ w) ρ a v)(c:∀p∈Y5 H n σ a b,p):Rd (cx G (dU ρ σ) w) (dU ρ σ) b v:=by
 have S:=A.obj.length;by_cases T:b=.dead
 .subst T;exact h.one
 have f:(cx G ρ w).le (cx G (dU ρ σ) w):=yx;cases a<;>cases b<;>first|exact(T rfl).elim|(dsimp only[Y5]at c;try exact(fo c).elim)
 case int.int=>have c:=fo c;subst c;exact Pd.ed h f
 case u8.u8=>have c:=fo c;subst c;exact Pd.ed h f
 case u64.u64=>have c:=fo c;subst c;exact Pd.ed h f
 case bool.bool=>
  have h:=h;cases h;rw[fo c];exact Pd.bool
 case str.str=>have c:=fo c;subst c;exact Pd.ed h f
 case li.li=>
  have K:=c _ (A9 ..);have L:=c _ (x9 _ (v8 _));subst K;subst L;exact Pd.ed h f
 case fz.fz=>
  rename_i s I J v6;by_cases x:s=J
  .subst x;rw[dif_pos rfl]at c;have c:=fo c;subst c;exact Pd.ed h f
  rw[dif_neg x]at c;exact(fo c).elim
 case em.fz=>
  have c:=fo c;subst c;exact Pd.za (Pd.ed h f)
 case em.em=>
  have:=ct.1 c;simp at this;subst this;exact Pd.ed h f
 case em.own=>
  obtain⟨k,d,m⟩:=DA.1 (ct.1 c);have h:Pd (cx G ρ w) _ v:=h;cases h with|em _=>
  exact .inr ⟨Ty d N,_,rfl⟩
 case own.own=>
  have d:=jX.1 (ct.1 c);rcases h with⟨g,u,len,z,h,e⟩|⟨h,e⟩
  .exact .inl ⟨g,u,len,z,eC d h,e⟩
  exact .inr ⟨eC d h,e⟩
 case own.fz=>
  rename_i i s v6;split at c
  .rename_i t J I m3;by_cases x:J=s
   .subst x;rw[dif_pos rfl]at c;have d:=ct.1 λp B=>c p (D3 _ B);have m:I=v6:=c _ (E3 _ (v8 _));simp at d;subst m;have P:i∉σ:=λQ=>by rw[cu.2 Q]at d;cases d
    have V:(AV.own i).vw H=.fz J I:=by simp[AV.vw,m3]
    refine mF (pP A f rfl h (λg u len z ⟨id,c,C⟩=>?_) V);have U:=A.u0 _ _ g C rfl;refine⟨U.2.1,λE=>?_,U.2.2⟩;obtain⟨i',r',D,m1,R⟩:=rB E;have:=A.inj _ _ _ _ g C m1 rfl R;rcases c with c|⟨_,_,c⟩<;>cases c;subst this;exact P D
   rw[dif_neg x]at c;exact(fo c).elim
  exact(fo c).elim
 case sub.sub=>
  simp only[A7,v7,T1,or_false]at c;have d:=jX.1 (ct.1 λp B=>c p (.inl B));have m:=c _ (.inr (.inl rfl));have D:=c _ (.inr (.inr rfl));subst m;subst D;rcases h with⟨g,u,len,z,h,e⟩|⟨h,e⟩
  .exact .inl ⟨g,u,len,z,eC d h,e⟩
  exact .inr ⟨eC d h,e⟩
 case ptr.ptr=>
  have d:=ct.1 c;simp only[r3]at d;have y:=ts d.2;subst y;obtain⟨g,h,e⟩:=h;exact⟨g,eC (jX.1 d.1) h,e⟩
 case np.np=>exact h
 case y8.y8=>
  simp only[A7,v7,T1,or_false]at c;have d:=ct.1 λp B=>c p (.inl B);have m:=c _ (.inr rfl);simp only[r3]at d;have y:=ts d.2;subst y;subst m;obtain⟨g,u,len,z,h,e⟩:=h;exact⟨g,u,len,z,eC (jX.1 d.1) h,e⟩
 case fn.fn=>
  have d:=ct.1 c;simp only[r3]at d;have y:=ts d.1.1;subst y;obtain⟨Z,F,m,D,e⟩:=h;exact⟨Z,F,jm d.1.2 m,jm d.2 D,e⟩
 case nf.nf=>exact h
 case yl.yl=>rw[<-ts (ct.1 c)];exact h
 case np.xx k b=>
  unfold amq at c;split at c
  .rename_i q;have d:=ct.1 c;unfold ags at d;split at d
   .rename_i i Q;split at d
    .rename_i t cs m3;obtain⟨r,j,g,vs,rfl,_⟩:=A.at_ (cC m3 aa);have h:v=.pointer none:=h;exact⟨[_],.cons ⟨g,eC Q j,rfl⟩ .nil,rfl,.inl h⟩
    cases d
   cases d
  exact(fo c).elim
 case ptr.xx i o k b=>
  unfold amb at c;split at c
  .rename_i q;have d:=ct.1 c;simp only[r3]at d;obtain⟨g,m,e⟩:=h;have y:=ts d.2;subst y;exact⟨[v],.cons ⟨g,eC (jX.1 d.1) m,e⟩ .nil,rfl,.inr rfl⟩
  exact(fo c).elim
 case xx.xx k b k' b'=>
  obtain⟨F,d,m⟩:=h;unfold eqX at c;split at c
  .have:=c _ (v8 _);subst this;cases d;exact⟨[],.nil,m⟩
  .exact⟨F,jm (ct.1 c) d,m.le f⟩
  .split at c
   .rename_i x;subst x;have:=c _ (v8 _);subst this;cases d;exact⟨[],.nil,m.le f⟩
   exact(fo c).elim
  .have K:=c _ (A9 ..);have L:=c _ (x9 _ (v8 _));subst K;subst L;cases d;exact⟨[],.nil,m.le f⟩
  .have:=c _ (v8 _);subst this;cases d;exact⟨[],.nil,m⟩
  .exact⟨F,jm (ct.1 c) d,m.le f⟩
  .exact⟨F,jm (ct.1 c) d,m.le f⟩
  exact(fo c).elim
 case mq.mq=>
  obtain⟨g,h,e⟩:=h;exact⟨g,eC (jX.1 (ct.1 c)) h,e⟩
def zE(g:pe G ρ H w)(m:n=H):∀{c d:List AV} {o:List Value},hY (Rd (cx G ρ w) ρ) c o->(∀p∈NW H n σ c d,p)->hY (Rd (cx G (dU ρ σ) w) (dU ρ σ)) d o
 |[],[],_,h,_=>by cases h;exact .nil
 |[],_::_,_,_,h=>(fo h).elim
 |_::_,[],_,_,h=>(fo h).elim
 |a::c,b::d,_,h,e=>by
  cases h with|cons q s=>
  simp[NW]at e;exact .cons (TE g m q λp f=>e p (.inl f)) (zE g m s λp f=>e p (.inr f))
def GD(d:pe G ρ H w)(f:n=H){a b:oh}{v:Value}(h:eh (cx G ρ w) ρ a v)(c:∀p∈WV H n σ a b,p):eh (cx G (dU ρ σ) w) (dU ρ σ) b v:=by
 cases a<;>cases b<;>simp only[WV]at c
 .exact TE d f h c
 .simp_all
 .exact(fo c).elim
 let⟨g,e,h⟩:=h;exact⟨g,e,zE d f h c⟩
def qP(g:pe G ρ H w)(m:n=H):∀{c d:List oh} {o:List Value},hY (eh (cx G ρ w) ρ) c o->(∀p∈CR H n σ c d,p)->hY (eh (cx G (dU ρ σ) w) (dU ρ σ)) d o
 |[],[],_,h,_=>by cases h;exact .nil
 |[],_::_,_,_,h=>(fo h).elim
 |_::_,[],_,_,h=>(fo h).elim
 |a::c,b::d,_,h,e=>by
  cases h with|cons q s=>
  simp[CR]at e;exact .cons (GD g m q λp f=>e p (.inl f)) (qP g m s λp f=>e p (.inr f))
def aef(d:pe G ρ H w)(f:n=H){a b:TV}{v:Value}(h:Rt (cx G ρ w) ρ a v)(c:∀p∈Y7 H n σ a b,p):Rt (cx G (dU ρ σ) w) (dU ρ σ) b v:=by
 cases b with
 |un=>trivial
 |one b=>
  cases a<;>simp only[Y7]at c
  .exact GD d f h c
  .simp_all
  exact(fo c).elim
 |D8 b=>
  cases a<;>simp only[Y7]at c
  .exact(fo c).elim
  .let⟨g,e,h⟩:=h;exact⟨g,e,qP d f h c⟩
  exact(fo c).elim
def HA(f:pe G ρ H w)(g:n=H){fr:lg}{F:Fr}(m:r7 (cx G ρ w) ρ fr F):∀{a:lg},(∀p∈Yq H n σ fr a,p)->∃d,r7 (cx G (dU ρ σ) w) (dU ρ σ) a d/\ ∀i v,look d i=some v->look F i=some v
 |[],_=>⟨[],.nil,λi v h=>by cases h⟩
 |(i,b)::a,c=>by
  simp[Yq]at c;split at c
  next u o=>simp at c;let⟨v,z,q⟩:=fS m o;let⟨d,s,A⟩:=HA f g m λp e=>c p (.inr e);refine⟨(i,v)::d,.cons ⟨rfl,aef f g q λp e=>c p (.inl e)⟩ s,λj x y=>?_⟩;rw[b_]at y;grind
  simp_all
def CU{P:Program}{t:TypeId}{s:Sh}{T:List (Nat×TI)}(hT:bG P G.shp T):∀{r:List (Nat×TI)},zM T t s r=true->G.shp t=some s
 |(i,_)::r,h=>by
  simp[zM]at h;rcases h with h|h
  .split at h
   next e f _ _ a=>simp only[r3,u9]at h;have c:=ts h.1;let⟨_,d⟩:=h;subst c;subst d;exact((hT _ _ a).2.2 _ rfl).1
   cases h
  exact CU hT h
def Qs{P:Program}{T:List (Nat×TI)}(hT:bG P G.shp T)(D:pe G ρ H w)(U:n=H):∀{r:List Nat} {F:AH},(∀p∈R7 T H n σ r F,p)->hY (OR (cx G (dU ρ σ) w) (dU ρ σ)) F (r.map λk=>ρ.getD k .emp)
 |[],[],_=>.nil
 |[],_::_,h=>(fo h).elim
 |_::_,[],h=>(fo h).elim
 |k::r,b::F,h=>by
  simp[R7,A7]at h;refine .cons ?_ (Qs hT D U λp c=>h p (.inr c));replace h:=λp c=>h p (.inl c);have o:(cx G ρ w).le (cx G (dU ρ σ) w):=yx;cases I:blt k n<;>rw[I]at h
  ·-- a new row
   have x:n<=k:=by
    have:¬k<n:=λJ=>by have:=(blt_eq).mpr J;rw[I]at this;cases this
    omega
   dsimp only[cond_false]at h;have V:=D.obj.length;show OR _ _ _ (ρ.getD k .emp);rw[getD_eq_getElem?_getD,M3 N];cases b with
   |row t s y=>
    dsimp only[eqN]at h;have K:=ct.1 λp c=>h p (D3 _ c);have d:=h _ (E3 _ (v8 _));subst d;exact⟨CU hT K,aa,.inl ⟨rfl,rfl⟩⟩
   |gone=>exact(fo h).elim
   |s6 _ _=>exact(fo h).elim
   |r9 _=>exact(fo h).elim
   |loc=>exact(fo h).elim
   |A8 _ _ _ _=>exact(fo h).elim
   |box _ _=>exact(fo h).elim
  dsimp only[cond_true]at h;have x:k<H:=by have:=blt_eq.mp I;omega
  have m1:H[k]? =some (l9 H k):=by
   unfold l9;rw[getD_eq_getElem?_getD,r5 x];rfl
  let⟨l,K,d⟩:=D.at_ m1;show OR _ _ _ (ρ.getD k .emp);rw[getD_eq_getElem?_getD,K,O2];generalize l9 H k=a at h d;cases a<;>cases b<;>dsimp only[eqO]at h<;>try exact(fo h).elim
  case gone.gone=>exact d
  case s6.s6 s f z R=>
   by_cases q:s=z
   .subst q;rw[dif_pos rfl]at h;have A:=fo h;subst A;let⟨g,e,u⟩:=d;exact⟨g,e,u.ed o rfl⟩
   simp_all
  case A8.A8 t s m L E z m' y=>
   have v6:=ct.1 λp c=>h p (D3 _ c);simp only[r3]at v6;have u:=ts v6.1;have B:=ts v6.2;subst u;subst B;replace h:=λp c=>h p (E3 _ c);by_cases q:s=z
   .subst q;rw[dif_pos rfl]at h;have A:=fo h;subst A;let⟨g,m3,e,C,Q,Z⟩:=d;exact⟨g,m3,e,C,Q.ed o,Z⟩
   rw[dif_neg q]at h;exact(fo h).elim
  case box.box t cs E i=>
   have u:=ts (ct.1 λp c=>h p (D3 _ c));subst u;let⟨g,m3,e,B,C⟩:=d;exact⟨g,m3,e,B,zE D U C λp c=>h p (E3 _ c)⟩
  case row.row t s L E z y=>
   have u:=ts (ct.1 λp c=>h p (D3 _ c));subst u;replace h:=λp c=>h p (E3 _ c);by_cases q:s=z
   .subst q;rw[dif_pos rfl]at h;have A:=fo h;subst A;refine⟨d.1,d.2.1,d.2.2.imp id ?_⟩;rintro⟨g,S,v,j,e,B,C,Q⟩;exact⟨g,S,v,j,e,B,C.ed o,Q⟩
   rw[dif_neg q]at h;exact(fo h).elim
theorem ur{n:Nat}:∀{σ:List Nat},oN n σ=true->∀(i j k:Nat),σ[i]? =some k->σ[j]? =some k->k<n->i=j
 |x::r,a,i,j,k,d,c,e=>by
  simp only[oN,r3,H2]at a;have f:k=x->∀m:Nat,r[m]? =some k->False:=by
   rintro rfl m g;rcases a.1 with h|h
   .have:=G8 h;omega
   rw[cu.2 (C5 g)]at h;cases h
  cases i with
  |zero=>
   grind
  |succ i=>
   cases j with
   |zero=>simp at c;exact(f c.symm i (by simpa using d)).elim
   |succ j=>rw[ur a.2 i j k (by simpa using d) (by simpa using c) e]
variable{P:Program}{T:List (Nat×TI)}
def qa(hT:bG P G.shp T)(c:pe G ρ H w)(v:n=H)(x:oN n σ=true){m:AH}(h:∀p∈R7 T H n σ σ m,p):pe G (dU ρ σ) m w:=by
 have o:=c.obj.length;refine⟨Qs hT c v h,λi j r y g f d q s=>?_,λi r g f d=>?_,c.z,c.b0,c.tb.ed yx⟩
 .let⟨a,u,e⟩:=pn f q;let⟨b,A,B⟩:=pn d s;have:=c.inj a b r y g e B q s;subst this;exact ur x i j a u A (by have:=(sy.1 e).1;omega)
 let⟨a,u,e⟩:=pn f d;exact c.u0 a r g e d
variable{w0:World}{ρ0:List RE}
def p_(h:u7 ρ0 w0 ρ w):u7 ρ0 w0 (dU ρ σ) w:=
 ⟨h.os,h.tape,h.output,h.size,λb a c=>⟨λd=>by
  let⟨i,r,_,e,f⟩:=rB d;exact(h.z7 b a c).1 ⟨i,r,e,f⟩,(h.z7 b a c).2⟩⟩
variable{ro:Lv}
def OT(h:u6 ro ρ0 w0 ρ w)(a:∀i,i<ρ0.length->σ[i]? =some i):u6 ro ρ0 w0 (dU ρ σ) w:=
 ⟨p_ h.ext,λi r d c=>eC (a i (sy.1 c).1) (h.loc i r d c),λi r d c=>⟨eC (a i (sy.1 c).1) (h.L4 i r d c).1,(h.L4 i r d c).2⟩,
  λi g e=>eC (a i (sy.1 e).1) (h.bx i g e)⟩
def St(G:Gl)(ro:Lv)(ρ0:List RE)(w0:World)(fr:lg)(H:AH)(F:Fr)(w:World):=∃ρ,u6 ro ρ0 w0 ρ w/\pe G ρ H w/\r7 (cx G ρ w) ρ fr F
def Di{a:Nat}{fr:lg}{H:AH}{q:lg×AH}{i:Nat}(h:i<a):∀f (c:List (Nat×Nat)),(Zf a fr H q f c)[i]? =some i
 |0,c=>by
  show(x4 0 a++_)[i]? =_;have:=tX (k:=0) (n:=a) (i:=i) h;grind
 |f+1,c=>Di h f _
def iM(hT:bG P G.shp T){e:Nat}{fr:lg}{F:Fr}{q:lg×AH}(m:ρ0<=e)(h:St G ro ρ0 w0 fr H F w)(a:lu (EZ T e fr H q)):
  ∃d,St G ro ρ0 w0 q.1 q.2 d w/\∀i v,look d i=some v->look F i=some v:=by
 let⟨ρ,o,f,s⟩:=h;replace a:=gW.1 a;have g:=ct.1 λp c=>a p (D3 _ (D3 _ c));rw[r3]at g;let⟨d,u,x⟩:=HA (σ:=Zf e fr H q 3 []) f rfl s λp c=>a p (D3 _ (E3 _ c));have y:=qa hT f rfl g.2 λp c=>a p (E3 _ c);exact⟨d,⟨_,OT o λi z=>Di N 3 [],y,u⟩,x⟩
end
theorem nk{R:Prop}:∀{l:List Prop},zg l R↔(∀p∈l,p)/\R
 |[]=>by simp[zg]
 |p::l=>by simp only[zg,nk,List.forall_mem_cons,and_assoc]
theorem gh{R:Prop}:∀{l:List Prop},oq l R↔((∀p∈l,p)->R)
 |[]=>by simp[oq]
 |p::l=>by simp only[oq,gh,List.forall_mem_cons,and_imp]
section
variable{P:Program}{T:List (Nat×TI)}{G:Gl}{m3:ic}{Q:Exit->Act->World->Prop}{n:Nat}{ro:Lv}{l:List Oper}{ρ0:List RE}{w0:World}
variable{w:World}
def TS(x:pe G ρ H w){a:AV}{v:Value}(h:Rd (cx G ρ w) ρ a v){s:Sh}{f:List (l7 s)}(d:a.vw H=.fz s f):∃A m c,v=.slice A m c/\(A.isNone=true->f=[]):=by
 cases a<;>simp[AV.vw]at d<;>try cases d
 case fz=>
  cases h with
  |fz y B C D F=>
   grind
 case own id=>
  split at d
  .rename_i t p q u;cases d;rcases h with⟨g,e,len,z,h,rfl⟩|⟨h,A,rfl⟩
   .grind
   grind[cS]
  cases d
 case sub id o k=>
  split at d
  .rename_i t p q u;rcases h with⟨g,e,L,z,h,_,rfl⟩|⟨h,rfl,rfl,A,rfl⟩
   .grind
   grind
  cases d
variable{ty:TypeId}{F:Fr}{op:Op}
def YH(hT:bG P G.shp T)(K:pe G ρ H w){fr:lg}(I:r7 (cx G ρ w) ρ fr F){s:Sh}{C:List (l7 s)}{J:Bool}(h:abr T H fr op=some ⟨s,C,J⟩):∃b,aW P n F w op ty (.bool (adV J b).val) w/\(b=true->C=[]):=by
 unfold abr at h;split at h
 .rename_i j t x y l;have g:∀{a:AV} {e D sz z},bt T t=some ⟨.sl e D,sz,z⟩->ez fr x=some (.one (.c a))->ez fr y=some (.one (.c (.em true)))->a.vw H=.fz s C->∃A m c,ev F x=some (.slice A m c)/\ev F y=some (.slice none 0 0)/\P.underlying t=some (.slice e)/\(A.isNone=true->C=[]):=by
   intro a e D sz z d o p q;let⟨i,u,v⟩:=az I o;let⟨vb,B,f⟩:=az I p;obtain⟨A,m,c,rfl,L⟩:=TS K v q;have f:=f;cases f with
   |@em b k S=>
    cases k with
    |none=>exact⟨A,m,c,u,B,(hT _ _ d).2.1,L⟩
    |some _=>cases S
  split at h
  .rename_i e D sz z a d o p;split at h
   next U V q=>cases h;let⟨A,m,c,u,v,B,f⟩:=g d o p q;exact⟨A.isNone,R.TZ u v B,f⟩
   cases h
  .rename_i e D sz z a d o p;split at h
   next U V q=>cases h;let⟨A,m,c,u,v,B,f⟩:=g d o p q;exact⟨A.isNone,R.Uy u v B,f⟩
   cases h
  cases h
 cases h
def oQ{k:Int}{ok:Bool}{K:TV->Prop}:∀{l:List (Int×AV)},zP k ok K l->K (match u5 k l with
  |some a=>L_ ok a true
  |none=>L_ ok .nf false)
 |[],h=>h
 |(j,a)::r,h=>by
  simp[u5];by_cases c:k=j
  .rw[O c];exact h.1 c
  rw[X c];exact oQ (h.2 c)
def CD(hT:bG P G.shp T)(B:pe G ρ H w){fr:lg}(A:r7 (cx G ρ w) ρ fr F){m:MpR}(h:mapA T H fr op=some m):∃v,aW P n F w op ty v w/\Rt (cx G ρ w) ρ (match u5 m.k m.l with
  |some a=>L_ m.ok a true
  |none=>L_ m.ok .nf false) v:=by
 unfold mapA at h;split at h
 .rename_i t x y ok;split at h
  .rename_i id k p C D;split at h
   .rename_i l q;cases h;let⟨I,J,_,K⟩:=(hT _ _ p).2;let⟨Z,L,Q⟩:=az A C;let⟨vb,S,U⟩:=az A D;cases U with|int=>
    obtain⟨g,V,rfl⟩:=Q;let⟨b,d,s⟩:=B.at_ (cC q aa);rw[V]at d;cases d;let⟨i,e,a,c,r,E,j⟩:=s;cases e;have f:=R.tO (P:=P) (n:=n) (ty:=ty) ok L S I J (K rfl) r E;refine⟨_,f,?_⟩;have o:=j k;cases u:getM k a.toList<;>cases z:u5 k l<;>rw[u,z]at o
    .cases ok with
     |false=>exact(rfl:(_:Value)=_)
     |true=>exact⟨_,rfl,.cons rfl (.cons (Pd.bool (e:=.lit false)) .nil)⟩
    .exact o.elim
    .exact o.elim
    cases ok with
    |false=>exact o
    |true=>exact⟨_,rfl,.cons o (.cons (Pd.bool (e:=.lit true)) .nil)⟩
   cases h
  cases h
 cases h
def wj{l:List Oper}{fr:lg}{j:Nat}{w:Bool}:∀{a:List Oper} {c:List Nat},Ez l fr j w c a=true->∀o∈a,ko fr o.dst=true
 |[],_,_,o,ho=>by cases ho
 |x::r,c,h,o,ho=>by
  simp[Ez]at h;rcases v7.1 ho with rfl|ho
  .exact h.1.1
  exact wj h.2 o ho
def Gg{n j:Nat}{w:Bool}:∀{a:List Oper},nM n a=true->nM n (a.map (OQ j w))=true
 |[],h=>h
 |x::r,h=>by
  simp[nM]at h⊢;refine⟨?_,Gg h.2⟩;have e:(OQ j w x).dst=x.dst:=by unfold OQ;rw[Bool.cond_eq_ite];split<;>first|(split<;>rfl)
  grind
theorem rF(hT:bG P G.shp T)(hO:dN P G.shp m3){K:lg->AH->Prop}(hK:∀fr H F w,K fr H->St G ro ρ0 w0 fr H F w->WX Q n .normal F w):
  ∀(m:Nat) (ops:List Oper) (fr:lg) (H:AH) (F:Fr) (w:World),nM n ops=true->wpOps T m3 ro l K m ops fr H->St G ro ρ0 w0 fr H F w->WO P Q n l ops F w
 |0,_,_,_,_,_,_,h,_=>h.elim
 |_+1,[],fr,H,F,w,_,h,hs=>WO.nil (hK fr H F w h hs)
 |m+1,o::f,fr,H,F,w,hd,h,hs=>by
  have ih:=rF hT hO hK m;have hs0:=hs;obtain⟨ρ,hS,D,p⟩:=hs;have v6:=oU hd o aa;have S:nM n f=true:=by simp[nM,r3]at hd;exact hd.2
  obtain⟨dst,op,ty,pos,af,g⟩:=o;simp only[wpOps]at h;split at h
  ·-- no guard
   split at h
   ·-- an element of what nobody writes
    rename_i s xs i q;unfold atA at q;split at q
    .rename_i t x y;split at q
     .rename_i s1 xs1 b s2 hx hy hsl;split at q
      .rename_i i' hdc hix;cases q;have hss:=C6 hdc;subst hss;obtain⟨h0,h1,h2⟩:=h;obtain⟨va,h3,h4⟩:=az p hx;obtain⟨vb,h5,h6⟩:=az p hy;obtain⟨k,rfl⟩:=sw hix h6;obtain⟨e,hu,_,_,hsz,_⟩:=EB hT hsl;obtain⟨j,rfl⟩:=y6 h0;have hj:j<xs:=by omega
       have hxj:=r5 hj;obtain⟨A,kk,rfl,_,hfe,us,hus⟩:=MV (ρ:=ρ) h4 hxj;have h7:=gh.1 (h2 _ (by rw[G3];exact hxj)) hus.qZ;refine WO.y (φ:=λv L=>v=.pointer (some (A.add (j*s2.size)))/\L=w) (.inl ⟨_,_,R.lL h3 h5 hu hsz rfl hj,rfl,rfl⟩) v6 λv L ⟨e1,e2⟩=>?_;subst e1;subst e2;refine ih f _ H _ _ S h7 ⟨ρ,hS,D,?_⟩;cases dst with
       |some d=>exact .cons ⟨rfl,hfe⟩ p
       |none=>exact p
      cases q
     cases q
    cases q
   split at h
   ·-- a comparison to nil
    rename_i s xs ne hnl;obtain⟨b,U,hb⟩:=YH (n:=n) (ty:=ty) hT D p hnl;refine WO.y (φ:=λv L=>v=.bool (adV ne b).val/\L=w) (.inl ⟨_,_,U,rfl,rfl⟩) v6 λv L ⟨e1,e2⟩=>?_;subst e1;subst e2;refine ih f _ H _ _ S (h b hb) ⟨ρ,hS,D,?_⟩;cases dst with
    |some d=>exact .cons ⟨rfl,Pd.bool⟩ p
    |none=>exact p
   split at h
   ·-- a map of functions
    rename_i m0 hmp;obtain⟨v0,U,hv0⟩:=CD (n:=n) (ty:=ty) hT D p hmp;refine WO.y (φ:=λv L=>v=v0/\L=w) (.inl ⟨_,_,U,rfl,rfl⟩) v6 λv L ⟨e1,e2⟩=>?_;subst e1;subst e2;refine ih f _ H _ _ S (oQ h) ⟨ρ,hS,D,?_⟩;cases dst with
    |some d=>exact .cons ⟨rfl,hv0⟩ p
    |none=>exact p
   split at h
   ·-- a step that changes nothing
    rename_i r hpv;obtain⟨V,h⟩:=nk.1 h;refine WO.y (zF (ty:=ty) hT hO D p hpv V) v6 λv w1 ⟨C,hv1,v2⟩=>(ih f _ H _ _ S (gh.1 h v2) ⟨ρ,hS.trans (u6.kp D C),D.kp C,?_⟩);cases dst with
    |some d=>exact .cons ⟨rfl,hv1⟩ (p.kp C)
    |none=>exact p.kp C
   split at h
   .rename_i r hst hsv;obtain⟨V,h⟩:=nk.1 h;have key:∀v L,fY G ro ρ w r F v L->WO P Q n l f (mb dst v F) L:=by
     rintro v L ⟨ρ',k1,k2,k3,k4,k5⟩;refine ih f _ _ _ _ S (gh.1 h k5) ⟨ρ',hS.trans k1,k2,?_⟩;cases dst with
     |some d=>exact .cons ⟨rfl,k4⟩ k3
     |none=>exact k3
    rcases SP (ty:=ty) hT hO D p hsv V with hy|⟨e,L,hsk,haf⟩
    .exact WO.y hy v6 key
    cases dst with
    |some d=>simp[VN,e]at hst
    |none=>exact WO.s hsk (key _ _ haf)
   exact h.elim
  rename_i g0 j wt;split at h
  .rename_i r hgr;obtain⟨V,h⟩:=nk.1 h;have:=GJ (tl:=[]) (G:=G) (Q:=Q) (n:=n) (l:=l) (ρ:=ρ) (H:=H) (qy hT hO m) hgr (λ_ _ e=>by cases e) V hd D p λw1 C v2 hFd hfd hf1 hbd hdt=>by
    rw[A1];exact ih r.tail _ H _ _ hdt (gh.1 h v2) ⟨ρ,hS.trans (u6.kp D C),D.kp C,.cons ⟨rfl,Pd.bool⟩ hf1⟩
   rwa[A1]at this
  split at h
  ·-- a group,in two ways
   rename_i r B;obtain⟨hon,c⟩:=h;unfold alQ at B;split at B
   .rename_i t hj;split at B
    .rename_i e grp pk tail he hsp;split at B
     .rename_i z x y d hck hpk hpd;cases B;simp at hck;obtain⟨⟨m1,hpg⟩,I⟩:=hck;obtain⟨hops,hip⟩:=r_ hsp;replace hpg:=yB hpg;replace he:=gQ he;rw[hops]at hd;rw[hops];obtain⟨vt,E,hvr⟩:=fS p he;cases hvr with|bool=>
      obtain⟨hd1,Z⟩:=uc.1 hd;have hd3:nM n tail=true:=by simp[nM,r3]at Z;exact Z.2
      have hdd:=oU Z pk aa d hpd;rw[hpd]at I;have hFd:=jw p I d rfl;obtain⟨dst,op,ty,pos,af,pg⟩:=pk;simp only at hpk hpd hpg hon c;subst hpk;subst hpd;subst hpg;have hz:z=.tmp t:=by
       cases z<;>simp only[sf]at hip
       .rw[ts hip]
       all_goals cases hip
      subst hz;by_cases hew:e.val=wt
      .rw[hew]at E;refine WO.split (t:=t) hj E (λo ho d' hd' e=>?_) (ih _ _ H _ _ ?_ (hon ((BE.h_ e wt).2 hew)) ⟨ρ,hS,D,p⟩)
       .have:=jw p (wj m1 o ho) d' hd';rw[e,E]at this;cases this
       refine uc.2 ⟨Gg hd1,?_⟩;simp[nM,r3]at Z⊢;exact Z
      have J:e.val= !wt:=by revert hew;cases e.val<;>cases wt<;>simp
      have c:=c ((BE.h_ e _).2 J);split at c
      .rename_i v hv;refine nQ (us:=[]) p hj E J m1 hd1 aa ?_;obtain⟨u,hu,hr⟩:=az p hv;have k:=ih tail ((d,v)::fr) H ((d,u)::F) _ hd3 c ⟨ρ,hS,D,.cons ⟨rfl,hr⟩ p⟩;have hl:=E;cases wt with
       |true=>exact WO.v (R.NY hl J hu) hdd k
       |false=>exact WO.v (R.Pf hl J hu) hdd k
      exact c.elim
     cases B
    cases B
   cases B
  exact h.elim
def fH(n:Nat):Code->Bool
 |.seq a b=>fH n a&&fH n b
 |.cond _ a b=>fH n a&&fH n b
 |.block _ a=>fH n a
 |.loop a=>fH n a
 |.scope a=>fH n a
 |.region _ c _=>nM n c.toList
 |_=>true
def Co{c:Cx}{ρ:List RE}{fr:lg}{F:Fr}(h:r7 c ρ fr F):∀l:List Nat,∃a,r7 c ρ (eE fr l) a/\∀i v,look a i=some v->look F i=some v
 |[]=>⟨[],.nil,λi v h=>by cases h⟩
 |t::r=>by
  let⟨a,d,m⟩:=Co h r;unfold eE;split
  next v e=>let⟨u,o,f⟩:=fS h e;refine⟨(t,u)::a,.cons ⟨rfl,f⟩ d,λi x g=>?_⟩;rw[b_]at g;grind
  grind
def SX(P:Program)(T:List (Nat×TI))(G:Gl)(m3:ic)n(ro:Lv)(ρ0:List RE)(w0:World):=
 ∀(Q:Exit->Act->World->Prop) (c id:Nat) (L:List (Nat×LI)) (a:Array Oper) (K:Exit->lg->AH->Prop) (fr:lg) (H:AH) (F:Fr) (w:World),nM n a.toList=true->kE T m3 ro c L (.region id a true) K fr H->St G ro ρ0 w0 fr H F w->
  (∀fr H F w,K .normal fr H->St G ro ρ0 w0 fr H F w->WX Q n .normal F w)->WC P Q n (.region id a true) F w
def zX(hT:bG P G.shp T)(hO:dN P G.shp m3)(B:SX P T G m3 n ro ρ0 w0){k0:Nat}(C:ρ0<=k0){L:List (Nat×LI)}:
  ∀(c:Code) (Q:Exit->Act->World->Prop) (K:Exit->lg->AH->Prop) (fr:lg) (H:AH) (F:Fr) (w:World),fH n c=true->kE T m3 ro k0 L c K fr H->St G ro ρ0 w0 fr H F w->
   (∀e fr H F w,K e fr H->St G ro ρ0 w0 fr H F w->WX Q n e F w)->WC P Q n c F w:=by
 intro c;induction c<;>intro Q K fr H F w g h d hK
 case skip=>exact WC.skip (hK _ _ _ _ _ h d)
 case seq a b f p=>
  simp[fH,r3]at g;refine WC.seq (f _ _ fr H F w g.1 h d λe fr H F w h d=>?_);cases e with
  |normal=>exact WX.next (p _ _ fr H F w g.2 h d hK)
  |_=>exact hK _ fr H F w h d
 case cond c a b f p=>
  simp[fH,r3]at g;let⟨ρ,V,J,A⟩:=d;have d:St G ro ρ0 w0 fr H F w:=⟨ρ,V,J,A⟩;simp[kE]at h;split at h
  .rename_i D;let⟨v,q,u⟩:=az A (gQ D);cases u with|bool=>
   exact WC.Ob q (f _ _ fr H F w g.1 h d hK)
  .rename_i D;let⟨v,q,u⟩:=az A (gQ D);cases u with|bool=>
   exact WC.akl q (p _ _ fr H F w g.2 h d hK)
  .rename_i e _ _ D;let⟨v,q,u⟩:=az A (gQ D);cases u with|bool=>
   exact WC.cond q (λm1=>f _ _ fr H F w g.1 (h.1 ((BE.h_ e true).2 m1)) d hK) (λm1=>p _ _ fr H F w g.2 (h.2 ((BE.h_ e false).2 m1)) d hK)
  grind
 case block i a f=>
  refine WC.block (f _ _ fr H F w g h d λe fr H F w h d=>?_);cases e with
  |exit j=>
   simp only at h;intro x o;show(if j=i then Q .normal x w else Q (.exit j) x w);cases R:Nat.beq j i<;>rw[R]at h
   .have:j≠i:=by rintro rfl;simp at R
    rw[X this];exact hK _ fr H F w h d x o
   rw[O (ts R)];exact hK _ fr H F w h d x o
  |_=>exact hK _ fr H F w h d
 case loop a f=>
  simp[kE]at h;split at h
  .rename_i I hI;split at h
   .rename_i m l _;intro x o;refine wi (λE w m=>∃fr H F,afD (kE T m3 ro k0 L a) K l m fr H/\M n F E/\St G ro ρ0 w0 fr H F w) id m ⟨fr,H,F,h,o,d⟩ λm E w B=>?_;let⟨fr,H,F',hu,Z,y⟩:=B;cases m with
    |zero=>exact hu.elim
    |succ m=>
     let⟨k,V,J,A⟩:=y;let⟨S,r,U⟩:=Co A l;exact f _ _ _ _ S w g hu ⟨k,V,J,r⟩ (λe fr H F w h d=>by
      cases e with
      |normal=>exact λx o=>⟨m,⟨fr,H,F,h,o,d⟩,Nat.lt_succ_self m⟩
      |_=>exact hK _ fr H F w h d) E (Z.sub U)
   let⟨s0,q,u,t⟩:=h;let⟨hr0,t⟩:=LI.IB.1 t;intro x o;let⟨S,h7,h8⟩:=iM hT C d q;refine wi (λa w s=>I.J s/\I.rel s0 s/\∃F,M n F a/\St G ro ρ0 w0 (I.F s).1 (I.F s).2 F w) I.μ s0 ⟨u,hr0,S,o.sub h8,h7⟩ λs E w B=>?_;let⟨hJ,hrl,F',Z,y⟩:=B;exact f _ _ _ _ F' w g (LI.WA.1 (t s hJ) hrl) y (λe fr H F w h d=>by
    cases e with
    |normal=>
     let⟨s',h4,h5,h6⟩:=h;let⟨h9,h6⟩:=LI.IB.1 h6;let⟨S,h7,h8⟩:=iM hT C d h4;exact λx o=>⟨s',⟨h5,h9,S,o.sub h8,h7⟩,h6⟩
    |_=>exact hK _ fr H F w h d) E Z
  exact h.elim
 case exit i=>exact WC.exit (hK _ _ _ _ _ h d)
 case ret=>exact WC.ret (hK _ _ _ _ _ h d)
 case scope a f=>
  refine λx o=>Km (f (Exit.noGoto Q) _ fr H F w g h d (λe fr H F w h d=>?_) x o);cases e with
  |goto i=>exact h.elim
  |_=>exact hK _ fr H F w h d
 case label i=>exact WC.label (hK _ _ _ _ _ h d)
 case region i z b=>
  cases b with
  |true=>exact B Q k0 i L z K fr H F w g h d λfr H F w=>hK _ fr H F w
  |false=>
   have e:z=z.toList.toArray:=by simp
   rw[e];exact WC.region (rF hT hO (λfr H F w=>hK _ fr H F w) _ _ fr H F w g h d)
 all_goals exact h.elim
end
def acp(n:Nat)(a:List (Nat×Nat)):Nat->Nat->List Nat
 |_,0=>[]
 |k,m+1=>Hd n a k::acp n a (k+1) m
def nC:AO->Bool
 |.row _ _ _=>true
 |_=>false
def U0(a:AH)(c:List (Nat×Nat)):Nat->Nat->List Nat
 |_,0=>[]
 |k,m+1=>(bif nC (l9 a k)then Hd k c k else k)::U0 a c (k+1) m
def KN(e:AH)(a:Nat)(H:AH)(l g:List oh)(d:AH):Nat->List (Nat×Nat)->List Nat
 |0,c=>U0 e c 0 a++acp H c a (d-a)
 |f+1,c=>KN e a H l g d f (Hr l g++OF H (U0 e c 0 a++acp H c a (d-a)) d)
def aeH(T:List (Nat×TI))(d:AH)(e:Nat)(f:Func)(a:List oh)(c:AH)(fr:lg)(H:AH):List Prop:=
 match wY T fr H f.results.toList with
 |some l=>match KN d e H l a c 3 []with
  |σ=>same (oN H.length σ)++CR H H.length σ l a++R7 T H H.length σ σ c
 |none=>[False]
def D5(T:List (Nat×TI))(a:AH)c(d:Func)(e:List oh)(f:AH)(fr:lg)(H:AH):=lu (aeH T a c d e f fr H)
def wpB(b:Bool)(T:List (Nat×TI))(g:ic)(L:List (Nat×LI))(a:Func)(args:List oh)(H:AH)(d:List oh)(f:AH):=
 match a.body with
 |some c=>oq (Kf args) (kE T g (jR (bif b then H else 0)) H L c (λe fr K=>match e with
  |.ret=>D5 T (bif b then[]else H) H a d f fr K
  |.normal=>D5 T (bif b then[]else H) H a d f fr K
  |_=>False) (wM 0 args) H)
 |none=>False
def wpE:=wpB false
def wpN:=wpB true
section
variable{P:Program}{T:List (Nat×TI)}{G:Gl}{m3:ic}{n:Nat}{ρ:List RE}{H:AH}{w:World}{fr:lg}{F:Fr}
def qz{c:Cx}:∀{args:List oh} {a:List Value} {k:Nat},hY (eh c ρ) args a->r7 c ρ (wM k args) (xr k a)
 |[],_,_,h=>by cases h;exact .nil
 |_::_,_,_,h=>by cases h with|cons d e=>exact .cons ⟨rfl,d⟩ (qz e)
def Vr(c:Array Value):ResultVar->Sem Value
 |.tmp t=>pure (c.getD t undef)
 |.cell a t=>do loadVar t (<-asAddr (c.getD a undef))
def Ot{v u:Value}(h:aW P 0 [] w (.load t (.const v)) 0 u w):(do loadVar t (<-asAddr v)).run P w=.ok u w:=by
 replace h:=h ⟨#[],[]⟩ none "" #[] none ⟨rfl,rfl,λ_ _ h=>by cases h⟩;have e:(⟨#[],[]⟩:Act).eval (.const v)=v:=rfl;simp only[execOp,e,Instr.loadAt]at h;cases v;case pointer a=>
  cases a with
  |none=>simp[Instr.sureAddr]at h
  |some a=>
   simp only[Instr.sureAddr,asAddr,pure_bind]at h⊢;rw[T4]at h;cases c:(loadVar t a).run P w with
   |ok x d=>rw[c]at h;simp at h;rw[h.1,h.2]
   |halt x d=>rw[c]at h;simp at h
 all_goals simp[Instr.sureAddr]at h
def vP(hT:bG P G.shp T)(e:pe G ρ H w)(f:r7 (cx G ρ w) ρ fr F){a:Act}(g:M n F a):∀{I:List ResultVar} {l:List oh},wY T fr H I=some l->
  ∃d,hY (eh (cx G ρ w) ρ) l d/\(I.mapM (Vr a.tmps)).run P w=.ok d w
 |[],l,h=>by cases h;exact⟨[],.nil,rfl⟩
 |.tmp t::r,l,h=>by
  simp[wY]at h;split at h
  next J K o q=>cases h;let⟨d,s,y⟩:=vP hT e f g q;let⟨v,z,m⟩:=fS f o;refine⟨v::d,.cons m s,?_⟩;have A:=g.at_ z;simp[Vr,y,A]
  cases h
 |.cell p t::r,l,h=>by
  simp[wY]at h;split at h
  .rename_i b K o q;split at h
   .rename_i J Q c;cases h;let⟨d,s,y⟩:=vP hT e f g q;let⟨v,z,m⟩:=fS f o;obtain⟨u,B,C⟩:∃u,aW P 0 [] w (.load t (.const v)) 0 u w/\Rt (cx G ρ w) ρ (.one J) u:=by
     unfold aaE at c;split at c
     next D=>cases c;let⟨u,B,C,_⟩:=sH (P:=P) (F:=[]) (n:=0) (ty:=0) (x:=.const v) hT e m rfl D aa;grind
     let⟨u,B,C,_,_⟩:=Bq (P:=P) (F:=[]) (n:=0) (ty:=0) (x:=.const v) hT e m rfl c;grind
    have L:=Ot B;refine⟨u::d,.cons C s,?_⟩;have A:=(g.2.2 p v z).2;rw[List.mapM_cons,T4];simp[Vr,A,L];simp[y]
   cases h
  cases h
variable{fn:Func}
def mR(hT:bG P G.shp T)(f:pe G ρ H w)(g:r7 (cx G ρ w) ρ fr F){a:Act}(m:M n F a){l:List oh}(h:wY T fr H fn.results.toList=some l):
  ∃c,hY (eh (cx G ρ w) ρ) l c/\(results fn a.tmps).run P w=.ok (DK c) w:=by
 let⟨c,o,p⟩:=vP hT f g m h;refine⟨c,o,?_⟩;have e:results fn a.tmps=(do let d <-fn.results.mapM (Vr a.tmps);pure (if h:d.size=1 then d[0]else .tuple d)):=rfl;have q:fn.results=fn.results.toList.toArray:=by simp
 rw[e,q,List.mapM_toArray];simp only[T4,p,map_eq_pure_bind];cases c with
 |nil=>rfl
 |cons u c=>
  cases c with
  |nil=>rfl
  |cons s c=>rfl
def Al(h:i<k):ble k i=false:=by
 rw[<-not_eq_true,ble_eq];omega
def xE{m:Nat}(h:k<=m)i(a:(jR k).wr i=false\/(jR k).mv i=false):i<m:=by
 have:ble k i=false:=a.elim id id;rw[<-not_eq_true,ble_eq]at this;omega
def yL(P:Program)(shp:TypeId->Option Sh)(T:List (Nat×TI))(m3:ic):=∀(G:Gl) n (c:Lv) (a:List RE) (d:World),G.shp=shp->(∀i,c.wr i=false\/c.mv i=false->i<a)->SX P T G m3 n c a d
variable{f:Nat}{L:List (Nat×LI)}{rs args:List oh}{pre:List Prop}{shp:TypeId->Option Sh}
def r8.aeY(hT:bG P shp T)(E:dN P shp m3)(m1:yL P shp T m3)(s:P.funcs[f]? =some fn)(D:(fn.name== "runtime.NumGoroutine")=false)
  (p:(match fn.body with
   |some c=>fH fn.ntmps c&&ble args fn.ntmps
   |none=>false)=true) (h:P8 T m3 L fn args H rs):r8 P shp f args H ⟨pre,rs,none,false⟩:=by
 cases g:fn.body with
 |none=>rw[g]at p;cases p
 |some c=>
 rw[g]at p;simp only[r3]at p;refine⟨⟨fn,s,D,by rw[g];rfl⟩,?_⟩;intro G ρ w t u q m;subst u;simp[P8,g]at h;have h:=gh.1 h (Zp.qZ m);refine mT.enter s g rfl (by rw[<-m.length];exact p.2) rfl (zX hT E (m1 G _ _ ρ w rfl (xE (by rw[<-q.obj.length];exact tw _))) (k0:=H) (by rw[<-q.obj.length];exact tw _) c _ _ _ H _ w p.1 h ⟨ρ,u6.refl _ _ _,q,qz m⟩ ?_);intro e fr I F A hK J;let⟨K,o,y,R⟩:=J;have z:∀{l},wY T fr I fn.results.toList=some l->lu (CR I I (x4 0 H.length) l rs)->∀a,M fn.ntmps F a->a.defers=[]/\∃v,(results fn a.tmps).run P A=.ok v A/\ ∃x,Ending.returned v=.returned x/\∃B,x=DK B/\Kp [] w A/\hY (eh (cx G ρ A) ρ) rs B:=by
  intro l d Z a U;let⟨B,j,n⟩:=mR hT y R U d;refine⟨U.1,_,n,_,rfl,B,rfl,?_,?_⟩
  .refine⟨o.ext.os,o.ext.tape,o.ext.output,o.ext.size,λb g _=>?_⟩;by_cases d:live ρ b
   .let⟨i,r,C,v6⟩:=d;exact(o.L4 i r (Al (by rw[q.obj.length];exact(sy.1 C).1)) C).2 b v6
   exact(o.ext.z7 b g d).2
  have C:=qP y rfl j (gW.1 Z);have v6:dU K (x4 0 H.length)=ρ:=by
   refine List.ext_getElem? λi=>?_;by_cases Q:i<H.length
   .have V:i<ρ.length:=by rw[<-q.obj.length];exact Q
    rw[r5 V];exact eC (by have:=tX (k:=0) Q;rwa[A3]at this) (o.L4 i _ (Al Q) (r5 V)).1
   rw[M3 (by simp[dU,Cb];omega),M3 (by rw[<-q.obj.length];omega)]
  rwa[v6]at C
 cases e with
 |ret=>
  simp only at hK;split at hK
  next l d=>exact λa S=>z d hK a S
  grind
 |normal=>
  simp only at hK;split at hK
  next l d=>exact λa S=>z d hK a S
  exact hK.elim
 |_=>exact hK.elim
def Ny{c:AH}{ps:List (Nat×Nat)}:∀{m k i:Nat},i<m->nC (l9 c (k+i))=false->(U0 c ps k m)[i]? =some (k+i)
 |m+1,k,0,_,a=>by
  rw[M6]at a;simp[U0,a]
 |m+1,k,i+1,h,a=>by
  have:=Ny (ps:=ps) (m:=m) (k:=k+1) (i:=i) (Nat.lt_of_succ_lt_succ h) (by rw[show k+1+i=k+(i+1) by omega];exact a);rw[show k+(i+1)=k+1+i by omega,<-this];rfl
def qJ{a:AH}{c:Nat}{K:AH}{l rs:List oh}{e:AH}{i:Nat}(h:i<c)(d:nC (l9 a i)=false):∀f (ps:List (Nat×Nat)),(KN a c K l rs e f ps)[i]? =some i
 |0,ps=>by
  show(U0 a ps 0 c++_)[i]? =_;have:=Ny (ps:=ps) (k:=0) h (by rw[A3];exact d);grind
 |f+1,ps=>qJ h d f _
variable{b:Bool}
def aaJ(c:pe G ρ H w){g:Nat}(d:ρ[i]? =some (.blk g)):nC (l9 (bif b then[]else H) i)=false:=by
 cases b
 .show nC (l9 H i)=false;cases e:l9 H i with
  |row t s m=>
   let⟨r,a,h⟩:=c.at_ (cC e aa);rw[d]at a;cases a;obtain⟨_,_,h|⟨_,_,_,_,h,_⟩⟩:=h
   .grind
   cases h
  |_=>rfl
 show nC (l9 [] i)=false;simp[l9,nC]
def r8.NA{C:AH}(hT:bG P shp T)(k:dN P shp m3)(n:yL P shp T m3)(D:P.funcs[f]? =some fn)(U:(fn.name== "runtime.NumGoroutine")=false)
  (z:(match fn.body with
   |some c=>fH fn.ntmps c&&ble args fn.ntmps
   |none=>false)=true) (h:wpB b T m3 L fn args H rs C):r8 P shp f args H ⟨pre,rs,some C,b⟩:=by
 cases m:fn.body with
 |none=>rw[m]at z;cases z
 |some c=>
 rw[m]at z;simp only[r3]at z;refine⟨⟨fn,D,U,by rw[m];rfl⟩,?_⟩;intro G ρ w vs I A s;subst I;simp[wpB,m]at h;have h:=gh.1 h (Zp.qZ s);refine mT.enter D m rfl (by rw[<-s.length];exact z.2) rfl (zX hT k (n G _ _ ρ w rfl (xE (by cases b<;>simp[A.obj.length]))) (k0:=H) (by rw[<-A.obj.length];exact tw _) c _ _ _ H _ w z.1 h ⟨ρ,u6.refl _ _ _,A,qz s⟩ ?_);intro e fr K F B hK V;let⟨d,o,u,t⟩:=V;have J:D5 T (bif b then[]else H) H fn rs C fr K->∀a,M fn.ntmps F a->a.defers=[]/\∃v,(results fn a.tmps).run P B=.ok v B/\ ∃x,Ending.returned v=.returned x/\∃Q,x=DK Q/\
   ∃d,pe G d C B/\u7 ρ w d B/\(∀(i g:Nat),ρ[i]? =some (.blk g)->d[i]? =some (.blk g))/\hY (eh (cx G d B) d) rs Q/\(b=true->Kp [] w B/\ ∀(i:Nat) (q:RE),ρ[i]? =some q->d[i]? =some q):=by
  intro hE a Z;unfold D5 aeH at hE;split at hE
  .rename_i l S;let⟨Q,h1,h2⟩:=mR hT u t Z S;replace hE:=gW.1 hE;refine⟨Z.1,_,h2,_,rfl,Q,rfl,dU d (KN (bif b then[]else H) H K l rs C 3 []),?_,p_ o.ext,λi g E=>?_,?_,λm=>?_⟩
   .exact qa hT u rfl (ct.1 λp v6=>hE p (D3 _ (D3 _ v6))) λp v6=>hE p (E3 _ v6)
   .exact eC (qJ (by rw[A.obj.length];exact(sy.1 E).1) (aaJ A E) _ _) (o.bx i g E)
   .exact qP u rfl h1 λp v6=>hE p (D3 _ (E3 _ v6))
   subst m;have y:∀i (q:RE),ρ[i]? =some q->i<H.length:=λi q h=>by rw[A.obj.length];exact(sy.1 h).1
   refine⟨⟨o.ext.os,o.ext.tape,o.ext.output,o.ext.size,λb m _=>?_⟩,λi q m1=>?_⟩
   .by_cases S:live ρ b
    .let⟨i,r,j,h4⟩:=S;exact(o.L4 i r (Al (y i r j)) j).2 b h4
    exact(o.ext.z7 b m S).2
   exact eC (qJ (y i q m1) rfl _ _) (o.L4 i q (Al (y i q m1)) m1).1
  exact(show False from hE).elim
 cases e with
 |ret=>exact λa R=>J hK a R
 |normal=>exact λa R=>J hK a R
 |_=>exact hK.elim
end
section
variable{P:Program}{T:List (Nat×TI)}{G:Gl}{m3:ic}{n k:Nat}{l:List Oper}{ρ:List RE}{H:AH}{fr:lg}{F:Fr}{ds:List DV}{vs:Nat->Value}
end
theorem dC{a:List Nat}:∀{l:List Nat},u4 a l=true↔∀i∈l,i∉a
 |[]=>by simp[u4]
 |j::r=>by simp[u4,dC,<-not_eq_true,cu]
theorem jo{n:Nat}:∀{l:List Nat},pQ n l=true↔∀i∈l,i<n
 |[]=>by simp[pQ]
 |j::r=>by
  simp[pQ,jo]
theorem qH{σ:List Nat}:∀{H:AH} {k p:Nat},(u2 σ k H)[p]? =(H[p]?).map λo=>if k+p∈σ then o else .loc
 |[],_,_=>by simp[u2]
 |o::r,k,0=>by
  simp only[u2,List.getElem?_cons_zero,E5,M6];cases h:cZ k σ with
  |true=>rw[O (cu.1 h)];rfl
  |false=>rw[X λa=>by rw[cu.2 a]at h;cases h];rfl
 |o::r,k,p+1=>by
  simp[u2,qH];grind
theorem sj{σ:List Nat}:∀{H:AH} {k:Nat},(u2 σ k H)=H.length
 |[],_=>rfl
 |_::r,k=>by simp[u2,sj (H:=r)]
def RC.obj(r:RC)p(o:AO):=if p∈r.ch then(match r.F8 with
 |some e=>e.put o
 |none=>l9 r.w9 p)else sr r.mv o
theorem xS{r:RC}:∀{H:AH} {k p:Nat},(mQ r.ch r.mv r.F8 r.w9 k H)[p]? =(H[p]?).map (r.obj (k+p))
 |[],_,_=>by simp[mQ]
 |o::l,k,0=>by
  simp only[mQ,List.getElem?_cons_zero,E5,M6,RC.obj];cases h:cZ k r.ch with
  |true=>rw[O (cu.1 h)];cases r.F8<;>rfl
  |false=>rw[X λa=>by rw[cu.2 a]at h;cases h];rfl
 |o::l,k,p+1=>by
  simp[mQ,xS];grind
theorem jH{c d:List Nat}{e:Option C7}{a:AH}:∀{H:AH} {k:Nat},(mQ c d e a k H)=H.length
 |[],_=>rfl
 |_::r,k=>by simp[mQ,jH (H:=r)]
def u3(a:List Nat)(v:TV):=match a with
 |[]=>v
 |_::_=>v.mapA (AV.di a)
def vR{g:AV->AV}{t:Nat}:∀{fr:lg},l6 (kS g fr) t=(l6 fr t).map (TV.mapA g)
 |[]=>rfl
 |(i,v)::r=>by
  simp[kS,l6];cases Nat.beq i t
  .exact vR
  rfl
variable{t:Nat}{mv:List Nat}
theorem Fo{fr:lg}:l6 (Qw mv fr) t=(l6 fr t).map (u3 mv):=by
 cases mv with
 |nil=>cases h:l6 fr t<;>simp[Qw,u3,h]
 |cons a r=>exact vR
variable{d:Option Nat}
theorem JY{v:TV}{fr:lg}:l6 (td d v fr) t=if d=some t then some v else l6 fr t:=by
 cases d with
 |none=>simp[td]
 |some d=>simp[td,eI]
structure RC.Fit(r:RC):Prop where
 base:r.base=r.H0.length
 le:r.base<=r.w9.length
variable{r:RC}
theorem ej{q:lg×AH}(h:r.Fit)(a:q.2=r.base):(r.qs q).2=r.w9.length:=by
 have:=h.le;simp[RC.qs,jH];omega
def i_{q:lg×AH}(h:r.Fit)(c:q.2=r.base){p:Nat}:(r.qs q).2[p]? =if p<r.base then(q.2[p]?).map (r.obj p)else r.w9[p]?:=by
 simp[RC.qs];by_cases a:p<r.base
 .rw[O a,E0 (by rw[jH];omega),xS,A3]
 rw[X a,Q4 (by rw[jH];omega),jH,D1];congr 1;omega
def jv{q:lg×AH}:l6 (r.qs q).1 t=if r.dst=some t then some r.v else(l6 q.1 t).map (u3 r.mv):=by
 simp[RC.qs,JY,Fo]
def RC.Jj(r:RC)(q:lg×AH):=(q.1,q.2++replicate (r.w9-r.base) .gone)
theorem jh{q:lg×AH}(h:r.Fit)(a:q.2=r.base):(r.Jj q).2=r.w9.length:=by
 have:=h.le;simp[RC.Jj];omega
theorem jM{q:lg×AH}(h:r.Fit)(a:q.2=r.base){p:Nat}:(r.Jj q).2[p]? =if p<r.base then q.2[p]? else if p<r.w9 then some .gone else none:=by
 simp[RC.Jj];grind
def kD(s:Nat->Bool):Nat->List RC->lg×AH->lg×AH
 |_,[],q=>q
 |i,r::a,q=>kD s (i+1) a (bif s i then r.qs q else r.Jj q)
def C9:List RC->lg×AH->lg×AH
 |[],q=>q
 |r::a,q=>C9 a (r.qs q)
def hU:lg×AH->List RC->Prop
 |_,[]=>True
 |q,r::a=>r.z6=q.1/\r.H0=q.2/\r.Fit/\hU (r.qs q) a
theorem Gt{s:Nat->Bool}:∀{a b:List RC} {k:Nat} {q:lg×AH},kD s k (a++b) q=kD s (k+a) b (kD s k a q)
 |[],_,_,_=>by simp[kD]
 |r::a,b,k,q=>by
  simp[kD,Gt (a:=a)];congr 1;omega
def rN{s c:Nat->Bool}:∀{a:List RC} {k:Nat} {q:lg×AH},(∀i,k<=i->i<k+a->s i=c i)->kD s k a q=kD c k a q
 |[],_,_,_=>rfl
 |r::a,k,q,h=>by
  simp[kD];rw[h k (tw _) aa];exact rN λi f e=>h i N (by simp at e⊢;omega)
def yw{s:Nat->Bool}:∀{a:List RC} {k:Nat} {q p:lg×AH},hU p a->q.2=p.2.length->(kD s k a q).2=(C9 a p).2.length
 |[],_,_,_,_,h=>h
 |r::a,k,q,p,c,h=>by
  let⟨_,e,f,g⟩:=c;have m:=f.base;rw[e]at m;simp[kD];refine yw g ?_;cases s k
  .grind[jh,ej]
  grind[ej]
def FJ:∀{a:List RC} {p:lg×AH},hU p a->p.2<=(C9 a p).2.length
 |[],_,_=>tw _
 |r::a,p,f=>by
  let⟨_,g,c,h⟩:=f;have e:=c.base;rw[g]at e;have:=FJ h;rw[ej c e.symm]at this;have:=c.le;simp[C9];omega
theorem hU.PJ:∀{a b:List RC} {p:lg×AH},hU p (a++b)↔hU p a/\hU (C9 a p) b
 |[],b,p=>by simp[hU,C9]
 |r::a,b,p=>by simp[hU,C9,hU.PJ (a:=a),and_assoc]
theorem zm:∀{a b:List RC} {p:lg×AH},C9 (a++b) p=C9 b (C9 a p)
 |[],_,_=>rfl
 |r::a,b,p=>by simp[C9,zm (a:=a)]
def iK{a:AV}(h:∀i∈a.x6,i∉mv):a.di mv=a:=by
 have c:∀j,j∉mv->cZ j mv=false:=λj e=>by rw[<-not_eq_true,cu];exact e
 cases a with
 |own j=>simp[AV.di,c j (h j (by simp[AV.x6]))]
 |sub j _ _=>simp[AV.di,c j (h j (by simp[AV.x6]))]
 |y8 j _ _=>simp[AV.di,c j (h j (by simp[AV.x6]))]
 |_=>rfl
def ld{i:Nat}:∀{l:List AV} {a:AV},a∈l->i∈a.x6->i∈vY l
 |b::r,a,h,c=>by
  simp[vY];rcases v7.1 h with rfl|h
  .grind
  exact .inr (ld h c)
theorem ue{g:AV->AV}:∀{l:List AV},(∀a∈l,g a=a)->uY g l=l
 |[],_=>rfl
 |a::r,h=>by simp only[uY];rw[h a aa,ue λb c=>h b (by simp[c])]
def uz{g:AV->AV}{t:oh}(h:∀a∈t.cells,g a=a):t.mapA g=t:=by
 cases t with
 |c a=>simp[oh.mapA];rw[h a (by simp[oh.cells])]
 |agg l=>exact o9 oh.agg (ue h)
def xV{i:Nat}:∀{l:List oh} {t:oh} {a:AV},t∈l->a∈t.cells->i∈a.x6->i∈Hz l
 |b::r,t,a,h,c,e=>by
  simp[Hz];rcases v7.1 h with rfl|h
  .exact .inl (ld c e)
  exact .inr (xV h c e)
theorem yP{g:AV->AV}:∀{l:List oh},(∀t∈l,∀a∈t.cells,g a=a)->z_ g l=l
 |[],_=>rfl
 |a::r,h=>by simp only[z_];rw[uz (h a aa),yP λb c=>h b (by simp[c])]
theorem rH{v:TV}(h:u4 mv v.x6=true):u3 mv v=v:=by
 have h:=dC.1 h;cases mv with
 |nil=>rfl
 |cons m r=>
  cases v with
  |one t=>exact o9 TV.one (uz λa c=>iK λi e=>h i (ld c e))
  |D8 l=>exact o9 TV.D8 (yP λt f a c=>iK λi e=>h i (xV f c e))
  |un=>rfl
variable{o:AO}
theorem qf(h:u4 mv o.x6=true):sr mv o=o:=by
 have h:=dC.1 h;cases mv with
 |nil=>rfl
 |cons m r=>
  cases o with
  |box t p=>exact o9 (AO.box t) (ue λa f=>iK λi c=>h i (ld f c))
  |r9 l=>
   show AO.r9 (mapM _ l)=_;rw[tJ];congr 1;refine(X9 λq g=>?_).trans (map_id _);have e:=iK (mv:=m::r) (a:=q.2) λi c=>h i (ld (V5 g) c);grind
  |_=>rfl
variable{b a:List Nat}
def vx{x:AV}:(x.di a).di b=(x.di b).di a:=by
 cases x with
 |own j=>cases c:cZ j a<;>cases e:cZ j b<;>simp[AV.di,c,e]
 |sub j _ _=>cases c:cZ j a<;>cases e:cZ j b<;>simp[AV.di,c,e]
 |y8 j _ _=>cases c:cZ j a<;>cases e:cZ j b<;>simp[AV.di,c,e]
 |_=>rfl
theorem ra{g h:AV->AV}:∀{l:List AV},uY g (uY h l)=uY (λa=>g (h a)) l
 |[]=>rfl
 |a::r=>by simp[uY,ra (l:=r)]
variable{h:AV->AV}
theorem uQ{g:AV->AV}{t:oh}:(t.mapA h).mapA g=t.mapA λa=>g (h a):=by
 cases t with
 |c a=>rfl
 |agg l=>simp[oh.mapA,ra]
theorem xq{g h:AV->AV}:∀{l:List oh},z_ g (z_ h l)=z_ (λa=>g (h a)) l
 |[]=>rfl
 |a::r=>by simp[z_,uQ,xq (l:=r)]
theorem CJ{v:TV}:u3 b (u3 a v)=u3 a (u3 b v):=by
 cases a with
 |nil=>rfl
 |cons x r=>
  cases b with
  |nil=>rfl
  |cons y q=>
   have e:(λz:AV=>(z.di (x::r)).di (y::q))=λz=>(z.di (y::q)).di (x::r):=funext λz=>vx;cases v with
   |one t=>simp[u3,TV.mapA,uQ,e]
   |D8 l=>simp[u3,TV.mapA,xq,e]
   |un=>rfl
theorem JZ{g:AV->AV}:mapM g (mapM h l)=mapM (λa=>g (h a)) l:=by
 induction l with
 |nil=>rfl
 |cons q r c=>let⟨k,a⟩:=q;simp[mapM,c]
def Fj:sr b (sr a o)=sr a (sr b o):=by
 cases a with
 |nil=>rfl
 |cons x r=>
  cases b with
  |nil=>rfl
  |cons y q=>
   have e:(λz:AV=>(z.di (x::r)).di (y::q))=λz=>(z.di (y::q)).di (x::r):=funext λz=>vx;cases o with
   |box t c=>simp[sr,AO.mapA,ra,e]
   |r9 l=>simp[sr,AO.mapA,JZ,e]
   |_=>rfl
def vV:sr a .gone=.gone:=by cases a<;>rfl
inductive D9:AO->AO->Prop
 |rfl {o:AO}:D9 o o
 |map {l l':List (Int×AV)}:(∀k,u5 k l=u5 k l')->D9 (.r9 l) (.r9 l')
variable{o':AO}
def D9.or{c:Cx}{r:RE}(h:D9 o o')(k:OR c ρ o r):OR c ρ o' r:=by
 cases h with
 |rfl=>exact k
 |map f=>
  let⟨g,e,a,n,m,p,q⟩:=k;exact⟨g,e,a,n,m,p,λk=>by rw[<-f];exact q k⟩
def D9.trans{a b c:AO}(h:D9 a b)(k:D9 b c):D9 a c:=by
 cases h with
 |rfl=>exact k
 |map h=>
  cases k with
  |rfl=>exact .map h
  |map k=>exact .map λx=>(h x).trans (k x)
def D9.symm{a b:AO}(h:D9 a b):D9 b a:=by
 cases h with
 |rfl=>exact .rfl
 |map h=>exact .map λx=>(h x).symm
theorem rM{g:AV->AV}{k:Int}:∀{l:List (Int×AV)},u5 k (mapM g l)=(u5 k l).map g
 |[]=>rfl
 |(j,a)::r=>by
  simp[mapM,u5];by_cases h:k=j
  .grind
  simp_all[rM]
theorem D9.kill(h:D9 o o'):D9 (sr mv o) (sr mv o'):=by
 cases h with
 |rfl=>exact .rfl
 |map h=>
  cases mv with
  |nil=>exact .map h
  |cons a r=>exact .map λk=>by rw[rM,rM,h]
theorem D9.put{e:C7}{o o':AO}(h:D9 o o'):D9 (e.put o) (e.put o'):=by
 cases h with
 |rfl=>exact .rfl
 |map h=>
  cases e with
  |fn k a=>exact .map λj=>by simp[u5,h]
  |da s k x=>exact .map h
def PW{j k:Int}{b:AV}{s:Sh}{x:l7 s}:(C7.fn j b).put ((C7.da s k x).put o)=(C7.da s k x).put ((C7.fn j b).put o):=by
 cases o with
 |s6 c g=>
  by_cases h:c=s
  .subst h;simp[C7.put]
  simp[C7.put,dif_neg h]
 |_=>rfl
variable{e:C7}
def put_comm{f:C7}(h:e.key≠f.key):D9 (f.put (e.put o)) (e.put (f.put o)):=by
 cases e with
 |fn k a=>
  cases f with
  |fn j b=>
   cases o with
   |r9 l=>
    refine .map λi=>?_;simp[u5];have h:k≠j:=h;grind
   |_=>exact .rfl
  |da s j x=>rw[PW];exact .rfl
 |da s k x=>
  cases f with
  |fn j b=>rw[PW];exact .rfl
  |da q j y=>
   cases o with
   |s6 p g=>
    by_cases m:p=s
    .by_cases c:p=q
     .subst m;subst c;simp[C7.put];have u:(λi=>if i=j then some y else if i=k then some x else g i)=λi=>if i=k then some x else if i=j then some y else g i:=by
       have h:k≠j:=h;grind
      rw[u];exact .rfl
     subst m;simp[C7.put,dif_neg c];exact .rfl
    by_cases c:p=q
    .subst c;simp[C7.put,dif_neg m];exact .rfl
    simp[C7.put,dif_neg m,dif_neg c];exact .rfl
   |_=>exact .rfl
def Dp(h:∀k a,e=.fn k a->u4 mv a.x6=true):sr mv (e.put o)=e.put (sr mv o):=by
 cases mv with
 |nil=>rfl
 |cons m r=>
  cases e with
  |fn k a=>
   cases o with
   |r9 l=>
    have:=iK (mv:=m::r) (a:=a) (dC.1 (h k a rfl));simp[sr,C7.put,AO.mapA,mapM,this]
   |_=>rfl
  |da s k x=>
   cases o with
   |s6 c g=>
    by_cases h:c=s
    .subst h;simp[C7.put,sr,AO.mapA]
    simp[C7.put,dif_neg h,sr,AO.mapA]
   |_=>rfl
def kd:AO->Option (Option Sh)
 |.r9 _=>some none
 |.s6 s _=>some (some s)
 |_=>none
theorem Fy:kd (e.put o)=kd o:=by
 cases e with
 |fn k a=>cases o<;>rfl
 |da s k x=>
  cases o with
  |s6 c g=>
   simp[C7.put];split
   next h=>subst h;rfl
   rfl
  |_=>rfl
def tP:kd (sr mv o)=kd o:=by cases mv<;>cases o<;>rfl
def AQ{mv:List Nat}:∀{H:AH} {k p:Nat} {o:AO},H[p]? =some o->k+p∉La mv k H->u4 mv o.x6=true
 |x::r,k,0,o,h,c=>by
  simp[La]at c;grind
 |x::r,k,p+1,o,h,c=>by
  refine AQ (H:=r) (k:=k+1) (p:=p) (by simpa using h) λf=>c ?_;simp[La];grind
def CZ{mv:List Nat}:∀{fr:lg} {t:Nat} {v:TV},l6 fr t=some v->t∉Sb mv fr->u4 mv v.x6=true
 |(i,x)::r,t,v,h,c=>by
  rw[eI]at h;simp[Sb]at c;by_cases f:i=t
  .grind
  rw[X f]at h;refine CZ h λg=>c ?_;grind
theorem qO{fr:lg}{i t:Nat}{v:TV}(c:l6 fr t=some v)(f:i∈v.x6):∀{U:List Nat},t∈U->i∈pL fr U
 |u::r,h=>by
  simp[pL];rcases v7.1 h with rfl|h
  .grind
  exact .inr (qO c f h)
def sK{fr:lg}{i t:Nat}{v:TV}(c:l6 fr t=some v)(f:i∈v.ids):∀{U:List Nat},t∈U->i∈y5 fr U
 |u::r,h=>by
  simp[y5];rcases v7.1 h with rfl|h
  .grind
  exact .inr (sK c f h)
theorem jT{H:AH}{i p:Nat}(c:i∈(l9 H p).x6):∀{l:List Nat},p∈l->i∈nN H l
 |u::r,h=>by
  simp[nN];rcases v7.1 h with rfl|h
  .grind
  exact .inr (jT c h)
def vJ{H:AH}{i p:Nat}(c:i∈(l9 H p).ids):∀{l:List Nat},p∈l->i∈D6 H l
 |u::r,h=>by
  simp[D6];rcases v7.1 h with rfl|h
  .grind
  exact .inr (vJ c h)
def qh(h:r.Fit){p:Nat}:p∈r.new↔r.base<=p/\p<r.w9:=by
 rw[RC.new,Q_];omega
def ji{p:Nat}(h:H[p]? =some o):l9 H p=o:=by unfold l9;rw[getD_eq_getElem?_getD,h];rfl
structure G1(a b:RC):Prop where
 dst:∀d,b.dst=some d->d∉a.U
 chσ:∀p∈a.σ,p∉b.ch
 chn:∀p∈a.new,p∉b.ch
 nσ:∀p∈a.σ,p∉b.new
 tt:∀p∈a.ch,p∉b.new
 kp:∀p∈a.σ,∀o,b.H0[p]? =some o->sr b.mv o=o
 ks:∀t∈a.U,∀v,l6 b.z6 t=some v->u3 b.mv v=v
 sl:∀t∈a.U,∀v,l6 a.z6 t=some v->u3 b.mv v=v
 ob:∀p∈a.σ,sr b.mv (l9 a.H0 p)=l9 a.H0 p
 v:u3 b.mv a.v=a.v
 rc:∀p∈a.ch,sr b.mv (l9 a.w9 p)=l9 a.w9 p
 rn:∀p∈a.new,sr b.mv (l9 a.w9 p)=l9 a.w9 p
 en:∀k x,a.F8=some (.fn k x)->u4 b.mv x.x6=true
def SJ{l:List Nat}:u4 [] l=true:=dC.2 λ_ _ h=>by simp at h
theorem qF{l c:List Nat}(h:u4 mv l=true)(f:∀i∈c,i∈l):u4 mv c=true:=dC.2 λi g=>dC.1 h i (f i g)
variable{b a:RC}
def IV(h:Z8 a b=true):G1 a b:=by
 simp[Z8]at h;let⟨⟨⟨⟨⟨q,s⟩,u⟩,w⟩,x⟩,c⟩:=h;have f:∀d,b.dst=some d->d∉a.U:=λd f y=>by
  simp only[f,ZZ,cu.2 y]at q;cases q
 refine⟨f,dC.1 s,dC.1 u,dC.1 w,dC.1 x,?_,?_,?_,?_,?_,?_,?_,?_⟩<;>(cases g:b.mv with
  |nil=>intros;first|rfl|exact SJ
  |cons m r=>?_)<;>(rw[g]at c;simp at c;let⟨⟨⟨⟨⟨⟨⟨z,A⟩,I⟩,J⟩,B⟩,K⟩,L⟩,e⟩:=c)
 .intro p C o D;exact qf (AQ (k:=0) D (by rw[A3];exact dC.1 z p C))
 .intro t F v G;exact rH (CZ G (dC.1 A t F))
 .grind[rH,qF,qO]
 .grind[qf,qF,jT]
 .exact rH B
 .grind[qf,qF,jT]
 .grind[qf,qF,jT]
 grind
def RC.gv{p:Nat}(h:p∉r.ch):r.obj p o=sr r.mv o:=by rw[RC.obj,X h]
structure Agr(b:RC)(q p:lg×AH):Prop where
 len:q.2.length=p.2.length
 ob:∀x∈b.σ,q.2[x]? =p.2[x]?
 kd:∀x∈b.ch,(q.2[x]?).map kd=(p.2[x]?).map kd
 sl:∀t∈b.U,l6 q.1 t=l6 p.1 t
theorem zW(h:H6 a b=true){p:Nat}(c:p∈a.ch)(g:p∈b.ch):∃e f,a.F8=some e/\b.F8=some f/\e.key≠f.key:=by
 unfold H6 at h;split at h
 .rename_i e f m q;simp at h;rcases h with h|h
  .exact absurd c (dC.1 h p g)
  grind
 exact absurd c (dC.1 h p g)
def GS{b:RC}{s:Nat->Bool}:∀{A:List RC} {k:Nat} {q p:lg×AH},hU p A->(∀j r,A[j]? =some r->s (k+j)=true\/(G1 b r/\H6 b r=true))->Agr b q p->Agr b (kD s k A q) (C9 A p)
 |[],_,_,_,_,_,h=>h
 |r::A,k,q,p,L,J,h=>by
  let⟨a,K,g,d⟩:=L;have w:p.2=r.base:=by rw[<-K];exact g.base.symm
  have m:=h.len.trans w;simp[kD,C9];refine GS d (λj P Q=>by have:=J (j+1) P (by simpa using Q);rwa[show k+(j+1)=k+1+j by omega]at this) ?_;cases S:s k with
  |true=>
   simp;refine⟨(ej g m).trans (ej g w).symm,λx u=>?_,λx u=>?_,λt B=>?_⟩
   .rw[i_ g m,i_ g w,h.ob x u]
   .rw[i_ g m,i_ g w];by_cases c:x<r.base
    .rw[O c,O c];have:=h.kd x u;have D:∀o o',kd o=kd o'->kd (r.obj x o)=kd (r.obj x o'):=λo o' e=>by
      unfold RC.obj;split
      .grind[Fy]
      rw[tP,tP,e]
     cases F:q.2[x]? <;>cases y:p.2[x]? <;>rw[F,y]at this<;>simp at this⊢;exact D _ _ this
    grind
   rw[jv,jv,h.sl t B]
  |false=>
   simp;let⟨z,T⟩:=(J 0 r rfl).resolve_left (by rw[M6,S];simp);refine⟨(jh g m).trans (ej g w).symm,λx u=>?_,λx u=>?_,λt B=>?_⟩
   .rw[jM g m,i_ g w,h.ob x u];by_cases c:x<r.base
    .rw[O c,O c];cases y:p.2[x]? with
     |none=>rfl
     |some o=>
      rw[E5,RC.gv (z.chσ x u),z.kp x u o (by rw[K];exact y)]
    rw[X c,X c];have C:=z.nσ x u;rw[qh g]at C;rw[X (λG=>C ⟨N,G⟩),M3 N]
   .rw[jM g m,i_ g w];by_cases c:x<r.base
    .rw[O c,O c];have:=h.kd x u;cases F:q.2[x]? <;>cases y:p.2[x]? <;>rw[F,y]at this<;>simp at this⊢;rw[this];unfold RC.obj;split
     next I=>let⟨e,f,_,U,_⟩:=zW T u I;rw[U];exact Fy.symm
     exact tP.symm
    rw[X c,X c];have C:=z.tt x u;rw[qh g]at C;rw[X (λG=>C ⟨N,G⟩),M3 N]
   rw[jv,X (λe=>z.dst t e B)];show l6 q.1 t=_;rw[h.sl t B];cases y:l6 p.1 t with
   |none=>rfl
   |some v=>rw[E5,z.ks t B v (by rw[a];exact y)]
structure P9(b:RC)(q:lg×AH):Prop where
 ob:∀x∈b.σ,x<b.base->q.2[x]? =b.H0[x]?
 kd:∀x∈b.ch,x<b.base->(q.2[x]?).map kd=(b.H0[x]?).map kd
 sl:∀t∈b.U,l6 q.1 t=l6 b.z6 t
 gn:∀x,b.base<=x->x<b.w9.length->q.2[x]? =some .gone
def AK{b:RC}(u:b.Fit){s:Nat->Bool}:∀{A:List RC} {k:Nat} {q p:lg×AH},hU p A->b.w9<=p.2.length->q.2=p.2.length->(∀j r,A[j]? =some r->s (k+j)=false\/(G1 b r/\H6 b r=true))->P9 b q->P9 b (kD s k A q)
 |[],_,_,_,_,_,_,_,h=>h
 |r::A,k,q,p,I,J,w,D,h=>by
  let⟨S,K,m,L⟩:=I;have F:p.2=r.base:=by rw[<-K];exact m.base.symm
  have g:=w.trans F;have a:=m.le;simp[kD];have B:(bif s k then r.qs q else r.Jj q).2=(r.qs p).2.length:=by grind[jh,ej]
  have G:=u.le;refine AK u L (by rw[ej m F];omega) B (λj d P=>by have:=D (j+1) d (by simpa using P);rwa[show k+(j+1)=k+1+j by omega]at this) ?_;cases Q:s k with
  |false=>
   simp;refine⟨λx f c=>?_,λx f c=>?_,λt y=>h.sl t y,λx f c=>?_⟩
   .rw[jM m g,O N];exact h.ob x f c
   .rw[jM m g,O N];exact h.kd x f c
   rw[jM m g,O N];exact h.gn x f c
  |true=>
   simp;let⟨z,T⟩:=(D 0 r rfl).resolve_left (by rw[M6,Q];simp);refine⟨λx f c=>?_,λx f c=>?_,λt y=>?_,λx f c=>?_⟩
   .rw[i_ m g,O N,h.ob x f c];cases C:b.H0[x]? with
    |none=>rfl
    |some o=>
     have:=z.ob x f;rw[ji C]at this;rw[E5,RC.gv (z.chσ x f),this]
   .rw[i_ m g,O N,<-h.kd x f c];cases U:q.2[x]? with
    |none=>rfl
    |some o=>
     simp;unfold RC.obj;split
     .grind[zW,Fy]
     exact tP
   .rw[jv,X (λe=>z.dst t e y),h.sl t y];cases C:l6 b.z6 t with
    |none=>rfl
    |some v=>rw[E5,z.sl t y v C]
   rw[i_ m g,O N,h.gn x f c,E5,RC.gv (z.chn x ((qh u).2 ⟨f,c⟩)),vV]
def RC.B9(b:RC)x(o:AO):=if b.base<=x/\x<b.w9 then l9 b.w9 x else b.obj x o
def RC.M9(b:RC)t(v:Option TV):=if b.dst=some t then some b.v else v.map (u3 b.mv)
inductive Q0:Option AO->Option AO->Prop
 |none:Q0 none none
 |some {o o':AO}:D9 o o'->Q0 (some o) (some o')
structure Rel(b:RC)(q' q:lg×AH):Prop where
 len:q'.2.length=q.2.length
 ob:∀x,Q0 (q'.2[x]?) ((q.2[x]?).map (b.B9 x))
 sl:∀t,l6 q'.1 t=b.M9 t (l6 q.1 t)
def Q0.refl:∀o:Option AO,Q0 o o
 |.none=>.none
 |.some _=>.some .rfl
def Kt(f:b.Fit){q:lg×AH}(g:q.2=b.base):Rel b (b.qs q) (b.Jj q):=by
 refine⟨(ej f g).trans (jh f g).symm,λx=>?_,λt=>jv⟩;rw[i_ f g,jM f g];by_cases m:x<b.base
 .rw[O m,O m];have:(q.2[x]?).map (b.obj x)=(q.2[x]?).map (b.B9 x):=by
   cases q.2[x]? with
   |none=>rfl
   |some o=>simp[RC.B9,X (show¬(b.base<=x/\x<b.w9) by omega)]
  rw[this];exact .refl _
 rw[X m,X m];by_cases c:x<b.w9
 .rw[O c,E5,RC.B9,O ⟨N,c⟩,r5 c];exact .some (by rw[ji (r5 c)];exact .rfl)
 rw[X c,M3 N];exact .none
def Xu(w:b.Fit)(m:G1 b r)(q:G1 r b)(y:H6 b r=true){x:Nat}(h:D9 o' (b.B9 x o)):D9 (r.obj x o') (b.B9 x (r.obj x o)):=by
 by_cases s:b.base<=x/\x<b.w9
 ·-- b's own
  have g:=(qh w).2 s;have c:=m.chn x g;simp[RC.B9,O s]at h⊢;rw[RC.gv c];have:=(h.kill (mv:=r.mv)).trans (by rw[m.rn x g];exact .rfl);exact this
 simp[RC.B9,X s]at h⊢;by_cases g:x∈b.ch
 .by_cases c:x∈r.ch
  .let⟨e,f,p,z,u⟩:=zW y g c;simp[RC.obj,O g,O c,p,z]at h⊢;exact(h.put (e:=f)).trans (put_comm u)
  rw[RC.gv c,RC.gv c];cases p:b.F8 with
  |some e=>
   simp[RC.obj,O g,p]at h⊢;refine(h.kill (mv:=r.mv)).trans ?_;rw[Dp λk a v=>m.en k a (by rw[p,v])];exact .rfl
  |none=>
   simp[RC.obj,O g,p]at h⊢;have:=h.kill (mv:=r.mv);rwa[m.rc x g]at this
 rw[RC.gv g]at h⊢;by_cases c:x∈r.ch
 .cases p:r.F8 with
  |some e=>
   simp[RC.obj,O c,p];refine(h.put (e:=e)).trans ?_;rw[Dp λk a v=>q.en k a (by rw[p,v])];exact .rfl
  |none=>
   simp[RC.obj,O c,p];rw[q.rc x c];exact .rfl
 rw[RC.gv c,RC.gv c,Fj];exact h.kill
variable{q':lg×AH}
def NR(F:b.Fit)(p:r.Fit)(s:G1 b r)(f:G1 r b)(G:H6 b r=true)(z:∀d,b.dst=some d->r.dst≠some d){q:lg×AH}(A:q.2=r.base)(I:b.w9<=r.base)(h:Rel b q' q):Rel b (r.qs q') (r.qs q):=by
 have u:=h.len.trans A;refine⟨(ej p u).trans (ej p A).symm,λx=>?_,λt=>?_⟩
 .rw[i_ p u,i_ p A];by_cases g:x<r.base
  .rw[O g,O g];have:=h.ob x;cases B:q'.2[x]? <;>cases y:q.2[x]? <;>rw[B,y]at this<;>simp at this⊢ <;>cases this
   .exact .none
   rename_i J;exact .some (Xu F s f G J)
  rw[X g,X g];cases y:r.w9[x]? with
  |none=>exact .none
  |some o=>
   refine .some ?_;have C:=(sy.1 y).1;have w:=(qh p).2 ⟨N,C⟩;have D:=f.rn x w;rw[ji y]at D;have K:=f.chn x w;rw[RC.B9,X N,RC.gv K,D];exact .rfl
 rw[jv,jv,h.sl t];unfold RC.M9;by_cases c:r.dst=some t
 .rw[O c,O c,X (λe=>z t e c),E5,f.v]
 rw[X c,X c];by_cases m:b.dst=some t
 .rw[O m,O m,E5,s.v]
 rw[X m,X m,Option.map_map,Option.map_map];cases l6 q.1 t with
 |none=>rfl
 |some v=>simp[CJ]
def VA(v:b.Fit)(g:r.Fit)(m:∀x∈b.ch,x<b.base){q:lg×AH}(p:q.2=r.base)(w:b.w9<=r.base)(h:Rel b q' q):Rel b (r.Jj q') (r.Jj q):=by
 have f:=h.len.trans p;have s:=v.le;refine⟨(jh g f).trans (jh g p).symm,λx=>?_,h.sl⟩;rw[jM g f,jM g p];by_cases c:x<r.base
 .rw[O c,O c];exact h.ob x
 rw[X c,X c];by_cases u:x<r.w9
 .rw[O u,E5,RC.B9,X N,RC.gv (λy=>by have:=m x y;omega),vV];exact .some .rfl
 rw[X u];exact .none
theorem Gd{b:RC}(w:b.Fit)(c:∀x∈b.ch,x<b.base){s:Nat->Bool}:∀{f:List RC} {k:Nat} {q' q p:lg×AH},hU p f->b.w9<=p.2.length->q.2=p.2.length->(∀j r,f[j]? =some r->(s (k+j)=false\/(G1 b r/\G1 r b/\H6 b r=true))/\∀d,b.dst=some d->r.dst≠some d)->Rel b q' q->Rel b (kD s k f q') (kD s k f q)
 |[],_,_,_,_,_,_,_,_,h=>h
 |r::f,k,q',q,p,D,F,g,C,h=>by
  let⟨_,G,m,I⟩:=D;have u:p.2=r.base:=by rw[<-G];exact m.base.symm
  have v:=g.trans u;have J:=m.le;simp[kD];have y:(bif s k then r.qs q else r.Jj q).2=(r.qs p).2.length:=by grind[jh,ej]
  refine Gd w c I (by rw[ej m u];omega) y (λj K L=>by have:=C (j+1) K (by simpa using L);rwa[show k+(j+1)=k+1+j by omega]at this) ?_;cases a:s k with
  |false=>exact VA w m c v N h
  |true=>
   let⟨e,z⟩:=C 0 r rfl;let⟨A,B,P⟩:=e.resolve_left (by rw[M6,a];simp);exact NR w m A B P z v N h
def Rd.on{c L:Cx}{B:List RE}{a:AV}{v:Value}(h:Rd c ρ a v)(y:c.le L)(k:∀i∈a.ids,∀r,ρ[i]? =some r->r≠ .no->B[i]? =some r):Rd L B a v:=by
 have m:∀q u,q.1∈a.ids->fw ρ q u->fw B q u:=λq u C ⟨g,p,F⟩=>⟨g,k _ C _ p aa,F⟩;cases a with
 |own id=>
  rcases h with⟨g,m,len,z,h,e⟩|⟨h,e⟩
  .exact .inl ⟨g,m,len,z,k id (by simp[AV.ids]) _ h aa,e⟩
  exact .inr ⟨k id (by simp[AV.ids]) _ h aa,e⟩
 |sub id o l=>
  rcases h with⟨g,m,len,z,h,e⟩|⟨h,e⟩
  .exact .inl ⟨g,m,len,z,k id (by simp[AV.ids]) _ h aa,e⟩
  exact .inr ⟨k id (by simp[AV.ids]) _ h aa,e⟩
 |ptr id o=>exact m (id,o) _ (by simp[AV.ids]) h
 |y8 id i o=>
  let⟨g,m,len,z,h,e⟩:=h;exact⟨g,m,len,z,k id (by simp[AV.ids]) _ h aa,e⟩
 |fe s x o=>
  let⟨A,G,p,F,j,e⟩:=h;exact⟨A,G,(y.S _ p).1,F.dc (y.S _ p).2,j.ed y,e⟩
 |fn f b I=>
  let⟨d,w,p,F,e⟩:=h;have D:∀(l:List (Nat×Nat)) (w:List Value),(∀q∈l,q.1∈(AV.fn f b I).ids)->hY (fw ρ) l w->hY (fw B) l w:=λl w J h=>by
   induction h with
   |nil=>exact .nil
   |cons p _ K=>exact .cons (m _ _ (J _ aa) p) (K λq C=>J q (by simp[C]))
  refine⟨d,w,D b d (λq C=>?_) p,D I w (λq C=>?_) F,e⟩<;>simp only[AV.ids,A7]<;>first|exact .inl (V5 C)|exact .inr (V5 C)
 |mq id=>
  let⟨g,p,e⟩:=h;exact⟨g,k id (by simp[AV.ids]) _ p aa,e⟩
 |np=>exact h
 |nf=>exact h
 |yl l=>exact h
 |xx P I=>
  let⟨w,p,F⟩:=h;have D:∀(l:List (Nat×Nat)) (w:List Value),(∀q∈l,q.1∈(AV.xx P I).ids)->hY (fw ρ) l w->hY (fw B) l w:=λl w J h=>by
   induction h with
   |nil=>exact .nil
   |cons p _ K=>exact .cons (m _ _ (J _ aa) p) (K λq C=>J q (by simp[C]))
  exact⟨w,D I w (λq C=>by simp only[AV.ids];exact V5 C) p,F.le y⟩
 |dead=>exact h
 |int n=>exact Pd.ed h y
 |u8 b=>exact Pd.ed h y
 |u64 n=>exact Pd.ed h y
 |bool e=>exact Pd.ed h y
 |str s=>exact Pd.ed h y
 |em b=>exact Pd.ed h y
 |li T Q=>exact Pd.ed h y
 |fz s Q=>exact Pd.ed h y
def N2.on{c p:Cx}{ρ g:List RE}:∀{f:List AV} {q:List Value},hY (Rd c ρ) f q->c.le p->(∀i∈zb f,∀r,ρ[i]? =some r->r≠ .no->g[i]? =some r)->hY (Rd p g) f q
 |[],_,h,_,_=>by cases h;exact .nil
 |a::r,_,h,s,k=>by
  cases h with
  |cons u v=>exact .cons (u.on s λi m=>k i (mK (a:=a) aa m)) (N2.on v s λi m=>k i (by simp[zb];exact .inr m))
def eh.on{c g:Cx}{ρ f:List RE}{t:oh}{v:Value}(h:eh c ρ t v)(m:c.le g)(k:∀i∈zb t.cells,∀r,ρ[i]? =some r->r≠ .no->f[i]? =some r):eh g f t v:=by
 cases t with
 |c a=>exact Rd.on h m λi p=>k i (mK (a:=a) (by simp[oh.cells]) p)
 |agg l=>let⟨q,e,h⟩:=h;exact⟨q,e,N2.on h m k⟩
def Zp.on{c p:Cx}{ρ g:List RE}:∀{f:List oh} {q:List Value},hY (eh c ρ) f q->c.le p->(∀i∈tc f,∀r,ρ[i]? =some r->r≠ .no->g[i]? =some r)->hY (eh p g) f q
 |[],_,h,_,_=>by cases h;exact .nil
 |a::r,_,h,s,k=>by
  cases h with
  |cons u v=>exact .cons (u.on s λi m=>k i (by simp[tc];exact .inl m)) (Zp.on v s λi m=>k i (by simp[tc];exact .inr m))
def Rt.on{c g:Cx}{ρ f:List RE}{t:TV}{v:Value}(h:Rt c ρ t v)(m:c.le g)(k:∀i∈t.ids,∀r,ρ[i]? =some r->r≠ .no->f[i]? =some r):Rt g f t v:=by
 cases t with
 |one t=>exact eh.on h m k
 |D8 l=>let⟨p,e,h⟩:=h;exact⟨p,e,Zp.on h m k⟩
 |un=>trivial
def Xc{q:Int×AV}(h:q∈l)(c:i∈q.2.ids):=ux h c
def OR.on{c z:Cx}{ρ u:List RE}{o:AO}{r:RE}(h:OR c ρ o r)(p:c.le z)(v:z.w=c.w)(k:∀i∈o.ids,∀r,ρ[i]? =some r->r≠ .no->u[i]? =some r):OR z u o r:=by
 cases o with
 |gone=>exact h
 |loc=>trivial
 |s6 s f=>
  obtain⟨g,rfl,h⟩:=h;exact⟨g,rfl,h.ed p (by rw[v])⟩
 |r9 l=>
  obtain⟨g,rfl,h⟩:=h;exact⟨g,rfl,h.map (g0:=λa=>a) aa (λq D _ h=>h.on p λi F=>k i (Xc D F)) (by rw[v])⟩
 |A8 t s n G=>
  obtain⟨g,A,rfl,x,y,B⟩:=h;exact⟨g,A,rfl,by rw[v];exact x,y.ed p,B⟩
 |box t b=>
  obtain⟨g,A,rfl,x,y⟩:=h;exact⟨g,A,rfl,by rw[v];exact x,N2.on y p k⟩
 |row t s G=>
  let⟨x,y,B⟩:=h;refine⟨p.shp▸x,y,B.imp id ?_⟩;rintro⟨g,C,m,I,rfl,J,K,L⟩;exact⟨g,C,m,I,rfl,by rw[v];exact J,K.ed p,L⟩
def JG(h:mv=[]){l:List AV}:uY (AV.di mv) l=l:=ue λa _=>iK (by subst h;simp)
theorem Oi:sr mv o=o.mapA (AV.di mv):=by
 cases mv with
 |cons _ _=>rfl
 |nil=>
  cases o with
  |box t c=>exact o9 (AO.box t) (JG rfl).symm
  |r9 l=>
   show AO.r9 l=AO.r9 (mapM _ l);rw[tJ];congr 1;refine((X9 λq _=>?_).trans (map_id _)).symm;have e:=iK (mv:=[]) (a:=q.2) aa;grind
  |_=>rfl
def Gz(G:Gl)(c:List RE):Gl:=⟨G.shp,G.B0,λb=>G.Z b\/live c b⟩
section
variable{G:Gl}{ρ:List RE}{S:AH}{w w':World}{m top:Nat}
structure Part(G:Gl)(ρ:List RE)(S:AH)(w:World)(m top:Nat):Prop where
 R:pe G ρ S w
 le:m<=top
 len:top<=S.length
 gn:∀x,m<=x->x<top->S[x]? =some .gone
def Part.mid(h:Part G ρ S w m top){x:Nat}(f:m<=x)(g:x<top):ρ[x]? =some .no:=by
 let⟨r,p,c⟩:=h.R.at_ (h.gn x f g);cases c;exact p
def Part.lv(h:Part G ρ S w m top){b:Nat}:live ρ b↔live (ρ.take m) b\/live (ρ.drop top) b:=by
 constructor
 .rintro⟨i,r,c,f⟩;by_cases g:i<m
  .exact .inl ⟨i,r,by rw[G2,O g];exact c,f⟩
  by_cases p:i<top
  .rw[h.mid N p]at c;cases c;cases f
  exact .inr ⟨i-top,r,by rw[D1,show top+(i-top)=i by omega];exact c,f⟩
 rintro(⟨i,r,c,f⟩|⟨i,r,c,f⟩)
 .rw[G2]at c;split at c
  .exact⟨i,r,c,f⟩
  cases c
 rw[D1]at c;exact⟨_,r,c,f⟩
theorem Part.sS(h:Part G ρ S w m top){b:Nat}:(cx (Gz G (ρ.drop top)) (ρ.take m) w).S b↔(cx G ρ w).S b:=by
 show(b<w.heap.size/\¬live (ρ.take m) b/\¬(G.Z b\/live (ρ.drop top) b))↔(b<w.heap.size/\¬live ρ b/\¬G.Z b);rw[h.lv];grind
def Part.cle(h:Part G ρ S w m top):(cx G ρ w).le (cx (Gz G (ρ.drop top)) (ρ.take m) w):=⟨rfl,rfl,λ_ c=>⟨h.sS.2 c,rfl⟩,λ_ _ _=>rfl⟩
def mJ{r:RE}(h:(ρ.take m)[i]? =some r):ρ[i]? =some r/\i<m:=by grind
def Part.W8(h:Part G ρ S w m top)(v:∀x∈σ,∀i∈(l9 S x).ids,i<m):pe (Gz G (ρ.drop top)) (ρ.take m) (u2 σ 0 (S.take m)) w:=by
 have F:=h.R.obj.length;refine⟨dw (by rw[sj,sh,sh,F]) λj o r C y=>?_,λi j r s g c f u A=>h.R.inj i j r s g (mJ c).1 (mJ f).1 u A,λi r g c f=>?_,λb I=>I.elim (h.R.z b) λ⟨j,r,c,f⟩=>?_,h.R.b0,h.R.tb.ed h.cle⟩
 .let⟨y,J⟩:=mJ y;rw[qH,G2,O J,A3,I0]at C;obtain⟨o',p,rfl⟩:=C;split
  next K=>let⟨s,q,B⟩:=h.R.at_ p;rw[y]at q;cases q;refine B.on h.cle rfl λi D r L _=>?_;have:=v j K i (by rw[ji p];exact D);grind
  trivial
 .let⟨c,D⟩:=mJ c;have:=h.R.u0 i r g c f;refine⟨this.1,this.2.1,λa=>a.elim this.2.2 λ⟨j,s,u,A⟩=>?_⟩;rw[D1]at u;have e:=h.R.inj i _ r s g c u f A;have:=h.le;omega
 rw[D1]at c;exact(h.R.u0 _ r b c f).2.1
def Part.merge(h:Part G ρ S w m top){ro:Lv}(H:b.base=m)(z:b.w9=top)(hent:b.F8=none)(hch:∀x∈b.ch,x<m){c:List RE}(hro:∀i,ro.wr i=false\/ro.mv i=false->i<m)(T:u6 ⟨λi=>cZ i b.ch&&ro.wr i,λi=>cZ i b.mv&&ro.mv i⟩ (ρ.take m) w c w')(R:pe (Gz G (ρ.drop top)) c b.w9 w'){S':AH}(hlen:S'=S.length)(hS':∀x,Q0 (S'[x]?) ((S[x]?).map (b.B9 x))):
  pe G (c++ρ.drop top) S' w'/\u6 ro ρ w (c++ρ.drop top) w'/\(∀a v,Rd (cx G ρ w) ρ a v->Rd (cx G (c++ρ.drop top) w') (c++ρ.drop top) (a.di b.mv) v)/\(∀t v,Rt (cx (Gz G (ρ.drop top)) c w') c t v->Rt (cx G (c++ρ.drop top) w') (c++ρ.drop top) t v):=by
 have hl:=h.R.obj.length;have hle:=h.le;have htl:c.length=top:=by rw[<-R.obj.length,z]
 have hSl:=h.len
 have B:∀i,i<top->(c++ρ.drop top)[i]? =c[i]?:=λi y=>E0 N;have I:∀i,top<=i->(c++ρ.drop top)[i]? =ρ[i]?:=λi y=>by rw[Q4 N,htl,D1];congr 1;omega
 have lv':∀b,live (c++ρ.drop top) b↔live c b\/live (ρ.drop top) b:=λb=>by
  constructor
  .rintro⟨i,r,q,u⟩;by_cases y:i<top
   .exact .inl ⟨i,r,by rw[<-B i y];exact q,u⟩
   refine .inr ⟨i-top,r,?_,u⟩;rw[I i N]at q;rw[D1,show top+(i-top)=i by omega];exact q
  rintro(⟨i,r,q,u⟩|⟨i,r,q,u⟩)
  .exact⟨i,r,by rw[B i (by rw[<-htl];exact(sy.1 q).1)];exact q,u⟩
  rw[D1]at q;exact⟨top+i,r,by rw[I _ N];exact q,u⟩
 have m3:∀g,g<w.heap.size->¬live (ρ.take m) g->¬live c g/\w'.heap[g]? =w.heap[g]?:=λg hg hn=>T.ext.z7 g hg hn;have U:∀g,live (ρ.drop top) g->g<w.heap.size/\¬live (ρ.take m) g:=by
  rintro g ⟨j,r,q,u⟩;rw[D1]at q;refine⟨(h.R.u0 _ r g q u).2.1,?_⟩;rintro⟨i,r',P,h4⟩;obtain⟨P,h5⟩:=mJ P;have:=h.R.inj _ _ _ _ g q P u h4;omega
 have J:u7 ρ w (c++ρ.drop top) w':=⟨T.ext.os,T.ext.tape,T.ext.output,T.ext.size,λb Q hl=>by
  rw[h.lv]at hl;have hk:=m3 b Q λk=>hl (.inl k);exact⟨λk=>((lv' b).1 k).elim hk.1 λk=>hl (.inr k),hk.2⟩⟩
 have p:(cx G ρ w).le (cx G (c++ρ.drop top) w'):=J.le h.R.lo;have V:(cx (Gz G (ρ.drop top)) c w').le (cx G (c++ρ.drop top) w'):=⟨rfl,rfl,λb ⟨q,u,P⟩=>⟨⟨q,λk=>((lv' b).1 k).elim u λk=>P (.inr k),λk=>P (.inl k)⟩,rfl⟩,λ_ _ _=>rfl⟩;have Z:mz c (c++ρ.drop top):=iF _ _
 have C:∀i r,ρ[i]? =some r->r≠ .no->((∃g,r=.blk g)\/i∉b.mv)->(c++ρ.drop top)[i]? =some r:=λi r D L hk=>by
  by_cases y:i<m
  .rw[B i N];have E:(ρ.take m)[i]? =some r:=by rw[G2,O y];exact D
   rcases hk with⟨g,rfl⟩|hk
   .exact T.bx i g E
   refine T.loc i r ?_ E;have:cZ i b.mv=false:=by rw[<-not_eq_true,cu];exact hk
   simp[this]
  by_cases hj:i<top
  .rw[h.mid N hj]at D;cases D;exact absurd rfl L
  rw[I i N];exact D
 have hrd:∀a v,Rd (cx G ρ w) ρ a v->Rd (cx G (c++ρ.drop top) w') (c++ρ.drop top) (a.di b.mv) v:=by
  intro a v F;have nm:∀j,cZ j b.mv=false->j∉b.mv:=λj Q hm=>by rw[cu.2 hm]at Q;cases Q
  cases a with
  |own j=>
   simp[AV.di];cases Q:cZ j b.mv
   .refine Rd.on F p λi y r D L=>C i r D L (.inr ?_);simp[AV.ids,cond_false,D0]at y;subst y;exact nm _ Q
   exact Rd.one F
  |sub j o k=>
   simp[AV.di];cases Q:cZ j b.mv
   .refine Rd.on F p λi y r D L=>C i r D L (.inr ?_);simp[AV.ids,cond_false,D0]at y;subst y;exact nm _ Q
   exact Rd.one F
  |y8 j k o=>
   simp[AV.di];cases Q:cZ j b.mv
   .refine Rd.on F p λi y r D L=>C i r D L (.inr ?_);simp[AV.ids,cond_false,D0]at y;subst y;exact nm _ Q
   exact Rd.one F
  |ptr j o=>
   obtain⟨g,q,e⟩:=F;exact⟨g,C _ _ q aa (.inl ⟨g,rfl⟩),e⟩
  |mq j=>
   obtain⟨g,q,e⟩:=F;exact⟨g,C _ _ q aa (.inl ⟨g,rfl⟩),e⟩
  |fn f b' cs=>
   obtain⟨bs,us,q,u,e⟩:=F;exact⟨bs,us,q.imp λ_ _ ⟨g,k1,k2⟩=>⟨g,C _ _ k1 aa (.inl ⟨g,rfl⟩),k2⟩,u.imp λ_ _ ⟨g,k1,k2⟩=>⟨g,C _ _ k1 aa (.inl ⟨g,rfl⟩),k2⟩,e⟩
  |fe s x o=>
   obtain⟨A,cells,q,u,P,e⟩:=F;exact⟨A,cells,(p.S _ q).1,u.dc (p.S _ q).2,P.ed p,e⟩
  |np=>exact F
  |nf=>exact F
  |yl l=>exact F
  |xx k' cs=>
   obtain⟨us,q,u⟩:=F;exact⟨us,q.imp λ_ _ ⟨g,k1,k2⟩=>⟨g,C _ _ k1 aa (.inl ⟨g,rfl⟩),k2⟩,u.le p⟩
  |dead=>exact F
  |int n=>exact Pd.ed F p
  |u8 b=>exact Pd.ed F p
  |u64 n=>exact Pd.ed F p
  |bool e=>exact Pd.ed F p
  |str s=>exact Pd.ed F p
  |em b=>exact Pd.ed F p
  |li nw xs=>exact Pd.ed F p
  |fz s xs=>exact Pd.ed F p
 refine⟨⟨?_,?_,?_,λb Q=>y7 (h.R.z b Q) J.size,zc h.R.b0 J.size,h.R.tb.ed p⟩,⟨J,λi r y D=>?_,λi r y D=>?_,λi g y=>?_⟩,hrd,λt v ht=>ht.ed V Z⟩
 .refine dw (by rw[hlen,s8,htl,length_drop];omega) λx o r ho D=>?_;have hq:=hS' x;rw[ho]at hq;cases hx:S[x]? with
  |none=>rw[hx]at hq;cases hq
  |some o0=>
   rw[hx,E5]at hq;cases hq with
   |some hq=>
   refine hq.symm.or ?_;obtain⟨r0,hr0,hor0⟩:=h.R.at_ hx
   have d:ρ[x]? =some r->(∀g,r.g?=some g->w'.heap[g]? =w.heap[g]?)->OR (cx G (c++ρ.drop top) w') (c++ρ.drop top) (sr b.mv o0) r:=λE hg=>by
    rw[hr0]at E;cases E;rw[Oi];exact hor0.map p hrd hg
   have K:x<top->∀o1,b.w9[x]? =some o1->OR (cx G (c++ρ.drop top) w') (c++ρ.drop top) o1 r:=λm1 o1 ho1=>by
    rw[B x m1]at D;obtain⟨r1,hr1,hor1⟩:=R.at_ ho1;rw[D]at hr1;cases hr1;exact hor1.ed V Z λ_ _=>rfl
   unfold RC.B9;rw[H,z];split
   .rename_i hn;refine K hn.2 _ ?_;rw[r5 N,ji (r5 N)]
   rename_i hn;unfold RC.obj;split
   .rename_i hchx;rw[hent];have m1:=hch x hchx;refine K N _ ?_;rw[r5 N,ji (r5 N)]
   rename_i hch;have hm:cZ x b.ch=false:=by rw[<-not_eq_true,cu];exact hch
   by_cases m1:x<m
   .have E:(ρ.take m)[x]? =some r0:=by rw[G2,O m1];exact hr0
    have hp:=T.L4 x r0 (by simp[hm]) E;rw[B x N,hp.1]at D;cases D;exact d hr0 hp.2
   have hx2:top<=x:=by omega
   rw[I x hx2]at D;refine d D λg hg=>(m3 g (h.R.u0 x r g D hg).2.1 (U g ⟨x-top,r,?_,hg⟩).2).2;rw[D1,show top+(x-top)=x by omega];exact D
 .intro i j r r' g q u P h4;by_cases y:i<top<;>by_cases hj:j<top
  .rw[B i y]at q;rw[B j hj]at u;exact R.inj i j r r' g q u P h4
  .rw[B i y]at q;rw[I j N]at u;have hc:live (ρ.drop top) g:=⟨j-top,r',by rw[D1,show top+(j-top)=j by omega];exact u,h4⟩;exact absurd ⟨i,r,q,P⟩ (m3 g (U g hc).1 (U g hc).2).1
  .rw[I i N]at q;rw[B j hj]at u;have hc:live (ρ.drop top) g:=⟨i-top,r,by rw[D1,show top+(i-top)=i by omega];exact q,P⟩;exact absurd ⟨j,r',u,h4⟩ (m3 g (U g hc).1 (U g hc).2).1
  rw[I i N]at q;rw[I j N]at u;exact h.R.inj i j r r' g q u P h4
 .intro i r g q u;by_cases y:i<top
  .rw[B i y]at q;have:=R.u0 i r g q u;exact⟨this.1,this.2.1,λhz=>this.2.2 (.inl hz)⟩
  rw[I i N]at q;have:=h.R.u0 i r g q u;exact⟨this.1,y7 this.2.1 J.size,this.2.2⟩
 .have hi':=hro i (.inr y);rw[B i N];exact T.loc i r (by simp[y]) (by rw[G2,O hi'];exact D)
 .have hi':=hro i (.inl y);rw[B i N];exact T.L4 i r (by simp[y]) (by rw[G2,O hi'];exact D)
 by_cases q:i<m
 .rw[B i N];exact T.bx i g (by rw[G2,O q];exact y)
 by_cases u:i<top
 .rw[h.mid N u]at y;cases y
 rw[I i N];exact y
end
variable{Q:Exit->Act->World->Prop}{l:List Oper}{w:World}{P:Program}{a:Act}
theorem ak8{id:Nat}(hm:P.follows .mixedOrders=true){Inv:(Nat->Bool)->Act->World->Prop}
  (m3:∀i,∀j∈cr l i,j<i)(J:∀s a w,Inv s a w->a.defers=[])
  (hs:∀s a w i o,Inv s a w->l[i]? =some o->s i=false->(∀j∈cr l i,s j=true)->(∀k,s k=true->∀j∈cr l k,s j=true)->
   OP P l.toArray (λe a' w'=>e=.normal/\Inv (λj=>s j||Nat.beq i j) a' w') [o] a w)
  (S:∀s a w,Inv s a w->(∀i,i<l.length->s i=true)->Q .normal a w)(Z:Inv (λ_=>false) a {w with drawn:=w.drawn+1}):mf P (.region id l.toArray true) Q a w:=by
 intro ro z;refine wpIn_region_any hm ?_;have t:∀f (c:Array Bool) a w,c.size=l->(range l).countP (λi=>!c.getD i false)=f->(∀k,c.getD k false=true->∀j∈cr l k,c.getD j false=true)->Inv (λi=>c.getD i false) a w->wpAnyIn (jd ro) 0 P .any l.toArray (sZ z Q) f c (kr a z) w:=by
  intro f;induction f with
  |zero=>
   intro c a w C hc T inv;have K:∀i,i<l.length->c.getD i false=true:=λi A=>by
    have:=List.countP_eq_zero.1 hc i (K2.2 A);simpa using this
   refine⟨?_,a,J _ _ _ inv,rfl,S _ a w inv K⟩;cases hr:Region.ready .any l.toArray c with
   |nil=>rfl
   |cons i r=>
    obtain⟨U,o,ho,_⟩:=mem_ready.1 (show i∈Region.ready .any l.toArray c by rw[hr];simp);have D:i<l:=by simpa using(S6.1 ho).1
    have:=K i D;rw[getD_both U]at this;cases this
  |succ f ih=>
   intro c a w C hc T inv;have hex:∃i,i<l.length/\c.getD i false=false/\∀j,j<i->c.getD j false=true:=by
    have h1:∃i,i<l.length/\c.getD i false=false:=by
     have:0<(range l.length).countP (λi=>!c.getD i false):=by omega
     obtain⟨i,A,b⟩:=List.countP_pos_iff.1 this;exact⟨i,K2.1 A,by simpa using b⟩
    obtain⟨i,A,b⟩:=h1;have H:∀m,∀i,i<l.length->c.getD i false=false->i<=m->∃i,i<l.length/\c.getD i false=false/\∀j,j<i->c.getD j false=true:=by
     intro m;induction m with
     |zero=>intro i A b him;exact⟨i,A,b,λj B=>by omega⟩
     |succ m ihm=>
      intro i A b him;by_cases m3:∃j,j<i/\c.getD j false=false
      .obtain⟨j,B,hpj⟩:=m3;exact ihm j N hpj N
      grind
    exact H i i A b (tw _)
   obtain⟨m,V,hmu,E⟩:=hex;have g:m∈Region.ready .any l.toArray c:=by
    refine mem_ready.2 ⟨getD_in (by rw[C];exact V) hmu,l[m],by simp[V],λe S hb=>?_⟩;exact E _ (m3 m e.on (by
     simp[cr,r5 V,gK,M7,T2];exact⟨e,⟨by simpa using S,hb⟩,rfl⟩))
   refine⟨λZ=>(by rw[Z]at g;cases g),λi A=>?_⟩;obtain⟨U,o,ho,F⟩:=mem_ready.1 A;have m1:l[i]? =some o:=by simpa using ho
   have D:i<l.length:=(sy.1 m1).1;have L:c.getD i false=false:=getD_both U;have v6:∀k∈cr l i,c.getD k false=true:=λk hk=>by
    simp[cr,m1,gK,M7,T2]at hk;obtain⟨e,⟨S,hb⟩,rfl⟩:=hk;exact F e (by simpa using S) hb
   have R:=hs _ a w i o inv m1 L v6 T ro z;have u:∀j,(c.setIfInBounds i true).getD j false=(c.getD j false||Nat.beq i j):=λj=>by
    by_cases B:j=i
    .subst B;simp[Array.getD,C,D]
    have:Nat.beq i j=false:=by rw[<-not_eq_true,beq_eq];exact λe=>B e.symm
    rw[getD_set_ne false (Ne.symm B),this,Bool.or_false]
   have step:∀v G,(True/\Inv (λj=>c.getD j false||Nat.beq i j) (a.put o.dst v) G)->wpAnyIn (jd ro) 0 P .any l.toArray (sZ z Q) f (c.setIfInBounds i true) (kr (a.put o.dst v) z) G:=by
    intro v G ⟨_,hv⟩;refine ih _ _ _ (by simp[C]) ?_ ?_ ?_
    .have:=countP_set (n:=l.length) (i:=i) (p:=λj=>!c.getD j false) (q:=λj=>!(c.setIfInBounds i true).getD j false) D (by simp[L]) (by simp[u]) (λj B=>by
      have:Nat.beq i j=false:=by rw[<-not_eq_true,beq_eq];exact λe=>B e.symm
      simp[u,this])
     omega
    .intro k hk j B;rw[u]at hk⊢;rw[H2]at hk⊢;rcases hk with hk|hk
     .exact .inl (T k hk j B)
     have:=ts hk;subst this;exact .inl (v6 j B)
    have e:(λj=>(c.setIfInBounds i true).getD j false)=λj=>(c.getD j false||Nat.beq i j):=funext u;rw[e];exact hv
   have x:∀v G,sZ z (λe a' w'=>e=.normal/\Inv (λj=>c.getD j false||Nat.beq i j) a' w') .normal ((kr a z).put o.dst v) G->wpAnyIn (jd ro) 0 P .any l.toArray (sZ z Q) f (c.setIfInBounds i true) ((kr a z).put o.dst v) G:=λv G ⟨a0,Z,e,h⟩=>by
    rw[vv]at e⊢;rw[<-Qn e (HL (J _ _ _ inv) _ _) Z]at h;exact step v G ⟨trivial,h.2⟩
   unfold wpOpIn;simp only[ho];simp only[wpListIn]at R;try simp only[eq_self_iff_true]at R
   by_cases y:Region.wanted o (yielded l.toArray (kr a z).tmps)=true
   .rw[O y]at R⊢;unfold Oper.wpIn at R⊢;refine⟨λ_ _=>trivial,Dk R.2 x (λd G ⟨a0,Z,e,h⟩=>?_) (λe a w S ⟨_,_,_,h⟩=>S h.1)⟩;have:=o9 Act.defers e;cases hd:o.dst<;>rw[hd]at this<;>simp[Act.put,kr]at this
   rw[X y]at R⊢;exact⟨λ_ _=>trivial,x undef w R.2⟩
 have I:(range l.length).countP (λi=>!(Array.replicate l.toArray.size false).getD i false)=l.length:=by
  rw[List.countP_eq_length.2 (λi _=>by rw[O0];rfl),Y3]
 have:=t l.length (Array.replicate l.toArray.size false) a {w with drawn:=w.drawn+1} aa I (λk hk=>by rw[O0]at hk;cases hk) (by
  have e:(λi=>(Array.replicate l.toArray.size false).getD i false)=λ_=>false:=funext λi=>O0 _ _;rw[e];exact Z)
 rw[show l.toArray.size=l.length by simp];exact this
theorem mV{m:Nat}:A4 m j=m.testBit j:=by
 rw[Nat.testBit_eq_decide_div_mod_eq];show Nat.beq ((m>>>j)&&&1) 1=_;rw[Nat.and_one_is_mod,Nat.shiftRight_eq_div_pow];generalize m/2^j%2=q;by_cases h:q=1
 .simp_all
 rw[D7 h,<-not_eq_true,beq_eq];exact h
theorem Wd{a b:Nat}:A4 (Nat.lor a b) j=(A4 a j||A4 b j):=by
 rw[mV,mV,mV];simp_all
theorem XL:A4 (Nat.shiftLeft 1 k) j=true↔j=k:=by
 rw[mV];show(1<<<k).testBit j=true↔_;rw[Nat.testBit_shiftLeft,r3,u9,Nat.testBit_one_eq_true_iff_self_eq_zero];omega
theorem NV:A4 0 j=false:=by rw[mV];exact Nat.zero_testBit j
theorem rv{c:List Nat}{j:Nat}:∀{l:List Nat},A4 (jO c l) j=true↔∃k∈l,j=k\/A4 (c.getD k 0) j=true
 |[]=>by simp[jO,NV]
 |k::r=>by simp only[jO,Wd,H2,XL,rv,v7,or_and_right,exists_or,exists_eq_left]
theorem Ch:∀{l:List Oper} {acc:List Nat},(kn acc l)=acc+l.length
 |[],_=>by simp[kn]
 |o::r,acc=>by
  have:=Ch (l:=r) (acc:=acc++[jO acc (gK o)]);simp only[kn,this];simp;omega
theorem wq:∀{l:List Oper} {c:List Nat} {k:Nat},k<c->(kn c l).getD k 0=c.getD k 0
 |[],_,_,_=>rfl
 |o::r,c,k,h=>by
  simp only[kn];rw[wq (by simp;omega),getD_eq_getElem?_getD,E0 h,getD_eq_getElem?_getD]
def sV:∀{l:List Oper} {k:Nat},tN k l=true->∀i,∀j∈cr l i,j<k+i
 |o::r,k,h,i,j,c=>by
  simp[tN]at h;cases i with
  |zero=>exact jo.1 h.1 j (by simpa[cr] using c)
  |succ i=>
   have:=sV h.2 i j (by simpa[cr] using c);omega
theorem yW:∀{l:List Oper} {acc:List Nat} {i:Nat},(∀i,∀j∈cr l i,j<acc+i)->i<l->(kn acc l).getD (acc+i) 0=jO (kn acc l) (cr l i)
 |o::r,acc,0,f,_=>by
  simp[kn];have e:(kn (acc++[jO acc (gK o)]) r).getD (acc+0) 0=jO acc (gK o):=by
   rw[wq aa,getD_eq_getElem?_getD];simp
  have m:cr (o::r) 0=gK o:=rfl;have p:∀l:List Nat,(∀j∈l,j<acc)->jO acc l=jO (kn (acc++[jO acc (gK o)]) r) l:=by
   intro l;induction l with
   |nil=>intro _;rfl
   |cons k t q=>
    intro g;have u:=g k aa;simp only[jO];rw[q λj c=>g j (by simp[c]),wq (show k<(acc++[jO acc (gK o)]) by simp;omega)];grind
  grind
 |o::r,acc,i+1,f,s=>by
  simp only[kn];have:=yW (l:=r) (acc:=acc++[jO acc (gK o)]) (i:=i) (λk j c=>by
   have:=f (k+1) j (by simpa[cr] using c);simp;omega) (by simpa using s)
  simp only[s8,Q5]at this;rw[show acc+(i+1)=acc+1+i by omega,this];simp[cr]
theorem vj{s:Nat->Bool}(p:∀i,∀j∈cr l i,j<i)(q:∀k,s k=true->∀j∈cr l k,s j=true):∀(n i:Nat),i<=n->i<l->(∀j∈cr l i,s j=true)->∀j,A4 ((kn [] l).getD i 0) j=true->s j=true:=by
 intro n;induction n with
 |zero=>
  intro i u c f j g;have:=yW (acc:=[]) (λi j m=>by have:=p i j m;simp;omega) c;simp only[B2,A3]at this;rw[this,rv]at g;grind
 |succ n v=>
  intro i u c f j g;have:=yW (acc:=[]) (λi j m=>by have:=p i j m;simp;omega) c;simp only[B2,A3]at this;rw[this,rv]at g;grind
def kQ(a:Act):Nat->Fr
 |0=>[]
 |k+1=>(k,a.tmps.getD k undef)::kQ a k
theorem ig{a:Act}{t:Nat}:∀{n:Nat},look (kQ a n) t=if t<n then some (a.tmps.getD t undef)else none
 |0=>rfl
 |k+1=>by
  simp[kQ,b_,ig];grind
variable{a':Act}
def acj(h:a.defers=[])(f:a'.defers=[])(m:a.tmps.size=n)(c:a'.tmps.size=n)(g:∀t,t<n->a'.tmps.getD t undef=a.tmps.getD t undef):a'=a:=by
 cases a with
 |mk t d=>
 cases a' with
 |mk s u=>
 simp only at h f m c g;subst h;subst f;congr 1;refine Array.ext N λi p q=>?_;have:=g i N;simpa[Array.getD,p,q] using this
def Rv(h:a.defers=[])(f:a.tmps.size=n):M n (kQ a n) a:=⟨h,f,λi v c=>by
 rw[ig]at c;split at c
 .grind
 cases c⟩
variable{u:Value}
theorem nG(f:a.tmps.size=n)(g:t<n):(a.put d u).tmps.getD t undef=if d=some t then u else a.tmps.getD t undef:=by
 cases d with
 |none=>simp[Act.put]
 |some d=>
  by_cases c:d=t
  .subst c;simp[Act.put,f,g]
  have m:=λe=>c (D4 e);show(a.tmps.setIfInBounds d u).getD t undef=_;simp_all
def uN(h:a.defers=[])(m:a.tmps.size=n)(c:M n (mb d u (kQ a n)) a'):a'=a.put d u:=by
 have p:(a.put d u).defers=[]/\(a.put d u).tmps.size=n:=by cases d<;>simp[Act.put,h,m]
 refine acj p.1 c.1 p.2 c.2.1 λt f=>?_;rw[nG m f];cases d with
 |none=>
  exact(c.2.2 t (a.tmps.getD t undef) (by show look (kQ a n) t=_;rw[ig,O f])).2
 |some d=>
  by_cases g:d=t
  .subst g;rw[O rfl];exact(c.2.2 d u (by show look ((d,u)::kQ a n) d=_;rw[b_,O rfl])).2
  rw[X (λe=>g (D4 e))];exact(c.2.2 t (a.tmps.getD t undef) (by show look ((d,u)::kQ a n) t=_;rw[b_,X g,ig,O f])).2
variable{F:Fr}
def fR.sub{F':Fr}{y:Op}{ty:TypeId}{z:Value->World->Prop}(h:∀a,M n F' a->M n F a)(k:fR P n F w y ty z):fR P n F' w y ty z:=by
 rcases k with(⟨v,x,m,p⟩|⟨f,args,m,p⟩)|⟨A,x,m,p⟩
 .exact .inl (.inl ⟨v,x,λa d c q g s=>m a d c q g (h a s),p⟩)
 .exact .inl (.inr ⟨f,args,λa d c q g s=>m a d c q g (h a s),p⟩)
 exact .inr ⟨A,x,λa d c q g s=>m a d c q g (h a s),p⟩
section
variable{P:Program}{n:Nat}{l:List Oper}{a:Act}{w:World}
variable{o:Oper}
def Ij(h:a.defers=[])(A:a.tmps.size=n)(K:∀i v,look F i=some v->i<n/\a.tmps.getD i undef=v){Φ:Value->World->Prop}(L:fR P n F w o.op o.type Φ)(k:∀d,o.dst=some d->blt d n=true)(B:F0 o.op=true->o.dst=none)
  (r:∀j x,o.guard=some (j,x)->∃t,s5 l j=some t/\t<n/\a.tmps.getD t undef=.bool x)(I:∀u z,Φ u z->Q .normal (a.put o.dst u) z):OP P l.toArray Q [o] a w:=by
 have J:=Rv h A;have f:=fR.sub (F':=kQ a n) (λa' C=>⟨C.1,C.2.1,λi v D=>by
  let⟨p,q⟩:=K i v D;have:=(C.2.2 i (a.tmps.getD i undef) (by rw[ig,O p])).2;exact⟨p,this.trans q⟩⟩) L
 let⟨dst,S,T,G,U,g⟩:=o;have c:WO P Q n l [⟨dst,S,T,G,U,none⟩] (kQ a n) w:=by
  rcases f with f|⟨V,z,p,q⟩
  .exact WO.y f k λv z D=>WO.nil λa' m=>by rw[uN h A m];exact I _ _ D
  obtain rfl:=B V;exact WO.s p (WO.nil λa' m=>by
   have e:=uN (d:=none) (u:=undef) h A m;rw[e];exact I _ _ q)
 cases g with
 |none=>exact c a J
 |some g=>
  let⟨j,x⟩:=g;let⟨t,p,q,b⟩:=r j x rfl;exact WO.on p (by rw[ig,O q,b]) rfl c a J
def Pl(h:a.defers=[])(v:a.tmps.size=n)(x:∀d,o.dst=some d->blt d n=true){y:Bool}(z:o.guard=some (j,y))(f:s5 l j=some t)(q:t<n)(hv:a.tmps.getD t undef=.bool (!y)\/a.tmps.getD t undef=undef)(A:Q .normal (a.put o.dst undef) w):OP P l.toArray Q [o] a w:=by
 have m:=Rv h v;let⟨dst,C,D,B,G,g⟩:=o;subst z;have p:look (kQ a n) t=some (a.tmps.getD t undef):=by rw[ig,O q]
 have c:WO P Q n l [] (mb dst undef (kQ a n)) w:=WO.nil λa' s=>by rw[uN h v s];exact A
 cases dst with
 |some d=>
  rcases hv with hv|hv
  .exact WO.off f (by rw[p,hv]) rfl (x d rfl) c a m
  exact WO.ajv f (by rw[p,hv]) (x d rfl) c a m
 |none=>
  have c:WO P Q n l [] (kQ a n) w:=c;rcases hv with hv|hv
  .exact WO.al9 f (by rw[p,hv]) rfl c a m
  exact WO.aa4 f (by rw[p,hv]) c a m
end
def N3(P:Program)(shp:TypeId->Option Sh)n(g:Lv)(o:Oper)(r:RC):=∀(G:Gl) (ρ:List RE) (w:World) (F:Fr),G.shp=shp->pe G ρ (u2 r.σ 0 r.H0) w->r7 (cx G ρ w) ρ (eE r.z6 r.U) F->(∀p∈r.ob,p)->
 fR P n F w o.op o.type λu f=>∃c,u6 ⟨λi=>cZ i r.ch&&g.wr i,λi=>cZ i r.mv&&g.mv i⟩ ρ w c f/\pe G c r.w9 f/\Rt (cx G c f) c r.v u/\∀p∈r.fc,p
def N1(P:Program)(shp:TypeId->Option Sh)n(f:Lv)(o:Oper)(r:RC)(e:C7)p:=∀(G:Gl) (ρ:List RE) (w:World) (F:Fr) (S:AH),G.shp=shp->pe G ρ S w->r7 (cx G ρ w) ρ (eE r.z6 r.U) F->(S[p]?).map kd=(r.H0[p]?).map kd->
 ∃c,jJ P n F w o.op o.type c/\pe G ρ (S.set p (e.put (l9 S p))) c/\u6 f ρ w ρ c
structure G7(P:Program)(shp:TypeId->Option Sh)(n:Nat)(ro:Lv)(l:List Oper)(rs:List RC)(o:Oper)(i:Nat)(r:RC):Prop where
 dst:r.dst=o.dst
 dn:∀d,o.dst=some d->blt d n=true
 st:r.on=true->F0 o.op=true->o.dst=none
 run:r.on=true->(r.F8=none/\N3 P shp n ro o r)\/∃e p,r.F8=some e/\r.ch=[p]/\r.mv=[]/\r.v=.un/\r.fc=[]/\r.w9.length=r.base/\F0 o.op=true/\N1 P shp n ro o r e p
 off:r.on=false->r.ch=[]/\r.mv=[]/\r.σ=[]/\r.w9=u2 [] 0 r.H0/\r.F8=none/\r.v=.un/\r.fc=[]
 gd:(o.guard=none/\r.on=true)\/∃j wt t,o.guard=some (j,wt)/\s5 l j=some t/\t∈r.U/\((∃rj,rs[j]? =some rj/\j<i/\rj.on=false/\r.on=false)\/∃b,l6 r.z6 t=some (one (.bool (.lit b)))/\r.on=(b==wt))
theorem NZ{a:RC}(h:H6 a b=true):H6 b a=true:=by
 have g:u4 a.ch b.ch=true->u4 b.ch a.ch=true:=λh=>dC.2 λi c f=>dC.1 h i f c;unfold H6 at h⊢;grind
def BA{m:Nat}{b:RC}:∀{l:List RC} {k:Nat},HV m b k l=true->∀i a,l[i]? =some a->A4 m (k+i)=true\/(G1 a b/\G1 b a/\H6 a b=true)
 |[],_,_,i,a,h=>by simp at h
 |x::r,k,h,i,a,c=>by
  simp[HV]at h;cases i with
  |zero=>
   simp at c;subst c;exact h.1.imp id λ⟨⟨f,g⟩,p⟩=>⟨IV f,IV g,p⟩
  |succ i=>
   have:=BA h.2 i a (by simpa using c);grind
def yn{b:RC}:∀{l:List RC},zZ b l=true->∀a∈l,∀d,a.dst=some d->b.dst≠some d
 |[],_,a,h,_,_=>by simp at h
 |x::r,h,a,ha,d,c=>by
  simp[zZ]at h;rcases v7.1 ha with rfl|ha
  .intro f;simp_all
  exact yn h.2 a ha d c
structure V0(bef:List Nat)(j:Nat)(b:RC)(done:List RC):Prop where
 fit:b.Fit
 U:∀i∈y5 b.z6 b.U,i<b.base
 σ:∀i∈D6 b.H0 b.σ,i<b.base
 σb:∀i∈b.σ,i<b.base
 ch:∀i∈b.ch,i<b.base
 row:∀i a,done[i]? =some a->A4 (bef.getD j 0) i=true\/(G1 a b/\G1 b a/\H6 a b=true)
 dst:∀a∈done,∀d,a.dst=some d->b.dst≠some d
def H_{c:List Nat}:∀{rest done:List RC} {j:Nat},done=j->EY c j done rest=true->∀i b,rest[i]? =some b->V0 c (j+i) b ((done++rest).take (j+i))
 |[],_,_,_,_,i,b,h=>by simp at h
 |x::r,done,j,m,h,i,b,f=>by
  simp only[EY,r3]at h;let⟨⟨⟨⟨⟨⟨⟨⟨⟨p,q⟩,s⟩,v⟩,g⟩,y⟩,z⟩,D⟩,A⟩,B⟩:=h;cases i with
  |zero=>
   simp at f;subst f;have e:(done++x::r).take (j+0)=done:=by rw[M6,<-m];simp
   rw[e,M6];exact⟨⟨ts p,G8 q⟩,jo.1 s,jo.1 v,jo.1 g,jo.1 y,λi a C=>by
    have:=BA A i a C;rwa[A3]at this,yn z⟩
  |succ i=>
   have:=H_ (rest:=r) (done:=done++[x]) (j:=j+1) (by simp[m]) B i b (by simpa using f);rw[show j+1+i=j+(i+1) by omega]at this;simpa using this
section
variable{P:Program}{T:List (Nat×TI)}{shp:TypeId->Option Sh}{n:Nat}{ro:Lv}{l:List Oper}
def FrA(c:Cx)(ρ:List RE)n(fr:lg)(a:Act):=∀t v,l6 fr t=some v->t<n/\Rt c ρ v (a.tmps.getD t undef)
def Yv(G:Gl)(ro:Lv)(c:List RE)(m:World)n(g:lg×AH)(f:List RC)(s:Nat->Bool)(a:Act)(w:World):=
 ∃ρ,u6 ro c m ρ w/\pe G ρ (kD s 0 f g).2 w/\FrA (cx G ρ w) ρ n (kD s 0 f g).1 a/\a.defers=[]/\a.tmps.size=n/\∀k r,f[k]? =some r->s k=true->(∀p∈r.fc,p)/\(r.on=false->∀d,r.dst=some d->a.tmps.getD d undef=undef)
def Bt(a:Act):lg->Fr
 |[]=>[]
 |(t,_)::r=>(t,a.tmps.getD t undef)::Bt a r
def rI{a:Act}{t:Nat}{v:Value}:∀{fr:lg},look (Bt a fr) t=some v->v=a.tmps.getD t undef/\∃c,l6 fr t=some c
 |(i,x)::r,h=>by
  simp[Bt,b_]at h;rw[eI];by_cases f:i=t
  .simp_all
  rw[X f]at h⊢;exact rI h
def lX{fr:lg}{t:Nat}{g:TV}:∀{U:List Nat},l6 (eE fr U) t=some g->t∈U/\l6 fr t=some g
 |u::r,h=>by
  simp[eE]at h;split at h
  .rename_i v p;rw[eI]at h;by_cases m:u=t
   .grind
   rw[X m]at h;let⟨c,f⟩:=lX h;exact⟨by simp[c],f⟩
  let⟨c,f⟩:=lX h;exact⟨by simp[c],f⟩
def nX{fr:lg}{q:Nat×TV}:∀{U:List Nat},q∈eE fr U->q.1∈U/\l6 fr q.1=some q.2
 |u::r,h=>by
  simp[eE]at h;split at h
  .rename_i v g;rcases v7.1 h with rfl|h
   .grind
   let⟨c,f⟩:=nX h;exact⟨by simp[c],f⟩
  let⟨c,f⟩:=nX h;exact⟨by simp[c],f⟩
def uf{c:Cx}{ρ:List RE}{a:Act}:∀{fr:lg},(∀q∈fr,Rt c ρ q.2 (a.tmps.getD q.1 undef))->r7 c ρ fr (Bt a fr)
 |[],_=>.nil
 |(t,v)::r,h=>.cons ⟨rfl,h (t,v) aa⟩ (uf λq f=>h q (by simp[f]))
def pV(h:a.defers=[])(c:a.tmps.size=n):(a.put d u).defers=[]/\(a.put d u).tmps.size=n:=by cases d<;>simp[Act.put,h,c]
def Jn{v:TV}:u3 mv v=v.mapA (AV.di mv):=by
 cases mv with
 |cons _ _=>rfl
 |nil=>
  have e:∀a:AV,a.di []=a:=λa=>iK aa;cases v with
  |one t=>exact o9 TV.one (uz λa _=>e a).symm
  |D8 l=>exact o9 TV.D8 (yP λt _ a _=>e a).symm
  |un=>rfl
def Rt.Ua{c g:Cx}{f:List RE}(m:∀a v,Rd c ρ a v->Rd g f (AV.di mv a) v){t:TV}{v:Value}(h:Rt c ρ t v):Rt g f (u3 mv t) v:=by
 rw[Jn];cases t with
 |one t=>exact Ag m h
 |D8 l=>let⟨p,e,h⟩:=h;exact⟨p,e,HY m h⟩
 |un=>trivial
theorem pe.q{G:Gl}{A B:AH}(h:pe G ρ A w)(m:B=A.length)(p:∀x:Nat,Q0 (B[x]?) (A[x]?)):pe G ρ B w:=by
 refine⟨dw (by rw[m];exact h.obj.length) λx o r s v=>?_,h.inj,h.u0,h.z,h.b0,h.tb⟩;have:=p x;rw[s]at this;cases f:A[x]? with
 |none=>rw[f]at this;cases this
 |some o'=>
  rw[f]at this;cases this with
  |some y=>
   let⟨C,c,g⟩:=h.at_ f;rw[v]at c;cases c;exact y.symm.or g
def GU{c:Cx}{b:Bool}{v:Value}(h:Rt c ρ (one (.bool (.lit b))) v):v=.bool b:=by
 cases h;rfl
variable{G:Gl}{ρ0:List RE}{w0:World}{q0:lg×AH}{rs:List RC}
theorem MR(hG:G.shp=shp)(hro:∀i,ro.wr i=false\/ro.mv i=false->i<ρ0)(hq0:∀i,i<ρ0.length->(ro.wr i=false\/ro.mv i=false)->i<q0.2)(hp:∀i,∀j∈cr l i,j<i)(hc:hU q0 rs)(hok:EY (kn [] l) 0 [] rs=true)(hlen:rs=l.length)(hrc:∀i o r,l[i]? =some o->rs[i]? =some r->G7 P shp n ro l rs o i r)
  (hob:∀i r,rs[i]? =some r->(∀j r',rs[j]? =some r'->A4 ((kn [] l).getD i 0) j=true->∀p∈r'.fc,p)->∀p∈r.ob,p)
  {s:Nat->Bool}{o:Oper}(inv:Yv G ro ρ0 w0 n q0 rs s a w)(ho:l[i]? =some o)(hsi:s i=false)(hpre:∀j∈cr l i,s j=true)(hcl:∀k,s k=true->∀j∈cr l k,s j=true):
  OP P l.toArray (λe a' w'=>e=.normal/\Yv G ro ρ0 w0 n q0 rs (λj=>s j||Nat.beq i j) a' w') [o] a w:=by
 obtain⟨ρ,hS,hR,hf,F,I,hfc⟩:=inv;have hil:i<l.length:=(sy.1 ho).1;obtain⟨b,hb⟩:∃b,rs[i]? =some b:=⟨_,r5 N⟩;have m:=hrc i o b ho hb;have okAt:∀j r,rs[j]? =some r->V0 (kn [] l) j r (rs.take j):=λj r z=>by
  have:=H_ (done:=[]) rfl hok j r z;simpa using this
 have V:=okAt i b hb;have hbits:∀j,A4 ((kn [] l).getD i 0) j=true->s j=true:=vj hp hcl i i (tw _) hil hpre
 have U:∀j r,rs[j]? =some r->j<i->s j=true\/(G1 b r/\G1 r b/\H6 b r=true):=λj r z hj=>by
  rcases V.row j r (by rw[G2,O hj];exact z)with h|⟨f,y,Z⟩
  .exact .inl (hbits j h)
  exact .inr ⟨y,f,NZ Z⟩
 have m1:∀j r,rs[j]? =some r->i<j->s j=false\/(G1 b r/\G1 r b/\H6 b r=true):=λj r z hj=>by
  cases hsj:s j with
  |false=>exact .inl rfl
  |true=>
   right;rcases(okAt j r z).row i b (by rw[G2,O hj];exact hb)with h|⟨f,y,Z⟩
   .have hjl:j<l.length:=by rw[<-hlen];exact(sy.1 z).1
    have:=vj hp hcl j j (tw _) hjl (hcl j hsj) i h;rw[hsi]at this;cases this
   exact⟨f,y,Z⟩
 have hdsts:∀j r,rs[j]? =some r->i≠j->∀d,b.dst=some d->r.dst≠some d:=λj r z hj d S=>by
  rcases Nat.lt_or_gt_of_ne hj with h|h
  .exact(okAt j r z).dst b (C5 (by rw[G2,O h];exact hb)) d S
  intro hrd;exact V.dst r (C5 (by rw[G2,O h];exact z)) d hrd S
 have hrs:rs=rs.take i++b::rs.drop (i+1):=by
  have f:=(sy.1 hb);obtain⟨f,y⟩:=f;rw[<-y,<-K6 f,E7]
 have hti:(rs.take i).length=i:=by
  have:=(sy.1 hb).1;simp;omega
 generalize hpreD:rs.take i=pre at hrs hti;generalize hpostD:rs.drop (i+1)=post at hrs;have hpre_at:∀j r,pre[j]? =some r->rs[j]? =some r/\j<i:=λj r h=>by
  have hj:=(sy.1 h).1;rw[<-hpreD,G2]at h;split at h
  .exact⟨h,‹_›⟩
  cases h
 have C:∀j r,post[j]? =some r->rs[i+1+j]? =some r:=λj r h=>by
  rw[<-hpostD,D1]at h;exact h
 have hcp:hU q0 pre/\hU (C9 pre q0) (b::post):=by rw[hrs]at hc;exact hU.PJ.1 hc
 obtain⟨hc1,hb1,E,g,hc2⟩:=hcp;have A:b.base=(C9 pre q0).2.length:=by rw[<-E];exact g.base
 have hst:∀s',kD s' 0 rs q0=kD s' (i+1) post (bif s' i then b.qs (kD s' 0 pre q0)else b.Jj (kD s' 0 pre q0)):=λs'=>by
  rw[hrs,Gt,hti,A3];rfl
 have hl1:(kD s 0 pre q0).2.length=b.base:=by rw[A];exact yw hc1 rfl
 have hag:Agr b (kD s 0 pre q0) (C9 pre q0):=GS hc1 (λj r z=>by
  rw[A3];obtain⟨f,y⟩:=hpre_at j r z;exact(U j r f y).imp id λ⟨Z,_,h4⟩=>⟨Z,h4⟩) ⟨rfl,λ_ _=>rfl,λ_ _=>rfl,λ_ _=>rfl⟩
 have hgb:P9 b (kD s 0 rs q0):=by
  rw[hst s,hsi,cond_false];refine AK g hc2 (by rw[ej g A.symm];exact tw _) ((jh g hl1).trans (ej g A.symm).symm) (λj r z=>(m1 _ r (C j r z) N).imp id λ⟨Z,_,h4⟩=>⟨Z,h4⟩) ?_;refine⟨λx L hlt=>?_,λx L hlt=>?_,λt T=>?_,λx L hlt=>?_⟩
  .rw[jM g hl1,O hlt,hag.ob x L,E]
  .rw[jM g hl1,O hlt,hag.kd x L,E]
  .show l6 (kD s 0 pre q0).1 t=_;rw[hag.sl t T,hb1]
  rw[jM g hl1,X N,O hlt]
 have D:Rel b (kD (λj=>s j||Nat.beq i j) 0 rs q0) (kD s 0 rs q0):=by
  rw[hst s,hst (λj=>s j||Nat.beq i j),hsi,cond_false];have e1:(false||Nat.beq i i)=true:=by simp
  rw[e1,cond_true];have ne:∀j,j≠i->(s j||Nat.beq i j)=s j:=λj hj=>by
   have:Nat.beq i j=false:=by rw[<-not_eq_true,beq_eq];exact λe=>hj e.symm
   rw[this,Bool.or_false]
  have e2:kD (λj=>s j||Nat.beq i j) 0 pre q0=kD s 0 pre q0:=rN λj _ hj=>ne j N;have e3:∀q,kD (λj=>s j||Nat.beq i j) (i+1) post q=kD s (i+1) post q:=λq=>rN λj hj _=>ne j N;rw[e2,e3];refine Gd g V.ch hc2 (by rw[ej g A.symm];exact tw _) ((jh g hl1).trans (ej g A.symm).symm) (λj r z=>⟨m1 _ r (C j r z) N,hdsts _ r (C j r z) N⟩) (Kt g hl1)
 have hSl:b.w9.length<=(kD s 0 rs q0).2.length:=by
  have f:(kD s 0 rs q0).2.length=(C9 rs q0).2.length:=yw hc rfl;rw[f,hrs,zm];have:=FJ hc2;rw[ej g A.symm]at this;exact this
 have hge:q0.2.length<=b.base:=by rw[A];exact FJ hc1
 generalize hq:kD s 0 rs q0=q at hR hf hgb D hSl;generalize hq':kD (λj=>s j||Nat.beq i j) 0 rs q0=q' at D;have part:Part G ρ q.2 w b.base b.w9.length:=⟨hR,g.le,hSl,hgb.gn⟩
 have hmask:u2 b.σ 0 (q.2.take b.base)=u2 b.σ 0 b.H0:=by
  refine List.ext_getElem? λx=>?_;rw[qH,qH,G2,A3];by_cases L:x<b.base
  .rw[O L];by_cases hm:x∈b.σ
   .rw[hgb.ob x hm L]
   simp[X hm];have f:x<q.2.length:=by have:=g.le;omega
   have y:x<b.H0.length:=by have:=g.base;omega
   rw[r5 f,r5 y];rfl
  rw[X L,M3 (l:=b.H0) (by have:=g.base;omega)]
 have hσids:∀x∈b.σ,∀k∈(l9 q.2 x).ids,k<b.base:=λx L k J=>by
  have:=hgb.ob x L (V.σb x L);have e:l9 q.2 x=l9 b.H0 x:=by unfold l9;rw[getD_eq_getElem?_getD,getD_eq_getElem?_getD,this]
  rw[e]at J;exact V.σ k (vJ J L)
 have m3:∀t∈b.U,∀v,l6 b.z6 t=some v->t<n/\Rt (cx G ρ w) ρ v (a.tmps.getD t undef):=λt T v hv=>hf t v (by rw[hgb.sl t T];exact hv);have hslotIds:∀t∈b.U,∀v,l6 b.z6 t=some v->∀k∈v.ids,k<b.base:=λt T v hv k J=>V.U k (sK hv J T);have hro':∀k,ro.wr k=false\/ro.mv k=false->k<b.base:=λk J=>y7 (hq0 k (hro k J) J) hge
 have hgs:∀j wt t,o.guard=some (j,wt)->s5 l j=some t->t∈b.U->∀c,l6 b.z6 t=some (one (.bool (.lit c)))->t<n/\a.tmps.getD t undef=.bool c:=λj wt t _ _ T c hc=>by
  obtain⟨f,y⟩:=m3 t T _ hc;exact⟨f,GU y⟩
 have clause:∀u k r,rs[k]? =some r->k≠i->s k=true->(∀p∈r.fc,p)/\(r.on=false->∀d,r.dst=some d->(a.put o.dst u).tmps.getD d undef=undef):=λu k r z J hsk=>by
  obtain⟨f,y⟩:=hfc k r z hsk;refine⟨f,λhoff d S=>?_⟩;have hkl:k<l.length:=by rw[<-hlen];exact(sy.1 z).1
  have hrk:=hrc k _ r (r5 hkl) z;have hdn:d<n:=by have:=hrk.dn d (by rw[<-hrk.dst];exact S);exact blt_eq.mp this
  rw[nG I hdn,X (λe=>hdsts k r z (Ne.symm J) d (by rw[m.dst];exact e) S)];exact y hoff d S
 have hsne:∀k,(s k||Nat.beq i k)=true->k≠i->s k=true:=λk J hne=>by
  have:Nat.beq i k=false:=by rw[<-not_eq_true,beq_eq];exact λe=>hne e.symm
  rwa[this,Bool.or_false]at J
 have fin:∀u w' H,b.F8=none->u6 ⟨λi=>cZ i b.ch&&ro.wr i,λi=>cZ i b.mv&&ro.mv i⟩ (ρ.take b.base) w H w'->pe (Gz G (ρ.drop b.w9.length)) H b.w9 w'->Rt (cx (Gz G (ρ.drop b.w9.length)) H w') H b.v u->(∀p∈b.fc,p)->(b.on=false->u=undef)->Yv G ro ρ0 w0 n q0 rs (λj=>s j||Nat.beq i j) (a.put o.dst u) w':=by
  intro u w' H R Mi hRt hv hfcb hoff;obtain⟨k1,k2,k3,k4⟩:=part.merge rfl rfl R V.ch hro' Mi hRt D.len D.ob;refine⟨_,hS.trans k2,by rw[hq'];exact k1,λt v B=>?_,(pV F I).1,(pV F I).2,λk r z hsk=>?_⟩
  .rw[hq',D.sl t]at B;unfold RC.M9 at B;by_cases S:b.dst=some t
   .rw[O S]at B;cases B;rw[m.dst]at S;have htn:t<n:=blt_eq.mp (m.dn t S);rw[nG I htn,O S];exact⟨htn,k4 _ _ hv⟩
   rw[X S,I0]at B;obtain⟨v0,f,rfl⟩:=B;obtain⟨y,Z⟩:=hf t v0 f;rw[m.dst]at S;rw[nG I y,X S];exact⟨y,Z.Ua k3⟩
  by_cases J:k=i
  .subst J;rw[hb]at z;cases z;refine⟨hfcb,λho' d S=>?_⟩;rw[m.dst]at S;rw[nG I (blt_eq.mp (m.dn d S)),O S];exact hoff ho'
  exact clause u k r z J (hsne k hsk J)
 cases K:b.on with
 |false=>
  obtain⟨e1,e2,e3,e4,e5,e6,e7⟩:=m.off K;rcases m.gd with⟨_,y⟩|⟨j,wt,t,hg,T,htU,Q⟩
  .rw[K]at y;cases y
  have htv:t<n/\(a.tmps.getD t undef=.bool (!wt)\/a.tmps.getD t undef=undef):=by
   rcases Q with⟨rj,hrj,hji,hoffj,_⟩|⟨c,hc,E⟩
   .have hjl:j<l.length:=by omega
    have hrcj:=hrc j _ rj (r5 hjl) hrj;have hdj:rj.dst=some t:=by
     rw[hrcj.dst];have:=T;rw[nJ,r5 hjl]at this;exact this
    have hsj:s j=true:=by
     rcases U j rj hrj hji with h|⟨h,_,_⟩
     .exact h
     exact absurd htU (h.dst t hdj)
    exact⟨blt_eq.mp (hrcj.dn t (by rw[<-hrcj.dst];exact hdj)),.inr ((hfc j rj hrj hsj).2 hoffj t hdj)⟩
   obtain⟨f,y⟩:=hgs j wt t hg T htU c hc;refine⟨f,.inl ?_⟩;rw[y];rw[K]at E;cases c<;>cases wt<;>simp at E⊢
  refine Pl F I m.dn hg T htv.1 htv.2 ⟨rfl,fin undef w (ρ.take b.base) e5 (u6.refl _ _ _) ?_ (by rw[e6];trivial) (by rw[e7];simp) λ_=>rfl⟩;have key:u2 b.σ 0 (q.2.take b.base)=b.w9:=by rw[hmask,e3,e4]
  have hm:=part.W8 hσids;rw[key]at hm;exact hm
 |true=>
  have hg:∀j wt,o.guard=some (j,wt)->∃t,s5 l j=some t/\t<n/\a.tmps.getD t undef=.bool wt:=λj wt hgd=>by
   rcases m.gd with⟨f,_⟩|⟨j',wt',t,hg,T,htU,Q⟩
   .rw[hgd]at f;cases f
   rw[hgd]at hg;cases hg;rcases Q with⟨_,_,_,_,h⟩|⟨c,hc,E⟩
   .rw[K]at h;cases h
   obtain⟨f,y⟩:=hgs j wt t hgd T htU c hc;refine⟨t,T,f,?_⟩;rw[y];rw[K]at E;cases c<;>cases wt<;>simp at E⊢
  have hF:∀k v,look (Bt a (eE b.z6 b.U)) k=some v->k<n/\a.tmps.getD k undef=v:=λk v J=>by
   obtain⟨f,tv,y⟩:=rI J;obtain⟨Z,h4⟩:=lX y;exact⟨(m3 k Z tv h4).1,f.symm⟩
  rcases m.run K with⟨R,hrun⟩|⟨e,p,R,hch,hmv,hv,hfcb,hres,hst2,hrun⟩
  .have hy:=hrun (Gz G (ρ.drop b.w9.length)) (ρ.take b.base) w (Bt a (eE b.z6 b.U)) hG (by rw[<-hmask];exact part.W8 hσids) (uf λx L=>by
    obtain⟨f,y⟩:=nX L;refine(m3 _ f _ y).2.on part.cle λk J r z _=>?_;rw[G2,O (hslotIds _ f _ y k J)];exact z) (hob i b hb λj r' hr' hbit=>(hfc j r' hr' (hbits j hbit)).1)
   exact Ij F I hF hy m.dn (m.st K) hg λu w' ⟨H,f,y,Z,h4⟩=>⟨rfl,fin u w' H R f y Z h4 λh=>by rw[K]at h;cases h⟩
  have hpb:p<b.base:=V.ch p (by rw[hch];simp);obtain⟨w',f,y,Z⟩:=hrun G ρ w (Bt a (eE b.z6 b.U)) q.2 hG hR (uf λx L=>by
   obtain⟨f,y⟩:=nX L;exact(m3 _ f _ y).2) (hgb.kd p (by rw[hch];simp) hpb)
  have hdst:=m.st K hst2;refine Ij (Φ:=λu x=>u=undef/\x=w') F I hF (.inr ⟨hst2,w',f,rfl,rfl⟩) m.dn (m.st K) hg λu x ⟨_,L⟩=>?_;subst L;have hle:=Z.ext.le hR.lo;refine⟨rfl,ρ,hS.trans Z,?_,λt v B=>?_,(pV F I).1,(pV F I).2,λk r z hsk=>?_⟩
  .rw[hq'];refine y.q (by rw[B1];exact D.len) λx=>?_;have:=D.ob x;have hpl:p<q.2.length:=by omega
   by_cases hxp:x=p
   .subst hxp;rw[G5 hpl];rw[r5 hpl,E5,RC.B9,X N,RC.obj,O (by rw[hch];simp),R]at this;rw[ji (r5 hpl)];exact this
   rw[N9 (λe=>hxp e.symm)];have e9:(q.2[x]?).map (b.B9 x)=q.2[x]?:=by
    cases q.2[x]? with
    |none=>rfl
    |some o=>
     rw[E5,RC.B9,X N,RC.gv (by rw[hch];simpa using hxp),hmv];rfl
   rw[e9]at this;exact this
  .rw[hq',D.sl t]at B;unfold RC.M9 at B;rw[m.dst,hdst,X aa,hmv]at B;have hv2:l6 q.1 t=some v:=by
    cases L:l6 q.1 t with
    |none=>rw[L]at B;cases B
    |some v0=>rw[L]at B;exact B
   obtain⟨h5,h6⟩:=hf t v hv2;rw[nG I h5,hdst,X aa];exact⟨h5,h6.ed hle (mz.refl _)⟩
  by_cases J:k=i
  .subst J;rw[hb]at z;cases z;exact⟨by rw[hfcb];simp,λh=>by rw[K]at h;cases h⟩
  exact clause u k r z J (hsne k hsk J)
end
def Rd.qd{c:Cx}{a:AV}{v:Value}(h:Rd c ρ a v):Qd c a v:=λf=>(jF f).1 h
theorem jy{fr:lg}{t:Nat}:∀{U:List Nat},t∈U->l6 (eE fr U) t=l6 fr t
 |u::r,h=>by
  simp only[eE];split
  .rename_i v f;rw[eI];by_cases c:u=t
   .grind
   rw[X c];refine jy ?_;grind
  rename_i f;by_cases c:u=t
  .subst c;by_cases g:u∈r
   .exact jy g
   rw[f];cases m:l6 (eE fr r) u with
   |none=>rfl
   |some x=>exact absurd (lX m).1 g
  refine jy ?_;grind
def jE{fr:lg}{U:List Nat}{x:Operand}(h:∀t∈Operand.sl x,t∈U):ez (eE fr U) x=ez fr x:=by
 cases x with
 |tmp i=>exact jy (h i (by simp[Operand.sl]))
 |_=>rfl
theorem yt{fr:lg}:∀{A B:List Nat},eE fr (A++B)=eE fr A++eE fr B
 |[],_=>rfl
 |a::r,B=>by
  simp only[E4,eE,yt (A:=r)];split<;>rfl
def wo{c f:Type}{R:c->f->Prop}:∀{a b:List c} {F:List f},hY R (a++b) F->∃x y,F=x++y/\hY R a x/\hY R b y
 |[],b,F,h=>⟨[],F,rfl,.nil,h⟩
 |p::a,b,_,h=>by
  cases h with
  |cons g m=>
   let⟨x,y,e,q,s⟩:=wo m;exact⟨_::x,y,by rw[e];rfl,.cons g q,s⟩
theorem Sn{A B:Fr}{v:Value}:look A i=some v->look (A++B) i=some v:=by
 intro h;induction A with
 |nil=>cases h
 |cons q r c=>
  rw[E4,b_];rw[b_]at h;grind
def vB{g:Bool}{v:TV}{K:TV->Prop}(h:split g v K):∃p,K p/\ ∀c ρ u,Rt c ρ v u->Rt c ρ p u:=by
 unfold split at h;split at h
 next b q=>have:=D4 (gQ q);grind
 .rename_i e _ s;have:=D4 (gQ s);subst this;cases f:e.val with
  |true=>
   refine⟨_,h.1 ((BE.h_ e true).2 f),λc ρ u m=>?_⟩;cases m;rw[f];exact Pd.bool (e:=.lit true)
  |false=>
   refine⟨_,h.2 ((BE.h_ e false).2 f),λc ρ u m=>?_⟩;cases m;rw[f];exact Pd.bool (e:=.lit false)
 grind
section
variable{P:Program}{T:List (Nat×TI)}{shp:TypeId->Option Sh}{m3:ic}{n:Nat}{ro:Lv}{l:List Oper}
variable{G:Gl}{o:Oper}{A B:List Nat}
def CX{fr:lg}(g:r7 (cx G ρ w) ρ (eE fr (A++B)) F){m:Value->World->Prop}(h:∀c,r7 (cx G ρ w) ρ (eE fr A) c->fR P n c w o.op o.type m):fR P n F w o.op o.type m:=by
 rw[yt]at g;obtain⟨c,s,rfl,p,_⟩:=wo g;exact fR.sub (λa f=>⟨f.1,f.2.1,λi v q=>f.2.2 i v (Sn q)⟩) (h c p)
def pure_run{fr:lg}{v s:TV}{ob x:List Prop}(z:∀c ρ u,Rt c ρ v u->Rt c ρ s u)
  (h:∀(G:Gl) (ρ:List RE) (w:World) (F:Fr),G.shp=shp->pe G ρ (u2 σ 0 H) w->r7 (cx G ρ w) ρ (eE fr A) F->(∀p∈ob,p)->Yields P n F w o.op o.type λu f=>Kp [] w f/\Rt (cx G ρ f) ρ v u/\∀p∈x,p)b:
  N3 P shp n ro o ⟨true,o.dst,s,A++B,σ,[],[],b,u2 σ 0 H,none,ob,x,fr,H⟩:=by
 intro G ρ w F C g D m;refine CX D λI q=>.inl ((h G ρ w I C g q m).mono λu f ⟨y,J,K⟩=>⟨ρ,u6.kp g y,g.kp y,z _ _ _ J,K⟩)
def Nv{c:Cx}{ρ:List RE}{H:AH}:∀{f:List AV} {m:List Value},(∀i,i∉gb f)->hY (Rd c ρ) f m->hY (Qd c) (Io H f) m
 |[],_,_,h=>by cases h;exact .nil
 |a::r,_,g,h=>by
  cases h with
  |cons p q=>
   have s:∀i,i∉gb r:=λi v=>g i (by cases a<;>simp[gb,v]);refine .cons ?_ (Nv s q);have e:a.vw H=a:=by
    cases a with
    |own i=>exact absurd (by simp[gb]) (g i)
    |sub i _ _=>exact absurd (by simp[gb]) (g i)
    |_=>rfl
   rw[e];exact Rd.qd p
variable{op:Op}
def QO(hT:bG P shp T){U:lg}{V:AH}{ty:TypeId}{r:PR}(b:G.shp=shp)(E:pe G ρ V w)(d:r7 (cx G ρ w) ρ U F)(h:LW T U V op=some r):Yields P n F w op ty λu m1=>Kp [] w m1/\Rt (cx G ρ m1) ρ r.v u/\∀p∈r.fc,p:=by
 subst b;unfold LW at h;split at h
 .rename_i t m f;split at h
  .rename_i e s sz z l I j;split at h
   .rename_i k C J;split at h
    .rename_i c;cases h;simp only[r3]at c;have c:=c.1;have v:=ts c.1.1;have K:=G8 c.1.2;have L:=G8 c.2;let⟨o,A⟩:=(hT _ _ I).2;let⟨D,⟨zz,y,B⟩,_⟩:=A s rfl;have q:(P.info? e).map (·.size)=some s.size:=by
      cases Z:P.info? e with
      |none=>simp[Z]at y
      |some i=>simp only[Z,E5,Option.some.injEq,Prod.mk.injEq]at y⊢;exact y.2.1
     let⟨pv,H,m3⟩:=lW d j;obtain⟨x,Q,h4,h5,h6⟩:=rX J m3 λp hp us v6=>Nv (λi hi=>by
      have:=wy hp hi;rw[C]at this;simp at this) v6
     have g:=R.buildSlice (P:=P) (n:=n) (F:=F) (w:=w) (ty:=ty) (m:=m) o q (GL y) H Q h4 N K;have e0:f.toList.toArray=f:=by simp
     rw[e0]at g;have a:=Kp.alloc w (.cells x.flatten.toArray e);have hml:m<=maxLen:=by
      have:=S8 m (jn s);simp only[maxLen];omega
     have S:=h6.ed (Kp.le a);refine .inl ⟨_,_,g,a,?_,aa⟩;show Pd _ _ _;rw[<-v];refine .fz (tw _) N (by rw[v];exact L) S (.inr ⟨_,rfl,⟨⟨aa,λ⟨i,r,q1,q2⟩=>by have:=(E.u0 i r _ q1 q2).2.1;simp at this,λy=>by have:=E.z _ y;simp at this⟩,.inr ⟨_,e,(0,0),M5 w _,D,λ_=>rfl⟩⟩,?_⟩);exact dW (sp:=[]) (by rw[A1];exact M5 w _)
    cases h
   cases h
  cases h
 cases h
def Pp(hT:bG P shp T){fr:lg}{id:Nat}(h:adC T ro fr H o.op=some (id,e))b(w9:AH):
  N1 P shp n ro o ⟨true,none,.un,kX o.op++B,[],[id],[],b,w9,some e,[],[],fr,H⟩ e id/\F0 o.op=true:=by
 unfold adC at h;split at h
 .rename_i t x y z u;have A:kX o.op=Operand.sl x++Operand.sl y++Operand.sl z:=by rw[u];rfl
  have hmx:∀R∈Operand.sl x,R∈kX o.op++B:=λR h=>by rw[A];simp[h]
  have hmy:∀R∈Operand.sl y,R∈kX o.op++B:=λR h=>by rw[A];simp[h]
  have hmz:∀R∈Operand.sl z,R∈kX o.op++B:=λR h=>by rw[A];simp[h]
  refine⟨?_,by rw[u];rfl⟩;intro G ρ w F S hG hR Z J;subst hG;have Z:=Z;have J:=J;rw[u]
  have fin:∀g (o':AO) (p:World),ρ[id]? =some (.blk g)->(∃o0,S[id]? =some o0)->Kp [g] w p->ro.wr id=true->OR (cx G ρ p) ρ o' (.blk g)->pe G ρ (S.set id o') p/\u6 ro ρ w ρ p:=λg o' p L ⟨o0,C⟩ m hw ho'=>by
   have d:=hR.put C L rfl m ho';refine⟨d.1,d.2,λ_ _ _ h=>h,λj r' hj D=>⟨D,λgx hgx=>m.block gx (hR.u0 j r' gx D hgx).2.1 ?_⟩,λ_ _ h=>h⟩;simp only[D0];rintro rfl;have:=hR.inj j id _ _ _ D L hgx rfl;subst this;rw[hw]at hj;cases hj
  have i:∀g (p:World),ρ[id]? =some (.blk g)->Kp [g] w p->(cx G ρ w).le (cx G ρ p):=λg p L m=>(show u7 ρ w ρ p from⟨m.os,m.tape,m.output,m.size,λb hb hl=>⟨hl,m.block b hb (by
   simp only[D0];rintro rfl;exact hl ⟨id,_,L,rfl⟩)⟩⟩).le hR.lo
  split at h
  .rename_i s id' k v m3 hx hy hz;split at h
   .rename_i s' f x' Q hown hof;split at h
    .rename_i hck;cases h;simp only[r3,u9]at hck;obtain⟨⟨rfl,v6⟩,hw⟩:=hck;let⟨hm,hk,_⟩:=(hT _ _ m3).2;rw[<-jE hmx]at hx;rw[<-jE hmy]at hy;rw[<-jE hmz]at hz;obtain⟨va,h1,g,L,rfl⟩:=az Z hx;let⟨vb,h3,h4⟩:=az Z hy;cases h4 with|int=>
     let⟨vz,h5,r⟩:=az Z hz;have hHs:=cC Q aa;rw[hHs]at J;let⟨o0,C,I⟩:=I0.1 J;have U:=ji C;let⟨r',D,hor⟩:=hR.at_ C;rw[L]at D;cases D;cases o0 with
     |s6 s2 f2=>
      have I:=I;have e3:=D4 (D4 I);subst e3;let⟨g',e,a,c,k1,k2,k3⟩:=hor;cases e;let⟨p,a'',c',hsk,m,hg',hl',V⟩:=YY (P:=P) (n:=n) (ty:=o.type) h1 h3 h5 hm hk k1 k2;have K:=i g p L m;have hV:V1 (cx G ρ p) s2 x' vz:=by
       cases v with
       |c a=>
        have r:=r;have hp:=ba (vs:=[vz]) hof (.cons (Rd.qd r) .nil);exact⟨[vz],hp.ed K,.inr ⟨by simpa[pM] using v6,rfl⟩⟩
       |agg l=>
        let⟨us,e,r⟩:=r;have hp:=ba hof (r.imp λ_ _ h=>Rd.qd h);exact⟨us,hp.ed K,.inl ⟨v6,e⟩⟩
      let⟨j1,j2⟩:=fin g (.s6 s2 λj=>if j=k then some x' else f2 j) p L ⟨_,C⟩ m hw ⟨g,rfl,a'',c',hg',hl',λq=>by
       rw[V q];show VO _ _ _ (if q=k then some x' else f2 q);by_cases E:q=k
       .rw[O E,O E];exact hV
       rw[X E,X E];have m1:=k3 q;cases hgm:getM q a.toList<;>cases hfk:f2 q<;>rw[hgm,hfk]at m1
       .trivial
       .exact m1
       .exact m1
       exact V1.ed m1 K⟩
      refine⟨p,hsk.1,?_,j2⟩;rw[U];simpa only[C7.put,dif_pos] using j1
     |r9 l=>cases I
     |_=>cases I
    cases h
   cases h
  .rename_i id' k a m3 hx hy hz;split at h
   .rename_i l Q hw;cases h;let⟨hm,hk,_⟩:=(hT _ _ m3).2;rw[<-jE hmx]at hx;rw[<-jE hmy]at hy;rw[<-jE hmz]at hz;obtain⟨va,h1,g,L,rfl⟩:=az Z hx;let⟨vb,h3,h4⟩:=az Z hy;cases h4 with|int=>
    let⟨vz,h5,r⟩:=az Z hz;have hHs:=cC Q aa;rw[hHs]at J;let⟨o0,C,I⟩:=I0.1 J;have U:=ji C;let⟨r',D,hor⟩:=hR.at_ C;rw[L]at D;cases D;cases o0 with
    |r9 l2=>
     let⟨g',e,a',c,k1,k2,k3⟩:=hor;cases e;let⟨p,a'',c',hsk,m,hg',hl',V⟩:=YY (P:=P) (n:=n) (ty:=o.type) h1 h3 h5 hm hk k1 k2;have K:=i g p L m;let⟨j1,j2⟩:=fin g (.r9 ((k,a)::l2)) p L ⟨_,C⟩ m hw ⟨g,rfl,a'',c',hg',hl',λq=>by
      rw[V q];simp only[u5];by_cases E:q=k
      .rw[O E,O E];exact Rd.ed r K (mz.refl _)
      rw[X E,X E];have m1:=k3 q;cases hgm:getM q a'.toList<;>cases hfk:u5 q l2<;>rw[hgm,hfk]at m1
      .trivial
      .exact m1
      .exact m1
      exact Rd.ed m1 K (mz.refl _)⟩
     refine⟨p,hsk.1,?_,j2⟩;rw[U];exact j1
    |s6 s f=>cases I
    |_=>cases I
   cases h
  cases h
 cases h
def BR(hT:bG P shp T)(z:dN P shp m3){C:lg}{D:AH}{op:Op}{x:XR}:∀{l:List (List Nat×List Nat)},ZF T m3 ro C D op l=some x->∀(G:Gl) (ρ:List RE) (w:World) (F:Fr) (ty:TypeId),G.shp=shp->pe G ρ D w->r7 (cx G ρ w) ρ C F->(∀p∈x.ob,p)->
  fR P n F w op ty λu f=>∃c,u6 ⟨λi=>cZ i x.ch&&ro.wr i,λi=>cZ i x.mv&&ro.mv i⟩ ρ w c f/\pe G c x.w9 f/\Rt (cx G c f) c x.v u/\∀p∈x.fc,p
 |(I,mv)::r,h,G,ρ,w,F,ty,J,K,L,g=>by
  simp only[ZF]at h;split at h
  .rename_i q a;cases h;subst J;have:=SP (n:=n) (ty:=ty) hT z K L a g;have m:∀u f,fY G ⟨λi=>cZ i I&&ro.wr i,λi=>cZ i mv&&ro.mv i⟩ ρ w q F u f->∃c,u6 ⟨λi=>cZ i I&&ro.wr i,λi=>cZ i mv&&ro.mv i⟩ ρ w c f/\pe G c q.H f/\Rt (cx G c f) c q.v u/\∀p∈q.fc,p:=λu f ⟨c,s,y,_,S,U⟩=>⟨c,s,y,S,U⟩;rcases this with h|⟨V,f,s,y⟩
   .exact .inl (h.mono m)
   exact .inr ⟨V,f,s,m _ _ y⟩
  exact BR hT z h G ρ w F ty J K L g
def G7.ext{f c:List RC}(h:G7 P shp n ro l f o i r)(m:∀j,j<i->c[j]? =f[j]?):G7 P shp n ro l c o i r:=
 ⟨h.dst,h.dn,h.st,h.run,h.off,h.gd.imp id λ⟨j,p,t,q,s,v,x⟩=>⟨j,p,t,q,s,v,x.imp (λ⟨rj,y,g,z,C⟩=>⟨rj,by rw[m j g];exact y,g,z,C⟩) id⟩⟩
def vi:∀{rs:List RC} {j:Nat},adI rs j=false->∃r,rs[j]? =some r/\r.on=false/\j<rs
 |r::_,0,h=>⟨r,rfl,h,aa⟩
 |r::rs,j+1,h=>by
  let⟨c,f,g,m⟩:=vi (rs:=rs) h;grind
def x0:lg×AH->List RC->Prop
 |_,[]=>True
 |q,r::c=>r.z6=q.1/\r.H0=q.2/\x0 (r.qs q) c
theorem x0.PJ:∀{a b:List RC} {p:lg×AH},x0 p (a++b)↔x0 p a/\x0 (C9 a p) b
 |[],b,p=>by simp[x0,C9]
 |r::a,b,p=>by simp only[E4,x0,C9,x0.PJ (a:=a),and_assoc]
def x0.fit:∀{c:List RC} {p:lg×AH},x0 p c->(∀r∈c,r.Fit)->hU p c
 |[],_,_,_=>trivial
 |r::c,_,h,f=>⟨h.1,h.2.1,f r aa,h.2.2.fit λx g=>f x (by simp[g])⟩
structure K5(P:Program)(shp:TypeId->Option Sh)(n:Nat)(ro:Lv)(l:List Oper)(q0:lg×AH)(i:Nat)(done:List RC)(q:lg×AH):Prop where
 len:done.length=i
 ch:x0 q0 done
 st:C9 done q0=q
 ok:∀j o r,l[j]? =some o->done[j]? =some r->G7 P shp n ro l done o j r
variable{done:List RC}
def K5.next{s q:lg×AH}(h:K5 P shp n ro l s i done q)(v:l[i]? =some o)(x:r.z6=q.1)(y:r.H0=q.2)(z:G7 P shp n ro l done o i r):K5 P shp n ro l s (i+1) (done++[r]) (r.qs q):=by
 have f:∀j,j<i->(done++[r])[j]? =done[j]?:=λj g=>E0 (by rw[h.len];exact g);refine⟨by simp[h.len],x0.PJ.2 ⟨h.ch,by rw[h.st];exact⟨x,y,trivial⟩⟩,by rw[zm,h.st];rfl,λj o' C g c=>?_⟩;by_cases m:j<i
 .rw[f j m]at c;exact(h.ok j o' C g c).ext λk D=>f k N
 have p:=(sy.1 c).1;simp[h.len]at p;have e:j=i:=by omega
 subst e;rw[Q4 (by rw[h.len];exact tw _),h.len,Nat.sub_self]at c;simp at c;subst c;rw[v]at g;cases g;exact z.ext f
def Dz{f:List Nat}:∀{c done:List RC} {j:Nat},EY f j done c=true->∀r∈c,r.Fit
 |[],_,_,_,r,h=>by simp at h
 |x::c,done,j,h,r,hr=>by
  simp only[EY,r3]at h;let⟨⟨⟨⟨⟨⟨⟨⟨⟨g,m⟩,_⟩,_⟩,_⟩,_⟩,_⟩,_⟩,_⟩,p⟩:=h;rcases v7.1 hr with rfl|hr
  .exact⟨ts g,G8 m⟩
  exact Dz p r hr
variable{r:PR}
def alj{fr:lg}(h:pv T m3 H fr op=some r):F0 op=false:=by cases op<;>first|rfl|simp[pv,pvB,pvX]at h
def XF{fr:lg}(h:LW T fr H op=some r):F0 op=false:=by cases op<;>first|rfl|simp[LW]at h
def Zh{fr:lg}{r:MpR}(h:mapA T H fr op=some r):F0 op=false:=by cases op<;>first|rfl|simp[mapA]at h
def oR{c:Bool}(h:s5 l j=some t):t∈jC l (some (j,c)):=by simp[jC,h]
def SE{fr:lg}{g:Option (Nat×Bool)}(h:wI l fr done g=some true):g=none\/∃j c t,g=some (j,c)/\s5 l j=some t/\t∈jC l g/\∃b,l6 fr t=some (one (.bool (.lit b)))/\true=(b==c):=by
 cases g with
 |none=>exact .inl rfl
 |some g=>
  let⟨j,c⟩:=g;right;simp only[wI]at h;split at h
  .rename_i t f;split at h
   .cases h
   next b _ m=>exact⟨j,c,t,rfl,f,oR f,b,m,(D4 h).symm⟩
   cases h
  cases h
def JK{fr:lg}(v:done=i){g:Option (Nat×Bool)}(h:wI l fr done g=some false):∃j c t,g=some (j,c)/\s5 l j=some t/\t∈jC l g/\((∃rj,done[j]? =some rj/\j<i/\rj.on=false/\false=false)\/∃b,l6 fr t=some (one (.bool (.lit b)))/\false=(b==c)):=by
 cases g with
 |none=>cases h
 |some g=>
  let⟨j,c⟩:=g;simp only[wI]at h;split at h
  .rename_i t f;split at h
   next m=>let⟨r,p,q,x⟩:=vi m;exact⟨j,c,t,rfl,f,oR f,.inl ⟨r,p,N,q,rfl⟩⟩
   next b _ s=>exact⟨j,c,t,rfl,f,oR f,.inr ⟨b,s,(D4 h).symm⟩⟩
   cases h
  cases h
def drop_cons{c:List Oper}(h:l.drop i=o::c):l[i]? =some o/\l.drop (i+1)=c:=by
 constructor
 .have:=o9 (·[0]?) h;grind
 have:=o9 (List.drop 1) h;simpa[J1,Nat.add_comm] using this
theorem HQ(hT:bG P shp T)(hO:dN P shp m3){K:lg->AH->Prop}{q0:lg×AH}:∀(m i:Nat) (c:List Oper) (fr:lg) (H:AH) (done:List RC),l.drop i=c->i<=l->nM n c=true->K5 P shp n ro l q0 i done (fr,H)->UN T m3 ro l K m i c fr H done->
  ∃v6,K5 P shp n ro l q0 l v6 (C9 v6 q0)/\okR l v6=true/\zg (Z7 v6 (kn [] l) v6) (oq (W2 v6) (K (xd (C9 v6 q0).1 []) (C9 v6 q0).2))
 |0,_,_,_,_,_,_,_,_,_,h=>h.elim
 |m+1,i,[],fr,H,done,hd,hil,_,Q,h=>by
  simp only[UN]at h;have hi:i=l:=by
   have:=o9 List.length hd;simp at this;omega
  subst hi;split at h
  .rename_i hok;refine⟨done,by rw[Q.st];exact Q,hok,?_⟩;rw[Q.st];exact h
  exact h.elim
 |m+1,i,o::c,fr,H,done,hd,hil,v2,Q,h=>by
  obtain⟨ho,hd2⟩:=drop_cons hd;have hil2:=(sy.1 ho).1;have g:=λd hdd=>oU v2 o aa d hdd;have hdr:nM n c=true:=by simp only[nM,r3]at v2;exact v2.2
  have m1:=λE (hrc:G7 P shp n ro l done o i E) (h1:E.z6=fr) (h2:E.H0=H) (h:UN T m3 ro l K m (i+1) c (E.qs (fr,H)).1 (E.qs (fr,H)).2 (done++[E]))=>HQ hT hO m (i+1) c _ _ _ hd2 hil2 hdr (Q.next ho h1 h2 hrc) h;simp only[UN]at h;split at h
  ·-- it is not run
   rename_i hg;obtain⟨j,wt,t,h1,h2,h3,h4⟩:=JK Q.len hg;exact m1 _ ⟨rfl,g,(λh=>by cases h),(λh=>by cases h),λ_=>⟨rfl,rfl,rfl,rfl,rfl,rfl,rfl⟩,.inr ⟨j,wt,t,h1,h2,h3,h4⟩⟩ rfl rfl h
  ·-- it is run
   rename_i hg;have z:∀U,(o.guard=none/\true=true)\/∃j wt t,o.guard=some (j,wt)/\s5 l j=some t/\t∈U++jC l o.guard/\((∃rj,done[j]? =some rj/\j<i/\rj.on=false/\true=false)\/∃b,l6 fr t=some (one (.bool (.lit b)))/\true=(b==wt)):=λU=>by
    rcases SE hg with h|⟨j,wt,t,h1,h2,h3,h4⟩
    .exact .inl ⟨h,rfl⟩
    exact .inr ⟨j,wt,t,h1,h2,E3 _ h3,.inr h4⟩
   split at h
   ·-- a pick
    rename_i t x y hop;split at h
    .rename_i b hlk;split at h
     .rename_i v hev;obtain⟨v',h,Z⟩:=vB h;refine m1 _ ⟨rfl,g,(λ_ C=>by rw[hop]at C;cases C),λ_=>.inl ⟨rfl,?_⟩,(λh=>by cases h),z _⟩ rfl rfl h;refine pure_run (A:=t::Operand.sl (cond b x y)) (σ:=[]) (v:=v) Z (λG ρ w F S V D _=>?_) _;have e1:l6 (eE fr (t::Operand.sl (cond b x y))) t=some (one (.bool (.lit b))):=by rw[jy aa];exact hlk
      obtain⟨vt,k1,k2⟩:=fS D e1;have k2:=GU k2;subst k2;rw[<-jE (U:=t::Operand.sl (cond b x y)) (λt' ht=>by simp[ht])]at hev;obtain⟨u,k3,k4⟩:=az D hev;rw[hop];refine .inl ⟨u,w,?_,Kp.refl w,k4,aa⟩;cases b with
      |true=>exact R.Pf k1 rfl k3
      |false=>exact R.NY k1 rfl k3
     exact h.elim
    exact h.elim
   split at h
   ·-- an entry is put
    rename_i id e hins;obtain⟨k1,k2⟩:=Pp (P:=P) (n:=n) hT (B:=jC l o.guard) hins H (u2 [] 0 H);split at h
    .rename_i E q;refine m1 _ ⟨q.symm,g,λ_ _=>q,λ_=>.inr ⟨e,id,rfl,rfl,rfl,rfl,rfl,by rw[sj],k2,k1⟩,(λh=>by cases h),z _⟩ rfl rfl h
    exact h.elim
   split at h
   ·-- a map of functions
    rename_i mr hmp;obtain⟨v',h,Z⟩:=vB (oQ h);refine m1 _ ⟨rfl,g,(λ_ C=>by rw[Zh hmp]at C;cases C),λ_=>.inl ⟨rfl,?_⟩,(λh=>by cases h),z _⟩ rfl rfl h;refine pure_run Z (λG ρ w F S V D _=>?_) _;subst S;obtain⟨u,j1,j2⟩:=CD (n:=n) (ty:=o.type) hT V D hmp;exact .inl ⟨u,w,j1,Kp.refl w,j2,aa⟩
   split at h
   .rename_i r I;obtain⟨v',h,Z⟩:=vB h;have hr0:=I;unfold aiQ at I;dsimp only at I;split at I
    .rename_i r' s;replace s:=ada T m3 s;cases I;refine m1 _ ⟨rfl,g,(λ_ C=>by rw[XF s]at C;cases C),λ_=>.inl ⟨rfl,?_⟩,(λh=>by cases h),z _⟩ rfl rfl h;exact pure_run Z (λG ρ w F S V D _=>QO hT S V D s) _
    split at I
    .rename_i r' hpv;cases I;refine m1 _ ⟨rfl,g,(λ_ C=>by rw[alj hpv]at C;cases C),λ_=>.inl ⟨rfl,?_⟩,(λh=>by cases h),z _⟩ rfl rfl h;exact pure_run Z (λG ρ w F S V D k=>by subst S;exact zF hT hO V D hpv k) _
    split at I
    .rename_i J;refine m1 _ ⟨rfl,g,(λ_ C=>by
      unfold VN at J;rw[C]at J;cases q:o.dst with
      |none=>rfl
      |some d=>rw[q]at J;cases J),λ_=>.inl ⟨rfl,?_⟩,(λh=>by cases h),z _⟩ rfl rfl h
     intro G ρ w F S V D k;refine CX D λFA hfA=>?_;have hk:=BR (n:=n) hT hO I G ρ w FA o.type S V hfA k;have key:∀u L,(∃f,u6 ⟨λi=>cZ i r.ch&&ro.wr i,λi=>cZ i r.mv&&ro.mv i⟩ ρ w f L/\pe G f r.w9 L/\Rt (cx G f L) f r.v u/\∀p∈r.fc,p)->∃f,u6 ⟨λi=>cZ i r.ch&&ro.wr i,λi=>cZ i r.mv&&ro.mv i⟩ ρ w f L/\pe G f r.w9 L/\Rt (cx G f L) f v' u/\∀p∈r.fc,p:=λu L ⟨f,j1,j2,j3,j4⟩=>⟨f,j1,j2,Z _ _ _ j3,j4⟩;rcases hk with hk|⟨h0,L,j1,j2⟩
     .exact .inl (hk.mono key)
     exact .inr ⟨h0,L,j1,key _ _ j2⟩
    cases I
   exact h.elim
  exact h.elim
end
section
variable{P:Program}{T:List (Nat×TI)}{G:Gl}{m3:ic}{n k:Nat}{l:List Oper}{ρ:List RE}{H:AH}{fr:lg}{F:Fr}{ds:List DV}{vs:Nat->Value}{f g:DV->Value->World->Prop}
end
theorem It{s:Nat->Bool}:∀{c:List RC} {k:Nat} {q:lg×AH},(∀i,k<=i->i<k+c->s i=true)->kD s k c q=C9 c q
 |[],_,_,_=>rfl
 |r::c,k,q,h=>by
  simp[kD];rw[h k (tw _) aa,cond_true];exact It λi g f=>h i N (by simp at f⊢;omega)
def Bn:∀{rs:List RC} {k:Nat} {q:lg×AH},∃m,kD (λ_=>false) k rs q=(q.1,q.2++replicate m .gone)
 |[],_,q=>⟨0,by simp[kD]⟩
 |r::rs,k,q=>by
  let⟨m,h⟩:=Bn (rs:=rs) (k:=k+1) (q:=r.Jj q);refine⟨(r.w9-r.base)+m,?_⟩;simp[kD];rw[h];simp[RC.Jj]
variable{G:Gl}
def pe.aqg(h:pe G ρ H w)m:pe G (ρ++replicate m RE.no) (H++replicate m .gone) w/\(cx G ρ w).le (cx G (ρ++replicate m RE.no) w)/\mz ρ (ρ++replicate m RE.no)/\∀J,u6 J ρ w (ρ++replicate m RE.no) w:=by
 have f:∀i r,(ρ++replicate m RE.no)[i]? =some r->r≠RE.no->ρ[i]? =some r:=λi r A a=>by
  by_cases B:i<ρ.length
  .rw[E0 B]at A;exact A
  grind
 have C:∀b,live (ρ++replicate m RE.no) b->live ρ b:=λb ⟨i,r,v,p⟩=>⟨i,r,f i r v (by rintro rfl;cases p),p⟩;have c:u7 ρ w (ρ++replicate m RE.no) w:=⟨rfl,rfl,rfl,tw _,λb _ B=>⟨λk=>B (C b k),rfl⟩⟩;have q:=iF ρ (replicate m .no);refine⟨⟨?_,λi j r D g v p K L=>h.inj i j r D g (f i r v (by rintro rfl;cases K)) (f j D p (by rintro rfl;cases L)) K L,λi r g v p=>h.u0 i r g (f i r v (by rintro rfl;cases p)) p,h.z,h.b0,h.tb.ed (c.le h.lo)⟩,c.le h.lo,q,λJ=>⟨c,λi r _ s=>?_,λi r _ s=>⟨?_,λ_ _=>rfl⟩,λi g d=>q i _ d aa⟩⟩
 .refine hY.append (dw h.obj.length λi o r x s=>?_) ?_
  .let⟨D,y,I⟩:=h.at_ x;rw[s]at y;cases y;exact I.ed (c.le h.lo) q λ_ _=>rfl
  refine dw aa λi o r x s=>?_;rw[List.getElem?_replicate]at x s;by_cases A:i<m
  .rw[O A]at x s;cases x;cases s;rfl
  grind
 .grind
 grind
def qD{t:Nat}{v:TV}:∀{fr:lg} {l:List Nat},(t,v)∈xd fr l->t∉l/\l6 fr t=some v
 |(i,x)::r,l,h=>by
  simp[xd]at h;cases f:cZ i l<;>rw[f]at h
  .rcases v7.1 h with e|h
   .cases e;refine⟨λm=>?_,by rw[eI,O rfl]⟩;rw[cu.2 m]at f;cases f
   let⟨c,g⟩:=qD h;simp at c;exact⟨c.2,by rw[eI,X (λe=>c.1 e.symm)];exact g⟩
  let⟨c,g⟩:=qD h;refine⟨c,?_⟩;rw[eI,X]
  .exact g
  rintro rfl;exact c (cu.1 f)
def xY{m:Nat}{p:Prop}:∀{c:List RC} {k:Nat},p∈Dj m k c->∃j r,c[j]? =some r/\A4 m (k+j)=true/\p∈r.fc
 |r::c,k,h=>by
  simp[Dj]at h;rcases h with h|h
  .cases f:A4 m k<;>rw[f]at h
   .simp at h
   exact⟨0,r,rfl,f,h⟩
  let⟨j,g,q,v,s⟩:=xY h;exact⟨j+1,g,by simpa using q,by rwa[show k+(j+1)=k+1+j by omega],s⟩
def Ue{f:List RC}:∀{c:List Nat} {g:List RC},c=g.length->(∀p∈Z7 f c g,p)->∀i r,g[i]? =some r->(∀p∈Dj (c.getD i 0) 0 f,p)->∀p∈r.ob,p
 |_,[],_,_,i,r,h,_=>by simp at h
 |m::c,b::g,D,h,i,r,s,B=>by
  cases i with
  |zero=>
   simp at s;subst s;intro p v;have C:=λq z=>h q (D3 _ z);cases A:b.ob with
   |nil=>rw[A]at v;simp at v
   |cons x y=>
    rw[A]at C;exact gW.1 (gh.1 (C _ (v8 _)) B) p (by rw[<-A];exact v)
  |succ i=>
   exact Ue (by simpa using D) (λq z=>h q (E3 _ z)) i r (by simpa using s) (by simpa using B)
def Il:∀{c:List RC} {p:Prop},p∈W2 c->∃(j:Nat) (r:RC),c[j]? =some r/\p∈r.fc
 |r::c,p,h=>by
  simp[W2]at h;rcases h with h|h
  .exact⟨0,r,rfl,h⟩
  let⟨j,f,g,m⟩:=Il h;exact⟨j+1,f,by simpa using g,m⟩
variable{T:List (Nat×TI)}{m3:ic}
def UE{y:Lv}{f:List RE}{R:World}{id:Nat}(hT:bG P G.shp T)(hO:dN P G.shp m3)(hm:P.follows .mixedOrders=true)(Z:∀i,y.wr i=false\/y.mv i=false->i<f){K:lg->AH->Prop}{fr:lg}(hd:nM n l=true)
  (h:ajw T m3 y l K fr H)(b:St G y f R fr H F w)(hK:∀fr H F w,K fr H->St G y f R fr H F w->WX Q n .normal F w):WC P Q n (.region id l.toArray true) F w:=by
 let⟨ρ,d,e,hf⟩:=b;let⟨rs,hw,g,D⟩:=HQ (n:=n) hT hO _ 0 l fr H [] aa (H4 _) hd ⟨rfl,trivial,rfl,λj o r _ hr=>by simp at hr⟩ h;simp only[okR,r3]at g;let⟨⟨z,c⟩,g⟩:=g;have c:=ts c;have z:∀i,∀j∈cr l i,j<i:=λi j hj=>by have:=sV z i j hj;omega
 have hc:=hw.ch.fit (Dz g);let⟨J,L⟩:=nk.1 D;have hbl:(kn [] l)=rs.length:=by rw[Ch,c];simp
 have hq0:∀i,i<f.length->(y.wr i=false\/y.mv i=false)->i<H:=λi hi hh=>by
  rw[e.obj.length];have v6:=r5 hi;rcases hh with hh|hh
  .exact(sy.1 (d.L4 i _ hh v6).1).1
  exact(sy.1 (d.loc i _ hh v6)).1
 intro a ha;refine ak8 hm (Inv:=Yv G y f R n (fr,H) rs) z (λs a w h=>by let⟨_,_,_,_,h,_⟩:=h;exact h) (λs a w i o inv ho hsi S hcl=>?_) (λs a w inv A=>?_) ?_
 .refine MR rfl Z hq0 z hc g c hw.ok (λi r hr hfc=>Ue hbl J i r hr λp z=>?_) inv ho hsi S hcl;let⟨j,r',B,C,U⟩:=xY z;rw[A3]at C;exact hfc j r' B C p U
 .let⟨ρ',k1,k2,k3,k4,k5,k6⟩:=inv;rw[It λi _ hi=>A i N]at k2 k3;have hk:=gh.1 L λp z=>by
   let⟨j,r,B,C⟩:=Il z;exact(k6 j r B (A j (by have:=(sy.1 B).1;omega))).1 p C
  refine hK _ _ (Bt a (xd (C9 rs (fr,H)).1 [])) w hk ⟨ρ',k1,k2,uf λq hq=>(k3 q.1 q.2 (qD hq).2).2⟩ a ⟨k4,k5,λi v E=>?_⟩;let⟨B,m1,C⟩:=rI E;have U:l6 (C9 rs (fr,H)).1 i=some m1:=by
   have:∀{fr:lg} {l:List Nat},l6 (xd fr l) i=some m1->(i,m1)∈xd fr l:=by
    intro fr l;generalize xd fr l=x;induction x with
    |nil=>intro h;cases h
    |cons q r ih=>
     let⟨j,u⟩:=q;rw[eI];split
     .grind
     grind
   exact(qD (this C)).2
  exact⟨(k3 i m1 U).1,B.symm⟩
 let⟨m,V⟩:=Bn (rs:=rs) (k:=0) (q:=(fr,H));have I:=(Kp.refl w).drew;let⟨g1,g2,g3,g4⟩:=(e.kp I).aqg m;refine⟨_,(d.trans (u6.kp e I)).trans (g4 y),by rw[V];exact g1,λt v E=>?_,ha.1,ha.2.1,λk r _ hk=>by cases hk⟩;rw[V]at E;let⟨u,B,C⟩:=fS (hf.kp I) E;let⟨U,h4⟩:=ha.2.2 t u B;exact⟨U,by rw[h4];exact C.ed g2 g3⟩
def pW{shp:TypeId->Option Sh}(hT:bG P shp T)(p:dN P shp m3)(q:P.follows .mixedOrders=true):yL P shp T m3:=by
 intro G n x s y c g Q z id L f K fr H F w v h m hK;subst c;have e:f=f.toList.toArray:=by simp
 rw[e];simp only[kE]at h;exact UE hT p q g v h m hK
def bj:List (Nat×TI)->TypeId->Option Sh
 |[],_=>none
 |(_,⟨.sl e (some s),_,_⟩)::r,t=>bif Nat.beq e t then some s else bj r t
 |_::r,t=>bj r t
def Y8(P:Program):List Go.Field->List (Nat×Nat)->Bool
 |[],[]=>true
 |f::r,q::l=>(match P.info? f.type with
  |some i=>Nat.beq f.offset q.1&&Nat.beq i.size q.2&&blt 0 q.2
  |none=>false)&&Y8 P r l
 |_,_=>false
def mzB(s:Sh)(z:Value):=match s.rT,z with
 |true,.agg a=>DT (cellsOf s (c4 s)) a.toList
 |true,_=>false
 |false,z=>DT (cellsOf s (c4 s)) [z]
def adJ{s:Sh}{z:Value}(h:mzB s z=true):∃c,DT (cellsOf s (c4 s)) c=true/\((s.rT=true/\z=.agg c.toArray)\/(s.rT=false/\c=[z])):=by
 unfold mzB at h;split at h
 .grind
 .cases h
 grind
def kzB:KC->Value->Bool
 |.i n,.int .i64 m=>(m=n)
 |.b x,.bool y=>(y=x)
 |.nf,.nilFunc=>true
 |_,_=>false
def Z3:List KC->List Value->Bool
 |[],[]=>true
 |k::r,v::s=>kzB k v&&Z3 r s
 |_,_=>false
theorem Nb:∀{z:List KC} {f:List Value},Z3 z f=true->f=z.map KC.val
 |[],[],_=>rfl
 |k::r,v::s,h=>by
  simp[Z3]at h;rw[O5,<-Nb h.2];have c:=h.1;unfold kzB at c;split at c
  .rw[C6 c];rfl
  .rw[C6 c];rfl
  .rfl
  cases c
def YE(P:Program)(F:Array Go.Field)(t:Nat):List (Nat×Nat)->Bool
 |[]=>true
 |(a,b)::r=>(!Nat.beq t a||(match(F[b]?).bind λf=>P.underlying f.type with
  |some d=>!mn d
  |none=>false))&&YE P F t r
theorem GW{P:Program}{F:Array Go.Field}{t i:Nat}:∀{l:List (Nat×Nat)},YE P F t l=true->Qh t i l=true->∃f d,F[i]? =some f/\P.underlying f.type=some d/\mn d=false
 |(a,b)::r,h,hm=>by
  simp[YE]at h;simp only[Qh,H2,r3]at hm;rcases hm with⟨c,g⟩|hm
  .grind[Nat.eq_of_beq_eq_true]
  exact GW h.2 hm
def agn(P:Program)(T:List (Nat×TI))(t:TypeId)(p:TI):Bool:=match p.k,P.underlying t with
 |.i k,some (.int c)=>(c=k)
 |.bool,some .bool=>true
 |.str,some .string=>true
 |.sl e g,some (.slice f)=>Nat.beq f e&&(match g with
  |none=>true
  |some s=>(bj T e=some s)&&(match P.info? e with
   |some i=>Nat.beq i.size s.size&&Nat.beq i.bytes s.bytes&&(match i.zero with
    |some z=>DT (cellsOf s (c4 s)) z.cells.toList
    |none=>false)
   |none=>false)&&(match s with
   |.u8=>(match P.underlying e,(P.info? e).bind (·.zero)with
    |some (.int k),some (.int c z)=>(k=.u8)&&(c=.u8)&&(z=0)
    |_,_=>false)
   |_=>true))
 |.st q,some (.struct F)=>Y8 P F.toList q&&(match P1 p.zero with
  |some v=>Y6 P t v
  |none=>true)&&YE P F t abn
 |.ar n e,some (.array x f)=>Nat.beq x n&&Nat.beq f e
 |.mg k e z,some (.map c f)=>Nat.beq c k&&Nat.beq f e&&(match P.underlying k with
  |some (.int m)=>(m=.i64)
  |_=>false)&&(match(P.info? e).bind (·.zero)with
  |some (.agg y)=>Z3 z y.toList
  |_=>false)
 |.mp k e g,some (.map c f)=>Nat.beq c k&&Nat.beq f e&&(match P.underlying k with
  |some (.int m)=>(m=.i64)
  |_=>false)&&(match g with
  |none=>match(P.info? e).bind (·.zero)with
   |some .nilFunc=>true
   |_=>false
  |some s=>match(P.info? e).bind (·.zero)with
   |some z=>mzB s z
   |none=>false)
 |.W4,some (.interface _)=>true
 |.ms k e,some (.map c f)=>Nat.beq c k&&Nat.beq f e&&(match P.underlying k with
  |some .string=>true
  |_=>false)&&(match(P.info? e).bind (·.zero)with
  |some (.int .i64 0)=>true
  |_=>false)
 |.ptr,some (.pointer _)=>true
 |.fn,some d=>!mn d
 |.oth,some d=>!mn d
 |_,_=>false
def tiB(P:Program)(T:List (Nat×TI))(t:TypeId)(c:TI):=(match P.info? t with
 |some i=>Nat.beq i.size c.size&&(match i.zero with
  |some z=>DT c.zero z.cells.toList
  |none=>false)
 |none=>false)&&agn P T t c
def ZU(P:Program)(T:List (Nat×TI)):List (Nat×TI)->Bool
 |[]=>true
 |(t,c)::r=>tiB P T t c&&ZU P T r
theorem TY{P:Program}:∀{F:List Go.Field} {g:List (Nat×Nat)},Y8 P F g=true->F.mapM (λf=>(P.info? f.type).map λi=>(f.offset,i.size))=some g/\∀q∈g,0<q.2
 |[],[],_=>⟨rfl,aa⟩
 |f::F,(a,b)::g,h=>by
  simp[Y8]at h;let⟨c,m⟩:=h;let⟨p,s⟩:=TY m;split at c
  .rename_i i v;simp only[r3]at c;have x:=ts c.1.1;have y:=ts c.1.2;have z:0<b:=by have:=(blt_eq).mp c.2;exact this
   grind
  cases c
theorem aer{t:TypeId}{S:TI}(h:tiB P T t S=true):ah7 P (bj T) t S:=by
 simp[tiB,r3]at h;let⟨C,g⟩:=h;refine⟨?_,?_⟩
 .split at C
  .rename_i i y;simp only[r3]at C;let⟨q,m⟩:=C;refine⟨by rw[y,E5,ts q],?_⟩;split at m
   next z A=>exact⟨z.cells.toList,by simp[y,A],m⟩
   cases m
  cases C
 unfold agn at g;split at g
 next k I f c=>simp[f];rw[c,C6 g]
 next f c=>simp[f];exact c
 next f c=>simp[f];exact c
 .rename_i e U D f c;simp only[f];simp only[r3]at g;have V:=ts g.1;subst V;refine⟨c,λs J=>?_⟩;subst J;have q:=g.2;simp at q;let⟨⟨q,m⟩,v⟩:=q;refine⟨q,?_,?_⟩
  .split at m
   .rename_i i y;simp only[r3]at m;let⟨⟨p,K⟩,B⟩:=m;split at B
    next z A=>refine⟨z.cells.toList,?_,B⟩;rw[y,E5,A,ts p,ts K];simp
    cases B
   cases m
  grind
 next Z F f c=>simp only[f];simp at g;let⟨q,m⟩:=TY g.1.1;refine⟨F,c,q,m,λa L=>?_,λi y=>GW g.2 y⟩;have v:=g.1.2;rw[L]at v;exact v
 next n e b D f c=>simp[f];simp only[r3]at g;rw[c,ts g.1,ts g.2]
 .rename_i k e z I D f c;simp[f];simp only[r3]at g;let⟨⟨⟨q,m⟩,v⟩,p⟩:=g;rw[ts q,ts m]at c;refine⟨c,?_,?_⟩
  .split at v
   next r x=>rw[x,C6 v]
   cases v
  split at p
  next j u=>rw[u,<-Nb p]
  cases p
 .rename_i k e U I D f c;simp only[f];simp only[r3]at g;let⟨⟨⟨q,m⟩,v⟩,p⟩:=g;rw[ts q,ts m]at c;refine⟨c,?_,λs J=>?_,λw=>?_⟩
  .split at v
   next r x=>rw[x,C6 v]
   cases v
  .subst J;simp only at p;split at p
   next z A=>let⟨o,K,B⟩:=adJ p;exact⟨z,o,A,K,B⟩
   cases p
  subst w;simp only at p;split at p
  .assumption
  cases p
 next l f c=>simp[f];simp[Program.methodsAt,c]
 .rename_i k e I D f c;simp[f];simp only[r3]at g;let⟨⟨⟨q,m⟩,v⟩,p⟩:=g;rw[ts q,ts m]at c;refine⟨c,?_,?_⟩
  .split at v
   .assumption
   cases v
  split at p
  .assumption
  cases p
 next e f c=>simp only[f];exact⟨e,c⟩
 next d f c=>simp only[f];exact⟨d,c,by simpa using g⟩
 next d f c=>simp only[f];exact⟨d,c,by simpa using g⟩
 cases g
def xU{t:TypeId}{c:TI}:∀{T:List (Nat×TI)},bt T t=some c->(t,c)∈T
 |(j,v)::r,h=>by
  simp[bt]at h;cases f:Nat.beq j t<;>rw[f]at h
  .exact x9 _ (xU h)
  simp_all
def DP{P:Program}{T:List (Nat×TI)}:∀{r:List (Nat×TI)},ZU P T r=true->∀q∈r,tiB P T q.1 q.2=true
 |(t,c)::r,h,q,hq=>by
  simp[ZU]at h;rcases v7.1 hq with rfl|hq
  .exact h.1
  exact DP h.2 q hq
def acy(h:ZU P T T=true):bG P (bj T) T:=λ_ _ c=>aer (DP h _ (xU c))
end Go.Proofs.YtoecbhljidgajaaGreat
namespace Go.Proofs.YtoecbhljidgajaaGreat
def p6:List (Nat×TI):=[
 (1,⟨.fn,1,[.nf]⟩),
 (2,⟨.i .i64,1,[.int 0]⟩),
 (3,⟨.i .i64,1,[.int 0]⟩),
 (4,⟨.bool,1,[.bool (.lit false)]⟩),
 (5,⟨.i .u8,1,[.u8 0]⟩),
 (6,⟨.i .u8,1,[.u8 0]⟩),
 (9,⟨.str,1,[.str ⟨[]⟩]⟩),
 (10,⟨.str,1,[.str ⟨[]⟩]⟩),
 (11,⟨.str,1,[.str ⟨[]⟩]⟩),
 (12,⟨.i .u64,1,[.u64 0]⟩),
 (22,⟨.sl 39 (some (.nm .nop)),1,[.em true]⟩),
 (24,⟨.ptr,1,[.np]⟩),
 (25,⟨.i .i64,1,[.int 0]⟩),
 (28,⟨.ptr,1,[.np]⟩),
 (32,⟨.sl 113 (some (.nm .entry)),1,[.em true]⟩),
 (33,⟨.st [(0,1),(1,1),(2,1),(3,1),(4,1),(5,1),(6,1),(7,1),(8,1),(9,1)],10,[.int 0,.int 0,.int 0,.int 0,.int 0,.int 0,.int 0,.int 0,.bool (.lit false),.em true]⟩),
 (34,⟨.st [(0,1),(1,1),(2,1),(3,1),(4,1),(5,1),(6,1),(7,1),(8,1),(9,1)],10,[.int 0,.int 0,.int 0,.int 0,.int 0,.int 0,.int 0,.int 0,.bool (.lit false),.em true]⟩),
 (35,⟨.sl 3 (some .int),1,[.em true]⟩),
 (36,⟨.st [(0,1),(1,1),(2,1),(3,1),(4,1),(5,1),(6,1),(7,1)],8,[.int 0,.int 0,.int 0,.int 0,.int 0,.int 0,.em true,.str ⟨[]⟩]⟩),
 (37,⟨.st [(0,1),(1,1),(2,1),(3,1),(4,1),(5,1),(6,1),(7,1)],8,[.int 0,.int 0,.int 0,.int 0,.int 0,.int 0,.em true,.str ⟨[]⟩]⟩),
 (38,⟨.st [(0,1),(1,1),(2,10),(12,8)],20,[.u8 0,.int 0,.int 0,.int 0,.int 0,.int 0,.int 0,.int 0,.int 0,.int 0,.bool (.lit false),.em true,.int 0,.int 0,.int 0,.int 0,.int 0,.int 0,.em true,.str ⟨[]⟩]⟩),
 (39,⟨.st [(0,1),(1,1),(2,10),(12,8)],20,[.u8 0,.int 0,.int 0,.int 0,.int 0,.int 0,.int 0,.int 0,.int 0,.int 0,.bool (.lit false),.em true,.int 0,.int 0,.int 0,.int 0,.int 0,.int 0,.em true,.str ⟨[]⟩]⟩),
 (41,⟨.sl 34 (some (.nm .letter)),1,[.em true]⟩),
 (46,⟨.st [(0,1),(1,1),(2,1),(3,1)],4,[.em true,.int 0,.int 0,.int 0]⟩),
 (47,⟨.st [(0,1),(1,1),(2,1),(3,1)],4,[.em true,.int 0,.int 0,.int 0]⟩),
 (52,⟨.sl 119 (some (.nm .c8)),1,[.em true]⟩),
 (53,⟨.sl 122 (some (.nm .opn)),1,[.em true]⟩),
 (54,⟨.sl 125 (some (.nm .snap)),1,[.em true]⟩),
 (55,⟨.st [(0,1),(1,1),(2,1),(3,1),(4,1),(5,1),(6,1)],7,[.int 0,.int 0,.int 0,.int 0,.em true,.em true,.em true]⟩),
 (56,⟨.st [(0,1),(1,1),(2,1),(3,1),(4,1),(5,1),(6,1)],7,[.int 0,.int 0,.int 0,.int 0,.em true,.em true,.em true]⟩),
 (57,⟨.st [(0,1),(1,1),(2,1),(3,1),(4,1),(5,1),(6,1),(7,1),(8,1),(9,7)],16,[.bool (.lit false),.int 0,.int 0,.int 0,.int 0,.int 0,.int 0,.int 0,.em true,.int 0,.int 0,.int 0,.int 0,.em true,.em true,.em true]⟩),
 (58,⟨.st [(0,1),(1,1),(2,1),(3,1),(4,1),(5,1),(6,1),(7,1),(8,1),(9,7)],16,[.bool (.lit false),.int 0,.int 0,.int 0,.int 0,.int 0,.int 0,.int 0,.em true,.int 0,.int 0,.int 0,.int 0,.em true,.em true,.em true]⟩),
 (60,⟨.sl 5 (some .u8),1,[.em true]⟩),
 (62,⟨.st [(0,1),(1,1),(2,1),(3,1),(4,1)],5,[.em true,.int 0,.bool (.lit false),.bool (.lit false),.int 0]⟩),
 (63,⟨.st [(0,1),(1,1),(2,1),(3,1),(4,1)],5,[.em true,.int 0,.bool (.lit false),.bool (.lit false),.int 0]⟩),
 (64,⟨.ptr,1,[.np]⟩),
 (65,⟨.st [(0,1),(1,1),(2,1),(3,1)],4,[.int 0,.int 0,.int 0,.em true]⟩),
 (66,⟨.st [(0,1),(1,1),(2,1),(3,1)],4,[.int 0,.int 0,.int 0,.em true]⟩),
 (67,⟨.sl 72 (some (.nm .l8)),1,[.em true]⟩),
 (68,⟨.sl 4 (some .bool),1,[.em true]⟩),
 (69,⟨.st [(0,1),(1,1),(2,1),(3,4),(7,1),(8,1),(9,1),(10,1),(11,7),(18,1),(19,1),(20,1),(21,1),(22,1)],23,[.int 0,.int 0,.np,.int 0,.int 0,.int 0,.em true,.int 0,.int 0,.int 0,.int 0,.int 0,.int 0,.int 0,.int 0,.em true,.em true,.em true,.em true,.em true,.em true,.em true,.em true]⟩),
 (70,⟨.st [(0,1),(1,1),(2,1),(3,4),(7,1),(8,1),(9,1),(10,1),(11,7),(18,1),(19,1),(20,1),(21,1),(22,1)],23,[.int 0,.int 0,.np,.int 0,.int 0,.int 0,.em true,.int 0,.int 0,.int 0,.int 0,.int 0,.int 0,.int 0,.int 0,.em true,.em true,.em true,.em true,.em true,.em true,.em true,.em true]⟩),
 (71,⟨.st [(0,1),(1,1)],2,[.int 0,.int 0]⟩),
 (72,⟨.st [(0,1),(1,1)],2,[.int 0,.int 0]⟩),
 (76,⟨.ptr,1,[.np]⟩),
 (78,⟨.st [(0,1),(1,1),(2,1),(3,1)],4,[.em true,.em true,.em true,.em true]⟩),
 (79,⟨.st [(0,1),(1,1),(2,1),(3,1)],4,[.em true,.em true,.em true,.em true]⟩),
 (80,⟨.st [(0,1),(1,4),(5,1),(6,1),(7,1),(8,7),(15,1),(16,4)],20,[.int 0,.int 0,.int 0,.int 0,.em true,.int 0,.int 0,.int 0,.int 0,.int 0,.int 0,.int 0,.em true,.em true,.em true,.em true,.em true,.em true,.em true,.em true]⟩),
 (81,⟨.st [(0,1),(1,4),(5,1),(6,1),(7,1),(8,7),(15,1),(16,4)],20,[.int 0,.int 0,.int 0,.int 0,.em true,.int 0,.int 0,.int 0,.int 0,.int 0,.int 0,.int 0,.em true,.em true,.em true,.em true,.em true,.em true,.em true,.em true]⟩),
 (82,⟨.st [(0,1),(1,1),(2,1),(3,20)],23,[.int 0,.int 0,.np,.int 0,.int 0,.int 0,.int 0,.em true,.int 0,.int 0,.int 0,.int 0,.int 0,.int 0,.int 0,.em true,.em true,.em true,.em true,.em true,.em true,.em true,.em true]⟩),
 (83,⟨.st [(0,1),(1,1),(2,1),(3,20)],23,[.int 0,.int 0,.np,.int 0,.int 0,.int 0,.int 0,.em true,.int 0,.int 0,.int 0,.int 0,.int 0,.int 0,.int 0,.em true,.em true,.em true,.em true,.em true,.em true,.em true,.em true]⟩),
 (89,⟨.sl 103 (some (.nm .record)),1,[.em true]⟩),
 (102,⟨.st [(0,1),(1,1),(2,1),(3,1)],4,[.int 0,.int 0,.int 0,.em true]⟩),
 (103,⟨.st [(0,1),(1,1),(2,1),(3,1)],4,[.int 0,.int 0,.int 0,.em true]⟩),
 (104,⟨.fn,1,[.nf]⟩),
 (112,⟨.st [(0,1),(1,1)],2,[.int 0,.em true]⟩),
 (113,⟨.st [(0,1),(1,1)],2,[.int 0,.em true]⟩),
 (114,⟨.st [(0,1),(1,1),(2,1),(3,1),(4,1)],5,[.em true,.int 0,.bool (.lit false),.bool (.lit false),.int 0]⟩),
 (115,⟨.st [(0,1),(1,1),(2,1),(3,1),(4,1)],5,[.em true,.int 0,.bool (.lit false),.bool (.lit false),.int 0]⟩),
 (118,⟨.st [(0,1),(1,1),(2,2)],4,[.int 0,.int 0,.int 0,.int 0]⟩),
 (119,⟨.st [(0,1),(1,1),(2,2)],4,[.int 0,.int 0,.int 0,.int 0]⟩),
 (121,⟨.st [(0,1),(1,1)],2,[.int 0,.int 0]⟩),
 (122,⟨.st [(0,1),(1,1)],2,[.int 0,.int 0]⟩),
 (124,⟨.st [(0,1),(1,1),(2,1),(3,1),(4,1)],5,[.int 0,.int 0,.em true,.bool (.lit false),.str ⟨[]⟩]⟩),
 (125,⟨.st [(0,1),(1,1),(2,1),(3,1),(4,1)],5,[.int 0,.int 0,.em true,.bool (.lit false),.str ⟨[]⟩]⟩),
 (134,⟨.fn,1,[.nf]⟩),
 (138,⟨.mp 3 104 none,1,[.dead]⟩),
 (155,⟨.i .u64,1,[.u64 0]⟩),
 (156,⟨.i .u32,1,[.xx (.w 0) []]⟩),
 (161,⟨.fn,1,[.nf]⟩),
 (162,⟨.st [(0,1),(1,1),(2,1),(3,1),(4,1),(5,1)],6,[.int 0,.int 0,.bool (.lit false),.int 0,.int 0,.nf]⟩),
 (163,⟨.st [(0,1),(1,1),(2,1),(3,1),(4,1),(5,1)],6,[.int 0,.int 0,.bool (.lit false),.int 0,.int 0,.nf]⟩),
 (164,⟨.mg 3 163 [.i 0,.i 0,.b false,.i 0,.i 0,.nf],1,[.dead]⟩),
 (166,⟨.ptr,1,[.np]⟩),
 (168,⟨.st [(0,1),(1,1),(2,1),(3,1),(4,1)],5,[.int 0,.int 0,.int 0,.int 0,.int 0]⟩),
 (169,⟨.st [(0,1),(1,1),(2,1),(3,1),(4,1)],5,[.int 0,.int 0,.int 0,.int 0,.int 0]⟩),
 (174,⟨.fn,1,[.nf]⟩),
 (181,⟨.sl 60 (some (.F9 .u8)),1,[.em true]⟩),
 (193,⟨.i .u64,1,[.u64 0]⟩),
 (205,⟨.mp 3 3 (some .int),1,[.dead]⟩),
 (208,⟨.st [(0,1),(1,1)],2,[.int 0,.int 0]⟩),
 (209,⟨.st [(0,1),(1,1)],2,[.int 0,.int 0]⟩),
 (210,⟨.mp 3 209 (some (.nm .span)),1,[.dead]⟩),
 (212,⟨.sl 216 (some (.nm .field)),1,[.em true]⟩),
 (214,⟨.fn,1,[.nf]⟩),
 (215,⟨.st [(0,1),(1,1),(2,1),(3,1)],4,[.int 0,.int 0,.u64 0,.em true]⟩),
 (216,⟨.st [(0,1),(1,1),(2,1),(3,1)],4,[.int 0,.int 0,.u64 0,.em true]⟩),
 (222,⟨.fn,1,[.nf]⟩),
 (223,⟨.fn,1,[.nf]⟩),
 (225,⟨.st [(0,8),(8,1),(9,1)],10,[.int 0,.int 0,.int 0,.int 0,.int 0,.int 0,.em true,.str ⟨[]⟩,.bool (.lit false),.int 0]⟩),
 (226,⟨.st [(0,8),(8,1),(9,1)],10,[.int 0,.int 0,.int 0,.int 0,.int 0,.int 0,.em true,.str ⟨[]⟩,.bool (.lit false),.int 0]⟩),
 (231,⟨.ar 5 3,5,[.int 0,.int 0,.int 0,.int 0,.int 0]⟩),
 (232,⟨.sl 235 (some (.nm .spec)),1,[.em true]⟩),
 (234,⟨.st [(0,1),(1,1),(2,1),(3,1),(4,1)],5,[.int 0,.int 0,.int 0,.bool (.lit false),.bool (.lit false)]⟩),
 (235,⟨.st [(0,1),(1,1),(2,1),(3,1),(4,1)],5,[.int 0,.int 0,.int 0,.bool (.lit false),.bool (.lit false)]⟩),
 (243,⟨.ar 2 156,2,[.xx (.w 0) [],.xx (.w 0) []]⟩),
 (244,⟨.fn,1,[.nf]⟩),
 (260,⟨.fn,1,[.nf]⟩),
 (267,⟨.mp 3 232 (some (.F9 (.nm .spec))),1,[.dead]⟩),
 (273,⟨.ar 7 3,7,[.int 0,.int 0,.int 0,.int 0,.int 0,.int 0,.int 0]⟩),
 (285,⟨.fn,1,[.nf]⟩),
 (287,⟨.fn,1,[.nf]⟩),
 (289,⟨.fn,1,[.nf]⟩),
 (291,⟨.fn,1,[.nf]⟩),
 (292,⟨.fn,1,[.nf]⟩),
 (293,⟨.fn,1,[.nf]⟩),
 (298,⟨.ptr,1,[.np]⟩),
 (300,⟨.mp 3 292 none,1,[.dead]⟩),
 (302,⟨.i .i64,1,[.int 0]⟩),
 (322,⟨.fn,1,[.nf]⟩),
 (324,⟨.fn,1,[.nf]⟩),
 (331,⟨.ar 65 3,65,(replicate 65 (.int 0))⟩),
 (332,⟨.ar 65 3,65,(replicate 65 (.int 0))⟩),
 (334,⟨.i .u64,1,[.u64 0]⟩),
 (338,⟨.ptr,1,[.np]⟩),
 (347,⟨.ptr,1,[.np]⟩),
 (349,⟨.ptr,1,[.np]⟩)]
end Go.Proofs.YtoecbhljidgajaaGreat
namespace Go.Proofs.YtoecbhljidgajaaGreat
def fa:bG Tryz.prog (bj p6) p6:=acy cj
def pf:Tryz.prog.follows .mixedOrders=true:=cj
end Go.Proofs.YtoecbhljidgajaaGreat
