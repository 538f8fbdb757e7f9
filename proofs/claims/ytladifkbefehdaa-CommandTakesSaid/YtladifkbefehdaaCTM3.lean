/- What leads to the law, part 3. Conditions: each lemma's own. -/
import Derived.Scope
import Derived.Test.YtladifkbefehdaaProg
import Derived.Test.YtladifkbefehdaaCTM2
set_option linter.unusedVariables false
set_option linter.unusedSimpArgs false
namespace Go.Proofs.Ytladifkbefehdaa
open Go.RowKit
theorem eK {R:Prop}:∀ {l:List Prop},mP l R↔(∀ p ∈ l,p)/\R
 | []=>by simp [mP]
 | p :: l=>by simp only [mP,eK,List.forall_mem_cons,and_assoc]
theorem cN {R:Prop}:∀ {l:List Prop},jg l R↔((∀ p ∈ l,p)->R)
 | []=>by simp [jg]
 | p :: l=>by simp only [jg,cN,List.forall_mem_cons,and_imp]
section
variable {P:Program} {T:List (Nat × TI)} {G:Gl} {O:cH} {Q:Exit->Act->World->Prop} {n:Nat} {ro:Lv} {l:List Oper} {ρ0:List RE} {w0:World}
theorem xL {ρ:List RE} {H:AH} {w:World} (hR:Rep G ρ H w) {a:AV} {v:Value} (h:Rd (cx G ρ w) ρ a v) {s:Sh} {xs:List (den s)} (hv:a.vw H = .fz s xs):∃ A m c,v = .slice A m c/\(A.isNone=true->xs=[]):=by
 cases a <;> simp only [AV.vw] at hv <;> try cases hv
 case fz=>
  have h:Pd (cx G ρ w) (.fz s xs) v:=h
  cases h with
  | fz h1 h2 h3 h4 h5=>
   refine ⟨_,_,_,rfl,fun hn=>?_⟩
   rcases h5 with h5 | ⟨A,rfl,_⟩
   ·exact h5
   ·cases hn
 case own id=>
  split at hv
  ·rename_i t s' ys hH
   cases hv
   rcases h with ⟨g,cap,len,z,h,rfl⟩ | ⟨h,A,rfl⟩
   ·exact ⟨_,_,_,rfl,fun hn=>by cases hn⟩
   ·refine ⟨_,_,_,rfl,fun _=>?_⟩
    rcases bL hR hH with ⟨_,h2⟩ | ⟨g,cap,cells,sp,h2,_⟩
    ·exact h2
    ·rw [h] at h2; cases h2
  ·cases hv
 case sub id o k=>
  split at hv
  ·rename_i t s' ys hH
   cases hv
   rcases h with ⟨g,cap,L,z,h,_,rfl⟩ | ⟨h,rfl,rfl,A,rfl⟩
   ·exact ⟨_,_,_,rfl,fun hn=>by cases hn⟩
   ·exact ⟨_,_,_,rfl,fun _=>by simp⟩
  ·cases hv
theorem An (hT:bc P G.shp T) {ρ:List RE} {H:AH} {w:World} (hR:Rep G ρ H w) {fr:AFr} {F:Fr} (hf:cu (cx G ρ w) ρ fr F) {op:Op} {s:Sh} {xs:List (den s)} {ne:Bool} {ty:TypeId} (h:Dn T H fr op=some ⟨s,xs,ne⟩):∃ b,aH P n F w op ty (.bool (FX ne b).val) w/\(b=true->xs=[]):=by
 unfold Dn at h
 split at h
 ·rename_i bo t x y t'
  have key:∀ {a:AV} {e so sz z},bg T t=some ⟨.sl e so,sz,z⟩->cG fr x=some (.one (.c a))->cG fr y=some (.one (.c (.em true)))->a.vw H = .fz s xs->∃ A m c,ev F x=some (.slice A m c)/\ev F y=some (.slice none 0 0)/\P.underlying t=some (.slice e)/\(A.isNone=true->xs=[]):=by
   intro a e so sz z hft hx hy hv
   obtain ⟨va,h1,h2⟩:=ay hf hx
   obtain ⟨vb,h3,h4⟩:=ay hf hy
   obtain ⟨A,m,c,rfl,hn⟩:=xL hR h2 hv
   have h4:Pd (cx G ρ w) (.em true) vb:=h4
   cases h4 with
   | @em b A' he=>
    cases A' with
    | none=>exact ⟨A,m,c,h1,h3,(hT _ _ hft).2.1,hn⟩
    | some _=>cases he
  split at h
  ·rename_i e so sz z a hft hx hy
   split at h
   ·rename_i s' ys hv
    cases h
    obtain ⟨A,m,c,h1,h2,h3,h4⟩:=key hft hx hy hv
    exact ⟨A.isNone,R.xZ h1 h2 h3,h4⟩
   ·cases h
  ·rename_i e so sz z a hft hx hy
   split at h
   ·rename_i s' ys hv
    cases h
    obtain ⟨A,m,c,h1,h2,h3,h4⟩:=key hft hx hy hv
    exact ⟨A.isNone,R.za h1 h2 h3,h4⟩
   ·cases h
  ·cases h
 ·cases h
theorem gZ {k:Int} {ok:Bool} {K:TV->Prop}:∀ {l:List (Int × AV)},pd k ok K l->K (match lookF k l with
  | some a=>uz ok a true
  | none=>uz ok .nf false)
 | [],h=>h
 | (j,a) :: r,h=>by
  simp only [lookF]
  by_cases hk:k=j
  ·rw [if_pos hk]; exact h.1 hk
  ·rw [if_neg hk]; exact gZ (h.2 hk)
theorem qh (hT:bc P G.shp T) {ρ:List RE} {H:AH} {w:World} (hR:Rep G ρ H w) {fr:AFr} {F:Fr} (hf:cu (cx G ρ w) ρ fr F) {op:Op} {m:MpR} {ty:TypeId} (h:mapA T H fr op=some m):∃ v,aH P n F w op ty v w/\Rt (cx G ρ w) ρ (match lookF m.k m.l with
  | some a=>uz m.ok a true
  | none=>uz m.ok .nf false) v:=by
 unfold mapA at h
 split at h
 ·rename_i t x y ok
  split at h
  ·rename_i id k hft hx hy
   split at h
   ·rename_i l hO2
    cases h
    obtain ⟨hm,hk,_,hz⟩:=(hT _ _ hft).2
    obtain ⟨va,h1,h2⟩:=ay hf hx
    obtain ⟨vb,h3,h4⟩:=ay hf hy
    cases h4 with | int=>
    obtain ⟨g,hg,rfl⟩:=h2
    obtain ⟨r',hr',hor⟩:=hR.at_ (bk hO2 (by simp))
    rw [hg] at hr'; cases hr'
    obtain ⟨g',e,a,c,k1,k2,k3⟩:=hor
    cases e
    have hrun:=R.th (P:=P) (n:=n) (ty:=ty) ok h1 h3 hm hk (hz rfl) k1 k2
    refine ⟨_,hrun,?_⟩
    have k4:=k3 k
    dsimp only
    cases hgm:getM k a.toList <;> cases hfk:lookF k l <;> rw [hgm,hfk] at k4
    ·cases ok with
     | false=>exact (rfl:(_:Value)=_)
     | true=>exact ⟨_,rfl,.cons rfl (.cons (Pd.bool (e:=.lit false)) .nil)⟩
    ·exact k4.elim
    ·exact k4.elim
    ·cases ok with
     | false=>exact k4
     | true=>exact ⟨_,rfl,.cons k4 (.cons (Pd.bool (e:=.lit true)) .nil)⟩
   ·cases h
  ·cases h
 ·cases h
theorem jF (hT:bc P G.shp T) (hO:aT P G.shp O) {K:AFr->AH->Prop} (hK:∀ fr H F w,K fr H->St G ro ρ0 w0 fr H F w->WX Q n .normal F w) :
  ∀ (m:Nat) (ops:List Oper) (fr:AFr) (H:AH) (F:Fr) (w:World),iB n ops=true->wpOps T O ro l K m ops fr H->St G ro ρ0 w0 fr H F w->WO P Q n l ops F w
 | 0,_,_,_,_,_,_,h,_=>h.elim
 | _+1,[],fr,H,F,w,_,h,hs=>WO.nil (hK fr H F w h hs)
 | m+1,o :: rest,fr,H,F,w,hd,h,hs=>by
  have ih:=jF hT hO hK m
  have hs0:=hs
  obtain ⟨ρ,hS,hR,hf⟩:=hs
  have hdo:=ic hd o (by simp)
  have hdr:iB n rest=true:=by simp only [iB,Bool.and_eq_true] at hd; exact hd.2
  obtain ⟨dst,op,ty,pos,af,g⟩:=o
  simp only [wpOps] at h
  split at h
  ·-- no guard
   split at h
   ·-- an element of what nobody writes
    rename_i s xs i hat
    unfold JM at hat
    split at hat
    ·rename_i t x y
     split at hat
     ·rename_i s1 xs1 b s2 hx hy hsl
      split at hat
      ·rename_i i' hdc hix
       cases hat
       have hss:s2=s:=of_decide_eq_true hdc
       subst hss
       obtain ⟨h0,h1,h2⟩:=h
       obtain ⟨va,h3,h4⟩:=ay hf hx
       obtain ⟨vb,h5,h6⟩:=ay hf hy
       obtain ⟨k,rfl⟩:=mf hix h6
       obtain ⟨e,hu,_,_,hsz,_⟩:=rB hT hsl
       obtain ⟨j,rfl⟩:=Int.eq_ofNat_of_zero_le h0
       have hj:j<xs.length:=by omega
       have hxj:=List.getElem?_eq_getElem hj
       obtain ⟨A,kk,rfl,_,hfe,us,hus⟩:=CT (ρ:=ρ) h4 hxj
       have h7:=cN.1 (h2 _ (by rw [Int.toNat_natCast]; exact hxj)) hus.jj
       refine WO.y (φ:=fun v w'=>v = .pointer (some (A.add (j*s2.size)))/\w' = w) (.inl ⟨_,_,R.gW h3 h5 hu hsz rfl hj,rfl,rfl⟩) hdo fun v w' ⟨e1,e2⟩=>?_
       subst e1; subst e2
       refine ih rest _ H _ _ hdr h7 ⟨ρ,hS,hR,?_⟩
       cases dst with
       | some d=>exact .cons ⟨rfl,hfe⟩ hf
       | none=>exact hf
      ·cases hat
     ·cases hat
    ·cases hat
   ·split at h
    ·-- a comparison to nil
     rename_i s xs ne hnl
     obtain ⟨b,hrun,hb⟩:=An (n:=n) (ty:=ty) hT hR hf hnl
     refine WO.y (φ:=fun v w'=>v = .bool (FX ne b).val/\w' = w) (.inl ⟨_,_,hrun,rfl,rfl⟩) hdo fun v w' ⟨e1,e2⟩=>?_
     subst e1; subst e2
     refine ih rest _ H _ _ hdr (h b hb) ⟨ρ,hS,hR,?_⟩
     cases dst with
     | some d=>exact .cons ⟨rfl,Pd.bool⟩ hf
     | none=>exact hf
    split at h
    ·-- a map of functions
     rename_i m0 hmp
     obtain ⟨v0,hrun,hv0⟩:=qh (n:=n) (ty:=ty) hT hR hf hmp
     refine WO.y (φ:=fun v w'=>v=v0/\w' = w) (.inl ⟨_,_,hrun,rfl,rfl⟩) hdo fun v w' ⟨e1,e2⟩=>?_
     subst e1; subst e2
     refine ih rest _ H _ _ hdr (gZ h) ⟨ρ,hS,hR,?_⟩
     cases dst with
     | some d=>exact .cons ⟨rfl,hv0⟩ hf
     | none=>exact hf
    split at h
    ·-- a step that changes nothing
     rename_i r hpv
     obtain ⟨hob,h⟩:=eK.1 h
     refine WO.y (oZ (ty:=ty) hT hO hR hf hpv hob) hdo fun v w1 ⟨hk1,hv1,hfc1⟩=>?_
     refine ih rest _ H _ _ hdr (cN.1 h hfc1) ⟨ρ,hS.trans (Stp.kp hR hk1),hR.kp hk1,?_⟩
     cases dst with
     | some d=>exact .cons ⟨rfl,hv1⟩ (hf.kp hk1)
     | none=>exact hf.kp hk1
    ·split at h
     ·rename_i r hst hsv
      obtain ⟨hob,h⟩:=eK.1 h
      have key:∀ v w',dS G ro ρ w r F v w' -> WO P Q n l rest (eU dst v F) w':=by
       rintro v w' ⟨ρ',k1,k2,k3,k4,k5⟩
       refine ih rest _ _ _ _ hdr (cN.1 h k5) ⟨ρ',hS.trans k1,k2,?_⟩
       cases dst with
       | some d=>exact .cons ⟨rfl,k4⟩ k3
       | none=>exact k3
      rcases xN (ty:=ty) hT hO hR hf hsv hob with hy | ⟨e,w',hsk,haf⟩
      ·exact WO.y hy hdo key
      ·cases dst with
       | some d=>simp [As,e] at hst
       | none=>exact WO.s hsk (key _ _ haf)
     ·exact h.elim
  ·-- a guard
   rename_i j wt hg
   split at h
   ·rename_i r hgr
    obtain ⟨hob,h⟩:=eK.1 h
    have:=sT (tl:=[]) (G:=G) (Q:=Q) (n:=n) (l:=l) (ρ:=ρ) (H:=H) (iA hT hO m) hgr (fun _ _ e=>by cases e) hob hd hR hf fun w1 hk1 hfc1 hFd hfd hf1 hbd hdt=>by
     rw [List.append_nil]
     exact ih r.tail _ H _ _ hdt (cN.1 h hfc1) ⟨ρ,hS.trans (Stp.kp hR hk1),hR.kp hk1,.cons ⟨rfl,Pd.bool⟩ hf1⟩
    rwa [List.append_nil] at this
   ·exact h.elim
def cP (n:Nat):Code->Bool
 | .seq a b=>cP n a && cP n b
 | .cond _ a b=>cP n a && cP n b
 | .block _ a=>cP n a
 | .loop a=>cP n a
 | .scope a=>cP n a
 | .region _ ops _=>iB n ops.toList
 | _=>true
def yi (P:Program) (T:List (Nat × TI)) (G:Gl) (O:cH) (n:Nat) (ro:Lv) (ρ0:List RE) (w0:World):Prop:=
 ∀ (Q:Exit->Act->World->Prop) (k0 id:Nat) (L:List (Nat × LI)) (ops:Array Oper) (K:Exit->AFr->AH->Prop) (fr:AFr) (H:AH) (F:Fr) (w:World),iB n ops.toList=true->ra T O ro k0 L (.region id ops true) K fr H->St G ro ρ0 w0 fr H F w ->
  (∀ fr H F w,K .normal fr H->St G ro ρ0 w0 fr H F w->WX Q n .normal F w)->WC P Q n (.region id ops true) F w
theorem tZ (hT:bc P G.shp T) (hO:aT P G.shp O) (hD:yi P T G O n ro ρ0 w0) {k0:Nat} (hk0:ρ0.length<=k0) {L:List (Nat × LI)} :
  ∀ (c:Code) (Q:Exit->Act->World->Prop) (K:Exit->AFr->AH->Prop) (fr:AFr) (H:AH) (F:Fr) (w:World),cP n c=true->ra T O ro k0 L c K fr H->St G ro ρ0 w0 fr H F w ->
   (∀ e fr H F w,K e fr H->St G ro ρ0 w0 fr H F w->WX Q n e F w)->WC P Q n c F w:=by
 intro c
 induction c <;> intro Q K fr H F w hc h hs hK
 case skip=>exact WC.skip (hK _ _ _ _ _ h hs)
 case seq a b iha ihb=>
  simp only [cP,Bool.and_eq_true] at hc
  refine WC.seq (iha _ _ fr H F w hc.1 h hs fun e fr H F w h hs=>?_)
  cases e with
  | normal=>exact WX.next (ihb _ _ fr H F w hc.2 h hs hK)
  | _=>exact hK _ fr H F w h hs
 case cond c a b iha ihb=>
  simp only [cP,Bool.and_eq_true] at hc
  obtain ⟨ρ,hS,hR,hf⟩:=hs
  have hs:St G ro ρ0 w0 fr H F w:=⟨ρ,hS,hR,hf⟩
  simp only [ra] at h
  split at h
  ·rename_i he
   obtain ⟨v,h1,h2⟩:=ay hf (cg he)
   cases h2 with | bool=>
   exact WC.HU h1 (iha _ _ fr H F w hc.1 h hs hK)
  ·rename_i he
   obtain ⟨v,h1,h2⟩:=ay hf (cg he)
   cases h2 with | bool=>
   exact WC.Ik h1 (ihb _ _ fr H F w hc.2 h hs hK)
  ·rename_i e _ _ he
   obtain ⟨v,h1,h2⟩:=ay hf (cg he)
   cases h2 with | bool=>
   exact WC.cond h1 (fun hv=>iha _ _ fr H F w hc.1 (h.1 ((BE.dj e true).2 hv)) hs hK) (fun hv=>ihb _ _ fr H F w hc.2 (h.2 ((BE.dj e false).2 hv)) hs hK)
  ·exact h.elim
 case block i a iha=>
  refine WC.block (iha _ _ fr H F w hc h hs fun e fr H F w h hs=>?_)
  cases e with
  | exit j=>
   simp only at h
   intro x hx
   show (if j=i then Q .normal x w else Q (.exit j) x w)
   cases hb:Nat.beq j i <;> rw [hb] at h
   ·have:j≠i:=by rintro rfl; simp at hb
    rw [if_neg this]
    exact hK _ fr H F w h hs x hx
   ·rw [if_pos (Nat.eq_of_beq_eq_true hb)]
    exact hK _ fr H F w h hs x hx
  | _=>exact hK _ fr H F w h hs
 case loop a iha=>
  simp only [ra] at h
  split at h
  ·rename_i I hI
   obtain ⟨s0,h1,h2,h3⟩:=h
   obtain ⟨hr0,h3⟩:=LI.ua.1 h3
   intro x hx
   classical
   let D:Act->World->I.σ->Prop:=fun a w s=>I.J s/\I.rel s0 s/\∃ F,M n F a/\St G ro ρ0 w0 (I.F s).1 (I.F s).2 F w
   have key:∀ m,∀ s a' w,I.μ s=m->D a' w s->∀ (b:Frame) (k:List Item) (cs:List Frame),
     ∃ e a₂ w₂,Q e a₂ w₂/\Arrives P (lone (b.at a' (.code a :: .inLoop a :: k)) cs w) b k cs e a₂ w₂:=by
    intro m
    induction m using Nat.strongRecOn with
    | _ m ih=>
     intro s a' w hm hD b k cs
     obtain ⟨hJ,hrl,F',hM,hst⟩:=hD
     have hround:=iha (fun e x w=>match e with
      | .normal=>∃ s',D x w s' /\ I.μ s' < I.μ s
      | e=>Q e x w) _ _ _ F' w hc (LI.Au.1 (h3 s hJ) hrl) hst (fun e fr H F w h hs=>by
       cases e with
       | normal=>
        obtain ⟨s',h4,h5,h6⟩:=h
        obtain ⟨h9,h6⟩:=LI.ua.1 h6
        obtain ⟨F2,h7,h8⟩:=pK hT hk0 hs h4
        exact fun x hx=>⟨s',⟨h5,h9,F2,hx.sub h8,h7⟩,h6⟩
       | _=>exact hK _ fr H F w h hs) a' hM
     obtain ⟨e,a₁,w₁,hq,harr⟩:=hround b (.inLoop a :: k) cs
     cases e with
     | normal=>
      obtain ⟨s',hD',hlt⟩:=hq
      obtain ⟨e₂,a₂,w₂,hq₂,harr₂⟩:=ih (I.μ s') (hm ▸ hlt) s' a₁ w₁ rfl hD' b k cs
      exact ⟨e₂,a₂,w₂,hq₂,.of_steps (Steps.trans harr (.one step_inLoop)) harr₂⟩
     | exit id=>exact ⟨_,a₁,w₁,hq,.pass (x:=.inLoop a) rfl (fun _ _=>.inl (by simp)) harr⟩
     | goto l=>exact ⟨_,a₁,w₁,hq,.pass (x:=.inLoop a) rfl (fun _ _=>.inl (by simp)) harr⟩
     | ret=>exact ⟨_,a₁,w₁,hq,.pass (x:=.inLoop a) rfl (fun _ _=>.inl (by simp)) harr⟩
     | panic ch=>exact ⟨_,a₁,w₁,hq,.pass (x:=.inLoop a) rfl (fun _ _=>.inl (by simp)) harr⟩
     | outgrown=>exact ⟨_,a₁,w₁,hq,.pass (x:=.inLoop a) rfl (fun _ _=>.inl (by simp)) harr⟩
   intro b k cs
   obtain ⟨F2,h7,h8⟩:=pK hT hk0 hs h1
   obtain ⟨e,a',w',hq,harr⟩:=key _ s0 x w rfl ⟨h2,hr0,F2,hx.sub h8,h7⟩ b k cs
   exact ⟨e,a',w',hq,.of_steps (.one step_loop) harr⟩
  ·exact h.elim
 case exit i=>exact WC.exit (hK _ _ _ _ _ h hs)
 case ret=>exact WC.ret (hK _ _ _ _ _ h hs)
 case scope a iha=>
  refine fun x hx=>wp_scope_straight (iha (Exit.noGoto Q) _ fr H F w hc h hs (fun e fr H F w h hs=>?_) x hx)
  cases e with
  | goto i=>exact h.elim
  | _=>exact hK _ fr H F w h hs
 case label i=>exact WC.label (hK _ _ _ _ _ h hs)
 case region i ops b=>
  cases b with
  | true=>exact hD Q k0 i L ops K fr H F w hc h hs fun fr H F w=>hK _ fr H F w
  | false=>
   have e:ops=ops.toList.toArray:=by simp
   rw [e]
   exact WC.region (jF hT hO (fun fr H F w=>hK _ fr H F w) _ _ fr H F w hc h hs)
 all_goals exact h.elim
end
end Go.Proofs.Ytladifkbefehdaa
namespace Go.Proofs.Ytladifkbefehdaa
open Go.RowKit
def Ec (n:Nat) (ps:List (Nat × Nat)):Nat->Nat->List Nat
 | _,0=>[]
 | k,m+1=>tG n ps k :: Ec n ps (k+1) m
def hY:AO->Bool
 | .row _ _ _=>true
 | _=>false
def CF (H0:AH) (ps:List (Nat × Nat)):Nat->Nat->List Nat
 | _,0=>[]
 | k,m+1=>(bif hY (getO H0 k) then tG k ps k else k) :: CF H0 ps (k+1) m
def BS (H0:AH) (k0:Nat) (H:AH) (l rs:List TV1) (H':AH):Nat->List (Nat × Nat)->List Nat
 | 0,ps=>CF H0 ps 0 k0++Ec H.length ps k0 (H'.length - k0)
 | f+1,ps=>BS H0 k0 H l rs H' f (sr l rs++zl H (CF H0 ps 0 k0++Ec H.length ps k0 (H'.length - k0)) H')
def Ip (T:List (Nat × TI)) (H0:AH) (k0:Nat) (fn:Func) (rs:List TV1) (H':AH) (fr:AFr) (H:AH):List Prop:=
 match mQ T fr H fn.results.toList with
 | some l=>match BS H0 k0 H l rs H' 3 [] with
  | σ=>same (jI H.length σ)++pz H H.length σ l rs++GQ T H H.length σ σ H'
 | none=>[False]
def Bt (T:List (Nat × TI)) (H0:AH) (k0:Nat) (fn:Func) (rs:List TV1) (H':AH) (fr:AFr) (H:AH):Prop:=iZ (Ip T H0 k0 fn rs H' fr H)
def Ix (b:Bool) (T:List (Nat × TI)) (O:cH) (L:List (Nat × LI)) (fn:Func) (args:List TV1) (H:AH) (rs:List TV1) (H':AH):Prop:=
 match fn.body with
 | some c=>jg (AR args) (ra T O (II (bif b then H.length else 0)) H.length L c (fun e fr K=>match e with
  | .ret=>Bt T (bif b then [] else H) H.length fn rs H' fr K
  | .normal=>Bt T (bif b then [] else H) H.length fn rs H' fr K
  | _=>False) (sQ 0 args) H)
 | none=>False
def GK:=Ix false
def tg:=Ix true
section
variable {P:Program} {T:List (Nat × TI)} {G:Gl} {O:cH} {n:Nat} {ρ:List RE} {H:AH} {w:World} {fr:AFr} {F:Fr}
theorem mg {c:Cx}:∀ {args:List TV1} {vs:List Value} {k:Nat},All2 (bW c ρ) args vs->cu c ρ (sQ k args) (qU k vs)
 | [],_,_,h=>by cases h; exact .nil
 | _ :: _,_,_,h=>by cases h with | cons h1 h2=>exact .cons ⟨rfl,h1⟩ (mg h2)
def Bj (tm:Array Value):ResultVar->Sem Value
 | .tmp t=>pure (tm.getD t undef)
 | .cell a t=>do loadVar t (<- asAddr (tm.getD a undef))
theorem xJ {t:TypeId} {v u:Value} (h:aH P 0 [] w (.load t (.const v)) 0 u w):(do loadVar t (<- asAddr v)).run P w = .ok u w:=by
 replace h:=h ⟨#[],[]⟩ none "" #[] none ⟨rfl,rfl,fun _ _ h=>by cases h⟩
 have e:(⟨#[],[]⟩:Act).eval (.const v)=v:=rfl
 simp only [execOp,e,Instr.loadAt] at h
 cases v
 case pointer a=>
  cases a with
  | none=>simp [Instr.sureAddr] at h
  | some a=>
   simp only [Instr.sureAddr,asAddr,pure_bind] at h ⊢
   rw [Sem.run_bind] at h
   cases hr:(loadVar t a).run P w with
   | ok x w'=>rw [hr] at h; simp at h; rw [h.1,h.2]
   | halt x w'=>rw [hr] at h; simp at h
 all_goals simp [Instr.sureAddr] at h
theorem lp (hT:bc P G.shp T) (hR:Rep G ρ H w) (hf:cu (cx G ρ w) ρ fr F) {a:Act} (hM:M n F a):∀ {rs:List ResultVar} {l:List TV1},mQ T fr H rs=some l ->
  ∃ us,All2 (bW (cx G ρ w) ρ) l us/\(rs.mapM (Bj a.tmps)).run P w = .ok us w
 | [],l,h=>by cases h; exact ⟨[],.nil,rfl⟩
 | .tmp t :: r,l,h=>by
  simp only [mQ] at h
  split at h
  ·rename_i tv l' ht hl
   cases h
   obtain ⟨us,h1,h2⟩:=lp hT hR hf hM hl
   obtain ⟨v,h3,h4⟩:=er hf ht
   refine ⟨v :: us,.cons h4 h1,?_⟩
   have h5:=hM.at_ h3
   rw [List.mapM_cons]
   simp [Bj,h2,h5]
  ·cases h
 | .cell p t :: r,l,h=>by
  simp only [mQ] at h
  split at h
  ·rename_i ap l' ht hl
   split at h
   ·rename_i tv fc hld
    cases h
    obtain ⟨us,h1,h2⟩:=lp hT hR hf hM hl
    obtain ⟨v,h3,h4⟩:=er hf ht
    obtain ⟨u,h6,h7⟩:∃ u,aH P 0 [] w (.load t (.const v)) 0 u w/\Rt (cx G ρ w) ρ (.one tv) u:=by
     unfold CR at hld
     split at hld
     ·rename_i hla
      cases hld
      obtain ⟨u,h6,h7,_⟩:=kB (P:=P) (F:=[]) (n:=0) (ty:=0) (x:=.const v) hT hR h4 rfl hla (by simp)
      exact ⟨u,h6,h7⟩
     ·obtain ⟨u,h6,h7,_,_⟩:=qW (P:=P) (F:=[]) (n:=0) (ty:=0) (x:=.const v) hT hR h4 rfl hld
      exact ⟨u,h6,h7⟩
    have h8:=xJ h6
    refine ⟨u :: us,.cons h7 h1,?_⟩
    have h5:a.tmps.getD p undef=v:=(hM.2.2 p v h3).2
    rw [List.mapM_cons,Sem.run_bind]
    simp only [Bj,h5,h8]
    simp [h2]
   ·cases h
  ·cases h
theorem kz {fn:Func} (hT:bc P G.shp T) (hR:Rep G ρ H w) (hf:cu (cx G ρ w) ρ fr F) {a:Act} (hM:M n F a) {l:List TV1} (h:mQ T fr H fn.results.toList=some l) :
  ∃ us,All2 (bW (cx G ρ w) ρ) l us/\(results fn a.tmps).run P w = .ok (rY us) w:=by
 obtain ⟨us,h1,h2⟩:=lp hT hR hf hM h
 refine ⟨us,h1,?_⟩
 have e:results fn a.tmps=(do let vs <- fn.results.mapM (Bj a.tmps); pure (if h:vs.size=1 then vs[0] else .tuple vs)):=rfl
 have e2:fn.results=fn.results.toList.toArray:=by simp
 rw [e,e2,List.mapM_toArray]
 simp only [Sem.run_bind,h2,map_eq_pure_bind,Result.andThen_ok,Sem.run_pure,bind_assoc,pure_bind]
 cases us with
 | nil=>rfl
 | cons u us=>
  cases us with
  | nil=>rfl
  | cons u2 us=>rfl
theorem oM {k i:Nat} (h:i<k):Nat.ble k i=false:=by
 rw [<- Bool.not_eq_true,Nat.ble_eq]; omega
theorem nu {k m:Nat} (h:k<=m) (i:Nat) (hi:(II k).wr i=false\/(II k).mv i=false):i<m:=by
 have:Nat.ble k i=false:=hi.elim id id
 rw [<- Bool.not_eq_true,Nat.ble_eq] at this; omega
def ou (P:Program) (shp:TypeId->Option Sh) (T:List (Nat × TI)) (O:cH):Prop:=∀ (G:Gl) (n:Nat) (ro:Lv) (ρ0:List RE) (w0:World),G.shp=shp->(∀ i,ro.wr i=false\/ro.mv i=false->i<ρ0.length)->yi P T G O n ro ρ0 w0
theorem Sat.FV {shp:TypeId->Option Sh} {f:Nat} {fn:Func} {args rs:List TV1} {pre:List Prop} {L:List (Nat × LI)} (hT:bc P shp T) (hO:aT P shp O) (hD:ou P shp T O) (hfn:P.funcs[f]? = some fn) (hng:(fn.name == "runtime.NumGoroutine")=false)
  (hc:(match fn.body with
   | some c=>cP fn.ntmps c && Nat.ble args.length fn.ntmps
   | none=>false)=true) (h:cD T O L fn args H rs):Sat P shp f args H ⟨pre,rs,none,false⟩:=by
 cases hb:fn.body with
 | none=>rw [hb] at hc; cases hc
 | some c=>
 rw [hb] at hc
 simp only [Bool.and_eq_true] at hc
 refine ⟨⟨fn,hfn,hng,by rw [hb]; rfl⟩,?_⟩
 intro G ρ w vs hshp hR hvs
 subst hshp
 simp only [cD,hb] at h
 have h:=cN.1 h (CI.jj hvs)
 refine pZ.enter hfn hb rfl (by rw [<- hvs.length]; exact hc.2) rfl (tZ hT hO (hD G _ _ ρ w rfl (nu (by rw [<- hR.obj.length]; exact Nat.le_refl _))) (k0:=H.length) (by rw [<- hR.obj.length]; exact Nat.le_refl _) c _ _ _ H _ w hc.1 h ⟨ρ,Stp.refl _ _ _,hR,mg hvs⟩ ?_)
 intro e fr H' F w' hK hst
 obtain ⟨ρ',hS,hR',hf⟩:=hst
 have key:∀ {l},mQ T fr H' fn.results.toList=some l->iZ (pz H' H'.length (iota 0 H.length) l rs)->∀ a,M fn.ntmps F a->a.defers=[]/\∃ v,(results fn a.tmps).run P w' = .ok v w' /\ ∃ x,Ending.returned v = .returned x/\∃ us,x=rY us/\Kp [] w w' /\ All2 (bW (cx G ρ w') ρ) rs us:=by
  intro l hl he a hM
  obtain ⟨us,h1,h2⟩:=kz hT hR' hf hM hl
  refine ⟨hM.1,_,h2,_,rfl,us,rfl,?_,?_⟩
  ·refine ⟨hS.ext.os,hS.ext.tape,hS.ext.output,hS.ext.size,fun b hb _=>?_⟩
   by_cases hl:live ρ b
   ·obtain ⟨i,r,h3,h4⟩:=hl
    exact (hS.pro i r (oM (by rw [hR.obj.length]; exact (List.getElem?_eq_some_iff.1 h3).1)) h3).2 b h4
   ·exact (hS.ext.old b hb hl).2
  ·have h3:=k_ hR' rfl h1 (c_.1 he)
   have h4:bC ρ' (iota 0 H.length)=ρ:=by
    refine List.ext_getElem? fun i=>?_
    by_cases hi:i<H.length
    ·have h5:i<ρ.length:=by rw [<- hR.obj.length]; exact hi
     rw [List.getElem?_eq_getElem h5]
     exact cj (by have:=oO (k:=0) hi; rwa [Nat.zero_add] at this) (hS.pro i _ (oM hi) (List.getElem?_eq_getElem h5)).1
    ·rw [List.getElem?_eq_none (by simp [bC,qe]; omega),List.getElem?_eq_none (by rw [<- hR.obj.length]; omega)]
   rwa [h4] at h3
 cases e with
 | ret=>
  simp only at hK
  split at hK
  ·rename_i l hl; exact fun a ha=>key hl hK a ha
  ·exact hK.elim
 | normal=>
  simp only at hK
  split at hK
  ·rename_i l hl; exact fun a ha=>key hl hK a ha
  ·exact hK.elim
 | _=>exact hK.elim
theorem tz {H0:AH} {ps:List (Nat × Nat)}:∀ {m k:Nat},(CF H0 ps k m).length=m
 | 0,_=>rfl
 | m+1,k=>by rw [CF,List.length_cons,tz]
theorem yq {H0:AH} {ps:List (Nat × Nat)}:∀ {m k i:Nat},i<m->hY (getO H0 (k+i))=false->(CF H0 ps k m)[i]? = some (k+i)
 | 0,_,_,h,_=>absurd h (Nat.not_lt_zero _)
 | m+1,k,0,_,hr=>by
  rw [Nat.add_zero] at hr
  simp [CF,hr]
 | m+1,k,i+1,h,hr=>by
  have:=yq (ps:=ps) (m:=m) (k:=k+1) (i:=i) (Nat.lt_of_succ_lt_succ h) (by rw [show k+1+i=k+(i+1) by omega]; exact hr)
  rw [show k+(i+1)=k+1+i by omega,<- this]; rfl
theorem lr {H0:AH} {k0:Nat} {K:AH} {l rs:List TV1} {H':AH} {i:Nat} (h:i<k0) (hr:hY (getO H0 i)=false):∀ (f:Nat) (ps:List (Nat × Nat)),(BS H0 k0 K l rs H' f ps)[i]? = some i
 | 0,ps=>by
  show (CF H0 ps 0 k0++_)[i]? = _
  rw [List.getElem?_append_left (by rw [tz]; exact h)]
  have:=yq (ps:=ps) (k:=0) h (by rw [Nat.zero_add]; exact hr)
  rwa [Nat.zero_add] at this
 | f+1,ps=>lr h hr f _
theorem HB {b:Bool} (hR:Rep G ρ H w) {i g:Nat} (hg:ρ[i]? = some (.blk g)):hY (getO (bif b then [] else H) i)=false:=by
 cases b
 ·show hY (getO H i)=false
  cases ho:getO H i with
  | row t s xs=>
   obtain ⟨r,hr,h⟩:=hR.at_ (bk ho (by simp))
   rw [hg] at hr; cases hr
   obtain ⟨_,_,h | ⟨_,_,_,_,h,_⟩⟩:=h
   ·exact absurd h.1 (by simp)
   ·cases h
  | _=>rfl
 ·show hY (getO [] i)=false
  simp [getO,hY]
theorem Sat.zy {b:Bool} {shp:TypeId->Option Sh} {f:Nat} {fn:Func} {args rs:List TV1} {pre:List Prop} {H':AH} {L:List (Nat × LI)} (hT:bc P shp T) (hO:aT P shp O) (hD:ou P shp T O) (hfn:P.funcs[f]? = some fn) (hng:(fn.name == "runtime.NumGoroutine")=false)
  (hc:(match fn.body with
   | some c=>cP fn.ntmps c && Nat.ble args.length fn.ntmps
   | none=>false)=true) (h:Ix b T O L fn args H rs H'):Sat P shp f args H ⟨pre,rs,some H',b⟩:=by
 cases hb:fn.body with
 | none=>rw [hb] at hc; cases hc
 | some c=>
 rw [hb] at hc
 simp only [Bool.and_eq_true] at hc
 refine ⟨⟨fn,hfn,hng,by rw [hb]; rfl⟩,?_⟩
 intro G ρ w vs hshp hR hvs
 subst hshp
 simp only [Ix,hb] at h
 have h:=cN.1 h (CI.jj hvs)
 refine pZ.enter hfn hb rfl (by rw [<- hvs.length]; exact hc.2) rfl (tZ hT hO (hD G _ _ ρ w rfl (nu (by cases b <;> simp [hR.obj.length]))) (k0:=H.length) (by rw [<- hR.obj.length]; exact Nat.le_refl _) c _ _ _ H _ w hc.1 h ⟨ρ,Stp.refl _ _ _,hR,mg hvs⟩ ?_)
 intro e fr K F w' hK hst
 obtain ⟨ρ',hS,hR',hf⟩:=hst
 have key:Bt T (bif b then [] else H) H.length fn rs H' fr K->∀ a,M fn.ntmps F a->a.defers=[]/\∃ v,(results fn a.tmps).run P w' = .ok v w' /\ ∃ x,Ending.returned v = .returned x/\∃ us,x=rY us /\
   ∃ ρ',Rep G ρ' H' w' /\ Ext ρ w ρ' w' /\ (∀ (i g:Nat),ρ[i]? = some (.blk g)->ρ'[i]? = some (.blk g))/\All2 (bW (cx G ρ' w') ρ') rs us/\(b=true->Kp [] w w' /\ ∀ (i:Nat) (rr:RE),ρ[i]? = some rr->ρ'[i]? = some rr):=by
  intro hE a hM
  unfold Bt Ip at hE
  split at hE
  ·rename_i l hl
   obtain ⟨us,h1,h2⟩:=kz hT hR' hf hM hl
   replace hE:=c_.1 hE
   refine ⟨hM.1,_,h2,_,rfl,us,rfl,bC ρ' (BS (bif b then [] else H) H.length K l rs H' 3 []),?_,pJ hS.ext,fun i g hg=>?_,?_,fun hb=>?_⟩
   ·exact qt hT hR' rfl (bE.1 fun p hp=>hE p (List.mem_append_left _ (List.mem_append_left _ hp))) fun p hp=>hE p (List.mem_append_right _ hp)
   ·exact cj (lr (by rw [hR.obj.length]; exact (List.getElem?_eq_some_iff.1 hg).1) (HB hR hg) _ _) (hS.bx i g hg)
   ·exact k_ hR' rfl h1 fun p hp=>hE p (List.mem_append_left _ (List.mem_append_right _ hp))
   ·subst hb
    have hlt:∀ (i:Nat) (rr:RE),ρ[i]? = some rr->i<H.length:=fun i rr h=>by rw [hR.obj.length]; exact (List.getElem?_eq_some_iff.1 h).1
    refine ⟨⟨hS.ext.os,hS.ext.tape,hS.ext.output,hS.ext.size,fun b hb _=>?_⟩,fun i rr hi=>?_⟩
    ·by_cases hl:live ρ b
     ·obtain ⟨i,r,h3,h4⟩:=hl
      exact (hS.pro i r (oM (hlt i r h3)) h3).2 b h4
     ·exact (hS.ext.old b hb hl).2
    ·exact cj (lr (hlt i rr hi) rfl _ _) (hS.pro i rr (oM (hlt i rr hi)) hi).1
  ·exact (show False from hE).elim
 cases e with
 | ret=>exact fun a ha=>key hK a ha
 | normal=>exact fun a ha=>key hK a ha
 | _=>exact hK.elim
end
end Go.Proofs.Ytladifkbefehdaa
namespace Go.Proofs.Ytladifkbefehdaa
open Go.RowKit
theorem ep:∀ {ds:List DV} {i:Nat},oK ds i=ds[i]?
 | [],_=>rfl
 | _ :: _,0=>rfl
 | _ :: r,i+1=>by simpa [oK] using ep (ds:=r) (i:=i)
theorem cQ {sl:List Nat}:∀ {ds:List DV} {k j:Nat},j ∈ cc sl k ds↔∃ i a,j=k+i/\ds[i]? = some a/\a.d ∈ sl
 | [],k,j=>by simp [cc]
 | a :: r,k,j=>by
  have ih:=cQ (sl:=sl) (ds:=r) (k:=k+1) (j:=j)
  have key:(∃ i b,j=k+i/\(a :: r)[i]? = some b/\b.d ∈ sl)↔(j=k/\a.d ∈ sl)\/j ∈ cc sl (k+1) r:=by
   rw [ih]
   constructor
   ·rintro ⟨i,b,h1,h2,h3⟩
    cases i with
    | zero=>simp at h2; subst h2; exact .inl ⟨h1,h3⟩
    | succ i=>exact .inr ⟨i,b,by omega,by simpa using h2,h3⟩
   ·rintro (⟨h1,h2⟩ | ⟨i,b,h1,h2,h3⟩)
    ·exact ⟨0,a,by omega,rfl,h2⟩
    ·exact ⟨i+1,b,by omega,by simpa using h2,h3⟩
  rw [key,show cc sl k (a :: r)=(bif bl a.d sl then k :: cc sl (k+1) r else cc sl (k+1) r) from rfl]
  cases hm:bl a.d sl
  ·have:a.d ∉ sl:=fun h=>by rw [aU.2 h] at hm; cases hm
   simp [this]
  ·simp [aU.1 hm]
def vJ (ds:List DV) (ch:List (Nat × Bool)):Prop:=∀ q ∈ ch,∃ a e,ds[q.1]? = some a/\a.v=one (.bool e)/\e.val=q.2
theorem kL {ds:List DV}:∀ {ch:List (Nat × Bool)} {g:BE},zZ ds ch=some g->(g.val=true↔vJ ds ch)/\∀ q ∈ ch,∃ a e,ds[q.1]? = some a/\a.v=one (.bool e)
 | [],g,h=>by cases h; simp [BE.val,vJ]
 | (j,wt) :: r,g,h=>by
  simp only [zZ,ep] at h
  split at h
  ·rename_i a g' h1 h2
   split at h
   ·rename_i e he
    cases h
    obtain ⟨ih1,ih2⟩:=kL h2
    have he:=Option.some.inj (cg he)
    refine ⟨?_,fun q hq=>?_⟩
    ·have e1:vJ ds ((j,wt) :: r)↔e.val=wt/\vJ ds r:=by
      constructor
      ·intro h
       refine ⟨?_,fun q hq=>h q (by simp [hq])⟩
       obtain ⟨a',e',k1,k2,k3⟩:=h (j,wt) (by simp)
       simp only at k1 k3
       rw [h1] at k1; cases k1
       rw [he] at k2
       cases k2
       exact k3
      ·rintro ⟨k1,k2⟩ q hq
       rcases List.mem_cons.1 hq with rfl | hq
       ·exact ⟨a,e,h1,he,k1⟩
       ·exact k2 q hq
     rw [e1,<- ih1]
     cases wt <;> simp [BE.val]
    ·rcases List.mem_cons.1 hq with rfl | hq
     ·exact ⟨a,e,h1,he⟩
     ·exact ih2 q hq
   ·cases h
  ·cases h
theorem nW {ds:List DV} {i j:Nat} {a:DV} (h:(ds.take i)[j]? = some a):ds[j]? = some a/\j<i:=by
 rw [List.getElem?_take] at h
 split at h
 ·exact ⟨h,‹_›⟩
 ·cases h
theorem pB {ds:List DV} {i:Nat}:∀ {ch:List (Nat × Bool)} {g:BE},zZ (ds.take i) ch=some g->zZ ds ch=some g
 | [],g,h=>h
 | (j,wt) :: r,g,h=>by
  simp only [zZ,ep] at h ⊢
  split at h
  ·rename_i a g' h1 h2
   rw [(nW h1).1,pB h2]
   exact h
  ·cases h
theorem mZ:∀ {x y:List (Nat × Bool)},ko x y=true->∀ q ∈ x,q ∈ y
 | [],_,_,q,hq=>by simp at hq
 | (i,a) :: r,(j,b) :: l,h,q,hq=>by
  simp only [ko,Bool.and_eq_true,beq_iff_eq] at h
  have h1:=Nat.eq_of_beq_eq_true h.1.1
  rcases List.mem_cons.1 hq with rfl | hq
  ·rw [h1,h.1.2]; simp
  ·exact List.mem_cons_of_mem _ (mZ h.2 q hq)
 | _ :: _,[],h,_,_=>by cases h
theorem oA {ds:List DV} {x y:List (Nat × Bool)} (h:ko x y=true) (k:vJ ds y):vJ ds x:=fun q hq=>k q (mZ h q hq)
theorem nw (g:BE):(qL g).val=g.val:=by fun_induction qL g <;> simp_all [BE.val]
theorem rb {e:BE} {ob:List Prop} (h:∀ p ∈ gy e ob,p) (he:e.val=true):∀ p ∈ ob,p:=by
 unfold gy at h
 split at h
 ·simp
 ·split at h
  ·exact h
  ·exact c_.1 (bX h ((BE.dj e true).2 he))
theorem mm {e:BE} {ob:List Prop} (h:e.val=true->∀ p ∈ ob,p):∀ p ∈ gy e ob,p:=by
 unfold gy
 split
 ·simp
 ·split
  ·exact h rfl
  ·intro q hq
   rw [List.mem_singleton.1 hq]
   exact fun he=>c_.2 (h ((BE.dj e true).1 he))
section
variable {P:Program} {T:List (Nat × TI)} {G:Gl} {O:cH} {n k:Nat} {l:List Oper} {ρ:List RE} {H:AH} {fr:AFr} {F:Fr} {ds:List DV} {vs:Nat->Value}
def DVal (G:Gl) (ρ:List RE) (ds:List DV) (a:DV) (u:Value) (w:World):Prop:=(∀ p ∈ a.fc,p)/\(vJ ds a.ch->Rt (cx G ρ w) ρ a.v u)/\(¬ vJ ds a.ch->u=undef)
theorem DVal.kp {a:DV} {u:Value} {w w':World} (h:DVal G ρ ds a u w) (k:Kp [] w w'):DVal G ρ ds a u w':=⟨h.1,fun hc=>(h.2.1 hc).carry (Ext.kp k).le (jk.refl _),h.2.2⟩
theorem qN {vs:Nat->Value} {t jc:Nat} (ht:idst l jc=some t):∀ {deps:List Nat},(∀ j ∈ deps,∃ d,idst l j=some d)->(∀ j ∈ deps,idst l j=some t->j=jc)->jc ∈ deps->look (bR l F vs deps) t=some (vs jc)
 | [],_,_,h=>by simp at h
 | j :: r,h1,h2,h=>by
  obtain ⟨d,hd⟩:=h1 j (by simp)
  simp only [bR,hd]
  rw [aM]
  by_cases hdt:d=t
  ·subst hdt
   rw [if_pos rfl,h2 j (by simp) hd]
  ·rw [if_neg hdt]
   refine qN ht (fun j hj=>h1 j (by simp [hj])) (fun j hj=>h2 j (by simp [hj])) ?_
   rcases List.mem_cons.1 h with rfl | h
   ·rw [hd] at ht; exact absurd (Option.some.inj ht) hdt
   ·exact h
theorem sK {w:World} {p:List DV} (hf:cu (cx G ρ w) ρ fr F):∀ {deps:List Nat},(∀ j ∈ deps,∃ b,p[j]? = some b/\idst l j=some b.d/\Rt (cx G ρ w) ρ b.v (vs j))->cu (cx G ρ w) ρ (xB p fr deps) (bR l F vs deps)
 | [],_=>hf
 | j :: r,h=>by
  obtain ⟨b,h1,h2,h3⟩:=h j (by simp)
  simp only [xB,ep,h1,bR,h2]
  exact .cons ⟨rfl,h3⟩ (sK hf fun j hj=>h j (by simp [hj]))
theorem nt {p:List DV} {ch:List (Nat × Bool)}:∀ {deps:List Nat},oo p ch deps=true->∀ j ∈ deps,∃ b,p[j]? = some b/\ko b.ch ch=true
 | [],_,j,hj=>by simp at hj
 | i :: r,h,j,hj=>by
  simp only [oo,ep,Bool.and_eq_true] at h
  rcases List.mem_cons.1 hj with rfl | hj
  ·have h1:=h.1
   split at h1
   ·exact ⟨_,by assumption,h1⟩
   ·cases h1
  ·exact nt h.2 j hj
structure DCtx (G:Gl) (ρ:List RE) (l:List Oper) (ds:List DV) (vs:Nat->Value) (p:List DV) (deps:List Nat) (w:World):Prop where
 pre:∀ (j:Nat) (a:DV),p[j]? = some a->ds[j]? = some a
 dst:∀ (j:Nat) (a:DV),ds[j]? = some a->idst l j=some a.d
 dist:∀ (i j:Nat) (a b:DV),ds[i]? = some a->ds[j]? = some b->a.d=b.d->i=j
 dep:∀ j ∈ deps,∃ a,p[j]? = some a/\DVal G ρ ds a (vs j) w
theorem DCtx.look {p:List DV} {deps:List Nat} {w:World} (h:DCtx G ρ l ds vs p deps w) {j:Nat} (hj:j ∈ deps) {a:DV} (ha:p[j]? = some a):look (bR l F vs deps) a.d=some (vs j):=by
 refine qN (h.dst j a (h.pre j a ha)) (fun i hi=>?_) (fun i hi he=>?_) hj
 ·obtain ⟨b,hb,_⟩:=h.dep i hi
  exact ⟨_,h.dst i b (h.pre i b hb)⟩
 ·obtain ⟨b,hb,_⟩:=h.dep i hi
  have:=h.dst i b (h.pre i b hb)
  rw [he] at this
  exact h.dist i j b a (h.pre i b hb) (h.pre j a ha) (Option.some.inj this).symm
theorem nx {Q:Exit->Act->World->Prop} {p:List DV} {deps:List Nat} {w:World} (h:DCtx G ρ l ds vs p deps w) {gd:Option (Nat × Bool)} {ch:List (Nat × Bool)} {gs:List Nat} {g:BE} (hc:rH p gd=some (ch,gs)) (hgs:∀ (j:Nat) (a:DV),p[j]? = some a->a.d ∈ gs->j ∈ deps) (hg:zZ ds ch=some g)
  {d:Nat} {op:Op} {ty:TypeId} {pos:String} {af:Array Edge} (hd:Nat.blt d n=true)
  (on:vJ ds ch->WO P Q n l [⟨some d,op,ty,pos,af,none⟩] (bR l F vs deps) w) (off:¬ vJ ds ch->WO P Q n l [] ((d,undef) :: bR l F vs deps) w):WO P Q n l [⟨some d,op,ty,pos,af,gd⟩] (bR l F vs deps) w:=by
 cases gd with
 | none=>
  cases hc
  exact on fun q hq=>by simp at hq
 | some q=>
  obtain ⟨j,wt⟩:=q
  simp only [rH,ep] at hc
  split at hc
  ·rename_i a ha
   cases hc
   have hj:=hgs j a ha (by simp)
   have hl:=h.look (F:=F) hj ha
   obtain ⟨a',ha',hv⟩:=h.dep j hj
   rw [ha] at ha'; cases ha'
   obtain ⟨b,e,hb,he⟩:=(kL hg).2 (j,wt) (by simp)
   simp only at hb
   rw [h.pre j a ha] at hb; cases hb
   have hi:=h.dst j a (h.pre j a ha)
   by_cases hch:vJ ds a.ch
   ·have hr:=hv.2.1 hch
    rw [he] at hr
    obtain ⟨bv,hbv⟩:∃ bv,vs j = .bool bv/\bv=e.val:=by
     have hr:Pd (cx G ρ w) (.bool e) (vs j):=hr
     generalize vs j=u at hr
     cases hr
     exact ⟨_,rfl,rfl⟩
    obtain ⟨hbv,rfl⟩:=hbv
    rw [hbv] at hl
    by_cases hw:e.val=wt
    ·exact WO.on hi hl hw (on fun q hq=>by
      rcases List.mem_append.1 hq with hq | hq
      ·exact hch q hq
      ·rw [List.mem_singleton.1 hq]
       exact ⟨a,e,h.pre j a ha,he,hw⟩)
    ·refine WO.off hi hl (by revert hw; cases e.val <;> cases wt <;> simp) hd (off fun hc=>?_)
     obtain ⟨b,e',k1,k2,k3⟩:=hc (j,wt) (by simp)
     simp only at k1 k3
     rw [h.pre j a ha] at k1; cases k1
     rw [he] at k2; cases k2
     exact hw k3
   ·have hu:=hv.2.2 hch
    rw [hu] at hl
    exact WO.Fx hi hl hd (off fun hc=>hch fun q hq=>hc q (by simp [hq]))
  ·cases hc
theorem yl {x:Operand} {v:Value} (h:ev [] x=some v):ev F x=some v:=by
 cases x with
 | tmp i=>cases h
 | _=>exact h
theorem wO {p:List DV} {deps:List Nat} {w:World} (h:DCtx G ρ l ds vs p deps w) {ch:List (Nat × Bool)} (hch:vJ ds ch) {t:Nat} {x y:Operand} {v:BE} (hp:zp p ch t x y=some v) (hdep:∀ (j:Nat) (a:DV),p[j]? = some a->a.d=t\/a.d ∈ Operand.sl x\/a.d ∈ Operand.sl y->j ∈ deps) {ty:TypeId} :
  aH P n (bR l F vs deps) w (.pick (.tmp t) x y) ty (.bool v.val) w:=by
 unfold zp at hp
 split at hp
 ·rename_i jc hjc
  split at hp
  ·rename_i c hc
   rw [ep] at hc
   split at hp
   ·rename_i e he hpre
    split at hp
    ·rename_i jx hjx
     split at hp
     ·rename_i a ha
      rw [ep] at ha
      split at hp
      ·rename_i hpa
       have hct:c.d=t:=by
        obtain ⟨i,b,k1,k2,k3⟩:=cQ.1 (show jc ∈ cc [t] 0 p by rw [hjc]; simp)
        rw [Nat.zero_add] at k1; subst k1
        rw [hc] at k2; cases k2
        simpa using k3
       have hjd:=hdep jc c hc (.inl hct)
       have hl:=h.look (F:=F) hjd hc
       rw [hct] at hl
       have he:=Option.some.inj (cg he)
       have hlb:look (bR l F vs deps) t=some (.bool e.val):=by
        obtain ⟨c',hc',hv⟩:=h.dep jc hjd
        rw [hc] at hc'; cases hc'
        have hr:=hv.2.1 (oA hpre hch)
        rw [he] at hr
        have hr:Pd (cx G ρ w) (.bool e) (vs jc):=hr
        rw [hl]
        generalize vs jc=u at hr
        cases hr
        rfl
       -- the side that was walked
       have hon:e.val=fD x->∀ z,lN (some a.v)=some z->ev (bR l F vs deps) (cond (fD x) x y)=some (.bool z.val):=by
        intro hw z hz
        have hz:=Option.some.inj (cg hz)
        have hmem:=cQ.1 (show jx ∈ cc (Operand.sl (cond (fD x) x y)) 0 p by rw [hjx]; simp)
        obtain ⟨i,b,k1,k2,k3⟩:=hmem
        rw [Nat.zero_add] at k1; subst k1
        rw [ha] at k2; cases k2
        have hjd2:=hdep jx a ha (.inr (by
         cases hx:fD x <;> rw [hx] at k3
         ·exact .inr k3
         ·exact .inl k3))
        obtain ⟨a',ha',hv⟩:=h.dep jx hjd2
        rw [ha] at ha'; cases ha'
        have hr:=hv.2.1 (oA hpa fun q hq=>by
         rcases List.mem_append.1 hq with hq | hq
         ·exact hch q hq
         ·rw [List.mem_singleton.1 hq]
          exact ⟨c,e,h.pre jc c hc,he,hw⟩)
        rw [hz] at hr
        have hr:Pd (cx G ρ w) (.bool z) (vs jx):=hr
        have hl2:=h.look (F:=F) hjd2 ha
        generalize cond (fD x) x y=o at k3 ⊢
        cases o <;> simp only [Operand.sl,List.mem_singleton,List.not_mem_nil] at k3
        rw [<- k3]
        show look _ a.d=_
        rw [hl2]
        generalize vs jx=u at hr
        cases hr
        rfl
       have hoff:∀ z,lN (cG [] (cond (fD x) y x))=some z->ev (bR l F vs deps) (cond (fD x) y x)=some (.bool z.val):=by
        intro z hz
        obtain ⟨u,k1,k2⟩:=ay (c:=cx G ρ w) (ρ:=ρ) (fr:=[]) (F:=[]) .nil (cg hz)
        have k2:Pd (cx G ρ w) (.bool z) u:=k2
        cases k2
        exact yl k1
       unfold tL at hp
       cases hx:fD x <;> rw [hx] at hp hon hoff <;> simp only [cond_true,cond_false] at hon hoff hp
       ·split at hp
        ·contradiction
        ·rename_i z _ hz hz2
         cases hp
         cases hev:e.val with
         | false=>rw [show (BE.or e z).val=z.val by simp [BE.val,hev]]; exact R.tR (hev ▸ hlb) rfl (hon hev z hz)
         | true=>rw [show (BE.or e z).val=true by simp [BE.val,hev]]; exact R.uf (hev ▸ hlb) rfl (hoff _ hz2)
        ·cases hp
       ·split at hp
        ·rename_i z _ hz hz2
         cases hp
         cases hev:e.val with
         | true=>rw [show (BE.and e z).val=z.val by simp [BE.val,hev]]; exact R.uf (hev ▸ hlb) rfl (hon hev z hz)
         | false=>rw [show (BE.and e z).val=false by simp [BE.val,hev]]; exact R.tR (hev ▸ hlb) rfl (hoff _ hz2)
        ·contradiction
        ·cases hp
      ·cases hp
     ·cases hp
    ·cases hp
   ·cases hp
  ·cases hp
 ·cases hp
theorem BZ (hT:bc P G.shp T) (hO:aT P G.shp O) {p:List DV} {o:Oper} {a:DV} (hs:lI T O H fr p o=some a) {w:World} (h:DCtx G ρ l ds vs p a.deps w) (hpg:∀ ch g,zZ p ch=some g->zZ ds ch=some g) (hob:∀ q ∈ a.ob,q) (hd:∀ d,o.dst=some d->Nat.blt d n=true) (hR:Rep G ρ H w) (hf:cu (cx G ρ w) ρ fr F) :
  o.dst=some a.d/\WO P (mG n (some a.d) [] (DVal G ρ ds a) w) n l [o] (bR l F vs a.deps) w:=by
 obtain ⟨dst,op,ty,pos,af,gd⟩:=o
 unfold lI at hs
 split at hs
 ·rename_i d ch gs hdst hch
  simp only at hdst hch
  subst hdst
  split at hs
  ·rename_i g hg
   have hg':=hpg _ _ hg
   have hdn:=hd d rfl
   split at hs
   ·-- a pick
    rename_i t x y hop
    simp only at hop
    subst hop
    split at hs
    ·rename_i v hv
     cases hs
     refine ⟨rfl,nx h hch (fun j b hj hb=>cQ.2 ⟨j,b,by simp,hj,by simp [hb]⟩) hg' hdn (fun hc=>?_) (fun hc=>?_)⟩
     ·refine WO.v (wO h hc hv fun j b hj hb=>cQ.2 ⟨j,b,by simp,hj,?_⟩) hdn (WO.nil (WX.jd (v:=.bool v.val) (by rw [aM,if_pos rfl]) ⟨by simp,fun _=>Pd.bool,fun h=>absurd hc h⟩ (Kp.refl w)))
      simp only [rf,Operand.sl,List.mem_append,List.mem_singleton]
      rcases hb with hb | hb | hb
      ·exact .inl (.inl (.inl hb))
      ·exact .inl (.inl (.inr hb))
      ·exact .inl (.inr hb)
     ·exact WO.nil (WX.jd (v:=undef) (by rw [aM,if_pos rfl]) ⟨by simp,fun h=>absurd h hc,fun _=>rfl⟩ (Kp.refl w))
    ·cases hs
   ·split at hs
    ·rename_i r hall hpv
     cases hs
     refine ⟨rfl,nx h hch (fun j b hj hb=>cQ.2 ⟨j,b,by simp,hj,by simp [hb]⟩) hg' hdn (fun hc=>?_) (fun hc=>?_)⟩
     ·have hgv:=(kL hg').1.2 hc
      have hfr:=sK (l:=l) (vs:=vs) (F:=F) hf (p:=p) (deps:=cc (rf op++gs) 0 p) fun j hj=>by
       obtain ⟨b,hb,hpre⟩:=nt hall j hj
       obtain ⟨b',hb',hv⟩:=h.dep j hj
       rw [hb] at hb'; cases hb'
       exact ⟨b,hb,h.dst j b (h.pre j b hb),hv.2.1 (oA hpre hc)⟩
      refine WO.y (oZ (ty:=ty) hT hO hR hfr hpv (rb hob (by rw [nw]; exact hgv))) hd fun v w' ⟨hk,hv,hfc⟩=>?_
      exact WO.nil (WX.jd (v:=v) (by simp only [eU]; rw [aM,if_pos rfl]) ⟨mm fun _=>hfc,fun _=>hv,fun h=>absurd hc h⟩ hk)
     ·refine WO.nil (WX.jd (v:=undef) (by rw [aM,if_pos rfl]) ⟨mm fun he=>?_,fun h=>absurd h hc,fun _=>rfl⟩ (Kp.refl w))
      rw [nw] at he
      exact absurd ((kL hg').1.1 he) hc
    ·cases hs
  ·cases hs
 ·cases hs
end
end Go.Proofs.Ytladifkbefehdaa
namespace Go.Proofs.Ytladifkbefehdaa
open Go.RowKit
theorem bq {a:List Nat}:∀ {l:List Nat},disj a l=true↔∀ i ∈ l,i ∉ a
 | []=>by simp [disj]
 | j :: r=>by simp only [disj,Bool.and_eq_true,bq,List.forall_mem_cons,Bool.not_eq_true',<- Bool.not_eq_true,aU]
theorem dM {n:Nat}:∀ {l:List Nat},im n l=true↔∀ i ∈ l,i<n
 | []=>by simp [im]
 | j :: r=>by
  have:Nat.blt j n=true↔j<n:=by rw [Nat.blt_eq]
  simp [im,dM,this]
theorem ij {σ:List Nat}:∀ {H:AH} {k p:Nat},(maskH σ k H)[p]? = (H[p]?).map fun o=>if k+p ∈ σ then o else .loc
 | [],_,_=>by simp [maskH]
 | o :: r,k,0=>by
  simp only [maskH,List.getElem?_cons_zero,Option.map_some,Nat.add_zero]
  cases h:bl k σ with
  | true=>rw [if_pos (aU.1 h)]; rfl
  | false=>rw [if_neg fun hm=>by rw [aU.2 hm] at h; cases h]; rfl
 | o :: r,k,p+1=>by
  simp only [maskH,List.getElem?_cons_succ,ij,Nat.add_right_comm]
  rw [Nat.add_assoc]
theorem jw {σ:List Nat}:∀ {H:AH} {k:Nat},(maskH σ k H).length=H.length
 | [],_=>rfl
 | _ :: r,k=>by simp [maskH,jw (H:=r)]
def RC.obj (r:RC) (p:Nat) (o:AO):AO:=if p ∈ r.ch then (match r.ent with
 | some e=>e.put o
 | none=>getO r.res p) else killO r.mv o
theorem ng {r:RC}:∀ {H:AH} {k p:Nat},(fO r.ch r.mv r.ent r.res k H)[p]? = (H[p]?).map (r.obj (k+p))
 | [],_,_=>by simp [fO]
 | o :: l,k,0=>by
  simp only [fO,List.getElem?_cons_zero,Option.map_some,Nat.add_zero,RC.obj]
  cases h:bl k r.ch with
  | true=>rw [if_pos (aU.1 h)]; cases r.ent <;> rfl
  | false=>rw [if_neg fun hm=>by rw [aU.2 hm] at h; cases h]; rfl
 | o :: l,k,p+1=>by
  simp only [fO,List.getElem?_cons_succ,ng]
  rw [Nat.add_assoc,Nat.add_comm 1 p]
theorem dW {ch mv:List Nat} {e:Option Ent} {res:AH}:∀ {H:AH} {k:Nat},(fO ch mv e res k H).length=H.length
 | [],_=>rfl
 | _ :: r,k=>by simp [fO,dW (H:=r)]
def killTV (mv:List Nat) (v:TV):TV:=match mv with
 | []=>v
 | _ :: _=>v.mapA (AV.bm mv)
theorem mi {g:AV->AV} {t:Nat}:∀ {fr:AFr},lookA (fE g fr) t=(lookA fr t).map (TV.mapA g)
 | []=>rfl
 | (i,v) :: r=>by
  simp only [fE,lookA]
  cases Nat.beq i t
  ·exact mi
  ·rfl
theorem rN {mv:List Nat} {fr:AFr} {t:Nat}:lookA (vZ mv fr) t=(lookA fr t).map (killTV mv):=by
 cases mv with
 | nil=>cases h:lookA fr t <;> simp [vZ,killTV,h]
 | cons a r=>exact mi
theorem vv {d:Option Nat} {v:TV} {fr:AFr} {t:Nat}:lookA (kJ d v fr) t=if d=some t then some v else lookA fr t:=by
 cases d with
 | none=>simp [kJ]
 | some d=>simp only [kJ,bQ,Option.some.injEq]
structure RC.Fit (r:RC):Prop where
 base:r.base=r.H0.length
 le:r.base<=r.res.length
theorem bn {r:RC} {q:AFr × AH} (h:r.Fit) (hq:q.2.length=r.base):(r.app q).2.length=r.res.length:=by
 have:=h.le
 simp only [RC.app,List.length_append,dW,List.length_drop]; omega
theorem dD {r:RC} {q:AFr × AH} (h:r.Fit) (hq:q.2.length=r.base) {p:Nat}:(r.app q).2[p]? = if p<r.base then (q.2[p]?).map (r.obj p) else r.res[p]?:=by
 have:=h.le
 simp only [RC.app]
 by_cases hp:p<r.base
 ·rw [if_pos hp,List.getElem?_append_left (by rw [dW]; omega),ng,Nat.zero_add]
 ·rw [if_neg hp,List.getElem?_append_right (by rw [dW]; omega),dW,List.getElem?_drop]
  congr 1; omega
theorem dV {r:RC} {q:AFr × AH} {t:Nat}:lookA (r.app q).1 t=if r.dst=some t then some r.v else (lookA q.1 t).map (killTV r.mv):=by
 simp only [RC.app,vv,rN]
def RC.uL (r:RC) (q:AFr × AH):AFr × AH:=(q.1,q.2++List.replicate (r.res.length - r.base) .gone)
theorem dI {r:RC} {q:AFr × AH} (h:r.Fit) (hq:q.2.length=r.base):(r.uL q).2.length=r.res.length:=by
 have:=h.le
 simp only [RC.uL,List.length_append,List.length_replicate]; omega
theorem dU {r:RC} {q:AFr × AH} (h:r.Fit) (hq:q.2.length=r.base) {p:Nat}:(r.uL q).2[p]? = if p<r.base then q.2[p]? else if p<r.res.length then some .gone else none:=by
 have:=h.le
 simp only [RC.uL]
 by_cases hp:p<r.base
 ·rw [if_pos hp,List.getElem?_append_left (by omega)]
 ·rw [if_neg hp,List.getElem?_append_right (by omega),List.getElem?_replicate]
  by_cases h2:p<r.res.length
  ·rw [if_pos h2,if_pos (by omega)]
  ·rw [if_neg h2,if_neg (by omega)]
def eE (s:Nat->Bool):Nat->List RC->AFr × AH->AFr × AH
 | _,[],q=>q
 | i,r :: rs,q=>eE s (i+1) rs (bif s i then r.app q else r.uL q)
def prg:List RC->AFr × AH->AFr × AH
 | [],q=>q
 | r :: rs,q=>prg rs (r.app q)
def dk:AFr × AH->List RC->Prop
 | _,[]=>True
 | q,r :: rs=>r.fr0=q.1/\r.H0=q.2/\r.Fit/\dk (r.app q) rs
theorem sw {s:Nat->Bool}:∀ {a b:List RC} {k:Nat} {q:AFr × AH},eE s k (a++b) q=eE s (k+a.length) b (eE s k a q)
 | [],_,_,_=>by simp [eE]
 | r :: a,b,k,q=>by
  simp only [List.cons_append,eE,sw (a:=a),List.length_cons]
  congr 1; omega
theorem jG {s s':Nat->Bool}:∀ {rs:List RC} {k:Nat} {q:AFr × AH},(∀ i,k<=i->i<k+rs.length->s i=s' i)->eE s k rs q=eE s' k rs q
 | [],_,_,_=>rfl
 | r :: rs,k,q,h=>by
  simp only [eE]
  rw [h k (Nat.le_refl _) (by simp)]
  exact jG fun i h1 h2=>h i (by omega) (by simp at h2 ⊢; omega)
theorem nS {s:Nat->Bool}:∀ {rs:List RC} {k:Nat} {q p:AFr × AH},dk p rs->q.2.length=p.2.length->(eE s k rs q).2.length=(prg rs p).2.length
 | [],_,_,_,_,h=>h
 | r :: rs,k,q,p,hc,h=>by
  obtain ⟨_,h2,h3,h4⟩:=hc
  have hb:=h3.base
  rw [h2] at hb
  simp only [eE,prg]
  refine nS h4 ?_
  cases s k
  ·exact (dI h3 (by omega)).trans (bn h3 hb.symm).symm
  ·exact (bn h3 (by omega)).trans (bn h3 hb.symm).symm
theorem rL:∀ {rs:List RC} {p:AFr × AH},dk p rs->p.2.length<=(prg rs p).2.length
 | [],_,_=>Nat.le_refl _
 | r :: rs,p,hc=>by
  obtain ⟨_,h2,h3,h4⟩:=hc
  have hb:=h3.base
  rw [h2] at hb
  have:=rL h4
  rw [bn h3 hb.symm] at this
  have:=h3.le
  simp only [prg]; omega
theorem dk.zo:∀ {a b:List RC} {p:AFr × AH},dk p (a++b)↔dk p a/\dk (prg a p) b
 | [],b,p=>by simp [dk,prg]
 | r :: a,b,p=>by simp only [List.cons_append,dk,prg,dk.zo (a:=a),and_assoc]
theorem oN:∀ {a b:List RC} {p:AFr × AH},prg (a++b) p=prg b (prg a p)
 | [],_,_=>rfl
 | r :: a,b,p=>by simp only [List.cons_append,prg,oN (a:=a)]
theorem dB {mv:List Nat} {a:AV} (h:∀ i ∈ a.rids,i ∉ mv):a.bm mv=a:=by
 have key:∀ j,j ∉ mv->bl j mv=false:=fun j hj=>by rw [<- Bool.not_eq_true,aU]; exact hj
 cases a with
 | own j=>simp [AV.bm,key j (h j (by simp [AV.rids]))]
 | sub j _ _=>simp [AV.bm,key j (h j (by simp [AV.rids]))]
 | elp j _ _=>simp [AV.bm,key j (h j (by simp [AV.rids]))]
 | _=>rfl
theorem eO {i:Nat}:∀ {l:List AV} {a:AV},a ∈ l->i ∈ a.rids->i ∈ mH l
 | [],_,h,_=>by simp at h
 | b :: r,a,h,hi=>by
  simp only [mH,List.mem_append]
  rcases List.mem_cons.1 h with rfl | h
  ·exact .inl hi
  ·exact .inr (eO h hi)
theorem la {g:AV->AV}:∀ {l:List AV},(∀ a ∈ l,g a=a)->mz g l=l
 | [],_=>rfl
 | a :: r,h=>by simp only [mz]; rw [h a (by simp),la fun b hb=>h b (by simp [hb])]
theorem lK {g:AV->AV} {t:TV1} (h:∀ a ∈ t.cells,g a=a):t.mapA g=t:=by
 cases t with
 | c a=>simp only [TV1.mapA]; rw [h a (by simp [TV1.cells])]
 | agg l=>exact congrArg TV1.agg (la h)
theorem nE {i:Nat}:∀ {l:List TV1} {t:TV1} {a:AV},t ∈ l->a ∈ t.cells->i ∈ a.rids->i ∈ si l
 | [],_,_,h,_,_=>by simp at h
 | b :: r,t,a,h,ha,hi=>by
  simp only [si,List.mem_append]
  rcases List.mem_cons.1 h with rfl | h
  ·exact .inl (eO ha hi)
  ·exact .inr (nE h ha hi)
theorem nX {g:AV->AV}:∀ {l:List TV1},(∀ t ∈ l,∀ a ∈ t.cells,g a=a)->o_ g l=l
 | [],_=>rfl
 | a :: r,h=>by simp only [o_]; rw [lK (h a (by simp)),nX fun b hb=>h b (by simp [hb])]
theorem jE {mv:List Nat} {v:TV} (h:disj mv v.rids=true):killTV mv v=v:=by
 have h:=bq.1 h
 cases mv with
 | nil=>rfl
 | cons m r=>
  cases v with
  | one t=>exact congrArg TV.one (lK fun a ha=>dB fun i hi=>h i (eO ha hi))
  | tup l=>exact congrArg TV.tup (nX fun t ht a ha=>dB fun i hi=>h i (nE ht ha hi))
  | un=>rfl
theorem iM {mv:List Nat} {o:AO} (h:disj mv o.rids=true):killO mv o=o:=by
 have h:=bq.1 h
 cases mv with
 | nil=>rfl
 | cons m r=>
  cases o with
  | box t cs=>exact congrArg (AO.box t) (la fun a ha=>dB fun i hi=>h i (eO ha hi))
  | mapf l=>
   show AO.mapf (mapM _ l)=_
   rw [kR]
   congr 1
   refine (List.map_congr_left fun q hq=>?_).trans (List.map_id _)
   have e:=dB (mv:=m :: r) (a:=q.2) fun i hi=>h i (eO (List.mem_map_of_mem hq) hi)
   show (q.1,AV.bm (m :: r) q.2)=q
   rw [e]
  | _=>rfl
theorem my {a b:List Nat} {x:AV}:(x.bm a).bm b=(x.bm b).bm a:=by
 cases x with
 | own j=>cases h1:bl j a <;> cases h2:bl j b <;> simp [AV.bm,h1,h2]
 | sub j _ _=>cases h1:bl j a <;> cases h2:bl j b <;> simp [AV.bm,h1,h2]
 | elp j _ _=>cases h1:bl j a <;> cases h2:bl j b <;> simp [AV.bm,h1,h2]
 | _=>rfl
theorem jJ {g h:AV->AV}:∀ {l:List AV},mz g (mz h l)=mz (fun a=>g (h a)) l
 | []=>rfl
 | a :: r=>by simp [mz,jJ (l:=r)]
theorem ln {g h:AV->AV} {t:TV1}:(t.mapA h).mapA g=t.mapA fun a=>g (h a):=by
 cases t with
 | c a=>rfl
 | agg l=>simp [TV1.mapA,jJ]
theorem nB {g h:AV->AV}:∀ {l:List TV1},o_ g (o_ h l)=o_ (fun a=>g (h a)) l
 | []=>rfl
 | a :: r=>by simp [o_,ln,nB (l:=r)]
theorem pw {a b:List Nat} {v:TV}:killTV b (killTV a v)=killTV a (killTV b v):=by
 cases a with
 | nil=>rfl
 | cons x r=>
  cases b with
  | nil=>rfl
  | cons y q=>
   have e:(fun z:AV=>(z.bm (x :: r)).bm (y :: q))=fun z=>(z.bm (y :: q)).bm (x :: r):=funext fun z=>my
   cases v with
   | one t=>simp only [killTV,TV.mapA,ln,e]
   | tup l=>simp only [killTV,TV.mapA,nB,e]
   | un=>rfl
theorem uj {g h:AV->AV} {l:List (Int × AV)}:mapM g (mapM h l)=mapM (fun a=>g (h a)) l:=by
 induction l with
 | nil=>rfl
 | cons q r ih=>obtain ⟨k,a⟩:=q; simp [mapM,ih]
theorem re {a b:List Nat} {o:AO}:killO b (killO a o)=killO a (killO b o):=by
 cases a with
 | nil=>rfl
 | cons x r=>
  cases b with
  | nil=>rfl
  | cons y q=>
   have e:(fun z:AV=>(z.bm (x :: r)).bm (y :: q))=fun z=>(z.bm (y :: q)).bm (x :: r):=funext fun z=>my
   cases o with
   | box t cs=>simp only [killO,AO.mapA,jJ,e]
   | mapf l=>simp only [killO,AO.mapA,uj,e]
   | _=>rfl
theorem lY {a:List Nat}:killO a .gone = .gone:=by cases a <;> rfl
inductive AOq:AO->AO->Prop
 | rfl {o:AO}:AOq o o
 | map {l l':List (Int × AV)}:(∀ k,lookF k l=lookF k l')->AOq (.mapf l) (.mapf l')
theorem AOq.or {c:Cx} {ρ:List RE} {o o':AO} {r:RE} (h:AOq o o') (k:OR c ρ o r):OR c ρ o' r:=by
 cases h with
 | rfl=>exact k
 | map hl=>
  obtain ⟨g,e,a,n,h1,h2,h3⟩:=k
  exact ⟨g,e,a,n,h1,h2,fun k=>by rw [<- hl]; exact h3 k⟩
theorem AOq.trans {a b c:AO} (h:AOq a b) (k:AOq b c):AOq a c:=by
 cases h with
 | rfl=>exact k
 | map h=>
  cases k with
  | rfl=>exact .map h
  | map k=>exact .map fun x=>(h x).trans (k x)
theorem AOq.symm {a b:AO} (h:AOq a b):AOq b a:=by
 cases h with
 | rfl=>exact .rfl
 | map h=>exact .map fun x=>(h x).symm
theorem ke {g:AV->AV} {k:Int}:∀ {l:List (Int × AV)},lookF k (mapM g l)=(lookF k l).map g
 | []=>rfl
 | (j,a) :: r=>by
  simp only [mapM,lookF]
  by_cases h:k=j
  ·rw [if_pos h,if_pos h]; rfl
  ·rw [if_neg h,if_neg h]; exact ke
theorem AOq.kill {mv:List Nat} {o o':AO} (h:AOq o o'):AOq (killO mv o) (killO mv o'):=by
 cases h with
 | rfl=>exact .rfl
 | map h=>
  cases mv with
  | nil=>exact .map h
  | cons a r=>exact .map fun k=>by rw [ke,ke,h]
theorem AOq.put {e:Ent} {o o':AO} (h:AOq o o'):AOq (e.put o) (e.put o'):=by
 cases h with
 | rfl=>exact .rfl
 | map h=>
  cases e with
  | fn k a=>exact .map fun j=>by simp only [lookF,h]
  | da s k x=>exact .map h
theorem v_ {j k:Int} {b:AV} {s:Sh} {x:den s} {o:AO}:(Ent.fn j b).put ((Ent.da s k x).put o)=(Ent.da s k x).put ((Ent.fn j b).put o):=by
 cases o with
 | mapo s' g=>
  by_cases h:s' = s
  ·subst h; simp only [Ent.put,dif_pos]
  ·simp only [Ent.put,dif_neg h]
 | _=>rfl
theorem put_comm {e f:Ent} {o:AO} (h:e.key≠f.key):AOq (f.put (e.put o)) (e.put (f.put o)):=by
 cases e with
 | fn k a=>
  cases f with
  | fn j b=>
   cases o with
   | mapf l=>
    refine .map fun i=>?_
    simp only [lookF]
    have h:k≠j:=h
    by_cases h1:i=j
    ·rw [if_pos h1,if_neg (show ¬ i=k by omega),if_pos h1]
    ·rw [if_neg h1]
     by_cases h2:i=k
     ·rw [if_pos h2,if_pos h2]
     ·rw [if_neg h2,if_neg h2,if_neg h1]
   | _=>exact .rfl
  | da s j x=>rw [v_]; exact .rfl
 | da s k x=>
  cases f with
  | fn j b=>rw [v_]; exact .rfl
  | da s2 j y=>
   cases o with
   | mapo s' g=>
    by_cases h1:s' = s
    ·by_cases h2:s' = s2
     ·subst h1; subst h2
      simp only [Ent.put,dif_pos]
      have e2:(fun i=>if i=j then some y else if i=k then some x else g i)=fun i=>if i=k then some x else if i=j then some y else g i:=by
       funext i
       have h:k≠j:=h
       by_cases h1:i=j
       ·rw [if_pos h1,if_neg (show ¬ i=k by omega),if_pos h1]
       ·rw [if_neg h1]
        by_cases h2:i=k
        ·rw [if_pos h2,if_pos h2]
        ·rw [if_neg h2,if_neg h2,if_neg h1]
      rw [e2]
      exact .rfl
     ·subst h1
      simp only [Ent.put,dif_pos,dif_neg h2]
      exact .rfl
    ·by_cases h2:s' = s2
     ·subst h2
      simp only [Ent.put,dif_neg h1,dif_pos]
      exact .rfl
     ·simp only [Ent.put,dif_neg h1,dif_neg h2]
      exact .rfl
   | _=>exact .rfl
theorem po {e:Ent} {mv:List Nat} {o:AO} (h:∀ k a,e = .fn k a->disj mv a.rids=true):killO mv (e.put o)=e.put (killO mv o):=by
 cases mv with
 | nil=>rfl
 | cons m r=>
  cases e with
  | fn k a=>
   cases o with
   | mapf l=>
    have:=dB (mv:=m :: r) (a:=a) (bq.1 (h k a rfl))
    simp only [killO,Ent.put,AO.mapA,mapM,this]
   | _=>rfl
  | da s k x=>
   cases o with
   | mapo s' g=>
    by_cases h:s' = s
    ·subst h; simp only [Ent.put,dif_pos,killO,AO.mapA]
    ·simp only [Ent.put,dif_neg h,killO,AO.mapA]
   | _=>rfl
def kd:AO->Option (Option Sh)
 | .mapf _=>some none
 | .mapo s _=>some (some s)
 | _=>none
theorem om {e:Ent} {o:AO}:kd (e.put o)=kd o:=by
 cases e with
 | fn k a=>cases o <;> rfl
 | da s k x=>
  cases o with
  | mapo s' g=>
   simp only [Ent.put]
   split
   ·rename_i h; subst h; rfl
   ·rfl
  | _=>rfl
theorem kM {mv:List Nat} {o:AO}:kd (killO mv o)=kd o:=by cases mv <;> cases o <;> rfl
theorem qT {mv:List Nat}:∀ {H:AH} {k p:Nat} {o:AO},H[p]? = some o->k+p ∉ ve mv k H->disj mv o.rids=true
 | [],_,_,_,h,_=>by simp at h
 | x :: r,k,0,o,h,hn=>by
  simp at h; subst h
  simp only [ve] at hn
  cases hd:disj mv x.rids with
  | true=>rfl
  | false=>rw [hd] at hn; simp at hn
 | x :: r,k,p+1,o,h,hn=>by
  refine qT (H:=r) (k:=k+1) (p:=p) (by simpa using h) fun hm=>hn ?_
  simp only [ve]
  have e:k+1+p=k+(p+1):=by omega
  rw [e] at hm
  cases disj mv x.rids
  ·exact List.mem_cons_of_mem _ hm
  ·exact hm
theorem ql {mv:List Nat}:∀ {fr:AFr} {t:Nat} {v:TV},lookA fr t=some v->t ∉ yV mv fr->disj mv v.rids=true
 | [],_,_,h,_=>by cases h
 | (i,x) :: r,t,v,h,hn=>by
  rw [bQ] at h
  simp only [yV] at hn
  by_cases hi:i=t
  ·rw [if_pos hi] at h; cases h
   cases hd:disj mv x.rids with
   | true=>rfl
   | false=>rw [hd] at hn; simp [hi] at hn
  ·rw [if_neg hi] at h
   refine ql h fun hm=>hn ?_
   cases disj mv x.rids
   ·exact List.mem_cons_of_mem _ hm
   ·exact hm
theorem iT {fr:AFr} {i t:Nat} {v:TV} (hv:lookA fr t=some v) (hi:i ∈ v.rids):∀ {U:List Nat},t ∈ U->i ∈ iz fr U
 | [],h=>by simp at h
 | u :: r,h=>by
  simp only [iz,List.mem_append]
  rcases List.mem_cons.1 h with rfl | h
  ·left; rw [hv]; exact hi
  ·exact .inr (iT hv hi h)
theorem kE {fr:AFr} {i t:Nat} {v:TV} (hv:lookA fr t=some v) (hi:i ∈ v.ids):∀ {U:List Nat},t ∈ U->i ∈ slotIds fr U
 | [],h=>by simp at h
 | u :: r,h=>by
  simp only [slotIds,List.mem_append]
  rcases List.mem_cons.1 h with rfl | h
  ·left; rw [hv]; exact hi
  ·exact .inr (kE hv hi h)
theorem ej {H:AH} {i p:Nat} (hi:i ∈ (getO H p).rids):∀ {l:List Nat},p ∈ l->i ∈ gB H l
 | [],h=>by simp at h
 | u :: r,h=>by
  simp only [gB,List.mem_append]
  rcases List.mem_cons.1 h with rfl | h
  ·exact .inl hi
  ·exact .inr (ej hi h)
theorem lT {H:AH} {i p:Nat} (hi:i ∈ (getO H p).ids):∀ {l:List Nat},p ∈ l->i ∈ objIds H l
 | [],h=>by simp at h
 | u :: r,h=>by
  simp only [objIds,List.mem_append]
  rcases List.mem_cons.1 h with rfl | h
  ·exact .inl hi
  ·exact .inr (lT hi h)
theorem iU {r:RC} (h:r.Fit) {p:Nat}:p ∈ r.new↔r.base<=p/\p<r.res.length:=by
 have:=h.le
 rw [RC.new,zO]; omega
theorem dJ {H:AH} {p:Nat} {o:AO} (h:H[p]? = some o):getO H p=o:=by unfold getO; rw [List.getD_eq_getElem?_getD,h]; rfl
structure OkD (a b:RC):Prop where
 dst:∀ d,b.dst=some d->d ∉ a.U
 chσ:∀ p ∈ a.σ,p ∉ b.ch
 chn:∀ p ∈ a.new,p ∉ b.ch
 nσ:∀ p ∈ a.σ,p ∉ b.new
 nch:∀ p ∈ a.ch,p ∉ b.new
 kp:∀ p ∈ a.σ,∀ o,b.H0[p]? = some o->killO b.mv o=o
 ks:∀ t ∈ a.U,∀ v,lookA b.fr0 t=some v->killTV b.mv v=v
 sl:∀ t ∈ a.U,∀ v,lookA a.fr0 t=some v->killTV b.mv v=v
 ob:∀ p ∈ a.σ,killO b.mv (getO a.H0 p)=getO a.H0 p
 v:killTV b.mv a.v=a.v
 rc:∀ p ∈ a.ch,killO b.mv (getO a.res p)=getO a.res p
 rn:∀ p ∈ a.new,killO b.mv (getO a.res p)=getO a.res p
 en:∀ k x,a.ent=some (.fn k x)->disj b.mv x.rids=true
theorem vV {l:List Nat}:disj [] l=true:=bq.2 fun _ _ h=>by simp at h
theorem iq {mv l l':List Nat} (h:disj mv l=true) (hs:∀ i ∈ l',i ∈ l):disj mv l' = true:=bq.2 fun i hi=>bq.1 h i (hs i hi)
theorem tN {a b:RC} (h:IH a b=true):OkD a b:=by
 simp only [IH,Bool.and_eq_true] at h
 obtain ⟨⟨⟨⟨⟨h1,h2⟩,h3⟩,h4⟩,h5⟩,h6⟩:=h
 have hd:∀ d,b.dst=some d->d ∉ a.U:=fun d hd hm=>by
  simp only [hd,CP,aU.2 hm,Bool.not_true] at h1; cases h1
 refine ⟨hd,bq.1 h2,bq.1 h3,bq.1 h4,bq.1 h5,?_,?_,?_,?_,?_,?_,?_,?_⟩ <;> (cases hmv:b.mv with
  | nil=>intros; first | rfl | exact vV
  | cons m r=>?_) <;> (rw [hmv] at h6; simp only [Bool.and_eq_true] at h6; obtain ⟨⟨⟨⟨⟨⟨⟨k1,k2⟩,k3⟩,k4⟩,k5⟩,k6⟩,k7⟩,k8⟩:=h6)
 ·intro p hp o ho
  exact iM (qT (k:=0) ho (by rw [Nat.zero_add]; exact bq.1 k1 p hp))
 ·intro t ht v hv
  exact jE (ql hv (bq.1 k2 t ht))
 ·intro t ht v hv
  exact jE (iq k3 fun i hi=>iT hv hi ht)
 ·intro p hp
  exact iM (iq k4 fun i hi=>ej hi hp)
 ·exact jE k5
 ·intro p hp
  exact iM (iq k6 fun i hi=>ej hi hp)
 ·intro p hp
  exact iM (iq k7 fun i hi=>ej hi hp)
 ·intro k x hx
  rw [hx] at k8; exact k8
end Go.Proofs.Ytladifkbefehdaa
namespace Go.Proofs.Ytladifkbefehdaa
open Go.RowKit
theorem RC.cO {r:RC} {p:Nat} {o:AO} (h:p ∉ r.ch):r.obj p o=killO r.mv o:=by rw [RC.obj,if_neg h]
structure Agr (b:RC) (q p:AFr × AH):Prop where
 len:q.2.length=p.2.length
 ob:∀ x ∈ b.σ,q.2[x]? = p.2[x]?
 kd:∀ x ∈ b.ch,(q.2[x]?).map kd=(p.2[x]?).map kd
 sl:∀ t ∈ b.U,lookA q.1 t=lookA p.1 t
theorem oI {a b:RC} (h:okI a b=true) {p:Nat} (ha:p ∈ a.ch) (hb:p ∈ b.ch):∃ e f,a.ent=some e/\b.ent=some f/\e.key≠f.key:=by
 unfold okI at h
 split at h
 ·rename_i e f he hf
  simp only [Bool.or_eq_true,Bool.not_eq_true',decide_eq_false_iff_not] at h
  rcases h with h | h
  ·exact absurd ha (bq.1 h p hb)
  ·exact ⟨e,f,he,hf,h⟩
 ·exact absurd ha (bq.1 h p hb)
theorem tr {b:RC} {s:Nat->Bool}:∀ {rs:List RC} {k:Nat} {q p:AFr × AH},dk p rs->(∀ j r,rs[j]? = some r->s (k+j)=true\/(OkD b r/\okI b r=true))->Agr b q p->Agr b (eE s k rs q) (prg rs p)
 | [],_,_,_,_,_,h=>h
 | r :: rs,k,q,p,hc,hs,h=>by
  obtain ⟨h1,h2,h3,h4⟩:=hc
  have hb:p.2.length=r.base:=by rw [<- h2]; exact h3.base.symm
  have hqb:q.2.length=r.base:=h.len.trans hb
  simp only [eE,prg]
  refine tr h4 (fun j r' hj=>by have:=hs (j+1) r' (by simpa using hj); rwa [show k+(j+1)=k+1+j by omega] at this) ?_
  cases hk:s k with
  | true=>
   simp only [cond_true]
   refine ⟨(bn h3 hqb).trans (bn h3 hb).symm,fun x hx=>?_,fun x hx=>?_,fun t ht=>?_⟩
   ·rw [dD h3 hqb,dD h3 hb,h.ob x hx]
   ·rw [dD h3 hqb,dD h3 hb]
    by_cases hlt:x<r.base
    ·rw [if_pos hlt,if_pos hlt]
     have:=h.kd x hx
     have key:∀ o o',kd o=kd o' -> kd (r.obj x o)=kd (r.obj x o'):=fun o o' e=>by
      unfold RC.obj
      split
      ·split
       ·rw [om,om,e]
       ·rfl
      ·rw [kM,kM,e]
     cases hq:q.2[x]? <;> cases hp:p.2[x]? <;> rw [hq,hp] at this <;> simp at this ⊢
     exact key _ _ this
    ·rw [if_neg hlt,if_neg hlt]
   ·rw [dV,dV,h.sl t ht]
  | false=>
   simp only [cond_false]
   obtain ⟨hd,hi⟩:=(hs 0 r rfl).resolve_left (by rw [Nat.add_zero,hk]; simp)
   refine ⟨(dI h3 hqb).trans (bn h3 hb).symm,fun x hx=>?_,fun x hx=>?_,fun t ht=>?_⟩
   ·rw [dU h3 hqb,dD h3 hb,h.ob x hx]
    by_cases hlt:x<r.base
    ·rw [if_pos hlt,if_pos hlt]
     cases hp:p.2[x]? with
     | none=>rfl
     | some o=>
      rw [Option.map_some,RC.cO (hd.chσ x hx),hd.kp x hx o (by rw [h2]; exact hp)]
    ·rw [if_neg hlt,if_neg hlt]
     have hn:=hd.nσ x hx
     rw [iU h3] at hn
     rw [if_neg (fun hh=>hn ⟨by omega,hh⟩),List.getElem?_eq_none (by omega)]
   ·rw [dU h3 hqb,dD h3 hb]
    by_cases hlt:x<r.base
    ·rw [if_pos hlt,if_pos hlt]
     have:=h.kd x hx
     cases hq:q.2[x]? <;> cases hp:p.2[x]? <;> rw [hq,hp] at this <;> simp at this ⊢
     rw [this]
     unfold RC.obj
     split
     ·rename_i hxr
      obtain ⟨e,f,_,hf,_⟩:=oI hi hx hxr
      rw [hf]; exact om.symm
     ·exact kM.symm
    ·rw [if_neg hlt,if_neg hlt]
     have hn:=hd.nch x hx
     rw [iU h3] at hn
     rw [if_neg (fun hh=>hn ⟨by omega,hh⟩),List.getElem?_eq_none (by omega)]
   ·rw [dV,if_neg (fun e=>hd.dst t e ht)]
    show lookA q.1 t=_
    rw [h.sl t ht]
    cases hp:lookA p.1 t with
    | none=>rfl
    | some v=>rw [Option.map_some,hd.ks t ht v (by rw [h1]; exact hp)]
structure AgrB (b:RC) (q:AFr × AH):Prop where
 ob:∀ x ∈ b.σ,x<b.base->q.2[x]? = b.H0[x]?
 kd:∀ x ∈ b.ch,x<b.base->(q.2[x]?).map kd=(b.H0[x]?).map kd
 sl:∀ t ∈ b.U,lookA q.1 t=lookA b.fr0 t
 gn:∀ x,b.base<=x->x<b.res.length->q.2[x]? = some .gone
theorem qY {b:RC} (hbf:b.Fit) {s:Nat->Bool}:∀ {rs:List RC} {k:Nat} {q p:AFr × AH},dk p rs->b.res.length<=p.2.length->q.2.length=p.2.length->(∀ j r,rs[j]? = some r->s (k+j)=false\/(OkD b r/\okI b r=true))->AgrB b q->AgrB b (eE s k rs q)
 | [],_,_,_,_,_,_,_,h=>h
 | r :: rs,k,q,p,hc,hbl,hlen,hs,h=>by
  obtain ⟨h1,h2,h3,h4⟩:=hc
  have hb:p.2.length=r.base:=by rw [<- h2]; exact h3.base.symm
  have hqb:q.2.length=r.base:=hlen.trans hb
  have hle:=h3.le
  simp only [eE]
  have hl2:(bif s k then r.app q else r.uL q).2.length=(r.app p).2.length:=by
   cases s k
   ·exact (dI h3 hqb).trans (bn h3 hb).symm
   ·exact (bn h3 hqb).trans (bn h3 hb).symm
  have hble:=hbf.le
  refine qY hbf h4 (by rw [bn h3 hb]; omega) hl2 (fun j r' hj=>by have:=hs (j+1) r' (by simpa using hj); rwa [show k+(j+1)=k+1+j by omega] at this) ?_
  cases hk:s k with
  | false=>
   simp only [cond_false]
   refine ⟨fun x hx hlt=>?_,fun x hx hlt=>?_,fun t ht=>h.sl t ht,fun x hx hlt=>?_⟩
   ·rw [dU h3 hqb,if_pos (by omega)]; exact h.ob x hx hlt
   ·rw [dU h3 hqb,if_pos (by omega)]; exact h.kd x hx hlt
   ·rw [dU h3 hqb,if_pos (by omega)]; exact h.gn x hx hlt
  | true=>
   simp only [cond_true]
   obtain ⟨hd,hi⟩:=(hs 0 r rfl).resolve_left (by rw [Nat.add_zero,hk]; simp)
   refine ⟨fun x hx hlt=>?_,fun x hx hlt=>?_,fun t ht=>?_,fun x hx hlt=>?_⟩
   ·rw [dD h3 hqb,if_pos (by omega),h.ob x hx hlt]
    cases hp:b.H0[x]? with
    | none=>rfl
    | some o=>
     have:=hd.ob x hx
     rw [dJ hp] at this
     rw [Option.map_some,RC.cO (hd.chσ x hx),this]
   ·rw [dD h3 hqb,if_pos (by omega),<- h.kd x hx hlt]
    cases hq:q.2[x]? with
    | none=>rfl
    | some o=>
     simp only [Option.map_some,Option.some.injEq]
     unfold RC.obj
     split
     ·rename_i hxr
      obtain ⟨e,f,_,hf,_⟩:=oI hi hx hxr
      rw [hf]; exact om
     ·exact kM
   ·rw [dV,if_neg (fun e=>hd.dst t e ht),h.sl t ht]
    cases hp:lookA b.fr0 t with
    | none=>rfl
    | some v=>rw [Option.map_some,hd.sl t ht v hp]
   ·rw [dD h3 hqb,if_pos (by omega),h.gn x hx hlt,Option.map_some,RC.cO (hd.chn x ((iU hbf).2 ⟨hx,hlt⟩)),lY]
def RC.endO (b:RC) (x:Nat) (o:AO):AO:=if b.base<=x/\x<b.res.length then getO b.res x else b.obj x o
def RC.endF (b:RC) (t:Nat) (v:Option TV):Option TV:=if b.dst=some t then some b.v else v.map (killTV b.mv)
inductive OOq:Option AO->Option AO->Prop
 | none:OOq none none
 | some {o o':AO}:AOq o o' -> OOq (some o) (some o')
structure Rel (b:RC) (q' q:AFr × AH):Prop where
 len:q'.2.length=q.2.length
 ob:∀ x,OOq (q'.2[x]?) ((q.2[x]?).map (b.endO x))
 sl:∀ t,lookA q'.1 t=b.endF t (lookA q.1 t)
theorem OOq.refl:∀ o:Option AO,OOq o o
 | .none=>.none
 | .some _=>.some .rfl
theorem vm {b:RC} (hb:b.Fit) {q:AFr × AH} (hq:q.2.length=b.base):Rel b (b.app q) (b.uL q):=by
 refine ⟨(bn hb hq).trans (dI hb hq).symm,fun x=>?_,fun t=>dV⟩
 rw [dD hb hq,dU hb hq]
 by_cases h1:x<b.base
 ·rw [if_pos h1,if_pos h1]
  have:(q.2[x]?).map (b.obj x)=(q.2[x]?).map (b.endO x):=by
   cases q.2[x]? with
   | none=>rfl
   | some o=>simp only [Option.map_some,RC.endO,if_neg (show ¬ (b.base<=x/\x<b.res.length) by omega)]
  rw [this]; exact .refl _
 ·rw [if_neg h1,if_neg h1]
  by_cases h2:x<b.res.length
  ·rw [if_pos h2,Option.map_some,RC.endO,if_pos ⟨by omega,h2⟩,List.getElem?_eq_getElem h2]
   exact .some (by rw [dJ (List.getElem?_eq_getElem h2)]; exact .rfl)
  ·rw [if_neg h2,List.getElem?_eq_none (by omega)]; exact .none
theorem Ck {b r:RC} (hb:b.Fit) (hdb:OkD b r) (hdr:OkD r b) (hi:okI b r=true) {x:Nat} {o o':AO} (h:AOq o' (b.endO x o)):AOq (r.obj x o') (b.endO x (r.obj x o)):=by
 by_cases hn:b.base<=x/\x<b.res.length
 ·-- b's own
  have hxb:x ∈ b.new:=(iU hb).2 hn
  have hxr:x ∉ r.ch:=hdb.chn x hxb
  simp only [RC.endO,if_pos hn] at h ⊢
  rw [RC.cO hxr]
  have:=(h.kill (mv:=r.mv)).trans (by rw [hdb.rn x hxb]; exact .rfl)
  exact this
 ·simp only [RC.endO,if_neg hn] at h ⊢
  by_cases hxb:x ∈ b.ch
  ·by_cases hxr:x ∈ r.ch
   ·obtain ⟨e,f,he,hf,hne⟩:=oI hi hxb hxr
    simp only [RC.obj,if_pos hxb,if_pos hxr,he,hf] at h ⊢
    exact (h.put (e:=f)).trans (put_comm hne)
   ·rw [RC.cO hxr,RC.cO hxr]
    cases he:b.ent with
    | some e=>
     simp only [RC.obj,if_pos hxb,he] at h ⊢
     refine (h.kill (mv:=r.mv)).trans ?_
     rw [po fun k a hk=>hdb.en k a (by rw [he,hk])]
     exact .rfl
    | none=>
     simp only [RC.obj,if_pos hxb,he] at h ⊢
     have:=h.kill (mv:=r.mv)
     rwa [hdb.rc x hxb] at this
  ·rw [RC.cO hxb] at h ⊢
   by_cases hxr:x ∈ r.ch
   ·cases he:r.ent with
    | some e=>
     simp only [RC.obj,if_pos hxr,he]
     refine (h.put (e:=e)).trans ?_
     rw [po fun k a hk=>hdr.en k a (by rw [he,hk])]
     exact .rfl
    | none=>
     simp only [RC.obj,if_pos hxr,he]
     rw [hdr.rc x hxr]; exact .rfl
   ·rw [RC.cO hxr,RC.cO hxr,re]
    exact h.kill
theorem zA {b r:RC} (hb:b.Fit) (hr:r.Fit) (hdb:OkD b r) (hdr:OkD r b) (hi:okI b r=true) (hds:∀ d,b.dst=some d->r.dst≠some d) {q' q:AFr × AH} (hq:q.2.length=r.base) (hbr:b.res.length<=r.base) (h:Rel b q' q):Rel b (r.app q') (r.app q):=by
 have hq':q'.2.length=r.base:=h.len.trans hq
 refine ⟨(bn hr hq').trans (bn hr hq).symm,fun x=>?_,fun t=>?_⟩
 ·rw [dD hr hq',dD hr hq]
  by_cases hlt:x<r.base
  ·rw [if_pos hlt,if_pos hlt]
   have:=h.ob x
   cases hx':q'.2[x]? <;> cases hx:q.2[x]? <;> rw [hx',hx] at this <;> simp only [Option.map_some,Option.map_none] at this ⊢ <;> cases this
   ·exact .none
   ·rename_i hh; exact .some (Ck hb hdb hdr hi hh)
  ·rw [if_neg hlt,if_neg hlt]
   cases hx:r.res[x]? with
   | none=>exact .none
   | some o=>
    refine .some ?_
    have hlx:=(List.getElem?_eq_some_iff.1 hx).1
    have hxn:x ∈ r.new:=(iU hr).2 ⟨by omega,hlx⟩
    have h1:=hdr.rn x hxn
    rw [dJ hx] at h1
    have h2:x ∉ b.ch:=hdr.chn x hxn
    rw [RC.endO,if_neg (by omega),RC.cO h2,h1]
    exact .rfl
 ·rw [dV,dV,h.sl t]
  unfold RC.endF
  by_cases hrt:r.dst=some t
  ·rw [if_pos hrt,if_pos hrt,if_neg (fun e=>hds t e hrt),Option.map_some,hdr.v]
  ·rw [if_neg hrt,if_neg hrt]
   by_cases hbt:b.dst=some t
   ·rw [if_pos hbt,if_pos hbt,Option.map_some,hdb.v]
   ·rw [if_neg hbt,if_neg hbt,Option.map_map,Option.map_map]
    cases lookA q.1 t with
    | none=>rfl
    | some v=>simp only [Option.map_some,Function.comp,pw]
theorem Aq {b r:RC} (hb:b.Fit) (hr:r.Fit) (hdr:∀ x ∈ b.ch,x<b.base) {q' q:AFr × AH} (hq:q.2.length=r.base) (hbr:b.res.length<=r.base) (h:Rel b q' q):Rel b (r.uL q') (r.uL q):=by
 have hq':q'.2.length=r.base:=h.len.trans hq
 have hble:=hb.le
 refine ⟨(dI hr hq').trans (dI hr hq).symm,fun x=>?_,h.sl⟩
 rw [dU hr hq',dU hr hq]
 by_cases hlt:x<r.base
 ·rw [if_pos hlt,if_pos hlt]; exact h.ob x
 ·rw [if_neg hlt,if_neg hlt]
  by_cases h2:x<r.res.length
  ·rw [if_pos h2,Option.map_some,RC.endO,if_neg (by omega),RC.cO (fun hm=>by have:=hdr x hm; omega),lY]
   exact .some .rfl
  ·rw [if_neg h2]; exact .none
theorem se {b:RC} (hb:b.Fit) (hch:∀ x ∈ b.ch,x<b.base) {s:Nat->Bool}:∀ {rs:List RC} {k:Nat} {q' q p:AFr × AH},dk p rs->b.res.length<=p.2.length->q.2.length=p.2.length->(∀ j r,rs[j]? = some r->(s (k+j)=false\/(OkD b r/\OkD r b/\okI b r=true))/\∀ d,b.dst=some d->r.dst≠some d)->Rel b q' q->Rel b (eE s k rs q') (eE s k rs q)
 | [],_,_,_,_,_,_,_,_,h=>h
 | r :: rs,k,q',q,p,hc,hbl,hlen,hs,h=>by
  obtain ⟨_,h2,h3,h4⟩:=hc
  have hb0:p.2.length=r.base:=by rw [<- h2]; exact h3.base.symm
  have hqb:q.2.length=r.base:=hlen.trans hb0
  have hle:=h3.le
  simp only [eE]
  have hl2:(bif s k then r.app q else r.uL q).2.length=(r.app p).2.length:=by
   cases s k
   ·exact (dI h3 hqb).trans (bn h3 hb0).symm
   ·exact (bn h3 hqb).trans (bn h3 hb0).symm
  refine se hb hch h4 (by rw [bn h3 hb0]; omega) hl2 (fun j r' hj=>by have:=hs (j+1) r' (by simpa using hj); rwa [show k+(j+1)=k+1+j by omega] at this) ?_
  cases hk:s k with
  | false=>exact Aq hb h3 hch hqb (by omega) h
  | true=>
   obtain ⟨hh,hds⟩:=hs 0 r rfl
   obtain ⟨hd1,hd2,hi⟩:=hh.resolve_left (by rw [Nat.add_zero,hk]; simp)
   exact zA hb h3 hd1 hd2 hi hds hqb (by omega) h
end Go.Proofs.Ytladifkbefehdaa
namespace Go.Proofs.Ytladifkbefehdaa
open Go.RowKit
theorem Rd.on {c c':Cx} {ρ ρ':List RE} {a:AV} {v:Value} (h:Rd c ρ a v) (hc:c.le c') (k:∀ i ∈ a.ids,∀ r,ρ[i]? = some r->r ≠ .no->ρ'[i]? = some r):Rd c' ρ' a v:=by
 have cap:∀ q u,q.1 ∈ a.ids->d_ ρ q u->d_ ρ' q u:=fun q u hq ⟨g,h1,h2⟩=>⟨g,k _ hq _ h1 (by simp),h2⟩
 cases a with
 | own id=>
  rcases h with ⟨g,cap,len,z,h,e⟩ | ⟨h,e⟩
  ·exact .inl ⟨g,cap,len,z,k id (by simp [AV.ids]) _ h (by simp),e⟩
  ·exact .inr ⟨k id (by simp [AV.ids]) _ h (by simp),e⟩
 | sub id o l=>
  rcases h with ⟨g,cap,len,z,h,e⟩ | ⟨h,e⟩
  ·exact .inl ⟨g,cap,len,z,k id (by simp [AV.ids]) _ h (by simp),e⟩
  ·exact .inr ⟨k id (by simp [AV.ids]) _ h (by simp),e⟩
 | ptr id o=>exact cap (id,o) _ (by simp [AV.ids]) h
 | elp id i o=>
  obtain ⟨g,cap,len,z,h,e⟩:=h
  exact ⟨g,cap,len,z,k id (by simp [AV.ids]) _ h (by simp),e⟩
 | fe s x o=>
  obtain ⟨A,cells,h1,h2,h3,e⟩:=h
  exact ⟨A,cells,(hc.S _ h1).1,h2.keep (hc.S _ h1).2,h3.carry hc,e⟩
 | fn f b cs=>
  obtain ⟨bs,us,h1,h2,e⟩:=h
  have all:∀ (l:List (Nat × Nat)) (us:List Value),(∀ q ∈ l,q.1 ∈ (AV.fn f b cs).ids)->All2 (d_ ρ) l us->All2 (d_ ρ') l us:=fun l us hl h=>by
   induction h with
   | nil=>exact .nil
   | cons h1 _ ih=>exact .cons (cap _ _ (hl _ (by simp)) h1) (ih fun q hq=>hl q (by simp [hq]))
  refine ⟨bs,us,all b bs (fun q hq=>?_) h1,all cs us (fun q hq=>?_) h2,e⟩ <;> simp only [AV.ids,List.mem_append] <;> first | exact .inl (List.mem_map_of_mem hq) | exact .inr (List.mem_map_of_mem hq)
 | mq id=>
  obtain ⟨g,h1,e⟩:=h
  exact ⟨g,k id (by simp [AV.ids]) _ h1 (by simp),e⟩
 | np=>exact h
 | nf=>exact h
 | dead=>exact h
 | int n=>exact Pd.carry h hc
 | u8 b=>exact Pd.carry h hc
 | u64 n=>exact Pd.carry h hc
 | bool e=>exact Pd.carry h hc
 | str s=>exact Pd.carry h hc
 | em b=>exact Pd.carry h hc
 | fz s xs=>exact Pd.carry h hc
theorem HL.on {c c':Cx} {ρ ρ':List RE}:∀ {asx:List AV} {vs:List Value},All2 (Rd c ρ) asx vs->c.le c' -> (∀ i ∈ oD asx,∀ r,ρ[i]? = some r->r ≠ .no->ρ'[i]? = some r)->All2 (Rd c' ρ') asx vs
 | [],_,h,_,_=>by cases h; exact .nil
 | a :: r,_,h,hc,k=>by
  cases h with
  | cons h1 h2=>exact .cons (h1.on hc fun i hi=>k i (fK (a:=a) (by simp) hi)) (HL.on h2 hc fun i hi=>k i (by simp only [oD,List.mem_append]; exact .inr hi))
theorem bW.on {c c':Cx} {ρ ρ':List RE} {t:TV1} {v:Value} (h:bW c ρ t v) (hc:c.le c') (k:∀ i ∈ oD t.cells,∀ r,ρ[i]? = some r->r ≠ .no->ρ'[i]? = some r):bW c' ρ' t v:=by
 cases t with
 | c a=>exact Rd.on h hc fun i hi=>k i (fK (a:=a) (by simp [TV1.cells]) hi)
 | agg l=>obtain ⟨vs,e,h⟩:=h; exact ⟨vs,e,HL.on h hc k⟩
theorem CI.on {c c':Cx} {ρ ρ':List RE}:∀ {asx:List TV1} {vs:List Value},All2 (bW c ρ) asx vs->c.le c' -> (∀ i ∈ kI asx,∀ r,ρ[i]? = some r->r ≠ .no->ρ'[i]? = some r)->All2 (bW c' ρ') asx vs
 | [],_,h,_,_=>by cases h; exact .nil
 | a :: r,_,h,hc,k=>by
  cases h with
  | cons h1 h2=>exact .cons (h1.on hc fun i hi=>k i (by simp only [kI,List.mem_append]; exact .inl hi)) (CI.on h2 hc fun i hi=>k i (by simp only [kI,List.mem_append]; exact .inr hi))
theorem Rt.on {c c':Cx} {ρ ρ':List RE} {t:TV} {v:Value} (h:Rt c ρ t v) (hc:c.le c') (k:∀ i ∈ t.ids,∀ r,ρ[i]? = some r->r ≠ .no->ρ'[i]? = some r):Rt c' ρ' t v:=by
 cases t with
 | one t=>exact bW.on h hc k
 | tup l=>obtain ⟨vs,e,h⟩:=h; exact ⟨vs,e,CI.on h hc k⟩
 | un=>trivial
theorem Cg {i:Nat} {l:List (Int × AV)} {q:Int × AV} (h:q ∈ l) (hi:i ∈ q.2.ids):i ∈ yZ l:=lu h hi
theorem OR.on {c c':Cx} {ρ ρ':List RE} {o:AO} {r:RE} (h:OR c ρ o r) (hc:c.le c') (hw:c'.w=c.w) (k:∀ i ∈ o.ids,∀ r,ρ[i]? = some r->r ≠ .no->ρ'[i]? = some r):OR c' ρ' o r:=by
 cases o with
 | gone=>exact h
 | loc=>trivial
 | mapo s f=>
  obtain ⟨g,rfl,h⟩:=h
  exact ⟨g,rfl,h.carry hc (by rw [hw])⟩
 | mapf l=>
  obtain ⟨g,rfl,h⟩:=h
  exact ⟨g,rfl,h.map (g0:=fun a=>a) (by simp) (fun q hq _ h=>h.on hc fun i hi=>k i (Cg hq hi)) (by rw [hw])⟩
 | arr t s n xs=>
  obtain ⟨g,vs,rfl,h1,h2,h3⟩:=h
  exact ⟨g,vs,rfl,by rw [hw]; exact h1,h2.carry hc,h3⟩
 | box t cs=>
  obtain ⟨g,vs,rfl,h1,h2⟩:=h
  exact ⟨g,vs,rfl,by rw [hw]; exact h1,HL.on h2 hc k⟩
 | row t s xs=>
  obtain ⟨h1,h2,h3⟩:=h
  refine ⟨hc.shp ▸ h1,h2,h3.imp id ?_⟩
  rintro ⟨g,cap,cells,sp,rfl,h4,h5,h6⟩
  exact ⟨g,cap,cells,sp,rfl,by rw [hw]; exact h4,h5.carry hc,h6⟩
theorem vD {mv:List Nat} (h:mv=[]) {l:List AV}:mz (AV.bm mv) l=l:=la fun a _=>dB (by subst h; simp)
theorem xM {mv:List Nat} {o:AO}:killO mv o=o.mapA (AV.bm mv):=by
 cases mv with
 | cons _ _=>rfl
 | nil=>
  cases o with
  | box t cs=>exact congrArg (AO.box t) (vD rfl).symm
  | mapf l=>
   show AO.mapf l=AO.mapf (mapM _ l)
   rw [kR]
   congr 1
   refine ((List.map_congr_left fun q _=>?_).trans (List.map_id _)).symm
   have e:=dB (mv:=[]) (a:=q.2) (by simp)
   show (q.1,AV.bm [] q.2)=q
   rw [e]
  | _=>rfl
def Gz (G:Gl) (ρc:List RE):Gl:=⟨G.shp,G.B0,fun b=>G.Z b\/live ρc b⟩
section
variable {G:Gl} {ρ:List RE} {S:AH} {w w':World} {m top:Nat}
structure Part (G:Gl) (ρ:List RE) (S:AH) (w:World) (m top:Nat):Prop where
 R:Rep G ρ S w
 le:m<=top
 len:top<=S.length
 gn:∀ x,m<=x->x<top->S[x]? = some .gone
theorem Part.Jf (h:Part G ρ S w m top) {x:Nat} (h1:m<=x) (h2:x<top):ρ[x]? = some .no:=by
 obtain ⟨r,hr,hor⟩:=h.R.at_ (h.gn x h1 h2)
 cases hor; exact hr
theorem Part.lv (h:Part G ρ S w m top) {b:Nat}:live ρ b↔live (ρ.take m) b\/live (ρ.drop top) b:=by
 have:=h.le
 constructor
 ·rintro ⟨i,r,h1,h2⟩
  by_cases hi:i<m
  ·exact .inl ⟨i,r,by rw [List.getElem?_take,if_pos hi]; exact h1,h2⟩
  ·by_cases hj:i<top
   ·rw [h.Jf (by omega) hj] at h1; cases h1; cases h2
   ·exact .inr ⟨i - top,r,by rw [List.getElem?_drop,show top+(i - top)=i by omega]; exact h1,h2⟩
 ·rintro (⟨i,r,h1,h2⟩ | ⟨i,r,h1,h2⟩)
  ·rw [List.getElem?_take] at h1
   split at h1
   ·exact ⟨i,r,h1,h2⟩
   ·cases h1
  ·rw [List.getElem?_drop] at h1
   exact ⟨_,r,h1,h2⟩
theorem Part.sS (h:Part G ρ S w m top) {b:Nat}:(cx (Gz G (ρ.drop top)) (ρ.take m) w).S b↔(cx G ρ w).S b:=by
 show (b<w.heap.size/\¬ live (ρ.take m) b/\¬ (G.Z b\/live (ρ.drop top) b))↔(b<w.heap.size/\¬ live ρ b/\¬ G.Z b)
 rw [h.lv]
 constructor
 ·rintro ⟨h1,h2,h3⟩; exact ⟨h1,fun hh=>hh.elim h2 fun k=>h3 (.inr k),fun k=>h3 (.inl k)⟩
 ·rintro ⟨h1,h2,h3⟩; exact ⟨h1,fun k=>h2 (.inl k),fun hh=>hh.elim h3 fun k=>h2 (.inr k)⟩
theorem Part.JP (h:Part G ρ S w m top):(cx G ρ w).le (cx (Gz G (ρ.drop top)) (ρ.take m) w):=⟨rfl,rfl,fun _ hb=>⟨h.sS.2 hb,rfl⟩⟩
theorem gh {i:Nat} {r:RE} (h:(ρ.take m)[i]? = some r):ρ[i]? = some r/\i<m:=by
 rw [List.getElem?_take] at h
 split at h
 ·exact ⟨h,‹_›⟩
 ·cases h
theorem Part.mask (h:Part G ρ S w m top) {σ:List Nat} (hσ:∀ x ∈ σ,∀ i ∈ (getO S x).ids,i<m):Rep (Gz G (ρ.drop top)) (ρ.take m) (maskH σ 0 (S.take m)) w:=by
 have hl:=h.R.obj.length
 refine ⟨bG (by rw [jw,List.length_take,List.length_take,hl]) fun j o r ho hr=>?_,fun i j r r' g h1 h2 h3 h4=>h.R.inj i j r r' g (gh h1).1 (gh h2).1 h3 h4,fun i r g h1 h2=>?_,fun b hb=>hb.elim (h.R.z b) fun ⟨j,r,h1,h2⟩=>?_,h.R.b0⟩
 ·obtain ⟨hr,hj⟩:=gh hr
  rw [ij,List.getElem?_take,if_pos hj,Nat.zero_add,Option.map_eq_some_iff] at ho
  obtain ⟨o',ho',rfl⟩:=ho
  split
  ·rename_i hm
   obtain ⟨r',hr',hor⟩:=h.R.at_ ho'
   rw [hr] at hr'; cases hr'
   refine hor.on h.JP rfl fun i hi r hri _=>?_
   have:=hσ j hm i (by rw [dJ ho']; exact hi)
   rw [List.getElem?_take,if_pos this]; exact hri
  ·trivial
 ·obtain ⟨h1,hi⟩:=gh h1
  have:=h.R.bnd i r g h1 h2
  refine ⟨this.1,this.2.1,fun hz=>hz.elim this.2.2 fun ⟨j,r',h3,h4⟩=>?_⟩
  rw [List.getElem?_drop] at h3
  have e:=h.R.inj i _ r r' g h1 h3 h2 h4
  have:=h.le
  omega
 ·rw [List.getElem?_drop] at h1
  exact (h.R.bnd _ r b h1 h2).2.1
theorem Part.merge (h:Part G ρ S w m top) {ro:Lv} {b:RC} (hbase:b.base=m) (hres:b.res.length=top) (hent:b.ent=none) (hch:∀ x ∈ b.ch,x<m) {ρt:List RE} (hro:∀ i,ro.wr i=false\/ro.mv i=false->i<m) (hS:Stp ⟨fun i=>bl i b.ch && ro.wr i,fun i=>bl i b.mv && ro.mv i⟩ (ρ.take m) w ρt w') (hRt:Rep (Gz G (ρ.drop top)) ρt b.res w') {S':AH} (hlen:S'.length=S.length) (hS':∀ x,OOq (S'[x]?) ((S[x]?).map (b.endO x))) :
  Rep G (ρt++ρ.drop top) S' w' /\ Stp ro ρ w (ρt++ρ.drop top) w' /\ (∀ a v,Rd (cx G ρ w) ρ a v->Rd (cx G (ρt++ρ.drop top) w') (ρt++ρ.drop top) (a.bm b.mv) v)/\(∀ t v,Rt (cx (Gz G (ρ.drop top)) ρt w') ρt t v->Rt (cx G (ρt++ρ.drop top) w') (ρt++ρ.drop top) t v):=by
 have hl:=h.R.obj.length
 have hle:=h.le
 have htl:ρt.length=top:=by rw [<- hRt.obj.length,hres]
 have hSl:=h.len
 -- where they lie
 have at1:∀ i,i<top->(ρt++ρ.drop top)[i]? = ρt[i]?:=fun i hi=>List.getElem?_append_left (by omega)
 have at2:∀ i,top<=i->(ρt++ρ.drop top)[i]? = ρ[i]?:=fun i hi=>by rw [List.getElem?_append_right (by omega),htl,List.getElem?_drop]; congr 1; omega
 have lv':∀ b,live (ρt++ρ.drop top) b↔live ρt b\/live (ρ.drop top) b:=fun b=>by
  constructor
  ·rintro ⟨i,r,h1,h2⟩
   by_cases hi:i<top
   ·exact .inl ⟨i,r,by rw [<- at1 i hi]; exact h1,h2⟩
   ·refine .inr ⟨i - top,r,?_,h2⟩
    rw [at2 i (by omega)] at h1
    rw [List.getElem?_drop,show top+(i - top)=i by omega]; exact h1
  ·rintro (⟨i,r,h1,h2⟩ | ⟨i,r,h1,h2⟩)
   ·exact ⟨i,r,by rw [at1 i (by rw [<- htl]; exact (List.getElem?_eq_some_iff.1 h1).1)]; exact h1,h2⟩
   ·rw [List.getElem?_drop] at h1
    exact ⟨top+i,r,by rw [at2 _ (by omega)]; exact h1,h2⟩
 have hblk:∀ g,g<w.heap.size->¬ live (ρ.take m) g->¬ live ρt g/\w'.heap[g]? = w.heap[g]?:=fun g hg hn=>hS.ext.old g hg hn
 have hcn:∀ g,live (ρ.drop top) g->g<w.heap.size/\¬ live (ρ.take m) g:=by
  rintro g ⟨j,r,h1,h2⟩
  rw [List.getElem?_drop] at h1
  refine ⟨(h.R.bnd _ r g h1 h2).2.1,?_⟩
  rintro ⟨i,r',h3,h4⟩
  obtain ⟨h3,h5⟩:=gh h3
  have:=h.R.inj _ _ _ _ g h1 h3 h2 h4
  omega
 have hext:Ext ρ w (ρt++ρ.drop top) w':=⟨hS.ext.os,hS.ext.tape,hS.ext.output,hS.ext.size,fun b hb hl=>by
  rw [h.lv] at hl
  have hk:=hblk b hb fun k=>hl (.inl k)
  exact ⟨fun k=>((lv' b).1 k).elim hk.1 fun k=>hl (.inr k),hk.2⟩⟩
 have hcle:(cx G ρ w).le (cx G (ρt++ρ.drop top) w'):=hext.le
 have hcle2:(cx (Gz G (ρ.drop top)) ρt w').le (cx G (ρt++ρ.drop top) w'):=⟨rfl,rfl,fun b ⟨h1,h2,h3⟩=>⟨⟨h1,fun k=>((lv' b).1 k).elim h2 fun k=>h3 (.inr k),fun k=>h3 (.inl k)⟩,rfl⟩⟩
 have hagr:jk ρt (ρt++ρ.drop top):=dK _ _
 -- what is kept
 have keep:∀ i r,ρ[i]? = some r->r ≠ .no->((∃ g,r = .blk g)\/i ∉ b.mv)->(ρt++ρ.drop top)[i]? = some r:=fun i r hr hne hk=>by
  by_cases hi:i<m
  ·rw [at1 i (by omega)]
   have hr':(ρ.take m)[i]? = some r:=by rw [List.getElem?_take,if_pos hi]; exact hr
   rcases hk with ⟨g,rfl⟩ | hk
   ·exact hS.bx i g hr'
   ·refine hS.loc i r ?_ hr'
    have:bl i b.mv=false:=by rw [<- Bool.not_eq_true,aU]; exact hk
    simp [this]
  ·by_cases hj:i<top
   ·rw [h.Jf (by omega) hj] at hr; cases hr; exact absurd rfl hne
   ·rw [at2 i (by omega)]; exact hr
 have hrd:∀ a v,Rd (cx G ρ w) ρ a v->Rd (cx G (ρt++ρ.drop top) w') (ρt++ρ.drop top) (a.bm b.mv) v:=by
  intro a v hd
  have nm:∀ j,bl j b.mv=false->j ∉ b.mv:=fun j hb hm=>by rw [aU.2 hm] at hb; cases hb
  cases a with
  | own j=>
   simp only [AV.bm]
   cases hb:bl j b.mv
   ·refine Rd.on hd hcle fun i hi r hr hne=>keep i r hr hne (.inr ?_)
    simp only [AV.ids,cond_false,List.mem_singleton] at hi; subst hi; exact nm _ hb
   ·exact Rd.one hd
  | sub j o k=>
   simp only [AV.bm]
   cases hb:bl j b.mv
   ·refine Rd.on hd hcle fun i hi r hr hne=>keep i r hr hne (.inr ?_)
    simp only [AV.ids,cond_false,List.mem_singleton] at hi; subst hi; exact nm _ hb
   ·exact Rd.one hd
  | elp j k o=>
   simp only [AV.bm]
   cases hb:bl j b.mv
   ·refine Rd.on hd hcle fun i hi r hr hne=>keep i r hr hne (.inr ?_)
    simp only [AV.ids,cond_false,List.mem_singleton] at hi; subst hi; exact nm _ hb
   ·exact Rd.one hd
  | ptr j o=>
   obtain ⟨g,h1,e⟩:=hd
   exact ⟨g,keep _ _ h1 (by simp) (.inl ⟨g,rfl⟩),e⟩
  | mq j=>
   obtain ⟨g,h1,e⟩:=hd
   exact ⟨g,keep _ _ h1 (by simp) (.inl ⟨g,rfl⟩),e⟩
  | fn f b' cs=>
   obtain ⟨bs,us,h1,h2,e⟩:=hd
   exact ⟨bs,us,h1.imp fun _ _ ⟨g,k1,k2⟩=>⟨g,keep _ _ k1 (by simp) (.inl ⟨g,rfl⟩),k2⟩,h2.imp fun _ _ ⟨g,k1,k2⟩=>⟨g,keep _ _ k1 (by simp) (.inl ⟨g,rfl⟩),k2⟩,e⟩
  | fe s x o=>
   obtain ⟨A,cells,h1,h2,h3,e⟩:=hd
   exact ⟨A,cells,(hcle.S _ h1).1,h2.keep (hcle.S _ h1).2,h3.carry hcle,e⟩
  | np=>exact hd
  | nf=>exact hd
  | dead=>exact hd
  | int n=>exact Pd.carry hd hcle
  | u8 b=>exact Pd.carry hd hcle
  | u64 n=>exact Pd.carry hd hcle
  | bool e=>exact Pd.carry hd hcle
  | str s=>exact Pd.carry hd hcle
  | em b=>exact Pd.carry hd hcle
  | fz s xs=>exact Pd.carry hd hcle
 refine ⟨⟨?_,?_,?_,fun b hb=>Nat.lt_of_lt_of_le (h.R.z b hb) hext.size,Nat.le_trans h.R.b0 hext.size⟩,⟨hext,fun i r hi hr=>?_,fun i r hi hr=>?_,fun i g hi=>?_⟩,hrd,fun t v ht=>ht.carry hcle2 hagr⟩
 ·refine bG (by rw [hlen,List.length_append,htl,List.length_drop]; omega) fun x o r ho hr=>?_
  have hq:=hS' x
  rw [ho] at hq
  cases hx:S[x]? with
  | none=>rw [hx] at hq; cases hq
  | some o0=>
   rw [hx,Option.map_some] at hq
   cases hq with
   | some hq=>
   refine hq.symm.or ?_
   obtain ⟨r0,hr0,hor0⟩:=h.R.at_ hx
   -- those that stay: wi
   have stay:ρ[x]? = some r->(∀ g,r.g? = some g->w'.heap[g]? = w.heap[g]?)->OR (cx G (ρt++ρ.drop top) w') (ρt++ρ.drop top) (killO b.mv o0) r:=fun hr' hg=>by
    rw [hr0] at hr'; cases hr'
    rw [xM]
    exact hor0.map hcle hrd hg
   have fromRes:x<top->∀ o1,b.res[x]? = some o1->OR (cx G (ρt++ρ.drop top) w') (ρt++ρ.drop top) o1 r:=fun hx1 o1 ho1=>by
    rw [at1 x hx1] at hr
    obtain ⟨r1,hr1,hor1⟩:=hRt.at_ ho1
    rw [hr] at hr1; cases hr1
    exact hor1.carry hcle2 hagr fun _ _=>rfl
   unfold RC.endO
   rw [hbase,hres]
   split
   ·rename_i hn
    refine fromRes hn.2 _ ?_
    rw [List.getElem?_eq_getElem (by omega),dJ (List.getElem?_eq_getElem (by omega))]
   ·rename_i hn
    unfold RC.obj
    split
    ·rename_i hchx
     rw [hent]
     have hx1:=hch x hchx
     refine fromRes (by omega) _ ?_
     rw [List.getElem?_eq_getElem (by omega),dJ (List.getElem?_eq_getElem (by omega))]
    ·rename_i hch
     have hm:bl x b.ch=false:=by rw [<- Bool.not_eq_true,aU]; exact hch
     by_cases hx1:x<m
     ·have hr':(ρ.take m)[x]? = some r0:=by rw [List.getElem?_take,if_pos hx1]; exact hr0
      have hp:=hS.pro x r0 (by simp [hm]) hr'
      rw [at1 x (by omega),hp.1] at hr; cases hr
      exact stay hr0 hp.2
     ·have hx2:top<=x:=by omega
      rw [at2 x hx2] at hr
      refine stay hr fun g hg=>(hblk g (h.R.bnd x r g hr hg).2.1 (hcn g ⟨x - top,r,?_,hg⟩).2).2
      rw [List.getElem?_drop,show top+(x - top)=x by omega]; exact hr
 ·intro i j r r' g h1 h2 h3 h4
  by_cases hi:i<top <;> by_cases hj:j<top
  ·rw [at1 i hi] at h1; rw [at1 j hj] at h2
   exact hRt.inj i j r r' g h1 h2 h3 h4
  ·rw [at1 i hi] at h1; rw [at2 j (by omega)] at h2
   have hc:live (ρ.drop top) g:=⟨j - top,r',by rw [List.getElem?_drop,show top+(j - top)=j by omega]; exact h2,h4⟩
   exact absurd ⟨i,r,h1,h3⟩ (hblk g (hcn g hc).1 (hcn g hc).2).1
  ·rw [at2 i (by omega)] at h1; rw [at1 j hj] at h2
   have hc:live (ρ.drop top) g:=⟨i - top,r,by rw [List.getElem?_drop,show top+(i - top)=i by omega]; exact h1,h3⟩
   exact absurd ⟨j,r',h2,h4⟩ (hblk g (hcn g hc).1 (hcn g hc).2).1
  ·rw [at2 i (by omega)] at h1; rw [at2 j (by omega)] at h2
   exact h.R.inj i j r r' g h1 h2 h3 h4
 ·intro i r g h1 h2
  by_cases hi:i<top
  ·rw [at1 i hi] at h1
   have:=hRt.bnd i r g h1 h2
   exact ⟨this.1,this.2.1,fun hz=>this.2.2 (.inl hz)⟩
  ·rw [at2 i (by omega)] at h1
   have:=h.R.bnd i r g h1 h2
   exact ⟨this.1,Nat.lt_of_lt_of_le this.2.1 hext.size,this.2.2⟩
 ·have hi':=hro i (.inr hi)
  rw [at1 i (by omega)]
  exact hS.loc i r (by simp [hi]) (by rw [List.getElem?_take,if_pos hi']; exact hr)
 ·have hi':=hro i (.inl hi)
  rw [at1 i (by omega)]
  exact hS.pro i r (by simp [hi]) (by rw [List.getElem?_take,if_pos hi']; exact hr)
 ·by_cases h1:i<m
  ·rw [at1 i (by omega)]
   exact hS.bx i g (by rw [List.getElem?_take,if_pos h1]; exact hi)
  ·by_cases h2:i<top
   ·rw [h.Jf (by omega) h2] at hi; cases hi
   ·rw [at2 i (by omega)]; exact hi
end
end Go.Proofs.Ytladifkbefehdaa
namespace Go.Proofs.Ytladifkbefehdaa
open Go.RowKit
theorem Il {P:Program} {Q:Exit->Act->World->Prop} {id:Nat} {l:List Oper} {a:Act} {w:World} (hm:P.follows .mixedOrders=true) {Inv:(Nat->Bool)->Act->World->Prop}
  (hlt:∀ i,∀ j ∈ aX l i,j<i) (hdef:∀ s a w,Inv s a w->a.defers=[])
  (hs:∀ s a w i o,Inv s a w->l[i]? = some o->s i=false->(∀ j ∈ aX l i,s j=true)->(∀ k,s k=true->∀ j ∈ aX l k,s j=true) ->
   wpList P l.toArray (fun e a' w'=>e = .normal/\Inv (fun j=>s j || Nat.beq i j) a' w') [o] a w)
  (he:∀ s a w,Inv s a w->(∀ i,i<l.length->s i=true)->Q .normal a w) (h0:Inv (fun _=>false) a { w with drawn:=w.drawn+1 }):(Code.region id l.toArray true).wp P Q a w:=by
 refine wp_region_any hm ?_
 have main:∀ f (listed:Array Bool) a w,listed.size=l.length->(List.range l.length).countP (fun i=>!listed.getD i false)=f->(∀ k,listed.getD k false=true->∀ j ∈ aX l k,listed.getD j false=true)->Inv (fun i=>listed.getD i false) a w->wpAny P .any l.toArray Q f listed a w:=by
  intro f
  induction f with
  | zero=>
   intro listed a w hsz hc hcl inv
   have hall:∀ i,i<l.length->listed.getD i false=true:=fun i hi=>by
    have:=List.countP_eq_zero.1 hc i (List.mem_range.2 hi)
    simpa using this
   refine ⟨?_,he _ a w inv hall⟩
   cases hr:Region.ready .any l.toArray listed with
   | nil=>rfl
   | cons i r=>
    obtain ⟨hun,o,ho,_⟩:=mem_ready.1 (show i ∈ Region.ready .any l.toArray listed by rw [hr]; simp)
    have hil:i<l.length:=by simpa using (Array.getElem?_eq_some_iff.1 ho).1
    have:=hall i hil
    rw [getD_both hun] at this; cases this
  | succ f ih=>
   intro listed a w hsz hc hcl inv
   have hex:∃ i,i<l.length/\listed.getD i false=false/\∀ j,j<i->listed.getD j false=true:=by
    have h1:∃ i,i<l.length/\listed.getD i false=false:=by
     have:0<(List.range l.length).countP (fun i=>!listed.getD i false):=by omega
     obtain ⟨i,hi,hp⟩:=List.countP_pos_iff.1 this
     exact ⟨i,List.mem_range.1 hi,by simpa using hp⟩
    obtain ⟨i,hi,hp⟩:=h1
    have hmin:∀ m,∀ i,i<l.length->listed.getD i false=false->i<=m->∃ i,i<l.length/\listed.getD i false=false/\∀ j,j<i->listed.getD j false=true:=by
     intro m
     induction m with
     | zero=>intro i hi hp him; exact ⟨i,hi,hp,fun j hj=>by omega⟩
     | succ m ihm=>
      intro i hi hp him
      by_cases hlt:∃ j,j<i/\listed.getD j false=false
      ·obtain ⟨j,hj,hpj⟩:=hlt
       exact ihm j (by omega) hpj (by omega)
      ·exact ⟨i,hi,hp,fun j hj=>by
        cases h:listed.getD j false with
        | true=>rfl
        | false=>exact absurd ⟨j,hj,h⟩ hlt⟩
    exact hmin i i hi hp (Nat.le_refl _)
   obtain ⟨m,hml,hmu,hmall⟩:=hex
   have hready:m ∈ Region.ready .any l.toArray listed:=by
    refine mem_ready.2 ⟨getD_in (by rw [hsz]; exact hml) hmu,l[m],by simp [hml],fun e he hb=>?_⟩
    exact hmall _ (hlt m e.on (by
     simp only [aX,List.getElem?_eq_getElem hml,df,List.mem_map,List.mem_filter]
     exact ⟨e,⟨by simpa using he,hb⟩,rfl⟩))
   refine ⟨fun h0=>(by rw [h0] at hready; cases hready),fun i hi=>?_⟩
   obtain ⟨hun,o,ho,hafter⟩:=mem_ready.1 hi
   have ho':l[i]? = some o:=by simpa using ho
   have hil:i<l.length:=(List.getElem?_eq_some_iff.1 ho').1
   have hun':listed.getD i false=false:=getD_both hun
   have hpre:∀ k ∈ aX l i,listed.getD k false=true:=fun k hk=>by
    simp only [aX,ho',df,List.mem_map,List.mem_filter] at hk
    obtain ⟨e,⟨he,hb⟩,rfl⟩:=hk
    exact hafter e (by simpa using he) hb
   have hw:=hs _ a w i o inv ho' hun' hpre hcl
   have hset:∀ j,(listed.setIfInBounds i true).getD j false=(listed.getD j false || Nat.beq i j):=fun j=>by
    by_cases hj:j=i
    ·subst hj; simp [Array.getD,hsz,hil]
    ·have:Nat.beq i j=false:=by rw [<- Bool.not_eq_true,Nat.beq_eq]; exact fun e=>hj e.symm
     rw [getD_set_ne false (Ne.symm hj),this,Bool.or_false]
   have step:∀ v w2,(True/\Inv (fun j=>listed.getD j false || Nat.beq i j) (a.put o.dst v) w2)->wpAny P .any l.toArray Q f (listed.setIfInBounds i true) (a.put o.dst v) w2:=by
    intro v w2 ⟨_,hv⟩
    refine ih _ _ _ (by simp [hsz]) ?_ ?_ ?_
    ·have:=countP_set (n:=l.length) (i:=i) (p:=fun j=>!listed.getD j false) (q:=fun j=>!(listed.setIfInBounds i true).getD j false) hil (by simp [hun']) (by simp [hset]) (fun j hj=>by
      have:Nat.beq i j=false:=by rw [<- Bool.not_eq_true,Nat.beq_eq]; exact fun e=>hj e.symm
      simp [hset,this])
     omega
    ·intro k hk j hj
     rw [hset] at hk ⊢
     rw [Bool.or_eq_true] at hk ⊢
     rcases hk with hk | hk
     ·exact .inl (hcl k hk j hj)
     ·have:=Nat.eq_of_beq_eq_true hk
      subst this; exact .inl (hpre j hj)
    ·have e:(fun j=>(listed.setIfInBounds i true).getD j false)=fun j=>(listed.getD j false || Nat.beq i j):=funext hset
     rw [e]; exact hv
   unfold wpOp
   simp only [ho]
   simp only [wpList] at hw
   try simp only [eq_self_iff_true] at hw
   by_cases hwant:Region.wanted o (yielded l.toArray a.tmps)=true
   ·rw [if_pos hwant] at hw ⊢
    rcases hw with hw | ⟨_,a',w',h',_⟩
    ·refine .inl ?_
     unfold Oper.wp at hw ⊢
     refine pX hw step (fun d w2 h=>?_) (fun e a w he h=>he h.1)
     have:=hdef _ _ _ h.2
     cases hd:o.dst <;> rw [hd] at this <;> simp [Act.put] at this
    ·cases h'
   ·rw [if_neg hwant] at hw ⊢
    exact step undef w hw
 have hcount:(List.range l.length).countP (fun i=>!(Array.replicate l.toArray.size false).getD i false)=l.length:=by
  rw [List.countP_eq_length.2 (fun i _=>by rw [getD_replicate_false]; rfl),List.length_range]
 have:=main l.length (Array.replicate l.toArray.size false) a { w with drawn:=w.drawn+1 } (by simp) hcount (fun k hk=>by rw [getD_replicate_false] at hk; cases hk) (by
  have e:(fun i=>(Array.replicate l.toArray.size false).getD i false)=fun _=>false:=funext fun i=>getD_replicate_false _ _
  rw [e]; exact h0)
 rw [show l.toArray.size=l.length by simp]
 exact this
theorem fQ {m j:Nat}:bitN m j=m.testBit j:=by
 rw [Nat.testBit_eq_decide_div_mod_eq]
 show Nat.beq ((m >>> j) &&& 1) 1=_
 rw [Nat.and_one_is_mod,Nat.shiftRight_eq_div_pow]
 generalize m / 2 ^ j % 2=q
 by_cases h:q=1
 ·subst h; rfl
 ·rw [decide_eq_false h,<- Bool.not_eq_true,Nat.beq_eq]; exact h
theorem Ch {a b j:Nat}:bitN (Nat.lor a b) j=(bitN a j || bitN b j):=by
 rw [fQ,fQ,fQ]
 exact Nat.testBit_or a b j
theorem Ba {k j:Nat}:bitN (Nat.shiftLeft 1 k) j=true↔j=k:=by
 rw [fQ]
 show (1 <<< k).testBit j=true↔_
 rw [Nat.testBit_shiftLeft,Bool.and_eq_true,decide_eq_true_eq,Nat.testBit_one_eq_true_iff_self_eq_zero]
 omega
theorem xa {j:Nat}:bitN 0 j=false:=by rw [fQ]; exact Nat.zero_testBit j
theorem jH {acc:List Nat} {j:Nat}:∀ {l:List Nat},bitN (eb acc l) j=true↔∃ k ∈ l,j=k\/bitN (acc.getD k 0) j=true
 | []=>by simp [eb,xa]
 | k :: r=>by simp only [eb,Ch,Bool.or_eq_true,Ba,jH,List.mem_cons,or_and_right,exists_or,exists_eq_left]
theorem qm:∀ {l:List Oper} {acc:List Nat},(eB acc l).length=acc.length+l.length
 | [],_=>by simp [eB]
 | o :: r,acc=>by
  have:=qm (l:=r) (acc:=acc++[eb acc (df o)])
  simp only [eB,this]
  simp; omega
theorem lE:∀ {l:List Oper} {acc:List Nat} {k:Nat},k<acc.length->(eB acc l).getD k 0=acc.getD k 0
 | [],_,_,_=>rfl
 | o :: r,acc,k,h=>by
  simp only [eB]
  rw [lE (by simp; omega),List.getD_eq_getElem?_getD,List.getElem?_append_left h,List.getD_eq_getElem?_getD]
theorem kv:∀ {l:List Oper} {k:Nat},lb k l=true->∀ i,∀ j ∈ aX l i,j<k+i
 | [],_,_,i,j,hj=>by simp [aX] at hj
 | o :: r,k,h,i,j,hj=>by
  simp only [lb,Bool.and_eq_true] at h
  cases i with
  | zero=>exact dM.1 h.1 j (by simpa [aX] using hj)
  | succ i=>
   have:=kv h.2 i j (by simpa [aX] using hj)
   omega
theorem oL:∀ {l:List Oper} {acc:List Nat} {i:Nat},(∀ i,∀ j ∈ aX l i,j<acc.length+i)->i<l.length->(eB acc l).getD (acc.length+i) 0=eb (eB acc l) (aX l i)
 | [],_,_,_,h=>by simp at h
 | o :: r,acc,0,hp,_=>by
  simp only [eB]
  have e:(eB (acc++[eb acc (df o)]) r).getD (acc.length+0) 0=eb acc (df o):=by
   rw [lE (by simp),List.getD_eq_getElem?_getD]; simp
  rw [e]
  have hpa:aX (o :: r) 0=df o:=rfl
  rw [hpa]
  have key:∀ l:List Nat,(∀ j ∈ l,j<acc.length)->eb acc l=eb (eB (acc++[eb acc (df o)]) r) l:=by
   intro l
   induction l with
   | nil=>intro _; rfl
   | cons k t ih=>
    intro hl
    have hk:=hl k (by simp)
    simp only [eb]
    rw [ih fun j hj=>hl j (by simp [hj]),lE (show k<(acc++[eb acc (df o)]).length by simp; omega)]
    congr 2
    rw [List.getD_eq_getElem?_getD,List.getD_eq_getElem?_getD,List.getElem?_append_left hk]
  exact key _ fun j hj=>by have:=hp 0 j (by rw [hpa]; exact hj); omega
 | o :: r,acc,i+1,hp,hi=>by
  simp only [eB]
  have:=oL (l:=r) (acc:=acc++[eb acc (df o)]) (i:=i) (fun k j hj=>by
   have:=hp (k+1) j (by simpa [aX] using hj)
   simp; omega) (by simpa using hi)
  simp only [List.length_append,List.length_singleton] at this
  rw [show acc.length+(i+1)=acc.length+1+i by omega,this]
  simp [aX]
theorem ll {l:List Oper} {s:Nat->Bool} (hp:∀ i,∀ j ∈ aX l i,j<i) (hcl:∀ k,s k=true->∀ j ∈ aX l k,s j=true):∀ (n i:Nat),i<=n->i<l.length->(∀ j ∈ aX l i,s j=true)->∀ j,bitN ((eB [] l).getD i 0) j=true->s j=true:=by
 intro n
 induction n with
 | zero=>
  intro i hi hl hpi j hb
  have:=oL (acc:=[]) (fun i j hj=>by have:=hp i j hj; simp; omega) hl
  simp only [List.length_nil,Nat.zero_add] at this
  rw [this,jH] at hb
  obtain ⟨k,hk,_⟩:=hb
  have:=hp i k hk
  omega
 | succ n ih=>
  intro i hi hl hpi j hb
  have:=oL (acc:=[]) (fun i j hj=>by have:=hp i j hj; simp; omega) hl
  simp only [List.length_nil,Nat.zero_add] at this
  rw [this,jH] at hb
  obtain ⟨k,hk,rfl | hb⟩:=hb
  ·exact hpi _ hk
  ·have hki:=hp i k hk
   exact ih k (by omega) (by omega) (hcl k (hpi k hk)) j hb
end Go.Proofs.Ytladifkbefehdaa
namespace Go.Proofs.Ytladifkbefehdaa
open Go.RowKit
def eV (a:Act):Nat->Fr
 | 0=>[]
 | k+1=>(k,a.tmps.getD k undef) :: eV a k
theorem dt {a:Act} {t:Nat}:∀ {n:Nat},look (eV a n) t=if t<n then some (a.tmps.getD t undef) else none
 | 0=>rfl
 | k+1=>by
  simp only [eV,aM,dt]
  by_cases h:k=t
  ·subst h; rw [if_pos rfl,if_pos (by omega)]
  ·rw [if_neg h]
   by_cases h2:t<k
   ·rw [if_pos h2,if_pos (by omega)]
   ·rw [if_neg h2,if_neg (by omega)]
theorem DL {n:Nat} {a a':Act} (h:a.defers=[]) (h':a'.defers=[]) (hs:a.tmps.size=n) (hs':a'.tmps.size=n) (ht:∀ t,t<n->a'.tmps.getD t undef=a.tmps.getD t undef):a' = a:=by
 cases a with
 | mk t d=>
 cases a' with
 | mk t' d'=>
 simp only at h h' hs hs' ht
 subst h; subst h'
 congr 1
 refine Array.ext (by omega) fun i h1 h2=>?_
 have:=ht i (by omega)
 simpa [Array.getD,h1,h2] using this
theorem yA {n:Nat} {a:Act} (h:a.defers=[]) (hs:a.tmps.size=n):M n (eV a n) a:=⟨h,hs,fun i v hv=>by
 rw [dt] at hv
 split at hv
 ·cases hv; exact ⟨‹_›,rfl⟩
 ·cases hv⟩
theorem gj {n:Nat} {a:Act} {d:Option Nat} {u:Value} (hs:a.tmps.size=n) {t:Nat} (ht:t<n):(a.put d u).tmps.getD t undef=if d=some t then u else a.tmps.getD t undef:=by
 cases d with
 | none=>simp [Act.put]
 | some d=>
  by_cases hd:d=t
  ·subst hd; simp [Act.put,Array.getD,hs,ht]
  ·have h2:¬ (some d=some t):=fun e=>hd (Option.some.inj e)
   rw [if_neg h2]
   have h3:t<a.tmps.size:=by omega
   have h4:(a.tmps.setIfInBounds d u)[t]? = a.tmps[t]?:=Array.getElem?_setIfInBounds_ne hd
   show (a.tmps.setIfInBounds d u).getD t undef=_
   rw [Array.getD_eq_getD_getElem?,Array.getD_eq_getD_getElem?,h4]
theorem mb {n:Nat} {a a':Act} {d:Option Nat} {u:Value} (h:a.defers=[]) (hs:a.tmps.size=n) (hM:M n (eU d u (eV a n)) a'):a' = a.put d u:=by
 have hp:(a.put d u).defers=[]/\(a.put d u).tmps.size=n:=by cases d <;> simp [Act.put,h,hs]
 refine DL hp.1 hM.1 hp.2 hM.2.1 fun t ht=>?_
 rw [gj hs ht]
 cases d with
 | none=>
  rw [if_neg (by simp)]
  exact (hM.2.2 t (a.tmps.getD t undef) (by show look (eV a n) t=_; rw [dt,if_pos ht])).2
 | some d=>
  by_cases hd:d=t
  ·subst hd
   rw [if_pos rfl]
   exact (hM.2.2 d u (by show look ((d,u) :: eV a n) d=_; rw [aM,if_pos rfl])).2
  ·rw [if_neg (fun e=>hd (Option.some.inj e))]
   exact (hM.2.2 t (a.tmps.getD t undef) (by show look ((d,u) :: eV a n) t=_; rw [aM,if_neg hd,dt,if_pos ht])).2
theorem cZ.sub {P:Program} {n:Nat} {F F':Fr} {w:World} {op:Op} {ty:TypeId} {φ:Value->World->Prop} (h:∀ a,M n F' a->M n F a) (k:cZ P n F w op ty φ):cZ P n F' w op ty φ:=by
 rcases k with (⟨v,w',h1,h2⟩ | ⟨f,args,h1,h2⟩) | ⟨h0,w',h1,h2⟩
 ·exact .inl (.inl ⟨v,w',fun a d pos af g ha=>h1 a d pos af g (h a ha),h2⟩)
 ·exact .inl (.inr ⟨f,args,fun a d pos af g ha=>h1 a d pos af g (h a ha),h2⟩)
 ·exact .inr ⟨h0,w',fun a d pos af g ha=>h1 a d pos af g (h a ha),h2⟩
section
variable {P:Program} {n:Nat} {l:List Oper} {a:Act} {w:World}
theorem sI {o:Oper} (h:a.defers=[]) (hs:a.tmps.size=n) {F:Fr} (hF:∀ i v,look F i=some v->i<n/\a.tmps.getD i undef=v) {Φ:Value->World->Prop} (hy:cZ P n F w o.op o.type Φ) (hd:∀ d,o.dst=some d->Nat.blt d n=true) (hst:isSt o.op=true->o.dst=none)
  (hg:∀ j wt,o.guard=some (j,wt)->∃ t,idst l j=some t/\t<n/\a.tmps.getD t undef = .bool wt) {Q:Exit->Act->World->Prop} (hQ:∀ u w',Φ u w' -> Q .normal (a.put o.dst u) w'):wpList P l.toArray Q [o] a w:=by
 have hM:=yA h hs
 have hy':=cZ.sub (F':=eV a n) (fun a' ha=>⟨ha.1,ha.2.1,fun i v hv=>by
  obtain ⟨h1,h2⟩:=hF i v hv
  have:=(ha.2.2 i (a.tmps.getD i undef) (by rw [dt,if_pos h1])).2
  exact ⟨h1,this.trans h2⟩⟩) hy
 obtain ⟨dst,op,ty,pos,af,g⟩:=o
 simp only at hd hst hg hQ hy'
 have main:WO P Q n l [⟨dst,op,ty,pos,af,none⟩] (eV a n) w:=by
  rcases hy' with hy' | ⟨h0,w',h1,h2⟩
  ·exact WO.y hy' hd fun v w' hv=>WO.nil fun a' ha'=>by rw [mb h hs ha']; exact hQ _ _ hv
  ·obtain rfl:=hst h0
   exact WO.s h1 (WO.nil fun a' ha'=>by
    have e:=mb (d:=none) (u:=undef) h hs ha'
    rw [e]; exact hQ _ _ h2)
 cases g with
 | none=>exact main a hM
 | some g=>
  obtain ⟨j,wt⟩:=g
  obtain ⟨t,h1,h2,h3⟩:=hg j wt rfl
  exact WO.on h1 (by rw [dt,if_pos h2,h3]) rfl main a hM
theorem zF {o:Oper} (h:a.defers=[]) (hs:a.tmps.size=n) (hd:∀ d,o.dst=some d->Nat.blt d n=true) {j:Nat} {wt:Bool} (hg:o.guard=some (j,wt)) {t:Nat} (ht:idst l j=some t) (htn:t<n) (hv:a.tmps.getD t undef = .bool (!wt)\/a.tmps.getD t undef=undef) {Q:Exit->Act->World->Prop} (hQ:Q .normal (a.put o.dst undef) w):wpList P l.toArray Q [o] a w:=by
 have hM:=yA h hs
 obtain ⟨dst,op,ty,pos,af,g⟩:=o
 simp only at hd hg hQ
 subst hg
 have hl:look (eV a n) t=some (a.tmps.getD t undef):=by rw [dt,if_pos htn]
 have fin:WO P Q n l [] (eU dst undef (eV a n)) w:=WO.nil fun a' ha'=>by rw [mb h hs ha']; exact hQ
 cases dst with
 | some d=>
  rcases hv with hv | hv
  ·exact WO.off ht (by rw [hl,hv]) rfl (hd d rfl) fin a hM
  ·exact WO.Fx ht (by rw [hl,hv]) (hd d rfl) fin a hM
 | none=>
  have fin:WO P Q n l [] (eV a n) w:=fin
  rcases hv with hv | hv
  ·exact WO.H_ ht (by rw [hl,hv]) rfl fin a hM
  ·exact WO.Db ht (by rw [hl,hv]) fin a hM
end
def RunOK (P:Program) (shp:TypeId->Option Sh) (n:Nat) (ro:Lv) (o:Oper) (r:RC):Prop:=∀ (G:Gl) (ρ:List RE) (w:World) (F:Fr),G.shp=shp->Rep G ρ (maskH r.σ 0 r.H0) w->cu (cx G ρ w) ρ (bU r.fr0 r.U) F->(∀ p ∈ r.ob,p) ->
 cZ P n F w o.op o.type fun u w'=>∃ ρ',Stp ⟨fun i=>bl i r.ch && ro.wr i,fun i=>bl i r.mv && ro.mv i⟩ ρ w ρ' w' /\ Rep G ρ' r.res w' /\ Rt (cx G ρ' w') ρ' r.v u/\∀ p ∈ r.fc,p
def EntOK (P:Program) (shp:TypeId->Option Sh) (n:Nat) (ro:Lv) (o:Oper) (r:RC) (e:Ent) (p:Nat):Prop:=∀ (G:Gl) (ρ:List RE) (w:World) (F:Fr) (S:AH),G.shp=shp->Rep G ρ S w->cu (cx G ρ w) ρ (bU r.fr0 r.U) F->(S[p]?).map kd=(r.H0[p]?).map kd ->
 ∃ w',dP P n F w o.op o.type w' /\ Rep G ρ (S.set p (e.put (getO S p))) w' /\ Stp ro ρ w ρ w'
structure RcOK (P:Program) (shp:TypeId->Option Sh) (n:Nat) (ro:Lv) (l:List Oper) (rs:List RC) (o:Oper) (i:Nat) (r:RC):Prop where
 dst:r.dst=o.dst
 dn:∀ d,o.dst=some d->Nat.blt d n=true
 st:r.on=true->isSt o.op=true->o.dst=none
 run:r.on=true->(r.ent=none/\RunOK P shp n ro o r)\/∃ e p,r.ent=some e/\r.ch=[p]/\r.mv=[]/\r.v = .un/\r.fc=[]/\r.res.length=r.base/\isSt o.op=true/\EntOK P shp n ro o r e p
 off:r.on=false->r.ch=[]/\r.mv=[]/\r.σ=[]/\r.res=maskH [] 0 r.H0/\r.ent=none/\r.v = .un/\r.fc=[]
 gd:(o.guard=none/\r.on=true)\/∃ j wt t,o.guard=some (j,wt)/\idst l j=some t/\t ∈ r.U/\((∃ rj,rs[j]? = some rj/\j<i/\rj.on=false/\r.on=false)\/∃ b,lookA r.fr0 t=some (one (.bool (.lit b)))/\r.on=(b == wt))
theorem ye {a b:RC} (h:okI a b=true):okI b a=true:=by
 have hd:disj a.ch b.ch=true->disj b.ch a.ch=true:=fun h=>bq.2 fun i hi hb=>bq.1 h i hb hi
 unfold okI at h ⊢
 cases ha:a.ent <;> cases hb:b.ent <;> rw [ha,hb] at h <;> simp only at h ⊢ <;> first | exact hd h | skip
 simp only [Bool.or_eq_true,Bool.not_eq_true',decide_eq_false_iff_not] at h ⊢
 exact h.imp hd fun h e=>h e.symm
theorem qO {m:Nat} {b:RC}:∀ {l:List RC} {k:Nat},tT m b k l=true->∀ i a,l[i]? = some a->bitN m (k+i)=true\/(OkD a b/\OkD b a/\okI a b=true)
 | [],_,_,i,a,h=>by simp at h
 | x :: r,k,h,i,a,ha=>by
  simp only [tT,Bool.and_eq_true,Bool.or_eq_true] at h
  cases i with
  | zero=>
   simp at ha; subst ha
   rw [Nat.add_zero]
   exact h.1.imp id fun ⟨⟨h1,h2⟩,h3⟩=>⟨tN h1,tN h2,h3⟩
  | succ i=>
   have:=qO h.2 i a (by simpa using ha)
   rwa [show k+1+i=k+(i+1) by omega] at this
theorem mY {b:RC}:∀ {l:List RC},oz b l=true->∀ a ∈ l,∀ d,a.dst=some d->b.dst≠some d
 | [],_,a,h,_,_=>by simp at h
 | x :: r,h,a,ha,d,hd=>by
  simp only [oz,Bool.and_eq_true] at h
  rcases List.mem_cons.1 ha with rfl | ha
  ·intro hb
   have:=h.1
   rw [hd,hb] at this
   simp at this
  ·exact mY h.2 a ha d hd
structure OkAt (bef:List Nat) (j:Nat) (b:RC) (done:List RC):Prop where
 fit:b.Fit
 U:∀ i ∈ slotIds b.fr0 b.U,i<b.base
 σ:∀ i ∈ objIds b.H0 b.σ,i<b.base
 σb:∀ i ∈ b.σ,i<b.base
 ch:∀ i ∈ b.ch,i<b.base
 row:∀ i a,done[i]? = some a->bitN (bef.getD j 0) i=true\/(OkD a b/\OkD b a/\okI a b=true)
 dst:∀ a ∈ done,∀ d,a.dst=some d->b.dst≠some d
theorem sU {bef:List Nat}:∀ {rest done:List RC} {j:Nat},done.length=j->rF bef j done rest=true->∀ i b,rest[i]? = some b->OkAt bef (j+i) b ((done++rest).take (j+i))
 | [],_,_,_,_,i,b,h=>by simp at h
 | x :: r,done,j,hl,h,i,b,hb=>by
  simp only [rF,Bool.and_eq_true] at h
  obtain ⟨⟨⟨⟨⟨⟨⟨⟨⟨h1,h2⟩,h3⟩,h4⟩,h4b⟩,h5⟩,h6⟩,h7⟩,h8⟩,h9⟩:=h
  cases i with
  | zero=>
   simp at hb; subst hb
   have e:(done++x :: r).take (j+0)=done:=by rw [Nat.add_zero,<- hl]; simp
   rw [e,Nat.add_zero]
   exact ⟨⟨Nat.eq_of_beq_eq_true h1,Nat.le_of_ble_eq_true h2⟩,dM.1 h3,dM.1 h4,dM.1 h4b,dM.1 h5,fun i a ha=>by
    have:=qO h8 i a ha
    rwa [Nat.zero_add] at this,mY h6⟩
  | succ i=>
   have:=sU (rest:=r) (done:=done++[x]) (j:=j+1) (by simp [hl]) h9 i b (by simpa using hb)
   rw [show j+1+i=j+(i+1) by omega] at this
   simpa using this
section
variable {P:Program} {T:List (Nat × TI)} {shp:TypeId->Option Sh} {n:Nat} {ro:Lv} {l:List Oper}
def Kd (c:Cx) (ρ:List RE) (n:Nat) (fr:AFr) (a:Act):Prop:=∀ t v,lookA fr t=some v->t<n/\Rt c ρ v (a.tmps.getD t undef)
def Bd (G:Gl) (ro:Lv) (ρ0:List RE) (w0:World) (n:Nat) (q0:AFr × AH) (rs:List RC) (s:Nat->Bool) (a:Act) (w:World):Prop:=
 ∃ ρ,Stp ro ρ0 w0 ρ w/\Rep G ρ (eE s 0 rs q0).2 w/\Kd (cx G ρ w) ρ n (eE s 0 rs q0).1 a/\a.defers=[]/\a.tmps.size=n/\∀ k r,rs[k]? = some r->s k=true->(∀ p ∈ r.fc,p)/\(r.on=false->∀ d,r.dst=some d->a.tmps.getD d undef=undef)
def qR (a:Act):AFr->Fr
 | []=>[]
 | (t,_) :: r=>(t,a.tmps.getD t undef) :: qR a r
theorem jl {a:Act} {t:Nat} {v:Value}:∀ {fr:AFr},look (qR a fr) t=some v->v=a.tmps.getD t undef/\∃ tv,lookA fr t=some tv
 | [],h=>by cases h
 | (i,x) :: r,h=>by
  simp only [qR,aM] at h
  rw [bQ]
  by_cases hi:i=t
  ·subst hi; rw [if_pos rfl] at h ⊢; cases h; exact ⟨rfl,_,rfl⟩
  ·rw [if_neg hi] at h ⊢; exact jl h
theorem ft {fr:AFr} {t:Nat} {tv:TV}:∀ {U:List Nat},lookA (bU fr U) t=some tv->t ∈ U/\lookA fr t=some tv
 | [],h=>by cases h
 | u :: r,h=>by
  simp only [bU] at h
  split at h
  ·rename_i v hv
   rw [bQ] at h
   by_cases hi:u=t
   ·subst hi; rw [if_pos rfl] at h; cases h; exact ⟨by simp,hv⟩
   ·rw [if_neg hi] at h
    obtain ⟨h1,h2⟩:=ft h; exact ⟨by simp [h1],h2⟩
  ·obtain ⟨h1,h2⟩:=ft h; exact ⟨by simp [h1],h2⟩
theorem gl {fr:AFr} {q:Nat × TV}:∀ {U:List Nat},q ∈ bU fr U->q.1 ∈ U/\lookA fr q.1=some q.2
 | [],h=>by simp [bU] at h
 | u :: r,h=>by
  simp only [bU] at h
  split at h
  ·rename_i v hv
   rcases List.mem_cons.1 h with rfl | h
   ·exact ⟨by simp,hv⟩
   ·obtain ⟨h1,h2⟩:=gl h; exact ⟨by simp [h1],h2⟩
  ·obtain ⟨h1,h2⟩:=gl h; exact ⟨by simp [h1],h2⟩
theorem lj {c:Cx} {ρ:List RE} {a:Act}:∀ {fr:AFr},(∀ q ∈ fr,Rt c ρ q.2 (a.tmps.getD q.1 undef))->cu c ρ fr (qR a fr)
 | [],_=>.nil
 | (t,v) :: r,h=>.cons ⟨rfl,h (t,v) (by simp)⟩ (lj fun q hq=>h q (by simp [hq]))
theorem iC {a:Act} {d:Option Nat} {u:Value} (h:a.defers=[]) (hs:a.tmps.size=n):(a.put d u).defers=[]/\(a.put d u).tmps.size=n:=by cases d <;> simp [Act.put,h,hs]
theorem vy {mv:List Nat} {v:TV}:killTV mv v=v.mapA (AV.bm mv):=by
 cases mv with
 | cons _ _=>rfl
 | nil=>
  have e:∀ a:AV,a.bm []=a:=fun a=>dB (by simp)
  cases v with
  | one t=>exact congrArg TV.one (lK fun a _=>e a).symm
  | tup l=>exact congrArg TV.tup (nX fun t _ a _=>e a).symm
  | un=>rfl
theorem Rt.wi {c c':Cx} {ρ ρ':List RE} {mv:List Nat} (hg:∀ a v,Rd c ρ a v->Rd c' ρ' (AV.bm mv a) v) {t:TV} {v:Value} (h:Rt c ρ t v):Rt c' ρ' (killTV mv t) v:=by
 rw [vy]
 cases t with
 | one t=>exact nY hg h
 | tup l=>obtain ⟨vs,e,h⟩:=h; exact ⟨vs,e,te hg h⟩
 | un=>trivial
theorem Rep.q {G:Gl} {ρ:List RE} {A B:AH} {w:World} (h:Rep G ρ A w) (hl:B.length=A.length) (hq:∀ x:Nat,OOq (B[x]?) (A[x]?)):Rep G ρ B w:=by
 refine ⟨bG (by rw [hl]; exact h.obj.length) fun x o r ho hr=>?_,h.inj,h.bnd,h.z,h.b0⟩
 have:=hq x
 rw [ho] at this
 cases hA:A[x]? with
 | none=>rw [hA] at this; cases this
 | some o'=>
  rw [hA] at this
  cases this with
  | some hh=>
   obtain ⟨r',hr',hor⟩:=h.at_ hA
   rw [hr] at hr'; cases hr'
   exact hh.symm.or hor
theorem tO {c:Cx} {ρ:List RE} {b:Bool} {v:Value} (h:Rt c ρ (one (.bool (.lit b))) v):v = .bool b:=by
 have h:Pd c (.bool (.lit b)) v:=h
 cases h; rfl
variable {G:Gl} {ρ0:List RE} {w0:World} {q0:AFr × AH} {rs:List RC}
theorem xA (hG:G.shp=shp) (hro:∀ i,ro.wr i=false\/ro.mv i=false->i<ρ0.length) (hq0:∀ i,i<ρ0.length->(ro.wr i=false\/ro.mv i=false)->i<q0.2.length) (hp:∀ i,∀ j ∈ aX l i,j<i) (hc:dk q0 rs) (hok:rF (eB [] l) 0 [] rs=true) (hlen:rs.length=l.length) (hrc:∀ i o r,l[i]? = some o->rs[i]? = some r->RcOK P shp n ro l rs o i r)
  (hob:∀ i r,rs[i]? = some r->(∀ j r',rs[j]? = some r' -> bitN ((eB [] l).getD i 0) j=true->∀ p ∈ r'.fc,p)->∀ p ∈ r.ob,p)
  {s:Nat->Bool} {a:Act} {w:World} {i:Nat} {o:Oper} (inv:Bd G ro ρ0 w0 n q0 rs s a w) (ho:l[i]? = some o) (hsi:s i=false) (hpre:∀ j ∈ aX l i,s j=true) (hcl:∀ k,s k=true->∀ j ∈ aX l k,s j=true) :
  wpList P l.toArray (fun e a' w'=>e = .normal/\Bd G ro ρ0 w0 n q0 rs (fun j=>s j || Nat.beq i j) a' w') [o] a w:=by
 obtain ⟨ρ,hS,hR,hf,hdf,hsz,hfc⟩:=inv
 have hil:i<l.length:=(List.getElem?_eq_some_iff.1 ho).1
 obtain ⟨b,hb⟩:∃ b,rs[i]? = some b:=⟨_,List.getElem?_eq_getElem (by omega)⟩
 have hbo:=hrc i o b ho hb
 have okAt:∀ j r,rs[j]? = some r->OkAt (eB [] l) j r (rs.take j):=fun j r hr=>by
  have:=sU (done:=[]) rfl hok j r hr
  simpa using this
 have hbk:=okAt i b hb
 have hbits:∀ j,bitN ((eB [] l).getD i 0) j=true->s j=true:=ll hp hcl i i (Nat.le_refl _) hil hpre
 -- what comes ahead,and behind
 have hbefore:∀ j r,rs[j]? = some r->j<i->s j=true\/(OkD b r/\OkD r b/\okI b r=true):=fun j r hr hj=>by
  rcases hbk.row j r (by rw [List.getElem?_take,if_pos hj]; exact hr) with h | ⟨h1,h2,h3⟩
  ·exact .inl (hbits j h)
  ·exact .inr ⟨h2,h1,ye h3⟩
 have hbehind:∀ j r,rs[j]? = some r->i<j->s j=false\/(OkD b r/\OkD r b/\okI b r=true):=fun j r hr hj=>by
  cases hsj:s j with
  | false=>exact .inl rfl
  | true=>
   right
   rcases (okAt j r hr).row i b (by rw [List.getElem?_take,if_pos hj]; exact hb) with h | ⟨h1,h2,h3⟩
   ·have hjl:j<l.length:=by rw [<- hlen]; exact (List.getElem?_eq_some_iff.1 hr).1
    have:=ll hp hcl j j (Nat.le_refl _) hjl (hcl j hsj) i h
    rw [hsi] at this; cases this
   ·exact ⟨h1,h2,h3⟩
 have hdsts:∀ j r,rs[j]? = some r->i≠j->∀ d,b.dst=some d->r.dst≠some d:=fun j r hr hj d hd=>by
  rcases Nat.lt_or_gt_of_ne hj with h | h
  ·exact (okAt j r hr).dst b (List.mem_of_getElem? (by rw [List.getElem?_take,if_pos h]; exact hb)) d hd
  ·intro hrd
   exact hbk.dst r (List.mem_of_getElem? (by rw [List.getElem?_take,if_pos h]; exact hr)) d hrd hd
 -- the list of records,parted
 have hrs:rs=rs.take i++b :: rs.drop (i+1):=by
  have h1:=(List.getElem?_eq_some_iff.1 hb)
  obtain ⟨h1,h2⟩:=h1
  rw [<- h2,<- List.drop_eq_getElem_cons h1,List.take_append_drop]
 have hti:(rs.take i).length=i:=by
  have:=(List.getElem?_eq_some_iff.1 hb).1
  simp; omega
 generalize hpreD:rs.take i=pre at hrs hti
 generalize hpostD:rs.drop (i+1)=post at hrs
 have hpre_at:∀ j r,pre[j]? = some r->rs[j]? = some r/\j<i:=fun j r h=>by
  have hj:=(List.getElem?_eq_some_iff.1 h).1
  rw [<- hpreD,List.getElem?_take] at h
  split at h
  ·exact ⟨h,‹_›⟩
  ·cases h
 have hpost_at:∀ j r,post[j]? = some r->rs[i+1+j]? = some r:=fun j r h=>by
  rw [<- hpostD,List.getElem?_drop] at h; exact h
 have hcp:dk q0 pre/\dk (prg pre q0) (b :: post):=by rw [hrs] at hc; exact dk.zo.1 hc
 obtain ⟨hc1,hb1,hb2,hbf,hc2⟩:=hcp
 have hbase:b.base=(prg pre q0).2.length:=by rw [<- hb2]; exact hbf.base
 have hst:∀ s',eE s' 0 rs q0=eE s' (i+1) post (bif s' i then b.app (eE s' 0 pre q0) else b.uL (eE s' 0 pre q0)):=fun s'=>by
  rw [hrs,sw,hti,Nat.zero_add]; rfl
 have hl1:(eE s 0 pre q0).2.length=b.base:=by rw [hbase]; exact nS hc1 rfl
 have hag:Agr b (eE s 0 pre q0) (prg pre q0):=tr hc1 (fun j r hr=>by
  rw [Nat.zero_add]
  obtain ⟨h1,h2⟩:=hpre_at j r hr
  exact (hbefore j r h1 h2).imp id fun ⟨h3,_,h4⟩=>⟨h3,h4⟩) ⟨rfl,fun _ _=>rfl,fun _ _=>rfl,fun _ _=>rfl⟩
 have hgb:AgrB b (eE s 0 rs q0):=by
  rw [hst s,hsi,cond_false]
  refine qY hbf hc2 (by rw [bn hbf hbase.symm]; exact Nat.le_refl _) ((dI hbf hl1).trans (bn hbf hbase.symm).symm) (fun j r hr=>(hbehind _ r (hpost_at j r hr) (by omega)).imp id fun ⟨h3,_,h4⟩=>⟨h3,h4⟩) ?_
  refine ⟨fun x hx hlt=>?_,fun x hx hlt=>?_,fun t ht=>?_,fun x hx hlt=>?_⟩
  ·rw [dU hbf hl1,if_pos hlt,hag.ob x hx,hb2]
  ·rw [dU hbf hl1,if_pos hlt,hag.kd x hx,hb2]
  ·show lookA (eE s 0 pre q0).1 t=_
   rw [hag.sl t ht,hb1]
  ·rw [dU hbf hl1,if_neg (by omega),if_pos hlt]
 have hrel:Rel b (eE (fun j=>s j || Nat.beq i j) 0 rs q0) (eE s 0 rs q0):=by
  rw [hst s,hst (fun j=>s j || Nat.beq i j),hsi,cond_false]
  have e1:(false || Nat.beq i i)=true:=by simp
  rw [e1,cond_true]
  have ne:∀ j,j≠i->(s j || Nat.beq i j)=s j:=fun j hj=>by
   have:Nat.beq i j=false:=by rw [<- Bool.not_eq_true,Nat.beq_eq]; exact fun e=>hj e.symm
   rw [this,Bool.or_false]
  have e2:eE (fun j=>s j || Nat.beq i j) 0 pre q0=eE s 0 pre q0:=jG fun j _ hj=>ne j (by omega)
  have e3:∀ q,eE (fun j=>s j || Nat.beq i j) (i+1) post q=eE s (i+1) post q:=fun q=>jG fun j hj _=>ne j (by omega)
  rw [e2,e3]
  refine se hbf hbk.ch hc2 (by rw [bn hbf hbase.symm]; exact Nat.le_refl _) ((dI hbf hl1).trans (bn hbf hbase.symm).symm) (fun j r hr=>⟨hbehind _ r (hpost_at j r hr) (by omega),hdsts _ r (hpost_at j r hr) (by omega)⟩) (vm hbf hl1)
 have hSl:b.res.length<=(eE s 0 rs q0).2.length:=by
  have h1:(eE s 0 rs q0).2.length=(prg rs q0).2.length:=nS hc rfl
  rw [h1,hrs,oN]
  have:=rL hc2
  rw [bn hbf hbase.symm] at this
  exact this
 have hge:q0.2.length<=b.base:=by rw [hbase]; exact rL hc1
 generalize hq:eE s 0 rs q0=q at hR hf hgb hrel hSl
 generalize hq':eE (fun j=>s j || Nat.beq i j) 0 rs q0=q' at hrel
 have part:Part G ρ q.2 w b.base b.res.length:=⟨hR,hbf.le,hSl,hgb.gn⟩
 -- what is masked
 have hmask:maskH b.σ 0 (q.2.take b.base)=maskH b.σ 0 b.H0:=by
  refine List.ext_getElem? fun x=>?_
  rw [ij,ij,List.getElem?_take,Nat.zero_add]
  by_cases hx:x<b.base
  ·rw [if_pos hx]
   by_cases hm:x ∈ b.σ
   ·rw [hgb.ob x hm hx]
   ·simp only [if_neg hm]
    have h1:x<q.2.length:=by have:=hbf.le; omega
    have h2:x<b.H0.length:=by have:=hbf.base; omega
    rw [List.getElem?_eq_getElem h1,List.getElem?_eq_getElem h2]; rfl
  ·rw [if_neg hx,List.getElem?_eq_none (l:=b.H0) (by have:=hbf.base; omega)]
 have hσids:∀ x ∈ b.σ,∀ k ∈ (getO q.2 x).ids,k<b.base:=fun x hx k hk=>by
  have:=hgb.ob x hx (hbk.σb x hx)
  have e:getO q.2 x=getO b.H0 x:=by unfold getO; rw [List.getD_eq_getElem?_getD,List.getD_eq_getElem?_getD,this]
  rw [e] at hk
  exact hbk.σ k (lT hk hx)
 have hslot:∀ t ∈ b.U,∀ v,lookA b.fr0 t=some v->t<n/\Rt (cx G ρ w) ρ v (a.tmps.getD t undef):=fun t ht v hv=>hf t v (by rw [hgb.sl t ht]; exact hv)
 have hslotIds:∀ t ∈ b.U,∀ v,lookA b.fr0 t=some v->∀ k ∈ v.ids,k<b.base:=fun t ht v hv k hk=>hbk.U k (kE hv hk ht)
 have hro':∀ k,ro.wr k=false\/ro.mv k=false->k<b.base:=fun k hk=>Nat.lt_of_lt_of_le (hq0 k (hro k hk) hk) hge
 -- the guard's slot
 have hgs:∀ j wt t,o.guard=some (j,wt)->idst l j=some t->t ∈ b.U->∀ c,lookA b.fr0 t=some (one (.bool (.lit c)))->t<n/\a.tmps.getD t undef = .bool c:=fun j wt t _ _ ht c hc=>by
  obtain ⟨h1,h2⟩:=hslot t ht _ hc
  exact ⟨h1,tO h2⟩
 -- behind it
 have clause:∀ u k r,rs[k]? = some r->k≠i->s k=true->(∀ p ∈ r.fc,p)/\(r.on=false->∀ d,r.dst=some d->(a.put o.dst u).tmps.getD d undef=undef):=fun u k r hr hk hsk=>by
  obtain ⟨h1,h2⟩:=hfc k r hr hsk
  refine ⟨h1,fun hoff d hd=>?_⟩
  have hkl:k<l.length:=by rw [<- hlen]; exact (List.getElem?_eq_some_iff.1 hr).1
  have hrk:=hrc k _ r (List.getElem?_eq_getElem hkl) hr
  have hdn:d<n:=by have:=hrk.dn d (by rw [<- hrk.dst]; exact hd); exact Nat.blt_eq.mp this
  rw [gj hsz hdn,if_neg (fun e=>hdsts k r hr (Ne.symm hk) d (by rw [hbo.dst]; exact e) hd)]
  exact h2 hoff d hd
 have hsne:∀ k,(s k || Nat.beq i k)=true->k≠i->s k=true:=fun k hk hne=>by
  have:Nat.beq i k=false:=by rw [<- Bool.not_eq_true,Nat.beq_eq]; exact fun e=>hne e.symm
  rwa [this,Bool.or_false] at hk
 have fin:∀ u w' ρt,b.ent=none->Stp ⟨fun i=>bl i b.ch && ro.wr i,fun i=>bl i b.mv && ro.mv i⟩ (ρ.take b.base) w ρt w' -> Rep (Gz G (ρ.drop b.res.length)) ρt b.res w' -> Rt (cx (Gz G (ρ.drop b.res.length)) ρt w') ρt b.v u->(∀ p ∈ b.fc,p)->(b.on=false->u=undef)->Bd G ro ρ0 w0 n q0 rs (fun j=>s j || Nat.beq i j) (a.put o.dst u) w':=by
  intro u w' ρt hent hSt hRt hv hfcb hoff
  obtain ⟨k1,k2,k3,k4⟩:=part.merge rfl rfl hent hbk.ch hro' hSt hRt hrel.len hrel.ob
  refine ⟨_,hS.trans k2,by rw [hq']; exact k1,fun t v hv'=>?_,(iC hdf hsz).1,(iC hdf hsz).2,fun k r hr hsk=>?_⟩
  ·rw [hq',hrel.sl t] at hv'
   unfold RC.endF at hv'
   by_cases hd:b.dst=some t
   ·rw [if_pos hd] at hv'
    cases hv'
    rw [hbo.dst] at hd
    have htn:t<n:=Nat.blt_eq.mp (hbo.dn t hd)
    rw [gj hsz htn,if_pos hd]
    exact ⟨htn,k4 _ _ hv⟩
   ·rw [if_neg hd,Option.map_eq_some_iff] at hv'
    obtain ⟨v0,h1,rfl⟩:=hv'
    obtain ⟨h2,h3⟩:=hf t v0 h1
    rw [hbo.dst] at hd
    rw [gj hsz h2,if_neg hd]
    exact ⟨h2,h3.wi k3⟩
  ·by_cases hk:k=i
   ·subst hk
    rw [hb] at hr; cases hr
    refine ⟨hfcb,fun ho' d hd=>?_⟩
    rw [hbo.dst] at hd
    rw [gj hsz (Nat.blt_eq.mp (hbo.dn d hd)),if_pos hd]
    exact hoff ho'
   ·exact clause u k r hr hk (hsne k hsk hk)
 cases hon:b.on with
 | false=>
  obtain ⟨e1,e2,e3,e4,e5,e6,e7⟩:=hbo.off hon
  rcases hbo.gd with ⟨_,h2⟩ | ⟨j,wt,t,hg,ht,htU,hcase⟩
  ·rw [hon] at h2; cases h2
  ·have htv:t<n/\(a.tmps.getD t undef = .bool (!wt)\/a.tmps.getD t undef=undef):=by
    rcases hcase with ⟨rj,hrj,hji,hoffj,_⟩ | ⟨c,hc,hb2⟩
    ·have hjl:j<l.length:=by omega
     have hrcj:=hrc j _ rj (List.getElem?_eq_getElem hjl) hrj
     have hdj:rj.dst=some t:=by
      rw [hrcj.dst]
      have:=ht
      rw [gz,List.getElem?_eq_getElem hjl] at this
      exact this
     have hsj:s j=true:=by
      rcases hbefore j rj hrj hji with h | ⟨h,_,_⟩
      ·exact h
      ·exact absurd htU (h.dst t hdj)
     exact ⟨Nat.blt_eq.mp (hrcj.dn t (by rw [<- hrcj.dst]; exact hdj)),.inr ((hfc j rj hrj hsj).2 hoffj t hdj)⟩
    ·obtain ⟨h1,h2⟩:=hgs j wt t hg ht htU c hc
     refine ⟨h1,.inl ?_⟩
     rw [h2]
     rw [hon] at hb2
     cases c <;> cases wt <;> simp at hb2 ⊢
   refine zF hdf hsz hbo.dn hg ht htv.1 htv.2 ⟨rfl,fin undef w (ρ.take b.base) e5 (Stp.refl _ _ _) ?_ (by rw [e6]; trivial) (by rw [e7]; simp) fun _=>rfl⟩
   have key:maskH b.σ 0 (q.2.take b.base)=b.res:=by rw [hmask,e3,e4]
   have hm:=part.mask hσids
   rw [key] at hm
   exact hm
 | true=>
  have hg:∀ j wt,o.guard=some (j,wt)->∃ t,idst l j=some t/\t<n/\a.tmps.getD t undef = .bool wt:=fun j wt hgd=>by
   rcases hbo.gd with ⟨h1,_⟩ | ⟨j',wt',t,hg,ht,htU,hcase⟩
   ·rw [hgd] at h1; cases h1
   ·rw [hgd] at hg; cases hg
    rcases hcase with ⟨_,_,_,_,h⟩ | ⟨c,hc,hb2⟩
    ·rw [hon] at h; cases h
    ·obtain ⟨h1,h2⟩:=hgs j wt t hgd ht htU c hc
     refine ⟨t,ht,h1,?_⟩
     rw [h2]
     rw [hon] at hb2
     cases c <;> cases wt <;> simp at hb2 ⊢
  have hF:∀ k v,look (qR a (bU b.fr0 b.U)) k=some v->k<n/\a.tmps.getD k undef=v:=fun k v hk=>by
   obtain ⟨h1,tv,h2⟩:=jl hk
   obtain ⟨h3,h4⟩:=ft h2
   exact ⟨(hslot k h3 tv h4).1,h1.symm⟩
  rcases hbo.run hon with ⟨hent,hrun⟩ | ⟨e,p,hent,hch,hmv,hv,hfcb,hres,hst2,hrun⟩
  ·have hy:=hrun (Gz G (ρ.drop b.res.length)) (ρ.take b.base) w (qR a (bU b.fr0 b.U)) hG (by rw [<- hmask]; exact part.mask hσids) (lj fun x hx=>by
    obtain ⟨h1,h2⟩:=gl hx
    refine (hslot _ h1 _ h2).2.on part.JP fun k hk r hr _=>?_
    rw [List.getElem?_take,if_pos (hslotIds _ h1 _ h2 k hk)]; exact hr) (hob i b hb fun j r' hr' hbit=>(hfc j r' hr' (hbits j hbit)).1)
   exact sI hdf hsz hF hy hbo.dn (hbo.st hon) hg fun u w' ⟨ρt,h1,h2,h3,h4⟩=>⟨rfl,fin u w' ρt hent h1 h2 h3 h4 fun h=>by rw [hon] at h; cases h⟩
  ·have hpb:p<b.base:=hbk.ch p (by rw [hch]; simp)
   obtain ⟨w',h1,h2,h3⟩:=hrun G ρ w (qR a (bU b.fr0 b.U)) q.2 hG hR (lj fun x hx=>by
    obtain ⟨h1,h2⟩:=gl hx
    exact (hslot _ h1 _ h2).2) (hgb.kd p (by rw [hch]; simp) hpb)
   have hdst:=hbo.st hon hst2
   refine sI (Φ:=fun u x=>u=undef/\x=w') hdf hsz hF (.inr ⟨hst2,w',h1,rfl,rfl⟩) hbo.dn (hbo.st hon) hg fun u x ⟨_,hx⟩=>?_
   subst hx
   have hle:=h3.ext.le (G:=G)
   refine ⟨rfl,ρ,hS.trans h3,?_,fun t v hv'=>?_,(iC hdf hsz).1,(iC hdf hsz).2,fun k r hr hsk=>?_⟩
   ·rw [hq']
    refine h2.q (by rw [List.length_set]; exact hrel.len) fun x=>?_
    have:=hrel.ob x
    have hpl:p<q.2.length:=by omega
    by_cases hxp:x=p
    ·subst hxp
     rw [List.getElem?_set_self hpl]
     rw [List.getElem?_eq_getElem hpl,Option.map_some,RC.endO,if_neg (by omega),RC.obj,if_pos (by rw [hch]; simp),hent] at this
     rw [dJ (List.getElem?_eq_getElem hpl)]
     exact this
    ·rw [List.getElem?_set_ne (fun e=>hxp e.symm)]
     have e9:(q.2[x]?).map (b.endO x)=q.2[x]?:=by
      cases q.2[x]? with
      | none=>rfl
      | some o=>
       rw [Option.map_some,RC.endO,if_neg (by omega),RC.cO (by rw [hch]; simpa using hxp),hmv]
       rfl
     rw [e9] at this
     exact this
   ·rw [hq',hrel.sl t] at hv'
    unfold RC.endF at hv'
    rw [hbo.dst,hdst,if_neg (by simp),hmv] at hv'
    have hv2:lookA q.1 t=some v:=by
     cases hx:lookA q.1 t with
     | none=>rw [hx] at hv'; cases hv'
     | some v0=>rw [hx] at hv'; exact hv'
    obtain ⟨h5,h6⟩:=hf t v hv2
    rw [gj hsz h5,hdst,if_neg (by simp)]
    exact ⟨h5,h6.carry hle (jk.refl _)⟩
   ·by_cases hk:k=i
    ·subst hk
     rw [hb] at hr; cases hr
     exact ⟨by rw [hfcb]; simp,fun h=>by rw [hon] at h; cases h⟩
    ·exact clause u k r hr hk (hsne k hsk hk)
end
end Go.Proofs.Ytladifkbefehdaa
namespace Go.Proofs.Ytladifkbefehdaa
open Go.RowKit
theorem Rd.qd {c:Cx} {ρ:List RE} {a:AV} {v:Value} (h:Rd c ρ a v):Qd c a v:=fun hp=>(dY hp).1 h
theorem dQ {fr:AFr} {t:Nat}:∀ {U:List Nat},t ∈ U->lookA (bU fr U) t=lookA fr t
 | [],h=>by simp at h
 | u :: r,h=>by
  simp only [bU]
  split
  ·rename_i v hv
   rw [bQ]
   by_cases hu:u=t
   ·subst hu; rw [if_pos rfl,hv]
   ·rw [if_neg hu]
    refine dQ ?_
    rcases List.mem_cons.1 h with rfl | h
    ·exact absurd rfl hu
    ·exact h
  ·rename_i hv
   by_cases hu:u=t
   ·subst hu
    by_cases hr:u ∈ r
    ·exact dQ hr
    ·rw [hv]
     cases h2:lookA (bU fr r) u with
     | none=>rfl
     | some x=>exact absurd (ft h2).1 hr
   ·refine dQ ?_
    rcases List.mem_cons.1 h with rfl | h
    ·exact absurd rfl hu
    ·exact h
theorem ec {fr:AFr} {U:List Nat} {x:Operand} (h:∀ t ∈ Operand.sl x,t ∈ U):cG (bU fr U) x=cG fr x:=by
 cases x with
 | tmp i=>exact dQ (h i (by simp [Operand.sl]))
 | _=>rfl
theorem nD {fr:AFr}:∀ {A B:List Nat},bU fr (A++B)=bU fr A++bU fr B
 | [],_=>rfl
 | a :: r,B=>by
  simp only [List.cons_append,bU,nD (A:=r)]
  split <;> rfl
theorem lC {α β:Type} {R:α->β->Prop}:∀ {a b:List α} {F:List β},All2 R (a++b) F->∃ x y,F=x++y/\All2 R a x/\All2 R b y
 | [],b,F,h=>⟨[],F,rfl,.nil,h⟩
 | p :: a,b,_,h=>by
  cases h with
  | cons h1 h2=>
   obtain ⟨x,y,e,h3,h4⟩:=lC h2
   exact ⟨_ :: x,y,by rw [e]; rfl,.cons h1 h3,h4⟩
theorem yT {A B:Fr} {i:Nat} {v:Value}:look A i=some v->look (A++B) i=some v:=by
 intro h
 induction A with
 | nil=>cases h
 | cons q r ih=>
  obtain ⟨j,u⟩:=q
  rw [List.cons_append,aM]
  rw [aM] at h
  by_cases hj:j=i
  ·rw [if_pos hj] at h ⊢; exact h
  ·rw [if_neg hj] at h ⊢; exact ih h
theorem mn {g:Bool} {v:TV} {K:TV->Prop} (h:split g v K):∃ v',K v' /\ ∀ c ρ u,Rt c ρ v u->Rt c ρ v' u:=by
 unfold split at h
 split at h
 ·rename_i b hb
  have:=Option.some.inj (cg hb)
  subst this
  exact ⟨_,h,fun _ _ _ h=>h⟩
 ·rename_i e _ he
  have:=Option.some.inj (cg he)
  subst this
  cases hv:e.val with
  | true=>
   refine ⟨_,h.1 ((BE.dj e true).2 hv),fun c ρ u hu=>?_⟩
   have hu:Pd c (.bool e) u:=hu
   cases hu
   rw [hv]; exact Pd.bool (e:=.lit true)
  | false=>
   refine ⟨_,h.2 ((BE.dj e false).2 hv),fun c ρ u hu=>?_⟩
   have hu:Pd c (.bool e) u:=hu
   cases hu
   rw [hv]; exact Pd.bool (e:=.lit false)
 ·exact ⟨_,h,fun _ _ _ h=>h⟩
section
variable {P:Program} {T:List (Nat × TI)} {shp:TypeId->Option Sh} {O:cH} {n:Nat} {ro:Lv} {l:List Oper}
theorem qx {o:Oper} {fr:AFr} {A B:List Nat} {G:Gl} {ρ:List RE} {w:World} {F:Fr} (hf:cu (cx G ρ w) ρ (bU fr (A++B)) F) {φ:Value->World->Prop} (h:∀ FA,cu (cx G ρ w) ρ (bU fr A) FA->cZ P n FA w o.op o.type φ):cZ P n F w o.op o.type φ:=by
 rw [nD] at hf
 obtain ⟨FA,FB,rfl,h1,_⟩:=lC hf
 exact cZ.sub (fun a ha=>⟨ha.1,ha.2.1,fun i v hv=>ha.2.2 i v (yT hv)⟩) (h FA h1)
theorem pure_run {o:Oper} {fr:AFr} {H:AH} {A B σ:List Nat} {v v':TV} {ob fc:List Prop} (hv:∀ c ρ u,Rt c ρ v u->Rt c ρ v' u)
  (h:∀ (G:Gl) (ρ:List RE) (w:World) (F:Fr),G.shp=shp->Rep G ρ (maskH σ 0 H) w->cu (cx G ρ w) ρ (bU fr A) F->(∀ p ∈ ob,p)->Yields P n F w o.op o.type fun u w'=>Kp [] w w' /\ Rt (cx G ρ w') ρ v u/\∀ p ∈ fc,p) (b:Nat) :
  RunOK P shp n ro o ⟨true,o.dst,v',A++B,σ,[],[],b,maskH σ 0 H,none,ob,fc,fr,H⟩:=by
 intro G ρ w F hG hR hf hob
 refine qx hf fun FA hfA=>.inl ((h G ρ w FA hG hR hfA hob).mono fun u w' ⟨h1,h2,h3⟩=>⟨ρ,Stp.kp hR h1,hR.kp h1,hv _ _ _ h2,h3⟩)
theorem yM {c:Cx} {ρ:List RE} {H:AH}:∀ {asx:List AV} {us:List Value},(∀ i,i ∉ cJ asx)->All2 (Rd c ρ) asx us->All2 (Qd c) (sC H asx) us
 | [],_,_,h=>by cases h; exact .nil
 | a :: r,_,hn,h=>by
  cases h with
  | cons h1 h2=>
   have hr:∀ i,i ∉ cJ r:=fun i hi=>hn i (by cases a <;> simp [cJ,hi])
   refine .cons ?_ (yM hr h2)
   have e:a.vw H=a:=by
    cases a with
    | own i=>exact absurd (by simp [cJ]) (hn i)
    | sub i _ _=>exact absurd (by simp [cJ]) (hn i)
    | _=>rfl
   rw [e]; exact Rd.qd h1
theorem wv (hT:bc P shp T) {G:Gl} {ρ:List RE} {w:World} {F:Fr} {fm:AFr} {Hm:AH} {op:Op} {ty:TypeId} {r:PR} (hG:G.shp=shp) (hR:Rep G ρ Hm w) (hf:cu (cx G ρ w) ρ fm F) (h:wo T fm Hm op=some r):Yields P n F w op ty fun u w'=>Kp [] w w' /\ Rt (cx G ρ w') ρ r.v u/\∀ p ∈ r.fc,p:=by
 subst hG
 unfold wo at h
 split at h
 ·rename_i t m parts
  split at h
  ·rename_i e s sz z l hft hl
   split at h
   ·rename_i xs hown hel
    split at h
    ·rename_i hck
     cases h
     simp only [Bool.and_eq_true] at hck
     have hck:=hck.1
     have hm:=Nat.eq_of_beq_eq_true hck.1.1
     have hsm:=Nat.le_of_ble_eq_true hck.1.2
     have hbm:=Nat.le_of_ble_eq_true hck.2
     obtain ⟨hu,hs⟩:=(hT _ _ hft).2
     obtain ⟨hshp,⟨zz,hz,hzb⟩,_⟩:=hs s rfl
     have hsize:(P.info? e).map (·.size)=some s.size:=by
      cases hq:P.info? e with
      | none=>simp [hq] at hz
      | some i=>simp only [hq,Option.map_some,Option.some.injEq,Prod.mk.injEq] at hz ⊢; exact hz.2.1
     obtain ⟨pv,h1,h2⟩:=iF hf hl
     obtain ⟨vss,h3,h4,h5,h6⟩:=jR hel h2 fun p hp us hus=>yM (fun i hi=>by
      have:=lO hp hi
      rw [hown] at this; simp at this) hus
     have hrun:=R.buildSlice (P:=P) (n:=n) (F:=F) (w:=w) (ty:=ty) (m:=m) hu hsize (tU hz) h1 h3 h4 (by omega) hsm
     have e0:parts.toList.toArray=parts:=by simp
     rw [e0] at hrun
     have hk:=Kp.alloc w (.cells vss.flatten.toArray e)
     have hml:m<=maxLen:=by
      have:=Nat.mul_le_mul_left m (gu s)
      simp only [maxLen]; omega
     have hpd:Pds (cx G ρ (w.alloc (.cells vss.flatten.toArray e))) (xs.flatMap (cellsOf s)) vss.flatten:=h6.carry (Ext.kp hk).le
     refine .inl ⟨_,_,hrun,hk,?_,by simp⟩
     show Pd _ _ _
     rw [<- hm]
     refine .fz (Nat.le_refl _) (by omega) (by rw [hm]; exact hbm) hpd (.inr ⟨_,rfl,⟨⟨by simp,fun ⟨i,r,q1,q2⟩=>by have:=(hR.bnd i r _ q1 q2).2.1; simp at this,fun hz=>by have:=hR.z _ hz; simp at this⟩,.inr ⟨_,e,(0,0),heap_alloc_new w _,hshp⟩⟩,?_⟩)
     exact cS (sp:=[]) (by rw [List.append_nil]; exact heap_alloc_new w _)
    ·cases h
   ·cases h
  ·cases h
 ·cases h
theorem yk (hT:bc P shp T) {o:Oper} {fr:AFr} {H:AH} {B:List Nat} {id:Nat} {e:Ent} (h:Eh T ro fr H o.op=some (id,e)) (b:Nat) (res:AH) :
  EntOK P shp n ro o ⟨true,none,.un,eX o.op++B,[],[id],[],b,res,some e,[],[],fr,H⟩ e id/\isSt o.op=true:=by
 unfold Eh at h
 split at h
 ·rename_i t x y z hop
  have hsl:eX o.op=Operand.sl x++Operand.sl y++Operand.sl z:=by rw [hop]; rfl
  have hmx:∀ t' ∈ Operand.sl x,t' ∈ eX o.op++B:=fun t' h=>by rw [hsl]; simp [h]
  have hmy:∀ t' ∈ Operand.sl y,t' ∈ eX o.op++B:=fun t' h=>by rw [hsl]; simp [h]
  have hmz:∀ t' ∈ Operand.sl z,t' ∈ eX o.op++B:=fun t' h=>by rw [hsl]; simp [h]
  refine ⟨?_,by rw [hop]; rfl⟩
  intro G ρ w F S hG hR hf hkd
  subst hG
  have hf:cu (cx G ρ w) ρ (bU fr (eX o.op++B)) F:=hf
  have hkd:(S[id]?).map kd=(H[id]?).map kd:=hkd
  rw [hop]
  -- what a step on the map's block leaves
  have fin:∀ (g:Nat) (o':AO) (w':World),ρ[id]? = some (.blk g)->(∃ o0,S[id]? = some o0)->Kp [g] w w' -> ro.wr id=true->OR (cx G ρ w') ρ o' (.blk g)->Rep G ρ (S.set id o') w' /\ Stp ro ρ w ρ w':=fun g o' w' hg ⟨o0,ho0⟩ hkp hw ho'=>by
   have hput:=hR.put ho0 hg rfl hkp ho'
   refine ⟨hput.1,hput.2,fun _ _ _ h=>h,fun j r' hj hr'=>⟨hr',fun gx hgx=>hkp.block gx (hR.bnd j r' gx hr' hgx).2.1 ?_⟩,fun _ _ h=>h⟩
   simp only [List.mem_singleton]
   rintro rfl
   have:=hR.inj j id _ _ _ hr' hg hgx rfl
   subst this; rw [hw] at hj; cases hj
  have hext:∀ (g:Nat) (w':World),ρ[id]? = some (.blk g)->Kp [g] w w' -> (cx G ρ w).le (cx G ρ w'):=fun g w' hg hkp=>(show Ext ρ w ρ w' from ⟨hkp.os,hkp.tape,hkp.output,hkp.size,fun b hb hl=>⟨hl,hkp.block b hb (by
   simp only [List.mem_singleton]
   rintro rfl
   exact hl ⟨id,_,hg,rfl⟩)⟩⟩).le
  split at h
  ·rename_i s id' k v hft hx hy hz
   split at h
   ·rename_i s' f x' hgo hown hof
    split at h
    ·rename_i hck
     cases h
     simp only [Bool.and_eq_true,decide_eq_true_eq] at hck
     obtain ⟨⟨rfl,hform⟩,hw⟩:=hck
     obtain ⟨hm,hk,_⟩:=(hT _ _ hft).2
     rw [<- ec hmx] at hx; rw [<- ec hmy] at hy; rw [<- ec hmz] at hz
     obtain ⟨va,h1,g,hg,rfl⟩:=ay hf hx
     obtain ⟨vb,h3,h4⟩:=ay hf hy
     cases h4 with | int=>
     obtain ⟨vz,h5,h6⟩:=ay hf hz
     have hHs:=bk hgo (by simp)
     rw [hHs] at hkd
     obtain ⟨o0,ho0,hk0⟩:=Option.map_eq_some_iff.1 hkd
     have hgo0:=dJ ho0
     obtain ⟨r',hr',hor⟩:=hR.at_ ho0
     rw [hg] at hr'; cases hr'
     cases o0 with
     | mapo s2 f2=>
      have hk0:(some (some s2):Option (Option Sh))=some (some s'):=hk0
      have e3:s2=s':=Option.some.inj (Option.some.inj hk0)
      subst e3
      obtain ⟨g',e,a,c,k1,k2,k3⟩:=hor
      cases e
      obtain ⟨w',a'',c',hsk,hkp,hg',hl',hget⟩:=AG (P:=P) (n:=n) (ty:=o.type) h1 h3 h5 hm hk k1 k2
      have hle:=hext g w' hg hkp
      have hV:V1 (cx G ρ w') s2 x' vz:=by
       cases v with
       | c a=>
        have h6:Rd (cx G ρ w) ρ a vz:=h6
        have hp:=aG (vs:=[vz]) hof (.cons (Rd.qd h6) .nil)
        exact ⟨[vz],hp.carry hle,.inr ⟨by simpa [iQ] using hform,rfl⟩⟩
       | agg l=>
        obtain ⟨us,e,h6⟩:=h6
        have hp:=aG hof (h6.imp fun _ _ h=>Rd.qd h)
        exact ⟨us,hp.carry hle,.inl ⟨hform,e⟩⟩
      obtain ⟨j1,j2⟩:=fin g (.mapo s2 fun j=>if j=k then some x' else f2 j) w' hg ⟨_,ho0⟩ hkp hw ⟨g,rfl,a'',c',hg',hl',fun q=>by
       rw [hget q]
       show VO _ _ _ (if q=k then some x' else f2 q)
       by_cases hq:q=k
       ·rw [if_pos hq,if_pos hq]; exact hV
       ·rw [if_neg hq,if_neg hq]
        have k4:=k3 q
        cases hgm:getM q a.toList <;> cases hfk:f2 q <;> rw [hgm,hfk] at k4
        ·trivial
        ·exact k4
        ·exact k4
        ·exact V1.carry k4 hle⟩
      refine ⟨w',hsk.1,?_,j2⟩
      rw [hgo0]
      simpa only [Ent.put,dif_pos] using j1
     | mapf l=>cases hk0
     | _=>cases hk0
    ·cases h
   ·cases h
  ·rename_i id' k a hft hx hy hz
   split at h
   ·rename_i l hgo hw
    cases h
    obtain ⟨hm,hk,_⟩:=(hT _ _ hft).2
    rw [<- ec hmx] at hx; rw [<- ec hmy] at hy; rw [<- ec hmz] at hz
    obtain ⟨va,h1,g,hg,rfl⟩:=ay hf hx
    obtain ⟨vb,h3,h4⟩:=ay hf hy
    cases h4 with | int=>
    obtain ⟨vz,h5,h6⟩:=ay hf hz
    have hHs:=bk hgo (by simp)
    rw [hHs] at hkd
    obtain ⟨o0,ho0,hk0⟩:=Option.map_eq_some_iff.1 hkd
    have hgo0:=dJ ho0
    obtain ⟨r',hr',hor⟩:=hR.at_ ho0
    rw [hg] at hr'; cases hr'
    cases o0 with
    | mapf l2=>
     obtain ⟨g',e,a',c,k1,k2,k3⟩:=hor
     cases e
     obtain ⟨w',a'',c',hsk,hkp,hg',hl',hget⟩:=AG (P:=P) (n:=n) (ty:=o.type) h1 h3 h5 hm hk k1 k2
     have hle:=hext g w' hg hkp
     obtain ⟨j1,j2⟩:=fin g (.mapf ((k,a) :: l2)) w' hg ⟨_,ho0⟩ hkp hw ⟨g,rfl,a'',c',hg',hl',fun q=>by
      rw [hget q]
      simp only [lookF]
      by_cases hq:q=k
      ·rw [if_pos hq,if_pos hq]; exact Rd.carry h6 hle (jk.refl _)
      ·rw [if_neg hq,if_neg hq]
       have k4:=k3 q
       cases hgm:getM q a'.toList <;> cases hfk:lookF q l2 <;> rw [hgm,hfk] at k4
       ·trivial
       ·exact k4
       ·exact k4
       ·exact Rd.carry k4 hle (jk.refl _)⟩
     refine ⟨w',hsk.1,?_,j2⟩
     rw [hgo0]
     exact j1
    | mapo s f=>cases hk0
    | _=>cases hk0
   ·cases h
  ·cases h
 ·cases h
theorem pS (hT:bc P shp T) (hO:aT P shp O) {fm:AFr} {Hm:AH} {op:Op} {x:XR}:∀ {l:List (List Nat × List Nat)},AQ T O ro fm Hm op l=some x->∀ (G:Gl) (ρ:List RE) (w:World) (F:Fr) (ty:TypeId),G.shp=shp->Rep G ρ Hm w->cu (cx G ρ w) ρ fm F->(∀ p ∈ x.ob,p) ->
  cZ P n F w op ty fun u w'=>∃ ρ',Stp ⟨fun i=>bl i x.ch && ro.wr i,fun i=>bl i x.mv && ro.mv i⟩ ρ w ρ' w' /\ Rep G ρ' x.res w' /\ Rt (cx G ρ' w') ρ' x.v u/\∀ p ∈ x.fc,p
 | [],h,_,_,_,_,_,_,_,_,_=>by cases h
 | (ch,mv) :: r,h,G,ρ,w,F,ty,hG,hR,hf,hob=>by
  simp only [AQ] at h
  split at h
  ·rename_i q hq
   cases h
   subst hG
   have:=xN (n:=n) (ty:=ty) hT hO hR hf hq hob
   have key:∀ u w',dS G ⟨fun i=>bl i ch && ro.wr i,fun i=>bl i mv && ro.mv i⟩ ρ w q F u w' -> ∃ ρ',Stp ⟨fun i=>bl i ch && ro.wr i,fun i=>bl i mv && ro.mv i⟩ ρ w ρ' w' /\ Rep G ρ' q.H w' /\ Rt (cx G ρ' w') ρ' q.v u/\∀ p ∈ q.fc,p:=fun u w' ⟨ρ',h1,h2,_,h3,h4⟩=>⟨ρ',h1,h2,h3,h4⟩
   rcases this with h | ⟨h0,w',h1,h2⟩
   ·exact .inl (h.mono key)
   ·exact .inr ⟨h0,w',h1,key _ _ h2⟩
  ·exact pS hT hO h G ρ w F ty hG hR hf hob
theorem RcOK.ext {rs rs':List RC} {o:Oper} {i:Nat} {r:RC} (h:RcOK P shp n ro l rs o i r) (hi:∀ j,j<i->rs'[j]? = rs[j]?):RcOK P shp n ro l rs' o i r:=
 ⟨h.dst,h.dn,h.st,h.run,h.off,h.gd.imp id fun ⟨j,wt,t,h1,h2,h3,h4⟩=>⟨j,wt,t,h1,h2,h3,h4.imp (fun ⟨rj,k1,k2,k3,k4⟩=>⟨rj,by rw [hi j k2]; exact k1,k2,k3,k4⟩) id⟩⟩
theorem lQ:∀ {rs:List RC} {j:Nat},Gv rs j=false->∃ r,rs[j]? = some r/\r.on=false/\j<rs.length
 | [],_,h=>by cases h
 | r :: _,0,h=>⟨r,rfl,h,by simp⟩
 | r :: rs,j+1,h=>by
  obtain ⟨r',h1,h2,h3⟩:=lQ (rs:=rs) h
  exact ⟨r',by simpa using h1,h2,by simpa using h3⟩
def Chain0:AFr × AH->List RC->Prop
 | _,[]=>True
 | q,r :: rs=>r.fr0=q.1/\r.H0=q.2/\Chain0 (r.app q) rs
theorem Chain0.zo:∀ {a b:List RC} {p:AFr × AH},Chain0 p (a++b)↔Chain0 p a/\Chain0 (prg a p) b
 | [],b,p=>by simp [Chain0,prg]
 | r :: a,b,p=>by simp only [List.cons_append,Chain0,prg,Chain0.zo (a:=a),and_assoc]
theorem Chain0.fit:∀ {rs:List RC} {p:AFr × AH},Chain0 p rs->(∀ r ∈ rs,r.Fit)->dk p rs
 | [],_,_,_=>trivial
 | r :: rs,_,h,hf=>⟨h.1,h.2.1,hf r (by simp),h.2.2.fit fun x hx=>hf x (by simp [hx])⟩
structure Walk (P:Program) (shp:TypeId->Option Sh) (n:Nat) (ro:Lv) (l:List Oper) (q0:AFr × AH) (i:Nat) (done:List RC) (q:AFr × AH):Prop where
 len:done.length=i
 ch:Chain0 q0 done
 st:prg done q0=q
 ok:∀ j o r,l[j]? = some o->done[j]? = some r->RcOK P shp n ro l done o j r
theorem Walk.next {q0 q:AFr × AH} {i:Nat} {done:List RC} (h:Walk P shp n ro l q0 i done q) {o:Oper} (ho:l[i]? = some o) {r:RC} (h1:r.fr0=q.1) (h2:r.H0=q.2) (hr:RcOK P shp n ro l done o i r):Walk P shp n ro l q0 (i+1) (done++[r]) (r.app q):=by
 have hpre:∀ j,j<i->(done++[r])[j]? = done[j]?:=fun j hj=>List.getElem?_append_left (by rw [h.len]; exact hj)
 refine ⟨by simp [h.len],Chain0.zo.2 ⟨h.ch,by rw [h.st]; exact ⟨h1,h2,trivial⟩⟩,by rw [oN,h.st]; rfl,fun j o' r' hj hr'=>?_⟩
 by_cases hji:j<i
 ·rw [hpre j hji] at hr'
  exact (h.ok j o' r' hj hr').ext fun k hk=>hpre k (by omega)
 ·have hjl:=(List.getElem?_eq_some_iff.1 hr').1
  simp [h.len] at hjl
  have e:j=i:=by omega
  subst e
  rw [List.getElem?_append_right (by rw [h.len]; exact Nat.le_refl _),h.len,Nat.sub_self] at hr'
  simp at hr'; subst hr'
  rw [ho] at hj; cases hj
  exact hr.ext hpre
theorem pM {bef:List Nat}:∀ {rest done:List RC} {j:Nat},rF bef j done rest=true->∀ r ∈ rest,r.Fit
 | [],_,_,_,r,h=>by simp at h
 | x :: rest,done,j,h,r,hr=>by
  simp only [rF,Bool.and_eq_true] at h
  obtain ⟨⟨⟨⟨⟨⟨⟨⟨⟨h1,h2⟩,_⟩,_⟩,_⟩,_⟩,_⟩,_⟩,_⟩,h9⟩:=h
  rcases List.mem_cons.1 hr with rfl | hr
  ·exact ⟨Nat.eq_of_beq_eq_true h1,Nat.le_of_ble_eq_true h2⟩
  ·exact pM h9 r hr
theorem Ic {H:AH} {fr:AFr} {op:Op} {r:PR} (h:pv T O H fr op=some r):isSt op=false:=by cases op <;> first | rfl | simp [pv] at h
theorem BI {H:AH} {fr:AFr} {op:Op} {r:PR} (h:wo T fr H op=some r):isSt op=false:=by cases op <;> first | rfl | simp [wo] at h
theorem BX {H:AH} {fr:AFr} {op:Op} {r:MpR} (h:mapA T H fr op=some r):isSt op=false:=by cases op <;> first | rfl | simp [mapA] at h
theorem gM {j:Nat} {wt:Bool} {t:Nat} (h:idst l j=some t):t ∈ ee l (some (j,wt)):=by simp [ee,h]
theorem zS {fr:AFr} {done:List RC} {g:Option (Nat × Bool)} (h:mc l fr done g=some true):g=none\/∃ j wt t,g=some (j,wt)/\idst l j=some t/\t ∈ ee l g/\∃ b,lookA fr t=some (one (.bool (.lit b)))/\true=(b == wt):=by
 cases g with
 | none=>exact .inl rfl
 | some g=>
  obtain ⟨j,wt⟩:=g
  right
  simp only [mc] at h
  split at h
  ·rename_i t ht
   split at h
   ·cases h
   ·rename_i b _ hb
    exact ⟨j,wt,t,rfl,ht,gM ht,b,hb,(Option.some.inj h).symm⟩
   ·cases h
  ·cases h
theorem uN {fr:AFr} {done:List RC} {i:Nat} (hi:done.length=i) {g:Option (Nat × Bool)} (h:mc l fr done g=some false):∃ j wt t,g=some (j,wt)/\idst l j=some t/\t ∈ ee l g/\((∃ rj,done[j]? = some rj/\j<i/\rj.on=false/\false=false)\/∃ b,lookA fr t=some (one (.bool (.lit b)))/\false=(b == wt)):=by
 cases g with
 | none=>cases h
 | some g=>
  obtain ⟨j,wt⟩:=g
  simp only [mc] at h
  split at h
  ·rename_i t ht
   split at h
   ·rename_i ho
    obtain ⟨r,h1,h2,h3⟩:=lQ ho
    exact ⟨j,wt,t,rfl,ht,gM ht,.inl ⟨r,h1,by omega,h2,rfl⟩⟩
   ·rename_i b _ hb
    exact ⟨j,wt,t,rfl,ht,gM ht,.inr ⟨b,hb,(Option.some.inj h).symm⟩⟩
   ·cases h
  ·cases h
theorem drop_cons {i:Nat} {o:Oper} {rest:List Oper} (h:l.drop i=o :: rest):l[i]? = some o/\l.drop (i+1)=rest:=by
 constructor
 ·have:=congrArg (·[0]?) h
  simpa using this
 ·have:=congrArg (List.drop 1) h
  simpa [List.drop_drop,Nat.add_comm] using this
theorem tM (hT:bc P shp T) (hO:aT P shp O) {K:AFr->AH->Prop} {q0:AFr × AH}:∀ (m i:Nat) (rest:List Oper) (fr:AFr) (H:AH) (done:List RC),l.drop i=rest->i<=l.length->iB n rest=true->Walk P shp n ro l q0 i done (fr,H)->zX T O ro l K m i rest fr H done ->
  ∃ rs,Walk P shp n ro l q0 l.length rs (prg rs q0)/\JE l rs=true/\mP (HE rs (eB [] l) rs) (jg (GX rs) (K (mu (prg rs q0).1 []) (prg rs q0).2))
 | 0,_,_,_,_,_,_,_,_,_,h=>h.elim
 | m+1,i,[],fr,H,done,hd,hil,_,hw,h=>by
  simp only [zX] at h
  have hi:i=l.length:=by
   have:=congrArg List.length hd
   simp at this; omega
  subst hi
  split at h
  ·rename_i hok
   refine ⟨done,by rw [hw.st]; exact hw,hok,?_⟩
   rw [hw.st]; exact h
  ·exact h.elim
 | m+1,i,o :: rest,fr,H,done,hd,hil,hdo,hw,h=>by
  obtain ⟨ho,hd2⟩:=drop_cons hd
  have hil2:i+1<=l.length:=(List.getElem?_eq_some_iff.1 ho).1
  have hdn:∀ d,o.dst=some d->Nat.blt d n=true:=fun d hdd=>ic hdo o (by simp) d hdd
  have hdr:iB n rest=true:=by simp only [iB,Bool.and_eq_true] at hdo; exact hdo.2
  have ih:=fun rc (hrc:RcOK P shp n ro l done o i rc) (h1:rc.fr0=fr) (h2:rc.H0=H) (h:zX T O ro l K m (i+1) rest (rc.app (fr,H)).1 (rc.app (fr,H)).2 (done++[rc]))=>tM hT hO m (i+1) rest _ _ _ hd2 hil2 hdr (hw.next ho h1 h2 hrc) h
  simp only [zX] at h
  split at h
  ·-- it is not run
   rename_i hg
   obtain ⟨j,wt,t,h1,h2,h3,h4⟩:=uN hw.len hg
   exact ih _ ⟨rfl,hdn,(fun h=>by cases h),(fun h=>by cases h),fun _=>⟨rfl,rfl,rfl,rfl,rfl,rfl,rfl⟩,.inr ⟨j,wt,t,h1,h2,h3,h4⟩⟩ rfl rfl h
  ·-- it is run
   rename_i hg
   have hgd:∀ U,(o.guard=none/\true=true)\/∃ j wt t,o.guard=some (j,wt)/\idst l j=some t/\t ∈ U++ee l o.guard/\((∃ rj,done[j]? = some rj/\j<i/\rj.on=false/\true=false)\/∃ b,lookA fr t=some (one (.bool (.lit b)))/\true=(b == wt)):=fun U=>by
    rcases zS hg with h | ⟨j,wt,t,h1,h2,h3,h4⟩
    ·exact .inl ⟨h,rfl⟩
    ·exact .inr ⟨j,wt,t,h1,h2,List.mem_append_right _ h3,.inr h4⟩
   split at h
   ·-- a pick
    rename_i t x y hop
    split at h
    ·rename_i b hlk
     split at h
     ·rename_i v hev
      obtain ⟨v',h,hv⟩:=mn h
      refine ih _ ⟨rfl,hdn,(fun _ hs=>by rw [hop] at hs; cases hs),fun _=>.inl ⟨rfl,?_⟩,(fun h=>by cases h),hgd _⟩ rfl rfl h
      refine pure_run (A:=t :: Operand.sl (cond b x y)) (σ:=[]) (v:=v) hv (fun G ρ w F hG hR hf _=>?_) _
      have e1:lookA (bU fr (t :: Operand.sl (cond b x y))) t=some (one (.bool (.lit b))):=by rw [dQ (by simp)]; exact hlk
      obtain ⟨vt,k1,k2⟩:=er hf e1
      have k2:=tO k2
      subst k2
      rw [<- ec (U:=t :: Operand.sl (cond b x y)) (fun t' ht=>by simp [ht])] at hev
      obtain ⟨u,k3,k4⟩:=ay hf hev
      rw [hop]
      refine .inl ⟨u,w,?_,Kp.refl w,k4,by simp⟩
      cases b with
      | true=>exact R.uf k1 rfl k3
      | false=>exact R.tR k1 rfl k3
     ·exact h.elim
    ·exact h.elim
   ·split at h
    ·-- an entry is put
     rename_i id e hins
     obtain ⟨k1,k2⟩:=yk (P:=P) (n:=n) hT (B:=ee l o.guard) hins H.length (maskH [] 0 H)
     split at h
     ·rename_i rc hdst
      refine ih _ ⟨hdst.symm,hdn,fun _ _=>hdst,fun _=>.inr ⟨e,id,rfl,rfl,rfl,rfl,rfl,by rw [jw],k2,k1⟩,(fun h=>by cases h),hgd _⟩ rfl rfl h
     ·exact h.elim
    ·split at h
     ·-- a map of functions
      rename_i mr hmp
      obtain ⟨v',h,hv⟩:=mn (gZ h)
      refine ih _ ⟨rfl,hdn,(fun _ hs=>by rw [BX hmp] at hs; cases hs),fun _=>.inl ⟨rfl,?_⟩,(fun h=>by cases h),hgd _⟩ rfl rfl h
      refine pure_run hv (fun G ρ w F hG hR hf _=>?_) _
      subst hG
      obtain ⟨u,j1,j2⟩:=qh (n:=n) (ty:=o.type) hT hR hf hmp
      exact .inl ⟨u,w,j1,Kp.refl w,j2,by simp⟩
     ·split at h
      ·rename_i r hr
       obtain ⟨v',h,hv⟩:=mn h
       have hr0:=hr
       unfold HA at hr
       dsimp only at hr
       split at hr
       ·rename_i r' hrow
        cases hr
        refine ih _ ⟨rfl,hdn,(fun _ hs=>by rw [BI hrow] at hs; cases hs),fun _=>.inl ⟨rfl,?_⟩,(fun h=>by cases h),hgd _⟩ rfl rfl h
        exact pure_run hv (fun G ρ w F hG hR hf _=>wv hT hG hR hf hrow) _
       ·split at hr
        ·rename_i r' hpv
         cases hr
         refine ih _ ⟨rfl,hdn,(fun _ hs=>by rw [Ic hpv] at hs; cases hs),fun _=>.inl ⟨rfl,?_⟩,(fun h=>by cases h),hgd _⟩ rfl rfl h
         exact pure_run hv (fun G ρ w F hG hR hf hob=>by subst hG; exact oZ hT hO hR hf hpv hob) _
        ·split at hr
         ·rename_i hst
          refine ih _ ⟨rfl,hdn,(fun _ hs=>by
           unfold As at hst
           rw [hs] at hst
           cases hdst:o.dst with
           | none=>rfl
           | some d=>rw [hdst] at hst; cases hst),fun _=>.inl ⟨rfl,?_⟩,(fun h=>by cases h),hgd _⟩ rfl rfl h
          intro G ρ w F hG hR hf hob
          refine qx hf fun FA hfA=>?_
          have hk:=pS (n:=n) hT hO hr G ρ w FA o.type hG hR hfA hob
          have key:∀ u w',(∃ ρ',Stp ⟨fun i=>bl i r.ch && ro.wr i,fun i=>bl i r.mv && ro.mv i⟩ ρ w ρ' w' /\ Rep G ρ' r.res w' /\ Rt (cx G ρ' w') ρ' r.v u/\∀ p ∈ r.fc,p)->∃ ρ',Stp ⟨fun i=>bl i r.ch && ro.wr i,fun i=>bl i r.mv && ro.mv i⟩ ρ w ρ' w' /\ Rep G ρ' r.res w' /\ Rt (cx G ρ' w') ρ' v' u/\∀ p ∈ r.fc,p:=fun u w' ⟨ρ',j1,j2,j3,j4⟩=>⟨ρ',j1,j2,hv _ _ _ j3,j4⟩
          rcases hk with hk | ⟨h0,w',j1,j2⟩
          ·exact .inl (hk.mono key)
          ·exact .inr ⟨h0,w',j1,key _ _ j2⟩
         ·cases hr
      ·exact h.elim
  ·exact h.elim
end
end Go.Proofs.Ytladifkbefehdaa
namespace Go.Proofs.Ytladifkbefehdaa
open Go.RowKit
section
variable {P:Program} {T:List (Nat × TI)} {G:Gl} {O:cH} {n k:Nat} {l:List Oper} {ρ:List RE} {H:AH} {fr:AFr} {F:Fr} {ds:List DV} {vs:Nat->Value} {f g:DV->Value->World->Prop}
def jn (ds:List DV) (f:DV->Value->World->Prop):List Sp:=ds.map fun a=>⟨a.deps,[],f a⟩
theorem kX {i:Nat} {a:DV} (h:ds[i]? = some a):spAt (jn ds f) i=⟨a.deps,[],f a⟩:=by
 simp [spAt,jn,List.getD_eq_getElem?_getD,h]
theorem uH {i:Nat}:(spAt (jn ds f) i).deps=((ds[i]?).map DV.deps).getD []:=by
 cases h:ds[i]? with
 | none=>simp [spAt,jn,List.getD_eq_getElem?_getD,h]
 | some a=>rw [kX h]; rfl
theorem xc {sl:List Nat}:gJ l (jn ds f) sl k=gJ l (jn ds g) sl k:=by
 simp only [gJ,uH]
 simp only [jn,List.length_map]
theorem lV:∀ {ds:List DV},rz (jn ds f)=[]
 | []=>rfl
 | _ :: r=>lV (ds:=r)
theorem lA:∀ {ds:List DV} {i:Nat},ma (jn ds f) i=[]
 | [],_=>rfl
 | _ :: r,0=>lV (ds:=r)
 | _ :: r,i+1=>lA (ds:=r) (i:=i)
theorem sF (h:∀ a u w w',f a u w->Kp [] w w' -> f a u w'):∀ {r:List DV} {i:Nat},iE (jn ds f) i (jn r f)
 | [],_=>trivial
 | a :: r,i=>⟨fun u w w' hv hk=>h a u w w' hv (by rwa [lA] at hk),sF h (r:=r)⟩
theorem wM {Q:List Sp} {w:World}:∀ {r:List Oper} {i:Nat},(∀ j o,r[j]? = some o->∀ vs w1,Kp (ma Q (i+j)) w w1->dx Q vs w1 (spAt Q (i+j)).deps->WO P (mG n (idst l (i+j)) (spAt Q (i+j)).S (spAt Q (i+j)).V w1) n l [o] (bR l F vs (spAt Q (i+j)).deps) w1)->mK P n l Q F w i r
 | [],_,_=>trivial
 | o :: r,i,h=>⟨h 0 o rfl,wM fun j o' ho=>by
  have:=h (j+1) o' (by simpa using ho)
  rwa [show i+(j+1)=i+1+j by omega] at this⟩
theorem m_:∀ {r:List Oper} {p ds:List DV},pc T O H fr r p=some ds->(∃ q,ds=p++q/\q.length=r.length)/\∀ i o,r[i]? = some o->∃ a,ds[p.length+i]? = some a/\lI T O H fr (ds.take (p.length+i)) o=some a
 | [],p,ds,h=>by cases h; exact ⟨⟨[],by simp⟩,fun i o ho=>by simp at ho⟩
 | o :: r,p,ds,h=>by
  simp only [pc] at h
  split at h
  ·rename_i a ha
   obtain ⟨⟨q,h1,h2⟩,h3⟩:=m_ h
   refine ⟨⟨a :: q,by rw [h1]; simp,by simp [h2]⟩,fun i o' ho=>?_⟩
   cases i with
   | zero=>
    simp only [List.getElem?_cons_zero,Option.some.injEq] at ho
    subst ho
    refine ⟨a,?_,?_⟩
    ·rw [h1]; simp
    ·have:ds.take (p.length+0)=p:=by rw [h1]; simp
     rw [this]; exact ha
   | succ i=>
    obtain ⟨b,h4,h5⟩:=h3 i o' (by simpa using ho)
    have e:(p++[a]).length+i=p.length+(i+1):=by simp; omega
    rw [e] at h4 h5
    exact ⟨b,h4,h5⟩
  ·cases h
theorem nM {p:List DV} {o:Oper} {a:DV} (h:lI T O H fr p o=some a):o.dst=some a.d/\∃ sl,a.deps=cc sl 0 p:=by
 unfold lI at h
 split at h
 ·rename_i d ch gs hd hc
  rw [hd]
  split at h
  ·split at h
   ·split at h
    ·cases h; exact ⟨rfl,_,rfl⟩
    ·cases h
   ·split at h
    ·cases h; exact ⟨rfl,_,rfl⟩
    ·cases h
  ·cases h
 ·cases h
theorem mC {Q:List Sp} {w:World}:∀ {deps:List Nat},dx Q vs w deps->∀ j ∈ deps,(spAt Q j).V (vs j) w
 | [],_,j,hj=>by simp at hj
 | i :: r,h,j,hj=>by
  rcases List.mem_cons.1 hj with rfl | hj
  ·exact h.1
  ·exact mC h.2 j hj
theorem qw:∀ {ds:List DV} {i:Nat} {a:DV},ds[i]? = some a->∀ q ∈ a.ob,q ∈ FC ds
 | [],i,a,h,_,_=>by simp at h
 | b :: r,0,a,h,q,hq=>by simp at h; subst h; exact List.mem_append_left _ hq
 | b :: r,i+1,a,h,q,hq=>List.mem_append_right _ (qw (ds:=r) (i:=i) (by simpa using h) q hq)
theorem qz:∀ {ds:List DV} {q:Prop},q ∈ x_ ds->∃ (i:Nat) (a:DV),ds[i]? = some a/\q ∈ a.fc
 | [],q,h=>by simp [x_] at h
 | b :: r,q,h=>by
  rcases List.mem_append.1 h with h | h
  ·exact ⟨0,b,rfl,h⟩
  ·obtain ⟨i,a,h1,h2⟩:=qz h
   exact ⟨i+1,a,by simpa using h1,h2⟩
theorem qE {c:Cx} {D:Fr} (hf:cu c ρ fr F) (hF:∀ i v,look F i=some v->look D i=some v):∀ {r:List DV},(∀ a ∈ r,a.ch=[]->∃ u,look D a.d=some u/\Rt c ρ a.v u)->∃ F',cu c ρ (qC r fr) F' /\ ∀ i v,look F' i=some v->look D i=some v
 | [],_=>⟨F,hf,hF⟩
 | a :: r,h=>by
  obtain ⟨F',h1,h2⟩:=qE hf hF (r:=r) fun b hb=>h b (by simp [hb])
  unfold qC
  split
  ·rename_i hc
   obtain ⟨u,h3,h4⟩:=h a (by simp) hc
   refine ⟨(a.d,u) :: F',.cons ⟨rfl,h4⟩ h1,fun i v hv=>?_⟩
   rw [aM] at hv
   by_cases hi:a.d=i
   ·subst hi; rw [if_pos rfl] at hv; cases hv; exact h3
   ·rw [if_neg hi] at hv; exact h2 i v hv
  ·exact ⟨F',h1,h2⟩
theorem lB {i:Nat}:∀ {deps:List Nat},(∀ j ∈ deps,idst l j≠some i)->look (bR l F vs deps) i=look F i
 | [],_=>rfl
 | j :: r,h=>by
  have ih:=lB (i:=i) (deps:=r) fun j hj=>h j (by simp [hj])
  unfold bR
  split
  ·rename_i d hd
   rw [aM,if_neg (fun e=>h j (by simp) (by rw [hd,e]))]
   exact ih
  ·exact ih
theorem zn {c:Cx} (hf:cu c ρ fr F):fr.map (·.1)=F.map (·.1):=by
 induction hf with
 | nil=>rfl
 | cons h _ ih=>simp [h.1,ih]
end
theorem tP {s:Nat->Bool}:∀ {rs:List RC} {k:Nat} {q:AFr × AH},(∀ i,k<=i->i<k+rs.length->s i=true)->eE s k rs q=prg rs q
 | [],_,_,_=>rfl
 | r :: rs,k,q,h=>by
  simp only [eE,prg]
  rw [h k (Nat.le_refl _) (by simp),cond_true]
  exact tP fun i h1 h2=>h i (by omega) (by simp at h2 ⊢; omega)
theorem qZ:∀ {rs:List RC} {k:Nat} {q:AFr × AH},∃ m,eE (fun _=>false) k rs q=(q.1,q.2++List.replicate m .gone)
 | [],_,q=>⟨0,by simp [eE]⟩
 | r :: rs,k,q=>by
  obtain ⟨m,h⟩:=qZ (rs:=rs) (k:=k+1) (q:=r.uL q)
  refine ⟨(r.res.length - r.base)+m,?_⟩
  simp only [eE,cond_false]
  rw [h]
  simp only [RC.uL,List.append_assoc,List.replicate_append_replicate]
theorem Rep.IT {G:Gl} {ρ:List RE} {H:AH} {w:World} (h:Rep G ρ H w) (m:Nat):Rep G (ρ++List.replicate m RE.no) (H++List.replicate m .gone) w/\(cx G ρ w).le (cx G (ρ++List.replicate m RE.no) w)/\jk ρ (ρ++List.replicate m RE.no)/\∀ ro,Stp ro ρ w (ρ++List.replicate m RE.no) w:=by
 have key:∀ i r,(ρ++List.replicate m RE.no)[i]? = some r->r≠RE.no->ρ[i]? = some r:=fun i r hi hne=>by
  by_cases hl:i<ρ.length
  ·rw [List.getElem?_append_left hl] at hi; exact hi
  ·rw [List.getElem?_append_right (by omega),List.getElem?_replicate] at hi
   split at hi
   ·cases hi; exact absurd rfl hne
   ·cases hi
 have hlv:∀ b,live (ρ++List.replicate m RE.no) b->live ρ b:=fun b ⟨i,r,h1,h2⟩=>⟨i,r,key i r h1 (by rintro rfl; cases h2),h2⟩
 have hext:Ext ρ w (ρ++List.replicate m RE.no) w:=⟨rfl,rfl,rfl,Nat.le_refl _,fun b _ hl=>⟨fun k=>hl (hlv b k),rfl⟩⟩
 have hag:=dK ρ (List.replicate m .no)
 refine ⟨⟨?_,fun i j r r' g h1 h2 h3 h4=>h.inj i j r r' g (key i r h1 (by rintro rfl; cases h3)) (key j r' h2 (by rintro rfl; cases h4)) h3 h4,fun i r g h1 h2=>h.bnd i r g (key i r h1 (by rintro rfl; cases h2)) h2,h.z,h.b0⟩,hext.le,hag,fun ro=>⟨hext,fun i r _ hr=>?_,fun i r _ hr=>⟨?_,fun _ _=>rfl⟩,fun i g hg=>hag i _ hg (by simp)⟩⟩
 ·refine All2.append (bG h.obj.length fun i o r ho hr=>?_) ?_
  ·obtain ⟨r',hr',hor⟩:=h.at_ ho
   rw [hr] at hr'; cases hr'
   exact hor.carry hext.le hag fun _ _=>rfl
  ·refine bG (by simp) fun i o r ho hr=>?_
   rw [List.getElem?_replicate] at ho hr
   by_cases hi:i<m
   ·rw [if_pos hi] at ho hr; cases ho; cases hr; rfl
   ·rw [if_neg hi] at ho; cases ho
 ·rw [List.getElem?_append_left (List.getElem?_eq_some_iff.1 hr).1]; exact hr
 ·rw [List.getElem?_append_left (List.getElem?_eq_some_iff.1 hr).1]; exact hr
theorem iw {t:Nat} {v:TV}:∀ {fr:AFr} {l:List Nat},(t,v) ∈ mu fr l->t ∉ l/\lookA fr t=some v
 | [],_,h=>by simp [mu] at h
 | (i,x) :: r,l,h=>by
  simp only [mu] at h
  cases hm:bl i l <;> rw [hm] at h
  ·rcases List.mem_cons.1 h with e | h
   ·cases e
    refine ⟨fun hl=>?_,by rw [bQ,if_pos rfl]⟩
    rw [aU.2 hl] at hm; cases hm
   ·obtain ⟨h1,h2⟩:=iw h
    simp only [List.mem_cons,not_or] at h1
    exact ⟨h1.2,by rw [bQ,if_neg (fun e=>h1.1 e.symm)]; exact h2⟩
  ·obtain ⟨h1,h2⟩:=iw h
   refine ⟨h1,?_⟩
   rw [bQ,if_neg]
   ·exact h2
   ·rintro rfl; exact h1 (aU.1 hm)
theorem mX {m:Nat} {p:Prop}:∀ {rs:List RC} {k:Nat},p ∈ nr m k rs->∃ j r,rs[j]? = some r/\bitN m (k+j)=true/\p ∈ r.fc
 | [],_,h=>by simp [nr] at h
 | r :: rs,k,h=>by
  simp only [nr,List.mem_append] at h
  rcases h with h | h
  ·cases hb:bitN m k <;> rw [hb] at h
   ·simp at h
   ·exact ⟨0,r,rfl,hb,h⟩
  ·obtain ⟨j,r',h1,h2,h3⟩:=mX h
   exact ⟨j+1,r',by simpa using h1,by rwa [show k+(j+1)=k+1+j by omega],h3⟩
theorem zu {all:List RC}:∀ {bef:List Nat} {rs:List RC},bef.length=rs.length->(∀ p ∈ HE all bef rs,p)->∀ i r,rs[i]? = some r->(∀ p ∈ nr (bef.getD i 0) 0 all,p)->∀ p ∈ r.ob,p
 | _,[],_,_,i,r,h,_=>by simp at h
 | [],_ :: _,hl,_,_,_,_,_=>by simp at hl
 | m :: bef,b :: rs,hl,h,i,r,hr,hf=>by
  simp only [HE] at h
  cases i with
  | zero=>
   simp at hr; subst hr
   intro p hp
   have h1:=fun q hq=>h q (List.mem_append_left _ hq)
   cases ho:b.ob with
   | nil=>rw [ho] at hp; simp at hp
   | cons x y=>
    rw [ho] at h1
    exact c_.1 (cN.1 (h1 _ (List.mem_singleton_self _)) hf) p (by rw [<- ho]; exact hp)
  | succ i=>
   exact zu (by simpa using hl) (fun q hq=>h q (List.mem_append_right _ hq)) i r (by simpa using hr) (by simpa using hf)
theorem tc:∀ {rs:List RC} {p:Prop},p ∈ GX rs->∃ (j:Nat) (r:RC),rs[j]? = some r/\p ∈ r.fc
 | [],_,h=>by simp [GX] at h
 | r :: rs,p,h=>by
  simp only [GX,List.mem_append] at h
  rcases h with h | h
  ·exact ⟨0,r,rfl,h⟩
  ·obtain ⟨j,r',h1,h2⟩:=tc h
   exact ⟨j+1,r',by simpa using h1,h2⟩
theorem qp {P:Program} {T:List (Nat × TI)} {O:cH} {G:Gl} {n:Nat} {ro:Lv} {l:List Oper} {ρ0:List RE} {w0:World} {Q:Exit->Act->World->Prop} {id:Nat} (hT:bc P G.shp T) (hO:aT P G.shp O) (hm:P.follows .mixedOrders=true) (hro:∀ i,ro.wr i=false\/ro.mv i=false->i<ρ0.length) {K:AFr->AH->Prop} {fr:AFr} {H:AH} {F:Fr} {w:World} (hd:iB n l=true)
  (h:Dt T O ro l K fr H) (hst:St G ro ρ0 w0 fr H F w) (hK:∀ fr H F w,K fr H->St G ro ρ0 w0 fr H F w->WX Q n .normal F w):WC P Q n (.region id l.toArray true) F w:=by
 obtain ⟨ρ,hS,hR,hf⟩:=hst
 obtain ⟨rs,hw,hok,hgoal⟩:=tM (n:=n) hT hO _ 0 l fr H [] (by simp) (Nat.zero_le _) hd ⟨rfl,trivial,rfl,fun j o r _ hr=>by simp at hr⟩ h
 simp only [JE,Bool.and_eq_true] at hok
 obtain ⟨⟨hp,hlen⟩,hok⟩:=hok
 have hlen:=Nat.eq_of_beq_eq_true hlen
 have hp:∀ i,∀ j ∈ aX l i,j<i:=fun i j hj=>by have:=kv hp i j hj; omega
 have hc:=hw.ch.fit (pM hok)
 obtain ⟨hobs,hfin⟩:=eK.1 hgoal
 have hbl:(eB [] l).length=rs.length:=by rw [qm,hlen]; simp
 have hq0:∀ i,i<ρ0.length->(ro.wr i=false\/ro.mv i=false)->i<H.length:=fun i hi hh=>by
  rw [hR.obj.length]
  have hr0:=List.getElem?_eq_getElem hi
  rcases hh with hh | hh
  ·exact (List.getElem?_eq_some_iff.1 (hS.pro i _ hh hr0).1).1
  ·exact (List.getElem?_eq_some_iff.1 (hS.loc i _ hh hr0)).1
 intro a ha
 refine Il hm (Inv:=Bd G ro ρ0 w0 n (fr,H) rs) hp (fun s a w h=>by obtain ⟨_,_,_,_,h,_⟩:=h; exact h) (fun s a w i o inv ho hsi hpre hcl=>?_) (fun s a w inv hall=>?_) ?_
 ·refine xA rfl hro hq0 hp hc hok hlen hw.ok (fun i r hr hfc=>zu hbl hobs i r hr fun p hp=>?_) inv ho hsi hpre hcl
  obtain ⟨j,r',h1,h2,h3⟩:=mX hp
  rw [Nat.zero_add] at h2
  exact hfc j r' h1 h2 p h3
 ·obtain ⟨ρ',k1,k2,k3,k4,k5,k6⟩:=inv
  rw [tP fun i _ hi=>hall i (by omega)] at k2 k3
  have hk:=cN.1 hfin fun p hp=>by
   obtain ⟨j,r,h1,h2⟩:=tc hp
   exact (k6 j r h1 (hall j (by have:=(List.getElem?_eq_some_iff.1 h1).1; omega))).1 p h2
  refine hK _ _ (qR a (mu (prg rs (fr,H)).1 [])) w hk ⟨ρ',k1,k2,lj fun q hq=>(k3 q.1 q.2 (iw hq).2).2⟩ a ⟨k4,k5,fun i v hv=>?_⟩
  obtain ⟨h1,tv,h2⟩:=jl hv
  have h3:lookA (prg rs (fr,H)).1 i=some tv:=by
   have:∀ {fr:AFr} {l:List Nat},lookA (mu fr l) i=some tv->(i,tv) ∈ mu fr l:=by
    intro fr l
    generalize mu fr l=x
    induction x with
    | nil=>intro h; cases h
    | cons q r ih=>
     obtain ⟨j,u⟩:=q
     rw [bQ]
     split
     ·rename_i hj; subst hj; intro h; cases h; simp
     ·intro h; exact List.mem_cons_of_mem _ (ih h)
   exact (iw (this h2)).2
  exact ⟨(k3 i tv h3).1,h1.symm⟩
 ·obtain ⟨m,hm2⟩:=qZ (rs:=rs) (k:=0) (q:=(fr,H))
  have hkp:Kp [] w { w with drawn:=w.drawn+1 }:=(Kp.refl w).drew
  obtain ⟨g1,g2,g3,g4⟩:=(hR.kp hkp).IT m
  refine ⟨_,(hS.trans (Stp.kp hR hkp)).trans (g4 ro),by rw [hm2]; exact g1,fun t v hv=>?_,ha.1,ha.2.1,fun k r _ hk=>by cases hk⟩
  rw [hm2] at hv
  obtain ⟨u,h1,h2⟩:=er (hf.kp hkp) hv
  obtain ⟨h3,h4⟩:=ha.2.2 t u h1
  exact ⟨h3,by rw [h4]; exact h2.carry g2 g3⟩
theorem mw {P:Program} {T:List (Nat × TI)} {shp:TypeId->Option Sh} {O:cH} (hT:bc P shp T) (hO:aT P shp O) (hm:P.follows .mixedOrders=true):ou P shp T O:=by
 intro G n ro ρ0 w0 hshp hro Q k0 id L ops K fr H F w hd h hst hK
 subst hshp
 obtain ⟨ρ,hS,hR,hf⟩:=hst
 simp only [ra] at h
 generalize yD T O H fr ops.toList [] 0=k at h
 split at h
 ·rename_i ds hds
  split at h
  ·rename_i hB
   obtain ⟨hob,h⟩:=eK.1 h
   rw [cN] at h
   have hB1:gJ ops.toList (jn ds fun a u w=>DVal G ρ ds a u w) (F.map (·.1)) k=true:=by
    rw [xc (g:=fun _ _ _=>True),<- zn hf]; exact hB
   have hB2:=hB1
   simp only [gJ,Bool.and_eq_true,decide_eq_true_eq,List.all_eq_true,List.mem_range,Bool.or_eq_true] at hB2
   obtain ⟨⟨⟨⟨hnl,hsp⟩,hops⟩,_⟩,_⟩:=hB2
   have hdl:ds.length=k:=by simpa [jn] using hsp
   obtain ⟨_,hat⟩:=m_ hds
   simp only [List.length_nil,Nat.zero_add] at hat
   have hlt:∀ i a,ds[i]? = some a->i<k:=fun i a h=>by rw [<- hdl]; exact (List.getElem?_eq_some_iff.1 h).1
   have hdst:∀ (j:Nat) (a:DV),ds[j]? = some a->idst ops.toList j=some a.d:=fun j a ha=>by
    have hj:=hlt j a ha
    have hjl:j<ops.toList.length:=by omega
    obtain ⟨b,h1,h2⟩:=hat j (ops.toList[j]) (by rw [List.getElem?_take,if_pos hj,List.getElem?_eq_getElem hjl])
    rw [ha] at h1; cases h1
    rw [gz,List.getElem?_eq_getElem hjl]
    exact (nM h2).1
   have hfree:∀ (j:Nat) (a:DV),ds[j]? = some a->a.d ∉ F.map (·.1)/\∀ i,i<k->i=j\/idst ops.toList i≠some a.d:=fun j a ha=>by
    have:=(hops j (hlt j a ha)).2
    rw [hdst j a ha] at this
    simp only [Bool.and_eq_true,Bool.not_eq_true',List.all_eq_true,List.mem_range,Bool.or_eq_true,beq_iff_eq,bne_iff_ne,List.contains_eq_mem,decide_eq_false_iff_not] at this
    exact this
   have hdist:∀ (i j:Nat) (a b:DV),ds[i]? = some a->ds[j]? = some b->a.d=b.d->i=j:=fun i j a b ha hb he=>by
    rcases (hfree j b hb).2 i (hlt i a ha) with h | h
    ·exact h
    ·rw [hdst i a ha,he] at h; exact absurd rfl h
   have e:ops=ops.toList.toArray:=by simp
   have hdt:iB n (ops.toList.take k)=true/\iB n (ops.toList.drop k)=true:=by
    rw [<- ox,List.take_append_drop]; exact hd
   rw [e]
   refine WC.Hd hm _ k hB1 (sF (f:=fun a u w=>DVal G ρ ds a u w) (ds:=ds) (r:=ds) fun a u w w' h hk=>DVal.kp h hk) (wM fun j o ho vs w1 hk hfacts=>?_) fun vs w1 hk hfacts=>?_
   ·rw [Nat.zero_add] at hk hfacts ⊢
    rw [lA] at hk
    obtain ⟨a,ha,hstep⟩:=hat j o ho
    rw [kX ha] at hfacts ⊢
    obtain ⟨hod,sl,hsl⟩:=nM hstep
    rw [hdst j a ha]
    refine (BZ (l:=ops.toList) (vs:=vs) hT hO hstep ⟨fun i b hb=>(nW hb).1,hdst,hdist,fun i hi=>?_⟩ (fun ch g=>pB) (fun q hq=>hob q (qw ha q hq)) (ic hdt.1 o (List.mem_of_getElem? ho)) (hR.kp hk) (hf.kp hk)).2
    have hv:=mC hfacts i hi
    rw [hsl] at hi
    obtain ⟨i',b,e1,e2,_⟩:=cQ.1 hi
    rw [Nat.zero_add] at e1; subst e1
    rw [kX (nW e2).1] at hv
    exact ⟨b,e2,hv⟩
   ·rw [lV] at hk
    have hall:∀ j a,ds[j]? = some a->DVal G ρ ds a (vs j) w1:=fun j a ha=>by
     have:=mC hfacts j (List.mem_range.2 (hlt j a ha))
     rwa [kX ha] at this
    have hctx:DCtx G ρ ops.toList ds vs ds (List.range k) w1:=⟨fun _ _ h=>h,hdst,hdist,fun j hj=>by
     have hj:=List.mem_range.1 hj
     have hj2:j<ds.length:=by omega
     exact ⟨_,List.getElem?_eq_getElem hj2,hall j _ (List.getElem?_eq_getElem hj2)⟩⟩
    have hfc:∀ p ∈ x_ ds,p:=fun p hp=>by
     obtain ⟨i,a,h1,h2⟩:=qz hp
     exact (hall i a h1).1 p h2
    obtain ⟨F',h1,h2⟩:=qE (D:=bR ops.toList F vs (List.range k)) (hf.kp hk) (fun i v hv=>by
     rw [lB fun j hj he=>?_]
     ·exact hv
     ·have hj:=List.mem_range.1 hj
      have hj2:j<ds.length:=by omega
      have:=hdst j _ (List.getElem?_eq_getElem hj2)
      rw [he] at this
      have h3:=(hfree j _ (List.getElem?_eq_getElem hj2)).1
      rw [<- Option.some.inj this] at h3
      exact h3 (List.mem_map.2 (qK hv))) (r:=ds) (fun a ha hc=>by
     obtain ⟨j,hj⟩:=List.getElem?_of_mem ha
     refine ⟨vs j,hctx.look (List.mem_range.2 (hlt j a hj)) hj,(hall j a hj).2.1 ?_⟩
     rw [hc]
     exact fun q hq=>by simp at hq)
    have:=jF (Q:=Q) (l:=ops.toList) hT hO hK _ _ _ _ F' w1 hdt.2 (h hfc) ⟨ρ,hS.trans (Stp.kp hR hk),hR.kp hk,h1⟩
    exact fun a ha=>this a (ha.sub h2)
  ·have e:ops=ops.toList.toArray:=by simp
   rw [e]
   exact qp hT hO hm hro hd h ⟨ρ,hS,hR,hf⟩ hK
 ·have e:ops=ops.toList.toArray:=by simp
  rw [e]
  exact qp hT hO hm hro hd h ⟨ρ,hS,hR,hf⟩ hK
end Go.Proofs.Ytladifkbefehdaa
namespace Go.Proofs.Ytladifkbefehdaa
open Go.RowKit
def al:List (Nat × TI)->TypeId->Option Sh
 | [],_=>none
 | (_,⟨.sl e (some s),_,_⟩) :: r,t=>bif Nat.beq e t then some s else al r t
 | _ :: r,t=>al r t
def IK (P:Program):List Go.Field->List (Nat × Nat)->Bool
 | [],[]=>true
 | f :: r,q :: l=>(match P.info? f.type with
  | some i=>Nat.beq f.offset q.1 && Nat.beq i.size q.2 && Nat.blt 0 q.2
  | none=>false) && IK P r l
 | _,_=>false
def IW (s:Sh) (z:Value):Bool:=match s.jM,z with
 | true,.agg a=>rO (cellsOf s (dflt s)) a.toList
 | true,_=>false
 | false,z=>rO (cellsOf s (dflt s)) [z]
theorem FW {s:Sh} {z:Value} (h:IW s z=true):∃ zs,rO (cellsOf s (dflt s)) zs=true/\((s.jM=true/\z = .agg zs.toArray)\/(s.jM=false/\zs=[z])):=by
 unfold IW at h
 split at h
 ·rename_i a hs
  exact ⟨a.toList,h,.inl ⟨hs,by simp⟩⟩
 ·cases h
 ·exact ⟨[_],h,.inr ⟨by assumption,rfl⟩⟩
def Ij (P:Program) (T:List (Nat × TI)) (t:TypeId) (ti:TI):Bool:=match ti.k,P.underlying t with
 | .i k,some (.int k')=>decide (k' = k)
 | .bool,some .bool=>true
 | .str,some .string=>true
 | .sl e so,some (.slice e')=>Nat.beq e' e && (match so with
  | none=>true
  | some s=>decide (al T e=some s) && (match P.info? e with
   | some i=>Nat.beq i.size s.size && Nat.beq i.bytes s.bytes && (match i.zero with
    | some z=>rO (cellsOf s (dflt s)) z.cells.toList
    | none=>false)
   | none=>false) && (match s with
   | .u8=>(match P.underlying e with
    | some (.int k)=>decide (k = .u8)
    | _=>false)
   | _=>true))
 | .st fs,some (.struct F)=>IK P F.toList fs && (match CK ti.zero with
  | some ks=>It P t ks
  | none=>true)
 | .ar n e,some (.array n' e')=>Nat.beq n' n && Nat.beq e' e
 | .mp k e so,some (.map k' e')=>Nat.beq k' k && Nat.beq e' e && (match P.underlying k with
  | some (.int ik)=>decide (ik = .i64)
  | _=>false) && (match so with
  | none=>match (P.info? e).bind (·.zero) with
   | some .nilFunc=>true
   | _=>false
  | some s=>match (P.info? e).bind (·.zero) with
   | some z=>IW s z
   | none=>false)
 | .ptr,some d=>!hP d
 | .fn,some d=>!hP d
 | .oth,some d=>!hP d
 | _,_=>false
def IF (P:Program) (T:List (Nat × TI)) (t:TypeId) (ti:TI):Bool:=(match P.info? t with
 | some i=>Nat.beq i.size ti.size && (match i.zero with
  | some z=>rO ti.zero z.cells.toList
  | none=>false)
 | none=>false) && Ij P T t ti
def AE (P:Program) (T:List (Nat × TI)):List (Nat × TI)->Bool
 | []=>true
 | (t,ti) :: r=>IF P T t ti && AE P T r
theorem ya {P:Program}:∀ {F:List Go.Field} {fs:List (Nat × Nat)},IK P F fs=true->F.mapM (fun f=>(P.info? f.type).map fun i=>(f.offset,i.size))=some fs/\∀ q ∈ fs,0<q.2
 | [],[],_=>⟨rfl,by simp⟩
 | [],_ :: _,h=>by cases h
 | _ :: _,[],h=>by cases h
 | f :: F,(a,b) :: fs,h=>by
  simp only [IK,Bool.and_eq_true] at h
  obtain ⟨h1,h2⟩:=h
  obtain ⟨h3,h4⟩:=ya h2
  split at h1
  ·rename_i i hi
   simp only [Bool.and_eq_true] at h1
   have e1:=Nat.eq_of_beq_eq_true h1.1.1
   have e2:=Nat.eq_of_beq_eq_true h1.1.2
   have e3:0<b:=by have:=(Nat.blt_eq).mp h1.2; exact this
   refine ⟨by rw [List.mapM_cons,hi,h3,e1,<- e2]; rfl,fun q hq=>?_⟩
   rcases List.mem_cons.1 hq with rfl | hq
   ·exact e3
   ·exact h4 q hq
  ·cases h1
theorem EL {P:Program} {T:List (Nat × TI)} {t:TypeId} {ti:TI} (h:IF P T t ti=true):Ib P (al T) t ti:=by
 simp only [IF,Bool.and_eq_true] at h
 obtain ⟨h1,h2⟩:=h
 refine ⟨?_,?_⟩
 ·split at h1
  ·rename_i i hi
   simp only [Bool.and_eq_true] at h1
   obtain ⟨h3,h4⟩:=h1
   refine ⟨by rw [hi,Option.map_some,Nat.eq_of_beq_eq_true h3],?_⟩
   split at h4
   ·rename_i z hz
    exact ⟨z.cells.toList,by simp [hi,hz],h4⟩
   ·cases h4
  ·cases h1
 ·unfold Ij at h2
  split at h2
  ·rename_i k k' hk hu
   simp only [hk]; rw [hu,of_decide_eq_true h2]
  ·rename_i hk hu
   simp only [hk]; exact hu
  ·rename_i hk hu
   simp only [hk]; exact hu
  ·rename_i e so e' hk hu
   simp only [hk]
   simp only [Bool.and_eq_true] at h2
   have e1:=Nat.eq_of_beq_eq_true h2.1
   subst e1
   refine ⟨hu,fun s hs=>?_⟩
   subst hs
   have h3:=h2.2
   simp only [Bool.and_eq_true,decide_eq_true_eq] at h3
   obtain ⟨⟨h3,h4⟩,h5⟩:=h3
   refine ⟨h3,?_,?_⟩
   ·split at h4
    ·rename_i i hi
     simp only [Bool.and_eq_true] at h4
     obtain ⟨⟨h6,h7⟩,h8⟩:=h4
     split at h8
     ·rename_i z hz
      refine ⟨z.cells.toList,?_,h8⟩
      rw [hi,Option.map_some,hz,Nat.eq_of_beq_eq_true h6,Nat.eq_of_beq_eq_true h7]
      simp
     ·cases h8
    ·cases h4
   ·rintro rfl
    simp only at h5
    split at h5
    ·rename_i k hk
     rw [hk,of_decide_eq_true h5]
    ·cases h5
  ·rename_i fs F hk hu
   simp only [hk]
   simp only [Bool.and_eq_true] at h2
   obtain ⟨h3,h4⟩:=ya h2.1
   refine ⟨F,hu,h3,h4,fun ks hks=>?_⟩
   have h5:=h2.2
   rw [hks] at h5
   exact h5
  ·rename_i n e n' e' hk hu
   simp only [hk]
   simp only [Bool.and_eq_true] at h2
   rw [hu,Nat.eq_of_beq_eq_true h2.1,Nat.eq_of_beq_eq_true h2.2]
  ·rename_i k e so k' e' hk hu
   simp only [hk]
   simp only [Bool.and_eq_true] at h2
   obtain ⟨⟨⟨h3,h4⟩,h5⟩,h6⟩:=h2
   rw [Nat.eq_of_beq_eq_true h3,Nat.eq_of_beq_eq_true h4] at hu
   refine ⟨hu,?_,fun s hs=>?_,fun hn=>?_⟩
   ·split at h5
    ·rename_i ik hik
     rw [hik,of_decide_eq_true h5]
    ·cases h5
   ·subst hs
    simp only at h6
    split at h6
    ·rename_i z hz
     obtain ⟨zs,h7,h8⟩:=FW h6
     exact ⟨z,zs,hz,h7,h8⟩
    ·cases h6
   ·subst hn
    simp only at h6
    split at h6
    ·assumption
    ·cases h6
  ·rename_i d hk hu
   simp only [hk]
   exact ⟨d,hu,by simpa using h2⟩
  ·rename_i d hk hu
   simp only [hk]
   exact ⟨d,hu,by simpa using h2⟩
  ·rename_i d hk hu
   simp only [hk]
   exact ⟨d,hu,by simpa using h2⟩
  ·cases h2
theorem nd {t:TypeId} {ti:TI}:∀ {T:List (Nat × TI)},bg T t=some ti->(t,ti) ∈ T
 | [],h=>by cases h
 | (j,v) :: r,h=>by
  simp only [bg] at h
  cases hb:Nat.beq j t <;> rw [hb] at h
  ·exact List.mem_cons_of_mem _ (nd h)
  ·cases h
   rw [Nat.eq_of_beq_eq_true hb]
   simp
theorem pO {P:Program} {T:List (Nat × TI)}:∀ {r:List (Nat × TI)},AE P T r=true->∀ q ∈ r,IF P T q.1 q.2=true
 | [],_,q,hq=>by simp at hq
 | (t,ti) :: r,h,q,hq=>by
  simp only [AE,Bool.and_eq_true] at h
  rcases List.mem_cons.1 hq with rfl | hq
  ·exact h.1
  ·exact pO h.2 q hq
theorem Eu {P:Program} {T:List (Nat × TI)} (h:AE P T T=true):bc P (al T) T:=fun _ _ ht=>EL (pO h _ (nd ht))
end Go.Proofs.Ytladifkbefehdaa
namespace Go.Proofs.Ytladifkbefehdaa
def aF:List (Nat × TI):=[
 (1,⟨.fn,1,[.nf]⟩),
 (2,⟨.i .i64,1,[.int 0]⟩),
 (3,⟨.i .i64,1,[.int 0]⟩),
 (4,⟨.bool,1,[.bool (.lit false)]⟩),
 (5,⟨.i .u8,1,[.u8 0]⟩),
 (6,⟨.i .u8,1,[.u8 0]⟩),
 (9,⟨.str,1,[.str ⟨[]⟩]⟩),
 (10,⟨.str,1,[.str ⟨[]⟩]⟩),
 (11,⟨.str,1,[.str ⟨[]⟩]⟩),
 (12,⟨.i .u64,1,[.u64 0]⟩),
 (15,⟨.ptr,1,[.np]⟩),
 (16,⟨.ptr,1,[.np]⟩),
 (17,⟨.ptr,1,[.np]⟩),
 (18,⟨.st [(0,1)],1,[.np]⟩),
 (19,⟨.st [(0,1)],1,[.np]⟩),
 (22,⟨.sl 5 (some .u8),1,[.em true]⟩),
 (23,⟨.fn,1,[.nf]⟩),
 (24,⟨.fn,1,[.nf]⟩),
 (25,⟨.sl 3 (some .int),1,[.em true]⟩),
 (26,⟨.st [(0,1),(1,1),(2,1),(3,1),(4,1),(5,1),(6,1),(7,1)],8,[.int 0,.int 0,.int 0,.int 0,.int 0,.int 0,.em true,.str ⟨[]⟩]⟩),
 (27,⟨.st [(0,1),(1,1),(2,1),(3,1),(4,1),(5,1),(6,1),(7,1)],8,[.int 0,.int 0,.int 0,.int 0,.int 0,.int 0,.em true,.str ⟨[]⟩]⟩),
 (28,⟨.sl 58 (some (.nm .field)),1,[.em true]⟩),
 (29,⟨.i .i64,1,[.int 0]⟩),
 (31,⟨.fn,1,[.nf]⟩),
 (32,⟨.fn,1,[.nf]⟩),
 (33,⟨.fn,1,[.nf]⟩),
 (34,⟨.fn,1,[.nf]⟩),
 (35,⟨.st [(0,1),(1,1)],2,[.em true,.u8 0]⟩),
 (36,⟨.st [(0,1),(1,1)],2,[.em true,.u8 0]⟩),
 (37,⟨.fn,1,[.nf]⟩),
 (38,⟨.fn,1,[.nf]⟩),
 (40,⟨.fn,1,[.nf]⟩),
 (41,⟨.fn,1,[.nf]⟩),
 (42,⟨.fn,1,[.nf]⟩),
 (43,⟨.fn,1,[.nf]⟩),
 (44,⟨.fn,1,[.nf]⟩),
 (45,⟨.fn,1,[.nf]⟩),
 (47,⟨.fn,1,[.nf]⟩),
 (48,⟨.fn,1,[.nf]⟩),
 (50,⟨.fn,1,[.nf]⟩),
 (51,⟨.fn,1,[.nf]⟩),
 (52,⟨.fn,1,[.nf]⟩),
 (53,⟨.fn,1,[.nf]⟩),
 (54,⟨.fn,1,[.nf]⟩),
 (55,⟨.ar 7 3,7,[.int 0,.int 0,.int 0,.int 0,.int 0,.int 0,.int 0]⟩),
 (56,⟨.i .u64,1,[.u64 0]⟩),
 (57,⟨.st [(0,1),(1,1),(2,1),(3,1)],4,[.int 0,.int 0,.u64 0,.em true]⟩),
 (58,⟨.st [(0,1),(1,1),(2,1),(3,1)],4,[.int 0,.int 0,.u64 0,.em true]⟩),
 (60,⟨.fn,1,[.nf]⟩),
 (61,⟨.fn,1,[.nf]⟩),
 (62,⟨.fn,1,[.nf]⟩),
 (63,⟨.fn,1,[.nf]⟩),
 (64,⟨.fn,1,[.nf]⟩),
 (65,⟨.fn,1,[.nf]⟩),
 (66,⟨.fn,1,[.nf]⟩),
 (67,⟨.mp 3 3 (some .int),1,[.dead]⟩),
 (68,⟨.fn,1,[.nf]⟩),
 (69,⟨.fn,1,[.nf]⟩),
 (71,⟨.fn,1,[.nf]⟩),
 (72,⟨.fn,1,[.nf]⟩),
 (73,⟨.sl 77 (some (.nm .spec)),1,[.em true]⟩),
 (74,⟨.fn,1,[.nf]⟩),
 (75,⟨.fn,1,[.nf]⟩),
 (76,⟨.st [(0,1),(1,1),(2,1),(3,1),(4,1)],5,[.int 0,.int 0,.int 0,.bool (.lit false),.bool (.lit false)]⟩),
 (77,⟨.st [(0,1),(1,1),(2,1),(3,1),(4,1)],5,[.int 0,.int 0,.int 0,.bool (.lit false),.bool (.lit false)]⟩),
 (78,⟨.fn,1,[.nf]⟩),
 (80,⟨.fn,1,[.nf]⟩),
 (82,⟨.fn,1,[.nf]⟩),
 (83,⟨.fn,1,[.nf]⟩),
 (84,⟨.ar 5 3,5,[.int 0,.int 0,.int 0,.int 0,.int 0]⟩),
 (85,⟨.fn,1,[.nf]⟩),
 (86,⟨.fn,1,[.nf]⟩),
 (87,⟨.fn,1,[.nf]⟩),
 (88,⟨.fn,1,[.nf]⟩),
 (89,⟨.fn,1,[.nf]⟩),
 (90,⟨.fn,1,[.nf]⟩),
 (92,⟨.fn,1,[.nf]⟩),
 (93,⟨.fn,1,[.nf]⟩),
 (94,⟨.fn,1,[.nf]⟩),
 (95,⟨.fn,1,[.nf]⟩),
 (96,⟨.fn,1,[.nf]⟩),
 (97,⟨.fn,1,[.nf]⟩),
 (98,⟨.st [(0,1),(1,1)],2,[.int 0,.int 0]⟩),
 (99,⟨.st [(0,1),(1,1)],2,[.int 0,.int 0]⟩),
 (100,⟨.fn,1,[.nf]⟩),
 (101,⟨.mp 3 99 (some (.nm .span)),1,[.dead]⟩),
 (102,⟨.fn,1,[.nf]⟩),
 (103,⟨.fn,1,[.nf]⟩),
 (104,⟨.mp 3 73 (some (.lst (.nm .spec))),1,[.dead]⟩),
 (105,⟨.fn,1,[.nf]⟩),
 (106,⟨.fn,1,[.nf]⟩),
 (107,⟨.fn,1,[.nf]⟩),
 (108,⟨.fn,1,[.nf]⟩),
 (109,⟨.i .u64,1,[.u64 0]⟩),
 (110,⟨.fn,1,[.nf]⟩),
 (111,⟨.st [(0,1),(1,1),(2,1),(3,1)],4,[.np,.np,.np,.str ⟨[]⟩]⟩),
 (112,⟨.st [(0,1),(1,1),(2,1),(3,1)],4,[.np,.np,.np,.str ⟨[]⟩]⟩),
 (113,⟨.ar 0 16,0,[]⟩),
 (116,⟨.fn,1,[.nf]⟩),
 (118,⟨.i .u8,1,[.u8 0]⟩),
 (119,⟨.i .u8,1,[.u8 0]⟩),
 (120,⟨.fn,1,[.nf]⟩),
 (121,⟨.ptr,1,[.np]⟩)]
end Go.Proofs.Ytladifkbefehdaa
namespace Go.Proofs.Ytladifkbefehdaa
theorem jW:bc Try.prog (al aF) aF:=Eu (by kernel_rfl)
theorem rE:Try.prog.follows .mixedOrders=true:=by kernel_rfl
end Go.Proofs.Ytladifkbefehdaa
namespace Go.Proofs.Ytladifkbefehdaa
open Go.RowKit
def Hl (a b:TV1):Prop:=∀ c ρ v,bW c ρ a v->bW c ρ b v
def uS:List TV1->List TV1->Prop
 | [],[]=>True
 | a :: r,b :: l=>Hl a b/\uS r l
 | _,_=>False
theorem uS.rd {c:Cx} {ρ:List RE}:∀ {aa bs:List TV1} {vs:List Value},uS aa bs->All2 (bW c ρ) aa vs->All2 (bW c ρ) bs vs
 | [],[],_,_,h=>h
 | [],_ :: _,_,h,_=>h.elim
 | _ :: _,[],_,h,_=>h.elim
 | _ :: _,_ :: _,_,h,k=>by cases k with | cons k1 k2=>exact .cons (h.1 _ _ _ k1) (uS.rd h.2 k2)
structure PU (α:Type) where
 p:TV1->Option α
 u:α->TV1
def PU.OK {α:Type} (A:PU α):Prop:=∀ a y,A.p a=some y->Hl a (A.u y)
def kT (s:Sh):PU (den s):=⟨fun | .agg l=>dw s l | _=>none,fun x=>.agg (cellsOf s x)⟩
theorem ck {s:Sh}:(kT s).OK:=fun a y h=>by
 cases a with
 | c a=>cases h
 | agg l=>exact fun c ρ v ⟨vs,e,hv⟩=>⟨vs,e,eA (aG h (hv.imp fun _ _ h=>Rd.qd h))⟩
structure PC (α:Type) where
 p:AV->Option α
 u:α->AV
def PC.OK {α:Type} (A:PC α):Prop:=∀ a y,A.p a=some y->∀ c ρ v,Rd c ρ a v->Rd c ρ (A.u y) v
def cI:PC Int:=⟨AV.bh,.int⟩
def cU:PC U64:=⟨AV.CZ,fun n=>.u64 n.n⟩
def cB:PC Bool:=⟨AV.q_,fun b=>.bool (.atom b)⟩
def cL (s:Sh):PC (List (den s)):=⟨AV.fX s,.fz s⟩
def yv (i:Nat):PC Unit:=⟨fun | .own j=>bif Nat.beq j i then some () else none | _=>none,fun _=>.own i⟩
def mR (i o:Nat):PC Unit:=⟨fun | .ptr j k=>bif Nat.beq j i && Nat.beq k o then some () else none | _=>none,fun _=>.ptr i o⟩
def Iv (b:Bool):PC Unit:=⟨fun | .em b'=>bif b' == b then some () else none | _=>none,fun _=>.em b⟩
theorem iO {A:AV} {y:AV} (h:∀ c v,Qd c A v->Pd c y v):∀ c ρ v,Rd c ρ A v->Rd c ρ y v:=fun c ρ v hv=>fW (h c v (Rd.qd hv))
theorem aK:cI.OK:=fun a y h=>iO fun _ _ hv=>Pd.bh h hv
theorem wY:cU.OK:=fun a y h=>iO fun _ _ hv=>Pd.CZ h hv
theorem p_:cB.OK:=fun a y h=>iO fun _ _ hv=>Pd.q_ h hv
theorem bf {s:Sh}:(cL s).OK:=fun a y h=>iO fun _ _ hv=>Pd.fX h hv
theorem oR {i:Nat}:(yv i).OK:=fun a y h c ρ v hv=>by
 cases a <;> simp only [yv] at h <;> try cases h
 rename_i j
 cases hb:Nat.beq j i <;> rw [hb] at h <;> cases h
 rw [Nat.eq_of_beq_eq_true hb] at hv; exact hv
theorem ei {i o:Nat}:(mR i o).OK:=fun a y h c ρ v hv=>by
 cases a <;> simp only [mR] at h <;> try cases h
 rename_i j k
 cases hb:(Nat.beq j i && Nat.beq k o) <;> rw [hb] at h <;> cases h
 simp only [Bool.and_eq_true] at hb
 rw [Nat.eq_of_beq_eq_true hb.1,Nat.eq_of_beq_eq_true hb.2] at hv; exact hv
theorem xG {b:Bool}:(Iv b).OK:=fun a y h c ρ v hv=>by
 cases a <;> simp only [Iv] at h <;> try cases h
 rename_i b'
 cases hb:(b' == b) <;> rw [hb] at h <;> cases h
 have:=beq_iff_eq.1 hb
 subst this; exact hv
structure PL (α:Type) where
 p:List AV->Option α
 u:α->List AV
def PL.OK {α:Type} (A:PL α):Prop:=∀ l y,A.p l=some y->∀ c ρ vs,All2 (Rd c ρ) l vs->All2 (Rd c ρ) (A.u y) vs
def mV:PL Unit:=⟨fun | []=>some () | _=>none,fun _=>[]⟩
def iN {α β:Type} (A:PC α) (R:PL β):PL (α × β):=⟨fun
 | a :: r=>match A.p a,R.p r with
  | some x,some y=>some (x,y)
  | _,_=>none
 | _=>none,fun q=>A.u q.1 :: R.u q.2⟩
def IX {β:Type} (s:Sh) (R:PL β):PL (den s × β):=⟨fun l=>match dw s (l.take s.size),R.p (l.drop s.size) with
 | some x,some y=>some (x,y)
 | _,_=>none,fun q=>cellsOf s q.1++R.u q.2⟩
theorem eh:mV.OK:=fun l y h c ρ vs hv=>by cases l <;> simp only [mV] at h <;> first | exact hv | cases h
theorem dZ {α β:Type} {A:PC α} {R:PL β} (hA:A.OK) (hR:R.OK):(iN A R).OK:=fun l y h c ρ vs hv=>by
 cases l with
 | nil=>cases h
 | cons a r=>
  simp only [iN] at h
  split at h
  ·rename_i h1 h2
   cases h
   cases hv with
   | cons k1 k2=>exact .cons (hA _ _ h1 _ _ _ k1) (hR _ _ h2 _ _ _ k2)
  ·cases h
theorem Gi {β:Type} {s:Sh} {R:PL β} (hR:R.OK):(IX s R).OK:=fun l y h c ρ vs hv=>by
 simp only [IX] at h
 split at h
 ·rename_i h1 h2
  cases h
  have k1:=eA (ρ:=ρ) (aG h1 ((hv.take s.size).imp fun _ _ h=>Rd.qd h))
  have k2:=hR _ _ h2 _ _ _ (hv.drop s.size)
  have:=k1.append k2
  rwa [List.take_append_drop] at this
 ·cases h
def kC {α:Type} (A:PC α):PU α:=⟨fun | .c a=>A.p a | _=>none,fun y=>.c (A.u y)⟩
theorem aq {α:Type} {A:PC α} (hA:A.OK):(kC A).OK:=fun a y h=>by
 cases a with
 | c a=>exact fun c ρ v hv=>hA _ _ h c ρ v hv
 | agg l=>cases h
structure PT (α:Type) where
 p:List TV1->Option α
 u:α->List TV1
def PT.OK {α:Type} (A:PT α):Prop:=∀ l y,A.p l=some y->uS l (A.u y)
def aO:PT Unit:=⟨fun | []=>some () | _=>none,fun _=>[]⟩
def ai {α β:Type} (A:PU α) (R:PT β):PT (α × β):=⟨fun
 | a :: r=>match A.p a,R.p r with
  | some x,some y=>some (x,y)
  | _,_=>none
 | _=>none,fun q=>A.u q.1 :: R.u q.2⟩
theorem aj:aO.OK:=fun l y h=>by cases l <;> simp only [aO] at h <;> first | exact trivial | cases h
theorem ab {α β:Type} {A:PU α} {R:PT β} (hA:A.OK) (hR:R.OK):(ai A R).OK:=fun l y h=>by
 cases l with
 | nil=>cases h
 | cons a r=>
  simp only [ai] at h
  split at h
  ·rename_i h1 h2
   cases h
   exact ⟨hA _ _ h1,hR _ _ h2⟩
  ·cases h
structure PO (α:Type) where
 p:AO->Option α
 u:α->AO
def PO.OK {α:Type} (A:PO α):Prop:=∀ o y,A.p o=some y->∀ c ρ r,OR c ρ o r->OR c ρ (A.u y) r
def mU {α:Type} (t:TypeId) (R:PL α):PO α:=⟨fun | .box t' cs=>bif Nat.beq t' t then R.p cs else none | _=>none,fun y=>.box t (R.u y)⟩
def vQ (t:TypeId) (s:Sh):PO (List (den s)):=⟨fun | .row t' s' xs=>bif Nat.beq t' t then (if h:s' = s then some (h ▸ xs) else none) else none | _=>none,fun xs=>.row t s xs⟩
theorem ez {α:Type} {t:TypeId} {R:PL α} (hR:R.OK):(mU t R).OK:=fun o y h c ρ r hr=>by
 cases o <;> simp only [mU] at h <;> try cases h
 rename_i t' cs
 cases hb:Nat.beq t' t <;> rw [hb] at h
 ·cases h
 ·have:=Nat.eq_of_beq_eq_true hb
  subst this
  obtain ⟨g,vs,e,h1,h2⟩:=hr
  exact ⟨g,vs,e,h1,hR _ _ h _ _ _ h2⟩
theorem pf {t:TypeId} {s:Sh}:(vQ t s).OK:=fun o y h c ρ r hr=>by
 cases o <;> simp only [vQ] at h <;> try cases h
 rename_i t' s' xs
 cases hb:Nat.beq t' t <;> rw [hb] at h
 ·cases h
 ·have:=Nat.eq_of_beq_eq_true hb
  subst this
  simp only [cond_true] at h
  split at h
  ·rename_i e
   subst e
   cases h
   exact hr
  ·cases h
structure PH (α:Type) where
 p:AH->Option α
 u:α->AH
def PH.OK {α:Type} (A:PH α):Prop:=∀ H y,A.p H=some y->∀ c ρ ρ',All2 (OR c ρ) H ρ' -> All2 (OR c ρ) (A.u y) ρ'
def aP:PH Unit:=⟨fun | []=>some () | _=>none,fun _=>[]⟩
def eT {α β:Type} (A:PO α) (R:PH β):PH (α × β):=⟨fun
 | a :: r=>match A.p a,R.p r with
  | some x,some y=>some (x,y)
  | _,_=>none
 | _=>none,fun q=>A.u q.1 :: R.u q.2⟩
theorem ak:aP.OK:=fun l y h c ρ ρ' hr=>by cases l <;> simp only [aP] at h <;> first | exact hr | cases h
theorem cr {α β:Type} {A:PO α} {R:PH β} (hA:A.OK) (hR:R.OK):(eT A R).OK:=fun l y h c ρ ρ' hr=>by
 cases l with
 | nil=>cases h
 | cons a r=>
  simp only [eT] at h
  split at h
  ·rename_i h1 h2
   cases h
   cases hr with
   | cons k1 k2=>exact .cons (hA _ _ h1 _ _ _ k1) (hR _ _ h2 _ _ _ k2)
  ·cases h
theorem Sat.IV {P:Program} {shp:TypeId->Option Sh} {f:Nat} {aa bs:List TV1} {H H':AH} {r:SpecR} (h:Sat P shp f bs H' r) (hs:uS aa bs) (hH:∀ c ρ ρ',All2 (OR c ρ) H ρ' -> All2 (OR c ρ) H' ρ'):Sat P shp f aa H r:=
 ⟨h.1,fun G ρ w vs hg hR hv=>h.2 G ρ w vs hg ⟨hH _ _ _ hR.obj,hR.inj,hR.bnd,hR.z,hR.b0⟩ (hs.rd hv)⟩
section
variable {α β:Type} {P:Program} {shp:TypeId->Option Sh} {f:Nat}
def bM (A:PT α) (B:PH β) (r:α->β->SpecR):List TV1->AH->Option SpecR:=fun a H=>match A.p a,B.p H with
 | some x,some y=>some (r x y)
 | _,_=>none
def CE (P:Program) (shp:TypeId->Option Sh) (f:Nat) (k:List TV1->AH->Option SpecR):Prop:=∀ args H r,k args H=some r->(∀ p ∈ r.pre,p)->Sat P shp f args H r
theorem au {A:PT α} {B:PH β} {r:α->β->SpecR} (hA:A.OK) (hB:B.OK) (h:∀ x y,(∀ p ∈ (r x y).pre,p)->Sat P shp f (A.u x) (B.u y) (r x y)):CE P shp f (bM A B r):=fun args H R e hp=>by
 unfold bM at e
 split at e
 ·rename_i hx hy
  cases e
  exact (h _ _ hp).IV (hA _ _ hx) fun c ρ ρ' hr=>hB _ _ hy c ρ ρ' hr
 ·cases e
def bT (f:Nat) (k:List TV1->AH->Option SpecR) (O:cH):cH:=fun g a H=>bif Nat.beq f g then (match k a H with
 | some r=>some r
 | none=>O g a H) else O g a H
theorem av {k:List TV1->AH->Option SpecR} {O:cH} (hk:CE P shp f k) (hO:aT P shp O):aT P shp (bT f k O):=fun g args H r h hp=>by
 unfold bT at h
 cases hb:Nat.beq f g <;> rw [hb] at h
 ·exact hO g args H r h hp
 ·have:=Nat.eq_of_beq_eq_true hb
  subst this
  simp only [cond_true] at h
  split at h
  ·rename_i hkk
   cases h
   exact hk _ _ _ hkk hp
  ·exact hO f args H r h hp
def pR:cH:=fun _ _ _=>none
theorem fj:aT P shp pR:=fun _ _ _ _ h=>by cases h
theorem fH {p:Prop} {l:List Prop} (h:∀ q ∈ p :: l,q):p:=h _ (.head _)
theorem fb {p:Prop} {l:List Prop} (h:∀ q ∈ p :: l,q):∀ q ∈ l,q:=fun q hq=>h q (.tail _ hq)
end
theorem aI {O:cH} (hO:aT Try.prog (al aF) O) {f:Nat} {fn:Func} {args rs:List TV1} {H:AH} {pre:List Prop} (L:List (Nat × LI)) (hfn:Try.prog.funcs[f]? = some fn) (hng:(fn.name == "runtime.NumGoroutine")=false)
  (hc:(match fn.body with
   | some c=>cP fn.ntmps c && Nat.ble args.length fn.ntmps
   | none=>false)=true) (h:cD aF O L fn args H rs):Sat Try.prog (al aF) f args H ⟨pre,rs,none,false⟩:=Sat.FV jW hO (mw jW hO rE) hfn hng hc h
theorem qI {O:cH} (hO:aT Try.prog (al aF) O) {f:Nat} {fn:Func} {args rs:List TV1} {H H':AH} {pre:List Prop} (L:List (Nat × LI)) (hfn:Try.prog.funcs[f]? = some fn) (hng:(fn.name == "runtime.NumGoroutine")=false)
  (hc:(match fn.body with
   | some c=>cP fn.ntmps c && Nat.ble args.length fn.ntmps
   | none=>false)=true) (h:GK aF O L fn args H rs H'):Sat Try.prog (al aF) f args H ⟨pre,rs,some H',false⟩:=Sat.zy jW hO (mw jW hO rE) hfn hng hc h
theorem eR {O:cH} (hO:aT Try.prog (al aF) O) {f:Nat} {fn:Func} {args rs:List TV1} {H H':AH} {pre:List Prop} (L:List (Nat × LI)) (hfn:Try.prog.funcs[f]? = some fn) (hng:(fn.name == "runtime.NumGoroutine")=false)
  (hc:(match fn.body with
   | some c=>cP fn.ntmps c && Nat.ble args.length fn.ntmps
   | none=>false)=true) (h:tg aF O L fn args H rs H'):Sat Try.prog (al aF) f args H ⟨pre,rs,some H',true⟩:=Sat.zy jW hO (mw jW hO rE) hfn hng hc h
end Go.Proofs.Ytladifkbefehdaa
namespace Go.Proofs.Ytladifkbefehdaa
open Go.RowKit
def l_ {β:Type} (z:β) (k:Int):List (Int × β)->β
 | []=>z
 | p :: r=>if k=p.1 then p.2 else l_ z k r
end Go.Proofs.Ytladifkbefehdaa
namespace Go.Proofs.Ytladifkbefehdaa
open Go.RowKit
theorem ax {α:Type} {l:List α} {k:Nat} {x:α} (hx:l[k]? = some x):l.take (k+1)=l.take k++[x]:=by
 rw [List.take_add_one,hx]; rfl
end Go.Proofs.Ytladifkbefehdaa
namespace Go.Proofs.Ytladifkbefehdaa
open Go.RowKit
end Go.Proofs.Ytladifkbefehdaa
namespace Go.Proofs.Ytladifkbefehdaa
open Go.RowKit
def bt (n a b:Int):Bool:=decide (a<=n) && decide (n<=b)
def aD {α:Type} (key:α->Int) (most:Int):Int->List α->Bool
 | _,[]=>true
 | a,x :: r=>bt (key x) (a+1) most && aD key most (key x) r
def cM {α:Type} (key:α->Int) (a:Int) (l:List α):Int:=l.foldl (fun _ x=>key x) a
theorem ef {α:Type} {key:α->Int} {most:Int} {x:α}:∀ (p:List α) (a:Int),aD key most a (p++[x])=(aD key most a p && bt (key x) (cM key a p+1) most)
 | [],a=>by simp [aD,cM]
 | y :: p,a=>by
  rw [List.cons_append,aD,aD,ef p,Bool.and_assoc]; rfl
theorem gI {α:Type} {key:α->Int} {most:Int} (q:List α):∀ (p:List α) (a:Int),aD key most a (p++q)=true->aD key most a p=true
 | [],a,_=>rfl
 | y :: p,a,h=>by
  rw [List.cons_append,aD,Bool.and_eq_true] at h
  rw [aD,Bool.and_eq_true]
  exact ⟨h.1,gI q p _ h.2⟩
theorem mj {α:Type} {key:α->Int} {a:Int} {l:List α} {k:Nat} {x:α} (hx:l[k]? = some x):key x=cM key a (l.take (k+1)):=by
 rw [ax hx,cM,List.foldl_append]; rfl
theorem lF {α:Type} {key:α->Int} {a:Int} {l:List α} {k:Nat} {x:α} (h:0<k) (hx:l[k - 1]? = some x):cM key a (l.take k)=key x:=by
 obtain ⟨j,rfl⟩:∃ j,k=j+1:=⟨k - 1,by omega⟩
 exact (mj (by simpa using hx)).symm
theorem kA {α:Type} {key:α->Int} {most a:Int} {l:List α} {k:Nat} {x:α} (h:aD key most a (l.take k)=true) (hx:l[k]? = some x) (h1:cM key a (l.take k)<key x) (h2:key x<=most):aD key most a (l.take (k+1))=true:=by
 rw [ax hx,ef,h,Bool.true_and,bt,Bool.and_eq_true,decide_eq_true_eq,decide_eq_true_eq]
 exact ⟨by omega,h2⟩
theorem pH {α:Type} {key:α->Int} {most a:Int} {l:List α} {k:Nat} {x:α} (hx:l[k]? = some x) (h:¬ (cM key a (l.take k)<key x/\key x<=most)):aD key most a l=false:=by
 cases hr:aD key most a l with
 | false=>rfl
 | true=>
  have h1:=gI (l.drop (k+1)) (l.take (k+1)) a (by rw [List.take_append_drop]; exact hr)
  rw [ax hx,ef,Bool.and_eq_true,bt,Bool.and_eq_true,decide_eq_true_eq,decide_eq_true_eq] at h1
  exact absurd ⟨by omega,h1.2.2⟩ h
theorem kx {α:Type} {key:α->Int} {most a:Int} {l:List α} {k:Nat} (h:aD key most a (l.take k)=true) (hk:l.length<=k):aD key most a l=true:=by
 rwa [List.take_of_length_le hk] at h
def rowF (l:List Int):Bool:=(decide ((1:Int)<=((l.length:Nat):Int)) && decide (((l.length:Nat):Int)<=8)) && aD id 64 0 l
theorem gp {l:List Int} {k:Nat} {x:Int} (hx:l[k]? = some x) (h:¬ (cM id 0 (l.take k)<x/\x<=64)):false=rowF l:=by
 rw [rowF,pH (key:=id) hx h,Bool.and_false]
theorem jA {l:List Int} {k:Nat} (h:aD id 64 0 (l.take k)=true) (hk:l.length<=k):(decide ((1:Int)<=((l.length:Nat):Int)) && decide (((l.length:Nat):Int)<=8))=rowF l:=by
 rw [rowF,kx h hk,Bool.and_true]
theorem vx {l:List Int} {k:Nat} (h:aD id 64 0 (l.take k)=true):0<=cM id 0 (l.take k):=by
 by_cases hk:k=0
 ·subst hk; exact Int.le_refl _
 ·by_cases hl:k - 1<l.length
  ·have hx:=List.getElem?_eq_getElem hl
   rw [lF (by omega) hx]
   have e:l.take k=l.take (k - 1)++[l[k - 1]]:=by
    have:=ax hx
    rwa [show k - 1+1=k by omega] at this
   rw [e,ef,Bool.and_eq_true,bt,Bool.and_eq_true,decide_eq_true_eq] at h
   have h0:∀ (p:List Int) (a:Int),0<=a->aD id 64 a p=true->0<=cM id a p:=by
    intro p
    induction p with
    | nil=>intro a ha _; exact ha
    | cons y p ih=>
     intro a ha hp
     rw [aD,Bool.and_eq_true,bt,Bool.and_eq_true,decide_eq_true_eq] at hp
     exact ih (id y) (by omega) hp.2
   have:=h0 _ _ (Int.le_refl 0) h.1
   omega
  ·have h0:∀ (p:List Int) (a:Int),0<=a->aD id 64 a p=true->0<=cM id a p:=by
    intro p
    induction p with
    | nil=>intro a ha _; exact ha
    | cons y p ih=>
     intro a ha hp
     rw [aD,Bool.and_eq_true,bt,Bool.and_eq_true,decide_eq_true_eq] at hp
     exact ih (id y) (by omega) hp.2
   exact h0 _ _ (Int.le_refl 0) h
theorem gU {l:List Int} {k:Nat} (h:aD id 64 0 (l.take k)=true) (hk:l.length<=k) (hl:1<=l.length/\l.length<=8):true=rowF l:=by
 rw [rowF,kx h hk,Bool.and_true]; symm; rw [Bool.and_eq_true,decide_eq_true_eq,decide_eq_true_eq]; omega
theorem lS {l:List Int} (hl:¬ (1<=l.length/\l.length<=8)):false=rowF l:=by
 symm
 rw [rowF,Bool.and_eq_false_iff]; left
 rw [Bool.and_eq_false_iff,decide_eq_false_iff_not,decide_eq_false_iff_not]; omega
end Go.Proofs.Ytladifkbefehdaa
namespace Go.Proofs.Ytladifkbefehdaa
open Go.RowKit
end Go.Proofs.Ytladifkbefehdaa
namespace Go.Proofs.Ytladifkbefehdaa
open Go.RowKit
def aJ (n:Nat):Nat:=if h:n<128 then 1 else aJ (n / 128)+1
termination_by n
decreasing_by omega
theorem hU {n:Nat} (h:¬ n<128):aJ n=aJ (n / 128)+1:=by rw [aJ,dif_neg h]
theorem fx {n:Nat} (h:n<128):aJ n=1:=by rw [aJ,dif_pos h]
theorem eQ (n:Nat):1<=aJ n:=by rw [aJ]; split <;> omega
theorem pW:∀ (k n:Nat),n<128 ^ (k+1)->aJ n<=k+1
 | 0,n,h=>by rw [fx (by simpa using h)]; omega
 | k+1,n,h=>by
  by_cases hn:n<128
  ·rw [fx hn]; omega
  ·rw [hU hn]
   have:=pW k (n / 128) (by rw [Nat.div_lt_iff_lt_mul (by omega),<- Nat.pow_succ]; exact h)
   omega
theorem lZ {n:Nat} (h:n<18446744073709551616):aJ n<=10:=pW 9 n (Nat.lt_of_lt_of_le h (by decide))
def gG (n i:Nat):UInt8:=UInt8.ofNat (n / 128 ^ i) ||| 128
def cX (n k:Nat):List UInt8:=(List.range k).map (gG n)++List.replicate (aJ n - k) 0
def bb (n:Nat):List UInt8:=(cX n (aJ n)).set (aJ n - 1) (gG n (aJ n - 1) &&& 127)
theorem eG {n k:Nat} (h:k<=aJ n):(cX n k).length=aJ n:=by simp [cX]; omega
theorem ry {n k:Nat} (h:k<aJ n):(cX n k).set k (gG n k)=cX n (k+1):=by
 unfold cX
 rw [List.set_append_right _ _ (by simp),List.range_succ,List.map_append,List.append_assoc]
 congr 1
 obtain ⟨j,hj⟩:∃ j,aJ n - k=j+1:=⟨aJ n - k - 1,by omega⟩
 rw [hj,show aJ n - (k+1)=j by omega]
 simp [List.replicate_succ]
theorem h_ (n:Nat):List.replicate (aJ n) (0:UInt8)=cX n 0:=by simp [cX]
theorem rD {n:Nat} {x:UInt8} (h:(cX n (aJ n))[aJ n - 1]? = some x):x=gG n (aJ n - 1):=by
 have hp:=eQ n
 unfold cX at h
 rw [List.getElem?_append_left (by simp; omega)] at h
 simp only [List.getElem?_map,List.getElem?_range (show aJ n - 1<aJ n by omega),Option.map_some,Option.some.injEq] at h
 exact h.symm
theorem div_pow {n k:Nat}:n / 128 ^ k / 2 ^ 7=n / 128 ^ (k+1):=by show n / 128 ^ k / 128=_; rw [Nat.div_div_eq_div_mul,Nat.pow_succ]
theorem xq (n:Nat):(bb n).length=aJ n:=by rw [bb,List.length_set,eG (Nat.le_refl _)]
theorem bN {n:Nat} (h:n<18446744073709551616):(bb n).length<=10:=by rw [xq]; exact lZ h
def cm (l:List Int):List UInt8:=l.flatMap fun x=>bb x.toNat
theorem dN {l:List Int} {k:Nat} {x:Int} (hx:l[k]? = some x):cm (l.take k)++bb x.toNat=cm (l.take (k+1)):=by
 rw [ax hx]; simp [cm]
theorem xp {l:List Int} (h:∀ x ∈ l,x<=64):(cm l).length<=10*l.length:=by
 induction l with
 | nil=>simp [cm]
 | cons a l ih=>
  have h1:=ih fun x hx=>h x (List.mem_cons_of_mem _ hx)
  have h2:=bN (n:=a.toNat) (by have:=h a (by simp); omega)
  simp only [cm,List.flatMap_cons,List.length_append,List.length_cons] at *
  omega
theorem gS {l:List Int} (h:rowF l=true):∀ x ∈ l,0<x/\x<=64:=by
 rw [rowF,Bool.and_eq_true] at h
 have:∀ (l:List Int) (a:Int),0<=a->aD id 64 a l=true->∀ x ∈ l,0<x/\x<=64:=by
  intro l
  induction l with
  | nil=>intro a _ _ x hx; cases hx
  | cons y l ih=>
   intro a ha hl x hx
   rw [aD,Bool.and_eq_true,bt,Bool.and_eq_true,decide_eq_true_eq,decide_eq_true_eq] at hl
   have h1:a+1<=y:=hl.1.1
   have h2:y<=64:=hl.1.2
   rcases List.mem_cons.1 hx with rfl | hx
   ·omega
   ·exact ih (id y) (by show 0<=y; omega) hl.2 x hx
 exact this l 0 (by omega) h.2
theorem Bf {l:List Int} (h:rowF l=true):1<=l.length/\l.length<=8:=by
 rw [rowF,Bool.and_eq_true,Bool.and_eq_true,decide_eq_true_eq,decide_eq_true_eq] at h
 omega
def aW (l:List Int):List UInt8:=if rowF l then cm l else []
def bH (l:List Int):Int:=if rowF l then 0 else 1
theorem eY {l:List Int} {k:Nat} (hr:rowF l=true) (hk:l.length<=k):cm (l.take k)=aW l:=by rw [List.take_of_length_le hk,aW,if_pos hr]
theorem cw {l:List Int} (hr:rowF l=false):[]=aW l:=by rw [aW,hr]; rfl
theorem cW {l:List Int} (hr:rowF l=true):0=bH l:=by rw [bH,hr]; rfl
theorem du {l:List Int} (hr:rowF l=false):1=bH l:=by rw [bH,hr]; rfl
end Go.Proofs.Ytladifkbefehdaa
namespace Go.Proofs.Ytladifkbefehdaa
open Go.RowKit
end Go.Proofs.Ytladifkbefehdaa
namespace Go.Proofs.Ytladifkbefehdaa
open Go.RowKit
end Go.Proofs.Ytladifkbefehdaa
namespace Go.Proofs.Ytladifkbefehdaa
open Go.RowKit
end Go.Proofs.Ytladifkbefehdaa
namespace Go.Proofs.Ytladifkbefehdaa
open Go.RowKit
end Go.Proofs.Ytladifkbefehdaa
namespace Go.Proofs.Ytladifkbefehdaa
open Go.RowKit
def aL (k:Int):Int:=l_ 0 k [((1:Int),(1:Int)),((2:Int),(1:Int)),((3:Int),(1:Int)),((4:Int),(1:Int)),((5:Int),(1:Int)),((6:Int),(1:Int)),((7:Int),(1:Int)),((8:Int),(1:Int)),((9:Int),(2:Int)),((10:Int),(2:Int)),((11:Int),(3:Int)),((12:Int),(3:Int))]
theorem Af {k:Int} (h:1<=k/\k<=12):aL k=if k<=8 then 1 else if k<=10 then 2 else 3:=by
 have:k=1\/k=2\/k=3\/k=4\/k=5\/k=6\/k=7\/k=8\/k=9\/k=10\/k=11\/k=12:=by omega
 rcases this with rfl | rfl | rfl | rfl | rfl | rfl | rfl | rfl | rfl | rfl | rfl | rfl <;> rfl
theorem tI {k:Int} (h:¬ (1<=k/\k<=12)):aL k=0:=by
 unfold aL
 simp only [l_]
 repeat rw [if_neg (by omega)]
theorem CQ {n a b:Int} (h:bt n a b=true):a<=n/\n<=b:=by unfold bt at h; rw [Bool.and_eq_true,decide_eq_true_eq,decide_eq_true_eq] at h; exact h
theorem Kb {n a b:Int} (h:bt n a b=false):¬ (a<=n/\n<=b):=fun h2=>by
 have:bt n a b=true:=by unfold bt; rw [Bool.and_eq_true,decide_eq_true_eq,decide_eq_true_eq]; exact h2
 rw [h] at this; cases this
def eW (x:Int) (l:List Int):Int:=match l.findIdx? (fun y=>decide (x=y)) with | some i=>(i:Int) | none=>-1
theorem wS {x y:Int} {l:List Int} {k:Nat} (h:∀ j y,j<k->l[j]? = some y->¬ x=y) (hy:l[k]? = some y) (hxy:x=y):(k:Int)=eW x l:=by
 have:l.findIdx? (fun y=>decide (x=y))=some k:=by
  obtain ⟨hk,rfl⟩:=List.getElem?_eq_some_iff.1 hy
  rw [List.findIdx?_eq_some_iff_getElem]
  exact ⟨hk,decide_eq_true hxy,fun j hj=>by simpa using h j _ hj (List.getElem?_eq_getElem (by omega))⟩
 simp [eW,this]
theorem sf (x:Int) (l:List Int):decide (0<=eW x l)=l.contains x:=by
 unfold eW
 cases h:l.findIdx? (fun y=>decide (x=y)) with
 | none=>
  rw [List.findIdx?_eq_none_iff] at h
  have:l.contains x=false:=by
   rw [<- Bool.not_eq_true,List.contains_iff_mem]
   intro hm; have:=h x hm; simp at this
  rw [this]; rfl
 | some i=>
  rw [List.findIdx?_eq_some_iff_getElem] at h
  obtain ⟨hi,hp,_⟩:=h
  have:l.contains x=true:=by
   rw [List.contains_iff_mem,of_decide_eq_true hp]; exact List.getElem_mem hi
  rw [this]; simp
def gC (n most:Int) (named:Bool):Bool:=if named then (decide (1<=n) && decide (n<=most)) else decide (n=0)
def fP (k:Int):Int × Int:=l_ (0,0) k [((6:Int),((0:Int),(8:Int))),((8:Int),((2:Int),(3:Int))),((12:Int),((0:Int),(64:Int)))]
def sR (c:Command):Bool:=if c.kind=3 then rowF c.chunks else decide (((c.chunks.length:Nat):Int)=0)
def IE (c:Command):Bool:=if c.kind=11 then decide (((c.text.b.length:Nat):Int)<=16) else decide (c.text=⟨[]⟩)
def dE (c:Command):Bool:=((((((((decide ((fP c.kind).1<=c.n) && decide (c.n<=(fP c.kind).2)) && sR c) && IE c) && gC c.client 8 (!([(8:Int)].contains c.kind))) && gC c.seq 1048576 (!([(1:Int),8].contains c.kind))) && gC c.set 8 ([(2:Int),3,4].contains c.kind)) && gC c.id 1048576 ([(5:Int),7,9,10,11].contains c.kind)))
def bJ (c:Command) (v:Int):Int:=if !(bt v 1 3) || decide (aL c.kind=0) then 1 else if v<aL c.kind then 10 else if !dE c then 1 else 0
end Go.Proofs.Ytladifkbefehdaa
namespace Go.Proofs.Ytladifkbefehdaa
open Go.RowKit
def Dk (n:Int) (used:Bool) (lo hi:Int):Bool:=if used then (decide (lo<=n) && decide (n<=hi)) else decide (n=0)
def iR (k:Int):Int × Int:=(if k=8 then 2 else 0,if k=8 then 3 else if k=12 then 64 else 8)
theorem sP {s:Str}:decide (((s.b.length:Nat):Int)=0)=decide (s=⟨[]⟩):=by
 cases s with | mk b=>
 cases b with
 | nil=>simp
 | cons a t=>rw [Bool.eq_iff_iff]; simp; omega
theorem pN {k:Int}:(!decide (k=8))=(!([(8:Int)].contains k)):=by
 rw [Bool.eq_iff_iff]; simp
theorem vU {k:Int}:(!decide (k=8) && !decide (k=1))=(!([(1:Int),8].contains k)):=by
 rw [Bool.eq_iff_iff]; simp; omega
theorem zH {k:Int}:(decide (2<=k) && decide (k<=4))=([(2:Int),3,4].contains k):=by
 rw [Bool.eq_iff_iff]; simp; omega
theorem BK {k:Int}:((decide (k=5) || decide (k=7)) || (decide (9<=k) && decide (k<=11)))=([(5:Int),7,9,10,11].contains k):=by
 rw [Bool.eq_iff_iff]; simp; omega
theorem Eo {k n:Int}:Dk n ((decide (k=6) || decide (k=8)) || decide (k=12)) (iR k).1 (iR k).2=(decide ((fP k).1<=n) && decide (n<=(fP k).2)):=by
 by_cases h6:k=6
 ·subst h6; rfl
 by_cases h8:k=8
 ·subst h8; rfl
 by_cases h12:k=12
 ·subst h12; rfl
 have e:fP k=(0,0):=by simp [fP,l_,h6,h8,h12]
 rw [e,Bool.eq_iff_iff]
 simp [Dk,h6,h8,h12]
 omega
theorem Fo {c:Command}:(decide (((c.text.b.length:Nat):Int)=0) || (decide (c.kind=11) && decide (((c.text.b.length:Nat):Int)<=16)))=IE c:=by
 unfold IE
 by_cases h:c.kind=11
 ·rw [if_pos h,Bool.eq_iff_iff]; simp only [Bool.or_eq_true,Bool.and_eq_true,decide_eq_true_eq,h,true_and]; omega
 ·rw [if_neg h,sP]; simp [h]
theorem Jw {n m:Int} {u:Bool}:Dk n u 1 m=gC n m u:=rfl
theorem vW {c:Command} :
  ((((((Dk c.client (!decide (c.kind=8)) 1 8 && Dk c.seq (!decide (c.kind=8) && !decide (c.kind=1)) 1 1048576) && Dk c.set (decide (2<=c.kind) && decide (c.kind<=4)) 1 8) &&
   Dk c.id ((decide (c.kind=5) || decide (c.kind=7)) || (decide (9<=c.kind) && decide (c.kind<=11))) 1 1048576) &&
   Dk c.n ((decide (c.kind=6) || decide (c.kind=8)) || decide (c.kind=12)) (iR c.kind).1 (iR c.kind).2) && sR c) &&
   (decide (((c.text.b.length:Nat):Int)=0) || (decide (c.kind=11) && decide (((c.text.b.length:Nat):Int)<=16))))=dE c:=by
 rw [vU,pN,zH,BK,Eo,Fo]
 unfold dE
 simp only [Jw]
 ac_rfl
theorem HW {c:Command} {v:Int} (h:(!(bt v 1 3) || decide (aL c.kind=0))=true):1=bJ c v:=by rw [bJ,if_pos h]
theorem EK {c:Command} {v:Int} (h:(!(bt v 1 3) || decide (aL c.kind=0))=false) (h2:v<aL c.kind):10=bJ c v:=by rw [bJ,h,if_neg (by decide),if_pos h2]
theorem EN {c:Command} {v:Int} (h:(!(bt v 1 3) || decide (aL c.kind=0))=false) (h2:¬ v<aL c.kind) (h3:(!dE c)=true):1=bJ c v:=by rw [bJ,h,if_neg (by decide),if_neg h2,if_pos h3]
theorem HF {c:Command} {v:Int} (h:(!(bt v 1 3) || decide (aL c.kind=0))=false) (h2:¬ v<aL c.kind) (h3:(!dE c)=false):0=bJ c v:=by rw [bJ,h,if_neg (by decide),if_neg h2,h3,if_neg (by decide)]
end Go.Proofs.Ytladifkbefehdaa
namespace Go.Proofs.Ytladifkbefehdaa
open Go.RowKit
def km (c:Command):Bool:=(((bt c.client 0 1048576 && bt c.seq 0 1048576) && bt c.set 0 1048576) && bt c.id 0 1048576) && bt c.n 0 1048576
def b_ (c:Command) (v:Int):Bool:=(((bt c.kind 1 99 && (decide (aL c.kind=0) || decide (v<aL c.kind))) && km c) && (decide (((c.chunks.length:Nat):Int)=0) || rowF c.chunks)) && (decide (((c.text.b.length:Nat):Int)=0) || (decide (3<=v) && decide (((c.text.b.length:Nat):Int)<=16)))
theorem mD {c:Command} {v:Int} (h:((c.kind<1\/99<c.kind)\/(¬ aL c.kind=0/\aL c.kind<=v))):false=b_ c v:=by
 have:(bt c.kind 1 99 && (decide (aL c.kind=0) || decide (v<aL c.kind)))=false:=by
  rw [<- Bool.not_eq_true]; simp only [bt,Bool.and_eq_true,Bool.or_eq_true,decide_eq_true_eq]; omega
 unfold b_; rw [this]; rfl
theorem BC {c:Command} {v:Int} (h:(c.client<0\/1048576<c.client)\/(c.seq<0\/1048576<c.seq)\/(c.set<0\/1048576<c.set)\/(c.id<0\/1048576<c.id)\/(c.n<0\/1048576<c.n)):false=b_ c v:=by
 have:km c=false:=by
  rw [<- Bool.not_eq_true]; unfold km; simp only [bt,Bool.and_eq_true,decide_eq_true_eq]; omega
 unfold b_; rw [this,Bool.and_false]; rfl
theorem pe {c:Command} {v:Int} (h:0<((c.chunks.length:Nat):Int)/\rowF c.chunks=false):false=b_ c v:=by
 have:(decide (((c.chunks.length:Nat):Int)=0) || rowF c.chunks)=false:=by
  rw [h.2,Bool.or_false]; exact decide_eq_false (by omega)
 unfold b_; rw [this,Bool.and_false]; rfl
theorem ug {c:Command} {v:Int} (h1:¬ ((c.kind<1\/99<c.kind)\/(¬ aL c.kind=0/\aL c.kind<=v))) (h2:¬ ((c.client<0\/1048576<c.client)\/(c.seq<0\/1048576<c.seq)\/(c.set<0\/1048576<c.set)\/(c.id<0\/1048576<c.id)\/(c.n<0\/1048576<c.n)))
  (h3:(¬ (0<((c.chunks.length:Nat):Int)))\/rowF c.chunks=true):b_ c v=(decide (((c.text.b.length:Nat):Int)=0) || (decide (3<=v) && decide (((c.text.b.length:Nat):Int)<=16))):=by
 have e1:(bt c.kind 1 99 && (decide (aL c.kind=0) || decide (v<aL c.kind)))=true:=by
  simp only [bt,Bool.and_eq_true,Bool.or_eq_true,decide_eq_true_eq]; omega
 have e2:km c=true:=by unfold km; simp only [bt,Bool.and_eq_true,decide_eq_true_eq]; omega
 have e3:(decide (((c.chunks.length:Nat):Int)=0) || rowF c.chunks)=true:=by
  rcases h3 with h3 | h3
  ·rw [decide_eq_true (show ((c.chunks.length:Nat):Int)=0 by omega)]; rfl
  ·rw [h3,Bool.or_true]
 unfold b_; rw [e1,e2,e3]; rfl
theorem rX {c:Command} {v:Int} (h1:¬ ((c.kind<1\/99<c.kind)\/(¬ aL c.kind=0/\aL c.kind<=v))) (h2:¬ ((c.client<0\/1048576<c.client)\/(c.seq<0\/1048576<c.seq)\/(c.set<0\/1048576<c.set)\/(c.id<0\/1048576<c.id)\/(c.n<0\/1048576<c.n)))
  (h3:(¬ (0<((c.chunks.length:Nat):Int)))\/rowF c.chunks=true) (h4:v<3):decide (c.text=⟨[]⟩)=b_ c v:=by
 rw [ug h1 h2 h3,sP,decide_eq_false (show ¬ (3:Int)<=v by omega)]; simp
theorem r_ {c:Command} {v:Int} (h1:¬ ((c.kind<1\/99<c.kind)\/(¬ aL c.kind=0/\aL c.kind<=v))) (h2:¬ ((c.client<0\/1048576<c.client)\/(c.seq<0\/1048576<c.seq)\/(c.set<0\/1048576<c.set)\/(c.id<0\/1048576<c.id)\/(c.n<0\/1048576<c.n)))
  (h3:(¬ (0<((c.chunks.length:Nat):Int)))\/rowF c.chunks=true) (h4:¬ v<3):decide (((c.text.b.length:Nat):Int)<=16)=b_ c v:=by
 rw [ug h1 h2 h3,Bool.eq_iff_iff]; simp only [Bool.or_eq_true,Bool.and_eq_true,decide_eq_true_eq]; omega
end Go.Proofs.Ytladifkbefehdaa
namespace Go.Proofs.Ytladifkbefehdaa
open Go.RowKit
def br (k:Int):Bool:=decide (1<=k) && decide (k<=3)
theorem HY {α:Type} {a b:List α} {k:Nat} {d:α} (h:a.take k=b.take k) (ha:k<a.length) (hb:k<b.length) (e:a.getD k d=b.getD k d):a.take (k+1)=b.take (k+1):=by
 have h1:a[k]? = some (a.getD k d):=by rw [List.getD_eq_getElem?_getD,List.getElem?_eq_getElem ha]; rfl
 have h2:b[k]? = some (b.getD k d):=by rw [List.getD_eq_getElem?_getD,List.getElem?_eq_getElem hb]; rfl
 rw [ax h1,ax h2,h,e]
theorem ET {l:List Int} {k:Nat} {x:Int} (hx:l[k]? = some x):x=cM id 0 (l.take (k+1)):=mj (key:=id) hx
theorem wZ {l:List Int} {k:Nat} {x:Int} (h:aD id 64 0 (l.take k)=true) (hx:l[k]? = some x) (h1:cM id 0 (l.take k)<x) (h2:x<=64):aD id 64 0 (l.take (k+1))=true:=kA (key:=id) h hx (by dsimp only [id]; omega) (by dsimp only [id]; omega)
def HI (l:List Int):List (Nat × LI):=[(5,{ σ:=Nat,F:=fun k=>([(3,one (.int (cM id 0 (l.take k)))),(14,one (.fz .int (l))),(15,one (.int (l).length)),(16,one (.int k))],[]),J:=fun k=>k<=l.length/\aD id 64 0 (l.take k)=true/\1<=l.length/\l.length<=8,μ:=fun k=>(l).length - k })]
def CU (a:List Int) (b:List Int):List (Nat × LI):=[(4,{ σ:=Nat,F:=fun k=>([(0,one (.fz .int (a))),(1,one (.fz .int (b))),(5,one (.int k))],[]),J:=fun k=>k<=a.length/\a.length=b.length/\a.take k=b.take k,μ:=fun k=>a.length - k })]
theorem AT (k:Int) (r0:Bool):cD aF pR [] Try.f17 [.c (.int (k))] [] [.c (.bool (.atom (r0)))]=(I64 k->(decide ((1:Int)<=k) && decide (k<=(3:Int)))=r0):=by kernel_rfl
theorem AK (k:Int):Sat Try.prog (al aF) 17 [.c (.int (k))] [] ⟨[],[.c (.bool (.atom ((br k))))],none,false⟩:=by
 refine aI fj [] Try.func17 (by decide) (by kernel_rfl) ?_
 rw [AT]
 grind [br]
theorem Hy (l:List Int) (r0:Bool):cD aF pR (HI l) Try.f57 [.c (.fz .int (l))] [] [.c (.bool (.atom (r0)))]=((fun (q3:Int)=>(fun (q2:Int)=>(fun (q1:Nat)=>(fun (q0:Prop)=>l.length*(8:Nat)<=(140737488355328:Nat)->(q3<(1:Int)\/(8:Int)<q3->false=r0)/\((1:Int)<=q3/\q3<=(8:Int)->∃ (s0:Nat),(q2=cM id q2 (List.take s0 l)/\l=l/\q3=(↑q1:Int)/\q2=(↑s0:Int))/\(s0<=q1/\aD id (64:Int) q2 (List.take s0 l)=true/\q0)/\∀ (s:Nat),s<=q1/\aD id (64:Int) q2 (List.take s l)=true/\q0->((↑s:Int)<(↑q1:Int)->q2<=(↑s:Int)/\(↑s:Int)<q3/\∀ (x:Int),l[s]? = some x->I64 x->(x<=cM id q2 (List.take s l)\/(64:Int)<x->false=r0)/\(cM id q2 (List.take s l)<x/\x<=(64:Int)->I64 ((↑s:Int)+(1:Int))/\∃ (s':Nat),(x=cM id q2 (List.take s' l)/\l=l/\(↑q1:Int)=(↑q1:Int)/\(↑s:Int)+(1:Int)=(↑s':Int))/\(s' <= q1/\aD id (64:Int) q2 (List.take s' l)=true/\q0)/\q1 - s' < q1 - s))/\((↑q1:Int)<=(↑s:Int)->true=r0))) ((1:Nat)<=q1/\q1<=(8:Nat))) l.length) (0:Int)) (↑l.length:Int)):=by kernel_rfl
theorem HS (l:List Int):Sat Try.prog (al aF) 57 [.c (.fz .int (l))] [] ⟨[],[.c (.bool (.atom ((rowF l))))],none,false⟩:=by
 refine aI fj (HI l) Try.func57 (by decide) (by kernel_rfl) ?_
 rw [Hy]
 (repeat' (first | refine And.intro ?_ ?_ | intro))
 all_goals try (grind [lS,gp,gU,ET,wZ,aD,cM])
 all_goals (refine ⟨0,?_⟩; (repeat' (first | refine And.intro ?_ ?_ | intro)))
 all_goals try (grind [lS,gp,gU,ET,wZ,aD,cM])
 all_goals (refine ⟨‹Nat› + 1,?_⟩; (repeat' (first | refine And.intro ?_ ?_ | intro)))
 all_goals grind [lS,gp,gU,ET,wZ,aD,cM]
theorem FR (a:List Int) (b:List Int) (r0:Bool):cD aF pR (CU a b) Try.f31 [.c (.fz .int (a)),.c (.fz .int (b))] [] [.c (.bool (.atom (r0)))]=((fun (q1:Nat)=>(fun (q0:Int)=>a.length*(8:Nat)<=(140737488355328:Nat)->b.length*(8:Nat)<=(140737488355328:Nat)->(¬q0=(↑b.length:Int)->false=r0)/\(q0=(↑b.length:Int)->∃ (s0:Nat),(a=a/\b=b/\(0:Int)=(↑s0:Int))/\(s0<=q1/\q1=b.length/\List.take s0 a=List.take s0 b)/\∀ (s:Nat),(fun (q2:Prop)=>s<=q1/\q1=b.length/\List.take s a=List.take s b->((↑s:Int)<q0->(0:Int)<=(↑s:Int)/\(↑s:Int)<q0/\(0:Int)<=(↑s:Int)/\(↑s:Int)<(↑b.length:Int)/\(I64 (a.getD s (dflt Sh.int))->I64 (b.getD s (dflt Sh.int))->(¬q2->false=r0)/\(q2->I64 ((↑s:Int)+(1:Int))/\∃ (s':Nat),(a=a/\b=b/\(↑s:Int)+(1:Int)=(↑s':Int))/\(s' <= q1/\q1=b.length/\List.take s' a=List.take s' b)/\q1 - s' < q1 - s)))/\(q0<=(↑s:Int)->true=r0)) (a.getD s (dflt Sh.int)=b.getD s (dflt Sh.int)))) (↑a.length:Int)) a.length):=by kernel_rfl
theorem Gb (a:List Int) (b:List Int):Sat Try.prog (al aF) 31 [.c (.fz .int (a)),.c (.fz .int (b))] [] ⟨[],[.c (.bool (.atom ((decide (a=b)))))],none,false⟩:=by
 refine aI fj (CU a b) Try.func31 (by decide) (by kernel_rfl) ?_
 rw [FR]
 (repeat' (first | refine And.intro ?_ ?_ | intro))
 all_goals try (grind [ax])
 all_goals (refine ⟨0,?_⟩; (repeat' (first | refine And.intro ?_ ?_ | intro)))
 all_goals try (grind [ax])
 all_goals (refine ⟨‹Nat› + 1,?_⟩; (repeat' (first | refine And.intro ?_ ?_ | intro)))
 all_goals first | exact HY (by grind) (by omega) (by omega) (by with_reducible assumption) | grind
theorem Fk (x:Int) (r0:Int):cD aF pR [] Try.f16 [.c (.int (x))] [] [.c (.int (r0))]=((fun (q0:Option (den Sh.int))=>I64 x->((fun (j:Int)=>if j=(12:Int) then some (3:Int) else (fun (j:Int)=>if j=(11:Int) then some (3:Int) else (fun (j:Int)=>if j=(10:Int) then some (2:Int) else (fun (j:Int)=>if j=(9:Int) then some (2:Int) else (fun (j:Int)=>if j=(8:Int) then q0 else (fun (j:Int)=>if j=(7:Int) then q0 else (fun (j:Int)=>if j=(6:Int) then q0 else (fun (j:Int)=>if j=(5:Int) then q0 else (fun (j:Int)=>if j=(4:Int) then q0 else (fun (j:Int)=>if j=(3:Int) then q0 else (fun (j:Int)=>if j=(2:Int) then q0 else (fun (j:Int)=>if j=(1:Int) then q0 else (fun (_:Int)=>none) j) j) j) j) j) j) j) j) j) j) j) j) x).getD (dflt Sh.int)=r0) (some (1:Int))):=by kernel_rfl
theorem D_ (x:Int):Sat Try.prog (al aF) 16 [.c (.int (x))] [] ⟨[],[.c (.int ((aL x)))],none,false⟩:=by
 refine aI fj [] Try.func16 (by decide) (by kernel_rfl) ?_
 rw [Fk]
 intro _
 simp only [aL,l_]
 by_cases h:1<=x/\x<=12
 ·have h2:x=1\/x=2\/x=3\/x=4\/x=5\/x=6\/x=7\/x=8\/x=9\/x=10\/x=11\/x=12:=by omega
  rcases h2 with rfl | rfl | rfl | rfl | rfl | rfl | rfl | rfl | rfl | rfl | rfl | rfl <;> rfl
 ·have h1:¬ x=1:=by omega
  have h2:¬ x=2:=by omega
  have h3:¬ x=3:=by omega
  have h4:¬ x=4:=by omega
  have h5:¬ x=5:=by omega
  have h6:¬ x=6:=by omega
  have h7:¬ x=7:=by omega
  have h8:¬ x=8:=by omega
  have h9:¬ x=9:=by omega
  have h10:¬ x=10:=by omega
  have h11:¬ x=11:=by omega
  have h12:¬ x=12:=by omega
  simp [h1,h2,h3,h4,h5,h6,h7,h8,h9,h10,h11,h12,dflt]
theorem HQ (s:Span) (k:Int) (r0:Bool):cD aF pR [] Try.f78 [.agg (cellsOf (.nm .span) s),.c (.int (k))] [] [.c (.bool (.atom (r0)))]=(I64 s.lo->I64 s.hi->I64 k->(decide (s.lo<=k) && decide (k<=s.hi))=r0):=by kernel_rfl
theorem HO (s:Span) (k:Int):Sat Try.prog (al aF) 78 [.agg (cellsOf (.nm .span) s),.c (.int (k))] [] ⟨[],[.c (.bool (.atom ((decide (s.lo<=k) && decide (k<=s.hi)))))],none,false⟩:=by
 refine aI fj [] Try.func78 (by decide) (by kernel_rfl) ?_
 rw [HQ]
 grind
theorem Ia (n:Int) (a:Int) (b:Int) (r0:Bool):cD aF pR [] Try.f24 [.c (.int (n)),.c (.int (a)),.c (.int (b))] [] [.c (.bool (.atom (r0)))]=(I64 n->I64 a->I64 b->(decide (a<=n) && decide (n<=b))=r0):=by kernel_rfl
theorem HX (n:Int) (a:Int) (b:Int):Sat Try.prog (al aF) 24 [.c (.int (n)),.c (.int (a)),.c (.int (b))] [] ⟨[],[.c (.bool (.atom ((bt n a b))))],none,false⟩:=by
 refine aI fj [] Try.func24 (by decide) (by kernel_rfl) ?_
 rw [Ia]
 grind [bt]
def Im:cH:=(bT 24 (bM (ai (kC cI) (ai (kC cI) (ai (kC cI) aO))) aP fun (n,a,b,_) (_)=>⟨[],[.c (.bool (.atom ((bt n a b))))],none,false⟩) (bT 78 (bM (ai (kT (.nm .span)) (ai (kC cI) aO)) aP fun (s,k,_) (_)=>⟨[],[.c (.bool (.atom ((decide (s.lo<=k) && decide (k<=s.hi)))))],none,false⟩) (bT 16 (bM (ai (kC cI) aO) aP fun (x,_) (_)=>⟨[],[.c (.int ((aL x)))],none,false⟩) (bT 31 (bM (ai (kC (cL .int)) (ai (kC (cL .int)) aO)) aP fun (a,b,_) (_)=>⟨[],[.c (.bool (.atom ((decide (a=b)))))],none,false⟩) (bT 57 (bM (ai (kC (cL .int)) aO) aP fun (l,_) (_)=>⟨[],[.c (.bool (.atom ((rowF l))))],none,false⟩) (bT 17 (bM (ai (kC cI) aO) aP fun (k,_) (_)=>⟨[],[.c (.bool (.atom ((br k))))],none,false⟩) pR))))))
theorem Bi:aT Try.prog (al aF) Im:=(av (au (ab (aq aK) (ab (aq aK) (ab (aq aK) aj))) ak fun (n,a,b,_) (_) _=>HX n a b ) (av (au (ab ck (ab (aq aK) aj)) ak fun (s,k,_) (_) _=>HO s k ) (av (au (ab (aq aK) aj) ak fun (x,_) (_) _=>D_ x ) (av (au (ab (aq bf) (ab (aq bf) aj)) ak fun (a,b,_) (_) _=>Gb a b ) (av (au (ab (aq bf) aj) ak fun (l,_) (_) _=>HS l ) (av (au (ab (aq aK) aj) ak fun (k,_) (_) _=>AK k ) fj))))))
end Go.Proofs.Ytladifkbefehdaa
namespace Go.Proofs.Ytladifkbefehdaa
open Go.RowKit
theorem ag {n:Int} (h1:-9223372036854775808<=n) (h2:n<=9223372036854775807):I64 n:=⟨h1,h2⟩
section
variable {α:Type} {key:α->Int} {want:Int} {l:List α} {k:Nat} {x:α}
end
def Gq:cH:=Im
theorem tq:aT Try.prog (al aF) Gq:=Bi
end Go.Proofs.Ytladifkbefehdaa
namespace Go.Proofs.Ytladifkbefehdaa
open Go.RowKit
theorem Cr {n r m:Nat} (h:aJ n+1=aJ r+m) (hr:128<=r):aJ n+1=aJ (r / 128)+(m+1):=by
 have:=hU (n:=r) (by omega); omega
theorem AZ {n r m:Nat} (h:aJ n+1=aJ r+m) (hn:n<18446744073709551616):m<=10:=by
 have:=lZ hn; have:=eQ r; omega
theorem wU {n r m:Nat} (h:aJ n+1=aJ r+m) (hr:r<128):m=aJ n:=by
 have:=fx hr; omega
section
variable {α:Type} {key:α->Int} {most:Int} {l:List α} {k:Nat} {x:α}
variable {p:α->Bool}
end
def Da (n:U64):List (Nat × LI):=[(2,{ σ:=Nat × Nat,F:=fun s=>([(0,one (.u64 s.1)),(3,one (.int s.2))],[]),J:=fun s=>s.1<18446744073709551616/\aJ n.n+1=aJ s.1+s.2,μ:=fun s=>s.1 })]
theorem Ga (n:U64) (r0:Int):cD aF Gq (Da n) Try.f88 [.c (.u64 (n).n)] [] [.c (.int (r0))]=((fun (q0:Nat)=>n.n<(18446744073709551616:Nat)->∃ (s0:Nat × Nat),(n.n=s0.fst/\(1:Int)=(↑s0.snd:Int))/\(s0.fst<(18446744073709551616:Nat)/\q0=aJ s0.fst+s0.snd)/\∀ (s:Nat × Nat),s.fst<(18446744073709551616:Nat)/\q0=aJ s.fst+s.snd->((↑(128:Nat):Int)<=(↑s.fst:Int)->(7:Nat)<(64:Nat)/\I64 ((↑s.snd:Int)+(1:Int))/\∃ (s':Nat × Nat),(s.fst / (2:Nat) ^ (7:Nat)=s'.fst/\(↑s.snd:Int)+(1:Int)=(↑s'.snd:Int))/\(s'.fst<(18446744073709551616:Nat)/\q0=aJ s'.fst+s'.snd)/\s'.fst<s.fst)/\((↑s.fst:Int)<(↑(128:Nat):Int)->(↑s.snd:Int)=r0)) (aJ n.n+(1:Nat))):=by kernel_rfl
theorem Dv (n:U64):Sat Try.prog (al aF) 88 [.c (.u64 (n).n)] [] ⟨[],[.c (.int (((aJ n.n:Int))))],none,false⟩:=by
 refine aI tq (Da n) Try.func88 (by decide) (by kernel_rfl) ?_
 rw [Ga]
 intro hn
 refine ⟨(n.n,1),⟨rfl,rfl⟩,⟨hn,rfl⟩,fun s hs=>⟨fun h=>?_,fun h=>?_⟩⟩
 ·have h2:=Cr hs.2 (by omega)
  have h3:=AZ hs.2 hn
  exact ⟨by omega,by constructor <;> omega,(s.1 / 128,s.2+1),⟨rfl,by simp⟩,⟨by show s.1 / 128<_; omega,h2⟩,by show s.1 / 128<s.1; omega⟩
 ·exact congrArg Int.ofNat (wU hs.2 (by omega))
def ED:cH:=(bT 88 (bM (ai (kC cU) aO) aP fun (n,_) (_)=>⟨[],[.c (.int (((aJ n.n:Int))))],none,false⟩) Gq)
theorem tA:aT Try.prog (al aF) ED:=(av (au (ab (aq wY) aj) ak fun (n,_) (_) _=>Dv n ) tq)
end Go.Proofs.Ytladifkbefehdaa
namespace Go.Proofs.Ytladifkbefehdaa
open Go.RowKit
theorem rS {n k:Nat} (h:(k:Int)<aJ n):(cX n k).set k (UInt8.ofNat (n / 128 ^ k) ||| UInt8.ofNat 128)=cX n (k+1):=ry (by omega)
theorem nZ {n k:Nat} (h1:k<=aJ n) (h2:(aJ n:Int)<=(k:Int)):(cX n k).set ((aJ n:Int) - 1).toNat ((cX n k).getD ((aJ n:Int) - 1).toNat (dflt Sh.u8) &&& UInt8.ofNat 127)=bb n:=by
 have e:k=aJ n:=by omega
 have e2:((aJ n:Int) - 1).toNat=aJ n - 1:=by omega
 have hl:=eG (n:=n) (Nat.le_refl _)
 have hp:=eQ n
 subst e
 have hlt:aJ n - 1<(cX n (aJ n)).length:=by omega
 rw [e2,List.getD_eq_getElem?_getD,List.getElem?_eq_getElem hlt,Option.getD_some,rD (List.getElem?_eq_getElem hlt)]
 rfl
def HJ (n:U64):List (Nat × LI):=[(4,{ σ:=Nat,F:=fun k=>([(0,one (.u64 (n.n / 128 ^ k))),(3,one (.int (aJ n.n))),(4,one (.own 0)),(10,one (.int (aJ n.n))),(11,one (.int k))],[.row 5 .u8 ((cX n.n k))]),J:=fun k=>k<=aJ n.n,μ:=fun k=>aJ n.n - k })]
theorem He (n:U64) (r0:List UInt8):tg aF ED (HJ n) Try.f80 [.c (.u64 (n).n)] [] [.c (.own 0)] [.row 5 .u8 (r0)]=((fun (q2:Nat)=>(fun (q1:Int)=>(fun (q0:Int)=>n.n<(18446744073709551616:Nat)->I64 q0->(0:Int)<=q0/\q0*(↑(1:Nat):Int)<=(140737488355328:Int)/\q0=q0/\∃ (s0:Nat),(fun (q3:Int)=>(n.n=n.n / (128:Nat) ^ s0/\q0=q0/\q0=q0/\(0:Int)=(↑s0:Int)/\List.replicate q2 (dflt Sh.u8)=cX n.n s0)/\s0<=q2/\∀ (s:Nat),(fun (q4:List UInt8)=>s<=q2->((↑s:Int)<q0->(0:Int)<=(↑s:Int)/\(↑s:Int)<(↑q4.length:Int)/\(7:Nat)<(64:Nat)/\I64 ((↑s:Int)+q1)/\∃ (s':Nat),(n.n / (128:Nat) ^ s / (2:Nat) ^ (7:Nat)=n.n / (128:Nat) ^ s' /\ q0=q0/\q0=q0/\(↑s:Int)+q1=(↑s':Int)/\q4.set s (UInt8.ofNat (n.n / (128:Nat) ^ s) ||| UInt8.ofNat (128:Nat))=cX n.n s')/\s' <= q2/\q2 - s' < q2 - s)/\(q0<=(↑s:Int)->I64 q3/\(0:Int)<=q3/\q3<(↑q4.length:Int)/\(0:Int)<=q3/\q3<(↑q4.length:Int)/\q4.set q3.toNat (q4.getD q3.toNat (dflt Sh.u8) &&& UInt8.ofNat (127:Nat))=r0)) (cX n.n s)) (q0 - q1)) (↑q2:Int)) (1:Int)) (aJ n.n)):=by kernel_rfl
theorem Ig (n:U64):Sat Try.prog (al aF) 80 [.c (.u64 (n).n)] [] ⟨[],[.c (.own 0)],some ([.row 5 .u8 ((bb n.n))]),true⟩:=by
 refine eR tA (HJ n) Try.func80 (by decide) (by kernel_rfl) ?_
 rw [He]
 intro hn
 have h1:=eQ n.n
 have h10:=lZ hn
 (repeat' (first | with_reducible refine And.intro ?_ ?_ | with_reducible refine and_imp.2 ?_ | intro))
 all_goals try (first | (first | with_reducible rfl | with_reducible assumption | omega | (refine ag ?_ ?_ <;> omega)) | exact (h_ n.n) | exact (rS (by omega)) | exact (nZ (by omega) (by omega)) | exact div_pow | exact (by rw [Nat.pow_zero,Nat.div_one]) | exact (by rw [eG (by omega)]; omega))
 all_goals try (refine ⟨0,?_⟩; (repeat' (first | with_reducible refine And.intro ?_ ?_ | with_reducible refine and_imp.2 ?_ | intro)))
 all_goals try (first | (first | with_reducible rfl | with_reducible assumption | omega | (refine ag ?_ ?_ <;> omega)) | exact (h_ n.n) | exact (rS (by omega)) | exact (nZ (by omega) (by omega)) | exact div_pow | exact (by rw [Nat.pow_zero,Nat.div_one]) | exact (by rw [eG (by omega)]; omega))
 all_goals try (refine ⟨‹Nat› + 1,?_⟩; (repeat' (first | with_reducible refine And.intro ?_ ?_ | with_reducible refine and_imp.2 ?_ | intro)))
 all_goals (first | (first | with_reducible rfl | with_reducible assumption | omega | (refine ag ?_ ?_ <;> omega)) | exact (h_ n.n) | exact (rS (by omega)) | exact (nZ (by omega) (by omega)) | exact div_pow | exact (by rw [Nat.pow_zero,Nat.div_one]) | exact (by rw [eG (by omega)]; omega))
def wP:cH:=(bT 80 (bM (ai (kC cU) aO) aP fun (n,_) (_)=>⟨[],[.c (.own 0)],some ([.row 5 .u8 ((bb n.n))]),true⟩) ED)
theorem kV:aT Try.prog (al aF) wP:=(av (au (ab (aq wY) aj) ak fun (n,_) (_) _=>Ig n ) tA)
end Go.Proofs.Ytladifkbefehdaa
namespace Go.Proofs.Ytladifkbefehdaa
open Go.RowKit
theorem rM {x:Int} {l:List Int} {k:Nat} (h:eW x (l.take k) = -1) (hk:l.length<=k):-1=eW x l:=by rw [List.take_of_length_le hk] at h; exact h.symm
theorem ot {x y:Int} {l:List Int} {k:Nat} (h:eW x (l.take k) = -1) (hy:l[k]? = some y) (e:x=y):(k:Int)=eW x l:=by
 refine wS (fun j z hj hz hc=>?_) hy e
 have hm:z ∈ l.take k:=by
  obtain ⟨h1,h2⟩:=List.getElem?_eq_some_iff.1 hz
  rw [List.mem_take_iff_getElem]; exact ⟨j,by omega,h2⟩
 have:decide (0<=eW x (l.take k))=true:=by rw [sf,List.contains_iff_mem,hc]; exact hm
 rw [decide_eq_true_eq] at this; omega
theorem rU {x y:Int} {l:List Int} {k:Nat} (h:eW x (l.take k) = -1) (hy:l[k]? = some y) (e:¬ x=y):eW x (l.take (k+1)) = -1:=by
 have h0:(l.take k).contains x=false:=by
  have:=sf x (l.take k)
  rw [<- this,h]; decide
 have h1:(l.take (k+1)).contains x=false:=by
  rw [ax hy,<- Bool.not_eq_true,List.contains_iff_mem] at *
  intro hm
  rcases List.mem_append.1 hm with hm | hm
  ·exact h0 hm
  ·exact e (List.mem_singleton.1 hm)
 rw [<- sf,decide_eq_false_iff_not] at h1
 unfold eW at h1 ⊢
 split
 ·rename_i i hi; rw [hi] at h1; dsimp only at h1; omega
 ·rfl
theorem vh {l:List Int} {k:Nat} {x:Int} (hr:rowF l=true) (hx:l[k]? = some x):0<=x:=Int.le_of_lt (gS hr x (List.mem_of_getElem? hx)).1
theorem ju {l:List Int} {k:Nat} {x:Int} (hr:rowF l=true) (hx:l[k]? = some x):((cm (l.take k)).length+(bb x.toNat).length)*1<=140737488355328:=by
 have h1:=xp (l:=l.take k) (fun x hx=>(gS hr x (List.mem_of_mem_take hx)).2)
 have h2:=Bf hr
 have h3:=gS hr x (List.mem_of_getElem? hx)
 have h4:=bN (n:=x.toNat) (by omega)
 rw [List.length_take] at h1; omega
def ze (l:List Int) (x:Int):List (Nat × LI):=[(2,{ σ:=Nat,F:=fun k=>([(0,one (.fz .int (l))),(1,one (.int (x))),(7,one (.int (l).length)),(8,one (.int k))],[]),J:=fun k=>k<=l.length/\eW x (l.take k) = -1,μ:=fun k=>(l).length - k })]
def sL (l:List Int):List (Nat × LI):=[(5,{ σ:=Nat,F:=fun k=>([(4,one (.own 0)),(10,one (.fz .int (l))),(11,one (.int (l).length)),(12,one (.int k))],[.row 5 .u8 ((cm (l.take k)))]),J:=fun k=>k<=l.length/\rowF l=true,μ:=fun k=>(l).length - k })]
theorem AN (l:List Int) (x:Int) (r0:Int):cD aF wP (ze l x) Try.f87 [.c (.fz .int (l)),.c (.int (x))] [] [.c (.int (r0))]=((fun (q1:Int)=>(fun (q0:Nat)=>l.length*(8:Nat)<=(140737488355328:Nat)->I64 x->∃ (s0:Nat),(l=l/\x=x/\(↑l.length:Int)=(↑q0:Int)/\(0:Int)=(↑s0:Int))/\(s0<=q0/\eW x (List.take s0 l) = -q1)/\∀ (s:Nat),s<=q0/\eW x (List.take s l) = -q1->((↑s:Int)<(↑q0:Int)->(0:Int)<=(↑s:Int)/\(↑s:Int)<(↑l.length:Int)/\∀ (x_1:Int),l[s]? = some x_1->I64 x_1->(x=x_1->(↑s:Int)=r0)/\(¬x=x_1->I64 ((↑s:Int)+q1)/\∃ (s':Nat),(l=l/\x=x/\(↑q0:Int)=(↑q0:Int)/\(↑s:Int)+q1=(↑s':Int))/\(s' <= q0/\eW x (List.take s' l) = -q1)/\q0 - s' < q0 - s))/\((↑q0:Int)<=(↑s:Int) -> -q1=r0)) l.length) (1:Int)):=by kernel_rfl
theorem Cs (l:List Int) (x:Int):Sat Try.prog (al aF) 87 [.c (.fz .int (l)),.c (.int (x))] [] ⟨[],[.c (.int ((eW x l)))],none,false⟩:=by
 refine aI kV (ze l x) Try.func87 (by decide) (by kernel_rfl) ?_
 rw [AN]
 (repeat' (first | with_reducible refine And.intro ?_ ?_ | with_reducible refine and_imp.2 ?_ | intro))
 all_goals try (first | (first | with_reducible rfl | with_reducible assumption | omega | (refine ag ?_ ?_ <;> omega)) | exact rfl | exact (rM (by with_reducible assumption) (by omega)) | exact (ot (by with_reducible assumption) (by with_reducible assumption) (by with_reducible assumption)) | exact (rU (by with_reducible assumption) (by with_reducible assumption) (by with_reducible assumption)))
 all_goals try (refine ⟨0,?_⟩; (repeat' (first | with_reducible refine And.intro ?_ ?_ | with_reducible refine and_imp.2 ?_ | intro)))
 all_goals try (first | (first | with_reducible rfl | with_reducible assumption | omega | (refine ag ?_ ?_ <;> omega)) | exact rfl | exact (rM (by with_reducible assumption) (by omega)) | exact (ot (by with_reducible assumption) (by with_reducible assumption) (by with_reducible assumption)) | exact (rU (by with_reducible assumption) (by with_reducible assumption) (by with_reducible assumption)))
 all_goals try (refine ⟨‹Nat› + 1,?_⟩; (repeat' (first | with_reducible refine And.intro ?_ ?_ | with_reducible refine and_imp.2 ?_ | intro)))
 all_goals (first | (first | with_reducible rfl | with_reducible assumption | omega | (refine ag ?_ ?_ <;> omega)) | exact rfl | exact (rM (by with_reducible assumption) (by omega)) | exact (ot (by with_reducible assumption) (by with_reducible assumption) (by with_reducible assumption)) | exact (rU (by with_reducible assumption) (by with_reducible assumption) (by with_reducible assumption)))
theorem z_ (n:Int) (most:Int) (named:Bool) (r0:Bool):cD aF wP [] Try.f77 [.c (.int (n)),.c (.int (most)),.c (.bool (.atom (named)))] [] [.c (.bool (.atom (r0)))]=(I64 n->I64 most->(named=true->(decide ((1:Int)<=n) && decide (n<=most))=r0)/\(named=false->decide (n=(0:Int))=r0)):=by kernel_rfl
theorem BJ (n:Int) (most:Int) (named:Bool):Sat Try.prog (al aF) 77 [.c (.int (n)),.c (.int (most)),.c (.bool (.atom (named)))] [] ⟨[],[.c (.bool (.atom ((gC n most named))))],none,false⟩:=by
 refine aI kV [] Try.func77 (by decide) (by kernel_rfl) ?_
 rw [z_]
 grind [gC]
theorem yB (l:List Int) (r0:List UInt8) (r1:Int):cD aF wP (sL l) Try.f62 [.c (.fz .int (l))] [] [.c (.fz .u8 (r0)),.c (.int (r1))]=((fun (q1:Prop)=>(fun (q0:Nat)=>l.length*(8:Nat)<=(140737488355328:Nat)->(rowF l=false->r0=[]/\(1:Int)=r1)/\(q1->∃ (s0:Nat),(l=l/\(↑l.length:Int)=(↑q0:Int)/\(0:Int)=(↑s0:Int)/\cm (List.take s0 l)=[])/\(s0<=q0/\q1)/\∀ (s:Nat),s<=q0/\q1->((↑s:Int)<(↑q0:Int)->(0:Int)<=(↑s:Int)/\(↑s:Int)<(↑l.length:Int)/\∀ (x:Int),l[s]? = some x->I64 x->(0:Int)<=x/\((cm (List.take s l)).length+(bb x.toNat).length)*(1:Nat)<=(140737488355328:Nat)/\I64 ((↑s:Int)+(1:Int))/\∃ (s':Nat),(l=l/\(↑q0:Int)=(↑q0:Int)/\(↑s:Int)+(1:Int)=(↑s':Int)/\cm (List.take s l)++bb x.toNat=cm (List.take s' l))/\(s' <= q0/\q1)/\q0 - s' < q0 - s)/\((↑q0:Int)<=(↑s:Int)->cm (List.take s l)=r0/\(0:Int)=r1))) l.length) (rowF l=true)):=by kernel_rfl
theorem xi (l:List Int):Sat Try.prog (al aF) 62 [.c (.fz .int (l))] [] ⟨[],[.c (.fz .u8 ((aW l))),.c (.int ((bH l)))],none,false⟩:=by
 refine aI kV (sL l) Try.func62 (by decide) (by kernel_rfl) ?_
 rw [yB]
 (repeat' (first | with_reducible refine And.intro ?_ ?_ | with_reducible refine and_imp.2 ?_ | intro))
 all_goals try (first | (first | with_reducible rfl | with_reducible assumption | omega | (refine ag ?_ ?_ <;> omega)) | exact rfl | exact (cw (by with_reducible assumption)).symm | exact (du (by with_reducible assumption)) | exact (cW (by with_reducible assumption)) | exact (eY (by with_reducible assumption) (by omega)) | exact (dN (by with_reducible assumption)) | exact (vh (by with_reducible assumption) (by with_reducible assumption)) | exact (ju (by with_reducible assumption) (by with_reducible assumption)))
 all_goals try (refine ⟨0,?_⟩; (repeat' (first | with_reducible refine And.intro ?_ ?_ | with_reducible refine and_imp.2 ?_ | intro)))
 all_goals try (first | (first | with_reducible rfl | with_reducible assumption | omega | (refine ag ?_ ?_ <;> omega)) | exact rfl | exact (cw (by with_reducible assumption)).symm | exact (du (by with_reducible assumption)) | exact (cW (by with_reducible assumption)) | exact (eY (by with_reducible assumption) (by omega)) | exact (dN (by with_reducible assumption)) | exact (vh (by with_reducible assumption) (by with_reducible assumption)) | exact (ju (by with_reducible assumption) (by with_reducible assumption)))
 all_goals try (refine ⟨‹Nat› + 1,?_⟩; (repeat' (first | with_reducible refine And.intro ?_ ?_ | with_reducible refine and_imp.2 ?_ | intro)))
 all_goals (first | (first | with_reducible rfl | with_reducible assumption | omega | (refine ag ?_ ?_ <;> omega)) | exact rfl | exact (cw (by with_reducible assumption)).symm | exact (du (by with_reducible assumption)) | exact (cW (by with_reducible assumption)) | exact (eY (by with_reducible assumption) (by omega)) | exact (dN (by with_reducible assumption)) | exact (vh (by with_reducible assumption) (by with_reducible assumption)) | exact (ju (by with_reducible assumption) (by with_reducible assumption)))
def Fh:cH:=(bT 62 (bM (ai (kC (cL .int)) aO) aP fun (l,_) (_)=>⟨[],[.c (.fz .u8 ((aW l))),.c (.int ((bH l)))],none,false⟩) (bT 77 (bM (ai (kC cI) (ai (kC cI) (ai (kC cB) aO))) aP fun (n,most,named,_) (_)=>⟨[],[.c (.bool (.atom ((gC n most named))))],none,false⟩) (bT 87 (bM (ai (kC (cL .int)) (ai (kC cI) aO)) aP fun (l,x,_) (_)=>⟨[],[.c (.int ((eW x l)))],none,false⟩) wP)))
theorem sM:aT Try.prog (al aF) Fh:=(av (au (ab (aq bf) aj) ak fun (l,_) (_) _=>xi l ) (av (au (ab (aq aK) (ab (aq aK) (ab (aq p_) aj))) ak fun (n,most,named,_) (_) _=>BJ n most named ) (av (au (ab (aq bf) (ab (aq aK) aj)) ak fun (l,x,_) (_) _=>Cs l x ) kV)))
end Go.Proofs.Ytladifkbefehdaa
namespace Go.Proofs.Ytladifkbefehdaa
open Go.RowKit
theorem rA (l:List Int) (x:Int) (r0:Bool):cD aF Fh [] Try.f76 [.c (.fz .int (l)),.c (.int (x))] [] [.c (.bool (.atom (r0)))]=(l.length*(8:Nat)<=(140737488355328:Nat)->I64 x->I64 (eW x l)->decide ((0:Int)<=eW x l)=r0):=by kernel_rfl
theorem rJ (l:List Int) (x:Int):Sat Try.prog (al aF) 76 [.c (.fz .int (l)),.c (.int (x))] [] ⟨[],[.c (.bool (.atom ((l.contains x))))],none,false⟩:=by
 refine aI sM [] Try.func76 (by decide) (by kernel_rfl) ?_
 rw [rA]
 intros; exact sf _ _
def EH:cH:=(bT 76 (bM (ai (kC (cL .int)) (ai (kC cI) aO)) aP fun (l,x,_) (_)=>⟨[],[.c (.bool (.atom ((l.contains x))))],none,false⟩) Fh)
theorem sH:aT Try.prog (al aF) EH:=(av (au (ab (aq bf) (ab (aq aK) aj)) ak fun (l,x,_) (_) _=>rJ l x ) sM)
end Go.Proofs.Ytladifkbefehdaa
namespace Go.Proofs.Ytladifkbefehdaa
open Go.RowKit
theorem BP (l:List Int) (c:Command) (r0:Bool):cD aF EH [] Try.f75 [.c (.fz .int (l)),.c (.ptr 0 0)] [.box 27 (cellsOf (.nm .command) (c))] [.c (.bool (.atom (r0)))]=(l.length*(8:Nat)<=(140737488355328:Nat)->l.contains c.kind=r0):=by kernel_rfl
theorem AX (l:List Int) (c:Command):Sat Try.prog (al aF) 75 [.c (.fz .int (l)),.c (.ptr 0 0)] [.box 27 (cellsOf (.nm .command) (c))] ⟨[],[.c (.bool (.atom ((l.contains c.kind))))],none,false⟩:=by
 refine aI sH [] Try.func75 (by decide) (by kernel_rfl) ?_
 rw [BP]
 grind
def Ft:cH:=(bT 75 (bM (ai (kC (cL .int)) (ai (kC (mR 0 0)) aO)) (eT (mU 27 (IX (.nm .command) mV)) aP) fun (l,_,_) ((c,_),_)=>⟨[],[.c (.bool (.atom ((l.contains c.kind))))],none,false⟩) EH)
theorem tF:aT Try.prog (al aF) Ft:=(av (au (ab (aq bf) (ab (aq ei) aj)) (cr (ez (Gi eh)) ak) fun (l,_,_) ((c,_),_) _=>AX l c ) sH)
end Go.Proofs.Ytladifkbefehdaa
namespace Go.Proofs.Ytladifkbefehdaa
open Go.RowKit
theorem Hk (k:Int):(if k=12 then some (Span.mk 0 64) else if k=8 then some (Span.mk 2 3) else if k=6 then some (Span.mk 0 8) else none).getD (dflt (.nm .span))=⟨(fP k).1,(fP k).2⟩:=by
 by_cases h1:k=12
 ·subst h1; rfl
 ·by_cases h2:k=8
  ·subst h2; rfl
  ·by_cases h3:k=6
   ·subst h3; rfl
   ·simp [fP,l_,h1,h2,h3,dflt]; rfl
theorem Eg (c:Command) (r0:Bool):cD aF Ft [] Try.f58 [.agg (cellsOf (.nm .command) c)] [] [.c (.bool (.atom (r0)))]=((fun (q9:Int)=>(fun (q8:Int)=>(fun (q7:Prop)=>(fun (q6:Bool)=>(fun (q5:Bool)=>(fun (q4:Bool)=>(fun (q3:Prop)=>(fun (q2:Prop)=>(fun (q1:Prop)=>(fun (q0:den (Sh.nm NT.span))=>I64 q8->I64 c.client->I64 c.seq->I64 c.set->I64 c.id->I64 c.n->c.chunks.length*(8:Nat)<=(140737488355328:Nat)->c.text.b.length<=(140737488355328:Nat)->(q8=(3:Int)->((decide (q0.lo<=c.n) && decide (c.n<=q0.hi))=true->(rowF c.chunks=true->(q7->q1)/\(¬q7->q2))/\(rowF c.chunks=false->q2))/\((decide (q0.lo<=c.n) && decide (c.n<=q0.hi))=false->q2))/\(¬q8=(3:Int)->(q8=(11:Int)->((decide (q0.lo<=c.n) && decide (c.n<=q0.hi))=true->(q3->((↑c.text.b.length:Int)<=(16:Int)->q1)/\((16:Int)<(↑c.text.b.length:Int)->q2))/\(¬q3->q2))/\((decide (q0.lo<=c.n) && decide (c.n<=q0.hi))=false->q2))/\(¬q8=(11:Int)->((decide (q0.lo<=c.n) && decide (c.n<=q0.hi))=true->(q3->(q7->q1)/\(¬q7->q2))/\(¬q3->q2))/\((decide (q0.lo<=c.n) && decide (c.n<=q0.hi))=false->q2)))) (((fun (j:Int)=>if j=(12:Int) then some (Span.mk (0:Int) (64:Int)) else (fun (j:Int)=>if j=q9 then some (Span.mk (2:Int) (3:Int)) else (fun (j:Int)=>if j=(6:Int) then some (Span.mk (0:Int) q9) else (fun (_:Int)=>none) j) j) j) q8).getD (dflt (Sh.nm NT.span)))) ((q6=true->(q5=true->(q4=true->gC c.id (1048576:Int) ([(5:Int),(7:Int),(9:Int),(10:Int),(11:Int)].contains q8)=r0)/\(q4=false->q2))/\(q5=false->q2))/\(q6=false->q2))) (false=r0)) ((↑c.chunks.length:Int)=(0:Int))) (gC c.set q9 ([(2:Int),(3:Int),(4:Int)].contains q8))) (gC c.seq (1048576:Int) ![(1:Int),q9].contains q8)) (gC c.client q9 ![q9].contains q8)) (c.text=Str.mk [])) c.kind) (8:Int)):=by kernel_rfl
theorem EJ (c:Command):Sat Try.prog (al aF) 58 [.agg (cellsOf (.nm .command) c)] [] ⟨[],[.c (.bool (.atom ((dE c))))],none,false⟩:=by
 refine aI tF [] Try.func58 (by decide) (by kernel_rfl) ?_
 rw [Eg]
 simp only [Hk]
 (repeat' (first | with_reducible refine And.intro ?_ ?_ | with_reducible refine and_imp.2 ?_ | intro))
 all_goals ((unfold dE sR IE; simp_all) <;> (intros; omega))
def yR:cH:=(bT 58 (bM (ai (kT (.nm .command)) aO) aP fun (c,_) (_)=>⟨[],[.c (.bool (.atom ((dE c))))],none,false⟩) Ft)
theorem kY:aT Try.prog (al aF) yR:=(av (au (ab ck aj) ak fun (c,_) (_) _=>EJ c ) tF)
end Go.Proofs.Ytladifkbefehdaa
