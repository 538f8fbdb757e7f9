/- What leads to the law, part 3. Conditions: each lemma's own. -/
import Derived.Lib.ItoaLen
import Derived.Lib.ItoaMem
import Derived.Lib.Join
import Derived.Scope
import Derived.Shelf.LaysM
import Derived.Shelf.Strconv.Itoa3
import Derived.Shelf.Strings.OnBuilder
import Derived.Test.YtagpmhlokhoanaaDoorProg
import Derived.Test.YtagpmhlokhoanaaDoorKSOM2
set_option linter.unusedVariables false
set_option linter.unusedSimpArgs false
namespace Go.Proofs.YtagpmhlokhoanaaDoor
open Go.RowKit
theorem cT {R:Prop}:∀ {l:List Prop},jf l R↔(∀ p ∈ l,p)/\R
 | []=>by simp [jf]
 | p :: l=>by simp only [jf,cT,List.forall_mem_cons,and_assoc]
theorem bc {R:Prop}:∀ {l:List Prop},fi l R↔((∀ p ∈ l,p)->R)
 | []=>by simp [fi]
 | p :: l=>by simp only [fi,bc,List.forall_mem_cons,and_imp]
section
variable {P:Program} {T:List (Nat × TI)} {G:Gl} {O:cZ} {Q:Exit->Act->World->Prop} {n:Nat} {ro:Lv} {l:List Oper} {ρ0:List RE} {w0:World}
theorem rX {ρ:List RE} {H:AH} {w:World} (hR:Rep G ρ H w) {a:AV} {v:Value} (h:Rd (cx G ρ w) ρ a v) {s:Sh} {xs:List (den s)} (hv:a.vw H = .fz s xs):∃ A m c,v = .slice A m c/\(A.isNone=true->xs=[]):=by
 cases a <;> simp only [AV.vw] at hv <;> try cases hv
 case fz=>
  have h:Pd (cx G ρ w) (.fz s xs) v:=h
  cases h with
  | fz h1 h2 h3 h4 h5=>
   refine ⟨_,_,_,rfl,fun hn=>?_⟩
   rcases h5 with h5 | ⟨A,rfl,_⟩
   ·exact h5
   ·cases hn
 case own id=>
  split at hv
  ·rename_i t s' ys hH
   cases hv
   rcases h with ⟨g,cap,len,z,h,rfl⟩ | ⟨h,A,rfl⟩
   ·exact ⟨_,_,_,rfl,fun hn=>by cases hn⟩
   ·refine ⟨_,_,_,rfl,fun _=>?_⟩
    rcases aE hR hH with ⟨_,h2⟩ | ⟨g,cap,cells,sp,h2,_⟩
    ·exact h2
    ·rw [h] at h2; cases h2
  ·cases hv
 case sub id o k=>
  split at hv
  ·rename_i t s' ys hH
   cases hv
   rcases h with ⟨g,cap,L,z,h,_,rfl⟩ | ⟨h,rfl,rfl,A,rfl⟩
   ·exact ⟨_,_,_,rfl,fun hn=>by cases hn⟩
   ·exact ⟨_,_,_,rfl,fun _=>by simp⟩
  ·cases hv
theorem sQ (hT:ao P G.shp T) {ρ:List RE} {H:AH} {w:World} (hR:Rep G ρ H w) {fr:AFr} {F:Fr} (hf:ba (cx G ρ w) ρ fr F) {op:Op} {s:Sh} {xs:List (den s)} {ne:Bool} {ty:TypeId} (h:vp T H fr op=some ⟨s,xs,ne⟩):∃ b,ah P n F w op ty (.bool (vy ne b).val) w/\(b=true->xs=[]):=by
 unfold vp at h
 split at h
 ·rename_i bo t x y t'
  have key:∀ {a:AV} {e so sz z},au T t=some ⟨.sl e so,sz,z⟩->bb fr x=some (.one (.c a))->bb fr y=some (.one (.c (.em true)))->a.vw H = .fz s xs->∃ A m c,ev F x=some (.slice A m c)/\ev F y=some (.slice none 0 0)/\P.underlying t=some (.slice e)/\(A.isNone=true->xs=[]):=by
   intro a e so sz z hft hx hy hv
   obtain ⟨va,h1,h2⟩:=ab hf hx
   obtain ⟨vb,h3,h4⟩:=ab hf hy
   obtain ⟨A,m,c,rfl,hn⟩:=rX hR h2 hv
   have h4:Pd (cx G ρ w) (.em true) vb:=h4
   cases h4 with
   | @em b A' he=>
    cases A' with
    | none=>exact ⟨A,m,c,h1,h3,(hT _ _ hft).2.1,hn⟩
    | some _=>cases he
  split at h
  ·rename_i e so sz z a hft hx hy
   split at h
   ·rename_i s' ys hv
    cases h
    obtain ⟨A,m,c,h1,h2,h3,h4⟩:=key hft hx hy hv
    exact ⟨A.isNone,R.rF h1 h2 h3,h4⟩
   ·cases h
  ·rename_i e so sz z a hft hx hy
   split at h
   ·rename_i s' ys hv
    cases h
    obtain ⟨A,m,c,h1,h2,h3,h4⟩:=key hft hx hy hv
    exact ⟨A.isNone,R.rK h1 h2 h3,h4⟩
   ·cases h
  ·cases h
 ·cases h
theorem ew {k:Int} {ok:Bool} {K:TV->Prop}:∀ {l:List (Int × AV)},kW k ok K l->K (match lookF k l with
  | some a=>oZ ok a true
  | none=>oZ ok .nf false)
 | [],h=>h
 | (j,a) :: r,h=>by
  simp only [lookF]
  by_cases hk:k=j
  ·rw [if_pos hk]; exact h.1 hk
  ·rw [if_neg hk]; exact ew (h.2 hk)
theorem mo (hT:ao P G.shp T) {ρ:List RE} {H:AH} {w:World} (hR:Rep G ρ H w) {fr:AFr} {F:Fr} (hf:ba (cx G ρ w) ρ fr F) {op:Op} {m:MpR} {ty:TypeId} (h:mapA T H fr op=some m):∃ v,ah P n F w op ty v w/\Rt (cx G ρ w) ρ (match lookF m.k m.l with
  | some a=>oZ m.ok a true
  | none=>oZ m.ok .nf false) v:=by
 unfold mapA at h
 split at h
 ·rename_i t x y ok
  split at h
  ·rename_i id k hft hx hy
   split at h
   ·rename_i l hO2
    cases h
    obtain ⟨hm,hk,_,hz⟩:=(hT _ _ hft).2
    obtain ⟨va,h1,h2⟩:=ab hf hx
    obtain ⟨vb,h3,h4⟩:=ab hf hy
    cases h4 with | int=>
    obtain ⟨g,hg,rfl⟩:=h2
    obtain ⟨r',hr',hor⟩:=hR.at_ (ax hO2 (by simp))
    rw [hg] at hr'; cases hr'
    obtain ⟨g',e,a,c,k1,k2,k3⟩:=hor
    cases e
    have hrun:=R.nh (P:=P) (n:=n) (ty:=ty) ok h1 h3 hm hk (hz rfl) k1 k2
    refine ⟨_,hrun,?_⟩
    have k4:=k3 k
    dsimp only
    cases hgm:getM k a.toList <;> cases hfk:lookF k l <;> rw [hgm,hfk] at k4
    ·cases ok with
     | false=>exact (rfl:(_:Value)=_)
     | true=>exact ⟨_,rfl,.cons rfl (.cons (Pd.bool (e:=.lit false)) .nil)⟩
    ·exact k4.elim
    ·exact k4.elim
    ·cases ok with
     | false=>exact k4
     | true=>exact ⟨_,rfl,.cons k4 (.cons (Pd.bool (e:=.lit true)) .nil)⟩
   ·cases h
  ·cases h
 ·cases h
theorem iB {l:List Oper} {fr:AFr} {j:Nat} {w:Bool}:∀ {grp:List Oper} {us:List Nat},mJ l fr j w us grp=true->∀ o ∈ grp,cH fr o.dst=true
 | [],_,_,o,ho=>by cases ho
 | x :: r,us,h,o,ho=>by
  simp only [mJ,Bool.and_eq_true] at h
  rcases List.mem_cons.1 ho with rfl | ho
  ·exact h.1.1
  ·exact iB h.2 o ho
theorem nO {n j:Nat} {w:Bool}:∀ {grp:List Oper},dK n grp=true->dK n (grp.map (qh j w))=true
 | [],h=>h
 | x :: r,h=>by
  simp only [dK,List.map_cons,Bool.and_eq_true] at h ⊢
  refine ⟨?_,nO h.2⟩
  have e:(qh j w x).dst=x.dst:=by unfold qh; rw [Bool.cond_eq_ite]; split <;> first | rfl | (split <;> rfl)
  rw [e]; exact h.1
theorem fP (hT:ao P G.shp T) (hO:aS P G.shp O) {K:AFr->AH->Prop} (hK:∀ fr H F w,K fr H->St G ro ρ0 w0 fr H F w->WX Q n .normal F w) :
  ∀ (m:Nat) (ops:List Oper) (fr:AFr) (H:AH) (F:Fr) (w:World),dK n ops=true->wpOps T O ro l K m ops fr H->St G ro ρ0 w0 fr H F w->WO P Q n l ops F w
 | 0,_,_,_,_,_,_,h,_=>h.elim
 | _+1,[],fr,H,F,w,_,h,hs=>WO.nil (hK fr H F w h hs)
 | m+1,o :: rest,fr,H,F,w,hd,h,hs=>by
  have ih:=fP hT hO hK m
  have hs0:=hs
  obtain ⟨ρ,hS,hR,hf⟩:=hs
  have hdo:=dx hd o (by simp)
  have hdr:dK n rest=true:=by simp only [dK,Bool.and_eq_true] at hd; exact hd.2
  obtain ⟨dst,op,ty,pos,af,g⟩:=o
  simp only [wpOps] at h
  split at h
  ·-- no guard
   split at h
   ·-- an element of what nobody writes
    rename_i s xs i hat
    unfold yh at hat
    split at hat
    ·rename_i t x y
     split at hat
     ·rename_i s1 xs1 b s2 hx hy hsl
      split at hat
      ·rename_i i' hdc hix
       cases hat
       have hss:s2=s:=of_decide_eq_true hdc
       subst hss
       obtain ⟨h0,h1,h2⟩:=h
       obtain ⟨va,h3,h4⟩:=ab hf hx
       obtain ⟨vb,h5,h6⟩:=ab hf hy
       obtain ⟨k,rfl⟩:=fV hix h6
       obtain ⟨e,hu,_,_,hsz,_⟩:=mK hT hsl
       obtain ⟨j,rfl⟩:=Int.eq_ofNat_of_zero_le h0
       have hj:j<xs.length:=by omega
       have hxj:=List.getElem?_eq_getElem hj
       obtain ⟨A,kk,rfl,_,hfe,us,hus⟩:=pR (ρ:=ρ) h4 hxj
       have h7:=bc.1 (h2 _ (by rw [Int.toNat_natCast]; exact hxj)) hus.eU
       refine WO.y (φ:=fun v w'=>v = .pointer (some (A.add (j*s2.size)))/\w' = w) (.inl ⟨_,_,R.eo h3 h5 hu hsz rfl hj,rfl,rfl⟩) hdo fun v w' ⟨e1,e2⟩=>?_
       subst e1; subst e2
       refine ih rest _ H _ _ hdr h7 ⟨ρ,hS,hR,?_⟩
       cases dst with
       | some d=>exact .cons ⟨rfl,hfe⟩ hf
       | none=>exact hf
      ·cases hat
     ·cases hat
    ·cases hat
   ·split at h
    ·-- a comparison to nil
     rename_i s xs ne hnl
     obtain ⟨b,hrun,hb⟩:=sQ (n:=n) (ty:=ty) hT hR hf hnl
     refine WO.y (φ:=fun v w'=>v = .bool (vy ne b).val/\w' = w) (.inl ⟨_,_,hrun,rfl,rfl⟩) hdo fun v w' ⟨e1,e2⟩=>?_
     subst e1; subst e2
     refine ih rest _ H _ _ hdr (h b hb) ⟨ρ,hS,hR,?_⟩
     cases dst with
     | some d=>exact .cons ⟨rfl,Pd.bool⟩ hf
     | none=>exact hf
    split at h
    ·-- a map of functions
     rename_i m0 hmp
     obtain ⟨v0,hrun,hv0⟩:=mo (n:=n) (ty:=ty) hT hR hf hmp
     refine WO.y (φ:=fun v w'=>v=v0/\w' = w) (.inl ⟨_,_,hrun,rfl,rfl⟩) hdo fun v w' ⟨e1,e2⟩=>?_
     subst e1; subst e2
     refine ih rest _ H _ _ hdr (ew h) ⟨ρ,hS,hR,?_⟩
     cases dst with
     | some d=>exact .cons ⟨rfl,hv0⟩ hf
     | none=>exact hf
    split at h
    ·-- a step that changes nothing
     rename_i r hpv
     obtain ⟨hob,h⟩:=cT.1 h
     refine WO.y (hU (ty:=ty) hT hO hR hf hpv hob) hdo fun v w1 ⟨hk1,hv1,hfc1⟩=>?_
     refine ih rest _ H _ _ hdr (bc.1 h hfc1) ⟨ρ,hS.trans (Stp.kp hR hk1),hR.kp hk1,?_⟩
     cases dst with
     | some d=>exact .cons ⟨rfl,hv1⟩ (hf.kp hk1)
     | none=>exact hf.kp hk1
    ·split at h
     ·rename_i r hst hsv
      obtain ⟨hob,h⟩:=cT.1 h
      have key:∀ v w',bW G ro ρ w r F v w' -> WO P Q n l rest (cV dst v F) w':=by
       rintro v w' ⟨ρ',k1,k2,k3,k4,k5⟩
       refine ih rest _ _ _ _ hdr (bc.1 h k5) ⟨ρ',hS.trans k1,k2,?_⟩
       cases dst with
       | some d=>exact .cons ⟨rfl,k4⟩ k3
       | none=>exact k3
      rcases pX (ty:=ty) hT hO hR hf hsv hob with hy | ⟨e,w',hsk,haf⟩
      ·exact WO.y hy hdo key
      ·cases dst with
       | some d=>simp [tH,e] at hst
       | none=>exact WO.s hsk (key _ _ haf)
     ·exact h.elim
  ·-- a guard
   rename_i g0 j wt
   split at h
   ·rename_i r hgr
    obtain ⟨hob,h⟩:=cT.1 h
    have:=nC (tl:=[]) (G:=G) (Q:=Q) (n:=n) (l:=l) (ρ:=ρ) (H:=H) (eO hT hO m) hgr (fun _ _ e=>by cases e) hob hd hR hf fun w1 hk1 hfc1 hFd hfd hf1 hbd hdt=>by
     rw [List.append_nil]
     exact ih r.tail _ H _ _ hdt (bc.1 h hfc1) ⟨ρ,hS.trans (Stp.kp hR hk1),hR.kp hk1,.cons ⟨rfl,Pd.bool⟩ hf1⟩
    rwa [List.append_nil] at this
   ·split at h
    ·-- a group,in two ways
     rename_i r hgs
     obtain ⟨hon,hoff'⟩:=h
     unfold wF at hgs
     split at hgs
     ·rename_i t hj
      split at hgs
      ·rename_i e grp pk tail he hsp
       split at hgs
       ·rename_i z x y d hck hpk hpd
        cases hgs
        simp only [Bool.and_eq_true] at hck
        obtain ⟨⟨hoffB,hpg⟩,hfresh⟩:=hck
        obtain ⟨hops,hip⟩:=fE hsp
        replace hpg:=kv hpg
        replace he:=aR he
        rw [hops] at hd
        rw [hops]
        obtain ⟨vt,hvt,hvr⟩:=bR hf he
        cases hvr with | bool=>
        obtain ⟨hd1,hd2⟩:=eM.1 hd
        have hd3:dK n tail=true:=by simp only [dK,Bool.and_eq_true] at hd2; exact hd2.2
        have hdd:Nat.blt d n=true:=dx hd2 pk (by simp) d hpd
        rw [hpd] at hfresh
        have hFd:look F d=none:=cg hf hfresh d rfl
        obtain ⟨dst,op,ty,pos,af,pg⟩:=pk
        simp only at hpk hpd hpg hon hoff'
        subst hpk; subst hpd; subst hpg
        have hz:z = .tmp t:=by
         cases z <;> simp only [fM] at hip
         ·rw [Nat.eq_of_beq_eq_true hip]
         all_goals cases hip
        subst hz
        by_cases hew:e.val=wt
        ·rw [hew] at hvt
         refine WO.split (t:=t) hj hvt (fun o ho d' hd' e=>?_) (ih _ _ H _ _ ?_ (hon ((BE.bm e wt).2 hew)) ⟨ρ,hS,hR,hf⟩)
         ·have:=cg hf (iB hoffB o ho) d' hd'
          rw [e,hvt] at this; cases this
         ·refine eM.2 ⟨nO hd1,?_⟩
          simp only [dK,Bool.and_eq_true] at hd2 ⊢
          exact hd2
        ·have hew':e.val = !wt:=by revert hew; cases e.val <;> cases wt <;> simp
         have hoff':=hoff' ((BE.bm e _).2 hew')
         split at hoff'
         ·rename_i v hv
          refine dM (us:=[]) hf hj hvt hew' hoffB hd1 (by simp) ?_
          obtain ⟨u,hu,hr⟩:=ab hf hv
          have k:=ih tail ((d,v) :: fr) H ((d,u) :: F) _ hd3 hoff' ⟨ρ,hS,hR,.cons ⟨rfl,hr⟩ hf⟩
          have hl:ev F (.tmp t)=some (.bool e.val):=hvt
          cases wt with
          | true=>exact WO.v (R.mF hl hew' hu) hdd k
          | false=>exact WO.v (R.ll hl hew' hu) hdd k
         ·exact hoff'.elim
       ·cases hgs
      ·cases hgs
     ·cases hgs
    ·exact h.elim
def br (n:Nat):Code->Bool
 | .seq a b=>br n a && br n b
 | .cond _ a b=>br n a && br n b
 | .block _ a=>br n a
 | .loop a=>br n a
 | .scope a=>br n a
 | .region _ ops _=>dK n ops.toList
 | _=>true
def qo (P:Program) (T:List (Nat × TI)) (G:Gl) (O:cZ) (n:Nat) (ro:Lv) (ρ0:List RE) (w0:World):Prop:=
 ∀ (Q:Exit->Act->World->Prop) (k0 id:Nat) (L:List (Nat × LI)) (ops:Array Oper) (K:Exit->AFr->AH->Prop) (fr:AFr) (H:AH) (F:Fr) (w:World),dK n ops.toList=true->mH T O ro k0 L (.region id ops true) K fr H->St G ro ρ0 w0 fr H F w ->
  (∀ fr H F w,K .normal fr H->St G ro ρ0 w0 fr H F w->WX Q n .normal F w)->WC P Q n (.region id ops true) F w
theorem nX (hT:ao P G.shp T) (hO:aS P G.shp O) (hD:qo P T G O n ro ρ0 w0) {k0:Nat} (hk0:ρ0.length<=k0) {L:List (Nat × LI)} :
  ∀ (c:Code) (Q:Exit->Act->World->Prop) (K:Exit->AFr->AH->Prop) (fr:AFr) (H:AH) (F:Fr) (w:World),br n c=true->mH T O ro k0 L c K fr H->St G ro ρ0 w0 fr H F w ->
   (∀ e fr H F w,K e fr H->St G ro ρ0 w0 fr H F w->WX Q n e F w)->WC P Q n c F w:=by
 intro c
 induction c <;> intro Q K fr H F w hc h hs hK
 case skip=>exact WC.skip (hK _ _ _ _ _ h hs)
 case seq a b iha ihb=>
  simp only [br,Bool.and_eq_true] at hc
  refine WC.seq (iha _ _ fr H F w hc.1 h hs fun e fr H F w h hs=>?_)
  cases e with
  | normal=>exact WX.next (ihb _ _ fr H F w hc.2 h hs hK)
  | _=>exact hK _ fr H F w h hs
 case cond c a b iha ihb=>
  simp only [br,Bool.and_eq_true] at hc
  obtain ⟨ρ,hS,hR,hf⟩:=hs
  have hs:St G ro ρ0 w0 fr H F w:=⟨ρ,hS,hR,hf⟩
  simp only [mH] at h
  split at h
  ·rename_i he
   obtain ⟨v,h1,h2⟩:=ab hf (aR he)
   cases h2 with | bool=>
   exact WC.wk h1 (iha _ _ fr H F w hc.1 h hs hK)
  ·rename_i he
   obtain ⟨v,h1,h2⟩:=ab hf (aR he)
   cases h2 with | bool=>
   exact WC.wz h1 (ihb _ _ fr H F w hc.2 h hs hK)
  ·rename_i e _ _ he
   obtain ⟨v,h1,h2⟩:=ab hf (aR he)
   cases h2 with | bool=>
   exact WC.cond h1 (fun hv=>iha _ _ fr H F w hc.1 (h.1 ((BE.bm e true).2 hv)) hs hK) (fun hv=>ihb _ _ fr H F w hc.2 (h.2 ((BE.bm e false).2 hv)) hs hK)
  ·exact h.elim
 case block i a iha=>
  refine WC.block (iha _ _ fr H F w hc h hs fun e fr H F w h hs=>?_)
  cases e with
  | exit j=>
   simp only at h
   intro x hx
   show (if j=i then Q .normal x w else Q (.exit j) x w)
   cases hb:Nat.beq j i <;> rw [hb] at h
   ·have:j≠i:=by rintro rfl; simp at hb
    rw [if_neg this]
    exact hK _ fr H F w h hs x hx
   ·rw [if_pos (Nat.eq_of_beq_eq_true hb)]
    exact hK _ fr H F w h hs x hx
  | _=>exact hK _ fr H F w h hs
 case loop a iha=>
  simp only [mH] at h
  split at h
  ·rename_i I hI
   obtain ⟨s0,h1,h2,h3⟩:=h
   obtain ⟨hr0,h3⟩:=LI.ni.1 h3
   intro x hx
   obtain ⟨F2,h7,h8⟩:=lb hT hk0 hs h1
   refine qk (fun a w s=>I.J s/\I.rel s0 s/\∃ F,M n F a/\St G ro ρ0 w0 (I.F s).1 (I.F s).2 F w) I.μ s0 ⟨h2,hr0,F2,hx.sub h8,h7⟩ fun s a' w hD=>?_
   obtain ⟨hJ,hrl,F',hM,hst⟩:=hD
   exact iha _ _ _ _ F' w hc (LI.sL.1 (h3 s hJ) hrl) hst (fun e fr H F w h hs=>by
    cases e with
    | normal=>
     obtain ⟨s',h4,h5,h6⟩:=h
     obtain ⟨h9,h6⟩:=LI.ni.1 h6
     obtain ⟨F2,h7,h8⟩:=lb hT hk0 hs h4
     exact fun x hx=>⟨s',⟨h5,h9,F2,hx.sub h8,h7⟩,h6⟩
    | _=>exact hK _ fr H F w h hs) a' hM
  ·exact h.elim
 case exit i=>exact WC.exit (hK _ _ _ _ _ h hs)
 case ret=>exact WC.ret (hK _ _ _ _ _ h hs)
 case scope a iha=>
  refine fun x hx=>oN (iha (Exit.noGoto Q) _ fr H F w hc h hs (fun e fr H F w h hs=>?_) x hx)
  cases e with
  | goto i=>exact h.elim
  | _=>exact hK _ fr H F w h hs
 case label i=>exact WC.label (hK _ _ _ _ _ h hs)
 case region i ops b=>
  cases b with
  | true=>exact hD Q k0 i L ops K fr H F w hc h hs fun fr H F w=>hK _ fr H F w
  | false=>
   have e:ops=ops.toList.toArray:=by simp
   rw [e]
   exact WC.region (fP hT hO (fun fr H F w=>hK _ fr H F w) _ _ fr H F w hc h hs)
 all_goals exact h.elim
end
def vi (n:Nat) (ps:List (Nat × Nat)):Nat->Nat->List Nat
 | _,0=>[]
 | k,m+1=>nI n ps k :: vi n ps (k+1) m
def eA:AO->Bool
 | .row _ _ _=>true
 | _=>false
def uq (H0:AH) (ps:List (Nat × Nat)):Nat->Nat->List Nat
 | _,0=>[]
 | k,m+1=>(bif eA (getO H0 k) then nI k ps k else k) :: uq H0 ps (k+1) m
def tf (H0:AH) (k0:Nat) (H:AH) (l rs:List TV1) (H':AH):Nat->List (Nat × Nat)->List Nat
 | 0,ps=>uq H0 ps 0 k0++vi H.length ps k0 (H'.length - k0)
 | f+1,ps=>tf H0 k0 H l rs H' f (oo l rs++rO H (uq H0 ps 0 k0++vi H.length ps k0 (H'.length - k0)) H')
def wL (T:List (Nat × TI)) (H0:AH) (k0:Nat) (fn:Func) (rs:List TV1) (H':AH) (fr:AFr) (H:AH):List Prop:=
 match jh T fr H fn.results.toList with
 | some l=>match tf H0 k0 H l rs H' 3 [] with
  | σ=>same (fy H.length σ)++ml H H.length σ l rs++vV T H H.length σ σ H'
 | none=>[False]
def sC (T:List (Nat × TI)) (H0:AH) (k0:Nat) (fn:Func) (rs:List TV1) (H':AH) (fr:AFr) (H:AH):Prop:=eX (wL T H0 k0 fn rs H' fr H)
def xy (b:Bool) (T:List (Nat × TI)) (O:cZ) (L:List (Nat × LI)) (fn:Func) (args:List TV1) (H:AH) (rs:List TV1) (H':AH):Prop:=
 match fn.body with
 | some c=>fi (tG args) (mH T O (xa (bif b then H.length else 0)) H.length L c (fun e fr K=>match e with
  | .ret=>sC T (bif b then [] else H) H.length fn rs H' fr K
  | .normal=>sC T (bif b then [] else H) H.length fn rs H' fr K
  | _=>False) (nG 0 args) H)
 | none=>False
def ye:=xy false
section
variable {P:Program} {T:List (Nat × TI)} {G:Gl} {O:cZ} {n:Nat} {ρ:List RE} {H:AH} {w:World} {fr:AFr} {F:Fr}
theorem iz {c:Cx}:∀ {args:List TV1} {vs:List Value} {k:Nat},All2 (aO c ρ) args vs->ba c ρ (nG k args) (lE k vs)
 | [],_,_,h=>by cases h; exact .nil
 | _ :: _,_,_,h=>by cases h with | cons h1 h2=>exact .cons ⟨rfl,h1⟩ (iz h2)
def sT (tm:Array Value):ResultVar->Sem Value
 | .tmp t=>pure (tm.getD t undef)
 | .cell a t=>do loadVar t (<- asAddr (tm.getD a undef))
theorem qU {t:TypeId} {v u:Value} (h:ah P 0 [] w (.load t (.const v)) 0 u w):(do loadVar t (<- asAddr v)).run P w = .ok u w:=by
 replace h:=h ⟨#[],[]⟩ none "" #[] none ⟨rfl,rfl,fun _ _ h=>by cases h⟩
 have e:(⟨#[],[]⟩:Act).eval (.const v)=v:=rfl
 simp only [execOp,e,Instr.loadAt] at h
 cases v
 case pointer a=>
  cases a with
  | none=>simp [Instr.sureAddr] at h
  | some a=>
   simp only [Instr.sureAddr,asAddr,pure_bind] at h ⊢
   rw [Sem.run_bind] at h
   cases hr:(loadVar t a).run P w with
   | ok x w'=>rw [hr] at h; simp at h; rw [h.1,h.2]
   | halt x w'=>rw [hr] at h; simp at h
 all_goals simp [Instr.sureAddr] at h
theorem jd (hT:ao P G.shp T) (hR:Rep G ρ H w) (hf:ba (cx G ρ w) ρ fr F) {a:Act} (hM:M n F a):∀ {rs:List ResultVar} {l:List TV1},jh T fr H rs=some l ->
  ∃ us,All2 (aO (cx G ρ w) ρ) l us/\(rs.mapM (sT a.tmps)).run P w = .ok us w
 | [],l,h=>by cases h; exact ⟨[],.nil,rfl⟩
 | .tmp t :: r,l,h=>by
  simp only [jh] at h
  split at h
  ·rename_i tv l' ht hl
   cases h
   obtain ⟨us,h1,h2⟩:=jd hT hR hf hM hl
   obtain ⟨v,h3,h4⟩:=bR hf ht
   refine ⟨v :: us,.cons h4 h1,?_⟩
   have h5:=hM.at_ h3
   rw [List.mapM_cons]
   simp [sT,h2,h5]
  ·cases h
 | .cell p t :: r,l,h=>by
  simp only [jh] at h
  split at h
  ·rename_i ap l' ht hl
   split at h
   ·rename_i tv fc hld
    cases h
    obtain ⟨us,h1,h2⟩:=jd hT hR hf hM hl
    obtain ⟨v,h3,h4⟩:=bR hf ht
    obtain ⟨u,h6,h7⟩:∃ u,ah P 0 [] w (.load t (.const v)) 0 u w/\Rt (cx G ρ w) ρ (.one tv) u:=by
     unfold uj at hld
     split at hld
     ·rename_i hla
      cases hld
      obtain ⟨u,h6,h7,_⟩:=gk (P:=P) (F:=[]) (n:=0) (ty:=0) (x:=.const v) hT hR h4 rfl hla (by simp)
      exact ⟨u,h6,h7⟩
     ·obtain ⟨u,h6,h7,_,_⟩:=mm (P:=P) (F:=[]) (n:=0) (ty:=0) (x:=.const v) hT hR h4 rfl hld
      exact ⟨u,h6,h7⟩
    have h8:=qU h6
    refine ⟨u :: us,.cons h7 h1,?_⟩
    have h5:a.tmps.getD p undef=v:=(hM.2.2 p v h3).2
    rw [List.mapM_cons,Sem.run_bind]
    simp only [sT,h5,h8]
    simp [h2]
   ·cases h
  ·cases h
theorem gq {fn:Func} (hT:ao P G.shp T) (hR:Rep G ρ H w) (hf:ba (cx G ρ w) ρ fr F) {a:Act} (hM:M n F a) {l:List TV1} (h:jh T fr H fn.results.toList=some l) :
  ∃ us,All2 (aO (cx G ρ w) ρ) l us/\(results fn a.tmps).run P w = .ok (ln us) w:=by
 obtain ⟨us,h1,h2⟩:=jd hT hR hf hM h
 refine ⟨us,h1,?_⟩
 have e:results fn a.tmps=(do let vs <- fn.results.mapM (sT a.tmps); pure (if h:vs.size=1 then vs[0] else .tuple vs)):=rfl
 have e2:fn.results=fn.results.toList.toArray:=by simp
 rw [e,e2,List.mapM_toArray]
 simp only [Sem.run_bind,h2,map_eq_pure_bind,Result.andThen_ok,Sem.run_pure,bind_assoc,pure_bind]
 cases us with
 | nil=>rfl
 | cons u us=>
  cases us with
  | nil=>rfl
  | cons u2 us=>rfl
theorem kZ {k i:Nat} (h:i<k):Nat.ble k i=false:=by
 rw [<- Bool.not_eq_true,Nat.ble_eq]; omega
theorem jP {k m:Nat} (h:k<=m) (i:Nat) (hi:(xa k).wr i=false\/(xa k).mv i=false):i<m:=by
 have:Nat.ble k i=false:=hi.elim id id
 rw [<- Bool.not_eq_true,Nat.ble_eq] at this; omega
def km (P:Program) (shp:TypeId->Option Sh) (T:List (Nat × TI)) (O:cZ):Prop:=∀ (G:Gl) (n:Nat) (ro:Lv) (ρ0:List RE) (w0:World),G.shp=shp->(∀ i,ro.wr i=false\/ro.mv i=false->i<ρ0.length)->qo P T G O n ro ρ0 w0
theorem Sat.uE {shp:TypeId->Option Sh} {f:Nat} {fn:Func} {args rs:List TV1} {pre:List Prop} {L:List (Nat × LI)} (hT:ao P shp T) (hO:aS P shp O) (hD:km P shp T O) (hfn:P.funcs[f]? = some fn) (hng:(fn.name == "runtime.NumGoroutine")=false)
  (hc:(match fn.body with
   | some c=>br fn.ntmps c && Nat.ble args.length fn.ntmps
   | none=>false)=true) (h:oW T O L fn args H rs):Sat P shp f args H ⟨pre,rs,none,false⟩:=by
 cases hb:fn.body with
 | none=>rw [hb] at hc; cases hc
 | some c=>
 rw [hb] at hc
 simp only [Bool.and_eq_true] at hc
 refine ⟨⟨fn,hfn,hng,by rw [hb]; rfl⟩,?_⟩
 intro G ρ w vs hshp hR hvs
 subst hshp
 simp only [oW,hb] at h
 have h:=bc.1 h (ui.eU hvs)
 refine mg.enter hfn hb rfl (by rw [<- hvs.length]; exact hc.2) rfl (nX hT hO (hD G _ _ ρ w rfl (jP (by rw [<- hR.obj.length]; exact Nat.le_refl _))) (k0:=H.length) (by rw [<- hR.obj.length]; exact Nat.le_refl _) c _ _ _ H _ w hc.1 h ⟨ρ,Stp.refl _ _ _,hR,iz hvs⟩ ?_)
 intro e fr H' F w' hK hst
 obtain ⟨ρ',hS,hR',hf⟩:=hst
 have key:∀ {l},jh T fr H' fn.results.toList=some l->eX (ml H' H'.length (iota 0 H.length) l rs)->∀ a,M fn.ntmps F a->a.defers=[]/\∃ v,(results fn a.tmps).run P w' = .ok v w' /\ ∃ x,Ending.returned v = .returned x/\∃ us,x=ln us/\Kp [] w w' /\ All2 (aO (cx G ρ w') ρ) rs us:=by
  intro l hl he a hM
  obtain ⟨us,h1,h2⟩:=gq hT hR' hf hM hl
  refine ⟨hM.1,_,h2,_,rfl,us,rfl,?_,?_⟩
  ·refine ⟨hS.ext.os,hS.ext.tape,hS.ext.output,hS.ext.size,fun b hb _=>?_⟩
   by_cases hl:live ρ b
   ·obtain ⟨i,r,h3,h4⟩:=hl
    exact (hS.pro i r (kZ (by rw [hR.obj.length]; exact (List.getElem?_eq_some_iff.1 h3).1)) h3).2 b h4
   ·exact (hS.ext.old b hb hl).2
  ·have h3:=gF hR' rfl h1 (bn.1 he)
   have h4:aF ρ' (iota 0 H.length)=ρ:=by
    refine List.ext_getElem? fun i=>?_
    by_cases hi:i<H.length
    ·have h5:i<ρ.length:=by rw [<- hR.obj.length]; exact hi
     rw [List.getElem?_eq_getElem h5]
     exact aY (by have:=kf (k:=0) hi; rwa [Nat.zero_add] at this) (hS.pro i _ (kZ hi) (List.getElem?_eq_getElem h5)).1
    ·rw [List.getElem?_eq_none (by simp [aF,lO]; omega),List.getElem?_eq_none (by rw [<- hR.obj.length]; omega)]
   rwa [h4] at h3
 cases e with
 | ret=>
  simp only at hK
  split at hK
  ·rename_i l hl; exact fun a ha=>key hl hK a ha
  ·exact hK.elim
 | normal=>
  simp only at hK
  split at hK
  ·rename_i l hl; exact fun a ha=>key hl hK a ha
  ·exact hK.elim
 | _=>exact hK.elim
theorem ox {H0:AH} {ps:List (Nat × Nat)}:∀ {m k:Nat},(uq H0 ps k m).length=m
 | 0,_=>rfl
 | m+1,k=>by rw [uq,List.length_cons,ox]
theorem qJ {H0:AH} {ps:List (Nat × Nat)}:∀ {m k i:Nat},i<m->eA (getO H0 (k+i))=false->(uq H0 ps k m)[i]? = some (k+i)
 | 0,_,_,h,_=>absurd h (Nat.not_lt_zero _)
 | m+1,k,0,_,hr=>by
  rw [Nat.add_zero] at hr
  simp [uq,hr]
 | m+1,k,i+1,h,hr=>by
  have:=qJ (ps:=ps) (m:=m) (k:=k+1) (i:=i) (Nat.lt_of_succ_lt_succ h) (by rw [show k+1+i=k+(i+1) by omega]; exact hr)
  rw [show k+(i+1)=k+1+i by omega,<- this]; rfl
theorem ir {H0:AH} {k0:Nat} {K:AH} {l rs:List TV1} {H':AH} {i:Nat} (h:i<k0) (hr:eA (getO H0 i)=false):∀ (f:Nat) (ps:List (Nat × Nat)),(tf H0 k0 K l rs H' f ps)[i]? = some i
 | 0,ps=>by
  show (uq H0 ps 0 k0++_)[i]? = _
  rw [List.getElem?_append_left (by rw [ox]; exact h)]
  have:=qJ (ps:=ps) (k:=0) h (by rw [Nat.zero_add]; exact hr)
  rwa [Nat.zero_add] at this
 | f+1,ps=>ir h hr f _
theorem wc {b:Bool} (hR:Rep G ρ H w) {i g:Nat} (hg:ρ[i]? = some (.blk g)):eA (getO (bif b then [] else H) i)=false:=by
 cases b
 ·show eA (getO H i)=false
  cases ho:getO H i with
  | row t s xs=>
   obtain ⟨r,hr,h⟩:=hR.at_ (ax ho (by simp))
   rw [hg] at hr; cases hr
   obtain ⟨_,_,h | ⟨_,_,_,_,h,_⟩⟩:=h
   ·exact absurd h.1 (by simp)
   ·cases h
  | _=>rfl
 ·show eA (getO [] i)=false
  simp [getO,eA]
theorem Sat.vK {b:Bool} {shp:TypeId->Option Sh} {f:Nat} {fn:Func} {args rs:List TV1} {pre:List Prop} {H':AH} {L:List (Nat × LI)} (hT:ao P shp T) (hO:aS P shp O) (hD:km P shp T O) (hfn:P.funcs[f]? = some fn) (hng:(fn.name == "runtime.NumGoroutine")=false)
  (hc:(match fn.body with
   | some c=>br fn.ntmps c && Nat.ble args.length fn.ntmps
   | none=>false)=true) (h:xy b T O L fn args H rs H'):Sat P shp f args H ⟨pre,rs,some H',b⟩:=by
 cases hb:fn.body with
 | none=>rw [hb] at hc; cases hc
 | some c=>
 rw [hb] at hc
 simp only [Bool.and_eq_true] at hc
 refine ⟨⟨fn,hfn,hng,by rw [hb]; rfl⟩,?_⟩
 intro G ρ w vs hshp hR hvs
 subst hshp
 simp only [xy,hb] at h
 have h:=bc.1 h (ui.eU hvs)
 refine mg.enter hfn hb rfl (by rw [<- hvs.length]; exact hc.2) rfl (nX hT hO (hD G _ _ ρ w rfl (jP (by cases b <;> simp [hR.obj.length]))) (k0:=H.length) (by rw [<- hR.obj.length]; exact Nat.le_refl _) c _ _ _ H _ w hc.1 h ⟨ρ,Stp.refl _ _ _,hR,iz hvs⟩ ?_)
 intro e fr K F w' hK hst
 obtain ⟨ρ',hS,hR',hf⟩:=hst
 have key:sC T (bif b then [] else H) H.length fn rs H' fr K->∀ a,M fn.ntmps F a->a.defers=[]/\∃ v,(results fn a.tmps).run P w' = .ok v w' /\ ∃ x,Ending.returned v = .returned x/\∃ us,x=ln us /\
   ∃ ρ',Rep G ρ' H' w' /\ Ext ρ w ρ' w' /\ (∀ (i g:Nat),ρ[i]? = some (.blk g)->ρ'[i]? = some (.blk g))/\All2 (aO (cx G ρ' w') ρ') rs us/\(b=true->Kp [] w w' /\ ∀ (i:Nat) (rr:RE),ρ[i]? = some rr->ρ'[i]? = some rr):=by
  intro hE a hM
  unfold sC wL at hE
  split at hE
  ·rename_i l hl
   obtain ⟨us,h1,h2⟩:=gq hT hR' hf hM hl
   replace hE:=bn.1 hE
   refine ⟨hM.1,_,h2,_,rfl,us,rfl,aF ρ' (tf (bif b then [] else H) H.length K l rs H' 3 []),?_,lu hS.ext,fun i g hg=>?_,?_,fun hb=>?_⟩
   ·exact mb hT hR' rfl (aC.1 fun p hp=>hE p (List.mem_append_left _ (List.mem_append_left _ hp))) fun p hp=>hE p (List.mem_append_right _ hp)
   ·exact aY (ir (by rw [hR.obj.length]; exact (List.getElem?_eq_some_iff.1 hg).1) (wc hR hg) _ _) (hS.bx i g hg)
   ·exact gF hR' rfl h1 fun p hp=>hE p (List.mem_append_left _ (List.mem_append_right _ hp))
   ·subst hb
    have hlt:∀ (i:Nat) (rr:RE),ρ[i]? = some rr->i<H.length:=fun i rr h=>by rw [hR.obj.length]; exact (List.getElem?_eq_some_iff.1 h).1
    refine ⟨⟨hS.ext.os,hS.ext.tape,hS.ext.output,hS.ext.size,fun b hb _=>?_⟩,fun i rr hi=>?_⟩
    ·by_cases hl:live ρ b
     ·obtain ⟨i,r,h3,h4⟩:=hl
      exact (hS.pro i r (kZ (hlt i r h3)) h3).2 b h4
     ·exact (hS.ext.old b hb hl).2
    ·exact aY (ir (hlt i rr hi) rfl _ _) (hS.pro i rr (kZ (hlt i rr hi)) hi).1
  ·exact (show False from hE).elim
 cases e with
 | ret=>exact fun a ha=>key hK a ha
 | normal=>exact fun a ha=>key hK a ha
 | _=>exact hK.elim
end
theorem cA:∀ {ds:List DV} {i:Nat},kQ ds i=ds[i]?
 | [],_=>rfl
 | _ :: _,0=>rfl
 | _ :: r,i+1=>by simpa [kQ] using cA (ds:=r) (i:=i)
theorem bj {sl:List Nat}:∀ {ds:List DV} {k j:Nat},j ∈ aX sl k ds↔∃ i a,j=k+i/\ds[i]? = some a/\a.d ∈ sl
 | [],k,j=>by simp [aX]
 | a :: r,k,j=>by
  have ih:=bj (sl:=sl) (ds:=r) (k:=k+1) (j:=j)
  have key:(∃ i b,j=k+i/\(a :: r)[i]? = some b/\b.d ∈ sl)↔(j=k/\a.d ∈ sl)\/j ∈ aX sl (k+1) r:=by
   rw [ih]
   constructor
   ·rintro ⟨i,b,h1,h2,h3⟩
    cases i with
    | zero=>simp at h2; subst h2; exact .inl ⟨h1,h3⟩
    | succ i=>exact .inr ⟨i,b,by omega,by simpa using h2,h3⟩
   ·rintro (⟨h1,h2⟩ | ⟨i,b,h1,h2,h3⟩)
    ·exact ⟨0,a,by omega,rfl,h2⟩
    ·exact ⟨i+1,b,by omega,by simpa using h2,h3⟩
  rw [key,show aX sl k (a :: r)=(bif aw a.d sl then k :: aX sl (k+1) r else aX sl (k+1) r) from rfl]
  cases hm:aw a.d sl
  ·have:a.d ∉ sl:=fun h=>by rw [aj.2 h] at hm; cases hm
   simp [this]
  ·simp [aj.1 hm]
def py (ds:List DV) (ch:List (Nat × Bool)):Prop:=∀ q ∈ ch,∃ a e,ds[q.1]? = some a/\a.v=one (.bool e)/\e.val=q.2
theorem gP {ds:List DV}:∀ {ch:List (Nat × Bool)} {g:BE},sd ds ch=some g->(g.val=true↔py ds ch)/\∀ q ∈ ch,∃ a e,ds[q.1]? = some a/\a.v=one (.bool e)
 | [],g,h=>by cases h; simp [BE.val,py]
 | (j,wt) :: r,g,h=>by
  simp only [sd,cA] at h
  split at h
  ·rename_i a g' h1 h2
   split at h
   ·rename_i e he
    cases h
    obtain ⟨ih1,ih2⟩:=gP h2
    have he:=Option.some.inj (aR he)
    refine ⟨?_,fun q hq=>?_⟩
    ·have e1:py ds ((j,wt) :: r)↔e.val=wt/\py ds r:=by
      constructor
      ·intro h
       refine ⟨?_,fun q hq=>h q (by simp [hq])⟩
       obtain ⟨a',e',k1,k2,k3⟩:=h (j,wt) (by simp)
       simp only at k1 k3
       rw [h1] at k1; cases k1
       rw [he] at k2
       cases k2
       exact k3
      ·rintro ⟨k1,k2⟩ q hq
       rcases List.mem_cons.1 hq with rfl | hq
       ·exact ⟨a,e,h1,he,k1⟩
       ·exact k2 q hq
     rw [e1,<- ih1]
     cases wt <;> simp [BE.val]
    ·rcases List.mem_cons.1 hq with rfl | hq
     ·exact ⟨a,e,h1,he⟩
     ·exact ih2 q hq
   ·cases h
  ·cases h
theorem kA {ds:List DV} {i j:Nat} {a:DV} (h:(ds.take i)[j]? = some a):ds[j]? = some a/\j<i:=by
 rw [List.getElem?_take] at h
 split at h
 ·exact ⟨h,‹_›⟩
 ·cases h
theorem mj {ds:List DV} {i:Nat}:∀ {ch:List (Nat × Bool)} {g:BE},sd (ds.take i) ch=some g->sd ds ch=some g
 | [],g,h=>h
 | (j,wt) :: r,g,h=>by
  simp only [sd,cA] at h ⊢
  split at h
  ·rename_i a g' h1 h2
   rw [(kA h1).1,mj h2]
   exact h
  ·cases h
theorem jJ:∀ {x y:List (Nat × Bool)},gp x y=true->∀ q ∈ x,q ∈ y
 | [],_,_,q,hq=>by simp at hq
 | (i,a) :: r,(j,b) :: l,h,q,hq=>by
  simp only [gp,Bool.and_eq_true,beq_iff_eq] at h
  have h1:=Nat.eq_of_beq_eq_true h.1.1
  rcases List.mem_cons.1 hq with rfl | hq
  ·rw [h1,h.1.2]; simp
  ·exact List.mem_cons_of_mem _ (jJ h.2 q hq)
 | _ :: _,[],h,_,_=>by cases h
theorem jV {ds:List DV} {x y:List (Nat × Bool)} (h:gp x y=true) (k:py ds y):py ds x:=fun q hq=>k q (jJ h q hq)
theorem jr (g:BE):(lX g).val=g.val:=by fun_induction lX g <;> simp_all [BE.val]
theorem mI {e:BE} {ob:List Prop} (h:∀ p ∈ dR e ob,p) (he:e.val=true):∀ p ∈ ob,p:=by
 unfold dR at h
 split at h
 ·simp
 ·split at h
  ·exact h
  ·exact bn.1 (aQ h ((BE.bm e true).2 he))
theorem iN {e:BE} {ob:List Prop} (h:e.val=true->∀ p ∈ ob,p):∀ p ∈ dR e ob,p:=by
 unfold dR
 split
 ·simp
 ·split
  ·exact h rfl
  ·intro q hq
   rw [List.mem_singleton.1 hq]
   exact fun he=>bn.2 (h ((BE.bm e true).1 he))
section
variable {P:Program} {T:List (Nat × TI)} {G:Gl} {O:cZ} {n k:Nat} {l:List Oper} {ρ:List RE} {H:AH} {fr:AFr} {F:Fr} {ds:List DV} {vs:Nat->Value}
def DVal (G:Gl) (ρ:List RE) (ds:List DV) (a:DV) (u:Value) (w:World):Prop:=(∀ p ∈ a.fc,p)/\(py ds a.ch->Rt (cx G ρ w) ρ a.v u)/\(¬ py ds a.ch->u=undef)
theorem DVal.kp {a:DV} {u:Value} {w w':World} (h:DVal G ρ ds a u w) (k:Kp [] w w'):DVal G ρ ds a u w':=⟨h.1,fun hc=>(h.2.1 hc).carry (Ext.kp k).le (fl.refl _),h.2.2⟩
theorem la {vs:Nat->Value} {t jc:Nat} (ht:idst l jc=some t):∀ {deps:List Nat},(∀ j ∈ deps,∃ d,idst l j=some d)->(∀ j ∈ deps,idst l j=some t->j=jc)->jc ∈ deps->look (aN l F vs deps) t=some (vs jc)
 | [],_,_,h=>by simp at h
 | j :: r,h1,h2,h=>by
  obtain ⟨d,hd⟩:=h1 j (by simp)
  simp only [aN,hd]
  rw [ai]
  by_cases hdt:d=t
  ·subst hdt
   rw [if_pos rfl,h2 j (by simp) hd]
  ·rw [if_neg hdt]
   refine la ht (fun j hj=>h1 j (by simp [hj])) (fun j hj=>h2 j (by simp [hj])) ?_
   rcases List.mem_cons.1 h with rfl | h
   ·rw [hd] at ht; exact absurd (Option.some.inj ht) hdt
   ·exact h
theorem oa {w:World} {p:List DV} (hf:ba (cx G ρ w) ρ fr F):∀ {deps:List Nat},(∀ j ∈ deps,∃ b,p[j]? = some b/\idst l j=some b.d/\Rt (cx G ρ w) ρ b.v (vs j))->ba (cx G ρ w) ρ (ri p fr deps) (aN l F vs deps)
 | [],_=>hf
 | j :: r,h=>by
  obtain ⟨b,h1,h2,h3⟩:=h j (by simp)
  simp only [ri,cA,h1,aN,h2]
  exact .cons ⟨rfl,h3⟩ (oa hf fun j hj=>h j (by simp [hj]))
theorem jo {p:List DV} {ch:List (Nat × Bool)}:∀ {deps:List Nat},kg p ch deps=true->∀ j ∈ deps,∃ b,p[j]? = some b/\gp b.ch ch=true
 | [],_,j,hj=>by simp at hj
 | i :: r,h,j,hj=>by
  simp only [kg,cA,Bool.and_eq_true] at h
  rcases List.mem_cons.1 hj with rfl | hj
  ·have h1:=h.1
   split at h1
   ·exact ⟨_,by assumption,h1⟩
   ·cases h1
  ·exact jo h.2 j hj
structure DCtx (G:Gl) (ρ:List RE) (l:List Oper) (ds:List DV) (vs:Nat->Value) (p:List DV) (deps:List Nat) (w:World):Prop where
 pre:∀ (j:Nat) (a:DV),p[j]? = some a->ds[j]? = some a
 dst:∀ (j:Nat) (a:DV),ds[j]? = some a->idst l j=some a.d
 dist:∀ (i j:Nat) (a b:DV),ds[i]? = some a->ds[j]? = some b->a.d=b.d->i=j
 dep:∀ j ∈ deps,∃ a,p[j]? = some a/\DVal G ρ ds a (vs j) w
theorem DCtx.look {p:List DV} {deps:List Nat} {w:World} (h:DCtx G ρ l ds vs p deps w) {j:Nat} (hj:j ∈ deps) {a:DV} (ha:p[j]? = some a):look (aN l F vs deps) a.d=some (vs j):=by
 refine la (h.dst j a (h.pre j a ha)) (fun i hi=>?_) (fun i hi he=>?_) hj
 ·obtain ⟨b,hb,_⟩:=h.dep i hi
  exact ⟨_,h.dst i b (h.pre i b hb)⟩
 ·obtain ⟨b,hb,_⟩:=h.dep i hi
  have:=h.dst i b (h.pre i b hb)
  rw [he] at this
  exact h.dist i j b a (h.pre i b hb) (h.pre j a ha) (Option.some.inj this).symm
theorem jB {Q:Exit->Act->World->Prop} {p:List DV} {deps:List Nat} {w:World} (h:DCtx G ρ l ds vs p deps w) {gd:Option (Nat × Bool)} {ch:List (Nat × Bool)} {gs:List Nat} {g:BE} (hc:mR p gd=some (ch,gs)) (hgs:∀ (j:Nat) (a:DV),p[j]? = some a->a.d ∈ gs->j ∈ deps) (hg:sd ds ch=some g)
  {d:Nat} {op:Op} {ty:TypeId} {pos:String} {af:Array Edge} (hd:Nat.blt d n=true)
  (on:py ds ch->WO P Q n l [⟨some d,op,ty,pos,af,none⟩] (aN l F vs deps) w) (off:¬ py ds ch->WO P Q n l [] ((d,undef) :: aN l F vs deps) w):WO P Q n l [⟨some d,op,ty,pos,af,gd⟩] (aN l F vs deps) w:=by
 cases gd with
 | none=>
  cases hc
  exact on fun q hq=>by simp at hq
 | some q=>
  obtain ⟨j,wt⟩:=q
  simp only [mR,cA] at hc
  split at hc
  ·rename_i a ha
   cases hc
   have hj:=hgs j a ha (by simp)
   have hl:=h.look (F:=F) hj ha
   obtain ⟨a',ha',hv⟩:=h.dep j hj
   rw [ha] at ha'; cases ha'
   obtain ⟨b,e,hb,he⟩:=(gP hg).2 (j,wt) (by simp)
   simp only at hb
   rw [h.pre j a ha] at hb; cases hb
   have hi:=h.dst j a (h.pre j a ha)
   by_cases hch:py ds a.ch
   ·have hr:=hv.2.1 hch
    rw [he] at hr
    obtain ⟨bv,hbv⟩:∃ bv,vs j = .bool bv/\bv=e.val:=by
     have hr:Pd (cx G ρ w) (.bool e) (vs j):=hr
     generalize vs j=u at hr
     cases hr
     exact ⟨_,rfl,rfl⟩
    obtain ⟨hbv,rfl⟩:=hbv
    rw [hbv] at hl
    by_cases hw:e.val=wt
    ·exact WO.on hi hl hw (on fun q hq=>by
      rcases List.mem_append.1 hq with hq | hq
      ·exact hch q hq
      ·rw [List.mem_singleton.1 hq]
       exact ⟨a,e,h.pre j a ha,he,hw⟩)
    ·refine WO.off hi hl (by revert hw; cases e.val <;> cases wt <;> simp) hd (off fun hc=>?_)
     obtain ⟨b,e',k1,k2,k3⟩:=hc (j,wt) (by simp)
     simp only at k1 k3
     rw [h.pre j a ha] at k1; cases k1
     rw [he] at k2; cases k2
     exact hw k3
   ·have hu:=hv.2.2 hch
    rw [hu] at hl
    exact WO.vI hi hl hd (off fun hc=>hch fun q hq=>hc q (by simp [hq]))
  ·cases hc
theorem rI {x:Operand} {v:Value} (h:ev [] x=some v):ev F x=some v:=by
 cases x with
 | tmp i=>cases h
 | _=>exact h
theorem rW {p:List DV} {deps:List Nat} {w:World} (h:DCtx G ρ l ds vs p deps w) {ch:List (Nat × Bool)} (hch:py ds ch) {t:Nat} {x y:Operand} {v:BE} (hp:pP p ch t x y=some v) (hdep:∀ (j:Nat) (a:DV),p[j]? = some a->a.d=t\/a.d ∈ Operand.sl x\/a.d ∈ Operand.sl y->j ∈ deps) {ty:TypeId} :
  ah P n (aN l F vs deps) w (.pick (.tmp t) x y) ty (.bool v.val) w:=by
 unfold pP at hp
 split at hp
 ·rename_i jc hjc
  split at hp
  ·rename_i c hc
   rw [cA] at hc
   split at hp
   ·rename_i e he hpre
    split at hp
    ·rename_i jx hjx
     split at hp
     ·rename_i a ha
      rw [cA] at ha
      split at hp
      ·rename_i hpa
       have hct:c.d=t:=by
        obtain ⟨i,b,k1,k2,k3⟩:=bj.1 (show jc ∈ aX [t] 0 p by rw [hjc]; simp)
        rw [Nat.zero_add] at k1; subst k1
        rw [hc] at k2; cases k2
        simpa using k3
       have hjd:=hdep jc c hc (.inl hct)
       have hl:=h.look (F:=F) hjd hc
       rw [hct] at hl
       have he:=Option.some.inj (aR he)
       have hlb:look (aN l F vs deps) t=some (.bool e.val):=by
        obtain ⟨c',hc',hv⟩:=h.dep jc hjd
        rw [hc] at hc'; cases hc'
        have hr:=hv.2.1 (jV hpre hch)
        rw [he] at hr
        have hr:Pd (cx G ρ w) (.bool e) (vs jc):=hr
        rw [hl]
        generalize vs jc=u at hr
        cases hr
        rfl
       -- the side that was walked
       have hon:e.val=dp x->∀ z,gy (some a.v)=some z->ev (aN l F vs deps) (cond (dp x) x y)=some (.bool z.val):=by
        intro hw z hz
        have hz:=Option.some.inj (aR hz)
        have hmem:=bj.1 (show jx ∈ aX (Operand.sl (cond (dp x) x y)) 0 p by rw [hjx]; simp)
        obtain ⟨i,b,k1,k2,k3⟩:=hmem
        rw [Nat.zero_add] at k1; subst k1
        rw [ha] at k2; cases k2
        have hjd2:=hdep jx a ha (.inr (by
         cases hx:dp x <;> rw [hx] at k3
         ·exact .inr k3
         ·exact .inl k3))
        obtain ⟨a',ha',hv⟩:=h.dep jx hjd2
        rw [ha] at ha'; cases ha'
        have hr:=hv.2.1 (jV hpa fun q hq=>by
         rcases List.mem_append.1 hq with hq | hq
         ·exact hch q hq
         ·rw [List.mem_singleton.1 hq]
          exact ⟨c,e,h.pre jc c hc,he,hw⟩)
        rw [hz] at hr
        have hr:Pd (cx G ρ w) (.bool z) (vs jx):=hr
        have hl2:=h.look (F:=F) hjd2 ha
        generalize cond (dp x) x y=o at k3 ⊢
        cases o <;> simp only [Operand.sl,List.mem_singleton,List.not_mem_nil] at k3
        rw [<- k3]
        show look _ a.d=_
        rw [hl2]
        generalize vs jx=u at hr
        cases hr
        rfl
       have hoff:∀ z,gy (bb [] (cond (dp x) y x))=some z->ev (aN l F vs deps) (cond (dp x) y x)=some (.bool z.val):=by
        intro z hz
        obtain ⟨u,k1,k2⟩:=ab (c:=cx G ρ w) (ρ:=ρ) (fr:=[]) (F:=[]) .nil (aR hz)
        have k2:Pd (cx G ρ w) (.bool z) u:=k2
        cases k2
        exact rI k1
       unfold nE at hp
       cases hx:dp x <;> rw [hx] at hp hon hoff <;> simp only [cond_true,cond_false] at hon hoff hp
       ·split at hp
        ·contradiction
        ·rename_i z _ hz hz2
         cases hp
         cases hev:e.val with
         | false=>rw [show (BE.or e z).val=z.val by simp [BE.val,hev]]; exact R.mF (hev ▸ hlb) rfl (hon hev z hz)
         | true=>rw [show (BE.or e z).val=true by simp [BE.val,hev]]; exact R.ll (hev ▸ hlb) rfl (hoff _ hz2)
        ·cases hp
       ·split at hp
        ·rename_i z _ hz hz2
         cases hp
         cases hev:e.val with
         | true=>rw [show (BE.and e z).val=z.val by simp [BE.val,hev]]; exact R.ll (hev ▸ hlb) rfl (hon hev z hz)
         | false=>rw [show (BE.and e z).val=false by simp [BE.val,hev]]; exact R.mF (hev ▸ hlb) rfl (hoff _ hz2)
        ·contradiction
        ·cases hp
      ·cases hp
     ·cases hp
    ·cases hp
   ·cases hp
  ·cases hp
 ·cases hp
theorem tU (hT:ao P G.shp T) (hO:aS P G.shp O) {p:List DV} {o:Oper} {a:DV} (hs:iH T O H fr p o=some a) {w:World} (h:DCtx G ρ l ds vs p a.deps w) (hpg:∀ ch g,sd p ch=some g->sd ds ch=some g) (hob:∀ q ∈ a.ob,q) (hd:∀ d,o.dst=some d->Nat.blt d n=true) (hR:Rep G ρ H w) (hf:ba (cx G ρ w) ρ fr F) :
  o.dst=some a.d/\WO P (gf n (some a.d) [] (DVal G ρ ds a) w) n l [o] (aN l F vs a.deps) w:=by
 obtain ⟨dst,op,ty,pos,af,gd⟩:=o
 unfold iH at hs
 split at hs
 ·rename_i d ch gs hdst hch
  simp only at hdst hch
  subst hdst
  split at hs
  ·rename_i g hg
   have hg':=hpg _ _ hg
   have hdn:=hd d rfl
   split at hs
   ·-- a pick
    rename_i t x y hop
    simp only at hop
    subst hop
    split at hs
    ·rename_i v hv
     cases hs
     refine ⟨rfl,jB h hch (fun j b hj hb=>bj.2 ⟨j,b,by simp,hj,by simp [hb]⟩) hg' hdn (fun hc=>?_) (fun hc=>?_)⟩
     ·refine WO.v (rW h hc hv fun j b hj hb=>bj.2 ⟨j,b,by simp,hj,?_⟩) hdn (WO.nil (WX.eY (v:=.bool v.val) (by rw [ai,if_pos rfl]) ⟨by simp,fun _=>Pd.bool,fun h=>absurd hc h⟩ (Kp.refl w)))
      simp only [mZ,Operand.sl,List.mem_append,List.mem_singleton]
      rcases hb with hb | hb | hb
      ·exact .inl (.inl (.inl hb))
      ·exact .inl (.inl (.inr hb))
      ·exact .inl (.inr hb)
     ·exact WO.nil (WX.eY (v:=undef) (by rw [ai,if_pos rfl]) ⟨by simp,fun h=>absurd h hc,fun _=>rfl⟩ (Kp.refl w))
    ·cases hs
   ·split at hs
    ·rename_i r hall hpv
     cases hs
     refine ⟨rfl,jB h hch (fun j b hj hb=>bj.2 ⟨j,b,by simp,hj,by simp [hb]⟩) hg' hdn (fun hc=>?_) (fun hc=>?_)⟩
     ·have hgv:=(gP hg').1.2 hc
      have hfr:=oa (l:=l) (vs:=vs) (F:=F) hf (p:=p) (deps:=aX (mZ op++gs) 0 p) fun j hj=>by
       obtain ⟨b,hb,hpre⟩:=jo hall j hj
       obtain ⟨b',hb',hv⟩:=h.dep j hj
       rw [hb] at hb'; cases hb'
       exact ⟨b,hb,h.dst j b (h.pre j b hb),hv.2.1 (jV hpre hc)⟩
      refine WO.y (hU (ty:=ty) hT hO hR hfr hpv (mI hob (by rw [jr]; exact hgv))) hd fun v w' ⟨hk,hv,hfc⟩=>?_
      exact WO.nil (WX.eY (v:=v) (by simp only [cV]; rw [ai,if_pos rfl]) ⟨iN fun _=>hfc,fun _=>hv,fun h=>absurd hc h⟩ hk)
     ·refine WO.nil (WX.eY (v:=undef) (by rw [ai,if_pos rfl]) ⟨iN fun he=>?_,fun h=>absurd h hc,fun _=>rfl⟩ (Kp.refl w))
      rw [jr] at he
      exact absurd ((gP hg').1.1 he) hc
    ·cases hs
  ·cases hs
 ·cases hs
end
theorem aA {a:List Nat}:∀ {l:List Nat},disj a l=true↔∀ i ∈ l,i ∉ a
 | []=>by simp [disj]
 | j :: r=>by simp only [disj,Bool.and_eq_true,aA,List.forall_mem_cons,Bool.not_eq_true',<- Bool.not_eq_true,aj]
theorem bU {n:Nat}:∀ {l:List Nat},eQ n l=true↔∀ i ∈ l,i<n
 | []=>by simp [eQ]
 | j :: r=>by
  have:Nat.blt j n=true↔j<n:=by rw [Nat.blt_eq]
  simp [eQ,bU,this]
theorem fh {σ:List Nat}:∀ {H:AH} {k p:Nat},(maskH σ k H)[p]? = (H[p]?).map fun o=>if k+p ∈ σ then o else .loc
 | [],_,_=>by simp [maskH]
 | o :: r,k,0=>by
  simp only [maskH,List.getElem?_cons_zero,Option.map_some,Nat.add_zero]
  cases h:aw k σ with
  | true=>rw [if_pos (aj.1 h)]; rfl
  | false=>rw [if_neg fun hm=>by rw [aj.2 hm] at h; cases h]; rfl
 | o :: r,k,p+1=>by
  simp only [maskH,List.getElem?_cons_succ,fh,Nat.add_right_comm]
  rw [Nat.add_assoc]
theorem fT {σ:List Nat}:∀ {H:AH} {k:Nat},(maskH σ k H).length=H.length
 | [],_=>rfl
 | _ :: r,k=>by simp [maskH,fT (H:=r)]
def RC.obj (r:RC) (p:Nat) (o:AO):AO:=if p ∈ r.ch then (match r.ent with
 | some e=>e.put o
 | none=>getO r.res p) else killO r.mv o
theorem jj {r:RC}:∀ {H:AH} {k p:Nat},(dv r.ch r.mv r.ent r.res k H)[p]? = (H[p]?).map (r.obj (k+p))
 | [],_,_=>by simp [dv]
 | o :: l,k,0=>by
  simp only [dv,List.getElem?_cons_zero,Option.map_some,Nat.add_zero,RC.obj]
  cases h:aw k r.ch with
  | true=>rw [if_pos (aj.1 h)]; cases r.ent <;> rfl
  | false=>rw [if_neg fun hm=>by rw [aj.2 hm] at h; cases h]; rfl
 | o :: l,k,p+1=>by
  simp only [dv,List.getElem?_cons_succ,jj]
  rw [Nat.add_assoc,Nat.add_comm 1 p]
theorem bZ {ch mv:List Nat} {e:Option Ent} {res:AH}:∀ {H:AH} {k:Nat},(dv ch mv e res k H).length=H.length
 | [],_=>rfl
 | _ :: r,k=>by simp [dv,bZ (H:=r)]
def killTV (mv:List Nat) (v:TV):TV:=match mv with
 | []=>v
 | _ :: _=>v.mapA (AV.ay mv)
theorem hP {g:AV->AV} {t:Nat}:∀ {fr:AFr},lookA (dm g fr) t=(lookA fr t).map (TV.mapA g)
 | []=>rfl
 | (i,v) :: r=>by
  simp only [dm,lookA]
  cases Nat.beq i t
  ·exact hP
  ·rfl
theorem mW {mv:List Nat} {fr:AFr} {t:Nat}:lookA (qg mv fr) t=(lookA fr t).map (killTV mv):=by
 cases mv with
 | nil=>cases h:lookA fr t <;> simp [qg,killTV,h]
 | cons a r=>exact hP
theorem oU {d:Option Nat} {v:TV} {fr:AFr} {t:Nat}:lookA (gC d v fr) t=if d=some t then some v else lookA fr t:=by
 cases d with
 | none=>simp [gC]
 | some d=>simp only [gC,aM,Option.some.injEq]
structure RC.Fit (r:RC):Prop where
 base:r.base=r.H0.length
 le:r.base<=r.res.length
theorem az {r:RC} {q:AFr × AH} (h:r.Fit) (hq:q.2.length=r.base):(r.app q).2.length=r.res.length:=by
 have:=h.le
 simp only [RC.app,List.length_append,bZ,List.length_drop]; omega
theorem bN {r:RC} {q:AFr × AH} (h:r.Fit) (hq:q.2.length=r.base) {p:Nat}:(r.app q).2[p]? = if p<r.base then (q.2[p]?).map (r.obj p) else r.res[p]?:=by
 have:=h.le
 simp only [RC.app]
 by_cases hp:p<r.base
 ·rw [if_pos hp,List.getElem?_append_left (by rw [bZ]; omega),jj,Nat.zero_add]
 ·rw [if_neg hp,List.getElem?_append_right (by rw [bZ]; omega),bZ,List.getElem?_drop]
  congr 1; omega
theorem cn {r:RC} {q:AFr × AH} {t:Nat}:lookA (r.app q).1 t=if r.dst=some t then some r.v else (lookA q.1 t).map (killTV r.mv):=by
 simp only [RC.app,oU,mW]
def RC.oY (r:RC) (q:AFr × AH):AFr × AH:=(q.1,q.2++List.replicate (r.res.length - r.base) .gone)
theorem bT {r:RC} {q:AFr × AH} (h:r.Fit) (hq:q.2.length=r.base):(r.oY q).2.length=r.res.length:=by
 have:=h.le
 simp only [RC.oY,List.length_append,List.length_replicate]; omega
theorem cb {r:RC} {q:AFr × AH} (h:r.Fit) (hq:q.2.length=r.base) {p:Nat}:(r.oY q).2[p]? = if p<r.base then q.2[p]? else if p<r.res.length then some .gone else none:=by
 have:=h.le
 simp only [RC.oY]
 by_cases hp:p<r.base
 ·rw [if_pos hp,List.getElem?_append_left (by omega)]
 ·rw [if_neg hp,List.getElem?_append_right (by omega),List.getElem?_replicate]
  by_cases h2:p<r.res.length
  ·rw [if_pos h2,if_pos (by omega)]
  ·rw [if_neg h2,if_neg (by omega)]
def cE (s:Nat->Bool):Nat->List RC->AFr × AH->AFr × AH
 | _,[],q=>q
 | i,r :: rs,q=>cE s (i+1) rs (bif s i then r.app q else r.oY q)
def prg:List RC->AFr × AH->AFr × AH
 | [],q=>q
 | r :: rs,q=>prg rs (r.app q)
def bz:AFr × AH->List RC->Prop
 | _,[]=>True
 | q,r :: rs=>r.fr0=q.1/\r.H0=q.2/\r.Fit/\bz (r.app q) rs
theorem ow {s:Nat->Bool}:∀ {a b:List RC} {k:Nat} {q:AFr × AH},cE s k (a++b) q=cE s (k+a.length) b (cE s k a q)
 | [],_,_,_=>by simp [cE]
 | r :: a,b,k,q=>by
  simp only [List.cons_append,cE,ow (a:=a),List.length_cons]
  congr 1; omega
theorem fo {s s':Nat->Bool}:∀ {rs:List RC} {k:Nat} {q:AFr × AH},(∀ i,k<=i->i<k+rs.length->s i=s' i)->cE s k rs q=cE s' k rs q
 | [],_,_,_=>rfl
 | r :: rs,k,q,h=>by
  simp only [cE]
  rw [h k (Nat.le_refl _) (by simp)]
  exact fo fun i h1 h2=>h i bK (by simp at h2 ⊢; omega)
theorem kn {s:Nat->Bool}:∀ {rs:List RC} {k:Nat} {q p:AFr × AH},bz p rs->q.2.length=p.2.length->(cE s k rs q).2.length=(prg rs p).2.length
 | [],_,_,_,_,h=>h
 | r :: rs,k,q,p,hc,h=>by
  obtain ⟨_,h2,h3,h4⟩:=hc
  have hb:=h3.base
  rw [h2] at hb
  simp only [cE,prg]
  refine kn h4 ?_
  cases s k
  ·exact (bT h3 bK).trans (az h3 hb.symm).symm
  ·exact (az h3 bK).trans (az h3 hb.symm).symm
theorem mQ:∀ {rs:List RC} {p:AFr × AH},bz p rs->p.2.length<=(prg rs p).2.length
 | [],_,_=>Nat.le_refl _
 | r :: rs,p,hc=>by
  obtain ⟨_,h2,h3,h4⟩:=hc
  have hb:=h3.base
  rw [h2] at hb
  have:=mQ h4
  rw [az h3 hb.symm] at this
  have:=h3.le
  simp only [prg]; omega
theorem bz.rS:∀ {a b:List RC} {p:AFr × AH},bz p (a++b)↔bz p a/\bz (prg a p) b
 | [],b,p=>by simp [bz,prg]
 | r :: a,b,p=>by simp only [List.cons_append,bz,prg,bz.rS (a:=a),and_assoc]
theorem ke:∀ {a b:List RC} {p:AFr × AH},prg (a++b) p=prg b (prg a p)
 | [],_,_=>rfl
 | r :: a,b,p=>by simp only [List.cons_append,prg,ke (a:=a)]
theorem bI {mv:List Nat} {a:AV} (h:∀ i ∈ a.rids,i ∉ mv):a.ay mv=a:=by
 have key:∀ j,j ∉ mv->aw j mv=false:=fun j hj=>by rw [<- Bool.not_eq_true,aj]; exact hj
 cases a with
 | own j=>simp [AV.ay,key j (h j (by simp [AV.rids]))]
 | sub j _ _=>simp [AV.ay,key j (h j (by simp [AV.rids]))]
 | elp j _ _=>simp [AV.ay,key j (h j (by simp [AV.rids]))]
 | _=>rfl
theorem cR {i:Nat}:∀ {l:List AV} {a:AV},a ∈ l->i ∈ a.rids->i ∈ gR l
 | [],_,h,_=>by simp at h
 | b :: r,a,h,hi=>by
  simp only [gR,List.mem_append]
  rcases List.mem_cons.1 h with rfl | h
  ·exact .inl hi
  ·exact .inr (cR h hi)
theorem gL {g:AV->AV}:∀ {l:List AV},(∀ a ∈ l,g a=a)->hY g l=l
 | [],_=>rfl
 | a :: r,h=>by simp only [hY]; rw [h a (by simp),gL fun b hb=>h b (by simp [hb])]
theorem jb {g:AV->AV} {t:TV1} (h:∀ a ∈ t.cells,g a=a):t.mapA g=t:=by
 cases t with
 | c a=>simp only [TV1.mapA]; rw [h a (by simp [TV1.cells])]
 | agg l=>exact congrArg TV1.agg (gL h)
theorem jL {i:Nat}:∀ {l:List TV1} {t:TV1} {a:AV},t ∈ l->a ∈ t.cells->i ∈ a.rids->i ∈ om l
 | [],_,_,h,_,_=>by simp at h
 | b :: r,t,a,h,ha,hi=>by
  simp only [om,List.mem_append]
  rcases List.mem_cons.1 h with rfl | h
  ·exact .inl (cR ha hi)
  ·exact .inr (jL h ha hi)
theorem kL {g:AV->AV}:∀ {l:List TV1},(∀ t ∈ l,∀ a ∈ t.cells,g a=a)->kY g l=l
 | [],_=>rfl
 | a :: r,h=>by simp only [kY]; rw [jb (h a (by simp)),kL fun b hb=>h b (by simp [hb])]
theorem fW {mv:List Nat} {v:TV} (h:disj mv v.rids=true):killTV mv v=v:=by
 have h:=aA.1 h
 cases mv with
 | nil=>rfl
 | cons m r=>
  cases v with
  | one t=>exact congrArg TV.one (jb fun a ha=>bI fun i hi=>h i (cR ha hi))
  | tup l=>exact congrArg TV.tup (kL fun t ht a ha=>bI fun i hi=>h i (jL ht ha hi))
  | un=>rfl
theorem eC {mv:List Nat} {o:AO} (h:disj mv o.rids=true):killO mv o=o:=by
 have h:=aA.1 h
 cases mv with
 | nil=>rfl
 | cons m r=>
  cases o with
  | box t cs=>exact congrArg (AO.box t) (gL fun a ha=>bI fun i hi=>h i (cR ha hi))
  | mapf l=>
   show AO.mapf (mapM _ l)=_
   rw [gG]
   congr 1
   refine (List.map_congr_left fun q hq=>?_).trans (List.map_id _)
   have e:=bI (mv:=m :: r) (a:=q.2) fun i hi=>h i (cR (List.mem_map_of_mem hq) hi)
   show (q.1,AV.ay (m :: r) q.2)=q
   rw [e]
  | _=>rfl
theorem iE {a b:List Nat} {x:AV}:(x.ay a).ay b=(x.ay b).ay a:=by
 cases x with
 | own j=>cases h1:aw j a <;> cases h2:aw j b <;> simp [AV.ay,h1,h2]
 | sub j _ _=>cases h1:aw j a <;> cases h2:aw j b <;> simp [AV.ay,h1,h2]
 | elp j _ _=>cases h1:aw j a <;> cases h2:aw j b <;> simp [AV.ay,h1,h2]
 | _=>rfl
theorem fu {g h:AV->AV}:∀ {l:List AV},hY g (hY h l)=hY (fun a=>g (h a)) l
 | []=>rfl
 | a :: r=>by simp [hY,fu (l:=r)]
theorem iw {g h:AV->AV} {t:TV1}:(t.mapA h).mapA g=t.mapA fun a=>g (h a):=by
 cases t with
 | c a=>rfl
 | agg l=>simp [TV1.mapA,fu]
theorem jw {g h:AV->AV}:∀ {l:List TV1},kY g (kY h l)=kY (fun a=>g (h a)) l
 | []=>rfl
 | a :: r=>by simp [kY,iw,jw (l:=r)]
theorem me {a b:List Nat} {v:TV}:killTV b (killTV a v)=killTV a (killTV b v):=by
 cases a with
 | nil=>rfl
 | cons x r=>
  cases b with
  | nil=>rfl
  | cons y q=>
   have e:(fun z:AV=>(z.ay (x :: r)).ay (y :: q))=fun z=>(z.ay (y :: q)).ay (x :: r):=funext fun z=>iE
   cases v with
   | one t=>simp only [killTV,TV.mapA,iw,e]
   | tup l=>simp only [killTV,TV.mapA,jw,e]
   | un=>rfl
theorem pw {g h:AV->AV} {l:List (Int × AV)}:mapM g (mapM h l)=mapM (fun a=>g (h a)) l:=by
 induction l with
 | nil=>rfl
 | cons q r ih=>obtain ⟨k,a⟩:=q; simp [mapM,ih]
theorem na {a b:List Nat} {o:AO}:killO b (killO a o)=killO a (killO b o):=by
 cases a with
 | nil=>rfl
 | cons x r=>
  cases b with
  | nil=>rfl
  | cons y q=>
   have e:(fun z:AV=>(z.ay (x :: r)).ay (y :: q))=fun z=>(z.ay (y :: q)).ay (x :: r):=funext fun z=>iE
   cases o with
   | box t cs=>simp only [killO,AO.mapA,fu,e]
   | mapf l=>simp only [killO,AO.mapA,pw,e]
   | _=>rfl
theorem iW {a:List Nat}:killO a .gone = .gone:=by cases a <;> rfl
inductive AOq:AO->AO->Prop
 | rfl {o:AO}:AOq o o
 | map {l l':List (Int × AV)}:(∀ k,lookF k l=lookF k l')->AOq (.mapf l) (.mapf l')
theorem AOq.or {c:Cx} {ρ:List RE} {o o':AO} {r:RE} (h:AOq o o') (k:OR c ρ o r):OR c ρ o' r:=by
 cases h with
 | rfl=>exact k
 | map hl=>
  obtain ⟨g,e,a,n,h1,h2,h3⟩:=k
  exact ⟨g,e,a,n,h1,h2,fun k=>by rw [<- hl]; exact h3 k⟩
theorem AOq.trans {a b c:AO} (h:AOq a b) (k:AOq b c):AOq a c:=by
 cases h with
 | rfl=>exact k
 | map h=>
  cases k with
  | rfl=>exact .map h
  | map k=>exact .map fun x=>(h x).trans (k x)
theorem AOq.symm {a b:AO} (h:AOq a b):AOq b a:=by
 cases h with
 | rfl=>exact .rfl
 | map h=>exact .map fun x=>(h x).symm
theorem ft {g:AV->AV} {k:Int}:∀ {l:List (Int × AV)},lookF k (mapM g l)=(lookF k l).map g
 | []=>rfl
 | (j,a) :: r=>by
  simp only [mapM,lookF]
  by_cases h:k=j
  ·rw [if_pos h,if_pos h]; rfl
  ·rw [if_neg h,if_neg h]; exact ft
theorem AOq.kill {mv:List Nat} {o o':AO} (h:AOq o o'):AOq (killO mv o) (killO mv o'):=by
 cases h with
 | rfl=>exact .rfl
 | map h=>
  cases mv with
  | nil=>exact .map h
  | cons a r=>exact .map fun k=>by rw [ft,ft,h]
theorem AOq.put {e:Ent} {o o':AO} (h:AOq o o'):AOq (e.put o) (e.put o'):=by
 cases h with
 | rfl=>exact .rfl
 | map h=>
  cases e with
  | fn k a=>exact .map fun j=>by simp only [lookF,h]
  | da s k x=>exact .map h
theorem rl {j k:Int} {b:AV} {s:Sh} {x:den s} {o:AO}:(Ent.fn j b).put ((Ent.da s k x).put o)=(Ent.da s k x).put ((Ent.fn j b).put o):=by
 cases o with
 | mapo s' g=>
  by_cases h:s' = s
  ·subst h; simp only [Ent.put,dif_pos]
  ·simp only [Ent.put,dif_neg h]
 | _=>rfl
theorem put_comm {e f:Ent} {o:AO} (h:e.key≠f.key):AOq (f.put (e.put o)) (e.put (f.put o)):=by
 cases e with
 | fn k a=>
  cases f with
  | fn j b=>
   cases o with
   | mapf l=>
    refine .map fun i=>?_
    simp only [lookF]
    have h:k≠j:=h
    by_cases h1:i=j
    ·rw [if_pos h1,if_neg (show ¬ i=k by omega),if_pos h1]
    ·rw [if_neg h1]
     by_cases h2:i=k
     ·rw [if_pos h2,if_pos h2]
     ·rw [if_neg h2,if_neg h2,if_neg h1]
   | _=>exact .rfl
  | da s j x=>rw [rl]; exact .rfl
 | da s k x=>
  cases f with
  | fn j b=>rw [rl]; exact .rfl
  | da s2 j y=>
   cases o with
   | mapo s' g=>
    by_cases h1:s' = s
    ·by_cases h2:s' = s2
     ·subst h1; subst h2
      simp only [Ent.put,dif_pos]
      have e2:(fun i=>if i=j then some y else if i=k then some x else g i)=fun i=>if i=k then some x else if i=j then some y else g i:=by
       funext i
       have h:k≠j:=h
       by_cases h1:i=j
       ·rw [if_pos h1,if_neg (show ¬ i=k by omega),if_pos h1]
       ·rw [if_neg h1]
        by_cases h2:i=k
        ·rw [if_pos h2,if_pos h2]
        ·rw [if_neg h2,if_neg h2,if_neg h1]
      rw [e2]
      exact .rfl
     ·subst h1
      simp only [Ent.put,dif_pos,dif_neg h2]
      exact .rfl
    ·by_cases h2:s' = s2
     ·subst h2
      simp only [Ent.put,dif_neg h1,dif_pos]
      exact .rfl
     ·simp only [Ent.put,dif_neg h1,dif_neg h2]
      exact .rfl
   | _=>exact .rfl
theorem ma {e:Ent} {mv:List Nat} {o:AO} (h:∀ k a,e = .fn k a->disj mv a.rids=true):killO mv (e.put o)=e.put (killO mv o):=by
 cases mv with
 | nil=>rfl
 | cons m r=>
  cases e with
  | fn k a=>
   cases o with
   | mapf l=>
    have:=bI (mv:=m :: r) (a:=a) (aA.1 (h k a rfl))
    simp only [killO,Ent.put,AO.mapA,mapM,this]
   | _=>rfl
  | da s k x=>
   cases o with
   | mapo s' g=>
    by_cases h:s' = s
    ·subst h; simp only [Ent.put,dif_pos,killO,AO.mapA]
    ·simp only [Ent.put,dif_neg h,killO,AO.mapA]
   | _=>rfl
def kd:AO->Option (Option Sh)
 | .mapf _=>some none
 | .mapo s _=>some (some s)
 | _=>none
theorem kj {e:Ent} {o:AO}:kd (e.put o)=kd o:=by
 cases e with
 | fn k a=>cases o <;> rfl
 | da s k x=>
  cases o with
  | mapo s' g=>
   simp only [Ent.put]
   split
   ·rename_i h; subst h; rfl
   ·rfl
  | _=>rfl
theorem gO {mv:List Nat} {o:AO}:kd (killO mv o)=kd o:=by cases mv <;> cases o <;> rfl
theorem ld {mv:List Nat}:∀ {H:AH} {k p:Nat} {o:AO},H[p]? = some o->k+p ∉ oV mv k H->disj mv o.rids=true
 | [],_,_,_,h,_=>by simp at h
 | x :: r,k,0,o,h,hn=>by
  simp at h; subst h
  simp only [oV] at hn
  cases hd:disj mv x.rids with
  | true=>rfl
  | false=>rw [hd] at hn; simp at hn
 | x :: r,k,p+1,o,h,hn=>by
  refine ld (H:=r) (k:=k+1) (p:=p) (by simpa using h) fun hm=>hn ?_
  simp only [oV]
  have e:k+1+p=k+(p+1):=by omega
  rw [e] at hm
  cases disj mv x.rids
  ·exact List.mem_cons_of_mem _ hm
  ·exact hm
theorem lp {mv:List Nat}:∀ {fr:AFr} {t:Nat} {v:TV},lookA fr t=some v->t ∉ qF mv fr->disj mv v.rids=true
 | [],_,_,h,_=>by cases h
 | (i,x) :: r,t,v,h,hn=>by
  rw [aM] at h
  simp only [qF] at hn
  by_cases hi:i=t
  ·rw [if_pos hi] at h; cases h
   cases hd:disj mv x.rids with
   | true=>rfl
   | false=>rw [hd] at hn; simp [hi] at hn
  ·rw [if_neg hi] at h
   refine lp h fun hm=>hn ?_
   cases disj mv x.rids
   ·exact List.mem_cons_of_mem _ hm
   ·exact hm
theorem eG {fr:AFr} {i t:Nat} {v:TV} (hv:lookA fr t=some v) (hi:i ∈ v.rids):∀ {U:List Nat},t ∈ U->i ∈ eN fr U
 | [],h=>by simp at h
 | u :: r,h=>by
  simp only [eN,List.mem_append]
  rcases List.mem_cons.1 h with rfl | h
  ·left; rw [hv]; exact hi
  ·exact .inr (eG hv hi h)
theorem gi {fr:AFr} {i t:Nat} {v:TV} (hv:lookA fr t=some v) (hi:i ∈ v.ids):∀ {U:List Nat},t ∈ U->i ∈ slotIds fr U
 | [],h=>by simp at h
 | u :: r,h=>by
  simp only [slotIds,List.mem_append]
  rcases List.mem_cons.1 h with rfl | h
  ·left; rw [hv]; exact hi
  ·exact .inr (gi hv hi h)
theorem cC {H:AH} {i p:Nat} (hi:i ∈ (getO H p).rids):∀ {l:List Nat},p ∈ l->i ∈ dS H l
 | [],h=>by simp at h
 | u :: r,h=>by
  simp only [dS,List.mem_append]
  rcases List.mem_cons.1 h with rfl | h
  ·exact .inl hi
  ·exact .inr (cC hi h)
theorem je {H:AH} {i p:Nat} (hi:i ∈ (getO H p).ids):∀ {l:List Nat},p ∈ l->i ∈ objIds H l
 | [],h=>by simp at h
 | u :: r,h=>by
  simp only [objIds,List.mem_append]
  rcases List.mem_cons.1 h with rfl | h
  ·exact .inl hi
  ·exact .inr (je hi h)
theorem fa {r:RC} (h:r.Fit) {p:Nat}:p ∈ r.new↔r.base<=p/\p<r.res.length:=by
 have:=h.le
 rw [RC.new,rh]; omega
theorem bP {H:AH} {p:Nat} {o:AO} (h:H[p]? = some o):getO H p=o:=by unfold getO; rw [List.getD_eq_getElem?_getD,h]; rfl
structure OkD (a b:RC):Prop where
 dst:∀ d,b.dst=some d->d ∉ a.U
 chσ:∀ p ∈ a.σ,p ∉ b.ch
 chn:∀ p ∈ a.new,p ∉ b.ch
 nσ:∀ p ∈ a.σ,p ∉ b.new
 nch:∀ p ∈ a.ch,p ∉ b.new
 kp:∀ p ∈ a.σ,∀ o,b.H0[p]? = some o->killO b.mv o=o
 ks:∀ t ∈ a.U,∀ v,lookA b.fr0 t=some v->killTV b.mv v=v
 sl:∀ t ∈ a.U,∀ v,lookA a.fr0 t=some v->killTV b.mv v=v
 ob:∀ p ∈ a.σ,killO b.mv (getO a.H0 p)=getO a.H0 p
 v:killTV b.mv a.v=a.v
 rc:∀ p ∈ a.ch,killO b.mv (getO a.res p)=getO a.res p
 rn:∀ p ∈ a.new,killO b.mv (getO a.res p)=getO a.res p
 en:∀ k x,a.ent=some (.fn k x)->disj b.mv x.rids=true
theorem rA {l:List Nat}:disj [] l=true:=aA.2 fun _ _ h=>by simp at h
theorem fb {mv l l':List Nat} (h:disj mv l=true) (hs:∀ i ∈ l',i ∈ l):disj mv l' = true:=aA.2 fun i hi=>aA.1 h i (hs i hi)
theorem ns {a b:RC} (h:w_ a b=true):OkD a b:=by
 simp only [w_,Bool.and_eq_true] at h
 obtain ⟨⟨⟨⟨⟨h1,h2⟩,h3⟩,h4⟩,h5⟩,h6⟩:=h
 have hd:∀ d,b.dst=some d->d ∉ a.U:=fun d hd hm=>by
  simp only [hd,tZ,aj.2 hm,Bool.not_true] at h1; cases h1
 refine ⟨hd,aA.1 h2,aA.1 h3,aA.1 h4,aA.1 h5,?_,?_,?_,?_,?_,?_,?_,?_⟩ <;> (cases hmv:b.mv with
  | nil=>intros; first | rfl | exact rA
  | cons m r=>?_) <;> (rw [hmv] at h6; simp only [Bool.and_eq_true] at h6; obtain ⟨⟨⟨⟨⟨⟨⟨k1,k2⟩,k3⟩,k4⟩,k5⟩,k6⟩,k7⟩,k8⟩:=h6)
 ·intro p hp o ho
  exact eC (ld (k:=0) ho (by rw [Nat.zero_add]; exact aA.1 k1 p hp))
 ·intro t ht v hv
  exact fW (lp hv (aA.1 k2 t ht))
 ·intro t ht v hv
  exact fW (fb k3 fun i hi=>eG hv hi ht)
 ·intro p hp
  exact eC (fb k4 fun i hi=>cC hi hp)
 ·exact fW k5
 ·intro p hp
  exact eC (fb k6 fun i hi=>cC hi hp)
 ·intro p hp
  exact eC (fb k7 fun i hi=>cC hi hp)
 ·intro k x hx
  rw [hx] at k8; exact k8
theorem RC.bf {r:RC} {p:Nat} {o:AO} (h:p ∉ r.ch):r.obj p o=killO r.mv o:=by rw [RC.obj,if_neg h]
structure Agr (b:RC) (q p:AFr × AH):Prop where
 len:q.2.length=p.2.length
 ob:∀ x ∈ b.σ,q.2[x]? = p.2[x]?
 kd:∀ x ∈ b.ch,(q.2[x]?).map kd=(p.2[x]?).map kd
 sl:∀ t ∈ b.U,lookA q.1 t=lookA p.1 t
theorem kG {a b:RC} (h:okI a b=true) {p:Nat} (ha:p ∈ a.ch) (hb:p ∈ b.ch):∃ e f,a.ent=some e/\b.ent=some f/\e.key≠f.key:=by
 unfold okI at h
 split at h
 ·rename_i e f he hf
  simp only [Bool.or_eq_true,Bool.not_eq_true',decide_eq_false_iff_not] at h
  rcases h with h | h
  ·exact absurd ha (aA.1 h p hb)
  ·exact ⟨e,f,he,hf,h⟩
 ·exact absurd ha (aA.1 h p hb)
theorem nk {b:RC} {s:Nat->Bool}:∀ {rs:List RC} {k:Nat} {q p:AFr × AH},bz p rs->(∀ j r,rs[j]? = some r->s (k+j)=true\/(OkD b r/\okI b r=true))->Agr b q p->Agr b (cE s k rs q) (prg rs p)
 | [],_,_,_,_,_,h=>h
 | r :: rs,k,q,p,hc,hs,h=>by
  obtain ⟨h1,h2,h3,h4⟩:=hc
  have hb:p.2.length=r.base:=by rw [<- h2]; exact h3.base.symm
  have hqb:q.2.length=r.base:=h.len.trans hb
  simp only [cE,prg]
  refine nk h4 (fun j r' hj=>by have:=hs (j+1) r' (by simpa using hj); rwa [show k+(j+1)=k+1+j by omega] at this) ?_
  cases hk:s k with
  | true=>
   simp only [cond_true]
   refine ⟨(az h3 hqb).trans (az h3 hb).symm,fun x hx=>?_,fun x hx=>?_,fun t ht=>?_⟩
   ·rw [bN h3 hqb,bN h3 hb,h.ob x hx]
   ·rw [bN h3 hqb,bN h3 hb]
    by_cases hlt:x<r.base
    ·rw [if_pos hlt,if_pos hlt]
     have:=h.kd x hx
     have key:∀ o o',kd o=kd o' -> kd (r.obj x o)=kd (r.obj x o'):=fun o o' e=>by
      unfold RC.obj
      split
      ·split
       ·rw [kj,kj,e]
       ·rfl
      ·rw [gO,gO,e]
     cases hq:q.2[x]? <;> cases hp:p.2[x]? <;> rw [hq,hp] at this <;> simp at this ⊢
     exact key _ _ this
    ·rw [if_neg hlt,if_neg hlt]
   ·rw [cn,cn,h.sl t ht]
  | false=>
   simp only [cond_false]
   obtain ⟨hd,hi⟩:=(hs 0 r rfl).resolve_left (by rw [Nat.add_zero,hk]; simp)
   refine ⟨(bT h3 hqb).trans (az h3 hb).symm,fun x hx=>?_,fun x hx=>?_,fun t ht=>?_⟩
   ·rw [cb h3 hqb,bN h3 hb,h.ob x hx]
    by_cases hlt:x<r.base
    ·rw [if_pos hlt,if_pos hlt]
     cases hp:p.2[x]? with
     | none=>rfl
     | some o=>
      rw [Option.map_some,RC.bf (hd.chσ x hx),hd.kp x hx o (by rw [h2]; exact hp)]
    ·rw [if_neg hlt,if_neg hlt]
     have hn:=hd.nσ x hx
     rw [fa h3] at hn
     rw [if_neg (fun hh=>hn ⟨by omega,hh⟩),List.getElem?_eq_none (by omega)]
   ·rw [cb h3 hqb,bN h3 hb]
    by_cases hlt:x<r.base
    ·rw [if_pos hlt,if_pos hlt]
     have:=h.kd x hx
     cases hq:q.2[x]? <;> cases hp:p.2[x]? <;> rw [hq,hp] at this <;> simp at this ⊢
     rw [this]
     unfold RC.obj
     split
     ·rename_i hxr
      obtain ⟨e,f,_,hf,_⟩:=kG hi hx hxr
      rw [hf]; exact kj.symm
     ·exact gO.symm
    ·rw [if_neg hlt,if_neg hlt]
     have hn:=hd.nch x hx
     rw [fa h3] at hn
     rw [if_neg (fun hh=>hn ⟨by omega,hh⟩),List.getElem?_eq_none (by omega)]
   ·rw [cn,if_neg (fun e=>hd.dst t e ht)]
    show lookA q.1 t=_
    rw [h.sl t ht]
    cases hp:lookA p.1 t with
    | none=>rfl
    | some v=>rw [Option.map_some,hd.ks t ht v (by rw [h1]; exact hp)]
structure AgrB (b:RC) (q:AFr × AH):Prop where
 ob:∀ x ∈ b.σ,x<b.base->q.2[x]? = b.H0[x]?
 kd:∀ x ∈ b.ch,x<b.base->(q.2[x]?).map kd=(b.H0[x]?).map kd
 sl:∀ t ∈ b.U,lookA q.1 t=lookA b.fr0 t
 gn:∀ x,b.base<=x->x<b.res.length->q.2[x]? = some .gone
theorem mB {b:RC} (hbf:b.Fit) {s:Nat->Bool}:∀ {rs:List RC} {k:Nat} {q p:AFr × AH},bz p rs->b.res.length<=p.2.length->q.2.length=p.2.length->(∀ j r,rs[j]? = some r->s (k+j)=false\/(OkD b r/\okI b r=true))->AgrB b q->AgrB b (cE s k rs q)
 | [],_,_,_,_,_,_,_,h=>h
 | r :: rs,k,q,p,hc,hbl,hlen,hs,h=>by
  obtain ⟨h1,h2,h3,h4⟩:=hc
  have hb:p.2.length=r.base:=by rw [<- h2]; exact h3.base.symm
  have hqb:q.2.length=r.base:=hlen.trans hb
  have hle:=h3.le
  simp only [cE]
  have hl2:(bif s k then r.app q else r.oY q).2.length=(r.app p).2.length:=by
   cases s k
   ·exact (bT h3 hqb).trans (az h3 hb).symm
   ·exact (az h3 hqb).trans (az h3 hb).symm
  have hble:=hbf.le
  refine mB hbf h4 (by rw [az h3 hb]; omega) hl2 (fun j r' hj=>by have:=hs (j+1) r' (by simpa using hj); rwa [show k+(j+1)=k+1+j by omega] at this) ?_
  cases hk:s k with
  | false=>
   simp only [cond_false]
   refine ⟨fun x hx hlt=>?_,fun x hx hlt=>?_,fun t ht=>h.sl t ht,fun x hx hlt=>?_⟩
   ·rw [cb h3 hqb,if_pos (by omega)]; exact h.ob x hx hlt
   ·rw [cb h3 hqb,if_pos (by omega)]; exact h.kd x hx hlt
   ·rw [cb h3 hqb,if_pos (by omega)]; exact h.gn x hx hlt
  | true=>
   simp only [cond_true]
   obtain ⟨hd,hi⟩:=(hs 0 r rfl).resolve_left (by rw [Nat.add_zero,hk]; simp)
   refine ⟨fun x hx hlt=>?_,fun x hx hlt=>?_,fun t ht=>?_,fun x hx hlt=>?_⟩
   ·rw [bN h3 hqb,if_pos (by omega),h.ob x hx hlt]
    cases hp:b.H0[x]? with
    | none=>rfl
    | some o=>
     have:=hd.ob x hx
     rw [bP hp] at this
     rw [Option.map_some,RC.bf (hd.chσ x hx),this]
   ·rw [bN h3 hqb,if_pos (by omega),<- h.kd x hx hlt]
    cases hq:q.2[x]? with
    | none=>rfl
    | some o=>
     simp only [Option.map_some,Option.some.injEq]
     unfold RC.obj
     split
     ·rename_i hxr
      obtain ⟨e,f,_,hf,_⟩:=kG hi hx hxr
      rw [hf]; exact kj
     ·exact gO
   ·rw [cn,if_neg (fun e=>hd.dst t e ht),h.sl t ht]
    cases hp:lookA b.fr0 t with
    | none=>rfl
    | some v=>rw [Option.map_some,hd.sl t ht v hp]
   ·rw [bN h3 hqb,if_pos (by omega),h.gn x hx hlt,Option.map_some,RC.bf (hd.chn x ((fa hbf).2 ⟨hx,hlt⟩)),iW]
def RC.endO (b:RC) (x:Nat) (o:AO):AO:=if b.base<=x/\x<b.res.length then getO b.res x else b.obj x o
def RC.endF (b:RC) (t:Nat) (v:Option TV):Option TV:=if b.dst=some t then some b.v else v.map (killTV b.mv)
inductive OOq:Option AO->Option AO->Prop
 | none:OOq none none
 | some {o o':AO}:AOq o o' -> OOq (some o) (some o')
structure Rel (b:RC) (q' q:AFr × AH):Prop where
 len:q'.2.length=q.2.length
 ob:∀ x,OOq (q'.2[x]?) ((q.2[x]?).map (b.endO x))
 sl:∀ t,lookA q'.1 t=b.endF t (lookA q.1 t)
theorem OOq.refl:∀ o:Option AO,OOq o o
 | .none=>.none
 | .some _=>.some .rfl
theorem px {b:RC} (hb:b.Fit) {q:AFr × AH} (hq:q.2.length=b.base):Rel b (b.app q) (b.oY q):=by
 refine ⟨(az hb hq).trans (bT hb hq).symm,fun x=>?_,fun t=>cn⟩
 rw [bN hb hq,cb hb hq]
 by_cases h1:x<b.base
 ·rw [if_pos h1,if_pos h1]
  have:(q.2[x]?).map (b.obj x)=(q.2[x]?).map (b.endO x):=by
   cases q.2[x]? with
   | none=>rfl
   | some o=>simp only [Option.map_some,RC.endO,if_neg (show ¬ (b.base<=x/\x<b.res.length) by omega)]
  rw [this]; exact .refl _
 ·rw [if_neg h1,if_neg h1]
  by_cases h2:x<b.res.length
  ·rw [if_pos h2,Option.map_some,RC.endO,if_pos ⟨by omega,h2⟩,List.getElem?_eq_getElem h2]
   exact .some (by rw [bP (List.getElem?_eq_getElem h2)]; exact .rfl)
  ·rw [if_neg h2,List.getElem?_eq_none (by omega)]; exact .none
theorem tP {b r:RC} (hb:b.Fit) (hdb:OkD b r) (hdr:OkD r b) (hi:okI b r=true) {x:Nat} {o o':AO} (h:AOq o' (b.endO x o)):AOq (r.obj x o') (b.endO x (r.obj x o)):=by
 by_cases hn:b.base<=x/\x<b.res.length
 ·-- b's own
  have hxb:x ∈ b.new:=(fa hb).2 hn
  have hxr:x ∉ r.ch:=hdb.chn x hxb
  simp only [RC.endO,if_pos hn] at h ⊢
  rw [RC.bf hxr]
  have:=(h.kill (mv:=r.mv)).trans (by rw [hdb.rn x hxb]; exact .rfl)
  exact this
 ·simp only [RC.endO,if_neg hn] at h ⊢
  by_cases hxb:x ∈ b.ch
  ·by_cases hxr:x ∈ r.ch
   ·obtain ⟨e,f,he,hf,hne⟩:=kG hi hxb hxr
    simp only [RC.obj,if_pos hxb,if_pos hxr,he,hf] at h ⊢
    exact (h.put (e:=f)).trans (put_comm hne)
   ·rw [RC.bf hxr,RC.bf hxr]
    cases he:b.ent with
    | some e=>
     simp only [RC.obj,if_pos hxb,he] at h ⊢
     refine (h.kill (mv:=r.mv)).trans ?_
     rw [ma fun k a hk=>hdb.en k a (by rw [he,hk])]
     exact .rfl
    | none=>
     simp only [RC.obj,if_pos hxb,he] at h ⊢
     have:=h.kill (mv:=r.mv)
     rwa [hdb.rc x hxb] at this
  ·rw [RC.bf hxb] at h ⊢
   by_cases hxr:x ∈ r.ch
   ·cases he:r.ent with
    | some e=>
     simp only [RC.obj,if_pos hxr,he]
     refine (h.put (e:=e)).trans ?_
     rw [ma fun k a hk=>hdr.en k a (by rw [he,hk])]
     exact .rfl
    | none=>
     simp only [RC.obj,if_pos hxr,he]
     rw [hdr.rc x hxr]; exact .rfl
   ·rw [RC.bf hxr,RC.bf hxr,na]
    exact h.kill
theorem qB {b r:RC} (hb:b.Fit) (hr:r.Fit) (hdb:OkD b r) (hdr:OkD r b) (hi:okI b r=true) (hds:∀ d,b.dst=some d->r.dst≠some d) {q' q:AFr × AH} (hq:q.2.length=r.base) (hbr:b.res.length<=r.base) (h:Rel b q' q):Rel b (r.app q') (r.app q):=by
 have hq':q'.2.length=r.base:=h.len.trans hq
 refine ⟨(az hr hq').trans (az hr hq).symm,fun x=>?_,fun t=>?_⟩
 ·rw [bN hr hq',bN hr hq]
  by_cases hlt:x<r.base
  ·rw [if_pos hlt,if_pos hlt]
   have:=h.ob x
   cases hx':q'.2[x]? <;> cases hx:q.2[x]? <;> rw [hx',hx] at this <;> simp only [Option.map_some,Option.map_none] at this ⊢ <;> cases this
   ·exact .none
   ·rename_i hh; exact .some (tP hb hdb hdr hi hh)
  ·rw [if_neg hlt,if_neg hlt]
   cases hx:r.res[x]? with
   | none=>exact .none
   | some o=>
    refine .some ?_
    have hlx:=(List.getElem?_eq_some_iff.1 hx).1
    have hxn:x ∈ r.new:=(fa hr).2 ⟨by omega,hlx⟩
    have h1:=hdr.rn x hxn
    rw [bP hx] at h1
    have h2:x ∉ b.ch:=hdr.chn x hxn
    rw [RC.endO,if_neg (by omega),RC.bf h2,h1]
    exact .rfl
 ·rw [cn,cn,h.sl t]
  unfold RC.endF
  by_cases hrt:r.dst=some t
  ·rw [if_pos hrt,if_pos hrt,if_neg (fun e=>hds t e hrt),Option.map_some,hdr.v]
  ·rw [if_neg hrt,if_neg hrt]
   by_cases hbt:b.dst=some t
   ·rw [if_pos hbt,if_pos hbt,Option.map_some,hdb.v]
   ·rw [if_neg hbt,if_neg hbt,Option.map_map,Option.map_map]
    cases lookA q.1 t with
    | none=>rfl
    | some v=>simp only [Option.map_some,Function.comp,me]
theorem sM {b r:RC} (hb:b.Fit) (hr:r.Fit) (hdr:∀ x ∈ b.ch,x<b.base) {q' q:AFr × AH} (hq:q.2.length=r.base) (hbr:b.res.length<=r.base) (h:Rel b q' q):Rel b (r.oY q') (r.oY q):=by
 have hq':q'.2.length=r.base:=h.len.trans hq
 have hble:=hb.le
 refine ⟨(bT hr hq').trans (bT hr hq).symm,fun x=>?_,h.sl⟩
 rw [cb hr hq',cb hr hq]
 by_cases hlt:x<r.base
 ·rw [if_pos hlt,if_pos hlt]; exact h.ob x
 ·rw [if_neg hlt,if_neg hlt]
  by_cases h2:x<r.res.length
  ·rw [if_pos h2,Option.map_some,RC.endO,if_neg (by omega),RC.bf (fun hm=>by have:=hdr x hm; omega),iW]
   exact .some .rfl
  ·rw [if_neg h2]; exact .none
theorem nS {b:RC} (hb:b.Fit) (hch:∀ x ∈ b.ch,x<b.base) {s:Nat->Bool}:∀ {rs:List RC} {k:Nat} {q' q p:AFr × AH},bz p rs->b.res.length<=p.2.length->q.2.length=p.2.length->(∀ j r,rs[j]? = some r->(s (k+j)=false\/(OkD b r/\OkD r b/\okI b r=true))/\∀ d,b.dst=some d->r.dst≠some d)->Rel b q' q->Rel b (cE s k rs q') (cE s k rs q)
 | [],_,_,_,_,_,_,_,_,h=>h
 | r :: rs,k,q',q,p,hc,hbl,hlen,hs,h=>by
  obtain ⟨_,h2,h3,h4⟩:=hc
  have hb0:p.2.length=r.base:=by rw [<- h2]; exact h3.base.symm
  have hqb:q.2.length=r.base:=hlen.trans hb0
  have hle:=h3.le
  simp only [cE]
  have hl2:(bif s k then r.app q else r.oY q).2.length=(r.app p).2.length:=by
   cases s k
   ·exact (bT h3 hqb).trans (az h3 hb0).symm
   ·exact (az h3 hqb).trans (az h3 hb0).symm
  refine nS hb hch h4 (by rw [az h3 hb0]; omega) hl2 (fun j r' hj=>by have:=hs (j+1) r' (by simpa using hj); rwa [show k+(j+1)=k+1+j by omega] at this) ?_
  cases hk:s k with
  | false=>exact sM hb h3 hch hqb (by omega) h
  | true=>
   obtain ⟨hh,hds⟩:=hs 0 r rfl
   obtain ⟨hd1,hd2,hi⟩:=hh.resolve_left (by rw [Nat.add_zero,hk]; simp)
   exact qB hb h3 hd1 hd2 hi hds hqb bK h
theorem Rd.on {c c':Cx} {ρ ρ':List RE} {a:AV} {v:Value} (h:Rd c ρ a v) (hc:c.le c') (k:∀ i ∈ a.ids,∀ r,ρ[i]? = some r->r ≠ .no->ρ'[i]? = some r):Rd c' ρ' a v:=by
 have cap:∀ q u,q.1 ∈ a.ids->ck ρ q u->ck ρ' q u:=fun q u hq ⟨g,h1,h2⟩=>⟨g,k _ hq _ h1 (by simp),h2⟩
 cases a with
 | own id=>
  rcases h with ⟨g,cap,len,z,h,e⟩ | ⟨h,e⟩
  ·exact .inl ⟨g,cap,len,z,k id (by simp [AV.ids]) _ h (by simp),e⟩
  ·exact .inr ⟨k id (by simp [AV.ids]) _ h (by simp),e⟩
 | sub id o l=>
  rcases h with ⟨g,cap,len,z,h,e⟩ | ⟨h,e⟩
  ·exact .inl ⟨g,cap,len,z,k id (by simp [AV.ids]) _ h (by simp),e⟩
  ·exact .inr ⟨k id (by simp [AV.ids]) _ h (by simp),e⟩
 | ptr id o=>exact cap (id,o) _ (by simp [AV.ids]) h
 | elp id i o=>
  obtain ⟨g,cap,len,z,h,e⟩:=h
  exact ⟨g,cap,len,z,k id (by simp [AV.ids]) _ h (by simp),e⟩
 | fe s x o=>
  obtain ⟨A,cells,h1,h2,h3,e⟩:=h
  exact ⟨A,cells,(hc.S _ h1).1,h2.keep (hc.S _ h1).2,h3.carry hc,e⟩
 | fn f b cs=>
  obtain ⟨bs,us,h1,h2,e⟩:=h
  have all:∀ (l:List (Nat × Nat)) (us:List Value),(∀ q ∈ l,q.1 ∈ (AV.fn f b cs).ids)->All2 (ck ρ) l us->All2 (ck ρ') l us:=fun l us hl h=>by
   induction h with
   | nil=>exact .nil
   | cons h1 _ ih=>exact .cons (cap _ _ (hl _ (by simp)) h1) (ih fun q hq=>hl q (by simp [hq]))
  refine ⟨bs,us,all b bs (fun q hq=>?_) h1,all cs us (fun q hq=>?_) h2,e⟩ <;> simp only [AV.ids,List.mem_append] <;> first | exact .inl (List.mem_map_of_mem hq) | exact .inr (List.mem_map_of_mem hq)
 | mq id=>
  obtain ⟨g,h1,e⟩:=h
  exact ⟨g,k id (by simp [AV.ids]) _ h1 (by simp),e⟩
 | np=>exact h
 | nf=>exact h
 | yl l=>exact h
 | dead=>exact h
 | int n=>exact Pd.carry h hc
 | u8 b=>exact Pd.carry h hc
 | u64 n=>exact Pd.carry h hc
 | bool e=>exact Pd.carry h hc
 | str s=>exact Pd.carry h hc
 | em b=>exact Pd.carry h hc
 | fz s xs=>exact Pd.carry h hc
theorem wS.on {c c':Cx} {ρ ρ':List RE}:∀ {asx:List AV} {vs:List Value},All2 (Rd c ρ) asx vs->c.le c' -> (∀ i ∈ j_ asx,∀ r,ρ[i]? = some r->r ≠ .no->ρ'[i]? = some r)->All2 (Rd c' ρ') asx vs
 | [],_,h,_,_=>by cases h; exact .nil
 | a :: r,_,h,hc,k=>by
  cases h with
  | cons h1 h2=>exact .cons (h1.on hc fun i hi=>k i (dJ (a:=a) (by simp) hi)) (wS.on h2 hc fun i hi=>k i (by simp only [j_,List.mem_append]; exact .inr hi))
theorem aO.on {c c':Cx} {ρ ρ':List RE} {t:TV1} {v:Value} (h:aO c ρ t v) (hc:c.le c') (k:∀ i ∈ j_ t.cells,∀ r,ρ[i]? = some r->r ≠ .no->ρ'[i]? = some r):aO c' ρ' t v:=by
 cases t with
 | c a=>exact Rd.on h hc fun i hi=>k i (dJ (a:=a) (by simp [TV1.cells]) hi)
 | agg l=>obtain ⟨vs,e,h⟩:=h; exact ⟨vs,e,wS.on h hc k⟩
theorem ui.on {c c':Cx} {ρ ρ':List RE}:∀ {asx:List TV1} {vs:List Value},All2 (aO c ρ) asx vs->c.le c' -> (∀ i ∈ gA asx,∀ r,ρ[i]? = some r->r ≠ .no->ρ'[i]? = some r)->All2 (aO c' ρ') asx vs
 | [],_,h,_,_=>by cases h; exact .nil
 | a :: r,_,h,hc,k=>by
  cases h with
  | cons h1 h2=>exact .cons (h1.on hc fun i hi=>k i (by simp only [gA,List.mem_append]; exact .inl hi)) (ui.on h2 hc fun i hi=>k i (by simp only [gA,List.mem_append]; exact .inr hi))
theorem Rt.on {c c':Cx} {ρ ρ':List RE} {t:TV} {v:Value} (h:Rt c ρ t v) (hc:c.le c') (k:∀ i ∈ t.ids,∀ r,ρ[i]? = some r->r ≠ .no->ρ'[i]? = some r):Rt c' ρ' t v:=by
 cases t with
 | one t=>exact aO.on h hc k
 | tup l=>obtain ⟨vs,e,h⟩:=h; exact ⟨vs,e,ui.on h hc k⟩
 | un=>trivial
theorem sW {i:Nat} {l:List (Int × AV)} {q:Int × AV} (h:q ∈ l) (hi:i ∈ q.2.ids):i ∈ qP l:=gU h hi
theorem OR.on {c c':Cx} {ρ ρ':List RE} {o:AO} {r:RE} (h:OR c ρ o r) (hc:c.le c') (hw:c'.w=c.w) (k:∀ i ∈ o.ids,∀ r,ρ[i]? = some r->r ≠ .no->ρ'[i]? = some r):OR c' ρ' o r:=by
 cases o with
 | gone=>exact h
 | loc=>trivial
 | mapo s f=>
  obtain ⟨g,rfl,h⟩:=h
  exact ⟨g,rfl,h.carry hc (by rw [hw])⟩
 | mapf l=>
  obtain ⟨g,rfl,h⟩:=h
  exact ⟨g,rfl,h.map (g0:=fun a=>a) (by simp) (fun q hq _ h=>h.on hc fun i hi=>k i (sW hq hi)) (by rw [hw])⟩
 | arr t s n xs=>
  obtain ⟨g,vs,rfl,h1,h2,h3⟩:=h
  exact ⟨g,vs,rfl,by rw [hw]; exact h1,h2.carry hc,h3⟩
 | box t cs=>
  obtain ⟨g,vs,rfl,h1,h2⟩:=h
  exact ⟨g,vs,rfl,by rw [hw]; exact h1,wS.on h2 hc k⟩
 | row t s xs=>
  obtain ⟨h1,h2,h3⟩:=h
  refine ⟨hc.shp ▸ h1,h2,h3.imp id ?_⟩
  rintro ⟨g,cap,cells,sp,rfl,h4,h5,h6⟩
  exact ⟨g,cap,cells,sp,rfl,by rw [hw]; exact h4,h5.carry hc,h6⟩
theorem oB {mv:List Nat} (h:mv=[]) {l:List AV}:hY (AV.ay mv) l=l:=gL fun a _=>bI (by subst h; simp)
theorem pA {mv:List Nat} {o:AO}:killO mv o=o.mapA (AV.ay mv):=by
 cases mv with
 | cons _ _=>rfl
 | nil=>
  cases o with
  | box t cs=>exact congrArg (AO.box t) (oB rfl).symm
  | mapf l=>
   show AO.mapf l=AO.mapf (mapM _ l)
   rw [gG]
   congr 1
   refine ((List.map_congr_left fun q _=>?_).trans (List.map_id _)).symm
   have e:=bI (mv:=[]) (a:=q.2) (by simp)
   show (q.1,AV.ay [] q.2)=q
   rw [e]
  | _=>rfl
def Gz (G:Gl) (ρc:List RE):Gl:=⟨G.shp,G.B0,fun b=>G.Z b\/live ρc b⟩
section
variable {G:Gl} {ρ:List RE} {S:AH} {w w':World} {m top:Nat}
structure Part (G:Gl) (ρ:List RE) (S:AH) (w:World) (m top:Nat):Prop where
 R:Rep G ρ S w
 le:m<=top
 len:top<=S.length
 gn:∀ x,m<=x->x<top->S[x]? = some .gone
theorem Part.xV (h:Part G ρ S w m top) {x:Nat} (h1:m<=x) (h2:x<top):ρ[x]? = some .no:=by
 obtain ⟨r,hr,hor⟩:=h.R.at_ (h.gn x h1 h2)
 cases hor; exact hr
theorem Part.lv (h:Part G ρ S w m top) {b:Nat}:live ρ b↔live (ρ.take m) b\/live (ρ.drop top) b:=by
 have:=h.le
 constructor
 ·rintro ⟨i,r,h1,h2⟩
  by_cases hi:i<m
  ·exact .inl ⟨i,r,by rw [List.getElem?_take,if_pos hi]; exact h1,h2⟩
  ·by_cases hj:i<top
   ·rw [h.xV (by omega) hj] at h1; cases h1; cases h2
   ·exact .inr ⟨i - top,r,by rw [List.getElem?_drop,show top+(i - top)=i by omega]; exact h1,h2⟩
 ·rintro (⟨i,r,h1,h2⟩ | ⟨i,r,h1,h2⟩)
  ·rw [List.getElem?_take] at h1
   split at h1
   ·exact ⟨i,r,h1,h2⟩
   ·cases h1
  ·rw [List.getElem?_drop] at h1
   exact ⟨_,r,h1,h2⟩
theorem Part.sS (h:Part G ρ S w m top) {b:Nat}:(cx (Gz G (ρ.drop top)) (ρ.take m) w).S b↔(cx G ρ w).S b:=by
 show (b<w.heap.size/\¬ live (ρ.take m) b/\¬ (G.Z b\/live (ρ.drop top) b))↔(b<w.heap.size/\¬ live ρ b/\¬ G.Z b)
 rw [h.lv]
 constructor
 ·rintro ⟨h1,h2,h3⟩; exact ⟨h1,fun hh=>hh.elim h2 fun k=>h3 (.inr k),fun k=>h3 (.inl k)⟩
 ·rintro ⟨h1,h2,h3⟩; exact ⟨h1,fun k=>h2 (.inl k),fun hh=>hh.elim h3 fun k=>h2 (.inr k)⟩
theorem Part.xC (h:Part G ρ S w m top):(cx G ρ w).le (cx (Gz G (ρ.drop top)) (ρ.take m) w):=⟨rfl,rfl,fun _ hb=>⟨h.sS.2 hb,rfl⟩⟩
theorem du {i:Nat} {r:RE} (h:(ρ.take m)[i]? = some r):ρ[i]? = some r/\i<m:=by
 rw [List.getElem?_take] at h
 split at h
 ·exact ⟨h,‹_›⟩
 ·cases h
theorem Part.mask (h:Part G ρ S w m top) {σ:List Nat} (hσ:∀ x ∈ σ,∀ i ∈ (getO S x).ids,i<m):Rep (Gz G (ρ.drop top)) (ρ.take m) (maskH σ 0 (S.take m)) w:=by
 have hl:=h.R.obj.length
 refine ⟨aG (by rw [fT,List.length_take,List.length_take,hl]) fun j o r ho hr=>?_,fun i j r r' g h1 h2 h3 h4=>h.R.inj i j r r' g (du h1).1 (du h2).1 h3 h4,fun i r g h1 h2=>?_,fun b hb=>hb.elim (h.R.z b) fun ⟨j,r,h1,h2⟩=>?_,h.R.b0,h.R.tb.carry h.xC⟩
 ·obtain ⟨hr,hj⟩:=du hr
  rw [fh,List.getElem?_take,if_pos hj,Nat.zero_add,Option.map_eq_some_iff] at ho
  obtain ⟨o',ho',rfl⟩:=ho
  split
  ·rename_i hm
   obtain ⟨r',hr',hor⟩:=h.R.at_ ho'
   rw [hr] at hr'; cases hr'
   refine hor.on h.xC rfl fun i hi r hri _=>?_
   have:=hσ j hm i (by rw [bP ho']; exact hi)
   rw [List.getElem?_take,if_pos this]; exact hri
  ·trivial
 ·obtain ⟨h1,hi⟩:=du h1
  have:=h.R.bnd i r g h1 h2
  refine ⟨this.1,this.2.1,fun hz=>hz.elim this.2.2 fun ⟨j,r',h3,h4⟩=>?_⟩
  rw [List.getElem?_drop] at h3
  have e:=h.R.inj i _ r r' g h1 h3 h2 h4
  have:=h.le
  omega
 ·rw [List.getElem?_drop] at h1
  exact (h.R.bnd _ r b h1 h2).2.1
theorem Part.merge (h:Part G ρ S w m top) {ro:Lv} {b:RC} (hbase:b.base=m) (hres:b.res.length=top) (hent:b.ent=none) (hch:∀ x ∈ b.ch,x<m) {ρt:List RE} (hro:∀ i,ro.wr i=false\/ro.mv i=false->i<m) (hS:Stp ⟨fun i=>aw i b.ch && ro.wr i,fun i=>aw i b.mv && ro.mv i⟩ (ρ.take m) w ρt w') (hRt:Rep (Gz G (ρ.drop top)) ρt b.res w') {S':AH} (hlen:S'.length=S.length) (hS':∀ x,OOq (S'[x]?) ((S[x]?).map (b.endO x))) :
  Rep G (ρt++ρ.drop top) S' w' /\ Stp ro ρ w (ρt++ρ.drop top) w' /\ (∀ a v,Rd (cx G ρ w) ρ a v->Rd (cx G (ρt++ρ.drop top) w') (ρt++ρ.drop top) (a.ay b.mv) v)/\(∀ t v,Rt (cx (Gz G (ρ.drop top)) ρt w') ρt t v->Rt (cx G (ρt++ρ.drop top) w') (ρt++ρ.drop top) t v):=by
 have hl:=h.R.obj.length
 have hle:=h.le
 have htl:ρt.length=top:=by rw [<- hRt.obj.length,hres]
 have hSl:=h.len
 -- where they lie
 have at1:∀ i,i<top->(ρt++ρ.drop top)[i]? = ρt[i]?:=fun i hi=>List.getElem?_append_left (by omega)
 have at2:∀ i,top<=i->(ρt++ρ.drop top)[i]? = ρ[i]?:=fun i hi=>by rw [List.getElem?_append_right (by omega),htl,List.getElem?_drop]; congr 1; omega
 have lv':∀ b,live (ρt++ρ.drop top) b↔live ρt b\/live (ρ.drop top) b:=fun b=>by
  constructor
  ·rintro ⟨i,r,h1,h2⟩
   by_cases hi:i<top
   ·exact .inl ⟨i,r,by rw [<- at1 i hi]; exact h1,h2⟩
   ·refine .inr ⟨i - top,r,?_,h2⟩
    rw [at2 i (by omega)] at h1
    rw [List.getElem?_drop,show top+(i - top)=i by omega]; exact h1
  ·rintro (⟨i,r,h1,h2⟩ | ⟨i,r,h1,h2⟩)
   ·exact ⟨i,r,by rw [at1 i (by rw [<- htl]; exact (List.getElem?_eq_some_iff.1 h1).1)]; exact h1,h2⟩
   ·rw [List.getElem?_drop] at h1
    exact ⟨top+i,r,by rw [at2 _ (by omega)]; exact h1,h2⟩
 have hblk:∀ g,g<w.heap.size->¬ live (ρ.take m) g->¬ live ρt g/\w'.heap[g]? = w.heap[g]?:=fun g hg hn=>hS.ext.old g hg hn
 have hcn:∀ g,live (ρ.drop top) g->g<w.heap.size/\¬ live (ρ.take m) g:=by
  rintro g ⟨j,r,h1,h2⟩
  rw [List.getElem?_drop] at h1
  refine ⟨(h.R.bnd _ r g h1 h2).2.1,?_⟩
  rintro ⟨i,r',h3,h4⟩
  obtain ⟨h3,h5⟩:=du h3
  have:=h.R.inj _ _ _ _ g h1 h3 h2 h4
  omega
 have hext:Ext ρ w (ρt++ρ.drop top) w':=⟨hS.ext.os,hS.ext.tape,hS.ext.output,hS.ext.size,fun b hb hl=>by
  rw [h.lv] at hl
  have hk:=hblk b hb fun k=>hl (.inl k)
  exact ⟨fun k=>((lv' b).1 k).elim hk.1 fun k=>hl (.inr k),hk.2⟩⟩
 have hcle:(cx G ρ w).le (cx G (ρt++ρ.drop top) w'):=hext.le
 have hcle2:(cx (Gz G (ρ.drop top)) ρt w').le (cx G (ρt++ρ.drop top) w'):=⟨rfl,rfl,fun b ⟨h1,h2,h3⟩=>⟨⟨h1,fun k=>((lv' b).1 k).elim h2 fun k=>h3 (.inr k),fun k=>h3 (.inl k)⟩,rfl⟩⟩
 have hagr:fl ρt (ρt++ρ.drop top):=bQ _ _
 -- what is kept
 have keep:∀ i r,ρ[i]? = some r->r ≠ .no->((∃ g,r = .blk g)\/i ∉ b.mv)->(ρt++ρ.drop top)[i]? = some r:=fun i r hr hne hk=>by
  by_cases hi:i<m
  ·rw [at1 i (by omega)]
   have hr':(ρ.take m)[i]? = some r:=by rw [List.getElem?_take,if_pos hi]; exact hr
   rcases hk with ⟨g,rfl⟩ | hk
   ·exact hS.bx i g hr'
   ·refine hS.loc i r ?_ hr'
    have:aw i b.mv=false:=by rw [<- Bool.not_eq_true,aj]; exact hk
    simp [this]
  ·by_cases hj:i<top
   ·rw [h.xV (by omega) hj] at hr; cases hr; exact absurd rfl hne
   ·rw [at2 i (by omega)]; exact hr
 have hrd:∀ a v,Rd (cx G ρ w) ρ a v->Rd (cx G (ρt++ρ.drop top) w') (ρt++ρ.drop top) (a.ay b.mv) v:=by
  intro a v hd
  have nm:∀ j,aw j b.mv=false->j ∉ b.mv:=fun j hb hm=>by rw [aj.2 hm] at hb; cases hb
  cases a with
  | own j=>
   simp only [AV.ay]
   cases hb:aw j b.mv
   ·refine Rd.on hd hcle fun i hi r hr hne=>keep i r hr hne (.inr ?_)
    simp only [AV.ids,cond_false,List.mem_singleton] at hi; subst hi; exact nm _ hb
   ·exact Rd.one hd
  | sub j o k=>
   simp only [AV.ay]
   cases hb:aw j b.mv
   ·refine Rd.on hd hcle fun i hi r hr hne=>keep i r hr hne (.inr ?_)
    simp only [AV.ids,cond_false,List.mem_singleton] at hi; subst hi; exact nm _ hb
   ·exact Rd.one hd
  | elp j k o=>
   simp only [AV.ay]
   cases hb:aw j b.mv
   ·refine Rd.on hd hcle fun i hi r hr hne=>keep i r hr hne (.inr ?_)
    simp only [AV.ids,cond_false,List.mem_singleton] at hi; subst hi; exact nm _ hb
   ·exact Rd.one hd
  | ptr j o=>
   obtain ⟨g,h1,e⟩:=hd
   exact ⟨g,keep _ _ h1 (by simp) (.inl ⟨g,rfl⟩),e⟩
  | mq j=>
   obtain ⟨g,h1,e⟩:=hd
   exact ⟨g,keep _ _ h1 (by simp) (.inl ⟨g,rfl⟩),e⟩
  | fn f b' cs=>
   obtain ⟨bs,us,h1,h2,e⟩:=hd
   exact ⟨bs,us,h1.imp fun _ _ ⟨g,k1,k2⟩=>⟨g,keep _ _ k1 (by simp) (.inl ⟨g,rfl⟩),k2⟩,h2.imp fun _ _ ⟨g,k1,k2⟩=>⟨g,keep _ _ k1 (by simp) (.inl ⟨g,rfl⟩),k2⟩,e⟩
  | fe s x o=>
   obtain ⟨A,cells,h1,h2,h3,e⟩:=hd
   exact ⟨A,cells,(hcle.S _ h1).1,h2.keep (hcle.S _ h1).2,h3.carry hcle,e⟩
  | np=>exact hd
  | nf=>exact hd
  | yl l=>exact hd
  | dead=>exact hd
  | int n=>exact Pd.carry hd hcle
  | u8 b=>exact Pd.carry hd hcle
  | u64 n=>exact Pd.carry hd hcle
  | bool e=>exact Pd.carry hd hcle
  | str s=>exact Pd.carry hd hcle
  | em b=>exact Pd.carry hd hcle
  | fz s xs=>exact Pd.carry hd hcle
 refine ⟨⟨?_,?_,?_,fun b hb=>Nat.lt_of_lt_of_le (h.R.z b hb) hext.size,Nat.le_trans h.R.b0 hext.size,h.R.tb.carry hcle⟩,⟨hext,fun i r hi hr=>?_,fun i r hi hr=>?_,fun i g hi=>?_⟩,hrd,fun t v ht=>ht.carry hcle2 hagr⟩
 ·refine aG (by rw [hlen,List.length_append,htl,List.length_drop]; omega) fun x o r ho hr=>?_
  have hq:=hS' x
  rw [ho] at hq
  cases hx:S[x]? with
  | none=>rw [hx] at hq; cases hq
  | some o0=>
   rw [hx,Option.map_some] at hq
   cases hq with
   | some hq=>
   refine hq.symm.or ?_
   obtain ⟨r0,hr0,hor0⟩:=h.R.at_ hx
   -- those that stay: rv
   have stay:ρ[x]? = some r->(∀ g,r.g? = some g->w'.heap[g]? = w.heap[g]?)->OR (cx G (ρt++ρ.drop top) w') (ρt++ρ.drop top) (killO b.mv o0) r:=fun hr' hg=>by
    rw [hr0] at hr'; cases hr'
    rw [pA]
    exact hor0.map hcle hrd hg
   have fromRes:x<top->∀ o1,b.res[x]? = some o1->OR (cx G (ρt++ρ.drop top) w') (ρt++ρ.drop top) o1 r:=fun hx1 o1 ho1=>by
    rw [at1 x hx1] at hr
    obtain ⟨r1,hr1,hor1⟩:=hRt.at_ ho1
    rw [hr] at hr1; cases hr1
    exact hor1.carry hcle2 hagr fun _ _=>rfl
   unfold RC.endO
   rw [hbase,hres]
   split
   ·rename_i hn
    refine fromRes hn.2 _ ?_
    rw [List.getElem?_eq_getElem (by omega),bP (List.getElem?_eq_getElem (by omega))]
   ·rename_i hn
    unfold RC.obj
    split
    ·rename_i hchx
     rw [hent]
     have hx1:=hch x hchx
     refine fromRes (by omega) _ ?_
     rw [List.getElem?_eq_getElem (by omega),bP (List.getElem?_eq_getElem (by omega))]
    ·rename_i hch
     have hm:aw x b.ch=false:=by rw [<- Bool.not_eq_true,aj]; exact hch
     by_cases hx1:x<m
     ·have hr':(ρ.take m)[x]? = some r0:=by rw [List.getElem?_take,if_pos hx1]; exact hr0
      have hp:=hS.pro x r0 (by simp [hm]) hr'
      rw [at1 x (by omega),hp.1] at hr; cases hr
      exact stay hr0 hp.2
     ·have hx2:top<=x:=by omega
      rw [at2 x hx2] at hr
      refine stay hr fun g hg=>(hblk g (h.R.bnd x r g hr hg).2.1 (hcn g ⟨x - top,r,?_,hg⟩).2).2
      rw [List.getElem?_drop,show top+(x - top)=x by omega]; exact hr
 ·intro i j r r' g h1 h2 h3 h4
  by_cases hi:i<top <;> by_cases hj:j<top
  ·rw [at1 i hi] at h1; rw [at1 j hj] at h2
   exact hRt.inj i j r r' g h1 h2 h3 h4
  ·rw [at1 i hi] at h1; rw [at2 j (by omega)] at h2
   have hc:live (ρ.drop top) g:=⟨j - top,r',by rw [List.getElem?_drop,show top+(j - top)=j by omega]; exact h2,h4⟩
   exact absurd ⟨i,r,h1,h3⟩ (hblk g (hcn g hc).1 (hcn g hc).2).1
  ·rw [at2 i (by omega)] at h1; rw [at1 j hj] at h2
   have hc:live (ρ.drop top) g:=⟨i - top,r,by rw [List.getElem?_drop,show top+(i - top)=i by omega]; exact h1,h3⟩
   exact absurd ⟨j,r',h2,h4⟩ (hblk g (hcn g hc).1 (hcn g hc).2).1
  ·rw [at2 i (by omega)] at h1; rw [at2 j (by omega)] at h2
   exact h.R.inj i j r r' g h1 h2 h3 h4
 ·intro i r g h1 h2
  by_cases hi:i<top
  ·rw [at1 i hi] at h1
   have:=hRt.bnd i r g h1 h2
   exact ⟨this.1,this.2.1,fun hz=>this.2.2 (.inl hz)⟩
  ·rw [at2 i (by omega)] at h1
   have:=h.R.bnd i r g h1 h2
   exact ⟨this.1,Nat.lt_of_lt_of_le this.2.1 hext.size,this.2.2⟩
 ·have hi':=hro i (.inr hi)
  rw [at1 i (by omega)]
  exact hS.loc i r (by simp [hi]) (by rw [List.getElem?_take,if_pos hi']; exact hr)
 ·have hi':=hro i (.inl hi)
  rw [at1 i (by omega)]
  exact hS.pro i r (by simp [hi]) (by rw [List.getElem?_take,if_pos hi']; exact hr)
 ·by_cases h1:i<m
  ·rw [at1 i (by omega)]
   exact hS.bx i g (by rw [List.getElem?_take,if_pos h1]; exact hi)
  ·by_cases h2:i<top
   ·rw [h.xV (by omega) h2] at hi; cases hi
   ·rw [at2 i (by omega)]; exact hi
end
theorem wj {P:Program} {Q:Exit->Act->World->Prop} {id:Nat} {l:List Oper} {a:Act} {w:World} (hm:P.follows .mixedOrders=true) {Inv:(Nat->Bool)->Act->World->Prop}
  (hlt:∀ i,∀ j ∈ ak l i,j<i) (hdef:∀ s a w,Inv s a w->a.defers=[])
  (hs:∀ s a w i o,Inv s a w->l[i]? = some o->s i=false->(∀ j ∈ ak l i,s j=true)->(∀ k,s k=true->∀ j ∈ ak l k,s j=true) ->
   sg P l.toArray (fun e a' w'=>e = .normal/\Inv (fun j=>s j || Nat.beq i j) a' w') [o] a w)
  (he:∀ s a w,Inv s a w->(∀ i,i<l.length->s i=true)->Q .normal a w) (h0:Inv (fun _=>false) a { w with drawn:=w.drawn+1 }):gj P (.region id l.toArray true) Q a w:=by
 intro ro ds
 refine wpIn_region_any hm ?_
 have main:∀ f (listed:Array Bool) a w,listed.size=l.length->(List.range l.length).countP (fun i=>!listed.getD i false)=f->(∀ k,listed.getD k false=true->∀ j ∈ ak l k,listed.getD j false=true)->Inv (fun i=>listed.getD i false) a w->wpAnyIn (fY ro) 0 P .any l.toArray (gz ds Q) f listed (dr a ds) w:=by
  intro f
  induction f with
  | zero=>
   intro listed a w hsz hc hcl inv
   have hall:∀ i,i<l.length->listed.getD i false=true:=fun i hi=>by
    have:=List.countP_eq_zero.1 hc i (List.mem_range.2 hi)
    simpa using this
   refine ⟨?_,a,hdef _ _ _ inv,rfl,he _ a w inv hall⟩
   cases hr:Region.ready .any l.toArray listed with
   | nil=>rfl
   | cons i r=>
    obtain ⟨hun,o,ho,_⟩:=mem_ready.1 (show i ∈ Region.ready .any l.toArray listed by rw [hr]; simp)
    have hil:i<l.length:=by simpa using (Array.getElem?_eq_some_iff.1 ho).1
    have:=hall i hil
    rw [getD_both hun] at this; cases this
  | succ f ih=>
   intro listed a w hsz hc hcl inv
   have hex:∃ i,i<l.length/\listed.getD i false=false/\∀ j,j<i->listed.getD j false=true:=by
    have h1:∃ i,i<l.length/\listed.getD i false=false:=by
     have:0<(List.range l.length).countP (fun i=>!listed.getD i false):=by omega
     obtain ⟨i,hi,hp⟩:=List.countP_pos_iff.1 this
     exact ⟨i,List.mem_range.1 hi,by simpa using hp⟩
    obtain ⟨i,hi,hp⟩:=h1
    have hmin:∀ m,∀ i,i<l.length->listed.getD i false=false->i<=m->∃ i,i<l.length/\listed.getD i false=false/\∀ j,j<i->listed.getD j false=true:=by
     intro m
     induction m with
     | zero=>intro i hi hp him; exact ⟨i,hi,hp,fun j hj=>by omega⟩
     | succ m ihm=>
      intro i hi hp him
      by_cases hlt:∃ j,j<i/\listed.getD j false=false
      ·obtain ⟨j,hj,hpj⟩:=hlt
       exact ihm j bK hpj bK
      ·exact ⟨i,hi,hp,fun j hj=>by
        cases h:listed.getD j false with
        | true=>rfl
        | false=>exact absurd ⟨j,hj,h⟩ hlt⟩
    exact hmin i i hi hp (Nat.le_refl _)
   obtain ⟨m,hml,hmu,hmall⟩:=hex
   have hready:m ∈ Region.ready .any l.toArray listed:=by
    refine mem_ready.2 ⟨getD_in (by rw [hsz]; exact hml) hmu,l[m],by simp [hml],fun e he hb=>?_⟩
    exact hmall _ (hlt m e.on (by
     simp only [ak,List.getElem?_eq_getElem hml,bt,List.mem_map,List.mem_filter]
     exact ⟨e,⟨by simpa using he,hb⟩,rfl⟩))
   refine ⟨fun h0=>(by rw [h0] at hready; cases hready),fun i hi=>?_⟩
   obtain ⟨hun,o,ho,hafter⟩:=mem_ready.1 hi
   have ho':l[i]? = some o:=by simpa using ho
   have hil:i<l.length:=(List.getElem?_eq_some_iff.1 ho').1
   have hun':listed.getD i false=false:=getD_both hun
   have hpre:∀ k ∈ ak l i,listed.getD k false=true:=fun k hk=>by
    simp only [ak,ho',bt,List.mem_map,List.mem_filter] at hk
    obtain ⟨e,⟨he,hb⟩,rfl⟩:=hk
    exact hafter e (by simpa using he) hb
   have hw:=hs _ a w i o inv ho' hun' hpre hcl ro ds
   have hset:∀ j,(listed.setIfInBounds i true).getD j false=(listed.getD j false || Nat.beq i j):=fun j=>by
    by_cases hj:j=i
    ·subst hj; simp [Array.getD,hsz,hil]
    ·have:Nat.beq i j=false:=by rw [<- Bool.not_eq_true,Nat.beq_eq]; exact fun e=>hj e.symm
     rw [getD_set_ne false (Ne.symm hj),this,Bool.or_false]
   have step:∀ v w2,(True/\Inv (fun j=>listed.getD j false || Nat.beq i j) (a.put o.dst v) w2)->wpAnyIn (fY ro) 0 P .any l.toArray (gz ds Q) f (listed.setIfInBounds i true) (dr (a.put o.dst v) ds) w2:=by
    intro v w2 ⟨_,hv⟩
    refine ih _ _ _ (by simp [hsz]) ?_ ?_ ?_
    ·have:=countP_set (n:=l.length) (i:=i) (p:=fun j=>!listed.getD j false) (q:=fun j=>!(listed.setIfInBounds i true).getD j false) hil (by simp [hun']) (by simp [hset]) (fun j hj=>by
      have:Nat.beq i j=false:=by rw [<- Bool.not_eq_true,Nat.beq_eq]; exact fun e=>hj e.symm
      simp [hset,this])
     omega
    ·intro k hk j hj
     rw [hset] at hk ⊢
     rw [Bool.or_eq_true] at hk ⊢
     rcases hk with hk | hk
     ·exact .inl (hcl k hk j hj)
     ·have:=Nat.eq_of_beq_eq_true hk
      subst this; exact .inl (hpre j hj)
    ·have e:(fun j=>(listed.setIfInBounds i true).getD j false)=fun j=>(listed.getD j false || Nat.beq i j):=funext hset
     rw [e]; exact hv
   have step':∀ v w2,gz ds (fun e a' w'=>e = .normal/\Inv (fun j=>listed.getD j false || Nat.beq i j) a' w') .normal ((dr a ds).put o.dst v) w2->wpAnyIn (fY ro) 0 P .any l.toArray (gz ds Q) f (listed.setIfInBounds i true) ((dr a ds).put o.dst v) w2:=fun v w2 ⟨a0,h0,e,h⟩=>by
    rw [ee] at e ⊢
    rw [<- qi e (nW (hdef _ _ _ inv) _ _) h0] at h
    exact step v w2 ⟨trivial,h.2⟩
   unfold wpOpIn
   simp only [ho]
   simp only [wpListIn] at hw
   try simp only [eq_self_iff_true] at hw
   by_cases hwant:Region.wanted o (yielded l.toArray (dr a ds).tmps)=true
   ·rw [if_pos hwant] at hw ⊢
    unfold Oper.wpIn at hw ⊢
    refine ⟨fun _ _=>trivial,mc hw.2 step' (fun d w2 ⟨a0,h0,e,h⟩=>?_) (fun e a w he ⟨_,_,_,h⟩=>he h.1)⟩
    have:=congrArg Act.defers e
    cases hd:o.dst <;> rw [hd] at this <;> simp [Act.put,dr] at this
   ·rw [if_neg hwant] at hw ⊢
    exact ⟨fun _ _=>trivial,step' undef w hw.2⟩
 have hcount:(List.range l.length).countP (fun i=>!(Array.replicate l.toArray.size false).getD i false)=l.length:=by
  rw [List.countP_eq_length.2 (fun i _=>by rw [getD_replicate_false]; rfl),List.length_range]
 have:=main l.length (Array.replicate l.toArray.size false) a { w with drawn:=w.drawn+1 } (by simp) hcount (fun k hk=>by rw [getD_replicate_false] at hk; cases hk) (by
  have e:(fun i=>(Array.replicate l.toArray.size false).getD i false)=fun _=>false:=funext fun i=>getD_replicate_false _ _
  rw [e]; exact h0)
 rw [show l.toArray.size=l.length by simp]
 exact this
theorem dt {m j:Nat}:bitN m j=m.testBit j:=by
 rw [Nat.testBit_eq_decide_div_mod_eq]
 show Nat.beq ((m >>> j) &&& 1) 1=_
 rw [Nat.and_one_is_mod,Nat.shiftRight_eq_div_pow]
 generalize m / 2 ^ j % 2=q
 by_cases h:q=1
 ·subst h; rfl
 ·rw [decide_eq_false h,<- Bool.not_eq_true,Nat.beq_eq]; exact h
theorem sj {a b j:Nat}:bitN (Nat.lor a b) j=(bitN a j || bitN b j):=by
 rw [dt,dt,dt]
 exact Nat.testBit_or a b j
theorem tR {k j:Nat}:bitN (Nat.shiftLeft 1 k) j=true↔j=k:=by
 rw [dt]
 show (1 <<< k).testBit j=true↔_
 rw [Nat.testBit_shiftLeft,Bool.and_eq_true,decide_eq_true_eq,Nat.testBit_one_eq_true_iff_self_eq_zero]
 omega
theorem qE {j:Nat}:bitN 0 j=false:=by rw [dt]; exact Nat.zero_testBit j
theorem fJ {acc:List Nat} {j:Nat}:∀ {l:List Nat},bitN (bX acc l) j=true↔∃ k ∈ l,j=k\/bitN (acc.getD k 0) j=true
 | []=>by simp [bX,qE]
 | k :: r=>by simp only [bX,sj,Bool.or_eq_true,tR,fJ,List.mem_cons,or_and_right,exists_or,exists_eq_left]
theorem lP:∀ {l:List Oper} {acc:List Nat},(cK acc l).length=acc.length+l.length
 | [],_=>by simp [cK]
 | o :: r,acc=>by
  have:=lP (l:=r) (acc:=acc++[bX acc (bt o)])
  simp only [cK,this]
  simp; omega
theorem gX:∀ {l:List Oper} {acc:List Nat} {k:Nat},k<acc.length->(cK acc l).getD k 0=acc.getD k 0
 | [],_,_,_=>rfl
 | o :: r,acc,k,h=>by
  simp only [cK]
  rw [gX (by simp; omega),List.getD_eq_getElem?_getD,List.getElem?_append_left h,List.getD_eq_getElem?_getD]
theorem ga:∀ {l:List Oper} {k:Nat},gM k l=true->∀ i,∀ j ∈ ak l i,j<k+i
 | [],_,_,i,j,hj=>by simp [ak] at hj
 | o :: r,k,h,i,j,hj=>by
  simp only [gM,Bool.and_eq_true] at h
  cases i with
  | zero=>exact bU.1 h.1 j (by simpa [ak] using hj)
  | succ i=>
   have:=ga h.2 i j (by simpa [ak] using hj)
   omega
theorem jT:∀ {l:List Oper} {acc:List Nat} {i:Nat},(∀ i,∀ j ∈ ak l i,j<acc.length+i)->i<l.length->(cK acc l).getD (acc.length+i) 0=bX (cK acc l) (ak l i)
 | [],_,_,_,h=>by simp at h
 | o :: r,acc,0,hp,_=>by
  simp only [cK]
  have e:(cK (acc++[bX acc (bt o)]) r).getD (acc.length+0) 0=bX acc (bt o):=by
   rw [gX (by simp),List.getD_eq_getElem?_getD]; simp
  rw [e]
  have hpa:ak (o :: r) 0=bt o:=rfl
  rw [hpa]
  have key:∀ l:List Nat,(∀ j ∈ l,j<acc.length)->bX acc l=bX (cK (acc++[bX acc (bt o)]) r) l:=by
   intro l
   induction l with
   | nil=>intro _; rfl
   | cons k t ih=>
    intro hl
    have hk:=hl k (by simp)
    simp only [bX]
    rw [ih fun j hj=>hl j (by simp [hj]),gX (show k<(acc++[bX acc (bt o)]).length by simp; omega)]
    congr 2
    rw [List.getD_eq_getElem?_getD,List.getD_eq_getElem?_getD,List.getElem?_append_left hk]
  exact key _ fun j hj=>by have:=hp 0 j (by rw [hpa]; exact hj); omega
 | o :: r,acc,i+1,hp,hi=>by
  simp only [cK]
  have:=jT (l:=r) (acc:=acc++[bX acc (bt o)]) (i:=i) (fun k j hj=>by
   have:=hp (k+1) j (by simpa [ak] using hj)
   simp; omega) (by simpa using hi)
  simp only [List.length_append,List.length_singleton] at this
  rw [show acc.length+(i+1)=acc.length+1+i by omega,this]
  simp [ak]
theorem im {l:List Oper} {s:Nat->Bool} (hp:∀ i,∀ j ∈ ak l i,j<i) (hcl:∀ k,s k=true->∀ j ∈ ak l k,s j=true):∀ (n i:Nat),i<=n->i<l.length->(∀ j ∈ ak l i,s j=true)->∀ j,bitN ((cK [] l).getD i 0) j=true->s j=true:=by
 intro n
 induction n with
 | zero=>
  intro i hi hl hpi j hb
  have:=jT (acc:=[]) (fun i j hj=>by have:=hp i j hj; simp; omega) hl
  simp only [List.length_nil,Nat.zero_add] at this
  rw [this,fJ] at hb
  obtain ⟨k,hk,_⟩:=hb
  have:=hp i k hk
  omega
 | succ n ih=>
  intro i hi hl hpi j hb
  have:=jT (acc:=[]) (fun i j hj=>by have:=hp i j hj; simp; omega) hl
  simp only [List.length_nil,Nat.zero_add] at this
  rw [this,fJ] at hb
  obtain ⟨k,hk,rfl | hb⟩:=hb
  ·exact hpi _ hk
  ·have hki:=hp i k hk
   exact ih k bK bK (hcl k (hpi k hk)) j hb
def cX (a:Act):Nat->Fr
 | 0=>[]
 | k+1=>(k,a.tmps.getD k undef) :: cX a k
theorem bF {a:Act} {t:Nat}:∀ {n:Nat},look (cX a n) t=if t<n then some (a.tmps.getD t undef) else none
 | 0=>rfl
 | k+1=>by
  simp only [cX,ai,bF]
  by_cases h:k=t
  ·subst h; rw [if_pos rfl,if_pos (by omega)]
  ·rw [if_neg h]
   by_cases h2:t<k
   ·rw [if_pos h2,if_pos (by omega)]
   ·rw [if_neg h2,if_neg (by omega)]
theorem vl {n:Nat} {a a':Act} (h:a.defers=[]) (h':a'.defers=[]) (hs:a.tmps.size=n) (hs':a'.tmps.size=n) (ht:∀ t,t<n->a'.tmps.getD t undef=a.tmps.getD t undef):a' = a:=by
 cases a with
 | mk t d=>
 cases a' with
 | mk t' d'=>
 simp only at h h' hs hs' ht
 subst h; subst h'
 congr 1
 refine Array.ext (by omega) fun i h1 h2=>?_
 have:=ht i (by omega)
 simpa [Array.getD,h1,h2] using this
theorem qS {n:Nat} {a:Act} (h:a.defers=[]) (hs:a.tmps.size=n):M n (cX a n) a:=⟨h,hs,fun i v hv=>by
 rw [bF] at hv
 split at hv
 ·cases hv; exact ⟨‹_›,rfl⟩
 ·cases hv⟩
theorem dO {n:Nat} {a:Act} {d:Option Nat} {u:Value} (hs:a.tmps.size=n) {t:Nat} (ht:t<n):(a.put d u).tmps.getD t undef=if d=some t then u else a.tmps.getD t undef:=by
 cases d with
 | none=>simp [Act.put]
 | some d=>
  by_cases hd:d=t
  ·subst hd; simp [Act.put,Array.getD,hs,ht]
  ·have h2:¬ (some d=some t):=fun e=>hd (Option.some.inj e)
   rw [if_neg h2]
   have h3:t<a.tmps.size:=by omega
   have h4:(a.tmps.setIfInBounds d u)[t]? = a.tmps[t]?:=Array.getElem?_setIfInBounds_ne hd
   show (a.tmps.setIfInBounds d u).getD t undef=_
   rw [Array.getD_eq_getD_getElem?,Array.getD_eq_getD_getElem?,h4]
theorem hX {n:Nat} {a a':Act} {d:Option Nat} {u:Value} (h:a.defers=[]) (hs:a.tmps.size=n) (hM:M n (cV d u (cX a n)) a'):a' = a.put d u:=by
 have hp:(a.put d u).defers=[]/\(a.put d u).tmps.size=n:=by cases d <;> simp [Act.put,h,hs]
 refine vl hp.1 hM.1 hp.2 hM.2.1 fun t ht=>?_
 rw [dO hs ht]
 cases d with
 | none=>
  rw [if_neg (by simp)]
  exact (hM.2.2 t (a.tmps.getD t undef) (by show look (cX a n) t=_; rw [bF,if_pos ht])).2
 | some d=>
  by_cases hd:d=t
  ·subst hd
   rw [if_pos rfl]
   exact (hM.2.2 d u (by show look ((d,u) :: cX a n) d=_; rw [ai,if_pos rfl])).2
  ·rw [if_neg (fun e=>hd (Option.some.inj e))]
   exact (hM.2.2 t (a.tmps.getD t undef) (by show look ((d,u) :: cX a n) t=_; rw [ai,if_neg hd,bF,if_pos ht])).2
theorem bq.sub {P:Program} {n:Nat} {F F':Fr} {w:World} {op:Op} {ty:TypeId} {φ:Value->World->Prop} (h:∀ a,M n F' a->M n F a) (k:bq P n F w op ty φ):bq P n F' w op ty φ:=by
 rcases k with (⟨v,w',h1,h2⟩ | ⟨f,args,h1,h2⟩) | ⟨h0,w',h1,h2⟩
 ·exact .inl (.inl ⟨v,w',fun a d pos af g ha=>h1 a d pos af g (h a ha),h2⟩)
 ·exact .inl (.inr ⟨f,args,fun a d pos af g ha=>h1 a d pos af g (h a ha),h2⟩)
 ·exact .inr ⟨h0,w',fun a d pos af g ha=>h1 a d pos af g (h a ha),h2⟩
section
variable {P:Program} {n:Nat} {l:List Oper} {a:Act} {w:World}
theorem nt {o:Oper} (h:a.defers=[]) (hs:a.tmps.size=n) {F:Fr} (hF:∀ i v,look F i=some v->i<n/\a.tmps.getD i undef=v) {Φ:Value->World->Prop} (hy:bq P n F w o.op o.type Φ) (hd:∀ d,o.dst=some d->Nat.blt d n=true) (hst:isSt o.op=true->o.dst=none)
  (hg:∀ j wt,o.guard=some (j,wt)->∃ t,idst l j=some t/\t<n/\a.tmps.getD t undef = .bool wt) {Q:Exit->Act->World->Prop} (hQ:∀ u w',Φ u w' -> Q .normal (a.put o.dst u) w'):sg P l.toArray Q [o] a w:=by
 have hM:=qS h hs
 have hy':=bq.sub (F':=cX a n) (fun a' ha=>⟨ha.1,ha.2.1,fun i v hv=>by
  obtain ⟨h1,h2⟩:=hF i v hv
  have:=(ha.2.2 i (a.tmps.getD i undef) (by rw [bF,if_pos h1])).2
  exact ⟨h1,this.trans h2⟩⟩) hy
 obtain ⟨dst,op,ty,pos,af,g⟩:=o
 simp only at hd hst hg hQ hy'
 have main:WO P Q n l [⟨dst,op,ty,pos,af,none⟩] (cX a n) w:=by
  rcases hy' with hy' | ⟨h0,w',h1,h2⟩
  ·exact WO.y hy' hd fun v w' hv=>WO.nil fun a' ha'=>by rw [hX h hs ha']; exact hQ _ _ hv
  ·obtain rfl:=hst h0
   exact WO.s h1 (WO.nil fun a' ha'=>by
    have e:=hX (d:=none) (u:=undef) h hs ha'
    rw [e]; exact hQ _ _ h2)
 cases g with
 | none=>exact main a hM
 | some g=>
  obtain ⟨j,wt⟩:=g
  obtain ⟨t,h1,h2,h3⟩:=hg j wt rfl
  exact WO.on h1 (by rw [bF,if_pos h2,h3]) rfl main a hM
theorem qR {o:Oper} (h:a.defers=[]) (hs:a.tmps.size=n) (hd:∀ d,o.dst=some d->Nat.blt d n=true) {j:Nat} {wt:Bool} (hg:o.guard=some (j,wt)) {t:Nat} (ht:idst l j=some t) (htn:t<n) (hv:a.tmps.getD t undef = .bool (!wt)\/a.tmps.getD t undef=undef) {Q:Exit->Act->World->Prop} (hQ:Q .normal (a.put o.dst undef) w):sg P l.toArray Q [o] a w:=by
 have hM:=qS h hs
 obtain ⟨dst,op,ty,pos,af,g⟩:=o
 simp only at hd hg hQ
 subst hg
 have hl:look (cX a n) t=some (a.tmps.getD t undef):=by rw [bF,if_pos htn]
 have fin:WO P Q n l [] (cV dst undef (cX a n)) w:=WO.nil fun a' ha'=>by rw [hX h hs ha']; exact hQ
 cases dst with
 | some d=>
  rcases hv with hv | hv
  ·exact WO.off ht (by rw [hl,hv]) rfl (hd d rfl) fin a hM
  ·exact WO.vI ht (by rw [hl,hv]) (hd d rfl) fin a hM
 | none=>
  have fin:WO P Q n l [] (cX a n) w:=fin
  rcases hv with hv | hv
  ·exact WO.wW ht (by rw [hl,hv]) rfl fin a hM
  ·exact WO.uo ht (by rw [hl,hv]) fin a hM
end
def RunOK (P:Program) (shp:TypeId->Option Sh) (n:Nat) (ro:Lv) (o:Oper) (r:RC):Prop:=∀ (G:Gl) (ρ:List RE) (w:World) (F:Fr),G.shp=shp->Rep G ρ (maskH r.σ 0 r.H0) w->ba (cx G ρ w) ρ (aP r.fr0 r.U) F->(∀ p ∈ r.ob,p) ->
 bq P n F w o.op o.type fun u w'=>∃ ρ',Stp ⟨fun i=>aw i r.ch && ro.wr i,fun i=>aw i r.mv && ro.mv i⟩ ρ w ρ' w' /\ Rep G ρ' r.res w' /\ Rt (cx G ρ' w') ρ' r.v u/\∀ p ∈ r.fc,p
def EntOK (P:Program) (shp:TypeId->Option Sh) (n:Nat) (ro:Lv) (o:Oper) (r:RC) (e:Ent) (p:Nat):Prop:=∀ (G:Gl) (ρ:List RE) (w:World) (F:Fr) (S:AH),G.shp=shp->Rep G ρ S w->ba (cx G ρ w) ρ (aP r.fr0 r.U) F->(S[p]?).map kd=(r.H0[p]?).map kd ->
 ∃ w',bV P n F w o.op o.type w' /\ Rep G ρ (S.set p (e.put (getO S p))) w' /\ Stp ro ρ w ρ w'
structure RcOK (P:Program) (shp:TypeId->Option Sh) (n:Nat) (ro:Lv) (l:List Oper) (rs:List RC) (o:Oper) (i:Nat) (r:RC):Prop where
 dst:r.dst=o.dst
 dn:∀ d,o.dst=some d->Nat.blt d n=true
 st:r.on=true->isSt o.op=true->o.dst=none
 run:r.on=true->(r.ent=none/\RunOK P shp n ro o r)\/∃ e p,r.ent=some e/\r.ch=[p]/\r.mv=[]/\r.v = .un/\r.fc=[]/\r.res.length=r.base/\isSt o.op=true/\EntOK P shp n ro o r e p
 off:r.on=false->r.ch=[]/\r.mv=[]/\r.σ=[]/\r.res=maskH [] 0 r.H0/\r.ent=none/\r.v = .un/\r.fc=[]
 gd:(o.guard=none/\r.on=true)\/∃ j wt t,o.guard=some (j,wt)/\idst l j=some t/\t ∈ r.U/\((∃ rj,rs[j]? = some rj/\j<i/\rj.on=false/\r.on=false)\/∃ b,lookA r.fr0 t=some (one (.bool (.lit b)))/\r.on=(b == wt))
theorem qV {a b:RC} (h:okI a b=true):okI b a=true:=by
 have hd:disj a.ch b.ch=true->disj b.ch a.ch=true:=fun h=>aA.2 fun i hi hb=>aA.1 h i hb hi
 unfold okI at h ⊢
 cases ha:a.ent <;> cases hb:b.ent <;> rw [ha,hb] at h <;> simp only at h ⊢ <;> first | exact hd h | skip
 simp only [Bool.or_eq_true,Bool.not_eq_true',decide_eq_false_iff_not] at h ⊢
 exact h.imp hd fun h e=>h e.symm
theorem lq {m:Nat} {b:RC}:∀ {l:List RC} {k:Nat},nB m b k l=true->∀ i a,l[i]? = some a->bitN m (k+i)=true\/(OkD a b/\OkD b a/\okI a b=true)
 | [],_,_,i,a,h=>by simp at h
 | x :: r,k,h,i,a,ha=>by
  simp only [nB,Bool.and_eq_true,Bool.or_eq_true] at h
  cases i with
  | zero=>
   simp at ha; subst ha
   rw [Nat.add_zero]
   exact h.1.imp id fun ⟨⟨h1,h2⟩,h3⟩=>⟨ns h1,ns h2,h3⟩
  | succ i=>
   have:=lq h.2 i a (by simpa using ha)
   rwa [show k+1+i=k+(i+1) by omega] at this
theorem jk {b:RC}:∀ {l:List RC},ka b l=true->∀ a ∈ l,∀ d,a.dst=some d->b.dst≠some d
 | [],_,a,h,_,_=>by simp at h
 | x :: r,h,a,ha,d,hd=>by
  simp only [ka,Bool.and_eq_true] at h
  rcases List.mem_cons.1 ha with rfl | ha
  ·intro hb
   have:=h.1
   rw [hd,hb] at this
   simp at this
  ·exact jk h.2 a ha d hd
structure OkAt (bef:List Nat) (j:Nat) (b:RC) (done:List RC):Prop where
 fit:b.Fit
 U:∀ i ∈ slotIds b.fr0 b.U,i<b.base
 σ:∀ i ∈ objIds b.H0 b.σ,i<b.base
 σb:∀ i ∈ b.σ,i<b.base
 ch:∀ i ∈ b.ch,i<b.base
 row:∀ i a,done[i]? = some a->bitN (bef.getD j 0) i=true\/(OkD a b/\OkD b a/\okI a b=true)
 dst:∀ a ∈ done,∀ d,a.dst=some d->b.dst≠some d
theorem nM {bef:List Nat}:∀ {rest done:List RC} {j:Nat},done.length=j->mX bef j done rest=true->∀ i b,rest[i]? = some b->OkAt bef (j+i) b ((done++rest).take (j+i))
 | [],_,_,_,_,i,b,h=>by simp at h
 | x :: r,done,j,hl,h,i,b,hb=>by
  simp only [mX,Bool.and_eq_true] at h
  obtain ⟨⟨⟨⟨⟨⟨⟨⟨⟨h1,h2⟩,h3⟩,h4⟩,h4b⟩,h5⟩,h6⟩,h7⟩,h8⟩,h9⟩:=h
  cases i with
  | zero=>
   simp at hb; subst hb
   have e:(done++x :: r).take (j+0)=done:=by rw [Nat.add_zero,<- hl]; simp
   rw [e,Nat.add_zero]
   exact ⟨⟨Nat.eq_of_beq_eq_true h1,Nat.le_of_ble_eq_true h2⟩,bU.1 h3,bU.1 h4,bU.1 h4b,bU.1 h5,fun i a ha=>by
    have:=lq h8 i a ha
    rwa [Nat.zero_add] at this,jk h6⟩
  | succ i=>
   have:=nM (rest:=r) (done:=done++[x]) (j:=j+1) (by simp [hl]) h9 i b (by simpa using hb)
   rw [show j+1+i=j+(i+1) by omega] at this
   simpa using this
section
variable {P:Program} {T:List (Nat × TI)} {shp:TypeId->Option Sh} {n:Nat} {ro:Lv} {l:List Oper}
def ym (c:Cx) (ρ:List RE) (n:Nat) (fr:AFr) (a:Act):Prop:=∀ t v,lookA fr t=some v->t<n/\Rt c ρ v (a.tmps.getD t undef)
def tE (G:Gl) (ro:Lv) (ρ0:List RE) (w0:World) (n:Nat) (q0:AFr × AH) (rs:List RC) (s:Nat->Bool) (a:Act) (w:World):Prop:=
 ∃ ρ,Stp ro ρ0 w0 ρ w/\Rep G ρ (cE s 0 rs q0).2 w/\ym (cx G ρ w) ρ n (cE s 0 rs q0).1 a/\a.defers=[]/\a.tmps.size=n/\∀ k r,rs[k]? = some r->s k=true->(∀ p ∈ r.fc,p)/\(r.on=false->∀ d,r.dst=some d->a.tmps.getD d undef=undef)
def lD (a:Act):AFr->Fr
 | []=>[]
 | (t,_) :: r=>(t,a.tmps.getD t undef) :: lD a r
theorem fS {a:Act} {t:Nat} {v:Value}:∀ {fr:AFr},look (lD a fr) t=some v->v=a.tmps.getD t undef/\∃ tv,lookA fr t=some tv
 | [],h=>by cases h
 | (i,x) :: r,h=>by
  simp only [lD,ai] at h
  rw [aM]
  by_cases hi:i=t
  ·subst hi; rw [if_pos rfl] at h ⊢; cases h; exact ⟨rfl,_,rfl⟩
  ·rw [if_neg hi] at h ⊢; exact fS h
theorem dc {fr:AFr} {t:Nat} {tv:TV}:∀ {U:List Nat},lookA (aP fr U) t=some tv->t ∈ U/\lookA fr t=some tv
 | [],h=>by cases h
 | u :: r,h=>by
  simp only [aP] at h
  split at h
  ·rename_i v hv
   rw [aM] at h
   by_cases hi:u=t
   ·subst hi; rw [if_pos rfl] at h; cases h; exact ⟨by simp,hv⟩
   ·rw [if_neg hi] at h
    obtain ⟨h1,h2⟩:=dc h; exact ⟨by simp [h1],h2⟩
  ·obtain ⟨h1,h2⟩:=dc h; exact ⟨by simp [h1],h2⟩
theorem dT {fr:AFr} {q:Nat × TV}:∀ {U:List Nat},q ∈ aP fr U->q.1 ∈ U/\lookA fr q.1=some q.2
 | [],h=>by simp [aP] at h
 | u :: r,h=>by
  simp only [aP] at h
  split at h
  ·rename_i v hv
   rcases List.mem_cons.1 h with rfl | h
   ·exact ⟨by simp,hv⟩
   ·obtain ⟨h1,h2⟩:=dT h; exact ⟨by simp [h1],h2⟩
  ·obtain ⟨h1,h2⟩:=dT h; exact ⟨by simp [h1],h2⟩
theorem gI {c:Cx} {ρ:List RE} {a:Act}:∀ {fr:AFr},(∀ q ∈ fr,Rt c ρ q.2 (a.tmps.getD q.1 undef))->ba c ρ fr (lD a fr)
 | [],_=>.nil
 | (t,v) :: r,h=>.cons ⟨rfl,h (t,v) (by simp)⟩ (gI fun q hq=>h q (by simp [hq]))
theorem eV {a:Act} {d:Option Nat} {u:Value} (h:a.defers=[]) (hs:a.tmps.size=n):(a.put d u).defers=[]/\(a.put d u).tmps.size=n:=by cases d <;> simp [Act.put,h,hs]
theorem oK {mv:List Nat} {v:TV}:killTV mv v=v.mapA (AV.ay mv):=by
 cases mv with
 | cons _ _=>rfl
 | nil=>
  have e:∀ a:AV,a.ay []=a:=fun a=>bI (by simp)
  cases v with
  | one t=>exact congrArg TV.one (jb fun a _=>e a).symm
  | tup l=>exact congrArg TV.tup (kL fun t _ a _=>e a).symm
  | un=>rfl
theorem Rt.rv {c c':Cx} {ρ ρ':List RE} {mv:List Nat} (hg:∀ a v,Rd c ρ a v->Rd c' ρ' (AV.ay mv a) v) {t:TV} {v:Value} (h:Rt c ρ t v):Rt c' ρ' (killTV mv t) v:=by
 rw [oK]
 cases t with
 | one t=>exact kP hg h
 | tup l=>obtain ⟨vs,e,h⟩:=h; exact ⟨vs,e,nR hg h⟩
 | un=>trivial
theorem Rep.q {G:Gl} {ρ:List RE} {A B:AH} {w:World} (h:Rep G ρ A w) (hl:B.length=A.length) (hq:∀ x:Nat,OOq (B[x]?) (A[x]?)):Rep G ρ B w:=by
 refine ⟨aG (by rw [hl]; exact h.obj.length) fun x o r ho hr=>?_,h.inj,h.bnd,h.z,h.b0,h.tb⟩
 have:=hq x
 rw [ho] at this
 cases hA:A[x]? with
 | none=>rw [hA] at this; cases this
 | some o'=>
  rw [hA] at this
  cases this with
  | some hh=>
   obtain ⟨r',hr',hor⟩:=h.at_ hA
   rw [hr] at hr'; cases hr'
   exact hh.symm.or hor
theorem od {c:Cx} {ρ:List RE} {b:Bool} {v:Value} (h:Rt c ρ (one (.bool (.lit b))) v):v = .bool b:=by
 have h:Pd c (.bool (.lit b)) v:=h
 cases h; rfl
variable {G:Gl} {ρ0:List RE} {w0:World} {q0:AFr × AH} {rs:List RC}
theorem rH (hG:G.shp=shp) (hro:∀ i,ro.wr i=false\/ro.mv i=false->i<ρ0.length) (hq0:∀ i,i<ρ0.length->(ro.wr i=false\/ro.mv i=false)->i<q0.2.length) (hp:∀ i,∀ j ∈ ak l i,j<i) (hc:bz q0 rs) (hok:mX (cK [] l) 0 [] rs=true) (hlen:rs.length=l.length) (hrc:∀ i o r,l[i]? = some o->rs[i]? = some r->RcOK P shp n ro l rs o i r)
  (hob:∀ i r,rs[i]? = some r->(∀ j r',rs[j]? = some r' -> bitN ((cK [] l).getD i 0) j=true->∀ p ∈ r'.fc,p)->∀ p ∈ r.ob,p)
  {s:Nat->Bool} {a:Act} {w:World} {i:Nat} {o:Oper} (inv:tE G ro ρ0 w0 n q0 rs s a w) (ho:l[i]? = some o) (hsi:s i=false) (hpre:∀ j ∈ ak l i,s j=true) (hcl:∀ k,s k=true->∀ j ∈ ak l k,s j=true) :
  sg P l.toArray (fun e a' w'=>e = .normal/\tE G ro ρ0 w0 n q0 rs (fun j=>s j || Nat.beq i j) a' w') [o] a w:=by
 obtain ⟨ρ,hS,hR,hf,hdf,hsz,hfc⟩:=inv
 have hil:i<l.length:=(List.getElem?_eq_some_iff.1 ho).1
 obtain ⟨b,hb⟩:∃ b,rs[i]? = some b:=⟨_,List.getElem?_eq_getElem (by omega)⟩
 have hbo:=hrc i o b ho hb
 have okAt:∀ j r,rs[j]? = some r->OkAt (cK [] l) j r (rs.take j):=fun j r hr=>by
  have:=nM (done:=[]) rfl hok j r hr
  simpa using this
 have hbk:=okAt i b hb
 have hbits:∀ j,bitN ((cK [] l).getD i 0) j=true->s j=true:=im hp hcl i i (Nat.le_refl _) hil hpre
 -- what comes ahead,and behind
 have hbefore:∀ j r,rs[j]? = some r->j<i->s j=true\/(OkD b r/\OkD r b/\okI b r=true):=fun j r hr hj=>by
  rcases hbk.row j r (by rw [List.getElem?_take,if_pos hj]; exact hr) with h | ⟨h1,h2,h3⟩
  ·exact .inl (hbits j h)
  ·exact .inr ⟨h2,h1,qV h3⟩
 have hbehind:∀ j r,rs[j]? = some r->i<j->s j=false\/(OkD b r/\OkD r b/\okI b r=true):=fun j r hr hj=>by
  cases hsj:s j with
  | false=>exact .inl rfl
  | true=>
   right
   rcases (okAt j r hr).row i b (by rw [List.getElem?_take,if_pos hj]; exact hb) with h | ⟨h1,h2,h3⟩
   ·have hjl:j<l.length:=by rw [<- hlen]; exact (List.getElem?_eq_some_iff.1 hr).1
    have:=im hp hcl j j (Nat.le_refl _) hjl (hcl j hsj) i h
    rw [hsi] at this; cases this
   ·exact ⟨h1,h2,h3⟩
 have hdsts:∀ j r,rs[j]? = some r->i≠j->∀ d,b.dst=some d->r.dst≠some d:=fun j r hr hj d hd=>by
  rcases Nat.lt_or_gt_of_ne hj with h | h
  ·exact (okAt j r hr).dst b (List.mem_of_getElem? (by rw [List.getElem?_take,if_pos h]; exact hb)) d hd
  ·intro hrd
   exact hbk.dst r (List.mem_of_getElem? (by rw [List.getElem?_take,if_pos h]; exact hr)) d hrd hd
 -- the list of records,parted
 have hrs:rs=rs.take i++b :: rs.drop (i+1):=by
  have h1:=(List.getElem?_eq_some_iff.1 hb)
  obtain ⟨h1,h2⟩:=h1
  rw [<- h2,<- List.drop_eq_getElem_cons h1,List.take_append_drop]
 have hti:(rs.take i).length=i:=by
  have:=(List.getElem?_eq_some_iff.1 hb).1
  simp; omega
 generalize hpreD:rs.take i=pre at hrs hti
 generalize hpostD:rs.drop (i+1)=post at hrs
 have hpre_at:∀ j r,pre[j]? = some r->rs[j]? = some r/\j<i:=fun j r h=>by
  have hj:=(List.getElem?_eq_some_iff.1 h).1
  rw [<- hpreD,List.getElem?_take] at h
  split at h
  ·exact ⟨h,‹_›⟩
  ·cases h
 have hpost_at:∀ j r,post[j]? = some r->rs[i+1+j]? = some r:=fun j r h=>by
  rw [<- hpostD,List.getElem?_drop] at h; exact h
 have hcp:bz q0 pre/\bz (prg pre q0) (b :: post):=by rw [hrs] at hc; exact bz.rS.1 hc
 obtain ⟨hc1,hb1,hb2,hbf,hc2⟩:=hcp
 have hbase:b.base=(prg pre q0).2.length:=by rw [<- hb2]; exact hbf.base
 have hst:∀ s',cE s' 0 rs q0=cE s' (i+1) post (bif s' i then b.app (cE s' 0 pre q0) else b.oY (cE s' 0 pre q0)):=fun s'=>by
  rw [hrs,ow,hti,Nat.zero_add]; rfl
 have hl1:(cE s 0 pre q0).2.length=b.base:=by rw [hbase]; exact kn hc1 rfl
 have hag:Agr b (cE s 0 pre q0) (prg pre q0):=nk hc1 (fun j r hr=>by
  rw [Nat.zero_add]
  obtain ⟨h1,h2⟩:=hpre_at j r hr
  exact (hbefore j r h1 h2).imp id fun ⟨h3,_,h4⟩=>⟨h3,h4⟩) ⟨rfl,fun _ _=>rfl,fun _ _=>rfl,fun _ _=>rfl⟩
 have hgb:AgrB b (cE s 0 rs q0):=by
  rw [hst s,hsi,cond_false]
  refine mB hbf hc2 (by rw [az hbf hbase.symm]; exact Nat.le_refl _) ((bT hbf hl1).trans (az hbf hbase.symm).symm) (fun j r hr=>(hbehind _ r (hpost_at j r hr) (by omega)).imp id fun ⟨h3,_,h4⟩=>⟨h3,h4⟩) ?_
  refine ⟨fun x hx hlt=>?_,fun x hx hlt=>?_,fun t ht=>?_,fun x hx hlt=>?_⟩
  ·rw [cb hbf hl1,if_pos hlt,hag.ob x hx,hb2]
  ·rw [cb hbf hl1,if_pos hlt,hag.kd x hx,hb2]
  ·show lookA (cE s 0 pre q0).1 t=_
   rw [hag.sl t ht,hb1]
  ·rw [cb hbf hl1,if_neg (by omega),if_pos hlt]
 have hrel:Rel b (cE (fun j=>s j || Nat.beq i j) 0 rs q0) (cE s 0 rs q0):=by
  rw [hst s,hst (fun j=>s j || Nat.beq i j),hsi,cond_false]
  have e1:(false || Nat.beq i i)=true:=by simp
  rw [e1,cond_true]
  have ne:∀ j,j≠i->(s j || Nat.beq i j)=s j:=fun j hj=>by
   have:Nat.beq i j=false:=by rw [<- Bool.not_eq_true,Nat.beq_eq]; exact fun e=>hj e.symm
   rw [this,Bool.or_false]
  have e2:cE (fun j=>s j || Nat.beq i j) 0 pre q0=cE s 0 pre q0:=fo fun j _ hj=>ne j (by omega)
  have e3:∀ q,cE (fun j=>s j || Nat.beq i j) (i+1) post q=cE s (i+1) post q:=fun q=>fo fun j hj _=>ne j (by omega)
  rw [e2,e3]
  refine nS hbf hbk.ch hc2 (by rw [az hbf hbase.symm]; exact Nat.le_refl _) ((bT hbf hl1).trans (az hbf hbase.symm).symm) (fun j r hr=>⟨hbehind _ r (hpost_at j r hr) (by omega),hdsts _ r (hpost_at j r hr) (by omega)⟩) (px hbf hl1)
 have hSl:b.res.length<=(cE s 0 rs q0).2.length:=by
  have h1:(cE s 0 rs q0).2.length=(prg rs q0).2.length:=kn hc rfl
  rw [h1,hrs,ke]
  have:=mQ hc2
  rw [az hbf hbase.symm] at this
  exact this
 have hge:q0.2.length<=b.base:=by rw [hbase]; exact mQ hc1
 generalize hq:cE s 0 rs q0=q at hR hf hgb hrel hSl
 generalize hq':cE (fun j=>s j || Nat.beq i j) 0 rs q0=q' at hrel
 have part:Part G ρ q.2 w b.base b.res.length:=⟨hR,hbf.le,hSl,hgb.gn⟩
 -- what is masked
 have hmask:maskH b.σ 0 (q.2.take b.base)=maskH b.σ 0 b.H0:=by
  refine List.ext_getElem? fun x=>?_
  rw [fh,fh,List.getElem?_take,Nat.zero_add]
  by_cases hx:x<b.base
  ·rw [if_pos hx]
   by_cases hm:x ∈ b.σ
   ·rw [hgb.ob x hm hx]
   ·simp only [if_neg hm]
    have h1:x<q.2.length:=by have:=hbf.le; omega
    have h2:x<b.H0.length:=by have:=hbf.base; omega
    rw [List.getElem?_eq_getElem h1,List.getElem?_eq_getElem h2]; rfl
  ·rw [if_neg hx,List.getElem?_eq_none (l:=b.H0) (by have:=hbf.base; omega)]
 have hσids:∀ x ∈ b.σ,∀ k ∈ (getO q.2 x).ids,k<b.base:=fun x hx k hk=>by
  have:=hgb.ob x hx (hbk.σb x hx)
  have e:getO q.2 x=getO b.H0 x:=by unfold getO; rw [List.getD_eq_getElem?_getD,List.getD_eq_getElem?_getD,this]
  rw [e] at hk
  exact hbk.σ k (je hk hx)
 have hslot:∀ t ∈ b.U,∀ v,lookA b.fr0 t=some v->t<n/\Rt (cx G ρ w) ρ v (a.tmps.getD t undef):=fun t ht v hv=>hf t v (by rw [hgb.sl t ht]; exact hv)
 have hslotIds:∀ t ∈ b.U,∀ v,lookA b.fr0 t=some v->∀ k ∈ v.ids,k<b.base:=fun t ht v hv k hk=>hbk.U k (gi hv hk ht)
 have hro':∀ k,ro.wr k=false\/ro.mv k=false->k<b.base:=fun k hk=>Nat.lt_of_lt_of_le (hq0 k (hro k hk) hk) hge
 -- the guard's slot
 have hgs:∀ j wt t,o.guard=some (j,wt)->idst l j=some t->t ∈ b.U->∀ c,lookA b.fr0 t=some (one (.bool (.lit c)))->t<n/\a.tmps.getD t undef = .bool c:=fun j wt t _ _ ht c hc=>by
  obtain ⟨h1,h2⟩:=hslot t ht _ hc
  exact ⟨h1,od h2⟩
 -- behind it
 have clause:∀ u k r,rs[k]? = some r->k≠i->s k=true->(∀ p ∈ r.fc,p)/\(r.on=false->∀ d,r.dst=some d->(a.put o.dst u).tmps.getD d undef=undef):=fun u k r hr hk hsk=>by
  obtain ⟨h1,h2⟩:=hfc k r hr hsk
  refine ⟨h1,fun hoff d hd=>?_⟩
  have hkl:k<l.length:=by rw [<- hlen]; exact (List.getElem?_eq_some_iff.1 hr).1
  have hrk:=hrc k _ r (List.getElem?_eq_getElem hkl) hr
  have hdn:d<n:=by have:=hrk.dn d (by rw [<- hrk.dst]; exact hd); exact Nat.blt_eq.mp this
  rw [dO hsz hdn,if_neg (fun e=>hdsts k r hr (Ne.symm hk) d (by rw [hbo.dst]; exact e) hd)]
  exact h2 hoff d hd
 have hsne:∀ k,(s k || Nat.beq i k)=true->k≠i->s k=true:=fun k hk hne=>by
  have:Nat.beq i k=false:=by rw [<- Bool.not_eq_true,Nat.beq_eq]; exact fun e=>hne e.symm
  rwa [this,Bool.or_false] at hk
 have fin:∀ u w' ρt,b.ent=none->Stp ⟨fun i=>aw i b.ch && ro.wr i,fun i=>aw i b.mv && ro.mv i⟩ (ρ.take b.base) w ρt w' -> Rep (Gz G (ρ.drop b.res.length)) ρt b.res w' -> Rt (cx (Gz G (ρ.drop b.res.length)) ρt w') ρt b.v u->(∀ p ∈ b.fc,p)->(b.on=false->u=undef)->tE G ro ρ0 w0 n q0 rs (fun j=>s j || Nat.beq i j) (a.put o.dst u) w':=by
  intro u w' ρt hent hSt hRt hv hfcb hoff
  obtain ⟨k1,k2,k3,k4⟩:=part.merge rfl rfl hent hbk.ch hro' hSt hRt hrel.len hrel.ob
  refine ⟨_,hS.trans k2,by rw [hq']; exact k1,fun t v hv'=>?_,(eV hdf hsz).1,(eV hdf hsz).2,fun k r hr hsk=>?_⟩
  ·rw [hq',hrel.sl t] at hv'
   unfold RC.endF at hv'
   by_cases hd:b.dst=some t
   ·rw [if_pos hd] at hv'
    cases hv'
    rw [hbo.dst] at hd
    have htn:t<n:=Nat.blt_eq.mp (hbo.dn t hd)
    rw [dO hsz htn,if_pos hd]
    exact ⟨htn,k4 _ _ hv⟩
   ·rw [if_neg hd,Option.map_eq_some_iff] at hv'
    obtain ⟨v0,h1,rfl⟩:=hv'
    obtain ⟨h2,h3⟩:=hf t v0 h1
    rw [hbo.dst] at hd
    rw [dO hsz h2,if_neg hd]
    exact ⟨h2,h3.rv k3⟩
  ·by_cases hk:k=i
   ·subst hk
    rw [hb] at hr; cases hr
    refine ⟨hfcb,fun ho' d hd=>?_⟩
    rw [hbo.dst] at hd
    rw [dO hsz (Nat.blt_eq.mp (hbo.dn d hd)),if_pos hd]
    exact hoff ho'
   ·exact clause u k r hr hk (hsne k hsk hk)
 cases hon:b.on with
 | false=>
  obtain ⟨e1,e2,e3,e4,e5,e6,e7⟩:=hbo.off hon
  rcases hbo.gd with ⟨_,h2⟩ | ⟨j,wt,t,hg,ht,htU,hcase⟩
  ·rw [hon] at h2; cases h2
  ·have htv:t<n/\(a.tmps.getD t undef = .bool (!wt)\/a.tmps.getD t undef=undef):=by
    rcases hcase with ⟨rj,hrj,hji,hoffj,_⟩ | ⟨c,hc,hb2⟩
    ·have hjl:j<l.length:=by omega
     have hrcj:=hrc j _ rj (List.getElem?_eq_getElem hjl) hrj
     have hdj:rj.dst=some t:=by
      rw [hrcj.dst]
      have:=ht
      rw [de,List.getElem?_eq_getElem hjl] at this
      exact this
     have hsj:s j=true:=by
      rcases hbefore j rj hrj hji with h | ⟨h,_,_⟩
      ·exact h
      ·exact absurd htU (h.dst t hdj)
     exact ⟨Nat.blt_eq.mp (hrcj.dn t (by rw [<- hrcj.dst]; exact hdj)),.inr ((hfc j rj hrj hsj).2 hoffj t hdj)⟩
    ·obtain ⟨h1,h2⟩:=hgs j wt t hg ht htU c hc
     refine ⟨h1,.inl ?_⟩
     rw [h2]
     rw [hon] at hb2
     cases c <;> cases wt <;> simp at hb2 ⊢
   refine qR hdf hsz hbo.dn hg ht htv.1 htv.2 ⟨rfl,fin undef w (ρ.take b.base) e5 (Stp.refl _ _ _) ?_ (by rw [e6]; trivial) (by rw [e7]; simp) fun _=>rfl⟩
   have key:maskH b.σ 0 (q.2.take b.base)=b.res:=by rw [hmask,e3,e4]
   have hm:=part.mask hσids
   rw [key] at hm
   exact hm
 | true=>
  have hg:∀ j wt,o.guard=some (j,wt)->∃ t,idst l j=some t/\t<n/\a.tmps.getD t undef = .bool wt:=fun j wt hgd=>by
   rcases hbo.gd with ⟨h1,_⟩ | ⟨j',wt',t,hg,ht,htU,hcase⟩
   ·rw [hgd] at h1; cases h1
   ·rw [hgd] at hg; cases hg
    rcases hcase with ⟨_,_,_,_,h⟩ | ⟨c,hc,hb2⟩
    ·rw [hon] at h; cases h
    ·obtain ⟨h1,h2⟩:=hgs j wt t hgd ht htU c hc
     refine ⟨t,ht,h1,?_⟩
     rw [h2]
     rw [hon] at hb2
     cases c <;> cases wt <;> simp at hb2 ⊢
  have hF:∀ k v,look (lD a (aP b.fr0 b.U)) k=some v->k<n/\a.tmps.getD k undef=v:=fun k v hk=>by
   obtain ⟨h1,tv,h2⟩:=fS hk
   obtain ⟨h3,h4⟩:=dc h2
   exact ⟨(hslot k h3 tv h4).1,h1.symm⟩
  rcases hbo.run hon with ⟨hent,hrun⟩ | ⟨e,p,hent,hch,hmv,hv,hfcb,hres,hst2,hrun⟩
  ·have hy:=hrun (Gz G (ρ.drop b.res.length)) (ρ.take b.base) w (lD a (aP b.fr0 b.U)) hG (by rw [<- hmask]; exact part.mask hσids) (gI fun x hx=>by
    obtain ⟨h1,h2⟩:=dT hx
    refine (hslot _ h1 _ h2).2.on part.xC fun k hk r hr _=>?_
    rw [List.getElem?_take,if_pos (hslotIds _ h1 _ h2 k hk)]; exact hr) (hob i b hb fun j r' hr' hbit=>(hfc j r' hr' (hbits j hbit)).1)
   exact nt hdf hsz hF hy hbo.dn (hbo.st hon) hg fun u w' ⟨ρt,h1,h2,h3,h4⟩=>⟨rfl,fin u w' ρt hent h1 h2 h3 h4 fun h=>by rw [hon] at h; cases h⟩
  ·have hpb:p<b.base:=hbk.ch p (by rw [hch]; simp)
   obtain ⟨w',h1,h2,h3⟩:=hrun G ρ w (lD a (aP b.fr0 b.U)) q.2 hG hR (gI fun x hx=>by
    obtain ⟨h1,h2⟩:=dT hx
    exact (hslot _ h1 _ h2).2) (hgb.kd p (by rw [hch]; simp) hpb)
   have hdst:=hbo.st hon hst2
   refine nt (Φ:=fun u x=>u=undef/\x=w') hdf hsz hF (.inr ⟨hst2,w',h1,rfl,rfl⟩) hbo.dn (hbo.st hon) hg fun u x ⟨_,hx⟩=>?_
   subst hx
   have hle:=h3.ext.le (G:=G)
   refine ⟨rfl,ρ,hS.trans h3,?_,fun t v hv'=>?_,(eV hdf hsz).1,(eV hdf hsz).2,fun k r hr hsk=>?_⟩
   ·rw [hq']
    refine h2.q (by rw [List.length_set]; exact hrel.len) fun x=>?_
    have:=hrel.ob x
    have hpl:p<q.2.length:=by omega
    by_cases hxp:x=p
    ·subst hxp
     rw [List.getElem?_set_self hpl]
     rw [List.getElem?_eq_getElem hpl,Option.map_some,RC.endO,if_neg (by omega),RC.obj,if_pos (by rw [hch]; simp),hent] at this
     rw [bP (List.getElem?_eq_getElem hpl)]
     exact this
    ·rw [List.getElem?_set_ne (fun e=>hxp e.symm)]
     have e9:(q.2[x]?).map (b.endO x)=q.2[x]?:=by
      cases q.2[x]? with
      | none=>rfl
      | some o=>
       rw [Option.map_some,RC.endO,if_neg (by omega),RC.bf (by rw [hch]; simpa using hxp),hmv]
       rfl
     rw [e9] at this
     exact this
   ·rw [hq',hrel.sl t] at hv'
    unfold RC.endF at hv'
    rw [hbo.dst,hdst,if_neg (by simp),hmv] at hv'
    have hv2:lookA q.1 t=some v:=by
     cases hx:lookA q.1 t with
     | none=>rw [hx] at hv'; cases hv'
     | some v0=>rw [hx] at hv'; exact hv'
    obtain ⟨h5,h6⟩:=hf t v hv2
    rw [dO hsz h5,hdst,if_neg (by simp)]
    exact ⟨h5,h6.carry hle (fl.refl _)⟩
   ·by_cases hk:k=i
    ·subst hk
     rw [hb] at hr; cases hr
     exact ⟨by rw [hfcb]; simp,fun h=>by rw [hon] at h; cases h⟩
    ·exact clause u k r hr hk (hsne k hsk hk)
end
theorem Rd.qd {c:Cx} {ρ:List RE} {a:AV} {v:Value} (h:Rd c ρ a v):Qd c a v:=fun hp=>(ca hp).1 h
theorem bY {fr:AFr} {t:Nat}:∀ {U:List Nat},t ∈ U->lookA (aP fr U) t=lookA fr t
 | [],h=>by simp at h
 | u :: r,h=>by
  simp only [aP]
  split
  ·rename_i v hv
   rw [aM]
   by_cases hu:u=t
   ·subst hu; rw [if_pos rfl,hv]
   ·rw [if_neg hu]
    refine bY ?_
    rcases List.mem_cons.1 h with rfl | h
    ·exact absurd rfl hu
    ·exact h
  ·rename_i hv
   by_cases hu:u=t
   ·subst hu
    by_cases hr:u ∈ r
    ·exact bY hr
    ·rw [hv]
     cases h2:lookA (aP fr r) u with
     | none=>rfl
     | some x=>exact absurd (dc h2).1 hr
   ·refine bY ?_
    rcases List.mem_cons.1 h with rfl | h
    ·exact absurd rfl hu
    ·exact h
theorem cc {fr:AFr} {U:List Nat} {x:Operand} (h:∀ t ∈ Operand.sl x,t ∈ U):bb (aP fr U) x=bb fr x:=by
 cases x with
 | tmp i=>exact bY (h i (by simp [Operand.sl]))
 | _=>rfl
theorem jK {fr:AFr}:∀ {A B:List Nat},aP fr (A++B)=aP fr A++aP fr B
 | [],_=>rfl
 | a :: r,B=>by
  simp only [List.cons_append,aP,jK (A:=r)]
  split <;> rfl
theorem iM {α β:Type} {R:α->β->Prop}:∀ {a b:List α} {F:List β},All2 R (a++b) F->∃ x y,F=x++y/\All2 R a x/\All2 R b y
 | [],b,F,h=>⟨[],F,rfl,.nil,h⟩
 | p :: a,b,_,h=>by
  cases h with
  | cons h1 h2=>
   obtain ⟨x,y,e,h3,h4⟩:=iM h2
   exact ⟨_ :: x,y,by rw [e]; rfl,.cons h1 h3,h4⟩
theorem qM {A B:Fr} {i:Nat} {v:Value}:look A i=some v->look (A++B) i=some v:=by
 intro h
 induction A with
 | nil=>cases h
 | cons q r ih=>
  obtain ⟨j,u⟩:=q
  rw [List.cons_append,ai]
  rw [ai] at h
  by_cases hj:j=i
  ·rw [if_pos hj] at h ⊢; exact h
  ·rw [if_neg hj] at h ⊢; exact ih h
theorem iJ {g:Bool} {v:TV} {K:TV->Prop} (h:split g v K):∃ v',K v' /\ ∀ c ρ u,Rt c ρ v u->Rt c ρ v' u:=by
 unfold split at h
 split at h
 ·rename_i b hb
  have:=Option.some.inj (aR hb)
  subst this
  exact ⟨_,h,fun _ _ _ h=>h⟩
 ·rename_i e _ he
  have:=Option.some.inj (aR he)
  subst this
  cases hv:e.val with
  | true=>
   refine ⟨_,h.1 ((BE.bm e true).2 hv),fun c ρ u hu=>?_⟩
   have hu:Pd c (.bool e) u:=hu
   cases hu
   rw [hv]; exact Pd.bool (e:=.lit true)
  | false=>
   refine ⟨_,h.2 ((BE.bm e false).2 hv),fun c ρ u hu=>?_⟩
   have hu:Pd c (.bool e) u:=hu
   cases hu
   rw [hv]; exact Pd.bool (e:=.lit false)
 ·exact ⟨_,h,fun _ _ _ h=>h⟩
section
variable {P:Program} {T:List (Nat × TI)} {shp:TypeId->Option Sh} {O:cZ} {n:Nat} {ro:Lv} {l:List Oper}
theorem mi {o:Oper} {fr:AFr} {A B:List Nat} {G:Gl} {ρ:List RE} {w:World} {F:Fr} (hf:ba (cx G ρ w) ρ (aP fr (A++B)) F) {φ:Value->World->Prop} (h:∀ FA,ba (cx G ρ w) ρ (aP fr A) FA->bq P n FA w o.op o.type φ):bq P n F w o.op o.type φ:=by
 rw [jK] at hf
 obtain ⟨FA,FB,rfl,h1,_⟩:=iM hf
 exact bq.sub (fun a ha=>⟨ha.1,ha.2.1,fun i v hv=>ha.2.2 i v (qM hv)⟩) (h FA h1)
theorem pure_run {o:Oper} {fr:AFr} {H:AH} {A B σ:List Nat} {v v':TV} {ob fc:List Prop} (hv:∀ c ρ u,Rt c ρ v u->Rt c ρ v' u)
  (h:∀ (G:Gl) (ρ:List RE) (w:World) (F:Fr),G.shp=shp->Rep G ρ (maskH σ 0 H) w->ba (cx G ρ w) ρ (aP fr A) F->(∀ p ∈ ob,p)->Yields P n F w o.op o.type fun u w'=>Kp [] w w' /\ Rt (cx G ρ w') ρ v u/\∀ p ∈ fc,p) (b:Nat) :
  RunOK P shp n ro o ⟨true,o.dst,v',A++B,σ,[],[],b,maskH σ 0 H,none,ob,fc,fr,H⟩:=by
 intro G ρ w F hG hR hf hob
 refine mi hf fun FA hfA=>.inl ((h G ρ w FA hG hR hfA hob).mono fun u w' ⟨h1,h2,h3⟩=>⟨ρ,Stp.kp hR h1,hR.kp h1,hv _ _ _ h2,h3⟩)
theorem pW {c:Cx} {ρ:List RE} {H:AH}:∀ {asx:List AV} {us:List Value},(∀ i,i ∉ bd asx)->All2 (Rd c ρ) asx us->All2 (Qd c) (nu H asx) us
 | [],_,_,h=>by cases h; exact .nil
 | a :: r,_,hn,h=>by
  cases h with
  | cons h1 h2=>
   have hr:∀ i,i ∉ bd r:=fun i hi=>hn i (by cases a <;> simp [bd,hi])
   refine .cons ?_ (pW hr h2)
   have e:a.vw H=a:=by
    cases a with
    | own i=>exact absurd (by simp [bd]) (hn i)
    | sub i _ _=>exact absurd (by simp [bd]) (hn i)
    | _=>rfl
   rw [e]; exact Rd.qd h1
theorem rP (hT:ao P shp T) {G:Gl} {ρ:List RE} {w:World} {F:Fr} {fm:AFr} {Hm:AH} {op:Op} {ty:TypeId} {r:PR} (hG:G.shp=shp) (hR:Rep G ρ Hm w) (hf:ba (cx G ρ w) ρ fm F) (h:pG T fm Hm op=some r):Yields P n F w op ty fun u w'=>Kp [] w w' /\ Rt (cx G ρ w') ρ r.v u/\∀ p ∈ r.fc,p:=by
 subst hG
 unfold pG at h
 split at h
 ·rename_i t m parts
  split at h
  ·rename_i e s sz z l hft hl
   split at h
   ·rename_i xs hown hel
    split at h
    ·rename_i hck
     cases h
     simp only [Bool.and_eq_true] at hck
     have hck:=hck.1
     have hm:=Nat.eq_of_beq_eq_true hck.1.1
     have hsm:=Nat.le_of_ble_eq_true hck.1.2
     have hbm:=Nat.le_of_ble_eq_true hck.2
     obtain ⟨hu,hs⟩:=(hT _ _ hft).2
     obtain ⟨hshp,⟨zz,hz,hzb⟩,_⟩:=hs s rfl
     have hsize:(P.info? e).map (·.size)=some s.size:=by
      cases hq:P.info? e with
      | none=>simp [hq] at hz
      | some i=>simp only [hq,Option.map_some,Option.some.injEq,Prod.mk.injEq] at hz ⊢; exact hz.2.1
     obtain ⟨pv,h1,h2⟩:=eW hf hl
     obtain ⟨vss,h3,h4,h5,h6⟩:=fQ hel h2 fun p hp us hus=>pW (fun i hi=>by
      have:=iD hp hi
      rw [hown] at this; simp at this) hus
     have hrun:=R.buildSlice (P:=P) (n:=n) (F:=F) (w:=w) (ty:=ty) (m:=m) hu hsize (nY hz) h1 h3 h4 (by omega) hsm
     have e0:parts.toList.toArray=parts:=by simp
     rw [e0] at hrun
     have hk:=Kp.alloc w (.cells vss.flatten.toArray e)
     have hml:m<=maxLen:=by
      have:=Nat.mul_le_mul_left m (dQ s)
      simp only [maxLen]; omega
     have hpd:Pds (cx G ρ (w.alloc (.cells vss.flatten.toArray e))) (xs.flatMap (cellsOf s)) vss.flatten:=h6.carry (Ext.kp hk).le
     refine .inl ⟨_,_,hrun,hk,?_,by simp⟩
     show Pd _ _ _
     rw [<- hm]
     refine .fz (Nat.le_refl _) (by omega) (by rw [hm]; exact hbm) hpd (.inr ⟨_,rfl,⟨⟨by simp,fun ⟨i,r,q1,q2⟩=>by have:=(hR.bnd i r _ q1 q2).2.1; simp at this,fun hz=>by have:=hR.z _ hz; simp at this⟩,.inr ⟨_,e,(0,0),heap_alloc_new w _,hshp⟩⟩,?_⟩)
     exact aT (sp:=[]) (by rw [List.append_nil]; exact heap_alloc_new w _)
    ·cases h
   ·cases h
  ·cases h
 ·cases h
theorem qK (hT:ao P shp T) {o:Oper} {fr:AFr} {H:AH} {B:List Nat} {id:Nat} {e:Ent} (h:vc T ro fr H o.op=some (id,e)) (b:Nat) (res:AH) :
  EntOK P shp n ro o ⟨true,none,.un,cW o.op++B,[],[id],[],b,res,some e,[],[],fr,H⟩ e id/\isSt o.op=true:=by
 unfold vc at h
 split at h
 ·rename_i t x y z hop
  have hsl:cW o.op=Operand.sl x++Operand.sl y++Operand.sl z:=by rw [hop]; rfl
  have hmx:∀ t' ∈ Operand.sl x,t' ∈ cW o.op++B:=fun t' h=>by rw [hsl]; simp [h]
  have hmy:∀ t' ∈ Operand.sl y,t' ∈ cW o.op++B:=fun t' h=>by rw [hsl]; simp [h]
  have hmz:∀ t' ∈ Operand.sl z,t' ∈ cW o.op++B:=fun t' h=>by rw [hsl]; simp [h]
  refine ⟨?_,by rw [hop]; rfl⟩
  intro G ρ w F S hG hR hf hkd
  subst hG
  have hf:ba (cx G ρ w) ρ (aP fr (cW o.op++B)) F:=hf
  have hkd:(S[id]?).map kd=(H[id]?).map kd:=hkd
  rw [hop]
  -- what a step on the map's block leaves
  have fin:∀ (g:Nat) (o':AO) (w':World),ρ[id]? = some (.blk g)->(∃ o0,S[id]? = some o0)->Kp [g] w w' -> ro.wr id=true->OR (cx G ρ w') ρ o' (.blk g)->Rep G ρ (S.set id o') w' /\ Stp ro ρ w ρ w':=fun g o' w' hg ⟨o0,ho0⟩ hkp hw ho'=>by
   have hput:=hR.put ho0 hg rfl hkp ho'
   refine ⟨hput.1,hput.2,fun _ _ _ h=>h,fun j r' hj hr'=>⟨hr',fun gx hgx=>hkp.block gx (hR.bnd j r' gx hr' hgx).2.1 ?_⟩,fun _ _ h=>h⟩
   simp only [List.mem_singleton]
   rintro rfl
   have:=hR.inj j id _ _ _ hr' hg hgx rfl
   subst this; rw [hw] at hj; cases hj
  have hext:∀ (g:Nat) (w':World),ρ[id]? = some (.blk g)->Kp [g] w w' -> (cx G ρ w).le (cx G ρ w'):=fun g w' hg hkp=>(show Ext ρ w ρ w' from ⟨hkp.os,hkp.tape,hkp.output,hkp.size,fun b hb hl=>⟨hl,hkp.block b hb (by
   simp only [List.mem_singleton]
   rintro rfl
   exact hl ⟨id,_,hg,rfl⟩)⟩⟩).le
  split at h
  ·rename_i s id' k v hft hx hy hz
   split at h
   ·rename_i s' f x' hgo hown hof
    split at h
    ·rename_i hck
     cases h
     simp only [Bool.and_eq_true,decide_eq_true_eq] at hck
     obtain ⟨⟨rfl,hform⟩,hw⟩:=hck
     obtain ⟨hm,hk,_⟩:=(hT _ _ hft).2
     rw [<- cc hmx] at hx; rw [<- cc hmy] at hy; rw [<- cc hmz] at hz
     obtain ⟨va,h1,g,hg,rfl⟩:=ab hf hx
     obtain ⟨vb,h3,h4⟩:=ab hf hy
     cases h4 with | int=>
     obtain ⟨vz,h5,h6⟩:=ab hf hz
     have hHs:=ax hgo (by simp)
     rw [hHs] at hkd
     obtain ⟨o0,ho0,hk0⟩:=Option.map_eq_some_iff.1 hkd
     have hgo0:=bP ho0
     obtain ⟨r',hr',hor⟩:=hR.at_ ho0
     rw [hg] at hr'; cases hr'
     cases o0 with
     | mapo s2 f2=>
      have hk0:(some (some s2):Option (Option Sh))=some (some s'):=hk0
      have e3:s2=s':=Option.some.inj (Option.some.inj hk0)
      subst e3
      obtain ⟨g',e,a,c,k1,k2,k3⟩:=hor
      cases e
      obtain ⟨w',a'',c',hsk,hkp,hg',hl',hget⟩:=tQ (P:=P) (n:=n) (ty:=o.type) h1 h3 h5 hm hk k1 k2
      have hle:=hext g w' hg hkp
      have hV:V1 (cx G ρ w') s2 x' vz:=by
       cases v with
       | c a=>
        have h6:Rd (cx G ρ w) ρ a vz:=h6
        have hp:=ag (vs:=[vz]) hof (.cons (Rd.qd h6) .nil)
        exact ⟨[vz],hp.carry hle,.inr ⟨by simpa [fk] using hform,rfl⟩⟩
       | agg l=>
        obtain ⟨us,e,h6⟩:=h6
        have hp:=ag hof (h6.imp fun _ _ h=>Rd.qd h)
        exact ⟨us,hp.carry hle,.inl ⟨hform,e⟩⟩
      obtain ⟨j1,j2⟩:=fin g (.mapo s2 fun j=>if j=k then some x' else f2 j) w' hg ⟨_,ho0⟩ hkp hw ⟨g,rfl,a'',c',hg',hl',fun q=>by
       rw [hget q]
       show VO _ _ _ (if q=k then some x' else f2 q)
       by_cases hq:q=k
       ·rw [if_pos hq,if_pos hq]; exact hV
       ·rw [if_neg hq,if_neg hq]
        have k4:=k3 q
        cases hgm:getM q a.toList <;> cases hfk:f2 q <;> rw [hgm,hfk] at k4
        ·trivial
        ·exact k4
        ·exact k4
        ·exact V1.carry k4 hle⟩
      refine ⟨w',hsk.1,?_,j2⟩
      rw [hgo0]
      simpa only [Ent.put,dif_pos] using j1
     | mapf l=>cases hk0
     | _=>cases hk0
    ·cases h
   ·cases h
  ·rename_i id' k a hft hx hy hz
   split at h
   ·rename_i l hgo hw
    cases h
    obtain ⟨hm,hk,_⟩:=(hT _ _ hft).2
    rw [<- cc hmx] at hx; rw [<- cc hmy] at hy; rw [<- cc hmz] at hz
    obtain ⟨va,h1,g,hg,rfl⟩:=ab hf hx
    obtain ⟨vb,h3,h4⟩:=ab hf hy
    cases h4 with | int=>
    obtain ⟨vz,h5,h6⟩:=ab hf hz
    have hHs:=ax hgo (by simp)
    rw [hHs] at hkd
    obtain ⟨o0,ho0,hk0⟩:=Option.map_eq_some_iff.1 hkd
    have hgo0:=bP ho0
    obtain ⟨r',hr',hor⟩:=hR.at_ ho0
    rw [hg] at hr'; cases hr'
    cases o0 with
    | mapf l2=>
     obtain ⟨g',e,a',c,k1,k2,k3⟩:=hor
     cases e
     obtain ⟨w',a'',c',hsk,hkp,hg',hl',hget⟩:=tQ (P:=P) (n:=n) (ty:=o.type) h1 h3 h5 hm hk k1 k2
     have hle:=hext g w' hg hkp
     obtain ⟨j1,j2⟩:=fin g (.mapf ((k,a) :: l2)) w' hg ⟨_,ho0⟩ hkp hw ⟨g,rfl,a'',c',hg',hl',fun q=>by
      rw [hget q]
      simp only [lookF]
      by_cases hq:q=k
      ·rw [if_pos hq,if_pos hq]; exact Rd.carry h6 hle (fl.refl _)
      ·rw [if_neg hq,if_neg hq]
       have k4:=k3 q
       cases hgm:getM q a'.toList <;> cases hfk:lookF q l2 <;> rw [hgm,hfk] at k4
       ·trivial
       ·exact k4
       ·exact k4
       ·exact Rd.carry k4 hle (fl.refl _)⟩
     refine ⟨w',hsk.1,?_,j2⟩
     rw [hgo0]
     exact j1
    | mapo s f=>cases hk0
    | _=>cases hk0
   ·cases h
  ·cases h
 ·cases h
theorem lG (hT:ao P shp T) (hO:aS P shp O) {fm:AFr} {Hm:AH} {op:Op} {x:XR}:∀ {l:List (List Nat × List Nat)},sq T O ro fm Hm op l=some x->∀ (G:Gl) (ρ:List RE) (w:World) (F:Fr) (ty:TypeId),G.shp=shp->Rep G ρ Hm w->ba (cx G ρ w) ρ fm F->(∀ p ∈ x.ob,p) ->
  bq P n F w op ty fun u w'=>∃ ρ',Stp ⟨fun i=>aw i x.ch && ro.wr i,fun i=>aw i x.mv && ro.mv i⟩ ρ w ρ' w' /\ Rep G ρ' x.res w' /\ Rt (cx G ρ' w') ρ' x.v u/\∀ p ∈ x.fc,p
 | [],h,_,_,_,_,_,_,_,_,_=>by cases h
 | (ch,mv) :: r,h,G,ρ,w,F,ty,hG,hR,hf,hob=>by
  simp only [sq] at h
  split at h
  ·rename_i q hq
   cases h
   subst hG
   have:=pX (n:=n) (ty:=ty) hT hO hR hf hq hob
   have key:∀ u w',bW G ⟨fun i=>aw i ch && ro.wr i,fun i=>aw i mv && ro.mv i⟩ ρ w q F u w' -> ∃ ρ',Stp ⟨fun i=>aw i ch && ro.wr i,fun i=>aw i mv && ro.mv i⟩ ρ w ρ' w' /\ Rep G ρ' q.H w' /\ Rt (cx G ρ' w') ρ' q.v u/\∀ p ∈ q.fc,p:=fun u w' ⟨ρ',h1,h2,_,h3,h4⟩=>⟨ρ',h1,h2,h3,h4⟩
   rcases this with h | ⟨h0,w',h1,h2⟩
   ·exact .inl (h.mono key)
   ·exact .inr ⟨h0,w',h1,key _ _ h2⟩
  ·exact lG hT hO h G ρ w F ty hG hR hf hob
theorem RcOK.ext {rs rs':List RC} {o:Oper} {i:Nat} {r:RC} (h:RcOK P shp n ro l rs o i r) (hi:∀ j,j<i->rs'[j]? = rs[j]?):RcOK P shp n ro l rs' o i r:=
 ⟨h.dst,h.dn,h.st,h.run,h.off,h.gd.imp id fun ⟨j,wt,t,h1,h2,h3,h4⟩=>⟨j,wt,t,h1,h2,h3,h4.imp (fun ⟨rj,k1,k2,k3,k4⟩=>⟨rj,by rw [hi j k2]; exact k1,k2,k3,k4⟩) id⟩⟩
theorem iA:∀ {rs:List RC} {j:Nat},vE rs j=false->∃ r,rs[j]? = some r/\r.on=false/\j<rs.length
 | [],_,h=>by cases h
 | r :: _,0,h=>⟨r,rfl,h,by simp⟩
 | r :: rs,j+1,h=>by
  obtain ⟨r',h1,h2,h3⟩:=iA (rs:=rs) h
  exact ⟨r',by simpa using h1,h2,by simpa using h3⟩
def Chain0:AFr × AH->List RC->Prop
 | _,[]=>True
 | q,r :: rs=>r.fr0=q.1/\r.H0=q.2/\Chain0 (r.app q) rs
theorem Chain0.rS:∀ {a b:List RC} {p:AFr × AH},Chain0 p (a++b)↔Chain0 p a/\Chain0 (prg a p) b
 | [],b,p=>by simp [Chain0,prg]
 | r :: a,b,p=>by simp only [List.cons_append,Chain0,prg,Chain0.rS (a:=a),and_assoc]
theorem Chain0.fit:∀ {rs:List RC} {p:AFr × AH},Chain0 p rs->(∀ r ∈ rs,r.Fit)->bz p rs
 | [],_,_,_=>trivial
 | r :: rs,_,h,hf=>⟨h.1,h.2.1,hf r (by simp),h.2.2.fit fun x hx=>hf x (by simp [hx])⟩
structure Walk (P:Program) (shp:TypeId->Option Sh) (n:Nat) (ro:Lv) (l:List Oper) (q0:AFr × AH) (i:Nat) (done:List RC) (q:AFr × AH):Prop where
 len:done.length=i
 ch:Chain0 q0 done
 st:prg done q0=q
 ok:∀ j o r,l[j]? = some o->done[j]? = some r->RcOK P shp n ro l done o j r
theorem Walk.next {q0 q:AFr × AH} {i:Nat} {done:List RC} (h:Walk P shp n ro l q0 i done q) {o:Oper} (ho:l[i]? = some o) {r:RC} (h1:r.fr0=q.1) (h2:r.H0=q.2) (hr:RcOK P shp n ro l done o i r):Walk P shp n ro l q0 (i+1) (done++[r]) (r.app q):=by
 have hpre:∀ j,j<i->(done++[r])[j]? = done[j]?:=fun j hj=>List.getElem?_append_left (by rw [h.len]; exact hj)
 refine ⟨by simp [h.len],Chain0.rS.2 ⟨h.ch,by rw [h.st]; exact ⟨h1,h2,trivial⟩⟩,by rw [ke,h.st]; rfl,fun j o' r' hj hr'=>?_⟩
 by_cases hji:j<i
 ·rw [hpre j hji] at hr'
  exact (h.ok j o' r' hj hr').ext fun k hk=>hpre k bK
 ·have hjl:=(List.getElem?_eq_some_iff.1 hr').1
  simp [h.len] at hjl
  have e:j=i:=by omega
  subst e
  rw [List.getElem?_append_right (by rw [h.len]; exact Nat.le_refl _),h.len,Nat.sub_self] at hr'
  simp at hr'; subst hr'
  rw [ho] at hj; cases hj
  exact hr.ext hpre
theorem lC {bef:List Nat}:∀ {rest done:List RC} {j:Nat},mX bef j done rest=true->∀ r ∈ rest,r.Fit
 | [],_,_,_,r,h=>by simp at h
 | x :: rest,done,j,h,r,hr=>by
  simp only [mX,Bool.and_eq_true] at h
  obtain ⟨⟨⟨⟨⟨⟨⟨⟨⟨h1,h2⟩,_⟩,_⟩,_⟩,_⟩,_⟩,_⟩,_⟩,h9⟩:=h
  rcases List.mem_cons.1 hr with rfl | hr
  ·exact ⟨Nat.eq_of_beq_eq_true h1,Nat.le_of_ble_eq_true h2⟩
  ·exact lC h9 r hr
theorem wg {H:AH} {fr:AFr} {op:Op} {r:PR} (h:pv T O H fr op=some r):isSt op=false:=by cases op <;> first | rfl | simp [pv] at h
theorem tL {H:AH} {fr:AFr} {op:Op} {r:PR} (h:pG T fr H op=some r):isSt op=false:=by cases op <;> first | rfl | simp [pG] at h
theorem tM {H:AH} {fr:AFr} {op:Op} {r:MpR} (h:mapA T H fr op=some r):isSt op=false:=by cases op <;> first | rfl | simp [mapA] at h
theorem ej {j:Nat} {wt:Bool} {t:Nat} (h:idst l j=some t):t ∈ cj l (some (j,wt)):=by simp [cj,h]
theorem qW {fr:AFr} {done:List RC} {g:Option (Nat × Bool)} (h:iq l fr done g=some true):g=none\/∃ j wt t,g=some (j,wt)/\idst l j=some t/\t ∈ cj l g/\∃ b,lookA fr t=some (one (.bool (.lit b)))/\true=(b == wt):=by
 cases g with
 | none=>exact .inl rfl
 | some g=>
  obtain ⟨j,wt⟩:=g
  right
  simp only [iq] at h
  split at h
  ·rename_i t ht
   split at h
   ·cases h
   ·rename_i b _ hb
    exact ⟨j,wt,t,rfl,ht,ej ht,b,hb,(Option.some.inj h).symm⟩
   ·cases h
  ·cases h
theorem o_ {fr:AFr} {done:List RC} {i:Nat} (hi:done.length=i) {g:Option (Nat × Bool)} (h:iq l fr done g=some false):∃ j wt t,g=some (j,wt)/\idst l j=some t/\t ∈ cj l g/\((∃ rj,done[j]? = some rj/\j<i/\rj.on=false/\false=false)\/∃ b,lookA fr t=some (one (.bool (.lit b)))/\false=(b == wt)):=by
 cases g with
 | none=>cases h
 | some g=>
  obtain ⟨j,wt⟩:=g
  simp only [iq] at h
  split at h
  ·rename_i t ht
   split at h
   ·rename_i ho
    obtain ⟨r,h1,h2,h3⟩:=iA ho
    exact ⟨j,wt,t,rfl,ht,ej ht,.inl ⟨r,h1,by omega,h2,rfl⟩⟩
   ·rename_i b _ hb
    exact ⟨j,wt,t,rfl,ht,ej ht,.inr ⟨b,hb,(Option.some.inj h).symm⟩⟩
   ·cases h
  ·cases h
theorem drop_cons {i:Nat} {o:Oper} {rest:List Oper} (h:l.drop i=o :: rest):l[i]? = some o/\l.drop (i+1)=rest:=by
 constructor
 ·have:=congrArg (·[0]?) h
  simpa using this
 ·have:=congrArg (List.drop 1) h
  simpa [List.drop_drop,Nat.add_comm] using this
theorem nq (hT:ao P shp T) (hO:aS P shp O) {K:AFr->AH->Prop} {q0:AFr × AH}:∀ (m i:Nat) (rest:List Oper) (fr:AFr) (H:AH) (done:List RC),l.drop i=rest->i<=l.length->dK n rest=true->Walk P shp n ro l q0 i done (fr,H)->sf T O ro l K m i rest fr H done ->
  ∃ rs,Walk P shp n ro l q0 l.length rs (prg rs q0)/\xA l rs=true/\jf (wu rs (cK [] l) rs) (fi (vT rs) (K (h_ (prg rs q0).1 []) (prg rs q0).2))
 | 0,_,_,_,_,_,_,_,_,_,h=>h.elim
 | m+1,i,[],fr,H,done,hd,hil,_,hw,h=>by
  simp only [sf] at h
  have hi:i=l.length:=by
   have:=congrArg List.length hd
   simp at this; omega
  subst hi
  split at h
  ·rename_i hok
   refine ⟨done,by rw [hw.st]; exact hw,hok,?_⟩
   rw [hw.st]; exact h
  ·exact h.elim
 | m+1,i,o :: rest,fr,H,done,hd,hil,hdo,hw,h=>by
  obtain ⟨ho,hd2⟩:=drop_cons hd
  have hil2:i+1<=l.length:=(List.getElem?_eq_some_iff.1 ho).1
  have hdn:∀ d,o.dst=some d->Nat.blt d n=true:=fun d hdd=>dx hdo o (by simp) d hdd
  have hdr:dK n rest=true:=by simp only [dK,Bool.and_eq_true] at hdo; exact hdo.2
  have ih:=fun rc (hrc:RcOK P shp n ro l done o i rc) (h1:rc.fr0=fr) (h2:rc.H0=H) (h:sf T O ro l K m (i+1) rest (rc.app (fr,H)).1 (rc.app (fr,H)).2 (done++[rc]))=>nq hT hO m (i+1) rest _ _ _ hd2 hil2 hdr (hw.next ho h1 h2 hrc) h
  simp only [sf] at h
  split at h
  ·-- it is not run
   rename_i hg
   obtain ⟨j,wt,t,h1,h2,h3,h4⟩:=o_ hw.len hg
   exact ih _ ⟨rfl,hdn,(fun h=>by cases h),(fun h=>by cases h),fun _=>⟨rfl,rfl,rfl,rfl,rfl,rfl,rfl⟩,.inr ⟨j,wt,t,h1,h2,h3,h4⟩⟩ rfl rfl h
  ·-- it is run
   rename_i hg
   have hgd:∀ U,(o.guard=none/\true=true)\/∃ j wt t,o.guard=some (j,wt)/\idst l j=some t/\t ∈ U++cj l o.guard/\((∃ rj,done[j]? = some rj/\j<i/\rj.on=false/\true=false)\/∃ b,lookA fr t=some (one (.bool (.lit b)))/\true=(b == wt)):=fun U=>by
    rcases qW hg with h | ⟨j,wt,t,h1,h2,h3,h4⟩
    ·exact .inl ⟨h,rfl⟩
    ·exact .inr ⟨j,wt,t,h1,h2,List.mem_append_right _ h3,.inr h4⟩
   split at h
   ·-- a pick
    rename_i t x y hop
    split at h
    ·rename_i b hlk
     split at h
     ·rename_i v hev
      obtain ⟨v',h,hv⟩:=iJ h
      refine ih _ ⟨rfl,hdn,(fun _ hs=>by rw [hop] at hs; cases hs),fun _=>.inl ⟨rfl,?_⟩,(fun h=>by cases h),hgd _⟩ rfl rfl h
      refine pure_run (A:=t :: Operand.sl (cond b x y)) (σ:=[]) (v:=v) hv (fun G ρ w F hG hR hf _=>?_) _
      have e1:lookA (aP fr (t :: Operand.sl (cond b x y))) t=some (one (.bool (.lit b))):=by rw [bY (by simp)]; exact hlk
      obtain ⟨vt,k1,k2⟩:=bR hf e1
      have k2:=od k2
      subst k2
      rw [<- cc (U:=t :: Operand.sl (cond b x y)) (fun t' ht=>by simp [ht])] at hev
      obtain ⟨u,k3,k4⟩:=ab hf hev
      rw [hop]
      refine .inl ⟨u,w,?_,Kp.refl w,k4,by simp⟩
      cases b with
      | true=>exact R.ll k1 rfl k3
      | false=>exact R.mF k1 rfl k3
     ·exact h.elim
    ·exact h.elim
   ·split at h
    ·-- an entry is put
     rename_i id e hins
     obtain ⟨k1,k2⟩:=qK (P:=P) (n:=n) hT (B:=cj l o.guard) hins H.length (maskH [] 0 H)
     split at h
     ·rename_i rc hdst
      refine ih _ ⟨hdst.symm,hdn,fun _ _=>hdst,fun _=>.inr ⟨e,id,rfl,rfl,rfl,rfl,rfl,by rw [fT],k2,k1⟩,(fun h=>by cases h),hgd _⟩ rfl rfl h
     ·exact h.elim
    ·split at h
     ·-- a map of functions
      rename_i mr hmp
      obtain ⟨v',h,hv⟩:=iJ (ew h)
      refine ih _ ⟨rfl,hdn,(fun _ hs=>by rw [tM hmp] at hs; cases hs),fun _=>.inl ⟨rfl,?_⟩,(fun h=>by cases h),hgd _⟩ rfl rfl h
      refine pure_run hv (fun G ρ w F hG hR hf _=>?_) _
      subst hG
      obtain ⟨u,j1,j2⟩:=mo (n:=n) (ty:=o.type) hT hR hf hmp
      exact .inl ⟨u,w,j1,Kp.refl w,j2,by simp⟩
     ·split at h
      ·rename_i r hr
       obtain ⟨v',h,hv⟩:=iJ h
       have hr0:=hr
       unfold wY at hr
       dsimp only at hr
       split at hr
       ·rename_i r' hrow
        cases hr
        refine ih _ ⟨rfl,hdn,(fun _ hs=>by rw [tL hrow] at hs; cases hs),fun _=>.inl ⟨rfl,?_⟩,(fun h=>by cases h),hgd _⟩ rfl rfl h
        exact pure_run hv (fun G ρ w F hG hR hf _=>rP hT hG hR hf hrow) _
       ·split at hr
        ·rename_i r' hpv
         cases hr
         refine ih _ ⟨rfl,hdn,(fun _ hs=>by rw [wg hpv] at hs; cases hs),fun _=>.inl ⟨rfl,?_⟩,(fun h=>by cases h),hgd _⟩ rfl rfl h
         exact pure_run hv (fun G ρ w F hG hR hf hob=>by subst hG; exact hU hT hO hR hf hpv hob) _
        ·split at hr
         ·rename_i hst
          refine ih _ ⟨rfl,hdn,(fun _ hs=>by
           unfold tH at hst
           rw [hs] at hst
           cases hdst:o.dst with
           | none=>rfl
           | some d=>rw [hdst] at hst; cases hst),fun _=>.inl ⟨rfl,?_⟩,(fun h=>by cases h),hgd _⟩ rfl rfl h
          intro G ρ w F hG hR hf hob
          refine mi hf fun FA hfA=>?_
          have hk:=lG (n:=n) hT hO hr G ρ w FA o.type hG hR hfA hob
          have key:∀ u w',(∃ ρ',Stp ⟨fun i=>aw i r.ch && ro.wr i,fun i=>aw i r.mv && ro.mv i⟩ ρ w ρ' w' /\ Rep G ρ' r.res w' /\ Rt (cx G ρ' w') ρ' r.v u/\∀ p ∈ r.fc,p)->∃ ρ',Stp ⟨fun i=>aw i r.ch && ro.wr i,fun i=>aw i r.mv && ro.mv i⟩ ρ w ρ' w' /\ Rep G ρ' r.res w' /\ Rt (cx G ρ' w') ρ' v' u/\∀ p ∈ r.fc,p:=fun u w' ⟨ρ',j1,j2,j3,j4⟩=>⟨ρ',j1,j2,hv _ _ _ j3,j4⟩
          rcases hk with hk | ⟨h0,w',j1,j2⟩
          ·exact .inl (hk.mono key)
          ·exact .inr ⟨h0,w',j1,key _ _ j2⟩
         ·cases hr
      ·exact h.elim
  ·exact h.elim
end
section
variable {P:Program} {T:List (Nat × TI)} {G:Gl} {O:cZ} {n k:Nat} {l:List Oper} {ρ:List RE} {H:AH} {fr:AFr} {F:Fr} {ds:List DV} {vs:Nat->Value} {f g:DV->Value->World->Prop}
def fX (ds:List DV) (f:DV->Value->World->Prop):List Sp:=ds.map fun a=>⟨a.deps,[],f a⟩
theorem gK {i:Nat} {a:DV} (h:ds[i]? = some a):spAt (fX ds f) i=⟨a.deps,[],f a⟩:=by
 simp [spAt,fX,List.getD_eq_getElem?_getD,h]
theorem oJ {i:Nat}:(spAt (fX ds f) i).deps=((ds[i]?).map DV.deps).getD []:=by
 cases h:ds[i]? with
 | none=>simp [spAt,fX,List.getD_eq_getElem?_getD,h]
 | some a=>rw [gK h]; rfl
theorem pF {sl:List Nat}:eb l (fX ds f) sl k=eb l (fX ds g) sl k:=by
 simp only [eb,oJ]
 simp only [fX,List.length_map]
theorem iS:∀ {ds:List DV},nc (fX ds f)=[]
 | []=>rfl
 | _ :: r=>iS (ds:=r)
theorem iY:∀ {ds:List DV} {i:Nat},iP (fX ds f) i=[]
 | [],_=>rfl
 | _ :: r,0=>iS (ds:=r)
 | _ :: r,i+1=>iY (ds:=r) (i:=i)
theorem nZ (h:∀ a u w w',f a u w->Kp [] w w' -> f a u w'):∀ {r:List DV} {i:Nat},eS (fX ds f) i (fX r f)
 | [],_=>trivial
 | a :: r,i=>⟨fun u w w' hv hk=>h a u w w' hv (by rwa [iY] at hk),nZ h (r:=r)⟩
theorem pJ {Q:List Sp} {w:World}:∀ {r:List Oper} {i:Nat},(∀ j o,r[j]? = some o->∀ vs w1,Kp (iP Q (i+j)) w w1->bG Q vs w1 (spAt Q (i+j)).deps->WO P (gf n (idst l (i+j)) (spAt Q (i+j)).S (spAt Q (i+j)).V w1) n l [o] (aN l F vs (spAt Q (i+j)).deps) w1)->iK P n l Q F w i r
 | [],_,_=>trivial
 | o :: r,i,h=>⟨h 0 o rfl,pJ fun j o' ho=>by
  have:=h (j+1) o' (by simpa using ho)
  rwa [show i+(j+1)=i+1+j by omega] at this⟩
theorem jm:∀ {r:List Oper} {p ds:List DV},jY T O H fr r p=some ds->(∃ q,ds=p++q/\q.length=r.length)/\∀ i o,r[i]? = some o->∃ a,ds[p.length+i]? = some a/\iH T O H fr (ds.take (p.length+i)) o=some a
 | [],p,ds,h=>by cases h; exact ⟨⟨[],by simp⟩,fun i o ho=>by simp at ho⟩
 | o :: r,p,ds,h=>by
  simp only [jY] at h
  split at h
  ·rename_i a ha
   obtain ⟨⟨q,h1,h2⟩,h3⟩:=jm h
   refine ⟨⟨a :: q,by rw [h1]; simp,by simp [h2]⟩,fun i o' ho=>?_⟩
   cases i with
   | zero=>
    simp only [List.getElem?_cons_zero,Option.some.injEq] at ho
    subst ho
    refine ⟨a,?_,?_⟩
    ·rw [h1]; simp
    ·have:ds.take (p.length+0)=p:=by rw [h1]; simp
     rw [this]; exact ha
   | succ i=>
    obtain ⟨b,h4,h5⟩:=h3 i o' (by simpa using ho)
    have e:(p++[a]).length+i=p.length+(i+1):=by simp; omega
    rw [e] at h4 h5
    exact ⟨b,h4,h5⟩
  ·cases h
theorem jz {p:List DV} {o:Oper} {a:DV} (h:iH T O H fr p o=some a):o.dst=some a.d/\∃ sl,a.deps=aX sl 0 p:=by
 unfold iH at h
 split at h
 ·rename_i d ch gs hd hc
  rw [hd]
  split at h
  ·split at h
   ·split at h
    ·cases h; exact ⟨rfl,_,rfl⟩
    ·cases h
   ·split at h
    ·cases h; exact ⟨rfl,_,rfl⟩
    ·cases h
  ·cases h
 ·cases h
theorem gY {Q:List Sp} {w:World}:∀ {deps:List Nat},bG Q vs w deps->∀ j ∈ deps,(spAt Q j).V (vs j) w
 | [],_,j,hj=>by simp at hj
 | i :: r,h,j,hj=>by
  rcases List.mem_cons.1 hj with rfl | hj
  ·exact h.1
  ·exact gY h.2 j hj
theorem lj:∀ {ds:List DV} {i:Nat} {a:DV},ds[i]? = some a->∀ q ∈ a.ob,q ∈ uC ds
 | [],i,a,h,_,_=>by simp at h
 | b :: r,0,a,h,q,hq=>by simp at h; subst h; exact List.mem_append_left _ hq
 | b :: r,i+1,a,h,q,hq=>List.mem_append_right _ (lj (ds:=r) (i:=i) (by simpa using h) q hq)
theorem lZ:∀ {ds:List DV} {q:Prop},q ∈ qO ds->∃ (i:Nat) (a:DV),ds[i]? = some a/\q ∈ a.fc
 | [],q,h=>by simp [qO] at h
 | b :: r,q,h=>by
  rcases List.mem_append.1 h with h | h
  ·exact ⟨0,b,rfl,h⟩
  ·obtain ⟨i,a,h1,h2⟩:=lZ h
   exact ⟨i+1,a,by simpa using h1,h2⟩
theorem mz {c:Cx} {D:Fr} (hf:ba c ρ fr F) (hF:∀ i v,look F i=some v->look D i=some v):∀ {r:List DV},(∀ a ∈ r,a.ch=[]->∃ u,look D a.d=some u/\Rt c ρ a.v u)->∃ F',ba c ρ (mD r fr) F' /\ ∀ i v,look F' i=some v->look D i=some v
 | [],_=>⟨F,hf,hF⟩
 | a :: r,h=>by
  obtain ⟨F',h1,h2⟩:=mz hf hF (r:=r) fun b hb=>h b (by simp [hb])
  unfold mD
  split
  ·rename_i hc
   obtain ⟨u,h3,h4⟩:=h a (by simp) hc
   refine ⟨(a.d,u) :: F',.cons ⟨rfl,h4⟩ h1,fun i v hv=>?_⟩
   rw [ai] at hv
   by_cases hi:a.d=i
   ·subst hi; rw [if_pos rfl] at hv; cases hv; exact h3
   ·rw [if_neg hi] at hv; exact h2 i v hv
  ·exact ⟨F',h1,h2⟩
theorem iU {i:Nat}:∀ {deps:List Nat},(∀ j ∈ deps,idst l j≠some i)->look (aN l F vs deps) i=look F i
 | [],_=>rfl
 | j :: r,h=>by
  have ih:=iU (i:=i) (deps:=r) fun j hj=>h j (by simp [hj])
  unfold aN
  split
  ·rename_i d hd
   rw [ai,if_neg (fun e=>h j (by simp) (by rw [hd,e]))]
   exact ih
  ·exact ih
theorem pS {c:Cx} (hf:ba c ρ fr F):fr.map (·.1)=F.map (·.1):=by
 induction hf with
 | nil=>rfl
 | cons h _ ih=>simp [h.1,ih]
end
theorem nN {s:Nat->Bool}:∀ {rs:List RC} {k:Nat} {q:AFr × AH},(∀ i,k<=i->i<k+rs.length->s i=true)->cE s k rs q=prg rs q
 | [],_,_,_=>rfl
 | r :: rs,k,q,h=>by
  simp only [cE,prg]
  rw [h k (Nat.le_refl _) (by simp),cond_true]
  exact nN fun i h1 h2=>h i bK (by simp at h2 ⊢; omega)
theorem lF:∀ {rs:List RC} {k:Nat} {q:AFr × AH},∃ m,cE (fun _=>false) k rs q=(q.1,q.2++List.replicate m .gone)
 | [],_,q=>⟨0,by simp [cE]⟩
 | r :: rs,k,q=>by
  obtain ⟨m,h⟩:=lF (rs:=rs) (k:=k+1) (q:=r.oY q)
  refine ⟨(r.res.length - r.base)+m,?_⟩
  simp only [cE,cond_false]
  rw [h]
  simp only [RC.oY,List.append_assoc,List.replicate_append_replicate]
theorem Rep.xP {G:Gl} {ρ:List RE} {H:AH} {w:World} (h:Rep G ρ H w) (m:Nat):Rep G (ρ++List.replicate m RE.no) (H++List.replicate m .gone) w/\(cx G ρ w).le (cx G (ρ++List.replicate m RE.no) w)/\fl ρ (ρ++List.replicate m RE.no)/\∀ ro,Stp ro ρ w (ρ++List.replicate m RE.no) w:=by
 have key:∀ i r,(ρ++List.replicate m RE.no)[i]? = some r->r≠RE.no->ρ[i]? = some r:=fun i r hi hne=>by
  by_cases hl:i<ρ.length
  ·rw [List.getElem?_append_left hl] at hi; exact hi
  ·rw [List.getElem?_append_right (by omega),List.getElem?_replicate] at hi
   split at hi
   ·cases hi; exact absurd rfl hne
   ·cases hi
 have hlv:∀ b,live (ρ++List.replicate m RE.no) b->live ρ b:=fun b ⟨i,r,h1,h2⟩=>⟨i,r,key i r h1 (by rintro rfl; cases h2),h2⟩
 have hext:Ext ρ w (ρ++List.replicate m RE.no) w:=⟨rfl,rfl,rfl,Nat.le_refl _,fun b _ hl=>⟨fun k=>hl (hlv b k),rfl⟩⟩
 have hag:=bQ ρ (List.replicate m .no)
 refine ⟨⟨?_,fun i j r r' g h1 h2 h3 h4=>h.inj i j r r' g (key i r h1 (by rintro rfl; cases h3)) (key j r' h2 (by rintro rfl; cases h4)) h3 h4,fun i r g h1 h2=>h.bnd i r g (key i r h1 (by rintro rfl; cases h2)) h2,h.z,h.b0,h.tb.carry hext.le⟩,hext.le,hag,fun ro=>⟨hext,fun i r _ hr=>?_,fun i r _ hr=>⟨?_,fun _ _=>rfl⟩,fun i g hg=>hag i _ hg (by simp)⟩⟩
 ·refine All2.append (aG h.obj.length fun i o r ho hr=>?_) ?_
  ·obtain ⟨r',hr',hor⟩:=h.at_ ho
   rw [hr] at hr'; cases hr'
   exact hor.carry hext.le hag fun _ _=>rfl
  ·refine aG (by simp) fun i o r ho hr=>?_
   rw [List.getElem?_replicate] at ho hr
   by_cases hi:i<m
   ·rw [if_pos hi] at ho hr; cases ho; cases hr; rfl
   ·rw [if_neg hi] at ho; cases ho
 ·rw [List.getElem?_append_left (List.getElem?_eq_some_iff.1 hr).1]; exact hr
 ·rw [List.getElem?_append_left (List.getElem?_eq_some_iff.1 hr).1]; exact hr
theorem eE {t:Nat} {v:TV}:∀ {fr:AFr} {l:List Nat},(t,v) ∈ h_ fr l->t ∉ l/\lookA fr t=some v
 | [],_,h=>by simp [h_] at h
 | (i,x) :: r,l,h=>by
  simp only [h_] at h
  cases hm:aw i l <;> rw [hm] at h
  ·rcases List.mem_cons.1 h with e | h
   ·cases e
    refine ⟨fun hl=>?_,by rw [aM,if_pos rfl]⟩
    rw [aj.2 hl] at hm; cases hm
   ·obtain ⟨h1,h2⟩:=eE h
    simp only [List.mem_cons,not_or] at h1
    exact ⟨h1.2,by rw [aM,if_neg (fun e=>h1.1 e.symm)]; exact h2⟩
  ·obtain ⟨h1,h2⟩:=eE h
   refine ⟨h1,?_⟩
   rw [aM,if_neg]
   ·exact h2
   ·rintro rfl; exact h1 (aj.1 hm)
theorem jI {m:Nat} {p:Prop}:∀ {rs:List RC} {k:Nat},p ∈ jM m k rs->∃ j r,rs[j]? = some r/\bitN m (k+j)=true/\p ∈ r.fc
 | [],_,h=>by simp [jM] at h
 | r :: rs,k,h=>by
  simp only [jM,List.mem_append] at h
  rcases h with h | h
  ·cases hb:bitN m k <;> rw [hb] at h
   ·simp at h
   ·exact ⟨0,r,rfl,hb,h⟩
  ·obtain ⟨j,r',h1,h2,h3⟩:=jI h
   exact ⟨j+1,r',by simpa using h1,by rwa [show k+(j+1)=k+1+j by omega],h3⟩
theorem rY {all:List RC}:∀ {bef:List Nat} {rs:List RC},bef.length=rs.length->(∀ p ∈ wu all bef rs,p)->∀ i r,rs[i]? = some r->(∀ p ∈ jM (bef.getD i 0) 0 all,p)->∀ p ∈ r.ob,p
 | _,[],_,_,i,r,h,_=>by simp at h
 | [],_ :: _,hl,_,_,_,_,_=>by simp at hl
 | m :: bef,b :: rs,hl,h,i,r,hr,hf=>by
  simp only [wu] at h
  cases i with
  | zero=>
   simp at hr; subst hr
   intro p hp
   have h1:=fun q hq=>h q (List.mem_append_left _ hq)
   cases ho:b.ob with
   | nil=>rw [ho] at hp; simp at hp
   | cons x y=>
    rw [ho] at h1
    exact bn.1 (bc.1 (h1 _ (List.mem_singleton_self _)) hf) p (by rw [<- ho]; exact hp)
  | succ i=>
   exact rY (by simpa using hl) (fun q hq=>h q (List.mem_append_right _ hq)) i r (by simpa using hr) (by simpa using hf)
theorem nV:∀ {rs:List RC} {p:Prop},p ∈ vT rs->∃ (j:Nat) (r:RC),rs[j]? = some r/\p ∈ r.fc
 | [],_,h=>by simp [vT] at h
 | r :: rs,p,h=>by
  simp only [vT,List.mem_append] at h
  rcases h with h | h
  ·exact ⟨0,r,rfl,h⟩
  ·obtain ⟨j,r',h1,h2⟩:=nV h
   exact ⟨j+1,r',by simpa using h1,h2⟩
theorem lH {P:Program} {T:List (Nat × TI)} {O:cZ} {G:Gl} {n:Nat} {ro:Lv} {l:List Oper} {ρ0:List RE} {w0:World} {Q:Exit->Act->World->Prop} {id:Nat} (hT:ao P G.shp T) (hO:aS P G.shp O) (hm:P.follows .mixedOrders=true) (hro:∀ i,ro.wr i=false\/ro.mv i=false->i<ρ0.length) {K:AFr->AH->Prop} {fr:AFr} {H:AH} {F:Fr} {w:World} (hd:dK n l=true)
  (h:uU T O ro l K fr H) (hst:St G ro ρ0 w0 fr H F w) (hK:∀ fr H F w,K fr H->St G ro ρ0 w0 fr H F w->WX Q n .normal F w):WC P Q n (.region id l.toArray true) F w:=by
 obtain ⟨ρ,hS,hR,hf⟩:=hst
 obtain ⟨rs,hw,hok,hgoal⟩:=nq (n:=n) hT hO _ 0 l fr H [] (by simp) (Nat.zero_le _) hd ⟨rfl,trivial,rfl,fun j o r _ hr=>by simp at hr⟩ h
 simp only [xA,Bool.and_eq_true] at hok
 obtain ⟨⟨hp,hlen⟩,hok⟩:=hok
 have hlen:=Nat.eq_of_beq_eq_true hlen
 have hp:∀ i,∀ j ∈ ak l i,j<i:=fun i j hj=>by have:=ga hp i j hj; omega
 have hc:=hw.ch.fit (lC hok)
 obtain ⟨hobs,hfin⟩:=cT.1 hgoal
 have hbl:(cK [] l).length=rs.length:=by rw [lP,hlen]; simp
 have hq0:∀ i,i<ρ0.length->(ro.wr i=false\/ro.mv i=false)->i<H.length:=fun i hi hh=>by
  rw [hR.obj.length]
  have hr0:=List.getElem?_eq_getElem hi
  rcases hh with hh | hh
  ·exact (List.getElem?_eq_some_iff.1 (hS.pro i _ hh hr0).1).1
  ·exact (List.getElem?_eq_some_iff.1 (hS.loc i _ hh hr0)).1
 intro a ha
 refine wj hm (Inv:=tE G ro ρ0 w0 n (fr,H) rs) hp (fun s a w h=>by obtain ⟨_,_,_,_,h,_⟩:=h; exact h) (fun s a w i o inv ho hsi hpre hcl=>?_) (fun s a w inv hall=>?_) ?_
 ·refine rH rfl hro hq0 hp hc hok hlen hw.ok (fun i r hr hfc=>rY hbl hobs i r hr fun p hp=>?_) inv ho hsi hpre hcl
  obtain ⟨j,r',h1,h2,h3⟩:=jI hp
  rw [Nat.zero_add] at h2
  exact hfc j r' h1 h2 p h3
 ·obtain ⟨ρ',k1,k2,k3,k4,k5,k6⟩:=inv
  rw [nN fun i _ hi=>hall i (by omega)] at k2 k3
  have hk:=bc.1 hfin fun p hp=>by
   obtain ⟨j,r,h1,h2⟩:=nV hp
   exact (k6 j r h1 (hall j (by have:=(List.getElem?_eq_some_iff.1 h1).1; omega))).1 p h2
  refine hK _ _ (lD a (h_ (prg rs (fr,H)).1 [])) w hk ⟨ρ',k1,k2,gI fun q hq=>(k3 q.1 q.2 (eE hq).2).2⟩ a ⟨k4,k5,fun i v hv=>?_⟩
  obtain ⟨h1,tv,h2⟩:=fS hv
  have h3:lookA (prg rs (fr,H)).1 i=some tv:=by
   have:∀ {fr:AFr} {l:List Nat},lookA (h_ fr l) i=some tv->(i,tv) ∈ h_ fr l:=by
    intro fr l
    generalize h_ fr l=x
    induction x with
    | nil=>intro h; cases h
    | cons q r ih=>
     obtain ⟨j,u⟩:=q
     rw [aM]
     split
     ·rename_i hj; subst hj; intro h; cases h; simp
     ·intro h; exact List.mem_cons_of_mem _ (ih h)
   exact (eE (this h2)).2
  exact ⟨(k3 i tv h3).1,h1.symm⟩
 ·obtain ⟨m,hm2⟩:=lF (rs:=rs) (k:=0) (q:=(fr,H))
  have hkp:Kp [] w { w with drawn:=w.drawn+1 }:=(Kp.refl w).drew
  obtain ⟨g1,g2,g3,g4⟩:=(hR.kp hkp).xP m
  refine ⟨_,(hS.trans (Stp.kp hR hkp)).trans (g4 ro),by rw [hm2]; exact g1,fun t v hv=>?_,ha.1,ha.2.1,fun k r _ hk=>by cases hk⟩
  rw [hm2] at hv
  obtain ⟨u,h1,h2⟩:=bR (hf.kp hkp) hv
  obtain ⟨h3,h4⟩:=ha.2.2 t u h1
  exact ⟨h3,by rw [h4]; exact h2.carry g2 g3⟩
theorem mE {P:Program} {T:List (Nat × TI)} {shp:TypeId->Option Sh} {O:cZ} (hT:ao P shp T) (hO:aS P shp O) (hm:P.follows .mixedOrders=true):km P shp T O:=by
 intro G n ro ρ0 w0 hshp hro Q k0 id L ops K fr H F w hd h hst hK
 subst hshp
 obtain ⟨ρ,hS,hR,hf⟩:=hst
 simp only [mH] at h
 generalize pE T O H fr ops.toList [] 0=k at h
 split at h
 ·rename_i ds hds
  split at h
  ·rename_i hB
   obtain ⟨hob,h⟩:=cT.1 h
   rw [bc] at h
   have hB1:eb ops.toList (fX ds fun a u w=>DVal G ρ ds a u w) (F.map (·.1)) k=true:=by
    rw [pF (g:=fun _ _ _=>True),<- pS hf]; exact hB
   have hB2:=hB1
   simp only [eb,Bool.and_eq_true,decide_eq_true_eq,List.all_eq_true,List.mem_range,Bool.or_eq_true] at hB2
   obtain ⟨⟨⟨⟨hnl,hsp⟩,hops⟩,_⟩,_⟩:=hB2
   have hdl:ds.length=k:=by simpa [fX] using hsp
   obtain ⟨_,hat⟩:=jm hds
   simp only [List.length_nil,Nat.zero_add] at hat
   have hlt:∀ i a,ds[i]? = some a->i<k:=fun i a h=>by rw [<- hdl]; exact (List.getElem?_eq_some_iff.1 h).1
   have hdst:∀ (j:Nat) (a:DV),ds[j]? = some a->idst ops.toList j=some a.d:=fun j a ha=>by
    have hj:=hlt j a ha
    have hjl:j<ops.toList.length:=by omega
    obtain ⟨b,h1,h2⟩:=hat j (ops.toList[j]) (by rw [List.getElem?_take,if_pos hj,List.getElem?_eq_getElem hjl])
    rw [ha] at h1; cases h1
    rw [de,List.getElem?_eq_getElem hjl]
    exact (jz h2).1
   have hfree:∀ (j:Nat) (a:DV),ds[j]? = some a->a.d ∉ F.map (·.1)/\∀ i,i<k->i=j\/idst ops.toList i≠some a.d:=fun j a ha=>by
    have:=(hops j (hlt j a ha)).2
    rw [hdst j a ha] at this
    simp only [Bool.and_eq_true,Bool.not_eq_true',List.all_eq_true,List.mem_range,Bool.or_eq_true,beq_iff_eq,bne_iff_ne,List.contains_eq_mem,decide_eq_false_iff_not] at this
    exact this
   have hdist:∀ (i j:Nat) (a b:DV),ds[i]? = some a->ds[j]? = some b->a.d=b.d->i=j:=fun i j a b ha hb he=>by
    rcases (hfree j b hb).2 i (hlt i a ha) with h | h
    ·exact h
    ·rw [hdst i a ha,he] at h; exact absurd rfl h
   have e:ops=ops.toList.toArray:=by simp
   have hdt:dK n (ops.toList.take k)=true/\dK n (ops.toList.drop k)=true:=by
    rw [<- eM,List.take_append_drop]; exact hd
   rw [e]
   refine WC.wX hm _ k hB1 (nZ (f:=fun a u w=>DVal G ρ ds a u w) (ds:=ds) (r:=ds) fun a u w w' h hk=>DVal.kp h hk) (pJ fun j o ho vs w1 hk hfacts=>?_) fun vs w1 hk hfacts=>?_
   ·rw [Nat.zero_add] at hk hfacts ⊢
    rw [iY] at hk
    obtain ⟨a,ha,hstep⟩:=hat j o ho
    rw [gK ha] at hfacts ⊢
    obtain ⟨hod,sl,hsl⟩:=jz hstep
    rw [hdst j a ha]
    refine (tU (l:=ops.toList) (vs:=vs) hT hO hstep ⟨fun i b hb=>(kA hb).1,hdst,hdist,fun i hi=>?_⟩ (fun ch g=>mj) (fun q hq=>hob q (lj ha q hq)) (dx hdt.1 o (List.mem_of_getElem? ho)) (hR.kp hk) (hf.kp hk)).2
    have hv:=gY hfacts i hi
    rw [hsl] at hi
    obtain ⟨i',b,e1,e2,_⟩:=bj.1 hi
    rw [Nat.zero_add] at e1; subst e1
    rw [gK (kA e2).1] at hv
    exact ⟨b,e2,hv⟩
   ·rw [iS] at hk
    have hall:∀ j a,ds[j]? = some a->DVal G ρ ds a (vs j) w1:=fun j a ha=>by
     have:=gY hfacts j (List.mem_range.2 (hlt j a ha))
     rwa [gK ha] at this
    have hctx:DCtx G ρ ops.toList ds vs ds (List.range k) w1:=⟨fun _ _ h=>h,hdst,hdist,fun j hj=>by
     have hj:=List.mem_range.1 hj
     have hj2:j<ds.length:=by omega
     exact ⟨_,List.getElem?_eq_getElem hj2,hall j _ (List.getElem?_eq_getElem hj2)⟩⟩
    have hfc:∀ p ∈ qO ds,p:=fun p hp=>by
     obtain ⟨i,a,h1,h2⟩:=lZ hp
     exact (hall i a h1).1 p h2
    obtain ⟨F',h1,h2⟩:=mz (D:=aN ops.toList F vs (List.range k)) (hf.kp hk) (fun i v hv=>by
     rw [iU fun j hj he=>?_]
     ·exact hv
     ·have hj:=List.mem_range.1 hj
      have hj2:j<ds.length:=by omega
      have:=hdst j _ (List.getElem?_eq_getElem hj2)
      rw [he] at this
      have h3:=(hfree j _ (List.getElem?_eq_getElem hj2)).1
      rw [<- Option.some.inj this] at h3
      exact h3 (List.mem_map.2 (mA hv))) (r:=ds) (fun a ha hc=>by
     obtain ⟨j,hj⟩:=List.getElem?_of_mem ha
     refine ⟨vs j,hctx.look (List.mem_range.2 (hlt j a hj)) hj,(hall j a hj).2.1 ?_⟩
     rw [hc]
     exact fun q hq=>by simp at hq)
    have:=fP (Q:=Q) (l:=ops.toList) hT hO hK _ _ _ _ F' w1 hdt.2 (h hfc) ⟨ρ,hS.trans (Stp.kp hR hk),hR.kp hk,h1⟩
    exact fun a ha=>this a (ha.sub h2)
  ·have e:ops=ops.toList.toArray:=by simp
   rw [e]
   exact lH hT hO hm hro hd h ⟨ρ,hS,hR,hf⟩ hK
 ·have e:ops=ops.toList.toArray:=by simp
  rw [e]
  exact lH hT hO hm hro hd h ⟨ρ,hS,hR,hf⟩ hK
def aq:List (Nat × TI)->TypeId->Option Sh
 | [],_=>none
 | (_,⟨.sl e (some s),_,_⟩) :: r,t=>bif Nat.beq e t then some s else aq r t
 | _ :: r,t=>aq r t
def wZ (P:Program):List Go.Field->List (Nat × Nat)->Bool
 | [],[]=>true
 | f :: r,q :: l=>(match P.info? f.type with
  | some i=>Nat.beq f.offset q.1 && Nat.beq i.size q.2 && Nat.blt 0 q.2
  | none=>false) && wZ P r l
 | _,_=>false
def xG (s:Sh) (z:Value):Bool:=match s.fp,z with
 | true,.agg a=>mN (cellsOf s (aJ s)) a.toList
 | true,_=>false
 | false,z=>mN (cellsOf s (aJ s)) [z]
theorem vD {s:Sh} {z:Value} (h:xG s z=true):∃ zs,mN (cellsOf s (aJ s)) zs=true/\((s.fp=true/\z = .agg zs.toArray)\/(s.fp=false/\zs=[z])):=by
 unfold xG at h
 split at h
 ·rename_i a hs
  exact ⟨a.toList,h,.inl ⟨hs,by simp⟩⟩
 ·cases h
 ·exact ⟨[_],h,.inr ⟨by assumption,rfl⟩⟩
def wo (P:Program) (T:List (Nat × TI)) (t:TypeId) (ti:TI):Bool:=match ti.k,P.underlying t with
 | .i k,some (.int k')=>decide (k' = k)
 | .bool,some .bool=>true
 | .str,some .string=>true
 | .sl e so,some (.slice e')=>Nat.beq e' e && (match so with
  | none=>true
  | some s=>decide (aq T e=some s) && (match P.info? e with
   | some i=>Nat.beq i.size s.size && Nat.beq i.bytes s.bytes && (match i.zero with
    | some z=>mN (cellsOf s (aJ s)) z.cells.toList
    | none=>false)
   | none=>false) && (match s with
   | .u8=>(match P.underlying e with
    | some (.int k)=>decide (k = .u8)
    | _=>false)
   | _=>true))
 | .st fs,some (.struct F)=>wZ P F.toList fs && (match uA ti.zero with
  | some ks=>xc P t ks
  | none=>true)
 | .ar n e,some (.array n' e')=>Nat.beq n' n && Nat.beq e' e
 | .mp k e so,some (.map k' e')=>Nat.beq k' k && Nat.beq e' e && (match P.underlying k with
  | some (.int ik)=>decide (ik = .i64)
  | _=>false) && (match so with
  | none=>match (P.info? e).bind (·.zero) with
   | some .nilFunc=>true
   | _=>false
  | some s=>match (P.info? e).bind (·.zero) with
   | some z=>xG s z
   | none=>false)
 | .ptr,some d=>!er d
 | .fn,some d=>!er d
 | .oth,some d=>!er d
 | _,_=>false
def xe (P:Program) (T:List (Nat × TI)) (t:TypeId) (ti:TI):Bool:=(match P.info? t with
 | some i=>Nat.beq i.size ti.size && (match i.zero with
  | some z=>mN ti.zero z.cells.toList
  | none=>false)
 | none=>false) && wo P T t ti
def sn (P:Program) (T:List (Nat × TI)):List (Nat × TI)->Bool
 | []=>true
 | (t,ti) :: r=>xe P T t ti && sn P T r
theorem rT {P:Program}:∀ {F:List Go.Field} {fs:List (Nat × Nat)},wZ P F fs=true->F.mapM (fun f=>(P.info? f.type).map fun i=>(f.offset,i.size))=some fs/\∀ q ∈ fs,0<q.2
 | [],[],_=>⟨rfl,by simp⟩
 | [],_ :: _,h=>by cases h
 | _ :: _,[],h=>by cases h
 | f :: F,(a,b) :: fs,h=>by
  simp only [wZ,Bool.and_eq_true] at h
  obtain ⟨h1,h2⟩:=h
  obtain ⟨h3,h4⟩:=rT h2
  split at h1
  ·rename_i i hi
   simp only [Bool.and_eq_true] at h1
   have e1:=Nat.eq_of_beq_eq_true h1.1.1
   have e2:=Nat.eq_of_beq_eq_true h1.1.2
   have e3:0<b:=by have:=(Nat.blt_eq).mp h1.2; exact this
   refine ⟨by rw [List.mapM_cons,hi,h3,e1,<- e2]; rfl,fun q hq=>?_⟩
   rcases List.mem_cons.1 hq with rfl | hq
   ·exact e3
   ·exact h4 q hq
  ·cases h1
theorem vH {P:Program} {T:List (Nat × TI)} {t:TypeId} {ti:TI} (h:xe P T t ti=true):wP P (aq T) t ti:=by
 simp only [xe,Bool.and_eq_true] at h
 obtain ⟨h1,h2⟩:=h
 refine ⟨?_,?_⟩
 ·split at h1
  ·rename_i i hi
   simp only [Bool.and_eq_true] at h1
   obtain ⟨h3,h4⟩:=h1
   refine ⟨by rw [hi,Option.map_some,Nat.eq_of_beq_eq_true h3],?_⟩
   split at h4
   ·rename_i z hz
    exact ⟨z.cells.toList,by simp [hi,hz],h4⟩
   ·cases h4
  ·cases h1
 ·unfold wo at h2
  split at h2
  ·rename_i k k' hk hu
   simp only [hk]; rw [hu,of_decide_eq_true h2]
  ·rename_i hk hu
   simp only [hk]; exact hu
  ·rename_i hk hu
   simp only [hk]; exact hu
  ·rename_i e so e' hk hu
   simp only [hk]
   simp only [Bool.and_eq_true] at h2
   have e1:=Nat.eq_of_beq_eq_true h2.1
   subst e1
   refine ⟨hu,fun s hs=>?_⟩
   subst hs
   have h3:=h2.2
   simp only [Bool.and_eq_true,decide_eq_true_eq] at h3
   obtain ⟨⟨h3,h4⟩,h5⟩:=h3
   refine ⟨h3,?_,?_⟩
   ·split at h4
    ·rename_i i hi
     simp only [Bool.and_eq_true] at h4
     obtain ⟨⟨h6,h7⟩,h8⟩:=h4
     split at h8
     ·rename_i z hz
      refine ⟨z.cells.toList,?_,h8⟩
      rw [hi,Option.map_some,hz,Nat.eq_of_beq_eq_true h6,Nat.eq_of_beq_eq_true h7]
      simp
     ·cases h8
    ·cases h4
   ·rintro rfl
    simp only at h5
    split at h5
    ·rename_i k hk
     rw [hk,of_decide_eq_true h5]
    ·cases h5
  ·rename_i fs F hk hu
   simp only [hk]
   simp only [Bool.and_eq_true] at h2
   obtain ⟨h3,h4⟩:=rT h2.1
   refine ⟨F,hu,h3,h4,fun ks hks=>?_⟩
   have h5:=h2.2
   rw [hks] at h5
   exact h5
  ·rename_i n e n' e' hk hu
   simp only [hk]
   simp only [Bool.and_eq_true] at h2
   rw [hu,Nat.eq_of_beq_eq_true h2.1,Nat.eq_of_beq_eq_true h2.2]
  ·rename_i k e so k' e' hk hu
   simp only [hk]
   simp only [Bool.and_eq_true] at h2
   obtain ⟨⟨⟨h3,h4⟩,h5⟩,h6⟩:=h2
   rw [Nat.eq_of_beq_eq_true h3,Nat.eq_of_beq_eq_true h4] at hu
   refine ⟨hu,?_,fun s hs=>?_,fun hn=>?_⟩
   ·split at h5
    ·rename_i ik hik
     rw [hik,of_decide_eq_true h5]
    ·cases h5
   ·subst hs
    simp only at h6
    split at h6
    ·rename_i z hz
     obtain ⟨zs,h7,h8⟩:=vD h6
     exact ⟨z,zs,hz,h7,h8⟩
    ·cases h6
   ·subst hn
    simp only at h6
    split at h6
    ·assumption
    ·cases h6
  ·rename_i d hk hu
   simp only [hk]
   exact ⟨d,hu,by simpa using h2⟩
  ·rename_i d hk hu
   simp only [hk]
   exact ⟨d,hu,by simpa using h2⟩
  ·rename_i d hk hu
   simp only [hk]
   exact ⟨d,hu,by simpa using h2⟩
  ·cases h2
theorem jv {t:TypeId} {ti:TI}:∀ {T:List (Nat × TI)},au T t=some ti->(t,ti) ∈ T
 | [],h=>by cases h
 | (j,v) :: r,h=>by
  simp only [au] at h
  cases hb:Nat.beq j t <;> rw [hb] at h
  ·exact List.mem_cons_of_mem _ (jv h)
  ·cases h
   rw [Nat.eq_of_beq_eq_true hb]
   simp
theorem lQ {P:Program} {T:List (Nat × TI)}:∀ {r:List (Nat × TI)},sn P T r=true->∀ q ∈ r,xe P T q.1 q.2=true
 | [],_,q,hq=>by simp at hq
 | (t,ti) :: r,h,q,hq=>by
  simp only [sn,Bool.and_eq_true] at h
  rcases List.mem_cons.1 hq with rfl | hq
  ·exact h.1
  ·exact lQ h.2 q hq
theorem vo {P:Program} {T:List (Nat × TI)} (h:sn P T T=true):ao P (aq T) T:=fun _ _ ht=>vH (lQ h _ (jv ht))
end Go.Proofs.YtagpmhlokhoanaaDoor
namespace Go.Proofs.YtagpmhlokhoanaaDoor
def bH:List (Nat × TI):=[
 (1,⟨.fn,1,[.nf]⟩),
 (2,⟨.i .i64,1,[.int 0]⟩),
 (3,⟨.i .i64,1,[.int 0]⟩),
 (4,⟨.bool,1,[.bool (.lit false)]⟩),
 (5,⟨.i .u8,1,[.u8 0]⟩),
 (6,⟨.i .u8,1,[.u8 0]⟩),
 (9,⟨.str,1,[.str ⟨[]⟩]⟩),
 (10,⟨.str,1,[.str ⟨[]⟩]⟩),
 (11,⟨.str,1,[.str ⟨[]⟩]⟩),
 (12,⟨.i .u64,1,[.u64 0]⟩),
 (15,⟨.ptr,1,[.np]⟩),
 (16,⟨.ptr,1,[.np]⟩),
 (17,⟨.ptr,1,[.np]⟩),
 (18,⟨.st [(0,1)],1,[.np]⟩),
 (19,⟨.st [(0,1)],1,[.np]⟩),
 (22,⟨.sl 3 (some .int),1,[.em true]⟩),
 (23,⟨.st [(0,1),(1,1),(2,1),(3,1),(4,1),(5,1),(6,1),(7,1)],8,[.int 0,.int 0,.int 0,.int 0,.int 0,.int 0,.em true,.str ⟨[]⟩]⟩),
 (24,⟨.st [(0,1),(1,1),(2,1),(3,1),(4,1),(5,1),(6,1),(7,1)],8,[.int 0,.int 0,.int 0,.int 0,.int 0,.int 0,.em true,.str ⟨[]⟩]⟩),
 (25,⟨.st [(0,1),(1,1),(2,1),(3,8)],11,[.int 0,.int 0,.int 0,.int 0,.int 0,.int 0,.int 0,.int 0,.int 0,.em true,.str ⟨[]⟩]⟩),
 (26,⟨.st [(0,1),(1,1),(2,1),(3,8)],11,[.int 0,.int 0,.int 0,.int 0,.int 0,.int 0,.int 0,.int 0,.int 0,.em true,.str ⟨[]⟩]⟩),
 (27,⟨.fn,1,[.nf]⟩),
 (28,⟨.fn,1,[.nf]⟩),
 (29,⟨.i .i64,1,[.int 0]⟩),
 (31,⟨.fn,1,[.nf]⟩),
 (32,⟨.fn,1,[.nf]⟩),
 (34,⟨.fn,1,[.nf]⟩),
 (35,⟨.fn,1,[.nf]⟩),
 (36,⟨.sl 26 (some (.nm .event)),1,[.em true]⟩),
 (37,⟨.fn,1,[.nf]⟩),
 (38,⟨.fn,1,[.nf]⟩),
 (39,⟨.fn,1,[.nf]⟩),
 (41,⟨.fn,1,[.nf]⟩),
 (42,⟨.fn,1,[.nf]⟩),
 (43,⟨.fn,1,[.nf]⟩),
 (44,⟨.fn,1,[.nf]⟩),
 (45,⟨.ar 10 9,10,[.str ⟨[]⟩,.str ⟨[]⟩,.str ⟨[]⟩,.str ⟨[]⟩,.str ⟨[]⟩,.str ⟨[]⟩,.str ⟨[]⟩,.str ⟨[]⟩,.str ⟨[]⟩,.str ⟨[]⟩]⟩),
 (46,⟨.sl 9 (some .str),1,[.em true]⟩),
 (47,⟨.fn,1,[.nf]⟩),
 (48,⟨.fn,1,[.nf]⟩),
 (49,⟨.fn,1,[.nf]⟩),
 (50,⟨.fn,1,[.nf]⟩),
 (51,⟨.fn,1,[.nf]⟩),
 (52,⟨.fn,1,[.nf]⟩),
 (54,⟨.fn,1,[.nf]⟩),
 (55,⟨.fn,1,[.nf]⟩),
 (56,⟨.fn,1,[.nf]⟩),
 (57,⟨.fn,1,[.nf]⟩),
 (58,⟨.sl 5 (some .u8),1,[.em true]⟩),
 (59,⟨.fn,1,[.nf]⟩),
 (60,⟨.ptr,1,[.np]⟩),
 (61,⟨.st [(0,1),(1,1)],2,[.np,.em true]⟩),
 (62,⟨.st [(0,1),(1,1)],2,[.np,.em true]⟩),
 (66,⟨.fn,1,[.nf]⟩),
 (67,⟨.fn,1,[.nf]⟩),
 (68,⟨.fn,1,[.nf]⟩),
 (69,⟨.i .u64,1,[.u64 0]⟩),
 (70,⟨.fn,1,[.nf]⟩),
 (71,⟨.fn,1,[.nf]⟩),
 (73,⟨.fn,1,[.nf]⟩),
 (74,⟨.sl 75 none,1,[.em true]⟩),
 (75,⟨.ptr,1,[.np]⟩),
 (76,⟨.fn,1,[.nf]⟩),
 (77,⟨.ptr,1,[.np]⟩),
 (79,⟨.fn,1,[.nf]⟩),
 (80,⟨.fn,1,[.nf]⟩),
 (81,⟨.ptr,1,[.np]⟩),
 (82,⟨.fn,1,[.nf]⟩),
 (83,⟨.fn,1,[.nf]⟩),
 (84,⟨.fn,1,[.nf]⟩),
 (85,⟨.fn,1,[.nf]⟩),
 (86,⟨.fn,1,[.nf]⟩),
 (88,⟨.fn,1,[.nf]⟩),
 (89,⟨.ar 24 5,24,[.u8 0,.u8 0,.u8 0,.u8 0,.u8 0,.u8 0,.u8 0,.u8 0,.u8 0,.u8 0,.u8 0,.u8 0,.u8 0,.u8 0,.u8 0,.u8 0,.u8 0,.u8 0,.u8 0,.u8 0,.u8 0,.u8 0,.u8 0,.u8 0]⟩),
 (90,⟨.i .u64,1,[.u64 0]⟩),
 (91,⟨.fn,1,[.nf]⟩),
 (92,⟨.fn,1,[.nf]⟩),
 (94,⟨.fn,1,[.nf]⟩),
 (95,⟨.fn,1,[.nf]⟩),
 (96,⟨.i .i64,1,[.int 0]⟩),
 (98,⟨.fn,1,[.nf]⟩),
 (99,⟨.ptr,1,[.np]⟩),
 (100,⟨.fn,1,[.nf]⟩),
 (101,⟨.fn,1,[.nf]⟩),
 (103,⟨.fn,1,[.nf]⟩),
 (104,⟨.fn,1,[.nf]⟩),
 (105,⟨.fn,1,[.nf]⟩),
 (106,⟨.ar 20 90,20,[.u64 0,.u64 0,.u64 0,.u64 0,.u64 0,.u64 0,.u64 0,.u64 0,.u64 0,.u64 0,.u64 0,.u64 0,.u64 0,.u64 0,.u64 0,.u64 0,.u64 0,.u64 0,.u64 0,.u64 0]⟩),
 (108,⟨.ar 65 5,65,[.u8 0,.u8 0,.u8 0,.u8 0,.u8 0,.u8 0,.u8 0,.u8 0,.u8 0,.u8 0,.u8 0,.u8 0,.u8 0,.u8 0,.u8 0,.u8 0,.u8 0,.u8 0,.u8 0,.u8 0,.u8 0,.u8 0,.u8 0,.u8 0,.u8 0,.u8 0,.u8 0,.u8 0,.u8 0,.u8 0,.u8 0,.u8 0,.u8 0,.u8 0,.u8 0,.u8 0,.u8 0,.u8 0,.u8 0,.u8 0,.u8 0,.u8 0,.u8 0,.u8 0,.u8 0,.u8 0,.u8 0,.u8 0,.u8 0,.u8 0,.u8 0,.u8 0,.u8 0,.u8 0,.u8 0,.u8 0,.u8 0,.u8 0,.u8 0,.u8 0,.u8 0,.u8 0,.u8 0,.u8 0,.u8 0]⟩),
 (109,⟨.fn,1,[.nf]⟩),
 (111,⟨.fn,1,[.nf]⟩),
 (114,⟨.fn,1,[.nf]⟩),
 (115,⟨.fn,1,[.nf]⟩),
 (116,⟨.fn,1,[.nf]⟩),
 (117,⟨.fn,1,[.nf]⟩),
 (118,⟨.ptr,1,[.np]⟩),
 (124,⟨.ar 16 123,32,[.u8 0,.u8 0,.u8 0,.u8 0,.u8 0,.u8 0,.u8 0,.u8 0,.u8 0,.u8 0,.u8 0,.u8 0,.u8 0,.u8 0,.u8 0,.u8 0,.u8 0,.u8 0,.u8 0,.u8 0,.u8 0,.u8 0,.u8 0,.u8 0,.u8 0,.u8 0,.u8 0,.u8 0,.u8 0,.u8 0,.u8 0,.u8 0]⟩),
 (126,⟨.fn,1,[.nf]⟩),
 (127,⟨.ar 32 5,32,[.u8 0,.u8 0,.u8 0,.u8 0,.u8 0,.u8 0,.u8 0,.u8 0,.u8 0,.u8 0,.u8 0,.u8 0,.u8 0,.u8 0,.u8 0,.u8 0,.u8 0,.u8 0,.u8 0,.u8 0,.u8 0,.u8 0,.u8 0,.u8 0,.u8 0,.u8 0,.u8 0,.u8 0,.u8 0,.u8 0,.u8 0,.u8 0]⟩),
 (128,⟨.ar 64 5,64,[.u8 0,.u8 0,.u8 0,.u8 0,.u8 0,.u8 0,.u8 0,.u8 0,.u8 0,.u8 0,.u8 0,.u8 0,.u8 0,.u8 0,.u8 0,.u8 0,.u8 0,.u8 0,.u8 0,.u8 0,.u8 0,.u8 0,.u8 0,.u8 0,.u8 0,.u8 0,.u8 0,.u8 0,.u8 0,.u8 0,.u8 0,.u8 0,.u8 0,.u8 0,.u8 0,.u8 0,.u8 0,.u8 0,.u8 0,.u8 0,.u8 0,.u8 0,.u8 0,.u8 0,.u8 0,.u8 0,.u8 0,.u8 0,.u8 0,.u8 0,.u8 0,.u8 0,.u8 0,.u8 0,.u8 0,.u8 0,.u8 0,.u8 0,.u8 0,.u8 0,.u8 0,.u8 0,.u8 0,.u8 0]⟩),
 (129,⟨.st [(0,1),(1,1),(2,1),(3,1)],4,[.np,.np,.np,.str ⟨[]⟩]⟩),
 (130,⟨.st [(0,1),(1,1),(2,1),(3,1)],4,[.np,.np,.np,.str ⟨[]⟩]⟩),
 (131,⟨.ar 0 16,0,[]⟩),
 (134,⟨.fn,1,[.nf]⟩),
 (135,⟨.i .u8,1,[.u8 0]⟩),
 (136,⟨.i .u8,1,[.u8 0]⟩),
 (137,⟨.fn,1,[.nf]⟩)]
end Go.Proofs.YtagpmhlokhoanaaDoor
namespace Go.Proofs.YtagpmhlokhoanaaDoor
theorem kI:ao Tryd.prog (aq bH) bH:=vo (by kernel_rfl)
theorem pY:Tryd.prog.follows .mixedOrders=true:=by kernel_rfl
end Go.Proofs.YtagpmhlokhoanaaDoor
namespace Go.Proofs.YtagpmhlokhoanaaDoor
open Go.RowKit
def wm (a b:TV1):Prop:=∀ c ρ v,aO c ρ a v->aO c ρ b v
def pb:List TV1->List TV1->Prop
 | [],[]=>True
 | a :: r,b :: l=>wm a b/\pb r l
 | _,_=>False
theorem pb.rd {c:Cx} {ρ:List RE}:∀ {aa bs:List TV1} {vs:List Value},pb aa bs->All2 (aO c ρ) aa vs->All2 (aO c ρ) bs vs
 | [],[],_,_,h=>h
 | [],_ :: _,_,h,_=>h.elim
 | _ :: _,[],_,h,_=>h.elim
 | _ :: _,_ :: _,_,h,k=>by cases k with | cons k1 k2=>exact .cons (h.1 _ _ _ k1) (pb.rd h.2 k2)
structure PU (α:Type) where
 p:TV1->Option α
 u:α->TV1
def PU.OK {α:Type} (A:PU α):Prop:=∀ a y,A.p a=some y->wm a (A.u y)
def kT (s:Sh):PU (den s):=⟨fun | .agg l=>bS s l | _=>none,fun x=>.agg (cellsOf s x)⟩
theorem iO {s:Sh}:(kT s).OK:=fun a y h=>by
 cases a with
 | c a=>cases h
 | agg l=>exact fun c ρ v ⟨vs,e,hv⟩=>⟨vs,e,ct (ag h (hv.imp fun _ _ h=>Rd.qd h))⟩
structure PC (α:Type) where
 p:AV->Option α
 u:α->AV
def PC.OK {α:Type} (A:PC α):Prop:=∀ a y,A.p a=some y->∀ c ρ v,Rd c ρ a v->Rd c ρ (A.u y) v
def cI:PC Int:=⟨AV.av,.int⟩
def cS:PC Str:=⟨AV.nL,.str⟩
def cB:PC Bool:=⟨AV.mG,fun b=>.bool (.atom b)⟩
def cL (s:Sh):PC (List (den s)):=⟨AV.dC s,.fz s⟩
def tp (i:Nat):PC Unit:=⟨fun | .own j=>bif Nat.beq j i then some () else none | _=>none,fun _=>.own i⟩
def td (i o:Nat):PC Unit:=⟨fun | .ptr j k=>bif Nat.beq j i && Nat.beq k o then some () else none | _=>none,fun _=>.ptr i o⟩
theorem fg {A:AV} {y:AV} (h:∀ c v,Qd c A v->Pd c y v):∀ c ρ v,Rd c ρ A v->Rd c ρ y v:=fun c ρ v hv=>dy (h c v (Rd.qd hv))
theorem ud:cI.OK:=fun a y h=>fg fun _ _ hv=>Pd.av h hv
theorem ue:cS.OK:=fun a y h=>fg fun _ _ hv=>Pd.nL h hv
theorem wD:cB.OK:=fun a y h=>fg fun _ _ hv=>Pd.mG h hv
theorem ra {s:Sh}:(cL s).OK:=fun a y h=>fg fun _ _ hv=>Pd.dC h hv
theorem oc {i:Nat}:(tp i).OK:=fun a y h c ρ v hv=>by
 cases a <;> simp only [tp] at h <;> try cases h
 rename_i j
 cases hb:Nat.beq j i <;> rw [hb] at h <;> cases h
 rw [Nat.eq_of_beq_eq_true hb] at hv; exact hv
theorem oy {i o:Nat}:(td i o).OK:=fun a y h c ρ v hv=>by
 cases a <;> simp only [td] at h <;> try cases h
 rename_i j k
 cases hb:(Nat.beq j i && Nat.beq k o) <;> rw [hb] at h <;> cases h
 simp only [Bool.and_eq_true] at hb
 rw [Nat.eq_of_beq_eq_true hb.1,Nat.eq_of_beq_eq_true hb.2] at hv; exact hv
structure PL (α:Type) where
 p:List AV->Option α
 u:α->List AV
def PL.OK {α:Type} (A:PL α):Prop:=∀ l y,A.p l=some y->∀ c ρ vs,All2 (Rd c ρ) l vs->All2 (Rd c ρ) (A.u y) vs
def sK:PL Unit:=⟨fun | []=>some () | _=>none,fun _=>[]⟩
def ot {α β:Type} (A:PC α) (R:PL β):PL (α × β):=⟨fun
 | a :: r=>match A.p a,R.p r with
  | some x,some y=>some (x,y)
  | _,_=>none
 | _=>none,fun q=>A.u q.1 :: R.u q.2⟩
theorem oq:sK.OK:=fun l y h c ρ vs hv=>by cases l <;> simp only [sK] at h <;> first | exact hv | cases h
theorem mh {α β:Type} {A:PC α} {R:PL β} (hA:A.OK) (hR:R.OK):(ot A R).OK:=fun l y h c ρ vs hv=>by
 cases l with
 | nil=>cases h
 | cons a r=>
  simp only [ot] at h
  split at h
  ·rename_i h1 h2
   cases h
   cases hv with
   | cons k1 k2=>exact .cons (hA _ _ h1 _ _ _ k1) (hR _ _ h2 _ _ _ k2)
  ·cases h
def kC {α:Type} (A:PC α):PU α:=⟨fun | .c a=>A.p a | _=>none,fun y=>.c (A.u y)⟩
theorem dZ {α:Type} {A:PC α} (hA:A.OK):(kC A).OK:=fun a y h=>by
 cases a with
 | c a=>exact fun c ρ v hv=>hA _ _ h c ρ v hv
 | agg l=>cases h
structure PT (α:Type) where
 p:List TV1->Option α
 u:α->List TV1
def PT.OK {α:Type} (A:PT α):Prop:=∀ l y,A.p l=some y->pb l (A.u y)
def eI:PT Unit:=⟨fun | []=>some () | _=>none,fun _=>[]⟩
def bp {α β:Type} (A:PU α) (R:PT β):PT (α × β):=⟨fun
 | a :: r=>match A.p a,R.p r with
  | some x,some y=>some (x,y)
  | _,_=>none
 | _=>none,fun q=>A.u q.1 :: R.u q.2⟩
theorem bh:eI.OK:=fun l y h=>by cases l <;> simp only [eI] at h <;> first | exact trivial | cases h
theorem aB {α β:Type} {A:PU α} {R:PT β} (hA:A.OK) (hR:R.OK):(bp A R).OK:=fun l y h=>by
 cases l with
 | nil=>cases h
 | cons a r=>
  simp only [bp] at h
  split at h
  ·rename_i h1 h2
   cases h
   exact ⟨hA _ _ h1,hR _ _ h2⟩
  ·cases h
structure PO (α:Type) where
 p:AO->Option α
 u:α->AO
def PO.OK {α:Type} (A:PO α):Prop:=∀ o y,A.p o=some y->∀ c ρ r,OR c ρ o r->OR c ρ (A.u y) r
def tC {α:Type} (t:TypeId) (R:PL α):PO α:=⟨fun | .box t' cs=>bif Nat.beq t' t then R.p cs else none | _=>none,fun y=>.box t (R.u y)⟩
def tc (t:TypeId) (s:Sh):PO (List (den s)):=⟨fun | .row t' s' xs=>bif Nat.beq t' t then (if h:s' = s then some (h ▸ xs) else none) else none | _=>none,fun xs=>.row t s xs⟩
theorem nn {α:Type} {t:TypeId} {R:PL α} (hR:R.OK):(tC t R).OK:=fun o y h c ρ r hr=>by
 cases o <;> simp only [tC] at h <;> try cases h
 rename_i t' cs
 cases hb:Nat.beq t' t <;> rw [hb] at h
 ·cases h
 ·have:=Nat.eq_of_beq_eq_true hb
  subst this
  obtain ⟨g,vs,e,h1,h2⟩:=hr
  exact ⟨g,vs,e,h1,hR _ _ h _ _ _ h2⟩
theorem nH {t:TypeId} {s:Sh}:(tc t s).OK:=fun o y h c ρ r hr=>by
 cases o <;> simp only [tc] at h <;> try cases h
 rename_i t' s' xs
 cases hb:Nat.beq t' t <;> rw [hb] at h
 ·cases h
 ·have:=Nat.eq_of_beq_eq_true hb
  subst this
  simp only [cond_true] at h
  split at h
  ·rename_i e
   subst e
   cases h
   exact hr
  ·cases h
structure PH (α:Type) where
 p:AH->Option α
 u:α->AH
def PH.OK {α:Type} (A:PH α):Prop:=∀ H y,A.p H=some y->∀ c ρ ρ',All2 (OR c ρ) H ρ' -> All2 (OR c ρ) (A.u y) ρ'
def eZ:PH Unit:=⟨fun | []=>some () | _=>none,fun _=>[]⟩
def ju {α β:Type} (A:PO α) (R:PH β):PH (α × β):=⟨fun
 | a :: r=>match A.p a,R.p r with
  | some x,some y=>some (x,y)
  | _,_=>none
 | _=>none,fun q=>A.u q.1 :: R.u q.2⟩
theorem bg:eZ.OK:=fun l y h c ρ ρ' hr=>by cases l <;> simp only [eZ] at h <;> first | exact hr | cases h
theorem e_ {α β:Type} {A:PO α} {R:PH β} (hA:A.OK) (hR:R.OK):(ju A R).OK:=fun l y h c ρ ρ' hr=>by
 cases l with
 | nil=>cases h
 | cons a r=>
  simp only [ju] at h
  split at h
  ·rename_i h1 h2
   cases h
   cases hr with
   | cons k1 k2=>exact .cons (hA _ _ h1 _ _ _ k1) (hR _ _ h2 _ _ _ k2)
  ·cases h
theorem Sat.xH {P:Program} {shp:TypeId->Option Sh} {f:Nat} {aa bs:List TV1} {H H':AH} {r:SpecR} (h:Sat P shp f bs H' r) (hs:pb aa bs) (hH:∀ c ρ ρ',All2 (OR c ρ) H ρ' -> All2 (OR c ρ) H' ρ'):Sat P shp f aa H r:=
 ⟨h.1,fun G ρ w vs hg hR hv=>h.2 G ρ w vs hg ⟨hH _ _ _ hR.obj,hR.inj,hR.bnd,hR.z,hR.b0,hR.tb⟩ (hs.rd hv)⟩
section
variable {α β:Type} {P:Program} {shp:TypeId->Option Sh} {f:Nat}
def kK (A:PT α) (B:PH β) (r:α->β->SpecR):List TV1->AH->Option SpecR:=fun a H=>match A.p a,B.p H with
 | some x,some y=>some (r x y)
 | _,_=>none
def uy (P:Program) (shp:TypeId->Option Sh) (f:Nat) (k:List TV1->AH->Option SpecR):Prop:=∀ args H r,k args H=some r->(∀ p ∈ r.pre,p)->Sat P shp f args H r
theorem bM {A:PT α} {B:PH β} {r:α->β->SpecR} (hA:A.OK) (hB:B.OK) (h:∀ x y,(∀ p ∈ (r x y).pre,p)->Sat P shp f (A.u x) (B.u y) (r x y)):uy P shp f (kK A B r):=fun args H R e hp=>by
 unfold kK at e
 split at e
 ·rename_i hx hy
  cases e
  exact (h _ _ hp).xH (hA _ _ hx) fun c ρ ρ' hr=>hB _ _ hy c ρ ρ' hr
 ·cases e
def nw (f:Nat) (k:List TV1->AH->Option SpecR) (O:cZ):cZ:=fun g a H=>bif Nat.beq f g then (match k a H with
 | some r=>some r
 | none=>O g a H) else O g a H
theorem bL {k:List TV1->AH->Option SpecR} {O:cZ} (hk:uy P shp f k) (hO:aS P shp O):aS P shp (nw f k O):=fun g args H r h hp=>by
 unfold nw at h
 cases hb:Nat.beq f g <;> rw [hb] at h
 ·exact hO g args H r h hp
 ·have:=Nat.eq_of_beq_eq_true hb
  subst this
  simp only [cond_true] at h
  split at h
  ·rename_i hkk
   cases h
   exact hk _ _ _ hkk hp
  ·exact hO f args H r h hp
def vZ:cZ:=fun _ _ _=>none
theorem tV:aS P shp vZ:=fun _ _ _ _ h=>by cases h
theorem xW {p:Prop} {l:List Prop} (h:∀ q ∈ p :: l,q):p:=h _ (.head _)
end
theorem d_ {O:cZ} (hO:aS Tryd.prog (aq bH) O) {f:Nat} {fn:Func} {args rs:List TV1} {H:AH} {pre:List Prop} (L:List (Nat × LI)) (hfn:Tryd.prog.funcs[f]? = some fn) (hng:(fn.name == "runtime.NumGoroutine")=false)
  (hc:(match fn.body with
   | some c=>br fn.ntmps c && Nat.ble args.length fn.ntmps
   | none=>false)=true) (h:oW bH O L fn args H rs):Sat Tryd.prog (aq bH) f args H ⟨pre,rs,none,false⟩:=Sat.uE kI hO (mE kI hO pY) hfn hng hc h
theorem wH {O:cZ} (hO:aS Tryd.prog (aq bH) O) {f:Nat} {fn:Func} {args rs:List TV1} {H H':AH} {pre:List Prop} (L:List (Nat × LI)) (hfn:Tryd.prog.funcs[f]? = some fn) (hng:(fn.name == "runtime.NumGoroutine")=false)
  (hc:(match fn.body with
   | some c=>br fn.ntmps c && Nat.ble args.length fn.ntmps
   | none=>false)=true) (h:ye bH O L fn args H rs H'):Sat Tryd.prog (aq bH) f args H ⟨pre,rs,some H',false⟩:=Sat.vK kI hO (mE kI hO pY) hfn hng hc h
def tw (l:List UInt8):Nat:=l.foldl (fun a c=>10*a+(c.toNat - 48)) 0
theorem sV {u:Nat} (h:u<10):(UInt8.ofNat (48+u)).toNat=48+u:=by
 rw [UInt8.toNat_ofNat']; exact Nat.mod_eq_of_lt (by omega)
theorem lf:∀ u:Nat,tw (Lib.decDigits u)=u:=fun u=>by
 induction u using Nat.strongRecOn with
 | _ u ih=>
  by_cases h:u<10
  ·rw [Lib.decDigits,dif_pos h]
   simp only [tw,List.foldl_cons,List.foldl_nil,sV h]; omega
  ·rw [Lib.decDigits,dif_neg h]
   have:=ih (u / 10) (by omega)
   unfold tw at this ⊢
   rw [List.foldl_append,this]
   simp only [List.foldl_cons,List.foldl_nil,sV (show u % 10<10 by omega)]; omega
theorem sX:∀ (u:Nat) (c:UInt8),c ∈ Lib.decDigits u->48<=c.toNat/\c.toNat<=57:=fun u=>by
 induction u using Nat.strongRecOn with
 | _ u ih=>
  intro c hc
  by_cases h:u<10
  ·rw [Lib.decDigits,dif_pos h,List.mem_singleton] at hc
   subst hc; rw [sV h]; omega
  ·rw [Lib.decDigits,dif_neg h,List.mem_append,List.mem_singleton] at hc
   rcases hc with hc | rfl
   ·exact ih (u / 10) bK c hc
   ·rw [sV (by omega)]; omega
theorem bu {m n:Int} (hm:0<=m) (hn:0<=n) (h:Lib.itoa m=Lib.itoa n):m=n:=by
 unfold Lib.itoa at h
 rw [if_neg (by omega),if_neg (by omega)] at h
 have:=congrArg tw h
 rw [lf,lf] at this; omega
def okW (l:List UInt8):Prop:=∀ c ∈ l,c≠32/\c≠10
theorem nD (u:Nat):okW (Lib.decDigits u):=fun c hc=>by
 have:=sX u c hc
 constructor <;> (rintro rfl; revert this; decide)
theorem ff (n:Int):okW (Lib.itoa n):=by
 unfold Lib.itoa
 split
 ·intro c hc
  rcases List.mem_cons.1 hc with rfl | hc
  ·decide
  ·exact nD _ c hc
 ·exact nD _
theorem ic:∀ {x y t u:List UInt8},okW x->okW y->(t=[]\/∃ s,t=32 :: s)->(u=[]\/∃ s,u=32 :: s)->x++t=y++u->x=y/\t=u
 | [],[],_,_,_,_,_,_,h=>⟨rfl,h⟩
 | [],c :: y,t,u,_,hy,ht,_,h=>by
  rcases ht with rfl | ⟨s,rfl⟩
  ·cases h
  ·simp only [List.nil_append,List.cons_append,List.cons.injEq] at h
   exact absurd h.1.symm (hy c (by simp)).1
 | c :: x,[],t,u,hx,_,_,hu,h=>by
  rcases hu with rfl | ⟨s,rfl⟩
  ·cases h
  ·simp only [List.nil_append,List.cons_append,List.cons.injEq] at h
   exact absurd h.1 (hx c (by simp)).1
 | c :: x,d :: y,t,u,hx,hy,ht,hu,h=>by
  simp only [List.cons_append,List.cons.injEq] at h
  have:=ic (fun a ha=>hx a (by simp [ha])) (fun a ha=>hy a (by simp [ha])) ht hu h.2
  exact ⟨by rw [h.1,this.1],this.2⟩
theorem dW (r:List (List UInt8)):Lib.joinTail [32] r=[]\/∃ s,Lib.joinTail [32] r=32 :: s:=by
 cases r with
 | nil=>exact .inl rfl
 | cons x r=>exact .inr ⟨x++Lib.joinTail [32] r,by simp [Lib.joinTail]⟩
theorem tail_cons (x:List UInt8) (r:List (List UInt8)):Lib.joinTail [32] (x :: r)=32 :: (x++Lib.joinTail [32] r):=by simp [Lib.joinTail]
theorem mf:∀ {r s:List (List UInt8)},(∀ x ∈ r,okW x)->(∀ x ∈ s,okW x)->Lib.joinTail [32] r=Lib.joinTail [32] s->r=s
 | [],[],_,_,_=>rfl
 | [],y :: s,_,_,h=>by rw [tail_cons] at h; cases h
 | x :: r,[],_,_,h=>by rw [tail_cons] at h; cases h
 | x :: r,y :: s,hr,hs,h=>by
  rw [tail_cons,tail_cons,List.cons.injEq] at h
  have:=ic (hr x (by simp)) (hs y (by simp)) (dW r) (dW s) h.2
  rw [this.1,mf (fun z hz=>hr z (by simp [hz])) (fun z hz=>hs z (by simp [hz])) this.2]
def jn (l:List (List UInt8)):List UInt8:=Lib.join l [32]
theorem u_ {x y:List UInt8} {r s:List (List UInt8)} (hr:∀ z ∈ x :: r,okW z) (hs:∀ z ∈ y :: s,okW z) (h:jn (x :: r)=jn (y :: s)):x :: r=y :: s:=by
 unfold jn at h
 rw [Lib.join_cons,Lib.join_cons] at h
 have:=ic (hr x (by simp)) (hs y (by simp)) (dW r) (dW s) h
 rw [this.1,mf (fun z hz=>hr z (by simp [hz])) (fun z hz=>hs z (by simp [hz])) this.2]
theorem nx:∀ {r:List (List UInt8)},(∀ x ∈ r,okW x)->∀ c ∈ Lib.joinTail [32] r,c≠10
 | [],_,c,hc=>by cases hc
 | x :: r,hr,c,hc=>by
  rw [tail_cons,List.mem_cons,List.mem_append] at hc
  rcases hc with rfl | hc | hc
  ·decide
  ·exact (hr x (by simp) c hc).2
  ·exact nx (fun z hz=>hr z (by simp [hz])) c hc
theorem wO {l:List (List UInt8)} (hl:∀ x ∈ l,okW x):∀ c ∈ jn l,c≠10:=by
 cases l with
 | nil=>intro c hc; cases hc
 | cons x r=>
  intro c hc
  unfold jn at hc
  rw [Lib.join_cons,List.mem_append] at hc
  rcases hc with hc | hc
  ·exact (hl x (by simp) c hc).2
  ·exact nx (fun z hz=>hl z (by simp [hz])) c hc
def si:List UInt8:=[48,49,50,51,52,53,54,55,56,57,97,98,99,100,101,102]
def kx (k:Nat):UInt8:=si.getD k 0
theorem qv:∀ j k:Fin 16,kx j=kx k->j=k:=by decide
theorem nP:∀ j:Fin 16,kx j≠32/\kx j≠10/\kx j≠45:=by decide
def cr (c:UInt8):List UInt8:=[kx (c.toNat / 16),kx (c.toNat % 16)]
def bO (l:List UInt8):List UInt8:=if l=[] then [45] else l.flatMap cr
theorem jC {j k:Nat} (hj:j<16) (hk:k<16) (h:kx j=kx k):j=k:=by
 have:=qv ⟨j,hj⟩ ⟨k,hk⟩ h
 simpa using this
theorem rM {c d:UInt8} {r s:List UInt8} (h:cr c++r=cr d++s):c=d/\r=s:=by
 simp only [cr,List.cons_append,List.nil_append,List.cons.injEq] at h
 have hc:=c.toNat_lt; have hd:=d.toNat_lt
 have h1:=jC (by omega) (by omega) h.1
 have h2:=jC (by omega) (by omega) h.2.1
 exact ⟨UInt8.toNat_inj.1 bK,h.2.2⟩
theorem lS:∀ {l m:List UInt8},l.flatMap cr=m.flatMap cr->l=m
 | [],[],_=>rfl
 | [],d :: m,h=>by simp [List.flatMap_cons,cr] at h
 | c :: l,[],h=>by simp [List.flatMap_cons,cr] at h
 | c :: l,d :: m,h=>by
  rw [List.flatMap_cons,List.flatMap_cons] at h
  obtain ⟨h1,h2⟩:=rM h
  rw [h1,lS h2]
theorem oP {l m:List UInt8} (h:bO l=bO m):l=m:=by
 unfold bO at h
 split at h <;> split at h
 ·simp_all
 ·rename_i h1 h2
  cases m with
  | nil=>exact absurd rfl h2
  | cons d m=>have:=congrArg List.length h; simp [cr] at this
 ·rename_i h1 h2
  cases l with
  | nil=>exact absurd rfl h1
  | cons d m=>have:=congrArg List.length h; simp [cr] at this
 ·exact lS h
theorem rq (l:List UInt8):okW (bO l):=by
 unfold bO
 split
 ·intro c hc; rw [List.mem_singleton] at hc; subst hc; decide
 ·intro c hc
  rw [List.mem_flatMap] at hc
  obtain ⟨d,_,hd⟩:=hc
  have hl:=d.toNat_lt
  simp only [cr,List.mem_cons,List.not_mem_nil,or_false] at hd
  rcases hd with rfl | rfl
  ·have:=nP ⟨d.toNat / 16,by omega⟩; exact ⟨this.1,this.2.1⟩
  ·have:=nP ⟨d.toNat % 16,by omega⟩; exact ⟨this.1,this.2.1⟩
def iv (k:Int):Str:=fj.getD k.toNat (aJ .str)
def k_ (n:Int):Bool:=decide (0<=n) && decide (n<=1048576)
def gS (k:Int):Bool:=decide (k=7) || decide (k=8) || decide (k=9)
def db (c:Command):Bool:=decide (c.kind=0) && decide (c.client=0) && decide (c.seq=0) && decide (c.set=0) && decide (c.id=0) && decide (c.n=0) && decide (c.chunks=[]) && decide (c.text=⟨[]⟩)
def ae (n:Int):Str:=⟨Lib.itoa n⟩
def fI (c:Command):List Int:=[c.kind,c.client,c.seq,c.set,c.id,c.n]
def aZ (e:Event):Bool:=decide (1<=e.kind) && decide (e.kind<10) && k_ e.a && (if gS e.kind then k_ e.b else decide (e.b=0)) && (if e.kind=6 then decide (e.c.text.b.length<=16) && decide (e.c.chunks.length<=16) && (fI e.c).all k_ && e.c.chunks.all k_ else db e.c)
def aW (e:Event):List Str:=[iv e.kind,ae e.a]++(if gS e.kind then [ae e.b] else [])++(if e.kind=6 then (fI e.c).map ae++[⟨bO e.c.text.b⟩]++e.c.chunks.map ae else [])
def rb (l:List Str):Str:=⟨jn (l.map (·.b))⟩
def al (e:Event):Str:=if aZ e then rb (aW e) else ⟨[]⟩
def aH (e:Event):Int:=if aZ e then 0 else 1
theorem tA:∀ k:Fin 10,okW (fj.getD k.1 ⟨[]⟩).b:=by unfold okW; decide
theorem pd:∀ j k:Fin 10,fj.getD j.1 ⟨[]⟩=fj.getD k.1 ⟨[]⟩->j=k:=by decide
theorem rf {j k:Int} (h1:1<=j) (h2:j<10) (h3:1<=k) (h4:k<10) (h:iv j=iv k):j=k:=by
 have:=pd ⟨j.toNat,by omega⟩ ⟨k.toNat,by omega⟩ h
 have:=congrArg Fin.val this
 simp only at this; omega
theorem eJ:∀ {l m:List Int},l.all k_=true->m.all k_=true->l.map ae=m.map ae->l=m
 | [],[],_,_,_=>rfl
 | [],_ :: _,_,_,h=>by cases h
 | _ :: _,[],_,_,h=>by cases h
 | a :: l,b :: m,hl,hm,h=>by
  simp only [List.all_cons,Bool.and_eq_true,k_,decide_eq_true_eq] at hl hm
  simp only [List.map_cons,List.cons.injEq,ae,Str.mk.injEq] at h
  rw [bu hl.1.1 hm.1.1 h.1,eJ hl.2 hm.2 h.2]
theorem gW {e:Event} (h:aZ e=true):∀ x ∈ (aW e).map (·.b),okW x:=by
 intro x hx
 rw [List.mem_map] at hx
 obtain ⟨s,hs,rfl⟩:=hx
 simp only [aZ,Bool.and_eq_true,decide_eq_true_eq] at h
 simp only [aW,List.mem_append,List.mem_cons,List.not_mem_nil,or_false] at hs
 rcases hs with ((rfl | rfl) | hs) | hs
 ·exact tA ⟨e.kind.toNat,by omega⟩
 ·exact ff _
 ·split at hs
  ·rw [List.mem_singleton] at hs; subst hs; exact ff _
  ·cases hs
 ·split at hs
  ·simp only [List.mem_append,List.mem_map,List.mem_singleton] at hs
   rcases hs with (⟨_,_,rfl⟩ | rfl) | ⟨_,_,rfl⟩
   ·exact ff _
   ·exact rq _
   ·exact ff _
  ·cases hs
theorem gg (e:Event):∃ x r,(aW e).map (·.b)=x :: r:=⟨_,_,rfl⟩
theorem jq:∀ {l m:List Str},l.map (·.b)=m.map (·.b)->l=m
 | [],[],_=>rfl
 | [],_ :: _,h=>by cases h
 | _ :: _,[],h=>by cases h
 | ⟨a⟩ :: l,⟨b⟩ :: m,h=>by
  simp only [List.map_cons,List.cons.injEq] at h
  rw [h.1,jq h.2]
theorem empty_eq {c d:Command} (h:db c=true) (k:db d=true):c=d:=by
 simp only [db,Bool.and_eq_true,decide_eq_true_eq] at h k
 obtain ⟨⟨⟨⟨⟨⟨⟨h1,h2⟩,h3⟩,h4⟩,h5⟩,h6⟩,h7⟩,h8⟩:=h
 obtain ⟨⟨⟨⟨⟨⟨⟨k1,k2⟩,k3⟩,k4⟩,k5⟩,k6⟩,k7⟩,k8⟩:=k
 cases c; cases d; simp only at *; subst_vars; rfl
theorem qG {a b:Event} (ha:aZ a=true) (hb:aZ b=true):al a=al b↔a=b:=by
 refine ⟨fun h=>?_,fun h=>by rw [h]⟩
 have wa:=gW ha; have wb:=gW hb
 rw [al,if_pos ha,al,if_pos hb,rb,rb,Str.mk.injEq] at h
 obtain ⟨x,r,hx⟩:=gg a
 obtain ⟨y,s,hy⟩:=gg b
 have hw:aW a=aW b:=jq (by rw [hx,hy] at h ⊢; rw [hx] at wa; rw [hy] at wb; exact u_ wa wb h)
 clear h hx hy wa wb
 simp only [aZ,Bool.and_eq_true,decide_eq_true_eq] at ha hb
 obtain ⟨⟨⟨⟨a1,a2⟩,a3⟩,a4⟩,a5⟩:=ha
 obtain ⟨⟨⟨⟨b1,b2⟩,b3⟩,b4⟩,b5⟩:=hb
 simp only [aW,List.cons_append,List.nil_append,List.cons.injEq] at hw
 obtain ⟨h1,h2,h3⟩:=hw
 have hk:a.kind=b.kind:=rf a1 a2 b1 b2 h1
 simp only [k_,Bool.and_eq_true,decide_eq_true_eq] at a3 b3
 have hA:a.a=b.a:=bu a3.1 b3.1 (by simpa [ae] using h2)
 rw [hk] at a4 a5 h3
 have hBC:a.b=b.b/\a.c=b.c:=by
  cases hs:gS b.kind
  ·rw [hs] at a4 b4 h3
   simp only [Bool.false_eq_true,if_false,decide_eq_true_eq,List.nil_append] at a4 b4 h3
   refine ⟨by omega,?_⟩
   by_cases h6:b.kind=6
   ·rw [if_pos h6] at a5 b5
    rw [if_pos h6,if_pos h6] at h3
    simp only [Bool.and_eq_true,decide_eq_true_eq] at a5 b5
    simp only [fI,List.map_cons,List.map_nil,List.cons_append,List.nil_append,List.cons.injEq] at h3
    obtain ⟨c1,c2,c3,c4,c5,c6,c7,c8⟩:=h3
    have e7:=oP (by simpa using c7)
    have e8:=eJ a5.2 b5.2 c8
    have q:=a5.1.2; have q':=b5.1.2
    simp only [fI,List.all_cons,List.all_nil,Bool.and_eq_true,k_,decide_eq_true_eq,Bool.and_true] at q q'
    have e1:a.c.kind=b.c.kind:=bu (by omega) (by omega) (by simpa [ae] using c1)
    have e2:a.c.client=b.c.client:=bu (by omega) (by omega) (by simpa [ae] using c2)
    have e3:a.c.seq=b.c.seq:=bu (by omega) (by omega) (by simpa [ae] using c3)
    have e4:a.c.set=b.c.set:=bu (by omega) (by omega) (by simpa [ae] using c4)
    have e5:a.c.id=b.c.id:=bu (by omega) (by omega) (by simpa [ae] using c5)
    have e6:a.c.n=b.c.n:=bu (by omega) (by omega) (by simpa [ae] using c6)
    have et:a.c.text=b.c.text:=by
     cases h1:a.c.text; cases h2:b.c.text; rw [h1,h2] at e7; exact congrArg Str.mk e7
    cases h1:a.c; cases h2:b.c
    rw [h1,h2] at e1 e2 e3 e4 e5 e6 e8 et
    simp only at e1 e2 e3 e4 e5 e6 e8 et
    subst_vars; rfl
   ·rw [if_neg h6] at a5 b5
    exact empty_eq a5 b5
  ·rw [hs] at a4 b4 h3
   simp only [if_true,k_,Bool.and_eq_true,decide_eq_true_eq,List.cons_append,List.nil_append,List.cons.injEq] at a4 b4 h3
   have h6:¬ b.kind=6:=by intro h6; rw [h6] at hs; exact absurd hs (by decide)
   rw [if_neg h6] at a5 b5
   exact ⟨bu a4.1 b4.1 (by simpa [ae] using h3.1),empty_eq a5 b5⟩
 cases a; cases b
 simp only at hk hA hBC
 obtain ⟨hB,hC⟩:=hBC
 subst_vars; rfl
theorem tg {e:Event}:∀ c ∈ (al e).b,c≠10:=by
 unfold al
 split
 ·exact wO (gW ‹_›)
 ·intro c hc; cases hc
end Go.Proofs.YtagpmhlokhoanaaDoor
namespace Go.Proofs.YtagpmhlokhoanaaDoor
open Go.Shelf Go.Proofs
def ed:Go.Shelf.Ren:=⟨fun | 156=>27 | 165=>42 | 166=>37 | 169=>39 | 240=>49 | 241=>51 | 276=>58 | 277=>63 | n=>n,fun | 31=>46 | 9=>9 | 3=>3 | 4=>4 | 0=>0 | 20=>20 | 72=>62 | 76=>65 | 70=>60 | 37=>58 | 75=>64 | 127=>81 | 164=>87 | 5=>5 | 80=>68 | n=>n,fun | n=>n⟩
theorem jt:Lays.n156 Tryd.prog ed:={
 mixed:=by kernel_rfl
 f156:=Tryd.func27.trans (congrArg some (by kernel_rfl))
 f165:=Tryd.func42.trans (congrArg some (by kernel_rfl))
 f166:=Tryd.func37.trans (congrArg some (by kernel_rfl))
 f169:=Tryd.func39.trans (congrArg some (by kernel_rfl))
 f240:=Tryd.func49.trans (congrArg some (by kernel_rfl))
 f241:=Tryd.func51.trans (congrArg some (by kernel_rfl))
 f276:=Tryd.func58.trans (congrArg some (by kernel_rfl))
 f277:=Tryd.func63.trans (congrArg some (by kernel_rfl))
 t0:=Tryd.underlying0
 a0:=Tryd.isAgg0
 z0:=Tryd.sizeOf0
 v0:=Tryd.zeroValue0
 t3:=Tryd.underlying3
 a3:=Tryd.isAgg3
 z3:=Tryd.sizeOf3
 v3:=Tryd.zeroValue3
 t4:=Tryd.underlying4
 a4:=Tryd.isAgg4
 z4:=Tryd.sizeOf4
 v4:=Tryd.zeroValue4
 t9:=Tryd.underlying9
 a9:=Tryd.isAgg9
 z9:=Tryd.sizeOf9
 v9:=Tryd.zeroValue9
 t20:=Tryd.underlying20
 a20:=Tryd.isAgg20
 z20:=Tryd.sizeOf20
 v20:=Tryd.zeroValue20
 t31:=Tryd.underlying46
 a31:=Tryd.isAgg46
 z31:=Tryd.sizeOf46
 v31:=Tryd.zeroValue46
 t37:=Tryd.underlying58
 a37:=Tryd.isAgg58
 z37:=Tryd.sizeOf58
 v37:=Tryd.zeroValue58
 t70:=Tryd.underlying60
 a70:=Tryd.isAgg60
 z70:=Tryd.sizeOf60
 v70:=Tryd.zeroValue60
 t72:=Tryd.underlying62
 a72:=Tryd.isAgg62
 z72:=Tryd.sizeOf62
 v72:=Tryd.zeroValue62
 t75:=Tryd.underlying64
 a75:=Tryd.isAgg64
 z75:=Tryd.sizeOf64
 v75:=Tryd.zeroValue64
 t76:=Tryd.underlying65
 a76:=Tryd.isAgg65
 z76:=Tryd.sizeOf65
 v76:=Tryd.zeroValue65
 t127:=Tryd.underlying81
 a127:=Tryd.isAgg81
 z127:=Tryd.sizeOf81
 v127:=Tryd.zeroValue81
 t164:=Tryd.underlying87
 a164:=Tryd.isAgg87
 z164:=Tryd.sizeOf87
 v164:=Tryd.zeroValue87 }
theorem cu:Builder.Extra Tryd.prog ed:={
 sizeBuilder:=by kernel_rfl
 liesBuilder:=by kernel_rfl
 t5:=Tryd.underlying5
 a5:=Tryd.isAgg5
 z5:=Tryd.sizeOf5
 v5:=Tryd.zeroValue5
 infoByte:=by kernel_rfl
 cellsByte:=by kernel_rfl
 sizeByte:=by kernel_rfl
 neB5:=by decide }
def ig:Go.Shelf.Ren:=⟨fun | 171=>23 | 243=>41 | 246=>50 | 283=>59 | 284=>60 | 285=>61 | 286=>62 | 129=>75 | 317=>74 | 318=>76 | 319=>77 | 320=>78 | 337=>87 | 338=>88 | n=>n,fun | 3=>3 | 9=>9 | 2=>2 | 4=>4 | 171=>89 | 0=>0 | 53=>90 | 37=>58 | 5=>5 | 173=>93 | 212=>106 | 51=>107 | 20=>20 | 213=>108 | 46=>69 | 232=>127 | 233=>128 | n=>n,fun | 17=>1 | 18=>7 | 19=>8 | n=>n⟩
theorem mU:LaysM.n171 Tryd.prog ig:={
 mixed:=by kernel_rfl
 f129:=Tryd.func75.trans (congrArg some (by kernel_rfl))
 f171:=Tryd.func23.trans (congrArg some (by kernel_rfl))
 f243:=Tryd.func41.trans (congrArg some (by kernel_rfl))
 f246:=Tryd.func50.trans (congrArg some (by kernel_rfl))
 f283:=Tryd.func59.trans (congrArg some (by kernel_rfl))
 f284:=Tryd.func60.trans (congrArg some (by kernel_rfl))
 f285:=Tryd.func61.trans (congrArg some (by kernel_rfl))
 f286:=Tryd.func62.trans (congrArg some (by kernel_rfl))
 f317:=Tryd.func74.trans (congrArg some (by kernel_rfl))
 f318:=Tryd.func76.trans (congrArg some (by kernel_rfl))
 f319:=Tryd.func77.trans (congrArg some (by kernel_rfl))
 f320:=Tryd.func78.trans (congrArg some (by kernel_rfl))
 f337:=Tryd.func87.trans (congrArg some (by kernel_rfl))
 f338:=Tryd.func88.trans (congrArg some (by kernel_rfl))
 t0:=Tryd.underlying0
 a0:=Tryd.isAgg0
 z0:=Tryd.sizeOf0
 v0:=Tryd.zeroValue0
 t2:=Tryd.underlying2
 a2:=Tryd.isAgg2
 z2:=Tryd.sizeOf2
 v2:=Tryd.zeroValue2
 t3:=Tryd.underlying3
 a3:=Tryd.isAgg3
 z3:=Tryd.sizeOf3
 v3:=Tryd.zeroValue3
 t4:=Tryd.underlying4
 a4:=Tryd.isAgg4
 z4:=Tryd.sizeOf4
 v4:=Tryd.zeroValue4
 t5:=Tryd.underlying5
 a5:=Tryd.isAgg5
 z5:=Tryd.sizeOf5
 v5:=Tryd.zeroValue5
 t9:=Tryd.underlying9
 a9:=Tryd.isAgg9
 z9:=Tryd.sizeOf9
 v9:=Tryd.zeroValue9
 t20:=Tryd.underlying20
 a20:=Tryd.isAgg20
 z20:=Tryd.sizeOf20
 v20:=Tryd.zeroValue20
 t37:=Tryd.underlying58
 a37:=Tryd.isAgg58
 z37:=Tryd.sizeOf58
 v37:=Tryd.zeroValue58
 t46:=Tryd.underlying69
 a46:=Tryd.isAgg69
 z46:=Tryd.sizeOf69
 v46:=Tryd.zeroValue69
 t51:=Tryd.underlying107
 a51:=Tryd.isAgg107
 z51:=Tryd.sizeOf107
 v51:=Tryd.zeroValue107
 t53:=Tryd.underlying90
 a53:=Tryd.isAgg90
 z53:=Tryd.sizeOf90
 v53:=Tryd.zeroValue90
 t171:=Tryd.underlying89
 a171:=Tryd.isAgg89
 z171:=Tryd.sizeOf89
 v171:=Tryd.zeroValue89
 t173:=Tryd.underlying93
 a173:=Tryd.isAgg93
 z173:=Tryd.sizeOf93
 v173:=Tryd.zeroValue93
 t212:=Tryd.underlying106
 a212:=Tryd.isAgg106
 z212:=Tryd.sizeOf106
 v212:=Tryd.zeroValue106
 t213:=Tryd.underlying108
 a213:=Tryd.isAgg108
 z213:=Tryd.sizeOf108
 t232:=Tryd.underlying127
 a232:=Tryd.isAgg127
 z232:=Tryd.sizeOf127
 v232:=Tryd.zeroValue127
 t233:=Tryd.underlying128
 a233:=Tryd.isAgg128
 z233:=Tryd.sizeOf128
 v233:=Tryd.zeroValue128
 g17:=by kernel_rfl
 g18:=by kernel_rfl
 g19:=by kernel_rfl
 i0:=by kernel_rfl
 i2:=by kernel_rfl
 i3:=by kernel_rfl
 i4:=by kernel_rfl
 i5:=by kernel_rfl
 i9:=by kernel_rfl
 i20:=by kernel_rfl
 i37:=by kernel_rfl
 i46:=by kernel_rfl
 i51:=by kernel_rfl
 i53:=by kernel_rfl
 i171:=by kernel_rfl
 i173:=by kernel_rfl
 i212:=by kernel_rfl
 i232:=by kernel_rfl
 i233:=by kernel_rfl
 m17:=by kernel_rfl
 m18:=by kernel_rfl
 m19:=by kernel_rfl }
end Go.Proofs.YtagpmhlokhoanaaDoor
namespace Go.Proofs.YtagpmhlokhoanaaDoor
open Go.RowKit Go.Proofs
theorem iy {c:Cx}:∀ {l:List U64} {cells:List Value},Pds c (l.flatMap (cellsOf .u64)) cells->cells=l.map fun x=>.int .u64 (x.n:Int)
 | [],_,h=>by cases h; rfl
 | x :: l,_,h=>by
  have h':Pds c (.u64 x.n :: l.flatMap (cellsOf .u64)) _:=h
  cases h' with | cons h1 h2=>?_
  cases h1
  rw [iy h2]; rfl
theorem vM {G:Gl} {ρ:List RE} {H:AH} {w:World} (hR:Rep G ρ H w):Lib.TabIs Tryd.prog w "internal/strconv.uint64pow10" .u64 Lib.pow10Tab:=by
 obtain ⟨_,_,_,_,cells,t,fr,h5,h6⟩:=hR.tb ⟨1,.u64,mO⟩ (by simp [oC])
 have hc:cells=(Lib.pow10Tab.map fun z=>Value.int .u64 z):=by
  exact (iy h6).trans rfl
 unfold Lib.TabIs World.var?
 rw [show Tryd.prog.globalNamed _=some 1 by kernel_rfl]
 show (match w.heap[1]? with
  | some (.cells cs _ _)=>some cs
  | _=>none)=_
 rw [show w.heap[1]? = some (.cells (List.toArray cells) t fr) from h5,hc]
theorem Kp.sN {w:World} {k:Nat} {os:Array Obj}:Kp [] w (Go.Sort.grow (w.drewN k) os):=by
 refine ⟨rfl,rfl,rfl,?_,fun b hb _=>?_⟩
 ·show w.heap.size<=(w.heap++os).size
  rw [Array.size_append]; omega
 ·show (w.heap++os)[b]? = w.heap[b]?
  exact Array.getElem?_append_left hb
theorem iu {c:Cx}:∀ {l:List Str} {cells:List Value},Pds c (l.flatMap (cellsOf .str)) cells->cells=l.map Str.val
 | [],_,h=>by cases h; rfl
 | x :: l,_,h=>by
  have h':Pds c (.str x :: l.flatMap (cellsOf .str)) _:=h
  cases h' with | cons h1 h2=>?_
  cases h1
  rw [iu h2]; rfl
theorem qu (n:Int):Sat Tryd.prog (aq bH) 23 [.c (.int n)] [] ⟨[],[.c (.str (ae n))],none,false⟩:=by
 refine ⟨⟨_,Tryd.func23,by decide,by kernel_rfl⟩,fun G ρ w vs hG hR hvs=>?_⟩
 cases hvs with | cons h1 hvs=>?_
 cases hvs
 have h2:Rd (cx G ρ w) ρ (.int n) _:=h1
 cases h2 with | int hi=>?_
 refine (Any.strconv_Itoa mU n hi.1 hi.2 w (vM hR)).mono fun e w' ⟨he,k,os,hw⟩=>⟨_,he,[_],rfl,?_,.cons (show aO (cx G ρ w') ρ (.c (.str (ae n))) _ from (Pd.str ?_:Pd (cx G ρ w') (.str (ae n)) (ae n).val)) .nil⟩
 ·rw [hw]; exact Kp.sN
 ·have:=Lib.itoa_length_le n hi.1 hi.2; show (Lib.itoa n).length<=_; omega
theorem qY (l:List Str) (sep:Str) (hl:(Lib.join (l.map (·.b)) sep.b).length<=140737488355328):Sat Tryd.prog (aq bH) 27 [.c (.own 0),.c (.str sep)] [.row 9 .str l] ⟨[],[.c (.str ⟨Lib.join (l.map (·.b)) sep.b⟩)],some [.row 9 .str l],true⟩:=by
 refine ⟨⟨_,Tryd.func27,by decide,by kernel_rfl⟩,fun G ρ w vs hG hR hvs=>?_⟩
 cases hvs with | cons h1 hvs=>?_
 cases hvs with | cons h2 hvs=>?_
 cases hvs
 have h3:Rd (cx G ρ w) ρ (.own 0) _:=h1
 have h4:Rd (cx G ρ w) ρ (.str sep) _:=h2
 cases h4 with | str hs=>?_
 have hfin:∀ {e:Ending} {w':World},e = .returned (.string ⟨(Lib.join (l.map (·.b)) sep.b).toArray⟩)->Kp [] w w' -> ∃ v,e = .returned v/\∃ us,v=ln us/\∃ ρ',Rep G ρ' [.row 9 .str l] w' /\ Ext ρ w ρ' w' /\ (∀ (i g:Nat),ρ[i]? = some (.blk g)->ρ'[i]? = some (.blk g))/\All2 (aO (cx G ρ' w') ρ') [.c (.str ⟨Lib.join (l.map (·.b)) sep.b⟩)] us/\(true=true->Kp [] w w' /\ ∀ (i:Nat) (rr:RE),ρ[i]? = some rr->ρ'[i]? = some rr):=fun {e w'} he hk=>
  ⟨_,he,[_],rfl,ρ,hR.kp hk,Ext.kp hk,fun _ _ h=>h,.cons (show aO (cx G ρ w') ρ (.c (.str ⟨Lib.join (l.map (·.b)) sep.b⟩)) _ from (Pd.str hl:Pd (cx G ρ w') (.str ⟨Lib.join (l.map (·.b)) sep.b⟩) (Str.val ⟨Lib.join (l.map (·.b)) sep.b⟩))) .nil,fun _=>⟨hk,fun _ _ h=>h⟩⟩
 have hH:getO [AO.row 9 .str l] 0 = .row 9 .str l:=rfl
 rcases aE hR hH with ⟨h0,h5⟩ | ⟨g,cap,cells,sp,h5,h6,h7,h8,h9,h10⟩
 ·rcases h3 with ⟨_,_,_,_,h3,_⟩ | ⟨_,a,rfl⟩
  ·rw [h0] at h3; cases h3
  ·exact (Any.strings_Join_none jt cu a 0 ⟨sep.b.toArray⟩ w).mono fun e w' ⟨he,hw⟩=>hfin (by rw [he,h5]; rfl) (by rw [hw]; exact Kp.refl _)
 ·rcases h3 with ⟨_,_,_,_,h3,rfl⟩ | ⟨h3,_⟩
  ·rw [h5] at h3; cases h3
   have hc:cells=l.map Str.val:=iu h7
   have hcs:=aT h6
   have:=Any.strings_Join jt cu g 0 cap (l.map fun s=>(⟨s.b.toArray⟩:ByteArray)) ⟨sep.b.toArray⟩ w (fun j x hx=>?_) ((hR.bnd _ _ g h5 rfl).2.1) (by rw [List.length_map]; have:=(bE hR hH).2; simp [Sh.bytes] at this; omega) (by rw [List.length_map]; exact h9) (by simpa [Function.comp_def] using hl)
   ·rw [List.length_map] at this
    exact this.mono fun e w' ⟨he,hw⟩=>hfin (by rw [he]; simp [Function.comp_def]) (Kp.pQ hw)
   ·have:=hcs j (.string x) (by rw [hc,List.getElem?_map]; rw [List.getElem?_map] at hx; cases hq:l[j]? <;> rw [hq] at hx <;> simp_all [Str.val])
    rw [add_lit] at this
    exact this
  ·rw [h5] at h3; cases h3
end Go.Proofs.YtagpmhlokhoanaaDoor
namespace Go.Proofs.YtagpmhlokhoanaaDoor
open Go.RowKit
theorem xz {n:Int} (h1:-9223372036854775808<=n) (h2:n<=9223372036854775807):I64 n:=⟨h1,h2⟩
theorem dU {α:Type} {l:List α} {k:Nat} {d:α} (h:k<l.length):l[k]? = some (l.getD k d):=by
 rw [List.getD_eq_getElem?_getD,List.getElem?_eq_getElem h]; rfl
theorem vY {α:Type} {l:List α} {k:Nat} {x:α} (hx:l[k]? = some x):l.take (k+1)=l.take k++[x]:=by
 rw [List.take_add_one,hx]; rfl
theorem vF {a b:List Int} {k:Nat} {d:Int} (h:a.take k=b.take k) (ha:(k:Int)<a.length) (hb:a.length=b.length) (e:a.getD k d=b.getD k d):a.take (k+1)=b.take (k+1):=by
 have h1:=dU (l:=a) (k:=k) (d:=d) (by omega)
 have h2:=dU (l:=b) (k:=k) (d:=d) (by omega)
 rw [vY h1,vY h2,h,e]
theorem uY {a b:List Int} {k:Nat} {d:Int} (_:a.take k=b.take k) (ha:(k:Int)<a.length) (hb:a.length=b.length) (e:¬ a.getD k d=b.getD k d):false=decide (a=b):=by
 symm; rw [decide_eq_false_iff_not]; rintro rfl; exact e rfl
theorem uI {a b:List Int} {k:Nat} (h:a.take k=b.take k) (ha:(a.length:Int)<=k) (hb:a.length=b.length):true=decide (a=b):=by
 symm; rw [decide_eq_true_eq,<- List.take_of_length_le (show a.length<=k by omega),<- List.take_of_length_le (show b.length<=k by omega)]; exact h
theorem uT {a b:List Int} (h:¬ (a.length:Int)=b.length):false=decide (a=b):=by
 symm; rw [decide_eq_false_iff_not]; rintro rfl; exact h rfl
def cG (e:Event):Event:={ e with c:={ e.c with chunks:=e.c.chunks.take 20,text:=⟨e.c.text.b.take 40⟩ } }
def aV (l:List Int) (ok:Bool):Bool:=ok && l.all k_
theorem uN {c:Command}:(decide (c.kind=0) && decide (c.client=0) && decide (c.seq=0) && decide (c.set=0) && decide (c.id=0) && decide (c.n=0) && decide ((c.chunks.length:Int)=0) && decide (c.text=⟨[]⟩))=db c:=by
 have h:(decide ((c.chunks.length:Int)=0))=decide (c.chunks=[]):=by
  rw [decide_eq_decide]
  constructor
  ·intro h; exact List.eq_nil_of_length_eq_zero (by omega)
  ·intro h; rw [h]; rfl
 rw [h]; rfl
section
variable {l:List Int} {wds:List Str} {ok:Bool} {k:Nat} {x:Int}
theorem xg:ok=aV (l.take 0) ok:=by simp [aV]
theorem xB:wds=wds++(l.take 0).map ae:=by simp
theorem xj (h:wds.length+l.length<=1000):((wds++(l.take k).map ae).length+[ae x].length)*16<=140737488355328:=by
 rw [List.length_append,List.length_map,List.length_take,List.length_singleton]; omega
theorem ya (hx:l[k]? = some x):(aV (l.take k) ok && decide (0<=x) && decide (x<=1048576))=aV (l.take (k+1)) ok:=by
 rw [vY hx,aV,aV,List.all_append]; simp [k_,Bool.and_assoc]
theorem xr (hx:l[k]? = some x):wds++(l.take k).map ae++[ae x]=wds++(l.take (k+1)).map ae:=by
 rw [vY hx,List.map_append,List.append_assoc]; rfl
theorem xw (h:(l.length:Int)<=k):aV (l.take k) ok=aV l ok:=by rw [List.take_of_length_le (by omega)]
theorem xY (h:(l.length:Int)<=k):wds++(l.take k).map ae=wds++l.map ae:=by rw [List.take_of_length_le (by omega)]
end
theorem ry {s:Str} {n:Nat} (h:(s.b.length:Int)<=n):s=⟨s.b.take n⟩:=by
 cases s; rw [List.take_of_length_le (by simpa using h)]
theorem pC {l:List Int} {n:Nat} (h:(l.length:Int)<=n):l=l.take n:=by rw [List.take_of_length_le (by omega)]
theorem wG {c:UInt8}:(UInt8.ofNat (c.toNat / 2 ^ 4)).toNat=c.toNat / 16:=by
 have:=c.toNat_lt
 rw [UInt8.toNat_ofNat',Nat.mod_eq_of_lt (by omega)]
theorem uv {c:UInt8}:(c &&& 15).toNat=c.toNat % 16:=by
 rw [UInt8.toNat_and,show (15:UInt8).toNat=2 ^ 4 - 1 from rfl,Nat.and_two_pow_sub_one_eq_mod]
section
variable {s:Str} {k:Nat} {c:UInt8}
theorem yn (h:s=⟨[]⟩):Str.mk [45]=⟨bO s.b⟩:=by rw [h]; rfl
theorem yt:((UInt8.ofNat (c.toNat / 2 ^ 4)).toNat:Int)<(([48,49,50,51,52,53,54,55,56,57,97,98,99,100,101,102]:List UInt8).length:Int):=by
 have:=c.toNat_lt
 rw [wG]; show _<(16:Int); omega
theorem yj:((c &&& UInt8.ofNat 15).toNat:Int)<(([48,49,50,51,52,53,54,55,56,57,97,98,99,100,101,102]:List UInt8).length:Int):=by
 rw [show (UInt8.ofNat 15)=15 from rfl,uv]; show _<(16:Int); omega
theorem kb:∀ (l:List UInt8),(l.flatMap cr).length=2*l.length
 | []=>rfl
 | c :: l=>by rw [List.flatMap_cons,List.length_append,kb l]; simp [cr]; omega
theorem yr {x y:UInt8} (h:s.b.length<=1000):(((s.b.take k).flatMap cr).length+[x,y].length)*1<=140737488355328:=by
 rw [kb,List.length_take]; simp; omega
theorem yi (h:(k:Int)<(s.b.length:Int)):(s.b.take k).flatMap cr++[([48,49,50,51,52,53,54,55,56,57,97,98,99,100,101,102]:List UInt8).getD (UInt8.ofNat ((s.b.getD k 0).toNat / 2 ^ 4)).toNat 0,([48,49,50,51,52,53,54,55,56,57,97,98,99,100,101,102]:List UInt8).getD (s.b.getD k 0 &&& UInt8.ofNat 15).toNat 0]=(s.b.take (k+1)).flatMap cr:=by
 rw [vY (dU (d:=(0:UInt8)) (show k<s.b.length by omega)),List.flatMap_append,wG,show (UInt8.ofNat 15)=15 from rfl,uv]
 rfl
theorem yk:(s.b.take 0).flatMap cr=[]:=rfl
theorem yp (h:¬ s=⟨[]⟩) (hk:(s.b.length:Int)<=k):Str.mk ((s.b.take k).flatMap cr)=⟨bO s.b⟩:=by
 rw [List.take_of_length_le (by omega),bO,if_neg]
 intro h2; apply h; cases s; simp only at h2; rw [h2]
end
theorem uK (n:Int):Sat Tryd.prog (aq bH) 23 [.c (.int (n))] [] ⟨[],[.c (.str ((ae n)))],none,false⟩:=qu n
theorem vv (sep:Str) (l:List Str) (h0:(Lib.join (l.map (·.b)) sep.b).length<=140737488355328):Sat Tryd.prog (aq bH) 27 [.c (.own 0),.c (.str (sep))] [.row 9 .str (l)] ⟨[(Lib.join (l.map (·.b)) sep.b).length<=140737488355328],[.c (.str ((⟨Lib.join (l.map (·.b)) sep.b⟩)))],some ([.row 9 .str ((l))]),true⟩:=qY l sep h0
def mC:cZ:=(nw 27 (kK (bp (kC (tp 0)) (bp (kC cS) eI)) (ju (tc 9 .str) eZ) fun (_,sep,_) (l,_)=>⟨[(Lib.join (l.map (·.b)) sep.b).length<=140737488355328],[.c (.str ((⟨Lib.join (l.map (·.b)) sep.b⟩)))],some ([.row 9 .str ((l))]),true⟩) (nw 23 (kK (bp (kC cI) eI) eZ fun (n,_) (_)=>⟨[],[.c (.str ((ae n)))],none,false⟩) vZ))
theorem df:aS Tryd.prog (aq bH) mC:=(bL (bM (aB (dZ oc) (aB (dZ ue) bh)) (e_ nH bg) fun (_,sep,_) (l,_) hp=>vv sep l (xW hp)) (bL (bM (aB (dZ ud) bh) bg fun (n,_) (_) _=>uK n ) tV))
def uh (s:Str):List (Nat × LI):=[(5,{ σ:=Nat,F:=fun k=>([(0,one (.str (s))),(3,one (.own 0)),(8,one (.int s.b.length)),(9,one (.int k))],[.row 5 .u8 (((s.b.take k).flatMap cr))]),J:=fun k=>k<=s.b.length,μ:=fun k=>s.b.length - k })]
def wy (l:List Int) (ok:Bool) (wds:List Str):List (Nat × LI):=[(1,{ σ:=Nat,F:=fun k=>([(1,one (.ptr 0 0)),(2,one (.ptr 1 0)),(6,one (.fz .int (l))),(7,one (.int (l).length)),(8,one (.int k))],[.box 4 ([.bool (.atom ((aV (l.take k) ok)))]),.box 46 ([.own 2]),.row 9 .str ((wds++(l.take k).map ae))]),J:=fun k=>k<=l.length,μ:=fun k=>(l).length - k })]
def uu (a:List Int) (b:List Int):List (Nat × LI):=[(4,{ σ:=Nat,F:=fun k=>([(0,one (.fz .int (a))),(1,one (.fz .int (b))),(5,one (.int k))],[]),J:=fun k=>k<=a.length/\a.length=b.length/\a.take k=b.take k,μ:=fun k=>a.length - k })]
theorem rZ (k:Int) (r0:Bool):oW bH mC [] Tryd.f24 [.c (.int (k))] [] [.c (.bool (.atom (r0)))]=(I64 k->(decide (k=(7:Int)) || decide (k=(8:Int)) || decide (k=(9:Int)))=r0):=by kernel_rfl
theorem pH (k:Int):Sat Tryd.prog (aq bH) 24 [.c (.int (k))] [] ⟨[],[.c (.bool (.atom ((gS k))))],none,false⟩:=by
 refine d_ df [] Tryd.func24 (by decide) (by kernel_rfl) ?_
 rw [rZ]
 grind [gS]
theorem sZ (c:Command) (r0:Bool):oW bH mC [] Tryd.f25 [.agg (cellsOf (.nm .command) c)] [] [.c (.bool (.atom (r0)))]=((fun (q0:Int)=>I64 c.kind->I64 c.client->I64 c.seq->I64 c.set->I64 c.id->I64 c.n->c.chunks.length*(8:Nat)<=(140737488355328:Nat)->c.text.b.length<=(140737488355328:Nat)->(decide (c.kind=q0) && decide (c.client=q0) && decide (c.seq=q0) && decide (c.set=q0) && decide (c.id=q0) && decide (c.n=q0) && decide ((↑c.chunks.length:Int)=q0) && decide (c.text=Str.mk []))=r0) (0:Int)):=by kernel_rfl
theorem sU (c:Command):Sat Tryd.prog (aq bH) 25 [.agg (cellsOf (.nm .command) c)] [] ⟨[],[.c (.bool (.atom ((db c))))],none,false⟩:=by
 refine d_ df [] Tryd.func25 (by decide) (by kernel_rfl) ?_
 rw [sZ]
 (repeat' (first | with_reducible apply ub | with_reducible refine uz ?_ | intro))
 all_goals (first | exact uQ | exact uN)
theorem uL (s:Str) (r0:Str):oW bH mC (uh s) Tryd.f26 [.c (.str (s))] [] [.c (.str (r0))]=((fun (q4:UInt8)=>(fun (q3:Nat)=>(fun (q2:UInt8)=>(fun (q1:Nat)=>(fun (q0:List UInt8)=>q1<=(140737488355328:Nat)->(s=Str.mk []->Str.mk [(45:UInt8)]=r0)/\(¬s=Str.mk []->∃ (s0:Nat),(fun (q5:Int)=>(s=s/\q5=q5/\(0:Int)=(↑s0:Int)/\List.flatMap cr (List.take s0 s.b)=[])/\s0<=q1/\∀ (s_1:Nat),(fun (q9:List (den Sh.u8))=>(fun (q8:Prop)=>(fun (q7:Nat)=>(fun (q6:Nat)=>s_1<=q1->((↑s_1:Int)<q5->q8/\(4:Nat)<(8:Nat)/\((0:Int)<=(↑q6:Int)/\(↑q6:Int)<(↑q0.length:Int))/\q8/\((0:Int)<=(↑q7:Int)/\(↑q7:Int)<(↑q0.length:Int))/\(q9.length+[q0.getD q6 q2,q0.getD q7 q2].length)*(1:Nat)<=(140737488355328:Nat)/\I64 ((↑s_1:Int)+(1:Int))/\∃ (s':Nat),(s=s/\q5=q5/\(↑s_1:Int)+(1:Int)=(↑s':Int)/\q9++[q0.getD q6 q2,q0.getD q7 q2]=List.flatMap cr (List.take s' s.b))/\s' <= q1/\q1 - s' < q1 - s_1)/\(q5<=(↑s_1:Int)->Str.mk q9=r0)) (UInt8.ofNat ((s.b.getD s_1 q2).toNat / q3)).toNat) (s.b.getD s_1 q2 &&& q4).toNat) ((0:Int)<=(↑s_1:Int)/\(↑s_1:Int)<q5)) (List.flatMap cr (List.take s_1 s.b))) (↑q1:Int))) [(48:UInt8),(49:UInt8),(50:UInt8),(51:UInt8),(52:UInt8),(53:UInt8),(54:UInt8),(55:UInt8),(56:UInt8),(57:UInt8),(97:UInt8),(98:UInt8),(99:UInt8),(100:UInt8),(101:UInt8),(102:UInt8)]) s.b.length) (0:UInt8)) ((2:Nat) ^ (4:Nat))) (UInt8.ofNat (15:Nat))):=by kernel_rfl
theorem vq (s:Str) (h0:s.b.length<=1000):Sat Tryd.prog (aq bH) 26 [.c (.str (s))] [] ⟨[s.b.length<=1000],[.c (.str ((⟨bO s.b⟩)))],none,false⟩:=by
 refine d_ df (uh s) Tryd.func26 (by decide) (by kernel_rfl) ?_
 rw [uL]
 iterate 3 ((all_goals (repeat' (first | with_reducible apply ub | with_reducible refine uz ?_ | intro))); (all_goals try (first | exact uQ | exact yk | exact (yn gw) | with_reducible exact yt | with_reducible exact yj | with_reducible exact (yr h0) | with_reducible exact (yi gw) | with_reducible exact (yp gw gw))); all_goals try first | refine ⟨‹Nat› + 1,?_⟩ | refine ⟨0,?_⟩)
theorem wv (l:List Int) (ok:Bool) (wds:List Str) (r0:Bool) (r1:List Str):ye bH mC (wy l ok wds) Tryd.f22 [.c (.fz .int (l)),.c (.ptr 0 0),.c (.ptr 1 0)] [.box 4 ([.bool (.atom (ok))]),.box 46 ([.own 2]),.row 9 .str (wds)] [] [.box 4 ([.bool (.atom (r0))]),.box 46 ([.own 2]),.row 9 .str (r1)]=((fun (q0:Nat)=>l.length*(8:Nat)<=(140737488355328:Nat)->∃ (s0:Nat),(l=l/\(↑l.length:Int)=(↑q0:Int)/\(0:Int)=(↑s0:Int)/\ok=aV (List.take s0 l) ok/\wds=wds++List.map ae (List.take s0 l))/\s0<=q0/\∀ (s:Nat),(fun (q1:List Str)=>s<=q0->((↑s:Int)<(↑q0:Int)->(0:Int)<=(↑s:Int)/\(↑s:Int)<(↑l.length:Int)/\∀ (x:Int),l[s]? = some x->I64 x->((ae x).b.length<=(140737488355328:Nat)->(q1.length+[ae x].length)*(16:Nat)<=(140737488355328:Nat))/\((ae x).b.length<=(140737488355328:Nat)->I64 ((↑s:Int)+(1:Int))/\∃ (s':Nat),(l=l/\(↑q0:Int)=(↑q0:Int)/\(↑s:Int)+(1:Int)=(↑s':Int)/\(aV (List.take s l) ok && decide ((0:Int)<=x) && decide (x<=(1048576:Int)))=aV (List.take s' l) ok/\q1++[ae x]=wds++List.map ae (List.take s' l))/\s' <= q0/\q0 - s' < q0 - s))/\((↑q0:Int)<=(↑s:Int)->aV (List.take s l) ok=r0/\q1=r1)) (wds++List.map ae (List.take s l))) l.length):=by kernel_rfl
theorem wJ (l:List Int) (ok:Bool) (wds:List Str) (h0:wds.length+l.length<=1000):Sat Tryd.prog (aq bH) 22 [.c (.fz .int (l)),.c (.ptr 0 0),.c (.ptr 1 0)] [.box 4 ([.bool (.atom (ok))]),.box 46 ([.own 2]),.row 9 .str (wds)] ⟨[wds.length+l.length<=1000],[],some ([.box 4 ([.bool (.atom ((aV l ok)))]),.box 46 ([.own 2]),.row 9 .str ((wds++l.map ae))]),false⟩:=by
 refine wH df (wy l ok wds) Tryd.func22 (by decide) (by kernel_rfl) ?_
 rw [wv]
 iterate 3 ((all_goals (repeat' (first | with_reducible apply ub | with_reducible refine uz ?_ | intro))); (all_goals try (first | exact uQ | exact rfl | exact xg | exact xB | exact (xj (by assumption)) | exact (ya gw) | exact (xr gw) | exact (xw gw) | exact (xY gw))); all_goals try first | refine ⟨‹Nat› + 1,?_⟩ | refine ⟨0,?_⟩)
theorem uG (a:List Int) (b:List Int) (r0:Bool):oW bH mC (uu a b) Tryd.f43 [.c (.fz .int (a)),.c (.fz .int (b))] [] [.c (.bool (.atom (r0)))]=((fun (q1:Nat)=>(fun (q0:Int)=>a.length*(8:Nat)<=(140737488355328:Nat)->b.length*(8:Nat)<=(140737488355328:Nat)->(¬q0=(↑b.length:Int)->false=r0)/\(q0=(↑b.length:Int)->∃ (s0:Nat),(a=a/\b=b/\(0:Int)=(↑s0:Int))/\(s0<=q1/\q1=b.length/\List.take s0 a=List.take s0 b)/\∀ (s:Nat),(fun (q2:Prop)=>s<=q1/\q1=b.length/\List.take s a=List.take s b->((↑s:Int)<q0->(0:Int)<=(↑s:Int)/\(↑s:Int)<q0/\(0:Int)<=(↑s:Int)/\(↑s:Int)<(↑b.length:Int)/\(I64 (a.getD s (aJ Sh.int))->I64 (b.getD s (aJ Sh.int))->(¬q2->false=r0)/\(q2->I64 ((↑s:Int)+(1:Int))/\∃ (s':Nat),(a=a/\b=b/\(↑s:Int)+(1:Int)=(↑s':Int))/\(s' <= q1/\q1=b.length/\List.take s' a=List.take s' b)/\q1 - s' < q1 - s)))/\(q0<=(↑s:Int)->true=r0)) (a.getD s (aJ Sh.int)=b.getD s (aJ Sh.int)))) (↑a.length:Int)) a.length):=by kernel_rfl
theorem vf (a:List Int) (b:List Int):Sat Tryd.prog (aq bH) 43 [.c (.fz .int (a)),.c (.fz .int (b))] [] ⟨[],[.c (.bool (.atom ((decide (a=b)))))],none,false⟩:=by
 refine d_ df (uu a b) Tryd.func43 (by decide) (by kernel_rfl) ?_
 rw [uG]
 iterate 3 ((all_goals (repeat' (first | with_reducible apply ub | with_reducible refine uz ?_ | intro))); (all_goals try (first | exact uQ | exact rfl | exact (vF gw gw gw gw) | exact (uY gw gw gw gw) | exact (uI gw gw gw) | exact (uT gw))); all_goals try first | refine ⟨‹Nat› + 1,?_⟩ | refine ⟨0,?_⟩)
theorem tS (e:Event) (r0:Event):oW bH mC [] Tryd.f9 [.agg (cellsOf (.nm .event) e)] [] [.agg (cellsOf (.nm .event) r0)]=((fun (q6:Prop)=>(fun (q5:Prop)=>(fun (q4:Int)=>(fun (q3:Prop)=>(fun (q2:Command)=>(fun (q1:Command)=>(fun (q0:Int)=>I64 e.kind->I64 e.a->I64 e.b->I64 q2.kind->I64 q2.client->I64 q2.seq->I64 q2.set->I64 q2.id->I64 q2.n->q2.chunks.length*(8:Nat)<=(140737488355328:Nat)->q2.text.b.length<=(140737488355328:Nat)->((20:Int)<(↑q2.chunks.length:Int)->(0:Int)<=(20:Int)/\(20:Int)<=(↑q2.chunks.length:Int)/\(q4<q0->(0:Int)<=q4/\q4<=q0/\q3/\q5/\q6/\q2.kind=q1.kind/\q2.client=q1.client/\q2.seq=q1.seq/\q2.set=q1.set/\q2.id=q1.id/\q2.n=q1.n/\List.take (20:Nat) q2.chunks=q1.chunks/\Str.mk (List.take (40:Nat) q2.text.b)=q1.text)/\(q0<=q4->q3/\q5/\q6/\q2.kind=q1.kind/\q2.client=q1.client/\q2.seq=q1.seq/\q2.set=q1.set/\q2.id=q1.id/\q2.n=q1.n/\List.take (20:Nat) q2.chunks=q1.chunks/\q2.text=q1.text))/\((↑q2.chunks.length:Int)<=(20:Int)->(q4<q0->(0:Int)<=q4/\q4<=q0/\q3/\q5/\q6/\q2.kind=q1.kind/\q2.client=q1.client/\q2.seq=q1.seq/\q2.set=q1.set/\q2.id=q1.id/\q2.n=q1.n/\q2.chunks=q1.chunks/\Str.mk (List.take (40:Nat) q2.text.b)=q1.text)/\(q0<=q4->q3/\q5/\q6/\q2.kind=q1.kind/\q2.client=q1.client/\q2.seq=q1.seq/\q2.set=q1.set/\q2.id=q1.id/\q2.n=q1.n/\q2.chunks=q1.chunks/\q2.text=q1.text))) (↑q2.text.b.length:Int)) r0.c) e.c) (e.kind=r0.kind)) (40:Int)) (e.a=r0.a)) (e.b=r0.b)):=by kernel_rfl
theorem tB (e:Event):Sat Tryd.prog (aq bH) 9 [.agg (cellsOf (.nm .event) e)] [] ⟨[],[.agg (cellsOf (.nm .event) (cG e))],none,false⟩:=by
 refine d_ df [] Tryd.func9 (by decide) (by kernel_rfl) ?_
 rw [tS]
 (repeat' (first | with_reducible apply ub | with_reducible refine uz ?_ | intro))
 all_goals (first | exact uQ | exact rfl | exact (ry bK) | exact (pC bK) | exact (ry bK).symm | exact (pC bK).symm)
def tO:cZ:=(nw 9 (kK (bp (kT (.nm .event)) eI) eZ fun (e,_) (_)=>⟨[],[.agg (cellsOf (.nm .event) (cG e))],none,false⟩) (nw 43 (kK (bp (kC (cL .int)) (bp (kC (cL .int)) eI)) eZ fun (a,b,_) (_)=>⟨[],[.c (.bool (.atom ((decide (a=b)))))],none,false⟩) (nw 22 (kK (bp (kC (cL .int)) (bp (kC (td 0 0)) (bp (kC (td 1 0)) eI))) (ju (tC 4 (ot cB sK)) (ju (tC 46 (ot (tp 2) sK)) (ju (tc 9 .str) eZ))) fun (l,_,_,_) ((ok,_),(_,_),wds,_)=>⟨[wds.length+l.length<=1000],[],some ([.box 4 ([.bool (.atom ((aV l ok)))]),.box 46 ([.own 2]),.row 9 .str ((wds++l.map ae))]),false⟩) (nw 26 (kK (bp (kC cS) eI) eZ fun (s,_) (_)=>⟨[s.b.length<=1000],[.c (.str ((⟨bO s.b⟩)))],none,false⟩) (nw 25 (kK (bp (kT (.nm .command)) eI) eZ fun (c,_) (_)=>⟨[],[.c (.bool (.atom ((db c))))],none,false⟩) (nw 24 (kK (bp (kC cI) eI) eZ fun (k,_) (_)=>⟨[],[.c (.bool (.atom ((gS k))))],none,false⟩) mC))))))
theorem jW:aS Tryd.prog (aq bH) tO:=(bL (bM (aB iO bh) bg fun (e,_) (_) _=>tB e ) (bL (bM (aB (dZ ra) (aB (dZ ra) bh)) bg fun (a,b,_) (_) _=>vf a b ) (bL (bM (aB (dZ ra) (aB (dZ oy) (aB (dZ oy) bh))) (e_ (nn (mh wD oq)) (e_ (nn (mh oc oq)) (e_ nH bg))) fun (l,_,_,_) ((ok,_),(_,_),wds,_) hp=>wJ l ok wds (xW hp)) (bL (bM (aB (dZ ue) bh) bg fun (s,_) (_) hp=>vq s (xW hp)) (bL (bM (aB iO bh) bg fun (c,_) (_) _=>sU c ) (bL (bM (aB (dZ ud) bh) bg fun (k,_) (_) _=>pH k ) df))))))
end Go.Proofs.YtagpmhlokhoanaaDoor
