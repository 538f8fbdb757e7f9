/- What leads to the law, part 3. Conditions: each lemma's own. -/
import Derived.Laws.CopyRow
import Derived.Lib.AppendZerosOnto
import Derived.Lib.Overlaps
import Derived.RangeFuncLeaves
import Derived.RangeFuncRecord
import Derived.Scope
import Derived.Test.YtladifkbefehdaaGreatProg
import Derived.Test.YtladifkbefehdaaGreatKMPM2
set_option linter.unusedVariables false
set_option linter.unusedSimpArgs false
namespace Go.Proofs.YtladifkbefehdaaGreat
open Go.RowKit
theorem gJ {R:Prop}:∀ {l:List Prop},qn l R↔(∀ p ∈ l,p)/\R
 | []=>by simp [qn]
 | p :: l=>by simp only [qn,gJ,List.forall_mem_cons,and_assoc]
theorem dQ {R:Prop}:∀ {l:List Prop},jl l R↔((∀ p ∈ l,p)->R)
 | []=>by simp [jl]
 | p :: l=>by simp only [jl,dQ,List.forall_mem_cons,and_imp]
section
variable {P:Program} {T:List (Nat × TI)} {G:Gl} {O:cO} {Q:Exit->Act->World->Prop} {n:Nat} {ro:Lv} {l:List Oper} {ρ0:List RE} {w0:World}
theorem GO {ρ:List RE} {H:AH} {w:World} (hR:Rep G ρ H w) {a:AV} {v:Value} (h:Rd (cx G ρ w) ρ a v) {s:Sh} {xs:List (den s)} (hv:a.vw H = .fz s xs):∃ A m c,v = .slice A m c/\(A.isNone=true->xs=[]):=by
 cases a <;> simp only [AV.vw] at hv <;> try cases hv
 case fz=>
  have h:Pd (cx G ρ w) (.fz s xs) v:=h
  cases h with
  | fz h1 h2 h3 h4 h5=>
   refine ⟨_,_,_,rfl,fun hn=>?_⟩
   rcases h5 with h5 | ⟨A,rfl,_⟩
   ·exact h5
   ·cases hn
 case own id=>
  split at hv
  ·rename_i t s' ys hH
   cases hv
   rcases h with ⟨g,cap,len,z,h,rfl⟩ | ⟨h,A,rfl⟩
   ·exact ⟨_,_,_,rfl,fun hn=>by cases hn⟩
   ·refine ⟨_,_,_,rfl,fun _=>?_⟩
    rcases bW hR hH with ⟨_,h2⟩ | ⟨g,cap,cells,sp,h2,_⟩
    ·exact h2
    ·rw [h] at h2; cases h2
  ·cases hv
 case sub id o k=>
  split at hv
  ·rename_i t s' ys hH
   cases hv
   rcases h with ⟨g,cap,L,z,h,_,rfl⟩ | ⟨h,rfl,rfl,A,rfl⟩
   ·exact ⟨_,_,_,rfl,fun hn=>by cases hn⟩
   ·exact ⟨_,_,_,rfl,fun _=>by simp⟩
  ·cases hv
theorem Mr (hT:bO P G.shp T) {ρ:List RE} {H:AH} {w:World} (hR:Rep G ρ H w) {fr:AFr} {F:Fr} (hf:FrR (cx G ρ w) ρ fr F) {op:Op} {s:Sh} {xs:List (den s)} {ne:Bool} {ty:TypeId} (h:Qn T H fr op=some ⟨s,xs,ne⟩):∃ b,ba P n F w op ty (.bool (Ta ne b).val) w/\(b=true->xs=[]):=by
 unfold Qn at h
 split at h
 ·rename_i bo t x y t'
  have key:∀ {a:AV} {e so sz z},bU T t=some ⟨.sl e so,sz,z⟩->dW fr x=some (.one (.c a))->dW fr y=some (.one (.c (.em true)))->a.vw H = .fz s xs->∃ A m c,ev F x=some (.slice A m c)/\ev F y=some (.slice none 0 0)/\P.underlying t=some (.slice e)/\(A.isNone=true->xs=[]):=by
   intro a e so sz z hft hx hy hv
   obtain ⟨va,h1,h2⟩:=aP hf hx
   obtain ⟨vb,h3,h4⟩:=aP hf hy
   obtain ⟨A,m,c,rfl,hn⟩:=GO hR h2 hv
   have h4:Pd (cx G ρ w) (.em true) vb:=h4
   cases h4 with
   | @em b A' he=>
    cases A' with
    | none=>exact ⟨A,m,c,h1,h3,(hT _ _ hft).2.1,hn⟩
    | some _=>cases he
  split at h
  ·rename_i e so sz z a hft hx hy
   split at h
   ·rename_i s' ys hv
    cases h
    obtain ⟨A,m,c,h1,h2,h3,h4⟩:=key hft hx hy hv
    exact ⟨A.isNone,R.D_ h1 h2 h3,h4⟩
   ·cases h
  ·rename_i e so sz z a hft hx hy
   split at h
   ·rename_i s' ys hv
    cases h
    obtain ⟨A,m,c,h1,h2,h3,h4⟩:=key hft hx hy hv
    exact ⟨A.isNone,R.IS h1 h2 h3,h4⟩
   ·cases h
  ·cases h
 ·cases h
theorem ki {k:Int} {ok:Bool} {K:TV->Prop}:∀ {l:List (Int × AV)},sA k ok K l->K (match lookF k l with
  | some a=>Bz ok a true
  | none=>Bz ok .nf false)
 | [],h=>h
 | (j,a) :: r,h=>by
  simp only [lookF]
  by_cases hk:k=j
  ·rw [if_pos hk]; exact h.1 hk
  ·rw [if_neg hk]; exact ki (h.2 hk)
theorem vF (hT:bO P G.shp T) {ρ:List RE} {H:AH} {w:World} (hR:Rep G ρ H w) {fr:AFr} {F:Fr} (hf:FrR (cx G ρ w) ρ fr F) {op:Op} {m:MpR} {ty:TypeId} (h:mapA T H fr op=some m):∃ v,ba P n F w op ty v w/\Rt (cx G ρ w) ρ (match lookF m.k m.l with
  | some a=>Bz m.ok a true
  | none=>Bz m.ok .nf false) v:=by
 unfold mapA at h
 split at h
 ·rename_i t x y ok
  split at h
  ·rename_i id k hft hx hy
   split at h
   ·rename_i l hO2
    cases h
    obtain ⟨hm,hk,_,hz⟩:=(hT _ _ hft).2
    obtain ⟨va,h1,h2⟩:=aP hf hx
    obtain ⟨vb,h3,h4⟩:=aP hf hy
    cases h4 with | int=>
    obtain ⟨g,hg,rfl⟩:=h2
    obtain ⟨r',hr',hor⟩:=hR.at_ (cd hO2 (by simp))
    rw [hg] at hr'; cases hr'
    obtain ⟨g',e,a,c,k1,k2,k3⟩:=hor
    cases e
    have hrun:=R.Aq (P:=P) (n:=n) (ty:=ty) ok h1 h3 hm hk (hz rfl) k1 k2
    refine ⟨_,hrun,?_⟩
    have k4:=k3 k
    dsimp only
    cases hgm:getM k a.toList <;> cases hfk:lookF k l <;> rw [hgm,hfk] at k4
    ·cases ok with
     | false=>exact (rfl:(_:Value)=_)
     | true=>exact ⟨_,rfl,.cons rfl (.cons (Pd.bool (e:=.lit false)) .nil)⟩
    ·exact k4.elim
    ·exact k4.elim
    ·cases ok with
     | false=>exact k4
     | true=>exact ⟨_,rfl,.cons k4 (.cons (Pd.bool (e:=.lit true)) .nil)⟩
   ·cases h
  ·cases h
 ·cases h
theorem qe {l:List Oper} {fr:AFr} {j:Nat} {w:Bool}:∀ {grp:List Oper} {us:List Nat},xa l fr j w us grp=true->∀ o ∈ grp,gj fr o.dst=true
 | [],_,_,o,ho=>by cases ho
 | x :: r,us,h,o,ho=>by
  simp only [xa,Bool.and_eq_true] at h
  rcases List.mem_cons.1 ho with rfl | ho
  ·exact h.1.1
  ·exact qe h.2 o ho
theorem yS {n j:Nat} {w:Bool}:∀ {grp:List Oper},iK n grp=true->iK n (grp.map (FJ j w))=true
 | [],h=>h
 | x :: r,h=>by
  simp only [iK,List.map_cons,Bool.and_eq_true] at h ⊢
  refine ⟨?_,yS h.2⟩
  have e:(FJ j w x).dst=x.dst:=by unfold FJ; rw [Bool.cond_eq_ite]; split <;> first | rfl | (split <;> rfl)
  rw [e]; exact h.1
theorem jC (hT:bO P G.shp T) (hO:aW P G.shp O) {K:AFr->AH->Prop} (hK:∀ fr H F w,K fr H->St G ro ρ0 w0 fr H F w->WX Q n .normal F w) :
  ∀ (m:Nat) (ops:List Oper) (fr:AFr) (H:AH) (F:Fr) (w:World),iK n ops=true->wpOps T O ro l K m ops fr H->St G ro ρ0 w0 fr H F w->WO P Q n l ops F w
 | 0,_,_,_,_,_,_,h,_=>h.elim
 | _+1,[],fr,H,F,w,_,h,hs=>WO.nil (hK fr H F w h hs)
 | m+1,o :: rest,fr,H,F,w,hd,h,hs=>by
  have ih:=jC hT hO hK m
  have hs0:=hs
  obtain ⟨ρ,hS,hR,hf⟩:=hs
  have hdo:=iT hd o (by simp)
  have hdr:iK n rest=true:=by simp only [iK,Bool.and_eq_true] at hd; exact hd.2
  obtain ⟨dst,op,ty,pos,af,g⟩:=o
  simp only [wpOps] at h
  split at h
  ·-- no guard
   split at h
   ·-- an element of what nobody writes
    rename_i s xs i hat
    unfold atA at hat
    split at hat
    ·rename_i t x y
     split at hat
     ·rename_i s1 xs1 b s2 hx hy hsl
      split at hat
      ·rename_i i' hdc hix
       cases hat
       have hss:s2=s:=of_decide_eq_true hdc
       subst hss
       obtain ⟨h0,h1,h2⟩:=h
       obtain ⟨va,h3,h4⟩:=aP hf hx
       obtain ⟨vb,h5,h6⟩:=aP hf hy
       obtain ⟨k,rfl⟩:=oI hix h6
       obtain ⟨e,hu,_,_,hsz,_⟩:=yb hT hsl
       obtain ⟨j,rfl⟩:=Int.eq_ofNat_of_zero_le h0
       have hj:j<xs.length:=by omega
       have hxj:=List.getElem?_eq_getElem hj
       obtain ⟨A,kk,rfl,_,hfe,us,hus⟩:=No (ρ:=ρ) h4 hxj
       have h7:=dQ.1 (h2 _ (by rw [Int.toNat_natCast]; exact hxj)) hus.lf
       refine WO.y (φ:=fun v w'=>v = .pointer (some (A.add (j*s2.size)))/\w' = w) (.inl ⟨_,_,R.kB h3 h5 hu hsz rfl hj,rfl,rfl⟩) hdo fun v w' ⟨e1,e2⟩=>?_
       subst e1; subst e2
       refine ih rest _ H _ _ hdr h7 ⟨ρ,hS,hR,?_⟩
       cases dst with
       | some d=>exact .cons ⟨rfl,hfe⟩ hf
       | none=>exact hf
      ·cases hat
     ·cases hat
    ·cases hat
   ·split at h
    ·-- a comparison to nil
     rename_i s xs ne hnl
     obtain ⟨b,hrun,hb⟩:=Mr (n:=n) (ty:=ty) hT hR hf hnl
     refine WO.y (φ:=fun v w'=>v = .bool (Ta ne b).val/\w' = w) (.inl ⟨_,_,hrun,rfl,rfl⟩) hdo fun v w' ⟨e1,e2⟩=>?_
     subst e1; subst e2
     refine ih rest _ H _ _ hdr (h b hb) ⟨ρ,hS,hR,?_⟩
     cases dst with
     | some d=>exact .cons ⟨rfl,Pd.bool⟩ hf
     | none=>exact hf
    split at h
    ·-- a map of functions
     rename_i m0 hmp
     obtain ⟨v0,hrun,hv0⟩:=vF (n:=n) (ty:=ty) hT hR hf hmp
     refine WO.y (φ:=fun v w'=>v=v0/\w' = w) (.inl ⟨_,_,hrun,rfl,rfl⟩) hdo fun v w' ⟨e1,e2⟩=>?_
     subst e1; subst e2
     refine ih rest _ H _ _ hdr (ki h) ⟨ρ,hS,hR,?_⟩
     cases dst with
     | some d=>exact .cons ⟨rfl,hv0⟩ hf
     | none=>exact hf
    split at h
    ·-- a step that changes nothing
     rename_i r hpv
     obtain ⟨hob,h⟩:=gJ.1 h
     refine WO.y (oX (ty:=ty) hT hO hR hf hpv hob) hdo fun v w1 ⟨hk1,hv1,hfc1⟩=>?_
     refine ih rest _ H _ _ hdr (dQ.1 h hfc1) ⟨ρ,hS.trans (Stp.kp hR hk1),hR.kp hk1,?_⟩
     cases dst with
     | some d=>exact .cons ⟨rfl,hv1⟩ (hf.kp hk1)
     | none=>exact hf.kp hk1
    ·split at h
     ·rename_i r hst hsv
      obtain ⟨hob,h⟩:=gJ.1 h
      have key:∀ v w',fL G ro ρ w r F v w' -> WO P Q n l rest (gR dst v F) w':=by
       rintro v w' ⟨ρ',k1,k2,k3,k4,k5⟩
       refine ih rest _ _ _ _ hdr (dQ.1 h k5) ⟨ρ',hS.trans k1,k2,?_⟩
       cases dst with
       | some d=>exact .cons ⟨rfl,k4⟩ k3
       | none=>exact k3
      rcases Gi (ty:=ty) hT hO hR hf hsv hob with hy | ⟨e,w',hsk,haf⟩
      ·exact WO.y hy hdo key
      ·cases dst with
       | some d=>simp [Ki,e] at hst
       | none=>exact WO.s hsk (key _ _ haf)
     ·exact h.elim
  ·-- a guard
   rename_i g0 j wt
   split at h
   ·rename_i r hgr
    obtain ⟨hob,h⟩:=gJ.1 h
    have:=As (tl:=[]) (G:=G) (Q:=Q) (n:=n) (l:=l) (ρ:=ρ) (H:=H) (lH hT hO m) hgr (fun _ _ e=>by cases e) hob hd hR hf fun w1 hk1 hfc1 hFd hfd hf1 hbd hdt=>by
     rw [List.append_nil]
     exact ih r.tail _ H _ _ hdt (dQ.1 h hfc1) ⟨ρ,hS.trans (Stp.kp hR hk1),hR.kp hk1,.cons ⟨rfl,Pd.bool⟩ hf1⟩
    rwa [List.append_nil] at this
   ·split at h
    ·-- a group,in two ways
     rename_i r hgs
     obtain ⟨hon,hoff'⟩:=h
     unfold WK at hgs
     split at hgs
     ·rename_i t hj
      split at hgs
      ·rename_i e grp pk tail he hsp
       split at hgs
       ·rename_i z x y d hck hpk hpd
        cases hgs
        simp only [Bool.and_eq_true] at hck
        obtain ⟨⟨hoffB,hpg⟩,hfresh⟩:=hck
        obtain ⟨hops,hip⟩:=mh hsp
        replace hpg:=sQ hpg
        replace he:=dA he
        rw [hops] at hd
        rw [hops]
        obtain ⟨vt,hvt,hvr⟩:=ei hf he
        cases hvr with | bool=>
        obtain ⟨hd1,hd2⟩:=lD.1 hd
        have hd3:iK n tail=true:=by simp only [iK,Bool.and_eq_true] at hd2; exact hd2.2
        have hdd:Nat.blt d n=true:=iT hd2 pk (by simp) d hpd
        rw [hpd] at hfresh
        have hFd:look F d=none:=fK hf hfresh d rfl
        obtain ⟨dst,op,ty,pos,af,pg⟩:=pk
        simp only at hpk hpd hpg hon hoff'
        subst hpk; subst hpd; subst hpg
        have hz:z = .tmp t:=by
         cases z <;> simp only [mZ] at hip
         ·rw [Nat.eq_of_beq_eq_true hip]
         all_goals cases hip
        subst hz
        by_cases hew:e.val=wt
        ·rw [hew] at hvt
         refine WO.split (t:=t) hj hvt (fun o ho d' hd' e=>?_) (ih _ _ H _ _ ?_ (hon ((BE.eD e wt).2 hew)) ⟨ρ,hS,hR,hf⟩)
         ·have:=fK hf (qe hoffB o ho) d' hd'
          rw [e,hvt] at this; cases this
         ·refine lD.2 ⟨yS hd1,?_⟩
          simp only [iK,Bool.and_eq_true] at hd2 ⊢
          exact hd2
        ·have hew':e.val = !wt:=by revert hew; cases e.val <;> cases wt <;> simp
         have hoff':=hoff' ((BE.eD e _).2 hew')
         split at hoff'
         ·rename_i v hv
          refine jH (us:=[]) hf hj hvt hew' hoffB hd1 (by simp) ?_
          obtain ⟨u,hu,hr⟩:=aP hf hv
          have k:=ih tail ((d,v) :: fr) H ((d,u) :: F) _ hd3 hoff' ⟨ρ,hS,hR,.cons ⟨rfl,hr⟩ hf⟩
          have hl:ev F (.tmp t)=some (.bool e.val):=hvt
          cases wt with
          | true=>exact WO.v (R.uZ hl hew' hu) hdd k
          | false=>exact WO.v (R.uQ hl hew' hu) hdd k
         ·exact hoff'.elim
       ·cases hgs
      ·cases hgs
     ·cases hgs
    ·exact h.elim
def dJ (n:Nat):Code->Bool
 | .seq a b=>dJ n a && dJ n b
 | .cond _ a b=>dJ n a && dJ n b
 | .block _ a=>dJ n a
 | .loop a=>dJ n a
 | .scope a=>dJ n a
 | .region _ ops _=>iK n ops.toList
 | _=>true
def GN (P:Program) (T:List (Nat × TI)) (G:Gl) (O:cO) (n:Nat) (ro:Lv) (ρ0:List RE) (w0:World):Prop:=
 ∀ (Q:Exit->Act->World->Prop) (k0 id:Nat) (L:List (Nat × LI)) (ops:Array Oper) (K:Exit->AFr->AH->Prop) (fr:AFr) (H:AH) (F:Fr) (w:World),iK n ops.toList=true->gD T O ro k0 L (.region id ops true) K fr H->St G ro ρ0 w0 fr H F w ->
  (∀ fr H F w,K .normal fr H->St G ro ρ0 w0 fr H F w->WX Q n .normal F w)->WC P Q n (.region id ops true) F w
theorem tD (hT:bO P G.shp T) (hO:aW P G.shp O) (hD:GN P T G O n ro ρ0 w0) {k0:Nat} (hk0:ρ0.length<=k0) {L:List (Nat × LI)} :
  ∀ (c:Code) (Q:Exit->Act->World->Prop) (K:Exit->AFr->AH->Prop) (fr:AFr) (H:AH) (F:Fr) (w:World),dJ n c=true->gD T O ro k0 L c K fr H->St G ro ρ0 w0 fr H F w ->
   (∀ e fr H F w,K e fr H->St G ro ρ0 w0 fr H F w->WX Q n e F w)->WC P Q n c F w:=by
 intro c
 induction c <;> intro Q K fr H F w hc h hs hK
 case skip=>exact WC.skip (hK _ _ _ _ _ h hs)
 case seq a b iha ihb=>
  simp only [dJ,Bool.and_eq_true] at hc
  refine WC.seq (iha _ _ fr H F w hc.1 h hs fun e fr H F w h hs=>?_)
  cases e with
  | normal=>exact WX.next (ihb _ _ fr H F w hc.2 h hs hK)
  | _=>exact hK _ fr H F w h hs
 case cond c a b iha ihb=>
  simp only [dJ,Bool.and_eq_true] at hc
  obtain ⟨ρ,hS,hR,hf⟩:=hs
  have hs:St G ro ρ0 w0 fr H F w:=⟨ρ,hS,hR,hf⟩
  simp only [gD] at h
  split at h
  ·rename_i he
   obtain ⟨v,h1,h2⟩:=aP hf (dA he)
   cases h2 with | bool=>
   exact WC.zX h1 (iha _ _ fr H F w hc.1 h hs hK)
  ·rename_i he
   obtain ⟨v,h1,h2⟩:=aP hf (dA he)
   cases h2 with | bool=>
   exact WC.VS h1 (ihb _ _ fr H F w hc.2 h hs hK)
  ·rename_i e _ _ he
   obtain ⟨v,h1,h2⟩:=aP hf (dA he)
   cases h2 with | bool=>
   exact WC.cond h1 (fun hv=>iha _ _ fr H F w hc.1 (h.1 ((BE.eD e true).2 hv)) hs hK) (fun hv=>ihb _ _ fr H F w hc.2 (h.2 ((BE.eD e false).2 hv)) hs hK)
  ·exact h.elim
 case block i a iha=>
  refine WC.block (iha _ _ fr H F w hc h hs fun e fr H F w h hs=>?_)
  cases e with
  | exit j=>
   simp only at h
   intro x hx
   show (if j=i then Q .normal x w else Q (.exit j) x w)
   cases hb:Nat.beq j i <;> rw [hb] at h
   ·have:j≠i:=by rintro rfl; simp at hb
    rw [if_neg this]
    exact hK _ fr H F w h hs x hx
   ·rw [if_pos (Nat.eq_of_beq_eq_true hb)]
    exact hK _ fr H F w h hs x hx
  | _=>exact hK _ fr H F w h hs
 case loop a iha=>
  simp only [gD] at h
  split at h
  ·rename_i I hI
   obtain ⟨s0,h1,h2,h3⟩:=h
   obtain ⟨hr0,h3⟩:=LI.zF.1 h3
   intro x hx
   obtain ⟨F2,h7,h8⟩:=ff hT hk0 hs h1
   refine uf (fun a w s=>I.J s/\I.rel s0 s/\∃ F,M n F a/\St G ro ρ0 w0 (I.F s).1 (I.F s).2 F w) I.μ s0 ⟨h2,hr0,F2,hx.sub h8,h7⟩ fun s a' w hD=>?_
   obtain ⟨hJ,hrl,F',hM,hst⟩:=hD
   exact iha _ _ _ _ F' w hc (LI.JV.1 (h3 s hJ) hrl) hst (fun e fr H F w h hs=>by
    cases e with
    | normal=>
     obtain ⟨s',h4,h5,h6⟩:=h
     obtain ⟨h9,h6⟩:=LI.zF.1 h6
     obtain ⟨F2,h7,h8⟩:=ff hT hk0 hs h4
     exact fun x hx=>⟨s',⟨h5,h9,F2,hx.sub h8,h7⟩,h6⟩
    | _=>exact hK _ fr H F w h hs) a' hM
  ·exact h.elim
 case exit i=>exact WC.exit (hK _ _ _ _ _ h hs)
 case ret=>exact WC.ret (hK _ _ _ _ _ h hs)
 case scope a iha=>
  refine fun x hx=>BW (iha (Exit.noGoto Q) _ fr H F w hc h hs (fun e fr H F w h hs=>?_) x hx)
  cases e with
  | goto i=>exact h.elim
  | _=>exact hK _ fr H F w h hs
 case label i=>exact WC.label (hK _ _ _ _ _ h hs)
 case region i ops b=>
  cases b with
  | true=>exact hD Q k0 i L ops K fr H F w hc h hs fun fr H F w=>hK _ fr H F w
  | false=>
   have e:ops=ops.toList.toArray:=by simp
   rw [e]
   exact WC.region (jC hT hO (fun fr H F w=>hK _ fr H F w) _ _ fr H F w hc h hs)
 all_goals exact h.elim
end
def RX (n:Nat) (ps:List (Nat × Nat)):Nat->Nat->List Nat
 | _,0=>[]
 | k,m+1=>AD n ps k :: RX n ps (k+1) m
def iP:AO->Bool
 | .row _ _ _=>true
 | _=>false
def Ol (H0:AH) (ps:List (Nat × Nat)):Nat->Nat->List Nat
 | _,0=>[]
 | k,m+1=>(bif iP (getO H0 k) then AD k ps k else k) :: Ol H0 ps (k+1) m
def BY (H0:AH) (k0:Nat) (H:AH) (l rs:List TV1) (H':AH):Nat->List (Nat × Nat)->List Nat
 | 0,ps=>Ol H0 ps 0 k0++RX H.length ps k0 (H'.length - k0)
 | f+1,ps=>BY H0 k0 H l rs H' f (yv l rs++GL H (Ol H0 ps 0 k0++RX H.length ps k0 (H'.length - k0)) H')
def PN (T:List (Nat × TI)) (H0:AH) (k0:Nat) (fn:Func) (rs:List TV1) (H':AH) (fr:AFr) (H:AH):List Prop:=
 match qv T fr H fn.results.toList with
 | some l=>match BY H0 k0 H l rs H' 3 [] with
  | σ=>same (jZ H.length σ)++wv H H.length σ l rs++OQ T H H.length σ σ H'
 | none=>[False]
def endE (T:List (Nat × TI)) (H0:AH) (k0:Nat) (fn:Func) (rs:List TV1) (H':AH) (fr:AFr) (H:AH):Prop:=gM (PN T H0 k0 fn rs H' fr H)
def XD (b:Bool) (T:List (Nat × TI)) (O:cO) (L:List (Nat × LI)) (fn:Func) (args:List TV1) (H:AH) (rs:List TV1) (H':AH):Prop:=
 match fn.body with
 | some c=>jl (Ab args) (gD T O (fq (bif b then H.length else 0)) H.length L c (fun e fr K=>match e with
  | .ret=>endE T (bif b then [] else H) H.length fn rs H' fr K
  | .normal=>endE T (bif b then [] else H) H.length fn rs H' fr K
  | _=>False) (nb 0 args) H)
 | none=>False
def nE:=XD false
def gV:=XD true
section
variable {P:Program} {T:List (Nat × TI)} {G:Gl} {O:cO} {n:Nat} {ρ:List RE} {H:AH} {w:World} {fr:AFr} {F:Fr}
theorem kY {c:Cx}:∀ {args:List TV1} {vs:List Value} {k:Nat},All2 (dh c ρ) args vs->FrR c ρ (nb k args) (qA k vs)
 | [],_,_,h=>by cases h; exact .nil
 | _ :: _,_,_,h=>by cases h with | cons h1 h2=>exact .cons ⟨rfl,h1⟩ (kY h2)
def KI (tm:Array Value):ResultVar->Sem Value
 | .tmp t=>pure (tm.getD t undef)
 | .cell a t=>do loadVar t (<- asAddr (tm.getD a undef))
theorem Ea {t:TypeId} {v u:Value} (h:ba P 0 [] w (.load t (.const v)) 0 u w):(do loadVar t (<- asAddr v)).run P w = .ok u w:=by
 replace h:=h ⟨#[],[]⟩ none "" #[] none ⟨rfl,rfl,fun _ _ h=>by cases h⟩
 have e:(⟨#[],[]⟩:Act).eval (.const v)=v:=rfl
 simp only [execOp,e,Instr.loadAt] at h
 cases v
 case pointer a=>
  cases a with
  | none=>simp [Instr.sureAddr] at h
  | some a=>
   simp only [Instr.sureAddr,asAddr,pure_bind] at h ⊢
   rw [Sem.run_bind] at h
   cases hr:(loadVar t a).run P w with
   | ok x w'=>rw [hr] at h; simp at h; rw [h.1,h.2]
   | halt x w'=>rw [hr] at h; simp at h
 all_goals simp [Instr.sureAddr] at h
theorem pA (hT:bO P G.shp T) (hR:Rep G ρ H w) (hf:FrR (cx G ρ w) ρ fr F) {a:Act} (hM:M n F a):∀ {rs:List ResultVar} {l:List TV1},qv T fr H rs=some l ->
  ∃ us,All2 (dh (cx G ρ w) ρ) l us/\(rs.mapM (KI a.tmps)).run P w = .ok us w
 | [],l,h=>by cases h; exact ⟨[],.nil,rfl⟩
 | .tmp t :: r,l,h=>by
  simp only [qv] at h
  split at h
  ·rename_i tv l' ht hl
   cases h
   obtain ⟨us,h1,h2⟩:=pA hT hR hf hM hl
   obtain ⟨v,h3,h4⟩:=ei hf ht
   refine ⟨v :: us,.cons h4 h1,?_⟩
   have h5:=hM.at_ h3
   rw [List.mapM_cons]
   simp [KI,h2,h5]
  ·cases h
 | .cell p t :: r,l,h=>by
  simp only [qv] at h
  split at h
  ·rename_i ap l' ht hl
   split at h
   ·rename_i tv fc hld
    cases h
    obtain ⟨us,h1,h2⟩:=pA hT hR hf hM hl
    obtain ⟨v,h3,h4⟩:=ei hf ht
    obtain ⟨u,h6,h7⟩:∃ u,ba P 0 [] w (.load t (.const v)) 0 u w/\Rt (cx G ρ w) ρ (.one tv) u:=by
     unfold Nt at hld
     split at hld
     ·rename_i hla
      cases hld
      obtain ⟨u,h6,h7,_⟩:=ni (P:=P) (F:=[]) (n:=0) (ty:=0) (x:=.const v) hT hR h4 rfl hla (by simp)
      exact ⟨u,h6,h7⟩
     ·obtain ⟨u,h6,h7,_,_⟩:=vW (P:=P) (F:=[]) (n:=0) (ty:=0) (x:=.const v) hT hR h4 rfl hld
      exact ⟨u,h6,h7⟩
    have h8:=Ea h6
    refine ⟨u :: us,.cons h7 h1,?_⟩
    have h5:a.tmps.getD p undef=v:=(hM.2.2 p v h3).2
    rw [List.mapM_cons,Sem.run_bind]
    simp only [KI,h5,h8]
    simp [h2]
   ·cases h
  ·cases h
theorem i_ {fn:Func} (hT:bO P G.shp T) (hR:Rep G ρ H w) (hf:FrR (cx G ρ w) ρ fr F) {a:Act} (hM:M n F a) {l:List TV1} (h:qv T fr H fn.results.toList=some l) :
  ∃ us,All2 (dh (cx G ρ w) ρ) l us/\(results fn a.tmps).run P w = .ok (uE us) w:=by
 obtain ⟨us,h1,h2⟩:=pA hT hR hf hM h
 refine ⟨us,h1,?_⟩
 have e:results fn a.tmps=(do let vs <- fn.results.mapM (KI a.tmps); pure (if h:vs.size=1 then vs[0] else .tuple vs)):=rfl
 have e2:fn.results=fn.results.toList.toArray:=by simp
 rw [e,e2,List.mapM_toArray]
 simp only [Sem.run_bind,h2,map_eq_pure_bind,Result.andThen_ok,Sem.run_pure,bind_assoc,pure_bind]
 cases us with
 | nil=>rfl
 | cons u us=>
  cases us with
  | nil=>rfl
  | cons u2 us=>rfl
theorem sm {k i:Nat} (h:i<k):Nat.ble k i=false:=by
 rw [<- Bool.not_eq_true,Nat.ble_eq]; omega
theorem rk {k m:Nat} (h:k<=m) (i:Nat) (hi:(fq k).wr i=false\/(fq k).mv i=false):i<m:=by
 have:Nat.ble k i=false:=hi.elim id id
 rw [<- Bool.not_eq_true,Nat.ble_eq] at this; omega
def tn (P:Program) (shp:TypeId->Option Sh) (T:List (Nat × TI)) (O:cO):Prop:=∀ (G:Gl) (n:Nat) (ro:Lv) (ρ0:List RE) (w0:World),G.shp=shp->(∀ i,ro.wr i=false\/ro.mv i=false->i<ρ0.length)->GN P T G O n ro ρ0 w0
theorem Sat.RL {shp:TypeId->Option Sh} {f:Nat} {fn:Func} {args rs:List TV1} {pre:List Prop} {L:List (Nat × LI)} (hT:bO P shp T) (hO:aW P shp O) (hD:tn P shp T O) (hfn:P.funcs[f]? = some fn) (hng:(fn.name == "runtime.NumGoroutine")=false)
  (hc:(match fn.body with
   | some c=>dJ fn.ntmps c && Nat.ble args.length fn.ntmps
   | none=>false)=true) (h:ck T O L fn args H rs):Sat P shp f args H ⟨pre,rs,none,false⟩:=by
 cases hb:fn.body with
 | none=>rw [hb] at hc; cases hc
 | some c=>
 rw [hb] at hc
 simp only [Bool.and_eq_true] at hc
 refine ⟨⟨fn,hfn,hng,by rw [hb]; rfl⟩,?_⟩
 intro G ρ w vs hshp hR hvs
 subst hshp
 simp only [ck,hb] at h
 have h:=dQ.1 h (KT.lf hvs)
 refine iI.enter hfn hb rfl (by rw [<- hvs.length]; exact hc.2) rfl (tD hT hO (hD G _ _ ρ w rfl (rk (by rw [<- hR.obj.length]; exact Nat.le_refl _))) (k0:=H.length) (by rw [<- hR.obj.length]; exact Nat.le_refl _) c _ _ _ H _ w hc.1 h ⟨ρ,Stp.refl _ _ _,hR,kY hvs⟩ ?_)
 intro e fr H' F w' hK hst
 obtain ⟨ρ',hS,hR',hf⟩:=hst
 have key:∀ {l},qv T fr H' fn.results.toList=some l->gM (wv H' H'.length (iota 0 H.length) l rs)->∀ a,M fn.ntmps F a->a.defers=[]/\∃ v,(results fn a.tmps).run P w' = .ok v w' /\ ∃ x,Ending.returned v = .returned x/\∃ us,x=uE us/\Kp [] w w' /\ All2 (dh (cx G ρ w') ρ) rs us:=by
  intro l hl he a hM
  obtain ⟨us,h1,h2⟩:=i_ hT hR' hf hM hl
  refine ⟨hM.1,_,h2,_,rfl,us,rfl,?_,?_⟩
  ·refine ⟨hS.ext.os,hS.ext.tape,hS.ext.output,hS.ext.size,fun b hb _=>?_⟩
   by_cases hl:live ρ b
   ·obtain ⟨i,r,h3,h4⟩:=hl
    exact (hS.pro i r (sm (by rw [hR.obj.length]; exact (List.getElem?_eq_some_iff.1 h3).1)) h3).2 b h4
   ·exact (hS.ext.old b hb hl).2
  ·have h3:=ld hR' rfl h1 (dO.1 he)
   have h4:cP ρ' (iota 0 H.length)=ρ:=by
    refine List.ext_getElem? fun i=>?_
    by_cases hi:i<H.length
    ·have h5:i<ρ.length:=by rw [<- hR.obj.length]; exact hi
     rw [List.getElem?_eq_getElem h5]
     exact dz (by have:=tg (k:=0) hi; rwa [Nat.zero_add] at this) (hS.pro i _ (sm hi) (List.getElem?_eq_getElem h5)).1
    ·rw [List.getElem?_eq_none (by simp [cP,uo]; omega),List.getElem?_eq_none (by rw [<- hR.obj.length]; omega)]
   rwa [h4] at h3
 cases e with
 | ret=>
  simp only at hK
  split at hK
  ·rename_i l hl; exact fun a ha=>key hl hK a ha
  ·exact hK.elim
 | normal=>
  simp only at hK
  split at hK
  ·rename_i l hl; exact fun a ha=>key hl hK a ha
  ·exact hK.elim
 | _=>exact hK.elim
theorem zk {H0:AH} {ps:List (Nat × Nat)}:∀ {m k:Nat},(Ol H0 ps k m).length=m
 | 0,_=>rfl
 | m+1,k=>by rw [Ol,List.length_cons,zk]
theorem FD {H0:AH} {ps:List (Nat × Nat)}:∀ {m k i:Nat},i<m->iP (getO H0 (k+i))=false->(Ol H0 ps k m)[i]? = some (k+i)
 | 0,_,_,h,_=>absurd h (Nat.not_lt_zero _)
 | m+1,k,0,_,hr=>by
  rw [Nat.add_zero] at hr
  simp [Ol,hr]
 | m+1,k,i+1,h,hr=>by
  have:=FD (ps:=ps) (m:=m) (k:=k+1) (i:=i) (Nat.lt_of_succ_lt_succ h) (by rw [show k+1+i=k+(i+1) by omega]; exact hr)
  rw [show k+(i+1)=k+1+i by omega,<- this]; rfl
theorem kN {H0:AH} {k0:Nat} {K:AH} {l rs:List TV1} {H':AH} {i:Nat} (h:i<k0) (hr:iP (getO H0 i)=false):∀ (f:Nat) (ps:List (Nat × Nat)),(BY H0 k0 K l rs H' f ps)[i]? = some i
 | 0,ps=>by
  show (Ol H0 ps 0 k0++_)[i]? = _
  rw [List.getElem?_append_left (by rw [zk]; exact h)]
  have:=FD (ps:=ps) (k:=0) h (by rw [Nat.zero_add]; exact hr)
  rwa [Nat.zero_add] at this
 | f+1,ps=>kN h hr f _
theorem Nl {b:Bool} (hR:Rep G ρ H w) {i g:Nat} (hg:ρ[i]? = some (.blk g)):iP (getO (bif b then [] else H) i)=false:=by
 cases b
 ·show iP (getO H i)=false
  cases ho:getO H i with
  | row t s xs=>
   obtain ⟨r,hr,h⟩:=hR.at_ (cd ho (by simp))
   rw [hg] at hr; cases hr
   obtain ⟨_,_,h | ⟨_,_,_,_,h,_⟩⟩:=h
   ·exact absurd h.1 (by simp)
   ·cases h
  | _=>rfl
 ·show iP (getO [] i)=false
  simp [getO,iP]
theorem Sat.FU {b:Bool} {shp:TypeId->Option Sh} {f:Nat} {fn:Func} {args rs:List TV1} {pre:List Prop} {H':AH} {L:List (Nat × LI)} (hT:bO P shp T) (hO:aW P shp O) (hD:tn P shp T O) (hfn:P.funcs[f]? = some fn) (hng:(fn.name == "runtime.NumGoroutine")=false)
  (hc:(match fn.body with
   | some c=>dJ fn.ntmps c && Nat.ble args.length fn.ntmps
   | none=>false)=true) (h:XD b T O L fn args H rs H'):Sat P shp f args H ⟨pre,rs,some H',b⟩:=by
 cases hb:fn.body with
 | none=>rw [hb] at hc; cases hc
 | some c=>
 rw [hb] at hc
 simp only [Bool.and_eq_true] at hc
 refine ⟨⟨fn,hfn,hng,by rw [hb]; rfl⟩,?_⟩
 intro G ρ w vs hshp hR hvs
 subst hshp
 simp only [XD,hb] at h
 have h:=dQ.1 h (KT.lf hvs)
 refine iI.enter hfn hb rfl (by rw [<- hvs.length]; exact hc.2) rfl (tD hT hO (hD G _ _ ρ w rfl (rk (by cases b <;> simp [hR.obj.length]))) (k0:=H.length) (by rw [<- hR.obj.length]; exact Nat.le_refl _) c _ _ _ H _ w hc.1 h ⟨ρ,Stp.refl _ _ _,hR,kY hvs⟩ ?_)
 intro e fr K F w' hK hst
 obtain ⟨ρ',hS,hR',hf⟩:=hst
 have key:endE T (bif b then [] else H) H.length fn rs H' fr K->∀ a,M fn.ntmps F a->a.defers=[]/\∃ v,(results fn a.tmps).run P w' = .ok v w' /\ ∃ x,Ending.returned v = .returned x/\∃ us,x=uE us /\
   ∃ ρ',Rep G ρ' H' w' /\ Ext ρ w ρ' w' /\ (∀ (i g:Nat),ρ[i]? = some (.blk g)->ρ'[i]? = some (.blk g))/\All2 (dh (cx G ρ' w') ρ') rs us/\(b=true->Kp [] w w' /\ ∀ (i:Nat) (rr:RE),ρ[i]? = some rr->ρ'[i]? = some rr):=by
  intro hE a hM
  unfold endE PN at hE
  split at hE
  ·rename_i l hl
   obtain ⟨us,h1,h2⟩:=i_ hT hR' hf hM hl
   replace hE:=dO.1 hE
   refine ⟨hM.1,_,h2,_,rfl,us,rfl,cP ρ' (BY (bif b then [] else H) H.length K l rs H' 3 []),?_,kO hS.ext,fun i g hg=>?_,?_,fun hb=>?_⟩
   ·exact lr hT hR' rfl (cD.1 fun p hp=>hE p (List.mem_append_left _ (List.mem_append_left _ hp))) fun p hp=>hE p (List.mem_append_right _ hp)
   ·exact dz (kN (by rw [hR.obj.length]; exact (List.getElem?_eq_some_iff.1 hg).1) (Nl hR hg) _ _) (hS.bx i g hg)
   ·exact ld hR' rfl h1 fun p hp=>hE p (List.mem_append_left _ (List.mem_append_right _ hp))
   ·subst hb
    have hlt:∀ (i:Nat) (rr:RE),ρ[i]? = some rr->i<H.length:=fun i rr h=>by rw [hR.obj.length]; exact (List.getElem?_eq_some_iff.1 h).1
    refine ⟨⟨hS.ext.os,hS.ext.tape,hS.ext.output,hS.ext.size,fun b hb _=>?_⟩,fun i rr hi=>?_⟩
    ·by_cases hl:live ρ b
     ·obtain ⟨i,r,h3,h4⟩:=hl
      exact (hS.pro i r (sm (hlt i r h3)) h3).2 b h4
     ·exact (hS.ext.old b hb hl).2
    ·exact dz (kN (hlt i rr hi) rfl _ _) (hS.pro i rr (sm (hlt i rr hi)) hi).1
  ·exact (show False from hE).elim
 cases e with
 | ret=>exact fun a ha=>key hK a ha
 | normal=>exact fun a ha=>key hK a ha
 | _=>exact hK.elim
end
theorem gb:∀ {ds:List DV} {i:Nat},te ds i=ds[i]?
 | [],_=>rfl
 | _ :: _,0=>rfl
 | _ :: r,i+1=>by simpa [te] using gb (ds:=r) (i:=i)
theorem ep {sl:List Nat}:∀ {ds:List DV} {k j:Nat},j ∈ dH sl k ds↔∃ i a,j=k+i/\ds[i]? = some a/\a.d ∈ sl
 | [],k,j=>by simp [dH]
 | a :: r,k,j=>by
  have ih:=ep (sl:=sl) (ds:=r) (k:=k+1) (j:=j)
  have key:(∃ i b,j=k+i/\(a :: r)[i]? = some b/\b.d ∈ sl)↔(j=k/\a.d ∈ sl)\/j ∈ dH sl (k+1) r:=by
   rw [ih]
   constructor
   ·rintro ⟨i,b,h1,h2,h3⟩
    cases i with
    | zero=>simp at h2; subst h2; exact .inl ⟨h1,h3⟩
    | succ i=>exact .inr ⟨i,b,by omega,by simpa using h2,h3⟩
   ·rintro (⟨h1,h2⟩ | ⟨i,b,h1,h2,h3⟩)
    ·exact ⟨0,a,by omega,rfl,h2⟩
    ·exact ⟨i+1,b,by omega,by simpa using h2,h3⟩
  rw [key,show dH sl k (a :: r)=(bif cf a.d sl then k :: dH sl (k+1) r else dH sl (k+1) r) from rfl]
  cases hm:cf a.d sl
  ·have:a.d ∉ sl:=fun h=>by rw [bJ.2 h] at hm; cases hm
   simp [this]
  ·simp [bJ.1 hm]
def CU (ds:List DV) (ch:List (Nat × Bool)):Prop:=∀ q ∈ ch,∃ a e,ds[q.1]? = some a/\a.v=one (.bool e)/\e.val=q.2
theorem nW {ds:List DV}:∀ {ch:List (Nat × Bool)} {g:BE},JB ds ch=some g->(g.val=true↔CU ds ch)/\∀ q ∈ ch,∃ a e,ds[q.1]? = some a/\a.v=one (.bool e)
 | [],g,h=>by cases h; simp [BE.val,CU]
 | (j,wt) :: r,g,h=>by
  simp only [JB,gb] at h
  split at h
  ·rename_i a g' h1 h2
   split at h
   ·rename_i e he
    cases h
    obtain ⟨ih1,ih2⟩:=nW h2
    have he:=Option.some.inj (dA he)
    refine ⟨?_,fun q hq=>?_⟩
    ·have e1:CU ds ((j,wt) :: r)↔e.val=wt/\CU ds r:=by
      constructor
      ·intro h
       refine ⟨?_,fun q hq=>h q (by simp [hq])⟩
       obtain ⟨a',e',k1,k2,k3⟩:=h (j,wt) (by simp)
       simp only at k1 k3
       rw [h1] at k1; cases k1
       rw [he] at k2
       cases k2
       exact k3
      ·rintro ⟨k1,k2⟩ q hq
       rcases List.mem_cons.1 hq with rfl | hq
       ·exact ⟨a,e,h1,he,k1⟩
       ·exact k2 q hq
     rw [e1,<- ih1]
     cases wt <;> simp [BE.val]
    ·rcases List.mem_cons.1 hq with rfl | hq
     ·exact ⟨a,e,h1,he⟩
     ·exact ih2 q hq
   ·cases h
  ·cases h
theorem si {ds:List DV} {i j:Nat} {a:DV} (h:(ds.take i)[j]? = some a):ds[j]? = some a/\j<i:=by
 rw [List.getElem?_take] at h
 split at h
 ·exact ⟨h,‹_›⟩
 ·cases h
theorem vx {ds:List DV} {i:Nat}:∀ {ch:List (Nat × Bool)} {g:BE},JB (ds.take i) ch=some g->JB ds ch=some g
 | [],g,h=>h
 | (j,wt) :: r,g,h=>by
  simp only [JB,gb] at h ⊢
  split at h
  ·rename_i a g' h1 h2
   rw [(si h1).1,vx h2]
   exact h
  ·cases h
theorem qO:∀ {x y:List (Nat × Bool)},nc x y=true->∀ q ∈ x,q ∈ y
 | [],_,_,q,hq=>by simp at hq
 | (i,a) :: r,(j,b) :: l,h,q,hq=>by
  simp only [nc,Bool.and_eq_true,beq_iff_eq] at h
  have h1:=Nat.eq_of_beq_eq_true h.1.1
  rcases List.mem_cons.1 hq with rfl | hq
  ·rw [h1,h.1.2]; simp
  ·exact List.mem_cons_of_mem _ (qO h.2 q hq)
 | _ :: _,[],h,_,_=>by cases h
theorem rU {ds:List DV} {x y:List (Nat × Bool)} (h:nc x y=true) (k:CU ds y):CU ds x:=fun q hq=>k q (qO h q hq)
theorem qQ (g:BE):(uI g).val=g.val:=by fun_induction uI g <;> simp_all [BE.val]
theorem xq {e:BE} {ob:List Prop} (h:∀ p ∈ jM e ob,p) (he:e.val=true):∀ p ∈ ob,p:=by
 unfold jM at h
 split at h
 ·simp
 ·split at h
  ·exact h
  ·exact dO.1 (dy h ((BE.eD e true).2 he))
theorem oM {e:BE} {ob:List Prop} (h:e.val=true->∀ p ∈ ob,p):∀ p ∈ jM e ob,p:=by
 unfold jM
 split
 ·simp
 ·split
  ·exact h rfl
  ·intro q hq
   rw [List.mem_singleton.1 hq]
   exact fun he=>dO.2 (h ((BE.eD e true).1 he))
section
variable {P:Program} {T:List (Nat × TI)} {G:Gl} {O:cO} {n k:Nat} {l:List Oper} {ρ:List RE} {H:AH} {fr:AFr} {F:Fr} {ds:List DV} {vs:Nat->Value}
def DVal (G:Gl) (ρ:List RE) (ds:List DV) (a:DV) (u:Value) (w:World):Prop:=(∀ p ∈ a.fc,p)/\(CU ds a.ch->Rt (cx G ρ w) ρ a.v u)/\(¬ CU ds a.ch->u=undef)
theorem DVal.kp {a:DV} {u:Value} {w w':World} (h:DVal G ρ ds a u w) (k:Kp [] w w'):DVal G ρ ds a u w':=⟨h.1,fun hc=>(h.2.1 hc).carry (Ext.kp k).le (iM.refl _),h.2.2⟩
theorem vm {vs:Nat->Value} {t jc:Nat} (ht:idst l jc=some t):∀ {deps:List Nat},(∀ j ∈ deps,∃ d,idst l j=some d)->(∀ j ∈ deps,idst l j=some t->j=jc)->jc ∈ deps->look (dp l F vs deps) t=some (vs jc)
 | [],_,_,h=>by simp at h
 | j :: r,h1,h2,h=>by
  obtain ⟨d,hd⟩:=h1 j (by simp)
  simp only [dp,hd]
  rw [bh]
  by_cases hdt:d=t
  ·subst hdt
   rw [if_pos rfl,h2 j (by simp) hd]
  ·rw [if_neg hdt]
   refine vm ht (fun j hj=>h1 j (by simp [hj])) (fun j hj=>h2 j (by simp [hj])) ?_
   rcases List.mem_cons.1 h with rfl | h
   ·rw [hd] at ht; exact absurd (Option.some.inj ht) hdt
   ·exact h
theorem yF {w:World} {p:List DV} (hf:FrR (cx G ρ w) ρ fr F):∀ {deps:List Nat},(∀ j ∈ deps,∃ b,p[j]? = some b/\idst l j=some b.d/\Rt (cx G ρ w) ρ b.v (vs j))->FrR (cx G ρ w) ρ (FH p fr deps) (dp l F vs deps)
 | [],_=>hf
 | j :: r,h=>by
  obtain ⟨b,h1,h2,h3⟩:=h j (by simp)
  simp only [FH,gb,h1,dp,h2]
  exact .cons ⟨rfl,h3⟩ (yF hf fun j hj=>h j (by simp [hj]))
theorem qW {p:List DV} {ch:List (Nat × Bool)}:∀ {deps:List Nat},tq p ch deps=true->∀ j ∈ deps,∃ b,p[j]? = some b/\nc b.ch ch=true
 | [],_,j,hj=>by simp at hj
 | i :: r,h,j,hj=>by
  simp only [tq,gb,Bool.and_eq_true] at h
  rcases List.mem_cons.1 hj with rfl | hj
  ·have h1:=h.1
   split at h1
   ·exact ⟨_,by assumption,h1⟩
   ·cases h1
  ·exact qW h.2 j hj
structure DCtx (G:Gl) (ρ:List RE) (l:List Oper) (ds:List DV) (vs:Nat->Value) (p:List DV) (deps:List Nat) (w:World):Prop where
 pre:∀ (j:Nat) (a:DV),p[j]? = some a->ds[j]? = some a
 dst:∀ (j:Nat) (a:DV),ds[j]? = some a->idst l j=some a.d
 dist:∀ (i j:Nat) (a b:DV),ds[i]? = some a->ds[j]? = some b->a.d=b.d->i=j
 dep:∀ j ∈ deps,∃ a,p[j]? = some a/\DVal G ρ ds a (vs j) w
theorem DCtx.look {p:List DV} {deps:List Nat} {w:World} (h:DCtx G ρ l ds vs p deps w) {j:Nat} (hj:j ∈ deps) {a:DV} (ha:p[j]? = some a):look (dp l F vs deps) a.d=some (vs j):=by
 refine vm (h.dst j a (h.pre j a ha)) (fun i hi=>?_) (fun i hi he=>?_) hj
 ·obtain ⟨b,hb,_⟩:=h.dep i hi
  exact ⟨_,h.dst i b (h.pre i b hb)⟩
 ·obtain ⟨b,hb,_⟩:=h.dep i hi
  have:=h.dst i b (h.pre i b hb)
  rw [he] at this
  exact h.dist i j b a (h.pre i b hb) (h.pre j a ha) (Option.some.inj this).symm
theorem qV {Q:Exit->Act->World->Prop} {p:List DV} {deps:List Nat} {w:World} (h:DCtx G ρ l ds vs p deps w) {gd:Option (Nat × Bool)} {ch:List (Nat × Bool)} {gs:List Nat} {g:BE} (hc:xy p gd=some (ch,gs)) (hgs:∀ (j:Nat) (a:DV),p[j]? = some a->a.d ∈ gs->j ∈ deps) (hg:JB ds ch=some g)
  {d:Nat} {op:Op} {ty:TypeId} {pos:String} {af:Array Edge} (hd:Nat.blt d n=true)
  (on:CU ds ch->WO P Q n l [⟨some d,op,ty,pos,af,none⟩] (dp l F vs deps) w) (off:¬ CU ds ch->WO P Q n l [] ((d,undef) :: dp l F vs deps) w):WO P Q n l [⟨some d,op,ty,pos,af,gd⟩] (dp l F vs deps) w:=by
 cases gd with
 | none=>
  cases hc
  exact on fun q hq=>by simp at hq
 | some q=>
  obtain ⟨j,wt⟩:=q
  simp only [xy,gb] at hc
  split at hc
  ·rename_i a ha
   cases hc
   have hj:=hgs j a ha (by simp)
   have hl:=h.look (F:=F) hj ha
   obtain ⟨a',ha',hv⟩:=h.dep j hj
   rw [ha] at ha'; cases ha'
   obtain ⟨b,e,hb,he⟩:=(nW hg).2 (j,wt) (by simp)
   simp only at hb
   rw [h.pre j a ha] at hb; cases hb
   have hi:=h.dst j a (h.pre j a ha)
   by_cases hch:CU ds a.ch
   ·have hr:=hv.2.1 hch
    rw [he] at hr
    obtain ⟨bv,hbv⟩:∃ bv,vs j = .bool bv/\bv=e.val:=by
     have hr:Pd (cx G ρ w) (.bool e) (vs j):=hr
     generalize vs j=u at hr
     cases hr
     exact ⟨_,rfl,rfl⟩
    obtain ⟨hbv,rfl⟩:=hbv
    rw [hbv] at hl
    by_cases hw:e.val=wt
    ·exact WO.on hi hl hw (on fun q hq=>by
      rcases List.mem_append.1 hq with hq | hq
      ·exact hch q hq
      ·rw [List.mem_singleton.1 hq]
       exact ⟨a,e,h.pre j a ha,he,hw⟩)
    ·refine WO.off hi hl (by revert hw; cases e.val <;> cases wt <;> simp) hd (off fun hc=>?_)
     obtain ⟨b,e',k1,k2,k3⟩:=hc (j,wt) (by simp)
     simp only at k1 k3
     rw [h.pre j a ha] at k1; cases k1
     rw [he] at k2; cases k2
     exact hw k3
   ·have hu:=hv.2.2 hch
    rw [hu] at hl
    exact WO.Sk hi hl hd (off fun hc=>hch fun q hq=>hc q (by simp [hq]))
  ·cases hc
theorem It {x:Operand} {v:Value} (h:ev [] x=some v):ev F x=some v:=by
 cases x with
 | tmp i=>cases h
 | _=>exact h
theorem Eo {p:List DV} {deps:List Nat} {w:World} (h:DCtx G ρ l ds vs p deps w) {ch:List (Nat × Bool)} (hch:CU ds ch) {t:Nat} {x y:Operand} {v:BE} (hp:EO p ch t x y=some v) (hdep:∀ (j:Nat) (a:DV),p[j]? = some a->a.d=t\/a.d ∈ Operand.sl x\/a.d ∈ Operand.sl y->j ∈ deps) {ty:TypeId} :
  ba P n (dp l F vs deps) w (.pick (.tmp t) x y) ty (.bool v.val) w:=by
 unfold EO at hp
 split at hp
 ·rename_i jc hjc
  split at hp
  ·rename_i c hc
   rw [gb] at hc
   split at hp
   ·rename_i e he hpre
    split at hp
    ·rename_i jx hjx
     split at hp
     ·rename_i a ha
      rw [gb] at ha
      split at hp
      ·rename_i hpa
       have hct:c.d=t:=by
        obtain ⟨i,b,k1,k2,k3⟩:=ep.1 (show jc ∈ dH [t] 0 p by rw [hjc]; simp)
        rw [Nat.zero_add] at k1; subst k1
        rw [hc] at k2; cases k2
        simpa using k3
       have hjd:=hdep jc c hc (.inl hct)
       have hl:=h.look (F:=F) hjd hc
       rw [hct] at hl
       have he:=Option.some.inj (dA he)
       have hlb:look (dp l F vs deps) t=some (.bool e.val):=by
        obtain ⟨c',hc',hv⟩:=h.dep jc hjd
        rw [hc] at hc'; cases hc'
        have hr:=hv.2.1 (rU hpre hch)
        rw [he] at hr
        have hr:Pd (cx G ρ w) (.bool e) (vs jc):=hr
        rw [hl]
        generalize vs jc=u at hr
        cases hr
        rfl
       -- the side that was walked
       have hon:e.val=iD x->∀ z,nJ (some a.v)=some z->ev (dp l F vs deps) (cond (iD x) x y)=some (.bool z.val):=by
        intro hw z hz
        have hz:=Option.some.inj (dA hz)
        have hmem:=ep.1 (show jx ∈ dH (Operand.sl (cond (iD x) x y)) 0 p by rw [hjx]; simp)
        obtain ⟨i,b,k1,k2,k3⟩:=hmem
        rw [Nat.zero_add] at k1; subst k1
        rw [ha] at k2; cases k2
        have hjd2:=hdep jx a ha (.inr (by
         cases hx:iD x <;> rw [hx] at k3
         ·exact .inr k3
         ·exact .inl k3))
        obtain ⟨a',ha',hv⟩:=h.dep jx hjd2
        rw [ha] at ha'; cases ha'
        have hr:=hv.2.1 (rU hpa fun q hq=>by
         rcases List.mem_append.1 hq with hq | hq
         ·exact hch q hq
         ·rw [List.mem_singleton.1 hq]
          exact ⟨c,e,h.pre jc c hc,he,hw⟩)
        rw [hz] at hr
        have hr:Pd (cx G ρ w) (.bool z) (vs jx):=hr
        have hl2:=h.look (F:=F) hjd2 ha
        generalize cond (iD x) x y=o at k3 ⊢
        cases o <;> simp only [Operand.sl,List.mem_singleton,List.not_mem_nil] at k3
        rw [<- k3]
        show look _ a.d=_
        rw [hl2]
        generalize vs jx=u at hr
        cases hr
        rfl
       have hoff:∀ z,nJ (dW [] (cond (iD x) y x))=some z->ev (dp l F vs deps) (cond (iD x) y x)=some (.bool z.val):=by
        intro z hz
        obtain ⟨u,k1,k2⟩:=aP (c:=cx G ρ w) (ρ:=ρ) (fr:=[]) (F:=[]) .nil (dA hz)
        have k2:Pd (cx G ρ w) (.bool z) u:=k2
        cases k2
        exact It k1
       unfold zl at hp
       cases hx:iD x <;> rw [hx] at hp hon hoff <;> simp only [cond_true,cond_false] at hon hoff hp
       ·split at hp
        ·contradiction
        ·rename_i z _ hz hz2
         cases hp
         cases hev:e.val with
         | false=>rw [show (BE.or e z).val=z.val by simp [BE.val,hev]]; exact R.uZ (hev ▸ hlb) rfl (hon hev z hz)
         | true=>rw [show (BE.or e z).val=true by simp [BE.val,hev]]; exact R.uQ (hev ▸ hlb) rfl (hoff _ hz2)
        ·cases hp
       ·split at hp
        ·rename_i z _ hz hz2
         cases hp
         cases hev:e.val with
         | true=>rw [show (BE.and e z).val=z.val by simp [BE.val,hev]]; exact R.uQ (hev ▸ hlb) rfl (hon hev z hz)
         | false=>rw [show (BE.and e z).val=false by simp [BE.val,hev]]; exact R.uZ (hev ▸ hlb) rfl (hoff _ hz2)
        ·contradiction
        ·cases hp
      ·cases hp
     ·cases hp
    ·cases hp
   ·cases hp
  ·cases hp
 ·cases hp
theorem K_ (hT:bO P G.shp T) (hO:aW P G.shp O) {p:List DV} {o:Oper} {a:DV} (hs:oY T O H fr p o=some a) {w:World} (h:DCtx G ρ l ds vs p a.deps w) (hpg:∀ ch g,JB p ch=some g->JB ds ch=some g) (hob:∀ q ∈ a.ob,q) (hd:∀ d,o.dst=some d->Nat.blt d n=true) (hR:Rep G ρ H w) (hf:FrR (cx G ρ w) ρ fr F) :
  o.dst=some a.d/\WO P (ng n (some a.d) [] (DVal G ρ ds a) w) n l [o] (dp l F vs a.deps) w:=by
 obtain ⟨dst,op,ty,pos,af,gd⟩:=o
 unfold oY at hs
 split at hs
 ·rename_i d ch gs hdst hch
  simp only at hdst hch
  subst hdst
  split at hs
  ·rename_i g hg
   have hg':=hpg _ _ hg
   have hdn:=hd d rfl
   split at hs
   ·-- a pick
    rename_i t x y hop
    simp only at hop
    subst hop
    split at hs
    ·rename_i v hv
     cases hs
     refine ⟨rfl,qV h hch (fun j b hj hb=>ep.2 ⟨j,b,by simp,hj,by simp [hb]⟩) hg' hdn (fun hc=>?_) (fun hc=>?_)⟩
     ·refine WO.v (Eo h hc hv fun j b hj hb=>ep.2 ⟨j,b,by simp,hj,?_⟩) hdn (WO.nil (WX.aV (v:=.bool v.val) (by rw [bh,if_pos rfl]) ⟨by simp,fun _=>Pd.bool,fun h=>absurd hc h⟩ (Kp.refl w)))
      simp only [xT,Operand.sl,List.mem_append,List.mem_singleton]
      rcases hb with hb | hb | hb
      ·exact .inl (.inl (.inl hb))
      ·exact .inl (.inl (.inr hb))
      ·exact .inl (.inr hb)
     ·exact WO.nil (WX.aV (v:=undef) (by rw [bh,if_pos rfl]) ⟨by simp,fun h=>absurd h hc,fun _=>rfl⟩ (Kp.refl w))
    ·cases hs
   ·split at hs
    ·rename_i r hall hpv
     cases hs
     refine ⟨rfl,qV h hch (fun j b hj hb=>ep.2 ⟨j,b,by simp,hj,by simp [hb]⟩) hg' hdn (fun hc=>?_) (fun hc=>?_)⟩
     ·have hgv:=(nW hg').1.2 hc
      have hfr:=yF (l:=l) (vs:=vs) (F:=F) hf (p:=p) (deps:=dH (xT op++gs) 0 p) fun j hj=>by
       obtain ⟨b,hb,hpre⟩:=qW hall j hj
       obtain ⟨b',hb',hv⟩:=h.dep j hj
       rw [hb] at hb'; cases hb'
       exact ⟨b,hb,h.dst j b (h.pre j b hb),hv.2.1 (rU hpre hc)⟩
      refine WO.y (oX (ty:=ty) hT hO hR hfr hpv (xq hob (by rw [qQ]; exact hgv))) hd fun v w' ⟨hk,hv,hfc⟩=>?_
      exact WO.nil (WX.aV (v:=v) (by simp only [gR]; rw [bh,if_pos rfl]) ⟨oM fun _=>hfc,fun _=>hv,fun h=>absurd hc h⟩ hk)
     ·refine WO.nil (WX.aV (v:=undef) (by rw [bh,if_pos rfl]) ⟨oM fun he=>?_,fun h=>absurd h hc,fun _=>rfl⟩ (Kp.refl w))
      rw [qQ] at he
      exact absurd ((nW hg').1.1 he) hc
    ·cases hs
  ·cases hs
 ·cases hs
end
theorem cG {a:List Nat}:∀ {l:List Nat},disj a l=true↔∀ i ∈ l,i ∉ a
 | []=>by simp [disj]
 | j :: r=>by simp only [disj,Bool.and_eq_true,cG,List.forall_mem_cons,Bool.not_eq_true',<- Bool.not_eq_true,bJ]
theorem fB {n:Nat}:∀ {l:List Nat},lM n l=true↔∀ i ∈ l,i<n
 | []=>by simp [lM]
 | j :: r=>by
  have:Nat.blt j n=true↔j<n:=by rw [Nat.blt_eq]
  simp [lM,fB,this]
theorem lT {σ:List Nat}:∀ {H:AH} {k p:Nat},(maskH σ k H)[p]? = (H[p]?).map fun o=>if k+p ∈ σ then o else .loc
 | [],_,_=>by simp [maskH]
 | o :: r,k,0=>by
  simp only [maskH,List.getElem?_cons_zero,Option.map_some,Nat.add_zero]
  cases h:cf k σ with
  | true=>rw [if_pos (bJ.1 h)]; rfl
  | false=>rw [if_neg fun hm=>by rw [bJ.2 hm] at h; cases h]; rfl
 | o :: r,k,p+1=>by
  simp only [maskH,List.getElem?_cons_succ,lT,Nat.add_right_comm]
  rw [Nat.add_assoc]
theorem mY {σ:List Nat}:∀ {H:AH} {k:Nat},(maskH σ k H).length=H.length
 | [],_=>rfl
 | _ :: r,k=>by simp [maskH,mY (H:=r)]
def RC.obj (r:RC) (p:Nat) (o:AO):AO:=if p ∈ r.ch then (match r.ent with
 | some e=>e.put o
 | none=>getO r.res p) else killO r.mv o
theorem qU {r:RC}:∀ {H:AH} {k p:Nat},(jy r.ch r.mv r.ent r.res k H)[p]? = (H[p]?).map (r.obj (k+p))
 | [],_,_=>by simp [jy]
 | o :: l,k,0=>by
  simp only [jy,List.getElem?_cons_zero,Option.map_some,Nat.add_zero,RC.obj]
  cases h:cf k r.ch with
  | true=>rw [if_pos (bJ.1 h)]; cases r.ent <;> rfl
  | false=>rw [if_neg fun hm=>by rw [bJ.2 hm] at h; cases h]; rfl
 | o :: l,k,p+1=>by
  simp only [jy,List.getElem?_cons_succ,qU]
  rw [Nat.add_assoc,Nat.add_comm 1 p]
theorem fI {ch mv:List Nat} {e:Option Ent} {res:AH}:∀ {H:AH} {k:Nat},(jy ch mv e res k H).length=H.length
 | [],_=>rfl
 | _ :: r,k=>by simp [jy,fI (H:=r)]
def killTV (mv:List Nat) (v:TV):TV:=match mv with
 | []=>v
 | _ :: _=>v.mapA (AV.cn mv)
theorem oO {g:AV->AV} {t:Nat}:∀ {fr:AFr},lookA (iE g fr) t=(lookA fr t).map (TV.mapA g)
 | []=>rfl
 | (i,v) :: r=>by
  simp only [iE,lookA]
  cases Nat.beq i t
  ·exact oO
  ·rfl
theorem xf {mv:List Nat} {fr:AFr} {t:Nat}:lookA (Jk mv fr) t=(lookA fr t).map (killTV mv):=by
 cases mv with
 | nil=>cases h:lookA fr t <;> simp [Jk,killTV,h]
 | cons a r=>exact oO
theorem CG {d:Option Nat} {v:TV} {fr:AFr} {t:Nat}:lookA (nG d v fr) t=if d=some t then some v else lookA fr t:=by
 cases d with
 | none=>simp [nG]
 | some d=>simp only [nG,dk,Option.some.injEq]
structure RC.Fit (r:RC):Prop where
 base:r.base=r.H0.length
 le:r.base<=r.res.length
theorem ct {r:RC} {q:AFr × AH} (h:r.Fit) (hq:q.2.length=r.base):(r.app q).2.length=r.res.length:=by
 have:=h.le
 simp only [RC.app,List.length_append,fI,List.length_drop]; omega
theorem fp {r:RC} {q:AFr × AH} (h:r.Fit) (hq:q.2.length=r.base) {p:Nat}:(r.app q).2[p]? = if p<r.base then (q.2[p]?).map (r.obj p) else r.res[p]?:=by
 have:=h.le
 simp only [RC.app]
 by_cases hp:p<r.base
 ·rw [if_pos hp,List.getElem?_append_left (by rw [fI]; omega),qU,Nat.zero_add]
 ·rw [if_neg hp,List.getElem?_append_right (by rw [fI]; omega),fI,List.getElem?_drop]
  congr 1; omega
theorem fG {r:RC} {q:AFr × AH} {t:Nat}:lookA (r.app q).1 t=if r.dst=some t then some r.v else (lookA q.1 t).map (killTV r.mv):=by
 simp only [RC.app,CG,xf]
def RC.Cg (r:RC) (q:AFr × AH):AFr × AH:=(q.1,q.2++List.replicate (r.res.length - r.base) .gone)
theorem fu {r:RC} {q:AFr × AH} (h:r.Fit) (hq:q.2.length=r.base):(r.Cg q).2.length=r.res.length:=by
 have:=h.le
 simp only [RC.Cg,List.length_append,List.length_replicate]; omega
theorem fQ {r:RC} {q:AFr × AH} (h:r.Fit) (hq:q.2.length=r.base) {p:Nat}:(r.Cg q).2[p]? = if p<r.base then q.2[p]? else if p<r.res.length then some .gone else none:=by
 have:=h.le
 simp only [RC.Cg]
 by_cases hp:p<r.base
 ·rw [if_pos hp,List.getElem?_append_left (by omega)]
 ·rw [if_neg hp,List.getElem?_append_right (by omega),List.getElem?_replicate]
  by_cases h2:p<r.res.length
  ·rw [if_pos h2,if_pos (by omega)]
  ·rw [if_neg h2,if_neg (by omega)]
def gk (s:Nat->Bool):Nat->List RC->AFr × AH->AFr × AH
 | _,[],q=>q
 | i,r :: rs,q=>gk s (i+1) rs (bif s i then r.app q else r.Cg q)
def prg:List RC->AFr × AH->AFr × AH
 | [],q=>q
 | r :: rs,q=>prg rs (r.app q)
def eS:AFr × AH->List RC->Prop
 | _,[]=>True
 | q,r :: rs=>r.fr0=q.1/\r.H0=q.2/\r.Fit/\eS (r.app q) rs
theorem yW {s:Nat->Bool}:∀ {a b:List RC} {k:Nat} {q:AFr × AH},gk s k (a++b) q=gk s (k+a.length) b (gk s k a q)
 | [],_,_,_=>by simp [gk]
 | r :: a,b,k,q=>by
  simp only [List.cons_append,gk,yW (a:=a),List.length_cons]
  congr 1; omega
theorem mR {s s':Nat->Bool}:∀ {rs:List RC} {k:Nat} {q:AFr × AH},(∀ i,k<=i->i<k+rs.length->s i=s' i)->gk s k rs q=gk s' k rs q
 | [],_,_,_=>rfl
 | r :: rs,k,q,h=>by
  simp only [gk]
  rw [h k (Nat.le_refl _) (by simp)]
  exact mR fun i h1 h2=>h i aG (by simp at h2 ⊢; omega)
theorem r_ {s:Nat->Bool}:∀ {rs:List RC} {k:Nat} {q p:AFr × AH},eS p rs->q.2.length=p.2.length->(gk s k rs q).2.length=(prg rs p).2.length
 | [],_,_,_,_,h=>h
 | r :: rs,k,q,p,hc,h=>by
  obtain ⟨_,h2,h3,h4⟩:=hc
  have hb:=h3.base
  rw [h2] at hb
  simp only [gk,prg]
  refine r_ h4 ?_
  cases s k
  ·exact (fu h3 aG).trans (ct h3 hb.symm).symm
  ·exact (ct h3 aG).trans (ct h3 hb.symm).symm
theorem xj:∀ {rs:List RC} {p:AFr × AH},eS p rs->p.2.length<=(prg rs p).2.length
 | [],_,_=>Nat.le_refl _
 | r :: rs,p,hc=>by
  obtain ⟨_,h2,h3,h4⟩:=hc
  have hb:=h3.base
  rw [h2] at hb
  have:=xj h4
  rw [ct h3 hb.symm] at this
  have:=h3.le
  simp only [prg]; omega
theorem eS.Jl:∀ {a b:List RC} {p:AFr × AH},eS p (a++b)↔eS p a/\eS (prg a p) b
 | [],b,p=>by simp [eS,prg]
 | r :: a,b,p=>by simp only [List.cons_append,eS,prg,eS.Jl (a:=a),and_assoc]
theorem sG:∀ {a b:List RC} {p:AFr × AH},prg (a++b) p=prg b (prg a p)
 | [],_,_=>rfl
 | r :: a,b,p=>by simp only [List.cons_append,prg,sG (a:=a)]
theorem fi {mv:List Nat} {a:AV} (h:∀ i ∈ a.rids,i ∉ mv):a.cn mv=a:=by
 have key:∀ j,j ∉ mv->cf j mv=false:=fun j hj=>by rw [<- Bool.not_eq_true,bJ]; exact hj
 cases a with
 | own j=>simp [AV.cn,key j (h j (by simp [AV.rids]))]
 | sub j _ _=>simp [AV.cn,key j (h j (by simp [AV.rids]))]
 | elp j _ _=>simp [AV.cn,key j (h j (by simp [AV.rids]))]
 | _=>rfl
theorem gT {i:Nat}:∀ {l:List AV} {a:AV},a ∈ l->i ∈ a.rids->i ∈ pa l
 | [],_,h,_=>by simp at h
 | b :: r,a,h,hi=>by
  simp only [pa,List.mem_append]
  rcases List.mem_cons.1 h with rfl | h
  ·exact .inl hi
  ·exact .inr (gT h hi)
theorem nZ {g:AV->AV}:∀ {l:List AV},(∀ a ∈ l,g a=a)->px g l=l
 | [],_=>rfl
 | a :: r,h=>by simp only [px]; rw [h a (by simp),nZ fun b hb=>h b (by simp [hb])]
theorem pU {g:AV->AV} {t:TV1} (h:∀ a ∈ t.cells,g a=a):t.mapA g=t:=by
 cases t with
 | c a=>simp only [TV1.mapA]; rw [h a (by simp [TV1.cells])]
 | agg l=>exact congrArg TV1.agg (nZ h)
theorem qz {i:Nat}:∀ {l:List TV1} {t:TV1} {a:AV},t ∈ l->a ∈ t.cells->i ∈ a.rids->i ∈ zZ l
 | [],_,_,h,_,_=>by simp at h
 | b :: r,t,a,h,ha,hi=>by
  simp only [zZ,List.mem_append]
  rcases List.mem_cons.1 h with rfl | h
  ·exact .inl (gT ha hi)
  ·exact .inr (qz h ha hi)
theorem rP {g:AV->AV}:∀ {l:List TV1},(∀ t ∈ l,∀ a ∈ t.cells,g a=a)->rG g l=l
 | [],_=>rfl
 | a :: r,h=>by simp only [rG]; rw [pU (h a (by simp)),rP fun b hb=>h b (by simp [hb])]
theorem mX {mv:List Nat} {v:TV} (h:disj mv v.rids=true):killTV mv v=v:=by
 have h:=cG.1 h
 cases mv with
 | nil=>rfl
 | cons m r=>
  cases v with
  | one t=>exact congrArg TV.one (pU fun a ha=>fi fun i hi=>h i (gT ha hi))
  | tup l=>exact congrArg TV.tup (rP fun t ht a ha=>fi fun i hi=>h i (qz ht ha hi))
  | un=>rfl
theorem lp {mv:List Nat} {o:AO} (h:disj mv o.rids=true):killO mv o=o:=by
 have h:=cG.1 h
 cases mv with
 | nil=>rfl
 | cons m r=>
  cases o with
  | box t cs=>exact congrArg (AO.box t) (nZ fun a ha=>fi fun i hi=>h i (gT ha hi))
  | mapf l=>
   show AO.mapf (mapM _ l)=_
   rw [nR]
   congr 1
   refine (List.map_congr_left fun q hq=>?_).trans (List.map_id _)
   have e:=fi (mv:=m :: r) (a:=q.2) fun i hi=>h i (gT (List.mem_map_of_mem hq) hi)
   show (q.1,AV.cn (m :: r) q.2)=q
   rw [e]
  | _=>rfl
theorem pF {a b:List Nat} {x:AV}:(x.cn a).cn b=(x.cn b).cn a:=by
 cases x with
 | own j=>cases h1:cf j a <;> cases h2:cf j b <;> simp [AV.cn,h1,h2]
 | sub j _ _=>cases h1:cf j a <;> cases h2:cf j b <;> simp [AV.cn,h1,h2]
 | elp j _ _=>cases h1:cf j a <;> cases h2:cf j b <;> simp [AV.cn,h1,h2]
 | _=>rfl
theorem mG {g h:AV->AV}:∀ {l:List AV},px g (px h l)=px (fun a=>g (h a)) l
 | []=>rfl
 | a :: r=>by simp [px,mG (l:=r)]
theorem oS {g h:AV->AV} {t:TV1}:(t.mapA h).mapA g=t.mapA fun a=>g (h a):=by
 cases t with
 | c a=>rfl
 | agg l=>simp [TV1.mapA,mG]
theorem rb {g h:AV->AV}:∀ {l:List TV1},rG g (rG h l)=rG (fun a=>g (h a)) l
 | []=>rfl
 | a :: r=>by simp [rG,oS,rb (l:=r)]
theorem tY {a b:List Nat} {v:TV}:killTV b (killTV a v)=killTV a (killTV b v):=by
 cases a with
 | nil=>rfl
 | cons x r=>
  cases b with
  | nil=>rfl
  | cons y q=>
   have e:(fun z:AV=>(z.cn (x :: r)).cn (y :: q))=fun z=>(z.cn (y :: q)).cn (x :: r):=funext fun z=>pF
   cases v with
   | one t=>simp only [killTV,TV.mapA,oS,e]
   | tup l=>simp only [killTV,TV.mapA,rb,e]
   | un=>rfl
theorem Ce {g h:AV->AV} {l:List (Int × AV)}:mapM g (mapM h l)=mapM (fun a=>g (h a)) l:=by
 induction l with
 | nil=>rfl
 | cons q r ih=>obtain ⟨k,a⟩:=q; simp [mapM,ih]
theorem ym {a b:List Nat} {o:AO}:killO b (killO a o)=killO a (killO b o):=by
 cases a with
 | nil=>rfl
 | cons x r=>
  cases b with
  | nil=>rfl
  | cons y q=>
   have e:(fun z:AV=>(z.cn (x :: r)).cn (y :: q))=fun z=>(z.cn (y :: q)).cn (x :: r):=funext fun z=>pF
   cases o with
   | box t cs=>simp only [killO,AO.mapA,mG,e]
   | mapf l=>simp only [killO,AO.mapA,Ce,e]
   | _=>rfl
theorem oJ {a:List Nat}:killO a .gone = .gone:=by cases a <;> rfl
inductive AOq:AO->AO->Prop
 | rfl {o:AO}:AOq o o
 | map {l l':List (Int × AV)}:(∀ k,lookF k l=lookF k l')->AOq (.mapf l) (.mapf l')
theorem AOq.or {c:Cx} {ρ:List RE} {o o':AO} {r:RE} (h:AOq o o') (k:OR c ρ o r):OR c ρ o' r:=by
 cases h with
 | rfl=>exact k
 | map hl=>
  obtain ⟨g,e,a,n,h1,h2,h3⟩:=k
  exact ⟨g,e,a,n,h1,h2,fun k=>by rw [<- hl]; exact h3 k⟩
theorem AOq.trans {a b c:AO} (h:AOq a b) (k:AOq b c):AOq a c:=by
 cases h with
 | rfl=>exact k
 | map h=>
  cases k with
  | rfl=>exact .map h
  | map k=>exact .map fun x=>(h x).trans (k x)
theorem AOq.symm {a b:AO} (h:AOq a b):AOq b a:=by
 cases h with
 | rfl=>exact .rfl
 | map h=>exact .map fun x=>(h x).symm
theorem mW {g:AV->AV} {k:Int}:∀ {l:List (Int × AV)},lookF k (mapM g l)=(lookF k l).map g
 | []=>rfl
 | (j,a) :: r=>by
  simp only [mapM,lookF]
  by_cases h:k=j
  ·rw [if_pos h,if_pos h]; rfl
  ·rw [if_neg h,if_neg h]; exact mW
theorem AOq.kill {mv:List Nat} {o o':AO} (h:AOq o o'):AOq (killO mv o) (killO mv o'):=by
 cases h with
 | rfl=>exact .rfl
 | map h=>
  cases mv with
  | nil=>exact .map h
  | cons a r=>exact .map fun k=>by rw [mW,mW,h]
theorem AOq.put {e:Ent} {o o':AO} (h:AOq o o'):AOq (e.put o) (e.put o'):=by
 cases h with
 | rfl=>exact .rfl
 | map h=>
  cases e with
  | fn k a=>exact .map fun j=>by simp only [lookF,h]
  | da s k x=>exact .map h
theorem GA {j k:Int} {b:AV} {s:Sh} {x:den s} {o:AO}:(Ent.fn j b).put ((Ent.da s k x).put o)=(Ent.da s k x).put ((Ent.fn j b).put o):=by
 cases o with
 | mapo s' g=>
  by_cases h:s' = s
  ·subst h; simp only [Ent.put,dif_pos]
  ·simp only [Ent.put,dif_neg h]
 | _=>rfl
theorem put_comm {e f:Ent} {o:AO} (h:e.key≠f.key):AOq (f.put (e.put o)) (e.put (f.put o)):=by
 cases e with
 | fn k a=>
  cases f with
  | fn j b=>
   cases o with
   | mapf l=>
    refine .map fun i=>?_
    simp only [lookF]
    have h:k≠j:=h
    by_cases h1:i=j
    ·rw [if_pos h1,if_neg (show ¬ i=k by omega),if_pos h1]
    ·rw [if_neg h1]
     by_cases h2:i=k
     ·rw [if_pos h2,if_pos h2]
     ·rw [if_neg h2,if_neg h2,if_neg h1]
   | _=>exact .rfl
  | da s j x=>rw [GA]; exact .rfl
 | da s k x=>
  cases f with
  | fn j b=>rw [GA]; exact .rfl
  | da s2 j y=>
   cases o with
   | mapo s' g=>
    by_cases h1:s' = s
    ·by_cases h2:s' = s2
     ·subst h1; subst h2
      simp only [Ent.put,dif_pos]
      have e2:(fun i=>if i=j then some y else if i=k then some x else g i)=fun i=>if i=k then some x else if i=j then some y else g i:=by
       funext i
       have h:k≠j:=h
       by_cases h1:i=j
       ·rw [if_pos h1,if_neg (show ¬ i=k by omega),if_pos h1]
       ·rw [if_neg h1]
        by_cases h2:i=k
        ·rw [if_pos h2,if_pos h2]
        ·rw [if_neg h2,if_neg h2,if_neg h1]
      rw [e2]
      exact .rfl
     ·subst h1
      simp only [Ent.put,dif_pos,dif_neg h2]
      exact .rfl
    ·by_cases h2:s' = s2
     ·subst h2
      simp only [Ent.put,dif_neg h1,dif_pos]
      exact .rfl
     ·simp only [Ent.put,dif_neg h1,dif_neg h2]
      exact .rfl
   | _=>exact .rfl
theorem wJ {e:Ent} {mv:List Nat} {o:AO} (h:∀ k a,e = .fn k a->disj mv a.rids=true):killO mv (e.put o)=e.put (killO mv o):=by
 cases mv with
 | nil=>rfl
 | cons m r=>
  cases e with
  | fn k a=>
   cases o with
   | mapf l=>
    have:=fi (mv:=m :: r) (a:=a) (cG.1 (h k a rfl))
    simp only [killO,Ent.put,AO.mapA,mapM,this]
   | _=>rfl
  | da s k x=>
   cases o with
   | mapo s' g=>
    by_cases h:s' = s
    ·subst h; simp only [Ent.put,dif_pos,killO,AO.mapA]
    ·simp only [Ent.put,dif_neg h,killO,AO.mapA]
   | _=>rfl
def kd:AO->Option (Option Sh)
 | .mapf _=>some none
 | .mapo s _=>some (some s)
 | _=>none
theorem sB {e:Ent} {o:AO}:kd (e.put o)=kd o:=by
 cases e with
 | fn k a=>cases o <;> rfl
 | da s k x=>
  cases o with
  | mapo s' g=>
   simp only [Ent.put]
   split
   ·rename_i h; subst h; rfl
   ·rfl
  | _=>rfl
theorem nT {mv:List Nat} {o:AO}:kd (killO mv o)=kd o:=by cases mv <;> cases o <;> rfl
theorem uF {mv:List Nat}:∀ {H:AH} {k p:Nat} {o:AO},H[p]? = some o->k+p ∉ Cz mv k H->disj mv o.rids=true
 | [],_,_,_,h,_=>by simp at h
 | x :: r,k,0,o,h,hn=>by
  simp at h; subst h
  simp only [Cz] at hn
  cases hd:disj mv x.rids with
  | true=>rfl
  | false=>rw [hd] at hn; simp at hn
 | x :: r,k,p+1,o,h,hn=>by
  refine uF (H:=r) (k:=k+1) (p:=p) (by simpa using h) fun hm=>hn ?_
  simp only [Cz]
  have e:k+1+p=k+(p+1):=by omega
  rw [e] at hm
  cases disj mv x.rids
  ·exact List.mem_cons_of_mem _ hm
  ·exact hm
theorem wz {mv:List Nat}:∀ {fr:AFr} {t:Nat} {v:TV},lookA fr t=some v->t ∉ FN mv fr->disj mv v.rids=true
 | [],_,_,h,_=>by cases h
 | (i,x) :: r,t,v,h,hn=>by
  rw [dk] at h
  simp only [FN] at hn
  by_cases hi:i=t
  ·rw [if_pos hi] at h; cases h
   cases hd:disj mv x.rids with
   | true=>rfl
   | false=>rw [hd] at hn; simp [hi] at hn
  ·rw [if_neg hi] at h
   refine wz h fun hm=>hn ?_
   cases disj mv x.rids
   ·exact List.mem_cons_of_mem _ hm
   ·exact hm
theorem ly {fr:AFr} {i t:Nat} {v:TV} (hv:lookA fr t=some v) (hi:i ∈ v.rids):∀ {U:List Nat},t ∈ U->i ∈ lj fr U
 | [],h=>by simp at h
 | u :: r,h=>by
  simp only [lj,List.mem_append]
  rcases List.mem_cons.1 h with rfl | h
  ·left; rw [hv]; exact hi
  ·exact .inr (ly hv hi h)
theorem nh {fr:AFr} {i t:Nat} {v:TV} (hv:lookA fr t=some v) (hi:i ∈ v.ids):∀ {U:List Nat},t ∈ U->i ∈ slotIds fr U
 | [],h=>by simp at h
 | u :: r,h=>by
  simp only [slotIds,List.mem_append]
  rcases List.mem_cons.1 h with rfl | h
  ·left; rw [hv]; exact hi
  ·exact .inr (nh hv hi h)
theorem gf {H:AH} {i p:Nat} (hi:i ∈ (getO H p).rids):∀ {l:List Nat},p ∈ l->i ∈ jJ H l
 | [],h=>by simp at h
 | u :: r,h=>by
  simp only [jJ,List.mem_append]
  rcases List.mem_cons.1 h with rfl | h
  ·exact .inl hi
  ·exact .inr (gf hi h)
theorem qc {H:AH} {i p:Nat} (hi:i ∈ (getO H p).ids):∀ {l:List Nat},p ∈ l->i ∈ objIds H l
 | [],h=>by simp at h
 | u :: r,h=>by
  simp only [objIds,List.mem_append]
  rcases List.mem_cons.1 h with rfl | h
  ·exact .inl hi
  ·exact .inr (qc hi h)
theorem lC {r:RC} (h:r.Fit) {p:Nat}:p ∈ r.new↔r.base<=p/\p<r.res.length:=by
 have:=h.le
 rw [RC.new,HG]; omega
theorem ft {H:AH} {p:Nat} {o:AO} (h:H[p]? = some o):getO H p=o:=by unfold getO; rw [List.getD_eq_getElem?_getD,h]; rfl
structure OkD (a b:RC):Prop where
 dst:∀ d,b.dst=some d->d ∉ a.U
 chσ:∀ p ∈ a.σ,p ∉ b.ch
 chn:∀ p ∈ a.new,p ∉ b.ch
 nσ:∀ p ∈ a.σ,p ∉ b.new
 nch:∀ p ∈ a.ch,p ∉ b.new
 kp:∀ p ∈ a.σ,∀ o,b.H0[p]? = some o->killO b.mv o=o
 ks:∀ t ∈ a.U,∀ v,lookA b.fr0 t=some v->killTV b.mv v=v
 sl:∀ t ∈ a.U,∀ v,lookA a.fr0 t=some v->killTV b.mv v=v
 ob:∀ p ∈ a.σ,killO b.mv (getO a.H0 p)=getO a.H0 p
 v:killTV b.mv a.v=a.v
 rc:∀ p ∈ a.ch,killO b.mv (getO a.res p)=getO a.res p
 rn:∀ p ∈ a.new,killO b.mv (getO a.res p)=getO a.res p
 en:∀ k x,a.ent=some (.fn k x)->disj b.mv x.rids=true
theorem Jo {l:List Nat}:disj [] l=true:=cG.2 fun _ _ h=>by simp at h
theorem kL {mv l l':List Nat} (h:disj mv l=true) (hs:∀ i ∈ l',i ∈ l):disj mv l' = true:=cG.2 fun i hi=>cG.1 h i (hs i hi)
theorem zS {a b:RC} (h:Xp a b=true):OkD a b:=by
 simp only [Xp,Bool.and_eq_true] at h
 obtain ⟨⟨⟨⟨⟨h1,h2⟩,h3⟩,h4⟩,h5⟩,h6⟩:=h
 have hd:∀ d,b.dst=some d->d ∉ a.U:=fun d hd hm=>by
  simp only [hd,NP,bJ.2 hm,Bool.not_true] at h1; cases h1
 refine ⟨hd,cG.1 h2,cG.1 h3,cG.1 h4,cG.1 h5,?_,?_,?_,?_,?_,?_,?_,?_⟩ <;> (cases hmv:b.mv with
  | nil=>intros; first | rfl | exact Jo
  | cons m r=>?_) <;> (rw [hmv] at h6; simp only [Bool.and_eq_true] at h6; obtain ⟨⟨⟨⟨⟨⟨⟨k1,k2⟩,k3⟩,k4⟩,k5⟩,k6⟩,k7⟩,k8⟩:=h6)
 ·intro p hp o ho
  exact lp (uF (k:=0) ho (by rw [Nat.zero_add]; exact cG.1 k1 p hp))
 ·intro t ht v hv
  exact mX (wz hv (cG.1 k2 t ht))
 ·intro t ht v hv
  exact mX (kL k3 fun i hi=>ly hv hi ht)
 ·intro p hp
  exact lp (kL k4 fun i hi=>gf hi hp)
 ·exact mX k5
 ·intro p hp
  exact lp (kL k6 fun i hi=>gf hi hp)
 ·intro p hp
  exact lp (kL k7 fun i hi=>gf hi hp)
 ·intro k x hx
  rw [hx] at k8; exact k8
theorem RC.eh {r:RC} {p:Nat} {o:AO} (h:p ∉ r.ch):r.obj p o=killO r.mv o:=by rw [RC.obj,if_neg h]
structure Agr (b:RC) (q p:AFr × AH):Prop where
 len:q.2.length=p.2.length
 ob:∀ x ∈ b.σ,q.2[x]? = p.2[x]?
 kd:∀ x ∈ b.ch,(q.2[x]?).map kd=(p.2[x]?).map kd
 sl:∀ t ∈ b.U,lookA q.1 t=lookA p.1 t
theorem tf {a b:RC} (h:okI a b=true) {p:Nat} (ha:p ∈ a.ch) (hb:p ∈ b.ch):∃ e f,a.ent=some e/\b.ent=some f/\e.key≠f.key:=by
 unfold okI at h
 split at h
 ·rename_i e f he hf
  simp only [Bool.or_eq_true,Bool.not_eq_true',decide_eq_false_iff_not] at h
  rcases h with h | h
  ·exact absurd ha (cG.1 h p hb)
  ·exact ⟨e,f,he,hf,h⟩
 ·exact absurd ha (cG.1 h p hb)
theorem zP {b:RC} {s:Nat->Bool}:∀ {rs:List RC} {k:Nat} {q p:AFr × AH},eS p rs->(∀ j r,rs[j]? = some r->s (k+j)=true\/(OkD b r/\okI b r=true))->Agr b q p->Agr b (gk s k rs q) (prg rs p)
 | [],_,_,_,_,_,h=>h
 | r :: rs,k,q,p,hc,hs,h=>by
  obtain ⟨h1,h2,h3,h4⟩:=hc
  have hb:p.2.length=r.base:=by rw [<- h2]; exact h3.base.symm
  have hqb:q.2.length=r.base:=h.len.trans hb
  simp only [gk,prg]
  refine zP h4 (fun j r' hj=>by have:=hs (j+1) r' (by simpa using hj); rwa [show k+(j+1)=k+1+j by omega] at this) ?_
  cases hk:s k with
  | true=>
   simp only [cond_true]
   refine ⟨(ct h3 hqb).trans (ct h3 hb).symm,fun x hx=>?_,fun x hx=>?_,fun t ht=>?_⟩
   ·rw [fp h3 hqb,fp h3 hb,h.ob x hx]
   ·rw [fp h3 hqb,fp h3 hb]
    by_cases hlt:x<r.base
    ·rw [if_pos hlt,if_pos hlt]
     have:=h.kd x hx
     have key:∀ o o',kd o=kd o' -> kd (r.obj x o)=kd (r.obj x o'):=fun o o' e=>by
      unfold RC.obj
      split
      ·split
       ·rw [sB,sB,e]
       ·rfl
      ·rw [nT,nT,e]
     cases hq:q.2[x]? <;> cases hp:p.2[x]? <;> rw [hq,hp] at this <;> simp at this ⊢
     exact key _ _ this
    ·rw [if_neg hlt,if_neg hlt]
   ·rw [fG,fG,h.sl t ht]
  | false=>
   simp only [cond_false]
   obtain ⟨hd,hi⟩:=(hs 0 r rfl).resolve_left (by rw [Nat.add_zero,hk]; simp)
   refine ⟨(fu h3 hqb).trans (ct h3 hb).symm,fun x hx=>?_,fun x hx=>?_,fun t ht=>?_⟩
   ·rw [fQ h3 hqb,fp h3 hb,h.ob x hx]
    by_cases hlt:x<r.base
    ·rw [if_pos hlt,if_pos hlt]
     cases hp:p.2[x]? with
     | none=>rfl
     | some o=>
      rw [Option.map_some,RC.eh (hd.chσ x hx),hd.kp x hx o (by rw [h2]; exact hp)]
    ·rw [if_neg hlt,if_neg hlt]
     have hn:=hd.nσ x hx
     rw [lC h3] at hn
     rw [if_neg (fun hh=>hn ⟨by omega,hh⟩),List.getElem?_eq_none (by omega)]
   ·rw [fQ h3 hqb,fp h3 hb]
    by_cases hlt:x<r.base
    ·rw [if_pos hlt,if_pos hlt]
     have:=h.kd x hx
     cases hq:q.2[x]? <;> cases hp:p.2[x]? <;> rw [hq,hp] at this <;> simp at this ⊢
     rw [this]
     unfold RC.obj
     split
     ·rename_i hxr
      obtain ⟨e,f,_,hf,_⟩:=tf hi hx hxr
      rw [hf]; exact sB.symm
     ·exact nT.symm
    ·rw [if_neg hlt,if_neg hlt]
     have hn:=hd.nch x hx
     rw [lC h3] at hn
     rw [if_neg (fun hh=>hn ⟨by omega,hh⟩),List.getElem?_eq_none (by omega)]
   ·rw [fG,if_neg (fun e=>hd.dst t e ht)]
    show lookA q.1 t=_
    rw [h.sl t ht]
    cases hp:lookA p.1 t with
    | none=>rfl
    | some v=>rw [Option.map_some,hd.ks t ht v (by rw [h1]; exact hp)]
structure AgrB (b:RC) (q:AFr × AH):Prop where
 ob:∀ x ∈ b.σ,x<b.base->q.2[x]? = b.H0[x]?
 kd:∀ x ∈ b.ch,x<b.base->(q.2[x]?).map kd=(b.H0[x]?).map kd
 sl:∀ t ∈ b.U,lookA q.1 t=lookA b.fr0 t
 gn:∀ x,b.base<=x->x<b.res.length->q.2[x]? = some .gone
theorem tX {b:RC} (hbf:b.Fit) {s:Nat->Bool}:∀ {rs:List RC} {k:Nat} {q p:AFr × AH},eS p rs->b.res.length<=p.2.length->q.2.length=p.2.length->(∀ j r,rs[j]? = some r->s (k+j)=false\/(OkD b r/\okI b r=true))->AgrB b q->AgrB b (gk s k rs q)
 | [],_,_,_,_,_,_,_,h=>h
 | r :: rs,k,q,p,hc,hbl,hlen,hs,h=>by
  obtain ⟨h1,h2,h3,h4⟩:=hc
  have hb:p.2.length=r.base:=by rw [<- h2]; exact h3.base.symm
  have hqb:q.2.length=r.base:=hlen.trans hb
  have hle:=h3.le
  simp only [gk]
  have hl2:(bif s k then r.app q else r.Cg q).2.length=(r.app p).2.length:=by
   cases s k
   ·exact (fu h3 hqb).trans (ct h3 hb).symm
   ·exact (ct h3 hqb).trans (ct h3 hb).symm
  have hble:=hbf.le
  refine tX hbf h4 (by rw [ct h3 hb]; omega) hl2 (fun j r' hj=>by have:=hs (j+1) r' (by simpa using hj); rwa [show k+(j+1)=k+1+j by omega] at this) ?_
  cases hk:s k with
  | false=>
   simp only [cond_false]
   refine ⟨fun x hx hlt=>?_,fun x hx hlt=>?_,fun t ht=>h.sl t ht,fun x hx hlt=>?_⟩
   ·rw [fQ h3 hqb,if_pos (by omega)]; exact h.ob x hx hlt
   ·rw [fQ h3 hqb,if_pos (by omega)]; exact h.kd x hx hlt
   ·rw [fQ h3 hqb,if_pos (by omega)]; exact h.gn x hx hlt
  | true=>
   simp only [cond_true]
   obtain ⟨hd,hi⟩:=(hs 0 r rfl).resolve_left (by rw [Nat.add_zero,hk]; simp)
   refine ⟨fun x hx hlt=>?_,fun x hx hlt=>?_,fun t ht=>?_,fun x hx hlt=>?_⟩
   ·rw [fp h3 hqb,if_pos (by omega),h.ob x hx hlt]
    cases hp:b.H0[x]? with
    | none=>rfl
    | some o=>
     have:=hd.ob x hx
     rw [ft hp] at this
     rw [Option.map_some,RC.eh (hd.chσ x hx),this]
   ·rw [fp h3 hqb,if_pos (by omega),<- h.kd x hx hlt]
    cases hq:q.2[x]? with
    | none=>rfl
    | some o=>
     simp only [Option.map_some,Option.some.injEq]
     unfold RC.obj
     split
     ·rename_i hxr
      obtain ⟨e,f,_,hf,_⟩:=tf hi hx hxr
      rw [hf]; exact sB
     ·exact nT
   ·rw [fG,if_neg (fun e=>hd.dst t e ht),h.sl t ht]
    cases hp:lookA b.fr0 t with
    | none=>rfl
    | some v=>rw [Option.map_some,hd.sl t ht v hp]
   ·rw [fp h3 hqb,if_pos (by omega),h.gn x hx hlt,Option.map_some,RC.eh (hd.chn x ((lC hbf).2 ⟨hx,hlt⟩)),oJ]
def RC.endO (b:RC) (x:Nat) (o:AO):AO:=if b.base<=x/\x<b.res.length then getO b.res x else b.obj x o
def RC.endF (b:RC) (t:Nat) (v:Option TV):Option TV:=if b.dst=some t then some b.v else v.map (killTV b.mv)
inductive OOq:Option AO->Option AO->Prop
 | none:OOq none none
 | some {o o':AO}:AOq o o' -> OOq (some o) (some o')
structure Rel (b:RC) (q' q:AFr × AH):Prop where
 len:q'.2.length=q.2.length
 ob:∀ x,OOq (q'.2[x]?) ((q.2[x]?).map (b.endO x))
 sl:∀ t,lookA q'.1 t=b.endF t (lookA q.1 t)
theorem OOq.refl:∀ o:Option AO,OOq o o
 | .none=>.none
 | .some _=>.some .rfl
theorem BL {b:RC} (hb:b.Fit) {q:AFr × AH} (hq:q.2.length=b.base):Rel b (b.app q) (b.Cg q):=by
 refine ⟨(ct hb hq).trans (fu hb hq).symm,fun x=>?_,fun t=>fG⟩
 rw [fp hb hq,fQ hb hq]
 by_cases h1:x<b.base
 ·rw [if_pos h1,if_pos h1]
  have:(q.2[x]?).map (b.obj x)=(q.2[x]?).map (b.endO x):=by
   cases q.2[x]? with
   | none=>rfl
   | some o=>simp only [Option.map_some,RC.endO,if_neg (show ¬ (b.base<=x/\x<b.res.length) by omega)]
  rw [this]; exact .refl _
 ·rw [if_neg h1,if_neg h1]
  by_cases h2:x<b.res.length
  ·rw [if_pos h2,Option.map_some,RC.endO,if_pos ⟨by omega,h2⟩,List.getElem?_eq_getElem h2]
   exact .some (by rw [ft (List.getElem?_eq_getElem h2)]; exact .rfl)
  ·rw [if_neg h2,List.getElem?_eq_none (by omega)]; exact .none
theorem KQ {b r:RC} (hb:b.Fit) (hdb:OkD b r) (hdr:OkD r b) (hi:okI b r=true) {x:Nat} {o o':AO} (h:AOq o' (b.endO x o)):AOq (r.obj x o') (b.endO x (r.obj x o)):=by
 by_cases hn:b.base<=x/\x<b.res.length
 ·-- b's own
  have hxb:x ∈ b.new:=(lC hb).2 hn
  have hxr:x ∉ r.ch:=hdb.chn x hxb
  simp only [RC.endO,if_pos hn] at h ⊢
  rw [RC.eh hxr]
  have:=(h.kill (mv:=r.mv)).trans (by rw [hdb.rn x hxb]; exact .rfl)
  exact this
 ·simp only [RC.endO,if_neg hn] at h ⊢
  by_cases hxb:x ∈ b.ch
  ·by_cases hxr:x ∈ r.ch
   ·obtain ⟨e,f,he,hf,hne⟩:=tf hi hxb hxr
    simp only [RC.obj,if_pos hxb,if_pos hxr,he,hf] at h ⊢
    exact (h.put (e:=f)).trans (put_comm hne)
   ·rw [RC.eh hxr,RC.eh hxr]
    cases he:b.ent with
    | some e=>
     simp only [RC.obj,if_pos hxb,he] at h ⊢
     refine (h.kill (mv:=r.mv)).trans ?_
     rw [wJ fun k a hk=>hdb.en k a (by rw [he,hk])]
     exact .rfl
    | none=>
     simp only [RC.obj,if_pos hxb,he] at h ⊢
     have:=h.kill (mv:=r.mv)
     rwa [hdb.rc x hxb] at this
  ·rw [RC.eh hxb] at h ⊢
   by_cases hxr:x ∈ r.ch
   ·cases he:r.ent with
    | some e=>
     simp only [RC.obj,if_pos hxr,he]
     refine (h.put (e:=e)).trans ?_
     rw [wJ fun k a hk=>hdr.en k a (by rw [he,hk])]
     exact .rfl
    | none=>
     simp only [RC.obj,if_pos hxr,he]
     rw [hdr.rc x hxr]; exact .rfl
   ·rw [RC.eh hxr,RC.eh hxr,ym]
    exact h.kill
theorem Jd {b r:RC} (hb:b.Fit) (hr:r.Fit) (hdb:OkD b r) (hdr:OkD r b) (hi:okI b r=true) (hds:∀ d,b.dst=some d->r.dst≠some d) {q' q:AFr × AH} (hq:q.2.length=r.base) (hbr:b.res.length<=r.base) (h:Rel b q' q):Rel b (r.app q') (r.app q):=by
 have hq':q'.2.length=r.base:=h.len.trans hq
 refine ⟨(ct hr hq').trans (ct hr hq).symm,fun x=>?_,fun t=>?_⟩
 ·rw [fp hr hq',fp hr hq]
  by_cases hlt:x<r.base
  ·rw [if_pos hlt,if_pos hlt]
   have:=h.ob x
   cases hx':q'.2[x]? <;> cases hx:q.2[x]? <;> rw [hx',hx] at this <;> simp only [Option.map_some,Option.map_none] at this ⊢ <;> cases this
   ·exact .none
   ·rename_i hh; exact .some (KQ hb hdb hdr hi hh)
  ·rw [if_neg hlt,if_neg hlt]
   cases hx:r.res[x]? with
   | none=>exact .none
   | some o=>
    refine .some ?_
    have hlx:=(List.getElem?_eq_some_iff.1 hx).1
    have hxn:x ∈ r.new:=(lC hr).2 ⟨by omega,hlx⟩
    have h1:=hdr.rn x hxn
    rw [ft hx] at h1
    have h2:x ∉ b.ch:=hdr.chn x hxn
    rw [RC.endO,if_neg (by omega),RC.eh h2,h1]
    exact .rfl
 ·rw [fG,fG,h.sl t]
  unfold RC.endF
  by_cases hrt:r.dst=some t
  ·rw [if_pos hrt,if_pos hrt,if_neg (fun e=>hds t e hrt),Option.map_some,hdr.v]
  ·rw [if_neg hrt,if_neg hrt]
   by_cases hbt:b.dst=some t
   ·rw [if_pos hbt,if_pos hbt,Option.map_some,hdb.v]
   ·rw [if_neg hbt,if_neg hbt,Option.map_map,Option.map_map]
    cases lookA q.1 t with
    | none=>rfl
    | some v=>simp only [Option.map_some,Function.comp,tY]
theorem KM {b r:RC} (hb:b.Fit) (hr:r.Fit) (hdr:∀ x ∈ b.ch,x<b.base) {q' q:AFr × AH} (hq:q.2.length=r.base) (hbr:b.res.length<=r.base) (h:Rel b q' q):Rel b (r.Cg q') (r.Cg q):=by
 have hq':q'.2.length=r.base:=h.len.trans hq
 have hble:=hb.le
 refine ⟨(fu hr hq').trans (fu hr hq).symm,fun x=>?_,h.sl⟩
 rw [fQ hr hq',fQ hr hq]
 by_cases hlt:x<r.base
 ·rw [if_pos hlt,if_pos hlt]; exact h.ob x
 ·rw [if_neg hlt,if_neg hlt]
  by_cases h2:x<r.res.length
  ·rw [if_pos h2,Option.map_some,RC.endO,if_neg (by omega),RC.eh (fun hm=>by have:=hdr x hm; omega),oJ]
   exact .some .rfl
  ·rw [if_neg h2]; exact .none
theorem yx {b:RC} (hb:b.Fit) (hch:∀ x ∈ b.ch,x<b.base) {s:Nat->Bool}:∀ {rs:List RC} {k:Nat} {q' q p:AFr × AH},eS p rs->b.res.length<=p.2.length->q.2.length=p.2.length->(∀ j r,rs[j]? = some r->(s (k+j)=false\/(OkD b r/\OkD r b/\okI b r=true))/\∀ d,b.dst=some d->r.dst≠some d)->Rel b q' q->Rel b (gk s k rs q') (gk s k rs q)
 | [],_,_,_,_,_,_,_,_,h=>h
 | r :: rs,k,q',q,p,hc,hbl,hlen,hs,h=>by
  obtain ⟨_,h2,h3,h4⟩:=hc
  have hb0:p.2.length=r.base:=by rw [<- h2]; exact h3.base.symm
  have hqb:q.2.length=r.base:=hlen.trans hb0
  have hle:=h3.le
  simp only [gk]
  have hl2:(bif s k then r.app q else r.Cg q).2.length=(r.app p).2.length:=by
   cases s k
   ·exact (fu h3 hqb).trans (ct h3 hb0).symm
   ·exact (ct h3 hqb).trans (ct h3 hb0).symm
  refine yx hb hch h4 (by rw [ct h3 hb0]; omega) hl2 (fun j r' hj=>by have:=hs (j+1) r' (by simpa using hj); rwa [show k+(j+1)=k+1+j by omega] at this) ?_
  cases hk:s k with
  | false=>exact KM hb h3 hch hqb (by omega) h
  | true=>
   obtain ⟨hh,hds⟩:=hs 0 r rfl
   obtain ⟨hd1,hd2,hi⟩:=hh.resolve_left (by rw [Nat.add_zero,hk]; simp)
   exact Jd hb h3 hd1 hd2 hi hds hqb aG h
theorem Rd.on {c c':Cx} {ρ ρ':List RE} {a:AV} {v:Value} (h:Rd c ρ a v) (hc:c.le c') (k:∀ i ∈ a.ids,∀ r,ρ[i]? = some r->r ≠ .no->ρ'[i]? = some r):Rd c' ρ' a v:=by
 have cap:∀ q u,q.1 ∈ a.ids->ey ρ q u->ey ρ' q u:=fun q u hq ⟨g,h1,h2⟩=>⟨g,k _ hq _ h1 (by simp),h2⟩
 cases a with
 | own id=>
  rcases h with ⟨g,cap,len,z,h,e⟩ | ⟨h,e⟩
  ·exact .inl ⟨g,cap,len,z,k id (by simp [AV.ids]) _ h (by simp),e⟩
  ·exact .inr ⟨k id (by simp [AV.ids]) _ h (by simp),e⟩
 | sub id o l=>
  rcases h with ⟨g,cap,len,z,h,e⟩ | ⟨h,e⟩
  ·exact .inl ⟨g,cap,len,z,k id (by simp [AV.ids]) _ h (by simp),e⟩
  ·exact .inr ⟨k id (by simp [AV.ids]) _ h (by simp),e⟩
 | ptr id o=>exact cap (id,o) _ (by simp [AV.ids]) h
 | elp id i o=>
  obtain ⟨g,cap,len,z,h,e⟩:=h
  exact ⟨g,cap,len,z,k id (by simp [AV.ids]) _ h (by simp),e⟩
 | fe s x o=>
  obtain ⟨A,cells,h1,h2,h3,e⟩:=h
  exact ⟨A,cells,(hc.S _ h1).1,h2.keep (hc.S _ h1).2,h3.carry hc,e⟩
 | fn f b cs=>
  obtain ⟨bs,us,h1,h2,e⟩:=h
  have all:∀ (l:List (Nat × Nat)) (us:List Value),(∀ q ∈ l,q.1 ∈ (AV.fn f b cs).ids)->All2 (ey ρ) l us->All2 (ey ρ') l us:=fun l us hl h=>by
   induction h with
   | nil=>exact .nil
   | cons h1 _ ih=>exact .cons (cap _ _ (hl _ (by simp)) h1) (ih fun q hq=>hl q (by simp [hq]))
  refine ⟨bs,us,all b bs (fun q hq=>?_) h1,all cs us (fun q hq=>?_) h2,e⟩ <;> simp only [AV.ids,List.mem_append] <;> first | exact .inl (List.mem_map_of_mem hq) | exact .inr (List.mem_map_of_mem hq)
 | mq id=>
  obtain ⟨g,h1,e⟩:=h
  exact ⟨g,k id (by simp [AV.ids]) _ h1 (by simp),e⟩
 | np=>exact h
 | nf=>exact h
 | yl l=>exact h
 | dead=>exact h
 | int n=>exact Pd.carry h hc
 | u8 b=>exact Pd.carry h hc
 | u64 n=>exact Pd.carry h hc
 | bool e=>exact Pd.carry h hc
 | str s=>exact Pd.carry h hc
 | em b=>exact Pd.carry h hc
 | fz s xs=>exact Pd.carry h hc
theorem Nz.on {c c':Cx} {ρ ρ':List RE}:∀ {asx:List AV} {vs:List Value},All2 (Rd c ρ) asx vs->c.le c' -> (∀ i ∈ sF asx,∀ r,ρ[i]? = some r->r ≠ .no->ρ'[i]? = some r)->All2 (Rd c' ρ') asx vs
 | [],_,h,_,_=>by cases h; exact .nil
 | a :: r,_,h,hc,k=>by
  cases h with
  | cons h1 h2=>exact .cons (h1.on hc fun i hi=>k i (iY (a:=a) (by simp) hi)) (Nz.on h2 hc fun i hi=>k i (by simp only [sF,List.mem_append]; exact .inr hi))
theorem dh.on {c c':Cx} {ρ ρ':List RE} {t:TV1} {v:Value} (h:dh c ρ t v) (hc:c.le c') (k:∀ i ∈ sF t.cells,∀ r,ρ[i]? = some r->r ≠ .no->ρ'[i]? = some r):dh c' ρ' t v:=by
 cases t with
 | c a=>exact Rd.on h hc fun i hi=>k i (iY (a:=a) (by simp [TV1.cells]) hi)
 | agg l=>obtain ⟨vs,e,h⟩:=h; exact ⟨vs,e,Nz.on h hc k⟩
theorem KT.on {c c':Cx} {ρ ρ':List RE}:∀ {asx:List TV1} {vs:List Value},All2 (dh c ρ) asx vs->c.le c' -> (∀ i ∈ nI asx,∀ r,ρ[i]? = some r->r ≠ .no->ρ'[i]? = some r)->All2 (dh c' ρ') asx vs
 | [],_,h,_,_=>by cases h; exact .nil
 | a :: r,_,h,hc,k=>by
  cases h with
  | cons h1 h2=>exact .cons (h1.on hc fun i hi=>k i (by simp only [nI,List.mem_append]; exact .inl hi)) (KT.on h2 hc fun i hi=>k i (by simp only [nI,List.mem_append]; exact .inr hi))
theorem Rt.on {c c':Cx} {ρ ρ':List RE} {t:TV} {v:Value} (h:Rt c ρ t v) (hc:c.le c') (k:∀ i ∈ t.ids,∀ r,ρ[i]? = some r->r ≠ .no->ρ'[i]? = some r):Rt c' ρ' t v:=by
 cases t with
 | one t=>exact dh.on h hc k
 | tup l=>obtain ⟨vs,e,h⟩:=h; exact ⟨vs,e,KT.on h hc k⟩
 | un=>trivial
theorem Ln {i:Nat} {l:List (Int × AV)} {q:Int × AV} (h:q ∈ l) (hi:i ∈ q.2.ids):i ∈ Ht l:=pM h hi
theorem OR.on {c c':Cx} {ρ ρ':List RE} {o:AO} {r:RE} (h:OR c ρ o r) (hc:c.le c') (hw:c'.w=c.w) (k:∀ i ∈ o.ids,∀ r,ρ[i]? = some r->r ≠ .no->ρ'[i]? = some r):OR c' ρ' o r:=by
 cases o with
 | gone=>exact h
 | loc=>trivial
 | mapo s f=>
  obtain ⟨g,rfl,h⟩:=h
  exact ⟨g,rfl,h.carry hc (by rw [hw])⟩
 | mapf l=>
  obtain ⟨g,rfl,h⟩:=h
  exact ⟨g,rfl,h.map (g0:=fun a=>a) (by simp) (fun q hq _ h=>h.on hc fun i hi=>k i (Ln hq hi)) (by rw [hw])⟩
 | arr t s n xs=>
  obtain ⟨g,vs,rfl,h1,h2,h3⟩:=h
  exact ⟨g,vs,rfl,by rw [hw]; exact h1,h2.carry hc,h3⟩
 | box t cs=>
  obtain ⟨g,vs,rfl,h1,h2⟩:=h
  exact ⟨g,vs,rfl,by rw [hw]; exact h1,Nz.on h2 hc k⟩
 | row t s xs=>
  obtain ⟨h1,h2,h3⟩:=h
  refine ⟨hc.shp ▸ h1,h2,h3.imp id ?_⟩
  rintro ⟨g,cap,cells,sp,rfl,h4,h5,h6⟩
  exact ⟨g,cap,cells,sp,rfl,by rw [hw]; exact h4,h5.carry hc,h6⟩
theorem Bl {mv:List Nat} (h:mv=[]) {l:List AV}:px (AV.cn mv) l=l:=nZ fun a _=>fi (by subst h; simp)
theorem Jz {mv:List Nat} {o:AO}:killO mv o=o.mapA (AV.cn mv):=by
 cases mv with
 | cons _ _=>rfl
 | nil=>
  cases o with
  | box t cs=>exact congrArg (AO.box t) (Bl rfl).symm
  | mapf l=>
   show AO.mapf l=AO.mapf (mapM _ l)
   rw [nR]
   congr 1
   refine ((List.map_congr_left fun q _=>?_).trans (List.map_id _)).symm
   have e:=fi (mv:=[]) (a:=q.2) (by simp)
   show (q.1,AV.cn [] q.2)=q
   rw [e]
  | _=>rfl
def Gz (G:Gl) (ρc:List RE):Gl:=⟨G.shp,G.B0,fun b=>G.Z b\/live ρc b⟩
section
variable {G:Gl} {ρ:List RE} {S:AH} {w w':World} {m top:Nat}
structure Part (G:Gl) (ρ:List RE) (S:AH) (w:World) (m top:Nat):Prop where
 R:Rep G ρ S w
 le:m<=top
 len:top<=S.length
 gn:∀ x,m<=x->x<top->S[x]? = some .gone
theorem Part.Zi (h:Part G ρ S w m top) {x:Nat} (h1:m<=x) (h2:x<top):ρ[x]? = some .no:=by
 obtain ⟨r,hr,hor⟩:=h.R.at_ (h.gn x h1 h2)
 cases hor; exact hr
theorem Part.lv (h:Part G ρ S w m top) {b:Nat}:live ρ b↔live (ρ.take m) b\/live (ρ.drop top) b:=by
 have:=h.le
 constructor
 ·rintro ⟨i,r,h1,h2⟩
  by_cases hi:i<m
  ·exact .inl ⟨i,r,by rw [List.getElem?_take,if_pos hi]; exact h1,h2⟩
  ·by_cases hj:i<top
   ·rw [h.Zi (by omega) hj] at h1; cases h1; cases h2
   ·exact .inr ⟨i - top,r,by rw [List.getElem?_drop,show top+(i - top)=i by omega]; exact h1,h2⟩
 ·rintro (⟨i,r,h1,h2⟩ | ⟨i,r,h1,h2⟩)
  ·rw [List.getElem?_take] at h1
   split at h1
   ·exact ⟨i,r,h1,h2⟩
   ·cases h1
  ·rw [List.getElem?_drop] at h1
   exact ⟨_,r,h1,h2⟩
theorem Part.sS (h:Part G ρ S w m top) {b:Nat}:(cx (Gz G (ρ.drop top)) (ρ.take m) w).S b↔(cx G ρ w).S b:=by
 show (b<w.heap.size/\¬ live (ρ.take m) b/\¬ (G.Z b\/live (ρ.drop top) b))↔(b<w.heap.size/\¬ live ρ b/\¬ G.Z b)
 rw [h.lv]
 constructor
 ·rintro ⟨h1,h2,h3⟩; exact ⟨h1,fun hh=>hh.elim h2 fun k=>h3 (.inr k),fun k=>h3 (.inl k)⟩
 ·rintro ⟨h1,h2,h3⟩; exact ⟨h1,fun k=>h2 (.inl k),fun hh=>hh.elim h3 fun k=>h2 (.inr k)⟩
theorem Part.cle (h:Part G ρ S w m top):(cx G ρ w).le (cx (Gz G (ρ.drop top)) (ρ.take m) w):=⟨rfl,rfl,fun _ hb=>⟨h.sS.2 hb,rfl⟩⟩
theorem jr {i:Nat} {r:RE} (h:(ρ.take m)[i]? = some r):ρ[i]? = some r/\i<m:=by
 rw [List.getElem?_take] at h
 split at h
 ·exact ⟨h,‹_›⟩
 ·cases h
theorem Part.mask (h:Part G ρ S w m top) {σ:List Nat} (hσ:∀ x ∈ σ,∀ i ∈ (getO S x).ids,i<m):Rep (Gz G (ρ.drop top)) (ρ.take m) (maskH σ 0 (S.take m)) w:=by
 have hl:=h.R.obj.length
 refine ⟨cE (by rw [mY,List.length_take,List.length_take,hl]) fun j o r ho hr=>?_,fun i j r r' g h1 h2 h3 h4=>h.R.inj i j r r' g (jr h1).1 (jr h2).1 h3 h4,fun i r g h1 h2=>?_,fun b hb=>hb.elim (h.R.z b) fun ⟨j,r,h1,h2⟩=>?_,h.R.b0⟩
 ·obtain ⟨hr,hj⟩:=jr hr
  rw [lT,List.getElem?_take,if_pos hj,Nat.zero_add,Option.map_eq_some_iff] at ho
  obtain ⟨o',ho',rfl⟩:=ho
  split
  ·rename_i hm
   obtain ⟨r',hr',hor⟩:=h.R.at_ ho'
   rw [hr] at hr'; cases hr'
   refine hor.on h.cle rfl fun i hi r hri _=>?_
   have:=hσ j hm i (by rw [ft ho']; exact hi)
   rw [List.getElem?_take,if_pos this]; exact hri
  ·trivial
 ·obtain ⟨h1,hi⟩:=jr h1
  have:=h.R.bnd i r g h1 h2
  refine ⟨this.1,this.2.1,fun hz=>hz.elim this.2.2 fun ⟨j,r',h3,h4⟩=>?_⟩
  rw [List.getElem?_drop] at h3
  have e:=h.R.inj i _ r r' g h1 h3 h2 h4
  have:=h.le
  omega
 ·rw [List.getElem?_drop] at h1
  exact (h.R.bnd _ r b h1 h2).2.1
theorem Part.merge (h:Part G ρ S w m top) {ro:Lv} {b:RC} (hbase:b.base=m) (hres:b.res.length=top) (hent:b.ent=none) (hch:∀ x ∈ b.ch,x<m) {ρt:List RE} (hro:∀ i,ro.wr i=false\/ro.mv i=false->i<m) (hS:Stp ⟨fun i=>cf i b.ch && ro.wr i,fun i=>cf i b.mv && ro.mv i⟩ (ρ.take m) w ρt w') (hRt:Rep (Gz G (ρ.drop top)) ρt b.res w') {S':AH} (hlen:S'.length=S.length) (hS':∀ x,OOq (S'[x]?) ((S[x]?).map (b.endO x))) :
  Rep G (ρt++ρ.drop top) S' w' /\ Stp ro ρ w (ρt++ρ.drop top) w' /\ (∀ a v,Rd (cx G ρ w) ρ a v->Rd (cx G (ρt++ρ.drop top) w') (ρt++ρ.drop top) (a.cn b.mv) v)/\(∀ t v,Rt (cx (Gz G (ρ.drop top)) ρt w') ρt t v->Rt (cx G (ρt++ρ.drop top) w') (ρt++ρ.drop top) t v):=by
 have hl:=h.R.obj.length
 have hle:=h.le
 have htl:ρt.length=top:=by rw [<- hRt.obj.length,hres]
 have hSl:=h.len
 -- where they lie
 have at1:∀ i,i<top->(ρt++ρ.drop top)[i]? = ρt[i]?:=fun i hi=>List.getElem?_append_left (by omega)
 have at2:∀ i,top<=i->(ρt++ρ.drop top)[i]? = ρ[i]?:=fun i hi=>by rw [List.getElem?_append_right (by omega),htl,List.getElem?_drop]; congr 1; omega
 have lv':∀ b,live (ρt++ρ.drop top) b↔live ρt b\/live (ρ.drop top) b:=fun b=>by
  constructor
  ·rintro ⟨i,r,h1,h2⟩
   by_cases hi:i<top
   ·exact .inl ⟨i,r,by rw [<- at1 i hi]; exact h1,h2⟩
   ·refine .inr ⟨i - top,r,?_,h2⟩
    rw [at2 i (by omega)] at h1
    rw [List.getElem?_drop,show top+(i - top)=i by omega]; exact h1
  ·rintro (⟨i,r,h1,h2⟩ | ⟨i,r,h1,h2⟩)
   ·exact ⟨i,r,by rw [at1 i (by rw [<- htl]; exact (List.getElem?_eq_some_iff.1 h1).1)]; exact h1,h2⟩
   ·rw [List.getElem?_drop] at h1
    exact ⟨top+i,r,by rw [at2 _ (by omega)]; exact h1,h2⟩
 have hblk:∀ g,g<w.heap.size->¬ live (ρ.take m) g->¬ live ρt g/\w'.heap[g]? = w.heap[g]?:=fun g hg hn=>hS.ext.old g hg hn
 have hcn:∀ g,live (ρ.drop top) g->g<w.heap.size/\¬ live (ρ.take m) g:=by
  rintro g ⟨j,r,h1,h2⟩
  rw [List.getElem?_drop] at h1
  refine ⟨(h.R.bnd _ r g h1 h2).2.1,?_⟩
  rintro ⟨i,r',h3,h4⟩
  obtain ⟨h3,h5⟩:=jr h3
  have:=h.R.inj _ _ _ _ g h1 h3 h2 h4
  omega
 have hext:Ext ρ w (ρt++ρ.drop top) w':=⟨hS.ext.os,hS.ext.tape,hS.ext.output,hS.ext.size,fun b hb hl=>by
  rw [h.lv] at hl
  have hk:=hblk b hb fun k=>hl (.inl k)
  exact ⟨fun k=>((lv' b).1 k).elim hk.1 fun k=>hl (.inr k),hk.2⟩⟩
 have hcle:(cx G ρ w).le (cx G (ρt++ρ.drop top) w'):=hext.le
 have hcle2:(cx (Gz G (ρ.drop top)) ρt w').le (cx G (ρt++ρ.drop top) w'):=⟨rfl,rfl,fun b ⟨h1,h2,h3⟩=>⟨⟨h1,fun k=>((lv' b).1 k).elim h2 fun k=>h3 (.inr k),fun k=>h3 (.inl k)⟩,rfl⟩⟩
 have hagr:iM ρt (ρt++ρ.drop top):=fv _ _
 -- what is kept
 have keep:∀ i r,ρ[i]? = some r->r ≠ .no->((∃ g,r = .blk g)\/i ∉ b.mv)->(ρt++ρ.drop top)[i]? = some r:=fun i r hr hne hk=>by
  by_cases hi:i<m
  ·rw [at1 i (by omega)]
   have hr':(ρ.take m)[i]? = some r:=by rw [List.getElem?_take,if_pos hi]; exact hr
   rcases hk with ⟨g,rfl⟩ | hk
   ·exact hS.bx i g hr'
   ·refine hS.loc i r ?_ hr'
    have:cf i b.mv=false:=by rw [<- Bool.not_eq_true,bJ]; exact hk
    simp [this]
  ·by_cases hj:i<top
   ·rw [h.Zi (by omega) hj] at hr; cases hr; exact absurd rfl hne
   ·rw [at2 i (by omega)]; exact hr
 have hrd:∀ a v,Rd (cx G ρ w) ρ a v->Rd (cx G (ρt++ρ.drop top) w') (ρt++ρ.drop top) (a.cn b.mv) v:=by
  intro a v hd
  have nm:∀ j,cf j b.mv=false->j ∉ b.mv:=fun j hb hm=>by rw [bJ.2 hm] at hb; cases hb
  cases a with
  | own j=>
   simp only [AV.cn]
   cases hb:cf j b.mv
   ·refine Rd.on hd hcle fun i hi r hr hne=>keep i r hr hne (.inr ?_)
    simp only [AV.ids,cond_false,List.mem_singleton] at hi; subst hi; exact nm _ hb
   ·exact Rd.one hd
  | sub j o k=>
   simp only [AV.cn]
   cases hb:cf j b.mv
   ·refine Rd.on hd hcle fun i hi r hr hne=>keep i r hr hne (.inr ?_)
    simp only [AV.ids,cond_false,List.mem_singleton] at hi; subst hi; exact nm _ hb
   ·exact Rd.one hd
  | elp j k o=>
   simp only [AV.cn]
   cases hb:cf j b.mv
   ·refine Rd.on hd hcle fun i hi r hr hne=>keep i r hr hne (.inr ?_)
    simp only [AV.ids,cond_false,List.mem_singleton] at hi; subst hi; exact nm _ hb
   ·exact Rd.one hd
  | ptr j o=>
   obtain ⟨g,h1,e⟩:=hd
   exact ⟨g,keep _ _ h1 (by simp) (.inl ⟨g,rfl⟩),e⟩
  | mq j=>
   obtain ⟨g,h1,e⟩:=hd
   exact ⟨g,keep _ _ h1 (by simp) (.inl ⟨g,rfl⟩),e⟩
  | fn f b' cs=>
   obtain ⟨bs,us,h1,h2,e⟩:=hd
   exact ⟨bs,us,h1.imp fun _ _ ⟨g,k1,k2⟩=>⟨g,keep _ _ k1 (by simp) (.inl ⟨g,rfl⟩),k2⟩,h2.imp fun _ _ ⟨g,k1,k2⟩=>⟨g,keep _ _ k1 (by simp) (.inl ⟨g,rfl⟩),k2⟩,e⟩
  | fe s x o=>
   obtain ⟨A,cells,h1,h2,h3,e⟩:=hd
   exact ⟨A,cells,(hcle.S _ h1).1,h2.keep (hcle.S _ h1).2,h3.carry hcle,e⟩
  | np=>exact hd
  | nf=>exact hd
  | yl l=>exact hd
  | dead=>exact hd
  | int n=>exact Pd.carry hd hcle
  | u8 b=>exact Pd.carry hd hcle
  | u64 n=>exact Pd.carry hd hcle
  | bool e=>exact Pd.carry hd hcle
  | str s=>exact Pd.carry hd hcle
  | em b=>exact Pd.carry hd hcle
  | fz s xs=>exact Pd.carry hd hcle
 refine ⟨⟨?_,?_,?_,fun b hb=>Nat.lt_of_lt_of_le (h.R.z b hb) hext.size,Nat.le_trans h.R.b0 hext.size⟩,⟨hext,fun i r hi hr=>?_,fun i r hi hr=>?_,fun i g hi=>?_⟩,hrd,fun t v ht=>ht.carry hcle2 hagr⟩
 ·refine cE (by rw [hlen,List.length_append,htl,List.length_drop]; omega) fun x o r ho hr=>?_
  have hq:=hS' x
  rw [ho] at hq
  cases hx:S[x]? with
  | none=>rw [hx] at hq; cases hq
  | some o0=>
   rw [hx,Option.map_some] at hq
   cases hq with
   | some hq=>
   refine hq.symm.or ?_
   obtain ⟨r0,hr0,hor0⟩:=h.R.at_ hx
   -- those that stay: JA
   have stay:ρ[x]? = some r->(∀ g,r.g? = some g->w'.heap[g]? = w.heap[g]?)->OR (cx G (ρt++ρ.drop top) w') (ρt++ρ.drop top) (killO b.mv o0) r:=fun hr' hg=>by
    rw [hr0] at hr'; cases hr'
    rw [Jz]
    exact hor0.map hcle hrd hg
   have fromRes:x<top->∀ o1,b.res[x]? = some o1->OR (cx G (ρt++ρ.drop top) w') (ρt++ρ.drop top) o1 r:=fun hx1 o1 ho1=>by
    rw [at1 x hx1] at hr
    obtain ⟨r1,hr1,hor1⟩:=hRt.at_ ho1
    rw [hr] at hr1; cases hr1
    exact hor1.carry hcle2 hagr fun _ _=>rfl
   unfold RC.endO
   rw [hbase,hres]
   split
   ·rename_i hn
    refine fromRes hn.2 _ ?_
    rw [List.getElem?_eq_getElem (by omega),ft (List.getElem?_eq_getElem (by omega))]
   ·rename_i hn
    unfold RC.obj
    split
    ·rename_i hchx
     rw [hent]
     have hx1:=hch x hchx
     refine fromRes (by omega) _ ?_
     rw [List.getElem?_eq_getElem (by omega),ft (List.getElem?_eq_getElem (by omega))]
    ·rename_i hch
     have hm:cf x b.ch=false:=by rw [<- Bool.not_eq_true,bJ]; exact hch
     by_cases hx1:x<m
     ·have hr':(ρ.take m)[x]? = some r0:=by rw [List.getElem?_take,if_pos hx1]; exact hr0
      have hp:=hS.pro x r0 (by simp [hm]) hr'
      rw [at1 x (by omega),hp.1] at hr; cases hr
      exact stay hr0 hp.2
     ·have hx2:top<=x:=by omega
      rw [at2 x hx2] at hr
      refine stay hr fun g hg=>(hblk g (h.R.bnd x r g hr hg).2.1 (hcn g ⟨x - top,r,?_,hg⟩).2).2
      rw [List.getElem?_drop,show top+(x - top)=x by omega]; exact hr
 ·intro i j r r' g h1 h2 h3 h4
  by_cases hi:i<top <;> by_cases hj:j<top
  ·rw [at1 i hi] at h1; rw [at1 j hj] at h2
   exact hRt.inj i j r r' g h1 h2 h3 h4
  ·rw [at1 i hi] at h1; rw [at2 j (by omega)] at h2
   have hc:live (ρ.drop top) g:=⟨j - top,r',by rw [List.getElem?_drop,show top+(j - top)=j by omega]; exact h2,h4⟩
   exact absurd ⟨i,r,h1,h3⟩ (hblk g (hcn g hc).1 (hcn g hc).2).1
  ·rw [at2 i (by omega)] at h1; rw [at1 j hj] at h2
   have hc:live (ρ.drop top) g:=⟨i - top,r,by rw [List.getElem?_drop,show top+(i - top)=i by omega]; exact h1,h3⟩
   exact absurd ⟨j,r',h2,h4⟩ (hblk g (hcn g hc).1 (hcn g hc).2).1
  ·rw [at2 i (by omega)] at h1; rw [at2 j (by omega)] at h2
   exact h.R.inj i j r r' g h1 h2 h3 h4
 ·intro i r g h1 h2
  by_cases hi:i<top
  ·rw [at1 i hi] at h1
   have:=hRt.bnd i r g h1 h2
   exact ⟨this.1,this.2.1,fun hz=>this.2.2 (.inl hz)⟩
  ·rw [at2 i (by omega)] at h1
   have:=h.R.bnd i r g h1 h2
   exact ⟨this.1,Nat.lt_of_lt_of_le this.2.1 hext.size,this.2.2⟩
 ·have hi':=hro i (.inr hi)
  rw [at1 i (by omega)]
  exact hS.loc i r (by simp [hi]) (by rw [List.getElem?_take,if_pos hi']; exact hr)
 ·have hi':=hro i (.inl hi)
  rw [at1 i (by omega)]
  exact hS.pro i r (by simp [hi]) (by rw [List.getElem?_take,if_pos hi']; exact hr)
 ·by_cases h1:i<m
  ·rw [at1 i (by omega)]
   exact hS.bx i g (by rw [List.getElem?_take,if_pos h1]; exact hi)
  ·by_cases h2:i<top
   ·rw [h.Zi (by omega) h2] at hi; cases hi
   ·rw [at2 i (by omega)]; exact hi
end
theorem UL {P:Program} {Q:Exit->Act->World->Prop} {id:Nat} {l:List Oper} {a:Act} {w:World} (hm:P.follows .mixedOrders=true) {Inv:(Nat->Bool)->Act->World->Prop}
  (hlt:∀ i,∀ j ∈ bN l i,j<i) (hdef:∀ s a w,Inv s a w->a.defers=[])
  (hs:∀ s a w i o,Inv s a w->l[i]? = some o->s i=false->(∀ j ∈ bN l i,s j=true)->(∀ k,s k=true->∀ j ∈ bN l k,s j=true) ->
   H_ P l.toArray (fun e a' w'=>e = .normal/\Inv (fun j=>s j || Nat.beq i j) a' w') [o] a w)
  (he:∀ s a w,Inv s a w->(∀ i,i<l.length->s i=true)->Q .normal a w) (h0:Inv (fun _=>false) a { w with drawn:=w.drawn+1 }):iL P (.region id l.toArray true) Q a w:=by
 intro ro ds
 refine wpIn_region_any hm ?_
 have main:∀ f (listed:Array Bool) a w,listed.size=l.length->(List.range l.length).countP (fun i=>!listed.getD i false)=f->(∀ k,listed.getD k false=true->∀ j ∈ bN l k,listed.getD j false=true)->Inv (fun i=>listed.getD i false) a w->wpAnyIn (fw ro) 0 P .any l.toArray (nC ds Q) f listed (gp a ds) w:=by
  intro f
  induction f with
  | zero=>
   intro listed a w hsz hc hcl inv
   have hall:∀ i,i<l.length->listed.getD i false=true:=fun i hi=>by
    have:=List.countP_eq_zero.1 hc i (List.mem_range.2 hi)
    simpa using this
   refine ⟨?_,a,hdef _ _ _ inv,rfl,he _ a w inv hall⟩
   cases hr:Region.ready .any l.toArray listed with
   | nil=>rfl
   | cons i r=>
    obtain ⟨hun,o,ho,_⟩:=mem_ready.1 (show i ∈ Region.ready .any l.toArray listed by rw [hr]; simp)
    have hil:i<l.length:=by simpa using (Array.getElem?_eq_some_iff.1 ho).1
    have:=hall i hil
    rw [getD_both hun] at this; cases this
  | succ f ih=>
   intro listed a w hsz hc hcl inv
   have hex:∃ i,i<l.length/\listed.getD i false=false/\∀ j,j<i->listed.getD j false=true:=by
    have h1:∃ i,i<l.length/\listed.getD i false=false:=by
     have:0<(List.range l.length).countP (fun i=>!listed.getD i false):=by omega
     obtain ⟨i,hi,hp⟩:=List.countP_pos_iff.1 this
     exact ⟨i,List.mem_range.1 hi,by simpa using hp⟩
    obtain ⟨i,hi,hp⟩:=h1
    have hmin:∀ m,∀ i,i<l.length->listed.getD i false=false->i<=m->∃ i,i<l.length/\listed.getD i false=false/\∀ j,j<i->listed.getD j false=true:=by
     intro m
     induction m with
     | zero=>intro i hi hp him; exact ⟨i,hi,hp,fun j hj=>by omega⟩
     | succ m ihm=>
      intro i hi hp him
      by_cases hlt:∃ j,j<i/\listed.getD j false=false
      ·obtain ⟨j,hj,hpj⟩:=hlt
       exact ihm j aG hpj aG
      ·exact ⟨i,hi,hp,fun j hj=>by
        cases h:listed.getD j false with
        | true=>rfl
        | false=>exact absurd ⟨j,hj,h⟩ hlt⟩
    exact hmin i i hi hp (Nat.le_refl _)
   obtain ⟨m,hml,hmu,hmall⟩:=hex
   have hready:m ∈ Region.ready .any l.toArray listed:=by
    refine mem_ready.2 ⟨getD_in (by rw [hsz]; exact hml) hmu,l[m],by simp [hml],fun e he hb=>?_⟩
    exact hmall _ (hlt m e.on (by
     simp only [bN,List.getElem?_eq_getElem hml,eO,List.mem_map,List.mem_filter]
     exact ⟨e,⟨by simpa using he,hb⟩,rfl⟩))
   refine ⟨fun h0=>(by rw [h0] at hready; cases hready),fun i hi=>?_⟩
   obtain ⟨hun,o,ho,hafter⟩:=mem_ready.1 hi
   have ho':l[i]? = some o:=by simpa using ho
   have hil:i<l.length:=(List.getElem?_eq_some_iff.1 ho').1
   have hun':listed.getD i false=false:=getD_both hun
   have hpre:∀ k ∈ bN l i,listed.getD k false=true:=fun k hk=>by
    simp only [bN,ho',eO,List.mem_map,List.mem_filter] at hk
    obtain ⟨e,⟨he,hb⟩,rfl⟩:=hk
    exact hafter e (by simpa using he) hb
   have hw:=hs _ a w i o inv ho' hun' hpre hcl ro ds
   have hset:∀ j,(listed.setIfInBounds i true).getD j false=(listed.getD j false || Nat.beq i j):=fun j=>by
    by_cases hj:j=i
    ·subst hj; simp [Array.getD,hsz,hil]
    ·have:Nat.beq i j=false:=by rw [<- Bool.not_eq_true,Nat.beq_eq]; exact fun e=>hj e.symm
     rw [getD_set_ne false (Ne.symm hj),this,Bool.or_false]
   have step:∀ v w2,(True/\Inv (fun j=>listed.getD j false || Nat.beq i j) (a.put o.dst v) w2)->wpAnyIn (fw ro) 0 P .any l.toArray (nC ds Q) f (listed.setIfInBounds i true) (gp (a.put o.dst v) ds) w2:=by
    intro v w2 ⟨_,hv⟩
    refine ih _ _ _ (by simp [hsz]) ?_ ?_ ?_
    ·have:=countP_set (n:=l.length) (i:=i) (p:=fun j=>!listed.getD j false) (q:=fun j=>!(listed.setIfInBounds i true).getD j false) hil (by simp [hun']) (by simp [hset]) (fun j hj=>by
      have:Nat.beq i j=false:=by rw [<- Bool.not_eq_true,Nat.beq_eq]; exact fun e=>hj e.symm
      simp [hset,this])
     omega
    ·intro k hk j hj
     rw [hset] at hk ⊢
     rw [Bool.or_eq_true] at hk ⊢
     rcases hk with hk | hk
     ·exact .inl (hcl k hk j hj)
     ·have:=Nat.eq_of_beq_eq_true hk
      subst this; exact .inl (hpre j hj)
    ·have e:(fun j=>(listed.setIfInBounds i true).getD j false)=fun j=>(listed.getD j false || Nat.beq i j):=funext hset
     rw [e]; exact hv
   have step':∀ v w2,nC ds (fun e a' w'=>e = .normal/\Inv (fun j=>listed.getD j false || Nat.beq i j) a' w') .normal ((gp a ds).put o.dst v) w2->wpAnyIn (fw ro) 0 P .any l.toArray (nC ds Q) f (listed.setIfInBounds i true) ((gp a ds).put o.dst v) w2:=fun v w2 ⟨a0,h0,e,h⟩=>by
    rw [iQ] at e ⊢
    rw [<- En e (zg (hdef _ _ _ inv) _ _) h0] at h
    exact step v w2 ⟨trivial,h.2⟩
   unfold wpOpIn
   simp only [ho]
   simp only [wpListIn] at hw
   try simp only [eq_self_iff_true] at hw
   by_cases hwant:Region.wanted o (yielded l.toArray (gp a ds).tmps)=true
   ·rw [if_pos hwant] at hw ⊢
    unfold Oper.wpIn at hw ⊢
    refine ⟨fun _ _=>trivial,wm hw.2 step' (fun d w2 ⟨a0,h0,e,h⟩=>?_) (fun e a w he ⟨_,_,_,h⟩=>he h.1)⟩
    have:=congrArg Act.defers e
    cases hd:o.dst <;> rw [hd] at this <;> simp [Act.put,gp] at this
   ·rw [if_neg hwant] at hw ⊢
    exact ⟨fun _ _=>trivial,step' undef w hw.2⟩
 have hcount:(List.range l.length).countP (fun i=>!(Array.replicate l.toArray.size false).getD i false)=l.length:=by
  rw [List.countP_eq_length.2 (fun i _=>by rw [getD_replicate_false]; rfl),List.length_range]
 have:=main l.length (Array.replicate l.toArray.size false) a { w with drawn:=w.drawn+1 } (by simp) hcount (fun k hk=>by rw [getD_replicate_false] at hk; cases hk) (by
  have e:(fun i=>(Array.replicate l.toArray.size false).getD i false)=fun _=>false:=funext fun i=>getD_replicate_false _ _
  rw [e]; exact h0)
 rw [show l.toArray.size=l.length by simp]
 exact this
theorem iZ {m j:Nat}:bitN m j=m.testBit j:=by
 rw [Nat.testBit_eq_decide_div_mod_eq]
 show Nat.beq ((m >>> j) &&& 1) 1=_
 rw [Nat.and_one_is_mod,Nat.shiftRight_eq_div_pow]
 generalize m / 2 ^ j % 2=q
 by_cases h:q=1
 ·subst h; rfl
 ·rw [decide_eq_false h,<- Bool.not_eq_true,Nat.beq_eq]; exact h
theorem Mi {a b j:Nat}:bitN (Nat.lor a b) j=(bitN a j || bitN b j):=by
 rw [iZ,iZ,iZ]
 exact Nat.testBit_or a b j
theorem Ks {k j:Nat}:bitN (Nat.shiftLeft 1 k) j=true↔j=k:=by
 rw [iZ]
 show (1 <<< k).testBit j=true↔_
 rw [Nat.testBit_shiftLeft,Bool.and_eq_true,decide_eq_true_eq,Nat.testBit_one_eq_true_iff_self_eq_zero]
 omega
theorem Fw {j:Nat}:bitN 0 j=false:=by rw [iZ]; exact Nat.zero_testBit j
theorem mE {acc:List Nat} {j:Nat}:∀ {l:List Nat},bitN (fU acc l) j=true↔∃ k ∈ l,j=k\/bitN (acc.getD k 0) j=true
 | []=>by simp [fU,Fw]
 | k :: r=>by simp only [fU,Mi,Bool.or_eq_true,Ks,mE,List.mem_cons,or_and_right,exists_or,exists_eq_left]
theorem vA:∀ {l:List Oper} {acc:List Nat},(gm acc l).length=acc.length+l.length
 | [],_=>by simp [gm]
 | o :: r,acc=>by
  have:=vA (l:=r) (acc:=acc++[fU acc (eO o)])
  simp only [gm,this]
  simp; omega
theorem oH:∀ {l:List Oper} {acc:List Nat} {k:Nat},k<acc.length->(gm acc l).getD k 0=acc.getD k 0
 | [],_,_,_=>rfl
 | o :: r,acc,k,h=>by
  simp only [gm]
  rw [oH (by simp; omega),List.getD_eq_getElem?_getD,List.getElem?_append_left h,List.getD_eq_getElem?_getD]
theorem nj:∀ {l:List Oper} {k:Nat},n_ k l=true->∀ i,∀ j ∈ bN l i,j<k+i
 | [],_,_,i,j,hj=>by simp [bN] at hj
 | o :: r,k,h,i,j,hj=>by
  simp only [n_,Bool.and_eq_true] at h
  cases i with
  | zero=>exact fB.1 h.1 j (by simpa [bN] using hj)
  | succ i=>
   have:=nj h.2 i j (by simpa [bN] using hj)
   omega
theorem tz:∀ {l:List Oper} {acc:List Nat} {i:Nat},(∀ i,∀ j ∈ bN l i,j<acc.length+i)->i<l.length->(gm acc l).getD (acc.length+i) 0=fU (gm acc l) (bN l i)
 | [],_,_,_,h=>by simp at h
 | o :: r,acc,0,hp,_=>by
  simp only [gm]
  have e:(gm (acc++[fU acc (eO o)]) r).getD (acc.length+0) 0=fU acc (eO o):=by
   rw [oH (by simp),List.getD_eq_getElem?_getD]; simp
  rw [e]
  have hpa:bN (o :: r) 0=eO o:=rfl
  rw [hpa]
  have key:∀ l:List Nat,(∀ j ∈ l,j<acc.length)->fU acc l=fU (gm (acc++[fU acc (eO o)]) r) l:=by
   intro l
   induction l with
   | nil=>intro _; rfl
   | cons k t ih=>
    intro hl
    have hk:=hl k (by simp)
    simp only [fU]
    rw [ih fun j hj=>hl j (by simp [hj]),oH (show k<(acc++[fU acc (eO o)]).length by simp; omega)]
    congr 2
    rw [List.getD_eq_getElem?_getD,List.getD_eq_getElem?_getD,List.getElem?_append_left hk]
  exact key _ fun j hj=>by have:=hp 0 j (by rw [hpa]; exact hj); omega
 | o :: r,acc,i+1,hp,hi=>by
  simp only [gm]
  have:=tz (l:=r) (acc:=acc++[fU acc (eO o)]) (i:=i) (fun k j hj=>by
   have:=hp (k+1) j (by simpa [bN] using hj)
   simp; omega) (by simpa using hi)
  simp only [List.length_append,List.length_singleton] at this
  rw [show acc.length+(i+1)=acc.length+1+i by omega,this]
  simp [bN]
theorem oo {l:List Oper} {s:Nat->Bool} (hp:∀ i,∀ j ∈ bN l i,j<i) (hcl:∀ k,s k=true->∀ j ∈ bN l k,s j=true):∀ (n i:Nat),i<=n->i<l.length->(∀ j ∈ bN l i,s j=true)->∀ j,bitN ((gm [] l).getD i 0) j=true->s j=true:=by
 intro n
 induction n with
 | zero=>
  intro i hi hl hpi j hb
  have:=tz (acc:=[]) (fun i j hj=>by have:=hp i j hj; simp; omega) hl
  simp only [List.length_nil,Nat.zero_add] at this
  rw [this,mE] at hb
  obtain ⟨k,hk,_⟩:=hb
  have:=hp i k hk
  omega
 | succ n ih=>
  intro i hi hl hpi j hb
  have:=tz (acc:=[]) (fun i j hj=>by have:=hp i j hj; simp; omega) hl
  simp only [List.length_nil,Nat.zero_add] at this
  rw [this,mE] at hb
  obtain ⟨k,hk,rfl | hb⟩:=hb
  ·exact hpi _ hk
  ·have hki:=hp i k hk
   exact ih k aG aG (hcl k (hpi k hk)) j hb
def gz (a:Act):Nat->Fr
 | 0=>[]
 | k+1=>(k,a.tmps.getD k undef) :: gz a k
theorem eZ {a:Act} {t:Nat}:∀ {n:Nat},look (gz a n) t=if t<n then some (a.tmps.getD t undef) else none
 | 0=>rfl
 | k+1=>by
  simp only [gz,bh,eZ]
  by_cases h:k=t
  ·subst h; rw [if_pos rfl,if_pos (by omega)]
  ·rw [if_neg h]
   by_cases h2:t<k
   ·rw [if_pos h2,if_pos (by omega)]
   ·rw [if_neg h2,if_neg (by omega)]
theorem Sg {n:Nat} {a a':Act} (h:a.defers=[]) (h':a'.defers=[]) (hs:a.tmps.size=n) (hs':a'.tmps.size=n) (ht:∀ t,t<n->a'.tmps.getD t undef=a.tmps.getD t undef):a' = a:=by
 cases a with
 | mk t d=>
 cases a' with
 | mk t' d'=>
 simp only at h h' hs hs' ht
 subst h; subst h'
 congr 1
 refine Array.ext (by omega) fun i h1 h2=>?_
 have:=ht i (by omega)
 simpa [Array.getD,h1,h2] using this
theorem Jv {n:Nat} {a:Act} (h:a.defers=[]) (hs:a.tmps.size=n):M n (gz a n) a:=⟨h,hs,fun i v hv=>by
 rw [eZ] at hv
 split at hv
 ·cases hv; exact ⟨‹_›,rfl⟩
 ·cases hv⟩
theorem jQ {n:Nat} {a:Act} {d:Option Nat} {u:Value} (hs:a.tmps.size=n) {t:Nat} (ht:t<n):(a.put d u).tmps.getD t undef=if d=some t then u else a.tmps.getD t undef:=by
 cases d with
 | none=>simp [Act.put]
 | some d=>
  by_cases hd:d=t
  ·subst hd; simp [Act.put,Array.getD,hs,ht]
  ·have h2:¬ (some d=some t):=fun e=>hd (Option.some.inj e)
   rw [if_neg h2]
   have h3:t<a.tmps.size:=by omega
   have h4:(a.tmps.setIfInBounds d u)[t]? = a.tmps[t]?:=Array.getElem?_setIfInBounds_ne hd
   show (a.tmps.setIfInBounds d u).getD t undef=_
   rw [Array.getD_eq_getD_getElem?,Array.getD_eq_getD_getElem?,h4]
theorem o_ {n:Nat} {a a':Act} {d:Option Nat} {u:Value} (h:a.defers=[]) (hs:a.tmps.size=n) (hM:M n (gR d u (gz a n)) a'):a' = a.put d u:=by
 have hp:(a.put d u).defers=[]/\(a.put d u).tmps.size=n:=by cases d <;> simp [Act.put,h,hs]
 refine Sg hp.1 hM.1 hp.2 hM.2.1 fun t ht=>?_
 rw [jQ hs ht]
 cases d with
 | none=>
  rw [if_neg (by simp)]
  exact (hM.2.2 t (a.tmps.getD t undef) (by show look (gz a n) t=_; rw [eZ,if_pos ht])).2
 | some d=>
  by_cases hd:d=t
  ·subst hd
   rw [if_pos rfl]
   exact (hM.2.2 d u (by show look ((d,u) :: gz a n) d=_; rw [bh,if_pos rfl])).2
  ·rw [if_neg (fun e=>hd (Option.some.inj e))]
   exact (hM.2.2 t (a.tmps.getD t undef) (by show look ((d,u) :: gz a n) t=_; rw [bh,if_neg hd,eZ,if_pos ht])).2
theorem eM.sub {P:Program} {n:Nat} {F F':Fr} {w:World} {op:Op} {ty:TypeId} {φ:Value->World->Prop} (h:∀ a,M n F' a->M n F a) (k:eM P n F w op ty φ):eM P n F' w op ty φ:=by
 rcases k with (⟨v,w',h1,h2⟩ | ⟨f,args,h1,h2⟩) | ⟨h0,w',h1,h2⟩
 ·exact .inl (.inl ⟨v,w',fun a d pos af g ha=>h1 a d pos af g (h a ha),h2⟩)
 ·exact .inl (.inr ⟨f,args,fun a d pos af g ha=>h1 a d pos af g (h a ha),h2⟩)
 ·exact .inr ⟨h0,w',fun a d pos af g ha=>h1 a d pos af g (h a ha),h2⟩
section
variable {P:Program} {n:Nat} {l:List Oper} {a:Act} {w:World}
theorem AN {o:Oper} (h:a.defers=[]) (hs:a.tmps.size=n) {F:Fr} (hF:∀ i v,look F i=some v->i<n/\a.tmps.getD i undef=v) {Φ:Value->World->Prop} (hy:eM P n F w o.op o.type Φ) (hd:∀ d,o.dst=some d->Nat.blt d n=true) (hst:isSt o.op=true->o.dst=none)
  (hg:∀ j wt,o.guard=some (j,wt)->∃ t,idst l j=some t/\t<n/\a.tmps.getD t undef = .bool wt) {Q:Exit->Act->World->Prop} (hQ:∀ u w',Φ u w' -> Q .normal (a.put o.dst u) w'):H_ P l.toArray Q [o] a w:=by
 have hM:=Jv h hs
 have hy':=eM.sub (F':=gz a n) (fun a' ha=>⟨ha.1,ha.2.1,fun i v hv=>by
  obtain ⟨h1,h2⟩:=hF i v hv
  have:=(ha.2.2 i (a.tmps.getD i undef) (by rw [eZ,if_pos h1])).2
  exact ⟨h1,this.trans h2⟩⟩) hy
 obtain ⟨dst,op,ty,pos,af,g⟩:=o
 simp only at hd hst hg hQ hy'
 have main:WO P Q n l [⟨dst,op,ty,pos,af,none⟩] (gz a n) w:=by
  rcases hy' with hy' | ⟨h0,w',h1,h2⟩
  ·exact WO.y hy' hd fun v w' hv=>WO.nil fun a' ha'=>by rw [o_ h hs ha']; exact hQ _ _ hv
  ·obtain rfl:=hst h0
   exact WO.s h1 (WO.nil fun a' ha'=>by
    have e:=o_ (d:=none) (u:=undef) h hs ha'
    rw [e]; exact hQ _ _ h2)
 cases g with
 | none=>exact main a hM
 | some g=>
  obtain ⟨j,wt⟩:=g
  obtain ⟨t,h1,h2,h3⟩:=hg j wt rfl
  exact WO.on h1 (by rw [eZ,if_pos h2,h3]) rfl main a hM
theorem CZ {o:Oper} (h:a.defers=[]) (hs:a.tmps.size=n) (hd:∀ d,o.dst=some d->Nat.blt d n=true) {j:Nat} {wt:Bool} (hg:o.guard=some (j,wt)) {t:Nat} (ht:idst l j=some t) (htn:t<n) (hv:a.tmps.getD t undef = .bool (!wt)\/a.tmps.getD t undef=undef) {Q:Exit->Act->World->Prop} (hQ:Q .normal (a.put o.dst undef) w):H_ P l.toArray Q [o] a w:=by
 have hM:=Jv h hs
 obtain ⟨dst,op,ty,pos,af,g⟩:=o
 simp only at hd hg hQ
 subst hg
 have hl:look (gz a n) t=some (a.tmps.getD t undef):=by rw [eZ,if_pos htn]
 have fin:WO P Q n l [] (gR dst undef (gz a n)) w:=WO.nil fun a' ha'=>by rw [o_ h hs ha']; exact hQ
 cases dst with
 | some d=>
  rcases hv with hv | hv
  ·exact WO.off ht (by rw [hl,hv]) rfl (hd d rfl) fin a hM
  ·exact WO.Sk ht (by rw [hl,hv]) (hd d rfl) fin a hM
 | none=>
  have fin:WO P Q n l [] (gz a n) w:=fin
  rcases hv with hv | hv
  ·exact WO.Uw ht (by rw [hl,hv]) rfl fin a hM
  ·exact WO.Ot ht (by rw [hl,hv]) fin a hM
end
def RunOK (P:Program) (shp:TypeId->Option Sh) (n:Nat) (ro:Lv) (o:Oper) (r:RC):Prop:=∀ (G:Gl) (ρ:List RE) (w:World) (F:Fr),G.shp=shp->Rep G ρ (maskH r.σ 0 r.H0) w->FrR (cx G ρ w) ρ (dr r.fr0 r.U) F->(∀ p ∈ r.ob,p) ->
 eM P n F w o.op o.type fun u w'=>∃ ρ',Stp ⟨fun i=>cf i r.ch && ro.wr i,fun i=>cf i r.mv && ro.mv i⟩ ρ w ρ' w' /\ Rep G ρ' r.res w' /\ Rt (cx G ρ' w') ρ' r.v u/\∀ p ∈ r.fc,p
def EntOK (P:Program) (shp:TypeId->Option Sh) (n:Nat) (ro:Lv) (o:Oper) (r:RC) (e:Ent) (p:Nat):Prop:=∀ (G:Gl) (ρ:List RE) (w:World) (F:Fr) (S:AH),G.shp=shp->Rep G ρ S w->FrR (cx G ρ w) ρ (dr r.fr0 r.U) F->(S[p]?).map kd=(r.H0[p]?).map kd ->
 ∃ w',fR P n F w o.op o.type w' /\ Rep G ρ (S.set p (e.put (getO S p))) w' /\ Stp ro ρ w ρ w'
structure RcOK (P:Program) (shp:TypeId->Option Sh) (n:Nat) (ro:Lv) (l:List Oper) (rs:List RC) (o:Oper) (i:Nat) (r:RC):Prop where
 dst:r.dst=o.dst
 dn:∀ d,o.dst=some d->Nat.blt d n=true
 st:r.on=true->isSt o.op=true->o.dst=none
 run:r.on=true->(r.ent=none/\RunOK P shp n ro o r)\/∃ e p,r.ent=some e/\r.ch=[p]/\r.mv=[]/\r.v = .un/\r.fc=[]/\r.res.length=r.base/\isSt o.op=true/\EntOK P shp n ro o r e p
 off:r.on=false->r.ch=[]/\r.mv=[]/\r.σ=[]/\r.res=maskH [] 0 r.H0/\r.ent=none/\r.v = .un/\r.fc=[]
 gd:(o.guard=none/\r.on=true)\/∃ j wt t,o.guard=some (j,wt)/\idst l j=some t/\t ∈ r.U/\((∃ rj,rs[j]? = some rj/\j<i/\rj.on=false/\r.on=false)\/∃ b,lookA r.fr0 t=some (one (.bool (.lit b)))/\r.on=(b == wt))
theorem Dr {a b:RC} (h:okI a b=true):okI b a=true:=by
 have hd:disj a.ch b.ch=true->disj b.ch a.ch=true:=fun h=>cG.2 fun i hi hb=>cG.1 h i hb hi
 unfold okI at h ⊢
 cases ha:a.ent <;> cases hb:b.ent <;> rw [ha,hb] at h <;> simp only at h ⊢ <;> first | exact hd h | skip
 simp only [Bool.or_eq_true,Bool.not_eq_true',decide_eq_false_iff_not] at h ⊢
 exact h.imp hd fun h e=>h e.symm
theorem vk {m:Nat} {b:RC}:∀ {l:List RC} {k:Nat},AL m b k l=true->∀ i a,l[i]? = some a->bitN m (k+i)=true\/(OkD a b/\OkD b a/\okI a b=true)
 | [],_,_,i,a,h=>by simp at h
 | x :: r,k,h,i,a,ha=>by
  simp only [AL,Bool.and_eq_true,Bool.or_eq_true] at h
  cases i with
  | zero=>
   simp at ha; subst ha
   rw [Nat.add_zero]
   exact h.1.imp id fun ⟨⟨h1,h2⟩,h3⟩=>⟨zS h1,zS h2,h3⟩
  | succ i=>
   have:=vk h.2 i a (by simpa using ha)
   rwa [show k+1+i=k+(i+1) by omega] at this
theorem q_ {b:RC}:∀ {l:List RC},rI b l=true->∀ a ∈ l,∀ d,a.dst=some d->b.dst≠some d
 | [],_,a,h,_,_=>by simp at h
 | x :: r,h,a,ha,d,hd=>by
  simp only [rI,Bool.and_eq_true] at h
  rcases List.mem_cons.1 ha with rfl | ha
  ·intro hb
   have:=h.1
   rw [hd,hb] at this
   simp at this
  ·exact q_ h.2 a ha d hd
structure OkAt (bef:List Nat) (j:Nat) (b:RC) (done:List RC):Prop where
 fit:b.Fit
 U:∀ i ∈ slotIds b.fr0 b.U,i<b.base
 σ:∀ i ∈ objIds b.H0 b.σ,i<b.base
 σb:∀ i ∈ b.σ,i<b.base
 ch:∀ i ∈ b.ch,i<b.base
 row:∀ i a,done[i]? = some a->bitN (bef.getD j 0) i=true\/(OkD a b/\OkD b a/\okI a b=true)
 dst:∀ a ∈ done,∀ d,a.dst=some d->b.dst≠some d
theorem yT {bef:List Nat}:∀ {rest done:List RC} {j:Nat},done.length=j->xi bef j done rest=true->∀ i b,rest[i]? = some b->OkAt bef (j+i) b ((done++rest).take (j+i))
 | [],_,_,_,_,i,b,h=>by simp at h
 | x :: r,done,j,hl,h,i,b,hb=>by
  simp only [xi,Bool.and_eq_true] at h
  obtain ⟨⟨⟨⟨⟨⟨⟨⟨⟨h1,h2⟩,h3⟩,h4⟩,h4b⟩,h5⟩,h6⟩,h7⟩,h8⟩,h9⟩:=h
  cases i with
  | zero=>
   simp at hb; subst hb
   have e:(done++x :: r).take (j+0)=done:=by rw [Nat.add_zero,<- hl]; simp
   rw [e,Nat.add_zero]
   exact ⟨⟨Nat.eq_of_beq_eq_true h1,Nat.le_of_ble_eq_true h2⟩,fB.1 h3,fB.1 h4,fB.1 h4b,fB.1 h5,fun i a ha=>by
    have:=vk h8 i a ha
    rwa [Nat.zero_add] at this,q_ h6⟩
  | succ i=>
   have:=yT (rest:=r) (done:=done++[x]) (j:=j+1) (by simp [hl]) h9 i b (by simpa using hb)
   rw [show j+1+i=j+(i+1) by omega] at this
   simpa using this
section
variable {P:Program} {T:List (Nat × TI)} {shp:TypeId->Option Sh} {n:Nat} {ro:Lv} {l:List Oper}
def FrA (c:Cx) (ρ:List RE) (n:Nat) (fr:AFr) (a:Act):Prop:=∀ t v,lookA fr t=some v->t<n/\Rt c ρ v (a.tmps.getD t undef)
def LB (G:Gl) (ro:Lv) (ρ0:List RE) (w0:World) (n:Nat) (q0:AFr × AH) (rs:List RC) (s:Nat->Bool) (a:Act) (w:World):Prop:=
 ∃ ρ,Stp ro ρ0 w0 ρ w/\Rep G ρ (gk s 0 rs q0).2 w/\FrA (cx G ρ w) ρ n (gk s 0 rs q0).1 a/\a.defers=[]/\a.tmps.size=n/\∀ k r,rs[k]? = some r->s k=true->(∀ p ∈ r.fc,p)/\(r.on=false->∀ d,r.dst=some d->a.tmps.getD d undef=undef)
def vv (a:Act):AFr->Fr
 | []=>[]
 | (t,_) :: r=>(t,a.tmps.getD t undef) :: vv a r
theorem mw {a:Act} {t:Nat} {v:Value}:∀ {fr:AFr},look (vv a fr) t=some v->v=a.tmps.getD t undef/\∃ tv,lookA fr t=some tv
 | [],h=>by cases h
 | (i,x) :: r,h=>by
  simp only [vv,bh] at h
  rw [dk]
  by_cases hi:i=t
  ·subst hi; rw [if_pos rfl] at h ⊢; cases h; exact ⟨rfl,_,rfl⟩
  ·rw [if_neg hi] at h ⊢; exact mw h
theorem g_ {fr:AFr} {t:Nat} {tv:TV}:∀ {U:List Nat},lookA (dr fr U) t=some tv->t ∈ U/\lookA fr t=some tv
 | [],h=>by cases h
 | u :: r,h=>by
  simp only [dr] at h
  split at h
  ·rename_i v hv
   rw [dk] at h
   by_cases hi:u=t
   ·subst hi; rw [if_pos rfl] at h; cases h; exact ⟨by simp,hv⟩
   ·rw [if_neg hi] at h
    obtain ⟨h1,h2⟩:=g_ h; exact ⟨by simp [h1],h2⟩
  ·obtain ⟨h1,h2⟩:=g_ h; exact ⟨by simp [h1],h2⟩
theorem jB {fr:AFr} {q:Nat × TV}:∀ {U:List Nat},q ∈ dr fr U->q.1 ∈ U/\lookA fr q.1=some q.2
 | [],h=>by simp [dr] at h
 | u :: r,h=>by
  simp only [dr] at h
  split at h
  ·rename_i v hv
   rcases List.mem_cons.1 h with rfl | h
   ·exact ⟨by simp,hv⟩
   ·obtain ⟨h1,h2⟩:=jB h; exact ⟨by simp [h1],h2⟩
  ·obtain ⟨h1,h2⟩:=jB h; exact ⟨by simp [h1],h2⟩
theorem nV {c:Cx} {ρ:List RE} {a:Act}:∀ {fr:AFr},(∀ q ∈ fr,Rt c ρ q.2 (a.tmps.getD q.1 undef))->FrR c ρ fr (vv a fr)
 | [],_=>.nil
 | (t,v) :: r,h=>.cons ⟨rfl,h (t,v) (by simp)⟩ (nV fun q hq=>h q (by simp [hq]))
theorem lF {a:Act} {d:Option Nat} {u:Value} (h:a.defers=[]) (hs:a.tmps.size=n):(a.put d u).defers=[]/\(a.put d u).tmps.size=n:=by cases d <;> simp [Act.put,h,hs]
theorem Bs {mv:List Nat} {v:TV}:killTV mv v=v.mapA (AV.cn mv):=by
 cases mv with
 | cons _ _=>rfl
 | nil=>
  have e:∀ a:AV,a.cn []=a:=fun a=>fi (by simp)
  cases v with
  | one t=>exact congrArg TV.one (pU fun a _=>e a).symm
  | tup l=>exact congrArg TV.tup (rP fun t _ a _=>e a).symm
  | un=>rfl
theorem Rt.JA {c c':Cx} {ρ ρ':List RE} {mv:List Nat} (hg:∀ a v,Rd c ρ a v->Rd c' ρ' (AV.cn mv a) v) {t:TV} {v:Value} (h:Rt c ρ t v):Rt c' ρ' (killTV mv t) v:=by
 rw [Bs]
 cases t with
 | one t=>exact sJ hg h
 | tup l=>obtain ⟨vs,e,h⟩:=h; exact ⟨vs,e,yL hg h⟩
 | un=>trivial
theorem Rep.q {G:Gl} {ρ:List RE} {A B:AH} {w:World} (h:Rep G ρ A w) (hl:B.length=A.length) (hq:∀ x:Nat,OOq (B[x]?) (A[x]?)):Rep G ρ B w:=by
 refine ⟨cE (by rw [hl]; exact h.obj.length) fun x o r ho hr=>?_,h.inj,h.bnd,h.z,h.b0⟩
 have:=hq x
 rw [ho] at this
 cases hA:A[x]? with
 | none=>rw [hA] at this; cases this
 | some o'=>
  rw [hA] at this
  cases this with
  | some hh=>
   obtain ⟨r',hr',hor⟩:=h.at_ hA
   rw [hr] at hr'; cases hr'
   exact hh.symm.or hor
theorem Aa {c:Cx} {ρ:List RE} {b:Bool} {v:Value} (h:Rt c ρ (one (.bool (.lit b))) v):v = .bool b:=by
 have h:Pd c (.bool (.lit b)) v:=h
 cases h; rfl
variable {G:Gl} {ρ0:List RE} {w0:World} {q0:AFr × AH} {rs:List RC}
theorem Fo (hG:G.shp=shp) (hro:∀ i,ro.wr i=false\/ro.mv i=false->i<ρ0.length) (hq0:∀ i,i<ρ0.length->(ro.wr i=false\/ro.mv i=false)->i<q0.2.length) (hp:∀ i,∀ j ∈ bN l i,j<i) (hc:eS q0 rs) (hok:xi (gm [] l) 0 [] rs=true) (hlen:rs.length=l.length) (hrc:∀ i o r,l[i]? = some o->rs[i]? = some r->RcOK P shp n ro l rs o i r)
  (hob:∀ i r,rs[i]? = some r->(∀ j r',rs[j]? = some r' -> bitN ((gm [] l).getD i 0) j=true->∀ p ∈ r'.fc,p)->∀ p ∈ r.ob,p)
  {s:Nat->Bool} {a:Act} {w:World} {i:Nat} {o:Oper} (inv:LB G ro ρ0 w0 n q0 rs s a w) (ho:l[i]? = some o) (hsi:s i=false) (hpre:∀ j ∈ bN l i,s j=true) (hcl:∀ k,s k=true->∀ j ∈ bN l k,s j=true) :
  H_ P l.toArray (fun e a' w'=>e = .normal/\LB G ro ρ0 w0 n q0 rs (fun j=>s j || Nat.beq i j) a' w') [o] a w:=by
 obtain ⟨ρ,hS,hR,hf,hdf,hsz,hfc⟩:=inv
 have hil:i<l.length:=(List.getElem?_eq_some_iff.1 ho).1
 obtain ⟨b,hb⟩:∃ b,rs[i]? = some b:=⟨_,List.getElem?_eq_getElem (by omega)⟩
 have hbo:=hrc i o b ho hb
 have okAt:∀ j r,rs[j]? = some r->OkAt (gm [] l) j r (rs.take j):=fun j r hr=>by
  have:=yT (done:=[]) rfl hok j r hr
  simpa using this
 have hbk:=okAt i b hb
 have hbits:∀ j,bitN ((gm [] l).getD i 0) j=true->s j=true:=oo hp hcl i i (Nat.le_refl _) hil hpre
 -- what comes ahead,and behind
 have hbefore:∀ j r,rs[j]? = some r->j<i->s j=true\/(OkD b r/\OkD r b/\okI b r=true):=fun j r hr hj=>by
  rcases hbk.row j r (by rw [List.getElem?_take,if_pos hj]; exact hr) with h | ⟨h1,h2,h3⟩
  ·exact .inl (hbits j h)
  ·exact .inr ⟨h2,h1,Dr h3⟩
 have hbehind:∀ j r,rs[j]? = some r->i<j->s j=false\/(OkD b r/\OkD r b/\okI b r=true):=fun j r hr hj=>by
  cases hsj:s j with
  | false=>exact .inl rfl
  | true=>
   right
   rcases (okAt j r hr).row i b (by rw [List.getElem?_take,if_pos hj]; exact hb) with h | ⟨h1,h2,h3⟩
   ·have hjl:j<l.length:=by rw [<- hlen]; exact (List.getElem?_eq_some_iff.1 hr).1
    have:=oo hp hcl j j (Nat.le_refl _) hjl (hcl j hsj) i h
    rw [hsi] at this; cases this
   ·exact ⟨h1,h2,h3⟩
 have hdsts:∀ j r,rs[j]? = some r->i≠j->∀ d,b.dst=some d->r.dst≠some d:=fun j r hr hj d hd=>by
  rcases Nat.lt_or_gt_of_ne hj with h | h
  ·exact (okAt j r hr).dst b (List.mem_of_getElem? (by rw [List.getElem?_take,if_pos h]; exact hb)) d hd
  ·intro hrd
   exact hbk.dst r (List.mem_of_getElem? (by rw [List.getElem?_take,if_pos h]; exact hr)) d hrd hd
 -- the list of records,parted
 have hrs:rs=rs.take i++b :: rs.drop (i+1):=by
  have h1:=(List.getElem?_eq_some_iff.1 hb)
  obtain ⟨h1,h2⟩:=h1
  rw [<- h2,<- List.drop_eq_getElem_cons h1,List.take_append_drop]
 have hti:(rs.take i).length=i:=by
  have:=(List.getElem?_eq_some_iff.1 hb).1
  simp; omega
 generalize hpreD:rs.take i=pre at hrs hti
 generalize hpostD:rs.drop (i+1)=post at hrs
 have hpre_at:∀ j r,pre[j]? = some r->rs[j]? = some r/\j<i:=fun j r h=>by
  have hj:=(List.getElem?_eq_some_iff.1 h).1
  rw [<- hpreD,List.getElem?_take] at h
  split at h
  ·exact ⟨h,‹_›⟩
  ·cases h
 have hpost_at:∀ j r,post[j]? = some r->rs[i+1+j]? = some r:=fun j r h=>by
  rw [<- hpostD,List.getElem?_drop] at h; exact h
 have hcp:eS q0 pre/\eS (prg pre q0) (b :: post):=by rw [hrs] at hc; exact eS.Jl.1 hc
 obtain ⟨hc1,hb1,hb2,hbf,hc2⟩:=hcp
 have hbase:b.base=(prg pre q0).2.length:=by rw [<- hb2]; exact hbf.base
 have hst:∀ s',gk s' 0 rs q0=gk s' (i+1) post (bif s' i then b.app (gk s' 0 pre q0) else b.Cg (gk s' 0 pre q0)):=fun s'=>by
  rw [hrs,yW,hti,Nat.zero_add]; rfl
 have hl1:(gk s 0 pre q0).2.length=b.base:=by rw [hbase]; exact r_ hc1 rfl
 have hag:Agr b (gk s 0 pre q0) (prg pre q0):=zP hc1 (fun j r hr=>by
  rw [Nat.zero_add]
  obtain ⟨h1,h2⟩:=hpre_at j r hr
  exact (hbefore j r h1 h2).imp id fun ⟨h3,_,h4⟩=>⟨h3,h4⟩) ⟨rfl,fun _ _=>rfl,fun _ _=>rfl,fun _ _=>rfl⟩
 have hgb:AgrB b (gk s 0 rs q0):=by
  rw [hst s,hsi,cond_false]
  refine tX hbf hc2 (by rw [ct hbf hbase.symm]; exact Nat.le_refl _) ((fu hbf hl1).trans (ct hbf hbase.symm).symm) (fun j r hr=>(hbehind _ r (hpost_at j r hr) (by omega)).imp id fun ⟨h3,_,h4⟩=>⟨h3,h4⟩) ?_
  refine ⟨fun x hx hlt=>?_,fun x hx hlt=>?_,fun t ht=>?_,fun x hx hlt=>?_⟩
  ·rw [fQ hbf hl1,if_pos hlt,hag.ob x hx,hb2]
  ·rw [fQ hbf hl1,if_pos hlt,hag.kd x hx,hb2]
  ·show lookA (gk s 0 pre q0).1 t=_
   rw [hag.sl t ht,hb1]
  ·rw [fQ hbf hl1,if_neg (by omega),if_pos hlt]
 have hrel:Rel b (gk (fun j=>s j || Nat.beq i j) 0 rs q0) (gk s 0 rs q0):=by
  rw [hst s,hst (fun j=>s j || Nat.beq i j),hsi,cond_false]
  have e1:(false || Nat.beq i i)=true:=by simp
  rw [e1,cond_true]
  have ne:∀ j,j≠i->(s j || Nat.beq i j)=s j:=fun j hj=>by
   have:Nat.beq i j=false:=by rw [<- Bool.not_eq_true,Nat.beq_eq]; exact fun e=>hj e.symm
   rw [this,Bool.or_false]
  have e2:gk (fun j=>s j || Nat.beq i j) 0 pre q0=gk s 0 pre q0:=mR fun j _ hj=>ne j (by omega)
  have e3:∀ q,gk (fun j=>s j || Nat.beq i j) (i+1) post q=gk s (i+1) post q:=fun q=>mR fun j hj _=>ne j (by omega)
  rw [e2,e3]
  refine yx hbf hbk.ch hc2 (by rw [ct hbf hbase.symm]; exact Nat.le_refl _) ((fu hbf hl1).trans (ct hbf hbase.symm).symm) (fun j r hr=>⟨hbehind _ r (hpost_at j r hr) (by omega),hdsts _ r (hpost_at j r hr) (by omega)⟩) (BL hbf hl1)
 have hSl:b.res.length<=(gk s 0 rs q0).2.length:=by
  have h1:(gk s 0 rs q0).2.length=(prg rs q0).2.length:=r_ hc rfl
  rw [h1,hrs,sG]
  have:=xj hc2
  rw [ct hbf hbase.symm] at this
  exact this
 have hge:q0.2.length<=b.base:=by rw [hbase]; exact xj hc1
 generalize hq:gk s 0 rs q0=q at hR hf hgb hrel hSl
 generalize hq':gk (fun j=>s j || Nat.beq i j) 0 rs q0=q' at hrel
 have part:Part G ρ q.2 w b.base b.res.length:=⟨hR,hbf.le,hSl,hgb.gn⟩
 -- what is masked
 have hmask:maskH b.σ 0 (q.2.take b.base)=maskH b.σ 0 b.H0:=by
  refine List.ext_getElem? fun x=>?_
  rw [lT,lT,List.getElem?_take,Nat.zero_add]
  by_cases hx:x<b.base
  ·rw [if_pos hx]
   by_cases hm:x ∈ b.σ
   ·rw [hgb.ob x hm hx]
   ·simp only [if_neg hm]
    have h1:x<q.2.length:=by have:=hbf.le; omega
    have h2:x<b.H0.length:=by have:=hbf.base; omega
    rw [List.getElem?_eq_getElem h1,List.getElem?_eq_getElem h2]; rfl
  ·rw [if_neg hx,List.getElem?_eq_none (l:=b.H0) (by have:=hbf.base; omega)]
 have hσids:∀ x ∈ b.σ,∀ k ∈ (getO q.2 x).ids,k<b.base:=fun x hx k hk=>by
  have:=hgb.ob x hx (hbk.σb x hx)
  have e:getO q.2 x=getO b.H0 x:=by unfold getO; rw [List.getD_eq_getElem?_getD,List.getD_eq_getElem?_getD,this]
  rw [e] at hk
  exact hbk.σ k (qc hk hx)
 have hslot:∀ t ∈ b.U,∀ v,lookA b.fr0 t=some v->t<n/\Rt (cx G ρ w) ρ v (a.tmps.getD t undef):=fun t ht v hv=>hf t v (by rw [hgb.sl t ht]; exact hv)
 have hslotIds:∀ t ∈ b.U,∀ v,lookA b.fr0 t=some v->∀ k ∈ v.ids,k<b.base:=fun t ht v hv k hk=>hbk.U k (nh hv hk ht)
 have hro':∀ k,ro.wr k=false\/ro.mv k=false->k<b.base:=fun k hk=>Nat.lt_of_lt_of_le (hq0 k (hro k hk) hk) hge
 -- the guard's slot
 have hgs:∀ j wt t,o.guard=some (j,wt)->idst l j=some t->t ∈ b.U->∀ c,lookA b.fr0 t=some (one (.bool (.lit c)))->t<n/\a.tmps.getD t undef = .bool c:=fun j wt t _ _ ht c hc=>by
  obtain ⟨h1,h2⟩:=hslot t ht _ hc
  exact ⟨h1,Aa h2⟩
 -- behind it
 have clause:∀ u k r,rs[k]? = some r->k≠i->s k=true->(∀ p ∈ r.fc,p)/\(r.on=false->∀ d,r.dst=some d->(a.put o.dst u).tmps.getD d undef=undef):=fun u k r hr hk hsk=>by
  obtain ⟨h1,h2⟩:=hfc k r hr hsk
  refine ⟨h1,fun hoff d hd=>?_⟩
  have hkl:k<l.length:=by rw [<- hlen]; exact (List.getElem?_eq_some_iff.1 hr).1
  have hrk:=hrc k _ r (List.getElem?_eq_getElem hkl) hr
  have hdn:d<n:=by have:=hrk.dn d (by rw [<- hrk.dst]; exact hd); exact Nat.blt_eq.mp this
  rw [jQ hsz hdn,if_neg (fun e=>hdsts k r hr (Ne.symm hk) d (by rw [hbo.dst]; exact e) hd)]
  exact h2 hoff d hd
 have hsne:∀ k,(s k || Nat.beq i k)=true->k≠i->s k=true:=fun k hk hne=>by
  have:Nat.beq i k=false:=by rw [<- Bool.not_eq_true,Nat.beq_eq]; exact fun e=>hne e.symm
  rwa [this,Bool.or_false] at hk
 have fin:∀ u w' ρt,b.ent=none->Stp ⟨fun i=>cf i b.ch && ro.wr i,fun i=>cf i b.mv && ro.mv i⟩ (ρ.take b.base) w ρt w' -> Rep (Gz G (ρ.drop b.res.length)) ρt b.res w' -> Rt (cx (Gz G (ρ.drop b.res.length)) ρt w') ρt b.v u->(∀ p ∈ b.fc,p)->(b.on=false->u=undef)->LB G ro ρ0 w0 n q0 rs (fun j=>s j || Nat.beq i j) (a.put o.dst u) w':=by
  intro u w' ρt hent hSt hRt hv hfcb hoff
  obtain ⟨k1,k2,k3,k4⟩:=part.merge rfl rfl hent hbk.ch hro' hSt hRt hrel.len hrel.ob
  refine ⟨_,hS.trans k2,by rw [hq']; exact k1,fun t v hv'=>?_,(lF hdf hsz).1,(lF hdf hsz).2,fun k r hr hsk=>?_⟩
  ·rw [hq',hrel.sl t] at hv'
   unfold RC.endF at hv'
   by_cases hd:b.dst=some t
   ·rw [if_pos hd] at hv'
    cases hv'
    rw [hbo.dst] at hd
    have htn:t<n:=Nat.blt_eq.mp (hbo.dn t hd)
    rw [jQ hsz htn,if_pos hd]
    exact ⟨htn,k4 _ _ hv⟩
   ·rw [if_neg hd,Option.map_eq_some_iff] at hv'
    obtain ⟨v0,h1,rfl⟩:=hv'
    obtain ⟨h2,h3⟩:=hf t v0 h1
    rw [hbo.dst] at hd
    rw [jQ hsz h2,if_neg hd]
    exact ⟨h2,h3.JA k3⟩
  ·by_cases hk:k=i
   ·subst hk
    rw [hb] at hr; cases hr
    refine ⟨hfcb,fun ho' d hd=>?_⟩
    rw [hbo.dst] at hd
    rw [jQ hsz (Nat.blt_eq.mp (hbo.dn d hd)),if_pos hd]
    exact hoff ho'
   ·exact clause u k r hr hk (hsne k hsk hk)
 cases hon:b.on with
 | false=>
  obtain ⟨e1,e2,e3,e4,e5,e6,e7⟩:=hbo.off hon
  rcases hbo.gd with ⟨_,h2⟩ | ⟨j,wt,t,hg,ht,htU,hcase⟩
  ·rw [hon] at h2; cases h2
  ·have htv:t<n/\(a.tmps.getD t undef = .bool (!wt)\/a.tmps.getD t undef=undef):=by
    rcases hcase with ⟨rj,hrj,hji,hoffj,_⟩ | ⟨c,hc,hb2⟩
    ·have hjl:j<l.length:=by omega
     have hrcj:=hrc j _ rj (List.getElem?_eq_getElem hjl) hrj
     have hdj:rj.dst=some t:=by
      rw [hrcj.dst]
      have:=ht
      rw [ig,List.getElem?_eq_getElem hjl] at this
      exact this
     have hsj:s j=true:=by
      rcases hbefore j rj hrj hji with h | ⟨h,_,_⟩
      ·exact h
      ·exact absurd htU (h.dst t hdj)
     exact ⟨Nat.blt_eq.mp (hrcj.dn t (by rw [<- hrcj.dst]; exact hdj)),.inr ((hfc j rj hrj hsj).2 hoffj t hdj)⟩
    ·obtain ⟨h1,h2⟩:=hgs j wt t hg ht htU c hc
     refine ⟨h1,.inl ?_⟩
     rw [h2]
     rw [hon] at hb2
     cases c <;> cases wt <;> simp at hb2 ⊢
   refine CZ hdf hsz hbo.dn hg ht htv.1 htv.2 ⟨rfl,fin undef w (ρ.take b.base) e5 (Stp.refl _ _ _) ?_ (by rw [e6]; trivial) (by rw [e7]; simp) fun _=>rfl⟩
   have key:maskH b.σ 0 (q.2.take b.base)=b.res:=by rw [hmask,e3,e4]
   have hm:=part.mask hσids
   rw [key] at hm
   exact hm
 | true=>
  have hg:∀ j wt,o.guard=some (j,wt)->∃ t,idst l j=some t/\t<n/\a.tmps.getD t undef = .bool wt:=fun j wt hgd=>by
   rcases hbo.gd with ⟨h1,_⟩ | ⟨j',wt',t,hg,ht,htU,hcase⟩
   ·rw [hgd] at h1; cases h1
   ·rw [hgd] at hg; cases hg
    rcases hcase with ⟨_,_,_,_,h⟩ | ⟨c,hc,hb2⟩
    ·rw [hon] at h; cases h
    ·obtain ⟨h1,h2⟩:=hgs j wt t hgd ht htU c hc
     refine ⟨t,ht,h1,?_⟩
     rw [h2]
     rw [hon] at hb2
     cases c <;> cases wt <;> simp at hb2 ⊢
  have hF:∀ k v,look (vv a (dr b.fr0 b.U)) k=some v->k<n/\a.tmps.getD k undef=v:=fun k v hk=>by
   obtain ⟨h1,tv,h2⟩:=mw hk
   obtain ⟨h3,h4⟩:=g_ h2
   exact ⟨(hslot k h3 tv h4).1,h1.symm⟩
  rcases hbo.run hon with ⟨hent,hrun⟩ | ⟨e,p,hent,hch,hmv,hv,hfcb,hres,hst2,hrun⟩
  ·have hy:=hrun (Gz G (ρ.drop b.res.length)) (ρ.take b.base) w (vv a (dr b.fr0 b.U)) hG (by rw [<- hmask]; exact part.mask hσids) (nV fun x hx=>by
    obtain ⟨h1,h2⟩:=jB hx
    refine (hslot _ h1 _ h2).2.on part.cle fun k hk r hr _=>?_
    rw [List.getElem?_take,if_pos (hslotIds _ h1 _ h2 k hk)]; exact hr) (hob i b hb fun j r' hr' hbit=>(hfc j r' hr' (hbits j hbit)).1)
   exact AN hdf hsz hF hy hbo.dn (hbo.st hon) hg fun u w' ⟨ρt,h1,h2,h3,h4⟩=>⟨rfl,fin u w' ρt hent h1 h2 h3 h4 fun h=>by rw [hon] at h; cases h⟩
  ·have hpb:p<b.base:=hbk.ch p (by rw [hch]; simp)
   obtain ⟨w',h1,h2,h3⟩:=hrun G ρ w (vv a (dr b.fr0 b.U)) q.2 hG hR (nV fun x hx=>by
    obtain ⟨h1,h2⟩:=jB hx
    exact (hslot _ h1 _ h2).2) (hgb.kd p (by rw [hch]; simp) hpb)
   have hdst:=hbo.st hon hst2
   refine AN (Φ:=fun u x=>u=undef/\x=w') hdf hsz hF (.inr ⟨hst2,w',h1,rfl,rfl⟩) hbo.dn (hbo.st hon) hg fun u x ⟨_,hx⟩=>?_
   subst hx
   have hle:=h3.ext.le (G:=G)
   refine ⟨rfl,ρ,hS.trans h3,?_,fun t v hv'=>?_,(lF hdf hsz).1,(lF hdf hsz).2,fun k r hr hsk=>?_⟩
   ·rw [hq']
    refine h2.q (by rw [List.length_set]; exact hrel.len) fun x=>?_
    have:=hrel.ob x
    have hpl:p<q.2.length:=by omega
    by_cases hxp:x=p
    ·subst hxp
     rw [List.getElem?_set_self hpl]
     rw [List.getElem?_eq_getElem hpl,Option.map_some,RC.endO,if_neg (by omega),RC.obj,if_pos (by rw [hch]; simp),hent] at this
     rw [ft (List.getElem?_eq_getElem hpl)]
     exact this
    ·rw [List.getElem?_set_ne (fun e=>hxp e.symm)]
     have e9:(q.2[x]?).map (b.endO x)=q.2[x]?:=by
      cases q.2[x]? with
      | none=>rfl
      | some o=>
       rw [Option.map_some,RC.endO,if_neg (by omega),RC.eh (by rw [hch]; simpa using hxp),hmv]
       rfl
     rw [e9] at this
     exact this
   ·rw [hq',hrel.sl t] at hv'
    unfold RC.endF at hv'
    rw [hbo.dst,hdst,if_neg (by simp),hmv] at hv'
    have hv2:lookA q.1 t=some v:=by
     cases hx:lookA q.1 t with
     | none=>rw [hx] at hv'; cases hv'
     | some v0=>rw [hx] at hv'; exact hv'
    obtain ⟨h5,h6⟩:=hf t v hv2
    rw [jQ hsz h5,hdst,if_neg (by simp)]
    exact ⟨h5,h6.carry hle (iM.refl _)⟩
   ·by_cases hk:k=i
    ·subst hk
     rw [hb] at hr; cases hr
     exact ⟨by rw [hfcb]; simp,fun h=>by rw [hon] at h; cases h⟩
    ·exact clause u k r hr hk (hsne k hsk hk)
end
theorem Rd.qd {c:Cx} {ρ:List RE} {a:AV} {v:Value} (h:Rd c ρ a v):Qd c a v:=fun hp=>(fM hp).1 h
theorem fV {fr:AFr} {t:Nat}:∀ {U:List Nat},t ∈ U->lookA (dr fr U) t=lookA fr t
 | [],h=>by simp at h
 | u :: r,h=>by
  simp only [dr]
  split
  ·rename_i v hv
   rw [dk]
   by_cases hu:u=t
   ·subst hu; rw [if_pos rfl,hv]
   ·rw [if_neg hu]
    refine fV ?_
    rcases List.mem_cons.1 h with rfl | h
    ·exact absurd rfl hu
    ·exact h
  ·rename_i hv
   by_cases hu:u=t
   ·subst hu
    by_cases hr:u ∈ r
    ·exact fV hr
    ·rw [hv]
     cases h2:lookA (dr fr r) u with
     | none=>rfl
     | some x=>exact absurd (g_ h2).1 hr
   ·refine fV ?_
    rcases List.mem_cons.1 h with rfl | h
    ·exact absurd rfl hu
    ·exact h
theorem fO {fr:AFr} {U:List Nat} {x:Operand} (h:∀ t ∈ Operand.sl x,t ∈ U):dW (dr fr U) x=dW fr x:=by
 cases x with
 | tmp i=>exact fV (h i (by simp [Operand.sl]))
 | _=>rfl
theorem ri {fr:AFr}:∀ {A B:List Nat},dr fr (A++B)=dr fr A++dr fr B
 | [],_=>rfl
 | a :: r,B=>by
  simp only [List.cons_append,dr,ri (A:=r)]
  split <;> rfl
theorem pV {α β:Type} {R:α->β->Prop}:∀ {a b:List α} {F:List β},All2 R (a++b) F->∃ x y,F=x++y/\All2 R a x/\All2 R b y
 | [],b,F,h=>⟨[],F,rfl,.nil,h⟩
 | p :: a,b,_,h=>by
  cases h with
  | cons h1 h2=>
   obtain ⟨x,y,e,h3,h4⟩:=pV h2
   exact ⟨_ :: x,y,by rw [e]; rfl,.cons h1 h3,h4⟩
theorem DB {A B:Fr} {i:Nat} {v:Value}:look A i=some v->look (A++B) i=some v:=by
 intro h
 induction A with
 | nil=>cases h
 | cons q r ih=>
  obtain ⟨j,u⟩:=q
  rw [List.cons_append,bh]
  rw [bh] at h
  by_cases hj:j=i
  ·rw [if_pos hj] at h ⊢; exact h
  ·rw [if_neg hj] at h ⊢; exact ih h
theorem oV {g:Bool} {v:TV} {K:TV->Prop} (h:split g v K):∃ v',K v' /\ ∀ c ρ u,Rt c ρ v u->Rt c ρ v' u:=by
 unfold split at h
 split at h
 ·rename_i b hb
  have:=Option.some.inj (dA hb)
  subst this
  exact ⟨_,h,fun _ _ _ h=>h⟩
 ·rename_i e _ he
  have:=Option.some.inj (dA he)
  subst this
  cases hv:e.val with
  | true=>
   refine ⟨_,h.1 ((BE.eD e true).2 hv),fun c ρ u hu=>?_⟩
   have hu:Pd c (.bool e) u:=hu
   cases hu
   rw [hv]; exact Pd.bool (e:=.lit true)
  | false=>
   refine ⟨_,h.2 ((BE.eD e false).2 hv),fun c ρ u hu=>?_⟩
   have hu:Pd c (.bool e) u:=hu
   cases hu
   rw [hv]; exact Pd.bool (e:=.lit false)
 ·exact ⟨_,h,fun _ _ _ h=>h⟩
section
variable {P:Program} {T:List (Nat × TI)} {shp:TypeId->Option Sh} {O:cO} {n:Nat} {ro:Lv} {l:List Oper}
theorem vY {o:Oper} {fr:AFr} {A B:List Nat} {G:Gl} {ρ:List RE} {w:World} {F:Fr} (hf:FrR (cx G ρ w) ρ (dr fr (A++B)) F) {φ:Value->World->Prop} (h:∀ FA,FrR (cx G ρ w) ρ (dr fr A) FA->eM P n FA w o.op o.type φ):eM P n F w o.op o.type φ:=by
 rw [ri] at hf
 obtain ⟨FA,FB,rfl,h1,_⟩:=pV hf
 exact eM.sub (fun a ha=>⟨ha.1,ha.2.1,fun i v hv=>ha.2.2 i v (DB hv)⟩) (h FA h1)
theorem pure_run {o:Oper} {fr:AFr} {H:AH} {A B σ:List Nat} {v v':TV} {ob fc:List Prop} (hv:∀ c ρ u,Rt c ρ v u->Rt c ρ v' u)
  (h:∀ (G:Gl) (ρ:List RE) (w:World) (F:Fr),G.shp=shp->Rep G ρ (maskH σ 0 H) w->FrR (cx G ρ w) ρ (dr fr A) F->(∀ p ∈ ob,p)->Yields P n F w o.op o.type fun u w'=>Kp [] w w' /\ Rt (cx G ρ w') ρ v u/\∀ p ∈ fc,p) (b:Nat) :
  RunOK P shp n ro o ⟨true,o.dst,v',A++B,σ,[],[],b,maskH σ 0 H,none,ob,fc,fr,H⟩:=by
 intro G ρ w F hG hR hf hob
 refine vY hf fun FA hfA=>.inl ((h G ρ w FA hG hR hfA hob).mono fun u w' ⟨h1,h2,h3⟩=>⟨ρ,Stp.kp hR h1,hR.kp h1,hv _ _ _ h2,h3⟩)
theorem HC {c:Cx} {ρ:List RE} {H:AH}:∀ {asx:List AV} {us:List Value},(∀ i,i ∉ ea asx)->All2 (Rd c ρ) asx us->All2 (Qd c) (Ah H asx) us
 | [],_,_,h=>by cases h; exact .nil
 | a :: r,_,hn,h=>by
  cases h with
  | cons h1 h2=>
   have hr:∀ i,i ∉ ea r:=fun i hi=>hn i (by cases a <;> simp [ea,hi])
   refine .cons ?_ (HC hr h2)
   have e:a.vw H=a:=by
    cases a with
    | own i=>exact absurd (by simp [ea]) (hn i)
    | sub i _ _=>exact absurd (by simp [ea]) (hn i)
    | _=>rfl
   rw [e]; exact Rd.qd h1
theorem Ir (hT:bO P shp T) {G:Gl} {ρ:List RE} {w:World} {F:Fr} {fm:AFr} {Hm:AH} {op:Op} {ty:TypeId} {r:PR} (hG:G.shp=shp) (hR:Rep G ρ Hm w) (hf:FrR (cx G ρ w) ρ fm F) (h:IP T fm Hm op=some r):Yields P n F w op ty fun u w'=>Kp [] w w' /\ Rt (cx G ρ w') ρ r.v u/\∀ p ∈ r.fc,p:=by
 subst hG
 unfold IP at h
 split at h
 ·rename_i t m parts
  split at h
  ·rename_i e s sz z l hft hl
   split at h
   ·rename_i xs hown hel
    split at h
    ·rename_i hck
     cases h
     simp only [Bool.and_eq_true] at hck
     have hck:=hck.1
     have hm:=Nat.eq_of_beq_eq_true hck.1.1
     have hsm:=Nat.le_of_ble_eq_true hck.1.2
     have hbm:=Nat.le_of_ble_eq_true hck.2
     obtain ⟨hu,hs⟩:=(hT _ _ hft).2
     obtain ⟨hshp,⟨zz,hz,hzb⟩,_⟩:=hs s rfl
     have hsize:(P.info? e).map (·.size)=some s.size:=by
      cases hq:P.info? e with
      | none=>simp [hq] at hz
      | some i=>simp only [hq,Option.map_some,Option.some.injEq,Prod.mk.injEq] at hz ⊢; exact hz.2.1
     obtain ⟨pv,h1,h2⟩:=lV hf hl
     obtain ⟨vss,h3,h4,h5,h6⟩:=mV hel h2 fun p hp us hus=>HC (fun i hi=>by
      have:=py hp hi
      rw [hown] at this; simp at this) hus
     have hrun:=R.buildSlice (P:=P) (n:=n) (F:=F) (w:=w) (ty:=ty) (m:=m) hu hsize (zE hz) h1 h3 h4 (by omega) hsm
     have e0:parts.toList.toArray=parts:=by simp
     rw [e0] at hrun
     have hk:=Kp.alloc w (.cells vss.flatten.toArray e)
     have hml:m<=maxLen:=by
      have:=Nat.mul_le_mul_left m (jF s)
      simp only [maxLen]; omega
     have hpd:Pds (cx G ρ (w.alloc (.cells vss.flatten.toArray e))) (xs.flatMap (cellsOf s)) vss.flatten:=h6.carry (Ext.kp hk).le
     refine .inl ⟨_,_,hrun,hk,?_,by simp⟩
     show Pd _ _ _
     rw [<- hm]
     refine .fz (Nat.le_refl _) (by omega) (by rw [hm]; exact hbm) hpd (.inr ⟨_,rfl,⟨⟨by simp,fun ⟨i,r,q1,q2⟩=>by have:=(hR.bnd i r _ q1 q2).2.1; simp at this,fun hz=>by have:=hR.z _ hz; simp at this⟩,.inr ⟨_,e,(0,0),heap_alloc_new w _,hshp⟩⟩,?_⟩)
     exact cQ (sp:=[]) (by rw [List.append_nil]; exact heap_alloc_new w _)
    ·cases h
   ·cases h
  ·cases h
 ·cases h
theorem Jg (hT:bO P shp T) {o:Oper} {fr:AFr} {H:AH} {B:List Nat} {id:Nat} {e:Ent} (h:Sn T ro fr H o.op=some (id,e)) (b:Nat) (res:AH) :
  EntOK P shp n ro o ⟨true,none,.un,gy o.op++B,[],[id],[],b,res,some e,[],[],fr,H⟩ e id/\isSt o.op=true:=by
 unfold Sn at h
 split at h
 ·rename_i t x y z hop
  have hsl:gy o.op=Operand.sl x++Operand.sl y++Operand.sl z:=by rw [hop]; rfl
  have hmx:∀ t' ∈ Operand.sl x,t' ∈ gy o.op++B:=fun t' h=>by rw [hsl]; simp [h]
  have hmy:∀ t' ∈ Operand.sl y,t' ∈ gy o.op++B:=fun t' h=>by rw [hsl]; simp [h]
  have hmz:∀ t' ∈ Operand.sl z,t' ∈ gy o.op++B:=fun t' h=>by rw [hsl]; simp [h]
  refine ⟨?_,by rw [hop]; rfl⟩
  intro G ρ w F S hG hR hf hkd
  subst hG
  have hf:FrR (cx G ρ w) ρ (dr fr (gy o.op++B)) F:=hf
  have hkd:(S[id]?).map kd=(H[id]?).map kd:=hkd
  rw [hop]
  -- what a step on the map's block leaves
  have fin:∀ (g:Nat) (o':AO) (w':World),ρ[id]? = some (.blk g)->(∃ o0,S[id]? = some o0)->Kp [g] w w' -> ro.wr id=true->OR (cx G ρ w') ρ o' (.blk g)->Rep G ρ (S.set id o') w' /\ Stp ro ρ w ρ w':=fun g o' w' hg ⟨o0,ho0⟩ hkp hw ho'=>by
   have hput:=hR.put ho0 hg rfl hkp ho'
   refine ⟨hput.1,hput.2,fun _ _ _ h=>h,fun j r' hj hr'=>⟨hr',fun gx hgx=>hkp.block gx (hR.bnd j r' gx hr' hgx).2.1 ?_⟩,fun _ _ h=>h⟩
   simp only [List.mem_singleton]
   rintro rfl
   have:=hR.inj j id _ _ _ hr' hg hgx rfl
   subst this; rw [hw] at hj; cases hj
  have hext:∀ (g:Nat) (w':World),ρ[id]? = some (.blk g)->Kp [g] w w' -> (cx G ρ w).le (cx G ρ w'):=fun g w' hg hkp=>(show Ext ρ w ρ w' from ⟨hkp.os,hkp.tape,hkp.output,hkp.size,fun b hb hl=>⟨hl,hkp.block b hb (by
   simp only [List.mem_singleton]
   rintro rfl
   exact hl ⟨id,_,hg,rfl⟩)⟩⟩).le
  split at h
  ·rename_i s id' k v hft hx hy hz
   split at h
   ·rename_i s' f x' hgo hown hof
    split at h
    ·rename_i hck
     cases h
     simp only [Bool.and_eq_true,decide_eq_true_eq] at hck
     obtain ⟨⟨rfl,hform⟩,hw⟩:=hck
     obtain ⟨hm,hk,_⟩:=(hT _ _ hft).2
     rw [<- fO hmx] at hx; rw [<- fO hmy] at hy; rw [<- fO hmz] at hz
     obtain ⟨va,h1,g,hg,rfl⟩:=aP hf hx
     obtain ⟨vb,h3,h4⟩:=aP hf hy
     cases h4 with | int=>
     obtain ⟨vz,h5,h6⟩:=aP hf hz
     have hHs:=cd hgo (by simp)
     rw [hHs] at hkd
     obtain ⟨o0,ho0,hk0⟩:=Option.map_eq_some_iff.1 hkd
     have hgo0:=ft ho0
     obtain ⟨r',hr',hor⟩:=hR.at_ ho0
     rw [hg] at hr'; cases hr'
     cases o0 with
     | mapo s2 f2=>
      have hk0:(some (some s2):Option (Option Sh))=some (some s'):=hk0
      have e3:s2=s':=Option.some.inj (Option.some.inj hk0)
      subst e3
      obtain ⟨g',e,a,c,k1,k2,k3⟩:=hor
      cases e
      obtain ⟨w',a'',c',hsk,hkp,hg',hl',hget⟩:=MW (P:=P) (n:=n) (ty:=o.type) h1 h3 h5 hm hk k1 k2
      have hle:=hext g w' hg hkp
      have hV:V1 (cx G ρ w') s2 x' vz:=by
       cases v with
       | c a=>
        have h6:Rd (cx G ρ w) ρ a vz:=h6
        have hp:=bg (vs:=[vz]) hof (.cons (Rd.qd h6) .nil)
        exact ⟨[vz],hp.carry hle,.inr ⟨by simpa [kU] using hform,rfl⟩⟩
       | agg l=>
        obtain ⟨us,e,h6⟩:=h6
        have hp:=bg hof (h6.imp fun _ _ h=>Rd.qd h)
        exact ⟨us,hp.carry hle,.inl ⟨hform,e⟩⟩
      obtain ⟨j1,j2⟩:=fin g (.mapo s2 fun j=>if j=k then some x' else f2 j) w' hg ⟨_,ho0⟩ hkp hw ⟨g,rfl,a'',c',hg',hl',fun q=>by
       rw [hget q]
       show VO _ _ _ (if q=k then some x' else f2 q)
       by_cases hq:q=k
       ·rw [if_pos hq,if_pos hq]; exact hV
       ·rw [if_neg hq,if_neg hq]
        have k4:=k3 q
        cases hgm:getM q a.toList <;> cases hfk:f2 q <;> rw [hgm,hfk] at k4
        ·trivial
        ·exact k4
        ·exact k4
        ·exact V1.carry k4 hle⟩
      refine ⟨w',hsk.1,?_,j2⟩
      rw [hgo0]
      simpa only [Ent.put,dif_pos] using j1
     | mapf l=>cases hk0
     | _=>cases hk0
    ·cases h
   ·cases h
  ·rename_i id' k a hft hx hy hz
   split at h
   ·rename_i l hgo hw
    cases h
    obtain ⟨hm,hk,_⟩:=(hT _ _ hft).2
    rw [<- fO hmx] at hx; rw [<- fO hmy] at hy; rw [<- fO hmz] at hz
    obtain ⟨va,h1,g,hg,rfl⟩:=aP hf hx
    obtain ⟨vb,h3,h4⟩:=aP hf hy
    cases h4 with | int=>
    obtain ⟨vz,h5,h6⟩:=aP hf hz
    have hHs:=cd hgo (by simp)
    rw [hHs] at hkd
    obtain ⟨o0,ho0,hk0⟩:=Option.map_eq_some_iff.1 hkd
    have hgo0:=ft ho0
    obtain ⟨r',hr',hor⟩:=hR.at_ ho0
    rw [hg] at hr'; cases hr'
    cases o0 with
    | mapf l2=>
     obtain ⟨g',e,a',c,k1,k2,k3⟩:=hor
     cases e
     obtain ⟨w',a'',c',hsk,hkp,hg',hl',hget⟩:=MW (P:=P) (n:=n) (ty:=o.type) h1 h3 h5 hm hk k1 k2
     have hle:=hext g w' hg hkp
     obtain ⟨j1,j2⟩:=fin g (.mapf ((k,a) :: l2)) w' hg ⟨_,ho0⟩ hkp hw ⟨g,rfl,a'',c',hg',hl',fun q=>by
      rw [hget q]
      simp only [lookF]
      by_cases hq:q=k
      ·rw [if_pos hq,if_pos hq]; exact Rd.carry h6 hle (iM.refl _)
      ·rw [if_neg hq,if_neg hq]
       have k4:=k3 q
       cases hgm:getM q a'.toList <;> cases hfk:lookF q l2 <;> rw [hgm,hfk] at k4
       ·trivial
       ·exact k4
       ·exact k4
       ·exact Rd.carry k4 hle (iM.refl _)⟩
     refine ⟨w',hsk.1,?_,j2⟩
     rw [hgo0]
     exact j1
    | mapo s f=>cases hk0
    | _=>cases hk0
   ·cases h
  ·cases h
 ·cases h
theorem wL (hT:bO P shp T) (hO:aW P shp O) {fm:AFr} {Hm:AH} {op:Op} {x:XR}:∀ {l:List (List Nat × List Nat)},Mf T O ro fm Hm op l=some x->∀ (G:Gl) (ρ:List RE) (w:World) (F:Fr) (ty:TypeId),G.shp=shp->Rep G ρ Hm w->FrR (cx G ρ w) ρ fm F->(∀ p ∈ x.ob,p) ->
  eM P n F w op ty fun u w'=>∃ ρ',Stp ⟨fun i=>cf i x.ch && ro.wr i,fun i=>cf i x.mv && ro.mv i⟩ ρ w ρ' w' /\ Rep G ρ' x.res w' /\ Rt (cx G ρ' w') ρ' x.v u/\∀ p ∈ x.fc,p
 | [],h,_,_,_,_,_,_,_,_,_=>by cases h
 | (ch,mv) :: r,h,G,ρ,w,F,ty,hG,hR,hf,hob=>by
  simp only [Mf] at h
  split at h
  ·rename_i q hq
   cases h
   subst hG
   have:=Gi (n:=n) (ty:=ty) hT hO hR hf hq hob
   have key:∀ u w',fL G ⟨fun i=>cf i ch && ro.wr i,fun i=>cf i mv && ro.mv i⟩ ρ w q F u w' -> ∃ ρ',Stp ⟨fun i=>cf i ch && ro.wr i,fun i=>cf i mv && ro.mv i⟩ ρ w ρ' w' /\ Rep G ρ' q.H w' /\ Rt (cx G ρ' w') ρ' q.v u/\∀ p ∈ q.fc,p:=fun u w' ⟨ρ',h1,h2,_,h3,h4⟩=>⟨ρ',h1,h2,h3,h4⟩
   rcases this with h | ⟨h0,w',h1,h2⟩
   ·exact .inl (h.mono key)
   ·exact .inr ⟨h0,w',h1,key _ _ h2⟩
  ·exact wL hT hO h G ρ w F ty hG hR hf hob
theorem RcOK.ext {rs rs':List RC} {o:Oper} {i:Nat} {r:RC} (h:RcOK P shp n ro l rs o i r) (hi:∀ j,j<i->rs'[j]? = rs[j]?):RcOK P shp n ro l rs' o i r:=
 ⟨h.dst,h.dn,h.st,h.run,h.off,h.gd.imp id fun ⟨j,wt,t,h1,h2,h3,h4⟩=>⟨j,wt,t,h1,h2,h3,h4.imp (fun ⟨rj,k1,k2,k3,k4⟩=>⟨rj,by rw [hi j k2]; exact k1,k2,k3,k4⟩) id⟩⟩
theorem qa:∀ {rs:List RC} {j:Nat},Sm rs j=false->∃ r,rs[j]? = some r/\r.on=false/\j<rs.length
 | [],_,h=>by cases h
 | r :: _,0,h=>⟨r,rfl,h,by simp⟩
 | r :: rs,j+1,h=>by
  obtain ⟨r',h1,h2,h3⟩:=qa (rs:=rs) h
  exact ⟨r',by simpa using h1,h2,by simpa using h3⟩
def Chain0:AFr × AH->List RC->Prop
 | _,[]=>True
 | q,r :: rs=>r.fr0=q.1/\r.H0=q.2/\Chain0 (r.app q) rs
theorem Chain0.Jl:∀ {a b:List RC} {p:AFr × AH},Chain0 p (a++b)↔Chain0 p a/\Chain0 (prg a p) b
 | [],b,p=>by simp [Chain0,prg]
 | r :: a,b,p=>by simp only [List.cons_append,Chain0,prg,Chain0.Jl (a:=a),and_assoc]
theorem Chain0.fit:∀ {rs:List RC} {p:AFr × AH},Chain0 p rs->(∀ r ∈ rs,r.Fit)->eS p rs
 | [],_,_,_=>trivial
 | r :: rs,_,h,hf=>⟨h.1,h.2.1,hf r (by simp),h.2.2.fit fun x hx=>hf x (by simp [hx])⟩
structure Walk (P:Program) (shp:TypeId->Option Sh) (n:Nat) (ro:Lv) (l:List Oper) (q0:AFr × AH) (i:Nat) (done:List RC) (q:AFr × AH):Prop where
 len:done.length=i
 ch:Chain0 q0 done
 st:prg done q0=q
 ok:∀ j o r,l[j]? = some o->done[j]? = some r->RcOK P shp n ro l done o j r
theorem Walk.next {q0 q:AFr × AH} {i:Nat} {done:List RC} (h:Walk P shp n ro l q0 i done q) {o:Oper} (ho:l[i]? = some o) {r:RC} (h1:r.fr0=q.1) (h2:r.H0=q.2) (hr:RcOK P shp n ro l done o i r):Walk P shp n ro l q0 (i+1) (done++[r]) (r.app q):=by
 have hpre:∀ j,j<i->(done++[r])[j]? = done[j]?:=fun j hj=>List.getElem?_append_left (by rw [h.len]; exact hj)
 refine ⟨by simp [h.len],Chain0.Jl.2 ⟨h.ch,by rw [h.st]; exact ⟨h1,h2,trivial⟩⟩,by rw [sG,h.st]; rfl,fun j o' r' hj hr'=>?_⟩
 by_cases hji:j<i
 ·rw [hpre j hji] at hr'
  exact (h.ok j o' r' hj hr').ext fun k hk=>hpre k aG
 ·have hjl:=(List.getElem?_eq_some_iff.1 hr').1
  simp [h.len] at hjl
  have e:j=i:=by omega
  subst e
  rw [List.getElem?_append_right (by rw [h.len]; exact Nat.le_refl _),h.len,Nat.sub_self] at hr'
  simp at hr'; subst hr'
  rw [ho] at hj; cases hj
  exact hr.ext hpre
theorem vS {bef:List Nat}:∀ {rest done:List RC} {j:Nat},xi bef j done rest=true->∀ r ∈ rest,r.Fit
 | [],_,_,_,r,h=>by simp at h
 | x :: rest,done,j,h,r,hr=>by
  simp only [xi,Bool.and_eq_true] at h
  obtain ⟨⟨⟨⟨⟨⟨⟨⟨⟨h1,h2⟩,_⟩,_⟩,_⟩,_⟩,_⟩,_⟩,_⟩,h9⟩:=h
  rcases List.mem_cons.1 hr with rfl | hr
  ·exact ⟨Nat.eq_of_beq_eq_true h1,Nat.le_of_ble_eq_true h2⟩
  ·exact vS h9 r hr
theorem WQ {H:AH} {fr:AFr} {op:Op} {r:PR} (h:pv T O H fr op=some r):isSt op=false:=by cases op <;> first | rfl | simp [pv] at h
theorem Lf {H:AH} {fr:AFr} {op:Op} {r:PR} (h:IP T fr H op=some r):isSt op=false:=by cases op <;> first | rfl | simp [IP] at h
theorem MK {H:AH} {fr:AFr} {op:Op} {r:MpR} (h:mapA T H fr op=some r):isSt op=false:=by cases op <;> first | rfl | simp [mapA] at h
theorem kf {j:Nat} {wt:Bool} {t:Nat} (h:idst l j=some t):t ∈ fH l (some (j,wt)):=by simp [fH,h]
theorem FV {fr:AFr} {done:List RC} {g:Option (Nat × Bool)} (h:pJ l fr done g=some true):g=none\/∃ j wt t,g=some (j,wt)/\idst l j=some t/\t ∈ fH l g/\∃ b,lookA fr t=some (one (.bool (.lit b)))/\true=(b == wt):=by
 cases g with
 | none=>exact .inl rfl
 | some g=>
  obtain ⟨j,wt⟩:=g
  right
  simp only [pJ] at h
  split at h
  ·rename_i t ht
   split at h
   ·cases h
   ·rename_i b _ hb
    exact ⟨j,wt,t,rfl,ht,kf ht,b,hb,(Option.some.inj h).symm⟩
   ·cases h
  ·cases h
theorem Ck {fr:AFr} {done:List RC} {i:Nat} (hi:done.length=i) {g:Option (Nat × Bool)} (h:pJ l fr done g=some false):∃ j wt t,g=some (j,wt)/\idst l j=some t/\t ∈ fH l g/\((∃ rj,done[j]? = some rj/\j<i/\rj.on=false/\false=false)\/∃ b,lookA fr t=some (one (.bool (.lit b)))/\false=(b == wt)):=by
 cases g with
 | none=>cases h
 | some g=>
  obtain ⟨j,wt⟩:=g
  simp only [pJ] at h
  split at h
  ·rename_i t ht
   split at h
   ·rename_i ho
    obtain ⟨r,h1,h2,h3⟩:=qa ho
    exact ⟨j,wt,t,rfl,ht,kf ht,.inl ⟨r,h1,by omega,h2,rfl⟩⟩
   ·rename_i b _ hb
    exact ⟨j,wt,t,rfl,ht,kf ht,.inr ⟨b,hb,(Option.some.inj h).symm⟩⟩
   ·cases h
  ·cases h
theorem drop_cons {i:Nat} {o:Oper} {rest:List Oper} (h:l.drop i=o :: rest):l[i]? = some o/\l.drop (i+1)=rest:=by
 constructor
 ·have:=congrArg (·[0]?) h
  simpa using this
 ·have:=congrArg (List.drop 1) h
  simpa [List.drop_drop,Nat.add_comm] using this
theorem zm (hT:bO P shp T) (hO:aW P shp O) {K:AFr->AH->Prop} {q0:AFr × AH}:∀ (m i:Nat) (rest:List Oper) (fr:AFr) (H:AH) (done:List RC),l.drop i=rest->i<=l.length->iK n rest=true->Walk P shp n ro l q0 i done (fr,H)->JF T O ro l K m i rest fr H done ->
  ∃ rs,Walk P shp n ro l q0 l.length rs (prg rs q0)/\ZS l rs=true/\qn (Xj rs (gm [] l) rs) (jl (Th rs) (K (pB (prg rs q0).1 []) (prg rs q0).2))
 | 0,_,_,_,_,_,_,_,_,_,h=>h.elim
 | m+1,i,[],fr,H,done,hd,hil,_,hw,h=>by
  simp only [JF] at h
  have hi:i=l.length:=by
   have:=congrArg List.length hd
   simp at this; omega
  subst hi
  split at h
  ·rename_i hok
   refine ⟨done,by rw [hw.st]; exact hw,hok,?_⟩
   rw [hw.st]; exact h
  ·exact h.elim
 | m+1,i,o :: rest,fr,H,done,hd,hil,hdo,hw,h=>by
  obtain ⟨ho,hd2⟩:=drop_cons hd
  have hil2:i+1<=l.length:=(List.getElem?_eq_some_iff.1 ho).1
  have hdn:∀ d,o.dst=some d->Nat.blt d n=true:=fun d hdd=>iT hdo o (by simp) d hdd
  have hdr:iK n rest=true:=by simp only [iK,Bool.and_eq_true] at hdo; exact hdo.2
  have ih:=fun rc (hrc:RcOK P shp n ro l done o i rc) (h1:rc.fr0=fr) (h2:rc.H0=H) (h:JF T O ro l K m (i+1) rest (rc.app (fr,H)).1 (rc.app (fr,H)).2 (done++[rc]))=>zm hT hO m (i+1) rest _ _ _ hd2 hil2 hdr (hw.next ho h1 h2 hrc) h
  simp only [JF] at h
  split at h
  ·-- it is not run
   rename_i hg
   obtain ⟨j,wt,t,h1,h2,h3,h4⟩:=Ck hw.len hg
   exact ih _ ⟨rfl,hdn,(fun h=>by cases h),(fun h=>by cases h),fun _=>⟨rfl,rfl,rfl,rfl,rfl,rfl,rfl⟩,.inr ⟨j,wt,t,h1,h2,h3,h4⟩⟩ rfl rfl h
  ·-- it is run
   rename_i hg
   have hgd:∀ U,(o.guard=none/\true=true)\/∃ j wt t,o.guard=some (j,wt)/\idst l j=some t/\t ∈ U++fH l o.guard/\((∃ rj,done[j]? = some rj/\j<i/\rj.on=false/\true=false)\/∃ b,lookA fr t=some (one (.bool (.lit b)))/\true=(b == wt)):=fun U=>by
    rcases FV hg with h | ⟨j,wt,t,h1,h2,h3,h4⟩
    ·exact .inl ⟨h,rfl⟩
    ·exact .inr ⟨j,wt,t,h1,h2,List.mem_append_right _ h3,.inr h4⟩
   split at h
   ·-- a pick
    rename_i t x y hop
    split at h
    ·rename_i b hlk
     split at h
     ·rename_i v hev
      obtain ⟨v',h,hv⟩:=oV h
      refine ih _ ⟨rfl,hdn,(fun _ hs=>by rw [hop] at hs; cases hs),fun _=>.inl ⟨rfl,?_⟩,(fun h=>by cases h),hgd _⟩ rfl rfl h
      refine pure_run (A:=t :: Operand.sl (cond b x y)) (σ:=[]) (v:=v) hv (fun G ρ w F hG hR hf _=>?_) _
      have e1:lookA (dr fr (t :: Operand.sl (cond b x y))) t=some (one (.bool (.lit b))):=by rw [fV (by simp)]; exact hlk
      obtain ⟨vt,k1,k2⟩:=ei hf e1
      have k2:=Aa k2
      subst k2
      rw [<- fO (U:=t :: Operand.sl (cond b x y)) (fun t' ht=>by simp [ht])] at hev
      obtain ⟨u,k3,k4⟩:=aP hf hev
      rw [hop]
      refine .inl ⟨u,w,?_,Kp.refl w,k4,by simp⟩
      cases b with
      | true=>exact R.uQ k1 rfl k3
      | false=>exact R.uZ k1 rfl k3
     ·exact h.elim
    ·exact h.elim
   ·split at h
    ·-- an entry is put
     rename_i id e hins
     obtain ⟨k1,k2⟩:=Jg (P:=P) (n:=n) hT (B:=fH l o.guard) hins H.length (maskH [] 0 H)
     split at h
     ·rename_i rc hdst
      refine ih _ ⟨hdst.symm,hdn,fun _ _=>hdst,fun _=>.inr ⟨e,id,rfl,rfl,rfl,rfl,rfl,by rw [mY],k2,k1⟩,(fun h=>by cases h),hgd _⟩ rfl rfl h
     ·exact h.elim
    ·split at h
     ·-- a map of functions
      rename_i mr hmp
      obtain ⟨v',h,hv⟩:=oV (ki h)
      refine ih _ ⟨rfl,hdn,(fun _ hs=>by rw [MK hmp] at hs; cases hs),fun _=>.inl ⟨rfl,?_⟩,(fun h=>by cases h),hgd _⟩ rfl rfl h
      refine pure_run hv (fun G ρ w F hG hR hf _=>?_) _
      subst hG
      obtain ⟨u,j1,j2⟩:=vF (n:=n) (ty:=o.type) hT hR hf hmp
      exact .inl ⟨u,w,j1,Kp.refl w,j2,by simp⟩
     ·split at h
      ·rename_i r hr
       obtain ⟨v',h,hv⟩:=oV h
       have hr0:=hr
       unfold Ua at hr
       dsimp only at hr
       split at hr
       ·rename_i r' hrow
        cases hr
        refine ih _ ⟨rfl,hdn,(fun _ hs=>by rw [Lf hrow] at hs; cases hs),fun _=>.inl ⟨rfl,?_⟩,(fun h=>by cases h),hgd _⟩ rfl rfl h
        exact pure_run hv (fun G ρ w F hG hR hf _=>Ir hT hG hR hf hrow) _
       ·split at hr
        ·rename_i r' hpv
         cases hr
         refine ih _ ⟨rfl,hdn,(fun _ hs=>by rw [WQ hpv] at hs; cases hs),fun _=>.inl ⟨rfl,?_⟩,(fun h=>by cases h),hgd _⟩ rfl rfl h
         exact pure_run hv (fun G ρ w F hG hR hf hob=>by subst hG; exact oX hT hO hR hf hpv hob) _
        ·split at hr
         ·rename_i hst
          refine ih _ ⟨rfl,hdn,(fun _ hs=>by
           unfold Ki at hst
           rw [hs] at hst
           cases hdst:o.dst with
           | none=>rfl
           | some d=>rw [hdst] at hst; cases hst),fun _=>.inl ⟨rfl,?_⟩,(fun h=>by cases h),hgd _⟩ rfl rfl h
          intro G ρ w F hG hR hf hob
          refine vY hf fun FA hfA=>?_
          have hk:=wL (n:=n) hT hO hr G ρ w FA o.type hG hR hfA hob
          have key:∀ u w',(∃ ρ',Stp ⟨fun i=>cf i r.ch && ro.wr i,fun i=>cf i r.mv && ro.mv i⟩ ρ w ρ' w' /\ Rep G ρ' r.res w' /\ Rt (cx G ρ' w') ρ' r.v u/\∀ p ∈ r.fc,p)->∃ ρ',Stp ⟨fun i=>cf i r.ch && ro.wr i,fun i=>cf i r.mv && ro.mv i⟩ ρ w ρ' w' /\ Rep G ρ' r.res w' /\ Rt (cx G ρ' w') ρ' v' u/\∀ p ∈ r.fc,p:=fun u w' ⟨ρ',j1,j2,j3,j4⟩=>⟨ρ',j1,j2,hv _ _ _ j3,j4⟩
          rcases hk with hk | ⟨h0,w',j1,j2⟩
          ·exact .inl (hk.mono key)
          ·exact .inr ⟨h0,w',j1,key _ _ j2⟩
         ·cases hr
      ·exact h.elim
  ·exact h.elim
end
section
variable {P:Program} {T:List (Nat × TI)} {G:Gl} {O:cO} {n k:Nat} {l:List Oper} {ρ:List RE} {H:AH} {fr:AFr} {F:Fr} {ds:List DV} {vs:Nat->Value} {f g:DV->Value->World->Prop}
def mC (ds:List DV) (f:DV->Value->World->Prop):List Sp:=ds.map fun a=>⟨a.deps,[],f a⟩
theorem nS {i:Nat} {a:DV} (h:ds[i]? = some a):spAt (mC ds f) i=⟨a.deps,[],f a⟩:=by
 simp [spAt,mC,List.getD_eq_getElem?_getD,h]
theorem Bn {i:Nat}:(spAt (mC ds f) i).deps=((ds[i]?).map DV.deps).getD []:=by
 cases h:ds[i]? with
 | none=>simp [spAt,mC,List.getD_eq_getElem?_getD,h]
 | some a=>rw [nS h]; rfl
theorem I_ {sl:List Nat}:jW l (mC ds f) sl k=jW l (mC ds g) sl k:=by
 simp only [jW,Bn]
 simp only [mC,List.length_map]
theorem qh:∀ {ds:List DV},xt (mC ds f)=[]
 | []=>rfl
 | _ :: r=>qh (ds:=r)
theorem oN:∀ {ds:List DV} {i:Nat},pL (mC ds f) i=[]
 | [],_=>rfl
 | _ :: r,0=>qh (ds:=r)
 | _ :: r,i+1=>oN (ds:=r) (i:=i)
theorem yR (h:∀ a u w w',f a u w->Kp [] w w' -> f a u w'):∀ {r:List DV} {i:Nat},lP (mC ds f) i (mC r f)
 | [],_=>trivial
 | a :: r,i=>⟨fun u w w' hv hk=>h a u w w' hv (by rwa [oN] at hk),yR h (r:=r)⟩
theorem GI {Q:List Sp} {w:World}:∀ {r:List Oper} {i:Nat},(∀ j o,r[j]? = some o->∀ vs w1,Kp (pL Q (i+j)) w w1->e_ Q vs w1 (spAt Q (i+j)).deps->WO P (ng n (idst l (i+j)) (spAt Q (i+j)).S (spAt Q (i+j)).V w1) n l [o] (dp l F vs (spAt Q (i+j)).deps) w1)->pb P n l Q F w i r
 | [],_,_=>trivial
 | o :: r,i,h=>⟨h 0 o rfl,GI fun j o' ho=>by
  have:=h (j+1) o' (by simpa using ho)
  rwa [show i+(j+1)=i+1+j by omega] at this⟩
theorem qM:∀ {r:List Oper} {p ds:List DV},s_ T O H fr r p=some ds->(∃ q,ds=p++q/\q.length=r.length)/\∀ i o,r[i]? = some o->∃ a,ds[p.length+i]? = some a/\oY T O H fr (ds.take (p.length+i)) o=some a
 | [],p,ds,h=>by cases h; exact ⟨⟨[],by simp⟩,fun i o ho=>by simp at ho⟩
 | o :: r,p,ds,h=>by
  simp only [s_] at h
  split at h
  ·rename_i a ha
   obtain ⟨⟨q,h1,h2⟩,h3⟩:=qM h
   refine ⟨⟨a :: q,by rw [h1]; simp,by simp [h2]⟩,fun i o' ho=>?_⟩
   cases i with
   | zero=>
    simp only [List.getElem?_cons_zero,Option.some.injEq] at ho
    subst ho
    refine ⟨a,?_,?_⟩
    ·rw [h1]; simp
    ·have:ds.take (p.length+0)=p:=by rw [h1]; simp
     rw [this]; exact ha
   | succ i=>
    obtain ⟨b,h4,h5⟩:=h3 i o' (by simpa using ho)
    have e:(p++[a]).length+i=p.length+(i+1):=by simp; omega
    rw [e] at h4 h5
    exact ⟨b,h4,h5⟩
  ·cases h
theorem qx {p:List DV} {o:Oper} {a:DV} (h:oY T O H fr p o=some a):o.dst=some a.d/\∃ sl,a.deps=dH sl 0 p:=by
 unfold oY at h
 split at h
 ·rename_i d ch gs hd hc
  rw [hd]
  split at h
  ·split at h
   ·split at h
    ·cases h; exact ⟨rfl,_,rfl⟩
    ·cases h
   ·split at h
    ·cases h; exact ⟨rfl,_,rfl⟩
    ·cases h
  ·cases h
 ·cases h
theorem pc {Q:List Sp} {w:World}:∀ {deps:List Nat},e_ Q vs w deps->∀ j ∈ deps,(spAt Q j).V (vs j) w
 | [],_,j,hj=>by simp at hj
 | i :: r,h,j,hj=>by
  rcases List.mem_cons.1 hj with rfl | hj
  ·exact h.1
  ·exact pc h.2 j hj
theorem wE:∀ {ds:List DV} {i:Nat} {a:DV},ds[i]? = some a->∀ q ∈ a.ob,q ∈ RN ds
 | [],i,a,h,_,_=>by simp at h
 | b :: r,0,a,h,q,hq=>by simp at h; subst h; exact List.mem_append_left _ hq
 | b :: r,i+1,a,h,q,hq=>List.mem_append_right _ (wE (ds:=r) (i:=i) (by simpa using h) q hq)
theorem vT:∀ {ds:List DV} {q:Prop},q ∈ FK ds->∃ (i:Nat) (a:DV),ds[i]? = some a/\q ∈ a.fc
 | [],q,h=>by simp [FK] at h
 | b :: r,q,h=>by
  rcases List.mem_append.1 h with h | h
  ·exact ⟨0,b,rfl,h⟩
  ·obtain ⟨i,a,h1,h2⟩:=vT h
   exact ⟨i+1,a,by simpa using h1,h2⟩
theorem vl {c:Cx} {D:Fr} (hf:FrR c ρ fr F) (hF:∀ i v,look F i=some v->look D i=some v):∀ {r:List DV},(∀ a ∈ r,a.ch=[]->∃ u,look D a.d=some u/\Rt c ρ a.v u)->∃ F',FrR c ρ (uA r fr) F' /\ ∀ i v,look F' i=some v->look D i=some v
 | [],_=>⟨F,hf,hF⟩
 | a :: r,h=>by
  obtain ⟨F',h1,h2⟩:=vl hf hF (r:=r) fun b hb=>h b (by simp [hb])
  unfold uA
  split
  ·rename_i hc
   obtain ⟨u,h3,h4⟩:=h a (by simp) hc
   refine ⟨(a.d,u) :: F',.cons ⟨rfl,h4⟩ h1,fun i v hv=>?_⟩
   rw [bh] at hv
   by_cases hi:a.d=i
   ·subst hi; rw [if_pos rfl] at hv; cases hv; exact h3
   ·rw [if_neg hi] at hv; exact h2 i v hv
  ·exact ⟨F',h1,h2⟩
theorem pQ {i:Nat}:∀ {deps:List Nat},(∀ j ∈ deps,idst l j≠some i)->look (dp l F vs deps) i=look F i
 | [],_=>rfl
 | j :: r,h=>by
  have ih:=pQ (i:=i) (deps:=r) fun j hj=>h j (by simp [hj])
  unfold dp
  split
  ·rename_i d hd
   rw [bh,if_neg (fun e=>h j (by simp) (by rw [hd,e]))]
   exact ih
  ·exact ih
theorem DN {c:Cx} (hf:FrR c ρ fr F):fr.map (·.1)=F.map (·.1):=by
 induction hf with
 | nil=>rfl
 | cons h _ ih=>simp [h.1,ih]
end
theorem AR {s:Nat->Bool}:∀ {rs:List RC} {k:Nat} {q:AFr × AH},(∀ i,k<=i->i<k+rs.length->s i=true)->gk s k rs q=prg rs q
 | [],_,_,_=>rfl
 | r :: rs,k,q,h=>by
  simp only [gk,prg]
  rw [h k (Nat.le_refl _) (by simp),cond_true]
  exact AR fun i h1 h2=>h i aG (by simp at h2 ⊢; omega)
theorem uU:∀ {rs:List RC} {k:Nat} {q:AFr × AH},∃ m,gk (fun _=>false) k rs q=(q.1,q.2++List.replicate m .gone)
 | [],_,q=>⟨0,by simp [gk]⟩
 | r :: rs,k,q=>by
  obtain ⟨m,h⟩:=uU (rs:=rs) (k:=k+1) (q:=r.Cg q)
  refine ⟨(r.res.length - r.base)+m,?_⟩
  simp only [gk,cond_false]
  rw [h]
  simp only [RC.Cg,List.append_assoc,List.replicate_append_replicate]
theorem Rep.XS {G:Gl} {ρ:List RE} {H:AH} {w:World} (h:Rep G ρ H w) (m:Nat):Rep G (ρ++List.replicate m RE.no) (H++List.replicate m .gone) w/\(cx G ρ w).le (cx G (ρ++List.replicate m RE.no) w)/\iM ρ (ρ++List.replicate m RE.no)/\∀ ro,Stp ro ρ w (ρ++List.replicate m RE.no) w:=by
 have key:∀ i r,(ρ++List.replicate m RE.no)[i]? = some r->r≠RE.no->ρ[i]? = some r:=fun i r hi hne=>by
  by_cases hl:i<ρ.length
  ·rw [List.getElem?_append_left hl] at hi; exact hi
  ·rw [List.getElem?_append_right (by omega),List.getElem?_replicate] at hi
   split at hi
   ·cases hi; exact absurd rfl hne
   ·cases hi
 have hlv:∀ b,live (ρ++List.replicate m RE.no) b->live ρ b:=fun b ⟨i,r,h1,h2⟩=>⟨i,r,key i r h1 (by rintro rfl; cases h2),h2⟩
 have hext:Ext ρ w (ρ++List.replicate m RE.no) w:=⟨rfl,rfl,rfl,Nat.le_refl _,fun b _ hl=>⟨fun k=>hl (hlv b k),rfl⟩⟩
 have hag:=fv ρ (List.replicate m .no)
 refine ⟨⟨?_,fun i j r r' g h1 h2 h3 h4=>h.inj i j r r' g (key i r h1 (by rintro rfl; cases h3)) (key j r' h2 (by rintro rfl; cases h4)) h3 h4,fun i r g h1 h2=>h.bnd i r g (key i r h1 (by rintro rfl; cases h2)) h2,h.z,h.b0⟩,hext.le,hag,fun ro=>⟨hext,fun i r _ hr=>?_,fun i r _ hr=>⟨?_,fun _ _=>rfl⟩,fun i g hg=>hag i _ hg (by simp)⟩⟩
 ·refine All2.append (cE h.obj.length fun i o r ho hr=>?_) ?_
  ·obtain ⟨r',hr',hor⟩:=h.at_ ho
   rw [hr] at hr'; cases hr'
   exact hor.carry hext.le hag fun _ _=>rfl
  ·refine cE (by simp) fun i o r ho hr=>?_
   rw [List.getElem?_replicate] at ho hr
   by_cases hi:i<m
   ·rw [if_pos hi] at ho hr; cases ho; cases hr; rfl
   ·rw [if_neg hi] at ho; cases ho
 ·rw [List.getElem?_append_left (List.getElem?_eq_some_iff.1 hr).1]; exact hr
 ·rw [List.getElem?_append_left (List.getElem?_eq_some_iff.1 hr).1]; exact hr
theorem lS {t:Nat} {v:TV}:∀ {fr:AFr} {l:List Nat},(t,v) ∈ pB fr l->t ∉ l/\lookA fr t=some v
 | [],_,h=>by simp [pB] at h
 | (i,x) :: r,l,h=>by
  simp only [pB] at h
  cases hm:cf i l <;> rw [hm] at h
  ·rcases List.mem_cons.1 h with e | h
   ·cases e
    refine ⟨fun hl=>?_,by rw [dk,if_pos rfl]⟩
    rw [bJ.2 hl] at hm; cases hm
   ·obtain ⟨h1,h2⟩:=lS h
    simp only [List.mem_cons,not_or] at h1
    exact ⟨h1.2,by rw [dk,if_neg (fun e=>h1.1 e.symm)]; exact h2⟩
  ·obtain ⟨h1,h2⟩:=lS h
   refine ⟨h1,?_⟩
   rw [dk,if_neg]
   ·exact h2
   ·rintro rfl; exact h1 (bJ.1 hm)
theorem rf {m:Nat} {p:Prop}:∀ {rs:List RC} {k:Nat},p ∈ qN m k rs->∃ j r,rs[j]? = some r/\bitN m (k+j)=true/\p ∈ r.fc
 | [],_,h=>by simp [qN] at h
 | r :: rs,k,h=>by
  simp only [qN,List.mem_append] at h
  rcases h with h | h
  ·cases hb:bitN m k <;> rw [hb] at h
   ·simp at h
   ·exact ⟨0,r,rfl,hb,h⟩
  ·obtain ⟨j,r',h1,h2,h3⟩:=rf h
   exact ⟨j+1,r',by simpa using h1,by rwa [show k+(j+1)=k+1+j by omega],h3⟩
theorem Ft {all:List RC}:∀ {bef:List Nat} {rs:List RC},bef.length=rs.length->(∀ p ∈ Xj all bef rs,p)->∀ i r,rs[i]? = some r->(∀ p ∈ qN (bef.getD i 0) 0 all,p)->∀ p ∈ r.ob,p
 | _,[],_,_,i,r,h,_=>by simp at h
 | [],_ :: _,hl,_,_,_,_,_=>by simp at hl
 | m :: bef,b :: rs,hl,h,i,r,hr,hf=>by
  simp only [Xj] at h
  cases i with
  | zero=>
   simp at hr; subst hr
   intro p hp
   have h1:=fun q hq=>h q (List.mem_append_left _ hq)
   cases ho:b.ob with
   | nil=>rw [ho] at hp; simp at hp
   | cons x y=>
    rw [ho] at h1
    exact dO.1 (dQ.1 (h1 _ (List.mem_singleton_self _)) hf) p (by rw [<- ho]; exact hp)
  | succ i=>
   exact Ft (by simpa using hl) (fun q hq=>h q (List.mem_append_right _ hq)) i r (by simpa using hr) (by simpa using hf)
theorem zy:∀ {rs:List RC} {p:Prop},p ∈ Th rs->∃ (j:Nat) (r:RC),rs[j]? = some r/\p ∈ r.fc
 | [],_,h=>by simp [Th] at h
 | r :: rs,p,h=>by
  simp only [Th,List.mem_append] at h
  rcases h with h | h
  ·exact ⟨0,r,rfl,h⟩
  ·obtain ⟨j,r',h1,h2⟩:=zy h
   exact ⟨j+1,r',by simpa using h1,h2⟩
theorem uV {P:Program} {T:List (Nat × TI)} {O:cO} {G:Gl} {n:Nat} {ro:Lv} {l:List Oper} {ρ0:List RE} {w0:World} {Q:Exit->Act->World->Prop} {id:Nat} (hT:bO P G.shp T) (hO:aW P G.shp O) (hm:P.follows .mixedOrders=true) (hro:∀ i,ro.wr i=false\/ro.mv i=false->i<ρ0.length) {K:AFr->AH->Prop} {fr:AFr} {H:AH} {F:Fr} {w:World} (hd:iK n l=true)
  (h:Rm T O ro l K fr H) (hst:St G ro ρ0 w0 fr H F w) (hK:∀ fr H F w,K fr H->St G ro ρ0 w0 fr H F w->WX Q n .normal F w):WC P Q n (.region id l.toArray true) F w:=by
 obtain ⟨ρ,hS,hR,hf⟩:=hst
 obtain ⟨rs,hw,hok,hgoal⟩:=zm (n:=n) hT hO _ 0 l fr H [] (by simp) (Nat.zero_le _) hd ⟨rfl,trivial,rfl,fun j o r _ hr=>by simp at hr⟩ h
 simp only [ZS,Bool.and_eq_true] at hok
 obtain ⟨⟨hp,hlen⟩,hok⟩:=hok
 have hlen:=Nat.eq_of_beq_eq_true hlen
 have hp:∀ i,∀ j ∈ bN l i,j<i:=fun i j hj=>by have:=nj hp i j hj; omega
 have hc:=hw.ch.fit (vS hok)
 obtain ⟨hobs,hfin⟩:=gJ.1 hgoal
 have hbl:(gm [] l).length=rs.length:=by rw [vA,hlen]; simp
 have hq0:∀ i,i<ρ0.length->(ro.wr i=false\/ro.mv i=false)->i<H.length:=fun i hi hh=>by
  rw [hR.obj.length]
  have hr0:=List.getElem?_eq_getElem hi
  rcases hh with hh | hh
  ·exact (List.getElem?_eq_some_iff.1 (hS.pro i _ hh hr0).1).1
  ·exact (List.getElem?_eq_some_iff.1 (hS.loc i _ hh hr0)).1
 intro a ha
 refine UL hm (Inv:=LB G ro ρ0 w0 n (fr,H) rs) hp (fun s a w h=>by obtain ⟨_,_,_,_,h,_⟩:=h; exact h) (fun s a w i o inv ho hsi hpre hcl=>?_) (fun s a w inv hall=>?_) ?_
 ·refine Fo rfl hro hq0 hp hc hok hlen hw.ok (fun i r hr hfc=>Ft hbl hobs i r hr fun p hp=>?_) inv ho hsi hpre hcl
  obtain ⟨j,r',h1,h2,h3⟩:=rf hp
  rw [Nat.zero_add] at h2
  exact hfc j r' h1 h2 p h3
 ·obtain ⟨ρ',k1,k2,k3,k4,k5,k6⟩:=inv
  rw [AR fun i _ hi=>hall i (by omega)] at k2 k3
  have hk:=dQ.1 hfin fun p hp=>by
   obtain ⟨j,r,h1,h2⟩:=zy hp
   exact (k6 j r h1 (hall j (by have:=(List.getElem?_eq_some_iff.1 h1).1; omega))).1 p h2
  refine hK _ _ (vv a (pB (prg rs (fr,H)).1 [])) w hk ⟨ρ',k1,k2,nV fun q hq=>(k3 q.1 q.2 (lS hq).2).2⟩ a ⟨k4,k5,fun i v hv=>?_⟩
  obtain ⟨h1,tv,h2⟩:=mw hv
  have h3:lookA (prg rs (fr,H)).1 i=some tv:=by
   have:∀ {fr:AFr} {l:List Nat},lookA (pB fr l) i=some tv->(i,tv) ∈ pB fr l:=by
    intro fr l
    generalize pB fr l=x
    induction x with
    | nil=>intro h; cases h
    | cons q r ih=>
     obtain ⟨j,u⟩:=q
     rw [dk]
     split
     ·rename_i hj; subst hj; intro h; cases h; simp
     ·intro h; exact List.mem_cons_of_mem _ (ih h)
   exact (lS (this h2)).2
  exact ⟨(k3 i tv h3).1,h1.symm⟩
 ·obtain ⟨m,hm2⟩:=uU (rs:=rs) (k:=0) (q:=(fr,H))
  have hkp:Kp [] w { w with drawn:=w.drawn+1 }:=(Kp.refl w).drew
  obtain ⟨g1,g2,g3,g4⟩:=(hR.kp hkp).XS m
  refine ⟨_,(hS.trans (Stp.kp hR hkp)).trans (g4 ro),by rw [hm2]; exact g1,fun t v hv=>?_,ha.1,ha.2.1,fun k r _ hk=>by cases hk⟩
  rw [hm2] at hv
  obtain ⟨u,h1,h2⟩:=ei (hf.kp hkp) hv
  obtain ⟨h3,h4⟩:=ha.2.2 t u h1
  exact ⟨h3,by rw [h4]; exact h2.carry g2 g3⟩
theorem kJ {P:Program} {T:List (Nat × TI)} {shp:TypeId->Option Sh} {O:cO} (hT:bO P shp T) (hO:aW P shp O) (hm:P.follows .mixedOrders=true):tn P shp T O:=by
 intro G n ro ρ0 w0 hshp hro Q k0 id L ops K fr H F w hd h hst hK
 subst hshp
 obtain ⟨ρ,hS,hR,hf⟩:=hst
 simp only [gD] at h
 generalize Hf T O H fr ops.toList [] 0=k at h
 split at h
 ·rename_i ds hds
  split at h
  ·rename_i hB
   obtain ⟨hob,h⟩:=gJ.1 h
   rw [dQ] at h
   have hB1:jW ops.toList (mC ds fun a u w=>DVal G ρ ds a u w) (F.map (·.1)) k=true:=by
    rw [I_ (g:=fun _ _ _=>True),<- DN hf]; exact hB
   have hB2:=hB1
   simp only [jW,Bool.and_eq_true,decide_eq_true_eq,List.all_eq_true,List.mem_range,Bool.or_eq_true] at hB2
   obtain ⟨⟨⟨⟨hnl,hsp⟩,hops⟩,_⟩,_⟩:=hB2
   have hdl:ds.length=k:=by simpa [mC] using hsp
   obtain ⟨_,hat⟩:=qM hds
   simp only [List.length_nil,Nat.zero_add] at hat
   have hlt:∀ i a,ds[i]? = some a->i<k:=fun i a h=>by rw [<- hdl]; exact (List.getElem?_eq_some_iff.1 h).1
   have hdst:∀ (j:Nat) (a:DV),ds[j]? = some a->idst ops.toList j=some a.d:=fun j a ha=>by
    have hj:=hlt j a ha
    have hjl:j<ops.toList.length:=by omega
    obtain ⟨b,h1,h2⟩:=hat j (ops.toList[j]) (by rw [List.getElem?_take,if_pos hj,List.getElem?_eq_getElem hjl])
    rw [ha] at h1; cases h1
    rw [ig,List.getElem?_eq_getElem hjl]
    exact (qx h2).1
   have hfree:∀ (j:Nat) (a:DV),ds[j]? = some a->a.d ∉ F.map (·.1)/\∀ i,i<k->i=j\/idst ops.toList i≠some a.d:=fun j a ha=>by
    have:=(hops j (hlt j a ha)).2
    rw [hdst j a ha] at this
    simp only [Bool.and_eq_true,Bool.not_eq_true',List.all_eq_true,List.mem_range,Bool.or_eq_true,beq_iff_eq,bne_iff_ne,List.contains_eq_mem,decide_eq_false_iff_not] at this
    exact this
   have hdist:∀ (i j:Nat) (a b:DV),ds[i]? = some a->ds[j]? = some b->a.d=b.d->i=j:=fun i j a b ha hb he=>by
    rcases (hfree j b hb).2 i (hlt i a ha) with h | h
    ·exact h
    ·rw [hdst i a ha,he] at h; exact absurd rfl h
   have e:ops=ops.toList.toArray:=by simp
   have hdt:iK n (ops.toList.take k)=true/\iK n (ops.toList.drop k)=true:=by
    rw [<- lD,List.take_append_drop]; exact hd
   rw [e]
   refine WC.qB hm _ k hB1 (yR (f:=fun a u w=>DVal G ρ ds a u w) (ds:=ds) (r:=ds) fun a u w w' h hk=>DVal.kp h hk) (GI fun j o ho vs w1 hk hfacts=>?_) fun vs w1 hk hfacts=>?_
   ·rw [Nat.zero_add] at hk hfacts ⊢
    rw [oN] at hk
    obtain ⟨a,ha,hstep⟩:=hat j o ho
    rw [nS ha] at hfacts ⊢
    obtain ⟨hod,sl,hsl⟩:=qx hstep
    rw [hdst j a ha]
    refine (K_ (l:=ops.toList) (vs:=vs) hT hO hstep ⟨fun i b hb=>(si hb).1,hdst,hdist,fun i hi=>?_⟩ (fun ch g=>vx) (fun q hq=>hob q (wE ha q hq)) (iT hdt.1 o (List.mem_of_getElem? ho)) (hR.kp hk) (hf.kp hk)).2
    have hv:=pc hfacts i hi
    rw [hsl] at hi
    obtain ⟨i',b,e1,e2,_⟩:=ep.1 hi
    rw [Nat.zero_add] at e1; subst e1
    rw [nS (si e2).1] at hv
    exact ⟨b,e2,hv⟩
   ·rw [qh] at hk
    have hall:∀ j a,ds[j]? = some a->DVal G ρ ds a (vs j) w1:=fun j a ha=>by
     have:=pc hfacts j (List.mem_range.2 (hlt j a ha))
     rwa [nS ha] at this
    have hctx:DCtx G ρ ops.toList ds vs ds (List.range k) w1:=⟨fun _ _ h=>h,hdst,hdist,fun j hj=>by
     have hj:=List.mem_range.1 hj
     have hj2:j<ds.length:=by omega
     exact ⟨_,List.getElem?_eq_getElem hj2,hall j _ (List.getElem?_eq_getElem hj2)⟩⟩
    have hfc:∀ p ∈ FK ds,p:=fun p hp=>by
     obtain ⟨i,a,h1,h2⟩:=vT hp
     exact (hall i a h1).1 p h2
    obtain ⟨F',h1,h2⟩:=vl (D:=dp ops.toList F vs (List.range k)) (hf.kp hk) (fun i v hv=>by
     rw [pQ fun j hj he=>?_]
     ·exact hv
     ·have hj:=List.mem_range.1 hj
      have hj2:j<ds.length:=by omega
      have:=hdst j _ (List.getElem?_eq_getElem hj2)
      rw [he] at this
      have h3:=(hfree j _ (List.getElem?_eq_getElem hj2)).1
      rw [<- Option.some.inj this] at h3
      exact h3 (List.mem_map.2 (wh hv))) (r:=ds) (fun a ha hc=>by
     obtain ⟨j,hj⟩:=List.getElem?_of_mem ha
     refine ⟨vs j,hctx.look (List.mem_range.2 (hlt j a hj)) hj,(hall j a hj).2.1 ?_⟩
     rw [hc]
     exact fun q hq=>by simp at hq)
    have:=jC (Q:=Q) (l:=ops.toList) hT hO hK _ _ _ _ F' w1 hdt.2 (h hfc) ⟨ρ,hS.trans (Stp.kp hR hk),hR.kp hk,h1⟩
    exact fun a ha=>this a (ha.sub h2)
  ·have e:ops=ops.toList.toArray:=by simp
   rw [e]
   exact uV hT hO hm hro hd h ⟨ρ,hS,hR,hf⟩ hK
 ·have e:ops=ops.toList.toArray:=by simp
  rw [e]
  exact uV hT hO hm hro hd h ⟨ρ,hS,hR,hf⟩ hK
def al:List (Nat × TI)->TypeId->Option Sh
 | [],_=>none
 | (_,⟨.sl e (some s),_,_⟩) :: r,t=>bif Nat.beq e t then some s else al r t
 | _ :: r,t=>al r t
def XF (P:Program):List Go.Field->List (Nat × Nat)->Bool
 | [],[]=>true
 | f :: r,q :: l=>(match P.info? f.type with
  | some i=>Nat.beq f.offset q.1 && Nat.beq i.size q.2 && Nat.blt 0 q.2
  | none=>false) && XF P r l
 | _,_=>false
def Zp (s:Sh) (z:Value):Bool:=match s.lZ,z with
 | true,.agg a=>yq (cellsOf s (dflt s)) a.toList
 | true,_=>false
 | false,z=>yq (cellsOf s (dflt s)) [z]
theorem PW {s:Sh} {z:Value} (h:Zp s z=true):∃ zs,yq (cellsOf s (dflt s)) zs=true/\((s.lZ=true/\z = .agg zs.toArray)\/(s.lZ=false/\zs=[z])):=by
 unfold Zp at h
 split at h
 ·rename_i a hs
  exact ⟨a.toList,h,.inl ⟨hs,by simp⟩⟩
 ·cases h
 ·exact ⟨[_],h,.inr ⟨by assumption,rfl⟩⟩
def TY (P:Program) (T:List (Nat × TI)) (t:TypeId) (ti:TI):Bool:=match ti.k,P.underlying t with
 | .i k,some (.int k')=>decide (k' = k)
 | .bool,some .bool=>true
 | .str,some .string=>true
 | .sl e so,some (.slice e')=>Nat.beq e' e && (match so with
  | none=>true
  | some s=>decide (al T e=some s) && (match P.info? e with
   | some i=>Nat.beq i.size s.size && Nat.beq i.bytes s.bytes && (match i.zero with
    | some z=>yq (cellsOf s (dflt s)) z.cells.toList
    | none=>false)
   | none=>false) && (match s with
   | .u8=>(match P.underlying e with
    | some (.int k)=>decide (k = .u8)
    | _=>false)
   | _=>true))
 | .st fs,some (.struct F)=>XF P F.toList fs && (match Nh ti.zero with
  | some ks=>Xq P t ks
  | none=>true)
 | .ar n e,some (.array n' e')=>Nat.beq n' n && Nat.beq e' e
 | .mp k e so,some (.map k' e')=>Nat.beq k' k && Nat.beq e' e && (match P.underlying k with
  | some (.int ik)=>decide (ik = .i64)
  | _=>false) && (match so with
  | none=>match (P.info? e).bind (·.zero) with
   | some .nilFunc=>true
   | _=>false
  | some s=>match (P.info? e).bind (·.zero) with
   | some z=>Zp s z
   | none=>false)
 | .ptr,some d=>!kn d
 | .fn,some d=>!kn d
 | .oth,some d=>!kn d
 | _,_=>false
def XA (P:Program) (T:List (Nat × TI)) (t:TypeId) (ti:TI):Bool:=(match P.info? t with
 | some i=>Nat.beq i.size ti.size && (match i.zero with
  | some z=>yq ti.zero z.cells.toList
  | none=>false)
 | none=>false) && TY P T t ti
def Kj (P:Program) (T:List (Nat × TI)):List (Nat × TI)->Bool
 | []=>true
 | (t,ti) :: r=>XA P T t ti && Kj P T r
theorem Dq {P:Program}:∀ {F:List Go.Field} {fs:List (Nat × Nat)},XF P F fs=true->F.mapM (fun f=>(P.info? f.type).map fun i=>(f.offset,i.size))=some fs/\∀ q ∈ fs,0<q.2
 | [],[],_=>⟨rfl,by simp⟩
 | [],_ :: _,h=>by cases h
 | _ :: _,[],h=>by cases h
 | f :: F,(a,b) :: fs,h=>by
  simp only [XF,Bool.and_eq_true] at h
  obtain ⟨h1,h2⟩:=h
  obtain ⟨h3,h4⟩:=Dq h2
  split at h1
  ·rename_i i hi
   simp only [Bool.and_eq_true] at h1
   have e1:=Nat.eq_of_beq_eq_true h1.1.1
   have e2:=Nat.eq_of_beq_eq_true h1.1.2
   have e3:0<b:=by have:=(Nat.blt_eq).mp h1.2; exact this
   refine ⟨by rw [List.mapM_cons,hi,h3,e1,<- e2]; rfl,fun q hq=>?_⟩
   rcases List.mem_cons.1 hq with rfl | hq
   ·exact e3
   ·exact h4 q hq
  ·cases h1
theorem OM {P:Program} {T:List (Nat × TI)} {t:TypeId} {ti:TI} (h:XA P T t ti=true):WH P (al T) t ti:=by
 simp only [XA,Bool.and_eq_true] at h
 obtain ⟨h1,h2⟩:=h
 refine ⟨?_,?_⟩
 ·split at h1
  ·rename_i i hi
   simp only [Bool.and_eq_true] at h1
   obtain ⟨h3,h4⟩:=h1
   refine ⟨by rw [hi,Option.map_some,Nat.eq_of_beq_eq_true h3],?_⟩
   split at h4
   ·rename_i z hz
    exact ⟨z.cells.toList,by simp [hi,hz],h4⟩
   ·cases h4
  ·cases h1
 ·unfold TY at h2
  split at h2
  ·rename_i k k' hk hu
   simp only [hk]; rw [hu,of_decide_eq_true h2]
  ·rename_i hk hu
   simp only [hk]; exact hu
  ·rename_i hk hu
   simp only [hk]; exact hu
  ·rename_i e so e' hk hu
   simp only [hk]
   simp only [Bool.and_eq_true] at h2
   have e1:=Nat.eq_of_beq_eq_true h2.1
   subst e1
   refine ⟨hu,fun s hs=>?_⟩
   subst hs
   have h3:=h2.2
   simp only [Bool.and_eq_true,decide_eq_true_eq] at h3
   obtain ⟨⟨h3,h4⟩,h5⟩:=h3
   refine ⟨h3,?_,?_⟩
   ·split at h4
    ·rename_i i hi
     simp only [Bool.and_eq_true] at h4
     obtain ⟨⟨h6,h7⟩,h8⟩:=h4
     split at h8
     ·rename_i z hz
      refine ⟨z.cells.toList,?_,h8⟩
      rw [hi,Option.map_some,hz,Nat.eq_of_beq_eq_true h6,Nat.eq_of_beq_eq_true h7]
      simp
     ·cases h8
    ·cases h4
   ·rintro rfl
    simp only at h5
    split at h5
    ·rename_i k hk
     rw [hk,of_decide_eq_true h5]
    ·cases h5
  ·rename_i fs F hk hu
   simp only [hk]
   simp only [Bool.and_eq_true] at h2
   obtain ⟨h3,h4⟩:=Dq h2.1
   refine ⟨F,hu,h3,h4,fun ks hks=>?_⟩
   have h5:=h2.2
   rw [hks] at h5
   exact h5
  ·rename_i n e n' e' hk hu
   simp only [hk]
   simp only [Bool.and_eq_true] at h2
   rw [hu,Nat.eq_of_beq_eq_true h2.1,Nat.eq_of_beq_eq_true h2.2]
  ·rename_i k e so k' e' hk hu
   simp only [hk]
   simp only [Bool.and_eq_true] at h2
   obtain ⟨⟨⟨h3,h4⟩,h5⟩,h6⟩:=h2
   rw [Nat.eq_of_beq_eq_true h3,Nat.eq_of_beq_eq_true h4] at hu
   refine ⟨hu,?_,fun s hs=>?_,fun hn=>?_⟩
   ·split at h5
    ·rename_i ik hik
     rw [hik,of_decide_eq_true h5]
    ·cases h5
   ·subst hs
    simp only at h6
    split at h6
    ·rename_i z hz
     obtain ⟨zs,h7,h8⟩:=PW h6
     exact ⟨z,zs,hz,h7,h8⟩
    ·cases h6
   ·subst hn
    simp only at h6
    split at h6
    ·assumption
    ·cases h6
  ·rename_i d hk hu
   simp only [hk]
   exact ⟨d,hu,by simpa using h2⟩
  ·rename_i d hk hu
   simp only [hk]
   exact ⟨d,hu,by simpa using h2⟩
  ·rename_i d hk hu
   simp only [hk]
   exact ⟨d,hu,by simpa using h2⟩
  ·cases h2
theorem qC {t:TypeId} {ti:TI}:∀ {T:List (Nat × TI)},bU T t=some ti->(t,ti) ∈ T
 | [],h=>by cases h
 | (j,v) :: r,h=>by
  simp only [bU] at h
  cases hb:Nat.beq j t <;> rw [hb] at h
  ·exact List.mem_cons_of_mem _ (qC h)
  ·cases h
   rw [Nat.eq_of_beq_eq_true hb]
   simp
theorem vn {P:Program} {T:List (Nat × TI)}:∀ {r:List (Nat × TI)},Kj P T r=true->∀ q ∈ r,XA P T q.1 q.2=true
 | [],_,q,hq=>by simp at hq
 | (t,ti) :: r,h,q,hq=>by
  simp only [Kj,Bool.and_eq_true] at h
  rcases List.mem_cons.1 hq with rfl | hq
  ·exact h.1
  ·exact vn h.2 q hq
theorem Py {P:Program} {T:List (Nat × TI)} (h:Kj P T T=true):bO P (al T) T:=fun _ _ ht=>OM (vn h _ (qC ht))
end Go.Proofs.YtladifkbefehdaaGreat
namespace Go.Proofs.YtladifkbefehdaaGreat
def tyT:List (Nat × TI):=[
 (1,⟨.fn,1,[.nf]⟩),
 (2,⟨.i .i64,1,[.int 0]⟩),
 (3,⟨.i .i64,1,[.int 0]⟩),
 (4,⟨.bool,1,[.bool (.lit false)]⟩),
 (5,⟨.i .u8,1,[.u8 0]⟩),
 (6,⟨.i .u8,1,[.u8 0]⟩),
 (9,⟨.str,1,[.str ⟨[]⟩]⟩),
 (10,⟨.str,1,[.str ⟨[]⟩]⟩),
 (11,⟨.str,1,[.str ⟨[]⟩]⟩),
 (12,⟨.i .u64,1,[.u64 0]⟩),
 (15,⟨.ptr,1,[.np]⟩),
 (16,⟨.ptr,1,[.np]⟩),
 (17,⟨.ptr,1,[.np]⟩),
 (18,⟨.st [(0,1)],1,[.np]⟩),
 (19,⟨.st [(0,1)],1,[.np]⟩),
 (22,⟨.sl 3 (some .int),1,[.em true]⟩),
 (23,⟨.st [(0,1),(1,1),(2,1),(3,1),(4,1),(5,1),(6,1),(7,1)],8,[.int 0,.int 0,.int 0,.int 0,.int 0,.int 0,.em true,.str ⟨[]⟩]⟩),
 (24,⟨.st [(0,1),(1,1),(2,1),(3,1),(4,1),(5,1),(6,1),(7,1)],8,[.int 0,.int 0,.int 0,.int 0,.int 0,.int 0,.em true,.str ⟨[]⟩]⟩),
 (25,⟨.ar 2 5,2,[.u8 0,.u8 0]⟩),
 (26,⟨.fn,1,[.nf]⟩),
 (27,⟨.fn,1,[.nf]⟩),
 (28,⟨.sl 5 (some .u8),1,[.em true]⟩),
 (29,⟨.st [(0,1),(1,1)],2,[.int 0,.em true]⟩),
 (30,⟨.st [(0,1),(1,1)],2,[.int 0,.em true]⟩),
 (31,⟨.i .i64,1,[.int 0]⟩),
 (33,⟨.fn,1,[.nf]⟩),
 (35,⟨.fn,1,[.nf]⟩),
 (36,⟨.fn,1,[.nf]⟩),
 (37,⟨.fn,1,[.nf]⟩),
 (38,⟨.fn,1,[.nf]⟩),
 (39,⟨.sl 82 (some (.nm .sess)),1,[.em true]⟩),
 (40,⟨.sl 63 (some (.nm .opn)),1,[.em true]⟩),
 (41,⟨.sl 73 (some (.nm .snap)),1,[.em true]⟩),
 (42,⟨.st [(0,1),(1,1),(2,1),(3,1),(4,1),(5,1),(6,1)],7,[.int 0,.int 0,.int 0,.int 0,.em true,.em true,.em true]⟩),
 (43,⟨.st [(0,1),(1,1),(2,1),(3,1),(4,1),(5,1),(6,1)],7,[.int 0,.int 0,.int 0,.int 0,.em true,.em true,.em true]⟩),
 (44,⟨.sl 30 (some (.nm .entry)),1,[.em true]⟩),
 (45,⟨.fn,1,[.nf]⟩),
 (46,⟨.fn,1,[.nf]⟩),
 (47,⟨.sl 56 (some (.nm .reply)),1,[.em true]⟩),
 (49,⟨.fn,1,[.nf]⟩),
 (50,⟨.fn,1,[.nf]⟩),
 (51,⟨.fn,1,[.nf]⟩),
 (52,⟨.fn,1,[.nf]⟩),
 (53,⟨.ar 2 3,2,[.int 0,.int 0]⟩),
 (54,⟨.fn,1,[.nf]⟩),
 (55,⟨.st [(0,1),(1,1)],2,[.int 0,.int 0]⟩),
 (56,⟨.st [(0,1),(1,1)],2,[.int 0,.int 0]⟩),
 (58,⟨.fn,1,[.nf]⟩),
 (59,⟨.fn,1,[.nf]⟩),
 (60,⟨.sl 24 (some (.nm .command)),1,[.em true]⟩),
 (61,⟨.fn,1,[.nf]⟩),
 (62,⟨.st [(0,1),(1,1)],2,[.int 0,.int 0]⟩),
 (63,⟨.st [(0,1),(1,1)],2,[.int 0,.int 0]⟩),
 (64,⟨.fn,1,[.nf]⟩),
 (66,⟨.fn,1,[.nf]⟩),
 (67,⟨.sl 90 (some (.nm .field)),1,[.em true]⟩),
 (69,⟨.fn,1,[.nf]⟩),
 (70,⟨.fn,1,[.nf]⟩),
 (71,⟨.fn,1,[.nf]⟩),
 (72,⟨.st [(0,1),(1,1),(2,1),(3,1),(4,1)],5,[.int 0,.int 0,.em true,.bool (.lit false),.str ⟨[]⟩]⟩),
 (73,⟨.st [(0,1),(1,1),(2,1),(3,1),(4,1)],5,[.int 0,.int 0,.em true,.bool (.lit false),.str ⟨[]⟩]⟩),
 (74,⟨.fn,1,[.nf]⟩),
 (75,⟨.fn,1,[.nf]⟩),
 (76,⟨.fn,1,[.nf]⟩),
 (77,⟨.st [(0,8),(8,1),(9,1)],10,[.int 0,.int 0,.int 0,.int 0,.int 0,.int 0,.em true,.str ⟨[]⟩,.bool (.lit false),.int 0]⟩),
 (78,⟨.st [(0,8),(8,1),(9,1)],10,[.int 0,.int 0,.int 0,.int 0,.int 0,.int 0,.em true,.str ⟨[]⟩,.bool (.lit false),.int 0]⟩),
 (80,⟨.fn,1,[.nf]⟩),
 (81,⟨.st [(0,1),(1,1),(2,2)],4,[.int 0,.int 0,.int 0,.int 0]⟩),
 (82,⟨.st [(0,1),(1,1),(2,2)],4,[.int 0,.int 0,.int 0,.int 0]⟩),
 (83,⟨.fn,1,[.nf]⟩),
 (84,⟨.fn,1,[.nf]⟩),
 (85,⟨.fn,1,[.nf]⟩),
 (86,⟨.fn,1,[.nf]⟩),
 (87,⟨.fn,1,[.nf]⟩),
 (88,⟨.i .u64,1,[.u64 0]⟩),
 (89,⟨.st [(0,1),(1,1),(2,1),(3,1)],4,[.int 0,.int 0,.u64 0,.em true]⟩),
 (90,⟨.st [(0,1),(1,1),(2,1),(3,1)],4,[.int 0,.int 0,.u64 0,.em true]⟩),
 (91,⟨.fn,1,[.nf]⟩),
 (92,⟨.fn,1,[.nf]⟩),
 (93,⟨.fn,1,[.nf]⟩),
 (94,⟨.fn,1,[.nf]⟩),
 (96,⟨.fn,1,[.nf]⟩),
 (97,⟨.fn,1,[.nf]⟩),
 (99,⟨.fn,1,[.nf]⟩),
 (100,⟨.fn,1,[.nf]⟩),
 (101,⟨.fn,1,[.nf]⟩),
 (102,⟨.mp 3 3 (some .int),1,[.dead]⟩),
 (103,⟨.fn,1,[.nf]⟩),
 (104,⟨.fn,1,[.nf]⟩),
 (105,⟨.fn,1,[.nf]⟩),
 (106,⟨.fn,1,[.nf]⟩),
 (107,⟨.fn,1,[.nf]⟩),
 (108,⟨.fn,1,[.nf]⟩),
 (109,⟨.fn,1,[.nf]⟩),
 (110,⟨.fn,1,[.nf]⟩),
 (111,⟨.fn,1,[.nf]⟩),
 (112,⟨.fn,1,[.nf]⟩),
 (113,⟨.fn,1,[.nf]⟩),
 (114,⟨.fn,1,[.nf]⟩),
 (115,⟨.ar 7 3,7,[.int 0,.int 0,.int 0,.int 0,.int 0,.int 0,.int 0]⟩),
 (117,⟨.fn,1,[.nf]⟩),
 (118,⟨.fn,1,[.nf]⟩),
 (119,⟨.fn,1,[.nf]⟩),
 (120,⟨.st [(0,1),(1,1)],2,[.int 0,.int 0]⟩),
 (121,⟨.st [(0,1),(1,1)],2,[.int 0,.int 0]⟩),
 (122,⟨.fn,1,[.nf]⟩),
 (123,⟨.mp 3 121 (some (.nm .span)),1,[.dead]⟩),
 (124,⟨.ar 5 3,5,[.int 0,.int 0,.int 0,.int 0,.int 0]⟩),
 (125,⟨.sl 128 (some (.nm .spec)),1,[.em true]⟩),
 (126,⟨.fn,1,[.nf]⟩),
 (127,⟨.st [(0,1),(1,1),(2,1),(3,1),(4,1)],5,[.int 0,.int 0,.int 0,.bool (.lit false),.bool (.lit false)]⟩),
 (128,⟨.st [(0,1),(1,1),(2,1),(3,1),(4,1)],5,[.int 0,.int 0,.int 0,.bool (.lit false),.bool (.lit false)]⟩),
 (129,⟨.fn,1,[.nf]⟩),
 (130,⟨.fn,1,[.nf]⟩),
 (131,⟨.fn,1,[.nf]⟩),
 (132,⟨.fn,1,[.nf]⟩),
 (133,⟨.fn,1,[.nf]⟩),
 (134,⟨.fn,1,[.nf]⟩),
 (135,⟨.fn,1,[.nf]⟩),
 (137,⟨.fn,1,[.nf]⟩),
 (138,⟨.fn,1,[.nf]⟩),
 (139,⟨.fn,1,[.nf]⟩),
 (140,⟨.fn,1,[.nf]⟩),
 (141,⟨.fn,1,[.nf]⟩),
 (142,⟨.fn,1,[.nf]⟩),
 (143,⟨.fn,1,[.nf]⟩),
 (144,⟨.fn,1,[.nf]⟩),
 (145,⟨.fn,1,[.nf]⟩),
 (146,⟨.fn,1,[.nf]⟩),
 (147,⟨.fn,1,[.nf]⟩),
 (148,⟨.fn,1,[.nf]⟩),
 (149,⟨.fn,1,[.nf]⟩),
 (151,⟨.fn,1,[.nf]⟩),
 (153,⟨.fn,1,[.nf]⟩),
 (154,⟨.fn,1,[.nf]⟩),
 (155,⟨.fn,1,[.nf]⟩),
 (156,⟨.fn,1,[.nf]⟩),
 (157,⟨.fn,1,[.nf]⟩),
 (158,⟨.fn,1,[.nf]⟩),
 (160,⟨.fn,1,[.nf]⟩),
 (161,⟨.fn,1,[.nf]⟩),
 (162,⟨.fn,1,[.nf]⟩),
 (163,⟨.fn,1,[.nf]⟩),
 (164,⟨.fn,1,[.nf]⟩),
 (165,⟨.fn,1,[.nf]⟩),
 (166,⟨.fn,1,[.nf]⟩),
 (167,⟨.fn,1,[.nf]⟩),
 (168,⟨.fn,1,[.nf]⟩),
 (169,⟨.fn,1,[.nf]⟩),
 (170,⟨.fn,1,[.nf]⟩),
 (171,⟨.ptr,1,[.np]⟩),
 (172,⟨.fn,1,[.nf]⟩),
 (174,⟨.fn,1,[.nf]⟩),
 (175,⟨.ptr,1,[.np]⟩),
 (176,⟨.fn,1,[.nf]⟩),
 (177,⟨.mp 3 169 none,1,[.dead]⟩),
 (178,⟨.fn,1,[.nf]⟩),
 (179,⟨.fn,1,[.nf]⟩),
 (180,⟨.fn,1,[.nf]⟩),
 (181,⟨.fn,1,[.nf]⟩),
 (182,⟨.fn,1,[.nf]⟩),
 (183,⟨.fn,1,[.nf]⟩),
 (184,⟨.fn,1,[.nf]⟩),
 (185,⟨.mp 3 125 (some (.lst (.nm .spec))),1,[.dead]⟩),
 (186,⟨.fn,1,[.nf]⟩),
 (187,⟨.i .u64,1,[.u64 0]⟩),
 (188,⟨.fn,1,[.nf]⟩),
 (189,⟨.fn,1,[.nf]⟩),
 (190,⟨.fn,1,[.nf]⟩),
 (191,⟨.fn,1,[.nf]⟩),
 (192,⟨.fn,1,[.nf]⟩),
 (193,⟨.fn,1,[.nf]⟩),
 (194,⟨.fn,1,[.nf]⟩),
 (195,⟨.fn,1,[.nf]⟩),
 (196,⟨.fn,1,[.nf]⟩),
 (197,⟨.fn,1,[.nf]⟩),
 (198,⟨.fn,1,[.nf]⟩),
 (199,⟨.fn,1,[.nf]⟩),
 (200,⟨.ar 65 3,65,[.int 0,.int 0,.int 0,.int 0,.int 0,.int 0,.int 0,.int 0,.int 0,.int 0,.int 0,.int 0,.int 0,.int 0,.int 0,.int 0,.int 0,.int 0,.int 0,.int 0,.int 0,.int 0,.int 0,.int 0,.int 0,.int 0,.int 0,.int 0,.int 0,.int 0,.int 0,.int 0,.int 0,.int 0,.int 0,.int 0,.int 0,.int 0,.int 0,.int 0,.int 0,.int 0,.int 0,.int 0,.int 0,.int 0,.int 0,.int 0,.int 0,.int 0,.int 0,.int 0,.int 0,.int 0,.int 0,.int 0,.int 0,.int 0,.int 0,.int 0,.int 0,.int 0,.int 0,.int 0,.int 0]⟩),
 (201,⟨.ar 65 3,65,[.int 0,.int 0,.int 0,.int 0,.int 0,.int 0,.int 0,.int 0,.int 0,.int 0,.int 0,.int 0,.int 0,.int 0,.int 0,.int 0,.int 0,.int 0,.int 0,.int 0,.int 0,.int 0,.int 0,.int 0,.int 0,.int 0,.int 0,.int 0,.int 0,.int 0,.int 0,.int 0,.int 0,.int 0,.int 0,.int 0,.int 0,.int 0,.int 0,.int 0,.int 0,.int 0,.int 0,.int 0,.int 0,.int 0,.int 0,.int 0,.int 0,.int 0,.int 0,.int 0,.int 0,.int 0,.int 0,.int 0,.int 0,.int 0,.int 0,.int 0,.int 0,.int 0,.int 0,.int 0,.int 0]⟩),
 (202,⟨.fn,1,[.nf]⟩),
 (203,⟨.fn,1,[.nf]⟩),
 (204,⟨.fn,1,[.nf]⟩),
 (205,⟨.fn,1,[.nf]⟩),
 (206,⟨.fn,1,[.nf]⟩),
 (207,⟨.fn,1,[.nf]⟩),
 (208,⟨.ptr,1,[.np]⟩),
 (209,⟨.fn,1,[.nf]⟩),
 (210,⟨.fn,1,[.nf]⟩),
 (211,⟨.st [(0,1),(1,1),(2,1),(3,1)],4,[.np,.np,.np,.str ⟨[]⟩]⟩),
 (212,⟨.st [(0,1),(1,1),(2,1),(3,1)],4,[.np,.np,.np,.str ⟨[]⟩]⟩),
 (213,⟨.ar 0 16,0,[]⟩),
 (216,⟨.fn,1,[.nf]⟩),
 (218,⟨.i .u8,1,[.u8 0]⟩),
 (219,⟨.i .u8,1,[.u8 0]⟩),
 (220,⟨.fn,1,[.nf]⟩),
 (221,⟨.ptr,1,[.np]⟩)]
end Go.Proofs.YtladifkbefehdaaGreat
namespace Go.Proofs.YtladifkbefehdaaGreat
theorem dx:bO Tryz.prog (al tyT) tyT:=Py (by kernel_rfl)
theorem hL:Tryz.prog.follows .mixedOrders=true:=by kernel_rfl
end Go.Proofs.YtladifkbefehdaaGreat
namespace Go.Proofs.YtladifkbefehdaaGreat
open Go.RowKit
def VX (a b:TV1):Prop:=∀ c ρ v,dh c ρ a v->dh c ρ b v
def Bo:List TV1->List TV1->Prop
 | [],[]=>True
 | a :: r,b :: l=>VX a b/\Bo r l
 | _,_=>False
theorem Bo.rd {c:Cx} {ρ:List RE}:∀ {aa bs:List TV1} {vs:List Value},Bo aa bs->All2 (dh c ρ) aa vs->All2 (dh c ρ) bs vs
 | [],[],_,_,h=>h
 | [],_ :: _,_,h,_=>h.elim
 | _ :: _,[],_,h,_=>h.elim
 | _ :: _,_ :: _,_,h,k=>by cases k with | cons k1 k2=>exact .cons (h.1 _ _ _ k1) (Bo.rd h.2 k2)
structure PU (α:Type) where
 p:TV1->Option α
 u:α->TV1
def PU.OK {α:Type} (A:PU α):Prop:=∀ a y,A.p a=some y->VX a (A.u y)
def kT (s:Sh):PU (den s):=⟨fun | .agg l=>fa s l | _=>none,fun x=>.agg (cellsOf s x)⟩
def kAp (s:Sh) (n:Nat):TV1->Option (List (den s))
 | .agg l=>match oA s l with
  | some xs=>bif Nat.beq xs.length n && Nat.beq s.size 1 then some xs else none
  | none=>none
 | .c _=>none
def kA (s:Sh) (n:Nat):PU (List (den s)):=⟨kAp s n,fun xs=>.agg (mz s xs 0 n)⟩
theorem qK {s:Sh} {xs:List (den s)}:∀ (n k:Nat),k+n=xs.length->mz s xs k n=(xs.drop k).flatMap (cellsOf s)
 | 0,k,h=>by rw [List.drop_of_length_le (by omega)]; rfl
 | n+1,k,h=>by
  have hk:k<xs.length:=by omega
  rw [mz,qK n (k+1) (by omega),List.drop_eq_getElem_cons hk,List.flatMap_cons,List.getD_eq_getElem?_getD,List.getElem?_eq_getElem hk]; rfl
theorem U_ {s:Sh} {n:Nat}:(kA s n).OK:=fun a y h=>by
 cases a with
 | c a=>cases h
 | agg l=>
  have h:kAp s n (.agg l)=some y:=h
  simp only [kAp] at h
  split at h
  ·rename_i xs hx
   cases hb:(Nat.beq xs.length n && Nat.beq s.size 1) <;> rw [hb] at h <;> cases h
   simp only [Bool.and_eq_true] at hb
   intro c ρ v hv
   obtain ⟨us,e,hu⟩:=hv
   refine ⟨us,e,?_⟩
   show All2 _ (mz s y 0 n) us
   have:=Nat.eq_of_beq_eq_true hb.1
   rw [qK n 0 (by omega)]
   exact fb (iS hx hu)
  ·cases h
def oD (s:Sh) (xs:List (den s)):Nat->Nat->List (den s)
 | _,0=>[]
 | k,n+1=>xs.getD k (dflt s) :: oD s xs (k+1) n
theorem om {s:Sh} {xs:List (den s)}:∀ (n k:Nat),(oD s xs k n).length=n
 | 0,_=>rfl
 | n+1,k=>by rw [oD,List.length_cons,om n]
theorem we {s:Sh} {xs:List (den s)}:∀ (n k:Nat),k+n=xs.length->oD s xs k n=xs.drop k
 | 0,k,h=>by rw [List.drop_of_length_le (by omega)]; rfl
 | n+1,k,h=>by
  have hk:k<xs.length:=by omega
  rw [oD,we n (k+1) (by omega),List.drop_eq_getElem_cons hk,List.getD_eq_getElem?_getD,List.getElem?_eq_getElem hk]; rfl
theorem iq {s:Sh} {xs:List (den s)} {n:Nat} (h:xs.length=n):oD s xs 0 n=xs:=we n 0 (by omega)
theorem aZ {s:Sh}:(kT s).OK:=fun a y h=>by
 cases a with
 | c a=>cases h
 | agg l=>exact fun c ρ v ⟨vs,e,hv⟩=>⟨vs,e,fb (bg h (hv.imp fun _ _ h=>Rd.qd h))⟩
structure PC (α:Type) where
 p:AV->Option α
 u:α->AV
def PC.OK {α:Type} (A:PC α):Prop:=∀ a y,A.p a=some y->∀ c ρ v,Rd c ρ a v->Rd c ρ (A.u y) v
def cI:PC Int:=⟨AV.b_,.int⟩
def cU:PC U64:=⟨AV.NY,fun n=>.u64 n.n⟩
def cB:PC Bool:=⟨AV.wV,fun b=>.bool (.atom b)⟩
def cL (s:Sh):PC (List (den s)):=⟨AV.gw s,.fz s⟩
def bF (i:Nat):PC Unit:=⟨fun | .own j=>bif Nat.beq j i then some () else none | _=>none,fun _=>.own i⟩
def cw (i o:Nat):PC Unit:=⟨fun | .ptr j k=>bif Nat.beq j i && Nat.beq k o then some () else none | _=>none,fun _=>.ptr i o⟩
def oT:List (Nat × Nat)->List (Nat × Nat)->Bool
 | [],[]=>true
 | (i,o) :: r,(j,k) :: l=>Nat.beq i j && Nat.beq o k && oT r l
 | _,_=>false
def ql (f:Nat) (b cs:List (Nat × Nat)):PC Unit:=⟨fun | .fn g b' cs'=>bif Nat.beq g f && oT b' b && oT cs' cs then some () else none | _=>none,fun _=>.fn f b cs⟩
def Xy (b:Bool):PC Unit:=⟨fun | .em b'=>bif b' == b then some () else none | _=>none,fun _=>.em b⟩
theorem lg {A:AV} {y:AV} (h:∀ c v,Qd c A v->Pd c y v):∀ c ρ v,Rd c ρ A v->Rd c ρ y v:=fun c ρ v hv=>ju (h c v (Rd.qd hv))
theorem ay:cI.OK:=fun a y h=>lg fun _ _ hv=>Pd.b_ h hv
theorem Hp:cU.OK:=fun a y h=>lg fun _ _ hv=>Pd.NY h hv
theorem lN:cB.OK:=fun a y h=>lg fun _ _ hv=>Pd.wV h hv
theorem aY {s:Sh}:(cL s).OK:=fun a y h=>lg fun _ _ hv=>Pd.gw h hv
theorem aF {i:Nat}:(bF i).OK:=fun a y h c ρ v hv=>by
 cases a <;> simp only [bF] at h <;> try cases h
 rename_i j
 cases hb:Nat.beq j i <;> rw [hb] at h <;> cases h
 rw [Nat.eq_of_beq_eq_true hb] at hv; exact hv
theorem aQ {i o:Nat}:(cw i o).OK:=fun a y h c ρ v hv=>by
 cases a <;> simp only [cw] at h <;> try cases h
 rename_i j k
 cases hb:(Nat.beq j i && Nat.beq k o) <;> rw [hb] at h <;> cases h
 simp only [Bool.and_eq_true] at hb
 rw [Nat.eq_of_beq_eq_true hb.1,Nat.eq_of_beq_eq_true hb.2] at hv; exact hv
theorem oB:∀ {a b:List (Nat × Nat)},oT a b=true->a=b
 | [],[],_=>rfl
 | [],_ :: _,h=>by cases h
 | _ :: _,[],h=>by cases h
 | (i,o) :: r,(j,k) :: l,h=>by
  simp only [oT,Bool.and_eq_true] at h
  rw [Nat.eq_of_beq_eq_true h.1.1,Nat.eq_of_beq_eq_true h.1.2,oB h.2]
theorem dw {f:Nat} {b cs:List (Nat × Nat)}:(ql f b cs).OK:=fun a y h c ρ v hv=>by
 cases a <;> simp only [ql] at h <;> try cases h
 rename_i g b' cs'
 cases hb:(Nat.beq g f && oT b' b && oT cs' cs) <;> rw [hb] at h <;> cases h
 simp only [Bool.and_eq_true] at hb
 rw [Nat.eq_of_beq_eq_true hb.1.1,oB hb.1.2,oB hb.2] at hv; exact hv
theorem Hn {b:Bool}:(Xy b).OK:=fun a y h c ρ v hv=>by
 cases a <;> simp only [Xy] at h <;> try cases h
 rename_i b'
 cases hb:(b' == b) <;> rw [hb] at h <;> cases h
 have:=beq_iff_eq.1 hb
 subst this; exact hv
structure PL (α:Type) where
 p:List AV->Option α
 u:α->List AV
def PL.OK {α:Type} (A:PL α):Prop:=∀ l y,A.p l=some y->∀ c ρ vs,All2 (Rd c ρ) l vs->All2 (Rd c ρ) (A.u y) vs
def cm:PL Unit:=⟨fun | []=>some () | _=>none,fun _=>[]⟩
def aA {α β:Type} (A:PC α) (R:PL β):PL (α × β):=⟨fun
 | a :: r=>match A.p a,R.p r with
  | some x,some y=>some (x,y)
  | _,_=>none
 | _=>none,fun q=>A.u q.1 :: R.u q.2⟩
def tJ {β:Type} (s:Sh) (R:PL β):PL (den s × β):=⟨fun l=>match fa s (l.take s.size),R.p (l.drop s.size) with
 | some x,some y=>some (x,y)
 | _,_=>none,fun q=>cellsOf s q.1++R.u q.2⟩
theorem aM:cm.OK:=fun l y h c ρ vs hv=>by cases l <;> simp only [cm] at h <;> first | exact hv | cases h
theorem ag {α β:Type} {A:PC α} {R:PL β} (hA:A.OK) (hR:R.OK):(aA A R).OK:=fun l y h c ρ vs hv=>by
 cases l with
 | nil=>cases h
 | cons a r=>
  simp only [aA] at h
  split at h
  ·rename_i h1 h2
   cases h
   cases hv with
   | cons k1 k2=>exact .cons (hA _ _ h1 _ _ _ k1) (hR _ _ h2 _ _ _ k2)
  ·cases h
theorem dZ {β:Type} {s:Sh} {R:PL β} (hR:R.OK):(tJ s R).OK:=fun l y h c ρ vs hv=>by
 simp only [tJ] at h
 split at h
 ·rename_i h1 h2
  cases h
  have k1:=fb (ρ:=ρ) (bg h1 ((hv.take s.size).imp fun _ _ h=>Rd.qd h))
  have k2:=hR _ _ h2 _ _ _ (hv.drop s.size)
  have:=k1.append k2
  rwa [List.take_append_drop] at this
 ·cases h
def kC {α:Type} (A:PC α):PU α:=⟨fun | .c a=>A.p a | _=>none,fun y=>.c (A.u y)⟩
def kG {α:Type} (R:PL α):PU α:=⟨fun | .agg l=>R.p l | _=>none,fun y=>.agg (R.u y)⟩
theorem aq {α:Type} {A:PC α} (hA:A.OK):(kC A).OK:=fun a y h=>by
 cases a with
 | c a=>exact fun c ρ v hv=>hA _ _ h c ρ v hv
 | agg l=>cases h
theorem Vd {α:Type} {R:PL α} (hR:R.OK):(kG R).OK:=fun a y h=>by
 cases a with
 | c a=>cases h
 | agg l=>exact fun c ρ v ⟨vs,e,hv⟩=>⟨vs,e,hR _ _ h _ _ _ hv⟩
structure PT (α:Type) where
 p:List TV1->Option α
 u:α->List TV1
def PT.OK {α:Type} (A:PT α):Prop:=∀ l y,A.p l=some y->Bo l (A.u y)
def aH:PT Unit:=⟨fun | []=>some () | _=>none,fun _=>[]⟩
def ah {α β:Type} (A:PU α) (R:PT β):PT (α × β):=⟨fun
 | a :: r=>match A.p a,R.p r with
  | some x,some y=>some (x,y)
  | _,_=>none
 | _=>none,fun q=>A.u q.1 :: R.u q.2⟩
theorem ai:aH.OK:=fun l y h=>by cases l <;> simp only [aH] at h <;> first | exact trivial | cases h
theorem ab {α β:Type} {A:PU α} {R:PT β} (hA:A.OK) (hR:R.OK):(ah A R).OK:=fun l y h=>by
 cases l with
 | nil=>cases h
 | cons a r=>
  simp only [ah] at h
  split at h
  ·rename_i h1 h2
   cases h
   exact ⟨hA _ _ h1,hR _ _ h2⟩
  ·cases h
structure PO (α:Type) where
 p:AO->Option α
 u:α->AO
def PO.OK {α:Type} (A:PO α):Prop:=∀ o y,A.p o=some y->∀ c ρ r,OR c ρ o r->OR c ρ (A.u y) r
def cq {α:Type} (t:TypeId) (R:PL α):PO α:=⟨fun | .box t' cs=>bif Nat.beq t' t then R.p cs else none | _=>none,fun y=>.box t (R.u y)⟩
def bE (t:TypeId) (s:Sh):PO (List (den s)):=⟨fun | .row t' s' xs=>bif Nat.beq t' t then (if h:s' = s then some (h ▸ xs) else none) else none | _=>none,fun xs=>.row t s xs⟩
def sN (t:TypeId) (s:Sh) (n:Nat):PO (List (den s)):=⟨fun | .arr t' s' n' xs=>bif Nat.beq t' t && Nat.beq n' n then (if h:s' = s then some (h ▸ xs) else none) else none | _=>none,fun xs=>.arr t s n xs⟩
theorem aN {α:Type} {t:TypeId} {R:PL α} (hR:R.OK):(cq t R).OK:=fun o y h c ρ r hr=>by
 cases o <;> simp only [cq] at h <;> try cases h
 rename_i t' cs
 cases hb:Nat.beq t' t <;> rw [hb] at h
 ·cases h
 ·have:=Nat.eq_of_beq_eq_true hb
  subst this
  obtain ⟨g,vs,e,h1,h2⟩:=hr
  exact ⟨g,vs,e,h1,hR _ _ h _ _ _ h2⟩
theorem aE {t:TypeId} {s:Sh}:(bE t s).OK:=fun o y h c ρ r hr=>by
 cases o <;> simp only [bE] at h <;> try cases h
 rename_i t' s' xs
 cases hb:Nat.beq t' t <;> rw [hb] at h
 ·cases h
 ·have:=Nat.eq_of_beq_eq_true hb
  subst this
  simp only [cond_true] at h
  split at h
  ·rename_i e
   subst e
   cases h
   exact hr
  ·cases h
theorem gW {t:TypeId} {s:Sh} {n:Nat}:(sN t s n).OK:=fun o y h c ρ r hr=>by
 cases o <;> simp only [sN] at h <;> try cases h
 rename_i t' s' n' xs
 cases hb:(Nat.beq t' t && Nat.beq n' n) <;> rw [hb] at h
 ·cases h
 ·simp only [Bool.and_eq_true] at hb
  have:=Nat.eq_of_beq_eq_true hb.1
  subst this
  have:=Nat.eq_of_beq_eq_true hb.2
  subst this
  simp only [cond_true] at h
  split at h
  ·rename_i e
   subst e
   cases h
   exact hr
  ·cases h
structure PH (α:Type) where
 p:AH->Option α
 u:α->AH
def PH.OK {α:Type} (A:PH α):Prop:=∀ H y,A.p H=some y->∀ c ρ ρ',All2 (OR c ρ) H ρ' -> All2 (OR c ρ) (A.u y) ρ'
def aI:PH Unit:=⟨fun | []=>some () | _=>none,fun _=>[]⟩
def aC {α β:Type} (A:PO α) (R:PH β):PH (α × β):=⟨fun
 | a :: r=>match A.p a,R.p r with
  | some x,some y=>some (x,y)
  | _,_=>none
 | _=>none,fun q=>A.u q.1 :: R.u q.2⟩
theorem aj:aI.OK:=fun l y h c ρ ρ' hr=>by cases l <;> simp only [aI] at h <;> first | exact hr | cases h
theorem ak {α β:Type} {A:PO α} {R:PH β} (hA:A.OK) (hR:R.OK):(aC A R).OK:=fun l y h c ρ ρ' hr=>by
 cases l with
 | nil=>cases h
 | cons a r=>
  simp only [aC] at h
  split at h
  ·rename_i h1 h2
   cases h
   cases hr with
   | cons k1 k2=>exact .cons (hA _ _ h1 _ _ _ k1) (hR _ _ h2 _ _ _ k2)
  ·cases h
theorem Sat.aaI {P:Program} {shp:TypeId->Option Sh} {f:Nat} {aa bs:List TV1} {H H':AH} {r:SpecR} (h:Sat P shp f bs H' r) (hs:Bo aa bs) (hH:∀ c ρ ρ',All2 (OR c ρ) H ρ' -> All2 (OR c ρ) H' ρ'):Sat P shp f aa H r:=
 ⟨h.1,fun G ρ w vs hg hR hv=>h.2 G ρ w vs hg ⟨hH _ _ _ hR.obj,hR.inj,hR.bnd,hR.z,hR.b0⟩ (hs.rd hv)⟩
section
variable {α β:Type} {P:Program} {shp:TypeId->Option Sh} {f:Nat}
def bm (A:PT α) (B:PH β) (r:α->β->SpecR):List TV1->AH->Option SpecR:=fun a H=>match A.p a,B.p H with
 | some x,some y=>some (r x y)
 | _,_=>none
def Ov (P:Program) (shp:TypeId->Option Sh) (f:Nat) (k:List TV1->AH->Option SpecR):Prop:=∀ args H r,k args H=some r->(∀ p ∈ r.pre,p)->Sat P shp f args H r
theorem av {A:PT α} {B:PH β} {r:α->β->SpecR} (hA:A.OK) (hB:B.OK) (h:∀ x y,(∀ p ∈ (r x y).pre,p)->Sat P shp f (A.u x) (B.u y) (r x y)):Ov P shp f (bm A B r):=fun args H R e hp=>by
 unfold bm at e
 split at e
 ·rename_i hx hy
  cases e
  exact (h _ _ hp).aaI (hA _ _ hx) fun c ρ ρ' hr=>hB _ _ hy c ρ ρ' hr
 ·cases e
def bq (f:Nat) (k:List TV1->AH->Option SpecR) (O:cO):cO:=fun g a H=>bif Nat.beq f g then (match k a H with
 | some r=>some r
 | none=>O g a H) else O g a H
theorem au {k:List TV1->AH->Option SpecR} {O:cO} (hk:Ov P shp f k) (hO:aW P shp O):aW P shp (bq f k O):=fun g args H r h hp=>by
 unfold bq at h
 cases hb:Nat.beq f g <;> rw [hb] at h
 ·exact hO g args H r h hp
 ·have:=Nat.eq_of_beq_eq_true hb
  subst this
  simp only [cond_true] at h
  split at h
  ·rename_i hkk
   cases h
   exact hk _ _ _ hkk hp
  ·exact hO f args H r h hp
def kS:cO:=fun _ _ _=>none
def JY (O:cO):cO:=fun g a H=>bif Nat.beq g 1000000000 then some ⟨[False],[],none,false⟩ else O g a H
theorem AS {O:cO} (hO:aW P shp O):aW P shp (JY O):=fun g args H r h hp=>by
 unfold JY at h
 cases hb:Nat.beq g 1000000000 <;> rw [hb] at h
 ·exact hO g args H r h hp
 ·cases h; exact (hp False (by simp)).elim
theorem dU:aW P shp kS:=fun _ _ _ _ h=>by cases h
theorem cY {p:Prop} {l:List Prop} (h:∀ q ∈ p :: l,q):p:=h _ (.head _)
theorem dS {p:Prop} {l:List Prop} (h:∀ q ∈ p :: l,q):∀ q ∈ l,q:=fun q hq=>h q (.tail _ hq)
end
theorem aJ {O:cO} (hO:aW Tryz.prog (al tyT) O) {f:Nat} {fn:Func} {args rs:List TV1} {H:AH} {pre:List Prop} (L:List (Nat × LI)) (hfn:Tryz.prog.funcs[f]? = some fn) (hng:(fn.name == "runtime.NumGoroutine")=false)
  (hc:(match fn.body with
   | some c=>dJ fn.ntmps c && Nat.ble args.length fn.ntmps
   | none=>false)=true) (h:ck tyT O L fn args H rs):Sat Tryz.prog (al tyT) f args H ⟨pre,rs,none,false⟩:=Sat.RL dx hO (kJ dx hO hL) hfn hng hc h
theorem dI {O:cO} (hO:aW Tryz.prog (al tyT) O) {f:Nat} {fn:Func} {args rs:List TV1} {H H':AH} {pre:List Prop} (L:List (Nat × LI)) (hfn:Tryz.prog.funcs[f]? = some fn) (hng:(fn.name == "runtime.NumGoroutine")=false)
  (hc:(match fn.body with
   | some c=>dJ fn.ntmps c && Nat.ble args.length fn.ntmps
   | none=>false)=true) (h:nE tyT O L fn args H rs H'):Sat Tryz.prog (al tyT) f args H ⟨pre,rs,some H',false⟩:=Sat.FU dx hO (kJ dx hO hL) hfn hng hc h
theorem cA {O:cO} (hO:aW Tryz.prog (al tyT) O) {f:Nat} {fn:Func} {args rs:List TV1} {H H':AH} {pre:List Prop} (L:List (Nat × LI)) (hfn:Tryz.prog.funcs[f]? = some fn) (hng:(fn.name == "runtime.NumGoroutine")=false)
  (hc:(match fn.body with
   | some c=>dJ fn.ntmps c && Nat.ble args.length fn.ntmps
   | none=>false)=true) (h:gV tyT O L fn args H rs H'):Sat Tryz.prog (al tyT) f args H ⟨pre,rs,some H',true⟩:=Sat.FU dx hO (kJ dx hO hL) hfn hng hc h
def GZ (G:Gl) (a b:Nat):Gl:=⟨G.shp,G.B0,fun x=>G.Z x\/x=a\/x=b⟩
structure Adv (Z:Nat->Prop) (ρ:List RE) (w:World) (ρ':List RE) (w':World):Prop where
 os:w'.os=w.os
 tape:w'.tape=w.tape
 output:w'.output=w.output
 size:w.heap.size<=w'.heap.size
 old:∀ b,b<w.heap.size->¬ live ρ b->¬ live ρ' b/\(¬ Z b->w'.heap[b]? = w.heap[b]?)
 bx:∀ (i g:Nat),ρ[i]? = some (.blk g)->ρ'[i]? = some (.blk g)
section
variable {Z:Nat->Prop} {G:Gl} {H:AH} {ρ ρ0 ρ1 ρ2 ρ':List RE} {w w' wa wb wc:World}
theorem Adv.trans (h:Adv Z ρ0 wa ρ1 wb) (k:Adv Z ρ1 wb ρ2 wc):Adv Z ρ0 wa ρ2 wc:=
 ⟨k.os.trans h.os,k.tape.trans h.tape,k.output.trans h.output,Nat.le_trans h.size k.size,fun x hx hl=>by
  obtain ⟨h1,h2⟩:=h.old x hx hl
  obtain ⟨h3,h4⟩:=k.old x (Nat.lt_of_lt_of_le hx h.size) h1
  exact ⟨h3,fun hz=>(h4 hz).trans (h2 hz)⟩,fun i g hg=>k.bx i g (h.bx i g hg)⟩
theorem Adv.tw (h:Ext ρ w ρ' w') (hb:∀ (i g:Nat),ρ[i]? = some (.blk g)->ρ'[i]? = some (.blk g)):Adv Z ρ w ρ' w':=
 ⟨h.os,h.tape,h.output,h.size,fun b hb hl=>⟨(h.old b hb hl).1,fun _=>(h.old b hb hl).2⟩,hb⟩
theorem Adv.put {l:Nat} (o:Obj) (hl:Z l):Adv Z ρ w ρ (w.putObj l o):=
 ⟨rfl,rfl,rfl,by simp,fun b _ h=>⟨h,fun hz=>World.putObj_heap_other (fun e=>hz (e ▸ hl))⟩,fun _ _ h=>h⟩
theorem Adv.le (hZ:∀ b,Z b->G.Z b) (h:Adv Z ρ w ρ' w'):(cx G ρ w).le (cx G ρ' w'):=
 ⟨rfl,rfl,fun b hb=>⟨⟨Nat.lt_of_lt_of_le hb.1 h.size,(h.old b hb.1 hb.2.1).1,hb.2.2⟩,(h.old b hb.1 hb.2.1).2 fun hz=>hb.2.2 (hZ b hz)⟩⟩
theorem Rep.Cj (h:Rep G ρ H w) {l:Nat} (o:Obj) (hl:G.Z l):Rep G ρ H (w.putObj l o):=by
 have hle:(cx G ρ w).le (cx G ρ (w.putObj l o)):=Adv.le (Z:=G.Z) (fun _ h=>h) (Adv.put o hl)
 refine ⟨cE h.obj.length fun i o' r ho hr=>?_,h.inj,fun i r g h1 h2=>?_,fun b hb=>by have:=h.z b hb; simpa using this,by have:=h.b0; simpa using this⟩
 ·obtain ⟨r',hr',hor⟩:=h.at_ ho
  rw [hr] at hr'; cases hr'
  exact hor.carry hle (iM.refl _) fun g hg=>World.putObj_heap_other (fun e=>(h.bnd i r g hr hg).2.2 (e ▸ hl))
 ·have:=h.bnd i r g h1 h2
  exact ⟨this.1,by simpa using this.2.1,this.2.2⟩
theorem Rep.enter (h:Rep G ρ H w) (o1 o2:Obj):Rep (GZ G w.heap.size (w.heap.size+1)) ρ H ((w.alloc o1).alloc o2)/\(cx G ρ w).le (cx (GZ G w.heap.size (w.heap.size+1)) ρ ((w.alloc o1).alloc o2))/\Kp [] w ((w.alloc o1).alloc o2):=by
 have hk:Kp [] w ((w.alloc o1).alloc o2):=by
  have k1:=World.grownBy_alloc w o1 none
  have k2:=World.grownBy_alloc (w.alloc o1) o2 none
  refine ⟨rfl,rfl,rfl,by simp; omega,fun b hb _=>?_⟩
  exact (k2.block b (by simp; omega) (by simp)).trans (k1.block b hb (by simp))
 have hle:(cx G ρ w).le (cx (GZ G w.heap.size (w.heap.size+1)) ρ ((w.alloc o1).alloc o2)):=⟨rfl,rfl,fun b hb=>by
  have hlt:b<w.heap.size:=hb.1
  exact ⟨⟨Nat.lt_of_lt_of_le hb.1 hk.size,hb.2.1,fun hz=>by
   rcases hz with hz | hz | hz
   ·exact hb.2.2 hz
   ·omega
   ·omega⟩,hk.block b hb.1 (by simp)⟩⟩
 refine ⟨⟨cE h.obj.length fun i o r ho hr=>?_,h.inj,fun i r g h1 h2=>?_,fun b hb=>?_,Nat.le_trans h.b0 hk.size⟩,hle,hk⟩
 ·obtain ⟨r',hr',hor⟩:=h.at_ ho
  rw [hr] at hr'; cases hr'
  exact hor.carry hle (iM.refl _) fun g hg=>hk.block g (h.bnd i r g hr hg).2.1 (by simp)
 ·have:=h.bnd i r g h1 h2
  refine ⟨this.1,Nat.lt_of_lt_of_le this.2.1 hk.size,fun hz=>?_⟩
  rcases hz with hz | hz | hz
  ·exact this.2.2 hz
  ·have:=this.2.1; omega
  ·have:=this.2.1; omega
 ·have hs:((w.alloc o1).alloc o2).heap.size=w.heap.size+1+1:=by simp
  rcases hb with hb | hb | hb
  ·exact Nat.lt_of_lt_of_le (h.z b hb) hk.size
  ·omega
  ·omega
theorem Rep.leave {a b:Nat} (h:Rep (GZ G a b) ρ H w) (hz:∀ x,G.Z x->x<w.heap.size):Rep G ρ H w/\(cx (GZ G a b) ρ w).le (cx G ρ w):=by
 have hle:(cx (GZ G a b) ρ w).le (cx G ρ w):=⟨rfl,rfl,fun x hx=>⟨⟨hx.1,hx.2.1,fun h=>hx.2.2 (.inl h)⟩,rfl⟩⟩
 refine ⟨⟨cE h.obj.length fun i o r ho hr=>?_,h.inj,fun i r g h1 h2=>?_,hz,h.b0⟩,hle⟩
 ·obtain ⟨r',hr',hor⟩:=h.at_ ho
  rw [hr] at hr'; cases hr'
  exact hor.carry hle (iM.refl _) fun g _=>rfl
 ·have:=h.bnd i r g h1 h2
  exact ⟨this.1,this.2.1,fun hz=>this.2.2 (.inl hz)⟩
def AB:AV->Bool
 | .own _=>false
 | .sub _ _ _=>false
 | .elp _ _ _=>false
 | _=>true
def WA:TV1->Bool
 | .c a=>AB a
 | .agg l=>l.all AB
def zb:AFr->Bool
 | []=>true
 | (_,.one t) :: r=>WA t && zb r
 | _ :: _=>false
theorem ey.ek {q:Nat × Nat} {v:Value} (h:ey ρ q v) (k:∀ (i g:Nat),ρ[i]? = some (.blk g)->ρ'[i]? = some (.blk g)):ey ρ' q v:=by
 obtain ⟨g,h1,h2⟩:=h
 exact ⟨g,k _ _ h1,h2⟩
theorem Rd.ek {c c':Cx} {a:AV} {v:Value} (h:Rd c ρ a v) (hs:AB a=true) (hc:c.le c') (k:∀ (i g:Nat),ρ[i]? = some (.blk g)->ρ'[i]? = some (.blk g)):Rd c' ρ' a v:=by
 cases a
 case own=>cases hs
 case sub=>cases hs
 case elp=>cases hs
 case ptr=>exact ey.ek h k
 case np=>exact h
 case fe=>
  obtain ⟨A,cells,h1,h2,h3,e⟩:=h
  exact ⟨A,cells,(hc.S _ h1).1,h2.keep (hc.S _ h1).2,h3.carry hc,e⟩
 case fn=>
  obtain ⟨bs,us,h1,h2,e⟩:=h
  exact ⟨bs,us,h1.imp fun _ _ h=>h.ek k,h2.imp fun _ _ h=>h.ek k,e⟩
 case nf=>exact h
 case yl=>exact h
 case mq=>
  obtain ⟨g,h1,e⟩:=h
  exact ⟨g,k _ _ h1,e⟩
 case dead=>exact h
 all_goals exact Pd.carry h hc
theorem Nz.ek {c c':Cx}:∀ {l:List AV} {vs:List Value},All2 (Rd c ρ) l vs->l.all AB=true->c.le c' -> (∀ (i g:Nat),ρ[i]? = some (.blk g)->ρ'[i]? = some (.blk g))->All2 (Rd c' ρ') l vs
 | [],_,h,_,_,_=>by cases h; exact .nil
 | _ :: _,_,h,hs,hc,k=>by
  cases h with | cons h1 h2=>
  simp only [List.all_cons,Bool.and_eq_true] at hs
  exact .cons (h1.ek hs.1 hc k) (Nz.ek h2 hs.2 hc k)
theorem FrR.ek {c c':Cx}:∀ {fr:AFr} {F:Fr},FrR c ρ fr F->zb fr=true->c.le c' -> (∀ (i g:Nat),ρ[i]? = some (.blk g)->ρ'[i]? = some (.blk g))->FrR c' ρ' fr F
 | [],_,h,_,_,_=>by cases h; exact .nil
 | (i,t) :: r,_,h,hs,hc,k=>by
  cases h with | cons h1 h2=>
  cases t with
  | one t=>
   simp only [zb,Bool.and_eq_true] at hs
   refine .cons ⟨h1.1,?_⟩ (FrR.ek h2 hs.2 hc k)
   cases t with
   | c a=>exact Rd.ek h1.2 hs.1 hc k
   | agg l=>obtain ⟨vs,e,h3⟩:=h1.2; exact ⟨vs,e,Nz.ek h3 hs.1 hc k⟩
  | _=>cases hs
end
section
variable {P:Program} {Q:Exit->Act->World->Prop} {n:Nat} {F:Fr} {w:World} {a:Act}
theorem II (h:a.defers=[]):gp a []=a:=by rw [gp,<- h]
theorem IT {c:Code} {ro:Option Nat} {m:Nat} (h:c.wpIn (fw ro) 0 P Q a w):c.wpIn (fw ro) m P Q a w:=fun b k cs h1 h2 _=>h b k cs h1 h2 TJ
theorem iL.Te {c:Code} {ro:Option Nat} {m:Nat} (hd:a.defers=[]) (h:iL P c Q a w):c.wpIn (fw ro) m P Q a w:=by
 have h1:=h ro []
 rw [II hd] at h1
 exact IT (wpIn_mono h1 fun e a' w' ⟨a0,h0,e1,hq⟩=>by rw [e1,II h0]; exact hq)
theorem WO.app {l r1 r2:List Oper} (h:WO P (fun e a w=>match e with | .normal=>H_ P l.toArray Q r2 a w | e=>Q e a w) n l r1 F w):WO P Q n l (r1++r2) F w:=fun a ha ro ds=>
 fJ (fun e a' w' he hq=>by
  obtain ⟨a0,h0,e1,hq⟩:=hq
  refine ⟨a0,h0,e1,?_⟩
  cases e with
  | normal=>exact absurd rfl he
  | _=>exact hq) (fun a' w' ⟨a0,_,e1,hq⟩=>by rw [e1]; exact hq ro ds) _ (h a ha ro ds)
theorem WO.yield {l rest:List Oper} {d f L:Nat} {op:Op} {ty:TypeId} {pos:String} {af:Array Edge} {tmps:Array Value} {assign body:Code} {φ:Value->World->Prop}
  (h:∀ a d pos af g,M n F a->(execOp a.eval ⟨d,op,ty,pos,af,g⟩).run P w = .ok (.round L f tmps assign body) w) (hd:Nat.blt d n=true)
  (hr:∀ ro m,RoundIn (fw ro) m P L f tmps assign body w fun e w'=>∃ v,e = .returned v/\φ v w') (k:∀ v w',φ v w' -> WO P Q n l rest ((d,v) :: F) w'):WO P Q n l (⟨some d,op,ty,pos,af,none⟩ :: rest) F w:=fun a ha ro ds=>
 wpListIn_plain rfl fun K hK=>by
  refine ⟨fun _ _=>trivial,?_⟩
  rw [lE,US (h a _ _ _ _ ha) (fun d=>by simp)]
  refine ⟨(fun h=>by cases h),(hr ro _).mono fun e w' ⟨v,he,hv⟩=>?_⟩
  subst he
  refine hK _ _ ?_
  rw [iQ]
  exact k v w' hv _ (ha.put hd) ro ds
theorem GD {ro:Option Nat} {m L f:Nat} {tmps:Array Value} {assign body:Code} {R:Ending->World->Prop}
  (h:iL P assign (Exit.then (fun a₁ w₁=>∃ w₂,(Instr.beginRound L).run P w₁ = .ok () w₂/\iL P body (roundPost P L R) a₁ w₂/\a₁.defers=[]) (fun _ _ _=>False)) { tmps:=tmps,defers:=[] } w):RoundIn (fw ro) m P L f tmps assign body w R:=by
 refine roundIn_of_wpIn (F:=fw ro) trivial ?_
 refine wpIn_mono (iL.Te (ro:=some L) rfl h) fun e a₁ w₁ hq=>?_
 cases e with
 | normal=>
  obtain ⟨w₂,h1,h2,h3⟩:=hq
  exact ⟨w₂,h1,iL.Te (ro:=some L) h3 h2⟩
 | _=>exact hq
end
def Rv (T:List (Nat × TI)) (H0:AH) (k0:Nat) (H':AH) (H:AH):List Prop:=
 match BY H0 k0 H [] [] H' 3 [] with
 | σ=>same (jZ H.length σ)++OQ T H H.length σ σ H'
section
variable {P:Program} {T:List (Nat × TI)} {G:Gl} {ρ ρ0:List RE} {H H0 H':AH} {w w0:World} {k0:Nat}
theorem Hb (hT:bO P G.shp T) (hR:Rep G ρ H w) (hE:Ext ρ0 w0 ρ w) (hb:∀ (i g:Nat),ρ0[i]? = some (.blk g)->ρ[i]? = some (.blk g)) (hn:∀ (i g:Nat),i<k0->ρ0[i]? = some (.blk g)->iP (getO H0 i)=false) (h:gM (Rv T H0 k0 H' H)) :
  ∃ ρ',Rep G ρ' H' w/\Ext ρ0 w0 ρ' w/\∀ (i g:Nat),i<k0->ρ0[i]? = some (.blk g)->ρ'[i]? = some (.blk g):=by
 replace h:=dO.1 h
 dsimp only [Rv] at h
 refine ⟨cP ρ (BY H0 k0 H [] [] H' 3 []),lr hT hR rfl (cD.1 fun p hp=>h p (List.mem_append_left _ hp)) fun p hp=>h p (List.mem_append_right _ hp),kO hE,fun i g hi hg=>?_⟩
 exact dz (kN hi (hn i g hi hg) _ _) (hb i g hg)
end
section
variable {P:Program} {n:Nat} {fr:Fr} {w:World} {x y:Operand} {t t' ty e:TypeId}
theorem R.Kx {a:Option Addr} {m c:Nat} (hx:ev fr x=some (.slice a m c)) (ht:P.underlying t=some (.slice e)):ba P n fr w (.call { callee:=.builtin .cap,args:=#[x],argTypes:=#[t] }) ty (.int .i64 (c:Int)) w:=fun _ _ _ _ _ ha=>by
 simp [execOp,resolve,invoke,builtin,ha.ev hx,Builtin.cap_,run_underlying ht,goInt]
theorem R.nw {g o dl dc sl sc z:Nat} {a:Addr} {cur:List Value} {cs:List Value} {tt:TypeId} (hx:ev fr x=some (.slice (some ⟨g,o,none⟩) dl dc)) (hy:ev fr y=some (.slice (some a) sl sc)) (hu:P.underlying t=some (.slice e)) (hs:(P.info? e).map (·.size)=some z)
  (hg:w.heap[g]? = some (.cells cur.toArray tt (0,0))) (hn:cs.length=Nat.min sl dl*z) (hsrc:CellsAt w a cs) (hfit:o+cs.length<=cur.length) (h1:∀ v ∈ cs,v.oneCell' = true) :
  ba P n fr w (.call { callee:=.builtin .copy,args:=#[x,y],argTypes:=#[t,t'] }) ty (goInt (Nat.min sl dl)) (w.setRow g (cur.take o++cs++cur.drop (o+cs.length)).toArray):=fun _ _ _ _ _ ha=>by
 have hl:=run_loadCells_list (P:=P) w a cs hsrc
 have hst:=run_storeCells_at (P:=P) g o tt cs 0 cur.toArray w hg (by simpa using hfit) h1
 simp only [Nat.add_zero] at hst
 cases hq:P.info? e with
 | none=>simp [hq] at hs
 | some i=>
  have hi:i.size=z:=by simpa [hq] using hs
  have hc:(Builtin.copy_ #[t,t'] ty #[.slice (some ⟨g,o,none⟩) dl dc,.slice (some a) sl sc]).run P w = .ok (goInt (Nat.min sl dl)) (w.setRow g (cur.take o++cs++cur.drop (o+cs.length)).toArray):=by
   simp [Builtin.copy_,run_underlying hu,Builtin.lenOf,Builtin.firstCells,sizeOf,typeInfo,hq,hi,<- hn,hl,hst]
  simp [execOp,resolve,invoke,builtin,ha.ev hx,ha.ev hy,hc]
theorem R.Ux {base:Option Addr} {sl sc k:Nat} {ti:TypeInfo} {zv:Value} {olds:List Value} (hx:ev fr x=some (.slice base sl sc)) (hy:ev fr y=some (.int .i64 (k:Int))) (hu:P.underlying t=some (.slice e)) (hu':P.underlying t' = some (.int .i64)) (hi:P.info? e=some ti) (hz:ti.zero=some zv)
  (hold:(Builtin.firstCells ti.size sl (.slice base sl sc)).run P w.drew = .ok olds.toArray w.drew) (h0:0<k) (hs:0<ti.size) (hg:sc<sl+k) (h63:((sl+k:Nat):Int)<=9223372036854775807) (h48:k*ti.bytes<=281474976710656) (hfit:Builtin.nextslicecap (sl+k) sc*ti.bytes<=281474976710656) :
  ba P n fr w (.call { callee:=.builtin .append,args:=#[x,y],argTypes:=#[t,t'] }) ty (.slice (some ⟨w.heap.size,0,none⟩) (sl+k) (grownCap w (sl+k) sc e))
   (w.drew.alloc (.cells (olds.toArray++Builtin.zeroCells zv.cells k++Builtin.zeroCells zv.cells (grownCap w (sl+k) sc e - (sl+k))) e)):=fun _ _ _ _ _ ha=>by
 have h:=Lib.run_append_grow_zeros w t t' ty e ti zv .i64 .i64 hu hu' hi hz base sl sc olds hold k h0 hs hg h63 h48 hfit
 simp [execOp,resolve,invoke,builtin,ha.ev hx,ha.ev hy,h]
theorem LC {tS tR:TypeId} (hu:P.underlying tS=some (.slice e)) {z:Nat} (hz:(P.info? e).map (·.size)=some z) {a b:Addr} {la ca lb cb:Nat} (hne:a.block≠b.block) {curA curB:Array Value} {tA tB:TypeId} {fA:Nat × Nat}
  (hA:w.heap[a.block]? = some (.cells curA tA fA)) (hA0:curA.size≠0) (hB:w.heap[b.block]? = some (.cells curB tB (0,0))) :
  (Extern.SlicesOverlaps.overlaps #[tS,tS] #[tR] #[.slice (some a) la ca,.slice (some b) lb cb]).run P w = .ok (.bool false) w:=by
 have hnb:(a.block != b.block)=true:=by simpa using hne
 have hnb':(a.block == b.block)=false:=by simpa using hne
 have hfb:w.frozen? b=false:=by
  simp [World.frozen?,hB]
 have hfe:w.frozen? { block:=b.block,off:=curB.size }=false:=by
  simp [World.frozen?,hB]
 have hsa:w.shape? a.block=some (tA,curA.size):=by simp [World.shape?,hA]
 have hsb:w.shape? b.block=some (tB,curB.size):=by simp [World.shape?,hB]
 have hsz:(sizeOf e).run P w = .ok z w:=by
  cases hq:P.info? e with
  | none=>simp [hq] at hz
  | some i=>
   have hi:i.size=z:=by simpa [hq] using hz
   simp [sizeOf,typeInfo,hq,hi]
 change Sem.run P (α:=Value) (do
  let some t:=(#[tS,tS]:Array TypeId)[0]? | stuck "slices.overlaps: no parameter types"
  let .slice elem <- underlying t | stuck "slices.overlaps: slice type expected"
  let size <- sizeOf elem
  match (some a:Option Addr),(some b:Option Addr) with
  | some a,some b=>
   if la=0\/lb=0\/size=0 then pure (Value.bool false)
   else if a.block != b.block && (<- frozen a) && (<- frozen b) then unsupported .addressObserved
   else do
    if a.block != b.block then do
     noView a; noView b
     if <- mayBeOne a b then return Value.bool ((<- choose (.extern "sameAddr.stringBytes" 2)) == 1)
    pure (Value.bool (a.block == b.block && a.off<b.off+lb*size && b.off<a.off+la*size))
  | _,_=>pure (Value.bool false)) w=_
 by_cases h0:la=0\/lb=0\/z=0
 ·simp [run_underlying hu,hsz,h0]
 ·cases hk:curA.size with
  | zero=>exact absurd hk hA0
  | succ k=>
   rw [hk] at hsa
   cases hfa:w.frozen? a <;> cases hfae:w.frozen? { block:=a.block,off:=k+1 } <;>
    simp [run_underlying hu,hsz,h0,hnb,hnb',frozen,noView,viewAt,mayBeOne,stringish,shape,Sem.run,hsa,hsb,hfa,hfb,hfe,hfae]
theorem R.ovl {f:FuncId} {fn:Func} {tS tR:TypeId} {ats:Array TypeId} (hf:P.funcs[f]? = some fn) (hname:(fn.name == "runtime.NumGoroutine")=false) (hb:fn.body.isNone=true) (hn:Extern.findNext fn=none) (he:Extern.find fn=some (Extern.SlicesOverlaps.overlaps #[tS,tS] #[tR]))
  (hu:P.underlying tS=some (.slice e)) {z:Nat} (hz:(P.info? e).map (·.size)=some z) {a b:Addr} {la ca lb cb:Nat} (hne:a.block≠b.block) {curA curB:Array Value} {tA tB:TypeId} {fA:Nat × Nat}
  (hA:w.heap[a.block]? = some (.cells curA tA fA)) (hA0:curA.size≠0) (hB:w.heap[b.block]? = some (.cells curB tB (0,0))) (hx:ev fr x=some (.slice (some a) la ca)) (hy:ev fr y=some (.slice (some b) lb cb)) :
  ba P n fr w (.call { callee:=.value (.func f),args:=#[x,y],argTypes:=ats }) ty (.bool false) w:=fun ac _ _ _ _ ha=>by
 have h1:=run_callFunc_extern hf hname hb hn he #[.slice (some a) la ca,.slice (some b) lb cb] w
 rw [LC hu hz hne hA hA0 hB] at h1
 have h0:ac.eval (.func f) = .func (.func f) #[] #[]:=rfl
 simp [execOp,resolve,h0,Deferred.ofValue,invoke,ha.ev hx,ha.ev hy,h1]
theorem WO.ve {Q:Exit->Act->World->Prop} {l rest:List Oper} {d:Nat} {op:Op} {pos:String} {af:Array Edge} {ψ:Value->World->Prop} (h:∃ v w',ba P n fr w op ty v w' /\ ψ v w') (hd:Nat.blt d n=true) (k:∀ v w',ψ v w' -> WO P Q n l rest ((d,v) :: fr) w'):WO P Q n l (⟨some d,op,ty,pos,af,none⟩ :: rest) fr w:=by
 obtain ⟨v,w',h1,h2⟩:=h
 exact WO.v h1 hd (k v w' h2)
theorem R.yC {u u' v:Value} {w':World} {ts:Array TypeId} (h:ba P n [] w (.call { callee:=.builtin .append,args:=#[.const u,.const u'],argTypes:=ts }) ty v w') (hx:ev fr x=some u) (hy:ev fr y=some u'):ba P n fr w (.call { callee:=.builtin .append,args:=#[x,y],argTypes:=ts }) ty v w':=fun a d pos af g ha=>by
 have h1:=h a d pos af g (ha.sub fun i v hv=>by cases hv)
 have e1:a.eval (.const u)=u:=rfl
 have e2:a.eval (.const u')=u':=rfl
 simp only [execOp,resolve,invoke,builtin,ha.ev hx,ha.ev hy,e1,e2,List.map_toArray,List.map_cons,List.map_nil,Sem.run_bind,Sem.run_pure,Result.andThen_ok] at h1 ⊢
 exact h1
theorem R.slice3 {a:Option Addr} {m c i j k s:Nat} {kl kh km:IntKind} {z z' z'':Operand} (hx:ev fr x=some (.slice a m c)) (hz:ev fr z=some (.int kl (i:Int))) (hz':ev fr z' = some (.int kh (j:Int))) (hz'':ev fr z'' = some (.int km (k:Int))) (ht:P.underlying t=some (.slice e)) (hs:(P.info? e).map (·.size)=some s)
  (hij:i<=j) (hjk:j<=k) (hk:k<=c):ba P n fr w (.slice t x (some z) (some z') (some z'')) ty (.slice (if k=i then a else a.map (·.add (i*s))) (j - i) (k - i)) w:=fun _ _ _ _ _ hfr=>by
 cases hq:P.info? e with
 | none=>simp [hq] at hs
 | some q=>
  have hs':q.size=s:=by simpa [hq] using hs
  have he:P.elem t=e:=by simp [Program.elem,ht]
  have e0:=run_sliceAt_slice (P:=P) w t (.slice a m c) (some (.int kl (i:Int))) (some (.int kh (j:Int))) (some (.int km (k:Int))) (by rw [he]; exact ht)
  have:=run_slice_lhm (P:=P) w t a m c (by rw [he]; exact ht) kl kh km (i:Int) (j:Int) (k:Int) (by omega) (by omega) (by omega) (by omega)
  simp [execOp,hfr.ev hx,hfr.ev hz,hfr.ev hz',hfr.ev hz'',e0,this,he,sizeOf,typeInfo,hq,hs',sliced,Result.andThen]
theorem R.Lh {g sl sc m c:Nat} {ti:TypeInfo} {ad:Addr} {cur news:List Value} (hx:ev fr x=some (.slice (some ⟨g,0,none⟩) sl sc)) (hy:ev fr y=some (.slice (some ad) m c)) (hu:P.underlying t=some (.slice e)) (hi:P.info? e=some ti) (hg:w.heap[g]? = some (.cells cur.toArray e (0,0)))
  (hl:news.length=m*ti.size) (hsrc:CellsAt w ad news) (h1:∀ u ∈ news,u.oneCell' = true) (hroom:sl+m<=sc) (hfit:sl*ti.size+news.length<=cur.length) :
  ba P n fr w (.call { callee:=.builtin .append,args:=#[x,y],argTypes:=#[t,t] }) ty (.slice (some ⟨g,0,none⟩) (sl+m) sc) (w.setRow g (cur.take (sl*ti.size)++news++cur.drop (sl*ti.size+news.length)).toArray):=fun _ _ _ _ _ ha=>by
 have h:=run_append_room (P:=P) w t ty e ti hu hi g sl sc cur.toArray hg ad m c news hl hsrc h1 hroom (by simpa using hfit)
 simp [execOp,resolve,invoke,builtin,ha.ev hx,ha.ev hy,h]
theorem R.clr {g o m c:Nat} {ti:TypeInfo} {zv:Value} {cur:List Value} {tt:TypeId} (hx:ev fr x=some (.slice (some ⟨g,o,none⟩) m c)) (hm:m=1) (hu:P.underlying t=some (.slice e)) (hi:P.info? e=some ti) (hz:ti.zero=some zv) (h1:∀ u ∈ (Builtin.zeroCells zv.cells 1).toList,u.oneCell' = true) (hg:w.heap[g]? = some (.cells cur.toArray tt (0,0))) (hfit:o+(Builtin.zeroCells zv.cells 1).toList.length<=cur.length) :
  ba P n fr w (.call { callee:=.builtin .clear,args:=#[x],argTypes:=#[t] }) ty (.tuple #[]) (w.setRow g (cur.take o++(Builtin.zeroCells zv.cells 1).toList++cur.drop (o+(Builtin.zeroCells zv.cells 1).toList.length)).toArray):=fun _ _ _ _ _ ha=>by
 subst hm
 have hst:=run_storeCells_at P g o tt (Builtin.zeroCells zv.cells 1).toList 0 cur.toArray w hg (by simpa using hfit) h1
 simp only [Nat.add_zero] at hst
 have hc:(Builtin.clear_ #[t] ty #[.slice (some ⟨g,o,none⟩) 1 c]).run P w = .ok (.tuple #[]) (w.setRow g (cur.take o++(Builtin.zeroCells zv.cells 1).toList++cur.drop (o+(Builtin.zeroCells zv.cells 1).toList.length)).toArray):=by
  simp [Builtin.clear_,run_underlying hu,zeroValue,typeInfo,hi,hz,hst]
 simp [execOp,resolve,invoke,builtin,ha.ev hx,hc]
theorem PV {A:Addr} {c i z:Nat}:(if c=i then (some A:Option Addr) else (some A:Option Addr).map (·.add (i*z)))=some (if c=i then A else A.add (i*z)):=by
 split <;> rfl
theorem ry {a:Addr} {v:Value} (h:w.cell? a=some v):∃ cur t f,w.heap[a.block]? = some (.cells cur t f)/\cur.size≠0:=by
 unfold World.cell? at h
 split at h
 ·rename_i c t f hc
  refine ⟨c,t,f,hc,fun h0=>?_⟩
  split at h
  ·cases h
  ·have:=(Array.getElem?_eq_some_iff.1 h).1
   omega
 ·cases h
theorem QW {c:Cx} {s:Sh} {xs:List (den s)} {ad:Addr} {m k:Nat} (h:Pd c (.fz s xs) (.slice (some ad) m k)) (h0:xs.length≠0):c.at s ad.block:=by
 generalize hv:Value.slice (some ad) m k=v at h
 cases h with
 | fz h1 h2 h3 h4 h5=>
  rcases h5 with h5 | ⟨A,hA,h6,_⟩
  ·subst h5; exact absurd rfl h0
  ·cases hv; cases hA; exact h6
theorem Nm {α:Type} {cells sp cys:List α} {o z:Nat} (ho:o+z<=cells.length) (hc:cys.length=z):((cells++sp).take (o+z)++cells.drop o++(cells++sp).drop (o+z+(cells.drop o).length)).take o++cys++((cells++sp).take (o+z)++cells.drop o++(cells++sp).drop (o+z+(cells.drop o).length)).drop (o+cys.length)=cells.take o++cys++cells.drop o++sp.drop z:=by
 have e1:(cells++sp).take (o+z)=cells.take (o+z):=List.take_append_of_le_length ho
 have e2:(cells++sp).drop (o+z+(cells.drop o).length)=sp.drop z:=by
  rw [List.length_drop,show o+z+(cells.length - o)=cells.length+z by omega,List.drop_append]
  simp
 have hl:(cells.take (o+z)).length=o+z:=by rw [List.length_take]; omega
 rw [e1,e2,hc]
 generalize hA:cells.take (o+z)=A at *
 have hA2:A.take o=cells.take o:=by rw [<- hA,List.take_take,Nat.min_eq_left (by omega)]
 rw [List.append_assoc A,List.take_append_of_le_length (by omega),hA2,List.drop_left' hl]
 simp
theorem NG {α:Type} {cur cells ds cys:List α} {o z:Nat} (ho:o+z<=cur.length) (hc:cys.length=z) (he:cur.take o=cells.take o):(cur.take o++cys++cur.drop (o+cys.length)).take (o+z)++ds++(cur.take o++cys++cur.drop (o+cys.length)).drop (o+z+ds.length)=cells.take o++cys++ds++cur.drop (o+z+ds.length):=by
 have hl:(cur.take o++cys).length=o+z:=by rw [List.length_append,List.length_take,hc]; omega
 have e1:(cur.take o++cys++cur.drop (o+z)).drop (o+z+ds.length)=cur.drop (o+z+ds.length):=by
  rw [<- List.drop_drop,List.drop_left' hl,List.drop_drop]
 rw [hc,List.take_left' hl,e1,he]
theorem eC {g c i z:Nat} (h:¬ c=i):(if c=i then (some ⟨g,0,none⟩:Option Addr) else (some ⟨g,0,none⟩:Option Addr).map (·.add (i*z)))=some ⟨g,i*z,none⟩:=by
 rw [if_neg h,Option.map_some,add_lit,Nat.zero_add]
end
end Go.Proofs.YtladifkbefehdaaGreat
