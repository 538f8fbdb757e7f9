/- What leads to the law, part 4. Conditions: each lemma's own. -/
import Derived.Laws.CopyRow
import Derived.Lib.AppendZerosOnto
import Derived.Lib.Overlaps
import Derived.RangeFuncLeaves
import Derived.RangeFuncRecord
import Derived.Test.YticbaadnibdbkaaGreatProg
import Derived.Test.YticbaadnibdbkaaGreatNLM3
set_option linter.unusedVariables false
set_option linter.unusedSimpArgs false
set_option maxHeartbeats 2000000
set_option linter.defProp false
namespace Go.Proofs.YticbaadnibdbkaaGreat
open Go.RowKit
def aet:=@Go.World.putObj_heap_other
def agy:=@List.all_cons
def ahg:=@of_decide_eq_false
def ahu:=@List.mem_of_mem_drop
def agr:=@List.all_append
def aeN:=@List.findIdx?_eq_some_iff_getElem
def ahr:=@List.contains_iff_mem
def aee:=@Int.le_refl
variable {ρ:List RE}
theorem Rd.qd {c:Cx} {a:AV} {v:Value} (h:Rd c ρ a v):Qd c a v:=fun hp=>(gS hp).1 h
theorem gV {fr:AFr} {t:Nat}:∀ {U:List Nat},t ∈ U->lookA (cY fr U) t=lookA fr t
 | u :: r,h=>by
  simp only [cY];split
  ·rename_i v hv;rw [cZ];by_cases hu:u=t
   ·grind
   rw [if_neg hu];refine gV ?_;grind
  rename_i hv;by_cases hu:u=t
  ·subst hu;by_cases hr:u ∈ r
   ·exact gV hr
   rw [hv];cases h2:lookA (cY fr r) u with
   | none=>rfl
   | some x=>exact absurd (jA h2).1 hr
  refine gV ?_;grind
theorem gE {fr:AFr} {U:List Nat} {x:Operand} (h:∀ t ∈ Operand.sl x,t ∈ U):cP (cY fr U) x=cP fr x:=by
 cases x with
 | tmp i=>exact gV (h i (by simp [Operand.sl]))
 | _=>rfl
theorem uN {fr:AFr}:∀ {A B:List Nat},cY fr (A++B)=cY fr A++cY fr B
 | [],_=>rfl
 | a :: r,B=>by
  simp only [List.cons_append,cY,uN (A:=r)];split <;> rfl
theorem qP {α β:Type} {R:α->β->Prop}:∀ {a b:List α} {F:List β},All2 R (a++b) F->∃ x y,F=x++y/\All2 R a x/\All2 R b y
 | [],b,F,h=>⟨[],F,rfl,.nil,h⟩
 | p :: a,b,_,h=>by
  cases h with
  | cons h1 h2=>
   obtain ⟨x,y,e,h3,h4⟩:=qP h2;exact ⟨_ :: x,y,by rw [e]; rfl,.cons h1 h3,h4⟩
theorem Ol {A B:Fr} {i:Nat} {v:Value}:look A i=some v->look (A++B) i=some v:=by
 intro h;induction A with
 | nil=>cases h
 | cons q r ih=>
  rw [List.cons_append,aM];rw [aM] at h;grind
theorem rO {g:Bool} {v:TV} {K:TV->Prop} (h:split g v K):∃ v',K v' /\ ∀ c ρ u,Rt c ρ v u->Rt c ρ v' u:=by
 unfold split at h;split at h
 ·rename_i b hb;have:=adb (dy hb);grind
 ·rename_i e _ he;have:=adb (dy he);subst this;cases hv:e.val with
  | true=>
   refine ⟨_,h.1 ((BE.fh e true).2 hv),fun c ρ u hu=>?_⟩;cases hu;rw [hv]; exact Pd.bool (e:=.lit true)
  | false=>
   refine ⟨_,h.2 ((BE.fh e false).2 hv),fun c ρ u hu=>?_⟩;cases hu;rw [hv]; exact Pd.bool (e:=.lit false)
 grind
section
variable {P:Program} {T:List (Nat × TI)} {shp:TypeId->Option Sh} {O:bD} {n:Nat} {ro:Lv} {l:List Oper}
variable {w:World} {G:Gl} {F:Fr} {B A:List Nat} {o:Oper}
theorem yu {fr:AFr} (hf:FrR (cx G ρ w) ρ (cY fr (A++B)) F) {φ:Value->World->Prop} (h:∀ FA,FrR (cx G ρ w) ρ (cY fr A) FA->ez P n FA w o.op o.type φ):ez P n F w o.op o.type φ:=by
 rw [uN] at hf;obtain ⟨FA,FB,rfl,h1,_⟩:=qP hf;exact ez.sub (fun a ha=>⟨ha.1,ha.2.1,fun i v hv=>ha.2.2 i v (Ol hv)⟩) (h FA h1)
variable {H:AH}
theorem pure_run {fr:AFr} {σ:List Nat} {v v':TV} {ob fc:List Prop} (hv:∀ c ρ u,Rt c ρ v u->Rt c ρ v' u)
  (h:∀ (G:Gl) (ρ:List RE) (w:World) (F:Fr),G.shp=shp->Rep G ρ (maskH σ 0 H) w->FrR (cx G ρ w) ρ (cY fr A) F->(∀ p ∈ ob,p)->Yields P n F w o.op o.type fun u w'=>Kp [] w w' /\ Rt (cx G ρ w') ρ v u/\∀ p ∈ fc,p) (b:Nat) :
  RunOK P shp n ro o ⟨true,o.dst,v',A++B,σ,[],[],b,maskH σ 0 H,none,ob,fc,fr,H⟩:=by
 intro G ρ w F hG hR hf hob;refine yu hf fun FA hfA=>.inl ((h G ρ w FA hG hR hfA hob).mono fun u w' ⟨h1,h2,h3⟩=>⟨ρ,Stp.kp hR h1,hR.kp h1,hv _ _ _ h2,h3⟩)
theorem Ma {c:Cx} {ρ:List RE} {H:AH}:∀ {asx:List AV} {us:List Value},(∀ i,i ∉ eC asx)->All2 (Rd c ρ) asx us->All2 (Qd c) (ER H asx) us
 | [],_,_,h=>by cases h; exact .nil
 | a :: r,_,hn,h=>by
  cases h with
  | cons h1 h2=>
   have hr:∀ i,i ∉ eC r:=fun i hi=>hn i (by cases a <;> simp [eC,hi]);refine .cons ?_ (Ma hr h2);have e:a.vw H=a:=by
    cases a with
    | own i=>exact absurd (by simp [eC]) (hn i)
    | sub i _ _=>exact absurd (by simp [eC]) (hn i)
    | _=>rfl
   rw [e]; exact Rd.qd h1
variable {r:PR} {op:Op}
theorem Lb (hT:aY P shp T) {fm:AFr} {Hm:AH} {ty:TypeId} (hG:G.shp=shp) (hR:Rep G ρ Hm w) (hf:FrR (cx G ρ w) ρ fm F) (h:NL T fm Hm op=some r):Yields P n F w op ty fun u w'=>Kp [] w w' /\ Rt (cx G ρ w') ρ r.v u/\∀ p ∈ r.fc,p:=by
 subst hG;unfold NL at h;split at h
 ·rename_i t m parts;split at h
  ·rename_i e s sz z l hft hl;split at h
   ·rename_i xs hown hel;split at h
    ·rename_i hck;cases h;simp only [Bool.and_eq_true] at hck;have hck:=hck.1;have hm:=abk hck.1.1;have hsm:=adl hck.1.2;have hbm:=adl hck.2;obtain ⟨hu,hs⟩:=(hT _ _ hft).2;obtain ⟨hshp,⟨zz,hz,hzb⟩,_⟩:=hs s rfl;have hsize:(P.info? e).map (·.size)=some s.size:=by
      cases hq:P.info? e with
      | none=>simp [hq] at hz
      | some i=>simp only [hq,Option.map_some,Option.some.injEq,ahy] at hz ⊢; exact hz.2.1
     obtain ⟨pv,h1,h2⟩:=jB hf hl;obtain ⟨vss,h3,h4,h5,h6⟩:=oi hel h2 fun p hp us hus=>Ma (fun i hi=>by
      have:=rC hp hi;rw [hown] at this; simp at this) hus
     have hrun:=R.buildSlice (P:=P) (n:=n) (F:=F) (w:=w) (ty:=ty) (m:=m) hu hsize (Du hz) h1 h3 h4 (by omega) hsm;have e0:parts.toList.toArray=parts:=by simp
     rw [e0] at hrun;have hk:=Kp.alloc w (.cells vss.flatten.toArray e);have hml:m<=maxLen:=by
      have:=ahd m (gC s);simp only [maxLen]; omega
     have hpd:Pds (cx G ρ (w.alloc (.cells vss.flatten.toArray e))) (xs.flatMap (cellsOf s)) vss.flatten:=h6.carry (Kp.le hk);refine .inl ⟨_,_,hrun,hk,?_,by simp⟩;show Pd _ _ _;rw [<- hm];refine .fz (ac5 _) (by omega) (by rw [hm]; exact hbm) hpd (.inr ⟨_,rfl,⟨⟨by simp,fun ⟨i,r,q1,q2⟩=>by have:=(hR.bnd i r _ q1 q2).2.1; simp at this,fun hz=>by have:=hR.z _ hz; simp at this⟩,.inr ⟨_,e,(0,0),agi w _,hshp,fun _=>rfl⟩⟩,?_⟩);exact cc (sp:=[]) (by rw [ade]; exact agi w _)
    cases h
   cases h
  cases h
 cases h
theorem Ou (hT:aY P shp T) {fr:AFr} {id:Nat} {e:Ent} (h:Xk T ro fr H o.op=some (id,e)) (b:Nat) (res:AH) :
  EntOK P shp n ro o ⟨true,none,.un,ja o.op++B,[],[id],[],b,res,some e,[],[],fr,H⟩ e id/\isSt o.op=true:=by
 unfold Xk at h;split at h
 ·rename_i t x y z hop;have hsl:ja o.op=Operand.sl x++Operand.sl y++Operand.sl z:=by rw [hop]; rfl
  have hmx:∀ t' ∈ Operand.sl x,t' ∈ ja o.op++B:=fun t' h=>by rw [hsl]; simp [h]
  have hmy:∀ t' ∈ Operand.sl y,t' ∈ ja o.op++B:=fun t' h=>by rw [hsl]; simp [h]
  have hmz:∀ t' ∈ Operand.sl z,t' ∈ ja o.op++B:=fun t' h=>by rw [hsl]; simp [h]
  refine ⟨?_,by rw [hop]; rfl⟩;intro G ρ w F S hG hR hf hkd;subst hG;have hf:FrR (cx G ρ w) ρ (cY fr (ja o.op++B)) F:=hf;have hkd:(S[id]?).map kd=(H[id]?).map kd:=hkd;rw [hop]
  -- what a step on the map's block leaves
  have fin:∀ (g:Nat) (o':AO) (w':World),ρ[id]? = some (.blk g)->(∃ o0,S[id]? = some o0)->Kp [g] w w' -> ro.wr id=true->OR (cx G ρ w') ρ o' (.blk g)->Rep G ρ (S.set id o') w' /\ Stp ro ρ w ρ w':=fun g o' w' hg ⟨o0,ho0⟩ hkp hw ho'=>by
   have hput:=hR.put ho0 hg rfl hkp ho';refine ⟨hput.1,hput.2,fun _ _ _ h=>h,fun j r' hj hr'=>⟨hr',fun gx hgx=>hkp.block gx (hR.bnd j r' gx hr' hgx).2.1 ?_⟩,fun _ _ h=>h⟩;simp only [ac2];rintro rfl;have:=hR.inj j id _ _ _ hr' hg hgx rfl;subst this; rw [hw] at hj; cases hj
  have hext:∀ (g:Nat) (w':World),ρ[id]? = some (.blk g)->Kp [g] w w' -> (cx G ρ w).le (cx G ρ w'):=fun g w' hg hkp=>(show Ext ρ w ρ w' from ⟨hkp.os,hkp.tape,hkp.output,hkp.size,fun b hb hl=>⟨hl,hkp.block b hb (by
   simp only [ac2];rintro rfl;exact hl ⟨id,_,hg,rfl⟩)⟩⟩).le hR.lo
  split at h
  ·rename_i s id' k v hft hx hy hz;split at h
   ·rename_i s' f x' hgo hown hof;split at h
    ·rename_i hck;cases h;simp only [Bool.and_eq_true,decide_eq_true_eq] at hck;obtain ⟨⟨rfl,hform⟩,hw⟩:=hck;obtain ⟨hm,hk,_⟩:=(hT _ _ hft).2;rw [<- gE hmx] at hx; rw [<- gE hmy] at hy; rw [<- gE hmz] at hz;obtain ⟨va,h1,g,hg,rfl⟩:=aq hf hx;obtain ⟨vb,h3,h4⟩:=aq hf hy;cases h4 with | int=>
     obtain ⟨vz,h5,h6⟩:=aq hf hz;have hHs:=bB hgo (by simp);rw [hHs] at hkd;obtain ⟨o0,ho0,hk0⟩:=adg.1 hkd;have hgo0:=gw ho0;obtain ⟨r',hr',hor⟩:=hR.at_ ho0;rw [hg] at hr'; cases hr';cases o0 with
     | mapo s2 f2=>
      have hk0:(some (some s2):Option (Option Sh))=some (some s'):=hk0;have e3:s2=s':=adb (adb hk0);subst e3;obtain ⟨g',e,a,c,k1,k2,k3⟩:=hor;cases e;obtain ⟨w',a'',c',hsk,hkp,hg',hl',hget⟩:=PD (P:=P) (n:=n) (ty:=o.type) h1 h3 h5 hm hk k1 k2;have hle:=hext g w' hg hkp;have hV:V1 (cx G ρ w') s2 x' vz:=by
       cases v with
       | c a=>
        have h6:Rd (cx G ρ w) ρ a vz:=h6;have hp:=aG (vs:=[vz]) hof (.cons (Rd.qd h6) .nil);exact ⟨[vz],hp.carry hle,.inr ⟨by simpa [nt] using hform,rfl⟩⟩
       | agg l=>
        obtain ⟨us,e,h6⟩:=h6;have hp:=aG hof (h6.imp fun _ _ h=>Rd.qd h);exact ⟨us,hp.carry hle,.inl ⟨hform,e⟩⟩
      obtain ⟨j1,j2⟩:=fin g (.mapo s2 fun j=>if j=k then some x' else f2 j) w' hg ⟨_,ho0⟩ hkp hw ⟨g,rfl,a'',c',hg',hl',fun q=>by
       rw [hget q];show VO _ _ _ (if q=k then some x' else f2 q);by_cases hq:q=k
       ·rw [if_pos hq,if_pos hq]; exact hV
       rw [if_neg hq,if_neg hq];have k4:=k3 q;cases hgm:getM q a.toList <;> cases hfk:f2 q <;> rw [hgm,hfk] at k4
       ·trivial
       ·exact k4
       ·exact k4
       exact V1.carry k4 hle⟩
      refine ⟨w',hsk.1,?_,j2⟩;rw [hgo0];simpa only [Ent.put,ahA] using j1
     | mapf l=>cases hk0
     | _=>cases hk0
    cases h
   cases h
  ·rename_i id' k a hft hx hy hz;split at h
   ·rename_i l hgo hw;cases h;obtain ⟨hm,hk,_⟩:=(hT _ _ hft).2;rw [<- gE hmx] at hx; rw [<- gE hmy] at hy; rw [<- gE hmz] at hz;obtain ⟨va,h1,g,hg,rfl⟩:=aq hf hx;obtain ⟨vb,h3,h4⟩:=aq hf hy;cases h4 with | int=>
    obtain ⟨vz,h5,h6⟩:=aq hf hz;have hHs:=bB hgo (by simp);rw [hHs] at hkd;obtain ⟨o0,ho0,hk0⟩:=adg.1 hkd;have hgo0:=gw ho0;obtain ⟨r',hr',hor⟩:=hR.at_ ho0;rw [hg] at hr'; cases hr';cases o0 with
    | mapf l2=>
     obtain ⟨g',e,a',c,k1,k2,k3⟩:=hor;cases e;obtain ⟨w',a'',c',hsk,hkp,hg',hl',hget⟩:=PD (P:=P) (n:=n) (ty:=o.type) h1 h3 h5 hm hk k1 k2;have hle:=hext g w' hg hkp;obtain ⟨j1,j2⟩:=fin g (.mapf ((k,a) :: l2)) w' hg ⟨_,ho0⟩ hkp hw ⟨g,rfl,a'',c',hg',hl',fun q=>by
      rw [hget q];simp only [lookF];by_cases hq:q=k
      ·rw [if_pos hq,if_pos hq]; exact Rd.carry h6 hle (jP.refl _)
      rw [if_neg hq,if_neg hq];have k4:=k3 q;cases hgm:getM q a'.toList <;> cases hfk:lookF q l2 <;> rw [hgm,hfk] at k4
      ·trivial
      ·exact k4
      ·exact k4
      exact Rd.carry k4 hle (jP.refl _)⟩
     refine ⟨w',hsk.1,?_,j2⟩;rw [hgo0];exact j1
    | mapo s f=>cases hk0
    | _=>cases hk0
   cases h
  cases h
 cases h
theorem yB (hT:aY P shp T) (hO:ay P shp O) {fm:AFr} {Hm:AH} {op:Op} {x:XR}:∀ {l:List (List Nat × List Nat)},OG T O ro fm Hm op l=some x->∀ (G:Gl) (ρ:List RE) (w:World) (F:Fr) (ty:TypeId),G.shp=shp->Rep G ρ Hm w->FrR (cx G ρ w) ρ fm F->(∀ p ∈ x.ob,p) ->
  ez P n F w op ty fun u w'=>∃ ρ',Stp ⟨fun i=>bQ i x.ch && ro.wr i,fun i=>bQ i x.mv && ro.mv i⟩ ρ w ρ' w' /\ Rep G ρ' x.res w' /\ Rt (cx G ρ' w') ρ' x.v u/\∀ p ∈ x.fc,p
 | (ch,mv) :: r,h,G,ρ,w,F,ty,hG,hR,hf,hob=>by
  simp only [OG] at h;split at h
  ·rename_i q hq;cases h;subst hG;have:=N_ (n:=n) (ty:=ty) hT hO hR hf hq hob;have key:∀ u w',eB G ⟨fun i=>bQ i ch && ro.wr i,fun i=>bQ i mv && ro.mv i⟩ ρ w q F u w' -> ∃ ρ',Stp ⟨fun i=>bQ i ch && ro.wr i,fun i=>bQ i mv && ro.mv i⟩ ρ w ρ' w' /\ Rep G ρ' q.H w' /\ Rt (cx G ρ' w') ρ' q.v u/\∀ p ∈ q.fc,p:=fun u w' ⟨ρ',h1,h2,_,h3,h4⟩=>⟨ρ',h1,h2,h3,h4⟩;rcases this with h | ⟨h0,w',h1,h2⟩
   ·exact .inl (h.mono key)
   exact .inr ⟨h0,w',h1,key _ _ h2⟩
  exact yB hT hO h G ρ w F ty hG hR hf hob
variable {i:Nat}
theorem RcOK.ext {rs rs':List RC} {r:RC} (h:RcOK P shp n ro l rs o i r) (hi:∀ j,j<i->rs'[j]? = rs[j]?):RcOK P shp n ro l rs' o i r:=
 ⟨h.dst,h.dn,h.st,h.run,h.off,h.gd.imp id fun ⟨j,wt,t,h1,h2,h3,h4⟩=>⟨j,wt,t,h1,h2,h3,h4.imp (fun ⟨rj,k1,k2,k3,k4⟩=>⟨rj,by rw [hi j k2]; exact k1,k2,k3,k4⟩) id⟩⟩
theorem sg:∀ {rs:List RC} {j:Nat},Yw rs j=false->∃ r,rs[j]? = some r/\r.on=false/\j<rs.length
 | r :: _,0,h=>⟨r,rfl,h,by simp⟩
 | r :: rs,j+1,h=>by
  obtain ⟨r',h1,h2,h3⟩:=sg (rs:=rs) h;grind
def Chain0:AFr × AH->List RC->Prop
 | _,[]=>True
 | q,r :: rs=>r.fr0=q.1/\r.H0=q.2/\Chain0 (r.app q) rs
theorem Chain0.Nj:∀ {a b:List RC} {p:AFr × AH},Chain0 p (a++b)↔Chain0 p a/\Chain0 (prg a p) b
 | [],b,p=>by simp [Chain0,prg]
 | r :: a,b,p=>by simp only [List.cons_append,Chain0,prg,Chain0.Nj (a:=a),and_assoc]
theorem Chain0.fit:∀ {rs:List RC} {p:AFr × AH},Chain0 p rs->(∀ r ∈ rs,r.Fit)->fD p rs
 | [],_,_,_=>trivial
 | r :: rs,_,h,hf=>⟨h.1,h.2.1,hf r (by simp),h.2.2.fit fun x hx=>hf x (by simp [hx])⟩
structure Walk (P:Program) (shp:TypeId->Option Sh) (n:Nat) (ro:Lv) (l:List Oper) (q0:AFr × AH) (i:Nat) (done:List RC) (q:AFr × AH):Prop where
 len:done.length=i
 ch:Chain0 q0 done
 st:prg done q0=q
 ok:∀ j o r,l[j]? = some o->done[j]? = some r->RcOK P shp n ro l done o j r
variable {done:List RC}
theorem Walk.next {q0 q:AFr × AH} (h:Walk P shp n ro l q0 i done q) (ho:l[i]? = some o) {r:RC} (h1:r.fr0=q.1) (h2:r.H0=q.2) (hr:RcOK P shp n ro l done o i r):Walk P shp n ro l q0 (i+1) (done++[r]) (r.app q):=by
 have hpre:∀ j,j<i->(done++[r])[j]? = done[j]?:=fun j hj=>List.getElem?_append_left (by rw [h.len]; exact hj);refine ⟨by simp [h.len],Chain0.Nj.2 ⟨h.ch,by rw [h.st]; exact ⟨h1,h2,trivial⟩⟩,by rw [wm,h.st]; rfl,fun j o' r' hj hr'=>?_⟩;by_cases hji:j<i
 ·rw [hpre j hji] at hr';exact (h.ok j o' r' hj hr').ext fun k hk=>hpre k aK
 have hjl:=(aam.1 hr').1;simp [h.len] at hjl;have e:j=i:=by omega
 subst e;rw [age (by rw [h.len]; exact ac5 _),h.len,Nat.sub_self] at hr';simp at hr'; subst hr';rw [ho] at hj; cases hj;exact hr.ext hpre
theorem yq {bef:List Nat}:∀ {rest done:List RC} {j:Nat},Cu bef j done rest=true->∀ r ∈ rest,r.Fit
 | [],_,_,_,r,h=>by simp at h
 | x :: rest,done,j,h,r,hr=>by
  simp only [Cu,Bool.and_eq_true] at h;obtain ⟨⟨⟨⟨⟨⟨⟨⟨⟨h1,h2⟩,_⟩,_⟩,_⟩,_⟩,_⟩,_⟩,_⟩,h9⟩:=h;rcases ac4.1 hr with rfl | hr
  ·exact ⟨abk h1,adl h2⟩
  exact yq h9 r hr
theorem aaY {fr:AFr} (h:pv T O H fr op=some r):isSt op=false:=by cases op <;> first | rfl | simp [pv,pvB,pvX] at h
theorem Ro {fr:AFr} (h:NL T fr H op=some r):isSt op=false:=by cases op <;> first | rfl | simp [NL] at h
theorem QI {fr:AFr} {r:MpR} (h:mapA T H fr op=some r):isSt op=false:=by cases op <;> first | rfl | simp [mapA] at h
theorem lS {j:Nat} {wt:Bool} {t:Nat} (h:idst l j=some t):t ∈ gM l (some (j,wt)):=by simp [gM,h]
theorem Km {fr:AFr} {g:Option (Nat × Bool)} (h:rB l fr done g=some true):g=none\/∃ j wt t,g=some (j,wt)/\idst l j=some t/\t ∈ gM l g/\∃ b,lookA fr t=some (one (.bool (.lit b)))/\true=(b == wt):=by
 cases g with
 | none=>exact .inl rfl
 | some g=>
  obtain ⟨j,wt⟩:=g;right;simp only [rB] at h;split at h
  ·rename_i t ht;split at h
   ·cases h
   ·rename_i b _ hb;exact ⟨j,wt,t,rfl,ht,lS ht,b,hb,(adb h).symm⟩
   cases h
  cases h
theorem Fj {fr:AFr} (hi:done.length=i) {g:Option (Nat × Bool)} (h:rB l fr done g=some false):∃ j wt t,g=some (j,wt)/\idst l j=some t/\t ∈ gM l g/\((∃ rj,done[j]? = some rj/\j<i/\rj.on=false/\false=false)\/∃ b,lookA fr t=some (one (.bool (.lit b)))/\false=(b == wt)):=by
 cases g with
 | none=>cases h
 | some g=>
  obtain ⟨j,wt⟩:=g;simp only [rB] at h;split at h
  ·rename_i t ht;split at h
   ·rename_i ho;obtain ⟨r,h1,h2,h3⟩:=sg ho;exact ⟨j,wt,t,rfl,ht,lS ht,.inl ⟨r,h1,by omega,h2,rfl⟩⟩
   ·rename_i b _ hb;exact ⟨j,wt,t,rfl,ht,lS ht,.inr ⟨b,hb,(adb h).symm⟩⟩
   cases h
  cases h
theorem drop_cons {rest:List Oper} (h:l.drop i=o :: rest):l[i]? = some o/\l.drop (i+1)=rest:=by
 constructor
 ·have:=congrArg (·[0]?) h;grind
 have:=congrArg (List.drop 1) h;simpa [agl,Nat.add_comm] using this
theorem Dz (hT:aY P shp T) (hO:ay P shp O) {K:AFr->AH->Prop} {q0:AFr × AH}:∀ (m i:Nat) (rest:List Oper) (fr:AFr) (H:AH) (done:List RC),l.drop i=rest->i<=l.length->jR n rest=true->Walk P shp n ro l q0 i done (fr,H)->OC T O ro l K m i rest fr H done ->
  ∃ rs,Walk P shp n ro l q0 l.length rs (prg rs q0)/\okR l rs=true/\tq (obR rs (iD [] l) rs) (ku (fcR rs) (K (tK (prg rs q0).1 []) (prg rs q0).2))
 | 0,_,_,_,_,_,_,_,_,_,h=>h.elim
 | m+1,i,[],fr,H,done,hd,hil,_,hw,h=>by
  simp only [OC] at h;have hi:i=l.length:=by
   have:=congrArg List.length hd;simp at this; omega
  subst hi;split at h
  ·rename_i hok;refine ⟨done,by rw [hw.st]; exact hw,hok,?_⟩;rw [hw.st]; exact h
  exact h.elim
 | m+1,i,o :: rest,fr,H,done,hd,hil,hdo,hw,h=>by
  obtain ⟨ho,hd2⟩:=drop_cons hd;have hil2:i+1<=l.length:=(aam.1 ho).1;have hdn:∀ d,o.dst=some d->Nat.blt d n=true:=fun d hdd=>kL hdo o (by simp) d hdd;have hdr:jR n rest=true:=by simp only [jR,Bool.and_eq_true] at hdo; exact hdo.2
  have ih:=fun rc (hrc:RcOK P shp n ro l done o i rc) (h1:rc.fr0=fr) (h2:rc.H0=H) (h:OC T O ro l K m (i+1) rest (rc.app (fr,H)).1 (rc.app (fr,H)).2 (done++[rc]))=>Dz hT hO m (i+1) rest _ _ _ hd2 hil2 hdr (hw.next ho h1 h2 hrc) h;simp only [OC] at h;split at h
  ·-- it is not run
   rename_i hg;obtain ⟨j,wt,t,h1,h2,h3,h4⟩:=Fj hw.len hg;exact ih _ ⟨rfl,hdn,(fun h=>by cases h),(fun h=>by cases h),fun _=>⟨rfl,rfl,rfl,rfl,rfl,rfl,rfl⟩,.inr ⟨j,wt,t,h1,h2,h3,h4⟩⟩ rfl rfl h
  ·-- it is run
   rename_i hg;have hgd:∀ U,(o.guard=none/\true=true)\/∃ j wt t,o.guard=some (j,wt)/\idst l j=some t/\t ∈ U++gM l o.guard/\((∃ rj,done[j]? = some rj/\j<i/\rj.on=false/\true=false)\/∃ b,lookA fr t=some (one (.bool (.lit b)))/\true=(b == wt)):=fun U=>by
    rcases Km hg with h | ⟨j,wt,t,h1,h2,h3,h4⟩
    ·exact .inl ⟨h,rfl⟩
    exact .inr ⟨j,wt,t,h1,h2,ac9 _ h3,.inr h4⟩
   split at h
   ·-- a pick
    rename_i t x y hop;split at h
    ·rename_i b hlk;split at h
     ·rename_i v hev;obtain ⟨v',h,hv⟩:=rO h;refine ih _ ⟨rfl,hdn,(fun _ hs=>by rw [hop] at hs; cases hs),fun _=>.inl ⟨rfl,?_⟩,(fun h=>by cases h),hgd _⟩ rfl rfl h;refine pure_run (A:=t :: Operand.sl (cond b x y)) (σ:=[]) (v:=v) hv (fun G ρ w F hG hR hf _=>?_) _;have e1:lookA (cY fr (t :: Operand.sl (cond b x y))) t=some (one (.bool (.lit b))):=by rw [gV (by simp)]; exact hlk
      obtain ⟨vt,k1,k2⟩:=ew hf e1;have k2:=Dm k2;subst k2;rw [<- gE (U:=t :: Operand.sl (cond b x y)) (fun t' ht=>by simp [ht])] at hev;obtain ⟨u,k3,k4⟩:=aq hf hev;rw [hop];refine .inl ⟨u,w,?_,Kp.refl w,k4,by simp⟩;cases b with
      | true=>exact R.xQ k1 rfl k3
      | false=>exact R.Ai k1 rfl k3
     exact h.elim
    exact h.elim
   split at h
   ·-- an entry is put
    rename_i id e hins;obtain ⟨k1,k2⟩:=Ou (P:=P) (n:=n) hT (B:=gM l o.guard) hins H.length (maskH [] 0 H);split at h
    ·rename_i rc hdst;refine ih _ ⟨hdst.symm,hdn,fun _ _=>hdst,fun _=>.inr ⟨e,id,rfl,rfl,rfl,rfl,rfl,by rw [oa],k2,k1⟩,(fun h=>by cases h),hgd _⟩ rfl rfl h
    exact h.elim
   split at h
   ·-- a map of functions
    rename_i mr hmp;obtain ⟨v',h,hv⟩:=rO (lO h);refine ih _ ⟨rfl,hdn,(fun _ hs=>by rw [QI hmp] at hs; cases hs),fun _=>.inl ⟨rfl,?_⟩,(fun h=>by cases h),hgd _⟩ rfl rfl h;refine pure_run hv (fun G ρ w F hG hR hf _=>?_) _;subst hG;obtain ⟨u,j1,j2⟩:=xI (n:=n) (ty:=o.type) hT hR hf hmp;exact .inl ⟨u,w,j1,Kp.refl w,j2,by simp⟩
   split at h
   ·rename_i r hr;obtain ⟨v',h,hv⟩:=rO h;have hr0:=hr;unfold abZ at hr;dsimp only at hr;split at hr
    ·rename_i r' hrow;cases hr;refine ih _ ⟨rfl,hdn,(fun _ hs=>by rw [Ro hrow] at hs; cases hs),fun _=>.inl ⟨rfl,?_⟩,(fun h=>by cases h),hgd _⟩ rfl rfl h;exact pure_run hv (fun G ρ w F hG hR hf _=>Lb hT hG hR hf hrow) _
    split at hr
    ·rename_i r' hpv;cases hr;refine ih _ ⟨rfl,hdn,(fun _ hs=>by rw [aaY hpv] at hs; cases hs),fun _=>.inl ⟨rfl,?_⟩,(fun h=>by cases h),hgd _⟩ rfl rfl h;exact pure_run hv (fun G ρ w F hG hR hf hob=>by subst hG; exact ru hT hO hR hf hpv hob) _
    split at hr
    ·rename_i hst;refine ih _ ⟨rfl,hdn,(fun _ hs=>by
      unfold QN at hst;rw [hs] at hst;cases hdst:o.dst with
      | none=>rfl
      | some d=>rw [hdst] at hst; cases hst),fun _=>.inl ⟨rfl,?_⟩,(fun h=>by cases h),hgd _⟩ rfl rfl h
     intro G ρ w F hG hR hf hob;refine yu hf fun FA hfA=>?_;have hk:=yB (n:=n) hT hO hr G ρ w FA o.type hG hR hfA hob;have key:∀ u w',(∃ ρ',Stp ⟨fun i=>bQ i r.ch && ro.wr i,fun i=>bQ i r.mv && ro.mv i⟩ ρ w ρ' w' /\ Rep G ρ' r.res w' /\ Rt (cx G ρ' w') ρ' r.v u/\∀ p ∈ r.fc,p)->∃ ρ',Stp ⟨fun i=>bQ i r.ch && ro.wr i,fun i=>bQ i r.mv && ro.mv i⟩ ρ w ρ' w' /\ Rep G ρ' r.res w' /\ Rt (cx G ρ' w') ρ' v' u/\∀ p ∈ r.fc,p:=fun u w' ⟨ρ',j1,j2,j3,j4⟩=>⟨ρ',j1,j2,hv _ _ _ j3,j4⟩;rcases hk with hk | ⟨h0,w',j1,j2⟩
     ·exact .inl (hk.mono key)
     exact .inr ⟨h0,w',j1,key _ _ j2⟩
    cases hr
   exact h.elim
  exact h.elim
end
section
variable {P:Program} {T:List (Nat × TI)} {G:Gl} {O:bD} {n k:Nat} {l:List Oper} {ρ:List RE} {H:AH} {fr:AFr} {F:Fr} {ds:List DV} {vs:Nat->Value} {f g:DV->Value->World->Prop}
def nX (ds:List DV) (f:DV->Value->World->Prop):List Sp:=ds.map fun a=>⟨a.deps,[],f a⟩
variable {i:Nat} {a:DV}
theorem qo (h:ds[i]? = some a):spAt (nX ds f) i=⟨a.deps,[],f a⟩:=by
 simp [spAt,nX,h]
theorem Hs:(spAt (nX ds f) i).deps=((ds[i]?).map DV.deps).getD []:=by
 cases h:ds[i]? with
 | none=>simp [spAt,nX,h]
 | some a=>rw [qo h]; rfl
theorem IW {sl:List Nat}:lM l (nX ds f) sl k=lM l (nX ds g) sl k:=by
 simp only [lM,Hs];simp only [nX,List.length_map]
theorem rm:∀ {ds:List DV},BL (nX ds f)=[]
 | []=>rfl
 | _ :: r=>rm (ds:=r)
theorem rk:∀ {ds:List DV} {i:Nat},sN (nX ds f) i=[]
 | [],_=>rfl
 | _ :: r,0=>rm (ds:=r)
 | _ :: r,i+1=>rk (ds:=r) (i:=i)
theorem Dt (h:∀ a u w w',f a u w->Kp [] w w' -> f a u w'):∀ {r:List DV} {i:Nat},mY (nX ds f) i (nX r f)
 | [],_=>trivial
 | a :: r,i=>⟨fun u w w' hv hk=>h a u w w' hv (by rwa [rk] at hk),Dt h (r:=r)⟩
theorem Je {Q:List Sp} {w:World}:∀ {r:List Oper} {i:Nat},(∀ j o,r[j]? = some o->∀ vs w1,Kp (sN Q (i+j)) w w1->fV Q vs w1 (spAt Q (i+j)).deps->WO P (oU n (idst l (i+j)) (spAt Q (i+j)).S (spAt Q (i+j)).V w1) n l [o] (de l F vs (spAt Q (i+j)).deps) w1)->qK P n l Q F w i r
 | [],_,_=>trivial
 | o :: r,i,h=>⟨h 0 o rfl,Je fun j o' ho=>by
  have:=h (j+1) o' (by simpa using ho);rwa [show i+(j+1)=i+1+j by omega] at this⟩
theorem uE:∀ {r:List Oper} {p ds:List DV},vT T O H fr r p=some ds->(∃ q,ds=p++q/\q.length=r.length)/\∀ i o,r[i]? = some o->∃ a,ds[p.length+i]? = some a/\rL T O H fr (ds.take (p.length+i)) o=some a
 | [],p,ds,h=>by cases h; exact ⟨⟨[],by simp⟩,fun i o ho=>by simp at ho⟩
 | o :: r,p,ds,h=>by
  simp only [vT] at h;split at h
  ·rename_i a ha;obtain ⟨⟨q,h1,h2⟩,h3⟩:=uE h;refine ⟨⟨a :: q,by rw [h1]; simp,by simp [h2]⟩,fun i o' ho=>?_⟩;cases i with
   | zero=>
    grind
   | succ i=>
    obtain ⟨b,h4,h5⟩:=h3 i o' (by simpa using ho);have e:(p++[a]).length+i=p.length+(i+1):=by simp; omega
    rw [e] at h4 h5;exact ⟨b,h4,h5⟩
  cases h
theorem uV {p:List DV} {o:Oper} (h:rL T O H fr p o=some a):o.dst=some a.d/\∃ sl,a.deps=dO sl 0 p:=by
 unfold rL at h;grind
theorem qQ {Q:List Sp} {w:World}:∀ {deps:List Nat},fV Q vs w deps->∀ j ∈ deps,(spAt Q j).V (vs j) w
 | i :: r,h,j,hj=>by
  rcases ac4.1 hj with rfl | hj
  ·exact h.1
  exact qQ h.2 j hj
theorem zx:∀ {ds:List DV} {i:Nat} {a:DV},ds[i]? = some a->∀ q ∈ a.ob,q ∈ Xs ds
 | b :: r,0,a,h,q,hq=>by simp at h; subst h; exact ac8 _ hq
 | b :: r,i+1,a,h,q,hq=>ac9 _ (zx (ds:=r) (i:=i) (by simpa using h) q hq)
theorem xU:∀ {ds:List DV} {q:Prop},q ∈ S_ ds->∃ (i:Nat) (a:DV),ds[i]? = some a/\q ∈ a.fc
 | b :: r,q,h=>by
  rcases ac1.1 h with h | h
  ·exact ⟨0,b,rfl,h⟩
  obtain ⟨i,a,h1,h2⟩:=xU h;exact ⟨i+1,a,by simpa using h1,h2⟩
theorem xt {c:Cx} {D:Fr} (hf:FrR c ρ fr F) (hF:∀ i v,look F i=some v->look D i=some v):∀ {r:List DV},(∀ a ∈ r,a.ch=[]->∃ u,look D a.d=some u/\Rt c ρ a.v u)->∃ F',FrR c ρ (xz r fr) F' /\ ∀ i v,look F' i=some v->look D i=some v
 | [],_=>⟨F,hf,hF⟩
 | a :: r,h=>by
  obtain ⟨F',h1,h2⟩:=xt hf hF (r:=r) fun b hb=>h b (by simp [hb]);unfold xz;split
  ·rename_i hc;obtain ⟨u,h3,h4⟩:=h a (by simp) hc;refine ⟨(a.d,u) :: F',.cons ⟨rfl,h4⟩ h1,fun i v hv=>?_⟩;rw [aM] at hv;grind
  grind
theorem sU {i:Nat}:∀ {deps:List Nat},(∀ j ∈ deps,idst l j≠some i)->look (de l F vs deps) i=look F i
 | [],_=>rfl
 | j :: r,h=>by
  have ih:=sU (i:=i) (deps:=r) fun j hj=>h j (by simp [hj]);unfold de;split
  ·rename_i d hd;rw [aM,if_neg (fun e=>h j (by simp) (by rw [hd,e]))];exact ih
  exact ih
theorem Ku {c:Cx} (hf:FrR c ρ fr F):fr.map (·.1)=F.map (·.1):=by
 induction hf with
 | nil=>rfl
 | cons h _ ih=>simp [h.1,ih]
end
theorem DC {s:Nat->Bool}:∀ {rs:List RC} {k:Nat} {q:AFr × AH},(∀ i,k<=i->i<k+rs.length->s i=true)->iJ s k rs q=prg rs q
 | [],_,_,_=>rfl
 | r :: rs,k,q,h=>by
  simp only [iJ];rw [h k (ac5 _) (by simp),cond_true];exact DC fun i h1 h2=>h i aK (by simp at h2 ⊢; omega)
theorem zE:∀ {rs:List RC} {k:Nat} {q:AFr × AH},∃ m,iJ (fun _=>false) k rs q=(q.1,q.2++List.replicate m .gone)
 | [],_,q=>⟨0,by simp [iJ]⟩
 | r :: rs,k,q=>by
  obtain ⟨m,h⟩:=zE (rs:=rs) (k:=k+1) (q:=r.FD q);refine ⟨(r.res.length - r.base)+m,?_⟩;simp only [iJ,cond_false];rw [h];simp only [RC.FD,List.append_assoc,List.replicate_append_replicate]
variable {w:World} {G:Gl} {H:AH}
theorem Rep.afa (h:Rep G ρ H w) (m:Nat):Rep G (ρ++List.replicate m RE.no) (H++List.replicate m .gone) w/\(cx G ρ w).le (cx G (ρ++List.replicate m RE.no) w)/\jP ρ (ρ++List.replicate m RE.no)/\∀ ro,Stp ro ρ w (ρ++List.replicate m RE.no) w:=by
 have key:∀ i r,(ρ++List.replicate m RE.no)[i]? = some r->r≠RE.no->ρ[i]? = some r:=fun i r hi hne=>by
  by_cases hl:i<ρ.length
  ·rw [List.getElem?_append_left hl] at hi; exact hi
  grind
 have hlv:∀ b,live (ρ++List.replicate m RE.no) b->live ρ b:=fun b ⟨i,r,h1,h2⟩=>⟨i,r,key i r h1 (by rintro rfl; cases h2),h2⟩;have hext:Ext ρ w (ρ++List.replicate m RE.no) w:=⟨rfl,rfl,rfl,ac5 _,fun b _ hl=>⟨fun k=>hl (hlv b k),rfl⟩⟩;have hag:=fR ρ (List.replicate m .no);refine ⟨⟨?_,fun i j r r' g h1 h2 h3 h4=>h.inj i j r r' g (key i r h1 (by rintro rfl; cases h3)) (key j r' h2 (by rintro rfl; cases h4)) h3 h4,fun i r g h1 h2=>h.bnd i r g (key i r h1 (by rintro rfl; cases h2)) h2,h.z,h.b0,h.tb.carry (hext.le h.lo)⟩,hext.le h.lo,hag,fun ro=>⟨hext,fun i r _ hr=>?_,fun i r _ hr=>⟨?_,fun _ _=>rfl⟩,fun i g hg=>hag i _ hg (by simp)⟩⟩
 ·refine All2.append (cg h.obj.length fun i o r ho hr=>?_) ?_
  ·obtain ⟨r',hr',hor⟩:=h.at_ ho;rw [hr] at hr'; cases hr';exact hor.carry (hext.le h.lo) hag fun _ _=>rfl
  refine cg (by simp) fun i o r ho hr=>?_;rw [List.getElem?_replicate] at ho hr;by_cases hi:i<m
  ·rw [if_pos hi] at ho hr; cases ho; cases hr; rfl
  grind
 ·grind
 rw [List.getElem?_append_left (aam.1 hr).1]; exact hr
theorem nM {t:Nat} {v:TV}:∀ {fr:AFr} {l:List Nat},(t,v) ∈ tK fr l->t ∉ l/\lookA fr t=some v
 | (i,x) :: r,l,h=>by
  simp only [tK] at h;cases hm:bQ i l <;> rw [hm] at h
  ·rcases ac4.1 h with e | h
   ·cases e;refine ⟨fun hl=>?_,by rw [cZ,if_pos rfl]⟩;rw [bj.2 hl] at hm; cases hm
   obtain ⟨h1,h2⟩:=nM h;simp only [ac4,not_or] at h1;exact ⟨h1.2,by rw [cZ,if_neg (fun e=>h1.1 e.symm)]; exact h2⟩
  obtain ⟨h1,h2⟩:=nM h;refine ⟨h1,?_⟩;rw [cZ,if_neg]
  ·exact h2
  rintro rfl; exact h1 (bj.1 hm)
theorem tP {m:Nat} {p:Prop}:∀ {rs:List RC} {k:Nat},p ∈ yK m k rs->∃ j r,rs[j]? = some r/\bitN m (k+j)=true/\p ∈ r.fc
 | r :: rs,k,h=>by
  simp only [yK,ac1] at h;rcases h with h | h
  ·cases hb:bitN m k <;> rw [hb] at h
   ·simp at h
   exact ⟨0,r,rfl,hb,h⟩
  obtain ⟨j,r',h1,h2,h3⟩:=tP h;exact ⟨j+1,r',by simpa using h1,by rwa [show k+(j+1)=k+1+j by omega],h3⟩
theorem IV {all:List RC}:∀ {bef:List Nat} {rs:List RC},bef.length=rs.length->(∀ p ∈ obR all bef rs,p)->∀ i r,rs[i]? = some r->(∀ p ∈ yK (bef.getD i 0) 0 all,p)->∀ p ∈ r.ob,p
 | _,[],_,_,i,r,h,_=>by simp at h
 | m :: bef,b :: rs,hl,h,i,r,hr,hf=>by
  cases i with
  | zero=>
   simp at hr; subst hr;intro p hp;have h1:=fun q hq=>h q (ac8 _ hq);cases ho:b.ob with
   | nil=>rw [ho] at hp; simp at hp
   | cons x y=>
    rw [ho] at h1;exact dZ.1 (ef.1 (h1 _ (ab3 _)) hf) p (by rw [<- ho]; exact hp)
  | succ i=>
   exact IV (by simpa using hl) (fun q hq=>h q (ac9 _ hq)) i r (by simpa using hr) (by simpa using hf)
theorem EN:∀ {rs:List RC} {p:Prop},p ∈ fcR rs->∃ (j:Nat) (r:RC),rs[j]? = some r/\p ∈ r.fc
 | r :: rs,p,h=>by
  simp only [fcR,ac1] at h;rcases h with h | h
  ·exact ⟨0,r,rfl,h⟩
  obtain ⟨j,r',h1,h2⟩:=EN h;exact ⟨j+1,r',by simpa using h1,h2⟩
variable {T:List (Nat × TI)} {P:Program} {O:bD}
theorem xu {n:Nat} {ro:Lv} {l:List Oper} {ρ0:List RE} {w0:World} {Q:Exit->Act->World->Prop} {id:Nat} (hT:aY P G.shp T) (hO:ay P G.shp O) (hm:P.follows .mixedOrders=true) (hro:∀ i,ro.wr i=false\/ro.mv i=false->i<ρ0.length) {K:AFr->AH->Prop} {fr:AFr} {F:Fr} (hd:jR n l=true)
  (h:YI T O ro l K fr H) (hst:St G ro ρ0 w0 fr H F w) (hK:∀ fr H F w,K fr H->St G ro ρ0 w0 fr H F w->WX Q n .normal F w):WC P Q n (.region id l.toArray true) F w:=by
 obtain ⟨ρ,hS,hR,hf⟩:=hst;obtain ⟨rs,hw,hok,hgoal⟩:=Dz (n:=n) hT hO _ 0 l fr H [] (by simp) (afV _) hd ⟨rfl,trivial,rfl,fun j o r _ hr=>by simp at hr⟩ h;simp only [okR,Bool.and_eq_true] at hok;obtain ⟨⟨hp,hlen⟩,hok⟩:=hok;have hlen:=abk hlen;have hp:∀ i,∀ j ∈ bt l i,j<i:=fun i j hj=>by have:=pb hp i j hj; omega
 have hc:=hw.ch.fit (yq hok);obtain ⟨hobs,hfin⟩:=je.1 hgoal;have hbl:(iD [] l).length=rs.length:=by rw [zf,hlen]; simp
 have hq0:∀ i,i<ρ0.length->(ro.wr i=false\/ro.mv i=false)->i<H.length:=fun i hi hh=>by
  rw [hR.obj.length];have hr0:=List.getElem?_eq_getElem hi;rcases hh with hh | hh
  ·exact (aam.1 (hS.pro i _ hh hr0).1).1
  exact (aam.1 (hS.loc i _ hh hr0)).1
 intro a ha;refine acp hm (Inv:=QL G ro ρ0 w0 n (fr,H) rs) hp (fun s a w h=>by obtain ⟨_,_,_,_,h,_⟩:=h; exact h) (fun s a w i o inv ho hsi hpre hcl=>?_) (fun s a w inv hall=>?_) ?_
 ·refine Om rfl hro hq0 hp hc hok hlen hw.ok (fun i r hr hfc=>IV hbl hobs i r hr fun p hp=>?_) inv ho hsi hpre hcl;obtain ⟨j,r',h1,h2,h3⟩:=tP hp;rw [ac_] at h2;exact hfc j r' h1 h2 p h3
 ·obtain ⟨ρ',k1,k2,k3,k4,k5,k6⟩:=inv;rw [DC fun i _ hi=>hall i (by omega)] at k2 k3;have hk:=ef.1 hfin fun p hp=>by
   obtain ⟨j,r,h1,h2⟩:=EN hp;exact (k6 j r h1 (hall j (by have:=(aam.1 h1).1; omega))).1 p h2
  refine hK _ _ (yf a (tK (prg rs (fr,H)).1 [])) w hk ⟨ρ',k1,k2,pQ fun q hq=>(k3 q.1 q.2 (nM hq).2).2⟩ a ⟨k4,k5,fun i v hv=>?_⟩;obtain ⟨h1,tv,h2⟩:=oo hv;have h3:lookA (prg rs (fr,H)).1 i=some tv:=by
   have:∀ {fr:AFr} {l:List Nat},lookA (tK fr l) i=some tv->(i,tv) ∈ tK fr l:=by
    intro fr l;generalize tK fr l=x;induction x with
    | nil=>intro h; cases h
    | cons q r ih=>
     obtain ⟨j,u⟩:=q;rw [cZ];split
     ·grind
     grind
   exact (nM (this h2)).2
  exact ⟨(k3 i tv h3).1,h1.symm⟩
 obtain ⟨m,hm2⟩:=zE (rs:=rs) (k:=0) (q:=(fr,H));have hkp:Kp [] w { w with drawn:=w.drawn+1 }:=(Kp.refl w).drew;obtain ⟨g1,g2,g3,g4⟩:=(hR.kp hkp).afa m;refine ⟨_,(hS.trans (Stp.kp hR hkp)).trans (g4 ro),by rw [hm2]; exact g1,fun t v hv=>?_,ha.1,ha.2.1,fun k r _ hk=>by cases hk⟩;rw [hm2] at hv;obtain ⟨u,h1,h2⟩:=ew (hf.kp hkp) hv;obtain ⟨h3,h4⟩:=ha.2.2 t u h1;exact ⟨h3,by rw [h4]; exact h2.carry g2 g3⟩
theorem mN {shp:TypeId->Option Sh} (hT:aY P shp T) (hO:ay P shp O) (hm:P.follows .mixedOrders=true):wQ P shp T O:=by
 intro G n ro ρ0 w0 hshp hro Q k0 id L ops K fr H F w hd h hst hK;subst hshp;obtain ⟨ρ,hS,hR,hf⟩:=hst;simp only [iL] at h;generalize NR T O H fr ops.toList [] 0=k at h;split at h
 ·rename_i ds hds;split at h
  ·rename_i hB;obtain ⟨hob,h⟩:=je.1 h;rw [ef] at h;have hB1:lM ops.toList (nX ds fun a u w=>DVal G ρ ds a u w) (F.map (·.1)) k=true:=by
    rw [IW (g:=fun _ _ _=>True),<- Ku hf]; exact hB
   have hB2:=hB1;simp only [lM,Bool.and_eq_true,decide_eq_true_eq,afi,List.mem_range,Bool.or_eq_true] at hB2;obtain ⟨⟨⟨⟨hnl,hsp⟩,hops⟩,_⟩,_⟩:=hB2;have hdl:ds.length=k:=by simpa [nX] using hsp
   obtain ⟨_,hat⟩:=uE hds;simp only [List.length_nil,ac_] at hat;have hlt:∀ i a,ds[i]? = some a->i<k:=fun i a h=>by rw [<- hdl]; exact (aam.1 h).1
   have hdst:∀ (j:Nat) (a:DV),ds[j]? = some a->idst ops.toList j=some a.d:=fun j a ha=>by
    have hj:=hlt j a ha;have hjl:j<ops.toList.length:=by omega
    obtain ⟨b,h1,h2⟩:=hat j (ops.toList[j]) (by rw [adj,if_pos hj,List.getElem?_eq_getElem hjl]);rw [ha] at h1; cases h1;rw [jK,List.getElem?_eq_getElem hjl];exact (uV h2).1
   have hfree:∀ (j:Nat) (a:DV),ds[j]? = some a->a.d ∉ F.map (·.1)/\∀ i,i<k->i=j\/idst ops.toList i≠some a.d:=fun j a ha=>by
    have:=(hops j (hlt j a ha)).2;rw [hdst j a ha] at this;simp only [Bool.and_eq_true,adu,afi,List.mem_range,Bool.or_eq_true,beq_iff_eq,bne_iff_ne,List.contains_eq_mem,agJ] at this;exact this
   have hdist:∀ (i j:Nat) (a b:DV),ds[i]? = some a->ds[j]? = some b->a.d=b.d->i=j:=fun i j a b ha hb he=>by
    rcases (hfree j b hb).2 i (hlt i a ha) with h | h
    ·exact h
    rw [hdst i a ha,he] at h; exact absurd rfl h
   have e:ops=ops.toList.toArray:=by simp
   have hdt:jR n (ops.toList.take k)=true/\jR n (ops.toList.drop k)=true:=by
    rw [<- nH,List.take_append_drop]; exact hd
   rw [e];refine WC.tY hm _ k hB1 (Dt (f:=fun a u w=>DVal G ρ ds a u w) (ds:=ds) (r:=ds) fun a u w w' h hk=>DVal.kp h hk) (Je fun j o ho vs w1 hk hfacts=>?_) fun vs w1 hk hfacts=>?_
   ·rw [ac_] at hk hfacts ⊢;rw [rk] at hk;obtain ⟨a,ha,hstep⟩:=hat j o ho;rw [qo ha] at hfacts ⊢;obtain ⟨hod,sl,hsl⟩:=uV hstep;rw [hdst j a ha];refine (Tl (l:=ops.toList) (vs:=vs) hT hO hstep ⟨fun i b hb=>(xo hb).1,hdst,hdist,fun i hi=>?_⟩ (fun ch g=>zr) (fun q hq=>hob q (zx ha q hq)) (kL hdt.1 o (ada ho)) (hR.kp hk) (hf.kp hk)).2;have hv:=qQ hfacts i hi;rw [hsl] at hi;obtain ⟨i',b,e1,e2,_⟩:=eU.1 hi;rw [ac_] at e1; subst e1;rw [qo (xo e2).1] at hv;exact ⟨b,e2,hv⟩
   rw [rm] at hk;have hall:∀ j a,ds[j]? = some a->DVal G ρ ds a (vs j) w1:=fun j a ha=>by
    have:=qQ hfacts j (List.mem_range.2 (hlt j a ha));rwa [qo ha] at this
   have hctx:DCtx G ρ ops.toList ds vs ds (List.range k) w1:=⟨fun _ _ h=>h,hdst,hdist,fun j hj=>by
    have hj:=List.mem_range.1 hj;have hj2:j<ds.length:=by omega
    exact ⟨_,List.getElem?_eq_getElem hj2,hall j _ (List.getElem?_eq_getElem hj2)⟩⟩
   have hfc:∀ p ∈ S_ ds,p:=fun p hp=>by
    obtain ⟨i,a,h1,h2⟩:=xU hp;exact (hall i a h1).1 p h2
   obtain ⟨F',h1,h2⟩:=xt (D:=de ops.toList F vs (List.range k)) (hf.kp hk) (fun i v hv=>by
    rw [sU fun j hj he=>?_]
    ·exact hv
    ·have hj:=List.mem_range.1 hj;have hj2:j<ds.length:=by omega
     have:=hdst j _ (List.getElem?_eq_getElem hj2);rw [he] at this;have h3:=(hfree j _ (List.getElem?_eq_getElem hj2)).1;rw [<- adb this] at h3;exact h3 (aho.2 (xR hv))) (r:=ds) (fun a ha hc=>by
    obtain ⟨j,hj⟩:=List.getElem?_of_mem ha;refine ⟨vs j,hctx.look (List.mem_range.2 (hlt j a hj)) hj,(hall j a hj).2.1 ?_⟩;rw [hc];exact fun q hq=>by simp at hq)
   have:=k_ (Q:=Q) (l:=ops.toList) hT hO hK _ _ _ _ F' w1 hdt.2 (h hfc) ⟨ρ,hS.trans (Stp.kp hR hk),hR.kp hk,h1⟩;exact fun a ha=>this a (ha.sub h2)
  have e:ops=ops.toList.toArray:=by simp
  rw [e];exact xu hT hO hm hro hd h ⟨ρ,hS,hR,hf⟩ hK
 have e:ops=ops.toList.toArray:=by simp
 rw [e];exact xu hT hO hm hro hd h ⟨ρ,hS,hR,hf⟩ hK
def al:List (Nat × TI)->TypeId->Option Sh
 | [],_=>none
 | (_,⟨.sl e (some s),_,_⟩) :: r,t=>bif Nat.beq e t then some s else al r t
 | _ :: r,t=>al r t
def fsB (P:Program):List Go.Field->List (Nat × Nat)->Bool
 | [],[]=>true
 | f :: r,q :: l=>(match P.info? f.type with
  | some i=>Nat.beq f.offset q.1 && Nat.beq i.size q.2 && Nat.blt 0 q.2
  | none=>false) && fsB P r l
 | _,_=>false
def mzB (s:Sh) (z:Value):Bool:=match s.oc,z with
 | true,.agg a=>A_ (cellsOf s (ao s)) a.toList
 | true,_=>false
 | false,z=>A_ (cellsOf s (ao s)) [z]
theorem YX {s:Sh} {z:Value} (h:mzB s z=true):∃ zs,A_ (cellsOf s (ao s)) zs=true/\((s.oc=true/\z = .agg zs.toArray)\/(s.oc=false/\zs=[z])):=by
 unfold mzB at h;split at h
 ·grind
 ·cases h
 grind
def kzB:KC->Value->Bool
 | .i n,.int .i64 m=>decide (m=n)
 | .b x,.bool y=>decide (y=x)
 | .nf,.nilFunc=>true
 | _,_=>false
def kvB:List KC->List Value->Bool
 | [],[]=>true
 | k :: r,v :: s=>kzB k v && kvB r s
 | _,_=>false
theorem IS:∀ {z:List KC} {vs:List Value},kvB z vs=true->vs=z.map KC.val
 | [],[],_=>rfl
 | k :: r,v :: s,h=>by
  simp only [kvB,Bool.and_eq_true] at h;rw [ae9,<- IS h.2];have h1:=h.1;unfold kzB at h1;split at h1
  ·rw [ac6 h1]; rfl
  ·rw [ac6 h1]; rfl
  ·rfl
  cases h1
def Pw (P:Program) (F:Array Go.Field) (t:Nat):List (Nat × Nat)->Bool
 | []=>true
 | (a,b) :: r=>(!Nat.beq t a || (match (F[b]?).bind fun f=>P.underlying f.type with
  | some d=>!jO d
  | none=>false)) && Pw P F t r
theorem ED {P:Program} {F:Array Go.Field} {t i:Nat}:∀ {l:List (Nat × Nat)},Pw P F t l=true->Kf t i l=true->∃ f d,F[i]? = some f/\P.underlying f.type=some d/\jO d=false
 | (a,b) :: r,h,hm=>by
  simp only [Pw,Bool.and_eq_true] at h;simp only [Kf,Bool.or_eq_true,Bool.and_eq_true] at hm;rcases hm with ⟨h1,h2⟩ | hm
  ·have e:=abk h2;grind
  exact ED h.2 hm
def acL (P:Program) (T:List (Nat × TI)) (t:TypeId) (ti:TI):Bool:=match ti.k,P.underlying t with
 | .i k,some (.int k')=>decide (k' = k)
 | .bool,some .bool=>true
 | .str,some .string=>true
 | .sl e so,some (.slice e')=>Nat.beq e' e && (match so with
  | none=>true
  | some s=>decide (al T e=some s) && (match P.info? e with
   | some i=>Nat.beq i.size s.size && Nat.beq i.bytes s.bytes && (match i.zero with
    | some z=>A_ (cellsOf s (ao s)) z.cells.toList
    | none=>false)
   | none=>false) && (match s with
   | .u8=>(match P.underlying e,(P.info? e).bind (·.zero) with
    | some (.int k),some (.int k' z)=>decide (k = .u8) && decide (k' = .u8) && decide (z=0)
    | _,_=>false)
   | _=>true))
 | .st fs,some (.struct F)=>fsB P F.toList fs && (match Tm ti.zero with
  | some ks=>eqB P t ks
  | none=>true) && Pw P F t VL
 | .ar n e,some (.array n' e')=>Nat.beq n' n && Nat.beq e' e
 | .mg k e z,some (.map k' e')=>Nat.beq k' k && Nat.beq e' e && (match P.underlying k with
  | some (.int ik)=>decide (ik = .i64)
  | _=>false) && (match (P.info? e).bind (·.zero) with
  | some (.agg vs)=>kvB z vs.toList
  | _=>false)
 | .mp k e so,some (.map k' e')=>Nat.beq k' k && Nat.beq e' e && (match P.underlying k with
  | some (.int ik)=>decide (ik = .i64)
  | _=>false) && (match so with
  | none=>match (P.info? e).bind (·.zero) with
   | some .nilFunc=>true
   | _=>false
  | some s=>match (P.info? e).bind (·.zero) with
   | some z=>mzB s z
   | none=>false)
 | .ifc,some (.interface _)=>true
 | .ms k e,some (.map k' e')=>Nat.beq k' k && Nat.beq e' e && (match P.underlying k with
  | some .string=>true
  | _=>false) && (match (P.info? e).bind (·.zero) with
  | some (.int .i64 0)=>true
  | _=>false)
 | .ptr,some (.pointer _)=>true
 | .fn,some d=>!jO d
 | .oth,some d=>!jO d
 | _,_=>false
def tiB (P:Program) (T:List (Nat × TI)) (t:TypeId) (ti:TI):Bool:=(match P.info? t with
 | some i=>Nat.beq i.size ti.size && (match i.zero with
  | some z=>A_ ti.zero z.cells.toList
  | none=>false)
 | none=>false) && acL P T t ti
def RW (P:Program) (T:List (Nat × TI)):List (Nat × TI)->Bool
 | []=>true
 | (t,ti) :: r=>tiB P T t ti && RW P T r
theorem Kg {P:Program}:∀ {F:List Go.Field} {fs:List (Nat × Nat)},fsB P F fs=true->F.mapM (fun f=>(P.info? f.type).map fun i=>(f.offset,i.size))=some fs/\∀ q ∈ fs,0<q.2
 | [],[],_=>⟨rfl,by simp⟩
 | f :: F,(a,b) :: fs,h=>by
  simp only [fsB,Bool.and_eq_true] at h;obtain ⟨h1,h2⟩:=h;obtain ⟨h3,h4⟩:=Kg h2;split at h1
  ·rename_i i hi;simp only [Bool.and_eq_true] at h1;have e1:=abk h1.1.1;have e2:=abk h1.1.2;have e3:0<b:=by have:=(Nat.blt_eq).mp h1.2; exact this
   grind
  cases h1
theorem XY {t:TypeId} {ti:TI} (h:tiB P T t ti=true):aaV P (al T) t ti:=by
 simp only [tiB,Bool.and_eq_true] at h;obtain ⟨h1,h2⟩:=h;refine ⟨?_,?_⟩
 ·split at h1
  ·rename_i i hi;simp only [Bool.and_eq_true] at h1;obtain ⟨h3,h4⟩:=h1;refine ⟨by rw [hi,Option.map_some,abk h3],?_⟩;split at h4
   ·rename_i z hz;exact ⟨z.cells.toList,by simp [hi,hz],h4⟩
   cases h4
  cases h1
 unfold acL at h2;split at h2
 ·rename_i k k' hk hu;simp only [hk]; rw [hu,ac6 h2]
 ·rename_i hk hu;simp only [hk]; exact hu
 ·rename_i hk hu;simp only [hk]; exact hu
 ·rename_i e so e' hk hu;simp only [hk];simp only [Bool.and_eq_true] at h2;have e1:=abk h2.1;subst e1;refine ⟨hu,fun s hs=>?_⟩;subst hs;have h3:=h2.2;simp only [Bool.and_eq_true,decide_eq_true_eq] at h3;obtain ⟨⟨h3,h4⟩,h5⟩:=h3;refine ⟨h3,?_,?_⟩
  ·split at h4
   ·rename_i i hi;simp only [Bool.and_eq_true] at h4;obtain ⟨⟨h6,h7⟩,h8⟩:=h4;split at h8
    ·rename_i z hz;refine ⟨z.cells.toList,?_,h8⟩;rw [hi,Option.map_some,hz,abk h6,abk h7];simp
    cases h8
   cases h4
  grind
 ·rename_i fs F hk hu;simp only [hk];simp only [Bool.and_eq_true] at h2;obtain ⟨h3,h4⟩:=Kg h2.1.1;refine ⟨F,hu,h3,h4,fun ks hks=>?_,fun i hi=>ED h2.2 hi⟩;have h5:=h2.1.2;rw [hks] at h5;exact h5
 ·rename_i n e n' e' hk hu;simp only [hk];simp only [Bool.and_eq_true] at h2;rw [hu,abk h2.1,abk h2.2]
 ·rename_i k e z k' e' hk hu;simp only [hk];simp only [Bool.and_eq_true] at h2;obtain ⟨⟨⟨h3,h4⟩,h5⟩,h6⟩:=h2;rw [abk h3,abk h4] at hu;refine ⟨hu,?_,?_⟩
  ·split at h5
   ·rename_i ik hik;rw [hik,ac6 h5]
   cases h5
  split at h6
  ·rename_i vs hvs;rw [hvs,<- IS h6]
  cases h6
 ·rename_i k e so k' e' hk hu;simp only [hk];simp only [Bool.and_eq_true] at h2;obtain ⟨⟨⟨h3,h4⟩,h5⟩,h6⟩:=h2;rw [abk h3,abk h4] at hu;refine ⟨hu,?_,fun s hs=>?_,fun hn=>?_⟩
  ·split at h5
   ·rename_i ik hik;rw [hik,ac6 h5]
   cases h5
  ·subst hs;simp only at h6;split at h6
   ·rename_i z hz;obtain ⟨zs,h7,h8⟩:=YX h6;exact ⟨z,zs,hz,h7,h8⟩
   cases h6
  subst hn;simp only at h6;split at h6
  ·assumption
  cases h6
 ·rename_i ms hk hu;simp only [hk];simp only [Program.methodsAt,hu]
 ·rename_i k e k' e' hk hu;simp only [hk];simp only [Bool.and_eq_true] at h2;obtain ⟨⟨⟨h3,h4⟩,h5⟩,h6⟩:=h2;rw [abk h3,abk h4] at hu;refine ⟨hu,?_,?_⟩
  ·split at h5
   ·assumption
   cases h5
  split at h6
  ·assumption
  cases h6
 ·rename_i e hk hu;simp only [hk];exact ⟨e,hu⟩
 ·rename_i d hk hu;simp only [hk];exact ⟨d,hu,by simpa using h2⟩
 ·rename_i d hk hu;simp only [hk];exact ⟨d,hu,by simpa using h2⟩
 cases h2
theorem tX {t:TypeId} {ti:TI}:∀ {T:List (Nat × TI)},aQ T t=some ti->(t,ti) ∈ T
 | (j,v) :: r,h=>by
  simp only [aQ] at h;cases hb:Nat.beq j t <;> rw [hb] at h
  ·exact acb _ (tX h)
  simp_all
theorem yA {P:Program} {T:List (Nat × TI)}:∀ {r:List (Nat × TI)},RW P T r=true->∀ q ∈ r,tiB P T q.1 q.2=true
 | (t,ti) :: r,h,q,hq=>by
  simp only [RW,Bool.and_eq_true] at h;rcases ac4.1 hq with rfl | hq
  ·exact h.1
  exact yA h.2 q hq
theorem Vp (h:RW P T T=true):aY P (al T) T:=fun _ _ ht=>XY (yA h _ (tX ht))
end Go.Proofs.YticbaadnibdbkaaGreat
namespace Go.Proofs.YticbaadnibdbkaaGreat
def tyT:List (Nat × TI):=[
 (1,⟨.fn,1,[.nf]⟩),
 (2,⟨.i .i64,1,[.int 0]⟩),
 (3,⟨.i .i64,1,[.int 0]⟩),
 (4,⟨.bool,1,[.bool (.lit false)]⟩),
 (5,⟨.i .u8,1,[.u8 0]⟩),
 (6,⟨.i .u8,1,[.u8 0]⟩),
 (9,⟨.str,1,[.str ⟨[]⟩]⟩),
 (10,⟨.str,1,[.str ⟨[]⟩]⟩),
 (22,⟨.ar 2 4,2,[.bool (.lit false),.bool (.lit false)]⟩),
 (23,⟨.ar 3 5,3,[.u8 0,.u8 0,.u8 0]⟩),
 (25,⟨.ptr,1,[.np]⟩),
 (26,⟨.i .i64,1,[.int 0]⟩),
 (30,⟨.sl 40 (some (.nm .letter)),1,[.em true]⟩),
 (33,⟨.sl 3 (some .int),1,[.em true]⟩),
 (34,⟨.st [(0,1),(1,1),(2,1),(3,1),(4,1),(5,1),(6,1),(7,1)],8,[.int 0,.int 0,.int 0,.int 0,.int 0,.int 0,.em true,.str ⟨[]⟩]⟩),
 (35,⟨.st [(0,1),(1,1),(2,1),(3,1),(4,1),(5,1),(6,1),(7,1)],8,[.int 0,.int 0,.int 0,.int 0,.int 0,.int 0,.em true,.str ⟨[]⟩]⟩),
 (38,⟨.sl 52 (some (.nm .entry)),1,[.em true]⟩),
 (39,⟨.st [(0,1),(1,1),(2,1),(3,1),(4,1),(5,1),(6,1),(7,1),(8,1),(9,1)],10,[.int 0,.int 0,.int 0,.int 0,.int 0,.int 0,.int 0,.int 0,.bool (.lit false),.em true]⟩),
 (40,⟨.st [(0,1),(1,1),(2,1),(3,1),(4,1),(5,1),(6,1),(7,1),(8,1),(9,1)],10,[.int 0,.int 0,.int 0,.int 0,.int 0,.int 0,.int 0,.int 0,.bool (.lit false),.em true]⟩),
 (41,⟨.fn,1,[.nf]⟩),
 (42,⟨.sl 137 (some (.nm .sess)),1,[.em true]⟩),
 (43,⟨.sl 139 (some (.nm .opn)),1,[.em true]⟩),
 (44,⟨.sl 172 (some (.nm .snap)),1,[.em true]⟩),
 (45,⟨.st [(0,1),(1,1),(2,1),(3,1),(4,1),(5,1),(6,1)],7,[.int 0,.int 0,.int 0,.int 0,.em true,.em true,.em true]⟩),
 (46,⟨.st [(0,1),(1,1),(2,1),(3,1),(4,1),(5,1),(6,1)],7,[.int 0,.int 0,.int 0,.int 0,.em true,.em true,.em true]⟩),
 (47,⟨.st [(0,1),(1,1),(2,1),(3,1),(4,1),(5,1),(6,1),(7,1),(8,1),(9,7)],16,[.bool (.lit false),.int 0,.int 0,.int 0,.int 0,.int 0,.int 0,.int 0,.em true,.int 0,.int 0,.int 0,.int 0,.em true,.em true,.em true]⟩),
 (48,⟨.st [(0,1),(1,1),(2,1),(3,1),(4,1),(5,1),(6,1),(7,1),(8,1),(9,7)],16,[.bool (.lit false),.int 0,.int 0,.int 0,.int 0,.int 0,.int 0,.int 0,.em true,.int 0,.int 0,.int 0,.int 0,.em true,.em true,.em true]⟩),
 (50,⟨.sl 5 (some .u8),1,[.em true]⟩),
 (51,⟨.st [(0,1),(1,1)],2,[.int 0,.em true]⟩),
 (52,⟨.st [(0,1),(1,1)],2,[.int 0,.em true]⟩),
 (63,⟨.st [(0,1),(1,1),(2,1),(3,1)],4,[.int 0,.int 0,.int 0,.em true]⟩),
 (64,⟨.st [(0,1),(1,1),(2,1),(3,1)],4,[.int 0,.int 0,.int 0,.em true]⟩),
 (72,⟨.sl 78 (some (.nm .reply)),1,[.em true]⟩),
 (77,⟨.st [(0,1),(1,1)],2,[.int 0,.int 0]⟩),
 (78,⟨.st [(0,1),(1,1)],2,[.int 0,.int 0]⟩),
 (92,⟨.sl 4 (some .bool),1,[.em true]⟩),
 (96,⟨.ptr,1,[.np]⟩),
 (98,⟨.st [(0,1),(1,1),(2,1),(3,1)],4,[.em true,.em true,.em true,.em true]⟩),
 (99,⟨.st [(0,1),(1,1),(2,1),(3,1)],4,[.em true,.em true,.em true,.em true]⟩),
 (100,⟨.st [(0,1),(1,4),(5,1),(6,1),(7,1),(8,7),(15,1),(16,4)],20,[.int 0,.int 0,.int 0,.int 0,.em true,.int 0,.int 0,.int 0,.int 0,.int 0,.int 0,.int 0,.em true,.em true,.em true,.em true,.em true,.em true,.em true,.em true]⟩),
 (101,⟨.st [(0,1),(1,4),(5,1),(6,1),(7,1),(8,7),(15,1),(16,4)],20,[.int 0,.int 0,.int 0,.int 0,.em true,.int 0,.int 0,.int 0,.int 0,.int 0,.int 0,.int 0,.em true,.em true,.em true,.em true,.em true,.em true,.em true,.em true]⟩),
 (102,⟨.st [(0,1),(1,1),(2,1),(3,20)],23,[.int 0,.int 0,.np,.int 0,.int 0,.int 0,.int 0,.em true,.int 0,.int 0,.int 0,.int 0,.int 0,.int 0,.int 0,.em true,.em true,.em true,.em true,.em true,.em true,.em true,.em true]⟩),
 (103,⟨.st [(0,1),(1,1),(2,1),(3,20)],23,[.int 0,.int 0,.np,.int 0,.int 0,.int 0,.int 0,.em true,.int 0,.int 0,.int 0,.int 0,.int 0,.int 0,.int 0,.em true,.em true,.em true,.em true,.em true,.em true,.em true,.em true]⟩),
 (107,⟨.st [(0,1),(1,1),(2,1),(3,1)],4,[.int 0,.int 0,.int 0,.em true]⟩),
 (108,⟨.st [(0,1),(1,1),(2,1),(3,1)],4,[.int 0,.int 0,.int 0,.em true]⟩),
 (109,⟨.sl 108 (some (.nm .record)),1,[.em true]⟩),
 (121,⟨.mp 3 41 none,1,[.dead]⟩),
 (136,⟨.st [(0,1),(1,1),(2,2)],4,[.int 0,.int 0,.int 0,.int 0]⟩),
 (137,⟨.st [(0,1),(1,1),(2,2)],4,[.int 0,.int 0,.int 0,.int 0]⟩),
 (138,⟨.st [(0,1),(1,1)],2,[.int 0,.int 0]⟩),
 (139,⟨.st [(0,1),(1,1)],2,[.int 0,.int 0]⟩),
 (146,⟨.st [(0,1),(1,1),(2,1),(3,1),(4,1)],5,[.em true,.int 0,.bool (.lit false),.bool (.lit false),.int 0]⟩),
 (147,⟨.st [(0,1),(1,1),(2,1),(3,1),(4,1)],5,[.em true,.int 0,.bool (.lit false),.bool (.lit false),.int 0]⟩),
 (150,⟨.fn,1,[.nf]⟩),
 (162,⟨.fn,1,[.nf]⟩),
 (171,⟨.st [(0,1),(1,1),(2,1),(3,1),(4,1)],5,[.int 0,.int 0,.em true,.bool (.lit false),.str ⟨[]⟩]⟩),
 (172,⟨.st [(0,1),(1,1),(2,1),(3,1),(4,1)],5,[.int 0,.int 0,.em true,.bool (.lit false),.str ⟨[]⟩]⟩),
 (173,⟨.i .u64,1,[.u64 0]⟩),
 (177,⟨.sl 219 (some (.nm .field)),1,[.em true]⟩),
 (186,⟨.st [(0,1),(1,1),(2,1),(3,1),(4,1)],5,[.int 0,.int 0,.int 0,.int 0,.int 0]⟩),
 (187,⟨.st [(0,1),(1,1),(2,1),(3,1),(4,1)],5,[.int 0,.int 0,.int 0,.int 0,.int 0]⟩),
 (192,⟨.i .u64,1,[.u64 0]⟩),
 (193,⟨.i .u32,1,[.xx (.w 0) []]⟩),
 (199,⟨.fn,1,[.nf]⟩),
 (200,⟨.st [(0,1),(1,1),(2,1),(3,1),(4,1),(5,1)],6,[.int 0,.int 0,.bool (.lit false),.int 0,.int 0,.nf]⟩),
 (201,⟨.st [(0,1),(1,1),(2,1),(3,1),(4,1),(5,1)],6,[.int 0,.int 0,.bool (.lit false),.int 0,.int 0,.nf]⟩),
 (202,⟨.mg 3 201 [.i 0,.i 0,.b false,.i 0,.i 0,.nf],1,[.dead]⟩),
 (204,⟨.ptr,1,[.np]⟩),
 (207,⟨.mp 3 3 (some .int),1,[.dead]⟩),
 (210,⟨.st [(0,1),(1,1)],2,[.int 0,.int 0]⟩),
 (211,⟨.st [(0,1),(1,1)],2,[.int 0,.int 0]⟩),
 (213,⟨.mp 3 211 (some (.nm .span)),1,[.dead]⟩),
 (217,⟨.fn,1,[.nf]⟩),
 (218,⟨.st [(0,1),(1,1),(2,1),(3,1)],4,[.int 0,.int 0,.u64 0,.em true]⟩),
 (219,⟨.st [(0,1),(1,1),(2,1),(3,1)],4,[.int 0,.int 0,.u64 0,.em true]⟩),
 (251,⟨.ar 5 3,5,[.int 0,.int 0,.int 0,.int 0,.int 0]⟩),
 (252,⟨.sl 255 (some (.nm .spec)),1,[.em true]⟩),
 (254,⟨.st [(0,1),(1,1),(2,1),(3,1),(4,1)],5,[.int 0,.int 0,.int 0,.bool (.lit false),.bool (.lit false)]⟩),
 (255,⟨.st [(0,1),(1,1),(2,1),(3,1),(4,1)],5,[.int 0,.int 0,.int 0,.bool (.lit false),.bool (.lit false)]⟩),
 (261,⟨.fn,1,[.nf]⟩),
 (262,⟨.fn,1,[.nf]⟩),
 (264,⟨.st [(0,8),(8,1),(9,1)],10,[.int 0,.int 0,.int 0,.int 0,.int 0,.int 0,.em true,.str ⟨[]⟩,.bool (.lit false),.int 0]⟩),
 (265,⟨.st [(0,8),(8,1),(9,1)],10,[.int 0,.int 0,.int 0,.int 0,.int 0,.int 0,.em true,.str ⟨[]⟩,.bool (.lit false),.int 0]⟩),
 (282,⟨.fn,1,[.nf]⟩),
 (286,⟨.ar 2 193,2,[.xx (.w 0) [],.xx (.w 0) []]⟩),
 (289,⟨.mp 3 252 (some (.lst (.nm .spec))),1,[.dead]⟩),
 (291,⟨.fn,1,[.nf]⟩),
 (301,⟨.fn,1,[.nf]⟩),
 (303,⟨.fn,1,[.nf]⟩),
 (305,⟨.fn,1,[.nf]⟩),
 (306,⟨.fn,1,[.nf]⟩),
 (307,⟨.fn,1,[.nf]⟩),
 (308,⟨.fn,1,[.nf]⟩),
 (313,⟨.ptr,1,[.np]⟩),
 (315,⟨.mp 3 307 none,1,[.dead]⟩),
 (317,⟨.i .i64,1,[.int 0]⟩),
 (328,⟨.fn,1,[.nf]⟩),
 (330,⟨.fn,1,[.nf]⟩),
 (337,⟨.ar 65 3,65,(List.replicate 65 (.int 0))⟩),
 (338,⟨.ar 65 3,65,(List.replicate 65 (.int 0))⟩),
 (340,⟨.i .u64,1,[.u64 0]⟩),
 (344,⟨.ptr,1,[.np]⟩),
 (353,⟨.ptr,1,[.np]⟩),
 (355,⟨.ptr,1,[.np]⟩)]
end Go.Proofs.YticbaadnibdbkaaGreat
namespace Go.Proofs.YticbaadnibdbkaaGreat
theorem dh:aY Tryz.prog (al tyT) tyT:=Vp cd
theorem js:Tryz.prog.follows .mixedOrders=true:=cd
end Go.Proofs.YticbaadnibdbkaaGreat
namespace Go.Proofs.YticbaadnibdbkaaGreat
open Go.RowKit
def Sub1 (a b:TV1):Prop:=∀ c ρ v,cO c ρ a v->cO c ρ b v
def SubL:List TV1->List TV1->Prop
 | [],[]=>True
 | a :: r,b :: l=>Sub1 a b/\SubL r l
 | _,_=>False
theorem SubL.rd {c:Cx} {ρ:List RE}:∀ {aa bs:List TV1} {vs:List Value},SubL aa bs->All2 (cO c ρ) aa vs->All2 (cO c ρ) bs vs
 | [],[],_,_,h=>h
 | _ :: _,_ :: _,_,h,k=>by cases k with | cons k1 k2=>exact .cons (h.1 _ _ _ k1) (SubL.rd h.2 k2)
structure PU (α:Type) where
 p:TV1->Option α
 u:α->TV1
 ok:∀ a y,p a=some y->Sub1 a (u y)
def kT (s:Sh):PU (den s):=⟨fun | .agg l=>fT s l | _=>none,fun x=>.agg (cellsOf s x),fun a y h=>by
 cases a with
 | c a=>cases h
 | agg l=>exact fun c ρ v ⟨vs,e,hv⟩=>⟨vs,e,fU (aG h (hv.imp fun _ _ h=>Rd.qd h))⟩⟩
def kAp (s:Sh) (n:Nat):TV1->Option (List (den s))
 | .agg l=>match qZ s l with
  | some xs=>bif Nat.beq xs.length n && Nat.beq s.size 1 then some xs else none
  | none=>none
 | .c _=>none
theorem vn {s:Sh} {xs:List (den s)}:∀ (n k:Nat),k+n=xs.length->sG s xs k n=(xs.drop k).flatMap (cellsOf s)
 | 0,k,h=>by rw [aeu (by omega)]; rfl
 | n+1,k,h=>by
  have hk:k<xs.length:=by omega
  rw [sG,vn n (k+1) (by omega),adz hk,List.flatMap_cons,List.getD_eq_getElem?_getD,List.getElem?_eq_getElem hk]; rfl
def kA (s:Sh) (n:Nat):PU (List (den s)):=⟨kAp s n,fun xs=>.agg (sG s xs 0 n),fun a y h=>by
 cases a with
 | c a=>cases h
 | agg l=>
  simp only [kAp] at h
  split at h
  ·rename_i xs hx
   cases hb:(Nat.beq xs.length n && Nat.beq s.size 1) <;> rw [hb] at h <;> cases h
   simp only [Bool.and_eq_true] at hb
   intro c ρ v hv
   obtain ⟨us,e,hu⟩:=hv
   refine ⟨us,e,?_⟩
   show All2 _ (sG s y 0 n) us
   have:=abk hb.1
   rw [vn n 0 (by omega)]
   exact fU (kv hx hu)
  ·cases h⟩
def xr (s:Sh) (xs:List (den s)):Nat->Nat->List (den s)
 | _,0=>[]
 | k,n+1=>xs.getD k (ao s) :: xr s xs (k+1) n
theorem qh {s:Sh} {xs:List (den s)}:∀ (n k:Nat),(xr s xs k n).length=n
 | 0,_=>rfl
 | n+1,k=>by rw [xr,List.length_cons,qh n]
theorem xB {s:Sh} {xs:List (den s)}:∀ (n k:Nat),k+n=xs.length->xr s xs k n=xs.drop k
 | 0,k,h=>by rw [aeu (by omega)]; rfl
 | n+1,k,h=>by
  have hk:k<xs.length:=by omega
  rw [xr,xB n (k+1) (by omega),adz hk,List.getD_eq_getElem?_getD,List.getElem?_eq_getElem hk]; rfl
variable {n:Nat}
theorem iI {s:Sh} {xs:List (den s)} (h:xs.length=n):xr s xs 0 n=xs:=xB n 0 (by omega)
structure PC (α:Type) where
 p:AV->Option α
 u:α->AV
 ok:∀ a y,p a=some y->∀ c ρ v,Rd c ρ a v->Rd c ρ (u y) v
theorem ns {A:AV} {y:AV} (h:∀ c v,Qd c A v->Pd c y v):∀ c ρ v,Rd c ρ A v->Rd c ρ y v:=fun c ρ v hv=>kN (h c v (Rd.qd hv))
def cI:PC Int:=⟨AV.aR,.int,fun _ _ h=>ns fun _ _=>Pd.aR h⟩
def cU:PC U64:=⟨AV.TE,fun n=>.u64 n.n,fun _ _ h=>ns fun _ _=>Pd.TE h⟩
def cB:PC Bool:=⟨AV.tg,fun b=>.bool (.atom b),fun _ _ h=>ns fun _ _=>Pd.tg h⟩
def cL (s:Sh):PC (List (den s)):=⟨AV.fC s,.fz s,fun _ _ h=>ns fun _ _=>Pd.fC h⟩
def zi:List (Nat × Nat)->List (Nat × Nat)->Bool
 | [],[]=>true
 | (i,o) :: r,(j,k) :: l=>Nat.beq i j && Nat.beq o k && zi r l
 | _,_=>false
theorem qw:∀ {a b:List (Nat × Nat)},zi a b=true->a=b
 | [],[],_=>rfl
 | (i,o) :: r,(j,k) :: l,h=>by
  simp only [zi,Bool.and_eq_true] at h;rw [abk h.1.1,abk h.1.2,qw h.2]
def cQ (e:AV->Bool) (x:AV) (h:∀ a,e a=true->a=x):PC Unit:=⟨fun a=>bif e a then some () else none,fun _=>x,fun a y k c ρ v hv=>by
 cases he:e a <;> rw [he] at k
 ·cases k
 ·rw [h a he] at hv; exact hv⟩
def eN (i:Nat):PC Unit:=cQ (fun | .own j=>Nat.beq j i | _=>false) (.own i) fun a h=>by cases a <;> first | cases h | rw [abk h]
def aW (i o:Nat):PC Unit:=cQ (fun | .ptr j k=>Nat.beq j i && Nat.beq k o | _=>false) (.ptr i o) fun a h=>by
 cases a <;> first | cases h | (simp only [Bool.and_eq_true] at h; rw [abk h.1,abk h.2])
def qf (f:Nat) (b cs:List (Nat × Nat)):PC Unit:=cQ (fun | .fn g b' cs'=>Nat.beq g f && zi b' b && zi cs' cs | _=>false) (.fn f b cs) fun a h=>by
 cases a <;> first | cases h | (simp only [Bool.and_eq_true] at h; rw [abk h.1.1,qw h.1.2,qw h.2])
def YC (b:Bool):PC Unit:=cQ (fun | .em b'=>b' == b | _=>false) (.em b) fun a h=>by cases a <;> first | cases h | rw [beq_iff_eq.1 h]
structure PL (α:Type) where
 p:List AV->Option α
 u:α->List AV
 ok:∀ l y,p l=some y->∀ c ρ vs,All2 (Rd c ρ) l vs->All2 (Rd c ρ) (u y) vs
def du:PL Unit:=⟨fun | []=>some () | _=>none,fun _=>[],fun l y h c ρ vs hv=>by cases l <;> first | exact hv | cases h⟩
def ax {α β:Type} (A:PC α) (R:PL β):PL (α × β):=⟨fun
 | a :: r=>match A.p a,R.p r with
  | some x,some y=>some (x,y)
  | _,_=>none
 | _=>none,fun q=>A.u q.1 :: R.u q.2,fun l y h c ρ vs hv=>by
 cases l with
 | nil=>cases h
 | cons a r=>
  dsimp only at h
  split at h
  ·rename_i h1 h2
   cases h
   cases hv with
   | cons k1 k2=>exact .cons (A.ok _ _ h1 _ _ _ k1) (R.ok _ _ h2 _ _ _ k2)
  ·cases h⟩
def lSt {β:Type} (s:Sh) (R:PL β):PL (den s × β):=⟨fun l=>match fT s (l.take s.size),R.p (l.drop s.size) with
 | some x,some y=>some (x,y)
 | _,_=>none,fun q=>cellsOf s q.1++R.u q.2,fun l y h c ρ vs hv=>by
 split at h
 ·rename_i h1 h2
  cases h
  have k1:=fU (ρ:=ρ) (aG h1 ((hv.take s.size).imp fun _ _ h=>Rd.qd h))
  have k2:=R.ok _ _ h2 _ _ _ (hv.drop s.size)
  have:=k1.append k2
  rwa [List.take_append_drop] at this
 ·cases h⟩
def PL.Yr {α β:Type} (A:PL α) (f:α->β) (g:β->α) (h:∀ a,g (f a)=a:=by intros; rfl):PL β:=⟨fun l=>(A.p l).map f,fun y=>A.u (g y),fun l y hy c ρ vs hv=>by
 obtain ⟨a,h1,rfl⟩:=adg.1 hy
 show All2 _ (A.u (g (f a))) vs
 rw [h]; exact A.ok l a h1 c ρ vs hv⟩
def kC {α:Type} (A:PC α):PU α:=⟨fun | .c a=>A.p a | _=>none,fun y=>.c (A.u y),fun a y h=>by
 cases a with
 | c a=>exact fun c ρ v hv=>A.ok _ _ h c ρ v hv
 | agg l=>cases h⟩
def kG {α:Type} (R:PL α):PU α:=⟨fun | .agg l=>R.p l | _=>none,fun y=>.agg (R.u y),fun a y h=>by
 cases a with
 | c a=>cases h
 | agg l=>exact fun c ρ v ⟨vs,e,hv⟩=>⟨vs,e,R.ok _ _ h _ _ _ hv⟩⟩
structure PT (α:Type) where
 p:List TV1->Option α
 u:α->List TV1
 ok:∀ l y,p l=some y->SubL l (u y)
def au:PT Unit:=⟨fun | []=>some () | _=>none,fun _=>[],fun l y h=>by cases l <;> first | exact trivial | cases h⟩
def ae {α β:Type} (A:PU α) (R:PT β):PT (α × β):=⟨fun
 | a :: r=>match A.p a,R.p r with
  | some x,some y=>some (x,y)
  | _,_=>none
 | _=>none,fun q=>A.u q.1 :: R.u q.2,fun l y h=>by
 cases l with
 | nil=>cases h
 | cons a r=>
  dsimp only at h
  split at h
  ·rename_i h1 h2
   cases h
   exact ⟨A.ok _ _ h1,R.ok _ _ h2⟩
  ·cases h⟩
structure PO (α:Type) where
 p:AO->Option α
 u:α->AO
 ok:∀ o y,p o=some y->∀ c ρ r,OR c ρ o r->OR c ρ (u y) r
def dx {α:Type} (t:TypeId) (R:PL α):PO α:=⟨fun | .box t' cs=>bif Nat.beq t' t then R.p cs else none | _=>none,fun y=>.box t (R.u y),fun o y h c ρ r hr=>by
 cases o <;> dsimp only at h <;> try cases h
 rename_i t' cs
 cases hb:Nat.beq t' t <;> rw [hb] at h
 ·cases h
 ·have:=abk hb
  subst this
  obtain ⟨g,vs,e,h1,h2⟩:=hr
  exact ⟨g,vs,e,h1,R.ok _ _ h _ _ _ h2⟩⟩
def eS (t:TypeId) (s:Sh):PO (List (den s)):=⟨fun | .row t' s' xs=>bif Nat.beq t' t then (if h:s' = s then some (h ▸ xs) else none) else none | _=>none,fun xs=>.row t s xs,fun o y h c ρ r hr=>by
 cases o <;> dsimp only at h <;> try cases h
 rename_i t' s' xs
 cases hb:Nat.beq t' t <;> rw [hb] at h
 ·cases h
 ·have:=abk hb
  subst this
  simp only [cond_true] at h
  split at h
  ·rename_i e
   subst e
   cases h
   exact hr
  ·cases h⟩
def Be (t:TypeId) (s:Sh) (n:Nat):PO (List (den s)):=⟨fun | .arr t' s' n' xs=>bif Nat.beq t' t && Nat.beq n' n then (if h:s' = s then some (h ▸ xs) else none) else none | _=>none,fun xs=>.arr t s n xs,fun o y h c ρ r hr=>by
 cases o <;> dsimp only at h <;> try cases h
 rename_i t' s' n' xs
 cases hb:(Nat.beq t' t && Nat.beq n' n) <;> rw [hb] at h
 ·cases h
 ·simp only [Bool.and_eq_true] at hb
  have:=abk hb.1
  subst this
  have:=abk hb.2
  subst this
  simp only [cond_true] at h
  split at h
  ·rename_i e
   subst e
   cases h
   exact hr
  ·cases h⟩
structure PH (α:Type) where
 p:AH->Option α
 u:α->AH
 ok:∀ H y,p H=some y->∀ c ρ ρ',All2 (OR c ρ) H ρ' -> All2 (OR c ρ) (u y) ρ'
def aw:PH Unit:=⟨fun | []=>some () | _=>none,fun _=>[],fun l y h c ρ ρ' hr=>by cases l <;> first | exact hr | cases h⟩
def aB {α β:Type} (A:PO α) (R:PH β):PH (α × β):=⟨fun
 | a :: r=>match A.p a,R.p r with
  | some x,some y=>some (x,y)
  | _,_=>none
 | _=>none,fun q=>A.u q.1 :: R.u q.2,fun l y h c ρ ρ' hr=>by
 cases l with
 | nil=>cases h
 | cons a r=>
  dsimp only at h
  split at h
  ·rename_i h1 h2
   cases h
   cases hr with
   | cons k1 k2=>exact .cons (A.ok _ _ h1 _ _ _ k1) (R.ok _ _ h2 _ _ _ k2)
  ·cases h⟩
def PH.Yr {α β:Type} (A:PH α) (f:α->β) (g:β->α) (h:∀ a,g (f a)=a:=by intros; rfl):PH β:=⟨fun l=>(A.p l).map f,fun y=>A.u (g y),fun l y hy c ρ vs hv=>by
 obtain ⟨a,h1,rfl⟩:=adg.1 hy
 show All2 _ (A.u (g (f a))) vs
 rw [h]; exact A.ok l a h1 c ρ vs hv⟩
def xq (t:TypeId) (s:Sh):PO (den s):=dx t (PL.Yr (lSt s du) (·.1) (fun x=>(x,())))
def qX (k:Nat) (s:State):AH:=[.box 46 [.int s.version,.int s.next,.int s.keep,.int s.quota,.own (k+1),.own (k+2),.own (k+3)],.row 137 (.nm .sess) s.sess,.row 139 (.nm .opn) s.opens,.row 172 (.nm .snap) s.snaps]
def pF {β:Type} (k:Nat) (R:PH β):PH (State × β):=PH.Yr (aB (dx 46 (ax cI (ax cI (ax cI (ax cI (ax (eN (k+1)) (ax (eN (k+2)) (ax (eN (k+3)) du)))))))) (aB (eS 137 (.nm .sess)) (aB (eS 139 (.nm .opn)) (aB (eS 172 (.nm .snap)) R))))
 (fun q=>(⟨q.1.1,q.1.2.1,q.1.2.2.1,q.1.2.2.2.1,q.2.1,q.2.2.1,q.2.2.2.1⟩,q.2.2.2.2)) (fun q=>((q.1.version,q.1.next,q.1.keep,q.1.quota,(),(),(),()),q.1.sess,q.1.opens,q.1.snaps,q.2))
variable {f:Nat} {H' H:AH}
theorem Sat.afr {P:Program} {shp:TypeId->Option Sh} {aa bs:List TV1} {r:SpecR} (h:Sat P shp f bs H' r) (hs:SubL aa bs) (hH:∀ c ρ ρ',All2 (OR c ρ) H ρ' -> All2 (OR c ρ) H' ρ'):Sat P shp f aa H r:=
 ⟨h.1,fun G ρ w vs hg hR hv=>h.2 G ρ w vs hg ⟨hH _ _ _ hR.obj,hR.inj,hR.bnd,hR.z,hR.b0,hR.tb⟩ (hs.rd hv)⟩
section
variable {α β:Type} {P:Program} {shp:TypeId->Option Sh} {f:Nat}
def aJ (A:PT α) (B:PH β) (r:α->β->SpecR):List TV1->AH->Option SpecR:=fun a H=>match A.p a,B.p H with
 | some x,some y=>some (r x y)
 | _,_=>none
def LB (P:Program) (shp:TypeId->Option Sh) (f:Nat) (k:List TV1->AH->Option SpecR):Prop:=∀ args H r,k args H=some r->(∀ p ∈ r.pre,p)->Sat P shp f args H r
theorem ah {A:PT α} {B:PH β} {r:α->β->SpecR} (h:∀ x y,(∀ p ∈ (r x y).pre,p)->Sat P shp f (A.u x) (B.u y) (r x y)):LB P shp f (aJ A B r):=fun args H R e hp=>by
 unfold aJ at e;split at e
 ·rename_i hx hy;cases e;exact (h _ _ hp).afr (A.ok _ _ hx) fun c ρ ρ' hr=>B.ok _ _ hy c ρ ρ' hr
 cases e
def aL (f:Nat) (k:List TV1->AH->Option SpecR) (O:bD):bD:=fun g a H=>bif Nat.beq f g then (match k a H with
 | some r=>some r
 | none=>O g a H) else O g a H
variable {O:bD}
theorem ag {k:List TV1->AH->Option SpecR} (hk:LB P shp f k) (hO:ay P shp O):ay P shp (aL f k O):=fun g args H r h hp=>by
 unfold aL at h;cases hb:Nat.beq f g <;> rw [hb] at h
 ·exact hO g args H r h hp
 have:=abk hb;subst this;split at h
 ·rename_i hkk;cases h;exact hk _ _ _ hkk hp
 exact hO f args H r h hp
def acv:bD:=fun _ _ _=>none
def aab (O:bD):bD:=fun g a H=>bif Nat.beq g 1000000002 then some ⟨[False],[],none,false⟩ else O g a H
theorem RN (hO:ay P shp O):ay P shp (aab O):=fun g args H r h hp=>by
 unfold aab at h;cases hb:Nat.beq g 1000000002 <;> rw [hb] at h
 ·exact hO g args H r h hp
 cases h; exact (hp False (by simp)).elim
theorem fQ:ay P shp acv:=fun _ _ _ _ h=>by cases h
variable {l:List Prop}
theorem bW {p:Prop} (h:∀ q ∈ p :: l,q):p:=h _ (.head _)
theorem eH {p:Prop} (h:∀ q ∈ p :: l,q):∀ q ∈ l,q:=fun q hq=>h q (.tail _ hq)
end
abbrev Kn:=List TV1->AH->Option SpecR
abbrev CK (f:Nat) (k:Kn):Prop:=LB Tryz.prog (al tyT) f k
variable {rs args:List TV1} {O:bD} {pre:List Prop} {t:Prop} {fn:Func}
theorem av (hO:ay Tryz.prog (al tyT) O) (L:List (Nat × LI)) (hfn:Tryz.prog.funcs[f]? = some fn) (h:t) (ht:t=Uw tyT O L fn args H rs:=by kernel_rfl) (hng:(fn.name == "runtime.NumGoroutine")=false:=by decide)
  (hc:(match fn.body with
   | some c=>eu fn.ntmps c && Nat.ble args.length fn.ntmps
   | none=>false)=true:=by kernel_rfl):Sat Tryz.prog (al tyT) f args H ⟨pre,rs,none,false⟩:=Sat.Wt dh hO (mN dh hO js) hfn hng hc (ht ▸ h)
theorem bw (hO:ay Tryz.prog (al tyT) O) (L:List (Nat × LI)) (hfn:Tryz.prog.funcs[f]? = some fn) (h:t) (ht:t=wpE tyT O L fn args H rs H':=by kernel_rfl) (hng:(fn.name == "runtime.NumGoroutine")=false:=by decide)
  (hc:(match fn.body with
   | some c=>eu fn.ntmps c && Nat.ble args.length fn.ntmps
   | none=>false)=true:=by kernel_rfl):Sat Tryz.prog (al tyT) f args H ⟨pre,rs,some H',false⟩:=Sat.Iu dh hO (mN dh hO js) hfn hng hc (ht ▸ h)
theorem dr (hO:ay Tryz.prog (al tyT) O) (L:List (Nat × LI)) (hfn:Tryz.prog.funcs[f]? = some fn) (h:t) (ht:t=wpN tyT O L fn args H rs H':=by kernel_rfl) (hng:(fn.name == "runtime.NumGoroutine")=false:=by decide)
  (hc:(match fn.body with
   | some c=>eu fn.ntmps c && Nat.ble args.length fn.ntmps
   | none=>false)=true:=by kernel_rfl):Sat Tryz.prog (al tyT) f args H ⟨pre,rs,some H',true⟩:=Sat.Iu dh hO (mN dh hO js) hfn hng hc (ht ▸ h)
abbrev ju (a:Sess) (p:Prop):Prop:=I64 a.client->I64 a.seq->I64 a.last.code->I64 a.last.n->p
abbrev eV (a:Snap) (p:Prop):Prop:=I64 a.id->I64 a.set->a.chunks.length*8<=140737488355328->a.tag.b.length<=140737488355328->p
abbrev cV (a b:State):Prop:=a.version=b.version/\a.next=b.next/\a.keep=b.keep/\a.quota=b.quota/\a.sess=b.sess/\a.opens=b.opens/\a.snaps=b.snaps
abbrev bN (a b:State) (p:Prop):Prop:=a.version=b.version/\a.next=b.next/\a.keep=b.keep/\a.quota=b.quota/\a.sess=b.sess/\a.opens=b.opens/\a.snaps=b.snaps/\p
abbrev fo (a:State) (p:Prop):Prop:=I64 a.version->I64 a.next->I64 a.keep->I64 a.quota->a.sess.length*32<=140737488355328->a.opens.length*16<=140737488355328->a.snaps.length*64<=140737488355328->p
abbrev aT (a b:Command):Prop:=a.kind=b.kind/\a.client=b.client/\a.seq=b.seq/\a.set=b.set/\a.id=b.id/\a.n=b.n/\a.chunks=b.chunks/\a.text=b.text
abbrev bh (a b:Command) (p:Prop):Prop:=a.kind=b.kind/\a.client=b.client/\a.seq=b.seq/\a.set=b.set/\a.id=b.id/\a.n=b.n/\a.chunks=b.chunks/\a.text=b.text/\p
abbrev bI (a:Command) (p:Prop):Prop:=I64 a.kind->I64 a.client->I64 a.seq->I64 a.set->I64 a.id->I64 a.n->a.chunks.length*8<=140737488355328->a.text.b.length<=140737488355328->p
abbrev lW (a:Spec) (p:Prop):Prop:=I64 a.num->I64 a.wire->I64 a.since->p
abbrev qL (a b:Record) (p:Prop):Prop:=a.kind=b.kind/\a.a=b.a/\a.b=b.b/\a.x=b.x/\p
abbrev dK (a:Record) (p:Prop):Prop:=I64 a.kind->I64 a.a->I64 a.b->a.x.length*1<=140737488355328->p
abbrev K_ (a b:Letter):Prop:=a.kind=b.kind/\a.frm=b.frm/\a.to=b.to/\a.term=b.term/\a.a=b.a/\a.b=b.b/\a.c=b.c/\a.bin=b.bin/\a.ok=b.ok/\a.l=b.l
abbrev yX (a b:Letter) (p:Prop):Prop:=a.kind=b.kind/\a.frm=b.frm/\a.to=b.to/\a.term=b.term/\a.a=b.a/\a.b=b.b/\a.c=b.c/\a.bin=b.bin/\a.ok=b.ok/\a.l=b.l/\p
abbrev aS (a:Letter) (p:Prop):Prop:=I64 a.kind->I64 a.frm->I64 a.to->I64 a.term->I64 a.a->I64 a.b->I64 a.c->I64 a.bin->a.l.length*32<=140737488355328->p
abbrev dH (a b:Stable):Prop:=a.floor=b.floor/\a.term=b.term/\a.vote=b.vote/\a.log=b.log
abbrev aE (a b:Stable) (p:Prop):Prop:=a.floor=b.floor/\a.term=b.term/\a.vote=b.vote/\a.log=b.log/\p
abbrev bV (a:Stable) (p:Prop):Prop:=I64 a.floor->I64 a.term->I64 a.vote->a.log.length*32<=140737488355328->p
abbrev SY (a:Route) (p:Prop):Prop:=I64 a.frm->I64 a.to->I64 a.next->I64 a.commit->I64 a.bin->p
abbrev Ys (a b:Site):Prop:=a.up=b.up/\a.role=b.role/\a.binary=b.binary/\a.floor=b.floor/\a.term=b.term/\a.vote=b.vote/\a.commit=b.commit/\a.applied=b.applied/\a.log=b.log/\a.state.version=b.state.version/\a.state.next=b.state.next/\a.state.keep=b.state.keep/\a.state.quota=b.state.quota/\a.state.sess=b.state.sess/\a.state.opens=b.state.opens/\a.state.snaps=b.state.snaps
abbrev Of (a:Site) (p:Prop):Prop:=I64 a.role->I64 a.binary->I64 a.floor->I64 a.term->I64 a.vote->I64 a.commit->I64 a.applied->a.log.length*32<=140737488355328->I64 a.state.version->I64 a.state.next->I64 a.state.keep->I64 a.state.quota->a.state.sess.length*32<=140737488355328->a.state.opens.length*16<=140737488355328->a.state.snaps.length*64<=140737488355328->p
def GZ (G:Gl) (a b:Nat):Gl:=⟨G.shp,G.B0,fun x=>G.Z x\/x=a\/x=b⟩
structure Adv (Z:Nat->Prop) (ρ:List RE) (w:World) (ρ':List RE) (w':World):Prop where
 os:w'.os=w.os
 tape:w'.tape=w.tape
 output:w'.output=w.output
 size:w.heap.size<=w'.heap.size
 old:∀ b,b<w.heap.size->¬ live ρ b->¬ live ρ' b/\(¬ Z b->w'.heap[b]? = w.heap[b]?)
 bx:∀ (i g:Nat),ρ[i]? = some (.blk g)->ρ'[i]? = some (.blk g)
section
variable {Z:Nat->Prop} {G:Gl} {H:AH} {ρ ρ0 ρ1 ρ2 ρ':List RE} {w w' wa wb wc:World}
theorem Adv.trans (h:Adv Z ρ0 wa ρ1 wb) (k:Adv Z ρ1 wb ρ2 wc):Adv Z ρ0 wa ρ2 wc:=
 ⟨k.os.trans h.os,k.tape.trans h.tape,k.output.trans h.output,Nat.le_trans h.size k.size,fun x hx hl=>by
  obtain ⟨h1,h2⟩:=h.old x hx hl;obtain ⟨h3,h4⟩:=k.old x (ac3 hx h.size) h1;exact ⟨h3,fun hz=>(h4 hz).trans (h2 hz)⟩,fun i g hg=>k.bx i g (h.bx i g hg)⟩
theorem Adv.wH (h:Ext ρ w ρ' w') (hb:∀ (i g:Nat),ρ[i]? = some (.blk g)->ρ'[i]? = some (.blk g)):Adv Z ρ w ρ' w':=
 ⟨h.os,h.tape,h.output,h.size,fun b hb hl=>⟨(h.old b hb hl).1,fun _=>(h.old b hb hl).2⟩,hb⟩
variable {l:Nat}
theorem Adv.put (o:Obj) (hl:Z l):Adv Z ρ w ρ (w.putObj l o):=
 ⟨rfl,rfl,rfl,by simp,fun b _ h=>⟨h,fun hz=>aet (fun e=>hz (e ▸ hl))⟩,fun _ _ h=>h⟩
theorem Adv.le (hZ:∀ b,Z b->G.Z b) (hlo:∀ b,b<G.B0->b<w.heap.size/\¬ live ρ b) (hB:∀ b,Z b->G.B0<=b) (h:Adv Z ρ w ρ' w'):(cx G ρ w).le (cx G ρ' w'):=
 ⟨rfl,rfl,fun b hb=>⟨⟨ac3 hb.1 h.size,(h.old b hb.1 hb.2.1).1,hb.2.2⟩,(h.old b hb.1 hb.2.1).2 fun hz=>hb.2.2 (hZ b hz)⟩,fun b hb hs=>(h.old b hs (hlo b hb).2).2 fun hz=>Nat.lt_irrefl _ (ac3 hb (hB b hz))⟩
theorem Rep.Hn (h:Rep G ρ H w) (o:Obj) (hl:G.Z l) (hB:G.B0<=l):Rep G ρ H (w.putObj l o):=by
 have hle:(cx G ρ w).le (cx G ρ (w.putObj l o)):=Adv.le (Z:=fun b=>b=l) (fun b hb=>hb ▸ hl) h.lo (fun b hb=>hb ▸ hB) (Adv.put o rfl);refine ⟨cg h.obj.length fun i o' r ho hr=>?_,h.inj,fun i r g h1 h2=>?_,fun b hb=>by have:=h.z b hb; simpa using this,by have:=h.b0; simpa using this,h.tb.carry hle⟩
 ·obtain ⟨r',hr',hor⟩:=h.at_ ho;rw [hr] at hr'; cases hr';exact hor.carry hle (jP.refl _) fun g hg=>aet (fun e=>(h.bnd i r g hr hg).2.2 (e ▸ hl))
 have:=h.bnd i r g h1 h2;simp_all
theorem Rep.enter (h:Rep G ρ H w) (o1 o2:Obj):Rep (GZ G w.heap.size (w.heap.size+1)) ρ H ((w.alloc o1).alloc o2)/\(cx G ρ w).le (cx (GZ G w.heap.size (w.heap.size+1)) ρ ((w.alloc o1).alloc o2))/\Kp [] w ((w.alloc o1).alloc o2):=by
 have hk:Kp [] w ((w.alloc o1).alloc o2):=by
  have k1:=World.grownBy_alloc w o1 none;have k2:=World.grownBy_alloc (w.alloc o1) o2 none;refine ⟨rfl,rfl,rfl,by simp; omega,fun b hb _=>?_⟩;exact (k2.block b (by simp; omega) (by simp)).trans (k1.block b hb (by simp))
 have hle:(cx G ρ w).le (cx (GZ G w.heap.size (w.heap.size+1)) ρ ((w.alloc o1).alloc o2)):=⟨rfl,rfl,fun b hb=>by
  have hlt:b<w.heap.size:=hb.1;exact ⟨⟨ac3 hb.1 hk.size,hb.2.1,fun hz=>by
   rcases hz with hz | hz | hz
   ·exact hb.2.2 hz
   ·omega
   omega⟩,hk.block b hb.1 (by simp)⟩,fun b _ hs=>hk.block b hs (by simp)⟩
 refine ⟨⟨cg h.obj.length fun i o r ho hr=>?_,h.inj,fun i r g h1 h2=>?_,fun b hb=>?_,Nat.le_trans h.b0 hk.size,h.tb.carry hle⟩,hle,hk⟩
 ·obtain ⟨r',hr',hor⟩:=h.at_ ho;rw [hr] at hr'; cases hr';exact hor.carry hle (jP.refl _) fun g hg=>hk.block g (h.bnd i r g hr hg).2.1 (by simp)
 ·have:=h.bnd i r g h1 h2;refine ⟨this.1,ac3 this.2.1 hk.size,fun hz=>?_⟩;rcases hz with hz | hz | hz
  ·grind
  ·grind
  have:=this.2.1; omega
 have hs:((w.alloc o1).alloc o2).heap.size=w.heap.size+1+1:=by simp
 rcases hb with hb | hb | hb
 ·exact ac3 (h.z b hb) hk.size
 ·omega
 omega
theorem Rep.leave {a b:Nat} (h:Rep (GZ G a b) ρ H w) (hz:∀ x,G.Z x->x<w.heap.size):Rep G ρ H w/\(cx (GZ G a b) ρ w).le (cx G ρ w):=by
 have hle:(cx (GZ G a b) ρ w).le (cx G ρ w):=⟨rfl,rfl,fun x hx=>⟨⟨hx.1,hx.2.1,fun h=>hx.2.2 (.inl h)⟩,rfl⟩,fun _ _ _=>rfl⟩;refine ⟨⟨cg h.obj.length fun i o r ho hr=>?_,h.inj,fun i r g h1 h2=>?_,hz,h.b0,h.tb.carry hle⟩,hle⟩
 ·obtain ⟨r',hr',hor⟩:=h.at_ ho;rw [hr] at hr'; cases hr';exact hor.carry hle (jP.refl _) fun g _=>rfl
 have:=h.bnd i r g h1 h2;exact ⟨this.1,this.2.1,fun hz=>this.2.2 (.inl hz)⟩
def DK:AV->Bool
 | .own _=>false
 | .sub _ _ _=>false
 | .elp _ _ _=>false
 | _=>true
def ab0:TV1->Bool
 | .c a=>DK a
 | .agg l=>l.all DK
def CJ:AFr->Bool
 | []=>true
 | (_,.one t) :: r=>ab0 t && CJ r
 | _ :: _=>false
theorem dP.eD {q:Nat × Nat} {v:Value} (h:dP ρ q v) (k:∀ (i g:Nat),ρ[i]? = some (.blk g)->ρ'[i]? = some (.blk g)):dP ρ' q v:=by
 obtain ⟨g,h1,h2⟩:=h;exact ⟨g,k _ _ h1,h2⟩
theorem Rd.eD {c c':Cx} {a:AV} {v:Value} (h:Rd c ρ a v) (hs:DK a=true) (hc:c.le c') (k:∀ (i g:Nat),ρ[i]? = some (.blk g)->ρ'[i]? = some (.blk g)):Rd c' ρ' a v:=by
 cases a;case own=>cases hs
 case sub=>cases hs
 case elp=>cases hs
 case ptr=>exact dP.eD h k
 case np=>exact h
 case fe=>
  obtain ⟨A,cells,h1,h2,h3,e⟩:=h;exact ⟨A,cells,(hc.S _ h1).1,h2.keep (hc.S _ h1).2,h3.carry hc,e⟩
 case fn=>
  obtain ⟨bs,us,h1,h2,e⟩:=h;exact ⟨bs,us,h1.imp fun _ _ h=>h.eD k,h2.imp fun _ _ h=>h.eD k,e⟩
 case nf=>exact h
 case yl=>exact h
 case xx=>
  obtain ⟨us,h1,h2⟩:=h;exact ⟨us,h1.imp fun _ _ h=>h.eD k,h2.le hc⟩
 case mq=>
  obtain ⟨g,h1,e⟩:=h;exact ⟨g,k _ _ h1,e⟩
 case dead=>exact h
 all_goals exact Pd.carry h hc
theorem UB.eD {c c':Cx}:∀ {l:List AV} {vs:List Value},All2 (Rd c ρ) l vs->l.all DK=true->c.le c' -> (∀ (i g:Nat),ρ[i]? = some (.blk g)->ρ'[i]? = some (.blk g))->All2 (Rd c' ρ') l vs
 | [],_,h,_,_,_=>by cases h; exact .nil
 | _ :: _,_,h,hs,hc,k=>by
  cases h with | cons h1 h2=>
  simp only [agy,Bool.and_eq_true] at hs;exact .cons (h1.eD hs.1 hc k) (UB.eD h2 hs.2 hc k)
theorem FrR.eD {c c':Cx}:∀ {fr:AFr} {F:Fr},FrR c ρ fr F->CJ fr=true->c.le c' -> (∀ (i g:Nat),ρ[i]? = some (.blk g)->ρ'[i]? = some (.blk g))->FrR c' ρ' fr F
 | [],_,h,_,_,_=>by cases h; exact .nil
 | (i,t) :: r,_,h,hs,hc,k=>by
  cases h with | cons h1 h2=>
  cases t with
  | one t=>
   simp only [CJ,Bool.and_eq_true] at hs;refine .cons ⟨h1.1,?_⟩ (FrR.eD h2 hs.2 hc k);cases t with
   | c a=>exact Rd.eD h1.2 hs.1 hc k
   | agg l=>obtain ⟨vs,e,h3⟩:=h1.2; exact ⟨vs,e,UB.eD h3 hs.1 hc k⟩
  | _=>cases hs
end
section
variable {P:Program} {Q:Exit->Act->World->Prop} {n:Nat} {F:Fr} {w:World} {a:Act}
theorem MU (h:a.defers=[]):iH a []=a:=by rw [iH,<- h]
variable {m:Nat} {ro:Option Nat}
theorem Kw {c:Code} (h:c.wpIn (gr ro) 0 P Q a w):c.wpIn (gr ro) m P Q a w:=fun b k cs h1 h2 _=>h b k cs h1 h2 ZS
theorem jS.ZC {c:Code} (hd:a.defers=[]) (h:jS P c Q a w):c.wpIn (gr ro) m P Q a w:=by
 have h1:=h ro [];rw [MU hd] at h1;exact Kw (wpIn_mono h1 fun e a' w' ⟨a0,h0,e1,hq⟩=>by rw [e1,MU h0]; exact hq)
variable {l:List Oper}
theorem WO.app {r1 r2:List Oper} (h:WO P (fun e a w=>match e with | .normal=>IT P l.toArray Q r2 a w | e=>Q e a w) n l r1 F w):WO P Q n l (r1++r2) F w:=fun a ha ro ds=>
 gH (fun e a' w' he hq=>by
  obtain ⟨a0,h0,e1,hq⟩:=hq;refine ⟨a0,h0,e1,?_⟩;cases e with
  | normal=>exact absurd rfl he
  | _=>exact hq) (fun a' w' ⟨a0,_,e1,hq⟩=>by rw [e1]; exact hq ro ds) _ (h a ha ro ds)
variable {body:Code} {L:Nat} {tmps:Array Value}
theorem WO.yield {rest:List Oper} {d:Nat} {op:Op} {ty:TypeId} {pos:String} {af:Array Edge} {assign:Code} {φ:Value->World->Prop}
  (h:∀ a d pos af g,M n F a->(execOp a.eval ⟨d,op,ty,pos,af,g⟩).run P w = .ok (.round L f tmps assign body) w) (hd:Nat.blt d n=true)
  (hr:∀ ro m,RoundIn (gr ro) m P L f tmps assign body w fun e w'=>∃ v,e = .returned v/\φ v w') (k:∀ v w',φ v w' -> WO P Q n l rest ((d,v) :: F) w'):WO P Q n l (⟨some d,op,ty,pos,af,none⟩ :: rest) F w:=fun a ha ro ds=>
 wpListIn_plain rfl fun K hK=>by
  refine ⟨fun _ _=>trivial,?_⟩;rw [nc,abQ (h a _ _ _ _ ha) (fun d=>by simp)];refine ⟨(fun h=>by cases h),(hr ro _).mono fun e w' ⟨v,he,hv⟩=>?_⟩;subst he;refine hK _ _ ?_;exact k v w' hv _ (ha.put hd) ro ds
theorem Jn {assign:Code} {R:Ending->World->Prop}
  (h:jS P assign (Exit.then (fun a₁ w₁=>∃ w₂,(Instr.beginRound L).run P w₁ = .ok () w₂/\jS P body (roundPost P L R) a₁ w₂/\a₁.defers=[]) (fun _ _ _=>False)) { tmps:=tmps,defers:=[] } w):RoundIn (gr ro) m P L f tmps assign body w R:=by
 refine roundIn_of_wpIn (F:=gr ro) trivial ?_;refine wpIn_mono (jS.ZC (ro:=some L) rfl h) fun e a₁ w₁ hq=>?_;cases e with
 | normal=>
  obtain ⟨w₂,h1,h2,h3⟩:=hq;exact ⟨w₂,h1,jS.ZC (ro:=some L) h3 h2⟩
 | _=>exact hq
end
def ach (T:List (Nat × TI)) (H0:AH) (k0:Nat) (H':AH) (H:AH):List Prop:=
 match Hy H0 k0 H [] [] H' 3 [] with
 | σ=>same (mb H.length σ)++Yi T H H.length σ σ H'
section
variable {P:Program} {T:List (Nat × TI)} {G:Gl} {ρ ρ0:List RE} {H H0 H':AH} {w w0:World} {k0:Nat}
theorem KW (hT:aY P G.shp T) (hR:Rep G ρ H w) (hE:Ext ρ0 w0 ρ w) (hb:∀ (i g:Nat),ρ0[i]? = some (.blk g)->ρ[i]? = some (.blk g)) (hn:∀ (i g:Nat),i<k0->ρ0[i]? = some (.blk g)->ke (getO H0 i)=false) (h:iQ (ach T H0 k0 H' H)) :
  ∃ ρ',Rep G ρ' H' w/\Ext ρ0 w0 ρ' w/\∀ (i g:Nat),i<k0->ρ0[i]? = some (.blk g)->ρ'[i]? = some (.blk g):=by
 replace h:=dZ.1 h;refine ⟨cC ρ (Hy H0 k0 H [] [] H' 3 []),nj hT hR rfl (bu.1 fun p hp=>h p (ac8 _ hp)) fun p hp=>h p (ac9 _ hp),nG hE,fun i g hi hg=>?_⟩;exact cX (mD hi (hn i g hi hg) _ _) (hb i g hg)
end
section
variable {P:Program} {n:Nat} {fr:Fr} {w:World} {x y:Operand} {t t' ty e:TypeId}
variable {m:Nat}
theorem R.Rs {a:Option Addr} {c:Nat} (hx:ev fr x=some (.slice a m c)) (ht:P.underlying t=some (.slice e)):aD P n fr w (.call { callee:=.builtin .cap,args:=#[x],argTypes:=#[t] }) ty (.int .i64 (c:Int)) w:=fun _ _ _ _ _ ha=>by
 simp [execOp,resolve,invoke,builtin,ha.ev hx,Builtin.cap_,run_underlying ht,goInt]
variable {zv:Value} {k sc:Nat} {ti:TypeInfo}
theorem R.Z_ {base:Option Addr} {sl:Nat} {olds:List Value} (hx:ev fr x=some (.slice base sl sc)) (hy:ev fr y=some (.int .i64 (k:Int))) (hu:P.underlying t=some (.slice e)) (hu':P.underlying t' = some (.int .i64)) (hi:P.info? e=some ti) (hz:ti.zero=some zv)
  (hold:(Builtin.firstCells ti.size sl (.slice base sl sc)).run P w.drew = .ok olds.toArray w.drew) (h0:0<k) (hs:0<ti.size) (hg:sc<sl+k) (h63:((sl+k:Nat):Int)<=9223372036854775807) (h48:k*ti.bytes<=281474976710656) (hfit:Builtin.nextslicecap (sl+k) sc*ti.bytes<=281474976710656) :
  aD P n fr w (.call { callee:=.builtin .append,args:=#[x,y],argTypes:=#[t,t'] }) ty (.slice (some ⟨w.heap.size,0,none⟩) (sl+k) (grownCap w (sl+k) sc e))
   (w.drew.alloc (.cells (olds.toArray++Builtin.zeroCells zv.cells k++Builtin.zeroCells zv.cells (grownCap w (sl+k) sc e - (sl+k))) e)):=fun _ _ _ _ _ ha=>by
 have h:=Lib.run_append_grow_zeros w t t' ty e ti zv .i64 .i64 hu hu' hi hz base sl sc olds hold k h0 hs hg h63 h48 hfit;simp [execOp,resolve,invoke,builtin,ha.ev hx,ha.ev hy,h]
variable {tS tR tA tB:TypeId} {lb la cb z ca:Nat} {b a:Addr} {curA curB:Array Value} {fA:Nat × Nat}
theorem Tj (hu:P.underlying tS=some (.slice e)) (hz:(P.info? e).map (·.size)=some z) (hne:a.block≠b.block) 
  (hA:w.heap[a.block]? = some (.cells curA tA fA)) (hA0:curA.size≠0) (hB:w.heap[b.block]? = some (.cells curB tB (0,0))) :
  (Extern.SlicesOverlaps.overlaps #[tS,tS] #[tR] #[.slice (some a) la ca,.slice (some b) lb cb]).run P w = .ok (.bool false) w:=by
 have hnb:(a.block != b.block)=true:=by simpa using hne
 have hnb':(a.block == b.block)=false:=by simpa using hne
 have hfb:w.frozen? b=false:=by
  simp [World.frozen?,hB]
 have hfe:w.frozen? { block:=b.block,off:=curB.size }=false:=by
  simp [World.frozen?,hB]
 have hsa:w.shape? a.block=some (tA,curA.size):=by simp [World.shape?,hA]
 have hsb:w.shape? b.block=some (tB,curB.size):=by simp [World.shape?,hB]
 have hsz:(sizeOf e).run P w = .ok z w:=by
  cases hq:P.info? e with
  | none=>simp [hq] at hz
  | some i=>
   have hi:i.size=z:=by simpa [hq] using hz
   simp [sizeOf,typeInfo,hq,hi]
 change Sem.run P (α:=Value) (do
  let some t:=(#[tS,tS]:Array TypeId)[0]? | stuck "slices.overlaps: no parameter types"
  let .slice elem <- underlying t | stuck "slices.overlaps: slice type expected"
  let size <- sizeOf elem
  match (some a:Option Addr),(some b:Option Addr) with
  | some a,some b=>
   if la=0\/lb=0\/size=0 then pure (Value.bool false)
   else if a.block != b.block && (<- frozen a) && (<- frozen b) then unsupported .addressObserved
   else do
    if a.block != b.block then do
     noView a; noView b
     if <- mayBeOne a b then return Value.bool ((<- choose (.extern "sameAddr.stringBytes" 2)) == 1)
    pure (Value.bool (a.block == b.block && a.off<b.off+lb*size && b.off<a.off+la*size))
  | _,_=>pure (Value.bool false)) w=_
 by_cases h0:la=0\/lb=0\/z=0
 ·simp [run_underlying hu,hsz,h0]
 cases hk:curA.size with
 | zero=>exact absurd hk hA0
 | succ k=>
  rw [hk] at hsa;cases hfa:w.frozen? a <;> cases hfae:w.frozen? { block:=a.block,off:=k+1 } <;>
   simp [run_underlying hu,hsz,h0,hnb,hnb',frozen,noView,viewAt,mayBeOne,stringish,shape,Sem.run,hsa,hsb,hfa,hfb,hfe,hfae]
theorem R.ovl {f:FuncId} {ats:Array TypeId} (hf:P.funcs[f]? = some fn) (hname:(fn.name == "runtime.NumGoroutine")=false) (hb:fn.body.isNone=true) (hn:Extern.findNext fn=none) (he:Extern.find fn=some (Extern.SlicesOverlaps.overlaps #[tS,tS] #[tR]))
  (hu:P.underlying tS=some (.slice e)) (hz:(P.info? e).map (·.size)=some z) (hne:a.block≠b.block) 
  (hA:w.heap[a.block]? = some (.cells curA tA fA)) (hA0:curA.size≠0) (hB:w.heap[b.block]? = some (.cells curB tB (0,0))) (hx:ev fr x=some (.slice (some a) la ca)) (hy:ev fr y=some (.slice (some b) lb cb)) :
  aD P n fr w (.call { callee:=.value (.func f),args:=#[x,y],argTypes:=ats }) ty (.bool false) w:=fun ac _ _ _ _ ha=>by
 have h1:=run_callFunc_extern hf hname hb hn he #[.slice (some a) la ca,.slice (some b) lb cb] w;rw [Tj hu hz hne hA hA0 hB] at h1;have h0:ac.eval (.func f) = .func (.func f) #[] #[]:=rfl;simp [execOp,resolve,h0,Deferred.ofValue,invoke,ha.ev hx,ha.ev hy,h1]
theorem WO.ve {Q:Exit->Act->World->Prop} {l rest:List Oper} {d:Nat} {op:Op} {pos:String} {af:Array Edge} {ψ:Value->World->Prop} (h:∃ v w',aD P n fr w op ty v w' /\ ψ v w') (hd:Nat.blt d n=true) (k:∀ v w',ψ v w' -> WO P Q n l rest ((d,v) :: fr) w'):WO P Q n l (⟨some d,op,ty,pos,af,none⟩ :: rest) fr w:=by
 obtain ⟨v,w',h1,h2⟩:=h;exact WO.v h1 hd (k v w' h2)
theorem R.ES {u u' v:Value} {w':World} {ts:Array TypeId} (h:aD P n [] w (.call { callee:=.builtin .append,args:=#[.const u,.const u'],argTypes:=ts }) ty v w') (hx:ev fr x=some u) (hy:ev fr y=some u'):aD P n fr w (.call { callee:=.builtin .append,args:=#[x,y],argTypes:=ts }) ty v w':=fun a d pos af g ha=>by
 have h1:=h a d pos af g (ha.sub fun i v hv=>by cases hv);simp only [execOp,resolve,ha.ev hx,ha.ev hy,List.map_toArray,ae9] at h1 ⊢;exact h1
variable {cur:List Value} {ad:Addr}
theorem R.Ps {g sl c:Nat} {news:List Value} (hx:ev fr x=some (.slice (some ⟨g,0,none⟩) sl sc)) (hy:ev fr y=some (.slice (some ad) m c)) (hu:P.underlying t=some (.slice e)) (hi:P.info? e=some ti) (hg:w.heap[g]? = some (.cells cur.toArray e (0,0)))
  (hl:news.length=m*ti.size) (hsrc:CellsAt w ad news) (h1:∀ u ∈ news,u.oneCell' = true) (hroom:sl+m<=sc) (hfit:sl*ti.size+news.length<=cur.length) :
  aD P n fr w (.call { callee:=.builtin .append,args:=#[x,y],argTypes:=#[t,t] }) ty (.slice (some ⟨g,0,none⟩) (sl+m) sc) (w.setRow g (cur.take (sl*ti.size)++news++cur.drop (sl*ti.size+news.length)).toArray):=fun _ _ _ _ _ ha=>by
 have h:=run_append_room (P:=P) w t ty e ti hu hi g sl sc cur.toArray hg ad m c news hl hsrc h1 hroom (by simpa using hfit);simp [execOp,resolve,invoke,builtin,ha.ev hx,ha.ev hy,h]
variable {o:Nat}
theorem R.clr {g c:Nat} {tt:TypeId} (hx:ev fr x=some (.slice (some ⟨g,o,none⟩) m c)) (hm:m=1) (hu:P.underlying t=some (.slice e)) (hi:P.info? e=some ti) (hz:ti.zero=some zv) (h1:∀ u ∈ (Builtin.zeroCells zv.cells 1).toList,u.oneCell' = true) (hg:w.heap[g]? = some (.cells cur.toArray tt (0,0))) (hfit:o+(Builtin.zeroCells zv.cells 1).toList.length<=cur.length) :
  aD P n fr w (.call { callee:=.builtin .clear,args:=#[x],argTypes:=#[t] }) ty (.tuple #[]) (w.setRow g (cur.take o++(Builtin.zeroCells zv.cells 1).toList++cur.drop (o+(Builtin.zeroCells zv.cells 1).toList.length)).toArray):=fun _ _ _ _ _ ha=>by
 subst hm;have hst:=run_storeCells_at P g o tt (Builtin.zeroCells zv.cells 1).toList 0 cur.toArray w hg (by simpa using hfit) h1;have hc:(Builtin.clear_ #[t] ty #[.slice (some ⟨g,o,none⟩) 1 c]).run P w = .ok (.tuple #[]) (w.setRow g (cur.take o++(Builtin.zeroCells zv.cells 1).toList++cur.drop (o+(Builtin.zeroCells zv.cells 1).toList.length)).toArray):=by
  simp [Builtin.clear_,run_underlying hu,zeroValue,typeInfo,hi,hz,hst]
 simp [execOp,resolve,invoke,builtin,ha.ev hx,hc]
variable {i:Nat}
theorem VM {A:Addr} {c:Nat}:(if c=i then (some A:Option Addr) else (some A:Option Addr).map (·.add (i*z)))=some (if c=i then A else A.add (i*z)):=by
 split <;> rfl
theorem uT {v:Value} (h:w.cell? a=some v):∃ cur t f,w.heap[a.block]? = some (.cells cur t f)/\cur.size≠0:=by
 unfold World.cell? at h;grind
theorem Vs {c:Cx} {s:Sh} {xs:List (den s)} (h:Pd c (.fz s xs) (.slice (some ad) m k)) (h0:xs.length≠0):c.at s ad.block:=by
 cases h with
 | fz h1 h2 h3 h4 h5=>
  grind
variable {α:Type}
theorem Uf {cells sp cys:List α} (ho:o+z<=cells.length) (hc:cys.length=z):((cells++sp).take (o+z)++cells.drop o++(cells++sp).drop (o+z+(cells.drop o).length)).take o++cys++((cells++sp).take (o+z)++cells.drop o++(cells++sp).drop (o+z+(cells.drop o).length)).drop (o+cys.length)=cells.take o++cys++cells.drop o++sp.drop z:=by
 have e1:(cells++sp).take (o+z)=cells.take (o+z):=ado ho;have e2:(cells++sp).drop (o+z+(cells.drop o).length)=sp.drop z:=by
  rw [List.length_drop,show o+z+(cells.length - o)=cells.length+z by omega,List.drop_append];simp
 have hl:(cells.take (o+z)).length=o+z:=by rw [List.length_take]; omega
 rw [e1,e2,hc];generalize hA:cells.take (o+z)=A at *;have hA2:A.take o=cells.take o:=by rw [<- hA,ahH,adA (by omega)]
 rw [List.append_assoc A,ado (by omega),hA2,List.drop_left' hl];simp
theorem TY {cur cells ds cys:List α} (ho:o+z<=cur.length) (hc:cys.length=z) (he:cur.take o=cells.take o):(cur.take o++cys++cur.drop (o+cys.length)).take (o+z)++ds++(cur.take o++cys++cur.drop (o+cys.length)).drop (o+z+ds.length)=cells.take o++cys++ds++cur.drop (o+z+ds.length):=by
 have hl:(cur.take o++cys).length=o+z:=by rw [List.length_append,List.length_take,hc]; omega
 have e1:(cur.take o++cys++cur.drop (o+z)).drop (o+z+ds.length)=cur.drop (o+z+ds.length):=by
  rw [<- agl,List.drop_left' hl,agl]
 rw [hc,List.take_left' hl,e1,he]
theorem fa {g c:Nat} (h:¬ c=i):(if c=i then (some ⟨g,0,none⟩:Option Addr) else (some ⟨g,0,none⟩:Option Addr).map (·.add (i*z)))=some ⟨g,i*z,none⟩:=by
 rw [if_neg h,Option.map_some,add_lit,ac_]
end
theorem qS (z:Array Value) (n:Nat):(Builtin.zeroCells z n).toList.length=n*z.size:=by rw [Array.length_toList,size_zeroCells]
variable {w:World}
theorem eP {g:Nat} {o:Obj} (h:w.heap[g]? = some o):g<w.heap.size:=(afC.1 h).1
theorem cT:(Tryz.prog.info? 137).map (·.size)=some 4:=cd
theorem LD:(Tryz.prog.info? 137).map (fun i=>(i.zero,i.size,i.bytes))=some (some (.agg #[.int .i64 0,.int .i64 0,.int .i64 0,.int .i64 0]),4,32):=cd
variable {φ:Value->World->Prop} {vc:Nat} {B A:Option Addr}
set_option maxRecDepth 100000 in
theorem zl {c:Nat} (happ:∀ (F:Fr) (x y:Operand) (ty:TypeId),ev F x=some (.slice A n c)->ev F y=some (.slice B 1 vc)->∃ v2 w2,aD Tryz.prog 95 F w (.call { callee:=.builtin .append,args:=#[x,y],argTypes:=#[42,42] }) ty v2 w2/\φ v2 w2) :
  jI Tryz.prog 263 [.slice A n c,.int .i64 (n:Int),.slice B 1 vc].toArray w φ:=by
 refine jI.enter Tryz.func263 rfl rfl rfl rfl ?_;refine WC.seq ?_;refine WC.region ?_;refine WO.v (R.assign rfl) rfl ?_;refine WO.nil ?_;refine WX.next ?_
 refine WC.seq ?_;refine WC.region ?_;refine WO.v (R.move rfl) rfl ?_;refine WO.v (R.move rfl) rfl ?_;refine WO.v (R.cS rfl rfl Tryz.underlying42 cT rfl (by omega)) rfl ?_;refine WO.nil ?_;refine WX.next ?_
 refine WC.seq ?_;refine WC.region ?_;refine WO.v (R.move rfl) rfl ?_;refine WO.v (R.len rfl Tryz.underlying42) rfl ?_;refine WO.v (R.assign rfl) rfl ?_;refine WO.nil ?_;refine WX.next ?_
 refine WC.seq ?_;refine WC.seq ?_;refine WC.region ?_;refine WO.v (R.move rfl) rfl ?_;refine WO.v (R.eql rfl rfl) rfl ?_;refine WO.nil ?_;refine WX.next ?_
 refine WC.cond rfl (fun q=>absurd (ac6 q) (by omega)) (fun _=>?_);refine WC.skip ?_;refine WX.next ?_
 refine WC.seq ?_;refine WC.region ?_;refine WO.v (R.move rfl) rfl ?_;refine WO.v (R.len rfl Tryz.underlying42) rfl ?_;refine WO.v (R.assign rfl) rfl ?_;refine WO.nil ?_;refine WX.next ?_
 refine WC.seq ?_;refine WC.seq ?_;refine WC.region ?_;refine WO.v (R.move rfl) rfl ?_;refine WO.v (R.move rfl) rfl ?_;refine WO.v (R.eql rfl rfl) rfl ?_;refine WO.nil ?_;refine WX.next ?_
 refine WC.cond rfl (fun _=>?_) (fun q=>absurd rfl (ahg q));refine WC.seq ?_;refine WC.region ?_;refine WO.v (R.move rfl) rfl ?_;refine WO.v (R.move rfl) rfl ?_;refine WO.ve (happ _ _ _ _ rfl rfl) rfl fun v2 w2 hv2=>?_;refine WO.v (R.assign rfl) rfl ?_;refine WO.nil ?_;refine WX.next ?_
 refine WC.ret ?_;refine WX.kZ ?_;refine WX.AN rfl rfl ?_;exact hv2
variable {cur ds vs:List Value} {G i b:Nat} {ad:Addr} {W1:World}
set_option maxRecDepth 100000 in
theorem wM {g c:Nat} (hi:i<n) (hnc:n<=c) (hc:c<n+1) (hcm:c<=maxLen) (hG:n+1<=G) (hGm:G<=maxLen)
  (happ:∀ (F:Fr) (x y:Operand) (ty:TypeId),ev F x=some (.slice (some ⟨g,0*4,none⟩) i c)->ev F y=some (.int .i64 ((n+1 - i:Nat):Int))->aD Tryz.prog 95 F w (.call { callee:=.builtin .append,args:=#[x,y],argTypes:=#[42,3] }) ty (.slice (some ⟨b,0,none⟩) (n+1) G) W1)
  (hrow:W1.heap[b]? = some (.cells cur.toArray 137 (0,0))) (hcur:(n+1)*4<=cur.length) (hv:CellsAt W1 ad vs) (hvl:vs.length=4) (hd:CellsAt W1 ⟨g,i*4,none⟩ ds) (hgb:g≠b) (hgl:g<W1.heap.size) (hdl:ds.length=(n - i)*4)
  (h1v:∀ u ∈ vs,u.oneCell' = true) (h1d:∀ u ∈ ds,u.oneCell' = true) :
  jI Tryz.prog 263 [.slice (some ⟨g,0,none⟩) n c,.int .i64 (i:Int),.slice (some ad) 1 vc].toArray w fun v w'=>v = .slice (some ⟨b,0,none⟩) (n+1) G/\∃ w1,Kp [] (W1.setRow b (cur.take (i*4)++vs++cur.drop (i*4+vs.length)).toArray) w1/\w' = w1.setRow b ((cur.take (i*4)++vs++cur.drop (i*4+vs.length)).take ((i+1)*4)++ds++(cur.take (i*4)++vs++cur.drop (i*4+vs.length)).drop ((i+1)*4+ds.length)).toArray:=by
 have hGm:G<=9223372036854775807:=hGm;have hcm:c<=9223372036854775807:=hcm;have hn1:vs.length=Nat.min 1 (n+1 - i)*4:=by rw [show Nat.min 1 (n+1 - i)=1 from adA (by omega),Nat.one_mul]; exact hvl
 have hn2:ds.length=Nat.min (n - i) (n+1 - (i+1))*4:=by rw [show Nat.min (n - i) (n+1 - (i+1))=n - i from adA (by omega)]; exact hdl
 refine jI.enter Tryz.func263 rfl rfl rfl rfl ?_;refine WC.seq ?_;refine WC.region ?_;refine WO.v (R.assign rfl) rfl ?_;refine WO.nil ?_;refine WX.next ?_
 refine WC.seq ?_;refine WC.region ?_;refine WO.v (R.move rfl) rfl ?_;refine WO.v (R.move rfl) rfl ?_;refine WO.v (R.cS rfl rfl Tryz.underlying42 cT rfl (by omega)) rfl ?_;refine WO.nil ?_;refine WX.next ?_
 refine WC.seq ?_;refine WC.region ?_;refine WO.v (R.move rfl) rfl ?_;refine WO.v (R.len rfl Tryz.underlying42) rfl ?_;refine WO.v (R.assign rfl) rfl ?_;refine WO.nil ?_;refine WX.next ?_
 refine WC.seq ?_;refine WC.seq ?_;refine WC.region ?_;refine WO.v (R.move rfl) rfl ?_;refine WO.v (R.eql rfl rfl) rfl ?_;refine WO.nil ?_;refine WX.next ?_
 refine WC.cond rfl (fun q=>absurd (ac6 q) (by omega)) (fun _=>?_);refine WC.skip ?_;refine WX.next ?_
 refine WC.seq ?_;refine WC.region ?_;refine WO.v (R.move rfl) rfl ?_;refine WO.v (R.len rfl Tryz.underlying42) rfl ?_;refine WO.v (R.assign rfl) rfl ?_;refine WO.nil ?_;refine WX.next ?_
 refine WC.seq ?_;refine WC.seq ?_;refine WC.region ?_;refine WO.v (R.move rfl) rfl ?_;refine WO.v (R.move rfl) rfl ?_;refine WO.v (R.eql rfl rfl) rfl ?_;refine WO.nil ?_;refine WX.next ?_
 refine WC.cond rfl (fun q=>absurd (ac6 q) (by omega)) (fun _=>?_);refine WC.skip ?_;refine WX.next ?_
 refine WC.seq ?_;refine WC.seq ?_;refine WC.region ?_;refine WO.v (R.move rfl) rfl ?_;refine WO.v (R.move rfl) rfl ?_;refine WO.v (R.mV rfl rfl (by omega)) rfl ?_;refine WO.v (R.move rfl) rfl ?_;refine WO.v (R.Rs rfl Tryz.underlying42) rfl ?_;refine WO.v (R.gtr rfl rfl) rfl ?_;refine WO.nil ?_;refine WX.next ?_
 refine WC.cond rfl (fun _=>?_) (fun q=>absurd (by omega) (ahg q));refine WC.seq ?_;refine WC.region ?_;refine WO.v (R.move rfl) rfl ?_;refine WO.v (R.move rfl) rfl ?_;refine WO.v (R.kx rfl rfl Tryz.underlying42 cT (fa (i:=0) (by omega)) (by omega)) rfl ?_;refine WO.v (R.move rfl) rfl ?_;refine WO.v (R.move rfl) rfl ?_;refine WO.v (R.mV rfl rfl (by omega)) rfl ?_;refine WO.v (R.move rfl) rfl ?_;refine WO.v (R.abX rfl rfl (by omega) (by omega)) rfl ?_;refine WO.v (happ _ _ _ _ rfl rfl) rfl ?_;refine WO.v (R.assign rfl) rfl ?_;refine WO.nil ?_;refine WX.next ?_
 refine WC.seq ?_;refine WC.region ?_;refine WO.v (R.move rfl) rfl ?_;refine WO.v (R.move rfl) rfl ?_;refine WO.v (R.cS rfl rfl Tryz.underlying42 cT (fa (by omega)) (by omega)) rfl ?_;refine WO.v (R.move rfl) rfl ?_;refine WO.v (R.mz rfl rfl Tryz.underlying42 cT hrow hn1 hv (by omega) h1v) rfl ?_;refine WO.nil ?_;refine WX.next ?_
 refine WC.seq ?_;refine WC.tY js [.ex [] (.slice (some ⟨b,0,none⟩) (n+1) G),.ex [] (.int .i64 ((i:Nat):Int)),.ex [] (.int .i64 ((1:Nat):Int)),.ex [1,2] (.int .i64 ((i+1:Nat):Int)),.ex [0,3] (.slice (some ⟨b,(i+1)*4,none⟩) (n+1 - (i+1)) (G - (i+1))),.ex [] (.slice (some ⟨g,0,none⟩) n c),.ex [] (.int .i64 ((i:Nat):Int)),.ex [5,6] (.slice (some ⟨g,i*4,none⟩) (n - i) (c - i))] 8 cd ⟨fun _ _ _ h _=>h,fun _ _ _ h _=>h,fun _ _ _ h _=>h,fun _ _ _ h _=>h,fun _ _ _ h _=>h,fun _ _ _ h _=>h,fun _ _ _ h _=>h,fun _ _ _ h _=>h,trivial⟩ ⟨?_,?_,?_,?_,?_,?_,?_,?_,trivial⟩ ?_
 ·rintro vs wd kd ⟨-⟩;refine WO.bJ (fr':=[(9,.slice (some ⟨b,0,none⟩) (n+1) G)]) ⟨⟨_,rfl,rfl⟩,trivial⟩ ?_;refine WO.v (R.move rfl) rfl ?_;refine WO.nil ?_;exact WX.aF rfl rfl (Kp.refl _)
 ·rintro vs wd kd ⟨-⟩;refine WO.bJ (fr':=[(1,.int .i64 ((i:Nat):Int))]) ⟨⟨_,rfl,rfl⟩,trivial⟩ ?_;refine WO.v (R.move rfl) rfl ?_;refine WO.nil ?_;exact WX.aF rfl rfl (Kp.refl _)
 ·rintro vs wd kd ⟨-⟩;refine WO.bJ (fr':=[(7,.int .i64 ((1:Nat):Int))]) ⟨⟨_,rfl,rfl⟩,trivial⟩ ?_;refine WO.v (R.move rfl) rfl ?_;refine WO.nil ?_;exact WX.aF rfl rfl (Kp.refl _)
 ·rintro vs wd kd ⟨e1,e2,-⟩;refine WO.bJ (fr':=[(47,.int .i64 ((i:Nat):Int)),(48,.int .i64 ((1:Nat):Int))]) ⟨⟨_,rfl,e1⟩,⟨_,rfl,e2⟩,trivial⟩ ?_;refine WO.v (R.mV rfl rfl (by omega)) rfl ?_;refine WO.nil ?_;exact WX.aF rfl rfl (Kp.refl _)
 ·rintro vs wd kd ⟨e0,e3,-⟩;refine WO.bJ (fr':=[(46,.slice (some ⟨b,0,none⟩) (n+1) G),(49,.int .i64 ((i+1:Nat):Int))]) ⟨⟨_,rfl,e0⟩,⟨_,rfl,e3⟩,trivial⟩ ?_;refine WO.v (R.cS rfl rfl Tryz.underlying42 cT (fa (by omega)) (by omega)) rfl ?_;refine WO.nil ?_;exact WX.aF rfl rfl (Kp.refl _)
 ·rintro vs wd kd ⟨-⟩;refine WO.bJ (fr':=[(0,.slice (some ⟨g,0,none⟩) n c)]) ⟨⟨_,rfl,rfl⟩,trivial⟩ ?_;refine WO.v (R.move rfl) rfl ?_;refine WO.nil ?_;exact WX.aF rfl rfl (Kp.refl _)
 ·rintro vs wd kd ⟨-⟩;refine WO.bJ (fr':=[(1,.int .i64 ((i:Nat):Int))]) ⟨⟨_,rfl,rfl⟩,trivial⟩ ?_;refine WO.v (R.move rfl) rfl ?_;refine WO.nil ?_;exact WX.aF rfl rfl (Kp.refl _)
 ·rintro vs wd kd ⟨e5,e6,-⟩;refine WO.bJ (fr':=[(51,.slice (some ⟨g,0,none⟩) n c),(52,.int .i64 ((i:Nat):Int))]) ⟨⟨_,rfl,e5⟩,⟨_,rfl,e6⟩,trivial⟩ ?_;refine WO.v (R.cS rfl rfl Tryz.underlying42 cT (fa (by omega)) (by omega)) rfl ?_;refine WO.nil ?_;exact WX.aF rfl rfl (Kp.refl _)
 rintro vsx w1 k1 ⟨-,-,-,-,e4,-,-,e7,-⟩;replace k1:Kp [] (W1.setRow b (cur.take (i*4)++vs++cur.drop (i*4+vs.length)).toArray) w1:=k1;refine WO.bJ (fr':=[(50,.slice (some ⟨b,(i+1)*4,none⟩) (n+1 - (i+1)) (G - (i+1))),(53,.slice (some ⟨g,i*4,none⟩) (n - i) (c - i)),(9,.slice (some ⟨b,0,none⟩) (n+1) G)]) ⟨⟨_,rfl,e4⟩,⟨_,rfl,e7⟩,⟨_,rfl,rfl⟩,trivial⟩ ?_;have hb2:w1.heap[b]? = some (.cells (List.toArray (cur.take (i*4)++vs++cur.drop (i*4+vs.length))) 137 (0,0)):=by rw [k1.block b (by simpa using eP hrow) (by simp)]; exact ad4 W1 b _ _ 137 _ hrow
 have hd2:CellsAt w1 ⟨g,i*4,none⟩ ds:=(hd.kp (Kp.setRow W1 b _) hgl (by simpa using hgb.symm)).kp k1 (by simpa using hgl) (by simp);refine WO.v (R.mz rfl rfl Tryz.underlying42 cT hb2 hn2 hd2 (by simp only [List.length_append,List.length_take,List.length_drop]; omega) h1d) rfl ?_;refine WO.nil ?_;refine WX.next ?_
 refine WC.seq ?_;refine WC.region ?_;refine WO.v (R.move rfl) rfl ?_;refine WO.v (R.assign rfl) rfl ?_;refine WO.nil ?_;refine WX.next ?_
 refine WC.ret ?_;refine WX.kZ ?_;refine WX.AN rfl rfl ?_;exact ⟨rfl,w1,k1,rfl⟩
variable {curA:Array Value} {tA:TypeId} {fA:Nat × Nat}
set_option maxRecDepth 100000 in
theorem tr {g c:Nat} (hi:i<n) (hc:n+1<=c) (hcm:c<=maxLen)
  (hrow:w.heap[g]? = some (.cells cur.toArray 137 (0,0))) (hcur:(n+1)*4<=cur.length) (hv:CellsAt w ad vs) (hvb:w.heap[ad.block]? = some (.cells curA tA fA)) (hvb0:curA.size≠0) (hne:ad.block≠g) (hvl:vs.length=4) (hd:CellsAt w ⟨g,i*4,none⟩ ds) (hdl:ds.length=(n - i)*4)
  (h1v:∀ u ∈ vs,u.oneCell' = true) (h1d:∀ u ∈ ds,u.oneCell' = true) :
  jI Tryz.prog 263 [.slice (some ⟨g,0,none⟩) n c,.int .i64 (i:Int),.slice (some ad) 1 vc].toArray w fun v w'=>v = .slice (some ⟨g,0,none⟩) (n+1) c/\∃ w1,Kp [] w w1/\w' = (w1.setRow g (cur.take ((i+1)*4)++ds++cur.drop ((i+1)*4+ds.length)).toArray).setRow g ((cur.take ((i+1)*4)++ds++cur.drop ((i+1)*4+ds.length)).take (i*4)++vs++(cur.take ((i+1)*4)++ds++cur.drop ((i+1)*4+ds.length)).drop (i*4+vs.length)).toArray:=by
 have hcm:c<=9223372036854775807:=hcm;have hn1:vs.length=Nat.min 1 (n+1 - i)*4:=by rw [show Nat.min 1 (n+1 - i)=1 from adA (by omega),Nat.one_mul]; exact hvl
 have hn2:ds.length=Nat.min (n+1 - i) (n+1 - (i+1))*4:=by rw [show Nat.min (n+1 - i) (n+1 - (i+1))=n+1 - (i+1) from ahm (by omega),hdl]; congr 1; omega
 refine jI.enter Tryz.func263 rfl rfl rfl rfl ?_;refine WC.seq ?_;refine WC.region ?_;refine WO.v (R.assign rfl) rfl ?_;refine WO.nil ?_;refine WX.next ?_
 refine WC.seq ?_;refine WC.region ?_;refine WO.v (R.move rfl) rfl ?_;refine WO.v (R.move rfl) rfl ?_;refine WO.v (R.cS rfl rfl Tryz.underlying42 cT rfl (by omega)) rfl ?_;refine WO.nil ?_;refine WX.next ?_
 refine WC.seq ?_;refine WC.region ?_;refine WO.v (R.move rfl) rfl ?_;refine WO.v (R.len rfl Tryz.underlying42) rfl ?_;refine WO.v (R.assign rfl) rfl ?_;refine WO.nil ?_;refine WX.next ?_
 refine WC.seq ?_;refine WC.seq ?_;refine WC.region ?_;refine WO.v (R.move rfl) rfl ?_;refine WO.v (R.eql rfl rfl) rfl ?_;refine WO.nil ?_;refine WX.next ?_
 refine WC.cond rfl (fun q=>absurd (ac6 q) (by omega)) (fun _=>?_);refine WC.skip ?_;refine WX.next ?_
 refine WC.seq ?_;refine WC.region ?_;refine WO.v (R.move rfl) rfl ?_;refine WO.v (R.len rfl Tryz.underlying42) rfl ?_;refine WO.v (R.assign rfl) rfl ?_;refine WO.nil ?_;refine WX.next ?_
 refine WC.seq ?_;refine WC.seq ?_;refine WC.region ?_;refine WO.v (R.move rfl) rfl ?_;refine WO.v (R.move rfl) rfl ?_;refine WO.v (R.eql rfl rfl) rfl ?_;refine WO.nil ?_;refine WX.next ?_
 refine WC.cond rfl (fun q=>absurd (ac6 q) (by omega)) (fun _=>?_);refine WC.skip ?_;refine WX.next ?_
 refine WC.seq ?_;refine WC.seq ?_;refine WC.region ?_;refine WO.v (R.move rfl) rfl ?_;refine WO.v (R.move rfl) rfl ?_;refine WO.v (R.mV rfl rfl (by omega)) rfl ?_;refine WO.v (R.move rfl) rfl ?_;refine WO.v (R.Rs rfl Tryz.underlying42) rfl ?_;refine WO.v (R.gtr rfl rfl) rfl ?_;refine WO.nil ?_;refine WX.next ?_
 refine WC.cond rfl (fun q=>absurd (ac6 q) (by omega)) (fun _=>?_);refine WC.skip ?_;refine WX.next ?_
 refine WC.seq ?_;refine WC.region ?_;refine WO.v (R.move rfl) rfl ?_;refine WO.v (R.move rfl) rfl ?_;refine WO.v (R.move rfl) rfl ?_;refine WO.v (R.mV rfl rfl (by omega)) rfl ?_;refine WO.v (R.kx rfl rfl Tryz.underlying42 cT (fa (i:=0) (by omega)) (by omega)) rfl ?_;refine WO.v (R.assign rfl) rfl ?_;refine WO.nil ?_;refine WX.next ?_
 refine WC.seq ?_;refine WC.seq ?_;refine WC.region ?_;refine WO.v (R.move rfl) rfl ?_;refine WO.v (R.move rfl) rfl ?_;refine WO.v (R.move rfl) rfl ?_;refine WO.v (R.move rfl) rfl ?_;refine WO.v (R.mV rfl rfl (by omega)) rfl ?_;refine WO.v (R.cS rfl rfl Tryz.underlying42 cT (fa (by omega)) (by omega)) rfl ?_;refine WO.v (R.ovl (tS:=42) (tR:=4) Tryz.func279 rfl rfl cd cd Tryz.underlying42 cT hne hvb hvb0 hrow rfl rfl) rfl ?_;refine WO.v (R.not rfl) rfl ?_;refine WO.nil ?_;refine WX.next ?_
 refine WC.Db rfl ?_;refine WC.seq ?_;refine WC.tY js [.ex [] (.slice (some ⟨g,0,none⟩) (n+1) c),.ex [] (.int .i64 ((i:Nat):Int)),.ex [] (.int .i64 ((1:Nat):Int)),.ex [1,2] (.int .i64 ((i+1:Nat):Int)),.ex [0,3] (.slice (some ⟨g,(i+1)*4,none⟩) (n+1 - (i+1)) (c - (i+1))),.ex [] (.slice (some ⟨g,0,none⟩) (n+1) c),.ex [] (.int .i64 ((i:Nat):Int)),.ex [5,6] (.slice (some ⟨g,i*4,none⟩) (n+1 - i) (c - i))] 8 cd ⟨fun _ _ _ h _=>h,fun _ _ _ h _=>h,fun _ _ _ h _=>h,fun _ _ _ h _=>h,fun _ _ _ h _=>h,fun _ _ _ h _=>h,fun _ _ _ h _=>h,fun _ _ _ h _=>h,trivial⟩ ⟨?_,?_,?_,?_,?_,?_,?_,?_,trivial⟩ ?_
 ·rintro vs wd kd ⟨-⟩;refine WO.bJ (fr':=[(0,.slice (some ⟨g,0,none⟩) (n+1) c)]) ⟨⟨_,rfl,rfl⟩,trivial⟩ ?_;refine WO.v (R.move rfl) rfl ?_;refine WO.nil ?_;exact WX.aF rfl rfl (Kp.refl _)
 ·rintro vs wd kd ⟨-⟩;refine WO.bJ (fr':=[(1,.int .i64 ((i:Nat):Int))]) ⟨⟨_,rfl,rfl⟩,trivial⟩ ?_;refine WO.v (R.move rfl) rfl ?_;refine WO.nil ?_;exact WX.aF rfl rfl (Kp.refl _)
 ·rintro vs wd kd ⟨-⟩;refine WO.bJ (fr':=[(7,.int .i64 ((1:Nat):Int))]) ⟨⟨_,rfl,rfl⟩,trivial⟩ ?_;refine WO.v (R.move rfl) rfl ?_;refine WO.nil ?_;exact WX.aF rfl rfl (Kp.refl _)
 ·rintro vs wd kd ⟨e1,e2,-⟩;refine WO.bJ (fr':=[(70,.int .i64 ((i:Nat):Int)),(71,.int .i64 ((1:Nat):Int))]) ⟨⟨_,rfl,e1⟩,⟨_,rfl,e2⟩,trivial⟩ ?_;refine WO.v (R.mV rfl rfl (by omega)) rfl ?_;refine WO.nil ?_;exact WX.aF rfl rfl (Kp.refl _)
 ·rintro vs wd kd ⟨e0,e3,-⟩;refine WO.bJ (fr':=[(69,.slice (some ⟨g,0,none⟩) (n+1) c),(72,.int .i64 ((i+1:Nat):Int))]) ⟨⟨_,rfl,e0⟩,⟨_,rfl,e3⟩,trivial⟩ ?_;refine WO.v (R.cS rfl rfl Tryz.underlying42 cT (fa (by omega)) (by omega)) rfl ?_;refine WO.nil ?_;exact WX.aF rfl rfl (Kp.refl _)
 ·rintro vs wd kd ⟨-⟩;refine WO.bJ (fr':=[(0,.slice (some ⟨g,0,none⟩) (n+1) c)]) ⟨⟨_,rfl,rfl⟩,trivial⟩ ?_;refine WO.v (R.move rfl) rfl ?_;refine WO.nil ?_;exact WX.aF rfl rfl (Kp.refl _)
 ·rintro vs wd kd ⟨-⟩;refine WO.bJ (fr':=[(1,.int .i64 ((i:Nat):Int))]) ⟨⟨_,rfl,rfl⟩,trivial⟩ ?_;refine WO.v (R.move rfl) rfl ?_;refine WO.nil ?_;exact WX.aF rfl rfl (Kp.refl _)
 ·rintro vs wd kd ⟨e5,e6,-⟩;refine WO.bJ (fr':=[(74,.slice (some ⟨g,0,none⟩) (n+1) c),(75,.int .i64 ((i:Nat):Int))]) ⟨⟨_,rfl,e5⟩,⟨_,rfl,e6⟩,trivial⟩ ?_;refine WO.v (R.cS rfl rfl Tryz.underlying42 cT (fa (by omega)) (by omega)) rfl ?_;refine WO.nil ?_;exact WX.aF rfl rfl (Kp.refl _)
 rintro vsx w1 k1 ⟨-,-,-,-,e4,-,-,e7,-⟩;replace k1:Kp [] w w1:=k1;refine WO.bJ (fr':=[(73,.slice (some ⟨g,(i+1)*4,none⟩) (n+1 - (i+1)) (c - (i+1))),(76,.slice (some ⟨g,i*4,none⟩) (n+1 - i) (c - i)),(0,.slice (some ⟨g,0,none⟩) (n+1) c),(1,.int .i64 ((i:Nat):Int)),(2,.slice (some ad) 1 vc)]) ⟨⟨_,rfl,e4⟩,⟨_,rfl,e7⟩,⟨_,rfl,rfl⟩,⟨_,rfl,rfl⟩,⟨_,rfl,rfl⟩,trivial⟩ ?_;have hg1:w1.heap[g]? = some (.cells (List.toArray cur) 137 (0,0)):=by rw [k1.block g (eP hrow) (by simp)]; exact hrow
 refine WO.v (R.mz rfl rfl Tryz.underlying42 cT hg1 hn2 (hd.kp k1 (eP hrow) (by simp)) (by omega) h1d) rfl ?_;refine WO.nil ?_;refine WX.next ?_
 have hg2:(w1.setRow g (cur.take ((i+1)*4)++ds++cur.drop ((i+1)*4+ds.length)).toArray).heap[g]? = some (.cells (List.toArray (cur.take ((i+1)*4)++ds++cur.drop ((i+1)*4+ds.length))) 137 (0,0)):=ad4 w1 g _ _ 137 _ hg1;have hv2:CellsAt (w1.setRow g (cur.take ((i+1)*4)++ds++cur.drop ((i+1)*4+ds.length)).toArray) ad vs:=(hv.kp k1 (eP hvb) (by simp)).kp (Kp.setRow w1 g _) (ac3 (eP hvb) k1.size) (by simpa using fun h=>hne h.symm);refine WC.seq ?_;refine WC.region ?_;refine WO.v (R.move rfl) rfl ?_;refine WO.v (R.move rfl) rfl ?_;refine WO.v (R.cS rfl rfl Tryz.underlying42 cT (fa (by omega)) (by omega)) rfl ?_;refine WO.v (R.move rfl) rfl ?_;refine WO.v (R.mz rfl rfl Tryz.underlying42 cT hg2 hn1 hv2 (by simp only [List.length_append,List.length_take,List.length_drop]; omega) h1v) rfl ?_;refine WO.nil ?_;refine WX.next ?_
 refine WC.seq ?_;refine WC.region ?_;refine WO.v (R.move rfl) rfl ?_;refine WO.v (R.assign rfl) rfl ?_;refine WO.nil ?_;refine WX.next ?_
 refine WC.ret ?_;refine WX.kZ ?_;refine WX.AN rfl rfl ?_;exact ⟨rfl,w1,k1,rfl⟩
variable {k:Nat} {bAV:AV} {ρ:List RE} {cys:List Value}
theorem zR {G:Gl} (hs:G.shp=al tyT) (hR:Rep G ρ H w) {l m:List (den (.nm .sess))} (hH:getO H 0 = .row 137 (.nm .sess) l) (hl:l.length<1048576) (hi:i<=l.length) {v0:Value} (h0:Rd (cx G ρ w) ρ (.own 0) v0)
  (hm:m.length=1) (hb:Rd (cx G ρ w) ρ bAV (.slice (some ad) 1 k)) (hbv:(bAV.vw H).fC (.nm .sess)=some m) (hv:CellsAt w ad cys) (hvl:cys.length=4) (h1v:∀ u ∈ cys,u.oneCell' = true) (hp:Pds (cx G ρ w) (m.flatMap (cellsOf (.nm .sess))) cys)
  (hne:∀ g c n z,ρ[0]? = some (.row g c n z)->ad.block≠g) (hvb:w.heap[ad.block]? = some (.cells curA tA fA)) (hvb0:curA.size≠0) :
  jI Tryz.prog 263 [v0,.int .i64 (i:Int),.slice (some ad) 1 k].toArray w fun v w'=>∃ ρ',Stp (gz 0) ρ w ρ' w' /\ Rep G ρ' ((ic (AV.kill 0) H).set 0 (.row 137 (.nm .sess) (l.take i++m++l.drop i))) w' /\ Rd (cx G ρ' w') ρ' (.own 0) v:=by
 have hT:aY Tryz.prog G.shp tyT:=hs ▸ dh;obtain ⟨hshp,hlen⟩:=dj hR hH;have hl64:l.length<=9223372036854775807:=by omega
 have hin:((l.length:Nat):Int)<=9223372036854775807:=by omega
 by_cases hie:i=l.length
 ·subst hie;have hc:∃ A c,v0 = .slice A l.length c:=by
   rcases h0 with ⟨g,cap,len,z,h1,rfl⟩ | ⟨h1,a,rfl⟩
   ·rcases bl hR hH with ⟨h2,_⟩ | ⟨g',cap',cells,sp,h2,_⟩
    ·rw [h1] at h2; cases h2
    rw [h1] at h2; cases h2; exact ⟨_,_,rfl⟩
   rcases bl hR hH with ⟨_,h2⟩ | ⟨g',cap',cells,sp,h2,_⟩
   ·subst h2; exact ⟨_,_,rfl⟩
   rw [h1] at h2; cases h2
  obtain ⟨A,c,rfl⟩:=hc;refine zl fun F x y ty hx hy=>?_;have happ:jo tyT (gz 0) ([]:AFr) H 42 (.own 0) bAV=some ⟨one (.own 0),[],(ic (AV.kill 0) H).set 0 (.row 137 (.nm .sess) (l++m)),[(l.length+m.length)*(Sh.nm NT.sess).bytes<=140737488355328],[]⟩:=by
   unfold jo;rw [show aQ tyT 42=some ⟨.sl 137 (some (.nm .sess)),1,[.em true]⟩ from by kernel_rfl];simp only [hbv,kU,hH];rfl
  obtain ⟨v,w',h1,ρ',h2,h3,_,h5,_⟩:=jD (P:=Tryz.prog) (n:=95) (F:=[]) (ty:=ty) (fr:=[]) (x:=.const (.slice A l.length c)) (y:=.const (.slice (some ad) 1 k)) hT hR .nil happ (by
   intro p hp;rw [ac2] at hp; subst hp;show (l.length+m.length)*32<=_;omega) h0 hb rfl rfl
  refine ⟨v,w',R.ES h1 hx hy,ρ',h2,?_,h5⟩;rw [List.take_length,List.drop_length,ade];exact h3
 have hlt:i<l.length:=by omega
 rcases bl hR hH with ⟨_,h2⟩ | ⟨g,cap,cells,sp,hρ,hg,hpd,hsz,hcap,hmax⟩
 ·subst h2; simp at hlt
 obtain ⟨hnb,hil,hiH⟩:=ma hR hH;have hv0:v0 = .slice (some ⟨g,0,none⟩) l.length cap:=by
  rcases h0 with ⟨g',cap',len,z,h1,rfl⟩ | ⟨h1,a,rfl⟩
  ·rw [hρ] at h1; cases h1; rfl
  rw [hρ] at h1; cases h1
 subst hv0;have hz:(Sh.nm NT.sess).size=4:=rfl;have hby:(Sh.nm NT.sess).bytes=32:=rfl;have hcl:cells.length=l.length*4:=by rw [<- hpd.length,bR,hz]
 rw [hz,List.length_append] at hsz;have hone:∀ u ∈ cells.drop (i*4),u.oneCell' = true:=fun u hu=>hpd.Lo u (ahu hu);have hd:CellsAt w ⟨g,i*4,none⟩ (cells.drop (i*4)):=by
  have:=(cc hg).shift (i*4);rwa [add_lit,ac_] at this
 have hdl:(cells.drop (i*4)).length=(l.length - i)*4:=by rw [List.length_drop,hcl]; omega
 have hgl:=eP hg;have hzl:(l.take i++m++l.drop i).length=l.length+1:=by
  rw [List.length_append,List.length_append,List.length_take,List.length_drop,hm]; omega
 have hnew:∀ {c:Cx},(cx G ρ w).le c->Pds c ((l.take i++m++l.drop i).flatMap (cellsOf (.nm .sess))) (cells.take (i*4)++cys++cells.drop (i*4)):=fun {c} hle=>by
  rw [List.flatMap_append,List.flatMap_append];exact (((bk hpd i).append hp).append (bL hpd i)).carry hle
 have hnl:(cells.take (i*4)++cys++cells.drop (i*4)).length=(l.length+1)*4:=by
  rw [List.length_append,List.length_append,List.length_take,List.length_drop,hcl,hvl]; omega
 have hbig:(l.take i++m++l.drop i).length*(Sh.nm NT.sess).bytes<=140737488355328:=by rw [hzl,hby]; omega
 -- what is shown of any way
 have fin:∀ (S:List Nat) (g2 cap2:Nat) (sp2:List Value) (w':World),Kp S w w' -> (∀ b ∈ S,b=g)->(g2=g\/w.heap.size<=g2)->w'.heap[g2]? = some (.cells (List.toArray (cells.take (i*4)++cys++cells.drop (i*4)++sp2)) 137 (0,0))->(l.length+1)*4+sp2.length=cap2*4->l.length+1<=cap2->cap2<=maxLen ->
   ∃ ρ',Stp (gz 0) ρ w ρ' w' /\ Rep G ρ' ((ic (AV.kill 0) H).set 0 (.row 137 (.nm .sess) (l.take i++m++l.drop i))) w' /\ Rd (cx G ρ' w') ρ' (.own 0) (.slice (some ⟨g2,0,none⟩) (l.length+1) cap2):=by
  intro S g2 cap2 sp2 w' hk hS hg2 hh hlen2 hle2 hmax2;obtain ⟨k1,k2,_⟩:=iX (ro:=gz 0) (s':=.nm .sess) (e':=137) (zs:=l.take i++m++l.drop i) hR hH ⟨rfl,rfl⟩ hk (fun b hb=>⟨_,hρ,by rw [hS b hb]; rfl⟩) (r':=.row g2 cap2 (l.take i++m++l.drop i).length (Sh.nm NT.sess).size) (fun b hb=>by
   cases hb;rcases hg2 with rfl | hg2
   ·exact .inl ⟨_,hρ,rfl⟩
   exact .inr ⟨hg2,eP hh⟩) (fun hle=>⟨hshp,hbig,.inr ⟨g2,cap2,_,sp2,rfl,hh,hnew hle,by rw [List.length_append,hnl,hz]; exact hlen2,by rw [hzl]; exact hle2,hmax2⟩⟩)
  exact ⟨_,k1,k2,.inl ⟨g2,cap2,_,_,adh hil,by rw [hzl]⟩⟩
 have eo:(i+1)*4=i*4+4:=by omega
 by_cases hroom:l.length+1<=cap
 ·refine (tr hlt hroom hmax hg (by rw [List.length_append]; omega) hv hvb hvb0 (hne _ _ _ _ hρ) hvl hd hdl h1v hone).mono fun v w' ⟨e1,w1,k1,e2⟩=>?_;subst e1; subst e2;rw [eo,Uf (by omega) hvl];have hk:Kp [g] w ((w1.setRow g ((cells++sp).take (i*4+4)++cells.drop (i*4)++(cells++sp).drop (i*4+4+(cells.drop (i*4)).length)).toArray).setRow g (cells.take (i*4)++cys++cells.drop (i*4)++sp.drop 4).toArray):=((k1.sub (by simp)).step (Kp.setRow w1 g _) (by simp)).step (Kp.setRow _ g _) (by simp);have hg1:w1.heap[g]? = some (.cells (List.toArray (cells++sp)) 137 (0,0)):=by rw [k1.block g hgl (by simp)]; exact hg
  exact fin [g] g cap (sp.drop 4) _ hk (by simp) (.inl rfl) (ad4 _ g _ _ 137 _ (ad4 w1 g _ _ 137 _ hg1)) (by rw [List.length_drop]; omega) hroom hmax
 obtain ⟨ti,hi0,hz0,hz1,hz2⟩:=info_parts LD;have eik:i+(l.length+1 - i)=l.length+1:=by omega
 have hge:=grownCap_ge w (l.length+1) cap 137;have hgm:=grownCap_le_maxLen w (l.length+1) cap 137 (by simp [maxLen]; omega);have hold:(Builtin.firstCells ti.size i (.slice (some ⟨g,0*4,none⟩) i cap)).run Tryz.prog w.drew = .ok (cells.take (i*4)).toArray w.drew:=by
  have h:=ahn (P:=Tryz.prog) w.drew ⟨g,0*4,none⟩ (cells.take (i*4)) (by rw [ahx]; exact (cc hg).take _);rw [List.length_take,adA (by omega)] at h;rw [hz1]; exact h
 have happ:∀ (F:Fr) (x y:Operand) (ty:TypeId),ev F x=some (.slice (some ⟨g,0*4,none⟩) i cap)->ev F y=some (.int .i64 ((l.length+1 - i:Nat):Int))->aD Tryz.prog 95 F w (.call { callee:=.builtin .append,args:=#[x,y],argTypes:=#[42,3] }) ty (.slice (some ⟨w.heap.size,0,none⟩) (l.length+1) (grownCap w (l.length+1) cap 137)) (w.drew.alloc (.cells (List.toArray (cells.take (i*4)++((Builtin.zeroCells (Value.agg #[.int .i64 0,.int .i64 0,.int .i64 0,.int .i64 0]).cells (l.length+1 - i)).toList++(Builtin.zeroCells (Value.agg #[.int .i64 0,.int .i64 0,.int .i64 0,.int .i64 0]).cells (grownCap w (l.length+1) cap 137 - (l.length+1))).toList))) 137)):=fun F x y ty hx hy=>by
  have h:=R.Z_ (P:=Tryz.prog) (n:=95) (ty:=ty) hx hy Tryz.underlying42 Tryz.underlying3 hi0 hz0 hold (by omega) (by rw [hz1]; decide) (by omega) (by omega) (by rw [hz2]; omega) (by rw [hz2,eik]; exact ahI (by omega) (by omega));rw [eik] at h;have e:∀ (a:List Value) (b c:Array Value),a.toArray++b++c=(a++(b.toList++c.toList)).toArray:=fun a b c=>by apply agt; simp
  rw [e] at h;exact h
 have hcurl:(cells.take (i*4)++((Builtin.zeroCells (Value.agg #[.int .i64 0,.int .i64 0,.int .i64 0,.int .i64 0]).cells (l.length+1 - i)).toList++(Builtin.zeroCells (Value.agg #[.int .i64 0,.int .i64 0,.int .i64 0,.int .i64 0]).cells (grownCap w (l.length+1) cap 137 - (l.length+1))).toList)).length=grownCap w (l.length+1) cap 137*4:=by
  rw [List.length_append,List.length_append,List.length_take,qS,qS];show min _ _+((l.length+1 - i)*4+(grownCap w (l.length+1) cap 137 - (l.length+1))*4)=_;omega
 have htk:(cells.take (i*4)++((Builtin.zeroCells (Value.agg #[.int .i64 0,.int .i64 0,.int .i64 0,.int .i64 0]).cells (l.length+1 - i)).toList++(Builtin.zeroCells (Value.agg #[.int .i64 0,.int .i64 0,.int .i64 0,.int .i64 0]).cells (grownCap w (l.length+1) cap 137 - (l.length+1))).toList)).take (i*4)=cells.take (i*4):=List.take_left' (by rw [List.length_take]; omega);generalize grownCap w (l.length+1) cap 137=GC at *;generalize cells.take (i*4)++((Builtin.zeroCells (Value.agg #[.int .i64 0,.int .i64 0,.int .i64 0,.int .i64 0]).cells (l.length+1 - i)).toList++(Builtin.zeroCells (Value.agg #[.int .i64 0,.int .i64 0,.int .i64 0,.int .i64 0]).cells (GC - (l.length+1))).toList)=cur at *;have hK1:Kp [] w (w.drew.alloc (.cells (List.toArray cur) 137)):=((Kp.refl w).drew).step (Kp.alloc w.drew _) (by simp);have hrow:(w.drew.alloc (.cells (List.toArray cur) 137)).heap[w.heap.size]? = some (.cells (List.toArray cur) 137 (0,0)):=agi w.drew _;generalize w.drew.alloc (.cells (List.toArray cur) 137)=W1 at *;refine (wM hlt hcap (by omega) hmax hge hgm happ hrow (by omega) (hv.kp hK1 (eP hvb) (by simp)) hvl (hd.kp hK1 hgl (by simp)) (by omega) (ac3 hgl hK1.size) hdl h1v hone).mono fun v w' ⟨e1,w1,k1,e2⟩=>?_;subst e1; subst e2;rw [eo,TY (cells:=cells) (by omega) hvl htk];have hs1:∀ b ∈ [w.heap.size],b ∈ ([]:List Nat)\/w.heap.size<=b:=fun b hb=>.inr (by rw [ac2] at hb; omega);have hk:Kp [] w (w1.setRow w.heap.size (cells.take (i*4)++cys++cells.drop (i*4)++cur.drop (i*4+4+(cells.drop (i*4)).length)).toArray):=((hK1.step (Kp.setRow W1 w.heap.size _) hs1).step k1 (by simp)).step (Kp.setRow w1 w.heap.size _) hs1;have hg1:=(k1.block w.heap.size (by simpa using eP hrow) (by simp)).trans (ad4 W1 w.heap.size _ (cur.take (i*4)++cys++cur.drop (i*4+cys.length)).toArray 137 _ hrow);exact fin [] w.heap.size GC _ _ hk (by simp) (.inr (ac5 _)) (ad4 w1 w.heap.size _ _ 137 _ hg1) (by rw [List.length_drop]; omega) hge hgm
theorem vK (i:Int) (l m:List (den (.nm .sess))) (h:0<=i/\i<=(l.length:Int)) (hl:l.length<1048576) (hm:m.length=1):Sat Tryz.prog (al tyT) 263 [.c (.own 0),.c (.int i),.c (.own 1)] [.row 137 (.nm .sess) l,.row 137 (.nm .sess) m] ⟨[0<=i/\i<=(l.length:Int),l.length<1048576,m.length=1],[.c (.own 0)],some [.row 137 (.nm .sess) (l.take i.toNat++m++l.drop i.toNat),.row 137 (.nm .sess) m],false⟩:=by
 refine ⟨⟨_,Tryz.func263,by decide,rfl⟩,fun G ρ w vs hs hR hvs=>?_⟩;obtain ⟨i,rfl⟩:=ab9 h.1;cases hvs with | cons h0 hvs=>
 cases hvs with | cons h1 hvs=>
 cases hvs with | cons h2 hvs=>
 cases hvs;have h1:Pd (cx G ρ w) (.int (i:Int)) _:=h1;cases h1;have h0:Rd (cx G ρ w) ρ (.own 0) _:=h0;have h2:Rd (cx G ρ w) ρ (.own 1) _:=h2;have hH:getO [AO.row 137 (.nm .sess) l,.row 137 (.nm .sess) m] 0 = .row 137 (.nm .sess) l:=rfl;have hbv:(AV.vw [AO.row 137 (.nm .sess) l,.row 137 (.nm .sess) m] (.own 1)).fC (.nm .sess)=some m:=by simp [AV.vw,AV.fC,getO]
 obtain ⟨A,k,cys,rfl,s1,s2,s3,s4⟩:=mw hR hbv h2;rw [hm] at h2 s1 s3;rw [hm];obtain ⟨ad,rfl,s5⟩:∃ ad,A=some ad/\CellsAt w ad cys:=s3.resolve_left (by decide);have hz:(Sh.nm NT.sess).size=4:=rfl;rw [hz] at s1;obtain ⟨u,hu⟩:∃ u,cys[0]? = some u:=⟨_,List.getElem?_eq_getElem (by omega)⟩;obtain ⟨cur,t,f,hc,hc0⟩:=uT (s5 0 u hu);have hne:∀ g c n z,ρ[0]? = some (.row g c n z)->ad.block≠g:=fun g c n z hg e=>by
  rcases h2 with ⟨g',cap',len,z',h3,h4⟩ | ⟨h3,a,h4⟩
  ·cases h4;have:=hR.inj 0 1 _ _ g hg h3 rfl (by rw [<- e]; rfl);omega
  cases h4
 rw [fN] at hc;refine (zR hs hR hH hl (by omega) h0 hm h2 hbv s5 s1 s2 s4 hne hc hc0).mono fun v w' ⟨ρ',k1,k2,k3⟩=>?_;exact ⟨[v],rfl,ρ',k2,k1.ext,k1.bx,.cons k3 .nil,fun hb=>by cases hb⟩
theorem c_:(Tryz.prog.info? 139).map (·.size)=some 2:=cd
theorem E_:(Tryz.prog.info? 139).map (fun i=>(i.zero,i.size,i.bytes))=some (some (.agg #[.int .i64 0,.int .i64 0]),2,16):=cd
set_option maxRecDepth 100000 in
theorem Cg {c:Nat} (happ:∀ (F:Fr) (x y:Operand) (ty:TypeId),ev F x=some (.slice A n c)->ev F y=some (.slice B 1 vc)->∃ v2 w2,aD Tryz.prog 95 F w (.call { callee:=.builtin .append,args:=#[x,y],argTypes:=#[43,43] }) ty v2 w2/\φ v2 w2) :
  jI Tryz.prog 341 [.slice A n c,.int .i64 (n:Int),.slice B 1 vc].toArray w φ:=by
 refine jI.enter Tryz.func341 rfl rfl rfl rfl ?_;refine WC.seq ?_;refine WC.region ?_;refine WO.v (R.assign rfl) rfl ?_;refine WO.nil ?_;refine WX.next ?_
 refine WC.seq ?_;refine WC.region ?_;refine WO.v (R.move rfl) rfl ?_;refine WO.v (R.move rfl) rfl ?_;refine WO.v (R.cS rfl rfl Tryz.underlying43 c_ rfl (by omega)) rfl ?_;refine WO.nil ?_;refine WX.next ?_
 refine WC.seq ?_;refine WC.region ?_;refine WO.v (R.move rfl) rfl ?_;refine WO.v (R.len rfl Tryz.underlying43) rfl ?_;refine WO.v (R.assign rfl) rfl ?_;refine WO.nil ?_;refine WX.next ?_
 refine WC.seq ?_;refine WC.seq ?_;refine WC.region ?_;refine WO.v (R.move rfl) rfl ?_;refine WO.v (R.eql rfl rfl) rfl ?_;refine WO.nil ?_;refine WX.next ?_
 refine WC.cond rfl (fun q=>absurd (ac6 q) (by omega)) (fun _=>?_);refine WC.skip ?_;refine WX.next ?_
 refine WC.seq ?_;refine WC.region ?_;refine WO.v (R.move rfl) rfl ?_;refine WO.v (R.len rfl Tryz.underlying43) rfl ?_;refine WO.v (R.assign rfl) rfl ?_;refine WO.nil ?_;refine WX.next ?_
 refine WC.seq ?_;refine WC.seq ?_;refine WC.region ?_;refine WO.v (R.move rfl) rfl ?_;refine WO.v (R.move rfl) rfl ?_;refine WO.v (R.eql rfl rfl) rfl ?_;refine WO.nil ?_;refine WX.next ?_
 refine WC.cond rfl (fun _=>?_) (fun q=>absurd rfl (ahg q));refine WC.seq ?_;refine WC.region ?_;refine WO.v (R.move rfl) rfl ?_;refine WO.v (R.move rfl) rfl ?_;refine WO.ve (happ _ _ _ _ rfl rfl) rfl fun v2 w2 hv2=>?_;refine WO.v (R.assign rfl) rfl ?_;refine WO.nil ?_;refine WX.next ?_
 refine WC.ret ?_;refine WX.kZ ?_;refine WX.AN rfl rfl ?_;exact hv2
set_option maxRecDepth 100000 in
theorem xM {g c:Nat} (hi:i<n) (hnc:n<=c) (hc:c<n+1) (hcm:c<=maxLen) (hG:n+1<=G) (hGm:G<=maxLen)
  (happ:∀ (F:Fr) (x y:Operand) (ty:TypeId),ev F x=some (.slice (some ⟨g,0*2,none⟩) i c)->ev F y=some (.int .i64 ((n+1 - i:Nat):Int))->aD Tryz.prog 95 F w (.call { callee:=.builtin .append,args:=#[x,y],argTypes:=#[43,3] }) ty (.slice (some ⟨b,0,none⟩) (n+1) G) W1)
  (hrow:W1.heap[b]? = some (.cells cur.toArray 139 (0,0))) (hcur:(n+1)*2<=cur.length) (hv:CellsAt W1 ad vs) (hvl:vs.length=2) (hd:CellsAt W1 ⟨g,i*2,none⟩ ds) (hgb:g≠b) (hgl:g<W1.heap.size) (hdl:ds.length=(n - i)*2)
  (h1v:∀ u ∈ vs,u.oneCell' = true) (h1d:∀ u ∈ ds,u.oneCell' = true) :
  jI Tryz.prog 341 [.slice (some ⟨g,0,none⟩) n c,.int .i64 (i:Int),.slice (some ad) 1 vc].toArray w fun v w'=>v = .slice (some ⟨b,0,none⟩) (n+1) G/\∃ w1,Kp [] (W1.setRow b (cur.take (i*2)++vs++cur.drop (i*2+vs.length)).toArray) w1/\w' = w1.setRow b ((cur.take (i*2)++vs++cur.drop (i*2+vs.length)).take ((i+1)*2)++ds++(cur.take (i*2)++vs++cur.drop (i*2+vs.length)).drop ((i+1)*2+ds.length)).toArray:=by
 have hGm:G<=9223372036854775807:=hGm;have hcm:c<=9223372036854775807:=hcm;have hn1:vs.length=Nat.min 1 (n+1 - i)*2:=by rw [show Nat.min 1 (n+1 - i)=1 from adA (by omega),Nat.one_mul]; exact hvl
 have hn2:ds.length=Nat.min (n - i) (n+1 - (i+1))*2:=by rw [show Nat.min (n - i) (n+1 - (i+1))=n - i from adA (by omega)]; exact hdl
 refine jI.enter Tryz.func341 rfl rfl rfl rfl ?_;refine WC.seq ?_;refine WC.region ?_;refine WO.v (R.assign rfl) rfl ?_;refine WO.nil ?_;refine WX.next ?_
 refine WC.seq ?_;refine WC.region ?_;refine WO.v (R.move rfl) rfl ?_;refine WO.v (R.move rfl) rfl ?_;refine WO.v (R.cS rfl rfl Tryz.underlying43 c_ rfl (by omega)) rfl ?_;refine WO.nil ?_;refine WX.next ?_
 refine WC.seq ?_;refine WC.region ?_;refine WO.v (R.move rfl) rfl ?_;refine WO.v (R.len rfl Tryz.underlying43) rfl ?_;refine WO.v (R.assign rfl) rfl ?_;refine WO.nil ?_;refine WX.next ?_
 refine WC.seq ?_;refine WC.seq ?_;refine WC.region ?_;refine WO.v (R.move rfl) rfl ?_;refine WO.v (R.eql rfl rfl) rfl ?_;refine WO.nil ?_;refine WX.next ?_
 refine WC.cond rfl (fun q=>absurd (ac6 q) (by omega)) (fun _=>?_);refine WC.skip ?_;refine WX.next ?_
 refine WC.seq ?_;refine WC.region ?_;refine WO.v (R.move rfl) rfl ?_;refine WO.v (R.len rfl Tryz.underlying43) rfl ?_;refine WO.v (R.assign rfl) rfl ?_;refine WO.nil ?_;refine WX.next ?_
 refine WC.seq ?_;refine WC.seq ?_;refine WC.region ?_;refine WO.v (R.move rfl) rfl ?_;refine WO.v (R.move rfl) rfl ?_;refine WO.v (R.eql rfl rfl) rfl ?_;refine WO.nil ?_;refine WX.next ?_
 refine WC.cond rfl (fun q=>absurd (ac6 q) (by omega)) (fun _=>?_);refine WC.skip ?_;refine WX.next ?_
 refine WC.seq ?_;refine WC.seq ?_;refine WC.region ?_;refine WO.v (R.move rfl) rfl ?_;refine WO.v (R.move rfl) rfl ?_;refine WO.v (R.mV rfl rfl (by omega)) rfl ?_;refine WO.v (R.move rfl) rfl ?_;refine WO.v (R.Rs rfl Tryz.underlying43) rfl ?_;refine WO.v (R.gtr rfl rfl) rfl ?_;refine WO.nil ?_;refine WX.next ?_
 refine WC.cond rfl (fun _=>?_) (fun q=>absurd (by omega) (ahg q));refine WC.seq ?_;refine WC.region ?_;refine WO.v (R.move rfl) rfl ?_;refine WO.v (R.move rfl) rfl ?_;refine WO.v (R.kx rfl rfl Tryz.underlying43 c_ (fa (i:=0) (by omega)) (by omega)) rfl ?_;refine WO.v (R.move rfl) rfl ?_;refine WO.v (R.move rfl) rfl ?_;refine WO.v (R.mV rfl rfl (by omega)) rfl ?_;refine WO.v (R.move rfl) rfl ?_;refine WO.v (R.abX rfl rfl (by omega) (by omega)) rfl ?_;refine WO.v (happ _ _ _ _ rfl rfl) rfl ?_;refine WO.v (R.assign rfl) rfl ?_;refine WO.nil ?_;refine WX.next ?_
 refine WC.seq ?_;refine WC.region ?_;refine WO.v (R.move rfl) rfl ?_;refine WO.v (R.move rfl) rfl ?_;refine WO.v (R.cS rfl rfl Tryz.underlying43 c_ (fa (by omega)) (by omega)) rfl ?_;refine WO.v (R.move rfl) rfl ?_;refine WO.v (R.mz rfl rfl Tryz.underlying43 c_ hrow hn1 hv (by omega) h1v) rfl ?_;refine WO.nil ?_;refine WX.next ?_
 refine WC.seq ?_;refine WC.tY js [.ex [] (.slice (some ⟨b,0,none⟩) (n+1) G),.ex [] (.int .i64 ((i:Nat):Int)),.ex [] (.int .i64 ((1:Nat):Int)),.ex [1,2] (.int .i64 ((i+1:Nat):Int)),.ex [0,3] (.slice (some ⟨b,(i+1)*2,none⟩) (n+1 - (i+1)) (G - (i+1))),.ex [] (.slice (some ⟨g,0,none⟩) n c),.ex [] (.int .i64 ((i:Nat):Int)),.ex [5,6] (.slice (some ⟨g,i*2,none⟩) (n - i) (c - i))] 8 cd ⟨fun _ _ _ h _=>h,fun _ _ _ h _=>h,fun _ _ _ h _=>h,fun _ _ _ h _=>h,fun _ _ _ h _=>h,fun _ _ _ h _=>h,fun _ _ _ h _=>h,fun _ _ _ h _=>h,trivial⟩ ⟨?_,?_,?_,?_,?_,?_,?_,?_,trivial⟩ ?_
 ·rintro vs wd kd ⟨-⟩;refine WO.bJ (fr':=[(9,.slice (some ⟨b,0,none⟩) (n+1) G)]) ⟨⟨_,rfl,rfl⟩,trivial⟩ ?_;refine WO.v (R.move rfl) rfl ?_;refine WO.nil ?_;exact WX.aF rfl rfl (Kp.refl _)
 ·rintro vs wd kd ⟨-⟩;refine WO.bJ (fr':=[(1,.int .i64 ((i:Nat):Int))]) ⟨⟨_,rfl,rfl⟩,trivial⟩ ?_;refine WO.v (R.move rfl) rfl ?_;refine WO.nil ?_;exact WX.aF rfl rfl (Kp.refl _)
 ·rintro vs wd kd ⟨-⟩;refine WO.bJ (fr':=[(7,.int .i64 ((1:Nat):Int))]) ⟨⟨_,rfl,rfl⟩,trivial⟩ ?_;refine WO.v (R.move rfl) rfl ?_;refine WO.nil ?_;exact WX.aF rfl rfl (Kp.refl _)
 ·rintro vs wd kd ⟨e1,e2,-⟩;refine WO.bJ (fr':=[(47,.int .i64 ((i:Nat):Int)),(48,.int .i64 ((1:Nat):Int))]) ⟨⟨_,rfl,e1⟩,⟨_,rfl,e2⟩,trivial⟩ ?_;refine WO.v (R.mV rfl rfl (by omega)) rfl ?_;refine WO.nil ?_;exact WX.aF rfl rfl (Kp.refl _)
 ·rintro vs wd kd ⟨e0,e3,-⟩;refine WO.bJ (fr':=[(46,.slice (some ⟨b,0,none⟩) (n+1) G),(49,.int .i64 ((i+1:Nat):Int))]) ⟨⟨_,rfl,e0⟩,⟨_,rfl,e3⟩,trivial⟩ ?_;refine WO.v (R.cS rfl rfl Tryz.underlying43 c_ (fa (by omega)) (by omega)) rfl ?_;refine WO.nil ?_;exact WX.aF rfl rfl (Kp.refl _)
 ·rintro vs wd kd ⟨-⟩;refine WO.bJ (fr':=[(0,.slice (some ⟨g,0,none⟩) n c)]) ⟨⟨_,rfl,rfl⟩,trivial⟩ ?_;refine WO.v (R.move rfl) rfl ?_;refine WO.nil ?_;exact WX.aF rfl rfl (Kp.refl _)
 ·rintro vs wd kd ⟨-⟩;refine WO.bJ (fr':=[(1,.int .i64 ((i:Nat):Int))]) ⟨⟨_,rfl,rfl⟩,trivial⟩ ?_;refine WO.v (R.move rfl) rfl ?_;refine WO.nil ?_;exact WX.aF rfl rfl (Kp.refl _)
 ·rintro vs wd kd ⟨e5,e6,-⟩;refine WO.bJ (fr':=[(51,.slice (some ⟨g,0,none⟩) n c),(52,.int .i64 ((i:Nat):Int))]) ⟨⟨_,rfl,e5⟩,⟨_,rfl,e6⟩,trivial⟩ ?_;refine WO.v (R.cS rfl rfl Tryz.underlying43 c_ (fa (by omega)) (by omega)) rfl ?_;refine WO.nil ?_;exact WX.aF rfl rfl (Kp.refl _)
 rintro vsx w1 k1 ⟨-,-,-,-,e4,-,-,e7,-⟩;replace k1:Kp [] (W1.setRow b (cur.take (i*2)++vs++cur.drop (i*2+vs.length)).toArray) w1:=k1;refine WO.bJ (fr':=[(50,.slice (some ⟨b,(i+1)*2,none⟩) (n+1 - (i+1)) (G - (i+1))),(53,.slice (some ⟨g,i*2,none⟩) (n - i) (c - i)),(9,.slice (some ⟨b,0,none⟩) (n+1) G)]) ⟨⟨_,rfl,e4⟩,⟨_,rfl,e7⟩,⟨_,rfl,rfl⟩,trivial⟩ ?_;have hb2:w1.heap[b]? = some (.cells (List.toArray (cur.take (i*2)++vs++cur.drop (i*2+vs.length))) 139 (0,0)):=by rw [k1.block b (by simpa using eP hrow) (by simp)]; exact ad4 W1 b _ _ 139 _ hrow
 have hd2:CellsAt w1 ⟨g,i*2,none⟩ ds:=(hd.kp (Kp.setRow W1 b _) hgl (by simpa using hgb.symm)).kp k1 (by simpa using hgl) (by simp);refine WO.v (R.mz rfl rfl Tryz.underlying43 c_ hb2 hn2 hd2 (by simp only [List.length_append,List.length_take,List.length_drop]; omega) h1d) rfl ?_;refine WO.nil ?_;refine WX.next ?_
 refine WC.seq ?_;refine WC.region ?_;refine WO.v (R.move rfl) rfl ?_;refine WO.v (R.assign rfl) rfl ?_;refine WO.nil ?_;refine WX.next ?_
 refine WC.ret ?_;refine WX.kZ ?_;refine WX.AN rfl rfl ?_;exact ⟨rfl,w1,k1,rfl⟩
set_option maxRecDepth 100000 in
theorem vQ {g c:Nat} (hi:i<n) (hc:n+1<=c) (hcm:c<=maxLen)
  (hrow:w.heap[g]? = some (.cells cur.toArray 139 (0,0))) (hcur:(n+1)*2<=cur.length) (hv:CellsAt w ad vs) (hvb:w.heap[ad.block]? = some (.cells curA tA fA)) (hvb0:curA.size≠0) (hne:ad.block≠g) (hvl:vs.length=2) (hd:CellsAt w ⟨g,i*2,none⟩ ds) (hdl:ds.length=(n - i)*2)
  (h1v:∀ u ∈ vs,u.oneCell' = true) (h1d:∀ u ∈ ds,u.oneCell' = true) :
  jI Tryz.prog 341 [.slice (some ⟨g,0,none⟩) n c,.int .i64 (i:Int),.slice (some ad) 1 vc].toArray w fun v w'=>v = .slice (some ⟨g,0,none⟩) (n+1) c/\∃ w1,Kp [] w w1/\w' = (w1.setRow g (cur.take ((i+1)*2)++ds++cur.drop ((i+1)*2+ds.length)).toArray).setRow g ((cur.take ((i+1)*2)++ds++cur.drop ((i+1)*2+ds.length)).take (i*2)++vs++(cur.take ((i+1)*2)++ds++cur.drop ((i+1)*2+ds.length)).drop (i*2+vs.length)).toArray:=by
 have hcm:c<=9223372036854775807:=hcm;have hn1:vs.length=Nat.min 1 (n+1 - i)*2:=by rw [show Nat.min 1 (n+1 - i)=1 from adA (by omega),Nat.one_mul]; exact hvl
 have hn2:ds.length=Nat.min (n+1 - i) (n+1 - (i+1))*2:=by rw [show Nat.min (n+1 - i) (n+1 - (i+1))=n+1 - (i+1) from ahm (by omega),hdl]; congr 1; omega
 refine jI.enter Tryz.func341 rfl rfl rfl rfl ?_;refine WC.seq ?_;refine WC.region ?_;refine WO.v (R.assign rfl) rfl ?_;refine WO.nil ?_;refine WX.next ?_
 refine WC.seq ?_;refine WC.region ?_;refine WO.v (R.move rfl) rfl ?_;refine WO.v (R.move rfl) rfl ?_;refine WO.v (R.cS rfl rfl Tryz.underlying43 c_ rfl (by omega)) rfl ?_;refine WO.nil ?_;refine WX.next ?_
 refine WC.seq ?_;refine WC.region ?_;refine WO.v (R.move rfl) rfl ?_;refine WO.v (R.len rfl Tryz.underlying43) rfl ?_;refine WO.v (R.assign rfl) rfl ?_;refine WO.nil ?_;refine WX.next ?_
 refine WC.seq ?_;refine WC.seq ?_;refine WC.region ?_;refine WO.v (R.move rfl) rfl ?_;refine WO.v (R.eql rfl rfl) rfl ?_;refine WO.nil ?_;refine WX.next ?_
 refine WC.cond rfl (fun q=>absurd (ac6 q) (by omega)) (fun _=>?_);refine WC.skip ?_;refine WX.next ?_
 refine WC.seq ?_;refine WC.region ?_;refine WO.v (R.move rfl) rfl ?_;refine WO.v (R.len rfl Tryz.underlying43) rfl ?_;refine WO.v (R.assign rfl) rfl ?_;refine WO.nil ?_;refine WX.next ?_
 refine WC.seq ?_;refine WC.seq ?_;refine WC.region ?_;refine WO.v (R.move rfl) rfl ?_;refine WO.v (R.move rfl) rfl ?_;refine WO.v (R.eql rfl rfl) rfl ?_;refine WO.nil ?_;refine WX.next ?_
 refine WC.cond rfl (fun q=>absurd (ac6 q) (by omega)) (fun _=>?_);refine WC.skip ?_;refine WX.next ?_
 refine WC.seq ?_;refine WC.seq ?_;refine WC.region ?_;refine WO.v (R.move rfl) rfl ?_;refine WO.v (R.move rfl) rfl ?_;refine WO.v (R.mV rfl rfl (by omega)) rfl ?_;refine WO.v (R.move rfl) rfl ?_;refine WO.v (R.Rs rfl Tryz.underlying43) rfl ?_;refine WO.v (R.gtr rfl rfl) rfl ?_;refine WO.nil ?_;refine WX.next ?_
 refine WC.cond rfl (fun q=>absurd (ac6 q) (by omega)) (fun _=>?_);refine WC.skip ?_;refine WX.next ?_
 refine WC.seq ?_;refine WC.region ?_;refine WO.v (R.move rfl) rfl ?_;refine WO.v (R.move rfl) rfl ?_;refine WO.v (R.move rfl) rfl ?_;refine WO.v (R.mV rfl rfl (by omega)) rfl ?_;refine WO.v (R.kx rfl rfl Tryz.underlying43 c_ (fa (i:=0) (by omega)) (by omega)) rfl ?_;refine WO.v (R.assign rfl) rfl ?_;refine WO.nil ?_;refine WX.next ?_
 refine WC.seq ?_;refine WC.seq ?_;refine WC.region ?_;refine WO.v (R.move rfl) rfl ?_;refine WO.v (R.move rfl) rfl ?_;refine WO.v (R.move rfl) rfl ?_;refine WO.v (R.move rfl) rfl ?_;refine WO.v (R.mV rfl rfl (by omega)) rfl ?_;refine WO.v (R.cS rfl rfl Tryz.underlying43 c_ (fa (by omega)) (by omega)) rfl ?_;refine WO.v (R.ovl (tS:=43) (tR:=4) Tryz.func358 rfl rfl cd cd Tryz.underlying43 c_ hne hvb hvb0 hrow rfl rfl) rfl ?_;refine WO.v (R.not rfl) rfl ?_;refine WO.nil ?_;refine WX.next ?_
 refine WC.Db rfl ?_;refine WC.seq ?_;refine WC.tY js [.ex [] (.slice (some ⟨g,0,none⟩) (n+1) c),.ex [] (.int .i64 ((i:Nat):Int)),.ex [] (.int .i64 ((1:Nat):Int)),.ex [1,2] (.int .i64 ((i+1:Nat):Int)),.ex [0,3] (.slice (some ⟨g,(i+1)*2,none⟩) (n+1 - (i+1)) (c - (i+1))),.ex [] (.slice (some ⟨g,0,none⟩) (n+1) c),.ex [] (.int .i64 ((i:Nat):Int)),.ex [5,6] (.slice (some ⟨g,i*2,none⟩) (n+1 - i) (c - i))] 8 cd ⟨fun _ _ _ h _=>h,fun _ _ _ h _=>h,fun _ _ _ h _=>h,fun _ _ _ h _=>h,fun _ _ _ h _=>h,fun _ _ _ h _=>h,fun _ _ _ h _=>h,fun _ _ _ h _=>h,trivial⟩ ⟨?_,?_,?_,?_,?_,?_,?_,?_,trivial⟩ ?_
 ·rintro vs wd kd ⟨-⟩;refine WO.bJ (fr':=[(0,.slice (some ⟨g,0,none⟩) (n+1) c)]) ⟨⟨_,rfl,rfl⟩,trivial⟩ ?_;refine WO.v (R.move rfl) rfl ?_;refine WO.nil ?_;exact WX.aF rfl rfl (Kp.refl _)
 ·rintro vs wd kd ⟨-⟩;refine WO.bJ (fr':=[(1,.int .i64 ((i:Nat):Int))]) ⟨⟨_,rfl,rfl⟩,trivial⟩ ?_;refine WO.v (R.move rfl) rfl ?_;refine WO.nil ?_;exact WX.aF rfl rfl (Kp.refl _)
 ·rintro vs wd kd ⟨-⟩;refine WO.bJ (fr':=[(7,.int .i64 ((1:Nat):Int))]) ⟨⟨_,rfl,rfl⟩,trivial⟩ ?_;refine WO.v (R.move rfl) rfl ?_;refine WO.nil ?_;exact WX.aF rfl rfl (Kp.refl _)
 ·rintro vs wd kd ⟨e1,e2,-⟩;refine WO.bJ (fr':=[(70,.int .i64 ((i:Nat):Int)),(71,.int .i64 ((1:Nat):Int))]) ⟨⟨_,rfl,e1⟩,⟨_,rfl,e2⟩,trivial⟩ ?_;refine WO.v (R.mV rfl rfl (by omega)) rfl ?_;refine WO.nil ?_;exact WX.aF rfl rfl (Kp.refl _)
 ·rintro vs wd kd ⟨e0,e3,-⟩;refine WO.bJ (fr':=[(69,.slice (some ⟨g,0,none⟩) (n+1) c),(72,.int .i64 ((i+1:Nat):Int))]) ⟨⟨_,rfl,e0⟩,⟨_,rfl,e3⟩,trivial⟩ ?_;refine WO.v (R.cS rfl rfl Tryz.underlying43 c_ (fa (by omega)) (by omega)) rfl ?_;refine WO.nil ?_;exact WX.aF rfl rfl (Kp.refl _)
 ·rintro vs wd kd ⟨-⟩;refine WO.bJ (fr':=[(0,.slice (some ⟨g,0,none⟩) (n+1) c)]) ⟨⟨_,rfl,rfl⟩,trivial⟩ ?_;refine WO.v (R.move rfl) rfl ?_;refine WO.nil ?_;exact WX.aF rfl rfl (Kp.refl _)
 ·rintro vs wd kd ⟨-⟩;refine WO.bJ (fr':=[(1,.int .i64 ((i:Nat):Int))]) ⟨⟨_,rfl,rfl⟩,trivial⟩ ?_;refine WO.v (R.move rfl) rfl ?_;refine WO.nil ?_;exact WX.aF rfl rfl (Kp.refl _)
 ·rintro vs wd kd ⟨e5,e6,-⟩;refine WO.bJ (fr':=[(74,.slice (some ⟨g,0,none⟩) (n+1) c),(75,.int .i64 ((i:Nat):Int))]) ⟨⟨_,rfl,e5⟩,⟨_,rfl,e6⟩,trivial⟩ ?_;refine WO.v (R.cS rfl rfl Tryz.underlying43 c_ (fa (by omega)) (by omega)) rfl ?_;refine WO.nil ?_;exact WX.aF rfl rfl (Kp.refl _)
 rintro vsx w1 k1 ⟨-,-,-,-,e4,-,-,e7,-⟩;replace k1:Kp [] w w1:=k1;refine WO.bJ (fr':=[(73,.slice (some ⟨g,(i+1)*2,none⟩) (n+1 - (i+1)) (c - (i+1))),(76,.slice (some ⟨g,i*2,none⟩) (n+1 - i) (c - i)),(0,.slice (some ⟨g,0,none⟩) (n+1) c),(1,.int .i64 ((i:Nat):Int)),(2,.slice (some ad) 1 vc)]) ⟨⟨_,rfl,e4⟩,⟨_,rfl,e7⟩,⟨_,rfl,rfl⟩,⟨_,rfl,rfl⟩,⟨_,rfl,rfl⟩,trivial⟩ ?_;have hg1:w1.heap[g]? = some (.cells (List.toArray cur) 139 (0,0)):=by rw [k1.block g (eP hrow) (by simp)]; exact hrow
 refine WO.v (R.mz rfl rfl Tryz.underlying43 c_ hg1 hn2 (hd.kp k1 (eP hrow) (by simp)) (by omega) h1d) rfl ?_;refine WO.nil ?_;refine WX.next ?_
 have hg2:(w1.setRow g (cur.take ((i+1)*2)++ds++cur.drop ((i+1)*2+ds.length)).toArray).heap[g]? = some (.cells (List.toArray (cur.take ((i+1)*2)++ds++cur.drop ((i+1)*2+ds.length))) 139 (0,0)):=ad4 w1 g _ _ 139 _ hg1;have hv2:CellsAt (w1.setRow g (cur.take ((i+1)*2)++ds++cur.drop ((i+1)*2+ds.length)).toArray) ad vs:=(hv.kp k1 (eP hvb) (by simp)).kp (Kp.setRow w1 g _) (ac3 (eP hvb) k1.size) (by simpa using fun h=>hne h.symm);refine WC.seq ?_;refine WC.region ?_;refine WO.v (R.move rfl) rfl ?_;refine WO.v (R.move rfl) rfl ?_;refine WO.v (R.cS rfl rfl Tryz.underlying43 c_ (fa (by omega)) (by omega)) rfl ?_;refine WO.v (R.move rfl) rfl ?_;refine WO.v (R.mz rfl rfl Tryz.underlying43 c_ hg2 hn1 hv2 (by simp only [List.length_append,List.length_take,List.length_drop]; omega) h1v) rfl ?_;refine WO.nil ?_;refine WX.next ?_
 refine WC.seq ?_;refine WC.region ?_;refine WO.v (R.move rfl) rfl ?_;refine WO.v (R.assign rfl) rfl ?_;refine WO.nil ?_;refine WX.next ?_
 refine WC.ret ?_;refine WX.kZ ?_;refine WX.AN rfl rfl ?_;exact ⟨rfl,w1,k1,rfl⟩
theorem Bk {G:Gl} (hs:G.shp=al tyT) (hR:Rep G ρ H w) {l m:List (den (.nm .opn))} (hH:getO H 0 = .row 139 (.nm .opn) l) (hl:l.length<1048576) (hi:i<=l.length) {v0:Value} (h0:Rd (cx G ρ w) ρ (.own 0) v0)
  (hm:m.length=1) (hb:Rd (cx G ρ w) ρ bAV (.slice (some ad) 1 k)) (hbv:(bAV.vw H).fC (.nm .opn)=some m) (hv:CellsAt w ad cys) (hvl:cys.length=2) (h1v:∀ u ∈ cys,u.oneCell' = true) (hp:Pds (cx G ρ w) (m.flatMap (cellsOf (.nm .opn))) cys)
  (hne:∀ g c n z,ρ[0]? = some (.row g c n z)->ad.block≠g) (hvb:w.heap[ad.block]? = some (.cells curA tA fA)) (hvb0:curA.size≠0) :
  jI Tryz.prog 341 [v0,.int .i64 (i:Int),.slice (some ad) 1 k].toArray w fun v w'=>∃ ρ',Stp (gz 0) ρ w ρ' w' /\ Rep G ρ' ((ic (AV.kill 0) H).set 0 (.row 139 (.nm .opn) (l.take i++m++l.drop i))) w' /\ Rd (cx G ρ' w') ρ' (.own 0) v:=by
 have hT:aY Tryz.prog G.shp tyT:=hs ▸ dh;obtain ⟨hshp,hlen⟩:=dj hR hH;have hl64:l.length<=9223372036854775807:=by omega
 have hin:((l.length:Nat):Int)<=9223372036854775807:=by omega
 by_cases hie:i=l.length
 ·subst hie;have hc:∃ A c,v0 = .slice A l.length c:=by
   rcases h0 with ⟨g,cap,len,z,h1,rfl⟩ | ⟨h1,a,rfl⟩
   ·rcases bl hR hH with ⟨h2,_⟩ | ⟨g',cap',cells,sp,h2,_⟩
    ·rw [h1] at h2; cases h2
    rw [h1] at h2; cases h2; exact ⟨_,_,rfl⟩
   rcases bl hR hH with ⟨_,h2⟩ | ⟨g',cap',cells,sp,h2,_⟩
   ·subst h2; exact ⟨_,_,rfl⟩
   rw [h1] at h2; cases h2
  obtain ⟨A,c,rfl⟩:=hc;refine Cg fun F x y ty hx hy=>?_;have happ:jo tyT (gz 0) ([]:AFr) H 43 (.own 0) bAV=some ⟨one (.own 0),[],(ic (AV.kill 0) H).set 0 (.row 139 (.nm .opn) (l++m)),[(l.length+m.length)*(Sh.nm NT.opn).bytes<=140737488355328],[]⟩:=by
   unfold jo;rw [show aQ tyT 43=some ⟨.sl 139 (some (.nm .opn)),1,[.em true]⟩ from by kernel_rfl];simp only [hbv,kU,hH];rfl
  obtain ⟨v,w',h1,ρ',h2,h3,_,h5,_⟩:=jD (P:=Tryz.prog) (n:=95) (F:=[]) (ty:=ty) (fr:=[]) (x:=.const (.slice A l.length c)) (y:=.const (.slice (some ad) 1 k)) hT hR .nil happ (by
   intro p hp;rw [ac2] at hp; subst hp;show (l.length+m.length)*16<=_;omega) h0 hb rfl rfl
  refine ⟨v,w',R.ES h1 hx hy,ρ',h2,?_,h5⟩;rw [List.take_length,List.drop_length,ade];exact h3
 have hlt:i<l.length:=by omega
 rcases bl hR hH with ⟨_,h2⟩ | ⟨g,cap,cells,sp,hρ,hg,hpd,hsz,hcap,hmax⟩
 ·subst h2; simp at hlt
 obtain ⟨hnb,hil,hiH⟩:=ma hR hH;have hv0:v0 = .slice (some ⟨g,0,none⟩) l.length cap:=by
  rcases h0 with ⟨g',cap',len,z,h1,rfl⟩ | ⟨h1,a,rfl⟩
  ·rw [hρ] at h1; cases h1; rfl
  rw [hρ] at h1; cases h1
 subst hv0;have hz:(Sh.nm NT.opn).size=2:=rfl;have hby:(Sh.nm NT.opn).bytes=16:=rfl;have hcl:cells.length=l.length*2:=by rw [<- hpd.length,bR,hz]
 rw [hz,List.length_append] at hsz;have hone:∀ u ∈ cells.drop (i*2),u.oneCell' = true:=fun u hu=>hpd.Lo u (ahu hu);have hd:CellsAt w ⟨g,i*2,none⟩ (cells.drop (i*2)):=by
  have:=(cc hg).shift (i*2);rwa [add_lit,ac_] at this
 have hdl:(cells.drop (i*2)).length=(l.length - i)*2:=by rw [List.length_drop,hcl]; omega
 have hgl:=eP hg;have hzl:(l.take i++m++l.drop i).length=l.length+1:=by
  rw [List.length_append,List.length_append,List.length_take,List.length_drop,hm]; omega
 have hnew:∀ {c:Cx},(cx G ρ w).le c->Pds c ((l.take i++m++l.drop i).flatMap (cellsOf (.nm .opn))) (cells.take (i*2)++cys++cells.drop (i*2)):=fun {c} hle=>by
  rw [List.flatMap_append,List.flatMap_append];exact (((bk hpd i).append hp).append (bL hpd i)).carry hle
 have hnl:(cells.take (i*2)++cys++cells.drop (i*2)).length=(l.length+1)*2:=by
  rw [List.length_append,List.length_append,List.length_take,List.length_drop,hcl,hvl]; omega
 have hbig:(l.take i++m++l.drop i).length*(Sh.nm NT.opn).bytes<=140737488355328:=by rw [hzl,hby]; omega
 -- what is shown of any way
 have fin:∀ (S:List Nat) (g2 cap2:Nat) (sp2:List Value) (w':World),Kp S w w' -> (∀ b ∈ S,b=g)->(g2=g\/w.heap.size<=g2)->w'.heap[g2]? = some (.cells (List.toArray (cells.take (i*2)++cys++cells.drop (i*2)++sp2)) 139 (0,0))->(l.length+1)*2+sp2.length=cap2*2->l.length+1<=cap2->cap2<=maxLen ->
   ∃ ρ',Stp (gz 0) ρ w ρ' w' /\ Rep G ρ' ((ic (AV.kill 0) H).set 0 (.row 139 (.nm .opn) (l.take i++m++l.drop i))) w' /\ Rd (cx G ρ' w') ρ' (.own 0) (.slice (some ⟨g2,0,none⟩) (l.length+1) cap2):=by
  intro S g2 cap2 sp2 w' hk hS hg2 hh hlen2 hle2 hmax2;obtain ⟨k1,k2,_⟩:=iX (ro:=gz 0) (s':=.nm .opn) (e':=139) (zs:=l.take i++m++l.drop i) hR hH ⟨rfl,rfl⟩ hk (fun b hb=>⟨_,hρ,by rw [hS b hb]; rfl⟩) (r':=.row g2 cap2 (l.take i++m++l.drop i).length (Sh.nm NT.opn).size) (fun b hb=>by
   cases hb;rcases hg2 with rfl | hg2
   ·exact .inl ⟨_,hρ,rfl⟩
   exact .inr ⟨hg2,eP hh⟩) (fun hle=>⟨hshp,hbig,.inr ⟨g2,cap2,_,sp2,rfl,hh,hnew hle,by rw [List.length_append,hnl,hz]; exact hlen2,by rw [hzl]; exact hle2,hmax2⟩⟩)
  exact ⟨_,k1,k2,.inl ⟨g2,cap2,_,_,adh hil,by rw [hzl]⟩⟩
 have eo:(i+1)*2=i*2+2:=by omega
 by_cases hroom:l.length+1<=cap
 ·refine (vQ hlt hroom hmax hg (by rw [List.length_append]; omega) hv hvb hvb0 (hne _ _ _ _ hρ) hvl hd hdl h1v hone).mono fun v w' ⟨e1,w1,k1,e2⟩=>?_;subst e1; subst e2;rw [eo,Uf (by omega) hvl];have hk:Kp [g] w ((w1.setRow g ((cells++sp).take (i*2+2)++cells.drop (i*2)++(cells++sp).drop (i*2+2+(cells.drop (i*2)).length)).toArray).setRow g (cells.take (i*2)++cys++cells.drop (i*2)++sp.drop 2).toArray):=((k1.sub (by simp)).step (Kp.setRow w1 g _) (by simp)).step (Kp.setRow _ g _) (by simp);have hg1:w1.heap[g]? = some (.cells (List.toArray (cells++sp)) 139 (0,0)):=by rw [k1.block g hgl (by simp)]; exact hg
  exact fin [g] g cap (sp.drop 2) _ hk (by simp) (.inl rfl) (ad4 _ g _ _ 139 _ (ad4 w1 g _ _ 139 _ hg1)) (by rw [List.length_drop]; omega) hroom hmax
 obtain ⟨ti,hi0,hz0,hz1,hz2⟩:=info_parts E_;have eik:i+(l.length+1 - i)=l.length+1:=by omega
 have hge:=grownCap_ge w (l.length+1) cap 139;have hgm:=grownCap_le_maxLen w (l.length+1) cap 139 (by simp [maxLen]; omega);have hold:(Builtin.firstCells ti.size i (.slice (some ⟨g,0*2,none⟩) i cap)).run Tryz.prog w.drew = .ok (cells.take (i*2)).toArray w.drew:=by
  have h:=ahn (P:=Tryz.prog) w.drew ⟨g,0*2,none⟩ (cells.take (i*2)) (by rw [ahx]; exact (cc hg).take _);rw [List.length_take,adA (by omega)] at h;rw [hz1]; exact h
 have happ:∀ (F:Fr) (x y:Operand) (ty:TypeId),ev F x=some (.slice (some ⟨g,0*2,none⟩) i cap)->ev F y=some (.int .i64 ((l.length+1 - i:Nat):Int))->aD Tryz.prog 95 F w (.call { callee:=.builtin .append,args:=#[x,y],argTypes:=#[43,3] }) ty (.slice (some ⟨w.heap.size,0,none⟩) (l.length+1) (grownCap w (l.length+1) cap 139)) (w.drew.alloc (.cells (List.toArray (cells.take (i*2)++((Builtin.zeroCells (Value.agg #[.int .i64 0,.int .i64 0]).cells (l.length+1 - i)).toList++(Builtin.zeroCells (Value.agg #[.int .i64 0,.int .i64 0]).cells (grownCap w (l.length+1) cap 139 - (l.length+1))).toList))) 139)):=fun F x y ty hx hy=>by
  have h:=R.Z_ (P:=Tryz.prog) (n:=95) (ty:=ty) hx hy Tryz.underlying43 Tryz.underlying3 hi0 hz0 hold (by omega) (by rw [hz1]; decide) (by omega) (by omega) (by rw [hz2]; omega) (by rw [hz2,eik]; exact ahI (by omega) (by omega));rw [eik] at h;have e:∀ (a:List Value) (b c:Array Value),a.toArray++b++c=(a++(b.toList++c.toList)).toArray:=fun a b c=>by apply agt; simp
  rw [e] at h;exact h
 have hcurl:(cells.take (i*2)++((Builtin.zeroCells (Value.agg #[.int .i64 0,.int .i64 0]).cells (l.length+1 - i)).toList++(Builtin.zeroCells (Value.agg #[.int .i64 0,.int .i64 0]).cells (grownCap w (l.length+1) cap 139 - (l.length+1))).toList)).length=grownCap w (l.length+1) cap 139*2:=by
  rw [List.length_append,List.length_append,List.length_take,qS,qS];show min _ _+((l.length+1 - i)*2+(grownCap w (l.length+1) cap 139 - (l.length+1))*2)=_;omega
 have htk:(cells.take (i*2)++((Builtin.zeroCells (Value.agg #[.int .i64 0,.int .i64 0]).cells (l.length+1 - i)).toList++(Builtin.zeroCells (Value.agg #[.int .i64 0,.int .i64 0]).cells (grownCap w (l.length+1) cap 139 - (l.length+1))).toList)).take (i*2)=cells.take (i*2):=List.take_left' (by rw [List.length_take]; omega);generalize grownCap w (l.length+1) cap 139=GC at *;generalize cells.take (i*2)++((Builtin.zeroCells (Value.agg #[.int .i64 0,.int .i64 0]).cells (l.length+1 - i)).toList++(Builtin.zeroCells (Value.agg #[.int .i64 0,.int .i64 0]).cells (GC - (l.length+1))).toList)=cur at *;have hK1:Kp [] w (w.drew.alloc (.cells (List.toArray cur) 139)):=((Kp.refl w).drew).step (Kp.alloc w.drew _) (by simp);have hrow:(w.drew.alloc (.cells (List.toArray cur) 139)).heap[w.heap.size]? = some (.cells (List.toArray cur) 139 (0,0)):=agi w.drew _;generalize w.drew.alloc (.cells (List.toArray cur) 139)=W1 at *;refine (xM hlt hcap (by omega) hmax hge hgm happ hrow (by omega) (hv.kp hK1 (eP hvb) (by simp)) hvl (hd.kp hK1 hgl (by simp)) (by omega) (ac3 hgl hK1.size) hdl h1v hone).mono fun v w' ⟨e1,w1,k1,e2⟩=>?_;subst e1; subst e2;rw [eo,TY (cells:=cells) (by omega) hvl htk];have hs1:∀ b ∈ [w.heap.size],b ∈ ([]:List Nat)\/w.heap.size<=b:=fun b hb=>.inr (by rw [ac2] at hb; omega);have hk:Kp [] w (w1.setRow w.heap.size (cells.take (i*2)++cys++cells.drop (i*2)++cur.drop (i*2+2+(cells.drop (i*2)).length)).toArray):=((hK1.step (Kp.setRow W1 w.heap.size _) hs1).step k1 (by simp)).step (Kp.setRow w1 w.heap.size _) hs1;have hg1:=(k1.block w.heap.size (by simpa using eP hrow) (by simp)).trans (ad4 W1 w.heap.size _ (cur.take (i*2)++cys++cur.drop (i*2+cys.length)).toArray 139 _ hrow);exact fin [] w.heap.size GC _ _ hk (by simp) (.inr (ac5 _)) (ad4 w1 w.heap.size _ _ 139 _ hg1) (by rw [List.length_drop]; omega) hge hgm
theorem wu (i:Int) (l m:List (den (.nm .opn))) (h:0<=i/\i<=(l.length:Int)) (hl:l.length<1048576) (hm:m.length=1):Sat Tryz.prog (al tyT) 341 [.c (.own 0),.c (.int i),.c (.fz (.nm .opn) m)] [.row 139 (.nm .opn) l] ⟨[0<=i/\i<=(l.length:Int),l.length<1048576,m.length=1],[.c (.own 0)],some [.row 139 (.nm .opn) (l.take i.toNat++m++l.drop i.toNat)],false⟩:=by
 refine ⟨⟨_,Tryz.func341,by decide,rfl⟩,fun G ρ w vs hs hR hvs=>?_⟩;obtain ⟨i,rfl⟩:=ab9 h.1;cases hvs with | cons h0 hvs=>
 cases hvs with | cons h1 hvs=>
 cases hvs with | cons h2 hvs=>
 cases hvs;have h1:Pd (cx G ρ w) (.int (i:Int)) _:=h1;cases h1;have h0:Rd (cx G ρ w) ρ (.own 0) _:=h0;have h2:Rd (cx G ρ w) ρ (.fz (.nm .opn) m) _:=h2;have hH:getO [AO.row 139 (.nm .opn) l] 0 = .row 139 (.nm .opn) l:=rfl;have hbv:(AV.vw [AO.row 139 (.nm .opn) l] (.fz (.nm .opn) m)).fC (.nm .opn)=some m:=by simp [AV.vw,AV.fC,getO]
 obtain ⟨A,k,cys,rfl,s1,s2,s3,s4⟩:=mw hR hbv h2;rw [hm] at h2 s1 s3;rw [hm];obtain ⟨ad,rfl,s5⟩:∃ ad,A=some ad/\CellsAt w ad cys:=s3.resolve_left (by decide);have hz:(Sh.nm NT.opn).size=2:=rfl;rw [hz] at s1;obtain ⟨u,hu⟩:∃ u,cys[0]? = some u:=⟨_,List.getElem?_eq_getElem (by omega)⟩;obtain ⟨cur,t,f,hc,hc0⟩:=uT (s5 0 u hu);have hne:∀ g c n z,ρ[0]? = some (.row g c n z)->ad.block≠g:=fun g c n z hg e=>by
  have h2:Pd (cx G ρ w) (.fz (.nm .opn) m) (.slice (some ad) 1 k):=h2;have h3:=Vs h2 (by rw [hm]; decide);exact h3.1.2.1 ⟨0,_,hg,by rw [e]; rfl⟩
 rw [fN] at hc;refine (Bk hs hR hH hl (by omega) h0 hm h2 hbv s5 s1 s2 s4 hne hc hc0).mono fun v w' ⟨ρ',k1,k2,k3⟩=>?_;exact ⟨[v],rfl,ρ',k2,k1.ext,k1.bx,.cons k3 .nil,fun hb=>by cases hb⟩
theorem NG:(Builtin.zeroCells (Value.agg #[.int .i64 0,.int .i64 0]).cells 1).toList=[.int .i64 0,.int .i64 0]:=cd
set_option maxRecDepth 100000 in
theorem Lm {g c:Nat} {ti:TypeInfo} (hi:i<n) (hnc:n<=c) (hcm:c<=maxLen) (hg:w.heap[g]? = some (.cells cur.toArray 139 (0,0))) (hcur:n*2<=cur.length) (hdl:ds.length=(n - (i+1))*2) (hd:CellsAt w (if c=i+1 then ⟨g,0,none⟩ else (⟨g,0,none⟩:Addr).add ((i+1)*2)) ds) (h1d:∀ u ∈ ds,u.oneCell' = true)
  (hi0:Tryz.prog.info? 139=some ti) (hz0:ti.zero=some (.agg #[.int .i64 0,.int .i64 0])) (hz1:ti.size=2) :
  jI Tryz.prog 344 [.slice (some ⟨g,0,none⟩) n c,.int .i64 (i:Int),.int .i64 ((i+1:Nat):Int)].toArray w fun v w'=>v = .slice (some ⟨g,0,none⟩) (i+(n - (i+1))) c/\∃ w1,Kp [] w w1/\w' = (w1.setRow g (cur.take (i*ti.size)++ds++cur.drop (i*ti.size+ds.length)).toArray).setRow g ((cur.take (i*ti.size)++ds++cur.drop (i*ti.size+ds.length)).take ((i+(n - (i+1)))*2)++(Builtin.zeroCells (Value.agg #[.int .i64 0,.int .i64 0]).cells 1).toList++(cur.take (i*ti.size)++ds++cur.drop (i*ti.size+ds.length)).drop ((i+(n - (i+1)))*2+(Builtin.zeroCells (Value.agg #[.int .i64 0,.int .i64 0]).cells 1).toList.length)).toArray:=by
 have hcm:c<=9223372036854775807:=hcm;refine jI.enter Tryz.func344 rfl rfl rfl rfl ?_;refine WC.seq ?_;refine WC.region ?_;refine WO.v (R.assign rfl) rfl ?_;refine WO.nil ?_;refine WX.next ?_
 refine WC.seq ?_;refine WC.region ?_;refine WO.v (R.move rfl) rfl ?_;refine WO.v (R.move rfl) rfl ?_;refine WO.v (R.move rfl) rfl ?_;refine WO.v (R.move rfl) rfl ?_;refine WO.v (R.len rfl Tryz.underlying43) rfl ?_;refine WO.v (R.slice3 rfl rfl rfl rfl Tryz.underlying43 c_ (by omega) (by omega) (by omega)) rfl ?_;refine WO.nil ?_;refine WX.next ?_
 refine WC.seq ?_;refine WC.seq ?_;refine WC.region ?_;refine WO.v (R.move rfl) rfl ?_;refine WO.v (R.move rfl) rfl ?_;refine WO.v (R.eql rfl rfl) rfl ?_;refine WO.nil ?_;refine WX.next ?_
 refine WC.cond rfl (fun q=>absurd (ac6 q) (by omega)) (fun _=>?_);refine WC.skip ?_;refine WX.next ?_
 refine WC.seq ?_;refine WC.region ?_;refine WO.v (R.move rfl) rfl ?_;refine WO.v (R.len rfl Tryz.underlying43) rfl ?_;refine WO.v (R.assign rfl) rfl ?_;refine WO.nil ?_;refine WX.next ?_
 refine WC.seq ?_;refine WC.tY js [.ex [] (.slice (some ⟨g,0,none⟩) n c),.ex [] (.int .i64 ((i:Nat):Int)),.ex [0,1] (.slice (some ⟨g,0*2,none⟩) (i - 0) (c - 0)),.ex [] (.slice (some ⟨g,0,none⟩) n c),.ex [] (.int .i64 ((i+1:Nat):Int)),.ex [3,4] (.slice (some (if c=i+1 then ⟨g,0,none⟩ else (⟨g,0,none⟩:Addr).add ((i+1)*2))) (n - (i+1)) (c - (i+1)))] 6 cd ⟨fun _ _ _ h _=>h,fun _ _ _ h _=>h,fun _ _ _ h _=>h,fun _ _ _ h _=>h,fun _ _ _ h _=>h,fun _ _ _ h _=>h,trivial⟩ ⟨?_,?_,?_,?_,?_,?_,trivial⟩ ?_
 ·rintro vs wd kd ⟨-⟩;refine WO.bJ (fr':=[(0,.slice (some ⟨g,0,none⟩) n c)]) ⟨⟨_,rfl,rfl⟩,trivial⟩ ?_;refine WO.v (R.move rfl) rfl ?_;refine WO.nil ?_;exact WX.aF rfl rfl (Kp.refl _)
 ·rintro vs wd kd ⟨-⟩;refine WO.bJ (fr':=[(1,.int .i64 ((i:Nat):Int))]) ⟨⟨_,rfl,rfl⟩,trivial⟩ ?_;refine WO.v (R.move rfl) rfl ?_;refine WO.nil ?_;exact WX.aF rfl rfl (Kp.refl _)
 ·rintro vs wd kd ⟨e0,e1,-⟩;refine WO.bJ (fr':=[(20,.slice (some ⟨g,0,none⟩) n c),(21,.int .i64 ((i:Nat):Int))]) ⟨⟨_,rfl,e0⟩,⟨_,rfl,e1⟩,trivial⟩ ?_;refine WO.v (R.kx rfl rfl Tryz.underlying43 c_ (fa (i:=0) (by omega)) (by omega)) rfl ?_;refine WO.nil ?_;exact WX.aF rfl rfl (Kp.refl _)
 ·rintro vs wd kd ⟨-⟩;refine WO.bJ (fr':=[(0,.slice (some ⟨g,0,none⟩) n c)]) ⟨⟨_,rfl,rfl⟩,trivial⟩ ?_;refine WO.v (R.move rfl) rfl ?_;refine WO.nil ?_;exact WX.aF rfl rfl (Kp.refl _)
 ·rintro vs wd kd ⟨-⟩;refine WO.bJ (fr':=[(2,.int .i64 ((i+1:Nat):Int))]) ⟨⟨_,rfl,rfl⟩,trivial⟩ ?_;refine WO.v (R.move rfl) rfl ?_;refine WO.nil ?_;exact WX.aF rfl rfl (Kp.refl _)
 ·rintro vs wd kd ⟨e3,e4,-⟩;refine WO.bJ (fr':=[(23,.slice (some ⟨g,0,none⟩) n c),(24,.int .i64 ((i+1:Nat):Int))]) ⟨⟨_,rfl,e3⟩,⟨_,rfl,e4⟩,trivial⟩ ?_;refine WO.v (R.cS rfl rfl Tryz.underlying43 c_ VM (by omega)) rfl ?_;refine WO.nil ?_;exact WX.aF rfl rfl (Kp.refl _)
 rintro vsx w1 k1 ⟨-,-,e2,-,-,e5,-⟩;replace k1:Kp [] w w1:=k1;refine WO.bJ (fr':=[(22,.slice (some ⟨g,0*2,none⟩) (i - 0) (c - 0)),(25,.slice (some (if c=i+1 then ⟨g,0,none⟩ else (⟨g,0,none⟩:Addr).add ((i+1)*2))) (n - (i+1)) (c - (i+1))),(7,.int .i64 ((n:Nat):Int))]) ⟨⟨_,rfl,e2⟩,⟨_,rfl,e5⟩,⟨_,rfl,rfl⟩,trivial⟩ ?_;have hg1:w1.heap[g]? = some (.cells (List.toArray cur) 139 (0,0)):=by rw [k1.block g (eP hg) (by simp)]; exact hg
 have hd1:CellsAt w1 (if c=i+1 then ⟨g,0,none⟩ else (⟨g,0,none⟩:Addr).add ((i+1)*2)) ds:=hd.keep (k1.block _ (by split <;> exact eP hg) (by simp));refine WO.v (R.Ps (sl:=i) (sc:=c) rfl rfl Tryz.underlying43 hi0 hg1 (by rw [hz1]; exact hdl) hd1 h1d (by omega) (by rw [hz1]; omega)) rfl ?_;refine WO.v (R.assign rfl) rfl ?_;refine WO.nil ?_;refine WX.next ?_
 have hg2:=ad4 w1 g _ (cur.take (i*ti.size)++ds++cur.drop (i*ti.size+ds.length)).toArray 139 _ hg1;refine WC.seq ?_;refine WC.region ?_;refine WO.v (R.move rfl) rfl ?_;refine WO.v (R.move rfl) rfl ?_;refine WO.v (R.len rfl Tryz.underlying43) rfl ?_;refine WO.v (R.move rfl) rfl ?_;refine WO.v (R.EZ rfl rfl rfl Tryz.underlying43 c_ (fa (by omega)) (by omega) (by omega)) rfl ?_;refine WO.v0 (R.clr rfl (by omega) Tryz.underlying43 hi0 hz0 (by rw [NG]; simp [Value.oneCell']) hg2 (by rw [qS,hz1]; simp only [List.length_append,List.length_take,List.length_drop]; show _+1*2<=_; omega)) ?_;refine WO.nil ?_;refine WX.next ?_
 refine WC.seq ?_;refine WC.region ?_;refine WO.v (R.move rfl) rfl ?_;refine WO.v (R.assign rfl) rfl ?_;refine WO.nil ?_;refine WX.next ?_
 refine WC.ret ?_;refine WX.AN rfl rfl ?_;exact ⟨rfl,w1,k1,rfl⟩
theorem zC (i j:Int) (l:List (den (.nm .opn))) (h:0<=i/\i<(l.length:Int)/\j=i+1):Sat Tryz.prog (al tyT) 344 [.c (.own 0),.c (.int i),.c (.int j)] [.row 139 (.nm .opn) l] ⟨[0<=i/\i<(l.length:Int)/\j=i+1],[.c (.own 0)],some [.row 139 (.nm .opn) (l.take i.toNat++l.drop j.toNat)],false⟩:=by
 refine ⟨⟨_,Tryz.func344,by decide,rfl⟩,fun G ρ w vs hs hR hvs=>?_⟩;obtain ⟨hi0,hi1,rfl⟩:=h;obtain ⟨i,rfl⟩:=ab9 hi0;have hlt:i<l.length:=by omega
 cases hvs with | cons h0 hvs=>
 cases hvs with | cons h1 hvs=>
 cases hvs with | cons h2 hvs=>
 cases hvs;have h1:Pd (cx G ρ w) (.int (i:Int)) _:=h1;have h2:Pd (cx G ρ w) (.int ((i:Int)+1)) _:=h2;cases h1;cases h2;have h0:Rd (cx G ρ w) ρ (.own 0) _:=h0;have hH:getO [AO.row 139 (.nm .opn) l] 0 = .row 139 (.nm .opn) l:=rfl;obtain ⟨hshp,hlen⟩:=dj hR hH;rcases bl hR hH with ⟨_,h2⟩ | ⟨g,cap,cells,sp,hρ,hg,hpd,hsz,hcap,hmax⟩
 ·subst h2; simp at hlt
 obtain ⟨hnb,hil,hiH⟩:=ma hR hH;have hz:(Sh.nm NT.opn).size=2:=rfl;have hby:(Sh.nm NT.opn).bytes=16:=rfl;have hcl:cells.length=l.length*2:=by rw [<- hpd.length,bR,hz]
 rw [hz,List.length_append] at hsz;rw [hby] at hlen;obtain ⟨ti,hi0,hz0,hz1,hz2⟩:=info_parts E_;have hone:∀ u ∈ cells.drop ((i+1)*2),u.oneCell' = true:=fun u hu=>hpd.Lo u (ahu hu);have hd:CellsAt w (if cap=i+1 then ⟨g,0,none⟩ else (⟨g,0,none⟩:Addr).add ((i+1)*2)) (cells.drop ((i+1)*2)):=by
  split
  ·rw [aeu (by omega)]; exact CellsAt.nil
  exact (cc hg).shift _
 have hv0:∀ v,Rd (cx G ρ w) ρ (.own 0) v->v = .slice (some ⟨g,0,none⟩) l.length cap:=fun v h0=>by
  rcases h0 with ⟨g',cap',len,z,h1,rfl⟩ | ⟨h1,a,rfl⟩
  ·rw [hρ] at h1; cases h1; rfl
  rw [hρ] at h1; cases h1
 obtain rfl:=hv0 _ h0;have e0:((i:Int)+1)=((i+1:Nat):Int):=by omega
 rw [e0];refine (Lm hlt hcap hmax hg (by rw [List.length_append]; omega) (by rw [List.length_drop,hcl]; omega) hd hone hi0 hz0 hz1).mono fun v w' ⟨e1,w1,k1,e2⟩=>?_;subst e1;have hq:i+(l.length - (i+1))=l.length - 1:=by omega
 rw [hq,hz1,NG] at e2;rw [hq];have hzl:(l.take i++l.drop (i+1)).length=l.length - 1:=by rw [List.length_append,List.length_take,List.length_drop]; omega
 have hnl:(cells.take (i*2)++cells.drop ((i+1)*2)).length=(l.length - 1)*2:=by rw [List.length_append,List.length_take,List.length_drop]; omega
 have htk:((cells++sp).take (i*2)++cells.drop ((i+1)*2)++(cells++sp).drop (i*2+(cells.drop ((i+1)*2)).length)).take ((l.length - 1)*2)=cells.take (i*2)++cells.drop ((i+1)*2):=by
  rw [ado (l₁:=cells) (by omega)];exact List.take_left' hnl
 have hr1l:((cells++sp).take (i*2)++cells.drop ((i+1)*2)++(cells++sp).drop (i*2+(cells.drop ((i+1)*2)).length)).length=cap*2:=by
  simp only [List.length_append,List.length_drop,List.length_take];omega
 generalize (cells++sp).take (i*2)++cells.drop ((i+1)*2)++(cells++sp).drop (i*2+(cells.drop ((i+1)*2)).length)=r1 at e2 htk hr1l;rw [htk,List.append_assoc] at e2;generalize hsp2:([.int .i64 0,.int .i64 0]:List Value)++List.drop ((l.length - 1)*2+([.int .i64 0,.int .i64 0]:List Value).length) r1=sp2 at e2;have hlen2:(l.length - 1)*2+sp2.length=cap*2:=by
  rw [<- hsp2];simp only [List.length_append,List.length_cons,List.length_nil,List.length_drop];omega
 have hg1:w1.heap[g]? = some (.cells (List.toArray (cells++sp)) 139 (0,0)):=by rw [k1.block g (eP hg) (by simp)]; exact hg
 have hh:=ad4 _ g _ (cells.take (i*2)++cells.drop ((i+1)*2)++sp2).toArray 139 _ (ad4 w1 g _ r1.toArray 139 _ hg1);have hk:=((k1.sub (T:=[g]) (by simp)).step (Kp.setRow w1 g r1.toArray) (by simp)).step (Kp.setRow _ g (cells.take (i*2)++cells.drop ((i+1)*2)++sp2).toArray) (by simp);subst e2;obtain ⟨k2,k3,_⟩:=iX (ro:=gz 0) (s':=.nm .opn) (e':=139) (zs:=l.take i++l.drop (i+1)) hR hH ⟨rfl,rfl⟩ hk (fun b hb=>⟨_,hρ,by rw [ac2] at hb; subst hb; rfl⟩) (r':=.row g cap (l.take i++l.drop (i+1)).length (Sh.nm NT.opn).size) (fun b hb=>by
  cases hb; exact .inl ⟨_,hρ,rfl⟩) (fun hle=>⟨hshp,by rw [hzl,hby]; omega,.inr ⟨g,cap,_,sp2,rfl,hh,by
   rw [List.flatMap_append]; exact ((bk hpd i).append (bL hpd (i+1))).carry hle,by rw [List.length_append,hnl,hz]; exact hlen2,by omega,hmax⟩⟩)
 exact ⟨[_],rfl,_,k3,k2.ext,k2.bx,.cons (.inl ⟨g,cap,_,_,adh hil,by rw [hzl]⟩) .nil,fun hb=>by cases hb⟩
def vu {β:Type} (z:β) (k:Int):List (Int × β)->β
 | []=>z
 | p :: r=>if k=p.1 then p.2 else vu z k r
def bS (a b:Int):Int:=if (1<=a/\a<=3)/\(1<=b/\b<=3) then (if a<b then 32 else 0) else 1
def bF (n:Int):Bool:=decide (1<=n) && decide (n<=3)
def im (l:List Int) (k:Nat):Int:=((l.take k).tail).foldl min (l.headD 0)
def AF (l:List Int):Int:=l.tail.foldl min (l.headD 0)
def iK (l:List Int):Int:=if decide (l.length=0) || !l.all bF then 0 else AF l
def kg (v:Int) (l:List Int):Bool:=(decide (1<=v) && decide (v<3)) && decide (v<iK l)
variable {α:Type}
theorem ai {l:List α} {x:α} (hx:l[k]? = some x):l.take (k+1)=l.take k++[x]:=by
 rw [List.take_add_one,hx]; rfl
variable {x:Int} {l:List Int}
theorem BO (hk:1<=k) (hx:l[k]? = some x):min (im l k) x=im l (k+1):=by
 unfold im;rw [ai hx,List.tail_append_of_ne_nil,List.foldl_append]
 ·rfl
 intro h;have h3:(l.take k).length=0:=by rw [h]; rfl
 have h2:=BM hx;rw [List.length_take] at h3;omega
theorem Gy (hx:l[0]? = some x):x=im l 1:=by
 cases l with
 | nil=>simp at hx
 | cons a r=>simp at hx; simp [im,hx]
theorem Fw (hk:l.length<=k):im l k=AF l:=by
 unfold im AF; rw [List.take_of_length_le hk]
def bX (n a b:Int):Bool:=decide (a<=n) && decide (n<=b)
def az {α:Type} (key:α->Int) (most:Int):Int->List α->Bool
 | _,[]=>true
 | a,x :: r=>bX (key x) (a+1) most && az key most (key x) r
def bP {α:Type} (key:α->Int) (a:Int) (l:List α):Int:=l.foldl (fun _ x=>key x) a
theorem jZ {α:Type} {key:α->Int} {most:Int} {x:α}:∀ (p:List α) (a:Int),az key most a (p++[x])=(az key most a p && bX (key x) (bP key a p+1) most)
 | [],a=>by simp [az,bP]
 | y :: p,a=>by
  rw [List.cons_append,az,az,jZ p,Bool.and_assoc]; rfl
theorem lA {α:Type} {key:α->Int} {most:Int} (q:List α):∀ (p:List α) (a:Int),az key most a (p++q)=true->az key most a p=true
 | [],a,_=>rfl
 | y :: p,a,h=>by
  rw [List.cons_append,az,Bool.and_eq_true] at h;rw [az,Bool.and_eq_true];exact ⟨h.1,lA q p _ h.2⟩
variable {a:Int}
theorem fI {key:α->Int} {l:List α} {x:α} (hx:l[k]? = some x):key x=bP key a (l.take (k+1)):=by
 rw [ai hx,bP,List.foldl_append]; rfl
variable {most:Int}
theorem o_ {key:α->Int} {l:List α} {x:α} (h:az key most a (l.take k)=true) (hx:l[k]? = some x) (h1:bP key a (l.take k)<key x) (h2:key x<=most):az key most a (l.take (k+1))=true:=by
 rw [ai hx,jZ,h,Bool.true_and,bX,Bool.and_eq_true,decide_eq_true_eq,decide_eq_true_eq];exact ⟨by omega,h2⟩
theorem oO {key:α->Int} {l:List α} {x:α} (hx:l[k]? = some x) (h:¬ (bP key a (l.take k)<key x/\key x<=most)):az key most a l=false:=by
 cases hr:az key most a l with
 | false=>rfl
 | true=>
  have h1:=lA (l.drop (k+1)) (l.take (k+1)) a (by rw [List.take_append_drop]; exact hr);rw [ai hx,jZ,Bool.and_eq_true,bX,Bool.and_eq_true,decide_eq_true_eq,decide_eq_true_eq] at h1;exact absurd ⟨by omega,h1.2.2⟩ h
theorem pz {key:α->Int} {l:List α} (h:az key most a (l.take k)=true) (hk:l.length<=k):az key most a l=true:=by
 rwa [List.take_of_length_le hk] at h
def cr (l:List Int):Bool:=(decide ((1:Int)<=((l.length:Nat):Int)) && decide (((l.length:Nat):Int)<=8)) && az id 64 0 l
theorem oB (hx:l[k]? = some x) (h:¬ (bP id 0 (l.take k)<x/\x<=64)):false=cr l:=by
 rw [cr,oO (key:=id) hx h,Bool.and_false]
theorem mj (h:az id 64 0 (l.take k)=true) (hk:l.length<=k) (hl:1<=l.length/\l.length<=8):true=cr l:=by
 rw [cr,pz h hk,Bool.and_true]; symm; rw [Bool.and_eq_true,decide_eq_true_eq,decide_eq_true_eq]; omega
theorem qO (hl:¬ (1<=l.length/\l.length<=8)):false=cr l:=by
 symm;rw [cr,Bool.and_eq_false_iff]; left;rw [Bool.and_eq_false_iff,agJ,agJ]; omega
def dR (x:Sess):Bool:=(bX x.seq 0 1048576 && bX x.last.code 0 99) && bX x.last.n 0 1048576
def dW (x:Opn):Bool:=bX x.client 1 8
theorem qH {p:α->Bool} {l:List α} {x:α} (h:(l.take k).all p=true) (hx:l[k]? = some x) (hp:p x=true):(l.take (k+1)).all p=true:=by
 rw [ai hx,agr,h]; simp [hp]
theorem Og {p:α->Bool} {l:List α} {x:α} (hx:l[k]? = some x) (hp:p x=false):l.all p=false:=by
 rw [List.all_eq_false]; exact ⟨x,ada hx,by simp [hp]⟩
theorem MH {p:α->Bool} {l:List α} (h:(l.take k).all p=true) (hk:l.length<=k):l.all p=true:=by
 rwa [List.take_of_length_le hk] at h
def aV (n:Nat):Nat:=if h:n<128 then 1 else aV (n / 128)+1
termination_by n
decreasing_by omega
theorem lP (h:¬ n<128):aV n=aV (n / 128)+1:=by rw [aV,dif_neg h]
theorem jF (h:n<128):aV n=1:=by rw [aV,ahA h]
theorem iS (n:Nat):1<=aV n:=by rw [aV]; split <;> omega
theorem AQ:∀ (k n:Nat),n<128 ^ (k+1)->aV n<=k+1
 | 0,n,h=>by rw [jF (by simpa using h)]; omega
 | k+1,n,h=>by
  by_cases hn:n<128
  ·rw [jF hn]; omega
  rw [lP hn];have:=AQ k (n / 128) (by rw [Nat.div_lt_iff_lt_mul (by omega),<- Nat.pow_succ]; exact h);omega
theorem rz (h:n<18446744073709551616):aV n<=10:=AQ 9 n (ac3 h (by decide))
def ml (n i:Nat):UInt8:=UInt8.ofNat (n / 128 ^ i) ||| 128
def fg (n k:Nat):List UInt8:=(List.range k).map (ml n)++List.replicate (aV n - k) 0
def cJ (n:Nat):List UInt8:=(fg n (aV n)).set (aV n - 1) (ml n (aV n - 1) &&& 127)
theorem ot (h:k<=aV n):(fg n k).length=aV n:=by simp [fg]; omega
theorem Bg (h:k<aV n):(fg n k).set k (ml n k)=fg n (k+1):=by
 unfold fg;rw [List.set_append_right _ _ (by simp),List.range_succ,List.map_append,List.append_assoc];congr 1;obtain ⟨j,hj⟩:∃ j,aV n - k=j+1:=⟨aV n - k - 1,by omega⟩;rw [hj,show aV n - (k+1)=j by omega];simp [List.replicate_succ]
theorem BS (n:Nat):List.replicate (aV n) (0:UInt8)=fg n 0:=by simp [fg]
theorem BK {x:UInt8} (h:(fg n (aV n))[aV n - 1]? = some x):x=ml n (aV n - 1):=by
 have hp:=iS n;unfold fg at h;rw [List.getElem?_append_left (by simp; omega)] at h;simp only [List.getElem?_map,List.getElem?_range (show aV n - 1<aV n by omega),Option.map_some,Option.some.injEq] at h;exact h.symm
theorem div_pow:n / 128 ^ k / 2 ^ 7=n / 128 ^ (k+1):=by show n / 128 ^ k / 128=_; rw [Nat.div_div_eq_div_mul,Nat.pow_succ]
theorem Kt (n:Nat):(cJ n).length=aV n:=by rw [cJ,adn,ot (ac5 _)]
theorem cK (h:n<18446744073709551616):(cJ n).length<=10:=by rw [Kt]; exact rz h
def gR (l:List Int):List UInt8:=l.flatMap fun x=>cJ x.toNat
theorem Ge (hx:l[k]? = some x):gR (l.take k)++cJ x.toNat=gR (l.take (k+1)):=by
 rw [ai hx]; simp [gR]
theorem NH (h:∀ x ∈ l,x<=64):(gR l).length<=10*l.length:=by
 induction l with
 | nil=>simp [gR]
 | cons a l ih=>
  have h1:=ih fun x hx=>h x (acb _ hx);have h2:=cK (n:=a.toNat) (by have:=h a (by simp); omega);simp only [gR,List.flatMap_cons,List.length_append,List.length_cons] at *;omega
theorem vR (h:cr l=true):∀ x ∈ l,0<x/\x<=64:=by
 rw [cr,Bool.and_eq_true] at h;have:∀ (l:List Int) (a:Int),0<=a->az id 64 a l=true->∀ x ∈ l,0<x/\x<=64:=by
  intro l;induction l with
  | nil=>intro a _ _ x hx; cases hx
  | cons y l ih=>
   intro a ha hl x hx;rw [az,Bool.and_eq_true,bX,Bool.and_eq_true,decide_eq_true_eq,decide_eq_true_eq] at hl;have h1:a+1<=y:=hl.1.1;have h2:y<=64:=hl.1.2;rcases ac4.1 hx with rfl | hx
   ·omega
   exact ih (id y) (by show 0<=y; omega) hl.2 x hx
 exact this l 0 aK h.2
theorem EG (h:cr l=true):1<=l.length/\l.length<=8:=by
 rw [cr,Bool.and_eq_true,Bool.and_eq_true,decide_eq_true_eq,decide_eq_true_eq] at h;omega
def eA (l:List Int):List UInt8:=if cr l then gR l else []
def fx (l:List Int):Int:=if cr l then 0 else 1
theorem Oh (hr:cr l=true) (hk:l.length<=k):gR (l.take k)=eA l:=by rw [List.take_of_length_le hk,eA,if_pos hr]
theorem Fp (hr:cr l=false):[]=eA l:=by rw [eA,hr]; rfl
theorem zA (hr:cr l=true):0=fx l:=by rw [fx,hr]; rfl
theorem rU (hr:cr l=false):1=fx l:=by rw [fx,hr]; rfl
def dq (v t:Int) (x:Snap):Bool:=((decide (fx x.chunks=0) && bX x.set 1 8) && (!x.held || decide (2<=v))) && decide (((x.tag.b.length:Nat):Int)<=t)
def vM (v:Int):Int:=if v<3 then 0 else 16
def fO (s:State) (v:Int):Bool:=!(decide (16<((s.snaps.length:Nat):Int)) || !(az Snap.id (s.next - 1) 0 s.snaps)) && s.snaps.all (dq v (vM v))
def jU (s:State) (v:Int):Bool:=((bX s.version 1 3 && bX s.next 1 1048576) && bX s.keep 0 8) && bX s.quota 0 (if v<3 then 0 else 64)
def zX (s:State):Bool:=az Sess.client 8 0 s.sess && s.sess.all dR
def vP (s:State):Bool:=az Opn.set 8 0 s.opens && s.opens.all dW
def ei (s:State) (v:Int):Int:=if !(bX v 1 3) then 1 else if (((!jU s v || !zX s) || !vP s) || !fO s v) then 6 else 0
def ck (k:Int):Int:=vu 0 k [((1:Int),(1:Int)),((2:Int),(1:Int)),((3:Int),(1:Int)),((4:Int),(1:Int)),((5:Int),(1:Int)),((6:Int),(1:Int)),((7:Int),(1:Int)),((8:Int),(1:Int)),((9:Int),(2:Int)),((10:Int),(2:Int)),((11:Int),(3:Int)),((12:Int),(3:Int))]
theorem RG {k:Int} (h:¬ (1<=k/\k<=12)):ck k=0:=by
 unfold ck;simp only [vu];repeat rw [if_neg (by omega)]
variable {b n:Int}
theorem HO (h:bX n a b=true):a<=n/\n<=b:=by unfold bX at h; rw [Bool.and_eq_true,decide_eq_true_eq,decide_eq_true_eq] at h; exact h
theorem inF (h:bX n a b=false):¬ (a<=n/\n<=b):=fun h2=>by
 have:bX n a b=true:=by unfold bX; rw [Bool.and_eq_true,decide_eq_true_eq,decide_eq_true_eq]; exact h2
 rw [h] at this; cases this
def iz (x:Int) (l:List Int):Int:=match l.findIdx? (fun y=>decide (x=y)) with | some i=>(i:Int) | none=>-1
theorem Jm {y:Int} (h:∀ j y,j<k->l[j]? = some y->¬ x=y) (hy:l[k]? = some y) (hxy:x=y):(k:Int)=iz x l:=by
 have:l.findIdx? (fun y=>decide (x=y))=some k:=by
  obtain ⟨hk,rfl⟩:=aam.1 hy;rw [aeN];exact ⟨hk,decide_eq_true hxy,fun j hj=>by simpa using h j _ hj (List.getElem?_eq_getElem aK)⟩
 simp [iz,this]
theorem LL (x:Int) (l:List Int):decide (0<=iz x l)=l.contains x:=by
 unfold iz;cases h:l.findIdx? (fun y=>decide (x=y)) with
 | none=>
  rw [List.findIdx?_eq_none_iff] at h;have:l.contains x=false:=by
   rw [<- Bool.not_eq_true,ahr];intro hm; have:=h x hm; simp at this
  rw [this]; rfl
 | some i=>
  rw [aeN] at h;obtain ⟨hi,hp,_⟩:=h;have:l.contains x=true:=by
   rw [ahr,ac6 hp]; exact adV hi
  rw [this]; simp
def mJ (n most:Int) (named:Bool):Bool:=if named then (decide (1<=n) && decide (n<=most)) else decide (n=0)
def uI (k:Int):Int × Int:=vu (0,0) k [((6:Int),((0:Int),(8:Int))),((8:Int),((2:Int),(3:Int))),((12:Int),((0:Int),(64:Int)))]
def chF (c:Command):Bool:=if c.kind=3 then cr c.chunks else decide (((c.chunks.length:Nat):Int)=0)
def txF (c:Command):Bool:=if c.kind=11 then decide (((c.text.b.length:Nat):Int)<=16) else decide (c.text=⟨[]⟩)
def lC (c:Command):Bool:=((((((((decide ((uI c.kind).1<=c.n) && decide (c.n<=(uI c.kind).2)) && chF c) && txF c) && mJ c.client 8 (!([(8:Int)].contains c.kind))) && mJ c.seq 1048576 (!([(1:Int),8].contains c.kind))) && mJ c.set 8 ([(2:Int),3,4].contains c.kind)) && mJ c.id 1048576 ([(5:Int),7,9,10,11].contains c.kind)))
def bC (c:Command) (v:Int):Int:=if !(bX v 1 3) || decide (ck c.kind=0) then 1 else if v<ck c.kind then 10 else if !lC c then 1 else 0
theorem PN {s:Str}:decide (((s.b.length:Nat):Int)=0)=decide (s=⟨[]⟩):=by
 cases s with | mk b=>
 cases b with
 | nil=>simp
 | cons a t=>rw [ahi]; simp; omega
def uU (c:Command):Bool:=(((bX c.client 0 1048576 && bX c.seq 0 1048576) && bX c.set 0 1048576) && bX c.id 0 1048576) && bX c.n 0 1048576
def fY (c:Command) (v:Int):Bool:=(((bX c.kind 1 99 && (decide (ck c.kind=0) || decide (v<ck c.kind))) && uU c) && (decide (((c.chunks.length:Nat):Int)=0) || cr c.chunks)) && (decide (((c.text.b.length:Nat):Int)=0) || (decide (3<=v) && decide (((c.text.b.length:Nat):Int)<=16)))
theorem Mj {c:Command} {v:Int} (h:((c.kind<1\/99<c.kind)\/(¬ ck c.kind=0/\ck c.kind<=v))):false=fY c v:=by
 have:(bX c.kind 1 99 && (decide (ck c.kind=0) || decide (v<ck c.kind)))=false:=by
  rw [<- Bool.not_eq_true]; simp only [bX,Bool.and_eq_true,Bool.or_eq_true,decide_eq_true_eq]; omega
 unfold fY; rw [this]; rfl
theorem Ri {c:Command} {v:Int} (h:(c.client<0\/1048576<c.client)\/(c.seq<0\/1048576<c.seq)\/(c.set<0\/1048576<c.set)\/(c.id<0\/1048576<c.id)\/(c.n<0\/1048576<c.n)):false=fY c v:=by
 have:uU c=false:=by
  rw [<- Bool.not_eq_true]; unfold uU; simp only [bX,Bool.and_eq_true,decide_eq_true_eq]; omega
 unfold fY; rw [this,Bool.and_false]; rfl
theorem OZ {c:Command} {v:Int} (h:0<((c.chunks.length:Nat):Int)/\cr c.chunks=false):false=fY c v:=by
 have:(decide (((c.chunks.length:Nat):Int)=0) || cr c.chunks)=false:=by
  rw [h.2,Bool.or_false]; exact decide_eq_false (by omega)
 unfold fY; rw [this,Bool.and_false]; rfl
theorem Eh {c:Command} {v:Int} (h1:¬ ((c.kind<1\/99<c.kind)\/(¬ ck c.kind=0/\ck c.kind<=v))) (h2:¬ ((c.client<0\/1048576<c.client)\/(c.seq<0\/1048576<c.seq)\/(c.set<0\/1048576<c.set)\/(c.id<0\/1048576<c.id)\/(c.n<0\/1048576<c.n)))
  (h3:(¬ (0<((c.chunks.length:Nat):Int)))\/cr c.chunks=true):fY c v=(decide (((c.text.b.length:Nat):Int)=0) || (decide (3<=v) && decide (((c.text.b.length:Nat):Int)<=16))):=by
 have e1:(bX c.kind 1 99 && (decide (ck c.kind=0) || decide (v<ck c.kind)))=true:=by
  simp only [bX,Bool.and_eq_true,Bool.or_eq_true,decide_eq_true_eq]; omega
 have e2:uU c=true:=by unfold uU; simp only [bX,Bool.and_eq_true,decide_eq_true_eq]; omega
 have e3:(decide (((c.chunks.length:Nat):Int)=0) || cr c.chunks)=true:=by
  rcases h3 with h3 | h3
  ·rw [decide_eq_true (show ((c.chunks.length:Nat):Int)=0 by omega)]; rfl
  rw [h3,Bool.or_true]
 unfold fY; rw [e1,e2,e3]; rfl
theorem Xe {c:Command} {v:Int} (h1:¬ ((c.kind<1\/99<c.kind)\/(¬ ck c.kind=0/\ck c.kind<=v))) (h2:¬ ((c.client<0\/1048576<c.client)\/(c.seq<0\/1048576<c.seq)\/(c.set<0\/1048576<c.set)\/(c.id<0\/1048576<c.id)\/(c.n<0\/1048576<c.n)))
  (h3:(¬ (0<((c.chunks.length:Nat):Int)))\/cr c.chunks=true) (h4:v<3):decide (c.text=⟨[]⟩)=fY c v:=by
 rw [Eh h1 h2 h3,PN,decide_eq_false (show ¬ (3:Int)<=v by omega)]; simp
theorem VB {c:Command} {v:Int} (h1:¬ ((c.kind<1\/99<c.kind)\/(¬ ck c.kind=0/\ck c.kind<=v))) (h2:¬ ((c.client<0\/1048576<c.client)\/(c.seq<0\/1048576<c.seq)\/(c.set<0\/1048576<c.set)\/(c.id<0\/1048576<c.id)\/(c.n<0\/1048576<c.n)))
  (h3:(¬ (0<((c.chunks.length:Nat):Int)))\/cr c.chunks=true) (h4:¬ v<3):decide (((c.text.b.length:Nat):Int)<=16)=fY c v:=by
 rw [Eh h1 h2 h3,ahi]; simp only [Bool.or_eq_true,Bool.and_eq_true,decide_eq_true_eq]; omega
def cm (k:Int):Bool:=decide (1<=k) && decide (k<=3)
theorem WS (hx:l[k]? = some x):x=bP id 0 (l.take (k+1)):=fI (key:=id) hx
theorem Ib (h:az id 64 0 (l.take k)=true) (hx:l[k]? = some x) (h1:bP id 0 (l.take k)<x) (h2:x<=64):az id 64 0 (l.take (k+1))=true:=o_ (key:=id) h hx (by dsimp only [id]; omega) (by dsimp only [id]; omega)
def agG (l:List Int):List (Nat × LI):=[(5,{ σ:=Nat,F:=fun k=>([(3,one (.int (bP id 0 (l.take k)))),(14,one (.fz .int (l))),(15,one (.int (l).length)),(16,one (.int k))],[]),J:=fun k=>k<=l.length/\az id 64 0 (l.take k)=true/\1<=l.length/\l.length<=8,μ:=fun k=>(l).length - k })]
def CY:Kn:=aJ (ae (kC cI) au) aw fun (k,_) _=>⟨[],[.c (.bool (.atom ((cm k))))],none,false⟩
theorem SW:CK 90 CY:=ah fun (k,_) _ _=>by
 refine av fQ [] Tryz.func90 (?_:I64 k->(decide (1<=k) && decide (k<=3))=cm k);grind [cm]
def Vf:Kn:=aJ (ae (kC (cL .int)) au) aw fun (l,_) _=>⟨[],[.c (.bool (.atom ((cr l))))],none,false⟩
theorem abC:CK 156 Vf:=ah fun (l,_) _ _=>by
 refine av fQ (agG l) Tryz.func156 (?_:(fun (q3:Int)=>(fun (q2:Int)=>(fun (q1:Nat)=>(fun (q0:Prop)=>l.length*8<=140737488355328->(q3<1\/8<q3->false=cr l)/\(1<=q3/\q3<=8->∃ (s0:Nat),(q2=bP id q2 (List.take s0 l)/\l=l/\q3=(↑q1:Int)/\q2=(↑s0:Int))/\(s0<=q1/\az id 64 q2 (List.take s0 l)=true/\q0)/\∀ (s:Nat),s<=q1/\az id 64 q2 (List.take s l)=true/\q0->((↑s:Int)<(↑q1:Int)->q2<=(↑s:Int)/\(↑s:Int)<q3/\∀ (x:Int),l[s]? = some x->I64 x->(x<=bP id q2 (List.take s l)\/64<x->false=cr l)/\(bP id q2 (List.take s l)<x/\x<=64->I64 ((↑s:Int)+1)/\∃ (s':Nat),(x=bP id q2 (List.take s' l)/\l=l/\(↑q1:Int)=(↑q1:Int)/\(↑s:Int)+1=(↑s':Int))/\(s' <= q1/\az id 64 q2 (List.take s' l)=true/\q0)/\q1 - s' < q1 - s))/\((↑q1:Int)<=(↑s:Int)->true=cr l))) (1<=q1/\q1<=8)) l.length) 0) (↑l.length:Int));(repeat' (first | refine And.intro ?_ ?_ | intro))
 all_goals try (grind [qO,oB,mj,WS,Ib,az,bP])
 all_goals (refine ⟨0,?_⟩; (repeat' (first | refine And.intro ?_ ?_ | intro)))
 all_goals try (grind [qO,oB,mj,WS,Ib,az,bP])
 all_goals (refine ⟨‹Nat› + 1,?_⟩; (repeat' (first | refine And.intro ?_ ?_ | intro)))
 all_goals grind [qO,oB,mj,WS,Ib,az,bP]
def Lw:Kn:=aJ (ae (kC cI) au) aw fun (x,_) _=>⟨[],[.c (.int ((ck x)))],none,false⟩
theorem XJ:CK 89 Lw:=ah fun (x,_) _ _=>by
 refine av fQ [] Tryz.func89 (?_:(fun q0=>I64 x->(if x=12 then some 3 else if x=11 then some 3 else if x=10 then some 2 else if x=9 then some 2 else if x=8 then q0 else if x=7 then q0 else if x=6 then q0 else if x=5 then q0 else if x=4 then q0 else if x=3 then q0 else if x=2 then q0 else if x=1 then q0 else none).getD (ao Sh.int)=ck x) (some (1:Int)));intro _;simp only [ck,vu];by_cases h:1<=x/\x<=12
 ·have h2:x=1\/x=2\/x=3\/x=4\/x=5\/x=6\/x=7\/x=8\/x=9\/x=10\/x=11\/x=12:=by omega
  rcases h2 with rfl | rfl | rfl | rfl | rfl | rfl | rfl | rfl | rfl | rfl | rfl | rfl <;> rfl
 have h1:¬ x=1:=by omega
 have h2:¬ x=2:=by omega
 have h3:¬ x=3:=by omega
 have h4:¬ x=4:=by omega
 have h5:¬ x=5:=by omega
 have h6:¬ x=6:=by omega
 have h7:¬ x=7:=by omega
 have h8:¬ x=8:=by omega
 have h9:¬ x=9:=by omega
 have h10:¬ x=10:=by omega
 have h11:¬ x=11:=by omega
 have h12:¬ x=12:=by omega
 simp [h1,h2,h3,h4,h5,h6,h7,h8,h9,h10,h11,h12,ao]
def Tz:Kn:=aJ (ae (kT (.nm .span)) (ae (kC cI) au)) aw fun (s,k,_) _=>⟨[],[.c (.bool (.atom ((decide (s.lo<=k) && decide (k<=s.hi)))))],none,false⟩
theorem aaG:CK 155 Tz:=ah fun (s,k,_) _ _=>by
 refine av fQ [] Tryz.func155 (?_:(fun q0=>I64 s.lo->I64 s.hi->I64 k->q0=q0) (decide (s.lo<=k) && decide (k<=s.hi)));grind
def yd:Kn:=aJ (ae (kC cI) (ae (kC cI) (ae (kC cI) au))) aw fun (n,a,b,_) _=>⟨[],[.c (.bool (.atom ((bX n a b))))],none,false⟩
theorem Jp:CK 290 yd:=ah fun (n,a,b,_) _ _=>by
 refine av fQ [] Tryz.func290 (?_:I64 n->I64 a->I64 b->(decide (a<=n) && decide (n<=b))=bX n a b);grind [bX]
def qE:Kn:=aJ (ae (kT (.nm .sess)) au) aw fun (x,_) _=>⟨[],[.c (.int ((x.client)))],none,false⟩
theorem Bl:CK 278 qE:=ah fun (x,_) _ _=>by
 refine av fQ [] Tryz.func278 (?_:ju x (x.client=x.client));grind
def Ev:Kn:=aJ (ae (kT (.nm .opn)) au) aw fun (x,_) _=>⟨[],[.c (.int ((x.set)))],none,false⟩
theorem Qw:CK 295 Ev:=ah fun (x,_) _ _=>by
 refine av fQ [] Tryz.func295 (?_:I64 x.set->I64 x.client->x.set=x.set);grind
def KF:Kn:=aJ (ae (kT (.nm .snap)) au) aw fun (x,_) _=>⟨[],[.c (.int ((x.id)))],none,false⟩
theorem YK:CK 335 KF:=ah fun (x,_) _ _=>by
 refine av fQ [] Tryz.func335 (?_:eV x (x.id=x.id));grind
def tT:Kn:=aJ (ae (kC cI) au) aw fun (e,_) _=>⟨[],[.agg (cellsOf (.nm .reply) (⟨e,0⟩))],none,false⟩
theorem Hd:CK 261 tT:=ah fun (e,_) _ _=>by
 refine av fQ [] Tryz.func261 (?_:I64 e->e=e/\(0:Int)=0);grind
def ab_:bD:=(aL 261 tT (aL 335 KF (aL 295 Ev (aL 278 qE (aL 290 yd (aL 155 Tz (aL 89 Lw (aL 156 Vf (aL 90 CY acv)))))))))
theorem pT:ay Tryz.prog (al tyT) ab_:=(ag Hd (ag YK (ag Qw (ag Bl (ag Jp (ag aaG (ag XJ (ag abC (ag SW fQ)))))))))
theorem bK (h1:-9223372036854775808<=n) (h2:n<=9223372036854775807):I64 n:=⟨h1,h2⟩
def ak {α:Type} (key:α->Int) (want:Int) (l:List α):Int:=match l.findIdx? (fun x=>decide (key x=want)) with
 | some i=>(i:Int)
 | none=>-1
section
variable {α:Type} {key:α->Int} {want:Int} {l:List α} {k:Nat} {x:α}
theorem qy:ak key want l = -1↔∀ x ∈ l,¬ key x=want:=by
 unfold ak;grind
theorem wG:ak key want (l.take 0) = -1:=rfl
theorem mX (h:ak key want (l.take k) = -1) (hx:l[k]? = some x) (hn:¬ key x=want):ak key want (l.take (k+1)) = -1:=by
 rw [qy] at h ⊢;rw [ai hx];grind
theorem sV (h:ak key want (l.take k) = -1) (hk:l.length<=k):-1=ak key want l:=by
 rw [List.take_of_length_le hk] at h; exact h.symm
theorem kV (h:ak key want (l.take k) = -1) (hx:l[k]? = some x) (he:key x=want):(k:Int)=ak key want l:=by
 have:l.findIdx? (fun x=>decide (key x=want))=some k:=by
  rw [qy] at h;obtain ⟨hk,rfl⟩:=aam.1 hx;rw [aeN];refine ⟨hk,decide_eq_true he,fun j hj=>?_⟩;have:=h l[j] (by rw [List.mem_take_iff_getElem]; exact ⟨j,by omega,rfl⟩);grind
 rw [ak,this]
end
def Ct (l:List Sess) (want:Int):List (Nat × LI):=[(2,{ σ:=Nat,F:=fun k=>([(1,one (.int (want))),(2,one (.fn 278 [] [])),(9,one (.fz (.nm .sess) (l))),(10,one (.int (l).length)),(11,one (.int k))],[]),J:=fun k=>k<=l.length/\ak Sess.client want (l.take k) = -1,μ:=fun k=>(l).length - k })]
def BT (l:List Opn) (want:Int):List (Nat × LI):=[(2,{ σ:=Nat,F:=fun k=>([(1,one (.int (want))),(2,one (.fn 295 [] [])),(9,one (.fz (.nm .opn) (l))),(10,one (.int (l).length)),(11,one (.int k))],[]),J:=fun k=>k<=l.length/\ak Opn.set want (l.take k) = -1,μ:=fun k=>(l).length - k })]
def BZ (l:List Snap) (want:Int):List (Nat × LI):=[(2,{ σ:=Nat,F:=fun k=>([(1,one (.int (want))),(2,one (.fn 335 [] [])),(9,one (.fz (.nm .snap) (l))),(10,one (.int (l).length)),(11,one (.int k))],[]),J:=fun k=>k<=l.length/\ak Snap.id want (l.take k) = -1,μ:=fun k=>(l).length - k })]
def oS:Kn:=aJ (ae (kC (cL (.nm .sess))) (ae (kC cI) (ae (kC (qf 278 [] [])) au))) aw fun (l,want,_,_) _=>⟨[],[.c (.int ((ak Sess.client want l)))],none,false⟩
theorem Ae:CK 277 oS:=ah fun (l,want,_,_) _ _=>by
 refine av pT (Ct l want) Tryz.func277 (?_:(fun (q1:Int)=>(fun (q0:Nat)=>l.length*32<=140737488355328->I64 want->∃ (s0:Nat),(want=want/\l=l/\(↑l.length:Int)=(↑q0:Int)/\0=(↑s0:Int))/\(s0<=q0/\ak Sess.client want (List.take s0 l) = -q1)/\∀ (s:Nat),s<=q0/\ak Sess.client want (List.take s l) = -q1->((↑s:Int)<(↑q0:Int)->0<=(↑s:Int)/\(↑s:Int)<(↑l.length:Int)/\∀ (x:Sess),l[s]? = some x->ju x (I64 x.client->(x.client=want->(↑s:Int)=ak Sess.client want l)/\(¬x.client=want->I64 ((↑s:Int)+q1)/\∃ (s':Nat),(want=want/\l=l/\(↑q0:Int)=(↑q0:Int)/\(↑s:Int)+q1=(↑s':Int))/\(s' <= q0/\ak Sess.client want (List.take s' l) = -q1)/\q0 - s' < q0 - s)))/\((↑q0:Int)<=(↑s:Int) -> -q1=ak Sess.client want l)) l.length) 1);iterate 3 ((all_goals (repeat' with_reducible first|apply bd|refine bf ?_|intro)); (all_goals try (first | exact bq | exact (wG (key:=Sess.client)) | exact (kV (key:=Sess.client) ab ab ab) | exact (sV (key:=Sess.client) ab aK) | exact (mX (key:=Sess.client) ab ab ab))); all_goals try first | refine ⟨‹Nat› + 1,?_⟩ | refine ⟨0,?_⟩)
def oX:Kn:=aJ (ae (kC (cL (.nm .opn))) (ae (kC cI) (ae (kC (qf 295 [] [])) au))) aw fun (l,want,_,_) _=>⟨[],[.c (.int ((ak Opn.set want l)))],none,false⟩
theorem yv:CK 357 oX:=ah fun (l,want,_,_) _ _=>by
 refine av pT (BT l want) Tryz.func357 (?_:(fun (q1:Int)=>(fun (q0:Nat)=>l.length*16<=140737488355328->I64 want->∃ (s0:Nat),(want=want/\l=l/\(↑l.length:Int)=(↑q0:Int)/\0=(↑s0:Int))/\(s0<=q0/\ak Opn.set want (List.take s0 l) = -q1)/\∀ (s:Nat),s<=q0/\ak Opn.set want (List.take s l) = -q1->((↑s:Int)<(↑q0:Int)->0<=(↑s:Int)/\(↑s:Int)<(↑l.length:Int)/\∀ (x:Opn),l[s]? = some x->I64 x.set->I64 x.client->I64 x.set->(x.set=want->(↑s:Int)=ak Opn.set want l)/\(¬x.set=want->I64 ((↑s:Int)+q1)/\∃ (s':Nat),(want=want/\l=l/\(↑q0:Int)=(↑q0:Int)/\(↑s:Int)+q1=(↑s':Int))/\(s' <= q0/\ak Opn.set want (List.take s' l) = -q1)/\q0 - s' < q0 - s))/\((↑q0:Int)<=(↑s:Int) -> -q1=ak Opn.set want l)) l.length) 1);iterate 3 ((all_goals (repeat' with_reducible first|apply bd|refine bf ?_|intro)); (all_goals try (first | exact bq | exact (wG (key:=Opn.set)) | exact (kV (key:=Opn.set) ab ab ab) | exact (sV (key:=Opn.set) ab aK) | exact (mX (key:=Opn.set) ab ab ab))); all_goals try first | refine ⟨‹Nat› + 1,?_⟩ | refine ⟨0,?_⟩)
def pB:Kn:=aJ (ae (kC (cL (.nm .snap))) (ae (kC cI) (ae (kC (qf 335 [] [])) au))) aw fun (l,want,_,_) _=>⟨[],[.c (.int ((ak Snap.id want l)))],none,false⟩
theorem xG:CK 339 pB:=ah fun (l,want,_,_) _ _=>by
 refine av pT (BZ l want) Tryz.func339 (?_:(fun (q1:Int)=>(fun (q0:Nat)=>l.length*64<=140737488355328->I64 want->∃ (s0:Nat),(want=want/\l=l/\(↑l.length:Int)=(↑q0:Int)/\0=(↑s0:Int))/\(s0<=q0/\ak Snap.id want (List.take s0 l) = -q1)/\∀ (s:Nat),s<=q0/\ak Snap.id want (List.take s l) = -q1->((↑s:Int)<(↑q0:Int)->0<=(↑s:Int)/\(↑s:Int)<(↑l.length:Int)/\∀ (x:Snap),l[s]? = some x->eV x (I64 x.id->(x.id=want->(↑s:Int)=ak Snap.id want l)/\(¬x.id=want->I64 ((↑s:Int)+q1)/\∃ (s':Nat),(want=want/\l=l/\(↑q0:Int)=(↑q0:Int)/\(↑s:Int)+q1=(↑s':Int))/\(s' <= q0/\ak Snap.id want (List.take s' l) = -q1)/\q0 - s' < q0 - s)))/\((↑q0:Int)<=(↑s:Int) -> -q1=ak Snap.id want l)) l.length) 1);iterate 3 ((all_goals (repeat' with_reducible first|apply bd|refine bf ?_|intro)); (all_goals try (first | exact bq | exact (wG (key:=Snap.id)) | exact (kV (key:=Snap.id) ab ab ab) | exact (sV (key:=Snap.id) ab aK) | exact (mX (key:=Snap.id) ab ab ab))); all_goals try first | refine ⟨‹Nat› + 1,?_⟩ | refine ⟨0,?_⟩)
def abS:bD:=(aL 339 pB (aL 357 oX (aL 277 oS ab_)))
theorem jq:ay Tryz.prog (al tyT) abS:=(ag xG (ag yv (ag Ae pT)))
variable {r m n:Nat}
theorem RR (h:aV n+1=aV r+m) (hr:128<=r):aV n+1=aV (r / 128)+(m+1):=by
 have:=lP (n:=r) (by omega); omega
theorem Sy (h:aV n+1=aV r+m) (hn:n<18446744073709551616):m<=10:=by
 have:=rz hn; have:=iS r; omega
theorem Nt (h:aV n+1=aV r+m) (hr:r<128):m=aV n:=by
 have:=jF hr; omega
section
variable {α:Type} {key:α->Int} {most:Int} {l:List α} {k:Nat} {x:α}
theorem NQ (h:az key most 0 (l.take k)=true) (hx:l[k]? = some x) (hb:bX (key x) (bP key 0 (l.take k)+1) most=true):az key most 0 (l.take (k+1))=true:=
 o_ h hx (by have:=HO hb; omega) (HO hb).2
theorem LZ (hx:l[k]? = some x) (hb:bX (key x) (bP key 0 (l.take k)+1) most=false):false=az key most 0 l:=
 (oO hx (by have:=inF hb; omega)).symm
theorem JK (h:az key most 0 (l.take k)=true) (hk:l.length<=k):true=az key most 0 l:=(pz h hk).symm
theorem HS (hx:l[k]? = some x) (h0:0<=bP key 0 (l.take k)) (hb:bX (key x) (bP key 0 (l.take k)+1) most=true):0<=bP key 0 (l.take (k+1)):=by
 have:=HO hb; rw [<- fI hx]; omega
theorem IB (hx:l[k]? = some x) (hb:bX (key x) (bP key 0 (l.take k)+1) most=true) (hm:most<=1048576):bP key 0 (l.take (k+1))<=1048576:=by
 have:=HO hb; rw [<- fI hx]; omega
variable {p:α->Bool}
theorem JU (hx:l[k]? = some x) (hp:p x=false):false=l.all p:=(Og hx hp).symm
theorem Lu (h:(l.take k).all p=true) (hk:l.length<=k):true=l.all p:=(MH h hk).symm
end
def acN (n:U64):List (Nat × LI):=[(2,{ σ:=Nat × Nat,F:=fun s=>([(0,one (.u64 s.1)),(3,one (.int s.2))],[]),J:=fun s=>s.1<18446744073709551616/\aV n.n+1=aV s.1+s.2,μ:=fun s=>s.1 })]
def yx (l:List Sess) (most:Int):List (Nat × LI):=[(3,{ σ:=Nat,F:=fun k=>([(1,one (.int (most))),(2,one (.fn 278 [] [])),(7,one (.int (bP Sess.client 0 (l.take k)))),(10,one (.fz (.nm .sess) (l))),(11,one (.int (l).length)),(12,one (.int k))],[]),J:=fun k=>k<=l.length/\az Sess.client most 0 (l.take k)=true/\0<=bP Sess.client 0 (l.take k)/\bP Sess.client 0 (l.take k)<=1048576,μ:=fun k=>(l).length - k })]
def yY (l:List Opn) (most:Int):List (Nat × LI):=[(3,{ σ:=Nat,F:=fun k=>([(1,one (.int (most))),(2,one (.fn 295 [] [])),(7,one (.int (bP Opn.set 0 (l.take k)))),(10,one (.fz (.nm .opn) (l))),(11,one (.int (l).length)),(12,one (.int k))],[]),J:=fun k=>k<=l.length/\az Opn.set most 0 (l.take k)=true/\0<=bP Opn.set 0 (l.take k)/\bP Opn.set 0 (l.take k)<=1048576,μ:=fun k=>(l).length - k })]
def yP (l:List Snap) (most:Int):List (Nat × LI):=[(3,{ σ:=Nat,F:=fun k=>([(1,one (.int (most))),(2,one (.fn 335 [] [])),(7,one (.int (bP Snap.id 0 (l.take k)))),(10,one (.fz (.nm .snap) (l))),(11,one (.int (l).length)),(12,one (.int k))],[]),J:=fun k=>k<=l.length/\az Snap.id most 0 (l.take k)=true/\0<=bP Snap.id 0 (l.take k)/\bP Snap.id 0 (l.take k)<=1048576,μ:=fun k=>(l).length - k })]
def LM:Kn:=aJ (ae (kC cU) au) aw fun (n,_) _=>⟨[],[.c (.int (((aV n.n:Int))))],none,false⟩
theorem Zr:CK 253 LM:=ah fun (n,_) _ _=>by
 refine av jq (acN n) Tryz.func253 (?_:(fun (q0:Nat)=>n.n<(18446744073709551616:Nat)->∃ (s0:Nat × Nat),(n.n=s0.fst/\(1:Int)=(↑s0.snd:Int))/\(s0.fst<(18446744073709551616:Nat)/\q0=aV s0.fst+s0.snd)/\∀ (s:Nat × Nat),s.fst<(18446744073709551616:Nat)/\q0=aV s.fst+s.snd->((↑(128:Nat):Int)<=(↑s.fst:Int)->(7:Nat)<(64:Nat)/\I64 ((↑s.snd:Int)+(1:Int))/\∃ (s':Nat × Nat),(s.fst / (2:Nat) ^ (7:Nat)=s'.fst/\(↑s.snd:Int)+(1:Int)=(↑s'.snd:Int))/\(s'.fst<(18446744073709551616:Nat)/\q0=aV s'.fst+s'.snd)/\s'.fst<s.fst)/\((↑s.fst:Int)<(↑(128:Nat):Int)->(↑s.snd:Int)=(↑(aV n.n):Int))) (aV n.n+(1:Nat)));intro hn;refine ⟨(n.n,1),⟨rfl,rfl⟩,⟨hn,rfl⟩,fun s hs=>⟨fun h=>?_,fun h=>?_⟩⟩
 ·have h2:=RR hs.2 (by omega);have h3:=Sy hs.2 hn;exact ⟨by omega,by constructor <;> omega,(s.1 / 128,s.2+1),⟨rfl,by simp⟩,⟨by show s.1 / 128<_; omega,h2⟩,by show s.1 / 128<s.1; omega⟩
 exact congrArg Int.ofNat (Nt hs.2 aK)
def nK:Kn:=aJ (ae (kC (cL (.nm .sess))) (ae (kC cI) (ae (kC (qf 278 [] [])) au))) aw fun (l,most,_,_) _=>⟨[most<=1048576],[.c (.bool (.atom ((az Sess.client most 0 l))))],none,false⟩
theorem wP:CK 291 nK:=ah fun (l,most,_,_) _ hp=>by
 have h0:=bW hp;refine av jq (yx l most) Tryz.func291 (?_:(fun (q1:Nat)=>(fun (q0:Int)=>l.length*32<=140737488355328->I64 most->∃ (s0:Nat),(fun (q2:Int)=>(most=most/\q0=q2/\l=l/\(↑l.length:Int)=(↑q1:Int)/\q0=(↑s0:Int))/\(s0<=q1/\az Sess.client most q0 (List.take s0 l)=true/\q0<=q2/\q2<=1048576)/\∀ (s:Nat),(fun (q3:Int)=>(fun (q4:Int)=>s<=q1/\az Sess.client most q0 (List.take s l)=true/\q0<=q3/\q3<=1048576->((↑s:Int)<(↑q1:Int)->q0<=(↑s:Int)/\(↑s:Int)<(↑l.length:Int)/\∀ (x:Sess),l[s]? = some x->ju x (I64 x.client->I64 q4/\(bX x.client q4 most=false->false=az Sess.client most q0 l)/\(bX x.client q4 most=true->I64 x.client->I64 ((↑s:Int)+1)/\∃ (s':Nat),(fun (q5:Int)=>(most=most/\x.client=q5/\l=l/\(↑q1:Int)=(↑q1:Int)/\(↑s:Int)+1=(↑s':Int))/\(s' <= q1/\az Sess.client most q0 (List.take s' l)=true/\q0<=q5/\q5<=1048576)/\q1 - s' < q1 - s) (bP Sess.client q0 (List.take s' l)))))/\((↑q1:Int)<=(↑s:Int)->true=az Sess.client most q0 l)) (q3+1)) (bP Sess.client q0 (List.take s l))) (bP Sess.client q0 (List.take s0 l))) 0) l.length);iterate 3 ((all_goals (repeat' with_reducible first|apply bd|refine bf ?_|intro)); (all_goals try (first | exact bq | exact (NQ (key:=Sess.client) ab ab ab) | exact (LZ (key:=Sess.client) ab ab) | exact (JK (key:=Sess.client) ab aK) | exact (fI (key:=Sess.client) ab) | exact (HS (key:=Sess.client) ab ab ab) | exact (IB (key:=Sess.client) ab ab ab) | exact rfl | exact aee _ | exact (show (0:Int)<=1048576 by omega))); all_goals try first | refine ⟨‹Nat› + 1,?_⟩ | refine ⟨0,?_⟩)
def nu:Kn:=aJ (ae (kC (cL (.nm .opn))) (ae (kC cI) (ae (kC (qf 295 [] [])) au))) aw fun (l,most,_,_) _=>⟨[most<=1048576],[.c (.bool (.atom ((az Opn.set most 0 l))))],none,false⟩
theorem wD:CK 294 nu:=ah fun (l,most,_,_) _ hp=>by
 have h0:=bW hp;refine av jq (yY l most) Tryz.func294 (?_:(fun (q1:Nat)=>(fun (q0:Int)=>l.length*16<=140737488355328->I64 most->∃ (s0:Nat),(fun (q2:Int)=>(most=most/\q0=q2/\l=l/\(↑l.length:Int)=(↑q1:Int)/\q0=(↑s0:Int))/\(s0<=q1/\az Opn.set most q0 (List.take s0 l)=true/\q0<=q2/\q2<=1048576)/\∀ (s:Nat),(fun (q3:Int)=>(fun (q4:Int)=>s<=q1/\az Opn.set most q0 (List.take s l)=true/\q0<=q3/\q3<=1048576->((↑s:Int)<(↑q1:Int)->q0<=(↑s:Int)/\(↑s:Int)<(↑l.length:Int)/\∀ (x:Opn),l[s]? = some x->I64 x.set->I64 x.client->I64 x.set->I64 q4/\(bX x.set q4 most=false->false=az Opn.set most q0 l)/\(bX x.set q4 most=true->I64 x.set->I64 ((↑s:Int)+1)/\∃ (s':Nat),(fun (q5:Int)=>(most=most/\x.set=q5/\l=l/\(↑q1:Int)=(↑q1:Int)/\(↑s:Int)+1=(↑s':Int))/\(s' <= q1/\az Opn.set most q0 (List.take s' l)=true/\q0<=q5/\q5<=1048576)/\q1 - s' < q1 - s) (bP Opn.set q0 (List.take s' l))))/\((↑q1:Int)<=(↑s:Int)->true=az Opn.set most q0 l)) (q3+1)) (bP Opn.set q0 (List.take s l))) (bP Opn.set q0 (List.take s0 l))) 0) l.length);iterate 3 ((all_goals (repeat' with_reducible first|apply bd|refine bf ?_|intro)); (all_goals try (first | exact bq | exact (NQ (key:=Opn.set) ab ab ab) | exact (LZ (key:=Opn.set) ab ab) | exact (JK (key:=Opn.set) ab aK) | exact (fI (key:=Opn.set) ab) | exact (HS (key:=Opn.set) ab ab ab) | exact (IB (key:=Opn.set) ab ab ab) | exact rfl | exact aee _ | exact (show (0:Int)<=1048576 by omega))); all_goals try first | refine ⟨‹Nat› + 1,?_⟩ | refine ⟨0,?_⟩)
def mR:Kn:=aJ (ae (kC (cL (.nm .snap))) (ae (kC cI) (ae (kC (qf 335 [] [])) au))) aw fun (l,most,_,_) _=>⟨[most<=1048576],[.c (.bool (.atom ((az Snap.id most 0 l))))],none,false⟩
theorem wi:CK 334 mR:=ah fun (l,most,_,_) _ hp=>by
 have h0:=bW hp;refine av jq (yP l most) Tryz.func334 (?_:(fun (q1:Nat)=>(fun (q0:Int)=>l.length*64<=140737488355328->I64 most->∃ (s0:Nat),(fun (q2:Int)=>(most=most/\q0=q2/\l=l/\(↑l.length:Int)=(↑q1:Int)/\q0=(↑s0:Int))/\(s0<=q1/\az Snap.id most q0 (List.take s0 l)=true/\q0<=q2/\q2<=1048576)/\∀ (s:Nat),(fun (q3:Int)=>(fun (q4:Int)=>s<=q1/\az Snap.id most q0 (List.take s l)=true/\q0<=q3/\q3<=1048576->((↑s:Int)<(↑q1:Int)->q0<=(↑s:Int)/\(↑s:Int)<(↑l.length:Int)/\∀ (x:Snap),l[s]? = some x->eV x (I64 x.id->I64 q4/\(bX x.id q4 most=false->false=az Snap.id most q0 l)/\(bX x.id q4 most=true->I64 x.id->I64 ((↑s:Int)+1)/\∃ (s':Nat),(fun (q5:Int)=>(most=most/\x.id=q5/\l=l/\(↑q1:Int)=(↑q1:Int)/\(↑s:Int)+1=(↑s':Int))/\(s' <= q1/\az Snap.id most q0 (List.take s' l)=true/\q0<=q5/\q5<=1048576)/\q1 - s' < q1 - s) (bP Snap.id q0 (List.take s' l)))))/\((↑q1:Int)<=(↑s:Int)->true=az Snap.id most q0 l)) (q3+1)) (bP Snap.id q0 (List.take s l))) (bP Snap.id q0 (List.take s0 l))) 0) l.length);iterate 3 ((all_goals (repeat' with_reducible first|apply bd|refine bf ?_|intro)); (all_goals try (first | exact bq | exact (NQ (key:=Snap.id) ab ab ab) | exact (LZ (key:=Snap.id) ab ab) | exact (JK (key:=Snap.id) ab aK) | exact (fI (key:=Snap.id) ab) | exact (HS (key:=Snap.id) ab ab ab) | exact (IB (key:=Snap.id) ab ab ab) | exact rfl | exact aee _ | exact (show (0:Int)<=1048576 by omega))); all_goals try first | refine ⟨‹Nat› + 1,?_⟩ | refine ⟨0,?_⟩)
def LN:Kn:=aJ (ae (kT (.nm .sess)) au) aw fun (x,_) _=>⟨[],[.c (.bool (.atom ((dR x))))],none,false⟩
theorem XU:CK 293 LN:=ah fun (x,_) _ _=>by
 refine av jq [] Tryz.func293 (?_:ju x ((bX x.seq 0 1048576 && bX x.last.code 0 99 && bX x.last.n 0 1048576)=dR x));grind [dR,bX]
def Ns:Kn:=aJ (ae (kT (.nm .opn)) au) aw fun (x,_) _=>⟨[],[.c (.bool (.atom ((dW x))))],none,false⟩
theorem YE:CK 297 Ns:=ah fun (x,_) _ _=>by
 refine av jq [] Tryz.func297 (?_:I64 x.set->I64 x.client->bX x.client 1 8=dW x);grind [dW,bX]
def acT:bD:=(aL 297 Ns (aL 293 LN (aL 334 mR (aL 294 nu (aL 291 nK (aL 253 LM abS))))))
theorem iw:ay Tryz.prog (al tyT) acT:=(ag YE (ag XU (ag wi (ag wD (ag wP (ag Zr jq))))))
theorem XB (h:(k:Int)<aV n):(fg n k).set k (UInt8.ofNat (n / 128 ^ k) ||| UInt8.ofNat 128)=fg n (k+1):=Bg (by omega)
theorem RK (h1:k<=aV n) (h2:(aV n:Int)<=(k:Int)):(fg n k).set ((aV n:Int) - 1).toNat ((fg n k).getD ((aV n:Int) - 1).toNat (ao Sh.u8) &&& UInt8.ofNat 127)=cJ n:=by
 have e:k=aV n:=by omega
 have e2:((aV n:Int) - 1).toNat=aV n - 1:=by omega
 have hl:=ot (n:=n) (ac5 _);have hp:=iS n;subst e;have hlt:aV n - 1<(fg n (aV n)).length:=by omega
 rw [e2,List.getD_eq_getElem?_getD,List.getElem?_eq_getElem hlt,Option.getD_some,BK (List.getElem?_eq_getElem hlt)];rfl
def adM (n:U64):List (Nat × LI):=[(4,{ σ:=Nat,F:=fun k=>([(0,one (.u64 (n.n / 128 ^ k))),(3,one (.int (aV n.n))),(4,one (.own 0)),(10,one (.int (aV n.n))),(11,one (.int k))],[.row 5 .u8 ((fg n.n k))]),J:=fun k=>k<=aV n.n,μ:=fun k=>aV n.n - k })]
def HZ (l:List Sess):List (Nat × LI):=[(2,{ σ:=Nat,F:=fun k=>([(1,one (.fn 293 [] [])),(7,one (.fz (.nm .sess) (l))),(8,one (.int (l).length)),(9,one (.int k))],[]),J:=fun k=>k<=l.length/\(l.take k).all (dR)=true,μ:=fun k=>(l).length - k })]
def KB (l:List Opn):List (Nat × LI):=[(2,{ σ:=Nat,F:=fun k=>([(1,one (.fn 297 [] [])),(7,one (.fz (.nm .opn) (l))),(8,one (.int (l).length)),(9,one (.int k))],[]),J:=fun k=>k<=l.length/\(l.take k).all (dW)=true,μ:=fun k=>(l).length - k })]
def TN:Kn:=aJ (ae (kC cU) au) aw fun (n,_) _=>⟨[],[.c (.own 0)],some ([.row 5 .u8 ((cJ n.n))]),true⟩
theorem aa8:CK 212 TN:=ah fun (n,_) _ _=>by
 refine dr iw (adM n) Tryz.func212 (?_:(fun (q2:Nat)=>(fun (q1:Int)=>(fun (q0:Int)=>(fun (q3:Int)=>n.n<(18446744073709551616:Nat)->I64 q0->(0:Int)<=q0/\q0*(↑(1:Nat):Int)<=(140737488355328:Int)/\q0=q0/\∃ (s0:Nat),(n.n=n.n / (128:Nat) ^ s0/\q0=q0/\q0=q0/\(0:Int)=(↑s0:Int)/\List.replicate q2 (ao Sh.u8)=fg n.n s0)/\s0<=q2/\∀ (s:Nat),(fun (q4:List UInt8)=>s<=q2->((↑s:Int)<q0->(0:Int)<=(↑s:Int)/\(↑s:Int)<(↑q4.length:Int)/\(7:Nat)<(64:Nat)/\I64 ((↑s:Int)+q1)/\∃ (s':Nat),(n.n / (128:Nat) ^ s / (2:Nat) ^ (7:Nat)=n.n / (128:Nat) ^ s' /\ q0=q0/\q0=q0/\(↑s:Int)+q1=(↑s':Int)/\q4.set s (UInt8.ofNat (n.n / (128:Nat) ^ s) ||| UInt8.ofNat (128:Nat))=fg n.n s')/\s' <= q2/\q2 - s' < q2 - s)/\(q0<=(↑s:Int)->I64 q3/\(0:Int)<=q3/\q3<(↑q4.length:Int)/\(0:Int)<=q3/\q3<(↑q4.length:Int)/\q4.set q3.toNat (q4.getD q3.toNat (ao Sh.u8) &&& UInt8.ofNat (127:Nat))=cJ n.n)) (fg n.n s)) (q0 - q1)) (↑q2:Int)) (1:Int)) (aV n.n));intro hn;have h1:=iS n.n;have h10:=rz hn;iterate 3 ((all_goals (repeat' with_reducible first|apply bd|refine bf ?_|intro)); (all_goals try (first | exact bq | exact (BS n.n) | exact (XB aK) | exact (RK aK aK) | exact div_pow | exact (by rw [Nat.pow_zero,Nat.div_one]) | exact (by rw [ot aK]; omega))); all_goals try first | refine ⟨‹Nat› + 1,?_⟩ | refine ⟨0,?_⟩)
def uF:Kn:=aJ (ae (kC (cL (.nm .sess))) (ae (kC (qf 293 [] [])) au)) aw fun (l,_,_) _=>⟨[],[.c (.bool (.atom ((l.all (dR)))))],none,false⟩
theorem GY:CK 292 uF:=ah fun (l,_,_) _ _=>by
 refine av iw (HZ l) Tryz.func292 (?_:(fun (q0:Nat)=>l.length*32<=140737488355328->∃ (s0:Nat),(l=l/\(↑l.length:Int)=(↑q0:Int)/\0=(↑s0:Int))/\(s0<=q0/\(List.take s0 l).all dR=true)/\∀ (s:Nat),s<=q0/\(List.take s l).all dR=true->((↑s:Int)<(↑q0:Int)->0<=(↑s:Int)/\(↑s:Int)<(↑l.length:Int)/\∀ (x:Sess),l[s]? = some x->ju x ((dR x=false->false=l.all dR)/\(dR x=true->I64 ((↑s:Int)+1)/\∃ (s':Nat),(l=l/\(↑q0:Int)=(↑q0:Int)/\(↑s:Int)+1=(↑s':Int))/\(s' <= q0/\(List.take s' l).all dR=true)/\q0 - s' < q0 - s)))/\((↑q0:Int)<=(↑s:Int)->true=l.all dR)) l.length);iterate 3 ((all_goals (repeat' with_reducible first|apply bd|refine bf ?_|intro)); (all_goals try (first | exact bq | exact (qH (p:=dR) ab ab ab) | exact (JU (p:=dR) ab ab) | exact (Lu (p:=dR) ab aK) | exact rfl)); all_goals try first | refine ⟨‹Nat› + 1,?_⟩ | refine ⟨0,?_⟩)
def vp:Kn:=aJ (ae (kC (cL (.nm .opn))) (ae (kC (qf 297 [] [])) au)) aw fun (l,_,_) _=>⟨[],[.c (.bool (.atom ((l.all (dW)))))],none,false⟩
theorem GV:CK 296 vp:=ah fun (l,_,_) _ _=>by
 refine av iw (KB l) Tryz.func296 (?_:(fun (q0:Nat)=>l.length*16<=140737488355328->∃ (s0:Nat),(l=l/\(↑l.length:Int)=(↑q0:Int)/\0=(↑s0:Int))/\(s0<=q0/\(List.take s0 l).all dW=true)/\∀ (s:Nat),s<=q0/\(List.take s l).all dW=true->((↑s:Int)<(↑q0:Int)->0<=(↑s:Int)/\(↑s:Int)<(↑l.length:Int)/\∀ (x:Opn),l[s]? = some x->I64 x.set->I64 x.client->(dW x=false->false=l.all dW)/\(dW x=true->I64 ((↑s:Int)+1)/\∃ (s':Nat),(l=l/\(↑q0:Int)=(↑q0:Int)/\(↑s:Int)+1=(↑s':Int))/\(s' <= q0/\(List.take s' l).all dW=true)/\q0 - s' < q0 - s))/\((↑q0:Int)<=(↑s:Int)->true=l.all dW)) l.length);iterate 3 ((all_goals (repeat' with_reducible first|apply bd|refine bf ?_|intro)); (all_goals try (first | exact bq | exact (qH (p:=dW) ab ab ab) | exact (JU (p:=dW) ab ab) | exact (Lu (p:=dW) ab aK) | exact rfl)); all_goals try first | refine ⟨‹Nat› + 1,?_⟩ | refine ⟨0,?_⟩)
def nv:Kn:=aJ (ae (kC (cL (.nm .sess))) au) aw fun (l,_) _=>⟨[],[.c (.own 0)],some ([.row 137 (.nm .sess) ((l))]),true⟩
theorem wU:CK 105 nv:=ah fun (l,_) _ _=>by
 refine dr iw [] Tryz.func105 (?_:(fun q0=>q0->∀ (b:Bool),(b=true->l=[])->(b=true->l=[])/\(b=false->q0/\l=l)) (l.length*32<=140737488355328));exact fun h b hb=>⟨hb,fun _=>⟨h,rfl⟩⟩
def pf:Kn:=aJ (ae (kC (cL (.nm .opn))) au) aw fun (l,_) _=>⟨[],[.c (.own 0)],some ([.row 139 (.nm .opn) ((l))]),true⟩
theorem Av:CK 106 pf:=ah fun (l,_) _ _=>by
 refine dr iw [] Tryz.func106 (?_:(fun q0=>q0->∀ (b:Bool),(b=true->l=[])->(b=true->l=[])/\(b=false->q0/\l=l)) (l.length*16<=140737488355328));exact fun h b hb=>⟨hb,fun _=>⟨h,rfl⟩⟩
def nk:Kn:=aJ (ae (kC (cL (.nm .snap))) au) aw fun (l,_) _=>⟨[],[.c (.own 0)],some ([.row 172 (.nm .snap) ((l))]),true⟩
theorem vS:CK 107 nk:=ah fun (l,_) _ _=>by
 refine dr iw [] Tryz.func107 (?_:(fun q0=>q0->∀ (b:Bool),(b=true->l=[])->(b=true->l=[])/\(b=false->q0/\l=l)) (l.length*64<=140737488355328));exact fun h b hb=>⟨hb,fun _=>⟨h,rfl⟩⟩
def pC:Kn:=aJ (ae (kC (cL .int)) au) aw fun (l,_) _=>⟨[],[.c (.fz .int ((l)))],none,false⟩
theorem yz:CK 75 pC:=ah fun (l,_) _ _=>by
 refine av iw [] Tryz.func75 (?_:(fun q0=>q0->∀ (b:Bool),(b=true->l=[])->(b=true->l=[])/\(b=false->q0/\l=l)) (l.length*8<=140737488355328));intros; repeat' (first | refine And.intro ?_ ?_ | intro)
 all_goals first | rfl | assumption | simp_all
def ZL:bD:=(aL 75 pC (aL 107 nk (aL 106 pf (aL 105 nv (aL 296 vp (aL 292 uF (aL 212 TN acT)))))))
theorem jt:ay Tryz.prog (al tyT) ZL:=(ag yz (ag vS (ag Av (ag wU (ag GV (ag GY (ag aa8 iw)))))))
theorem YJ (h:iz x (l.take k) = -1) (hk:l.length<=k):-1=iz x l:=by rw [List.take_of_length_le hk] at h; exact h.symm
theorem PQ {y:Int} (h:iz x (l.take k) = -1) (hy:l[k]? = some y) (e:x=y):(k:Int)=iz x l:=by
 refine Jm (fun j z hj hz hc=>?_) hy e;have hm:z ∈ l.take k:=by
  obtain ⟨h1,h2⟩:=aam.1 hz;rw [List.mem_take_iff_getElem]; exact ⟨j,by omega,h2⟩
 have:decide (0<=iz x (l.take k))=true:=by rw [LL,ahr,hc]; exact hm
 grind
theorem Zd {y:Int} (h:iz x (l.take k) = -1) (hy:l[k]? = some y) (e:¬ x=y):iz x (l.take (k+1)) = -1:=by
 have h0:(l.take k).contains x=false:=by
  have:=LL x (l.take k);grind
 have h1:(l.take (k+1)).contains x=false:=by
  rw [ai hy,<- Bool.not_eq_true,ahr] at *;grind
 unfold iz at h1 ⊢;grind
theorem agz (hr:cr l=true) (hx:l[k]? = some x):0<=x:=Int.le_of_lt (vR hr x (ada hx)).1
theorem XX (hr:cr l=true) (hx:l[k]? = some x):((gR (l.take k)).length+(cJ x.toNat).length)*1<=140737488355328:=by
 have h1:=NH (l:=l.take k) (fun x hx=>(vR hr x (List.mem_of_mem_take hx)).2);have h2:=EG hr;have h3:=vR hr x (ada hx);have h4:=cK (n:=x.toNat) (by omega);grind
def Wc (l:List Int) (x:Int):List (Nat × LI):=[(2,{ σ:=Nat,F:=fun k=>([(0,one (.fz .int (l))),(1,one (.int (x))),(7,one (.int (l).length)),(8,one (.int k))],[]),J:=fun k=>k<=l.length/\iz x (l.take k) = -1,μ:=fun k=>(l).length - k })]
def OL (l:List Int):List (Nat × LI):=[(5,{ σ:=Nat,F:=fun k=>([(4,one (.own 0)),(10,one (.fz .int (l))),(11,one (.int (l).length)),(12,one (.int k))],[.row 5 .u8 ((gR (l.take k)))]),J:=fun k=>k<=l.length/\cr l=true,μ:=fun k=>(l).length - k })]
def CB:Kn:=aJ (ae (kC (cL .int)) (ae (kC cI) au)) aw fun (l,x,_) _=>⟨[],[.c (.int ((iz x l)))],none,false⟩
theorem SO:CK 218 CB:=ah fun (l,x,_) _ _=>by
 refine av jt (Wc l x) Tryz.func218 (?_:(fun (q1:Int)=>(fun (q0:Nat)=>l.length*8<=140737488355328->I64 x->∃ (s0:Nat),(l=l/\x=x/\(↑l.length:Int)=(↑q0:Int)/\0=(↑s0:Int))/\(s0<=q0/\iz x (List.take s0 l) = -q1)/\∀ (s:Nat),s<=q0/\iz x (List.take s l) = -q1->((↑s:Int)<(↑q0:Int)->0<=(↑s:Int)/\(↑s:Int)<(↑l.length:Int)/\∀ (x_1:Int),l[s]? = some x_1->I64 x_1->(x=x_1->(↑s:Int)=iz x l)/\(¬x=x_1->I64 ((↑s:Int)+q1)/\∃ (s':Nat),(l=l/\x=x/\(↑q0:Int)=(↑q0:Int)/\(↑s:Int)+q1=(↑s':Int))/\(s' <= q0/\iz x (List.take s' l) = -q1)/\q0 - s' < q0 - s))/\((↑q0:Int)<=(↑s:Int) -> -q1=iz x l)) l.length) 1);iterate 3 ((all_goals (repeat' with_reducible first|apply bd|refine bf ?_|intro)); (all_goals try (first | exact bq | exact rfl | exact (YJ ab aK) | exact (PQ ab ab ab) | exact (Zd ab ab ab))); all_goals try first | refine ⟨‹Nat› + 1,?_⟩ | refine ⟨0,?_⟩)
def EW:Kn:=aJ (ae (kC cI) (ae (kC cI) (ae (kC cB) au))) aw fun (n,most,named,_) _=>⟨[],[.c (.bool (.atom ((mJ n most named))))],none,false⟩
theorem SN:CK 154 EW:=ah fun (n,most,named,_) _ _=>by
 refine av jt [] Tryz.func154 (?_:I64 n->I64 most->(named=true->(decide (1<=n) && decide (n<=most))=mJ n most named)/\(named=false->decide (n=0)=mJ n most named));grind [mJ]
def zn:Kn:=aJ (ae (kC (cL .int)) au) aw fun (l,_) _=>⟨[],[.c (.fz .u8 ((eA l))),.c (.int ((fx l)))],none,false⟩
theorem KD:CK 225 zn:=ah fun (l,_) _ _=>by
 refine av jt (OL l) Tryz.func225 (?_:(fun (q1:Prop)=>(fun (q0:Nat)=>l.length*8<=140737488355328->(cr l=false->eA l=[]/\1=fx l)/\(q1->∃ (s0:Nat),(l=l/\(↑l.length:Int)=(↑q0:Int)/\0=(↑s0:Int)/\gR (List.take s0 l)=[])/\(s0<=q0/\q1)/\∀ (s:Nat),s<=q0/\q1->((↑s:Int)<(↑q0:Int)->0<=(↑s:Int)/\(↑s:Int)<(↑l.length:Int)/\∀ (x:Int),l[s]? = some x->I64 x->0<=x/\((gR (List.take s l)).length+(cJ x.toNat).length)*1<=140737488355328/\I64 ((↑s:Int)+1)/\∃ (s':Nat),(l=l/\(↑q0:Int)=(↑q0:Int)/\(↑s:Int)+1=(↑s':Int)/\gR (List.take s l)++cJ x.toNat=gR (List.take s' l))/\(s' <= q0/\q1)/\q0 - s' < q0 - s)/\((↑q0:Int)<=(↑s:Int)->gR (List.take s l)=eA l/\0=fx l))) l.length) (cr l=true));iterate 3 ((all_goals (repeat' with_reducible first|apply bd|refine bf ?_|intro)); (all_goals try (first | exact bq | exact rfl | exact (Fp ab).symm | exact (rU ab) | exact (zA ab) | exact (Oh ab aK) | exact (Ge ab) | exact (agz ab ab) | exact (XX ab ab))); all_goals try first | refine ⟨‹Nat› + 1,?_⟩ | refine ⟨0,?_⟩)
def zt:Kn:=aJ (ae (kT (.nm .state)) (ae (kC cI) au)) aw fun (s,x,_) _=>⟨[],[.c (.int ((ak Sess.client x s.sess)))],none,false⟩
theorem MP:CK 262 zt:=ah fun (s,x,_) _ _=>by
 refine av jt [] Tryz.func262 (?_:(fun q0=>fo s (I64 x->I64 q0->q0=q0)) (ak Sess.client x s.sess));grind
def Az:Kn:=aJ (ae (kT (.nm .state)) (ae (kC cI) au)) aw fun (s,x,_) _=>⟨[],[.c (.int ((ak Opn.set x s.opens)))],none,false⟩
theorem JW:CK 340 Az:=ah fun (s,x,_) _ _=>by
 refine av jt [] Tryz.func340 (?_:(fun q0=>fo s (I64 x->I64 q0->q0=q0)) (ak Opn.set x s.opens));grind
def Ak:Kn:=aJ (ae (kT (.nm .state)) (ae (kC cI) au)) aw fun (s,x,_) _=>⟨[],[.c (.int ((ak Snap.id x s.snaps)))],none,false⟩
theorem KV:CK 302 Ak:=ah fun (s,x,_) _ _=>by
 refine av jt [] Tryz.func302 (?_:(fun q0=>fo s (I64 x->I64 q0->q0=q0)) (ak Snap.id x s.snaps));grind
def aa1:bD:=(aL 302 Ak (aL 340 Az (aL 262 zt (aL 225 zn (aL 154 EW (aL 218 CB ZL))))))
theorem wh:ay Tryz.prog (al tyT) aa1:=(ag KV (ag JW (ag MP (ag KD (ag SN (ag SO jt))))))
def sM:Kn:=aJ (ae (kC (cL .int)) (ae (kC cI) au)) aw fun (l,x,_) _=>⟨[],[.c (.bool (.atom ((l.contains x))))],none,false⟩
theorem contains_k:CK 153 sM:=ah fun (l,x,_) _ _=>by
 refine av wh [] Tryz.func153 (?_:l.length*8<=140737488355328->I64 x->I64 (iz x l)->decide (0<=iz x l)=l.contains x);intros; exact LL _ _
def yb:Kn:=aJ (ae (kT (.nm .snap)) (ae (kC (aW 0 0)) (ae (kC (aW 1 0)) au))) (aB (dx 3 (ax cI du)) (aB (dx 3 (ax cI du)) aw)) fun (x,_,_,_) ((v,_),(t,_),_)=>⟨[],[.c (.bool (.atom ((dq v t x))))],none,false⟩
theorem JO:CK 337 yb:=ah fun (x,_,_,_) ((v,_),(t,_),_) _=>by
 refine av wh [] Tryz.func337 (?_:eV x ((eA x.chunks).length*1<=140737488355328->I64 (fx x.chunks)->(decide (fx x.chunks=0) && bX x.set 1 8 && (!x.held || decide (2<=v)) && decide ((↑x.tag.b.length:Int)<=t))=dq v t x));(repeat intro); rfl
def acj:bD:=(aL 337 yb (aL 153 sM aa1))
theorem vO:ay Tryz.prog (al tyT) acj:=(ag JO (ag contains_k wh))
def LG (l:List Snap) (v:Int) (t:Int):List (Nat × LI):=[(2,{ σ:=Nat,F:=fun k=>([(1,one (.fn 337 [] [(0,0),(1,0)])),(7,one (.fz (.nm .snap) (l))),(8,one (.int (l).length)),(9,one (.int k))],[.box 3 ([.int ((v))]),.box 3 ([.int ((t))])]),J:=fun k=>k<=l.length/\(l.take k).all ((dq v t))=true,μ:=fun k=>(l).length - k })]
def Ei:Kn:=aJ (ae (kC (cL .int)) (ae (kC (aW 0 0)) au)) (aB (xq 35 (.nm .command)) aw) fun (l,_,_) (c,_)=>⟨[],[.c (.bool (.atom ((l.contains c.kind))))],none,false⟩
theorem Sj:CK 152 Ei:=ah fun (l,_,_) (c,_) _=>by
 refine av vO [] Tryz.func152 (?_:l.length*8<=140737488355328->l.contains c.kind=l.contains c.kind);grind
def tV:Kn:=aJ (ae (kC (cL (.nm .snap))) (ae (kC (qf 337 [] [(0,0),(1,0)])) au)) (aB (dx 3 (ax cI du)) (aB (dx 3 (ax cI du)) aw)) fun (l,_,_) ((v,_),(t,_),_)=>⟨[],[.c (.bool (.atom ((l.all ((dq v t))))))],none,false⟩
theorem FM:CK 336 tV:=ah fun (l,_,_) ((v,_),(t,_),_) _=>by
 refine av vO (LG l v t) Tryz.func336 (?_:(fun (q0:Nat)=>l.length*64<=140737488355328->∃ (s0:Nat),(l=l/\(↑l.length:Int)=(↑q0:Int)/\0=(↑s0:Int)/\v=v/\t=t)/\(s0<=q0/\(List.take s0 l).all (dq v t)=true)/\∀ (s:Nat),s<=q0/\(List.take s l).all (dq v t)=true->((↑s:Int)<(↑q0:Int)->0<=(↑s:Int)/\(↑s:Int)<(↑l.length:Int)/\∀ (x:Snap),l[s]? = some x->eV x ((dq v t x=false->false=l.all (dq v t))/\(dq v t x=true->I64 ((↑s:Int)+1)/\∃ (s':Nat),(l=l/\(↑q0:Int)=(↑q0:Int)/\(↑s:Int)+1=(↑s':Int)/\v=v/\t=t)/\(s' <= q0/\(List.take s' l).all (dq v t)=true)/\q0 - s' < q0 - s)))/\((↑q0:Int)<=(↑s:Int)->true=l.all (dq v t))) l.length);iterate 3 ((all_goals (repeat' with_reducible first|apply bd|refine bf ?_|intro)); (all_goals try (first | exact bq | exact (qH (p:=(dq v t)) ab ab ab) | exact (JU (p:=(dq v t)) ab ab) | exact (Lu (p:=(dq v t)) ab aK) | exact rfl)); all_goals try first | refine ⟨‹Nat› + 1,?_⟩ | refine ⟨0,?_⟩)
def acz:bD:=(aL 336 tV (aL 152 Ei acj))
theorem wk:ay Tryz.prog (al tyT) acz:=(ag FM (ag Sj vO))
theorem aaT (k:Int):(if k=12 then some (Span.mk 0 64) else if k=8 then some (Span.mk 2 3) else if k=6 then some (Span.mk 0 8) else none).getD (ao (.nm .span))=⟨(uI k).1,(uI k).2⟩:=by
 by_cases h1:k=12
 ·subst h1; rfl
 by_cases h2:k=8
 ·subst h2; rfl
 by_cases h3:k=6
 ·subst h3; rfl
 simp [uI,vu,h1,h2,h3,ao]; rfl
def IE:Kn:=aJ (ae (kT (.nm .command)) au) aw fun (c,_) _=>⟨[],[.c (.bool (.atom ((lC c))))],none,false⟩
theorem Xi:CK 91 IE:=ah fun (c,_) _ _=>by
 refine av wk [] Tryz.func91 (?_:(fun q10=>(fun q9=>(fun q8=>(fun q7=>(fun q6=>(fun q5=>(fun q4=>(fun q3=>(fun q2=>(fun q1=>(fun q11=>(fun q0=>bI c ((q9=3->(q0=true->(cr c.chunks=true->q11)/\(cr c.chunks=false->q3))/\(q0=false->q3))/\(¬q9=3->(q9=11->(q0=true->(q4->((↑c.text.b.length:Int)<=16->q1)/\(16<(↑c.text.b.length:Int)->q3))/\(¬q4->q3))/\(q0=false->q3))/\(¬q9=11->(q0=true->(q4->q11)/\(¬q4->q3))/\(q0=false->q3))))) (decide (q2.lo<=c.n) && decide (c.n<=q2.hi))) ((q8->q1)/\(¬q8->q3))) ((q7=true->(q6=true->(q5=true->mJ c.id 1048576 ([5,7,9,10,11].contains q9)=lC c)/\(q5=false->q3))/\(q6=false->q3))/\(q7=false->q3))) ((if q9=12 then some (Span.mk 0 64) else if q9=q10 then some (Span.mk 2 3) else if q9=6 then some (Span.mk 0 q10) else none).getD (ao (Sh.nm NT.span)))) (false=lC c)) ((↑c.chunks.length:Int)=0)) (mJ c.set q10 ([2,3,4].contains q9))) (mJ c.seq 1048576 ![1,q10].contains q9)) (mJ c.client q10 ![q10].contains q9)) (c.text=Str.mk [])) c.kind) (8:Int));simp only [aaT];(repeat' with_reducible first|apply bd|refine bf ?_|intro)
 all_goals ((unfold lC chF txF; simp_all) <;> (intros; omega))
def Cy:Kn:=aJ (ae (kT (.nm .state)) (ae (kC cI) au)) aw fun (s,v,_) _=>⟨[1<=s.next/\s.next<=1048576],[.c (.bool (.atom ((fO s v))))],none,false⟩
theorem OS:CK 298 Cy:=ah fun (s,v,_) _ hp=>by
 have h0:=bW hp;refine av wk [] Tryz.func298 (?_:(fun q1=>(fun q0=>fo s (I64 v->(q1<=16->I64 q0/\q0<=1048576)/\(16<q1\/az Snap.id q0 0 s.snaps=false->false=fO s v)/\(q1<=16/\az Snap.id q0 0 s.snaps=true->(v<3->s.snaps.all (dq v 0)=fO s v)/\(3<=v->s.snaps.all (dq v 16)=fO s v)))) (s.next - 1)) (↑s.snaps.length:Int));(repeat' with_reducible first|apply bd|refine bf ?_|intro)
 all_goals (first | exact bq | ((simp only [fO,vM]; simp_all) <;> (intros; omega)) | (simp only [fO,vM]; grind))
def abU:bD:=(aL 298 Cy (aL 91 IE acz))
theorem Fi:ay Tryz.prog (al tyT) abU:=(ag OS (ag Xi wk))
end Go.Proofs.YticbaadnibdbkaaGreat
