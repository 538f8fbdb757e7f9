/- What leads to the law, part 1. Conditions: each lemma's own. -/
import Derived.DeepKeys
import Derived.KernelRfl
import Derived.LaidEqlPtr
import Derived.Laws.IdiomStrings
import Derived.Lib.SliceRun
import Derived.Maps.AppendAt
import Derived.OrdersIn
import Derived.StillTail
import Derived.TacticsIn
import Derived.WalkKit
import Derived.WalkLawsBesides
import Derived.WalkSpells
set_option linter.unusedVariables false
set_option linter.unusedSimpArgs false
namespace Go.Proofs.Ytjmbgkmkinmlkaa
open Go.RowKit
theorem cg {a b:Prop} (x:a) (y:b):a/\b:=And.intro x y
theorem cj {a b c:Prop} (h:a->b->c):a/\b->c:=fun x=>h x.1 x.2
theorem aO {p:Prop} (h:p:=by with_reducible assumption):p:=h
theorem bt {p:Prop} (h:p:=by omega):p:=h
theorem cG {p:Prop} (h:p:=by first | with_reducible rfl | with_reducible assumption | omega | (constructor <;> omega)):p:=h
abbrev Fr:=List (Nat × Value)
def look:Fr->Nat->Option Value
 | [],_=>none
 | (j,v) :: r,i=>bif Nat.beq j i then some v else look r i
def ev (fr:Fr):Operand->Option Value
 | .tmp i=>look fr i
 | .const v=>some v
 | .global g=>some (.pointer (some ⟨g,0,none⟩))
 | .func f=>some (.func (.func f) #[] #[])
def M (n:Nat) (fr:Fr) (a:Act):Prop:=
 a.defers=[]/\a.tmps.size=n/\∀ i v,look fr i=some v->i<n/\a.tmps.getD i undef=v
theorem M.ev {n:Nat} {fr:Fr} {a:Act} {x:Operand} {v:Value} (h:M n fr a) (hx:ev fr x=some v):a.eval x=v:=by
 cases x with
 | tmp i=>exact (h.2.2 i v hx).2
 | const c=>exact Option.some.inj hx
 | global g=>exact Option.some.inj hx
 | func f=>exact Option.some.inj hx
theorem aY {j i:Nat} {v:Value} {r:Fr}:look ((j,v) :: r) i=if j=i then some v else look r i:=by
 show (bif Nat.beq j i then some v else look r i)=_
 by_cases h:j=i
 ·simp [h]
 ·have:Nat.beq j i=false:=by rw [<- Bool.not_eq_true,Nat.beq_eq]; exact h
  simp [this,h]
theorem M.put {n d:Nat} {fr:Fr} {a:Act} {v:Value} (h:M n fr a) (hd:Nat.blt d n=true):M n ((d,v) :: fr) (a.put (some d) v):=by
 have hdn:d<n:=by simpa using hd
 obtain ⟨h1,h2,h3⟩:=h
 refine ⟨h1,by simp [Act.put,h2],fun i u hu=>?_⟩
 rw [aY] at hu
 by_cases hi:d=i
 ·subst hi
  rw [if_pos rfl] at hu
  cases hu
  exact ⟨hdn,by simp [Act.put,Array.getD,h2,hdn]⟩
 ·rw [if_neg hi] at hu
  obtain ⟨hin,hg⟩:=h3 i u hu
  refine ⟨hin,?_⟩
  rw [<- hg]
  simp [Act.put,Array.getD,h2,hin,hi]
theorem M.at_ {n:Nat} {fr:Fr} {a:Act} {t:Nat} {v:Value} (h:M n fr a) (hv:look fr t=some v):a.tmps[t]?.getD undef=v:=by
 have:=(h.2.2 t v hv).2
 simpa [Array.getD_eq_getD_getElem?] using this
def Ca:List Nat->Fr->Option Fr
 | [],_=>some []
 | k :: ks,fr=>
  match look fr k,Ca ks fr with
  | some v,some r=>some ((k,v) :: r)
  | _,_=>none
theorem tu {fr:Fr}:∀ {ks:List Nat} {fr':Fr},Ca ks fr=some fr' -> ∀ i v,look fr' i=some v->look fr i=some v
 | [],fr',h,i,v,hv=>by simp [Ca] at h; subst h; cases hv
 | k :: ks,fr',h,i,v,hv=>by
  simp only [Ca] at h
  split at h
  ·rename_i u r hu hr
   cases h
   rw [aY] at hv
   by_cases hki:k=i
   ·subst hki; rw [if_pos rfl] at hv; cases hv; exact hu
   ·rw [if_neg hki] at hv; exact tu hr i v hv
  ·cases h
theorem M.sub {n:Nat} {fr fr':Fr} {a:Act} (h:M n fr a) (hs:∀ i v,look fr' i=some v->look fr i=some v):M n fr' a:=
 ⟨h.1,h.2.1,fun i v hv=>h.2.2 i v (hs i v hv)⟩
abbrev kg (ro:Option Nat):Fence:={ fn:=fun _=>True,depth:=none,alive:=false,round:=ro }
def gh (a:Act) (ds:List Deferred):Act:={ a with defers:=ds }
def jk (ds:List Deferred) (Q:Exit->Act->World->Prop) (e:Exit) (a:Act) (w:World):Prop:=∃ a0:Act,a0.defers=[]/\a=gh a0 ds/\Q e a0 w
def js (P:Program) (c:Code) (Q:Exit->Act->World->Prop) (a:Act) (w:World):Prop:=∀ ro ds,c.wpIn (kg ro) 0 P (jk ds Q) (gh a ds) w
def Dp (P:Program) (l:Array Oper) (Q:Exit->Act->World->Prop) (rest:List Oper) (a:Act) (w:World):Prop:=∀ ro ds,wpListIn (kg ro) 0 P l (jk ds Q) rest (gh a ds) w
theorem l_ (a:Act) (ds:List Deferred):(gh a ds).eval=a.eval:=by funext x; cases x <;> rfl
theorem iR (a:Act) (ds:List Deferred) (d:Option Tmp) (v:Value):(gh a ds).put d v=gh (a.put d v) ds:=by cases d <;> rfl
theorem CV {a b:Act} {ds:List Deferred} (h:gh a ds=gh b ds) (ha:a.defers=[]) (hb:b.defers=[]):a=b:=by
 cases a; cases b
 simp only [gh,Act.mk.injEq,and_true] at h
 simp only at ha hb
 rw [h,ha,hb]
theorem wy {a:Act} (h:a.defers=[]) (d:Option Tmp) (v:Value):(a.put d v).defers=[]:=by cases d <;> exact h
theorem yd {ds:List Deferred} {Q Q':Exit->Act->World->Prop} {e:Exit} {a:Act} {w:World} (h:jk ds Q e a w) (hq:∀ a,Q e a w->Q' e a w):jk ds Q' e a w:=let ⟨a0,h0,h1,h2⟩:=h; ⟨a0,h0,h1,hq _ h2⟩
section prim
variable {P:Program} {Q:Exit->Act->World->Prop} {a:Act} {w:World}
theorem Ae {c:Code} {Q':Exit->Act->World->Prop} (h:js P c Q a w) (hq:∀ e a w,Q e a w->Q' e a w):js P c Q' a w:=fun ro ds=>wpIn_mono (h ro ds) fun e _ w hh=>yd hh fun a=>hq e a w
theorem BU (hd:a.defers=[]) (h:Q .normal a w):js P .skip Q a w:=fun _ _=>wpIn_skip ⟨a,hd,rfl,h⟩
theorem ye {l:Nat} (hd:a.defers=[]) (h:Q .normal a w):js P (.label l) Q a w:=fun _ _=>wpIn_label ⟨a,hd,rfl,h⟩
theorem zT {id:Nat} (hd:a.defers=[]) (h:Q (.exit id) a w):js P (.exit id) Q a w:=fun _ _=>wpIn_exit ⟨a,hd,rfl,h⟩
theorem FR (hd:a.defers=[]) (h:Q .ret a w):js P .ret Q a w:=fun _ _=>wpIn_ret ⟨a,hd,rfl,h⟩
theorem FY {x y:Code} (h:js P x (Exit.then (js P y Q) Q) a w):js P (.seq x y) Q a w:=fun ro ds=>wpIn_seq (wpIn_mono (h ro ds) fun e a w hq=>by
 cases e with
 | normal=>obtain ⟨a0,_,rfl,hq⟩:=hq; exact hq ro ds
 | _=>exact hq)
theorem ym {id:Nat} {c:Code} (h:js P c (Exit.inBlock id Q) a w):js P (.block id c) Q a w:=fun ro ds=>wpIn_block (wpIn_mono (h ro ds) fun e a w hq=>by
 cases e with
 | exit j=>
  obtain ⟨a0,h0,rfl,hq⟩:=hq
  simp only [Exit.inBlock] at hq ⊢
  split
  ·rename_i e; rw [if_pos e] at hq; exact ⟨a0,h0,rfl,hq⟩
  ·rename_i e; rw [if_neg e] at hq; exact ⟨a0,h0,rfl,hq⟩
 | _=>exact hq)
theorem uv {id:Nat} {l:List Oper} (h:Dp P l.toArray Q l a w):js P (.region id l.toArray false) Q a w:=fun ro ds=>wpIn_region_lit (h ro ds)
theorem nq {c:Operand} {x y:Code} {t:Bool} (hc:a.eval c = .bool t) (ht:t=true->js P x Q a w) (hf:t=false->js P y Q a w):js P (.cond c x y) Q a w:=
 fun ro ds=>wpIn_cond_split (by rw [l_]; exact hc) (fun h=>ht h ro ds) (fun h=>hf h ro ds)
theorem oc {c:Operand} {x y:Code} (hc:a.eval c = .bool true) (h:js P x Q a w):js P (.cond c x y) Q a w:=fun ro ds=>wpIn_cond_true (by rw [l_]; exact hc) (h ro ds)
theorem mM {c:Operand} {x y:Code} (hc:a.eval c = .bool false) (h:js P y Q a w):js P (.cond c x y) Q a w:=fun ro ds=>wpIn_cond_false (by rw [l_]; exact hc) (h ro ds)
theorem xP {c:Code} (h:js P c (Exit.noGoto Q) a w):js P (.scope c) Q a w:=by
 intro ro ds b k cs hro hb hr
 have h0:(lone (b.atR (gh a ds) (.code (.scope c) :: k)) cs w).fenced P (kg ro):=fenced_calm hb hr rfl
 have s1:step P (lone (b.atR (gh a ds) (.code (.scope c) :: k)) cs w) = .next (lone (b.atR (gh a ds) (.code c :: .inScope c :: k)) cs w):=step_lone_go (by simp [stepG,stepG.exec,Frame.atR])
 have s2:∀ a w,step P (lone (b.atR a (.inScope c :: k)) cs w) = .next (lone (b.atR a k) cs w):=fun a w=>step_lone_go (by simp [stepG,stepG.exec,Frame.atR])
 obtain ⟨e,a₁,w₁,⟨a0,hd,rfl,hq⟩,harr⟩:=h ro ds b (.inScope c :: k) cs hro hb hr
 cases e with
 | normal=>exact ⟨.normal,_,w₁,⟨a0,hd,rfl,hq⟩,.head h0 s1 (StepsIn.trans harr (.one (fenced_calm hb hr rfl) (s2 _ _)))⟩
 | exit id=>
  have hx:exitTo id (.inScope c :: k)=exitTo id k:=by simp [exitTo]
  exact ⟨.exit id,_,w₁,⟨a0,hd,rfl,hq⟩,fun k' hk=>.head h0 s1 (harr.1 k' (by rw [hx]; exact hk)),fun hr' hk=>let ⟨k₁,h1,h2⟩:=harr.2 hr' (by rw [hx]; exact hk); ⟨k₁,h1,.head h0 s1 h2⟩⟩
 | goto l=>exact hq.elim
 | ret=>exact ⟨_,_,w₁,⟨a0,hd,rfl,hq⟩,.of_steps (.one h0 s1) harr⟩
 | panic ch=>exact ⟨_,_,w₁,⟨a0,hd,rfl,hq⟩,.of_steps (.one h0 s1) harr⟩
 | outgrown=>exact ⟨_,_,w₁,⟨a0,hd,rfl,hq⟩,.of_steps (.one h0 s1) harr⟩
theorem nh {σ:Type} {c:Code} (D:Act->World->σ->Prop) (μ:σ->Nat) (s0:σ) (h0:D a w s0)
  (round:∀ s a w,D a w s->js P c (fun e a w=>match e with | .normal=>∃ s',D a w s' /\ μ s' < μ s | e=>Q e a w) a w):js P (.loop c) Q a w:=by
 intro ro ds b k cs hro hb hr
 have key:∀ m,∀ s a w,μ s=m->D a w s->∃ e a' w',jk ds Q e a' w' /\ ArrivesIn (Machine.fenced P (kg ro)) P (lone (b.atR (gh a ds) (.code c :: .inLoop c :: k)) cs w) b k cs e a' w':=by
  intro m
  induction m using Nat.strongRecOn with
  | _ m ih=>
   intro s a w hm hD
   obtain ⟨e,a₁,w₁,⟨a0,hd,rfl,hq⟩,harr⟩:=round s a w hD ro ds b (.inLoop c :: k) cs hro hb hr
   cases e with
   | normal=>
    obtain ⟨s',hD',hlt⟩:=hq
    obtain ⟨e₂,a₂,w₂,hq₂,harr₂⟩:=ih (μ s') (hm ▸ hlt) s' a0 w₁ rfl hD'
    exact ⟨e₂,a₂,w₂,hq₂,.of_steps (StepsIn.trans harr (.one (fenced_calm hb hr rfl) stepR_inLoop)) harr₂⟩
   | exit id=>exact ⟨_,_,w₁,⟨a0,hd,rfl,hq⟩,.pass (x:=.inLoop c) rfl (fun _ _=>.inl (by simp)) harr⟩
   | goto l=>exact ⟨_,_,w₁,⟨a0,hd,rfl,hq⟩,.pass (x:=.inLoop c) rfl (fun _ _=>.inl (by simp)) harr⟩
   | ret=>exact ⟨_,_,w₁,⟨a0,hd,rfl,hq⟩,.pass (x:=.inLoop c) rfl (fun _ _=>.inl (by simp)) harr⟩
   | panic ch=>exact ⟨_,_,w₁,⟨a0,hd,rfl,hq⟩,.pass (x:=.inLoop c) rfl (fun _ _=>.inl (by simp)) harr⟩
   | outgrown=>exact ⟨_,_,w₁,⟨a0,hd,rfl,hq⟩,.pass (x:=.inLoop c) rfl (fun _ _=>.inl (by simp)) harr⟩
 obtain ⟨e,a',w',hq,harr⟩:=key _ s0 a w rfl h0
 exact ⟨e,a',w',hq,.of_steps (.one (fenced_calm hb hr rfl) stepR_loop) harr⟩
theorem Ib {f:FuncId} {args:Array Value} {R:Ending->World->Prop} {ro:Option Nat} {n:Nat} (h:Calls P f args w R):CallsIn (kg ro) n P f args w R:=
 ⟨trivial,fun cs _=>let ⟨e,w',fr,r,s,x⟩:=h cs; ⟨e,w',fr,r,comesIn_wide.2 s,x⟩⟩
theorem Im {c:Code} (hd:a.defers=[]) (h:js P c Q a w):c.wp P Q a w:=by
 have h1:=(wpIn_wide (n:=0)).1 (h none [])
 have e:gh a []=a:=by rw [gh,<- hd]
 rw [e] at h1
 refine wp_mono h1 fun e a' w' ⟨a0,h0,e1,hq⟩=>?_
 have e2:gh a0 []=a0:=by rw [gh,<- h0]
 rw [e1,e2]; exact hq
theorem Nz {ro:Option Nat} {ρ:Operand->Value} {o:Oper} {x:Next} {w':World} (h:(execOp ρ o).run P w = .ok x w') (hx:∀ d,x ≠ .defer d):(o.semAt ro ρ).run P w = .ok x w':=by
 rw [Oper.semAt_eq]
 ·exact h
 ·intro c hc
  rw [execOp.eq_def,hc] at h
  simp only [Sem.run_bind] at h
  cases hr:(resolve ρ c o.type).run P w with
  | ok d w2=>rw [hr] at h; simp at h; exact hx _ h.1.symm
  | halt d w2=>rw [hr] at h; cases h
def GI (P:Program) (o:Oper) (a:Act) (K:Act->World->Prop):Result Next->Prop
 | .ok (.value v) w'=>K (a.put o.dst v) w'
 | .ok .skip w'=>K (a.put o.dst undef) w'
 | .ok (.enter f args) w'=>Calls P f args w' fun e w''=>∃ v,e = .returned v/\K (a.put o.dst v) w''
 | _=>False
theorem Cp {o:Oper} {K:Act->World->Prop} {ro:Option Nat} {r:Result Next} (h:GI P o a K r):o.uponIn (kg ro) 0 P a K Q r:=by
 cases r with
 | ok x w'=>
  cases x <;> first | exact h | exact h.elim | skip
  case enter f args=>exact ⟨(fun h=>by cases h),(Ib h).mono fun e w'' ⟨v,he,hv⟩=>by subst he; exact hv⟩
 | halt x w'=>cases x <;> exact h.elim
theorem fu {l:Array Oper} {o:Oper} {rest:List Oper} (hg:o.guard=none) (h:∀ K:Act->World->Prop,(∀ a w,Dp P l Q rest a w->K a w)->GI P o a K ((execOp a.eval o).run P w)):Dp P l Q (o :: rest) a w:=fun ro ds=>
 wpListIn_plain hg fun K hK=>by
  refine ⟨fun _ _=>trivial,?_⟩
  rw [l_]
  have h1:=h (fun a w=>Dp P l Q rest a w) (fun _ _ h=>h)
  have hK:∀ (d:Option Tmp) (v:Value) w,Dp P l Q rest (a.put d v) w->K ((gh a ds).put d v) w:=fun d v w h=>by rw [iR]; exact hK _ _ (h ro ds)
  cases hr:(execOp a.eval o).run P w with
  | ok x w'=>
   rw [hr] at h1
   have hx:∀ d,x ≠ .defer d:=fun d e=>by subst e; exact h1.elim
   rw [Nz hr hx]
   refine Cp ?_
   cases x <;> first | exact h1.elim | exact hK _ _ _ h1 | skip
   case enter f args=>exact Calls.mono h1 fun e w'' ⟨v,he,hv⟩=>⟨v,he,hK _ _ _ hv⟩
  | halt x w'=>rw [hr] at h1; exact h1.elim
end prim
def WX (Q:Exit->Act->World->Prop) (n:Nat) (e:Exit) (fr:Fr) (w:World):Prop:=∀ a,M n fr a->Q e a w
def WC (P:Program) (Q:Exit->Act->World->Prop) (n:Nat) (c:Code) (fr:Fr) (w:World):Prop:=∀ a,M n fr a->js P c Q a w
def WO (P:Program) (Q:Exit->Act->World->Prop) (n:Nat) (l rest:List Oper) (fr:Fr) (w:World):Prop:=∀ a,M n fr a->Dp P l.toArray Q rest a w
def gw (P:Program) (f:FuncId) (args:Array Value) (w:World) (φ:Value->World->Prop):Prop:=Calls P f args w fun e w'=>∃ v,e = .returned v/\φ v w'
theorem gw.mono {P:Program} {f:FuncId} {args:Array Value} {w:World} {φ ψ:Value->World->Prop} (h:gw P f args w φ) (hh:∀ v w',φ v w' -> ψ v w'):gw P f args w ψ:=
 Calls.mono h fun _ _ ⟨v,he,hv⟩=>⟨v,he,hh _ _ hv⟩
section rules
variable {P:Program} {Q:Exit->Act->World->Prop} {n:Nat} {fr:Fr} {w:World}
theorem WX.Oq {e:Exit} (ks:List Nat) {fr':Fr} (h:Ca ks fr=some fr') (k:WX Q n e fr' w):WX Q n e fr w:=
 fun a ha=>k a (ha.sub (tu h))
theorem WC.seq {x y:Code} (h:WC P (Exit.then (js P y Q) Q) n x fr w):WC P Q n (.seq x y) fr w:=fun a ha=>FY (h a ha)
theorem WC.skip (h:WX Q n .normal fr w):WC P Q n .skip fr w:=fun a ha=>BU ha.1 (h a ha)
theorem WC.label {l:Nat} (h:WX Q n .normal fr w):WC P Q n (.label l) fr w:=fun a ha=>ye ha.1 (h a ha)
theorem WC.exit {id:Nat} (h:WX Q n (.exit id) fr w):WC P Q n (.exit id) fr w:=fun a ha=>zT ha.1 (h a ha)
theorem WC.ret (h:WX Q n .ret fr w):WC P Q n .ret fr w:=fun a ha=>FR ha.1 (h a ha)
theorem WC.block {id:Nat} {c:Code} (h:WC P (Exit.inBlock id Q) n c fr w):WC P Q n (.block id c) fr w:=fun a ha=>ym (h a ha)
theorem WC.region {id:Nat} {l:List Oper} (h:WO P Q n l l fr w):WC P Q n (.region id l.toArray false) fr w:=fun a ha=>uv (h a ha)
theorem WC.cond {c:Operand} {x y:Code} {b:Bool} (hc:ev fr c=some (.bool b)) (ht:b=true->WC P Q n x fr w) (hf:b=false->WC P Q n y fr w):WC P Q n (.cond c x y) fr w:=
 fun a ha=>nq (ha.ev hc) (fun h=>ht h a ha) (fun h=>hf h a ha)
theorem WC.z_ {c:Operand} {x y:Code} (hc:ev fr c=some (.bool true)) (ht:WC P Q n x fr w):WC P Q n (.cond c x y) fr w:=
 fun a ha=>oc (ha.ev hc) (ht a ha)
theorem WC.Lt {c:Operand} {x y:Code} (hc:ev fr c=some (.bool false)) (hf:WC P Q n y fr w):WC P Q n (.cond c x y) fr w:=
 fun a ha=>mM (ha.ev hc) (hf a ha)
theorem WX.next {y:Code} (h:WC P Q n y fr w):WX (Exit.then (js P y Q) Q) n .normal fr w:=h
theorem WX.eV {k:Act->World->Prop} (h:WX Q n .ret fr w):WX (Exit.then k Q) n .ret fr w:=h
theorem WX.sG {k:Act->World->Prop} {id:Nat} (h:WX Q n (.exit id) fr w):WX (Exit.then k Q) n (.exit id) fr w:=h
theorem WX.ou {id:Nat} (h:WX Q n .normal fr w):WX (Exit.inBlock id Q) n .normal fr w:=h
theorem WX.Ax {id:Nat} (h:WX Q n .normal fr w):WX (Exit.inBlock id Q) n (.exit id) fr w:=fun a ha=>by
 show (if id=id then Q .normal a w else _)
 rw [if_pos rfl]; exact h a ha
def Oo (Q:Exit->Act->World->Prop) (n:Nat) (fr':Fr) (J:World->Prop):Exit->Act->World->Prop
 | .normal,a,w=>M n fr' a/\J w
 | e,a,w=>Q e a w
def Has (fr:Fr):Fr->Prop
 | []=>True
 | (i,v) :: r=>(∃ u,look fr i=some u/\u=v)/\Has fr r
theorem Has.look {fr:Fr}:∀ {fr':Fr},Has fr fr' -> ∀ i v,look fr' i=some v->look fr i=some v
 | [],_,i,v,hv=>by cases hv
 | (j,u) :: r,h,i,v,hv=>by
  rw [aY] at hv
  by_cases hji:j=i
  ·subst hji
   rw [if_pos rfl] at hv; cases hv
   obtain ⟨u',hu',rfl⟩:=h.1
   exact hu'
  ·rw [if_neg hji] at hv; exact Has.look h.2 i v hv
theorem HW {F:Fence} {m:Nat} {o:Oper} {a:Act} {w:World} {K K':Act->World->Prop} {Q':Exit->Act->World->Prop} (hK:∀ a w,K a w->K' a w) (hQ:∀ e a w,e ≠ .normal->Q e a w->Q' e a w) (h:o.wpIn F m P a w K Q):o.wpIn F m P a w K' Q':=by
 unfold Oper.wpIn at h ⊢
 refine ⟨h.1,?_⟩
 have h:=h.2
 generalize (o.semAt F.round a.eval).run P w=r at *
 have hE:∀ (e:Ending) (w'':World),(match e,w'' with | .returned v,w''=>K (a.put o.dst v) w'' | .panicked chain,w''=>Q (.panic chain) a w'' | .outgrown,_=>LetsOut Q) ->
   (match e,w'' with | .returned v,w''=>K' (a.put o.dst v) w'' | .panicked chain,w''=>Q' (.panic chain) a w'' | .outgrown,_=>LetsOut Q'):=fun e w'' he=>by
  cases e with
  | returned v=>exact hK _ _ he
  | panicked c=>exact hQ _ _ _ (by simp) he
  | outgrown=>obtain ⟨a',w',h'⟩:=he; exact ⟨a',w',hQ _ _ _ (by simp) h'⟩
 cases r with
 | ok x w'=>
  cases x <;> simp only [Oper.uponIn] at h ⊢ <;>
   first
    | exact hK _ _ h
    | exact ⟨h.1,CallsIn.mono h.2 hE⟩
    | exact ⟨h.1,RowsIn.mono h.2 (fun _ _ he=>hK _ _ he)⟩
    | exact ⟨h.1,RoundIn.mono h.2 hE⟩
 | halt x w'=>cases x <;> simp only [Oper.uponIn] at h ⊢ <;> exact hQ _ _ _ (by simp) h
theorem wg {F:Fence} {m:Nat} {o:Oper} {A:Act} {w:World} {K K':Act->World->Prop} {t:Nat} (ho:∀ d,o.dst=some d->d≠t) (hK:∀ A' w',A'.tmps[t]? = A.tmps[t]? -> K A' w' -> K' A' w') (h:o.wpIn F m P A w K Q):o.wpIn F m P A w K' Q:=by
 have hp:∀ (D:List Deferred) v,(({ tmps:=A.tmps,defers:=D }:Act).put o.dst v).tmps[t]? = A.tmps[t]?:=fun D v=>by
  cases hd:o.dst with
  | none=>rfl
  | some d=>simp [Act.put,ho d hd]
 unfold Oper.wpIn at h ⊢
 refine ⟨h.1,?_⟩
 have h:=h.2
 generalize (o.semAt F.round A.eval).run P w=r at *
 have hE:∀ (e:Ending) (w'':World),(match e,w'' with | .returned v,w''=>K (A.put o.dst v) w'' | .panicked chain,w''=>Q (.panic chain) A w'' | .outgrown,_=>LetsOut Q) ->
   (match e,w'' with | .returned v,w''=>K' (A.put o.dst v) w'' | .panicked chain,w''=>Q (.panic chain) A w'' | .outgrown,_=>LetsOut Q):=fun e w'' he=>by
  cases e with
  | returned v=>exact hK _ _ (hp A.defers v) he
  | panicked c=>exact he
  | outgrown=>exact he
 cases r with
 | ok x w'=>
  cases x <;> simp only [Oper.uponIn] at h ⊢
  case value u=>exact hK _ _ (hp A.defers _) h
  case skip=>exact hK _ _ (hp A.defers _) h
  case defer=>exact hK _ _ (hp _ _) h
  case enter f args=>exact ⟨h.1,CallsIn.mono h.2 hE⟩
  case row r args=>exact ⟨h.1,RowsIn.mono h.2 (fun _ _ he=>hK _ _ (hp A.defers _) he)⟩
  case round l f tmps assign body=>exact ⟨h.1,RoundIn.mono h.2 hE⟩
 | halt x w'=>cases x <;> simp only [Oper.uponIn] at h ⊢ <;> exact h
def AD (j:Nat) (wt:Bool) (o:Oper):Oper:=bif (match o.guard with | some (i,b)=>Nat.beq i j && (b == wt) | none=>false) then { o with guard:=none } else o
theorem lj {F:Fence} {m:Nat} {l:Array Oper} {j t:Nat} {wt:Bool} (hy:∀ A:Act,A.tmps[t]? = some (.bool wt)->yielded l A.tmps j=some wt) {pk mv:Oper} {tail:List Oper}
  (hpk:∀ (A:Act) (w:World),A.tmps[t]? = some (.bool wt)->wpListIn F m P l Q (mv :: tail) A w->wpListIn F m P l Q (pk :: tail) A w) :
  ∀ (grp:List Oper),(∀ o ∈ grp,∀ d,o.dst=some d->d≠t)->∀ (A:Act) (w:World),A.tmps[t]? = some (.bool wt)->wpListIn F m P l Q (grp.map (AD j wt)++mv :: tail) A w->wpListIn F m P l Q (grp++pk :: tail) A w
 | [],_,A,w,ht,h=>hpk A w ht h
 | o :: r,ho,A,w,ht,h=>by
  have ih:=lj hy hpk r fun x hx=>ho x (List.mem_cons_of_mem _ hx)
  have ho1:=ho o List.mem_cons_self
  rw [List.map_cons,List.cons_append] at h
  rw [List.cons_append]
  by_cases hg:(match o.guard with | some (i,b)=>Nat.beq i j && (b == wt) | none=>false)=true
  ·have e:AD j wt o={ o with guard:=none }:=by unfold AD; rw [hg]; rfl
   rw [e] at h
   unfold wpListIn at h ⊢
   have h1:Region.wanted { o with guard:=none } (yielded l A.tmps)=true:=rfl
   have h2:Region.wanted o (yielded l A.tmps)=true:=by
    split at hg
    ·rename_i i b hgo
     simp only [Bool.and_eq_true,beq_iff_eq] at hg
     have hi:=Nat.eq_of_beq_eq_true hg.1
     simp [Region.wanted,hgo,hi,hg.2,hy A ht]
    ·cases hg
   rw [if_pos h1] at h
   rw [if_pos h2]
   have h:o.wpIn F m P A w (wpListIn F m P l Q (r.map (AD j wt)++mv :: tail)) Q:=h
   exact wg (o:=o) (t:=t) ho1 (fun A' w' e h=>ih A' w' (e.trans ht) h) h
  ·have e:AD j wt o=o:=by unfold AD; rw [Bool.not_eq_true] at hg; rw [hg]; rfl
   rw [e] at h
   unfold wpListIn at h ⊢
   split
   ·rename_i hw
    rw [if_pos hw] at h
    exact wg (o:=o) (t:=t) ho1 (fun A' w' e h=>ih A' w' (e.trans ht) h) h
   ·rename_i hw
    rw [if_neg hw] at h
    refine ⟨h.1,ih _ _ ?_ h.2⟩
    cases hd:o.dst with
    | none=>exact ht
    | some d=>simp [Act.put,ho1 d hd,ht]
theorem Kb {a:Act} {t:Nat} {v:Value} (ha:M n fr a) (hv:look fr t=some v):a.tmps[t]? = some v:=by
 obtain ⟨h1,h2⟩:=ha.2.2 t v hv
 have:t<a.tmps.size:=by rw [ha.2.1]; exact h1
 simp only [Array.getD,this,dite_true] at h2
 rw [Array.getElem?_eq_getElem this]; exact congrArg some h2
def zl {σ:Type} (Q:Exit->Act->World->Prop) (n:Nat) (F:σ->Fr) (J:σ->World->Prop) (μ:σ->Nat) (m:Nat):Exit->Act->World->Prop
 | .normal,a,w=>∃ s,M n (F s) a/\J s w/\μ s<m
 | e,a,w=>Q e a w
theorem WC.Gc {σ:Type} {c:Code} (F:σ->Fr) (J:σ->World->Prop) (μ:σ->Nat) (s0:σ) (h0:∀ i v,look (F s0) i=some v->look fr i=some v) (hJ:J s0 w)
  (round:∀ s w',J s w' -> WC P (zl Q n F J μ (μ s)) n c (F s) w'):WC P Q n (.loop c) fr w:=by
 intro a ha
 refine nh (fun a w s=>M n (F s) a/\J s w) μ s0 ⟨ha.sub h0,hJ⟩ fun s a w hD=>Ae (round s w hD.2 a hD.1) fun e a w hq=>?_
 cases e with
 | normal=>obtain ⟨s',h1,h2,h3⟩:=hq; exact ⟨s',⟨h1,h2⟩,h3⟩
 | exit id=>exact hq
 | goto l=>exact hq
 | ret=>exact hq
 | panic ch=>exact hq
 | outgrown=>exact hq
theorem WX.rB {σ:Type} {F:σ->Fr} {J:σ->World->Prop} {μ:σ->Nat} {m id:Nat} (h:WX Q n (.exit id) fr w):WX (zl Q n F J μ m) n (.exit id) fr w:=h
theorem WX.rA {σ:Type} {F:σ->Fr} {J:σ->World->Prop} {μ:σ->Nat} {m:Nat} (s:σ) (hf:Has fr (F s)) (hJ:J s w) (hm:μ s<m):WX (zl Q n F J μ m) n .normal fr w:=
 fun _ ha=>⟨s,ha.sub hf.look,hJ,hm⟩
def aU (P:Program) (n:Nat) (fr:Fr) (w:World) (op:Op) (ty:TypeId) (v:Value) (w':World):Prop:=
 ∀ a d pos af g,M n fr a->(execOp a.eval ⟨d,op,ty,pos,af,g⟩).run P w = .ok (.value v) w'
def eO (P:Program) (n:Nat) (fr:Fr) (w:World) (op:Op) (ty:TypeId) (w':World):Prop:=
 ∀ a d pos af g,M n fr a->(execOp a.eval ⟨d,op,ty,pos,af,g⟩).run P w = .ok .skip w'
def qH (P:Program) (n:Nat) (fr:Fr) (w:World) (op:Op) (ty:TypeId) (f:FuncId) (args:Array Value):Prop:=
 ∀ a d pos af g,M n fr a->(execOp a.eval ⟨d,op,ty,pos,af,g⟩).run P w = .ok (.enter f args) w
variable {l rest:List Oper} {d:Nat} {op:Op} {ty:TypeId} {pos:String} {af:Array Edge}
theorem WO.nil (h:WX Q n .normal fr w):WO P Q n l [] fr w:=fun a ha _ _=>⟨a,ha.1,rfl,h a ha⟩
theorem WO.v {v:Value} {w':World} (h:aU P n fr w op ty v w') (hd:Nat.blt d n=true) (k:WO P Q n l rest ((d,v) :: fr) w'):WO P Q n l (⟨some d,op,ty,pos,af,none⟩ :: rest) fr w:=fun a ha=>
 fu rfl fun K hK=>by
  rw [h a _ _ _ _ ha]
  exact hK _ _ (k _ (ha.put hd))
theorem WO.v0 {v:Value} {w':World} (h:aU P n fr w op ty v w') (k:WO P Q n l rest fr w'):WO P Q n l (⟨none,op,ty,pos,af,none⟩ :: rest) fr w:=fun a ha=>
 fu rfl fun K hK=>by
  rw [h a _ _ _ _ ha]
  exact hK _ _ (k _ ha)
theorem WO.s {w':World} (h:eO P n fr w op ty w') (k:WO P Q n l rest fr w'):WO P Q n l (⟨none,op,ty,pos,af,none⟩ :: rest) fr w:=fun a ha=>
 fu rfl fun K hK=>by
  rw [h a _ _ _ _ ha]
  exact hK _ _ (k _ ha)
theorem WO.c {f:FuncId} {args:Array Value} {φ:Value->World->Prop} (h:qH P n fr w op ty f args) (hc:gw P f args w φ) (hd:Nat.blt d n=true) (k:∀ v w',φ v w' -> WO P Q n l rest ((d,v) :: fr) w') :
  WO P Q n l (⟨some d,op,ty,pos,af,none⟩ :: rest) fr w:=fun a ha=>
 fu rfl fun K hK=>by
  rw [h a _ _ _ _ ha]
  exact Calls.mono hc fun e w' ⟨v,he,hv⟩=>⟨v,he,hK _ _ (k v w' hv _ (ha.put hd))⟩
theorem WO.c0 {f:FuncId} {args:Array Value} {φ:Value->World->Prop} (h:qH P n fr w op ty f args) (hc:gw P f args w φ) (k:∀ v w',φ v w' -> WO P Q n l rest fr w') :
  WO P Q n l (⟨none,op,ty,pos,af,none⟩ :: rest) fr w:=fun a ha=>
 fu rfl fun K hK=>by
  rw [h a _ _ _ _ ha]
  exact Calls.mono hc fun e w' ⟨v,he,hv⟩=>⟨v,he,hK _ _ (k v w' hv _ ha)⟩
def idst:List Oper->Nat->Option Nat
 | [],_=>none
 | o :: _,0=>o.dst
 | _ :: r,i+1=>idst r i
theorem fJ:∀ (l:List Oper) (j:Nat),idst l j=(l[j]?).bind (·.dst)
 | [],_=>rfl
 | _ :: _,0=>rfl
 | _ :: r,i+1=>fJ r i
theorem iZ {j t:Nat} {b:Bool} {a:Act} (ha:M n fr a) (hj:idst l j=some t) (hv:look fr t=some (.bool b)):yielded l.toArray a.tmps j=some b:=by
 obtain ⟨h1,h2⟩:=ha.2.2 t _ hv
 rw [fJ] at hj
 have h3:a.tmps[t]? = some (.bool b):=by
  have:t<a.tmps.size:=by rw [ha.2.1]; exact h1
  simp only [Array.getD,this,dite_true] at h2
  rw [Array.getElem?_eq_getElem this]; exact congrArg some h2
 unfold yielded
 have h4:((l.toArray[j]?).bind (·.dst))=some t:=by simpa using hj
 rw [h4]
 simp [h3]
theorem WO.split {grp tail:List Oper} {j t d:Nat} {wt:Bool} {x y:Operand} (hj:idst l j=some t) (hv:look fr t=some (.bool wt)) (hgrp:∀ o ∈ grp,∀ d,o.dst=some d->d≠t)
  (h:WO P Q n l (grp.map (AD j wt)++⟨some d,.move (cond wt x y),ty,pos,af,none⟩ :: tail) fr w):WO P Q n l (grp++⟨some d,.pick (.tmp t) x y,ty,pos,af,none⟩ :: tail) fr w:=fun a ha ro ds=>by
 have ht:=Kb ha hv
 refine lj (t:=t) (j:=j) (wt:=wt) (fun A hA=>?_) (fun A w hA h=>?_) grp hgrp _ _ (show (gh a ds).tmps[t]? = some (.bool wt) from ht) (h a ha ro ds)
 ·rw [fJ] at hj
  unfold yielded
  have h4:((l.toArray[j]?).bind (·.dst))=some t:=by simpa using hj
  rw [h4]
  simp [hA]
 ·unfold wpListIn at h ⊢
  have h1:Region.wanted ⟨some d,.move (cond wt x y),ty,pos,af,none⟩ (yielded l.toArray A.tmps)=true:=rfl
  have h2:Region.wanted ⟨some d,.pick (.tmp t) x y,ty,pos,af,none⟩ (yielded l.toArray A.tmps)=true:=rfl
  rw [if_pos h1] at h
  rw [if_pos h2]
  unfold Oper.wpIn at h ⊢
  refine ⟨fun f hf=>(by simp [Oper.about] at hf),?_⟩
  have h:=h.2
  rw [Oper.semAt_eq _ _ _ (fun c=>by simp)] at h ⊢
  have e1:(execOp A.eval ⟨some d,.move (cond wt x y),ty,pos,af,none⟩).run P w = .ok (.value (A.eval (cond wt x y))) w:=by simp [execOp]
  have et:A.eval (.tmp t) = .bool wt:=by simp [Act.eval,hA]
  have e2:(execOp A.eval ⟨some d,.pick (.tmp t) x y,ty,pos,af,none⟩).run P w = .ok (.value (A.eval (cond wt x y))) w:=by
   cases wt <;> simp [execOp,et,asBool]
  rw [e1] at h
  rw [e2]
  exact h
theorem WO.on {dst:Option Nat} {j t:Nat} {b b':Bool} (hj:idst l j=some t) (hv:look fr t=some (.bool b')) (hb:b' = b) (k:WO P Q n l (⟨dst,op,ty,pos,af,none⟩ :: rest) fr w) :
  WO P Q n l (⟨dst,op,ty,pos,af,some (j,b)⟩ :: rest) fr w:=fun a ha ro ds=>by
 have hk:=k a ha ro ds
 have hy0:=iZ (l:=l) ha hj hv
 have hy:yielded l.toArray (gh a ds).tmps j=_:=hy0
 simp only [wpListIn,Region.wanted,hy,hb,BEq.rfl,if_true] at hk ⊢
 exact hk
theorem WO.off {j t:Nat} {b b':Bool} (hj:idst l j=some t) (hv:look fr t=some (.bool b')) (hb:b' = !b) (hd:Nat.blt d n=true) (k:WO P Q n l rest ((d,undef) :: fr) w) :
  WO P Q n l (⟨some d,op,ty,pos,af,some (j,b)⟩ :: rest) fr w:=fun a ha ro ds=>by
 have hk:=k _ (ha.put hd) ro ds
 have hy0:=iZ (l:=l) ha hj hv
 have hy:yielded l.toArray (gh a ds).tmps j=_:=hy0
 have hne:((some b':Option Bool) == some b)=false:=by subst hb; cases b <;> rfl
 simp only [wpListIn,Region.wanted,hy,hne,Bool.false_eq_true,if_false,iR]
 exact ⟨fun _ _=>trivial,hk⟩
theorem WO.LP {j t:Nat} {b b':Bool} (hj:idst l j=some t) (hv:look fr t=some (.bool b')) (hb:b' = !b) (k:WO P Q n l rest fr w) :
  WO P Q n l (⟨none,op,ty,pos,af,some (j,b)⟩ :: rest) fr w:=fun a ha ro ds=>by
 have hk:=k _ ha ro ds
 have hy0:=iZ (l:=l) ha hj hv
 have hy:yielded l.toArray (gh a ds).tmps j=_:=hy0
 have hne:((some b':Option Bool) == some b)=false:=by subst hb; cases b <;> rfl
 simp only [wpListIn,Region.wanted,hy,hne,Bool.false_eq_true,if_false,iR]
 exact ⟨fun _ _=>trivial,hk⟩
theorem iE {j t:Nat} {a:Act} (ha:M n fr a) (hj:idst l j=some t) (hv:look fr t=some undef):yielded l.toArray a.tmps j=none:=by
 obtain ⟨h1,h2⟩:=ha.2.2 t _ hv
 rw [fJ] at hj
 have h3:a.tmps[t]? = some undef:=by
  have:t<a.tmps.size:=by rw [ha.2.1]; exact h1
  simp only [Array.getD,this,dite_true] at h2
  rw [Array.getElem?_eq_getElem this]; exact congrArg some h2
 unfold yielded
 have h4:((l.toArray[j]?).bind (·.dst))=some t:=by simpa using hj
 rw [h4]
 simp [h3,undef]
theorem WO.Ht {j t:Nat} {b:Bool} (hj:idst l j=some t) (hv:look fr t=some undef) (hd:Nat.blt d n=true) (k:WO P Q n l rest ((d,undef) :: fr) w) :
  WO P Q n l (⟨some d,op,ty,pos,af,some (j,b)⟩ :: rest) fr w:=fun a ha ro ds=>by
 have hk:=k _ (ha.put hd) ro ds
 have hy0:=iE (l:=l) ha hj hv
 have hy:yielded l.toArray (gh a ds).tmps j=_:=hy0
 have hne:((none:Option Bool) == some b)=false:=rfl
 simp only [wpListIn,Region.wanted,hy,hne,Bool.false_eq_true,if_false,iR]
 exact ⟨fun _ _=>trivial,hk⟩
theorem WO.GJ {j t:Nat} {b:Bool} (hj:idst l j=some t) (hv:look fr t=some undef) (k:WO P Q n l rest fr w) :
  WO P Q n l (⟨none,op,ty,pos,af,some (j,b)⟩ :: rest) fr w:=fun a ha ro ds=>by
 have hk:=k _ ha ro ds
 have hy0:=iE (l:=l) ha hj hv
 have hy:yielded l.toArray (gh a ds).tmps j=_:=hy0
 have hne:((none:Option Bool) == some b)=false:=rfl
 simp only [wpListIn,Region.wanted,hy,hne,Bool.false_eq_true,if_false,iR]
 exact ⟨fun _ _=>trivial,hk⟩
end rules
theorem su:∀ (vs:List Value) (k i:Nat) (v:Value),look ((List.range' k vs.length).zip vs) i=some v->k<=i/\vs[i - k]? = some v
 | [],k,i,v,h=>by simp [look] at h
 | u :: vs,k,i,v,h=>by
  simp only [List.length_cons,List.range'_succ,List.zip_cons_cons] at h
  rw [aY] at h
  by_cases hk:k=i
  ·subst hk; rw [if_pos rfl] at h; simp at h ⊢; exact h
  ·rw [if_neg hk] at h
   obtain ⟨h1,h2⟩:=su vs (k+1) i v h
   refine ⟨by omega,?_⟩
   rw [show i - k=(i - (k+1))+1 by omega]
   simpa using h2
def sj:Nat->List Value->Fr
 | _,[]=>[]
 | k,v :: r=>(k,v) :: sj (k+1) r
theorem sI:∀ (vs:List Value) (k:Nat),sj k vs=(List.range' k vs.length).zip vs
 | [],_=>rfl
 | v :: r,k=>by simp [sj,List.range'_succ,sI r (k+1)]
theorem gw.enter {P:Program} {f:FuncId} {fn:Func} {c:Code} {args:List Value} {w:World} {φ:Value->World->Prop} {n:Nat} {fr:Fr} (hf:P.funcs[f]? = some fn) (hb:fn.body=some c) (hn:fn.ntmps=n)
  (hle:Nat.ble args.length n=true) (hfr:sj 0 args=fr)
  (h:WC P (bodyPost P fn fun e w'=>∃ v,e = .returned v/\φ v w') n c fr w):gw P f args.toArray w φ:=by
 subst hn
 have hle':args.length<=fn.ntmps:=by simpa using hle
 refine calls_of_wp hf hb (Im rfl (h _ ⟨rfl,?_,fun i v hv=>?_⟩))
 ·simp; omega
 ·rw [<- hfr,sI] at hv
  obtain ⟨_,h2⟩:=su args 0 i v hv
  rw [Nat.sub_zero] at h2
  have hi:i<args.length:=(List.getElem?_eq_some_iff.1 h2).1
  refine ⟨by omega,?_⟩
  have h3:args[i]=v:=by rw [List.getElem?_eq_getElem hi] at h2; exact Option.some.inj h2
  simp [Array.getD,hi,h3]
  omega
section ends
variable {P:Program} {fn:Func} {φ:Value->World->Prop} {n:Nat} {fr:Fr} {w:World}
theorem WX.ID {v:Value} (h:∀ a,M n fr a->(results fn a.tmps).run P w = .ok v w) (hφ:φ v w):WX (bodyPost P fn fun e w'=>∃ v,e = .returned v/\φ v w') n .ret fr w:=
 fun a ha=>⟨ha.1,v,h a ha,v,rfl,hφ⟩
theorem WX.uf {t:Tmp} {v:Value} (hr:fn.results = #[.tmp t]) (hv:look fr t=some v) (hφ:φ v w):WX (bodyPost P fn fun e w'=>∃ v,e = .returned v/\φ v w') n .ret fr w:=
 WX.ID (fun a ha=>by simp [results,hr,ha.at_ hv]) hφ
end ends
structure Kp (S:List Nat) (w w':World):Prop where
 os:w'.os=w.os
 tape:w'.tape=w.tape
 output:w'.output=w.output
 size:w.heap.size<=w'.heap.size
 block:∀ b,b<w.heap.size->b ∉ S->w'.heap[b]? = w.heap[b]?
theorem Kp.refl (w:World):Kp [] w w:=⟨rfl,rfl,rfl,Nat.le_refl _,fun _ _ _=>rfl⟩
theorem Kp.trans {S T:List Nat} {a b c:World} (h:Kp S a b) (k:Kp T b c):Kp (S++T) a c:=
 ⟨k.os.trans h.os,k.tape.trans h.tape,k.output.trans h.output,Nat.le_trans h.size k.size,fun i hi hn=>by
  simp only [List.mem_append,not_or] at hn
  exact (k.block i (Nat.lt_of_lt_of_le hi h.size) hn.2).trans (h.block i hi hn.1)⟩
theorem Kp.sub {S T:List Nat} {a b:World} (h:Kp S a b) (hs:∀ g ∈ S,g ∈ T):Kp T a b:=
 ⟨h.os,h.tape,h.output,h.size,fun i hi hn=>h.block i hi fun hm=>hn (hs i hm)⟩
theorem Kp.step {S T:List Nat} {a b c:World} (h:Kp S a b) (k:Kp T b c) (hS:∀ g ∈ T,g ∈ S\/a.heap.size<=g):Kp S a c:=
 ⟨k.os.trans h.os,k.tape.trans h.tape,k.output.trans h.output,Nat.le_trans h.size k.size,fun i hi hn=>(k.block i (Nat.lt_of_lt_of_le hi h.size) fun hm=>by
  rcases hS i hm with h1 | h1
  ·exact hn h1
  ·omega).trans (h.block i hi hn)⟩
theorem Kp.below {w w':World} (h:Kp [] w w'):Below w.heap.size w w':=⟨h.os,h.tape,h.output,h.size,fun b hb=>h.block b hb (by simp)⟩
theorem Kp.drew {S:List Nat} {a w:World} (h:Kp S a w):Kp S a w.drew:=⟨h.os,h.tape,h.output,h.size,h.block⟩
theorem Kp.alloc (w:World) (o:Obj):Kp [] w (w.alloc o):=⟨rfl,rfl,rfl,by simp,fun b hb _=>Below.heap_alloc w o b hb⟩
theorem Kp.yn {w w':World} (h:w.grownBy w' none):Kp [] w w':=⟨h.os,h.tape,h.output,h.size,fun b hb _=>h.block b hb (by simp)⟩
def Blk (w:World) (g:Nat) (t:TypeId) (cs:List Value):Prop:=w.heap[g]? = some (.cells cs.toArray t (0,0))
section
variable {w w':World} {g:Nat} {t:TypeId} {cs:List Value}
theorem Blk.cell (h:Blk w g t cs) (i:Nat):w.cell? ⟨g,i,none⟩=cs[i]?:=by
 rw [cell_of_row w g i cs.toArray t (0,0) h]; simp
end
theorem Kp.setRow (w:World) (g:Nat) (cs:Array Value):Kp [g] w (w.setRow g cs):=⟨rfl,rfl,rfl,by simp,fun b _ hn=>setRow_other w g b cs (by simpa using hn)⟩
structure NB (w w':World) (t:TypeId) (cs:List Value):Prop where
 kp:Kp [] w w'
 blk:Blk w' w.heap.size t cs
 lt:w.heap.size<w'.heap.size
def CellsAt (w:World) (a:Addr) (cs:List Value):Prop:=∀ j v,cs[j]? = some v->w.cell? (a.add j)=some v
theorem add_add (a:Addr) (i j:Nat):(a.add i).add j=a.add (i+j):=by
 unfold Addr.add
 by_cases hi:i=0 <;> by_cases hj:j=0 <;> simp [hi,hj,Nat.add_assoc]
theorem ey (a:Addr) (n:Nat):(a.add n).block=a.block:=by unfold Addr.add; split <;> rfl
theorem add_lit (g i j:Nat):(⟨g,i,none⟩:Addr).add j=⟨g,i+j,none⟩:=by unfold Addr.add; split <;> simp_all
section
variable {w w':World} {a:Addr} {cs:List Value}
theorem CellsAt.keep (h:CellsAt w a cs) (k:w'.heap[a.block]? = w.heap[a.block]?):CellsAt w' a cs:=fun j v hv=>by
 exact (World.cell?_of_block (a:=a.add j) (by rw [ey]; exact k)).trans (h j v hv)
theorem CellsAt.shift (h:CellsAt w a cs) (i:Nat):CellsAt w (a.add i) (cs.drop i):=fun j v hv=>by
 rw [add_add]; exact h _ _ (by rw [<- hv,List.getElem?_drop])
theorem CellsAt.take (h:CellsAt w a cs) (i:Nat):CellsAt w a (cs.take i):=fun j v hv=>h j v (by
 rw [List.getElem?_take] at hv; split at hv
 ·exact hv
 ·cases hv)
theorem CellsAt.one (h:CellsAt w a cs) {j:Nat} {v:Value} (hv:cs[j]? = some v):w.cell? (a.add j)=some v:=h j v hv
theorem CellsAt.nil:CellsAt w a []:=fun j v hv=>by simp at hv
end
theorem Blk.cells {w:World} {g:Nat} {t:TypeId} {cs:List Value} (h:Blk w g t cs):CellsAt w ⟨g,0,none⟩ cs:=fun j v hv=>by
 rw [add_lit,Nat.zero_add,h.cell]; exact hv
def I64 (n:Int):Prop:=-9223372036854775808<=n/\n<=9223372036854775807
inductive All2 {α β:Type} (R:α->β->Prop):List α->List β->Prop
 | nil:All2 R [] []
 | cons {a:α} {b:β} {asx:List α} {bs:List β}:R a b->All2 R asx bs->All2 R (a :: asx) (b :: bs)
section
variable {α β:Type} {R R':α->β->Prop}
theorem All2.imp {asx:List α} {bs:List β} (h:All2 R asx bs) (hh:∀ a b,R a b->R' a b):All2 R' asx bs:=by
 induction h with
 | nil=>exact .nil
 | cons h _ ih=>exact .cons (hh _ _ h) ih
theorem All2.length {asx:List α} {bs:List β} (h:All2 R asx bs):asx.length=bs.length:=by
 induction h with
 | nil=>rfl
 | cons _ _ ih=>simp [ih]
theorem All2.get {asx:List α} {bs:List β} (h:All2 R asx bs):∀ (i:Nat) (b:β),bs[i]? = some b->∃ a,asx[i]? = some a/\R a b:=by
 induction h with
 | nil=>intro i b hb; simp at hb
 | cons h _ ih=>
  intro i b hb
  cases i with
  | zero=>simp at hb; subst hb; exact ⟨_,rfl,h⟩
  | succ i=>simpa using ih i b (by simpa using hb)
theorem All2.append {asx asx':List α} {bs bs':List β} (h:All2 R asx bs) (h':All2 R asx' bs'):All2 R (asx++asx') (bs++bs'):=by
 induction h with
 | nil=>exact h'
 | cons h _ ih=>exact .cons h ih
theorem All2.take {asx:List α} {bs:List β} (h:All2 R asx bs):∀ n,All2 R (asx.take n) (bs.take n):=by
 induction h with
 | nil=>intro n; simp; exact .nil
 | cons h _ ih=>intro n; cases n with
  | zero=>exact .nil
  | succ n=>exact .cons h (ih n)
theorem All2.drop {asx:List α} {bs:List β} (h:All2 R asx bs):∀ n,All2 R (asx.drop n) (bs.drop n):=by
 induction h with
 | nil=>intro n; simp; exact .nil
 | cons h hh ih=>intro n; cases n with
  | zero=>exact .cons h hh
  | succ n=>exact ih n
end
class Rp (α:Type) where
 sz:Nat
 by_:Nat                        -- how many bytes an element of a slice takes
 tid:TypeId
 rp:Bool->Nat->Nat->World->List Value->α->Prop
 len:∀ {o lo hi w cs x},rp o lo hi w cs x->cs.length=sz
 one:∀ {o lo hi w cs x},rp o lo hi w cs x->∀ u ∈ cs,u.oneCell' = true
 keep:∀ {o lo hi w w' cs x},rp o lo hi w cs x->(∀ b,lo<=b->b<hi->w'.heap[b]? = w.heap[b]?)->rp o lo hi w' cs x
 mono:∀ {o lo hi lo' hi' w cs x},rp o lo hi w cs x->lo' <= lo->hi<=hi' -> rp o lo' hi' w cs x
 weak:∀ {o lo hi w cs x},rp o lo hi w cs x->rp false lo hi w cs x
 inner:List TypeId              -- of the rows inside
 mrk:Nat × Nat->Prop:=fun fr=>fr=(0,0)   -- the marks that a row of these may bear
 mrk0:mrk (0,0):=by exact rfl
 keepT:∀ {o lo hi w w' cs x},rp o lo hi w cs x->(inner=[]\/o=true)->(∀ b cur t fr,lo<=b->b<hi->w.heap[b]? = some (.cells cur t fr)->t ∈ inner->w'.heap[b]? = w.heap[b]?)->rp o lo hi w' cs x
def Sl {α:Type} [Rp α] (o:Bool) (lo hi:Nat) (w:World) (v:Value) (xs:List α):Prop:=
 ∃ a c css,v = .slice a xs.length c/\xs.length<=c/\(c<=maxLen/\xs.length*Rp.by_ α<=140737488355328)/\All2 (Rp.rp o lo hi w) css xs /\
  (xs=[]\/∃ A:Addr,a=some A/\lo<=A.block/\A.block<hi/\CellsAt w A css.flatten) /\
  (o=true->c=0\/∃ g cur fr,a=some ⟨g,0,none⟩/\lo<=g/\g<hi/\(w.heap[g]? = some (.cells cur (Rp.tid α) fr)/\Rp.mrk α fr)/\cur.size=c*Rp.sz α)
section
variable {α:Type} [Rp α] {o:Bool} {lo hi:Nat} {w w':World} {v:Value} {xs:List α}
theorem Sl.keep (h:Sl o lo hi w v xs) (k:∀ b,lo<=b->b<hi->w'.heap[b]? = w.heap[b]?):Sl o lo hi w' v xs:=by
 obtain ⟨a,c,css,hv,h1,h2,h3,h4,h5⟩:=h
 refine ⟨a,c,css,hv,h1,h2,h3.imp fun _ _ h=>Rp.keep h k,?_,fun ho=>?_⟩
 ·rcases h4 with h4 | ⟨A,hA,hlo,hhi,hc⟩
  ·exact .inl h4
  ·exact .inr ⟨A,hA,hlo,hhi,hc.keep (k _ hlo hhi)⟩
 ·rcases h5 ho with h5 | ⟨g,cur,fr,hg,hlo,hhi,hh,hs⟩
  ·exact .inl h5
  ·exact .inr ⟨g,cur,fr,hg,hlo,hhi,⟨(k g hlo hhi).trans hh.1,hh.2⟩,hs⟩
theorem Sl.mono {lo' hi':Nat} (h:Sl o lo hi w v xs) (h1:lo' <= lo) (h2:hi<=hi'):Sl o lo' hi' w v xs:=by
 obtain ⟨a,c,css,hv,ha,hb,h3,h4,h5⟩:=h
 refine ⟨a,c,css,hv,ha,hb,h3.imp fun _ _ h=>Rp.mono h h1 h2,?_,fun ho=>?_⟩
 ·rcases h4 with h4 | ⟨A,hA,hlo,hhi,hc⟩
  ·exact .inl h4
  ·exact .inr ⟨A,hA,by omega,by omega,hc⟩
 ·rcases h5 ho with h5 | ⟨g,cur,fr,hg,hlo,hhi,hh,hs⟩
  ·exact .inl h5
  ·exact .inr ⟨g,cur,fr,hg,by omega,by omega,hh,hs⟩
theorem Sl.weak (h:Sl o lo hi w v xs):Sl false lo hi w v xs:=by
 obtain ⟨a,c,css,hv,h1,h2,h3,h4,_⟩:=h
 exact ⟨a,c,css,hv,h1,h2,h3.imp fun _ _ h=>Rp.weak h,h4,fun ho=>by cases ho⟩
theorem Sl.keepT (h:Sl true lo hi w v xs) (k:∀ b cur t fr,lo<=b->b<hi->w.heap[b]? = some (.cells cur t fr)->t ∈ Rp.tid α :: Rp.inner α->w'.heap[b]? = w.heap[b]?):Sl true lo hi w' v xs:=by
 obtain ⟨a,c,css,hv,h1,h2,h3,h4,h5⟩:=h
 refine ⟨a,c,css,hv,h1,h2,h3.imp fun _ _ h=>Rp.keepT h (.inr rfl) fun b cur t fr a1 a2 a3 a4=>k b cur t fr a1 a2 a3 (List.mem_cons_of_mem _ a4),?_,fun _=>?_⟩
 ·rcases h4 with h4 | ⟨A,hA,hlo,hhi,hc⟩
  ·exact .inl h4
  ·refine .inr ⟨A,hA,hlo,hhi,?_⟩
   rcases h5 rfl with ha | ⟨g,cur,fr,hg,hlo',hhi',hh,hs⟩
   ·have hx:xs=[]:=List.eq_nil_of_length_eq_zero (by omega)
    subst hx
    cases h3
    exact CellsAt.nil
   ·rw [hA] at hg
    cases hg
    exact hc.keep (k _ _ _ _ hlo' hhi' hh.1 (by simp))
 ·rcases h5 rfl with h5 | ⟨g,cur,fr,hg,hlo,hhi,hh,hs⟩
  ·exact .inl h5
  ·exact .inr ⟨g,cur,fr,hg,hlo,hhi,⟨(k g _ _ _ hlo hhi hh.1 (by simp)).trans hh.1,hh.2⟩,hs⟩
theorem Sl.form (h:Sl o lo hi w v xs):∃ a c,v = .slice a xs.length c/\xs.length<=c/\c<=maxLen:=by
 obtain ⟨a,c,css,hv,h1,h2,_⟩:=h
 exact ⟨a,c,hv,h1,h2.1⟩
theorem Sl.one (h:Sl o lo hi w v xs):v.oneCell' = true:=by
 obtain ⟨a,c,rfl,_⟩:=h.form
 rfl
end
instance:Rp Int where
 sz:=1
 by_:=8
 tid:=3
 rp _ _ _ _ cs x:=cs=[.int .i64 x]/\I64 x
 len h:=by rw [h.1]; rfl
 one h:=by rw [h.1]; simp [Value.oneCell']
 keep h _:=h
 mono h _ _:=h
 weak h:=h
 inner:=[]
 keepT h _ _:=h
instance:Rp Bool where
 sz:=1
 by_:=1
 tid:=4
 rp _ _ _ _ cs x:=cs=[.bool x]
 len h:=by rw [h]; rfl
 one h:=by rw [h]; simp [Value.oneCell']
 keep h _:=h
 mono h _ _:=h
 weak h:=h
 inner:=[]
 keepT h _ _:=h
instance:Rp UInt8 where
 sz:=1
 by_:=1
 tid:=5
 rp _ _ _ _ cs x:=cs=[.int .u8 x.toNat]
 len h:=by rw [h]; rfl
 one h:=by rw [h]; simp [Value.oneCell']
 keep h _:=h
 mono h _ _:=h
 weak h:=h
 mrk _:=True
 mrk0:=trivial
 inner:=[]
 keepT h _ _:=h
structure U64 where
 n:Nat
deriving DecidableEq
instance:Rp U64 where
 sz:=1
 by_:=8
 tid:=116
 rp _ _ _ _ cs x:=cs=[.int .u64 x.n]/\x.n<18446744073709551616
 len h:=by rw [h.1]; rfl
 one h:=by rw [h.1]; simp [Value.oneCell']
 keep h _:=h
 mono h _ _:=h
 weak h:=h
 inner:=[]
 keepT h _ _:=h
structure Str where
 b:List UInt8
deriving DecidableEq
def Str.val (s:Str):Value:=.string ⟨s.b.toArray⟩
instance:Rp Str where
 sz:=1
 by_:=16
 tid:=9
 rp _ _ _ _ cs x:=cs=[x.val]/\x.b.length<=140737488355328
 len h:=by rw [h.1]; rfl
 one h:=by rw [h.1]; simp [Value.oneCell',Str.val]
 keep h _:=h
 mono h _ _:=h
 weak h:=h
 inner:=[]
 keepT h _ _:=h
instance (priority:=low) listRp {α:Type} [Rp α]:Rp (List α) where
 sz:=1
 by_:=24
 tid:=0
 rp o lo hi w cs xs:=∃ v,cs=[v]/\Sl o lo hi w v xs
 len h:=by obtain ⟨v,rfl,_⟩:=h; rfl
 one h:=by obtain ⟨v,rfl,h⟩:=h; simp [h.one]
 keep h k:=by obtain ⟨v,rfl,h⟩:=h; exact ⟨v,rfl,h.keep k⟩
 mono h h1 h2:=by obtain ⟨v,rfl,h⟩:=h; exact ⟨v,rfl,h.mono h1 h2⟩
 weak h:=by obtain ⟨v,rfl,h⟩:=h; exact ⟨v,rfl,h.weak⟩
 inner:=Rp.tid α :: Rp.inner α
 keepT h ho k:=by
  obtain ⟨v,rfl,h⟩:=h
  have ho':=ho.resolve_left (by simp)
  subst ho'
  exact ⟨v,rfl,h.keepT k⟩
instance pairRp {α β:Type} [Rp α] [Rp β]:Rp (α × β) where
 by_:=0
 sz:=Rp.sz α+Rp.sz β
 tid:=0
 rp o lo hi w cs x:=∃ c1 c2,cs=c1++c2/\Rp.rp o lo hi w c1 x.1/\Rp.rp o lo hi w c2 x.2
 len h:=by obtain ⟨c1,c2,rfl,h1,h2⟩:=h; rw [List.length_append,Rp.len h1,Rp.len h2]
 one h:=by
  obtain ⟨c1,c2,rfl,h1,h2⟩:=h
  intro u hu
  rcases List.mem_append.1 hu with hu | hu
  ·exact Rp.one h1 u hu
  ·exact Rp.one h2 u hu
 keep h k:=by obtain ⟨c1,c2,rfl,h1,h2⟩:=h; exact ⟨c1,c2,rfl,Rp.keep h1 k,Rp.keep h2 k⟩
 mono h ha hb:=by obtain ⟨c1,c2,rfl,h1,h2⟩:=h; exact ⟨c1,c2,rfl,Rp.mono h1 ha hb,Rp.mono h2 ha hb⟩
 weak h:=by obtain ⟨c1,c2,rfl,h1,h2⟩:=h; exact ⟨c1,c2,rfl,Rp.weak h1,Rp.weak h2⟩
 inner:=Rp.inner α++Rp.inner β
 keepT h ho k:=by
  obtain ⟨c1,c2,rfl,h1,h2⟩:=h
  exact ⟨c1,c2,rfl,Rp.keepT h1 (ho.imp (fun h=>(List.append_eq_nil_iff.1 h).1) id) fun b cur t fr a1 a2 a3 a4=>k b cur t fr a1 a2 a3 (List.mem_append_left _ a4),
   Rp.keepT h2 (ho.imp (fun h=>(List.append_eq_nil_iff.1 h).2) id) fun b cur t fr a1 a2 a3 a4=>k b cur t fr a1 a2 a3 (List.mem_append_right _ a4)⟩
@[reducible] def Rp.via {S T:Type} [Rp T] (t:TypeId) (b:Nat) (f:S->T):Rp S where
 by_:=b
 sz:=Rp.sz T
 tid:=t
 rp o lo hi w cs x:=Rp.rp o lo hi w cs (f x)
 len h:=Rp.len h
 one h:=Rp.one h
 keep h k:=Rp.keep h k
 mono h h1 h2:=Rp.mono h h1 h2
 weak h:=Rp.weak h
 inner:=Rp.inner T
 mrk fr:=fr=(0,0)
 mrk0:=rfl
 keepT h ho k:=Rp.keepT h ho k
section
variable {α:Type} [Rp α] {o:Bool} {lo hi:Nat} {w w':World} {cs:List Value} {x:α}
variable {v:Value} {xs:List α}
end
theorem I64.wrap {x:Int} (h:I64 x):IntKind.i64.wrap x=x:=IntWalk.i64_in x ⟨h.1,h.2⟩
theorem uI {m:Nat} (h:m<256):IntKind.u8.wrap (m:Int)=m:=by
 simp only [IntKind.wrap,IntKind.bits,IntKind.signed]
 simp
 omega
section
variable {P:Program} {n:Nat} {fr:Fr} {w:World} {x y z:Operand} {ty t t':TypeId}
theorem R.move {v:Value} (hx:ev fr x=some v):aU P n fr w (.move x) ty v w:=fun a _ _ _ _ ha=>by simp [execOp,ha.ev hx]
theorem R.assign {v:Value} (hx:ev fr x=some v):aU P n fr w (.assign x) ty v w:=fun a _ _ _ _ ha=>by simp [execOp,ha.ev hx]
theorem R.tg {v:Value} {b:Bool} (hc:ev fr z=some (.bool b)) (hb:b=true) (hx:ev fr x=some v):aU P n fr w (.pick z x y) ty v w:=fun a _ _ _ _ ha=>by
 subst hb; simp [execOp,ha.ev hc,ha.ev hx,asBool]
theorem R.rR {v:Value} {b:Bool} (hc:ev fr z=some (.bool b)) (hb:b=false) (hy:ev fr y=some v):aU P n fr w (.pick z x y) ty v w:=fun a _ _ _ _ ha=>by
 subst hb; simp [execOp,ha.ev hc,ha.ev hy,asBool]
theorem R.not {b:Bool} (hx:ev fr x=some (.bool b)):aU P n fr w (.unOp .not t x) ty (.bool (!b)) w:=fun a _ _ _ _ ha=>by
 simp [execOp,ha.ev hx,Op.unary]
section ints
variable {k:IntKind} {a b:Int}
theorem R.lss (hx:ev fr x=some (.int k a)) (hy:ev fr y=some (.int k b)):aU P n fr w (.binOp .lss t x y t') ty (.bool (decide (a<b))) w:=fun _ _ _ _ _ ha=>by
 simp [execOp,ha.ev hx,ha.ev hy,eqGuard_lss,binOp_lss]
theorem R.leq (hx:ev fr x=some (.int k a)) (hy:ev fr y=some (.int k b)):aU P n fr w (.binOp .leq t x y t') ty (.bool (decide (a<=b))) w:=fun _ _ _ _ _ ha=>by
 simp [execOp,ha.ev hx,ha.ev hy,eqGuard_leq,binOp_leq]
theorem R.gtr (hx:ev fr x=some (.int k a)) (hy:ev fr y=some (.int k b)):aU P n fr w (.binOp .gtr t x y t') ty (.bool (decide (b<a))) w:=fun _ _ _ _ _ ha=>by
 simp [execOp,ha.ev hx,ha.ev hy,eqGuard_gtr,binOp_gtr]
theorem R.geq (hx:ev fr x=some (.int k a)) (hy:ev fr y=some (.int k b)):aU P n fr w (.binOp .geq t x y t') ty (.bool (decide (b<=a))) w:=fun _ _ _ _ _ ha=>by
 simp [execOp,ha.ev hx,ha.ev hy,eqGuard_geq,binOp_geq]
theorem R.eql (hx:ev fr x=some (.int k a)) (hy:ev fr y=some (.int k b)):aU P n fr w (.binOp .eql t x y t') ty (.bool (decide (a=b))) w:=fun _ _ _ _ _ ha=>by
 simp [execOp,ha.ev hx,ha.ev hy,eqGuard_at_int,binOp_eql]; rfl
theorem R.neq (hx:ev fr x=some (.int k a)) (hy:ev fr y=some (.int k b)):aU P n fr w (.binOp .neq t x y t') ty (.bool (!decide (a=b))) w:=fun _ _ _ _ _ ha=>by
 simp [execOp,ha.ev hx,ha.ev hy,eqGuard_at_int,binOp_neq]; rfl
theorem R.HR (hx:ev fr x=some (.int k a)) (hy:ev fr y=some (.int k b)):aU P n fr w (.binOp .add t x y t') ty (.int k (k.wrap (a+b))) w:=fun _ _ _ _ _ ha=>by
 simp [execOp,ha.ev hx,ha.ev hy,eqGuard_add,binOp_add,Op.intArith]
theorem R.KQ (hx:ev fr x=some (.int k a)) (hy:ev fr y=some (.int k b)):aU P n fr w (.binOp .sub t x y t') ty (.int k (k.wrap (a - b))) w:=fun _ _ _ _ _ ha=>by
 simp [execOp,ha.ev hx,ha.ev hy,eqGuard_sub,binOp_sub,Op.intArith]
theorem R.Nt (hx:ev fr x=some (.int k a)) (hy:ev fr y=some (.int k b)):aU P n fr w (.binOp .mul t x y t') ty (.int k (k.wrap (a*b))) w:=fun _ _ _ _ _ ha=>by
 simp [execOp,ha.ev hx,ha.ev hy,eqGuard_mul,binOp_mul,Op.intArith]
theorem R.add (hx:ev fr x=some (.int .i64 a)) (hy:ev fr y=some (.int .i64 b)) (h:I64 (a+b)):aU P n fr w (.binOp .add t x y t') ty (.int .i64 (a+b)) w:=by
 have:=R.HR (P:=P) (n:=n) (w:=w) (ty:=ty) (t:=t) (t':=t') hx hy
 rwa [h.wrap] at this
theorem R.sub (hx:ev fr x=some (.int .i64 a)) (hy:ev fr y=some (.int .i64 b)) (h:I64 (a - b)):aU P n fr w (.binOp .sub t x y t') ty (.int .i64 (a - b)) w:=by
 have:=R.KQ (P:=P) (n:=n) (w:=w) (ty:=ty) (t:=t) (t':=t') hx hy
 rwa [h.wrap] at this
theorem R.mul (hx:ev fr x=some (.int .i64 a)) (hy:ev fr y=some (.int .i64 b)) (h:I64 (a*b)):aU P n fr w (.binOp .mul t x y t') ty (.int .i64 (a*b)) w:=by
 have:=R.Nt (P:=P) (n:=n) (w:=w) (ty:=ty) (t:=t) (t':=t') hx hy
 rwa [h.wrap] at this
theorem R.inc {m:Nat} (hx:ev fr x=some (.int .i64 (m:Int))) (h:m<9223372036854775807):aU P n fr w (.binOp .add t x (.const (.int .i64 1)) t') ty (.int .i64 ((m+1:Nat):Int)) w:=by
 have:=R.add (P:=P) (n:=n) (w:=w) (ty:=ty) (t:=t) (t':=t') hx (y:=.const (.int .i64 1)) (b:=1) rfl ⟨by omega,by omega⟩
 simpa using this
theorem R.conv {k':IntKind} {d:TypeDesc} (hx:ev fr x=some (.int k a)) (hs:P.underlying t=some d) (hd:P.underlying t' = some (.int k')):aU P n fr w (.convert t t' x) ty (.int k' (k'.wrap a)) w:=fun _ _ _ _ _ ha=>by
 simp [execOp,ha.ev hx,convert,run_underlying hs,run_underlying hd,Conv.intToInt]
theorem R.min2 {asx:Array TypeId} (hx:ev fr x=some (.int k a)) (hy:ev fr y=some (.int k b)):aU P n fr w (.call { callee:=.builtin .min,args:=#[x,y],argTypes:=asx }) ty (.int k (min a b)) w:=fun _ _ _ _ _ ha=>by
 simp [execOp,resolve,invoke,builtin,ha.ev hx,ha.ev hy,run_min_int2]
 split <;> omega
theorem R.max2 {asx:Array TypeId} (hx:ev fr x=some (.int k a)) (hy:ev fr y=some (.int k b)):aU P n fr w (.call { callee:=.builtin .max,args:=#[x,y],argTypes:=asx }) ty (.int k (max a b)) w:=fun _ _ _ _ _ ha=>by
 simp [execOp,resolve,invoke,builtin,ha.ev hx,ha.ev hy,run_max_int2]
 split <;> omega
theorem R.jq {a b:Nat} (hx:ev fr x=some (.int .i64 (a:Int))) (hy:ev fr y=some (.int .i64 (b:Int))) (h:a+b<=9223372036854775807):aU P n fr w (.binOp .add t x y t') ty (.int .i64 ((a+b:Nat):Int)) w:=by
 have:=R.add (P:=P) (n:=n) (w:=w) (ty:=ty) (t:=t) (t':=t') hx hy ⟨by omega,by omega⟩
 simpa using this
theorem R.Ke {a b:Nat} (hx:ev fr x=some (.int .i64 (a:Int))) (hy:ev fr y=some (.int .i64 (b:Int))) (h:b<=a) (ha:a<=9223372036854775807):aU P n fr w (.binOp .sub t x y t') ty (.int .i64 ((a - b:Nat):Int)) w:=by
 have:=R.sub (P:=P) (n:=n) (w:=w) (ty:=ty) (t:=t) (t':=t') hx hy ⟨by omega,by omega⟩
 rw [show ((a - b:Nat):Int)=(a:Int) - b by omega]; exact this
theorem R.Jf {k:IntKind} {a b:Nat} (hx:ev fr x=some (.int k (a:Int))) (hy:ev fr y=some (.int k (b:Int))) (hb:0<b):aU P n fr w (.binOp .rem t x y t') ty (.int k ((a % b:Nat):Int)) w:=fun _ _ _ _ _ ha=>by
 have hb':¬ b=0:=by omega
 have e:(a:Int).tmod b=((a % b:Nat):Int):=by rw [Int.tmod_eq_emod_of_nonneg (by omega)]; omega
 simp [execOp,ha.ev hx,ha.ev hy,eqGuard_rem,binOp_rem,Op.intDiv,hb',e]
theorem R.HY {k:IntKind} {a b:Nat} (hx:ev fr x=some (.int k (a:Int))) (hy:ev fr y=some (.int k (b:Int))) (hb:0<b) (hw:k.wrap ((a / b:Nat):Int)=((a / b:Nat):Int)):aU P n fr w (.binOp .quo t x y t') ty (.int k ((a / b:Nat):Int)) w:=fun _ _ _ _ _ ha=>by
 have hb':¬ b=0:=by omega
 have e:(a:Int).tdiv b=((a / b:Nat):Int):=by rw [Int.tdiv_eq_ediv_of_nonneg (by omega)]; omega
 simp [execOp,ha.ev hx,ha.ev hy,eqGuard_quo,binOp_quo,Op.intDiv,hb',e]
 simpa using hw
theorem R.Jl {b:UInt8} {d:TypeDesc} (hx:ev fr x=some (.int .u8 (b.toNat:Int))) (hs:P.underlying t=some d) (hd:P.underlying t' = some (.int .i64)):aU P n fr w (.convert t t' x) ty (.int .i64 (b.toNat:Int)) w:=by
 have:=R.conv (P:=P) (n:=n) (w:=w) (ty:=ty) hx hs hd
 have hb:=b.toNat_lt
 rwa [I64.wrap ⟨by omega,by omega⟩] at this
theorem R.KZ {a b:UInt8} (hx:ev fr x=some (.int .u8 (a.toNat:Int))) (hy:ev fr y=some (.int .u8 (b.toNat:Int))):aU P n fr w (.binOp .and t x y t') ty (.int .u8 ((a &&& b).toNat:Int)) w:=fun _ _ _ _ _ ha=>by
 have e:bits .and .u8 (a.toNat:Int) (b.toNat:Int)=((a &&& b).toNat:Int):=by
  have h1:∀ c:UInt8,(BitVec.ofInt 8 (c.toNat:Int))=c.toBitVec:=fun c=>by
   rw [BitVec.ofInt_natCast]; exact BitVec.eq_of_toNat_eq (by simp)
  show IntKind.u8.wrap ((BitVec.ofInt 8 (a.toNat:Int) &&& BitVec.ofInt 8 (b.toNat:Int)).toNat:Int)=_
  rw [h1,h1,<- UInt8.toBitVec_and]
  have:=(a &&& b).toNat_lt
  exact uI this
 simp [execOp,ha.ev hx,ha.ev hy,eqGuard_and,binOp_and,intBits_and,e]
end ints
theorem R.MR {a b:Bool} (hx:ev fr x=some (.bool a)) (hy:ev fr y=some (.bool b)) (ht:P.underlying t=some .bool):aU P n fr w (.binOp .eql t x y t') ty (.bool (a == b)) w:=fun _ _ _ _ _ ha=>by
 simp [execOp,ha.ev hx,ha.ev hy,eqGuard_at_bool,run_eql_bool _ _ _ _ ht]
theorem R.ME {a b:Bool} (hx:ev fr x=some (.bool a)) (hy:ev fr y=some (.bool b)) (ht:P.underlying t=some .bool):aU P n fr w (.binOp .neq t x y t') ty (.bool (!(a == b))) w:=fun _ _ _ _ _ ha=>by
 simp [execOp,ha.ev hx,ha.ev hy,eqGuard_at_bool,run_neq_bool _ _ _ _ ht]
theorem R.No {a b:Str} (hx:ev fr x=some a.val) (hy:ev fr y=some b.val):aU P n fr w (.binOp .eql t x y t') ty (.bool (decide (a=b))) w:=fun _ _ _ _ _ ha=>by
 have e:(a.b == b.b)=decide (a=b):=by
  rw [Bool.eq_iff_iff]
  cases a; cases b; simp
 simp [execOp,ha.ev hx,ha.ev hy,Str.val,eqGuard_at_string,binOp,Op.stringOp,e]
theorem R.Nx {a b:Str} (hx:ev fr x=some a.val) (hy:ev fr y=some b.val):aU P n fr w (.binOp .neq t x y t') ty (.bool (!decide (a=b))) w:=fun _ _ _ _ _ ha=>by
 have e:(a.b == b.b)=decide (a=b):=by
  rw [Bool.eq_iff_iff]
  cases a; cases b; simp
 simp [execOp,ha.ev hx,ha.ev hy,Str.val,eqGuard_at_string,binOp,Op.stringOp,e]
theorem R.extract {vs:Array Value} {v:Value} {i:Nat} (hx:ev fr x=some (.tuple vs)) (hi:vs[i]? = some v):aU P n fr w (.extract x i) ty v w:=fun _ _ _ _ _ ha=>by
 simp [execOp,ha.ev hx,Instr.extract,hi]
theorem R.kV {a:Addr} (hx:ev fr x=some (.pointer (some a))):aU P n fr w (.nilCheck x) ty (.pointer (some a)) w:=fun _ _ _ _ _ ha=>by
 simp [execOp,ha.ev hx]
theorem R.ya {f:FuncId} {a c:Array Value} (hx:ev fr x=some (.func (.func f) a c)):aU P n fr w (.nilCheck x) ty (.func (.func f) a c) w:=fun _ _ _ _ _ ha=>by
 simp [execOp,ha.ev hx]
theorem R.makeFunc {f:FuncId} {caps:Array Operand} {cv:Array Value} (h:∀ a,M n fr a->caps.map a.eval=cv):aU P n fr w (.makeFunc (.func f) #[] caps) ty (.func (.func f) #[] cv) w:=fun _ _ _ _ _ ha=>by
 simp [execOp,Instr.makeFunc,h _ ha]
theorem R.len {a:Option Addr} {m c:Nat} {e:TypeId} (hx:ev fr x=some (.slice a m c)) (ht:P.underlying t=some (.slice e)):aU P n fr w (.call { callee:=.builtin .len,args:=#[x],argTypes:=#[t] }) ty (.int .i64 (m:Int)) w:=fun _ _ _ _ _ ha=>by
 simp [execOp,resolve,invoke,builtin,ha.ev hx,Builtin.len_,run_underlying ht,goInt]
theorem R.MU {s:Str} (hx:ev fr x=some s.val) (ht:P.underlying t=some .string):aU P n fr w (.call { callee:=.builtin .len,args:=#[x],argTypes:=#[t] }) ty (.int .i64 (s.b.length:Int)) w:=fun _ _ _ _ _ ha=>by
 simp [execOp,resolve,invoke,builtin,ha.ev hx,Str.val,Builtin.len_,run_underlying ht,goInt]
 rfl
theorem R.zq {a:Option Addr} {m c:Nat} {e:TypeId} (hx:ev fr x=some (.slice a m c)) (hy:ev fr y=some (.slice none 0 0)) (ht:P.underlying t=some (.slice e)):aU P n fr w (.binOp .eql t x y t') ty (.bool a.isNone) w:=fun _ _ _ _ _ ha=>by
 simp [execOp,ha.ev hx,ha.ev hy,eqGuard_at_slice,Lib.run_eql_slice_nil w t e a m c 0 0 ht]
theorem R.AM {a:Option Addr} {m c:Nat} {e:TypeId} (hx:ev fr x=some (.slice a m c)) (hy:ev fr y=some (.slice none 0 0)) (ht:P.underlying t=some (.slice e)):aU P n fr w (.binOp .neq t x y t') ty (.bool (!a.isNone)) w:=fun _ _ _ _ _ ha=>by
 simp [execOp,ha.ev hx,ha.ev hy,eqGuard_at_slice,run_neq_slice_nil_any w t e a m c 0 0 ht]
theorem R.build {parts:Array (Nat × Operand)} {pv:List (Nat × Value)} {cells:Array Value} (hp:∀ a,M n fr a->(parts.map fun p=>(p.1,a.eval p.2))=pv.toArray) (hb:P.built t pv=some cells) :
  aU P n fr w (.build t parts) ty (.agg cells) w:=fun _ _ _ _ _ ha=>by
 have h1:=run_build (P:=P) w t pv.toArray cells (by simpa using hb)
 simp [execOp,hp _ ha,h1]
def iP:TypeDesc->Bool | .struct _=>true | .array _ _=>true | _=>false
theorem kD {d:TypeDesc} (hu:P.underlying t=some d) (w:World):(isAgg t).run P w = .ok (iP d) w:=by
 unfold isAgg
 rw [Sem.run_bind,run_underlying hu w]
 cases d <;> rfl
theorem rW {a:Addr} {v:Value} {d:TypeDesc} (hu:P.underlying t=some d) (hd:iP d=false) (hc:w.cell? a=some v):(loadVar t a).run P w = .ok v w:=by
 simp [loadVar,kD hu,hd,hc]
theorem tn {a:Addr} {cs:List Value} {d:TypeDesc} (hu:P.underlying t=some d) (hd:iP d=true) (hi:(P.info? t).map (·.size)=some cs.length) (hc:CellsAt w a cs):(loadVar t a).run P w = .ok (.agg cs.toArray) w:=by
 cases hq:P.info? t with
 | none=>simp [hq] at hi
 | some i=>
  have hs:i.size=cs.length:=by simpa [hq] using hi
  simp [loadVar,kD hu,hd,sizeOf,typeInfo,hq,hs,run_loadCells_list (P:=P) w a cs hc]
theorem R.ml {a:Addr} {v:Value} {d:TypeDesc} (hx:ev fr x=some (.pointer (some a))) (hu:P.underlying t=some d) (hd:iP d=false) (hc:w.cell? a=some v):aU P n fr w (.load t x) ty v w:=fun _ _ _ _ _ ha=>by
 simp [execOp,ha.ev hx,Instr.loadAt,Instr.sureAddr,rW hu hd hc]
theorem R.wL {a:Addr} {cs:List Value} {d:TypeDesc} (hx:ev fr x=some (.pointer (some a))) (hu:P.underlying t=some d) (hd:iP d=true) (hi:(P.info? t).map (·.size)=some cs.length) (hc:CellsAt w a cs) :
  aU P n fr w (.load t x) ty (.agg cs.toArray) w:=fun _ _ _ _ _ ha=>by
 simp [execOp,ha.ev hx,Instr.loadAt,Instr.sureAddr,tn hu hd hi hc]
theorem nc {a:Addr} {f:Field} {s:Nat} (hs:(P.info? f.type).map (·.size)=some (s+1)):(fieldPlace a f).run P w = .ok (a.add f.offset) w:=by
 cases hq:P.info? f.type with
 | none=>simp [hq] at hs
 | some i=>
  have:i.size=s+1:=by simpa [hq] using hs
  simp [fieldPlace,sizeOf,typeInfo,hq,this]
theorem R.fieldAddr {a:Addr} {fs:Array Field} {i j s:Nat} {f:Field} (hx:ev fr x=some (.pointer (some a))) (ht:P.underlying t=some (.struct fs)) (hf:fs[i]? = some f) (ho:f.offset=j) (hs:(P.info? f.type).map (·.size)=some (s+1)) :
  aU P n fr w (.fieldAddr t x i) ty (.pointer (some (a.add j))) w:=fun _ _ _ _ _ ha=>by
 subst ho
 simp [execOp,ha.ev hx,Instr.fieldAt,run_underlying ht,hf,Instr.sureAddr,nc hs]
theorem R.eQ {g k:Nat} {fs:Array Field} {i j s:Nat} {f:Field} (hx:ev fr x=some (.pointer (some ⟨g,k,none⟩))) (ht:P.underlying t=some (.struct fs)) (hf:fs[i]? = some f) (ho:f.offset=j) (hs:(P.info? f.type).map (·.size)=some (s+1)) :
  aU P n fr w (.fieldAddr t x i) ty (.pointer (some ⟨g,k+j,none⟩)) w:=by
 have:=R.fieldAddr (P:=P) (n:=n) (w:=w) (ty:=ty) hx ht hf ho hs
 rwa [add_lit] at this
theorem R.indexAddr {a:Option Addr} {A:Addr} {m c:Nat} {k:IntKind} {i:Int} {e:TypeId} {s:Nat} (hx:ev fr x=some (.slice a m c)) (hy:ev fr y=some (.int k i)) (ht:P.underlying t=some (.slice e)) (hs:(P.info? e).map (·.size)=some s)
  (hA:a=some A) (h0:0<=i) (h1:i<(m:Int)):aU P n fr w (.indexAddr t x y) ty (.pointer (some (A.add (i.toNat*s)))) w:=fun _ _ _ _ _ ha=>by
 subst hA
 cases hq:P.info? e with
 | none=>simp [hq] at hs
 | some q=>
  have:q.size=s:=by simpa [hq] using hs
  simp [execOp,ha.ev hx,ha.ev hy,Instr.indexAt,run_underlying ht,asIntOf,h0,h1,sizeOf,typeInfo,hq,this]
theorem R.dV {a:Option Addr} {A:Addr} {m c:Nat} {k:IntKind} {i:Nat} {e:TypeId} {s:Nat} (hx:ev fr x=some (.slice a m c)) (hy:ev fr y=some (.int k (i:Int))) (ht:P.underlying t=some (.slice e)) (hs:(P.info? e).map (·.size)=some s)
  (hA:a=some A) (h1:i<m):aU P n fr w (.indexAddr t x y) ty (.pointer (some (A.add (i*s)))) w:=by
 have:=R.indexAddr (P:=P) (n:=n) (w:=w) (ty:=ty) hx hy ht hs hA (by omega) (by omega)
 simpa using this
variable {Q:Exit->Act->World->Prop} {l rest:List Oper} {d:Nat} {pos:String} {af:Array Edge}
def Gf (fr:Fr):List Operand->Option (List Value)
 | []=>some []
 | x :: r=>
  match ev fr x,Gf fr r with
  | some v,some vs=>some (v :: vs)
  | _,_=>none
theorem pS {a:Act} (ha:M n fr a):∀ {xs:List Operand} {vs:List Value},Gf fr xs=some vs->xs.map a.eval=vs
 | [],vs,h=>by simp [Gf] at h; subst h; rfl
 | x :: r,vs,h=>by
  simp only [Gf] at h
  split at h
  ·rename_i v vs' hv hvs
   cases h
   simp [ha.ev hv,pS ha hvs]
  ·cases h
def Bg (fr:Fr):List (Nat × Operand)->Option (List (Nat × Value))
 | []=>some []
 | (i,x) :: r=>
  match ev fr x,Bg fr r with
  | some v,some vs=>some ((i,v) :: vs)
  | _,_=>none
theorem qo {a:Act} (ha:M n fr a):∀ {xs:List (Nat × Operand)} {vs:List (Nat × Value)},Bg fr xs=some vs->xs.map (fun p=>(p.1,a.eval p.2))=vs
 | [],vs,h=>by simp [Bg] at h; subst h; rfl
 | (i,x) :: r,vs,h=>by
  simp only [Bg] at h
  split at h
  ·rename_i v vs' hv hvs
   cases h
   simp [ha.ev hv,qo ha hvs]
  ·cases h
theorem R.Am {parts:List (Nat × Operand)} {pv:List (Nat × Value)} {cells:Array Value} (hp:Bg fr parts=some pv) (hb:P.built t pv=some cells):aU P n fr w (.build t parts.toArray) ty (.agg cells) w:=
 R.build (pv:=pv) (fun a ha=>by simp [<- qo ha hp]) hb
theorem mV (s:Nat):∀ (vss:List (List Value)) (k:Nat) (pre post:List Value),(∀ vs ∈ vss,vs.length=s)->pre.length=k*s->post.length=vss.length*s->∀ (pv:List (Nat × Value)),pv.map (fun p=>(p.1,p.2.cells.toList))=(List.range' k vss.length).zip vss ->
  Instr.fill (fun i=>some (i*s,s)) (pre++post).toArray pv=some (pre++vss.flatten).toArray
 | [],k,pre,post,_,_,hpost,pv,hpv=>by
  have:pv=[]:=by simpa using hpv
  subst this
  have:post=[]:=by simpa using hpost
  subst this
  simp [Instr.fill]
 | vs :: vss,k,pre,post,hl,hpre,hpost,[],hpv=>by simp [List.range'_succ] at hpv
 | vs :: vss,k,pre,post,hl,hpre,hpost,(i,v) :: pv,hpv=>by
  simp only [List.map_cons,List.length_cons,List.range'_succ,List.zip_cons_cons,List.cons.injEq,Prod.mk.injEq] at hpv
  obtain ⟨⟨hi,hv⟩,hpv⟩:=hpv
  subst hi
  have hvs:vs.length=s:=hl vs (by simp)
  have hsz:v.cells.size=s:=by rw [<- Array.length_toList,hv,hvs]
  have hpl:post.length=s+vss.length*s:=by rw [hpost,List.length_cons,Nat.add_mul]; omega
  have key:∀ (us:List Value) (j:Nat) (a b:List Value),us.length<=b.length->a.length=i*s+j ->
    (us.zipIdx j).foldl (fun cs (c:Value × Nat)=>cs.setIfInBounds (i*s+c.2) c.1) (a++b).toArray=(a++us++b.drop us.length).toArray:=by
   intro us
   induction us with
   | nil=>intro j a b _ _; simp
   | cons u us ih=>
    intro j a b hb ha
    cases b with
    | nil=>simp at hb
    | cons b0 b=>
     simp only [List.zipIdx_cons,List.foldl_cons]
     have:((a++b0 :: b).toArray.setIfInBounds (i*s+j) u)=((a++[u])++b).toArray:=by
      simp [<- ha]
     rw [this,ih (j+1) (a++[u]) b (by simpa using hb) (by simp [ha]; omega)]
     simp
  have hfold:v.cells.zipIdx.foldl (fun cs (c:Value × Nat)=>cs.setIfInBounds (i*s+c.2) c.1) (pre++post).toArray=((pre++vs)++post.drop s).toArray:=by
   have h1:=key vs 0 pre post (by omega) (by omega)
   rw [hvs] at h1
   have h2:v.cells=vs.toArray:=by simp [<- hv]
   rw [<- h1,h2]
   simp
  simp only [Instr.fill,hsz,ne_eq,not_true_eq_false]
  rw [if_neg (by simp [hpre,hpl])]
  have:=mV s vss (i+1) (pre++vs) (post.drop s) (fun x hx=>hl x (by simp [hx])) (by simp [hpre,hvs,Nat.add_mul]) (by simp [hpl]) pv (by simpa using hpv)
  refine Eq.trans ?_ (this.trans (by simp))
  congr 1
theorem E.call {f:FuncId} {asx:Array TypeId} {fn:Func} {xs:List Operand} {vs cap:List Value} (hx:ev fr x=some (.func (.func f) #[] cap.toArray)) (hvs:Gf fr xs=some vs) (hf:P.funcs[f]? = some fn) (hn:(fn.name == "runtime.NumGoroutine")=false) (hb:fn.body.isNone=false) :
  qH P n fr w (.call { callee:=.value x,args:=xs.toArray,argTypes:=asx }) ty f (vs++cap).toArray:=fun _ _ _ _ _ ha=>by
 simp [execOp,resolve,ha.ev hx,Deferred.ofValue,invoke,callFunc,hf,show ¬ fn.name = "runtime.NumGoroutine" by simpa using hn,show ¬ fn.body=none by intro h; simp [h] at hb,pS ha hvs]
end
theorem sy:∀ {pre fr:Fr} {i:Nat},(∀ p ∈ pre,p.1≠i)->look (pre++fr) i=look fr i
 | [],_,_,_=>rfl
 | (j,v) :: r,fr,i,h=>by
  rw [List.cons_append,aY,if_neg (h (j,v) (by simp))]
  exact sy fun p hp=>h p (by simp [hp])
theorem sN:∀ {fr:Fr} {i:Nat} {v:Value},look fr i=some v->∃ q ∈ fr,q.1=i
 | [],_,_,h=>by cases h
 | (j,u) :: r,i,v,h=>by
  rw [aY] at h
  by_cases hj:j=i
  ·exact ⟨(j,u),by simp,hj⟩
  ·rw [if_neg hj] at h
   obtain ⟨q,hq,he⟩:=sN h
   exact ⟨q,by simp [hq],he⟩
section
variable {P:Program} {Q:Exit->Act->World->Prop} {n:Nat} {fr:Fr} {w:World}
end
theorem BW {α:Type} {xs:List α} {i:Nat} {x:α} (h:xs[i]? = some x):i<xs.length:=(List.getElem?_eq_some_iff.1 h).1
theorem CellsAt.kp {S:List Nat} {w w':World} {a:Addr} {cs:List Value} (h:CellsAt w a cs) (k:Kp S w w') (hlt:a.block<w.heap.size) (hS:∀ g ∈ S,g≠a.block):CellsAt w' a cs:=
 h.keep (k.block _ hlt fun hm=>hS _ hm rfl)
theorem vb {b c:Bool} (h:b=c):Value.bool b = .bool c:=by rw [h]
def Ac {α:Type} [Rp α] (lo:Nat) (o2:Bool) (lo2 hi2 hi:Nat) (w:World) (v:Value) (xs:List α):Prop:=
 xs.length*Rp.by_ α<=140737488355328/\∃ css,((xs=[]/\∃ a,v = .slice a 0 0)\/(w.ownsRow lo (Rp.tid α) (Rp.sz α) v xs.length css.flatten/\∀ g,v.ownBlock=some g->g<hi))/\All2 (Rp.rp o2 lo2 hi2 w) css xs
def Src {α:Type} [Rp α] (o2:Bool) (lo2 hi2:Nat) (w:World) (A:Option Addr) (ys:List α):Prop:=
 ∃ css,All2 (Rp.rp o2 lo2 hi2 w) css ys/\(ys=[]\/∃ ad,A=some ad/\CellsAt w ad css.flatten)
def ob:Value->List Nat
 | .slice (some a) _ c=>if c=0 then [] else [a.block]
 | _=>[]
theorem pV {v:Value} {g:Nat} (h:g ∈ ob v):v.ownBlock=some g:=by
 cases v <;> simp only [ob,List.not_mem_nil] at h
 rename_i a n c
 cases a with
 | none=>simp at h
 | some a=>
  simp only at h
  split at h
  ·simp at h
  ·simp at h; simp [Value.ownBlock,h]
section
variable {α:Type} [Rp α] {lo lo2 hi2 hi:Nat} {o o2:Bool} {w w':World} {v:Value} {xs ys:List α}
theorem vq {w':World} {e:TypeId} {s n:Nat} {cs:List Value} (h:w.ownsRow lo e s v n cs) (k:∀ g,v.ownBlock=some g->w'.heap[g]? = w.heap[g]?):w'.ownsRow lo e s v n cs:=by
 refine ⟨h.1,?_⟩
 rcases h.2 with h0 | ⟨g,cap,cur,hv,hg,hh,r⟩
 ·exact .inl h0
 ·exact .inr ⟨g,cap,cur,hv,hg,(k g (by simp [hv,Value.ownBlock])).trans hh,r⟩
theorem Ac.keep (h:Ac lo o2 lo2 hi2 hi w v xs) (k:∀ b,lo<=b->b<hi->w'.heap[b]? = w.heap[b]?) (k2:∀ b,lo2<=b->b<hi2->w'.heap[b]? = w.heap[b]?):Ac lo o2 lo2 hi2 hi w' v xs:=by
 obtain ⟨hB,css,h1,h3⟩:=h
 refine ⟨hB,css,?_,h3.imp fun _ _ h=>Rp.keep h k2⟩
 rcases h1 with h0 | ⟨h1,h2⟩
 ·exact .inl h0
 ·exact .inr ⟨vq h1 fun g hg=>k g (h1.lt g hg).1 (h2 g hg),h2⟩
theorem Ac.mono {lo' lo2' hi2' hi':Nat} (h:Ac lo o2 lo2 hi2 hi w v xs) (a:lo' <= lo) (b:lo2' <= lo2) (b':hi2<=hi2') (c:hi<=hi'):Ac lo' o2 lo2' hi2' hi' w v xs:=by
 obtain ⟨hB,css,h1,h3⟩:=h
 refine ⟨hB,css,?_,h3.imp fun _ _ h=>Rp.mono h b b'⟩
 rcases h1 with h0 | ⟨h1,h2⟩
 ·exact .inl h0
 ·refine .inr ⟨⟨h1.1,?_⟩,fun g hg=>Nat.lt_of_lt_of_le (h2 g hg) c⟩
  rcases h1.2 with h0 | ⟨g,cap,cur,hv,hg,r⟩
  ·exact .inl h0
  ·exact .inr ⟨g,cap,cur,hv,by omega,r⟩
theorem Ac.weak (h:Ac lo o2 lo2 hi2 hi w v xs):Ac lo false lo2 hi2 hi w v xs:=by
 obtain ⟨hB,css,h1,h3⟩:=h
 exact ⟨hB,css,h1,h3.imp fun _ _ h=>Rp.weak h⟩
end
theorem qL {P:Program} {e:TypeId} {s b:Nat} {z:List Value} (h:(P.info? e).map (fun i=>(i.zero.map Value.cells,i.size,i.bytes))=some (some z.toArray,s,b)) :
  ∃ i zv,P.info? e=some i/\i.zero=some zv/\zv.cells=z.toArray/\i.size=s/\i.bytes=b:=by
 cases hq:P.info? e with
 | none=>simp [hq] at h
 | some i=>
  simp only [hq,Option.map_some,Option.some.injEq,Prod.mk.injEq,Option.map_eq_some_iff] at h
  obtain ⟨⟨zv,h1,h2⟩,h3,h4⟩:=h
  exact ⟨i,zv,rfl,h1,h2,h3,h4⟩
section
variable {P:Program} {n:Nat} {fr:Fr} {w:World} {x y:Operand} {ty t:TypeId} {Q:Exit->Act->World->Prop} {l rest:List Oper} {d:Nat} {pos:String} {af:Array Edge}
variable {α:Type} [Rp α] {lo lo2 hi2 hi:Nat} {o2:Bool} {v:Value} {xs ys:List α}
end
section
variable {P:Program} {Q:Exit->Act->World->Prop} {n:Nat} {fr:Fr} {w:World} {x y:Operand} {ty t:TypeId} {l rest:List Oper} {d:Nat} {pos:String} {af:Array Edge}
variable {α:Type} [Rp α] {lo lo2 hi2 hi:Nat} {o2:Bool} {xs:List α}
theorem oJ (a:Addr):a.add 0=a:=by simp [Addr.add_zero']
theorem R.xe {a a':Option Addr} {m c i j s:Nat} {kl kh:IntKind} {z z':Operand} (hx:ev fr x=some (.slice a m c)) (hz:ev fr z=some (.int kl (i:Int))) (hz':ev fr z' = some (.int kh (j:Int))) {e:TypeId} (ht:P.underlying t=some (.slice e)) (hs:(P.info? e).map (·.size)=some s)
  (ha:(if c=i then a else a.map (·.add (i*s)))=a') (hij:i<=j) (hj:j<=c):aU P n fr w (.slice t x (some z) (some z') none) ty (.slice a' (j - i) (c - i)) w:=fun _ _ _ _ _ hfr=>by
 subst ha
 cases hq:P.info? e with
 | none=>simp [hq] at hs
 | some q=>
  have hs':q.size=s:=by simpa [hq] using hs
  have he:P.elem t=e:=by simp [Program.elem,ht]
  have e0:=run_sliceAt_slice (P:=P) w t (.slice a m c) (some (.int kl (i:Int))) (some (.int kh (j:Int))) none (by rw [he]; exact ht)
  have:=run_slice_lh (P:=P) w t a m c (by rw [he]; exact ht) kl kh (i:Int) (j:Int) (by omega) (by omega) (by omega)
  simp [execOp,hfr.ev hx,hfr.ev hz,hfr.ev hz',e0,this,he,sizeOf,typeInfo,hq,hs',sliced,Result.andThen]
theorem R.j_ {a a':Option Addr} {m c j s:Nat} {kh:IntKind} {z':Operand} (hx:ev fr x=some (.slice a m c)) (hz':ev fr z' = some (.int kh (j:Int))) {e:TypeId} (ht:P.underlying t=some (.slice e)) (hs:(P.info? e).map (·.size)=some s)
  (ha:(if c=0 then a else a.map (·.add (0*s)))=a') (hj:j<=c):aU P n fr w (.slice t x none (some z') none) ty (.slice a' (j - 0) (c - 0)) w:=fun _ _ _ _ _ hfr=>by
 subst ha
 cases hq:P.info? e with
 | none=>simp [hq] at hs
 | some q=>
  have hs':q.size=s:=by simpa [hq] using hs
  have he:P.elem t=e:=by simp [Program.elem,ht]
  have e0:=run_sliceAt_slice (P:=P) w t (.slice a m c) none (some (.int kh (j:Int))) none (by rw [he]; exact ht)
  have:=run_slice_h (P:=P) w t a m c (by rw [he]; exact ht) kh (j:Int) (by omega) (by omega)
  simp [execOp,hfr.ev hx,hfr.ev hz',e0,this,he,sizeOf,typeInfo,hq,hs',sliced,Result.andThen]
theorem R.cr {a a':Option Addr} {m c i s:Nat} {kl:IntKind} {z:Operand} (hx:ev fr x=some (.slice a m c)) (hz:ev fr z=some (.int kl (i:Int))) {e:TypeId} (ht:P.underlying t=some (.slice e)) (hs:(P.info? e).map (·.size)=some s)
  (ha:(if c=i then a else a.map (·.add (i*s)))=a') (hj:i<=m):aU P n fr w (.slice t x (some z) none none) ty (.slice a' (m - i) (c - i)) w:=fun _ _ _ _ _ hfr=>by
 subst ha
 cases hq:P.info? e with
 | none=>simp [hq] at hs
 | some q=>
  have hs':q.size=s:=by simpa [hq] using hs
  have he:P.elem t=e:=by simp [Program.elem,ht]
  have e0:=run_sliceAt_slice (P:=P) w t (.slice a m c) (some (.int kl (i:Int))) none none (by rw [he]; exact ht)
  have:=run_slice_l (P:=P) w t a m c (by rw [he]; exact ht) kl (i:Int) (by omega) (by omega)
  simp [execOp,hfr.ev hx,hfr.ev hz,e0,this,he,sizeOf,typeInfo,hq,hs',sliced,Result.andThen]
def Str.cut (s:Str) (i j:Nat):Str:=⟨(s.b.drop i).take (j - i)⟩
theorem Str.pJ (s:Str) (i j:Nat):(Value.string ((⟨s.b.toArray⟩:ByteArray).extract i j))=(s.cut i j).val:=by
 simp only [Str.val,Str.cut]
 congr 1
 apply ByteArray.ext
 apply Array.ext'
 simp [ByteArray.data_extract]
theorem R.MN {s:Str} {j:Nat} {kh:IntKind} {z':Operand} (hx:ev fr x=some s.val) (hz':ev fr z' = some (.int kh (j:Int))) (ht:P.underlying t=some .string) (hj:j<=s.b.length) :
  aU P n fr w (.slice t x none (some z') none) ty (s.cut 0 j).val w:=fun _ _ _ _ _ hfr=>by
 have e0:=run_sliceAt_string (P:=P) w t (.string ⟨s.b.toArray⟩) none (some (.int kh (j:Int))) none ht
 have:=run_slice_string_h (P:=P) w t ⟨s.b.toArray⟩ ht kh (j:Int) (by omega) (by show (j:Int)<=((s.b.toArray.size:Nat):Int); simp; omega)
 rw [<- Str.pJ s 0 j]
 simp only [Str.val] at hx
 simp [execOp,hfr.ev hx,hfr.ev hz',e0,this]
theorem wrap_u8 (a:Nat):IntKind.u8.wrap (a:Int)=(((UInt8.ofNat a).toNat:Nat):Int):=by
 rw [UInt8.toNat_ofNat']
 show (a:Int) % 256=_
 omega
theorem wrap_u64 {a:Nat} (h:a<18446744073709551616):IntKind.u64.wrap (a:Int)=(a:Int):=by
 show (a:Int) % 18446744073709551616=_
 omega
theorem R.JY {k:IntKind} {a:Nat} {t':TypeId} {dd:TypeDesc} (hx:ev fr x=some (.int k (a:Int))) (hs:P.underlying t=some dd) (hd:P.underlying t' = some (.int .u8)):aU P n fr w (.convert t t' x) ty (.int .u8 (((UInt8.ofNat a).toNat:Nat):Int)) w:=by
 have:=R.conv (P:=P) (n:=n) (w:=w) (ty:=ty) hx hs hd
 rwa [wrap_u8] at this
theorem R.Ao {k:IntKind} {a:Nat} {t':TypeId} {dd:TypeDesc} (hx:ev fr x=some (.int k (a:Int))) (hs:P.underlying t=some dd) (hd:P.underlying t' = some (.int .u64)) (h:a<18446744073709551616):aU P n fr w (.convert t t' x) ty (.int .u64 (a:Int)) w:=by
 have:=R.conv (P:=P) (n:=n) (w:=w) (ty:=ty) hx hs hd
 rwa [wrap_u64 h] at this
theorem R.MQ {a b:UInt8} {t':TypeId} (hx:ev fr x=some (.int .u8 (a.toNat:Int))) (hy:ev fr y=some (.int .u8 (b.toNat:Int))):aU P n fr w (.binOp .or t x y t') ty (.int .u8 ((a ||| b).toNat:Int)) w:=fun _ _ _ _ _ ha=>by
 have e:bits .or .u8 (a.toNat:Int) (b.toNat:Int)=((a ||| b).toNat:Int):=by
  have h1:∀ c:UInt8,(BitVec.ofInt 8 (c.toNat:Int))=c.toBitVec:=fun c=>by
   rw [BitVec.ofInt_natCast]; exact BitVec.eq_of_toNat_eq (by simp)
  show IntKind.u8.wrap ((BitVec.ofInt 8 (a.toNat:Int) ||| BitVec.ofInt 8 (b.toNat:Int)).toNat:Int)=_
  rw [h1,h1,<- UInt8.toBitVec_or]
  have:=(a ||| b).toNat_lt
  exact uI this
 simp [execOp,ha.ev hx,ha.ev hy,eqGuard_or,binOp_or,intBits_or,e]
theorem R.HS {k kc:IntKind} {a b:Nat} {t':TypeId} (hx:ev fr x=some (.int k (a:Int))) (hy:ev fr y=some (.int kc (b:Int))) (hb:b<=k.bits):aU P n fr w (.binOp .shr t x y t') ty (.int k ((a / 2 ^ b:Nat):Int)) w:=fun _ _ _ _ _ ha=>by
 have e:(a:Int) / 2 ^ min (b:Int).toNat k.bits=((a / 2 ^ b:Nat):Int):=by
  rw [Int.toNat_natCast,Nat.min_eq_left hb]; simp
 simp [execOp,ha.ev hx,ha.ev hy,eqGuard_shr,binOp_shr,shift_shr_any _ _ _ _ (Int.natCast_nonneg b)]
 simpa using e
end
structure Sp where
 deps:List Nat
 S:List Nat
 V:Value->World->Prop
def Sp.ex (deps:List Nat) (c:Value):Sp:=⟨deps,[],fun u _=>u=c⟩
def spAt (sp:List Sp) (i:Nat):Sp:=sp.getD i ⟨[],[],fun _ _=>True⟩
def uy:List Sp->List Nat
 | []=>[]
 | s :: r=>s.S++uy r
def nT:List Sp->Nat->List Nat
 | [],_=>[]
 | _ :: r,0=>uy r
 | s :: r,i+1=>s.S++nT r i
def cE (l:List Oper) (fr:Fr) (vs:Nat->Value):List Nat->Fr
 | []=>fr
 | j :: r=>match idst l j with
  | some d=>(d,vs j) :: cE l fr vs r
  | none=>cE l fr vs r
def dX (sp:List Sp) (vs:Nat->Value) (w:World):List Nat->Prop
 | []=>True
 | j :: r=>(spAt sp j).V (vs j) w/\dX sp vs w r
def lz (N:Nat) (d?:Option Nat) (S:List Nat) (V:Value->World->Prop) (w:World):Exit->Act->World->Prop:=
 fun e a' w'=>e = .normal/\a'.defers=[]/\∃ v,(∀ d,d? = some d->d<N/\a'.tmps.getD d undef=v)/\V v w' /\ Kp S w w'
theorem WX.aT {N d:Nat} {S:List Nat} {V:Value->World->Prop} {w w':World} {fr:Fr} {v:Value} (h:look fr d=some v) (hV:V v w') (hk:Kp S w w'):WX (lz N (some d) S V w) N .normal fr w':=
 fun _ ha=>⟨rfl,ha.1,v,fun d' hd=>by cases hd; exact ha.2.2 _ _ h,hV,hk⟩
theorem WO.bL {P:Program} {Q:Exit->Act->World->Prop} {n:Nat} {l rest:List Oper} {fr fr':Fr} {w:World} (hf:Has fr fr') (h:WO P Q n l rest fr' w):WO P Q n l rest fr w:=fun a ha=>h a (ha.sub hf.look)
def dI (o:Oper):List Nat:=(o.after.toList.filter (Region.binds .any ·)).map (·.on)
def bA (l:List Oper) (i:Nat):List Nat:=match l[i]? with | some o=>dI o | none=>[]
def iH (l:List Oper) (sp:List Sp) (slots:List Nat) (n:Nat):Bool:=
  decide (n<=l.length) && decide (sp.length=n) &&
  ((List.range n).all fun i=>(bA l i).all (fun j=>decide (j<i)) &&
    (spAt sp i).deps.all (fun j=>decide (j<i) && ((bA l i).contains j || (bA l i).any (fun k=>(spAt sp k).deps.contains j))) &&
    (match idst l i with
     | some d=>!slots.contains d && (List.range n).all (fun j=>j == i || idst l j != some d)
     | none=>true)) &&
  ((decide (n=l.length)) || (Region.sinkB .any l.toArray n && Region.chainB .any l.toArray n)) &&
  Region.seqB .any l.toArray (l.length - n) n ((Array.replicate n true)++(Array.replicate (l.length - n) false))
theorem CJ {x y:Array Bool} (hs:x.size=y.size) (h:∀ i,i<x.size->x.getD i false=y.getD i false):x=y:=by
 apply Array.ext hs
 intro i h1 h2
 have:=h i h1
 simpa [Array.getD,h1,h2] using this
theorem countP_set {n i:Nat} {p q:Nat->Bool} (hi:i<n) (hp:p i=true) (hq:q i=false) (h:∀ j,j≠i->q j=p j):(List.range n).countP q+1=(List.range n).countP p:=by
 induction n with
 | zero=>omega
 | succ n ih=>
  rw [List.range_succ,List.countP_append,List.countP_append]
  by_cases hn:i=n
  ·subst hn
   have:(List.range i).countP q=(List.range i).countP p:=List.countP_congr fun j hj=>by rw [h j (by have:=List.mem_range.1 hj; omega)]
   simp [this,hp,hq]
  ·have:=ih (by omega)
   have e:q n=p n:=h n (fun e=>hn e.symm)
   simp only [List.countP_singleton,e]
   omega
theorem ue {F:Fence} {m:Nat} {P:Program} {o:Oper} {a:Act} {K K':Act->World->Prop} {Q Q':Exit->Act->World->Prop} {r:Result Next} (h:o.uponIn F m P a K Q r) (hK:∀ v w,K (a.put o.dst v) w->K' (a.put o.dst v) w) (hD:∀ d w,¬ K ({ a with defers:=d :: a.defers }.put o.dst undef) w)
  (hQ:∀ e a w,e ≠ .normal->¬ Q e a w):o.uponIn F m P a K' Q' r:=by
 have hE:∀ (e:Ending) (w'':World),(match e,w'' with | .returned v,w''=>K (a.put o.dst v) w'' | .panicked chain,w''=>Q (.panic chain) a w'' | .outgrown,_=>LetsOut Q) ->
   (match e,w'' with | .returned v,w''=>K' (a.put o.dst v) w'' | .panicked chain,w''=>Q' (.panic chain) a w'' | .outgrown,_=>LetsOut Q'):=fun e w'' he=>by
  cases e with
  | returned v=>exact hK _ _ he
  | panicked c=>exact absurd he (hQ _ _ _ (by simp))
  | outgrown=>obtain ⟨a',w',h'⟩:=he; exact absurd h' (hQ _ _ _ (by simp))
 cases r with
 | ok x w'=>
  cases x <;> simp only [Oper.uponIn] at h ⊢
  case value u=>exact hK _ _ h
  case skip=>exact hK _ _ h
  case defer d=>exact absurd h (hD _ _)
  case enter f args=>exact ⟨h.1,CallsIn.mono h.2 hE⟩
  case row r args=>exact ⟨h.1,RowsIn.mono h.2 fun v w'' hv=>hK _ _ hv⟩
  case round l f tmps assign body=>exact ⟨h.1,RoundIn.mono h.2 hE⟩
 | halt x w'=>
  cases x <;> simp only [Oper.uponIn] at h ⊢
  exact absurd h (hQ _ _ _ (by simp))
theorem gA {F:Fence} {m:Nat} {P:Program} {ops:Array Oper} {md:Region.Mode} {Q':Exit->Act->World->Prop}:∀ (l:List Oper) (k:Nat) (listed:Array Bool) (a:Act) (w:World),(∀ j,l[j]? = ops[k+j]?) ->
  Region.seqB md ops l.length k listed=true->wpListIn F m P ops Q' l a w->wpAnyIn F m P md ops Q' l.length listed a w
 | [],_,_,_,_,_,hB,h=>⟨by simpa [Region.seqB] using hB,h⟩
 | o :: l,k,listed,a,w,hl,hB,h=>by
  have h0:ops[k]? = some o:=by simpa using (hl 0).symm
  simp only [List.length_cons,Region.seqB,Bool.and_eq_true,decide_eq_true_eq] at hB
  refine ⟨fun h1=>(by rw [hB.1] at h1; cases h1),fun i hi=>?_⟩
  rw [hB.1] at hi
  have hik:i=k:=by simpa using hi
  subst hik
  have hw:wpOpIn F m P ops Q' i (wpListIn F m P ops Q' l) a w:=by unfold wpOpIn; simp only [h0]; exact h
  exact wpOpIn_mono (fun a' w' h'=>gA l (i+1) _ a' w' (fun j=>by have:=hl (j+1); simpa [Nat.add_assoc,Nat.add_comm 1 j] using this) hB.2 h') hw
theorem nd:∀ {sp:List Sp} {i j:Nat},i<sp.length->i≠j->∀ g ∈ (spAt sp i).S,g ∈ nT sp j
 | s :: r,0,0,_,hne,g,_=>absurd rfl hne
 | s :: r,0,j+1,_,_,g,hg=>List.mem_append_left _ hg
 | s :: r,i+1,0,hi,_,g,hg=>by
  have:∀ (r:List Sp) (i:Nat),i<r.length->g ∈ (spAt r i).S->g ∈ uy r:=by
   intro r
   induction r with
   | nil=>intro i hi; simp at hi
   | cons s r ih=>
    intro i hi hg
    cases i with
    | zero=>exact List.mem_append_left _ hg
    | succ i=>exact List.mem_append_right _ (ih i (by simpa using hi) hg)
  exact this r i (by simpa using hi) hg
 | s :: r,i+1,j+1,hi,hne,g,hg=>List.mem_append_right _ (nd (sp:=r) (by simpa using hi) (by omega) g hg)
 | [],i,j,hi,_,_,_=>by simp at hi
theorem rD:∀ {r:List Sp} {i:Nat},i<r.length->∀ g ∈ (spAt r i).S,g ∈ uy r
 | s :: r,0,_,g,hg=>List.mem_append_left _ hg
 | s :: r,i+1,hi,g,hg=>List.mem_append_right _ (rD (by simpa using hi) g hg)
 | [],i,hi,g,hg=>by simp at hi
section
variable {P:Program} {Q:Exit->Act->World->Prop} {N n id:Nat} {l:List Oper} {sp:List Sp} {fr:Fr} {w:World}
structure DInv (N n:Nat) (l:List Oper) (sp:List Sp) (fr:Fr) (w0:World) (listed:Array Bool) (a:Act) (w:World):Prop where
 head:HeadInv .any l.toArray n listed
 clo:∀ i,i<n->listed.getD i false=true->∀ j ∈ (spAt sp i).deps,listed.getD j false=true
 fr:M N fr a
 vals:∃ vs:Nat->Value,∀ i,i<n->listed.getD i false=true->(∀ d,idst l i=some d->d<N/\a.tmps.getD d undef=vs i)/\(spAt sp i).V (vs i) w
 kp:∃ S,Kp S w0 w/\∀ g ∈ S,∃ i,i<n/\listed.getD i false=true/\g ∈ (spAt sp i).S
theorem iW {a:Act} (hfr:M N fr a) {vs:Nat->Value}:∀ (ds:List Nat),(∀ j ∈ ds,∀ d,idst l j=some d->d<N/\a.tmps.getD d undef=vs j)->M N (cE l fr vs ds) a
 | [],_=>hfr
 | j :: r,h=>by
  have ih:=iW hfr (vs:=vs) r fun j hj=>h j (List.mem_cons_of_mem _ hj)
  unfold cE
  split
  ·rename_i d hd
   refine ⟨ih.1,ih.2.1,fun i v hv=>?_⟩
   rw [aY] at hv
   by_cases hi:d=i
   ·subst hi
    rw [if_pos rfl] at hv
    cases hv
    exact h j (by simp) d hd
   ·rw [if_neg hi] at hv
    exact ih.2.2 i v hv
  ·exact ih
theorem ja {vs:Nat->Value} {w:World}:∀ (ds:List Nat),(∀ j ∈ ds,(spAt sp j).V (vs j) w)->dX sp vs w ds
 | [],_=>trivial
 | j :: r,h=>⟨h j (by simp),ja r fun j hj=>h j (List.mem_cons_of_mem _ hj)⟩
theorem WC.draw (hm:P.follows .mixedOrders=true) (sp:List Sp) (n:Nat) (hB:iH l sp (fr.map (·.1)) n=true)
    (stab:∀ i,i<n->∀ v w w',(spAt sp i).V v w->Kp (nT sp i) w w' -> (spAt sp i).V v w')
    (ops:∀ i o,i<n->l[i]? = some o->∀ vs w1,Kp (nT sp i) w w1->dX sp vs w1 (spAt sp i).deps->WO P (lz N (idst l i) (spAt sp i).S (spAt sp i).V w1) N l [o] (cE l fr vs (spAt sp i).deps) w1)
    (tail:∀ vs w1,Kp (uy sp) w w1->dX sp vs w1 (List.range n)->WO P Q N l (l.drop n) (cE l fr vs (List.range n)) w1):WC P Q N (.region id l.toArray true) fr w:=by
  intro a ha ro ds
  simp only [iH,Bool.and_eq_true,decide_eq_true_eq,List.all_eq_true,List.mem_range,Bool.or_eq_true] at hB
  obtain ⟨⟨⟨⟨hnl,hsp⟩,hops⟩,hsc⟩,hseq⟩:=hB
  refine wpIn_region_any hm ?_
  have main:∀ f listed a w1,(List.range n).countP (fun i=>!listed.getD i false)=f->DInv N n l sp fr w listed a w1->wpAnyIn (kg ro) 0 P .any l.toArray (jk ds Q) (f+(l.length - n)) listed (gh a ds) w1:=by
    intro f
    induction f with
    | zero=>
      intro listed a w1 hc inv
      have hall:∀ i,i<n->listed.getD i false=true:=fun i hi=>by
        have:=List.countP_eq_zero.1 hc i (List.mem_range.2 hi)
        simpa using this
      have hl:listed=Array.replicate n true++Array.replicate (l.length - n) false:=by
        have hsz:=inv.head.size
        refine CJ (by rw [hsz]; simp; omega) fun i hi=>?_
        rw [hsz] at hi
        have hi':i<l.length:=by simpa using hi
        by_cases hin:i<n
        · rw [hall i hin,Array.getD_eq_getD_getElem?,Array.getElem?_append_left (by simpa using hin)]
          simp [hin]
        · have h2:=inv.head.tail i (by omega) hi
          have h3:listed.getD i false=false:=getD_both h2
          rw [h3,Array.getD_eq_getD_getElem?,Array.getElem?_append_right (by simp; omega)]
          simp only [Array.size_replicate,Array.getElem?_replicate]
          split <;> rfl
      rw [<- hl] at hseq
      obtain ⟨vs,hv⟩:=inv.vals
      obtain ⟨S,hk,hS⟩:=inv.kp
      have hM:M N (cE l fr vs (List.range n)) a:=iW inv.fr _ fun j hj d hd=>(hv j (List.mem_range.1 hj) (hall j (List.mem_range.1 hj))).1 d hd
      have ht:=tail vs w1 (hk.sub fun g hg=>by
        obtain ⟨i,hi,_,h⟩:=hS g hg
        exact rD bt g h) (ja _ fun j hj=>(hv j (List.mem_range.1 hj) (hall j (List.mem_range.1 hj))).2) a hM ro ds
      have hdl:(l.drop n).length=l.length - n:=by simp
      have:=gA (F:=kg ro) (m:=0) (P:=P) (md:=.any) (ops:=l.toArray) (Q':=jk ds Q) (l.drop n) n listed (gh a ds) w1 (fun j=>by simp [List.getElem?_drop]) (by rw [hdl]; exact hseq) ht
      rw [hdl] at this
      rw [Nat.zero_add]
      exact this
    | succ f ih=>
      intro listed a w1 hc inv
      have hex:∃ i,i<n/\listed.getD i false=false/\∀ j,j<i->listed.getD j false=true:=by
        have h1:∃ i,i<n/\listed.getD i false=false:=by
          have:0<(List.range n).countP (fun i=>!listed.getD i false):=by omega
          obtain ⟨i,hi,hp⟩:=List.countP_pos_iff.1 this
          exact ⟨i,List.mem_range.1 hi,by simpa using hp⟩
        obtain ⟨i,hi,hp⟩:=h1
        have hmin:∀ m,∀ i,i<n->listed.getD i false=false->i<=m->∃ i,i<n/\listed.getD i false=false/\∀ j,j<i->listed.getD j false=true:=by
          intro m
          induction m with
          | zero=>intro i hi hp him; exact ⟨i,hi,hp,fun j hj=>by omega⟩
          | succ m ihm=>
            intro i hi hp him
            by_cases hlt:∃ j,j<i/\listed.getD j false=false
            · obtain ⟨j,hj,hpj⟩:=hlt
              exact ihm j bt hpj bt
            · exact ⟨i,hi,hp,fun j hj=>by
                cases h:listed.getD j false with
                | true=>rfl
                | false=>exact absurd ⟨j,hj,h⟩ hlt⟩
        exact hmin i i hi hp (Nat.le_refl _)
      obtain ⟨m,hmn,hmu,hmall⟩:=hex
      have hsz:=inv.head.size
      have hin:∀ i,i<n->listed.getD i false=false->listed.getD i true=false:=fun i hi h=>getD_in (by rw [hsz]; simp; omega) h
      have hready:m ∈ Region.ready .any l.toArray listed:=by
        have hml:m<l.length:=by omega
        refine mem_ready.2 ⟨hin m hmn hmu,l[m],by simp [hml],fun e he hb=>?_⟩
        have h1:=(hops m hmn).1.1 e.on (by
          simp only [bA,List.getElem?_eq_getElem hml,dI,List.mem_map,List.mem_filter]
          exact ⟨e,⟨by simpa using he,hb⟩,rfl⟩)
        exact hmall _ h1
      rw [show f+1+(l.length - n)=(f+(l.length - n))+1 by omega]
      refine ⟨fun h0=>(by rw [h0] at hready; cases hready),fun i hi=>?_⟩
      have hil:i<l.length:=by
        obtain ⟨_,o,ho,_⟩:=mem_ready.1 hi
        simpa using (Array.getElem?_eq_some_iff.1 ho).1
      have hin':i<n:=by
        rcases Nat.lt_or_ge i n with h | h
        · exact h
        · rcases hsc with hsc | hsc
          · omega
          · exact absurd hi (tail_waits hsc.1 hsc.2 (by simp; omega) inv.head _ m rfl hmn (hin m hmn hmu) i h)
      obtain ⟨hun,o,ho,hafter⟩:=mem_ready.1 hi
      have ho':l[i]? = some o:=by simpa using ho
      have hun':listed.getD i false=false:=getD_both hun
      obtain ⟨vs,hv⟩:=inv.vals
      obtain ⟨S,hk,hS⟩:=inv.kp
      -- what it leans on has come
      have hpre:∀ k ∈ bA l i,listed.getD k false=true:=fun k hk=>by
        simp only [bA,ho',dI,List.mem_map,List.mem_filter] at hk
        obtain ⟨e,⟨he,hb⟩,rfl⟩:=hk
        exact hafter e (by simpa using he) hb
      have hdeps:∀ j ∈ (spAt sp i).deps,j<i/\listed.getD j false=true:=fun j hj=>by
        have h1:=(hops i hin').1.2 j hj
        refine ⟨h1.1,?_⟩
        rcases h1.2 with h2 | h2
        · exact hpre j (by simpa using h2)
        · obtain ⟨k,hk,hk2⟩:=List.any_eq_true.1 h2
          have hki:k<i:=(hops i hin').1.1 k hk
          exact inv.clo k bt (hpre k hk) j (by simpa using hk2)
      have hko:Kp (nT sp i) w w1:=hk.sub fun g hg=>by
        obtain ⟨j,hj,hlj,hgj⟩:=hS g hg
        exact nd (by omega) (fun e=>by subst e; rw [hun'] at hlj; cases hlj) g hgj
      have hM:M N (cE l fr vs (spAt sp i).deps) a:=iW inv.fr _ fun j hj d hd=>(hv j (by have:=hdeps j hj; omega) (hdeps j hj).2).1 d hd
      have hf:dX sp vs w1 (spAt sp i).deps:=ja _ fun j hj=>(hv j (by have:=hdeps j hj; omega) (hdeps j hj).2).2
      have hw:=ops i o hin' ho' vs w1 hko hf a hM ro ds
      have step:∀ v w2,lz N (idst l i) (spAt sp i).S (spAt sp i).V w1 .normal (a.put o.dst v) w2->wpAnyIn (kg ro) 0 P .any l.toArray (jk ds Q) (f+(l.length - n)) (listed.setIfInBounds i true) (gh (a.put o.dst v) ds) w2:=by
        intro v w2 ⟨_,_,u,hu,hV,hk2⟩
        have hdst:idst l i=o.dst:=by rw [fJ,ho']; rfl
        have hset:∀ j,(listed.setIfInBounds i true).getD j false=if j=i then true else listed.getD j false:=fun j=>by
          by_cases hj:j=i
          · subst hj; simp [Array.getD,hsz,hil]
          · rw [getD_set_ne false (Ne.symm hj),if_neg hj]
        refine ih _ _ _ ?_ ⟨inv.head.set hi hin',?_,?_,?_,?_⟩
        · have:=countP_set (n:=n) (i:=i) (p:=fun j=>!listed.getD j false) (q:=fun j=>!(listed.setIfInBounds i true).getD j false) hin' (by simp [hun']) (by simp [hset]) (fun j hj=>by simp [hset,hj])
          omega
        · intro j hj hlj d hd
          rw [hset]
          by_cases hdi:d=i
          · simp [hdi]
          · rw [if_neg hdi]
            by_cases hji:j=i
            · subst hji; exact (hdeps d hd).2
            · rw [hset,if_neg hji] at hlj
              exact inv.clo j hj hlj d hd
        · -- what stood in the frame
          obtain ⟨f1,f2,f3⟩:=inv.fr
          cases hd:o.dst with
          | none=>exact ⟨f1,f2,f3⟩
          | some d=>
            have hfree:=(hops i hin').2
            rw [hdst,hd] at hfree
            simp only [Bool.and_eq_true,Bool.not_eq_true',List.all_eq_true,List.mem_range,Bool.or_eq_true,beq_iff_eq,bne_iff_ne] at hfree
            refine ⟨f1,by simp [Act.put,f2],fun k u' hk'=>?_⟩
            obtain ⟨hkn,hkv⟩:=f3 k u' hk'
            refine ⟨hkn,?_⟩
            have hne:d≠k:=by
              rintro rfl
              have:∀ (fr:Fr) (d:Nat) (v:Value),look fr d=some v->d ∈ fr.map (·.1):=by
                intro fr
                induction fr with
                | nil=>intro d v h; cases h
                | cons x r ihr=>
                  intro d v h
                  obtain ⟨x1,x2⟩:=x
                  rw [aY] at h
                  by_cases hx:x1=d
                  · simp [hx]
                  · rw [if_neg hx] at h
                    exact List.mem_cons_of_mem _ (ihr d v h)
              have h3:=this fr d u' hk'
              have h4:=hfree.1
              simp only [List.contains_eq_mem,decide_eq_false_iff_not] at h4
              exact h4 h3
            rw [<- hkv]
            simp [Act.put,Array.getD,f2,hkn,hne]
        · refine ⟨fun j=>if j=i then u else vs j,fun j hj hlj=>?_⟩
          by_cases hji:j=i
          · subst hji
            simp only
            exact ⟨hu,hV⟩
          · simp only [if_neg hji]
            rw [hset,if_neg hji] at hlj
            obtain ⟨h1,h2⟩:=hv j hj hlj
            refine ⟨fun d hd=>?_,stab j hj _ _ _ h2 (hk2.sub (nd (by omega) (Ne.symm hji)))⟩
            obtain ⟨hdN,hdv⟩:=h1 d hd
            refine ⟨hdN,?_⟩
            cases hdo:o.dst with
            | none=>exact hdv
            | some d'=>
              have hfree:=(hops i hin').2
              rw [hdst,hdo] at hfree
              simp only [Bool.and_eq_true,Bool.not_eq_true',List.all_eq_true,List.mem_range,Bool.or_eq_true,beq_iff_eq,bne_iff_ne] at hfree
              have h5:=(hfree.2 j hj).resolve_left hji
              rw [hd] at h5
              have hne:d' ≠ d:=fun e=>h5 (by rw [e])
              rw [<- hdv]
              by_cases hds:d<a.tmps.size <;> simp [Act.put,Array.getD,hds,hne]
        · refine ⟨S++(spAt sp i).S,hk.trans hk2,fun g hg=>?_⟩
          rcases List.mem_append.1 hg with hg | hg
          · obtain ⟨j,hj,hlj,hgj⟩:=hS g hg
            refine ⟨j,hj,?_,hgj⟩
            rw [hset]; split
            · rfl
            · exact hlj
          · exact ⟨i,hin',by rw [hset,if_pos rfl],hg⟩
      have step':∀ v w2,jk ds (lz N (idst l i) (spAt sp i).S (spAt sp i).V w1) .normal ((gh a ds).put o.dst v) w2->wpAnyIn (kg ro) 0 P .any l.toArray (jk ds Q) (f+(l.length - n)) (listed.setIfInBounds i true) ((gh a ds).put o.dst v) w2:=fun v w2 ⟨a0,h0,e,h⟩=>by
        rw [iR] at e ⊢
        rw [<- CV e (wy inv.fr.1 _ _) h0] at h
        exact step v w2 h
      unfold wpOpIn
      simp only [ho]
      simp only [wpListIn] at hw
      try simp only [eq_self_iff_true] at hw
      by_cases hwant:Region.wanted o (yielded l.toArray (gh a ds).tmps)=true
      · rw [if_pos hwant] at hw ⊢
        unfold Oper.wpIn at hw ⊢
        refine ⟨fun _ _=>trivial,ue hw.2 step' (fun d w2 ⟨a0,h0,e,h⟩=>?_) (fun e a w he ⟨_,_,_,h⟩=>he h.1)⟩
        have:=congrArg Act.defers e
        cases hd:o.dst <;> rw [hd] at this <;> simp [Act.put,gh] at this
      · rw [if_neg hwant] at hw ⊢
        exact ⟨fun _ _=>trivial,step' undef w1 hw.2⟩
  have hcount:(List.range n).countP (fun i=>!(Array.replicate l.toArray.size false).getD i false)=n:=by
    rw [List.countP_eq_length.2 (fun i _=>by rw [getD_replicate_false]; rfl),List.length_range]
  have:=main n (Array.replicate l.toArray.size false) a { w with drawn:=w.drawn+1 } hcount
    ⟨⟨by simp,fun j oj _ hl=>(by rw [getD_replicate_false] at hl; cases hl),fun t _ ht=>getD_in (by simpa using ht) (getD_replicate_false _ _)⟩,
     fun i _ hl=>(by rw [getD_replicate_false] at hl; cases hl),ha,⟨fun _=>undef,fun i _ hl=>(by rw [getD_replicate_false] at hl; cases hl)⟩,
     ⟨[],(Kp.refl w).drew,fun g hg=>by cases hg⟩⟩
  rw [show n+(l.length - n)=l.toArray.size by simp; omega] at this
  exact this
def nY (P:Program) (N:Nat) (l:List Oper) (sp:List Sp) (fr:Fr) (w:World):Nat->List Oper->Prop
 | _,[]=>True
 | i,o :: r=>(∀ vs w1,Kp (nT sp i) w w1->dX sp vs w1 (spAt sp i).deps->WO P (lz N (idst l i) (spAt sp i).S (spAt sp i).V w1) N l [o] (cE l fr vs (spAt sp i).deps) w1)/\nY P N l sp fr w (i+1) r
def jo (sp:List Sp):Nat->List Sp->Prop
 | _,[]=>True
 | i,s :: r=>(∀ v w w',s.V v w->Kp (nT sp i) w w' -> s.V v w')/\jo sp (i+1) r
theorem nY.at_:∀ {r:List Oper} {k:Nat},nY P N l sp fr w k r->∀ j o,r[j]? = some o->∀ vs w1,Kp (nT sp (k+j)) w w1->dX sp vs w1 (spAt sp (k+j)).deps ->
  WO P (lz N (idst l (k+j)) (spAt sp (k+j)).S (spAt sp (k+j)).V w1) N l [o] (cE l fr vs (spAt sp (k+j)).deps) w1
 | [],_,_,j,o,ho=>by simp at ho
 | x :: r,k,h,0,o,ho=>by
  simp at ho; subst ho
  exact h.1
 | x :: r,k,h,j+1,o,ho=>by
  have:=h.2.at_ j o (by simpa using ho)
  rwa [show k+1+j=k+(j+1) by omega] at this
theorem jo.at_:∀ {r:List Sp} {k:Nat},jo sp k r->∀ j,j<r.length->∀ v w w',(spAt r j).V v w->Kp (nT sp (k+j)) w w' -> (spAt r j).V v w'
 | [],_,_,j,hj=>by simp at hj
 | s :: r,k,h,0,_=>h.1
 | s :: r,k,h,j+1,hj=>by
  have:=h.2.at_ j (by simpa using hj)
  rwa [show k+1+j=k+(j+1) by omega] at this
theorem WC.oX (hm:P.follows .mixedOrders=true) (sp:List Sp) (n:Nat) (hB:iH l sp (fr.map (·.1)) n=true) (stab:jo sp 0 sp) (ops:nY P N l sp fr w 0 (l.take n))
  (tail:∀ vs w1,Kp (uy sp) w w1->dX sp vs w1 (List.range n)->WO P Q N l (l.drop n) (cE l fr vs (List.range n)) w1):WC P Q N (.region id l.toArray true) fr w:=by
 have hB':=hB
 simp only [iH,Bool.and_eq_true,decide_eq_true_eq] at hB'
 have hsp:sp.length=n:=hB'.1.1.1.2
 refine WC.draw hm sp n hB (fun i hi=>?_) (fun i o hi ho=>?_) tail
 ·have:=stab.at_ i (by omega)
  rwa [Nat.zero_add] at this
 ·have:=ops.at_ i o (by rw [List.getElem?_take,if_pos hi]; exact ho)
  rwa [Nat.zero_add] at this
end
structure Reply where
 code:Int
 n:Int
deriving DecidableEq
structure Sess where
 client:Int
 seq:Int
 last:Reply
deriving DecidableEq
structure Opn where
 set:Int
 client:Int
deriving DecidableEq
structure Snap where
 id:Int
 set:Int
 chunks:List Int
 held:Bool
 tag:Str
deriving DecidableEq
structure State where
 version:Int
 next:Int
 keep:Int
 quota:Int
 sess:List Sess
 opens:List Opn
 snaps:List Snap
deriving DecidableEq
structure Command where
 kind:Int
 client:Int
 seq:Int
 set:Int
 id:Int
 n:Int
 chunks:List Int
 text:Str
deriving DecidableEq
structure SnapE where
 id:Int
 set:Int
 chunks:Bool × List Int
 held:Bool
 tag:Str
deriving DecidableEq
structure Field where
 num:Int
 wire:Int
 n:U64
 b:List UInt8
deriving DecidableEq
structure Spec where
 num:Int
 wire:Int
 since:Int
 need:Bool
 many:Bool
deriving DecidableEq
structure Entry where
 term:Int
 b:List UInt8
deriving DecidableEq
structure Record where
 kind:Int
 a:Int
 b:Int
 x:List UInt8
deriving DecidableEq
structure Letter where
 kind:Int
 frm:Int
 to:Int
 term:Int
 a:Int
 b:Int
 c:Int
 bin:Int
 ok:Bool
 l:List Entry
deriving DecidableEq
structure Event where
 kind:Int
 a:Int
 b:Int
 c:Command
deriving DecidableEq
structure CallR where
 node:Int
 number:Int
 term:Int
 at_:Int
 until_:Int
 c:Command
 done:Bool
 reply:Reply
deriving DecidableEq
structure Rest where
 fields:List Field
 at_:UInt8
deriving DecidableEq
structure Span where
 lo:Int
 hi:Int
deriving DecidableEq
inductive NT
 | reply | sess | opn | snap | state | command | snapE | field | spec | entry | record | letter | event | call | rest | span
deriving DecidableEq
abbrev NT.den:NT->Type
 | .reply=>Reply
 | .sess=>Sess
 | .opn=>Opn
 | .snap=>Snap
 | .state=>State
 | .command=>Command
 | .snapE=>SnapE
 | .field=>Field
 | .spec=>Spec
 | .entry=>Entry
 | .record=>Record
 | .letter=>Letter
 | .event=>Event
 | .call=>CallR
 | .rest=>Rest
 | .span=>Span
inductive Sh
 | int | u8 | u64 | bool | str
 | lx                                        -- a slice of ints,of one's own time (true),or of what lies ahead
 | lst (s:Sh)
 | nm (t:NT)
deriving DecidableEq
abbrev den:Sh->Type
 | .int=>Int
 | .u8=>UInt8
 | .u64=>U64
 | .bool=>Bool
 | .str=>Str
 | .lx=>Bool × List Int
 | .lst s=>List (den s)
 | .nm t=>t.den
inductive BE
 | lit (b:Bool) | atom (b:Bool)
 | lt (a b:Int) | le (a b:Int) | eq (a b:Int)
 | seq (a b:Str)
 | beq (x y:BE) | not (x:BE) | and (x y:BE) | or (x y:BE)
def BE.val:BE->Bool
 | .lit b=>b
 | .atom b=>b
 | .lt a b=>decide (a<b)
 | .le a b=>decide (a<=b)
 | .eq a b=>decide (a=b)
 | .seq a b=>decide (a=b)
 | .beq x y=>x.val == y.val
 | .not x=>!x.val
 | .and x y=>x.val && y.val
 | .or x y=>x.val || y.val
def BE.p:BE->Bool->Prop
 | .lit b,v=>b=v
 | .atom b,v=>b=v
 | .lt a b,true=>a<b
 | .lt a b,false=>b<=a
 | .le a b,true=>a<=b
 | .le a b,false=>b<a
 | .eq a b,true=>a=b
 | .eq a b,false=>¬ a=b
 | .seq a b,true=>a=b
 | .seq a b,false=>¬ a=b
 | .beq x y,v=>(x.val == y.val)=v
 | .not x,true=>x.p false
 | .not x,false=>x.p true
 | .and x y,true=>x.p true/\y.p true
 | .and x y,false=>x.p false\/y.p false
 | .or x y,true=>x.p true\/y.p true
 | .or x y,false=>x.p false/\y.p false
theorem BE.dB:∀ (e:BE) (v:Bool),e.p v↔e.val=v
 | .lit b,v=>.rfl
 | .atom b,v=>.rfl
 | .lt a b,true=>by simp [BE.p,BE.val]
 | .lt a b,false=>by simp [BE.p,BE.val]
 | .le a b,true=>by simp [BE.p,BE.val]
 | .le a b,false=>by simp [BE.p,BE.val]
 | .eq a b,true=>by simp [BE.p,BE.val]
 | .eq a b,false=>by simp [BE.p,BE.val]
 | .seq a b,true=>by simp [BE.p,BE.val]
 | .seq a b,false=>by simp [BE.p,BE.val]
 | .beq x y,v=>.rfl
 | .not x,true=>by simp [BE.p,BE.val,dB x]
 | .not x,false=>by simp [BE.p,BE.val,dB x]
 | .and x y,true=>by simp [BE.p,BE.val,dB x,dB y]
 | .and x y,false=>by cases hx:x.val <;> simp [BE.p,BE.val,dB x,dB y,hx]
 | .or x y,true=>by simp [BE.p,BE.val,dB x,dB y]
 | .or x y,false=>by simp [BE.p,BE.val,dB x,dB y]
structure TabE where
 g:Nat
 s:Sh
 xs:List (den s)
def DJ:List TabE:=[]
def JJ:List (Nat × Bool):=[]
inductive XK
 | er (b:Bool) | pl | pa | fm (f:Str->Option Int) | bp
 | ff (s:Sh) (xs:List (den s))           -- a slice that lies,with all that is in it,ahead of one's own
 | mx (nw:Bool) (xs:List Int)            -- a slice of ints that nobody writes,or one that lies ahead of one's own
inductive AV
 | int (n:Int) | u8 (b:UInt8) | u64 (n:Nat) | bool (e:BE) | str (s:Str)
 | em (nil:Bool)                           -- a slice without any,and without room
 | fz (s:Sh) (xs:List (den s))           -- a slice of what nobody writes
 | li (nw:Bool) (xs:List Int)            -- a slice of ints that nobody writes: of one's own time,or ahead of it
 | own (id:Nat)                            -- all of a row of one's own
 | sub (id off len:Nat)
 | ptr (id off:Nat) | np
 | elp (id i off:Nat)                      -- at an element of a row of one's own
 | fe (s:Sh) (x:den s) (off:Nat)       -- at an element of what nobody writes
 | fn (f:Nat) (b c:List (Nat × Nat)) | nf
 | yl (l:Nat)                              -- what a range over a function hands to it: of the loop l
 | mq (id:Nat)                             -- a map of one's own
 | xx (k:XK) (cs:List (Nat × Nat))
 | dead
inductive TV1
 | c (a:AV)
 | agg (l:List AV)
inductive TV
 | one (t:TV1)
 | tup (l:List TV1)
 | un
abbrev AFr:=List (Nat × TV)
inductive AO
 | gone
 | box (t:TypeId) (cs:List AV)
 | row (t:TypeId) (s:Sh) (xs:List (den s))
 | mapo (s:Sh) (f:Int->Option (den s))
 | arr (t:TypeId) (s:Sh) (n:Nat) (xs:List (den s))   -- an array
 | mapf (l:List (Int × AV))                -- a map of functions
 | loc                                       -- something: where it lies,and no more
abbrev AH:=List AO
def lookA:AFr->Nat->Option TV
 | [],_=>none
 | (j,v) :: r,i=>bif Nat.beq j i then some v else lookA r i
def AV.bH:AV->Option Int
 | .int n=>some n
 | _=>none
def AV.JC:AV->Option UInt8
 | .u8 n=>some n
 | _=>none
def AV.GP:AV->Option U64
 | .u64 n=>some ⟨n⟩
 | _=>none
def AV.rb:AV->Option Bool
 | .bool e=>some e.val
 | _=>none
def AV.uq:AV->Option Str
 | .str s=>some s
 | _=>none
def AV.Jj:AV->Option (Bool × List Int)
 | .li b xs=>some (b,xs)
 | .em _=>some (true,[])
 | _=>none
def AV.fD (s:Sh):AV->Option (List (den s))
 | .fz s' xs=>if h:s' = s then some (h ▸ xs) else none
 | .em _=>some []
 | _=>none
def NT.cells:(t:NT)->t.den->List AV
 | .reply,x=>[.int x.code,.int x.n]
 | .sess,x=>[.int x.client,.int x.seq,.int x.last.code,.int x.last.n]
 | .opn,x=>[.int x.set,.int x.client]
 | .snap,x=>[.int x.id,.int x.set,.fz .int x.chunks,.bool (.atom x.held),.str x.tag]
 | .state,x=>[.int x.version,.int x.next,.int x.keep,.int x.quota,.fz (.nm .sess) x.sess,.fz (.nm .opn) x.opens,.fz (.nm .snap) x.snaps]
 | .command,x=>[.int x.kind,.int x.client,.int x.seq,.int x.set,.int x.id,.int x.n,.fz .int x.chunks,.str x.text]
 | .snapE,x=>[.int x.id,.int x.set,.li x.chunks.1 x.chunks.2,.bool (.atom x.held),.str x.tag]
 | .field,x=>[.int x.num,.int x.wire,.u64 x.n.n,.fz .u8 x.b]
 | .spec,x=>[.int x.num,.int x.wire,.int x.since,.bool (.atom x.need),.bool (.atom x.many)]
 | .entry,x=>[.int x.term,.fz .u8 x.b]
 | .record,x=>[.int x.kind,.int x.a,.int x.b,.fz .u8 x.x]
 | .letter,x=>[.int x.kind,.int x.frm,.int x.to,.int x.term,.int x.a,.int x.b,.int x.c,.int x.bin,.bool (.atom x.ok),.fz (.nm .entry) x.l]
 | .event,x=>[.int x.kind,.int x.a,.int x.b,.int x.c.kind,.int x.c.client,.int x.c.seq,.int x.c.set,.int x.c.id,.int x.c.n,.fz .int x.c.chunks,.str x.c.text]
 | .call,x=>[.int x.node,.int x.number,.int x.term,.int x.at_,.int x.until_,.int x.c.kind,.int x.c.client,.int x.c.seq,.int x.c.set,.int x.c.id,.int x.c.n,.fz .int x.c.chunks,.str x.c.text,.bool (.atom x.done),.int x.reply.code,.int x.reply.n]
 | .rest,x=>[.fz (.nm .field) x.fields,.u8 x.at_]
 | .span,x=>[.int x.lo,.int x.hi]
def NT.size:NT->Nat
 | .reply=>2
 | .sess=>4
 | .opn=>2
 | .snap=>5
 | .state=>7
 | .command=>8
 | .snapE=>5
 | .field=>4
 | .spec=>5
 | .entry=>2
 | .record=>4
 | .letter=>10
 | .event=>11
 | .call=>16
 | .rest=>2
 | .span=>2
def NT.bytes:NT->Nat
 | .reply=>16
 | .sess=>32
 | .opn=>16
 | .snap=>64
 | .state=>104
 | .command=>88
 | .snapE=>64
 | .field=>48
 | .spec=>32
 | .entry=>32
 | .record=>48
 | .letter=>96
 | .event=>112
 | .call=>152
 | .rest=>32
 | .span=>16
def NT.fC:NT->List Sh
 | .reply=>[]
 | .sess=>[]
 | .opn=>[]
 | .snap=>[.int]
 | .state=>[(.nm .sess),(.nm .opn),(.nm .snap)]
 | .command=>[.int]
 | .snapE=>[.int]
 | .field=>[.u8]
 | .spec=>[]
 | .entry=>[.u8]
 | .record=>[.u8]
 | .letter=>[(.nm .entry)]
 | .event=>[.int]
 | .call=>[.int]
 | .rest=>[(.nm .field)]
 | .span=>[]
def NT.aG:(t:NT)->t.den
 | .reply=>⟨0,0⟩
 | .sess=>⟨0,0,⟨0,0⟩⟩
 | .opn=>⟨0,0⟩
 | .snap=>⟨0,0,[],false,⟨[]⟩⟩
 | .state=>⟨0,0,0,0,[],[],[]⟩
 | .command=>⟨0,0,0,0,0,0,[],⟨[]⟩⟩
 | .snapE=>⟨0,0,(true,[]),false,⟨[]⟩⟩
 | .field=>⟨0,0,⟨0⟩,[]⟩
 | .spec=>⟨0,0,0,false,false⟩
 | .entry=>⟨0,[]⟩
 | .record=>⟨0,0,0,[]⟩
 | .letter=>⟨0,0,0,0,0,0,0,0,false,[]⟩
 | .event=>⟨0,0,0,⟨0,0,0,0,0,0,[],⟨[]⟩⟩⟩
 | .call=>⟨0,0,0,0,0,⟨0,0,0,0,0,0,[],⟨[]⟩⟩,false,⟨0,0⟩⟩
 | .rest=>⟨[],0⟩
 | .span=>⟨0,0⟩
def Reply.of:List AV->Option Reply
 | [a0,a1]=>match a0.bH,a1.bH with
  | some x0,some x1=>some ⟨x0,x1⟩
  | _,_=>none
 | _=>none
def Sess.of:List AV->Option Sess
 | [a0,a1,a2,a3]=>match a0.bH,a1.bH,a2.bH,a3.bH with
  | some x0,some x1,some x2,some x3=>some ⟨x0,x1,⟨x2,x3⟩⟩
  | _,_,_,_=>none
 | _=>none
def Opn.of:List AV->Option Opn
 | [a0,a1]=>match a0.bH,a1.bH with
  | some x0,some x1=>some ⟨x0,x1⟩
  | _,_=>none
 | _=>none
def Snap.of:List AV->Option Snap
 | [a0,a1,a2,a3,a4]=>match a0.bH,a1.bH,a2.fD .int,a3.rb,a4.uq with
  | some x0,some x1,some x2,some x3,some x4=>some ⟨x0,x1,x2,x3,x4⟩
  | _,_,_,_,_=>none
 | _=>none
def State.of:List AV->Option State
 | [a0,a1,a2,a3,a4,a5,a6]=>match a0.bH,a1.bH,a2.bH,a3.bH,a4.fD (.nm .sess),a5.fD (.nm .opn),a6.fD (.nm .snap) with
  | some x0,some x1,some x2,some x3,some x4,some x5,some x6=>some ⟨x0,x1,x2,x3,x4,x5,x6⟩
  | _,_,_,_,_,_,_=>none
 | _=>none
def Command.of:List AV->Option Command
 | [a0,a1,a2,a3,a4,a5,a6,a7]=>match a0.bH,a1.bH,a2.bH,a3.bH,a4.bH,a5.bH,a6.fD .int,a7.uq with
  | some x0,some x1,some x2,some x3,some x4,some x5,some x6,some x7=>some ⟨x0,x1,x2,x3,x4,x5,x6,x7⟩
  | _,_,_,_,_,_,_,_=>none
 | _=>none
def SnapE.of:List AV->Option SnapE
 | [a0,a1,a2,a3,a4]=>match a0.bH,a1.bH,a2.Jj,a3.rb,a4.uq with
  | some x0,some x1,some x2,some x3,some x4=>some ⟨x0,x1,x2,x3,x4⟩
  | _,_,_,_,_=>none
 | _=>none
def Field.of:List AV->Option Field
 | [a0,a1,a2,a3]=>match a0.bH,a1.bH,a2.GP,a3.fD .u8 with
  | some x0,some x1,some x2,some x3=>some ⟨x0,x1,x2,x3⟩
  | _,_,_,_=>none
 | _=>none
def Spec.of:List AV->Option Spec
 | [a0,a1,a2,a3,a4]=>match a0.bH,a1.bH,a2.bH,a3.rb,a4.rb with
  | some x0,some x1,some x2,some x3,some x4=>some ⟨x0,x1,x2,x3,x4⟩
  | _,_,_,_,_=>none
 | _=>none
def Entry.of:List AV->Option Entry
 | [a0,a1]=>match a0.bH,a1.fD .u8 with
  | some x0,some x1=>some ⟨x0,x1⟩
  | _,_=>none
 | _=>none
def Record.of:List AV->Option Record
 | [a0,a1,a2,a3]=>match a0.bH,a1.bH,a2.bH,a3.fD .u8 with
  | some x0,some x1,some x2,some x3=>some ⟨x0,x1,x2,x3⟩
  | _,_,_,_=>none
 | _=>none
def Letter.of:List AV->Option Letter
 | [a0,a1,a2,a3,a4,a5,a6,a7,a8,a9]=>match a0.bH,a1.bH,a2.bH,a3.bH,a4.bH,a5.bH,a6.bH,a7.bH,a8.rb,a9.fD (.nm .entry) with
  | some x0,some x1,some x2,some x3,some x4,some x5,some x6,some x7,some x8,some x9=>some ⟨x0,x1,x2,x3,x4,x5,x6,x7,x8,x9⟩
  | _,_,_,_,_,_,_,_,_,_=>none
 | _=>none
def Event.of:List AV->Option Event
 | [a0,a1,a2,a3,a4,a5,a6,a7,a8,a9,a10]=>match a0.bH,a1.bH,a2.bH,a3.bH,a4.bH,a5.bH,a6.bH,a7.bH,a8.bH,a9.fD .int,a10.uq with
  | some x0,some x1,some x2,some x3,some x4,some x5,some x6,some x7,some x8,some x9,some x10=>some ⟨x0,x1,x2,⟨x3,x4,x5,x6,x7,x8,x9,x10⟩⟩
  | _,_,_,_,_,_,_,_,_,_,_=>none
 | _=>none
def CallR.of:List AV->Option CallR
 | [a0,a1,a2,a3,a4,a5,a6,a7,a8,a9,a10,a11,a12,a13,a14,a15]=>match a0.bH,a1.bH,a2.bH,a3.bH,a4.bH,a5.bH,a6.bH,a7.bH,a8.bH,a9.bH,a10.bH,a11.fD .int,a12.uq,a13.rb,a14.bH,a15.bH with
  | some x0,some x1,some x2,some x3,some x4,some x5,some x6,some x7,some x8,some x9,some x10,some x11,some x12,some x13,some x14,some x15=>some ⟨x0,x1,x2,x3,x4,⟨x5,x6,x7,x8,x9,x10,x11,x12⟩,x13,⟨x14,x15⟩⟩
  | _,_,_,_,_,_,_,_,_,_,_,_,_,_,_,_=>none
 | _=>none
def Rest.of:List AV->Option Rest
 | [a0,a1]=>match a0.fD (.nm .field),a1.JC with
  | some x0,some x1=>some ⟨x0,x1⟩
  | _,_=>none
 | _=>none
def Span.of:List AV->Option Span
 | [a0,a1]=>match a0.bH,a1.bH with
  | some x0,some x1=>some ⟨x0,x1⟩
  | _,_=>none
 | _=>none
def NT.of:(t:NT)->List AV->Option t.den
 | .reply,l=>Reply.of l
 | .sess,l=>Sess.of l
 | .opn,l=>Opn.of l
 | .snap,l=>Snap.of l
 | .state,l=>State.of l
 | .command,l=>Command.of l
 | .snapE,l=>SnapE.of l
 | .field,l=>Field.of l
 | .spec,l=>Spec.of l
 | .entry,l=>Entry.of l
 | .record,l=>Record.of l
 | .letter,l=>Letter.of l
 | .event,l=>Event.of l
 | .call,l=>CallR.of l
 | .rest,l=>Rest.of l
 | .span,l=>Span.of l
def cellsOf:(s:Sh)->den s->List AV
 | .int,x=>[.int x]
 | .u8,x=>[.u8 x]
 | .u64,x=>[.u64 x.n]
 | .bool,x=>[.bool (.atom x)]
 | .str,x=>[.str x]
 | .lx,x=>[.li x.1 x.2]
 | .lst s,x=>[.fz s x]
 | .nm t,x=>t.cells x
def Sh.size:Sh->Nat
 | .nm t=>t.size
 | _=>1
def Sh.bytes:Sh->Nat
 | .int=>8
 | .u8=>1
 | .u64=>8
 | .bool=>1
 | .str=>16
 | .lx=>24
 | .lst _=>24
 | .nm t=>t.bytes
def aG:(s:Sh)->den s
 | .int=>0
 | .u8=>0
 | .u64=>⟨0⟩
 | .bool=>false
 | .str=>⟨[]⟩
 | .lx=>(true,[])
 | .lst _=>[]
 | .nm t=>t.aG
def dZ:(s:Sh)->List AV->Option (den s)
 | .int,[.int n]=>some n
 | .u8,[.u8 b]=>some b
 | .u64,[.u64 n]=>some ⟨n⟩
 | .bool,[.bool e]=>some e.val
 | .str,[.str s]=>some s
 | .lx,[a]=>a.Jj
 | .lst s,[a]=>a.fD s
 | .nm t,l=>t.of l
 | _,_=>none
end Go.Proofs.Ytjmbgkmkinmlkaa
namespace Go.Proofs.Ytjmbgkmkinmlkaa
open Go.RowKit
inductive TK
 | i (k:IntKind) | bool | str
 | sl (e:TypeId) (s:Option Sh)
 | st (fs:List (Nat × Nat))              -- the fields' offsets and sizes
 | ar (n:Nat) (e:TypeId)
 | mp (k e:TypeId) (s:Option Sh)         -- a map with integers asx keys
 | ptr | fn | oth
 | ifc                                     -- an interface
 | ms (k e:TypeId)                       -- a map with words asx keys,of numbers
structure TI where
 k:TK
 size:Nat
 zero:List AV
def bq:List (Nat × TI)->Nat->Option TI
 | [],_=>none
 | (j,v) :: r,i=>bif Nat.beq j i then some v else bq r i
structure PR where
 v:TV
 ob:List Prop:=[]
 fc:List Prop:=[]
def one (a:AV):TV:=.one (.c a)
def pr (a:AV) (ob:List Prop:=[]) (fc:List Prop:=[]):Option PR:=some ⟨.one (.c a),ob,fc⟩
def AV.ok:AV->List Prop
 | .int n=>[I64 n]
 | .u64 n=>[n<18446744073709551616]
 | .str s=>[s.b.length<=140737488355328]
 | .fz s xs=>[xs.length*s.bytes<=140737488355328]
 | _=>[]
def yZ:List AV->List Prop
 | []=>[]
 | a :: r=>a.ok++yZ r
def TV1.ok:TV1->List Prop
 | .c a=>a.ok
 | .agg l=>yZ l
def xY:List TV1->List Prop
 | []=>[]
 | a :: r=>a.ok++xY r
def getO (H:AH) (id:Nat):AO:=H.getD id .gone
def AV.vw (H:AH):AV->AV
 | .own id=>match getO H id with
  | .row _ s xs=>.fz s xs
  | _=>.dead
 | .sub id off len=>match getO H id with
  | .row _ s xs=>.fz s ((xs.drop off).take len)
  | _=>.dead
 | a=>a
def Nq:Value->Option AV
 | .int .i64 n=>bif decide (-9223372036854775808<=n) && decide (n<=9223372036854775807) then some (.int n) else none
 | .int .u8 n=>bif decide (0<=n) && decide (n<256) then some (.u8 (UInt8.ofNat n.toNat)) else none
 | .int .u64 n=>bif decide (0<=n) && decide (n<18446744073709551616) then some (.u64 n.toNat) else none
 | .bool b=>some (.bool (.lit b))
 | .string s=>bif Nat.ble s.data.toList.length 140737488355328 then some (.str ⟨s.data.toList⟩) else none
 | .slice none 0 0=>some (.em true)
 | .pointer none=>some .np
 | .nilIface=>some (.xx (.er true) [])
 | .nilFunc=>some .nf
 | _=>none
def cW (fr:AFr):Operand->Option TV
 | .tmp i=>lookA fr i
 | .const v=>match Nq v with
  | some a=>some (one a)
  | none=>none
 | .func f=>some (one (.fn f [] []))
 | .global _=>none
def BE.neg:BE->BE
 | .lit b=>.lit (!b)
 | .not e=>e
 | e=>.not e
def LW (a b:Int):Int:=((a.toNat ||| b.toNat:Nat):Int)
def yK (a b:Int):Int:=((BitVec.ofInt 64 a &&& BitVec.ofInt 64 b).toNat:Int)
def Jt (op:BinOp):AV->AV->Option PR
 | .int a,.int b=>match op with
  | .lss=>pr (.bool (.lt a b))
  | .leq=>pr (.bool (.le a b))
  | .gtr=>pr (.bool (.lt b a))
  | .geq=>pr (.bool (.le b a))
  | .eql=>pr (.bool (.eq a b))
  | .neq=>pr (.bool (.not (.eq a b)))
  | .add=>pr (.int (a+b)) [I64 (a+b)]
  | .sub=>pr (.int (a - b)) [I64 (a - b)]
  | .mul=>pr (.int (a*b)) [I64 (a*b)]
  | .quo=>pr (.int (a.tdiv b)) [0<=a,0<b]
  | .rem=>pr (.int (a.tmod b)) [0<=a,0<b]
  | .and=>pr (.int (yK a b)) [0<=b]
  | .or=>pr (.int (LW a b)) [0<=a,0<=b]
  | _=>none
 | .u8 a,.u8 b=>match op with
  | .lss=>pr (.bool (.lt a.toNat b.toNat))
  | .leq=>pr (.bool (.le a.toNat b.toNat))
  | .gtr=>pr (.bool (.lt b.toNat a.toNat))
  | .geq=>pr (.bool (.le b.toNat a.toNat))
  | .eql=>pr (.bool (.eq a.toNat b.toNat))
  | .neq=>pr (.bool (.not (.eq a.toNat b.toNat)))
  | .and=>pr (.u8 (a &&& b))
  | .or=>pr (.u8 (a ||| b))
  | .rem=>pr (.u8 (a % b)) [0<b.toNat]
  | .quo=>pr (.u8 (a / b)) [0<b.toNat]
  | _=>none
 | .u64 a,.u64 b=>match op with
  | .lss=>pr (.bool (.lt a b))
  | .leq=>pr (.bool (.le a b))
  | .gtr=>pr (.bool (.lt b a))
  | .geq=>pr (.bool (.le b a))
  | .eql=>pr (.bool (.eq a b))
  | .neq=>pr (.bool (.not (.eq a b)))
  | .add=>pr (.u64 ((a+b) % 18446744073709551616))
  | .or=>pr (.u64 (a ||| b))
  | .quo=>pr (.u64 (a / b)) [0<b]
  | .rem=>pr (.u64 (a % b)) [0<b]
  | .shl=>pr (.u64 ((a*2 ^ b) % 18446744073709551616)) [b<64]
  | .shr=>pr (.u64 (a / 2 ^ b)) [b<64]
  | _=>none
 | .u64 a,.int b=>match op with
  | .shl=>pr (.u64 ((a*2 ^ b.toNat) % 18446744073709551616)) [0<=b,b<64]
  | .shr=>pr (.u64 (a / 2 ^ b.toNat)) [0<=b,b<64]
  | _=>none
 | .int a,.u64 b=>match op with
  | .shl=>pr (.int (a*2 ^ b)) [b<64,I64 (a*2 ^ b)]
  | _=>none
 | .u8 a,.u64 b=>match op with
  | .shr=>pr (.u8 (UInt8.ofNat (a.toNat / 2 ^ b))) [b<8]
  | _=>none
 | .bool a,.bool b=>match op with
  | .eql=>pr (.bool (.beq a b))
  | .neq=>pr (.bool (.not (.beq a b)))
  | _=>none
 | .str a,.str b=>match op with
  | .eql=>pr (.bool (.seq a b))
  | .neq=>pr (.bool (.not (.seq a b)))
  | .add=>pr (.str ⟨a.b++b.b⟩) [a.b.length+b.b.length<=140737488355328]
  | _=>none
 | .em a,.em true=>match op with
  | .eql=>pr (.bool (.lit a))
  | .neq=>pr (.bool (.lit (!a)))
  | _=>none
 | _,_=>none
inductive LK
 | i (k:IntKind) | b | s
deriving DecidableEq
def AV.lk:AV->Option LK
 | .int _=>some (.i .i64)
 | .u8 _=>some (.i .u8)
 | .u64 _=>some (.i .u64)
 | .bool _=>some .b
 | .str _=>some .s
 | _=>none
def Gm:List AV->Option (List LK)
 | []=>some []
 | a :: r=>match a.lk,Gm r with
  | some k,some l=>some (k :: l)
  | _,_=>none
def EF:AV->AV->Option BE
 | .int a,.int b=>some (.eq a b)
 | .u8 a,.u8 b=>some (.eq a.toNat b.toNat)
 | .u64 a,.u64 b=>some (.eq a b)
 | .bool x,.bool y=>some (.beq x y)
 | .str a,.str b=>some (.seq a b)
 | _,_=>none
def tz:List AV->List AV->Option BE
 | [],[]=>some (.lit true)
 | [a],[b]=>EF a b
 | a :: r,b :: l=>match EF a b,tz r l with
  | some x,some y=>some (.and x y)
  | _,_=>none
 | _,_=>none
def Nm (T:List (Nat × TI)) (op:BinOp) (t:TypeId) (asx bs:List AV):Option PR:=match bq T t with
 | some ⟨.st _,_,z⟩=>match Gm z,Gm asx,Gm bs with
  | some k,some k1,some k2=>match decide (k1=k) && decide (k2=k),tz asx bs,op with
   | true,some e,.eql=>pr (.bool e)
   | true,some e,.neq=>pr (.bool (.not e))
   | _,_,_=>none
  | _,_,_=>none
 | _=>none
def Ct (T:List (Nat × TI)) (t:TypeId):AV->Bool
 | .bool _=>match bq T t with
  | some ⟨.bool,_,_⟩=>true
  | _=>false
 | .em _=>match bq T t with
  | some ⟨.sl _ _,_,_⟩=>true
  | _=>false
 | .xx _ _=>false
 | _=>true
def CO (n:Nat):Int:=if n<9223372036854775808 then n else (n:Int) - 18446744073709551616
def Bq (H:AH) (s t:TK) (x:AV):Option PR:=
 match s,t,x with
 | .i .i64,.i .i64,.int n=>pr (.int n)
 | .i .u8,.i .i64,.u8 b=>pr (.int b.toNat)
 | .i .u8,.i .u64,.u8 b=>pr (.u64 b.toNat)
 | .i .i64,.i .u8,.int n=>pr (.u8 (UInt8.ofNat n.toNat)) [0<=n]
 | .i .i64,.i .u64,.int n=>pr (.u64 n.toNat) [0<=n]
 | .i .u64,.i .u8,.u64 n=>pr (.u8 (UInt8.ofNat n))
 | .i .u64,.i .i64,.u64 n=>pr (.int (CO n))
 | .i .u64,.i .u64,.u64 n=>pr (.u64 n)
 | .sl _ (some .u8),.str,x=>match x.vw H with
  | .fz .u8 xs=>pr (.str ⟨xs⟩)
  | .em _=>pr (.str ⟨[]⟩)
  | _=>none
 | .str,.sl _ (some .u8),.str s=>pr (.fz .u8 s.b)
 | _,_,_=>none
def Hi (T:List (Nat × TI)) (H:AH) (t:TypeId) (x:AV):Option Int:=
 match x,bq T t with
 | .fz _ xs,some ⟨.sl _ _,_,_⟩=>some xs.length
 | .str s,some ⟨.str,_,_⟩=>some s.b.length
 | .em _,some ⟨.sl _ _,_,_⟩=>some 0
 | .own id,some ⟨.sl _ _,_,_⟩=>match getO H id with
  | .row _ _ xs=>some xs.length
  | _=>none
 | .sub id _ len,some ⟨.sl _ _,_,_⟩=>match getO H id with
  | .row _ _ _=>some len
  | _=>none
 | .xx .pl cs,some ⟨.sl _ _,_,_⟩=>some cs.length
 | _,_=>none
def AV.ix:AV->Option Int
 | .int n=>some n
 | .u8 b=>some b.toNat
 | .u64 n=>some n
 | _=>none
def JA (T:List (Nat × TI)) (t:TypeId):Option Sh:=match bq T t with
 | some ⟨.sl _ s,_,_⟩=>s
 | _=>none
def ni (H:AH) (s':Sh) (x:AV) (i:Int):Option PR:=
 match x with
 | .fz s xs=>match decide (s' = s) with
  | true=>pr (.fe s (xs.getD i.toNat (aG s)) 0) [0<=i,i<xs.length] (yZ (cellsOf s (xs.getD i.toNat (aG s))))
  | false=>none
 | .own id=>match getO H id with
  | .row _ s xs=>match decide (s' = s) with
   | true=>pr (.elp id i.toNat 0) [0<=i,i<xs.length] (yZ (cellsOf s (xs.getD i.toNat (aG s))))
   | false=>none
  | _=>none
 | _=>none
def qW (H:AH):AV->Option (List AV × Nat)
 | .ptr id o=>match getO H id with
  | .box _ cs=>some (cs,o)
  | _=>none
 | .elp id i o=>match getO H id with
  | .row _ s xs=>some (cellsOf s (xs.getD i (aG s)),o)
  | _=>none
 | .fe s x o=>some (cellsOf s x,o)
 | .xx .pa [q]=>some ([.ptr q.1 q.2],0)
 | _=>none
def wB (T:List (Nat × TI)) (H:AH) (t:TypeId) (x:AV):Option PR:=
 match bq T t,qW H x with
 | some ti,some (cs,o)=>match ti.k,Nat.ble (o+ti.size) cs.length with
  | .st _,true=>some ⟨.one (.agg ((cs.drop o).take ti.size)),[],[]⟩
  | .ar _ _,true=>some ⟨.one (.agg ((cs.drop o).take ti.size)),[],[]⟩
  | .oth,_=>none
  | .st _,_=>none
  | .ar _ _,_=>none
  | _,_=>match cs[o]? with
   | some a=>pr a [] []
   | none=>none
 | _,_=>none
def AV.kx (k:Nat):AV->Option PR
 | .ptr id o=>pr (.ptr id (o+k))
 | .elp id i o=>pr (.elp id i (o+k))
 | .fe s x o=>pr (.fe s x (o+k))
 | _=>none
def gl (T:List (Nat × TI)) (t:TypeId) (x:AV) (l h:Option Int):Option PR:=
 match x with
 | .fz s xs=>match JA T t with
  | some s'=>match decide (s' = s) with
   | true=>match l,h with
    | some l,none=>pr (.fz s (xs.drop l.toNat)) [0<=l,l<=xs.length]
    | none,some h=>pr (.fz s (xs.take h.toNat)) [0<=h,h<=xs.length]
    | some l,some h=>pr (.fz s ((xs.drop l.toNat).take (h.toNat - l.toNat))) [0<=l,l<=h,h<=xs.length]
    | _,_=>none
   | false=>none
  | none=>none
 | .str s=>match bq T t with
  | some ⟨.str,_,_⟩=>match l,h with
   | some l,none=>pr (.str ⟨s.b.drop l.toNat⟩) [0<=l,l<=s.b.length]
   | none,some h=>pr (.str ⟨s.b.take h.toNat⟩) [0<=h,h<=s.b.length]
   | some l,some h=>pr (.str ⟨(s.b.drop l.toNat).take (h.toNat - l.toNat)⟩) [0<=l,l<=h,h<=s.b.length]
   | _,_=>none
  | _=>none
 | _=>none
def TV1.cells:TV1->List AV
 | .c a=>[a]
 | .agg l=>l
def Co (fr:AFr):List Operand->Option (List TV1)
 | []=>some []
 | x :: r=>match cW fr x,Co fr r with
  | some (.one a),some l=>some (a :: l)
  | _,_=>none
def sJ (fr:AFr):List (Nat × Operand)->Option (List (Nat × TV1))
 | []=>some []
 | (i,x) :: r=>match cW fr x,sJ fr r with
  | some (.one a),some l=>some ((i,a) :: l)
  | _,_=>none
def over (l:List AV) (o:Nat) (cs:List AV):List AV:=l.take o++cs++l.drop (o+cs.length)
def iV (fs:List (Nat × Nat)):List AV->List (Nat × TV1)->Option (List AV)
 | z,[]=>some z
 | z,(i,v) :: r=>match fs[i]? with
  | some (o,n)=>match Nat.beq v.cells.length n && Nat.ble (o+n) z.length with
   | true=>iV fs (over z o v.cells) r
   | false=>none
  | none=>none
def iM:Nat->Nat->List (Nat × Nat)
 | _,0=>[]
 | k,n+1=>(k,1) :: iM (k+1) n
def iS:List TV1->Option (List (Nat × Nat))
 | []=>some []
 | .c (.ptr id o) :: r=>match iS r with
  | some l=>some ((id,o) :: l)
  | none=>none
 | _=>none
def AV.plain:AV->Bool
 | .int _=>true
 | .u8 _=>true
 | .u64 _=>true
 | .bool _=>true
 | .str _=>true
 | .em _=>true
 | .fz _ _=>true
 | .li _ _=>true
 | _=>false
def Gq (T:List (Nat × TI)) (e:TypeId):Option Sh:=match bq T e with
 | some ⟨.i .i64,1,_⟩=>some .int
 | some ⟨.i .u8,1,_⟩=>some .u8
 | some ⟨.i .u64,1,_⟩=>some .u64
 | some ⟨.bool,1,_⟩=>some .bool
 | some ⟨.str,1,_⟩=>some .str
 | _=>none
def nL (s:Sh):List AV->Option (List (den s))
 | []=>some []
 | a :: r=>match dZ s [a],nL s r with
  | some x,some l=>some (x :: l)
  | _,_=>none
def kM (s:Sh) (xs:List (den s)):Nat->Nat->List AV
 | _,0=>[]
 | k,n+1=>cellsOf s (xs.getD k (aG s))++kM s xs (k+1) n
def Dd (T:List (Nat × TI)) (t:TypeId) (cs:List AV):AO:=match bq T t with
 | some ⟨.ar m e,_,_⟩=>match Gq T e with
  | some s=>match nL s cs with
   | some xs=>match Nat.beq xs.length m && Nat.beq s.size 1 with
    | true=>.arr t s m xs
    | false=>.box t cs
   | none=>.box t cs
  | none=>.box t cs
 | _=>.box t cs
def lY (T:List (Nat × TI)) (H:AH) (t:TypeId) (x:AV):Option PR:=
 match x with
 | .ptr id o=>match getO H id with
  | .arr _ s n xs=>match bq T t with
   | some ⟨.ar m _,sz,_⟩=>match Nat.beq o 0 && Nat.beq m n && Nat.beq sz n && Nat.beq s.size 1 with
    | true=>some ⟨.one (.agg (kM s xs 0 n)),[],[]⟩
    | false=>none
   | some ti=>match ti.k,Nat.beq s.size 1,cellsOf s (xs.getD o (aG s)) with
    | .st _,_,_=>none
    | .ar _ _,_,_=>none
    | .oth,_,_=>none
    | _,true,[a]=>pr a [o<n] a.ok
    | _,_,_=>none
   | none=>none
  | _=>none
 | _=>none
def tJ (T:List (Nat × TI)) (e:TypeId):Bool:=match bq T e with
 | some ⟨.ptr,1,[.np]⟩=>true
 | _=>false
def fl (T:List (Nat × TI)) (H:AH) (t:TypeId) (x:AV) (i:Int):Option PR:=
 match x,bq T t with
 | .ptr id 0,some ⟨.ar m e,_,_⟩=>match getO H id,Gq T e with
  | .arr _ s n _,some _=>match Nat.beq m n && Nat.beq s.size 1 with
   | true=>pr (.ptr id i.toNat) [0<=i,i<n]
   | false=>none
  | _,_=>none
 | .xx .pl cs,some ⟨.sl e none,_,_⟩=>match tJ T e,cs[i.toNat]? with
  | true,some q=>pr (.xx .pa [q]) [0<=i,i<cs.length]
  | _,_=>none
 | _,_=>none
def lP (g:Nat):List TabE->Option TabE
 | []=>none
 | e :: r=>bif Nat.beq g e.g then some e else lP g r
def mw (T:List (Nat × TI)) (t:TypeId) (x:Operand) (i:Int):Option PR:=
 match x with
 | .global g=>match lP g DJ,bq T t with
  | some e,some ⟨.ar m el,_,_⟩=>match Gq T el with
   | some s=>match decide (s=e.s) && Nat.beq m e.xs.length with
    | true=>pr (.fe e.s (e.xs.getD i.toNat (aG e.s)) 0) [0<=i,i<m] (yZ (cellsOf e.s (e.xs.getD i.toNat (aG e.s))))
    | false=>none
   | none=>none
  | _,_=>none
 | _=>none
def gM (T:List (Nat × TI)) (t:TypeId) (cs:List AV) (i:Int):Option PR:=
 match bq T t with
 | some ⟨.ar m e,_,_⟩=>match Gq T e with
  | some s=>match nL s cs with
   | some xs=>match Nat.beq xs.length m,cellsOf s (xs.getD i.toNat (aG s)) with
    | true,[a]=>pr a [0<=i,i<m] a.ok
    | _,_=>none
   | none=>none
  | none=>none
 | _=>none
structure SpecR where
 pre:List Prop:=[]
 rs:List TV1
 out:Option AH:=none        -- none: what is there stays asx it is
 keep:Bool:=false           -- what was there stays asx it is,and where it is
abbrev cO:=Nat->List TV1->AH->Option SpecR
def It (O:cO):Bool:=(O 1000000000 [] []).isSome
def fy (a b:Int):Int:=IntKind.i64.wrap (a - b)
def HV (O:cO):Bool:=(O 1000000001 [] []).isSome
def Hz (a b:Int):Int:=IntKind.i64.wrap (a+b)
def HQ (O:cO) (op:BinOp) (a b:AV):Option PR:=match It O,HV O,op,a,b with
 | true,_,.sub,.int x,.int y=>pr (.int (fy x y))
 | _,true,.add,.int x,.int y=>pr (.int (Hz x y))
 | _,_,op,a,b=>Jt op a b
def AV.ids:AV->List Nat
 | .own i=>[i]
 | .sub i _ _=>[i]
 | .elp i _ _=>[i]
 | .ptr i _=>[i]
 | .fn _ b c=>b.map (·.1)++c.map (·.1)
 | .mq i=>[i]
 | .xx _ cs=>cs.map (·.1)
 | _=>[]
def qN:List AV->List Nat
 | []=>[]
 | a :: r=>a.ids++qN r
def lL:List TV1->List Nat
 | []=>[]
 | a :: r=>qN a.cells++lL r
def Cf:List (Int × AV)->List Nat
 | []=>[]
 | (_,a) :: r=>a.ids++Cf r
def AO.ids:AO->List Nat
 | .box _ cs=>qN cs
 | .mapf l=>Cf l
 | _=>[]
def bM (i:Nat):List Nat->Bool
 | []=>false
 | j :: r=>bif Nat.beq i j then true else bM i r
def reach (H:AH):Nat->List Nat->List Nat->List Nat
 | 0,_,seen=>seen
 | _+1,[],seen=>seen
 | n+1,i :: r,seen=>bif bM i seen then reach H n r seen else reach H n ((getO H i).ids++r) (seen++[i])
def posOf (i:Nat):List Nat->Nat
 | []=>0
 | j :: r=>bif Nat.beq i j then 0 else posOf i r+1
def BP (f:Nat->Nat):List (Nat × Nat)->List (Nat × Nat)
 | []=>[]
 | (i,o) :: r=>(f i,o) :: BP f r
def AV.ir (f:Nat->Nat):AV->AV
 | .own i=>.own (f i)
 | .sub i o l=>.sub (f i) o l
 | .elp i k o=>.elp (f i) k o
 | .ptr i o=>.ptr (f i) o
 | .fn g b c=>.fn g (BP f b) (BP f c)
 | .mq i=>.mq (f i)
 | .xx k cs=>.xx k (BP f cs)
 | a=>a
def BX (f:Nat->Nat):List AV->List AV
 | []=>[]
 | a :: r=>a.ir f :: BX f r
def TV1.ir (f:Nat->Nat):TV1->TV1
 | .c a=>.c (a.ir f)
 | .agg l=>.agg (BX f l)
def fi (f:Nat->Nat):List TV1->List TV1
 | []=>[]
 | a :: r=>a.ir f :: fi f r
def FL (f:Nat->Nat):List (Int × AV)->List (Int × AV)
 | []=>[]
 | (k,a) :: r=>(k,a.ir f) :: FL f r
def AO.ir (f:Nat->Nat):AO->AO
 | .box t cs=>.box t (BX f cs)
 | .mapf l=>.mapf (FL f l)
 | o=>o
def lN (f:Nat->Nat):List AO->List AO
 | []=>[]
 | a :: r=>a.ir f :: lN f r
def vI (H:AH):List AV->List AV
 | []=>[]
 | a :: r=>a.vw H :: vI H r
def TV1.vw (H:AH):TV1->TV1
 | .c a=>.c (a.vw H)
 | .agg l=>.agg (vI H l)
def yA (H:AH):List TV1->List TV1
 | []=>[]
 | a :: r=>a.vw H :: yA H r
def nH (H:AH) (l:List TV1):List Nat:=reach H 64 (lL l) []
def iB (H:AH):List Nat->List AO
 | []=>[]
 | i :: r=>getO H i :: iB H r
def yf:List TV1->TV
 | [a]=>.one a
 | l=>.tup l
def lE (σ:List Nat):List Nat->Bool
 | []=>true
 | i :: r=>bM i σ && lE σ r
def gr:List Nat->Bool
 | []=>true
 | i :: r=>!bM i r && gr r
def eT (H:AH) (σ:List Nat):List Nat->Bool
 | []=>true
 | i :: r=>Nat.blt i H.length && lE σ (getO H i).ids && eT H σ r
def Sh.fC:Sh->List Sh
 | .lst s=>[s]
 | .lx=>[.int]
 | .nm t=>t.fC
 | _=>[]
def fB (f:Sh->Bool):List Sh->Bool
 | []=>true
 | s :: r=>f s && fB f r
def Sh.no:Nat->Sh->Sh->Bool
 | 0,_,_=>false
 | n+1,b,s=>!decide (s=b) && fB (Sh.no n b) s.fC
def AV.no (b:Sh):AV->Bool
 | .fz s _=>Sh.no 5 b s
 | .li _ _=>Sh.no 5 b .int
 | .fe _ _ _=>false
 | .xx k _=>match k with
  | .er _=>true
  | .bp=>true
  | .ff _ _=>true
  | _=>false
 | _=>true
def He (b:Sh):List AV->Bool
 | []=>true
 | a :: r=>a.no b && He b r
def JD (b:Sh):List TV1->Bool
 | []=>true
 | a :: r=>He b a.cells && JD b r
def dk:List AV->List Nat
 | []=>[]
 | .own i :: r=>i :: dk r
 | .sub i _ _ :: r=>i :: dk r
 | _ :: r=>dk r
def dN:List TV1->List Nat
 | []=>[]
 | a :: r=>dk a.cells++dN r
def dA (H:AH):List Nat->List Sh
 | []=>[]
 | i :: r=>match getO H i with
  | .row _ s _=>s :: dA H r
  | _=>dA H r
def kv (σ:List Nat):List Nat->Bool
 | []=>true
 | i :: r=>!bM i σ && kv σ r
def kI (H:AH):List Nat->Bool
 | []=>true
 | i :: r=>(match getO H i with
  | .row _ _ _=>true
  | _=>false) && kI H r
def xi (O:cO) (H:AH) (f:Nat) (args:List TV1):Option PR:=
 match nH H (yA H args) with
 | σ=>match gr σ && lE σ (lL (yA H args)) && eT H σ σ && kv σ (dN args) && kI H (dN args) with
  | true=>match O f (fi (posOf · σ) (yA H args)) (lN (posOf · σ) (iB H σ)) with
   | some ⟨pre,rs,none,_⟩=>match fB (fun b=>JD b rs) (dA H (dN args)) with
    | true=>some ⟨yf (fi (fun j=>σ.getD j 0) rs),pre,xY rs⟩
    | false=>none
   | _=>none
  | false=>none
variable (T:List (Nat × TI)) (O:cO)
def eK (fr:AFr) (c:Call):Option (Nat × List TV1):=
 match c.callee with
 | .value f=>match cW fr f,Co fr c.args.toList with
  | some (.one (.c (.fn g [] cs))),some l=>some (g,l++cs.map (fun q=>.c (.ptr q.1 q.2)))
  | _,_=>none
 | _=>none
def Sh.ky:Sh->Bool
 | .nm _=>true
 | _=>false
def CT (s:Sh) (x:den s):TV1:=bif s.ky then .agg (cellsOf s x) else match cellsOf s x with
 | [a]=>.c a
 | l=>.agg l
def Hq (O:cO):Bool:=(O 1000000002 [] []).isSome
def MW (n:Int):UInt8:=UInt8.ofNat (n % 256).toNat
def zj (O:cO) (H:AH) (s t:TK) (x:AV):Option PR:=match Hq O,s,t,x with
 | true,.i .i64,.i .u8,.int n=>pr (.u8 (MW n))
 | _,s,t,x=>Bq H s t x
def Mw (T:List (Nat × TI)) (op:BinOp) (t:TypeId) (x:Option TV):Operand->Option PR
 | .const .nilIface=>match bq T t,x with
  | some ⟨.ifc,_,_⟩,some (.one (.c (.xx (.er b) [])))=>match op with
   | .eql=>pr (.bool (.atom b))
   | .neq=>pr (.bool (.not (.atom b)))
   | _=>none
  | _,_=>none
 | _=>none
def mK:Nat->List (Nat × TV1)->Option (List (Nat × Nat))
 | _,[]=>some []
 | k,(i,.c (.ptr id o)) :: r=>match Nat.beq i k,mK (k+1) r with
  | true,some l=>some ((id,o) :: l)
  | _,_=>none
 | _,_=>none
def BQ (T:List (Nat × TI)) (t:TypeId) (x y:Option TV) (ok:Bool):Option PR:=
 match bq T t,x,y with
 | some ⟨.ms _ _,_,_⟩,some (.one (.c (.xx (.fm f) []))),some (.one (.c (.str s)))=>match ok with
  | false=>pr (.int ((f s).getD 0))
  | true=>none
 | _,_,_=>none
def pv (H:AH) (fr:AFr):Op->Option PR
 | .move x=>match cW fr x with
  | some v=>some ⟨v,[],[]⟩
  | none=>none
 | .assign x=>match cW fr x with
  | some v=>some ⟨v,[],[]⟩
  | none=>none
 | .unOp .not _ x=>match cW fr x with
  | some (.one (.c (.bool e)))=>pr (.bool e.neg)
  | _=>none
 | .binOp op t x y _=>match cW fr x,cW fr y with
  | some (.one (.c a)),some (.one (.c b))=>match Ct T t a with
   | true=>HQ O op a b
   | false=>Mw T op t (some (.one (.c a))) y
  | some (.one (.agg a)),some (.one (.agg b))=>Nm T op t a b
  | _,_=>none
 | .extract x i=>match cW fr x with
  | some (.tup l)=>match l[i]? with
   | some a=>some ⟨.one a,[],[]⟩
   | none=>none
  | _=>none
 | .nilCheck x=>match cW fr x with
  | some (.one (.c a))=>match a with
   | .ptr _ _=>pr a
   | .elp _ _ _=>pr a
   | .fe _ _ _=>pr a
   | .fn _ _ _=>pr a
   | _=>none
  | _=>none
 | .convert s t x=>match bq T s,bq T t,cW fr x with
  | some a,some b,some (.one (.c v))=>zj O H a.k b.k v
  | _,_,_=>none
 | .makeFunc (.func f) b c=>match b.toList,Co fr c.toList with
  | [],some cs=>match iS cs with
   | some cp=>pr (.fn f [] cp)
   | none=>none
  | _,_=>none
 | .fieldAddr t x i=>match bq T t,cW fr x with
  | some ⟨.st fs,_,_⟩,some (.one (.c a))=>match fs[i]? with
   | some (o,_)=>a.kx o
   | none=>none
  | _,_=>none
 | .load t x=>match cW fr x with
  | some (.one (.c a))=>match lY T H t a with
   | some r=>some r
   | none=>wB T H t a
  | _=>none
 | .indexAddr t x y=>match cW fr x,cW fr y,JA T t with
  | some (.one (.c a)),some (.one (.c b)),some s=>match b.ix with
   | some i=>ni H s a i
   | none=>none
  | some (.one (.c a)),some (.one (.c b)),none=>match b.ix with
   | some i=>fl T H t a i
   | none=>none
  | none,some (.one (.c b)),none=>match b.ix with
   | some i=>mw T t x i
   | none=>none
  | _,_,_=>none
 | .index t x y=>match cW fr x,cW fr y with
  | some (.one (.c (.str s))),some (.one (.c b))=>match b.ix with
   | some i=>match bq T t with
    | some ⟨.str,_,_⟩=>pr (.u8 (s.b.getD i.toNat 0)) [0<=i,i<s.b.length]
    | _=>none
   | none=>none
  | some (.one (.agg cs)),some (.one (.c b))=>match b.ix with
   | some i=>gM T t cs i
   | none=>none
  | _,_=>none
 | .lookup t x y ok=>match bq T t,cW fr x,cW fr y with
  | some ⟨.mp _ _ (some s),_,_⟩,some (.one (.c (.mq id))),some (.one (.c (.int k)))=>match getO H id with
   | .mapo s' f=>if h:s' = s then (match ok with
    | false=>some ⟨.one (CT s ((h ▸ f k:Option (den s)).getD (aG s))),[],[]⟩
    | true=>some ⟨.tup [CT s ((h ▸ f k:Option (den s)).getD (aG s)),.c (.bool (.atom (f k).isSome))],[],[]⟩) else none
   | _=>none
  | _,x,y=>BQ T t x y ok
 | .buildSlice t n parts=>match bq T t,sJ fr parts.toList with
  | some ⟨.sl e none,_,_⟩,some l=>match mK 0 l with
   | some cs=>match Nat.beq cs.length n && tJ T e && Nat.ble n 16777216 with
    | true=>pr (.xx .pl cs)
    | false=>none
   | none=>none
  | _,_=>none
 | .build t parts=>match bq T t,sJ fr parts.toList with
  | some ⟨.st fs,_,z⟩,some l=>match iV fs z l with
   | some cs=>some ⟨.one (.agg cs),[],[]⟩
   | none=>none
  | some ⟨.ar m e,_,z⟩,some l=>match Gq T e,iV (iM 0 m) z l with
   | some _,some cs=>some ⟨.one (.agg cs),[],[]⟩
   | _,_=>none
  | _,_=>none
 | .slice t x l h none=>match cW fr x with
  | some (.one (.c a))=>match l,h with
   | none,none=>none
   | some l,none=>match cW fr l with
    | some (.one (.c (.int l)))=>gl T t a (some l) none
    | _=>none
   | none,some h=>match cW fr h with
    | some (.one (.c (.int h)))=>gl T t a none (some h)
    | _=>none
   | some l,some h=>match cW fr l,cW fr h with
    | some (.one (.c (.int l))),some (.one (.c (.int h)))=>gl T t a (some l) (some h)
    | _,_=>none
  | _=>none
 | .call c=>match c.callee with
  | .builtin .len=>match c.args.toList,c.argTypes.toList with
   | [x],[t]=>match cW fr x with
    | some (.one (.c a))=>match Hi T H t a with
     | some n=>pr (.int n)
     | none=>none
    | _=>none
   | _,_=>none
  | .builtin .min=>match c.args.toList with
   | [x,y]=>match cW fr x,cW fr y with
    | some (.one (.c (.int a))),some (.one (.c (.int b)))=>pr (.int (min a b))
    | some (.one (.c (.u64 a))),some (.one (.c (.u64 b)))=>pr (.u64 (min a b))
    | _,_=>none
   | _=>none
  | .builtin .max=>match c.args.toList with
   | [x,y]=>match cW fr x,cW fr y with
    | some (.one (.c (.int a))),some (.one (.c (.int b)))=>pr (.int (max a b))
    | _,_=>none
   | _=>none
  | .value _=>match eK fr c with
   | some (f,l)=>xi O H f l
   | none=>none
  | _=>none
 | _=>none
end Go.Proofs.Ytjmbgkmkinmlkaa
namespace Go.Proofs.Ytjmbgkmkinmlkaa
open Go.RowKit
structure Lv where
 wr:Nat->Bool
 mv:Nat->Bool
def dS (k:Nat):Lv:=⟨Nat.ble k,Nat.ble k⟩
def AV.kill (i:Nat):AV->AV
 | .own j=>bif Nat.beq i j then .dead else .own j
 | .sub j o l=>bif Nat.beq i j then .dead else .sub j o l
 | .elp j k o=>bif Nat.beq i j then .dead else .elp j k o
 | a=>a
def AV.yO (H:AH) (i:Nat):AV->AV
 | .own j=>bif Nat.beq i j then (AV.own j).vw H else .own j
 | .sub j o k=>bif Nat.beq i j then (AV.sub j o k).vw H else .sub j o k
 | .elp j k o=>bif Nat.beq i j then .dead else .elp j k o
 | a=>a
def nN (g:AV->AV):List AV->List AV
 | []=>[]
 | a :: r=>g a :: nN g r
def TV1.mapA (g:AV->AV):TV1->TV1
 | .c a=>.c (g a)
 | .agg l=>.agg (nN g l)
def qC (g:AV->AV):List TV1->List TV1
 | []=>[]
 | a :: r=>a.mapA g :: qC g r
def TV.mapA (g:AV->AV):TV->TV
 | .one t=>.one (t.mapA g)
 | .tup l=>.tup (qC g l)
 | .un=>.un
def gf (g:AV->AV):AFr->AFr
 | []=>[]
 | (i,v) :: r=>(i,v.mapA g) :: gf g r
def mapM (g:AV->AV):List (Int × AV)->List (Int × AV)
 | []=>[]
 | (k,a) :: r=>(k,g a) :: mapM g r
def AO.mapA (g:AV->AV):AO->AO
 | .box t cs=>.box t (nN g cs)
 | .mapf l=>.mapf (mapM g l)
 | o=>o
def eR (g:AV->AV):AH->AH
 | []=>[]
 | o :: r=>o.mapA g :: eR g r
structure SR where
 v:TV
 fr:AFr
 H:AH
 ob:List Prop:=[]
 fc:List Prop:=[]
def jA (s:Sh):TV1->Bool
 | .agg _=>s.ky
 | .c _=>!s.ky
def fg (ro:Lv):List Nat->AFr->AH->Option (AFr × AH)
 | [],fr,H=>some (fr,H)
 | i :: l,fr,H=>match getO H i with
  | .row _ _ _=>match ro.mv i && ro.wr i with
   | true=>fg ro l (gf (AV.yO H i) fr) ((eR (AV.yO H i) H).set i .gone)
   | false=>none
  | _=>fg ro l fr H
def hL (ro:Lv) (fr:AFr) (H:AH) (e:TypeId) (s:Sh) (ys:List (den s)) (x:AV):Option SR:=
 match x with
 | .em _=>some ⟨one (.own H.length),fr,H++[.row e s ys],[ys.length*s.bytes<=140737488355328],[]⟩
 | .own id=>match getO H id with
  | .row e' s' xs=>if h:s' = s then (match ro.mv id && ro.wr id && Nat.beq e' e with
   | true=>some ⟨one (.own id),gf (AV.kill id) fr,(eR (AV.kill id) H).set id (.row e s ((h ▸ xs:List (den s))++ys)),[(xs.length+ys.length)*s.bytes<=140737488355328],[]⟩
   | false=>none) else none
  | _=>none
 | .sub id 0 len=>match getO H id with
  | .row e' s' xs=>if h:s' = s then (match ro.mv id && ro.wr id && Nat.beq e' e with
   | true=>some ⟨one (.own id),gf (AV.kill id) fr,(eR (AV.kill id) H).set id (.row e s ((h ▸ xs:List (den s)).take len++ys)),[(len+ys.length)*s.bytes<=140737488355328],[]⟩
   | false=>none) else none
  | _=>none
 | _=>none
def fP (T:List (Nat × TI)) (ro:Lv) (fr:AFr) (H:AH) (t:TypeId) (x y:AV):Option SR:=
 match bq T t with
 | some ⟨.sl e (some s),_,_⟩=>match (y.vw H).fD s with
  | some ys=>hL ro fr H e s ys x
  | none=>none
 | _=>none
def pR (T:List (Nat × TI)) (ro:Lv) (fr:AFr) (H:AH) (t t':TypeId) (x y:AV):Option SR:=
 match bq T t,bq T t',y with
 | some ⟨.sl e (some .u8),_,_⟩,some ⟨.str,_,_⟩,.str s=>hL ro fr H e .u8 s.b x
 | _,_,_=>none
def uN (ro:Lv) (fr:AFr) (H:AH) (x:AV) (v:TV1):Option SR:=
 match x with
 | .ptr id o=>match getO H id with
  | .box t cs=>match ro.wr id && Nat.ble (o+v.cells.length) cs.length with
   | true=>some ⟨.un,fr,H.set id (.box t (over cs o v.cells)),[],[]⟩
   | false=>none
  | .arr t s n xs=>match ro.wr id && Nat.beq s.size 1,v.cells with
   | true,[a]=>match a.plain,dZ s [a] with
    | true,some x'=>some ⟨.un,fr,H.set id (.arr t s n (xs.set o x')),[o<n],[]⟩
    | _,_=>none
   | true,_=>match Nat.beq o 0,nL s v.cells with
    | true,some l=>match Nat.beq l.length n with
     | true=>some ⟨.un,fr,H.set id (.arr t s n l),[],[]⟩
     | false=>none
    | _,_=>none
   | _,_=>none
  | _=>none
 | .elp id i o=>match getO H id with
  | .row t s xs=>match ro.wr id && Nat.ble (o+v.cells.length) s.size && !bM id (dk v.cells),dZ s (over (cellsOf s (xs.getD i (aG s))) o (vI H v.cells)),fg ro (dk v.cells) fr H with
   | true,some x',some q=>some ⟨.un,q.1,q.2.set id (.row t s (xs.set i x')),[],[]⟩
   | _,_,_=>none
  | _=>none
 | _=>none
def mP (s:Sh) (H:AH):List (Nat × TV1)->Nat->Option (List (den s))
 | [],_=>some []
 | (i,v) :: r,k=>match Nat.beq i k,dZ s (vI H v.cells),mP s H r (k+1) with
  | true,some x,some l=>some (x :: l)
  | _,_,_=>none
def uA:List (Nat × TV1)->List Nat
 | []=>[]
 | (_,v) :: r=>dk v.cells++uA r
def iL (f:Nat->AO):List Nat->AH->AH
 | [],H=>H
 | i :: r,H=>iL f r (H.set i (f i))
def AV.bN (l:List Nat):AV->AV
 | .own j=>bif bM j l then .dead else .own j
 | .sub j o k=>bif bM j l then .dead else .sub j o k
 | .elp j k o=>bif bM j l then .dead else .elp j k o
 | a=>a
def rowsOf (H:AH):List Nat->List Nat
 | []=>[]
 | i :: r=>match getO H i with
  | .row _ _ _=>i :: rowsOf H r
  | .loc=>i :: rowsOf H r
  | _=>rowsOf H r
def th (ro:Lv):List Nat->Bool
 | []=>true
 | i :: r=>ro.wr i && ro.mv i && th ro r
def KP (b:Sh):List (Int × AV)->Bool
 | []=>true
 | (_,a) :: r=>a.no b && KP b r
def nu (b:Sh):List AO->Bool
 | []=>true
 | .box _ cs :: r=>He b cs && nu b r
 | .row _ s _ :: r=>fB (Sh.no 5 b) s.fC && nu b r
 | .gone :: r=>nu b r
 | .mapo s _ :: r=>fB (Sh.no 5 b) s.fC && nu b r
 | .arr _ s _ _ :: r=>fB (Sh.no 5 b) s.fC && nu b r
 | .mapf l :: r=>KP b l && nu b r
 | .loc :: r=>nu b r
def dU (H:AH) (σ:List Nat) (j:Nat):Nat:=bif Nat.ble σ.length j then H.length+(j - σ.length) else σ.getD j 0
def vY (O:cO) (ro:Lv) (fr:AFr) (H:AH) (f:Nat) (a:List TV1) (lent:List Nat):Option SR:=
 match nH H a with
 | σ=>match gr σ && lE σ (lL a) && eT H σ σ && kv σ lent && th ro σ with
  | true=>match O f (fi (posOf · σ) a) (lN (posOf · σ) (iB H σ)) with
   | some ⟨pre,rs,some H',_⟩=>match Nat.ble σ.length H'.length && fB (fun b=>JD b rs && nu b H') (dA H lent) with
    | true=>some ⟨yf (fi (dU H σ) rs),gf (AV.bN (rowsOf H σ)) fr,iL (fun i=>(H'.getD (posOf i σ) .gone).ir (dU H σ)) σ (eR (AV.bN (rowsOf H σ)) H)++lN (dU H σ) (H'.drop σ.length),pre,xY rs⟩
    | false=>none
   | _=>none
  | false=>none
def AW (O:cO) (fr:AFr) (H:AH) (f:Nat) (a:List TV1):Option SR:=
 match nH H a with
 | σ=>match gr σ && lE σ (lL a) && eT H σ σ with
  | true=>match O f (fi (posOf · σ) a) (lN (posOf · σ) (iB H σ)) with
   | some ⟨pre,rs,some H',true⟩=>match Nat.ble σ.length H'.length with
    | true=>some ⟨yf (fi (dU H σ) rs),fr,H++lN (dU H σ) (H'.drop σ.length),pre,xY rs⟩
    | false=>none
   | _=>none
  | false=>none
def zS (O:cO) (ro:Lv) (fr:AFr) (H:AH) (f:Nat) (args:List TV1):Option SR:=
 match AW O fr H f args with
 | some r=>some r
 | none=>match kI H (dN args),vY O ro fr H f (yA H args) (dN args) with
 | true,some r=>some r
 | _,_=>vY O ro fr H f args []
def Aw (T:List (Nat × TI)) (ro:Lv) (fr:AFr) (H:AH) (t:TypeId) (x y z:Operand):Option SR:=
 match bq T t,cW fr x,cW fr y,cW fr z with
 | some ⟨.mp _ _ (some s),_,_⟩,some (.one (.c (.mq id))),some (.one (.c (.int k))),some (.one v)=>match getO H id with
  | .mapo s' f=>if h:s' = s then (match ro.wr id && jA s v && !bM id (dk v.cells),dZ s (vI H v.cells),fg ro (dk v.cells) fr H with
   | true,some x',some q=>some ⟨.un,q.1,q.2.set id (.mapo s fun j=>if j=k then some x' else (h ▸ f:Int->Option (den s)) j),[],[]⟩
   | _,_,_=>none) else none
  | _=>none
 | _,_,_,_=>none
def Bm (T:List (Nat × TI)) (ro:Lv) (fr:AFr) (H:AH) (t:TypeId) (x y z:Operand):Option SR:=
 match bq T t,cW fr x,cW fr y,cW fr z with
 | some ⟨.mp _ _ none,_,_⟩,some (.one (.c (.mq id))),some (.one (.c (.int k))),some (.one (.c a))=>match getO H id with
  | .mapf l=>match ro.wr id with
   | true=>some ⟨.un,fr,H.set id (.mapf ((k,a) :: l)),[],[]⟩
   | false=>none
  | _=>none
 | _,_,_,_=>none
def vQ (T:List (Nat × TI)) (ro:Lv) (fr:AFr) (H:AH) (t:TypeId) (x y z:Operand):Option SR:=match Aw T ro fr H t x y z with
 | some r=>some r
 | none=>Bm T ro fr H t x y z
def zJ (O:cO) (ro:Lv) (fr:AFr) (H:AH) (c:Call) (l:List TV1):Option SR:=match fg ro (dN l) fr H with
 | some q=>match eK q.1 c with
  | some (f,l')=>match xi O q.2 f l' with
   | some r=>some ⟨r.v,q.1,q.2,r.ob,r.fc⟩
   | none=>none
  | none=>none
 | none=>none
variable (T:List (Nat × TI)) (O:cO) (ro:Lv)
def sv (fr:AFr) (H:AH):Op->Option SR
  | .box t x=>match cW fr x with
    | some (.one v)=>some ⟨one (.ptr H.length 0),fr,H++[Dd T t v.cells],[],[]⟩
    | _=>none
  | .alloc t=>match bq T t with
    | some ti=>some ⟨one (.ptr H.length 0),fr,H++[Dd T t ti.zero],[],[]⟩
    | none=>none
  | .store t x v=>match cW fr x,cW fr v,bq T t with
    | some (.one (.c a)),some (.one b),some ti=>match Nat.beq ti.size b.cells.length with
      | true=>uN ro fr H a b
      | false=>none
    | _,_,_=>none
  | .buildSlice t n parts=>match bq T t,sJ fr parts.toList with
    | some ⟨.sl e (some s),_,_⟩,some l=>match mP s H l 0,fg ro (uA l) fr H with
      | some xs,some q=>match Nat.beq xs.length n && Nat.ble (n*s.size) 16777216 && Nat.ble (n*s.bytes) 140737488355328 with
        | true=>match n with
          | 0=>some ⟨one (.em false),fr,H,[],[]⟩
          | _=>some ⟨one (.own q.2.length),q.1,q.2++[.row e s xs],[],[]⟩
        | false=>none
      | _,_=>none
    | _,_=>none
  | .makeMap t none=>match bq T t with
    | some ⟨.mp _ _ (some s),_,_⟩=>some ⟨one (.mq H.length),fr,H++[.mapo s fun _=>none],[],[]⟩
    | some ⟨.mp _ _ none,_,_⟩=>some ⟨one (.mq H.length),fr,H++[.mapf []],[],[]⟩
    | _=>none
  | .insert t x y z=>vQ T ro fr H t x y z
  | .mapUpdate t x y z=>vQ T ro fr H t x y z
  | .makeSlice t n m=>match bq T t,cW fr n,cW fr m with
    | some ⟨.sl e (some s),_,_⟩,some (.one (.c (.int k))),some (.one (.c (.int k')))=>match Nat.beq s.size 1 with
     | true=>some ⟨one (.own H.length),fr,H++[.row e s (List.replicate k.toNat (aG s))],[0<=k,k*s.bytes<=140737488355328,k' = k],[]⟩
     | false=>none
    | _,_,_=>none
  | .slice t x lo hi mx=>match cW fr x with
    | some (.one (.c (.own i)))=>match fg ro [i] fr H with
      | some q=>match pv T O q.2 q.1 (.slice t x lo hi mx) with
        | some r=>some ⟨r.v,q.1,q.2,r.ob,r.fc⟩
        | none=>none
      | none=>none
    | _=>none
  | .call c=>match c.callee with
    | .builtin .append=>match c.args.toList,c.argTypes.toList with
      | [x,y],[t,t']=>match Nat.beq t t',cW fr x,cW fr y with
        | true,some (.one (.c a)),some (.one (.c b))=>fP T ro fr H t a b
        | false,some (.one (.c a)),some (.one (.c b))=>pR T ro fr H t t' a b
        | _,_,_=>none
      | _,_=>none
    | .value _=>match eK fr c with
      | some (f,l)=>match zS O ro fr H f l with
        | some r=>some r
        | none=>zJ O ro fr H c l
      | none=>none
    | _=>none
  | _=>none
def gO:List Prop->Prop
 | []=>True
 | [p]=>p
 | p :: q :: l=>p/\gO (q :: l)
def same (b:Bool):List Prop:=bif b then [] else [False]
def oa:List Prop->Prop->Prop
 | [],R=>R
 | p :: l,R=>p/\oa l R
def iz:List Prop->Prop->Prop
 | [],R=>R
 | p :: l,R=>p->iz l R
def lO (d:Option Nat) (v:TV) (fr:AFr):AFr:=match d with
 | some d=>(d,v) :: fr
 | none=>fr
def geq:Option (Nat × Bool)->Nat->Bool->Bool
 | some (j,b),i,c=>Nat.beq j i && (b == c)
 | none,_,_=>false
def kz (t:Nat):Oper->Bool
 | ⟨_,.pick (.tmp u) _ _,_,_,_,_⟩=>Nat.beq t u
 | _=>false
def nV (t:Nat):List Oper->Option (List Oper × Oper × List Oper)
 | []=>none
 | o :: r=>bif kz t o then some ([],o,r) else match nV t r with
  | some (a,b,c)=>some (o :: a,b,c)
  | none=>none
def lK:Option TV->Option BE
 | some (.one (.c (.bool e)))=>some e
 | _=>none
def vK (e:BE) (w:Bool) (on off:Option TV):Option BE:=
 match w,lK on,lK off with
 | true,some x,some (.lit false)=>some (.and e x)
 | false,some x,some (.lit true)=>some (.or e x)
 | _,_,_=>none
structure GR where
 fr:AFr
 ob:List Prop
 fc:List Prop
def e_ (fr:AFr):Option Nat->Bool
 | none=>true
 | some d=>match lookA fr d with
  | none=>true
  | some _=>false
def uO (l:List Oper) (fr:AFr) (j:Nat) (w:Bool):List Nat->List Oper->Bool
 | _,[]=>true
 | us,o :: r=>e_ fr o.dst && (match o.guard with
  | some (j',w')=>(Nat.beq j' j && (w' == w)) || (match idst l j' with
   | some t=>bM t us
   | none=>false)
  | none=>false) && uO l fr j w (match o.dst with
   | some d=>d :: us
   | none=>us) r
def BH (a b:Option (Nat × Bool)):Bool:=match a,b with
 | none,none=>true
 | some (i,x),some (j,y)=>Nat.beq i j && (x == y)
 | _,_=>false
def ke (e:BE) (w:Bool):List Prop->List Prop
 | []=>[]
 | ob=>[e.p w->gO ob]
structure GrpR where
 d:Nat
 v:BE
 ob:List Prop
 fc:List Prop
 tail:List Oper
def DC (l:List Oper) (fr:AFr) (g:Option (Nat × Bool)) (run:Option (Nat × Bool)->List Oper->AFr->Option GR) (j:Nat) (w:Bool) (ops:List Oper):Option GrpR:=
 match idst l j with
 | some t=>match lK (lookA fr t),nV t ops with
  | some e,some (grp,pk,tail)=>match uO l fr j w [] grp && BH pk.guard g && e_ fr pk.dst,run (some (j,w)) grp fr with
   | true,some q=>match pk.op,pk.dst with
    | .pick _ x y,some d=>match vK e w (cW q.fr (cond w x y)) (cW fr (cond w y x)) with
     | some v=>some ⟨d,v,ke e w q.ob,ke e w q.fc,tail⟩
     | none=>none
    | _,_=>none
   | _,_=>none
  | _,_=>none
 | none=>none
def xU (l:List Oper) (H:AH):Nat->Option (Nat × Bool)->List Oper->AFr->Option GR
 | 0,_,_,_=>none
 | _+1,_,[],fr=>some ⟨fr,[],[]⟩
 | n+1,g,o :: rest,fr=>
  match BH o.guard g with
  | true=>match e_ fr o.dst,pv T O H fr o.op with
   | true,some r=>match xU l H n g rest (lO o.dst r.v fr) with
    | some q=>some ⟨q.fr,r.ob++q.ob,r.fc++q.fc⟩
    | none=>none
   | _,_=>none
  | false=>match o.guard with
   | some (j,w)=>match DC l fr g (xU l H n) j w (o :: rest) with
    | some r=>match xU l H n g r.tail ((r.d,one (.bool r.v)) :: fr) with
     | some q=>some ⟨q.fr,r.ob++q.ob,r.fc++q.fc⟩
     | none=>none
    | none=>none
   | none=>none
def isSt:Op->Bool
 | .store _ _ _=>true
 | .insert _ _ _ _=>true
 | .mapUpdate _ _ _ _=>true
 | _=>false
def D_ (o:Oper):Bool:=match isSt o.op,o.dst with
 | true,some _=>false
 | _,_=>true
structure IxR where
 s:Sh
 xs:List (den s)
 i:Int
def Og (fr:AFr):Op->Option IxR
 | .indexAddr t x y=>match cW fr x,cW fr y,JA T t with
  | some (.one (.c (.fz s xs))),some (.one (.c b)),some s'=>match decide (s' = s),b.ix with
   | true,some i=>some ⟨s,xs,i⟩
   | _,_=>none
  | _,_,_=>none
 | _=>none
structure NilR where
 s:Sh
 xs:List (den s)
 ne:Bool
def IW (H:AH) (fr:AFr):Op->Option NilR
 | .binOp op t x y _=>match op,bq T t,cW fr x,cW fr y with
  | .eql,some ⟨.sl _ _,_,_⟩,some (.one (.c a)),some (.one (.c (.em true)))=>match a.vw H with
   | .fz s xs=>some ⟨s,xs,false⟩
   | _=>none
  | .neq,some ⟨.sl _ _,_,_⟩,some (.one (.c a)),some (.one (.c (.em true)))=>match a.vw H with
   | .fz s xs=>some ⟨s,xs,true⟩
   | _=>none
  | _,_,_,_=>none
 | _=>none
def Iw:Bool->Bool->BE
 | true,b=>.not (.atom b)
 | false,b=>.atom b
structure MpR where
 k:Int
 ok:Bool
 l:List (Int × AV)
def mapA (H:AH) (fr:AFr):Op->Option MpR
 | .lookup t x y ok=>match bq T t,cW fr x,cW fr y with
  | some ⟨.mp _ _ none,_,_⟩,some (.one (.c (.mq id))),some (.one (.c (.int k)))=>match getO H id with
   | .mapf l=>some ⟨k,ok,l⟩
   | _=>none
  | _,_,_=>none
 | _=>none
def yv:Bool->AV->Bool->TV
 | true,a,b=>.tup [.c a,.c (.bool (.lit b))]
 | false,a,_=>one a
def qf (k:Int) (ok:Bool) (K:TV->Prop):List (Int × AV)->Prop
 | []=>K (yv ok .nf false)
 | (j,a) :: r=>(k=j->K (yv ok a true))/\(¬ k=j->qf k ok K r)
structure SpR where
 e:BE
 on:List Oper
 d:Nat
 off:Operand
 tail:List Oper
def JW (l:List Oper) (fr:AFr) (j:Nat) (w:Bool) (ops:List Oper):Option SpR:=
 match idst l j with
 | some t=>match lK (lookA fr t),nV t ops with
  | some e,some (grp,pk,tail)=>match uO l fr j w [] grp && BH pk.guard none && e_ fr pk.dst,pk.op,pk.dst with
   | true,.pick _ x y,some d=>some ⟨e,grp.map (AD j w)++⟨some d,.move (cond w x y),pk.type,pk.pos,pk.after,none⟩ :: tail,d,cond w y x,tail⟩
   | _,_,_=>none
  | _,_=>none
 | none=>none
def wpOps (l:List Oper) (K:AFr->AH->Prop):Nat->List Oper->AFr->AH->Prop
  | 0,_,_,_=>False
  | _+1,[],fr,H=>K fr H
  | n+1,o :: rest,fr,H=>
    match o.guard with
    | none=>match Og T fr o.op with
     | some ⟨s,xs,i⟩=>0<=i/\i<(xs.length:Int)/\∀ x,xs[i.toNat]? = some x->iz (yZ (cellsOf s x)) (wpOps l K n rest (lO o.dst (one (.fe s x 0)) fr) H)
     | none=>match IW T H fr o.op with
     | some ⟨_,xs,ne⟩=>∀ b:Bool,(b=true->xs=[])->wpOps l K n rest (lO o.dst (one (.bool (Iw ne b))) fr) H
     | none=>match mapA T H fr o.op with
     | some m=>qf m.k m.ok (fun v=>wpOps l K n rest (lO o.dst v fr) H) m.l
     | none=>match pv T O H fr o.op with
      | some r=>oa r.ob (iz r.fc (wpOps l K n rest (lO o.dst r.v fr) H))
      | none=>match D_ o,sv T O ro fr H o.op with
        | true,some r=>oa r.ob (iz r.fc (wpOps l K n rest (lO o.dst r.v r.fr) r.H))
        | _,_=>False
    | some (j,w)=>match DC l fr none (xU T O l H n) j w (o :: rest) with
      | some r=>oa r.ob (iz r.fc (wpOps l K n r.tail ((r.d,one (.bool r.v)) :: fr) H))
      | none=>match JW l fr j w (o :: rest) with
        | some r=>(r.e.p w->wpOps l K n r.on fr H)/\(r.e.p (!w)->match cW fr r.off with
          | some v=>wpOps l K n r.tail ((r.d,v) :: fr) H
          | none=>False)
        | none=>False
structure LI where
 σ:Type
 F:σ->AFr × AH
 J:σ->Prop
 μ:σ->Nat
 R:Option (σ->σ->Prop):=none      -- what holds of the state at its beginning,and any later one
 un:Option (Nat × List Nat):=none   -- walked round by round,so often; the slots that are kept
def LI.rel (I:LI) (a b:I.σ):Prop:=match I.R with
 | none=>True
 | some r=>r a b
def LI.bE (I:LI) (a b:I.σ) (p:Prop):Prop:=match I.R with
 | none=>p
 | some r=>r a b/\p
def LI.imp (I:LI) (a b:I.σ) (p:Prop):Prop:=match I.R with
 | none=>p
 | some r=>r a b->p
theorem LI.wQ {I:LI} {a b:I.σ} {p:Prop}:I.bE a b p↔I.rel a b/\p:=by
 unfold LI.bE LI.rel; cases I.R <;> simp
theorem LI.Fv {I:LI} {a b:I.σ} {p:Prop}:I.imp a b p↔(I.rel a b->p):=by
 unfold LI.imp LI.rel; cases I.R <;> simp
def FZ:List (Nat × LI)->Option Nat->Option LI
 | [],_=>none
 | _,none=>none
 | (j,v) :: r,some i=>bif Nat.beq j i then some v else FZ r (some i)
def gv:Code->Option Nat
 | .region i _ _=>some i
 | .seq a b=>match gv a with
  | some i=>some i
  | none=>gv b
 | .cond _ a b=>match gv a with
  | some i=>some i
  | none=>gv b
 | .block _ a=>gv a
 | .loop a=>gv a
 | .scope a=>gv a
 | _=>none
def iota:Nat->Nat->List Nat
 | _,0=>[]
 | k,n+1=>k :: iota (k+1) n
def yY:List Nat->Nat->Nat->Bool
 | [],_,_=>false
 | k :: _,0,i=>Nat.beq k i
 | _ :: r,j+1,i=>yY r j i
def yC (n:Nat):List Nat->Nat->Bool
 | [],_=>false
 | k :: _,0=>Nat.ble n k
 | _ :: r,j+1=>yC n r j
def k_ (σ:List Nat):List (Nat × Nat)->List (Nat × Nat)->Bool
 | [],[]=>true
 | (i,o) :: r,(j,o') :: l=>yY σ j i && Nat.beq o o' && k_ σ r l
 | _,_=>false
def JI (H:AH) (σ:List Nat) (j:Nat):Bool:=match σ[j]? with
 | some i=>match getO H i with
  | .box _ _=>true
  | _=>false
 | none=>false
def NW (σ:List Nat):XK->XK->List (Nat × Nat)->List (Nat × Nat)->List Prop
 | .er a,.er b,[],[]=>[a=b]
 | .bp,.bp,b,b'=>same (k_ σ b b')
 | .ff s xs,.ff s' ys,[],[]=>if h:s=s' then [(h ▸ xs:List (den s'))=ys] else [False]
 | .mx a xs,.mx b ys,[],[]=>[a=b,xs=ys]
 | .pl,.pl,b,b'=>same (k_ σ b b')
 | .pa,.pa,b,b'=>same (k_ σ b b')
 | _,_,_,_=>[False]
def Kj (H:AH) (σ:List Nat):XK->List (Nat × Nat)->List Prop
 | .bp,[q]=>same (JI H σ q.1)
 | _,_=>[False]
def Kd (σ:List Nat) (i o:Nat):XK->List (Nat × Nat)->List Prop
 | .bp,[q]=>same (yY σ q.1 i && Nat.beq o q.2)
 | _,_=>[False]
def L_ (H:AH) (n:Nat) (σ:List Nat):AV->AV->List Prop
 | .int a,.int b=>[a=b]
 | .u8 a,.u8 b=>[a=b]
 | .u64 a,.u64 b=>[a=b]
 | .bool a,.bool b=>[a.val=b.val]
 | .str a,.str b=>[a=b]
 | .li a xs,.li b ys=>[a=b,xs=ys]
 | .fz s xs,.fz s' ys=>if h:s=s' then [(h ▸ xs:List (den s'))=ys] else [False]
 | .em _,.fz _ ys=>[ys=[]]
 | .em a,.em b=>same (a == b)
 | .em _,.own j=>same (yC n σ j)
 | .own i,.own j=>same (yY σ j i)
 | .own i,.fz s ys=>match getO H i with
  | .row _ s' xs=>if h:s' = s then same (!bM i σ)++[(h ▸ xs:List (den s))=ys] else [False]
  | _=>[False]
 | .sub i o l,.sub j o' l'=>same (yY σ j i)++[o=o',l=l']
 | .ptr i o,.ptr j o'=>same (yY σ j i && Nat.beq o o')
 | .np,.np=>[]
 | .elp i k o,.elp j k' o'=>same (yY σ j i && Nat.beq o o')++[k=k']
 | .nf,.nf=>[]
 | .yl a,.yl b=>same (Nat.beq a b)
 | .mq i,.mq j=>same (yY σ j i)
 | .fn f b c,.fn g b' c'=>same (Nat.beq f g && k_ σ b b' && k_ σ c c')
 | .xx k b,.xx k' b'=>NW σ k k' b b'
 | .np,.xx k b=>Kj H σ k b
 | .ptr i o,.xx k b=>Kd σ i o k b
 | _,.dead=>[]
 | _,_=>[False]
def zH (H:AH) (n:Nat) (σ:List Nat):List AV->List AV->List Prop
 | [],[]=>[]
 | a :: r,b :: l=>L_ H n σ a b++zH H n σ r l
 | _,_=>[False]
def Fy (H:AH) (n:Nat) (σ:List Nat):TV1->TV1->List Prop
 | .c a,.c b=>L_ H n σ a b
 | .agg a,.agg b=>zH H n σ a b
 | _,_=>[False]
def rS (H:AH) (n:Nat) (σ:List Nat):List TV1->List TV1->List Prop
 | [],[]=>[]
 | a :: r,b :: l=>Fy H n σ a b++rS H n σ r l
 | _,_=>[False]
def Mi (H:AH) (n:Nat) (σ:List Nat):TV->TV->List Prop
 | .one a,.one b=>Fy H n σ a b
 | .tup a,.tup b=>rS H n σ a b
 | _,.un=>[]
 | _,_=>[False]
def El (H:AH) (n:Nat) (σ:List Nat) (fr:AFr):AFr->List Prop
 | []=>[]
 | (i,v) :: r=>match lookA fr i with
  | some u=>Mi H n σ u v++El H n σ fr r
  | none=>[False]
def pL (T:List (Nat × TI)) (t:TypeId) (s:Sh):List (Nat × TI)->Bool
 | []=>false
 | (i,_) :: r=>(match bq T i with
  | some ⟨.sl e (some s'),_,_⟩=>Nat.beq e t && decide (s' = s)
  | _=>false) || pL T t s r
def NN (H:AH) (n:Nat) (σ:List Nat):AO->AO->List Prop
 | .box t cs,.box t' cs'=>same (Nat.beq t t')++zH H n σ cs cs'
 | .row t s xs,.row t' s' ys=>same (Nat.beq t t')++(if h:s=s' then [(h ▸ xs:List (den s'))=ys] else [False])
 | .gone,.gone=>[]
 | .mapo s f,.mapo s' f'=>if h:s=s' then [(h ▸ f:Int->Option (den s'))=f'] else [False]
 | .arr t s m xs,.arr t' s' m' ys=>same (Nat.beq t t' && Nat.beq m m')++(if h:s=s' then [(h ▸ xs:List (den s'))=ys] else [False])
 | _,_=>[False]
def Oc (T:List (Nat × TI)):AO->List Prop
 | .row t s ys=>same (pL T t s T)++[ys=[]]
 | _=>[False]
def Jz (T:List (Nat × TI)) (H:AH) (n:Nat) (σ:List Nat):List Nat->AH->List Prop
 | [],[]=>[]
 | k :: r,b :: l=>(bif Nat.blt k n then NN H n σ (getO H k) b else Oc T b)++Jz T H n σ r l
 | _,_=>[False]
def vR:List (Nat × Nat)->List (Nat × Nat)->List (Nat × Nat)
 | (i,_) :: r,(j,_) :: l=>(j,i) :: vR r l
 | _,_=>[]
def GL:AV->AV->List (Nat × Nat)
 | .own i,.own j=>[(j,i)]
 | .sub i _ _,.sub j _ _=>[(j,i)]
 | .elp i _ _,.elp j _ _=>[(j,i)]
 | .ptr i _,.ptr j _=>[(j,i)]
 | .fn _ b c,.fn _ b' c'=>vR b b' ++ vR c c'
 | .xx _ b,.xx _ b'=>vR b b'
 | _,_=>[]
def zk:List AV->List AV->List (Nat × Nat)
 | a :: r,b :: l=>GL a b++zk r l
 | _,_=>[]
def xd:List TV1->List TV1->List (Nat × Nat)
 | .c a :: r,.c b :: l=>GL a b++xd r l
 | .agg a :: r,.agg b :: l=>zk a b++xd r l
 | _,_=>[]
def Lk:AO->AO->List (Nat × Nat)
 | .box _ cs,.box _ cs'=>zk cs cs'
 | _,_=>[]
def xg (n:Nat):List (Nat × Nat)->Nat->Nat
 | [],_=>n
 | (j,i) :: r,k=>bif Nat.beq j k then i else xg n r k
def CD (H:AH):List Nat->AH->List (Nat × Nat)
 | k :: r,o :: l=>Lk (getO H k) o++CD H r l
 | _,_=>[]
def kJ (n:Nat):List Nat->Bool
 | []=>true
 | k :: r=>(Nat.ble n k || !bM k r) && kJ n r
def Lj (fr:AFr):AFr->List (Nat × Nat)
 | []=>[]
 | (i,v) :: r=>(match lookA fr i,v with
  | some (.one u),.one v=>xd [u] [v]
  | _,_=>[])++Lj fr r
def IX (ps:List (Nat × Nat)):Nat->Nat->List Nat
 | _,0=>[]
 | k,m+1=>xg k ps k :: IX ps (k+1) m
def Fx (k0:Nat) (fr:AFr) (H:AH) (q:AFr × AH):Nat->List (Nat × Nat)->List Nat
 | 0,ps=>iota 0 k0++IX ps k0 (q.2.length - k0)
 | f+1,ps=>Fx k0 fr H q f (Lj fr q.1++CD H (iota 0 k0++IX ps k0 (q.2.length - k0)) q.2)
def uJ (T:List (Nat × TI)) (k0:Nat) (fr:AFr) (H:AH) (q:AFr × AH):List Prop:=
 match Fx k0 fr H q 3 [] with
 | σ=>same (Nat.ble k0 q.2.length && kJ H.length σ)++El H H.length σ fr q.1++Jz T H H.length σ σ q.2
def Operand.sl:Operand->List Nat
 | .tmp t=>[t]
 | _=>[]
def LZ:List Operand->List Nat
 | []=>[]
 | x :: r=>Operand.sl x++LZ r
def NI:List (Nat × Operand)->List Nat
 | []=>[]
 | (_,x) :: r=>Operand.sl x++NI r
def NL:Option Operand->List Nat
 | some x=>Operand.sl x
 | none=>[]
def uL:Op->List Nat
 | .move x=>Operand.sl x
 | .assign x=>Operand.sl x
 | .pick z x y=>Operand.sl z++Operand.sl x++Operand.sl y
 | .unOp _ _ x=>Operand.sl x
 | .binOp _ _ x y _=>Operand.sl x++Operand.sl y
 | .extract x _=>Operand.sl x
 | .nilCheck x=>Operand.sl x
 | .convert _ _ x=>Operand.sl x
 | .makeFunc _ b c=>LZ b.toList++LZ c.toList
 | .fieldAddr _ x _=>Operand.sl x
 | .load _ x=>Operand.sl x
 | .indexAddr _ x y=>Operand.sl x++Operand.sl y
 | .index _ x y=>Operand.sl x++Operand.sl y
 | .build _ l=>NI l.toList
 | .slice _ x l h _=>Operand.sl x++NL l++NL h
 | .lookup _ x y _=>Operand.sl x++Operand.sl y
 | .call c=>(match c.callee with
  | .value f=>Operand.sl f
  | _=>[])++LZ c.args.toList
 | _=>[]
structure DV where
 d:Nat
 v:TV
 ch:List (Nat × Bool)
 deps:List Nat
 ob:List Prop
 fc:List Prop
def qQ:List DV->Nat->Option DV
 | [],_=>none
 | a :: _,0=>some a
 | _ :: r,i+1=>qQ r i
def cT (sl:List Nat):Nat->List DV->List Nat
 | _,[]=>[]
 | k,a :: r=>bif bM a.d sl then k :: cT sl (k+1) r else cT sl (k+1) r
def AT (ds:List DV) (fr:AFr):List Nat->AFr
 | []=>fr
 | j :: r=>match qQ ds j with
  | some a=>(a.d,a.v) :: AT ds fr r
  | none=>AT ds fr r
def kX:List (Nat × Bool)->List (Nat × Bool)->Bool
 | [],_=>true
 | (i,a) :: r,(j,b) :: l=>Nat.beq i j && (a == b) && kX r l
 | _,_=>false
def qm (ds:List DV) (ch:List (Nat × Bool)):List Nat->Bool
 | []=>true
 | j :: r=>(match qQ ds j with
  | some a=>kX a.ch ch
  | none=>false) && qm ds ch r
def Ds (ds:List DV):List (Nat × Bool)->Option BE
 | []=>some (.lit true)
 | (j,w) :: r=>match qQ ds j,Ds ds r with
  | some a,some g=>match lK (some a.v) with
   | some e=>some (.and (match w with
    | true=>e
    | false=>.not e) g)
   | none=>none
  | _,_=>none
def iy (e:BE):List Prop->List Prop
 | []=>[]
 | ob=>match e with
  | .lit true=>ob
  | e=>[e.p true->gO ob]
def ry:BE->BE
 | .and a (.lit true)=>a
 | .and a g=>.and a (ry g)
 | g=>g
def uD (ds:List DV):Option (Nat × Bool)->Option (List (Nat × Bool) × List Nat)
 | none=>some ([],[])
 | some (j,w)=>match qQ ds j with
  | some a=>some (a.ch++[(j,w)],[a.d])
  | none=>none
def gb:Operand->Bool
 | .tmp _=>true
 | _=>false
def zy (ds:List DV) (ch:List (Nat × Bool)) (t:Nat) (x y:Operand):Option BE:=
 match cT [t] 0 ds with
 | [jc]=>match qQ ds jc with
  | some c=>match lK (some c.v),kX c.ch ch with
   | some e,true=>match cT (Operand.sl (cond (gb x) x y)) 0 ds with
    | [jx]=>match qQ ds jx with
     | some a=>match kX a.ch (ch++[(jc,gb x)]) with
      | true=>vK e (gb x) (some a.v) (cW [] (cond (gb x) y x))
      | false=>none
     | none=>none
    | _=>none
   | _,_=>none
  | none=>none
 | _=>none
def mU (H:AH) (fr:AFr) (ds:List DV) (o:Oper):Option DV:=
 match o.dst,uD ds o.guard with
 | some d,some (ch,gs)=>match Ds ds ch with
  | some g=>match o.op with
   | .pick (.tmp t) x y=>match zy ds ch t x y with
    | some v=>some ⟨d,one (.bool v),ch,cT (uL (.pick (.tmp t) x y)++gs) 0 ds,[],[]⟩
    | none=>none
   | op=>match qm ds ch (cT (uL op++gs) 0 ds),pv T O H (AT ds fr (cT (uL op++gs) 0 ds)) op with
    | true,some r=>some ⟨d,r.v,ch,cT (uL op++gs) 0 ds,iy (ry g) r.ob,iy (ry g) r.fc⟩
    | _,_=>none
  | none=>none
 | _,_=>none
def qF (H:AH) (fr:AFr):List Oper->List DV->Option (List DV)
 | [],ds=>some ds
 | o :: r,ds=>match mU T O H fr ds o with
  | some a=>qF H fr r (ds++[a])
  | none=>none
def Jv:List DV->List Prop
 | []=>[]
 | a :: r=>a.ob++Jv r
def Bx:List DV->List Prop
 | []=>[]
 | a :: r=>a.fc++Bx r
def sg:List DV->AFr->AFr
 | [],fr=>fr
 | a :: r,fr=>match a.ch with
  | []=>(a.d,a.v) :: sg r fr
  | _=>sg r fr
def Ba (H:AH) (fr:AFr):List Oper->List DV->Nat->Nat
 | [],_,k=>k
 | o :: r,ds,k=>match mU T O H fr ds o with
  | some a=>Ba H fr r (ds++[a]) (k+1)
  | none=>k
def TV.ids:TV->List Nat
 | .one t=>qN t.cells
 | .tup l=>lL l
 | .un=>[]
def AV.rids:AV->List Nat
 | .own i=>[i]
 | .sub i _ _=>[i]
 | .elp i _ _=>[i]
 | _=>[]
def nQ:List AV->List Nat
 | []=>[]
 | a :: r=>a.rids++nQ r
def wY:List TV1->List Nat
 | []=>[]
 | a :: r=>nQ a.cells++wY r
def TV.rids:TV->List Nat
 | .one t=>nQ t.cells
 | .tup l=>wY l
 | .un=>[]
def AO.rids:AO->List Nat
 | .box _ cs=>nQ cs
 | .mapf l=>nQ (l.map (·.2))
 | _=>[]
def slotIds (fr:AFr):List Nat->List Nat
 | []=>[]
 | t :: r=>(match lookA fr t with
  | some v=>v.ids
  | none=>[])++slotIds fr r
def jJ (fr:AFr):List Nat->List Nat
 | []=>[]
 | t :: r=>(match lookA fr t with
  | some v=>v.rids
  | none=>[])++jJ fr r
def objIds (H:AH):List Nat->List Nat
 | []=>[]
 | p :: r=>(getO H p).ids++objIds H r
def iv (H:AH):List Nat->List Nat
 | []=>[]
 | p :: r=>(getO H p).rids++iv H r
def cn (fr:AFr):List Nat->AFr
 | []=>[]
 | t :: r=>match lookA fr t with
  | some v=>(t,v) :: cn fr r
  | none=>cn fr r
def maskH (σ:List Nat):Nat->AH->AH
 | _,[]=>[]
 | p,o :: r=>(bif bM p σ then o else .loc) :: maskH σ (p+1) r
def disj (a:List Nat):List Nat->Bool
 | []=>true
 | i :: r=>!bM i a && disj a r
def jn (n:Nat):List Nat->Bool
 | []=>true
 | i :: r=>Nat.blt i n && jn n r
inductive Ent
 | fn (k:Int) (a:AV)
 | da (s:Sh) (k:Int) (x:den s)
def Ent.key:Ent->Int
 | .fn k _=>k
 | .da _ k _=>k
def Ent.put:Ent->AO->AO
 | .fn k a,.mapf l=>.mapf ((k,a) :: l)
 | .da s k x,.mapo s' f=>if h:s' = s then .mapo s fun j=>if j=k then some x else (h ▸ f:Int->Option (den s)) j else .mapo s' f
 | _,o=>o
def killO (mv:List Nat) (o:AO):AO:=match mv with
 | []=>o
 | _ :: _=>o.mapA (AV.bN mv)
def BT (mv:List Nat) (fr:AFr):AFr:=match mv with
 | []=>fr
 | _ :: _=>gf (AV.bN mv) fr
structure RC where
 on:Bool
 dst:Option Nat
 v:TV
 U:List Nat:=[]
 σ:List Nat:=[]
 ch:List Nat:=[]
 mv:List Nat:=[]
 base:Nat
 res:AH
 ent:Option Ent:=none
 ob:List Prop:=[]
 fc:List Prop:=[]
 fr0:AFr
 H0:AH
def RC.new (r:RC):List Nat:=iota r.base (r.res.length - r.base)
def gK (ch mv:List Nat) (e:Option Ent) (res:AH):Nat->AH->AH
 | _,[]=>[]
 | p,o :: r=>(bif bM p ch then (match e with
  | some e=>e.put o
  | none=>getO res p) else killO mv o) :: gK ch mv e res (p+1) r
def RC.app (r:RC) (q:AFr × AH):AFr × AH:=(lO r.dst r.v (BT r.mv q.1),gK r.ch r.mv r.ent r.res 0 q.2++r.res.drop r.base)
def yN (mv:List Nat):Nat->AH->List Nat
 | _,[]=>[]
 | p,o :: r=>bif disj mv o.rids then yN mv (p+1) r else p :: yN mv (p+1) r
def Cq (mv:List Nat):AFr->List Nat
 | []=>[]
 | (t,v) :: r=>bif disj mv v.rids then Cq mv r else t :: Cq mv r
def Gt (d:Option Nat) (l:List Nat):Bool:=match d with
 | some d=>bM d l
 | none=>false
def Mh (a b:RC):Bool:=!Gt b.dst a.U && disj b.ch a.σ && disj b.ch a.new && disj b.new a.σ && disj b.new a.ch && (match b.mv with
 | []=>true
 | mv=>disj (yN mv 0 b.H0) a.σ && disj (Cq mv b.fr0) a.U && disj mv (jJ a.fr0 a.U) && disj mv (iv a.H0 a.σ) && disj mv a.v.rids && disj mv (iv a.res a.ch) && disj mv (iv a.res a.new) && (match a.ent with
  | some (.fn _ x)=>disj mv x.rids
  | _=>true))
def okI (a b:RC):Bool:=match a.ent,b.ent with
 | some e,some e2=>disj a.ch b.ch || !decide (e.key=e2.key)
 | _,_=>disj a.ch b.ch
def bitN (m j:Nat):Bool:=Nat.beq (Nat.land (Nat.shiftRight m j) 1) 1
def eE (acc:List Nat):List Nat->Nat
 | []=>0
 | j :: r=>Nat.lor (Nat.lor (Nat.shiftLeft 1 j) (acc.getD j 0)) (eE acc r)
def fh (acc:List Nat):List Oper->List Nat
 | []=>acc
 | o :: r=>fh (acc++[eE acc (dI o)]) r
def vH (m:Nat) (b:RC):Nat->List RC->Bool
 | _,[]=>true
 | i,a :: r=>(bitN m i || (Mh a b && Mh b a && okI a b)) && vH m b (i+1) r
def q_ (b:RC):List RC->Bool
 | []=>true
 | a :: r=>(match a.dst,b.dst with
  | some i,some j=>!Nat.beq i j
  | _,_=>true) && q_ b r
def uG (bef:List Nat):Nat->List RC->List RC->Bool
 | _,_,[]=>true
 | j,done,b :: r=>Nat.beq b.base b.H0.length && Nat.ble b.base b.res.length && jn b.base (slotIds b.fr0 b.U) && jn b.base (objIds b.H0 b.σ) && jn b.base b.σ && jn b.base b.ch && q_ b done && (match b.ent with
   | some _=>(match b.mv,b.ch with
    | [],[_]=>true
    | _,_=>false) && Nat.beq b.res.length b.base
   | none=>true) && vH (bef.getD j 0) b 0 done && uG bef (j+1) (done++[b]) r
def mb:Nat->List Oper->Bool
 | _,[]=>true
 | i,o :: r=>jn i (dI o) && mb (i+1) r
def Nf (l:List Oper) (rs:List RC):Bool:=mb 0 l && Nat.beq rs.length l.length && uG (fh [] l) 0 [] rs
def o_ (m:Nat):Nat->List RC->List Prop
 | _,[]=>[]
 | i,a :: r=>(bif bitN m i then a.fc else [])++o_ m (i+1) r
def Mn (fc:List Prop):List Prop->List Prop
 | []=>[]
 | ob=>[iz fc (gO ob)]
def Kk (all:List RC):List Nat->List RC->List Prop
 | m :: bef,b :: r=>Mn (o_ m 0 all) b.ob++Kk all bef r
 | _,_=>[]
def JB:List RC->List Prop
 | []=>[]
 | a :: r=>a.fc++JB r
def nt:AFr->List Nat->AFr
 | [],_=>[]
 | (t,v) :: r,l=>bif bM t l then nt r l else (t,v) :: nt r (t :: l)
def fq:Op->List Nat
 | .store _ x v=>Operand.sl x++Operand.sl v
 | .insert _ x y z=>Operand.sl x++Operand.sl y++Operand.sl z
 | .mapUpdate _ x y z=>Operand.sl x++Operand.sl y++Operand.sl z
 | .lookup _ x y _=>Operand.sl x++Operand.sl y
 | .box _ x=>Operand.sl x
 | .makeSlice _ x y=>Operand.sl x++Operand.sl y
 | .buildSlice _ _ l=>NI l.toList
 | op=>uL op
def GA (fr:AFr) (H:AH):Op->List Nat
 | .move _=>[]
 | .assign _=>[]
 | .extract _ _=>[]
 | .nilCheck _=>[]
 | .makeFunc _ _ _=>[]
 | .fieldAddr _ _ _=>[]
 | .build _ _=>[]
 | .unOp _ _ _=>[]
 | .binOp _ _ _ _ _=>[]
 | .box _ _=>[]
 | .alloc _=>[]
 | .call c=>match c.callee with
  | .value _=>match eK fr c with
   | some (_,l)=>nH H l
   | none=>[]
  | _=>slotIds fr (fq (.call c))
 | op=>slotIds fr (fq op)
def MB (fr:AFr) (H:AH):Op->List (List Nat × List Nat)
 | .store _ x v=>match cW fr x,cW fr v with
  | some (.one (.c (.ptr id _))),_=>[([id],[])]
  | some (.one (.c (.elp id _ _))),some (.one b)=>[(id :: dk b.cells,dk b.cells)]
  | _,_=>[]
 | .box _ _=>[([],[])]
 | .buildSlice _ _ l=>match sJ fr l.toList with
  | some l=>[(uA l,uA l)]
  | none=>[]
 | .alloc _=>[([],[])]
 | .makeMap _ _=>[([],[])]
 | .makeSlice _ _ _=>[([],[])]
 | .call c=>match c.callee with
  | .builtin .append=>match c.args.toList with
   | [x,_]=>match cW fr x with
    | some (.one (.c (.own id)))=>[([id],[id])]
    | some (.one (.c (.sub id _ _)))=>[([id],[id])]
    | _=>[([],[])]
   | _=>[]
  | .value _=>match eK fr c with
   | some (_,l)=>[([],[]),(nH H (yA H l),nH H (yA H l)),(nH H l,nH H l)]
   | none=>[]
  | _=>[]
 | _=>[]
structure XR where
 v:TV
 ch:List Nat
 mv:List Nat
 res:AH
 ob:List Prop
 fc:List Prop
def Ed (fm:AFr) (Hm:AH) (op:Op):List (List Nat × List Nat)->Option XR
 | []=>none
 | (ch,mv) :: r=>match sv T O ⟨fun i=>bM i ch && ro.wr i,fun i=>bM i mv && ro.mv i⟩ fm Hm op with
  | some q=>some ⟨q.v,ch,mv,q.H,q.ob,q.fc⟩
  | none=>Ed fm Hm op r
def Bf (fm:AFr) (Hm:AH):Op->Option PR
 | .buildSlice t n parts=>match bq T t,sJ fm parts.toList with
  | some ⟨.sl _ (some s),_,_⟩,some l=>match uA l,mP s Hm l 0 with
   | [],some xs=>match Nat.beq xs.length n && Nat.ble (n*s.size) 16777216 && Nat.ble (n*s.bytes) 140737488355328 && Nat.blt 0 n with
    | true=>some ⟨one (.fz s xs),[],[]⟩
    | false=>none
   | _,_=>none
  | _,_=>none
 | _=>none
def Kw (fr:AFr) (H:AH) (o:Oper):Option XR:=
 match cn fr (fq o.op),maskH (GA fr H o.op) 0 H with
 | fm,Hm=>match Bf T fm Hm o.op with
  | some r=>some ⟨r.v,[],[],Hm,r.ob,r.fc⟩
  | none=>match pv T O Hm fm o.op with
   | some r=>some ⟨r.v,[],[],Hm,r.ob,r.fc⟩
   | none=>match D_ o with
    | true=>Ed T O ro fm Hm o.op (MB fr H o.op)
    | false=>none
def IA (fr:AFr) (H:AH):Op->Option (Nat × Ent)
 | .insert t x y z=>match bq T t,cW fr x,cW fr y,cW fr z with
  | some ⟨.mp _ _ (some s),_,_⟩,some (.one (.c (.mq id))),some (.one (.c (.int k))),some (.one v)=>match getO H id,dk v.cells,dZ s v.cells with
   | .mapo s' _,[],some x'=>match decide (s' = s) && jA s v && ro.wr id with
    | true=>some (id,.da s k x')
    | false=>none
   | _,_,_=>none
  | some ⟨.mp _ _ none,_,_⟩,some (.one (.c (.mq id))),some (.one (.c (.int k))),some (.one (.c a))=>match getO H id,ro.wr id with
   | .mapf _,true=>some (id,.fn k a)
   | _,_=>none
  | _,_,_,_=>none
 | _=>none
def IM:List RC->Nat->Bool
 | [],_=>true
 | r :: _,0=>r.on
 | _ :: l,i+1=>IM l i
def na (l:List Oper) (fr:AFr) (rs:List RC):Option (Nat × Bool)->Option Bool
 | none=>some true
 | some (j,w)=>match idst l j with
  | some t=>match IM rs j,lookA fr t with
   | false,_=>some false
   | true,some (.one (.c (.bool (.lit b))))=>some (b == w)
   | _,_=>none
  | none=>none
def eA (l:List Oper):Option (Nat × Bool)->List Nat
 | none=>[]
 | some (j,_)=>match idst l j with
  | some t=>[t]
  | none=>[]
def En (i:Nat) (d:Option Nat):List Oper->Bool
 | []=>false
 | o :: r=>(match o.guard with
  | some (j,_)=>Nat.beq j i
  | none=>false) || (match d with
  | some d=>kz d o
  | none=>false) || En i d r
def split (g:Bool) (v:TV) (K:TV->Prop):Prop:=match g,lK (some v) with
 | true,some (.lit b)=>K (one (.bool (.lit b)))
 | true,some e=>(e.p true->K (one (.bool (.lit true))))/\(e.p false->K (one (.bool (.lit false))))
 | _,_=>K v
def Dq (l:List Oper) (K:AFr->AH->Prop):Nat->Nat->List Oper->AFr->AH->List RC->Prop
 | 0,_,_,_,_,_=>False
 | _+1,_,[],fr,H,rs=>match Nf l rs with
  | true=>oa (Kk rs (fh [] l) rs) (iz (JB rs) (K (nt fr []) H))
  | false=>False
 | n+1,i,o :: rest,fr,H,rs=>match na l fr rs o.guard with
  | some false=>match RC.mk false o.dst .un (eA l o.guard) [] [] [] H.length (maskH [] 0 H) none [] [] fr H with
   | rc=>Dq l K n (i+1) rest (rc.app (fr,H)).1 (rc.app (fr,H)).2 (rs++[rc])
  | some true=>match o.op with
   | .pick (.tmp t) x y=>match lookA fr t with
    | some (.one (.c (.bool (.lit b))))=>match cW fr (cond b x y) with
     | some v=>split (En i o.dst rest) v fun v=>match RC.mk true o.dst v (t :: Operand.sl (cond b x y)++eA l o.guard) [] [] [] H.length (maskH [] 0 H) none [] [] fr H with
      | rc=>Dq l K n (i+1) rest (rc.app (fr,H)).1 (rc.app (fr,H)).2 (rs++[rc])
     | none=>False
    | _=>False
   | op=>match IA T ro fr H op with
    | some (id,e)=>match RC.mk true none .un (fq op++eA l o.guard) [] [id] [] H.length (maskH [] 0 H) (some e) [] [] fr H,o.dst with
     | rc,none=>Dq l K n (i+1) rest (rc.app (fr,H)).1 (rc.app (fr,H)).2 (rs++[rc])
     | _,_=>False
    | none=>match GA fr H op with
     | σ=>match mapA T (maskH σ 0 H) (cn fr (fq op)) op with
      | some m=>qf m.k m.ok (fun v=>split (En i o.dst rest) v fun v=>match RC.mk true o.dst v (fq op++eA l o.guard) σ [] [] H.length (maskH σ 0 H) none [] [] fr H with
       | rc=>Dq l K n (i+1) rest (rc.app (fr,H)).1 (rc.app (fr,H)).2 (rs++[rc])) m.l
      | none=>match Kw T O ro fr H o with
       | some r=>split (En i o.dst rest) r.v fun v=>match RC.mk true o.dst v (fq op++eA l o.guard) σ r.ch r.mv H.length r.res none r.ob r.fc fr H with
        | rc=>Dq l K n (i+1) rest (rc.app (fr,H)).1 (rc.app (fr,H)).2 (rs++[rc])
       | none=>False
  | none=>False
def Hk (l:List Oper) (K:AFr->AH->Prop) (fr:AFr) (H:AH):Prop:=Dq T O ro l K (l.length+1) 0 l fr H []
def GY (step:(Exit->AFr->AH->Prop)->AFr->AH->Prop) (K:Exit->AFr->AH->Prop) (l:List Nat):Nat->AFr->AH->Prop
 | 0,_,_=>False
 | n+1,fr,H=>step (fun e fr H=>match e with
  | .normal=>GY step K l n fr H
  | e=>K e fr H) (cn fr l) H
def gz (k0:Nat) (L:List (Nat × LI)):Code->(Exit->AFr->AH->Prop)->AFr->AH->Prop
 | .skip,K,fr,H=>K .normal fr H
 | .seq x y,K,fr,H=>gz k0 L x (fun e fr H=>match e with
  | .normal=>gz k0 L y K fr H
  | e=>K e fr H) fr H
 | .cond c x y,K,fr,H=>match lK (cW fr c) with
  | some (.lit true)=>gz k0 L x K fr H
  | some (.lit false)=>gz k0 L y K fr H
  | some e=>(e.p true->gz k0 L x K fr H)/\(e.p false->gz k0 L y K fr H)
  | none=>False
 | .block i c,K,fr,H=>gz k0 L c (fun e fr H=>match e with
  | .exit j=>bif Nat.beq j i then K .normal fr H else K (.exit j) fr H
  | e=>K e fr H) fr H
 | .loop c,K,fr,H=>match FZ L (gv c) with
  | some I=>match I.un with
   | some (n,l)=>GY (gz k0 L c) K l n fr H
   | none=>∃ s0,gO (uJ T k0 fr H (I.F s0))/\I.J s0/\I.bE s0 s0 (∀ s,I.J s->I.imp s0 s (gz k0 L c (fun e fr H=>match e with
    | .normal=>∃ s',gO (uJ T k0 fr H (I.F s'))/\I.J s' /\ I.bE s0 s' (I.μ s' < I.μ s)
    | e=>K e fr H) (I.F s).1 (I.F s).2))
  | none=>False
 | .exit i,K,fr,H=>K (.exit i) fr H
 | .ret,K,fr,H=>K .ret fr H
 | .scope c,K,fr,H=>gz k0 L c (fun e fr H=>match e with
  | .goto _=>False
  | e=>K e fr H) fr H
 | .label _,K,fr,H=>K .normal fr H
 | .region _ ops false,K,fr,H=>wpOps T O ro ops.toList (K .normal) (2*ops.size+1) ops.toList fr H
 | .region _ ops true,K,fr,H=>
  match Ba T O H fr ops.toList [] 0 with
  | k=>match qF T O H fr (ops.toList.take k) [] with
   | some ds=>match iH ops.toList (ds.map fun a=>⟨a.deps,[],fun _ _=>True⟩) (fr.map (·.1)) k with
    | true=>oa (Jv ds) (iz (Bx ds) (wpOps T O ro ops.toList (K .normal) (2*ops.size+1) (ops.toList.drop k) (sg ds fr) H))
    | false=>Hk T O ro ops.toList (K .normal) fr H
   | none=>Hk T O ro ops.toList (K .normal) fr H
 | _,_,_,_=>False
def Gx (T:List (Nat × TI)) (H:AH) (t:TypeId) (p:AV):Option PR:=match lY T H t p with
 | some r=>some r
 | none=>wB T H t p
def oo (T:List (Nat × TI)) (fr:AFr) (H:AH):List ResultVar->Option (List TV1)
 | []=>some []
 | .tmp t :: r=>match lookA fr t,oo T fr H r with
  | some (.one a),some l=>some (a :: l)
  | _,_=>none
 | .cell a t :: r=>match lookA fr a,oo T fr H r with
  | some (.one (.c p)),some l=>match Gx T H t p with
   | some ⟨.one v,[],_⟩=>some (v :: l)
   | _=>none
  | _,_=>none
def lH:Nat->List TV1->AFr
 | _,[]=>[]
 | k,v :: r=>(k,.one v) :: lH (k+1) r
def dp (L:List (Nat × LI)) (fn:Func) (args:List TV1) (H:AH) (rs:List TV1):Prop:=
 match fn.body with
 | some c=>iz (xY args) (gz T O (dS H.length) H.length L c (fun e fr H'=>match e with
  | .ret=>match oo T fr H' fn.results.toList with
   | some l=>gO (rS H' H'.length (iota 0 H.length) l rs)
   | none=>False
  | .normal=>match oo T fr H' fn.results.toList with
   | some l=>gO (rS H' H'.length (iota 0 H.length) l rs)
   | none=>False
  | _=>False) (lH 0 args) H)
 | none=>False
end Go.Proofs.Ytjmbgkmkinmlkaa
namespace Go.Proofs.Ytjmbgkmkinmlkaa
open Go.RowKit
structure Cx where
 shp:TypeId->Option Sh
 B0:Nat
 S:Nat->Prop
 w:World
def Cx.at (c:Cx) (s:Sh) (b:Nat):Prop:=c.S b/\(b<c.B0\/∃ cur t fr,c.w.heap[b]? = some (.cells cur t fr)/\c.shp t=some s/\(s = .int->fr=(0,0)))
def LiAt (c:Cx) (nw:Bool) (a:Option Addr) (xs:List Int):Prop:=
 xs=[]\/∃ A,a=some A/\(nw=true->c.S A.block/\c.B0<=A.block/\∃ cur t fr,c.w.heap[A.block]? = some (.cells cur t fr)/\c.shp t=some .int/\fr=(0,0))/\(nw=false->(A.block<c.B0/\A.block<c.w.heap.size)\/c.at .int A.block)/\CellsAt c.w A (xs.map (.int .i64))
mutual
inductive Pd (c:Cx):AV->Value->Prop
 | int {n:Int}:I64 n->Pd c (.int n) (.int .i64 n)
 | u8 {b:UInt8}:Pd c (.u8 b) (.int .u8 (b.toNat:Int))
 | u64 {n:Nat}:n<18446744073709551616->Pd c (.u64 n) (.int .u64 (n:Int))
 | bool {e:BE}:Pd c (.bool e) (.bool e.val)
 | str {s:Str}:s.b.length<=140737488355328->Pd c (.str s) s.val
 | em {b:Bool} {a:Option Addr}:b=a.isNone->Pd c (.em b) (.slice a 0 0)
 | fz {s:Sh} {xs:List (den s)} {a:Option Addr} {k:Nat} {cells:List Value}:xs.length<=k->k<=maxLen->xs.length*s.bytes<=140737488355328->Pds c (xs.flatMap (cellsOf s)) cells ->
   (xs=[]\/∃ A,a=some A/\c.at s A.block/\CellsAt c.w A cells)->Pd c (.fz s xs) (.slice a xs.length k)
 | li {nw:Bool} {xs:List Int} {a:Option Addr} {k:Nat}:xs.length<=k->k<=maxLen->xs.length*8<=140737488355328->(∀ n ∈ xs,I64 n)->LiAt c nw a xs->Pd c (.li nw xs) (.slice a xs.length k)
inductive Pds (c:Cx):List AV->List Value->Prop
 | nil:Pds c [] []
 | cons {a:AV} {v:Value} {r:List AV} {vs:List Value}:Pd c a v->Pds c r vs->Pds c (a :: r) (v :: vs)
end
theorem Pds.all {c:Cx}:∀ {asx:List AV} {vs:List Value},Pds c asx vs->All2 (Pd c) asx vs
 | [],_,h=>by cases h; exact .nil
 | _ :: _,_,h=>by cases h with | cons h1 h2=>exact .cons h1 h2.all
theorem Pds.of {c:Cx}:∀ {asx:List AV} {vs:List Value},All2 (Pd c) asx vs->Pds c asx vs
 | [],_,h=>by cases h; exact .nil
 | _ :: _,_,h=>by cases h with | cons h1 h2=>exact .cons h1 (Pds.of h2)
structure Cx.le (c c':Cx):Prop where
 shp:c'.shp=c.shp
 B0:c'.B0=c.B0
 S:∀ b,c.S b->c'.S b/\c'.w.heap[b]? = c.w.heap[b]?
 lo:∀ b,b<c.B0->b<c.w.heap.size->c'.w.heap[b]? = c.w.heap[b]?
def Cx.low (c:Cx):Cx:=⟨c.shp,c.B0,fun b=>b<c.B0/\b<c.w.heap.size,c.w⟩
theorem iQ {w w':World} {b:Nat} (h:w'.heap[b]? = w.heap[b]?) (hb:b<w.heap.size):b<w'.heap.size:=by
 rw [Array.getElem?_eq_getElem hb] at h
 exact (Array.getElem?_eq_some_iff.1 h).1
theorem Cx.le.low {c c':Cx} (h:c.le c'):c.low.le c'.low:=⟨h.shp,h.B0,fun b hb=>⟨⟨by rw [h.B0]; exact hb.1,iQ (h.lo b hb.1 hb.2) hb.2⟩,h.lo b hb.1 hb.2⟩,h.lo⟩
theorem Cx.le.refl (c:Cx):c.le c:=⟨rfl,rfl,fun _ h=>⟨h,rfl⟩,fun _ _ _=>rfl⟩
theorem Cx.le.trans {a b c:Cx} (h:a.le b) (k:b.le c):a.le c:=
 ⟨k.shp.trans h.shp,k.B0.trans h.B0,fun x hx=>⟨(k.S x (h.S x hx).1).1,((k.S x (h.S x hx).1).2).trans (h.S x hx).2⟩,fun x hx hs=>(k.lo x (by rw [h.B0]; exact hx) (iQ (h.lo x hx hs) hs)).trans (h.lo x hx hs)⟩
theorem Cx.le.at_ {c c':Cx} (h:c.le c') {s:Sh} {b:Nat} (k:c.at s b):c'.at s b:=by
 refine ⟨(h.S b k.1).1,?_⟩
 rcases k.2 with k2 | ⟨cur,t,fr,k2,k3,k4⟩
 ·left; rw [h.B0]; exact k2
 ·right; exact ⟨cur,t,fr,((h.S b k.1).2).trans k2,by rw [h.shp]; exact k3,k4⟩
theorem LiAt.le {c c':Cx} {nw:Bool} {a:Option Addr} {xs:List Int} (k:LiAt c nw a xs) (h:c.le c'):LiAt c' nw a xs:=by
 rcases k with k | ⟨A,hA,hn,ho,hc⟩
 ·exact .inl k
 ·refine .inr ⟨A,hA,fun e=>⟨(h.S _ (hn e).1).1,by rw [h.B0]; exact (hn e).2.1,?_⟩,fun e=>(ho e).imp (fun k=>⟨by rw [h.B0]; exact k.1,iQ (h.lo _ k.1 k.2) k.2⟩) fun k=>h.at_ k,?_⟩
  ·obtain ⟨cur,t,fr,e1,e2,e3⟩:=(hn e).2.2
   exact ⟨cur,t,fr,((h.S _ (hn e).1).2).trans e1,by rw [h.shp]; exact e2,e3⟩
  ·cases nw
   ·rcases ho rfl with k | k
    ·exact hc.keep (h.lo _ k.1 k.2)
    ·exact hc.keep (h.S _ k.1).2
   ·exact hc.keep (h.S _ (hn rfl).1).2
theorem nK {c c':Cx} (h:c.le c'):(∀ a v,Pd c a v->Pd c' a v)/\(∀ asx vs,Pds c asx vs->Pds c' asx vs):=by
 refine ⟨fun a v hp=>?_,fun asx vs hp=>?_⟩
 ·refine @Pd.rec c (fun a v _=>Pd c' a v) (fun asx vs _=>Pds c' asx vs) ?_ ?_ ?_ ?_ ?_ ?_ ?_ ?_ ?_ ?_ a v hp
  ·intro n h1; exact .int h1
  ·intro b; exact .u8
  ·intro n h1; exact .u64 h1
  ·intro e; exact .bool
  ·intro s h1; exact .str h1
  ·intro b a h1; exact .em h1
  ·intro s xs a k cells h1 h2 h3 _ h5 ih
   refine .fz h1 h2 h3 ih ?_
   rcases h5 with h5 | ⟨A,hA,hat,hc⟩
   ·exact .inl h5
   ·exact .inr ⟨A,hA,h.at_ hat,hc.keep (h.S _ hat.1).2⟩
  ·intro nw xs a k h1 h2 h3 h4 h5; exact .li h1 h2 h3 h4 (h5.le h)
  ·exact .nil
  ·intro a v r vs _ _ h1 h2; exact .cons h1 h2
 ·induction asx generalizing vs with
  | nil=>cases hp; exact .nil
  | cons a r ih=>
   cases hp with
   | cons h1 h2=>
    refine .cons ?_ (ih _ h2)
    refine @Pd.rec c (fun a v _=>Pd c' a v) (fun asx vs _=>Pds c' asx vs) ?_ ?_ ?_ ?_ ?_ ?_ ?_ ?_ ?_ ?_ _ _ h1
    ·intro n h1; exact .int h1
    ·intro b; exact .u8
    ·intro n h1; exact .u64 h1
    ·intro e; exact .bool
    ·intro s h1; exact .str h1
    ·intro b a h1; exact .em h1
    ·intro s xs a k cells h1 h2 h3 _ h5 ih
     refine .fz h1 h2 h3 ih ?_
     rcases h5 with h5 | ⟨A,hA,hat,hc⟩
     ·exact .inl h5
     ·exact .inr ⟨A,hA,h.at_ hat,hc.keep (h.S _ hat.1).2⟩
    ·intro nw xs a k h1 h2 h3 h4 h5; exact .li h1 h2 h3 h4 (h5.le h)
    ·exact .nil
    ·intro a v r vs _ _ h1 h2; exact .cons h1 h2
theorem Pd.carry {c c':Cx} {a:AV} {v:Value} (h:Pd c a v) (k:c.le c'):Pd c' a v:=(nK k).1 _ _ h
theorem Pds.carry {c c':Cx} {asx:List AV} {vs:List Value} (h:Pds c asx vs) (k:c.le c'):Pds c' asx vs:=(nK k).2 _ _ h
theorem Pd.one {c:Cx} {a:AV} {v:Value} (h:Pd c a v):v.oneCell' = true:=by cases h <;> simp [Value.oneCell',Str.val]
theorem Pds.Di {c:Cx}:∀ {asx:List AV} {vs:List Value},Pds c asx vs->∀ u ∈ vs,u.oneCell' = true
 | [],_,h=>by cases h; simp
 | _ :: _,_,h=>by
  cases h with
  | cons h1 h2=>
   intro u hu
   rcases List.mem_cons.1 hu with rfl | hu
   ·exact h1.one
   ·exact h2.Di u hu
theorem Pds.length {c:Cx} {asx:List AV} {vs:List Value} (h:Pds c asx vs):asx.length=vs.length:=h.all.length
theorem Pds.append {c:Cx}:∀ {asx bs:List AV} {vs us:List Value},Pds c asx vs->Pds c bs us->Pds c (asx++bs) (vs++us)
 | [],_,_,_,h,k=>by cases h; exact k
 | _ :: _,_,_,_,h,k=>by cases h with | cons h1 h2=>exact .cons h1 (h2.append k)
theorem Pds.take {c:Cx} {asx:List AV} {vs:List Value} (h:Pds c asx vs) (n:Nat):Pds c (asx.take n) (vs.take n):=.of (h.all.take n)
theorem Pds.drop {c:Cx} {asx:List AV} {vs:List Value} (h:Pds c asx vs) (n:Nat):Pds c (asx.drop n) (vs.drop n):=.of (h.all.drop n)
theorem ct (s:Sh) (x:den s):(cellsOf s x).length=s.size:=by
 cases s <;> try rfl
 rename_i t
 cases t <;> rfl
theorem size_pos (s:Sh):0<s.size:=by
 cases s with
 | nm t=>cases t <;> decide
 | _=>simp [Sh.size]
theorem gY (s:Sh):0<s.bytes:=by
 cases s with
 | nm t=>cases t <;> decide
 | _=>simp [Sh.bytes]
theorem bT {s:Sh}:∀ (xs:List (den s)),(xs.flatMap (cellsOf s)).length=xs.length*s.size
 | []=>by simp
 | x :: r=>by rw [List.flatMap_cons,List.length_append,bT r,ct,List.length_cons,Nat.add_mul]; omega
theorem kL {s:Sh}:∀ (xs:List (den s)) (i:Nat),(xs.flatMap (cellsOf s)).drop (i*s.size)=(xs.drop i).flatMap (cellsOf s)
 | [],i=>by simp
 | x :: r,0=>by simp
 | x :: r,i+1=>by
  rw [List.flatMap_cons,List.drop_append,List.drop_eq_nil_of_le (by rw [ct,Nat.add_mul]; omega),ct,show (i+1)*s.size - s.size=i*s.size by rw [Nat.add_mul]; omega,kL r i]
  simp
theorem oG {s:Sh}:∀ (xs:List (den s)) (i:Nat),(xs.flatMap (cellsOf s)).take (i*s.size)=(xs.take i).flatMap (cellsOf s)
 | [],i=>by simp
 | x :: r,0=>by simp
 | x :: r,i+1=>by
  rw [List.flatMap_cons,List.take_append,List.take_of_length_le (by rw [ct,Nat.add_mul]; omega),ct,show (i+1)*s.size - s.size=i*s.size by rw [Nat.add_mul]; omega,oG r i]
  simp
theorem jh {s:Sh} {xs:List (den s)} {i:Nat} {x:den s} (h:xs[i]? = some x):((xs.flatMap (cellsOf s)).drop (i*s.size)).take s.size=cellsOf s x:=by
 rw [kL]
 have hi:i<xs.length:=(List.getElem?_eq_some_iff.1 h).1
 rw [List.drop_eq_getElem_cons hi,List.flatMap_cons,List.take_append_of_le_length (by rw [ct]; omega)]
 have hx:xs[i]=x:=by rw [List.getElem?_eq_getElem hi] at h; exact Option.some.inj h
 rw [hx,List.take_of_length_le (by rw [ct]; omega)]
theorem rM {s:Sh} {xs:List (den s)} {i:Nat} {x y:den s} (h:xs[i]? = some x):(xs.set i y).flatMap (cellsOf s)=(xs.take i).flatMap (cellsOf s)++cellsOf s y++(xs.drop (i+1)).flatMap (cellsOf s):=by
 have hi:i<xs.length:=(List.getElem?_eq_some_iff.1 h).1
 have e:xs.set i y=xs.take i++y :: xs.drop (i+1):=by
  rw [List.set_eq_take_append_cons_drop,if_pos hi]
 rw [e,List.flatMap_append,List.flatMap_cons,List.append_assoc]
theorem ly (s:Sh) (x:den s):∀ a ∈ cellsOf s x,a.plain=true:=by
 cases s with
 | nm t=>cases t <;> simp [cellsOf,NT.cells,AV.plain]
 | _=>simp [cellsOf,AV.plain]
section
variable {c:Cx} {a:AV} {v:Value}
theorem AV.Nk {n:Int} (h:a.bH=some n):a = .int n:=by cases a <;> simp [AV.bH] at h; rw [h]
theorem AV.Nw {n:UInt8} (h:a.JC=some n):a = .u8 n:=by cases a <;> simp [AV.JC] at h; rw [h]
theorem AV.MG {n:U64} (h:a.GP=some n):a = .u64 n.n:=by cases a <;> simp [AV.GP] at h; rw [<- h]
theorem AV.Mr {n:Str} (h:a.uq=some n):a = .str n:=by cases a <;> simp [AV.uq] at h; rw [h]
def Qd (c:Cx) (a:AV) (v:Value):Prop:=a.plain=true->Pd c a v
theorem Pd.bH {n:Int} (h:a.bH=some n) (k:Qd c a v):Pd c (.int n) v:=by obtain rfl:=AV.Nk h; exact k rfl
theorem Pd.JC {n:UInt8} (h:a.JC=some n) (k:Qd c a v):Pd c (.u8 n) v:=by obtain rfl:=AV.Nw h; exact k rfl
theorem Pd.GP {n:U64} (h:a.GP=some n) (k:Qd c a v):Pd c (.u64 n.n) v:=by obtain rfl:=AV.MG h; exact k rfl
theorem Pd.Jj {x:Bool × List Int} (h:a.Jj=some x) (k:Qd c a v):Pd c (.li x.1 x.2) v:=by
 cases a <;> simp [AV.Jj] at h
 ·subst h
  cases (k rfl) with
  | em h1=>exact Pd.li (xs:=[]) (k:=0) (Nat.le_refl _) (Nat.zero_le _) (by simp) (by simp) (.inl rfl)
 ·subst h; exact k rfl
theorem Pd.uq {n:Str} (h:a.uq=some n) (k:Qd c a v):Pd c (.str n) v:=by obtain rfl:=AV.Mr h; exact k rfl
theorem Pd.rb {n:Bool} (h:a.rb=some n) (k:Qd c a v):Pd c (.bool (.atom n)) v:=by
 cases a <;> simp [AV.rb] at h
 have k:=k rfl
 cases k
 rw [h]
 exact Pd.bool (e:=.atom n)
theorem Pd.qB {s:Sh} {b:Bool} (k:Pd c (.em b) v):Pd c (.fz s []) v:=by
 cases k with
 | em h=>exact Pd.fz (xs:=([]:List (den s))) (cells:=[]) (Nat.le_refl _) (by simp [maxLen]) (by simp) .nil (.inl rfl)
theorem Pd.fD {s:Sh} {xs:List (den s)} (h:a.fD s=some xs) (k:Qd c a v):Pd c (.fz s xs) v:=by
 cases a <;> simp [AV.fD] at h
 ·subst h; exact (k rfl).qB
 ·obtain ⟨rfl,h⟩:=h
  subst h; exact k rfl
end
theorem Reply.aW {c:Cx} {asx:List AV} {vs:List Value} {x:Reply} (h:Reply.of asx=some x) (hv:All2 (Qd c) asx vs):Pds c (NT.cells .reply x) vs:=by
 unfold Reply.of at h
 split at h
 ·split at h
  ·rename_i e0 e1
   cases h
   cases hv with | cons k0 hv=>cases hv with | cons k1 hv=>cases hv; exact .cons (Pd.bH e0 k0) ( .cons (Pd.bH e1 k1) .nil)
  ·cases h
 ·cases h
theorem Sess.aW {c:Cx} {asx:List AV} {vs:List Value} {x:Sess} (h:Sess.of asx=some x) (hv:All2 (Qd c) asx vs):Pds c (NT.cells .sess x) vs:=by
 unfold Sess.of at h
 split at h
 ·split at h
  ·rename_i e0 e1 e2 e3
   cases h
   cases hv with | cons k0 hv=>cases hv with | cons k1 hv=>cases hv with | cons k2 hv=>cases hv with | cons k3 hv=>cases hv; exact .cons (Pd.bH e0 k0) ( .cons (Pd.bH e1 k1) ( .cons (Pd.bH e2 k2) ( .cons (Pd.bH e3 k3) .nil)))
  ·cases h
 ·cases h
theorem Opn.aW {c:Cx} {asx:List AV} {vs:List Value} {x:Opn} (h:Opn.of asx=some x) (hv:All2 (Qd c) asx vs):Pds c (NT.cells .opn x) vs:=by
 unfold Opn.of at h
 split at h
 ·split at h
  ·rename_i e0 e1
   cases h
   cases hv with | cons k0 hv=>cases hv with | cons k1 hv=>cases hv; exact .cons (Pd.bH e0 k0) ( .cons (Pd.bH e1 k1) .nil)
  ·cases h
 ·cases h
theorem Snap.aW {c:Cx} {asx:List AV} {vs:List Value} {x:Snap} (h:Snap.of asx=some x) (hv:All2 (Qd c) asx vs):Pds c (NT.cells .snap x) vs:=by
 unfold Snap.of at h
 split at h
 ·split at h
  ·rename_i e0 e1 e2 e3 e4
   cases h
   cases hv with | cons k0 hv=>cases hv with | cons k1 hv=>cases hv with | cons k2 hv=>cases hv with | cons k3 hv=>cases hv with | cons k4 hv=>cases hv; exact .cons (Pd.bH e0 k0) ( .cons (Pd.bH e1 k1) ( .cons (Pd.fD e2 k2) ( .cons (Pd.rb e3 k3) ( .cons (Pd.uq e4 k4) .nil))))
  ·cases h
 ·cases h
theorem State.aW {c:Cx} {asx:List AV} {vs:List Value} {x:State} (h:State.of asx=some x) (hv:All2 (Qd c) asx vs):Pds c (NT.cells .state x) vs:=by
 unfold State.of at h
 split at h
 ·split at h
  ·rename_i e0 e1 e2 e3 e4 e5 e6
   cases h
   cases hv with | cons k0 hv=>cases hv with | cons k1 hv=>cases hv with | cons k2 hv=>cases hv with | cons k3 hv=>cases hv with | cons k4 hv=>cases hv with | cons k5 hv=>cases hv with | cons k6 hv=>cases hv; exact .cons (Pd.bH e0 k0) ( .cons (Pd.bH e1 k1) ( .cons (Pd.bH e2 k2) ( .cons (Pd.bH e3 k3) ( .cons (Pd.fD e4 k4) ( .cons (Pd.fD e5 k5) ( .cons (Pd.fD e6 k6) .nil))))))
  ·cases h
 ·cases h
theorem Command.aW {c:Cx} {asx:List AV} {vs:List Value} {x:Command} (h:Command.of asx=some x) (hv:All2 (Qd c) asx vs):Pds c (NT.cells .command x) vs:=by
 unfold Command.of at h
 split at h
 ·split at h
  ·rename_i e0 e1 e2 e3 e4 e5 e6 e7
   cases h
   cases hv with | cons k0 hv=>cases hv with | cons k1 hv=>cases hv with | cons k2 hv=>cases hv with | cons k3 hv=>cases hv with | cons k4 hv=>cases hv with | cons k5 hv=>cases hv with | cons k6 hv=>cases hv with | cons k7 hv=>cases hv; exact .cons (Pd.bH e0 k0) ( .cons (Pd.bH e1 k1) ( .cons (Pd.bH e2 k2) ( .cons (Pd.bH e3 k3) ( .cons (Pd.bH e4 k4) ( .cons (Pd.bH e5 k5) ( .cons (Pd.fD e6 k6) ( .cons (Pd.uq e7 k7) .nil)))))))
  ·cases h
 ·cases h
theorem SnapE.aW {c:Cx} {asx:List AV} {vs:List Value} {x:SnapE} (h:SnapE.of asx=some x) (hv:All2 (Qd c) asx vs):Pds c (NT.cells .snapE x) vs:=by
 unfold SnapE.of at h
 split at h
 ·split at h
  ·rename_i e0 e1 e2 e3 e4
   cases h
   cases hv with | cons k0 hv=>cases hv with | cons k1 hv=>cases hv with | cons k2 hv=>cases hv with | cons k3 hv=>cases hv with | cons k4 hv=>cases hv; exact .cons (Pd.bH e0 k0) ( .cons (Pd.bH e1 k1) ( .cons (Pd.Jj e2 k2) ( .cons (Pd.rb e3 k3) ( .cons (Pd.uq e4 k4) .nil))))
  ·cases h
 ·cases h
theorem Field.aW {c:Cx} {asx:List AV} {vs:List Value} {x:Field} (h:Field.of asx=some x) (hv:All2 (Qd c) asx vs):Pds c (NT.cells .field x) vs:=by
 unfold Field.of at h
 split at h
 ·split at h
  ·rename_i e0 e1 e2 e3
   cases h
   cases hv with | cons k0 hv=>cases hv with | cons k1 hv=>cases hv with | cons k2 hv=>cases hv with | cons k3 hv=>cases hv; exact .cons (Pd.bH e0 k0) ( .cons (Pd.bH e1 k1) ( .cons (Pd.GP e2 k2) ( .cons (Pd.fD e3 k3) .nil)))
  ·cases h
 ·cases h
theorem Spec.aW {c:Cx} {asx:List AV} {vs:List Value} {x:Spec} (h:Spec.of asx=some x) (hv:All2 (Qd c) asx vs):Pds c (NT.cells .spec x) vs:=by
 unfold Spec.of at h
 split at h
 ·split at h
  ·rename_i e0 e1 e2 e3 e4
   cases h
   cases hv with | cons k0 hv=>cases hv with | cons k1 hv=>cases hv with | cons k2 hv=>cases hv with | cons k3 hv=>cases hv with | cons k4 hv=>cases hv; exact .cons (Pd.bH e0 k0) ( .cons (Pd.bH e1 k1) ( .cons (Pd.bH e2 k2) ( .cons (Pd.rb e3 k3) ( .cons (Pd.rb e4 k4) .nil))))
  ·cases h
 ·cases h
theorem Entry.aW {c:Cx} {asx:List AV} {vs:List Value} {x:Entry} (h:Entry.of asx=some x) (hv:All2 (Qd c) asx vs):Pds c (NT.cells .entry x) vs:=by
 unfold Entry.of at h
 split at h
 ·split at h
  ·rename_i e0 e1
   cases h
   cases hv with | cons k0 hv=>cases hv with | cons k1 hv=>cases hv; exact .cons (Pd.bH e0 k0) ( .cons (Pd.fD e1 k1) .nil)
  ·cases h
 ·cases h
theorem Record.aW {c:Cx} {asx:List AV} {vs:List Value} {x:Record} (h:Record.of asx=some x) (hv:All2 (Qd c) asx vs):Pds c (NT.cells .record x) vs:=by
 unfold Record.of at h
 split at h
 ·split at h
  ·rename_i e0 e1 e2 e3
   cases h
   cases hv with | cons k0 hv=>cases hv with | cons k1 hv=>cases hv with | cons k2 hv=>cases hv with | cons k3 hv=>cases hv; exact .cons (Pd.bH e0 k0) ( .cons (Pd.bH e1 k1) ( .cons (Pd.bH e2 k2) ( .cons (Pd.fD e3 k3) .nil)))
  ·cases h
 ·cases h
theorem Letter.aW {c:Cx} {asx:List AV} {vs:List Value} {x:Letter} (h:Letter.of asx=some x) (hv:All2 (Qd c) asx vs):Pds c (NT.cells .letter x) vs:=by
 unfold Letter.of at h
 split at h
 ·split at h
  ·rename_i e0 e1 e2 e3 e4 e5 e6 e7 e8 e9
   cases h
   cases hv with | cons k0 hv=>cases hv with | cons k1 hv=>cases hv with | cons k2 hv=>cases hv with | cons k3 hv=>cases hv with | cons k4 hv=>cases hv with | cons k5 hv=>cases hv with | cons k6 hv=>cases hv with | cons k7 hv=>cases hv with | cons k8 hv=>cases hv with | cons k9 hv=>cases hv; exact .cons (Pd.bH e0 k0) ( .cons (Pd.bH e1 k1) ( .cons (Pd.bH e2 k2) ( .cons (Pd.bH e3 k3) ( .cons (Pd.bH e4 k4) ( .cons (Pd.bH e5 k5) ( .cons (Pd.bH e6 k6) ( .cons (Pd.bH e7 k7) ( .cons (Pd.rb e8 k8) ( .cons (Pd.fD e9 k9) .nil)))))))))
  ·cases h
 ·cases h
theorem Event.aW {c:Cx} {asx:List AV} {vs:List Value} {x:Event} (h:Event.of asx=some x) (hv:All2 (Qd c) asx vs):Pds c (NT.cells .event x) vs:=by
 unfold Event.of at h
 split at h
 ·split at h
  ·rename_i e0 e1 e2 e3 e4 e5 e6 e7 e8 e9 e10
   cases h
   cases hv with | cons k0 hv=>cases hv with | cons k1 hv=>cases hv with | cons k2 hv=>cases hv with | cons k3 hv=>cases hv with | cons k4 hv=>cases hv with | cons k5 hv=>cases hv with | cons k6 hv=>cases hv with | cons k7 hv=>cases hv with | cons k8 hv=>cases hv with | cons k9 hv=>cases hv with | cons k10 hv=>cases hv; exact .cons (Pd.bH e0 k0) ( .cons (Pd.bH e1 k1) ( .cons (Pd.bH e2 k2) ( .cons (Pd.bH e3 k3) ( .cons (Pd.bH e4 k4) ( .cons (Pd.bH e5 k5) ( .cons (Pd.bH e6 k6) ( .cons (Pd.bH e7 k7) ( .cons (Pd.bH e8 k8) ( .cons (Pd.fD e9 k9) ( .cons (Pd.uq e10 k10) .nil))))))))))
  ·cases h
 ·cases h
theorem CallR.aW {c:Cx} {asx:List AV} {vs:List Value} {x:CallR} (h:CallR.of asx=some x) (hv:All2 (Qd c) asx vs):Pds c (NT.cells .call x) vs:=by
 unfold CallR.of at h
 split at h
 ·split at h
  ·rename_i e0 e1 e2 e3 e4 e5 e6 e7 e8 e9 e10 e11 e12 e13 e14 e15
   cases h
   cases hv with | cons k0 hv=>cases hv with | cons k1 hv=>cases hv with | cons k2 hv=>cases hv with | cons k3 hv=>cases hv with | cons k4 hv=>cases hv with | cons k5 hv=>cases hv with | cons k6 hv=>cases hv with | cons k7 hv=>cases hv with | cons k8 hv=>cases hv with | cons k9 hv=>cases hv with | cons k10 hv=>cases hv with | cons k11 hv=>cases hv with | cons k12 hv=>cases hv with | cons k13 hv=>cases hv with | cons k14 hv=>cases hv with | cons k15 hv=>cases hv; exact .cons (Pd.bH e0 k0) ( .cons (Pd.bH e1 k1) ( .cons (Pd.bH e2 k2) ( .cons (Pd.bH e3 k3) ( .cons (Pd.bH e4 k4) ( .cons (Pd.bH e5 k5) ( .cons (Pd.bH e6 k6) ( .cons (Pd.bH e7 k7) ( .cons (Pd.bH e8 k8) ( .cons (Pd.bH e9 k9) ( .cons (Pd.bH e10 k10) ( .cons (Pd.fD e11 k11) ( .cons (Pd.uq e12 k12) ( .cons (Pd.rb e13 k13) ( .cons (Pd.bH e14 k14) ( .cons (Pd.bH e15 k15) .nil)))))))))))))))
  ·cases h
 ·cases h
theorem Rest.aW {c:Cx} {asx:List AV} {vs:List Value} {x:Rest} (h:Rest.of asx=some x) (hv:All2 (Qd c) asx vs):Pds c (NT.cells .rest x) vs:=by
 unfold Rest.of at h
 split at h
 ·split at h
  ·rename_i e0 e1
   cases h
   cases hv with | cons k0 hv=>cases hv with | cons k1 hv=>cases hv; exact .cons (Pd.fD e0 k0) ( .cons (Pd.JC e1 k1) .nil)
  ·cases h
 ·cases h
theorem Span.aW {c:Cx} {asx:List AV} {vs:List Value} {x:Span} (h:Span.of asx=some x) (hv:All2 (Qd c) asx vs):Pds c (NT.cells .span x) vs:=by
 unfold Span.of at h
 split at h
 ·split at h
  ·rename_i e0 e1
   cases h
   cases hv with | cons k0 hv=>cases hv with | cons k1 hv=>cases hv; exact .cons (Pd.bH e0 k0) ( .cons (Pd.bH e1 k1) .nil)
  ·cases h
 ·cases h
theorem EK {c:Cx} {t:NT} {asx:List AV} {vs:List Value} {x:t.den} (h:NT.of t asx=some x) (hv:All2 (Qd c) asx vs):Pds c (t.cells x) vs:=by
 cases t
 ·exact Reply.aW h hv
 ·exact Sess.aW h hv
 ·exact Opn.aW h hv
 ·exact Snap.aW h hv
 ·exact State.aW h hv
 ·exact Command.aW h hv
 ·exact SnapE.aW h hv
 ·exact Field.aW h hv
 ·exact Spec.aW h hv
 ·exact Entry.aW h hv
 ·exact Record.aW h hv
 ·exact Letter.aW h hv
 ·exact Event.aW h hv
 ·exact CallR.aW h hv
 ·exact Rest.aW h hv
 ·exact Span.aW h hv
theorem aW {c:Cx} {s:Sh} {asx:List AV} {vs:List Value} {x:den s} (h:dZ s asx=some x) (hv:All2 (Qd c) asx vs):Pds c (cellsOf s x) vs:=by
 unfold dZ at h
 split at h
 ·cases h; cases hv with | cons h1 h2=>cases h2; exact .cons (h1 rfl) .nil
 ·cases h; cases hv with | cons h1 h2=>cases h2; exact .cons (h1 rfl) .nil
 ·cases h; cases hv with | cons h1 h2=>cases h2; exact .cons (h1 rfl) .nil
 ·cases h; cases hv with | cons h1 h2=>cases h2; exact .cons (Pd.rb rfl h1) .nil
 ·cases h; cases hv with | cons h1 h2=>cases h2; exact .cons (h1 rfl) .nil
 ·cases hv with | cons h1 h2=>cases h2; exact .cons (Pd.Jj h h1) .nil
 ·cases hv with | cons h1 h2=>cases h2; exact .cons (Pd.fD h h1) .nil
 ·exact EK h hv
 ·cases h
end Go.Proofs.Ytjmbgkmkinmlkaa
namespace Go.Proofs.Ytjmbgkmkinmlkaa
open Go.RowKit
inductive RE
 | no | blk (g:Nat) | row (g cap len z:Nat) | emp
def RE.g?:RE->Option Nat
 | .blk g=>some g
 | .row g _ _ _=>some g
 | _=>none
def live (ρ:List RE) (b:Nat):Prop:=∃ (i:Nat) (r:RE),ρ[i]? = some r/\r.g? = some b
structure Gl where
 shp:TypeId->Option Sh
 B0:Nat
 Z:Nat->Prop
def cx (G:Gl) (ρ:List RE) (w:World):Cx:=⟨G.shp,G.B0,fun b=>b<w.heap.size/\¬ live ρ b/\¬ G.Z b,w⟩
def cR (ρ:List RE) (q:Nat × Nat) (v:Value):Prop:=∃ g,ρ[q.1]? = some (.blk g)/\v = .pointer (some ⟨g,q.2,none⟩)
def lI:Value->Option Int
 | .int .i64 v=>some v
 | _=>none
def getM (k:Int):List MapEntry->Option Value
 | []=>none
 | e :: r=>if lI e.key=some k then some e.val else getM k r
def V1 (c:Cx) (s:Sh) (x:den s) (v:Value):Prop:=∃ vs,Pds c (cellsOf s x) vs/\((s.ky=true/\v = .agg vs.toArray)\/(s.ky=false/\vs=[v]))
def VO (c:Cx) (s:Sh):Option Value->Option (den s)->Prop
 | none,none=>True
 | some v,some x=>V1 c s x v
 | _,_=>False
def FJ (c:Cx) (g:Nat) (s:Sh) (f:Int->Option (den s)):Prop:=
 ∃ a n,c.w.heap[g]? = some (.map a n)/\(∀ e ∈ a.toList,∃ k,e.key = .int .i64 k)/\∀ k,VO c s (getM k a.toList) (f k)
def Ev:Value->Option Str
 | .string s=>some ⟨s.data.toList⟩
 | _=>none
def ql (k:Str):List MapEntry->Option Value
 | []=>none
 | e :: r=>if Ev e.key=some k then some e.val else ql k r
def MD (l:List MapEntry) (f:Str->Option Int):Prop:=(∀ e ∈ l,∃ s,e.key = .string s)/\∀ k,ql k l=(f k).map (.int .i64)/\∀ n,f k=some n->I64 n
def XK.rd (c:Cx):XK->List Value->Value->Prop
 | .er b,us,v=>us=[]/\((b=true/\v = .nilIface)\/(b=false/\∃ t u,v = .iface t u))
 | .pl,us,v=>∃ A,v = .slice (some A) us.length us.length/\us.length<=16777216/\c.S A.block/\CellsAt c.w A us
 | .pa,us,v=>∃ A,v = .pointer (some A)/\c.S A.block/\CellsAt c.w A us
 | .fm f,us,v=>us=[]/\∃ g a n,v = .map (some g)/\c.S g/\c.w.heap[g]? = some (.map a n)/\MD a.toList f
 | .bp,us,v=>us.length=1/\(v = .pointer none\/us=[v])
 | .ff s xs,us,v=>us=[]/\Pd c.low (.fz s xs) v
 | .mx b xs,us,v=>us=[]/\Pd (bif b then c else c.low) (.fz .int xs) v
theorem XK.Ge {c c':Cx} {s:Sh} {xs:List (den s)} {us:List Value} {v:Value} (h:XK.rd c (.ff s xs) us v) (hc:c.low.le c'.low):XK.rd c' (.ff s xs) us v:=⟨h.1,h.2.carry hc⟩
theorem XK.rd.le {c c':Cx} {k:XK} {us:List Value} {v:Value} (h:k.rd c us v) (hc:c.le c'):k.rd c' us v:=by
 cases k
 case er=>exact h
 case pl=>obtain ⟨A,h1,h0,h2,h3⟩:=h; exact ⟨A,h1,h0,(hc.S _ h2).1,h3.keep (hc.S _ h2).2⟩
 case pa=>obtain ⟨A,h1,h2,h3⟩:=h; exact ⟨A,h1,(hc.S _ h2).1,h3.keep (hc.S _ h2).2⟩
 case fm=>obtain ⟨h0,g,a,n,h1,h2,h3,h4⟩:=h; exact ⟨h0,g,a,n,h1,(hc.S _ h2).1,((hc.S _ h2).2).trans h3,h4⟩
 case bp=>exact h
 case ff=>exact XK.Ge h hc.low
 case mx nw xs=>
  cases nw
  ·exact ⟨h.1,h.2.carry hc.low⟩
  ·exact ⟨h.1,h.2.carry hc⟩
theorem XK.rd.one {c:Cx} {ρ:List RE} {k:XK} {cs:List (Nat × Nat)} {us:List Value} {v:Value} (h:k.rd c us v) (hc:All2 (cR ρ) cs us):v.oneCell' = true:=by
 cases k
 case er=>obtain ⟨_,⟨_,rfl⟩ | ⟨_,_,_,rfl⟩⟩:=h <;> rfl
 case pl=>obtain ⟨A,rfl,_⟩:=h; rfl
 case pa=>obtain ⟨A,rfl,_⟩:=h; rfl
 case fm=>obtain ⟨_,g,a,n,rfl,_⟩:=h; rfl
 case ff=>obtain ⟨_,h⟩:=h; cases h; rfl
 case mx=>obtain ⟨_,h⟩:=h; cases h; rfl
 case bp=>
  obtain ⟨_,rfl | rfl⟩:=h
  ·rfl
  ·cases hc with | cons h1 _=>obtain ⟨_,_,rfl⟩:=h1; rfl
def Rd (c:Cx) (ρ:List RE):AV->Value->Prop
 | .mq id,v=>∃ g,ρ[id]? = some (.blk g)/\v = .map (some g)
 | .own id,v=>(∃ g cap len z,ρ[id]? = some (.row g cap len z)/\v = .slice (some ⟨g,0,none⟩) len cap)\/(ρ[id]? = some .emp/\∃ a,v = .slice a 0 0)
 | .sub id off len,v=>(∃ g cap L z,ρ[id]? = some (.row g cap L z)/\off+len<=L/\v = .slice (some ⟨g,off*z,none⟩) len (cap - off))\/(ρ[id]? = some .emp/\off=0/\len=0/\∃ a,v = .slice a 0 0)
 | .ptr id o,v=>cR ρ (id,o) v
 | .np,v=>v = .pointer none
 | .elp id i o,v=>∃ g cap len z,ρ[id]? = some (.row g cap len z)/\i<len/\v = .pointer (some ⟨g,i*z+o,none⟩)
 | .fe s x o,v=>∃ A cells,c.S A.block/\CellsAt c.w A cells/\Pds c (cellsOf s x) cells/\v = .pointer (some (A.add o))
 | .fn f b cs,v=>∃ bs us,All2 (cR ρ) b bs/\All2 (cR ρ) cs us/\v = .func (.func f) bs.toArray us.toArray
 | .nf,v=>v = .nilFunc
 | .yl l,v=>v = .func (.yield l) #[] #[]
 | .xx k cs,v=>∃ us,All2 (cR ρ) cs us/\k.rd c us v
 | .dead,v=>v.oneCell' = true
 | a,v=>Pd c a v
def bX (c:Cx) (ρ:List RE):TV1->Value->Prop
 | .c a,v=>Rd c ρ a v
 | .agg l,v=>∃ vs,v = .agg vs.toArray/\All2 (Rd c ρ) l vs
def Rt (c:Cx) (ρ:List RE):TV->Value->Prop
 | .one t,v=>bX c ρ t v
 | .tup l,v=>∃ vs,v = .tuple vs.toArray/\All2 (bX c ρ) l vs
 | .un,_=>True
def cK (c:Cx) (ρ:List RE) (fr:AFr) (F:Fr):Prop:=All2 (fun p q=>p.1=q.1/\Rt c ρ p.2 q.2) fr F
def lookF (k:Int):List (Int × AV)->Option AV
 | []=>none
 | (j,a) :: r=>if k=j then some a else lookF k r
def FO (c:Cx) (ρ:List RE):Option Value->Option AV->Prop
 | none,none=>True
 | some v,some a=>Rd c ρ a v
 | _,_=>False
def Ft (c:Cx) (ρ:List RE) (g:Nat) (l:List (Int × AV)):Prop:=
 ∃ a n,c.w.heap[g]? = some (.map a n)/\(∀ e ∈ a.toList,∃ k,e.key = .int .i64 k)/\∀ k,FO c ρ (getM k a.toList) (lookF k l)
def OR (c:Cx) (ρ:List RE):AO->RE->Prop
 | .gone,r=>r = .no
 | .mapo s f,r=>∃ g,r = .blk g/\FJ c g s f
 | .mapf l,r=>∃ g,r = .blk g/\Ft c ρ g l
 | .loc,_=>True
 | .arr t s n xs,r=>∃ g vs,r = .blk g/\c.w.heap[g]? = some (.cells (List.toArray vs) t (0,0))/\Pds c (xs.flatMap (cellsOf s)) vs/\xs.length=n/\s.size=1
 | .box t cs,r=>∃ g vs,r = .blk g/\c.w.heap[g]? = some (.cells (List.toArray vs) t (0,0))/\All2 (Rd c ρ) cs vs
 | .row t s xs,r=>c.shp t=some s/\xs.length*s.bytes<=140737488355328/\((r = .emp/\xs=[])\/∃ g cap cells sp,r = .row g cap xs.length s.size/\c.w.heap[g]? = some (.cells (List.toArray (cells++sp)) t (0,0)) /\
   Pds c (xs.flatMap (cellsOf s)) cells/\(cells++sp).length=cap*s.size/\xs.length<=cap/\cap<=maxLen)
def Mk (c:Cx) (q:Nat × Bool):Prop:=c.S q.1/\∃ v t fr,c.w.heap[q.1]? = some (.cells #[v] t fr)/\match q.2 with
 | true=>∃ m,v = .int .i64 m
 | false=>∃ tp p,v = .iface tp p
def TabsOK (c:Cx):Prop:=(∀ q ∈ JJ,Mk c q)/\∀ e ∈ DJ,c.S e.g/\e.g<c.B0/\e.xs.length<=maxLen/\e.xs.length*e.s.bytes<=140737488355328/\∃ cells t fr,c.w.heap[e.g]? = some (.cells (List.toArray cells) t fr)/\Pds c (e.xs.flatMap (cellsOf e.s)) cells
theorem TabsOK.carry {c c':Cx} (h:TabsOK c) (k:c.le c'):TabsOK c':=by
 refine ⟨fun q hq=>?_,fun e he=>?_⟩
 ·obtain ⟨h1,v,t,fr,h2,h3⟩:=h.1 q hq
  exact ⟨(k.S _ h1).1,v,t,fr,((k.S _ h1).2).trans h2,h3⟩
 obtain ⟨h1,h2,h3,h4,cells,t,fr,h5,h6⟩:=h.2 e he
 exact ⟨(k.S _ h1).1,by rw [k.B0]; exact h2,h3,h4,cells,t,fr,((k.S _ h1).2).trans h5,h6.carry k⟩
structure Rep (G:Gl) (ρ:List RE) (H:AH) (w:World):Prop where
 obj:All2 (OR (cx G ρ w) ρ) H ρ
 inj:∀ (i j:Nat) (r r':RE) (g:Nat),ρ[i]? = some r->ρ[j]? = some r' -> r.g? = some g->r'.g? = some g->i=j
 bnd:∀ (i:Nat) (r:RE) (g:Nat),ρ[i]? = some r->r.g? = some g->G.B0<=g/\g<w.heap.size/\¬ G.Z g
 z:∀ b,G.Z b->b<w.heap.size
 b0:G.B0<=w.heap.size
 tb:TabsOK (cx G ρ w)
structure Ext (ρ0:List RE) (w0:World) (ρ:List RE) (w:World):Prop where
 os:w.os=w0.os
 tape:w.tape=w0.tape
 output:w.output=w0.output
 size:w0.heap.size<=w.heap.size
 old:∀ b,b<w0.heap.size->¬ live ρ0 b->¬ live ρ b/\w.heap[b]? = w0.heap[b]?
theorem Ext.refl (ρ:List RE) (w:World):Ext ρ w ρ w:=⟨rfl,rfl,rfl,Nat.le_refl _,fun _ _ h=>⟨h,rfl⟩⟩
theorem Ext.trans {ρ0 ρ1 ρ2:List RE} {a b c:World} (h:Ext ρ0 a ρ1 b) (k:Ext ρ1 b ρ2 c):Ext ρ0 a ρ2 c:=
 ⟨k.os.trans h.os,k.tape.trans h.tape,k.output.trans h.output,Nat.le_trans h.size k.size,fun x hx hl=>by
  obtain ⟨h1,h2⟩:=h.old x hx hl
  obtain ⟨h3,h4⟩:=k.old x (Nat.lt_of_lt_of_le hx h.size) h1
  exact ⟨h3,h4.trans h2⟩⟩
theorem Rep.lo {G:Gl} {ρ:List RE} {H:AH} {w:World} (h:Rep G ρ H w) (b:Nat) (hb:b<G.B0):b<w.heap.size/\¬ live ρ b:=
 ⟨Nat.lt_of_lt_of_le hb h.b0,fun ⟨i,r,h1,h2⟩=>by have:=(h.bnd i r b h1 h2).1; omega⟩
theorem Ext.le {G:Gl} {ρ ρ':List RE} {w w':World} (h:Ext ρ w ρ' w') (hl:∀ b,b<G.B0->b<w.heap.size/\¬ live ρ b):(cx G ρ w).le (cx G ρ' w'):=
 ⟨rfl,rfl,fun b hb=>⟨⟨Nat.lt_of_lt_of_le hb.1 h.size,(h.old b hb.1 hb.2.1).1,hb.2.2⟩,(h.old b hb.1 hb.2.1).2⟩,fun b hb hs=>(h.old b hs (hl b hb).2).2⟩
theorem Kp.le {G:Gl} {ρ:List RE} {w w':World} (k:Kp [] w w'):(cx G ρ w).le (cx G ρ w'):=
 ⟨rfl,rfl,fun b hb=>⟨⟨Nat.lt_of_lt_of_le hb.1 k.size,hb.2⟩,k.block b hb.1 (by simp)⟩,fun b _ hs=>k.block b hs (by simp)⟩
theorem Ext.kp {ρ:List RE} {w w':World} (k:Kp [] w w'):Ext ρ w ρ w':=⟨k.os,k.tape,k.output,k.size,fun b hb h=>⟨h,k.block b hb (by simp)⟩⟩
theorem eG {c:Cx} {ρ:List RE} {a:AV} {v:Value} (h:a.plain=true):Rd c ρ a v↔Pd c a v:=by cases a <;> first | exact .rfl | cases h
theorem ga {c:Cx} {ρ:List RE} {a:AV} {v:Value} (h:Pd c a v):Rd c ρ a v:=by cases h <;> first | exact .int ‹_› | exact .u8 | exact .u64 ‹_› | exact .bool | exact .str ‹_› | exact .em ‹_› | exact .li ‹_› ‹_› ‹_› ‹_› ‹_› | exact .fz ‹_› ‹_› ‹_› ‹_› ‹_›
theorem dY {c:Cx} {ρ:List RE}:∀ {asx:List AV} {vs:List Value},Pds c asx vs->All2 (Rd c ρ) asx vs
 | [],_,h=>by cases h; exact .nil
 | _ :: _,_,h=>by cases h with | cons h1 h2=>exact .cons (ga h1) (dY h2)
theorem fY {c:Cx} {ρ:List RE}:∀ {asx:List AV} {vs:List Value},(∀ a ∈ asx,a.plain=true)->All2 (Rd c ρ) asx vs->Pds c asx vs
 | [],_,_,h=>by cases h; exact .nil
 | _ :: _,_,hp,h=>by cases h with | cons h1 h2=>exact .cons ((eG (hp _ (by simp))).1 h1) (fY (fun a ha=>hp a (by simp [ha])) h2)
theorem Rd.one {c:Cx} {ρ:List RE} {a:AV} {v:Value} (h:Rd c ρ a v):v.oneCell' = true:=by
 cases a
 case own=>rcases h with ⟨_,_,_,_,_,rfl⟩ | ⟨_,_,rfl⟩ <;> rfl
 case sub=>rcases h with ⟨_,_,_,_,_,_,rfl⟩ | ⟨_,_,_,_,rfl⟩ <;> rfl
 case ptr=>obtain ⟨_,_,rfl⟩:=h; rfl
 case np=>cases h; rfl
 case elp=>obtain ⟨_,_,_,_,_,_,rfl⟩:=h; rfl
 case fe=>obtain ⟨_,_,_,_,_,rfl⟩:=h; rfl
 case fn=>obtain ⟨_,_,_,_,rfl⟩:=h; rfl
 case nf=>cases h; rfl
 case yl=>cases h; rfl
 case xx=>obtain ⟨us,h1,h2⟩:=h; exact h2.one h1
 case mq=>obtain ⟨_,_,rfl⟩:=h; rfl
 case dead=>exact h
 all_goals exact Pd.one h
def je (ρ ρ':List RE):Prop:=∀ (i:Nat) (r:RE),ρ[i]? = some r->r ≠ .no->ρ'[i]? = some r
theorem je.refl (ρ:List RE):je ρ ρ:=fun _ _ h _=>h
theorem dH (ρ σ:List RE):je ρ (ρ++σ):=fun i r h _=>by
 rw [List.getElem?_append_left (List.getElem?_eq_some_iff.1 h).1]; exact h
theorem cR.carry {ρ ρ':List RE} {q:Nat × Nat} {v:Value} (h:cR ρ q v) (k:je ρ ρ'):cR ρ' q v:=by
 obtain ⟨g,h1,h2⟩:=h
 exact ⟨g,k _ _ h1 (by simp),h2⟩
theorem Rd.carry {c c':Cx} {ρ ρ':List RE} {a:AV} {v:Value} (h:Rd c ρ a v) (hc:c.le c') (k:je ρ ρ'):Rd c' ρ' a v:=by
 cases a
 case own=>
  rcases h with ⟨g,cap,len,z,h,e⟩ | ⟨h,e⟩
  ·exact .inl ⟨g,cap,len,z,k _ _ h (by simp),e⟩
  ·exact .inr ⟨k _ _ h (by simp),e⟩
 case sub=>
  rcases h with ⟨g,cap,len,z,h,e⟩ | ⟨h,e⟩
  ·exact .inl ⟨g,cap,len,z,k _ _ h (by simp),e⟩
  ·exact .inr ⟨k _ _ h (by simp),e⟩
 case ptr=>exact cR.carry h k
 case np=>exact h
 case elp=>
  obtain ⟨g,cap,len,z,h,e⟩:=h
  exact ⟨g,cap,len,z,k _ _ h (by simp),e⟩
 case fe=>
  obtain ⟨A,cells,h1,h2,h3,e⟩:=h
  exact ⟨A,cells,(hc.S _ h1).1,h2.keep (hc.S _ h1).2,h3.carry hc,e⟩
 case fn=>
  obtain ⟨bs,us,h1,h2,e⟩:=h
  exact ⟨bs,us,h1.imp fun _ _ h=>h.carry k,h2.imp fun _ _ h=>h.carry k,e⟩
 case nf=>exact h
 case yl=>exact h
 case xx=>
  obtain ⟨us,h1,h2⟩:=h
  exact ⟨us,h1.imp fun _ _ h=>h.carry k,h2.le hc⟩
 case mq=>
  obtain ⟨g,h1,e⟩:=h
  exact ⟨g,k _ _ h1 (by simp),e⟩
 case dead=>exact h
 all_goals exact Pd.carry h hc
theorem bX.carry {c c':Cx} {ρ ρ':List RE} {a:TV1} {v:Value} (h:bX c ρ a v) (hc:c.le c') (k:je ρ ρ'):bX c' ρ' a v:=by
 cases a with
 | c a=>exact Rd.carry h hc k
 | agg l=>obtain ⟨vs,rfl,h⟩:=h; exact ⟨vs,rfl,h.imp fun _ _ h=>h.carry hc k⟩
theorem Rt.carry {c c':Cx} {ρ ρ':List RE} {a:TV} {v:Value} (h:Rt c ρ a v) (hc:c.le c') (k:je ρ ρ'):Rt c' ρ' a v:=by
 cases a with
 | one a=>exact bX.carry h hc k
 | tup l=>obtain ⟨vs,rfl,h⟩:=h; exact ⟨vs,rfl,h.imp fun _ _ h=>h.carry hc k⟩
 | un=>trivial
theorem cK.carry {c c':Cx} {ρ ρ':List RE} {fr:AFr} {F:Fr} (h:cK c ρ fr F) (hc:c.le c') (k:je ρ ρ'):cK c' ρ' fr F:=h.imp fun _ _ h=>⟨h.1,h.2.carry hc k⟩
theorem V1.carry {c c':Cx} {s:Sh} {x:den s} {v:Value} (h:V1 c s x v) (hc:c.le c'):V1 c' s x v:=by
 obtain ⟨vs,h1,h2⟩:=h
 exact ⟨vs,h1.carry hc,h2⟩
theorem FJ.carry {c c':Cx} {g:Nat} {s:Sh} {f:Int->Option (den s)} (h:FJ c g s f) (hc:c.le c') (hb:c'.w.heap[g]? = c.w.heap[g]?):FJ c' g s f:=by
 obtain ⟨a,n,h1,h2,h3⟩:=h
 refine ⟨a,n,hb.trans h1,h2,fun k=>?_⟩
 have:=h3 k
 cases hg:getM k a.toList <;> cases hf:f k <;> rw [hg,hf] at this
 ·trivial
 ·exact this
 ·exact this
 ·exact V1.carry this hc
theorem FO.map {c c':Cx} {ρ ρ':List RE} {g:AV->AV} {v:Option Value} {l:List (Int × AV)} {k:Int} (h:FO c ρ v (lookF k l)) (hg:∀ q ∈ l,∀ v,Rd c ρ q.2 v->Rd c' ρ' (g q.2) v) (l':List (Int × AV)) (hl:l' = l.map fun q=>(q.1,g q.2)):FO c' ρ' v (lookF k l'):=by
 subst hl
 induction l with
 | nil=>exact (by cases v <;> first | trivial | exact h)
 | cons q l ih=>
  obtain ⟨j,a⟩:=q
  simp only [lookF,List.map_cons] at h ⊢
  by_cases hk:k=j
  ·rw [if_pos hk] at h ⊢
   cases v with
   | none=>exact h
   | some v=>exact hg (j,a) (by simp) v h
  ·rw [if_neg hk] at h ⊢
   exact ih h fun q hq=>hg q (by simp [hq])
theorem Ft.map {c c':Cx} {ρ ρ':List RE} {g0:AV->AV} {g:Nat} {l l':List (Int × AV)} (h:Ft c ρ g l) (hl:l' = l.map fun q=>(q.1,g0 q.2)) (hg:∀ q ∈ l,∀ v,Rd c ρ q.2 v->Rd c' ρ' (g0 q.2) v) (hb:c'.w.heap[g]? = c.w.heap[g]?):Ft c' ρ' g l':=by
 obtain ⟨a,n,h1,h2,h3⟩:=h
 exact ⟨a,n,hb.trans h1,h2,fun k=>(h3 k).map hg l' hl⟩
theorem OR.carry {c c':Cx} {ρ ρ':List RE} {o:AO} {r:RE} (h:OR c ρ o r) (hc:c.le c') (k:je ρ ρ') (hb:∀ g,r.g? = some g->c'.w.heap[g]? = c.w.heap[g]?):OR c' ρ' o r:=by
 cases o with
 | gone=>exact h
 | mapo s f=>
  obtain ⟨g,rfl,h⟩:=h
  exact ⟨g,rfl,h.carry hc (hb g rfl)⟩
 | loc=>trivial
 | mapf l=>
  obtain ⟨g,rfl,h⟩:=h
  exact ⟨g,rfl,h.map (g0:=fun a=>a) (by simp) (fun _ _ _ h=>h.carry hc k) (hb g rfl)⟩
 | arr t s n xs=>
  obtain ⟨g,vs,rfl,h1,h2,h3⟩:=h
  exact ⟨g,vs,rfl,(hb g rfl).trans h1,h2.carry hc,h3⟩
 | box t cs=>
  obtain ⟨g,vs,rfl,h1,h2⟩:=h
  exact ⟨g,vs,rfl,(hb g rfl).trans h1,h2.imp fun _ _ h=>h.carry hc k⟩
 | row t s xs=>
  obtain ⟨h1,h2,h3⟩:=h
  refine ⟨hc.shp ▸ h1,h2,h3.imp id ?_⟩
  rintro ⟨g,cap,cells,sp,rfl,h4,h5,h6⟩
  exact ⟨g,cap,cells,sp,rfl,(hb g rfl).trans h4,h5.carry hc,h6⟩
theorem db {α β:Type} {R:α->β->Prop} {asx:List α} {bs:List β} (h:All2 R asx bs):∀ (i:Nat) (a:α),asx[i]? = some a->∃ b,bs[i]? = some b/\R a b:=by
 induction h with
 | nil=>intro i b hb; simp at hb
 | cons h _ ih=>
  intro i b hb
  cases i with
  | zero=>simp at hb; subst hb; exact ⟨_,rfl,h⟩
  | succ i=>simpa using ih i b (by simpa using hb)
theorem cd {α β:Type} {R:α->β->Prop}:∀ {asx:List α} {bs:List β},asx.length=bs.length->(∀ (i:Nat) (a:α) (b:β),asx[i]? = some a->bs[i]? = some b->R a b)->All2 R asx bs
 | [],[],_,_=>.nil
 | [],_ :: _,h,_=>by cases h
 | _ :: _,[],h,_=>by cases h
 | a :: asx,b :: bs,h,k=>.cons (k 0 a b rfl rfl) (cd (by simpa using h) fun i x y hx hy=>k (i+1) x y (by simpa using hx) (by simpa using hy))
theorem bG {H:AH} {i:Nat} {o:AO} (h:getO H i=o) (hne:o ≠ .gone):H[i]? = some o:=by
 unfold getO at h
 rw [List.getD_eq_getElem?_getD] at h
 cases hi:H[i]? with
 | none=>rw [hi] at h; exact absurd h.symm hne
 | some x=>rw [hi] at h; simp at h; rw [h]
section
variable {G:Gl} {ρ:List RE} {H:AH} {w w':World}
theorem Rep.at_ (h:Rep G ρ H w) {i:Nat} {o:AO} (ho:H[i]? = some o):∃ r,ρ[i]? = some r/\OR (cx G ρ w) ρ o r:=db h.obj i o ho
theorem Rep.kp (h:Rep G ρ H w) (k:Kp [] w w'):Rep G ρ H w':=by
 refine ⟨cd h.obj.length fun i o r ho hr=>?_,h.inj,fun i r g h1 h2=>?_,fun b hb=>Nat.lt_of_lt_of_le (h.z b hb) k.size,Nat.le_trans h.b0 k.size,h.tb.carry ((Ext.kp k).le h.lo)⟩
 ·obtain ⟨r',hr',hor⟩:=h.at_ ho
  rw [hr] at hr'; cases hr'
  exact hor.carry ((Ext.kp k).le h.lo) (je.refl _) fun g hg=>k.block g (h.bnd i r g hr hg).2.1 (by simp)
 ·have:=h.bnd i r g h1 h2
  exact ⟨this.1,Nat.lt_of_lt_of_le this.2.1 k.size,this.2.2⟩
theorem zL {r:RE} {b:Nat}:live (ρ++[r]) b↔live ρ b\/r.g? = some b:=by
 constructor
 ·rintro ⟨i,r',h1,h2⟩
  by_cases hi:i<ρ.length
  ·rw [List.getElem?_append_left hi] at h1
   exact .inl ⟨i,r',h1,h2⟩
  ·rw [List.getElem?_append_right (by omega)] at h1
   have:i - ρ.length=0:=by
    have:=(List.getElem?_eq_some_iff.1 h1).1
    simp at this; omega
   rw [this] at h1
   simp at h1; subst h1
   exact .inr h2
 ·rintro (⟨i,r',h1,h2⟩ | h)
  ·exact ⟨i,r',by rw [List.getElem?_append_left (List.getElem?_eq_some_iff.1 h1).1]; exact h1,h2⟩
  ·exact ⟨ρ.length,r,by simp,h⟩
theorem Ext.app {r:RE} (k:Kp [] w w') (hr:∀ g',r.g? = some g' -> w.heap.size<=g'):Ext ρ w (ρ++[r]) w':=
 ⟨k.os,k.tape,k.output,k.size,fun b hb h=>⟨fun hl=>(zL.1 hl).elim h fun h2=>by have:=hr b h2; omega,k.block b hb (by simp)⟩⟩
theorem Rep.app (h:Rep G ρ H w) (k:Kp [] w w') {r:RE} {o:AO} (hr:∀ g,r.g? = some g->w.heap.size<=g/\g<w'.heap.size) (ho:OR (cx G (ρ++[r]) w') (ρ++[r]) o r):Rep G (ρ++[r]) (H++[o]) w':=by
 have hx:Ext ρ w (ρ++[r]) w':=Ext.app k fun g hg=>(hr g hg).1
 refine ⟨?_,?_,?_,fun b hb=>Nat.lt_of_lt_of_le (h.z b hb) k.size,Nat.le_trans h.b0 k.size,h.tb.carry (hx.le h.lo)⟩
 ·refine All2.append (cd h.obj.length fun i o r' ho hr'=>?_) (.cons ho .nil)
  obtain ⟨r'',hr'',hor⟩:=h.at_ ho
  rw [hr'] at hr''; cases hr''
  exact hor.carry (hx.le h.lo) (dH _ _) fun g hg=>k.block g (h.bnd i r' g hr' hg).2.1 (by simp)
 ·intro i j r1 r2 g h1 h2 h3 h4
  have key:∀ i r',(ρ++[r])[i]? = some r' -> r'.g? = some g->(ρ[i]? = some r' /\ g<w.heap.size)\/(i=ρ.length/\w.heap.size<=g):=fun i r' h1 h2=>by
   by_cases hi:i<ρ.length
   ·rw [List.getElem?_append_left hi] at h1
    exact .inl ⟨h1,(h.bnd i r' g h1 h2).2.1⟩
   ·rw [List.getElem?_append_right (by omega)] at h1
    have:i - ρ.length=0:=by
     have:=(List.getElem?_eq_some_iff.1 h1).1
     simp at this; omega
    rw [this] at h1
    simp at h1; subst h1
    exact .inr ⟨by omega,(hr g h2).1⟩
  rcases key i r1 h1 h3 with ⟨a,b⟩ | ⟨a,b⟩ <;> rcases key j r2 h2 h4 with ⟨a',b'⟩ | ⟨a',b'⟩
  ·exact h.inj i j r1 r2 g a a' h3 h4
  ·omega
  ·omega
  ·omega
 ·intro i r' g h1 h2
  by_cases hi:i<ρ.length
  ·rw [List.getElem?_append_left hi] at h1
   have:=h.bnd i r' g h1 h2
   exact ⟨this.1,Nat.lt_of_lt_of_le this.2.1 k.size,this.2.2⟩
  ·rw [List.getElem?_append_right (by omega)] at h1
   have:i - ρ.length=0:=by
    have:=(List.getElem?_eq_some_iff.1 h1).1
    simp at this; omega
   rw [this] at h1
   simp at h1; subst h1
   exact ⟨Nat.le_trans h.b0 (hr g h2).1,(hr g h2).2,fun hz=>by have:=h.z g hz; have:=(hr g h2).1; omega⟩
theorem Rep.put (h:Rep G ρ H w) {i g:Nat} {r:RE} {o o':AO} (hi:H[i]? = some o) (hr:ρ[i]? = some r) (hg:r.g? = some g) (k:Kp [g] w w') (ho:OR (cx G ρ w') ρ o' r):Rep G ρ (H.set i o') w' /\ Ext ρ w ρ w':=by
 have hx:Ext ρ w ρ w':=⟨k.os,k.tape,k.output,k.size,fun b hb hl=>⟨hl,k.block b hb (by
  simp only [List.mem_singleton]
  rintro rfl
  exact hl ⟨i,r,hr,hg⟩)⟩⟩
 refine ⟨⟨cd (by rw [List.length_set]; exact h.obj.length) fun j x r' hx' hr'=>?_,h.inj,fun j r' g' h1 h2=>?_,fun b hb=>Nat.lt_of_lt_of_le (h.z b hb) k.size,Nat.le_trans h.b0 k.size,h.tb.carry (hx.le h.lo)⟩,hx⟩
 ·by_cases hij:i=j
  ·subst hij
   rw [List.getElem?_set_self (List.getElem?_eq_some_iff.1 hi).1] at hx'
   cases hx'
   rw [hr] at hr'; cases hr'
   exact ho
  ·rw [List.getElem?_set_ne hij] at hx'
   obtain ⟨r'',hr'',hor⟩:=h.at_ hx'
   rw [hr'] at hr''; cases hr''
   refine hor.carry (hx.le h.lo) (je.refl _) fun g' hg'=>k.block g' (h.bnd j r' g' hr' hg').2.1 ?_
   simp only [List.mem_singleton]
   rintro rfl
   exact hij (h.inj i j r r' g' hr hr' hg hg')
 ·have:=h.bnd j r' g' h1 h2
  exact ⟨this.1,Nat.lt_of_lt_of_le this.2.1 k.size,this.2.2⟩
end
def zB:AV->Value->Bool
 | .int n,.int .i64 m=>decide (n=m) && decide (n=0)
 | .u8 b,.int .u8 m=>decide (m=0) && decide (b=0)
 | .u64 n,.int .u64 m=>decide (m=0) && decide (n=0)
 | .bool e,.bool false=>!e.val
 | .str ⟨[]⟩,.string s=>s.data.toList.isEmpty
 | .em true,.slice none 0 0=>true
 | .fz _ xs,.slice none 0 0=>xs.isEmpty
 | .li _ xs,.slice none 0 0=>xs.isEmpty
 | .np,.pointer none=>true
 | .nf,.nilFunc=>true
 | .dead,v=>v.oneCell'
 | .xx (.er true) [],.nilIface=>true
 | _,_=>false
def re:List AV->List Value->Bool
 | [],[]=>true
 | a :: r,v :: vs=>zB a v && re r vs
 | _,_=>false
def EH (P:Program) (g:TypeId->Option (List LK)):List Go.Field->Nat->Option (List LK)
 | [],_=>some []
 | f :: r,o=>match g f.type with
  | some ks=>match decide (f.offset=o) && decide (P.cellsOf f.type=ks.length) && (f.name != "_"),EH P g r (o+ks.length) with
   | true,some l=>some (ks++l)
   | _,_=>none
  | none=>none
def Df (P:Program):Nat->TypeId->Option (List LK)
 | 0,_=>none
 | d+1,t=>match P.underlying t with
  | some (.int k)=>some [.i k]
  | some .bool=>some [.b]
  | some .string=>some [.s]
  | some (.struct F)=>match EH P (Df P d) F.toList 0 with
   | some ks=>match decide (P.cellsOf t=ks.length) with
    | true=>some ks
    | false=>none
   | none=>none
  | _=>none
def Mg (P:Program) (t:TypeId) (ks:List LK):Bool:=decide (Df P 8 t=some ks) && P.keyTypeAt 8 t && !P.eqGuardType P.depth t
def Ou (P:Program) (t:TypeId) (z:List AV):Prop:=∀ ks,Gm z=some ks->Mg P t ks=true
def KK (P:Program) (shp:TypeId->Option Sh) (t:TypeId) (ti:TI):Prop:=
 ((P.info? t).map (·.size)=some ti.size/\∃ zs:List Value,((P.info? t).bind (·.zero)).map Value.cells=some zs.toArray/\re ti.zero zs=true) /\
 match ti.k with
 | .i k=>P.underlying t=some (.int k)
 | .bool=>P.underlying t=some .bool
 | .str=>P.underlying t=some .string
 | .sl e so=>P.underlying t=some (.slice e)/\∀ s,so=some s->shp e=some s/\(∃ z:List Value,(P.info? e).map (fun i=>(i.zero.map Value.cells,i.size,i.bytes))=some (some z.toArray,s.size,s.bytes)/\re (cellsOf s (aG s)) z=true)/\(s = .u8->P.underlying e=some (.int .u8)/\(P.info? e).bind (·.zero)=some (.int .u8 0))
 | .st fs=>∃ F:Array Go.Field,P.underlying t=some (.struct F)/\F.toList.mapM (fun f=>(P.info? f.type).map fun i=>(f.offset,i.size))=some fs/\(∀ q ∈ fs,0<q.2)/\Ou P t ti.zero
 | .ar n e=>P.underlying t=some (.array n e)
 | .ifc=>P.underlying t=some (.interface (P.methodsAt t))
 | .ms k e=>P.underlying t=some (.map k e)/\P.underlying k=some .string/\(P.info? e).bind (·.zero)=some (.int .i64 0)
 | .mp k e so=>P.underlying t=some (.map k e)/\P.underlying k=some (.int .i64)/\(∀ s,so=some s->∃ z zs,(P.info? e).bind (·.zero)=some z/\re (cellsOf s (aG s)) zs=true/\((s.ky=true/\z = .agg zs.toArray)\/(s.ky=false/\zs=[z])))/\(so=none->(P.info? e).bind (·.zero)=some .nilFunc)
 | _=>∃ d,P.underlying t=some d/\iP d=false
def bn (P:Program) (shp:TypeId->Option Sh) (T:List (Nat × TI)):Prop:=∀ t ti,bq T t=some ti->KK P shp t ti
section
variable {c:Cx} {ρ:List RE}
theorem Ak {a:UInt8} {b:Nat}:Pd c (.u8 (UInt8.ofNat (a.toNat / 2 ^ b))) (.int .u8 ((a.toNat / 2 ^ b:Nat):Int)):=by
 have e:a.toNat / 2 ^ b=(UInt8.ofNat (a.toNat / 2 ^ b)).toNat:=by
  rw [UInt8.toNat_ofNat',Nat.mod_eq_of_lt (Nat.lt_of_le_of_lt (Nat.div_le_self _ _) a.toNat_lt)]
 rw [show ((a.toNat / 2 ^ b:Nat):Int)=((UInt8.ofNat (a.toNat / 2 ^ b)).toNat:Int) from congrArg _ e]
 exact Pd.u8
theorem Gu {a:AV} {v:Value} (h:zB a v=true):Rd c ρ a v:=by
 unfold zB at h
 split at h
 ·simp only [Bool.and_eq_true,decide_eq_true_eq] at h
  obtain ⟨rfl,rfl⟩:=h
  exact Pd.int ⟨by omega,by omega⟩
 ·simp only [Bool.and_eq_true,decide_eq_true_eq] at h
  obtain ⟨rfl,rfl⟩:=h
  exact Pd.u8
 ·simp only [Bool.and_eq_true,decide_eq_true_eq] at h
  obtain ⟨rfl,rfl⟩:=h
  exact Pd.u64 bt
 ·rename_i e
  have:e.val=false:=by simpa using h
  rw [<- this]
  exact Pd.bool
 ·rename_i s
  have:s=⟨#[]⟩:=by
   have h1:s.data.toList=[]:=by simpa using h
   have h2:s.data = #[]:=by
    apply Array.ext'
    simpa using h1
   cases s; simp_all
  subst this
  exact Pd.str (s:=⟨[]⟩) (by simp)
 ·exact Pd.em rfl
 ·rename_i s xs
  have:xs=[]:=by simpa using h
  subst this
  exact Pd.fz (xs:=([]:List (den s))) (cells:=[]) (Nat.le_refl _) (by simp [maxLen]) (by simp) .nil (.inl rfl)
 ·rename_i b xs
  have:xs=[]:=by simpa using h
  subst this
  exact Pd.li (nw:=b) (xs:=[]) (k:=0) (Nat.le_refl _) (Nat.zero_le _) (by simp) (by simp) (.inl rfl)
 ·rfl
 ·rfl
 ·exact h
 ·exact ⟨[],.nil,rfl,.inl ⟨rfl,rfl⟩⟩
 ·cases h
theorem gT:∀ {asx:List AV} {vs:List Value},re asx vs=true->All2 (Rd c ρ) asx vs
 | [],[],_=>.nil
 | [],_ :: _,h=>by simp [re] at h
 | _ :: _,[],h=>by simp [re] at h
 | a :: r,v :: vs,h=>by
  simp only [re,Bool.and_eq_true] at h
  exact .cons (Gu h.1) (gT h.2)
theorem IH {a:AV} {v:Value} (h:Nq v=some a):Rd c ρ a v:=by
 unfold Nq at h
 split at h
 ·rename_i n
  cases hb:(decide (-9223372036854775808<=n) && decide (n<=9223372036854775807)) <;> rw [hb] at h
  ·cases h
  ·cases h
   simp only [Bool.and_eq_true,decide_eq_true_eq] at hb
   exact Pd.int hb
 ·rename_i n
  cases hb:(decide (0<=n) && decide (n<256)) <;> rw [hb] at h
  ·cases h
  ·cases h
   simp only [Bool.and_eq_true,decide_eq_true_eq] at hb
   have e:n=((UInt8.ofNat n.toNat).toNat:Int):=by rw [UInt8.toNat_ofNat']; omega
   show Pd c _ _
   rw [e,Int.toNat_natCast]
   have e2:UInt8.ofNat (UInt8.ofNat n.toNat).toNat=UInt8.ofNat n.toNat:=UInt8.ofNat_toNat
   rw [e2]
   exact Pd.u8
 ·rename_i n
  cases hb:(decide (0<=n) && decide (n<18446744073709551616)) <;> rw [hb] at h
  ·cases h
  ·cases h
   simp only [Bool.and_eq_true,decide_eq_true_eq] at hb
   have e:n=(n.toNat:Int):=by omega
   show Pd c _ _
   rw [e,Int.toNat_natCast]
   exact Pd.u64 bt
 ·cases h; exact Pd.bool (e:=.lit _)
 ·rename_i s
  cases hb:Nat.ble s.data.toList.length 140737488355328 <;> rw [hb] at h
  ·cases h
  ·cases h
   have:=Nat.le_of_ble_eq_true hb
   have e:=Pd.str (c:=c) (s:=⟨s.data.toList⟩) this
   have e2:(⟨s.data.toList⟩:Str).val = .string s:=by simp [Str.val]
   rw [e2] at e
   exact e
 ·cases h; exact Pd.em rfl
 ·cases h; rfl
 ·cases h; exact ⟨[],.nil,rfl,.inl ⟨rfl,rfl⟩⟩
 ·cases h; rfl
 ·cases h
theorem dL {fr:AFr} {F:Fr} (h:cK c ρ fr F) {i:Nat} {tv:TV} (hx:lookA fr i=some tv):∃ v,look F i=some v/\Rt c ρ tv v:=by
 induction h with
 | nil=>cases hx
 | @cons p q fr F hp _ ih=>
  obtain ⟨i1,t1⟩:=p
  obtain ⟨i2,v2⟩:=q
  obtain ⟨rfl,hr⟩:=hp
  unfold lookA at hx
  unfold look
  cases hb:Nat.beq i1 i <;> rw [hb] at hx <;> simp only [cond_true,cond_false] at hx ⊢
  ·exact ih hx
  ·cases hx; exact ⟨v2,rfl,hr⟩
theorem aK {fr:AFr} {F:Fr} (h:cK c ρ fr F) {x:Operand} {tv:TV} (hx:cW fr x=some tv):∃ v,ev F x=some v/\Rt c ρ tv v:=by
 cases x with
 | tmp i=>exact dL h hx
 | const v=>
  simp only [cW] at hx
  split at hx
  ·rename_i a ha
   cases hx
   exact ⟨v,rfl,IH ha⟩
  ·cases hx
 | global g=>cases hx
 | func f=>cases hx; exact ⟨_,rfl,[],[],.nil,.nil,rfl⟩
theorem qU {fr:AFr} {F:Fr} (h:cK c ρ fr F):∀ {xs:List Operand} {ts:List TV1},Co fr xs=some ts->∃ vs,Gf F xs=some vs/\All2 (bX c ρ) ts vs
 | [],ts,hx=>by cases hx; exact ⟨[],rfl,.nil⟩
 | x :: r,ts,hx=>by
  simp only [Co] at hx
  split at hx
  ·rename_i a l ha hl
   cases hx
   obtain ⟨v,h1,h2⟩:=aK h ha
   obtain ⟨vs,h3,h4⟩:=qU h hl
   exact ⟨v :: vs,by simp only [Gf,h1,h3],.cons h2 h4⟩
  ·cases hx
theorem iq {fr:AFr} {F:Fr} (h:cK c ρ fr F):∀ {xs:List (Nat × Operand)} {ts:List (Nat × TV1)},sJ fr xs=some ts->∃ vs,Bg F xs=some vs/\All2 (fun p q=>p.1=q.1/\bX c ρ p.2 q.2) ts vs
 | [],ts,hx=>by cases hx; exact ⟨[],rfl,.nil⟩
 | (i,x) :: r,ts,hx=>by
  simp only [sJ] at hx
  split at hx
  ·rename_i a l ha hl
   cases hx
   obtain ⟨v,h1,h2⟩:=aK h ha
   obtain ⟨vs,h3,h4⟩:=iq h hl
   exact ⟨(i,v) :: vs,by simp only [Bg,h1,h3],.cons ⟨rfl,h2⟩ h4⟩
  ·cases hx
end
section
variable {P:Program} {n:Nat} {fr:Fr} {w:World} {x y:Operand} {ty t t':TypeId}
theorem oU (z:Int) (h:0<=z):IntKind.u64.wrap z=((z.toNat % 18446744073709551616:Nat):Int):=by
 simp only [IntKind.wrap,IntKind.bits,IntKind.signed]
 simp
 omega
theorem R.FW {a b:Nat} (hx:ev fr x=some (.int .u64 (a:Int))) (hy:ev fr y=some (.int .u64 (b:Int))):aU P n fr w (.binOp .add t x y t') ty (.int .u64 (((a+b) % 18446744073709551616:Nat):Int)) w:=by
 have:=R.HR (P:=P) (n:=n) (w:=w) (ty:=ty) (t:=t) (t':=t') hx hy
 rw [oU _ (by omega)] at this
 rwa [show ((a:Int)+b).toNat=a+b by omega] at this
theorem R.vO {kc:IntKind} {a b:Nat} (hx:ev fr x=some (.int .u64 (a:Int))) (hy:ev fr y=some (.int kc (b:Int))) (hb:b<=64):aU P n fr w (.binOp .shl t x y t') ty (.int .u64 (((a*2 ^ b) % 18446744073709551616:Nat):Int)) w:=fun _ _ _ _ _ ha=>by
 have e:IntKind.u64.wrap ((a:Int)*2 ^ b)=(((a*2 ^ b) % 18446744073709551616:Nat):Int):=by
  rw [show (a:Int)*2 ^ b=((a*2 ^ b:Nat):Int) by simp,oU _ (Int.natCast_nonneg _),Int.toNat_natCast]
 have e2:Op.shift .shl .u64 (a:Int) kc (b:Int)=pure (.int .u64 (((a*2 ^ b) % 18446744073709551616:Nat):Int)):=by
  rw [shift_shl .u64 kc (a:Int) (b:Int) (Int.natCast_nonneg b) (show (b:Int)<=((64:Nat):Int) by omega),Int.toNat_natCast,e]
 simp only [execOp,ha.ev hx,ha.ev hy,eqGuard_shl,binOp_shl,e2]
 rfl
theorem R.IF {a b:Nat} (hx:ev fr x=some (.int .u64 (a:Int))) (hy:ev fr y=some (.int .u64 (b:Int))) (h1:a<18446744073709551616) (h2:b<18446744073709551616):aU P n fr w (.binOp .or t x y t') ty (.int .u64 ((a ||| b:Nat):Int)) w:=fun _ _ _ _ _ ha=>by
 have e:bits .or .u64 (a:Int) (b:Int)=((a ||| b:Nat):Int):=by
  have h3:∀ c:Nat,(BitVec.ofInt 64 (c:Int))=BitVec.ofNat 64 c:=fun c=>by rw [BitVec.ofInt_natCast]
  show IntKind.u64.wrap ((BitVec.ofInt 64 (a:Int) ||| BitVec.ofInt 64 (b:Int)).toNat:Int)=_
  rw [h3,h3,BitVec.toNat_or,BitVec.toNat_ofNat,BitVec.toNat_ofNat,Nat.mod_eq_of_lt (by simpa using h1),Nat.mod_eq_of_lt (by simpa using h2)]
  exact wrap_u64 (Nat.or_lt_two_pow (n:=64) h1 h2)
 simp [execOp,ha.ev hx,ha.ev hy,eqGuard_or,binOp_or,intBits_or,e]
theorem vP {a b:Int} (h:0<=b) (hI:I64 b):0<=yK a b/\yK a b<=b:=by
 obtain ⟨b,rfl⟩:=Int.eq_ofNat_of_zero_le h
 unfold yK
 refine ⟨Int.natCast_nonneg _,?_⟩
 rw [BitVec.toNat_and,BitVec.ofInt_natCast,BitVec.toNat_ofNat,Nat.mod_eq_of_lt (by have:=hI.2; omega)]
 exact Int.ofNat_le.2 Nat.and_le_right
theorem R.MM {a b:Int} (hx:ev fr x=some (.int .i64 a)) (hy:ev fr y=some (.int .i64 b)) (h0:0<=b) (hI:I64 b):aU P n fr w (.binOp .and t x y t') ty (.int .i64 (yK a b)) w:=fun _ _ _ _ _ ha=>by
 have e:bits .and .i64 a b=yK a b:=by
  show IntKind.i64.wrap (((BitVec.ofInt 64 a &&& BitVec.ofInt 64 b).toNat:Int))=_
  have h:=vP (a:=a) h0 hI
  have:=hI.2
  exact I64.wrap ⟨Int.le_trans (by decide) h.1,Int.le_trans h.2 this⟩
 simp [execOp,ha.ev hx,ha.ev hy,eqGuard_and,binOp_and,intBits_and,e]
theorem R.On {a b:Int} (hx:ev fr x=some (.int .i64 a)) (hy:ev fr y=some (.int .i64 b)) (h0:0<=a) (h1:0<=b) (ia:I64 a) (ib:I64 b):aU P n fr w (.binOp .or t x y t') ty (.int .i64 (LW a b)) w/\I64 (LW a b):=by
 obtain ⟨a,rfl⟩:=Int.eq_ofNat_of_zero_le h0
 obtain ⟨b,rfl⟩:=Int.eq_ofNat_of_zero_le h1
 have ha2:a<2 ^ 63:=by have:=ia.2; omega
 have hb2:b<2 ^ 63:=by have:=ib.2; omega
 have hl:=Nat.or_lt_two_pow ha2 hb2
 have hI:I64 (((a ||| b:Nat):Nat):Int):=⟨by omega,by omega⟩
 have e:bits .or .i64 (a:Int) (b:Int)=((a ||| b:Nat):Int):=by
  have h3:∀ c:Nat,(BitVec.ofInt 64 (c:Int))=BitVec.ofNat 64 c:=fun c=>by rw [BitVec.ofInt_natCast]
  show IntKind.i64.wrap ((BitVec.ofInt 64 (a:Int) ||| BitVec.ofInt 64 (b:Int)).toNat:Int)=_
  rw [h3,h3,BitVec.toNat_or,BitVec.toNat_ofNat,BitVec.toNat_ofNat,Nat.mod_eq_of_lt (by omega),Nat.mod_eq_of_lt (by omega)]
  exact hI.wrap
 have e2:LW (a:Int) (b:Int)=((a ||| b:Nat):Int):=by unfold LW; simp
 rw [e2]
 refine ⟨fun _ _ _ _ _ ha=>?_,hI⟩
 simp [execOp,ha.ev hx,ha.ev hy,eqGuard_or,binOp_or,intBits_or,e]
theorem R.Np {kc:IntKind} {a:Int} {b:Nat} (hx:ev fr x=some (.int .i64 a)) (hy:ev fr y=some (.int kc (b:Int))) (hb:b<=64) (hI:I64 (a*2 ^ b)):aU P n fr w (.binOp .shl t x y t') ty (.int .i64 (a*2 ^ b)) w:=fun _ _ _ _ _ ha=>by
 have e2:Op.shift .shl .i64 a kc (b:Int)=pure (.int .i64 (a*2 ^ b)):=by
  rw [shift_shl .i64 kc a (b:Int) (Int.natCast_nonneg b) (show (b:Int)<=((64:Nat):Int) by omega),Int.toNat_natCast,hI.wrap]
 simp only [execOp,ha.ev hx,ha.ev hy,eqGuard_shl,binOp_shl,e2]
 rfl
theorem R.NC {a b:Str} (hx:ev fr x=some a.val) (hy:ev fr y=some b.val) (h:a.b.length+b.b.length<=140737488355328):aU P n fr w (.binOp .add t x y t') ty (Str.val ⟨a.b++b.b⟩) w:=fun _ _ _ _ _ ha=>by
 have e:∀ u v:List UInt8,(⟨u.toArray⟩:ByteArray)++⟨v.toArray⟩=⟨(u++v).toArray⟩:=fun u v=>by
  apply ByteArray.ext
  rw [ByteArray.data_append]; simp
 have hs:∀ u:List UInt8,(⟨u.toArray⟩:ByteArray).size=u.length:=fun u=>by simp [ByteArray.size]
 have h1:¬ (((a.b.length+b.b.length:Nat):Int) > IntKind.i64.max):=by
  simp only [show IntKind.i64.max=9223372036854775807 from rfl]; omega
 simp only [execOp,ha.ev hx,ha.ev hy,Str.val,eqGuard_add,binOp,Op.stringOp,hs,e]
 simp only [if_neg h1]
 rfl
theorem R.Ni {a b:Int} (hx:ev fr x=some (.int .i64 a)) (hy:ev fr y=some (.int .i64 b)) (h0:0<=a) (hb:0<b) (hI:I64 a):aU P n fr w (.binOp .quo t x y t') ty (.int .i64 (a.tdiv b)) w/\I64 (a.tdiv b):=by
 obtain ⟨a,rfl⟩:=Int.eq_ofNat_of_zero_le h0
 obtain ⟨b,rfl⟩:=Int.eq_ofNat_of_zero_le (Int.le_of_lt hb)
 have e:(a:Int).tdiv b=((a / b:Nat):Int):=by rw [Int.tdiv_eq_ediv_of_nonneg (by omega)]; omega
 have hI':I64 ((a / b:Nat):Int):=by
  have:=Nat.div_le_self a b
  generalize a / b=q at *
  unfold I64 at hI ⊢; omega
 rw [e]
 exact ⟨R.HY hx hy bt hI'.wrap,hI'⟩
theorem R.MS {a b:Int} (hx:ev fr x=some (.int .i64 a)) (hy:ev fr y=some (.int .i64 b)) (h0:0<=a) (hb:0<b) (hI:I64 a):aU P n fr w (.binOp .rem t x y t') ty (.int .i64 (a.tmod b)) w/\I64 (a.tmod b):=by
 obtain ⟨a,rfl⟩:=Int.eq_ofNat_of_zero_le h0
 obtain ⟨b,rfl⟩:=Int.eq_ofNat_of_zero_le (Int.le_of_lt hb)
 have e:(a:Int).tmod b=((a % b:Nat):Int):=by rw [Int.tmod_eq_emod_of_nonneg (by omega)]; omega
 have hI':I64 ((a % b:Nat):Int):=by
  have:=Nat.mod_le a b
  unfold I64 at hI ⊢; omega
 rw [e]
 exact ⟨R.Jf hx hy bt,hI'⟩
end
section
variable {P:Program} {T:List (Nat × TI)} {G:Gl} {n:Nat} {F:Fr} {w:World} {x y:Operand} {ty t t':TypeId} {c:Cx} {ρ:List RE}
theorem BK (hT:bn P G.shp T) {op:BinOp} {a b:AV} {r:PR} {va vb:Value} (hb':Ct T t a=true) (h:Jt op a b=some r) (hob:∀ p ∈ r.ob,p) (ha:Rd c ρ a va) (hb:Rd c ρ b vb) (hx:ev F x=some va) (hy:ev F y=some vb) :
  ∃ v,aU P n F w (.binOp op t x y t') ty v w/\Rt c ρ r.v v/\r.fc=[]:=by
 unfold Jt at h
 split at h
 ·-- ints
  cases ha with | int ia=>
  cases hb with | int ib=>
  split at h <;> cases h
  ·exact ⟨_,R.lss hx hy,Pd.bool (e:=.lt _ _),rfl⟩
  ·exact ⟨_,R.leq hx hy,Pd.bool (e:=.le _ _),rfl⟩
  ·exact ⟨_,R.gtr hx hy,Pd.bool (e:=.lt _ _),rfl⟩
  ·exact ⟨_,R.geq hx hy,Pd.bool (e:=.le _ _),rfl⟩
  ·exact ⟨_,R.eql hx hy,Pd.bool (e:=.eq _ _),rfl⟩
  ·exact ⟨_,R.neq hx hy,Pd.bool (e:=.not (.eq _ _)),rfl⟩
  ·have h1:=hob _ (List.mem_singleton_self _); exact ⟨_,R.add hx hy h1,Pd.int h1,rfl⟩
  ·have h1:=hob _ (List.mem_singleton_self _); exact ⟨_,R.sub hx hy h1,Pd.int h1,rfl⟩
  ·have h1:=hob _ (List.mem_singleton_self _); exact ⟨_,R.mul hx hy h1,Pd.int h1,rfl⟩
  ·have h1:=hob _ (List.mem_cons_self); have h2:=hob _ (List.mem_cons_of_mem _ (List.mem_singleton_self _))
   have h3:=R.Ni (P:=P) (n:=n) (w:=w) (ty:=ty) (t:=t) (t':=t') hx hy h1 h2 ia
   exact ⟨_,h3.1,Pd.int h3.2,rfl⟩
  ·have h1:=hob _ (List.mem_cons_self); have h2:=hob _ (List.mem_cons_of_mem _ (List.mem_singleton_self _))
   have h3:=R.MS (P:=P) (n:=n) (w:=w) (ty:=ty) (t:=t) (t':=t') hx hy h1 h2 ia
   exact ⟨_,h3.1,Pd.int h3.2,rfl⟩
  ·have h1:=hob _ (List.mem_singleton_self _)
   have h2:=fun z:Int=>vP (a:=z) h1 ib
   have h3:=ib.2
   exact ⟨_,R.MM hx hy h1 ib,Pd.int ⟨Int.le_trans (by decide) (h2 _).1,Int.le_trans (h2 _).2 h3⟩,rfl⟩
  ·have h1:=hob _ (List.mem_cons_self); have h2:=hob _ (List.mem_cons_of_mem _ (List.mem_singleton_self _))
   have h3:=R.On (P:=P) (n:=n) (w:=w) (ty:=ty) (t:=t) (t':=t') hx hy h1 h2 ia ib
   exact ⟨_,h3.1,Pd.int h3.2,rfl⟩
 ·-- bytes
  cases ha with | u8=>
  cases hb with | u8=>
  split at h <;> cases h
  ·exact ⟨_,R.lss hx hy,Pd.bool (e:=.lt _ _),rfl⟩
  ·exact ⟨_,R.leq hx hy,Pd.bool (e:=.le _ _),rfl⟩
  ·exact ⟨_,R.gtr hx hy,Pd.bool (e:=.lt _ _),rfl⟩
  ·exact ⟨_,R.geq hx hy,Pd.bool (e:=.le _ _),rfl⟩
  ·exact ⟨_,R.eql hx hy,Pd.bool (e:=.eq _ _),rfl⟩
  ·exact ⟨_,R.neq hx hy,Pd.bool (e:=.not (.eq _ _)),rfl⟩
  ·exact ⟨_,R.KZ hx hy,Pd.u8,rfl⟩
  ·exact ⟨_,R.MQ hx hy,Pd.u8,rfl⟩
  ·have h1:=hob _ (List.mem_singleton_self _)
   refine ⟨_,R.Jf hx hy h1,?_,rfl⟩
   rw [<- UInt8.toNat_mod]
   exact Pd.u8
  ·have h1:=hob _ (List.mem_singleton_self _)
   refine ⟨_,R.HY hx hy h1 ?_,?_,rfl⟩
   ·rw [<- UInt8.toNat_div]; exact uI (UInt8.toNat_lt _)
   ·rw [<- UInt8.toNat_div]
    exact Pd.u8
 ·cases ha with | u64 ia=>
  cases hb with | u64 ib=>
  split at h <;> cases h
  ·exact ⟨_,R.lss hx hy,Pd.bool (e:=.lt _ _),rfl⟩
  ·exact ⟨_,R.leq hx hy,Pd.bool (e:=.le _ _),rfl⟩
  ·exact ⟨_,R.gtr hx hy,Pd.bool (e:=.lt _ _),rfl⟩
  ·exact ⟨_,R.geq hx hy,Pd.bool (e:=.le _ _),rfl⟩
  ·exact ⟨_,R.eql hx hy,Pd.bool (e:=.eq _ _),rfl⟩
  ·exact ⟨_,R.neq hx hy,Pd.bool (e:=.not (.eq _ _)),rfl⟩
  ·exact ⟨_,R.FW hx hy,Pd.u64 (Nat.mod_lt _ bt),rfl⟩
  ·exact ⟨_,R.IF hx hy ia ib,Pd.u64 (Nat.or_lt_two_pow (n:=64) ia ib),rfl⟩
  ·have h1:=hob _ (List.mem_singleton_self _)
   have h2:=Nat.div_le_self
   exact ⟨_,R.HY hx hy h1 (wrap_u64 (Nat.lt_of_le_of_lt (h2 _ _) ia)),Pd.u64 (Nat.lt_of_le_of_lt (h2 _ _) ia),rfl⟩
  ·have h1:=hob _ (List.mem_singleton_self _)
   exact ⟨_,R.Jf hx hy h1,Pd.u64 (Nat.lt_of_le_of_lt (Nat.mod_le _ _) ia),rfl⟩
  ·have h1:=hob _ (List.mem_singleton_self _)
   exact ⟨_,R.vO hx hy bt,Pd.u64 (Nat.mod_lt _ bt),rfl⟩
  ·have h1:=hob _ (List.mem_singleton_self _)
   exact ⟨_,R.HS hx hy (Nat.le_of_lt h1),Pd.u64 (Nat.lt_of_le_of_lt (Nat.div_le_self _ _) ia),rfl⟩
 ·cases ha with | u64 ia=>
  cases hb with | int ib=>
  split at h <;> cases h
  ·have h1:=hob _ (List.mem_cons_self); have h2:=hob _ (List.mem_cons_of_mem _ (List.mem_singleton_self _))
   rename_i k _ _ _
   obtain ⟨k,rfl⟩:=Int.eq_ofNat_of_zero_le h1
   exact ⟨_,R.vO hx hy bt,Pd.u64 (Nat.mod_lt _ bt),rfl⟩
  ·have h1:=hob _ (List.mem_cons_self); have h2:=hob _ (List.mem_cons_of_mem _ (List.mem_singleton_self _))
   rename_i k _ _ _
   obtain ⟨k,rfl⟩:=Int.eq_ofNat_of_zero_le h1
   exact ⟨_,R.HS hx hy (show k<=64 by omega),Pd.u64 (Nat.lt_of_le_of_lt (Nat.div_le_self _ _) ia),rfl⟩
 ·cases ha with | int ia=>
  cases hb with | u64 ib=>
  split at h <;> cases h
  have h1:=hob _ (List.mem_cons_self); have h2:=hob _ (List.mem_cons_of_mem _ (List.mem_singleton_self _))
  exact ⟨_,R.Np hx hy (Nat.le_of_lt h1) h2,Pd.int h2,rfl⟩
 ·cases ha with | u8=>
  cases hb with | u64 ib=>
  split at h <;> cases h
  have h1:=hob _ (List.mem_singleton_self _)
  exact ⟨_,R.HS hx hy (Nat.le_of_lt h1),Ak,rfl⟩
 ·cases ha with | bool=>
  cases hb with | bool=>
  have hu:P.underlying t=some .bool:=by
   simp only [Ct] at hb'
   split at hb'
   ·rename_i h1; exact (hT _ _ h1).2
   ·cases hb'
  split at h <;> cases h
  ·exact ⟨_,R.MR hx hy hu,Pd.bool (e:=.beq _ _),rfl⟩
  ·exact ⟨_,R.ME hx hy hu,Pd.bool (e:=.not (.beq _ _)),rfl⟩
 ·cases ha with | str ia=>
  cases hb with | str ib=>
  split at h <;> cases h
  ·exact ⟨_,R.No hx hy,Pd.bool (e:=.seq _ _),rfl⟩
  ·exact ⟨_,R.Nx hx hy,Pd.bool (e:=.not (.seq _ _)),rfl⟩
  ·have h1:=hob _ (List.mem_singleton_self _)
   exact ⟨_,R.NC hx hy h1,Pd.str (by rw [List.length_append]; exact h1),rfl⟩
 ·cases ha with | em ia=>
  cases hb with | @em _ a2 ib=>
  have hu:∃ e,P.underlying t=some (.slice e):=by
   simp only [Ct] at hb'
   split at hb'
   ·rename_i e _ _ _ h1; exact ⟨_,(hT _ _ h1).2.1⟩
   ·cases hb'
  obtain ⟨e,hu⟩:=hu
  obtain rfl:a2=none:=Option.isNone_iff_eq_none.1 ib.symm
  subst ia
  split at h <;> cases h
  ·exact ⟨_,R.zq hx hy hu,Pd.bool (e:=.lit _),rfl⟩
  ·exact ⟨_,R.AM hx hy hu,Pd.bool (e:=.lit _),rfl⟩
 ·cases h
theorem I_ (a b:Int):I64 (fy a b):=by
 unfold fy; rw [IntKind.wrap_i64]; constructor <;> omega
theorem ES {a b:Int} (h:I64 (a - b)):fy a b=a - b:=h.wrap
theorem HA (a b:Int):I64 (Hz a b):=by
 unfold Hz; rw [IntKind.wrap_i64]; constructor <;> omega
theorem AZ {O:cO} (hT:bn P G.shp T) {op:BinOp} {a b:AV} {r:PR} {va vb:Value} (hb':Ct T t a=true) (h:HQ O op a b=some r) (hob:∀ p ∈ r.ob,p) (ha:Rd c ρ a va) (hb:Rd c ρ b vb) (hx:ev F x=some va) (hy:ev F y=some vb) :
  ∃ v,aU P n F w (.binOp op t x y t') ty v w/\Rt c ρ r.v v/\r.fc=[]:=by
 unfold HQ at h
 split at h
 ·cases h
  cases ha with | int ia=>
  cases hb with | int ib=>
  exact ⟨_,R.KQ hx hy,Pd.int (I_ _ _),rfl⟩
 ·cases h
  cases ha with | int ia=>
  cases hb with | int ib=>
  exact ⟨_,R.HR hx hy,Pd.int (HA _ _),rfl⟩
 ·exact BK hT hb' h hob ha hb hx hy
end
end Go.Proofs.Ytjmbgkmkinmlkaa
