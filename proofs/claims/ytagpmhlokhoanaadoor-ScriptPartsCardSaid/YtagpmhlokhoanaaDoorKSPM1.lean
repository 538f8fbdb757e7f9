/- What leads to the law, part 1. Conditions: each lemma's own. -/
import Derived.DeepKeys
import Derived.KernelRfl
import Derived.LaidEqlPtr
import Derived.Laws.IdiomStrings
import Derived.Lib.SliceRun
import Derived.Maps.AppendAt
import Derived.OrdersIn
import Derived.StillTail
import Derived.TacticsIn
import Derived.WalkKit
import Derived.WalkLawsBesides
import Derived.WalkSpells
set_option linter.unusedVariables false
set_option linter.unusedSimpArgs false
namespace Go.Proofs.YtagpmhlokhoanaaDoor
open Go.RowKit
theorem lu {a b:Prop} (x:a) (y:b):a/\b:=And.intro x y
theorem lx {a b c:Prop} (h:a->b->c):a/\b->c:=fun x=>h x.1 x.2
theorem ak {p:Prop} (h:p:=by with_reducible assumption):p:=h
theorem cQ {p:Prop} (h:p:=by omega):p:=h
theorem lD {p:Prop} (h:p:=by first | with_reducible rfl | with_reducible assumption | omega | (constructor <;> omega)):p:=h
abbrev Fr:=List (Nat × Value)
def look:Fr->Nat->Option Value
 | [],_=>none
 | (j,v) :: r,i=>bif Nat.beq j i then some v else look r i
def ev (fr:Fr):Operand->Option Value
 | .tmp i=>look fr i
 | .const v=>some v
 | .global g=>some (.pointer (some ⟨g,0,none⟩))
 | .func f=>some (.func (.func f) #[] #[])
def M (n:Nat) (fr:Fr) (a:Act):Prop:=
 a.defers=[]/\a.tmps.size=n/\∀ i v,look fr i=some v->i<n/\a.tmps.getD i undef=v
theorem M.ev {n:Nat} {fr:Fr} {a:Act} {x:Operand} {v:Value} (h:M n fr a) (hx:ev fr x=some v):a.eval x=v:=by
 cases x with
 | tmp i=>exact (h.2.2 i v hx).2
 | const c=>exact Option.some.inj hx
 | global g=>exact Option.some.inj hx
 | func f=>exact Option.some.inj hx
theorem au {j i:Nat} {v:Value} {r:Fr}:look ((j,v) :: r) i=if j=i then some v else look r i:=by
 show (bif Nat.beq j i then some v else look r i)=_
 by_cases h:j=i
 ·simp [h]
 ·have:Nat.beq j i=false:=by rw [<- Bool.not_eq_true,Nat.beq_eq]; exact h
  simp [this,h]
theorem M.put {n d:Nat} {fr:Fr} {a:Act} {v:Value} (h:M n fr a) (hd:Nat.blt d n=true):M n ((d,v) :: fr) (a.put (some d) v):=by
 have hdn:d<n:=by simpa using hd
 obtain ⟨h1,h2,h3⟩:=h
 refine ⟨h1,by simp [Act.put,h2],fun i u hu=>?_⟩
 rw [au] at hu
 by_cases hi:d=i
 ·subst hi
  rw [if_pos rfl] at hu
  cases hu
  exact ⟨hdn,by simp [Act.put,Array.getD,h2,hdn]⟩
 ·rw [if_neg hi] at hu
  obtain ⟨hin,hg⟩:=h3 i u hu
  refine ⟨hin,?_⟩
  rw [<- hg]
  simp [Act.put,Array.getD,h2,hin,hi]
theorem M.at_ {n:Nat} {fr:Fr} {a:Act} {t:Nat} {v:Value} (h:M n fr a) (hv:look fr t=some v):a.tmps[t]?.getD undef=v:=by
 have:=(h.2.2 t v hv).2
 simpa [Array.getD_eq_getD_getElem?] using this
theorem M.sub {n:Nat} {fr fr':Fr} {a:Act} (h:M n fr a) (hs:∀ i v,look fr' i=some v->look fr i=some v):M n fr' a:=
 ⟨h.1,h.2.1,fun i v hv=>h.2.2 i v (hs i v hv)⟩
abbrev gY (ro:Option Nat):Fence:={ fn:=fun _=>True,depth:=none,alive:=false,round:=ro }
def eE (a:Act) (ds:List Deferred):Act:={ a with defers:=ds }
def gB (ds:List Deferred) (Q:Exit->Act->World->Prop) (e:Exit) (a:Act) (w:World):Prop:=∃ a0:Act,a0.defers=[]/\a=eE a0 ds/\Q e a0 w
def gU (P:Program) (c:Code) (Q:Exit->Act->World->Prop) (a:Act) (w:World):Prop:=∀ ro ds,c.wpIn (gY ro) 0 P (gB ds Q) (eE a ds) w
def xA (P:Program) (l:Array Oper) (Q:Exit->Act->World->Prop) (rest:List Oper) (a:Act) (w:World):Prop:=∀ ro ds,wpListIn (gY ro) 0 P l (gB ds Q) rest (eE a ds) w
theorem ju (a:Act) (ds:List Deferred):(eE a ds).eval=a.eval:=by funext x; cases x <;> rfl
theorem gf (a:Act) (ds:List Deferred) (d:Option Tmp) (v:Value):(eE a ds).put d v=eE (a.put d v) ds:=by cases d <;> rfl
theorem xf {a b:Act} {ds:List Deferred} (h:eE a ds=eE b ds) (ha:a.defers=[]) (hb:b.defers=[]):a=b:=by
 cases a; cases b
 simp only [eE,Act.mk.injEq,and_true] at h
 simp only at ha hb
 rw [h,ha,hb]
theorem rY {a:Act} (h:a.defers=[]) (d:Option Tmp) (v:Value):(a.put d v).defers=[]:=by cases d <;> exact h
theorem tI {ds:List Deferred} {Q Q':Exit->Act->World->Prop} {e:Exit} {a:Act} {w:World} (h:gB ds Q e a w) (hq:∀ a,Q e a w->Q' e a w):gB ds Q' e a w:=let ⟨a0,h0,h1,h2⟩:=h; ⟨a0,h0,h1,hq _ h2⟩
section prim
variable {P:Program} {Q:Exit->Act->World->Prop} {a:Act} {w:World}
theorem uv {c:Code} {Q':Exit->Act->World->Prop} (h:gU P c Q a w) (hq:∀ e a w,Q e a w->Q' e a w):gU P c Q' a w:=fun ro ds=>wpIn_mono (h ro ds) fun e _ w hh=>tI hh fun a=>hq e a w
theorem uQ (hd:a.defers=[]) (h:Q .normal a w):gU P .skip Q a w:=fun _ _=>wpIn_skip ⟨a,hd,rfl,h⟩
theorem tA {l:Nat} (hd:a.defers=[]) (h:Q .normal a w):gU P (.label l) Q a w:=fun _ _=>wpIn_label ⟨a,hd,rfl,h⟩
theorem vm {id:Nat} (hd:a.defers=[]) (h:Q (.exit id) a w):gU P (.exit id) Q a w:=fun _ _=>wpIn_exit ⟨a,hd,rfl,h⟩
theorem yH (hd:a.defers=[]) (h:Q .ret a w):gU P .ret Q a w:=fun _ _=>wpIn_ret ⟨a,hd,rfl,h⟩
theorem zp {x y:Code} (h:gU P x (Exit.then (gU P y Q) Q) a w):gU P (.seq x y) Q a w:=fun ro ds=>wpIn_seq (wpIn_mono (h ro ds) fun e a w hq=>by
 cases e with
 | normal=>obtain ⟨a0,_,rfl,hq⟩:=hq; exact hq ro ds
 | _=>exact hq)
theorem su {id:Nat} {c:Code} (h:gU P c (Exit.inBlock id Q) a w):gU P (.block id c) Q a w:=fun ro ds=>wpIn_block (wpIn_mono (h ro ds) fun e a w hq=>by
 cases e with
 | exit j=>
  obtain ⟨a0,h0,rfl,hq⟩:=hq
  simp only [Exit.inBlock] at hq ⊢
  split
  ·rename_i e; rw [if_pos e] at hq; exact ⟨a0,h0,rfl,hq⟩
  ·rename_i e; rw [if_neg e] at hq; exact ⟨a0,h0,rfl,hq⟩
 | _=>exact hq)
theorem qK {id:Nat} {l:List Oper} (h:xA P l.toArray Q l a w):gU P (.region id l.toArray false) Q a w:=fun ro ds=>wpIn_region_lit (h ro ds)
theorem j_ {c:Operand} {x y:Code} {t:Bool} (hc:a.eval c = .bool t) (ht:t=true->gU P x Q a w) (hf:t=false->gU P y Q a w):gU P (.cond c x y) Q a w:=
 fun ro ds=>wpIn_cond_split (by rw [ju]; exact hc) (fun h=>ht h ro ds) (fun h=>hf h ro ds)
theorem lB {c:Operand} {x y:Code} (hc:a.eval c = .bool true) (h:gU P x Q a w):gU P (.cond c x y) Q a w:=fun ro ds=>wpIn_cond_true (by rw [ju]; exact hc) (h ro ds)
theorem ka {c:Operand} {x y:Code} (hc:a.eval c = .bool false) (h:gU P y Q a w):gU P (.cond c x y) Q a w:=fun ro ds=>wpIn_cond_false (by rw [ju]; exact hc) (h ro ds)
theorem tF {c:Code} (h:gU P c (Exit.noGoto Q) a w):gU P (.scope c) Q a w:=by
 intro ro ds b k cs hro hb hr
 have h0:(lone (b.atR (eE a ds) (.code (.scope c) :: k)) cs w).fenced P (gY ro):=fenced_calm hb hr rfl
 have s1:step P (lone (b.atR (eE a ds) (.code (.scope c) :: k)) cs w) = .next (lone (b.atR (eE a ds) (.code c :: .inScope c :: k)) cs w):=step_lone_go (by simp [stepG,stepG.exec,Frame.atR])
 have s2:∀ a w,step P (lone (b.atR a (.inScope c :: k)) cs w) = .next (lone (b.atR a k) cs w):=fun a w=>step_lone_go (by simp [stepG,stepG.exec,Frame.atR])
 obtain ⟨e,a₁,w₁,⟨a0,hd,rfl,hq⟩,harr⟩:=h ro ds b (.inScope c :: k) cs hro hb hr
 cases e with
 | normal=>exact ⟨.normal,_,w₁,⟨a0,hd,rfl,hq⟩,.head h0 s1 (StepsIn.trans harr (.one (fenced_calm hb hr rfl) (s2 _ _)))⟩
 | exit id=>
  have hx:exitTo id (.inScope c :: k)=exitTo id k:=by simp [exitTo]
  exact ⟨.exit id,_,w₁,⟨a0,hd,rfl,hq⟩,fun k' hk=>.head h0 s1 (harr.1 k' (by rw [hx]; exact hk)),fun hr' hk=>let ⟨k₁,h1,h2⟩:=harr.2 hr' (by rw [hx]; exact hk); ⟨k₁,h1,.head h0 s1 h2⟩⟩
 | goto l=>exact hq.elim
 | ret=>exact ⟨_,_,w₁,⟨a0,hd,rfl,hq⟩,.of_steps (.one h0 s1) harr⟩
 | panic ch=>exact ⟨_,_,w₁,⟨a0,hd,rfl,hq⟩,.of_steps (.one h0 s1) harr⟩
 | outgrown=>exact ⟨_,_,w₁,⟨a0,hd,rfl,hq⟩,.of_steps (.one h0 s1) harr⟩
theorem kj {σ:Type} {c:Code} (D:Act->World->σ->Prop) (μ:σ->Nat) (s0:σ) (h0:D a w s0)
  (round:∀ s a w,D a w s->gU P c (fun e a w=>match e with | .normal=>∃ s',D a w s' /\ μ s' < μ s | e=>Q e a w) a w):gU P (.loop c) Q a w:=by
 intro ro ds b k cs hro hb hr
 have key:∀ m,∀ s a w,μ s=m->D a w s->∃ e a' w',gB ds Q e a' w' /\ ArrivesIn (Machine.fenced P (gY ro)) P (lone (b.atR (eE a ds) (.code c :: .inLoop c :: k)) cs w) b k cs e a' w':=by
  intro m
  induction m using Nat.strongRecOn with
  | _ m ih=>
   intro s a w hm hD
   obtain ⟨e,a₁,w₁,⟨a0,hd,rfl,hq⟩,harr⟩:=round s a w hD ro ds b (.inLoop c :: k) cs hro hb hr
   cases e with
   | normal=>
    obtain ⟨s',hD',hlt⟩:=hq
    obtain ⟨e₂,a₂,w₂,hq₂,harr₂⟩:=ih (μ s') (hm ▸ hlt) s' a0 w₁ rfl hD'
    exact ⟨e₂,a₂,w₂,hq₂,.of_steps (StepsIn.trans harr (.one (fenced_calm hb hr rfl) stepR_inLoop)) harr₂⟩
   | exit id=>exact ⟨_,_,w₁,⟨a0,hd,rfl,hq⟩,.pass (x:=.inLoop c) rfl (fun _ _=>.inl (by simp)) harr⟩
   | goto l=>exact ⟨_,_,w₁,⟨a0,hd,rfl,hq⟩,.pass (x:=.inLoop c) rfl (fun _ _=>.inl (by simp)) harr⟩
   | ret=>exact ⟨_,_,w₁,⟨a0,hd,rfl,hq⟩,.pass (x:=.inLoop c) rfl (fun _ _=>.inl (by simp)) harr⟩
   | panic ch=>exact ⟨_,_,w₁,⟨a0,hd,rfl,hq⟩,.pass (x:=.inLoop c) rfl (fun _ _=>.inl (by simp)) harr⟩
   | outgrown=>exact ⟨_,_,w₁,⟨a0,hd,rfl,hq⟩,.pass (x:=.inLoop c) rfl (fun _ _=>.inl (by simp)) harr⟩
 obtain ⟨e,a',w',hq,harr⟩:=key _ s0 a w rfl h0
 exact ⟨e,a',w',hq,.of_steps (.one (fenced_calm hb hr rfl) stepR_loop) harr⟩
theorem AU {f:FuncId} {args:Array Value} {R:Ending->World->Prop} {ro:Option Nat} {n:Nat} (h:Calls P f args w R):CallsIn (gY ro) n P f args w R:=
 ⟨trivial,fun cs _=>let ⟨e,w',fr,r,s,x⟩:=h cs; ⟨e,w',fr,r,comesIn_wide.2 s,x⟩⟩
theorem BN {c:Code} (hd:a.defers=[]) (h:gU P c Q a w):c.wp P Q a w:=by
 have h1:=(wpIn_wide (n:=0)).1 (h none [])
 have e:eE a []=a:=by rw [eE,<- hd]
 rw [e] at h1
 refine wp_mono h1 fun e a' w' ⟨a0,h0,e1,hq⟩=>?_
 have e2:eE a0 []=a0:=by rw [eE,<- h0]
 rw [e1,e2]; exact hq
theorem EG {ro:Option Nat} {ρ:Operand->Value} {o:Oper} {x:Next} {w':World} (h:(execOp ρ o).run P w = .ok x w') (hx:∀ d,x ≠ .defer d):(o.semAt ro ρ).run P w = .ok x w':=by
 rw [Oper.semAt_eq]
 ·exact h
 ·intro c hc
  rw [execOp.eq_def,hc] at h
  simp only [Sem.run_bind] at h
  cases hr:(resolve ρ c o.type).run P w with
  | ok d w2=>rw [hr] at h; simp at h; exact hx _ h.1.symm
  | halt d w2=>rw [hr] at h; cases h
def zx (P:Program) (o:Oper) (a:Act) (K:Act->World->Prop):Result Next->Prop
 | .ok (.value v) w'=>K (a.put o.dst v) w'
 | .ok .skip w'=>K (a.put o.dst undef) w'
 | .ok (.enter f args) w'=>Calls P f args w' fun e w''=>∃ v,e = .returned v/\K (a.put o.dst v) w''
 | _=>False
theorem wU {o:Oper} {K:Act->World->Prop} {ro:Option Nat} {r:Result Next} (h:zx P o a K r):o.uponIn (gY ro) 0 P a K Q r:=by
 cases r with
 | ok x w'=>
  cases x <;> first | exact h | exact h.elim | skip
  case enter f args=>exact ⟨(fun h=>by cases h),(AU h).mono fun e w'' ⟨v,he,hv⟩=>by subst he; exact hv⟩
 | halt x w'=>cases x <;> exact h.elim
theorem d_ {l:Array Oper} {o:Oper} {rest:List Oper} (hg:o.guard=none) (h:∀ K:Act->World->Prop,(∀ a w,xA P l Q rest a w->K a w)->zx P o a K ((execOp a.eval o).run P w)):xA P l Q (o :: rest) a w:=fun ro ds=>
 wpListIn_plain hg fun K hK=>by
  refine ⟨fun _ _=>trivial,?_⟩
  rw [ju]
  have h1:=h (fun a w=>xA P l Q rest a w) (fun _ _ h=>h)
  have hK:∀ (d:Option Tmp) (v:Value) w,xA P l Q rest (a.put d v) w->K ((eE a ds).put d v) w:=fun d v w h=>by rw [gf]; exact hK _ _ (h ro ds)
  cases hr:(execOp a.eval o).run P w with
  | ok x w'=>
   rw [hr] at h1
   have hx:∀ d,x ≠ .defer d:=fun d e=>by subst e; exact h1.elim
   rw [EG hr hx]
   refine wU ?_
   cases x <;> first | exact h1.elim | exact hK _ _ _ h1 | skip
   case enter f args=>exact Calls.mono h1 fun e w'' ⟨v,he,hv⟩=>⟨v,he,hK _ _ _ hv⟩
  | halt x w'=>rw [hr] at h1; exact h1.elim
end prim
def WX (Q:Exit->Act->World->Prop) (n:Nat) (e:Exit) (fr:Fr) (w:World):Prop:=∀ a,M n fr a->Q e a w
def WC (P:Program) (Q:Exit->Act->World->Prop) (n:Nat) (c:Code) (fr:Fr) (w:World):Prop:=∀ a,M n fr a->gU P c Q a w
def WO (P:Program) (Q:Exit->Act->World->Prop) (n:Nat) (l rest:List Oper) (fr:Fr) (w:World):Prop:=∀ a,M n fr a->xA P l.toArray Q rest a w
def lY (P:Program) (f:FuncId) (args:Array Value) (w:World) (φ:Value->World->Prop):Prop:=Calls P f args w fun e w'=>∃ v,e = .returned v/\φ v w'
theorem lY.mono {P:Program} {f:FuncId} {args:Array Value} {w:World} {φ ψ:Value->World->Prop} (h:lY P f args w φ) (hh:∀ v w',φ v w' -> ψ v w'):lY P f args w ψ:=
 Calls.mono h fun _ _ ⟨v,he,hv⟩=>⟨v,he,hh _ _ hv⟩
section rules
variable {P:Program} {Q:Exit->Act->World->Prop} {n:Nat} {fr:Fr} {w:World}
theorem WC.seq {x y:Code} (h:WC P (Exit.then (gU P y Q) Q) n x fr w):WC P Q n (.seq x y) fr w:=fun a ha=>zp (h a ha)
theorem WC.skip (h:WX Q n .normal fr w):WC P Q n .skip fr w:=fun a ha=>uQ ha.1 (h a ha)
theorem WC.label {l:Nat} (h:WX Q n .normal fr w):WC P Q n (.label l) fr w:=fun a ha=>tA ha.1 (h a ha)
theorem WC.exit {id:Nat} (h:WX Q n (.exit id) fr w):WC P Q n (.exit id) fr w:=fun a ha=>vm ha.1 (h a ha)
theorem WC.ret (h:WX Q n .ret fr w):WC P Q n .ret fr w:=fun a ha=>yH ha.1 (h a ha)
theorem WC.block {id:Nat} {c:Code} (h:WC P (Exit.inBlock id Q) n c fr w):WC P Q n (.block id c) fr w:=fun a ha=>su (h a ha)
theorem WC.region {id:Nat} {l:List Oper} (h:WO P Q n l l fr w):WC P Q n (.region id l.toArray false) fr w:=fun a ha=>qK (h a ha)
theorem WC.cond {c:Operand} {x y:Code} {b:Bool} (hc:ev fr c=some (.bool b)) (ht:b=true->WC P Q n x fr w) (hf:b=false->WC P Q n y fr w):WC P Q n (.cond c x y) fr w:=
 fun a ha=>j_ (ha.ev hc) (fun h=>ht h a ha) (fun h=>hf h a ha)
theorem WC.Dk {c:Operand} {x y:Code} (hc:ev fr c=some (.bool true)) (ht:WC P Q n x fr w):WC P Q n (.cond c x y) fr w:=
 fun a ha=>lB (ha.ev hc) (ht a ha)
theorem WC.DM {c:Operand} {x y:Code} (hc:ev fr c=some (.bool false)) (hf:WC P Q n y fr w):WC P Q n (.cond c x y) fr w:=
 fun a ha=>ka (ha.ev hc) (hf a ha)
theorem WX.next {y:Code} (h:WC P Q n y fr w):WX (Exit.then (gU P y Q) Q) n .normal fr w:=h
theorem WX.ux {k:Act->World->Prop} {id:Nat} (h:WX Q n (.exit id) fr w):WX (Exit.then k Q) n (.exit id) fr w:=h
theorem WX.mj {id:Nat} (h:WX Q n .normal fr w):WX (Exit.inBlock id Q) n .normal fr w:=h
theorem WX.AA {id:Nat} (h:WX Q n .normal fr w):WX (Exit.inBlock id Q) n (.exit id) fr w:=fun a ha=>by
 show (if id=id then Q .normal a w else _)
 rw [if_pos rfl]; exact h a ha
def Gb (Q:Exit->Act->World->Prop) (n:Nat) (fr':Fr) (J:World->Prop):Exit->Act->World->Prop
 | .normal,a,w=>M n fr' a/\J w
 | e,a,w=>Q e a w
def Has (fr:Fr):Fr->Prop
 | []=>True
 | (i,v) :: r=>(∃ u,look fr i=some u/\u=v)/\Has fr r
theorem Has.look {fr:Fr}:∀ {fr':Fr},Has fr fr' -> ∀ i v,look fr' i=some v->look fr i=some v
 | [],_,i,v,hv=>by cases hv
 | (j,u) :: r,h,i,v,hv=>by
  rw [au] at hv
  by_cases hji:j=i
  ·subst hji
   rw [if_pos rfl] at hv; cases hv
   obtain ⟨u',hu',rfl⟩:=h.1
   exact hu'
  ·rw [if_neg hji] at hv; exact Has.look h.2 i v hv
theorem BV {F:Fence} {m:Nat} {o:Oper} {a:Act} {w:World} {K K':Act->World->Prop} {Q':Exit->Act->World->Prop} (hK:∀ a w,K a w->K' a w) (hQ:∀ e a w,e ≠ .normal->Q e a w->Q' e a w) (h:o.wpIn F m P a w K Q):o.wpIn F m P a w K' Q':=by
 unfold Oper.wpIn at h ⊢
 refine ⟨h.1,?_⟩
 have h:=h.2
 generalize (o.semAt F.round a.eval).run P w=r at *
 have hE:∀ (e:Ending) (w'':World),(match e,w'' with | .returned v,w''=>K (a.put o.dst v) w'' | .panicked chain,w''=>Q (.panic chain) a w'' | .outgrown,_=>LetsOut Q) ->
   (match e,w'' with | .returned v,w''=>K' (a.put o.dst v) w'' | .panicked chain,w''=>Q' (.panic chain) a w'' | .outgrown,_=>LetsOut Q'):=fun e w'' he=>by
  cases e with
  | returned v=>exact hK _ _ he
  | panicked c=>exact hQ _ _ _ (by simp) he
  | outgrown=>obtain ⟨a',w',h'⟩:=he; exact ⟨a',w',hQ _ _ _ (by simp) h'⟩
 cases r with
 | ok x w'=>
  cases x <;> simp only [Oper.uponIn] at h ⊢ <;>
   first
    | exact hK _ _ h
    | exact ⟨h.1,CallsIn.mono h.2 hE⟩
    | exact ⟨h.1,RowsIn.mono h.2 (fun _ _ he=>hK _ _ he)⟩
    | exact ⟨h.1,RoundIn.mono h.2 hE⟩
 | halt x w'=>cases x <;> simp only [Oper.uponIn] at h ⊢ <;> exact hQ _ _ _ (by simp) h
theorem rb {F:Fence} {m:Nat} {o:Oper} {A:Act} {w:World} {K K':Act->World->Prop} {t:Nat} (ho:∀ d,o.dst=some d->d≠t) (hK:∀ A' w',A'.tmps[t]? = A.tmps[t]? -> K A' w' -> K' A' w') (h:o.wpIn F m P A w K Q):o.wpIn F m P A w K' Q:=by
 have hp:∀ (D:List Deferred) v,(({ tmps:=A.tmps,defers:=D }:Act).put o.dst v).tmps[t]? = A.tmps[t]?:=fun D v=>by
  cases hd:o.dst with
  | none=>rfl
  | some d=>simp [Act.put,ho d hd]
 unfold Oper.wpIn at h ⊢
 refine ⟨h.1,?_⟩
 have h:=h.2
 generalize (o.semAt F.round A.eval).run P w=r at *
 have hE:∀ (e:Ending) (w'':World),(match e,w'' with | .returned v,w''=>K (A.put o.dst v) w'' | .panicked chain,w''=>Q (.panic chain) A w'' | .outgrown,_=>LetsOut Q) ->
   (match e,w'' with | .returned v,w''=>K' (A.put o.dst v) w'' | .panicked chain,w''=>Q (.panic chain) A w'' | .outgrown,_=>LetsOut Q):=fun e w'' he=>by
  cases e with
  | returned v=>exact hK _ _ (hp A.defers v) he
  | panicked c=>exact he
  | outgrown=>exact he
 cases r with
 | ok x w'=>
  cases x <;> simp only [Oper.uponIn] at h ⊢
  case value u=>exact hK _ _ (hp A.defers _) h
  case skip=>exact hK _ _ (hp A.defers _) h
  case defer=>exact hK _ _ (hp _ _) h
  case enter f args=>exact ⟨h.1,CallsIn.mono h.2 hE⟩
  case row r args=>exact ⟨h.1,RowsIn.mono h.2 (fun _ _ he=>hK _ _ (hp A.defers _) he)⟩
  case round l f tmps assign body=>exact ⟨h.1,RoundIn.mono h.2 hE⟩
 | halt x w'=>cases x <;> simp only [Oper.uponIn] at h ⊢ <;> exact h
def vO (j:Nat) (wt:Bool) (o:Oper):Oper:=bif (match o.guard with | some (i,b)=>Nat.beq i j && (b == wt) | none=>false) then { o with guard:=none } else o
theorem iU {F:Fence} {m:Nat} {l:Array Oper} {j t:Nat} {wt:Bool} (hy:∀ A:Act,A.tmps[t]? = some (.bool wt)->yielded l A.tmps j=some wt) {pk mv:Oper} {tail:List Oper}
  (hpk:∀ (A:Act) (w:World),A.tmps[t]? = some (.bool wt)->wpListIn F m P l Q (mv :: tail) A w->wpListIn F m P l Q (pk :: tail) A w) :
  ∀ (grp:List Oper),(∀ o ∈ grp,∀ d,o.dst=some d->d≠t)->∀ (A:Act) (w:World),A.tmps[t]? = some (.bool wt)->wpListIn F m P l Q (grp.map (vO j wt)++mv :: tail) A w->wpListIn F m P l Q (grp++pk :: tail) A w
 | [],_,A,w,ht,h=>hpk A w ht h
 | o :: r,ho,A,w,ht,h=>by
  have ih:=iU hy hpk r fun x hx=>ho x (List.mem_cons_of_mem _ hx)
  have ho1:=ho o List.mem_cons_self
  rw [List.map_cons,List.cons_append] at h
  rw [List.cons_append]
  by_cases hg:(match o.guard with | some (i,b)=>Nat.beq i j && (b == wt) | none=>false)=true
  ·have e:vO j wt o={ o with guard:=none }:=by unfold vO; rw [hg]; rfl
   rw [e] at h
   unfold wpListIn at h ⊢
   have h1:Region.wanted { o with guard:=none } (yielded l A.tmps)=true:=rfl
   have h2:Region.wanted o (yielded l A.tmps)=true:=by
    split at hg
    ·rename_i i b hgo
     simp only [Bool.and_eq_true,beq_iff_eq] at hg
     have hi:=Nat.eq_of_beq_eq_true hg.1
     simp [Region.wanted,hgo,hi,hg.2,hy A ht]
    ·cases hg
   rw [if_pos h1] at h
   rw [if_pos h2]
   have h:o.wpIn F m P A w (wpListIn F m P l Q (r.map (vO j wt)++mv :: tail)) Q:=h
   exact rb (o:=o) (t:=t) ho1 (fun A' w' e h=>ih A' w' (e.trans ht) h) h
  ·have e:vO j wt o=o:=by unfold vO; rw [Bool.not_eq_true] at hg; rw [hg]; rfl
   rw [e] at h
   unfold wpListIn at h ⊢
   split
   ·rename_i hw
    rw [if_pos hw] at h
    exact rb (o:=o) (t:=t) ho1 (fun A' w' e h=>ih A' w' (e.trans ht) h) h
   ·rename_i hw
    rw [if_neg hw] at h
    refine ⟨h.1,ih _ _ ?_ h.2⟩
    cases hd:o.dst with
    | none=>exact ht
    | some d=>simp [Act.put,ho1 d hd,ht]
theorem Cz {a:Act} {t:Nat} {v:Value} (ha:M n fr a) (hv:look fr t=some v):a.tmps[t]? = some v:=by
 obtain ⟨h1,h2⟩:=ha.2.2 t v hv
 have:t<a.tmps.size:=by rw [ha.2.1]; exact h1
 simp only [Array.getD,this,dite_true] at h2
 rw [Array.getElem?_eq_getElem this]; exact congrArg some h2
def xi {σ:Type} (Q:Exit->Act->World->Prop) (n:Nat) (F:σ->Fr) (J:σ->World->Prop) (μ:σ->Nat) (m:Nat):Exit->Act->World->Prop
 | .normal,a,w=>∃ s,M n (F s) a/\J s w/\μ s<m
 | e,a,w=>Q e a w
theorem WC.Dg {σ:Type} {c:Code} (F:σ->Fr) (J:σ->World->Prop) (μ:σ->Nat) (s0:σ) (h0:∀ i v,look (F s0) i=some v->look fr i=some v) (hJ:J s0 w)
  (round:∀ s w',J s w' -> WC P (xi Q n F J μ (μ s)) n c (F s) w'):WC P Q n (.loop c) fr w:=by
 intro a ha
 refine kj (fun a w s=>M n (F s) a/\J s w) μ s0 ⟨ha.sub h0,hJ⟩ fun s a w hD=>uv (round s w hD.2 a hD.1) fun e a w hq=>?_
 cases e with
 | normal=>obtain ⟨s',h1,h2,h3⟩:=hq; exact ⟨s',⟨h1,h2⟩,h3⟩
 | exit id=>exact hq
 | goto l=>exact hq
 | ret=>exact hq
 | panic ch=>exact hq
 | outgrown=>exact hq
theorem WX.wM {σ:Type} {F:σ->Fr} {J:σ->World->Prop} {μ:σ->Nat} {m id:Nat} (h:WX Q n (.exit id) fr w):WX (xi Q n F J μ m) n (.exit id) fr w:=h
theorem WX.pb {σ:Type} {F:σ->Fr} {J:σ->World->Prop} {μ:σ->Nat} {m:Nat} (s:σ) (hf:Has fr (F s)) (hJ:J s w) (hm:μ s<m):WX (xi Q n F J μ m) n .normal fr w:=
 fun _ ha=>⟨s,ha.sub hf.look,hJ,hm⟩
def ao (P:Program) (n:Nat) (fr:Fr) (w:World) (op:Op) (ty:TypeId) (v:Value) (w':World):Prop:=
 ∀ a d pos af g,M n fr a->(execOp a.eval ⟨d,op,ty,pos,af,g⟩).run P w = .ok (.value v) w'
def cT (P:Program) (n:Nat) (fr:Fr) (w:World) (op:Op) (ty:TypeId) (w':World):Prop:=
 ∀ a d pos af g,M n fr a->(execOp a.eval ⟨d,op,ty,pos,af,g⟩).run P w = .ok .skip w'
def Enters (P:Program) (n:Nat) (fr:Fr) (w:World) (op:Op) (ty:TypeId) (f:FuncId) (args:Array Value):Prop:=
 ∀ a d pos af g,M n fr a->(execOp a.eval ⟨d,op,ty,pos,af,g⟩).run P w = .ok (.enter f args) w
variable {l rest:List Oper} {d:Nat} {op:Op} {ty:TypeId} {pos:String} {af:Array Edge}
theorem WO.nil (h:WX Q n .normal fr w):WO P Q n l [] fr w:=fun a ha _ _=>⟨a,ha.1,rfl,h a ha⟩
theorem WO.v {v:Value} {w':World} (h:ao P n fr w op ty v w') (hd:Nat.blt d n=true) (k:WO P Q n l rest ((d,v) :: fr) w'):WO P Q n l (⟨some d,op,ty,pos,af,none⟩ :: rest) fr w:=fun a ha=>
 d_ rfl fun K hK=>by
  rw [h a _ _ _ _ ha]
  exact hK _ _ (k _ (ha.put hd))
theorem WO.v0 {v:Value} {w':World} (h:ao P n fr w op ty v w') (k:WO P Q n l rest fr w'):WO P Q n l (⟨none,op,ty,pos,af,none⟩ :: rest) fr w:=fun a ha=>
 d_ rfl fun K hK=>by
  rw [h a _ _ _ _ ha]
  exact hK _ _ (k _ ha)
theorem WO.s {w':World} (h:cT P n fr w op ty w') (k:WO P Q n l rest fr w'):WO P Q n l (⟨none,op,ty,pos,af,none⟩ :: rest) fr w:=fun a ha=>
 d_ rfl fun K hK=>by
  rw [h a _ _ _ _ ha]
  exact hK _ _ (k _ ha)
theorem WO.c {f:FuncId} {args:Array Value} {φ:Value->World->Prop} (h:Enters P n fr w op ty f args) (hc:lY P f args w φ) (hd:Nat.blt d n=true) (k:∀ v w',φ v w' -> WO P Q n l rest ((d,v) :: fr) w') :
  WO P Q n l (⟨some d,op,ty,pos,af,none⟩ :: rest) fr w:=fun a ha=>
 d_ rfl fun K hK=>by
  rw [h a _ _ _ _ ha]
  exact Calls.mono hc fun e w' ⟨v,he,hv⟩=>⟨v,he,hK _ _ (k v w' hv _ (ha.put hd))⟩
theorem WO.c0 {f:FuncId} {args:Array Value} {φ:Value->World->Prop} (h:Enters P n fr w op ty f args) (hc:lY P f args w φ) (k:∀ v w',φ v w' -> WO P Q n l rest fr w') :
  WO P Q n l (⟨none,op,ty,pos,af,none⟩ :: rest) fr w:=fun a ha=>
 d_ rfl fun K hK=>by
  rw [h a _ _ _ _ ha]
  exact Calls.mono hc fun e w' ⟨v,he,hv⟩=>⟨v,he,hK _ _ (k v w' hv _ ha)⟩
def idst:List Oper->Nat->Option Nat
 | [],_=>none
 | o :: _,0=>o.dst
 | _ :: r,i+1=>idst r i
theorem ek:∀ (l:List Oper) (j:Nat),idst l j=(l[j]?).bind (·.dst)
 | [],_=>rfl
 | _ :: _,0=>rfl
 | _ :: r,i+1=>ek r i
theorem fV {j t:Nat} {b:Bool} {a:Act} (ha:M n fr a) (hj:idst l j=some t) (hv:look fr t=some (.bool b)):yielded l.toArray a.tmps j=some b:=by
 obtain ⟨h1,h2⟩:=ha.2.2 t _ hv
 rw [ek] at hj
 have h3:a.tmps[t]? = some (.bool b):=by
  have:t<a.tmps.size:=by rw [ha.2.1]; exact h1
  simp only [Array.getD,this,dite_true] at h2
  rw [Array.getElem?_eq_getElem this]; exact congrArg some h2
 unfold yielded
 have h4:((l.toArray[j]?).bind (·.dst))=some t:=by simpa using hj
 rw [h4]
 simp [h3]
theorem WO.split {grp tail:List Oper} {j t d:Nat} {wt:Bool} {x y:Operand} (hj:idst l j=some t) (hv:look fr t=some (.bool wt)) (hgrp:∀ o ∈ grp,∀ d,o.dst=some d->d≠t)
  (h:WO P Q n l (grp.map (vO j wt)++⟨some d,.move (cond wt x y),ty,pos,af,none⟩ :: tail) fr w):WO P Q n l (grp++⟨some d,.pick (.tmp t) x y,ty,pos,af,none⟩ :: tail) fr w:=fun a ha ro ds=>by
 have ht:=Cz ha hv
 refine iU (t:=t) (j:=j) (wt:=wt) (fun A hA=>?_) (fun A w hA h=>?_) grp hgrp _ _ (show (eE a ds).tmps[t]? = some (.bool wt) from ht) (h a ha ro ds)
 ·rw [ek] at hj
  unfold yielded
  have h4:((l.toArray[j]?).bind (·.dst))=some t:=by simpa using hj
  rw [h4]
  simp [hA]
 ·unfold wpListIn at h ⊢
  have h1:Region.wanted ⟨some d,.move (cond wt x y),ty,pos,af,none⟩ (yielded l.toArray A.tmps)=true:=rfl
  have h2:Region.wanted ⟨some d,.pick (.tmp t) x y,ty,pos,af,none⟩ (yielded l.toArray A.tmps)=true:=rfl
  rw [if_pos h1] at h
  rw [if_pos h2]
  unfold Oper.wpIn at h ⊢
  refine ⟨fun f hf=>(by simp [Oper.about] at hf),?_⟩
  have h:=h.2
  rw [Oper.semAt_eq _ _ _ (fun c=>by simp)] at h ⊢
  have e1:(execOp A.eval ⟨some d,.move (cond wt x y),ty,pos,af,none⟩).run P w = .ok (.value (A.eval (cond wt x y))) w:=by simp [execOp]
  have et:A.eval (.tmp t) = .bool wt:=by simp [Act.eval,hA]
  have e2:(execOp A.eval ⟨some d,.pick (.tmp t) x y,ty,pos,af,none⟩).run P w = .ok (.value (A.eval (cond wt x y))) w:=by
   cases wt <;> simp [execOp,et,asBool]
  rw [e1] at h
  rw [e2]
  exact h
theorem WO.on {dst:Option Nat} {j t:Nat} {b b':Bool} (hj:idst l j=some t) (hv:look fr t=some (.bool b')) (hb:b' = b) (k:WO P Q n l (⟨dst,op,ty,pos,af,none⟩ :: rest) fr w) :
  WO P Q n l (⟨dst,op,ty,pos,af,some (j,b)⟩ :: rest) fr w:=fun a ha ro ds=>by
 have hk:=k a ha ro ds
 have hy0:=fV (l:=l) ha hj hv
 have hy:yielded l.toArray (eE a ds).tmps j=_:=hy0
 simp only [wpListIn,Region.wanted,hy,hb,BEq.rfl,if_true] at hk ⊢
 exact hk
theorem WO.off {j t:Nat} {b b':Bool} (hj:idst l j=some t) (hv:look fr t=some (.bool b')) (hb:b' = !b) (hd:Nat.blt d n=true) (k:WO P Q n l rest ((d,undef) :: fr) w) :
  WO P Q n l (⟨some d,op,ty,pos,af,some (j,b)⟩ :: rest) fr w:=fun a ha ro ds=>by
 have hk:=k _ (ha.put hd) ro ds
 have hy0:=fV (l:=l) ha hj hv
 have hy:yielded l.toArray (eE a ds).tmps j=_:=hy0
 have hne:((some b':Option Bool) == some b)=false:=by subst hb; cases b <;> rfl
 simp only [wpListIn,Region.wanted,hy,hne,Bool.false_eq_true,if_false,gf]
 exact ⟨fun _ _=>trivial,hk⟩
theorem WO.Cy {j t:Nat} {b b':Bool} (hj:idst l j=some t) (hv:look fr t=some (.bool b')) (hb:b' = !b) (k:WO P Q n l rest fr w) :
  WO P Q n l (⟨none,op,ty,pos,af,some (j,b)⟩ :: rest) fr w:=fun a ha ro ds=>by
 have hk:=k _ ha ro ds
 have hy0:=fV (l:=l) ha hj hv
 have hy:yielded l.toArray (eE a ds).tmps j=_:=hy0
 have hne:((some b':Option Bool) == some b)=false:=by subst hb; cases b <;> rfl
 simp only [wpListIn,Region.wanted,hy,hne,Bool.false_eq_true,if_false,gf]
 exact ⟨fun _ _=>trivial,hk⟩
theorem fI {j t:Nat} {a:Act} (ha:M n fr a) (hj:idst l j=some t) (hv:look fr t=some undef):yielded l.toArray a.tmps j=none:=by
 obtain ⟨h1,h2⟩:=ha.2.2 t _ hv
 rw [ek] at hj
 have h3:a.tmps[t]? = some undef:=by
  have:t<a.tmps.size:=by rw [ha.2.1]; exact h1
  simp only [Array.getD,this,dite_true] at h2
  rw [Array.getElem?_eq_getElem this]; exact congrArg some h2
 unfold yielded
 have h4:((l.toArray[j]?).bind (·.dst))=some t:=by simpa using hj
 rw [h4]
 simp [h3,undef]
theorem WO.BK {j t:Nat} {b:Bool} (hj:idst l j=some t) (hv:look fr t=some undef) (hd:Nat.blt d n=true) (k:WO P Q n l rest ((d,undef) :: fr) w) :
  WO P Q n l (⟨some d,op,ty,pos,af,some (j,b)⟩ :: rest) fr w:=fun a ha ro ds=>by
 have hk:=k _ (ha.put hd) ro ds
 have hy0:=fI (l:=l) ha hj hv
 have hy:yielded l.toArray (eE a ds).tmps j=_:=hy0
 have hne:((none:Option Bool) == some b)=false:=rfl
 simp only [wpListIn,Region.wanted,hy,hne,Bool.false_eq_true,if_false,gf]
 exact ⟨fun _ _=>trivial,hk⟩
theorem WO.zX {j t:Nat} {b:Bool} (hj:idst l j=some t) (hv:look fr t=some undef) (k:WO P Q n l rest fr w) :
  WO P Q n l (⟨none,op,ty,pos,af,some (j,b)⟩ :: rest) fr w:=fun a ha ro ds=>by
 have hk:=k _ ha ro ds
 have hy0:=fI (l:=l) ha hj hv
 have hy:yielded l.toArray (eE a ds).tmps j=_:=hy0
 have hne:((none:Option Bool) == some b)=false:=rfl
 simp only [wpListIn,Region.wanted,hy,hne,Bool.false_eq_true,if_false,gf]
 exact ⟨fun _ _=>trivial,hk⟩
end rules
theorem oH:∀ (vs:List Value) (k i:Nat) (v:Value),look ((List.range' k vs.length).zip vs) i=some v->k<=i/\vs[i - k]? = some v
 | [],k,i,v,h=>by simp [look] at h
 | u :: vs,k,i,v,h=>by
  simp only [List.length_cons,List.range'_succ,List.zip_cons_cons] at h
  rw [au] at h
  by_cases hk:k=i
  ·subst hk; rw [if_pos rfl] at h; simp at h ⊢; exact h
  ·rw [if_neg hk] at h
   obtain ⟨h1,h2⟩:=oH vs (k+1) i v h
   refine ⟨by omega,?_⟩
   rw [show i - k=(i - (k+1))+1 by omega]
   simpa using h2
def oP:Nat->List Value->Fr
 | _,[]=>[]
 | k,v :: r=>(k,v) :: oP (k+1) r
theorem qc:∀ (vs:List Value) (k:Nat),oP k vs=(List.range' k vs.length).zip vs
 | [],_=>rfl
 | v :: r,k=>by simp [oP,List.range'_succ,qc r (k+1)]
theorem lY.enter {P:Program} {f:FuncId} {fn:Func} {c:Code} {args:List Value} {w:World} {φ:Value->World->Prop} {n:Nat} {fr:Fr} (hf:P.funcs[f]? = some fn) (hb:fn.body=some c) (hn:fn.ntmps=n)
  (hle:Nat.ble args.length n=true) (hfr:oP 0 args=fr)
  (h:WC P (bodyPost P fn fun e w'=>∃ v,e = .returned v/\φ v w') n c fr w):lY P f args.toArray w φ:=by
 subst hn
 have hle':args.length<=fn.ntmps:=by simpa using hle
 refine calls_of_wp hf hb (BN rfl (h _ ⟨rfl,?_,fun i v hv=>?_⟩))
 ·simp; omega
 ·rw [<- hfr,qc] at hv
  obtain ⟨_,h2⟩:=oH args 0 i v hv
  rw [Nat.sub_zero] at h2
  have hi:i<args.length:=(List.getElem?_eq_some_iff.1 h2).1
  refine ⟨by omega,?_⟩
  have h3:args[i]=v:=by rw [List.getElem?_eq_getElem hi] at h2; exact Option.some.inj h2
  simp [Array.getD,hi,h3]
  omega
section ends
variable {P:Program} {fn:Func} {φ:Value->World->Prop} {n:Nat} {fr:Fr} {w:World}
theorem WX.Bb {v:Value} (h:∀ a,M n fr a->(results fn a.tmps).run P w = .ok v w) (hφ:φ v w):WX (bodyPost P fn fun e w'=>∃ v,e = .returned v/\φ v w') n .ret fr w:=
 fun a ha=>⟨ha.1,v,h a ha,v,rfl,hφ⟩
theorem WX.ET {t:Tmp} {v:Value} (hr:fn.results = #[.tmp t]) (hv:look fr t=some v) (hφ:φ v w):WX (bodyPost P fn fun e w'=>∃ v,e = .returned v/\φ v w') n .ret fr w:=
 WX.Bb (fun a ha=>by simp [results,hr,ha.at_ hv]) hφ
end ends
structure Kp (S:List Nat) (w w':World):Prop where
 os:w'.os=w.os
 tape:w'.tape=w.tape
 output:w'.output=w.output
 size:w.heap.size<=w'.heap.size
 block:∀ b,b<w.heap.size->b ∉ S->w'.heap[b]? = w.heap[b]?
theorem Kp.refl (w:World):Kp [] w w:=⟨rfl,rfl,rfl,Nat.le_refl _,fun _ _ _=>rfl⟩
theorem Kp.trans {S T:List Nat} {a b c:World} (h:Kp S a b) (k:Kp T b c):Kp (S++T) a c:=
 ⟨k.os.trans h.os,k.tape.trans h.tape,k.output.trans h.output,Nat.le_trans h.size k.size,fun i hi hn=>by
  simp only [List.mem_append,not_or] at hn
  exact (k.block i (Nat.lt_of_lt_of_le hi h.size) hn.2).trans (h.block i hi hn.1)⟩
theorem Kp.sub {S T:List Nat} {a b:World} (h:Kp S a b) (hs:∀ g ∈ S,g ∈ T):Kp T a b:=
 ⟨h.os,h.tape,h.output,h.size,fun i hi hn=>h.block i hi fun hm=>hn (hs i hm)⟩
theorem Kp.gp {w w':World} (h:Below w.heap.size w w'):Kp [] w w':=⟨h.os,h.tape,h.output,h.size,fun b hb _=>h.block b hb⟩
theorem Kp.below {w w':World} (h:Kp [] w w'):Below w.heap.size w w':=⟨h.os,h.tape,h.output,h.size,fun b hb=>h.block b hb (by simp)⟩
theorem Kp.drew {S:List Nat} {a w:World} (h:Kp S a w):Kp S a w.drew:=⟨h.os,h.tape,h.output,h.size,h.block⟩
theorem Kp.alloc (w:World) (o:Obj):Kp [] w (w.alloc o):=⟨rfl,rfl,rfl,by simp,fun b hb _=>Below.heap_alloc w o b hb⟩
theorem Kp.tj {w w':World} (h:w.grownBy w' none):Kp [] w w':=⟨h.os,h.tape,h.output,h.size,fun b hb _=>h.block b hb (by simp)⟩
def Blk (w:World) (g:Nat) (t:TypeId) (cs:List Value):Prop:=w.heap[g]? = some (.cells cs.toArray t (0,0))
section
variable {w w':World} {g:Nat} {t:TypeId} {cs:List Value}
end
theorem Kp.setRow (w:World) (g:Nat) (cs:Array Value):Kp [g] w (w.setRow g cs):=⟨rfl,rfl,rfl,by simp,fun b _ hn=>setRow_other w g b cs (by simpa using hn)⟩
structure NB (w w':World) (t:TypeId) (cs:List Value):Prop where
 kp:Kp [] w w'
 blk:Blk w' w.heap.size t cs
 lt:w.heap.size<w'.heap.size
def CellsAt (w:World) (a:Addr) (cs:List Value):Prop:=∀ j v,cs[j]? = some v->w.cell? (a.add j)=some v
theorem add_add (a:Addr) (i j:Nat):(a.add i).add j=a.add (i+j):=by
 unfold Addr.add
 by_cases hi:i=0 <;> by_cases hj:j=0 <;> simp [hi,hj,Nat.add_assoc]
theorem fj (a:Addr) (n:Nat):(a.add n).block=a.block:=by unfold Addr.add; split <;> rfl
theorem add_lit (g i j:Nat):(⟨g,i,none⟩:Addr).add j=⟨g,i+j,none⟩:=by unfold Addr.add; split <;> simp_all
section
variable {w w':World} {a:Addr} {cs:List Value}
theorem CellsAt.keep (h:CellsAt w a cs) (k:w'.heap[a.block]? = w.heap[a.block]?):CellsAt w' a cs:=fun j v hv=>by
 exact (World.cell?_of_block (a:=a.add j) (by rw [fj]; exact k)).trans (h j v hv)
theorem CellsAt.shift (h:CellsAt w a cs) (i:Nat):CellsAt w (a.add i) (cs.drop i):=fun j v hv=>by
 rw [add_add]; exact h _ _ (by rw [<- hv,List.getElem?_drop])
theorem CellsAt.take (h:CellsAt w a cs) (i:Nat):CellsAt w a (cs.take i):=fun j v hv=>h j v (by
 rw [List.getElem?_take] at hv; split at hv
 ·exact hv
 ·cases hv)
theorem CellsAt.one (h:CellsAt w a cs) {j:Nat} {v:Value} (hv:cs[j]? = some v):w.cell? (a.add j)=some v:=h j v hv
theorem CellsAt.nil:CellsAt w a []:=fun j v hv=>by simp at hv
end
def I64 (n:Int):Prop:=-9223372036854775808<=n/\n<=9223372036854775807
inductive All2 {α β:Type} (R:α->β->Prop):List α->List β->Prop
 | nil:All2 R [] []
 | cons {a:α} {b:β} {asx:List α} {bs:List β}:R a b->All2 R asx bs->All2 R (a :: asx) (b :: bs)
section
variable {α β:Type} {R R':α->β->Prop}
theorem All2.imp {asx:List α} {bs:List β} (h:All2 R asx bs) (hh:∀ a b,R a b->R' a b):All2 R' asx bs:=by
 induction h with
 | nil=>exact .nil
 | cons h _ ih=>exact .cons (hh _ _ h) ih
theorem All2.length {asx:List α} {bs:List β} (h:All2 R asx bs):asx.length=bs.length:=by
 induction h with
 | nil=>rfl
 | cons _ _ ih=>simp [ih]
theorem All2.get {asx:List α} {bs:List β} (h:All2 R asx bs):∀ (i:Nat) (b:β),bs[i]? = some b->∃ a,asx[i]? = some a/\R a b:=by
 induction h with
 | nil=>intro i b hb; simp at hb
 | cons h _ ih=>
  intro i b hb
  cases i with
  | zero=>simp at hb; subst hb; exact ⟨_,rfl,h⟩
  | succ i=>simpa using ih i b (by simpa using hb)
theorem All2.append {asx asx':List α} {bs bs':List β} (h:All2 R asx bs) (h':All2 R asx' bs'):All2 R (asx++asx') (bs++bs'):=by
 induction h with
 | nil=>exact h'
 | cons h _ ih=>exact .cons h ih
theorem All2.take {asx:List α} {bs:List β} (h:All2 R asx bs):∀ n,All2 R (asx.take n) (bs.take n):=by
 induction h with
 | nil=>intro n; simp; exact .nil
 | cons h _ ih=>intro n; cases n with
  | zero=>exact .nil
  | succ n=>exact .cons h (ih n)
theorem All2.drop {asx:List α} {bs:List β} (h:All2 R asx bs):∀ n,All2 R (asx.drop n) (bs.drop n):=by
 induction h with
 | nil=>intro n; simp; exact .nil
 | cons h hh ih=>intro n; cases n with
  | zero=>exact .cons h hh
  | succ n=>exact ih n
end
class Rp (α:Type) where
 sz:Nat
 by_:Nat                        -- how many bytes an element of a slice takes
 tid:TypeId
 rp:Bool->Nat->Nat->World->List Value->α->Prop
 len:∀ {o lo hi w cs x},rp o lo hi w cs x->cs.length=sz
 one:∀ {o lo hi w cs x},rp o lo hi w cs x->∀ u ∈ cs,u.oneCell' = true
 keep:∀ {o lo hi w w' cs x},rp o lo hi w cs x->(∀ b,lo<=b->b<hi->w'.heap[b]? = w.heap[b]?)->rp o lo hi w' cs x
 mono:∀ {o lo hi lo' hi' w cs x},rp o lo hi w cs x->lo' <= lo->hi<=hi' -> rp o lo' hi' w cs x
 weak:∀ {o lo hi w cs x},rp o lo hi w cs x->rp false lo hi w cs x
 inner:List TypeId              -- of the rows inside
 mrk:Nat × Nat->Prop:=fun fr=>fr=(0,0)   -- the marks that a row of these may bear
 mrk0:mrk (0,0):=by exact rfl
 keepT:∀ {o lo hi w w' cs x},rp o lo hi w cs x->(inner=[]\/o=true)->(∀ b cur t fr,lo<=b->b<hi->w.heap[b]? = some (.cells cur t fr)->t ∈ inner->w'.heap[b]? = w.heap[b]?)->rp o lo hi w' cs x
def Sl {α:Type} [Rp α] (o:Bool) (lo hi:Nat) (w:World) (v:Value) (xs:List α):Prop:=
 ∃ a c css,v = .slice a xs.length c/\xs.length<=c/\(c<=maxLen/\xs.length*Rp.by_ α<=140737488355328)/\All2 (Rp.rp o lo hi w) css xs /\
  (xs=[]\/∃ A:Addr,a=some A/\lo<=A.block/\A.block<hi/\CellsAt w A css.flatten) /\
  (o=true->c=0\/∃ g cur fr,a=some ⟨g,0,none⟩/\lo<=g/\g<hi/\(w.heap[g]? = some (.cells cur (Rp.tid α) fr)/\Rp.mrk α fr)/\cur.size=c*Rp.sz α)
section
variable {α:Type} [Rp α] {o:Bool} {lo hi:Nat} {w w':World} {v:Value} {xs:List α}
theorem Sl.keep (h:Sl o lo hi w v xs) (k:∀ b,lo<=b->b<hi->w'.heap[b]? = w.heap[b]?):Sl o lo hi w' v xs:=by
 obtain ⟨a,c,css,hv,h1,h2,h3,h4,h5⟩:=h
 refine ⟨a,c,css,hv,h1,h2,h3.imp fun _ _ h=>Rp.keep h k,?_,fun ho=>?_⟩
 ·rcases h4 with h4 | ⟨A,hA,hlo,hhi,hc⟩
  ·exact .inl h4
  ·exact .inr ⟨A,hA,hlo,hhi,hc.keep (k _ hlo hhi)⟩
 ·rcases h5 ho with h5 | ⟨g,cur,fr,hg,hlo,hhi,hh,hs⟩
  ·exact .inl h5
  ·exact .inr ⟨g,cur,fr,hg,hlo,hhi,⟨(k g hlo hhi).trans hh.1,hh.2⟩,hs⟩
theorem Sl.mono {lo' hi':Nat} (h:Sl o lo hi w v xs) (h1:lo' <= lo) (h2:hi<=hi'):Sl o lo' hi' w v xs:=by
 obtain ⟨a,c,css,hv,ha,hb,h3,h4,h5⟩:=h
 refine ⟨a,c,css,hv,ha,hb,h3.imp fun _ _ h=>Rp.mono h h1 h2,?_,fun ho=>?_⟩
 ·rcases h4 with h4 | ⟨A,hA,hlo,hhi,hc⟩
  ·exact .inl h4
  ·exact .inr ⟨A,hA,by omega,by omega,hc⟩
 ·rcases h5 ho with h5 | ⟨g,cur,fr,hg,hlo,hhi,hh,hs⟩
  ·exact .inl h5
  ·exact .inr ⟨g,cur,fr,hg,by omega,by omega,hh,hs⟩
theorem Sl.weak (h:Sl o lo hi w v xs):Sl false lo hi w v xs:=by
 obtain ⟨a,c,css,hv,h1,h2,h3,h4,_⟩:=h
 exact ⟨a,c,css,hv,h1,h2,h3.imp fun _ _ h=>Rp.weak h,h4,fun ho=>by cases ho⟩
theorem Sl.keepT (h:Sl true lo hi w v xs) (k:∀ b cur t fr,lo<=b->b<hi->w.heap[b]? = some (.cells cur t fr)->t ∈ Rp.tid α :: Rp.inner α->w'.heap[b]? = w.heap[b]?):Sl true lo hi w' v xs:=by
 obtain ⟨a,c,css,hv,h1,h2,h3,h4,h5⟩:=h
 refine ⟨a,c,css,hv,h1,h2,h3.imp fun _ _ h=>Rp.keepT h (.inr rfl) fun b cur t fr a1 a2 a3 a4=>k b cur t fr a1 a2 a3 (List.mem_cons_of_mem _ a4),?_,fun _=>?_⟩
 ·rcases h4 with h4 | ⟨A,hA,hlo,hhi,hc⟩
  ·exact .inl h4
  ·refine .inr ⟨A,hA,hlo,hhi,?_⟩
   rcases h5 rfl with ha | ⟨g,cur,fr,hg,hlo',hhi',hh,hs⟩
   ·have hx:xs=[]:=List.eq_nil_of_length_eq_zero (by omega)
    subst hx
    cases h3
    exact CellsAt.nil
   ·rw [hA] at hg
    cases hg
    exact hc.keep (k _ _ _ _ hlo' hhi' hh.1 (by simp))
 ·rcases h5 rfl with h5 | ⟨g,cur,fr,hg,hlo,hhi,hh,hs⟩
  ·exact .inl h5
  ·exact .inr ⟨g,cur,fr,hg,hlo,hhi,⟨(k g _ _ _ hlo hhi hh.1 (by simp)).trans hh.1,hh.2⟩,hs⟩
theorem Sl.form (h:Sl o lo hi w v xs):∃ a c,v = .slice a xs.length c/\xs.length<=c/\c<=maxLen:=by
 obtain ⟨a,c,css,hv,h1,h2,_⟩:=h
 exact ⟨a,c,hv,h1,h2.1⟩
theorem Sl.one (h:Sl o lo hi w v xs):v.oneCell' = true:=by
 obtain ⟨a,c,rfl,_⟩:=h.form
 rfl
end
instance:Rp Int where
 sz:=1
 by_:=8
 tid:=3
 rp _ _ _ _ cs x:=cs=[.int .i64 x]/\I64 x
 len h:=by rw [h.1]; rfl
 one h:=by rw [h.1]; simp [Value.oneCell']
 keep h _:=h
 mono h _ _:=h
 weak h:=h
 inner:=[]
 keepT h _ _:=h
instance:Rp Bool where
 sz:=1
 by_:=1
 tid:=4
 rp _ _ _ _ cs x:=cs=[.bool x]
 len h:=by rw [h]; rfl
 one h:=by rw [h]; simp [Value.oneCell']
 keep h _:=h
 mono h _ _:=h
 weak h:=h
 inner:=[]
 keepT h _ _:=h
instance:Rp UInt8 where
 sz:=1
 by_:=1
 tid:=5
 rp _ _ _ _ cs x:=cs=[.int .u8 x.toNat]
 len h:=by rw [h]; rfl
 one h:=by rw [h]; simp [Value.oneCell']
 keep h _:=h
 mono h _ _:=h
 weak h:=h
 mrk _:=True
 mrk0:=trivial
 inner:=[]
 keepT h _ _:=h
structure U64 where
 n:Nat
deriving DecidableEq
instance:Rp U64 where
 sz:=1
 by_:=8
 tid:=90
 rp _ _ _ _ cs x:=cs=[.int .u64 x.n]/\x.n<18446744073709551616
 len h:=by rw [h.1]; rfl
 one h:=by rw [h.1]; simp [Value.oneCell']
 keep h _:=h
 mono h _ _:=h
 weak h:=h
 inner:=[]
 keepT h _ _:=h
structure Str where
 b:List UInt8
deriving DecidableEq
def Str.val (s:Str):Value:=.string ⟨s.b.toArray⟩
instance:Rp Str where
 sz:=1
 by_:=16
 tid:=9
 rp _ _ _ _ cs x:=cs=[x.val]/\x.b.length<=140737488355328
 len h:=by rw [h.1]; rfl
 one h:=by rw [h.1]; simp [Value.oneCell',Str.val]
 keep h _:=h
 mono h _ _:=h
 weak h:=h
 inner:=[]
 keepT h _ _:=h
instance (priority:=low) listRp {α:Type} [Rp α]:Rp (List α) where
 sz:=1
 by_:=24
 tid:=0
 rp o lo hi w cs xs:=∃ v,cs=[v]/\Sl o lo hi w v xs
 len h:=by obtain ⟨v,rfl,_⟩:=h; rfl
 one h:=by obtain ⟨v,rfl,h⟩:=h; simp [h.one]
 keep h k:=by obtain ⟨v,rfl,h⟩:=h; exact ⟨v,rfl,h.keep k⟩
 mono h h1 h2:=by obtain ⟨v,rfl,h⟩:=h; exact ⟨v,rfl,h.mono h1 h2⟩
 weak h:=by obtain ⟨v,rfl,h⟩:=h; exact ⟨v,rfl,h.weak⟩
 inner:=Rp.tid α :: Rp.inner α
 keepT h ho k:=by
  obtain ⟨v,rfl,h⟩:=h
  have ho':=ho.resolve_left (by simp)
  subst ho'
  exact ⟨v,rfl,h.keepT k⟩
instance pairRp {α β:Type} [Rp α] [Rp β]:Rp (α × β) where
 by_:=0
 sz:=Rp.sz α+Rp.sz β
 tid:=0
 rp o lo hi w cs x:=∃ c1 c2,cs=c1++c2/\Rp.rp o lo hi w c1 x.1/\Rp.rp o lo hi w c2 x.2
 len h:=by obtain ⟨c1,c2,rfl,h1,h2⟩:=h; rw [List.length_append,Rp.len h1,Rp.len h2]
 one h:=by
  obtain ⟨c1,c2,rfl,h1,h2⟩:=h
  intro u hu
  rcases List.mem_append.1 hu with hu | hu
  ·exact Rp.one h1 u hu
  ·exact Rp.one h2 u hu
 keep h k:=by obtain ⟨c1,c2,rfl,h1,h2⟩:=h; exact ⟨c1,c2,rfl,Rp.keep h1 k,Rp.keep h2 k⟩
 mono h ha hb:=by obtain ⟨c1,c2,rfl,h1,h2⟩:=h; exact ⟨c1,c2,rfl,Rp.mono h1 ha hb,Rp.mono h2 ha hb⟩
 weak h:=by obtain ⟨c1,c2,rfl,h1,h2⟩:=h; exact ⟨c1,c2,rfl,Rp.weak h1,Rp.weak h2⟩
 inner:=Rp.inner α++Rp.inner β
 keepT h ho k:=by
  obtain ⟨c1,c2,rfl,h1,h2⟩:=h
  exact ⟨c1,c2,rfl,Rp.keepT h1 (ho.imp (fun h=>(List.append_eq_nil_iff.1 h).1) id) fun b cur t fr a1 a2 a3 a4=>k b cur t fr a1 a2 a3 (List.mem_append_left _ a4),
   Rp.keepT h2 (ho.imp (fun h=>(List.append_eq_nil_iff.1 h).2) id) fun b cur t fr a1 a2 a3 a4=>k b cur t fr a1 a2 a3 (List.mem_append_right _ a4)⟩
@[reducible] def Rp.via {S T:Type} [Rp T] (t:TypeId) (b:Nat) (f:S->T):Rp S where
 by_:=b
 sz:=Rp.sz T
 tid:=t
 rp o lo hi w cs x:=Rp.rp o lo hi w cs (f x)
 len h:=Rp.len h
 one h:=Rp.one h
 keep h k:=Rp.keep h k
 mono h h1 h2:=Rp.mono h h1 h2
 weak h:=Rp.weak h
 inner:=Rp.inner T
 mrk fr:=fr=(0,0)
 mrk0:=rfl
 keepT h ho k:=Rp.keepT h ho k
section
variable {α:Type} [Rp α] {o:Bool} {lo hi:Nat} {w w':World} {cs:List Value} {x:α}
variable {v:Value} {xs:List α}
end
theorem I64.wrap {x:Int} (h:I64 x):IntKind.i64.wrap x=x:=IntWalk.i64_in x ⟨h.1,h.2⟩
theorem qR {m:Nat} (h:m<256):IntKind.u8.wrap (m:Int)=m:=by
 simp only [IntKind.wrap,IntKind.bits,IntKind.signed]
 simp
 omega
section
variable {P:Program} {n:Nat} {fr:Fr} {w:World} {x y z:Operand} {ty t t':TypeId}
theorem R.move {v:Value} (hx:ev fr x=some v):ao P n fr w (.move x) ty v w:=fun a _ _ _ _ ha=>by simp [execOp,ha.ev hx]
theorem R.assign {v:Value} (hx:ev fr x=some v):ao P n fr w (.assign x) ty v w:=fun a _ _ _ _ ha=>by simp [execOp,ha.ev hx]
theorem R.pP {v:Value} {b:Bool} (hc:ev fr z=some (.bool b)) (hb:b=true) (hx:ev fr x=some v):ao P n fr w (.pick z x y) ty v w:=fun a _ _ _ _ ha=>by
 subst hb; simp [execOp,ha.ev hc,ha.ev hx,asBool]
theorem R.pM {v:Value} {b:Bool} (hc:ev fr z=some (.bool b)) (hb:b=false) (hy:ev fr y=some v):ao P n fr w (.pick z x y) ty v w:=fun a _ _ _ _ ha=>by
 subst hb; simp [execOp,ha.ev hc,ha.ev hy,asBool]
theorem R.not {b:Bool} (hx:ev fr x=some (.bool b)):ao P n fr w (.unOp .not t x) ty (.bool (!b)) w:=fun a _ _ _ _ ha=>by
 simp [execOp,ha.ev hx,Op.unary]
section ints
variable {k:IntKind} {a b:Int}
theorem R.lss (hx:ev fr x=some (.int k a)) (hy:ev fr y=some (.int k b)):ao P n fr w (.binOp .lss t x y t') ty (.bool (decide (a<b))) w:=fun _ _ _ _ _ ha=>by
 simp [execOp,ha.ev hx,ha.ev hy,eqGuard_lss,binOp_lss]
theorem R.leq (hx:ev fr x=some (.int k a)) (hy:ev fr y=some (.int k b)):ao P n fr w (.binOp .leq t x y t') ty (.bool (decide (a<=b))) w:=fun _ _ _ _ _ ha=>by
 simp [execOp,ha.ev hx,ha.ev hy,eqGuard_leq,binOp_leq]
theorem R.gtr (hx:ev fr x=some (.int k a)) (hy:ev fr y=some (.int k b)):ao P n fr w (.binOp .gtr t x y t') ty (.bool (decide (b<a))) w:=fun _ _ _ _ _ ha=>by
 simp [execOp,ha.ev hx,ha.ev hy,eqGuard_gtr,binOp_gtr]
theorem R.geq (hx:ev fr x=some (.int k a)) (hy:ev fr y=some (.int k b)):ao P n fr w (.binOp .geq t x y t') ty (.bool (decide (b<=a))) w:=fun _ _ _ _ _ ha=>by
 simp [execOp,ha.ev hx,ha.ev hy,eqGuard_geq,binOp_geq]
theorem R.eql (hx:ev fr x=some (.int k a)) (hy:ev fr y=some (.int k b)):ao P n fr w (.binOp .eql t x y t') ty (.bool (decide (a=b))) w:=fun _ _ _ _ _ ha=>by
 simp [execOp,ha.ev hx,ha.ev hy,eqGuard_at_int,binOp_eql]; rfl
theorem R.neq (hx:ev fr x=some (.int k a)) (hy:ev fr y=some (.int k b)):ao P n fr w (.binOp .neq t x y t') ty (.bool (!decide (a=b))) w:=fun _ _ _ _ _ ha=>by
 simp [execOp,ha.ev hx,ha.ev hy,eqGuard_at_int,binOp_neq]; rfl
theorem R.BY (hx:ev fr x=some (.int k a)) (hy:ev fr y=some (.int k b)):ao P n fr w (.binOp .add t x y t') ty (.int k (k.wrap (a+b))) w:=fun _ _ _ _ _ ha=>by
 simp [execOp,ha.ev hx,ha.ev hy,eqGuard_add,binOp_add,Op.intArith]
theorem R.CD (hx:ev fr x=some (.int k a)) (hy:ev fr y=some (.int k b)):ao P n fr w (.binOp .sub t x y t') ty (.int k (k.wrap (a - b))) w:=fun _ _ _ _ _ ha=>by
 simp [execOp,ha.ev hx,ha.ev hy,eqGuard_sub,binOp_sub,Op.intArith]
theorem R.EM (hx:ev fr x=some (.int k a)) (hy:ev fr y=some (.int k b)):ao P n fr w (.binOp .mul t x y t') ty (.int k (k.wrap (a*b))) w:=fun _ _ _ _ _ ha=>by
 simp [execOp,ha.ev hx,ha.ev hy,eqGuard_mul,binOp_mul,Op.intArith]
theorem R.add (hx:ev fr x=some (.int .i64 a)) (hy:ev fr y=some (.int .i64 b)) (h:I64 (a+b)):ao P n fr w (.binOp .add t x y t') ty (.int .i64 (a+b)) w:=by
 have:=R.BY (P:=P) (n:=n) (w:=w) (ty:=ty) (t:=t) (t':=t') hx hy
 rwa [h.wrap] at this
theorem R.sub (hx:ev fr x=some (.int .i64 a)) (hy:ev fr y=some (.int .i64 b)) (h:I64 (a - b)):ao P n fr w (.binOp .sub t x y t') ty (.int .i64 (a - b)) w:=by
 have:=R.CD (P:=P) (n:=n) (w:=w) (ty:=ty) (t:=t) (t':=t') hx hy
 rwa [h.wrap] at this
theorem R.mul (hx:ev fr x=some (.int .i64 a)) (hy:ev fr y=some (.int .i64 b)) (h:I64 (a*b)):ao P n fr w (.binOp .mul t x y t') ty (.int .i64 (a*b)) w:=by
 have:=R.EM (P:=P) (n:=n) (w:=w) (ty:=ty) (t:=t) (t':=t') hx hy
 rwa [h.wrap] at this
theorem R.conv {k':IntKind} {d:TypeDesc} (hx:ev fr x=some (.int k a)) (hs:P.underlying t=some d) (hd:P.underlying t' = some (.int k')):ao P n fr w (.convert t t' x) ty (.int k' (k'.wrap a)) w:=fun _ _ _ _ _ ha=>by
 simp [execOp,ha.ev hx,convert,run_underlying hs,run_underlying hd,Conv.intToInt]
theorem R.min2 {asx:Array TypeId} (hx:ev fr x=some (.int k a)) (hy:ev fr y=some (.int k b)):ao P n fr w (.call { callee:=.builtin .min,args:=#[x,y],argTypes:=asx }) ty (.int k (min a b)) w:=fun _ _ _ _ _ ha=>by
 simp [execOp,resolve,invoke,builtin,ha.ev hx,ha.ev hy,run_min_int2]
 split <;> omega
theorem R.max2 {asx:Array TypeId} (hx:ev fr x=some (.int k a)) (hy:ev fr y=some (.int k b)):ao P n fr w (.call { callee:=.builtin .max,args:=#[x,y],argTypes:=asx }) ty (.int k (max a b)) w:=fun _ _ _ _ _ ha=>by
 simp [execOp,resolve,invoke,builtin,ha.ev hx,ha.ev hy,run_max_int2]
 split <;> omega
theorem R.Dw {a b:Nat} (hx:ev fr x=some (.int .i64 (a:Int))) (hy:ev fr y=some (.int .i64 (b:Int))) (h:a+b<=9223372036854775807):ao P n fr w (.binOp .add t x y t') ty (.int .i64 ((a+b:Nat):Int)) w:=by
 have:=R.add (P:=P) (n:=n) (w:=w) (ty:=ty) (t:=t) (t':=t') hx hy ⟨by omega,by omega⟩
 simpa using this
theorem R.BO {k:IntKind} {a b:Nat} (hx:ev fr x=some (.int k (a:Int))) (hy:ev fr y=some (.int k (b:Int))) (hb:0<b):ao P n fr w (.binOp .rem t x y t') ty (.int k ((a % b:Nat):Int)) w:=fun _ _ _ _ _ ha=>by
 have hb':¬ b=0:=by omega
 have e:(a:Int).tmod b=((a % b:Nat):Int):=by rw [Int.tmod_eq_emod_of_nonneg (by omega)]; omega
 simp [execOp,ha.ev hx,ha.ev hy,eqGuard_rem,binOp_rem,Op.intDiv,hb',e]
theorem R.By {k:IntKind} {a b:Nat} (hx:ev fr x=some (.int k (a:Int))) (hy:ev fr y=some (.int k (b:Int))) (hb:0<b) (hw:k.wrap ((a / b:Nat):Int)=((a / b:Nat):Int)):ao P n fr w (.binOp .quo t x y t') ty (.int k ((a / b:Nat):Int)) w:=fun _ _ _ _ _ ha=>by
 have hb':¬ b=0:=by omega
 have e:(a:Int).tdiv b=((a / b:Nat):Int):=by rw [Int.tdiv_eq_ediv_of_nonneg (by omega)]; omega
 simp [execOp,ha.ev hx,ha.ev hy,eqGuard_quo,binOp_quo,Op.intDiv,hb',e]
 simpa using hw
theorem R.Cd {b:UInt8} {d:TypeDesc} (hx:ev fr x=some (.int .u8 (b.toNat:Int))) (hs:P.underlying t=some d) (hd:P.underlying t' = some (.int .i64)):ao P n fr w (.convert t t' x) ty (.int .i64 (b.toNat:Int)) w:=by
 have:=R.conv (P:=P) (n:=n) (w:=w) (ty:=ty) hx hs hd
 have hb:=b.toNat_lt
 rwa [I64.wrap ⟨by omega,by omega⟩] at this
theorem R.DT {a b:UInt8} (hx:ev fr x=some (.int .u8 (a.toNat:Int))) (hy:ev fr y=some (.int .u8 (b.toNat:Int))):ao P n fr w (.binOp .and t x y t') ty (.int .u8 ((a &&& b).toNat:Int)) w:=fun _ _ _ _ _ ha=>by
 have e:bits .and .u8 (a.toNat:Int) (b.toNat:Int)=((a &&& b).toNat:Int):=by
  have h1:∀ c:UInt8,(BitVec.ofInt 8 (c.toNat:Int))=c.toBitVec:=fun c=>by
   rw [BitVec.ofInt_natCast]; exact BitVec.eq_of_toNat_eq (by simp)
  show IntKind.u8.wrap ((BitVec.ofInt 8 (a.toNat:Int) &&& BitVec.ofInt 8 (b.toNat:Int)).toNat:Int)=_
  rw [h1,h1,<- UInt8.toBitVec_and]
  have:=(a &&& b).toNat_lt
  exact qR this
 simp [execOp,ha.ev hx,ha.ev hy,eqGuard_and,binOp_and,intBits_and,e]
end ints
theorem R.EF {a b:Bool} (hx:ev fr x=some (.bool a)) (hy:ev fr y=some (.bool b)) (ht:P.underlying t=some .bool):ao P n fr w (.binOp .eql t x y t') ty (.bool (a == b)) w:=fun _ _ _ _ _ ha=>by
 simp [execOp,ha.ev hx,ha.ev hy,eqGuard_at_bool,run_eql_bool _ _ _ _ ht]
theorem R.Eo {a b:Bool} (hx:ev fr x=some (.bool a)) (hy:ev fr y=some (.bool b)) (ht:P.underlying t=some .bool):ao P n fr w (.binOp .neq t x y t') ty (.bool (!(a == b))) w:=fun _ _ _ _ _ ha=>by
 simp [execOp,ha.ev hx,ha.ev hy,eqGuard_at_bool,run_neq_bool _ _ _ _ ht]
theorem R.Ev {a b:Str} (hx:ev fr x=some a.val) (hy:ev fr y=some b.val):ao P n fr w (.binOp .eql t x y t') ty (.bool (decide (a=b))) w:=fun _ _ _ _ _ ha=>by
 have e:(a.b == b.b)=decide (a=b):=by
  rw [Bool.eq_iff_iff]
  cases a; cases b; simp
 simp [execOp,ha.ev hx,ha.ev hy,Str.val,eqGuard_at_string,binOp,Op.stringOp,e]
theorem R.DC {a b:Str} (hx:ev fr x=some a.val) (hy:ev fr y=some b.val):ao P n fr w (.binOp .neq t x y t') ty (.bool (!decide (a=b))) w:=fun _ _ _ _ _ ha=>by
 have e:(a.b == b.b)=decide (a=b):=by
  rw [Bool.eq_iff_iff]
  cases a; cases b; simp
 simp [execOp,ha.ev hx,ha.ev hy,Str.val,eqGuard_at_string,binOp,Op.stringOp,e]
theorem R.extract {vs:Array Value} {v:Value} {i:Nat} (hx:ev fr x=some (.tuple vs)) (hi:vs[i]? = some v):ao P n fr w (.extract x i) ty v w:=fun _ _ _ _ _ ha=>by
 simp [execOp,ha.ev hx,Instr.extract,hi]
theorem R.hP {a:Addr} (hx:ev fr x=some (.pointer (some a))):ao P n fr w (.nilCheck x) ty (.pointer (some a)) w:=fun _ _ _ _ _ ha=>by
 simp [execOp,ha.ev hx]
theorem R.sZ {f:FuncId} {a c:Array Value} (hx:ev fr x=some (.func (.func f) a c)):ao P n fr w (.nilCheck x) ty (.func (.func f) a c) w:=fun _ _ _ _ _ ha=>by
 simp [execOp,ha.ev hx]
theorem R.makeFunc {f:FuncId} {caps:Array Operand} {cv:Array Value} (h:∀ a,M n fr a->caps.map a.eval=cv):ao P n fr w (.makeFunc (.func f) #[] caps) ty (.func (.func f) #[] cv) w:=fun _ _ _ _ _ ha=>by
 simp [execOp,Instr.makeFunc,h _ ha]
theorem R.len {a:Option Addr} {m c:Nat} {e:TypeId} (hx:ev fr x=some (.slice a m c)) (ht:P.underlying t=some (.slice e)):ao P n fr w (.call { callee:=.builtin .len,args:=#[x],argTypes:=#[t] }) ty (.int .i64 (m:Int)) w:=fun _ _ _ _ _ ha=>by
 simp [execOp,resolve,invoke,builtin,ha.ev hx,Builtin.len_,run_underlying ht,goInt]
theorem R.FH {s:Str} (hx:ev fr x=some s.val) (ht:P.underlying t=some .string):ao P n fr w (.call { callee:=.builtin .len,args:=#[x],argTypes:=#[t] }) ty (.int .i64 (s.b.length:Int)) w:=fun _ _ _ _ _ ha=>by
 simp [execOp,resolve,invoke,builtin,ha.ev hx,Str.val,Builtin.len_,run_underlying ht,goInt]
 rfl
theorem R.vj {a:Option Addr} {m c:Nat} {e:TypeId} (hx:ev fr x=some (.slice a m c)) (hy:ev fr y=some (.slice none 0 0)) (ht:P.underlying t=some (.slice e)):ao P n fr w (.binOp .eql t x y t') ty (.bool a.isNone) w:=fun _ _ _ _ _ ha=>by
 simp [execOp,ha.ev hx,ha.ev hy,eqGuard_at_slice,Lib.run_eql_slice_nil w t e a m c 0 0 ht]
theorem R.wX {a:Option Addr} {m c:Nat} {e:TypeId} (hx:ev fr x=some (.slice a m c)) (hy:ev fr y=some (.slice none 0 0)) (ht:P.underlying t=some (.slice e)):ao P n fr w (.binOp .neq t x y t') ty (.bool (!a.isNone)) w:=fun _ _ _ _ _ ha=>by
 simp [execOp,ha.ev hx,ha.ev hy,eqGuard_at_slice,run_neq_slice_nil_any w t e a m c 0 0 ht]
theorem R.build {parts:Array (Nat × Operand)} {pv:List (Nat × Value)} {cells:Array Value} (hp:∀ a,M n fr a->(parts.map fun p=>(p.1,a.eval p.2))=pv.toArray) (hb:P.built t pv=some cells) :
  ao P n fr w (.build t parts) ty (.agg cells) w:=fun _ _ _ _ _ ha=>by
 have h1:=run_build (P:=P) w t pv.toArray cells (by simpa using hb)
 simp [execOp,hp _ ha,h1]
def ga:TypeDesc->Bool | .struct _=>true | .array _ _=>true | _=>false
theorem iL {d:TypeDesc} (hu:P.underlying t=some d) (w:World):(isAgg t).run P w = .ok (ga d) w:=by
 unfold isAgg
 rw [Sem.run_bind,run_underlying hu w]
 cases d <;> rfl
theorem nS {a:Addr} {v:Value} {d:TypeDesc} (hu:P.underlying t=some d) (hd:ga d=false) (hc:w.cell? a=some v):(loadVar t a).run P w = .ok v w:=by
 simp [loadVar,iL hu,hd,hc]
theorem oB {a:Addr} {cs:List Value} {d:TypeDesc} (hu:P.underlying t=some d) (hd:ga d=true) (hi:(P.info? t).map (·.size)=some cs.length) (hc:CellsAt w a cs):(loadVar t a).run P w = .ok (.agg cs.toArray) w:=by
 cases hq:P.info? t with
 | none=>simp [hq] at hi
 | some i=>
  have hs:i.size=cs.length:=by simpa [hq] using hi
  simp [loadVar,iL hu,hd,sizeOf,typeInfo,hq,hs,run_loadCells_list (P:=P) w a cs hc]
theorem R.zJ {a:Addr} {v:Value} {d:TypeDesc} (hx:ev fr x=some (.pointer (some a))) (hu:P.underlying t=some d) (hd:ga d=false) (hc:w.cell? a=some v):ao P n fr w (.load t x) ty v w:=fun _ _ _ _ _ ha=>by
 simp [execOp,ha.ev hx,Instr.loadAt,Instr.sureAddr,nS hu hd hc]
theorem R.tZ {a:Addr} {cs:List Value} {d:TypeDesc} (hx:ev fr x=some (.pointer (some a))) (hu:P.underlying t=some d) (hd:ga d=true) (hi:(P.info? t).map (·.size)=some cs.length) (hc:CellsAt w a cs) :
  ao P n fr w (.load t x) ty (.agg cs.toArray) w:=fun _ _ _ _ _ ha=>by
 simp [execOp,ha.ev hx,Instr.loadAt,Instr.sureAddr,oB hu hd hi hc]
theorem kJ {a:Addr} {f:Field} {s:Nat} (hs:(P.info? f.type).map (·.size)=some (s+1)):(fieldPlace a f).run P w = .ok (a.add f.offset) w:=by
 cases hq:P.info? f.type with
 | none=>simp [hq] at hs
 | some i=>
  have:i.size=s+1:=by simpa [hq] using hs
  simp [fieldPlace,sizeOf,typeInfo,hq,this]
theorem R.fieldAddr {a:Addr} {fs:Array Field} {i j s:Nat} {f:Field} (hx:ev fr x=some (.pointer (some a))) (ht:P.underlying t=some (.struct fs)) (hf:fs[i]? = some f) (ho:f.offset=j) (hs:(P.info? f.type).map (·.size)=some (s+1)) :
  ao P n fr w (.fieldAddr t x i) ty (.pointer (some (a.add j))) w:=fun _ _ _ _ _ ha=>by
 subst ho
 simp [execOp,ha.ev hx,Instr.fieldAt,run_underlying ht,hf,Instr.sureAddr,kJ hs]
theorem R.indexAddr {a:Option Addr} {A:Addr} {m c:Nat} {k:IntKind} {i:Int} {e:TypeId} {s:Nat} (hx:ev fr x=some (.slice a m c)) (hy:ev fr y=some (.int k i)) (ht:P.underlying t=some (.slice e)) (hs:(P.info? e).map (·.size)=some s)
  (hA:a=some A) (h0:0<=i) (h1:i<(m:Int)):ao P n fr w (.indexAddr t x y) ty (.pointer (some (A.add (i.toNat*s)))) w:=fun _ _ _ _ _ ha=>by
 subst hA
 cases hq:P.info? e with
 | none=>simp [hq] at hs
 | some q=>
  have:q.size=s:=by simpa [hq] using hs
  simp [execOp,ha.ev hx,ha.ev hy,Instr.indexAt,run_underlying ht,asIntOf,h0,h1,sizeOf,typeInfo,hq,this]
theorem R.eo {a:Option Addr} {A:Addr} {m c:Nat} {k:IntKind} {i:Nat} {e:TypeId} {s:Nat} (hx:ev fr x=some (.slice a m c)) (hy:ev fr y=some (.int k (i:Int))) (ht:P.underlying t=some (.slice e)) (hs:(P.info? e).map (·.size)=some s)
  (hA:a=some A) (h1:i<m):ao P n fr w (.indexAddr t x y) ty (.pointer (some (A.add (i*s)))) w:=by
 have:=R.indexAddr (P:=P) (n:=n) (w:=w) (ty:=ty) hx hy ht hs hA (by omega) (by omega)
 simpa using this
variable {Q:Exit->Act->World->Prop} {l rest:List Oper} {d:Nat} {pos:String} {af:Array Edge}
def Ah (fr:Fr):List Operand->Option (List Value)
 | []=>some []
 | x :: r=>
  match ev fr x,Ah fr r with
  | some v,some vs=>some (v :: vs)
  | _,_=>none
theorem nI {a:Act} (ha:M n fr a):∀ {xs:List Operand} {vs:List Value},Ah fr xs=some vs->xs.map a.eval=vs
 | [],vs,h=>by simp [Ah] at h; subst h; rfl
 | x :: r,vs,h=>by
  simp only [Ah] at h
  split at h
  ·rename_i v vs' hv hvs
   cases h
   simp [ha.ev hv,nI ha hvs]
  ·cases h
def uU (fr:Fr):List (Nat × Operand)->Option (List (Nat × Value))
 | []=>some []
 | (i,x) :: r=>
  match ev fr x,uU fr r with
  | some v,some vs=>some ((i,v) :: vs)
  | _,_=>none
theorem mL {a:Act} (ha:M n fr a):∀ {xs:List (Nat × Operand)} {vs:List (Nat × Value)},uU fr xs=some vs->xs.map (fun p=>(p.1,a.eval p.2))=vs
 | [],vs,h=>by simp [uU] at h; subst h; rfl
 | (i,x) :: r,vs,h=>by
  simp only [uU] at h
  split at h
  ·rename_i v vs' hv hvs
   cases h
   simp [ha.ev hv,mL ha hvs]
  ·cases h
theorem R.xb {parts:List (Nat × Operand)} {pv:List (Nat × Value)} {cells:Array Value} (hp:uU fr parts=some pv) (hb:P.built t pv=some cells):ao P n fr w (.build t parts.toArray) ty (.agg cells) w:=
 R.build (pv:=pv) (fun a ha=>by simp [<- mL ha hp]) hb
theorem kG (s:Nat):∀ (vss:List (List Value)) (k:Nat) (pre post:List Value),(∀ vs ∈ vss,vs.length=s)->pre.length=k*s->post.length=vss.length*s->∀ (pv:List (Nat × Value)),pv.map (fun p=>(p.1,p.2.cells.toList))=(List.range' k vss.length).zip vss ->
  Instr.fill (fun i=>some (i*s,s)) (pre++post).toArray pv=some (pre++vss.flatten).toArray
 | [],k,pre,post,_,_,hpost,pv,hpv=>by
  have:pv=[]:=by simpa using hpv
  subst this
  have:post=[]:=by simpa using hpost
  subst this
  simp [Instr.fill]
 | vs :: vss,k,pre,post,hl,hpre,hpost,[],hpv=>by simp [List.range'_succ] at hpv
 | vs :: vss,k,pre,post,hl,hpre,hpost,(i,v) :: pv,hpv=>by
  simp only [List.map_cons,List.length_cons,List.range'_succ,List.zip_cons_cons,List.cons.injEq,Prod.mk.injEq] at hpv
  obtain ⟨⟨hi,hv⟩,hpv⟩:=hpv
  subst hi
  have hvs:vs.length=s:=hl vs (by simp)
  have hsz:v.cells.size=s:=by rw [<- Array.length_toList,hv,hvs]
  have hpl:post.length=s+vss.length*s:=by rw [hpost,List.length_cons,Nat.add_mul]; omega
  have key:∀ (us:List Value) (j:Nat) (a b:List Value),us.length<=b.length->a.length=i*s+j ->
    (us.zipIdx j).foldl (fun cs (c:Value × Nat)=>cs.setIfInBounds (i*s+c.2) c.1) (a++b).toArray=(a++us++b.drop us.length).toArray:=by
   intro us
   induction us with
   | nil=>intro j a b _ _; simp
   | cons u us ih=>
    intro j a b hb ha
    cases b with
    | nil=>simp at hb
    | cons b0 b=>
     simp only [List.zipIdx_cons,List.foldl_cons]
     have:((a++b0 :: b).toArray.setIfInBounds (i*s+j) u)=((a++[u])++b).toArray:=by
      simp [<- ha]
     rw [this,ih (j+1) (a++[u]) b (by simpa using hb) (by simp [ha]; omega)]
     simp
  have hfold:v.cells.zipIdx.foldl (fun cs (c:Value × Nat)=>cs.setIfInBounds (i*s+c.2) c.1) (pre++post).toArray=((pre++vs)++post.drop s).toArray:=by
   have h1:=key vs 0 pre post (by omega) (by omega)
   rw [hvs] at h1
   have h2:v.cells=vs.toArray:=by simp [<- hv]
   rw [<- h1,h2]
   simp
  simp only [Instr.fill,hsz,ne_eq,not_true_eq_false]
  rw [if_neg (by simp [hpre,hpl])]
  have:=kG s vss (i+1) (pre++vs) (post.drop s) (fun x hx=>hl x (by simp [hx])) (by simp [hpre,hvs,Nat.add_mul]) (by simp [hpl]) pv (by simpa using hpv)
  refine Eq.trans ?_ (this.trans (by simp))
  congr 1
theorem E.call {f:FuncId} {asx:Array TypeId} {fn:Func} {xs:List Operand} {vs cap:List Value} (hx:ev fr x=some (.func (.func f) #[] cap.toArray)) (hvs:Ah fr xs=some vs) (hf:P.funcs[f]? = some fn) (hn:(fn.name == "runtime.NumGoroutine")=false) (hb:fn.body.isNone=false) :
  Enters P n fr w (.call { callee:=.value x,args:=xs.toArray,argTypes:=asx }) ty f (vs++cap).toArray:=fun _ _ _ _ _ ha=>by
 simp [execOp,resolve,ha.ev hx,Deferred.ofValue,invoke,callFunc,hf,show ¬ fn.name = "runtime.NumGoroutine" by simpa using hn,show ¬ fn.body=none by intro h; simp [h] at hb,nI ha hvs]
end
theorem nP:∀ {pre fr:Fr} {i:Nat},(∀ p ∈ pre,p.1≠i)->look (pre++fr) i=look fr i
 | [],_,_,_=>rfl
 | (j,v) :: r,fr,i,h=>by
  rw [List.cons_append,au,if_neg (h (j,v) (by simp))]
  exact nP fun p hp=>h p (by simp [hp])
theorem oQ:∀ {fr:Fr} {i:Nat} {v:Value},look fr i=some v->∃ q ∈ fr,q.1=i
 | [],_,_,h=>by cases h
 | (j,u) :: r,i,v,h=>by
  rw [au] at h
  by_cases hj:j=i
  ·exact ⟨(j,u),by simp,hj⟩
  ·rw [if_neg hj] at h
   obtain ⟨q,hq,he⟩:=oQ h
   exact ⟨q,by simp [hq],he⟩
section
variable {P:Program} {Q:Exit->Act->World->Prop} {n:Nat} {fr:Fr} {w:World}
end
theorem Cf {α:Type} {xs:List α} {i:Nat} {x:α} (h:xs[i]? = some x):i<xs.length:=(List.getElem?_eq_some_iff.1 h).1
theorem vb {b c:Bool} (h:b=c):Value.bool b = .bool c:=by rw [h]
def Ac {α:Type} [Rp α] (lo:Nat) (o2:Bool) (lo2 hi2 hi:Nat) (w:World) (v:Value) (xs:List α):Prop:=
 xs.length*Rp.by_ α<=140737488355328/\∃ css,((xs=[]/\∃ a,v = .slice a 0 0)\/(w.ownsRow lo (Rp.tid α) (Rp.sz α) v xs.length css.flatten/\∀ g,v.ownBlock=some g->g<hi))/\All2 (Rp.rp o2 lo2 hi2 w) css xs
def Src {α:Type} [Rp α] (o2:Bool) (lo2 hi2:Nat) (w:World) (A:Option Addr) (ys:List α):Prop:=
 ∃ css,All2 (Rp.rp o2 lo2 hi2 w) css ys/\(ys=[]\/∃ ad,A=some ad/\CellsAt w ad css.flatten)
def ob:Value->List Nat
 | .slice (some a) _ c=>if c=0 then [] else [a.block]
 | _=>[]
theorem ng {v:Value} {g:Nat} (h:g ∈ ob v):v.ownBlock=some g:=by
 cases v <;> simp only [ob,List.not_mem_nil] at h
 rename_i a n c
 cases a with
 | none=>simp at h
 | some a=>
  simp only at h
  split at h
  ·simp at h
  ·simp at h; simp [Value.ownBlock,h]
section
variable {α:Type} [Rp α] {lo lo2 hi2 hi:Nat} {o o2:Bool} {w w':World} {v:Value} {xs ys:List α}
theorem qz {w':World} {e:TypeId} {s n:Nat} {cs:List Value} (h:w.ownsRow lo e s v n cs) (k:∀ g,v.ownBlock=some g->w'.heap[g]? = w.heap[g]?):w'.ownsRow lo e s v n cs:=by
 refine ⟨h.1,?_⟩
 rcases h.2 with h0 | ⟨g,cap,cur,hv,hg,hh,r⟩
 ·exact .inl h0
 ·exact .inr ⟨g,cap,cur,hv,hg,(k g (by simp [hv,Value.ownBlock])).trans hh,r⟩
theorem Ac.keep (h:Ac lo o2 lo2 hi2 hi w v xs) (k:∀ b,lo<=b->b<hi->w'.heap[b]? = w.heap[b]?) (k2:∀ b,lo2<=b->b<hi2->w'.heap[b]? = w.heap[b]?):Ac lo o2 lo2 hi2 hi w' v xs:=by
 obtain ⟨hB,css,h1,h3⟩:=h
 refine ⟨hB,css,?_,h3.imp fun _ _ h=>Rp.keep h k2⟩
 rcases h1 with h0 | ⟨h1,h2⟩
 ·exact .inl h0
 ·exact .inr ⟨qz h1 fun g hg=>k g (h1.lt g hg).1 (h2 g hg),h2⟩
theorem Ac.mono {lo' lo2' hi2' hi':Nat} (h:Ac lo o2 lo2 hi2 hi w v xs) (a:lo' <= lo) (b:lo2' <= lo2) (b':hi2<=hi2') (c:hi<=hi'):Ac lo' o2 lo2' hi2' hi' w v xs:=by
 obtain ⟨hB,css,h1,h3⟩:=h
 refine ⟨hB,css,?_,h3.imp fun _ _ h=>Rp.mono h b b'⟩
 rcases h1 with h0 | ⟨h1,h2⟩
 ·exact .inl h0
 ·refine .inr ⟨⟨h1.1,?_⟩,fun g hg=>Nat.lt_of_lt_of_le (h2 g hg) c⟩
  rcases h1.2 with h0 | ⟨g,cap,cur,hv,hg,r⟩
  ·exact .inl h0
  ·exact .inr ⟨g,cap,cur,hv,by omega,r⟩
theorem Ac.weak (h:Ac lo o2 lo2 hi2 hi w v xs):Ac lo false lo2 hi2 hi w v xs:=by
 obtain ⟨hB,css,h1,h3⟩:=h
 exact ⟨hB,css,h1,h3.imp fun _ _ h=>Rp.weak h⟩
end
theorem mV {P:Program} {e:TypeId} {s b:Nat} {z:List Value} (h:(P.info? e).map (fun i=>(i.zero.map Value.cells,i.size,i.bytes))=some (some z.toArray,s,b)) :
  ∃ i zv,P.info? e=some i/\i.zero=some zv/\zv.cells=z.toArray/\i.size=s/\i.bytes=b:=by
 cases hq:P.info? e with
 | none=>simp [hq] at h
 | some i=>
  simp only [hq,Option.map_some,Option.some.injEq,Prod.mk.injEq,Option.map_eq_some_iff] at h
  obtain ⟨⟨zv,h1,h2⟩,h3,h4⟩:=h
  exact ⟨i,zv,rfl,h1,h2,h3,h4⟩
section
variable {P:Program} {n:Nat} {fr:Fr} {w:World} {x y:Operand} {ty t:TypeId} {Q:Exit->Act->World->Prop} {l rest:List Oper} {d:Nat} {pos:String} {af:Array Edge}
variable {α:Type} [Rp α] {lo lo2 hi2 hi:Nat} {o2:Bool} {v:Value} {xs ys:List α}
end
section
variable {P:Program} {Q:Exit->Act->World->Prop} {n:Nat} {fr:Fr} {w:World} {x y:Operand} {ty t:TypeId} {l rest:List Oper} {d:Nat} {pos:String} {af:Array Edge}
variable {α:Type} [Rp α] {lo lo2 hi2 hi:Nat} {o2:Bool} {xs:List α}
theorem lT (a:Addr):a.add 0=a:=by simp [Addr.add_zero']
theorem R.xZ {a a':Option Addr} {m c i j s:Nat} {kl kh:IntKind} {z z':Operand} (hx:ev fr x=some (.slice a m c)) (hz:ev fr z=some (.int kl (i:Int))) (hz':ev fr z' = some (.int kh (j:Int))) {e:TypeId} (ht:P.underlying t=some (.slice e)) (hs:(P.info? e).map (·.size)=some s)
  (ha:(if c=i then a else a.map (·.add (i*s)))=a') (hij:i<=j) (hj:j<=c):ao P n fr w (.slice t x (some z) (some z') none) ty (.slice a' (j - i) (c - i)) w:=fun _ _ _ _ _ hfr=>by
 subst ha
 cases hq:P.info? e with
 | none=>simp [hq] at hs
 | some q=>
  have hs':q.size=s:=by simpa [hq] using hs
  have he:P.elem t=e:=by simp [Program.elem,ht]
  have e0:=run_sliceAt_slice (P:=P) w t (.slice a m c) (some (.int kl (i:Int))) (some (.int kh (j:Int))) none (by rw [he]; exact ht)
  have:=run_slice_lh (P:=P) w t a m c (by rw [he]; exact ht) kl kh (i:Int) (j:Int) (by omega) (by omega) (by omega)
  simp [execOp,hfr.ev hx,hfr.ev hz,hfr.ev hz',e0,this,he,sizeOf,typeInfo,hq,hs',sliced,Result.andThen]
theorem R.Bk {a a':Option Addr} {m c j s:Nat} {kh:IntKind} {z':Operand} (hx:ev fr x=some (.slice a m c)) (hz':ev fr z' = some (.int kh (j:Int))) {e:TypeId} (ht:P.underlying t=some (.slice e)) (hs:(P.info? e).map (·.size)=some s)
  (ha:(if c=0 then a else a.map (·.add (0*s)))=a') (hj:j<=c):ao P n fr w (.slice t x none (some z') none) ty (.slice a' (j - 0) (c - 0)) w:=fun _ _ _ _ _ hfr=>by
 subst ha
 cases hq:P.info? e with
 | none=>simp [hq] at hs
 | some q=>
  have hs':q.size=s:=by simpa [hq] using hs
  have he:P.elem t=e:=by simp [Program.elem,ht]
  have e0:=run_sliceAt_slice (P:=P) w t (.slice a m c) none (some (.int kh (j:Int))) none (by rw [he]; exact ht)
  have:=run_slice_h (P:=P) w t a m c (by rw [he]; exact ht) kh (j:Int) (by omega) (by omega)
  simp [execOp,hfr.ev hx,hfr.ev hz',e0,this,he,sizeOf,typeInfo,hq,hs',sliced,Result.andThen]
theorem R.BF {a a':Option Addr} {m c i s:Nat} {kl:IntKind} {z:Operand} (hx:ev fr x=some (.slice a m c)) (hz:ev fr z=some (.int kl (i:Int))) {e:TypeId} (ht:P.underlying t=some (.slice e)) (hs:(P.info? e).map (·.size)=some s)
  (ha:(if c=i then a else a.map (·.add (i*s)))=a') (hj:i<=m):ao P n fr w (.slice t x (some z) none none) ty (.slice a' (m - i) (c - i)) w:=fun _ _ _ _ _ hfr=>by
 subst ha
 cases hq:P.info? e with
 | none=>simp [hq] at hs
 | some q=>
  have hs':q.size=s:=by simpa [hq] using hs
  have he:P.elem t=e:=by simp [Program.elem,ht]
  have e0:=run_sliceAt_slice (P:=P) w t (.slice a m c) (some (.int kl (i:Int))) none none (by rw [he]; exact ht)
  have:=run_slice_l (P:=P) w t a m c (by rw [he]; exact ht) kl (i:Int) (by omega) (by omega)
  simp [execOp,hfr.ev hx,hfr.ev hz,e0,this,he,sizeOf,typeInfo,hq,hs',sliced,Result.andThen]
def Str.cut (s:Str) (i j:Nat):Str:=⟨(s.b.drop i).take (j - i)⟩
theorem Str.mS (s:Str) (i j:Nat):(Value.string ((⟨s.b.toArray⟩:ByteArray).extract i j))=(s.cut i j).val:=by
 simp only [Str.val,Str.cut]
 congr 1
 apply ByteArray.ext
 apply Array.ext'
 simp [ByteArray.data_extract]
theorem R.Eu {s:Str} {j:Nat} {kh:IntKind} {z':Operand} (hx:ev fr x=some s.val) (hz':ev fr z' = some (.int kh (j:Int))) (ht:P.underlying t=some .string) (hj:j<=s.b.length) :
  ao P n fr w (.slice t x none (some z') none) ty (s.cut 0 j).val w:=fun _ _ _ _ _ hfr=>by
 have e0:=run_sliceAt_string (P:=P) w t (.string ⟨s.b.toArray⟩) none (some (.int kh (j:Int))) none ht
 have:=run_slice_string_h (P:=P) w t ⟨s.b.toArray⟩ ht kh (j:Int) (by omega) (by show (j:Int)<=((s.b.toArray.size:Nat):Int); simp; omega)
 rw [<- Str.mS s 0 j]
 simp only [Str.val] at hx
 simp [execOp,hfr.ev hx,hfr.ev hz',e0,this]
theorem wrap_u8 (a:Nat):IntKind.u8.wrap (a:Int)=(((UInt8.ofNat a).toNat:Nat):Int):=by
 rw [UInt8.toNat_ofNat']
 show (a:Int) % 256=_
 omega
theorem wrap_u64 {a:Nat} (h:a<18446744073709551616):IntKind.u64.wrap (a:Int)=(a:Int):=by
 show (a:Int) % 18446744073709551616=_
 omega
theorem R.Cw {k:IntKind} {a:Nat} {t':TypeId} {dd:TypeDesc} (hx:ev fr x=some (.int k (a:Int))) (hs:P.underlying t=some dd) (hd:P.underlying t' = some (.int .u8)):ao P n fr w (.convert t t' x) ty (.int .u8 (((UInt8.ofNat a).toNat:Nat):Int)) w:=by
 have:=R.conv (P:=P) (n:=n) (w:=w) (ty:=ty) hx hs hd
 rwa [wrap_u8] at this
theorem R.tW {k:IntKind} {a:Nat} {t':TypeId} {dd:TypeDesc} (hx:ev fr x=some (.int k (a:Int))) (hs:P.underlying t=some dd) (hd:P.underlying t' = some (.int .u64)) (h:a<18446744073709551616):ao P n fr w (.convert t t' x) ty (.int .u64 (a:Int)) w:=by
 have:=R.conv (P:=P) (n:=n) (w:=w) (ty:=ty) hx hs hd
 rwa [wrap_u64 h] at this
theorem R.Ey {a b:UInt8} {t':TypeId} (hx:ev fr x=some (.int .u8 (a.toNat:Int))) (hy:ev fr y=some (.int .u8 (b.toNat:Int))):ao P n fr w (.binOp .or t x y t') ty (.int .u8 ((a ||| b).toNat:Int)) w:=fun _ _ _ _ _ ha=>by
 have e:bits .or .u8 (a.toNat:Int) (b.toNat:Int)=((a ||| b).toNat:Int):=by
  have h1:∀ c:UInt8,(BitVec.ofInt 8 (c.toNat:Int))=c.toBitVec:=fun c=>by
   rw [BitVec.ofInt_natCast]; exact BitVec.eq_of_toNat_eq (by simp)
  show IntKind.u8.wrap ((BitVec.ofInt 8 (a.toNat:Int) ||| BitVec.ofInt 8 (b.toNat:Int)).toNat:Int)=_
  rw [h1,h1,<- UInt8.toBitVec_or]
  have:=(a ||| b).toNat_lt
  exact qR this
 simp [execOp,ha.ev hx,ha.ev hy,eqGuard_or,binOp_or,intBits_or,e]
theorem R.Bm {k kc:IntKind} {a b:Nat} {t':TypeId} (hx:ev fr x=some (.int k (a:Int))) (hy:ev fr y=some (.int kc (b:Int))) (hb:b<=k.bits):ao P n fr w (.binOp .shr t x y t') ty (.int k ((a / 2 ^ b:Nat):Int)) w:=fun _ _ _ _ _ ha=>by
 have e:(a:Int) / 2 ^ min (b:Int).toNat k.bits=((a / 2 ^ b:Nat):Int):=by
  rw [Int.toNat_natCast,Nat.min_eq_left hb]; simp
 simp [execOp,ha.ev hx,ha.ev hy,eqGuard_shr,binOp_shr,shift_shr_any _ _ _ _ (Int.natCast_nonneg b)]
 simpa using e
end
structure Sp where
 deps:List Nat
 S:List Nat
 V:Value->World->Prop
def Sp.ex (deps:List Nat) (c:Value):Sp:=⟨deps,[],fun u _=>u=c⟩
def spAt (sp:List Sp) (i:Nat):Sp:=sp.getD i ⟨[],[],fun _ _=>True⟩
def qS:List Sp->List Nat
 | []=>[]
 | s :: r=>s.S++qS r
def jZ:List Sp->Nat->List Nat
 | [],_=>[]
 | _ :: r,0=>qS r
 | s :: r,i+1=>s.S++jZ r i
def bB (l:List Oper) (fr:Fr) (vs:Nat->Value):List Nat->Fr
 | []=>fr
 | j :: r=>match idst l j with
  | some d=>(d,vs j) :: bB l fr vs r
  | none=>bB l fr vs r
def cO (sp:List Sp) (vs:Nat->Value) (w:World):List Nat->Prop
 | []=>True
 | j :: r=>(spAt sp j).V (vs j) w/\cO sp vs w r
def jd (N:Nat) (d?:Option Nat) (S:List Nat) (V:Value->World->Prop) (w:World):Exit->Act->World->Prop:=
 fun e a' w'=>e = .normal/\a'.defers=[]/\∃ v,(∀ d,d? = some d->d<N/\a'.tmps.getD d undef=v)/\V v w' /\ Kp S w w'
theorem WX.gA {N d:Nat} {S:List Nat} {V:Value->World->Prop} {w w':World} {fr:Fr} {v:Value} (h:look fr d=some v) (hV:V v w') (hk:Kp S w w'):WX (jd N (some d) S V w) N .normal fr w':=
 fun _ ha=>⟨rfl,ha.1,v,fun d' hd=>by cases hd; exact ha.2.2 _ _ h,hV,hk⟩
def cn (o:Oper):List Nat:=(o.after.toList.filter (Region.binds .any ·)).map (·.on)
def aI (l:List Oper) (i:Nat):List Nat:=match l[i]? with | some o=>cn o | none=>[]
def fH (l:List Oper) (sp:List Sp) (slots:List Nat) (n:Nat):Bool:=
  decide (n<=l.length) && decide (sp.length=n) &&
  ((List.range n).all fun i=>(aI l i).all (fun j=>decide (j<i)) &&
    (spAt sp i).deps.all (fun j=>decide (j<i) && ((aI l i).contains j || (aI l i).any (fun k=>(spAt sp k).deps.contains j))) &&
    (match idst l i with
     | some d=>!slots.contains d && (List.range n).all (fun j=>j == i || idst l j != some d)
     | none=>true)) &&
  ((decide (n=l.length)) || (Region.sinkB .any l.toArray n && Region.chainB .any l.toArray n)) &&
  Region.seqB .any l.toArray (l.length - n) n ((Array.replicate n true)++(Array.replicate (l.length - n) false))
theorem vN {x y:Array Bool} (hs:x.size=y.size) (h:∀ i,i<x.size->x.getD i false=y.getD i false):x=y:=by
 apply Array.ext hs
 intro i h1 h2
 have:=h i h1
 simpa [Array.getD,h1,h2] using this
theorem countP_set {n i:Nat} {p q:Nat->Bool} (hi:i<n) (hp:p i=true) (hq:q i=false) (h:∀ j,j≠i->q j=p j):(List.range n).countP q+1=(List.range n).countP p:=by
 induction n with
 | zero=>omega
 | succ n ih=>
  rw [List.range_succ,List.countP_append,List.countP_append]
  by_cases hn:i=n
  ·subst hn
   have:(List.range i).countP q=(List.range i).countP p:=List.countP_congr fun j hj=>by rw [h j (by have:=List.mem_range.1 hj; omega)]
   simp [this,hp,hq]
  ·have:=ih (by omega)
   have e:q n=p n:=h n (fun e=>hn e.symm)
   simp only [List.countP_singleton,e]
   omega
theorem pw {F:Fence} {m:Nat} {P:Program} {o:Oper} {a:Act} {K K':Act->World->Prop} {Q Q':Exit->Act->World->Prop} {r:Result Next} (h:o.uponIn F m P a K Q r) (hK:∀ v w,K (a.put o.dst v) w->K' (a.put o.dst v) w) (hD:∀ d w,¬ K ({ a with defers:=d :: a.defers }.put o.dst undef) w)
  (hQ:∀ e a w,e ≠ .normal->¬ Q e a w):o.uponIn F m P a K' Q' r:=by
 have hE:∀ (e:Ending) (w'':World),(match e,w'' with | .returned v,w''=>K (a.put o.dst v) w'' | .panicked chain,w''=>Q (.panic chain) a w'' | .outgrown,_=>LetsOut Q) ->
   (match e,w'' with | .returned v,w''=>K' (a.put o.dst v) w'' | .panicked chain,w''=>Q' (.panic chain) a w'' | .outgrown,_=>LetsOut Q'):=fun e w'' he=>by
  cases e with
  | returned v=>exact hK _ _ he
  | panicked c=>exact absurd he (hQ _ _ _ (by simp))
  | outgrown=>obtain ⟨a',w',h'⟩:=he; exact absurd h' (hQ _ _ _ (by simp))
 cases r with
 | ok x w'=>
  cases x <;> simp only [Oper.uponIn] at h ⊢
  case value u=>exact hK _ _ h
  case skip=>exact hK _ _ h
  case defer d=>exact absurd h (hD _ _)
  case enter f args=>exact ⟨h.1,CallsIn.mono h.2 hE⟩
  case row r args=>exact ⟨h.1,RowsIn.mono h.2 fun v w'' hv=>hK _ _ hv⟩
  case round l f tmps assign body=>exact ⟨h.1,RoundIn.mono h.2 hE⟩
 | halt x w'=>
  cases x <;> simp only [Oper.uponIn] at h ⊢
  exact absurd h (hQ _ _ _ (by simp))
theorem eU {F:Fence} {m:Nat} {P:Program} {ops:Array Oper} {md:Region.Mode} {Q':Exit->Act->World->Prop}:∀ (l:List Oper) (k:Nat) (listed:Array Bool) (a:Act) (w:World),(∀ j,l[j]? = ops[k+j]?) ->
  Region.seqB md ops l.length k listed=true->wpListIn F m P ops Q' l a w->wpAnyIn F m P md ops Q' l.length listed a w
 | [],_,_,_,_,_,hB,h=>⟨by simpa [Region.seqB] using hB,h⟩
 | o :: l,k,listed,a,w,hl,hB,h=>by
  have h0:ops[k]? = some o:=by simpa using (hl 0).symm
  simp only [List.length_cons,Region.seqB,Bool.and_eq_true,decide_eq_true_eq] at hB
  refine ⟨fun h1=>(by rw [hB.1] at h1; cases h1),fun i hi=>?_⟩
  rw [hB.1] at hi
  have hik:i=k:=by simpa using hi
  subst hik
  have hw:wpOpIn F m P ops Q' i (wpListIn F m P ops Q' l) a w:=by unfold wpOpIn; simp only [h0]; exact h
  exact wpOpIn_mono (fun a' w' h'=>eU l (i+1) _ a' w' (fun j=>by have:=hl (j+1); simpa [Nat.add_assoc,Nat.add_comm 1 j] using this) hB.2 h') hw
theorem kM:∀ {sp:List Sp} {i j:Nat},i<sp.length->i≠j->∀ g ∈ (spAt sp i).S,g ∈ jZ sp j
 | s :: r,0,0,_,hne,g,_=>absurd rfl hne
 | s :: r,0,j+1,_,_,g,hg=>List.mem_append_left _ hg
 | s :: r,i+1,0,hi,_,g,hg=>by
  have:∀ (r:List Sp) (i:Nat),i<r.length->g ∈ (spAt r i).S->g ∈ qS r:=by
   intro r
   induction r with
   | nil=>intro i hi; simp at hi
   | cons s r ih=>
    intro i hi hg
    cases i with
    | zero=>exact List.mem_append_left _ hg
    | succ i=>exact List.mem_append_right _ (ih i (by simpa using hi) hg)
  exact this r i (by simpa using hi) hg
 | s :: r,i+1,j+1,hi,hne,g,hg=>List.mem_append_right _ (kM (sp:=r) (by simpa using hi) (by omega) g hg)
 | [],i,j,hi,_,_,_=>by simp at hi
theorem oJ:∀ {r:List Sp} {i:Nat},i<r.length->∀ g ∈ (spAt r i).S,g ∈ qS r
 | s :: r,0,_,g,hg=>List.mem_append_left _ hg
 | s :: r,i+1,hi,g,hg=>List.mem_append_right _ (oJ (by simpa using hi) g hg)
 | [],i,hi,g,hg=>by simp at hi
section
variable {P:Program} {Q:Exit->Act->World->Prop} {N n id:Nat} {l:List Oper} {sp:List Sp} {fr:Fr} {w:World}
structure DInv (N n:Nat) (l:List Oper) (sp:List Sp) (fr:Fr) (w0:World) (listed:Array Bool) (a:Act) (w:World):Prop where
 head:HeadInv .any l.toArray n listed
 clo:∀ i,i<n->listed.getD i false=true->∀ j ∈ (spAt sp i).deps,listed.getD j false=true
 fr:M N fr a
 vals:∃ vs:Nat->Value,∀ i,i<n->listed.getD i false=true->(∀ d,idst l i=some d->d<N/\a.tmps.getD d undef=vs i)/\(spAt sp i).V (vs i) w
 kp:∃ S,Kp S w0 w/\∀ g ∈ S,∃ i,i<n/\listed.getD i false=true/\g ∈ (spAt sp i).S
theorem fL {a:Act} (hfr:M N fr a) {vs:Nat->Value}:∀ (ds:List Nat),(∀ j ∈ ds,∀ d,idst l j=some d->d<N/\a.tmps.getD d undef=vs j)->M N (bB l fr vs ds) a
 | [],_=>hfr
 | j :: r,h=>by
  have ih:=fL hfr (vs:=vs) r fun j hj=>h j (List.mem_cons_of_mem _ hj)
  unfold bB
  split
  ·rename_i d hd
   refine ⟨ih.1,ih.2.1,fun i v hv=>?_⟩
   rw [au] at hv
   by_cases hi:d=i
   ·subst hi
    rw [if_pos rfl] at hv
    cases hv
    exact h j (by simp) d hd
   ·rw [if_neg hi] at hv
    exact ih.2.2 i v hv
  ·exact ih
theorem fN {vs:Nat->Value} {w:World}:∀ (ds:List Nat),(∀ j ∈ ds,(spAt sp j).V (vs j) w)->cO sp vs w ds
 | [],_=>trivial
 | j :: r,h=>⟨h j (by simp),fN r fun j hj=>h j (List.mem_cons_of_mem _ hj)⟩
theorem WC.draw (hm:P.follows .mixedOrders=true) (sp:List Sp) (n:Nat) (hB:fH l sp (fr.map (·.1)) n=true)
    (stab:∀ i,i<n->∀ v w w',(spAt sp i).V v w->Kp (jZ sp i) w w' -> (spAt sp i).V v w')
    (ops:∀ i o,i<n->l[i]? = some o->∀ vs w1,Kp (jZ sp i) w w1->cO sp vs w1 (spAt sp i).deps->WO P (jd N (idst l i) (spAt sp i).S (spAt sp i).V w1) N l [o] (bB l fr vs (spAt sp i).deps) w1)
    (tail:∀ vs w1,Kp (qS sp) w w1->cO sp vs w1 (List.range n)->WO P Q N l (l.drop n) (bB l fr vs (List.range n)) w1):WC P Q N (.region id l.toArray true) fr w:=by
  intro a ha ro ds
  simp only [fH,Bool.and_eq_true,decide_eq_true_eq,List.all_eq_true,List.mem_range,Bool.or_eq_true] at hB
  obtain ⟨⟨⟨⟨hnl,hsp⟩,hops⟩,hsc⟩,hseq⟩:=hB
  refine wpIn_region_any hm ?_
  have main:∀ f listed a w1,(List.range n).countP (fun i=>!listed.getD i false)=f->DInv N n l sp fr w listed a w1->wpAnyIn (gY ro) 0 P .any l.toArray (gB ds Q) (f+(l.length - n)) listed (eE a ds) w1:=by
    intro f
    induction f with
    | zero=>
      intro listed a w1 hc inv
      have hall:∀ i,i<n->listed.getD i false=true:=fun i hi=>by
        have:=List.countP_eq_zero.1 hc i (List.mem_range.2 hi)
        simpa using this
      have hl:listed=Array.replicate n true++Array.replicate (l.length - n) false:=by
        have hsz:=inv.head.size
        refine vN (by rw [hsz]; simp; omega) fun i hi=>?_
        rw [hsz] at hi
        have hi':i<l.length:=by simpa using hi
        by_cases hin:i<n
        · rw [hall i hin,Array.getD_eq_getD_getElem?,Array.getElem?_append_left (by simpa using hin)]
          simp [hin]
        · have h2:=inv.head.tail i (by omega) hi
          have h3:listed.getD i false=false:=getD_both h2
          rw [h3,Array.getD_eq_getD_getElem?,Array.getElem?_append_right (by simp; omega)]
          simp only [Array.size_replicate,Array.getElem?_replicate]
          split <;> rfl
      rw [<- hl] at hseq
      obtain ⟨vs,hv⟩:=inv.vals
      obtain ⟨S,hk,hS⟩:=inv.kp
      have hM:M N (bB l fr vs (List.range n)) a:=fL inv.fr _ fun j hj d hd=>(hv j (List.mem_range.1 hj) (hall j (List.mem_range.1 hj))).1 d hd
      have ht:=tail vs w1 (hk.sub fun g hg=>by
        obtain ⟨i,hi,_,h⟩:=hS g hg
        exact oJ cQ g h) (fN _ fun j hj=>(hv j (List.mem_range.1 hj) (hall j (List.mem_range.1 hj))).2) a hM ro ds
      have hdl:(l.drop n).length=l.length - n:=by simp
      have:=eU (F:=gY ro) (m:=0) (P:=P) (md:=.any) (ops:=l.toArray) (Q':=gB ds Q) (l.drop n) n listed (eE a ds) w1 (fun j=>by simp [List.getElem?_drop]) (by rw [hdl]; exact hseq) ht
      rw [hdl] at this
      rw [Nat.zero_add]
      exact this
    | succ f ih=>
      intro listed a w1 hc inv
      have hex:∃ i,i<n/\listed.getD i false=false/\∀ j,j<i->listed.getD j false=true:=by
        have h1:∃ i,i<n/\listed.getD i false=false:=by
          have:0<(List.range n).countP (fun i=>!listed.getD i false):=by omega
          obtain ⟨i,hi,hp⟩:=List.countP_pos_iff.1 this
          exact ⟨i,List.mem_range.1 hi,by simpa using hp⟩
        obtain ⟨i,hi,hp⟩:=h1
        have hmin:∀ m,∀ i,i<n->listed.getD i false=false->i<=m->∃ i,i<n/\listed.getD i false=false/\∀ j,j<i->listed.getD j false=true:=by
          intro m
          induction m with
          | zero=>intro i hi hp him; exact ⟨i,hi,hp,fun j hj=>by omega⟩
          | succ m ihm=>
            intro i hi hp him
            by_cases hlt:∃ j,j<i/\listed.getD j false=false
            · obtain ⟨j,hj,hpj⟩:=hlt
              exact ihm j cQ hpj cQ
            · exact ⟨i,hi,hp,fun j hj=>by
                cases h:listed.getD j false with
                | true=>rfl
                | false=>exact absurd ⟨j,hj,h⟩ hlt⟩
        exact hmin i i hi hp (Nat.le_refl _)
      obtain ⟨m,hmn,hmu,hmall⟩:=hex
      have hsz:=inv.head.size
      have hin:∀ i,i<n->listed.getD i false=false->listed.getD i true=false:=fun i hi h=>getD_in (by rw [hsz]; simp; omega) h
      have hready:m ∈ Region.ready .any l.toArray listed:=by
        have hml:m<l.length:=by omega
        refine mem_ready.2 ⟨hin m hmn hmu,l[m],by simp [hml],fun e he hb=>?_⟩
        have h1:=(hops m hmn).1.1 e.on (by
          simp only [aI,List.getElem?_eq_getElem hml,cn,List.mem_map,List.mem_filter]
          exact ⟨e,⟨by simpa using he,hb⟩,rfl⟩)
        exact hmall _ h1
      rw [show f+1+(l.length - n)=(f+(l.length - n))+1 by omega]
      refine ⟨fun h0=>(by rw [h0] at hready; cases hready),fun i hi=>?_⟩
      have hil:i<l.length:=by
        obtain ⟨_,o,ho,_⟩:=mem_ready.1 hi
        simpa using (Array.getElem?_eq_some_iff.1 ho).1
      have hin':i<n:=by
        rcases Nat.lt_or_ge i n with h | h
        · exact h
        · rcases hsc with hsc | hsc
          · omega
          · exact absurd hi (tail_waits hsc.1 hsc.2 (by simp; omega) inv.head _ m rfl hmn (hin m hmn hmu) i h)
      obtain ⟨hun,o,ho,hafter⟩:=mem_ready.1 hi
      have ho':l[i]? = some o:=by simpa using ho
      have hun':listed.getD i false=false:=getD_both hun
      obtain ⟨vs,hv⟩:=inv.vals
      obtain ⟨S,hk,hS⟩:=inv.kp
      -- what it leans on has come
      have hpre:∀ k ∈ aI l i,listed.getD k false=true:=fun k hk=>by
        simp only [aI,ho',cn,List.mem_map,List.mem_filter] at hk
        obtain ⟨e,⟨he,hb⟩,rfl⟩:=hk
        exact hafter e (by simpa using he) hb
      have hdeps:∀ j ∈ (spAt sp i).deps,j<i/\listed.getD j false=true:=fun j hj=>by
        have h1:=(hops i hin').1.2 j hj
        refine ⟨h1.1,?_⟩
        rcases h1.2 with h2 | h2
        · exact hpre j (by simpa using h2)
        · obtain ⟨k,hk,hk2⟩:=List.any_eq_true.1 h2
          have hki:k<i:=(hops i hin').1.1 k hk
          exact inv.clo k cQ (hpre k hk) j (by simpa using hk2)
      have hko:Kp (jZ sp i) w w1:=hk.sub fun g hg=>by
        obtain ⟨j,hj,hlj,hgj⟩:=hS g hg
        exact kM (by omega) (fun e=>by subst e; rw [hun'] at hlj; cases hlj) g hgj
      have hM:M N (bB l fr vs (spAt sp i).deps) a:=fL inv.fr _ fun j hj d hd=>(hv j (by have:=hdeps j hj; omega) (hdeps j hj).2).1 d hd
      have hf:cO sp vs w1 (spAt sp i).deps:=fN _ fun j hj=>(hv j (by have:=hdeps j hj; omega) (hdeps j hj).2).2
      have hw:=ops i o hin' ho' vs w1 hko hf a hM ro ds
      have step:∀ v w2,jd N (idst l i) (spAt sp i).S (spAt sp i).V w1 .normal (a.put o.dst v) w2->wpAnyIn (gY ro) 0 P .any l.toArray (gB ds Q) (f+(l.length - n)) (listed.setIfInBounds i true) (eE (a.put o.dst v) ds) w2:=by
        intro v w2 ⟨_,_,u,hu,hV,hk2⟩
        have hdst:idst l i=o.dst:=by rw [ek,ho']; rfl
        have hset:∀ j,(listed.setIfInBounds i true).getD j false=if j=i then true else listed.getD j false:=fun j=>by
          by_cases hj:j=i
          · subst hj; simp [Array.getD,hsz,hil]
          · rw [getD_set_ne false (Ne.symm hj),if_neg hj]
        refine ih _ _ _ ?_ ⟨inv.head.set hi hin',?_,?_,?_,?_⟩
        · have:=countP_set (n:=n) (i:=i) (p:=fun j=>!listed.getD j false) (q:=fun j=>!(listed.setIfInBounds i true).getD j false) hin' (by simp [hun']) (by simp [hset]) (fun j hj=>by simp [hset,hj])
          omega
        · intro j hj hlj d hd
          rw [hset]
          by_cases hdi:d=i
          · simp [hdi]
          · rw [if_neg hdi]
            by_cases hji:j=i
            · subst hji; exact (hdeps d hd).2
            · rw [hset,if_neg hji] at hlj
              exact inv.clo j hj hlj d hd
        · -- what stood in the frame
          obtain ⟨f1,f2,f3⟩:=inv.fr
          cases hd:o.dst with
          | none=>exact ⟨f1,f2,f3⟩
          | some d=>
            have hfree:=(hops i hin').2
            rw [hdst,hd] at hfree
            simp only [Bool.and_eq_true,Bool.not_eq_true',List.all_eq_true,List.mem_range,Bool.or_eq_true,beq_iff_eq,bne_iff_ne] at hfree
            refine ⟨f1,by simp [Act.put,f2],fun k u' hk'=>?_⟩
            obtain ⟨hkn,hkv⟩:=f3 k u' hk'
            refine ⟨hkn,?_⟩
            have hne:d≠k:=by
              rintro rfl
              have:∀ (fr:Fr) (d:Nat) (v:Value),look fr d=some v->d ∈ fr.map (·.1):=by
                intro fr
                induction fr with
                | nil=>intro d v h; cases h
                | cons x r ihr=>
                  intro d v h
                  obtain ⟨x1,x2⟩:=x
                  rw [au] at h
                  by_cases hx:x1=d
                  · simp [hx]
                  · rw [if_neg hx] at h
                    exact List.mem_cons_of_mem _ (ihr d v h)
              have h3:=this fr d u' hk'
              have h4:=hfree.1
              simp only [List.contains_eq_mem,decide_eq_false_iff_not] at h4
              exact h4 h3
            rw [<- hkv]
            simp [Act.put,Array.getD,f2,hkn,hne]
        · refine ⟨fun j=>if j=i then u else vs j,fun j hj hlj=>?_⟩
          by_cases hji:j=i
          · subst hji
            simp only
            exact ⟨hu,hV⟩
          · simp only [if_neg hji]
            rw [hset,if_neg hji] at hlj
            obtain ⟨h1,h2⟩:=hv j hj hlj
            refine ⟨fun d hd=>?_,stab j hj _ _ _ h2 (hk2.sub (kM (by omega) (Ne.symm hji)))⟩
            obtain ⟨hdN,hdv⟩:=h1 d hd
            refine ⟨hdN,?_⟩
            cases hdo:o.dst with
            | none=>exact hdv
            | some d'=>
              have hfree:=(hops i hin').2
              rw [hdst,hdo] at hfree
              simp only [Bool.and_eq_true,Bool.not_eq_true',List.all_eq_true,List.mem_range,Bool.or_eq_true,beq_iff_eq,bne_iff_ne] at hfree
              have h5:=(hfree.2 j hj).resolve_left hji
              rw [hd] at h5
              have hne:d' ≠ d:=fun e=>h5 (by rw [e])
              rw [<- hdv]
              by_cases hds:d<a.tmps.size <;> simp [Act.put,Array.getD,hds,hne]
        · refine ⟨S++(spAt sp i).S,hk.trans hk2,fun g hg=>?_⟩
          rcases List.mem_append.1 hg with hg | hg
          · obtain ⟨j,hj,hlj,hgj⟩:=hS g hg
            refine ⟨j,hj,?_,hgj⟩
            rw [hset]; split
            · rfl
            · exact hlj
          · exact ⟨i,hin',by rw [hset,if_pos rfl],hg⟩
      have step':∀ v w2,gB ds (jd N (idst l i) (spAt sp i).S (spAt sp i).V w1) .normal ((eE a ds).put o.dst v) w2->wpAnyIn (gY ro) 0 P .any l.toArray (gB ds Q) (f+(l.length - n)) (listed.setIfInBounds i true) ((eE a ds).put o.dst v) w2:=fun v w2 ⟨a0,h0,e,h⟩=>by
        rw [gf] at e ⊢
        rw [<- xf e (rY inv.fr.1 _ _) h0] at h
        exact step v w2 h
      unfold wpOpIn
      simp only [ho]
      simp only [wpListIn] at hw
      try simp only [eq_self_iff_true] at hw
      by_cases hwant:Region.wanted o (yielded l.toArray (eE a ds).tmps)=true
      · rw [if_pos hwant] at hw ⊢
        unfold Oper.wpIn at hw ⊢
        refine ⟨fun _ _=>trivial,pw hw.2 step' (fun d w2 ⟨a0,h0,e,h⟩=>?_) (fun e a w he ⟨_,_,_,h⟩=>he h.1)⟩
        have:=congrArg Act.defers e
        cases hd:o.dst <;> rw [hd] at this <;> simp [Act.put,eE] at this
      · rw [if_neg hwant] at hw ⊢
        exact ⟨fun _ _=>trivial,step' undef w1 hw.2⟩
  have hcount:(List.range n).countP (fun i=>!(Array.replicate l.toArray.size false).getD i false)=n:=by
    rw [List.countP_eq_length.2 (fun i _=>by rw [getD_replicate_false]; rfl),List.length_range]
  have:=main n (Array.replicate l.toArray.size false) a { w with drawn:=w.drawn+1 } hcount
    ⟨⟨by simp,fun j oj _ hl=>(by rw [getD_replicate_false] at hl; cases hl),fun t _ ht=>getD_in (by simpa using ht) (getD_replicate_false _ _)⟩,
     fun i _ hl=>(by rw [getD_replicate_false] at hl; cases hl),ha,⟨fun _=>undef,fun i _ hl=>(by rw [getD_replicate_false] at hl; cases hl)⟩,
     ⟨[],(Kp.refl w).drew,fun g hg=>by cases hg⟩⟩
  rw [show n+(l.length - n)=l.toArray.size by simp; omega] at this
  exact this
def jI (P:Program) (N:Nat) (l:List Oper) (sp:List Sp) (fr:Fr) (w:World):Nat->List Oper->Prop
 | _,[]=>True
 | i,o :: r=>(∀ vs w1,Kp (jZ sp i) w w1->cO sp vs w1 (spAt sp i).deps->WO P (jd N (idst l i) (spAt sp i).S (spAt sp i).V w1) N l [o] (bB l fr vs (spAt sp i).deps) w1)/\jI P N l sp fr w (i+1) r
def gk (sp:List Sp):Nat->List Sp->Prop
 | _,[]=>True
 | i,s :: r=>(∀ v w w',s.V v w->Kp (jZ sp i) w w' -> s.V v w')/\gk sp (i+1) r
theorem jI.at_:∀ {r:List Oper} {k:Nat},jI P N l sp fr w k r->∀ j o,r[j]? = some o->∀ vs w1,Kp (jZ sp (k+j)) w w1->cO sp vs w1 (spAt sp (k+j)).deps ->
  WO P (jd N (idst l (k+j)) (spAt sp (k+j)).S (spAt sp (k+j)).V w1) N l [o] (bB l fr vs (spAt sp (k+j)).deps) w1
 | [],_,_,j,o,ho=>by simp at ho
 | x :: r,k,h,0,o,ho=>by
  simp at ho; subst ho
  exact h.1
 | x :: r,k,h,j+1,o,ho=>by
  have:=h.2.at_ j o (by simpa using ho)
  rwa [show k+1+j=k+(j+1) by omega] at this
theorem gk.at_:∀ {r:List Sp} {k:Nat},gk sp k r->∀ j,j<r.length->∀ v w w',(spAt r j).V v w->Kp (jZ sp (k+j)) w w' -> (spAt r j).V v w'
 | [],_,_,j,hj=>by simp at hj
 | s :: r,k,h,0,_=>h.1
 | s :: r,k,h,j+1,hj=>by
  have:=h.2.at_ j (by simpa using hj)
  rwa [show k+1+j=k+(j+1) by omega] at this
theorem WC.CM (hm:P.follows .mixedOrders=true) (sp:List Sp) (n:Nat) (hB:fH l sp (fr.map (·.1)) n=true) (stab:gk sp 0 sp) (ops:jI P N l sp fr w 0 (l.take n))
  (tail:∀ vs w1,Kp (qS sp) w w1->cO sp vs w1 (List.range n)->WO P Q N l (l.drop n) (bB l fr vs (List.range n)) w1):WC P Q N (.region id l.toArray true) fr w:=by
 have hB':=hB
 simp only [fH,Bool.and_eq_true,decide_eq_true_eq] at hB'
 have hsp:sp.length=n:=hB'.1.1.1.2
 refine WC.draw hm sp n hB (fun i hi=>?_) (fun i o hi ho=>?_) tail
 ·have:=stab.at_ i (by omega)
  rwa [Nat.zero_add] at this
 ·have:=ops.at_ i o (by rw [List.getElem?_take,if_pos hi]; exact ho)
  rwa [Nat.zero_add] at this
end
structure Reply where
 code:Int
 n:Int
deriving DecidableEq
structure Sess where
 client:Int
 seq:Int
 last:Reply
deriving DecidableEq
structure Opn where
 set:Int
 client:Int
deriving DecidableEq
structure Snap where
 id:Int
 set:Int
 chunks:List Int
 held:Bool
 tag:Str
deriving DecidableEq
structure State where
 version:Int
 next:Int
 keep:Int
 quota:Int
 sess:List Sess
 opens:List Opn
 snaps:List Snap
deriving DecidableEq
structure Command where
 kind:Int
 client:Int
 seq:Int
 set:Int
 id:Int
 n:Int
 chunks:List Int
 text:Str
deriving DecidableEq
structure Field where
 num:Int
 wire:Int
 n:U64
 b:List UInt8
deriving DecidableEq
structure Spec where
 num:Int
 wire:Int
 since:Int
 need:Bool
 many:Bool
deriving DecidableEq
structure Entry where
 term:Int
 b:List UInt8
deriving DecidableEq
structure Record where
 kind:Int
 a:Int
 b:Int
 x:List UInt8
deriving DecidableEq
structure Letter where
 kind:Int
 frm:Int
 to:Int
 term:Int
 a:Int
 b:Int
 c:Int
 bin:Int
 ok:Bool
 l:List Entry
deriving DecidableEq
structure Event where
 kind:Int
 a:Int
 b:Int
 c:Command
deriving DecidableEq
structure CallR where
 node:Int
 number:Int
 term:Int
 at_:Int
 until_:Int
 c:Command
 done:Bool
 reply:Reply
deriving DecidableEq
structure Rest where
 fields:List Field
 at_:UInt8
deriving DecidableEq
structure Span where
 lo:Int
 hi:Int
deriving DecidableEq
inductive NT
 | reply | sess | opn | snap | state | command | field | spec | entry | record | letter | event | call | rest | span
deriving DecidableEq
abbrev NT.den:NT->Type
 | .reply=>Reply
 | .sess=>Sess
 | .opn=>Opn
 | .snap=>Snap
 | .state=>State
 | .command=>Command
 | .field=>Field
 | .spec=>Spec
 | .entry=>Entry
 | .record=>Record
 | .letter=>Letter
 | .event=>Event
 | .call=>CallR
 | .rest=>Rest
 | .span=>Span
inductive Sh
 | int | u8 | u64 | bool | str
 | lst (s:Sh)
 | nm (t:NT)
deriving DecidableEq
abbrev den:Sh->Type
 | .int=>Int
 | .u8=>UInt8
 | .u64=>U64
 | .bool=>Bool
 | .str=>Str
 | .lst s=>List (den s)
 | .nm t=>t.den
inductive BE
 | lit (b:Bool) | atom (b:Bool)
 | lt (a b:Int) | le (a b:Int) | eq (a b:Int)
 | seq (a b:Str)
 | beq (x y:BE) | not (x:BE) | and (x y:BE) | or (x y:BE)
def BE.val:BE->Bool
 | .lit b=>b
 | .atom b=>b
 | .lt a b=>decide (a<b)
 | .le a b=>decide (a<=b)
 | .eq a b=>decide (a=b)
 | .seq a b=>decide (a=b)
 | .beq x y=>x.val == y.val
 | .not x=>!x.val
 | .and x y=>x.val && y.val
 | .or x y=>x.val || y.val
def BE.p:BE->Bool->Prop
 | .lit b,v=>b=v
 | .atom b,v=>b=v
 | .lt a b,true=>a<b
 | .lt a b,false=>b<=a
 | .le a b,true=>a<=b
 | .le a b,false=>b<a
 | .eq a b,true=>a=b
 | .eq a b,false=>¬ a=b
 | .seq a b,true=>a=b
 | .seq a b,false=>¬ a=b
 | .beq x y,v=>(x.val == y.val)=v
 | .not x,true=>x.p false
 | .not x,false=>x.p true
 | .and x y,true=>x.p true/\y.p true
 | .and x y,false=>x.p false\/y.p false
 | .or x y,true=>x.p true\/y.p true
 | .or x y,false=>x.p false/\y.p false
theorem BE.cb:∀ (e:BE) (v:Bool),e.p v↔e.val=v
 | .lit b,v=>.rfl
 | .atom b,v=>.rfl
 | .lt a b,true=>by simp [BE.p,BE.val]
 | .lt a b,false=>by simp [BE.p,BE.val]
 | .le a b,true=>by simp [BE.p,BE.val]
 | .le a b,false=>by simp [BE.p,BE.val]
 | .eq a b,true=>by simp [BE.p,BE.val]
 | .eq a b,false=>by simp [BE.p,BE.val]
 | .seq a b,true=>by simp [BE.p,BE.val]
 | .seq a b,false=>by simp [BE.p,BE.val]
 | .beq x y,v=>.rfl
 | .not x,true=>by simp [BE.p,BE.val,cb x]
 | .not x,false=>by simp [BE.p,BE.val,cb x]
 | .and x y,true=>by simp [BE.p,BE.val,cb x,cb y]
 | .and x y,false=>by cases hx:x.val <;> simp [BE.p,BE.val,cb x,cb y,hx]
 | .or x y,true=>by simp [BE.p,BE.val,cb x,cb y]
 | .or x y,false=>by simp [BE.p,BE.val,cb x,cb y]
structure TabE where
 g:Nat
 s:Sh
 xs:List (den s)
def bU:List Str:=[⟨[]⟩,⟨[116,105,109,101,111,117,116]⟩,⟨[98,101,97,116]⟩,⟨[116,97,107,101]⟩,⟨[100,114,111,112]⟩,⟨[116,119,105,99,101]⟩,⟨[99,97,108,108]⟩,⟨[100,111,111,109]⟩,⟨[99,114,97,115,104]⟩,⟨[115,116,97,114,116]⟩]
def qB:List U64:=[⟨1⟩,⟨10⟩,⟨100⟩,⟨1000⟩,⟨10000⟩,⟨100000⟩,⟨1000000⟩,⟨10000000⟩,⟨100000000⟩,⟨1000000000⟩,⟨10000000000⟩,⟨100000000000⟩,⟨1000000000000⟩,⟨10000000000000⟩,⟨100000000000000⟩,⟨1000000000000000⟩,⟨10000000000000000⟩,⟨100000000000000000⟩,⟨1000000000000000000⟩,⟨10000000000000000000⟩]
def qP:List TabE:=[⟨0,.str,bU⟩,⟨1,.u64,qB⟩]
def tN:List (Nat × Bool):=[(2,true),(3,false),(4,false)]
inductive XK
 | er (b:Bool) | pl | pa | fm (f:Str->Option Int) | bp
inductive AV
 | int (n:Int) | u8 (b:UInt8) | u64 (n:Nat) | bool (e:BE) | str (s:Str)
 | em (nil:Bool)                           -- a slice without any,and without room
 | fz (s:Sh) (xs:List (den s))           -- a slice of what nobody writes
 | own (id:Nat)                            -- all of a row of one's own
 | sub (id off len:Nat)
 | ptr (id off:Nat) | np
 | elp (id i off:Nat)                      -- at an element of a row of one's own
 | fe (s:Sh) (x:den s) (off:Nat)       -- at an element of what nobody writes
 | fn (f:Nat) (b c:List (Nat × Nat)) | nf
 | yl (l:Nat)                              -- what a range over a function hands to it: of the loop l
 | mq (id:Nat)                             -- a map of one's own
 | xx (k:XK) (cs:List (Nat × Nat))
 | dead
inductive TV1
 | c (a:AV)
 | agg (l:List AV)
inductive TV
 | one (t:TV1)
 | tup (l:List TV1)
 | un
abbrev AFr:=List (Nat × TV)
inductive AO
 | gone
 | box (t:TypeId) (cs:List AV)
 | row (t:TypeId) (s:Sh) (xs:List (den s))
 | mapo (s:Sh) (f:Int->Option (den s))
 | arr (t:TypeId) (s:Sh) (n:Nat) (xs:List (den s))   -- an array
 | mapf (l:List (Int × AV))                -- a map of functions
 | loc                                       -- something: where it lies,and no more
abbrev AH:=List AO
def lookA:AFr->Nat->Option TV
 | [],_=>none
 | (j,v) :: r,i=>bif Nat.beq j i then some v else lookA r i
def AV.aP:AV->Option Int
 | .int n=>some n
 | _=>none
def AV.zH:AV->Option UInt8
 | .u8 n=>some n
 | _=>none
def AV.Cp:AV->Option U64
 | .u64 n=>some ⟨n⟩
 | _=>none
def AV.qi:AV->Option Bool
 | .bool e=>some e.val
 | _=>none
def AV.rT:AV->Option Str
 | .str s=>some s
 | _=>none
def AV.eJ (s:Sh):AV->Option (List (den s))
 | .fz s' xs=>if h:s' = s then some (h ▸ xs) else none
 | .em _=>some []
 | _=>none
def NT.cells:(t:NT)->t.den->List AV
 | .reply,x=>[.int x.code,.int x.n]
 | .sess,x=>[.int x.client,.int x.seq,.int x.last.code,.int x.last.n]
 | .opn,x=>[.int x.set,.int x.client]
 | .snap,x=>[.int x.id,.int x.set,.fz .int x.chunks,.bool (.atom x.held),.str x.tag]
 | .state,x=>[.int x.version,.int x.next,.int x.keep,.int x.quota,.fz (.nm .sess) x.sess,.fz (.nm .opn) x.opens,.fz (.nm .snap) x.snaps]
 | .command,x=>[.int x.kind,.int x.client,.int x.seq,.int x.set,.int x.id,.int x.n,.fz .int x.chunks,.str x.text]
 | .field,x=>[.int x.num,.int x.wire,.u64 x.n.n,.fz .u8 x.b]
 | .spec,x=>[.int x.num,.int x.wire,.int x.since,.bool (.atom x.need),.bool (.atom x.many)]
 | .entry,x=>[.int x.term,.fz .u8 x.b]
 | .record,x=>[.int x.kind,.int x.a,.int x.b,.fz .u8 x.x]
 | .letter,x=>[.int x.kind,.int x.frm,.int x.to,.int x.term,.int x.a,.int x.b,.int x.c,.int x.bin,.bool (.atom x.ok),.fz (.nm .entry) x.l]
 | .event,x=>[.int x.kind,.int x.a,.int x.b,.int x.c.kind,.int x.c.client,.int x.c.seq,.int x.c.set,.int x.c.id,.int x.c.n,.fz .int x.c.chunks,.str x.c.text]
 | .call,x=>[.int x.node,.int x.number,.int x.term,.int x.at_,.int x.until_,.int x.c.kind,.int x.c.client,.int x.c.seq,.int x.c.set,.int x.c.id,.int x.c.n,.fz .int x.c.chunks,.str x.c.text,.bool (.atom x.done),.int x.reply.code,.int x.reply.n]
 | .rest,x=>[.fz (.nm .field) x.fields,.u8 x.at_]
 | .span,x=>[.int x.lo,.int x.hi]
def NT.size:NT->Nat
 | .reply=>2
 | .sess=>4
 | .opn=>2
 | .snap=>5
 | .state=>7
 | .command=>8
 | .field=>4
 | .spec=>5
 | .entry=>2
 | .record=>4
 | .letter=>10
 | .event=>11
 | .call=>16
 | .rest=>2
 | .span=>2
def NT.bytes:NT->Nat
 | .reply=>16
 | .sess=>32
 | .opn=>16
 | .snap=>64
 | .state=>104
 | .command=>88
 | .field=>48
 | .spec=>32
 | .entry=>32
 | .record=>48
 | .letter=>96
 | .event=>112
 | .call=>152
 | .rest=>32
 | .span=>16
def NT.fC:NT->List Sh
 | .reply=>[]
 | .sess=>[]
 | .opn=>[]
 | .snap=>[.int]
 | .state=>[(.nm .sess),(.nm .opn),(.nm .snap)]
 | .command=>[.int]
 | .field=>[.u8]
 | .spec=>[]
 | .entry=>[.u8]
 | .record=>[.u8]
 | .letter=>[(.nm .entry)]
 | .event=>[.int]
 | .call=>[.int]
 | .rest=>[(.nm .field)]
 | .span=>[]
def NT.aY:(t:NT)->t.den
 | .reply=>⟨0,0⟩
 | .sess=>⟨0,0,⟨0,0⟩⟩
 | .opn=>⟨0,0⟩
 | .snap=>⟨0,0,[],false,⟨[]⟩⟩
 | .state=>⟨0,0,0,0,[],[],[]⟩
 | .command=>⟨0,0,0,0,0,0,[],⟨[]⟩⟩
 | .field=>⟨0,0,⟨0⟩,[]⟩
 | .spec=>⟨0,0,0,false,false⟩
 | .entry=>⟨0,[]⟩
 | .record=>⟨0,0,0,[]⟩
 | .letter=>⟨0,0,0,0,0,0,0,0,false,[]⟩
 | .event=>⟨0,0,0,⟨0,0,0,0,0,0,[],⟨[]⟩⟩⟩
 | .call=>⟨0,0,0,0,0,⟨0,0,0,0,0,0,[],⟨[]⟩⟩,false,⟨0,0⟩⟩
 | .rest=>⟨[],0⟩
 | .span=>⟨0,0⟩
def Reply.of:List AV->Option Reply
 | [a0,a1]=>match a0.aP,a1.aP with
  | some x0,some x1=>some ⟨x0,x1⟩
  | _,_=>none
 | _=>none
def Sess.of:List AV->Option Sess
 | [a0,a1,a2,a3]=>match a0.aP,a1.aP,a2.aP,a3.aP with
  | some x0,some x1,some x2,some x3=>some ⟨x0,x1,⟨x2,x3⟩⟩
  | _,_,_,_=>none
 | _=>none
def Opn.of:List AV->Option Opn
 | [a0,a1]=>match a0.aP,a1.aP with
  | some x0,some x1=>some ⟨x0,x1⟩
  | _,_=>none
 | _=>none
def Snap.of:List AV->Option Snap
 | [a0,a1,a2,a3,a4]=>match a0.aP,a1.aP,a2.eJ .int,a3.qi,a4.rT with
  | some x0,some x1,some x2,some x3,some x4=>some ⟨x0,x1,x2,x3,x4⟩
  | _,_,_,_,_=>none
 | _=>none
def State.of:List AV->Option State
 | [a0,a1,a2,a3,a4,a5,a6]=>match a0.aP,a1.aP,a2.aP,a3.aP,a4.eJ (.nm .sess),a5.eJ (.nm .opn),a6.eJ (.nm .snap) with
  | some x0,some x1,some x2,some x3,some x4,some x5,some x6=>some ⟨x0,x1,x2,x3,x4,x5,x6⟩
  | _,_,_,_,_,_,_=>none
 | _=>none
def Command.of:List AV->Option Command
 | [a0,a1,a2,a3,a4,a5,a6,a7]=>match a0.aP,a1.aP,a2.aP,a3.aP,a4.aP,a5.aP,a6.eJ .int,a7.rT with
  | some x0,some x1,some x2,some x3,some x4,some x5,some x6,some x7=>some ⟨x0,x1,x2,x3,x4,x5,x6,x7⟩
  | _,_,_,_,_,_,_,_=>none
 | _=>none
def Field.of:List AV->Option Field
 | [a0,a1,a2,a3]=>match a0.aP,a1.aP,a2.Cp,a3.eJ .u8 with
  | some x0,some x1,some x2,some x3=>some ⟨x0,x1,x2,x3⟩
  | _,_,_,_=>none
 | _=>none
def Spec.of:List AV->Option Spec
 | [a0,a1,a2,a3,a4]=>match a0.aP,a1.aP,a2.aP,a3.qi,a4.qi with
  | some x0,some x1,some x2,some x3,some x4=>some ⟨x0,x1,x2,x3,x4⟩
  | _,_,_,_,_=>none
 | _=>none
def Entry.of:List AV->Option Entry
 | [a0,a1]=>match a0.aP,a1.eJ .u8 with
  | some x0,some x1=>some ⟨x0,x1⟩
  | _,_=>none
 | _=>none
def Record.of:List AV->Option Record
 | [a0,a1,a2,a3]=>match a0.aP,a1.aP,a2.aP,a3.eJ .u8 with
  | some x0,some x1,some x2,some x3=>some ⟨x0,x1,x2,x3⟩
  | _,_,_,_=>none
 | _=>none
def Letter.of:List AV->Option Letter
 | [a0,a1,a2,a3,a4,a5,a6,a7,a8,a9]=>match a0.aP,a1.aP,a2.aP,a3.aP,a4.aP,a5.aP,a6.aP,a7.aP,a8.qi,a9.eJ (.nm .entry) with
  | some x0,some x1,some x2,some x3,some x4,some x5,some x6,some x7,some x8,some x9=>some ⟨x0,x1,x2,x3,x4,x5,x6,x7,x8,x9⟩
  | _,_,_,_,_,_,_,_,_,_=>none
 | _=>none
def Event.of:List AV->Option Event
 | [a0,a1,a2,a3,a4,a5,a6,a7,a8,a9,a10]=>match a0.aP,a1.aP,a2.aP,a3.aP,a4.aP,a5.aP,a6.aP,a7.aP,a8.aP,a9.eJ .int,a10.rT with
  | some x0,some x1,some x2,some x3,some x4,some x5,some x6,some x7,some x8,some x9,some x10=>some ⟨x0,x1,x2,⟨x3,x4,x5,x6,x7,x8,x9,x10⟩⟩
  | _,_,_,_,_,_,_,_,_,_,_=>none
 | _=>none
def CallR.of:List AV->Option CallR
 | [a0,a1,a2,a3,a4,a5,a6,a7,a8,a9,a10,a11,a12,a13,a14,a15]=>match a0.aP,a1.aP,a2.aP,a3.aP,a4.aP,a5.aP,a6.aP,a7.aP,a8.aP,a9.aP,a10.aP,a11.eJ .int,a12.rT,a13.qi,a14.aP,a15.aP with
  | some x0,some x1,some x2,some x3,some x4,some x5,some x6,some x7,some x8,some x9,some x10,some x11,some x12,some x13,some x14,some x15=>some ⟨x0,x1,x2,x3,x4,⟨x5,x6,x7,x8,x9,x10,x11,x12⟩,x13,⟨x14,x15⟩⟩
  | _,_,_,_,_,_,_,_,_,_,_,_,_,_,_,_=>none
 | _=>none
def Rest.of:List AV->Option Rest
 | [a0,a1]=>match a0.eJ (.nm .field),a1.zH with
  | some x0,some x1=>some ⟨x0,x1⟩
  | _,_=>none
 | _=>none
def Span.of:List AV->Option Span
 | [a0,a1]=>match a0.aP,a1.aP with
  | some x0,some x1=>some ⟨x0,x1⟩
  | _,_=>none
 | _=>none
def NT.of:(t:NT)->List AV->Option t.den
 | .reply,l=>Reply.of l
 | .sess,l=>Sess.of l
 | .opn,l=>Opn.of l
 | .snap,l=>Snap.of l
 | .state,l=>State.of l
 | .command,l=>Command.of l
 | .field,l=>Field.of l
 | .spec,l=>Spec.of l
 | .entry,l=>Entry.of l
 | .record,l=>Record.of l
 | .letter,l=>Letter.of l
 | .event,l=>Event.of l
 | .call,l=>CallR.of l
 | .rest,l=>Rest.of l
 | .span,l=>Span.of l
def cellsOf:(s:Sh)->den s->List AV
 | .int,x=>[.int x]
 | .u8,x=>[.u8 x]
 | .u64,x=>[.u64 x.n]
 | .bool,x=>[.bool (.atom x)]
 | .str,x=>[.str x]
 | .lst s,x=>[.fz s x]
 | .nm t,x=>t.cells x
def Sh.size:Sh->Nat
 | .nm t=>t.size
 | _=>1
def Sh.bytes:Sh->Nat
 | .int=>8
 | .u8=>1
 | .u64=>8
 | .bool=>1
 | .str=>16
 | .lst _=>24
 | .nm t=>t.bytes
def aY:(s:Sh)->den s
 | .int=>0
 | .u8=>0
 | .u64=>⟨0⟩
 | .bool=>false
 | .str=>⟨[]⟩
 | .lst _=>[]
 | .nm t=>t.aY
def db:(s:Sh)->List AV->Option (den s)
 | .int,[.int n]=>some n
 | .u8,[.u8 b]=>some b
 | .u64,[.u64 n]=>some ⟨n⟩
 | .bool,[.bool e]=>some e.val
 | .str,[.str s]=>some s
 | .lst s,[a]=>a.eJ s
 | .nm t,l=>t.of l
 | _,_=>none
end Go.Proofs.YtagpmhlokhoanaaDoor
namespace Go.Proofs.YtagpmhlokhoanaaDoor
open Go.RowKit
inductive TK
 | i (k:IntKind) | bool | str
 | sl (e:TypeId) (s:Option Sh)
 | st (fs:List (Nat × Nat))              -- the fields' offsets and sizes
 | ar (n:Nat) (e:TypeId)
 | mp (k e:TypeId) (s:Option Sh)         -- a map with integers asx keys
 | ptr | fn | oth
 | ifc                                     -- an interface
 | ms (k e:TypeId)                       -- a map with words asx keys,of numbers
structure TI where
 k:TK
 size:Nat
 zero:List AV
def aE:List (Nat × TI)->Nat->Option TI
 | [],_=>none
 | (j,v) :: r,i=>bif Nat.beq j i then some v else aE r i
structure PR where
 v:TV
 ob:List Prop:=[]
 fc:List Prop:=[]
def one (a:AV):TV:=.one (.c a)
def pr (a:AV) (ob:List Prop:=[]) (fc:List Prop:=[]):Option PR:=some ⟨.one (.c a),ob,fc⟩
def AV.ok:AV->List Prop
 | .int n=>[I64 n]
 | .u64 n=>[n<18446744073709551616]
 | .str s=>[s.b.length<=140737488355328]
 | .fz s xs=>[xs.length*s.bytes<=140737488355328]
 | _=>[]
def tR:List AV->List Prop
 | []=>[]
 | a :: r=>a.ok++tR r
def TV1.ok:TV1->List Prop
 | .c a=>a.ok
 | .agg l=>tR l
def yZ:List TV1->List Prop
 | []=>[]
 | a :: r=>a.ok++yZ r
def getO (H:AH) (id:Nat):AO:=H.getD id .gone
def AV.vw (H:AH):AV->AV
 | .own id=>match getO H id with
  | .row _ s xs=>.fz s xs
  | _=>.dead
 | .sub id off len=>match getO H id with
  | .row _ s xs=>.fz s ((xs.drop off).take len)
  | _=>.dead
 | a=>a
def Et:Value->Option AV
 | .int .i64 n=>bif decide (-9223372036854775808<=n) && decide (n<=9223372036854775807) then some (.int n) else none
 | .int .u8 n=>bif decide (0<=n) && decide (n<256) then some (.u8 (UInt8.ofNat n.toNat)) else none
 | .int .u64 n=>bif decide (0<=n) && decide (n<18446744073709551616) then some (.u64 n.toNat) else none
 | .bool b=>some (.bool (.lit b))
 | .string s=>bif Nat.ble s.data.toList.length 140737488355328 then some (.str ⟨s.data.toList⟩) else none
 | .slice none 0 0=>some (.em true)
 | .pointer none=>some .np
 | .nilIface=>some (.xx (.er true) [])
 | .nilFunc=>some .nf
 | _=>none
def bT (fr:AFr):Operand->Option TV
 | .tmp i=>lookA fr i
 | .const v=>match Et v with
  | some a=>some (one a)
  | none=>none
 | .func f=>some (one (.fn f [] []))
 | .global _=>none
def BE.neg:BE->BE
 | .lit b=>.lit (!b)
 | .not e=>e
 | e=>.not e
def xz (a b:Int):Int:=((a.toNat ||| b.toNat:Nat):Int)
def tM (a b:Int):Int:=((BitVec.ofInt 64 a &&& BitVec.ofInt 64 b).toNat:Int)
def BR (op:BinOp):AV->AV->Option PR
 | .int a,.int b=>match op with
  | .lss=>pr (.bool (.lt a b))
  | .leq=>pr (.bool (.le a b))
  | .gtr=>pr (.bool (.lt b a))
  | .geq=>pr (.bool (.le b a))
  | .eql=>pr (.bool (.eq a b))
  | .neq=>pr (.bool (.not (.eq a b)))
  | .add=>pr (.int (a+b)) [I64 (a+b)]
  | .sub=>pr (.int (a - b)) [I64 (a - b)]
  | .mul=>pr (.int (a*b)) [I64 (a*b)]
  | .quo=>pr (.int (a.tdiv b)) [0<=a,0<b]
  | .rem=>pr (.int (a.tmod b)) [0<=a,0<b]
  | .and=>pr (.int (tM a b)) [0<=b]
  | .or=>pr (.int (xz a b)) [0<=a,0<=b]
  | _=>none
 | .u8 a,.u8 b=>match op with
  | .lss=>pr (.bool (.lt a.toNat b.toNat))
  | .leq=>pr (.bool (.le a.toNat b.toNat))
  | .gtr=>pr (.bool (.lt b.toNat a.toNat))
  | .geq=>pr (.bool (.le b.toNat a.toNat))
  | .eql=>pr (.bool (.eq a.toNat b.toNat))
  | .neq=>pr (.bool (.not (.eq a.toNat b.toNat)))
  | .and=>pr (.u8 (a &&& b))
  | .or=>pr (.u8 (a ||| b))
  | .rem=>pr (.u8 (a % b)) [0<b.toNat]
  | .quo=>pr (.u8 (a / b)) [0<b.toNat]
  | _=>none
 | .u64 a,.u64 b=>match op with
  | .lss=>pr (.bool (.lt a b))
  | .leq=>pr (.bool (.le a b))
  | .gtr=>pr (.bool (.lt b a))
  | .geq=>pr (.bool (.le b a))
  | .eql=>pr (.bool (.eq a b))
  | .neq=>pr (.bool (.not (.eq a b)))
  | .add=>pr (.u64 ((a+b) % 18446744073709551616))
  | .or=>pr (.u64 (a ||| b))
  | .quo=>pr (.u64 (a / b)) [0<b]
  | .rem=>pr (.u64 (a % b)) [0<b]
  | .shl=>pr (.u64 ((a*2 ^ b) % 18446744073709551616)) [b<64]
  | .shr=>pr (.u64 (a / 2 ^ b)) [b<64]
  | _=>none
 | .u64 a,.int b=>match op with
  | .shl=>pr (.u64 ((a*2 ^ b.toNat) % 18446744073709551616)) [0<=b,b<64]
  | .shr=>pr (.u64 (a / 2 ^ b.toNat)) [0<=b,b<64]
  | _=>none
 | .int a,.u64 b=>match op with
  | .shl=>pr (.int (a*2 ^ b)) [b<64,I64 (a*2 ^ b)]
  | _=>none
 | .u8 a,.u64 b=>match op with
  | .shr=>pr (.u8 (UInt8.ofNat (a.toNat / 2 ^ b))) [b<8]
  | _=>none
 | .bool a,.bool b=>match op with
  | .eql=>pr (.bool (.beq a b))
  | .neq=>pr (.bool (.not (.beq a b)))
  | _=>none
 | .str a,.str b=>match op with
  | .eql=>pr (.bool (.seq a b))
  | .neq=>pr (.bool (.not (.seq a b)))
  | .add=>pr (.str ⟨a.b++b.b⟩) [a.b.length+b.b.length<=140737488355328]
  | _=>none
 | .em a,.em true=>match op with
  | .eql=>pr (.bool (.lit a))
  | .neq=>pr (.bool (.lit (!a)))
  | _=>none
 | _,_=>none
inductive LK
 | i (k:IntKind) | b | s
deriving DecidableEq
def AV.lk:AV->Option LK
 | .int _=>some (.i .i64)
 | .u8 _=>some (.i .u8)
 | .u64 _=>some (.i .u64)
 | .bool _=>some .b
 | .str _=>some .s
 | _=>none
def zU:List AV->Option (List LK)
 | []=>some []
 | a :: r=>match a.lk,zU r with
  | some k,some l=>some (k :: l)
  | _,_=>none
def zj:AV->AV->Option BE
 | .int a,.int b=>some (.eq a b)
 | .u8 a,.u8 b=>some (.eq a.toNat b.toNat)
 | .u64 a,.u64 b=>some (.eq a b)
 | .bool x,.bool y=>some (.beq x y)
 | .str a,.str b=>some (.seq a b)
 | _,_=>none
def pd:List AV->List AV->Option BE
 | [],[]=>some (.lit true)
 | [a],[b]=>zj a b
 | a :: r,b :: l=>match zj a b,pd r l with
  | some x,some y=>some (.and x y)
  | _,_=>none
 | _,_=>none
def EN (T:List (Nat × TI)) (op:BinOp) (t:TypeId) (asx bs:List AV):Option PR:=match aE T t with
 | some ⟨.st _,_,z⟩=>match zU z,zU asx,zU bs with
  | some k,some k1,some k2=>match decide (k1=k) && decide (k2=k),pd asx bs,op with
   | true,some e,.eql=>pr (.bool e)
   | true,some e,.neq=>pr (.bool (.not e))
   | _,_,_=>none
  | _,_,_=>none
 | _=>none
def vD (T:List (Nat × TI)) (t:TypeId):AV->Bool
 | .bool _=>match aE T t with
  | some ⟨.bool,_,_⟩=>true
  | _=>false
 | .em _=>match aE T t with
  | some ⟨.sl _ _,_,_⟩=>true
  | _=>false
 | .xx _ _=>false
 | _=>true
def vV (n:Nat):Int:=if n<9223372036854775808 then n else (n:Int) - 18446744073709551616
def vM (H:AH) (s t:TK) (x:AV):Option PR:=
 match s,t,x with
 | .i .i64,.i .i64,.int n=>pr (.int n)
 | .i .u8,.i .i64,.u8 b=>pr (.int b.toNat)
 | .i .u8,.i .u64,.u8 b=>pr (.u64 b.toNat)
 | .i .i64,.i .u8,.int n=>pr (.u8 (UInt8.ofNat n.toNat)) [0<=n]
 | .i .i64,.i .u64,.int n=>pr (.u64 n.toNat) [0<=n]
 | .i .u64,.i .u8,.u64 n=>pr (.u8 (UInt8.ofNat n))
 | .i .u64,.i .i64,.u64 n=>pr (.int (vV n))
 | .i .u64,.i .u64,.u64 n=>pr (.u64 n)
 | .sl _ (some .u8),.str,x=>match x.vw H with
  | .fz .u8 xs=>pr (.str ⟨xs⟩)
  | .em _=>pr (.str ⟨[]⟩)
  | _=>none
 | .str,.sl _ (some .u8),.str s=>pr (.fz .u8 s.b)
 | _,_,_=>none
def BW (T:List (Nat × TI)) (H:AH) (t:TypeId) (x:AV):Option Int:=
 match x,aE T t with
 | .fz _ xs,some ⟨.sl _ _,_,_⟩=>some xs.length
 | .str s,some ⟨.str,_,_⟩=>some s.b.length
 | .em _,some ⟨.sl _ _,_,_⟩=>some 0
 | .own id,some ⟨.sl _ _,_,_⟩=>match getO H id with
  | .row _ _ xs=>some xs.length
  | _=>none
 | .sub id _ len,some ⟨.sl _ _,_,_⟩=>match getO H id with
  | .row _ _ _=>some len
  | _=>none
 | .xx .pl cs,some ⟨.sl _ _,_,_⟩=>some cs.length
 | _,_=>none
def AV.ix:AV->Option Int
 | .int n=>some n
 | .u8 b=>some b.toNat
 | .u64 n=>some n
 | _=>none
def Co (T:List (Nat × TI)) (t:TypeId):Option Sh:=match aE T t with
 | some ⟨.sl _ s,_,_⟩=>s
 | _=>none
def kI (H:AH) (s':Sh) (x:AV) (i:Int):Option PR:=
 match x with
 | .fz s xs=>match decide (s' = s) with
  | true=>pr (.fe s (xs.getD i.toNat (aY s)) 0) [0<=i,i<xs.length] (tR (cellsOf s (xs.getD i.toNat (aY s))))
  | false=>none
 | .own id=>match getO H id with
  | .row _ s xs=>match decide (s' = s) with
   | true=>pr (.elp id i.toNat 0) [0<=i,i<xs.length] (tR (cellsOf s (xs.getD i.toNat (aY s))))
   | false=>none
  | _=>none
 | _=>none
def ns (H:AH):AV->Option (List AV × Nat)
 | .ptr id o=>match getO H id with
  | .box _ cs=>some (cs,o)
  | _=>none
 | .elp id i o=>match getO H id with
  | .row _ s xs=>some (cellsOf s (xs.getD i (aY s)),o)
  | _=>none
 | .fe s x o=>some (cellsOf s x,o)
 | .xx .pa [q]=>some ([.ptr q.1 q.2],0)
 | _=>none
def r_ (T:List (Nat × TI)) (H:AH) (t:TypeId) (x:AV):Option PR:=
 match aE T t,ns H x with
 | some ti,some (cs,o)=>match ti.k,Nat.ble (o+ti.size) cs.length with
  | .st _,true=>some ⟨.one (.agg ((cs.drop o).take ti.size)),[],[]⟩
  | .ar _ _,true=>some ⟨.one (.agg ((cs.drop o).take ti.size)),[],[]⟩
  | .oth,_=>none
  | .st _,_=>none
  | .ar _ _,_=>none
  | _,_=>match cs[o]? with
   | some a=>pr a [] []
   | none=>none
 | _,_=>none
def AV.iw (k:Nat):AV->Option PR
 | .ptr id o=>pr (.ptr id (o+k))
 | .elp id i o=>pr (.elp id i (o+k))
 | .fe s x o=>pr (.fe s x (o+k))
 | _=>none
def eL (T:List (Nat × TI)) (t:TypeId) (x:AV) (l h:Option Int):Option PR:=
 match x with
 | .fz s xs=>match Co T t with
  | some s'=>match decide (s' = s) with
   | true=>match l,h with
    | some l,none=>pr (.fz s (xs.drop l.toNat)) [0<=l,l<=xs.length]
    | none,some h=>pr (.fz s (xs.take h.toNat)) [0<=h,h<=xs.length]
    | some l,some h=>pr (.fz s ((xs.drop l.toNat).take (h.toNat - l.toNat))) [0<=l,l<=h,h<=xs.length]
    | _,_=>none
   | false=>none
  | none=>none
 | .str s=>match aE T t with
  | some ⟨.str,_,_⟩=>match l,h with
   | some l,none=>pr (.str ⟨s.b.drop l.toNat⟩) [0<=l,l<=s.b.length]
   | none,some h=>pr (.str ⟨s.b.take h.toNat⟩) [0<=h,h<=s.b.length]
   | some l,some h=>pr (.str ⟨(s.b.drop l.toNat).take (h.toNat - l.toNat)⟩) [0<=l,l<=h,h<=s.b.length]
   | _,_=>none
  | _=>none
 | _=>none
def TV1.cells:TV1->List AV
 | .c a=>[a]
 | .agg l=>l
def vd (fr:AFr):List Operand->Option (List TV1)
 | []=>some []
 | x :: r=>match bT fr x,vd fr r with
  | some (.one a),some l=>some (a :: l)
  | _,_=>none
def pF (fr:AFr):List (Nat × Operand)->Option (List (Nat × TV1))
 | []=>some []
 | (i,x) :: r=>match bT fr x,pF fr r with
  | some (.one a),some l=>some ((i,a) :: l)
  | _,_=>none
def over (l:List AV) (o:Nat) (cs:List AV):List AV:=l.take o++cs++l.drop (o+cs.length)
def fY (fs:List (Nat × Nat)):List AV->List (Nat × TV1)->Option (List AV)
 | z,[]=>some z
 | z,(i,v) :: r=>match fs[i]? with
  | some (o,n)=>match Nat.beq v.cells.length n && Nat.ble (o+n) z.length with
   | true=>fY fs (over z o v.cells) r
   | false=>none
  | none=>none
def fU:Nat->Nat->List (Nat × Nat)
 | _,0=>[]
 | k,n+1=>(k,1) :: fU (k+1) n
def fX:List TV1->Option (List (Nat × Nat))
 | []=>some []
 | .c (.ptr id o) :: r=>match fX r with
  | some l=>some ((id,o) :: l)
  | none=>none
 | _=>none
def AV.plain:AV->Bool
 | .int _=>true
 | .u8 _=>true
 | .u64 _=>true
 | .bool _=>true
 | .str _=>true
 | .em _=>true
 | .fz _ _=>true
 | _=>false
def Ai (T:List (Nat × TI)) (e:TypeId):Option Sh:=match aE T e with
 | some ⟨.i .i64,1,_⟩=>some .int
 | some ⟨.i .u8,1,_⟩=>some .u8
 | some ⟨.i .u64,1,_⟩=>some .u64
 | some ⟨.bool,1,_⟩=>some .bool
 | some ⟨.str,1,_⟩=>some .str
 | _=>none
def lP (s:Sh):List AV->Option (List (den s))
 | []=>some []
 | a :: r=>match db s [a],lP s r with
  | some x,some l=>some (x :: l)
  | _,_=>none
def yU (s:Sh) (xs:List (den s)):Nat->Nat->List AV
 | _,0=>[]
 | k,n+1=>cellsOf s (xs.getD k (aY s))++yU s xs (k+1) n
def wq (T:List (Nat × TI)) (t:TypeId) (cs:List AV):AO:=match aE T t with
 | some ⟨.ar m e,_,_⟩=>match Ai T e with
  | some s=>match lP s cs with
   | some xs=>match Nat.beq xs.length m && Nat.beq s.size 1 with
    | true=>.arr t s m xs
    | false=>.box t cs
   | none=>.box t cs
  | none=>.box t cs
 | _=>.box t cs
def jG (T:List (Nat × TI)) (H:AH) (t:TypeId) (x:AV):Option PR:=
 match x with
 | .ptr id o=>match getO H id with
  | .arr _ s n xs=>match aE T t with
   | some ⟨.ar m _,sz,_⟩=>match Nat.beq o 0 && Nat.beq m n && Nat.beq sz n && Nat.beq s.size 1 with
    | true=>some ⟨.one (.agg (yU s xs 0 n)),[],[]⟩
    | false=>none
   | some ti=>match ti.k,Nat.beq s.size 1,cellsOf s (xs.getD o (aY s)) with
    | .st _,_,_=>none
    | .ar _ _,_,_=>none
    | .oth,_,_=>none
    | _,true,[a]=>pr a [o<n] a.ok
    | _,_,_=>none
   | none=>none
  | _=>none
 | _=>none
def om (T:List (Nat × TI)) (e:TypeId):Bool:=match aE T e with
 | some ⟨.ptr,1,[.np]⟩=>true
 | _=>false
def ec (T:List (Nat × TI)) (H:AH) (t:TypeId) (x:AV) (i:Int):Option PR:=
 match x,aE T t with
 | .ptr id 0,some ⟨.ar m e,_,_⟩=>match getO H id,Ai T e with
  | .arr _ s n _,some _=>match Nat.beq m n && Nat.beq s.size 1 with
   | true=>pr (.ptr id i.toNat) [0<=i,i<n]
   | false=>none
  | _,_=>none
 | .xx .pl cs,some ⟨.sl e none,_,_⟩=>match om T e,cs[i.toNat]? with
  | true,some q=>pr (.xx .pa [q]) [0<=i,i<cs.length]
  | _,_=>none
 | _,_=>none
def jF (g:Nat):List TabE->Option TabE
 | []=>none
 | e :: r=>bif Nat.beq g e.g then some e else jF g r
def jS (T:List (Nat × TI)) (t:TypeId) (x:Operand) (i:Int):Option PR:=
 match x with
 | .global g=>match jF g qP,aE T t with
  | some e,some ⟨.ar m el,_,_⟩=>match Ai T el with
   | some s=>match decide (s=e.s) && Nat.beq m e.xs.length with
    | true=>pr (.fe e.s (e.xs.getD i.toNat (aY e.s)) 0) [0<=i,i<m] (tR (cellsOf e.s (e.xs.getD i.toNat (aY e.s))))
    | false=>none
   | none=>none
  | _,_=>none
 | _=>none
def dT (T:List (Nat × TI)) (t:TypeId) (cs:List AV) (i:Int):Option PR:=
 match aE T t with
 | some ⟨.ar m e,_,_⟩=>match Ai T e with
  | some s=>match lP s cs with
   | some xs=>match Nat.beq xs.length m,cellsOf s (xs.getD i.toNat (aY s)) with
    | true,[a]=>pr a [0<=i,i<m] a.ok
    | _,_=>none
   | none=>none
  | none=>none
 | _=>none
structure SpecR where
 pre:List Prop:=[]
 rs:List TV1
 out:Option AH:=none        -- none: what is there stays asx it is
 keep:Bool:=false           -- what was there stays asx it is,and where it is
abbrev cC:=Nat->List TV1->AH->Option SpecR
def BT (O:cC):Bool:=(O 1000000000 [] []).isSome
def BM (a b:Int):Int:=IntKind.i64.wrap (a - b)
def Ax (O:cC):Bool:=(O 1000000001 [] []).isSome
def BH (a b:Int):Int:=IntKind.i64.wrap (a+b)
def Ba (O:cC) (op:BinOp) (a b:AV):Option PR:=match BT O,Ax O,op,a,b with
 | true,_,.sub,.int x,.int y=>pr (.int (BM x y))
 | _,true,.add,.int x,.int y=>pr (.int (BH x y))
 | _,_,op,a,b=>BR op a b
def AV.ids:AV->List Nat
 | .own i=>[i]
 | .sub i _ _=>[i]
 | .elp i _ _=>[i]
 | .ptr i _=>[i]
 | .fn _ b c=>b.map (·.1)++c.map (·.1)
 | .mq i=>[i]
 | .xx _ cs=>cs.map (·.1)
 | _=>[]
def ny:List AV->List Nat
 | []=>[]
 | a :: r=>a.ids++ny r
def jh:List TV1->List Nat
 | []=>[]
 | a :: r=>ny a.cells++jh r
def wh:List (Int × AV)->List Nat
 | []=>[]
 | (_,a) :: r=>a.ids++wh r
def AO.ids:AO->List Nat
 | .box _ cs=>ny cs
 | .mapf l=>wh l
 | _=>[]
def aQ (i:Nat):List Nat->Bool
 | []=>false
 | j :: r=>bif Nat.beq i j then true else aQ i r
def reach (H:AH):Nat->List Nat->List Nat->List Nat
 | 0,_,seen=>seen
 | _+1,[],seen=>seen
 | n+1,i :: r,seen=>bif aQ i seen then reach H n r seen else reach H n ((getO H i).ids++r) (seen++[i])
def posOf (i:Nat):List Nat->Nat
 | []=>0
 | j :: r=>bif Nat.beq i j then 0 else posOf i r+1
def wI (f:Nat->Nat):List (Nat × Nat)->List (Nat × Nat)
 | []=>[]
 | (i,o) :: r=>(f i,o) :: wI f r
def AV.fx (f:Nat->Nat):AV->AV
 | .own i=>.own (f i)
 | .sub i o l=>.sub (f i) o l
 | .elp i k o=>.elp (f i) k o
 | .ptr i o=>.ptr (f i) o
 | .fn g b c=>.fn g (wI f b) (wI f c)
 | .mq i=>.mq (f i)
 | .xx k cs=>.xx k (wI f cs)
 | a=>a
def uP (f:Nat->Nat):List AV->List AV
 | []=>[]
 | a :: r=>a.fx f :: uP f r
def TV1.fx (f:Nat->Nat):TV1->TV1
 | .c a=>.c (a.fx f)
 | .agg l=>.agg (uP f l)
def dO (f:Nat->Nat):List TV1->List TV1
 | []=>[]
 | a :: r=>a.fx f :: dO f r
def yk (f:Nat->Nat):List (Int × AV)->List (Int × AV)
 | []=>[]
 | (k,a) :: r=>(k,a.fx f) :: yk f r
def AO.fx (f:Nat->Nat):AO->AO
 | .box t cs=>.box t (uP f cs)
 | .mapf l=>.mapf (yk f l)
 | o=>o
def jm (f:Nat->Nat):List AO->List AO
 | []=>[]
 | a :: r=>a.fx f :: jm f r
def rL (H:AH):List AV->List AV
 | []=>[]
 | a :: r=>a.vw H :: rL H r
def TV1.vw (H:AH):TV1->TV1
 | .c a=>.c (a.vw H)
 | .agg l=>.agg (rL H l)
def tz (H:AH):List TV1->List TV1
 | []=>[]
 | a :: r=>a.vw H :: tz H r
def kB (H:AH) (l:List TV1):List Nat:=reach H 64 (jh l) []
def fG (H:AH):List Nat->List AO
 | []=>[]
 | i :: r=>getO H i :: fG H r
def tG:List TV1->TV
 | [a]=>.one a
 | l=>.tup l
def jb (σ:List Nat):List Nat->Bool
 | []=>true
 | i :: r=>aQ i σ && jb σ r
def eV:List Nat->Bool
 | []=>true
 | i :: r=>!aQ i r && eV r
def dD (H:AH) (σ:List Nat):List Nat->Bool
 | []=>true
 | i :: r=>Nat.blt i H.length && jb σ (getO H i).ids && dD H σ r
def Sh.fC:Sh->List Sh
 | .lst s=>[s]
 | .nm t=>t.fC
 | _=>[]
def dU (f:Sh->Bool):List Sh->Bool
 | []=>true
 | s :: r=>f s && dU f r
def Sh.no:Nat->Sh->Sh->Bool
 | 0,_,_=>false
 | n+1,b,s=>!decide (s=b) && dU (Sh.no n b) s.fC
def AV.no (b:Sh):AV->Bool
 | .fz s _=>Sh.no 5 b s
 | .fe _ _ _=>false
 | .xx k _=>match k with
  | .er _=>true
  | .bp=>true
  | _=>false
 | _=>true
def AK (b:Sh):List AV->Bool
 | []=>true
 | a :: r=>a.no b && AK b r
def Ch (b:Sh):List TV1->Bool
 | []=>true
 | a :: r=>AK b a.cells && Ch b r
def bW:List AV->List Nat
 | []=>[]
 | .own i :: r=>i :: bW r
 | .sub i _ _ :: r=>i :: bW r
 | _ :: r=>bW r
def cu:List TV1->List Nat
 | []=>[]
 | a :: r=>bW a.cells++cu r
def cd (H:AH):List Nat->List Sh
 | []=>[]
 | i :: r=>match getO H i with
  | .row _ s _=>s :: cd H r
  | _=>cd H r
def iB (σ:List Nat):List Nat->Bool
 | []=>true
 | i :: r=>!aQ i σ && iB σ r
def hU (H:AH):List Nat->Bool
 | []=>true
 | i :: r=>(match getO H i with
  | .row _ _ _=>true
  | _=>false) && hU H r
def qW (O:cC) (H:AH) (f:Nat) (args:List TV1):Option PR:=
 match kB H (tz H args) with
 | σ=>match eV σ && jb σ (jh (tz H args)) && dD H σ σ && iB σ (cu args) && hU H (cu args) with
  | true=>match O f (dO (posOf · σ) (tz H args)) (jm (posOf · σ) (fG H σ)) with
   | some ⟨pre,rs,none,_⟩=>match dU (fun b=>Ch b rs) (cd H (cu args)) with
    | true=>some ⟨tG (dO (fun j=>σ.getD j 0) rs),pre,yZ rs⟩
    | false=>none
   | _=>none
  | false=>none
variable (T:List (Nat × TI)) (O:cC)
def dh (fr:AFr) (c:Call):Option (Nat × List TV1):=
 match c.callee with
 | .value f=>match bT fr f,vd fr c.args.toList with
  | some (.one (.c (.fn g [] cs))),some l=>some (g,l++cs.map (fun q=>.c (.ptr q.1 q.2)))
  | _,_=>none
 | _=>none
def Sh.iD:Sh->Bool
 | .nm _=>true
 | _=>false
def uA (s:Sh) (x:den s):TV1:=bif s.iD then .agg (cellsOf s x) else match cellsOf s x with
 | [a]=>.c a
 | l=>.agg l
def BI (O:cC):Bool:=(O 1000000002 [] []).isSome
def Dy (n:Int):UInt8:=UInt8.ofNat (n % 256).toNat
def tT (O:cC) (H:AH) (s t:TK) (x:AV):Option PR:=match BI O,s,t,x with
 | true,.i .i64,.i .u8,.int n=>pr (.u8 (Dy n))
 | _,s,t,x=>vM H s t x
def Er (T:List (Nat × TI)) (op:BinOp) (t:TypeId) (x:Option TV):Operand->Option PR
 | .const .nilIface=>match aE T t,x with
  | some ⟨.ifc,_,_⟩,some (.one (.c (.xx (.er b) [])))=>match op with
   | .eql=>pr (.bool (.atom b))
   | .neq=>pr (.bool (.not (.atom b)))
   | _=>none
  | _,_=>none
 | _=>none
def kR:Nat->List (Nat × TV1)->Option (List (Nat × Nat))
 | _,[]=>some []
 | k,(i,.c (.ptr id o)) :: r=>match Nat.beq i k,kR (k+1) r with
  | true,some l=>some ((id,o) :: l)
  | _,_=>none
 | _,_=>none
def uC (T:List (Nat × TI)) (t:TypeId) (x y:Option TV) (ok:Bool):Option PR:=
 match aE T t,x,y with
 | some ⟨.ms _ _,_,_⟩,some (.one (.c (.xx (.fm f) []))),some (.one (.c (.str s)))=>match ok with
  | false=>pr (.int ((f s).getD 0))
  | true=>none
 | _,_,_=>none
def pv (H:AH) (fr:AFr):Op->Option PR
 | .move x=>match bT fr x with
  | some v=>some ⟨v,[],[]⟩
  | none=>none
 | .assign x=>match bT fr x with
  | some v=>some ⟨v,[],[]⟩
  | none=>none
 | .unOp .not _ x=>match bT fr x with
  | some (.one (.c (.bool e)))=>pr (.bool e.neg)
  | _=>none
 | .binOp op t x y _=>match bT fr x,bT fr y with
  | some (.one (.c a)),some (.one (.c b))=>match vD T t a with
   | true=>Ba O op a b
   | false=>Er T op t (some (.one (.c a))) y
  | some (.one (.agg a)),some (.one (.agg b))=>EN T op t a b
  | _,_=>none
 | .extract x i=>match bT fr x with
  | some (.tup l)=>match l[i]? with
   | some a=>some ⟨.one a,[],[]⟩
   | none=>none
  | _=>none
 | .nilCheck x=>match bT fr x with
  | some (.one (.c a))=>match a with
   | .ptr _ _=>pr a
   | .elp _ _ _=>pr a
   | .fe _ _ _=>pr a
   | .fn _ _ _=>pr a
   | _=>none
  | _=>none
 | .convert s t x=>match aE T s,aE T t,bT fr x with
  | some a,some b,some (.one (.c v))=>tT O H a.k b.k v
  | _,_,_=>none
 | .makeFunc (.func f) b c=>match b.toList,vd fr c.toList with
  | [],some cs=>match fX cs with
   | some cp=>pr (.fn f [] cp)
   | none=>none
  | _,_=>none
 | .fieldAddr t x i=>match aE T t,bT fr x with
  | some ⟨.st fs,_,_⟩,some (.one (.c a))=>match fs[i]? with
   | some (o,_)=>a.iw o
   | none=>none
  | _,_=>none
 | .load t x=>match bT fr x with
  | some (.one (.c a))=>match jG T H t a with
   | some r=>some r
   | none=>r_ T H t a
  | _=>none
 | .indexAddr t x y=>match bT fr x,bT fr y,Co T t with
  | some (.one (.c a)),some (.one (.c b)),some s=>match b.ix with
   | some i=>kI H s a i
   | none=>none
  | some (.one (.c a)),some (.one (.c b)),none=>match b.ix with
   | some i=>ec T H t a i
   | none=>none
  | none,some (.one (.c b)),none=>match b.ix with
   | some i=>jS T t x i
   | none=>none
  | _,_,_=>none
 | .index t x y=>match bT fr x,bT fr y with
  | some (.one (.c (.str s))),some (.one (.c b))=>match b.ix with
   | some i=>match aE T t with
    | some ⟨.str,_,_⟩=>pr (.u8 (s.b.getD i.toNat 0)) [0<=i,i<s.b.length]
    | _=>none
   | none=>none
  | some (.one (.agg cs)),some (.one (.c b))=>match b.ix with
   | some i=>dT T t cs i
   | none=>none
  | _,_=>none
 | .lookup t x y ok=>match aE T t,bT fr x,bT fr y with
  | some ⟨.mp _ _ (some s),_,_⟩,some (.one (.c (.mq id))),some (.one (.c (.int k)))=>match getO H id with
   | .mapo s' f=>if h:s' = s then (match ok with
    | false=>some ⟨.one (uA s ((h ▸ f k:Option (den s)).getD (aY s))),[],[]⟩
    | true=>some ⟨.tup [uA s ((h ▸ f k:Option (den s)).getD (aY s)),.c (.bool (.atom (f k).isSome))],[],[]⟩) else none
   | _=>none
  | _,x,y=>uC T t x y ok
 | .buildSlice t n parts=>match aE T t,pF fr parts.toList with
  | some ⟨.sl e none,_,_⟩,some l=>match kR 0 l with
   | some cs=>match Nat.beq cs.length n && om T e && Nat.ble n 16777216 with
    | true=>pr (.xx .pl cs)
    | false=>none
   | none=>none
  | _,_=>none
 | .build t parts=>match aE T t,pF fr parts.toList with
  | some ⟨.st fs,_,z⟩,some l=>match fY fs z l with
   | some cs=>some ⟨.one (.agg cs),[],[]⟩
   | none=>none
  | some ⟨.ar m e,_,z⟩,some l=>match Ai T e,fY (fU 0 m) z l with
   | some _,some cs=>some ⟨.one (.agg cs),[],[]⟩
   | _,_=>none
  | _,_=>none
 | .slice t x l h none=>match bT fr x with
  | some (.one (.c a))=>match l,h with
   | none,none=>none
   | some l,none=>match bT fr l with
    | some (.one (.c (.int l)))=>eL T t a (some l) none
    | _=>none
   | none,some h=>match bT fr h with
    | some (.one (.c (.int h)))=>eL T t a none (some h)
    | _=>none
   | some l,some h=>match bT fr l,bT fr h with
    | some (.one (.c (.int l))),some (.one (.c (.int h)))=>eL T t a (some l) (some h)
    | _,_=>none
  | _=>none
 | .call c=>match c.callee with
  | .builtin .len=>match c.args.toList,c.argTypes.toList with
   | [x],[t]=>match bT fr x with
    | some (.one (.c a))=>match BW T H t a with
     | some n=>pr (.int n)
     | none=>none
    | _=>none
   | _,_=>none
  | .builtin .min=>match c.args.toList with
   | [x,y]=>match bT fr x,bT fr y with
    | some (.one (.c (.int a))),some (.one (.c (.int b)))=>pr (.int (min a b))
    | some (.one (.c (.u64 a))),some (.one (.c (.u64 b)))=>pr (.u64 (min a b))
    | _,_=>none
   | _=>none
  | .builtin .max=>match c.args.toList with
   | [x,y]=>match bT fr x,bT fr y with
    | some (.one (.c (.int a))),some (.one (.c (.int b)))=>pr (.int (max a b))
    | _,_=>none
   | _=>none
  | .value _=>match dh fr c with
   | some (f,l)=>qW O H f l
   | none=>none
  | _=>none
 | _=>none
end Go.Proofs.YtagpmhlokhoanaaDoor
namespace Go.Proofs.YtagpmhlokhoanaaDoor
open Go.RowKit
structure Lv where
 wr:Nat->Bool
 mv:Nat->Bool
def Ef (k:Nat):Lv:=⟨Nat.ble k,Nat.ble k⟩
def AV.kill (i:Nat):AV->AV
 | .own j=>bif Nat.beq i j then .dead else .own j
 | .sub j o l=>bif Nat.beq i j then .dead else .sub j o l
 | .elp j k o=>bif Nat.beq i j then .dead else .elp j k o
 | a=>a
def AV.sn (H:AH) (i:Nat):AV->AV
 | .own j=>bif Nat.beq i j then (AV.own j).vw H else .own j
 | .sub j o k=>bif Nat.beq i j then (AV.sub j o k).vw H else .sub j o k
 | .elp j k o=>bif Nat.beq i j then .dead else .elp j k o
 | a=>a
def kF (g:AV->AV):List AV->List AV
 | []=>[]
 | a :: r=>g a :: kF g r
def TV1.mapA (g:AV->AV):TV1->TV1
 | .c a=>.c (g a)
 | .agg l=>.agg (kF g l)
def mH (g:AV->AV):List TV1->List TV1
 | []=>[]
 | a :: r=>a.mapA g :: mH g r
def TV.mapA (g:AV->AV):TV->TV
 | .one t=>.one (t.mapA g)
 | .tup l=>.tup (mH g l)
 | .un=>.un
def eD (g:AV->AV):AFr->AFr
 | []=>[]
 | (i,v) :: r=>(i,v.mapA g) :: eD g r
def mapM (g:AV->AV):List (Int × AV)->List (Int × AV)
 | []=>[]
 | (k,a) :: r=>(k,g a) :: mapM g r
def AO.mapA (g:AV->AV):AO->AO
 | .box t cs=>.box t (kF g cs)
 | .mapf l=>.mapf (mapM g l)
 | o=>o
def fD (g:AV->AV):AH->AH
 | []=>[]
 | o :: r=>o.mapA g :: fD g r
structure SR where
 v:TV
 fr:AFr
 H:AH
 ob:List Prop:=[]
 fc:List Prop:=[]
def gr (s:Sh):TV1->Bool
 | .agg _=>s.iD
 | .c _=>!s.iD
def dH (ro:Lv):List Nat->AFr->AH->Option (AFr × AH)
 | [],fr,H=>some (fr,H)
 | i :: l,fr,H=>match getO H i with
  | .row _ _ _=>match ro.mv i && ro.wr i with
   | true=>dH ro l (eD (AV.sn H i) fr) ((fD (AV.sn H i) H).set i .gone)
   | false=>none
  | _=>dH ro l fr H
def jr (ro:Lv) (fr:AFr) (H:AH) (e:TypeId) (s:Sh) (ys:List (den s)) (x:AV):Option SR:=
 match x with
 | .em _=>some ⟨one (.own H.length),fr,H++[.row e s ys],[ys.length*s.bytes<=140737488355328],[]⟩
 | .own id=>match getO H id with
  | .row e' s' xs=>if h:s' = s then (match ro.mv id && ro.wr id && Nat.beq e' e with
   | true=>some ⟨one (.own id),eD (AV.kill id) fr,(fD (AV.kill id) H).set id (.row e s ((h ▸ xs:List (den s))++ys)),[(xs.length+ys.length)*s.bytes<=140737488355328],[]⟩
   | false=>none) else none
  | _=>none
 | .sub id 0 len=>match getO H id with
  | .row e' s' xs=>if h:s' = s then (match ro.mv id && ro.wr id && Nat.beq e' e with
   | true=>some ⟨one (.own id),eD (AV.kill id) fr,(fD (AV.kill id) H).set id (.row e s ((h ▸ xs:List (den s)).take len++ys)),[(len+ys.length)*s.bytes<=140737488355328],[]⟩
   | false=>none) else none
  | _=>none
 | _=>none
def mI (T:List (Nat × TI)) (ro:Lv) (fr:AFr) (H:AH) (t:TypeId) (x y:AV):Option SR:=
 match aE T t with
 | some ⟨.sl e (some s),_,_⟩=>match (y.vw H).eJ s with
  | some ys=>jr ro fr H e s ys x
  | none=>none
 | _=>none
def nz (T:List (Nat × TI)) (ro:Lv) (fr:AFr) (H:AH) (t t':TypeId) (x y:AV):Option SR:=
 match aE T t,aE T t',y with
 | some ⟨.sl e (some .u8),_,_⟩,some ⟨.str,_,_⟩,.str s=>jr ro fr H e .u8 s.b x
 | _,_,_=>none
def qk (ro:Lv) (fr:AFr) (H:AH) (x:AV) (v:TV1):Option SR:=
 match x with
 | .ptr id o=>match getO H id with
  | .box t cs=>match ro.wr id && Nat.ble (o+v.cells.length) cs.length with
   | true=>some ⟨.un,fr,H.set id (.box t (over cs o v.cells)),[],[]⟩
   | false=>none
  | .arr t s n xs=>match ro.wr id && Nat.beq s.size 1,v.cells with
   | true,[a]=>match a.plain,db s [a] with
    | true,some x'=>some ⟨.un,fr,H.set id (.arr t s n (xs.set o x')),[o<n],[]⟩
    | _,_=>none
   | true,_=>match Nat.beq o 0,lP s v.cells with
    | true,some l=>match Nat.beq l.length n with
     | true=>some ⟨.un,fr,H.set id (.arr t s n l),[],[]⟩
     | false=>none
    | _,_=>none
   | _,_=>none
  | _=>none
 | .elp id i o=>match getO H id with
  | .row t s xs=>match ro.wr id && Nat.ble (o+v.cells.length) s.size && !aQ id (bW v.cells),db s (over (cellsOf s (xs.getD i (aY s))) o (rL H v.cells)),dH ro (bW v.cells) fr H with
   | true,some x',some q=>some ⟨.un,q.1,q.2.set id (.row t s (xs.set i x')),[],[]⟩
   | _,_,_=>none
  | _=>none
 | _=>none
def kO (s:Sh) (H:AH):List (Nat × TV1)->Nat->Option (List (den s))
 | [],_=>some []
 | (i,v) :: r,k=>match Nat.beq i k,db s (rL H v.cells),kO s H r (k+1) with
  | true,some x,some l=>some (x :: l)
  | _,_,_=>none
def qy:List (Nat × TV1)->List Nat
 | []=>[]
 | (_,v) :: r=>bW v.cells++qy r
def fJ (f:Nat->AO):List Nat->AH->AH
 | [],H=>H
 | i :: r,H=>fJ f r (H.set i (f i))
def AV.aT (l:List Nat):AV->AV
 | .own j=>bif aQ j l then .dead else .own j
 | .sub j o k=>bif aQ j l then .dead else .sub j o k
 | .elp j k o=>bif aQ j l then .dead else .elp j k o
 | a=>a
def rowsOf (H:AH):List Nat->List Nat
 | []=>[]
 | i :: r=>match getO H i with
  | .row _ _ _=>i :: rowsOf H r
  | .loc=>i :: rowsOf H r
  | _=>rowsOf H r
def pQ (ro:Lv):List Nat->Bool
 | []=>true
 | i :: r=>ro.wr i && ro.mv i && pQ ro r
def Dr (b:Sh):List (Int × AV)->Bool
 | []=>true
 | (_,a) :: r=>a.no b && Dr b r
def ky (b:Sh):List AO->Bool
 | []=>true
 | .box _ cs :: r=>AK b cs && ky b r
 | .row _ s _ :: r=>dU (Sh.no 5 b) s.fC && ky b r
 | .gone :: r=>ky b r
 | .mapo s _ :: r=>dU (Sh.no 5 b) s.fC && ky b r
 | .arr _ s _ _ :: r=>dU (Sh.no 5 b) s.fC && ky b r
 | .mapf l :: r=>Dr b l && ky b r
 | .loc :: r=>ky b r
def cJ (H:AH) (σ:List Nat) (j:Nat):Nat:=bif Nat.ble σ.length j then H.length+(j - σ.length) else σ.getD j 0
def rX (O:cC) (ro:Lv) (fr:AFr) (H:AH) (f:Nat) (a:List TV1) (lent:List Nat):Option SR:=
 match kB H a with
 | σ=>match eV σ && jb σ (jh a) && dD H σ σ && iB σ lent && pQ ro σ with
  | true=>match O f (dO (posOf · σ) a) (jm (posOf · σ) (fG H σ)) with
   | some ⟨pre,rs,some H',_⟩=>match Nat.ble σ.length H'.length && dU (fun b=>Ch b rs && ky b H') (cd H lent) with
    | true=>some ⟨tG (dO (cJ H σ) rs),eD (AV.aT (rowsOf H σ)) fr,fJ (fun i=>(H'.getD (posOf i σ) .gone).fx (cJ H σ)) σ (fD (AV.aT (rowsOf H σ)) H)++jm (cJ H σ) (H'.drop σ.length),pre,yZ rs⟩
    | false=>none
   | _=>none
  | false=>none
def xl (O:cC) (fr:AFr) (H:AH) (f:Nat) (a:List TV1):Option SR:=
 match kB H a with
 | σ=>match eV σ && jb σ (jh a) && dD H σ σ with
  | true=>match O f (dO (posOf · σ) a) (jm (posOf · σ) (fG H σ)) with
   | some ⟨pre,rs,some H',true⟩=>match Nat.ble σ.length H'.length with
    | true=>some ⟨tG (dO (cJ H σ) rs),fr,H++jm (cJ H σ) (H'.drop σ.length),pre,yZ rs⟩
    | false=>none
   | _=>none
  | false=>none
def vR (O:cC) (ro:Lv) (fr:AFr) (H:AH) (f:Nat) (args:List TV1):Option SR:=
 match xl O fr H f args with
 | some r=>some r
 | none=>match hU H (cu args),rX O ro fr H f (tz H args) (cu args) with
 | true,some r=>some r
 | _,_=>rX O ro fr H f args []
def tU (T:List (Nat × TI)) (ro:Lv) (fr:AFr) (H:AH) (t:TypeId) (x y z:Operand):Option SR:=
 match aE T t,bT fr x,bT fr y,bT fr z with
 | some ⟨.mp _ _ (some s),_,_⟩,some (.one (.c (.mq id))),some (.one (.c (.int k))),some (.one v)=>match getO H id with
  | .mapo s' f=>if h:s' = s then (match ro.wr id && gr s v && !aQ id (bW v.cells),db s (rL H v.cells),dH ro (bW v.cells) fr H with
   | true,some x',some q=>some ⟨.un,q.1,q.2.set id (.mapo s fun j=>if j=k then some x' else (h ▸ f:Int->Option (den s)) j),[],[]⟩
   | _,_,_=>none) else none
  | _=>none
 | _,_,_,_=>none
def vl (T:List (Nat × TI)) (ro:Lv) (fr:AFr) (H:AH) (t:TypeId) (x y z:Operand):Option SR:=
 match aE T t,bT fr x,bT fr y,bT fr z with
 | some ⟨.mp _ _ none,_,_⟩,some (.one (.c (.mq id))),some (.one (.c (.int k))),some (.one (.c a))=>match getO H id with
  | .mapf l=>match ro.wr id with
   | true=>some ⟨.un,fr,H.set id (.mapf ((k,a) :: l)),[],[]⟩
   | false=>none
  | _=>none
 | _,_,_,_=>none
def rW (T:List (Nat × TI)) (ro:Lv) (fr:AFr) (H:AH) (t:TypeId) (x y z:Operand):Option SR:=match tU T ro fr H t x y z with
 | some r=>some r
 | none=>vl T ro fr H t x y z
def vi (O:cC) (ro:Lv) (fr:AFr) (H:AH) (c:Call) (l:List TV1):Option SR:=match dH ro (cu l) fr H with
 | some q=>match dh q.1 c with
  | some (f,l')=>match qW O q.2 f l' with
   | some r=>some ⟨r.v,q.1,q.2,r.ob,r.fc⟩
   | none=>none
  | none=>none
 | none=>none
variable (T:List (Nat × TI)) (O:cC) (ro:Lv)
def sv (fr:AFr) (H:AH):Op->Option SR
  | .box t x=>match bT fr x with
    | some (.one v)=>some ⟨one (.ptr H.length 0),fr,H++[wq T t v.cells],[],[]⟩
    | _=>none
  | .alloc t=>match aE T t with
    | some ti=>some ⟨one (.ptr H.length 0),fr,H++[wq T t ti.zero],[],[]⟩
    | none=>none
  | .store t x v=>match bT fr x,bT fr v,aE T t with
    | some (.one (.c a)),some (.one b),some ti=>match Nat.beq ti.size b.cells.length with
      | true=>qk ro fr H a b
      | false=>none
    | _,_,_=>none
  | .buildSlice t n parts=>match aE T t,pF fr parts.toList with
    | some ⟨.sl e (some s),_,_⟩,some l=>match kO s H l 0,dH ro (qy l) fr H with
      | some xs,some q=>match Nat.beq xs.length n && Nat.ble (n*s.size) 16777216 && Nat.ble (n*s.bytes) 140737488355328 with
        | true=>match n with
          | 0=>some ⟨one (.em false),fr,H,[],[]⟩
          | _=>some ⟨one (.own q.2.length),q.1,q.2++[.row e s xs],[],[]⟩
        | false=>none
      | _,_=>none
    | _,_=>none
  | .makeMap t none=>match aE T t with
    | some ⟨.mp _ _ (some s),_,_⟩=>some ⟨one (.mq H.length),fr,H++[.mapo s fun _=>none],[],[]⟩
    | some ⟨.mp _ _ none,_,_⟩=>some ⟨one (.mq H.length),fr,H++[.mapf []],[],[]⟩
    | _=>none
  | .insert t x y z=>rW T ro fr H t x y z
  | .mapUpdate t x y z=>rW T ro fr H t x y z
  | .makeSlice t n m=>match aE T t,bT fr n,bT fr m with
    | some ⟨.sl e (some s),_,_⟩,some (.one (.c (.int k))),some (.one (.c (.int k')))=>match Nat.beq s.size 1 with
     | true=>some ⟨one (.own H.length),fr,H++[.row e s (List.replicate k.toNat (aY s))],[0<=k,k*s.bytes<=140737488355328,k' = k],[]⟩
     | false=>none
    | _,_,_=>none
  | .slice t x lo hi mx=>match bT fr x with
    | some (.one (.c (.own i)))=>match dH ro [i] fr H with
      | some q=>match pv T O q.2 q.1 (.slice t x lo hi mx) with
        | some r=>some ⟨r.v,q.1,q.2,r.ob,r.fc⟩
        | none=>none
      | none=>none
    | _=>none
  | .call c=>match c.callee with
    | .builtin .append=>match c.args.toList,c.argTypes.toList with
      | [x,y],[t,t']=>match Nat.beq t t',bT fr x,bT fr y with
        | true,some (.one (.c a)),some (.one (.c b))=>mI T ro fr H t a b
        | false,some (.one (.c a)),some (.one (.c b))=>nz T ro fr H t t' a b
        | _,_,_=>none
      | _,_=>none
    | .value _=>match dh fr c with
      | some (f,l)=>match vR O ro fr H f l with
        | some r=>some r
        | none=>vi O ro fr H c l
      | none=>none
    | _=>none
  | _=>none
def gS:List Prop->Prop
 | []=>True
 | [p]=>p
 | p :: q :: l=>p/\gS (q :: l)
def same (b:Bool):List Prop:=bif b then [] else [False]
def lE:List Prop->Prop->Prop
 | [],R=>R
 | p :: l,R=>p/\lE l R
def gI:List Prop->Prop->Prop
 | [],R=>R
 | p :: l,R=>p->gI l R
def ji (d:Option Nat) (v:TV) (fr:AFr):AFr:=match d with
 | some d=>(d,v) :: fr
 | none=>fr
def geq:Option (Nat × Bool)->Nat->Bool->Bool
 | some (j,b),i,c=>Nat.beq j i && (b == c)
 | none,_,_=>false
def iq (t:Nat):Oper->Bool
 | ⟨_,.pick (.tmp u) _ _,_,_,_,_⟩=>Nat.beq t u
 | _=>false
def kq (t:Nat):List Oper->Option (List Oper × Oper × List Oper)
 | []=>none
 | o :: r=>bif iq t o then some ([],o,r) else match kq t r with
  | some (a,b,c)=>some (o :: a,b,c)
  | none=>none
def jk:Option TV->Option BE
 | some (.one (.c (.bool e)))=>some e
 | _=>none
def re (e:BE) (w:Bool) (on off:Option TV):Option BE:=
 match w,jk on,jk off with
 | true,some x,some (.lit false)=>some (.and e x)
 | false,some x,some (.lit true)=>some (.or e x)
 | _,_,_=>none
structure GR where
 fr:AFr
 ob:List Prop
 fc:List Prop
def dM (fr:AFr):Option Nat->Bool
 | none=>true
 | some d=>match lookA fr d with
  | none=>true
  | some _=>false
def qJ (l:List Oper) (fr:AFr) (j:Nat) (w:Bool):List Nat->List Oper->Bool
 | _,[]=>true
 | us,o :: r=>dM fr o.dst && (match o.guard with
  | some (j',w')=>(Nat.beq j' j && (w' == w)) || (match idst l j' with
   | some t=>aQ t us
   | none=>false)
  | none=>false) && qJ l fr j w (match o.dst with
   | some d=>d :: us
   | none=>us) r
def uN (a b:Option (Nat × Bool)):Bool:=match a,b with
 | none,none=>true
 | some (i,x),some (j,y)=>Nat.beq i j && (x == y)
 | _,_=>false
def iG (e:BE) (w:Bool):List Prop->List Prop
 | []=>[]
 | ob=>[e.p w->gS ob]
structure GrpR where
 d:Nat
 v:BE
 ob:List Prop
 fc:List Prop
 tail:List Oper
def xI (l:List Oper) (fr:AFr) (g:Option (Nat × Bool)) (run:Option (Nat × Bool)->List Oper->AFr->Option GR) (j:Nat) (w:Bool) (ops:List Oper):Option GrpR:=
 match idst l j with
 | some t=>match jk (lookA fr t),kq t ops with
  | some e,some (grp,pk,tail)=>match qJ l fr j w [] grp && uN pk.guard g && dM fr pk.dst,run (some (j,w)) grp fr with
   | true,some q=>match pk.op,pk.dst with
    | .pick _ x y,some d=>match re e w (bT q.fr (cond w x y)) (bT fr (cond w y x)) with
     | some v=>some ⟨d,v,iG e w q.ob,iG e w q.fc,tail⟩
     | none=>none
    | _,_=>none
   | _,_=>none
  | _,_=>none
 | none=>none
def tu (l:List Oper) (H:AH):Nat->Option (Nat × Bool)->List Oper->AFr->Option GR
 | 0,_,_,_=>none
 | _+1,_,[],fr=>some ⟨fr,[],[]⟩
 | n+1,g,o :: rest,fr=>
  match uN o.guard g with
  | true=>match dM fr o.dst,pv T O H fr o.op with
   | true,some r=>match tu l H n g rest (ji o.dst r.v fr) with
    | some q=>some ⟨q.fr,r.ob++q.ob,r.fc++q.fc⟩
    | none=>none
   | _,_=>none
  | false=>match o.guard with
   | some (j,w)=>match xI l fr g (tu l H n) j w (o :: rest) with
    | some r=>match tu l H n g r.tail ((r.d,one (.bool r.v)) :: fr) with
     | some q=>some ⟨q.fr,r.ob++q.ob,r.fc++q.fc⟩
     | none=>none
    | none=>none
   | none=>none
def isSt:Op->Bool
 | .store _ _ _=>true
 | .insert _ _ _ _=>true
 | .mapUpdate _ _ _ _=>true
 | _=>false
def ye (o:Oper):Bool:=match isSt o.op,o.dst with
 | true,some _=>false
 | _,_=>true
structure IxR where
 s:Sh
 xs:List (den s)
 i:Int
def FR (fr:AFr):Op->Option IxR
 | .indexAddr t x y=>match bT fr x,bT fr y,Co T t with
  | some (.one (.c (.fz s xs))),some (.one (.c b)),some s'=>match decide (s' = s),b.ix with
   | true,some i=>some ⟨s,xs,i⟩
   | _,_=>none
  | _,_,_=>none
 | _=>none
structure NilR where
 s:Sh
 xs:List (den s)
 ne:Bool
def Bc (H:AH) (fr:AFr):Op->Option NilR
 | .binOp op t x y _=>match op,aE T t,bT fr x,bT fr y with
  | .eql,some ⟨.sl _ _,_,_⟩,some (.one (.c a)),some (.one (.c (.em true)))=>match a.vw H with
   | .fz s xs=>some ⟨s,xs,false⟩
   | _=>none
  | .neq,some ⟨.sl _ _,_,_⟩,some (.one (.c a)),some (.one (.c (.em true)))=>match a.vw H with
   | .fz s xs=>some ⟨s,xs,true⟩
   | _=>none
  | _,_,_,_=>none
 | _=>none
def Av:Bool->Bool->BE
 | true,b=>.not (.atom b)
 | false,b=>.atom b
structure MpR where
 k:Int
 ok:Bool
 l:List (Int × AV)
def mapA (H:AH) (fr:AFr):Op->Option MpR
 | .lookup t x y ok=>match aE T t,bT fr x,bT fr y with
  | some ⟨.mp _ _ none,_,_⟩,some (.one (.c (.mq id))),some (.one (.c (.int k)))=>match getO H id with
   | .mapf l=>some ⟨k,ok,l⟩
   | _=>none
  | _,_,_=>none
 | _=>none
def sG:Bool->AV->Bool->TV
 | true,a,b=>.tup [.c a,.c (.bool (.lit b))]
 | false,a,_=>one a
def na (k:Int) (ok:Bool) (K:TV->Prop):List (Int × AV)->Prop
 | []=>K (sG ok .nf false)
 | (j,a) :: r=>(k=j->K (sG ok a true))/\(¬ k=j->na k ok K r)
structure SpR where
 e:BE
 on:List Oper
 d:Nat
 off:Operand
 tail:List Oper
def CT (l:List Oper) (fr:AFr) (j:Nat) (w:Bool) (ops:List Oper):Option SpR:=
 match idst l j with
 | some t=>match jk (lookA fr t),kq t ops with
  | some e,some (grp,pk,tail)=>match qJ l fr j w [] grp && uN pk.guard none && dM fr pk.dst,pk.op,pk.dst with
   | true,.pick _ x y,some d=>some ⟨e,grp.map (vO j w)++⟨some d,.move (cond w x y),pk.type,pk.pos,pk.after,none⟩ :: tail,d,cond w y x,tail⟩
   | _,_,_=>none
  | _,_=>none
 | none=>none
def wpOps (l:List Oper) (K:AFr->AH->Prop):Nat->List Oper->AFr->AH->Prop
  | 0,_,_,_=>False
  | _+1,[],fr,H=>K fr H
  | n+1,o :: rest,fr,H=>
    match o.guard with
    | none=>match FR T fr o.op with
     | some ⟨s,xs,i⟩=>0<=i/\i<(xs.length:Int)/\∀ x,xs[i.toNat]? = some x->gI (tR (cellsOf s x)) (wpOps l K n rest (ji o.dst (one (.fe s x 0)) fr) H)
     | none=>match Bc T H fr o.op with
     | some ⟨_,xs,ne⟩=>∀ b:Bool,(b=true->xs=[])->wpOps l K n rest (ji o.dst (one (.bool (Av ne b))) fr) H
     | none=>match mapA T H fr o.op with
     | some m=>na m.k m.ok (fun v=>wpOps l K n rest (ji o.dst v fr) H) m.l
     | none=>match pv T O H fr o.op with
      | some r=>lE r.ob (gI r.fc (wpOps l K n rest (ji o.dst r.v fr) H))
      | none=>match ye o,sv T O ro fr H o.op with
        | true,some r=>lE r.ob (gI r.fc (wpOps l K n rest (ji o.dst r.v r.fr) r.H))
        | _,_=>False
    | some (j,w)=>match xI l fr none (tu T O l H n) j w (o :: rest) with
      | some r=>lE r.ob (gI r.fc (wpOps l K n r.tail ((r.d,one (.bool r.v)) :: fr) H))
      | none=>match CT l fr j w (o :: rest) with
        | some r=>(r.e.p w->wpOps l K n r.on fr H)/\(r.e.p (!w)->match bT fr r.off with
          | some v=>wpOps l K n r.tail ((r.d,v) :: fr) H
          | none=>False)
        | none=>False
structure LI where
 σ:Type
 F:σ->AFr × AH
 J:σ->Prop
 μ:σ->Nat
 R:Option (σ->σ->Prop):=none      -- what holds of the state at its beginning,and any later one
 un:Option (Nat × List Nat):=none   -- walked round by round,so often; the slots that are kept
def LI.rel (I:LI) (a b:I.σ):Prop:=match I.R with
 | none=>True
 | some r=>r a b
def LI.dY (I:LI) (a b:I.σ) (p:Prop):Prop:=match I.R with
 | none=>p
 | some r=>r a b/\p
def LI.imp (I:LI) (a b:I.σ) (p:Prop):Prop:=match I.R with
 | none=>p
 | some r=>r a b->p
theorem LI.rH {I:LI} {a b:I.σ} {p:Prop}:I.dY a b p↔I.rel a b/\p:=by
 unfold LI.dY LI.rel; cases I.R <;> simp
theorem LI.yN {I:LI} {a b:I.σ} {p:Prop}:I.imp a b p↔(I.rel a b->p):=by
 unfold LI.imp LI.rel; cases I.R <;> simp
def Ae:List (Nat × LI)->Option Nat->Option LI
 | [],_=>none
 | _,none=>none
 | (j,v) :: r,some i=>bif Nat.beq j i then some v else Ae r (some i)
def eK:Code->Option Nat
 | .region i _ _=>some i
 | .seq a b=>match eK a with
  | some i=>some i
  | none=>eK b
 | .cond _ a b=>match eK a with
  | some i=>some i
  | none=>eK b
 | .block _ a=>eK a
 | .loop a=>eK a
 | .scope a=>eK a
 | _=>none
def iota:Nat->Nat->List Nat
 | _,0=>[]
 | k,n+1=>k :: iota (k+1) n
def tS:List Nat->Nat->Nat->Bool
 | [],_,_=>false
 | k :: _,0,i=>Nat.beq k i
 | _ :: r,j+1,i=>tS r j i
def tH (n:Nat):List Nat->Nat->Bool
 | [],_=>false
 | k :: _,0=>Nat.ble n k
 | _ :: r,j+1=>tH n r j
def jf (σ:List Nat):List (Nat × Nat)->List (Nat × Nat)->Bool
 | [],[]=>true
 | (i,o) :: r,(j,o') :: l=>tS σ j i && Nat.beq o o' && jf σ r l
 | _,_=>false
def CX (H:AH) (σ:List Nat) (j:Nat):Bool:=match σ[j]? with
 | some i=>match getO H i with
  | .box _ _=>true
  | _=>false
 | none=>false
def FM (σ:List Nat):XK->XK->List (Nat × Nat)->List (Nat × Nat)->List Prop
 | .er a,.er b,[],[]=>[a=b]
 | .bp,.bp,b,b'=>same (jf σ b b')
 | .pl,.pl,b,b'=>same (jf σ b b')
 | .pa,.pa,b,b'=>same (jf σ b b')
 | _,_,_,_=>[False]
def DF (H:AH) (σ:List Nat):XK->List (Nat × Nat)->List Prop
 | .bp,[q]=>same (CX H σ q.1)
 | _,_=>[False]
def Dc (σ:List Nat) (i o:Nat):XK->List (Nat × Nat)->List Prop
 | .bp,[q]=>same (tS σ q.1 i && Nat.beq o q.2)
 | _,_=>[False]
def Ee (H:AH) (n:Nat) (σ:List Nat):AV->AV->List Prop
 | .int a,.int b=>[a=b]
 | .u8 a,.u8 b=>[a=b]
 | .u64 a,.u64 b=>[a=b]
 | .bool a,.bool b=>[a.val=b.val]
 | .str a,.str b=>[a=b]
 | .fz s xs,.fz s' ys=>if h:s=s' then [(h ▸ xs:List (den s'))=ys] else [False]
 | .em _,.fz _ ys=>[ys=[]]
 | .em a,.em b=>same (a == b)
 | .em _,.own j=>same (tH n σ j)
 | .own i,.own j=>same (tS σ j i)
 | .own i,.fz s ys=>match getO H i with
  | .row _ s' xs=>if h:s' = s then same (!aQ i σ)++[(h ▸ xs:List (den s))=ys] else [False]
  | _=>[False]
 | .sub i o l,.sub j o' l'=>same (tS σ j i)++[o=o',l=l']
 | .ptr i o,.ptr j o'=>same (tS σ j i && Nat.beq o o')
 | .np,.np=>[]
 | .elp i k o,.elp j k' o'=>same (tS σ j i && Nat.beq o o')++[k=k']
 | .nf,.nf=>[]
 | .yl a,.yl b=>same (Nat.beq a b)
 | .mq i,.mq j=>same (tS σ j i)
 | .fn f b c,.fn g b' c'=>same (Nat.beq f g && jf σ b b' && jf σ c c')
 | .xx k b,.xx k' b'=>FM σ k k' b b'
 | .np,.xx k b=>DF H σ k b
 | .ptr i o,.xx k b=>Dc σ i o k b
 | _,.dead=>[]
 | _,_=>[False]
def uc (H:AH) (n:Nat) (σ:List Nat):List AV->List AV->List Prop
 | [],[]=>[]
 | a :: r,b :: l=>Ee H n σ a b++uc H n σ r l
 | _,_=>[False]
def zr (H:AH) (n:Nat) (σ:List Nat):TV1->TV1->List Prop
 | .c a,.c b=>Ee H n σ a b
 | .agg a,.agg b=>uc H n σ a b
 | _,_=>[False]
def pJ (H:AH) (n:Nat) (σ:List Nat):List TV1->List TV1->List Prop
 | [],[]=>[]
 | a :: r,b :: l=>zr H n σ a b++pJ H n σ r l
 | _,_=>[False]
def Ei (H:AH) (n:Nat) (σ:List Nat):TV->TV->List Prop
 | .one a,.one b=>zr H n σ a b
 | .tup a,.tup b=>pJ H n σ a b
 | _,.un=>[]
 | _,_=>[False]
def yj (H:AH) (n:Nat) (σ:List Nat) (fr:AFr):AFr->List Prop
 | []=>[]
 | (i,v) :: r=>match lookA fr i with
  | some u=>Ei H n σ u v++yj H n σ fr r
  | none=>[False]
def nq (T:List (Nat × TI)) (t:TypeId) (s:Sh):List (Nat × TI)->Bool
 | []=>false
 | (i,_) :: r=>(match aE T i with
  | some ⟨.sl e (some s'),_,_⟩=>Nat.beq e t && decide (s' = s)
  | _=>false) || nq T t s r
def FN (H:AH) (n:Nat) (σ:List Nat):AO->AO->List Prop
 | .box t cs,.box t' cs'=>same (Nat.beq t t')++uc H n σ cs cs'
 | .row t s xs,.row t' s' ys=>same (Nat.beq t t')++(if h:s=s' then [(h ▸ xs:List (den s'))=ys] else [False])
 | .gone,.gone=>[]
 | .mapo s f,.mapo s' f'=>if h:s=s' then [(h ▸ f:Int->Option (den s'))=f'] else [False]
 | .arr t s m xs,.arr t' s' m' ys=>same (Nat.beq t t' && Nat.beq m m')++(if h:s=s' then [(h ▸ xs:List (den s'))=ys] else [False])
 | _,_=>[False]
def FP (T:List (Nat × TI)):AO->List Prop
 | .row t s ys=>same (nq T t s T)++[ys=[]]
 | _=>[False]
def Ck (T:List (Nat × TI)) (H:AH) (n:Nat) (σ:List Nat):List Nat->AH->List Prop
 | [],[]=>[]
 | k :: r,b :: l=>(bif Nat.blt k n then FN H n σ (getO H k) b else FP T b)++Ck T H n σ r l
 | _,_=>[False]
def sg:List (Nat × Nat)->List (Nat × Nat)->List (Nat × Nat)
 | (i,_) :: r,(j,_) :: l=>(j,i) :: sg r l
 | _,_=>[]
def zN:AV->AV->List (Nat × Nat)
 | .own i,.own j=>[(j,i)]
 | .sub i _ _,.sub j _ _=>[(j,i)]
 | .elp i _ _,.elp j _ _=>[(j,i)]
 | .ptr i _,.ptr j _=>[(j,i)]
 | .fn _ b c,.fn _ b' c'=>sg b b' ++ sg c c'
 | .xx _ b,.xx _ b'=>sg b b'
 | _,_=>[]
def vn:List AV->List AV->List (Nat × Nat)
 | a :: r,b :: l=>zN a b++vn r l
 | _,_=>[]
def rQ:List TV1->List TV1->List (Nat × Nat)
 | .c a :: r,.c b :: l=>zN a b++rQ r l
 | .agg a :: r,.agg b :: l=>vn a b++rQ r l
 | _,_=>[]
def CI:AO->AO->List (Nat × Nat)
 | .box _ cs,.box _ cs'=>vn cs cs'
 | _,_=>[]
def rE (n:Nat):List (Nat × Nat)->Nat->Nat
 | [],_=>n
 | (j,i) :: r,k=>bif Nat.beq j k then i else rE n r k
def xt (H:AH):List Nat->AH->List (Nat × Nat)
 | k :: r,o :: l=>CI (getO H k) o++xt H r l
 | _,_=>[]
def iu (n:Nat):List Nat->Bool
 | []=>true
 | k :: r=>(Nat.ble n k || !aQ k r) && iu n r
def Dt (fr:AFr):AFr->List (Nat × Nat)
 | []=>[]
 | (i,v) :: r=>(match lookA fr i,v with
  | some (.one u),.one v=>rQ [u] [v]
  | _,_=>[])++Dt fr r
def BC (ps:List (Nat × Nat)):Nat->Nat->List Nat
 | _,0=>[]
 | k,m+1=>rE k ps k :: BC ps (k+1) m
def zn (k0:Nat) (fr:AFr) (H:AH) (q:AFr × AH):Nat->List (Nat × Nat)->List Nat
 | 0,ps=>iota 0 k0++BC ps k0 (q.2.length - k0)
 | f+1,ps=>zn k0 fr H q f (Dt fr q.1++xt H (iota 0 k0++BC ps k0 (q.2.length - k0)) q.2)
def yd (T:List (Nat × TI)) (k0:Nat) (fr:AFr) (H:AH) (q:AFr × AH):List Prop:=
 match zn k0 fr H q 3 [] with
 | σ=>same (Nat.ble k0 q.2.length && iu H.length σ)++yj H H.length σ fr q.1++Ck T H H.length σ σ q.2
def Operand.sl:Operand->List Nat
 | .tmp t=>[t]
 | _=>[]
def El:List Operand->List Nat
 | []=>[]
 | x :: r=>Operand.sl x++El r
def Ff:List (Nat × Operand)->List Nat
 | []=>[]
 | (_,x) :: r=>Operand.sl x++Ff r
def FT:Option Operand->List Nat
 | some x=>Operand.sl x
 | none=>[]
def qq:Op->List Nat
 | .move x=>Operand.sl x
 | .assign x=>Operand.sl x
 | .pick z x y=>Operand.sl z++Operand.sl x++Operand.sl y
 | .unOp _ _ x=>Operand.sl x
 | .binOp _ _ x y _=>Operand.sl x++Operand.sl y
 | .extract x _=>Operand.sl x
 | .nilCheck x=>Operand.sl x
 | .convert _ _ x=>Operand.sl x
 | .makeFunc _ b c=>El b.toList++El c.toList
 | .fieldAddr _ x _=>Operand.sl x
 | .load _ x=>Operand.sl x
 | .indexAddr _ x y=>Operand.sl x++Operand.sl y
 | .index _ x y=>Operand.sl x++Operand.sl y
 | .build _ l=>Ff l.toList
 | .slice _ x l h _=>Operand.sl x++FT l++FT h
 | .lookup _ x y _=>Operand.sl x++Operand.sl y
 | .call c=>(match c.callee with
  | .value f=>Operand.sl f
  | _=>[])++El c.args.toList
 | _=>[]
structure DV where
 d:Nat
 v:TV
 ch:List (Nat × Bool)
 deps:List Nat
 ob:List Prop
 fc:List Prop
def mQ:List DV->Nat->Option DV
 | [],_=>none
 | a :: _,0=>some a
 | _ :: r,i+1=>mQ r i
def bM (sl:List Nat):Nat->List DV->List Nat
 | _,[]=>[]
 | k,a :: r=>bif aQ a.d sl then k :: bM sl (k+1) r else bM sl (k+1) r
def xq (ds:List DV) (fr:AFr):List Nat->AFr
 | []=>fr
 | j :: r=>match mQ ds j with
  | some a=>(a.d,a.v) :: xq ds fr r
  | none=>xq ds fr r
def iT:List (Nat × Bool)->List (Nat × Bool)->Bool
 | [],_=>true
 | (i,a) :: r,(j,b) :: l=>Nat.beq i j && (a == b) && iT r l
 | _,_=>false
def mP (ds:List DV) (ch:List (Nat × Bool)):List Nat->Bool
 | []=>true
 | j :: r=>(match mQ ds j with
  | some a=>iT a.ch ch
  | none=>false) && mP ds ch r
def xC (ds:List DV):List (Nat × Bool)->Option BE
 | []=>some (.lit true)
 | (j,w) :: r=>match mQ ds j,xC ds r with
  | some a,some g=>match jk (some a.v) with
   | some e=>some (.and (match w with
    | true=>e
    | false=>.not e) g)
   | none=>none
  | _,_=>none
def fk (e:BE):List Prop->List Prop
 | []=>[]
 | ob=>match e with
  | .lit true=>ob
  | e=>[e.p true->gS ob]
def pK:BE->BE
 | .and a (.lit true)=>a
 | .and a g=>.and a (pK g)
 | g=>g
def qo (ds:List DV):Option (Nat × Bool)->Option (List (Nat × Bool) × List Nat)
 | none=>some ([],[])
 | some (j,w)=>match mQ ds j with
  | some a=>some (a.ch++[(j,w)],[a.d])
  | none=>none
def eC:Operand->Bool
 | .tmp _=>true
 | _=>false
def vX (ds:List DV) (ch:List (Nat × Bool)) (t:Nat) (x y:Operand):Option BE:=
 match bM [t] 0 ds with
 | [jc]=>match mQ ds jc with
  | some c=>match jk (some c.v),iT c.ch ch with
   | some e,true=>match bM (Operand.sl (cond (eC x) x y)) 0 ds with
    | [jx]=>match mQ ds jx with
     | some a=>match iT a.ch (ch++[(jc,eC x)]) with
      | true=>re e (eC x) (some a.v) (bT [] (cond (eC x) y x))
      | false=>none
     | none=>none
    | _=>none
   | _,_=>none
  | none=>none
 | _=>none
def ku (H:AH) (fr:AFr) (ds:List DV) (o:Oper):Option DV:=
 match o.dst,qo ds o.guard with
 | some d,some (ch,gs)=>match xC ds ch with
  | some g=>match o.op with
   | .pick (.tmp t) x y=>match vX ds ch t x y with
    | some v=>some ⟨d,one (.bool v),ch,bM (qq (.pick (.tmp t) x y)++gs) 0 ds,[],[]⟩
    | none=>none
   | op=>match mP ds ch (bM (qq op++gs) 0 ds),pv T O H (xq ds fr (bM (qq op++gs) 0 ds)) op with
    | true,some r=>some ⟨d,r.v,ch,bM (qq op++gs) 0 ds,fk (pK g) r.ob,fk (pK g) r.fc⟩
    | _,_=>none
  | none=>none
 | _,_=>none
def nh (H:AH) (fr:AFr):List Oper->List DV->Option (List DV)
 | [],ds=>some ds
 | o :: r,ds=>match ku T O H fr ds o with
  | some a=>nh H fr r (ds++[a])
  | none=>none
def Ap:List DV->List Prop
 | []=>[]
 | a :: r=>a.ob++Ap r
def wF:List DV->List Prop
 | []=>[]
 | a :: r=>a.fc++wF r
def oS:List DV->AFr->AFr
 | [],fr=>fr
 | a :: r,fr=>match a.ch with
  | []=>(a.d,a.v) :: oS r fr
  | _=>oS r fr
def vC (H:AH) (fr:AFr):List Oper->List DV->Nat->Nat
 | [],_,k=>k
 | o :: r,ds,k=>match ku T O H fr ds o with
  | some a=>vC H fr r (ds++[a]) (k+1)
  | none=>k
def TV.ids:TV->List Nat
 | .one t=>ny t.cells
 | .tup l=>jh l
 | .un=>[]
def AV.rids:AV->List Nat
 | .own i=>[i]
 | .sub i _ _=>[i]
 | .elp i _ _=>[i]
 | _=>[]
def ll:List AV->List Nat
 | []=>[]
 | a :: r=>a.rids++ll r
def rV:List TV1->List Nat
 | []=>[]
 | a :: r=>ll a.cells++rV r
def TV.rids:TV->List Nat
 | .one t=>ll t.cells
 | .tup l=>rV l
 | .un=>[]
def AO.rids:AO->List Nat
 | .box _ cs=>ll cs
 | .mapf l=>ll (l.map (·.2))
 | _=>[]
def slotIds (fr:AFr):List Nat->List Nat
 | []=>[]
 | t :: r=>(match lookA fr t with
  | some v=>v.ids
  | none=>[])++slotIds fr r
def gT (fr:AFr):List Nat->List Nat
 | []=>[]
 | t :: r=>(match lookA fr t with
  | some v=>v.rids
  | none=>[])++gT fr r
def objIds (H:AH):List Nat->List Nat
 | []=>[]
 | p :: r=>(getO H p).ids++objIds H r
def fi (H:AH):List Nat->List Nat
 | []=>[]
 | p :: r=>(getO H p).rids++fi H r
def bm (fr:AFr):List Nat->AFr
 | []=>[]
 | t :: r=>match lookA fr t with
  | some v=>(t,v) :: bm fr r
  | none=>bm fr r
def maskH (σ:List Nat):Nat->AH->AH
 | _,[]=>[]
 | p,o :: r=>(bif aQ p σ then o else .loc) :: maskH σ (p+1) r
def disj (a:List Nat):List Nat->Bool
 | []=>true
 | i :: r=>!aQ i a && disj a r
def gE (n:Nat):List Nat->Bool
 | []=>true
 | i :: r=>Nat.blt i n && gE n r
inductive Ent
 | fn (k:Int) (a:AV)
 | da (s:Sh) (k:Int) (x:den s)
def Ent.key:Ent->Int
 | .fn k _=>k
 | .da _ k _=>k
def Ent.put:Ent->AO->AO
 | .fn k a,.mapf l=>.mapf ((k,a) :: l)
 | .da s k x,.mapo s' f=>if h:s' = s then .mapo s fun j=>if j=k then some x else (h ▸ f:Int->Option (den s)) j else .mapo s' f
 | _,o=>o
def killO (mv:List Nat) (o:AO):AO:=match mv with
 | []=>o
 | _ :: _=>o.mapA (AV.aT mv)
def wS (mv:List Nat) (fr:AFr):AFr:=match mv with
 | []=>fr
 | _ :: _=>eD (AV.aT mv) fr
structure RC where
 on:Bool
 dst:Option Nat
 v:TV
 U:List Nat:=[]
 σ:List Nat:=[]
 ch:List Nat:=[]
 mv:List Nat:=[]
 base:Nat
 res:AH
 ent:Option Ent:=none
 ob:List Prop:=[]
 fc:List Prop:=[]
 fr0:AFr
 H0:AH
def RC.new (r:RC):List Nat:=iota r.base (r.res.length - r.base)
def fg (ch mv:List Nat) (e:Option Ent) (res:AH):Nat->AH->AH
 | _,[]=>[]
 | p,o :: r=>(bif aQ p ch then (match e with
  | some e=>e.put o
  | none=>getO res p) else killO mv o) :: fg ch mv e res (p+1) r
def RC.app (r:RC) (q:AFr × AH):AFr × AH:=(ji r.dst r.v (wS r.mv q.1),fg r.ch r.mv r.ent r.res 0 q.2++r.res.drop r.base)
def te (mv:List Nat):Nat->AH->List Nat
 | _,[]=>[]
 | p,o :: r=>bif disj mv o.rids then te mv (p+1) r else p :: te mv (p+1) r
def wC (mv:List Nat):AFr->List Nat
 | []=>[]
 | (t,v) :: r=>bif disj mv v.rids then wC mv r else t :: wC mv r
def zK (d:Option Nat) (l:List Nat):Bool:=match d with
 | some d=>aQ d l
 | none=>false
def Ej (a b:RC):Bool:=!zK b.dst a.U && disj b.ch a.σ && disj b.ch a.new && disj b.new a.σ && disj b.new a.ch && (match b.mv with
 | []=>true
 | mv=>disj (te mv 0 b.H0) a.σ && disj (wC mv b.fr0) a.U && disj mv (gT a.fr0 a.U) && disj mv (fi a.H0 a.σ) && disj mv a.v.rids && disj mv (fi a.res a.ch) && disj mv (fi a.res a.new) && (match a.ent with
  | some (.fn _ x)=>disj mv x.rids
  | _=>true))
def okI (a b:RC):Bool:=match a.ent,b.ent with
 | some e,some e2=>disj a.ch b.ch || !decide (e.key=e2.key)
 | _,_=>disj a.ch b.ch
def bitN (m j:Nat):Bool:=Nat.beq (Nat.land (Nat.shiftRight m j) 1) 1
def dv (acc:List Nat):List Nat->Nat
 | []=>0
 | j :: r=>Nat.lor (Nat.lor (Nat.shiftLeft 1 j) (acc.getD j 0)) (dv acc r)
def dQ (acc:List Nat):List Oper->List Nat
 | []=>acc
 | o :: r=>dQ (acc++[dv acc (cn o)]) r
def ru (m:Nat) (b:RC):Nat->List RC->Bool
 | _,[]=>true
 | i,a :: r=>(bitN m i || (Ej a b && Ej b a && okI a b)) && ru m b (i+1) r
def nD (b:RC):List RC->Bool
 | []=>true
 | a :: r=>(match a.dst,b.dst with
  | some i,some j=>!Nat.beq i j
  | _,_=>true) && nD b r
def qp (bef:List Nat):Nat->List RC->List RC->Bool
 | _,_,[]=>true
 | j,done,b :: r=>Nat.beq b.base b.H0.length && Nat.ble b.base b.res.length && gE b.base (slotIds b.fr0 b.U) && gE b.base (objIds b.H0 b.σ) && gE b.base b.σ && gE b.base b.ch && nD b done && (match b.ent with
   | some _=>(match b.mv,b.ch with
    | [],[_]=>true
    | _,_=>false) && Nat.beq b.res.length b.base
   | none=>true) && ru (bef.getD j 0) b 0 done && qp bef (j+1) (done++[b]) r
def jo:Nat->List Oper->Bool
 | _,[]=>true
 | i,o :: r=>gE i (cn o) && jo (i+1) r
def Ez (l:List Oper) (rs:List RC):Bool:=jo 0 l && Nat.beq rs.length l.length && qp (dQ [] l) 0 [] rs
def lI (m:Nat):Nat->List RC->List Prop
 | _,[]=>[]
 | i,a :: r=>(bif bitN m i then a.fc else [])++lI m (i+1) r
def Ew (fc:List Prop):List Prop->List Prop
 | []=>[]
 | ob=>[gI fc (gS ob)]
def Db (all:List RC):List Nat->List RC->List Prop
 | m :: bef,b :: r=>Ew (lI m 0 all) b.ob++Db all bef r
 | _,_=>[]
def Cj:List RC->List Prop
 | []=>[]
 | a :: r=>a.fc++Cj r
def kg:AFr->List Nat->AFr
 | [],_=>[]
 | (t,v) :: r,l=>bif aQ t l then kg r l else (t,v) :: kg r (t :: l)
def dR:Op->List Nat
 | .store _ x v=>Operand.sl x++Operand.sl v
 | .insert _ x y z=>Operand.sl x++Operand.sl y++Operand.sl z
 | .mapUpdate _ x y z=>Operand.sl x++Operand.sl y++Operand.sl z
 | .lookup _ x y _=>Operand.sl x++Operand.sl y
 | .box _ x=>Operand.sl x
 | .makeSlice _ x y=>Operand.sl x++Operand.sl y
 | .buildSlice _ _ l=>Ff l.toList
 | op=>qq op
def zO (fr:AFr) (H:AH):Op->List Nat
 | .move _=>[]
 | .assign _=>[]
 | .extract _ _=>[]
 | .nilCheck _=>[]
 | .makeFunc _ _ _=>[]
 | .fieldAddr _ _ _=>[]
 | .build _ _=>[]
 | .unOp _ _ _=>[]
 | .binOp _ _ _ _ _=>[]
 | .box _ _=>[]
 | .alloc _=>[]
 | .call c=>match c.callee with
  | .value _=>match dh fr c with
   | some (_,l)=>kB H l
   | none=>[]
  | _=>slotIds fr (dR (.call c))
 | op=>slotIds fr (dR op)
def Fj (fr:AFr) (H:AH):Op->List (List Nat × List Nat)
 | .store _ x v=>match bT fr x,bT fr v with
  | some (.one (.c (.ptr id _))),_=>[([id],[])]
  | some (.one (.c (.elp id _ _))),some (.one b)=>[(id :: bW b.cells,bW b.cells)]
  | _,_=>[]
 | .box _ _=>[([],[])]
 | .buildSlice _ _ l=>match pF fr l.toList with
  | some l=>[(qy l,qy l)]
  | none=>[]
 | .alloc _=>[([],[])]
 | .makeMap _ _=>[([],[])]
 | .makeSlice _ _ _=>[([],[])]
 | .call c=>match c.callee with
  | .builtin .append=>match c.args.toList with
   | [x,_]=>match bT fr x with
    | some (.one (.c (.own id)))=>[([id],[id])]
    | some (.one (.c (.sub id _ _)))=>[([id],[id])]
    | _=>[([],[])]
   | _=>[]
  | .value _=>match dh fr c with
   | some (_,l)=>[([],[]),(kB H (tz H l),kB H (tz H l)),(kB H l,kB H l)]
   | none=>[]
  | _=>[]
 | _=>[]
structure XR where
 v:TV
 ch:List Nat
 mv:List Nat
 res:AH
 ob:List Prop
 fc:List Prop
def xF (fm:AFr) (Hm:AH) (op:Op):List (List Nat × List Nat)->Option XR
 | []=>none
 | (ch,mv) :: r=>match sv T O ⟨fun i=>aQ i ch && ro.wr i,fun i=>aQ i mv && ro.mv i⟩ fm Hm op with
  | some q=>some ⟨q.v,ch,mv,q.H,q.ob,q.fc⟩
  | none=>xF fm Hm op r
def vP (fm:AFr) (Hm:AH):Op->Option PR
 | .buildSlice t n parts=>match aE T t,pF fm parts.toList with
  | some ⟨.sl _ (some s),_,_⟩,some l=>match qy l,kO s Hm l 0 with
   | [],some xs=>match Nat.beq xs.length n && Nat.ble (n*s.size) 16777216 && Nat.ble (n*s.bytes) 140737488355328 && Nat.blt 0 n with
    | true=>some ⟨one (.fz s xs),[],[]⟩
    | false=>none
   | _,_=>none
  | _,_=>none
 | _=>none
def DZ (fr:AFr) (H:AH) (o:Oper):Option XR:=
 match bm fr (dR o.op),maskH (zO fr H o.op) 0 H with
 | fm,Hm=>match vP T fm Hm o.op with
  | some r=>some ⟨r.v,[],[],Hm,r.ob,r.fc⟩
  | none=>match pv T O Hm fm o.op with
   | some r=>some ⟨r.v,[],[],Hm,r.ob,r.fc⟩
   | none=>match ye o with
    | true=>xF T O ro fm Hm o.op (Fj fr H o.op)
    | false=>none
def At (fr:AFr) (H:AH):Op->Option (Nat × Ent)
 | .insert t x y z=>match aE T t,bT fr x,bT fr y,bT fr z with
  | some ⟨.mp _ _ (some s),_,_⟩,some (.one (.c (.mq id))),some (.one (.c (.int k))),some (.one v)=>match getO H id,bW v.cells,db s v.cells with
   | .mapo s' _,[],some x'=>match decide (s' = s) && gr s v && ro.wr id with
    | true=>some (id,.da s k x')
    | false=>none
   | _,_,_=>none
  | some ⟨.mp _ _ none,_,_⟩,some (.one (.c (.mq id))),some (.one (.c (.int k))),some (.one (.c a))=>match getO H id,ro.wr id with
   | .mapf _,true=>some (id,.fn k a)
   | _,_=>none
  | _,_,_,_=>none
 | _=>none
def BG:List RC->Nat->Bool
 | [],_=>true
 | r :: _,0=>r.on
 | _ :: l,i+1=>BG l i
def kb (l:List Oper) (fr:AFr) (rs:List RC):Option (Nat × Bool)->Option Bool
 | none=>some true
 | some (j,w)=>match idst l j with
  | some t=>match BG rs j,lookA fr t with
   | false,_=>some false
   | true,some (.one (.c (.bool (.lit b))))=>some (b == w)
   | _,_=>none
  | none=>none
def dy (l:List Oper):Option (Nat × Bool)->List Nat
 | none=>[]
 | some (j,_)=>match idst l j with
  | some t=>[t]
  | none=>[]
def yz (i:Nat) (d:Option Nat):List Oper->Bool
 | []=>false
 | o :: r=>(match o.guard with
  | some (j,_)=>Nat.beq j i
  | none=>false) || (match d with
  | some d=>iq d o
  | none=>false) || yz i d r
def split (g:Bool) (v:TV) (K:TV->Prop):Prop:=match g,jk (some v) with
 | true,some (.lit b)=>K (one (.bool (.lit b)))
 | true,some e=>(e.p true->K (one (.bool (.lit true))))/\(e.p false->K (one (.bool (.lit false))))
 | _,_=>K v
def xw (l:List Oper) (K:AFr->AH->Prop):Nat->Nat->List Oper->AFr->AH->List RC->Prop
 | 0,_,_,_,_,_=>False
 | _+1,_,[],fr,H,rs=>match Ez l rs with
  | true=>lE (Db rs (dQ [] l) rs) (gI (Cj rs) (K (kg fr []) H))
  | false=>False
 | n+1,i,o :: rest,fr,H,rs=>match kb l fr rs o.guard with
  | some false=>match RC.mk false o.dst .un (dy l o.guard) [] [] [] H.length (maskH [] 0 H) none [] [] fr H with
   | rc=>xw l K n (i+1) rest (rc.app (fr,H)).1 (rc.app (fr,H)).2 (rs++[rc])
  | some true=>match o.op with
   | .pick (.tmp t) x y=>match lookA fr t with
    | some (.one (.c (.bool (.lit b))))=>match bT fr (cond b x y) with
     | some v=>split (yz i o.dst rest) v fun v=>match RC.mk true o.dst v (t :: Operand.sl (cond b x y)++dy l o.guard) [] [] [] H.length (maskH [] 0 H) none [] [] fr H with
      | rc=>xw l K n (i+1) rest (rc.app (fr,H)).1 (rc.app (fr,H)).2 (rs++[rc])
     | none=>False
    | _=>False
   | op=>match At T ro fr H op with
    | some (id,e)=>match RC.mk true none .un (dR op++dy l o.guard) [] [id] [] H.length (maskH [] 0 H) (some e) [] [] fr H,o.dst with
     | rc,none=>xw l K n (i+1) rest (rc.app (fr,H)).1 (rc.app (fr,H)).2 (rs++[rc])
     | _,_=>False
    | none=>match zO fr H op with
     | σ=>match mapA T (maskH σ 0 H) (bm fr (dR op)) op with
      | some m=>na m.k m.ok (fun v=>split (yz i o.dst rest) v fun v=>match RC.mk true o.dst v (dR op++dy l o.guard) σ [] [] H.length (maskH σ 0 H) none [] [] fr H with
       | rc=>xw l K n (i+1) rest (rc.app (fr,H)).1 (rc.app (fr,H)).2 (rs++[rc])) m.l
      | none=>match DZ T O ro fr H o with
       | some r=>split (yz i o.dst rest) r.v fun v=>match RC.mk true o.dst v (dR op++dy l o.guard) σ r.ch r.mv H.length r.res none r.ob r.fc fr H with
        | rc=>xw l K n (i+1) rest (rc.app (fr,H)).1 (rc.app (fr,H)).2 (rs++[rc])
       | none=>False
  | none=>False
def Bp (l:List Oper) (K:AFr->AH->Prop) (fr:AFr) (H:AH):Prop:=xw T O ro l K (l.length+1) 0 l fr H []
def Bi (step:(Exit->AFr->AH->Prop)->AFr->AH->Prop) (K:Exit->AFr->AH->Prop) (l:List Nat):Nat->AFr->AH->Prop
 | 0,_,_=>False
 | n+1,fr,H=>step (fun e fr H=>match e with
  | .normal=>Bi step K l n fr H
  | e=>K e fr H) (bm fr l) H
def nO (k0:Nat) (L:List (Nat × LI)):Code->(Exit->AFr->AH->Prop)->AFr->AH->Prop
 | .skip,K,fr,H=>K .normal fr H
 | .seq x y,K,fr,H=>nO k0 L x (fun e fr H=>match e with
  | .normal=>nO k0 L y K fr H
  | e=>K e fr H) fr H
 | .cond c x y,K,fr,H=>match jk (bT fr c) with
  | some (.lit true)=>nO k0 L x K fr H
  | some (.lit false)=>nO k0 L y K fr H
  | some e=>(e.p true->nO k0 L x K fr H)/\(e.p false->nO k0 L y K fr H)
  | none=>False
 | .block i c,K,fr,H=>nO k0 L c (fun e fr H=>match e with
  | .exit j=>bif Nat.beq j i then K .normal fr H else K (.exit j) fr H
  | e=>K e fr H) fr H
 | .loop c,K,fr,H=>match Ae L (eK c) with
  | some I=>match I.un with
   | some (n,l)=>Bi (nO k0 L c) K l n fr H
   | none=>∃ s0,gS (yd T k0 fr H (I.F s0))/\I.J s0/\I.dY s0 s0 (∀ s,I.J s->I.imp s0 s (nO k0 L c (fun e fr H=>match e with
    | .normal=>∃ s',gS (yd T k0 fr H (I.F s'))/\I.J s' /\ I.dY s0 s' (I.μ s' < I.μ s)
    | e=>K e fr H) (I.F s).1 (I.F s).2))
  | none=>False
 | .exit i,K,fr,H=>K (.exit i) fr H
 | .ret,K,fr,H=>K .ret fr H
 | .scope c,K,fr,H=>nO k0 L c (fun e fr H=>match e with
  | .goto _=>False
  | e=>K e fr H) fr H
 | .label _,K,fr,H=>K .normal fr H
 | .region _ ops false,K,fr,H=>wpOps T O ro ops.toList (K .normal) (2*ops.size+1) ops.toList fr H
 | .region _ ops true,K,fr,H=>
  match vC T O H fr ops.toList [] 0 with
  | k=>match nh T O H fr (ops.toList.take k) [] with
   | some ds=>match fH ops.toList (ds.map fun a=>⟨a.deps,[],fun _ _=>True⟩) (fr.map (·.1)) k with
    | true=>lE (Ap ds) (gI (wF ds) (wpOps T O ro ops.toList (K .normal) (2*ops.size+1) (ops.toList.drop k) (oS ds fr) H))
    | false=>Bp T O ro ops.toList (K .normal) fr H
   | none=>Bp T O ro ops.toList (K .normal) fr H
 | _,_,_,_=>False
def zF (T:List (Nat × TI)) (H:AH) (t:TypeId) (p:AV):Option PR:=match jG T H t p with
 | some r=>some r
 | none=>r_ T H t p
def lC (T:List (Nat × TI)) (fr:AFr) (H:AH):List ResultVar->Option (List TV1)
 | []=>some []
 | .tmp t :: r=>match lookA fr t,lC T fr H r with
  | some (.one a),some l=>some (a :: l)
  | _,_=>none
 | .cell a t :: r=>match lookA fr a,lC T fr H r with
  | some (.one (.c p)),some l=>match zF T H t p with
   | some ⟨.one v,[],_⟩=>some (v :: l)
   | _=>none
  | _,_=>none
def rR:Nat->List TV1->AFr
 | _,[]=>[]
 | k,v :: r=>(k,.one v) :: rR (k+1) r
def lF (L:List (Nat × LI)) (fn:Func) (args:List TV1) (H:AH) (rs:List TV1):Prop:=
 match fn.body with
 | some c=>gI (yZ args) (nO T O (Ef H.length) H.length L c (fun e fr H'=>match e with
  | .ret=>match lC T fr H' fn.results.toList with
   | some l=>gS (pJ H' H'.length (iota 0 H.length) l rs)
   | none=>False
  | .normal=>match lC T fr H' fn.results.toList with
   | some l=>gS (pJ H' H'.length (iota 0 H.length) l rs)
   | none=>False
  | _=>False) (rR 0 args) H)
 | none=>False
end Go.Proofs.YtagpmhlokhoanaaDoor
namespace Go.Proofs.YtagpmhlokhoanaaDoor
open Go.RowKit
structure Cx where
 shp:TypeId->Option Sh
 B0:Nat
 S:Nat->Prop
 w:World
def Cx.at (c:Cx) (s:Sh) (b:Nat):Prop:=c.S b/\(b<c.B0\/∃ cur t fr,c.w.heap[b]? = some (.cells cur t fr)/\c.shp t=some s)
mutual
inductive Pd (c:Cx):AV->Value->Prop
 | int {n:Int}:I64 n->Pd c (.int n) (.int .i64 n)
 | u8 {b:UInt8}:Pd c (.u8 b) (.int .u8 (b.toNat:Int))
 | u64 {n:Nat}:n<18446744073709551616->Pd c (.u64 n) (.int .u64 (n:Int))
 | bool {e:BE}:Pd c (.bool e) (.bool e.val)
 | str {s:Str}:s.b.length<=140737488355328->Pd c (.str s) s.val
 | em {b:Bool} {a:Option Addr}:b=a.isNone->Pd c (.em b) (.slice a 0 0)
 | fz {s:Sh} {xs:List (den s)} {a:Option Addr} {k:Nat} {cells:List Value}:xs.length<=k->k<=maxLen->xs.length*s.bytes<=140737488355328->Pds c (xs.flatMap (cellsOf s)) cells ->
   (xs=[]\/∃ A,a=some A/\c.at s A.block/\CellsAt c.w A cells)->Pd c (.fz s xs) (.slice a xs.length k)
inductive Pds (c:Cx):List AV->List Value->Prop
 | nil:Pds c [] []
 | cons {a:AV} {v:Value} {r:List AV} {vs:List Value}:Pd c a v->Pds c r vs->Pds c (a :: r) (v :: vs)
end
theorem Pds.all {c:Cx}:∀ {asx:List AV} {vs:List Value},Pds c asx vs->All2 (Pd c) asx vs
 | [],_,h=>by cases h; exact .nil
 | _ :: _,_,h=>by cases h with | cons h1 h2=>exact .cons h1 h2.all
theorem Pds.of {c:Cx}:∀ {asx:List AV} {vs:List Value},All2 (Pd c) asx vs->Pds c asx vs
 | [],_,h=>by cases h; exact .nil
 | _ :: _,_,h=>by cases h with | cons h1 h2=>exact .cons h1 (Pds.of h2)
structure Cx.le (c c':Cx):Prop where
 shp:c'.shp=c.shp
 B0:c'.B0=c.B0
 S:∀ b,c.S b->c'.S b/\c'.w.heap[b]? = c.w.heap[b]?
theorem Cx.le.refl (c:Cx):c.le c:=⟨rfl,rfl,fun _ h=>⟨h,rfl⟩⟩
theorem Cx.le.trans {a b c:Cx} (h:a.le b) (k:b.le c):a.le c:=
 ⟨k.shp.trans h.shp,k.B0.trans h.B0,fun x hx=>⟨(k.S x (h.S x hx).1).1,((k.S x (h.S x hx).1).2).trans (h.S x hx).2⟩⟩
theorem Cx.le.at_ {c c':Cx} (h:c.le c') {s:Sh} {b:Nat} (k:c.at s b):c'.at s b:=by
 refine ⟨(h.S b k.1).1,?_⟩
 rcases k.2 with k2 | ⟨cur,t,fr,k2,k3⟩
 ·left; rw [h.B0]; exact k2
 ·right; exact ⟨cur,t,fr,((h.S b k.1).2).trans k2,by rw [h.shp]; exact k3⟩
theorem jJ {c c':Cx} (h:c.le c'):(∀ a v,Pd c a v->Pd c' a v)/\(∀ asx vs,Pds c asx vs->Pds c' asx vs):=by
 refine ⟨fun a v hp=>?_,fun asx vs hp=>?_⟩
 ·refine @Pd.rec c (fun a v _=>Pd c' a v) (fun asx vs _=>Pds c' asx vs) ?_ ?_ ?_ ?_ ?_ ?_ ?_ ?_ ?_ a v hp
  ·intro n h1; exact .int h1
  ·intro b; exact .u8
  ·intro n h1; exact .u64 h1
  ·intro e; exact .bool
  ·intro s h1; exact .str h1
  ·intro b a h1; exact .em h1
  ·intro s xs a k cells h1 h2 h3 _ h5 ih
   refine .fz h1 h2 h3 ih ?_
   rcases h5 with h5 | ⟨A,hA,hat,hc⟩
   ·exact .inl h5
   ·exact .inr ⟨A,hA,h.at_ hat,hc.keep (h.S _ hat.1).2⟩
  ·exact .nil
  ·intro a v r vs _ _ h1 h2; exact .cons h1 h2
 ·induction asx generalizing vs with
  | nil=>cases hp; exact .nil
  | cons a r ih=>
   cases hp with
   | cons h1 h2=>
    refine .cons ?_ (ih _ h2)
    refine @Pd.rec c (fun a v _=>Pd c' a v) (fun asx vs _=>Pds c' asx vs) ?_ ?_ ?_ ?_ ?_ ?_ ?_ ?_ ?_ _ _ h1
    ·intro n h1; exact .int h1
    ·intro b; exact .u8
    ·intro n h1; exact .u64 h1
    ·intro e; exact .bool
    ·intro s h1; exact .str h1
    ·intro b a h1; exact .em h1
    ·intro s xs a k cells h1 h2 h3 _ h5 ih
     refine .fz h1 h2 h3 ih ?_
     rcases h5 with h5 | ⟨A,hA,hat,hc⟩
     ·exact .inl h5
     ·exact .inr ⟨A,hA,h.at_ hat,hc.keep (h.S _ hat.1).2⟩
    ·exact .nil
    ·intro a v r vs _ _ h1 h2; exact .cons h1 h2
theorem Pd.carry {c c':Cx} {a:AV} {v:Value} (h:Pd c a v) (k:c.le c'):Pd c' a v:=(jJ k).1 _ _ h
theorem Pds.carry {c c':Cx} {asx:List AV} {vs:List Value} (h:Pds c asx vs) (k:c.le c'):Pds c' asx vs:=(jJ k).2 _ _ h
theorem Pd.one {c:Cx} {a:AV} {v:Value} (h:Pd c a v):v.oneCell' = true:=by cases h <;> simp [Value.oneCell',Str.val]
theorem Pds.CJ {c:Cx}:∀ {asx:List AV} {vs:List Value},Pds c asx vs->∀ u ∈ vs,u.oneCell' = true
 | [],_,h=>by cases h; simp
 | _ :: _,_,h=>by
  cases h with
  | cons h1 h2=>
   intro u hu
   rcases List.mem_cons.1 hu with rfl | hu
   ·exact h1.one
   ·exact h2.CJ u hu
theorem Pds.length {c:Cx} {asx:List AV} {vs:List Value} (h:Pds c asx vs):asx.length=vs.length:=h.all.length
theorem Pds.append {c:Cx}:∀ {asx bs:List AV} {vs us:List Value},Pds c asx vs->Pds c bs us->Pds c (asx++bs) (vs++us)
 | [],_,_,_,h,k=>by cases h; exact k
 | _ :: _,_,_,_,h,k=>by cases h with | cons h1 h2=>exact .cons h1 (h2.append k)
theorem Pds.take {c:Cx} {asx:List AV} {vs:List Value} (h:Pds c asx vs) (n:Nat):Pds c (asx.take n) (vs.take n):=.of (h.all.take n)
theorem Pds.drop {c:Cx} {asx:List AV} {vs:List Value} (h:Pds c asx vs) (n:Nat):Pds c (asx.drop n) (vs.drop n):=.of (h.all.drop n)
theorem bq (s:Sh) (x:den s):(cellsOf s x).length=s.size:=by
 cases s <;> try rfl
 rename_i t
 cases t <;> rfl
theorem size_pos (s:Sh):0<s.size:=by
 cases s with
 | nm t=>cases t <;> decide
 | _=>simp [Sh.size]
theorem fB (s:Sh):0<s.bytes:=by
 cases s with
 | nm t=>cases t <;> decide
 | _=>simp [Sh.bytes]
theorem bf {s:Sh}:∀ (xs:List (den s)),(xs.flatMap (cellsOf s)).length=xs.length*s.size
 | []=>by simp
 | x :: r=>by rw [List.flatMap_cons,List.length_append,bf r,bq,List.length_cons,Nat.add_mul]; omega
theorem il {s:Sh}:∀ (xs:List (den s)) (i:Nat),(xs.flatMap (cellsOf s)).drop (i*s.size)=(xs.drop i).flatMap (cellsOf s)
 | [],i=>by simp
 | x :: r,0=>by simp
 | x :: r,i+1=>by
  rw [List.flatMap_cons,List.drop_append,List.drop_eq_nil_of_le (by rw [bq,Nat.add_mul]; omega),bq,show (i+1)*s.size - s.size=i*s.size by rw [Nat.add_mul]; omega,il r i]
  simp
theorem ma {s:Sh}:∀ (xs:List (den s)) (i:Nat),(xs.flatMap (cellsOf s)).take (i*s.size)=(xs.take i).flatMap (cellsOf s)
 | [],i=>by simp
 | x :: r,0=>by simp
 | x :: r,i+1=>by
  rw [List.flatMap_cons,List.take_append,List.take_of_length_le (by rw [bq,Nat.add_mul]; omega),bq,show (i+1)*s.size - s.size=i*s.size by rw [Nat.add_mul]; omega,ma r i]
  simp
theorem gJ {s:Sh} {xs:List (den s)} {i:Nat} {x:den s} (h:xs[i]? = some x):((xs.flatMap (cellsOf s)).drop (i*s.size)).take s.size=cellsOf s x:=by
 rw [il]
 have hi:i<xs.length:=(List.getElem?_eq_some_iff.1 h).1
 rw [List.drop_eq_getElem_cons hi,List.flatMap_cons,List.take_append_of_le_length (by rw [bq]; omega)]
 have hx:xs[i]=x:=by rw [List.getElem?_eq_getElem hi] at h; exact Option.some.inj h
 rw [hx,List.take_of_length_le (by rw [bq]; omega)]
theorem oN {s:Sh} {xs:List (den s)} {i:Nat} {x y:den s} (h:xs[i]? = some x):(xs.set i y).flatMap (cellsOf s)=(xs.take i).flatMap (cellsOf s)++cellsOf s y++(xs.drop (i+1)).flatMap (cellsOf s):=by
 have hi:i<xs.length:=(List.getElem?_eq_some_iff.1 h).1
 have e:xs.set i y=xs.take i++y :: xs.drop (i+1):=by
  rw [List.set_eq_take_append_cons_drop,if_pos hi]
 rw [e,List.flatMap_append,List.flatMap_cons,List.append_assoc]
theorem iX (s:Sh) (x:den s):∀ a ∈ cellsOf s x,a.plain=true:=by
 cases s with
 | nm t=>cases t <;> simp [cellsOf,NT.cells,AV.plain]
 | _=>simp [cellsOf,AV.plain]
section
variable {c:Cx} {a:AV} {v:Value}
theorem AV.EA {n:Int} (h:a.aP=some n):a = .int n:=by cases a <;> simp [AV.aP] at h; rw [h]
theorem AV.EJ {n:UInt8} (h:a.zH=some n):a = .u8 n:=by cases a <;> simp [AV.zH] at h; rw [h]
theorem AV.EE {n:U64} (h:a.Cp=some n):a = .u64 n.n:=by cases a <;> simp [AV.Cp] at h; rw [<- h]
theorem AV.Fg {n:Str} (h:a.rT=some n):a = .str n:=by cases a <;> simp [AV.rT] at h; rw [h]
def Qd (c:Cx) (a:AV) (v:Value):Prop:=a.plain=true->Pd c a v
theorem Pd.aP {n:Int} (h:a.aP=some n) (k:Qd c a v):Pd c (.int n) v:=by obtain rfl:=AV.EA h; exact k rfl
theorem Pd.zH {n:UInt8} (h:a.zH=some n) (k:Qd c a v):Pd c (.u8 n) v:=by obtain rfl:=AV.EJ h; exact k rfl
theorem Pd.Cp {n:U64} (h:a.Cp=some n) (k:Qd c a v):Pd c (.u64 n.n) v:=by obtain rfl:=AV.EE h; exact k rfl
theorem Pd.rT {n:Str} (h:a.rT=some n) (k:Qd c a v):Pd c (.str n) v:=by obtain rfl:=AV.Fg h; exact k rfl
theorem Pd.qi {n:Bool} (h:a.qi=some n) (k:Qd c a v):Pd c (.bool (.atom n)) v:=by
 cases a <;> simp [AV.qi] at h
 have k:=k rfl
 cases k
 rw [h]
 exact Pd.bool (e:=.atom n)
theorem Pd.mG {s:Sh} {b:Bool} (k:Pd c (.em b) v):Pd c (.fz s []) v:=by
 cases k with
 | em h=>exact Pd.fz (xs:=([]:List (den s))) (cells:=[]) (Nat.le_refl _) (by simp [maxLen]) (by simp) .nil (.inl rfl)
theorem Pd.eJ {s:Sh} {xs:List (den s)} (h:a.eJ s=some xs) (k:Qd c a v):Pd c (.fz s xs) v:=by
 cases a <;> simp [AV.eJ] at h
 ·subst h; exact (k rfl).mG
 ·obtain ⟨rfl,h⟩:=h
  subst h; exact k rfl
end
theorem Reply.aq {c:Cx} {asx:List AV} {vs:List Value} {x:Reply} (h:Reply.of asx=some x) (hv:All2 (Qd c) asx vs):Pds c (NT.cells .reply x) vs:=by
 unfold Reply.of at h
 split at h
 ·split at h
  ·rename_i e0 e1
   cases h
   cases hv with | cons k0 hv=>cases hv with | cons k1 hv=>cases hv; exact .cons (Pd.aP e0 k0) ( .cons (Pd.aP e1 k1) .nil)
  ·cases h
 ·cases h
theorem Sess.aq {c:Cx} {asx:List AV} {vs:List Value} {x:Sess} (h:Sess.of asx=some x) (hv:All2 (Qd c) asx vs):Pds c (NT.cells .sess x) vs:=by
 unfold Sess.of at h
 split at h
 ·split at h
  ·rename_i e0 e1 e2 e3
   cases h
   cases hv with | cons k0 hv=>cases hv with | cons k1 hv=>cases hv with | cons k2 hv=>cases hv with | cons k3 hv=>cases hv; exact .cons (Pd.aP e0 k0) ( .cons (Pd.aP e1 k1) ( .cons (Pd.aP e2 k2) ( .cons (Pd.aP e3 k3) .nil)))
  ·cases h
 ·cases h
theorem Opn.aq {c:Cx} {asx:List AV} {vs:List Value} {x:Opn} (h:Opn.of asx=some x) (hv:All2 (Qd c) asx vs):Pds c (NT.cells .opn x) vs:=by
 unfold Opn.of at h
 split at h
 ·split at h
  ·rename_i e0 e1
   cases h
   cases hv with | cons k0 hv=>cases hv with | cons k1 hv=>cases hv; exact .cons (Pd.aP e0 k0) ( .cons (Pd.aP e1 k1) .nil)
  ·cases h
 ·cases h
theorem Snap.aq {c:Cx} {asx:List AV} {vs:List Value} {x:Snap} (h:Snap.of asx=some x) (hv:All2 (Qd c) asx vs):Pds c (NT.cells .snap x) vs:=by
 unfold Snap.of at h
 split at h
 ·split at h
  ·rename_i e0 e1 e2 e3 e4
   cases h
   cases hv with | cons k0 hv=>cases hv with | cons k1 hv=>cases hv with | cons k2 hv=>cases hv with | cons k3 hv=>cases hv with | cons k4 hv=>cases hv; exact .cons (Pd.aP e0 k0) ( .cons (Pd.aP e1 k1) ( .cons (Pd.eJ e2 k2) ( .cons (Pd.qi e3 k3) ( .cons (Pd.rT e4 k4) .nil))))
  ·cases h
 ·cases h
theorem State.aq {c:Cx} {asx:List AV} {vs:List Value} {x:State} (h:State.of asx=some x) (hv:All2 (Qd c) asx vs):Pds c (NT.cells .state x) vs:=by
 unfold State.of at h
 split at h
 ·split at h
  ·rename_i e0 e1 e2 e3 e4 e5 e6
   cases h
   cases hv with | cons k0 hv=>cases hv with | cons k1 hv=>cases hv with | cons k2 hv=>cases hv with | cons k3 hv=>cases hv with | cons k4 hv=>cases hv with | cons k5 hv=>cases hv with | cons k6 hv=>cases hv; exact .cons (Pd.aP e0 k0) ( .cons (Pd.aP e1 k1) ( .cons (Pd.aP e2 k2) ( .cons (Pd.aP e3 k3) ( .cons (Pd.eJ e4 k4) ( .cons (Pd.eJ e5 k5) ( .cons (Pd.eJ e6 k6) .nil))))))
  ·cases h
 ·cases h
theorem Command.aq {c:Cx} {asx:List AV} {vs:List Value} {x:Command} (h:Command.of asx=some x) (hv:All2 (Qd c) asx vs):Pds c (NT.cells .command x) vs:=by
 unfold Command.of at h
 split at h
 ·split at h
  ·rename_i e0 e1 e2 e3 e4 e5 e6 e7
   cases h
   cases hv with | cons k0 hv=>cases hv with | cons k1 hv=>cases hv with | cons k2 hv=>cases hv with | cons k3 hv=>cases hv with | cons k4 hv=>cases hv with | cons k5 hv=>cases hv with | cons k6 hv=>cases hv with | cons k7 hv=>cases hv; exact .cons (Pd.aP e0 k0) ( .cons (Pd.aP e1 k1) ( .cons (Pd.aP e2 k2) ( .cons (Pd.aP e3 k3) ( .cons (Pd.aP e4 k4) ( .cons (Pd.aP e5 k5) ( .cons (Pd.eJ e6 k6) ( .cons (Pd.rT e7 k7) .nil)))))))
  ·cases h
 ·cases h
theorem Field.aq {c:Cx} {asx:List AV} {vs:List Value} {x:Field} (h:Field.of asx=some x) (hv:All2 (Qd c) asx vs):Pds c (NT.cells .field x) vs:=by
 unfold Field.of at h
 split at h
 ·split at h
  ·rename_i e0 e1 e2 e3
   cases h
   cases hv with | cons k0 hv=>cases hv with | cons k1 hv=>cases hv with | cons k2 hv=>cases hv with | cons k3 hv=>cases hv; exact .cons (Pd.aP e0 k0) ( .cons (Pd.aP e1 k1) ( .cons (Pd.Cp e2 k2) ( .cons (Pd.eJ e3 k3) .nil)))
  ·cases h
 ·cases h
theorem Spec.aq {c:Cx} {asx:List AV} {vs:List Value} {x:Spec} (h:Spec.of asx=some x) (hv:All2 (Qd c) asx vs):Pds c (NT.cells .spec x) vs:=by
 unfold Spec.of at h
 split at h
 ·split at h
  ·rename_i e0 e1 e2 e3 e4
   cases h
   cases hv with | cons k0 hv=>cases hv with | cons k1 hv=>cases hv with | cons k2 hv=>cases hv with | cons k3 hv=>cases hv with | cons k4 hv=>cases hv; exact .cons (Pd.aP e0 k0) ( .cons (Pd.aP e1 k1) ( .cons (Pd.aP e2 k2) ( .cons (Pd.qi e3 k3) ( .cons (Pd.qi e4 k4) .nil))))
  ·cases h
 ·cases h
theorem Entry.aq {c:Cx} {asx:List AV} {vs:List Value} {x:Entry} (h:Entry.of asx=some x) (hv:All2 (Qd c) asx vs):Pds c (NT.cells .entry x) vs:=by
 unfold Entry.of at h
 split at h
 ·split at h
  ·rename_i e0 e1
   cases h
   cases hv with | cons k0 hv=>cases hv with | cons k1 hv=>cases hv; exact .cons (Pd.aP e0 k0) ( .cons (Pd.eJ e1 k1) .nil)
  ·cases h
 ·cases h
theorem Record.aq {c:Cx} {asx:List AV} {vs:List Value} {x:Record} (h:Record.of asx=some x) (hv:All2 (Qd c) asx vs):Pds c (NT.cells .record x) vs:=by
 unfold Record.of at h
 split at h
 ·split at h
  ·rename_i e0 e1 e2 e3
   cases h
   cases hv with | cons k0 hv=>cases hv with | cons k1 hv=>cases hv with | cons k2 hv=>cases hv with | cons k3 hv=>cases hv; exact .cons (Pd.aP e0 k0) ( .cons (Pd.aP e1 k1) ( .cons (Pd.aP e2 k2) ( .cons (Pd.eJ e3 k3) .nil)))
  ·cases h
 ·cases h
theorem Letter.aq {c:Cx} {asx:List AV} {vs:List Value} {x:Letter} (h:Letter.of asx=some x) (hv:All2 (Qd c) asx vs):Pds c (NT.cells .letter x) vs:=by
 unfold Letter.of at h
 split at h
 ·split at h
  ·rename_i e0 e1 e2 e3 e4 e5 e6 e7 e8 e9
   cases h
   cases hv with | cons k0 hv=>cases hv with | cons k1 hv=>cases hv with | cons k2 hv=>cases hv with | cons k3 hv=>cases hv with | cons k4 hv=>cases hv with | cons k5 hv=>cases hv with | cons k6 hv=>cases hv with | cons k7 hv=>cases hv with | cons k8 hv=>cases hv with | cons k9 hv=>cases hv; exact .cons (Pd.aP e0 k0) ( .cons (Pd.aP e1 k1) ( .cons (Pd.aP e2 k2) ( .cons (Pd.aP e3 k3) ( .cons (Pd.aP e4 k4) ( .cons (Pd.aP e5 k5) ( .cons (Pd.aP e6 k6) ( .cons (Pd.aP e7 k7) ( .cons (Pd.qi e8 k8) ( .cons (Pd.eJ e9 k9) .nil)))))))))
  ·cases h
 ·cases h
theorem Event.aq {c:Cx} {asx:List AV} {vs:List Value} {x:Event} (h:Event.of asx=some x) (hv:All2 (Qd c) asx vs):Pds c (NT.cells .event x) vs:=by
 unfold Event.of at h
 split at h
 ·split at h
  ·rename_i e0 e1 e2 e3 e4 e5 e6 e7 e8 e9 e10
   cases h
   cases hv with | cons k0 hv=>cases hv with | cons k1 hv=>cases hv with | cons k2 hv=>cases hv with | cons k3 hv=>cases hv with | cons k4 hv=>cases hv with | cons k5 hv=>cases hv with | cons k6 hv=>cases hv with | cons k7 hv=>cases hv with | cons k8 hv=>cases hv with | cons k9 hv=>cases hv with | cons k10 hv=>cases hv; exact .cons (Pd.aP e0 k0) ( .cons (Pd.aP e1 k1) ( .cons (Pd.aP e2 k2) ( .cons (Pd.aP e3 k3) ( .cons (Pd.aP e4 k4) ( .cons (Pd.aP e5 k5) ( .cons (Pd.aP e6 k6) ( .cons (Pd.aP e7 k7) ( .cons (Pd.aP e8 k8) ( .cons (Pd.eJ e9 k9) ( .cons (Pd.rT e10 k10) .nil))))))))))
  ·cases h
 ·cases h
theorem CallR.aq {c:Cx} {asx:List AV} {vs:List Value} {x:CallR} (h:CallR.of asx=some x) (hv:All2 (Qd c) asx vs):Pds c (NT.cells .call x) vs:=by
 unfold CallR.of at h
 split at h
 ·split at h
  ·rename_i e0 e1 e2 e3 e4 e5 e6 e7 e8 e9 e10 e11 e12 e13 e14 e15
   cases h
   cases hv with | cons k0 hv=>cases hv with | cons k1 hv=>cases hv with | cons k2 hv=>cases hv with | cons k3 hv=>cases hv with | cons k4 hv=>cases hv with | cons k5 hv=>cases hv with | cons k6 hv=>cases hv with | cons k7 hv=>cases hv with | cons k8 hv=>cases hv with | cons k9 hv=>cases hv with | cons k10 hv=>cases hv with | cons k11 hv=>cases hv with | cons k12 hv=>cases hv with | cons k13 hv=>cases hv with | cons k14 hv=>cases hv with | cons k15 hv=>cases hv; exact .cons (Pd.aP e0 k0) ( .cons (Pd.aP e1 k1) ( .cons (Pd.aP e2 k2) ( .cons (Pd.aP e3 k3) ( .cons (Pd.aP e4 k4) ( .cons (Pd.aP e5 k5) ( .cons (Pd.aP e6 k6) ( .cons (Pd.aP e7 k7) ( .cons (Pd.aP e8 k8) ( .cons (Pd.aP e9 k9) ( .cons (Pd.aP e10 k10) ( .cons (Pd.eJ e11 k11) ( .cons (Pd.rT e12 k12) ( .cons (Pd.qi e13 k13) ( .cons (Pd.aP e14 k14) ( .cons (Pd.aP e15 k15) .nil)))))))))))))))
  ·cases h
 ·cases h
theorem Rest.aq {c:Cx} {asx:List AV} {vs:List Value} {x:Rest} (h:Rest.of asx=some x) (hv:All2 (Qd c) asx vs):Pds c (NT.cells .rest x) vs:=by
 unfold Rest.of at h
 split at h
 ·split at h
  ·rename_i e0 e1
   cases h
   cases hv with | cons k0 hv=>cases hv with | cons k1 hv=>cases hv; exact .cons (Pd.eJ e0 k0) ( .cons (Pd.zH e1 k1) .nil)
  ·cases h
 ·cases h
theorem Span.aq {c:Cx} {asx:List AV} {vs:List Value} {x:Span} (h:Span.of asx=some x) (hv:All2 (Qd c) asx vs):Pds c (NT.cells .span x) vs:=by
 unfold Span.of at h
 split at h
 ·split at h
  ·rename_i e0 e1
   cases h
   cases hv with | cons k0 hv=>cases hv with | cons k1 hv=>cases hv; exact .cons (Pd.aP e0 k0) ( .cons (Pd.aP e1 k1) .nil)
  ·cases h
 ·cases h
theorem yA {c:Cx} {t:NT} {asx:List AV} {vs:List Value} {x:t.den} (h:NT.of t asx=some x) (hv:All2 (Qd c) asx vs):Pds c (t.cells x) vs:=by
 cases t
 ·exact Reply.aq h hv
 ·exact Sess.aq h hv
 ·exact Opn.aq h hv
 ·exact Snap.aq h hv
 ·exact State.aq h hv
 ·exact Command.aq h hv
 ·exact Field.aq h hv
 ·exact Spec.aq h hv
 ·exact Entry.aq h hv
 ·exact Record.aq h hv
 ·exact Letter.aq h hv
 ·exact Event.aq h hv
 ·exact CallR.aq h hv
 ·exact Rest.aq h hv
 ·exact Span.aq h hv
theorem aq {c:Cx} {s:Sh} {asx:List AV} {vs:List Value} {x:den s} (h:db s asx=some x) (hv:All2 (Qd c) asx vs):Pds c (cellsOf s x) vs:=by
 unfold db at h
 split at h
 ·cases h; cases hv with | cons h1 h2=>cases h2; exact .cons (h1 rfl) .nil
 ·cases h; cases hv with | cons h1 h2=>cases h2; exact .cons (h1 rfl) .nil
 ·cases h; cases hv with | cons h1 h2=>cases h2; exact .cons (h1 rfl) .nil
 ·cases h; cases hv with | cons h1 h2=>cases h2; exact .cons (Pd.qi rfl h1) .nil
 ·cases h; cases hv with | cons h1 h2=>cases h2; exact .cons (h1 rfl) .nil
 ·cases hv with | cons h1 h2=>cases h2; exact .cons (Pd.eJ h h1) .nil
 ·exact yA h hv
 ·cases h
end Go.Proofs.YtagpmhlokhoanaaDoor
namespace Go.Proofs.YtagpmhlokhoanaaDoor
open Go.RowKit
inductive RE
 | no | blk (g:Nat) | row (g cap len z:Nat) | emp
def RE.g?:RE->Option Nat
 | .blk g=>some g
 | .row g _ _ _=>some g
 | _=>none
def live (ρ:List RE) (b:Nat):Prop:=∃ (i:Nat) (r:RE),ρ[i]? = some r/\r.g? = some b
structure Gl where
 shp:TypeId->Option Sh
 B0:Nat
 Z:Nat->Prop
def cx (G:Gl) (ρ:List RE) (w:World):Cx:=⟨G.shp,G.B0,fun b=>b<w.heap.size/\¬ live ρ b/\¬ G.Z b,w⟩
def ct (ρ:List RE) (q:Nat × Nat) (v:Value):Prop:=∃ g,ρ[q.1]? = some (.blk g)/\v = .pointer (some ⟨g,q.2,none⟩)
def jj:Value->Option Int
 | .int .i64 v=>some v
 | _=>none
def getM (k:Int):List MapEntry->Option Value
 | []=>none
 | e :: r=>if jj e.key=some k then some e.val else getM k r
def V1 (c:Cx) (s:Sh) (x:den s) (v:Value):Prop:=∃ vs,Pds c (cellsOf s x) vs/\((s.iD=true/\v = .agg vs.toArray)\/(s.iD=false/\vs=[v]))
def VO (c:Cx) (s:Sh):Option Value->Option (den s)->Prop
 | none,none=>True
 | some v,some x=>V1 c s x v
 | _,_=>False
def xU (c:Cx) (g:Nat) (s:Sh) (f:Int->Option (den s)):Prop:=
 ∃ a n,c.w.heap[g]? = some (.map a n)/\(∀ e ∈ a.toList,∃ k,e.key = .int .i64 k)/\∀ k,VO c s (getM k a.toList) (f k)
def nd:Value->Option Str
 | .string s=>some ⟨s.data.toList⟩
 | _=>none
def getS (k:Str):List MapEntry->Option Value
 | []=>none
 | e :: r=>if nd e.key=some k then some e.val else getS k r
def FE (l:List MapEntry) (f:Str->Option Int):Prop:=(∀ e ∈ l,∃ s,e.key = .string s)/\∀ k,getS k l=(f k).map (.int .i64)/\∀ n,f k=some n->I64 n
def XK.rd (c:Cx):XK->List Value->Value->Prop
 | .er b,us,v=>us=[]/\((b=true/\v = .nilIface)\/(b=false/\∃ t u,v = .iface t u))
 | .pl,us,v=>∃ A,v = .slice (some A) us.length us.length/\us.length<=16777216/\c.S A.block/\CellsAt c.w A us
 | .pa,us,v=>∃ A,v = .pointer (some A)/\c.S A.block/\CellsAt c.w A us
 | .fm f,us,v=>us=[]/\∃ g a n,v = .map (some g)/\c.S g/\c.w.heap[g]? = some (.map a n)/\FE a.toList f
 | .bp,us,v=>us.length=1/\(v = .pointer none\/us=[v])
theorem XK.rd.le {c c':Cx} {k:XK} {us:List Value} {v:Value} (h:k.rd c us v) (hc:c.le c'):k.rd c' us v:=by
 cases k
 case er=>exact h
 case pl=>obtain ⟨A,h1,h0,h2,h3⟩:=h; exact ⟨A,h1,h0,(hc.S _ h2).1,h3.keep (hc.S _ h2).2⟩
 case pa=>obtain ⟨A,h1,h2,h3⟩:=h; exact ⟨A,h1,(hc.S _ h2).1,h3.keep (hc.S _ h2).2⟩
 case fm=>obtain ⟨h0,g,a,n,h1,h2,h3,h4⟩:=h; exact ⟨h0,g,a,n,h1,(hc.S _ h2).1,((hc.S _ h2).2).trans h3,h4⟩
 case bp=>exact h
theorem XK.rd.one {c:Cx} {ρ:List RE} {k:XK} {cs:List (Nat × Nat)} {us:List Value} {v:Value} (h:k.rd c us v) (hc:All2 (ct ρ) cs us):v.oneCell' = true:=by
 cases k
 case er=>obtain ⟨_,⟨_,rfl⟩ | ⟨_,_,_,rfl⟩⟩:=h <;> rfl
 case pl=>obtain ⟨A,rfl,_⟩:=h; rfl
 case pa=>obtain ⟨A,rfl,_⟩:=h; rfl
 case fm=>obtain ⟨_,g,a,n,rfl,_⟩:=h; rfl
 case bp=>
  obtain ⟨_,rfl | rfl⟩:=h
  ·rfl
  ·cases hc with | cons h1 _=>obtain ⟨_,_,rfl⟩:=h1; rfl
def Rd (c:Cx) (ρ:List RE):AV->Value->Prop
 | .mq id,v=>∃ g,ρ[id]? = some (.blk g)/\v = .map (some g)
 | .own id,v=>(∃ g cap len z,ρ[id]? = some (.row g cap len z)/\v = .slice (some ⟨g,0,none⟩) len cap)\/(ρ[id]? = some .emp/\∃ a,v = .slice a 0 0)
 | .sub id off len,v=>(∃ g cap L z,ρ[id]? = some (.row g cap L z)/\off+len<=L/\v = .slice (some ⟨g,off*z,none⟩) len (cap - off))\/(ρ[id]? = some .emp/\off=0/\len=0/\∃ a,v = .slice a 0 0)
 | .ptr id o,v=>ct ρ (id,o) v
 | .np,v=>v = .pointer none
 | .elp id i o,v=>∃ g cap len z,ρ[id]? = some (.row g cap len z)/\i<len/\v = .pointer (some ⟨g,i*z+o,none⟩)
 | .fe s x o,v=>∃ A cells,c.S A.block/\CellsAt c.w A cells/\Pds c (cellsOf s x) cells/\v = .pointer (some (A.add o))
 | .fn f b cs,v=>∃ bs us,All2 (ct ρ) b bs/\All2 (ct ρ) cs us/\v = .func (.func f) bs.toArray us.toArray
 | .nf,v=>v = .nilFunc
 | .yl l,v=>v = .func (.yield l) #[] #[]
 | .xx k cs,v=>∃ us,All2 (ct ρ) cs us/\k.rd c us v
 | .dead,v=>v.oneCell' = true
 | a,v=>Pd c a v
def bt (c:Cx) (ρ:List RE):TV1->Value->Prop
 | .c a,v=>Rd c ρ a v
 | .agg l,v=>∃ vs,v = .agg vs.toArray/\All2 (Rd c ρ) l vs
def Rt (c:Cx) (ρ:List RE):TV->Value->Prop
 | .one t,v=>bt c ρ t v
 | .tup l,v=>∃ vs,v = .tuple vs.toArray/\All2 (bt c ρ) l vs
 | .un,_=>True
def bK (c:Cx) (ρ:List RE) (fr:AFr) (F:Fr):Prop:=All2 (fun p q=>p.1=q.1/\Rt c ρ p.2 q.2) fr F
def lookF (k:Int):List (Int × AV)->Option AV
 | []=>none
 | (j,a) :: r=>if k=j then some a else lookF k r
def FO (c:Cx) (ρ:List RE):Option Value->Option AV->Prop
 | none,none=>True
 | some v,some a=>Rd c ρ a v
 | _,_=>False
def zk (c:Cx) (ρ:List RE) (g:Nat) (l:List (Int × AV)):Prop:=
 ∃ a n,c.w.heap[g]? = some (.map a n)/\(∀ e ∈ a.toList,∃ k,e.key = .int .i64 k)/\∀ k,FO c ρ (getM k a.toList) (lookF k l)
def OR (c:Cx) (ρ:List RE):AO->RE->Prop
 | .gone,r=>r = .no
 | .mapo s f,r=>∃ g,r = .blk g/\xU c g s f
 | .mapf l,r=>∃ g,r = .blk g/\zk c ρ g l
 | .loc,_=>True
 | .arr t s n xs,r=>∃ g vs,r = .blk g/\c.w.heap[g]? = some (.cells (List.toArray vs) t (0,0))/\Pds c (xs.flatMap (cellsOf s)) vs/\xs.length=n/\s.size=1
 | .box t cs,r=>∃ g vs,r = .blk g/\c.w.heap[g]? = some (.cells (List.toArray vs) t (0,0))/\All2 (Rd c ρ) cs vs
 | .row t s xs,r=>c.shp t=some s/\xs.length*s.bytes<=140737488355328/\((r = .emp/\xs=[])\/∃ g cap cells sp,r = .row g cap xs.length s.size/\c.w.heap[g]? = some (.cells (List.toArray (cells++sp)) t (0,0)) /\
   Pds c (xs.flatMap (cellsOf s)) cells/\(cells++sp).length=cap*s.size/\xs.length<=cap/\cap<=maxLen)
def Fu (c:Cx) (q:Nat × Bool):Prop:=c.S q.1/\∃ v t fr,c.w.heap[q.1]? = some (.cells #[v] t fr)/\match q.2 with
 | true=>∃ m,v = .int .i64 m
 | false=>∃ tp p,v = .iface tp p
def TabsOK (c:Cx):Prop:=(∀ q ∈ tN,Fu c q)/\∀ e ∈ qP,c.S e.g/\e.g<c.B0/\e.xs.length<=maxLen/\e.xs.length*e.s.bytes<=140737488355328/\∃ cells t fr,c.w.heap[e.g]? = some (.cells (List.toArray cells) t fr)/\Pds c (e.xs.flatMap (cellsOf e.s)) cells
theorem TabsOK.carry {c c':Cx} (h:TabsOK c) (k:c.le c'):TabsOK c':=by
 refine ⟨fun q hq=>?_,fun e he=>?_⟩
 ·obtain ⟨h1,v,t,fr,h2,h3⟩:=h.1 q hq
  exact ⟨(k.S _ h1).1,v,t,fr,((k.S _ h1).2).trans h2,h3⟩
 obtain ⟨h1,h2,h3,h4,cells,t,fr,h5,h6⟩:=h.2 e he
 exact ⟨(k.S _ h1).1,by rw [k.B0]; exact h2,h3,h4,cells,t,fr,((k.S _ h1).2).trans h5,h6.carry k⟩
structure Rep (G:Gl) (ρ:List RE) (H:AH) (w:World):Prop where
 obj:All2 (OR (cx G ρ w) ρ) H ρ
 inj:∀ (i j:Nat) (r r':RE) (g:Nat),ρ[i]? = some r->ρ[j]? = some r' -> r.g? = some g->r'.g? = some g->i=j
 bnd:∀ (i:Nat) (r:RE) (g:Nat),ρ[i]? = some r->r.g? = some g->G.B0<=g/\g<w.heap.size/\¬ G.Z g
 z:∀ b,G.Z b->b<w.heap.size
 b0:G.B0<=w.heap.size
 tb:TabsOK (cx G ρ w)
structure Ext (ρ0:List RE) (w0:World) (ρ:List RE) (w:World):Prop where
 os:w.os=w0.os
 tape:w.tape=w0.tape
 output:w.output=w0.output
 size:w0.heap.size<=w.heap.size
 old:∀ b,b<w0.heap.size->¬ live ρ0 b->¬ live ρ b/\w.heap[b]? = w0.heap[b]?
theorem Ext.refl (ρ:List RE) (w:World):Ext ρ w ρ w:=⟨rfl,rfl,rfl,Nat.le_refl _,fun _ _ h=>⟨h,rfl⟩⟩
theorem Ext.trans {ρ0 ρ1 ρ2:List RE} {a b c:World} (h:Ext ρ0 a ρ1 b) (k:Ext ρ1 b ρ2 c):Ext ρ0 a ρ2 c:=
 ⟨k.os.trans h.os,k.tape.trans h.tape,k.output.trans h.output,Nat.le_trans h.size k.size,fun x hx hl=>by
  obtain ⟨h1,h2⟩:=h.old x hx hl
  obtain ⟨h3,h4⟩:=k.old x (Nat.lt_of_lt_of_le hx h.size) h1
  exact ⟨h3,h4.trans h2⟩⟩
theorem Ext.le {G:Gl} {ρ ρ':List RE} {w w':World} (h:Ext ρ w ρ' w'):(cx G ρ w).le (cx G ρ' w'):=
 ⟨rfl,rfl,fun b hb=>⟨⟨Nat.lt_of_lt_of_le hb.1 h.size,(h.old b hb.1 hb.2.1).1,hb.2.2⟩,(h.old b hb.1 hb.2.1).2⟩⟩
theorem Ext.kp {ρ:List RE} {w w':World} (k:Kp [] w w'):Ext ρ w ρ w':=⟨k.os,k.tape,k.output,k.size,fun b hb h=>⟨h,k.block b hb (by simp)⟩⟩
theorem dp {c:Cx} {ρ:List RE} {a:AV} {v:Value} (h:a.plain=true):Rd c ρ a v↔Pd c a v:=by cases a <;> first | exact .rfl | cases h
theorem eX {c:Cx} {ρ:List RE} {a:AV} {v:Value} (h:Pd c a v):Rd c ρ a v:=by cases h <;> first | exact .int ‹_› | exact .u8 | exact .u64 ‹_› | exact .bool | exact .str ‹_› | exact .em ‹_› | exact .fz ‹_› ‹_› ‹_› ‹_› ‹_›
theorem ei {c:Cx} {ρ:List RE}:∀ {asx:List AV} {vs:List Value},Pds c asx vs->All2 (Rd c ρ) asx vs
 | [],_,h=>by cases h; exact .nil
 | _ :: _,_,h=>by cases h with | cons h1 h2=>exact .cons (eX h1) (ei h2)
theorem eA {c:Cx} {ρ:List RE}:∀ {asx:List AV} {vs:List Value},(∀ a ∈ asx,a.plain=true)->All2 (Rd c ρ) asx vs->Pds c asx vs
 | [],_,_,h=>by cases h; exact .nil
 | _ :: _,_,hp,h=>by cases h with | cons h1 h2=>exact .cons ((dp (hp _ (by simp))).1 h1) (eA (fun a ha=>hp a (by simp [ha])) h2)
theorem Rd.one {c:Cx} {ρ:List RE} {a:AV} {v:Value} (h:Rd c ρ a v):v.oneCell' = true:=by
 cases a
 case own=>rcases h with ⟨_,_,_,_,_,rfl⟩ | ⟨_,_,rfl⟩ <;> rfl
 case sub=>rcases h with ⟨_,_,_,_,_,_,rfl⟩ | ⟨_,_,_,_,rfl⟩ <;> rfl
 case ptr=>obtain ⟨_,_,rfl⟩:=h; rfl
 case np=>cases h; rfl
 case elp=>obtain ⟨_,_,_,_,_,_,rfl⟩:=h; rfl
 case fe=>obtain ⟨_,_,_,_,_,rfl⟩:=h; rfl
 case fn=>obtain ⟨_,_,_,_,rfl⟩:=h; rfl
 case nf=>cases h; rfl
 case yl=>cases h; rfl
 case xx=>obtain ⟨us,h1,h2⟩:=h; exact h2.one h1
 case mq=>obtain ⟨_,_,rfl⟩:=h; rfl
 case dead=>exact h
 all_goals exact Pd.one h
def gV (ρ ρ':List RE):Prop:=∀ (i:Nat) (r:RE),ρ[i]? = some r->r ≠ .no->ρ'[i]? = some r
theorem gV.refl (ρ:List RE):gV ρ ρ:=fun _ _ h _=>h
theorem cX (ρ σ:List RE):gV ρ (ρ++σ):=fun i r h _=>by
 rw [List.getElem?_append_left (List.getElem?_eq_some_iff.1 h).1]; exact h
theorem ct.carry {ρ ρ':List RE} {q:Nat × Nat} {v:Value} (h:ct ρ q v) (k:gV ρ ρ'):ct ρ' q v:=by
 obtain ⟨g,h1,h2⟩:=h
 exact ⟨g,k _ _ h1 (by simp),h2⟩
theorem Rd.carry {c c':Cx} {ρ ρ':List RE} {a:AV} {v:Value} (h:Rd c ρ a v) (hc:c.le c') (k:gV ρ ρ'):Rd c' ρ' a v:=by
 cases a
 case own=>
  rcases h with ⟨g,cap,len,z,h,e⟩ | ⟨h,e⟩
  ·exact .inl ⟨g,cap,len,z,k _ _ h (by simp),e⟩
  ·exact .inr ⟨k _ _ h (by simp),e⟩
 case sub=>
  rcases h with ⟨g,cap,len,z,h,e⟩ | ⟨h,e⟩
  ·exact .inl ⟨g,cap,len,z,k _ _ h (by simp),e⟩
  ·exact .inr ⟨k _ _ h (by simp),e⟩
 case ptr=>exact ct.carry h k
 case np=>exact h
 case elp=>
  obtain ⟨g,cap,len,z,h,e⟩:=h
  exact ⟨g,cap,len,z,k _ _ h (by simp),e⟩
 case fe=>
  obtain ⟨A,cells,h1,h2,h3,e⟩:=h
  exact ⟨A,cells,(hc.S _ h1).1,h2.keep (hc.S _ h1).2,h3.carry hc,e⟩
 case fn=>
  obtain ⟨bs,us,h1,h2,e⟩:=h
  exact ⟨bs,us,h1.imp fun _ _ h=>h.carry k,h2.imp fun _ _ h=>h.carry k,e⟩
 case nf=>exact h
 case yl=>exact h
 case xx=>
  obtain ⟨us,h1,h2⟩:=h
  exact ⟨us,h1.imp fun _ _ h=>h.carry k,h2.le hc⟩
 case mq=>
  obtain ⟨g,h1,e⟩:=h
  exact ⟨g,k _ _ h1 (by simp),e⟩
 case dead=>exact h
 all_goals exact Pd.carry h hc
theorem bt.carry {c c':Cx} {ρ ρ':List RE} {a:TV1} {v:Value} (h:bt c ρ a v) (hc:c.le c') (k:gV ρ ρ'):bt c' ρ' a v:=by
 cases a with
 | c a=>exact Rd.carry h hc k
 | agg l=>obtain ⟨vs,rfl,h⟩:=h; exact ⟨vs,rfl,h.imp fun _ _ h=>h.carry hc k⟩
theorem Rt.carry {c c':Cx} {ρ ρ':List RE} {a:TV} {v:Value} (h:Rt c ρ a v) (hc:c.le c') (k:gV ρ ρ'):Rt c' ρ' a v:=by
 cases a with
 | one a=>exact bt.carry h hc k
 | tup l=>obtain ⟨vs,rfl,h⟩:=h; exact ⟨vs,rfl,h.imp fun _ _ h=>h.carry hc k⟩
 | un=>trivial
theorem bK.carry {c c':Cx} {ρ ρ':List RE} {fr:AFr} {F:Fr} (h:bK c ρ fr F) (hc:c.le c') (k:gV ρ ρ'):bK c' ρ' fr F:=h.imp fun _ _ h=>⟨h.1,h.2.carry hc k⟩
theorem V1.carry {c c':Cx} {s:Sh} {x:den s} {v:Value} (h:V1 c s x v) (hc:c.le c'):V1 c' s x v:=by
 obtain ⟨vs,h1,h2⟩:=h
 exact ⟨vs,h1.carry hc,h2⟩
theorem xU.carry {c c':Cx} {g:Nat} {s:Sh} {f:Int->Option (den s)} (h:xU c g s f) (hc:c.le c') (hb:c'.w.heap[g]? = c.w.heap[g]?):xU c' g s f:=by
 obtain ⟨a,n,h1,h2,h3⟩:=h
 refine ⟨a,n,hb.trans h1,h2,fun k=>?_⟩
 have:=h3 k
 cases hg:getM k a.toList <;> cases hf:f k <;> rw [hg,hf] at this
 ·trivial
 ·exact this
 ·exact this
 ·exact V1.carry this hc
theorem FO.map {c c':Cx} {ρ ρ':List RE} {g:AV->AV} {v:Option Value} {l:List (Int × AV)} {k:Int} (h:FO c ρ v (lookF k l)) (hg:∀ q ∈ l,∀ v,Rd c ρ q.2 v->Rd c' ρ' (g q.2) v) (l':List (Int × AV)) (hl:l' = l.map fun q=>(q.1,g q.2)):FO c' ρ' v (lookF k l'):=by
 subst hl
 induction l with
 | nil=>exact (by cases v <;> first | trivial | exact h)
 | cons q l ih=>
  obtain ⟨j,a⟩:=q
  simp only [lookF,List.map_cons] at h ⊢
  by_cases hk:k=j
  ·rw [if_pos hk] at h ⊢
   cases v with
   | none=>exact h
   | some v=>exact hg (j,a) (by simp) v h
  ·rw [if_neg hk] at h ⊢
   exact ih h fun q hq=>hg q (by simp [hq])
theorem zk.map {c c':Cx} {ρ ρ':List RE} {g0:AV->AV} {g:Nat} {l l':List (Int × AV)} (h:zk c ρ g l) (hl:l' = l.map fun q=>(q.1,g0 q.2)) (hg:∀ q ∈ l,∀ v,Rd c ρ q.2 v->Rd c' ρ' (g0 q.2) v) (hb:c'.w.heap[g]? = c.w.heap[g]?):zk c' ρ' g l':=by
 obtain ⟨a,n,h1,h2,h3⟩:=h
 exact ⟨a,n,hb.trans h1,h2,fun k=>(h3 k).map hg l' hl⟩
theorem OR.carry {c c':Cx} {ρ ρ':List RE} {o:AO} {r:RE} (h:OR c ρ o r) (hc:c.le c') (k:gV ρ ρ') (hb:∀ g,r.g? = some g->c'.w.heap[g]? = c.w.heap[g]?):OR c' ρ' o r:=by
 cases o with
 | gone=>exact h
 | mapo s f=>
  obtain ⟨g,rfl,h⟩:=h
  exact ⟨g,rfl,h.carry hc (hb g rfl)⟩
 | loc=>trivial
 | mapf l=>
  obtain ⟨g,rfl,h⟩:=h
  exact ⟨g,rfl,h.map (g0:=fun a=>a) (by simp) (fun _ _ _ h=>h.carry hc k) (hb g rfl)⟩
 | arr t s n xs=>
  obtain ⟨g,vs,rfl,h1,h2,h3⟩:=h
  exact ⟨g,vs,rfl,(hb g rfl).trans h1,h2.carry hc,h3⟩
 | box t cs=>
  obtain ⟨g,vs,rfl,h1,h2⟩:=h
  exact ⟨g,vs,rfl,(hb g rfl).trans h1,h2.imp fun _ _ h=>h.carry hc k⟩
 | row t s xs=>
  obtain ⟨h1,h2,h3⟩:=h
  refine ⟨hc.shp ▸ h1,h2,h3.imp id ?_⟩
  rintro ⟨g,cap,cells,sp,rfl,h4,h5,h6⟩
  exact ⟨g,cap,cells,sp,rfl,(hb g rfl).trans h4,h5.carry hc,h6⟩
theorem bY {α β:Type} {R:α->β->Prop} {asx:List α} {bs:List β} (h:All2 R asx bs):∀ (i:Nat) (a:α),asx[i]? = some a->∃ b,bs[i]? = some b/\R a b:=by
 induction h with
 | nil=>intro i b hb; simp at hb
 | cons h _ ih=>
  intro i b hb
  cases i with
  | zero=>simp at hb; subst hb; exact ⟨_,rfl,h⟩
  | succ i=>simpa using ih i b (by simpa using hb)
theorem bl {α β:Type} {R:α->β->Prop}:∀ {asx:List α} {bs:List β},asx.length=bs.length->(∀ (i:Nat) (a:α) (b:β),asx[i]? = some a->bs[i]? = some b->R a b)->All2 R asx bs
 | [],[],_,_=>.nil
 | [],_ :: _,h,_=>by cases h
 | _ :: _,[],h,_=>by cases h
 | a :: asx,b :: bs,h,k=>.cons (k 0 a b rfl rfl) (bl (by simpa using h) fun i x y hx hy=>k (i+1) x y (by simpa using hx) (by simpa using hy))
theorem aN {H:AH} {i:Nat} {o:AO} (h:getO H i=o) (hne:o ≠ .gone):H[i]? = some o:=by
 unfold getO at h
 rw [List.getD_eq_getElem?_getD] at h
 cases hi:H[i]? with
 | none=>rw [hi] at h; exact absurd h.symm hne
 | some x=>rw [hi] at h; simp at h; rw [h]
section
variable {G:Gl} {ρ:List RE} {H:AH} {w w':World}
theorem Rep.at_ (h:Rep G ρ H w) {i:Nat} {o:AO} (ho:H[i]? = some o):∃ r,ρ[i]? = some r/\OR (cx G ρ w) ρ o r:=bY h.obj i o ho
theorem Rep.kp (h:Rep G ρ H w) (k:Kp [] w w'):Rep G ρ H w':=by
 refine ⟨bl h.obj.length fun i o r ho hr=>?_,h.inj,fun i r g h1 h2=>?_,fun b hb=>Nat.lt_of_lt_of_le (h.z b hb) k.size,Nat.le_trans h.b0 k.size,h.tb.carry (Ext.kp k).le⟩
 ·obtain ⟨r',hr',hor⟩:=h.at_ ho
  rw [hr] at hr'; cases hr'
  exact hor.carry (Ext.kp k).le (gV.refl _) fun g hg=>k.block g (h.bnd i r g hr hg).2.1 (by simp)
 ·have:=h.bnd i r g h1 h2
  exact ⟨this.1,Nat.lt_of_lt_of_le this.2.1 k.size,this.2.2⟩
theorem vh {r:RE} {b:Nat}:live (ρ++[r]) b↔live ρ b\/r.g? = some b:=by
 constructor
 ·rintro ⟨i,r',h1,h2⟩
  by_cases hi:i<ρ.length
  ·rw [List.getElem?_append_left hi] at h1
   exact .inl ⟨i,r',h1,h2⟩
  ·rw [List.getElem?_append_right (by omega)] at h1
   have:i - ρ.length=0:=by
    have:=(List.getElem?_eq_some_iff.1 h1).1
    simp at this; omega
   rw [this] at h1
   simp at h1; subst h1
   exact .inr h2
 ·rintro (⟨i,r',h1,h2⟩ | h)
  ·exact ⟨i,r',by rw [List.getElem?_append_left (List.getElem?_eq_some_iff.1 h1).1]; exact h1,h2⟩
  ·exact ⟨ρ.length,r,by simp,h⟩
theorem Ext.app {r:RE} (k:Kp [] w w') (hr:∀ g',r.g? = some g' -> w.heap.size<=g'):Ext ρ w (ρ++[r]) w':=
 ⟨k.os,k.tape,k.output,k.size,fun b hb h=>⟨fun hl=>(vh.1 hl).elim h fun h2=>by have:=hr b h2; omega,k.block b hb (by simp)⟩⟩
theorem Rep.app (h:Rep G ρ H w) (k:Kp [] w w') {r:RE} {o:AO} (hr:∀ g,r.g? = some g->w.heap.size<=g/\g<w'.heap.size) (ho:OR (cx G (ρ++[r]) w') (ρ++[r]) o r):Rep G (ρ++[r]) (H++[o]) w':=by
 have hx:Ext ρ w (ρ++[r]) w':=Ext.app k fun g hg=>(hr g hg).1
 refine ⟨?_,?_,?_,fun b hb=>Nat.lt_of_lt_of_le (h.z b hb) k.size,Nat.le_trans h.b0 k.size,h.tb.carry hx.le⟩
 ·refine All2.append (bl h.obj.length fun i o r' ho hr'=>?_) (.cons ho .nil)
  obtain ⟨r'',hr'',hor⟩:=h.at_ ho
  rw [hr'] at hr''; cases hr''
  exact hor.carry hx.le (cX _ _) fun g hg=>k.block g (h.bnd i r' g hr' hg).2.1 (by simp)
 ·intro i j r1 r2 g h1 h2 h3 h4
  have key:∀ i r',(ρ++[r])[i]? = some r' -> r'.g? = some g->(ρ[i]? = some r' /\ g<w.heap.size)\/(i=ρ.length/\w.heap.size<=g):=fun i r' h1 h2=>by
   by_cases hi:i<ρ.length
   ·rw [List.getElem?_append_left hi] at h1
    exact .inl ⟨h1,(h.bnd i r' g h1 h2).2.1⟩
   ·rw [List.getElem?_append_right (by omega)] at h1
    have:i - ρ.length=0:=by
     have:=(List.getElem?_eq_some_iff.1 h1).1
     simp at this; omega
    rw [this] at h1
    simp at h1; subst h1
    exact .inr ⟨by omega,(hr g h2).1⟩
  rcases key i r1 h1 h3 with ⟨a,b⟩ | ⟨a,b⟩ <;> rcases key j r2 h2 h4 with ⟨a',b'⟩ | ⟨a',b'⟩
  ·exact h.inj i j r1 r2 g a a' h3 h4
  ·omega
  ·omega
  ·omega
 ·intro i r' g h1 h2
  by_cases hi:i<ρ.length
  ·rw [List.getElem?_append_left hi] at h1
   have:=h.bnd i r' g h1 h2
   exact ⟨this.1,Nat.lt_of_lt_of_le this.2.1 k.size,this.2.2⟩
  ·rw [List.getElem?_append_right (by omega)] at h1
   have:i - ρ.length=0:=by
    have:=(List.getElem?_eq_some_iff.1 h1).1
    simp at this; omega
   rw [this] at h1
   simp at h1; subst h1
   exact ⟨Nat.le_trans h.b0 (hr g h2).1,(hr g h2).2,fun hz=>by have:=h.z g hz; have:=(hr g h2).1; omega⟩
theorem Rep.put (h:Rep G ρ H w) {i g:Nat} {r:RE} {o o':AO} (hi:H[i]? = some o) (hr:ρ[i]? = some r) (hg:r.g? = some g) (k:Kp [g] w w') (ho:OR (cx G ρ w') ρ o' r):Rep G ρ (H.set i o') w' /\ Ext ρ w ρ w':=by
 have hx:Ext ρ w ρ w':=⟨k.os,k.tape,k.output,k.size,fun b hb hl=>⟨hl,k.block b hb (by
  simp only [List.mem_singleton]
  rintro rfl
  exact hl ⟨i,r,hr,hg⟩)⟩⟩
 refine ⟨⟨bl (by rw [List.length_set]; exact h.obj.length) fun j x r' hx' hr'=>?_,h.inj,fun j r' g' h1 h2=>?_,fun b hb=>Nat.lt_of_lt_of_le (h.z b hb) k.size,Nat.le_trans h.b0 k.size,h.tb.carry hx.le⟩,hx⟩
 ·by_cases hij:i=j
  ·subst hij
   rw [List.getElem?_set_self (List.getElem?_eq_some_iff.1 hi).1] at hx'
   cases hx'
   rw [hr] at hr'; cases hr'
   exact ho
  ·rw [List.getElem?_set_ne hij] at hx'
   obtain ⟨r'',hr'',hor⟩:=h.at_ hx'
   rw [hr'] at hr''; cases hr''
   refine hor.carry hx.le (gV.refl _) fun g' hg'=>k.block g' (h.bnd j r' g' hr' hg').2.1 ?_
   simp only [List.mem_singleton]
   rintro rfl
   exact hij (h.inj i j r r' g' hr hr' hg hg')
 ·have:=h.bnd j r' g' h1 h2
  exact ⟨this.1,Nat.lt_of_lt_of_le this.2.1 k.size,this.2.2⟩
end
def zB:AV->Value->Bool
 | .int n,.int .i64 m=>decide (n=m) && decide (n=0)
 | .u8 b,.int .u8 m=>decide (m=0) && decide (b=0)
 | .u64 n,.int .u64 m=>decide (m=0) && decide (n=0)
 | .bool e,.bool false=>!e.val
 | .str ⟨[]⟩,.string s=>s.data.toList.isEmpty
 | .em true,.slice none 0 0=>true
 | .fz _ xs,.slice none 0 0=>xs.isEmpty
 | .np,.pointer none=>true
 | .nf,.nilFunc=>true
 | .dead,v=>v.oneCell'
 | .xx (.er true) [],.nilIface=>true
 | _,_=>false
def nN:List AV->List Value->Bool
 | [],[]=>true
 | a :: r,v :: vs=>zB a v && nN r vs
 | _,_=>false
def xV (P:Program) (g:TypeId->Option (List LK)):List Go.Field->Nat->Option (List LK)
 | [],_=>some []
 | f :: r,o=>match g f.type with
  | some ks=>match decide (f.offset=o) && decide (P.cellsOf f.type=ks.length) && (f.name != "_"),xV P g r (o+ks.length) with
   | true,some l=>some (ks++l)
   | _,_=>none
  | none=>none
def vG (P:Program):Nat->TypeId->Option (List LK)
 | 0,_=>none
 | d+1,t=>match P.underlying t with
  | some (.int k)=>some [.i k]
  | some .bool=>some [.b]
  | some .string=>some [.s]
  | some (.struct F)=>match xV P (vG P d) F.toList 0 with
   | some ks=>match decide (P.cellsOf t=ks.length) with
    | true=>some ks
    | false=>none
   | none=>none
  | _=>none
def Eh (P:Program) (t:TypeId) (ks:List LK):Bool:=decide (vG P 8 t=some ks) && P.keyTypeAt 8 t && !P.eqGuardType P.depth t
def FW (P:Program) (t:TypeId) (z:List AV):Prop:=∀ ks,zU z=some ks->Eh P t ks=true
def CB (P:Program) (shp:TypeId->Option Sh) (t:TypeId) (ti:TI):Prop:=
 ((P.info? t).map (·.size)=some ti.size/\∃ zs:List Value,((P.info? t).bind (·.zero)).map Value.cells=some zs.toArray/\nN ti.zero zs=true) /\
 match ti.k with
 | .i k=>P.underlying t=some (.int k)
 | .bool=>P.underlying t=some .bool
 | .str=>P.underlying t=some .string
 | .sl e so=>P.underlying t=some (.slice e)/\∀ s,so=some s->shp e=some s/\(∃ z:List Value,(P.info? e).map (fun i=>(i.zero.map Value.cells,i.size,i.bytes))=some (some z.toArray,s.size,s.bytes)/\nN (cellsOf s (aY s)) z=true)/\(s = .u8->P.underlying e=some (.int .u8)/\(P.info? e).bind (·.zero)=some (.int .u8 0))
 | .st fs=>∃ F:Array Go.Field,P.underlying t=some (.struct F)/\F.toList.mapM (fun f=>(P.info? f.type).map fun i=>(f.offset,i.size))=some fs/\(∀ q ∈ fs,0<q.2)/\FW P t ti.zero
 | .ar n e=>P.underlying t=some (.array n e)
 | .ifc=>P.underlying t=some (.interface (P.methodsAt t))
 | .ms k e=>P.underlying t=some (.map k e)/\P.underlying k=some .string/\(P.info? e).bind (·.zero)=some (.int .i64 0)
 | .mp k e so=>P.underlying t=some (.map k e)/\P.underlying k=some (.int .i64)/\(∀ s,so=some s->∃ z zs,(P.info? e).bind (·.zero)=some z/\nN (cellsOf s (aY s)) zs=true/\((s.iD=true/\z = .agg zs.toArray)\/(s.iD=false/\zs=[z])))/\(so=none->(P.info? e).bind (·.zero)=some .nilFunc)
 | _=>∃ d,P.underlying t=some d/\ga d=false
def aD (P:Program) (shp:TypeId->Option Sh) (T:List (Nat × TI)):Prop:=∀ t ti,aE T t=some ti->CB P shp t ti
section
variable {c:Cx} {ρ:List RE}
theorem wi {a:UInt8} {b:Nat}:Pd c (.u8 (UInt8.ofNat (a.toNat / 2 ^ b))) (.int .u8 ((a.toNat / 2 ^ b:Nat):Int)):=by
 have e:a.toNat / 2 ^ b=(UInt8.ofNat (a.toNat / 2 ^ b)).toNat:=by
  rw [UInt8.toNat_ofNat',Nat.mod_eq_of_lt (Nat.lt_of_le_of_lt (Nat.div_le_self _ _) a.toNat_lt)]
 rw [show ((a.toNat / 2 ^ b:Nat):Int)=((UInt8.ofNat (a.toNat / 2 ^ b)).toNat:Int) from congrArg _ e]
 exact Pd.u8
theorem zM {a:AV} {v:Value} (h:zB a v=true):Rd c ρ a v:=by
 unfold zB at h
 split at h
 ·simp only [Bool.and_eq_true,decide_eq_true_eq] at h
  obtain ⟨rfl,rfl⟩:=h
  exact Pd.int ⟨by omega,by omega⟩
 ·simp only [Bool.and_eq_true,decide_eq_true_eq] at h
  obtain ⟨rfl,rfl⟩:=h
  exact Pd.u8
 ·simp only [Bool.and_eq_true,decide_eq_true_eq] at h
  obtain ⟨rfl,rfl⟩:=h
  exact Pd.u64 cQ
 ·rename_i e
  have:e.val=false:=by simpa using h
  rw [<- this]
  exact Pd.bool
 ·rename_i s
  have:s=⟨#[]⟩:=by
   have h1:s.data.toList=[]:=by simpa using h
   have h2:s.data = #[]:=by
    apply Array.ext'
    simpa using h1
   cases s; simp_all
  subst this
  exact Pd.str (s:=⟨[]⟩) (by simp)
 ·exact Pd.em rfl
 ·rename_i s xs
  have:xs=[]:=by simpa using h
  subst this
  exact Pd.fz (xs:=([]:List (den s))) (cells:=[]) (Nat.le_refl _) (by simp [maxLen]) (by simp) .nil (.inl rfl)
 ·rfl
 ·rfl
 ·exact h
 ·exact ⟨[],.nil,rfl,.inl ⟨rfl,rfl⟩⟩
 ·cases h
theorem fb:∀ {asx:List AV} {vs:List Value},nN asx vs=true->All2 (Rd c ρ) asx vs
 | [],[],_=>.nil
 | [],_ :: _,h=>by simp [nN] at h
 | _ :: _,[],h=>by simp [nN] at h
 | a :: r,v :: vs,h=>by
  simp only [nN,Bool.and_eq_true] at h
  exact .cons (zM h.1) (fb h.2)
theorem BJ {a:AV} {v:Value} (h:Et v=some a):Rd c ρ a v:=by
 unfold Et at h
 split at h
 ·rename_i n
  cases hb:(decide (-9223372036854775808<=n) && decide (n<=9223372036854775807)) <;> rw [hb] at h
  ·cases h
  ·cases h
   simp only [Bool.and_eq_true,decide_eq_true_eq] at hb
   exact Pd.int hb
 ·rename_i n
  cases hb:(decide (0<=n) && decide (n<256)) <;> rw [hb] at h
  ·cases h
  ·cases h
   simp only [Bool.and_eq_true,decide_eq_true_eq] at hb
   have e:n=((UInt8.ofNat n.toNat).toNat:Int):=by rw [UInt8.toNat_ofNat']; omega
   show Pd c _ _
   rw [e,Int.toNat_natCast]
   have e2:UInt8.ofNat (UInt8.ofNat n.toNat).toNat=UInt8.ofNat n.toNat:=UInt8.ofNat_toNat
   rw [e2]
   exact Pd.u8
 ·rename_i n
  cases hb:(decide (0<=n) && decide (n<18446744073709551616)) <;> rw [hb] at h
  ·cases h
  ·cases h
   simp only [Bool.and_eq_true,decide_eq_true_eq] at hb
   have e:n=(n.toNat:Int):=by omega
   show Pd c _ _
   rw [e,Int.toNat_natCast]
   exact Pd.u64 cQ
 ·cases h; exact Pd.bool (e:=.lit _)
 ·rename_i s
  cases hb:Nat.ble s.data.toList.length 140737488355328 <;> rw [hb] at h
  ·cases h
  ·cases h
   have:=Nat.le_of_ble_eq_true hb
   have e:=Pd.str (c:=c) (s:=⟨s.data.toList⟩) this
   have e2:(⟨s.data.toList⟩:Str).val = .string s:=by simp [Str.val]
   rw [e2] at e
   exact e
 ·cases h; exact Pd.em rfl
 ·cases h; rfl
 ·cases h; exact ⟨[],.nil,rfl,.inl ⟨rfl,rfl⟩⟩
 ·cases h; rfl
 ·cases h
theorem cN {fr:AFr} {F:Fr} (h:bK c ρ fr F) {i:Nat} {tv:TV} (hx:lookA fr i=some tv):∃ v,look F i=some v/\Rt c ρ tv v:=by
 induction h with
 | nil=>cases hx
 | @cons p q fr F hp _ ih=>
  obtain ⟨i1,t1⟩:=p
  obtain ⟨i2,v2⟩:=q
  obtain ⟨rfl,hr⟩:=hp
  unfold lookA at hx
  unfold look
  cases hb:Nat.beq i1 i <;> rw [hb] at hx <;> simp only [cond_true,cond_false] at hx ⊢
  ·exact ih hx
  ·cases hx; exact ⟨v2,rfl,hr⟩
theorem ae {fr:AFr} {F:Fr} (h:bK c ρ fr F) {x:Operand} {tv:TV} (hx:bT fr x=some tv):∃ v,ev F x=some v/\Rt c ρ tv v:=by
 cases x with
 | tmp i=>exact cN h hx
 | const v=>
  simp only [bT] at hx
  split at hx
  ·rename_i a ha
   cases hx
   exact ⟨v,rfl,BJ ha⟩
  ·cases hx
 | global g=>cases hx
 | func f=>cases hx; exact ⟨_,rfl,[],[],.nil,.nil,rfl⟩
theorem nG {fr:AFr} {F:Fr} (h:bK c ρ fr F):∀ {xs:List Operand} {ts:List TV1},vd fr xs=some ts->∃ vs,Ah F xs=some vs/\All2 (bt c ρ) ts vs
 | [],ts,hx=>by cases hx; exact ⟨[],rfl,.nil⟩
 | x :: r,ts,hx=>by
  simp only [vd] at hx
  split at hx
  ·rename_i a l ha hl
   cases hx
   obtain ⟨v,h1,h2⟩:=ae h ha
   obtain ⟨vs,h3,h4⟩:=nG h hl
   exact ⟨v :: vs,by simp only [Ah,h1,h3],.cons h2 h4⟩
  ·cases hx
theorem fl {fr:AFr} {F:Fr} (h:bK c ρ fr F):∀ {xs:List (Nat × Operand)} {ts:List (Nat × TV1)},pF fr xs=some ts->∃ vs,uU F xs=some vs/\All2 (fun p q=>p.1=q.1/\bt c ρ p.2 q.2) ts vs
 | [],ts,hx=>by cases hx; exact ⟨[],rfl,.nil⟩
 | (i,x) :: r,ts,hx=>by
  simp only [pF] at hx
  split at hx
  ·rename_i a l ha hl
   cases hx
   obtain ⟨v,h1,h2⟩:=ae h ha
   obtain ⟨vs,h3,h4⟩:=fl h hl
   exact ⟨(i,v) :: vs,by simp only [uU,h1,h3],.cons ⟨rfl,h2⟩ h4⟩
  ·cases hx
end
section
variable {P:Program} {n:Nat} {fr:Fr} {w:World} {x y:Operand} {ty t t':TypeId}
theorem mA (z:Int) (h:0<=z):IntKind.u64.wrap z=((z.toNat % 18446744073709551616:Nat):Int):=by
 simp only [IntKind.wrap,IntKind.bits,IntKind.signed]
 simp
 omega
theorem R.x_ {a b:Nat} (hx:ev fr x=some (.int .u64 (a:Int))) (hy:ev fr y=some (.int .u64 (b:Int))):ao P n fr w (.binOp .add t x y t') ty (.int .u64 (((a+b) % 18446744073709551616:Nat):Int)) w:=by
 have:=R.BY (P:=P) (n:=n) (w:=w) (ty:=ty) (t:=t) (t':=t') hx hy
 rw [mA _ (by omega)] at this
 rwa [show ((a:Int)+b).toNat=a+b by omega] at this
theorem R.ra {kc:IntKind} {a b:Nat} (hx:ev fr x=some (.int .u64 (a:Int))) (hy:ev fr y=some (.int kc (b:Int))) (hb:b<=64):ao P n fr w (.binOp .shl t x y t') ty (.int .u64 (((a*2 ^ b) % 18446744073709551616:Nat):Int)) w:=fun _ _ _ _ _ ha=>by
 have e:IntKind.u64.wrap ((a:Int)*2 ^ b)=(((a*2 ^ b) % 18446744073709551616:Nat):Int):=by
  rw [show (a:Int)*2 ^ b=((a*2 ^ b:Nat):Int) by simp,mA _ (Int.natCast_nonneg _),Int.toNat_natCast]
 have e2:Op.shift .shl .u64 (a:Int) kc (b:Int)=pure (.int .u64 (((a*2 ^ b) % 18446744073709551616:Nat):Int)):=by
  rw [shift_shl .u64 kc (a:Int) (b:Int) (Int.natCast_nonneg b) (show (b:Int)<=((64:Nat):Int) by omega),Int.toNat_natCast,e]
 simp only [execOp,ha.ev hx,ha.ev hy,eqGuard_shl,binOp_shl,e2]
 rfl
theorem R.Bg {a b:Nat} (hx:ev fr x=some (.int .u64 (a:Int))) (hy:ev fr y=some (.int .u64 (b:Int))) (h1:a<18446744073709551616) (h2:b<18446744073709551616):ao P n fr w (.binOp .or t x y t') ty (.int .u64 ((a ||| b:Nat):Int)) w:=fun _ _ _ _ _ ha=>by
 have e:bits .or .u64 (a:Int) (b:Int)=((a ||| b:Nat):Int):=by
  have h3:∀ c:Nat,(BitVec.ofInt 64 (c:Int))=BitVec.ofNat 64 c:=fun c=>by rw [BitVec.ofInt_natCast]
  show IntKind.u64.wrap ((BitVec.ofInt 64 (a:Int) ||| BitVec.ofInt 64 (b:Int)).toNat:Int)=_
  rw [h3,h3,BitVec.toNat_or,BitVec.toNat_ofNat,BitVec.toNat_ofNat,Nat.mod_eq_of_lt (by simpa using h1),Nat.mod_eq_of_lt (by simpa using h2)]
  exact wrap_u64 (Nat.or_lt_two_pow (n:=64) h1 h2)
 simp [execOp,ha.ev hx,ha.ev hy,eqGuard_or,binOp_or,intBits_or,e]
theorem rC {a b:Int} (h:0<=b) (hI:I64 b):0<=tM a b/\tM a b<=b:=by
 obtain ⟨b,rfl⟩:=Int.eq_ofNat_of_zero_le h
 unfold tM
 refine ⟨Int.natCast_nonneg _,?_⟩
 rw [BitVec.toNat_and,BitVec.ofInt_natCast,BitVec.toNat_ofNat,Nat.mod_eq_of_lt (by have:=hI.2; omega)]
 exact Int.ofNat_le.2 Nat.and_le_right
theorem R.EU {a b:Int} (hx:ev fr x=some (.int .i64 a)) (hy:ev fr y=some (.int .i64 b)) (h0:0<=b) (hI:I64 b):ao P n fr w (.binOp .and t x y t') ty (.int .i64 (tM a b)) w:=fun _ _ _ _ _ ha=>by
 have e:bits .and .i64 a b=tM a b:=by
  show IntKind.i64.wrap (((BitVec.ofInt 64 a &&& BitVec.ofInt 64 b).toNat:Int))=_
  have h:=rC (a:=a) h0 hI
  have:=hI.2
  exact I64.wrap ⟨Int.le_trans (by decide) h.1,Int.le_trans h.2 this⟩
 simp [execOp,ha.ev hx,ha.ev hy,eqGuard_and,binOp_and,intBits_and,e]
theorem R.Ga {a b:Int} (hx:ev fr x=some (.int .i64 a)) (hy:ev fr y=some (.int .i64 b)) (h0:0<=a) (h1:0<=b) (ia:I64 a) (ib:I64 b):ao P n fr w (.binOp .or t x y t') ty (.int .i64 (xz a b)) w/\I64 (xz a b):=by
 obtain ⟨a,rfl⟩:=Int.eq_ofNat_of_zero_le h0
 obtain ⟨b,rfl⟩:=Int.eq_ofNat_of_zero_le h1
 have ha2:a<2 ^ 63:=by have:=ia.2; omega
 have hb2:b<2 ^ 63:=by have:=ib.2; omega
 have hl:=Nat.or_lt_two_pow ha2 hb2
 have hI:I64 (((a ||| b:Nat):Nat):Int):=⟨by omega,by omega⟩
 have e:bits .or .i64 (a:Int) (b:Int)=((a ||| b:Nat):Int):=by
  have h3:∀ c:Nat,(BitVec.ofInt 64 (c:Int))=BitVec.ofNat 64 c:=fun c=>by rw [BitVec.ofInt_natCast]
  show IntKind.i64.wrap ((BitVec.ofInt 64 (a:Int) ||| BitVec.ofInt 64 (b:Int)).toNat:Int)=_
  rw [h3,h3,BitVec.toNat_or,BitVec.toNat_ofNat,BitVec.toNat_ofNat,Nat.mod_eq_of_lt (by omega),Nat.mod_eq_of_lt (by omega)]
  exact hI.wrap
 have e2:xz (a:Int) (b:Int)=((a ||| b:Nat):Int):=by unfold xz; simp
 rw [e2]
 refine ⟨fun _ _ _ _ _ ha=>?_,hI⟩
 simp [execOp,ha.ev hx,ha.ev hy,eqGuard_or,binOp_or,intBits_or,e]
theorem R.EH {kc:IntKind} {a:Int} {b:Nat} (hx:ev fr x=some (.int .i64 a)) (hy:ev fr y=some (.int kc (b:Int))) (hb:b<=64) (hI:I64 (a*2 ^ b)):ao P n fr w (.binOp .shl t x y t') ty (.int .i64 (a*2 ^ b)) w:=fun _ _ _ _ _ ha=>by
 have e2:Op.shift .shl .i64 a kc (b:Int)=pure (.int .i64 (a*2 ^ b)):=by
  rw [shift_shl .i64 kc a (b:Int) (Int.natCast_nonneg b) (show (b:Int)<=((64:Nat):Int) by omega),Int.toNat_natCast,hI.wrap]
 simp only [execOp,ha.ev hx,ha.ev hy,eqGuard_shl,binOp_shl,e2]
 rfl
theorem R.Fa {a b:Str} (hx:ev fr x=some a.val) (hy:ev fr y=some b.val) (h:a.b.length+b.b.length<=140737488355328):ao P n fr w (.binOp .add t x y t') ty (Str.val ⟨a.b++b.b⟩) w:=fun _ _ _ _ _ ha=>by
 have e:∀ u v:List UInt8,(⟨u.toArray⟩:ByteArray)++⟨v.toArray⟩=⟨(u++v).toArray⟩:=fun u v=>by
  apply ByteArray.ext
  rw [ByteArray.data_append]; simp
 have hs:∀ u:List UInt8,(⟨u.toArray⟩:ByteArray).size=u.length:=fun u=>by simp [ByteArray.size]
 have h1:¬ (((a.b.length+b.b.length:Nat):Int) > IntKind.i64.max):=by
  simp only [show IntKind.i64.max=9223372036854775807 from rfl]; omega
 simp only [execOp,ha.ev hx,ha.ev hy,Str.val,eqGuard_add,binOp,Op.stringOp,hs,e]
 simp only [if_neg h1]
 rfl
theorem R.EI {a b:Int} (hx:ev fr x=some (.int .i64 a)) (hy:ev fr y=some (.int .i64 b)) (h0:0<=a) (hb:0<b) (hI:I64 a):ao P n fr w (.binOp .quo t x y t') ty (.int .i64 (a.tdiv b)) w/\I64 (a.tdiv b):=by
 obtain ⟨a,rfl⟩:=Int.eq_ofNat_of_zero_le h0
 obtain ⟨b,rfl⟩:=Int.eq_ofNat_of_zero_le (Int.le_of_lt hb)
 have e:(a:Int).tdiv b=((a / b:Nat):Int):=by rw [Int.tdiv_eq_ediv_of_nonneg (by omega)]; omega
 have hI':I64 ((a / b:Nat):Int):=by
  have:=Nat.div_le_self a b
  generalize a / b=q at *
  unfold I64 at hI ⊢; omega
 rw [e]
 exact ⟨R.By hx hy cQ hI'.wrap,hI'⟩
theorem R.EO {a b:Int} (hx:ev fr x=some (.int .i64 a)) (hy:ev fr y=some (.int .i64 b)) (h0:0<=a) (hb:0<b) (hI:I64 a):ao P n fr w (.binOp .rem t x y t') ty (.int .i64 (a.tmod b)) w/\I64 (a.tmod b):=by
 obtain ⟨a,rfl⟩:=Int.eq_ofNat_of_zero_le h0
 obtain ⟨b,rfl⟩:=Int.eq_ofNat_of_zero_le (Int.le_of_lt hb)
 have e:(a:Int).tmod b=((a % b:Nat):Int):=by rw [Int.tmod_eq_emod_of_nonneg (by omega)]; omega
 have hI':I64 ((a % b:Nat):Int):=by
  have:=Nat.mod_le a b
  unfold I64 at hI ⊢; omega
 rw [e]
 exact ⟨R.BO hx hy cQ,hI'⟩
end
section
variable {P:Program} {T:List (Nat × TI)} {G:Gl} {n:Nat} {F:Fr} {w:World} {x y:Operand} {ty t t':TypeId} {c:Cx} {ρ:List RE}
theorem uD (hT:aD P G.shp T) {op:BinOp} {a b:AV} {r:PR} {va vb:Value} (hb':vD T t a=true) (h:BR op a b=some r) (hob:∀ p ∈ r.ob,p) (ha:Rd c ρ a va) (hb:Rd c ρ b vb) (hx:ev F x=some va) (hy:ev F y=some vb) :
  ∃ v,ao P n F w (.binOp op t x y t') ty v w/\Rt c ρ r.v v/\r.fc=[]:=by
 unfold BR at h
 split at h
 ·-- ints
  cases ha with | int ia=>
  cases hb with | int ib=>
  split at h <;> cases h
  ·exact ⟨_,R.lss hx hy,Pd.bool (e:=.lt _ _),rfl⟩
  ·exact ⟨_,R.leq hx hy,Pd.bool (e:=.le _ _),rfl⟩
  ·exact ⟨_,R.gtr hx hy,Pd.bool (e:=.lt _ _),rfl⟩
  ·exact ⟨_,R.geq hx hy,Pd.bool (e:=.le _ _),rfl⟩
  ·exact ⟨_,R.eql hx hy,Pd.bool (e:=.eq _ _),rfl⟩
  ·exact ⟨_,R.neq hx hy,Pd.bool (e:=.not (.eq _ _)),rfl⟩
  ·have h1:=hob _ (List.mem_singleton_self _); exact ⟨_,R.add hx hy h1,Pd.int h1,rfl⟩
  ·have h1:=hob _ (List.mem_singleton_self _); exact ⟨_,R.sub hx hy h1,Pd.int h1,rfl⟩
  ·have h1:=hob _ (List.mem_singleton_self _); exact ⟨_,R.mul hx hy h1,Pd.int h1,rfl⟩
  ·have h1:=hob _ (List.mem_cons_self); have h2:=hob _ (List.mem_cons_of_mem _ (List.mem_singleton_self _))
   have h3:=R.EI (P:=P) (n:=n) (w:=w) (ty:=ty) (t:=t) (t':=t') hx hy h1 h2 ia
   exact ⟨_,h3.1,Pd.int h3.2,rfl⟩
  ·have h1:=hob _ (List.mem_cons_self); have h2:=hob _ (List.mem_cons_of_mem _ (List.mem_singleton_self _))
   have h3:=R.EO (P:=P) (n:=n) (w:=w) (ty:=ty) (t:=t) (t':=t') hx hy h1 h2 ia
   exact ⟨_,h3.1,Pd.int h3.2,rfl⟩
  ·have h1:=hob _ (List.mem_singleton_self _)
   have h2:=fun z:Int=>rC (a:=z) h1 ib
   have h3:=ib.2
   exact ⟨_,R.EU hx hy h1 ib,Pd.int ⟨Int.le_trans (by decide) (h2 _).1,Int.le_trans (h2 _).2 h3⟩,rfl⟩
  ·have h1:=hob _ (List.mem_cons_self); have h2:=hob _ (List.mem_cons_of_mem _ (List.mem_singleton_self _))
   have h3:=R.Ga (P:=P) (n:=n) (w:=w) (ty:=ty) (t:=t) (t':=t') hx hy h1 h2 ia ib
   exact ⟨_,h3.1,Pd.int h3.2,rfl⟩
 ·-- bytes
  cases ha with | u8=>
  cases hb with | u8=>
  split at h <;> cases h
  ·exact ⟨_,R.lss hx hy,Pd.bool (e:=.lt _ _),rfl⟩
  ·exact ⟨_,R.leq hx hy,Pd.bool (e:=.le _ _),rfl⟩
  ·exact ⟨_,R.gtr hx hy,Pd.bool (e:=.lt _ _),rfl⟩
  ·exact ⟨_,R.geq hx hy,Pd.bool (e:=.le _ _),rfl⟩
  ·exact ⟨_,R.eql hx hy,Pd.bool (e:=.eq _ _),rfl⟩
  ·exact ⟨_,R.neq hx hy,Pd.bool (e:=.not (.eq _ _)),rfl⟩
  ·exact ⟨_,R.DT hx hy,Pd.u8,rfl⟩
  ·exact ⟨_,R.Ey hx hy,Pd.u8,rfl⟩
  ·have h1:=hob _ (List.mem_singleton_self _)
   refine ⟨_,R.BO hx hy h1,?_,rfl⟩
   rw [<- UInt8.toNat_mod]
   exact Pd.u8
  ·have h1:=hob _ (List.mem_singleton_self _)
   refine ⟨_,R.By hx hy h1 ?_,?_,rfl⟩
   ·rw [<- UInt8.toNat_div]; exact qR (UInt8.toNat_lt _)
   ·rw [<- UInt8.toNat_div]
    exact Pd.u8
 ·cases ha with | u64 ia=>
  cases hb with | u64 ib=>
  split at h <;> cases h
  ·exact ⟨_,R.lss hx hy,Pd.bool (e:=.lt _ _),rfl⟩
  ·exact ⟨_,R.leq hx hy,Pd.bool (e:=.le _ _),rfl⟩
  ·exact ⟨_,R.gtr hx hy,Pd.bool (e:=.lt _ _),rfl⟩
  ·exact ⟨_,R.geq hx hy,Pd.bool (e:=.le _ _),rfl⟩
  ·exact ⟨_,R.eql hx hy,Pd.bool (e:=.eq _ _),rfl⟩
  ·exact ⟨_,R.neq hx hy,Pd.bool (e:=.not (.eq _ _)),rfl⟩
  ·exact ⟨_,R.x_ hx hy,Pd.u64 (Nat.mod_lt _ cQ),rfl⟩
  ·exact ⟨_,R.Bg hx hy ia ib,Pd.u64 (Nat.or_lt_two_pow (n:=64) ia ib),rfl⟩
  ·have h1:=hob _ (List.mem_singleton_self _)
   have h2:=Nat.div_le_self
   exact ⟨_,R.By hx hy h1 (wrap_u64 (Nat.lt_of_le_of_lt (h2 _ _) ia)),Pd.u64 (Nat.lt_of_le_of_lt (h2 _ _) ia),rfl⟩
  ·have h1:=hob _ (List.mem_singleton_self _)
   exact ⟨_,R.BO hx hy h1,Pd.u64 (Nat.lt_of_le_of_lt (Nat.mod_le _ _) ia),rfl⟩
  ·have h1:=hob _ (List.mem_singleton_self _)
   exact ⟨_,R.ra hx hy cQ,Pd.u64 (Nat.mod_lt _ cQ),rfl⟩
  ·have h1:=hob _ (List.mem_singleton_self _)
   exact ⟨_,R.Bm hx hy (Nat.le_of_lt h1),Pd.u64 (Nat.lt_of_le_of_lt (Nat.div_le_self _ _) ia),rfl⟩
 ·cases ha with | u64 ia=>
  cases hb with | int ib=>
  split at h <;> cases h
  ·have h1:=hob _ (List.mem_cons_self); have h2:=hob _ (List.mem_cons_of_mem _ (List.mem_singleton_self _))
   rename_i k _ _ _
   obtain ⟨k,rfl⟩:=Int.eq_ofNat_of_zero_le h1
   exact ⟨_,R.ra hx hy cQ,Pd.u64 (Nat.mod_lt _ cQ),rfl⟩
  ·have h1:=hob _ (List.mem_cons_self); have h2:=hob _ (List.mem_cons_of_mem _ (List.mem_singleton_self _))
   rename_i k _ _ _
   obtain ⟨k,rfl⟩:=Int.eq_ofNat_of_zero_le h1
   exact ⟨_,R.Bm hx hy (show k<=64 by omega),Pd.u64 (Nat.lt_of_le_of_lt (Nat.div_le_self _ _) ia),rfl⟩
 ·cases ha with | int ia=>
  cases hb with | u64 ib=>
  split at h <;> cases h
  have h1:=hob _ (List.mem_cons_self); have h2:=hob _ (List.mem_cons_of_mem _ (List.mem_singleton_self _))
  exact ⟨_,R.EH hx hy (Nat.le_of_lt h1) h2,Pd.int h2,rfl⟩
 ·cases ha with | u8=>
  cases hb with | u64 ib=>
  split at h <;> cases h
  have h1:=hob _ (List.mem_singleton_self _)
  exact ⟨_,R.Bm hx hy (Nat.le_of_lt h1),wi,rfl⟩
 ·cases ha with | bool=>
  cases hb with | bool=>
  have hu:P.underlying t=some .bool:=by
   simp only [vD] at hb'
   split at hb'
   ·rename_i h1; exact (hT _ _ h1).2
   ·cases hb'
  split at h <;> cases h
  ·exact ⟨_,R.EF hx hy hu,Pd.bool (e:=.beq _ _),rfl⟩
  ·exact ⟨_,R.Eo hx hy hu,Pd.bool (e:=.not (.beq _ _)),rfl⟩
 ·cases ha with | str ia=>
  cases hb with | str ib=>
  split at h <;> cases h
  ·exact ⟨_,R.Ev hx hy,Pd.bool (e:=.seq _ _),rfl⟩
  ·exact ⟨_,R.DC hx hy,Pd.bool (e:=.not (.seq _ _)),rfl⟩
  ·have h1:=hob _ (List.mem_singleton_self _)
   exact ⟨_,R.Fa hx hy h1,Pd.str (by rw [List.length_append]; exact h1),rfl⟩
 ·cases ha with | em ia=>
  cases hb with | @em _ a2 ib=>
  have hu:∃ e,P.underlying t=some (.slice e):=by
   simp only [vD] at hb'
   split at hb'
   ·rename_i e _ _ _ h1; exact ⟨_,(hT _ _ h1).2.1⟩
   ·cases hb'
  obtain ⟨e,hu⟩:=hu
  obtain rfl:a2=none:=Option.isNone_iff_eq_none.1 ib.symm
  subst ia
  split at h <;> cases h
  ·exact ⟨_,R.vj hx hy hu,Pd.bool (e:=.lit _),rfl⟩
  ·exact ⟨_,R.wX hx hy hu,Pd.bool (e:=.lit _),rfl⟩
 ·cases h
theorem Bx (a b:Int):I64 (BM a b):=by
 unfold BM; rw [IntKind.wrap_i64]; constructor <;> omega
theorem Aw (a b:Int):I64 (BH a b):=by
 unfold BH; rw [IntKind.wrap_i64]; constructor <;> omega
theorem uV {O:cC} (hT:aD P G.shp T) {op:BinOp} {a b:AV} {r:PR} {va vb:Value} (hb':vD T t a=true) (h:Ba O op a b=some r) (hob:∀ p ∈ r.ob,p) (ha:Rd c ρ a va) (hb:Rd c ρ b vb) (hx:ev F x=some va) (hy:ev F y=some vb) :
  ∃ v,ao P n F w (.binOp op t x y t') ty v w/\Rt c ρ r.v v/\r.fc=[]:=by
 unfold Ba at h
 split at h
 ·cases h
  cases ha with | int ia=>
  cases hb with | int ib=>
  exact ⟨_,R.CD hx hy,Pd.int (Bx _ _),rfl⟩
 ·cases h
  cases ha with | int ia=>
  cases hb with | int ib=>
  exact ⟨_,R.BY hx hy,Pd.int (Aw _ _),rfl⟩
 ·exact uD hT hb' h hob ha hb hx hy
end
end Go.Proofs.YtagpmhlokhoanaaDoor
