/- What leads to the law, part 1. Conditions: each lemma's own. -/
import Derived.KernelRfl
import Derived.LaidEqlPtr
import Derived.Lib.SliceRun
import Derived.Maps.AppendAt
import Derived.OrdersIn
import Derived.StillTail
import Derived.TacticsIn
import Derived.WalkKit
import Derived.WalkLawsBesides
import Derived.WalkSpells
set_option linter.unusedVariables false
set_option linter.unusedSimpArgs false
set_option maxHeartbeats 2000000
set_option linter.defProp false
namespace Go.Proofs.YticbaadnibdbkaaGreat
open Go.RowKit
def adt:=@Option.some.inj
def aiZ:=@Nat.beq_eq
def agk:=@Array.getD_eq_getD_getElem?
def ai0:=@Go.Calls.mono
def aa7:=@List.mem_cons_of_mem
def abb:=@List.mem_cons_self
def aeV:=@List.map_cons
def ai1:=@beq_iff_eq
def aa4:=@Nat.eq_of_beq_eq_true
def ah7:=@Array.getElem?_eq_getElem
def aiF:=@List.range'_succ
def ai2:=@List.zip_cons_cons
def aaj:=@List.getElem?_eq_some_iff
def aba:=@Nat.lt_of_lt_of_le
def aes:=@List.getElem?_take
def aa9:=@List.eq_nil_of_length_eq_zero
def abc:=@List.mem_append_left
def acV:=@List.mem_append_right
def aiP:=@Int.tdiv_eq_ediv_of_nonneg
def aiC:=@Bool.eq_iff_iff
def aiI:=@Go.run_loadCells_list
def aiJ:=@Prod.mk.injEq
def ahX:=@Nat.add_mul
def ah1:=@List.not_mem_nil
def aeq:=@Option.map_eq_some_iff
def aiO:=@Go.run_sliceAt_slice
def afd:=@Array.ext'
def aef:=@Int.toNat_natCast
def aey:=@Nat.min_eq_left
def aeF:=@List.all_eq_true
def aeD:=@Array.getElem?_eq_some_iff
def aew:=@Bool.not_eq_true'
def aeA:=@decide_eq_false_iff_not
def aff:=@Go.getD_replicate_false
def ai3:=@List.length_range
def aa_:=@List.mem_cons
def aeB:=@List.drop_eq_getElem_cons
def aez:=@List.take_append_of_le_length
def aa6:=@List.mem_singleton
def aet:=@List.length_set
def ab3:=@List.getElem?_set_self
variable {a b:Prop}
theorem aZ (x:a) (y:b):a/\b:=And.intro x y
theorem aY {c:Prop} (h:a->b->c):a/\b->c:=fun x=>h x.1 x.2
theorem ab {p:Prop} (h:p:=by with_reducible assumption):p:=h
theorem aL {p:Prop} (h:p:=by omega):p:=h
theorem bE {p:Prop} (h:p:=by kernel_rfl):p:=h
theorem bt {p:Prop} (h:p:=by first | with_reducible rfl | with_reducible assumption | omega | (constructor <;> omega)):p:=h
abbrev Fr:=List (Nat × Value)
def look:Fr->Nat->Option Value
 | [],_=>none
 | (j,v) :: r,i=>bif Nat.beq j i then some v else look r i
def ev (fr:Fr):Operand->Option Value
 | .tmp i=>look fr i
 | .const v=>some v
 | .global g=>some (.pointer (some ⟨g,0,none⟩))
 | .func f=>some (.func (.func f) #[] #[])
def M (n:Nat) (fr:Fr) (a:Act):Prop:=
 a.defers=[]/\a.tmps.size=n/\∀ i v,look fr i=some v->i<n/\a.tmps.getD i undef=v
theorem M.ev {n:Nat} {fr:Fr} {a:Act} {x:Operand} {v:Value} (h:M n fr a) (hx:ev fr x=some v):a.eval x=v:=by
 cases x with
 | tmp i=>exact (h.2.2 i v hx).2
 | const c=>exact adt hx
 | global g=>exact adt hx
 | func f=>exact adt hx
variable {i:Nat}
theorem aR {j:Nat} {v:Value} {r:Fr}:look ((j,v) :: r) i=if j=i then some v else look r i:=by
 show (bif Nat.beq j i then some v else look r i)=_;by_cases h:j=i
 ·simp [h]
 have:Nat.beq j i=false:=by rw [<- Bool.not_eq_true,aiZ]; exact h
 simp [this,h]
theorem M.put {n d:Nat} {fr:Fr} {a:Act} {v:Value} (h:M n fr a) (hd:Nat.blt d n=true):M n ((d,v) :: fr) (a.put (some d) v):=by
 have hdn:d<n:=by simpa using hd
 obtain ⟨h1,h2,h3⟩:=h;refine ⟨h1,by simp [Act.put,h2],fun i u hu=>?_⟩;rw [aR] at hu;by_cases hi:d=i
 ·subst hi;rw [if_pos rfl] at hu;cases hu;exact ⟨hdn,by simp [Act.put,Array.getD,h2,hdn]⟩
 rw [if_neg hi] at hu;obtain ⟨hin,hg⟩:=h3 i u hu;refine ⟨hin,?_⟩;rw [<- hg];simp [Act.put,Array.getD,h2,hin,hi]
variable {a:Act} {n:Nat}
theorem M.at_ {fr:Fr} {t:Nat} {v:Value} (h:M n fr a) (hv:look fr t=some v):a.tmps[t]?.getD undef=v:=by
 have:=(h.2.2 t v hv).2;simpa [agk] using this
variable {fr':Fr}
theorem M.sub {fr:Fr} (h:M n fr a) (hs:∀ i v,look fr' i=some v->look fr i=some v):M n fr' a:=
 ⟨h.1,h.2.1,fun i v hv=>h.2.2 i v (hs i v hv)⟩
abbrev gN (ro:Option Nat):Fence:={ fn:=fun _=>True,depth:=none,alive:=false,round:=ro }
def iW (a:Act) (ds:List Deferred):Act:={ a with defers:=ds }
def qn (ds:List Deferred) (Q:Exit->Act->World->Prop) (e:Exit) (a:Act) (w:World):Prop:=∃ a0:Act,a0.defers=[]/\a=iW a0 ds/\Q e a0 w
def ku (P:Program) (c:Code) (Q:Exit->Act->World->Prop) (a:Act) (w:World):Prop:=∀ ro ds,c.wpIn (gN ro) 0 P (qn ds Q) (iW a ds) w
def ML (P:Program) (l:Array Oper) (Q:Exit->Act->World->Prop) (rest:List Oper) (a:Act) (w:World):Prop:=∀ ro ds,wpListIn (gN ro) 0 P l (qn ds Q) rest (iW a ds) w
theorem acv {ro:Option Nat}:(gN ro).room n:=fun _ h=>by cases h
theorem oc (a:Act) (ds:List Deferred):(iW a ds).eval=a.eval:=by funext x; cases x <;> rfl
theorem k_ (a:Act) (ds:List Deferred) (d:Option Tmp) (v:Value):(iW a ds).put d v=iW (a.put d v) ds:=by cases d <;> rfl
theorem Mo {b:Act} {ds:List Deferred} (h:iW a ds=iW b ds) (ha:a.defers=[]) (hb:b.defers=[]):a=b:=by
 cases a; cases b;simp only [iW,Act.mk.injEq,and_true] at h;simp only at ha hb;rw [h,ha,hb]
theorem DG (h:a.defers=[]) (d:Option Tmp) (v:Value):(a.put d v).defers=[]:=by cases d <;> exact h
section prim
variable {P:Program} {Q:Exit->Act->World->Prop} {a:Act} {w:World}
theorem Ow (hd:a.defers=[]) (h:Q .normal a w):ku P .skip Q a w:=fun _ _=>wpIn_skip ⟨a,hd,rfl,h⟩
theorem IV {l:Nat} (hd:a.defers=[]) (h:Q .normal a w):ku P (.label l) Q a w:=fun _ _=>wpIn_label ⟨a,hd,rfl,h⟩
variable {id:Nat}
theorem La (hd:a.defers=[]) (h:Q (.exit id) a w):ku P (.exit id) Q a w:=fun _ _=>wpIn_exit ⟨a,hd,rfl,h⟩
theorem RB (hd:a.defers=[]) (h:Q .ret a w):ku P .ret Q a w:=fun _ _=>wpIn_ret ⟨a,hd,rfl,h⟩
variable {x:Code}
theorem Ub {y:Code} (h:ku P x (Exit.then (ku P y Q) Q) a w):ku P (.seq x y) Q a w:=fun ro ds=>wpIn_seq (wpIn_mono (h ro ds) fun e a w hq=>by
 cases e with
 | normal=>obtain ⟨a0,_,rfl,hq⟩:=hq; exact hq ro ds
 | _=>exact hq)
theorem GS {c:Code} (h:ku P c (Exit.inBlock id Q) a w):ku P (.block id c) Q a w:=fun ro ds=>wpIn_block (wpIn_mono (h ro ds) fun e a w hq=>by
 cases e with
 | exit j=>
  obtain ⟨a0,h0,rfl,hq⟩:=hq;simp only [Exit.inBlock] at hq ⊢;split
  ·rename_i e; rw [if_pos e] at hq; exact ⟨a0,h0,rfl,hq⟩
  rename_i e; rw [if_neg e] at hq; exact ⟨a0,h0,rfl,hq⟩
 | _=>exact hq)
theorem Dj {l:List Oper} (h:ML P l.toArray Q l a w):ku P (.region id l.toArray false) Q a w:=fun ro ds=>wpIn_region_lit (h ro ds)
theorem rP {c:Operand} {y:Code} {t:Bool} (hc:a.eval c = .bool t) (ht:t=true->ku P x Q a w) (hf:t=false->ku P y Q a w):ku P (.cond c x y) Q a w:=
 fun ro ds=>wpIn_cond_split (by rw [oc]; exact hc) (fun h=>ht h ro ds) (fun h=>hf h ro ds)
theorem uo {c:Operand} {y:Code} (hc:a.eval c = .bool true) (h:ku P x Q a w):ku P (.cond c x y) Q a w:=fun ro ds=>wpIn_cond_true (by rw [oc]; exact hc) (h ro ds)
theorem sw {c:Operand} {y:Code} (hc:a.eval c = .bool false) (h:ku P y Q a w):ku P (.cond c x y) Q a w:=fun ro ds=>wpIn_cond_false (by rw [oc]; exact hc) (h ro ds)
theorem HN {c:Code} (h:ku P c (Exit.noGoto Q) a w):ku P (.scope c) Q a w:=by
 intro ro ds b k cs hro hb hr;have h0:(lone (b.atR (iW a ds) (.code (.scope c) :: k)) cs w).fenced P (gN ro):=fenced_calm hb hr rfl;have s1:step P (lone (b.atR (iW a ds) (.code (.scope c) :: k)) cs w) = .next (lone (b.atR (iW a ds) (.code c :: .inScope c :: k)) cs w):=step_lone_go (by simp [stepG,stepG.exec,Frame.atR])
 have s2:∀ a w,step P (lone (b.atR a (.inScope c :: k)) cs w) = .next (lone (b.atR a k) cs w):=fun a w=>step_lone_go (by simp [stepG,stepG.exec,Frame.atR])
 obtain ⟨e,a₁,w₁,⟨a0,hd,rfl,hq⟩,harr⟩:=h ro ds b (.inScope c :: k) cs hro hb hr;cases e with
 | normal=>exact ⟨.normal,_,w₁,⟨a0,hd,rfl,hq⟩,.head h0 s1 (StepsIn.trans harr (.one (fenced_calm hb hr rfl) (s2 _ _)))⟩
 | exit id=>
  have hx:exitTo id (.inScope c :: k)=exitTo id k:=by simp [exitTo]
  exact ⟨.exit id,_,w₁,⟨a0,hd,rfl,hq⟩,fun k' hk=>.head h0 s1 (harr.1 k' (by rw [hx]; exact hk)),fun hr' hk=>let ⟨k₁,h1,h2⟩:=harr.2 hr' (by rw [hx]; exact hk); ⟨k₁,h1,.head h0 s1 h2⟩⟩
 | goto l=>exact hq.elim
 | ret=>exact ⟨_,_,w₁,⟨a0,hd,rfl,hq⟩,.of_steps (.one h0 s1) harr⟩
 | panic ch=>exact ⟨_,_,w₁,⟨a0,hd,rfl,hq⟩,.of_steps (.one h0 s1) harr⟩
 | outgrown=>exact ⟨_,_,w₁,⟨a0,hd,rfl,hq⟩,.of_steps (.one h0 s1) harr⟩
theorem rV {σ:Type} {c:Code} (D:Act->World->σ->Prop) (μ:σ->Nat) (s0:σ) (h0:D a w s0)
  (round:∀ s a w,D a w s->ku P c (fun e a w=>match e with | .normal=>∃ s',D a w s' /\ μ s' < μ s | e=>Q e a w) a w):ku P (.loop c) Q a w:=by
 intro ro ds b k cs hro hb hr;have key:∀ m,∀ s a w,μ s=m->D a w s->∃ e a' w',qn ds Q e a' w' /\ ArrivesIn (Machine.fenced P (gN ro)) P (lone (b.atR (iW a ds) (.code c :: .inLoop c :: k)) cs w) b k cs e a' w':=by
  intro m;induction m using Nat.strongRecOn with
  | _ m ih=>
   intro s a w hm hD;obtain ⟨e,a₁,w₁,⟨a0,hd,rfl,hq⟩,harr⟩:=round s a w hD ro ds b (.inLoop c :: k) cs hro hb hr;cases e with
   | normal=>
    obtain ⟨s',hD',hlt⟩:=hq;obtain ⟨e₂,a₂,w₂,hq₂,harr₂⟩:=ih (μ s') (hm ▸ hlt) s' a0 w₁ rfl hD';exact ⟨e₂,a₂,w₂,hq₂,.of_steps (StepsIn.trans harr (.one (fenced_calm hb hr rfl) stepR_inLoop)) harr₂⟩
   | exit id=>exact ⟨_,_,w₁,⟨a0,hd,rfl,hq⟩,.pass (x:=.inLoop c) rfl (fun _ _=>.inl (by simp)) harr⟩
   | goto l=>exact ⟨_,_,w₁,⟨a0,hd,rfl,hq⟩,.pass (x:=.inLoop c) rfl (fun _ _=>.inl (by simp)) harr⟩
   | ret=>exact ⟨_,_,w₁,⟨a0,hd,rfl,hq⟩,.pass (x:=.inLoop c) rfl (fun _ _=>.inl (by simp)) harr⟩
   | panic ch=>exact ⟨_,_,w₁,⟨a0,hd,rfl,hq⟩,.pass (x:=.inLoop c) rfl (fun _ _=>.inl (by simp)) harr⟩
   | outgrown=>exact ⟨_,_,w₁,⟨a0,hd,rfl,hq⟩,.pass (x:=.inLoop c) rfl (fun _ _=>.inl (by simp)) harr⟩
 obtain ⟨e,a',w',hq,harr⟩:=key _ s0 a w rfl h0;exact ⟨e,a',w',hq,.of_steps (.one (fenced_calm hb hr rfl) stepR_loop) harr⟩
variable {ro:Option Nat}
theorem Qa {f:FuncId} {args:Array Value} {R:Ending->World->Prop} (h:Calls P f args w R):CallsIn (gN ro) n P f args w R:=
 ⟨trivial,fun cs _=>let ⟨e,w',fr,r,s,x⟩:=h cs; ⟨e,w',fr,r,comesIn_wide.2 s,x⟩⟩
theorem XW {c:Code} (hd:a.defers=[]) (h:ku P c Q a w):c.wp P Q a w:=by
 have h1:=(wpIn_wide (n:=0)).1 (h none []);have e:iW a []=a:=by rw [iW,<- hd]
 rw [e] at h1;refine wp_mono h1 fun e a' w' ⟨a0,h0,e1,hq⟩=>?_;have e2:iW a0 []=a0:=by rw [iW,<- h0]
 rw [e1,e2]; exact hq
variable {o:Oper}
theorem acO {ρ:Operand->Value} {x:Next} {w':World} (h:(execOp ρ o).run P w = .ok x w') (hx:∀ d,x ≠ .defer d):(o.semAt ro ρ).run P w = .ok x w':=by
 rw [Oper.semAt_eq]
 ·exact h
 intro c hc;rw [execOp.eq_def,hc] at h;simp only [Sem.run_bind] at h;cases hr:(resolve ρ c o.type).run P w with
 | ok d w2=>rw [hr] at h; simp at h; exact hx _ h.1.symm
 | halt d w2=>rw [hr] at h; cases h
def WL (P:Program) (o:Oper) (a:Act) (K:Act->World->Prop):Result Next->Prop
 | .ok (.value v) w'=>K (a.put o.dst v) w'
 | .ok .skip w'=>K (a.put o.dst undef) w'
 | .ok (.enter f args) w'=>Calls P f args w' fun e w''=>∃ v,e = .returned v/\K (a.put o.dst v) w''
 | _=>False
theorem OL {K:Act->World->Prop} {r:Result Next} (h:WL P o a K r):o.uponIn (gN ro) 0 P a K Q r:=by
 cases r with
 | ok x w'=>
  cases x <;> first | exact h | exact h.elim | skip
  case enter f args=>exact ⟨(fun h=>by cases h),(Qa h).mono fun e w'' ⟨v,he,hv⟩=>by subst he; exact hv⟩
 | halt x w'=>cases x <;> exact h.elim
theorem jh {l:Array Oper} {rest:List Oper} (hg:o.guard=none) (h:∀ K:Act->World->Prop,(∀ a w,ML P l Q rest a w->K a w)->WL P o a K ((execOp a.eval o).run P w)):ML P l Q (o :: rest) a w:=fun ro ds=>
 wpListIn_plain hg fun K hK=>by
  refine ⟨fun _ _=>trivial,?_⟩;rw [oc];have h1:=h (fun a w=>ML P l Q rest a w) (fun _ _ h=>h);have hK:∀ (d:Option Tmp) (v:Value) w,ML P l Q rest (a.put d v) w->K ((iW a ds).put d v) w:=fun d v w h=>by rw [k_]; exact hK _ _ (h ro ds)
  cases hr:(execOp a.eval o).run P w with
  | ok x w'=>
   rw [hr] at h1;have hx:∀ d,x ≠ .defer d:=fun d e=>by subst e; exact h1.elim
   rw [acO hr hx];refine OL ?_;cases x <;> first | exact h1.elim | exact hK _ _ _ h1 | skip
   case enter f args=>exact ai0 h1 fun e w'' ⟨v,he,hv⟩=>⟨v,he,hK _ _ _ hv⟩
  | halt x w'=>rw [hr] at h1; exact h1.elim
end prim
def WX (Q:Exit->Act->World->Prop) (n:Nat) (e:Exit) (fr:Fr) (w:World):Prop:=∀ a,M n fr a->Q e a w
def WC (P:Program) (Q:Exit->Act->World->Prop) (n:Nat) (c:Code) (fr:Fr) (w:World):Prop:=∀ a,M n fr a->ku P c Q a w
def WO (P:Program) (Q:Exit->Act->World->Prop) (n:Nat) (l rest:List Oper) (fr:Fr) (w:World):Prop:=∀ a,M n fr a->ML P l.toArray Q rest a w
def jE (P:Program) (f:FuncId) (args:Array Value) (w:World) (φ:Value->World->Prop):Prop:=Calls P f args w fun e w'=>∃ v,e = .returned v/\φ v w'
theorem jE.mono {P:Program} {f:FuncId} {args:Array Value} {w:World} {φ ψ:Value->World->Prop} (h:jE P f args w φ) (hh:∀ v w',φ v w' -> ψ v w'):jE P f args w ψ:=
 ai0 h fun _ _ ⟨v,he,hv⟩=>⟨v,he,hh _ _ hv⟩
section rules
variable {P:Program} {Q:Exit->Act->World->Prop} {n:Nat} {fr:Fr} {w:World}
theorem WC.seq {x y:Code} (h:WC P (Exit.then (ku P y Q) Q) n x fr w):WC P Q n (.seq x y) fr w:=fun a ha=>Ub (h a ha)
theorem WC.skip (h:WX Q n .normal fr w):WC P Q n .skip fr w:=fun a ha=>Ow ha.1 (h a ha)
theorem WC.label {l:Nat} (h:WX Q n .normal fr w):WC P Q n (.label l) fr w:=fun a ha=>IV ha.1 (h a ha)
theorem WC.exit {id:Nat} (h:WX Q n (.exit id) fr w):WC P Q n (.exit id) fr w:=fun a ha=>La ha.1 (h a ha)
theorem WC.ret (h:WX Q n .ret fr w):WC P Q n .ret fr w:=fun a ha=>RB ha.1 (h a ha)
theorem WC.block {id:Nat} {c:Code} (h:WC P (Exit.inBlock id Q) n c fr w):WC P Q n (.block id c) fr w:=fun a ha=>GS (h a ha)
theorem WC.region {id:Nat} {l:List Oper} (h:WO P Q n l l fr w):WC P Q n (.region id l.toArray false) fr w:=fun a ha=>Dj (h a ha)
theorem WC.cond {c:Operand} {x y:Code} {b:Bool} (hc:ev fr c=some (.bool b)) (ht:b=true->WC P Q n x fr w) (hf:b=false->WC P Q n y fr w):WC P Q n (.cond c x y) fr w:=
 fun a ha=>rP (ha.ev hc) (fun h=>ht h a ha) (fun h=>hf h a ha)
variable {x:Code}
theorem WC.EU {c:Operand} {y:Code} (hc:ev fr c=some (.bool true)) (ht:WC P Q n x fr w):WC P Q n (.cond c x y) fr w:=
 fun a ha=>uo (ha.ev hc) (ht a ha)
theorem WC.abI {c:Operand} {y:Code} (hc:ev fr c=some (.bool false)) (hf:WC P Q n y fr w):WC P Q n (.cond c x y) fr w:=
 fun a ha=>sw (ha.ev hc) (hf a ha)
theorem WX.next {y:Code} (h:WC P Q n y fr w):WX (Exit.then (ku P y Q) Q) n .normal fr w:=h
theorem WX.lZ {k:Act->World->Prop} (h:WX Q n .ret fr w):WX (Exit.then k Q) n .ret fr w:=h
variable {id:Nat}
theorem WX.Hf (h:WX Q n .normal fr w):WX (Exit.inBlock id Q) n .normal fr w:=h
theorem WX.aaI (h:WX Q n .normal fr w):WX (Exit.inBlock id Q) n (.exit id) fr w:=fun a ha=>by
 show (if id=id then Q .normal a w else _);rw [if_pos rfl]; exact h a ha
def Has (fr:Fr):Fr->Prop
 | []=>True
 | (i,v) :: r=>(∃ u,look fr i=some u/\u=v)/\Has fr r
theorem Has.look {fr:Fr}:∀ {fr':Fr},Has fr fr' -> ∀ i v,look fr' i=some v->look fr i=some v
 | [],_,i,v,hv=>by cases hv
 | (j,u) :: r,h,i,v,hv=>by
  rw [aR] at hv;by_cases hji:j=i
  ·subst hji;rw [if_pos rfl] at hv; cases hv;obtain ⟨u',hu',rfl⟩:=h.1;exact hu'
  rw [if_neg hji] at hv; exact Has.look h.2 i v hv
variable {F:Fence} {K K':Act->World->Prop} {m:Nat} {o:Oper}
theorem Cb {Q':Exit->Act->World->Prop} (hK:∀ a w,K a w->K' a w) (hQ:∀ e a w,e ≠ .normal->Q e a w->Q' e a w) (h:o.wpIn F m P a w K Q):o.wpIn F m P a w K' Q':=by
 unfold Oper.wpIn at h ⊢;refine ⟨h.1,?_⟩;have h:=h.2;generalize (o.semAt F.round a.eval).run P w=r at *;have hE:∀ (e:Ending) (w'':World),(match e,w'' with | .returned v,w''=>K (a.put o.dst v) w'' | .panicked chain,w''=>Q (.panic chain) a w'' | .outgrown,_=>LetsOut Q) ->
   (match e,w'' with | .returned v,w''=>K' (a.put o.dst v) w'' | .panicked chain,w''=>Q' (.panic chain) a w'' | .outgrown,_=>LetsOut Q'):=fun e w'' he=>by
  cases e with
  | returned v=>exact hK _ _ he
  | panicked c=>exact hQ _ _ _ (by simp) he
  | outgrown=>obtain ⟨a',w',h'⟩:=he; exact ⟨a',w',hQ _ _ _ (by simp) h'⟩
 cases r with
 | ok x w'=>
  cases x <;> simp only [Oper.uponIn] at h ⊢ <;>
   first
    | exact hK _ _ h
    | exact ⟨h.1,CallsIn.mono h.2 hE⟩
    | exact ⟨h.1,RowsIn.mono h.2 (fun _ _ he=>hK _ _ he)⟩
    | exact ⟨h.1,RoundIn.mono h.2 hE⟩
 | halt x w'=>cases x <;> simp only [Oper.uponIn] at h ⊢ <;> exact hQ _ _ _ (by simp) h
theorem im {F:Fence} {m:Nat} {l:Array Oper} {Q':Exit->Act->World->Prop} {r2:List Oper} (hq:∀ e a w,e ≠ .normal->Q e a w->Q' e a w) (hn:∀ a w,Q .normal a w->wpListIn F m P l Q' r2 a w):∀ (rest:List Oper) {a:Act} {w:World},wpListIn F m P l Q rest a w->wpListIn F m P l Q' (rest++r2) a w
 | [],_,_,h=>hn _ _ h
 | o :: rest,a,w,h=>by
  simp only [wpListIn,List.cons_append] at h ⊢;by_cases hw:Region.wanted o (yielded l a.tmps)=true
  ·rw [if_pos hw] at h ⊢;exact Cb (fun a w h=>im hq hn rest h) hq h
  rw [if_neg hw] at h ⊢;exact ⟨h.1,im hq hn rest h.2⟩
variable {t:Nat}
theorem DQ {A:Act} (ho:∀ d,o.dst=some d->d≠t) (hK:∀ A' w',A'.tmps[t]? = A.tmps[t]? -> K A' w' -> K' A' w') (h:o.wpIn F m P A w K Q):o.wpIn F m P A w K' Q:=by
 have hp:∀ (D:List Deferred) v,(({ tmps:=A.tmps,defers:=D }:Act).put o.dst v).tmps[t]? = A.tmps[t]?:=fun D v=>by
  cases hd:o.dst with
  | none=>rfl
  | some d=>simp [Act.put,ho d hd]
 unfold Oper.wpIn at h ⊢;refine ⟨h.1,?_⟩;have h:=h.2;generalize (o.semAt F.round A.eval).run P w=r at *;have hE:∀ (e:Ending) (w'':World),(match e,w'' with | .returned v,w''=>K (A.put o.dst v) w'' | .panicked chain,w''=>Q (.panic chain) A w'' | .outgrown,_=>LetsOut Q) ->
   (match e,w'' with | .returned v,w''=>K' (A.put o.dst v) w'' | .panicked chain,w''=>Q (.panic chain) A w'' | .outgrown,_=>LetsOut Q):=fun e w'' he=>by
  cases e with
  | returned v=>exact hK _ _ (hp A.defers v) he
  | panicked c=>exact he
  | outgrown=>exact he
 cases r with
 | ok x w'=>
  cases x <;> simp only [Oper.uponIn] at h ⊢;case value u=>exact hK _ _ (hp A.defers _) h
  case skip=>exact hK _ _ (hp A.defers _) h
  case defer=>exact hK _ _ (hp _ _) h
  case enter f args=>exact ⟨h.1,CallsIn.mono h.2 hE⟩
  case row r args=>exact ⟨h.1,RowsIn.mono h.2 (fun _ _ he=>hK _ _ (hp A.defers _) he)⟩
  case round l f tmps assign body=>exact ⟨h.1,RoundIn.mono h.2 hE⟩
 | halt x w'=>cases x <;> simp only [Oper.uponIn] at h ⊢ <;> exact h
def PI (j:Nat) (wt:Bool) (o:Oper):Oper:=bif (match o.guard with | some (i,b)=>Nat.beq i j && (b == wt) | none=>false) then { o with guard:=none } else o
theorem pW {F:Fence} {m:Nat} {l:Array Oper} {j t:Nat} {wt:Bool} (hy:∀ A:Act,A.tmps[t]? = some (.bool wt)->yielded l A.tmps j=some wt) {pk mv:Oper} {tail:List Oper}
  (hpk:∀ (A:Act) (w:World),A.tmps[t]? = some (.bool wt)->wpListIn F m P l Q (mv :: tail) A w->wpListIn F m P l Q (pk :: tail) A w) :
  ∀ (grp:List Oper),(∀ o ∈ grp,∀ d,o.dst=some d->d≠t)->∀ (A:Act) (w:World),A.tmps[t]? = some (.bool wt)->wpListIn F m P l Q (grp.map (PI j wt)++mv :: tail) A w->wpListIn F m P l Q (grp++pk :: tail) A w
 | [],_,A,w,ht,h=>hpk A w ht h
 | o :: r,ho,A,w,ht,h=>by
  have ih:=pW hy hpk r fun x hx=>ho x (aa7 _ hx);have ho1:=ho o abb;rw [aeV,List.cons_append] at h;rw [List.cons_append];by_cases hg:(match o.guard with | some (i,b)=>Nat.beq i j && (b == wt) | none=>false)=true
  ·have e:PI j wt o={ o with guard:=none }:=by unfold PI; rw [hg]; rfl
   rw [e] at h;unfold wpListIn at h ⊢;have h1:Region.wanted { o with guard:=none } (yielded l A.tmps)=true:=rfl;have h2:Region.wanted o (yielded l A.tmps)=true:=by
    split at hg
    ·rename_i i b hgo;simp only [Bool.and_eq_true,ai1] at hg;have hi:=aa4 hg.1;simp [Region.wanted,hgo,hi,hg.2,hy A ht]
    cases hg
   rw [if_pos h1] at h;rw [if_pos h2];have h:o.wpIn F m P A w (wpListIn F m P l Q (r.map (PI j wt)++mv :: tail)) Q:=h;exact DQ (o:=o) (t:=t) ho1 (fun A' w' e h=>ih A' w' (e.trans ht) h) h
  have e:PI j wt o=o:=by unfold PI; rw [Bool.not_eq_true] at hg; rw [hg]; rfl
  rw [e] at h;unfold wpListIn at h ⊢;split
  ·rename_i hw;rw [if_pos hw] at h;exact DQ (o:=o) (t:=t) ho1 (fun A' w' e h=>ih A' w' (e.trans ht) h) h
  rename_i hw;rw [if_neg hw] at h;refine ⟨h.1,ih _ _ ?_ h.2⟩;cases hd:o.dst with
  | none=>exact ht
  | some d=>simp [Act.put,ho1 d hd,ht]
theorem acG {v:Value} (ha:M n fr a) (hv:look fr t=some v):a.tmps[t]? = some v:=by
 obtain ⟨h1,h2⟩:=ha.2.2 t v hv;have:t<a.tmps.size:=by rw [ha.2.1]; exact h1
 simp only [Array.getD,this,dite_true] at h2;rw [ah7 this]; exact congrArg some h2
def aD (P:Program) (n:Nat) (fr:Fr) (w:World) (op:Op) (ty:TypeId) (v:Value) (w':World):Prop:=
 ∀ a d pos af g,M n fr a->(execOp a.eval ⟨d,op,ty,pos,af,g⟩).run P w = .ok (.value v) w'
def gX (P:Program) (n:Nat) (fr:Fr) (w:World) (op:Op) (ty:TypeId) (w':World):Prop:=
 ∀ a d pos af g,M n fr a->(execOp a.eval ⟨d,op,ty,pos,af,g⟩).run P w = .ok .skip w'
def Enters (P:Program) (n:Nat) (fr:Fr) (w:World) (op:Op) (ty:TypeId) (f:FuncId) (args:Array Value):Prop:=
 ∀ a d pos af g,M n fr a->(execOp a.eval ⟨d,op,ty,pos,af,g⟩).run P w = .ok (.enter f args) w
variable {l rest:List Oper} {d:Nat} {op:Op} {ty:TypeId} {pos:String} {af:Array Edge}
theorem WO.nil (h:WX Q n .normal fr w):WO P Q n l [] fr w:=fun a ha _ _=>⟨a,ha.1,rfl,h a ha⟩
theorem WO.v {v:Value} {w':World} (h:aD P n fr w op ty v w') (hd:Nat.blt d n=true) (k:WO P Q n l rest ((d,v) :: fr) w'):WO P Q n l (⟨some d,op,ty,pos,af,none⟩ :: rest) fr w:=fun a ha=>
 jh rfl fun K hK=>by
  rw [h a _ _ _ _ ha];exact hK _ _ (k _ (ha.put hd))
variable {w':World}
theorem WO.v0 {v:Value} (h:aD P n fr w op ty v w') (k:WO P Q n l rest fr w'):WO P Q n l (⟨none,op,ty,pos,af,none⟩ :: rest) fr w:=fun a ha=>
 jh rfl fun K hK=>by
  rw [h a _ _ _ _ ha];exact hK _ _ (k _ ha)
theorem WO.s (h:gX P n fr w op ty w') (k:WO P Q n l rest fr w'):WO P Q n l (⟨none,op,ty,pos,af,none⟩ :: rest) fr w:=fun a ha=>
 jh rfl fun K hK=>by
  rw [h a _ _ _ _ ha];exact hK _ _ (k _ ha)
variable {φ:Value->World->Prop} {f:FuncId} {args:Array Value}
theorem WO.c (h:Enters P n fr w op ty f args) (hc:jE P f args w φ) (hd:Nat.blt d n=true) (k:∀ v w',φ v w' -> WO P Q n l rest ((d,v) :: fr) w') :
  WO P Q n l (⟨some d,op,ty,pos,af,none⟩ :: rest) fr w:=fun a ha=>
 jh rfl fun K hK=>by
  rw [h a _ _ _ _ ha];exact ai0 hc fun e w' ⟨v,he,hv⟩=>⟨v,he,hK _ _ (k v w' hv _ (ha.put hd))⟩
theorem WO.c0 (h:Enters P n fr w op ty f args) (hc:jE P f args w φ) (k:∀ v w',φ v w' -> WO P Q n l rest fr w') :
  WO P Q n l (⟨none,op,ty,pos,af,none⟩ :: rest) fr w:=fun a ha=>
 jh rfl fun K hK=>by
  rw [h a _ _ _ _ ha];exact ai0 hc fun e w' ⟨v,he,hv⟩=>⟨v,he,hK _ _ (k v w' hv _ ha)⟩
def idst:List Oper->Nat->Option Nat
 | [],_=>none
 | o :: _,0=>o.dst
 | _ :: r,i+1=>idst r i
theorem jK:∀ (l:List Oper) (j:Nat),idst l j=(l[j]?).bind (·.dst)
 | [],_=>rfl
 | _ :: _,0=>rfl
 | _ :: r,i+1=>jK r i
variable {b:Bool} {j:Nat}
theorem mU (ha:M n fr a) (hj:idst l j=some t) (hv:look fr t=some (.bool b)):yielded l.toArray a.tmps j=some b:=by
 obtain ⟨h1,h2⟩:=ha.2.2 t _ hv;rw [jK] at hj;have h3:a.tmps[t]? = some (.bool b):=by
  have:t<a.tmps.size:=by rw [ha.2.1]; exact h1
  simp only [Array.getD,this,dite_true] at h2;rw [ah7 this]; exact congrArg some h2
 unfold yielded;have h4:((l.toArray[j]?).bind (·.dst))=some t:=by simpa using hj
 rw [h4];simp [h3]
theorem WO.split {grp tail:List Oper} {wt:Bool} {x y:Operand} (hj:idst l j=some t) (hv:look fr t=some (.bool wt)) (hgrp:∀ o ∈ grp,∀ d,o.dst=some d->d≠t)
  (h:WO P Q n l (grp.map (PI j wt)++⟨some d,.move (cond wt x y),ty,pos,af,none⟩ :: tail) fr w):WO P Q n l (grp++⟨some d,.pick (.tmp t) x y,ty,pos,af,none⟩ :: tail) fr w:=fun a ha ro ds=>by
 have ht:=acG ha hv;refine pW (t:=t) (j:=j) (wt:=wt) (fun A hA=>?_) (fun A w hA h=>?_) grp hgrp _ _ (show (iW a ds).tmps[t]? = some (.bool wt) from ht) (h a ha ro ds)
 ·rw [jK] at hj;unfold yielded;have h4:((l.toArray[j]?).bind (·.dst))=some t:=by simpa using hj
  rw [h4];simp [hA]
 unfold wpListIn at h ⊢;have h1:Region.wanted ⟨some d,.move (cond wt x y),ty,pos,af,none⟩ (yielded l.toArray A.tmps)=true:=rfl;have h2:Region.wanted ⟨some d,.pick (.tmp t) x y,ty,pos,af,none⟩ (yielded l.toArray A.tmps)=true:=rfl;rw [if_pos h1] at h;rw [if_pos h2];unfold Oper.wpIn at h ⊢;refine ⟨fun f hf=>(by simp [Oper.about] at hf),?_⟩;have h:=h.2;rw [Oper.semAt_eq _ _ _ (fun c=>by simp)] at h ⊢;have e1:(execOp A.eval ⟨some d,.move (cond wt x y),ty,pos,af,none⟩).run P w = .ok (.value (A.eval (cond wt x y))) w:=by simp [execOp]
 have et:A.eval (.tmp t) = .bool wt:=by simp [Act.eval,hA]
 have e2:(execOp A.eval ⟨some d,.pick (.tmp t) x y,ty,pos,af,none⟩).run P w = .ok (.value (A.eval (cond wt x y))) w:=by
  cases wt <;> simp [execOp,et,asBool]
 rw [e1] at h;rw [e2];exact h
variable {b':Bool}
theorem WO.on {dst:Option Nat} (hj:idst l j=some t) (hv:look fr t=some (.bool b')) (hb:b' = b) (k:WO P Q n l (⟨dst,op,ty,pos,af,none⟩ :: rest) fr w) :
  WO P Q n l (⟨dst,op,ty,pos,af,some (j,b)⟩ :: rest) fr w:=fun a ha ro ds=>by
 have hk:=k a ha ro ds;have hy0:=mU (l:=l) ha hj hv;have hy:yielded l.toArray (iW a ds).tmps j=_:=hy0;simp only [wpListIn,Region.wanted,hy,hb,BEq.rfl,if_true] at hk ⊢;exact hk
theorem WO.off (hj:idst l j=some t) (hv:look fr t=some (.bool b')) (hb:b' = !b) (hd:Nat.blt d n=true) (k:WO P Q n l rest ((d,undef) :: fr) w) :
  WO P Q n l (⟨some d,op,ty,pos,af,some (j,b)⟩ :: rest) fr w:=fun a ha ro ds=>by
 have hk:=k _ (ha.put hd) ro ds;have hy0:=mU (l:=l) ha hj hv;have hy:yielded l.toArray (iW a ds).tmps j=_:=hy0;have hne:((some b':Option Bool) == some b)=false:=by subst hb; cases b <;> rfl
 simp only [wpListIn,Region.wanted,hy,hne,Bool.false_eq_true,if_false,k_];exact ⟨fun _ _=>trivial,hk⟩
theorem WO.adT (hj:idst l j=some t) (hv:look fr t=some (.bool b')) (hb:b' = !b) (k:WO P Q n l rest fr w) :
  WO P Q n l (⟨none,op,ty,pos,af,some (j,b)⟩ :: rest) fr w:=fun a ha ro ds=>by
 have hk:=k _ ha ro ds;have hy0:=mU (l:=l) ha hj hv;have hy:yielded l.toArray (iW a ds).tmps j=_:=hy0;have hne:((some b':Option Bool) == some b)=false:=by subst hb; cases b <;> rfl
 simp only [wpListIn,Region.wanted,hy,hne,Bool.false_eq_true,if_false,k_];exact ⟨fun _ _=>trivial,hk⟩
theorem mn (ha:M n fr a) (hj:idst l j=some t) (hv:look fr t=some undef):yielded l.toArray a.tmps j=none:=by
 obtain ⟨h1,h2⟩:=ha.2.2 t _ hv;rw [jK] at hj;have h3:a.tmps[t]? = some undef:=by
  have:t<a.tmps.size:=by rw [ha.2.1]; exact h1
  simp only [Array.getD,this,dite_true] at h2;rw [ah7 this]; exact congrArg some h2
 unfold yielded;have h4:((l.toArray[j]?).bind (·.dst))=some t:=by simpa using hj
 rw [h4];simp [h3,undef]
theorem WO.aaX (hj:idst l j=some t) (hv:look fr t=some undef) (hd:Nat.blt d n=true) (k:WO P Q n l rest ((d,undef) :: fr) w) :
  WO P Q n l (⟨some d,op,ty,pos,af,some (j,b)⟩ :: rest) fr w:=fun a ha ro ds=>by
 have hk:=k _ (ha.put hd) ro ds;have hy0:=mn (l:=l) ha hj hv;have hy:yielded l.toArray (iW a ds).tmps j=_:=hy0;have hne:((none:Option Bool) == some b)=false:=rfl;simp only [wpListIn,Region.wanted,hy,hne,Bool.false_eq_true,if_false,k_];exact ⟨fun _ _=>trivial,hk⟩
theorem WO.Vc (hj:idst l j=some t) (hv:look fr t=some undef) (k:WO P Q n l rest fr w) :
  WO P Q n l (⟨none,op,ty,pos,af,some (j,b)⟩ :: rest) fr w:=fun a ha ro ds=>by
 have hk:=k _ ha ro ds;have hy0:=mn (l:=l) ha hj hv;have hy:yielded l.toArray (iW a ds).tmps j=_:=hy0;have hne:((none:Option Bool) == some b)=false:=rfl;simp only [wpListIn,Region.wanted,hy,hne,Bool.false_eq_true,if_false,k_];exact ⟨fun _ _=>trivial,hk⟩
end rules
theorem tw:∀ (vs:List Value) (k i:Nat) (v:Value),look ((List.range' k vs.length).zip vs) i=some v->k<=i/\vs[i - k]? = some v
 | [],k,i,v,h=>by simp [look] at h
 | u :: vs,k,i,v,h=>by
  simp only [List.length_cons,aiF,ai2] at h;rw [aR] at h;by_cases hk:k=i
  ·subst hk; rw [if_pos rfl] at h; simp at h ⊢; exact h
  rw [if_neg hk] at h;obtain ⟨h1,h2⟩:=tw vs (k+1) i v h;refine ⟨by omega,?_⟩;rw [show i - k=(i - (k+1))+1 by omega];simpa using h2
def wo:Nat->List Value->Fr
 | _,[]=>[]
 | k,v :: r=>(k,v) :: wo (k+1) r
theorem tC:∀ (vs:List Value) (k:Nat),wo k vs=(List.range' k vs.length).zip vs
 | [],_=>rfl
 | v :: r,k=>by simp [wo,aiF,tC r (k+1)]
variable {P:Program} {w:World}
theorem jE.enter {f:FuncId} {fn:Func} {c:Code} {args:List Value} {φ:Value->World->Prop} {fr:Fr} (hf:P.funcs[f]? = some fn) (hb:fn.body=some c) (hn:fn.ntmps=n)
  (hle:Nat.ble args.length n=true) (hfr:wo 0 args=fr)
  (h:WC P (bodyPost P fn fun e w'=>∃ v,e = .returned v/\φ v w') n c fr w):jE P f args.toArray w φ:=by
 subst hn;have hle':args.length<=fn.ntmps:=by simpa using hle
 refine calls_of_wp hf hb (XW rfl (h _ ⟨rfl,?_,fun i v hv=>?_⟩))
 ·simp; omega
 rw [<- hfr,tC] at hv;obtain ⟨_,h2⟩:=tw args 0 i v hv;rw [Nat.sub_zero] at h2;have hi:i<args.length:=(aaj.1 h2).1;refine ⟨by omega,?_⟩;have h3:args[i]=v:=by rw [List.getElem?_eq_getElem hi] at h2; exact adt h2
 simp [Array.getD,hi,h3];omega
section ends
variable {P:Program} {fn:Func} {φ:Value->World->Prop} {n:Nat} {fr:Fr} {w:World}
theorem WX.aad (h:WX (bodyPost P fn fun e w'=>∃ v,e = .returned v/\φ v w') n .ret fr w):WX (bodyPost P fn fun e w'=>∃ v,e = .returned v/\φ v w') n .normal fr w:=h
theorem WX.KO {v:Value} (h:∀ a,M n fr a->(results fn a.tmps).run P w = .ok v w) (hφ:φ v w):WX (bodyPost P fn fun e w'=>∃ v,e = .returned v/\φ v w') n .ret fr w:=
 fun a ha=>⟨ha.1,v,h a ha,v,rfl,hφ⟩
theorem WX.abO (hr:fn.results = #[]) (hφ:φ (.tuple #[]) w):WX (bodyPost P fn fun e w'=>∃ v,e = .returned v/\φ v w') n .ret fr w:=
 WX.KO (fun a _=>by simp [results,hr]) hφ
theorem WX.zq {t:Tmp} {v:Value} (hr:fn.results = #[.tmp t]) (hv:look fr t=some v) (hφ:φ v w):WX (bodyPost P fn fun e w'=>∃ v,e = .returned v/\φ v w') n .ret fr w:=
 WX.KO (fun a ha=>by simp [results,hr,ha.at_ hv]) hφ
end ends
structure Kp (S:List Nat) (w w':World):Prop where
 os:w'.os=w.os
 tape:w'.tape=w.tape
 output:w'.output=w.output
 size:w.heap.size<=w'.heap.size
 block:∀ b,b<w.heap.size->b ∉ S->w'.heap[b]? = w.heap[b]?
theorem Kp.refl (w:World):Kp [] w w:=⟨rfl,rfl,rfl,Nat.le_refl _,fun _ _ _=>rfl⟩
theorem Kp.trans {S T:List Nat} {a b c:World} (h:Kp S a b) (k:Kp T b c):Kp (S++T) a c:=
 ⟨k.os.trans h.os,k.tape.trans h.tape,k.output.trans h.output,Nat.le_trans h.size k.size,fun i hi hn=>by
  simp only [List.mem_append,not_or] at hn;exact (k.block i (aba hi h.size) hn.2).trans (h.block i hi hn.1)⟩
variable {S T:List Nat} {b:World}
theorem Kp.sub {a:World} (h:Kp S a b) (hs:∀ g ∈ S,g ∈ T):Kp T a b:=
 ⟨h.os,h.tape,h.output,h.size,fun i hi hn=>h.block i hi fun hm=>hn (hs i hm)⟩
theorem Kp.step {a c:World} (h:Kp S a b) (k:Kp T b c) (hS:∀ g ∈ T,g ∈ S\/a.heap.size<=g):Kp S a c:=
 ⟨k.os.trans h.os,k.tape.trans h.tape,k.output.trans h.output,Nat.le_trans h.size k.size,fun i hi hn=>(k.block i (aba hi h.size) fun hm=>by
  rcases hS i hm with h1 | h1
  ·exact hn h1
  omega).trans (h.block i hi hn)⟩
variable {w':World}
theorem Kp.below (h:Kp [] w w'):Below w.heap.size w w':=⟨h.os,h.tape,h.output,h.size,fun b hb=>h.block b hb (by simp)⟩
theorem Kp.drew {S:List Nat} {a w:World} (h:Kp S a w):Kp S a w.drew:=⟨h.os,h.tape,h.output,h.size,h.block⟩
theorem Kp.alloc (w:World) (o:Obj):Kp [] w (w.alloc o):=⟨rfl,rfl,rfl,by simp,fun b hb _=>Below.heap_alloc w o b hb⟩
theorem Kp.GY (h:w.grownBy w' none):Kp [] w w':=⟨h.os,h.tape,h.output,h.size,fun b hb _=>h.block b hb (by simp)⟩
section
variable {w w':World} {g:Nat} {t:TypeId} {cs:List Value}
end
theorem Kp.setRow (w:World) (g:Nat) (cs:Array Value):Kp [g] w (w.setRow g cs):=⟨rfl,rfl,rfl,by simp,fun b _ hn=>setRow_other w g b cs (by simpa using hn)⟩
def CellsAt (w:World) (a:Addr) (cs:List Value):Prop:=∀ j v,cs[j]? = some v->w.cell? (a.add j)=some v
theorem add_add (a:Addr) (i j:Nat):(a.add i).add j=a.add (i+j):=by
 unfold Addr.add;by_cases hi:i=0 <;> by_cases hj:j=0 <;> simp [hi,hj,Nat.add_assoc]
theorem fY (a:Addr) (n:Nat):(a.add n).block=a.block:=by unfold Addr.add; split <;> rfl
theorem add_lit (g i j:Nat):(⟨g,i,none⟩:Addr).add j=⟨g,i+j,none⟩:=by unfold Addr.add; split <;> simp_all
section
variable {w w':World} {a:Addr} {cs:List Value}
theorem CellsAt.keep (h:CellsAt w a cs) (k:w'.heap[a.block]? = w.heap[a.block]?):CellsAt w' a cs:=fun j v hv=>by
 exact (World.cell?_of_block (a:=a.add j) (by rw [fY]; exact k)).trans (h j v hv)
theorem CellsAt.shift (h:CellsAt w a cs) (i:Nat):CellsAt w (a.add i) (cs.drop i):=fun j v hv=>by
 rw [add_add]; exact h _ _ (by rw [<- hv,List.getElem?_drop])
theorem CellsAt.take (h:CellsAt w a cs) (i:Nat):CellsAt w a (cs.take i):=fun j v hv=>h j v (by
 rw [aes] at hv; split at hv
 ·exact hv
 cases hv)
theorem CellsAt.one (h:CellsAt w a cs) {j:Nat} {v:Value} (hv:cs[j]? = some v):w.cell? (a.add j)=some v:=h j v hv
theorem CellsAt.nil:CellsAt w a []:=fun j v hv=>by simp at hv
end
def I64 (n:Int):Prop:=-9223372036854775808<=n/\n<=9223372036854775807
inductive All2 {α β:Type} (R:α->β->Prop):List α->List β->Prop
 | nil:All2 R [] []
 | cons {a:α} {b:β} {asx:List α} {bs:List β}:R a b->All2 R asx bs->All2 R (a :: asx) (b :: bs)
section
variable {α β:Type} {R R':α->β->Prop}
theorem All2.imp {asx:List α} {bs:List β} (h:All2 R asx bs) (hh:∀ a b,R a b->R' a b):All2 R' asx bs:=by
 induction h with
 | nil=>exact .nil
 | cons h _ ih=>exact .cons (hh _ _ h) ih
theorem All2.length {asx:List α} {bs:List β} (h:All2 R asx bs):asx.length=bs.length:=by
 induction h with
 | nil=>rfl
 | cons _ _ ih=>simp [ih]
theorem All2.get {asx:List α} {bs:List β} (h:All2 R asx bs):∀ (i:Nat) (b:β),bs[i]? = some b->∃ a,asx[i]? = some a/\R a b:=by
 induction h with
 | nil=>intro i b hb; simp at hb
 | cons h _ ih=>
  intro i b hb;cases i with
  | zero=>simp at hb; subst hb; exact ⟨_,rfl,h⟩
  | succ i=>simpa using ih i b (by simpa using hb)
theorem All2.append {asx asx':List α} {bs bs':List β} (h:All2 R asx bs) (h':All2 R asx' bs'):All2 R (asx++asx') (bs++bs'):=by
 induction h with
 | nil=>exact h'
 | cons h _ ih=>exact .cons h ih
theorem All2.take {asx:List α} {bs:List β} (h:All2 R asx bs):∀ n,All2 R (asx.take n) (bs.take n):=by
 induction h with
 | nil=>intro n; simp; exact .nil
 | cons h _ ih=>intro n; cases n with
  | zero=>exact .nil
  | succ n=>exact .cons h (ih n)
theorem All2.drop {asx:List α} {bs:List β} (h:All2 R asx bs):∀ n,All2 R (asx.drop n) (bs.drop n):=by
 induction h with
 | nil=>intro n; simp; exact .nil
 | cons h hh ih=>intro n; cases n with
  | zero=>exact .cons h hh
  | succ n=>exact ih n
theorem All2.set {asx:List α} {bs:List β} (h:All2 R asx bs):∀ (i:Nat) {a:α} {b:β},R a b->All2 R (asx.set i a) (bs.set i b):=by
 induction h with
 | nil=>intro i a b _; exact .nil
 | cons h hh ih=>intro i a b hr; cases i with
  | zero=>exact .cons hr hh
  | succ i=>exact .cons h (ih i hr)
end
class Rp (α:Type) where
 sz:Nat
 by_:Nat                        -- how many bytes an element of a slice takes
 tid:TypeId
 rp:Bool->Nat->Nat->World->List Value->α->Prop
 len:∀ {o lo hi w cs x},rp o lo hi w cs x->cs.length=sz
 one:∀ {o lo hi w cs x},rp o lo hi w cs x->∀ u ∈ cs,u.oneCell' = true
 keep:∀ {o lo hi w w' cs x},rp o lo hi w cs x->(∀ b,lo<=b->b<hi->w'.heap[b]? = w.heap[b]?)->rp o lo hi w' cs x
 mono:∀ {o lo hi lo' hi' w cs x},rp o lo hi w cs x->lo' <= lo->hi<=hi' -> rp o lo' hi' w cs x
 weak:∀ {o lo hi w cs x},rp o lo hi w cs x->rp false lo hi w cs x
 inner:List TypeId              -- of the rows inside
 mrk:Nat × Nat->Prop:=fun fr=>fr=(0,0)   -- the marks that a row of these may bear
 mrk0:mrk (0,0):=by exact rfl
 keepT:∀ {o lo hi w w' cs x},rp o lo hi w cs x->(inner=[]\/o=true)->(∀ b cur t fr,lo<=b->b<hi->w.heap[b]? = some (.cells cur t fr)->t ∈ inner->w'.heap[b]? = w.heap[b]?)->rp o lo hi w' cs x
def Sl {α:Type} [Rp α] (o:Bool) (lo hi:Nat) (w:World) (v:Value) (xs:List α):Prop:=
 ∃ a c css,v = .slice a xs.length c/\xs.length<=c/\(c<=maxLen/\xs.length*Rp.by_ α<=140737488355328)/\All2 (Rp.rp o lo hi w) css xs /\
  (xs=[]\/∃ A:Addr,a=some A/\lo<=A.block/\A.block<hi/\CellsAt w A css.flatten) /\
  (o=true->c=0\/∃ g cur fr,a=some ⟨g,0,none⟩/\lo<=g/\g<hi/\(w.heap[g]? = some (.cells cur (Rp.tid α) fr)/\Rp.mrk α fr)/\cur.size=c*Rp.sz α)
section
variable {α:Type} [Rp α] {o:Bool} {lo hi:Nat} {w w':World} {v:Value} {xs:List α}
theorem Sl.keep (h:Sl o lo hi w v xs) (k:∀ b,lo<=b->b<hi->w'.heap[b]? = w.heap[b]?):Sl o lo hi w' v xs:=by
 obtain ⟨a,c,css,hv,h1,h2,h3,h4,h5⟩:=h;refine ⟨a,c,css,hv,h1,h2,h3.imp fun _ _ h=>Rp.keep h k,?_,fun ho=>?_⟩
 ·rcases h4 with h4 | ⟨A,hA,hlo,hhi,hc⟩
  ·exact .inl h4
  exact .inr ⟨A,hA,hlo,hhi,hc.keep (k _ hlo hhi)⟩
 rcases h5 ho with h5 | ⟨g,cur,fr,hg,hlo,hhi,hh,hs⟩
 ·exact .inl h5
 exact .inr ⟨g,cur,fr,hg,hlo,hhi,⟨(k g hlo hhi).trans hh.1,hh.2⟩,hs⟩
theorem Sl.mono {lo' hi':Nat} (h:Sl o lo hi w v xs) (h1:lo' <= lo) (h2:hi<=hi'):Sl o lo' hi' w v xs:=by
 obtain ⟨a,c,css,hv,ha,hb,h3,h4,h5⟩:=h;refine ⟨a,c,css,hv,ha,hb,h3.imp fun _ _ h=>Rp.mono h h1 h2,?_,fun ho=>?_⟩
 ·rcases h4 with h4 | ⟨A,hA,hlo,hhi,hc⟩
  ·exact .inl h4
  exact .inr ⟨A,hA,by omega,by omega,hc⟩
 rcases h5 ho with h5 | ⟨g,cur,fr,hg,hlo,hhi,hh,hs⟩
 ·exact .inl h5
 exact .inr ⟨g,cur,fr,hg,by omega,by omega,hh,hs⟩
theorem Sl.weak (h:Sl o lo hi w v xs):Sl false lo hi w v xs:=by
 obtain ⟨a,c,css,hv,h1,h2,h3,h4,_⟩:=h;exact ⟨a,c,css,hv,h1,h2,h3.imp fun _ _ h=>Rp.weak h,h4,fun ho=>by cases ho⟩
theorem Sl.keepT (h:Sl true lo hi w v xs) (k:∀ b cur t fr,lo<=b->b<hi->w.heap[b]? = some (.cells cur t fr)->t ∈ Rp.tid α :: Rp.inner α->w'.heap[b]? = w.heap[b]?):Sl true lo hi w' v xs:=by
 obtain ⟨a,c,css,hv,h1,h2,h3,h4,h5⟩:=h;refine ⟨a,c,css,hv,h1,h2,h3.imp fun _ _ h=>Rp.keepT h (.inr rfl) fun b cur t fr a1 a2 a3 a4=>k b cur t fr a1 a2 a3 (aa7 _ a4),?_,fun _=>?_⟩
 ·rcases h4 with h4 | ⟨A,hA,hlo,hhi,hc⟩
  ·exact .inl h4
  refine .inr ⟨A,hA,hlo,hhi,?_⟩;rcases h5 rfl with ha | ⟨g,cur,fr,hg,hlo',hhi',hh,hs⟩
  ·have hx:xs=[]:=aa9 (by omega);subst hx;cases h3;exact CellsAt.nil
  rw [hA] at hg;cases hg;exact hc.keep (k _ _ _ _ hlo' hhi' hh.1 (by simp))
 rcases h5 rfl with h5 | ⟨g,cur,fr,hg,hlo,hhi,hh,hs⟩
 ·exact .inl h5
 exact .inr ⟨g,cur,fr,hg,hlo,hhi,⟨(k g _ _ _ hlo hhi hh.1 (by simp)).trans hh.1,hh.2⟩,hs⟩
theorem Sl.form (h:Sl o lo hi w v xs):∃ a c,v = .slice a xs.length c/\xs.length<=c/\c<=maxLen:=by
 obtain ⟨a,c,css,hv,h1,h2,_⟩:=h;exact ⟨a,c,hv,h1,h2.1⟩
theorem Sl.one (h:Sl o lo hi w v xs):v.oneCell' = true:=by
 obtain ⟨a,c,rfl,_⟩:=h.form;rfl
end
instance:Rp Int where
 sz:=1
 by_:=8
 tid:=3
 rp _ _ _ _ cs x:=cs=[.int .i64 x]/\I64 x
 len h:=by rw [h.1]; rfl
 one h:=by rw [h.1]; simp [Value.oneCell']
 keep h _:=h
 mono h _ _:=h
 weak h:=h
 inner:=[]
 keepT h _ _:=h
instance:Rp Bool where
 sz:=1
 by_:=1
 tid:=4
 rp _ _ _ _ cs x:=cs=[.bool x]
 len h:=by rw [h]; rfl
 one h:=by rw [h]; simp [Value.oneCell']
 keep h _:=h
 mono h _ _:=h
 weak h:=h
 inner:=[]
 keepT h _ _:=h
instance:Rp UInt8 where
 sz:=1
 by_:=1
 tid:=5
 rp _ _ _ _ cs x:=cs=[.int .u8 x.toNat]
 len h:=by rw [h]; rfl
 one h:=by rw [h]; simp [Value.oneCell']
 keep h _:=h
 mono h _ _:=h
 weak h:=h
 mrk _:=True
 mrk0:=trivial
 inner:=[]
 keepT h _ _:=h
structure U64 where
 n:Nat
deriving DecidableEq
instance:Rp U64 where
 sz:=1
 by_:=8
 tid:=173
 rp _ _ _ _ cs x:=cs=[.int .u64 x.n]/\x.n<18446744073709551616
 len h:=by rw [h.1]; rfl
 one h:=by rw [h.1]; simp [Value.oneCell']
 keep h _:=h
 mono h _ _:=h
 weak h:=h
 inner:=[]
 keepT h _ _:=h
structure Str where
 b:List UInt8
deriving DecidableEq
def Str.val (s:Str):Value:=.string ⟨s.b.toArray⟩
instance:Rp Str where
 sz:=1
 by_:=16
 tid:=9
 rp _ _ _ _ cs x:=cs=[x.val]/\x.b.length<=140737488355328
 len h:=by rw [h.1]; rfl
 one h:=by rw [h.1]; simp [Value.oneCell',Str.val]
 keep h _:=h
 mono h _ _:=h
 weak h:=h
 inner:=[]
 keepT h _ _:=h
instance (priority:=low) listRp {α:Type} [Rp α]:Rp (List α) where
 sz:=1
 by_:=24
 tid:=0
 rp o lo hi w cs xs:=∃ v,cs=[v]/\Sl o lo hi w v xs
 len h:=by obtain ⟨v,rfl,_⟩:=h; rfl
 one h:=by obtain ⟨v,rfl,h⟩:=h; simp [h.one]
 keep h k:=by obtain ⟨v,rfl,h⟩:=h; exact ⟨v,rfl,h.keep k⟩
 mono h h1 h2:=by obtain ⟨v,rfl,h⟩:=h; exact ⟨v,rfl,h.mono h1 h2⟩
 weak h:=by obtain ⟨v,rfl,h⟩:=h; exact ⟨v,rfl,h.weak⟩
 inner:=Rp.tid α :: Rp.inner α
 keepT h ho k:=by
  obtain ⟨v,rfl,h⟩:=h
  have ho':=ho.resolve_left (by simp)
  subst ho'
  exact ⟨v,rfl,h.keepT k⟩
instance pairRp {α β:Type} [Rp α] [Rp β]:Rp (α × β) where
 by_:=0
 sz:=Rp.sz α+Rp.sz β
 tid:=0
 rp o lo hi w cs x:=∃ c1 c2,cs=c1++c2/\Rp.rp o lo hi w c1 x.1/\Rp.rp o lo hi w c2 x.2
 len h:=by obtain ⟨c1,c2,rfl,h1,h2⟩:=h; rw [List.length_append,Rp.len h1,Rp.len h2]
 one h:=by
  obtain ⟨c1,c2,rfl,h1,h2⟩:=h
  intro u hu
  rcases List.mem_append.1 hu with hu | hu
  ·exact Rp.one h1 u hu
  ·exact Rp.one h2 u hu
 keep h k:=by obtain ⟨c1,c2,rfl,h1,h2⟩:=h; exact ⟨c1,c2,rfl,Rp.keep h1 k,Rp.keep h2 k⟩
 mono h ha hb:=by obtain ⟨c1,c2,rfl,h1,h2⟩:=h; exact ⟨c1,c2,rfl,Rp.mono h1 ha hb,Rp.mono h2 ha hb⟩
 weak h:=by obtain ⟨c1,c2,rfl,h1,h2⟩:=h; exact ⟨c1,c2,rfl,Rp.weak h1,Rp.weak h2⟩
 inner:=Rp.inner α++Rp.inner β
 keepT h ho k:=by
  obtain ⟨c1,c2,rfl,h1,h2⟩:=h
  exact ⟨c1,c2,rfl,Rp.keepT h1 (ho.imp (fun h=>(List.append_eq_nil_iff.1 h).1) id) fun b cur t fr a1 a2 a3 a4=>k b cur t fr a1 a2 a3 (abc _ a4),
   Rp.keepT h2 (ho.imp (fun h=>(List.append_eq_nil_iff.1 h).2) id) fun b cur t fr a1 a2 a3 a4=>k b cur t fr a1 a2 a3 (acV _ a4)⟩
section
variable {α:Type} [Rp α] {o:Bool} {lo hi:Nat} {w w':World} {cs:List Value} {x:α}
variable {v:Value} {xs:List α}
end
theorem I64.wrap {x:Int} (h:I64 x):IntKind.i64.wrap x=x:=IntWalk.i64_in x ⟨h.1,h.2⟩
variable {m:Nat}
theorem Db (h:m<256):IntKind.u8.wrap (m:Int)=m:=by
 simp only [IntKind.wrap,IntKind.bits,IntKind.signed];simp;omega
section
variable {P:Program} {n:Nat} {fr:Fr} {w:World} {x y z:Operand} {ty t t':TypeId}
theorem R.move {v:Value} (hx:ev fr x=some v):aD P n fr w (.move x) ty v w:=fun a _ _ _ _ ha=>by simp [execOp,ha.ev hx]
theorem R.assign {v:Value} (hx:ev fr x=some v):aD P n fr w (.assign x) ty v w:=fun a _ _ _ _ ha=>by simp [execOp,ha.ev hx]
variable {b:Bool}
theorem R.zM {v:Value} (hc:ev fr z=some (.bool b)) (hb:b=true) (hx:ev fr x=some v):aD P n fr w (.pick z x y) ty v w:=fun a _ _ _ _ ha=>by
 subst hb; simp [execOp,ha.ev hc,ha.ev hx,asBool]
theorem R.BM {v:Value} (hc:ev fr z=some (.bool b)) (hb:b=false) (hy:ev fr y=some v):aD P n fr w (.pick z x y) ty v w:=fun a _ _ _ _ ha=>by
 subst hb; simp [execOp,ha.ev hc,ha.ev hy,asBool]
theorem R.not {b:Bool} (hx:ev fr x=some (.bool b)):aD P n fr w (.unOp .not t x) ty (.bool (!b)) w:=fun a _ _ _ _ ha=>by
 simp [execOp,ha.ev hx,Op.unary]
section ints
variable {k:IntKind} {a b:Int}
theorem R.lss (hx:ev fr x=some (.int k a)) (hy:ev fr y=some (.int k b)):aD P n fr w (.binOp .lss t x y t') ty (.bool (decide (a<b))) w:=fun _ _ _ _ _ ha=>by
 simp [execOp,ha.ev hx,ha.ev hy,eqGuard_lss,binOp_lss]
theorem R.leq (hx:ev fr x=some (.int k a)) (hy:ev fr y=some (.int k b)):aD P n fr w (.binOp .leq t x y t') ty (.bool (decide (a<=b))) w:=fun _ _ _ _ _ ha=>by
 simp [execOp,ha.ev hx,ha.ev hy,eqGuard_leq,binOp_leq]
theorem R.gtr (hx:ev fr x=some (.int k a)) (hy:ev fr y=some (.int k b)):aD P n fr w (.binOp .gtr t x y t') ty (.bool (decide (b<a))) w:=fun _ _ _ _ _ ha=>by
 simp [execOp,ha.ev hx,ha.ev hy,eqGuard_gtr,binOp_gtr]
theorem R.geq (hx:ev fr x=some (.int k a)) (hy:ev fr y=some (.int k b)):aD P n fr w (.binOp .geq t x y t') ty (.bool (decide (b<=a))) w:=fun _ _ _ _ _ ha=>by
 simp [execOp,ha.ev hx,ha.ev hy,eqGuard_geq,binOp_geq]
theorem R.eql (hx:ev fr x=some (.int k a)) (hy:ev fr y=some (.int k b)):aD P n fr w (.binOp .eql t x y t') ty (.bool (decide (a=b))) w:=fun _ _ _ _ _ ha=>by
 simp [execOp,ha.ev hx,ha.ev hy,eqGuard_at_int,binOp_eql]; rfl
theorem R.neq (hx:ev fr x=some (.int k a)) (hy:ev fr y=some (.int k b)):aD P n fr w (.binOp .neq t x y t') ty (.bool (!decide (a=b))) w:=fun _ _ _ _ _ ha=>by
 simp [execOp,ha.ev hx,ha.ev hy,eqGuard_at_int,binOp_neq]; rfl
theorem R.UD (hx:ev fr x=some (.int k a)) (hy:ev fr y=some (.int k b)):aD P n fr w (.binOp .add t x y t') ty (.int k (k.wrap (a+b))) w:=fun _ _ _ _ _ ha=>by
 simp [execOp,ha.ev hx,ha.ev hy,eqGuard_add,binOp_add,Op.intArith]
theorem R.abv (hx:ev fr x=some (.int k a)) (hy:ev fr y=some (.int k b)):aD P n fr w (.binOp .sub t x y t') ty (.int k (k.wrap (a - b))) w:=fun _ _ _ _ _ ha=>by
 simp [execOp,ha.ev hx,ha.ev hy,eqGuard_sub,binOp_sub,Op.intArith]
theorem R.acS (hx:ev fr x=some (.int k a)) (hy:ev fr y=some (.int k b)):aD P n fr w (.binOp .mul t x y t') ty (.int k (k.wrap (a*b))) w:=fun _ _ _ _ _ ha=>by
 simp [execOp,ha.ev hx,ha.ev hy,eqGuard_mul,binOp_mul,Op.intArith]
theorem R.add (hx:ev fr x=some (.int .i64 a)) (hy:ev fr y=some (.int .i64 b)) (h:I64 (a+b)):aD P n fr w (.binOp .add t x y t') ty (.int .i64 (a+b)) w:=by
 have:=R.UD (P:=P) (n:=n) (w:=w) (ty:=ty) (t:=t) (t':=t') hx hy;rwa [h.wrap] at this
theorem R.sub (hx:ev fr x=some (.int .i64 a)) (hy:ev fr y=some (.int .i64 b)) (h:I64 (a - b)):aD P n fr w (.binOp .sub t x y t') ty (.int .i64 (a - b)) w:=by
 have:=R.abv (P:=P) (n:=n) (w:=w) (ty:=ty) (t:=t) (t':=t') hx hy;rwa [h.wrap] at this
theorem R.mul (hx:ev fr x=some (.int .i64 a)) (hy:ev fr y=some (.int .i64 b)) (h:I64 (a*b)):aD P n fr w (.binOp .mul t x y t') ty (.int .i64 (a*b)) w:=by
 have:=R.acS (P:=P) (n:=n) (w:=w) (ty:=ty) (t:=t) (t':=t') hx hy;rwa [h.wrap] at this
variable {d:TypeDesc}
theorem R.conv {k':IntKind} (hx:ev fr x=some (.int k a)) (hs:P.underlying t=some d) (hd:P.underlying t' = some (.int k')):aD P n fr w (.convert t t' x) ty (.int k' (k'.wrap a)) w:=fun _ _ _ _ _ ha=>by
 simp [execOp,ha.ev hx,convert,run_underlying hs,run_underlying hd,Conv.intToInt]
variable {asx:Array TypeId}
theorem R.min2 (hx:ev fr x=some (.int k a)) (hy:ev fr y=some (.int k b)):aD P n fr w (.call { callee:=.builtin .min,args:=#[x,y],argTypes:=asx }) ty (.int k (min a b)) w:=fun _ _ _ _ _ ha=>by
 simp [execOp,resolve,invoke,builtin,ha.ev hx,ha.ev hy,run_min_int2];split <;> omega
theorem R.max2 (hx:ev fr x=some (.int k a)) (hy:ev fr y=some (.int k b)):aD P n fr w (.call { callee:=.builtin .max,args:=#[x,y],argTypes:=asx }) ty (.int k (max a b)) w:=fun _ _ _ _ _ ha=>by
 simp [execOp,resolve,invoke,builtin,ha.ev hx,ha.ev hy,run_max_int2];split <;> omega
variable {a b:Nat}
theorem R.nB (hx:ev fr x=some (.int .i64 (a:Int))) (hy:ev fr y=some (.int .i64 (b:Int))) (h:a+b<=9223372036854775807):aD P n fr w (.binOp .add t x y t') ty (.int .i64 ((a+b:Nat):Int)) w:=by
 have:=R.add (P:=P) (n:=n) (w:=w) (ty:=ty) (t:=t) (t':=t') hx hy ⟨by omega,by omega⟩;simpa using this
theorem R.ab9 (hx:ev fr x=some (.int .i64 (a:Int))) (hy:ev fr y=some (.int .i64 (b:Int))) (h:b<=a) (ha:a<=9223372036854775807):aD P n fr w (.binOp .sub t x y t') ty (.int .i64 ((a - b:Nat):Int)) w:=by
 have:=R.sub (P:=P) (n:=n) (w:=w) (ty:=ty) (t:=t) (t':=t') hx hy ⟨by omega,by omega⟩;rw [show ((a - b:Nat):Int)=(a:Int) - b by omega]; exact this
theorem R.Tb (hx:ev fr x=some (.int k (a:Int))) (hy:ev fr y=some (.int k (b:Int))) (hb:0<b):aD P n fr w (.binOp .rem t x y t') ty (.int k ((a % b:Nat):Int)) w:=fun _ _ _ _ _ ha=>by
 have hb':¬ b=0:=by omega
 have e:(a:Int).tmod b=((a % b:Nat):Int):=by rw [Int.tmod_eq_emod_of_nonneg (by omega)]; omega
 simp [execOp,ha.ev hx,ha.ev hy,eqGuard_rem,binOp_rem,Op.intDiv,hb',e]
theorem R.Tx (hx:ev fr x=some (.int k (a:Int))) (hy:ev fr y=some (.int k (b:Int))) (hb:0<b) (hw:k.wrap ((a / b:Nat):Int)=((a / b:Nat):Int)):aD P n fr w (.binOp .quo t x y t') ty (.int k ((a / b:Nat):Int)) w:=fun _ _ _ _ _ ha=>by
 have hb':¬ b=0:=by omega
 have e:(a:Int).tdiv b=((a / b:Nat):Int):=by rw [aiP (by omega)]; omega
 simp [execOp,ha.ev hx,ha.ev hy,eqGuard_quo,binOp_quo,Op.intDiv,hb',e];simpa using hw
variable {b:UInt8}
theorem R.aab (hx:ev fr x=some (.int .u8 (b.toNat:Int))) (hs:P.underlying t=some d) (hd:P.underlying t' = some (.int .i64)):aD P n fr w (.convert t t' x) ty (.int .i64 (b.toNat:Int)) w:=by
 have:=R.conv (P:=P) (n:=n) (w:=w) (ty:=ty) hx hs hd
 have hb:=b.toNat_lt;rwa [I64.wrap ⟨by omega,by omega⟩] at this
theorem R.ady {a:UInt8} (hx:ev fr x=some (.int .u8 (a.toNat:Int))) (hy:ev fr y=some (.int .u8 (b.toNat:Int))):aD P n fr w (.binOp .and t x y t') ty (.int .u8 ((a &&& b).toNat:Int)) w:=fun _ _ _ _ _ ha=>by
 have e:bits .and .u8 (a.toNat:Int) (b.toNat:Int)=((a &&& b).toNat:Int):=by
  have h1:∀ c:UInt8,(BitVec.ofInt 8 (c.toNat:Int))=c.toBitVec:=fun c=>by
   rw [BitVec.ofInt_natCast]; exact BitVec.eq_of_toNat_eq (by simp)
  show IntKind.u8.wrap ((BitVec.ofInt 8 (a.toNat:Int) &&& BitVec.ofInt 8 (b.toNat:Int)).toNat:Int)=_;rw [h1,h1,<- UInt8.toBitVec_and];have:=(a &&& b).toNat_lt;exact Db this
 simp [execOp,ha.ev hx,ha.ev hy,eqGuard_and,binOp_and,intBits_and,e]
end ints
variable {a:Bool}
theorem R.afY (hx:ev fr x=some (.bool a)) (hy:ev fr y=some (.bool b)) (ht:P.underlying t=some .bool):aD P n fr w (.binOp .eql t x y t') ty (.bool (a == b)) w:=fun _ _ _ _ _ ha=>by
 simp [execOp,ha.ev hx,ha.ev hy,eqGuard_at_bool,run_eql_bool _ _ _ _ ht]
theorem R.ahN (hx:ev fr x=some (.bool a)) (hy:ev fr y=some (.bool b)) (ht:P.underlying t=some .bool):aD P n fr w (.binOp .neq t x y t') ty (.bool (!(a == b))) w:=fun _ _ _ _ _ ha=>by
 simp [execOp,ha.ev hx,ha.ev hy,eqGuard_at_bool,run_neq_bool _ _ _ _ ht]
variable {a b:Str}
theorem R.ahQ (hx:ev fr x=some a.val) (hy:ev fr y=some b.val):aD P n fr w (.binOp .eql t x y t') ty (.bool (decide (a=b))) w:=fun _ _ _ _ _ ha=>by
 have e:(a.b == b.b)=decide (a=b):=by
  rw [aiC];cases a; cases b; simp
 simp [execOp,ha.ev hx,ha.ev hy,Str.val,eqGuard_at_string,binOp,Op.stringOp,e]
theorem R.afw (hx:ev fr x=some a.val) (hy:ev fr y=some b.val):aD P n fr w (.binOp .neq t x y t') ty (.bool (!decide (a=b))) w:=fun _ _ _ _ _ ha=>by
 have e:(a.b == b.b)=decide (a=b):=by
  rw [aiC];cases a; cases b; simp
 simp [execOp,ha.ev hx,ha.ev hy,Str.val,eqGuard_at_string,binOp,Op.stringOp,e]
theorem R.extract {vs:Array Value} {v:Value} {i:Nat} (hx:ev fr x=some (.tuple vs)) (hi:vs[i]? = some v):aD P n fr w (.extract x i) ty v w:=fun _ _ _ _ _ ha=>by
 simp [execOp,ha.ev hx,Instr.extract,hi]
theorem R.pj {a:Addr} (hx:ev fr x=some (.pointer (some a))):aD P n fr w (.nilCheck x) ty (.pointer (some a)) w:=fun _ _ _ _ _ ha=>by
 simp [execOp,ha.ev hx]
theorem R.GQ {f:FuncId} {a c:Array Value} (hx:ev fr x=some (.func (.func f) a c)):aD P n fr w (.nilCheck x) ty (.func (.func f) a c) w:=fun _ _ _ _ _ ha=>by
 simp [execOp,ha.ev hx]
theorem R.makeFunc {f:FuncId} {caps:Array Operand} {cv:Array Value} (h:∀ a,M n fr a->caps.map a.eval=cv):aD P n fr w (.makeFunc (.func f) #[] caps) ty (.func (.func f) #[] cv) w:=fun _ _ _ _ _ ha=>by
 simp [execOp,Instr.makeFunc,h _ ha]
theorem R.len {a:Option Addr} {m c:Nat} {e:TypeId} (hx:ev fr x=some (.slice a m c)) (ht:P.underlying t=some (.slice e)):aD P n fr w (.call { callee:=.builtin .len,args:=#[x],argTypes:=#[t] }) ty (.int .i64 (m:Int)) w:=fun _ _ _ _ _ ha=>by
 simp [execOp,resolve,invoke,builtin,ha.ev hx,Builtin.len_,run_underlying ht,goInt]
theorem R.ahW {s:Str} (hx:ev fr x=some s.val) (ht:P.underlying t=some .string):aD P n fr w (.call { callee:=.builtin .len,args:=#[x],argTypes:=#[t] }) ty (.int .i64 (s.b.length:Int)) w:=fun _ _ _ _ _ ha=>by
 simp [execOp,resolve,invoke,builtin,ha.ev hx,Str.val,Builtin.len_,run_underlying ht,goInt];rfl
variable {e:TypeId} {a:Option Addr}
theorem R.Po {c:Nat} (hx:ev fr x=some (.slice a m c)) (hy:ev fr y=some (.slice none 0 0)) (ht:P.underlying t=some (.slice e)):aD P n fr w (.binOp .eql t x y t') ty (.bool a.isNone) w:=fun _ _ _ _ _ ha=>by
 simp [execOp,ha.ev hx,ha.ev hy,eqGuard_at_slice,Lib.run_eql_slice_nil w t e a m c 0 0 ht]
theorem R.Mc {c:Nat} (hx:ev fr x=some (.slice a m c)) (hy:ev fr y=some (.slice none 0 0)) (ht:P.underlying t=some (.slice e)):aD P n fr w (.binOp .neq t x y t') ty (.bool (!a.isNone)) w:=fun _ _ _ _ _ ha=>by
 simp [execOp,ha.ev hx,ha.ev hy,eqGuard_at_slice,run_neq_slice_nil_any w t e a m c 0 0 ht]
theorem R.build {parts:Array (Nat × Operand)} {pv:List (Nat × Value)} {cells:Array Value} (hp:∀ a,M n fr a->(parts.map fun p=>(p.1,a.eval p.2))=pv.toArray) (hb:P.built t pv=some cells) :
  aD P n fr w (.build t parts) ty (.agg cells) w:=fun _ _ _ _ _ ha=>by
 have h1:=run_build (P:=P) w t pv.toArray cells (by simpa using hb);simp [execOp,hp _ ha,h1]
def ko:TypeDesc->Bool | .struct _=>true | .array _ _=>true | _=>false
variable {d:TypeDesc}
theorem lK (hu:P.underlying t=some d) (w:World):(isAgg t).run P w = .ok (ko d) w:=by
 unfold isAgg;rw [Sem.run_bind,run_underlying hu w];cases d <;> rfl
variable {a:Addr}
theorem Br {v:Value} (hu:P.underlying t=some d) (hd:ko d=false) (hc:w.cell? a=some v):(loadVar t a).run P w = .ok v w:=by
 simp [loadVar,lK hu,hd,hc]
variable {cs:List Value}
theorem Bc (hu:P.underlying t=some d) (hd:ko d=true) (hi:(P.info? t).map (·.size)=some cs.length) (hc:CellsAt w a cs):(loadVar t a).run P w = .ok (.agg cs.toArray) w:=by
 cases hq:P.info? t with
 | none=>simp [hq] at hi
 | some i=>
  have hs:i.size=cs.length:=by simpa [hq] using hi
  simp [loadVar,lK hu,hd,sizeOf,typeInfo,hq,hs,aiI (P:=P) w a cs hc]
theorem R.Wa {v:Value} (hx:ev fr x=some (.pointer (some a))) (hu:P.underlying t=some d) (hd:ko d=false) (hc:w.cell? a=some v):aD P n fr w (.load t x) ty v w:=fun _ _ _ _ _ ha=>by
 simp [execOp,ha.ev hx,Instr.loadAt,Instr.sureAddr,Br hu hd hc]
theorem R.Wl (hx:ev fr x=some (.pointer (some a))) (hu:P.underlying t=some d) (hd:ko d=true) (hi:(P.info? t).map (·.size)=some cs.length) (hc:CellsAt w a cs) :
  aD P n fr w (.load t x) ty (.agg cs.toArray) w:=fun _ _ _ _ _ ha=>by
 simp [execOp,ha.ev hx,Instr.loadAt,Instr.sureAddr,Bc hu hd hi hc]
theorem rM {f:Field} {s:Nat} (hs:(P.info? f.type).map (·.size)=some (s+1)):(fieldPlace a f).run P w = .ok (a.add f.offset) w:=by
 cases hq:P.info? f.type with
 | none=>simp [hq] at hs
 | some i=>
  have:i.size=s+1:=by simpa [hq] using hs
  simp [fieldPlace,sizeOf,typeInfo,hq,this]
theorem R.fieldAddr {a:Addr} {fs:Array Field} {i j s:Nat} {f:Field} (hx:ev fr x=some (.pointer (some a))) (ht:P.underlying t=some (.struct fs)) (hf:fs[i]? = some f) (ho:f.offset=j) (hs:(P.info? f.type).map (·.size)=some (s+1)) :
  aD P n fr w (.fieldAddr t x i) ty (.pointer (some (a.add j))) w:=fun _ _ _ _ _ ha=>by
 subst ho;simp [execOp,ha.ev hx,Instr.fieldAt,run_underlying ht,hf,Instr.sureAddr,rM hs]
theorem R.indexAddr {a:Option Addr} {A:Addr} {m c:Nat} {k:IntKind} {i:Int} {e:TypeId} {s:Nat} (hx:ev fr x=some (.slice a m c)) (hy:ev fr y=some (.int k i)) (ht:P.underlying t=some (.slice e)) (hs:(P.info? e).map (·.size)=some s)
  (hA:a=some A) (h0:0<=i) (h1:i<(m:Int)):aD P n fr w (.indexAddr t x y) ty (.pointer (some (A.add (i.toNat*s)))) w:=fun _ _ _ _ _ ha=>by
 subst hA;cases hq:P.info? e with
 | none=>simp [hq] at hs
 | some q=>
  have:q.size=s:=by simpa [hq] using hs
  simp [execOp,ha.ev hx,ha.ev hy,Instr.indexAt,run_underlying ht,asIntOf,h0,h1,sizeOf,typeInfo,hq,this]
theorem R.jV {a:Option Addr} {A:Addr} {c:Nat} {k:IntKind} {s:Nat} (hx:ev fr x=some (.slice a m c)) (hy:ev fr y=some (.int k (i:Int))) (ht:P.underlying t=some (.slice e)) (hs:(P.info? e).map (·.size)=some s)
  (hA:a=some A) (h1:i<m):aD P n fr w (.indexAddr t x y) ty (.pointer (some (A.add (i*s)))) w:=by
 have:=R.indexAddr (P:=P) (n:=n) (w:=w) (ty:=ty) hx hy ht hs hA (by omega) (by omega);simpa using this
variable {Q:Exit->Act->World->Prop} {l rest:List Oper} {d:Nat} {pos:String} {af:Array Edge}
def Qg (fr:Fr):List Operand->Option (List Value)
 | []=>some []
 | x :: r=>
  match ev fr x,Qg fr r with
  | some v,some vs=>some (v :: vs)
  | _,_=>none
theorem nW {a:Act} (ha:M n fr a):∀ {xs:List Operand} {vs:List Value},Qg fr xs=some vs->xs.map a.eval=vs
 | [],vs,h=>by simp [Qg] at h; subst h; rfl
 | x :: r,vs,h=>by
  simp only [Qg] at h;split at h
  ·rename_i v vs' hv hvs;cases h;simp [ha.ev hv,nW ha hvs]
  cases h
def Lq (fr:Fr):List (Nat × Operand)->Option (List (Nat × Value))
 | []=>some []
 | (i,x) :: r=>
  match ev fr x,Lq fr r with
  | some v,some vs=>some ((i,v) :: vs)
  | _,_=>none
theorem xv {a:Act} (ha:M n fr a):∀ {xs:List (Nat × Operand)} {vs:List (Nat × Value)},Lq fr xs=some vs->xs.map (fun p=>(p.1,a.eval p.2))=vs
 | [],vs,h=>by simp [Lq] at h; subst h; rfl
 | (i,x) :: r,vs,h=>by
  simp only [Lq] at h;split at h
  ·rename_i v vs' hv hvs;cases h;simp [ha.ev hv,xv ha hvs]
  cases h
theorem R.pq {parts:List (Nat × Operand)} {pv:List (Nat × Value)} {cells:Array Value} (hp:Lq fr parts=some pv) (hb:P.built t pv=some cells):aD P n fr w (.build t parts.toArray) ty (.agg cells) w:=
 R.build (pv:=pv) (fun a ha=>by simp [<- xv ha hp]) hb
theorem tG (s:Nat):∀ (vss:List (List Value)) (k:Nat) (pre post:List Value),(∀ vs ∈ vss,vs.length=s)->pre.length=k*s->post.length=vss.length*s->∀ (pv:List (Nat × Value)),pv.map (fun p=>(p.1,p.2.cells.toList))=(List.range' k vss.length).zip vss ->
  Instr.fill (fun i=>some (i*s,s)) (pre++post).toArray pv=some (pre++vss.flatten).toArray
 | [],k,pre,post,_,_,hpost,pv,hpv=>by
  have:pv=[]:=by simpa using hpv
  subst this;have:post=[]:=by simpa using hpost
  subst this;simp [Instr.fill]
 | vs :: vss,k,pre,post,hl,hpre,hpost,[],hpv=>by simp [aiF] at hpv
 | vs :: vss,k,pre,post,hl,hpre,hpost,(i,v) :: pv,hpv=>by
  simp only [aeV,List.length_cons,aiF,ai2,List.cons.injEq,aiJ] at hpv;obtain ⟨⟨hi,hv⟩,hpv⟩:=hpv;subst hi;have hvs:vs.length=s:=hl vs (by simp);have hsz:v.cells.size=s:=by rw [<- Array.length_toList,hv,hvs]
  have hpl:post.length=s+vss.length*s:=by rw [hpost,List.length_cons,ahX]; omega
  have key:∀ (us:List Value) (j:Nat) (a b:List Value),us.length<=b.length->a.length=i*s+j ->
    (us.zipIdx j).foldl (fun cs (c:Value × Nat)=>cs.setIfInBounds (i*s+c.2) c.1) (a++b).toArray=(a++us++b.drop us.length).toArray:=by
   intro us;induction us with
   | nil=>intro j a b _ _; simp
   | cons u us ih=>
    intro j a b hb ha;cases b with
    | nil=>simp at hb
    | cons b0 b=>
     simp only [List.zipIdx_cons,List.foldl_cons];have:((a++b0 :: b).toArray.setIfInBounds (i*s+j) u)=((a++[u])++b).toArray:=by
      simp [<- ha]
     rw [this,ih (j+1) (a++[u]) b (by simpa using hb) (by simp [ha]; omega)];simp
  have hfold:v.cells.zipIdx.foldl (fun cs (c:Value × Nat)=>cs.setIfInBounds (i*s+c.2) c.1) (pre++post).toArray=((pre++vs)++post.drop s).toArray:=by
   have h1:=key vs 0 pre post (by omega) (by omega);rw [hvs] at h1;have h2:v.cells=vs.toArray:=by simp [<- hv]
   rw [<- h1,h2];simp
  simp only [Instr.fill,hsz,ne_eq,not_true_eq_false];rw [if_neg (by simp [hpre,hpl])];have:=tG s vss (i+1) (pre++vs) (post.drop s) (fun x hx=>hl x (by simp [hx])) (by simp [hpre,hvs,ahX]) (by simp [hpl]) pv (by simpa using hpv);refine Eq.trans ?_ (this.trans (by simp));congr 1
end
theorem zX:∀ {pre fr:Fr} {i:Nat},(∀ p ∈ pre,p.1≠i)->look (pre++fr) i=look fr i
 | [],_,_,_=>rfl
 | (j,v) :: r,fr,i,h=>by
  rw [List.cons_append,aR,if_neg (h (j,v) (by simp))];exact zX fun p hp=>h p (by simp [hp])
theorem Aj:∀ {fr:Fr} {i:Nat} {v:Value},look fr i=some v->∃ q ∈ fr,q.1=i
 | [],_,_,h=>by cases h
 | (j,u) :: r,i,v,h=>by
  rw [aR] at h;by_cases hj:j=i
  ·exact ⟨(j,u),by simp,hj⟩
  rw [if_neg hj] at h;obtain ⟨q,hq,he⟩:=Aj h;exact ⟨q,by simp [hq],he⟩
section
variable {P:Program} {Q:Exit->Act->World->Prop} {n:Nat} {fr:Fr} {w:World}
end
theorem xB {α:Type} {xs:List α} {x:α} (h:xs[i]? = some x):i<xs.length:=(aaj.1 h).1
theorem CellsAt.kp {a:Addr} {cs:List Value} (h:CellsAt w a cs) (k:Kp S w w') (hlt:a.block<w.heap.size) (hS:∀ g ∈ S,g≠a.block):CellsAt w' a cs:=
 h.keep (k.block _ hlt fun hm=>hS _ hm rfl)
theorem vb {b c:Bool} (h:b=c):Value.bool b = .bool c:=by rw [h]
theorem vi {k:IntKind} {b c:Int} (h:b=c):Value.int k b = .int k c:=by rw [h]
def Ac {α:Type} [Rp α] (lo:Nat) (o2:Bool) (lo2 hi2 hi:Nat) (w:World) (v:Value) (xs:List α):Prop:=
 xs.length*Rp.by_ α<=140737488355328/\∃ css,((xs=[]/\∃ a,v = .slice a 0 0)\/(w.ownsRow lo (Rp.tid α) (Rp.sz α) v xs.length css.flatten/\∀ g,v.ownBlock=some g->g<hi))/\All2 (Rp.rp o2 lo2 hi2 w) css xs
def ob:Value->List Nat
 | .slice (some a) _ c=>if c=0 then [] else [a.block]
 | _=>[]
theorem yc {v:Value} {g:Nat} (h:g ∈ ob v):v.ownBlock=some g:=by
 cases v <;> simp only [ob,ah1] at h;rename_i a n c;cases a with
 | none=>simp at h
 | some a=>
  simp only at h;split at h
  ·simp at h
  simp at h; simp [Value.ownBlock,h]
section
variable {α:Type} [Rp α] {lo lo2 hi2 hi:Nat} {o o2:Bool} {w w':World} {v:Value} {xs ys:List α}
theorem Ds {e:TypeId} {s:Nat} {cs:List Value} (h:w.ownsRow lo e s v n cs) (k:∀ g,v.ownBlock=some g->w'.heap[g]? = w.heap[g]?):w'.ownsRow lo e s v n cs:=by
 refine ⟨h.1,?_⟩;rcases h.2 with h0 | ⟨g,cap,cur,hv,hg,hh,r⟩
 ·exact .inl h0
 exact .inr ⟨g,cap,cur,hv,hg,(k g (by simp [hv,Value.ownBlock])).trans hh,r⟩
theorem Ac.keep (h:Ac lo o2 lo2 hi2 hi w v xs) (k:∀ b,lo<=b->b<hi->w'.heap[b]? = w.heap[b]?) (k2:∀ b,lo2<=b->b<hi2->w'.heap[b]? = w.heap[b]?):Ac lo o2 lo2 hi2 hi w' v xs:=by
 obtain ⟨hB,css,h1,h3⟩:=h;refine ⟨hB,css,?_,h3.imp fun _ _ h=>Rp.keep h k2⟩;rcases h1 with h0 | ⟨h1,h2⟩
 ·exact .inl h0
 exact .inr ⟨Ds h1 fun g hg=>k g (h1.lt g hg).1 (h2 g hg),h2⟩
theorem Ac.mono {lo' lo2' hi2' hi':Nat} (h:Ac lo o2 lo2 hi2 hi w v xs) (a:lo' <= lo) (b:lo2' <= lo2) (b':hi2<=hi2') (c:hi<=hi'):Ac lo' o2 lo2' hi2' hi' w v xs:=by
 obtain ⟨hB,css,h1,h3⟩:=h;refine ⟨hB,css,?_,h3.imp fun _ _ h=>Rp.mono h b b'⟩;rcases h1 with h0 | ⟨h1,h2⟩
 ·exact .inl h0
 refine .inr ⟨⟨h1.1,?_⟩,fun g hg=>aba (h2 g hg) c⟩;rcases h1.2 with h0 | ⟨g,cap,cur,hv,hg,r⟩
 ·exact .inl h0
 exact .inr ⟨g,cap,cur,hv,by omega,r⟩
theorem Ac.weak (h:Ac lo o2 lo2 hi2 hi w v xs):Ac lo false lo2 hi2 hi w v xs:=by
 obtain ⟨hB,css,h1,h3⟩:=h;exact ⟨hB,css,h1,h3.imp fun _ _ h=>Rp.weak h⟩
end
theorem qG {e:TypeId} {s b:Nat} {z:List Value} (h:(P.info? e).map (fun i=>(i.zero.map Value.cells,i.size,i.bytes))=some (some z.toArray,s,b)) :
  ∃ i zv,P.info? e=some i/\i.zero=some zv/\zv.cells=z.toArray/\i.size=s/\i.bytes=b:=by
 cases hq:P.info? e with
 | none=>simp [hq] at h
 | some i=>
  simp only [hq,Option.map_some,Option.some.injEq,aiJ,aeq] at h;obtain ⟨⟨zv,h1,h2⟩,h3,h4⟩:=h;exact ⟨i,zv,rfl,h1,h2,h3,h4⟩
section
variable {P:Program} {n:Nat} {fr:Fr} {w:World} {x y:Operand} {ty t:TypeId} {Q:Exit->Act->World->Prop} {l rest:List Oper} {d:Nat} {pos:String} {af:Array Edge}
variable {α:Type} [Rp α] {lo lo2 hi2 hi:Nat} {o2:Bool} {v:Value} {xs ys:List α}
end
section
variable {P:Program} {Q:Exit->Act->World->Prop} {n:Nat} {fr:Fr} {w:World} {x y:Operand} {ty t:TypeId} {l rest:List Oper} {d:Nat} {pos:String} {af:Array Edge}
variable {α:Type} [Rp α] {lo lo2 hi2 hi:Nat} {o2:Bool} {xs:List α}
theorem vL (a:Addr):a.add 0=a:=by simp [Addr.add_zero']
variable {e:TypeId} {a a':Option Addr} {z z':Operand} {kl kh:IntKind} {j:Nat}
theorem R.FF {c s:Nat} (hx:ev fr x=some (.slice a m c)) (hz:ev fr z=some (.int kl (i:Int))) (hz':ev fr z' = some (.int kh (j:Int))) (ht:P.underlying t=some (.slice e)) (hs:(P.info? e).map (·.size)=some s)
  (ha:(if c=i then a else a.map (·.add (i*s)))=a') (hij:i<=j) (hj:j<=c):aD P n fr w (.slice t x (some z) (some z') none) ty (.slice a' (j - i) (c - i)) w:=fun _ _ _ _ _ hfr=>by
 subst ha;cases hq:P.info? e with
 | none=>simp [hq] at hs
 | some q=>
  have hs':q.size=s:=by simpa [hq] using hs
  have he:P.elem t=e:=by simp [Program.elem,ht]
  have e0:=aiO (P:=P) w t (.slice a m c) (some (.int kl (i:Int))) (some (.int kh (j:Int))) none (by rw [he]; exact ht);have:=run_slice_lh (P:=P) w t a m c (by rw [he]; exact ht) kl kh (i:Int) (j:Int) (by omega) (by omega) (by omega);simp [execOp,hfr.ev hx,hfr.ev hz,hfr.ev hz',e0,this,he,sizeOf,typeInfo,hq,hs',sliced,Result.andThen]
theorem R.lh {c s:Nat} (hx:ev fr x=some (.slice a m c)) (hz':ev fr z' = some (.int kh (j:Int))) (ht:P.underlying t=some (.slice e)) (hs:(P.info? e).map (·.size)=some s)
  (ha:(if c=0 then a else a.map (·.add (0*s)))=a') (hj:j<=c):aD P n fr w (.slice t x none (some z') none) ty (.slice a' (j - 0) (c - 0)) w:=fun _ _ _ _ _ hfr=>by
 subst ha;cases hq:P.info? e with
 | none=>simp [hq] at hs
 | some q=>
  have hs':q.size=s:=by simpa [hq] using hs
  have he:P.elem t=e:=by simp [Program.elem,ht]
  have e0:=aiO (P:=P) w t (.slice a m c) none (some (.int kh (j:Int))) none (by rw [he]; exact ht);have:=run_slice_h (P:=P) w t a m c (by rw [he]; exact ht) kh (j:Int) (by omega) (by omega);simp [execOp,hfr.ev hx,hfr.ev hz',e0,this,he,sizeOf,typeInfo,hq,hs',sliced,Result.andThen]
theorem R.dh {c s:Nat} (hx:ev fr x=some (.slice a m c)) (hz:ev fr z=some (.int kl (i:Int))) (ht:P.underlying t=some (.slice e)) (hs:(P.info? e).map (·.size)=some s)
  (ha:(if c=i then a else a.map (·.add (i*s)))=a') (hj:i<=m):aD P n fr w (.slice t x (some z) none none) ty (.slice a' (m - i) (c - i)) w:=fun _ _ _ _ _ hfr=>by
 subst ha;cases hq:P.info? e with
 | none=>simp [hq] at hs
 | some q=>
  have hs':q.size=s:=by simpa [hq] using hs
  have he:P.elem t=e:=by simp [Program.elem,ht]
  have e0:=aiO (P:=P) w t (.slice a m c) (some (.int kl (i:Int))) none none (by rw [he]; exact ht);have:=run_slice_l (P:=P) w t a m c (by rw [he]; exact ht) kl (i:Int) (by omega) (by omega);simp [execOp,hfr.ev hx,hfr.ev hz,e0,this,he,sizeOf,typeInfo,hq,hs',sliced,Result.andThen]
def Str.cut (s:Str) (i j:Nat):Str:=⟨(s.b.drop i).take (j - i)⟩
theorem Str.wU (s:Str) (i j:Nat):(Value.string ((⟨s.b.toArray⟩:ByteArray).extract i j))=(s.cut i j).val:=by
 simp only [Str.val,Str.cut];congr 1;apply ByteArray.ext;apply afd;simp [ByteArray.data_extract]
theorem R.afy {s:Str} (hx:ev fr x=some s.val) (hz':ev fr z' = some (.int kh (j:Int))) (ht:P.underlying t=some .string) (hj:j<=s.b.length) :
  aD P n fr w (.slice t x none (some z') none) ty (s.cut 0 j).val w:=fun _ _ _ _ _ hfr=>by
 have e0:=run_sliceAt_string (P:=P) w t (.string ⟨s.b.toArray⟩) none (some (.int kh (j:Int))) none ht;have:=run_slice_string_h (P:=P) w t ⟨s.b.toArray⟩ ht kh (j:Int) (by omega) (by show (j:Int)<=((s.b.toArray.size:Nat):Int); simp; omega);rw [<- Str.wU s 0 j];simp only [Str.val] at hx;simp [execOp,hfr.ev hx,hfr.ev hz',e0,this]
theorem wrap_u8 (a:Nat):IntKind.u8.wrap (a:Int)=(((UInt8.ofNat a).toNat:Nat):Int):=by
 rw [UInt8.toNat_ofNat'];show (a:Int) % 256=_;omega
variable {a:Nat}
theorem wrap_u64 (h:a<18446744073709551616):IntKind.u64.wrap (a:Int)=(a:Int):=by
 show (a:Int) % 18446744073709551616=_;omega
variable {t':TypeId} {dd:TypeDesc} {k:IntKind}
theorem R.W_ (hx:ev fr x=some (.int k (a:Int))) (hs:P.underlying t=some dd) (hd:P.underlying t' = some (.int .u8)):aD P n fr w (.convert t t' x) ty (.int .u8 (((UInt8.ofNat a).toNat:Nat):Int)) w:=by
 have:=R.conv (P:=P) (n:=n) (w:=w) (ty:=ty) hx hs hd
 rwa [wrap_u8] at this
theorem R.Py (hx:ev fr x=some (.int k (a:Int))) (hs:P.underlying t=some dd) (hd:P.underlying t' = some (.int .u64)) (h:a<18446744073709551616):aD P n fr w (.convert t t' x) ty (.int .u64 (a:Int)) w:=by
 have:=R.conv (P:=P) (n:=n) (w:=w) (ty:=ty) hx hs hd
 rwa [wrap_u64 h] at this
theorem R.ae1 {a b:UInt8} (hx:ev fr x=some (.int .u8 (a.toNat:Int))) (hy:ev fr y=some (.int .u8 (b.toNat:Int))):aD P n fr w (.binOp .or t x y t') ty (.int .u8 ((a ||| b).toNat:Int)) w:=fun _ _ _ _ _ ha=>by
 have e:bits .or .u8 (a.toNat:Int) (b.toNat:Int)=((a ||| b).toNat:Int):=by
  have h1:∀ c:UInt8,(BitVec.ofInt 8 (c.toNat:Int))=c.toBitVec:=fun c=>by
   rw [BitVec.ofInt_natCast]; exact BitVec.eq_of_toNat_eq (by simp)
  show IntKind.u8.wrap ((BitVec.ofInt 8 (a.toNat:Int) ||| BitVec.ofInt 8 (b.toNat:Int)).toNat:Int)=_;rw [h1,h1,<- UInt8.toBitVec_or];have:=(a ||| b).toNat_lt;exact Db this
 simp [execOp,ha.ev hx,ha.ev hy,eqGuard_or,binOp_or,intBits_or,e]
theorem R.LM {kc:IntKind} {b:Nat} (hx:ev fr x=some (.int k (a:Int))) (hy:ev fr y=some (.int kc (b:Int))) (hb:b<=k.bits):aD P n fr w (.binOp .shr t x y t') ty (.int k ((a / 2 ^ b:Nat):Int)) w:=fun _ _ _ _ _ ha=>by
 have e:(a:Int) / 2 ^ min (b:Int).toNat k.bits=((a / 2 ^ b:Nat):Int):=by
  rw [aef,aey hb]; simp
 simp [execOp,ha.ev hx,ha.ev hy,eqGuard_shr,binOp_shr,shift_shr_any _ _ _ _ (Int.natCast_nonneg b)];simpa using e
end
structure Sp where
 deps:List Nat
 S:List Nat
 V:Value->World->Prop
def Sp.ex (deps:List Nat) (c:Value):Sp:=⟨deps,[],fun u _=>u=c⟩
def spAt (sp:List Sp) (i:Nat):Sp:=sp.getD i ⟨[],[],fun _ _=>True⟩
def CR:List Sp->List Nat
 | []=>[]
 | s :: r=>s.S++CR r
def sm:List Sp->Nat->List Nat
 | [],_=>[]
 | _ :: r,0=>CR r
 | s :: r,i+1=>s.S++sm r i
def du (l:List Oper) (fr:Fr) (vs:Nat->Value):List Nat->Fr
 | []=>fr
 | j :: r=>match idst l j with
  | some d=>(d,vs j) :: du l fr vs r
  | none=>du l fr vs r
def gj (sp:List Sp) (vs:Nat->Value) (w:World):List Nat->Prop
 | []=>True
 | j :: r=>(spAt sp j).V (vs j) w/\gj sp vs w r
def pT (N:Nat) (d?:Option Nat) (S:List Nat) (V:Value->World->Prop) (w:World):Exit->Act->World->Prop:=
 fun e a' w'=>e = .normal/\a'.defers=[]/\∃ v,(∀ d,d? = some d->d<N/\a'.tmps.getD d undef=v)/\V v w' /\ Kp S w w'
theorem WX.aF {N d:Nat} {V:Value->World->Prop} {fr:Fr} {v:Value} (h:look fr d=some v) (hV:V v w') (hk:Kp S w w'):WX (pT N (some d) S V w) N .normal fr w':=
 fun _ ha=>⟨rfl,ha.1,v,fun d' hd=>by cases hd; exact ha.2.2 _ _ h,hV,hk⟩
variable {Q:Exit->Act->World->Prop}
theorem WO.bU {l rest:List Oper} {fr:Fr} (hf:Has fr fr') (h:WO P Q n l rest fr' w):WO P Q n l rest fr w:=fun a ha=>h a (ha.sub hf.look)
def fL (o:Oper):List Nat:=(o.after.toList.filter (Region.binds .any ·)).map (·.on)
def bw (l:List Oper) (i:Nat):List Nat:=match l[i]? with | some o=>fL o | none=>[]
def mm (l:List Oper) (sp:List Sp) (slots:List Nat) (n:Nat):Bool:=
  decide (n<=l.length) && decide (sp.length=n) &&
  ((List.range n).all fun i=>(bw l i).all (fun j=>decide (j<i)) &&
    (spAt sp i).deps.all (fun j=>decide (j<i) && ((bw l i).contains j || (bw l i).any (fun k=>(spAt sp k).deps.contains j))) &&
    (match idst l i with
     | some d=>!slots.contains d && (List.range n).all (fun j=>j == i || idst l j != some d)
     | none=>true)) &&
  ((decide (n=l.length)) || (Region.sinkB .any l.toArray n && Region.chainB .any l.toArray n)) &&
  Region.seqB .any l.toArray (l.length - n) n ((Array.replicate n true)++(Array.replicate (l.length - n) false))
theorem OZ {x y:Array Bool} (hs:x.size=y.size) (h:∀ i,i<x.size->x.getD i false=y.getD i false):x=y:=by
 apply Array.ext hs;intro i h1 h2;have:=h i h1;simpa [Array.getD,h1,h2] using this
theorem countP_set {p q:Nat->Bool} (hi:i<n) (hp:p i=true) (hq:q i=false) (h:∀ j,j≠i->q j=p j):(List.range n).countP q+1=(List.range n).countP p:=by
 induction n with
 | zero=>omega
 | succ n ih=>
  rw [List.range_succ,List.countP_append,List.countP_append];by_cases hn:i=n
  ·subst hn;have:(List.range i).countP q=(List.range i).countP p:=List.countP_congr fun j hj=>by rw [h j (by have:=List.mem_range.1 hj; omega)]
   simp [this,hp,hq]
  have:=ih (by omega);have e:q n=p n:=h n (fun e=>hn e.symm);simp only [List.countP_singleton,e];omega
theorem AW {F:Fence} {o:Oper} {K K':Act->World->Prop} {Q':Exit->Act->World->Prop} {r:Result Next} (h:o.uponIn F m P a K Q r) (hK:∀ v w,K (a.put o.dst v) w->K' (a.put o.dst v) w) (hD:∀ d w,¬ K ({ a with defers:=d :: a.defers }.put o.dst undef) w)
  (hQ:∀ e a w,e ≠ .normal->¬ Q e a w):o.uponIn F m P a K' Q' r:=by
 have hE:∀ (e:Ending) (w'':World),(match e,w'' with | .returned v,w''=>K (a.put o.dst v) w'' | .panicked chain,w''=>Q (.panic chain) a w'' | .outgrown,_=>LetsOut Q) ->
   (match e,w'' with | .returned v,w''=>K' (a.put o.dst v) w'' | .panicked chain,w''=>Q' (.panic chain) a w'' | .outgrown,_=>LetsOut Q'):=fun e w'' he=>by
  cases e with
  | returned v=>exact hK _ _ he
  | panicked c=>exact absurd he (hQ _ _ _ (by simp))
  | outgrown=>obtain ⟨a',w',h'⟩:=he; exact absurd h' (hQ _ _ _ (by simp))
 cases r with
 | ok x w'=>
  cases x <;> simp only [Oper.uponIn] at h ⊢;case value u=>exact hK _ _ h
  case skip=>exact hK _ _ h
  case defer d=>exact absurd h (hD _ _)
  case enter f args=>exact ⟨h.1,CallsIn.mono h.2 hE⟩
  case row r args=>exact ⟨h.1,RowsIn.mono h.2 fun v w'' hv=>hK _ _ hv⟩
  case round l f tmps assign body=>exact ⟨h.1,RoundIn.mono h.2 hE⟩
 | halt x w'=>
  cases x <;> simp only [Oper.uponIn] at h ⊢;exact absurd h (hQ _ _ _ (by simp))
theorem kW {F:Fence} {m:Nat} {P:Program} {ops:Array Oper} {md:Region.Mode} {Q':Exit->Act->World->Prop}:∀ (l:List Oper) (k:Nat) (listed:Array Bool) (a:Act) (w:World),(∀ j,l[j]? = ops[k+j]?) ->
  Region.seqB md ops l.length k listed=true->wpListIn F m P ops Q' l a w->wpAnyIn F m P md ops Q' l.length listed a w
 | [],_,_,_,_,_,hB,h=>⟨by simpa [Region.seqB] using hB,h⟩
 | o :: l,k,listed,a,w,hl,hB,h=>by
  have h0:ops[k]? = some o:=by simpa using (hl 0).symm
  simp only [List.length_cons,Region.seqB,Bool.and_eq_true,decide_eq_true_eq] at hB;refine ⟨fun h1=>(by rw [hB.1] at h1; cases h1),fun i hi=>?_⟩;rw [hB.1] at hi;have hik:i=k:=by simpa using hi
  subst hik;have hw:wpOpIn F m P ops Q' i (wpListIn F m P ops Q' l) a w:=by unfold wpOpIn; simp only [h0]; exact h
  exact wpOpIn_mono (fun a' w' h'=>kW l (i+1) _ a' w' (fun j=>by have:=hl (j+1); simpa [Nat.add_assoc,Nat.add_comm 1 j] using this) hB.2 h') hw
theorem sx:∀ {sp:List Sp} {i j:Nat},i<sp.length->i≠j->∀ g ∈ (spAt sp i).S,g ∈ sm sp j
 | s :: r,0,0,_,hne,g,_=>absurd rfl hne
 | s :: r,0,j+1,_,_,g,hg=>abc _ hg
 | s :: r,i+1,0,hi,_,g,hg=>by
  have:∀ (r:List Sp) (i:Nat),i<r.length->g ∈ (spAt r i).S->g ∈ CR r:=by
   intro r;induction r with
   | nil=>intro i hi; simp at hi
   | cons s r ih=>
    intro i hi hg;cases i with
    | zero=>exact abc _ hg
    | succ i=>exact acV _ (ih i (by simpa using hi) hg)
  exact this r i (by simpa using hi) hg
 | s :: r,i+1,j+1,hi,hne,g,hg=>acV _ (sx (sp:=r) (by simpa using hi) (by omega) g hg)
 | [],i,j,hi,_,_,_=>by simp at hi
theorem Ae:∀ {r:List Sp} {i:Nat},i<r.length->∀ g ∈ (spAt r i).S,g ∈ CR r
 | s :: r,0,_,g,hg=>abc _ hg
 | s :: r,i+1,hi,g,hg=>acV _ (Ae (by simpa using hi) g hg)
 | [],i,hi,g,hg=>by simp at hi
section
variable {P:Program} {Q:Exit->Act->World->Prop} {N n id:Nat} {l:List Oper} {sp:List Sp} {fr:Fr} {w:World}
structure DInv (N n:Nat) (l:List Oper) (sp:List Sp) (fr:Fr) (w0:World) (listed:Array Bool) (a:Act) (w:World):Prop where
 head:HeadInv .any l.toArray n listed
 clo:∀ i,i<n->listed.getD i false=true->∀ j ∈ (spAt sp i).deps,listed.getD j false=true
 fr:M N fr a
 vals:∃ vs:Nat->Value,∀ i,i<n->listed.getD i false=true->(∀ d,idst l i=some d->d<N/\a.tmps.getD d undef=vs i)/\(spAt sp i).V (vs i) w
 kp:∃ S,Kp S w0 w/\∀ g ∈ S,∃ i,i<n/\listed.getD i false=true/\g ∈ (spAt sp i).S
theorem mQ {a:Act} (hfr:M N fr a) {vs:Nat->Value}:∀ (ds:List Nat),(∀ j ∈ ds,∀ d,idst l j=some d->d<N/\a.tmps.getD d undef=vs j)->M N (du l fr vs ds) a
 | [],_=>hfr
 | j :: r,h=>by
  have ih:=mQ hfr (vs:=vs) r fun j hj=>h j (aa7 _ hj);unfold du;split
  ·rename_i d hd;refine ⟨ih.1,ih.2.1,fun i v hv=>?_⟩;rw [aR] at hv;by_cases hi:d=i
   ·subst hi;rw [if_pos rfl] at hv;cases hv;exact h j (by simp) d hd
   rw [if_neg hi] at hv;exact ih.2.2 i v hv
  exact ih
theorem mH {vs:Nat->Value} {w:World}:∀ (ds:List Nat),(∀ j ∈ ds,(spAt sp j).V (vs j) w)->gj sp vs w ds
 | [],_=>trivial
 | j :: r,h=>⟨h j (by simp),mH r fun j hj=>h j (aa7 _ hj)⟩
theorem WC.draw (hm:P.follows .mixedOrders=true) (sp:List Sp) (n:Nat) (hB:mm l sp (fr.map (·.1)) n=true)
    (stab:∀ i,i<n->∀ v w w',(spAt sp i).V v w->Kp (sm sp i) w w' -> (spAt sp i).V v w')
    (ops:∀ i o,i<n->l[i]? = some o->∀ vs w1,Kp (sm sp i) w w1->gj sp vs w1 (spAt sp i).deps->WO P (pT N (idst l i) (spAt sp i).S (spAt sp i).V w1) N l [o] (du l fr vs (spAt sp i).deps) w1)
    (tail:∀ vs w1,Kp (CR sp) w w1->gj sp vs w1 (List.range n)->WO P Q N l (l.drop n) (du l fr vs (List.range n)) w1):WC P Q N (.region id l.toArray true) fr w:=by
  intro a ha ro ds;simp only [mm,Bool.and_eq_true,decide_eq_true_eq,aeF,List.mem_range,Bool.or_eq_true] at hB;obtain ⟨⟨⟨⟨hnl,hsp⟩,hops⟩,hsc⟩,hseq⟩:=hB;refine wpIn_region_any hm ?_;have main:∀ f listed a w1,(List.range n).countP (fun i=>!listed.getD i false)=f->DInv N n l sp fr w listed a w1->wpAnyIn (gN ro) 0 P .any l.toArray (qn ds Q) (f+(l.length - n)) listed (iW a ds) w1:=by
    intro f;induction f with
    | zero=>
      intro listed a w1 hc inv;have hall:∀ i,i<n->listed.getD i false=true:=fun i hi=>by
        have:=List.countP_eq_zero.1 hc i (List.mem_range.2 hi);simpa using this
      have hl:listed=Array.replicate n true++Array.replicate (l.length - n) false:=by
        have hsz:=inv.head.size;refine OZ (by rw [hsz]; simp; omega) fun i hi=>?_;rw [hsz] at hi;have hi':i<l.length:=by simpa using hi
        by_cases hin:i<n
        · rw [hall i hin,agk,Array.getElem?_append_left (by simpa using hin)]
          simp [hin]
        have h2:=inv.head.tail i (by omega) hi;have h3:listed.getD i false=false:=getD_both h2;rw [h3,agk,Array.getElem?_append_right (by simp; omega)];simp only [Array.size_replicate,Array.getElem?_replicate];split <;> rfl
      rw [<- hl] at hseq;obtain ⟨vs,hv⟩:=inv.vals;obtain ⟨S,hk,hS⟩:=inv.kp;have hM:M N (du l fr vs (List.range n)) a:=mQ inv.fr _ fun j hj d hd=>(hv j (List.mem_range.1 hj) (hall j (List.mem_range.1 hj))).1 d hd;have ht:=tail vs w1 (hk.sub fun g hg=>by
        obtain ⟨i,hi,_,h⟩:=hS g hg;exact Ae aL g h) (mH _ fun j hj=>(hv j (List.mem_range.1 hj) (hall j (List.mem_range.1 hj))).2) a hM ro ds
      have hdl:(l.drop n).length=l.length - n:=by simp
      have:=kW (F:=gN ro) (m:=0) (P:=P) (md:=.any) (ops:=l.toArray) (Q':=qn ds Q) (l.drop n) n listed (iW a ds) w1 (fun j=>by simp [List.getElem?_drop]) (by rw [hdl]; exact hseq) ht;rw [hdl] at this;rw [Nat.zero_add];exact this
    | succ f ih=>
      intro listed a w1 hc inv;have hex:∃ i,i<n/\listed.getD i false=false/\∀ j,j<i->listed.getD j false=true:=by
        have h1:∃ i,i<n/\listed.getD i false=false:=by
          have:0<(List.range n).countP (fun i=>!listed.getD i false):=by omega
          obtain ⟨i,hi,hp⟩:=List.countP_pos_iff.1 this;exact ⟨i,List.mem_range.1 hi,by simpa using hp⟩
        obtain ⟨i,hi,hp⟩:=h1;have hmin:∀ m,∀ i,i<n->listed.getD i false=false->i<=m->∃ i,i<n/\listed.getD i false=false/\∀ j,j<i->listed.getD j false=true:=by
          intro m;induction m with
          | zero=>intro i hi hp him; exact ⟨i,hi,hp,fun j hj=>by omega⟩
          | succ m ihm=>
            intro i hi hp him;by_cases hlt:∃ j,j<i/\listed.getD j false=false
            · obtain ⟨j,hj,hpj⟩:=hlt
              exact ihm j aL hpj aL
            exact ⟨i,hi,hp,fun j hj=>by
              cases h:listed.getD j false with
              | true=>rfl
              | false=>exact absurd ⟨j,hj,h⟩ hlt⟩
        exact hmin i i hi hp (Nat.le_refl _)
      obtain ⟨m,hmn,hmu,hmall⟩:=hex;have hsz:=inv.head.size;have hin:∀ i,i<n->listed.getD i false=false->listed.getD i true=false:=fun i hi h=>getD_in (by rw [hsz]; simp; omega) h;have hready:m ∈ Region.ready .any l.toArray listed:=by
        have hml:m<l.length:=by omega
        refine mem_ready.2 ⟨hin m hmn hmu,l[m],by simp [hml],fun e he hb=>?_⟩;have h1:=(hops m hmn).1.1 e.on (by
          simp only [bw,List.getElem?_eq_getElem hml,fL,List.mem_map,List.mem_filter];exact ⟨e,⟨by simpa using he,hb⟩,rfl⟩)
        exact hmall _ h1
      rw [show f+1+(l.length - n)=(f+(l.length - n))+1 by omega];refine ⟨fun h0=>(by rw [h0] at hready; cases hready),fun i hi=>?_⟩;have hil:i<l.length:=by
        obtain ⟨_,o,ho,_⟩:=mem_ready.1 hi;simpa using (aeD.1 ho).1
      have hin':i<n:=by
        rcases Nat.lt_or_ge i n with h | h
        · exact h
        rcases hsc with hsc | hsc
        · omega
        exact absurd hi (tail_waits hsc.1 hsc.2 (by simp; omega) inv.head _ m rfl hmn (hin m hmn hmu) i h)
      obtain ⟨hun,o,ho,hafter⟩:=mem_ready.1 hi;have ho':l[i]? = some o:=by simpa using ho
      have hun':listed.getD i false=false:=getD_both hun;obtain ⟨vs,hv⟩:=inv.vals;obtain ⟨S,hk,hS⟩:=inv.kp
      -- what it leans on has come
      have hpre:∀ k ∈ bw l i,listed.getD k false=true:=fun k hk=>by
        simp only [bw,ho',fL,List.mem_map,List.mem_filter] at hk;obtain ⟨e,⟨he,hb⟩,rfl⟩:=hk;exact hafter e (by simpa using he) hb
      have hdeps:∀ j ∈ (spAt sp i).deps,j<i/\listed.getD j false=true:=fun j hj=>by
        have h1:=(hops i hin').1.2 j hj;refine ⟨h1.1,?_⟩;rcases h1.2 with h2 | h2
        · exact hpre j (by simpa using h2)
        obtain ⟨k,hk,hk2⟩:=List.any_eq_true.1 h2;have hki:k<i:=(hops i hin').1.1 k hk;exact inv.clo k aL (hpre k hk) j (by simpa using hk2)
      have hko:Kp (sm sp i) w w1:=hk.sub fun g hg=>by
        obtain ⟨j,hj,hlj,hgj⟩:=hS g hg;exact sx (by omega) (fun e=>by subst e; rw [hun'] at hlj; cases hlj) g hgj
      have hM:M N (du l fr vs (spAt sp i).deps) a:=mQ inv.fr _ fun j hj d hd=>(hv j (by have:=hdeps j hj; omega) (hdeps j hj).2).1 d hd;have hf:gj sp vs w1 (spAt sp i).deps:=mH _ fun j hj=>(hv j (by have:=hdeps j hj; omega) (hdeps j hj).2).2;have hw:=ops i o hin' ho' vs w1 hko hf a hM ro ds;have step:∀ v w2,pT N (idst l i) (spAt sp i).S (spAt sp i).V w1 .normal (a.put o.dst v) w2->wpAnyIn (gN ro) 0 P .any l.toArray (qn ds Q) (f+(l.length - n)) (listed.setIfInBounds i true) (iW (a.put o.dst v) ds) w2:=by
        intro v w2 ⟨_,_,u,hu,hV,hk2⟩;have hdst:idst l i=o.dst:=by rw [jK,ho']; rfl
        have hset:∀ j,(listed.setIfInBounds i true).getD j false=if j=i then true else listed.getD j false:=fun j=>by
          by_cases hj:j=i
          · subst hj; simp [Array.getD,hsz,hil]
          rw [getD_set_ne false (Ne.symm hj),if_neg hj]
        refine ih _ _ _ ?_ ⟨inv.head.set hi hin',?_,?_,?_,?_⟩
        · have:=countP_set (n:=n) (i:=i) (p:=fun j=>!listed.getD j false) (q:=fun j=>!(listed.setIfInBounds i true).getD j false) hin' (by simp [hun']) (by simp [hset]) (fun j hj=>by simp [hset,hj])
          omega
        · intro j hj hlj d hd
          rw [hset];by_cases hdi:d=i
          · simp [hdi]
          rw [if_neg hdi];by_cases hji:j=i
          · subst hji; exact (hdeps d hd).2
          rw [hset,if_neg hji] at hlj;exact inv.clo j hj hlj d hd
        · -- what stood in the frame
          obtain ⟨f1,f2,f3⟩:=inv.fr;cases hd:o.dst with
          | none=>exact ⟨f1,f2,f3⟩
          | some d=>
            have hfree:=(hops i hin').2;rw [hdst,hd] at hfree;simp only [Bool.and_eq_true,aew,aeF,List.mem_range,Bool.or_eq_true,ai1,bne_iff_ne] at hfree;refine ⟨f1,by simp [Act.put,f2],fun k u' hk'=>?_⟩;obtain ⟨hkn,hkv⟩:=f3 k u' hk';refine ⟨hkn,?_⟩;have hne:d≠k:=by
              rintro rfl;have:∀ (fr:Fr) (d:Nat) (v:Value),look fr d=some v->d ∈ fr.map (·.1):=by
                intro fr;induction fr with
                | nil=>intro d v h; cases h
                | cons x r ihr=>
                  intro d v h;obtain ⟨x1,x2⟩:=x;rw [aR] at h;by_cases hx:x1=d
                  · simp [hx]
                  rw [if_neg hx] at h;exact aa7 _ (ihr d v h)
              have h3:=this fr d u' hk';have h4:=hfree.1;simp only [List.contains_eq_mem,aeA] at h4;exact h4 h3
            rw [<- hkv];simp [Act.put,Array.getD,f2,hkn,hne]
        · refine ⟨fun j=>if j=i then u else vs j,fun j hj hlj=>?_⟩
          by_cases hji:j=i
          · subst hji
            simp only;exact ⟨hu,hV⟩
          simp only [if_neg hji];rw [hset,if_neg hji] at hlj;obtain ⟨h1,h2⟩:=hv j hj hlj;refine ⟨fun d hd=>?_,stab j hj _ _ _ h2 (hk2.sub (sx (by omega) (Ne.symm hji)))⟩;obtain ⟨hdN,hdv⟩:=h1 d hd;refine ⟨hdN,?_⟩;cases hdo:o.dst with
          | none=>exact hdv
          | some d'=>
            have hfree:=(hops i hin').2;rw [hdst,hdo] at hfree;simp only [Bool.and_eq_true,aew,aeF,List.mem_range,Bool.or_eq_true,ai1,bne_iff_ne] at hfree;have h5:=(hfree.2 j hj).resolve_left hji;rw [hd] at h5;have hne:d' ≠ d:=fun e=>h5 (by rw [e]);rw [<- hdv];by_cases hds:d<a.tmps.size <;> simp [Act.put,Array.getD,hds,hne]
        refine ⟨S++(spAt sp i).S,hk.trans hk2,fun g hg=>?_⟩;rcases List.mem_append.1 hg with hg | hg
        · obtain ⟨j,hj,hlj,hgj⟩:=hS g hg
          refine ⟨j,hj,?_,hgj⟩;rw [hset]; split
          · rfl
          exact hlj
        exact ⟨i,hin',by rw [hset,if_pos rfl],hg⟩
      have step':∀ v w2,qn ds (pT N (idst l i) (spAt sp i).S (spAt sp i).V w1) .normal ((iW a ds).put o.dst v) w2->wpAnyIn (gN ro) 0 P .any l.toArray (qn ds Q) (f+(l.length - n)) (listed.setIfInBounds i true) ((iW a ds).put o.dst v) w2:=fun v w2 ⟨a0,h0,e,h⟩=>by
        rw [k_] at e ⊢;rw [<- Mo e (DG inv.fr.1 _ _) h0] at h;exact step v w2 h
      unfold wpOpIn;simp only [ho];simp only [wpListIn] at hw;try simp only [eq_self_iff_true] at hw
      by_cases hwant:Region.wanted o (yielded l.toArray (iW a ds).tmps)=true
      · rw [if_pos hwant] at hw ⊢
        unfold Oper.wpIn at hw ⊢;refine ⟨fun _ _=>trivial,AW hw.2 step' (fun d w2 ⟨a0,h0,e,h⟩=>?_) (fun e a w he ⟨_,_,_,h⟩=>he h.1)⟩;have:=congrArg Act.defers e;cases hd:o.dst <;> rw [hd] at this <;> simp [Act.put,iW] at this
      rw [if_neg hwant] at hw ⊢;exact ⟨fun _ _=>trivial,step' undef w1 hw.2⟩
  have hcount:(List.range n).countP (fun i=>!(Array.replicate l.toArray.size false).getD i false)=n:=by
    rw [List.countP_eq_length.2 (fun i _=>by rw [aff]; rfl),ai3]
  have:=main n (Array.replicate l.toArray.size false) a { w with drawn:=w.drawn+1 } hcount
    ⟨⟨by simp,fun j oj _ hl=>(by rw [aff] at hl; cases hl),fun t _ ht=>getD_in (by simpa using ht) (aff _ _)⟩,
     fun i _ hl=>(by rw [aff] at hl; cases hl),ha,⟨fun _=>undef,fun i _ hl=>(by rw [aff] at hl; cases hl)⟩,
     ⟨[],(Kp.refl w).drew,fun g hg=>by cases hg⟩⟩
  rw [show n+(l.length - n)=l.toArray.size by simp; omega] at this;exact this
def sI (P:Program) (N:Nat) (l:List Oper) (sp:List Sp) (fr:Fr) (w:World):Nat->List Oper->Prop
 | _,[]=>True
 | i,o :: r=>(∀ vs w1,Kp (sm sp i) w w1->gj sp vs w1 (spAt sp i).deps->WO P (pT N (idst l i) (spAt sp i).S (spAt sp i).V w1) N l [o] (du l fr vs (spAt sp i).deps) w1)/\sI P N l sp fr w (i+1) r
def nr (sp:List Sp):Nat->List Sp->Prop
 | _,[]=>True
 | i,s :: r=>(∀ v w w',s.V v w->Kp (sm sp i) w w' -> s.V v w')/\nr sp (i+1) r
theorem sI.at_:∀ {r:List Oper} {k:Nat},sI P N l sp fr w k r->∀ j o,r[j]? = some o->∀ vs w1,Kp (sm sp (k+j)) w w1->gj sp vs w1 (spAt sp (k+j)).deps ->
  WO P (pT N (idst l (k+j)) (spAt sp (k+j)).S (spAt sp (k+j)).V w1) N l [o] (du l fr vs (spAt sp (k+j)).deps) w1
 | [],_,_,j,o,ho=>by simp at ho
 | x :: r,k,h,0,o,ho=>by
  simp at ho; subst ho;exact h.1
 | x :: r,k,h,j+1,o,ho=>by
  have:=h.2.at_ j o (by simpa using ho);rwa [show k+1+j=k+(j+1) by omega] at this
theorem nr.at_:∀ {r:List Sp} {k:Nat},nr sp k r->∀ j,j<r.length->∀ v w w',(spAt r j).V v w->Kp (sm sp (k+j)) w w' -> (spAt r j).V v w'
 | [],_,_,j,hj=>by simp at hj
 | s :: r,k,h,0,_=>h.1
 | s :: r,k,h,j+1,hj=>by
  have:=h.2.at_ j (by simpa using hj);rwa [show k+1+j=k+(j+1) by omega] at this
theorem WC.vK (hm:P.follows .mixedOrders=true) (sp:List Sp) (n:Nat) (hB:mm l sp (fr.map (·.1)) n=true) (stab:nr sp 0 sp) (ops:sI P N l sp fr w 0 (l.take n))
  (tail:∀ vs w1,Kp (CR sp) w w1->gj sp vs w1 (List.range n)->WO P Q N l (l.drop n) (du l fr vs (List.range n)) w1):WC P Q N (.region id l.toArray true) fr w:=by
 have hB':=hB;simp only [mm,Bool.and_eq_true,decide_eq_true_eq] at hB';have hsp:sp.length=n:=hB'.1.1.1.2;refine WC.draw hm sp n hB (fun i hi=>?_) (fun i o hi ho=>?_) tail
 ·have:=stab.at_ i (by omega);rwa [Nat.zero_add] at this
 have:=ops.at_ i o (by rw [aes,if_pos hi]; exact ho);rwa [Nat.zero_add] at this
end
structure Reply where
 code:Int
 n:Int
deriving DecidableEq
structure Sess where
 client:Int
 seq:Int
 last:Reply
deriving DecidableEq
structure Opn where
 set:Int
 client:Int
deriving DecidableEq
structure Snap where
 id:Int
 set:Int
 chunks:List Int
 held:Bool
 tag:Str
deriving DecidableEq
structure State where
 version:Int
 next:Int
 keep:Int
 quota:Int
 sess:List Sess
 opens:List Opn
 snaps:List Snap
deriving DecidableEq
structure Command where
 kind:Int
 client:Int
 seq:Int
 set:Int
 id:Int
 n:Int
 chunks:List Int
 text:Str
deriving DecidableEq
structure SnapE where
 id:Int
 set:Int
 chunks:Bool × List Int
 held:Bool
 tag:Str
deriving DecidableEq
structure Field where
 num:Int
 wire:Int
 n:U64
 b:List UInt8
deriving DecidableEq
structure Spec where
 num:Int
 wire:Int
 since:Int
 need:Bool
 many:Bool
deriving DecidableEq
structure Entry where
 term:Int
 b:List UInt8
deriving DecidableEq
structure Record where
 kind:Int
 a:Int
 b:Int
 x:List UInt8
deriving DecidableEq
structure Letter where
 kind:Int
 frm:Int
 to:Int
 term:Int
 a:Int
 b:Int
 c:Int
 bin:Int
 ok:Bool
 l:List Entry
deriving DecidableEq
structure Event where
 kind:Int
 a:Int
 b:Int
 c:Command
deriving DecidableEq
structure CallR where
 node:Int
 number:Int
 term:Int
 at_:Int
 until_:Int
 c:Command
 done:Bool
 reply:Reply
deriving DecidableEq
structure Stable where
 floor:Int
 term:Int
 vote:Int
 log:List Entry
deriving DecidableEq
structure Route where
 frm:Int
 to:Int
 next:Int
 commit:Int
 bin:Int
deriving DecidableEq
structure Site where
 up:Bool
 role:Int
 binary:Int
 floor:Int
 term:Int
 vote:Int
 commit:Int
 applied:Int
 log:List Entry
 state:State
deriving DecidableEq
structure NOp where
 kind:UInt8
 n:Int
 x:Letter
 c:Command
deriving DecidableEq
structure Rest where
 fields:List Field
 at_:UInt8
deriving DecidableEq
structure Span where
 lo:Int
 hi:Int
deriving DecidableEq
inductive NT
 | reply | sess | opn | snap | state | command | snapE | field | spec | entry | record | letter | event | call | stable | route | site | nop | rest | span
deriving DecidableEq
abbrev NT.den:NT->Type
 | .reply=>Reply
 | .sess=>Sess
 | .opn=>Opn
 | .snap=>Snap
 | .state=>State
 | .command=>Command
 | .snapE=>SnapE
 | .field=>Field
 | .spec=>Spec
 | .entry=>Entry
 | .record=>Record
 | .letter=>Letter
 | .event=>Event
 | .call=>CallR
 | .stable=>Stable
 | .route=>Route
 | .site=>Site
 | .nop=>NOp
 | .rest=>Rest
 | .span=>Span
inductive Sh
 | int | u8 | u64 | bool | str
 | lx                                        -- a slice of ints,of one's own time (true),or of what lies ahead
 | lst (s:Sh)
 | nm (t:NT)
deriving DecidableEq
abbrev den:Sh->Type
 | .int=>Int
 | .u8=>UInt8
 | .u64=>U64
 | .bool=>Bool
 | .str=>Str
 | .lx=>Bool × List Int
 | .lst s=>List (den s)
 | .nm t=>t.den
inductive BE
 | lit (b:Bool) | atom (b:Bool)
 | lt (a b:Int) | le (a b:Int) | eq (a b:Int)
 | seq (a b:Str)
 | beq (x y:BE) | not (x:BE) | and (x y:BE) | or (x y:BE)
def BE.val:BE->Bool
 | .lit b=>b
 | .atom b=>b
 | .lt a b=>decide (a<b)
 | .le a b=>decide (a<=b)
 | .eq a b=>decide (a=b)
 | .seq a b=>decide (a=b)
 | .beq x y=>x.val == y.val
 | .not x=>!x.val
 | .and x y=>x.val && y.val
 | .or x y=>x.val || y.val
def BE.p:BE->Bool->Prop
 | .lit b,v=>b=v
 | .atom b,v=>b=v
 | .lt a b,true=>a<b
 | .lt a b,false=>b<=a
 | .le a b,true=>a<=b
 | .le a b,false=>b<a
 | .eq a b,true=>a=b
 | .eq a b,false=>¬ a=b
 | .seq a b,true=>a=b
 | .seq a b,false=>¬ a=b
 | .beq x y,v=>(x.val == y.val)=v
 | .not x,true=>x.p false
 | .not x,false=>x.p true
 | .and x y,true=>x.p true/\y.p true
 | .and x y,false=>x.p false\/y.p false
 | .or x y,true=>x.p true\/y.p true
 | .or x y,false=>x.p false/\y.p false
theorem BE.fw:∀ (e:BE) (v:Bool),e.p v↔e.val=v
 | .lit b,v=>.rfl
 | .atom b,v=>.rfl
 | .lt a b,true=>by simp [BE.p,BE.val]
 | .lt a b,false=>by simp [BE.p,BE.val]
 | .le a b,true=>by simp [BE.p,BE.val]
 | .le a b,false=>by simp [BE.p,BE.val]
 | .eq a b,true=>by simp [BE.p,BE.val]
 | .eq a b,false=>by simp [BE.p,BE.val]
 | .seq a b,true=>by simp [BE.p,BE.val]
 | .seq a b,false=>by simp [BE.p,BE.val]
 | .beq x y,v=>.rfl
 | .not x,true=>by simp [BE.p,BE.val,fw x]
 | .not x,false=>by simp [BE.p,BE.val,fw x]
 | .and x y,true=>by simp [BE.p,BE.val,fw x,fw y]
 | .and x y,false=>by cases hx:x.val <;> simp [BE.p,BE.val,fw x,fw y,hx]
 | .or x y,true=>by simp [BE.p,BE.val,fw x,fw y]
 | .or x y,false=>by simp [BE.p,BE.val,fw x,fw y]
structure TabE where
 g:Nat
 s:Sh
 xs:List (den s)
def Rl:List TabE:=[]
def abZ:List (Nat × Bool):=[]
inductive KC
 | i (n:Int) | b (v:Bool) | f (g:Nat) | nf
inductive XK
 | er (b:Bool) | pl | pa | fm (f:Str->Option Int) | bp
 | ff (s:Sh) (xs:List (den s))           -- a slice that lies,with all that is in it,ahead of one's own
 | mx (nw:Bool) (xs:List Int)            -- a slice of ints that nobody writes,or one that lies ahead of one's own
 | w (n:Nat)                               -- a word of 32 bits
 | km (l:List (Int × List KC))             -- a map of records,by ints,that nobody writes
 | kf (x:KC)                               -- a function that a record has
inductive AV
 | int (n:Int) | u8 (b:UInt8) | u64 (n:Nat) | bool (e:BE) | str (s:Str)
 | em (nil:Bool)                           -- a slice without any,and without room
 | fz (s:Sh) (xs:List (den s))           -- a slice of what nobody writes
 | li (nw:Bool) (xs:List Int)            -- a slice of ints that nobody writes: of one's own time,or ahead of it
 | own (id:Nat)                            -- all of a row of one's own
 | sub (id off len:Nat)
 | ptr (id off:Nat) | np
 | elp (id i off:Nat)                      -- at an element of a row of one's own
 | fe (s:Sh) (x:den s) (off:Nat)       -- at an element of what nobody writes
 | fn (f:Nat) (b c:List (Nat × Nat)) | nf
 | yl (l:Nat)                              -- what a range over a function hands to it: of the loop l
 | mq (id:Nat)                             -- a map of one's own
 | xx (k:XK) (cs:List (Nat × Nat))
 | dead
inductive TV1
 | c (a:AV)
 | agg (l:List AV)
inductive TV
 | one (t:TV1)
 | tup (l:List TV1)
 | un
abbrev AFr:=List (Nat × TV)
inductive AO
 | gone
 | box (t:TypeId) (cs:List AV)
 | row (t:TypeId) (s:Sh) (xs:List (den s))
 | mapo (s:Sh) (f:Int->Option (den s))
 | arr (t:TypeId) (s:Sh) (n:Nat) (xs:List (den s))   -- an array
 | mapf (l:List (Int × AV))                -- a map of functions
 | loc                                       -- something: where it lies,and no more
abbrev AH:=List AO
def lookA:AFr->Nat->Option TV
 | [],_=>none
 | (j,v) :: r,i=>bif Nat.beq j i then some v else lookA r i
def AV.aW:AV->Option Int
 | .int n=>some n
 | _=>none
def AV.VP:AV->Option UInt8
 | .u8 n=>some n
 | _=>none
def AV.VM:AV->Option U64
 | .u64 n=>some ⟨n⟩
 | _=>none
def AV.tZ:AV->Option Bool
 | .bool e=>some e.val
 | _=>none
def AV.BY:AV->Option Str
 | .str s=>some s
 | _=>none
def AV.YW:AV->Option (Bool × List Int)
 | .li b xs=>some (b,xs)
 | .em _=>some (true,[])
 | _=>none
def AV.fQ (s:Sh):AV->Option (List (den s))
 | .fz s' xs=>if h:s' = s then some (h ▸ xs) else none
 | .em _=>some []
 | _=>none
def NT.cells:(t:NT)->t.den->List AV
 | .reply,x=>[.int x.code,.int x.n]
 | .sess,x=>[.int x.client,.int x.seq,.int x.last.code,.int x.last.n]
 | .opn,x=>[.int x.set,.int x.client]
 | .snap,x=>[.int x.id,.int x.set,.fz .int x.chunks,.bool (.atom x.held),.str x.tag]
 | .state,x=>[.int x.version,.int x.next,.int x.keep,.int x.quota,.fz (.nm .sess) x.sess,.fz (.nm .opn) x.opens,.fz (.nm .snap) x.snaps]
 | .command,x=>[.int x.kind,.int x.client,.int x.seq,.int x.set,.int x.id,.int x.n,.fz .int x.chunks,.str x.text]
 | .snapE,x=>[.int x.id,.int x.set,.li x.chunks.1 x.chunks.2,.bool (.atom x.held),.str x.tag]
 | .field,x=>[.int x.num,.int x.wire,.u64 x.n.n,.fz .u8 x.b]
 | .spec,x=>[.int x.num,.int x.wire,.int x.since,.bool (.atom x.need),.bool (.atom x.many)]
 | .entry,x=>[.int x.term,.fz .u8 x.b]
 | .record,x=>[.int x.kind,.int x.a,.int x.b,.fz .u8 x.x]
 | .letter,x=>[.int x.kind,.int x.frm,.int x.to,.int x.term,.int x.a,.int x.b,.int x.c,.int x.bin,.bool (.atom x.ok),.fz (.nm .entry) x.l]
 | .event,x=>[.int x.kind,.int x.a,.int x.b,.int x.c.kind,.int x.c.client,.int x.c.seq,.int x.c.set,.int x.c.id,.int x.c.n,.fz .int x.c.chunks,.str x.c.text]
 | .call,x=>[.int x.node,.int x.number,.int x.term,.int x.at_,.int x.until_,.int x.c.kind,.int x.c.client,.int x.c.seq,.int x.c.set,.int x.c.id,.int x.c.n,.fz .int x.c.chunks,.str x.c.text,.bool (.atom x.done),.int x.reply.code,.int x.reply.n]
 | .stable,x=>[.int x.floor,.int x.term,.int x.vote,.fz (.nm .entry) x.log]
 | .route,x=>[.int x.frm,.int x.to,.int x.next,.int x.commit,.int x.bin]
 | .site,x=>[.bool (.atom x.up),.int x.role,.int x.binary,.int x.floor,.int x.term,.int x.vote,.int x.commit,.int x.applied,.fz (.nm .entry) x.log,.int x.state.version,.int x.state.next,.int x.state.keep,.int x.state.quota,.fz (.nm .sess) x.state.sess,.fz (.nm .opn) x.state.opens,.fz (.nm .snap) x.state.snaps]
 | .nop,x=>[.u8 x.kind,.int x.n,.int x.x.kind,.int x.x.frm,.int x.x.to,.int x.x.term,.int x.x.a,.int x.x.b,.int x.x.c,.int x.x.bin,.bool (.atom x.x.ok),.fz (.nm .entry) x.x.l,.int x.c.kind,.int x.c.client,.int x.c.seq,.int x.c.set,.int x.c.id,.int x.c.n,.fz .int x.c.chunks,.str x.c.text]
 | .rest,x=>[.fz (.nm .field) x.fields,.u8 x.at_]
 | .span,x=>[.int x.lo,.int x.hi]
def NT.size:NT->Nat
 | .reply=>2
 | .sess=>4
 | .opn=>2
 | .snap=>5
 | .state=>7
 | .command=>8
 | .snapE=>5
 | .field=>4
 | .spec=>5
 | .entry=>2
 | .record=>4
 | .letter=>10
 | .event=>11
 | .call=>16
 | .stable=>4
 | .route=>5
 | .site=>16
 | .nop=>20
 | .rest=>2
 | .span=>2
def NT.bytes:NT->Nat
 | .reply=>16
 | .sess=>32
 | .opn=>16
 | .snap=>64
 | .state=>104
 | .command=>88
 | .snapE=>64
 | .field=>48
 | .spec=>32
 | .entry=>32
 | .record=>48
 | .letter=>96
 | .event=>112
 | .call=>152
 | .stable=>48
 | .route=>40
 | .site=>192
 | .nop=>200
 | .rest=>32
 | .span=>16
def NT.gP:NT->List Sh
 | .reply=>[]
 | .sess=>[]
 | .opn=>[]
 | .snap=>[.int]
 | .state=>[(.nm .sess),(.nm .opn),(.nm .snap)]
 | .command=>[.int]
 | .snapE=>[.int]
 | .field=>[.u8]
 | .spec=>[]
 | .entry=>[.u8]
 | .record=>[.u8]
 | .letter=>[(.nm .entry)]
 | .event=>[.int]
 | .call=>[.int]
 | .stable=>[(.nm .entry)]
 | .route=>[]
 | .site=>[(.nm .entry),(.nm .sess),(.nm .opn),(.nm .snap)]
 | .nop=>[(.nm .entry),.int]
 | .rest=>[(.nm .field)]
 | .span=>[]
def NT.au:(t:NT)->t.den
 | .reply=>⟨0,0⟩
 | .sess=>⟨0,0,⟨0,0⟩⟩
 | .opn=>⟨0,0⟩
 | .snap=>⟨0,0,[],false,⟨[]⟩⟩
 | .state=>⟨0,0,0,0,[],[],[]⟩
 | .command=>⟨0,0,0,0,0,0,[],⟨[]⟩⟩
 | .snapE=>⟨0,0,(true,[]),false,⟨[]⟩⟩
 | .field=>⟨0,0,⟨0⟩,[]⟩
 | .spec=>⟨0,0,0,false,false⟩
 | .entry=>⟨0,[]⟩
 | .record=>⟨0,0,0,[]⟩
 | .letter=>⟨0,0,0,0,0,0,0,0,false,[]⟩
 | .event=>⟨0,0,0,⟨0,0,0,0,0,0,[],⟨[]⟩⟩⟩
 | .call=>⟨0,0,0,0,0,⟨0,0,0,0,0,0,[],⟨[]⟩⟩,false,⟨0,0⟩⟩
 | .stable=>⟨0,0,0,[]⟩
 | .route=>⟨0,0,0,0,0⟩
 | .site=>⟨false,0,0,0,0,0,0,0,[],⟨0,0,0,0,[],[],[]⟩⟩
 | .nop=>⟨0,0,⟨0,0,0,0,0,0,0,0,false,[]⟩,⟨0,0,0,0,0,0,[],⟨[]⟩⟩⟩
 | .rest=>⟨[],0⟩
 | .span=>⟨0,0⟩
def Reply.of:List AV->Option Reply
 | [a0,a1]=>match a0.aW,a1.aW with
  | some x0,some x1=>some ⟨x0,x1⟩
  | _,_=>none
 | _=>none
def Sess.of:List AV->Option Sess
 | [a0,a1,a2,a3]=>match a0.aW,a1.aW,a2.aW,a3.aW with
  | some x0,some x1,some x2,some x3=>some ⟨x0,x1,⟨x2,x3⟩⟩
  | _,_,_,_=>none
 | _=>none
def Opn.of:List AV->Option Opn
 | [a0,a1]=>match a0.aW,a1.aW with
  | some x0,some x1=>some ⟨x0,x1⟩
  | _,_=>none
 | _=>none
def Snap.of:List AV->Option Snap
 | [a0,a1,a2,a3,a4]=>match a0.aW,a1.aW,a2.fQ .int,a3.tZ,a4.BY with
  | some x0,some x1,some x2,some x3,some x4=>some ⟨x0,x1,x2,x3,x4⟩
  | _,_,_,_,_=>none
 | _=>none
def State.of:List AV->Option State
 | [a0,a1,a2,a3,a4,a5,a6]=>match a0.aW,a1.aW,a2.aW,a3.aW,a4.fQ (.nm .sess),a5.fQ (.nm .opn),a6.fQ (.nm .snap) with
  | some x0,some x1,some x2,some x3,some x4,some x5,some x6=>some ⟨x0,x1,x2,x3,x4,x5,x6⟩
  | _,_,_,_,_,_,_=>none
 | _=>none
def Command.of:List AV->Option Command
 | [a0,a1,a2,a3,a4,a5,a6,a7]=>match a0.aW,a1.aW,a2.aW,a3.aW,a4.aW,a5.aW,a6.fQ .int,a7.BY with
  | some x0,some x1,some x2,some x3,some x4,some x5,some x6,some x7=>some ⟨x0,x1,x2,x3,x4,x5,x6,x7⟩
  | _,_,_,_,_,_,_,_=>none
 | _=>none
def SnapE.of:List AV->Option SnapE
 | [a0,a1,a2,a3,a4]=>match a0.aW,a1.aW,a2.YW,a3.tZ,a4.BY with
  | some x0,some x1,some x2,some x3,some x4=>some ⟨x0,x1,x2,x3,x4⟩
  | _,_,_,_,_=>none
 | _=>none
def Field.of:List AV->Option Field
 | [a0,a1,a2,a3]=>match a0.aW,a1.aW,a2.VM,a3.fQ .u8 with
  | some x0,some x1,some x2,some x3=>some ⟨x0,x1,x2,x3⟩
  | _,_,_,_=>none
 | _=>none
def Spec.of:List AV->Option Spec
 | [a0,a1,a2,a3,a4]=>match a0.aW,a1.aW,a2.aW,a3.tZ,a4.tZ with
  | some x0,some x1,some x2,some x3,some x4=>some ⟨x0,x1,x2,x3,x4⟩
  | _,_,_,_,_=>none
 | _=>none
def Entry.of:List AV->Option Entry
 | [a0,a1]=>match a0.aW,a1.fQ .u8 with
  | some x0,some x1=>some ⟨x0,x1⟩
  | _,_=>none
 | _=>none
def Record.of:List AV->Option Record
 | [a0,a1,a2,a3]=>match a0.aW,a1.aW,a2.aW,a3.fQ .u8 with
  | some x0,some x1,some x2,some x3=>some ⟨x0,x1,x2,x3⟩
  | _,_,_,_=>none
 | _=>none
def Letter.of:List AV->Option Letter
 | [a0,a1,a2,a3,a4,a5,a6,a7,a8,a9]=>match a0.aW,a1.aW,a2.aW,a3.aW,a4.aW,a5.aW,a6.aW,a7.aW,a8.tZ,a9.fQ (.nm .entry) with
  | some x0,some x1,some x2,some x3,some x4,some x5,some x6,some x7,some x8,some x9=>some ⟨x0,x1,x2,x3,x4,x5,x6,x7,x8,x9⟩
  | _,_,_,_,_,_,_,_,_,_=>none
 | _=>none
def Event.of:List AV->Option Event
 | [a0,a1,a2,a3,a4,a5,a6,a7,a8,a9,a10]=>match a0.aW,a1.aW,a2.aW,a3.aW,a4.aW,a5.aW,a6.aW,a7.aW,a8.aW,a9.fQ .int,a10.BY with
  | some x0,some x1,some x2,some x3,some x4,some x5,some x6,some x7,some x8,some x9,some x10=>some ⟨x0,x1,x2,⟨x3,x4,x5,x6,x7,x8,x9,x10⟩⟩
  | _,_,_,_,_,_,_,_,_,_,_=>none
 | _=>none
def CallR.of:List AV->Option CallR
 | [a0,a1,a2,a3,a4,a5,a6,a7,a8,a9,a10,a11,a12,a13,a14,a15]=>match a0.aW,a1.aW,a2.aW,a3.aW,a4.aW,a5.aW,a6.aW,a7.aW,a8.aW,a9.aW,a10.aW,a11.fQ .int,a12.BY,a13.tZ,a14.aW,a15.aW with
  | some x0,some x1,some x2,some x3,some x4,some x5,some x6,some x7,some x8,some x9,some x10,some x11,some x12,some x13,some x14,some x15=>some ⟨x0,x1,x2,x3,x4,⟨x5,x6,x7,x8,x9,x10,x11,x12⟩,x13,⟨x14,x15⟩⟩
  | _,_,_,_,_,_,_,_,_,_,_,_,_,_,_,_=>none
 | _=>none
def Stable.of:List AV->Option Stable
 | [a0,a1,a2,a3]=>match a0.aW,a1.aW,a2.aW,a3.fQ (.nm .entry) with
  | some x0,some x1,some x2,some x3=>some ⟨x0,x1,x2,x3⟩
  | _,_,_,_=>none
 | _=>none
def Route.of:List AV->Option Route
 | [a0,a1,a2,a3,a4]=>match a0.aW,a1.aW,a2.aW,a3.aW,a4.aW with
  | some x0,some x1,some x2,some x3,some x4=>some ⟨x0,x1,x2,x3,x4⟩
  | _,_,_,_,_=>none
 | _=>none
def Site.of:List AV->Option Site
 | [a0,a1,a2,a3,a4,a5,a6,a7,a8,a9,a10,a11,a12,a13,a14,a15]=>match a0.tZ,a1.aW,a2.aW,a3.aW,a4.aW,a5.aW,a6.aW,a7.aW,a8.fQ (.nm .entry),a9.aW,a10.aW,a11.aW,a12.aW,a13.fQ (.nm .sess),a14.fQ (.nm .opn),a15.fQ (.nm .snap) with
  | some x0,some x1,some x2,some x3,some x4,some x5,some x6,some x7,some x8,some x9,some x10,some x11,some x12,some x13,some x14,some x15=>some ⟨x0,x1,x2,x3,x4,x5,x6,x7,x8,⟨x9,x10,x11,x12,x13,x14,x15⟩⟩
  | _,_,_,_,_,_,_,_,_,_,_,_,_,_,_,_=>none
 | _=>none
def NOp.of:List AV->Option NOp
 | [a0,a1,a2,a3,a4,a5,a6,a7,a8,a9,a10,a11,a12,a13,a14,a15,a16,a17,a18,a19]=>match a0.VP,a1.aW,a2.aW,a3.aW,a4.aW,a5.aW,a6.aW,a7.aW,a8.aW,a9.aW,a10.tZ,a11.fQ (.nm .entry),a12.aW,a13.aW,a14.aW,a15.aW,a16.aW,a17.aW,a18.fQ .int,a19.BY with
  | some x0,some x1,some x2,some x3,some x4,some x5,some x6,some x7,some x8,some x9,some x10,some x11,some x12,some x13,some x14,some x15,some x16,some x17,some x18,some x19=>some ⟨x0,x1,⟨x2,x3,x4,x5,x6,x7,x8,x9,x10,x11⟩,⟨x12,x13,x14,x15,x16,x17,x18,x19⟩⟩
  | _,_,_,_,_,_,_,_,_,_,_,_,_,_,_,_,_,_,_,_=>none
 | _=>none
def Rest.of:List AV->Option Rest
 | [a0,a1]=>match a0.fQ (.nm .field),a1.VP with
  | some x0,some x1=>some ⟨x0,x1⟩
  | _,_=>none
 | _=>none
def Span.of:List AV->Option Span
 | [a0,a1]=>match a0.aW,a1.aW with
  | some x0,some x1=>some ⟨x0,x1⟩
  | _,_=>none
 | _=>none
def NT.of:(t:NT)->List AV->Option t.den
 | .reply,l=>Reply.of l
 | .sess,l=>Sess.of l
 | .opn,l=>Opn.of l
 | .snap,l=>Snap.of l
 | .state,l=>State.of l
 | .command,l=>Command.of l
 | .snapE,l=>SnapE.of l
 | .field,l=>Field.of l
 | .spec,l=>Spec.of l
 | .entry,l=>Entry.of l
 | .record,l=>Record.of l
 | .letter,l=>Letter.of l
 | .event,l=>Event.of l
 | .call,l=>CallR.of l
 | .stable,l=>Stable.of l
 | .route,l=>Route.of l
 | .site,l=>Site.of l
 | .nop,l=>NOp.of l
 | .rest,l=>Rest.of l
 | .span,l=>Span.of l
def cellsOf:(s:Sh)->den s->List AV
 | .int,x=>[.int x]
 | .u8,x=>[.u8 x]
 | .u64,x=>[.u64 x.n]
 | .bool,x=>[.bool (.atom x)]
 | .str,x=>[.str x]
 | .lx,x=>[.li x.1 x.2]
 | .lst s,x=>[.fz s x]
 | .nm t,x=>t.cells x
def Sh.size:Sh->Nat
 | .nm t=>t.size
 | _=>1
def Sh.bytes:Sh->Nat
 | .int=>8
 | .u8=>1
 | .u64=>8
 | .bool=>1
 | .str=>16
 | .lx=>24
 | .lst _=>24
 | .nm t=>t.bytes
def au:(s:Sh)->den s
 | .int=>0
 | .u8=>0
 | .u64=>⟨0⟩
 | .bool=>false
 | .str=>⟨[]⟩
 | .lx=>(true,[])
 | .lst _=>[]
 | .nm t=>t.au
def gh:(s:Sh)->List AV->Option (den s)
 | .int,[.int n]=>some n
 | .u8,[.u8 b]=>some b
 | .u64,[.u64 n]=>some ⟨n⟩
 | .bool,[.bool e]=>some e.val
 | .str,[.str s]=>some s
 | .lx,[a]=>a.YW
 | .lst s,[a]=>a.fQ s
 | .nm t,l=>t.of l
 | _,_=>none
end Go.Proofs.YticbaadnibdbkaaGreat
namespace Go.Proofs.YticbaadnibdbkaaGreat
open Go.RowKit
inductive TK
 | i (k:IntKind) | bool | str
 | sl (e:TypeId) (s:Option Sh)
 | st (fs:List (Nat × Nat))              -- the fields' offsets and sizes
 | ar (n:Nat) (e:TypeId)
 | mp (k e:TypeId) (s:Option Sh)         -- a map with integers asx keys
 | ptr | fn | oth
 | ifc                                     -- an interface
 | ms (k e:TypeId)                       -- a map with words asx keys,of numbers
 | mg (k e:TypeId) (z:List KC)         -- a map with integers asx keys,of records
structure TI where
 k:TK
 size:Nat
 zero:List AV
def aU:List (Nat × TI)->Nat->Option TI
 | [],_=>none
 | (j,v) :: r,i=>bif Nat.beq j i then some v else aU r i
structure PR where
 v:TV
 ob:List Prop:=[]
 fc:List Prop:=[]
def one (a:AV):TV:=.one (.c a)
def pr (a:AV) (ob:List Prop:=[]) (fc:List Prop:=[]):Option PR:=some ⟨.one (.c a),ob,fc⟩
def AV.ok:AV->List Prop
 | .int n=>[I64 n]
 | .u64 n=>[n<18446744073709551616]
 | .str s=>[s.b.length<=140737488355328]
 | .fz s xs=>[xs.length*s.bytes<=140737488355328]
 | _=>[]
def Jg:List AV->List Prop
 | []=>[]
 | a :: r=>a.ok++Jg r
def TV1.ok:TV1->List Prop
 | .c a=>a.ok
 | .agg l=>Jg l
def Gs:List TV1->List Prop
 | []=>[]
 | a :: r=>a.ok++Gs r
def getO (H:AH) (id:Nat):AO:=H.getD id .gone
def AV.vw (H:AH):AV->AV
 | .own id=>match getO H id with
  | .row _ s xs=>.fz s xs
  | _=>.dead
 | .sub id off len=>match getO H id with
  | .row _ s xs=>.fz s ((xs.drop off).take len)
  | _=>.dead
 | a=>a
def cAV:Value->Option AV
 | .int .i64 n=>bif decide (-9223372036854775808<=n) && decide (n<=9223372036854775807) then some (.int n) else none
 | .int .u8 n=>bif decide (0<=n) && decide (n<256) then some (.u8 (UInt8.ofNat n.toNat)) else none
 | .int .u64 n=>bif decide (0<=n) && decide (n<18446744073709551616) then some (.u64 n.toNat) else none
 | .int .u32 n=>bif decide (0<=n) && decide (n<4294967296) then some (.xx (.w n.toNat) []) else none
 | .bool b=>some (.bool (.lit b))
 | .string s=>bif Nat.ble s.data.toList.length 140737488355328 then some (.str ⟨s.data.toList⟩) else none
 | .slice none 0 0=>some (.em true)
 | .pointer none=>some .np
 | .nilIface=>some (.xx (.er true) [])
 | .nilFunc=>some .nf
 | _=>none
def c_ (fr:AFr):Operand->Option TV
 | .tmp i=>lookA fr i
 | .const v=>match cAV v with
  | some a=>some (one a)
  | none=>none
 | .func f=>some (one (.fn f [] []))
 | .global _=>none
def BE.neg:BE->BE
 | .lit b=>.lit (!b)
 | .not e=>e
 | e=>.not e
def Wn (a b:Int):Int:=((a.toNat ||| b.toNat:Nat):Int)
def IP (a b:Int):Int:=((BitVec.ofInt 64 a &&& BitVec.ofInt 64 b).toNat:Int)
def ZJ (op:BinOp):AV->AV->Option PR
 | .int a,.int b=>match op with
  | .lss=>pr (.bool (.lt a b))
  | .leq=>pr (.bool (.le a b))
  | .gtr=>pr (.bool (.lt b a))
  | .geq=>pr (.bool (.le b a))
  | .eql=>pr (.bool (.eq a b))
  | .neq=>pr (.bool (.not (.eq a b)))
  | .add=>pr (.int (a+b)) [I64 (a+b)]
  | .sub=>pr (.int (a - b)) [I64 (a - b)]
  | .mul=>pr (.int (a*b)) [I64 (a*b)]
  | .quo=>pr (.int (a.tdiv b)) [0<=a,0<b]
  | .rem=>pr (.int (a.tmod b)) [0<=a,0<b]
  | .and=>pr (.int (IP a b)) [0<=b]
  | .or=>pr (.int (Wn a b)) [0<=a,0<=b]
  | _=>none
 | .u8 a,.u8 b=>match op with
  | .lss=>pr (.bool (.lt a.toNat b.toNat))
  | .leq=>pr (.bool (.le a.toNat b.toNat))
  | .gtr=>pr (.bool (.lt b.toNat a.toNat))
  | .geq=>pr (.bool (.le b.toNat a.toNat))
  | .eql=>pr (.bool (.eq a.toNat b.toNat))
  | .neq=>pr (.bool (.not (.eq a.toNat b.toNat)))
  | .and=>pr (.u8 (a &&& b))
  | .or=>pr (.u8 (a ||| b))
  | .rem=>pr (.u8 (a % b)) [0<b.toNat]
  | .quo=>pr (.u8 (a / b)) [0<b.toNat]
  | _=>none
 | .u64 a,.u64 b=>match op with
  | .lss=>pr (.bool (.lt a b))
  | .leq=>pr (.bool (.le a b))
  | .gtr=>pr (.bool (.lt b a))
  | .geq=>pr (.bool (.le b a))
  | .eql=>pr (.bool (.eq a b))
  | .neq=>pr (.bool (.not (.eq a b)))
  | .add=>pr (.u64 ((a+b) % 18446744073709551616))
  | .or=>pr (.u64 (a ||| b))
  | .quo=>pr (.u64 (a / b)) [0<b]
  | .rem=>pr (.u64 (a % b)) [0<b]
  | .shl=>pr (.u64 ((a*2 ^ b) % 18446744073709551616)) [b<64]
  | .shr=>pr (.u64 (a / 2 ^ b)) [b<64]
  | _=>none
 | .u64 a,.int b=>match op with
  | .shl=>pr (.u64 ((a*2 ^ b.toNat) % 18446744073709551616)) [0<=b,b<64]
  | .shr=>pr (.u64 (a / 2 ^ b.toNat)) [0<=b,b<64]
  | _=>none
 | .int a,.u64 b=>match op with
  | .shl=>pr (.int (a*2 ^ b)) [b<64,I64 (a*2 ^ b)]
  | _=>none
 | .u8 a,.u64 b=>match op with
  | .shr=>pr (.u8 (UInt8.ofNat (a.toNat / 2 ^ b))) [b<8]
  | _=>none
 | .bool a,.bool b=>match op with
  | .eql=>pr (.bool (.beq a b))
  | .neq=>pr (.bool (.not (.beq a b)))
  | _=>none
 | .str a,.str b=>match op with
  | .eql=>pr (.bool (.seq a b))
  | .neq=>pr (.bool (.not (.seq a b)))
  | .add=>pr (.str ⟨a.b++b.b⟩) [a.b.length+b.b.length<=140737488355328]
  | _=>none
 | .em a,.em true=>match op with
  | .eql=>pr (.bool (.lit a))
  | .neq=>pr (.bool (.lit (!a)))
  | _=>none
 | _,_=>none
inductive LK
 | i (k:IntKind) | b | s
deriving DecidableEq
def AV.lk:AV->Option LK
 | .int _=>some (.i .i64)
 | .u8 _=>some (.i .u8)
 | .u64 _=>some (.i .u64)
 | .bool _=>some .b
 | .str _=>some .s
 | _=>none
def UZ:List AV->Option (List LK)
 | []=>some []
 | a :: r=>match a.lk,UZ r with
  | some k,some l=>some (k :: l)
  | _,_=>none
def Ug:AV->AV->Option BE
 | .int a,.int b=>some (.eq a b)
 | .u8 a,.u8 b=>some (.eq a.toNat b.toNat)
 | .u64 a,.u64 b=>some (.eq a b)
 | .bool x,.bool y=>some (.beq x y)
 | .str a,.str b=>some (.seq a b)
 | _,_=>none
def Bp:List AV->List AV->Option BE
 | [],[]=>some (.lit true)
 | [a],[b]=>Ug a b
 | a :: r,b :: l=>match Ug a b,Bp r l with
  | some x,some y=>some (.and x y)
  | _,_=>none
 | _,_=>none
def eqG (T:List (Nat × TI)) (op:BinOp) (t:TypeId) (asx bs:List AV):Option PR:=match aU T t with
 | some ⟨.st _,_,z⟩=>match UZ z,UZ asx,UZ bs with
  | some k,some k1,some k2=>match decide (k1=k) && decide (k2=k),Bp asx bs,op with
   | true,some e,.eql=>pr (.bool e)
   | true,some e,.neq=>pr (.bool (.not e))
   | _,_,_=>none
  | _,_,_=>none
 | _=>none
def OA (T:List (Nat × TI)) (t:TypeId):AV->Bool
 | .bool _=>match aU T t with
  | some ⟨.bool,_,_⟩=>true
  | _=>false
 | .em _=>match aU T t with
  | some ⟨.sl _ _,_,_⟩=>true
  | _=>false
 | .xx _ _=>false
 | _=>true
def eX (n:Nat):Int:=if n<9223372036854775808 then n else (n:Int) - 18446744073709551616
def OQ (H:AH) (s t:TK) (x:AV):Option PR:=
 match s,t,x with
 | .i .i64,.i .i64,.int n=>pr (.int n)
 | .i .u8,.i .i64,.u8 b=>pr (.int b.toNat)
 | .i .u8,.i .u64,.u8 b=>pr (.u64 b.toNat)
 | .i .i64,.i .u8,.int n=>pr (.u8 (UInt8.ofNat n.toNat)) [0<=n]
 | .i .i64,.i .u64,.int n=>pr (.u64 n.toNat) [0<=n]
 | .i .u64,.i .u8,.u64 n=>pr (.u8 (UInt8.ofNat n))
 | .i .u64,.i .i64,.u64 n=>pr (.int (eX n))
 | .i .u64,.i .u64,.u64 n=>pr (.u64 n)
 | .sl _ (some .u8),.str,x=>match x.vw H with
  | .fz .u8 xs=>pr (.str ⟨xs⟩)
  | .em _=>pr (.str ⟨[]⟩)
  | _=>none
 | .str,.sl _ (some .u8),.str s=>pr (.fz .u8 s.b)
 | _,_,_=>none
def Xr (T:List (Nat × TI)) (H:AH) (t:TypeId) (x:AV):Option Int:=
 match x,aU T t with
 | .fz _ xs,some ⟨.sl _ _,_,_⟩=>some xs.length
 | .str s,some ⟨.str,_,_⟩=>some s.b.length
 | .em _,some ⟨.sl _ _,_,_⟩=>some 0
 | .own id,some ⟨.sl _ _,_,_⟩=>match getO H id with
  | .row _ _ xs=>some xs.length
  | _=>none
 | .sub id _ len,some ⟨.sl _ _,_,_⟩=>match getO H id with
  | .row _ _ _=>some len
  | _=>none
 | .xx .pl cs,some ⟨.sl _ _,_,_⟩=>some cs.length
 | _,_=>none
def AV.ix:AV->Option Int
 | .int n=>some n
 | .u8 b=>some b.toNat
 | .u64 n=>some n
 | _=>none
def Wp (T:List (Nat × TI)) (t:TypeId):Option Sh:=match aU T t with
 | some ⟨.sl _ s,_,_⟩=>s
 | _=>none
def rv (H:AH) (s':Sh) (x:AV) (i:Int):Option PR:=
 match x with
 | .fz s xs=>match decide (s' = s) with
  | true=>pr (.fe s (xs.getD i.toNat (au s)) 0) [0<=i,i<xs.length] (Jg (cellsOf s (xs.getD i.toNat (au s))))
  | false=>none
 | .own id=>match getO H id with
  | .row _ s xs=>match decide (s' = s) with
   | true=>pr (.elp id i.toNat 0) [0<=i,i<xs.length] (Jg (cellsOf s (xs.getD i.toNat (au s))))
   | false=>none
  | _=>none
 | _=>none
def xQ (H:AH):AV->Option (List AV × Nat)
 | .ptr id o=>match getO H id with
  | .box _ cs=>some (cs,o)
  | _=>none
 | .elp id i o=>match getO H id with
  | .row _ s xs=>some (cellsOf s (xs.getD i (au s)),o)
  | _=>none
 | .fe s x o=>some (cellsOf s x,o)
 | .xx .pa [q]=>some ([.ptr q.1 q.2],0)
 | _=>none
def Ez (T:List (Nat × TI)) (H:AH) (t:TypeId) (x:AV):Option PR:=
 match aU T t,xQ H x with
 | some ti,some (cs,o)=>match ti.k,Nat.ble (o+ti.size) cs.length with
  | .st _,true=>some ⟨.one (.agg ((cs.drop o).take ti.size)),[],[]⟩
  | .ar _ _,true=>some ⟨.one (.agg ((cs.drop o).take ti.size)),[],[]⟩
  | .oth,_=>none
  | .st _,_=>none
  | .ar _ _,_=>none
  | _,_=>match cs[o]? with
   | some a=>pr a [] []
   | none=>none
 | _,_=>none
def AV.oV (k:Nat):AV->Option PR
 | .ptr id o=>pr (.ptr id (o+k))
 | .elp id i o=>pr (.elp id i (o+k))
 | .fe s x o=>pr (.fe s x (o+k))
 | _=>none
def kD (T:List (Nat × TI)) (t:TypeId) (x:AV) (l h:Option Int):Option PR:=
 match x with
 | .fz s xs=>match Wp T t with
  | some s'=>match decide (s' = s) with
   | true=>match l,h with
    | some l,none=>pr (.fz s (xs.drop l.toNat)) [0<=l,l<=xs.length]
    | none,some h=>pr (.fz s (xs.take h.toNat)) [0<=h,h<=xs.length]
    | some l,some h=>pr (.fz s ((xs.drop l.toNat).take (h.toNat - l.toNat))) [0<=l,l<=h,h<=xs.length]
    | _,_=>none
   | false=>none
  | none=>none
 | .str s=>match aU T t with
  | some ⟨.str,_,_⟩=>match l,h with
   | some l,none=>pr (.str ⟨s.b.drop l.toNat⟩) [0<=l,l<=s.b.length]
   | none,some h=>pr (.str ⟨s.b.take h.toNat⟩) [0<=h,h<=s.b.length]
   | some l,some h=>pr (.str ⟨(s.b.drop l.toNat).take (h.toNat - l.toNat)⟩) [0<=l,l<=h,h<=s.b.length]
   | _,_=>none
  | _=>none
 | _=>none
def TV1.cells:TV1->List AV
 | .c a=>[a]
 | .agg l=>l
def CO (fr:AFr):List Operand->Option (List TV1)
 | []=>some []
 | x :: r=>match c_ fr x,CO fr r with
  | some (.one a),some l=>some (a :: l)
  | _,_=>none
def xH (fr:AFr):List (Nat × Operand)->Option (List (Nat × TV1))
 | []=>some []
 | (i,x) :: r=>match c_ fr x,xH fr r with
  | some (.one a),some l=>some ((i,a) :: l)
  | _,_=>none
def over (l:List AV) (o:Nat) (cs:List AV):List AV:=l.take o++cs++l.drop (o+cs.length)
def lp (fs:List (Nat × Nat)):List AV->List (Nat × TV1)->Option (List AV)
 | z,[]=>some z
 | z,(i,v) :: r=>match fs[i]? with
  | some (o,n)=>match Nat.beq v.cells.length n && Nat.ble (o+n) z.length with
   | true=>lp fs (over z o v.cells) r
   | false=>none
  | none=>none
def lf:Nat->Nat->List (Nat × Nat)
 | _,0=>[]
 | k,n+1=>(k,1) :: lf (k+1) n
def jJ:List TV1->Option (List (Nat × Nat))
 | []=>some []
 | .c (.ptr id o) :: r=>match jJ r with
  | some l=>some ((id,o) :: l)
  | none=>none
 | _=>none
def AV.plain:AV->Bool
 | .int _=>true
 | .u8 _=>true
 | .u64 _=>true
 | .bool _=>true
 | .str _=>true
 | .em _=>true
 | .fz _ _=>true
 | .li _ _=>true
 | _=>false
def Yt (T:List (Nat × TI)) (e:TypeId):Option Sh:=match aU T e with
 | some ⟨.i .i64,1,_⟩=>some .int
 | some ⟨.i .u8,1,_⟩=>some .u8
 | some ⟨.i .u64,1,_⟩=>some .u64
 | some ⟨.bool,1,_⟩=>some .bool
 | some ⟨.str,1,_⟩=>some .str
 | _=>none
def sf (s:Sh):List AV->Option (List (den s))
 | []=>some []
 | a :: r=>match gh s [a],sf s r with
  | some x,some l=>some (x :: l)
  | _,_=>none
def xy (s:Sh) (xs:List (den s)):Nat->Nat->List AV
 | _,0=>[]
 | k,n+1=>cellsOf s (xs.getD k (au s))++xy s xs (k+1) n
def Lr (T:List (Nat × TI)) (t:TypeId) (cs:List AV):AO:=match aU T t with
 | some ⟨.ar m e,_,_⟩=>match Yt T e with
  | some s=>match sf s cs with
   | some xs=>match Nat.beq xs.length m && Nat.beq s.size 1 with
    | true=>.arr t s m xs
    | false=>.box t cs
   | none=>.box t cs
  | none=>.box t cs
 | _=>.box t cs
def qO (T:List (Nat × TI)) (H:AH) (t:TypeId) (x:AV):Option PR:=
 match x with
 | .ptr id o=>match getO H id with
  | .arr _ s n xs=>match aU T t with
   | some ⟨.ar m _,sz,_⟩=>match Nat.beq o 0 && Nat.beq m n && Nat.beq sz n && Nat.beq s.size 1 with
    | true=>some ⟨.one (.agg (xy s xs 0 n)),[],[]⟩
    | false=>none
   | some ti=>match ti.k,Nat.beq s.size 1,cellsOf s (xs.getD o (au s)) with
    | .st _,_,_=>none
    | .ar _ _,_,_=>none
    | .oth,_,_=>none
    | _,true,[a]=>pr a [o<n] a.ok
    | _,_,_=>none
   | none=>none
  | _=>none
 | _=>none
def yx (T:List (Nat × TI)) (e:TypeId):Bool:=match aU T e with
 | some ⟨.ptr,1,[.np]⟩=>true
 | _=>false
def iv (T:List (Nat × TI)) (H:AH) (t:TypeId) (x:AV) (i:Int):Option PR:=
 match x,aU T t with
 | .ptr id 0,some ⟨.ar m e,_,_⟩=>match getO H id,Yt T e with
  | .arr _ s n _,some _=>match Nat.beq m n && Nat.beq s.size 1 with
   | true=>pr (.ptr id i.toNat) [0<=i,i<n]
   | false=>none
  | _,_=>none
 | .xx .pl cs,some ⟨.sl e none,_,_⟩=>match yx T e,cs[i.toNat]? with
  | true,some q=>pr (.xx .pa [q]) [0<=i,i<cs.length]
  | _,_=>none
 | _,_=>none
def qX (g:Nat):List TabE->Option TabE
 | []=>none
 | e :: r=>bif Nat.beq g e.g then some e else qX g r
def tU (T:List (Nat × TI)) (t:TypeId) (x:Operand) (i:Int):Option PR:=
 match x with
 | .global g=>match qX g Rl,aU T t with
  | some e,some ⟨.ar m el,_,_⟩=>match Yt T el with
   | some s=>match decide (s=e.s) && Nat.beq m e.xs.length with
    | true=>pr (.fe e.s (e.xs.getD i.toNat (au e.s)) 0) [0<=i,i<m] (Jg (cellsOf e.s (e.xs.getD i.toNat (au e.s))))
    | false=>none
   | none=>none
  | _,_=>none
 | _=>none
def lu (T:List (Nat × TI)) (t:TypeId) (cs:List AV) (i:Int):Option PR:=
 match aU T t with
 | some ⟨.ar m e,_,_⟩=>match Yt T e with
  | some s=>match sf s cs with
   | some xs=>match Nat.beq xs.length m,cellsOf s (xs.getD i.toNat (au s)) with
    | true,[a]=>pr a [0<=i,i<m] a.ok
    | _,_=>none
   | none=>none
  | none=>none
 | _=>none
structure SpecR where
 pre:List Prop:=[]
 rs:List TV1
 out:Option AH:=none        -- none: what is there stays asx it is
 keep:Bool:=false           -- what was there stays asx it is,and where it is
abbrev bN:=Nat->List TV1->AH->Option SpecR
def Zg (O:bN):Bool:=(O 1000000000 [] []).isSome
def YG (a b:Int):Int:=IntKind.i64.wrap (a - b)
def aaB (O:bN):Bool:=(O 1000000001 [] []).isSome
def YY (a b:Int):Int:=IntKind.i64.wrap (a+b)
def Xt (O:bN) (op:BinOp) (a b:AV):Option PR:=match Zg O,aaB O,op,a,b with
 | true,_,.sub,.int x,.int y=>pr (.int (YG x y))
 | _,true,.add,.int x,.int y=>pr (.int (YY x y))
 | _,_,op,a,b=>ZJ op a b
def AV.ids:AV->List Nat
 | .own i=>[i]
 | .sub i _ _=>[i]
 | .elp i _ _=>[i]
 | .ptr i _=>[i]
 | .fn _ b c=>b.map (·.1)++c.map (·.1)
 | .mq i=>[i]
 | .xx _ cs=>cs.map (·.1)
 | _=>[]
def wV:List AV->List Nat
 | []=>[]
 | a :: r=>a.ids++wV r
def qx:List TV1->List Nat
 | []=>[]
 | a :: r=>wV a.cells++qx r
def JU:List (Int × AV)->List Nat
 | []=>[]
 | (_,a) :: r=>a.ids++JU r
def AO.ids:AO->List Nat
 | .box _ cs=>wV cs
 | .mapf l=>JU l
 | _=>[]
def bX (i:Nat):List Nat->Bool
 | []=>false
 | j :: r=>bif Nat.beq i j then true else bX i r
def reach (H:AH):Nat->List Nat->List Nat->List Nat
 | 0,_,seen=>seen
 | _+1,[],seen=>seen
 | n+1,i :: r,seen=>bif bX i seen then reach H n r seen else reach H n ((getO H i).ids++r) (seen++[i])
def posOf (i:Nat):List Nat->Nat
 | []=>0
 | j :: r=>bif Nat.beq i j then 0 else posOf i r+1
def NB (f:Nat->Nat):List (Nat × Nat)->List (Nat × Nat)
 | []=>[]
 | (i,o) :: r=>(f i,o) :: NB f r
def AV.lP (f:Nat->Nat):AV->AV
 | .own i=>.own (f i)
 | .sub i o l=>.sub (f i) o l
 | .elp i k o=>.elp (f i) k o
 | .ptr i o=>.ptr (f i) o
 | .fn g b c=>.fn g (NB f b) (NB f c)
 | .mq i=>.mq (f i)
 | .xx k cs=>.xx k (NB f cs)
 | a=>a
def ND (f:Nat->Nat):List AV->List AV
 | []=>[]
 | a :: r=>a.lP f :: ND f r
def TV1.lP (f:Nat->Nat):TV1->TV1
 | .c a=>.c (a.lP f)
 | .agg l=>.agg (ND f l)
def iV (f:Nat->Nat):List TV1->List TV1
 | []=>[]
 | a :: r=>a.lP f :: iV f r
def RS (f:Nat->Nat):List (Int × AV)->List (Int × AV)
 | []=>[]
 | (k,a) :: r=>(k,a.lP f) :: RS f r
def AO.lP (f:Nat->Nat):AO->AO
 | .box t cs=>.box t (ND f cs)
 | .mapf l=>.mapf (RS f l)
 | o=>o
def oE (f:Nat->Nat):List AO->List AO
 | []=>[]
 | a :: r=>a.lP f :: oE f r
def EA (H:AH):List AV->List AV
 | []=>[]
 | a :: r=>a.vw H :: EA H r
def TV1.vw (H:AH):TV1->TV1
 | .c a=>.c (a.vw H)
 | .agg l=>.agg (EA H l)
def IL (H:AH):List TV1->List TV1
 | []=>[]
 | a :: r=>a.vw H :: IL H r
def tH (H:AH) (l:List TV1):List Nat:=reach H 64 (qx l) []
def kN (H:AH):List Nat->List AO
 | []=>[]
 | i :: r=>getO H i :: kN H r
def Hr:List TV1->TV
 | [a]=>.one a
 | l=>.tup l
def qi (σ:List Nat):List Nat->Bool
 | []=>true
 | i :: r=>bX i σ && qi σ r
def lE:List Nat->Bool
 | []=>true
 | i :: r=>!bX i r && lE r
def gO (H:AH) (σ:List Nat):List Nat->Bool
 | []=>true
 | i :: r=>Nat.blt i H.length && qi σ (getO H i).ids && gO H σ r
def Sh.gP:Sh->List Sh
 | .lst s=>[s]
 | .lx=>[.int]
 | .nm t=>t.gP
 | _=>[]
def jk (f:Sh->Bool):List Sh->Bool
 | []=>true
 | s :: r=>f s && jk f r
def Sh.no:Nat->Sh->Sh->Bool
 | 0,_,_=>false
 | n+1,b,s=>!decide (s=b) && jk (Sh.no n b) s.gP
def AV.no (b:Sh):AV->Bool
 | .fz s _=>Sh.no 5 b s
 | .li _ _=>Sh.no 5 b .int
 | .fe _ _ _=>false
 | .xx k _=>match k with
  | .er _=>true
  | .bp=>true
  | .ff _ _=>true
  | .w _=>true
  | .kf _=>true
  | _=>false
 | _=>true
def ZH (b:Sh):List AV->Bool
 | []=>true
 | a :: r=>a.no b && ZH b r
def noT (b:Sh):List TV1->Bool
 | []=>true
 | a :: r=>ZH b a.cells && noT b r
def eU:List AV->List Nat
 | []=>[]
 | .own i :: r=>i :: eU r
 | .sub i _ _ :: r=>i :: eU r
 | _ :: r=>eU r
def fO:List TV1->List Nat
 | []=>[]
 | a :: r=>eU a.cells++fO r
def fB (H:AH):List Nat->List Sh
 | []=>[]
 | i :: r=>match getO H i with
  | .row _ s _=>s :: fB H r
  | _=>fB H r
def oD (σ:List Nat):List Nat->Bool
 | []=>true
 | i :: r=>!bX i σ && oD σ r
def pD (H:AH):List Nat->Bool
 | []=>true
 | i :: r=>(match getO H i with
  | .row _ _ _=>true
  | _=>false) && pD H r
def DW (O:bN) (H:AH) (f:Nat) (args:List TV1):Option PR:=
 match tH H (IL H args) with
 | σ=>match lE σ && qi σ (qx (IL H args)) && gO H σ σ && oD σ (fO args) && pD H (fO args) with
  | true=>match O f (iV (posOf · σ) (IL H args)) (oE (posOf · σ) (kN H σ)) with
   | some ⟨pre,rs,none,_⟩=>match jk (fun b=>noT b rs) (fB H (fO args)) with
    | true=>some ⟨Hr (iV (fun j=>σ.getD j 0) rs),pre,Gs rs⟩
    | false=>none
   | _=>none
  | false=>none
variable (T:List (Nat × TI)) (O:bN)
def iG (fr:AFr) (c:Call):Option (Nat × List TV1):=
 match c.callee with
 | .value f=>match c_ fr f,CO fr c.args.toList with
  | some (.one (.c (.fn g b cs))),some l=>some (g,b.map (fun q=>.c (.ptr q.1 q.2))++(l++cs.map (fun q=>.c (.ptr q.1 q.2))))
  | some (.one (.c (.xx (.kf x) []))),some l=>match x with
   | .f g=>some (g,l)
   | _=>none
  | _,_=>none
 | _=>none
def Sh.oU:Sh->Bool
 | .nm _=>true
 | _=>false
def Kk (s:Sh) (x:den s):TV1:=bif s.oU then .agg (cellsOf s x) else match cellsOf s x with
 | [a]=>.c a
 | l=>.agg l
def Xy (O:bN):Bool:=(O 1000000002 [] []).isSome
def Yv (n:Int):UInt8:=UInt8.ofNat (n % 256).toNat
def JQ (O:bN) (H:AH) (s t:TK) (x:AV):Option PR:=match Xy O,s,t,x with
 | true,.i .i64,.i .u8,.int n=>pr (.u8 (Yv n))
 | _,s,t,x=>OQ H s t x
def erA (T:List (Nat × TI)) (op:BinOp) (t:TypeId) (x:Option TV):Operand->Option PR
 | .const .nilIface=>match aU T t,x with
  | some ⟨.ifc,_,_⟩,some (.one (.c (.xx (.er b) [])))=>match op with
   | .eql=>pr (.bool (.atom b))
   | .neq=>pr (.bool (.not (.atom b)))
   | _=>none
  | _,_=>none
 | _=>none
def rH:Nat->List (Nat × TV1)->Option (List (Nat × Nat))
 | _,[]=>some []
 | k,(i,.c (.ptr id o)) :: r=>match Nat.beq i k,rH (k+1) r with
  | true,some l=>some ((id,o) :: l)
  | _,_=>none
 | _,_=>none
def Ma (T:List (Nat × TI)) (t:TypeId) (x y:Option TV) (ok:Bool):Option PR:=
 match aU T t,x,y with
 | some ⟨.ms _ _,_,_⟩,some (.one (.c (.xx (.fm f) []))),some (.one (.c (.str s)))=>match ok with
  | false=>pr (.int ((f s).getD 0))
  | true=>none
 | _,_,_=>none
def pvB (H:AH) (fr:AFr):Op->Option PR
 | .move x=>match c_ fr x with
  | some v=>some ⟨v,[],[]⟩
  | none=>none
 | .assign x=>match c_ fr x with
  | some v=>some ⟨v,[],[]⟩
  | none=>none
 | .unOp .not _ x=>match c_ fr x with
  | some (.one (.c (.bool e)))=>pr (.bool e.neg)
  | _=>none
 | .binOp op t x y _=>match c_ fr x,c_ fr y with
  | some (.one (.c a)),some (.one (.c b))=>match OA T t a with
   | true=>Xt O op a b
   | false=>erA T op t (some (.one (.c a))) y
  | some (.one (.agg a)),some (.one (.agg b))=>eqG T op t a b
  | _,_=>none
 | .extract x i=>match c_ fr x with
  | some (.tup l)=>match l[i]? with
   | some a=>some ⟨.one a,[],[]⟩
   | none=>none
  | _=>none
 | .nilCheck x=>match c_ fr x with
  | some (.one (.c a))=>match a with
   | .ptr _ _=>pr a
   | .elp _ _ _=>pr a
   | .fe _ _ _=>pr a
   | .fn _ _ _=>pr a
   | _=>none
  | _=>none
 | .convert s t x=>match aU T s,aU T t,c_ fr x with
  | some a,some b,some (.one (.c v))=>JQ O H a.k b.k v
  | _,_,_=>none
 | .makeFunc (.func f) b c=>match b.toList,CO fr c.toList with
  | [],some cs=>match jJ cs with
   | some cp=>pr (.fn f [] cp)
   | none=>none
  | _,_=>none
 | .fieldAddr t x i=>match aU T t,c_ fr x with
  | some ⟨.st fs,_,_⟩,some (.one (.c a))=>match fs[i]? with
   | some (o,_)=>a.oV o
   | none=>none
  | _,_=>none
 | .load t x=>match c_ fr x with
  | some (.one (.c a))=>match qO T H t a with
   | some r=>some r
   | none=>Ez T H t a
  | _=>none
 | .indexAddr t x y=>match c_ fr x,c_ fr y,Wp T t with
  | some (.one (.c a)),some (.one (.c b)),some s=>match b.ix with
   | some i=>rv H s a i
   | none=>none
  | some (.one (.c a)),some (.one (.c b)),none=>match b.ix with
   | some i=>iv T H t a i
   | none=>none
  | none,some (.one (.c b)),none=>match b.ix with
   | some i=>tU T t x i
   | none=>none
  | _,_,_=>none
 | .index t x y=>match c_ fr x,c_ fr y with
  | some (.one (.c (.str s))),some (.one (.c b))=>match b.ix with
   | some i=>match aU T t with
    | some ⟨.str,_,_⟩=>pr (.u8 (s.b.getD i.toNat 0)) [0<=i,i<s.b.length]
    | _=>none
   | none=>none
  | some (.one (.agg cs)),some (.one (.c b))=>match b.ix with
   | some i=>lu T t cs i
   | none=>none
  | _,_=>none
 | .lookup t x y ok=>match aU T t,c_ fr x,c_ fr y with
  | some ⟨.mp _ _ (some s),_,_⟩,some (.one (.c (.mq id))),some (.one (.c (.int k)))=>match getO H id with
   | .mapo s' f=>if h:s' = s then (match ok with
    | false=>some ⟨.one (Kk s ((h ▸ f k:Option (den s)).getD (au s))),[],[]⟩
    | true=>some ⟨.tup [Kk s ((h ▸ f k:Option (den s)).getD (au s)),.c (.bool (.atom (f k).isSome))],[],[]⟩) else none
   | _=>none
  | _,x,y=>Ma T t x y ok
 | .buildSlice t n parts=>match aU T t,xH fr parts.toList with
  | some ⟨.sl e none,_,_⟩,some l=>match rH 0 l with
   | some cs=>match Nat.beq cs.length n && yx T e && Nat.ble n 16777216 with
    | true=>pr (.xx .pl cs)
    | false=>none
   | none=>none
  | _,_=>none
 | .build t parts=>match aU T t,xH fr parts.toList with
  | some ⟨.st fs,_,z⟩,some l=>match lp fs z l with
   | some cs=>some ⟨.one (.agg cs),[],[]⟩
   | none=>none
  | some ⟨.ar m e,_,z⟩,some l=>match Yt T e,lp (lf 0 m) z l with
   | some _,some cs=>some ⟨.one (.agg cs),[],[]⟩
   | _,_=>none
  | _,_=>none
 | .slice t x l h none=>match c_ fr x with
  | some (.one (.c a))=>match l,h with
   | none,none=>none
   | some l,none=>match c_ fr l with
    | some (.one (.c (.int l)))=>kD T t a (some l) none
    | _=>none
   | none,some h=>match c_ fr h with
    | some (.one (.c (.int h)))=>kD T t a none (some h)
    | _=>none
   | some l,some h=>match c_ fr l,c_ fr h with
    | some (.one (.c (.int l))),some (.one (.c (.int h)))=>kD T t a (some l) (some h)
    | _,_=>none
  | _=>none
 | .call c=>match c.callee with
  | .builtin .len=>match c.args.toList,c.argTypes.toList with
   | [x],[t]=>match c_ fr x with
    | some (.one (.c a))=>match Xr T H t a with
     | some n=>pr (.int n)
     | none=>none
    | _=>none
   | _,_=>none
  | .builtin .min=>match c.args.toList with
   | [x,y]=>match c_ fr x,c_ fr y with
    | some (.one (.c (.int a))),some (.one (.c (.int b)))=>pr (.int (min a b))
    | some (.one (.c (.u64 a))),some (.one (.c (.u64 b)))=>pr (.u64 (min a b))
    | _,_=>none
   | _=>none
  | .builtin .max=>match c.args.toList with
   | [x,y]=>match c_ fr x,c_ fr y with
    | some (.one (.c (.int a))),some (.one (.c (.int b)))=>pr (.int (max a b))
    | _,_=>none
   | _=>none
  | .value _=>match iG fr c with
   | some (f,l)=>DW O H f l
   | none=>none
  | _=>none
 | _=>none
def wOp (op:BinOp) (a b:Nat):Option PR:=match op with
 | .eql=>pr (.bool (.eq a b))
 | .neq=>pr (.bool (.not (.eq a b)))
 | .add=>pr (.xx (.w ((a+b) % 4294967296)) [])
 | .mul=>pr (.xx (.w ((a*b) % 4294967296)) [])
 | .rem=>pr (.xx (.w (a % b)) []) [0<b]
 | .quo=>pr (.xx (.w (a / b)) []) [0<b]
 | .or=>pr (.xx (.w (a ||| b)) [])
 | _=>none
def wSh (op:BinOp) (a b:Nat):Option PR:=match op with
 | .shl=>pr (.xx (.w ((a*2 ^ b) % 4294967296)) []) [b<32]
 | .shr=>pr (.xx (.w (a / 2 ^ b)) []) [b<32]
 | _=>none
def iSh (op:BinOp) (a:Int) (b:Nat):Option PR:=match op with
 | .shr=>pr (.int ((a.toNat / 2 ^ b:Nat):Int)) [0<=a,b<64]
 | _=>none
def dK:List (Int × List KC)->Int->Option (List KC)
 | [],_=>none
 | (j,cs) :: r,k=>if k=j then some cs else dK r k
def KC.int:KC->Int
 | .i n=>n
 | _=>0
def KC.bool:KC->Bool
 | .b v=>v
 | _=>false
def Dx (cs:List KC):Nat->List KC->List AV
 | _,[]=>[]
 | i,.i _ :: r=>.int ((cs.getD i .nf).int) :: Dx cs (i+1) r
 | i,.b _ :: r=>.bool (.atom ((cs.getD i .nf).bool)) :: Dx cs (i+1) r
 | i,_ :: r=>.xx (.kf (cs.getD i .nf)) [] :: Dx cs (i+1) r
def GP:List KC->List KC->Bool
 | [],[]=>true
 | .i _ :: r,.i n :: l=>decide (-9223372036854775808<=n) && decide (n<=9223372036854775807) && GP r l
 | .b _ :: r,.b _ :: l=>GP r l
 | .f _ :: r,.f _ :: l=>GP r l
 | .f _ :: r,.nf :: l=>GP r l
 | .nf :: r,.f _ :: l=>GP r l
 | .nf :: r,.nf :: l=>GP r l
 | _,_=>false
def kmB (z:List KC):List (Int × List KC)->Bool
 | []=>GP z z
 | (_,cs) :: r=>GP z cs && kmB z r
def XB:List (Nat × Nat):=[(201,0),(201,1),(201,2),(201,3),(201,4),(201,5),(48,0),(48,1),(48,2),(48,3),(48,4),(48,5),(48,6),(48,7),(48,8)]
def KH (t i:Nat):List (Nat × Nat)->Bool
 | []=>false
 | (a,b) :: r=>(Nat.beq t a && Nat.beq i b) || KH t i r
def ya (T:List (Nat × TI)) (t:TypeId) (x:AV) (l h m:Int):Option PR:=
 match x with
 | .fz s xs=>match Wp T t with
  | some s'=>match decide (s' = s) with
   | true=>pr (.fz s ((xs.drop l.toNat).take (h.toNat - l.toNat))) [0<=l,l<=h,h<=m,m<=xs.length]
   | false=>none
  | none=>none
 | _=>none
def npE (T:List (Nat × TI)) (t:TypeId) (op:BinOp) (b:Bool):Option PR:=match op,aU T t with
 | .eql,some ⟨.ptr,_,_⟩=>pr (.bool (.lit b))
 | .neq,some ⟨.ptr,_,_⟩=>pr (.bool (.lit (!b)))
 | _,_=>none
def pvX (H:AH) (fr:AFr):Op->Option PR
 | .binOp op t x y _=>match c_ fr x,c_ fr y with
  | some (.one (.c (.ptr _ _))),some (.one (.c .np))=>npE T t op false
  | some (.one (.c .np)),some (.one (.c .np))=>npE T t op true
  | some (.one (.c (.xx (.w a) []))),some (.one (.c (.xx (.w b) [])))=>wOp op a b
  | some (.one (.c (.xx (.w a) []))),some (.one (.c (.u64 b)))=>wSh op a b
  | some (.one (.c (.int a))),some (.one (.c (.u64 b)))=>iSh op a b
  | _,_=>none
 | .convert s t x=>match aU T s,aU T t,c_ fr x with
  | some ⟨.i .u8,_,_⟩,some ⟨.i .u32,_,_⟩,some (.one (.c (.u8 b)))=>pr (.xx (.w b.toNat) [])
  | some ⟨.i .u32,_,_⟩,some ⟨.i .u8,_,_⟩,some (.one (.c (.xx (.w n) [])))=>pr (.u8 (UInt8.ofNat n))
  | _,_,_=>none
 | .lookup t x y ok=>match aU T t,c_ fr x,c_ fr y with
  | some ⟨.mg _ _ z,_,_⟩,some (.one (.c (.xx (.km l) []))),some (.one (.c (.int k)))=>match kmB z l,ok with
   | true,false=>some ⟨.one (.agg (Dx ((dK l k).getD z) 0 z)),[],[]⟩
   | true,true=>some ⟨.tup [.agg (Dx ((dK l k).getD z) 0 z),.c (.bool (.atom (dK l k).isSome))],[],[]⟩
   | _,_=>none
  | _,_,_=>none
 | .field t x i=>match aU T t,c_ fr x,KH t i XB with
  | some ⟨.st fs,_,_⟩,some (.one (.agg cs)),true=>match fs[i]? with
   | some (o,_)=>match cs[o]? with
    | some a=>pr a
    | none=>none
   | none=>none
  | _,_,_=>none
 | .makeFunc (.func f) b c=>match CO fr b.toList,CO fr c.toList with
  | some bs,some cs=>match jJ bs,jJ cs with
   | some bp,some cp=>pr (.fn f bp cp)
   | _,_=>none
  | _,_=>none
 | .indexAddr t x y=>match c_ fr x,c_ fr y,aU T t with
  | some (.one (.c (.ptr id 0))),some (.one (.c (.int i))),some ⟨.ar m e,_,_⟩=>match getO H id,aU T e with
   | .box _ cs,some ⟨.i .u32,1,_⟩=>match Nat.beq cs.length m with
    | true=>pr (.ptr id i.toNat) [0<=i,i<m]
    | false=>none
   | _,_=>none
  | _,_,_=>none
 | .slice t x (some l) (some h) (some m)=>match c_ fr x,c_ fr l,c_ fr h,c_ fr m with
  | some (.one (.c a)),some (.one (.c (.int l))),some (.one (.c (.int h))),some (.one (.c (.int m)))=>ya T t a l h m
  | _,_,_,_=>none
 | .slice t x none (some h) (some m)=>match c_ fr x,c_ fr h,c_ fr m with
  | some (.one (.c a)),some (.one (.c (.int h))),some (.one (.c (.int m)))=>ya T t a 0 h m
  | _,_,_=>none
 | .build t parts=>match aU T t,xH fr parts.toList with
  | some ⟨.ar m e,_,z⟩,some l=>match aU T e,lp (lf 0 m) z l with
   | some ⟨.i .u32,1,_⟩,some cs=>some ⟨.one (.agg cs),[],[]⟩
   | _,_=>none
  | _,_=>none
 | _=>none
def pv (H:AH) (fr:AFr) (op:Op):Option PR:=match pvB T O H fr op with
 | some r=>some r
 | none=>pvX T H fr op
end Go.Proofs.YticbaadnibdbkaaGreat
namespace Go.Proofs.YticbaadnibdbkaaGreat
open Go.RowKit
structure Lv where
 wr:Nat->Bool
 mv:Nat->Bool
def gG (k:Nat):Lv:=⟨Nat.ble k,Nat.ble k⟩
def AV.kill (i:Nat):AV->AV
 | .own j=>bif Nat.beq i j then .dead else .own j
 | .sub j o l=>bif Nat.beq i j then .dead else .sub j o l
 | .elp j k o=>bif Nat.beq i j then .dead else .elp j k o
 | a=>a
def AV.HR (H:AH) (i:Nat):AV->AV
 | .own j=>bif Nat.beq i j then (AV.own j).vw H else .own j
 | .sub j o k=>bif Nat.beq i j then (AV.sub j o k).vw H else .sub j o k
 | .elp j k o=>bif Nat.beq i j then .dead else .elp j k o
 | a=>a
def rR (g:AV->AV):List AV->List AV
 | []=>[]
 | a :: r=>g a :: rR g r
def TV1.mapA (g:AV->AV):TV1->TV1
 | .c a=>.c (g a)
 | .agg l=>.agg (rR g l)
def wN (g:AV->AV):List TV1->List TV1
 | []=>[]
 | a :: r=>a.mapA g :: wN g r
def TV.mapA (g:AV->AV):TV->TV
 | .one t=>.one (t.mapA g)
 | .tup l=>.tup (wN g l)
 | .un=>.un
def jt (g:AV->AV):AFr->AFr
 | []=>[]
 | (i,v) :: r=>(i,v.mapA g) :: jt g r
def mapM (g:AV->AV):List (Int × AV)->List (Int × AV)
 | []=>[]
 | (k,a) :: r=>(k,g a) :: mapM g r
def AO.mapA (g:AV->AV):AO->AO
 | .box t cs=>.box t (rR g cs)
 | .mapf l=>.mapf (mapM g l)
 | o=>o
def h_ (g:AV->AV):AH->AH
 | []=>[]
 | o :: r=>o.mapA g :: h_ g r
structure SR where
 v:TV
 fr:AFr
 H:AH
 ob:List Prop:=[]
 fc:List Prop:=[]
def nb (s:Sh):TV1->Bool
 | .agg _=>s.oU
 | .c _=>!s.oU
def iT (ro:Lv):List Nat->AFr->AH->Option (AFr × AH)
 | [],fr,H=>some (fr,H)
 | i :: l,fr,H=>match getO H i with
  | .row _ _ _=>match ro.mv i && ro.wr i with
   | true=>iT ro l (jt (AV.HR H i) fr) ((h_ (AV.HR H i) H).set i .gone)
   | false=>none
  | _=>iT ro l fr H
def lR (ro:Lv) (fr:AFr) (H:AH) (e:TypeId) (s:Sh) (ys:List (den s)) (x:AV):Option SR:=
 match x with
 | .em _=>some ⟨one (.own H.length),fr,H++[.row e s ys],[ys.length*s.bytes<=140737488355328],[]⟩
 | .own id=>match getO H id with
  | .row e' s' xs=>if h:s' = s then (match ro.mv id && ro.wr id && Nat.beq e' e with
   | true=>some ⟨one (.own id),jt (AV.kill id) fr,(h_ (AV.kill id) H).set id (.row e s ((h ▸ xs:List (den s))++ys)),[(xs.length+ys.length)*s.bytes<=140737488355328],[]⟩
   | false=>none) else none
  | _=>none
 | .sub id 0 len=>match getO H id with
  | .row e' s' xs=>if h:s' = s then (match ro.mv id && ro.wr id && Nat.beq e' e with
   | true=>some ⟨one (.own id),jt (AV.kill id) fr,(h_ (AV.kill id) H).set id (.row e s ((h ▸ xs:List (den s)).take len++ys)),[(len+ys.length)*s.bytes<=140737488355328],[]⟩
   | false=>none) else none
  | _=>none
 | _=>none
def jD (T:List (Nat × TI)) (ro:Lv) (fr:AFr) (H:AH) (t:TypeId) (x y:AV):Option SR:=
 match aU T t with
 | some ⟨.sl e (some s),_,_⟩=>match (y.vw H).fQ s with
  | some ys=>lR ro fr H e s ys x
  | none=>none
 | _=>none
def wX (T:List (Nat × TI)) (ro:Lv) (fr:AFr) (H:AH) (t t':TypeId) (x y:AV):Option SR:=
 match aU T t,aU T t',y with
 | some ⟨.sl e (some .u8),_,_⟩,some ⟨.str,_,_⟩,.str s=>lR ro fr H e .u8 s.b x
 | _,_,_=>none
def CF (ro:Lv) (fr:AFr) (H:AH) (x:AV) (v:TV1):Option SR:=
 match x with
 | .ptr id o=>match getO H id with
  | .box t cs=>match ro.wr id && Nat.ble (o+v.cells.length) cs.length with
   | true=>some ⟨.un,fr,H.set id (.box t (over cs o v.cells)),[],[]⟩
   | false=>none
  | .arr t s n xs=>match ro.wr id && Nat.beq s.size 1,v.cells with
   | true,[a]=>match a.plain,gh s [a] with
    | true,some x'=>some ⟨.un,fr,H.set id (.arr t s n (xs.set o x')),[o<n],[]⟩
    | _,_=>none
   | true,_=>match Nat.beq o 0,sf s v.cells with
    | true,some l=>match Nat.beq l.length n with
     | true=>some ⟨.un,fr,H.set id (.arr t s n l),[],[]⟩
     | false=>none
    | _,_=>none
   | _,_=>none
  | _=>none
 | .elp id i o=>match getO H id with
  | .row t s xs=>match ro.wr id && Nat.ble (o+v.cells.length) s.size && !bX id (eU v.cells),gh s (over (cellsOf s (xs.getD i (au s))) o (EA H v.cells)),iT ro (eU v.cells) fr H with
   | true,some x',some q=>some ⟨.un,q.1,q.2.set id (.row t s (xs.set i x')),[],[]⟩
   | _,_,_=>none
  | _=>none
 | _=>none
def sq (s:Sh) (H:AH):List (Nat × TV1)->Nat->Option (List (den s))
 | [],_=>some []
 | (i,v) :: r,k=>match Nat.beq i k,gh s (EA H v.cells),sq s H r (k+1) with
  | true,some x,some l=>some (x :: l)
  | _,_,_=>none
def Dn:List (Nat × TV1)->List Nat
 | []=>[]
 | (_,v) :: r=>eU v.cells++Dn r
def mV (f:Nat->AO):List Nat->AH->AH
 | [],H=>H
 | i :: r,H=>mV f r (H.set i (f i))
def AV.b_ (l:List Nat):AV->AV
 | .own j=>bif bX j l then .dead else .own j
 | .sub j o k=>bif bX j l then .dead else .sub j o k
 | .elp j k o=>bif bX j l then .dead else .elp j k o
 | a=>a
def rowsOf (H:AH):List Nat->List Nat
 | []=>[]
 | i :: r=>match getO H i with
  | .row _ _ _=>i :: rowsOf H r
  | .loc=>i :: rowsOf H r
  | _=>rowsOf H r
def yO (ro:Lv):List Nat->Bool
 | []=>true
 | i :: r=>ro.wr i && ro.mv i && yO ro r
def noM (b:Sh):List (Int × AV)->Bool
 | []=>true
 | (_,a) :: r=>a.no b && noM b r
def tT (b:Sh):List AO->Bool
 | []=>true
 | .box _ cs :: r=>ZH b cs && tT b r
 | .row _ s _ :: r=>jk (Sh.no 5 b) s.gP && tT b r
 | .gone :: r=>tT b r
 | .mapo s _ :: r=>jk (Sh.no 5 b) s.gP && tT b r
 | .arr _ s _ _ :: r=>jk (Sh.no 5 b) s.gP && tT b r
 | .mapf l :: r=>noM b l && tT b r
 | .loc :: r=>tT b r
def fZ (H:AH) (σ:List Nat) (j:Nat):Nat:=bif Nat.ble σ.length j then H.length+(j - σ.length) else σ.getD j 0
def FK (O:bN) (ro:Lv) (fr:AFr) (H:AH) (f:Nat) (a:List TV1) (lent:List Nat):Option SR:=
 match tH H a with
 | σ=>match lE σ && qi σ (qx a) && gO H σ σ && oD σ lent && yO ro σ with
  | true=>match O f (iV (posOf · σ) a) (oE (posOf · σ) (kN H σ)) with
   | some ⟨pre,rs,some H',_⟩=>match Nat.ble σ.length H'.length && jk (fun b=>noT b rs && tT b H') (fB H lent) with
    | true=>some ⟨Hr (iV (fZ H σ) rs),jt (AV.b_ (rowsOf H σ)) fr,mV (fun i=>(H'.getD (posOf i σ) .gone).lP (fZ H σ)) σ (h_ (AV.b_ (rowsOf H σ)) H)++oE (fZ H σ) (H'.drop σ.length),pre,Gs rs⟩
    | false=>none
   | _=>none
  | false=>none
def JK (O:bN) (fr:AFr) (H:AH) (f:Nat) (a:List TV1):Option SR:=
 match tH H a with
 | σ=>match lE σ && qi σ (qx a) && gO H σ σ with
  | true=>match O f (iV (posOf · σ) a) (oE (posOf · σ) (kN H σ)) with
   | some ⟨pre,rs,some H',true⟩=>match Nat.ble σ.length H'.length with
    | true=>some ⟨Hr (iV (fZ H σ) rs),fr,H++oE (fZ H σ) (H'.drop σ.length),pre,Gs rs⟩
    | false=>none
   | _=>none
  | false=>none
def Ms (O:bN) (ro:Lv) (fr:AFr) (H:AH) (f:Nat) (args:List TV1):Option SR:=
 match JK O fr H f args with
 | some r=>some r
 | none=>match pD H (fO args),FK O ro fr H f (IL H args) (fO args) with
 | true,some r=>some r
 | _,_=>FK O ro fr H f args []
def JY (T:List (Nat × TI)) (ro:Lv) (fr:AFr) (H:AH) (t:TypeId) (x y z:Operand):Option SR:=
 match aU T t,c_ fr x,c_ fr y,c_ fr z with
 | some ⟨.mp _ _ (some s),_,_⟩,some (.one (.c (.mq id))),some (.one (.c (.int k))),some (.one v)=>match getO H id with
  | .mapo s' f=>if h:s' = s then (match ro.wr id && nb s v && !bX id (eU v.cells),gh s (EA H v.cells),iT ro (eU v.cells) fr H with
   | true,some x',some q=>some ⟨.un,q.1,q.2.set id (.mapo s fun j=>if j=k then some x' else (h ▸ f:Int->Option (den s)) j),[],[]⟩
   | _,_,_=>none) else none
  | _=>none
 | _,_,_,_=>none
def Nv (T:List (Nat × TI)) (ro:Lv) (fr:AFr) (H:AH) (t:TypeId) (x y z:Operand):Option SR:=
 match aU T t,c_ fr x,c_ fr y,c_ fr z with
 | some ⟨.mp _ _ none,_,_⟩,some (.one (.c (.mq id))),some (.one (.c (.int k))),some (.one (.c a))=>match getO H id with
  | .mapf l=>match ro.wr id with
   | true=>some ⟨.un,fr,H.set id (.mapf ((k,a) :: l)),[],[]⟩
   | false=>none
  | _=>none
 | _,_,_,_=>none
def DD (T:List (Nat × TI)) (ro:Lv) (fr:AFr) (H:AH) (t:TypeId) (x y z:Operand):Option SR:=match JY T ro fr H t x y z with
 | some r=>some r
 | none=>Nv T ro fr H t x y z
def Pr (O:bN) (ro:Lv) (fr:AFr) (H:AH) (c:Call) (l:List TV1):Option SR:=match iT ro (fO l) fr H with
 | some q=>match iG q.1 c with
  | some (f,l')=>match DW O q.2 f l' with
   | some r=>some ⟨r.v,q.1,q.2,r.ob,r.fc⟩
   | none=>none
  | none=>none
 | none=>none
variable (T:List (Nat × TI)) (O:bN) (ro:Lv)
def svB (fr:AFr) (H:AH):Op->Option SR
  | .box t x=>match c_ fr x with
    | some (.one v)=>some ⟨one (.ptr H.length 0),fr,H++[Lr T t v.cells],[],[]⟩
    | _=>none
  | .alloc t=>match aU T t with
    | some ti=>some ⟨one (.ptr H.length 0),fr,H++[Lr T t ti.zero],[],[]⟩
    | none=>none
  | .store t x v=>match c_ fr x,c_ fr v,aU T t with
    | some (.one (.c a)),some (.one b),some ti=>match Nat.beq ti.size b.cells.length with
      | true=>CF ro fr H a b
      | false=>none
    | _,_,_=>none
  | .buildSlice t n parts=>match aU T t,xH fr parts.toList with
    | some ⟨.sl e (some s),_,_⟩,some l=>match sq s H l 0,iT ro (Dn l) fr H with
      | some xs,some q=>match Nat.beq xs.length n && Nat.ble (n*s.size) 16777216 && Nat.ble (n*s.bytes) 140737488355328 with
        | true=>match n with
          | 0=>some ⟨one (.em false),fr,H,[],[]⟩
          | _=>some ⟨one (.own q.2.length),q.1,q.2++[.row e s xs],[],[]⟩
        | false=>none
      | _,_=>none
    | _,_=>none
  | .makeMap t none=>match aU T t with
    | some ⟨.mp _ _ (some s),_,_⟩=>some ⟨one (.mq H.length),fr,H++[.mapo s fun _=>none],[],[]⟩
    | some ⟨.mp _ _ none,_,_⟩=>some ⟨one (.mq H.length),fr,H++[.mapf []],[],[]⟩
    | _=>none
  | .insert t x y z=>DD T ro fr H t x y z
  | .mapUpdate t x y z=>DD T ro fr H t x y z
  | .makeSlice t n m=>match aU T t,c_ fr n,c_ fr m with
    | some ⟨.sl e (some s),_,_⟩,some (.one (.c (.int k))),some (.one (.c (.int k')))=>match Nat.beq s.size 1 with
     | true=>some ⟨one (.own H.length),fr,H++[.row e s (List.replicate k.toNat (au s))],[0<=k,k*s.bytes<=140737488355328,k' = k],[]⟩
     | false=>none
    | _,_,_=>none
  | .slice t x lo hi mx=>match c_ fr x with
    | some (.one (.c (.own i)))=>match iT ro [i] fr H with
      | some q=>match pv T O q.2 q.1 (.slice t x lo hi mx) with
        | some r=>some ⟨r.v,q.1,q.2,r.ob,r.fc⟩
        | none=>none
      | none=>none
    | _=>none
  | .call c=>match c.callee with
    | .builtin .append=>match c.args.toList,c.argTypes.toList with
      | [x,y],[t,t']=>match Nat.beq t t',c_ fr x,c_ fr y with
        | true,some (.one (.c a)),some (.one (.c b))=>jD T ro fr H t a b
        | false,some (.one (.c a)),some (.one (.c b))=>wX T ro fr H t t' a b
        | _,_,_=>none
      | _,_=>none
    | .value _=>match iG fr c with
      | some (f,l)=>match Ms O ro fr H f l with
        | some r=>some r
        | none=>Pr O ro fr H c l
      | none=>none
    | _=>none
  | _=>none
def abR (O:bN):Bool:=(O 1000000003 [] []).isSome
def YR (ro:Lv) (fr:AFr) (H:AH) (x:AV) (h:Int):Option SR:=
 match x with
 | .own id=>match getO H id with
  | .row e s xs=>match ro.mv id && ro.wr id with
   | true=>some ⟨one (.own id),jt (AV.kill id) fr,(h_ (AV.kill id) H).set id (.row e s (xs.take h.toNat)),[0<=h,h<=xs.length],[]⟩
   | false=>none
  | _=>none
 | _=>none
def Lf (T:List (Nat × TI)) (ro:Lv) (H:AH) (t t':TypeId) (x y:AV):Option SR:=
 match x,aU T t,aU T t' with
 | .own id,some ⟨.sl _ (some s),_,_⟩,some ⟨.sl _ _,_,_⟩=>match getO H id,(y.vw H).fQ s,eU [y] with
  | .row e s' xs,some ys,l=>if h:s' = s then (match ro.wr id && !bX id l with
   | true=>some ⟨one (.int (min ys.length xs.length:Nat)),[],H.set id (.row e s (ys.take xs.length++(h ▸ xs:List (den s)).drop ys.length)),[],[]⟩
   | false=>none) else none
  | _,_,_=>none
 | _,_,_=>none
def svX (fr:AFr) (H:AH):Op->Option SR
 | .call c=>match c.callee with
  | .builtin .copy=>match c.args.toList,c.argTypes.toList with
   | [x,y],[t,t']=>match c_ fr x,c_ fr y with
    | some (.one (.c a)),some (.one (.c b))=>match Lf T ro H t t' a b with
     | some r=>some ⟨r.v,fr,r.H,r.ob,r.fc⟩
     | none=>none
    | _,_=>none
   | _,_=>none
  | _=>none
 | _=>none
def svC (fr:AFr) (H:AH):Op->Option SR
  | .slice t x none (some h) none=>match abR O,c_ fr x,c_ fr h,aU T t with
    | true,some (.one (.c a)),some (.one (.c (.int h))),some ⟨.sl _ (some _),_,_⟩=>YR ro fr H a h
    | _,_,_,_=>none
  | .makeSlice t (.const (.int .i64 0)) (.tmp m)=>match aU T t,c_ fr (.tmp m) with
    | some ⟨.sl e (some s),_,_⟩,some (.one (.c (.int k)))=>match Nat.beq s.size 1 with
     | true=>some ⟨one (.own H.length),fr,H++[.row e s []],[0<=k,k*s.bytes<=140737488355328],[]⟩
     | false=>none
    | _,_=>none
  | _=>none
def sv (fr:AFr) (H:AH) (op:Op):Option SR:=match svC T O ro fr H op with
 | some r=>some r
 | none=>match svB T O ro fr H op with
  | some r=>some r
  | none=>svX T ro fr H op
def ja:List Prop->Prop
 | []=>True
 | [p]=>p
 | p :: q :: l=>p/\ja (q :: l)
def same (b:Bool):List Prop:=bif b then [] else [False]
def uh:List Prop->Prop->Prop
 | [],R=>R
 | p :: l,R=>p/\uh l R
def kV:List Prop->Prop->Prop
 | [],R=>R
 | p :: l,R=>p->kV l R
def qy (d:Option Nat) (v:TV) (fr:AFr):AFr:=match d with
 | some d=>(d,v) :: fr
 | none=>fr
def oR (t:Nat):Oper->Bool
 | ⟨_,.pick (.tmp u) _ _,_,_,_,_⟩=>Nat.beq t u
 | _=>false
def rD (t:Nat):List Oper->Option (List Oper × Oper × List Oper)
 | []=>none
 | o :: r=>bif oR t o then some ([],o,r) else match rD t r with
  | some (a,b,c)=>some (o :: a,b,c)
  | none=>none
def qp:Option TV->Option BE
 | some (.one (.c (.bool e)))=>some e
 | _=>none
def Ek (e:BE) (w:Bool) (on off:Option TV):Option BE:=
 match w,qp on,qp off with
 | true,some x,some (.lit false)=>some (.and e x)
 | false,some x,some (.lit true)=>some (.or e x)
 | _,_,_=>none
structure GR where
 fr:AFr
 ob:List Prop
 fc:List Prop
def iZ (fr:AFr):Option Nat->Bool
 | none=>true
 | some d=>match lookA fr d with
  | none=>true
  | some _=>false
def Dq (l:List Oper) (fr:AFr) (j:Nat) (w:Bool):List Nat->List Oper->Bool
 | _,[]=>true
 | us,o :: r=>iZ fr o.dst && (match o.guard with
  | some (j',w')=>(Nat.beq j' j && (w' == w)) || (match idst l j' with
   | some t=>bX t us
   | none=>false)
  | none=>false) && Dq l fr j w (match o.dst with
   | some d=>d :: us
   | none=>us) r
def Pg (a b:Option (Nat × Bool)):Bool:=match a,b with
 | none,none=>true
 | some (i,x),some (j,y)=>Nat.beq i j && (x == y)
 | _,_=>false
def oL (e:BE) (w:Bool):List Prop->List Prop
 | []=>[]
 | ob=>[e.p w->ja ob]
structure GrpR where
 d:Nat
 v:BE
 ob:List Prop
 fc:List Prop
 tail:List Oper
def Tt (l:List Oper) (fr:AFr) (g:Option (Nat × Bool)) (run:Option (Nat × Bool)->List Oper->AFr->Option GR) (j:Nat) (w:Bool) (ops:List Oper):Option GrpR:=
 match idst l j with
 | some t=>match qp (lookA fr t),rD t ops with
  | some e,some (grp,pk,tail)=>match Dq l fr j w [] grp && Pg pk.guard g && iZ fr pk.dst,run (some (j,w)) grp fr with
   | true,some q=>match pk.op,pk.dst with
    | .pick _ x y,some d=>match Ek e w (c_ q.fr (cond w x y)) (c_ fr (cond w y x)) with
     | some v=>some ⟨d,v,oL e w q.ob,oL e w q.fc,tail⟩
     | none=>none
    | _,_=>none
   | _,_=>none
  | _,_=>none
 | none=>none
def Ik (l:List Oper) (H:AH):Nat->Option (Nat × Bool)->List Oper->AFr->Option GR
 | 0,_,_,_=>none
 | _+1,_,[],fr=>some ⟨fr,[],[]⟩
 | n+1,g,o :: rest,fr=>
  match Pg o.guard g with
  | true=>match iZ fr o.dst,pv T O H fr o.op with
   | true,some r=>match Ik l H n g rest (qy o.dst r.v fr) with
    | some q=>some ⟨q.fr,r.ob++q.ob,r.fc++q.fc⟩
    | none=>none
   | _,_=>none
  | false=>match o.guard with
   | some (j,w)=>match Tt l fr g (Ik l H n) j w (o :: rest) with
    | some r=>match Ik l H n g r.tail ((r.d,one (.bool r.v)) :: fr) with
     | some q=>some ⟨q.fr,r.ob++q.ob,r.fc++q.fc⟩
     | none=>none
    | none=>none
   | none=>none
def isSt:Op->Bool
 | .store _ _ _=>true
 | .insert _ _ _ _=>true
 | .mapUpdate _ _ _ _=>true
 | _=>false
def Rv (o:Oper):Bool:=match isSt o.op,o.dst with
 | true,some _=>false
 | _,_=>true
structure IxR where
 s:Sh
 xs:List (den s)
 i:Int
def atA (fr:AFr):Op->Option IxR
 | .indexAddr t x y=>match c_ fr x,c_ fr y,Wp T t with
  | some (.one (.c (.fz s xs))),some (.one (.c b)),some s'=>match decide (s' = s),b.ix with
   | true,some i=>some ⟨s,xs,i⟩
   | _,_=>none
  | _,_,_=>none
 | _=>none
structure NilR where
 s:Sh
 xs:List (den s)
 ne:Bool
def aaT (H:AH) (fr:AFr):Op->Option NilR
 | .binOp op t x y _=>match op,aU T t,c_ fr x,c_ fr y with
  | .eql,some ⟨.sl _ _,_,_⟩,some (.one (.c a)),some (.one (.c (.em true)))=>match a.vw H with
   | .fz s xs=>some ⟨s,xs,false⟩
   | _=>none
  | .neq,some ⟨.sl _ _,_,_⟩,some (.one (.c a)),some (.one (.c (.em true)))=>match a.vw H with
   | .fz s xs=>some ⟨s,xs,true⟩
   | _=>none
  | _,_,_,_=>none
 | _=>none
def ZN:Bool->Bool->BE
 | true,b=>.not (.atom b)
 | false,b=>.atom b
structure MpR where
 k:Int
 ok:Bool
 l:List (Int × AV)
def mapA (H:AH) (fr:AFr):Op->Option MpR
 | .lookup t x y ok=>match aU T t,c_ fr x,c_ fr y with
  | some ⟨.mp _ _ none,_,_⟩,some (.one (.c (.mq id))),some (.one (.c (.int k)))=>match getO H id with
   | .mapf l=>some ⟨k,ok,l⟩
   | _=>none
  | _,_,_=>none
 | _=>none
def HJ:Bool->AV->Bool->TV
 | true,a,b=>.tup [.c a,.c (.bool (.lit b))]
 | false,a,_=>one a
def xM (k:Int) (ok:Bool) (K:TV->Prop):List (Int × AV)->Prop
 | []=>K (HJ ok .nf false)
 | (j,a) :: r=>(k=j->K (HJ ok a true))/\(¬ k=j->xM k ok K r)
structure SpR where
 e:BE
 on:List Oper
 d:Nat
 off:Operand
 tail:List Oper
def adB (l:List Oper) (fr:AFr) (j:Nat) (w:Bool) (ops:List Oper):Option SpR:=
 match idst l j with
 | some t=>match qp (lookA fr t),rD t ops with
  | some e,some (grp,pk,tail)=>match Dq l fr j w [] grp && Pg pk.guard none && iZ fr pk.dst,pk.op,pk.dst with
   | true,.pick _ x y,some d=>some ⟨e,grp.map (PI j w)++⟨some d,.move (cond w x y),pk.type,pk.pos,pk.after,none⟩ :: tail,d,cond w y x,tail⟩
   | _,_,_=>none
  | _,_=>none
 | none=>none
def wpOps (l:List Oper) (K:AFr->AH->Prop):Nat->List Oper->AFr->AH->Prop
  | 0,_,_,_=>False
  | _+1,[],fr,H=>K fr H
  | n+1,o :: rest,fr,H=>
    match o.guard with
    | none=>match atA T fr o.op with
     | some ⟨s,xs,i⟩=>0<=i/\i<(xs.length:Int)/\∀ x,xs[i.toNat]? = some x->kV (Jg (cellsOf s x)) (wpOps l K n rest (qy o.dst (one (.fe s x 0)) fr) H)
     | none=>match aaT T H fr o.op with
     | some ⟨_,xs,ne⟩=>∀ b:Bool,(b=true->xs=[])->wpOps l K n rest (qy o.dst (one (.bool (ZN ne b))) fr) H
     | none=>match mapA T H fr o.op with
     | some m=>xM m.k m.ok (fun v=>wpOps l K n rest (qy o.dst v fr) H) m.l
     | none=>match pv T O H fr o.op with
      | some r=>uh r.ob (kV r.fc (wpOps l K n rest (qy o.dst r.v fr) H))
      | none=>match Rv o,sv T O ro fr H o.op with
        | true,some r=>uh r.ob (kV r.fc (wpOps l K n rest (qy o.dst r.v r.fr) r.H))
        | _,_=>False
    | some (j,w)=>match Tt l fr none (Ik T O l H n) j w (o :: rest) with
      | some r=>uh r.ob (kV r.fc (wpOps l K n r.tail ((r.d,one (.bool r.v)) :: fr) H))
      | none=>match adB l fr j w (o :: rest) with
        | some r=>(r.e.p w->wpOps l K n r.on fr H)/\(r.e.p (!w)->match c_ fr r.off with
          | some v=>wpOps l K n r.tail ((r.d,v) :: fr) H
          | none=>False)
        | none=>False
structure LI where
 σ:Type
 F:σ->AFr × AH
 J:σ->Prop
 μ:σ->Nat
 R:Option (σ->σ->Prop):=none      -- what holds of the state at its beginning,and any later one
 un:Option (Nat × List Nat):=none   -- walked round by round,so often; the slots that are kept
def LI.rel (I:LI) (a b:I.σ):Prop:=match I.R with
 | none=>True
 | some r=>r a b
def LI.aK (I:LI) (a b:I.σ) (p:Prop):Prop:=match I.R with
 | none=>p
 | some r=>r a b/\p
def LI.imp (I:LI) (a b:I.σ) (p:Prop):Prop:=match I.R with
 | none=>p
 | some r=>r a b->p
variable {I:LI}
theorem LI.Gr {a b:I.σ} {p:Prop}:I.aK a b p↔I.rel a b/\p:=by
 unfold LI.aK LI.rel; cases I.R <;> simp
theorem LI.QA {a b:I.σ} {p:Prop}:I.imp a b p↔(I.rel a b->p):=by
 unfold LI.imp LI.rel; cases I.R <;> simp
def Wt:List (Nat × LI)->Option Nat->Option LI
 | [],_=>none
 | _,none=>none
 | (j,v) :: r,some i=>bif Nat.beq j i then some v else Wt r (some i)
def kF:Code->Option Nat
 | .region i _ _=>some i
 | .seq a b=>match kF a with
  | some i=>some i
  | none=>kF b
 | .cond _ a b=>match kF a with
  | some i=>some i
  | none=>kF b
 | .block _ a=>kF a
 | .loop a=>kF a
 | .scope a=>kF a
 | _=>none
def iota:Nat->Nat->List Nat
 | _,0=>[]
 | k,n+1=>k :: iota (k+1) n
def Jj:List Nat->Nat->Nat->Bool
 | [],_,_=>false
 | k :: _,0,i=>Nat.beq k i
 | _ :: r,j+1,i=>Jj r j i
def IA (n:Nat):List Nat->Nat->Bool
 | [],_=>false
 | k :: _,0=>Nat.ble n k
 | _ :: r,j+1=>IA n r j
def qk (σ:List Nat):List (Nat × Nat)->List (Nat × Nat)->Bool
 | [],[]=>true
 | (i,o) :: r,(j,o') :: l=>Jj σ j i && Nat.beq o o' && qk σ r l
 | _,_=>false
def ad3 (H:AH) (σ:List Nat) (j:Nat):Bool:=match σ[j]? with
 | some i=>match getO H i with
  | .box _ _=>true
  | _=>false
 | none=>false
def eqX (σ:List Nat):XK->XK->List (Nat × Nat)->List (Nat × Nat)->List Prop
 | .er a,.er b,[],[]=>[a=b]
 | .bp,.bp,b,b'=>same (qk σ b b')
 | .ff s xs,.ff s' ys,[],[]=>if h:s=s' then [(h ▸ xs:List (den s'))=ys] else [False]
 | .mx a xs,.mx b ys,[],[]=>[a=b,xs=ys]
 | .w a,.w b,[],[]=>[a=b]
 | .pl,.pl,b,b'=>same (qk σ b b')
 | .pa,.pa,b,b'=>same (qk σ b b')
 | _,_,_,_=>[False]
def acW (H:AH) (σ:List Nat):XK->List (Nat × Nat)->List Prop
 | .bp,[q]=>same (ad3 H σ q.1)
 | _,_=>[False]
def abV (σ:List Nat) (i o:Nat):XK->List (Nat × Nat)->List Prop
 | .bp,[q]=>same (Jj σ q.1 i && Nat.beq o q.2)
 | _,_=>[False]
def eqA (H:AH) (n:Nat) (σ:List Nat):AV->AV->List Prop
 | .int a,.int b=>[a=b]
 | .u8 a,.u8 b=>[a=b]
 | .u64 a,.u64 b=>[a=b]
 | .bool a,.bool b=>[a.val=b.val]
 | .str a,.str b=>[a=b]
 | .li a xs,.li b ys=>[a=b,xs=ys]
 | .fz s xs,.fz s' ys=>if h:s=s' then [(h ▸ xs:List (den s'))=ys] else [False]
 | .em _,.fz _ ys=>[ys=[]]
 | .em a,.em b=>same (a == b)
 | .em _,.own j=>same (IA n σ j)
 | .own i,.own j=>same (Jj σ j i)
 | .own i,.fz s ys=>match getO H i with
  | .row _ s' xs=>if h:s' = s then same (!bX i σ)++[(h ▸ xs:List (den s))=ys] else [False]
  | _=>[False]
 | .sub i o l,.sub j o' l'=>same (Jj σ j i)++[o=o',l=l']
 | .ptr i o,.ptr j o'=>same (Jj σ j i && Nat.beq o o')
 | .np,.np=>[]
 | .elp i k o,.elp j k' o'=>same (Jj σ j i && Nat.beq o o')++[k=k']
 | .nf,.nf=>[]
 | .yl a,.yl b=>same (Nat.beq a b)
 | .mq i,.mq j=>same (Jj σ j i)
 | .fn f b c,.fn g b' c'=>same (Nat.beq f g && qk σ b b' && qk σ c c')
 | .xx k b,.xx k' b'=>eqX σ k k' b b'
 | .np,.xx k b=>acW H σ k b
 | .ptr i o,.xx k b=>abV σ i o k b
 | _,.dead=>[]
 | _,_=>[False]
def Pb (H:AH) (n:Nat) (σ:List Nat):List AV->List AV->List Prop
 | [],[]=>[]
 | a :: r,b :: l=>eqA H n σ a b++Pb H n σ r l
 | _,_=>[False]
def Qs (H:AH) (n:Nat) (σ:List Nat):TV1->TV1->List Prop
 | .c a,.c b=>eqA H n σ a b
 | .agg a,.agg b=>Pb H n σ a b
 | _,_=>[False]
def yh (H:AH) (n:Nat) (σ:List Nat):List TV1->List TV1->List Prop
 | [],[]=>[]
 | a :: r,b :: l=>Qs H n σ a b++yh H n σ r l
 | _,_=>[False]
def eqT (H:AH) (n:Nat) (σ:List Nat):TV->TV->List Prop
 | .one a,.one b=>Qs H n σ a b
 | .tup a,.tup b=>yh H n σ a b
 | _,.un=>[]
 | _,_=>[False]
def Tp (H:AH) (n:Nat) (σ:List Nat) (fr:AFr):AFr->List Prop
 | []=>[]
 | (i,v) :: r=>match lookA fr i with
  | some u=>eqT H n σ u v++Tp H n σ fr r
  | none=>[False]
def xu (T:List (Nat × TI)) (t:TypeId) (s:Sh):List (Nat × TI)->Bool
 | []=>false
 | (i,_) :: r=>(match aU T i with
  | some ⟨.sl e (some s'),_,_⟩=>Nat.beq e t && decide (s' = s)
  | _=>false) || xu T t s r
def eqO (H:AH) (n:Nat) (σ:List Nat):AO->AO->List Prop
 | .box t cs,.box t' cs'=>same (Nat.beq t t')++Pb H n σ cs cs'
 | .row t s xs,.row t' s' ys=>same (Nat.beq t t')++(if h:s=s' then [(h ▸ xs:List (den s'))=ys] else [False])
 | .gone,.gone=>[]
 | .mapo s f,.mapo s' f'=>if h:s=s' then [(h ▸ f:Int->Option (den s'))=f'] else [False]
 | .arr t s m xs,.arr t' s' m' ys=>same (Nat.beq t t' && Nat.beq m m')++(if h:s=s' then [(h ▸ xs:List (den s'))=ys] else [False])
 | _,_=>[False]
def eqN (T:List (Nat × TI)):AO->List Prop
 | .row t s ys=>same (xu T t s T)++[ys=[]]
 | _=>[False]
def YJ (T:List (Nat × TI)) (H:AH) (n:Nat) (σ:List Nat):List Nat->AH->List Prop
 | [],[]=>[]
 | k :: r,b :: l=>(bif Nat.blt k n then eqO H n σ (getO H k) b else eqN T b)++YJ T H n σ r l
 | _,_=>[False]
def DU:List (Nat × Nat)->List (Nat × Nat)->List (Nat × Nat)
 | (i,_) :: r,(j,_) :: l=>(j,i) :: DU r l
 | _,_=>[]
def WE:AV->AV->List (Nat × Nat)
 | .own i,.own j=>[(j,i)]
 | .sub i _ _,.sub j _ _=>[(j,i)]
 | .elp i _ _,.elp j _ _=>[(j,i)]
 | .ptr i _,.ptr j _=>[(j,i)]
 | .fn _ b c,.fn _ b' c'=>DU b b' ++ DU c c'
 | .xx _ b,.xx _ b'=>DU b b'
 | _,_=>[]
def KV:List AV->List AV->List (Nat × Nat)
 | a :: r,b :: l=>WE a b++KV r l
 | _,_=>[]
def Em:List TV1->List TV1->List (Nat × Nat)
 | .c a :: r,.c b :: l=>WE a b++Em r l
 | .agg a :: r,.agg b :: l=>KV a b++Em r l
 | _,_=>[]
def adM:AO->AO->List (Nat × Nat)
 | .box _ cs,.box _ cs'=>KV cs cs'
 | _,_=>[]
def Ev (n:Nat):List (Nat × Nat)->Nat->Nat
 | [],_=>n
 | (j,i) :: r,k=>bif Nat.beq j k then i else Ev n r k
def NV (H:AH):List Nat->AH->List (Nat × Nat)
 | k :: r,o :: l=>adM (getO H k) o++NV H r l
 | _,_=>[]
def mJ (n:Nat):List Nat->Bool
 | []=>true
 | k :: r=>(Nat.ble n k || !bX k r) && mJ n r
def abQ (fr:AFr):AFr->List (Nat × Nat)
 | []=>[]
 | (i,v) :: r=>(match lookA fr i,v with
  | some (.one u),.one v=>Em [u] [v]
  | _,_=>[])++abQ fr r
def YX (ps:List (Nat × Nat)):Nat->Nat->List Nat
 | _,0=>[]
 | k,m+1=>Ev k ps k :: YX ps (k+1) m
def Sb (k0:Nat) (fr:AFr) (H:AH) (q:AFr × AH):Nat->List (Nat × Nat)->List Nat
 | 0,ps=>iota 0 k0++YX ps k0 (q.2.length - k0)
 | f+1,ps=>Sb k0 fr H q f (abQ fr q.1++NV H (iota 0 k0++YX ps k0 (q.2.length - k0)) q.2)
def AE (T:List (Nat × TI)) (k0:Nat) (fr:AFr) (H:AH) (q:AFr × AH):List Prop:=
 match Sb k0 fr H q 3 [] with
 | σ=>same (Nat.ble k0 q.2.length && mJ H.length σ)++Tp H H.length σ fr q.1++YJ T H H.length σ σ q.2
def Operand.sl:Operand->List Nat
 | .tmp t=>[t]
 | _=>[]
def slL:List Operand->List Nat
 | []=>[]
 | x :: r=>Operand.sl x++slL r
def slP:List (Nat × Operand)->List Nat
 | []=>[]
 | (_,x) :: r=>Operand.sl x++slP r
def slO:Option Operand->List Nat
 | some x=>Operand.sl x
 | none=>[]
def CT:Op->List Nat
 | .move x=>Operand.sl x
 | .assign x=>Operand.sl x
 | .pick z x y=>Operand.sl z++Operand.sl x++Operand.sl y
 | .unOp _ _ x=>Operand.sl x
 | .binOp _ _ x y _=>Operand.sl x++Operand.sl y
 | .extract x _=>Operand.sl x
 | .nilCheck x=>Operand.sl x
 | .convert _ _ x=>Operand.sl x
 | .makeFunc _ b c=>slL b.toList++slL c.toList
 | .fieldAddr _ x _=>Operand.sl x
 | .field _ x _=>Operand.sl x
 | .load _ x=>Operand.sl x
 | .indexAddr _ x y=>Operand.sl x++Operand.sl y
 | .index _ x y=>Operand.sl x++Operand.sl y
 | .build _ l=>slP l.toList
 | .slice _ x l h _=>Operand.sl x++slO l++slO h
 | .lookup _ x y _=>Operand.sl x++Operand.sl y
 | .call c=>(match c.callee with
  | .value f=>Operand.sl f
  | _=>[])++slL c.args.toList
 | _=>[]
structure DV where
 d:Nat
 v:TV
 ch:List (Nat × Bool)
 deps:List Nat
 ob:List Prop
 fc:List Prop
def wE:List DV->Nat->Option DV
 | [],_=>none
 | a :: _,0=>some a
 | _ :: r,i+1=>wE r i
def dY (sl:List Nat):Nat->List DV->List Nat
 | _,[]=>[]
 | k,a :: r=>bif bX a.d sl then k :: dY sl (k+1) r else dY sl (k+1) r
def Px (ds:List DV) (fr:AFr):List Nat->AFr
 | []=>fr
 | j :: r=>match wE ds j with
  | some a=>(a.d,a.v) :: Px ds fr r
  | none=>Px ds fr r
def pV:List (Nat × Bool)->List (Nat × Bool)->Bool
 | [],_=>true
 | (i,a) :: r,(j,b) :: l=>Nat.beq i j && (a == b) && pV r l
 | _,_=>false
def xp (ds:List DV) (ch:List (Nat × Bool)):List Nat->Bool
 | []=>true
 | j :: r=>(match wE ds j with
  | some a=>pV a.ch ch
  | none=>false) && xp ds ch r
def Qf (ds:List DV):List (Nat × Bool)->Option BE
 | []=>some (.lit true)
 | (j,w) :: r=>match wE ds j,Qf ds r with
  | some a,some g=>match qp (some a.v) with
   | some e=>some (.and (match w with
    | true=>e
    | false=>.not e) g)
   | none=>none
  | _,_=>none
def mb (e:BE):List Prop->List Prop
 | []=>[]
 | ob=>match e with
  | .lit true=>ob
  | e=>[e.p true->ja ob]
def BU:BE->BE
 | .and a (.lit true)=>a
 | .and a g=>.and a (BU g)
 | g=>g
def B_ (ds:List DV):Option (Nat × Bool)->Option (List (Nat × Bool) × List Nat)
 | none=>some ([],[])
 | some (j,w)=>match wE ds j with
  | some a=>some (a.ch++[(j,w)],[a.d])
  | none=>none
def ki:Operand->Bool
 | .tmp _=>true
 | _=>false
def NR (ds:List DV) (ch:List (Nat × Bool)) (t:Nat) (x y:Operand):Option BE:=
 match dY [t] 0 ds with
 | [jc]=>match wE ds jc with
  | some c=>match qp (some c.v),pV c.ch ch with
   | some e,true=>match dY (Operand.sl (cond (ki x) x y)) 0 ds with
    | [jx]=>match wE ds jx with
     | some a=>match pV a.ch (ch++[(jc,ki x)]) with
      | true=>Ek e (ki x) (some a.v) (c_ [] (cond (ki x) y x))
      | false=>none
     | none=>none
    | _=>none
   | _,_=>none
  | none=>none
 | _=>none
def th (H:AH) (fr:AFr) (ds:List DV) (o:Oper):Option DV:=
 match o.dst,B_ ds o.guard with
 | some d,some (ch,gs)=>match Qf ds ch with
  | some g=>match o.op with
   | .pick (.tmp t) x y=>match NR ds ch t x y with
    | some v=>some ⟨d,one (.bool v),ch,dY (CT (.pick (.tmp t) x y)++gs) 0 ds,[],[]⟩
    | none=>none
   | op=>match xp ds ch (dY (CT op++gs) 0 ds),pv T O H (Px ds fr (dY (CT op++gs) 0 ds)) op with
    | true,some r=>some ⟨d,r.v,ch,dY (CT op++gs) 0 ds,mb (BU g) r.ob,mb (BU g) r.fc⟩
    | _,_=>none
  | none=>none
 | _,_=>none
def xF (H:AH) (fr:AFr):List Oper->List DV->Option (List DV)
 | [],ds=>some ds
 | o :: r,ds=>match th T O H fr ds o with
  | some a=>xF H fr r (ds++[a])
  | none=>none
def WY:List DV->List Prop
 | []=>[]
 | a :: r=>a.ob++WY r
def OS:List DV->List Prop
 | []=>[]
 | a :: r=>a.fc++OS r
def BN:List DV->AFr->AFr
 | [],fr=>fr
 | a :: r,fr=>match a.ch with
  | []=>(a.d,a.v) :: BN r fr
  | _=>BN r fr
def MS (H:AH) (fr:AFr):List Oper->List DV->Nat->Nat
 | [],_,k=>k
 | o :: r,ds,k=>match th T O H fr ds o with
  | some a=>MS H fr r (ds++[a]) (k+1)
  | none=>k
def TV.ids:TV->List Nat
 | .one t=>wV t.cells
 | .tup l=>qx l
 | .un=>[]
def AV.rids:AV->List Nat
 | .own i=>[i]
 | .sub i _ _=>[i]
 | .elp i _ _=>[i]
 | _=>[]
def s_:List AV->List Nat
 | []=>[]
 | a :: r=>a.rids++s_ r
def En:List TV1->List Nat
 | []=>[]
 | a :: r=>s_ a.cells++En r
def TV.rids:TV->List Nat
 | .one t=>s_ t.cells
 | .tup l=>En l
 | .un=>[]
def AO.rids:AO->List Nat
 | .box _ cs=>s_ cs
 | .mapf l=>s_ (l.map (·.2))
 | _=>[]
def slotIds (fr:AFr):List Nat->List Nat
 | []=>[]
 | t :: r=>(match lookA fr t with
  | some v=>v.ids
  | none=>[])++slotIds fr r
def od (fr:AFr):List Nat->List Nat
 | []=>[]
 | t :: r=>(match lookA fr t with
  | some v=>v.rids
  | none=>[])++od fr r
def objIds (H:AH):List Nat->List Nat
 | []=>[]
 | p :: r=>(getO H p).ids++objIds H r
def ma (H:AH):List Nat->List Nat
 | []=>[]
 | p :: r=>(getO H p).rids++ma H r
def de (fr:AFr):List Nat->AFr
 | []=>[]
 | t :: r=>match lookA fr t with
  | some v=>(t,v) :: de fr r
  | none=>de fr r
def maskH (σ:List Nat):Nat->AH->AH
 | _,[]=>[]
 | p,o :: r=>(bif bX p σ then o else .loc) :: maskH σ (p+1) r
def disj (a:List Nat):List Nat->Bool
 | []=>true
 | i :: r=>!bX i a && disj a r
def nh (n:Nat):List Nat->Bool
 | []=>true
 | i :: r=>Nat.blt i n && nh n r
inductive Ent
 | fn (k:Int) (a:AV)
 | da (s:Sh) (k:Int) (x:den s)
def Ent.key:Ent->Int
 | .fn k _=>k
 | .da _ k _=>k
def Ent.put:Ent->AO->AO
 | .fn k a,.mapf l=>.mapf ((k,a) :: l)
 | .da s k x,.mapo s' f=>if h:s' = s then .mapo s fun j=>if j=k then some x else (h ▸ f:Int->Option (den s)) j else .mapo s' f
 | _,o=>o
def killO (mv:List Nat) (o:AO):AO:=match mv with
 | []=>o
 | _ :: _=>o.mapA (AV.b_ mv)
def PW (mv:List Nat) (fr:AFr):AFr:=match mv with
 | []=>fr
 | _ :: _=>jt (AV.b_ mv) fr
structure RC where
 on:Bool
 dst:Option Nat
 v:TV
 U:List Nat:=[]
 σ:List Nat:=[]
 ch:List Nat:=[]
 mv:List Nat:=[]
 base:Nat
 res:AH
 ent:Option Ent:=none
 ob:List Prop:=[]
 fc:List Prop:=[]
 fr0:AFr
 H0:AH
def RC.new (r:RC):List Nat:=iota r.base (r.res.length - r.base)
def lq (ch mv:List Nat) (e:Option Ent) (res:AH):Nat->AH->AH
 | _,[]=>[]
 | p,o :: r=>(bif bX p ch then (match e with
  | some e=>e.put o
  | none=>getO res p) else killO mv o) :: lq ch mv e res (p+1) r
def RC.app (r:RC) (q:AFr × AH):AFr × AH:=(qy r.dst r.v (PW r.mv q.1),lq r.ch r.mv r.ent r.res 0 q.2++r.res.drop r.base)
def Iy (mv:List Nat):Nat->AH->List Nat
 | _,[]=>[]
 | p,o :: r=>bif disj mv o.rids then Iy mv (p+1) r else p :: Iy mv (p+1) r
def ME (mv:List Nat):AFr->List Nat
 | []=>[]
 | (t,v) :: r=>bif disj mv v.rids then ME mv r else t :: ME mv r
def VH (d:Option Nat) (l:List Nat):Bool:=match d with
 | some d=>bX d l
 | none=>false
def okD (a b:RC):Bool:=!VH b.dst a.U && disj b.ch a.σ && disj b.ch a.new && disj b.new a.σ && disj b.new a.ch && (match b.mv with
 | []=>true
 | mv=>disj (Iy mv 0 b.H0) a.σ && disj (ME mv b.fr0) a.U && disj mv (od a.fr0 a.U) && disj mv (ma a.H0 a.σ) && disj mv a.v.rids && disj mv (ma a.res a.ch) && disj mv (ma a.res a.new) && (match a.ent with
  | some (.fn _ x)=>disj mv x.rids
  | _=>true))
def okI (a b:RC):Bool:=match a.ent,b.ent with
 | some e,some e2=>disj a.ch b.ch || !decide (e.key=e2.key)
 | _,_=>disj a.ch b.ch
def bitN (m j:Nat):Bool:=Nat.beq (Nat.land (Nat.shiftRight m j) 1) 1
def ic (acc:List Nat):List Nat->Nat
 | []=>0
 | j :: r=>Nat.lor (Nat.lor (Nat.shiftLeft 1 j) (acc.getD j 0)) (ic acc r)
def iY (acc:List Nat):List Oper->List Nat
 | []=>acc
 | o :: r=>iY (acc++[ic acc (fL o)]) r
def FV (m:Nat) (b:RC):Nat->List RC->Bool
 | _,[]=>true
 | i,a :: r=>(bitN m i || (okD a b && okD b a && okI a b)) && FV m b (i+1) r
def xh (b:RC):List RC->Bool
 | []=>true
 | a :: r=>(match a.dst,b.dst with
  | some i,some j=>!Nat.beq i j
  | _,_=>true) && xh b r
def CJ (bef:List Nat):Nat->List RC->List RC->Bool
 | _,_,[]=>true
 | j,done,b :: r=>Nat.beq b.base b.H0.length && Nat.ble b.base b.res.length && nh b.base (slotIds b.fr0 b.U) && nh b.base (objIds b.H0 b.σ) && nh b.base b.σ && nh b.base b.ch && xh b done && (match b.ent with
   | some _=>(match b.mv,b.ch with
    | [],[_]=>true
    | _,_=>false) && Nat.beq b.res.length b.base
   | none=>true) && FV (bef.getD j 0) b 0 done && CJ bef (j+1) (done++[b]) r
def qP:Nat->List Oper->Bool
 | _,[]=>true
 | i,o :: r=>nh i (fL o) && qP (i+1) r
def okR (l:List Oper) (rs:List RC):Bool:=qP 0 l && Nat.beq rs.length l.length && CJ (iY [] l) 0 [] rs
def vJ (m:Nat):Nat->List RC->List Prop
 | _,[]=>[]
 | i,a :: r=>(bif bitN m i then a.fc else [])++vJ m (i+1) r
def ahS (fc:List Prop):List Prop->List Prop
 | []=>[]
 | ob=>[kV fc (ja ob)]
def obR (all:List RC):List Nat->List RC->List Prop
 | m :: bef,b :: r=>ahS (vJ m 0 all) b.ob++obR all bef r
 | _,_=>[]
def fcR:List RC->List Prop
 | []=>[]
 | a :: r=>a.fc++fcR r
def ry:AFr->List Nat->AFr
 | [],_=>[]
 | (t,v) :: r,l=>bif bX t l then ry r l else (t,v) :: ry r (t :: l)
def jl:Op->List Nat
 | .store _ x v=>Operand.sl x++Operand.sl v
 | .insert _ x y z=>Operand.sl x++Operand.sl y++Operand.sl z
 | .mapUpdate _ x y z=>Operand.sl x++Operand.sl y++Operand.sl z
 | .lookup _ x y _=>Operand.sl x++Operand.sl y
 | .box _ x=>Operand.sl x
 | .makeSlice _ x y=>Operand.sl x++Operand.sl y
 | .buildSlice _ _ l=>slP l.toList
 | op=>CT op
def Vy (fr:AFr) (H:AH):Op->List Nat
 | .move _=>[]
 | .assign _=>[]
 | .extract _ _=>[]
 | .nilCheck _=>[]
 | .makeFunc _ _ _=>[]
 | .fieldAddr _ _ _=>[]
 | .build _ _=>[]
 | .unOp _ _ _=>[]
 | .binOp _ _ _ _ _=>[]
 | .box _ _=>[]
 | .alloc _=>[]
 | .call c=>match c.callee with
  | .value _=>match iG fr c with
   | some (_,l)=>tH H l
   | none=>[]
  | _=>slotIds fr (jl (.call c))
 | op=>slotIds fr (jl op)
def af1 (fr:AFr) (H:AH):Op->List (List Nat × List Nat)
 | .store _ x v=>match c_ fr x,c_ fr v with
  | some (.one (.c (.ptr id _))),_=>[([id],[])]
  | some (.one (.c (.elp id _ _))),some (.one b)=>[(id :: eU b.cells,eU b.cells)]
  | _,_=>[]
 | .box _ _=>[([],[])]
 | .buildSlice _ _ l=>match xH fr l.toList with
  | some l=>[(Dn l,Dn l)]
  | none=>[]
 | .alloc _=>[([],[])]
 | .makeMap _ _=>[([],[])]
 | .makeSlice _ _ _=>[([],[])]
 | .slice _ x none (some _) none=>match c_ fr x with
  | some (.one (.c (.own id)))=>[([id],[id])]
  | _=>[]
 | .call c=>match c.callee with
  | .builtin .copy=>match c.args.toList with
   | [x,_]=>match c_ fr x with
    | some (.one (.c (.own id)))=>[([id],[])]
    | _=>[]
   | _=>[]
  | .builtin .append=>match c.args.toList with
   | [x,_]=>match c_ fr x with
    | some (.one (.c (.own id)))=>[([id],[id])]
    | some (.one (.c (.sub id _ _)))=>[([id],[id])]
    | _=>[([],[])]
   | _=>[]
  | .value _=>match iG fr c with
   | some (_,l)=>[([],[]),(tH H (IL H l),tH H (IL H l)),(tH H l,tH H l)]
   | none=>[]
  | _=>[]
 | _=>[]
structure XR where
 v:TV
 ch:List Nat
 mv:List Nat
 res:AH
 ob:List Prop
 fc:List Prop
def RY (fm:AFr) (Hm:AH) (op:Op):List (List Nat × List Nat)->Option XR
 | []=>none
 | (ch,mv) :: r=>match sv T O ⟨fun i=>bX i ch && ro.wr i,fun i=>bX i mv && ro.mv i⟩ fm Hm op with
  | some q=>some ⟨q.v,ch,mv,q.H,q.ob,q.fc⟩
  | none=>RY fm Hm op r
def Mf (fm:AFr) (Hm:AH):Op->Option PR
 | .buildSlice t n parts=>match aU T t,xH fm parts.toList with
  | some ⟨.sl _ (some s),_,_⟩,some l=>match Dn l,sq s Hm l 0 with
   | [],some xs=>match Nat.beq xs.length n && Nat.ble (n*s.size) 16777216 && Nat.ble (n*s.bytes) 140737488355328 && Nat.blt 0 n with
    | true=>some ⟨one (.fz s xs),[],[]⟩
    | false=>none
   | _,_=>none
  | _,_=>none
 | _=>none
def adJ (fr:AFr) (H:AH) (o:Oper):Option XR:=
 match de fr (jl o.op),maskH (Vy fr H o.op) 0 H with
 | fm,Hm=>match Mf T fm Hm o.op with
  | some r=>some ⟨r.v,[],[],Hm,r.ob,r.fc⟩
  | none=>match pv T O Hm fm o.op with
   | some r=>some ⟨r.v,[],[],Hm,r.ob,r.fc⟩
   | none=>match Rv o with
    | true=>RY T O ro fm Hm o.op (af1 fr H o.op)
    | false=>none
def aas (fr:AFr) (H:AH):Op->Option (Nat × Ent)
 | .insert t x y z=>match aU T t,c_ fr x,c_ fr y,c_ fr z with
  | some ⟨.mp _ _ (some s),_,_⟩,some (.one (.c (.mq id))),some (.one (.c (.int k))),some (.one v)=>match getO H id,eU v.cells,gh s v.cells with
   | .mapo s' _,[],some x'=>match decide (s' = s) && nb s v && ro.wr id with
    | true=>some (id,.da s k x')
    | false=>none
   | _,_,_=>none
  | some ⟨.mp _ _ none,_,_⟩,some (.one (.c (.mq id))),some (.one (.c (.int k))),some (.one (.c a))=>match getO H id,ro.wr id with
   | .mapf _,true=>some (id,.fn k a)
   | _,_=>none
  | _,_,_,_=>none
 | _=>none
def Ye:List RC->Nat->Bool
 | [],_=>true
 | r :: _,0=>r.on
 | _ :: l,i+1=>Ye l i
def rh (l:List Oper) (fr:AFr) (rs:List RC):Option (Nat × Bool)->Option Bool
 | none=>some true
 | some (j,w)=>match idst l j with
  | some t=>match Ye rs j,lookA fr t with
   | false,_=>some false
   | true,some (.one (.c (.bool (.lit b))))=>some (b == w)
   | _,_=>none
  | none=>none
def hU (l:List Oper):Option (Nat × Bool)->List Nat
 | none=>[]
 | some (j,_)=>match idst l j with
  | some t=>[t]
  | none=>[]
def Sn (i:Nat) (d:Option Nat):List Oper->Bool
 | []=>false
 | o :: r=>(match o.guard with
  | some (j,_)=>Nat.beq j i
  | none=>false) || (match d with
  | some d=>oR d o
  | none=>false) || Sn i d r
def split (g:Bool) (v:TV) (K:TV->Prop):Prop:=match g,qp (some v) with
 | true,some (.lit b)=>K (one (.bool (.lit b)))
 | true,some e=>(e.p true->K (one (.bool (.lit true))))/\(e.p false->K (one (.bool (.lit false))))
 | _,_=>K v
def Qh (l:List Oper) (K:AFr->AH->Prop):Nat->Nat->List Oper->AFr->AH->List RC->Prop
 | 0,_,_,_,_,_=>False
 | _+1,_,[],fr,H,rs=>match okR l rs with
  | true=>uh (obR rs (iY [] l) rs) (kV (fcR rs) (K (ry fr []) H))
  | false=>False
 | n+1,i,o :: rest,fr,H,rs=>match rh l fr rs o.guard with
  | some false=>match RC.mk false o.dst .un (hU l o.guard) [] [] [] H.length (maskH [] 0 H) none [] [] fr H with
   | rc=>Qh l K n (i+1) rest (rc.app (fr,H)).1 (rc.app (fr,H)).2 (rs++[rc])
  | some true=>match o.op with
   | .pick (.tmp t) x y=>match lookA fr t with
    | some (.one (.c (.bool (.lit b))))=>match c_ fr (cond b x y) with
     | some v=>split (Sn i o.dst rest) v fun v=>match RC.mk true o.dst v (t :: Operand.sl (cond b x y)++hU l o.guard) [] [] [] H.length (maskH [] 0 H) none [] [] fr H with
      | rc=>Qh l K n (i+1) rest (rc.app (fr,H)).1 (rc.app (fr,H)).2 (rs++[rc])
     | none=>False
    | _=>False
   | op=>match aas T ro fr H op with
    | some (id,e)=>match RC.mk true none .un (jl op++hU l o.guard) [] [id] [] H.length (maskH [] 0 H) (some e) [] [] fr H,o.dst with
     | rc,none=>Qh l K n (i+1) rest (rc.app (fr,H)).1 (rc.app (fr,H)).2 (rs++[rc])
     | _,_=>False
    | none=>match Vy fr H op with
     | σ=>match mapA T (maskH σ 0 H) (de fr (jl op)) op with
      | some m=>xM m.k m.ok (fun v=>split (Sn i o.dst rest) v fun v=>match RC.mk true o.dst v (jl op++hU l o.guard) σ [] [] H.length (maskH σ 0 H) none [] [] fr H with
       | rc=>Qh l K n (i+1) rest (rc.app (fr,H)).1 (rc.app (fr,H)).2 (rs++[rc])) m.l
      | none=>match adJ T O ro fr H o with
       | some r=>split (Sn i o.dst rest) r.v fun v=>match RC.mk true o.dst v (jl op++hU l o.guard) σ r.ch r.mv H.length r.res none r.ob r.fc fr H with
        | rc=>Qh l K n (i+1) rest (rc.app (fr,H)).1 (rc.app (fr,H)).2 (rs++[rc])
       | none=>False
  | none=>False
def Yl (l:List Oper) (K:AFr->AH->Prop) (fr:AFr) (H:AH):Prop:=Qh T O ro l K (l.length+1) 0 l fr H []
def YI (step:(Exit->AFr->AH->Prop)->AFr->AH->Prop) (K:Exit->AFr->AH->Prop) (l:List Nat):Nat->AFr->AH->Prop
 | 0,_,_=>False
 | n+1,fr,H=>step (fun e fr H=>match e with
  | .normal=>YI step K l n fr H
  | e=>K e fr H) (de fr l) H
def iR (k0:Nat) (L:List (Nat × LI)):Code->(Exit->AFr->AH->Prop)->AFr->AH->Prop
 | .skip,K,fr,H=>K .normal fr H
 | .seq x y,K,fr,H=>iR k0 L x (fun e fr H=>match e with
  | .normal=>iR k0 L y K fr H
  | e=>K e fr H) fr H
 | .cond c x y,K,fr,H=>match qp (c_ fr c) with
  | some (.lit true)=>iR k0 L x K fr H
  | some (.lit false)=>iR k0 L y K fr H
  | some e=>(e.p true->iR k0 L x K fr H)/\(e.p false->iR k0 L y K fr H)
  | none=>False
 | .block i c,K,fr,H=>iR k0 L c (fun e fr H=>match e with
  | .exit j=>bif Nat.beq j i then K .normal fr H else K (.exit j) fr H
  | e=>K e fr H) fr H
 | .loop c,K,fr,H=>match Wt L (kF c) with
  | some I=>match I.un with
   | some (n,l)=>YI (iR k0 L c) K l n fr H
   | none=>∃ s0,ja (AE T k0 fr H (I.F s0))/\I.J s0/\I.aK s0 s0 (∀ s,I.J s->I.imp s0 s (iR k0 L c (fun e fr H=>match e with
    | .normal=>∃ s',ja (AE T k0 fr H (I.F s'))/\I.J s' /\ I.aK s0 s' (I.μ s' < I.μ s)
    | e=>K e fr H) (I.F s).1 (I.F s).2))
  | none=>False
 | .exit i,K,fr,H=>K (.exit i) fr H
 | .ret,K,fr,H=>K .ret fr H
 | .scope c,K,fr,H=>iR k0 L c (fun e fr H=>match e with
  | .goto _=>False
  | e=>K e fr H) fr H
 | .label _,K,fr,H=>K .normal fr H
 | .region _ ops false,K,fr,H=>wpOps T O ro ops.toList (K .normal) (2*ops.size+1) ops.toList fr H
 | .region _ ops true,K,fr,H=>
  match MS T O H fr ops.toList [] 0 with
  | k=>match xF T O H fr (ops.toList.take k) [] with
   | some ds=>match mm ops.toList (ds.map fun a=>⟨a.deps,[],fun _ _=>True⟩) (fr.map (·.1)) k with
    | true=>uh (WY ds) (kV (OS ds) (wpOps T O ro ops.toList (K .normal) (2*ops.size+1) (ops.toList.drop k) (BN ds fr) H))
    | false=>Yl T O ro ops.toList (K .normal) fr H
   | none=>Yl T O ro ops.toList (K .normal) fr H
 | _,_,_,_=>False
def Vj (T:List (Nat × TI)) (H:AH) (t:TypeId) (p:AV):Option PR:=match qO T H t p with
 | some r=>some r
 | none=>Ez T H t p
def uv (T:List (Nat × TI)) (fr:AFr) (H:AH):List ResultVar->Option (List TV1)
 | []=>some []
 | .tmp t :: r=>match lookA fr t,uv T fr H r with
  | some (.one a),some l=>some (a :: l)
  | _,_=>none
 | .cell a t :: r=>match lookA fr a,uv T fr H r with
  | some (.one (.c p)),some l=>match Vj T H t p with
   | some ⟨.one v,[],_⟩=>some (v :: l)
   | _=>none
  | _,_=>none
def pJ:Nat->List TV1->AFr
 | _,[]=>[]
 | k,v :: r=>(k,.one v) :: pJ (k+1) r
def Vn (L:List (Nat × LI)) (fn:Func) (args:List TV1) (H:AH) (rs:List TV1):Prop:=
 match fn.body with
 | some c=>kV (Gs args) (iR T O (gG H.length) H.length L c (fun e fr H'=>match e with
  | .ret=>match uv T fr H' fn.results.toList with
   | some l=>ja (yh H' H'.length (iota 0 H.length) l rs)
   | none=>False
  | .normal=>match uv T fr H' fn.results.toList with
   | some l=>ja (yh H' H'.length (iota 0 H.length) l rs)
   | none=>False
  | _=>False) (pJ 0 args) H)
 | none=>False
end Go.Proofs.YticbaadnibdbkaaGreat
namespace Go.Proofs.YticbaadnibdbkaaGreat
open Go.RowKit
structure Cx where
 shp:TypeId->Option Sh
 B0:Nat
 S:Nat->Prop
 w:World
def Cx.at (c:Cx) (s:Sh) (b:Nat):Prop:=c.S b/\(b<c.B0\/∃ cur t fr,c.w.heap[b]? = some (.cells cur t fr)/\c.shp t=some s/\(s = .int->fr=(0,0)))
def LiAt (c:Cx) (nw:Bool) (a:Option Addr) (xs:List Int):Prop:=
 xs=[]\/∃ A,a=some A/\(nw=true->c.S A.block/\c.B0<=A.block/\∃ cur t fr,c.w.heap[A.block]? = some (.cells cur t fr)/\c.shp t=some .int/\fr=(0,0))/\(nw=false->(A.block<c.B0/\A.block<c.w.heap.size)\/c.at .int A.block)/\CellsAt c.w A (xs.map (.int .i64))
mutual
inductive Pd (c:Cx):AV->Value->Prop
 | int {n:Int}:I64 n->Pd c (.int n) (.int .i64 n)
 | u8 {b:UInt8}:Pd c (.u8 b) (.int .u8 (b.toNat:Int))
 | u64 {n:Nat}:n<18446744073709551616->Pd c (.u64 n) (.int .u64 (n:Int))
 | bool {e:BE}:Pd c (.bool e) (.bool e.val)
 | str {s:Str}:s.b.length<=140737488355328->Pd c (.str s) s.val
 | em {b:Bool} {a:Option Addr}:b=a.isNone->Pd c (.em b) (.slice a 0 0)
 | fz {s:Sh} {xs:List (den s)} {a:Option Addr} {k:Nat} {cells:List Value}:xs.length<=k->k<=maxLen->xs.length*s.bytes<=140737488355328->Pds c (xs.flatMap (cellsOf s)) cells ->
   (xs=[]\/∃ A,a=some A/\c.at s A.block/\CellsAt c.w A cells)->Pd c (.fz s xs) (.slice a xs.length k)
 | li {nw:Bool} {xs:List Int} {a:Option Addr} {k:Nat}:xs.length<=k->k<=maxLen->xs.length*8<=140737488355328->(∀ n ∈ xs,I64 n)->LiAt c nw a xs->Pd c (.li nw xs) (.slice a xs.length k)
inductive Pds (c:Cx):List AV->List Value->Prop
 | nil:Pds c [] []
 | cons {a:AV} {v:Value} {r:List AV} {vs:List Value}:Pd c a v->Pds c r vs->Pds c (a :: r) (v :: vs)
end
theorem Pds.all {c:Cx}:∀ {asx:List AV} {vs:List Value},Pds c asx vs->All2 (Pd c) asx vs
 | [],_,h=>by cases h; exact .nil
 | _ :: _,_,h=>by cases h with | cons h1 h2=>exact .cons h1 h2.all
theorem Pds.of {c:Cx}:∀ {asx:List AV} {vs:List Value},All2 (Pd c) asx vs->Pds c asx vs
 | [],_,h=>by cases h; exact .nil
 | _ :: _,_,h=>by cases h with | cons h1 h2=>exact .cons h1 (Pds.of h2)
structure Cx.le (c c':Cx):Prop where
 shp:c'.shp=c.shp
 B0:c'.B0=c.B0
 S:∀ b,c.S b->c'.S b/\c'.w.heap[b]? = c.w.heap[b]?
 lo:∀ b,b<c.B0->b<c.w.heap.size->c'.w.heap[b]? = c.w.heap[b]?
def Cx.low (c:Cx):Cx:=⟨c.shp,c.B0,fun b=>b<c.B0/\b<c.w.heap.size,c.w⟩
variable {b:Nat}
theorem mE {w w':World} (h:w'.heap[b]? = w.heap[b]?) (hb:b<w.heap.size):b<w'.heap.size:=by
 rw [ah7 hb] at h;exact (aeD.1 h).1
theorem Cx.le.low {c c':Cx} (h:c.le c'):c.low.le c'.low:=⟨h.shp,h.B0,fun b hb=>⟨⟨by rw [h.B0]; exact hb.1,mE (h.lo b hb.1 hb.2) hb.2⟩,h.lo b hb.1 hb.2⟩,h.lo⟩
theorem Cx.le.refl (c:Cx):c.le c:=⟨rfl,rfl,fun _ h=>⟨h,rfl⟩,fun _ _ _=>rfl⟩
theorem Cx.le.trans {a b c:Cx} (h:a.le b) (k:b.le c):a.le c:=
 ⟨k.shp.trans h.shp,k.B0.trans h.B0,fun x hx=>⟨(k.S x (h.S x hx).1).1,((k.S x (h.S x hx).1).2).trans (h.S x hx).2⟩,fun x hx hs=>(k.lo x (by rw [h.B0]; exact hx) (mE (h.lo x hx hs) hs)).trans (h.lo x hx hs)⟩
variable {c':Cx}
theorem Cx.le.at_ {c:Cx} (h:c.le c') {s:Sh} (k:c.at s b):c'.at s b:=by
 refine ⟨(h.S b k.1).1,?_⟩;rcases k.2 with k2 | ⟨cur,t,fr,k2,k3,k4⟩
 ·left; rw [h.B0]; exact k2
 right; exact ⟨cur,t,fr,((h.S b k.1).2).trans k2,by rw [h.shp]; exact k3,k4⟩
theorem LiAt.le {c c':Cx} {nw:Bool} {a:Option Addr} {xs:List Int} (k:LiAt c nw a xs) (h:c.le c'):LiAt c' nw a xs:=by
 rcases k with k | ⟨A,hA,hn,ho,hc⟩
 ·exact .inl k
 refine .inr ⟨A,hA,fun e=>⟨(h.S _ (hn e).1).1,by rw [h.B0]; exact (hn e).2.1,?_⟩,fun e=>(ho e).imp (fun k=>⟨by rw [h.B0]; exact k.1,mE (h.lo _ k.1 k.2) k.2⟩) fun k=>h.at_ k,?_⟩
 ·obtain ⟨cur,t,fr,e1,e2,e3⟩:=(hn e).2.2;exact ⟨cur,t,fr,((h.S _ (hn e).1).2).trans e1,by rw [h.shp]; exact e2,e3⟩
 cases nw
 ·rcases ho rfl with k | k
  ·exact hc.keep (h.lo _ k.1 k.2)
  exact hc.keep (h.S _ k.1).2
 exact hc.keep (h.S _ (hn rfl).1).2
theorem sY {c:Cx} (h:c.le c'):(∀ a v,Pd c a v->Pd c' a v)/\(∀ asx vs,Pds c asx vs->Pds c' asx vs):=by
 refine ⟨fun a v hp=>?_,fun asx vs hp=>?_⟩
 ·refine @Pd.rec c (fun a v _=>Pd c' a v) (fun asx vs _=>Pds c' asx vs) ?_ ?_ ?_ ?_ ?_ ?_ ?_ ?_ ?_ ?_ a v hp
  ·intro n h1; exact .int h1
  ·intro b; exact .u8
  ·intro n h1; exact .u64 h1
  ·intro e; exact .bool
  ·intro s h1; exact .str h1
  ·intro b a h1; exact .em h1
  ·intro s xs a k cells h1 h2 h3 _ h5 ih;refine .fz h1 h2 h3 ih ?_;rcases h5 with h5 | ⟨A,hA,hat,hc⟩
   ·exact .inl h5
   exact .inr ⟨A,hA,h.at_ hat,hc.keep (h.S _ hat.1).2⟩
  ·intro nw xs a k h1 h2 h3 h4 h5; exact .li h1 h2 h3 h4 (h5.le h)
  ·exact .nil
  intro a v r vs _ _ h1 h2; exact .cons h1 h2
 induction asx generalizing vs with
 | nil=>cases hp; exact .nil
 | cons a r ih=>
  cases hp with
  | cons h1 h2=>
   refine .cons ?_ (ih _ h2);refine @Pd.rec c (fun a v _=>Pd c' a v) (fun asx vs _=>Pds c' asx vs) ?_ ?_ ?_ ?_ ?_ ?_ ?_ ?_ ?_ ?_ _ _ h1
   ·intro n h1; exact .int h1
   ·intro b; exact .u8
   ·intro n h1; exact .u64 h1
   ·intro e; exact .bool
   ·intro s h1; exact .str h1
   ·intro b a h1; exact .em h1
   ·intro s xs a k cells h1 h2 h3 _ h5 ih;refine .fz h1 h2 h3 ih ?_;rcases h5 with h5 | ⟨A,hA,hat,hc⟩
    ·exact .inl h5
    exact .inr ⟨A,hA,h.at_ hat,hc.keep (h.S _ hat.1).2⟩
   ·intro nw xs a k h1 h2 h3 h4 h5; exact .li h1 h2 h3 h4 (h5.le h)
   ·exact .nil
   intro a v r vs _ _ h1 h2; exact .cons h1 h2
variable {a:AV}
theorem Pd.carry {c:Cx} {v:Value} (h:Pd c a v) (k:c.le c'):Pd c' a v:=(sY k).1 _ _ h
variable {vs:List Value} {asx:List AV}
theorem Pds.carry {c:Cx} (h:Pds c asx vs) (k:c.le c'):Pds c' asx vs:=(sY k).2 _ _ h
theorem Pd.one {c:Cx} {v:Value} (h:Pd c a v):v.oneCell' = true:=by cases h <;> simp [Value.oneCell',Str.val]
theorem Pds.Kz {c:Cx}:∀ {asx:List AV} {vs:List Value},Pds c asx vs->∀ u ∈ vs,u.oneCell' = true
 | [],_,h=>by cases h; simp
 | _ :: _,_,h=>by
  cases h with
  | cons h1 h2=>
   intro u hu;rcases aa_.1 hu with rfl | hu
   ·exact h1.one
   exact h2.Kz u hu
theorem Pds.length {c:Cx} {asx:List AV} {vs:List Value} (h:Pds c asx vs):asx.length=vs.length:=h.all.length
theorem Pds.append {c:Cx}:∀ {asx bs:List AV} {vs us:List Value},Pds c asx vs->Pds c bs us->Pds c (asx++bs) (vs++us)
 | [],_,_,_,h,k=>by cases h; exact k
 | _ :: _,_,_,_,h,k=>by cases h with | cons h1 h2=>exact .cons h1 (h2.append k)
theorem Pds.take {c:Cx} {asx:List AV} {vs:List Value} (h:Pds c asx vs) (n:Nat):Pds c (asx.take n) (vs.take n):=.of (h.all.take n)
theorem Pds.drop {c:Cx} {asx:List AV} {vs:List Value} (h:Pds c asx vs) (n:Nat):Pds c (asx.drop n) (vs.drop n):=.of (h.all.drop n)
theorem cO (s:Sh) (x:den s):(cellsOf s x).length=s.size:=by
 cases s <;> try rfl
 rename_i t;cases t <;> rfl
theorem size_pos (s:Sh):0<s.size:=by
 cases s with
 | nm t=>cases t <;> decide
 | _=>simp [Sh.size]
theorem gS (s:Sh):0<s.bytes:=by
 cases s with
 | nm t=>cases t <;> decide
 | _=>simp [Sh.bytes]
theorem bQ {s:Sh}:∀ (xs:List (den s)),(xs.flatMap (cellsOf s)).length=xs.length*s.size
 | []=>by simp
 | x :: r=>by rw [List.flatMap_cons,List.length_append,bQ r,cO,List.length_cons,ahX]; omega
theorem px {s:Sh}:∀ (xs:List (den s)) (i:Nat),(xs.flatMap (cellsOf s)).drop (i*s.size)=(xs.drop i).flatMap (cellsOf s)
 | [],i=>by simp
 | x :: r,0=>by simp
 | x :: r,i+1=>by
  rw [List.flatMap_cons,List.drop_append,List.drop_eq_nil_of_le (by rw [cO,ahX]; omega),cO,show (i+1)*s.size - s.size=i*s.size by rw [ahX]; omega,px r i];simp
theorem uC {s:Sh}:∀ (xs:List (den s)) (i:Nat),(xs.flatMap (cellsOf s)).take (i*s.size)=(xs.take i).flatMap (cellsOf s)
 | [],i=>by simp
 | x :: r,0=>by simp
 | x :: r,i+1=>by
  rw [List.flatMap_cons,List.take_append,List.take_of_length_le (by rw [cO,ahX]; omega),cO,show (i+1)*s.size - s.size=i*s.size by rw [ahX]; omega,uC r i];simp
variable {i:Nat}
theorem ov {s:Sh} {xs:List (den s)} {x:den s} (h:xs[i]? = some x):((xs.flatMap (cellsOf s)).drop (i*s.size)).take s.size=cellsOf s x:=by
 rw [px];have hi:i<xs.length:=(aaj.1 h).1;rw [aeB hi,List.flatMap_cons,aez (by rw [cO]; omega)];have hx:xs[i]=x:=by rw [List.getElem?_eq_getElem hi] at h; exact adt h
 rw [hx,List.take_of_length_le (by rw [cO]; omega)]
theorem Bf {s:Sh} {xs:List (den s)} {x y:den s} (h:xs[i]? = some x):(xs.set i y).flatMap (cellsOf s)=(xs.take i).flatMap (cellsOf s)++cellsOf s y++(xs.drop (i+1)).flatMap (cellsOf s):=by
 have hi:i<xs.length:=(aaj.1 h).1;have e:xs.set i y=xs.take i++y :: xs.drop (i+1):=by
  rw [List.set_eq_take_append_cons_drop,if_pos hi]
 rw [e,List.flatMap_append,List.flatMap_cons,List.append_assoc]
theorem qg (s:Sh) (x:den s):∀ a ∈ cellsOf s x,a.plain=true:=by
 cases s with
 | nm t=>cases t <;> simp [cellsOf,NT.cells,AV.plain]
 | _=>simp [cellsOf,AV.plain]
section
variable {c:Cx} {a:AV} {v:Value}
theorem AV.agh {n:Int} (h:a.aW=some n):a = .int n:=by cases a <;> simp [AV.aW] at h; rw [h]
theorem AV.ah0 {n:UInt8} (h:a.VP=some n):a = .u8 n:=by cases a <;> simp [AV.VP] at h; rw [h]
theorem AV.aib {n:U64} (h:a.VM=some n):a = .u64 n.n:=by cases a <;> simp [AV.VM] at h; rw [<- h]
theorem AV.ag_ {n:Str} (h:a.BY=some n):a = .str n:=by cases a <;> simp [AV.BY] at h; rw [h]
def Qd (c:Cx) (a:AV) (v:Value):Prop:=a.plain=true->Pd c a v
theorem Pd.aW {n:Int} (h:a.aW=some n) (k:Qd c a v):Pd c (.int n) v:=by obtain rfl:=AV.agh h; exact k rfl
theorem Pd.VP {n:UInt8} (h:a.VP=some n) (k:Qd c a v):Pd c (.u8 n) v:=by obtain rfl:=AV.ah0 h; exact k rfl
theorem Pd.VM {n:U64} (h:a.VM=some n) (k:Qd c a v):Pd c (.u64 n.n) v:=by obtain rfl:=AV.aib h; exact k rfl
theorem Pd.YW {x:Bool × List Int} (h:a.YW=some x) (k:Qd c a v):Pd c (.li x.1 x.2) v:=by
 cases a <;> simp [AV.YW] at h
 ·subst h;cases (k rfl) with
  | em h1=>exact Pd.li (xs:=[]) (k:=0) (Nat.le_refl _) (Nat.zero_le _) (by simp) (by simp) (.inl rfl)
 subst h; exact k rfl
theorem Pd.BY {n:Str} (h:a.BY=some n) (k:Qd c a v):Pd c (.str n) v:=by obtain rfl:=AV.ag_ h; exact k rfl
theorem Pd.tZ {n:Bool} (h:a.tZ=some n) (k:Qd c a v):Pd c (.bool (.atom n)) v:=by
 cases a <;> simp [AV.tZ] at h;have k:=k rfl;cases k;rw [h];exact Pd.bool (e:=.atom n)
theorem Pd.wO {s:Sh} {b:Bool} (k:Pd c (.em b) v):Pd c (.fz s []) v:=by
 cases k with
 | em h=>exact Pd.fz (xs:=([]:List (den s))) (cells:=[]) (Nat.le_refl _) (by simp [maxLen]) (by simp) .nil (.inl rfl)
theorem Pd.fQ {s:Sh} {xs:List (den s)} (h:a.fQ s=some xs) (k:Qd c a v):Pd c (.fz s xs) v:=by
 cases a <;> simp [AV.fQ] at h
 ·subst h; exact (k rfl).wO
 obtain ⟨rfl,h⟩:=h;subst h; exact k rfl
end
theorem Reply.aG {c:Cx} {x:Reply} (h:Reply.of asx=some x) (hv:All2 (Qd c) asx vs):Pds c (NT.cells .reply x) vs:=by
 unfold Reply.of at h;split at h
 ·split at h
  ·rename_i e0 e1;cases h;cases hv with | cons k0 hv=>cases hv with | cons k1 hv=>cases hv; exact .cons (Pd.aW e0 k0) ( .cons (Pd.aW e1 k1) .nil)
  cases h
 cases h
theorem Sess.aG {c:Cx} {x:Sess} (h:Sess.of asx=some x) (hv:All2 (Qd c) asx vs):Pds c (NT.cells .sess x) vs:=by
 unfold Sess.of at h;split at h
 ·split at h
  ·rename_i e0 e1 e2 e3;cases h;cases hv with | cons k0 hv=>cases hv with | cons k1 hv=>cases hv with | cons k2 hv=>cases hv with | cons k3 hv=>cases hv; exact .cons (Pd.aW e0 k0) ( .cons (Pd.aW e1 k1) ( .cons (Pd.aW e2 k2) ( .cons (Pd.aW e3 k3) .nil)))
  cases h
 cases h
theorem Opn.aG {c:Cx} {x:Opn} (h:Opn.of asx=some x) (hv:All2 (Qd c) asx vs):Pds c (NT.cells .opn x) vs:=by
 unfold Opn.of at h;split at h
 ·split at h
  ·rename_i e0 e1;cases h;cases hv with | cons k0 hv=>cases hv with | cons k1 hv=>cases hv; exact .cons (Pd.aW e0 k0) ( .cons (Pd.aW e1 k1) .nil)
  cases h
 cases h
theorem Snap.aG {c:Cx} {x:Snap} (h:Snap.of asx=some x) (hv:All2 (Qd c) asx vs):Pds c (NT.cells .snap x) vs:=by
 unfold Snap.of at h;split at h
 ·split at h
  ·rename_i e0 e1 e2 e3 e4;cases h;cases hv with | cons k0 hv=>cases hv with | cons k1 hv=>cases hv with | cons k2 hv=>cases hv with | cons k3 hv=>cases hv with | cons k4 hv=>cases hv; exact .cons (Pd.aW e0 k0) ( .cons (Pd.aW e1 k1) ( .cons (Pd.fQ e2 k2) ( .cons (Pd.tZ e3 k3) ( .cons (Pd.BY e4 k4) .nil))))
  cases h
 cases h
theorem State.aG {c:Cx} {x:State} (h:State.of asx=some x) (hv:All2 (Qd c) asx vs):Pds c (NT.cells .state x) vs:=by
 unfold State.of at h;split at h
 ·split at h
  ·rename_i e0 e1 e2 e3 e4 e5 e6;cases h;cases hv with | cons k0 hv=>cases hv with | cons k1 hv=>cases hv with | cons k2 hv=>cases hv with | cons k3 hv=>cases hv with | cons k4 hv=>cases hv with | cons k5 hv=>cases hv with | cons k6 hv=>cases hv; exact .cons (Pd.aW e0 k0) ( .cons (Pd.aW e1 k1) ( .cons (Pd.aW e2 k2) ( .cons (Pd.aW e3 k3) ( .cons (Pd.fQ e4 k4) ( .cons (Pd.fQ e5 k5) ( .cons (Pd.fQ e6 k6) .nil))))))
  cases h
 cases h
theorem Command.aG {c:Cx} {x:Command} (h:Command.of asx=some x) (hv:All2 (Qd c) asx vs):Pds c (NT.cells .command x) vs:=by
 unfold Command.of at h;split at h
 ·split at h
  ·rename_i e0 e1 e2 e3 e4 e5 e6 e7;cases h;cases hv with | cons k0 hv=>cases hv with | cons k1 hv=>cases hv with | cons k2 hv=>cases hv with | cons k3 hv=>cases hv with | cons k4 hv=>cases hv with | cons k5 hv=>cases hv with | cons k6 hv=>cases hv with | cons k7 hv=>cases hv; exact .cons (Pd.aW e0 k0) ( .cons (Pd.aW e1 k1) ( .cons (Pd.aW e2 k2) ( .cons (Pd.aW e3 k3) ( .cons (Pd.aW e4 k4) ( .cons (Pd.aW e5 k5) ( .cons (Pd.fQ e6 k6) ( .cons (Pd.BY e7 k7) .nil)))))))
  cases h
 cases h
theorem SnapE.aG {c:Cx} {x:SnapE} (h:SnapE.of asx=some x) (hv:All2 (Qd c) asx vs):Pds c (NT.cells .snapE x) vs:=by
 unfold SnapE.of at h;split at h
 ·split at h
  ·rename_i e0 e1 e2 e3 e4;cases h;cases hv with | cons k0 hv=>cases hv with | cons k1 hv=>cases hv with | cons k2 hv=>cases hv with | cons k3 hv=>cases hv with | cons k4 hv=>cases hv; exact .cons (Pd.aW e0 k0) ( .cons (Pd.aW e1 k1) ( .cons (Pd.YW e2 k2) ( .cons (Pd.tZ e3 k3) ( .cons (Pd.BY e4 k4) .nil))))
  cases h
 cases h
theorem Field.aG {c:Cx} {x:Field} (h:Field.of asx=some x) (hv:All2 (Qd c) asx vs):Pds c (NT.cells .field x) vs:=by
 unfold Field.of at h;split at h
 ·split at h
  ·rename_i e0 e1 e2 e3;cases h;cases hv with | cons k0 hv=>cases hv with | cons k1 hv=>cases hv with | cons k2 hv=>cases hv with | cons k3 hv=>cases hv; exact .cons (Pd.aW e0 k0) ( .cons (Pd.aW e1 k1) ( .cons (Pd.VM e2 k2) ( .cons (Pd.fQ e3 k3) .nil)))
  cases h
 cases h
theorem Spec.aG {c:Cx} {x:Spec} (h:Spec.of asx=some x) (hv:All2 (Qd c) asx vs):Pds c (NT.cells .spec x) vs:=by
 unfold Spec.of at h;split at h
 ·split at h
  ·rename_i e0 e1 e2 e3 e4;cases h;cases hv with | cons k0 hv=>cases hv with | cons k1 hv=>cases hv with | cons k2 hv=>cases hv with | cons k3 hv=>cases hv with | cons k4 hv=>cases hv; exact .cons (Pd.aW e0 k0) ( .cons (Pd.aW e1 k1) ( .cons (Pd.aW e2 k2) ( .cons (Pd.tZ e3 k3) ( .cons (Pd.tZ e4 k4) .nil))))
  cases h
 cases h
theorem Entry.aG {c:Cx} {x:Entry} (h:Entry.of asx=some x) (hv:All2 (Qd c) asx vs):Pds c (NT.cells .entry x) vs:=by
 unfold Entry.of at h;split at h
 ·split at h
  ·rename_i e0 e1;cases h;cases hv with | cons k0 hv=>cases hv with | cons k1 hv=>cases hv; exact .cons (Pd.aW e0 k0) ( .cons (Pd.fQ e1 k1) .nil)
  cases h
 cases h
theorem Record.aG {c:Cx} {x:Record} (h:Record.of asx=some x) (hv:All2 (Qd c) asx vs):Pds c (NT.cells .record x) vs:=by
 unfold Record.of at h;split at h
 ·split at h
  ·rename_i e0 e1 e2 e3;cases h;cases hv with | cons k0 hv=>cases hv with | cons k1 hv=>cases hv with | cons k2 hv=>cases hv with | cons k3 hv=>cases hv; exact .cons (Pd.aW e0 k0) ( .cons (Pd.aW e1 k1) ( .cons (Pd.aW e2 k2) ( .cons (Pd.fQ e3 k3) .nil)))
  cases h
 cases h
theorem Letter.aG {c:Cx} {x:Letter} (h:Letter.of asx=some x) (hv:All2 (Qd c) asx vs):Pds c (NT.cells .letter x) vs:=by
 unfold Letter.of at h;split at h
 ·split at h
  ·rename_i e0 e1 e2 e3 e4 e5 e6 e7 e8 e9;cases h;cases hv with | cons k0 hv=>cases hv with | cons k1 hv=>cases hv with | cons k2 hv=>cases hv with | cons k3 hv=>cases hv with | cons k4 hv=>cases hv with | cons k5 hv=>cases hv with | cons k6 hv=>cases hv with | cons k7 hv=>cases hv with | cons k8 hv=>cases hv with | cons k9 hv=>cases hv; exact .cons (Pd.aW e0 k0) ( .cons (Pd.aW e1 k1) ( .cons (Pd.aW e2 k2) ( .cons (Pd.aW e3 k3) ( .cons (Pd.aW e4 k4) ( .cons (Pd.aW e5 k5) ( .cons (Pd.aW e6 k6) ( .cons (Pd.aW e7 k7) ( .cons (Pd.tZ e8 k8) ( .cons (Pd.fQ e9 k9) .nil)))))))))
  cases h
 cases h
theorem Event.aG {c:Cx} {x:Event} (h:Event.of asx=some x) (hv:All2 (Qd c) asx vs):Pds c (NT.cells .event x) vs:=by
 unfold Event.of at h;split at h
 ·split at h
  ·rename_i e0 e1 e2 e3 e4 e5 e6 e7 e8 e9 e10;cases h;cases hv with | cons k0 hv=>cases hv with | cons k1 hv=>cases hv with | cons k2 hv=>cases hv with | cons k3 hv=>cases hv with | cons k4 hv=>cases hv with | cons k5 hv=>cases hv with | cons k6 hv=>cases hv with | cons k7 hv=>cases hv with | cons k8 hv=>cases hv with | cons k9 hv=>cases hv with | cons k10 hv=>cases hv; exact .cons (Pd.aW e0 k0) ( .cons (Pd.aW e1 k1) ( .cons (Pd.aW e2 k2) ( .cons (Pd.aW e3 k3) ( .cons (Pd.aW e4 k4) ( .cons (Pd.aW e5 k5) ( .cons (Pd.aW e6 k6) ( .cons (Pd.aW e7 k7) ( .cons (Pd.aW e8 k8) ( .cons (Pd.fQ e9 k9) ( .cons (Pd.BY e10 k10) .nil))))))))))
  cases h
 cases h
theorem CallR.aG {c:Cx} {x:CallR} (h:CallR.of asx=some x) (hv:All2 (Qd c) asx vs):Pds c (NT.cells .call x) vs:=by
 unfold CallR.of at h;split at h
 ·split at h
  ·rename_i e0 e1 e2 e3 e4 e5 e6 e7 e8 e9 e10 e11 e12 e13 e14 e15;cases h;cases hv with | cons k0 hv=>cases hv with | cons k1 hv=>cases hv with | cons k2 hv=>cases hv with | cons k3 hv=>cases hv with | cons k4 hv=>cases hv with | cons k5 hv=>cases hv with | cons k6 hv=>cases hv with | cons k7 hv=>cases hv with | cons k8 hv=>cases hv with | cons k9 hv=>cases hv with | cons k10 hv=>cases hv with | cons k11 hv=>cases hv with | cons k12 hv=>cases hv with | cons k13 hv=>cases hv with | cons k14 hv=>cases hv with | cons k15 hv=>cases hv; exact .cons (Pd.aW e0 k0) ( .cons (Pd.aW e1 k1) ( .cons (Pd.aW e2 k2) ( .cons (Pd.aW e3 k3) ( .cons (Pd.aW e4 k4) ( .cons (Pd.aW e5 k5) ( .cons (Pd.aW e6 k6) ( .cons (Pd.aW e7 k7) ( .cons (Pd.aW e8 k8) ( .cons (Pd.aW e9 k9) ( .cons (Pd.aW e10 k10) ( .cons (Pd.fQ e11 k11) ( .cons (Pd.BY e12 k12) ( .cons (Pd.tZ e13 k13) ( .cons (Pd.aW e14 k14) ( .cons (Pd.aW e15 k15) .nil)))))))))))))))
  cases h
 cases h
theorem Stable.aG {c:Cx} {x:Stable} (h:Stable.of asx=some x) (hv:All2 (Qd c) asx vs):Pds c (NT.cells .stable x) vs:=by
 unfold Stable.of at h;split at h
 ·split at h
  ·rename_i e0 e1 e2 e3;cases h;cases hv with | cons k0 hv=>cases hv with | cons k1 hv=>cases hv with | cons k2 hv=>cases hv with | cons k3 hv=>cases hv; exact .cons (Pd.aW e0 k0) ( .cons (Pd.aW e1 k1) ( .cons (Pd.aW e2 k2) ( .cons (Pd.fQ e3 k3) .nil)))
  cases h
 cases h
theorem Route.aG {c:Cx} {x:Route} (h:Route.of asx=some x) (hv:All2 (Qd c) asx vs):Pds c (NT.cells .route x) vs:=by
 unfold Route.of at h;split at h
 ·split at h
  ·rename_i e0 e1 e2 e3 e4;cases h;cases hv with | cons k0 hv=>cases hv with | cons k1 hv=>cases hv with | cons k2 hv=>cases hv with | cons k3 hv=>cases hv with | cons k4 hv=>cases hv; exact .cons (Pd.aW e0 k0) ( .cons (Pd.aW e1 k1) ( .cons (Pd.aW e2 k2) ( .cons (Pd.aW e3 k3) ( .cons (Pd.aW e4 k4) .nil))))
  cases h
 cases h
theorem Site.aG {c:Cx} {x:Site} (h:Site.of asx=some x) (hv:All2 (Qd c) asx vs):Pds c (NT.cells .site x) vs:=by
 unfold Site.of at h;split at h
 ·split at h
  ·rename_i e0 e1 e2 e3 e4 e5 e6 e7 e8 e9 e10 e11 e12 e13 e14 e15;cases h;cases hv with | cons k0 hv=>cases hv with | cons k1 hv=>cases hv with | cons k2 hv=>cases hv with | cons k3 hv=>cases hv with | cons k4 hv=>cases hv with | cons k5 hv=>cases hv with | cons k6 hv=>cases hv with | cons k7 hv=>cases hv with | cons k8 hv=>cases hv with | cons k9 hv=>cases hv with | cons k10 hv=>cases hv with | cons k11 hv=>cases hv with | cons k12 hv=>cases hv with | cons k13 hv=>cases hv with | cons k14 hv=>cases hv with | cons k15 hv=>cases hv; exact .cons (Pd.tZ e0 k0) ( .cons (Pd.aW e1 k1) ( .cons (Pd.aW e2 k2) ( .cons (Pd.aW e3 k3) ( .cons (Pd.aW e4 k4) ( .cons (Pd.aW e5 k5) ( .cons (Pd.aW e6 k6) ( .cons (Pd.aW e7 k7) ( .cons (Pd.fQ e8 k8) ( .cons (Pd.aW e9 k9) ( .cons (Pd.aW e10 k10) ( .cons (Pd.aW e11 k11) ( .cons (Pd.aW e12 k12) ( .cons (Pd.fQ e13 k13) ( .cons (Pd.fQ e14 k14) ( .cons (Pd.fQ e15 k15) .nil)))))))))))))))
  cases h
 cases h
theorem NOp.aG {c:Cx} {x:NOp} (h:NOp.of asx=some x) (hv:All2 (Qd c) asx vs):Pds c (NT.cells .nop x) vs:=by
 unfold NOp.of at h;split at h
 ·split at h
  ·rename_i e0 e1 e2 e3 e4 e5 e6 e7 e8 e9 e10 e11 e12 e13 e14 e15 e16 e17 e18 e19;cases h;cases hv with | cons k0 hv=>cases hv with | cons k1 hv=>cases hv with | cons k2 hv=>cases hv with | cons k3 hv=>cases hv with | cons k4 hv=>cases hv with | cons k5 hv=>cases hv with | cons k6 hv=>cases hv with | cons k7 hv=>cases hv with | cons k8 hv=>cases hv with | cons k9 hv=>cases hv with | cons k10 hv=>cases hv with | cons k11 hv=>cases hv with | cons k12 hv=>cases hv with | cons k13 hv=>cases hv with | cons k14 hv=>cases hv with | cons k15 hv=>cases hv with | cons k16 hv=>cases hv with | cons k17 hv=>cases hv with | cons k18 hv=>cases hv with | cons k19 hv=>cases hv; exact .cons (Pd.VP e0 k0) ( .cons (Pd.aW e1 k1) ( .cons (Pd.aW e2 k2) ( .cons (Pd.aW e3 k3) ( .cons (Pd.aW e4 k4) ( .cons (Pd.aW e5 k5) ( .cons (Pd.aW e6 k6) ( .cons (Pd.aW e7 k7) ( .cons (Pd.aW e8 k8) ( .cons (Pd.aW e9 k9) ( .cons (Pd.tZ e10 k10) ( .cons (Pd.fQ e11 k11) ( .cons (Pd.aW e12 k12) ( .cons (Pd.aW e13 k13) ( .cons (Pd.aW e14 k14) ( .cons (Pd.aW e15 k15) ( .cons (Pd.aW e16 k16) ( .cons (Pd.aW e17 k17) ( .cons (Pd.fQ e18 k18) ( .cons (Pd.BY e19 k19) .nil)))))))))))))))))))
  cases h
 cases h
theorem Rest.aG {c:Cx} {x:Rest} (h:Rest.of asx=some x) (hv:All2 (Qd c) asx vs):Pds c (NT.cells .rest x) vs:=by
 unfold Rest.of at h;split at h
 ·split at h
  ·rename_i e0 e1;cases h;cases hv with | cons k0 hv=>cases hv with | cons k1 hv=>cases hv; exact .cons (Pd.fQ e0 k0) ( .cons (Pd.VP e1 k1) .nil)
  cases h
 cases h
theorem Span.aG {c:Cx} {x:Span} (h:Span.of asx=some x) (hv:All2 (Qd c) asx vs):Pds c (NT.cells .span x) vs:=by
 unfold Span.of at h;split at h
 ·split at h
  ·rename_i e0 e1;cases h;cases hv with | cons k0 hv=>cases hv with | cons k1 hv=>cases hv; exact .cons (Pd.aW e0 k0) ( .cons (Pd.aW e1 k1) .nil)
  cases h
 cases h
theorem TS {c:Cx} {t:NT} {x:t.den} (h:NT.of t asx=some x) (hv:All2 (Qd c) asx vs):Pds c (t.cells x) vs:=by
 cases t
 ·exact Reply.aG h hv
 ·exact Sess.aG h hv
 ·exact Opn.aG h hv
 ·exact Snap.aG h hv
 ·exact State.aG h hv
 ·exact Command.aG h hv
 ·exact SnapE.aG h hv
 ·exact Field.aG h hv
 ·exact Spec.aG h hv
 ·exact Entry.aG h hv
 ·exact Record.aG h hv
 ·exact Letter.aG h hv
 ·exact Event.aG h hv
 ·exact CallR.aG h hv
 ·exact Stable.aG h hv
 ·exact Route.aG h hv
 ·exact Site.aG h hv
 ·exact NOp.aG h hv
 ·exact Rest.aG h hv
 exact Span.aG h hv
theorem aG {c:Cx} {s:Sh} {x:den s} (h:gh s asx=some x) (hv:All2 (Qd c) asx vs):Pds c (cellsOf s x) vs:=by
 unfold gh at h;split at h
 ·cases h; cases hv with | cons h1 h2=>cases h2; exact .cons (h1 rfl) .nil
 ·cases h; cases hv with | cons h1 h2=>cases h2; exact .cons (h1 rfl) .nil
 ·cases h; cases hv with | cons h1 h2=>cases h2; exact .cons (h1 rfl) .nil
 ·cases h; cases hv with | cons h1 h2=>cases h2; exact .cons (Pd.tZ rfl h1) .nil
 ·cases h; cases hv with | cons h1 h2=>cases h2; exact .cons (h1 rfl) .nil
 ·cases hv with | cons h1 h2=>cases h2; exact .cons (Pd.YW h h1) .nil
 ·cases hv with | cons h1 h2=>cases h2; exact .cons (Pd.fQ h h1) .nil
 ·exact TS h hv
 cases h
end Go.Proofs.YticbaadnibdbkaaGreat
namespace Go.Proofs.YticbaadnibdbkaaGreat
open Go.RowKit
inductive RE
 | no | blk (g:Nat) | row (g cap len z:Nat) | emp
def RE.g?:RE->Option Nat
 | .blk g=>some g
 | .row g _ _ _=>some g
 | _=>none
def live (ρ:List RE) (b:Nat):Prop:=∃ (i:Nat) (r:RE),ρ[i]? = some r/\r.g? = some b
structure Gl where
 shp:TypeId->Option Sh
 B0:Nat
 Z:Nat->Prop
def cx (G:Gl) (ρ:List RE) (w:World):Cx:=⟨G.shp,G.B0,fun b=>b<w.heap.size/\¬ live ρ b/\¬ G.Z b,w⟩
def dZ (ρ:List RE) (q:Nat × Nat) (v:Value):Prop:=∃ g,ρ[q.1]? = some (.blk g)/\v = .pointer (some ⟨g,q.2,none⟩)
def oI:Value->Option Int
 | .int .i64 v=>some v
 | _=>none
def getM (k:Int):List MapEntry->Option Value
 | []=>none
 | e :: r=>if oI e.key=some k then some e.val else getM k r
def V1 (c:Cx) (s:Sh) (x:den s) (v:Value):Prop:=∃ vs,Pds c (cellsOf s x) vs/\((s.oU=true/\v = .agg vs.toArray)\/(s.oU=false/\vs=[v]))
def VO (c:Cx) (s:Sh):Option Value->Option (den s)->Prop
 | none,none=>True
 | some v,some x=>V1 c s x v
 | _,_=>False
def Uh (c:Cx) (g:Nat) (s:Sh) (f:Int->Option (den s)):Prop:=
 ∃ a n,c.w.heap[g]? = some (.map a n)/\(∀ e ∈ a.toList,∃ k,e.key = .int .i64 k)/\∀ k,VO c s (getM k a.toList) (f k)
def Uj:Value->Option Str
 | .string s=>some ⟨s.data.toList⟩
 | _=>none
def wP (k:Str):List MapEntry->Option Value
 | []=>none
 | e :: r=>if Uj e.key=some k then some e.val else wP k r
def ahy (l:List MapEntry) (f:Str->Option Int):Prop:=(∀ e ∈ l,∃ s,e.key = .string s)/\∀ k,wP k l=(f k).map (.int .i64)/\∀ n,f k=some n->I64 n
def KC.val:KC->Value
 | .i n=>.int .i64 n
 | .b v=>.bool v
 | .f g=>.func (.func g) #[] #[]
 | .nf=>.nilFunc
def KC.fv:KC->Value
 | .f g=>.func (.func g) #[] #[]
 | _=>.nilFunc
def ahm (a:List MapEntry) (l:List (Int × List KC)):Prop:=(∀ e ∈ a,∃ k,e.key = .int .i64 k)/\∀ k,getM k a=(dK l k).map fun cs=>.agg (cs.map KC.val).toArray
def XK.rd (c:Cx):XK->List Value->Value->Prop
 | .er b,us,v=>us=[]/\((b=true/\v = .nilIface)\/(b=false/\∃ t u,v = .iface t u))
 | .pl,us,v=>∃ A,v = .slice (some A) us.length us.length/\us.length<=16777216/\c.S A.block/\CellsAt c.w A us
 | .pa,us,v=>∃ A,v = .pointer (some A)/\c.S A.block/\CellsAt c.w A us
 | .fm f,us,v=>us=[]/\∃ g a n,v = .map (some g)/\c.S g/\c.w.heap[g]? = some (.map a n)/\ahy a.toList f
 | .bp,us,v=>us.length=1/\(v = .pointer none\/us=[v])
 | .ff s xs,us,v=>us=[]/\Pd c.low (.fz s xs) v
 | .mx b xs,us,v=>us=[]/\Pd (bif b then c else c.low) (.fz .int xs) v
 | .w n,us,v=>us=[]/\n<4294967296/\v = .int .u32 n
 | .km l,us,v=>us=[]/\∃ g a n,v = .map (some g)/\c.S g/\c.w.heap[g]? = some (.map a n)/\ahm a.toList l
 | .kf x,us,v=>us=[]/\v=x.fv
variable {us:List Value}
theorem XK.UP {c c':Cx} {s:Sh} {xs:List (den s)} {v:Value} (h:XK.rd c (.ff s xs) us v) (hc:c.low.le c'.low):XK.rd c' (.ff s xs) us v:=⟨h.1,h.2.carry hc⟩
theorem XK.rd.le {c c':Cx} {k:XK} {us:List Value} {v:Value} (h:k.rd c us v) (hc:c.le c'):k.rd c' us v:=by
 cases k;case er=>exact h
 case pl=>obtain ⟨A,h1,h0,h2,h3⟩:=h; exact ⟨A,h1,h0,(hc.S _ h2).1,h3.keep (hc.S _ h2).2⟩
 case pa=>obtain ⟨A,h1,h2,h3⟩:=h; exact ⟨A,h1,(hc.S _ h2).1,h3.keep (hc.S _ h2).2⟩
 case fm=>obtain ⟨h0,g,a,n,h1,h2,h3,h4⟩:=h; exact ⟨h0,g,a,n,h1,(hc.S _ h2).1,((hc.S _ h2).2).trans h3,h4⟩
 case bp=>exact h
 case w=>exact h
 case kf=>exact h
 case km=>obtain ⟨h0,g,a,n,h1,h2,h3,h4⟩:=h; exact ⟨h0,g,a,n,h1,(hc.S _ h2).1,((hc.S _ h2).2).trans h3,h4⟩
 case ff=>exact XK.UP h hc.low
 case mx nw xs=>
  cases nw
  ·exact ⟨h.1,h.2.carry hc.low⟩
  exact ⟨h.1,h.2.carry hc⟩
variable {ρ:List RE}
theorem XK.rd.one {c:Cx} {k:XK} {cs:List (Nat × Nat)} {v:Value} (h:k.rd c us v) (hc:All2 (dZ ρ) cs us):v.oneCell' = true:=by
 cases k;case er=>obtain ⟨_,⟨_,rfl⟩ | ⟨_,_,_,rfl⟩⟩:=h <;> rfl
 case pl=>obtain ⟨A,rfl,_⟩:=h; rfl
 case pa=>obtain ⟨A,rfl,_⟩:=h; rfl
 case fm=>obtain ⟨_,g,a,n,rfl,_⟩:=h; rfl
 case ff=>obtain ⟨_,h⟩:=h; cases h; rfl
 case mx=>obtain ⟨_,h⟩:=h; cases h; rfl
 case w=>obtain ⟨_,_,rfl⟩:=h; rfl
 case km=>obtain ⟨_,g,a,n,rfl,_⟩:=h; rfl
 case kf x=>obtain ⟨_,rfl⟩:=h; cases x <;> rfl
 case bp=>
  obtain ⟨_,rfl | rfl⟩:=h
  ·rfl
  cases hc with | cons h1 _=>obtain ⟨_,_,rfl⟩:=h1; rfl
def Rd (c:Cx) (ρ:List RE):AV->Value->Prop
 | .mq id,v=>∃ g,ρ[id]? = some (.blk g)/\v = .map (some g)
 | .own id,v=>(∃ g cap len z,ρ[id]? = some (.row g cap len z)/\v = .slice (some ⟨g,0,none⟩) len cap)\/(ρ[id]? = some .emp/\∃ a,v = .slice a 0 0)
 | .sub id off len,v=>(∃ g cap L z,ρ[id]? = some (.row g cap L z)/\off+len<=L/\v = .slice (some ⟨g,off*z,none⟩) len (cap - off))\/(ρ[id]? = some .emp/\off=0/\len=0/\∃ a,v = .slice a 0 0)
 | .ptr id o,v=>dZ ρ (id,o) v
 | .np,v=>v = .pointer none
 | .elp id i o,v=>∃ g cap len z,ρ[id]? = some (.row g cap len z)/\i<len/\v = .pointer (some ⟨g,i*z+o,none⟩)
 | .fe s x o,v=>∃ A cells,c.S A.block/\CellsAt c.w A cells/\Pds c (cellsOf s x) cells/\v = .pointer (some (A.add o))
 | .fn f b cs,v=>∃ bs us,All2 (dZ ρ) b bs/\All2 (dZ ρ) cs us/\v = .func (.func f) bs.toArray us.toArray
 | .nf,v=>v = .nilFunc
 | .yl l,v=>v = .func (.yield l) #[] #[]
 | .xx k cs,v=>∃ us,All2 (dZ ρ) cs us/\k.rd c us v
 | .dead,v=>v.oneCell' = true
 | a,v=>Pd c a v
def cZ (c:Cx) (ρ:List RE):TV1->Value->Prop
 | .c a,v=>Rd c ρ a v
 | .agg l,v=>∃ vs,v = .agg vs.toArray/\All2 (Rd c ρ) l vs
def Rt (c:Cx) (ρ:List RE):TV->Value->Prop
 | .one t,v=>cZ c ρ t v
 | .tup l,v=>∃ vs,v = .tuple vs.toArray/\All2 (cZ c ρ) l vs
 | .un,_=>True
def FrR (c:Cx) (ρ:List RE) (fr:AFr) (F:Fr):Prop:=All2 (fun p q=>p.1=q.1/\Rt c ρ p.2 q.2) fr F
def lookF (k:Int):List (Int × AV)->Option AV
 | []=>none
 | (j,a) :: r=>if k=j then some a else lookF k r
def FO (c:Cx) (ρ:List RE):Option Value->Option AV->Prop
 | none,none=>True
 | some v,some a=>Rd c ρ a v
 | _,_=>False
def Qw (c:Cx) (ρ:List RE) (g:Nat) (l:List (Int × AV)):Prop:=
 ∃ a n,c.w.heap[g]? = some (.map a n)/\(∀ e ∈ a.toList,∃ k,e.key = .int .i64 k)/\∀ k,FO c ρ (getM k a.toList) (lookF k l)
def OR (c:Cx) (ρ:List RE):AO->RE->Prop
 | .gone,r=>r = .no
 | .mapo s f,r=>∃ g,r = .blk g/\Uh c g s f
 | .mapf l,r=>∃ g,r = .blk g/\Qw c ρ g l
 | .loc,_=>True
 | .arr t s n xs,r=>∃ g vs,r = .blk g/\c.w.heap[g]? = some (.cells (List.toArray vs) t (0,0))/\Pds c (xs.flatMap (cellsOf s)) vs/\xs.length=n/\s.size=1
 | .box t cs,r=>∃ g vs,r = .blk g/\c.w.heap[g]? = some (.cells (List.toArray vs) t (0,0))/\All2 (Rd c ρ) cs vs
 | .row t s xs,r=>c.shp t=some s/\xs.length*s.bytes<=140737488355328/\((r = .emp/\xs=[])\/∃ g cap cells sp,r = .row g cap xs.length s.size/\c.w.heap[g]? = some (.cells (List.toArray (cells++sp)) t (0,0)) /\
   Pds c (xs.flatMap (cellsOf s)) cells/\(cells++sp).length=cap*s.size/\xs.length<=cap/\cap<=maxLen)
def agE (c:Cx) (q:Nat × Bool):Prop:=c.S q.1/\∃ v t fr,c.w.heap[q.1]? = some (.cells #[v] t fr)/\match q.2 with
 | true=>∃ m,v = .int .i64 m
 | false=>∃ tp p,v = .iface tp p
def TabsOK (c:Cx):Prop:=(∀ q ∈ abZ,agE c q)/\∀ e ∈ Rl,c.S e.g/\e.g<c.B0/\e.xs.length<=maxLen/\e.xs.length*e.s.bytes<=140737488355328/\∃ cells t fr,c.w.heap[e.g]? = some (.cells (List.toArray cells) t fr)/\Pds c (e.xs.flatMap (cellsOf e.s)) cells
theorem TabsOK.carry {c c':Cx} (h:TabsOK c) (k:c.le c'):TabsOK c':=by
 refine ⟨fun q hq=>?_,fun e he=>?_⟩
 ·obtain ⟨h1,v,t,fr,h2,h3⟩:=h.1 q hq;exact ⟨(k.S _ h1).1,v,t,fr,((k.S _ h1).2).trans h2,h3⟩
 obtain ⟨h1,h2,h3,h4,cells,t,fr,h5,h6⟩:=h.2 e he;exact ⟨(k.S _ h1).1,by rw [k.B0]; exact h2,h3,h4,cells,t,fr,((k.S _ h1).2).trans h5,h6.carry k⟩
structure Rep (G:Gl) (ρ:List RE) (H:AH) (w:World):Prop where
 obj:All2 (OR (cx G ρ w) ρ) H ρ
 inj:∀ (i j:Nat) (r r':RE) (g:Nat),ρ[i]? = some r->ρ[j]? = some r' -> r.g? = some g->r'.g? = some g->i=j
 bnd:∀ (i:Nat) (r:RE) (g:Nat),ρ[i]? = some r->r.g? = some g->G.B0<=g/\g<w.heap.size/\¬ G.Z g
 z:∀ b,G.Z b->b<w.heap.size
 b0:G.B0<=w.heap.size
 tb:TabsOK (cx G ρ w)
structure Ext (ρ0:List RE) (w0:World) (ρ:List RE) (w:World):Prop where
 os:w.os=w0.os
 tape:w.tape=w0.tape
 output:w.output=w0.output
 size:w0.heap.size<=w.heap.size
 old:∀ b,b<w0.heap.size->¬ live ρ0 b->¬ live ρ b/\w.heap[b]? = w0.heap[b]?
theorem Ext.refl (ρ:List RE) (w:World):Ext ρ w ρ w:=⟨rfl,rfl,rfl,Nat.le_refl _,fun _ _ h=>⟨h,rfl⟩⟩
theorem Ext.trans {ρ0 ρ1 ρ2:List RE} {a b c:World} (h:Ext ρ0 a ρ1 b) (k:Ext ρ1 b ρ2 c):Ext ρ0 a ρ2 c:=
 ⟨k.os.trans h.os,k.tape.trans h.tape,k.output.trans h.output,Nat.le_trans h.size k.size,fun x hx hl=>by
  obtain ⟨h1,h2⟩:=h.old x hx hl;obtain ⟨h3,h4⟩:=k.old x (aba hx h.size) h1;exact ⟨h3,h4.trans h2⟩⟩
variable {H:AH} {w:World}
theorem Rep.lo {G:Gl} (h:Rep G ρ H w) (b:Nat) (hb:b<G.B0):b<w.heap.size/\¬ live ρ b:=
 ⟨aba hb h.b0,fun ⟨i,r,h1,h2⟩=>by have:=(h.bnd i r b h1 h2).1; omega⟩
theorem Ext.le {G:Gl} {ρ ρ':List RE} {w w':World} (h:Ext ρ w ρ' w') (hl:∀ b,b<G.B0->b<w.heap.size/\¬ live ρ b):(cx G ρ w).le (cx G ρ' w'):=
 ⟨rfl,rfl,fun b hb=>⟨⟨aba hb.1 h.size,(h.old b hb.1 hb.2.1).1,hb.2.2⟩,(h.old b hb.1 hb.2.1).2⟩,fun b hb hs=>(h.old b hs (hl b hb).2).2⟩
theorem Kp.le {G:Gl} {ρ:List RE} {w w':World} (k:Kp [] w w'):(cx G ρ w).le (cx G ρ w'):=
 ⟨rfl,rfl,fun b hb=>⟨⟨aba hb.1 k.size,hb.2⟩,k.block b hb.1 (by simp)⟩,fun b _ hs=>k.block b hs (by simp)⟩
theorem Ext.kp {w':World} (k:Kp [] w w'):Ext ρ w ρ w':=⟨k.os,k.tape,k.output,k.size,fun b hb h=>⟨h,k.block b hb (by simp)⟩⟩
variable {a:AV}
theorem iE {c:Cx} {v:Value} (h:a.plain=true):Rd c ρ a v↔Pd c a v:=by cases a <;> first | exact .rfl | cases h
theorem lz {c:Cx} {v:Value} (h:Pd c a v):Rd c ρ a v:=by cases h <;> first | exact .int ‹_› | exact .u8 | exact .u64 ‹_› | exact .bool | exact .str ‹_› | exact .em ‹_› | exact .li ‹_› ‹_› ‹_› ‹_› ‹_› | exact .fz ‹_› ‹_› ‹_› ‹_› ‹_›
theorem gI {c:Cx} {ρ:List RE}:∀ {asx:List AV} {vs:List Value},Pds c asx vs->All2 (Rd c ρ) asx vs
 | [],_,h=>by cases h; exact .nil
 | _ :: _,_,h=>by cases h with | cons h1 h2=>exact .cons (lz h1) (gI h2)
theorem jP {c:Cx} {ρ:List RE}:∀ {asx:List AV} {vs:List Value},(∀ a ∈ asx,a.plain=true)->All2 (Rd c ρ) asx vs->Pds c asx vs
 | [],_,_,h=>by cases h; exact .nil
 | _ :: _,_,hp,h=>by cases h with | cons h1 h2=>exact .cons ((iE (hp _ (by simp))).1 h1) (jP (fun a ha=>hp a (by simp [ha])) h2)
theorem Rd.one {c:Cx} {ρ:List RE} {a:AV} {v:Value} (h:Rd c ρ a v):v.oneCell' = true:=by
 cases a;case own=>rcases h with ⟨_,_,_,_,_,rfl⟩ | ⟨_,_,rfl⟩ <;> rfl
 case sub=>rcases h with ⟨_,_,_,_,_,_,rfl⟩ | ⟨_,_,_,_,rfl⟩ <;> rfl
 case ptr=>obtain ⟨_,_,rfl⟩:=h; rfl
 case np=>cases h; rfl
 case elp=>obtain ⟨_,_,_,_,_,_,rfl⟩:=h; rfl
 case fe=>obtain ⟨_,_,_,_,_,rfl⟩:=h; rfl
 case fn=>obtain ⟨_,_,_,_,rfl⟩:=h; rfl
 case nf=>cases h; rfl
 case yl=>cases h; rfl
 case xx=>obtain ⟨us,h1,h2⟩:=h; exact h2.one h1
 case mq=>obtain ⟨_,_,rfl⟩:=h; rfl
 case dead=>exact h
 all_goals exact Pd.one h
def kq (ρ ρ':List RE):Prop:=∀ (i:Nat) (r:RE),ρ[i]? = some r->r ≠ .no->ρ'[i]? = some r
theorem kq.refl (ρ:List RE):kq ρ ρ:=fun _ _ h _=>h
theorem gk (ρ σ:List RE):kq ρ (ρ++σ):=fun i r h _=>by
 rw [List.getElem?_append_left (aaj.1 h).1]; exact h
theorem dZ.carry {ρ':List RE} {q:Nat × Nat} {v:Value} (h:dZ ρ q v) (k:kq ρ ρ'):dZ ρ' q v:=by
 obtain ⟨g,h1,h2⟩:=h;exact ⟨g,k _ _ h1 (by simp),h2⟩
theorem Rd.carry {c c':Cx} {ρ ρ':List RE} {a:AV} {v:Value} (h:Rd c ρ a v) (hc:c.le c') (k:kq ρ ρ'):Rd c' ρ' a v:=by
 cases a;case own=>
  rcases h with ⟨g,cap,len,z,h,e⟩ | ⟨h,e⟩
  ·exact .inl ⟨g,cap,len,z,k _ _ h (by simp),e⟩
  exact .inr ⟨k _ _ h (by simp),e⟩
 case sub=>
  rcases h with ⟨g,cap,len,z,h,e⟩ | ⟨h,e⟩
  ·exact .inl ⟨g,cap,len,z,k _ _ h (by simp),e⟩
  exact .inr ⟨k _ _ h (by simp),e⟩
 case ptr=>exact dZ.carry h k
 case np=>exact h
 case elp=>
  obtain ⟨g,cap,len,z,h,e⟩:=h;exact ⟨g,cap,len,z,k _ _ h (by simp),e⟩
 case fe=>
  obtain ⟨A,cells,h1,h2,h3,e⟩:=h;exact ⟨A,cells,(hc.S _ h1).1,h2.keep (hc.S _ h1).2,h3.carry hc,e⟩
 case fn=>
  obtain ⟨bs,us,h1,h2,e⟩:=h;exact ⟨bs,us,h1.imp fun _ _ h=>h.carry k,h2.imp fun _ _ h=>h.carry k,e⟩
 case nf=>exact h
 case yl=>exact h
 case xx=>
  obtain ⟨us,h1,h2⟩:=h;exact ⟨us,h1.imp fun _ _ h=>h.carry k,h2.le hc⟩
 case mq=>
  obtain ⟨g,h1,e⟩:=h;exact ⟨g,k _ _ h1 (by simp),e⟩
 case dead=>exact h
 all_goals exact Pd.carry h hc
theorem cZ.carry {c c':Cx} {ρ ρ':List RE} {a:TV1} {v:Value} (h:cZ c ρ a v) (hc:c.le c') (k:kq ρ ρ'):cZ c' ρ' a v:=by
 cases a with
 | c a=>exact Rd.carry h hc k
 | agg l=>obtain ⟨vs,rfl,h⟩:=h; exact ⟨vs,rfl,h.imp fun _ _ h=>h.carry hc k⟩
theorem Rt.carry {c c':Cx} {ρ ρ':List RE} {a:TV} {v:Value} (h:Rt c ρ a v) (hc:c.le c') (k:kq ρ ρ'):Rt c' ρ' a v:=by
 cases a with
 | one a=>exact cZ.carry h hc k
 | tup l=>obtain ⟨vs,rfl,h⟩:=h; exact ⟨vs,rfl,h.imp fun _ _ h=>h.carry hc k⟩
 | un=>trivial
theorem FrR.carry {c c':Cx} {ρ ρ':List RE} {fr:AFr} {F:Fr} (h:FrR c ρ fr F) (hc:c.le c') (k:kq ρ ρ'):FrR c' ρ' fr F:=h.imp fun _ _ h=>⟨h.1,h.2.carry hc k⟩
theorem V1.carry {c c':Cx} {s:Sh} {x:den s} {v:Value} (h:V1 c s x v) (hc:c.le c'):V1 c' s x v:=by
 obtain ⟨vs,h1,h2⟩:=h;exact ⟨vs,h1.carry hc,h2⟩
theorem Uh.carry {c c':Cx} {g:Nat} {s:Sh} {f:Int->Option (den s)} (h:Uh c g s f) (hc:c.le c') (hb:c'.w.heap[g]? = c.w.heap[g]?):Uh c' g s f:=by
 obtain ⟨a,n,h1,h2,h3⟩:=h;refine ⟨a,n,hb.trans h1,h2,fun k=>?_⟩;have:=h3 k;cases hg:getM k a.toList <;> cases hf:f k <;> rw [hg,hf] at this
 ·trivial
 ·exact this
 ·exact this
 exact V1.carry this hc
theorem FO.map {c c':Cx} {ρ ρ':List RE} {g:AV->AV} {v:Option Value} {l:List (Int × AV)} {k:Int} (h:FO c ρ v (lookF k l)) (hg:∀ q ∈ l,∀ v,Rd c ρ q.2 v->Rd c' ρ' (g q.2) v) (l':List (Int × AV)) (hl:l' = l.map fun q=>(q.1,g q.2)):FO c' ρ' v (lookF k l'):=by
 subst hl;induction l with
 | nil=>exact (by cases v <;> first | trivial | exact h)
 | cons q l ih=>
  obtain ⟨j,a⟩:=q;simp only [lookF,aeV] at h ⊢;by_cases hk:k=j
  ·rw [if_pos hk] at h ⊢;cases v with
   | none=>exact h
   | some v=>exact hg (j,a) (by simp) v h
  rw [if_neg hk] at h ⊢;exact ih h fun q hq=>hg q (by simp [hq])
theorem Qw.map {c c':Cx} {ρ ρ':List RE} {g0:AV->AV} {g:Nat} {l l':List (Int × AV)} (h:Qw c ρ g l) (hl:l' = l.map fun q=>(q.1,g0 q.2)) (hg:∀ q ∈ l,∀ v,Rd c ρ q.2 v->Rd c' ρ' (g0 q.2) v) (hb:c'.w.heap[g]? = c.w.heap[g]?):Qw c' ρ' g l':=by
 obtain ⟨a,n,h1,h2,h3⟩:=h;exact ⟨a,n,hb.trans h1,h2,fun k=>(h3 k).map hg l' hl⟩
theorem OR.carry {c c':Cx} {ρ ρ':List RE} {o:AO} {r:RE} (h:OR c ρ o r) (hc:c.le c') (k:kq ρ ρ') (hb:∀ g,r.g? = some g->c'.w.heap[g]? = c.w.heap[g]?):OR c' ρ' o r:=by
 cases o with
 | gone=>exact h
 | mapo s f=>
  obtain ⟨g,rfl,h⟩:=h;exact ⟨g,rfl,h.carry hc (hb g rfl)⟩
 | loc=>trivial
 | mapf l=>
  obtain ⟨g,rfl,h⟩:=h;exact ⟨g,rfl,h.map (g0:=fun a=>a) (by simp) (fun _ _ _ h=>h.carry hc k) (hb g rfl)⟩
 | arr t s n xs=>
  obtain ⟨g,vs,rfl,h1,h2,h3⟩:=h;exact ⟨g,vs,rfl,(hb g rfl).trans h1,h2.carry hc,h3⟩
 | box t cs=>
  obtain ⟨g,vs,rfl,h1,h2⟩:=h;exact ⟨g,vs,rfl,(hb g rfl).trans h1,h2.imp fun _ _ h=>h.carry hc k⟩
 | row t s xs=>
  obtain ⟨h1,h2,h3⟩:=h;refine ⟨hc.shp ▸ h1,h2,h3.imp id ?_⟩;rintro ⟨g,cap,cells,sp,rfl,h4,h5,h6⟩;exact ⟨g,cap,cells,sp,rfl,(hb g rfl).trans h4,h5.carry hc,h6⟩
theorem dO {α β:Type} {R:α->β->Prop} {asx:List α} {bs:List β} (h:All2 R asx bs):∀ (i:Nat) (a:α),asx[i]? = some a->∃ b,bs[i]? = some b/\R a b:=by
 induction h with
 | nil=>intro i b hb; simp at hb
 | cons h _ ih=>
  intro i b hb;cases i with
  | zero=>simp at hb; subst hb; exact ⟨_,rfl,h⟩
  | succ i=>simpa using ih i b (by simpa using hb)
theorem cn {α β:Type} {R:α->β->Prop}:∀ {asx:List α} {bs:List β},asx.length=bs.length->(∀ (i:Nat) (a:α) (b:β),asx[i]? = some a->bs[i]? = some b->R a b)->All2 R asx bs
 | [],[],_,_=>.nil
 | [],_ :: _,h,_=>by cases h
 | _ :: _,[],h,_=>by cases h
 | a :: asx,b :: bs,h,k=>.cons (k 0 a b rfl rfl) (cn (by simpa using h) fun i x y hx hy=>k (i+1) x y (by simpa using hx) (by simpa using hy))
theorem bF {i:Nat} {o:AO} (h:getO H i=o) (hne:o ≠ .gone):H[i]? = some o:=by
 unfold getO at h;rw [List.getD_eq_getElem?_getD] at h;cases hi:H[i]? with
 | none=>rw [hi] at h; exact absurd h.symm hne
 | some x=>rw [hi] at h; simp at h; rw [h]
section
variable {G:Gl} {ρ:List RE} {H:AH} {w w':World}
variable {o:AO} {i:Nat}
theorem Rep.at_ (h:Rep G ρ H w) (ho:H[i]? = some o):∃ r,ρ[i]? = some r/\OR (cx G ρ w) ρ o r:=dO h.obj i o ho
theorem Rep.kp (h:Rep G ρ H w) (k:Kp [] w w'):Rep G ρ H w':=by
 refine ⟨cn h.obj.length fun i o r ho hr=>?_,h.inj,fun i r g h1 h2=>?_,fun b hb=>aba (h.z b hb) k.size,Nat.le_trans h.b0 k.size,h.tb.carry ((Ext.kp k).le h.lo)⟩
 ·obtain ⟨r',hr',hor⟩:=h.at_ ho;rw [hr] at hr'; cases hr';exact hor.carry ((Ext.kp k).le h.lo) (kq.refl _) fun g hg=>k.block g (h.bnd i r g hr hg).2.1 (by simp)
 have:=h.bnd i r g h1 h2;exact ⟨this.1,aba this.2.1 k.size,this.2.2⟩
variable {r:RE}
theorem Nc {b:Nat}:live (ρ++[r]) b↔live ρ b\/r.g? = some b:=by
 constructor
 ·rintro ⟨i,r',h1,h2⟩;by_cases hi:i<ρ.length
  ·rw [List.getElem?_append_left hi] at h1;exact .inl ⟨i,r',h1,h2⟩
  rw [List.getElem?_append_right (by omega)] at h1;have:i - ρ.length=0:=by
   have:=(aaj.1 h1).1;simp at this; omega
  rw [this] at h1;simp at h1; subst h1;exact .inr h2
 rintro (⟨i,r',h1,h2⟩ | h)
 ·exact ⟨i,r',by rw [List.getElem?_append_left (aaj.1 h1).1]; exact h1,h2⟩
 exact ⟨ρ.length,r,by simp,h⟩
theorem Ext.app (k:Kp [] w w') (hr:∀ g',r.g? = some g' -> w.heap.size<=g'):Ext ρ w (ρ++[r]) w':=
 ⟨k.os,k.tape,k.output,k.size,fun b hb h=>⟨fun hl=>(Nc.1 hl).elim h fun h2=>by have:=hr b h2; omega,k.block b hb (by simp)⟩⟩
theorem Rep.app (h:Rep G ρ H w) (k:Kp [] w w') {r:RE} {o:AO} (hr:∀ g,r.g? = some g->w.heap.size<=g/\g<w'.heap.size) (ho:OR (cx G (ρ++[r]) w') (ρ++[r]) o r):Rep G (ρ++[r]) (H++[o]) w':=by
 have hx:Ext ρ w (ρ++[r]) w':=Ext.app k fun g hg=>(hr g hg).1;refine ⟨?_,?_,?_,fun b hb=>aba (h.z b hb) k.size,Nat.le_trans h.b0 k.size,h.tb.carry (hx.le h.lo)⟩
 ·refine All2.append (cn h.obj.length fun i o r' ho hr'=>?_) (.cons ho .nil);obtain ⟨r'',hr'',hor⟩:=h.at_ ho;rw [hr'] at hr''; cases hr'';exact hor.carry (hx.le h.lo) (gk _ _) fun g hg=>k.block g (h.bnd i r' g hr' hg).2.1 (by simp)
 ·intro i j r1 r2 g h1 h2 h3 h4;have key:∀ i r',(ρ++[r])[i]? = some r' -> r'.g? = some g->(ρ[i]? = some r' /\ g<w.heap.size)\/(i=ρ.length/\w.heap.size<=g):=fun i r' h1 h2=>by
   by_cases hi:i<ρ.length
   ·rw [List.getElem?_append_left hi] at h1;exact .inl ⟨h1,(h.bnd i r' g h1 h2).2.1⟩
   rw [List.getElem?_append_right (by omega)] at h1;have:i - ρ.length=0:=by
    have:=(aaj.1 h1).1;simp at this; omega
   rw [this] at h1;simp at h1; subst h1;exact .inr ⟨by omega,(hr g h2).1⟩
  rcases key i r1 h1 h3 with ⟨a,b⟩ | ⟨a,b⟩ <;> rcases key j r2 h2 h4 with ⟨a',b'⟩ | ⟨a',b'⟩
  ·exact h.inj i j r1 r2 g a a' h3 h4
  ·omega
  ·omega
  omega
 intro i r' g h1 h2;by_cases hi:i<ρ.length
 ·rw [List.getElem?_append_left hi] at h1;have:=h.bnd i r' g h1 h2;exact ⟨this.1,aba this.2.1 k.size,this.2.2⟩
 rw [List.getElem?_append_right (by omega)] at h1;have:i - ρ.length=0:=by
  have:=(aaj.1 h1).1;simp at this; omega
 rw [this] at h1;simp at h1; subst h1;exact ⟨Nat.le_trans h.b0 (hr g h2).1,(hr g h2).2,fun hz=>by have:=h.z g hz; have:=(hr g h2).1; omega⟩
theorem Rep.put (h:Rep G ρ H w) {g:Nat} {o':AO} (hi:H[i]? = some o) (hr:ρ[i]? = some r) (hg:r.g? = some g) (k:Kp [g] w w') (ho:OR (cx G ρ w') ρ o' r):Rep G ρ (H.set i o') w' /\ Ext ρ w ρ w':=by
 have hx:Ext ρ w ρ w':=⟨k.os,k.tape,k.output,k.size,fun b hb hl=>⟨hl,k.block b hb (by
  simp only [aa6];rintro rfl;exact hl ⟨i,r,hr,hg⟩)⟩⟩
 refine ⟨⟨cn (by rw [aet]; exact h.obj.length) fun j x r' hx' hr'=>?_,h.inj,fun j r' g' h1 h2=>?_,fun b hb=>aba (h.z b hb) k.size,Nat.le_trans h.b0 k.size,h.tb.carry (hx.le h.lo)⟩,hx⟩
 ·by_cases hij:i=j
  ·subst hij;rw [ab3 (aaj.1 hi).1] at hx';cases hx';rw [hr] at hr'; cases hr';exact ho
  rw [List.getElem?_set_ne hij] at hx';obtain ⟨r'',hr'',hor⟩:=h.at_ hx';rw [hr'] at hr''; cases hr'';refine hor.carry (hx.le h.lo) (kq.refl _) fun g' hg'=>k.block g' (h.bnd j r' g' hr' hg').2.1 ?_;simp only [aa6];rintro rfl;exact hij (h.inj i j r r' g' hr hr' hg hg')
 have:=h.bnd j r' g' h1 h2;exact ⟨this.1,aba this.2.1 k.size,this.2.2⟩
end
end Go.Proofs.YticbaadnibdbkaaGreat
