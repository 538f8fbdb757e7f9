/- What leads to the law, part 1. Conditions: each lemma's own. -/
import Derived.KernelRfl
import Derived.LaidEqlPtr
import Derived.Lib.SliceRun
import Derived.Maps.AppendAt
import Derived.OrdersIn
import Derived.StillTail
import Derived.TacticsIn
import Derived.WalkKit
import Derived.WalkLawsBesides
import Derived.WalkSpells
set_option linter.unusedVariables false
set_option linter.unusedSimpArgs false
set_option maxHeartbeats 2000000
set_option linter.defProp false
namespace Go.Proofs.YticbaadnibdbkaaGreat
open Go.RowKit
def adb:=@Option.some.inj
def ahB:=@Go.Calls.mono
def acb:=@List.mem_cons_of_mem
def ac7:=@List.mem_cons_self
def ae9:=@List.map_cons
def abk:=@Nat.eq_of_beq_eq_true
def ahv:=@List.range'_succ
def ahw:=@Nat.sub_zero
def aam:=@List.getElem?_eq_some_iff
def ac5:=@Nat.le_refl
def ac1:=@List.mem_append
def ac3:=@Nat.lt_of_lt_of_le
def adf:=@List.getElem?_drop
def adj:=@List.getElem?_take
def acr:=@List.eq_nil_of_length_eq_zero
def ac8:=@List.mem_append_left
def ac9:=@List.mem_append_right
def ahi:=@Bool.eq_iff_iff
def ahn:=@Go.run_loadCells_list
def ahy:=@Prod.mk.injEq
def ahe:=@Nat.add_mul
def ahf:=@List.not_mem_nil
def ahs:=@Go.run_sliceAt_slice
def afi:=@List.all_eq_true
def ac_:=@Nat.zero_add
def aho:=@List.mem_map
def ahz:=@List.mem_filter
def afC:=@Array.getElem?_eq_some_iff
def adu:=@Bool.not_eq_true'
def agJ:=@decide_eq_false_iff_not
def afS:=@Go.getD_replicate_false
def ahC:=@List.length_range
def ac4:=@List.mem_cons
def adz:=@List.drop_eq_getElem_cons
def ado:=@List.take_append_of_le_length
def afV:=@Nat.zero_le
def age:=@List.getElem?_append_right
def ac2:=@List.mem_singleton
def adn:=@List.length_set
variable {a b:Prop}
theorem bd (x:a) (y:b):a/\b:=And.intro x y
theorem bf {c:Prop} (h:a->b->c):a/\b->c:=fun x=>h x.1 x.2
theorem ab {p:Prop} (h:p:=by with_reducible assumption):p:=h
theorem aK {p:Prop} (h:p:=by omega):p:=h
theorem cd {p:Prop} (h:p:=by kernel_rfl):p:=h
theorem bq {p:Prop} (h:p:=by first | with_reducible rfl | with_reducible assumption | omega | (constructor <;> omega)):p:=h
abbrev Fr:=List (Nat × Value)
def look:Fr->Nat->Option Value
 | [],_=>none
 | (j,v) :: r,i=>bif Nat.beq j i then some v else look r i
def ev (fr:Fr):Operand->Option Value
 | .tmp i=>look fr i
 | .const v=>some v
 | .global g=>some (.pointer (some ⟨g,0,none⟩))
 | .func f=>some (.func (.func f) #[] #[])
def M (n:Nat) (fr:Fr) (a:Act):Prop:=
 a.defers=[]/\a.tmps.size=n/\∀ i v,look fr i=some v->i<n/\a.tmps.getD i undef=v
theorem M.ev {n:Nat} {fr:Fr} {a:Act} {x:Operand} {v:Value} (h:M n fr a) (hx:ev fr x=some v):a.eval x=v:=by
 cases x with
 | tmp i=>exact (h.2.2 i v hx).2
 | const c=>exact adb hx
 | global g=>exact adb hx
 | func f=>exact adb hx
variable {i:Nat}
theorem aM {j:Nat} {v:Value} {r:Fr}:look ((j,v) :: r) i=if j=i then some v else look r i:=by
 show (bif Nat.beq j i then some v else look r i)=_;simp_all
theorem M.put {n d:Nat} {fr:Fr} {a:Act} {v:Value} (h:M n fr a) (hd:Nat.blt d n=true):M n ((d,v) :: fr) (a.put (some d) v):=by
 have hdn:d<n:=by simpa using hd
 obtain ⟨h1,h2,h3⟩:=h;refine ⟨h1,by simp [Act.put,h2],fun i u hu=>?_⟩;rw [aM] at hu;by_cases hi:d=i
 ·subst hi;rw [if_pos rfl] at hu;cases hu;exact ⟨hdn,by simp [Act.put,h2,hdn]⟩
 rw [if_neg hi] at hu;obtain ⟨hin,hg⟩:=h3 i u hu;refine ⟨hin,?_⟩;rw [<- hg];simp [Act.put,hi]
variable {a:Act} {n:Nat}
theorem M.at_ {fr:Fr} {t:Nat} {v:Value} (h:M n fr a) (hv:look fr t=some v):a.tmps[t]?.getD undef=v:=by
 have:=(h.2.2 t v hv).2;simp_all
variable {fr':Fr}
theorem M.sub {fr:Fr} (h:M n fr a) (hs:∀ i v,look fr' i=some v->look fr i=some v):M n fr' a:=
 ⟨h.1,h.2.1,fun i v hv=>h.2.2 i v (hs i v hv)⟩
abbrev gr (ro:Option Nat):Fence:={ fn:=fun _=>True,depth:=none,alive:=false,round:=ro }
def iH (a:Act) (ds:List Deferred):Act:={ a with defers:=ds }
def pD (ds:List Deferred) (Q:Exit->Act->World->Prop) (e:Exit) (a:Act) (w:World):Prop:=∃ a0:Act,a0.defers=[]/\a=iH a0 ds/\Q e a0 w
def jS (P:Program) (c:Code) (Q:Exit->Act->World->Prop) (a:Act) (w:World):Prop:=∀ ro ds,c.wpIn (gr ro) 0 P (pD ds Q) (iH a ds) w
def IT (P:Program) (l:Array Oper) (Q:Exit->Act->World->Prop) (rest:List Oper) (a:Act) (w:World):Prop:=∀ ro ds,wpListIn (gr ro) 0 P l (pD ds Q) rest (iH a ds) w
theorem ZS {ro:Option Nat}:(gr ro).room n:=fun _ h=>by cases h
theorem nc (a:Act) (ds:List Deferred):(iH a ds).eval=a.eval:=by funext x; cases x <;> rfl
theorem rF (a:Act) (ds:List Deferred) (d:Option Tmp) (v:Value):(iH a ds).put d v=iH (a.put d v) ds:=by cases d <;> rfl
theorem HT {b:Act} {ds:List Deferred} (h:iH a ds=iH b ds) (ha:a.defers=[]) (hb:b.defers=[]):a=b:=by
 cases a; cases b;simp only [iH] at h;grind
theorem EI (h:a.defers=[]) (d:Option Tmp) (v:Value):(a.put d v).defers=[]:=by cases d <;> exact h
section prim
variable {P:Program} {Q:Exit->Act->World->Prop} {a:Act} {w:World}
theorem Kh (hd:a.defers=[]) (h:Q .normal a w):jS P .skip Q a w:=fun _ _=>wpIn_skip ⟨a,hd,rfl,h⟩
theorem Fv {l:Nat} (hd:a.defers=[]) (h:Q .normal a w):jS P (.label l) Q a w:=fun _ _=>wpIn_label ⟨a,hd,rfl,h⟩
variable {id:Nat}
theorem LP (hd:a.defers=[]) (h:Q (.exit id) a w):jS P (.exit id) Q a w:=fun _ _=>wpIn_exit ⟨a,hd,rfl,h⟩
theorem OM (hd:a.defers=[]) (h:Q .ret a w):jS P .ret Q a w:=fun _ _=>wpIn_ret ⟨a,hd,rfl,h⟩
variable {x:Code}
theorem Sz {y:Code} (h:jS P x (Exit.then (jS P y Q) Q) a w):jS P (.seq x y) Q a w:=fun ro ds=>wpIn_seq (wpIn_mono (h ro ds) fun e a w hq=>by
 cases e with
 | normal=>obtain ⟨a0,_,rfl,hq⟩:=hq; exact hq ro ds
 | _=>exact hq)
theorem FC {c:Code} (h:jS P c (Exit.inBlock id Q) a w):jS P (.block id c) Q a w:=fun ro ds=>wpIn_block (wpIn_mono (h ro ds) fun e a w hq=>by
 cases e with
 | exit j=>
  obtain ⟨a0,h0,rfl,hq⟩:=hq;simp only [Exit.inBlock] at hq ⊢;split
  ·rename_i e; rw [if_pos e] at hq; exact ⟨a0,h0,rfl,hq⟩
  rename_i e; rw [if_neg e] at hq; exact ⟨a0,h0,rfl,hq⟩
 | _=>exact hq)
theorem Cm {l:List Oper} (h:IT P l.toArray Q l a w):jS P (.region id l.toArray false) Q a w:=fun ro ds=>wpIn_region_lit (h ro ds)
theorem rY {c:Operand} {y:Code} {t:Bool} (hc:a.eval c = .bool t) (ht:t=true->jS P x Q a w) (hf:t=false->jS P y Q a w):jS P (.cond c x y) Q a w:=
 fun ro ds=>wpIn_cond_split (by rw [nc]; exact hc) (fun h=>ht h ro ds) (fun h=>hf h ro ds)
theorem tJ {c:Operand} {y:Code} (hc:a.eval c = .bool true) (h:jS P x Q a w):jS P (.cond c x y) Q a w:=fun ro ds=>wpIn_cond_true (by rw [nc]; exact hc) (h ro ds)
theorem rN {c:Operand} {y:Code} (hc:a.eval c = .bool false) (h:jS P y Q a w):jS P (.cond c x y) Q a w:=fun ro ds=>wpIn_cond_false (by rw [nc]; exact hc) (h ro ds)
theorem GP {c:Code} (h:jS P c (Exit.noGoto Q) a w):jS P (.scope c) Q a w:=by
 intro ro ds b k cs hro hb hr;have h0:(lone (b.atR (iH a ds) (.code (.scope c) :: k)) cs w).fenced P (gr ro):=fenced_calm hb hr rfl;have s1:step P (lone (b.atR (iH a ds) (.code (.scope c) :: k)) cs w) = .next (lone (b.atR (iH a ds) (.code c :: .inScope c :: k)) cs w):=step_lone_go (by simp [stepG,stepG.exec,Frame.atR])
 have s2:∀ a w,step P (lone (b.atR a (.inScope c :: k)) cs w) = .next (lone (b.atR a k) cs w):=fun a w=>step_lone_go (by simp [stepG,stepG.exec,Frame.atR])
 obtain ⟨e,a₁,w₁,⟨a0,hd,rfl,hq⟩,harr⟩:=h ro ds b (.inScope c :: k) cs hro hb hr;cases e with
 | normal=>exact ⟨.normal,_,w₁,⟨a0,hd,rfl,hq⟩,.head h0 s1 (StepsIn.trans harr (.one (fenced_calm hb hr rfl) (s2 _ _)))⟩
 | exit id=>
  have hx:exitTo id (.inScope c :: k)=exitTo id k:=by simp [exitTo]
  exact ⟨.exit id,_,w₁,⟨a0,hd,rfl,hq⟩,fun k' hk=>.head h0 s1 (harr.1 k' (by rw [hx]; exact hk)),fun hr' hk=>let ⟨k₁,h1,h2⟩:=harr.2 hr' (by rw [hx]; exact hk); ⟨k₁,h1,.head h0 s1 h2⟩⟩
 | goto l=>exact hq.elim
 | ret=>exact ⟨_,_,w₁,⟨a0,hd,rfl,hq⟩,.of_steps (.one h0 s1) harr⟩
 | panic ch=>exact ⟨_,_,w₁,⟨a0,hd,rfl,hq⟩,.of_steps (.one h0 s1) harr⟩
 | outgrown=>exact ⟨_,_,w₁,⟨a0,hd,rfl,hq⟩,.of_steps (.one h0 s1) harr⟩
theorem qJ {σ:Type} {c:Code} (D:Act->World->σ->Prop) (μ:σ->Nat) (s0:σ) (h0:D a w s0)
  (round:∀ s a w,D a w s->jS P c (fun e a w=>match e with | .normal=>∃ s',D a w s' /\ μ s' < μ s | e=>Q e a w) a w):jS P (.loop c) Q a w:=by
 intro ro ds b k cs hro hb hr;have key:∀ m,∀ s a w,μ s=m->D a w s->∃ e a' w',pD ds Q e a' w' /\ ArrivesIn (Machine.fenced P (gr ro)) P (lone (b.atR (iH a ds) (.code c :: .inLoop c :: k)) cs w) b k cs e a' w':=by
  intro m;induction m using Nat.strongRecOn with
  | _ m ih=>
   intro s a w hm hD;obtain ⟨e,a₁,w₁,⟨a0,hd,rfl,hq⟩,harr⟩:=round s a w hD ro ds b (.inLoop c :: k) cs hro hb hr;cases e with
   | normal=>
    obtain ⟨s',hD',hlt⟩:=hq;obtain ⟨e₂,a₂,w₂,hq₂,harr₂⟩:=ih (μ s') (hm ▸ hlt) s' a0 w₁ rfl hD';exact ⟨e₂,a₂,w₂,hq₂,.of_steps (StepsIn.trans harr (.one (fenced_calm hb hr rfl) stepR_inLoop)) harr₂⟩
   | exit id=>exact ⟨_,_,w₁,⟨a0,hd,rfl,hq⟩,.pass (x:=.inLoop c) rfl (fun _ _=>.inl (by simp)) harr⟩
   | goto l=>exact ⟨_,_,w₁,⟨a0,hd,rfl,hq⟩,.pass (x:=.inLoop c) rfl (fun _ _=>.inl (by simp)) harr⟩
   | ret=>exact ⟨_,_,w₁,⟨a0,hd,rfl,hq⟩,.pass (x:=.inLoop c) rfl (fun _ _=>.inl (by simp)) harr⟩
   | panic ch=>exact ⟨_,_,w₁,⟨a0,hd,rfl,hq⟩,.pass (x:=.inLoop c) rfl (fun _ _=>.inl (by simp)) harr⟩
   | outgrown=>exact ⟨_,_,w₁,⟨a0,hd,rfl,hq⟩,.pass (x:=.inLoop c) rfl (fun _ _=>.inl (by simp)) harr⟩
 obtain ⟨e,a',w',hq,harr⟩:=key _ s0 a w rfl h0;exact ⟨e,a',w',hq,.of_steps (.one (fenced_calm hb hr rfl) stepR_loop) harr⟩
variable {ro:Option Nat}
theorem Oj {f:FuncId} {args:Array Value} {R:Ending->World->Prop} (h:Calls P f args w R):CallsIn (gr ro) n P f args w R:=
 ⟨trivial,fun cs _=>let ⟨e,w',fr,r,s,x⟩:=h cs; ⟨e,w',fr,r,comesIn_wide.2 s,x⟩⟩
theorem Xb {c:Code} (hd:a.defers=[]) (h:jS P c Q a w):c.wp P Q a w:=by
 have h1:=(wpIn_wide (n:=0)).1 (h none []);have e:iH a []=a:=by rw [iH,<- hd]
 rw [e] at h1;refine wp_mono h1 fun e a' w' ⟨a0,h0,e1,hq⟩=>?_;have e2:iH a0 []=a0:=by rw [iH,<- h0]
 grind
variable {o:Oper}
theorem abQ {ρ:Operand->Value} {x:Next} {w':World} (h:(execOp ρ o).run P w = .ok x w') (hx:∀ d,x ≠ .defer d):(o.semAt ro ρ).run P w = .ok x w':=by
 rw [Oper.semAt_eq]
 ·exact h
 intro c hc;rw [execOp.eq_def,hc] at h;simp only [Sem.run_bind] at h;cases hr:(resolve ρ c o.type).run P w with
 | ok d w2=>rw [hr] at h; simp at h; exact hx _ h.1.symm
 | halt d w2=>rw [hr] at h; cases h
def TG (P:Program) (o:Oper) (a:Act) (K:Act->World->Prop):Result Next->Prop
 | .ok (.value v) w'=>K (a.put o.dst v) w'
 | .ok .skip w'=>K (a.put o.dst undef) w'
 | .ok (.enter f args) w'=>Calls P f args w' fun e w''=>∃ v,e = .returned v/\K (a.put o.dst v) w''
 | _=>False
theorem Kj {K:Act->World->Prop} {r:Result Next} (h:TG P o a K r):o.uponIn (gr ro) 0 P a K Q r:=by
 cases r with
 | ok x w'=>
  cases x <;> first | exact h | exact h.elim | skip
  case enter f args=>exact ⟨(fun h=>by cases h),(Oj h).mono fun e w'' ⟨v,he,hv⟩=>by subst he; exact hv⟩
 | halt x w'=>cases x <;> exact h.elim
theorem iO {l:Array Oper} {rest:List Oper} (hg:o.guard=none) (h:∀ K:Act->World->Prop,(∀ a w,IT P l Q rest a w->K a w)->TG P o a K ((execOp a.eval o).run P w)):IT P l Q (o :: rest) a w:=fun ro ds=>
 wpListIn_plain hg fun K hK=>by
  refine ⟨fun _ _=>trivial,?_⟩;rw [nc];have h1:=h (fun a w=>IT P l Q rest a w) (fun _ _ h=>h);have hK:∀ (d:Option Tmp) (v:Value) w,IT P l Q rest (a.put d v) w->K ((iH a ds).put d v) w:=fun d v w h=>by rw [rF]; exact hK _ _ (h ro ds)
  cases hr:(execOp a.eval o).run P w with
  | ok x w'=>
   rw [hr] at h1;have hx:∀ d,x ≠ .defer d:=fun d e=>by subst e; exact h1.elim
   rw [abQ hr hx];refine Kj ?_;cases x <;> first | exact h1.elim | exact hK _ _ _ h1 | skip
   case enter f args=>exact ahB h1 fun e w'' ⟨v,he,hv⟩=>⟨v,he,hK _ _ _ hv⟩
  | halt x w'=>rw [hr] at h1; exact h1.elim
end prim
def WX (Q:Exit->Act->World->Prop) (n:Nat) (e:Exit) (fr:Fr) (w:World):Prop:=∀ a,M n fr a->Q e a w
def WC (P:Program) (Q:Exit->Act->World->Prop) (n:Nat) (c:Code) (fr:Fr) (w:World):Prop:=∀ a,M n fr a->jS P c Q a w
def WO (P:Program) (Q:Exit->Act->World->Prop) (n:Nat) (l rest:List Oper) (fr:Fr) (w:World):Prop:=∀ a,M n fr a->IT P l.toArray Q rest a w
def jI (P:Program) (f:FuncId) (args:Array Value) (w:World) (φ:Value->World->Prop):Prop:=Calls P f args w fun e w'=>∃ v,e = .returned v/\φ v w'
theorem jI.mono {P:Program} {f:FuncId} {args:Array Value} {w:World} {φ ψ:Value->World->Prop} (h:jI P f args w φ) (hh:∀ v w',φ v w' -> ψ v w'):jI P f args w ψ:=
 ahB h fun _ _ ⟨v,he,hv⟩=>⟨v,he,hh _ _ hv⟩
section rules
variable {P:Program} {Q:Exit->Act->World->Prop} {n:Nat} {fr:Fr} {w:World}
theorem WC.seq {x y:Code} (h:WC P (Exit.then (jS P y Q) Q) n x fr w):WC P Q n (.seq x y) fr w:=fun a ha=>Sz (h a ha)
theorem WC.skip (h:WX Q n .normal fr w):WC P Q n .skip fr w:=fun a ha=>Kh ha.1 (h a ha)
theorem WC.label {l:Nat} (h:WX Q n .normal fr w):WC P Q n (.label l) fr w:=fun a ha=>Fv ha.1 (h a ha)
theorem WC.exit {id:Nat} (h:WX Q n (.exit id) fr w):WC P Q n (.exit id) fr w:=fun a ha=>LP ha.1 (h a ha)
theorem WC.ret (h:WX Q n .ret fr w):WC P Q n .ret fr w:=fun a ha=>OM ha.1 (h a ha)
theorem WC.block {id:Nat} {c:Code} (h:WC P (Exit.inBlock id Q) n c fr w):WC P Q n (.block id c) fr w:=fun a ha=>FC (h a ha)
theorem WC.region {id:Nat} {l:List Oper} (h:WO P Q n l l fr w):WC P Q n (.region id l.toArray false) fr w:=fun a ha=>Cm (h a ha)
theorem WC.cond {c:Operand} {x y:Code} {b:Bool} (hc:ev fr c=some (.bool b)) (ht:b=true->WC P Q n x fr w) (hf:b=false->WC P Q n y fr w):WC P Q n (.cond c x y) fr w:=
 fun a ha=>rY (ha.ev hc) (fun h=>ht h a ha) (fun h=>hf h a ha)
variable {x:Code}
theorem WC.Db {c:Operand} {y:Code} (hc:ev fr c=some (.bool true)) (ht:WC P Q n x fr w):WC P Q n (.cond c x y) fr w:=
 fun a ha=>tJ (ha.ev hc) (ht a ha)
theorem WC.aaa {c:Operand} {y:Code} (hc:ev fr c=some (.bool false)) (hf:WC P Q n y fr w):WC P Q n (.cond c x y) fr w:=
 fun a ha=>rN (ha.ev hc) (hf a ha)
theorem WX.next {y:Code} (h:WC P Q n y fr w):WX (Exit.then (jS P y Q) Q) n .normal fr w:=h
theorem WX.kZ {k:Act->World->Prop} (h:WX Q n .ret fr w):WX (Exit.then k Q) n .ret fr w:=h
variable {id:Nat}
theorem WX.FN (h:WX Q n .normal fr w):WX (Exit.inBlock id Q) n .normal fr w:=h
theorem WX.Xw (h:WX Q n .normal fr w):WX (Exit.inBlock id Q) n (.exit id) fr w:=fun a ha=>by
 show (if id=id then Q .normal a w else _);rw [if_pos rfl]; exact h a ha
def Has (fr:Fr):Fr->Prop
 | []=>True
 | (i,v) :: r=>(∃ u,look fr i=some u/\u=v)/\Has fr r
theorem Has.look {fr:Fr}:∀ {fr':Fr},Has fr fr' -> ∀ i v,look fr' i=some v->look fr i=some v
 | (j,u) :: r,h,i,v,hv=>by
  rw [aM] at hv;by_cases hji:j=i
  ·subst hji;rw [if_pos rfl] at hv; cases hv;obtain ⟨u',hu',rfl⟩:=h.1;exact hu'
  rw [if_neg hji] at hv; exact Has.look h.2 i v hv
variable {K K':Act->World->Prop} {o:Oper} {m:Nat} {F:Fence}
theorem BU {Q':Exit->Act->World->Prop} (hK:∀ a w,K a w->K' a w) (hQ:∀ e a w,e ≠ .normal->Q e a w->Q' e a w) (h:o.wpIn F m P a w K Q):o.wpIn F m P a w K' Q':=by
 refine ⟨h.1,?_⟩;have h:=h.2;generalize (o.semAt F.round a.eval).run P w=r at *;have hE:∀ (e:Ending) (w'':World),(match e,w'' with | .returned v,w''=>K (a.put o.dst v) w'' | .panicked chain,w''=>Q (.panic chain) a w'' | .outgrown,_=>LetsOut Q) ->
   (match e,w'' with | .returned v,w''=>K' (a.put o.dst v) w'' | .panicked chain,w''=>Q' (.panic chain) a w'' | .outgrown,_=>LetsOut Q'):=fun e w'' he=>by
  cases e with
  | returned v=>exact hK _ _ he
  | panicked c=>exact hQ _ _ _ (by simp) he
  | outgrown=>obtain ⟨a',w',h'⟩:=he; exact ⟨a',w',hQ _ _ _ (by simp) h'⟩
 cases r with
 | ok x w'=>
  cases x <;> simp only [Oper.uponIn] at h ⊢ <;>
   first
    | exact hK _ _ h
    | exact ⟨h.1,CallsIn.mono h.2 hE⟩
    | exact ⟨h.1,RowsIn.mono h.2 (fun _ _ he=>hK _ _ he)⟩
    | exact ⟨h.1,RoundIn.mono h.2 hE⟩
 | halt x w'=>cases x <;> simp only [Oper.uponIn] at h ⊢ <;> exact hQ _ _ _ (by simp) h
theorem gH {F:Fence} {m:Nat} {l:Array Oper} {Q':Exit->Act->World->Prop} {r2:List Oper} (hq:∀ e a w,e ≠ .normal->Q e a w->Q' e a w) (hn:∀ a w,Q .normal a w->wpListIn F m P l Q' r2 a w):∀ (rest:List Oper) {a:Act} {w:World},wpListIn F m P l Q rest a w->wpListIn F m P l Q' (rest++r2) a w
 | [],_,_,h=>hn _ _ h
 | o :: rest,a,w,h=>by
  simp only [wpListIn,List.cons_append] at h ⊢;by_cases hw:Region.wanted o (yielded l a.tmps)=true
  ·rw [if_pos hw] at h ⊢;exact BU (fun a w h=>gH hq hn rest h) hq h
  rw [if_neg hw] at h ⊢;exact ⟨h.1,gH hq hn rest h.2⟩
variable {t:Nat}
theorem EL {A:Act} (ho:∀ d,o.dst=some d->d≠t) (hK:∀ A' w',A'.tmps[t]? = A.tmps[t]? -> K A' w' -> K' A' w') (h:o.wpIn F m P A w K Q):o.wpIn F m P A w K' Q:=by
 have hp:∀ (D:List Deferred) v,(({ tmps:=A.tmps,defers:=D }:Act).put o.dst v).tmps[t]? = A.tmps[t]?:=fun D v=>by
  cases hd:o.dst with
  | none=>rfl
  | some d=>simp [Act.put,ho d hd]
 refine ⟨h.1,?_⟩;have h:=h.2;generalize (o.semAt F.round A.eval).run P w=r at *;have hE:∀ (e:Ending) (w'':World),(match e,w'' with | .returned v,w''=>K (A.put o.dst v) w'' | .panicked chain,w''=>Q (.panic chain) A w'' | .outgrown,_=>LetsOut Q) ->
   (match e,w'' with | .returned v,w''=>K' (A.put o.dst v) w'' | .panicked chain,w''=>Q (.panic chain) A w'' | .outgrown,_=>LetsOut Q):=fun e w'' he=>by
  cases e with
  | returned v=>exact hK _ _ (hp A.defers v) he
  | panicked c=>exact he
  | outgrown=>exact he
 cases r with
 | ok x w'=>
  cases x <;> simp only [Oper.uponIn] at h ⊢;case value u=>exact hK _ _ (hp A.defers _) h
  case skip=>exact hK _ _ (hp A.defers _) h
  case defer=>exact hK _ _ (hp _ _) h
  case enter f args=>exact ⟨h.1,CallsIn.mono h.2 hE⟩
  case row r args=>exact ⟨h.1,RowsIn.mono h.2 (fun _ _ he=>hK _ _ (hp A.defers _) he)⟩
  case round l f tmps assign body=>exact ⟨h.1,RoundIn.mono h.2 hE⟩
 | halt x w'=>cases x <;> simp only [Oper.uponIn] at h ⊢ <;> exact h
def Ks (j:Nat) (wt:Bool) (o:Oper):Oper:=bif (match o.guard with | some (i,b)=>Nat.beq i j && (b == wt) | none=>false) then { o with guard:=none } else o
theorem pd {F:Fence} {m:Nat} {l:Array Oper} {j t:Nat} {wt:Bool} (hy:∀ A:Act,A.tmps[t]? = some (.bool wt)->yielded l A.tmps j=some wt) {pk mv:Oper} {tail:List Oper}
  (hpk:∀ (A:Act) (w:World),A.tmps[t]? = some (.bool wt)->wpListIn F m P l Q (mv :: tail) A w->wpListIn F m P l Q (pk :: tail) A w) :
  ∀ (grp:List Oper),(∀ o ∈ grp,∀ d,o.dst=some d->d≠t)->∀ (A:Act) (w:World),A.tmps[t]? = some (.bool wt)->wpListIn F m P l Q (grp.map (Ks j wt)++mv :: tail) A w->wpListIn F m P l Q (grp++pk :: tail) A w
 | [],_,A,w,ht,h=>hpk A w ht h
 | o :: r,ho,A,w,ht,h=>by
  have ih:=pd hy hpk r fun x hx=>ho x (acb _ hx);have ho1:=ho o ac7;rw [ae9,List.cons_append] at h;rw [List.cons_append];by_cases hg:(match o.guard with | some (i,b)=>Nat.beq i j && (b == wt) | none=>false)=true
  ·have e:Ks j wt o={ o with guard:=none }:=by unfold Ks; rw [hg]; rfl
   rw [e] at h;unfold wpListIn at h ⊢;have h1:Region.wanted { o with guard:=none } (yielded l A.tmps)=true:=rfl;have h2:Region.wanted o (yielded l A.tmps)=true:=by
    split at hg
    ·rename_i i b hgo;simp only [Bool.and_eq_true,beq_iff_eq] at hg;have hi:=abk hg.1;simp [Region.wanted,hgo,hi,hg.2,hy A ht]
    cases hg
   rw [if_pos h1] at h;rw [if_pos h2];have h:o.wpIn F m P A w (wpListIn F m P l Q (r.map (Ks j wt)++mv :: tail)) Q:=h;exact EL (o:=o) (t:=t) ho1 (fun A' w' e h=>ih A' w' (e.trans ht) h) h
  have e:Ks j wt o=o:=by unfold Ks; rw [Bool.not_eq_true] at hg; rw [hg]; rfl
  rw [e] at h;unfold wpListIn at h ⊢;split
  ·rename_i hw;rw [if_pos hw] at h;exact EL (o:=o) (t:=t) ho1 (fun A' w' e h=>ih A' w' (e.trans ht) h) h
  rename_i hw;rw [if_neg hw] at h;refine ⟨h.1,ih _ _ ?_ h.2⟩;cases hd:o.dst with
  | none=>exact ht
  | some d=>simp [Act.put,ho1 d hd,ht]
theorem acX {v:Value} (ha:M n fr a) (hv:look fr t=some v):a.tmps[t]? = some v:=by
 obtain ⟨h1,h2⟩:=ha.2.2 t v hv;have:t<a.tmps.size:=by rw [ha.2.1]; exact h1
 simp_all
def aD (P:Program) (n:Nat) (fr:Fr) (w:World) (op:Op) (ty:TypeId) (v:Value) (w':World):Prop:=
 ∀ a d pos af g,M n fr a->(execOp a.eval ⟨d,op,ty,pos,af,g⟩).run P w = .ok (.value v) w'
def gG (P:Program) (n:Nat) (fr:Fr) (w:World) (op:Op) (ty:TypeId) (w':World):Prop:=
 ∀ a d pos af g,M n fr a->(execOp a.eval ⟨d,op,ty,pos,af,g⟩).run P w = .ok .skip w'
def Enters (P:Program) (n:Nat) (fr:Fr) (w:World) (op:Op) (ty:TypeId) (f:FuncId) (args:Array Value):Prop:=
 ∀ a d pos af g,M n fr a->(execOp a.eval ⟨d,op,ty,pos,af,g⟩).run P w = .ok (.enter f args) w
variable {l rest:List Oper} {d:Nat} {op:Op} {ty:TypeId} {pos:String} {af:Array Edge}
theorem WO.nil (h:WX Q n .normal fr w):WO P Q n l [] fr w:=fun a ha _ _=>⟨a,ha.1,rfl,h a ha⟩
theorem WO.v {v:Value} {w':World} (h:aD P n fr w op ty v w') (hd:Nat.blt d n=true) (k:WO P Q n l rest ((d,v) :: fr) w'):WO P Q n l (⟨some d,op,ty,pos,af,none⟩ :: rest) fr w:=fun a ha=>
 iO rfl fun K hK=>by
  rw [h a _ _ _ _ ha];exact hK _ _ (k _ (ha.put hd))
variable {w':World}
theorem WO.v0 {v:Value} (h:aD P n fr w op ty v w') (k:WO P Q n l rest fr w'):WO P Q n l (⟨none,op,ty,pos,af,none⟩ :: rest) fr w:=fun a ha=>
 iO rfl fun K hK=>by
  rw [h a _ _ _ _ ha];exact hK _ _ (k _ ha)
theorem WO.s (h:gG P n fr w op ty w') (k:WO P Q n l rest fr w'):WO P Q n l (⟨none,op,ty,pos,af,none⟩ :: rest) fr w:=fun a ha=>
 iO rfl fun K hK=>by
  rw [h a _ _ _ _ ha];exact hK _ _ (k _ ha)
variable {f:FuncId} {args:Array Value} {φ:Value->World->Prop}
theorem WO.c (h:Enters P n fr w op ty f args) (hc:jI P f args w φ) (hd:Nat.blt d n=true) (k:∀ v w',φ v w' -> WO P Q n l rest ((d,v) :: fr) w') :
  WO P Q n l (⟨some d,op,ty,pos,af,none⟩ :: rest) fr w:=fun a ha=>
 iO rfl fun K hK=>by
  rw [h a _ _ _ _ ha];exact ahB hc fun e w' ⟨v,he,hv⟩=>⟨v,he,hK _ _ (k v w' hv _ (ha.put hd))⟩
theorem WO.c0 (h:Enters P n fr w op ty f args) (hc:jI P f args w φ) (k:∀ v w',φ v w' -> WO P Q n l rest fr w') :
  WO P Q n l (⟨none,op,ty,pos,af,none⟩ :: rest) fr w:=fun a ha=>
 iO rfl fun K hK=>by
  rw [h a _ _ _ _ ha];exact ahB hc fun e w' ⟨v,he,hv⟩=>⟨v,he,hK _ _ (k v w' hv _ ha)⟩
def idst:List Oper->Nat->Option Nat
 | [],_=>none
 | o :: _,0=>o.dst
 | _ :: r,i+1=>idst r i
theorem jK:∀ (l:List Oper) (j:Nat),idst l j=(l[j]?).bind (·.dst)
 | [],_=>rfl
 | _ :: _,0=>rfl
 | _ :: r,i+1=>jK r i
variable {b:Bool} {j:Nat}
theorem mm (ha:M n fr a) (hj:idst l j=some t) (hv:look fr t=some (.bool b)):yielded l.toArray a.tmps j=some b:=by
 obtain ⟨h1,h2⟩:=ha.2.2 t _ hv;rw [jK] at hj;have h3:a.tmps[t]? = some (.bool b):=by
  have:t<a.tmps.size:=by rw [ha.2.1]; exact h1
  simp_all
 unfold yielded;grind
theorem WO.split {grp tail:List Oper} {wt:Bool} {x y:Operand} (hj:idst l j=some t) (hv:look fr t=some (.bool wt)) (hgrp:∀ o ∈ grp,∀ d,o.dst=some d->d≠t)
  (h:WO P Q n l (grp.map (Ks j wt)++⟨some d,.move (cond wt x y),ty,pos,af,none⟩ :: tail) fr w):WO P Q n l (grp++⟨some d,.pick (.tmp t) x y,ty,pos,af,none⟩ :: tail) fr w:=fun a ha ro ds=>by
 have ht:=acX ha hv;refine pd (t:=t) (j:=j) (wt:=wt) (fun A hA=>?_) (fun A w hA h=>?_) grp hgrp _ _ (show (iH a ds).tmps[t]? = some (.bool wt) from ht) (h a ha ro ds)
 ·rw [jK] at hj;unfold yielded;grind
 unfold wpListIn at h ⊢;have h1:Region.wanted ⟨some d,.move (cond wt x y),ty,pos,af,none⟩ (yielded l.toArray A.tmps)=true:=rfl;have h2:Region.wanted ⟨some d,.pick (.tmp t) x y,ty,pos,af,none⟩ (yielded l.toArray A.tmps)=true:=rfl;refine ⟨fun f hf=>(by simp [Oper.about] at hf),?_⟩;have h:=h.2;rw [Oper.semAt_eq _ _ _ (fun c=>by simp)] at h ⊢;have e1:(execOp A.eval ⟨some d,.move (cond wt x y),ty,pos,af,none⟩).run P w = .ok (.value (A.eval (cond wt x y))) w:=by simp [execOp]
 have et:A.eval (.tmp t) = .bool wt:=by simp [Act.eval,hA]
 have e2:(execOp A.eval ⟨some d,.pick (.tmp t) x y,ty,pos,af,none⟩).run P w = .ok (.value (A.eval (cond wt x y))) w:=by
  cases wt <;> simp [execOp,et,asBool]
 rw [e2];exact h
variable {b':Bool}
theorem WO.on {dst:Option Nat} (hj:idst l j=some t) (hv:look fr t=some (.bool b')) (hb:b' = b) (k:WO P Q n l (⟨dst,op,ty,pos,af,none⟩ :: rest) fr w) :
  WO P Q n l (⟨dst,op,ty,pos,af,some (j,b)⟩ :: rest) fr w:=fun a ha ro ds=>by
 have hk:=k a ha ro ds;have hy0:=mm (l:=l) ha hj hv;have hy:yielded l.toArray (iH a ds).tmps j=_:=hy0;simp only [wpListIn,Region.wanted,hy,hb,BEq.rfl] at hk ⊢;exact hk
theorem WO.off (hj:idst l j=some t) (hv:look fr t=some (.bool b')) (hb:b' = !b) (hd:Nat.blt d n=true) (k:WO P Q n l rest ((d,undef) :: fr) w) :
  WO P Q n l (⟨some d,op,ty,pos,af,some (j,b)⟩ :: rest) fr w:=fun a ha ro ds=>by
 have hk:=k _ (ha.put hd) ro ds;have hy0:=mm (l:=l) ha hj hv;have hy:yielded l.toArray (iH a ds).tmps j=_:=hy0;simp only [wpListIn,Region.wanted,rF];grind
theorem WO.abx (hj:idst l j=some t) (hv:look fr t=some (.bool b')) (hb:b' = !b) (k:WO P Q n l rest fr w) :
  WO P Q n l (⟨none,op,ty,pos,af,some (j,b)⟩ :: rest) fr w:=fun a ha ro ds=>by
 have hk:=k _ ha ro ds;have hy0:=mm (l:=l) ha hj hv;have hy:yielded l.toArray (iH a ds).tmps j=_:=hy0;have hne:((some b':Option Bool) == some b)=false:=by subst hb; cases b <;> rfl
 simp only [wpListIn,Region.wanted,hy,hne];exact ⟨fun _ _=>trivial,hk⟩
theorem lH (ha:M n fr a) (hj:idst l j=some t) (hv:look fr t=some undef):yielded l.toArray a.tmps j=none:=by
 obtain ⟨h1,h2⟩:=ha.2.2 t _ hv;rw [jK] at hj;have h3:a.tmps[t]? = some undef:=by
  have:t<a.tmps.size:=by rw [ha.2.1]; exact h1
  simp_all
 unfold yielded;have h4:((l.toArray[j]?).bind (·.dst))=some t:=by simpa using hj
 rw [h4];simp [h3,undef]
theorem WO.Wd (hj:idst l j=some t) (hv:look fr t=some undef) (hd:Nat.blt d n=true) (k:WO P Q n l rest ((d,undef) :: fr) w) :
  WO P Q n l (⟨some d,op,ty,pos,af,some (j,b)⟩ :: rest) fr w:=fun a ha ro ds=>by
 have hk:=k _ (ha.put hd) ro ds;have hy0:=lH (l:=l) ha hj hv;have hy:yielded l.toArray (iH a ds).tmps j=_:=hy0;simp only [wpListIn,Region.wanted,rF];grind
theorem WO.TJ (hj:idst l j=some t) (hv:look fr t=some undef) (k:WO P Q n l rest fr w) :
  WO P Q n l (⟨none,op,ty,pos,af,some (j,b)⟩ :: rest) fr w:=fun a ha ro ds=>by
 have hk:=k _ ha ro ds;have hy0:=lH (l:=l) ha hj hv;have hy:yielded l.toArray (iH a ds).tmps j=_:=hy0;simp only [wpListIn,Region.wanted,hy];exact ⟨fun _ _=>trivial,hk⟩
end rules
theorem qz:∀ (vs:List Value) (k i:Nat) (v:Value),look ((List.range' k vs.length).zip vs) i=some v->k<=i/\vs[i - k]? = some v
 | u :: vs,k,i,v,h=>by
  simp only [List.length_cons,ahv,List.zip_cons_cons] at h;rw [aM] at h;by_cases hk:k=i
  ·grind
  rw [if_neg hk] at h;obtain ⟨h1,h2⟩:=qz vs (k+1) i v h;grind
def vj:Nat->List Value->Fr
 | _,[]=>[]
 | k,v :: r=>(k,v) :: vj (k+1) r
theorem sw:∀ (vs:List Value) (k:Nat),vj k vs=(List.range' k vs.length).zip vs
 | [],_=>rfl
 | v :: r,k=>by simp [vj,ahv,sw r (k+1)]
variable {P:Program} {w:World}
theorem jI.enter {f:FuncId} {fn:Func} {c:Code} {args:List Value} {φ:Value->World->Prop} {fr:Fr} (hf:P.funcs[f]? = some fn) (hb:fn.body=some c) (hn:fn.ntmps=n)
  (hle:Nat.ble args.length n=true) (hfr:vj 0 args=fr)
  (h:WC P (bodyPost P fn fun e w'=>∃ v,e = .returned v/\φ v w') n c fr w):jI P f args.toArray w φ:=by
 subst hn;have hle':args.length<=fn.ntmps:=by simpa using hle
 refine calls_of_wp hf hb (Xb rfl (h _ ⟨rfl,?_,fun i v hv=>?_⟩))
 ·simp; omega
 rw [<- hfr,sw] at hv;obtain ⟨_,h2⟩:=qz args 0 i v hv;rw [ahw] at h2;have hi:i<args.length:=(aam.1 h2).1;have h3:args[i]=v:=by rw [List.getElem?_eq_getElem hi] at h2; exact adb h2
 simp [Array.getD,hi,h3];omega
section ends
variable {P:Program} {fn:Func} {φ:Value->World->Prop} {n:Nat} {fr:Fr} {w:World}
theorem WX.XC (h:WX (bodyPost P fn fun e w'=>∃ v,e = .returned v/\φ v w') n .ret fr w):WX (bodyPost P fn fun e w'=>∃ v,e = .returned v/\φ v w') n .normal fr w:=h
theorem WX.Ie {v:Value} (h:∀ a,M n fr a->(results fn a.tmps).run P w = .ok v w) (hφ:φ v w):WX (bodyPost P fn fun e w'=>∃ v,e = .returned v/\φ v w') n .ret fr w:=
 fun a ha=>⟨ha.1,v,h a ha,v,rfl,hφ⟩
theorem WX.abg (hr:fn.results = #[]) (hφ:φ (.tuple #[]) w):WX (bodyPost P fn fun e w'=>∃ v,e = .returned v/\φ v w') n .ret fr w:=
 WX.Ie (fun a _=>by simp [results,hr]) hφ
theorem WX.AN {t:Tmp} {v:Value} (hr:fn.results = #[.tmp t]) (hv:look fr t=some v) (hφ:φ v w):WX (bodyPost P fn fun e w'=>∃ v,e = .returned v/\φ v w') n .ret fr w:=
 WX.Ie (fun a ha=>by simp [results,hr,ha.at_ hv]) hφ
end ends
structure Kp (S:List Nat) (w w':World):Prop where
 os:w'.os=w.os
 tape:w'.tape=w.tape
 output:w'.output=w.output
 size:w.heap.size<=w'.heap.size
 block:∀ b,b<w.heap.size->b ∉ S->w'.heap[b]? = w.heap[b]?
theorem Kp.refl (w:World):Kp [] w w:=⟨rfl,rfl,rfl,ac5 _,fun _ _ _=>rfl⟩
theorem Kp.trans {S T:List Nat} {a b c:World} (h:Kp S a b) (k:Kp T b c):Kp (S++T) a c:=
 ⟨k.os.trans h.os,k.tape.trans h.tape,k.output.trans h.output,Nat.le_trans h.size k.size,fun i hi hn=>by
  simp only [ac1,not_or] at hn;exact (k.block i (ac3 hi h.size) hn.2).trans (h.block i hi hn.1)⟩
variable {b:World} {S T:List Nat}
theorem Kp.sub {a:World} (h:Kp S a b) (hs:∀ g ∈ S,g ∈ T):Kp T a b:=
 ⟨h.os,h.tape,h.output,h.size,fun i hi hn=>h.block i hi fun hm=>hn (hs i hm)⟩
theorem Kp.step {a c:World} (h:Kp S a b) (k:Kp T b c) (hS:∀ g ∈ T,g ∈ S\/a.heap.size<=g):Kp S a c:=
 ⟨k.os.trans h.os,k.tape.trans h.tape,k.output.trans h.output,Nat.le_trans h.size k.size,fun i hi hn=>(k.block i (ac3 hi h.size) fun hm=>by
  rcases hS i hm with h1 | h1
  ·exact hn h1
  omega).trans (h.block i hi hn)⟩
variable {w':World}
theorem Kp.below (h:Kp [] w w'):Below w.heap.size w w':=⟨h.os,h.tape,h.output,h.size,fun b hb=>h.block b hb (by simp)⟩
theorem Kp.drew {S:List Nat} {a w:World} (h:Kp S a w):Kp S a w.drew:=⟨h.os,h.tape,h.output,h.size,h.block⟩
theorem Kp.alloc (w:World) (o:Obj):Kp [] w (w.alloc o):=⟨rfl,rfl,rfl,by simp,fun b hb _=>Below.heap_alloc w o b hb⟩
theorem Kp.Fq (h:w.grownBy w' none):Kp [] w w':=⟨h.os,h.tape,h.output,h.size,fun b hb _=>h.block b hb (by simp)⟩
section
variable {w w':World} {g:Nat} {t:TypeId} {cs:List Value}
end
theorem Kp.setRow (w:World) (g:Nat) (cs:Array Value):Kp [g] w (w.setRow g cs):=⟨rfl,rfl,rfl,by simp,fun b _ hn=>setRow_other w g b cs (by simpa using hn)⟩
def CellsAt (w:World) (a:Addr) (cs:List Value):Prop:=∀ j v,cs[j]? = some v->w.cell? (a.add j)=some v
theorem add_add (a:Addr) (i j:Nat):(a.add i).add j=a.add (i+j):=by
 unfold Addr.add;grind
theorem fN (a:Addr) (n:Nat):(a.add n).block=a.block:=by unfold Addr.add; split <;> rfl
theorem add_lit (g i j:Nat):(⟨g,i,none⟩:Addr).add j=⟨g,i+j,none⟩:=by unfold Addr.add; split <;> simp_all
section
variable {w w':World} {a:Addr} {cs:List Value}
theorem CellsAt.keep (h:CellsAt w a cs) (k:w'.heap[a.block]? = w.heap[a.block]?):CellsAt w' a cs:=fun j v hv=>by
 exact (World.cell?_of_block (a:=a.add j) (by rw [fN]; exact k)).trans (h j v hv)
theorem CellsAt.shift (h:CellsAt w a cs) (i:Nat):CellsAt w (a.add i) (cs.drop i):=fun j v hv=>by
 rw [add_add]; exact h _ _ (by rw [<- hv,adf])
theorem CellsAt.take (h:CellsAt w a cs) (i:Nat):CellsAt w a (cs.take i):=fun j v hv=>h j v (by
 rw [adj] at hv; split at hv
 ·exact hv
 cases hv)
theorem CellsAt.one (h:CellsAt w a cs) {j:Nat} {v:Value} (hv:cs[j]? = some v):w.cell? (a.add j)=some v:=h j v hv
theorem CellsAt.nil:CellsAt w a []:=fun j v hv=>by simp at hv
end
def I64 (n:Int):Prop:=-9223372036854775808<=n/\n<=9223372036854775807
inductive All2 {α β:Type} (R:α->β->Prop):List α->List β->Prop
 | nil:All2 R [] []
 | cons {a:α} {b:β} {asx:List α} {bs:List β}:R a b->All2 R asx bs->All2 R (a :: asx) (b :: bs)
section
variable {α β:Type} {R R':α->β->Prop}
theorem All2.imp {asx:List α} {bs:List β} (h:All2 R asx bs) (hh:∀ a b,R a b->R' a b):All2 R' asx bs:=by
 induction h with
 | nil=>exact .nil
 | cons h _ ih=>exact .cons (hh _ _ h) ih
theorem All2.length {asx:List α} {bs:List β} (h:All2 R asx bs):asx.length=bs.length:=by
 induction h with
 | nil=>rfl
 | cons _ _ ih=>simp [ih]
theorem All2.get {asx:List α} {bs:List β} (h:All2 R asx bs):∀ (i:Nat) (b:β),bs[i]? = some b->∃ a,asx[i]? = some a/\R a b:=by
 induction h with
 | nil=>intro i b hb; simp at hb
 | cons h _ ih=>
  grind
theorem All2.append {asx asx':List α} {bs bs':List β} (h:All2 R asx bs) (h':All2 R asx' bs'):All2 R (asx++asx') (bs++bs'):=by
 induction h with
 | nil=>exact h'
 | cons h _ ih=>exact .cons h ih
theorem All2.take {asx:List α} {bs:List β} (h:All2 R asx bs):∀ n,All2 R (asx.take n) (bs.take n):=by
 induction h with
 | nil=>intro n; simp; exact .nil
 | cons h _ ih=>intro n; cases n with
  | zero=>exact .nil
  | succ n=>exact .cons h (ih n)
theorem All2.drop {asx:List α} {bs:List β} (h:All2 R asx bs):∀ n,All2 R (asx.drop n) (bs.drop n):=by
 induction h with
 | nil=>intro n; simp; exact .nil
 | cons h hh ih=>intro n; cases n with
  | zero=>exact .cons h hh
  | succ n=>exact ih n
theorem All2.set {asx:List α} {bs:List β} (h:All2 R asx bs):∀ (i:Nat) {a:α} {b:β},R a b->All2 R (asx.set i a) (bs.set i b):=by
 induction h with
 | nil=>intro i a b _; exact .nil
 | cons h hh ih=>intro i a b hr; cases i with
  | zero=>exact .cons hr hh
  | succ i=>exact .cons h (ih i hr)
end
class Rp (α:Type) where
 sz:Nat
 by_:Nat                        -- how many bytes an element of a slice takes
 tid:TypeId
 rp:Bool->Nat->Nat->World->List Value->α->Prop
 len:∀ {o lo hi w cs x},rp o lo hi w cs x->cs.length=sz
 one:∀ {o lo hi w cs x},rp o lo hi w cs x->∀ u ∈ cs,u.oneCell' = true
 keep:∀ {o lo hi w w' cs x},rp o lo hi w cs x->(∀ b,lo<=b->b<hi->w'.heap[b]? = w.heap[b]?)->rp o lo hi w' cs x
 mono:∀ {o lo hi lo' hi' w cs x},rp o lo hi w cs x->lo' <= lo->hi<=hi' -> rp o lo' hi' w cs x
 weak:∀ {o lo hi w cs x},rp o lo hi w cs x->rp false lo hi w cs x
 inner:List TypeId              -- of the rows inside
 mrk:Nat × Nat->Prop:=fun fr=>fr=(0,0)   -- the marks that a row of these may bear
 mrk0:mrk (0,0):=by exact rfl
 keepT:∀ {o lo hi w w' cs x},rp o lo hi w cs x->(inner=[]\/o=true)->(∀ b cur t fr,lo<=b->b<hi->w.heap[b]? = some (.cells cur t fr)->t ∈ inner->w'.heap[b]? = w.heap[b]?)->rp o lo hi w' cs x
def Sl {α:Type} [Rp α] (o:Bool) (lo hi:Nat) (w:World) (v:Value) (xs:List α):Prop:=
 ∃ a c css,v = .slice a xs.length c/\xs.length<=c/\(c<=maxLen/\xs.length*Rp.by_ α<=140737488355328)/\All2 (Rp.rp o lo hi w) css xs /\
  (xs=[]\/∃ A:Addr,a=some A/\lo<=A.block/\A.block<hi/\CellsAt w A css.flatten) /\
  (o=true->c=0\/∃ g cur fr,a=some ⟨g,0,none⟩/\lo<=g/\g<hi/\(w.heap[g]? = some (.cells cur (Rp.tid α) fr)/\Rp.mrk α fr)/\cur.size=c*Rp.sz α)
section
variable {α:Type} [Rp α] {o:Bool} {lo hi:Nat} {w w':World} {v:Value} {xs:List α}
theorem Sl.keep (h:Sl o lo hi w v xs) (k:∀ b,lo<=b->b<hi->w'.heap[b]? = w.heap[b]?):Sl o lo hi w' v xs:=by
 obtain ⟨a,c,css,hv,h1,h2,h3,h4,h5⟩:=h;refine ⟨a,c,css,hv,h1,h2,h3.imp fun _ _ h=>Rp.keep h k,?_,fun ho=>?_⟩
 ·rcases h4 with h4 | ⟨A,hA,hlo,hhi,hc⟩
  ·grind
  exact .inr ⟨A,hA,hlo,hhi,hc.keep (k _ hlo hhi)⟩
 grind
theorem Sl.mono {lo' hi':Nat} (h:Sl o lo hi w v xs) (h1:lo' <= lo) (h2:hi<=hi'):Sl o lo' hi' w v xs:=by
 obtain ⟨a,c,css,hv,ha,hb,h3,h4,h5⟩:=h;refine ⟨a,c,css,hv,ha,hb,h3.imp fun _ _ h=>Rp.mono h h1 h2,?_,fun ho=>?_⟩
 ·grind
 grind
theorem Sl.weak (h:Sl o lo hi w v xs):Sl false lo hi w v xs:=by
 obtain ⟨a,c,css,hv,h1,h2,h3,h4,_⟩:=h;exact ⟨a,c,css,hv,h1,h2,h3.imp fun _ _ h=>Rp.weak h,h4,fun ho=>by cases ho⟩
theorem Sl.keepT (h:Sl true lo hi w v xs) (k:∀ b cur t fr,lo<=b->b<hi->w.heap[b]? = some (.cells cur t fr)->t ∈ Rp.tid α :: Rp.inner α->w'.heap[b]? = w.heap[b]?):Sl true lo hi w' v xs:=by
 obtain ⟨a,c,css,hv,h1,h2,h3,h4,h5⟩:=h;refine ⟨a,c,css,hv,h1,h2,h3.imp fun _ _ h=>Rp.keepT h (.inr rfl) fun b cur t fr a1 a2 a3 a4=>k b cur t fr a1 a2 a3 (acb _ a4),?_,fun _=>?_⟩
 ·rcases h4 with h4 | ⟨A,hA,hlo,hhi,hc⟩
  ·grind
  refine .inr ⟨A,hA,hlo,hhi,?_⟩;rcases h5 rfl with ha | ⟨g,cur,fr,hg,hlo',hhi',hh,hs⟩
  ·have hx:xs=[]:=acr (by omega);subst hx;cases h3;exact CellsAt.nil
  rw [hA] at hg;cases hg;exact hc.keep (k _ _ _ _ hlo' hhi' hh.1 (by simp))
 grind
theorem Sl.form (h:Sl o lo hi w v xs):∃ a c,v = .slice a xs.length c/\xs.length<=c/\c<=maxLen:=by
 obtain ⟨a,c,css,hv,h1,h2,_⟩:=h;grind
theorem Sl.one (h:Sl o lo hi w v xs):v.oneCell' = true:=by
 obtain ⟨a,c,rfl,_⟩:=h.form;rfl
end
instance:Rp Int where
 sz:=1
 by_:=8
 tid:=3
 rp _ _ _ _ cs x:=cs=[.int .i64 x]/\I64 x
 len h:=by rw [h.1]; rfl
 one h:=by rw [h.1]; simp [Value.oneCell']
 keep h _:=h
 mono h _ _:=h
 weak h:=h
 inner:=[]
 keepT h _ _:=h
instance:Rp Bool where
 sz:=1
 by_:=1
 tid:=4
 rp _ _ _ _ cs x:=cs=[.bool x]
 len h:=by rw [h]; rfl
 one h:=by rw [h]; simp [Value.oneCell']
 keep h _:=h
 mono h _ _:=h
 weak h:=h
 inner:=[]
 keepT h _ _:=h
instance:Rp UInt8 where
 sz:=1
 by_:=1
 tid:=5
 rp _ _ _ _ cs x:=cs=[.int .u8 x.toNat]
 len h:=by rw [h]; rfl
 one h:=by rw [h]; simp [Value.oneCell']
 keep h _:=h
 mono h _ _:=h
 weak h:=h
 mrk _:=True
 mrk0:=trivial
 inner:=[]
 keepT h _ _:=h
structure U64 where
 n:Nat
deriving DecidableEq
instance:Rp U64 where
 sz:=1
 by_:=8
 tid:=173
 rp _ _ _ _ cs x:=cs=[.int .u64 x.n]/\x.n<18446744073709551616
 len h:=by rw [h.1]; rfl
 one h:=by rw [h.1]; simp [Value.oneCell']
 keep h _:=h
 mono h _ _:=h
 weak h:=h
 inner:=[]
 keepT h _ _:=h
structure Str where
 b:List UInt8
deriving DecidableEq
def Str.val (s:Str):Value:=.string ⟨s.b.toArray⟩
instance:Rp Str where
 sz:=1
 by_:=16
 tid:=9
 rp _ _ _ _ cs x:=cs=[x.val]/\x.b.length<=140737488355328
 len h:=by rw [h.1]; rfl
 one h:=by rw [h.1]; simp [Value.oneCell',Str.val]
 keep h _:=h
 mono h _ _:=h
 weak h:=h
 inner:=[]
 keepT h _ _:=h
instance (priority:=low) listRp {α:Type} [Rp α]:Rp (List α) where
 sz:=1
 by_:=24
 tid:=0
 rp o lo hi w cs xs:=∃ v,cs=[v]/\Sl o lo hi w v xs
 len h:=by obtain ⟨v,rfl,_⟩:=h; rfl
 one h:=by obtain ⟨v,rfl,h⟩:=h; simp [h.one]
 keep h k:=by obtain ⟨v,rfl,h⟩:=h; exact ⟨v,rfl,h.keep k⟩
 mono h h1 h2:=by obtain ⟨v,rfl,h⟩:=h; exact ⟨v,rfl,h.mono h1 h2⟩
 weak h:=by obtain ⟨v,rfl,h⟩:=h; exact ⟨v,rfl,h.weak⟩
 inner:=Rp.tid α :: Rp.inner α
 keepT h ho k:=by
  obtain ⟨v,rfl,h⟩:=h
  have ho':=ho.resolve_left (by simp)
  subst ho'
  exact ⟨v,rfl,h.keepT k⟩
instance pairRp {α β:Type} [Rp α] [Rp β]:Rp (α × β) where
 by_:=0
 sz:=Rp.sz α+Rp.sz β
 tid:=0
 rp o lo hi w cs x:=∃ c1 c2,cs=c1++c2/\Rp.rp o lo hi w c1 x.1/\Rp.rp o lo hi w c2 x.2
 len h:=by obtain ⟨c1,c2,rfl,h1,h2⟩:=h; rw [List.length_append,Rp.len h1,Rp.len h2]
 one h:=by
  obtain ⟨c1,c2,rfl,h1,h2⟩:=h
  intro u hu
  rcases ac1.1 hu with hu | hu
  ·exact Rp.one h1 u hu
  ·exact Rp.one h2 u hu
 keep h k:=by obtain ⟨c1,c2,rfl,h1,h2⟩:=h; exact ⟨c1,c2,rfl,Rp.keep h1 k,Rp.keep h2 k⟩
 mono h ha hb:=by obtain ⟨c1,c2,rfl,h1,h2⟩:=h; exact ⟨c1,c2,rfl,Rp.mono h1 ha hb,Rp.mono h2 ha hb⟩
 weak h:=by obtain ⟨c1,c2,rfl,h1,h2⟩:=h; exact ⟨c1,c2,rfl,Rp.weak h1,Rp.weak h2⟩
 inner:=Rp.inner α++Rp.inner β
 keepT h ho k:=by
  obtain ⟨c1,c2,rfl,h1,h2⟩:=h
  exact ⟨c1,c2,rfl,Rp.keepT h1 (ho.imp (fun h=>(List.append_eq_nil_iff.1 h).1) id) fun b cur t fr a1 a2 a3 a4=>k b cur t fr a1 a2 a3 (ac8 _ a4),
   Rp.keepT h2 (ho.imp (fun h=>(List.append_eq_nil_iff.1 h).2) id) fun b cur t fr a1 a2 a3 a4=>k b cur t fr a1 a2 a3 (ac9 _ a4)⟩
section
variable {α:Type} [Rp α] {o:Bool} {lo hi:Nat} {w w':World} {cs:List Value} {x:α}
variable {v:Value} {xs:List α}
end
theorem I64.wrap {x:Int} (h:I64 x):IntKind.i64.wrap x=x:=IntWalk.i64_in x ⟨h.1,h.2⟩
variable {m:Nat}
theorem BA (h:m<256):IntKind.u8.wrap (m:Int)=m:=by
 simp only [IntKind.wrap,IntKind.bits,IntKind.signed];simp;omega
section
variable {P:Program} {n:Nat} {fr:Fr} {w:World} {x y z:Operand} {ty t t':TypeId}
theorem R.move {v:Value} (hx:ev fr x=some v):aD P n fr w (.move x) ty v w:=fun a _ _ _ _ ha=>by simp [execOp,ha.ev hx]
theorem R.assign {v:Value} (hx:ev fr x=some v):aD P n fr w (.assign x) ty v w:=fun a _ _ _ _ ha=>by simp [execOp,ha.ev hx]
variable {b:Bool}
theorem R.xQ {v:Value} (hc:ev fr z=some (.bool b)) (hb:b=true) (hx:ev fr x=some v):aD P n fr w (.pick z x y) ty v w:=fun a _ _ _ _ ha=>by
 subst hb; simp [execOp,ha.ev hc,ha.ev hx,asBool]
theorem R.Ai {v:Value} (hc:ev fr z=some (.bool b)) (hb:b=false) (hy:ev fr y=some v):aD P n fr w (.pick z x y) ty v w:=fun a _ _ _ _ ha=>by
 subst hb; simp [execOp,ha.ev hc,ha.ev hy,asBool]
theorem R.not {b:Bool} (hx:ev fr x=some (.bool b)):aD P n fr w (.unOp .not t x) ty (.bool (!b)) w:=fun a _ _ _ _ ha=>by
 simp [execOp,ha.ev hx,Op.unary]
section ints
variable {k:IntKind} {a b:Int}
theorem R.lss (hx:ev fr x=some (.int k a)) (hy:ev fr y=some (.int k b)):aD P n fr w (.binOp .lss t x y t') ty (.bool (decide (a<b))) w:=fun _ _ _ _ _ ha=>by
 simp [execOp,ha.ev hx,ha.ev hy,eqGuard_lss,binOp_lss]
theorem R.leq (hx:ev fr x=some (.int k a)) (hy:ev fr y=some (.int k b)):aD P n fr w (.binOp .leq t x y t') ty (.bool (decide (a<=b))) w:=fun _ _ _ _ _ ha=>by
 simp [execOp,ha.ev hx,ha.ev hy,eqGuard_leq,binOp_leq]
theorem R.gtr (hx:ev fr x=some (.int k a)) (hy:ev fr y=some (.int k b)):aD P n fr w (.binOp .gtr t x y t') ty (.bool (decide (b<a))) w:=fun _ _ _ _ _ ha=>by
 simp [execOp,ha.ev hx,ha.ev hy,eqGuard_gtr,binOp_gtr]
theorem R.geq (hx:ev fr x=some (.int k a)) (hy:ev fr y=some (.int k b)):aD P n fr w (.binOp .geq t x y t') ty (.bool (decide (b<=a))) w:=fun _ _ _ _ _ ha=>by
 simp [execOp,ha.ev hx,ha.ev hy,eqGuard_geq,binOp_geq]
theorem R.eql (hx:ev fr x=some (.int k a)) (hy:ev fr y=some (.int k b)):aD P n fr w (.binOp .eql t x y t') ty (.bool (decide (a=b))) w:=fun _ _ _ _ _ ha=>by
 simp [execOp,ha.ev hx,ha.ev hy,binOp_eql]; rfl
theorem R.neq (hx:ev fr x=some (.int k a)) (hy:ev fr y=some (.int k b)):aD P n fr w (.binOp .neq t x y t') ty (.bool (!decide (a=b))) w:=fun _ _ _ _ _ ha=>by
 simp [execOp,ha.ev hx,ha.ev hy,binOp_neq]; rfl
theorem R.Qx (hx:ev fr x=some (.int k a)) (hy:ev fr y=some (.int k b)):aD P n fr w (.binOp .add t x y t') ty (.int k (k.wrap (a+b))) w:=fun _ _ _ _ _ ha=>by
 simp [execOp,ha.ev hx,ha.ev hy,eqGuard_add,binOp_add,Op.intArith]
theorem R.abJ (hx:ev fr x=some (.int k a)) (hy:ev fr y=some (.int k b)):aD P n fr w (.binOp .sub t x y t') ty (.int k (k.wrap (a - b))) w:=fun _ _ _ _ _ ha=>by
 simp [execOp,ha.ev hx,ha.ev hy,eqGuard_sub,binOp_sub,Op.intArith]
theorem R.acM (hx:ev fr x=some (.int k a)) (hy:ev fr y=some (.int k b)):aD P n fr w (.binOp .mul t x y t') ty (.int k (k.wrap (a*b))) w:=fun _ _ _ _ _ ha=>by
 simp [execOp,ha.ev hx,ha.ev hy,eqGuard_mul,binOp_mul,Op.intArith]
theorem R.add (hx:ev fr x=some (.int .i64 a)) (hy:ev fr y=some (.int .i64 b)) (h:I64 (a+b)):aD P n fr w (.binOp .add t x y t') ty (.int .i64 (a+b)) w:=by
 have:=R.Qx (P:=P) (n:=n) (w:=w) (ty:=ty) (t:=t) (t':=t') hx hy;rwa [h.wrap] at this
theorem R.sub (hx:ev fr x=some (.int .i64 a)) (hy:ev fr y=some (.int .i64 b)) (h:I64 (a - b)):aD P n fr w (.binOp .sub t x y t') ty (.int .i64 (a - b)) w:=by
 have:=R.abJ (P:=P) (n:=n) (w:=w) (ty:=ty) (t:=t) (t':=t') hx hy;rwa [h.wrap] at this
theorem R.mul (hx:ev fr x=some (.int .i64 a)) (hy:ev fr y=some (.int .i64 b)) (h:I64 (a*b)):aD P n fr w (.binOp .mul t x y t') ty (.int .i64 (a*b)) w:=by
 have:=R.acM (P:=P) (n:=n) (w:=w) (ty:=ty) (t:=t) (t':=t') hx hy;rwa [h.wrap] at this
variable {d:TypeDesc}
theorem R.conv {k':IntKind} (hx:ev fr x=some (.int k a)) (hs:P.underlying t=some d) (hd:P.underlying t' = some (.int k')):aD P n fr w (.convert t t' x) ty (.int k' (k'.wrap a)) w:=fun _ _ _ _ _ ha=>by
 simp [execOp,ha.ev hx,convert,run_underlying hs,run_underlying hd,Conv.intToInt]
variable {asx:Array TypeId}
theorem R.min2 (hx:ev fr x=some (.int k a)) (hy:ev fr y=some (.int k b)):aD P n fr w (.call { callee:=.builtin .min,args:=#[x,y],argTypes:=asx }) ty (.int k (min a b)) w:=fun _ _ _ _ _ ha=>by
 simp [execOp,resolve,invoke,builtin,ha.ev hx,ha.ev hy,run_min_int2];split <;> omega
theorem R.max2 (hx:ev fr x=some (.int k a)) (hy:ev fr y=some (.int k b)):aD P n fr w (.call { callee:=.builtin .max,args:=#[x,y],argTypes:=asx }) ty (.int k (max a b)) w:=fun _ _ _ _ _ ha=>by
 simp [execOp,resolve,invoke,builtin,ha.ev hx,ha.ev hy,run_max_int2];split <;> omega
variable {a b:Nat}
theorem R.mV (hx:ev fr x=some (.int .i64 (a:Int))) (hy:ev fr y=some (.int .i64 (b:Int))) (h:a+b<=9223372036854775807):aD P n fr w (.binOp .add t x y t') ty (.int .i64 ((a+b:Nat):Int)) w:=by
 have:=R.add (P:=P) (n:=n) (w:=w) (ty:=ty) (t:=t) (t':=t') hx hy ⟨by omega,by omega⟩;grind
theorem R.abX (hx:ev fr x=some (.int .i64 (a:Int))) (hy:ev fr y=some (.int .i64 (b:Int))) (h:b<=a) (ha:a<=9223372036854775807):aD P n fr w (.binOp .sub t x y t') ty (.int .i64 ((a - b:Nat):Int)) w:=by
 have:=R.sub (P:=P) (n:=n) (w:=w) (ty:=ty) (t:=t) (t':=t') hx hy ⟨by omega,by omega⟩;grind
theorem R.QJ (hx:ev fr x=some (.int k (a:Int))) (hy:ev fr y=some (.int k (b:Int))) (hb:0<b):aD P n fr w (.binOp .rem t x y t') ty (.int k ((a % b:Nat):Int)) w:=fun _ _ _ _ _ ha=>by
 have hb':¬ b=0:=by omega
 have e:(a:Int).tmod b=((a % b:Nat):Int):=by rw [Int.tmod_eq_emod_of_nonneg (by omega)]; omega
 simp [execOp,ha.ev hx,ha.ev hy,eqGuard_rem,binOp_rem,Op.intDiv,hb',e]
theorem R.Sm (hx:ev fr x=some (.int k (a:Int))) (hy:ev fr y=some (.int k (b:Int))) (hb:0<b) (hw:k.wrap ((a / b:Nat):Int)=((a / b:Nat):Int)):aD P n fr w (.binOp .quo t x y t') ty (.int k ((a / b:Nat):Int)) w:=fun _ _ _ _ _ ha=>by
 have hb':¬ b=0:=by omega
 simp [execOp,ha.ev hx,ha.ev hy,eqGuard_quo,binOp_quo,Op.intDiv,hb'];simpa using hw
variable {b:UInt8}
theorem R.Xd (hx:ev fr x=some (.int .u8 (b.toNat:Int))) (hs:P.underlying t=some d) (hd:P.underlying t' = some (.int .i64)):aD P n fr w (.convert t t' x) ty (.int .i64 (b.toNat:Int)) w:=by
 have:=R.conv (P:=P) (n:=n) (w:=w) (ty:=ty) hx hs hd
 have hb:=b.toNat_lt;rwa [I64.wrap ⟨by omega,by omega⟩] at this
theorem R.abz {a:UInt8} (hx:ev fr x=some (.int .u8 (a.toNat:Int))) (hy:ev fr y=some (.int .u8 (b.toNat:Int))):aD P n fr w (.binOp .and t x y t') ty (.int .u8 ((a &&& b).toNat:Int)) w:=fun _ _ _ _ _ ha=>by
 have e:bits .and .u8 (a.toNat:Int) (b.toNat:Int)=((a &&& b).toNat:Int):=by
  have h1:∀ c:UInt8,(BitVec.ofInt 8 (c.toNat:Int))=c.toBitVec:=fun c=>by
   simp_all
  show IntKind.u8.wrap ((BitVec.ofInt 8 (a.toNat:Int) &&& BitVec.ofInt 8 (b.toNat:Int)).toNat:Int)=_;rw [h1,h1,<- UInt8.toBitVec_and];have:=(a &&& b).toNat_lt;exact BA this
 simp [execOp,ha.ev hx,ha.ev hy,eqGuard_and,binOp_and,intBits_and,e]
end ints
variable {a:Bool}
theorem R.afh (hx:ev fr x=some (.bool a)) (hy:ev fr y=some (.bool b)) (ht:P.underlying t=some .bool):aD P n fr w (.binOp .eql t x y t') ty (.bool (a == b)) w:=fun _ _ _ _ _ ha=>by
 simp [execOp,ha.ev hx,ha.ev hy,eqGuard_at_bool,run_eql_bool _ _ _ _ ht]
theorem R.aey (hx:ev fr x=some (.bool a)) (hy:ev fr y=some (.bool b)) (ht:P.underlying t=some .bool):aD P n fr w (.binOp .neq t x y t') ty (.bool (!(a == b))) w:=fun _ _ _ _ _ ha=>by
 simp [execOp,ha.ev hx,ha.ev hy,eqGuard_at_bool,run_neq_bool _ _ _ _ ht]
variable {a b:Str}
theorem R.aer (hx:ev fr x=some a.val) (hy:ev fr y=some b.val):aD P n fr w (.binOp .eql t x y t') ty (.bool (decide (a=b))) w:=fun _ _ _ _ _ ha=>by
 have e:(a.b == b.b)=decide (a=b):=by
  rw [ahi];cases a; cases b; simp
 simp [execOp,ha.ev hx,ha.ev hy,Str.val,eqGuard_at_string,binOp,Op.stringOp,e]
theorem R.aeE (hx:ev fr x=some a.val) (hy:ev fr y=some b.val):aD P n fr w (.binOp .neq t x y t') ty (.bool (!decide (a=b))) w:=fun _ _ _ _ _ ha=>by
 have e:(a.b == b.b)=decide (a=b):=by
  rw [ahi];cases a; cases b; simp
 simp [execOp,ha.ev hx,ha.ev hy,Str.val,eqGuard_at_string,binOp,Op.stringOp,e]
theorem R.extract {vs:Array Value} {v:Value} {i:Nat} (hx:ev fr x=some (.tuple vs)) (hi:vs[i]? = some v):aD P n fr w (.extract x i) ty v w:=fun _ _ _ _ _ ha=>by
 simp [execOp,ha.ev hx,Instr.extract,hi]
theorem R.oM {a:Addr} (hx:ev fr x=some (.pointer (some a))):aD P n fr w (.nilCheck x) ty (.pointer (some a)) w:=fun _ _ _ _ _ ha=>by
 simp [execOp,ha.ev hx]
theorem R.FY {f:FuncId} {a c:Array Value} (hx:ev fr x=some (.func (.func f) a c)):aD P n fr w (.nilCheck x) ty (.func (.func f) a c) w:=fun _ _ _ _ _ ha=>by
 simp [execOp,ha.ev hx]
theorem R.makeFunc {f:FuncId} {caps:Array Operand} {cv:Array Value} (h:∀ a,M n fr a->caps.map a.eval=cv):aD P n fr w (.makeFunc (.func f) #[] caps) ty (.func (.func f) #[] cv) w:=fun _ _ _ _ _ ha=>by
 simp [execOp,Instr.makeFunc,h _ ha]
theorem R.len {a:Option Addr} {m c:Nat} {e:TypeId} (hx:ev fr x=some (.slice a m c)) (ht:P.underlying t=some (.slice e)):aD P n fr w (.call { callee:=.builtin .len,args:=#[x],argTypes:=#[t] }) ty (.int .i64 (m:Int)) w:=fun _ _ _ _ _ ha=>by
 simp [execOp,resolve,invoke,builtin,ha.ev hx,Builtin.len_,run_underlying ht,goInt]
theorem R.afq {s:Str} (hx:ev fr x=some s.val) (ht:P.underlying t=some .string):aD P n fr w (.call { callee:=.builtin .len,args:=#[x],argTypes:=#[t] }) ty (.int .i64 (s.b.length:Int)) w:=fun _ _ _ _ _ ha=>by
 simp [execOp,resolve,invoke,builtin,ha.ev hx,Builtin.len_,run_underlying ht];rfl
variable {a:Option Addr} {e:TypeId}
theorem R.NZ {c:Nat} (hx:ev fr x=some (.slice a m c)) (hy:ev fr y=some (.slice none 0 0)) (ht:P.underlying t=some (.slice e)):aD P n fr w (.binOp .eql t x y t') ty (.bool a.isNone) w:=fun _ _ _ _ _ ha=>by
 simp [execOp,ha.ev hx,ha.ev hy,eqGuard_at_slice,Lib.run_eql_slice_nil w t e a m c 0 0 ht]
theorem R.Ny {c:Nat} (hx:ev fr x=some (.slice a m c)) (hy:ev fr y=some (.slice none 0 0)) (ht:P.underlying t=some (.slice e)):aD P n fr w (.binOp .neq t x y t') ty (.bool (!a.isNone)) w:=fun _ _ _ _ _ ha=>by
 simp [execOp,ha.ev hx,ha.ev hy,eqGuard_at_slice,run_neq_slice_nil_any w t e a m c 0 0 ht]
theorem R.build {parts:Array (Nat × Operand)} {pv:List (Nat × Value)} {cells:Array Value} (hp:∀ a,M n fr a->(parts.map fun p=>(p.1,a.eval p.2))=pv.toArray) (hb:P.built t pv=some cells) :
  aD P n fr w (.build t parts) ty (.agg cells) w:=fun _ _ _ _ _ ha=>by
 have h1:=run_build (P:=P) w t pv.toArray cells (by simpa using hb);simp [execOp,hp _ ha,h1]
def jO:TypeDesc->Bool | .struct _=>true | .array _ _=>true | _=>false
variable {d:TypeDesc}
theorem lq (hu:P.underlying t=some d) (w:World):(isAgg t).run P w = .ok (jO d) w:=by
 unfold isAgg;rw [Sem.run_bind,run_underlying hu w];cases d <;> rfl
variable {a:Addr}
theorem AT {v:Value} (hu:P.underlying t=some d) (hd:jO d=false) (hc:w.cell? a=some v):(loadVar t a).run P w = .ok v w:=by
 simp [loadVar,lq hu,hd,hc]
variable {cs:List Value}
theorem Ad (hu:P.underlying t=some d) (hd:jO d=true) (hi:(P.info? t).map (·.size)=some cs.length) (hc:CellsAt w a cs):(loadVar t a).run P w = .ok (.agg cs.toArray) w:=by
 cases hq:P.info? t with
 | none=>simp [hq] at hi
 | some i=>
  have hs:i.size=cs.length:=by simpa [hq] using hi
  simp [loadVar,lq hu,hd,sizeOf,typeInfo,hq,hs,ahn (P:=P) w a cs hc]
theorem R.TM {v:Value} (hx:ev fr x=some (.pointer (some a))) (hu:P.underlying t=some d) (hd:jO d=false) (hc:w.cell? a=some v):aD P n fr w (.load t x) ty v w:=fun _ _ _ _ _ ha=>by
 simp [execOp,ha.ev hx,Instr.loadAt,Instr.sureAddr,AT hu hd hc]
theorem R.UG (hx:ev fr x=some (.pointer (some a))) (hu:P.underlying t=some d) (hd:jO d=true) (hi:(P.info? t).map (·.size)=some cs.length) (hc:CellsAt w a cs) :
  aD P n fr w (.load t x) ty (.agg cs.toArray) w:=fun _ _ _ _ _ ha=>by
 simp [execOp,ha.ev hx,Instr.loadAt,Instr.sureAddr,Ad hu hd hi hc]
theorem rP {f:Field} {s:Nat} (hs:(P.info? f.type).map (·.size)=some (s+1)):(fieldPlace a f).run P w = .ok (a.add f.offset) w:=by
 cases hq:P.info? f.type with
 | none=>simp [hq] at hs
 | some i=>
  have:i.size=s+1:=by simpa [hq] using hs
  simp [fieldPlace,sizeOf,typeInfo,hq,this]
theorem R.fieldAddr {a:Addr} {fs:Array Field} {i j s:Nat} {f:Field} (hx:ev fr x=some (.pointer (some a))) (ht:P.underlying t=some (.struct fs)) (hf:fs[i]? = some f) (ho:f.offset=j) (hs:(P.info? f.type).map (·.size)=some (s+1)) :
  aD P n fr w (.fieldAddr t x i) ty (.pointer (some (a.add j))) w:=fun _ _ _ _ _ ha=>by
 subst ho;simp [execOp,ha.ev hx,Instr.fieldAt,run_underlying ht,hf,Instr.sureAddr,rP hs]
theorem R.indexAddr {a:Option Addr} {A:Addr} {m c:Nat} {k:IntKind} {i:Int} {e:TypeId} {s:Nat} (hx:ev fr x=some (.slice a m c)) (hy:ev fr y=some (.int k i)) (ht:P.underlying t=some (.slice e)) (hs:(P.info? e).map (·.size)=some s)
  (hA:a=some A) (h0:0<=i) (h1:i<(m:Int)):aD P n fr w (.indexAddr t x y) ty (.pointer (some (A.add (i.toNat*s)))) w:=fun _ _ _ _ _ ha=>by
 subst hA;cases hq:P.info? e with
 | none=>simp [hq] at hs
 | some q=>
  have:q.size=s:=by simpa [hq] using hs
  simp [execOp,ha.ev hx,ha.ev hy,Instr.indexAt,run_underlying ht,asIntOf,h0,h1,sizeOf,typeInfo,hq,this]
theorem R.jz {a:Option Addr} {A:Addr} {c:Nat} {k:IntKind} {s:Nat} (hx:ev fr x=some (.slice a m c)) (hy:ev fr y=some (.int k (i:Int))) (ht:P.underlying t=some (.slice e)) (hs:(P.info? e).map (·.size)=some s)
  (hA:a=some A) (h1:i<m):aD P n fr w (.indexAddr t x y) ty (.pointer (some (A.add (i*s)))) w:=by
 have:=R.indexAddr (P:=P) (n:=n) (w:=w) (ty:=ty) hx hy ht hs hA (by omega) (by omega);grind
variable {Q:Exit->Act->World->Prop} {l rest:List Oper} {d:Nat} {pos:String} {af:Array Edge}
def OB (fr:Fr):List Operand->Option (List Value)
 | []=>some []
 | x :: r=>
  match ev fr x,OB fr r with
  | some v,some vs=>some (v :: vs)
  | _,_=>none
theorem mS {a:Act} (ha:M n fr a):∀ {xs:List Operand} {vs:List Value},OB fr xs=some vs->xs.map a.eval=vs
 | [],vs,h=>by simp [OB] at h; subst h; rfl
 | x :: r,vs,h=>by
  simp only [OB] at h;split at h
  ·rename_i v vs' hv hvs;cases h;simp [ha.ev hv,mS ha hvs]
  cases h
def Ju (fr:Fr):List (Nat × Operand)->Option (List (Nat × Value))
 | []=>some []
 | (i,x) :: r=>
  match ev fr x,Ju fr r with
  | some v,some vs=>some ((i,v) :: vs)
  | _,_=>none
theorem xd {a:Act} (ha:M n fr a):∀ {xs:List (Nat × Operand)} {vs:List (Nat × Value)},Ju fr xs=some vs->xs.map (fun p=>(p.1,a.eval p.2))=vs
 | [],vs,h=>by simp [Ju] at h; subst h; rfl
 | (i,x) :: r,vs,h=>by
  simp only [Ju] at h;split at h
  ·rename_i v vs' hv hvs;cases h;simp [ha.ev hv,xd ha hvs]
  cases h
theorem R.ox {parts:List (Nat × Operand)} {pv:List (Nat × Value)} {cells:Array Value} (hp:Ju fr parts=some pv) (hb:P.built t pv=some cells):aD P n fr w (.build t parts.toArray) ty (.agg cells) w:=
 R.build (pv:=pv) (fun a ha=>by simp [<- xd ha hp]) hb
theorem sH (s:Nat):∀ (vss:List (List Value)) (k:Nat) (pre post:List Value),(∀ vs ∈ vss,vs.length=s)->pre.length=k*s->post.length=vss.length*s->∀ (pv:List (Nat × Value)),pv.map (fun p=>(p.1,p.2.cells.toList))=(List.range' k vss.length).zip vss ->
  Instr.fill (fun i=>some (i*s,s)) (pre++post).toArray pv=some (pre++vss.flatten).toArray
 | [],k,pre,post,_,_,hpost,pv,hpv=>by
  have:pv=[]:=by simpa using hpv
  subst this;have:post=[]:=by simpa using hpost
  subst this;simp [Instr.fill]
 | vs :: vss,k,pre,post,hl,hpre,hpost,[],hpv=>by simp [ahv] at hpv
 | vs :: vss,k,pre,post,hl,hpre,hpost,(i,v) :: pv,hpv=>by
  simp only [ae9,List.length_cons,ahv,List.zip_cons_cons,List.cons.injEq,ahy] at hpv;obtain ⟨⟨hi,hv⟩,hpv⟩:=hpv;subst hi;have hvs:vs.length=s:=hl vs (by simp);have hsz:v.cells.size=s:=by rw [<- Array.length_toList,hv,hvs]
  have hpl:post.length=s+vss.length*s:=by rw [hpost,List.length_cons,ahe]; omega
  have key:∀ (us:List Value) (j:Nat) (a b:List Value),us.length<=b.length->a.length=i*s+j ->
    (us.zipIdx j).foldl (fun cs (c:Value × Nat)=>cs.setIfInBounds (i*s+c.2) c.1) (a++b).toArray=(a++us++b.drop us.length).toArray:=by
   intro us;induction us with
   | nil=>intro j a b _ _; simp
   | cons u us ih=>
    intro j a b hb ha;cases b with
    | nil=>simp at hb
    | cons b0 b=>
     simp only [List.zipIdx_cons,List.foldl_cons];have:((a++b0 :: b).toArray.setIfInBounds (i*s+j) u)=((a++[u])++b).toArray:=by
      simp [<- ha]
     rw [this,ih (j+1) (a++[u]) b (by simpa using hb) (by simp [ha]; omega)];simp
  have hfold:v.cells.zipIdx.foldl (fun cs (c:Value × Nat)=>cs.setIfInBounds (i*s+c.2) c.1) (pre++post).toArray=((pre++vs)++post.drop s).toArray:=by
   have h1:=key vs 0 pre post (by omega) (by omega);rw [hvs] at h1;have h2:v.cells=vs.toArray:=by simp [<- hv]
   rw [<- h1,h2];simp
  simp only [Instr.fill,hsz,ne_eq,not_true_eq_false];rw [if_neg (by simp [hpre,hpl])];have:=sH s vss (i+1) (pre++vs) (post.drop s) (fun x hx=>hl x (by simp [hx])) (by simp [hpre,hvs,ahe]) (by simp [hpl]) pv (by simpa using hpv);refine Eq.trans ?_ (this.trans (by simp));congr 1
end
theorem zm:∀ {pre fr:Fr} {i:Nat},(∀ p ∈ pre,p.1≠i)->look (pre++fr) i=look fr i
 | [],_,_,_=>rfl
 | (j,v) :: r,fr,i,h=>by
  rw [List.cons_append,aM,if_neg (h (j,v) (by simp))];exact zm fun p hp=>h p (by simp [hp])
theorem xR:∀ {fr:Fr} {i:Nat} {v:Value},look fr i=some v->∃ q ∈ fr,q.1=i
 | (j,u) :: r,i,v,h=>by
  rw [aM] at h;by_cases hj:j=i
  ·simp_all
  rw [if_neg hj] at h;obtain ⟨q,hq,he⟩:=xR h;grind
section
variable {P:Program} {Q:Exit->Act->World->Prop} {n:Nat} {fr:Fr} {w:World}
end
theorem BM {α:Type} {xs:List α} {x:α} (h:xs[i]? = some x):i<xs.length:=(aam.1 h).1
theorem CellsAt.kp {a:Addr} {cs:List Value} (h:CellsAt w a cs) (k:Kp S w w') (hlt:a.block<w.heap.size) (hS:∀ g ∈ S,g≠a.block):CellsAt w' a cs:=
 h.keep (k.block _ hlt fun hm=>hS _ hm rfl)
theorem vb {b c:Bool} (h:b=c):Value.bool b = .bool c:=by rw [h]
def Ac {α:Type} [Rp α] (lo:Nat) (o2:Bool) (lo2 hi2 hi:Nat) (w:World) (v:Value) (xs:List α):Prop:=
 xs.length*Rp.by_ α<=140737488355328/\∃ css,((xs=[]/\∃ a,v = .slice a 0 0)\/(w.ownsRow lo (Rp.tid α) (Rp.sz α) v xs.length css.flatten/\∀ g,v.ownBlock=some g->g<hi))/\All2 (Rp.rp o2 lo2 hi2 w) css xs
def ob:Value->List Nat
 | .slice (some a) _ c=>if c=0 then [] else [a.block]
 | _=>[]
theorem wL {v:Value} {g:Nat} (h:g ∈ ob v):v.ownBlock=some g:=by
 cases v <;> simp only [ob,ahf] at h;rename_i a n c;cases a with
 | none=>simp at h
 | some a=>
  simp only at h;split at h
  ·simp at h
  simp at h; simp [Value.ownBlock,h]
section
variable {α:Type} [Rp α] {lo lo2 hi2 hi:Nat} {o o2:Bool} {w w':World} {v:Value} {xs ys:List α}
theorem BG {e:TypeId} {s:Nat} {cs:List Value} (h:w.ownsRow lo e s v n cs) (k:∀ g,v.ownBlock=some g->w'.heap[g]? = w.heap[g]?):w'.ownsRow lo e s v n cs:=by
 refine ⟨h.1,?_⟩;rcases h.2 with h0 | ⟨g,cap,cur,hv,hg,hh,r⟩
 ·grind
 exact .inr ⟨g,cap,cur,hv,hg,(k g (by simp [hv,Value.ownBlock])).trans hh,r⟩
theorem Ac.keep (h:Ac lo o2 lo2 hi2 hi w v xs) (k:∀ b,lo<=b->b<hi->w'.heap[b]? = w.heap[b]?) (k2:∀ b,lo2<=b->b<hi2->w'.heap[b]? = w.heap[b]?):Ac lo o2 lo2 hi2 hi w' v xs:=by
 obtain ⟨hB,css,h1,h3⟩:=h;refine ⟨hB,css,?_,h3.imp fun _ _ h=>Rp.keep h k2⟩;rcases h1 with h0 | ⟨h1,h2⟩
 ·grind
 exact .inr ⟨BG h1 fun g hg=>k g (h1.lt g hg).1 (h2 g hg),h2⟩
theorem Ac.mono {lo' lo2' hi2' hi':Nat} (h:Ac lo o2 lo2 hi2 hi w v xs) (a:lo' <= lo) (b:lo2' <= lo2) (b':hi2<=hi2') (c:hi<=hi'):Ac lo' o2 lo2' hi2' hi' w v xs:=by
 obtain ⟨hB,css,h1,h3⟩:=h;refine ⟨hB,css,?_,h3.imp fun _ _ h=>Rp.mono h b b'⟩;rcases h1 with h0 | ⟨h1,h2⟩
 ·grind
 refine .inr ⟨⟨h1.1,?_⟩,fun g hg=>ac3 (h2 g hg) c⟩;rcases h1.2 with h0 | ⟨g,cap,cur,hv,hg,r⟩
 ·grind
 exact .inr ⟨g,cap,cur,hv,by omega,r⟩
theorem Ac.weak (h:Ac lo o2 lo2 hi2 hi w v xs):Ac lo false lo2 hi2 hi w v xs:=by
 obtain ⟨hB,css,h1,h3⟩:=h;exact ⟨hB,css,h1,h3.imp fun _ _ h=>Rp.weak h⟩
end
theorem pO {e:TypeId} {s b:Nat} {z:List Value} (h:(P.info? e).map (fun i=>(i.zero.map Value.cells,i.size,i.bytes))=some (some z.toArray,s,b)) :
  ∃ i zv,P.info? e=some i/\i.zero=some zv/\zv.cells=z.toArray/\i.size=s/\i.bytes=b:=by
 cases hq:P.info? e with
 | none=>simp [hq] at h
 | some i=>
  simp_all
section
variable {P:Program} {n:Nat} {fr:Fr} {w:World} {x y:Operand} {ty t:TypeId} {Q:Exit->Act->World->Prop} {l rest:List Oper} {d:Nat} {pos:String} {af:Array Edge}
variable {α:Type} [Rp α] {lo lo2 hi2 hi:Nat} {o2:Bool} {v:Value} {xs ys:List α}
end
section
variable {P:Program} {Q:Exit->Act->World->Prop} {n:Nat} {fr:Fr} {w:World} {x y:Operand} {ty t:TypeId} {l rest:List Oper} {d:Nat} {pos:String} {af:Array Edge}
variable {α:Type} [Rp α] {lo lo2 hi2 hi:Nat} {o2:Bool} {xs:List α}
theorem uA (a:Addr):a.add 0=a:=by simp [Addr.add_zero']
variable {a' a:Option Addr} {kh kl:IntKind} {z z':Operand} {e:TypeId} {j:Nat}
theorem R.EZ {c s:Nat} (hx:ev fr x=some (.slice a m c)) (hz:ev fr z=some (.int kl (i:Int))) (hz':ev fr z' = some (.int kh (j:Int))) (ht:P.underlying t=some (.slice e)) (hs:(P.info? e).map (·.size)=some s)
  (ha:(if c=i then a else a.map (·.add (i*s)))=a') (hij:i<=j) (hj:j<=c):aD P n fr w (.slice t x (some z) (some z') none) ty (.slice a' (j - i) (c - i)) w:=fun _ _ _ _ _ hfr=>by
 subst ha;cases hq:P.info? e with
 | none=>simp [hq] at hs
 | some q=>
  have hs':q.size=s:=by simpa [hq] using hs
  have he:P.elem t=e:=by simp [Program.elem,ht]
  have e0:=ahs (P:=P) w t (.slice a m c) (some (.int kl (i:Int))) (some (.int kh (j:Int))) none (by rw [he]; exact ht);have:=run_slice_lh (P:=P) w t a m c (by rw [he]; exact ht) kl kh (i:Int) (j:Int) (by omega) (by omega) (by omega);simp [execOp,hfr.ev hx,hfr.ev hz,hfr.ev hz',e0,this,he,sizeOf,typeInfo,hq,hs',sliced]
theorem R.kx {c s:Nat} (hx:ev fr x=some (.slice a m c)) (hz':ev fr z' = some (.int kh (j:Int))) (ht:P.underlying t=some (.slice e)) (hs:(P.info? e).map (·.size)=some s)
  (ha:(if c=0 then a else a.map (·.add (0*s)))=a') (hj:j<=c):aD P n fr w (.slice t x none (some z') none) ty (.slice a' (j - 0) (c - 0)) w:=fun _ _ _ _ _ hfr=>by
 subst ha;cases hq:P.info? e with
 | none=>simp [hq] at hs
 | some q=>
  have he:P.elem t=e:=by simp [Program.elem,ht]
  have e0:=ahs (P:=P) w t (.slice a m c) none (some (.int kh (j:Int))) none (by rw [he]; exact ht);have:=run_slice_h (P:=P) w t a m c (by rw [he]; exact ht) kh (j:Int) (by omega) (by omega);simp [execOp,hfr.ev hx,hfr.ev hz',e0,this,he,sizeOf,typeInfo,hq,sliced]
theorem R.cS {c s:Nat} (hx:ev fr x=some (.slice a m c)) (hz:ev fr z=some (.int kl (i:Int))) (ht:P.underlying t=some (.slice e)) (hs:(P.info? e).map (·.size)=some s)
  (ha:(if c=i then a else a.map (·.add (i*s)))=a') (hj:i<=m):aD P n fr w (.slice t x (some z) none none) ty (.slice a' (m - i) (c - i)) w:=fun _ _ _ _ _ hfr=>by
 subst ha;cases hq:P.info? e with
 | none=>simp [hq] at hs
 | some q=>
  have hs':q.size=s:=by simpa [hq] using hs
  have he:P.elem t=e:=by simp [Program.elem,ht]
  have e0:=ahs (P:=P) w t (.slice a m c) (some (.int kl (i:Int))) none none (by rw [he]; exact ht);have:=run_slice_l (P:=P) w t a m c (by rw [he]; exact ht) kl (i:Int) (by omega) (by omega);simp [execOp,hfr.ev hx,hfr.ev hz,e0,this,he,sizeOf,typeInfo,hq,hs',sliced]
def Str.cut (s:Str) (i j:Nat):Str:=⟨(s.b.drop i).take (j - i)⟩
theorem Str.wx (s:Str) (i j:Nat):(Value.string ((⟨s.b.toArray⟩:ByteArray).extract i j))=(s.cut i j).val:=by
 simp only [Str.cut];congr 1;apply ByteArray.ext;simp_all
theorem R.ag2 {s:Str} (hx:ev fr x=some s.val) (hz':ev fr z' = some (.int kh (j:Int))) (ht:P.underlying t=some .string) (hj:j<=s.b.length) :
  aD P n fr w (.slice t x none (some z') none) ty (s.cut 0 j).val w:=fun _ _ _ _ _ hfr=>by
 have e0:=run_sliceAt_string (P:=P) w t (.string ⟨s.b.toArray⟩) none (some (.int kh (j:Int))) none ht;have:=run_slice_string_h (P:=P) w t ⟨s.b.toArray⟩ ht kh (j:Int) (by omega) (by show (j:Int)<=((s.b.toArray.size:Nat):Int); simp; omega);rw [<- Str.wx s 0 j];simp only [Str.val] at hx;simp [execOp,hfr.ev hx,hfr.ev hz',e0,this]
theorem wrap_u8 (a:Nat):IntKind.u8.wrap (a:Int)=(((UInt8.ofNat a).toNat:Nat):Int):=by
 rw [UInt8.toNat_ofNat'];show (a:Int) % 256=_;omega
variable {a:Nat}
theorem wrap_u64 (h:a<18446744073709551616):IntKind.u64.wrap (a:Int)=(a:Int):=by
 show (a:Int) % 18446744073709551616=_;omega
variable {k:IntKind} {dd:TypeDesc} {t':TypeId}
theorem R.XP (hx:ev fr x=some (.int k (a:Int))) (hs:P.underlying t=some dd) (hd:P.underlying t' = some (.int .u8)):aD P n fr w (.convert t t' x) ty (.int .u8 (((UInt8.ofNat a).toNat:Nat):Int)) w:=by
 have:=R.conv (P:=P) (n:=n) (w:=w) (ty:=ty) hx hs hd
 rwa [wrap_u8] at this
theorem R.Lx (hx:ev fr x=some (.int k (a:Int))) (hs:P.underlying t=some dd) (hd:P.underlying t' = some (.int .u64)) (h:a<18446744073709551616):aD P n fr w (.convert t t' x) ty (.int .u64 (a:Int)) w:=by
 have:=R.conv (P:=P) (n:=n) (w:=w) (ty:=ty) hx hs hd
 rwa [wrap_u64 h] at this
theorem R.ag4 {a b:UInt8} (hx:ev fr x=some (.int .u8 (a.toNat:Int))) (hy:ev fr y=some (.int .u8 (b.toNat:Int))):aD P n fr w (.binOp .or t x y t') ty (.int .u8 ((a ||| b).toNat:Int)) w:=fun _ _ _ _ _ ha=>by
 have e:bits .or .u8 (a.toNat:Int) (b.toNat:Int)=((a ||| b).toNat:Int):=by
  have h1:∀ c:UInt8,(BitVec.ofInt 8 (c.toNat:Int))=c.toBitVec:=fun c=>by
   simp_all
  show IntKind.u8.wrap ((BitVec.ofInt 8 (a.toNat:Int) ||| BitVec.ofInt 8 (b.toNat:Int)).toNat:Int)=_;rw [h1,h1,<- UInt8.toBitVec_or];have:=(a ||| b).toNat_lt;exact BA this
 simp [execOp,ha.ev hx,ha.ev hy,eqGuard_or,binOp_or,intBits_or,e]
theorem R.Mi {kc:IntKind} {b:Nat} (hx:ev fr x=some (.int k (a:Int))) (hy:ev fr y=some (.int kc (b:Int))) (hb:b<=k.bits):aD P n fr w (.binOp .shr t x y t') ty (.int k ((a / 2 ^ b:Nat):Int)) w:=fun _ _ _ _ _ ha=>by
 have e:(a:Int) / 2 ^ min (b:Int).toNat k.bits=((a / 2 ^ b:Nat):Int):=by
  grind
 simp [execOp,ha.ev hx,ha.ev hy,eqGuard_shr,binOp_shr,shift_shr_any _ _ _ _ (Int.natCast_nonneg b)];simpa using e
end
structure Sp where
 deps:List Nat
 S:List Nat
 V:Value->World->Prop
def Sp.ex (deps:List Nat) (c:Value):Sp:=⟨deps,[],fun u _=>u=c⟩
def spAt (sp:List Sp) (i:Nat):Sp:=sp.getD i ⟨[],[],fun _ _=>True⟩
def BL:List Sp->List Nat
 | []=>[]
 | s :: r=>s.S++BL r
def sN:List Sp->Nat->List Nat
 | [],_=>[]
 | _ :: r,0=>BL r
 | s :: r,i+1=>s.S++sN r i
def de (l:List Oper) (fr:Fr) (vs:Nat->Value):List Nat->Fr
 | []=>fr
 | j :: r=>match idst l j with
  | some d=>(d,vs j) :: de l fr vs r
  | none=>de l fr vs r
def fV (sp:List Sp) (vs:Nat->Value) (w:World):List Nat->Prop
 | []=>True
 | j :: r=>(spAt sp j).V (vs j) w/\fV sp vs w r
def oU (N:Nat) (d?:Option Nat) (S:List Nat) (V:Value->World->Prop) (w:World):Exit->Act->World->Prop:=
 fun e a' w'=>e = .normal/\a'.defers=[]/\∃ v,(∀ d,d? = some d->d<N/\a'.tmps.getD d undef=v)/\V v w' /\ Kp S w w'
theorem WX.aF {N d:Nat} {V:Value->World->Prop} {fr:Fr} {v:Value} (h:look fr d=some v) (hV:V v w') (hk:Kp S w w'):WX (oU N (some d) S V w) N .normal fr w':=
 fun _ ha=>⟨rfl,ha.1,v,fun d' hd=>by cases hd; exact ha.2.2 _ _ h,hV,hk⟩
variable {Q:Exit->Act->World->Prop}
theorem WO.bJ {l rest:List Oper} {fr:Fr} (hf:Has fr fr') (h:WO P Q n l rest fr' w):WO P Q n l rest fr w:=fun a ha=>h a (ha.sub hf.look)
def fp (o:Oper):List Nat:=(o.after.toList.filter (Region.binds .any ·)).map (·.on)
def bt (l:List Oper) (i:Nat):List Nat:=match l[i]? with | some o=>fp o | none=>[]
def lM (l:List Oper) (sp:List Sp) (slots:List Nat) (n:Nat):Bool:=
  decide (n<=l.length) && decide (sp.length=n) &&
  ((List.range n).all fun i=>(bt l i).all (fun j=>decide (j<i)) &&
    (spAt sp i).deps.all (fun j=>decide (j<i) && ((bt l i).contains j || (bt l i).any (fun k=>(spAt sp k).deps.contains j))) &&
    (match idst l i with
     | some d=>!slots.contains d && (List.range n).all (fun j=>j == i || idst l j != some d)
     | none=>true)) &&
  ((decide (n=l.length)) || (Region.sinkB .any l.toArray n && Region.chainB .any l.toArray n)) &&
  Region.seqB .any l.toArray (l.length - n) n ((Array.replicate n true)++(Array.replicate (l.length - n) false))
theorem IX {x y:Array Bool} (hs:x.size=y.size) (h:∀ i,i<x.size->x.getD i false=y.getD i false):x=y:=by
 apply Array.ext hs;simp_all
theorem countP_set {p q:Nat->Bool} (hi:i<n) (hp:p i=true) (hq:q i=false) (h:∀ j,j≠i->q j=p j):(List.range n).countP q+1=(List.range n).countP p:=by
 induction n with
 | zero=>omega
 | succ n ih=>
  rw [List.range_succ,List.countP_append,List.countP_append];by_cases hn:i=n
  ·subst hn;have:(List.range i).countP q=(List.range i).countP p:=List.countP_congr fun j hj=>by rw [h j (by have:=List.mem_range.1 hj; omega)]
   grind
  grind
theorem yR {F:Fence} {o:Oper} {K K':Act->World->Prop} {Q':Exit->Act->World->Prop} {r:Result Next} (h:o.uponIn F m P a K Q r) (hK:∀ v w,K (a.put o.dst v) w->K' (a.put o.dst v) w) (hD:∀ d w,¬ K ({ a with defers:=d :: a.defers }.put o.dst undef) w)
  (hQ:∀ e a w,e ≠ .normal->¬ Q e a w):o.uponIn F m P a K' Q' r:=by
 have hE:∀ (e:Ending) (w'':World),(match e,w'' with | .returned v,w''=>K (a.put o.dst v) w'' | .panicked chain,w''=>Q (.panic chain) a w'' | .outgrown,_=>LetsOut Q) ->
   (match e,w'' with | .returned v,w''=>K' (a.put o.dst v) w'' | .panicked chain,w''=>Q' (.panic chain) a w'' | .outgrown,_=>LetsOut Q'):=fun e w'' he=>by
  cases e with
  | returned v=>exact hK _ _ he
  | panicked c=>exact absurd he (hQ _ _ _ (by simp))
  | outgrown=>obtain ⟨a',w',h'⟩:=he; exact absurd h' (hQ _ _ _ (by simp))
 cases r with
 | ok x w'=>
  cases x <;> simp only [Oper.uponIn] at h ⊢;case value u=>exact hK _ _ h
  case skip=>exact hK _ _ h
  case defer d=>exact absurd h (hD _ _)
  case enter f args=>exact ⟨h.1,CallsIn.mono h.2 hE⟩
  case row r args=>exact ⟨h.1,RowsIn.mono h.2 fun v w'' hv=>hK _ _ hv⟩
  case round l f tmps assign body=>exact ⟨h.1,RoundIn.mono h.2 hE⟩
 | halt x w'=>
  cases x <;> simp only [Oper.uponIn] at h ⊢;grind
theorem kI {F:Fence} {m:Nat} {P:Program} {ops:Array Oper} {md:Region.Mode} {Q':Exit->Act->World->Prop}:∀ (l:List Oper) (k:Nat) (listed:Array Bool) (a:Act) (w:World),(∀ j,l[j]? = ops[k+j]?) ->
  Region.seqB md ops l.length k listed=true->wpListIn F m P ops Q' l a w->wpAnyIn F m P md ops Q' l.length listed a w
 | [],_,_,_,_,_,hB,h=>⟨by simpa [Region.seqB] using hB,h⟩
 | o :: l,k,listed,a,w,hl,hB,h=>by
  have h0:ops[k]? = some o:=by simpa using (hl 0).symm
  simp only [List.length_cons,Region.seqB,Bool.and_eq_true,decide_eq_true_eq] at hB;refine ⟨fun h1=>(by rw [hB.1] at h1; cases h1),fun i hi=>?_⟩;rw [hB.1] at hi;have hik:i=k:=by simpa using hi
  subst hik;have hw:wpOpIn F m P ops Q' i (wpListIn F m P ops Q' l) a w:=by unfold wpOpIn; simp only [h0]; exact h
  exact wpOpIn_mono (fun a' w' h'=>kI l (i+1) _ a' w' (fun j=>by have:=hl (j+1); simpa [Nat.add_assoc,Nat.add_comm 1 j] using this) hB.2 h') hw
theorem re:∀ {sp:List Sp} {i j:Nat},i<sp.length->i≠j->∀ g ∈ (spAt sp i).S,g ∈ sN sp j
 | s :: r,0,j+1,_,_,g,hg=>ac8 _ hg
 | s :: r,i+1,0,hi,_,g,hg=>by
  have:∀ (r:List Sp) (i:Nat),i<r.length->g ∈ (spAt r i).S->g ∈ BL r:=by
   intro r;induction r with
   | nil=>intro i hi; simp at hi
   | cons s r ih=>
    intro i hi hg;cases i with
    | zero=>exact ac8 _ hg
    | succ i=>exact ac9 _ (ih i (by simpa using hi) hg)
  exact this r i (by simpa using hi) hg
 | s :: r,i+1,j+1,hi,hne,g,hg=>ac9 _ (re (sp:=r) (by simpa using hi) (by omega) g hg)
theorem ye:∀ {r:List Sp} {i:Nat},i<r.length->∀ g ∈ (spAt r i).S,g ∈ BL r
 | s :: r,0,_,g,hg=>ac8 _ hg
 | s :: r,i+1,hi,g,hg=>ac9 _ (ye (by simpa using hi) g hg)
section
variable {P:Program} {Q:Exit->Act->World->Prop} {N n id:Nat} {l:List Oper} {sp:List Sp} {fr:Fr} {w:World}
structure DInv (N n:Nat) (l:List Oper) (sp:List Sp) (fr:Fr) (w0:World) (listed:Array Bool) (a:Act) (w:World):Prop where
 head:HeadInv .any l.toArray n listed
 clo:∀ i,i<n->listed.getD i false=true->∀ j ∈ (spAt sp i).deps,listed.getD j false=true
 fr:M N fr a
 vals:∃ vs:Nat->Value,∀ i,i<n->listed.getD i false=true->(∀ d,idst l i=some d->d<N/\a.tmps.getD d undef=vs i)/\(spAt sp i).V (vs i) w
 kp:∃ S,Kp S w0 w/\∀ g ∈ S,∃ i,i<n/\listed.getD i false=true/\g ∈ (spAt sp i).S
theorem mh {a:Act} (hfr:M N fr a) {vs:Nat->Value}:∀ (ds:List Nat),(∀ j ∈ ds,∀ d,idst l j=some d->d<N/\a.tmps.getD d undef=vs j)->M N (de l fr vs ds) a
 | [],_=>hfr
 | j :: r,h=>by
  have ih:=mh hfr (vs:=vs) r fun j hj=>h j (acb _ hj);unfold de;split
  ·rename_i d hd;refine ⟨ih.1,ih.2.1,fun i v hv=>?_⟩;rw [aM] at hv;by_cases hi:d=i
   ·grind
   rw [if_neg hi] at hv;exact ih.2.2 i v hv
  exact ih
theorem lR {vs:Nat->Value} {w:World}:∀ (ds:List Nat),(∀ j ∈ ds,(spAt sp j).V (vs j) w)->fV sp vs w ds
 | [],_=>trivial
 | j :: r,h=>⟨h j (by simp),lR r fun j hj=>h j (acb _ hj)⟩
theorem WC.draw (hm:P.follows .mixedOrders=true) (sp:List Sp) (n:Nat) (hB:lM l sp (fr.map (·.1)) n=true)
    (stab:∀ i,i<n->∀ v w w',(spAt sp i).V v w->Kp (sN sp i) w w' -> (spAt sp i).V v w')
    (ops:∀ i o,i<n->l[i]? = some o->∀ vs w1,Kp (sN sp i) w w1->fV sp vs w1 (spAt sp i).deps->WO P (oU N (idst l i) (spAt sp i).S (spAt sp i).V w1) N l [o] (de l fr vs (spAt sp i).deps) w1)
    (tail:∀ vs w1,Kp (BL sp) w w1->fV sp vs w1 (List.range n)->WO P Q N l (l.drop n) (de l fr vs (List.range n)) w1):WC P Q N (.region id l.toArray true) fr w:=by
  intro a ha ro ds;simp only [lM,Bool.and_eq_true,decide_eq_true_eq,afi,List.mem_range,Bool.or_eq_true] at hB;obtain ⟨⟨⟨⟨hnl,hsp⟩,hops⟩,hsc⟩,hseq⟩:=hB;refine wpIn_region_any hm ?_;have main:∀ f listed a w1,(List.range n).countP (fun i=>!listed.getD i false)=f->DInv N n l sp fr w listed a w1->wpAnyIn (gr ro) 0 P .any l.toArray (pD ds Q) (f+(l.length - n)) listed (iH a ds) w1:=by
    intro f;induction f with
    | zero=>
      intro listed a w1 hc inv;have hall:∀ i,i<n->listed.getD i false=true:=fun i hi=>by
        have:=List.countP_eq_zero.1 hc i (List.mem_range.2 hi);simpa using this
      have hl:listed=Array.replicate n true++Array.replicate (l.length - n) false:=by
        have hsz:=inv.head.size;refine IX (by rw [hsz]; simp; omega) fun i hi=>?_;rw [hsz] at hi;have hi':i<l.length:=by simpa using hi
        by_cases hin:i<n
        · rw [hall i hin,Array.getD_eq_getD_getElem?,Array.getElem?_append_left (by simpa using hin)]
          simp [hin]
        have h2:=inv.head.tail i (by omega) hi;have h3:listed.getD i false=false:=getD_both h2;rw [h3,Array.getD_eq_getD_getElem?,Array.getElem?_append_right (by simp; omega)];simp only [Array.size_replicate,Array.getElem?_replicate];split <;> rfl
      rw [<- hl] at hseq;obtain ⟨vs,hv⟩:=inv.vals;obtain ⟨S,hk,hS⟩:=inv.kp;have hM:M N (de l fr vs (List.range n)) a:=mh inv.fr _ fun j hj d hd=>(hv j (List.mem_range.1 hj) (hall j (List.mem_range.1 hj))).1 d hd;have ht:=tail vs w1 (hk.sub fun g hg=>by
        obtain ⟨i,hi,_,h⟩:=hS g hg;exact ye aK g h) (lR _ fun j hj=>(hv j (List.mem_range.1 hj) (hall j (List.mem_range.1 hj))).2) a hM ro ds
      have hdl:(l.drop n).length=l.length - n:=by simp
      have:=kI (F:=gr ro) (m:=0) (P:=P) (md:=.any) (ops:=l.toArray) (Q':=pD ds Q) (l.drop n) n listed (iH a ds) w1 (fun j=>by simp [adf]) (by rw [hdl]; exact hseq) ht;rw [hdl] at this;rw [ac_];exact this
    | succ f ih=>
      intro listed a w1 hc inv;have hex:∃ i,i<n/\listed.getD i false=false/\∀ j,j<i->listed.getD j false=true:=by
        have h1:∃ i,i<n/\listed.getD i false=false:=by
          have:0<(List.range n).countP (fun i=>!listed.getD i false):=by omega
          obtain ⟨i,hi,hp⟩:=List.countP_pos_iff.1 this;exact ⟨i,List.mem_range.1 hi,by simpa using hp⟩
        obtain ⟨i,hi,hp⟩:=h1;have hmin:∀ m,∀ i,i<n->listed.getD i false=false->i<=m->∃ i,i<n/\listed.getD i false=false/\∀ j,j<i->listed.getD j false=true:=by
          intro m;induction m with
          | zero=>intro i hi hp him; exact ⟨i,hi,hp,fun j hj=>by omega⟩
          | succ m ihm=>
            intro i hi hp him;by_cases hlt:∃ j,j<i/\listed.getD j false=false
            · obtain ⟨j,hj,hpj⟩:=hlt
              exact ihm j aK hpj aK
            exact ⟨i,hi,hp,fun j hj=>by
              cases h:listed.getD j false with
              | true=>rfl
              | false=>exact absurd ⟨j,hj,h⟩ hlt⟩
        exact hmin i i hi hp (ac5 _)
      obtain ⟨m,hmn,hmu,hmall⟩:=hex;have hsz:=inv.head.size;have hin:∀ i,i<n->listed.getD i false=false->listed.getD i true=false:=fun i hi h=>getD_in (by rw [hsz]; simp; omega) h;have hready:m ∈ Region.ready .any l.toArray listed:=by
        have hml:m<l.length:=by omega
        refine mem_ready.2 ⟨hin m hmn hmu,l[m],by simp [hml],fun e he hb=>?_⟩;have h1:=(hops m hmn).1.1 e.on (by
          simp only [bt,List.getElem?_eq_getElem hml,fp,aho,ahz];exact ⟨e,⟨by simpa using he,hb⟩,rfl⟩)
        exact hmall _ h1
      rw [show f+1+(l.length - n)=(f+(l.length - n))+1 by omega];refine ⟨fun h0=>(by rw [h0] at hready; cases hready),fun i hi=>?_⟩;have hil:i<l.length:=by
        obtain ⟨_,o,ho,_⟩:=mem_ready.1 hi;simpa using (afC.1 ho).1
      have hin':i<n:=by
        rcases Nat.lt_or_ge i n with h | h
        · exact h
        rcases hsc with hsc | hsc
        · omega
        exact absurd hi (tail_waits hsc.1 hsc.2 (by simp; omega) inv.head _ m rfl hmn (hin m hmn hmu) i h)
      obtain ⟨hun,o,ho,hafter⟩:=mem_ready.1 hi;have ho':l[i]? = some o:=by simpa using ho
      have hun':listed.getD i false=false:=getD_both hun;obtain ⟨vs,hv⟩:=inv.vals;obtain ⟨S,hk,hS⟩:=inv.kp
      -- what it leans on has come
      have hpre:∀ k ∈ bt l i,listed.getD k false=true:=fun k hk=>by
        simp only [bt,ho',fp,aho,ahz] at hk;obtain ⟨e,⟨he,hb⟩,rfl⟩:=hk;exact hafter e (by simpa using he) hb
      have hdeps:∀ j ∈ (spAt sp i).deps,j<i/\listed.getD j false=true:=fun j hj=>by
        have h1:=(hops i hin').1.2 j hj;refine ⟨h1.1,?_⟩;rcases h1.2 with h2 | h2
        · exact hpre j (by simpa using h2)
        obtain ⟨k,hk,hk2⟩:=List.any_eq_true.1 h2;have hki:k<i:=(hops i hin').1.1 k hk;exact inv.clo k aK (hpre k hk) j (by simpa using hk2)
      have hko:Kp (sN sp i) w w1:=hk.sub fun g hg=>by
        obtain ⟨j,hj,hlj,hgj⟩:=hS g hg;exact re (by omega) (fun e=>by subst e; rw [hun'] at hlj; cases hlj) g hgj
      have hM:M N (de l fr vs (spAt sp i).deps) a:=mh inv.fr _ fun j hj d hd=>(hv j (by have:=hdeps j hj; omega) (hdeps j hj).2).1 d hd;have hf:fV sp vs w1 (spAt sp i).deps:=lR _ fun j hj=>(hv j (by have:=hdeps j hj; omega) (hdeps j hj).2).2;have hw:=ops i o hin' ho' vs w1 hko hf a hM ro ds;have step:∀ v w2,oU N (idst l i) (spAt sp i).S (spAt sp i).V w1 .normal (a.put o.dst v) w2->wpAnyIn (gr ro) 0 P .any l.toArray (pD ds Q) (f+(l.length - n)) (listed.setIfInBounds i true) (iH (a.put o.dst v) ds) w2:=by
        intro v w2 ⟨_,_,u,hu,hV,hk2⟩;have hdst:idst l i=o.dst:=by rw [jK,ho']; rfl
        have hset:∀ j,(listed.setIfInBounds i true).getD j false=if j=i then true else listed.getD j false:=fun j=>by
          by_cases hj:j=i
          · subst hj; simp [Array.getD,hsz,hil]
          rw [getD_set_ne false (Ne.symm hj),if_neg hj]
        refine ih _ _ _ ?_ ⟨inv.head.set hi hin',?_,?_,?_,?_⟩
        · have:=countP_set (n:=n) (i:=i) (p:=fun j=>!listed.getD j false) (q:=fun j=>!(listed.setIfInBounds i true).getD j false) hin' (by simp [hun']) (by simp [hset]) (fun j hj=>by simp [hset,hj])
          omega
        · intro j hj hlj d hd
          rw [hset];by_cases hdi:d=i
          · simp [hdi]
          rw [if_neg hdi];by_cases hji:j=i
          · subst hji; exact (hdeps d hd).2
          rw [hset,if_neg hji] at hlj;exact inv.clo j hj hlj d hd
        · -- what stood in the frame
          obtain ⟨f1,f2,f3⟩:=inv.fr;cases hd:o.dst with
          | none=>exact ⟨f1,f2,f3⟩
          | some d=>
            have hfree:=(hops i hin').2;rw [hdst,hd] at hfree;simp only [Bool.and_eq_true,adu,afi,List.mem_range,Bool.or_eq_true,beq_iff_eq,bne_iff_ne] at hfree;refine ⟨f1,by simp [Act.put,f2],fun k u' hk'=>?_⟩;obtain ⟨hkn,hkv⟩:=f3 k u' hk';refine ⟨hkn,?_⟩;have hne:d≠k:=by
              rintro rfl;have:∀ (fr:Fr) (d:Nat) (v:Value),look fr d=some v->d ∈ fr.map (·.1):=by
                intro fr;induction fr with
                | nil=>intro d v h; cases h
                | cons x r ihr=>
                  intro d v h;obtain ⟨x1,x2⟩:=x;rw [aM] at h;by_cases hx:x1=d
                  · simp [hx]
                  rw [if_neg hx] at h;exact acb _ (ihr d v h)
              have h3:=this fr d u' hk';have h4:=hfree.1;simp only [List.contains_eq_mem,agJ] at h4;exact h4 h3
            rw [<- hkv];simp [Act.put,Array.getD,f2,hkn,hne]
        · refine ⟨fun j=>if j=i then u else vs j,fun j hj hlj=>?_⟩
          by_cases hji:j=i
          · subst hji
            simp only;exact ⟨hu,hV⟩
          simp only [if_neg hji];rw [hset,if_neg hji] at hlj;obtain ⟨h1,h2⟩:=hv j hj hlj;refine ⟨fun d hd=>?_,stab j hj _ _ _ h2 (hk2.sub (re (by omega) (Ne.symm hji)))⟩;obtain ⟨hdN,hdv⟩:=h1 d hd;refine ⟨hdN,?_⟩;cases hdo:o.dst with
          | none=>exact hdv
          | some d'=>
            have hfree:=(hops i hin').2;rw [hdst,hdo] at hfree;simp only [Bool.and_eq_true,adu,afi,List.mem_range,Bool.or_eq_true,beq_iff_eq,bne_iff_ne] at hfree;have h5:=(hfree.2 j hj).resolve_left hji;rw [hd] at h5;have hne:d' ≠ d:=fun e=>h5 (by rw [e]);rw [<- hdv];by_cases hds:d<a.tmps.size <;> simp [Act.put,Array.getD,hds,hne]
        refine ⟨S++(spAt sp i).S,hk.trans hk2,fun g hg=>?_⟩;rcases ac1.1 hg with hg | hg
        · obtain ⟨j,hj,hlj,hgj⟩:=hS g hg
          refine ⟨j,hj,?_,hgj⟩;rw [hset]; split
          · rfl
          exact hlj
        exact ⟨i,hin',by rw [hset,if_pos rfl],hg⟩
      have step':∀ v w2,pD ds (oU N (idst l i) (spAt sp i).S (spAt sp i).V w1) .normal ((iH a ds).put o.dst v) w2->wpAnyIn (gr ro) 0 P .any l.toArray (pD ds Q) (f+(l.length - n)) (listed.setIfInBounds i true) ((iH a ds).put o.dst v) w2:=fun v w2 ⟨a0,h0,e,h⟩=>by
        rw [rF] at e ⊢;rw [<- HT e (EI inv.fr.1 _ _) h0] at h;exact step v w2 h
      unfold wpOpIn;simp only [ho];simp only [wpListIn] at hw;try simp only [eq_self_iff_true] at hw
      by_cases hwant:Region.wanted o (yielded l.toArray (iH a ds).tmps)=true
      · rw [if_pos hwant] at hw ⊢
        unfold Oper.wpIn at hw ⊢;refine ⟨fun _ _=>trivial,yR hw.2 step' (fun d w2 ⟨a0,h0,e,h⟩=>?_) (fun e a w he ⟨_,_,_,h⟩=>he h.1)⟩;have:=congrArg Act.defers e;cases hd:o.dst <;> rw [hd] at this <;> simp [Act.put,iH] at this
      rw [if_neg hwant] at hw ⊢;exact ⟨fun _ _=>trivial,step' undef w1 hw.2⟩
  have hcount:(List.range n).countP (fun i=>!(Array.replicate l.toArray.size false).getD i false)=n:=by
    rw [List.countP_eq_length.2 (fun i _=>by rw [afS]; rfl),ahC]
  have:=main n (Array.replicate l.toArray.size false) a { w with drawn:=w.drawn+1 } hcount
    ⟨⟨by simp,fun j oj _ hl=>(by rw [afS] at hl; cases hl),fun t _ ht=>getD_in (by simpa using ht) (afS _ _)⟩,
     fun i _ hl=>(by rw [afS] at hl; cases hl),ha,⟨fun _=>undef,fun i _ hl=>(by rw [afS] at hl; cases hl)⟩,
     ⟨[],(Kp.refl w).drew,fun g hg=>by cases hg⟩⟩
  rw [show n+(l.length - n)=l.toArray.size by simp; omega] at this;exact this
def qK (P:Program) (N:Nat) (l:List Oper) (sp:List Sp) (fr:Fr) (w:World):Nat->List Oper->Prop
 | _,[]=>True
 | i,o :: r=>(∀ vs w1,Kp (sN sp i) w w1->fV sp vs w1 (spAt sp i).deps->WO P (oU N (idst l i) (spAt sp i).S (spAt sp i).V w1) N l [o] (de l fr vs (spAt sp i).deps) w1)/\qK P N l sp fr w (i+1) r
def mY (sp:List Sp):Nat->List Sp->Prop
 | _,[]=>True
 | i,s :: r=>(∀ v w w',s.V v w->Kp (sN sp i) w w' -> s.V v w')/\mY sp (i+1) r
theorem qK.at_:∀ {r:List Oper} {k:Nat},qK P N l sp fr w k r->∀ j o,r[j]? = some o->∀ vs w1,Kp (sN sp (k+j)) w w1->fV sp vs w1 (spAt sp (k+j)).deps ->
  WO P (oU N (idst l (k+j)) (spAt sp (k+j)).S (spAt sp (k+j)).V w1) N l [o] (de l fr vs (spAt sp (k+j)).deps) w1
 | [],_,_,j,o,ho=>by simp at ho
 | x :: r,k,h,0,o,ho=>by
  simp at ho; subst ho;exact h.1
 | x :: r,k,h,j+1,o,ho=>by
  have:=h.2.at_ j o (by simpa using ho);grind
theorem mY.at_:∀ {r:List Sp} {k:Nat},mY sp k r->∀ j,j<r.length->∀ v w w',(spAt r j).V v w->Kp (sN sp (k+j)) w w' -> (spAt r j).V v w'
 | s :: r,k,h,0,_=>h.1
 | s :: r,k,h,j+1,hj=>by
  have:=h.2.at_ j (by simpa using hj);rwa [show k+1+j=k+(j+1) by omega] at this
theorem WC.tY (hm:P.follows .mixedOrders=true) (sp:List Sp) (n:Nat) (hB:lM l sp (fr.map (·.1)) n=true) (stab:mY sp 0 sp) (ops:qK P N l sp fr w 0 (l.take n))
  (tail:∀ vs w1,Kp (BL sp) w w1->fV sp vs w1 (List.range n)->WO P Q N l (l.drop n) (de l fr vs (List.range n)) w1):WC P Q N (.region id l.toArray true) fr w:=by
 have hB':=hB;simp only [lM,Bool.and_eq_true,decide_eq_true_eq] at hB';refine WC.draw hm sp n hB (fun i hi=>?_) (fun i o hi ho=>?_) tail
 ·have:=stab.at_ i (by omega);grind
 have:=ops.at_ i o (by rw [adj,if_pos hi]; exact ho);grind
end
structure Reply where
 code:Int
 n:Int
deriving DecidableEq
structure Sess where
 client:Int
 seq:Int
 last:Reply
deriving DecidableEq
structure Opn where
 set:Int
 client:Int
deriving DecidableEq
structure Snap where
 id:Int
 set:Int
 chunks:List Int
 held:Bool
 tag:Str
deriving DecidableEq
structure State where
 version:Int
 next:Int
 keep:Int
 quota:Int
 sess:List Sess
 opens:List Opn
 snaps:List Snap
deriving DecidableEq
structure Command where
 kind:Int
 client:Int
 seq:Int
 set:Int
 id:Int
 n:Int
 chunks:List Int
 text:Str
deriving DecidableEq
structure SnapE where
 id:Int
 set:Int
 chunks:Bool × List Int
 held:Bool
 tag:Str
deriving DecidableEq
structure Field where
 num:Int
 wire:Int
 n:U64
 b:List UInt8
deriving DecidableEq
structure Spec where
 num:Int
 wire:Int
 since:Int
 need:Bool
 many:Bool
deriving DecidableEq
structure Entry where
 term:Int
 b:List UInt8
deriving DecidableEq
structure Record where
 kind:Int
 a:Int
 b:Int
 x:List UInt8
deriving DecidableEq
structure Letter where
 kind:Int
 frm:Int
 to:Int
 term:Int
 a:Int
 b:Int
 c:Int
 bin:Int
 ok:Bool
 l:List Entry
deriving DecidableEq
structure Event where
 kind:Int
 a:Int
 b:Int
 c:Command
deriving DecidableEq
structure CallR where
 node:Int
 number:Int
 term:Int
 at_:Int
 until_:Int
 c:Command
 done:Bool
 reply:Reply
deriving DecidableEq
structure Stable where
 floor:Int
 term:Int
 vote:Int
 log:List Entry
deriving DecidableEq
structure Route where
 frm:Int
 to:Int
 next:Int
 commit:Int
 bin:Int
deriving DecidableEq
structure Site where
 up:Bool
 role:Int
 binary:Int
 floor:Int
 term:Int
 vote:Int
 commit:Int
 applied:Int
 log:List Entry
 state:State
deriving DecidableEq
structure NOp where
 kind:UInt8
 n:Int
 x:Letter
 c:Command
deriving DecidableEq
structure Rest where
 fields:List Field
 at_:UInt8
deriving DecidableEq
structure Span where
 lo:Int
 hi:Int
deriving DecidableEq
inductive NT
 | reply | sess | opn | snap | state | command | snapE | field | spec | entry | record | letter | event | call | stable | route | site | nop | rest | span
deriving DecidableEq
abbrev NT.den:NT->Type
 | .reply=>Reply
 | .sess=>Sess
 | .opn=>Opn
 | .snap=>Snap
 | .state=>State
 | .command=>Command
 | .snapE=>SnapE
 | .field=>Field
 | .spec=>Spec
 | .entry=>Entry
 | .record=>Record
 | .letter=>Letter
 | .event=>Event
 | .call=>CallR
 | .stable=>Stable
 | .route=>Route
 | .site=>Site
 | .nop=>NOp
 | .rest=>Rest
 | .span=>Span
inductive Sh
 | int | u8 | u64 | bool | str
 | lx                                        -- a slice of ints,of one's own time (true),or of what lies ahead
 | lst (s:Sh)
 | nm (t:NT)
deriving DecidableEq
abbrev den:Sh->Type
 | .int=>Int
 | .u8=>UInt8
 | .u64=>U64
 | .bool=>Bool
 | .str=>Str
 | .lx=>Bool × List Int
 | .lst s=>List (den s)
 | .nm t=>t.den
inductive BE
 | lit (b:Bool) | atom (b:Bool)
 | lt (a b:Int) | le (a b:Int) | eq (a b:Int)
 | seq (a b:Str)
 | beq (x y:BE) | not (x:BE) | and (x y:BE) | or (x y:BE)
def BE.val:BE->Bool
 | .lit b=>b
 | .atom b=>b
 | .lt a b=>decide (a<b)
 | .le a b=>decide (a<=b)
 | .eq a b=>decide (a=b)
 | .seq a b=>decide (a=b)
 | .beq x y=>x.val == y.val
 | .not x=>!x.val
 | .and x y=>x.val && y.val
 | .or x y=>x.val || y.val
def BE.p:BE->Bool->Prop
 | .lit b,v=>b=v
 | .atom b,v=>b=v
 | .lt a b,true=>a<b
 | .lt a b,false=>b<=a
 | .le a b,true=>a<=b
 | .le a b,false=>b<a
 | .eq a b,true=>a=b
 | .eq a b,false=>¬ a=b
 | .seq a b,true=>a=b
 | .seq a b,false=>¬ a=b
 | .beq x y,v=>(x.val == y.val)=v
 | .not x,true=>x.p false
 | .not x,false=>x.p true
 | .and x y,true=>x.p true/\y.p true
 | .and x y,false=>x.p false\/y.p false
 | .or x y,true=>x.p true\/y.p true
 | .or x y,false=>x.p false/\y.p false
theorem BE.fh:∀ (e:BE) (v:Bool),e.p v↔e.val=v
 | .lit b,v=>.rfl
 | .atom b,v=>.rfl
 | .lt a b,true=>by simp [BE.p,BE.val]
 | .lt a b,false=>by simp [BE.p,BE.val]
 | .le a b,true=>by simp [BE.p,BE.val]
 | .le a b,false=>by simp [BE.p,BE.val]
 | .eq a b,true=>by simp [BE.p,BE.val]
 | .eq a b,false=>by simp [BE.p,BE.val]
 | .seq a b,true=>by simp [BE.p,BE.val]
 | .seq a b,false=>by simp [BE.p,BE.val]
 | .beq x y,v=>.rfl
 | .not x,true=>by simp [BE.p,BE.val,fh x]
 | .not x,false=>by simp [BE.p,BE.val,fh x]
 | .and x y,true=>by simp [BE.p,BE.val,fh x,fh y]
 | .and x y,false=>by cases hx:x.val <;> simp [BE.p,BE.val,fh x,fh y,hx]
 | .or x y,true=>by simp [BE.p,BE.val,fh x,fh y]
 | .or x y,false=>by simp [BE.p,BE.val,fh x,fh y]
structure TabE where
 g:Nat
 s:Sh
 xs:List (den s)
def Qt:List TabE:=[]
def aaR:List (Nat × Bool):=[]
inductive KC
 | i (n:Int) | b (v:Bool) | f (g:Nat) | nf
inductive XK
 | er (b:Bool) | pl | pa | fm (f:Str->Option Int) | bp
 | ff (s:Sh) (xs:List (den s))           -- a slice that lies,with all that is in it,ahead of one's own
 | mx (nw:Bool) (xs:List Int)            -- a slice of ints that nobody writes,or one that lies ahead of one's own
 | w (n:Nat)                               -- a word of 32 bits
 | km (l:List (Int × List KC))             -- a map of records,by ints,that nobody writes
 | kf (x:KC)                               -- a function that a record has
inductive AV
 | int (n:Int) | u8 (b:UInt8) | u64 (n:Nat) | bool (e:BE) | str (s:Str)
 | em (nil:Bool)                           -- a slice without any,and without room
 | fz (s:Sh) (xs:List (den s))           -- a slice of what nobody writes
 | li (nw:Bool) (xs:List Int)            -- a slice of ints that nobody writes: of one's own time,or ahead of it
 | own (id:Nat)                            -- all of a row of one's own
 | sub (id off len:Nat)
 | ptr (id off:Nat) | np
 | elp (id i off:Nat)                      -- at an element of a row of one's own
 | fe (s:Sh) (x:den s) (off:Nat)       -- at an element of what nobody writes
 | fn (f:Nat) (b c:List (Nat × Nat)) | nf
 | yl (l:Nat)                              -- what a range over a function hands to it: of the loop l
 | mq (id:Nat)                             -- a map of one's own
 | xx (k:XK) (cs:List (Nat × Nat))
 | dead
inductive TV1
 | c (a:AV)
 | agg (l:List AV)
inductive TV
 | one (t:TV1)
 | tup (l:List TV1)
 | un
abbrev AFr:=List (Nat × TV)
inductive AO
 | gone
 | box (t:TypeId) (cs:List AV)
 | row (t:TypeId) (s:Sh) (xs:List (den s))
 | mapo (s:Sh) (f:Int->Option (den s))
 | arr (t:TypeId) (s:Sh) (n:Nat) (xs:List (den s))   -- an array
 | mapf (l:List (Int × AV))                -- a map of functions
 | loc                                       -- something: where it lies,and no more
abbrev AH:=List AO
def lookA:AFr->Nat->Option TV
 | [],_=>none
 | (j,v) :: r,i=>bif Nat.beq j i then some v else lookA r i
def AV.aR:AV->Option Int
 | .int n=>some n
 | _=>none
def AV.T_:AV->Option UInt8
 | .u8 n=>some n
 | _=>none
def AV.TE:AV->Option U64
 | .u64 n=>some ⟨n⟩
 | _=>none
def AV.tg:AV->Option Bool
 | .bool e=>some e.val
 | _=>none
def AV.Bb:AV->Option Str
 | .str s=>some s
 | _=>none
def AV.VT:AV->Option (Bool × List Int)
 | .li b xs=>some (b,xs)
 | .em _=>some (true,[])
 | _=>none
def AV.fC (s:Sh):AV->Option (List (den s))
 | .fz s' xs=>if h:s' = s then some (h ▸ xs) else none
 | .em _=>some []
 | _=>none
def NT.cells:(t:NT)->t.den->List AV
 | .reply,x=>[.int x.code,.int x.n]
 | .sess,x=>[.int x.client,.int x.seq,.int x.last.code,.int x.last.n]
 | .opn,x=>[.int x.set,.int x.client]
 | .snap,x=>[.int x.id,.int x.set,.fz .int x.chunks,.bool (.atom x.held),.str x.tag]
 | .state,x=>[.int x.version,.int x.next,.int x.keep,.int x.quota,.fz (.nm .sess) x.sess,.fz (.nm .opn) x.opens,.fz (.nm .snap) x.snaps]
 | .command,x=>[.int x.kind,.int x.client,.int x.seq,.int x.set,.int x.id,.int x.n,.fz .int x.chunks,.str x.text]
 | .snapE,x=>[.int x.id,.int x.set,.li x.chunks.1 x.chunks.2,.bool (.atom x.held),.str x.tag]
 | .field,x=>[.int x.num,.int x.wire,.u64 x.n.n,.fz .u8 x.b]
 | .spec,x=>[.int x.num,.int x.wire,.int x.since,.bool (.atom x.need),.bool (.atom x.many)]
 | .entry,x=>[.int x.term,.fz .u8 x.b]
 | .record,x=>[.int x.kind,.int x.a,.int x.b,.fz .u8 x.x]
 | .letter,x=>[.int x.kind,.int x.frm,.int x.to,.int x.term,.int x.a,.int x.b,.int x.c,.int x.bin,.bool (.atom x.ok),.fz (.nm .entry) x.l]
 | .event,x=>[.int x.kind,.int x.a,.int x.b,.int x.c.kind,.int x.c.client,.int x.c.seq,.int x.c.set,.int x.c.id,.int x.c.n,.fz .int x.c.chunks,.str x.c.text]
 | .call,x=>[.int x.node,.int x.number,.int x.term,.int x.at_,.int x.until_,.int x.c.kind,.int x.c.client,.int x.c.seq,.int x.c.set,.int x.c.id,.int x.c.n,.fz .int x.c.chunks,.str x.c.text,.bool (.atom x.done),.int x.reply.code,.int x.reply.n]
 | .stable,x=>[.int x.floor,.int x.term,.int x.vote,.fz (.nm .entry) x.log]
 | .route,x=>[.int x.frm,.int x.to,.int x.next,.int x.commit,.int x.bin]
 | .site,x=>[.bool (.atom x.up),.int x.role,.int x.binary,.int x.floor,.int x.term,.int x.vote,.int x.commit,.int x.applied,.fz (.nm .entry) x.log,.int x.state.version,.int x.state.next,.int x.state.keep,.int x.state.quota,.fz (.nm .sess) x.state.sess,.fz (.nm .opn) x.state.opens,.fz (.nm .snap) x.state.snaps]
 | .nop,x=>[.u8 x.kind,.int x.n,.int x.x.kind,.int x.x.frm,.int x.x.to,.int x.x.term,.int x.x.a,.int x.x.b,.int x.x.c,.int x.x.bin,.bool (.atom x.x.ok),.fz (.nm .entry) x.x.l,.int x.c.kind,.int x.c.client,.int x.c.seq,.int x.c.set,.int x.c.id,.int x.c.n,.fz .int x.c.chunks,.str x.c.text]
 | .rest,x=>[.fz (.nm .field) x.fields,.u8 x.at_]
 | .span,x=>[.int x.lo,.int x.hi]
def NT.size:NT->Nat
 | .reply=>2
 | .sess=>4
 | .opn=>2
 | .snap=>5
 | .state=>7
 | .command=>8
 | .snapE=>5
 | .field=>4
 | .spec=>5
 | .entry=>2
 | .record=>4
 | .letter=>10
 | .event=>11
 | .call=>16
 | .stable=>4
 | .route=>5
 | .site=>16
 | .nop=>20
 | .rest=>2
 | .span=>2
def NT.bytes:NT->Nat
 | .reply=>16
 | .sess=>32
 | .opn=>16
 | .snap=>64
 | .state=>104
 | .command=>88
 | .snapE=>64
 | .field=>48
 | .spec=>32
 | .entry=>32
 | .record=>48
 | .letter=>96
 | .event=>112
 | .call=>152
 | .stable=>48
 | .route=>40
 | .site=>192
 | .nop=>200
 | .rest=>32
 | .span=>16
def NT.gy:NT->List Sh
 | .reply=>[]
 | .sess=>[]
 | .opn=>[]
 | .snap=>[.int]
 | .state=>[(.nm .sess),(.nm .opn),(.nm .snap)]
 | .command=>[.int]
 | .snapE=>[.int]
 | .field=>[.u8]
 | .spec=>[]
 | .entry=>[.u8]
 | .record=>[.u8]
 | .letter=>[(.nm .entry)]
 | .event=>[.int]
 | .call=>[.int]
 | .stable=>[(.nm .entry)]
 | .route=>[]
 | .site=>[(.nm .entry),(.nm .sess),(.nm .opn),(.nm .snap)]
 | .nop=>[(.nm .entry),.int]
 | .rest=>[(.nm .field)]
 | .span=>[]
def NT.ao:(t:NT)->t.den
 | .reply=>⟨0,0⟩
 | .sess=>⟨0,0,⟨0,0⟩⟩
 | .opn=>⟨0,0⟩
 | .snap=>⟨0,0,[],false,⟨[]⟩⟩
 | .state=>⟨0,0,0,0,[],[],[]⟩
 | .command=>⟨0,0,0,0,0,0,[],⟨[]⟩⟩
 | .snapE=>⟨0,0,(true,[]),false,⟨[]⟩⟩
 | .field=>⟨0,0,⟨0⟩,[]⟩
 | .spec=>⟨0,0,0,false,false⟩
 | .entry=>⟨0,[]⟩
 | .record=>⟨0,0,0,[]⟩
 | .letter=>⟨0,0,0,0,0,0,0,0,false,[]⟩
 | .event=>⟨0,0,0,⟨0,0,0,0,0,0,[],⟨[]⟩⟩⟩
 | .call=>⟨0,0,0,0,0,⟨0,0,0,0,0,0,[],⟨[]⟩⟩,false,⟨0,0⟩⟩
 | .stable=>⟨0,0,0,[]⟩
 | .route=>⟨0,0,0,0,0⟩
 | .site=>⟨false,0,0,0,0,0,0,0,[],⟨0,0,0,0,[],[],[]⟩⟩
 | .nop=>⟨0,0,⟨0,0,0,0,0,0,0,0,false,[]⟩,⟨0,0,0,0,0,0,[],⟨[]⟩⟩⟩
 | .rest=>⟨[],0⟩
 | .span=>⟨0,0⟩
def Reply.of:List AV->Option Reply
 | [a0,a1]=>match a0.aR,a1.aR with
  | some x0,some x1=>some ⟨x0,x1⟩
  | _,_=>none
 | _=>none
def Sess.of:List AV->Option Sess
 | [a0,a1,a2,a3]=>match a0.aR,a1.aR,a2.aR,a3.aR with
  | some x0,some x1,some x2,some x3=>some ⟨x0,x1,⟨x2,x3⟩⟩
  | _,_,_,_=>none
 | _=>none
def Opn.of:List AV->Option Opn
 | [a0,a1]=>match a0.aR,a1.aR with
  | some x0,some x1=>some ⟨x0,x1⟩
  | _,_=>none
 | _=>none
def Snap.of:List AV->Option Snap
 | [a0,a1,a2,a3,a4]=>match a0.aR,a1.aR,a2.fC .int,a3.tg,a4.Bb with
  | some x0,some x1,some x2,some x3,some x4=>some ⟨x0,x1,x2,x3,x4⟩
  | _,_,_,_,_=>none
 | _=>none
def State.of:List AV->Option State
 | [a0,a1,a2,a3,a4,a5,a6]=>match a0.aR,a1.aR,a2.aR,a3.aR,a4.fC (.nm .sess),a5.fC (.nm .opn),a6.fC (.nm .snap) with
  | some x0,some x1,some x2,some x3,some x4,some x5,some x6=>some ⟨x0,x1,x2,x3,x4,x5,x6⟩
  | _,_,_,_,_,_,_=>none
 | _=>none
def Command.of:List AV->Option Command
 | [a0,a1,a2,a3,a4,a5,a6,a7]=>match a0.aR,a1.aR,a2.aR,a3.aR,a4.aR,a5.aR,a6.fC .int,a7.Bb with
  | some x0,some x1,some x2,some x3,some x4,some x5,some x6,some x7=>some ⟨x0,x1,x2,x3,x4,x5,x6,x7⟩
  | _,_,_,_,_,_,_,_=>none
 | _=>none
def SnapE.of:List AV->Option SnapE
 | [a0,a1,a2,a3,a4]=>match a0.aR,a1.aR,a2.VT,a3.tg,a4.Bb with
  | some x0,some x1,some x2,some x3,some x4=>some ⟨x0,x1,x2,x3,x4⟩
  | _,_,_,_,_=>none
 | _=>none
def Field.of:List AV->Option Field
 | [a0,a1,a2,a3]=>match a0.aR,a1.aR,a2.TE,a3.fC .u8 with
  | some x0,some x1,some x2,some x3=>some ⟨x0,x1,x2,x3⟩
  | _,_,_,_=>none
 | _=>none
def Spec.of:List AV->Option Spec
 | [a0,a1,a2,a3,a4]=>match a0.aR,a1.aR,a2.aR,a3.tg,a4.tg with
  | some x0,some x1,some x2,some x3,some x4=>some ⟨x0,x1,x2,x3,x4⟩
  | _,_,_,_,_=>none
 | _=>none
def Entry.of:List AV->Option Entry
 | [a0,a1]=>match a0.aR,a1.fC .u8 with
  | some x0,some x1=>some ⟨x0,x1⟩
  | _,_=>none
 | _=>none
def Record.of:List AV->Option Record
 | [a0,a1,a2,a3]=>match a0.aR,a1.aR,a2.aR,a3.fC .u8 with
  | some x0,some x1,some x2,some x3=>some ⟨x0,x1,x2,x3⟩
  | _,_,_,_=>none
 | _=>none
def Letter.of:List AV->Option Letter
 | [a0,a1,a2,a3,a4,a5,a6,a7,a8,a9]=>match a0.aR,a1.aR,a2.aR,a3.aR,a4.aR,a5.aR,a6.aR,a7.aR,a8.tg,a9.fC (.nm .entry) with
  | some x0,some x1,some x2,some x3,some x4,some x5,some x6,some x7,some x8,some x9=>some ⟨x0,x1,x2,x3,x4,x5,x6,x7,x8,x9⟩
  | _,_,_,_,_,_,_,_,_,_=>none
 | _=>none
def Event.of:List AV->Option Event
 | [a0,a1,a2,a3,a4,a5,a6,a7,a8,a9,a10]=>match a0.aR,a1.aR,a2.aR,a3.aR,a4.aR,a5.aR,a6.aR,a7.aR,a8.aR,a9.fC .int,a10.Bb with
  | some x0,some x1,some x2,some x3,some x4,some x5,some x6,some x7,some x8,some x9,some x10=>some ⟨x0,x1,x2,⟨x3,x4,x5,x6,x7,x8,x9,x10⟩⟩
  | _,_,_,_,_,_,_,_,_,_,_=>none
 | _=>none
def CallR.of:List AV->Option CallR
 | [a0,a1,a2,a3,a4,a5,a6,a7,a8,a9,a10,a11,a12,a13,a14,a15]=>match a0.aR,a1.aR,a2.aR,a3.aR,a4.aR,a5.aR,a6.aR,a7.aR,a8.aR,a9.aR,a10.aR,a11.fC .int,a12.Bb,a13.tg,a14.aR,a15.aR with
  | some x0,some x1,some x2,some x3,some x4,some x5,some x6,some x7,some x8,some x9,some x10,some x11,some x12,some x13,some x14,some x15=>some ⟨x0,x1,x2,x3,x4,⟨x5,x6,x7,x8,x9,x10,x11,x12⟩,x13,⟨x14,x15⟩⟩
  | _,_,_,_,_,_,_,_,_,_,_,_,_,_,_,_=>none
 | _=>none
def Stable.of:List AV->Option Stable
 | [a0,a1,a2,a3]=>match a0.aR,a1.aR,a2.aR,a3.fC (.nm .entry) with
  | some x0,some x1,some x2,some x3=>some ⟨x0,x1,x2,x3⟩
  | _,_,_,_=>none
 | _=>none
def Route.of:List AV->Option Route
 | [a0,a1,a2,a3,a4]=>match a0.aR,a1.aR,a2.aR,a3.aR,a4.aR with
  | some x0,some x1,some x2,some x3,some x4=>some ⟨x0,x1,x2,x3,x4⟩
  | _,_,_,_,_=>none
 | _=>none
def Site.of:List AV->Option Site
 | [a0,a1,a2,a3,a4,a5,a6,a7,a8,a9,a10,a11,a12,a13,a14,a15]=>match a0.tg,a1.aR,a2.aR,a3.aR,a4.aR,a5.aR,a6.aR,a7.aR,a8.fC (.nm .entry),a9.aR,a10.aR,a11.aR,a12.aR,a13.fC (.nm .sess),a14.fC (.nm .opn),a15.fC (.nm .snap) with
  | some x0,some x1,some x2,some x3,some x4,some x5,some x6,some x7,some x8,some x9,some x10,some x11,some x12,some x13,some x14,some x15=>some ⟨x0,x1,x2,x3,x4,x5,x6,x7,x8,⟨x9,x10,x11,x12,x13,x14,x15⟩⟩
  | _,_,_,_,_,_,_,_,_,_,_,_,_,_,_,_=>none
 | _=>none
def NOp.of:List AV->Option NOp
 | [a0,a1,a2,a3,a4,a5,a6,a7,a8,a9,a10,a11,a12,a13,a14,a15,a16,a17,a18,a19]=>match a0.T_,a1.aR,a2.aR,a3.aR,a4.aR,a5.aR,a6.aR,a7.aR,a8.aR,a9.aR,a10.tg,a11.fC (.nm .entry),a12.aR,a13.aR,a14.aR,a15.aR,a16.aR,a17.aR,a18.fC .int,a19.Bb with
  | some x0,some x1,some x2,some x3,some x4,some x5,some x6,some x7,some x8,some x9,some x10,some x11,some x12,some x13,some x14,some x15,some x16,some x17,some x18,some x19=>some ⟨x0,x1,⟨x2,x3,x4,x5,x6,x7,x8,x9,x10,x11⟩,⟨x12,x13,x14,x15,x16,x17,x18,x19⟩⟩
  | _,_,_,_,_,_,_,_,_,_,_,_,_,_,_,_,_,_,_,_=>none
 | _=>none
def Rest.of:List AV->Option Rest
 | [a0,a1]=>match a0.fC (.nm .field),a1.T_ with
  | some x0,some x1=>some ⟨x0,x1⟩
  | _,_=>none
 | _=>none
def Span.of:List AV->Option Span
 | [a0,a1]=>match a0.aR,a1.aR with
  | some x0,some x1=>some ⟨x0,x1⟩
  | _,_=>none
 | _=>none
def NT.of:(t:NT)->List AV->Option t.den
 | .reply,l=>Reply.of l
 | .sess,l=>Sess.of l
 | .opn,l=>Opn.of l
 | .snap,l=>Snap.of l
 | .state,l=>State.of l
 | .command,l=>Command.of l
 | .snapE,l=>SnapE.of l
 | .field,l=>Field.of l
 | .spec,l=>Spec.of l
 | .entry,l=>Entry.of l
 | .record,l=>Record.of l
 | .letter,l=>Letter.of l
 | .event,l=>Event.of l
 | .call,l=>CallR.of l
 | .stable,l=>Stable.of l
 | .route,l=>Route.of l
 | .site,l=>Site.of l
 | .nop,l=>NOp.of l
 | .rest,l=>Rest.of l
 | .span,l=>Span.of l
def cellsOf:(s:Sh)->den s->List AV
 | .int,x=>[.int x]
 | .u8,x=>[.u8 x]
 | .u64,x=>[.u64 x.n]
 | .bool,x=>[.bool (.atom x)]
 | .str,x=>[.str x]
 | .lx,x=>[.li x.1 x.2]
 | .lst s,x=>[.fz s x]
 | .nm t,x=>t.cells x
def Sh.size:Sh->Nat
 | .nm t=>t.size
 | _=>1
def Sh.bytes:Sh->Nat
 | .int=>8
 | .u8=>1
 | .u64=>8
 | .bool=>1
 | .str=>16
 | .lx=>24
 | .lst _=>24
 | .nm t=>t.bytes
def ao:(s:Sh)->den s
 | .int=>0
 | .u8=>0
 | .u64=>⟨0⟩
 | .bool=>false
 | .str=>⟨[]⟩
 | .lx=>(true,[])
 | .lst _=>[]
 | .nm t=>t.ao
def fT:(s:Sh)->List AV->Option (den s)
 | .int,[.int n]=>some n
 | .u8,[.u8 b]=>some b
 | .u64,[.u64 n]=>some ⟨n⟩
 | .bool,[.bool e]=>some e.val
 | .str,[.str s]=>some s
 | .lx,[a]=>a.VT
 | .lst s,[a]=>a.fC s
 | .nm t,l=>t.of l
 | _,_=>none
end Go.Proofs.YticbaadnibdbkaaGreat
namespace Go.Proofs.YticbaadnibdbkaaGreat
open Go.RowKit
inductive TK
 | i (k:IntKind) | bool | str
 | sl (e:TypeId) (s:Option Sh)
 | st (fs:List (Nat × Nat))              -- the fields' offsets and sizes
 | ar (n:Nat) (e:TypeId)
 | mp (k e:TypeId) (s:Option Sh)         -- a map with integers asx keys
 | ptr | fn | oth
 | ifc                                     -- an interface
 | ms (k e:TypeId)                       -- a map with words asx keys,of numbers
 | mg (k e:TypeId) (z:List KC)         -- a map with integers asx keys,of records
structure TI where
 k:TK
 size:Nat
 zero:List AV
def aQ:List (Nat × TI)->Nat->Option TI
 | [],_=>none
 | (j,v) :: r,i=>bif Nat.beq j i then some v else aQ r i
structure PR where
 v:TV
 ob:List Prop:=[]
 fc:List Prop:=[]
def one (a:AV):TV:=.one (.c a)
def pr (a:AV) (ob:List Prop:=[]) (fc:List Prop:=[]):Option PR:=some ⟨.one (.c a),ob,fc⟩
def AV.ok:AV->List Prop
 | .int n=>[I64 n]
 | .u64 n=>[n<18446744073709551616]
 | .str s=>[s.b.length<=140737488355328]
 | .fz s xs=>[xs.length*s.bytes<=140737488355328]
 | _=>[]
def HK:List AV->List Prop
 | []=>[]
 | a :: r=>a.ok++HK r
def TV1.ok:TV1->List Prop
 | .c a=>a.ok
 | .agg l=>HK l
def Ho:List TV1->List Prop
 | []=>[]
 | a :: r=>a.ok++Ho r
def getO (H:AH) (id:Nat):AO:=H.getD id .gone
def AV.vw (H:AH):AV->AV
 | .own id=>match getO H id with
  | .row _ s xs=>.fz s xs
  | _=>.dead
 | .sub id off len=>match getO H id with
  | .row _ s xs=>.fz s ((xs.drop off).take len)
  | _=>.dead
 | a=>a
def cAV:Value->Option AV
 | .int .i64 n=>bif decide (-9223372036854775808<=n) && decide (n<=9223372036854775807) then some (.int n) else none
 | .int .u8 n=>bif decide (0<=n) && decide (n<256) then some (.u8 (UInt8.ofNat n.toNat)) else none
 | .int .u64 n=>bif decide (0<=n) && decide (n<18446744073709551616) then some (.u64 n.toNat) else none
 | .int .u32 n=>bif decide (0<=n) && decide (n<4294967296) then some (.xx (.w n.toNat) []) else none
 | .bool b=>some (.bool (.lit b))
 | .string s=>bif Nat.ble s.data.toList.length 140737488355328 then some (.str ⟨s.data.toList⟩) else none
 | .slice none 0 0=>some (.em true)
 | .pointer none=>some .np
 | .nilIface=>some (.xx (.er true) [])
 | .nilFunc=>some .nf
 | _=>none
def cP (fr:AFr):Operand->Option TV
 | .tmp i=>lookA fr i
 | .const v=>match cAV v with
  | some a=>some (one a)
  | none=>none
 | .func f=>some (one (.fn f [] []))
 | .global _=>none
def BE.neg:BE->BE
 | .lit b=>.lit (!b)
 | .not e=>e
 | e=>.not e
def To (a b:Int):Int:=((a.toNat ||| b.toNat:Nat):Int)
def Hr (a b:Int):Int:=((BitVec.ofInt 64 a &&& BitVec.ofInt 64 b).toNat:Int)
def Yy (op:BinOp):AV->AV->Option PR
 | .int a,.int b=>match op with
  | .lss=>pr (.bool (.lt a b))
  | .leq=>pr (.bool (.le a b))
  | .gtr=>pr (.bool (.lt b a))
  | .geq=>pr (.bool (.le b a))
  | .eql=>pr (.bool (.eq a b))
  | .neq=>pr (.bool (.not (.eq a b)))
  | .add=>pr (.int (a+b)) [I64 (a+b)]
  | .sub=>pr (.int (a - b)) [I64 (a - b)]
  | .mul=>pr (.int (a*b)) [I64 (a*b)]
  | .quo=>pr (.int (a.tdiv b)) [0<=a,0<b]
  | .rem=>pr (.int (a.tmod b)) [0<=a,0<b]
  | .and=>pr (.int (Hr a b)) [0<=b]
  | .or=>pr (.int (To a b)) [0<=a,0<=b]
  | _=>none
 | .u8 a,.u8 b=>match op with
  | .lss=>pr (.bool (.lt a.toNat b.toNat))
  | .leq=>pr (.bool (.le a.toNat b.toNat))
  | .gtr=>pr (.bool (.lt b.toNat a.toNat))
  | .geq=>pr (.bool (.le b.toNat a.toNat))
  | .eql=>pr (.bool (.eq a.toNat b.toNat))
  | .neq=>pr (.bool (.not (.eq a.toNat b.toNat)))
  | .and=>pr (.u8 (a &&& b))
  | .or=>pr (.u8 (a ||| b))
  | .rem=>pr (.u8 (a % b)) [0<b.toNat]
  | .quo=>pr (.u8 (a / b)) [0<b.toNat]
  | _=>none
 | .u64 a,.u64 b=>match op with
  | .lss=>pr (.bool (.lt a b))
  | .leq=>pr (.bool (.le a b))
  | .gtr=>pr (.bool (.lt b a))
  | .geq=>pr (.bool (.le b a))
  | .eql=>pr (.bool (.eq a b))
  | .neq=>pr (.bool (.not (.eq a b)))
  | .add=>pr (.u64 ((a+b) % 18446744073709551616))
  | .or=>pr (.u64 (a ||| b))
  | .quo=>pr (.u64 (a / b)) [0<b]
  | .rem=>pr (.u64 (a % b)) [0<b]
  | .shl=>pr (.u64 ((a*2 ^ b) % 18446744073709551616)) [b<64]
  | .shr=>pr (.u64 (a / 2 ^ b)) [b<64]
  | _=>none
 | .u64 a,.int b=>match op with
  | .shl=>pr (.u64 ((a*2 ^ b.toNat) % 18446744073709551616)) [0<=b,b<64]
  | .shr=>pr (.u64 (a / 2 ^ b.toNat)) [0<=b,b<64]
  | _=>none
 | .int a,.u64 b=>match op with
  | .shl=>pr (.int (a*2 ^ b)) [b<64,I64 (a*2 ^ b)]
  | _=>none
 | .u8 a,.u64 b=>match op with
  | .shr=>pr (.u8 (UInt8.ofNat (a.toNat / 2 ^ b))) [b<8]
  | _=>none
 | .bool a,.bool b=>match op with
  | .eql=>pr (.bool (.beq a b))
  | .neq=>pr (.bool (.not (.beq a b)))
  | _=>none
 | .str a,.str b=>match op with
  | .eql=>pr (.bool (.seq a b))
  | .neq=>pr (.bool (.not (.seq a b)))
  | .add=>pr (.str ⟨a.b++b.b⟩) [a.b.length+b.b.length<=140737488355328]
  | _=>none
 | .em a,.em true=>match op with
  | .eql=>pr (.bool (.lit a))
  | .neq=>pr (.bool (.lit (!a)))
  | _=>none
 | _,_=>none
inductive LK
 | i (k:IntKind) | b | s
deriving DecidableEq
def AV.lk:AV->Option LK
 | .int _=>some (.i .i64)
 | .u8 _=>some (.i .u8)
 | .u64 _=>some (.i .u64)
 | .bool _=>some .b
 | .str _=>some .s
 | _=>none
def Tm:List AV->Option (List LK)
 | []=>some []
 | a :: r=>match a.lk,Tm r with
  | some k,some l=>some (k :: l)
  | _,_=>none
def Tb:AV->AV->Option BE
 | .int a,.int b=>some (.eq a b)
 | .u8 a,.u8 b=>some (.eq a.toNat b.toNat)
 | .u64 a,.u64 b=>some (.eq a b)
 | .bool x,.bool y=>some (.beq x y)
 | .str a,.str b=>some (.seq a b)
 | _,_=>none
def FG:List AV->List AV->Option BE
 | [],[]=>some (.lit true)
 | [a],[b]=>Tb a b
 | a :: r,b :: l=>match Tb a b,FG r l with
  | some x,some y=>some (.and x y)
  | _,_=>none
 | _,_=>none
def eqG (T:List (Nat × TI)) (op:BinOp) (t:TypeId) (asx bs:List AV):Option PR:=match aQ T t with
 | some ⟨.st _,_,z⟩=>match Tm z,Tm asx,Tm bs with
  | some k,some k1,some k2=>match decide (k1=k) && decide (k2=k),FG asx bs,op with
   | true,some e,.eql=>pr (.bool e)
   | true,some e,.neq=>pr (.bool (.not e))
   | _,_,_=>none
  | _,_,_=>none
 | _=>none
def NK (T:List (Nat × TI)) (t:TypeId):AV->Bool
 | .bool _=>match aQ T t with
  | some ⟨.bool,_,_⟩=>true
  | _=>false
 | .em _=>match aQ T t with
  | some ⟨.sl _ _,_,_⟩=>true
  | _=>false
 | .xx _ _=>false
 | _=>true
def eE (n:Nat):Int:=if n<9223372036854775808 then n else (n:Int) - 18446744073709551616
def Mt (H:AH) (s t:TK) (x:AV):Option PR:=
 match s,t,x with
 | .i .i64,.i .i64,.int n=>pr (.int n)
 | .i .u8,.i .i64,.u8 b=>pr (.int b.toNat)
 | .i .u8,.i .u64,.u8 b=>pr (.u64 b.toNat)
 | .i .i64,.i .u8,.int n=>pr (.u8 (UInt8.ofNat n.toNat)) [0<=n]
 | .i .i64,.i .u64,.int n=>pr (.u64 n.toNat) [0<=n]
 | .i .u64,.i .u8,.u64 n=>pr (.u8 (UInt8.ofNat n))
 | .i .u64,.i .i64,.u64 n=>pr (.int (eE n))
 | .i .u64,.i .u64,.u64 n=>pr (.u64 n)
 | .sl _ (some .u8),.str,x=>match x.vw H with
  | .fz .u8 xs=>pr (.str ⟨xs⟩)
  | .em _=>pr (.str ⟨[]⟩)
  | _=>none
 | .str,.sl _ (some .u8),.str s=>pr (.fz .u8 s.b)
 | _,_,_=>none
def VC (T:List (Nat × TI)) (H:AH) (t:TypeId) (x:AV):Option Int:=
 match x,aQ T t with
 | .fz _ xs,some ⟨.sl _ _,_,_⟩=>some xs.length
 | .str s,some ⟨.str,_,_⟩=>some s.b.length
 | .em _,some ⟨.sl _ _,_,_⟩=>some 0
 | .own id,some ⟨.sl _ _,_,_⟩=>match getO H id with
  | .row _ _ xs=>some xs.length
  | _=>none
 | .sub id _ len,some ⟨.sl _ _,_,_⟩=>match getO H id with
  | .row _ _ _=>some len
  | _=>none
 | .xx .pl cs,some ⟨.sl _ _,_,_⟩=>some cs.length
 | _,_=>none
def AV.ix:AV->Option Int
 | .int n=>some n
 | .u8 b=>some b.toNat
 | .u64 n=>some n
 | _=>none
def TZ (T:List (Nat × TI)) (t:TypeId):Option Sh:=match aQ T t with
 | some ⟨.sl _ s,_,_⟩=>s
 | _=>none
def sj (H:AH) (s':Sh) (x:AV) (i:Int):Option PR:=
 match x with
 | .fz s xs=>match decide (s' = s) with
  | true=>pr (.fe s (xs.getD i.toNat (ao s)) 0) [0<=i,i<xs.length] (HK (cellsOf s (xs.getD i.toNat (ao s))))
  | false=>none
 | .own id=>match getO H id with
  | .row _ s xs=>match decide (s' = s) with
   | true=>pr (.elp id i.toNat 0) [0<=i,i<xs.length] (HK (cellsOf s (xs.getD i.toNat (ao s))))
   | false=>none
  | _=>none
 | _=>none
def wz (H:AH):AV->Option (List AV × Nat)
 | .ptr id o=>match getO H id with
  | .box _ cs=>some (cs,o)
  | _=>none
 | .elp id i o=>match getO H id with
  | .row _ s xs=>some (cellsOf s (xs.getD i (ao s)),o)
  | _=>none
 | .fe s x o=>some (cellsOf s x,o)
 | .xx .pa [q]=>some ([.ptr q.1 q.2],0)
 | _=>none
def CG (T:List (Nat × TI)) (H:AH) (t:TypeId) (x:AV):Option PR:=
 match aQ T t,wz H x with
 | some ti,some (cs,o)=>match ti.k,Nat.ble (o+ti.size) cs.length with
  | .st _,true=>some ⟨.one (.agg ((cs.drop o).take ti.size)),[],[]⟩
  | .ar _ _,true=>some ⟨.one (.agg ((cs.drop o).take ti.size)),[],[]⟩
  | .oth,_=>none
  | .st _,_=>none
  | .ar _ _,_=>none
  | _,_=>match cs[o]? with
   | some a=>pr a [] []
   | none=>none
 | _,_=>none
def AV.nZ (k:Nat):AV->Option PR
 | .ptr id o=>pr (.ptr id (o+k))
 | .elp id i o=>pr (.elp id i (o+k))
 | .fe s x o=>pr (.fe s x (o+k))
 | _=>none
def ki (T:List (Nat × TI)) (t:TypeId) (x:AV) (l h:Option Int):Option PR:=
 match x with
 | .fz s xs=>match TZ T t with
  | some s'=>match decide (s' = s) with
   | true=>match l,h with
    | some l,none=>pr (.fz s (xs.drop l.toNat)) [0<=l,l<=xs.length]
    | none,some h=>pr (.fz s (xs.take h.toNat)) [0<=h,h<=xs.length]
    | some l,some h=>pr (.fz s ((xs.drop l.toNat).take (h.toNat - l.toNat))) [0<=l,l<=h,h<=xs.length]
    | _,_=>none
   | false=>none
  | none=>none
 | .str s=>match aQ T t with
  | some ⟨.str,_,_⟩=>match l,h with
   | some l,none=>pr (.str ⟨s.b.drop l.toNat⟩) [0<=l,l<=s.b.length]
   | none,some h=>pr (.str ⟨s.b.take h.toNat⟩) [0<=h,h<=s.b.length]
   | some l,some h=>pr (.str ⟨(s.b.drop l.toNat).take (h.toNat - l.toNat)⟩) [0<=l,l<=h,h<=s.b.length]
   | _,_=>none
  | _=>none
 | _=>none
def TV1.cells:TV1->List AV
 | .c a=>[a]
 | .agg l=>l
def BF (fr:AFr):List Operand->Option (List TV1)
 | []=>some []
 | x :: r=>match cP fr x,BF fr r with
  | some (.one a),some l=>some (a :: l)
  | _,_=>none
def wJ (fr:AFr):List (Nat × Operand)->Option (List (Nat × TV1))
 | []=>some []
 | (i,x) :: r=>match cP fr x,wJ fr r with
  | some (.one a),some l=>some ((i,a) :: l)
  | _,_=>none
def over (l:List AV) (o:Nat) (cs:List AV):List AV:=l.take o++cs++l.drop (o+cs.length)
def kj (fs:List (Nat × Nat)):List AV->List (Nat × TV1)->Option (List AV)
 | z,[]=>some z
 | z,(i,v) :: r=>match fs[i]? with
  | some (o,n)=>match Nat.beq v.cells.length n && Nat.ble (o+n) z.length with
   | true=>kj fs (over z o v.cells) r
   | false=>none
  | none=>none
def lV:Nat->Nat->List (Nat × Nat)
 | _,0=>[]
 | k,n+1=>(k,1) :: lV (k+1) n
def kP:List TV1->Option (List (Nat × Nat))
 | []=>some []
 | .c (.ptr id o) :: r=>match kP r with
  | some l=>some ((id,o) :: l)
  | none=>none
 | _=>none
def AV.plain:AV->Bool
 | .int _=>true
 | .u8 _=>true
 | .u64 _=>true
 | .bool _=>true
 | .str _=>true
 | .em _=>true
 | .fz _ _=>true
 | .li _ _=>true
 | _=>false
def Ws (T:List (Nat × TI)) (e:TypeId):Option Sh:=match aQ T e with
 | some ⟨.i .i64,1,_⟩=>some .int
 | some ⟨.i .u8,1,_⟩=>some .u8
 | some ⟨.i .u64,1,_⟩=>some .u64
 | some ⟨.bool,1,_⟩=>some .bool
 | some ⟨.str,1,_⟩=>some .str
 | _=>none
def qZ (s:Sh):List AV->Option (List (den s))
 | []=>some []
 | a :: r=>match fT s [a],qZ s r with
  | some x,some l=>some (x :: l)
  | _,_=>none
def sG (s:Sh) (xs:List (den s)):Nat->Nat->List AV
 | _,0=>[]
 | k,n+1=>cellsOf s (xs.getD k (ao s))++sG s xs (k+1) n
def Iz (T:List (Nat × TI)) (t:TypeId) (cs:List AV):AO:=match aQ T t with
 | some ⟨.ar m e,_,_⟩=>match Ws T e with
  | some s=>match qZ s cs with
   | some xs=>match Nat.beq xs.length m && Nat.beq s.size 1 with
    | true=>.arr t s m xs
    | false=>.box t cs
   | none=>.box t cs
  | none=>.box t cs
 | _=>.box t cs
def qj (T:List (Nat × TI)) (H:AH) (t:TypeId) (x:AV):Option PR:=
 match x with
 | .ptr id o=>match getO H id with
  | .arr _ s n xs=>match aQ T t with
   | some ⟨.ar m _,sz,_⟩=>match Nat.beq o 0 && Nat.beq m n && Nat.beq sz n && Nat.beq s.size 1 with
    | true=>some ⟨.one (.agg (sG s xs 0 n)),[],[]⟩
    | false=>none
   | some ti=>match ti.k,Nat.beq s.size 1,cellsOf s (xs.getD o (ao s)) with
    | .st _,_,_=>none
    | .ar _ _,_,_=>none
    | .oth,_,_=>none
    | _,true,[a]=>pr a [o<n] a.ok
    | _,_,_=>none
   | none=>none
  | _=>none
 | _=>none
def Am (T:List (Nat × TI)) (e:TypeId):Bool:=match aQ T e with
 | some ⟨.ptr,1,[.np]⟩=>true
 | _=>false
def gL (T:List (Nat × TI)) (H:AH) (t:TypeId) (x:AV) (i:Int):Option PR:=
 match x,aQ T t with
 | .ptr id 0,some ⟨.ar m e,_,_⟩=>match getO H id,Ws T e with
  | .arr _ s n _,some _=>match Nat.beq m n && Nat.beq s.size 1 with
   | true=>pr (.ptr id i.toNat) [0<=i,i<n]
   | false=>none
  | _,_=>none
 | .xx .pl cs,some ⟨.sl e none,_,_⟩=>match Am T e,cs[i.toNat]? with
  | true,some q=>pr (.xx .pa [q]) [0<=i,i<cs.length]
  | _,_=>none
 | _,_=>none
def qb (g:Nat):List TabE->Option TabE
 | []=>none
 | e :: r=>bif Nat.beq g e.g then some e else qb g r
def sL (T:List (Nat × TI)) (t:TypeId) (x:Operand) (i:Int):Option PR:=
 match x with
 | .global g=>match qb g Qt,aQ T t with
  | some e,some ⟨.ar m el,_,_⟩=>match Ws T el with
   | some s=>match decide (s=e.s) && Nat.beq m e.xs.length with
    | true=>pr (.fe e.s (e.xs.getD i.toNat (ao e.s)) 0) [0<=i,i<m] (HK (cellsOf e.s (e.xs.getD i.toNat (ao e.s))))
    | false=>none
   | none=>none
  | _,_=>none
 | _=>none
def jY (T:List (Nat × TI)) (t:TypeId) (cs:List AV) (i:Int):Option PR:=
 match aQ T t with
 | some ⟨.ar m e,_,_⟩=>match Ws T e with
  | some s=>match qZ s cs with
   | some xs=>match Nat.beq xs.length m,cellsOf s (xs.getD i.toNat (ao s)) with
    | true,[a]=>pr a [0<=i,i<m] a.ok
    | _,_=>none
   | none=>none
  | none=>none
 | _=>none
structure SpecR where
 pre:List Prop:=[]
 rs:List TV1
 out:Option AH:=none        -- none: what is there stays asx it is
 keep:Bool:=false           -- what was there stays asx it is,and where it is
abbrev bD:=Nat->List TV1->AH->Option SpecR
def Zu (O:bD):Bool:=(O 1000000000 [] []).isSome
def Xh (a b:Int):Int:=IntKind.i64.wrap (a - b)
def Za (O:bD):Bool:=(O 1000000001 [] []).isSome
def Xj (a b:Int):Int:=IntKind.i64.wrap (a+b)
def WU (O:bD) (op:BinOp) (a b:AV):Option PR:=match Zu O,Za O,op,a,b with
 | true,_,.sub,.int x,.int y=>pr (.int (Xh x y))
 | _,true,.add,.int x,.int y=>pr (.int (Xj x y))
 | _,_,op,a,b=>Yy op a b
def AV.ids:AV->List Nat
 | .own i=>[i]
 | .sub i _ _=>[i]
 | .elp i _ _=>[i]
 | .ptr i _=>[i]
 | .fn _ b c=>b.map (·.1)++c.map (·.1)
 | .mq i=>[i]
 | .xx _ cs=>cs.map (·.1)
 | _=>[]
def vG:List AV->List Nat
 | []=>[]
 | a :: r=>a.ids++vG r
def pH:List TV1->List Nat
 | []=>[]
 | a :: r=>vG a.cells++pH r
def ML:List (Int × AV)->List Nat
 | []=>[]
 | (_,a) :: r=>a.ids++ML r
def AO.ids:AO->List Nat
 | .box _ cs=>vG cs
 | .mapf l=>ML l
 | _=>[]
def bQ (i:Nat):List Nat->Bool
 | []=>false
 | j :: r=>bif Nat.beq i j then true else bQ i r
def reach (H:AH):Nat->List Nat->List Nat->List Nat
 | 0,_,seen=>seen
 | _+1,[],seen=>seen
 | n+1,i :: r,seen=>bif bQ i seen then reach H n r seen else reach H n ((getO H i).ids++r) (seen++[i])
def posOf (i:Nat):List Nat->Nat
 | []=>0
 | j :: r=>bif Nat.beq i j then 0 else posOf i r+1
def Ky (f:Nat->Nat):List (Nat × Nat)->List (Nat × Nat)
 | []=>[]
 | (i,o) :: r=>(f i,o) :: Ky f r
def AV.ly (f:Nat->Nat):AV->AV
 | .own i=>.own (f i)
 | .sub i o l=>.sub (f i) o l
 | .elp i k o=>.elp (f i) k o
 | .ptr i o=>.ptr (f i) o
 | .fn g b c=>.fn g (Ky f b) (Ky f c)
 | .mq i=>.mq (f i)
 | .xx k cs=>.xx k (Ky f cs)
 | a=>a
def Mz (f:Nat->Nat):List AV->List AV
 | []=>[]
 | a :: r=>a.ly f :: Mz f r
def TV1.ly (f:Nat->Nat):TV1->TV1
 | .c a=>.c (a.ly f)
 | .agg l=>.agg (Mz f l)
def iC (f:Nat->Nat):List TV1->List TV1
 | []=>[]
 | a :: r=>a.ly f :: iC f r
def Sg (f:Nat->Nat):List (Int × AV)->List (Int × AV)
 | []=>[]
 | (k,a) :: r=>(k,a.ly f) :: Sg f r
def AO.ly (f:Nat->Nat):AO->AO
 | .box t cs=>.box t (Mz f cs)
 | .mapf l=>.mapf (Sg f l)
 | o=>o
def nQ (f:Nat->Nat):List AO->List AO
 | []=>[]
 | a :: r=>a.ly f :: nQ f r
def ER (H:AH):List AV->List AV
 | []=>[]
 | a :: r=>a.vw H :: ER H r
def TV1.vw (H:AH):TV1->TV1
 | .c a=>.c (a.vw H)
 | .agg l=>.agg (ER H l)
def GU (H:AH):List TV1->List TV1
 | []=>[]
 | a :: r=>a.vw H :: GU H r
def sJ (H:AH) (l:List TV1):List Nat:=reach H 64 (pH l) []
def kF (H:AH):List Nat->List AO
 | []=>[]
 | i :: r=>getO H i :: kF H r
def FU:List TV1->TV
 | [a]=>.one a
 | l=>.tup l
def po (σ:List Nat):List Nat->Bool
 | []=>true
 | i :: r=>bQ i σ && po σ r
def ko:List Nat->Bool
 | []=>true
 | i :: r=>!bQ i r && ko r
def gu (H:AH) (σ:List Nat):List Nat->Bool
 | []=>true
 | i :: r=>Nat.blt i H.length && po σ (getO H i).ids && gu H σ r
def Sh.gy:Sh->List Sh
 | .lst s=>[s]
 | .lx=>[.int]
 | .nm t=>t.gy
 | _=>[]
def iT (f:Sh->Bool):List Sh->Bool
 | []=>true
 | s :: r=>f s && iT f r
def Sh.no:Nat->Sh->Sh->Bool
 | 0,_,_=>false
 | n+1,b,s=>!decide (s=b) && iT (Sh.no n b) s.gy
def AV.no (b:Sh):AV->Bool
 | .fz s _=>Sh.no 5 b s
 | .li _ _=>Sh.no 5 b .int
 | .fe _ _ _=>false
 | .xx k _=>match k with
  | .er _=>true
  | .bp=>true
  | .ff _ _=>true
  | .w _=>true
  | .kf _=>true
  | _=>false
 | _=>true
def Zh (b:Sh):List AV->Bool
 | []=>true
 | a :: r=>a.no b && Zh b r
def ZE (b:Sh):List TV1->Bool
 | []=>true
 | a :: r=>Zh b a.cells && ZE b r
def eC:List AV->List Nat
 | []=>[]
 | .own i :: r=>i :: eC r
 | .sub i _ _ :: r=>i :: eC r
 | _ :: r=>eC r
def fy:List TV1->List Nat
 | []=>[]
 | a :: r=>eC a.cells++fy r
def eZ (H:AH):List Nat->List Sh
 | []=>[]
 | i :: r=>match getO H i with
  | .row _ s _=>s :: eZ H r
  | _=>eZ H r
def oG (σ:List Nat):List Nat->Bool
 | []=>true
 | i :: r=>!bQ i σ && oG σ r
def nR (H:AH):List Nat->Bool
 | []=>true
 | i :: r=>(match getO H i with
  | .row _ _ _=>true
  | _=>false) && nR H r
def Fb (O:bD) (H:AH) (f:Nat) (args:List TV1):Option PR:=
 match sJ H (GU H args) with
 | σ=>match ko σ && po σ (pH (GU H args)) && gu H σ σ && oG σ (fy args) && nR H (fy args) with
  | true=>match O f (iC (posOf · σ) (GU H args)) (nQ (posOf · σ) (kF H σ)) with
   | some ⟨pre,rs,none,_⟩=>match iT (fun b=>ZE b rs) (eZ H (fy args)) with
    | true=>some ⟨FU (iC (fun j=>σ.getD j 0) rs),pre,Ho rs⟩
    | false=>none
   | _=>none
  | false=>none
variable (T:List (Nat × TI)) (O:bD)
def gW (fr:AFr) (c:Call):Option (Nat × List TV1):=
 match c.callee with
 | .value f=>match cP fr f,BF fr c.args.toList with
  | some (.one (.c (.fn g b cs))),some l=>some (g,b.map (fun q=>.c (.ptr q.1 q.2))++(l++cs.map (fun q=>.c (.ptr q.1 q.2))))
  | some (.one (.c (.xx (.kf x) []))),some l=>match x with
   | .f g=>some (g,l)
   | _=>none
  | _,_=>none
 | _=>none
def Sh.oc:Sh->Bool
 | .nm _=>true
 | _=>false
def II (s:Sh) (x:den s):TV1:=bif s.oc then .agg (cellsOf s x) else match cellsOf s x with
 | [a]=>.c a
 | l=>.agg l
def XV (O:bD):Bool:=(O 1000000002 [] []).isSome
def Zs (n:Int):UInt8:=UInt8.ofNat (n % 256).toNat
def KN (O:bD) (H:AH) (s t:TK) (x:AV):Option PR:=match XV O,s,t,x with
 | true,.i .i64,.i .u8,.int n=>pr (.u8 (Zs n))
 | _,s,t,x=>Mt H s t x
def erA (T:List (Nat × TI)) (op:BinOp) (t:TypeId) (x:Option TV):Operand->Option PR
 | .const .nilIface=>match aQ T t,x with
  | some ⟨.ifc,_,_⟩,some (.one (.c (.xx (.er b) [])))=>match op with
   | .eql=>pr (.bool (.atom b))
   | .neq=>pr (.bool (.not (.atom b)))
   | _=>none
  | _,_=>none
 | _=>none
def ri:Nat->List (Nat × TV1)->Option (List (Nat × Nat))
 | _,[]=>some []
 | k,(i,.c (.ptr id o)) :: r=>match Nat.beq i k,ri (k+1) r with
  | true,some l=>some ((id,o) :: l)
  | _,_=>none
 | _,_=>none
def Jj (T:List (Nat × TI)) (t:TypeId) (x y:Option TV) (ok:Bool):Option PR:=
 match aQ T t,x,y with
 | some ⟨.ms _ _,_,_⟩,some (.one (.c (.xx (.fm f) []))),some (.one (.c (.str s)))=>match ok with
  | false=>pr (.int ((f s).getD 0))
  | true=>none
 | _,_,_=>none
def pvB (H:AH) (fr:AFr):Op->Option PR
 | .move x=>match cP fr x with
  | some v=>some ⟨v,[],[]⟩
  | none=>none
 | .assign x=>match cP fr x with
  | some v=>some ⟨v,[],[]⟩
  | none=>none
 | .unOp .not _ x=>match cP fr x with
  | some (.one (.c (.bool e)))=>pr (.bool e.neg)
  | _=>none
 | .binOp op t x y _=>match cP fr x,cP fr y with
  | some (.one (.c a)),some (.one (.c b))=>match NK T t a with
   | true=>WU O op a b
   | false=>erA T op t (some (.one (.c a))) y
  | some (.one (.agg a)),some (.one (.agg b))=>eqG T op t a b
  | _,_=>none
 | .extract x i=>match cP fr x with
  | some (.tup l)=>match l[i]? with
   | some a=>some ⟨.one a,[],[]⟩
   | none=>none
  | _=>none
 | .nilCheck x=>match cP fr x with
  | some (.one (.c a))=>match a with
   | .ptr _ _=>pr a
   | .elp _ _ _=>pr a
   | .fe _ _ _=>pr a
   | .fn _ _ _=>pr a
   | _=>none
  | _=>none
 | .convert s t x=>match aQ T s,aQ T t,cP fr x with
  | some a,some b,some (.one (.c v))=>KN O H a.k b.k v
  | _,_,_=>none
 | .makeFunc (.func f) b c=>match b.toList,BF fr c.toList with
  | [],some cs=>match kP cs with
   | some cp=>pr (.fn f [] cp)
   | none=>none
  | _,_=>none
 | .fieldAddr t x i=>match aQ T t,cP fr x with
  | some ⟨.st fs,_,_⟩,some (.one (.c a))=>match fs[i]? with
   | some (o,_)=>a.nZ o
   | none=>none
  | _,_=>none
 | .load t x=>match cP fr x with
  | some (.one (.c a))=>match qj T H t a with
   | some r=>some r
   | none=>CG T H t a
  | _=>none
 | .indexAddr t x y=>match cP fr x,cP fr y,TZ T t with
  | some (.one (.c a)),some (.one (.c b)),some s=>match b.ix with
   | some i=>sj H s a i
   | none=>none
  | some (.one (.c a)),some (.one (.c b)),none=>match b.ix with
   | some i=>gL T H t a i
   | none=>none
  | none,some (.one (.c b)),none=>match b.ix with
   | some i=>sL T t x i
   | none=>none
  | _,_,_=>none
 | .index t x y=>match cP fr x,cP fr y with
  | some (.one (.c (.str s))),some (.one (.c b))=>match b.ix with
   | some i=>match aQ T t with
    | some ⟨.str,_,_⟩=>pr (.u8 (s.b.getD i.toNat 0)) [0<=i,i<s.b.length]
    | _=>none
   | none=>none
  | some (.one (.agg cs)),some (.one (.c b))=>match b.ix with
   | some i=>jY T t cs i
   | none=>none
  | _,_=>none
 | .lookup t x y ok=>match aQ T t,cP fr x,cP fr y with
  | some ⟨.mp _ _ (some s),_,_⟩,some (.one (.c (.mq id))),some (.one (.c (.int k)))=>match getO H id with
   | .mapo s' f=>if h:s' = s then (match ok with
    | false=>some ⟨.one (II s ((h ▸ f k:Option (den s)).getD (ao s))),[],[]⟩
    | true=>some ⟨.tup [II s ((h ▸ f k:Option (den s)).getD (ao s)),.c (.bool (.atom (f k).isSome))],[],[]⟩) else none
   | _=>none
  | _,x,y=>Jj T t x y ok
 | .buildSlice t n parts=>match aQ T t,wJ fr parts.toList with
  | some ⟨.sl e none,_,_⟩,some l=>match ri 0 l with
   | some cs=>match Nat.beq cs.length n && Am T e && Nat.ble n 16777216 with
    | true=>pr (.xx .pl cs)
    | false=>none
   | none=>none
  | _,_=>none
 | .build t parts=>match aQ T t,wJ fr parts.toList with
  | some ⟨.st fs,_,z⟩,some l=>match kj fs z l with
   | some cs=>some ⟨.one (.agg cs),[],[]⟩
   | none=>none
  | some ⟨.ar m e,_,z⟩,some l=>match Ws T e,kj (lV 0 m) z l with
   | some _,some cs=>some ⟨.one (.agg cs),[],[]⟩
   | _,_=>none
  | _,_=>none
 | .slice t x l h none=>match cP fr x with
  | some (.one (.c a))=>match l,h with
   | none,none=>none
   | some l,none=>match cP fr l with
    | some (.one (.c (.int l)))=>ki T t a (some l) none
    | _=>none
   | none,some h=>match cP fr h with
    | some (.one (.c (.int h)))=>ki T t a none (some h)
    | _=>none
   | some l,some h=>match cP fr l,cP fr h with
    | some (.one (.c (.int l))),some (.one (.c (.int h)))=>ki T t a (some l) (some h)
    | _,_=>none
  | _=>none
 | .call c=>match c.callee with
  | .builtin .len=>match c.args.toList,c.argTypes.toList with
   | [x],[t]=>match cP fr x with
    | some (.one (.c a))=>match VC T H t a with
     | some n=>pr (.int n)
     | none=>none
    | _=>none
   | _,_=>none
  | .builtin .min=>match c.args.toList with
   | [x,y]=>match cP fr x,cP fr y with
    | some (.one (.c (.int a))),some (.one (.c (.int b)))=>pr (.int (min a b))
    | some (.one (.c (.u64 a))),some (.one (.c (.u64 b)))=>pr (.u64 (min a b))
    | _,_=>none
   | _=>none
  | .builtin .max=>match c.args.toList with
   | [x,y]=>match cP fr x,cP fr y with
    | some (.one (.c (.int a))),some (.one (.c (.int b)))=>pr (.int (max a b))
    | _,_=>none
   | _=>none
  | .value _=>match gW fr c with
   | some (f,l)=>Fb O H f l
   | none=>none
  | _=>none
 | _=>none
def wOp (op:BinOp) (a b:Nat):Option PR:=match op with
 | .eql=>pr (.bool (.eq a b))
 | .neq=>pr (.bool (.not (.eq a b)))
 | .add=>pr (.xx (.w ((a+b) % 4294967296)) [])
 | .mul=>pr (.xx (.w ((a*b) % 4294967296)) [])
 | .rem=>pr (.xx (.w (a % b)) []) [0<b]
 | .quo=>pr (.xx (.w (a / b)) []) [0<b]
 | .or=>pr (.xx (.w (a ||| b)) [])
 | _=>none
def wSh (op:BinOp) (a b:Nat):Option PR:=match op with
 | .shl=>pr (.xx (.w ((a*2 ^ b) % 4294967296)) []) [b<32]
 | .shr=>pr (.xx (.w (a / 2 ^ b)) []) [b<32]
 | _=>none
def iSh (op:BinOp) (a:Int) (b:Nat):Option PR:=match op with
 | .shr=>pr (.int ((a.toNat / 2 ^ b:Nat):Int)) [0<=a,b<64]
 | _=>none
def dA:List (Int × List KC)->Int->Option (List KC)
 | [],_=>none
 | (j,cs) :: r,k=>if k=j then some cs else dA r k
def KC.int:KC->Int
 | .i n=>n
 | _=>0
def KC.bool:KC->Bool
 | .b v=>v
 | _=>false
def Cp (cs:List KC):Nat->List KC->List AV
 | _,[]=>[]
 | i,.i _ :: r=>.int ((cs.getD i .nf).int) :: Cp cs (i+1) r
 | i,.b _ :: r=>.bool (.atom ((cs.getD i .nf).bool)) :: Cp cs (i+1) r
 | i,_ :: r=>.xx (.kf (cs.getD i .nf)) [] :: Cp cs (i+1) r
def HN:List KC->List KC->Bool
 | [],[]=>true
 | .i _ :: r,.i n :: l=>decide (-9223372036854775808<=n) && decide (n<=9223372036854775807) && HN r l
 | .b _ :: r,.b _ :: l=>HN r l
 | .f _ :: r,.f _ :: l=>HN r l
 | .f _ :: r,.nf :: l=>HN r l
 | .nf :: r,.f _ :: l=>HN r l
 | .nf :: r,.nf :: l=>HN r l
 | _,_=>false
def Zy (z:List KC):List (Int × List KC)->Bool
 | []=>HN z z
 | (_,cs) :: r=>HN z cs && Zy z r
def VL:List (Nat × Nat):=[(201,0),(201,1),(201,2),(201,3),(201,4),(201,5),(48,0),(48,1),(48,2),(48,3),(48,4),(48,5),(48,6),(48,7),(48,8)]
def Kf (t i:Nat):List (Nat × Nat)->Bool
 | []=>false
 | (a,b) :: r=>(Nat.beq t a && Nat.beq i b) || Kf t i r
def w_ (T:List (Nat × TI)) (t:TypeId) (x:AV) (l h m:Int):Option PR:=
 match x with
 | .fz s xs=>match TZ T t with
  | some s'=>match decide (s' = s) with
   | true=>pr (.fz s ((xs.drop l.toNat).take (h.toNat - l.toNat))) [0<=l,l<=h,h<=m,m<=xs.length]
   | false=>none
  | none=>none
 | _=>none
def npE (T:List (Nat × TI)) (t:TypeId) (op:BinOp) (b:Bool):Option PR:=match op,aQ T t with
 | .eql,some ⟨.ptr,_,_⟩=>pr (.bool (.lit b))
 | .neq,some ⟨.ptr,_,_⟩=>pr (.bool (.lit (!b)))
 | _,_=>none
def pvX (H:AH) (fr:AFr):Op->Option PR
 | .binOp op t x y _=>match cP fr x,cP fr y with
  | some (.one (.c (.ptr _ _))),some (.one (.c .np))=>npE T t op false
  | some (.one (.c .np)),some (.one (.c .np))=>npE T t op true
  | some (.one (.c (.xx (.w a) []))),some (.one (.c (.xx (.w b) [])))=>wOp op a b
  | some (.one (.c (.xx (.w a) []))),some (.one (.c (.u64 b)))=>wSh op a b
  | some (.one (.c (.int a))),some (.one (.c (.u64 b)))=>iSh op a b
  | _,_=>none
 | .convert s t x=>match aQ T s,aQ T t,cP fr x with
  | some ⟨.i .u8,_,_⟩,some ⟨.i .u32,_,_⟩,some (.one (.c (.u8 b)))=>pr (.xx (.w b.toNat) [])
  | some ⟨.i .u32,_,_⟩,some ⟨.i .u8,_,_⟩,some (.one (.c (.xx (.w n) [])))=>pr (.u8 (UInt8.ofNat n))
  | _,_,_=>none
 | .lookup t x y ok=>match aQ T t,cP fr x,cP fr y with
  | some ⟨.mg _ _ z,_,_⟩,some (.one (.c (.xx (.km l) []))),some (.one (.c (.int k)))=>match Zy z l,ok with
   | true,false=>some ⟨.one (.agg (Cp ((dA l k).getD z) 0 z)),[],[]⟩
   | true,true=>some ⟨.tup [.agg (Cp ((dA l k).getD z) 0 z),.c (.bool (.atom (dA l k).isSome))],[],[]⟩
   | _,_=>none
  | _,_,_=>none
 | .field t x i=>match aQ T t,cP fr x,Kf t i VL with
  | some ⟨.st fs,_,_⟩,some (.one (.agg cs)),true=>match fs[i]? with
   | some (o,_)=>match cs[o]? with
    | some a=>pr a
    | none=>none
   | none=>none
  | _,_,_=>none
 | .makeFunc (.func f) b c=>match BF fr b.toList,BF fr c.toList with
  | some bs,some cs=>match kP bs,kP cs with
   | some bp,some cp=>pr (.fn f bp cp)
   | _,_=>none
  | _,_=>none
 | .indexAddr t x y=>match cP fr x,cP fr y,aQ T t with
  | some (.one (.c (.ptr id 0))),some (.one (.c (.int i))),some ⟨.ar m e,_,_⟩=>match getO H id,aQ T e with
   | .box _ cs,some ⟨.i .u32,1,_⟩=>match Nat.beq cs.length m with
    | true=>pr (.ptr id i.toNat) [0<=i,i<m]
    | false=>none
   | _,_=>none
  | _,_,_=>none
 | .slice t x (some l) (some h) (some m)=>match cP fr x,cP fr l,cP fr h,cP fr m with
  | some (.one (.c a)),some (.one (.c (.int l))),some (.one (.c (.int h))),some (.one (.c (.int m)))=>w_ T t a l h m
  | _,_,_,_=>none
 | .slice t x none (some h) (some m)=>match cP fr x,cP fr h,cP fr m with
  | some (.one (.c a)),some (.one (.c (.int h))),some (.one (.c (.int m)))=>w_ T t a 0 h m
  | _,_,_=>none
 | .build t parts=>match aQ T t,wJ fr parts.toList with
  | some ⟨.ar m e,_,z⟩,some l=>match aQ T e,kj (lV 0 m) z l with
   | some ⟨.i .u32,1,_⟩,some cs=>some ⟨.one (.agg cs),[],[]⟩
   | _,_=>none
  | _,_=>none
 | _=>none
def pv (H:AH) (fr:AFr) (op:Op):Option PR:=match pvB T O H fr op with
 | some r=>some r
 | none=>pvX T H fr op
end Go.Proofs.YticbaadnibdbkaaGreat
namespace Go.Proofs.YticbaadnibdbkaaGreat
open Go.RowKit
structure Lv where
 wr:Nat->Bool
 mv:Nat->Bool
def gz (k:Nat):Lv:=⟨Nat.ble k,Nat.ble k⟩
def AV.kill (i:Nat):AV->AV
 | .own j=>bif Nat.beq i j then .dead else .own j
 | .sub j o l=>bif Nat.beq i j then .dead else .sub j o l
 | .elp j k o=>bif Nat.beq i j then .dead else .elp j k o
 | a=>a
def AV.Ht (H:AH) (i:Nat):AV->AV
 | .own j=>bif Nat.beq i j then (AV.own j).vw H else .own j
 | .sub j o k=>bif Nat.beq i j then (AV.sub j o k).vw H else .sub j o k
 | .elp j k o=>bif Nat.beq i j then .dead else .elp j k o
 | a=>a
def qN (g:AV->AV):List AV->List AV
 | []=>[]
 | a :: r=>g a :: qN g r
def TV1.mapA (g:AV->AV):TV1->TV1
 | .c a=>.c (g a)
 | .agg l=>.agg (qN g l)
def wO (g:AV->AV):List TV1->List TV1
 | []=>[]
 | a :: r=>a.mapA g :: wO g r
def TV.mapA (g:AV->AV):TV->TV
 | .one t=>.one (t.mapA g)
 | .tup l=>.tup (wO g l)
 | .un=>.un
def iU (g:AV->AV):AFr->AFr
 | []=>[]
 | (i,v) :: r=>(i,v.mapA g) :: iU g r
def mapM (g:AV->AV):List (Int × AV)->List (Int × AV)
 | []=>[]
 | (k,a) :: r=>(k,g a) :: mapM g r
def AO.mapA (g:AV->AV):AO->AO
 | .box t cs=>.box t (qN g cs)
 | .mapf l=>.mapf (mapM g l)
 | o=>o
def ic (g:AV->AV):AH->AH
 | []=>[]
 | o :: r=>o.mapA g :: ic g r
structure SR where
 v:TV
 fr:AFr
 H:AH
 ob:List Prop:=[]
 fc:List Prop:=[]
def nt (s:Sh):TV1->Bool
 | .agg _=>s.oc
 | .c _=>!s.oc
def iA (ro:Lv):List Nat->AFr->AH->Option (AFr × AH)
 | [],fr,H=>some (fr,H)
 | i :: l,fr,H=>match getO H i with
  | .row _ _ _=>match ro.mv i && ro.wr i with
   | true=>iA ro l (iU (AV.Ht H i) fr) ((ic (AV.Ht H i) H).set i .gone)
   | false=>none
  | _=>iA ro l fr H
def kU (ro:Lv) (fr:AFr) (H:AH) (e:TypeId) (s:Sh) (ys:List (den s)) (x:AV):Option SR:=
 match x with
 | .em _=>some ⟨one (.own H.length),fr,H++[.row e s ys],[ys.length*s.bytes<=140737488355328],[]⟩
 | .own id=>match getO H id with
  | .row e' s' xs=>if h:s' = s then (match ro.mv id && ro.wr id && Nat.beq e' e with
   | true=>some ⟨one (.own id),iU (AV.kill id) fr,(ic (AV.kill id) H).set id (.row e s ((h ▸ xs:List (den s))++ys)),[(xs.length+ys.length)*s.bytes<=140737488355328],[]⟩
   | false=>none) else none
  | _=>none
 | .sub id 0 len=>match getO H id with
  | .row e' s' xs=>if h:s' = s then (match ro.mv id && ro.wr id && Nat.beq e' e with
   | true=>some ⟨one (.own id),iU (AV.kill id) fr,(ic (AV.kill id) H).set id (.row e s ((h ▸ xs:List (den s)).take len++ys)),[(len+ys.length)*s.bytes<=140737488355328],[]⟩
   | false=>none) else none
  | _=>none
 | _=>none
def jo (T:List (Nat × TI)) (ro:Lv) (fr:AFr) (H:AH) (t:TypeId) (x y:AV):Option SR:=
 match aQ T t with
 | some ⟨.sl e (some s),_,_⟩=>match (y.vw H).fC s with
  | some ys=>kU ro fr H e s ys x
  | none=>none
 | _=>none
def wF (T:List (Nat × TI)) (ro:Lv) (fr:AFr) (H:AH) (t t':TypeId) (x y:AV):Option SR:=
 match aQ T t,aQ T t',y with
 | some ⟨.sl e (some .u8),_,_⟩,some ⟨.str,_,_⟩,.str s=>kU ro fr H e .u8 s.b x
 | _,_,_=>none
def BN (ro:Lv) (fr:AFr) (H:AH) (x:AV) (v:TV1):Option SR:=
 match x with
 | .ptr id o=>match getO H id with
  | .box t cs=>match ro.wr id && Nat.ble (o+v.cells.length) cs.length with
   | true=>some ⟨.un,fr,H.set id (.box t (over cs o v.cells)),[],[]⟩
   | false=>none
  | .arr t s n xs=>match ro.wr id && Nat.beq s.size 1,v.cells with
   | true,[a]=>match a.plain,fT s [a] with
    | true,some x'=>some ⟨.un,fr,H.set id (.arr t s n (xs.set o x')),[o<n],[]⟩
    | _,_=>none
   | true,_=>match Nat.beq o 0,qZ s v.cells with
    | true,some l=>match Nat.beq l.length n with
     | true=>some ⟨.un,fr,H.set id (.arr t s n l),[],[]⟩
     | false=>none
    | _,_=>none
   | _,_=>none
  | _=>none
 | .elp id i o=>match getO H id with
  | .row t s xs=>match ro.wr id && Nat.ble (o+v.cells.length) s.size && !bQ id (eC v.cells),fT s (over (cellsOf s (xs.getD i (ao s))) o (ER H v.cells)),iA ro (eC v.cells) fr H with
   | true,some x',some q=>some ⟨.un,q.1,q.2.set id (.row t s (xs.set i x')),[],[]⟩
   | _,_,_=>none
  | _=>none
 | _=>none
def qB (s:Sh) (H:AH):List (Nat × TV1)->Nat->Option (List (den s))
 | [],_=>some []
 | (i,v) :: r,k=>match Nat.beq i k,fT s (ER H v.cells),qB s H r (k+1) with
  | true,some x,some l=>some (x :: l)
  | _,_,_=>none
def BD:List (Nat × TV1)->List Nat
 | []=>[]
 | (_,v) :: r=>eC v.cells++BD r
def l_ (f:Nat->AO):List Nat->AH->AH
 | [],H=>H
 | i :: r,H=>l_ f r (H.set i (f i))
def AV.bY (l:List Nat):AV->AV
 | .own j=>bif bQ j l then .dead else .own j
 | .sub j o k=>bif bQ j l then .dead else .sub j o k
 | .elp j k o=>bif bQ j l then .dead else .elp j k o
 | a=>a
def rowsOf (H:AH):List Nat->List Nat
 | []=>[]
 | i :: r=>match getO H i with
  | .row _ _ _=>i :: rowsOf H r
  | .loc=>i :: rowsOf H r
  | _=>rowsOf H r
def yQ (ro:Lv):List Nat->Bool
 | []=>true
 | i :: r=>ro.wr i && ro.mv i && yQ ro r
def noM (b:Sh):List (Int × AV)->Bool
 | []=>true
 | (_,a) :: r=>a.no b && noM b r
def sC (b:Sh):List AO->Bool
 | []=>true
 | .box _ cs :: r=>Zh b cs && sC b r
 | .row _ s _ :: r=>iT (Sh.no 5 b) s.gy && sC b r
 | .gone :: r=>sC b r
 | .mapo s _ :: r=>iT (Sh.no 5 b) s.gy && sC b r
 | .arr _ s _ _ :: r=>iT (Sh.no 5 b) s.gy && sC b r
 | .mapf l :: r=>noM b l && sC b r
 | .loc :: r=>sC b r
def fK (H:AH) (σ:List Nat) (j:Nat):Nat:=bif Nat.ble σ.length j then H.length+(j - σ.length) else σ.getD j 0
def Eg (O:bD) (ro:Lv) (fr:AFr) (H:AH) (f:Nat) (a:List TV1) (lent:List Nat):Option SR:=
 match sJ H a with
 | σ=>match ko σ && po σ (pH a) && gu H σ σ && oG σ lent && yQ ro σ with
  | true=>match O f (iC (posOf · σ) a) (nQ (posOf · σ) (kF H σ)) with
   | some ⟨pre,rs,some H',_⟩=>match Nat.ble σ.length H'.length && iT (fun b=>ZE b rs && sC b H') (eZ H lent) with
    | true=>some ⟨FU (iC (fK H σ) rs),iU (AV.bY (rowsOf H σ)) fr,l_ (fun i=>(H'.getD (posOf i σ) .gone).ly (fK H σ)) σ (ic (AV.bY (rowsOf H σ)) H)++nQ (fK H σ) (H'.drop σ.length),pre,Ho rs⟩
    | false=>none
   | _=>none
  | false=>none
def Lq (O:bD) (fr:AFr) (H:AH) (f:Nat) (a:List TV1):Option SR:=
 match sJ H a with
 | σ=>match ko σ && po σ (pH a) && gu H σ σ with
  | true=>match O f (iC (posOf · σ) a) (nQ (posOf · σ) (kF H σ)) with
   | some ⟨pre,rs,some H',true⟩=>match Nat.ble σ.length H'.length with
    | true=>some ⟨FU (iC (fK H σ) rs),fr,H++nQ (fK H σ) (H'.drop σ.length),pre,Ho rs⟩
    | false=>none
   | _=>none
  | false=>none
def NY (O:bD) (ro:Lv) (fr:AFr) (H:AH) (f:Nat) (args:List TV1):Option SR:=
 match Lq O fr H f args with
 | some r=>some r
 | none=>match nR H (fy args),Eg O ro fr H f (GU H args) (fy args) with
 | true,some r=>some r
 | _,_=>Eg O ro fr H f args []
def KZ (T:List (Nat × TI)) (ro:Lv) (fr:AFr) (H:AH) (t:TypeId) (x y z:Operand):Option SR:=
 match aQ T t,cP fr x,cP fr y,cP fr z with
 | some ⟨.mp _ _ (some s),_,_⟩,some (.one (.c (.mq id))),some (.one (.c (.int k))),some (.one v)=>match getO H id with
  | .mapo s' f=>if h:s' = s then (match ro.wr id && nt s v && !bQ id (eC v.cells),fT s (ER H v.cells),iA ro (eC v.cells) fr H with
   | true,some x',some q=>some ⟨.un,q.1,q.2.set id (.mapo s fun j=>if j=k then some x' else (h ▸ f:Int->Option (den s)) j),[],[]⟩
   | _,_,_=>none) else none
  | _=>none
 | _,_,_,_=>none
def KR (T:List (Nat × TI)) (ro:Lv) (fr:AFr) (H:AH) (t:TypeId) (x y z:Operand):Option SR:=
 match aQ T t,cP fr x,cP fr y,cP fr z with
 | some ⟨.mp _ _ none,_,_⟩,some (.one (.c (.mq id))),some (.one (.c (.int k))),some (.one (.c a))=>match getO H id with
  | .mapf l=>match ro.wr id with
   | true=>some ⟨.un,fr,H.set id (.mapf ((k,a) :: l)),[],[]⟩
   | false=>none
  | _=>none
 | _,_,_,_=>none
def CW (T:List (Nat × TI)) (ro:Lv) (fr:AFr) (H:AH) (t:TypeId) (x y z:Operand):Option SR:=match KZ T ro fr H t x y z with
 | some r=>some r
 | none=>KR T ro fr H t x y z
def MI (O:bD) (ro:Lv) (fr:AFr) (H:AH) (c:Call) (l:List TV1):Option SR:=match iA ro (fy l) fr H with
 | some q=>match gW q.1 c with
  | some (f,l')=>match Fb O q.2 f l' with
   | some r=>some ⟨r.v,q.1,q.2,r.ob,r.fc⟩
   | none=>none
  | none=>none
 | none=>none
variable (T:List (Nat × TI)) (O:bD) (ro:Lv)
def svB (fr:AFr) (H:AH):Op->Option SR
  | .box t x=>match cP fr x with
    | some (.one v)=>some ⟨one (.ptr H.length 0),fr,H++[Iz T t v.cells],[],[]⟩
    | _=>none
  | .alloc t=>match aQ T t with
    | some ti=>some ⟨one (.ptr H.length 0),fr,H++[Iz T t ti.zero],[],[]⟩
    | none=>none
  | .store t x v=>match cP fr x,cP fr v,aQ T t with
    | some (.one (.c a)),some (.one b),some ti=>match Nat.beq ti.size b.cells.length with
      | true=>BN ro fr H a b
      | false=>none
    | _,_,_=>none
  | .buildSlice t n parts=>match aQ T t,wJ fr parts.toList with
    | some ⟨.sl e (some s),_,_⟩,some l=>match qB s H l 0,iA ro (BD l) fr H with
      | some xs,some q=>match Nat.beq xs.length n && Nat.ble (n*s.size) 16777216 && Nat.ble (n*s.bytes) 140737488355328 with
        | true=>match n with
          | 0=>some ⟨one (.em false),fr,H,[],[]⟩
          | _=>some ⟨one (.own q.2.length),q.1,q.2++[.row e s xs],[],[]⟩
        | false=>none
      | _,_=>none
    | _,_=>none
  | .makeMap t none=>match aQ T t with
    | some ⟨.mp _ _ (some s),_,_⟩=>some ⟨one (.mq H.length),fr,H++[.mapo s fun _=>none],[],[]⟩
    | some ⟨.mp _ _ none,_,_⟩=>some ⟨one (.mq H.length),fr,H++[.mapf []],[],[]⟩
    | _=>none
  | .insert t x y z=>CW T ro fr H t x y z
  | .mapUpdate t x y z=>CW T ro fr H t x y z
  | .makeSlice t n m=>match aQ T t,cP fr n,cP fr m with
    | some ⟨.sl e (some s),_,_⟩,some (.one (.c (.int k))),some (.one (.c (.int k')))=>match Nat.beq s.size 1 with
     | true=>some ⟨one (.own H.length),fr,H++[.row e s (List.replicate k.toNat (ao s))],[0<=k,k*s.bytes<=140737488355328,k' = k],[]⟩
     | false=>none
    | _,_,_=>none
  | .slice t x lo hi mx=>match cP fr x with
    | some (.one (.c (.own i)))=>match iA ro [i] fr H with
      | some q=>match pv T O q.2 q.1 (.slice t x lo hi mx) with
        | some r=>some ⟨r.v,q.1,q.2,r.ob,r.fc⟩
        | none=>none
      | none=>none
    | _=>none
  | .call c=>match c.callee with
    | .builtin .append=>match c.args.toList,c.argTypes.toList with
      | [x,y],[t,t']=>match Nat.beq t t',cP fr x,cP fr y with
        | true,some (.one (.c a)),some (.one (.c b))=>jo T ro fr H t a b
        | false,some (.one (.c a)),some (.one (.c b))=>wF T ro fr H t t' a b
        | _,_,_=>none
      | _,_=>none
    | .value _=>match gW fr c with
      | some (f,l)=>match NY O ro fr H f l with
        | some r=>some r
        | none=>MI O ro fr H c l
      | none=>none
    | _=>none
  | _=>none
def aae (O:bD):Bool:=(O 1000000003 [] []).isSome
def YQ (ro:Lv) (fr:AFr) (H:AH) (x:AV) (h:Int):Option SR:=
 match x with
 | .own id=>match getO H id with
  | .row e s xs=>match ro.mv id && ro.wr id with
   | true=>some ⟨one (.own id),iU (AV.kill id) fr,(ic (AV.kill id) H).set id (.row e s (xs.take h.toNat)),[0<=h,h<=xs.length],[]⟩
   | false=>none
  | _=>none
 | _=>none
def MQ (T:List (Nat × TI)) (ro:Lv) (H:AH) (t t':TypeId) (x y:AV):Option SR:=
 match x,aQ T t,aQ T t' with
 | .own id,some ⟨.sl _ (some s),_,_⟩,some ⟨.sl _ _,_,_⟩=>match getO H id,(y.vw H).fC s,eC [y] with
  | .row e s' xs,some ys,l=>if h:s' = s then (match ro.wr id && !bQ id l with
   | true=>some ⟨one (.int (min ys.length xs.length:Nat)),[],H.set id (.row e s (ys.take xs.length++(h ▸ xs:List (den s)).drop ys.length)),[],[]⟩
   | false=>none) else none
  | _,_,_=>none
 | _,_,_=>none
def svX (fr:AFr) (H:AH):Op->Option SR
 | .call c=>match c.callee with
  | .builtin .copy=>match c.args.toList,c.argTypes.toList with
   | [x,y],[t,t']=>match cP fr x,cP fr y with
    | some (.one (.c a)),some (.one (.c b))=>match MQ T ro H t t' a b with
     | some r=>some ⟨r.v,fr,r.H,r.ob,r.fc⟩
     | none=>none
    | _,_=>none
   | _,_=>none
  | _=>none
 | _=>none
def svC (fr:AFr) (H:AH):Op->Option SR
  | .slice t x none (some h) none=>match aae O,cP fr x,cP fr h,aQ T t with
    | true,some (.one (.c a)),some (.one (.c (.int h))),some ⟨.sl _ (some _),_,_⟩=>YQ ro fr H a h
    | _,_,_,_=>none
  | .makeSlice t (.const (.int .i64 0)) (.tmp m)=>match aQ T t,cP fr (.tmp m) with
    | some ⟨.sl e (some s),_,_⟩,some (.one (.c (.int k)))=>match Nat.beq s.size 1 with
     | true=>some ⟨one (.own H.length),fr,H++[.row e s []],[0<=k,k*s.bytes<=140737488355328],[]⟩
     | false=>none
    | _,_=>none
  | _=>none
def sv (fr:AFr) (H:AH) (op:Op):Option SR:=match svC T O ro fr H op with
 | some r=>some r
 | none=>match svB T O ro fr H op with
  | some r=>some r
  | none=>svX T ro fr H op
def iQ:List Prop->Prop
 | []=>True
 | [p]=>p
 | p :: q :: l=>p/\iQ (q :: l)
def same (b:Bool):List Prop:=bif b then [] else [False]
def tq:List Prop->Prop->Prop
 | [],R=>R
 | p :: l,R=>p/\tq l R
def ku:List Prop->Prop->Prop
 | [],R=>R
 | p :: l,R=>p->ku l R
def pG (d:Option Nat) (v:TV) (fr:AFr):AFr:=match d with
 | some d=>(d,v) :: fr
 | none=>fr
def oH (t:Nat):Oper->Bool
 | ⟨_,.pick (.tmp u) _ _,_,_,_,_⟩=>Nat.beq t u
 | _=>false
def sA (t:Nat):List Oper->Option (List Oper × Oper × List Oper)
 | []=>none
 | o :: r=>bif oH t o then some ([],o,r) else match sA t r with
  | some (a,b,c)=>some (o :: a,b,c)
  | none=>none
def pI:Option TV->Option BE
 | some (.one (.c (.bool e)))=>some e
 | _=>none
def DF (e:BE) (w:Bool) (on off:Option TV):Option BE:=
 match w,pI on,pI off with
 | true,some x,some (.lit false)=>some (.and e x)
 | false,some x,some (.lit true)=>some (.or e x)
 | _,_,_=>none
structure GR where
 fr:AFr
 ob:List Prop
 fc:List Prop
def iG (fr:AFr):Option Nat->Bool
 | none=>true
 | some d=>match lookA fr d with
  | none=>true
  | some _=>false
def BB (l:List Oper) (fr:AFr) (j:Nat) (w:Bool):List Nat->List Oper->Bool
 | _,[]=>true
 | us,o :: r=>iG fr o.dst && (match o.guard with
  | some (j',w')=>(Nat.beq j' j && (w' == w)) || (match idst l j' with
   | some t=>bQ t us
   | none=>false)
  | none=>false) && BB l fr j w (match o.dst with
   | some d=>d :: us
   | none=>us) r
def MK (a b:Option (Nat × Bool)):Bool:=match a,b with
 | none,none=>true
 | some (i,x),some (j,y)=>Nat.beq i j && (x == y)
 | _,_=>false
def n_ (e:BE) (w:Bool):List Prop->List Prop
 | []=>[]
 | ob=>[e.p w->iQ ob]
structure GrpR where
 d:Nat
 v:BE
 ob:List Prop
 fc:List Prop
 tail:List Oper
def Pb (l:List Oper) (fr:AFr) (g:Option (Nat × Bool)) (run:Option (Nat × Bool)->List Oper->AFr->Option GR) (j:Nat) (w:Bool) (ops:List Oper):Option GrpR:=
 match idst l j with
 | some t=>match pI (lookA fr t),sA t ops with
  | some e,some (grp,pk,tail)=>match BB l fr j w [] grp && MK pk.guard g && iG fr pk.dst,run (some (j,w)) grp fr with
   | true,some q=>match pk.op,pk.dst with
    | .pick _ x y,some d=>match DF e w (cP q.fr (cond w x y)) (cP fr (cond w y x)) with
     | some v=>some ⟨d,v,n_ e w q.ob,n_ e w q.fc,tail⟩
     | none=>none
    | _,_=>none
   | _,_=>none
  | _,_=>none
 | none=>none
def GQ (l:List Oper) (H:AH):Nat->Option (Nat × Bool)->List Oper->AFr->Option GR
 | 0,_,_,_=>none
 | _+1,_,[],fr=>some ⟨fr,[],[]⟩
 | n+1,g,o :: rest,fr=>
  match MK o.guard g with
  | true=>match iG fr o.dst,pv T O H fr o.op with
   | true,some r=>match GQ l H n g rest (pG o.dst r.v fr) with
    | some q=>some ⟨q.fr,r.ob++q.ob,r.fc++q.fc⟩
    | none=>none
   | _,_=>none
  | false=>match o.guard with
   | some (j,w)=>match Pb l fr g (GQ l H n) j w (o :: rest) with
    | some r=>match GQ l H n g r.tail ((r.d,one (.bool r.v)) :: fr) with
     | some q=>some ⟨q.fr,r.ob++q.ob,r.fc++q.fc⟩
     | none=>none
    | none=>none
   | none=>none
def isSt:Op->Bool
 | .store _ _ _=>true
 | .insert _ _ _ _=>true
 | .mapUpdate _ _ _ _=>true
 | _=>false
def QN (o:Oper):Bool:=match isSt o.op,o.dst with
 | true,some _=>false
 | _,_=>true
structure IxR where
 s:Sh
 xs:List (den s)
 i:Int
def atA (fr:AFr):Op->Option IxR
 | .indexAddr t x y=>match cP fr x,cP fr y,TZ T t with
  | some (.one (.c (.fz s xs))),some (.one (.c b)),some s'=>match decide (s' = s),b.ix with
   | true,some i=>some ⟨s,xs,i⟩
   | _,_=>none
  | _,_,_=>none
 | _=>none
structure NilR where
 s:Sh
 xs:List (den s)
 ne:Bool
def Zi (H:AH) (fr:AFr):Op->Option NilR
 | .binOp op t x y _=>match op,aQ T t,cP fr x,cP fr y with
  | .eql,some ⟨.sl _ _,_,_⟩,some (.one (.c a)),some (.one (.c (.em true)))=>match a.vw H with
   | .fz s xs=>some ⟨s,xs,false⟩
   | _=>none
  | .neq,some ⟨.sl _ _,_,_⟩,some (.one (.c a)),some (.one (.c (.em true)))=>match a.vw H with
   | .fz s xs=>some ⟨s,xs,true⟩
   | _=>none
  | _,_,_,_=>none
 | _=>none
def XA:Bool->Bool->BE
 | true,b=>.not (.atom b)
 | false,b=>.atom b
structure MpR where
 k:Int
 ok:Bool
 l:List (Int × AV)
def mapA (H:AH) (fr:AFr):Op->Option MpR
 | .lookup t x y ok=>match aQ T t,cP fr x,cP fr y with
  | some ⟨.mp _ _ none,_,_⟩,some (.one (.c (.mq id))),some (.one (.c (.int k)))=>match getO H id with
   | .mapf l=>some ⟨k,ok,l⟩
   | _=>none
  | _,_,_=>none
 | _=>none
def Gb:Bool->AV->Bool->TV
 | true,a,b=>.tup [.c a,.c (.bool (.lit b))]
 | false,a,_=>one a
def xf (k:Int) (ok:Bool) (K:TV->Prop):List (Int × AV)->Prop
 | []=>K (Gb ok .nf false)
 | (j,a) :: r=>(k=j->K (Gb ok a true))/\(¬ k=j->xf k ok K r)
structure SpR where
 e:BE
 on:List Oper
 d:Nat
 off:Operand
 tail:List Oper
def ZH (l:List Oper) (fr:AFr) (j:Nat) (w:Bool) (ops:List Oper):Option SpR:=
 match idst l j with
 | some t=>match pI (lookA fr t),sA t ops with
  | some e,some (grp,pk,tail)=>match BB l fr j w [] grp && MK pk.guard none && iG fr pk.dst,pk.op,pk.dst with
   | true,.pick _ x y,some d=>some ⟨e,grp.map (Ks j w)++⟨some d,.move (cond w x y),pk.type,pk.pos,pk.after,none⟩ :: tail,d,cond w y x,tail⟩
   | _,_,_=>none
  | _,_=>none
 | none=>none
def wpOps (l:List Oper) (K:AFr->AH->Prop):Nat->List Oper->AFr->AH->Prop
  | 0,_,_,_=>False
  | _+1,[],fr,H=>K fr H
  | n+1,o :: rest,fr,H=>
    match o.guard with
    | none=>match atA T fr o.op with
     | some ⟨s,xs,i⟩=>0<=i/\i<(xs.length:Int)/\∀ x,xs[i.toNat]? = some x->ku (HK (cellsOf s x)) (wpOps l K n rest (pG o.dst (one (.fe s x 0)) fr) H)
     | none=>match Zi T H fr o.op with
     | some ⟨_,xs,ne⟩=>∀ b:Bool,(b=true->xs=[])->wpOps l K n rest (pG o.dst (one (.bool (XA ne b))) fr) H
     | none=>match mapA T H fr o.op with
     | some m=>xf m.k m.ok (fun v=>wpOps l K n rest (pG o.dst v fr) H) m.l
     | none=>match pv T O H fr o.op with
      | some r=>tq r.ob (ku r.fc (wpOps l K n rest (pG o.dst r.v fr) H))
      | none=>match QN o,sv T O ro fr H o.op with
        | true,some r=>tq r.ob (ku r.fc (wpOps l K n rest (pG o.dst r.v r.fr) r.H))
        | _,_=>False
    | some (j,w)=>match Pb l fr none (GQ T O l H n) j w (o :: rest) with
      | some r=>tq r.ob (ku r.fc (wpOps l K n r.tail ((r.d,one (.bool r.v)) :: fr) H))
      | none=>match ZH l fr j w (o :: rest) with
        | some r=>(r.e.p w->wpOps l K n r.on fr H)/\(r.e.p (!w)->match cP fr r.off with
          | some v=>wpOps l K n r.tail ((r.d,v) :: fr) H
          | none=>False)
        | none=>False
structure LI where
 σ:Type
 F:σ->AFr × AH
 J:σ->Prop
 μ:σ->Nat
 R:Option (σ->σ->Prop):=none      -- what holds of the state at its beginning,and any later one
 un:Option (Nat × List Nat):=none   -- walked round by round,so often; the slots that are kept
def LI.rel (I:LI) (a b:I.σ):Prop:=match I.R with
 | none=>True
 | some r=>r a b
def LI.aJ (I:LI) (a b:I.σ) (p:Prop):Prop:=match I.R with
 | none=>p
 | some r=>r a b/\p
def LI.imp (I:LI) (a b:I.σ) (p:Prop):Prop:=match I.R with
 | none=>p
 | some r=>r a b->p
variable {I:LI}
theorem LI.CE {a b:I.σ} {p:Prop}:I.aJ a b p↔I.rel a b/\p:=by
 unfold LI.aJ LI.rel; cases I.R <;> simp
theorem LI.Pq {a b:I.σ} {p:Prop}:I.imp a b p↔(I.rel a b->p):=by
 unfold LI.imp LI.rel; cases I.R <;> simp
def Tp:List (Nat × LI)->Option Nat->Option LI
 | [],_=>none
 | _,none=>none
 | (j,v) :: r,some i=>bif Nat.beq j i then some v else Tp r (some i)
def kB:Code->Option Nat
 | .region i _ _=>some i
 | .seq a b=>match kB a with
  | some i=>some i
  | none=>kB b
 | .cond _ a b=>match kB a with
  | some i=>some i
  | none=>kB b
 | .block _ a=>kB a
 | .loop a=>kB a
 | .scope a=>kB a
 | _=>none
def iota:Nat->Nat->List Nat
 | _,0=>[]
 | k,n+1=>k :: iota (k+1) n
def HM:List Nat->Nat->Nat->Bool
 | [],_,_=>false
 | k :: _,0,i=>Nat.beq k i
 | _ :: r,j+1,i=>HM r j i
def Gu (n:Nat):List Nat->Nat->Bool
 | [],_=>false
 | k :: _,0=>Nat.ble n k
 | _ :: r,j+1=>Gu n r j
def oQ (σ:List Nat):List (Nat × Nat)->List (Nat × Nat)->Bool
 | [],[]=>true
 | (i,o) :: r,(j,o') :: l=>HM σ j i && Nat.beq o o' && oQ σ r l
 | _,_=>false
def aaq (H:AH) (σ:List Nat) (j:Nat):Bool:=match σ[j]? with
 | some i=>match getO H i with
  | .box _ _=>true
  | _=>false
 | none=>false
def eqX (σ:List Nat):XK->XK->List (Nat × Nat)->List (Nat × Nat)->List Prop
 | .er a,.er b,[],[]=>[a=b]
 | .bp,.bp,b,b'=>same (oQ σ b b')
 | .ff s xs,.ff s' ys,[],[]=>if h:s=s' then [(h ▸ xs:List (den s'))=ys] else [False]
 | .mx a xs,.mx b ys,[],[]=>[a=b,xs=ys]
 | .w a,.w b,[],[]=>[a=b]
 | .pl,.pl,b,b'=>same (oQ σ b b')
 | .pa,.pa,b,b'=>same (oQ σ b b')
 | _,_,_,_=>[False]
def abw (H:AH) (σ:List Nat):XK->List (Nat × Nat)->List Prop
 | .bp,[q]=>same (aaq H σ q.1)
 | _,_=>[False]
def acC (σ:List Nat) (i o:Nat):XK->List (Nat × Nat)->List Prop
 | .bp,[q]=>same (HM σ q.1 i && Nat.beq o q.2)
 | _,_=>[False]
def eqA (H:AH) (n:Nat) (σ:List Nat):AV->AV->List Prop
 | .int a,.int b=>[a=b]
 | .u8 a,.u8 b=>[a=b]
 | .u64 a,.u64 b=>[a=b]
 | .bool a,.bool b=>[a.val=b.val]
 | .str a,.str b=>[a=b]
 | .li a xs,.li b ys=>[a=b,xs=ys]
 | .fz s xs,.fz s' ys=>if h:s=s' then [(h ▸ xs:List (den s'))=ys] else [False]
 | .em _,.fz _ ys=>[ys=[]]
 | .em a,.em b=>same (a == b)
 | .em _,.own j=>same (Gu n σ j)
 | .own i,.own j=>same (HM σ j i)
 | .own i,.fz s ys=>match getO H i with
  | .row _ s' xs=>if h:s' = s then same (!bQ i σ)++[(h ▸ xs:List (den s))=ys] else [False]
  | _=>[False]
 | .sub i o l,.sub j o' l'=>same (HM σ j i)++[o=o',l=l']
 | .ptr i o,.ptr j o'=>same (HM σ j i && Nat.beq o o')
 | .np,.np=>[]
 | .elp i k o,.elp j k' o'=>same (HM σ j i && Nat.beq o o')++[k=k']
 | .nf,.nf=>[]
 | .yl a,.yl b=>same (Nat.beq a b)
 | .mq i,.mq j=>same (HM σ j i)
 | .fn f b c,.fn g b' c'=>same (Nat.beq f g && oQ σ b b' && oQ σ c c')
 | .xx k b,.xx k' b'=>eqX σ k k' b b'
 | .np,.xx k b=>abw H σ k b
 | .ptr i o,.xx k b=>acC σ i o k b
 | _,.dead=>[]
 | _,_=>[False]
def Oq (H:AH) (n:Nat) (σ:List Nat):List AV->List AV->List Prop
 | [],[]=>[]
 | a :: r,b :: l=>eqA H n σ a b++Oq H n σ r l
 | _,_=>[False]
def RB (H:AH) (n:Nat) (σ:List Nat):TV1->TV1->List Prop
 | .c a,.c b=>eqA H n σ a b
 | .agg a,.agg b=>Oq H n σ a b
 | _,_=>[False]
def xD (H:AH) (n:Nat) (σ:List Nat):List TV1->List TV1->List Prop
 | [],[]=>[]
 | a :: r,b :: l=>RB H n σ a b++xD H n σ r l
 | _,_=>[False]
def eqT (H:AH) (n:Nat) (σ:List Nat):TV->TV->List Prop
 | .one a,.one b=>RB H n σ a b
 | .tup a,.tup b=>xD H n σ a b
 | _,.un=>[]
 | _,_=>[False]
def Q_ (H:AH) (n:Nat) (σ:List Nat) (fr:AFr):AFr->List Prop
 | []=>[]
 | (i,v) :: r=>match lookA fr i with
  | some u=>eqT H n σ u v++Q_ H n σ fr r
  | none=>[False]
def wX (T:List (Nat × TI)) (t:TypeId) (s:Sh):List (Nat × TI)->Bool
 | []=>false
 | (i,_) :: r=>(match aQ T i with
  | some ⟨.sl e (some s'),_,_⟩=>Nat.beq e t && decide (s' = s)
  | _=>false) || wX T t s r
def eqO (H:AH) (n:Nat) (σ:List Nat):AO->AO->List Prop
 | .box t cs,.box t' cs'=>same (Nat.beq t t')++Oq H n σ cs cs'
 | .row t s xs,.row t' s' ys=>same (Nat.beq t t')++(if h:s=s' then [(h ▸ xs:List (den s'))=ys] else [False])
 | .gone,.gone=>[]
 | .mapo s f,.mapo s' f'=>if h:s=s' then [(h ▸ f:Int->Option (den s'))=f'] else [False]
 | .arr t s m xs,.arr t' s' m' ys=>same (Nat.beq t t' && Nat.beq m m')++(if h:s=s' then [(h ▸ xs:List (den s'))=ys] else [False])
 | _,_=>[False]
def eqN (T:List (Nat × TI)):AO->List Prop
 | .row t s ys=>same (wX T t s T)++[ys=[]]
 | _=>[False]
def Yi (T:List (Nat × TI)) (H:AH) (n:Nat) (σ:List Nat):List Nat->AH->List Prop
 | [],[]=>[]
 | k :: r,b :: l=>(bif Nat.blt k n then eqO H n σ (getO H k) b else eqN T b)++Yi T H n σ r l
 | _,_=>[False]
def DP:List (Nat × Nat)->List (Nat × Nat)->List (Nat × Nat)
 | (i,_) :: r,(j,_) :: l=>(j,i) :: DP r l
 | _,_=>[]
def UL:AV->AV->List (Nat × Nat)
 | .own i,.own j=>[(j,i)]
 | .sub i _ _,.sub j _ _=>[(j,i)]
 | .elp i _ _,.elp j _ _=>[(j,i)]
 | .ptr i _,.ptr j _=>[(j,i)]
 | .fn _ b c,.fn _ b' c'=>DP b b' ++ DP c c'
 | .xx _ b,.xx _ b'=>DP b b'
 | _,_=>[]
def NF:List AV->List AV->List (Nat × Nat)
 | a :: r,b :: l=>UL a b++NF r l
 | _,_=>[]
def Ea:List TV1->List TV1->List (Nat × Nat)
 | .c a :: r,.c b :: l=>UL a b++Ea r l
 | .agg a :: r,.agg b :: l=>NF a b++Ea r l
 | _,_=>[]
def aa4:AO->AO->List (Nat × Nat)
 | .box _ cs,.box _ cs'=>NF cs cs'
 | _,_=>[]
def CP (n:Nat):List (Nat × Nat)->Nat->Nat
 | [],_=>n
 | (j,i) :: r,k=>bif Nat.beq j k then i else CP n r k
def H_ (H:AH):List Nat->AH->List (Nat × Nat)
 | k :: r,o :: l=>aa4 (getO H k) o++H_ H r l
 | _,_=>[]
def mb (n:Nat):List Nat->Bool
 | []=>true
 | k :: r=>(Nat.ble n k || !bQ k r) && mb n r
def ZO (fr:AFr):AFr->List (Nat × Nat)
 | []=>[]
 | (i,v) :: r=>(match lookA fr i,v with
  | some (.one u),.one v=>Ea [u] [v]
  | _,_=>[])++ZO fr r
def Zq (ps:List (Nat × Nat)):Nat->Nat->List Nat
 | _,0=>[]
 | k,m+1=>CP k ps k :: Zq ps (k+1) m
def Ta (k0:Nat) (fr:AFr) (H:AH) (q:AFr × AH):Nat->List (Nat × Nat)->List Nat
 | 0,ps=>iota 0 k0++Zq ps k0 (q.2.length - k0)
 | f+1,ps=>Ta k0 fr H q f (ZO fr q.1++H_ H (iota 0 k0++Zq ps k0 (q.2.length - k0)) q.2)
def Bt (T:List (Nat × TI)) (k0:Nat) (fr:AFr) (H:AH) (q:AFr × AH):List Prop:=
 match Ta k0 fr H q 3 [] with
 | σ=>same (Nat.ble k0 q.2.length && mb H.length σ)++Q_ H H.length σ fr q.1++Yi T H H.length σ σ q.2
def Operand.sl:Operand->List Nat
 | .tmp t=>[t]
 | _=>[]
def slL:List Operand->List Nat
 | []=>[]
 | x :: r=>Operand.sl x++slL r
def slP:List (Nat × Operand)->List Nat
 | []=>[]
 | (_,x) :: r=>Operand.sl x++slP r
def slO:Option Operand->List Nat
 | some x=>Operand.sl x
 | none=>[]
def Bf:Op->List Nat
 | .move x=>Operand.sl x
 | .assign x=>Operand.sl x
 | .pick z x y=>Operand.sl z++Operand.sl x++Operand.sl y
 | .unOp _ _ x=>Operand.sl x
 | .binOp _ _ x y _=>Operand.sl x++Operand.sl y
 | .extract x _=>Operand.sl x
 | .nilCheck x=>Operand.sl x
 | .convert _ _ x=>Operand.sl x
 | .makeFunc _ b c=>slL b.toList++slL c.toList
 | .fieldAddr _ x _=>Operand.sl x
 | .field _ x _=>Operand.sl x
 | .load _ x=>Operand.sl x
 | .indexAddr _ x y=>Operand.sl x++Operand.sl y
 | .index _ x y=>Operand.sl x++Operand.sl y
 | .build _ l=>slP l.toList
 | .slice _ x l h _=>Operand.sl x++slO l++slO h
 | .lookup _ x y _=>Operand.sl x++Operand.sl y
 | .call c=>(match c.callee with
  | .value f=>Operand.sl f
  | _=>[])++slL c.args.toList
 | _=>[]
structure DV where
 d:Nat
 v:TV
 ch:List (Nat × Bool)
 deps:List Nat
 ob:List Prop
 fc:List Prop
def xe:List DV->Nat->Option DV
 | [],_=>none
 | a :: _,0=>some a
 | _ :: r,i+1=>xe r i
def dO (sl:List Nat):Nat->List DV->List Nat
 | _,[]=>[]
 | k,a :: r=>bif bQ a.d sl then k :: dO sl (k+1) r else dO sl (k+1) r
def KG (ds:List DV) (fr:AFr):List Nat->AFr
 | []=>fr
 | j :: r=>match xe ds j with
  | some a=>(a.d,a.v) :: KG ds fr r
  | none=>KG ds fr r
def pA:List (Nat × Bool)->List (Nat × Bool)->Bool
 | [],_=>true
 | (i,a) :: r,(j,b) :: l=>Nat.beq i j && (a == b) && pA r l
 | _,_=>false
def wZ (ds:List DV) (ch:List (Nat × Bool)):List Nat->Bool
 | []=>true
 | j :: r=>(match xe ds j with
  | some a=>pA a.ch ch
  | none=>false) && wZ ds ch r
def OA (ds:List DV):List (Nat × Bool)->Option BE
 | []=>some (.lit true)
 | (j,w) :: r=>match xe ds j,OA ds r with
  | some a,some g=>match pI (some a.v) with
   | some e=>some (.and (match w with
    | true=>e
    | false=>.not e) g)
   | none=>none
  | _,_=>none
def lf (e:BE):List Prop->List Prop
 | []=>[]
 | ob=>match e with
  | .lit true=>ob
  | e=>[e.p true->iQ ob]
def yr:BE->BE
 | .and a (.lit true)=>a
 | .and a g=>.and a (yr g)
 | g=>g
def Cl (ds:List DV):Option (Nat × Bool)->Option (List (Nat × Bool) × List Nat)
 | none=>some ([],[])
 | some (j,w)=>match xe ds j with
  | some a=>some (a.ch++[(j,w)],[a.d])
  | none=>none
def jM:Operand->Bool
 | .tmp _=>true
 | _=>false
def MV (ds:List DV) (ch:List (Nat × Bool)) (t:Nat) (x y:Operand):Option BE:=
 match dO [t] 0 ds with
 | [jc]=>match xe ds jc with
  | some c=>match pI (some c.v),pA c.ch ch with
   | some e,true=>match dO (Operand.sl (cond (jM x) x y)) 0 ds with
    | [jx]=>match xe ds jx with
     | some a=>match pA a.ch (ch++[(jc,jM x)]) with
      | true=>DF e (jM x) (some a.v) (cP [] (cond (jM x) y x))
      | false=>none
     | none=>none
    | _=>none
   | _,_=>none
  | none=>none
 | _=>none
def rL (H:AH) (fr:AFr) (ds:List DV) (o:Oper):Option DV:=
 match o.dst,Cl ds o.guard with
 | some d,some (ch,gs)=>match OA ds ch with
  | some g=>match o.op with
   | .pick (.tmp t) x y=>match MV ds ch t x y with
    | some v=>some ⟨d,one (.bool v),ch,dO (Bf (.pick (.tmp t) x y)++gs) 0 ds,[],[]⟩
    | none=>none
   | op=>match wZ ds ch (dO (Bf op++gs) 0 ds),pv T O H (KG ds fr (dO (Bf op++gs) 0 ds)) op with
    | true,some r=>some ⟨d,r.v,ch,dO (Bf op++gs) 0 ds,lf (yr g) r.ob,lf (yr g) r.fc⟩
    | _,_=>none
  | none=>none
 | _,_=>none
def vT (H:AH) (fr:AFr):List Oper->List DV->Option (List DV)
 | [],ds=>some ds
 | o :: r,ds=>match rL T O H fr ds o with
  | some a=>vT H fr r (ds++[a])
  | none=>none
def Xs:List DV->List Prop
 | []=>[]
 | a :: r=>a.ob++Xs r
def S_:List DV->List Prop
 | []=>[]
 | a :: r=>a.fc++S_ r
def xz:List DV->AFr->AFr
 | [],fr=>fr
 | a :: r,fr=>match a.ch with
  | []=>(a.d,a.v) :: xz r fr
  | _=>xz r fr
def NR (H:AH) (fr:AFr):List Oper->List DV->Nat->Nat
 | [],_,k=>k
 | o :: r,ds,k=>match rL T O H fr ds o with
  | some a=>NR H fr r (ds++[a]) (k+1)
  | none=>k
def TV.ids:TV->List Nat
 | .one t=>vG t.cells
 | .tup l=>pH l
 | .un=>[]
def AV.rids:AV->List Nat
 | .own i=>[i]
 | .sub i _ _=>[i]
 | .elp i _ _=>[i]
 | _=>[]
def rh:List AV->List Nat
 | []=>[]
 | a :: r=>a.rids++rh r
def Ee:List TV1->List Nat
 | []=>[]
 | a :: r=>rh a.cells++Ee r
def TV.rids:TV->List Nat
 | .one t=>rh t.cells
 | .tup l=>Ee l
 | .un=>[]
def AO.rids:AO->List Nat
 | .box _ cs=>rh cs
 | .mapf l=>rh (l.map (·.2))
 | _=>[]
def slotIds (fr:AFr):List Nat->List Nat
 | []=>[]
 | t :: r=>(match lookA fr t with
  | some v=>v.ids
  | none=>[])++slotIds fr r
def mO (fr:AFr):List Nat->List Nat
 | []=>[]
 | t :: r=>(match lookA fr t with
  | some v=>v.rids
  | none=>[])++mO fr r
def objIds (H:AH):List Nat->List Nat
 | []=>[]
 | p :: r=>(getO H p).ids++objIds H r
def ll (H:AH):List Nat->List Nat
 | []=>[]
 | p :: r=>(getO H p).rids++ll H r
def cY (fr:AFr):List Nat->AFr
 | []=>[]
 | t :: r=>match lookA fr t with
  | some v=>(t,v) :: cY fr r
  | none=>cY fr r
def maskH (σ:List Nat):Nat->AH->AH
 | _,[]=>[]
 | p,o :: r=>(bif bQ p σ then o else .loc) :: maskH σ (p+1) r
def disj (a:List Nat):List Nat->Bool
 | []=>true
 | i :: r=>!bQ i a && disj a r
def nE (n:Nat):List Nat->Bool
 | []=>true
 | i :: r=>Nat.blt i n && nE n r
inductive Ent
 | fn (k:Int) (a:AV)
 | da (s:Sh) (k:Int) (x:den s)
def Ent.key:Ent->Int
 | .fn k _=>k
 | .da _ k _=>k
def Ent.put:Ent->AO->AO
 | .fn k a,.mapf l=>.mapf ((k,a) :: l)
 | .da s k x,.mapo s' f=>if h:s' = s then .mapo s fun j=>if j=k then some x else (h ▸ f:Int->Option (den s)) j else .mapo s' f
 | _,o=>o
def killO (mv:List Nat) (o:AO):AO:=match mv with
 | []=>o
 | _ :: _=>o.mapA (AV.bY mv)
def Jh (mv:List Nat) (fr:AFr):AFr:=match mv with
 | []=>fr
 | _ :: _=>iU (AV.bY mv) fr
structure RC where
 on:Bool
 dst:Option Nat
 v:TV
 U:List Nat:=[]
 σ:List Nat:=[]
 ch:List Nat:=[]
 mv:List Nat:=[]
 base:Nat
 res:AH
 ent:Option Ent:=none
 ob:List Prop:=[]
 fc:List Prop:=[]
 fr0:AFr
 H0:AH
def RC.new (r:RC):List Nat:=iota r.base (r.res.length - r.base)
def kD (ch mv:List Nat) (e:Option Ent) (res:AH):Nat->AH->AH
 | _,[]=>[]
 | p,o :: r=>(bif bQ p ch then (match e with
  | some e=>e.put o
  | none=>getO res p) else killO mv o) :: kD ch mv e res (p+1) r
def RC.app (r:RC) (q:AFr × AH):AFr × AH:=(pG r.dst r.v (Jh r.mv q.1),kD r.ch r.mv r.ent r.res 0 q.2++r.res.drop r.base)
def GS (mv:List Nat):Nat->AH->List Nat
 | _,[]=>[]
 | p,o :: r=>bif disj mv o.rids then GS mv (p+1) r else p :: GS mv (p+1) r
def Ok (mv:List Nat):AFr->List Nat
 | []=>[]
 | (t,v) :: r=>bif disj mv v.rids then Ok mv r else t :: Ok mv r
def TA (d:Option Nat) (l:List Nat):Bool:=match d with
 | some d=>bQ d l
 | none=>false
def okD (a b:RC):Bool:=!TA b.dst a.U && disj b.ch a.σ && disj b.ch a.new && disj b.new a.σ && disj b.new a.ch && (match b.mv with
 | []=>true
 | mv=>disj (GS mv 0 b.H0) a.σ && disj (Ok mv b.fr0) a.U && disj mv (mO a.fr0 a.U) && disj mv (ll a.H0 a.σ) && disj mv a.v.rids && disj mv (ll a.res a.ch) && disj mv (ll a.res a.new) && (match a.ent with
  | some (.fn _ x)=>disj mv x.rids
  | _=>true))
def okI (a b:RC):Bool:=match a.ent,b.ent with
 | some e,some e2=>disj a.ch b.ch || !decide (e.key=e2.key)
 | _,_=>disj a.ch b.ch
def bitN (m j:Nat):Bool:=Nat.beq (Nat.land (Nat.shiftRight m j) 1) 1
def hU (acc:List Nat):List Nat->Nat
 | []=>0
 | j :: r=>Nat.lor (Nat.lor (Nat.shiftLeft 1 j) (acc.getD j 0)) (hU acc r)
def iD (acc:List Nat):List Oper->List Nat
 | []=>acc
 | o :: r=>iD (acc++[hU acc (fp o)]) r
def Ff (m:Nat) (b:RC):Nat->List RC->Bool
 | _,[]=>true
 | i,a :: r=>(bitN m i || (okD a b && okD b a && okI a b)) && Ff m b (i+1) r
def vW (b:RC):List RC->Bool
 | []=>true
 | a :: r=>(match a.dst,b.dst with
  | some i,some j=>!Nat.beq i j
  | _,_=>true) && vW b r
def Cu (bef:List Nat):Nat->List RC->List RC->Bool
 | _,_,[]=>true
 | j,done,b :: r=>Nat.beq b.base b.H0.length && Nat.ble b.base b.res.length && nE b.base (slotIds b.fr0 b.U) && nE b.base (objIds b.H0 b.σ) && nE b.base b.σ && nE b.base b.ch && vW b done && (match b.ent with
   | some _=>(match b.mv,b.ch with
    | [],[_]=>true
    | _,_=>false) && Nat.beq b.res.length b.base
   | none=>true) && Ff (bef.getD j 0) b 0 done && Cu bef (j+1) (done++[b]) r
def qg:Nat->List Oper->Bool
 | _,[]=>true
 | i,o :: r=>nE i (fp o) && qg (i+1) r
def okR (l:List Oper) (rs:List RC):Bool:=qg 0 l && Nat.beq rs.length l.length && Cu (iD [] l) 0 [] rs
def yK (m:Nat):Nat->List RC->List Prop
 | _,[]=>[]
 | i,a :: r=>(bif bitN m i then a.fc else [])++yK m (i+1) r
def aeR (fc:List Prop):List Prop->List Prop
 | []=>[]
 | ob=>[ku fc (iQ ob)]
def obR (all:List RC):List Nat->List RC->List Prop
 | m :: bef,b :: r=>aeR (yK m 0 all) b.ob++obR all bef r
 | _,_=>[]
def fcR:List RC->List Prop
 | []=>[]
 | a :: r=>a.fc++fcR r
def tK:AFr->List Nat->AFr
 | [],_=>[]
 | (t,v) :: r,l=>bif bQ t l then tK r l else (t,v) :: tK r (t :: l)
def ja:Op->List Nat
 | .store _ x v=>Operand.sl x++Operand.sl v
 | .insert _ x y z=>Operand.sl x++Operand.sl y++Operand.sl z
 | .mapUpdate _ x y z=>Operand.sl x++Operand.sl y++Operand.sl z
 | .lookup _ x y _=>Operand.sl x++Operand.sl y
 | .box _ x=>Operand.sl x
 | .makeSlice _ x y=>Operand.sl x++Operand.sl y
 | .buildSlice _ _ l=>slP l.toList
 | op=>Bf op
def Ul (fr:AFr) (H:AH):Op->List Nat
 | .move _=>[]
 | .assign _=>[]
 | .extract _ _=>[]
 | .nilCheck _=>[]
 | .makeFunc _ _ _=>[]
 | .fieldAddr _ _ _=>[]
 | .build _ _=>[]
 | .unOp _ _ _=>[]
 | .binOp _ _ _ _ _=>[]
 | .box _ _=>[]
 | .alloc _=>[]
 | .call c=>match c.callee with
  | .value _=>match gW fr c with
   | some (_,l)=>sJ H l
   | none=>[]
  | _=>slotIds fr (ja (.call c))
 | op=>slotIds fr (ja op)
def afR (fr:AFr) (H:AH):Op->List (List Nat × List Nat)
 | .store _ x v=>match cP fr x,cP fr v with
  | some (.one (.c (.ptr id _))),_=>[([id],[])]
  | some (.one (.c (.elp id _ _))),some (.one b)=>[(id :: eC b.cells,eC b.cells)]
  | _,_=>[]
 | .box _ _=>[([],[])]
 | .buildSlice _ _ l=>match wJ fr l.toList with
  | some l=>[(BD l,BD l)]
  | none=>[]
 | .alloc _=>[([],[])]
 | .makeMap _ _=>[([],[])]
 | .makeSlice _ _ _=>[([],[])]
 | .slice _ x none (some _) none=>match cP fr x with
  | some (.one (.c (.own id)))=>[([id],[id])]
  | _=>[]
 | .call c=>match c.callee with
  | .builtin .copy=>match c.args.toList with
   | [x,_]=>match cP fr x with
    | some (.one (.c (.own id)))=>[([id],[])]
    | _=>[]
   | _=>[]
  | .builtin .append=>match c.args.toList with
   | [x,_]=>match cP fr x with
    | some (.one (.c (.own id)))=>[([id],[id])]
    | some (.one (.c (.sub id _ _)))=>[([id],[id])]
    | _=>[([],[])]
   | _=>[]
  | .value _=>match gW fr c with
   | some (_,l)=>[([],[]),(sJ H (GU H l),sJ H (GU H l)),(sJ H l,sJ H l)]
   | none=>[]
  | _=>[]
 | _=>[]
structure XR where
 v:TV
 ch:List Nat
 mv:List Nat
 res:AH
 ob:List Prop
 fc:List Prop
def OG (fm:AFr) (Hm:AH) (op:Op):List (List Nat × List Nat)->Option XR
 | []=>none
 | (ch,mv) :: r=>match sv T O ⟨fun i=>bQ i ch && ro.wr i,fun i=>bQ i mv && ro.mv i⟩ fm Hm op with
  | some q=>some ⟨q.v,ch,mv,q.H,q.ob,q.fc⟩
  | none=>OG fm Hm op r
def NL (fm:AFr) (Hm:AH):Op->Option PR
 | .buildSlice t n parts=>match aQ T t,wJ fm parts.toList with
  | some ⟨.sl _ (some s),_,_⟩,some l=>match BD l,qB s Hm l 0 with
   | [],some xs=>match Nat.beq xs.length n && Nat.ble (n*s.size) 16777216 && Nat.ble (n*s.bytes) 140737488355328 && Nat.blt 0 n with
    | true=>some ⟨one (.fz s xs),[],[]⟩
    | false=>none
   | _,_=>none
  | _,_=>none
 | _=>none
def abZ (fr:AFr) (H:AH) (o:Oper):Option XR:=
 match cY fr (ja o.op),maskH (Ul fr H o.op) 0 H with
 | fm,Hm=>match NL T fm Hm o.op with
  | some r=>some ⟨r.v,[],[],Hm,r.ob,r.fc⟩
  | none=>match pv T O Hm fm o.op with
   | some r=>some ⟨r.v,[],[],Hm,r.ob,r.fc⟩
   | none=>match QN o with
    | true=>OG T O ro fm Hm o.op (afR fr H o.op)
    | false=>none
def Xk (fr:AFr) (H:AH):Op->Option (Nat × Ent)
 | .insert t x y z=>match aQ T t,cP fr x,cP fr y,cP fr z with
  | some ⟨.mp _ _ (some s),_,_⟩,some (.one (.c (.mq id))),some (.one (.c (.int k))),some (.one v)=>match getO H id,eC v.cells,fT s v.cells with
   | .mapo s' _,[],some x'=>match decide (s' = s) && nt s v && ro.wr id with
    | true=>some (id,.da s k x')
    | false=>none
   | _,_,_=>none
  | some ⟨.mp _ _ none,_,_⟩,some (.one (.c (.mq id))),some (.one (.c (.int k))),some (.one (.c a))=>match getO H id,ro.wr id with
   | .mapf _,true=>some (id,.fn k a)
   | _,_=>none
  | _,_,_,_=>none
 | _=>none
def Yw:List RC->Nat->Bool
 | [],_=>true
 | r :: _,0=>r.on
 | _ :: l,i+1=>Yw l i
def rB (l:List Oper) (fr:AFr) (rs:List RC):Option (Nat × Bool)->Option Bool
 | none=>some true
 | some (j,w)=>match idst l j with
  | some t=>match Yw rs j,lookA fr t with
   | false,_=>some false
   | true,some (.one (.c (.bool (.lit b))))=>some (b == w)
   | _,_=>none
  | none=>none
def gM (l:List Oper):Option (Nat × Bool)->List Nat
 | none=>[]
 | some (j,_)=>match idst l j with
  | some t=>[t]
  | none=>[]
def RP (i:Nat) (d:Option Nat):List Oper->Bool
 | []=>false
 | o :: r=>(match o.guard with
  | some (j,_)=>Nat.beq j i
  | none=>false) || (match d with
  | some d=>oH d o
  | none=>false) || RP i d r
def split (g:Bool) (v:TV) (K:TV->Prop):Prop:=match g,pI (some v) with
 | true,some (.lit b)=>K (one (.bool (.lit b)))
 | true,some e=>(e.p true->K (one (.bool (.lit true))))/\(e.p false->K (one (.bool (.lit false))))
 | _,_=>K v
def OC (l:List Oper) (K:AFr->AH->Prop):Nat->Nat->List Oper->AFr->AH->List RC->Prop
 | 0,_,_,_,_,_=>False
 | _+1,_,[],fr,H,rs=>match okR l rs with
  | true=>tq (obR rs (iD [] l) rs) (ku (fcR rs) (K (tK fr []) H))
  | false=>False
 | n+1,i,o :: rest,fr,H,rs=>match rB l fr rs o.guard with
  | some false=>match RC.mk false o.dst .un (gM l o.guard) [] [] [] H.length (maskH [] 0 H) none [] [] fr H with
   | rc=>OC l K n (i+1) rest (rc.app (fr,H)).1 (rc.app (fr,H)).2 (rs++[rc])
  | some true=>match o.op with
   | .pick (.tmp t) x y=>match lookA fr t with
    | some (.one (.c (.bool (.lit b))))=>match cP fr (cond b x y) with
     | some v=>split (RP i o.dst rest) v fun v=>match RC.mk true o.dst v (t :: Operand.sl (cond b x y)++gM l o.guard) [] [] [] H.length (maskH [] 0 H) none [] [] fr H with
      | rc=>OC l K n (i+1) rest (rc.app (fr,H)).1 (rc.app (fr,H)).2 (rs++[rc])
     | none=>False
    | _=>False
   | op=>match Xk T ro fr H op with
    | some (id,e)=>match RC.mk true none .un (ja op++gM l o.guard) [] [id] [] H.length (maskH [] 0 H) (some e) [] [] fr H,o.dst with
     | rc,none=>OC l K n (i+1) rest (rc.app (fr,H)).1 (rc.app (fr,H)).2 (rs++[rc])
     | _,_=>False
    | none=>match Ul fr H op with
     | σ=>match mapA T (maskH σ 0 H) (cY fr (ja op)) op with
      | some m=>xf m.k m.ok (fun v=>split (RP i o.dst rest) v fun v=>match RC.mk true o.dst v (ja op++gM l o.guard) σ [] [] H.length (maskH σ 0 H) none [] [] fr H with
       | rc=>OC l K n (i+1) rest (rc.app (fr,H)).1 (rc.app (fr,H)).2 (rs++[rc])) m.l
      | none=>match abZ T O ro fr H o with
       | some r=>split (RP i o.dst rest) r.v fun v=>match RC.mk true o.dst v (ja op++gM l o.guard) σ r.ch r.mv H.length r.res none r.ob r.fc fr H with
        | rc=>OC l K n (i+1) rest (rc.app (fr,H)).1 (rc.app (fr,H)).2 (rs++[rc])
       | none=>False
  | none=>False
def YI (l:List Oper) (K:AFr->AH->Prop) (fr:AFr) (H:AH):Prop:=OC T O ro l K (l.length+1) 0 l fr H []
def VE (step:(Exit->AFr->AH->Prop)->AFr->AH->Prop) (K:Exit->AFr->AH->Prop) (l:List Nat):Nat->AFr->AH->Prop
 | 0,_,_=>False
 | n+1,fr,H=>step (fun e fr H=>match e with
  | .normal=>VE step K l n fr H
  | e=>K e fr H) (cY fr l) H
def iL (k0:Nat) (L:List (Nat × LI)):Code->(Exit->AFr->AH->Prop)->AFr->AH->Prop
 | .skip,K,fr,H=>K .normal fr H
 | .seq x y,K,fr,H=>iL k0 L x (fun e fr H=>match e with
  | .normal=>iL k0 L y K fr H
  | e=>K e fr H) fr H
 | .cond c x y,K,fr,H=>match pI (cP fr c) with
  | some (.lit true)=>iL k0 L x K fr H
  | some (.lit false)=>iL k0 L y K fr H
  | some e=>(e.p true->iL k0 L x K fr H)/\(e.p false->iL k0 L y K fr H)
  | none=>False
 | .block i c,K,fr,H=>iL k0 L c (fun e fr H=>match e with
  | .exit j=>bif Nat.beq j i then K .normal fr H else K (.exit j) fr H
  | e=>K e fr H) fr H
 | .loop c,K,fr,H=>match Tp L (kB c) with
  | some I=>match I.un with
   | some (n,l)=>VE (iL k0 L c) K l n fr H
   | none=>∃ s0,iQ (Bt T k0 fr H (I.F s0))/\I.J s0/\I.aJ s0 s0 (∀ s,I.J s->I.imp s0 s (iL k0 L c (fun e fr H=>match e with
    | .normal=>∃ s',iQ (Bt T k0 fr H (I.F s'))/\I.J s' /\ I.aJ s0 s' (I.μ s' < I.μ s)
    | e=>K e fr H) (I.F s).1 (I.F s).2))
  | none=>False
 | .exit i,K,fr,H=>K (.exit i) fr H
 | .ret,K,fr,H=>K .ret fr H
 | .scope c,K,fr,H=>iL k0 L c (fun e fr H=>match e with
  | .goto _=>False
  | e=>K e fr H) fr H
 | .label _,K,fr,H=>K .normal fr H
 | .region _ ops false,K,fr,H=>wpOps T O ro ops.toList (K .normal) (2*ops.size+1) ops.toList fr H
 | .region _ ops true,K,fr,H=>
  match NR T O H fr ops.toList [] 0 with
  | k=>match vT T O H fr (ops.toList.take k) [] with
   | some ds=>match lM ops.toList (ds.map fun a=>⟨a.deps,[],fun _ _=>True⟩) (fr.map (·.1)) k with
    | true=>tq (Xs ds) (ku (S_ ds) (wpOps T O ro ops.toList (K .normal) (2*ops.size+1) (ops.toList.drop k) (xz ds fr) H))
    | false=>YI T O ro ops.toList (K .normal) fr H
   | none=>YI T O ro ops.toList (K .normal) fr H
 | _,_,_,_=>False
def Ue (T:List (Nat × TI)) (H:AH) (t:TypeId) (p:AV):Option PR:=match qj T H t p with
 | some r=>some r
 | none=>CG T H t p
def tD (T:List (Nat × TI)) (fr:AFr) (H:AH):List ResultVar->Option (List TV1)
 | []=>some []
 | .tmp t :: r=>match lookA fr t,tD T fr H r with
  | some (.one a),some l=>some (a :: l)
  | _,_=>none
 | .cell a t :: r=>match lookA fr a,tD T fr H r with
  | some (.one (.c p)),some l=>match Ue T H t p with
   | some ⟨.one v,[],_⟩=>some (v :: l)
   | _=>none
  | _,_=>none
def qG:Nat->List TV1->AFr
 | _,[]=>[]
 | k,v :: r=>(k,.one v) :: qG (k+1) r
def Uw (L:List (Nat × LI)) (fn:Func) (args:List TV1) (H:AH) (rs:List TV1):Prop:=
 match fn.body with
 | some c=>ku (Ho args) (iL T O (gz H.length) H.length L c (fun e fr H'=>match e with
  | .ret=>match tD T fr H' fn.results.toList with
   | some l=>iQ (xD H' H'.length (iota 0 H.length) l rs)
   | none=>False
  | .normal=>match tD T fr H' fn.results.toList with
   | some l=>iQ (xD H' H'.length (iota 0 H.length) l rs)
   | none=>False
  | _=>False) (qG 0 args) H)
 | none=>False
end Go.Proofs.YticbaadnibdbkaaGreat
namespace Go.Proofs.YticbaadnibdbkaaGreat
open Go.RowKit
structure Cx where
 shp:TypeId->Option Sh
 B0:Nat
 S:Nat->Prop
 w:World
def Cx.at (c:Cx) (s:Sh) (b:Nat):Prop:=c.S b/\(b<c.B0\/∃ cur t fr,c.w.heap[b]? = some (.cells cur t fr)/\c.shp t=some s/\(s = .int->fr=(0,0)))
def LiAt (c:Cx) (nw:Bool) (a:Option Addr) (xs:List Int):Prop:=
 xs=[]\/∃ A,a=some A/\(nw=true->c.S A.block/\c.B0<=A.block/\∃ cur t fr,c.w.heap[A.block]? = some (.cells cur t fr)/\c.shp t=some .int/\fr=(0,0))/\(nw=false->(A.block<c.B0/\A.block<c.w.heap.size)\/c.at .int A.block)/\CellsAt c.w A (xs.map (.int .i64))
mutual
inductive Pd (c:Cx):AV->Value->Prop
 | int {n:Int}:I64 n->Pd c (.int n) (.int .i64 n)
 | u8 {b:UInt8}:Pd c (.u8 b) (.int .u8 (b.toNat:Int))
 | u64 {n:Nat}:n<18446744073709551616->Pd c (.u64 n) (.int .u64 (n:Int))
 | bool {e:BE}:Pd c (.bool e) (.bool e.val)
 | str {s:Str}:s.b.length<=140737488355328->Pd c (.str s) s.val
 | em {b:Bool} {a:Option Addr}:b=a.isNone->Pd c (.em b) (.slice a 0 0)
 | fz {s:Sh} {xs:List (den s)} {a:Option Addr} {k:Nat} {cells:List Value}:xs.length<=k->k<=maxLen->xs.length*s.bytes<=140737488355328->Pds c (xs.flatMap (cellsOf s)) cells ->
   (xs=[]\/∃ A,a=some A/\c.at s A.block/\CellsAt c.w A cells)->Pd c (.fz s xs) (.slice a xs.length k)
 | li {nw:Bool} {xs:List Int} {a:Option Addr} {k:Nat}:xs.length<=k->k<=maxLen->xs.length*8<=140737488355328->(∀ n ∈ xs,I64 n)->LiAt c nw a xs->Pd c (.li nw xs) (.slice a xs.length k)
inductive Pds (c:Cx):List AV->List Value->Prop
 | nil:Pds c [] []
 | cons {a:AV} {v:Value} {r:List AV} {vs:List Value}:Pd c a v->Pds c r vs->Pds c (a :: r) (v :: vs)
end
theorem Pds.all {c:Cx}:∀ {asx:List AV} {vs:List Value},Pds c asx vs->All2 (Pd c) asx vs
 | [],_,h=>by cases h; exact .nil
 | _ :: _,_,h=>by cases h with | cons h1 h2=>exact .cons h1 h2.all
theorem Pds.of {c:Cx}:∀ {asx:List AV} {vs:List Value},All2 (Pd c) asx vs->Pds c asx vs
 | [],_,h=>by cases h; exact .nil
 | _ :: _,_,h=>by cases h with | cons h1 h2=>exact .cons h1 (Pds.of h2)
structure Cx.le (c c':Cx):Prop where
 shp:c'.shp=c.shp
 B0:c'.B0=c.B0
 S:∀ b,c.S b->c'.S b/\c'.w.heap[b]? = c.w.heap[b]?
 lo:∀ b,b<c.B0->b<c.w.heap.size->c'.w.heap[b]? = c.w.heap[b]?
def Cx.low (c:Cx):Cx:=⟨c.shp,c.B0,fun b=>b<c.B0/\b<c.w.heap.size,c.w⟩
variable {b:Nat}
theorem lU {w w':World} (h:w'.heap[b]? = w.heap[b]?) (hb:b<w.heap.size):b<w'.heap.size:=by grind
theorem Cx.le.low {c c':Cx} (h:c.le c'):c.low.le c'.low:=⟨h.shp,h.B0,fun b hb=>⟨⟨by rw [h.B0]; exact hb.1,lU (h.lo b hb.1 hb.2) hb.2⟩,h.lo b hb.1 hb.2⟩,h.lo⟩
theorem Cx.le.refl (c:Cx):c.le c:=⟨rfl,rfl,fun _ h=>⟨h,rfl⟩,fun _ _ _=>rfl⟩
theorem Cx.le.trans {a b c:Cx} (h:a.le b) (k:b.le c):a.le c:=
 ⟨k.shp.trans h.shp,k.B0.trans h.B0,fun x hx=>⟨(k.S x (h.S x hx).1).1,((k.S x (h.S x hx).1).2).trans (h.S x hx).2⟩,fun x hx hs=>(k.lo x (by rw [h.B0]; exact hx) (lU (h.lo x hx hs) hs)).trans (h.lo x hx hs)⟩
variable {c':Cx}
theorem Cx.le.at_ {c:Cx} (h:c.le c') {s:Sh} (k:c.at s b):c'.at s b:=by
 refine ⟨(h.S b k.1).1,?_⟩;rcases k.2 with k2 | ⟨cur,t,fr,k2,k3,k4⟩
 ·left; rw [h.B0]; exact k2
 right; exact ⟨cur,t,fr,((h.S b k.1).2).trans k2,by rw [h.shp]; exact k3,k4⟩
theorem LiAt.le {c c':Cx} {nw:Bool} {a:Option Addr} {xs:List Int} (k:LiAt c nw a xs) (h:c.le c'):LiAt c' nw a xs:=by
 rcases k with k | ⟨A,hA,hn,ho,hc⟩
 ·exact .inl k
 refine .inr ⟨A,hA,fun e=>⟨(h.S _ (hn e).1).1,by rw [h.B0]; exact (hn e).2.1,?_⟩,fun e=>(ho e).imp (fun k=>⟨by rw [h.B0]; exact k.1,lU (h.lo _ k.1 k.2) k.2⟩) fun k=>h.at_ k,?_⟩
 ·obtain ⟨cur,t,fr,e1,e2,e3⟩:=(hn e).2.2;exact ⟨cur,t,fr,((h.S _ (hn e).1).2).trans e1,by rw [h.shp]; exact e2,e3⟩
 cases nw
 ·rcases ho rfl with k | k
  ·exact hc.keep (h.lo _ k.1 k.2)
  exact hc.keep (h.S _ k.1).2
 exact hc.keep (h.S _ (hn rfl).1).2
theorem sT {c:Cx} (h:c.le c'):(∀ a v,Pd c a v->Pd c' a v)/\(∀ asx vs,Pds c asx vs->Pds c' asx vs):=by
 refine ⟨fun a v hp=>?_,fun asx vs hp=>?_⟩
 ·refine @Pd.rec c (fun a v _=>Pd c' a v) (fun asx vs _=>Pds c' asx vs) ?_ ?_ ?_ ?_ ?_ ?_ ?_ ?_ ?_ ?_ a v hp
  ·intro n h1; exact .int h1
  ·intro b; exact .u8
  ·intro n h1; exact .u64 h1
  ·intro e; exact .bool
  ·intro s h1; exact .str h1
  ·intro b a h1; exact .em h1
  ·intro s xs a k cells h1 h2 h3 _ h5 ih;refine .fz h1 h2 h3 ih ?_;rcases h5 with h5 | ⟨A,hA,hat,hc⟩
   ·grind
   exact .inr ⟨A,hA,h.at_ hat,hc.keep (h.S _ hat.1).2⟩
  ·intro nw xs a k h1 h2 h3 h4 h5; exact .li h1 h2 h3 h4 (h5.le h)
  ·exact .nil
  intro a v r vs _ _ h1 h2; exact .cons h1 h2
 induction asx generalizing vs with
 | nil=>cases hp; exact .nil
 | cons a r ih=>
  cases hp with
  | cons h1 h2=>
   refine .cons ?_ (ih _ h2);refine @Pd.rec c (fun a v _=>Pd c' a v) (fun asx vs _=>Pds c' asx vs) ?_ ?_ ?_ ?_ ?_ ?_ ?_ ?_ ?_ ?_ _ _ h1
   ·intro n h1; exact .int h1
   ·intro b; exact .u8
   ·intro n h1; exact .u64 h1
   ·intro e; exact .bool
   ·intro s h1; exact .str h1
   ·intro b a h1; exact .em h1
   ·intro s xs a k cells h1 h2 h3 _ h5 ih;refine .fz h1 h2 h3 ih ?_;rcases h5 with h5 | ⟨A,hA,hat,hc⟩
    ·grind
    exact .inr ⟨A,hA,h.at_ hat,hc.keep (h.S _ hat.1).2⟩
   ·intro nw xs a k h1 h2 h3 h4 h5; exact .li h1 h2 h3 h4 (h5.le h)
   ·exact .nil
   intro a v r vs _ _ h1 h2; exact .cons h1 h2
variable {a:AV}
theorem Pd.carry {c:Cx} {v:Value} (h:Pd c a v) (k:c.le c'):Pd c' a v:=(sT k).1 _ _ h
variable {asx:List AV} {vs:List Value}
theorem Pds.carry {c:Cx} (h:Pds c asx vs) (k:c.le c'):Pds c' asx vs:=(sT k).2 _ _ h
theorem Pd.one {c:Cx} {v:Value} (h:Pd c a v):v.oneCell' = true:=by cases h <;> simp [Value.oneCell',Str.val]
theorem Pds.Lo {c:Cx}:∀ {asx:List AV} {vs:List Value},Pds c asx vs->∀ u ∈ vs,u.oneCell' = true
 | [],_,h=>by cases h; simp
 | _ :: _,_,h=>by
  cases h with
  | cons h1 h2=>
   intro u hu;rcases ac4.1 hu with rfl | hu
   ·exact h1.one
   exact h2.Lo u hu
theorem Pds.length {c:Cx} {asx:List AV} {vs:List Value} (h:Pds c asx vs):asx.length=vs.length:=h.all.length
theorem Pds.append {c:Cx}:∀ {asx bs:List AV} {vs us:List Value},Pds c asx vs->Pds c bs us->Pds c (asx++bs) (vs++us)
 | [],_,_,_,h,k=>by cases h; exact k
 | _ :: _,_,_,_,h,k=>by cases h with | cons h1 h2=>exact .cons h1 (h2.append k)
theorem Pds.take {c:Cx} {asx:List AV} {vs:List Value} (h:Pds c asx vs) (n:Nat):Pds c (asx.take n) (vs.take n):=.of (h.all.take n)
theorem Pds.drop {c:Cx} {asx:List AV} {vs:List Value} (h:Pds c asx vs) (n:Nat):Pds c (asx.drop n) (vs.drop n):=.of (h.all.drop n)
theorem cF (s:Sh) (x:den s):(cellsOf s x).length=s.size:=by
 cases s <;> try rfl
 rename_i t;cases t <;> rfl
theorem size_pos (s:Sh):0<s.size:=by
 cases s with
 | nm t=>cases t <;> decide
 | _=>simp [Sh.size]
theorem gC (s:Sh):0<s.bytes:=by
 cases s with
 | nm t=>cases t <;> decide
 | _=>simp [Sh.bytes]
theorem bR {s:Sh}:∀ (xs:List (den s)),(xs.flatMap (cellsOf s)).length=xs.length*s.size
 | []=>by simp
 | x :: r=>by rw [List.flatMap_cons,List.length_append,bR r,cF,List.length_cons,ahe]; omega
theorem nV {s:Sh}:∀ (xs:List (den s)) (i:Nat),(xs.flatMap (cellsOf s)).drop (i*s.size)=(xs.drop i).flatMap (cellsOf s)
 | [],i=>by simp
 | x :: r,0=>by simp
 | x :: r,i+1=>by
  rw [List.flatMap_cons,List.drop_append,List.drop_eq_nil_of_le (by rw [cF,ahe]; omega),cF,show (i+1)*s.size - s.size=i*s.size by rw [ahe]; omega,nV r i];simp
theorem uW {s:Sh}:∀ (xs:List (den s)) (i:Nat),(xs.flatMap (cellsOf s)).take (i*s.size)=(xs.take i).flatMap (cellsOf s)
 | [],i=>by simp
 | x :: r,0=>by simp
 | x :: r,i+1=>by
  rw [List.flatMap_cons,List.take_append,List.take_of_length_le (by rw [cF,ahe]; omega),cF,show (i+1)*s.size - s.size=i*s.size by rw [ahe]; omega,uW r i];simp
variable {i:Nat}
theorem nn {s:Sh} {xs:List (den s)} {x:den s} (h:xs[i]? = some x):((xs.flatMap (cellsOf s)).drop (i*s.size)).take s.size=cellsOf s x:=by
 rw [nV];have hi:i<xs.length:=(aam.1 h).1;rw [adz hi,List.flatMap_cons,ado (by rw [cF]; omega)];have hx:xs[i]=x:=by rw [List.getElem?_eq_getElem hi] at h; exact adb h
 rw [hx,List.take_of_length_le (by rw [cF]; omega)]
theorem zP {s:Sh} {xs:List (den s)} {x y:den s} (h:xs[i]? = some x):(xs.set i y).flatMap (cellsOf s)=(xs.take i).flatMap (cellsOf s)++cellsOf s y++(xs.drop (i+1)).flatMap (cellsOf s):=by
 have hi:i<xs.length:=(aam.1 h).1;have e:xs.set i y=xs.take i++y :: xs.drop (i+1):=by
  rw [List.set_eq_take_append_cons_drop,if_pos hi]
 grind
theorem oZ (s:Sh) (x:den s):∀ a ∈ cellsOf s x,a.plain=true:=by
 cases s with
 | nm t=>cases t <;> simp [cellsOf,NT.cells,AV.plain]
 | _=>simp [cellsOf,AV.plain]
section
variable {c:Cx} {a:AV} {v:Value}
theorem AV.ag8 {n:Int} (h:a.aR=some n):a = .int n:=by cases a <;> simp [AV.aR] at h; rw [h]
theorem AV.aej {n:UInt8} (h:a.T_=some n):a = .u8 n:=by cases a <;> simp [AV.T_] at h; rw [h]
theorem AV.afm {n:U64} (h:a.TE=some n):a = .u64 n.n:=by cases a <;> simp [AV.TE] at h; rw [<- h]
theorem AV.aeQ {n:Str} (h:a.Bb=some n):a = .str n:=by cases a <;> simp [AV.Bb] at h; rw [h]
def Qd (c:Cx) (a:AV) (v:Value):Prop:=a.plain=true->Pd c a v
theorem Pd.aR {n:Int} (h:a.aR=some n) (k:Qd c a v):Pd c (.int n) v:=by obtain rfl:=AV.ag8 h; exact k rfl
theorem Pd.T_ {n:UInt8} (h:a.T_=some n) (k:Qd c a v):Pd c (.u8 n) v:=by obtain rfl:=AV.aej h; exact k rfl
theorem Pd.TE {n:U64} (h:a.TE=some n) (k:Qd c a v):Pd c (.u64 n.n) v:=by obtain rfl:=AV.afm h; exact k rfl
theorem Pd.VT {x:Bool × List Int} (h:a.VT=some x) (k:Qd c a v):Pd c (.li x.1 x.2) v:=by
 cases a <;> simp [AV.VT] at h
 ·subst h;cases (k rfl) with
  | em h1=>exact Pd.li (xs:=[]) (k:=0) (ac5 _) (afV _) (by simp) (by simp) (.inl rfl)
 subst h; exact k rfl
theorem Pd.Bb {n:Str} (h:a.Bb=some n) (k:Qd c a v):Pd c (.str n) v:=by obtain rfl:=AV.aeQ h; exact k rfl
theorem Pd.tg {n:Bool} (h:a.tg=some n) (k:Qd c a v):Pd c (.bool (.atom n)) v:=by
 cases a <;> simp [AV.tg] at h;have k:=k rfl;cases k;rw [h];exact Pd.bool (e:=.atom n)
theorem Pd.Bs {s:Sh} {b:Bool} (k:Pd c (.em b) v):Pd c (.fz s []) v:=by
 cases k with
 | em h=>exact Pd.fz (xs:=([]:List (den s))) (cells:=[]) (ac5 _) (by simp [maxLen]) (by simp) .nil (.inl rfl)
theorem Pd.fC {s:Sh} {xs:List (den s)} (h:a.fC s=some xs) (k:Qd c a v):Pd c (.fz s xs) v:=by
 cases a <;> simp [AV.fC] at h
 ·subst h; exact (k rfl).Bs
 obtain ⟨rfl,h⟩:=h;subst h; exact k rfl
end
theorem Reply.aG {c:Cx} {x:Reply} (h:Reply.of asx=some x) (hv:All2 (Qd c) asx vs):Pds c (NT.cells .reply x) vs:=by
 unfold Reply.of at h;split at h
 ·split at h
  ·rename_i e0 e1;cases h;cases hv with | cons k0 hv=>cases hv with | cons k1 hv=>cases hv; exact .cons (Pd.aR e0 k0) ( .cons (Pd.aR e1 k1) .nil)
  cases h
 cases h
theorem Sess.aG {c:Cx} {x:Sess} (h:Sess.of asx=some x) (hv:All2 (Qd c) asx vs):Pds c (NT.cells .sess x) vs:=by
 unfold Sess.of at h;split at h
 ·split at h
  ·rename_i e0 e1 e2 e3;cases h;cases hv with | cons k0 hv=>cases hv with | cons k1 hv=>cases hv with | cons k2 hv=>cases hv with | cons k3 hv=>cases hv; exact .cons (Pd.aR e0 k0) ( .cons (Pd.aR e1 k1) ( .cons (Pd.aR e2 k2) ( .cons (Pd.aR e3 k3) .nil)))
  cases h
 cases h
theorem Opn.aG {c:Cx} {x:Opn} (h:Opn.of asx=some x) (hv:All2 (Qd c) asx vs):Pds c (NT.cells .opn x) vs:=by
 unfold Opn.of at h;split at h
 ·split at h
  ·rename_i e0 e1;cases h;cases hv with | cons k0 hv=>cases hv with | cons k1 hv=>cases hv; exact .cons (Pd.aR e0 k0) ( .cons (Pd.aR e1 k1) .nil)
  cases h
 cases h
theorem Snap.aG {c:Cx} {x:Snap} (h:Snap.of asx=some x) (hv:All2 (Qd c) asx vs):Pds c (NT.cells .snap x) vs:=by
 unfold Snap.of at h;split at h
 ·split at h
  ·rename_i e0 e1 e2 e3 e4;cases h;cases hv with | cons k0 hv=>cases hv with | cons k1 hv=>cases hv with | cons k2 hv=>cases hv with | cons k3 hv=>cases hv with | cons k4 hv=>cases hv; exact .cons (Pd.aR e0 k0) ( .cons (Pd.aR e1 k1) ( .cons (Pd.fC e2 k2) ( .cons (Pd.tg e3 k3) ( .cons (Pd.Bb e4 k4) .nil))))
  cases h
 cases h
theorem State.aG {c:Cx} {x:State} (h:State.of asx=some x) (hv:All2 (Qd c) asx vs):Pds c (NT.cells .state x) vs:=by
 unfold State.of at h;split at h
 ·split at h
  ·rename_i e0 e1 e2 e3 e4 e5 e6;cases h;cases hv with | cons k0 hv=>cases hv with | cons k1 hv=>cases hv with | cons k2 hv=>cases hv with | cons k3 hv=>cases hv with | cons k4 hv=>cases hv with | cons k5 hv=>cases hv with | cons k6 hv=>cases hv; exact .cons (Pd.aR e0 k0) ( .cons (Pd.aR e1 k1) ( .cons (Pd.aR e2 k2) ( .cons (Pd.aR e3 k3) ( .cons (Pd.fC e4 k4) ( .cons (Pd.fC e5 k5) ( .cons (Pd.fC e6 k6) .nil))))))
  cases h
 cases h
theorem Command.aG {c:Cx} {x:Command} (h:Command.of asx=some x) (hv:All2 (Qd c) asx vs):Pds c (NT.cells .command x) vs:=by
 unfold Command.of at h;split at h
 ·split at h
  ·rename_i e0 e1 e2 e3 e4 e5 e6 e7;cases h;cases hv with | cons k0 hv=>cases hv with | cons k1 hv=>cases hv with | cons k2 hv=>cases hv with | cons k3 hv=>cases hv with | cons k4 hv=>cases hv with | cons k5 hv=>cases hv with | cons k6 hv=>cases hv with | cons k7 hv=>cases hv; exact .cons (Pd.aR e0 k0) ( .cons (Pd.aR e1 k1) ( .cons (Pd.aR e2 k2) ( .cons (Pd.aR e3 k3) ( .cons (Pd.aR e4 k4) ( .cons (Pd.aR e5 k5) ( .cons (Pd.fC e6 k6) ( .cons (Pd.Bb e7 k7) .nil)))))))
  cases h
 cases h
theorem SnapE.aG {c:Cx} {x:SnapE} (h:SnapE.of asx=some x) (hv:All2 (Qd c) asx vs):Pds c (NT.cells .snapE x) vs:=by
 unfold SnapE.of at h;split at h
 ·split at h
  ·rename_i e0 e1 e2 e3 e4;cases h;cases hv with | cons k0 hv=>cases hv with | cons k1 hv=>cases hv with | cons k2 hv=>cases hv with | cons k3 hv=>cases hv with | cons k4 hv=>cases hv; exact .cons (Pd.aR e0 k0) ( .cons (Pd.aR e1 k1) ( .cons (Pd.VT e2 k2) ( .cons (Pd.tg e3 k3) ( .cons (Pd.Bb e4 k4) .nil))))
  cases h
 cases h
theorem Field.aG {c:Cx} {x:Field} (h:Field.of asx=some x) (hv:All2 (Qd c) asx vs):Pds c (NT.cells .field x) vs:=by
 unfold Field.of at h;split at h
 ·split at h
  ·rename_i e0 e1 e2 e3;cases h;cases hv with | cons k0 hv=>cases hv with | cons k1 hv=>cases hv with | cons k2 hv=>cases hv with | cons k3 hv=>cases hv; exact .cons (Pd.aR e0 k0) ( .cons (Pd.aR e1 k1) ( .cons (Pd.TE e2 k2) ( .cons (Pd.fC e3 k3) .nil)))
  cases h
 cases h
theorem Spec.aG {c:Cx} {x:Spec} (h:Spec.of asx=some x) (hv:All2 (Qd c) asx vs):Pds c (NT.cells .spec x) vs:=by
 unfold Spec.of at h;split at h
 ·split at h
  ·rename_i e0 e1 e2 e3 e4;cases h;cases hv with | cons k0 hv=>cases hv with | cons k1 hv=>cases hv with | cons k2 hv=>cases hv with | cons k3 hv=>cases hv with | cons k4 hv=>cases hv; exact .cons (Pd.aR e0 k0) ( .cons (Pd.aR e1 k1) ( .cons (Pd.aR e2 k2) ( .cons (Pd.tg e3 k3) ( .cons (Pd.tg e4 k4) .nil))))
  cases h
 cases h
theorem Entry.aG {c:Cx} {x:Entry} (h:Entry.of asx=some x) (hv:All2 (Qd c) asx vs):Pds c (NT.cells .entry x) vs:=by
 unfold Entry.of at h;split at h
 ·split at h
  ·rename_i e0 e1;cases h;cases hv with | cons k0 hv=>cases hv with | cons k1 hv=>cases hv; exact .cons (Pd.aR e0 k0) ( .cons (Pd.fC e1 k1) .nil)
  cases h
 cases h
theorem Record.aG {c:Cx} {x:Record} (h:Record.of asx=some x) (hv:All2 (Qd c) asx vs):Pds c (NT.cells .record x) vs:=by
 unfold Record.of at h;split at h
 ·split at h
  ·rename_i e0 e1 e2 e3;cases h;cases hv with | cons k0 hv=>cases hv with | cons k1 hv=>cases hv with | cons k2 hv=>cases hv with | cons k3 hv=>cases hv; exact .cons (Pd.aR e0 k0) ( .cons (Pd.aR e1 k1) ( .cons (Pd.aR e2 k2) ( .cons (Pd.fC e3 k3) .nil)))
  cases h
 cases h
theorem Letter.aG {c:Cx} {x:Letter} (h:Letter.of asx=some x) (hv:All2 (Qd c) asx vs):Pds c (NT.cells .letter x) vs:=by
 unfold Letter.of at h;split at h
 ·split at h
  ·rename_i e0 e1 e2 e3 e4 e5 e6 e7 e8 e9;cases h;cases hv with | cons k0 hv=>cases hv with | cons k1 hv=>cases hv with | cons k2 hv=>cases hv with | cons k3 hv=>cases hv with | cons k4 hv=>cases hv with | cons k5 hv=>cases hv with | cons k6 hv=>cases hv with | cons k7 hv=>cases hv with | cons k8 hv=>cases hv with | cons k9 hv=>cases hv; exact .cons (Pd.aR e0 k0) ( .cons (Pd.aR e1 k1) ( .cons (Pd.aR e2 k2) ( .cons (Pd.aR e3 k3) ( .cons (Pd.aR e4 k4) ( .cons (Pd.aR e5 k5) ( .cons (Pd.aR e6 k6) ( .cons (Pd.aR e7 k7) ( .cons (Pd.tg e8 k8) ( .cons (Pd.fC e9 k9) .nil)))))))))
  cases h
 cases h
theorem Event.aG {c:Cx} {x:Event} (h:Event.of asx=some x) (hv:All2 (Qd c) asx vs):Pds c (NT.cells .event x) vs:=by
 unfold Event.of at h;split at h
 ·split at h
  ·rename_i e0 e1 e2 e3 e4 e5 e6 e7 e8 e9 e10;cases h;cases hv with | cons k0 hv=>cases hv with | cons k1 hv=>cases hv with | cons k2 hv=>cases hv with | cons k3 hv=>cases hv with | cons k4 hv=>cases hv with | cons k5 hv=>cases hv with | cons k6 hv=>cases hv with | cons k7 hv=>cases hv with | cons k8 hv=>cases hv with | cons k9 hv=>cases hv with | cons k10 hv=>cases hv; exact .cons (Pd.aR e0 k0) ( .cons (Pd.aR e1 k1) ( .cons (Pd.aR e2 k2) ( .cons (Pd.aR e3 k3) ( .cons (Pd.aR e4 k4) ( .cons (Pd.aR e5 k5) ( .cons (Pd.aR e6 k6) ( .cons (Pd.aR e7 k7) ( .cons (Pd.aR e8 k8) ( .cons (Pd.fC e9 k9) ( .cons (Pd.Bb e10 k10) .nil))))))))))
  cases h
 cases h
theorem CallR.aG {c:Cx} {x:CallR} (h:CallR.of asx=some x) (hv:All2 (Qd c) asx vs):Pds c (NT.cells .call x) vs:=by
 unfold CallR.of at h;split at h
 ·split at h
  ·rename_i e0 e1 e2 e3 e4 e5 e6 e7 e8 e9 e10 e11 e12 e13 e14 e15;cases h;cases hv with | cons k0 hv=>cases hv with | cons k1 hv=>cases hv with | cons k2 hv=>cases hv with | cons k3 hv=>cases hv with | cons k4 hv=>cases hv with | cons k5 hv=>cases hv with | cons k6 hv=>cases hv with | cons k7 hv=>cases hv with | cons k8 hv=>cases hv with | cons k9 hv=>cases hv with | cons k10 hv=>cases hv with | cons k11 hv=>cases hv with | cons k12 hv=>cases hv with | cons k13 hv=>cases hv with | cons k14 hv=>cases hv with | cons k15 hv=>cases hv; exact .cons (Pd.aR e0 k0) ( .cons (Pd.aR e1 k1) ( .cons (Pd.aR e2 k2) ( .cons (Pd.aR e3 k3) ( .cons (Pd.aR e4 k4) ( .cons (Pd.aR e5 k5) ( .cons (Pd.aR e6 k6) ( .cons (Pd.aR e7 k7) ( .cons (Pd.aR e8 k8) ( .cons (Pd.aR e9 k9) ( .cons (Pd.aR e10 k10) ( .cons (Pd.fC e11 k11) ( .cons (Pd.Bb e12 k12) ( .cons (Pd.tg e13 k13) ( .cons (Pd.aR e14 k14) ( .cons (Pd.aR e15 k15) .nil)))))))))))))))
  cases h
 cases h
theorem Stable.aG {c:Cx} {x:Stable} (h:Stable.of asx=some x) (hv:All2 (Qd c) asx vs):Pds c (NT.cells .stable x) vs:=by
 unfold Stable.of at h;split at h
 ·split at h
  ·rename_i e0 e1 e2 e3;cases h;cases hv with | cons k0 hv=>cases hv with | cons k1 hv=>cases hv with | cons k2 hv=>cases hv with | cons k3 hv=>cases hv; exact .cons (Pd.aR e0 k0) ( .cons (Pd.aR e1 k1) ( .cons (Pd.aR e2 k2) ( .cons (Pd.fC e3 k3) .nil)))
  cases h
 cases h
theorem Route.aG {c:Cx} {x:Route} (h:Route.of asx=some x) (hv:All2 (Qd c) asx vs):Pds c (NT.cells .route x) vs:=by
 unfold Route.of at h;split at h
 ·split at h
  ·rename_i e0 e1 e2 e3 e4;cases h;cases hv with | cons k0 hv=>cases hv with | cons k1 hv=>cases hv with | cons k2 hv=>cases hv with | cons k3 hv=>cases hv with | cons k4 hv=>cases hv; exact .cons (Pd.aR e0 k0) ( .cons (Pd.aR e1 k1) ( .cons (Pd.aR e2 k2) ( .cons (Pd.aR e3 k3) ( .cons (Pd.aR e4 k4) .nil))))
  cases h
 cases h
theorem Site.aG {c:Cx} {x:Site} (h:Site.of asx=some x) (hv:All2 (Qd c) asx vs):Pds c (NT.cells .site x) vs:=by
 unfold Site.of at h;split at h
 ·split at h
  ·rename_i e0 e1 e2 e3 e4 e5 e6 e7 e8 e9 e10 e11 e12 e13 e14 e15;cases h;cases hv with | cons k0 hv=>cases hv with | cons k1 hv=>cases hv with | cons k2 hv=>cases hv with | cons k3 hv=>cases hv with | cons k4 hv=>cases hv with | cons k5 hv=>cases hv with | cons k6 hv=>cases hv with | cons k7 hv=>cases hv with | cons k8 hv=>cases hv with | cons k9 hv=>cases hv with | cons k10 hv=>cases hv with | cons k11 hv=>cases hv with | cons k12 hv=>cases hv with | cons k13 hv=>cases hv with | cons k14 hv=>cases hv with | cons k15 hv=>cases hv; exact .cons (Pd.tg e0 k0) ( .cons (Pd.aR e1 k1) ( .cons (Pd.aR e2 k2) ( .cons (Pd.aR e3 k3) ( .cons (Pd.aR e4 k4) ( .cons (Pd.aR e5 k5) ( .cons (Pd.aR e6 k6) ( .cons (Pd.aR e7 k7) ( .cons (Pd.fC e8 k8) ( .cons (Pd.aR e9 k9) ( .cons (Pd.aR e10 k10) ( .cons (Pd.aR e11 k11) ( .cons (Pd.aR e12 k12) ( .cons (Pd.fC e13 k13) ( .cons (Pd.fC e14 k14) ( .cons (Pd.fC e15 k15) .nil)))))))))))))))
  cases h
 cases h
theorem NOp.aG {c:Cx} {x:NOp} (h:NOp.of asx=some x) (hv:All2 (Qd c) asx vs):Pds c (NT.cells .nop x) vs:=by
 unfold NOp.of at h;split at h
 ·split at h
  ·rename_i e0 e1 e2 e3 e4 e5 e6 e7 e8 e9 e10 e11 e12 e13 e14 e15 e16 e17 e18 e19;cases h;cases hv with | cons k0 hv=>cases hv with | cons k1 hv=>cases hv with | cons k2 hv=>cases hv with | cons k3 hv=>cases hv with | cons k4 hv=>cases hv with | cons k5 hv=>cases hv with | cons k6 hv=>cases hv with | cons k7 hv=>cases hv with | cons k8 hv=>cases hv with | cons k9 hv=>cases hv with | cons k10 hv=>cases hv with | cons k11 hv=>cases hv with | cons k12 hv=>cases hv with | cons k13 hv=>cases hv with | cons k14 hv=>cases hv with | cons k15 hv=>cases hv with | cons k16 hv=>cases hv with | cons k17 hv=>cases hv with | cons k18 hv=>cases hv with | cons k19 hv=>cases hv; exact .cons (Pd.T_ e0 k0) ( .cons (Pd.aR e1 k1) ( .cons (Pd.aR e2 k2) ( .cons (Pd.aR e3 k3) ( .cons (Pd.aR e4 k4) ( .cons (Pd.aR e5 k5) ( .cons (Pd.aR e6 k6) ( .cons (Pd.aR e7 k7) ( .cons (Pd.aR e8 k8) ( .cons (Pd.aR e9 k9) ( .cons (Pd.tg e10 k10) ( .cons (Pd.fC e11 k11) ( .cons (Pd.aR e12 k12) ( .cons (Pd.aR e13 k13) ( .cons (Pd.aR e14 k14) ( .cons (Pd.aR e15 k15) ( .cons (Pd.aR e16 k16) ( .cons (Pd.aR e17 k17) ( .cons (Pd.fC e18 k18) ( .cons (Pd.Bb e19 k19) .nil)))))))))))))))))))
  cases h
 cases h
theorem Rest.aG {c:Cx} {x:Rest} (h:Rest.of asx=some x) (hv:All2 (Qd c) asx vs):Pds c (NT.cells .rest x) vs:=by
 unfold Rest.of at h;split at h
 ·split at h
  ·rename_i e0 e1;cases h;cases hv with | cons k0 hv=>cases hv with | cons k1 hv=>cases hv; exact .cons (Pd.fC e0 k0) ( .cons (Pd.T_ e1 k1) .nil)
  cases h
 cases h
theorem Span.aG {c:Cx} {x:Span} (h:Span.of asx=some x) (hv:All2 (Qd c) asx vs):Pds c (NT.cells .span x) vs:=by
 unfold Span.of at h;split at h
 ·split at h
  ·rename_i e0 e1;cases h;cases hv with | cons k0 hv=>cases hv with | cons k1 hv=>cases hv; exact .cons (Pd.aR e0 k0) ( .cons (Pd.aR e1 k1) .nil)
  cases h
 cases h
theorem Rr {c:Cx} {t:NT} {x:t.den} (h:NT.of t asx=some x) (hv:All2 (Qd c) asx vs):Pds c (t.cells x) vs:=by
 cases t
 ·exact Reply.aG h hv
 ·exact Sess.aG h hv
 ·exact Opn.aG h hv
 ·exact Snap.aG h hv
 ·exact State.aG h hv
 ·exact Command.aG h hv
 ·exact SnapE.aG h hv
 ·exact Field.aG h hv
 ·exact Spec.aG h hv
 ·exact Entry.aG h hv
 ·exact Record.aG h hv
 ·exact Letter.aG h hv
 ·exact Event.aG h hv
 ·exact CallR.aG h hv
 ·exact Stable.aG h hv
 ·exact Route.aG h hv
 ·exact Site.aG h hv
 ·exact NOp.aG h hv
 ·exact Rest.aG h hv
 exact Span.aG h hv
theorem aG {c:Cx} {s:Sh} {x:den s} (h:fT s asx=some x) (hv:All2 (Qd c) asx vs):Pds c (cellsOf s x) vs:=by
 unfold fT at h;split at h
 ·cases h; cases hv with | cons h1 h2=>cases h2; exact .cons (h1 rfl) .nil
 ·cases h; cases hv with | cons h1 h2=>cases h2; exact .cons (h1 rfl) .nil
 ·cases h; cases hv with | cons h1 h2=>cases h2; exact .cons (h1 rfl) .nil
 ·cases h; cases hv with | cons h1 h2=>cases h2; exact .cons (Pd.tg rfl h1) .nil
 ·cases h; cases hv with | cons h1 h2=>cases h2; exact .cons (h1 rfl) .nil
 ·cases hv with | cons h1 h2=>cases h2; exact .cons (Pd.VT h h1) .nil
 ·cases hv with | cons h1 h2=>cases h2; exact .cons (Pd.fC h h1) .nil
 ·exact Rr h hv
 cases h
end Go.Proofs.YticbaadnibdbkaaGreat
namespace Go.Proofs.YticbaadnibdbkaaGreat
open Go.RowKit
inductive RE
 | no | blk (g:Nat) | row (g cap len z:Nat) | emp
def RE.g?:RE->Option Nat
 | .blk g=>some g
 | .row g _ _ _=>some g
 | _=>none
def live (ρ:List RE) (b:Nat):Prop:=∃ (i:Nat) (r:RE),ρ[i]? = some r/\r.g? = some b
structure Gl where
 shp:TypeId->Option Sh
 B0:Nat
 Z:Nat->Prop
def cx (G:Gl) (ρ:List RE) (w:World):Cx:=⟨G.shp,G.B0,fun b=>b<w.heap.size/\¬ live ρ b/\¬ G.Z b,w⟩
def dP (ρ:List RE) (q:Nat × Nat) (v:Value):Prop:=∃ g,ρ[q.1]? = some (.blk g)/\v = .pointer (some ⟨g,q.2,none⟩)
def oE:Value->Option Int
 | .int .i64 v=>some v
 | _=>none
def getM (k:Int):List MapEntry->Option Value
 | []=>none
 | e :: r=>if oE e.key=some k then some e.val else getM k r
def V1 (c:Cx) (s:Sh) (x:den s) (v:Value):Prop:=∃ vs,Pds c (cellsOf s x) vs/\((s.oc=true/\v = .agg vs.toArray)\/(s.oc=false/\vs=[v]))
def VO (c:Cx) (s:Sh):Option Value->Option (den s)->Prop
 | none,none=>True
 | some v,some x=>V1 c s x v
 | _,_=>False
def OI (c:Cx) (g:Nat) (s:Sh) (f:Int->Option (den s)):Prop:=
 ∃ a n,c.w.heap[g]? = some (.map a n)/\(∀ e ∈ a.toList,∃ k,e.key = .int .i64 k)/\∀ k,VO c s (getM k a.toList) (f k)
def PF:Value->Option Str
 | .string s=>some ⟨s.data.toList⟩
 | _=>none
def wy (k:Str):List MapEntry->Option Value
 | []=>none
 | e :: r=>if PF e.key=some k then some e.val else wy k r
def af7 (l:List MapEntry) (f:Str->Option Int):Prop:=(∀ e ∈ l,∃ s,e.key = .string s)/\∀ k,wy k l=(f k).map (.int .i64)/\∀ n,f k=some n->I64 n
def KC.val:KC->Value
 | .i n=>.int .i64 n
 | .b v=>.bool v
 | .f g=>.func (.func g) #[] #[]
 | .nf=>.nilFunc
def KC.fv:KC->Value
 | .f g=>.func (.func g) #[] #[]
 | _=>.nilFunc
def aeg (a:List MapEntry) (l:List (Int × List KC)):Prop:=(∀ e ∈ a,∃ k,e.key = .int .i64 k)/\∀ k,getM k a=(dA l k).map fun cs=>.agg (cs.map KC.val).toArray
def XK.rd (c:Cx):XK->List Value->Value->Prop
 | .er b,us,v=>us=[]/\((b=true/\v = .nilIface)\/(b=false/\∃ t u,v = .iface t u))
 | .pl,us,v=>∃ A,v = .slice (some A) us.length us.length/\us.length<=16777216/\c.S A.block/\CellsAt c.w A us
 | .pa,us,v=>∃ A,v = .pointer (some A)/\c.S A.block/\CellsAt c.w A us
 | .fm f,us,v=>us=[]/\∃ g a n,v = .map (some g)/\c.S g/\c.w.heap[g]? = some (.map a n)/\af7 a.toList f
 | .bp,us,v=>us.length=1/\(v = .pointer none\/us=[v])
 | .ff s xs,us,v=>us=[]/\Pd c.low (.fz s xs) v
 | .mx b xs,us,v=>us=[]/\Pd (bif b then c else c.low) (.fz .int xs) v
 | .w n,us,v=>us=[]/\n<4294967296/\v = .int .u32 n
 | .km l,us,v=>us=[]/\∃ g a n,v = .map (some g)/\c.S g/\c.w.heap[g]? = some (.map a n)/\aeg a.toList l
 | .kf x,us,v=>us=[]/\v=x.fv
variable {us:List Value}
theorem XK.Ud {c c':Cx} {s:Sh} {xs:List (den s)} {v:Value} (h:XK.rd c (.ff s xs) us v) (hc:c.low.le c'.low):XK.rd c' (.ff s xs) us v:=⟨h.1,h.2.carry hc⟩
theorem XK.rd.le {c c':Cx} {k:XK} {us:List Value} {v:Value} (h:k.rd c us v) (hc:c.le c'):k.rd c' us v:=by
 cases k;case er=>exact h
 case pl=>obtain ⟨A,h1,h0,h2,h3⟩:=h; exact ⟨A,h1,h0,(hc.S _ h2).1,h3.keep (hc.S _ h2).2⟩
 case pa=>obtain ⟨A,h1,h2,h3⟩:=h; exact ⟨A,h1,(hc.S _ h2).1,h3.keep (hc.S _ h2).2⟩
 case fm=>obtain ⟨h0,g,a,n,h1,h2,h3,h4⟩:=h; exact ⟨h0,g,a,n,h1,(hc.S _ h2).1,((hc.S _ h2).2).trans h3,h4⟩
 case bp=>exact h
 case w=>exact h
 case kf=>exact h
 case km=>obtain ⟨h0,g,a,n,h1,h2,h3,h4⟩:=h; exact ⟨h0,g,a,n,h1,(hc.S _ h2).1,((hc.S _ h2).2).trans h3,h4⟩
 case ff=>exact XK.Ud h hc.low
 case mx nw xs=>
  cases nw
  ·exact ⟨h.1,h.2.carry hc.low⟩
  exact ⟨h.1,h.2.carry hc⟩
variable {ρ:List RE}
theorem XK.rd.one {c:Cx} {k:XK} {cs:List (Nat × Nat)} {v:Value} (h:k.rd c us v) (hc:All2 (dP ρ) cs us):v.oneCell' = true:=by
 cases k;case er=>obtain ⟨_,⟨_,rfl⟩ | ⟨_,_,_,rfl⟩⟩:=h <;> rfl
 case pl=>obtain ⟨A,rfl,_⟩:=h; rfl
 case pa=>obtain ⟨A,rfl,_⟩:=h; rfl
 case fm=>obtain ⟨_,g,a,n,rfl,_⟩:=h; rfl
 case ff=>obtain ⟨_,h⟩:=h; cases h; rfl
 case mx=>obtain ⟨_,h⟩:=h; cases h; rfl
 case w=>obtain ⟨_,_,rfl⟩:=h; rfl
 case km=>obtain ⟨_,g,a,n,rfl,_⟩:=h; rfl
 case kf x=>obtain ⟨_,rfl⟩:=h; cases x <;> rfl
 case bp=>
  obtain ⟨_,rfl | rfl⟩:=h
  ·rfl
  cases hc with | cons h1 _=>obtain ⟨_,_,rfl⟩:=h1; rfl
def Rd (c:Cx) (ρ:List RE):AV->Value->Prop
 | .mq id,v=>∃ g,ρ[id]? = some (.blk g)/\v = .map (some g)
 | .own id,v=>(∃ g cap len z,ρ[id]? = some (.row g cap len z)/\v = .slice (some ⟨g,0,none⟩) len cap)\/(ρ[id]? = some .emp/\∃ a,v = .slice a 0 0)
 | .sub id off len,v=>(∃ g cap L z,ρ[id]? = some (.row g cap L z)/\off+len<=L/\v = .slice (some ⟨g,off*z,none⟩) len (cap - off))\/(ρ[id]? = some .emp/\off=0/\len=0/\∃ a,v = .slice a 0 0)
 | .ptr id o,v=>dP ρ (id,o) v
 | .np,v=>v = .pointer none
 | .elp id i o,v=>∃ g cap len z,ρ[id]? = some (.row g cap len z)/\i<len/\v = .pointer (some ⟨g,i*z+o,none⟩)
 | .fe s x o,v=>∃ A cells,c.S A.block/\CellsAt c.w A cells/\Pds c (cellsOf s x) cells/\v = .pointer (some (A.add o))
 | .fn f b cs,v=>∃ bs us,All2 (dP ρ) b bs/\All2 (dP ρ) cs us/\v = .func (.func f) bs.toArray us.toArray
 | .nf,v=>v = .nilFunc
 | .yl l,v=>v = .func (.yield l) #[] #[]
 | .xx k cs,v=>∃ us,All2 (dP ρ) cs us/\k.rd c us v
 | .dead,v=>v.oneCell' = true
 | a,v=>Pd c a v
def cO (c:Cx) (ρ:List RE):TV1->Value->Prop
 | .c a,v=>Rd c ρ a v
 | .agg l,v=>∃ vs,v = .agg vs.toArray/\All2 (Rd c ρ) l vs
def Rt (c:Cx) (ρ:List RE):TV->Value->Prop
 | .one t,v=>cO c ρ t v
 | .tup l,v=>∃ vs,v = .tuple vs.toArray/\All2 (cO c ρ) l vs
 | .un,_=>True
def FrR (c:Cx) (ρ:List RE) (fr:AFr) (F:Fr):Prop:=All2 (fun p q=>p.1=q.1/\Rt c ρ p.2 q.2) fr F
def lookF (k:Int):List (Int × AV)->Option AV
 | []=>none
 | (j,a) :: r=>if k=j then some a else lookF k r
def FO (c:Cx) (ρ:List RE):Option Value->Option AV->Prop
 | none,none=>True
 | some v,some a=>Rd c ρ a v
 | _,_=>False
def PA (c:Cx) (ρ:List RE) (g:Nat) (l:List (Int × AV)):Prop:=
 ∃ a n,c.w.heap[g]? = some (.map a n)/\(∀ e ∈ a.toList,∃ k,e.key = .int .i64 k)/\∀ k,FO c ρ (getM k a.toList) (lookF k l)
def OR (c:Cx) (ρ:List RE):AO->RE->Prop
 | .gone,r=>r = .no
 | .mapo s f,r=>∃ g,r = .blk g/\OI c g s f
 | .mapf l,r=>∃ g,r = .blk g/\PA c ρ g l
 | .loc,_=>True
 | .arr t s n xs,r=>∃ g vs,r = .blk g/\c.w.heap[g]? = some (.cells (List.toArray vs) t (0,0))/\Pds c (xs.flatMap (cellsOf s)) vs/\xs.length=n/\s.size=1
 | .box t cs,r=>∃ g vs,r = .blk g/\c.w.heap[g]? = some (.cells (List.toArray vs) t (0,0))/\All2 (Rd c ρ) cs vs
 | .row t s xs,r=>c.shp t=some s/\xs.length*s.bytes<=140737488355328/\((r = .emp/\xs=[])\/∃ g cap cells sp,r = .row g cap xs.length s.size/\c.w.heap[g]? = some (.cells (List.toArray (cells++sp)) t (0,0)) /\
   Pds c (xs.flatMap (cellsOf s)) cells/\(cells++sp).length=cap*s.size/\xs.length<=cap/\cap<=maxLen)
def afY (c:Cx) (q:Nat × Bool):Prop:=c.S q.1/\∃ v t fr,c.w.heap[q.1]? = some (.cells #[v] t fr)/\match q.2 with
 | true=>∃ m,v = .int .i64 m
 | false=>∃ tp p,v = .iface tp p
def TabsOK (c:Cx):Prop:=(∀ q ∈ aaR,afY c q)/\∀ e ∈ Qt,c.S e.g/\e.g<c.B0/\e.xs.length<=maxLen/\e.xs.length*e.s.bytes<=140737488355328/\∃ cells t fr,c.w.heap[e.g]? = some (.cells (List.toArray cells) t fr)/\Pds c (e.xs.flatMap (cellsOf e.s)) cells
theorem TabsOK.carry {c c':Cx} (h:TabsOK c) (k:c.le c'):TabsOK c':=by
 refine ⟨fun q hq=>?_,fun e he=>?_⟩
 ·obtain ⟨h1,v,t,fr,h2,h3⟩:=h.1 q hq;exact ⟨(k.S _ h1).1,v,t,fr,((k.S _ h1).2).trans h2,h3⟩
 obtain ⟨h1,h2,h3,h4,cells,t,fr,h5,h6⟩:=h.2 e he;exact ⟨(k.S _ h1).1,by rw [k.B0]; exact h2,h3,h4,cells,t,fr,((k.S _ h1).2).trans h5,h6.carry k⟩
structure Rep (G:Gl) (ρ:List RE) (H:AH) (w:World):Prop where
 obj:All2 (OR (cx G ρ w) ρ) H ρ
 inj:∀ (i j:Nat) (r r':RE) (g:Nat),ρ[i]? = some r->ρ[j]? = some r' -> r.g? = some g->r'.g? = some g->i=j
 bnd:∀ (i:Nat) (r:RE) (g:Nat),ρ[i]? = some r->r.g? = some g->G.B0<=g/\g<w.heap.size/\¬ G.Z g
 z:∀ b,G.Z b->b<w.heap.size
 b0:G.B0<=w.heap.size
 tb:TabsOK (cx G ρ w)
structure Ext (ρ0:List RE) (w0:World) (ρ:List RE) (w:World):Prop where
 os:w.os=w0.os
 tape:w.tape=w0.tape
 output:w.output=w0.output
 size:w0.heap.size<=w.heap.size
 old:∀ b,b<w0.heap.size->¬ live ρ0 b->¬ live ρ b/\w.heap[b]? = w0.heap[b]?
theorem Ext.refl (ρ:List RE) (w:World):Ext ρ w ρ w:=⟨rfl,rfl,rfl,ac5 _,fun _ _ h=>⟨h,rfl⟩⟩
theorem Ext.trans {ρ0 ρ1 ρ2:List RE} {a b c:World} (h:Ext ρ0 a ρ1 b) (k:Ext ρ1 b ρ2 c):Ext ρ0 a ρ2 c:=
 ⟨k.os.trans h.os,k.tape.trans h.tape,k.output.trans h.output,Nat.le_trans h.size k.size,fun x hx hl=>by
  obtain ⟨h1,h2⟩:=h.old x hx hl;obtain ⟨h3,h4⟩:=k.old x (ac3 hx h.size) h1;exact ⟨h3,h4.trans h2⟩⟩
variable {w:World} {H:AH}
theorem Rep.lo {G:Gl} (h:Rep G ρ H w) (b:Nat) (hb:b<G.B0):b<w.heap.size/\¬ live ρ b:=
 ⟨ac3 hb h.b0,fun ⟨i,r,h1,h2⟩=>by have:=(h.bnd i r b h1 h2).1; omega⟩
theorem Ext.le {G:Gl} {ρ ρ':List RE} {w w':World} (h:Ext ρ w ρ' w') (hl:∀ b,b<G.B0->b<w.heap.size/\¬ live ρ b):(cx G ρ w).le (cx G ρ' w'):=
 ⟨rfl,rfl,fun b hb=>⟨⟨ac3 hb.1 h.size,(h.old b hb.1 hb.2.1).1,hb.2.2⟩,(h.old b hb.1 hb.2.1).2⟩,fun b hb hs=>(h.old b hs (hl b hb).2).2⟩
theorem Kp.le {G:Gl} {ρ:List RE} {w w':World} (k:Kp [] w w'):(cx G ρ w).le (cx G ρ w'):=
 ⟨rfl,rfl,fun b hb=>⟨⟨ac3 hb.1 k.size,hb.2⟩,k.block b hb.1 (by simp)⟩,fun b _ hs=>k.block b hs (by simp)⟩
theorem Ext.kp {w':World} (k:Kp [] w w'):Ext ρ w ρ w':=⟨k.os,k.tape,k.output,k.size,fun b hb h=>⟨h,k.block b hb (by simp)⟩⟩
variable {a:AV}
theorem gS {c:Cx} {v:Value} (h:a.plain=true):Rd c ρ a v↔Pd c a v:=by cases a <;> first | exact .rfl | cases h
theorem kN {c:Cx} {v:Value} (h:Pd c a v):Rd c ρ a v:=by cases h <;> first | exact .int ‹_› | exact .u8 | exact .u64 ‹_› | exact .bool | exact .str ‹_› | exact .em ‹_› | exact .li ‹_› ‹_› ‹_› ‹_› ‹_› | exact .fz ‹_› ‹_› ‹_› ‹_› ‹_›
theorem fU {c:Cx} {ρ:List RE}:∀ {asx:List AV} {vs:List Value},Pds c asx vs->All2 (Rd c ρ) asx vs
 | [],_,h=>by cases h; exact .nil
 | _ :: _,_,h=>by cases h with | cons h1 h2=>exact .cons (kN h1) (fU h2)
theorem jE {c:Cx} {ρ:List RE}:∀ {asx:List AV} {vs:List Value},(∀ a ∈ asx,a.plain=true)->All2 (Rd c ρ) asx vs->Pds c asx vs
 | [],_,_,h=>by cases h; exact .nil
 | _ :: _,_,hp,h=>by cases h with | cons h1 h2=>exact .cons ((gS (hp _ (by simp))).1 h1) (jE (fun a ha=>hp a (by simp [ha])) h2)
theorem Rd.one {c:Cx} {ρ:List RE} {a:AV} {v:Value} (h:Rd c ρ a v):v.oneCell' = true:=by
 cases a;case own=>rcases h with ⟨_,_,_,_,_,rfl⟩ | ⟨_,_,rfl⟩ <;> rfl
 case sub=>rcases h with ⟨_,_,_,_,_,_,rfl⟩ | ⟨_,_,_,_,rfl⟩ <;> rfl
 case ptr=>obtain ⟨_,_,rfl⟩:=h; rfl
 case np=>cases h; rfl
 case elp=>obtain ⟨_,_,_,_,_,_,rfl⟩:=h; rfl
 case fe=>obtain ⟨_,_,_,_,_,rfl⟩:=h; rfl
 case fn=>obtain ⟨_,_,_,_,rfl⟩:=h; rfl
 case nf=>cases h; rfl
 case yl=>cases h; rfl
 case xx=>obtain ⟨us,h1,h2⟩:=h; exact h2.one h1
 case mq=>obtain ⟨_,_,rfl⟩:=h; rfl
 case dead=>exact h
 all_goals exact Pd.one h
def jP (ρ ρ':List RE):Prop:=∀ (i:Nat) (r:RE),ρ[i]? = some r->r ≠ .no->ρ'[i]? = some r
theorem jP.refl (ρ:List RE):jP ρ ρ:=fun _ _ h _=>h
theorem fR (ρ σ:List RE):jP ρ (ρ++σ):=fun i r h _=>by
 rw [List.getElem?_append_left (aam.1 h).1]; exact h
theorem dP.carry {ρ':List RE} {q:Nat × Nat} {v:Value} (h:dP ρ q v) (k:jP ρ ρ'):dP ρ' q v:=by
 obtain ⟨g,h1,h2⟩:=h;exact ⟨g,k _ _ h1 (by simp),h2⟩
theorem Rd.carry {c c':Cx} {ρ ρ':List RE} {a:AV} {v:Value} (h:Rd c ρ a v) (hc:c.le c') (k:jP ρ ρ'):Rd c' ρ' a v:=by
 cases a;case own=>
  rcases h with ⟨g,cap,len,z,h,e⟩ | ⟨h,e⟩
  ·exact .inl ⟨g,cap,len,z,k _ _ h (by simp),e⟩
  exact .inr ⟨k _ _ h (by simp),e⟩
 case sub=>
  rcases h with ⟨g,cap,len,z,h,e⟩ | ⟨h,e⟩
  ·exact .inl ⟨g,cap,len,z,k _ _ h (by simp),e⟩
  exact .inr ⟨k _ _ h (by simp),e⟩
 case ptr=>exact dP.carry h k
 case np=>exact h
 case elp=>
  obtain ⟨g,cap,len,z,h,e⟩:=h;exact ⟨g,cap,len,z,k _ _ h (by simp),e⟩
 case fe=>
  obtain ⟨A,cells,h1,h2,h3,e⟩:=h;exact ⟨A,cells,(hc.S _ h1).1,h2.keep (hc.S _ h1).2,h3.carry hc,e⟩
 case fn=>
  obtain ⟨bs,us,h1,h2,e⟩:=h;exact ⟨bs,us,h1.imp fun _ _ h=>h.carry k,h2.imp fun _ _ h=>h.carry k,e⟩
 case nf=>exact h
 case yl=>exact h
 case xx=>
  obtain ⟨us,h1,h2⟩:=h;exact ⟨us,h1.imp fun _ _ h=>h.carry k,h2.le hc⟩
 case mq=>
  obtain ⟨g,h1,e⟩:=h;exact ⟨g,k _ _ h1 (by simp),e⟩
 case dead=>exact h
 all_goals exact Pd.carry h hc
theorem cO.carry {c c':Cx} {ρ ρ':List RE} {a:TV1} {v:Value} (h:cO c ρ a v) (hc:c.le c') (k:jP ρ ρ'):cO c' ρ' a v:=by
 cases a with
 | c a=>exact Rd.carry h hc k
 | agg l=>obtain ⟨vs,rfl,h⟩:=h; exact ⟨vs,rfl,h.imp fun _ _ h=>h.carry hc k⟩
theorem Rt.carry {c c':Cx} {ρ ρ':List RE} {a:TV} {v:Value} (h:Rt c ρ a v) (hc:c.le c') (k:jP ρ ρ'):Rt c' ρ' a v:=by
 cases a with
 | one a=>exact cO.carry h hc k
 | tup l=>obtain ⟨vs,rfl,h⟩:=h; exact ⟨vs,rfl,h.imp fun _ _ h=>h.carry hc k⟩
 | un=>trivial
theorem FrR.carry {c c':Cx} {ρ ρ':List RE} {fr:AFr} {F:Fr} (h:FrR c ρ fr F) (hc:c.le c') (k:jP ρ ρ'):FrR c' ρ' fr F:=h.imp fun _ _ h=>⟨h.1,h.2.carry hc k⟩
theorem V1.carry {c c':Cx} {s:Sh} {x:den s} {v:Value} (h:V1 c s x v) (hc:c.le c'):V1 c' s x v:=by
 obtain ⟨vs,h1,h2⟩:=h;exact ⟨vs,h1.carry hc,h2⟩
theorem OI.carry {c c':Cx} {g:Nat} {s:Sh} {f:Int->Option (den s)} (h:OI c g s f) (hc:c.le c') (hb:c'.w.heap[g]? = c.w.heap[g]?):OI c' g s f:=by
 obtain ⟨a,n,h1,h2,h3⟩:=h;refine ⟨a,n,hb.trans h1,h2,fun k=>?_⟩;have:=h3 k;cases hg:getM k a.toList <;> cases hf:f k <;> rw [hg,hf] at this
 ·trivial
 ·exact this
 ·exact this
 exact V1.carry this hc
theorem FO.map {c c':Cx} {ρ ρ':List RE} {g:AV->AV} {v:Option Value} {l:List (Int × AV)} {k:Int} (h:FO c ρ v (lookF k l)) (hg:∀ q ∈ l,∀ v,Rd c ρ q.2 v->Rd c' ρ' (g q.2) v) (l':List (Int × AV)) (hl:l' = l.map fun q=>(q.1,g q.2)):FO c' ρ' v (lookF k l'):=by
 subst hl;induction l with
 | nil=>exact (by cases v <;> first | trivial | exact h)
 | cons q l ih=>
  obtain ⟨j,a⟩:=q;simp only [lookF,ae9] at h ⊢;by_cases hk:k=j
  ·rw [if_pos hk] at h ⊢;cases v with
   | none=>exact h
   | some v=>exact hg (j,a) (by simp) v h
  simp_all
theorem PA.map {c c':Cx} {ρ ρ':List RE} {g0:AV->AV} {g:Nat} {l l':List (Int × AV)} (h:PA c ρ g l) (hl:l' = l.map fun q=>(q.1,g0 q.2)) (hg:∀ q ∈ l,∀ v,Rd c ρ q.2 v->Rd c' ρ' (g0 q.2) v) (hb:c'.w.heap[g]? = c.w.heap[g]?):PA c' ρ' g l':=by
 obtain ⟨a,n,h1,h2,h3⟩:=h;exact ⟨a,n,hb.trans h1,h2,fun k=>(h3 k).map hg l' hl⟩
theorem OR.carry {c c':Cx} {ρ ρ':List RE} {o:AO} {r:RE} (h:OR c ρ o r) (hc:c.le c') (k:jP ρ ρ') (hb:∀ g,r.g? = some g->c'.w.heap[g]? = c.w.heap[g]?):OR c' ρ' o r:=by
 cases o with
 | gone=>exact h
 | mapo s f=>
  obtain ⟨g,rfl,h⟩:=h;exact ⟨g,rfl,h.carry hc (hb g rfl)⟩
 | loc=>trivial
 | mapf l=>
  obtain ⟨g,rfl,h⟩:=h;exact ⟨g,rfl,h.map (g0:=fun a=>a) (by simp) (fun _ _ _ h=>h.carry hc k) (hb g rfl)⟩
 | arr t s n xs=>
  obtain ⟨g,vs,rfl,h1,h2,h3⟩:=h;exact ⟨g,vs,rfl,(hb g rfl).trans h1,h2.carry hc,h3⟩
 | box t cs=>
  obtain ⟨g,vs,rfl,h1,h2⟩:=h;exact ⟨g,vs,rfl,(hb g rfl).trans h1,h2.imp fun _ _ h=>h.carry hc k⟩
 | row t s xs=>
  obtain ⟨h1,h2,h3⟩:=h;refine ⟨hc.shp ▸ h1,h2,h3.imp id ?_⟩;rintro ⟨g,cap,cells,sp,rfl,h4,h5,h6⟩;exact ⟨g,cap,cells,sp,rfl,(hb g rfl).trans h4,h5.carry hc,h6⟩
theorem dC {α β:Type} {R:α->β->Prop} {asx:List α} {bs:List β} (h:All2 R asx bs):∀ (i:Nat) (a:α),asx[i]? = some a->∃ b,bs[i]? = some b/\R a b:=by
 induction h with
 | nil=>intro i b hb; simp at hb
 | cons h _ ih=>
  grind
theorem cg {α β:Type} {R:α->β->Prop}:∀ {asx:List α} {bs:List β},asx.length=bs.length->(∀ (i:Nat) (a:α) (b:β),asx[i]? = some a->bs[i]? = some b->R a b)->All2 R asx bs
 | [],[],_,_=>.nil
 | a :: asx,b :: bs,h,k=>.cons (k 0 a b rfl rfl) (cg (by simpa using h) fun i x y hx hy=>k (i+1) x y (by simpa using hx) (by simpa using hy))
theorem bB {i:Nat} {o:AO} (h:getO H i=o) (hne:o ≠ .gone):H[i]? = some o:=by
 unfold getO at h;grind
section
variable {G:Gl} {ρ:List RE} {H:AH} {w w':World}
variable {i:Nat} {o:AO}
theorem Rep.at_ (h:Rep G ρ H w) (ho:H[i]? = some o):∃ r,ρ[i]? = some r/\OR (cx G ρ w) ρ o r:=dC h.obj i o ho
theorem Rep.kp (h:Rep G ρ H w) (k:Kp [] w w'):Rep G ρ H w':=by
 refine ⟨cg h.obj.length fun i o r ho hr=>?_,h.inj,fun i r g h1 h2=>?_,fun b hb=>ac3 (h.z b hb) k.size,Nat.le_trans h.b0 k.size,h.tb.carry ((Ext.kp k).le h.lo)⟩
 ·obtain ⟨r',hr',hor⟩:=h.at_ ho;rw [hr] at hr'; cases hr';exact hor.carry ((Ext.kp k).le h.lo) (jP.refl _) fun g hg=>k.block g (h.bnd i r g hr hg).2.1 (by simp)
 have:=h.bnd i r g h1 h2;exact ⟨this.1,ac3 this.2.1 k.size,this.2.2⟩
variable {r:RE}
theorem Ld {b:Nat}:live (ρ++[r]) b↔live ρ b\/r.g? = some b:=by
 constructor
 ·rintro ⟨i,r',h1,h2⟩;by_cases hi:i<ρ.length
  ·rw [List.getElem?_append_left hi] at h1;exact .inl ⟨i,r',h1,h2⟩
  grind
 rintro (⟨i,r',h1,h2⟩ | h)
 ·exact ⟨i,r',by rw [List.getElem?_append_left (aam.1 h1).1]; exact h1,h2⟩
 exact ⟨ρ.length,r,by simp,h⟩
theorem Ext.app (k:Kp [] w w') (hr:∀ g',r.g? = some g' -> w.heap.size<=g'):Ext ρ w (ρ++[r]) w':=
 ⟨k.os,k.tape,k.output,k.size,fun b hb h=>⟨fun hl=>(Ld.1 hl).elim h fun h2=>by have:=hr b h2; omega,k.block b hb (by simp)⟩⟩
theorem Rep.app (h:Rep G ρ H w) (k:Kp [] w w') {r:RE} {o:AO} (hr:∀ g,r.g? = some g->w.heap.size<=g/\g<w'.heap.size) (ho:OR (cx G (ρ++[r]) w') (ρ++[r]) o r):Rep G (ρ++[r]) (H++[o]) w':=by
 have hx:Ext ρ w (ρ++[r]) w':=Ext.app k fun g hg=>(hr g hg).1;refine ⟨?_,?_,?_,fun b hb=>ac3 (h.z b hb) k.size,Nat.le_trans h.b0 k.size,h.tb.carry (hx.le h.lo)⟩
 ·refine All2.append (cg h.obj.length fun i o r' ho hr'=>?_) (.cons ho .nil);obtain ⟨r'',hr'',hor⟩:=h.at_ ho;rw [hr'] at hr''; cases hr'';exact hor.carry (hx.le h.lo) (fR _ _) fun g hg=>k.block g (h.bnd i r' g hr' hg).2.1 (by simp)
 ·intro i j r1 r2 g h1 h2 h3 h4;have key:∀ i r',(ρ++[r])[i]? = some r' -> r'.g? = some g->(ρ[i]? = some r' /\ g<w.heap.size)\/(i=ρ.length/\w.heap.size<=g):=fun i r' h1 h2=>by
   by_cases hi:i<ρ.length
   ·rw [List.getElem?_append_left hi] at h1;exact .inl ⟨h1,(h.bnd i r' g h1 h2).2.1⟩
   grind
  rcases key i r1 h1 h3 with ⟨a,b⟩ | ⟨a,b⟩ <;> rcases key j r2 h2 h4 with ⟨a',b'⟩ | ⟨a',b'⟩
  ·exact h.inj i j r1 r2 g a a' h3 h4
  ·omega
  ·omega
  omega
 intro i r' g h1 h2;by_cases hi:i<ρ.length
 ·rw [List.getElem?_append_left hi] at h1;have:=h.bnd i r' g h1 h2;exact ⟨this.1,ac3 this.2.1 k.size,this.2.2⟩
 rw [age (by omega)] at h1;have:i - ρ.length=0:=by
  have:=(aam.1 h1).1;simp at this; omega
 rw [this] at h1;simp at h1; subst h1;exact ⟨Nat.le_trans h.b0 (hr g h2).1,(hr g h2).2,fun hz=>by have:=h.z g hz; have:=(hr g h2).1; omega⟩
theorem Rep.put (h:Rep G ρ H w) {g:Nat} {o':AO} (hi:H[i]? = some o) (hr:ρ[i]? = some r) (hg:r.g? = some g) (k:Kp [g] w w') (ho:OR (cx G ρ w') ρ o' r):Rep G ρ (H.set i o') w' /\ Ext ρ w ρ w':=by
 have hx:Ext ρ w ρ w':=⟨k.os,k.tape,k.output,k.size,fun b hb hl=>⟨hl,k.block b hb (by
  simp only [ac2];rintro rfl;exact hl ⟨i,r,hr,hg⟩)⟩⟩
 refine ⟨⟨cg (by rw [adn]; exact h.obj.length) fun j x r' hx' hr'=>?_,h.inj,fun j r' g' h1 h2=>?_,fun b hb=>ac3 (h.z b hb) k.size,Nat.le_trans h.b0 k.size,h.tb.carry (hx.le h.lo)⟩,hx⟩
 ·by_cases hij:i=j
  ·grind
  rw [List.getElem?_set_ne hij] at hx';obtain ⟨r'',hr'',hor⟩:=h.at_ hx';rw [hr'] at hr''; cases hr'';refine hor.carry (hx.le h.lo) (jP.refl _) fun g' hg'=>k.block g' (h.bnd j r' g' hr' hg').2.1 ?_;simp only [ac2];rintro rfl;exact hij (h.inj i j r r' g' hr hr' hg hg')
 have:=h.bnd j r' g' h1 h2;exact ⟨this.1,ac3 this.2.1 k.size,this.2.2⟩
end
end Go.Proofs.YticbaadnibdbkaaGreat
