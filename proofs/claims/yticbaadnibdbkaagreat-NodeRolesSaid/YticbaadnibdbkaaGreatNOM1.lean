/- What leads to the law, part 1. Conditions: each lemma's own. -/
import Derived.KernelRfl
import Derived.LaidEqlPtr
import Derived.Lib.SliceRun
import Derived.Maps.AppendAt
import Derived.OrdersIn
import Derived.StillTail
import Derived.TacticsIn
import Derived.WalkKit
import Derived.WalkLawsBesides
import Derived.WalkSpells
set_option linter.unusedVariables false
set_option linter.unusedSimpArgs false
set_option maxHeartbeats 2000000
set_option linter.defProp false
namespace Go.Proofs.YticbaadnibdbkaaGreat
open Go.RowKit
def aE {p:Prop} (h:p:=by omega):p:=h
def aa {p:Prop} (h:p:=by simp):p:=h
theorem am {p:Prop} (h:p:=by decide):p:=h
theorem ap {p:Prop} (h:p:=by assumption):p:=h
theorem bb {p:Prop} (h:p:=by simp_all):p:=h
def acD:=@Option.some.inj
def ajv:=@Go.Calls.mono
def acs:=@List.mem_cons_of_mem
def acy:=@List.mem_cons_self
def afV:=@List.map_cons
def aaF:=@Nat.eq_of_beq_eq_true
def ai4:=@List.range'_succ
def ajg:=@Nat.sub_zero
def aaw:=@List.getElem?_eq_some_iff
def acq:=@List.mem_append
def acv:=@Nat.lt_of_lt_of_le
def aeb:=@List.getElem?_drop
def afF:=@List.getElem?_take
def acu:=@List.eq_nil_of_length_eq_zero
def acz:=@List.mem_append_left
def acB:=@List.mem_append_right
def aht:=@Bool.eq_iff_iff
def aih:=@Go.run_loadCells_list
def ag8:=@Nat.add_mul
def af8:=@List.not_mem_nil
def aiG:=@Go.run_sliceAt_slice
def acC:=@Nat.zero_add
def ahE:=@List.mem_map
def ajt:=@List.mem_filter
def af1:=@Array.getElem?_eq_some_iff
def af2:=@Go.getD_replicate_false
def ajw:=@List.length_range
def acw:=@List.mem_cons
def afP:=@List.drop_eq_getElem_cons
def afQ:=@List.take_append_of_le_length
def af3:=@Nat.zero_le
def afS:=@List.getElem?_append_right
def acr:=@List.mem_singleton
def acF:=@List.length_set
variable {b a:Prop}
def aV (x:a) (y:b):a/\b:=And.intro x y
def bl {c:Prop} (h:a->b->c):a/\b->c:=fun x=>h x.1 x.2
theorem ab {p:Prop} (h:p:=by with_reducible assumption):p:=h
def bN {p:Prop} (h:p:=by kernel_rfl):p:=h
theorem bY {p:Prop} (h:p:=by first | with_reducible rfl | with_reducible assumption | omega | (constructor <;> omega)):p:=h
abbrev Fr:=List (Nat × Value)
def look:Fr->Nat->Option Value
 | [],_=>none
 | (j,v) :: r,i=>bif Nat.beq j i then some v else look r i
def ev (fr:Fr):Operand->Option Value
 | .tmp i=>look fr i
 | .const v=>some v
 | .global g=>some (.pointer (some ⟨g,0,none⟩))
 | .func f=>some (.func (.func f) #[] #[])
def M (n:Nat) (fr:Fr) (a:Act):Prop:=
 a.defers=[]/\a.tmps.size=n/\∀ i v,look fr i=some v->i<n/\a.tmps.getD i undef=v
theorem M.ev {n:Nat} {fr:Fr} {a:Act} {x:Operand} {v:Value} (h:M n fr a) (d:ev fr x=some v):a.eval x=v:=by
 cases x with
 | tmp i=>exact (h.2.2 i v d).2
 | const c=>exact acD d
 | global g=>exact acD d
 | func f=>exact acD d
variable {i:Nat}
theorem aW {j:Nat} {v:Value} {r:Fr}:look ((j,v) :: r) i=if j=i then some v else look r i:=by
 show (bif Nat.beq j i then some v else look r i)=_;simp_all
theorem M.put {n d:Nat} {fr:Fr} {a:Act} {v:Value} (h:M n fr a) (k:Nat.blt d n=true):M n ((d,v) :: fr) (a.put (some d) v):=by
 have c:d<n:=by simpa using k
 obtain ⟨l,j,m⟩:=h;refine ⟨l,by simp [Act.put,j],fun i u e=>?_⟩;rw [aW] at e;by_cases f:d=i
 ·subst f;rw [if_pos rfl] at e;cases e;exact ⟨c,by simp [Act.put,j,c]⟩
 rw [if_neg f] at e;obtain ⟨g,o⟩:=m i u e;refine ⟨g,?_⟩;rw [<- o];simp [Act.put,f]
variable {n:Nat} {a:Act}
theorem M.at_ {fr:Fr} {t:Nat} {v:Value} (h:M n fr a) (c:look fr t=some v):a.tmps[t]?.getD undef=v:=by
 have:=(h.2.2 t v c).2;simp_all
variable {fr':Fr}
def M.sub {fr:Fr} (h:M n fr a) (c:∀ i v,look fr' i=some v->look fr i=some v):M n fr' a:=
 ⟨h.1,h.2.1,fun i v d=>h.2.2 i v (c i v d)⟩
abbrev gM (c:Option Nat):Fence:={ fn:=fun _=>True,depth:=none,alive:=false,round:=c }
def iU (a:Act) (c:List Deferred):Act:={ a with defers:=c }
def qE (d:List Deferred) (Q:Exit->Act->World->Prop) (e:Exit) (a:Act) (w:World):Prop:=∃ c:Act,c.defers=[]/\a=iU c d/\Q e c w
def kD (P:Program) (c:Code) (Q:Exit->Act->World->Prop) (a:Act) (w:World):Prop:=∀ e d,c.wpIn (gM e) 0 P (qE d Q) (iU a d) w
def Pa (P:Program) (l:Array Oper) (Q:Exit->Act->World->Prop) (c:List Oper) (a:Act) (w:World):Prop:=∀ e d,wpListIn (gM e) 0 P l (qE d Q) c (iU a d) w
def ac6 {c:Option Nat}:(gM c).room n:=fun _ h=>by cases h
def ns (a:Act) (c:List Deferred):(iU a c).eval=a.eval:=by funext x; cases x <;> rfl
theorem sM (a:Act) (c:List Deferred) (d:Option Tmp) (v:Value):(iU a c).put d v=iU (a.put d v) c:=by cases d <;> rfl
theorem Nw {b:Act} {c:List Deferred} (h:iU a c=iU b c) (d:a.defers=[]) (e:b.defers=[]):a=b:=by
 cases a; cases b;simp only [iU] at h;grind
def E_ (h:a.defers=[]) (d:Option Tmp) (v:Value):(a.put d v).defers=[]:=by cases d <;> exact h
section prim
variable {P:Program} {Q:Exit->Act->World->Prop} {a:Act} {w:World}
def NZ (c:a.defers=[]) (h:Q .normal a w):kD P .skip Q a w:=fun _ _=>wpIn_skip ⟨a,c,rfl,h⟩
def II {l:Nat} (c:a.defers=[]) (h:Q .normal a w):kD P (.label l) Q a w:=fun _ _=>wpIn_label ⟨a,c,rfl,h⟩
variable {id:Nat}
def Ql (c:a.defers=[]) (h:Q (.exit id) a w):kD P (.exit id) Q a w:=fun _ _=>wpIn_exit ⟨a,c,rfl,h⟩
def T_ (c:a.defers=[]) (h:Q .ret a w):kD P .ret Q a w:=fun _ _=>wpIn_ret ⟨a,c,rfl,h⟩
variable {x:Code}
def Uq {y:Code} (h:kD P x (Exit.then (kD P y Q) Q) a w):kD P (.seq x y) Q a w:=fun d f=>wpIn_seq (wpIn_mono (h d f) fun e a w c=>by
 cases e with
 | normal=>obtain ⟨g,_,rfl,c⟩:=c; exact c d f
 | _=>exact c)
def JG {c:Code} (h:kD P c (Exit.inBlock id Q) a w):kD P (.block id c) Q a w:=fun k l=>wpIn_block (wpIn_mono (h k l) fun e a w d=>by
 cases e with
 | exit j=>
  obtain ⟨f,g,rfl,d⟩:=d;simp only [Exit.inBlock] at d ⊢;split
  ·rename_i e; rw [if_pos e] at d; exact ⟨f,g,rfl,d⟩
  rename_i e; rw [if_neg e] at d; exact ⟨f,g,rfl,d⟩
 | _=>exact d)
def De {l:List Oper} (h:Pa P l.toArray Q l a w):kD P (.region id l.toArray false) Q a w:=fun c d=>wpIn_region_lit (h c d)
def ry {c:Operand} {y:Code} {t:Bool} (f:a.eval c = .bool t) (g:t=true->kD P x Q a w) (j:t=false->kD P y Q a w):kD P (.cond c x y) Q a w:=
 fun d e=>wpIn_cond_split (by rw [ns]; exact f) (fun h=>g h d e) (fun h=>j h d e)
def uG {c:Operand} {y:Code} (d:a.eval c = .bool true) (h:kD P x Q a w):kD P (.cond c x y) Q a w:=fun e f=>wpIn_cond_true (by rw [ns]; exact d) (h e f)
def sB {c:Operand} {y:Code} (d:a.eval c = .bool false) (h:kD P y Q a w):kD P (.cond c x y) Q a w:=fun e f=>wpIn_cond_false (by rw [ns]; exact d) (h e f)
def Iw {c:Code} (h:kD P c (Exit.noGoto Q) a w):kD P (.scope c) Q a w:=by
 intro A s b k g t u v;have j:(lone (b.atR (iU a s) (.code (.scope c) :: k)) g w).fenced P (gM A):=fenced_calm u v rfl;have m:step P (lone (b.atR (iU a s) (.code (.scope c) :: k)) g w) = .next (lone (b.atR (iU a s) (.code c :: .inScope c :: k)) g w):=step_lone_go (by simp [stepG,stepG.exec,Frame.atR])
 have D:∀ a w,step P (lone (b.atR a (.inScope c :: k)) g w) = .next (lone (b.atR a k) g w):=fun a w=>step_lone_go (by simp [stepG,stepG.exec,Frame.atR])
 obtain ⟨e,B,f,⟨p,q,rfl,o⟩,d⟩:=h A s b (.inScope c :: k) g t u v;cases e with
 | normal=>exact ⟨.normal,_,f,⟨p,q,rfl,o⟩,.head j m (StepsIn.trans d (.one (fenced_calm u v rfl) (D _ _)))⟩
 | exit id=>
  have C:exitTo id (.inScope c :: k)=exitTo id k:=by simp [exitTo]
  exact ⟨.exit id,_,f,⟨p,q,rfl,o⟩,fun F y=>.head j m (d.1 F (by rw [C]; exact y)),fun z y=>let ⟨r,G,H⟩:=d.2 z (by rw [C]; exact y); ⟨r,G,.head j m H⟩⟩
 | goto l=>exact o.elim
 | ret=>exact ⟨_,_,f,⟨p,q,rfl,o⟩,.of_steps (.one j m) d⟩
 | panic I=>exact ⟨_,_,f,⟨p,q,rfl,o⟩,.of_steps (.one j m) d⟩
 | outgrown=>exact ⟨_,_,f,⟨p,q,rfl,o⟩,.of_steps (.one j m) d⟩
def r_ {σ:Type} {c:Code} (D:Act->World->σ->Prop) (y:σ->Nat) (L:σ) (S:D a w L)
  (j:∀ s a w,D a w s->kD P c (fun e a w=>match e with | .normal=>∃ q,D a w q /\ y q < y s | e=>Q e a w) a w):kD P (.loop c) Q a w:=by
 intro N B b k C F G H;have I:∀ m,∀ s a w,y s=m->D a w s->∃ e z A,qE B Q e z A /\ ArrivesIn (Machine.fenced P (gM N)) P (lone (b.atR (iU a B) (.code c :: .inLoop c :: k)) C w) b k C e z A:=by
  intro m;induction m using Nat.strongRecOn with
  | _ m T=>
   intro s a w U V;obtain ⟨e,O,f,⟨p,r,rfl,h⟩,d⟩:=j s a w V N B b (.inLoop c :: k) C F G H;cases e with
   | normal=>
    obtain ⟨q,J,K⟩:=h;obtain ⟨t,u,v,o,g⟩:=T (y q) (U ▸ K) q p f rfl J;exact ⟨t,u,v,o,.of_steps (StepsIn.trans d (.one (fenced_calm G H rfl) stepR_inLoop)) g⟩
   | exit id=>exact ⟨_,_,f,⟨p,r,rfl,h⟩,.pass (x:=.inLoop c) rfl (fun _ _=>.inl aa) d⟩
   | goto l=>exact ⟨_,_,f,⟨p,r,rfl,h⟩,.pass (x:=.inLoop c) rfl (fun _ _=>.inl aa) d⟩
   | ret=>exact ⟨_,_,f,⟨p,r,rfl,h⟩,.pass (x:=.inLoop c) rfl (fun _ _=>.inl aa) d⟩
   | panic W=>exact ⟨_,_,f,⟨p,r,rfl,h⟩,.pass (x:=.inLoop c) rfl (fun _ _=>.inl aa) d⟩
   | outgrown=>exact ⟨_,_,f,⟨p,r,rfl,h⟩,.pass (x:=.inLoop c) rfl (fun _ _=>.inl aa) d⟩
 obtain ⟨e,z,A,h,d⟩:=I _ L a w rfl S;exact ⟨e,z,A,h,.of_steps (.one (fenced_calm G H rfl) stepR_loop) d⟩
variable {ro:Option Nat}
def Lk {f:FuncId} {args:Array Value} {R:Ending->World->Prop} (h:Calls P f args w R):CallsIn (gM ro) n P f args w R:=
 ⟨trivial,fun c _=>let ⟨e,d,fr,r,s,x⟩:=h c; ⟨e,d,fr,r,comesIn_wide.2 s,x⟩⟩
theorem Zl {c:Code} (g:a.defers=[]) (h:kD P c Q a w):c.wp P Q a w:=by
 have d:=(wpIn_wide (n:=0)).1 (h none []);have e:iU a []=a:=by rw [iU,<- g]
 rw [e] at d;refine wp_mono d fun e k l ⟨f,j,m,o⟩=>?_;have p:iU f []=f:=by rw [iU,<- j]
 grind
variable {o:Oper}
def aeM {e:Operand->Value} {x:Next} {f:World} (h:(execOp e o).run P w = .ok x f) (j:∀ d,x ≠ .defer d):(o.semAt ro e).run P w = .ok x f:=by
 rw [Oper.semAt_eq]
 ·exact h
 intro c k;rw [execOp.eq_def,k] at h;simp only [Sem.run_bind] at h;cases g:(resolve e c o.type).run P w with
 | ok d l=>rw [g] at h; simp at h; exact j _ h.1.symm
 | halt d l=>rw [g] at h; cases h
def Yo (P:Program) (o:Oper) (a:Act) (K:Act->World->Prop):Result Next->Prop
 | .ok (.value v) c=>K (a.put o.dst v) c
 | .ok .skip c=>K (a.put o.dst undef) c
 | .ok (.enter f args) c=>Calls P f args c fun e d=>∃ v,e = .returned v/\K (a.put o.dst v) d
 | _=>False
def LX {K:Act->World->Prop} {r:Result Next} (h:Yo P o a K r):o.uponIn (gM ro) 0 P a K Q r:=by
 cases r with
 | ok x c=>
  cases x <;> first | exact h | exact h.elim | skip
  case enter f args=>exact ⟨(fun h=>by cases h),(Lk h).mono fun e d ⟨v,g,j⟩=>by subst g; exact j⟩
 | halt x c=>cases x <;> exact h.elim
def je {l:Array Oper} {c:List Oper} (m:o.guard=none) (h:∀ K:Act->World->Prop,(∀ a w,Pa P l Q c a w->K a w)->Yo P o a K ((execOp a.eval o).run P w)):Pa P l Q (o :: c) a w:=fun ro k=>
 wpListIn_plain m fun K hK=>by
  refine ⟨fun _ _=>trivial,?_⟩;rw [ns];have g:=h (fun a w=>Pa P l Q c a w) (fun _ _ h=>h);have hK:∀ (d:Option Tmp) (v:Value) w,Pa P l Q c (a.put d v) w->K ((iU a k).put d v) w:=fun d v w h=>by rw [sM]; exact hK _ _ (h ro k)
  cases j:(execOp a.eval o).run P w with
  | ok x p=>
   rw [j] at g;have q:∀ d,x ≠ .defer d:=fun d e=>by subst e; exact g.elim
   rw [aeM j q];refine LX ?_;cases x <;> first | exact g.elim | exact hK _ _ _ g | skip
   case enter f args=>exact ajv g fun e r ⟨v,s,t⟩=>⟨v,s,hK _ _ _ t⟩
  | halt x p=>rw [j] at g; exact g.elim
end prim
def WX (Q:Exit->Act->World->Prop) (n:Nat) (e:Exit) (fr:Fr) (w:World):Prop:=∀ a,M n fr a->Q e a w
def WC (P:Program) (Q:Exit->Act->World->Prop) (n:Nat) (c:Code) (fr:Fr) (w:World):Prop:=∀ a,M n fr a->kD P c Q a w
def WO (P:Program) (Q:Exit->Act->World->Prop) (n:Nat) (l c:List Oper) (fr:Fr) (w:World):Prop:=∀ a,M n fr a->Pa P l.toArray Q c a w
def jT (P:Program) (f:FuncId) (args:Array Value) (w:World) (c:Value->World->Prop):Prop:=Calls P f args w fun e d=>∃ v,e = .returned v/\c v d
def jT.mono {P:Program} {f:FuncId} {args:Array Value} {w:World} {c d:Value->World->Prop} (h:jT P f args w c) (g:∀ v e,c v e -> d v e):jT P f args w d:=
 ajv h fun _ _ ⟨v,j,k⟩=>⟨v,j,g _ _ k⟩
section rules
variable {P:Program} {Q:Exit->Act->World->Prop} {n:Nat} {fr:Fr} {w:World}
def WC.seq {x y:Code} (h:WC P (Exit.then (kD P y Q) Q) n x fr w):WC P Q n (.seq x y) fr w:=fun a c=>Uq (h a c)
def WC.skip (h:WX Q n .normal fr w):WC P Q n .skip fr w:=fun a c=>NZ c.1 (h a c)
def WC.label {l:Nat} (h:WX Q n .normal fr w):WC P Q n (.label l) fr w:=fun a c=>II c.1 (h a c)
def WC.exit {id:Nat} (h:WX Q n (.exit id) fr w):WC P Q n (.exit id) fr w:=fun a c=>Ql c.1 (h a c)
def WC.ret (h:WX Q n .ret fr w):WC P Q n .ret fr w:=fun a c=>T_ c.1 (h a c)
def WC.block {id:Nat} {c:Code} (h:WC P (Exit.inBlock id Q) n c fr w):WC P Q n (.block id c) fr w:=fun a d=>JG (h a d)
def WC.region {id:Nat} {l:List Oper} (h:WO P Q n l l fr w):WC P Q n (.region id l.toArray false) fr w:=fun a c=>De (h a c)
def WC.cond {c:Operand} {x y:Code} {b:Bool} (e:ev fr c=some (.bool b)) (f:b=true->WC P Q n x fr w) (g:b=false->WC P Q n y fr w):WC P Q n (.cond c x y) fr w:=
 fun a d=>ry (d.ev e) (fun h=>f h a d) (fun h=>g h a d)
variable {x:Code}
def WC.Ff {c:Operand} {y:Code} (e:ev fr c=some (.bool true)) (f:WC P Q n x fr w):WC P Q n (.cond c x y) fr w:=
 fun a d=>uG (d.ev e) (f a d)
def WC.adL {c:Operand} {y:Code} (e:ev fr c=some (.bool false)) (f:WC P Q n y fr w):WC P Q n (.cond c x y) fr w:=
 fun a d=>sB (d.ev e) (f a d)
def WX.next {y:Code} (h:WC P Q n y fr w):WX (Exit.then (kD P y Q) Q) n .normal fr w:=h
def WX.mc {k:Act->World->Prop} (h:WX Q n .ret fr w):WX (Exit.then k Q) n .ret fr w:=h
variable {id:Nat}
def WX.IJ (h:WX Q n .normal fr w):WX (Exit.inBlock id Q) n .normal fr w:=h
def WX.Zu (h:WX Q n .normal fr w):WX (Exit.inBlock id Q) n (.exit id) fr w:=fun a c=>by
 show (if id=id then Q .normal a w else _);rw [if_pos rfl]; exact h a c
def Has (fr:Fr):Fr->Prop
 | []=>True
 | (i,v) :: r=>(∃ u,look fr i=some u/\u=v)/\Has fr r
theorem Has.look {fr:Fr}:∀ {fr':Fr},Has fr fr' -> ∀ i v,look fr' i=some v->look fr i=some v
 | (j,u) :: r,h,i,v,c=>by
  rw [aW] at c;by_cases d:j=i
  ·subst d;rw [if_pos rfl] at c; cases c;obtain ⟨f,e,rfl⟩:=h.1;exact e
  rw [if_neg d] at c; exact Has.look h.2 i v c
variable {K K':Act->World->Prop} {F:Fence} {o:Oper} {m:Nat}
def DL {j:Exit->Act->World->Prop} (hK:∀ a w,K a w->K' a w) (k:∀ e a w,e ≠ .normal->Q e a w->j e a w) (h:o.wpIn F m P a w K Q):o.wpIn F m P a w K' j:=by
 refine ⟨h.1,?_⟩;have h:=h.2;generalize (o.semAt F.round a.eval).run P w=r at *;have hE:∀ (e:Ending) (d:World),(match e,d with | .returned v,d=>K (a.put o.dst v) d | .panicked f,d=>Q (.panic f) a d | .outgrown,_=>LetsOut Q) ->
   (match e,d with | .returned v,d=>K' (a.put o.dst v) d | .panicked f,d=>j (.panic f) a d | .outgrown,_=>LetsOut j):=fun e d g=>by
  cases e with
  | returned v=>exact hK _ _ g
  | panicked c=>exact k _ _ _ aa g
  | outgrown=>obtain ⟨p,l,q⟩:=g; exact ⟨p,l,k _ _ _ aa q⟩
 cases r with
 | ok x l=>
  cases x <;> simp only [Oper.uponIn] at h ⊢ <;>
   first
    | exact hK _ _ h
    | exact ⟨h.1,CallsIn.mono h.2 hE⟩
    | exact ⟨h.1,RowsIn.mono h.2 (fun _ _ g=>hK _ _ g)⟩
    | exact ⟨h.1,RoundIn.mono h.2 hE⟩
 | halt x l=>cases x <;> simp only [Oper.uponIn] at h ⊢ <;> exact k _ _ _ aa h
theorem iu {F:Fence} {m:Nat} {l:Array Oper} {d:Exit->Act->World->Prop} {j:List Oper} (f:∀ e a w,e ≠ .normal->Q e a w->d e a w) (g:∀ a w,Q .normal a w->wpListIn F m P l d j a w):∀ (c:List Oper) {a:Act} {w:World},wpListIn F m P l Q c a w->wpListIn F m P l d (c++j) a w
 | [],_,_,h=>g _ _ h
 | o :: c,a,w,h=>by
  simp only [wpListIn,List.cons_append] at h ⊢;by_cases k:Region.wanted o (yielded l a.tmps)=true
  ·rw [if_pos k] at h ⊢;exact DL (fun a w h=>iu f g c h) f h
  rw [if_neg k] at h ⊢;exact ⟨h.1,iu f g c h.2⟩
variable {t:Nat}
def EZ {A:Act} (B:∀ d,o.dst=some d->d≠t) (hK:∀ y q,y.tmps[t]? = A.tmps[t]? -> K y q -> K' y q) (h:o.wpIn F m P A w K Q):o.wpIn F m P A w K' Q:=by
 have k:∀ (D:List Deferred) v,(({ tmps:=A.tmps,defers:=D }:Act).put o.dst v).tmps[t]? = A.tmps[t]?:=fun D v=>by
  cases C:o.dst with
  | none=>rfl
  | some d=>simp [Act.put,B d C]
 refine ⟨h.1,?_⟩;have h:=h.2;generalize (o.semAt F.round A.eval).run P w=r at *;have hE:∀ (e:Ending) (g:World),(match e,g with | .returned v,g=>K (A.put o.dst v) g | .panicked j,g=>Q (.panic j) A g | .outgrown,_=>LetsOut Q) ->
   (match e,g with | .returned v,g=>K' (A.put o.dst v) g | .panicked j,g=>Q (.panic j) A g | .outgrown,_=>LetsOut Q):=fun e g p=>by
  cases e with
  | returned v=>exact hK _ _ (k A.defers v) p
  | panicked c=>exact p
  | outgrown=>exact p
 cases r with
 | ok x q=>
  cases x <;> simp only [Oper.uponIn] at h ⊢;case value u=>exact hK _ _ (k A.defers _) h
  case skip=>exact hK _ _ (k A.defers _) h
  case defer=>exact hK _ _ (k _ _) h
  case enter f args=>exact ⟨h.1,CallsIn.mono h.2 hE⟩
  case row r args=>exact ⟨h.1,RowsIn.mono h.2 (fun _ _ p=>hK _ _ (k A.defers _) p)⟩
  case round l f tmps s z=>exact ⟨h.1,RoundIn.mono h.2 hE⟩
 | halt x q=>cases x <;> simp only [Oper.uponIn] at h ⊢ <;> exact h
def QP (j:Nat) (c:Bool) (o:Oper):Oper:=bif (match o.guard with | some (i,b)=>Nat.beq i j && (b == c) | none=>false) then { o with guard:=none } else o
theorem qw {F:Fence} {m:Nat} {l:Array Oper} {j t:Nat} {wt:Bool} (C:∀ A:Act,A.tmps[t]? = some (.bool wt)->yielded l A.tmps j=some wt) {D s:Oper} {c:List Oper}
  (q:∀ (A:Act) (w:World),A.tmps[t]? = some (.bool wt)->wpListIn F m P l Q (s :: c) A w->wpListIn F m P l Q (D :: c) A w) :
  ∀ (g:List Oper),(∀ o ∈ g,∀ d,o.dst=some d->d≠t)->∀ (A:Act) (w:World),A.tmps[t]? = some (.bool wt)->wpListIn F m P l Q (g.map (QP j wt)++s :: c) A w->wpListIn F m P l Q (g++D :: c) A w
 | [],_,A,w,k,h=>q A w k h
 | o :: r,G,A,w,k,h=>by
  have u:=qw C q r fun x H=>G x (acs _ H);have p:=G o acy;rw [afV,List.cons_append] at h;rw [List.cons_append];by_cases f:(match o.guard with | some (i,b)=>Nat.beq i j && (b == wt) | none=>false)=true
  ·have e:QP j wt o={ o with guard:=none }:=by unfold QP; rw [f]; rfl
   rw [e] at h;unfold wpListIn at h ⊢;have I:Region.wanted { o with guard:=none } (yielded l A.tmps)=true:=rfl;have J:Region.wanted o (yielded l A.tmps)=true:=by
    split at f
    ·rename_i i b v;simp only [Bool.and_eq_true,beq_iff_eq] at f;have L:=aaF f.1;simp [Region.wanted,v,L,f.2,C A k]
    cases f
   rw [if_pos I] at h;rw [if_pos J];have h:o.wpIn F m P A w (wpListIn F m P l Q (r.map (QP j wt)++s :: c)) Q:=h;exact EZ (o:=o) (t:=t) p (fun y z e h=>u y z (e.trans k) h) h
  have e:QP j wt o=o:=by unfold QP; rw [Bool.not_eq_true] at f; rw [f]; rfl
  rw [e] at h;unfold wpListIn at h ⊢;split
  ·rename_i B;rw [if_pos B] at h;exact EZ (o:=o) (t:=t) p (fun y z e h=>u y z (e.trans k) h) h
  rename_i B;rw [if_neg B] at h;refine ⟨h.1,u _ _ ?_ h.2⟩;cases N:o.dst with
  | none=>exact k
  | some d=>simp [Act.put,p d N,k]
theorem ad7 {v:Value} (c:M n fr a) (d:look fr t=some v):a.tmps[t]? = some v:=by
 obtain ⟨e,f⟩:=c.2.2 t v d;have:t<a.tmps.size:=by rw [c.2.1]; exact e
 simp_all
def aF (P:Program) (n:Nat) (fr:Fr) (w:World) (e:Op) (f:TypeId) (v:Value) (h:World):Prop:=
 ∀ a d c j g,M n fr a->(execOp a.eval ⟨d,e,f,c,j,g⟩).run P w = .ok (.value v) h
def gZ (P:Program) (n:Nat) (fr:Fr) (w:World) (e:Op) (f:TypeId) (h:World):Prop:=
 ∀ a d c j g,M n fr a->(execOp a.eval ⟨d,e,f,c,j,g⟩).run P w = .ok .skip h
def Enters (P:Program) (n:Nat) (fr:Fr) (w:World) (e:Op) (h:TypeId) (f:FuncId) (args:Array Value):Prop:=
 ∀ a d c j g,M n fr a->(execOp a.eval ⟨d,e,h,c,j,g⟩).run P w = .ok (.enter f args) w
variable {l rest:List Oper} {d:Nat} {op:Op} {ty:TypeId} {pos:String} {af:Array Edge}
def WO.nil (h:WX Q n .normal fr w):WO P Q n l [] fr w:=fun a c _ _=>⟨a,c.1,rfl,h a c⟩
theorem WO.v {v:Value} {c:World} (h:aF P n fr w op ty v c) (f:Nat.blt d n=true) (k:WO P Q n l rest ((d,v) :: fr) c):WO P Q n l (⟨some d,op,ty,pos,af,none⟩ :: rest) fr w:=fun a e=>
 je rfl fun K hK=>by
  rw [h a _ _ _ _ e];exact hK _ _ (k _ (e.put f))
variable {w':World}
def WO.v0 {v:Value} (h:aF P n fr w op ty v w') (k:WO P Q n l rest fr w'):WO P Q n l (⟨none,op,ty,pos,af,none⟩ :: rest) fr w:=fun a c=>
 je rfl fun K hK=>by
  rw [h a _ _ _ _ c];exact hK _ _ (k _ c)
theorem WO.s (h:gZ P n fr w op ty w') (k:WO P Q n l rest fr w'):WO P Q n l (⟨none,op,ty,pos,af,none⟩ :: rest) fr w:=fun a c=>
 je rfl fun K hK=>by
  rw [h a _ _ _ _ c];exact hK _ _ (k _ c)
variable {φ:Value->World->Prop} {args:Array Value} {f:FuncId}
theorem WO.c (h:Enters P n fr w op ty f args) (j:jT P f args w φ) (p:Nat.blt d n=true) (k:∀ v w',φ v w' -> WO P Q n l rest ((d,v) :: fr) w') :
  WO P Q n l (⟨some d,op,ty,pos,af,none⟩ :: rest) fr w:=fun a g=>
 je rfl fun K hK=>by
  rw [h a _ _ _ _ g];exact ajv j fun e w' ⟨v,q,r⟩=>⟨v,q,hK _ _ (k v w' r _ (g.put p))⟩
def WO.c0 (h:Enters P n fr w op ty f args) (g:jT P f args w φ) (k:∀ v w',φ v w' -> WO P Q n l rest fr w') :
  WO P Q n l (⟨none,op,ty,pos,af,none⟩ :: rest) fr w:=fun a c=>
 je rfl fun K hK=>by
  rw [h a _ _ _ _ c];exact ajv g fun e w' ⟨v,j,p⟩=>⟨v,j,hK _ _ (k v w' p _ c)⟩
def idst:List Oper->Nat->Option Nat
 | [],_=>none
 | o :: _,0=>o.dst
 | _ :: r,i+1=>idst r i
theorem kj:∀ (l:List Oper) (j:Nat),idst l j=(l[j]?).bind (·.dst)
 | [],_=>rfl
 | _ :: _,0=>rfl
 | _ :: r,i+1=>kj r i
variable {b:Bool} {j:Nat}
theorem mZ (c:M n fr a) (e:idst l j=some t) (g:look fr t=some (.bool b)):yielded l.toArray a.tmps j=some b:=by
 obtain ⟨h,k⟩:=c.2.2 t _ g;rw [kj] at e;have p:a.tmps[t]? = some (.bool b):=by
  have:t<a.tmps.size:=by rw [c.2.1]; exact h
  simp_all
 unfold yielded;grind
theorem WO.split {e g:List Oper} {wt:Bool} {x y:Operand} (s:idst l j=some t) (u:look fr t=some (.bool wt)) (k:∀ o ∈ e,∀ d,o.dst=some d->d≠t)
  (h:WO P Q n l (e.map (QP j wt)++⟨some d,.move (cond wt x y),ty,pos,af,none⟩ :: g) fr w):WO P Q n l (e++⟨some d,.pick (.tmp t) x y,ty,pos,af,none⟩ :: g) fr w:=fun a p v q=>by
 have z:=ad7 p u;refine qw (t:=t) (j:=j) (wt:=wt) (fun A r=>?_) (fun A w r h=>?_) e k _ _ (show (iU a q).tmps[t]? = some (.bool wt) from z) (h a p v q)
 ·rw [kj] at s;unfold yielded;grind
 unfold wpListIn at h ⊢;have G:Region.wanted ⟨some d,.move (cond wt x y),ty,pos,af,none⟩ (yielded l.toArray A.tmps)=true:=rfl;have H:Region.wanted ⟨some d,.pick (.tmp t) x y,ty,pos,af,none⟩ (yielded l.toArray A.tmps)=true:=rfl;refine ⟨fun f B=>(by simp [Oper.about] at B),?_⟩;have h:=h.2;rw [Oper.semAt_eq _ _ _ (fun c=>by simp)] at h ⊢;have I:(execOp A.eval ⟨some d,.move (cond wt x y),ty,pos,af,none⟩).run P w = .ok (.value (A.eval (cond wt x y))) w:=by simp [execOp]
 have C:A.eval (.tmp t) = .bool wt:=by simp [Act.eval,r]
 have D:(execOp A.eval ⟨some d,.pick (.tmp t) x y,ty,pos,af,none⟩).run P w = .ok (.value (A.eval (cond wt x y))) w:=by
  cases wt <;> simp [execOp,C,asBool]
 rw [D];exact h
variable {b':Bool}
def WO.on {dst:Option Nat} (p:idst l j=some t) (q:look fr t=some (.bool b')) (r:b' = b) (k:WO P Q n l (⟨dst,op,ty,pos,af,none⟩ :: rest) fr w) :
  WO P Q n l (⟨dst,op,ty,pos,af,some (j,b)⟩ :: rest) fr w:=fun a e s g=>by
 have h:=k a e s g;have c:=mZ (l:=l) e p q;have u:yielded l.toArray (iU a g).tmps j=_:=c;simp only [wpListIn,Region.wanted,u,r,BEq.rfl] at h ⊢;exact h
theorem WO.off (h:idst l j=some t) (p:look fr t=some (.bool b')) (s:b' = !b) (q:Nat.blt d n=true) (k:WO P Q n l rest ((d,undef) :: fr) w) :
  WO P Q n l (⟨some d,op,ty,pos,af,some (j,b)⟩ :: rest) fr w:=fun a e r g=>by
 have u:=k _ (e.put q) r g;have c:=mZ (l:=l) e h p;have v:yielded l.toArray (iU a g).tmps j=_:=c;simp only [wpListIn,Region.wanted,sM];grind
def WO.adB (p:idst l j=some t) (q:look fr t=some (.bool b')) (r:b' = !b) (k:WO P Q n l rest fr w) :
  WO P Q n l (⟨none,op,ty,pos,af,some (j,b)⟩ :: rest) fr w:=fun a g s h=>by
 have u:=k _ g s h;have c:=mZ (l:=l) g p q;have v:yielded l.toArray (iU a h).tmps j=_:=c;have e:((some b':Option Bool) == some b)=false:=by subst r; cases b <;> rfl
 simp only [wpListIn,Region.wanted,v,e];exact ⟨fun _ _=>trivial,u⟩
theorem my (c:M n fr a) (e:idst l j=some t) (g:look fr t=some undef):yielded l.toArray a.tmps j=none:=by
 obtain ⟨h,q⟩:=c.2.2 t _ g;rw [kj] at e;have k:a.tmps[t]? = some undef:=by
  have:t<a.tmps.size:=by rw [c.2.1]; exact h
  simp_all
 unfold yielded;have p:((l.toArray[j]?).bind (·.dst))=some t:=by simpa using e
 rw [p];simp [k,undef]
theorem WO.aaE (h:idst l j=some t) (p:look fr t=some undef) (q:Nat.blt d n=true) (k:WO P Q n l rest ((d,undef) :: fr) w) :
  WO P Q n l (⟨some d,op,ty,pos,af,some (j,b)⟩ :: rest) fr w:=fun a e r g=>by
 have s:=k _ (e.put q) r g;have c:=my (l:=l) e h p;have u:yielded l.toArray (iU a g).tmps j=_:=c;simp only [wpListIn,Region.wanted,sM];grind
def WO.WN (h:idst l j=some t) (p:look fr t=some undef) (k:WO P Q n l rest fr w) :
  WO P Q n l (⟨none,op,ty,pos,af,some (j,b)⟩ :: rest) fr w:=fun a e q g=>by
 have r:=k _ e q g;have c:=my (l:=l) e h p;have s:yielded l.toArray (iU a g).tmps j=_:=c;simp only [wpListIn,Region.wanted,s];exact ⟨fun _ _=>trivial,r⟩
end rules
theorem tE:∀ (c:List Value) (k i:Nat) (v:Value),look ((List.range' k c.length).zip c) i=some v->k<=i/\c[i - k]? = some v
 | u :: c,k,i,v,h=>by
  simp only [List.length_cons,ai4,List.zip_cons_cons] at h;rw [aW] at h;by_cases d:k=i
  ·grind
  rw [if_neg d] at h;obtain ⟨e,f⟩:=tE c (k+1) i v h;grind
def wg:Nat->List Value->Fr
 | _,[]=>[]
 | k,v :: r=>(k,v) :: wg (k+1) r
theorem uh:∀ (c:List Value) (k:Nat),wg k c=(List.range' k c.length).zip c
 | [],_=>rfl
 | v :: r,k=>by simp [wg,ai4,uh r (k+1)]
variable {w:World} {P:Program}
def jT.enter {f:FuncId} {d:Func} {c:Code} {args:List Value} {l:Value->World->Prop} {fr:Fr} (q:P.funcs[f]? = some d) (r:d.body=some c) (s:d.ntmps=n)
  (j:Nat.ble args.length n=true) (k:wg 0 args=fr)
  (h:WC P (bodyPost P d fun e t=>∃ v,e = .returned v/\l v t) n c fr w):jT P f args.toArray w l:=by
 subst s;have m:args.length<=d.ntmps:=by simpa using j
 refine calls_of_wp q r (Zl rfl (h _ ⟨rfl,?_,fun i v o=>?_⟩))
 ·simp; omega
 rw [<- k,uh] at o;obtain ⟨_,g⟩:=tE args 0 i v o;rw [ajg] at g;have p:i<args.length:=(aaw.1 g).1;have u:args[i]=v:=by rw [List.getElem?_eq_getElem p] at g; exact acD g
 simp [Array.getD,p,u];omega
section ends
variable {P:Program} {fn:Func} {φ:Value->World->Prop} {n:Nat} {fr:Fr} {w:World}
def WX.Yv (h:WX (bodyPost P fn fun e c=>∃ v,e = .returned v/\φ v c) n .ret fr w):WX (bodyPost P fn fun e c=>∃ v,e = .returned v/\φ v c) n .normal fr w:=h
def WX.Ll {v:Value} (h:∀ a,M n fr a->(results fn a.tmps).run P w = .ok v w) (c:φ v w):WX (bodyPost P fn fun e f=>∃ v,e = .returned v/\φ v f) n .ret fr w:=
 fun a d=>⟨d.1,v,h a d,v,rfl,c⟩
def WX.aen (d:fn.results = #[]) (c:φ (.tuple #[]) w):WX (bodyPost P fn fun e f=>∃ v,e = .returned v/\φ v f) n .ret fr w:=
 WX.Ll (fun a _=>by simp [results,d]) c
def WX.Bp {t:Tmp} {v:Value} (d:fn.results = #[.tmp t]) (f:look fr t=some v) (c:φ v w):WX (bodyPost P fn fun e g=>∃ v,e = .returned v/\φ v g) n .ret fr w:=
 WX.Ll (fun a h=>by simp [results,d,h.at_ f]) c
end ends
structure Kp (S:List Nat) (w w':World):Prop where
 os:w'.os=w.os
 tape:w'.tape=w.tape
 output:w'.output=w.output
 size:w.heap.size<=w'.heap.size
 block:∀ b,b<w.heap.size->b ∉ S->w'.heap[b]? = w.heap[b]?
def Kp.refl (w:World):Kp [] w w:=⟨rfl,rfl,rfl,Nat.le_refl _,fun _ _ _=>rfl⟩
def Kp.trans {S T:List Nat} {a b c:World} (h:Kp S a b) (k:Kp T b c):Kp (S++T) a c:=
 ⟨k.os.trans h.os,k.tape.trans h.tape,k.output.trans h.output,Nat.le_trans h.size k.size,fun i e d=>by
  simp only [acq,not_or] at d;exact (k.block i (acv e h.size) d.2).trans (h.block i e d.1)⟩
variable {T S:List Nat} {b:World}
def Kp.sub {a:World} (h:Kp S a b) (c:∀ g ∈ S,g ∈ T):Kp T a b:=
 ⟨h.os,h.tape,h.output,h.size,fun i d e=>h.block i d fun f=>e (c i f)⟩
def Kp.step {a c:World} (h:Kp S a b) (k:Kp T b c) (f:∀ g ∈ T,g ∈ S\/a.heap.size<=g):Kp S a c:=
 ⟨k.os.trans h.os,k.tape.trans h.tape,k.output.trans h.output,Nat.le_trans h.size k.size,fun i d e=>(k.block i (acv d h.size) fun j=>by
  rcases f i j with h1 | h1
  ·exact e h1
  omega).trans (h.block i d e)⟩
variable {w':World}
def Kp.below (h:Kp [] w w'):Below w.heap.size w w':=⟨h.os,h.tape,h.output,h.size,fun b c=>h.block b c aa⟩
def Kp.drew {S:List Nat} {a w:World} (h:Kp S a w):Kp S a w.drew:=⟨h.os,h.tape,h.output,h.size,h.block⟩
theorem Kp.alloc (w:World) (o:Obj):Kp [] w (w.alloc o):=⟨rfl,rfl,rfl,aa,fun b c _=>Below.heap_alloc w o b c⟩
def Kp.IV (h:w.grownBy w' none):Kp [] w w':=⟨h.os,h.tape,h.output,h.size,fun b c _=>h.block b c aa⟩
section
variable {w w':World} {g:Nat} {t:TypeId} {cs:List Value}
end
def Kp.setRow (w:World) (g:Nat) (c:Array Value):Kp [g] w (w.setRow g c):=⟨rfl,rfl,rfl,aa,fun b _ d=>setRow_other w g b c (by simpa using d)⟩
def CellsAt (w:World) (a:Addr) (c:List Value):Prop:=∀ j v,c[j]? = some v->w.cell? (a.add j)=some v
theorem add_add (a:Addr) (i j:Nat):(a.add i).add j=a.add (i+j):=by
 unfold Addr.add;grind
def gb (a:Addr) (n:Nat):(a.add n).block=a.block:=by unfold Addr.add; split <;> rfl
theorem add_lit (g i j:Nat):(⟨g,i,none⟩:Addr).add j=⟨g,i+j,none⟩:=by unfold Addr.add; split <;> simp_all
section
variable {w w':World} {a:Addr} {cs:List Value}
def CellsAt.keep (h:CellsAt w a cs) (k:w'.heap[a.block]? = w.heap[a.block]?):CellsAt w' a cs:=fun j v c=>by
 exact (World.cell?_of_block (a:=a.add j) (by rw [gb]; exact k)).trans (h j v c)
def CellsAt.shift (h:CellsAt w a cs) (i:Nat):CellsAt w (a.add i) (cs.drop i):=fun j v c=>by
 rw [add_add]; exact h _ _ (by rw [<- c,aeb])
def CellsAt.take (h:CellsAt w a cs) (i:Nat):CellsAt w a (cs.take i):=fun j v c=>h j v (by
 rw [afF] at c; split at c
 ·exact c
 cases c)
theorem CellsAt.one (h:CellsAt w a cs) {j:Nat} {v:Value} (c:cs[j]? = some v):w.cell? (a.add j)=some v:=h j v c
def CellsAt.nil:CellsAt w a []:=fun j v c=>by simp at c
end
def I64 (n:Int):Prop:=-9223372036854775808<=n/\n<=9223372036854775807
inductive All2 {α β:Type} (R:α->β->Prop):List α->List β->Prop
 | nil:All2 R [] []
 | cons {a:α} {b:β} {asx:List α} {bs:List β}:R a b->All2 R asx bs->All2 R (a :: asx) (b :: bs)
section
variable {α β:Type} {R R':α->β->Prop}
def All2.imp {c:List α} {d:List β} (h:All2 R c d) (e:∀ a b,R a b->R' a b):All2 R' c d:=by
 induction h with
 | nil=>exact .nil
 | cons h _ f=>exact .cons (e _ _ h) f
theorem All2.length {c:List α} {d:List β} (h:All2 R c d):c.length=d.length:=by
 induction h with
 | nil=>rfl
 | cons _ _ e=>simp [e]
theorem All2.get {c:List α} {d:List β} (h:All2 R c d):∀ (i:Nat) (b:β),d[i]? = some b->∃ a,c[i]? = some a/\R a b:=by
 induction h with
 | nil=>intro i b e; simp at e
 | cons h _ f=>
  grind
def All2.append {d c:List α} {f e:List β} (h:All2 R d f) (g:All2 R c e):All2 R (d++c) (f++e):=by
 induction h with
 | nil=>exact g
 | cons h _ j=>exact .cons h j
def All2.take {c:List α} {d:List β} (h:All2 R c d):∀ n,All2 R (c.take n) (d.take n):=by
 induction h with
 | nil=>intro n; simp; exact .nil
 | cons h _ e=>intro n; cases n with
  | zero=>exact .nil
  | succ n=>exact .cons h (e n)
def All2.drop {c:List α} {d:List β} (h:All2 R c d):∀ n,All2 R (c.drop n) (d.drop n):=by
 induction h with
 | nil=>intro n; simp; exact .nil
 | cons h e f=>intro n; cases n with
  | zero=>exact .cons h e
  | succ n=>exact f n
def All2.set {c:List α} {d:List β} (h:All2 R c d):∀ (i:Nat) {a:α} {b:β},R a b->All2 R (c.set i a) (d.set i b):=by
 induction h with
 | nil=>intro i a b _; exact .nil
 | cons h f g=>intro i a b e; cases i with
  | zero=>exact .cons e f
  | succ i=>exact .cons h (g i e)
end
class Rp (α:Type) where
 sz:Nat
 by_:Nat
 tid:TypeId
 rp:Bool->Nat->Nat->World->List Value->α->Prop
 len:∀ {o lo hi w cs x},rp o lo hi w cs x->cs.length=sz
 one:∀ {o lo hi w cs x},rp o lo hi w cs x->∀ u ∈ cs,u.oneCell' = true
 keep:∀ {o lo hi w w' cs x},rp o lo hi w cs x->(∀ b,lo<=b->b<hi->w'.heap[b]? = w.heap[b]?)->rp o lo hi w' cs x
 mono:∀ {o lo hi lo' hi' w cs x},rp o lo hi w cs x->lo' <= lo->hi<=hi' -> rp o lo' hi' w cs x
 weak:∀ {o lo hi w cs x},rp o lo hi w cs x->rp false lo hi w cs x
 inner:List TypeId
 mrk:Nat × Nat->Prop:=fun fr=>fr=(0,0)
 mrk0:mrk (0,0):=by exact rfl
 keepT:∀ {o lo hi w w' cs x},rp o lo hi w cs x->(inner=[]\/o=true)->(∀ b cur t fr,lo<=b->b<hi->w.heap[b]? = some (.cells cur t fr)->t ∈ inner->w'.heap[b]? = w.heap[b]?)->rp o lo hi w' cs x
def Sl {d:Type} [Rp d] (o:Bool) (lo j:Nat) (w:World) (v:Value) (e:List d):Prop:=
 ∃ a c f,v = .slice a e.length c/\e.length<=c/\(c<=maxLen/\e.length*Rp.by_ d<=140737488355328)/\All2 (Rp.rp o lo j w) f e /\
  (e=[]\/∃ A:Addr,a=some A/\lo<=A.block/\A.block<j/\CellsAt w A f.flatten) /\
  (o=true->c=0\/∃ g h fr,a=some ⟨g,0,none⟩/\lo<=g/\g<j/\(w.heap[g]? = some (.cells h (Rp.tid d) fr)/\Rp.mrk d fr)/\h.size=c*Rp.sz d)
section
variable {α:Type} [Rp α] {o:Bool} {lo hi:Nat} {w w':World} {v:Value} {xs:List α}
theorem Sl.keep (h:Sl o lo hi w v xs) (k:∀ b,lo<=b->b<hi->w'.heap[b]? = w.heap[b]?):Sl o lo hi w' v xs:=by
 obtain ⟨a,c,f,j,l,m,p,g,s⟩:=h;refine ⟨a,c,f,j,l,m,p.imp fun _ _ h=>Rp.keep h k,?_,fun t=>?_⟩
 ·rcases g with g | ⟨A,q,d,e,r⟩
  ·grind
  exact .inr ⟨A,q,d,e,r.keep (k _ d e)⟩
 grind
theorem Sl.mono {d e:Nat} (h:Sl o lo hi w v xs) (g:d <= lo) (j:hi<=e):Sl o d e w v xs:=by
 obtain ⟨a,c,f,k,l,m,p,q,r⟩:=h;refine ⟨a,c,f,k,l,m,p.imp fun _ _ h=>Rp.mono h g j,?_,fun s=>?_⟩
 ·grind
 grind
def Sl.weak (h:Sl o lo hi w v xs):Sl false lo hi w v xs:=by
 obtain ⟨a,c,d,e,f,g,j,k,_⟩:=h;exact ⟨a,c,d,e,f,g,j.imp fun _ _ h=>Rp.weak h,k,fun l=>by cases l⟩
theorem Sl.keepT (h:Sl true lo hi w v xs) (k:∀ b d t fr,lo<=b->b<hi->w.heap[b]? = some (.cells d t fr)->t ∈ Rp.tid α :: Rp.inner α->w'.heap[b]? = w.heap[b]?):Sl true lo hi w' v xs:=by
 obtain ⟨a,c,j,u,x,y,p,q,z⟩:=h;refine ⟨a,c,j,u,x,y,p.imp fun _ _ h=>Rp.keepT h (.inr rfl) fun b d t fr B C D F=>k b d t fr B C D (acs _ F),?_,fun _=>?_⟩
 ·rcases q with q | ⟨A,r,l,m,G⟩
  ·grind
  refine .inr ⟨A,r,l,m,?_⟩;rcases z rfl with J | ⟨g,d,fr,s,e,f,H,K⟩
  ·have I:xs=[]:=acu aE;subst I;cases p;exact CellsAt.nil
  rw [r] at s;cases s;exact G.keep (k _ _ _ _ e f H.1 aa)
 grind
theorem Sl.form (h:Sl o lo hi w v xs):∃ a c,v = .slice a xs.length c/\xs.length<=c/\c<=maxLen:=by
 obtain ⟨a,c,d,e,f,g,_⟩:=h;grind
theorem Sl.one (h:Sl o lo hi w v xs):v.oneCell' = true:=by
 obtain ⟨a,c,rfl,_⟩:=h.form;rfl
end
instance:Rp Int where
 sz:=1
 by_:=8
 tid:=3
 rp _ _ _ _ cs x:=cs=[.int .i64 x]/\I64 x
 len h:=by rw [h.1]; rfl
 one h:=by rw [h.1]; simp [Value.oneCell']
 keep h _:=h
 mono h _ _:=h
 weak h:=h
 inner:=[]
 keepT h _ _:=h
instance:Rp Bool where
 sz:=1
 by_:=1
 tid:=4
 rp _ _ _ _ cs x:=cs=[.bool x]
 len h:=by rw [h]; rfl
 one h:=by rw [h]; simp [Value.oneCell']
 keep h _:=h
 mono h _ _:=h
 weak h:=h
 inner:=[]
 keepT h _ _:=h
instance:Rp UInt8 where
 sz:=1
 by_:=1
 tid:=5
 rp _ _ _ _ cs x:=cs=[.int .u8 x.toNat]
 len h:=by rw [h]; rfl
 one h:=by rw [h]; simp [Value.oneCell']
 keep h _:=h
 mono h _ _:=h
 weak h:=h
 mrk _:=True
 mrk0:=trivial
 inner:=[]
 keepT h _ _:=h
structure U64 where
 n:Nat
deriving DecidableEq
instance:Rp U64 where
 sz:=1
 by_:=8
 tid:=173
 rp _ _ _ _ cs x:=cs=[.int .u64 x.n]/\x.n<18446744073709551616
 len h:=by rw [h.1]; rfl
 one h:=by rw [h.1]; simp [Value.oneCell']
 keep h _:=h
 mono h _ _:=h
 weak h:=h
 inner:=[]
 keepT h _ _:=h
structure Str where
 b:List UInt8
deriving DecidableEq
def Str.val (s:Str):Value:=.string ⟨s.b.toArray⟩
instance:Rp Str where
 sz:=1
 by_:=16
 tid:=9
 rp _ _ _ _ cs x:=cs=[x.val]/\x.b.length<=140737488355328
 len h:=by rw [h.1]; rfl
 one h:=by rw [h.1]; simp [Value.oneCell',Str.val]
 keep h _:=h
 mono h _ _:=h
 weak h:=h
 inner:=[]
 keepT h _ _:=h
instance (priority:=low) listRp {α:Type} [Rp α]:Rp (List α) where
 sz:=1
 by_:=24
 tid:=0
 rp o lo hi w cs xs:=∃ v,cs=[v]/\Sl o lo hi w v xs
 len h:=by obtain ⟨v,rfl,_⟩:=h; rfl
 one h:=by obtain ⟨v,rfl,h⟩:=h; simp [h.one]
 keep h k:=by obtain ⟨v,rfl,h⟩:=h; exact ⟨v,rfl,h.keep k⟩
 mono h h1 h2:=by obtain ⟨v,rfl,h⟩:=h; exact ⟨v,rfl,h.mono h1 h2⟩
 weak h:=by obtain ⟨v,rfl,h⟩:=h; exact ⟨v,rfl,h.weak⟩
 inner:=Rp.tid α :: Rp.inner α
 keepT h ho k:=by
  obtain ⟨v,rfl,h⟩:=h
  have ho':=ho.resolve_left (by simp)
  subst ho'
  exact ⟨v,rfl,h.keepT k⟩
instance pairRp {α β:Type} [Rp α] [Rp β]:Rp (α × β) where
 by_:=0
 sz:=Rp.sz α+Rp.sz β
 tid:=0
 rp o lo hi w cs x:=∃ c1 c2,cs=c1++c2/\Rp.rp o lo hi w c1 x.1/\Rp.rp o lo hi w c2 x.2
 len h:=by obtain ⟨c1,c2,rfl,h1,h2⟩:=h; rw [List.length_append,Rp.len h1,Rp.len h2]
 one h:=by
  obtain ⟨c1,c2,rfl,h1,h2⟩:=h
  intro u hu
  rcases acq.1 hu with hu | hu
  ·exact Rp.one h1 u hu
  ·exact Rp.one h2 u hu
 keep h k:=by obtain ⟨c1,c2,rfl,h1,h2⟩:=h; exact ⟨c1,c2,rfl,Rp.keep h1 k,Rp.keep h2 k⟩
 mono h ha hb:=by obtain ⟨c1,c2,rfl,h1,h2⟩:=h; exact ⟨c1,c2,rfl,Rp.mono h1 ha hb,Rp.mono h2 ha hb⟩
 weak h:=by obtain ⟨c1,c2,rfl,h1,h2⟩:=h; exact ⟨c1,c2,rfl,Rp.weak h1,Rp.weak h2⟩
 inner:=Rp.inner α++Rp.inner β
 keepT h ho k:=by
  obtain ⟨c1,c2,rfl,h1,h2⟩:=h
  exact ⟨c1,c2,rfl,Rp.keepT h1 (ho.imp (fun h=>(List.append_eq_nil_iff.1 h).1) id) fun b cur t fr a1 a2 a3 a4=>k b cur t fr a1 a2 a3 (acz _ a4),
   Rp.keepT h2 (ho.imp (fun h=>(List.append_eq_nil_iff.1 h).2) id) fun b cur t fr a1 a2 a3 a4=>k b cur t fr a1 a2 a3 (acB _ a4)⟩
section
variable {α:Type} [Rp α] {o:Bool} {lo hi:Nat} {w w':World} {cs:List Value} {x:α}
variable {v:Value} {xs:List α}
end
theorem I64.wrap {x:Int} (h:I64 x):IntKind.i64.wrap x=x:=IntWalk.i64_in x ⟨h.1,h.2⟩
variable {m:Nat}
def Ed (h:m<256):IntKind.u8.wrap (m:Int)=m:=by
 simp only [IntKind.wrap,IntKind.bits,IntKind.signed];simp;omega
section
variable {P:Program} {n:Nat} {fr:Fr} {w:World} {x y z:Operand} {ty t t':TypeId}
def R.move {v:Value} (c:ev fr x=some v):aF P n fr w (.move x) ty v w:=fun a _ _ _ _ d=>by simp [execOp,d.ev c]
def R.assign {v:Value} (c:ev fr x=some v):aF P n fr w (.assign x) ty v w:=fun a _ _ _ _ d=>by simp [execOp,d.ev c]
variable {b:Bool}
def R.AL {v:Value} (d:ev fr z=some (.bool b)) (e:b=true) (f:ev fr x=some v):aF P n fr w (.pick z x y) ty v w:=fun a _ _ _ _ c=>by
 subst e; simp [execOp,c.ev d,c.ev f,asBool]
def R.CB {v:Value} (d:ev fr z=some (.bool b)) (e:b=false) (f:ev fr y=some v):aF P n fr w (.pick z x y) ty v w:=fun a _ _ _ _ c=>by
 subst e; simp [execOp,c.ev d,c.ev f,asBool]
def R.not {b:Bool} (c:ev fr x=some (.bool b)):aF P n fr w (.unOp .not t x) ty (.bool (!b)) w:=fun a _ _ _ _ d=>by
 simp [execOp,d.ev c,Op.unary]
section ints
variable {k:IntKind} {a b:Int}
def R.lss (d:ev fr x=some (.int k a)) (e:ev fr y=some (.int k b)):aF P n fr w (.binOp .lss t x y t') ty (.bool (decide (a<b))) w:=fun _ _ _ _ _ c=>by
 simp [execOp,c.ev d,c.ev e,eqGuard_lss,binOp_lss]
def R.leq (d:ev fr x=some (.int k a)) (e:ev fr y=some (.int k b)):aF P n fr w (.binOp .leq t x y t') ty (.bool (decide (a<=b))) w:=fun _ _ _ _ _ c=>by
 simp [execOp,c.ev d,c.ev e,eqGuard_leq,binOp_leq]
def R.gtr (d:ev fr x=some (.int k a)) (e:ev fr y=some (.int k b)):aF P n fr w (.binOp .gtr t x y t') ty (.bool (decide (b<a))) w:=fun _ _ _ _ _ c=>by
 simp [execOp,c.ev d,c.ev e,eqGuard_gtr,binOp_gtr]
def R.geq (d:ev fr x=some (.int k a)) (e:ev fr y=some (.int k b)):aF P n fr w (.binOp .geq t x y t') ty (.bool (decide (b<=a))) w:=fun _ _ _ _ _ c=>by
 simp [execOp,c.ev d,c.ev e,eqGuard_geq,binOp_geq]
theorem R.eql (d:ev fr x=some (.int k a)) (e:ev fr y=some (.int k b)):aF P n fr w (.binOp .eql t x y t') ty (.bool (decide (a=b))) w:=fun _ _ _ _ _ c=>by
 simp [execOp,c.ev d,c.ev e,binOp_eql]; rfl
theorem R.neq (d:ev fr x=some (.int k a)) (e:ev fr y=some (.int k b)):aF P n fr w (.binOp .neq t x y t') ty (.bool (!decide (a=b))) w:=fun _ _ _ _ _ c=>by
 simp [execOp,c.ev d,c.ev e,binOp_neq]; rfl
def R.UE (d:ev fr x=some (.int k a)) (e:ev fr y=some (.int k b)):aF P n fr w (.binOp .add t x y t') ty (.int k (k.wrap (a+b))) w:=fun _ _ _ _ _ c=>by
 simp [execOp,c.ev d,c.ev e,eqGuard_add,binOp_add,Op.intArith]
def R.aeO (d:ev fr x=some (.int k a)) (e:ev fr y=some (.int k b)):aF P n fr w (.binOp .sub t x y t') ty (.int k (k.wrap (a - b))) w:=fun _ _ _ _ _ c=>by
 simp [execOp,c.ev d,c.ev e,eqGuard_sub,binOp_sub,Op.intArith]
def R.aeq (d:ev fr x=some (.int k a)) (e:ev fr y=some (.int k b)):aF P n fr w (.binOp .mul t x y t') ty (.int k (k.wrap (a*b))) w:=fun _ _ _ _ _ c=>by
 simp [execOp,c.ev d,c.ev e,eqGuard_mul,binOp_mul,Op.intArith]
theorem R.add (c:ev fr x=some (.int .i64 a)) (d:ev fr y=some (.int .i64 b)) (h:I64 (a+b)):aF P n fr w (.binOp .add t x y t') ty (.int .i64 (a+b)) w:=by
 have:=R.UE (P:=P) (n:=n) (w:=w) (ty:=ty) (t:=t) (t':=t') c d;rwa [h.wrap] at this
def R.sub (c:ev fr x=some (.int .i64 a)) (d:ev fr y=some (.int .i64 b)) (h:I64 (a - b)):aF P n fr w (.binOp .sub t x y t') ty (.int .i64 (a - b)) w:=by
 have:=R.aeO (P:=P) (n:=n) (w:=w) (ty:=ty) (t:=t) (t':=t') c d;rwa [h.wrap] at this
def R.mul (c:ev fr x=some (.int .i64 a)) (d:ev fr y=some (.int .i64 b)) (h:I64 (a*b)):aF P n fr w (.binOp .mul t x y t') ty (.int .i64 (a*b)) w:=by
 have:=R.aeq (P:=P) (n:=n) (w:=w) (ty:=ty) (t:=t) (t':=t') c d;rwa [h.wrap] at this
def R.conv {c:IntKind} {d:TypeDesc} (e:ev fr x=some (.int k a)) (f:P.underlying t=some d) (g:P.underlying t' = some (.int c)):aF P n fr w (.convert t t' x) ty (.int c (c.wrap a)) w:=fun _ _ _ _ _ h=>by
 simp [execOp,h.ev e,convert,run_underlying f,run_underlying g,Conv.intToInt]
variable {asx:Array TypeId}
def R.min2 (d:ev fr x=some (.int k a)) (e:ev fr y=some (.int k b)):aF P n fr w (.call { callee:=.builtin .min,args:=#[x,y],argTypes:=asx }) ty (.int k (min a b)) w:=fun _ _ _ _ _ c=>by
 simp [execOp,resolve,invoke,builtin,c.ev d,c.ev e,run_min_int2];split <;> omega
def R.max2 (d:ev fr x=some (.int k a)) (e:ev fr y=some (.int k b)):aF P n fr w (.call { callee:=.builtin .max,args:=#[x,y],argTypes:=asx }) ty (.int k (max a b)) w:=fun _ _ _ _ _ c=>by
 simp [execOp,resolve,invoke,builtin,c.ev d,c.ev e,run_max_int2];split <;> omega
theorem R.oA {a b:Nat} (c:ev fr x=some (.int .i64 (a:Int))) (d:ev fr y=some (.int .i64 (b:Int))) (h:a+b<=9223372036854775807):aF P n fr w (.binOp .add t x y t') ty (.int .i64 ((a+b:Nat):Int)) w:=by
 have:=R.add (P:=P) (n:=n) (w:=w) (ty:=ty) (t:=t) (t':=t') c d ⟨aE,aE⟩;grind
theorem R.aeL {a b:Nat} (c:ev fr x=some (.int .i64 (a:Int))) (d:ev fr y=some (.int .i64 (b:Int))) (h:b<=a) (e:a<=9223372036854775807):aF P n fr w (.binOp .sub t x y t') ty (.int .i64 ((a - b:Nat):Int)) w:=by
 have:=R.sub (P:=P) (n:=n) (w:=w) (ty:=ty) (t:=t) (t':=t') c d ⟨aE,aE⟩;grind
def R.TG {a b:Nat} (f:ev fr x=some (.int k (a:Int))) (g:ev fr y=some (.int k (b:Int))) (h:0<b):aF P n fr w (.binOp .rem t x y t') ty (.int k ((a % b:Nat):Int)) w:=fun _ _ _ _ _ d=>by
 have c:¬ b=0:=by omega
 have e:(a:Int).tmod b=((a % b:Nat):Int):=by rw [Int.tmod_eq_emod_of_nonneg aE]; omega
 simp [execOp,d.ev f,d.ev g,eqGuard_rem,binOp_rem,Op.intDiv,c,e]
def R.TR {a b:Nat} (e:ev fr x=some (.int k (a:Int))) (f:ev fr y=some (.int k (b:Int))) (h:0<b) (g:k.wrap ((a / b:Nat):Int)=((a / b:Nat):Int)):aF P n fr w (.binOp .quo t x y t') ty (.int k ((a / b:Nat):Int)) w:=fun _ _ _ _ _ d=>by
 have c:¬ b=0:=by omega
 simp [execOp,d.ev e,d.ev f,eqGuard_quo,binOp_quo,Op.intDiv,c];simpa using g
def R.aaN {b:UInt8} {d:TypeDesc} (c:ev fr x=some (.int .u8 (b.toNat:Int))) (e:P.underlying t=some d) (f:P.underlying t' = some (.int .i64)):aF P n fr w (.convert t t' x) ty (.int .i64 (b.toNat:Int)) w:=by
 have:=R.conv (P:=P) (n:=n) (w:=w) (ty:=ty) c e f
 have g:=b.toNat_lt;rwa [I64.wrap ⟨aE,aE⟩] at this
theorem R.afm {a b:UInt8} (g:ev fr x=some (.int .u8 (a.toNat:Int))) (h:ev fr y=some (.int .u8 (b.toNat:Int))):aF P n fr w (.binOp .and t x y t') ty (.int .u8 ((a &&& b).toNat:Int)) w:=fun _ _ _ _ _ d=>by
 have e:bits .and .u8 (a.toNat:Int) (b.toNat:Int)=((a &&& b).toNat:Int):=by
  have f:∀ c:UInt8,(BitVec.ofInt 8 (c.toNat:Int))=c.toBitVec:=fun c=>by
   simp_all
  show IntKind.u8.wrap ((BitVec.ofInt 8 (a.toNat:Int) &&& BitVec.ofInt 8 (b.toNat:Int)).toNat:Int)=_;rw [f,f,<- UInt8.toBitVec_and];have:=(a &&& b).toNat_lt;exact Ed this
 simp [execOp,d.ev g,d.ev h,eqGuard_and,binOp_and,intBits_and,e]
end ints
variable {a:Bool}
def R.ah3 (d:ev fr x=some (.bool a)) (e:ev fr y=some (.bool b)) (f:P.underlying t=some .bool):aF P n fr w (.binOp .eql t x y t') ty (.bool (a == b)) w:=fun _ _ _ _ _ c=>by
 simp [execOp,c.ev d,c.ev e,eqGuard_at_bool,run_eql_bool _ _ _ _ f]
def R.aiB (d:ev fr x=some (.bool a)) (e:ev fr y=some (.bool b)) (f:P.underlying t=some .bool):aF P n fr w (.binOp .neq t x y t') ty (.bool (!(a == b))) w:=fun _ _ _ _ _ c=>by
 simp [execOp,c.ev d,c.ev e,eqGuard_at_bool,run_neq_bool _ _ _ _ f]
variable {b a:Str}
def R.ahw (d:ev fr x=some a.val) (f:ev fr y=some b.val):aF P n fr w (.binOp .eql t x y t') ty (.bool (decide (a=b))) w:=fun _ _ _ _ _ c=>by
 have e:(a.b == b.b)=decide (a=b):=by
  rw [aht];cases a; cases b; simp
 simp [execOp,c.ev d,c.ev f,Str.val,eqGuard_at_string,binOp,Op.stringOp,e]
def R.ai0 (d:ev fr x=some a.val) (f:ev fr y=some b.val):aF P n fr w (.binOp .neq t x y t') ty (.bool (!decide (a=b))) w:=fun _ _ _ _ _ c=>by
 have e:(a.b == b.b)=decide (a=b):=by
  rw [aht];cases a; cases b; simp
 simp [execOp,c.ev d,c.ev f,Str.val,eqGuard_at_string,binOp,Op.stringOp,e]
theorem R.extract {c:Array Value} {v:Value} {i:Nat} (d:ev fr x=some (.tuple c)) (e:c[i]? = some v):aF P n fr w (.extract x i) ty v w:=fun _ _ _ _ _ f=>by
 simp [execOp,f.ev d,Instr.extract,e]
def R.px {a:Addr} (c:ev fr x=some (.pointer (some a))):aF P n fr w (.nilCheck x) ty (.pointer (some a)) w:=fun _ _ _ _ _ d=>by
 simp [execOp,d.ev c]
def R.HT {f:FuncId} {a c:Array Value} (d:ev fr x=some (.func (.func f) a c)):aF P n fr w (.nilCheck x) ty (.func (.func f) a c) w:=fun _ _ _ _ _ e=>by
 simp [execOp,e.ev d]
theorem R.makeFunc {f:FuncId} {c:Array Operand} {cv:Array Value} (h:∀ a,M n fr a->c.map a.eval=cv):aF P n fr w (.makeFunc (.func f) #[] c) ty (.func (.func f) #[] cv) w:=fun _ _ _ _ _ d=>by
 simp [execOp,Instr.makeFunc,h _ d]
theorem R.len {a:Option Addr} {m c:Nat} {e:TypeId} (d:ev fr x=some (.slice a m c)) (f:P.underlying t=some (.slice e)):aF P n fr w (.call { callee:=.builtin .len,args:=#[x],argTypes:=#[t] }) ty (.int .i64 (m:Int)) w:=fun _ _ _ _ _ g=>by
 simp [execOp,resolve,invoke,builtin,g.ev d,Builtin.len_,run_underlying f,goInt]
def R.aiM {s:Str} (c:ev fr x=some s.val) (d:P.underlying t=some .string):aF P n fr w (.call { callee:=.builtin .len,args:=#[x],argTypes:=#[t] }) ty (.int .i64 (s.b.length:Int)) w:=fun _ _ _ _ _ e=>by
 simp [execOp,resolve,invoke,builtin,e.ev c,Builtin.len_,run_underlying d];rfl
variable {a:Option Addr} {e:TypeId}
def R.Mw {c:Nat} (f:ev fr x=some (.slice a m c)) (g:ev fr y=some (.slice none 0 0)) (h:P.underlying t=some (.slice e)):aF P n fr w (.binOp .eql t x y t') ty (.bool a.isNone) w:=fun _ _ _ _ _ d=>by
 simp [execOp,d.ev f,d.ev g,eqGuard_at_slice,Lib.run_eql_slice_nil w t e a m c 0 0 h]
def R.LS {c:Nat} (f:ev fr x=some (.slice a m c)) (g:ev fr y=some (.slice none 0 0)) (h:P.underlying t=some (.slice e)):aF P n fr w (.binOp .neq t x y t') ty (.bool (!a.isNone)) w:=fun _ _ _ _ _ d=>by
 simp [execOp,d.ev f,d.ev g,eqGuard_at_slice,run_neq_slice_nil_any w t e a m c 0 0 h]
def R.build {d:Array (Nat × Operand)} {pv:List (Nat × Value)} {c:Array Value} (f:∀ a,M n fr a->(d.map fun p=>(p.1,a.eval p.2))=pv.toArray) (g:P.built t pv=some c) :
  aF P n fr w (.build t d) ty (.agg c) w:=fun _ _ _ _ _ h=>by
 have j:=run_build (P:=P) w t pv.toArray c (by simpa using g);simp [execOp,f _ h,j]
def kx:TypeDesc->Bool | .struct _=>true | .array _ _=>true | _=>false
theorem lZ {d:TypeDesc} (c:P.underlying t=some d) (w:World):(isAgg t).run P w = .ok (kx d) w:=by
 unfold isAgg;rw [Sem.run_bind,run_underlying c w];cases d <;> rfl
variable {a:Addr}
theorem ze {v:Value} {d:TypeDesc} (c:P.underlying t=some d) (f:kx d=false) (g:w.cell? a=some v):(loadVar t a).run P w = .ok v w:=by
 simp [loadVar,lZ c,f,g]
variable {cs:List Value}
theorem z_ {d:TypeDesc} (g:P.underlying t=some d) (h:kx d=true) (f:(P.info? t).map (·.size)=some cs.length) (j:CellsAt w a cs):(loadVar t a).run P w = .ok (.agg cs.toArray) w:=by
 cases c:P.info? t with
 | none=>simp [c] at f
 | some i=>
  have k:i.size=cs.length:=by simpa [c] using f
  simp [loadVar,lZ g,h,sizeOf,typeInfo,c,k,aih (P:=P) w a cs j]
def R.Wo {v:Value} {d:TypeDesc} (c:ev fr x=some (.pointer (some a))) (f:P.underlying t=some d) (g:kx d=false) (h:w.cell? a=some v):aF P n fr w (.load t x) ty v w:=fun _ _ _ _ _ j=>by
 simp [execOp,j.ev c,Instr.loadAt,Instr.sureAddr,ze f g h]
def R.WH {d:TypeDesc} (c:ev fr x=some (.pointer (some a))) (f:P.underlying t=some d) (g:kx d=true) (h:(P.info? t).map (·.size)=some cs.length) (j:CellsAt w a cs) :
  aF P n fr w (.load t x) ty (.agg cs.toArray) w:=fun _ _ _ _ _ k=>by
 simp [execOp,k.ev c,Instr.loadAt,Instr.sureAddr,z_ f g h j]
theorem tQ {f:Field} {s:Nat} (d:(P.info? f.type).map (·.size)=some (s+1)):(fieldPlace a f).run P w = .ok (a.add f.offset) w:=by
 cases c:P.info? f.type with
 | none=>simp [c] at d
 | some i=>
  have:i.size=s+1:=by simpa [c] using d
  simp [fieldPlace,sizeOf,typeInfo,c,this]
def R.fieldAddr {a:Addr} {c:Array Field} {i j s:Nat} {f:Field} (d:ev fr x=some (.pointer (some a))) (g:P.underlying t=some (.struct c)) (h:c[i]? = some f) (k:f.offset=j) (l:(P.info? f.type).map (·.size)=some (s+1)) :
  aF P n fr w (.fieldAddr t x i) ty (.pointer (some (a.add j))) w:=fun _ _ _ _ _ o=>by
 subst k;simp [execOp,o.ev d,Instr.fieldAt,run_underlying g,h,Instr.sureAddr,tQ l]
def R.indexAddr {a:Option Addr} {A:Addr} {m c:Nat} {k:IntKind} {i:Int} {e:TypeId} {s:Nat} (h:ev fr x=some (.slice a m c)) (j:ev fr y=some (.int k i)) (l:P.underlying t=some (.slice e)) (f:(P.info? e).map (·.size)=some s)
  (o:a=some A) (p:0<=i) (r:i<(m:Int)):aF P n fr w (.indexAddr t x y) ty (.pointer (some (A.add (i.toNat*s)))) w:=fun _ _ _ _ _ g=>by
 subst o;cases d:P.info? e with
 | none=>simp [d] at f
 | some q=>
  have:q.size=s:=by simpa [d] using f
  simp [execOp,g.ev h,g.ev j,Instr.indexAt,run_underlying l,asIntOf,p,r,sizeOf,typeInfo,d,this]
theorem R.jR {a:Option Addr} {A:Addr} {c:Nat} {k:IntKind} {s:Nat} (d:ev fr x=some (.slice a m c)) (f:ev fr y=some (.int k (i:Int))) (g:P.underlying t=some (.slice e)) (h:(P.info? e).map (·.size)=some s)
  (j:a=some A) (l:i<m):aF P n fr w (.indexAddr t x y) ty (.pointer (some (A.add (i*s)))) w:=by
 have:=R.indexAddr (P:=P) (n:=n) (w:=w) (ty:=ty) d f g h j aE aE;grind
variable {Q:Exit->Act->World->Prop} {l rest:List Oper} {d:Nat} {pos:String} {af:Array Edge}
def Rl (fr:Fr):List Operand->Option (List Value)
 | []=>some []
 | x :: r=>
  match ev fr x,Rl fr r with
  | some v,some c=>some (v :: c)
  | _,_=>none
theorem nv {a:Act} (g:M n fr a):∀ {j:List Operand} {c:List Value},Rl fr j=some c->j.map a.eval=c
 | [],c,h=>by simp [Rl] at h; subst h; rfl
 | x :: r,c,h=>by
  simp only [Rl] at h;split at h
  ·rename_i v k o f;cases h;simp [g.ev o,nv g f]
  cases h
def NH (fr:Fr):List (Nat × Operand)->Option (List (Nat × Value))
 | []=>some []
 | (i,x) :: r=>
  match ev fr x,NH fr r with
  | some v,some c=>some ((i,v) :: c)
  | _,_=>none
theorem yG {a:Act} (g:M n fr a):∀ {j:List (Nat × Operand)} {c:List (Nat × Value)},NH fr j=some c->j.map (fun p=>(p.1,a.eval p.2))=c
 | [],c,h=>by simp [NH] at h; subst h; rfl
 | (i,x) :: r,c,h=>by
  simp only [NH] at h;split at h
  ·rename_i v k o f;cases h;simp [g.ev o,yG g f]
  cases h
def R.oT {c:List (Nat × Operand)} {pv:List (Nat × Value)} {cells:Array Value} (f:NH fr c=some pv) (g:P.built t pv=some cells):aF P n fr w (.build t c.toArray) ty (.agg cells) w:=
 R.build (pv:=pv) (fun a h=>by simp [<- yG h f]) g
theorem sw (s:Nat):∀ (f:List (List Value)) (k:Nat) (pre post:List Value),(∀ vs ∈ f,vs.length=s)->pre.length=k*s->post.length=f.length*s->∀ (pv:List (Nat × Value)),pv.map (fun p=>(p.1,p.2.cells.toList))=(List.range' k f.length).zip f ->
  Instr.fill (fun i=>some (i*s,s)) (pre++post).toArray pv=some (pre++f.flatten).toArray
 | [],k,pre,post,_,_,g,pv,h=>by
  have:pv=[]:=by simpa using h
  subst this;have:post=[]:=by simpa using g
  subst this;simp [Instr.fill]
 | vs :: f,k,pre,post,B,o,g,[],h=>by simp [ai4] at h
 | vs :: f,k,pre,post,B,o,g,(i,v) :: pv,h=>by
  simp only [afV,List.length_cons,ai4,List.zip_cons_cons,List.cons.injEq,Prod.mk.injEq] at h;obtain ⟨⟨K,G⟩,h⟩:=h;subst K;have q:vs.length=s:=B vs aa;have C:v.cells.size=s:=by rw [<- Array.length_toList,G,q]
  have A:post.length=s+f.length*s:=by rw [g,List.length_cons,ag8]; omega
  have D:∀ (r:List Value) (j:Nat) (a b:List Value),r.length<=b.length->a.length=i*s+j ->
    (r.zipIdx j).foldl (fun cs (c:Value × Nat)=>cs.setIfInBounds (i*s+c.2) c.1) (a++b).toArray=(a++r++b.drop r.length).toArray:=by
   intro r;induction r with
   | nil=>intro j a b _ _; simp
   | cons u r L=>
    intro j a b H I;cases b with
    | nil=>simp at H
    | cons N b=>
     simp only [List.zipIdx_cons,List.foldl_cons];have:((a++N :: b).toArray.setIfInBounds (i*s+j) u)=((a++[u])++b).toArray:=by
      simp [<- I]
     rw [this,L (j+1) (a++[u]) b (by simpa using H) (by simp [I]; omega)];simp
  have F:v.cells.zipIdx.foldl (fun cs (c:Value × Nat)=>cs.setIfInBounds (i*s+c.2) c.1) (pre++post).toArray=((pre++vs)++post.drop s).toArray:=by
   have J:=D vs 0 pre post aE aE;rw [q] at J;have O:v.cells=vs.toArray:=by simp [<- G]
   rw [<- J,O];simp
  simp only [Instr.fill,C,ne_eq,not_true_eq_false];rw [if_neg (by simp [o,A])];have:=sw s f (i+1) (pre++vs) (post.drop s) (fun x U=>B x (by simp [U])) (by simp [o,q,ag8]) (by simp [A]) pv (by simpa using h);refine Eq.trans ?_ (this.trans aa);congr 1
end
theorem zw:∀ {pre fr:Fr} {i:Nat},(∀ p ∈ pre,p.1≠i)->look (pre++fr) i=look fr i
 | [],_,_,_=>rfl
 | (j,v) :: r,fr,i,h=>by
  rw [List.cons_append,aW,if_neg (h (j,v) aa)];exact zw fun p c=>h p (by simp [c])
theorem yR:∀ {fr:Fr} {i:Nat} {v:Value},look fr i=some v->∃ q ∈ fr,q.1=i
 | (j,u) :: r,i,v,h=>by
  rw [aW] at h;by_cases c:j=i
  ·simp_all
  rw [if_neg c] at h;obtain ⟨q,d,e⟩:=yR h;grind
section
variable {P:Program} {Q:Exit->Act->World->Prop} {n:Nat} {fr:Fr} {w:World}
end
def xN {c:Type} {d:List c} {x:c} (h:d[i]? = some x):i<d.length:=(aaw.1 h).1
def CellsAt.kp {a:Addr} {d:List Value} (h:CellsAt w a d) (k:Kp S w w') (c:a.block<w.heap.size) (e:∀ g ∈ S,g≠a.block):CellsAt w' a d:=
 h.keep (k.block _ c fun f=>e _ f rfl)
def vb {b c:Bool} (h:b=c):Value.bool b = .bool c:=by rw [h]
def Ac {c:Type} [Rp c] (lo:Nat) (j:Bool) (f h k:Nat) (w:World) (v:Value) (e:List c):Prop:=
 e.length*Rp.by_ c<=140737488355328/\∃ d,((e=[]/\∃ a,v = .slice a 0 0)\/(w.ownsRow lo (Rp.tid c) (Rp.sz c) v e.length d.flatten/\∀ g,v.ownBlock=some g->g<k))/\All2 (Rp.rp j f h w) d e
def ob:Value->List Nat
 | .slice (some a) _ c=>if c=0 then [] else [a.block]
 | _=>[]
def xc {v:Value} {g:Nat} (h:g ∈ ob v):v.ownBlock=some g:=by
 cases v <;> simp only [ob,af8] at h;rename_i a n c;cases a with
 | none=>simp at h
 | some a=>
  simp only at h;split at h
  ·simp at h
  simp at h; simp [Value.ownBlock,h]
section
variable {α:Type} [Rp α] {lo lo2 hi2 hi:Nat} {o o2:Bool} {w w':World} {v:Value} {xs ys:List α}
theorem DB {e:TypeId} {s:Nat} {f:List Value} (h:w.ownsRow lo e s v n f) (k:∀ g,v.ownBlock=some g->w'.heap[g]? = w.heap[g]?):w'.ownsRow lo e s v n f:=by
 refine ⟨h.1,?_⟩;rcases h.2 with q | ⟨g,c,d,j,l,p,r⟩
 ·grind
 exact .inr ⟨g,c,d,j,l,(k g (by simp [j,Value.ownBlock])).trans p,r⟩
theorem Ac.keep (h:Ac lo o2 lo2 hi2 hi w v xs) (k:∀ b,lo<=b->b<hi->w'.heap[b]? = w.heap[b]?) (j:∀ b,lo2<=b->b<hi2->w'.heap[b]? = w.heap[b]?):Ac lo o2 lo2 hi2 hi w' v xs:=by
 obtain ⟨l,d,c,p⟩:=h;refine ⟨l,d,?_,p.imp fun _ _ h=>Rp.keep h j⟩;rcases c with q | ⟨c,e⟩
 ·grind
 exact .inr ⟨DB c fun g f=>k g (c.lt g f).1 (e g f),e⟩
theorem Ac.mono {f d e j:Nat} (h:Ac lo o2 lo2 hi2 hi w v xs) (a:f <= lo) (b:d <= lo2) (t:hi2<=e) (c:hi<=j):Ac f o2 d e j w v xs:=by
 obtain ⟨u,l,k,x⟩:=h;refine ⟨u,l,?_,x.imp fun _ _ h=>Rp.mono h b t⟩;rcases k with y | ⟨k,z⟩
 ·grind
 refine .inr ⟨⟨k.1,?_⟩,fun g s=>acv (z g s) c⟩;rcases k.2 with y | ⟨g,p,q,A,s,r⟩
 ·grind
 exact .inr ⟨g,p,q,A,aE,r⟩
def Ac.weak (h:Ac lo o2 lo2 hi2 hi w v xs):Ac lo false lo2 hi2 hi w v xs:=by
 obtain ⟨d,c,e,f⟩:=h;exact ⟨d,c,e,f.imp fun _ _ h=>Rp.weak h⟩
end
theorem re {e:TypeId} {s b:Nat} {z:List Value} (h:(P.info? e).map (fun i=>(i.zero.map Value.cells,i.size,i.bytes))=some (some z.toArray,s,b)) :
  ∃ i c,P.info? e=some i/\i.zero=some c/\c.cells=z.toArray/\i.size=s/\i.bytes=b:=by
 cases d:P.info? e with
 | none=>simp [d] at h
 | some i=>
  simp_all
section
variable {P:Program} {n:Nat} {fr:Fr} {w:World} {x y:Operand} {ty t:TypeId} {Q:Exit->Act->World->Prop} {l rest:List Oper} {d:Nat} {pos:String} {af:Array Edge}
variable {α:Type} [Rp α] {lo lo2 hi2 hi:Nat} {o2:Bool} {v:Value} {xs ys:List α}
end
section
variable {P:Program} {Q:Exit->Act->World->Prop} {n:Nat} {fr:Fr} {w:World} {x y:Operand} {ty t:TypeId} {l rest:List Oper} {d:Nat} {pos:String} {af:Array Edge}
variable {α:Type} [Rp α] {lo lo2 hi2 hi:Nat} {o2:Bool} {xs:List α}
def vG (a:Addr):a.add 0=a:=by simp [Addr.add_zero']
variable {z' z:Operand} {a' a:Option Addr} {kh kl:IntKind} {j:Nat} {e:TypeId}
def R.GM {c s:Nat} (u:ev fr x=some (.slice a m c)) (v:ev fr z=some (.int kl (i:Int))) (g:ev fr z' = some (.int kh (j:Int))) (h:P.underlying t=some (.slice e)) (r:(P.info? e).map (·.size)=some s)
  (A:(if c=i then a else a.map (·.add (i*s)))=a') (B:i<=j) (D:j<=c):aF P n fr w (.slice t x (some z) (some z') none) ty (.slice a' (j - i) (c - i)) w:=fun _ _ _ _ _ f=>by
 subst A;cases k:P.info? e with
 | none=>simp [k] at r
 | some q=>
  have o:q.size=s:=by simpa [k] using r
  have p:P.elem t=e:=by simp [Program.elem,h]
  have C:=aiG (P:=P) w t (.slice a m c) (some (.int kl (i:Int))) (some (.int kh (j:Int))) none (by rw [p]; exact h);have:=run_slice_lh (P:=P) w t a m c (by rw [p]; exact h) kl kh (i:Int) (j:Int) aE aE aE;simp [execOp,f.ev u,f.ev v,f.ev g,C,this,p,sizeOf,typeInfo,k,o,sliced]
def R.lE {c s:Nat} (p:ev fr x=some (.slice a m c)) (g:ev fr z' = some (.int kh (j:Int))) (h:P.underlying t=some (.slice e)) (r:(P.info? e).map (·.size)=some s)
  (u:(if c=0 then a else a.map (·.add (0*s)))=a') (A:j<=c):aF P n fr w (.slice t x none (some z') none) ty (.slice a' (j - 0) (c - 0)) w:=fun _ _ _ _ _ f=>by
 subst u;cases o:P.info? e with
 | none=>simp [o] at r
 | some q=>
  have k:P.elem t=e:=by simp [Program.elem,h]
  have v:=aiG (P:=P) w t (.slice a m c) none (some (.int kh (j:Int))) none (by rw [k]; exact h);have:=run_slice_h (P:=P) w t a m c (by rw [k]; exact h) kh (j:Int) aE aE;simp [execOp,f.ev p,f.ev g,v,this,k,sizeOf,typeInfo,o,sliced]
def R.dk {c s:Nat} (r:ev fr x=some (.slice a m c)) (u:ev fr z=some (.int kl (i:Int))) (g:P.underlying t=some (.slice e)) (p:(P.info? e).map (·.size)=some s)
  (v:(if c=i then a else a.map (·.add (i*s)))=a') (B:i<=m):aF P n fr w (.slice t x (some z) none none) ty (.slice a' (m - i) (c - i)) w:=fun _ _ _ _ _ f=>by
 subst v;cases h:P.info? e with
 | none=>simp [h] at p
 | some q=>
  have k:q.size=s:=by simpa [h] using p
  have o:P.elem t=e:=by simp [Program.elem,g]
  have A:=aiG (P:=P) w t (.slice a m c) (some (.int kl (i:Int))) none none (by rw [o]; exact g);have:=run_slice_l (P:=P) w t a m c (by rw [o]; exact g) kl (i:Int) aE aE;simp [execOp,f.ev r,f.ev u,A,this,o,sizeOf,typeInfo,h,k,sliced]
def Str.cut (s:Str) (i j:Nat):Str:=⟨(s.b.drop i).take (j - i)⟩
theorem Str.xT (s:Str) (i j:Nat):(Value.string ((⟨s.b.toArray⟩:ByteArray).extract i j))=(s.cut i j).val:=by
 simp only [Str.cut];congr 1;apply ByteArray.ext;simp_all
def R.ahU {s:Str} (g:ev fr x=some s.val) (f:ev fr z' = some (.int kh (j:Int))) (h:P.underlying t=some .string) (o:j<=s.b.length) :
  aF P n fr w (.slice t x none (some z') none) ty (s.cut 0 j).val w:=fun _ _ _ _ _ c=>by
 have k:=run_sliceAt_string (P:=P) w t (.string ⟨s.b.toArray⟩) none (some (.int kh (j:Int))) none h;have:=run_slice_string_h (P:=P) w t ⟨s.b.toArray⟩ h kh (j:Int) aE (by show (j:Int)<=((s.b.toArray.size:Nat):Int); simp; omega);rw [<- Str.xT s 0 j];simp only [Str.val] at g;simp [execOp,c.ev g,c.ev f,k,this]
def wrap_u8 (a:Nat):IntKind.u8.wrap (a:Int)=(((UInt8.ofNat a).toNat:Nat):Int):=by
 rw [UInt8.toNat_ofNat'];show (a:Int) % 256=_;omega
variable {a:Nat}
def wrap_u64 (h:a<18446744073709551616):IntKind.u64.wrap (a:Int)=(a:Int):=by
 show (a:Int) % 18446744073709551616=_;omega
variable {t':TypeId} {dd:TypeDesc} {k:IntKind}
def R.YA (c:ev fr x=some (.int k (a:Int))) (f:P.underlying t=some dd) (g:P.underlying t' = some (.int .u8)):aF P n fr w (.convert t t' x) ty (.int .u8 (((UInt8.ofNat a).toNat:Nat):Int)) w:=by
 have:=R.conv (P:=P) (n:=n) (w:=w) (ty:=ty) c f g
 rwa [wrap_u8] at this
def R.Ri (c:ev fr x=some (.int k (a:Int))) (f:P.underlying t=some dd) (g:P.underlying t' = some (.int .u64)) (h:a<18446744073709551616):aF P n fr w (.convert t t' x) ty (.int .u64 (a:Int)) w:=by
 have:=R.conv (P:=P) (n:=n) (w:=w) (ty:=ty) c f g
 rwa [wrap_u64 h] at this
theorem R.aiK {a b:UInt8} (h:ev fr x=some (.int .u8 (a.toNat:Int))) (o:ev fr y=some (.int .u8 (b.toNat:Int))):aF P n fr w (.binOp .or t x y t') ty (.int .u8 ((a ||| b).toNat:Int)) w:=fun _ _ _ _ _ f=>by
 have e:bits .or .u8 (a.toNat:Int) (b.toNat:Int)=((a ||| b).toNat:Int):=by
  have g:∀ c:UInt8,(BitVec.ofInt 8 (c.toNat:Int))=c.toBitVec:=fun c=>by
   simp_all
  show IntKind.u8.wrap ((BitVec.ofInt 8 (a.toNat:Int) ||| BitVec.ofInt 8 (b.toNat:Int)).toNat:Int)=_;rw [g,g,<- UInt8.toBitVec_or];have:=(a ||| b).toNat_lt;exact Ed this
 simp [execOp,f.ev h,f.ev o,eqGuard_or,binOp_or,intBits_or,e]
theorem R.PF {f:IntKind} {b:Nat} (g:ev fr x=some (.int k (a:Int))) (h:ev fr y=some (.int f (b:Int))) (o:b<=k.bits):aF P n fr w (.binOp .shr t x y t') ty (.int k ((a / 2 ^ b:Nat):Int)) w:=fun _ _ _ _ _ c=>by
 have e:(a:Int) / 2 ^ min (b:Int).toNat k.bits=((a / 2 ^ b:Nat):Int):=by
  grind
 simp [execOp,c.ev g,c.ev h,eqGuard_shr,binOp_shr,shift_shr_any _ _ _ _ (Int.natCast_nonneg b)];simpa using e
end
structure Sp where
 deps:List Nat
 S:List Nat
 V:Value->World->Prop
def Sp.ex (deps:List Nat) (c:Value):Sp:=⟨deps,[],fun u _=>u=c⟩
def spAt (c:List Sp) (i:Nat):Sp:=c.getD i ⟨[],[],fun _ _=>True⟩
def DA:List Sp->List Nat
 | []=>[]
 | s :: r=>s.S++DA r
def tW:List Sp->Nat->List Nat
 | [],_=>[]
 | _ :: r,0=>DA r
 | s :: r,i+1=>s.S++tW r i
def dz (l:List Oper) (fr:Fr) (c:Nat->Value):List Nat->Fr
 | []=>fr
 | j :: r=>match idst l j with
  | some d=>(d,c j) :: dz l fr c r
  | none=>dz l fr c r
def gj (c:List Sp) (d:Nat->Value) (w:World):List Nat->Prop
 | []=>True
 | j :: r=>(spAt c j).V (d j) w/\gj c d w r
def qf (N:Nat) (d?:Option Nat) (S:List Nat) (V:Value->World->Prop) (w:World):Exit->Act->World->Prop:=
 fun e c w'=>e = .normal/\c.defers=[]/\∃ v,(∀ d,d? = some d->d<N/\c.tmps.getD d undef=v)/\V v w' /\ Kp S w w'
def WX.aI {N d:Nat} {V:Value->World->Prop} {fr:Fr} {v:Value} (h:look fr d=some v) (e:V v w') (f:Kp S w w'):WX (qf N (some d) S V w) N .normal fr w':=
 fun _ c=>⟨rfl,c.1,v,fun j g=>by cases g; exact c.2.2 _ _ h,e,f⟩
variable {Q:Exit->Act->World->Prop}
def WO.bX {l c:List Oper} {fr:Fr} (d:Has fr fr') (h:WO P Q n l c fr' w):WO P Q n l c fr w:=fun a e=>h a (e.sub d.look)
def fJ (o:Oper):List Nat:=(o.after.toList.filter (Region.binds .any ·)).map (·.on)
def bG (l:List Oper) (i:Nat):List Nat:=match l[i]? with | some o=>fJ o | none=>[]
def mo (l:List Oper) (e:List Sp) (c:List Nat) (n:Nat):Bool:=
  decide (n<=l.length) && decide (e.length=n) &&
  ((List.range n).all fun i=>(bG l i).all (fun j=>decide (j<i)) &&
    (spAt e i).deps.all (fun j=>decide (j<i) && ((bG l i).contains j || (bG l i).any (fun k=>(spAt e k).deps.contains j))) &&
    (match idst l i with
     | some d=>!c.contains d && (List.range n).all (fun j=>j == i || idst l j != some d)
     | none=>true)) &&
  ((decide (n=l.length)) || (Region.sinkB .any l.toArray n && Region.chainB .any l.toArray n)) &&
  Region.seqB .any l.toArray (l.length - n) n ((Array.replicate n true)++(Array.replicate (l.length - n) false))
theorem Nz {x y:Array Bool} (c:x.size=y.size) (h:∀ i,i<x.size->x.getD i false=y.getD i false):x=y:=by
 apply Array.ext c;simp_all
theorem countP_set {p q:Nat->Bool} (e:i<n) (f:p i=true) (g:q i=false) (h:∀ j,j≠i->q j=p j):(List.range n).countP q+1=(List.range n).countP p:=by
 induction n with
 | zero=>omega
 | succ n k=>
  rw [List.range_succ,List.countP_append,List.countP_append];by_cases c:i=n
  ·subst c;have:(List.range i).countP q=(List.range i).countP p:=List.countP_congr fun j d=>by rw [h j (by have:=List.mem_range.1 d; omega)]
   grind
  grind
theorem zJ {F:Fence} {o:Oper} {K p:Act->World->Prop} {q:Exit->Act->World->Prop} {r:Result Next} (h:o.uponIn F m P a K Q r) (hK:∀ v w,K (a.put o.dst v) w->p (a.put o.dst v) w) (A:∀ d w,¬ K ({ a with defers:=d :: a.defers }.put o.dst undef) w)
  (t:∀ e a w,e ≠ .normal->¬ Q e a w):o.uponIn F m P a p q r:=by
 have hE:∀ (e:Ending) (g:World),(match e,g with | .returned v,g=>K (a.put o.dst v) g | .panicked j,g=>Q (.panic j) a g | .outgrown,_=>LetsOut Q) ->
   (match e,g with | .returned v,g=>p (a.put o.dst v) g | .panicked j,g=>q (.panic j) a g | .outgrown,_=>LetsOut q):=fun e g s=>by
  cases e with
  | returned v=>exact hK _ _ s
  | panicked c=>exact absurd s (t _ _ _ aa)
  | outgrown=>obtain ⟨D,w',B⟩:=s; exact absurd B (t _ _ _ aa)
 cases r with
 | ok x w'=>
  cases x <;> simp only [Oper.uponIn] at h ⊢;case value u=>exact hK _ _ h
  case skip=>exact hK _ _ h
  case defer d=>exact absurd h (A _ _)
  case enter f args=>exact ⟨h.1,CallsIn.mono h.2 hE⟩
  case row r args=>exact ⟨h.1,RowsIn.mono h.2 fun v g C=>hK _ _ C⟩
  case round l f y k z=>exact ⟨h.1,RoundIn.mono h.2 hE⟩
 | halt x w'=>
  cases x <;> simp only [Oper.uponIn] at h ⊢;grind
theorem lr {F:Fence} {m:Nat} {P:Program} {ops:Array Oper} {md:Region.Mode} {Q':Exit->Act->World->Prop}:∀ (l:List Oper) (k:Nat) (c:Array Bool) (a:Act) (w:World),(∀ j,l[j]? = ops[k+j]?) ->
  Region.seqB md ops l.length k c=true->wpListIn F m P ops Q' l a w->wpAnyIn F m P md ops Q' l.length c a w
 | [],_,_,_,_,_,d,h=>⟨by simpa [Region.seqB] using d,h⟩
 | o :: l,k,c,a,w,f,d,h=>by
  have q:ops[k]? = some o:=by simpa using (f 0).symm
  simp only [List.length_cons,Region.seqB,Bool.and_eq_true,decide_eq_true_eq] at d;refine ⟨fun g=>(by rw [d.1] at g; cases g),fun i p=>?_⟩;rw [d.1] at p;have e:i=k:=by simpa using p
  subst e;have r:wpOpIn F m P ops Q' i (wpListIn F m P ops Q' l) a w:=by unfold wpOpIn; simp only [q]; exact h
  exact wpOpIn_mono (fun s w' t=>lr l (i+1) _ s w' (fun j=>by have:=f (j+1); simpa [Nat.add_assoc,Nat.add_comm 1 j] using this) d.2 t) r
theorem sd:∀ {sp:List Sp} {i j:Nat},i<sp.length->i≠j->∀ g ∈ (spAt sp i).S,g ∈ tW sp j
 | s :: r,0,j+1,_,_,g,c=>acz _ c
 | s :: r,i+1,0,d,_,g,c=>by
  have:∀ (r:List Sp) (i:Nat),i<r.length->g ∈ (spAt r i).S->g ∈ DA r:=by
   intro r;induction r with
   | nil=>intro i d; simp at d
   | cons s r e=>
    intro i d c;cases i with
    | zero=>exact acz _ c
    | succ i=>exact acB _ (e i (by simpa using d) c)
  exact this r i (by simpa using d) c
 | s :: r,i+1,j+1,d,f,g,c=>acB _ (sd (sp:=r) (by simpa using d) aE g c)
theorem Cf:∀ {r:List Sp} {i:Nat},i<r.length->∀ g ∈ (spAt r i).S,g ∈ DA r
 | s :: r,0,_,g,c=>acz _ c
 | s :: r,i+1,d,g,c=>acB _ (Cf (by simpa using d) g c)
section
variable {P:Program} {Q:Exit->Act->World->Prop} {N n id:Nat} {l:List Oper} {sp:List Sp} {fr:Fr} {w:World}
structure DInv (N n:Nat) (l:List Oper) (sp:List Sp) (fr:Fr) (w0:World) (listed:Array Bool) (a:Act) (w:World):Prop where
 head:HeadInv .any l.toArray n listed
 clo:∀ i,i<n->listed.getD i false=true->∀ j ∈ (spAt sp i).deps,listed.getD j false=true
 fr:M N fr a
 vals:∃ vs:Nat->Value,∀ i,i<n->listed.getD i false=true->(∀ d,idst l i=some d->d<N/\a.tmps.getD d undef=vs i)/\(spAt sp i).V (vs i) w
 kp:∃ S,Kp S w0 w/\∀ g ∈ S,∃ i,i<n/\listed.getD i false=true/\g ∈ (spAt sp i).S
theorem mE {a:Act} (c:M N fr a) {vs:Nat->Value}:∀ (g:List Nat),(∀ j ∈ g,∀ d,idst l j=some d->d<N/\a.tmps.getD d undef=vs j)->M N (dz l fr vs g) a
 | [],_=>c
 | j :: r,h=>by
  have e:=mE c (vs:=vs) r fun j k=>h j (acs _ k);unfold dz;split
  ·rename_i d p;refine ⟨e.1,e.2.1,fun i v f=>?_⟩;rw [aW] at f;by_cases o:d=i
   ·grind
   rw [if_neg o] at f;exact e.2.2 i v f
  exact e
theorem mY {c:Nat->Value} {w:World}:∀ (d:List Nat),(∀ j ∈ d,(spAt sp j).V (c j) w)->gj sp c w d
 | [],_=>trivial
 | j :: r,h=>⟨h j aa,mY r fun j e=>h j (acs _ e)⟩
def WC.draw (hm:P.follows .mixedOrders=true) (sp:List Sp) (n:Nat) (hB:mo l sp (fr.map (·.1)) n=true)
    (stab:∀ i,i<n->∀ v w w',(spAt sp i).V v w->Kp (tW sp i) w w' -> (spAt sp i).V v w')
    (ops:∀ i o,i<n->l[i]? = some o->∀ K C,Kp (tW sp i) w C->gj sp K C (spAt sp i).deps->WO P (qf N (idst l i) (spAt sp i).S (spAt sp i).V C) N l [o] (dz l fr K (spAt sp i).deps) C)
    (tail:∀ K C,Kp (DA sp) w C->gj sp K C (List.range n)->WO P Q N l (l.drop n) (dz l fr K (List.range n)) C):WC P Q N (.region id l.toArray true) fr w:=by
  intro a ha ro L;simp only [mo,Bool.and_eq_true,decide_eq_true_eq,List.all_eq_true,List.mem_range,Bool.or_eq_true] at hB;obtain ⟨⟨⟨⟨hnl,hsp⟩,H⟩,hsc⟩,hseq⟩:=hB;refine wpIn_region_any hm ?_;have main:∀ f c a C,(List.range n).countP (fun i=>!c.getD i false)=f->DInv N n l sp fr w c a C->wpAnyIn (gM ro) 0 P .any l.toArray (qE L Q) (f+(l.length - n)) c (iU a L) C:=by
    intro f;induction f with
    | zero=>
      intro c a C hc inv;have W:∀ i,i<n->c.getD i false=true:=fun i G=>by
        have:=List.countP_eq_zero.1 hc i (List.mem_range.2 G);simpa using this
      have b:c=Array.replicate n true++Array.replicate (l.length - n) false:=by
        have X:=inv.head.size;refine Nz (by rw [X]; simp; omega) fun i G=>?_;rw [X] at G;have hi':i<l.length:=by simpa using G
        by_cases O:i<n
        · rw [W i O,Array.getD_eq_getD_getElem?,Array.getElem?_append_left (by simpa using O)]
          simp [O]
        have h2:=inv.head.tail i aE G;have h3:c.getD i false=false:=getD_both h2;rw [h3,Array.getD_eq_getD_getElem?,Array.getElem?_append_right (by simp; omega)];simp only [Array.size_replicate,Array.getElem?_replicate];split <;> rfl
      rw [<- b] at hseq;obtain ⟨K,hv⟩:=inv.vals;obtain ⟨S,T,hS⟩:=inv.kp;have hM:M N (dz l fr K (List.range n)) a:=mE inv.fr _ fun j s d U=>(hv j (List.mem_range.1 s) (W j (List.mem_range.1 s))).1 d U;have ht:=tail K C (T.sub fun g hg=>by
        obtain ⟨i,G,_,h⟩:=hS g hg;exact Cf aE g h) (mY _ fun j s=>(hv j (List.mem_range.1 s) (W j (List.mem_range.1 s))).2) a hM ro L
      have hdl:(l.drop n).length=l.length - n:=by simp
      have:=lr (F:=gM ro) (m:=0) (P:=P) (md:=.any) (ops:=l.toArray) (Q':=qE L Q) (l.drop n) n c (iU a L) C (fun j=>by simp [aeb]) (by rw [hdl]; exact hseq) ht;rw [hdl] at this;rw [acC];exact this
    | succ f ih=>
      intro c a C hc inv;have hex:∃ i,i<n/\c.getD i false=false/\∀ j,j<i->c.getD j false=true:=by
        have h1:∃ i,i<n/\c.getD i false=false:=by
          have:0<(List.range n).countP (fun i=>!c.getD i false):=by omega
          obtain ⟨i,G,hp⟩:=List.countP_pos_iff.1 this;exact ⟨i,List.mem_range.1 G,by simpa using hp⟩
        obtain ⟨i,G,hp⟩:=h1;have hmin:∀ m,∀ i,i<n->c.getD i false=false->i<=m->∃ i,i<n/\c.getD i false=false/\∀ j,j<i->c.getD j false=true:=by
          intro m;induction m with
          | zero=>intro i G hp him; exact ⟨i,G,hp,fun j s=>by omega⟩
          | succ m ihm=>
            intro i G hp him;by_cases hlt:∃ j,j<i/\c.getD j false=false
            · obtain ⟨j,s,hpj⟩:=hlt
              exact ihm j aE hpj aE
            exact ⟨i,G,hp,fun j s=>by
              cases h:c.getD j false with
              | true=>rfl
              | false=>exact absurd ⟨j,s,h⟩ hlt⟩
        exact hmin i i G hp (Nat.le_refl _)
      obtain ⟨m,hmn,hmu,hmall⟩:=hex;have X:=inv.head.size;have O:∀ i,i<n->c.getD i false=false->c.getD i true=false:=fun i G h=>getD_in (by rw [X]; simp; omega) h;have J:m ∈ Region.ready .any l.toArray c:=by
        have hml:m<l.length:=by omega
        refine mem_ready.2 ⟨O m hmn hmu,l[m],by simp [hml],fun e he hb=>?_⟩;have h1:=(H m hmn).1.1 e.on (by
          simp only [bG,List.getElem?_eq_getElem hml,fJ,ahE,ajt];exact ⟨e,⟨by simpa using he,hb⟩,rfl⟩)
        exact hmall _ h1
      rw [show f+1+(l.length - n)=(f+(l.length - n))+1 by omega];refine ⟨fun h0=>(by rw [h0] at J; cases J),fun i G=>?_⟩;have hil:i<l.length:=by
        obtain ⟨_,o,ho,_⟩:=mem_ready.1 G;simpa using (af1.1 ho).1
      have z:i<n:=by
        rcases Nat.lt_or_ge i n with h | h
        · exact h
        rcases hsc with hsc | hsc
        · omega
        exact absurd G (tail_waits hsc.1 hsc.2 (by simp; omega) inv.head _ m rfl hmn (O m hmn hmu) i h)
      obtain ⟨hun,o,ho,hafter⟩:=mem_ready.1 G;have ho':l[i]? = some o:=by simpa using ho
      have hun':c.getD i false=false:=getD_both hun;obtain ⟨K,hv⟩:=inv.vals;obtain ⟨S,T,hS⟩:=inv.kp
      have hpre:∀ k ∈ bG l i,c.getD k false=true:=fun k T=>by
        simp only [bG,ho',fJ,ahE,ajt] at T;obtain ⟨e,⟨he,hb⟩,rfl⟩:=T;exact hafter e (by simpa using he) hb
      have A:∀ j ∈ (spAt sp i).deps,j<i/\c.getD j false=true:=fun j s=>by
        have h1:=(H i z).1.2 j s;refine ⟨h1.1,?_⟩;rcases h1.2 with h2 | h2
        · exact hpre j (by simpa using h2)
        obtain ⟨k,T,hk2⟩:=List.any_eq_true.1 h2;have hki:k<i:=(H i z).1.1 k T;exact inv.clo k aE (hpre k T) j (by simpa using hk2)
      have hko:Kp (tW sp i) w C:=T.sub fun g hg=>by
        obtain ⟨j,s,D,hgj⟩:=hS g hg;exact sd aE (fun e=>by subst e; rw [hun'] at D; cases D) g hgj
      have hM:M N (dz l fr K (spAt sp i).deps) a:=mE inv.fr _ fun j s d U=>(hv j (by have:=A j s; omega) (A j s).2).1 d U;have hf:gj sp K C (spAt sp i).deps:=mY _ fun j s=>(hv j (by have:=A j s; omega) (A j s).2).2;have hw:=ops i o z ho' K C hko hf a hM ro L;have step:∀ v w2,qf N (idst l i) (spAt sp i).S (spAt sp i).V C .normal (a.put o.dst v) w2->wpAnyIn (gM ro) 0 P .any l.toArray (qE L Q) (f+(l.length - n)) (c.setIfInBounds i true) (iU (a.put o.dst v) L) w2:=by
        intro v w2 ⟨_,_,u,hu,hV,hk2⟩;have hdst:idst l i=o.dst:=by rw [kj,ho']; rfl
        have B:∀ j,(c.setIfInBounds i true).getD j false=if j=i then true else c.getD j false:=fun j=>by
          by_cases s:j=i
          · subst s; simp [Array.getD,X,hil]
          rw [getD_set_ne false (Ne.symm s),if_neg s]
        refine ih _ _ _ ?_ ⟨inv.head.set G z,?_,?_,?_,?_⟩
        · have:=countP_set (n:=n) (i:=i) (p:=fun j=>!c.getD j false) (q:=fun j=>!(c.setIfInBounds i true).getD j false) z (by simp [hun']) (by simp [B]) (fun j s=>by simp [B,s])
          omega
        · intro j s D d U
          rw [B];by_cases hdi:d=i
          · simp [hdi]
          rw [if_neg hdi];by_cases I:j=i
          · subst I; exact (A d U).2
          rw [B,if_neg I] at D;exact inv.clo j s D d U
        ·
          obtain ⟨f1,f2,f3⟩:=inv.fr;cases U:o.dst with
          | none=>exact ⟨f1,f2,f3⟩
          | some d=>
            have y:=(H i z).2;rw [hdst,U] at y;simp only [Bool.and_eq_true,Bool.not_eq_true',List.all_eq_true,List.mem_range,Bool.or_eq_true,beq_iff_eq,bne_iff_ne] at y;refine ⟨f1,by simp [Act.put,f2],fun k u' hk'=>?_⟩;obtain ⟨hkn,hkv⟩:=f3 k u' hk';refine ⟨hkn,?_⟩;have hne:d≠k:=by
              rintro rfl;have:∀ (fr:Fr) (d:Nat) (v:Value),look fr d=some v->d ∈ fr.map (·.1):=by
                intro fr;induction fr with
                | nil=>intro d v h; cases h
                | cons x r ihr=>
                  intro d v h;obtain ⟨x1,x2⟩:=x;rw [aW] at h;by_cases hx:x1=d
                  · simp [hx]
                  rw [if_neg hx] at h;exact acs _ (ihr d v h)
              have h3:=this fr d u' hk';have h4:=y.1;simp only [List.contains_eq_mem,decide_eq_false_iff_not] at h4;exact h4 h3
            rw [<- hkv];simp [Act.put,Array.getD,f2,hkn,hne]
        · refine ⟨fun j=>if j=i then u else K j,fun j s D=>?_⟩
          by_cases I:j=i
          · subst I
            simp only;exact ⟨hu,hV⟩
          simp only [if_neg I];rw [B,if_neg I] at D;obtain ⟨h1,h2⟩:=hv j s D;refine ⟨fun d U=>?_,stab j s _ _ _ h2 (hk2.sub (sd aE (Ne.symm I)))⟩;obtain ⟨hdN,hdv⟩:=h1 d U;refine ⟨hdN,?_⟩;cases hdo:o.dst with
          | none=>exact hdv
          | some d'=>
            have y:=(H i z).2;rw [hdst,hdo] at y;simp only [Bool.and_eq_true,Bool.not_eq_true',List.all_eq_true,List.mem_range,Bool.or_eq_true,beq_iff_eq,bne_iff_ne] at y;have h5:=(y.2 j s).resolve_left I;rw [U] at h5;have hne:d' ≠ d:=fun e=>h5 (by rw [e]);rw [<- hdv];by_cases hds:d<a.tmps.size <;> simp [Act.put,Array.getD,hds,hne]
        refine ⟨S++(spAt sp i).S,T.trans hk2,fun g hg=>?_⟩;rcases acq.1 hg with hg | hg
        · obtain ⟨j,s,D,hgj⟩:=hS g hg
          refine ⟨j,s,?_,hgj⟩;rw [B]; split
          · rfl
          exact D
        exact ⟨i,z,by rw [B,if_pos rfl],hg⟩
      have Y:∀ v w2,qE L (qf N (idst l i) (spAt sp i).S (spAt sp i).V C) .normal ((iU a L).put o.dst v) w2->wpAnyIn (gM ro) 0 P .any l.toArray (qE L Q) (f+(l.length - n)) (c.setIfInBounds i true) ((iU a L).put o.dst v) w2:=fun v w2 ⟨a0,h0,e,h⟩=>by
        rw [sM] at e ⊢;rw [<- Nw e (E_ inv.fr.1 _ _) h0] at h;exact step v w2 h
      unfold wpOpIn;simp only [ho];simp only [wpListIn] at hw;try simp only [eq_self_iff_true] at hw
      by_cases Z:Region.wanted o (yielded l.toArray (iU a L).tmps)=true
      · rw [if_pos Z] at hw ⊢
        unfold Oper.wpIn at hw ⊢;refine ⟨fun _ _=>trivial,zJ hw.2 Y (fun d w2 ⟨a0,h0,e,h⟩=>?_) (fun e a w he ⟨_,_,_,h⟩=>he h.1)⟩;have:=congrArg Act.defers e;cases U:o.dst <;> rw [U] at this <;> simp [Act.put,iU] at this
      rw [if_neg Z] at hw ⊢;exact ⟨fun _ _=>trivial,Y undef C hw.2⟩
  have hcount:(List.range n).countP (fun i=>!(Array.replicate l.toArray.size false).getD i false)=n:=by
    rw [List.countP_eq_length.2 (fun i _=>by rw [af2]; rfl),ajw]
  have:=main n (Array.replicate l.toArray.size false) a { w with drawn:=w.drawn+1 } hcount
    ⟨⟨aa,fun j oj _ b=>(by rw [af2] at b; cases b),fun t _ ht=>getD_in (by simpa using ht) (af2 _ _)⟩,
     fun i _ b=>(by rw [af2] at b; cases b),ha,⟨fun _=>undef,fun i _ b=>(by rw [af2] at b; cases b)⟩,
     ⟨[],(Kp.refl w).drew,fun g hg=>by cases hg⟩⟩
  rw [show n+(l.length - n)=l.toArray.size by simp; omega] at this;exact this
def th (P:Program) (N:Nat) (l:List Oper) (sp:List Sp) (fr:Fr) (w:World):Nat->List Oper->Prop
 | _,[]=>True
 | i,o :: r=>(∀ d c,Kp (tW sp i) w c->gj sp d c (spAt sp i).deps->WO P (qf N (idst l i) (spAt sp i).S (spAt sp i).V c) N l [o] (dz l fr d (spAt sp i).deps) c)/\th P N l sp fr w (i+1) r
def nk (sp:List Sp):Nat->List Sp->Prop
 | _,[]=>True
 | i,s :: r=>(∀ v w w',s.V v w->Kp (tW sp i) w w' -> s.V v w')/\nk sp (i+1) r
theorem th.at_:∀ {r:List Oper} {k:Nat},th P N l sp fr w k r->∀ j o,r[j]? = some o->∀ e d,Kp (tW sp (k+j)) w d->gj sp e d (spAt sp (k+j)).deps ->
  WO P (qf N (idst l (k+j)) (spAt sp (k+j)).S (spAt sp (k+j)).V d) N l [o] (dz l fr e (spAt sp (k+j)).deps) d
 | [],_,_,j,o,c=>by simp at c
 | x :: r,k,h,0,o,c=>by
  simp at c; subst c;exact h.1
 | x :: r,k,h,j+1,o,c=>by
  have:=h.2.at_ j o (by simpa using c);grind
theorem nk.at_:∀ {r:List Sp} {k:Nat},nk sp k r->∀ j,j<r.length->∀ v w w',(spAt r j).V v w->Kp (tW sp (k+j)) w w' -> (spAt r j).V v w'
 | s :: r,k,h,0,_=>h.1
 | s :: r,k,h,j+1,c=>by
  have:=h.2.at_ j (by simpa using c);rwa [show k+1+j=k+(j+1) by omega] at this
theorem WC.wU (p:P.follows .mixedOrders=true) (sp:List Sp) (n:Nat) (h:mo l sp (fr.map (·.1)) n=true) (c:nk sp 0 sp) (e:th P N l sp fr w 0 (l.take n))
  (d:∀ j f,Kp (DA sp) w f->gj sp j f (List.range n)->WO P Q N l (l.drop n) (dz l fr j (List.range n)) f):WC P Q N (.region id l.toArray true) fr w:=by
 have g:=h;simp only [mo,Bool.and_eq_true,decide_eq_true_eq] at g;refine WC.draw p sp n h (fun i k=>?_) (fun i o k q=>?_) d
 ·have:=c.at_ i aE;grind
 have:=e.at_ i o (by rw [afF,if_pos k]; exact q);grind
end
structure Reply where
 code:Int
 n:Int
deriving DecidableEq
structure Sess where
 client:Int
 seq:Int
 last:Reply
deriving DecidableEq
structure Opn where
 set:Int
 client:Int
deriving DecidableEq
structure Snap where
 id:Int
 set:Int
 chunks:List Int
 held:Bool
 tag:Str
deriving DecidableEq
structure State where
 version:Int
 next:Int
 keep:Int
 quota:Int
 sess:List Sess
 opens:List Opn
 snaps:List Snap
deriving DecidableEq
structure Command where
 kind:Int
 client:Int
 seq:Int
 set:Int
 id:Int
 n:Int
 chunks:List Int
 text:Str
deriving DecidableEq
structure SnapE where
 id:Int
 set:Int
 chunks:Bool × List Int
 held:Bool
 tag:Str
deriving DecidableEq
structure Field where
 num:Int
 wire:Int
 n:U64
 b:List UInt8
deriving DecidableEq
structure Spec where
 num:Int
 wire:Int
 since:Int
 need:Bool
 many:Bool
deriving DecidableEq
structure Entry where
 term:Int
 b:List UInt8
deriving DecidableEq
structure Record where
 kind:Int
 a:Int
 b:Int
 x:List UInt8
deriving DecidableEq
structure Letter where
 kind:Int
 frm:Int
 to:Int
 term:Int
 a:Int
 b:Int
 c:Int
 bin:Int
 ok:Bool
 l:List Entry
deriving DecidableEq
structure Event where
 kind:Int
 a:Int
 b:Int
 c:Command
deriving DecidableEq
structure CallR where
 node:Int
 number:Int
 term:Int
 at_:Int
 until_:Int
 c:Command
 done:Bool
 reply:Reply
deriving DecidableEq
structure Stable where
 floor:Int
 term:Int
 vote:Int
 log:List Entry
deriving DecidableEq
structure Route where
 frm:Int
 to:Int
 next:Int
 commit:Int
 bin:Int
deriving DecidableEq
structure Site where
 up:Bool
 role:Int
 binary:Int
 floor:Int
 term:Int
 vote:Int
 commit:Int
 applied:Int
 log:List Entry
 state:State
deriving DecidableEq
structure NOp where
 kind:UInt8
 n:Int
 x:Letter
 c:Command
deriving DecidableEq
structure Rest where
 fields:List Field
 at_:UInt8
deriving DecidableEq
structure Span where
 lo:Int
 hi:Int
deriving DecidableEq
inductive NT
 | reply | sess | opn | snap | state | command | snapE | field | spec | entry | record | letter | event | call | stable | route | site | nop | rest | span
deriving DecidableEq
abbrev NT.den:NT->Type
 | .reply=>Reply
 | .sess=>Sess
 | .opn=>Opn
 | .snap=>Snap
 | .state=>State
 | .command=>Command
 | .snapE=>SnapE
 | .field=>Field
 | .spec=>Spec
 | .entry=>Entry
 | .record=>Record
 | .letter=>Letter
 | .event=>Event
 | .call=>CallR
 | .stable=>Stable
 | .route=>Route
 | .site=>Site
 | .nop=>NOp
 | .rest=>Rest
 | .span=>Span
inductive Sh
 | int | u8 | u64 | bool | str
 | lx
 | lst (s:Sh)
 | nm (t:NT)
deriving DecidableEq
abbrev den:Sh->Type
 | .int=>Int
 | .u8=>UInt8
 | .u64=>U64
 | .bool=>Bool
 | .str=>Str
 | .lx=>Bool × List Int
 | .lst s=>List (den s)
 | .nm t=>t.den
inductive BE
 | lit (b:Bool) | atom (b:Bool)
 | lt (a b:Int) | le (a b:Int) | eq (a b:Int)
 | seq (a b:Str)
 | beq (x y:BE) | not (x:BE) | and (x y:BE) | or (x y:BE)
def BE.val:BE->Bool
 | .lit b=>b
 | .atom b=>b
 | .lt a b=>decide (a<b)
 | .le a b=>decide (a<=b)
 | .eq a b=>decide (a=b)
 | .seq a b=>decide (a=b)
 | .beq x y=>x.val == y.val
 | .not x=>!x.val
 | .and x y=>x.val && y.val
 | .or x y=>x.val || y.val
def BE.p:BE->Bool->Prop
 | .lit b,v=>b=v
 | .atom b,v=>b=v
 | .lt a b,true=>a<b
 | .lt a b,false=>b<=a
 | .le a b,true=>a<=b
 | .le a b,false=>b<a
 | .eq a b,true=>a=b
 | .eq a b,false=>¬ a=b
 | .seq a b,true=>a=b
 | .seq a b,false=>¬ a=b
 | .beq x y,v=>(x.val == y.val)=v
 | .not x,true=>x.p false
 | .not x,false=>x.p true
 | .and x y,true=>x.p true/\y.p true
 | .and x y,false=>x.p false\/y.p false
 | .or x y,true=>x.p true\/y.p true
 | .or x y,false=>x.p false/\y.p false
theorem BE.fB:∀ (e:BE) (v:Bool),e.p v↔e.val=v
 | .lit b,v=>.rfl
 | .atom b,v=>.rfl
 | .lt a b,true=>by simp [BE.p,BE.val]
 | .lt a b,false=>by simp [BE.p,BE.val]
 | .le a b,true=>by simp [BE.p,BE.val]
 | .le a b,false=>by simp [BE.p,BE.val]
 | .eq a b,true=>by simp [BE.p,BE.val]
 | .eq a b,false=>by simp [BE.p,BE.val]
 | .seq a b,true=>by simp [BE.p,BE.val]
 | .seq a b,false=>by simp [BE.p,BE.val]
 | .beq x y,v=>.rfl
 | .not x,true=>by simp [BE.p,BE.val,fB x]
 | .not x,false=>by simp [BE.p,BE.val,fB x]
 | .and x y,true=>by simp [BE.p,BE.val,fB x,fB y]
 | .and x y,false=>by cases c:x.val <;> simp [BE.p,BE.val,fB x,fB y,c]
 | .or x y,true=>by simp [BE.p,BE.val,fB x,fB y]
 | .or x y,false=>by simp [BE.p,BE.val,fB x,fB y]
structure TabE where
 g:Nat
 s:Sh
 xs:List (den s)
def SJ:List TabE:=[]
def ac0:List (Nat × Bool):=[]
inductive KC
 | i (n:Int) | b (v:Bool) | f (g:Nat) | nf
inductive XK
 | er (b:Bool) | pl | pa | fm (f:Str->Option Int) | bp
 | ff (s:Sh) (xs:List (den s))
 | mx (nw:Bool) (xs:List Int)
 | w (n:Nat)
 | km (l:List (Int × List KC))
 | kf (x:KC)
inductive AV
 | int (n:Int) | u8 (b:UInt8) | u64 (n:Nat) | bool (e:BE) | str (s:Str)
 | em (nil:Bool)
 | fz (s:Sh) (xs:List (den s))
 | li (nw:Bool) (xs:List Int)
 | own (id:Nat)
 | sub (id off len:Nat)
 | ptr (id off:Nat) | np
 | elp (id i off:Nat)
 | fe (s:Sh) (x:den s) (off:Nat)
 | fn (f:Nat) (b c:List (Nat × Nat)) | nf
 | yl (l:Nat)
 | mq (id:Nat)
 | xx (k:XK) (cs:List (Nat × Nat))
 | dead
inductive TV1
 | c (a:AV)
 | agg (l:List AV)
inductive TV
 | one (t:TV1)
 | tup (l:List TV1)
 | un
abbrev AFr:=List (Nat × TV)
inductive AO
 | gone
 | box (t:TypeId) (cs:List AV)
 | row (t:TypeId) (s:Sh) (xs:List (den s))
 | mapo (s:Sh) (f:Int->Option (den s))
 | arr (t:TypeId) (s:Sh) (n:Nat) (xs:List (den s))
 | mapf (l:List (Int × AV))
 | loc
abbrev AH:=List AO
def lookA:AFr->Nat->Option TV
 | [],_=>none
 | (j,v) :: r,i=>bif Nat.beq j i then some v else lookA r i
def AV.bd:AV->Option Int
 | .int n=>some n
 | _=>none
def AV.Xq:AV->Option UInt8
 | .u8 n=>some n
 | _=>none
def AV.WG:AV->Option U64
 | .u64 n=>some ⟨n⟩
 | _=>none
def AV.uw:AV->Option Bool
 | .bool e=>some e.val
 | _=>none
def AV.CN:AV->Option Str
 | .str s=>some s
 | _=>none
def AV.toX:AV->Option (Bool × List Int)
 | .li b c=>some (b,c)
 | .em _=>some (true,[])
 | _=>none
def AV.fS (s:Sh):AV->Option (List (den s))
 | .fz c d=>if h:c = s then some (h ▸ d) else none
 | .em _=>some []
 | _=>none
def NT.cells:(t:NT)->t.den->List AV
 | .reply,x=>[.int x.code,.int x.n]
 | .sess,x=>[.int x.client,.int x.seq,.int x.last.code,.int x.last.n]
 | .opn,x=>[.int x.set,.int x.client]
 | .snap,x=>[.int x.id,.int x.set,.fz .int x.chunks,.bool (.atom x.held),.str x.tag]
 | .state,x=>[.int x.version,.int x.next,.int x.keep,.int x.quota,.fz (.nm .sess) x.sess,.fz (.nm .opn) x.opens,.fz (.nm .snap) x.snaps]
 | .command,x=>[.int x.kind,.int x.client,.int x.seq,.int x.set,.int x.id,.int x.n,.fz .int x.chunks,.str x.text]
 | .snapE,x=>[.int x.id,.int x.set,.li x.chunks.1 x.chunks.2,.bool (.atom x.held),.str x.tag]
 | .field,x=>[.int x.num,.int x.wire,.u64 x.n.n,.fz .u8 x.b]
 | .spec,x=>[.int x.num,.int x.wire,.int x.since,.bool (.atom x.need),.bool (.atom x.many)]
 | .entry,x=>[.int x.term,.fz .u8 x.b]
 | .record,x=>[.int x.kind,.int x.a,.int x.b,.fz .u8 x.x]
 | .letter,x=>[.int x.kind,.int x.frm,.int x.to,.int x.term,.int x.a,.int x.b,.int x.c,.int x.bin,.bool (.atom x.ok),.fz (.nm .entry) x.l]
 | .event,x=>[.int x.kind,.int x.a,.int x.b,.int x.c.kind,.int x.c.client,.int x.c.seq,.int x.c.set,.int x.c.id,.int x.c.n,.fz .int x.c.chunks,.str x.c.text]
 | .call,x=>[.int x.node,.int x.number,.int x.term,.int x.at_,.int x.until_,.int x.c.kind,.int x.c.client,.int x.c.seq,.int x.c.set,.int x.c.id,.int x.c.n,.fz .int x.c.chunks,.str x.c.text,.bool (.atom x.done),.int x.reply.code,.int x.reply.n]
 | .stable,x=>[.int x.floor,.int x.term,.int x.vote,.fz (.nm .entry) x.log]
 | .route,x=>[.int x.frm,.int x.to,.int x.next,.int x.commit,.int x.bin]
 | .site,x=>[.bool (.atom x.up),.int x.role,.int x.binary,.int x.floor,.int x.term,.int x.vote,.int x.commit,.int x.applied,.fz (.nm .entry) x.log,.int x.state.version,.int x.state.next,.int x.state.keep,.int x.state.quota,.fz (.nm .sess) x.state.sess,.fz (.nm .opn) x.state.opens,.fz (.nm .snap) x.state.snaps]
 | .nop,x=>[.u8 x.kind,.int x.n,.int x.x.kind,.int x.x.frm,.int x.x.to,.int x.x.term,.int x.x.a,.int x.x.b,.int x.x.c,.int x.x.bin,.bool (.atom x.x.ok),.fz (.nm .entry) x.x.l,.int x.c.kind,.int x.c.client,.int x.c.seq,.int x.c.set,.int x.c.id,.int x.c.n,.fz .int x.c.chunks,.str x.c.text]
 | .rest,x=>[.fz (.nm .field) x.fields,.u8 x.at_]
 | .span,x=>[.int x.lo,.int x.hi]
def NT.size:NT->Nat
 | .reply=>2
 | .sess=>4
 | .opn=>2
 | .snap=>5
 | .state=>7
 | .command=>8
 | .snapE=>5
 | .field=>4
 | .spec=>5
 | .entry=>2
 | .record=>4
 | .letter=>10
 | .event=>11
 | .call=>16
 | .stable=>4
 | .route=>5
 | .site=>16
 | .nop=>20
 | .rest=>2
 | .span=>2
def NT.bytes:NT->Nat
 | .reply=>16
 | .sess=>32
 | .opn=>16
 | .snap=>64
 | .state=>104
 | .command=>88
 | .snapE=>64
 | .field=>48
 | .spec=>32
 | .entry=>32
 | .record=>48
 | .letter=>96
 | .event=>112
 | .call=>152
 | .stable=>48
 | .route=>40
 | .site=>192
 | .nop=>200
 | .rest=>32
 | .span=>16
def NT.gG:NT->List Sh
 | .reply=>[]
 | .sess=>[]
 | .opn=>[]
 | .snap=>[.int]
 | .state=>[(.nm .sess),(.nm .opn),(.nm .snap)]
 | .command=>[.int]
 | .snapE=>[.int]
 | .field=>[.u8]
 | .spec=>[]
 | .entry=>[.u8]
 | .record=>[.u8]
 | .letter=>[(.nm .entry)]
 | .event=>[.int]
 | .call=>[.int]
 | .stable=>[(.nm .entry)]
 | .route=>[]
 | .site=>[(.nm .entry),(.nm .sess),(.nm .opn),(.nm .snap)]
 | .nop=>[(.nm .entry),.int]
 | .rest=>[(.nm .field)]
 | .span=>[]
def NT.au:(t:NT)->t.den
 | .reply=>⟨0,0⟩
 | .sess=>⟨0,0,⟨0,0⟩⟩
 | .opn=>⟨0,0⟩
 | .snap=>⟨0,0,[],false,⟨[]⟩⟩
 | .state=>⟨0,0,0,0,[],[],[]⟩
 | .command=>⟨0,0,0,0,0,0,[],⟨[]⟩⟩
 | .snapE=>⟨0,0,(true,[]),false,⟨[]⟩⟩
 | .field=>⟨0,0,⟨0⟩,[]⟩
 | .spec=>⟨0,0,0,false,false⟩
 | .entry=>⟨0,[]⟩
 | .record=>⟨0,0,0,[]⟩
 | .letter=>⟨0,0,0,0,0,0,0,0,false,[]⟩
 | .event=>⟨0,0,0,⟨0,0,0,0,0,0,[],⟨[]⟩⟩⟩
 | .call=>⟨0,0,0,0,0,⟨0,0,0,0,0,0,[],⟨[]⟩⟩,false,⟨0,0⟩⟩
 | .stable=>⟨0,0,0,[]⟩
 | .route=>⟨0,0,0,0,0⟩
 | .site=>⟨false,0,0,0,0,0,0,0,[],⟨0,0,0,0,[],[],[]⟩⟩
 | .nop=>⟨0,0,⟨0,0,0,0,0,0,0,0,false,[]⟩,⟨0,0,0,0,0,0,[],⟨[]⟩⟩⟩
 | .rest=>⟨[],0⟩
 | .span=>⟨0,0⟩
def Reply.of:List AV->Option Reply
 | [c,d]=>match c.bd,d.bd with
  | some e,some f=>some ⟨e,f⟩
  | _,_=>none
 | _=>none
def Sess.of:List AV->Option Sess
 | [c,d,e,f]=>match c.bd,d.bd,e.bd,f.bd with
  | some g,some h,some j,some k=>some ⟨g,h,⟨j,k⟩⟩
  | _,_,_,_=>none
 | _=>none
def Opn.of:List AV->Option Opn
 | [c,d]=>match c.bd,d.bd with
  | some e,some f=>some ⟨e,f⟩
  | _,_=>none
 | _=>none
def Snap.of:List AV->Option Snap
 | [c,d,e,f,g]=>match c.bd,d.bd,e.fS .int,f.uw,g.CN with
  | some h,some j,some k,some l,some o=>some ⟨h,j,k,l,o⟩
  | _,_,_,_,_=>none
 | _=>none
def State.of:List AV->Option State
 | [c,d,e,f,g,h,j]=>match c.bd,d.bd,e.bd,f.bd,g.fS (.nm .sess),h.fS (.nm .opn),j.fS (.nm .snap) with
  | some k,some l,some o,some p,some q,some r,some s=>some ⟨k,l,o,p,q,r,s⟩
  | _,_,_,_,_,_,_=>none
 | _=>none
def Command.of:List AV->Option Command
 | [c,d,e,f,g,h,j,k]=>match c.bd,d.bd,e.bd,f.bd,g.bd,h.bd,j.fS .int,k.CN with
  | some l,some o,some p,some q,some r,some s,some t,some u=>some ⟨l,o,p,q,r,s,t,u⟩
  | _,_,_,_,_,_,_,_=>none
 | _=>none
def SnapE.of:List AV->Option SnapE
 | [c,d,e,f,g]=>match c.bd,d.bd,e.toX,f.uw,g.CN with
  | some h,some j,some k,some l,some o=>some ⟨h,j,k,l,o⟩
  | _,_,_,_,_=>none
 | _=>none
def Field.of:List AV->Option Field
 | [c,d,e,f]=>match c.bd,d.bd,e.WG,f.fS .u8 with
  | some g,some h,some j,some k=>some ⟨g,h,j,k⟩
  | _,_,_,_=>none
 | _=>none
def Spec.of:List AV->Option Spec
 | [c,d,e,f,g]=>match c.bd,d.bd,e.bd,f.uw,g.uw with
  | some h,some j,some k,some l,some o=>some ⟨h,j,k,l,o⟩
  | _,_,_,_,_=>none
 | _=>none
def Entry.of:List AV->Option Entry
 | [c,d]=>match c.bd,d.fS .u8 with
  | some e,some f=>some ⟨e,f⟩
  | _,_=>none
 | _=>none
def Record.of:List AV->Option Record
 | [c,d,e,f]=>match c.bd,d.bd,e.bd,f.fS .u8 with
  | some g,some h,some j,some k=>some ⟨g,h,j,k⟩
  | _,_,_,_=>none
 | _=>none
def Letter.of:List AV->Option Letter
 | [c,d,e,f,g,h,j,k,l,o]=>match c.bd,d.bd,e.bd,f.bd,g.bd,h.bd,j.bd,k.bd,l.uw,o.fS (.nm .entry) with
  | some p,some q,some r,some s,some t,some u,some v,some x,some y,some z=>some ⟨p,q,r,s,t,u,v,x,y,z⟩
  | _,_,_,_,_,_,_,_,_,_=>none
 | _=>none
def Event.of:List AV->Option Event
 | [e,f,g,h,j,k,l,o,p,q,c]=>match e.bd,f.bd,g.bd,h.bd,j.bd,k.bd,l.bd,o.bd,p.bd,q.fS .int,c.CN with
  | some r,some s,some t,some u,some v,some x,some y,some z,some A,some B,some d=>some ⟨r,s,t,⟨u,v,x,y,z,A,B,d⟩⟩
  | _,_,_,_,_,_,_,_,_,_,_=>none
 | _=>none
def CallR.of:List AV->Option CallR
 | [q,r,s,t,u,v,x,y,z,A,c,d,e,f,g,h]=>match q.bd,r.bd,s.bd,t.bd,u.bd,v.bd,x.bd,y.bd,z.bd,A.bd,c.bd,d.fS .int,e.CN,f.uw,g.bd,h.bd with
  | some B,some C,some D,some F,some G,some H,some I,some J,some K,some L,some j,some k,some l,some x13,some o,some p=>some ⟨B,C,D,F,G,⟨H,I,J,K,L,j,k,l⟩,x13,⟨o,p⟩⟩
  | _,_,_,_,_,_,_,_,_,_,_,_,_,_,_,_=>none
 | _=>none
def Stable.of:List AV->Option Stable
 | [c,d,e,f]=>match c.bd,d.bd,e.bd,f.fS (.nm .entry) with
  | some g,some h,some j,some k=>some ⟨g,h,j,k⟩
  | _,_,_,_=>none
 | _=>none
def Route.of:List AV->Option Route
 | [c,d,e,f,g]=>match c.bd,d.bd,e.bd,f.bd,g.bd with
  | some h,some j,some k,some l,some o=>some ⟨h,j,k,l,o⟩
  | _,_,_,_,_=>none
 | _=>none
def Site.of:List AV->Option Site
 | [q,r,s,t,u,v,x,y,z,A,c,d,e,f,g,h]=>match q.uw,r.bd,s.bd,t.bd,u.bd,v.bd,x.bd,y.bd,z.fS (.nm .entry),A.bd,c.bd,d.bd,e.bd,f.fS (.nm .sess),g.fS (.nm .opn),h.fS (.nm .snap) with
  | some B,some C,some D,some F,some G,some H,some I,some J,some K,some L,some j,some k,some l,some x13,some o,some p=>some ⟨B,C,D,F,G,H,I,J,K,⟨L,j,k,l,x13,o,p⟩⟩
  | _,_,_,_,_,_,_,_,_,_,_,_,_,_,_,_=>none
 | _=>none
def NOp.of:List AV->Option NOp
 | [z,A,B,C,D,F,G,H,I,J,c,d,e,f,g,h,j,k,l,o]=>match z.Xq,A.bd,B.bd,C.bd,D.bd,F.bd,G.bd,H.bd,I.bd,J.bd,c.uw,d.fS (.nm .entry),e.bd,f.bd,g.bd,h.bd,j.bd,k.bd,l.fS .int,o.CN with
  | some K,some L,some N,some O,some U,some V,some W,some X,some Y,some Z,some p,some q,some r,some x13,some s,some t,some u,some v,some x,some y=>some ⟨K,L,⟨N,O,U,V,W,X,Y,Z,p,q⟩,⟨r,x13,s,t,u,v,x,y⟩⟩
  | _,_,_,_,_,_,_,_,_,_,_,_,_,_,_,_,_,_,_,_=>none
 | _=>none
def Rest.of:List AV->Option Rest
 | [c,d]=>match c.fS (.nm .field),d.Xq with
  | some e,some f=>some ⟨e,f⟩
  | _,_=>none
 | _=>none
def Span.of:List AV->Option Span
 | [c,d]=>match c.bd,d.bd with
  | some e,some f=>some ⟨e,f⟩
  | _,_=>none
 | _=>none
def NT.of:(t:NT)->List AV->Option t.den
 | .reply,l=>Reply.of l
 | .sess,l=>Sess.of l
 | .opn,l=>Opn.of l
 | .snap,l=>Snap.of l
 | .state,l=>State.of l
 | .command,l=>Command.of l
 | .snapE,l=>SnapE.of l
 | .field,l=>Field.of l
 | .spec,l=>Spec.of l
 | .entry,l=>Entry.of l
 | .record,l=>Record.of l
 | .letter,l=>Letter.of l
 | .event,l=>Event.of l
 | .call,l=>CallR.of l
 | .stable,l=>Stable.of l
 | .route,l=>Route.of l
 | .site,l=>Site.of l
 | .nop,l=>NOp.of l
 | .rest,l=>Rest.of l
 | .span,l=>Span.of l
def cellsOf:(s:Sh)->den s->List AV
 | .int,x=>[.int x]
 | .u8,x=>[.u8 x]
 | .u64,x=>[.u64 x.n]
 | .bool,x=>[.bool (.atom x)]
 | .str,x=>[.str x]
 | .lx,x=>[.li x.1 x.2]
 | .lst s,x=>[.fz s x]
 | .nm t,x=>t.cells x
def Sh.size:Sh->Nat
 | .nm t=>t.size
 | _=>1
def Sh.bytes:Sh->Nat
 | .int=>8
 | .u8=>1
 | .u64=>8
 | .bool=>1
 | .str=>16
 | .lx=>24
 | .lst _=>24
 | .nm t=>t.bytes
def au:(s:Sh)->den s
 | .int=>0
 | .u8=>0
 | .u64=>⟨0⟩
 | .bool=>false
 | .str=>⟨[]⟩
 | .lx=>(true,[])
 | .lst _=>[]
 | .nm t=>t.au
def gi:(s:Sh)->List AV->Option (den s)
 | .int,[.int n]=>some n
 | .u8,[.u8 b]=>some b
 | .u64,[.u64 n]=>some ⟨n⟩
 | .bool,[.bool e]=>some e.val
 | .str,[.str s]=>some s
 | .lx,[a]=>a.toX
 | .lst s,[a]=>a.fS s
 | .nm t,l=>t.of l
 | _,_=>none
end Go.Proofs.YticbaadnibdbkaaGreat
namespace Go.Proofs.YticbaadnibdbkaaGreat
open Go.RowKit
inductive TK
 | i (k:IntKind) | bool | str
 | sl (e:TypeId) (s:Option Sh)
 | st (fs:List (Nat × Nat))
 | ar (n:Nat) (e:TypeId)
 | mp (k e:TypeId) (s:Option Sh)
 | ptr | fn | oth
 | ifc
 | ms (k e:TypeId)
 | mg (k e:TypeId) (z:List KC)
structure TI where
 k:TK
 size:Nat
 zero:List AV
def a_:List (Nat × TI)->Nat->Option TI
 | [],_=>none
 | (j,v) :: r,i=>bif Nat.beq j i then some v else a_ r i
structure PR where
 v:TV
 ob:List Prop:=[]
 fc:List Prop:=[]
def one (a:AV):TV:=.one (.c a)
def pr (a:AV) (ob:List Prop:=[]) (b:List Prop:=[]):Option PR:=some ⟨.one (.c a),ob,b⟩
def AV.ok:AV->List Prop
 | .int n=>[I64 n]
 | .u64 n=>[n<18446744073709551616]
 | .str s=>[s.b.length<=140737488355328]
 | .fz s a=>[a.length*s.bytes<=140737488355328]
 | _=>[]
def Kl:List AV->List Prop
 | []=>[]
 | a :: r=>a.ok++Kl r
def TV1.ok:TV1->List Prop
 | .c a=>a.ok
 | .agg l=>Kl l
def JV:List TV1->List Prop
 | []=>[]
 | a :: r=>a.ok++JV r
def getO (H:AH) (id:Nat):AO:=H.getD id .gone
def AV.vw (H:AH):AV->AV
 | .own id=>match getO H id with
  | .row _ s b=>.fz s b
  | _=>.dead
 | .sub id c len=>match getO H id with
  | .row _ s b=>.fz s ((b.drop c).take len)
  | _=>.dead
 | a=>a
def cAV:Value->Option AV
 | .int .i64 n=>bif decide (-9223372036854775808<=n) && decide (n<=9223372036854775807) then some (.int n) else none
 | .int .u8 n=>bif decide (0<=n) && decide (n<256) then some (.u8 (UInt8.ofNat n.toNat)) else none
 | .int .u64 n=>bif decide (0<=n) && decide (n<18446744073709551616) then some (.u64 n.toNat) else none
 | .int .u32 n=>bif decide (0<=n) && decide (n<4294967296) then some (.xx (.w n.toNat) []) else none
 | .bool b=>some (.bool (.lit b))
 | .string s=>bif Nat.ble s.data.toList.length 140737488355328 then some (.str ⟨s.data.toList⟩) else none
 | .slice none 0 0=>some (.em true)
 | .pointer none=>some .np
 | .nilIface=>some (.xx (.er true) [])
 | .nilFunc=>some .nf
 | _=>none
def dh (fr:AFr):Operand->Option TV
 | .tmp i=>lookA fr i
 | .const v=>match cAV v with
  | some a=>some (one a)
  | none=>none
 | .func f=>some (one (.fn f [] []))
 | .global _=>none
def BE.neg:BE->BE
 | .lit b=>.lit (!b)
 | .not e=>e
 | e=>.not e
def Wv (a b:Int):Int:=((a.toNat ||| b.toNat:Nat):Int)
def ID (a b:Int):Int:=((BitVec.ofInt 64 a &&& BitVec.ofInt 64 b).toNat:Int)
def aaa (c:BinOp):AV->AV->Option PR
 | .int a,.int b=>match c with
  | .lss=>pr (.bool (.lt a b))
  | .leq=>pr (.bool (.le a b))
  | .gtr=>pr (.bool (.lt b a))
  | .geq=>pr (.bool (.le b a))
  | .eql=>pr (.bool (.eq a b))
  | .neq=>pr (.bool (.not (.eq a b)))
  | .add=>pr (.int (a+b)) [I64 (a+b)]
  | .sub=>pr (.int (a - b)) [I64 (a - b)]
  | .mul=>pr (.int (a*b)) [I64 (a*b)]
  | .quo=>pr (.int (a.tdiv b)) [0<=a,0<b]
  | .rem=>pr (.int (a.tmod b)) [0<=a,0<b]
  | .and=>pr (.int (ID a b)) [0<=b]
  | .or=>pr (.int (Wv a b)) [0<=a,0<=b]
  | _=>none
 | .u8 a,.u8 b=>match c with
  | .lss=>pr (.bool (.lt a.toNat b.toNat))
  | .leq=>pr (.bool (.le a.toNat b.toNat))
  | .gtr=>pr (.bool (.lt b.toNat a.toNat))
  | .geq=>pr (.bool (.le b.toNat a.toNat))
  | .eql=>pr (.bool (.eq a.toNat b.toNat))
  | .neq=>pr (.bool (.not (.eq a.toNat b.toNat)))
  | .and=>pr (.u8 (a &&& b))
  | .or=>pr (.u8 (a ||| b))
  | .rem=>pr (.u8 (a % b)) [0<b.toNat]
  | .quo=>pr (.u8 (a / b)) [0<b.toNat]
  | _=>none
 | .u64 a,.u64 b=>match c with
  | .lss=>pr (.bool (.lt a b))
  | .leq=>pr (.bool (.le a b))
  | .gtr=>pr (.bool (.lt b a))
  | .geq=>pr (.bool (.le b a))
  | .eql=>pr (.bool (.eq a b))
  | .neq=>pr (.bool (.not (.eq a b)))
  | .add=>pr (.u64 ((a+b) % 18446744073709551616))
  | .or=>pr (.u64 (a ||| b))
  | .quo=>pr (.u64 (a / b)) [0<b]
  | .rem=>pr (.u64 (a % b)) [0<b]
  | .shl=>pr (.u64 ((a*2 ^ b) % 18446744073709551616)) [b<64]
  | .shr=>pr (.u64 (a / 2 ^ b)) [b<64]
  | _=>none
 | .u64 a,.int b=>match c with
  | .shl=>pr (.u64 ((a*2 ^ b.toNat) % 18446744073709551616)) [0<=b,b<64]
  | .shr=>pr (.u64 (a / 2 ^ b.toNat)) [0<=b,b<64]
  | _=>none
 | .int a,.u64 b=>match c with
  | .shl=>pr (.int (a*2 ^ b)) [b<64,I64 (a*2 ^ b)]
  | _=>none
 | .u8 a,.u64 b=>match c with
  | .shr=>pr (.u8 (UInt8.ofNat (a.toNat / 2 ^ b))) [b<8]
  | _=>none
 | .bool a,.bool b=>match c with
  | .eql=>pr (.bool (.beq a b))
  | .neq=>pr (.bool (.not (.beq a b)))
  | _=>none
 | .str a,.str b=>match c with
  | .eql=>pr (.bool (.seq a b))
  | .neq=>pr (.bool (.not (.seq a b)))
  | .add=>pr (.str ⟨a.b++b.b⟩) [a.b.length+b.b.length<=140737488355328]
  | _=>none
 | .em a,.em true=>match c with
  | .eql=>pr (.bool (.lit a))
  | .neq=>pr (.bool (.lit (!a)))
  | _=>none
 | _,_=>none
inductive LK
 | i (k:IntKind) | b | s
deriving DecidableEq
def AV.lk:AV->Option LK
 | .int _=>some (.i .i64)
 | .u8 _=>some (.i .u8)
 | .u64 _=>some (.i .u64)
 | .bool _=>some .b
 | .str _=>some .s
 | _=>none
def Yf:List AV->Option (List LK)
 | []=>some []
 | a :: r=>match a.lk,Yf r with
  | some k,some l=>some (k :: l)
  | _,_=>none
def TQ:AV->AV->Option BE
 | .int a,.int b=>some (.eq a b)
 | .u8 a,.u8 b=>some (.eq a.toNat b.toNat)
 | .u64 a,.u64 b=>some (.eq a b)
 | .bool x,.bool y=>some (.beq x y)
 | .str a,.str b=>some (.seq a b)
 | _,_=>none
def Kd:List AV->List AV->Option BE
 | [],[]=>some (.lit true)
 | [a],[b]=>TQ a b
 | a :: r,b :: l=>match TQ a b,Kd r l with
  | some x,some y=>some (.and x y)
  | _,_=>none
 | _,_=>none
def eqG (T:List (Nat × TI)) (c:BinOp) (t:TypeId) (a b:List AV):Option PR:=match a_ T t with
 | some ⟨.st _,_,z⟩=>match Yf z,Yf a,Yf b with
  | some k,some d,some f=>match decide (d=k) && decide (f=k),Kd a b,c with
   | true,some e,.eql=>pr (.bool e)
   | true,some e,.neq=>pr (.bool (.not e))
   | _,_,_=>none
  | _,_,_=>none
 | _=>none
def Pl (T:List (Nat × TI)) (t:TypeId):AV->Bool
 | .bool _=>match a_ T t with
  | some ⟨.bool,_,_⟩=>true
  | _=>false
 | .em _=>match a_ T t with
  | some ⟨.sl _ _,_,_⟩=>true
  | _=>false
 | .xx _ _=>false
 | _=>true
def eQ (n:Nat):Int:=if n<9223372036854775808 then n else (n:Int) - 18446744073709551616
def Pu (H:AH) (s t:TK) (x:AV):Option PR:=
 match s,t,x with
 | .i .i64,.i .i64,.int n=>pr (.int n)
 | .i .u8,.i .i64,.u8 b=>pr (.int b.toNat)
 | .i .u8,.i .u64,.u8 b=>pr (.u64 b.toNat)
 | .i .i64,.i .u8,.int n=>pr (.u8 (UInt8.ofNat n.toNat)) [0<=n]
 | .i .i64,.i .u64,.int n=>pr (.u64 n.toNat) [0<=n]
 | .i .u64,.i .u8,.u64 n=>pr (.u8 (UInt8.ofNat n))
 | .i .u64,.i .i64,.u64 n=>pr (.int (eQ n))
 | .i .u64,.i .u64,.u64 n=>pr (.u64 n)
 | .sl _ (some .u8),.str,x=>match x.vw H with
  | .fz .u8 a=>pr (.str ⟨a⟩)
  | .em _=>pr (.str ⟨[]⟩)
  | _=>none
 | .str,.sl _ (some .u8),.str s=>pr (.fz .u8 s.b)
 | _,_,_=>none
def YM (T:List (Nat × TI)) (H:AH) (t:TypeId) (x:AV):Option Int:=
 match x,a_ T t with
 | .fz _ a,some ⟨.sl _ _,_,_⟩=>some a.length
 | .str s,some ⟨.str,_,_⟩=>some s.b.length
 | .em _,some ⟨.sl _ _,_,_⟩=>some 0
 | .own id,some ⟨.sl _ _,_,_⟩=>match getO H id with
  | .row _ _ a=>some a.length
  | _=>none
 | .sub id _ len,some ⟨.sl _ _,_,_⟩=>match getO H id with
  | .row _ _ _=>some len
  | _=>none
 | .xx .pl c,some ⟨.sl _ _,_,_⟩=>some c.length
 | _,_=>none
def AV.ix:AV->Option Int
 | .int n=>some n
 | .u8 b=>some b.toNat
 | .u64 n=>some n
 | _=>none
def Xz (T:List (Nat × TI)) (t:TypeId):Option Sh:=match a_ T t with
 | some ⟨.sl _ s,_,_⟩=>s
 | _=>none
def tI (H:AH) (b:Sh) (x:AV) (i:Int):Option PR:=
 match x with
 | .fz s a=>match decide (b = s) with
  | true=>pr (.fe s (a.getD i.toNat (au s)) 0) [0<=i,i<a.length] (Kl (cellsOf s (a.getD i.toNat (au s))))
  | false=>none
 | .own id=>match getO H id with
  | .row _ s a=>match decide (b = s) with
   | true=>pr (.elp id i.toNat 0) [0<=i,i<a.length] (Kl (cellsOf s (a.getD i.toNat (au s))))
   | false=>none
  | _=>none
 | _=>none
def xV (H:AH):AV->Option (List AV × Nat)
 | .ptr id o=>match getO H id with
  | .box _ a=>some (a,o)
  | _=>none
 | .elp id i o=>match getO H id with
  | .row _ s b=>some (cellsOf s (b.getD i (au s)),o)
  | _=>none
 | .fe s x o=>some (cellsOf s x,o)
 | .xx .pa [q]=>some ([.ptr q.1 q.2],0)
 | _=>none
def EV (T:List (Nat × TI)) (H:AH) (t:TypeId) (x:AV):Option PR:=
 match a_ T t,xV H x with
 | some b,some (c,o)=>match b.k,Nat.ble (o+b.size) c.length with
  | .st _,true=>some ⟨.one (.agg ((c.drop o).take b.size)),[],[]⟩
  | .ar _ _,true=>some ⟨.one (.agg ((c.drop o).take b.size)),[],[]⟩
  | .oth,_=>none
  | .st _,_=>none
  | .ar _ _,_=>none
  | _,_=>match c[o]? with
   | some a=>pr a [] []
   | none=>none
 | _,_=>none
def AV.oZ (k:Nat):AV->Option PR
 | .ptr id o=>pr (.ptr id (o+k))
 | .elp id i o=>pr (.elp id i (o+k))
 | .fe s x o=>pr (.fe s x (o+k))
 | _=>none
def kP (T:List (Nat × TI)) (t:TypeId) (x:AV) (l h:Option Int):Option PR:=
 match x with
 | .fz s a=>match Xz T t with
  | some c=>match decide (c = s) with
   | true=>match l,h with
    | some l,none=>pr (.fz s (a.drop l.toNat)) [0<=l,l<=a.length]
    | none,some h=>pr (.fz s (a.take h.toNat)) [0<=h,h<=a.length]
    | some l,some h=>pr (.fz s ((a.drop l.toNat).take (h.toNat - l.toNat))) [0<=l,l<=h,h<=a.length]
    | _,_=>none
   | false=>none
  | none=>none
 | .str s=>match a_ T t with
  | some ⟨.str,_,_⟩=>match l,h with
   | some l,none=>pr (.str ⟨s.b.drop l.toNat⟩) [0<=l,l<=s.b.length]
   | none,some h=>pr (.str ⟨s.b.take h.toNat⟩) [0<=h,h<=s.b.length]
   | some l,some h=>pr (.str ⟨(s.b.drop l.toNat).take (h.toNat - l.toNat)⟩) [0<=l,l<=h,h<=s.b.length]
   | _,_=>none
  | _=>none
 | _=>none
def TV1.cells:TV1->List AV
 | .c a=>[a]
 | .agg l=>l
def Da (fr:AFr):List Operand->Option (List TV1)
 | []=>some []
 | x :: r=>match dh fr x,Da fr r with
  | some (.one a),some l=>some (a :: l)
  | _,_=>none
def xr (fr:AFr):List (Nat × Operand)->Option (List (Nat × TV1))
 | []=>some []
 | (i,x) :: r=>match dh fr x,xr fr r with
  | some (.one a),some l=>some ((i,a) :: l)
  | _,_=>none
def over (l:List AV) (o:Nat) (a:List AV):List AV:=l.take o++a++l.drop (o+a.length)
def lI (a:List (Nat × Nat)):List AV->List (Nat × TV1)->Option (List AV)
 | z,[]=>some z
 | z,(i,v) :: r=>match a[i]? with
  | some (o,n)=>match Nat.beq v.cells.length n && Nat.ble (o+n) z.length with
   | true=>lI a (over z o v.cells) r
   | false=>none
  | none=>none
def mG:Nat->Nat->List (Nat × Nat)
 | _,0=>[]
 | k,n+1=>(k,1) :: mG (k+1) n
def kY:List TV1->Option (List (Nat × Nat))
 | []=>some []
 | .c (.ptr id o) :: r=>match kY r with
  | some l=>some ((id,o) :: l)
  | none=>none
 | _=>none
def AV.plain:AV->Bool
 | .int _=>true
 | .u8 _=>true
 | .u64 _=>true
 | .bool _=>true
 | .str _=>true
 | .em _=>true
 | .fz _ _=>true
 | .li _ _=>true
 | _=>false
def arS (T:List (Nat × TI)) (e:TypeId):Option Sh:=match a_ T e with
 | some ⟨.i .i64,1,_⟩=>some .int
 | some ⟨.i .u8,1,_⟩=>some .u8
 | some ⟨.i .u64,1,_⟩=>some .u64
 | some ⟨.bool,1,_⟩=>some .bool
 | some ⟨.str,1,_⟩=>some .str
 | _=>none
def ui (s:Sh):List AV->Option (List (den s))
 | []=>some []
 | a :: r=>match gi s [a],ui s r with
  | some x,some l=>some (x :: l)
  | _,_=>none
def ym (s:Sh) (a:List (den s)):Nat->Nat->List AV
 | _,0=>[]
 | k,n+1=>cellsOf s (a.getD k (au s))++ym s a (k+1) n
def Q_ (T:List (Nat × TI)) (t:TypeId) (a:List AV):AO:=match a_ T t with
 | some ⟨.ar m e,_,_⟩=>match arS T e with
  | some s=>match ui s a with
   | some b=>match Nat.beq b.length m && Nat.beq s.size 1 with
    | true=>.arr t s m b
    | false=>.box t a
   | none=>.box t a
  | none=>.box t a
 | _=>.box t a
def qV (T:List (Nat × TI)) (H:AH) (t:TypeId) (x:AV):Option PR:=
 match x with
 | .ptr id o=>match getO H id with
  | .arr _ s n b=>match a_ T t with
   | some ⟨.ar m _,sz,_⟩=>match Nat.beq o 0 && Nat.beq m n && Nat.beq sz n && Nat.beq s.size 1 with
    | true=>some ⟨.one (.agg (ym s b 0 n)),[],[]⟩
    | false=>none
   | some c=>match c.k,Nat.beq s.size 1,cellsOf s (b.getD o (au s)) with
    | .st _,_,_=>none
    | .ar _ _,_,_=>none
    | .oth,_,_=>none
    | _,true,[a]=>pr a [o<n] a.ok
    | _,_,_=>none
   | none=>none
  | _=>none
 | _=>none
def zP (T:List (Nat × TI)) (e:TypeId):Bool:=match a_ T e with
 | some ⟨.ptr,1,[.np]⟩=>true
 | _=>false
def iC (T:List (Nat × TI)) (H:AH) (t:TypeId) (x:AV) (i:Int):Option PR:=
 match x,a_ T t with
 | .ptr id 0,some ⟨.ar m e,_,_⟩=>match getO H id,arS T e with
  | .arr _ s n _,some _=>match Nat.beq m n && Nat.beq s.size 1 with
   | true=>pr (.ptr id i.toNat) [0<=i,i<n]
   | false=>none
  | _,_=>none
 | .xx .pl a,some ⟨.sl e none,_,_⟩=>match zP T e,a[i.toNat]? with
  | true,some q=>pr (.xx .pa [q]) [0<=i,i<a.length]
  | _,_=>none
 | _,_=>none
def qP (g:Nat):List TabE->Option TabE
 | []=>none
 | e :: r=>bif Nat.beq g e.g then some e else qP g r
def sA (T:List (Nat × TI)) (t:TypeId) (x:Operand) (i:Int):Option PR:=
 match x with
 | .global g=>match qP g SJ,a_ T t with
  | some e,some ⟨.ar m a,_,_⟩=>match arS T a with
   | some s=>match decide (s=e.s) && Nat.beq m e.xs.length with
    | true=>pr (.fe e.s (e.xs.getD i.toNat (au e.s)) 0) [0<=i,i<m] (Kl (cellsOf e.s (e.xs.getD i.toNat (au e.s))))
    | false=>none
   | none=>none
  | _,_=>none
 | _=>none
def lq (T:List (Nat × TI)) (t:TypeId) (c:List AV) (i:Int):Option PR:=
 match a_ T t with
 | some ⟨.ar m e,_,_⟩=>match arS T e with
  | some s=>match ui s c with
   | some b=>match Nat.beq b.length m,cellsOf s (b.getD i.toNat (au s)) with
    | true,[a]=>pr a [0<=i,i<m] a.ok
    | _,_=>none
   | none=>none
  | none=>none
 | _=>none
structure SpecR where
 pre:List Prop:=[]
 rs:List TV1
 out:Option AH:=none
 keep:Bool:=false
abbrev bP:=Nat->List TV1->AH->Option SpecR
def abv (O:bP):Bool:=(O 1000000000 [] []).isSome
def aaz (a b:Int):Int:=IntKind.i64.wrap (a - b)
def abA (O:bP):Bool:=(O 1000000001 [] []).isSome
def Zd (a b:Int):Int:=IntKind.i64.wrap (a+b)
def aak (O:bP) (c:BinOp) (a b:AV):Option PR:=match abv O,abA O,c,a,b with
 | true,_,.sub,.int x,.int y=>pr (.int (aaz x y))
 | _,true,.add,.int x,.int y=>pr (.int (Zd x y))
 | _,_,c,a,b=>aaa c a b
def AV.ids:AV->List Nat
 | .own i=>[i]
 | .sub i _ _=>[i]
 | .elp i _ _=>[i]
 | .ptr i _=>[i]
 | .fn _ b c=>b.map (·.1)++c.map (·.1)
 | .mq i=>[i]
 | .xx _ a=>a.map (·.1)
 | _=>[]
def yA:List AV->List Nat
 | []=>[]
 | a :: r=>a.ids++yA r
def qF:List TV1->List Nat
 | []=>[]
 | a :: r=>yA a.cells++qF r
def KA:List (Int × AV)->List Nat
 | []=>[]
 | (_,a) :: r=>a.ids++KA r
def AO.ids:AO->List Nat
 | .box _ a=>yA a
 | .mapf l=>KA l
 | _=>[]
def cd (i:Nat):List Nat->Bool
 | []=>false
 | j :: r=>bif Nat.beq i j then true else cd i r
def reach (H:AH):Nat->List Nat->List Nat->List Nat
 | 0,_,seen=>seen
 | _+1,[],seen=>seen
 | n+1,i :: r,seen=>bif cd i seen then reach H n r seen else reach H n ((getO H i).ids++r) (seen++[i])
def posOf (i:Nat):List Nat->Nat
 | []=>0
 | j :: r=>bif Nat.beq i j then 0 else posOf i r+1
def QF (f:Nat->Nat):List (Nat × Nat)->List (Nat × Nat)
 | []=>[]
 | (i,o) :: r=>(f i,o) :: QF f r
def AV.lR (f:Nat->Nat):AV->AV
 | .own i=>.own (f i)
 | .sub i o l=>.sub (f i) o l
 | .elp i k o=>.elp (f i) k o
 | .ptr i o=>.ptr (f i) o
 | .fn g b c=>.fn g (QF f b) (QF f c)
 | .mq i=>.mq (f i)
 | .xx k d=>.xx k (QF f d)
 | a=>a
def Lo (f:Nat->Nat):List AV->List AV
 | []=>[]
 | a :: r=>a.lR f :: Lo f r
def TV1.lR (f:Nat->Nat):TV1->TV1
 | .c a=>.c (a.lR f)
 | .agg l=>.agg (Lo f l)
def iS (f:Nat->Nat):List TV1->List TV1
 | []=>[]
 | a :: r=>a.lR f :: iS f r
def UL (f:Nat->Nat):List (Int × AV)->List (Int × AV)
 | []=>[]
 | (k,a) :: r=>(k,a.lR f) :: UL f r
def AO.lR (f:Nat->Nat):AO->AO
 | .box t a=>.box t (Lo f a)
 | .mapf l=>.mapf (UL f l)
 | o=>o
def pC (f:Nat->Nat):List AO->List AO
 | []=>[]
 | a :: r=>a.lR f :: pC f r
def Hj (H:AH):List AV->List AV
 | []=>[]
 | a :: r=>a.vw H :: Hj H r
def TV1.vw (H:AH):TV1->TV1
 | .c a=>.c (a.vw H)
 | .agg l=>.agg (Hj H l)
def Ic (H:AH):List TV1->List TV1
 | []=>[]
 | a :: r=>a.vw H :: Ic H r
def tG (H:AH) (l:List TV1):List Nat:=reach H 64 (qF l) []
def kO (H:AH):List Nat->List AO
 | []=>[]
 | i :: r=>getO H i :: kO H r
def JW:List TV1->TV
 | [a]=>.one a
 | l=>.tup l
def qh (σ:List Nat):List Nat->Bool
 | []=>true
 | i :: r=>cd i σ && qh σ r
def lz:List Nat->Bool
 | []=>true
 | i :: r=>!cd i r && lz r
def gL (H:AH) (σ:List Nat):List Nat->Bool
 | []=>true
 | i :: r=>Nat.blt i H.length && qh σ (getO H i).ids && gL H σ r
def Sh.gG:Sh->List Sh
 | .lst s=>[s]
 | .lx=>[.int]
 | .nm t=>t.gG
 | _=>[]
def jD (f:Sh->Bool):List Sh->Bool
 | []=>true
 | s :: r=>f s && jD f r
def Sh.no:Nat->Sh->Sh->Bool
 | 0,_,_=>false
 | n+1,b,s=>!decide (s=b) && jD (Sh.no n b) s.gG
def AV.no (b:Sh):AV->Bool
 | .fz s _=>Sh.no 5 b s
 | .li _ _=>Sh.no 5 b .int
 | .fe _ _ _=>false
 | .xx k _=>match k with
  | .er _=>true
  | .bp=>true
  | .ff _ _=>true
  | .w _=>true
  | .kf _=>true
  | _=>false
 | _=>true
def ZE (b:Sh):List AV->Bool
 | []=>true
 | a :: r=>a.no b && ZE b r
def noT (b:Sh):List TV1->Bool
 | []=>true
 | a :: r=>ZE b a.cells && noT b r
def eU:List AV->List Nat
 | []=>[]
 | .own i :: r=>i :: eU r
 | .sub i _ _ :: r=>i :: eU r
 | _ :: r=>eU r
def fO:List TV1->List Nat
 | []=>[]
 | a :: r=>eU a.cells++fO r
def fx (H:AH):List Nat->List Sh
 | []=>[]
 | i :: r=>match getO H i with
  | .row _ s _=>s :: fx H r
  | _=>fx H r
def pL (σ:List Nat):List Nat->Bool
 | []=>true
 | i :: r=>!cd i σ && pL σ r
def pd (H:AH):List Nat->Bool
 | []=>true
 | i :: r=>(match getO H i with
  | .row _ _ _=>true
  | _=>false) && pd H r
def Fi (O:bP) (H:AH) (f:Nat) (args:List TV1):Option PR:=
 match tG H (Ic H args) with
 | σ=>match lz σ && qh σ (qF (Ic H args)) && gL H σ σ && pL σ (fO args) && pd H (fO args) with
  | true=>match O f (iS (posOf · σ) (Ic H args)) (pC (posOf · σ) (kO H σ)) with
   | some ⟨pre,a,none,_⟩=>match jD (fun b=>noT b a) (fx H (fO args)) with
    | true=>some ⟨JW (iS (fun j=>σ.getD j 0) a),pre,JV a⟩
    | false=>none
   | _=>none
  | false=>none
variable (T:List (Nat × TI)) (O:bP)
def gX (fr:AFr) (c:Call):Option (Nat × List TV1):=
 match c.callee with
 | .value f=>match dh fr f,Da fr c.args.toList with
  | some (.one (.c (.fn g b a))),some l=>some (g,b.map (fun q=>.c (.ptr q.1 q.2))++(l++a.map (fun q=>.c (.ptr q.1 q.2))))
  | some (.one (.c (.xx (.kf x) []))),some l=>match x with
   | .f g=>some (g,l)
   | _=>none
  | _,_=>none
 | _=>none
def Sh.pn:Sh->Bool
 | .nm _=>true
 | _=>false
def OZ (s:Sh) (x:den s):TV1:=bif s.pn then .agg (cellsOf s x) else match cellsOf s x with
 | [a]=>.c a
 | l=>.agg l
def Ku (O:bP):Bool:=(O 1000000002 [] []).isSome
def u8w (n:Int):UInt8:=UInt8.ofNat (n % 256).toNat
def Lq (O:bP) (H:AH) (s t:TK) (x:AV):Option PR:=match Ku O,s,t,x with
 | true,.i .i64,.i .u8,.int n=>pr (.u8 (u8w n))
 | _,s,t,x=>Pu H s t x
def erA (T:List (Nat × TI)) (a:BinOp) (t:TypeId) (x:Option TV):Operand->Option PR
 | .const .nilIface=>match a_ T t,x with
  | some ⟨.ifc,_,_⟩,some (.one (.c (.xx (.er b) [])))=>match a with
   | .eql=>pr (.bool (.atom b))
   | .neq=>pr (.bool (.not (.atom b)))
   | _=>none
  | _,_=>none
 | _=>none
def sP:Nat->List (Nat × TV1)->Option (List (Nat × Nat))
 | _,[]=>some []
 | k,(i,.c (.ptr id o)) :: r=>match Nat.beq i k,sP (k+1) r with
  | true,some l=>some ((id,o) :: l)
  | _,_=>none
 | _,_=>none
def Po (T:List (Nat × TI)) (t:TypeId) (x y:Option TV) (ok:Bool):Option PR:=
 match a_ T t,x,y with
 | some ⟨.ms _ _,_,_⟩,some (.one (.c (.xx (.fm f) []))),some (.one (.c (.str s)))=>match ok with
  | false=>pr (.int ((f s).getD 0))
  | true=>none
 | _,_,_=>none
def pvB (H:AH) (fr:AFr):Op->Option PR
 | .move x=>match dh fr x with
  | some v=>some ⟨v,[],[]⟩
  | none=>none
 | .assign x=>match dh fr x with
  | some v=>some ⟨v,[],[]⟩
  | none=>none
 | .unOp .not _ x=>match dh fr x with
  | some (.one (.c (.bool e)))=>pr (.bool e.neg)
  | _=>none
 | .binOp j t x y _=>match dh fr x,dh fr y with
  | some (.one (.c a)),some (.one (.c b))=>match Pl T t a with
   | true=>aak O j a b
   | false=>erA T j t (some (.one (.c a))) y
  | some (.one (.agg a)),some (.one (.agg b))=>eqG T j t a b
  | _,_=>none
 | .extract x i=>match dh fr x with
  | some (.tup l)=>match l[i]? with
   | some a=>some ⟨.one a,[],[]⟩
   | none=>none
  | _=>none
 | .nilCheck x=>match dh fr x with
  | some (.one (.c a))=>match a with
   | .ptr _ _=>pr a
   | .elp _ _ _=>pr a
   | .fe _ _ _=>pr a
   | .fn _ _ _=>pr a
   | _=>none
  | _=>none
 | .convert s t x=>match a_ T s,a_ T t,dh fr x with
  | some a,some b,some (.one (.c v))=>Lq O H a.k b.k v
  | _,_,_=>none
 | .makeFunc (.func f) b c=>match b.toList,Da fr c.toList with
  | [],some g=>match kY g with
   | some q=>pr (.fn f [] q)
   | none=>none
  | _,_=>none
 | .fieldAddr t x i=>match a_ T t,dh fr x with
  | some ⟨.st p,_,_⟩,some (.one (.c a))=>match p[i]? with
   | some (o,_)=>a.oZ o
   | none=>none
  | _,_=>none
 | .load t x=>match dh fr x with
  | some (.one (.c a))=>match qV T H t a with
   | some r=>some r
   | none=>EV T H t a
  | _=>none
 | .indexAddr t x y=>match dh fr x,dh fr y,Xz T t with
  | some (.one (.c a)),some (.one (.c b)),some s=>match b.ix with
   | some i=>tI H s a i
   | none=>none
  | some (.one (.c a)),some (.one (.c b)),none=>match b.ix with
   | some i=>iC T H t a i
   | none=>none
  | none,some (.one (.c b)),none=>match b.ix with
   | some i=>sA T t x i
   | none=>none
  | _,_,_=>none
 | .index t x y=>match dh fr x,dh fr y with
  | some (.one (.c (.str s))),some (.one (.c b))=>match b.ix with
   | some i=>match a_ T t with
    | some ⟨.str,_,_⟩=>pr (.u8 (s.b.getD i.toNat 0)) [0<=i,i<s.b.length]
    | _=>none
   | none=>none
  | some (.one (.agg g)),some (.one (.c b))=>match b.ix with
   | some i=>lq T t g i
   | none=>none
  | _,_=>none
 | .lookup t x y ok=>match a_ T t,dh fr x,dh fr y with
  | some ⟨.mp _ _ (some s),_,_⟩,some (.one (.c (.mq id))),some (.one (.c (.int k)))=>match getO H id with
   | .mapo u f=>if h:u = s then (match ok with
    | false=>some ⟨.one (OZ s ((h ▸ f k:Option (den s)).getD (au s))),[],[]⟩
    | true=>some ⟨.tup [OZ s ((h ▸ f k:Option (den s)).getD (au s)),.c (.bool (.atom (f k).isSome))],[],[]⟩) else none
   | _=>none
  | _,x,y=>Po T t x y ok
 | .buildSlice t n d=>match a_ T t,xr fr d.toList with
  | some ⟨.sl e none,_,_⟩,some l=>match sP 0 l with
   | some g=>match Nat.beq g.length n && zP T e && Nat.ble n 16777216 with
    | true=>pr (.xx .pl g)
    | false=>none
   | none=>none
  | _,_=>none
 | .build t d=>match a_ T t,xr fr d.toList with
  | some ⟨.st p,_,z⟩,some l=>match lI p z l with
   | some g=>some ⟨.one (.agg g),[],[]⟩
   | none=>none
  | some ⟨.ar m e,_,z⟩,some l=>match arS T e,lI (mG 0 m) z l with
   | some _,some g=>some ⟨.one (.agg g),[],[]⟩
   | _,_=>none
  | _,_=>none
 | .slice t x l h none=>match dh fr x with
  | some (.one (.c a))=>match l,h with
   | none,none=>none
   | some l,none=>match dh fr l with
    | some (.one (.c (.int l)))=>kP T t a (some l) none
    | _=>none
   | none,some h=>match dh fr h with
    | some (.one (.c (.int h)))=>kP T t a none (some h)
    | _=>none
   | some l,some h=>match dh fr l,dh fr h with
    | some (.one (.c (.int l))),some (.one (.c (.int h)))=>kP T t a (some l) (some h)
    | _,_=>none
  | _=>none
 | .call c=>match c.callee with
  | .builtin .len=>match c.args.toList,c.argTypes.toList with
   | [x],[t]=>match dh fr x with
    | some (.one (.c a))=>match YM T H t a with
     | some n=>pr (.int n)
     | none=>none
    | _=>none
   | _,_=>none
  | .builtin .min=>match c.args.toList with
   | [x,y]=>match dh fr x,dh fr y with
    | some (.one (.c (.int a))),some (.one (.c (.int b)))=>pr (.int (min a b))
    | some (.one (.c (.u64 a))),some (.one (.c (.u64 b)))=>pr (.u64 (min a b))
    | _,_=>none
   | _=>none
  | .builtin .max=>match c.args.toList with
   | [x,y]=>match dh fr x,dh fr y with
    | some (.one (.c (.int a))),some (.one (.c (.int b)))=>pr (.int (max a b))
    | _,_=>none
   | _=>none
  | .value _=>match gX fr c with
   | some (f,l)=>Fi O H f l
   | none=>none
  | _=>none
 | _=>none
def wOp (c:BinOp) (a b:Nat):Option PR:=match c with
 | .eql=>pr (.bool (.eq a b))
 | .neq=>pr (.bool (.not (.eq a b)))
 | .add=>pr (.xx (.w ((a+b) % 4294967296)) [])
 | .mul=>pr (.xx (.w ((a*b) % 4294967296)) [])
 | .rem=>pr (.xx (.w (a % b)) []) [0<b]
 | .quo=>pr (.xx (.w (a / b)) []) [0<b]
 | .or=>pr (.xx (.w (a ||| b)) [])
 | _=>none
def wSh (c:BinOp) (a b:Nat):Option PR:=match c with
 | .shl=>pr (.xx (.w ((a*2 ^ b) % 4294967296)) []) [b<32]
 | .shr=>pr (.xx (.w (a / 2 ^ b)) []) [b<32]
 | _=>none
def iSh (c:BinOp) (a:Int) (b:Nat):Option PR:=match c with
 | .shr=>pr (.int ((a.toNat / 2 ^ b:Nat):Int)) [0<=a,b<64]
 | _=>none
def dO:List (Int × List KC)->Int->Option (List KC)
 | [],_=>none
 | (j,a) :: r,k=>if k=j then some a else dO r k
def KC.int:KC->Int
 | .i n=>n
 | _=>0
def KC.bool:KC->Bool
 | .b v=>v
 | _=>false
def Dc (a:List KC):Nat->List KC->List AV
 | _,[]=>[]
 | i,.i _ :: r=>.int ((a.getD i .nf).int) :: Dc a (i+1) r
 | i,.b _ :: r=>.bool (.atom ((a.getD i .nf).bool)) :: Dc a (i+1) r
 | i,_ :: r=>.xx (.kf (a.getD i .nf)) [] :: Dc a (i+1) r
def Ke:List KC->List KC->Bool
 | [],[]=>true
 | .i _ :: r,.i n :: l=>decide (-9223372036854775808<=n) && decide (n<=9223372036854775807) && Ke r l
 | .b _ :: r,.b _ :: l=>Ke r l
 | .f _ :: r,.f _ :: l=>Ke r l
 | .f _ :: r,.nf :: l=>Ke r l
 | .nf :: r,.f _ :: l=>Ke r l
 | .nf :: r,.nf :: l=>Ke r l
 | _,_=>false
def kmB (z:List KC):List (Int × List KC)->Bool
 | []=>Ke z z
 | (_,a) :: r=>Ke z a && kmB z r
def abc:List (Nat × Nat):=[(201,0),(201,1),(201,2),(201,3),(201,4),(201,5),(48,0),(48,1),(48,2),(48,3),(48,4),(48,5),(48,6),(48,7),(48,8)]
def Lx (t i:Nat):List (Nat × Nat)->Bool
 | []=>false
 | (a,b) :: r=>(Nat.beq t a && Nat.beq i b) || Lx t i r
def xj (T:List (Nat × TI)) (t:TypeId) (x:AV) (l h m:Int):Option PR:=
 match x with
 | .fz s a=>match Xz T t with
  | some b=>match decide (b = s) with
   | true=>pr (.fz s ((a.drop l.toNat).take (h.toNat - l.toNat))) [0<=l,l<=h,h<=m,m<=a.length]
   | false=>none
  | none=>none
 | _=>none
def npE (T:List (Nat × TI)) (t:TypeId) (a:BinOp) (b:Bool):Option PR:=match a,a_ T t with
 | .eql,some ⟨.ptr,_,_⟩=>pr (.bool (.lit b))
 | .neq,some ⟨.ptr,_,_⟩=>pr (.bool (.lit (!b)))
 | _,_=>none
def pvX (H:AH) (fr:AFr):Op->Option PR
 | .binOp j t x y _=>match dh fr x,dh fr y with
  | some (.one (.c (.ptr _ _))),some (.one (.c .np))=>npE T t j false
  | some (.one (.c .np)),some (.one (.c .np))=>npE T t j true
  | some (.one (.c (.xx (.w a) []))),some (.one (.c (.xx (.w b) [])))=>wOp j a b
  | some (.one (.c (.xx (.w a) []))),some (.one (.c (.u64 b)))=>wSh j a b
  | some (.one (.c (.int a))),some (.one (.c (.u64 b)))=>iSh j a b
  | _,_=>none
 | .convert s t x=>match a_ T s,a_ T t,dh fr x with
  | some ⟨.i .u8,_,_⟩,some ⟨.i .u32,_,_⟩,some (.one (.c (.u8 b)))=>pr (.xx (.w b.toNat) [])
  | some ⟨.i .u32,_,_⟩,some ⟨.i .u8,_,_⟩,some (.one (.c (.xx (.w n) [])))=>pr (.u8 (UInt8.ofNat n))
  | _,_,_=>none
 | .lookup t x y ok=>match a_ T t,dh fr x,dh fr y with
  | some ⟨.mg _ _ z,_,_⟩,some (.one (.c (.xx (.km l) []))),some (.one (.c (.int k)))=>match kmB z l,ok with
   | true,false=>some ⟨.one (.agg (Dc ((dO l k).getD z) 0 z)),[],[]⟩
   | true,true=>some ⟨.tup [.agg (Dc ((dO l k).getD z) 0 z),.c (.bool (.atom (dO l k).isSome))],[],[]⟩
   | _,_=>none
  | _,_,_=>none
 | .field t x i=>match a_ T t,dh fr x,Lx t i abc with
  | some ⟨.st p,_,_⟩,some (.one (.agg d)),true=>match p[i]? with
   | some (o,_)=>match d[o]? with
    | some a=>pr a
    | none=>none
   | none=>none
  | _,_,_=>none
 | .makeFunc (.func f) b c=>match Da fr b.toList,Da fr c.toList with
  | some q,some d=>match kY q,kY d with
   | some r,some u=>pr (.fn f r u)
   | _,_=>none
  | _,_=>none
 | .indexAddr t x y=>match dh fr x,dh fr y,a_ T t with
  | some (.one (.c (.ptr id 0))),some (.one (.c (.int i))),some ⟨.ar m e,_,_⟩=>match getO H id,a_ T e with
   | .box _ d,some ⟨.i .u32,1,_⟩=>match Nat.beq d.length m with
    | true=>pr (.ptr id i.toNat) [0<=i,i<m]
    | false=>none
   | _,_=>none
  | _,_,_=>none
 | .slice t x (some l) (some h) (some m)=>match dh fr x,dh fr l,dh fr h,dh fr m with
  | some (.one (.c a)),some (.one (.c (.int l))),some (.one (.c (.int h))),some (.one (.c (.int m)))=>xj T t a l h m
  | _,_,_,_=>none
 | .slice t x none (some h) (some m)=>match dh fr x,dh fr h,dh fr m with
  | some (.one (.c a)),some (.one (.c (.int h))),some (.one (.c (.int m)))=>xj T t a 0 h m
  | _,_,_=>none
 | .build t g=>match a_ T t,xr fr g.toList with
  | some ⟨.ar m e,_,z⟩,some l=>match a_ T e,lI (mG 0 m) z l with
   | some ⟨.i .u32,1,_⟩,some d=>some ⟨.one (.agg d),[],[]⟩
   | _,_=>none
  | _,_=>none
 | _=>none
def pv (H:AH) (fr:AFr) (a:Op):Option PR:=match pvB T O H fr a with
 | some r=>some r
 | none=>pvX T H fr a
end Go.Proofs.YticbaadnibdbkaaGreat
namespace Go.Proofs.YticbaadnibdbkaaGreat
open Go.RowKit
structure Lv where
 wr:Nat->Bool
 mv:Nat->Bool
def gF (k:Nat):Lv:=⟨Nat.ble k,Nat.ble k⟩
def AV.kill (i:Nat):AV->AV
 | .own j=>bif Nat.beq i j then .dead else .own j
 | .sub j o l=>bif Nat.beq i j then .dead else .sub j o l
 | .elp j k o=>bif Nat.beq i j then .dead else .elp j k o
 | a=>a
def AV.Ji (H:AH) (i:Nat):AV->AV
 | .own j=>bif Nat.beq i j then (AV.own j).vw H else .own j
 | .sub j o k=>bif Nat.beq i j then (AV.sub j o k).vw H else .sub j o k
 | .elp j k o=>bif Nat.beq i j then .dead else .elp j k o
 | a=>a
def rC (g:AV->AV):List AV->List AV
 | []=>[]
 | a :: r=>g a :: rC g r
def TV1.mapA (g:AV->AV):TV1->TV1
 | .c a=>.c (g a)
 | .agg l=>.agg (rC g l)
def xO (g:AV->AV):List TV1->List TV1
 | []=>[]
 | a :: r=>a.mapA g :: xO g r
def TV.mapA (g:AV->AV):TV->TV
 | .one t=>.one (t.mapA g)
 | .tup l=>.tup (xO g l)
 | .un=>.un
def ji (g:AV->AV):AFr->AFr
 | []=>[]
 | (i,v) :: r=>(i,v.mapA g) :: ji g r
def mapM (g:AV->AV):List (Int × AV)->List (Int × AV)
 | []=>[]
 | (k,a) :: r=>(k,g a) :: mapM g r
def AO.mapA (g:AV->AV):AO->AO
 | .box t a=>.box t (rC g a)
 | .mapf l=>.mapf (mapM g l)
 | o=>o
def iF (g:AV->AV):AH->AH
 | []=>[]
 | o :: r=>o.mapA g :: iF g r
structure SR where
 v:TV
 fr:AFr
 H:AH
 ob:List Prop:=[]
 fc:List Prop:=[]
def nM (s:Sh):TV1->Bool
 | .agg _=>s.pn
 | .c _=>!s.pn
def iV (a:Lv):List Nat->AFr->AH->Option (AFr × AH)
 | [],fr,H=>some (fr,H)
 | i :: l,fr,H=>match getO H i with
  | .row _ _ _=>match a.mv i && a.wr i with
   | true=>iV a l (ji (AV.Ji H i) fr) ((iF (AV.Ji H i) H).set i .gone)
   | false=>none
  | _=>iV a l fr H
def mf (b:Lv) (fr:AFr) (H:AH) (e:TypeId) (s:Sh) (a:List (den s)) (x:AV):Option SR:=
 match x with
 | .em _=>some ⟨one (.own H.length),fr,H++[.row e s a],[a.length*s.bytes<=140737488355328],[]⟩
 | .own id=>match getO H id with
  | .row d f c=>if h:f = s then (match b.mv id && b.wr id && Nat.beq d e with
   | true=>some ⟨one (.own id),ji (AV.kill id) fr,(iF (AV.kill id) H).set id (.row e s ((h ▸ c:List (den s))++a)),[(c.length+a.length)*s.bytes<=140737488355328],[]⟩
   | false=>none) else none
  | _=>none
 | .sub id 0 len=>match getO H id with
  | .row d f c=>if h:f = s then (match b.mv id && b.wr id && Nat.beq d e with
   | true=>some ⟨one (.own id),ji (AV.kill id) fr,(iF (AV.kill id) H).set id (.row e s ((h ▸ c:List (den s)).take len++a)),[(len+a.length)*s.bytes<=140737488355328],[]⟩
   | false=>none) else none
  | _=>none
 | _=>none
def kg (T:List (Nat × TI)) (a:Lv) (fr:AFr) (H:AH) (t:TypeId) (x y:AV):Option SR:=
 match a_ T t with
 | some ⟨.sl e (some s),_,_⟩=>match (y.vw H).fS s with
  | some b=>mf a fr H e s b x
  | none=>none
 | _=>none
def xD (T:List (Nat × TI)) (a:Lv) (fr:AFr) (H:AH) (t c:TypeId) (x y:AV):Option SR:=
 match a_ T t,a_ T c,y with
 | some ⟨.sl e (some .u8),_,_⟩,some ⟨.str,_,_⟩,.str s=>mf a fr H e .u8 s.b x
 | _,_,_=>none
def Ec (b:Lv) (fr:AFr) (H:AH) (x:AV) (v:TV1):Option SR:=
 match x with
 | .ptr id o=>match getO H id with
  | .box t e=>match b.wr id && Nat.ble (o+v.cells.length) e.length with
   | true=>some ⟨.un,fr,H.set id (.box t (over e o v.cells)),[],[]⟩
   | false=>none
  | .arr t s n c=>match b.wr id && Nat.beq s.size 1,v.cells with
   | true,[a]=>match a.plain,gi s [a] with
    | true,some d=>some ⟨.un,fr,H.set id (.arr t s n (c.set o d)),[o<n],[]⟩
    | _,_=>none
   | true,_=>match Nat.beq o 0,ui s v.cells with
    | true,some l=>match Nat.beq l.length n with
     | true=>some ⟨.un,fr,H.set id (.arr t s n l),[],[]⟩
     | false=>none
    | _,_=>none
   | _,_=>none
  | _=>none
 | .elp id i o=>match getO H id with
  | .row t s c=>match b.wr id && Nat.ble (o+v.cells.length) s.size && !cd id (eU v.cells),gi s (over (cellsOf s (c.getD i (au s))) o (Hj H v.cells)),iV b (eU v.cells) fr H with
   | true,some d,some q=>some ⟨.un,q.1,q.2.set id (.row t s (c.set i d)),[],[]⟩
   | _,_,_=>none
  | _=>none
 | _=>none
def rN (s:Sh) (H:AH):List (Nat × TV1)->Nat->Option (List (den s))
 | [],_=>some []
 | (i,v) :: r,k=>match Nat.beq i k,gi s (Hj H v.cells),rN s H r (k+1) with
  | true,some x,some l=>some (x :: l)
  | _,_,_=>none
def Ds:List (Nat × TV1)->List Nat
 | []=>[]
 | (_,v) :: r=>eU v.cells++Ds r
def nc (f:Nat->AO):List Nat->AH->AH
 | [],H=>H
 | i :: r,H=>nc f r (H.set i (f i))
def AV.cr (l:List Nat):AV->AV
 | .own j=>bif cd j l then .dead else .own j
 | .sub j o k=>bif cd j l then .dead else .sub j o k
 | .elp j k o=>bif cd j l then .dead else .elp j k o
 | a=>a
def rowsOf (H:AH):List Nat->List Nat
 | []=>[]
 | i :: r=>match getO H i with
  | .row _ _ _=>i :: rowsOf H r
  | .loc=>i :: rowsOf H r
  | _=>rowsOf H r
def Bm (a:Lv):List Nat->Bool
 | []=>true
 | i :: r=>a.wr i && a.mv i && Bm a r
def noM (b:Sh):List (Int × AV)->Bool
 | []=>true
 | (_,a) :: r=>a.no b && noM b r
def tK (b:Sh):List AO->Bool
 | []=>true
 | .box _ a :: r=>ZE b a && tK b r
 | .row _ s _ :: r=>jD (Sh.no 5 b) s.gG && tK b r
 | .gone :: r=>tK b r
 | .mapo s _ :: r=>jD (Sh.no 5 b) s.gG && tK b r
 | .arr _ s _ _ :: r=>jD (Sh.no 5 b) s.gG && tK b r
 | .mapf l :: r=>noM b l && tK b r
 | .loc :: r=>tK b r
def fV (H:AH) (σ:List Nat) (j:Nat):Nat:=bif Nat.ble σ.length j then H.length+(j - σ.length) else σ.getD j 0
def HH (O:bP) (g:Lv) (fr:AFr) (H:AH) (f:Nat) (a:List TV1) (c:List Nat):Option SR:=
 match tG H a with
 | σ=>match lz σ && qh σ (qF a) && gL H σ σ && pL σ c && Bm g σ with
  | true=>match O f (iS (posOf · σ) a) (pC (posOf · σ) (kO H σ)) with
   | some ⟨pre,e,some d,_⟩=>match Nat.ble σ.length d.length && jD (fun b=>noT b e && tK b d) (fx H c) with
    | true=>some ⟨JW (iS (fV H σ) e),ji (AV.cr (rowsOf H σ)) fr,nc (fun i=>(d.getD (posOf i σ) .gone).lR (fV H σ)) σ (iF (AV.cr (rowsOf H σ)) H)++pC (fV H σ) (d.drop σ.length),pre,JV e⟩
    | false=>none
   | _=>none
  | false=>none
def KO (O:bP) (fr:AFr) (H:AH) (f:Nat) (a:List TV1):Option SR:=
 match tG H a with
 | σ=>match lz σ && qh σ (qF a) && gL H σ σ with
  | true=>match O f (iS (posOf · σ) a) (pC (posOf · σ) (kO H σ)) with
   | some ⟨pre,b,some c,true⟩=>match Nat.ble σ.length c.length with
    | true=>some ⟨JW (iS (fV H σ) b),fr,H++pC (fV H σ) (c.drop σ.length),pre,JV b⟩
    | false=>none
   | _=>none
  | false=>none
def KX (O:bP) (a:Lv) (fr:AFr) (H:AH) (f:Nat) (args:List TV1):Option SR:=
 match KO O fr H f args with
 | some r=>some r
 | none=>match pd H (fO args),HH O a fr H f (Ic H args) (fO args) with
 | true,some r=>some r
 | _,_=>HH O a fr H f args []
def Qh (T:List (Nat × TI)) (a:Lv) (fr:AFr) (H:AH) (t:TypeId) (x y z:Operand):Option SR:=
 match a_ T t,dh fr x,dh fr y,dh fr z with
 | some ⟨.mp _ _ (some s),_,_⟩,some (.one (.c (.mq id))),some (.one (.c (.int k))),some (.one v)=>match getO H id with
  | .mapo b f=>if h:b = s then (match a.wr id && nM s v && !cd id (eU v.cells),gi s (Hj H v.cells),iV a (eU v.cells) fr H with
   | true,some d,some q=>some ⟨.un,q.1,q.2.set id (.mapo s fun j=>if j=k then some d else (h ▸ f:Int->Option (den s)) j),[],[]⟩
   | _,_,_=>none) else none
  | _=>none
 | _,_,_,_=>none
def Mr (T:List (Nat × TI)) (b:Lv) (fr:AFr) (H:AH) (t:TypeId) (x y z:Operand):Option SR:=
 match a_ T t,dh fr x,dh fr y,dh fr z with
 | some ⟨.mp _ _ none,_,_⟩,some (.one (.c (.mq id))),some (.one (.c (.int k))),some (.one (.c a))=>match getO H id with
  | .mapf l=>match b.wr id with
   | true=>some ⟨.un,fr,H.set id (.mapf ((k,a) :: l)),[],[]⟩
   | false=>none
  | _=>none
 | _,_,_,_=>none
def Ew (T:List (Nat × TI)) (a:Lv) (fr:AFr) (H:AH) (t:TypeId) (x y z:Operand):Option SR:=match Qh T a fr H t x y z with
 | some r=>some r
 | none=>Mr T a fr H t x y z
def K_ (O:bP) (a:Lv) (fr:AFr) (H:AH) (c:Call) (l:List TV1):Option SR:=match iV a (fO l) fr H with
 | some q=>match gX q.1 c with
  | some (f,b)=>match Fi O q.2 f b with
   | some r=>some ⟨r.v,q.1,q.2,r.ob,r.fc⟩
   | none=>none
  | none=>none
 | none=>none
variable (T:List (Nat × TI)) (O:bP) (ro:Lv)
def svB (fr:AFr) (H:AH):Op->Option SR
  | .box t x=>match dh fr x with
    | some (.one v)=>some ⟨one (.ptr H.length 0),fr,H++[Q_ T t v.cells],[],[]⟩
    | _=>none
  | .alloc t=>match a_ T t with
    | some g=>some ⟨one (.ptr H.length 0),fr,H++[Q_ T t g.zero],[],[]⟩
    | none=>none
  | .store t x v=>match dh fr x,dh fr v,a_ T t with
    | some (.one (.c a)),some (.one b),some g=>match Nat.beq g.size b.cells.length with
      | true=>Ec ro fr H a b
      | false=>none
    | _,_,_=>none
  | .buildSlice t n d=>match a_ T t,xr fr d.toList with
    | some ⟨.sl e (some s),_,_⟩,some l=>match rN s H l 0,iV ro (Ds l) fr H with
      | some h,some q=>match Nat.beq h.length n && Nat.ble (n*s.size) 16777216 && Nat.ble (n*s.bytes) 140737488355328 with
        | true=>match n with
          | 0=>some ⟨one (.em false),fr,H,[],[]⟩
          | _=>some ⟨one (.own q.2.length),q.1,q.2++[.row e s h],[],[]⟩
        | false=>none
      | _,_=>none
    | _,_=>none
  | .makeMap t none=>match a_ T t with
    | some ⟨.mp _ _ (some s),_,_⟩=>some ⟨one (.mq H.length),fr,H++[.mapo s fun _=>none],[],[]⟩
    | some ⟨.mp _ _ none,_,_⟩=>some ⟨one (.mq H.length),fr,H++[.mapf []],[],[]⟩
    | _=>none
  | .insert t x y z=>Ew T ro fr H t x y z
  | .mapUpdate t x y z=>Ew T ro fr H t x y z
  | .makeSlice t n m=>match a_ T t,dh fr n,dh fr m with
    | some ⟨.sl e (some s),_,_⟩,some (.one (.c (.int k))),some (.one (.c (.int o)))=>match Nat.beq s.size 1 with
     | true=>some ⟨one (.own H.length),fr,H++[.row e s (List.replicate k.toNat (au s))],[0<=k,k*s.bytes<=140737488355328,o = k],[]⟩
     | false=>none
    | _,_,_=>none
  | .slice t x lo p u=>match dh fr x with
    | some (.one (.c (.own i)))=>match iV ro [i] fr H with
      | some q=>match pv T O q.2 q.1 (.slice t x lo p u) with
        | some r=>some ⟨r.v,q.1,q.2,r.ob,r.fc⟩
        | none=>none
      | none=>none
    | _=>none
  | .call c=>match c.callee with
    | .builtin .append=>match c.args.toList,c.argTypes.toList with
      | [x,y],[t,j]=>match Nat.beq t j,dh fr x,dh fr y with
        | true,some (.one (.c a)),some (.one (.c b))=>kg T ro fr H t a b
        | false,some (.one (.c a)),some (.one (.c b))=>xD T ro fr H t j a b
        | _,_,_=>none
      | _,_=>none
    | .value _=>match gX fr c with
      | some (f,l)=>match KX O ro fr H f l with
        | some r=>some r
        | none=>K_ O ro fr H c l
      | none=>none
    | _=>none
  | _=>none
def aeh (O:bP):Bool:=(O 1000000003 [] []).isSome
def abU (ro:Lv) (fr:AFr) (H:AH) (x:AV) (h:Int):Option SR:=
 match x with
 | .own id=>match getO H id with
  | .row e s a=>match ro.mv id && ro.wr id with
   | true=>some ⟨one (.own id),ji (AV.kill id) fr,(iF (AV.kill id) H).set id (.row e s (a.take h.toNat)),[0<=h,h<=a.length],[]⟩
   | false=>none
  | _=>none
 | _=>none
def OD (T:List (Nat × TI)) (ro:Lv) (H:AH) (t c:TypeId) (x y:AV):Option SR:=
 match x,a_ T t,a_ T c with
 | .own id,some ⟨.sl _ (some s),_,_⟩,some ⟨.sl _ _,_,_⟩=>match getO H id,(y.vw H).fS s,eU [y] with
  | .row e d a,some b,l=>if h:d = s then (match ro.wr id && !cd id l with
   | true=>some ⟨one (.int (min b.length a.length:Nat)),[],H.set id (.row e s (b.take a.length++(h ▸ a:List (den s)).drop b.length)),[],[]⟩
   | false=>none) else none
  | _,_,_=>none
 | _,_,_=>none
def svX (fr:AFr) (H:AH):Op->Option SR
 | .call c=>match c.callee with
  | .builtin .copy=>match c.args.toList,c.argTypes.toList with
   | [x,y],[t,d]=>match dh fr x,dh fr y with
    | some (.one (.c a)),some (.one (.c b))=>match OD T ro H t d a b with
     | some r=>some ⟨r.v,fr,r.H,r.ob,r.fc⟩
     | none=>none
    | _,_=>none
   | _,_=>none
  | _=>none
 | _=>none
def svC (fr:AFr) (H:AH):Op->Option SR
  | .slice t x none (some h) none=>match aeh O,dh fr x,dh fr h,a_ T t with
    | true,some (.one (.c a)),some (.one (.c (.int h))),some ⟨.sl _ (some _),_,_⟩=>abU ro fr H a h
    | _,_,_,_=>none
  | .makeSlice t (.const (.int .i64 0)) (.tmp m)=>match a_ T t,dh fr (.tmp m) with
    | some ⟨.sl e (some s),_,_⟩,some (.one (.c (.int k)))=>match Nat.beq s.size 1 with
     | true=>some ⟨one (.own H.length),fr,H++[.row e s []],[0<=k,k*s.bytes<=140737488355328],[]⟩
     | false=>none
    | _,_=>none
  | _=>none
def sv (fr:AFr) (H:AH) (a:Op):Option SR:=match svC T O ro fr H a with
 | some r=>some r
 | none=>match svB T O ro fr H a with
  | some r=>some r
  | none=>svX T ro fr H a
def jw:List Prop->Prop
 | []=>True
 | [p]=>p
 | p :: q :: l=>p/\jw (q :: l)
def same (b:Bool):List Prop:=bif b then [] else [False]
def uB:List Prop->Prop->Prop
 | [],R=>R
 | p :: l,R=>p/\uB l R
def kL:List Prop->Prop->Prop
 | [],R=>R
 | p :: l,R=>p->kL l R
def qC (d:Option Nat) (v:TV) (fr:AFr):AFr:=match d with
 | some d=>(d,v) :: fr
 | none=>fr
def oP (t:Nat):Oper->Bool
 | ⟨_,.pick (.tmp u) _ _,_,_,_,_⟩=>Nat.beq t u
 | _=>false
def uj (t:Nat):List Oper->Option (List Oper × Oper × List Oper)
 | []=>none
 | o :: r=>bif oP t o then some ([],o,r) else match uj t r with
  | some (a,b,c)=>some (o :: a,b,c)
  | none=>none
def qA:Option TV->Option BE
 | some (.one (.c (.bool e)))=>some e
 | _=>none
def Hd (e:BE) (w:Bool) (on a:Option TV):Option BE:=
 match w,qA on,qA a with
 | true,some x,some (.lit false)=>some (.and e x)
 | false,some x,some (.lit true)=>some (.or e x)
 | _,_,_=>none
structure GR where
 fr:AFr
 ob:List Prop
 fc:List Prop
def iY (fr:AFr):Option Nat->Bool
 | none=>true
 | some d=>match lookA fr d with
  | none=>true
  | some _=>false
def Di (l:List Oper) (fr:AFr) (j:Nat) (w:Bool):List Nat->List Oper->Bool
 | _,[]=>true
 | us,o :: r=>iY fr o.dst && (match o.guard with
  | some (a,b)=>(Nat.beq a j && (b == w)) || (match idst l a with
   | some t=>cd t us
   | none=>false)
  | none=>false) && Di l fr j w (match o.dst with
   | some d=>d :: us
   | none=>us) r
def Mv (a b:Option (Nat × Bool)):Bool:=match a,b with
 | none,none=>true
 | some (i,x),some (j,y)=>Nat.beq i j && (x == y)
 | _,_=>false
def oW (e:BE) (w:Bool):List Prop->List Prop
 | []=>[]
 | ob=>[e.p w->jw ob]
structure GrpR where
 d:Nat
 v:BE
 ob:List Prop
 fc:List Prop
 tail:List Oper
def Ve (l:List Oper) (fr:AFr) (g:Option (Nat × Bool)) (f:Option (Nat × Bool)->List Oper->AFr->Option GR) (j:Nat) (w:Bool) (h:List Oper):Option GrpR:=
 match idst l j with
 | some t=>match qA (lookA fr t),uj t h with
  | some e,some (a,c,b)=>match Di l fr j w [] a && Mv c.guard g && iY fr c.dst,f (some (j,w)) a fr with
   | true,some q=>match c.op,c.dst with
    | .pick _ x y,some d=>match Hd e w (dh q.fr (cond w x y)) (dh fr (cond w y x)) with
     | some v=>some ⟨d,v,oW e w q.ob,oW e w q.fc,b⟩
     | none=>none
    | _,_=>none
   | _,_=>none
  | _,_=>none
 | none=>none
def HV (l:List Oper) (H:AH):Nat->Option (Nat × Bool)->List Oper->AFr->Option GR
 | 0,_,_,_=>none
 | _+1,_,[],fr=>some ⟨fr,[],[]⟩
 | n+1,g,o :: a,fr=>
  match Mv o.guard g with
  | true=>match iY fr o.dst,pv T O H fr o.op with
   | true,some r=>match HV l H n g a (qC o.dst r.v fr) with
    | some q=>some ⟨q.fr,r.ob++q.ob,r.fc++q.fc⟩
    | none=>none
   | _,_=>none
  | false=>match o.guard with
   | some (j,w)=>match Ve l fr g (HV l H n) j w (o :: a) with
    | some r=>match HV l H n g r.tail ((r.d,one (.bool r.v)) :: fr) with
     | some q=>some ⟨q.fr,r.ob++q.ob,r.fc++q.fc⟩
     | none=>none
    | none=>none
   | none=>none
def isSt:Op->Bool
 | .store _ _ _=>true
 | .insert _ _ _ _=>true
 | .mapUpdate _ _ _ _=>true
 | _=>false
def UP (o:Oper):Bool:=match isSt o.op,o.dst with
 | true,some _=>false
 | _,_=>true
structure IxR where
 s:Sh
 xs:List (den s)
 i:Int
def atA (fr:AFr):Op->Option IxR
 | .indexAddr t x y=>match dh fr x,dh fr y,Xz T t with
  | some (.one (.c (.fz s a))),some (.one (.c b)),some d=>match decide (d = s),b.ix with
   | true,some i=>some ⟨s,a,i⟩
   | _,_=>none
  | _,_,_=>none
 | _=>none
structure NilR where
 s:Sh
 xs:List (den s)
 ne:Bool
def Zh (H:AH) (fr:AFr):Op->Option NilR
 | .binOp d t x y _=>match d,a_ T t,dh fr x,dh fr y with
  | .eql,some ⟨.sl _ _,_,_⟩,some (.one (.c a)),some (.one (.c (.em true)))=>match a.vw H with
   | .fz s b=>some ⟨s,b,false⟩
   | _=>none
  | .neq,some ⟨.sl _ _,_,_⟩,some (.one (.c a)),some (.one (.c (.em true)))=>match a.vw H with
   | .fz s b=>some ⟨s,b,true⟩
   | _=>none
  | _,_,_,_=>none
 | _=>none
def aae:Bool->Bool->BE
 | true,b=>.not (.atom b)
 | false,b=>.atom b
structure MpR where
 k:Int
 ok:Bool
 l:List (Int × AV)
def mapA (H:AH) (fr:AFr):Op->Option MpR
 | .lookup t x y ok=>match a_ T t,dh fr x,dh fr y with
  | some ⟨.mp _ _ none,_,_⟩,some (.one (.c (.mq id))),some (.one (.c (.int k)))=>match getO H id with
   | .mapf l=>some ⟨k,ok,l⟩
   | _=>none
  | _,_,_=>none
 | _=>none
def Is:Bool->AV->Bool->TV
 | true,a,b=>.tup [.c a,.c (.bool (.lit b))]
 | false,a,_=>one a
def xi (k:Int) (ok:Bool) (K:TV->Prop):List (Int × AV)->Prop
 | []=>K (Is ok .nf false)
 | (j,a) :: r=>(k=j->K (Is ok a true))/\(¬ k=j->xi k ok K r)
structure SpR where
 e:BE
 on:List Oper
 d:Nat
 off:Operand
 tail:List Oper
def ad_ (l:List Oper) (fr:AFr) (j:Nat) (w:Bool) (f:List Oper):Option SpR:=
 match idst l j with
 | some t=>match qA (lookA fr t),uj t f with
  | some e,some (c,b,a)=>match Di l fr j w [] c && Mv b.guard none && iY fr b.dst,b.op,b.dst with
   | true,.pick _ x y,some d=>some ⟨e,c.map (QP j w)++⟨some d,.move (cond w x y),b.type,b.pos,b.after,none⟩ :: a,d,cond w y x,a⟩
   | _,_,_=>none
  | _,_=>none
 | none=>none
def wpOps (l:List Oper) (K:AFr->AH->Prop):Nat->List Oper->AFr->AH->Prop
  | 0,_,_,_=>False
  | _+1,[],fr,H=>K fr H
  | n+1,o :: a,fr,H=>
    match o.guard with
    | none=>match atA T fr o.op with
     | some ⟨s,c,i⟩=>0<=i/\i<(c.length:Int)/\∀ x,c[i.toNat]? = some x->kL (Kl (cellsOf s x)) (wpOps l K n a (qC o.dst (one (.fe s x 0)) fr) H)
     | none=>match Zh T H fr o.op with
     | some ⟨_,c,f⟩=>∀ b:Bool,(b=true->c=[])->wpOps l K n a (qC o.dst (one (.bool (aae f b))) fr) H
     | none=>match mapA T H fr o.op with
     | some m=>xi m.k m.ok (fun v=>wpOps l K n a (qC o.dst v fr) H) m.l
     | none=>match pv T O H fr o.op with
      | some r=>uB r.ob (kL r.fc (wpOps l K n a (qC o.dst r.v fr) H))
      | none=>match UP o,sv T O ro fr H o.op with
        | true,some r=>uB r.ob (kL r.fc (wpOps l K n a (qC o.dst r.v r.fr) r.H))
        | _,_=>False
    | some (j,w)=>match Ve l fr none (HV T O l H n) j w (o :: a) with
      | some r=>uB r.ob (kL r.fc (wpOps l K n r.tail ((r.d,one (.bool r.v)) :: fr) H))
      | none=>match ad_ l fr j w (o :: a) with
        | some r=>(r.e.p w->wpOps l K n r.on fr H)/\(r.e.p (!w)->match dh fr r.off with
          | some v=>wpOps l K n r.tail ((r.d,v) :: fr) H
          | none=>False)
        | none=>False
structure LI where
 σ:Type
 F:σ->AFr × AH
 J:σ->Prop
 μ:σ->Nat
 R:Option (σ->σ->Prop):=none
 un:Option (Nat × List Nat):=none
def LI.rel (I:LI) (a b:I.σ):Prop:=match I.R with
 | none=>True
 | some r=>r a b
def LI.aO (I:LI) (a b:I.σ) (p:Prop):Prop:=match I.R with
 | none=>p
 | some r=>r a b/\p
def LI.imp (I:LI) (a b:I.σ) (p:Prop):Prop:=match I.R with
 | none=>p
 | some r=>r a b->p
variable {I:LI}
def LI.EY {a b:I.σ} {p:Prop}:I.aO a b p↔I.rel a b/\p:=by
 unfold LI.aO LI.rel; cases I.R <;> simp
def LI.SF {a b:I.σ} {p:Prop}:I.imp a b p↔(I.rel a b->p):=by
 unfold LI.imp LI.rel; cases I.R <;> simp
def Yk:List (Nat × LI)->Option Nat->Option LI
 | [],_=>none
 | _,none=>none
 | (j,v) :: r,some i=>bif Nat.beq j i then some v else Yk r (some i)
def lD:Code->Option Nat
 | .region i _ _=>some i
 | .seq a b=>match lD a with
  | some i=>some i
  | none=>lD b
 | .cond _ a b=>match lD a with
  | some i=>some i
  | none=>lD b
 | .block _ a=>lD a
 | .loop a=>lD a
 | .scope a=>lD a
 | _=>none
def iota:Nat->Nat->List Nat
 | _,0=>[]
 | k,n+1=>k :: iota (k+1) n
def Kj:List Nat->Nat->Nat->Bool
 | [],_,_=>false
 | k :: _,0,i=>Nat.beq k i
 | _ :: r,j+1,i=>Kj r j i
def JS (n:Nat):List Nat->Nat->Bool
 | [],_=>false
 | k :: _,0=>Nat.ble n k
 | _ :: r,j+1=>JS n r j
def pX (σ:List Nat):List (Nat × Nat)->List (Nat × Nat)->Bool
 | [],[]=>true
 | (i,o) :: r,(j,a) :: l=>Kj σ j i && Nat.beq o a && pX σ r l
 | _,_=>false
def afq (H:AH) (σ:List Nat) (j:Nat):Bool:=match σ[j]? with
 | some i=>match getO H i with
  | .box _ _=>true
  | _=>false
 | none=>false
def eqX (σ:List Nat):XK->XK->List (Nat × Nat)->List (Nat × Nat)->List Prop
 | .er a,.er b,[],[]=>[a=b]
 | .bp,.bp,b,c=>same (pX σ b c)
 | .ff s d,.ff f e,[],[]=>if h:s=f then [(h ▸ d:List (den f))=e] else [False]
 | .mx a d,.mx b e,[],[]=>[a=b,d=e]
 | .w a,.w b,[],[]=>[a=b]
 | .pl,.pl,b,c=>same (pX σ b c)
 | .pa,.pa,b,c=>same (pX σ b c)
 | _,_,_,_=>[False]
def ae_ (H:AH) (σ:List Nat):XK->List (Nat × Nat)->List Prop
 | .bp,[q]=>same (afq H σ q.1)
 | _,_=>[False]
def acT (σ:List Nat) (i o:Nat):XK->List (Nat × Nat)->List Prop
 | .bp,[q]=>same (Kj σ q.1 i && Nat.beq o q.2)
 | _,_=>[False]
def eqA (H:AH) (n:Nat) (σ:List Nat):AV->AV->List Prop
 | .int a,.int b=>[a=b]
 | .u8 a,.u8 b=>[a=b]
 | .u64 a,.u64 b=>[a=b]
 | .bool a,.bool b=>[a.val=b.val]
 | .str a,.str b=>[a=b]
 | .li a e,.li b d=>[a=b,e=d]
 | .fz s e,.fz p d=>if h:s=p then [(h ▸ e:List (den p))=d] else [False]
 | .em _,.fz _ d=>[d=[]]
 | .em a,.em b=>same (a == b)
 | .em _,.own j=>same (JS n σ j)
 | .own i,.own j=>same (Kj σ j i)
 | .own i,.fz s d=>match getO H i with
  | .row _ p e=>if h:p = s then same (!cd i σ)++[(h ▸ e:List (den s))=d] else [False]
  | _=>[False]
 | .sub i o l,.sub j m t=>same (Kj σ j i)++[o=m,l=t]
 | .ptr i o,.ptr j m=>same (Kj σ j i && Nat.beq o m)
 | .np,.np=>[]
 | .elp i k o,.elp j q m=>same (Kj σ j i && Nat.beq o m)++[k=q]
 | .nf,.nf=>[]
 | .yl a,.yl b=>same (Nat.beq a b)
 | .mq i,.mq j=>same (Kj σ j i)
 | .fn f b c,.fn g r u=>same (Nat.beq f g && pX σ b r && pX σ c u)
 | .xx k b,.xx q r=>eqX σ k q b r
 | .np,.xx k b=>ae_ H σ k b
 | .ptr i o,.xx k b=>acT σ i o k b
 | _,.dead=>[]
 | _,_=>[False]
def Mq (H:AH) (n:Nat) (σ:List Nat):List AV->List AV->List Prop
 | [],[]=>[]
 | a :: r,b :: l=>eqA H n σ a b++Mq H n σ r l
 | _,_=>[False]
def Vi (H:AH) (n:Nat) (σ:List Nat):TV1->TV1->List Prop
 | .c a,.c b=>eqA H n σ a b
 | .agg a,.agg b=>Mq H n σ a b
 | _,_=>[False]
def Cs (H:AH) (n:Nat) (σ:List Nat):List TV1->List TV1->List Prop
 | [],[]=>[]
 | a :: r,b :: l=>Vi H n σ a b++Cs H n σ r l
 | _,_=>[False]
def eqT (H:AH) (n:Nat) (σ:List Nat):TV->TV->List Prop
 | .one a,.one b=>Vi H n σ a b
 | .tup a,.tup b=>Cs H n σ a b
 | _,.un=>[]
 | _,_=>[False]
def Vn (H:AH) (n:Nat) (σ:List Nat) (fr:AFr):AFr->List Prop
 | []=>[]
 | (i,v) :: r=>match lookA fr i with
  | some u=>eqT H n σ u v++Vn H n σ fr r
  | none=>[False]
def xQ (T:List (Nat × TI)) (t:TypeId) (s:Sh):List (Nat × TI)->Bool
 | []=>false
 | (i,_) :: r=>(match a_ T i with
  | some ⟨.sl e (some a),_,_⟩=>Nat.beq e t && decide (a = s)
  | _=>false) || xQ T t s r
def eqO (H:AH) (n:Nat) (σ:List Nat):AO->AO->List Prop
 | .box t g,.box b c=>same (Nat.beq t b)++Mq H n σ g c
 | .row t s d,.row b a e=>same (Nat.beq t b)++(if h:s=a then [(h ▸ d:List (den a))=e] else [False])
 | .gone,.gone=>[]
 | .mapo s f,.mapo a i=>if h:s=a then [(h ▸ f:Int->Option (den a))=i] else [False]
 | .arr t s m d,.arr b a j e=>same (Nat.beq t b && Nat.beq m j)++(if h:s=a then [(h ▸ d:List (den a))=e] else [False])
 | _,_=>[False]
def eqN (T:List (Nat × TI)):AO->List Prop
 | .row t s a=>same (xQ T t s T)++[a=[]]
 | _=>[False]
def Zz (T:List (Nat × TI)) (H:AH) (n:Nat) (σ:List Nat):List Nat->AH->List Prop
 | [],[]=>[]
 | k :: r,b :: l=>(bif Nat.blt k n then eqO H n σ (getO H k) b else eqN T b)++Zz T H n σ r l
 | _,_=>[False]
def Gu:List (Nat × Nat)->List (Nat × Nat)->List (Nat × Nat)
 | (i,_) :: r,(j,_) :: l=>(j,i) :: Gu r l
 | _,_=>[]
def Wi:AV->AV->List (Nat × Nat)
 | .own i,.own j=>[(j,i)]
 | .sub i _ _,.sub j _ _=>[(j,i)]
 | .elp i _ _,.elp j _ _=>[(j,i)]
 | .ptr i _,.ptr j _=>[(j,i)]
 | .fn _ b c,.fn _ a d=>Gu b a ++ Gu c d
 | .xx _ b,.xx _ a=>Gu b a
 | _,_=>[]
def Rb:List AV->List AV->List (Nat × Nat)
 | a :: r,b :: l=>Wi a b++Rb r l
 | _,_=>[]
def EA:List TV1->List TV1->List (Nat × Nat)
 | .c a :: r,.c b :: l=>Wi a b++EA r l
 | .agg a :: r,.agg b :: l=>Rb a b++EA r l
 | _,_=>[]
def ac3:AO->AO->List (Nat × Nat)
 | .box _ b,.box _ a=>Rb b a
 | _,_=>[]
def FW (n:Nat):List (Nat × Nat)->Nat->Nat
 | [],_=>n
 | (j,i) :: r,k=>bif Nat.beq j k then i else FW n r k
def Lg (H:AH):List Nat->AH->List (Nat × Nat)
 | k :: r,o :: l=>ac3 (getO H k) o++Lg H r l
 | _,_=>[]
def mJ (n:Nat):List Nat->Bool
 | []=>true
 | k :: r=>(Nat.ble n k || !cd k r) && mJ n r
def aeZ (fr:AFr):AFr->List (Nat × Nat)
 | []=>[]
 | (i,v) :: r=>(match lookA fr i,v with
  | some (.one u),.one v=>EA [u] [v]
  | _,_=>[])++aeZ fr r
def abO (a:List (Nat × Nat)):Nat->Nat->List Nat
 | _,0=>[]
 | k,m+1=>FW k a k :: abO a (k+1) m
def VK (a:Nat) (fr:AFr) (H:AH) (q:AFr × AH):Nat->List (Nat × Nat)->List Nat
 | 0,b=>iota 0 a++abO b a (q.2.length - a)
 | f+1,b=>VK a fr H q f (aeZ fr q.1++Lg H (iota 0 a++abO b a (q.2.length - a)) q.2)
def Dh (T:List (Nat × TI)) (a:Nat) (fr:AFr) (H:AH) (q:AFr × AH):List Prop:=
 match VK a fr H q 3 [] with
 | σ=>same (Nat.ble a q.2.length && mJ H.length σ)++Vn H H.length σ fr q.1++Zz T H H.length σ σ q.2
def Operand.sl:Operand->List Nat
 | .tmp t=>[t]
 | _=>[]
def slL:List Operand->List Nat
 | []=>[]
 | x :: r=>Operand.sl x++slL r
def slP:List (Nat × Operand)->List Nat
 | []=>[]
 | (_,x) :: r=>Operand.sl x++slP r
def slO:Option Operand->List Nat
 | some x=>Operand.sl x
 | none=>[]
def Dn:Op->List Nat
 | .move x=>Operand.sl x
 | .assign x=>Operand.sl x
 | .pick z x y=>Operand.sl z++Operand.sl x++Operand.sl y
 | .unOp _ _ x=>Operand.sl x
 | .binOp _ _ x y _=>Operand.sl x++Operand.sl y
 | .extract x _=>Operand.sl x
 | .nilCheck x=>Operand.sl x
 | .convert _ _ x=>Operand.sl x
 | .makeFunc _ b c=>slL b.toList++slL c.toList
 | .fieldAddr _ x _=>Operand.sl x
 | .field _ x _=>Operand.sl x
 | .load _ x=>Operand.sl x
 | .indexAddr _ x y=>Operand.sl x++Operand.sl y
 | .index _ x y=>Operand.sl x++Operand.sl y
 | .build _ l=>slP l.toList
 | .slice _ x l h _=>Operand.sl x++slO l++slO h
 | .lookup _ x y _=>Operand.sl x++Operand.sl y
 | .call c=>(match c.callee with
  | .value f=>Operand.sl f
  | _=>[])++slL c.args.toList
 | _=>[]
structure DV where
 d:Nat
 v:TV
 ch:List (Nat × Bool)
 deps:List Nat
 ob:List Prop
 fc:List Prop
def xA:List DV->Nat->Option DV
 | [],_=>none
 | a :: _,0=>some a
 | _ :: r,i+1=>xA r i
def d_ (b:List Nat):Nat->List DV->List Nat
 | _,[]=>[]
 | k,a :: r=>bif cd a.d b then k :: d_ b (k+1) r else d_ b (k+1) r
def Re (b:List DV) (fr:AFr):List Nat->AFr
 | []=>fr
 | j :: r=>match xA b j with
  | some a=>(a.d,a.v) :: Re b fr r
  | none=>Re b fr r
def pY:List (Nat × Bool)->List (Nat × Bool)->Bool
 | [],_=>true
 | (i,a) :: r,(j,b) :: l=>Nat.beq i j && (a == b) && pY r l
 | _,_=>false
def ya (b:List DV) (c:List (Nat × Bool)):List Nat->Bool
 | []=>true
 | j :: r=>(match xA b j with
  | some a=>pY a.ch c
  | none=>false) && ya b c r
def Rn (b:List DV):List (Nat × Bool)->Option BE
 | []=>some (.lit true)
 | (j,w) :: r=>match xA b j,Rn b r with
  | some a,some g=>match qA (some a.v) with
   | some e=>some (.and (match w with
    | true=>e
    | false=>.not e) g)
   | none=>none
  | _,_=>none
def ma (e:BE):List Prop->List Prop
 | []=>[]
 | ob=>match e with
  | .lit true=>ob
  | e=>[e.p true->jw ob]
def zR:BE->BE
 | .and a (.lit true)=>a
 | .and a g=>.and a (zR g)
 | g=>g
def CT (b:List DV):Option (Nat × Bool)->Option (List (Nat × Bool) × List Nat)
 | none=>some ([],[])
 | some (j,w)=>match xA b j with
  | some a=>some (a.ch++[(j,w)],[a.d])
  | none=>none
def kq:Operand->Bool
 | .tmp _=>true
 | _=>false
def KZ (b:List DV) (d:List (Nat × Bool)) (t:Nat) (x y:Operand):Option BE:=
 match d_ [t] 0 b with
 | [f]=>match xA b f with
  | some c=>match qA (some c.v),pY c.ch d with
   | some e,true=>match d_ (Operand.sl (cond (kq x) x y)) 0 b with
    | [g]=>match xA b g with
     | some a=>match pY a.ch (d++[(f,kq x)]) with
      | true=>Hd e (kq x) (some a.v) (dh [] (cond (kq x) y x))
      | false=>none
     | none=>none
    | _=>none
   | _,_=>none
  | none=>none
 | _=>none
def tZ (H:AH) (fr:AFr) (a:List DV) (o:Oper):Option DV:=
 match o.dst,CT a o.guard with
 | some d,some (b,c)=>match Rn a b with
  | some g=>match o.op with
   | .pick (.tmp t) x y=>match KZ a b t x y with
    | some v=>some ⟨d,one (.bool v),b,d_ (Dn (.pick (.tmp t) x y)++c) 0 a,[],[]⟩
    | none=>none
   | op=>match ya a b (d_ (Dn op++c) 0 a),pv T O H (Re a fr (d_ (Dn op++c) 0 a)) op with
    | true,some r=>some ⟨d,r.v,b,d_ (Dn op++c) 0 a,ma (zR g) r.ob,ma (zR g) r.fc⟩
    | _,_=>none
  | none=>none
 | _,_=>none
def xe (H:AH) (fr:AFr):List Oper->List DV->Option (List DV)
 | [],b=>some b
 | o :: r,b=>match tZ T O H fr b o with
  | some a=>xe H fr r (b++[a])
  | none=>none
def ZA:List DV->List Prop
 | []=>[]
 | a :: r=>a.ob++ZA r
def VW:List DV->List Prop
 | []=>[]
 | a :: r=>a.fc++VW r
def zy:List DV->AFr->AFr
 | [],fr=>fr
 | a :: r,fr=>match a.ch with
  | []=>(a.d,a.v) :: zy r fr
  | _=>zy r fr
def Qj (H:AH) (fr:AFr):List Oper->List DV->Nat->Nat
 | [],_,k=>k
 | o :: r,b,k=>match tZ T O H fr b o with
  | some a=>Qj H fr r (b++[a]) (k+1)
  | none=>k
def TV.ids:TV->List Nat
 | .one t=>yA t.cells
 | .tup l=>qF l
 | .un=>[]
def AV.rids:AV->List Nat
 | .own i=>[i]
 | .sub i _ _=>[i]
 | .elp i _ _=>[i]
 | _=>[]
def rO:List AV->List Nat
 | []=>[]
 | a :: r=>a.rids++rO r
def EB:List TV1->List Nat
 | []=>[]
 | a :: r=>rO a.cells++EB r
def TV.rids:TV->List Nat
 | .one t=>rO t.cells
 | .tup l=>EB l
 | .un=>[]
def AO.rids:AO->List Nat
 | .box _ a=>rO a
 | .mapf l=>rO (l.map (·.2))
 | _=>[]
def slotIds (fr:AFr):List Nat->List Nat
 | []=>[]
 | t :: r=>(match lookA fr t with
  | some v=>v.ids
  | none=>[])++slotIds fr r
def oK (fr:AFr):List Nat->List Nat
 | []=>[]
 | t :: r=>(match lookA fr t with
  | some v=>v.rids
  | none=>[])++oK fr r
def objIds (H:AH):List Nat->List Nat
 | []=>[]
 | p :: r=>(getO H p).ids++objIds H r
def lP (H:AH):List Nat->List Nat
 | []=>[]
 | p :: r=>(getO H p).rids++lP H r
def du (fr:AFr):List Nat->AFr
 | []=>[]
 | t :: r=>match lookA fr t with
  | some v=>(t,v) :: du fr r
  | none=>du fr r
def maskH (σ:List Nat):Nat->AH->AH
 | _,[]=>[]
 | p,o :: r=>(bif cd p σ then o else .loc) :: maskH σ (p+1) r
def disj (a:List Nat):List Nat->Bool
 | []=>true
 | i :: r=>!cd i a && disj a r
def nY (n:Nat):List Nat->Bool
 | []=>true
 | i :: r=>Nat.blt i n && nY n r
inductive Ent
 | fn (k:Int) (a:AV)
 | da (s:Sh) (k:Int) (x:den s)
def Ent.key:Ent->Int
 | .fn k _=>k
 | .da _ k _=>k
def Ent.put:Ent->AO->AO
 | .fn k a,.mapf l=>.mapf ((k,a) :: l)
 | .da s k x,.mapo b f=>if h:b = s then .mapo s fun j=>if j=k then some x else (h ▸ f:Int->Option (den s)) j else .mapo b f
 | _,o=>o
def killO (a:List Nat) (o:AO):AO:=match a with
 | []=>o
 | _ :: _=>o.mapA (AV.cr a)
def Qn (a:List Nat) (fr:AFr):AFr:=match a with
 | []=>fr
 | _ :: _=>ji (AV.cr a) fr
structure RC where
 on:Bool
 dst:Option Nat
 v:TV
 U:List Nat:=[]
 σ:List Nat:=[]
 ch:List Nat:=[]
 mv:List Nat:=[]
 base:Nat
 res:AH
 ent:Option Ent:=none
 ob:List Prop:=[]
 fc:List Prop:=[]
 fr0:AFr
 H0:AH
def RC.new (r:RC):List Nat:=iota r.base (r.res.length - r.base)
def lj (b c:List Nat) (e:Option Ent) (a:AH):Nat->AH->AH
 | _,[]=>[]
 | p,o :: r=>(bif cd p b then (match e with
  | some e=>e.put o
  | none=>getO a p) else killO c o) :: lj b c e a (p+1) r
def RC.app (r:RC) (q:AFr × AH):AFr × AH:=(qC r.dst r.v (Qn r.mv q.1),lj r.ch r.mv r.ent r.res 0 q.2++r.res.drop r.base)
def Ja (a:List Nat):Nat->AH->List Nat
 | _,[]=>[]
 | p,o :: r=>bif disj a o.rids then Ja a (p+1) r else p :: Ja a (p+1) r
def QH (a:List Nat):AFr->List Nat
 | []=>[]
 | (t,v) :: r=>bif disj a v.rids then QH a r else t :: QH a r
def WE (d:Option Nat) (l:List Nat):Bool:=match d with
 | some d=>cd d l
 | none=>false
def okD (a b:RC):Bool:=!WE b.dst a.U && disj b.ch a.σ && disj b.ch a.new && disj b.new a.σ && disj b.new a.ch && (match b.mv with
 | []=>true
 | mv=>disj (Ja mv 0 b.H0) a.σ && disj (QH mv b.fr0) a.U && disj mv (oK a.fr0 a.U) && disj mv (lP a.H0 a.σ) && disj mv a.v.rids && disj mv (lP a.res a.ch) && disj mv (lP a.res a.new) && (match a.ent with
  | some (.fn _ x)=>disj mv x.rids
  | _=>true))
def okI (a b:RC):Bool:=match a.ent,b.ent with
 | some e,some c=>disj a.ch b.ch || !decide (e.key=c.key)
 | _,_=>disj a.ch b.ch
def bitN (m j:Nat):Bool:=Nat.beq (Nat.land (Nat.shiftRight m j) 1) 1
def gV (a:List Nat):List Nat->Nat
 | []=>0
 | j :: r=>Nat.lor (Nat.lor (Nat.shiftLeft 1 j) (a.getD j 0)) (gV a r)
def iR (a:List Nat):List Oper->List Nat
 | []=>a
 | o :: r=>iR (a++[gV a (fJ o)]) r
def Hc (m:Nat) (b:RC):Nat->List RC->Bool
 | _,[]=>true
 | i,a :: r=>(bitN m i || (okD a b && okD b a && okI a b)) && Hc m b (i+1) r
def xu (b:RC):List RC->Bool
 | []=>true
 | a :: r=>(match a.dst,b.dst with
  | some i,some j=>!Nat.beq i j
  | _,_=>true) && xu b r
def DD (a:List Nat):Nat->List RC->List RC->Bool
 | _,_,[]=>true
 | j,done,b :: r=>Nat.beq b.base b.H0.length && Nat.ble b.base b.res.length && nY b.base (slotIds b.fr0 b.U) && nY b.base (objIds b.H0 b.σ) && nY b.base b.σ && nY b.base b.ch && xu b done && (match b.ent with
   | some _=>(match b.mv,b.ch with
    | [],[_]=>true
    | _,_=>false) && Nat.beq b.res.length b.base
   | none=>true) && Hc (a.getD j 0) b 0 done && DD a (j+1) (done++[b]) r
def rm:Nat->List Oper->Bool
 | _,[]=>true
 | i,o :: r=>nY i (fJ o) && rm (i+1) r
def okR (l:List Oper) (a:List RC):Bool:=rm 0 l && Nat.beq a.length l.length && DD (iR [] l) 0 [] a
def Cp (m:Nat):Nat->List RC->List Prop
 | _,[]=>[]
 | i,a :: r=>(bif bitN m i then a.fc else [])++Cp m (i+1) r
def aip (a:List Prop):List Prop->List Prop
 | []=>[]
 | ob=>[kL a (jw ob)]
def obR (a:List RC):List Nat->List RC->List Prop
 | m :: c,b :: r=>aip (Cp m 0 a) b.ob++obR a c r
 | _,_=>[]
def fcR:List RC->List Prop
 | []=>[]
 | a :: r=>a.fc++fcR r
def uL:AFr->List Nat->AFr
 | [],_=>[]
 | (t,v) :: r,l=>bif cd t l then uL r l else (t,v) :: uL r (t :: l)
def jg:Op->List Nat
 | .store _ x v=>Operand.sl x++Operand.sl v
 | .insert _ x y z=>Operand.sl x++Operand.sl y++Operand.sl z
 | .mapUpdate _ x y z=>Operand.sl x++Operand.sl y++Operand.sl z
 | .lookup _ x y _=>Operand.sl x++Operand.sl y
 | .box _ x=>Operand.sl x
 | .makeSlice _ x y=>Operand.sl x++Operand.sl y
 | .buildSlice _ _ l=>slP l.toList
 | op=>Dn op
def WM (fr:AFr) (H:AH):Op->List Nat
 | .move _=>[]
 | .assign _=>[]
 | .extract _ _=>[]
 | .nilCheck _=>[]
 | .makeFunc _ _ _=>[]
 | .fieldAddr _ _ _=>[]
 | .build _ _=>[]
 | .unOp _ _ _=>[]
 | .binOp _ _ _ _ _=>[]
 | .box _ _=>[]
 | .alloc _=>[]
 | .call c=>match c.callee with
  | .value _=>match gX fr c with
   | some (_,l)=>tG H l
   | none=>[]
  | _=>slotIds fr (jg (.call c))
 | op=>slotIds fr (jg op)
def ah4 (fr:AFr) (H:AH):Op->List (List Nat × List Nat)
 | .store _ x v=>match dh fr x,dh fr v with
  | some (.one (.c (.ptr id _))),_=>[([id],[])]
  | some (.one (.c (.elp id _ _))),some (.one b)=>[(id :: eU b.cells,eU b.cells)]
  | _,_=>[]
 | .box _ _=>[([],[])]
 | .buildSlice _ _ l=>match xr fr l.toList with
  | some l=>[(Ds l,Ds l)]
  | none=>[]
 | .alloc _=>[([],[])]
 | .makeMap _ _=>[([],[])]
 | .makeSlice _ _ _=>[([],[])]
 | .slice _ x none (some _) none=>match dh fr x with
  | some (.one (.c (.own id)))=>[([id],[id])]
  | _=>[]
 | .call c=>match c.callee with
  | .builtin .copy=>match c.args.toList with
   | [x,_]=>match dh fr x with
    | some (.one (.c (.own id)))=>[([id],[])]
    | _=>[]
   | _=>[]
  | .builtin .append=>match c.args.toList with
   | [x,_]=>match dh fr x with
    | some (.one (.c (.own id)))=>[([id],[id])]
    | some (.one (.c (.sub id _ _)))=>[([id],[id])]
    | _=>[([],[])]
   | _=>[]
  | .value _=>match gX fr c with
   | some (_,l)=>[([],[]),(tG H (Ic H l),tG H (Ic H l)),(tG H l,tG H l)]
   | none=>[]
  | _=>[]
 | _=>[]
structure XR where
 v:TV
 ch:List Nat
 mv:List Nat
 res:AH
 ob:List Prop
 fc:List Prop
def SP (a:AFr) (b:AH) (c:Op):List (List Nat × List Nat)->Option XR
 | []=>none
 | (d,e) :: r=>match sv T O ⟨fun i=>cd i d && ro.wr i,fun i=>cd i e && ro.mv i⟩ a b c with
  | some q=>some ⟨q.v,d,e,q.H,q.ob,q.fc⟩
  | none=>SP a b c r
def Jn (c:AFr) (d:AH):Op->Option PR
 | .buildSlice t n a=>match a_ T t,xr c a.toList with
  | some ⟨.sl _ (some s),_,_⟩,some l=>match Ds l,rN s d l 0 with
   | [],some b=>match Nat.beq b.length n && Nat.ble (n*s.size) 16777216 && Nat.ble (n*s.bytes) 140737488355328 && Nat.blt 0 n with
    | true=>some ⟨one (.fz s b),[],[]⟩
    | false=>none
   | _,_=>none
  | _,_=>none
 | _=>none
def Zi (a:AFr) (b:AH) (c:Op):Option PR:=match Ku O with
 | true=>none
 | false=>Jn T a b c
def aao {a:AFr} {b:AH} {c:Op} {r:PR} (h:Zi T O a b c=some r):Jn T a b c=some r:=by
 unfold Zi at h; split at h
 ·cases h
 exact h
def adI (fr:AFr) (H:AH) (o:Oper):Option XR:=
 match du fr (jg o.op),maskH (WM fr H o.op) 0 H with
 | fm,a=>match Zi T O fm a o.op with
  | some r=>some ⟨r.v,[],[],a,r.ob,r.fc⟩
  | none=>match pv T O a fm o.op with
   | some r=>some ⟨r.v,[],[],a,r.ob,r.fc⟩
   | none=>match UP o with
    | true=>SP T O ro fm a o.op (ah4 fr H o.op)
    | false=>none
def aaY (fr:AFr) (H:AH):Op->Option (Nat × Ent)
 | .insert t x y z=>match a_ T t,dh fr x,dh fr y,dh fr z with
  | some ⟨.mp _ _ (some s),_,_⟩,some (.one (.c (.mq id))),some (.one (.c (.int k))),some (.one v)=>match getO H id,eU v.cells,gi s v.cells with
   | .mapo b _,[],some d=>match decide (b = s) && nM s v && ro.wr id with
    | true=>some (id,.da s k d)
    | false=>none
   | _,_,_=>none
  | some ⟨.mp _ _ none,_,_⟩,some (.one (.c (.mq id))),some (.one (.c (.int k))),some (.one (.c a))=>match getO H id,ro.wr id with
   | .mapf _,true=>some (id,.fn k a)
   | _,_=>none
  | _,_,_,_=>none
 | _=>none
def aa2:List RC->Nat->Bool
 | [],_=>true
 | r :: _,0=>r.on
 | _ :: l,i+1=>aa2 l i
def tg (l:List Oper) (fr:AFr) (a:List RC):Option (Nat × Bool)->Option Bool
 | none=>some true
 | some (j,w)=>match idst l j with
  | some t=>match aa2 a j,lookA fr t with
   | false,_=>some false
   | true,some (.one (.c (.bool (.lit b))))=>some (b == w)
   | _,_=>none
  | none=>none
def ic (l:List Oper):Option (Nat × Bool)->List Nat
 | none=>[]
 | some (j,_)=>match idst l j with
  | some t=>[t]
  | none=>[]
def UO (i:Nat) (d:Option Nat):List Oper->Bool
 | []=>false
 | o :: r=>(match o.guard with
  | some (j,_)=>Nat.beq j i
  | none=>false) || (match d with
  | some d=>oP d o
  | none=>false) || UO i d r
def split (g:Bool) (v:TV) (K:TV->Prop):Prop:=match g,qA (some v) with
 | true,some (.lit b)=>K (one (.bool (.lit b)))
 | true,some e=>(e.p true->K (one (.bool (.lit true))))/\(e.p false->K (one (.bool (.lit false))))
 | _,_=>K v
def Rk (l:List Oper) (K:AFr->AH->Prop):Nat->Nat->List Oper->AFr->AH->List RC->Prop
 | 0,_,_,_,_,_=>False
 | _+1,_,[],fr,H,d=>match okR l d with
  | true=>uB (obR d (iR [] l) d) (kL (fcR d) (K (uL fr []) H))
  | false=>False
 | n+1,i,o :: a,fr,H,d=>match tg l fr d o.guard with
  | some false=>match RC.mk false o.dst .un (ic l o.guard) [] [] [] H.length (maskH [] 0 H) none [] [] fr H with
   | rc=>Rk l K n (i+1) a (rc.app (fr,H)).1 (rc.app (fr,H)).2 (d++[rc])
  | some true=>match o.op with
   | .pick (.tmp t) x y=>match lookA fr t with
    | some (.one (.c (.bool (.lit b))))=>match dh fr (cond b x y) with
     | some v=>split (UO i o.dst a) v fun v=>match RC.mk true o.dst v (t :: Operand.sl (cond b x y)++ic l o.guard) [] [] [] H.length (maskH [] 0 H) none [] [] fr H with
      | rc=>Rk l K n (i+1) a (rc.app (fr,H)).1 (rc.app (fr,H)).2 (d++[rc])
     | none=>False
    | _=>False
   | op=>match aaY T ro fr H op with
    | some (id,e)=>match RC.mk true none .un (jg op++ic l o.guard) [] [id] [] H.length (maskH [] 0 H) (some e) [] [] fr H,o.dst with
     | rc,none=>Rk l K n (i+1) a (rc.app (fr,H)).1 (rc.app (fr,H)).2 (d++[rc])
     | _,_=>False
    | none=>match WM fr H op with
     | σ=>match mapA T (maskH σ 0 H) (du fr (jg op)) op with
      | some m=>xi m.k m.ok (fun v=>split (UO i o.dst a) v fun v=>match RC.mk true o.dst v (jg op++ic l o.guard) σ [] [] H.length (maskH σ 0 H) none [] [] fr H with
       | rc=>Rk l K n (i+1) a (rc.app (fr,H)).1 (rc.app (fr,H)).2 (d++[rc])) m.l
      | none=>match adI T O ro fr H o with
       | some r=>split (UO i o.dst a) r.v fun v=>match RC.mk true o.dst v (jg op++ic l o.guard) σ r.ch r.mv H.length r.res none r.ob r.fc fr H with
        | rc=>Rk l K n (i+1) a (rc.app (fr,H)).1 (rc.app (fr,H)).2 (d++[rc])
       | none=>False
  | none=>False
def ZC (l:List Oper) (K:AFr->AH->Prop) (fr:AFr) (H:AH):Prop:=Rk T O ro l K (l.length+1) 0 l fr H []
def ab1 (step:(Exit->AFr->AH->Prop)->AFr->AH->Prop) (K:Exit->AFr->AH->Prop) (l:List Nat):Nat->AFr->AH->Prop
 | 0,_,_=>False
 | n+1,fr,H=>step (fun e fr H=>match e with
  | .normal=>ab1 step K l n fr H
  | e=>K e fr H) (du fr l) H
def jb (d:Nat) (L:List (Nat × LI)):Code->(Exit->AFr->AH->Prop)->AFr->AH->Prop
 | .skip,K,fr,H=>K .normal fr H
 | .seq x y,K,fr,H=>jb d L x (fun e fr H=>match e with
  | .normal=>jb d L y K fr H
  | e=>K e fr H) fr H
 | .cond c x y,K,fr,H=>match qA (dh fr c) with
  | some (.lit true)=>jb d L x K fr H
  | some (.lit false)=>jb d L y K fr H
  | some e=>(e.p true->jb d L x K fr H)/\(e.p false->jb d L y K fr H)
  | none=>False
 | .block i c,K,fr,H=>jb d L c (fun e fr H=>match e with
  | .exit j=>bif Nat.beq j i then K .normal fr H else K (.exit j) fr H
  | e=>K e fr H) fr H
 | .loop c,K,fr,H=>match Yk L (lD c) with
  | some I=>match I.un with
   | some (n,l)=>ab1 (jb d L c) K l n fr H
   | none=>∃ f,jw (Dh T d fr H (I.F f))/\I.J f/\I.aO f f (∀ s,I.J s->I.imp f s (jb d L c (fun e fr H=>match e with
    | .normal=>∃ g,jw (Dh T d fr H (I.F g))/\I.J g /\ I.aO f g (I.μ g < I.μ s)
    | e=>K e fr H) (I.F s).1 (I.F s).2))
  | none=>False
 | .exit i,K,fr,H=>K (.exit i) fr H
 | .ret,K,fr,H=>K .ret fr H
 | .scope c,K,fr,H=>jb d L c (fun e fr H=>match e with
  | .goto _=>False
  | e=>K e fr H) fr H
 | .label _,K,fr,H=>K .normal fr H
 | .region _ b false,K,fr,H=>wpOps T O ro b.toList (K .normal) (2*b.size+1) b.toList fr H
 | .region _ b true,K,fr,H=>
  match Qj T O H fr b.toList [] 0 with
  | k=>match xe T O H fr (b.toList.take k) [] with
   | some h=>match mo b.toList (h.map fun a=>⟨a.deps,[],fun _ _=>True⟩) (fr.map (·.1)) k with
    | true=>uB (ZA h) (kL (VW h) (wpOps T O ro b.toList (K .normal) (2*b.size+1) (b.toList.drop k) (zy h fr) H))
    | false=>ZC T O ro b.toList (K .normal) fr H
   | none=>ZC T O ro b.toList (K .normal) fr H
 | _,_,_,_=>False
def WU (T:List (Nat × TI)) (H:AH) (t:TypeId) (p:AV):Option PR:=match qV T H t p with
 | some r=>some r
 | none=>EV T H t p
def uA (T:List (Nat × TI)) (fr:AFr) (H:AH):List ResultVar->Option (List TV1)
 | []=>some []
 | .tmp t :: r=>match lookA fr t,uA T fr H r with
  | some (.one a),some l=>some (a :: l)
  | _,_=>none
 | .cell a t :: r=>match lookA fr a,uA T fr H r with
  | some (.one (.c p)),some l=>match WU T H t p with
   | some ⟨.one v,[],_⟩=>some (v :: l)
   | _=>none
  | _,_=>none
def tX:Nat->List TV1->AFr
 | _,[]=>[]
 | k,v :: r=>(k,.one v) :: tX (k+1) r
def Xx (L:List (Nat × LI)) (b:Func) (args:List TV1) (H:AH) (d:List TV1):Prop:=
 match b.body with
 | some c=>kL (JV args) (jb T O (gF H.length) H.length L c (fun e fr a=>match e with
  | .ret=>match uA T fr a b.results.toList with
   | some l=>jw (Cs a a.length (iota 0 H.length) l d)
   | none=>False
  | .normal=>match uA T fr a b.results.toList with
   | some l=>jw (Cs a a.length (iota 0 H.length) l d)
   | none=>False
  | _=>False) (tX 0 args) H)
 | none=>False
end Go.Proofs.YticbaadnibdbkaaGreat
namespace Go.Proofs.YticbaadnibdbkaaGreat
open Go.RowKit
structure Cx where
 shp:TypeId->Option Sh
 B0:Nat
 S:Nat->Prop
 w:World
def Cx.at (c:Cx) (s:Sh) (b:Nat):Prop:=c.S b/\(b<c.B0\/∃ a t fr,c.w.heap[b]? = some (.cells a t fr)/\c.shp t=some s/\(s = .int->fr=(0,0)))
def LiAt (c:Cx) (d:Bool) (a:Option Addr) (e:List Int):Prop:=
 e=[]\/∃ A,a=some A/\(d=true->c.S A.block/\c.B0<=A.block/\∃ b t fr,c.w.heap[A.block]? = some (.cells b t fr)/\c.shp t=some .int/\fr=(0,0))/\(d=false->(A.block<c.B0/\A.block<c.w.heap.size)\/c.at .int A.block)/\CellsAt c.w A (e.map (.int .i64))
mutual
inductive Pd (c:Cx):AV->Value->Prop
 | int {n:Int}:I64 n->Pd c (.int n) (.int .i64 n)
 | u8 {b:UInt8}:Pd c (.u8 b) (.int .u8 (b.toNat:Int))
 | u64 {n:Nat}:n<18446744073709551616->Pd c (.u64 n) (.int .u64 (n:Int))
 | bool {e:BE}:Pd c (.bool e) (.bool e.val)
 | str {s:Str}:s.b.length<=140737488355328->Pd c (.str s) s.val
 | em {b:Bool} {a:Option Addr}:b=a.isNone->Pd c (.em b) (.slice a 0 0)
 | fz {s:Sh} {xs:List (den s)} {a:Option Addr} {k:Nat} {cells:List Value}:xs.length<=k->k<=maxLen->xs.length*s.bytes<=140737488355328->Pds c (xs.flatMap (cellsOf s)) cells ->
   (xs=[]\/∃ A,a=some A/\c.at s A.block/\CellsAt c.w A cells)->Pd c (.fz s xs) (.slice a xs.length k)
 | li {nw:Bool} {xs:List Int} {a:Option Addr} {k:Nat}:xs.length<=k->k<=maxLen->xs.length*8<=140737488355328->(∀ n ∈ xs,I64 n)->LiAt c nw a xs->Pd c (.li nw xs) (.slice a xs.length k)
inductive Pds (c:Cx):List AV->List Value->Prop
 | nil:Pds c [] []
 | cons {a:AV} {v:Value} {r:List AV} {vs:List Value}:Pd c a v->Pds c r vs->Pds c (a :: r) (v :: vs)
end
def Pds.all {c:Cx}:∀ {a:List AV} {b:List Value},Pds c a b->All2 (Pd c) a b
 | [],_,h=>by cases h; exact .nil
 | _ :: _,_,h=>by cases h with | cons d e=>exact .cons d e.all
def Pds.of {c:Cx}:∀ {a:List AV} {b:List Value},All2 (Pd c) a b->Pds c a b
 | [],_,h=>by cases h; exact .nil
 | _ :: _,_,h=>by cases h with | cons d e=>exact .cons d (Pds.of e)
structure Cx.le (c c':Cx):Prop where
 shp:c'.shp=c.shp
 B0:c'.B0=c.B0
 S:∀ b,c.S b->c'.S b/\c'.w.heap[b]? = c.w.heap[b]?
 lo:∀ b,b<c.B0->b<c.w.heap.size->c'.w.heap[b]? = c.w.heap[b]?
def Cx.low (c:Cx):Cx:=⟨c.shp,c.B0,fun b=>b<c.B0/\b<c.w.heap.size,c.w⟩
variable {b:Nat}
theorem mQ {w a:World} (h:a.heap[b]? = w.heap[b]?) (c:b<w.heap.size):b<a.heap.size:=by grind
def Cx.le.low {c d:Cx} (h:c.le d):c.low.le d.low:=⟨h.shp,h.B0,fun b a=>⟨⟨by rw [h.B0]; exact a.1,mQ (h.lo b a.1 a.2) a.2⟩,h.lo b a.1 a.2⟩,h.lo⟩
def Cx.le.refl (c:Cx):c.le c:=⟨rfl,rfl,fun _ h=>⟨h,rfl⟩,fun _ _ _=>rfl⟩
def Cx.le.trans {a b c:Cx} (h:a.le b) (k:b.le c):a.le c:=
 ⟨k.shp.trans h.shp,k.B0.trans h.B0,fun x d=>⟨(k.S x (h.S x d).1).1,((k.S x (h.S x d).1).2).trans (h.S x d).2⟩,fun x d e=>(k.lo x (by rw [h.B0]; exact d) (mQ (h.lo x d e) e)).trans (h.lo x d e)⟩
variable {c':Cx}
theorem Cx.le.at_ {c:Cx} (h:c.le c') {s:Sh} (k:c.at s b):c'.at s b:=by
 refine ⟨(h.S b k.1).1,?_⟩;rcases k.2 with a | ⟨d,t,fr,a,e,f⟩
 ·left; rw [h.B0]; exact a
 right; exact ⟨d,t,fr,((h.S b k.1).2).trans a,by rw [h.shp]; exact e,f⟩
def LiAt.le {c c':Cx} {f:Bool} {a:Option Addr} {j:List Int} (k:LiAt c f a j) (h:c.le c'):LiAt c' f a j:=by
 rcases k with k | ⟨A,m,d,l,g⟩
 ·exact .inl k
 refine .inr ⟨A,m,fun e=>⟨(h.S _ (d e).1).1,by rw [h.B0]; exact (d e).2.1,?_⟩,fun e=>(l e).imp (fun k=>⟨by rw [h.B0]; exact k.1,mQ (h.lo _ k.1 k.2) k.2⟩) fun k=>h.at_ k,?_⟩
 ·obtain ⟨i,t,fr,n,o,p⟩:=(d e).2.2;exact ⟨i,t,fr,((h.S _ (d e).1).2).trans n,by rw [h.shp]; exact o,p⟩
 cases f
 ·rcases l rfl with k | k
  ·exact g.keep (h.lo _ k.1 k.2)
  exact g.keep (h.S _ k.1).2
 exact g.keep (h.S _ (d rfl).1).2
theorem rv {c:Cx} (h:c.le c'):(∀ a v,Pd c a v->Pd c' a v)/\(∀ f j,Pds c f j->Pds c' f j):=by
 refine ⟨fun a v q=>?_,fun f j q=>?_⟩
 ·refine @Pd.rec c (fun a v _=>Pd c' a v) (fun f j _=>Pds c' f j) ?_ ?_ ?_ ?_ ?_ ?_ ?_ ?_ ?_ ?_ a v q
  ·intro n d; exact .int d
  ·intro b; exact .u8
  ·intro n d; exact .u64 d
  ·intro e; exact .bool
  ·intro s d; exact .str d
  ·intro b a d; exact .em d
  ·intro s t a k m d g o _ l p;refine .fz d g o p ?_;rcases l with l | ⟨A,u,i,w⟩
   ·grind
   exact .inr ⟨A,u,h.at_ i,w.keep (h.S _ i.1).2⟩
  ·intro y t a k d g o x l; exact .li d g o x (l.le h)
  ·exact .nil
  intro a v r j _ _ d g; exact .cons d g
 induction f generalizing j with
 | nil=>cases q; exact .nil
 | cons a r p=>
  cases q with
  | cons d g=>
   refine .cons ?_ (p _ g);refine @Pd.rec c (fun a v _=>Pd c' a v) (fun f j _=>Pds c' f j) ?_ ?_ ?_ ?_ ?_ ?_ ?_ ?_ ?_ ?_ _ _ d
   ·intro n d; exact .int d
   ·intro b; exact .u8
   ·intro n d; exact .u64 d
   ·intro e; exact .bool
   ·intro s d; exact .str d
   ·intro b a d; exact .em d
   ·intro s t a k m d g o _ l p;refine .fz d g o p ?_;rcases l with l | ⟨A,u,i,w⟩
    ·grind
    exact .inr ⟨A,u,h.at_ i,w.keep (h.S _ i.1).2⟩
   ·intro y t a k d g o x l; exact .li d g o x (l.le h)
   ·exact .nil
   intro a v r j _ _ d g; exact .cons d g
variable {a:AV}
def Pd.carry {c:Cx} {v:Value} (h:Pd c a v) (k:c.le c'):Pd c' a v:=(rv k).1 _ _ h
variable {asx:List AV} {vs:List Value}
def Pds.carry {c:Cx} (h:Pds c asx vs) (k:c.le c'):Pds c' asx vs:=(rv k).2 _ _ h
theorem Pd.one {c:Cx} {v:Value} (h:Pd c a v):v.oneCell' = true:=by cases h <;> simp [Value.oneCell',Str.val]
def Pds.Md {c:Cx}:∀ {asx:List AV} {vs:List Value},Pds c asx vs->∀ u ∈ vs,u.oneCell' = true
 | [],_,h=>by cases h; simp
 | _ :: _,_,h=>by
  cases h with
  | cons d e=>
   intro u hu;rcases acw.1 hu with rfl | hu
   ·exact d.one
   exact e.Md u hu
theorem Pds.length {c:Cx} {asx:List AV} {vs:List Value} (h:Pds c asx vs):asx.length=vs.length:=h.all.length
def Pds.append {c:Cx}:∀ {asx d:List AV} {vs e:List Value},Pds c asx vs->Pds c d e->Pds c (asx++d) (vs++e)
 | [],_,_,_,h,k=>by cases h; exact k
 | _ :: _,_,_,_,h,k=>by cases h with | cons f g=>exact .cons f (g.append k)
def Pds.take {c:Cx} {asx:List AV} {vs:List Value} (h:Pds c asx vs) (n:Nat):Pds c (asx.take n) (vs.take n):=.of (h.all.take n)
def Pds.drop {c:Cx} {asx:List AV} {vs:List Value} (h:Pds c asx vs) (n:Nat):Pds c (asx.drop n) (vs.drop n):=.of (h.all.drop n)
def cY (s:Sh) (x:den s):(cellsOf s x).length=s.size:=by
 cases s <;> try rfl
 rename_i t;cases t <;> rfl
def size_pos (s:Sh):0<s.size:=by
 cases s with
 | nm t=>cases t <;> decide
 | _=>simp [Sh.size]
def gN (s:Sh):0<s.bytes:=by
 cases s with
 | nm t=>cases t <;> decide
 | _=>simp [Sh.bytes]
theorem bU {s:Sh}:∀ (c:List (den s)),(c.flatMap (cellsOf s)).length=c.length*s.size
 | []=>by simp
 | x :: r=>by rw [List.flatMap_cons,List.length_append,bU r,cY,List.length_cons,ag8]; omega
theorem pq {s:Sh}:∀ (c:List (den s)) (i:Nat),(c.flatMap (cellsOf s)).drop (i*s.size)=(c.drop i).flatMap (cellsOf s)
 | [],i=>by simp
 | x :: r,0=>by simp
 | x :: r,i+1=>by
  rw [List.flatMap_cons,List.drop_append,List.drop_eq_nil_of_le (by rw [cY,ag8]; omega),cY,show (i+1)*s.size - s.size=i*s.size by rw [ag8]; omega,pq r i];simp
theorem wJ {s:Sh}:∀ (c:List (den s)) (i:Nat),(c.flatMap (cellsOf s)).take (i*s.size)=(c.take i).flatMap (cellsOf s)
 | [],i=>by simp
 | x :: r,0=>by simp
 | x :: r,i+1=>by
  rw [List.flatMap_cons,List.take_append,List.take_of_length_le (by rw [cY,ag8]; omega),cY,show (i+1)*s.size - s.size=i*s.size by rw [ag8]; omega,wJ r i];simp
variable {i:Nat}
def nH {s:Sh} {c:List (den s)} {x:den s} (h:c[i]? = some x):((c.flatMap (cellsOf s)).drop (i*s.size)).take s.size=cellsOf s x:=by
 rw [pq];have d:i<c.length:=(aaw.1 h).1;rw [afP d,List.flatMap_cons,afQ (by rw [cY]; omega)];have e:c[i]=x:=by rw [List.getElem?_eq_getElem d] at h; exact acD h
 rw [e,List.take_of_length_le (by rw [cY]; omega)]
theorem AI {s:Sh} {c:List (den s)} {x y:den s} (h:c[i]? = some x):(c.set i y).flatMap (cellsOf s)=(c.take i).flatMap (cellsOf s)++cellsOf s y++(c.drop (i+1)).flatMap (cellsOf s):=by
 have d:i<c.length:=(aaw.1 h).1;have e:c.set i y=c.take i++y :: c.drop (i+1):=by
  rw [List.set_eq_take_append_cons_drop,if_pos d]
 grind
def qm (s:Sh) (x:den s):∀ a ∈ cellsOf s x,a.plain=true:=by
 cases s with
 | nm t=>cases t <;> simp [cellsOf,NT.cells,AV.plain]
 | _=>simp [cellsOf,AV.plain]
section
variable {c:Cx} {a:AV} {v:Value}
def AV.aiX {n:Int} (h:a.bd=some n):a = .int n:=by cases a <;> simp [AV.bd] at h; rw [h]
def AV.aga {n:UInt8} (h:a.Xq=some n):a = .u8 n:=by cases a <;> simp [AV.Xq] at h; rw [h]
def AV.aiA {n:U64} (h:a.WG=some n):a = .u64 n.n:=by cases a <;> simp [AV.WG] at h; rw [<- h]
def AV.agh {n:Str} (h:a.CN=some n):a = .str n:=by cases a <;> simp [AV.CN] at h; rw [h]
def Qd (c:Cx) (a:AV) (v:Value):Prop:=a.plain=true->Pd c a v
theorem Pd.bd {n:Int} (h:a.bd=some n) (k:Qd c a v):Pd c (.int n) v:=by obtain rfl:=AV.aiX h; exact k rfl
theorem Pd.Xq {n:UInt8} (h:a.Xq=some n) (k:Qd c a v):Pd c (.u8 n) v:=by obtain rfl:=AV.aga h; exact k rfl
theorem Pd.WG {n:U64} (h:a.WG=some n) (k:Qd c a v):Pd c (.u64 n.n) v:=by obtain rfl:=AV.aiA h; exact k rfl
theorem Pd.toX {x:Bool × List Int} (h:a.toX=some x) (k:Qd c a v):Pd c (.li x.1 x.2) v:=by
 cases a <;> simp [AV.toX] at h
 ·subst h;cases (k rfl) with
  | em d=>exact Pd.li (xs:=[]) (k:=0) (Nat.le_refl _) (af3 _) aa aa (.inl rfl)
 subst h; exact k rfl
theorem Pd.CN {n:Str} (h:a.CN=some n) (k:Qd c a v):Pd c (.str n) v:=by obtain rfl:=AV.agh h; exact k rfl
theorem Pd.uw {n:Bool} (h:a.uw=some n) (k:Qd c a v):Pd c (.bool (.atom n)) v:=by
 cases a <;> simp [AV.uw] at h;have k:=k rfl;cases k;rw [h];exact Pd.bool (e:=.atom n)
def Pd.yp {s:Sh} {b:Bool} (k:Pd c (.em b) v):Pd c (.fz s []) v:=by
 cases k with
 | em h=>exact Pd.fz (xs:=([]:List (den s))) (cells:=[]) (Nat.le_refl _) (by simp [maxLen]) aa .nil (.inl rfl)
theorem Pd.fS {s:Sh} {d:List (den s)} (h:a.fS s=some d) (k:Qd c a v):Pd c (.fz s d) v:=by
 cases a <;> simp [AV.fS] at h
 ·subst h; exact (k rfl).yp
 obtain ⟨rfl,h⟩:=h;subst h; exact k rfl
end
def Reply.aK {c:Cx} {x:Reply} (h:Reply.of asx=some x) (d:All2 (Qd c) asx vs):Pds c (NT.cells .reply x) vs:=by
 unfold Reply.of at h;split at h
 ·split at h
  ·rename_i e f;cases h;cases d with | cons g d=>cases d with | cons j d=>cases d; exact .cons (Pd.bd e g) ( .cons (Pd.bd f j) .nil)
  cases h
 cases h
def Sess.aK {c:Cx} {x:Sess} (h:Sess.of asx=some x) (d:All2 (Qd c) asx vs):Pds c (NT.cells .sess x) vs:=by
 unfold Sess.of at h;split at h
 ·split at h
  ·rename_i e f g j;cases h;cases d with | cons k d=>cases d with | cons l d=>cases d with | cons m d=>cases d with | cons n d=>cases d; exact .cons (Pd.bd e k) ( .cons (Pd.bd f l) ( .cons (Pd.bd g m) ( .cons (Pd.bd j n) .nil)))
  cases h
 cases h
def Opn.aK {c:Cx} {x:Opn} (h:Opn.of asx=some x) (d:All2 (Qd c) asx vs):Pds c (NT.cells .opn x) vs:=by
 unfold Opn.of at h;split at h
 ·split at h
  ·rename_i e f;cases h;cases d with | cons g d=>cases d with | cons j d=>cases d; exact .cons (Pd.bd e g) ( .cons (Pd.bd f j) .nil)
  cases h
 cases h
def Snap.aK {c:Cx} {x:Snap} (h:Snap.of asx=some x) (d:All2 (Qd c) asx vs):Pds c (NT.cells .snap x) vs:=by
 unfold Snap.of at h;split at h
 ·split at h
  ·rename_i e f g j k;cases h;cases d with | cons l d=>cases d with | cons m d=>cases d with | cons n d=>cases d with | cons o d=>cases d with | cons p d=>cases d; exact .cons (Pd.bd e l) ( .cons (Pd.bd f m) ( .cons (Pd.fS g n) ( .cons (Pd.uw j o) ( .cons (Pd.CN k p) .nil))))
  cases h
 cases h
def State.aK {c:Cx} {x:State} (h:State.of asx=some x) (d:All2 (Qd c) asx vs):Pds c (NT.cells .state x) vs:=by
 unfold State.of at h;split at h
 ·split at h
  ·rename_i e f g j k l m;cases h;cases d with | cons n d=>cases d with | cons o d=>cases d with | cons p d=>cases d with | cons q d=>cases d with | cons r d=>cases d with | cons s d=>cases d with | cons t d=>cases d; exact .cons (Pd.bd e n) ( .cons (Pd.bd f o) ( .cons (Pd.bd g p) ( .cons (Pd.bd j q) ( .cons (Pd.fS k r) ( .cons (Pd.fS l s) ( .cons (Pd.fS m t) .nil))))))
  cases h
 cases h
def Command.aK {c:Cx} {x:Command} (h:Command.of asx=some x) (d:All2 (Qd c) asx vs):Pds c (NT.cells .command x) vs:=by
 unfold Command.of at h;split at h
 ·split at h
  ·rename_i e f g j k l m n;cases h;cases d with | cons o d=>cases d with | cons p d=>cases d with | cons q d=>cases d with | cons r d=>cases d with | cons s d=>cases d with | cons t d=>cases d with | cons u d=>cases d with | cons v d=>cases d; exact .cons (Pd.bd e o) ( .cons (Pd.bd f p) ( .cons (Pd.bd g q) ( .cons (Pd.bd j r) ( .cons (Pd.bd k s) ( .cons (Pd.bd l t) ( .cons (Pd.fS m u) ( .cons (Pd.CN n v) .nil)))))))
  cases h
 cases h
def SnapE.aK {c:Cx} {x:SnapE} (h:SnapE.of asx=some x) (d:All2 (Qd c) asx vs):Pds c (NT.cells .snapE x) vs:=by
 unfold SnapE.of at h;split at h
 ·split at h
  ·rename_i e f g j k;cases h;cases d with | cons l d=>cases d with | cons m d=>cases d with | cons n d=>cases d with | cons o d=>cases d with | cons p d=>cases d; exact .cons (Pd.bd e l) ( .cons (Pd.bd f m) ( .cons (Pd.toX g n) ( .cons (Pd.uw j o) ( .cons (Pd.CN k p) .nil))))
  cases h
 cases h
def Field.aK {c:Cx} {x:Field} (h:Field.of asx=some x) (d:All2 (Qd c) asx vs):Pds c (NT.cells .field x) vs:=by
 unfold Field.of at h;split at h
 ·split at h
  ·rename_i e f g j;cases h;cases d with | cons k d=>cases d with | cons l d=>cases d with | cons m d=>cases d with | cons n d=>cases d; exact .cons (Pd.bd e k) ( .cons (Pd.bd f l) ( .cons (Pd.WG g m) ( .cons (Pd.fS j n) .nil)))
  cases h
 cases h
def Spec.aK {c:Cx} {x:Spec} (h:Spec.of asx=some x) (d:All2 (Qd c) asx vs):Pds c (NT.cells .spec x) vs:=by
 unfold Spec.of at h;split at h
 ·split at h
  ·rename_i e f g j k;cases h;cases d with | cons l d=>cases d with | cons m d=>cases d with | cons n d=>cases d with | cons o d=>cases d with | cons p d=>cases d; exact .cons (Pd.bd e l) ( .cons (Pd.bd f m) ( .cons (Pd.bd g n) ( .cons (Pd.uw j o) ( .cons (Pd.uw k p) .nil))))
  cases h
 cases h
def Entry.aK {c:Cx} {x:Entry} (h:Entry.of asx=some x) (d:All2 (Qd c) asx vs):Pds c (NT.cells .entry x) vs:=by
 unfold Entry.of at h;split at h
 ·split at h
  ·rename_i e f;cases h;cases d with | cons g d=>cases d with | cons j d=>cases d; exact .cons (Pd.bd e g) ( .cons (Pd.fS f j) .nil)
  cases h
 cases h
def Record.aK {c:Cx} {x:Record} (h:Record.of asx=some x) (d:All2 (Qd c) asx vs):Pds c (NT.cells .record x) vs:=by
 unfold Record.of at h;split at h
 ·split at h
  ·rename_i e f g j;cases h;cases d with | cons k d=>cases d with | cons l d=>cases d with | cons m d=>cases d with | cons n d=>cases d; exact .cons (Pd.bd e k) ( .cons (Pd.bd f l) ( .cons (Pd.bd g m) ( .cons (Pd.fS j n) .nil)))
  cases h
 cases h
def Letter.aK {c:Cx} {x:Letter} (h:Letter.of asx=some x) (d:All2 (Qd c) asx vs):Pds c (NT.cells .letter x) vs:=by
 unfold Letter.of at h;split at h
 ·split at h
  ·rename_i e f g j k l m n o p;cases h;cases d with | cons q d=>cases d with | cons r d=>cases d with | cons s d=>cases d with | cons t d=>cases d with | cons u d=>cases d with | cons v d=>cases d with | cons w d=>cases d with | cons y d=>cases d with | cons z d=>cases d with | cons A d=>cases d; exact .cons (Pd.bd e q) ( .cons (Pd.bd f r) ( .cons (Pd.bd g s) ( .cons (Pd.bd j t) ( .cons (Pd.bd k u) ( .cons (Pd.bd l v) ( .cons (Pd.bd m w) ( .cons (Pd.bd n y) ( .cons (Pd.uw o z) ( .cons (Pd.fS p A) .nil)))))))))
  cases h
 cases h
def Event.aK {c:Cx} {x:Event} (h:Event.of asx=some x) (d:All2 (Qd c) asx vs):Pds c (NT.cells .event x) vs:=by
 unfold Event.of at h;split at h
 ·split at h
  ·rename_i g j k l m n o p q r e;cases h;cases d with | cons s d=>cases d with | cons t d=>cases d with | cons u d=>cases d with | cons v d=>cases d with | cons w d=>cases d with | cons y d=>cases d with | cons z d=>cases d with | cons A d=>cases d with | cons B d=>cases d with | cons C d=>cases d with | cons f d=>cases d; exact .cons (Pd.bd g s) ( .cons (Pd.bd j t) ( .cons (Pd.bd k u) ( .cons (Pd.bd l v) ( .cons (Pd.bd m w) ( .cons (Pd.bd n y) ( .cons (Pd.bd o z) ( .cons (Pd.bd p A) ( .cons (Pd.bd q B) ( .cons (Pd.fS r C) ( .cons (Pd.CN e f) .nil))))))))))
  cases h
 cases h
def CallR.aK {c:Cx} {x:CallR} (h:CallR.of asx=some x) (d:All2 (Qd c) asx vs):Pds c (NT.cells .call x) vs:=by
 unfold CallR.of at h;split at h
 ·split at h
  ·rename_i s t u v w y z A B C e f g j k l;cases h;cases d with | cons D d=>cases d with | cons F d=>cases d with | cons G d=>cases d with | cons H d=>cases d with | cons I d=>cases d with | cons J d=>cases d with | cons K d=>cases d with | cons L d=>cases d with | cons N d=>cases d with | cons O d=>cases d with | cons m d=>cases d with | cons n d=>cases d with | cons o d=>cases d with | cons p d=>cases d with | cons q d=>cases d with | cons r d=>cases d; exact .cons (Pd.bd s D) ( .cons (Pd.bd t F) ( .cons (Pd.bd u G) ( .cons (Pd.bd v H) ( .cons (Pd.bd w I) ( .cons (Pd.bd y J) ( .cons (Pd.bd z K) ( .cons (Pd.bd A L) ( .cons (Pd.bd B N) ( .cons (Pd.bd C O) ( .cons (Pd.bd e m) ( .cons (Pd.fS f n) ( .cons (Pd.CN g o) ( .cons (Pd.uw j p) ( .cons (Pd.bd k q) ( .cons (Pd.bd l r) .nil)))))))))))))))
  cases h
 cases h
def Stable.aK {c:Cx} {x:Stable} (h:Stable.of asx=some x) (d:All2 (Qd c) asx vs):Pds c (NT.cells .stable x) vs:=by
 unfold Stable.of at h;split at h
 ·split at h
  ·rename_i e f g j;cases h;cases d with | cons k d=>cases d with | cons l d=>cases d with | cons m d=>cases d with | cons n d=>cases d; exact .cons (Pd.bd e k) ( .cons (Pd.bd f l) ( .cons (Pd.bd g m) ( .cons (Pd.fS j n) .nil)))
  cases h
 cases h
def Route.aK {c:Cx} {x:Route} (h:Route.of asx=some x) (d:All2 (Qd c) asx vs):Pds c (NT.cells .route x) vs:=by
 unfold Route.of at h;split at h
 ·split at h
  ·rename_i e f g j k;cases h;cases d with | cons l d=>cases d with | cons m d=>cases d with | cons n d=>cases d with | cons o d=>cases d with | cons p d=>cases d; exact .cons (Pd.bd e l) ( .cons (Pd.bd f m) ( .cons (Pd.bd g n) ( .cons (Pd.bd j o) ( .cons (Pd.bd k p) .nil))))
  cases h
 cases h
def Site.aK {c:Cx} {x:Site} (h:Site.of asx=some x) (d:All2 (Qd c) asx vs):Pds c (NT.cells .site x) vs:=by
 unfold Site.of at h;split at h
 ·split at h
  ·rename_i s t u v w y z A B C e f g j k l;cases h;cases d with | cons D d=>cases d with | cons F d=>cases d with | cons G d=>cases d with | cons H d=>cases d with | cons I d=>cases d with | cons J d=>cases d with | cons K d=>cases d with | cons L d=>cases d with | cons N d=>cases d with | cons O d=>cases d with | cons m d=>cases d with | cons n d=>cases d with | cons o d=>cases d with | cons p d=>cases d with | cons q d=>cases d with | cons r d=>cases d; exact .cons (Pd.uw s D) ( .cons (Pd.bd t F) ( .cons (Pd.bd u G) ( .cons (Pd.bd v H) ( .cons (Pd.bd w I) ( .cons (Pd.bd y J) ( .cons (Pd.bd z K) ( .cons (Pd.bd A L) ( .cons (Pd.fS B N) ( .cons (Pd.bd C O) ( .cons (Pd.bd e m) ( .cons (Pd.bd f n) ( .cons (Pd.bd g o) ( .cons (Pd.fS j p) ( .cons (Pd.fS k q) ( .cons (Pd.fS l r) .nil)))))))))))))))
  cases h
 cases h
def NOp.aK {c:Cx} {x:NOp} (h:NOp.of asx=some x) (d:All2 (Qd c) asx vs):Pds c (NT.cells .nop x) vs:=by
 unfold NOp.of at h;split at h
 ·split at h
  ·rename_i B C D F G H I J K L e f g j k l m n o p;cases h;cases d with | cons N d=>cases d with | cons O d=>cases d with | cons P d=>cases d with | cons Q d=>cases d with | cons S d=>cases d with | cons T d=>cases d with | cons U d=>cases d with | cons V d=>cases d with | cons W d=>cases d with | cons X d=>cases d with | cons q d=>cases d with | cons r d=>cases d with | cons s d=>cases d with | cons t d=>cases d with | cons u d=>cases d with | cons v d=>cases d with | cons w d=>cases d with | cons y d=>cases d with | cons z d=>cases d with | cons A d=>cases d; exact .cons (Pd.Xq B N) ( .cons (Pd.bd C O) ( .cons (Pd.bd D P) ( .cons (Pd.bd F Q) ( .cons (Pd.bd G S) ( .cons (Pd.bd H T) ( .cons (Pd.bd I U) ( .cons (Pd.bd J V) ( .cons (Pd.bd K W) ( .cons (Pd.bd L X) ( .cons (Pd.uw e q) ( .cons (Pd.fS f r) ( .cons (Pd.bd g s) ( .cons (Pd.bd j t) ( .cons (Pd.bd k u) ( .cons (Pd.bd l v) ( .cons (Pd.bd m w) ( .cons (Pd.bd n y) ( .cons (Pd.fS o z) ( .cons (Pd.CN p A) .nil)))))))))))))))))))
  cases h
 cases h
def Rest.aK {c:Cx} {x:Rest} (h:Rest.of asx=some x) (d:All2 (Qd c) asx vs):Pds c (NT.cells .rest x) vs:=by
 unfold Rest.of at h;split at h
 ·split at h
  ·rename_i e f;cases h;cases d with | cons g d=>cases d with | cons j d=>cases d; exact .cons (Pd.fS e g) ( .cons (Pd.Xq f j) .nil)
  cases h
 cases h
def Span.aK {c:Cx} {x:Span} (h:Span.of asx=some x) (d:All2 (Qd c) asx vs):Pds c (NT.cells .span x) vs:=by
 unfold Span.of at h;split at h
 ·split at h
  ·rename_i e f;cases h;cases d with | cons g d=>cases d with | cons j d=>cases d; exact .cons (Pd.bd e g) ( .cons (Pd.bd f j) .nil)
  cases h
 cases h
def VB {c:Cx} {t:NT} {x:t.den} (h:NT.of t asx=some x) (d:All2 (Qd c) asx vs):Pds c (t.cells x) vs:=by
 cases t
 ·exact Reply.aK h d
 ·exact Sess.aK h d
 ·exact Opn.aK h d
 ·exact Snap.aK h d
 ·exact State.aK h d
 ·exact Command.aK h d
 ·exact SnapE.aK h d
 ·exact Field.aK h d
 ·exact Spec.aK h d
 ·exact Entry.aK h d
 ·exact Record.aK h d
 ·exact Letter.aK h d
 ·exact Event.aK h d
 ·exact CallR.aK h d
 ·exact Stable.aK h d
 ·exact Route.aK h d
 ·exact Site.aK h d
 ·exact NOp.aK h d
 ·exact Rest.aK h d
 exact Span.aK h d
def aK {c:Cx} {s:Sh} {x:den s} (h:gi s asx=some x) (f:All2 (Qd c) asx vs):Pds c (cellsOf s x) vs:=by
 unfold gi at h;split at h
 ·cases h; cases f with | cons d e=>cases e; exact .cons (d rfl) .nil
 ·cases h; cases f with | cons d e=>cases e; exact .cons (d rfl) .nil
 ·cases h; cases f with | cons d e=>cases e; exact .cons (d rfl) .nil
 ·cases h; cases f with | cons d e=>cases e; exact .cons (Pd.uw rfl d) .nil
 ·cases h; cases f with | cons d e=>cases e; exact .cons (d rfl) .nil
 ·cases f with | cons d e=>cases e; exact .cons (Pd.toX h d) .nil
 ·cases f with | cons d e=>cases e; exact .cons (Pd.fS h d) .nil
 ·exact VB h f
 cases h
end Go.Proofs.YticbaadnibdbkaaGreat
namespace Go.Proofs.YticbaadnibdbkaaGreat
open Go.RowKit
inductive RE
 | no | blk (g:Nat) | row (g cap len z:Nat) | emp
def RE.g?:RE->Option Nat
 | .blk g=>some g
 | .row g _ _ _=>some g
 | _=>none
def live (a:List RE) (b:Nat):Prop:=∃ (i:Nat) (r:RE),a[i]? = some r/\r.g? = some b
structure Gl where
 shp:TypeId->Option Sh
 B0:Nat
 Z:Nat->Prop
def cx (G:Gl) (ρ:List RE) (w:World):Cx:=⟨G.shp,G.B0,fun b=>b<w.heap.size/\¬ live ρ b/\¬ G.Z b,w⟩
def dY (a:List RE) (q:Nat × Nat) (v:Value):Prop:=∃ g,a[q.1]? = some (.blk g)/\v = .pointer (some ⟨g,q.2,none⟩)
def oV:Value->Option Int
 | .int .i64 v=>some v
 | _=>none
def getM (k:Int):List MapEntry->Option Value
 | []=>none
 | e :: r=>if oV e.key=some k then some e.val else getM k r
def V1 (c:Cx) (s:Sh) (x:den s) (v:Value):Prop:=∃ a,Pds c (cellsOf s x) a/\((s.pn=true/\v = .agg a.toArray)\/(s.pn=false/\a=[v]))
def VO (c:Cx) (s:Sh):Option Value->Option (den s)->Prop
 | none,none=>True
 | some v,some x=>V1 c s x v
 | _,_=>False
def Vh (c:Cx) (g:Nat) (s:Sh) (f:Int->Option (den s)):Prop:=
 ∃ a n,c.w.heap[g]? = some (.map a n)/\(∀ e ∈ a.toList,∃ k,e.key = .int .i64 k)/\∀ k,VO c s (getM k a.toList) (f k)
def RF:Value->Option Str
 | .string s=>some ⟨s.data.toList⟩
 | _=>none
def xy (k:Str):List MapEntry->Option Value
 | []=>none
 | e :: r=>if RF e.key=some k then some e.val else xy k r
def ahW (l:List MapEntry) (f:Str->Option Int):Prop:=(∀ e ∈ l,∃ s,e.key = .string s)/\∀ k,xy k l=(f k).map (.int .i64)/\∀ n,f k=some n->I64 n
def KC.val:KC->Value
 | .i n=>.int .i64 n
 | .b v=>.bool v
 | .f g=>.func (.func g) #[] #[]
 | .nf=>.nilFunc
def KC.fv:KC->Value
 | .f g=>.func (.func g) #[] #[]
 | _=>.nilFunc
def aib (a:List MapEntry) (l:List (Int × List KC)):Prop:=(∀ e ∈ a,∃ k,e.key = .int .i64 k)/\∀ k,getM k a=(dO l k).map fun b=>.agg (b.map KC.val).toArray
def XK.rd (c:Cx):XK->List Value->Value->Prop
 | .er b,d,v=>d=[]/\((b=true/\v = .nilIface)\/(b=false/\∃ t u,v = .iface t u))
 | .pl,d,v=>∃ A,v = .slice (some A) d.length d.length/\d.length<=16777216/\c.S A.block/\CellsAt c.w A d
 | .pa,d,v=>∃ A,v = .pointer (some A)/\c.S A.block/\CellsAt c.w A d
 | .fm f,d,v=>d=[]/\∃ g a n,v = .map (some g)/\c.S g/\c.w.heap[g]? = some (.map a n)/\ahW a.toList f
 | .bp,d,v=>d.length=1/\(v = .pointer none\/d=[v])
 | .ff s e,d,v=>d=[]/\Pd c.low (.fz s e) v
 | .mx b e,d,v=>d=[]/\Pd (bif b then c else c.low) (.fz .int e) v
 | .w n,d,v=>d=[]/\n<4294967296/\v = .int .u32 n
 | .km l,d,v=>d=[]/\∃ g a n,v = .map (some g)/\c.S g/\c.w.heap[g]? = some (.map a n)/\aib a.toList l
 | .kf x,d,v=>d=[]/\v=x.fv
variable {us:List Value}
def XK.Xr {c a:Cx} {s:Sh} {b:List (den s)} {v:Value} (h:XK.rd c (.ff s b) us v) (d:c.low.le a.low):XK.rd a (.ff s b) us v:=⟨h.1,h.2.carry d⟩
def XK.rd.le {c l:Cx} {k:XK} {us:List Value} {v:Value} (h:k.rd c us v) (b:c.le l):k.rd l us v:=by
 cases k;case er=>exact h
 case pl=>obtain ⟨A,e,i,d,f⟩:=h; exact ⟨A,e,i,(b.S _ d).1,f.keep (b.S _ d).2⟩
 case pa=>obtain ⟨A,e,d,f⟩:=h; exact ⟨A,e,(b.S _ d).1,f.keep (b.S _ d).2⟩
 case fm=>obtain ⟨i,g,a,n,e,d,f,j⟩:=h; exact ⟨i,g,a,n,e,(b.S _ d).1,((b.S _ d).2).trans f,j⟩
 case bp=>exact h
 case w=>exact h
 case kf=>exact h
 case km=>obtain ⟨i,g,a,n,e,d,f,j⟩:=h; exact ⟨i,g,a,n,e,(b.S _ d).1,((b.S _ d).2).trans f,j⟩
 case ff=>exact XK.Xr h b.low
 case mx m o=>
  cases m
  ·exact ⟨h.1,h.2.carry b.low⟩
  exact ⟨h.1,h.2.carry b⟩
variable {ρ:List RE}
theorem XK.rd.one {c:Cx} {k:XK} {b:List (Nat × Nat)} {v:Value} (h:k.rd c us v) (d:All2 (dY ρ) b us):v.oneCell' = true:=by
 cases k;case er=>obtain ⟨_,⟨_,rfl⟩ | ⟨_,_,_,rfl⟩⟩:=h <;> rfl
 case pl=>obtain ⟨A,rfl,_⟩:=h; rfl
 case pa=>obtain ⟨A,rfl,_⟩:=h; rfl
 case fm=>obtain ⟨_,g,a,n,rfl,_⟩:=h; rfl
 case ff=>obtain ⟨_,h⟩:=h; cases h; rfl
 case mx=>obtain ⟨_,h⟩:=h; cases h; rfl
 case w=>obtain ⟨_,_,rfl⟩:=h; rfl
 case km=>obtain ⟨_,g,a,n,rfl,_⟩:=h; rfl
 case kf x=>obtain ⟨_,rfl⟩:=h; cases x <;> rfl
 case bp=>
  obtain ⟨_,rfl | rfl⟩:=h
  ·rfl
  cases d with | cons e _=>obtain ⟨_,_,rfl⟩:=e; rfl
def Rd (c:Cx) (ρ:List RE):AV->Value->Prop
 | .mq id,v=>∃ g,ρ[id]? = some (.blk g)/\v = .map (some g)
 | .own id,v=>(∃ g d len z,ρ[id]? = some (.row g d len z)/\v = .slice (some ⟨g,0,none⟩) len d)\/(ρ[id]? = some .emp/\∃ a,v = .slice a 0 0)
 | .sub id h len,v=>(∃ g d L z,ρ[id]? = some (.row g d L z)/\h+len<=L/\v = .slice (some ⟨g,h*z,none⟩) len (d - h))\/(ρ[id]? = some .emp/\h=0/\len=0/\∃ a,v = .slice a 0 0)
 | .ptr id o,v=>dY ρ (id,o) v
 | .np,v=>v = .pointer none
 | .elp id i o,v=>∃ g d len z,ρ[id]? = some (.row g d len z)/\i<len/\v = .pointer (some ⟨g,i*z+o,none⟩)
 | .fe s x o,v=>∃ A e,c.S A.block/\CellsAt c.w A e/\Pds c (cellsOf s x) e/\v = .pointer (some (A.add o))
 | .fn f b j,v=>∃ m us,All2 (dY ρ) b m/\All2 (dY ρ) j us/\v = .func (.func f) m.toArray us.toArray
 | .nf,v=>v = .nilFunc
 | .yl l,v=>v = .func (.yield l) #[] #[]
 | .xx k j,v=>∃ us,All2 (dY ρ) j us/\k.rd c us v
 | .dead,v=>v.oneCell' = true
 | a,v=>Pd c a v
def di (c:Cx) (ρ:List RE):TV1->Value->Prop
 | .c a,v=>Rd c ρ a v
 | .agg l,v=>∃ b,v = .agg b.toArray/\All2 (Rd c ρ) l b
def Rt (c:Cx) (ρ:List RE):TV->Value->Prop
 | .one t,v=>di c ρ t v
 | .tup l,v=>∃ a,v = .tuple a.toArray/\All2 (di c ρ) l a
 | .un,_=>True
def FrR (c:Cx) (ρ:List RE) (fr:AFr) (F:Fr):Prop:=All2 (fun p q=>p.1=q.1/\Rt c ρ p.2 q.2) fr F
def lookF (k:Int):List (Int × AV)->Option AV
 | []=>none
 | (j,a) :: r=>if k=j then some a else lookF k r
def FO (c:Cx) (ρ:List RE):Option Value->Option AV->Prop
 | none,none=>True
 | some v,some a=>Rd c ρ a v
 | _,_=>False
def UH (c:Cx) (ρ:List RE) (g:Nat) (l:List (Int × AV)):Prop:=
 ∃ a n,c.w.heap[g]? = some (.map a n)/\(∀ e ∈ a.toList,∃ k,e.key = .int .i64 k)/\∀ k,FO c ρ (getM k a.toList) (lookF k l)
def OR (c:Cx) (ρ:List RE):AO->RE->Prop
 | .gone,r=>r = .no
 | .mapo s f,r=>∃ g,r = .blk g/\Vh c g s f
 | .mapf l,r=>∃ g,r = .blk g/\UH c ρ g l
 | .loc,_=>True
 | .arr t s n d,r=>∃ g e,r = .blk g/\c.w.heap[g]? = some (.cells (List.toArray e) t (0,0))/\Pds c (d.flatMap (cellsOf s)) e/\d.length=n/\s.size=1
 | .box t i,r=>∃ g e,r = .blk g/\c.w.heap[g]? = some (.cells (List.toArray e) t (0,0))/\All2 (Rd c ρ) i e
 | .row t s d,r=>c.shp t=some s/\d.length*s.bytes<=140737488355328/\((r = .emp/\d=[])\/∃ g b a h,r = .row g b d.length s.size/\c.w.heap[g]? = some (.cells (List.toArray (a++h)) t (0,0)) /\
   Pds c (d.flatMap (cellsOf s)) a/\(a++h).length=b*s.size/\d.length<=b/\b<=maxLen)
def aiR (c:Cx) (q:Nat × Bool):Prop:=c.S q.1/\∃ v t fr,c.w.heap[q.1]? = some (.cells #[v] t fr)/\match q.2 with
 | true=>∃ m,v = .int .i64 m
 | false=>∃ a p,v = .iface a p
def TabsOK (c:Cx):Prop:=(∀ q ∈ ac0,aiR c q)/\∀ e ∈ SJ,c.S e.g/\e.g<c.B0/\e.xs.length<=maxLen/\e.xs.length*e.s.bytes<=140737488355328/\∃ a t fr,c.w.heap[e.g]? = some (.cells (List.toArray a) t fr)/\Pds c (e.xs.flatMap (cellsOf e.s)) a
def TabsOK.carry {c g:Cx} (h:TabsOK c) (k:c.le g):TabsOK g:=by
 refine ⟨fun q i=>?_,fun e j=>?_⟩
 ·obtain ⟨b,v,t,fr,d,f⟩:=h.1 q i;exact ⟨(k.S _ b).1,v,t,fr,((k.S _ b).2).trans d,f⟩
 obtain ⟨b,d,f,l,a,t,fr,m,n⟩:=h.2 e j;exact ⟨(k.S _ b).1,by rw [k.B0]; exact d,f,l,a,t,fr,((k.S _ b).2).trans m,n.carry k⟩
structure Rep (G:Gl) (ρ:List RE) (H:AH) (w:World):Prop where
 obj:All2 (OR (cx G ρ w) ρ) H ρ
 inj:∀ (i j:Nat) (r r':RE) (g:Nat),ρ[i]? = some r->ρ[j]? = some r' -> r.g? = some g->r'.g? = some g->i=j
 bnd:∀ (i:Nat) (r:RE) (g:Nat),ρ[i]? = some r->r.g? = some g->G.B0<=g/\g<w.heap.size/\¬ G.Z g
 z:∀ b,G.Z b->b<w.heap.size
 b0:G.B0<=w.heap.size
 tb:TabsOK (cx G ρ w)
structure Ext (ρ0:List RE) (w0:World) (ρ:List RE) (w:World):Prop where
 os:w.os=w0.os
 tape:w.tape=w0.tape
 output:w.output=w0.output
 size:w0.heap.size<=w.heap.size
 old:∀ b,b<w0.heap.size->¬ live ρ0 b->¬ live ρ b/\w.heap[b]? = w0.heap[b]?
def Ext.refl (ρ:List RE) (w:World):Ext ρ w ρ w:=⟨rfl,rfl,rfl,Nat.le_refl _,fun _ _ h=>⟨h,rfl⟩⟩
def Ext.trans {d e f:List RE} {a b c:World} (h:Ext d a e b) (k:Ext e b f c):Ext d a f c:=
 ⟨k.os.trans h.os,k.tape.trans h.tape,k.output.trans h.output,Nat.le_trans h.size k.size,fun x g i=>by
  obtain ⟨j,l⟩:=h.old x g i;obtain ⟨m,n⟩:=k.old x (acv g h.size) j;exact ⟨m,n.trans l⟩⟩
variable {H:AH} {w:World}
def Rep.lo {G:Gl} (h:Rep G ρ H w) (b:Nat) (a:b<G.B0):b<w.heap.size/\¬ live ρ b:=
 ⟨acv a h.b0,fun ⟨i,r,c,d⟩=>by have:=(h.bnd i r b c d).1; omega⟩
def Ext.le {G:Gl} {ρ c:List RE} {w d:World} (h:Ext ρ w c d) (e:∀ b,b<G.B0->b<w.heap.size/\¬ live ρ b):(cx G ρ w).le (cx G c d):=
 ⟨rfl,rfl,fun b a=>⟨⟨acv a.1 h.size,(h.old b a.1 a.2.1).1,a.2.2⟩,(h.old b a.1 a.2.1).2⟩,fun b a f=>(h.old b f (e b a).2).2⟩
def Kp.le {G:Gl} {ρ:List RE} {w c:World} (k:Kp [] w c):(cx G ρ w).le (cx G ρ c):=
 ⟨rfl,rfl,fun b a=>⟨⟨acv a.1 k.size,a.2⟩,k.block b a.1 aa⟩,fun b _ d=>k.block b d aa⟩
def Ext.kp {a:World} (k:Kp [] w a):Ext ρ w ρ a:=⟨k.os,k.tape,k.output,k.size,fun b c h=>⟨h,k.block b c aa⟩⟩
variable {a:AV}
def gU {c:Cx} {v:Value} (h:a.plain=true):Rd c ρ a v↔Pd c a v:=by cases a <;> first | exact .rfl | cases h
theorem kU {c:Cx} {v:Value} (h:Pd c a v):Rd c ρ a v:=by cases h <;> first | exact .int ‹_› | exact .u8 | exact .u64 ‹_› | exact .bool | exact .str ‹_› | exact .em ‹_› | exact .li ‹_› ‹_› ‹_› ‹_› ‹_› | exact .fz ‹_› ‹_› ‹_› ‹_› ‹_›
theorem gH {c:Cx} {ρ:List RE}:∀ {b:List AV} {d:List Value},Pds c b d->All2 (Rd c ρ) b d
 | [],_,h=>by cases h; exact .nil
 | _ :: _,_,h=>by cases h with | cons e f=>exact .cons (kU e) (gH f)
theorem jH {c:Cx} {ρ:List RE}:∀ {b:List AV} {d:List Value},(∀ a ∈ b,a.plain=true)->All2 (Rd c ρ) b d->Pds c b d
 | [],_,_,h=>by cases h; exact .nil
 | _ :: _,_,e,h=>by cases h with | cons f g=>exact .cons ((gU (e _ aa)).1 f) (jH (fun a i=>e a (by simp [i])) g)
theorem Rd.one {c:Cx} {ρ:List RE} {a:AV} {v:Value} (h:Rd c ρ a v):v.oneCell' = true:=by
 cases a;case own=>rcases h with ⟨_,_,_,_,_,rfl⟩ | ⟨_,_,rfl⟩ <;> rfl
 case sub=>rcases h with ⟨_,_,_,_,_,_,rfl⟩ | ⟨_,_,_,_,rfl⟩ <;> rfl
 case ptr=>obtain ⟨_,_,rfl⟩:=h; rfl
 case np=>cases h; rfl
 case elp=>obtain ⟨_,_,_,_,_,_,rfl⟩:=h; rfl
 case fe=>obtain ⟨_,_,_,_,_,rfl⟩:=h; rfl
 case fn=>obtain ⟨_,_,_,_,rfl⟩:=h; rfl
 case nf=>cases h; rfl
 case yl=>cases h; rfl
 case xx=>obtain ⟨us,b,d⟩:=h; exact d.one b
 case mq=>obtain ⟨_,_,rfl⟩:=h; rfl
 case dead=>exact h
 all_goals exact Pd.one h
def ky (ρ b:List RE):Prop:=∀ (i:Nat) (r:RE),ρ[i]? = some r->r ≠ .no->b[i]? = some r
def ky.refl (ρ:List RE):ky ρ ρ:=fun _ _ h _=>h
def gk (ρ σ:List RE):ky ρ (ρ++σ):=fun i r h _=>by
 rw [List.getElem?_append_left (aaw.1 h).1]; exact h
def dY.carry {b:List RE} {q:Nat × Nat} {v:Value} (h:dY ρ q v) (k:ky ρ b):dY b q v:=by
 obtain ⟨g,c,d⟩:=h;exact ⟨g,k _ _ c aa,d⟩
def Rd.carry {c m:Cx} {ρ i:List RE} {a:AV} {v:Value} (h:Rd c ρ a v) (j:c.le m) (k:ky ρ i):Rd m i a v:=by
 cases a;case own=>
  rcases h with ⟨g,b,len,z,h,e⟩ | ⟨h,e⟩
  ·exact .inl ⟨g,b,len,z,k _ _ h aa,e⟩
  exact .inr ⟨k _ _ h aa,e⟩
 case sub=>
  rcases h with ⟨g,b,len,z,h,e⟩ | ⟨h,e⟩
  ·exact .inl ⟨g,b,len,z,k _ _ h aa,e⟩
  exact .inr ⟨k _ _ h aa,e⟩
 case ptr=>exact dY.carry h k
 case np=>exact h
 case elp=>
  obtain ⟨g,b,len,z,h,e⟩:=h;exact ⟨g,b,len,z,k _ _ h aa,e⟩
 case fe=>
  obtain ⟨A,f,d,l,n,e⟩:=h;exact ⟨A,f,(j.S _ d).1,l.keep (j.S _ d).2,n.carry j,e⟩
 case fn=>
  obtain ⟨o,us,d,l,e⟩:=h;exact ⟨o,us,d.imp fun _ _ h=>h.carry k,l.imp fun _ _ h=>h.carry k,e⟩
 case nf=>exact h
 case yl=>exact h
 case xx=>
  obtain ⟨us,d,l⟩:=h;exact ⟨us,d.imp fun _ _ h=>h.carry k,l.le j⟩
 case mq=>
  obtain ⟨g,d,e⟩:=h;exact ⟨g,k _ _ d aa,e⟩
 case dead=>exact h
 all_goals exact Pd.carry h j
def di.carry {c d:Cx} {ρ b:List RE} {a:TV1} {v:Value} (h:di c ρ a v) (e:c.le d) (k:ky ρ b):di d b a v:=by
 cases a with
 | c a=>exact Rd.carry h e k
 | agg l=>obtain ⟨f,rfl,h⟩:=h; exact ⟨f,rfl,h.imp fun _ _ h=>h.carry e k⟩
def Rt.carry {c d:Cx} {ρ b:List RE} {a:TV} {v:Value} (h:Rt c ρ a v) (e:c.le d) (k:ky ρ b):Rt d b a v:=by
 cases a with
 | one a=>exact di.carry h e k
 | tup l=>obtain ⟨f,rfl,h⟩:=h; exact ⟨f,rfl,h.imp fun _ _ h=>h.carry e k⟩
 | un=>trivial
def FrR.carry {c d:Cx} {ρ b:List RE} {fr:AFr} {F:Fr} (h:FrR c ρ fr F) (e:c.le d) (k:ky ρ b):FrR d b fr F:=h.imp fun _ _ h=>⟨h.1,h.2.carry e k⟩
def V1.carry {c b:Cx} {s:Sh} {x:den s} {v:Value} (h:V1 c s x v) (d:c.le b):V1 b s x v:=by
 obtain ⟨e,f,g⟩:=h;exact ⟨e,f.carry d,g⟩
def Vh.carry {c b:Cx} {g:Nat} {s:Sh} {f:Int->Option (den s)} (h:Vh c g s f) (d:c.le b) (e:b.w.heap[g]? = c.w.heap[g]?):Vh b g s f:=by
 obtain ⟨a,n,i,j,l⟩:=h;refine ⟨a,n,e.trans i,j,fun k=>?_⟩;have:=l k;cases m:getM k a.toList <;> cases o:f k <;> rw [m,o] at this
 ·trivial
 ·exact this
 ·exact this
 exact V1.carry this d
theorem FO.map {c d:Cx} {ρ b:List RE} {g:AV->AV} {v:Option Value} {l:List (Int × AV)} {k:Int} (h:FO c ρ v (lookF k l)) (f:∀ q ∈ l,∀ v,Rd c ρ q.2 v->Rd d b (g q.2) v) (e:List (Int × AV)) (i:e = l.map fun q=>(q.1,g q.2)):FO d b v (lookF k e):=by
 subst i;induction l with
 | nil=>exact (by cases v <;> first | trivial | exact h)
 | cons q l n=>
  obtain ⟨j,a⟩:=q;simp only [lookF,afV] at h ⊢;by_cases m:k=j
  ·rw [if_pos m] at h ⊢;cases v with
   | none=>exact h
   | some v=>exact f (j,a) aa v h
  simp_all
def UH.map {c d:Cx} {ρ b:List RE} {g0:AV->AV} {g:Nat} {l e:List (Int × AV)} (h:UH c ρ g l) (f:e = l.map fun q=>(q.1,g0 q.2)) (i:∀ q ∈ l,∀ v,Rd c ρ q.2 v->Rd d b (g0 q.2) v) (j:d.w.heap[g]? = c.w.heap[g]?):UH d b g e:=by
 obtain ⟨a,n,m,o,p⟩:=h;exact ⟨a,n,j.trans m,o,fun k=>(p k).map i e f⟩
def OR.carry {c p:Cx} {ρ e:List RE} {o:AO} {r:RE} (h:OR c ρ o r) (d:c.le p) (k:ky ρ e) (i:∀ g,r.g? = some g->p.w.heap[g]? = c.w.heap[g]?):OR p e o r:=by
 cases o with
 | gone=>exact h
 | mapo s f=>
  obtain ⟨g,rfl,h⟩:=h;exact ⟨g,rfl,h.carry d (i g rfl)⟩
 | loc=>trivial
 | mapf l=>
  obtain ⟨g,rfl,h⟩:=h;exact ⟨g,rfl,h.map (g0:=fun a=>a) aa (fun _ _ _ h=>h.carry d k) (i g rfl)⟩
 | arr t s n x=>
  obtain ⟨g,q,rfl,j,m,u⟩:=h;exact ⟨g,q,rfl,(i g rfl).trans j,m.carry d,u⟩
 | box t C=>
  obtain ⟨g,q,rfl,j,m⟩:=h;exact ⟨g,q,rfl,(i g rfl).trans j,m.imp fun _ _ h=>h.carry d k⟩
 | row t s x=>
  obtain ⟨j,m,u⟩:=h;refine ⟨d.shp ▸ j,m,u.imp id ?_⟩;rintro ⟨g,v,b,y,rfl,z,A,B⟩;exact ⟨g,v,b,y,rfl,(i g rfl).trans z,A.carry d,B⟩
theorem dQ {d e:Type} {R:d->e->Prop} {c:List d} {f:List e} (h:All2 R c f):∀ (i:Nat) (a:d),c[i]? = some a->∃ b,f[i]? = some b/\R a b:=by
 induction h with
 | nil=>intro i b g; simp at g
 | cons h _ j=>
  grind
theorem cA {e f:Type} {R:e->f->Prop}:∀ {c:List e} {d:List f},c.length=d.length->(∀ (i:Nat) (a:e) (b:f),c[i]? = some a->d[i]? = some b->R a b)->All2 R c d
 | [],[],_,_=>.nil
 | a :: c,b :: d,h,k=>.cons (k 0 a b rfl rfl) (cA (by simpa using h) fun i x y g j=>k (i+1) x y (by simpa using g) (by simpa using j))
theorem bM {i:Nat} {o:AO} (h:getO H i=o) (b:o ≠ .gone):H[i]? = some o:=by
 unfold getO at h;grind
section
variable {G:Gl} {ρ:List RE} {H:AH} {w w':World}
variable {i:Nat} {o:AO}
theorem Rep.at_ (h:Rep G ρ H w) (b:H[i]? = some o):∃ r,ρ[i]? = some r/\OR (cx G ρ w) ρ o r:=dQ h.obj i o b
def Rep.kp (h:Rep G ρ H w) (k:Kp [] w w'):Rep G ρ H w':=by
 refine ⟨cA h.obj.length fun i o r f e=>?_,h.inj,fun i r g j l=>?_,fun b m=>acv (h.z b m) k.size,Nat.le_trans h.b0 k.size,h.tb.carry ((Ext.kp k).le h.lo)⟩
 ·obtain ⟨p,c,d⟩:=h.at_ f;rw [e] at c; cases c;exact d.carry ((Ext.kp k).le h.lo) (ky.refl _) fun g n=>k.block g (h.bnd i r g e n).2.1 aa
 have:=h.bnd i r g j l;exact ⟨this.1,acv this.2.1 k.size,this.2.2⟩
variable {r:RE}
theorem Mp {b:Nat}:live (ρ++[r]) b↔live ρ b\/r.g? = some b:=by
 constructor
 ·rintro ⟨i,d,c,e⟩;by_cases f:i<ρ.length
  ·rw [List.getElem?_append_left f] at c;exact .inl ⟨i,d,c,e⟩
  grind
 rintro (⟨i,d,c,e⟩ | h)
 ·exact ⟨i,d,by rw [List.getElem?_append_left (aaw.1 c).1]; exact c,e⟩
 exact ⟨ρ.length,r,aa,h⟩
theorem Ext.app (k:Kp [] w w') (d:∀ c,r.g? = some c -> w.heap.size<=c):Ext ρ w (ρ++[r]) w':=
 ⟨k.os,k.tape,k.output,k.size,fun b e h=>⟨fun f=>(Mp.1 f).elim h fun g=>by have:=d b g; omega,k.block b e aa⟩⟩
theorem Rep.app (h:Rep G ρ H w) (k:Kp [] w w') {r:RE} {o:AO} (n:∀ g,r.g? = some g->w.heap.size<=g/\g<w'.heap.size) (p:OR (cx G (ρ++[r]) w') (ρ++[r]) o r):Rep G (ρ++[r]) (H++[o]) w':=by
 have u:Ext ρ w (ρ++[r]) w':=Ext.app k fun g q=>(n g q).1;refine ⟨?_,?_,?_,fun b C=>acv (h.z b C) k.size,Nat.le_trans h.b0 k.size,h.tb.carry (u.le h.lo)⟩
 ·refine All2.append (cA h.obj.length fun i o d p l=>?_) (.cons p .nil);obtain ⟨D,e,s⟩:=h.at_ p;rw [l] at e; cases e;exact s.carry (u.le h.lo) (gk _ _) fun g q=>k.block g (h.bnd i d g l q).2.1 aa
 ·intro i j v x g c f y A;have m:∀ i d,(ρ++[r])[i]? = some d -> d.g? = some g->(ρ[i]? = some d /\ g<w.heap.size)\/(i=ρ.length/\w.heap.size<=g):=fun i d c f=>by
   by_cases t:i<ρ.length
   ·rw [List.getElem?_append_left t] at c;exact .inl ⟨c,(h.bnd i d g c f).2.1⟩
   grind
  rcases m i v c y with ⟨a,b⟩ | ⟨a,b⟩ <;> rcases m j x f A with ⟨B,F⟩ | ⟨B,F⟩
  ·exact h.inj i j v x g a B y A
  ·omega
  ·omega
  omega
 intro i d g c f;by_cases t:i<ρ.length
 ·rw [List.getElem?_append_left t] at c;have:=h.bnd i d g c f;exact ⟨this.1,acv this.2.1 k.size,this.2.2⟩
 rw [afS aE] at c;have:i - ρ.length=0:=by
  have:=(aaw.1 c).1;simp at this; omega
 rw [this] at c;simp at c; subst c;exact ⟨Nat.le_trans h.b0 (n g f).1,(n g f).2,fun I=>by have:=h.z g I; have:=(n g f).1; omega⟩
theorem Rep.put (h:Rep G ρ H w) {g:Nat} {o':AO} (C:H[i]? = some o) (t:ρ[i]? = some r) (u:r.g? = some g) (k:Kp [g] w w') (D:OR (cx G ρ w') ρ o' r):Rep G ρ (H.set i o') w' /\ Ext ρ w ρ w':=by
 have p:Ext ρ w ρ w':=⟨k.os,k.tape,k.output,k.size,fun b q v=>⟨v,k.block b q (by
  simp only [acr];rintro rfl;exact v ⟨i,r,t,u⟩)⟩⟩
 refine ⟨⟨cA (by rw [acF]; exact h.obj.length) fun j x n e d=>?_,h.inj,fun j n f y A=>?_,fun b q=>acv (h.z b q) k.size,Nat.le_trans h.b0 k.size,h.tb.carry (p.le h.lo)⟩,p⟩
 ·by_cases l:i=j
  ·grind
  rw [List.getElem?_set_ne l] at e;obtain ⟨B,c,s⟩:=h.at_ e;rw [d] at c; cases c;refine s.carry (p.le h.lo) (ky.refl _) fun f m=>k.block f (h.bnd j n f d m).2.1 ?_;simp only [acr];rintro rfl;exact l (h.inj i j r n f t d u m)
 have:=h.bnd j n f y A;exact ⟨this.1,acv this.2.1 k.size,this.2.2⟩
end
end Go.Proofs.YticbaadnibdbkaaGreat
