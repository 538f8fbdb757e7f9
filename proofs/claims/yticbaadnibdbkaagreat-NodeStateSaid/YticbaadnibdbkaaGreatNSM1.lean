/- What leads to the law, part 1. Conditions: each lemma's own. -/
import Derived.KernelRfl
import Derived.LaidEqlPtr
import Derived.Lib.SliceRun
import Derived.Maps.AppendAt
import Derived.OrdersIn
import Derived.StillTail
import Derived.TacticsIn
import Derived.WalkKit
import Derived.WalkLawsBesides
import Derived.WalkSpells
set_option linter.unusedVariables false
set_option linter.unusedSimpArgs false
set_option maxHeartbeats 2000000
set_option linter.defProp false
open List (range range' range'_succ toArray)
open Nat (ble blt lor)
open UInt8 (ofNat)
open Array (getD replicate)
open Go.Value (oneCell' ownBlock)
namespace Go.Proofs.YticbaadnibdbkaaGreat
open Go.RowKit
def az {p:Prop} (h:p:=by omega):p:=h
def aa {p:Prop} (h:p:=by simp):p:=h
theorem am {p:Prop} (h:p:=by decide):p:=h
theorem ap {p:Prop} (h:p:=by assumption):p:=h
theorem bb {p:Prop} (h:p:=by simp_all):p:=h
def B1:=@Option.some.inj
def eg:=@if_pos
def dc:=@if_neg
def M3:=@Go.Calls.mono
def w8:=@List.mem_cons_of_mem
def z6:=@List.mem_cons_self
def O7:=@List.map_cons
def D0:=@List.cons_append
def pe:=@Bool.and_eq_true
def r7:=@Nat.eq_of_beq_eq_true
def O5:=@Nat.sub_zero
def r3:=@List.getElem?_eq_some_iff
def p6:=@List.getElem?_eq_getElem
def sh:=@Nat.le_refl
def z7:=@Nat.le_trans
def w9:=@Nat.lt_of_lt_of_le
def C7:=@List.getElem?_drop
def E0:=@List.getElem?_take
def B7:=@List.eq_nil_of_length_eq_zero
def r5:=@List.length_append
def y2:=@List.mem_append
def B9:=@List.mem_append_left
def C6:=@List.mem_append_right
def A5:=@Go.run_underlying
def E2:=@Bool.eq_iff_iff
def Q7:=@Go.Sem.run_bind
def T5:=@Go.run_loadCells_list
def y4:=@List.length_cons
def I9:=@Nat.add_mul
def S8:=@Go.run_sliceAt_slice
def H6:=@UInt8.toNat_ofNat'
def I3:=@Int.natCast_nonneg
def I7:=@List.range_succ
def T6:=@List.countP_append
def vo:=@decide_eq_true_eq
def J5:=@List.all_eq_true
def E4:=@List.mem_range
def F5:=@Bool.or_eq_true
def x7:=@Nat.zero_add
def K4:=@List.mem_map
def R3:=@List.mem_filter
def Q4:=@Array.getElem?_eq_some_iff
def S9:=@Bool.not_eq_true'
def O1:=@decide_eq_false_iff_not
def hC:=@congrArg
def L7:=@Go.getD_replicate_false
def V4:=@List.length_range
def u2:=@List.mem_cons
def H5:=@List.flatMap_cons
def r6:=@List.take_of_length_le
def J2:=@List.drop_eq_getElem_cons
def N8:=@List.take_append_of_le_length
def F8:=@Nat.zero_le
def C9:=@List.getElem?_append_left
def N9:=@List.getElem?_append_right
def B8:=@List.length_set
def L8:=@List.getElem?_set_ne
variable {b a:Prop}
def aT (x:a) (y:b):a/\b:=And.intro x y
def aW {c:Prop} (h:a->b->c):a/\b->c:=fun x=>h x.1 x.2
theorem ab {p:Prop} (h:p:=by with_reducible assumption):p:=h
def cm {p:Prop} (h:p:=by kernel_rfl):p:=h
theorem bR {p:Prop} (h:p:=by first | with_reducible rfl | with_reducible assumption | omega | (constructor <;> omega)):p:=h
abbrev Fr:=List (Nat × Value)
def look:Fr->Nat->Option Value
 | [],_=>none
 | (j,v) :: r,i=>bif Nat.beq j i then some v else look r i
def ev (fr:Fr):Operand->Option Value
 | .tmp i=>look fr i
 | .const v=>some v
 | .global g=>some (.pointer (some ⟨g,0,none⟩))
 | .func f=>some (.func (.func f) #[] #[])
def M (n:Nat) (fr:Fr) (a:Act):Prop:=
 a.defers=[]/\a.tmps.size=n/\∀ i v,look fr i=some v->i<n/\a.tmps.getD i undef=v
theorem M.ev {n:Nat} {fr:Fr} {a:Act} {x:Operand} {v:Value} (h:M n fr a) (d:ev fr x=some v):a.eval x=v:=by
 cases x with
 | tmp i=>exact (h.2.2 i v d).2
 | const c=>exact B1 d
 | global g=>exact B1 d
 | func f=>exact B1 d
variable {i:Nat}
theorem bg {j:Nat} {v:Value} {r:Fr}:look ((j,v) :: r) i=if j=i then some v else look r i:=by
 show (bif Nat.beq j i then some v else look r i)=_;simp_all
theorem M.put {n d:Nat} {fr:Fr} {a:Act} {v:Value} (h:M n fr a) (k:blt d n=true):M n ((d,v) :: fr) (a.put (some d) v):=by
 have c:d<n:=by simpa using k
 obtain ⟨l,j,m⟩:=h;refine ⟨l,by simp [Act.put,j],fun i u e=>?_⟩;rw [bg] at e;by_cases f:d=i
 ·subst f;rw [eg rfl] at e;cases e;exact ⟨c,by simp [Act.put,j,c]⟩
 rw [dc f] at e;obtain ⟨g,o⟩:=m i u e;refine ⟨g,?_⟩;rw [<- o];simp [Act.put,f]
variable {n:Nat} {a:Act}
theorem M.at_ {fr:Fr} {t:Nat} {v:Value} (h:M n fr a) (c:look fr t=some v):a.tmps[t]?.getD undef=v:=by
 have:=(h.2.2 t v c).2;simp_all
variable {fr':Fr}
def M.sub {fr:Fr} (h:M n fr a) (c:∀ i v,look fr' i=some v->look fr i=some v):M n fr' a:=
 ⟨h.1,h.2.1,fun i v d=>h.2.2 i v (c i v d)⟩
abbrev iz (c:Option Nat):Fence:={ fn:=fun _=>True,depth:=none,alive:=false,round:=c }
def jy (a:Act) (c:List Deferred):Act:={ a with defers:=c }
def rY (d:List Deferred) (Q:Exit->Act->World->Prop) (e:Exit) (a:Act) (w:World):Prop:=∃ c:Act,c.defers=[]/\a=jy c d/\Q e c w
def lB (P:Program) (c:Code) (Q:Exit->Act->World->Prop) (a:Act) (w:World):Prop:=∀ e d,c.wpIn (iz e) 0 P (rY d Q) (jy a d) w
def Nw (P:Program) (l:Array Oper) (Q:Exit->Act->World->Prop) (c:List Oper) (a:Act) (w:World):Prop:=∀ e d,wpListIn (iz e) 0 P l (rY d Q) c (jy a d) w
def ajJ {c:Option Nat}:(iz c).room n:=fun _ h=>by cases h
def oH (a:Act) (c:List Deferred):(jy a c).eval=a.eval:=by funext x; cases x <;> rfl
theorem ug (a:Act) (c:List Deferred) (d:Option Tmp) (v:Value):(jy a c).put d v=jy (a.put d v) c:=by cases d <;> rfl
theorem QN {b:Act} {c:List Deferred} (h:jy a c=jy b c) (d:a.defers=[]) (e:b.defers=[]):a=b:=by
 cases a; cases b;simp [jy] at h;grind
def Kd (h:a.defers=[]) (d:Option Tmp) (v:Value):(a.put d v).defers=[]:=by cases d <;> exact h
section prim
variable {P:Program} {Q:Exit->Act->World->Prop} {a:Act} {w:World}
def Rk (c:a.defers=[]) (h:Q .normal a w):lB P .skip Q a w:=fun _ _=>wpIn_skip ⟨a,c,rfl,h⟩
def LG {l:Nat} (c:a.defers=[]) (h:Q .normal a w):lB P (.label l) Q a w:=fun _ _=>wpIn_label ⟨a,c,rfl,h⟩
def Nl {id:Nat} (c:a.defers=[]) (h:Q (.exit id) a w):lB P (.exit id) Q a w:=fun _ _=>wpIn_exit ⟨a,c,rfl,h⟩
def Zn (c:a.defers=[]) (h:Q .ret a w):lB P .ret Q a w:=fun _ _=>wpIn_ret ⟨a,c,rfl,h⟩
variable {x:Code}
def Wb {y:Code} (h:lB P x (Exit.then (lB P y Q) Q) a w):lB P (.seq x y) Q a w:=fun d f=>wpIn_seq (wpIn_mono (h d f) fun e a w c=>by
 cases e with
 | normal=>obtain ⟨g,_,rfl,c⟩:=c; exact c d f
 | _=>exact c)
def Mk {id:Nat} {c:Code} (h:lB P c (Exit.inBlock id Q) a w):lB P (.block id c) Q a w:=fun k l=>wpIn_block (wpIn_mono (h k l) fun e a w d=>by
 cases e with
 | exit j=>
  obtain ⟨f,g,rfl,d⟩:=d;simp [Exit.inBlock] at d ⊢;split
  ·rename_i e; rw [eg e] at d; exact ⟨f,g,rfl,d⟩
  rename_i e; rw [dc e] at d; exact ⟨f,g,rfl,d⟩
 | _=>exact d)
def Gn {id:Nat} {l:List Oper} (h:Nw P l.toArray Q l a w):lB P (.region id l.toArray false) Q a w:=fun c d=>wpIn_region_lit (h c d)
def vr {c:Operand} {y:Code} {t:Bool} (f:a.eval c = .bool t) (g:t=true->lB P x Q a w) (j:t=false->lB P y Q a w):lB P (.cond c x y) Q a w:=
 fun d e=>wpIn_cond_split (by rw [oH]; exact f) (fun h=>g h d e) (fun h=>j h d e)
def wq {c:Operand} {y:Code} (d:a.eval c = .bool true) (h:lB P x Q a w):lB P (.cond c x y) Q a w:=fun e f=>wpIn_cond_true (by rw [oH]; exact d) (h e f)
def uq {c:Operand} {y:Code} (d:a.eval c = .bool false) (h:lB P y Q a w):lB P (.cond c x y) Q a w:=fun e f=>wpIn_cond_false (by rw [oH]; exact d) (h e f)
def Mz {c:Code} (h:lB P c (Exit.noGoto Q) a w):lB P (.scope c) Q a w:=by
 intro A s b k g t u v;have j:(lone (b.atR (jy a s) (.code (.scope c) :: k)) g w).fenced P (iz A):=fenced_calm u v rfl;have m:step P (lone (b.atR (jy a s) (.code (.scope c) :: k)) g w) = .next (lone (b.atR (jy a s) (.code c :: .inScope c :: k)) g w):=step_lone_go (by simp [stepG,stepG.exec,Frame.atR])
 have D:∀ a w,step P (lone (b.atR a (.inScope c :: k)) g w) = .next (lone (b.atR a k) g w):=fun a w=>step_lone_go (by simp [stepG,stepG.exec,Frame.atR])
 obtain ⟨e,B,f,⟨p,q,rfl,o⟩,d⟩:=h A s b (.inScope c :: k) g t u v;cases e with
 | normal=>exact ⟨.normal,_,f,⟨p,q,rfl,o⟩,.head j m (StepsIn.trans d (.one (fenced_calm u v rfl) (D _ _)))⟩
 | exit id=>
  have C:exitTo id (.inScope c :: k)=exitTo id k:=by simp [exitTo]
  exact ⟨.exit id,_,f,⟨p,q,rfl,o⟩,fun F y=>.head j m (d.1 F (by rw [C]; exact y)),fun z y=>let ⟨r,G,H⟩:=d.2 z (by rw [C]; exact y); ⟨r,G,.head j m H⟩⟩
 | goto l=>exact o.elim
 | ret=>exact ⟨_,_,f,⟨p,q,rfl,o⟩,.of_steps (.one j m) d⟩
 | panic I=>exact ⟨_,_,f,⟨p,q,rfl,o⟩,.of_steps (.one j m) d⟩
 | outgrown=>exact ⟨_,_,f,⟨p,q,rfl,o⟩,.of_steps (.one j m) d⟩
def uB {σ:Type} {c:Code} (D:Act->World->σ->Prop) (y:σ->Nat) (L:σ) (S:D a w L)
  (j:∀ s a w,D a w s->lB P c (fun e a w=>match e with | .normal=>∃ q,D a w q /\ y q < y s | e=>Q e a w) a w):lB P (.loop c) Q a w:=by
 intro N B b k C F G H;have I:∀ m,∀ s a w,y s=m->D a w s->∃ e z A,rY B Q e z A /\ ArrivesIn (Machine.fenced P (iz N)) P (lone (b.atR (jy a B) (.code c :: .inLoop c :: k)) C w) b k C e z A:=by
  intro m;induction m using Nat.strongRecOn with
  | _ m T=>
   intro s a w U V;obtain ⟨e,O,f,⟨p,r,rfl,h⟩,d⟩:=j s a w V N B b (.inLoop c :: k) C F G H;cases e with
   | normal=>
    obtain ⟨q,J,K⟩:=h;obtain ⟨t,u,v,o,g⟩:=T (y q) (U ▸ K) q p f rfl J;exact ⟨t,u,v,o,.of_steps (StepsIn.trans d (.one (fenced_calm G H rfl) stepR_inLoop)) g⟩
   | exit id=>exact ⟨_,_,f,⟨p,r,rfl,h⟩,.pass (x:=.inLoop c) rfl (fun _ _=>.inl aa) d⟩
   | goto l=>exact ⟨_,_,f,⟨p,r,rfl,h⟩,.pass (x:=.inLoop c) rfl (fun _ _=>.inl aa) d⟩
   | ret=>exact ⟨_,_,f,⟨p,r,rfl,h⟩,.pass (x:=.inLoop c) rfl (fun _ _=>.inl aa) d⟩
   | panic W=>exact ⟨_,_,f,⟨p,r,rfl,h⟩,.pass (x:=.inLoop c) rfl (fun _ _=>.inl aa) d⟩
   | outgrown=>exact ⟨_,_,f,⟨p,r,rfl,h⟩,.pass (x:=.inLoop c) rfl (fun _ _=>.inl aa) d⟩
 obtain ⟨e,z,A,h,d⟩:=I _ L a w rfl S;exact ⟨e,z,A,h,.of_steps (.one (fenced_calm G H rfl) stepR_loop) d⟩
variable {ro:Option Nat}
def RF {f:FuncId} {args:Array Value} {R:Ending->World->Prop} (h:Calls P f args w R):CallsIn (iz ro) n P f args w R:=
 ⟨trivial,fun c _=>let ⟨e,d,fr,r,s,x⟩:=h c; ⟨e,d,fr,r,comesIn_wide.2 s,x⟩⟩
theorem acx {c:Code} (g:a.defers=[]) (h:lB P c Q a w):c.wp P Q a w:=by
 have d:=(wpIn_wide (n:=0)).1 (h none []);have e:jy a []=a:=by rw [jy,<- g]
 rw [e] at d;refine wp_mono d fun e k l ⟨f,j,m,o⟩=>?_;have p:jy f []=f:=by rw [jy,<- j]
 grind
variable {o:Oper}
def aiW {e:Operand->Value} {x:Next} {f:World} (h:(execOp e o).run P w = .ok x f) (j:∀ d,x ≠ .defer d):(o.semAt ro e).run P w = .ok x f:=by
 rw [Oper.semAt_eq]
 ·exact h
 intro c k;rw [execOp.eq_def,k] at h;simp at h;cases g:(resolve e c o.type).run P w with
 | ok d l=>rw [g] at h; simp at h; exact j _ h.1.symm
 | halt d l=>rw [g] at h; cases h
def aaB (P:Program) (o:Oper) (a:Act) (K:Act->World->Prop):Result Next->Prop
 | .ok (.value v) c=>K (a.put o.dst v) c
 | .ok .skip c=>K (a.put o.dst undef) c
 | .ok (.enter f args) c=>Calls P f args c fun e d=>∃ v,e = .returned v/\K (a.put o.dst v) d
 | _=>False
def Vt {K:Act->World->Prop} {r:Result Next} (h:aaB P o a K r):o.uponIn (iz ro) 0 P a K Q r:=by
 cases r with
 | ok x c=>
  cases x <;> first | exact h | exact h.elim | skip
  case enter f args=>exact ⟨(fun h=>by cases h),(RF h).mono fun e d ⟨v,g,j⟩=>by subst g; exact j⟩
 | halt x c=>cases x <;> exact h.elim
def jJ {l:Array Oper} {c:List Oper} (m:o.guard=none) (h:∀ K:Act->World->Prop,(∀ a w,Nw P l Q c a w->K a w)->aaB P o a K ((execOp a.eval o).run P w)):Nw P l Q (o :: c) a w:=fun ro k=>
 wpListIn_plain m fun K hK=>by
  refine ⟨fun _ _=>trivial,?_⟩;rw [oH];have g:=h (fun a w=>Nw P l Q c a w) (fun _ _ h=>h);have hK:∀ (d:Option Tmp) (v:Value) w,Nw P l Q c (a.put d v) w->K ((jy a k).put d v) w:=fun d v w h=>by rw [ug]; exact hK _ _ (h ro k)
  cases j:(execOp a.eval o).run P w with
  | ok x p=>
   rw [j] at g;have q:∀ d,x ≠ .defer d:=fun d e=>by subst e; exact g.elim
   rw [aiW j q];refine Vt ?_;cases x <;> first | exact g.elim | exact hK _ _ _ g | skip
   case enter f args=>exact M3 g fun e r ⟨v,s,t⟩=>⟨v,s,hK _ _ _ t⟩
  | halt x p=>rw [j] at g; exact g.elim
end prim
def WX (Q:Exit->Act->World->Prop) (n:Nat) (e:Exit) (fr:Fr) (w:World):Prop:=∀ a,M n fr a->Q e a w
def WC (P:Program) (Q:Exit->Act->World->Prop) (n:Nat) (c:Code) (fr:Fr) (w:World):Prop:=∀ a,M n fr a->lB P c Q a w
def WO (P:Program) (Q:Exit->Act->World->Prop) (n:Nat) (l c:List Oper) (fr:Fr) (w:World):Prop:=∀ a,M n fr a->Nw P l.toArray Q c a w
def kI (P:Program) (f:FuncId) (args:Array Value) (w:World) (c:Value->World->Prop):Prop:=Calls P f args w fun e d=>∃ v,e = .returned v/\c v d
def kI.mono {P:Program} {f:FuncId} {args:Array Value} {w:World} {c d:Value->World->Prop} (h:kI P f args w c) (g:∀ v e,c v e -> d v e):kI P f args w d:=
 M3 h fun _ _ ⟨v,j,k⟩=>⟨v,j,g _ _ k⟩
section rules
variable {P:Program} {Q:Exit->Act->World->Prop} {n:Nat} {fr:Fr} {w:World}
def WC.seq {x y:Code} (h:WC P (Exit.then (lB P y Q) Q) n x fr w):WC P Q n (.seq x y) fr w:=fun a c=>Wb (h a c)
def WC.skip (h:WX Q n .normal fr w):WC P Q n .skip fr w:=fun a c=>Rk c.1 (h a c)
def WC.label {l:Nat} (h:WX Q n .normal fr w):WC P Q n (.label l) fr w:=fun a c=>LG c.1 (h a c)
def WC.exit {id:Nat} (h:WX Q n (.exit id) fr w):WC P Q n (.exit id) fr w:=fun a c=>Nl c.1 (h a c)
def WC.ret (h:WX Q n .ret fr w):WC P Q n .ret fr w:=fun a c=>Zn c.1 (h a c)
def WC.block {id:Nat} {c:Code} (h:WC P (Exit.inBlock id Q) n c fr w):WC P Q n (.block id c) fr w:=fun a d=>Mk (h a d)
def WC.region {id:Nat} {l:List Oper} (h:WO P Q n l l fr w):WC P Q n (.region id l.toArray false) fr w:=fun a c=>Gn (h a c)
def WC.cond {c:Operand} {x y:Code} {b:Bool} (e:ev fr c=some (.bool b)) (f:b=true->WC P Q n x fr w) (g:b=false->WC P Q n y fr w):WC P Q n (.cond c x y) fr w:=
 fun a d=>vr (d.ev e) (fun h=>f h a d) (fun h=>g h a d)
variable {x:Code}
def WC.IG {c:Operand} {y:Code} (e:ev fr c=some (.bool true)) (f:WC P Q n x fr w):WC P Q n (.cond c x y) fr w:=
 fun a d=>wq (d.ev e) (f a d)
def WC.ah6 {c:Operand} {y:Code} (e:ev fr c=some (.bool false)) (f:WC P Q n y fr w):WC P Q n (.cond c x y) fr w:=
 fun a d=>uq (d.ev e) (f a d)
def WX.next {y:Code} (h:WC P Q n y fr w):WX (Exit.then (lB P y Q) Q) n .normal fr w:=h
def WX.mM {k:Act->World->Prop} (h:WX Q n .ret fr w):WX (Exit.then k Q) n .ret fr w:=h
def WX.KU {id:Nat} (h:WX Q n .normal fr w):WX (Exit.inBlock id Q) n .normal fr w:=h
def WX.afZ {id:Nat} (h:WX Q n .normal fr w):WX (Exit.inBlock id Q) n (.exit id) fr w:=fun a c=>by
 show (if id=id then Q .normal a w else _);rw [eg rfl]; exact h a c
def Has (fr:Fr):Fr->Prop
 | []=>True
 | (i,v) :: r=>(∃ u,look fr i=some u/\u=v)/\Has fr r
theorem Has.look {fr:Fr}:∀ {fr':Fr},Has fr fr' -> ∀ i v,look fr' i=some v->look fr i=some v
 | (j,u) :: r,h,i,v,c=>by
  rw [bg] at c;by_cases d:j=i
  ·subst d;rw [eg rfl] at c; cases c;obtain ⟨f,e,rfl⟩:=h.1;exact e
  rw [dc d] at c; exact Has.look h.2 i v c
variable {m:Nat} {K K':Act->World->Prop} {F:Fence} {o:Oper}
def FU {j:Exit->Act->World->Prop} (hK:∀ a w,K a w->K' a w) (k:∀ e a w,e ≠ .normal->Q e a w->j e a w) (h:o.wpIn F m P a w K Q):o.wpIn F m P a w K' j:=by
 refine ⟨h.1,?_⟩;have h:=h.2;generalize (o.semAt F.round a.eval).run P w=r at *;have hE:∀ (e:Ending) (d:World),(match e,d with | .returned v,d=>K (a.put o.dst v) d | .panicked f,d=>Q (.panic f) a d | .outgrown,_=>LetsOut Q) ->
   (match e,d with | .returned v,d=>K' (a.put o.dst v) d | .panicked f,d=>j (.panic f) a d | .outgrown,_=>LetsOut j):=fun e d g=>by
  cases e with
  | returned v=>exact hK _ _ g
  | panicked c=>exact k _ _ _ aa g
  | outgrown=>obtain ⟨p,l,q⟩:=g; exact ⟨p,l,k _ _ _ aa q⟩
 cases r with
 | ok x l=>
  cases x <;> simp [Oper.uponIn] at h ⊢ <;>
   first
    | exact hK _ _ h
    | exact ⟨h.1,CallsIn.mono h.2 hE⟩
    | exact ⟨h.1,RowsIn.mono h.2 (fun _ _ g=>hK _ _ g)⟩
    | exact ⟨h.1,RoundIn.mono h.2 hE⟩
 | halt x l=>cases x <;> simp [Oper.uponIn] at h ⊢ <;> exact k _ _ _ aa h
theorem iW {F:Fence} {m:Nat} {l:Array Oper} {d:Exit->Act->World->Prop} {f:List Oper} (g:∀ e a w,e ≠ .normal->Q e a w->d e a w) (j:∀ a w,Q .normal a w->wpListIn F m P l d f a w):∀ (c:List Oper) {a:Act} {w:World},wpListIn F m P l Q c a w->wpListIn F m P l d (c++f) a w
 | [],_,_,h=>j _ _ h
 | o :: c,a,w,h=>by
  simp [wpListIn] at h ⊢;by_cases k:Region.wanted o (yielded l a.tmps)=true
  ·rw [eg k] at h ⊢;exact FU (fun a w h=>iW g j c h) g h
  simp_all [iW]
variable {t:Nat}
def Hf {A:Act} (B:∀ d,o.dst=some d->d≠t) (hK:∀ y q,y.tmps[t]? = A.tmps[t]? -> K y q -> K' y q) (h:o.wpIn F m P A w K Q):o.wpIn F m P A w K' Q:=by
 have k:∀ (D:List Deferred) v,(({ tmps:=A.tmps,defers:=D }:Act).put o.dst v).tmps[t]? = A.tmps[t]?:=fun D v=>by
  cases C:o.dst with
  | none=>rfl
  | some d=>simp [Act.put,B d C]
 refine ⟨h.1,?_⟩;have h:=h.2;generalize (o.semAt F.round A.eval).run P w=r at *;have hE:∀ (e:Ending) (g:World),(match e,g with | .returned v,g=>K (A.put o.dst v) g | .panicked j,g=>Q (.panic j) A g | .outgrown,_=>LetsOut Q) ->
   (match e,g with | .returned v,g=>K' (A.put o.dst v) g | .panicked j,g=>Q (.panic j) A g | .outgrown,_=>LetsOut Q):=fun e g p=>by
  cases e with
  | returned v=>exact hK _ _ (k A.defers v) p
  | panicked c=>exact p
  | outgrown=>exact p
 cases r with
 | ok x q=>
  cases x <;> simp [Oper.uponIn] at h ⊢;case value u=>exact hK _ _ (k A.defers _) h
  case skip=>exact hK _ _ (k A.defers _) h
  case defer=>exact hK _ _ (k _ _) h
  case enter f args=>exact ⟨h.1,CallsIn.mono h.2 hE⟩
  case row r args=>exact ⟨h.1,RowsIn.mono h.2 (fun _ _ p=>hK _ _ (k A.defers _) p)⟩
  case round l f tmps s z=>exact ⟨h.1,RoundIn.mono h.2 hE⟩
 | halt x q=>cases x <;> simp [Oper.uponIn] at h ⊢ <;> exact h
def Pf (j:Nat) (c:Bool) (o:Oper):Oper:=bif (match o.guard with | some (i,b)=>Nat.beq i j && (b == c) | none=>false) then { o with guard:=none } else o
theorem ra {F:Fence} {m:Nat} {l:Array Oper} {j t:Nat} {wt:Bool} (C:∀ A:Act,A.tmps[t]? = some (.bool wt)->yielded l A.tmps j=some wt) {D s:Oper} {c:List Oper}
  (q:∀ (A:Act) (w:World),A.tmps[t]? = some (.bool wt)->wpListIn F m P l Q (s :: c) A w->wpListIn F m P l Q (D :: c) A w) :
  ∀ (g:List Oper),(∀ o ∈ g,∀ d,o.dst=some d->d≠t)->∀ (A:Act) (w:World),A.tmps[t]? = some (.bool wt)->wpListIn F m P l Q (g.map (Pf j wt)++s :: c) A w->wpListIn F m P l Q (g++D :: c) A w
 | [],_,A,w,k,h=>q A w k h
 | o :: r,G,A,w,k,h=>by
  have u:=ra C q r fun x H=>G x (w8 _ H);have p:=G o z6;rw [O7,D0] at h;rw [D0];by_cases f:(match o.guard with | some (i,b)=>Nat.beq i j && (b == wt) | none=>false)=true
  ·have e:Pf j wt o={ o with guard:=none }:=by unfold Pf; rw [f]; rfl
   rw [e] at h;unfold wpListIn at h ⊢;have I:Region.wanted { o with guard:=none } (yielded l A.tmps)=true:=rfl;have J:Region.wanted o (yielded l A.tmps)=true:=by
    split at f
    ·rename_i i b v;simp only [pe,beq_iff_eq] at f;have L:=r7 f.1;simp [Region.wanted,v,L,f.2,C A k]
    cases f
   rw [eg I] at h;rw [eg J];have h:o.wpIn F m P A w (wpListIn F m P l Q (r.map (Pf j wt)++s :: c)) Q:=h;exact Hf (o:=o) (t:=t) p (fun y z e h=>u y z (e.trans k) h) h
  have e:Pf j wt o=o:=by unfold Pf; rw [Bool.not_eq_true] at f; rw [f]; rfl
  rw [e] at h;unfold wpListIn at h ⊢;split
  ·rename_i B;rw [eg B] at h;exact Hf (o:=o) (t:=t) p (fun y z e h=>u y z (e.trans k) h) h
  rename_i B;rw [dc B] at h;refine ⟨h.1,u _ _ ?_ h.2⟩;cases N:o.dst with
  | none=>exact k
  | some d=>simp [Act.put,p d N,k]
theorem agw {v:Value} (c:M n fr a) (d:look fr t=some v):a.tmps[t]? = some v:=by
 obtain ⟨e,f⟩:=c.2.2 t v d;have:t<a.tmps.size:=by rw [c.2.1]; exact e
 simp_all
def aL (P:Program) (n:Nat) (fr:Fr) (w:World) (e:Op) (f:TypeId) (v:Value) (h:World):Prop:=
 ∀ a d c j g,M n fr a->(execOp a.eval ⟨d,e,f,c,j,g⟩).run P w = .ok (.value v) h
def ji (P:Program) (n:Nat) (fr:Fr) (w:World) (e:Op) (f:TypeId) (h:World):Prop:=
 ∀ a d c j g,M n fr a->(execOp a.eval ⟨d,e,f,c,j,g⟩).run P w = .ok .skip h
def Enters (P:Program) (n:Nat) (fr:Fr) (w:World) (e:Op) (h:TypeId) (f:FuncId) (args:Array Value):Prop:=
 ∀ a d c j g,M n fr a->(execOp a.eval ⟨d,e,h,c,j,g⟩).run P w = .ok (.enter f args) w
variable {l rest:List Oper} {d:Nat} {op:Op} {ty:TypeId} {pos:String} {af:Array Edge}
theorem WO.nil (h:WX Q n .normal fr w):WO P Q n l [] fr w:=fun a c _ _=>⟨a,c.1,rfl,h a c⟩
theorem WO.v {v:Value} {c:World} (h:aL P n fr w op ty v c) (f:blt d n=true) (k:WO P Q n l rest ((d,v) :: fr) c):WO P Q n l (⟨some d,op,ty,pos,af,none⟩ :: rest) fr w:=fun a e=>
 jJ rfl fun K hK=>by
  rw [h a _ _ _ _ e];exact hK _ _ (k _ (e.put f))
variable {w':World}
def WO.v0 {v:Value} (h:aL P n fr w op ty v w') (k:WO P Q n l rest fr w'):WO P Q n l (⟨none,op,ty,pos,af,none⟩ :: rest) fr w:=fun a c=>
 jJ rfl fun K hK=>by
  rw [h a _ _ _ _ c];exact hK _ _ (k _ c)
theorem WO.s (h:ji P n fr w op ty w') (k:WO P Q n l rest fr w'):WO P Q n l (⟨none,op,ty,pos,af,none⟩ :: rest) fr w:=fun a c=>
 jJ rfl fun K hK=>by
  rw [h a _ _ _ _ c];exact hK _ _ (k _ c)
variable {f:FuncId} {φ:Value->World->Prop}
theorem WO.c {args:Array Value} (h:Enters P n fr w op ty f args) (j:kI P f args w φ) (p:blt d n=true) (k:∀ v w',φ v w' -> WO P Q n l rest ((d,v) :: fr) w') :
  WO P Q n l (⟨some d,op,ty,pos,af,none⟩ :: rest) fr w:=fun a g=>
 jJ rfl fun K hK=>by
  rw [h a _ _ _ _ g];exact M3 j fun e w' ⟨v,q,r⟩=>⟨v,q,hK _ _ (k v w' r _ (g.put p))⟩
def WO.c0 {args:Array Value} (h:Enters P n fr w op ty f args) (g:kI P f args w φ) (k:∀ v w',φ v w' -> WO P Q n l rest fr w') :
  WO P Q n l (⟨none,op,ty,pos,af,none⟩ :: rest) fr w:=fun a c=>
 jJ rfl fun K hK=>by
  rw [h a _ _ _ _ c];exact M3 g fun e w' ⟨v,j,p⟩=>⟨v,j,hK _ _ (k v w' p _ c)⟩
def p5:List Oper->Nat->Option Nat
 | [],_=>none
 | o :: _,0=>o.dst
 | _ :: r,i+1=>p5 r i
theorem k_:∀ (l:List Oper) (j:Nat),p5 l j=(l[j]?).bind (·.dst)
 | [],_=>rfl
 | _ :: _,0=>rfl
 | _ :: r,i+1=>k_ r i
variable {j:Nat} {b:Bool}
theorem nC (c:M n fr a) (e:p5 l j=some t) (g:look fr t=some (.bool b)):yielded l.toArray a.tmps j=some b:=by
 obtain ⟨h,k⟩:=c.2.2 t _ g;rw [k_] at e;have p:a.tmps[t]? = some (.bool b):=by
  have:t<a.tmps.size:=by rw [c.2.1]; exact h
  simp_all
 unfold yielded;grind
theorem WO.split {e g:List Oper} {wt:Bool} {x y:Operand} (s:p5 l j=some t) (u:look fr t=some (.bool wt)) (k:∀ o ∈ e,∀ d,o.dst=some d->d≠t)
  (h:WO P Q n l (e.map (Pf j wt)++⟨some d,.move (cond wt x y),ty,pos,af,none⟩ :: g) fr w):WO P Q n l (e++⟨some d,.pick (.tmp t) x y,ty,pos,af,none⟩ :: g) fr w:=fun a p v q=>by
 have z:=agw p u;refine ra (t:=t) (j:=j) (wt:=wt) (fun A r=>?_) (fun A w r h=>?_) e k _ _ (show (jy a q).tmps[t]? = some (.bool wt) from z) (h a p v q)
 ·rw [k_] at s;unfold yielded;grind
 unfold wpListIn at h ⊢;have G:Region.wanted ⟨some d,.move (cond wt x y),ty,pos,af,none⟩ (yielded l.toArray A.tmps)=true:=rfl;have H:Region.wanted ⟨some d,.pick (.tmp t) x y,ty,pos,af,none⟩ (yielded l.toArray A.tmps)=true:=rfl;refine ⟨fun f B=>(by simp [Oper.about] at B),?_⟩;have h:=h.2;rw [Oper.semAt_eq _ _ _ (fun c=>by simp)] at h ⊢;have I:(execOp A.eval ⟨some d,.move (cond wt x y),ty,pos,af,none⟩).run P w = .ok (.value (A.eval (cond wt x y))) w:=by simp [execOp]
 have C:A.eval (.tmp t) = .bool wt:=by simp [Act.eval,r]
 have D:(execOp A.eval ⟨some d,.pick (.tmp t) x y,ty,pos,af,none⟩).run P w = .ok (.value (A.eval (cond wt x y))) w:=by
  cases wt <;> simp [execOp,C,asBool]
 rw [D];exact h
variable {b':Bool}
def WO.on {dst:Option Nat} (p:p5 l j=some t) (q:look fr t=some (.bool b')) (r:b' = b) (k:WO P Q n l (⟨dst,op,ty,pos,af,none⟩ :: rest) fr w) :
  WO P Q n l (⟨dst,op,ty,pos,af,some (j,b)⟩ :: rest) fr w:=fun a e s g=>by
 have h:=k a e s g;have c:=nC (l:=l) e p q;have u:yielded l.toArray (jy a g).tmps j=_:=c;simp [wpListIn,Region.wanted,u,r] at h ⊢;exact h
theorem WO.off (h:p5 l j=some t) (p:look fr t=some (.bool b')) (s:b' = !b) (q:blt d n=true) (k:WO P Q n l rest ((d,undef) :: fr) w) :
  WO P Q n l (⟨some d,op,ty,pos,af,some (j,b)⟩ :: rest) fr w:=fun a e r g=>by
 have u:=k _ (e.put q) r g;have c:=nC (l:=l) e h p;have v:yielded l.toArray (jy a g).tmps j=_:=c;simp [wpListIn,Region.wanted,ug];grind
def WO.ag7 (p:p5 l j=some t) (q:look fr t=some (.bool b')) (r:b' = !b) (k:WO P Q n l rest fr w) :
  WO P Q n l (⟨none,op,ty,pos,af,some (j,b)⟩ :: rest) fr w:=fun a g s h=>by
 have u:=k _ g s h;have c:=nC (l:=l) g p q;have v:yielded l.toArray (jy a h).tmps j=_:=c;have e:((some b':Option Bool) == some b)=false:=by subst r; cases b <;> rfl
 simp only [wpListIn,Region.wanted,v,e];exact ⟨fun _ _=>trivial,u⟩
theorem nv (c:M n fr a) (e:p5 l j=some t) (g:look fr t=some undef):yielded l.toArray a.tmps j=none:=by
 obtain ⟨h,q⟩:=c.2.2 t _ g;rw [k_] at e;have k:a.tmps[t]? = some undef:=by
  have:t<a.tmps.size:=by rw [c.2.1]; exact h
  simp_all
 unfold yielded;have p:((l.toArray[j]?).bind (·.dst))=some t:=by simpa using e
 rw [p];simp [k,undef]
theorem WO.Z4 (h:p5 l j=some t) (p:look fr t=some undef) (q:blt d n=true) (k:WO P Q n l rest ((d,undef) :: fr) w) :
  WO P Q n l (⟨some d,op,ty,pos,af,some (j,b)⟩ :: rest) fr w:=fun a e r g=>by
 have s:=k _ (e.put q) r g;have c:=nv (l:=l) e h p;have u:yielded l.toArray (jy a g).tmps j=_:=c;simp [wpListIn,Region.wanted,ug];grind
def WO.aa6 (h:p5 l j=some t) (p:look fr t=some undef) (k:WO P Q n l rest fr w) :
  WO P Q n l (⟨none,op,ty,pos,af,some (j,b)⟩ :: rest) fr w:=fun a e q g=>by
 have r:=k _ e q g;have c:=nv (l:=l) e h p;have s:yielded l.toArray (jy a g).tmps j=_:=c;simp only [wpListIn,Region.wanted,s];exact ⟨fun _ _=>trivial,r⟩
end rules
theorem tZ:∀ (c:List Value) (k i:Nat) (v:Value),look ((range' k c.length).zip c) i=some v->k<=i/\c[i - k]? = some v
 | u :: c,k,i,v,h=>by
  simp [range'_succ] at h;rw [bg] at h;by_cases d:k=i
  ·grind
  rw [dc d] at h;obtain ⟨e,f⟩:=tZ c (k+1) i v h;grind
def xL:Nat->List Value->Fr
 | _,[]=>[]
 | k,v :: r=>(k,v) :: xL (k+1) r
theorem tn:∀ (c:List Value) (k:Nat),xL k c=(range' k c.length).zip c
 | [],_=>rfl
 | v :: r,k=>by simp [xL,range'_succ,tn r (k+1)]
variable {P:Program} {w:World}
def kI.enter {f:FuncId} {d:Func} {c:Code} {args:List Value} {l:Value->World->Prop} {fr:Fr} (q:P.funcs[f]? = some d) (r:d.body=some c) (s:d.ntmps=n)
  (j:ble args.length n=true) (k:xL 0 args=fr)
  (h:WC P (bodyPost P d fun e t=>∃ v,e = .returned v/\l v t) n c fr w):kI P f args.toArray w l:=by
 subst s;have m:args.length<=d.ntmps:=by simpa using j
 refine calls_of_wp q r (acx rfl (h _ ⟨rfl,?_,fun i v o=>?_⟩))
 ·simp; omega
 rw [<- k,tn] at o;obtain ⟨_,g⟩:=tZ args 0 i v o;rw [O5] at g;have p:i<args.length:=(r3.1 g).1;have u:args[i]=v:=by rw [p6 p] at g; exact B1 g
 simp [getD,p,u];omega
section ends
variable {P:Program} {fn:Func} {φ:Value->World->Prop} {n:Nat} {fr:Fr} {w:World}
def WX.afE (h:WX (bodyPost P fn fun e c=>∃ v,e = .returned v/\φ v c) n .ret fr w):WX (bodyPost P fn fun e c=>∃ v,e = .returned v/\φ v c) n .normal fr w:=h
def WX.QQ {v:Value} (h:∀ a,M n fr a->(results fn a.tmps).run P w = .ok v w) (c:φ v w):WX (bodyPost P fn fun e f=>∃ v,e = .returned v/\φ v f) n .ret fr w:=
 fun a d=>⟨d.1,v,h a d,v,rfl,c⟩
def WX.aiV (d:fn.results = #[]) (c:φ (.tuple #[]) w):WX (bodyPost P fn fun e f=>∃ v,e = .returned v/\φ v f) n .ret fr w:=
 WX.QQ (fun a _=>by simp [results,d]) c
def WX.Dq {t:Tmp} {v:Value} (d:fn.results = #[.tmp t]) (f:look fr t=some v) (c:φ v w):WX (bodyPost P fn fun e g=>∃ v,e = .returned v/\φ v g) n .ret fr w:=
 WX.QQ (fun a h=>by simp [results,d,h.at_ f]) c
end ends
structure Kp (S:List Nat) (w w':World):Prop where
 os:w'.os=w.os
 tape:w'.tape=w.tape
 output:w'.output=w.output
 size:w.heap.size<=w'.heap.size
 block:∀ b,b<w.heap.size->b ∉ S->w'.heap[b]? = w.heap[b]?
def Kp.refl (w:World):Kp [] w w:=⟨rfl,rfl,rfl,sh _,fun _ _ _=>rfl⟩
def Kp.trans {S T:List Nat} {a b c:World} (h:Kp S a b) (k:Kp T b c):Kp (S++T) a c:=
 ⟨k.os.trans h.os,k.tape.trans h.tape,k.output.trans h.output,z7 h.size k.size,fun i e d=>by
  simp at d;exact (k.block i (w9 e h.size) d.2).trans (h.block i e d.1)⟩
variable {b:World} {T S:List Nat}
def Kp.sub {a:World} (h:Kp S a b) (c:∀ g ∈ S,g ∈ T):Kp T a b:=
 ⟨h.os,h.tape,h.output,h.size,fun i d e=>h.block i d fun f=>e (c i f)⟩
def Kp.step {a c:World} (h:Kp S a b) (k:Kp T b c) (f:∀ g ∈ T,g ∈ S\/a.heap.size<=g):Kp S a c:=
 ⟨k.os.trans h.os,k.tape.trans h.tape,k.output.trans h.output,z7 h.size k.size,fun i d e=>(k.block i (w9 d h.size) fun j=>by
  rcases f i j with h1 | h1
  ·exact e h1
  omega).trans (h.block i d e)⟩
variable {w':World}
def Kp.below (h:Kp [] w w'):Below w.heap.size w w':=⟨h.os,h.tape,h.output,h.size,fun b c=>h.block b c aa⟩
def Kp.drew {S:List Nat} {a w:World} (h:Kp S a w):Kp S a w.drew:=⟨h.os,h.tape,h.output,h.size,h.block⟩
theorem Kp.alloc (w:World) (o:Obj):Kp [] w (w.alloc o):=⟨rfl,rfl,rfl,aa,fun b c _=>Below.heap_alloc w o b c⟩
def Kp.Mw (h:w.grownBy w' none):Kp [] w w':=⟨h.os,h.tape,h.output,h.size,fun b c _=>h.block b c aa⟩
section
variable {w w':World} {g:Nat} {t:TypeId} {cs:List Value}
end
def Kp.setRow (w:World) (g:Nat) (c:Array Value):Kp [g] w (w.setRow g c):=⟨rfl,rfl,rfl,aa,fun b _ d=>setRow_other w g b c (by simpa using d)⟩
def ie (w:World) (a:Addr) (c:List Value):Prop:=∀ j v,c[j]? = some v->w.cell? (a.add j)=some v
theorem add_add (a:Addr) (i j:Nat):(a.add i).add j=a.add (i+j):=by
 unfold Addr.add;grind
def gI (a:Addr) (n:Nat):(a.add n).block=a.block:=by unfold Addr.add; split <;> rfl
theorem add_lit (g i j:Nat):(⟨g,i,none⟩:Addr).add j=⟨g,i+j,none⟩:=by unfold Addr.add; split <;> simp_all
section
variable {w w':World} {a:Addr} {cs:List Value}
def ie.dm (h:ie w a cs) (k:w'.heap[a.block]? = w.heap[a.block]?):ie w' a cs:=fun j v c=>by
 exact (World.cell?_of_block (a:=a.add j) (by rw [gI]; exact k)).trans (h j v c)
def ie.shift (h:ie w a cs) (i:Nat):ie w (a.add i) (cs.drop i):=fun j v c=>by
 rw [add_add]; exact h _ _ (by rw [<- c,C7])
def ie.take (h:ie w a cs) (i:Nat):ie w a (cs.take i):=fun j v c=>h j v (by
 rw [E0] at c; split at c
 ·exact c
 cases c)
theorem ie.one (h:ie w a cs) {j:Nat} {v:Value} (c:cs[j]? = some v):w.cell? (a.add j)=some v:=h j v c
theorem ie.nil:ie w a []:=fun j v c=>by simp at c
end
def a7 (n:Int):Prop:=-9223372036854775808<=n/\n<=9223372036854775807
inductive hQ {α β:Type} (R:α->β->Prop):List α->List β->Prop
 | nil:hQ R [] []
 | cons {a:α} {b:β} {asx:List α} {bs:List β}:R a b->hQ R asx bs->hQ R (a :: asx) (b :: bs)
section
variable {α β:Type} {R R':α->β->Prop}
def hQ.imp {c:List α} {d:List β} (h:hQ R c d) (e:∀ a b,R a b->R' a b):hQ R' c d:=by
 induction h with
 | nil=>exact .nil
 | cons h _ f=>exact .cons (e _ _ h) f
theorem hQ.length {c:List α} {d:List β} (h:hQ R c d):c.length=d.length:=by
 induction h with
 | nil=>rfl
 | cons _ _ e=>simp [e]
theorem hQ.get {c:List α} {d:List β} (h:hQ R c d):∀ (i:Nat) (b:β),d[i]? = some b->∃ a,c[i]? = some a/\R a b:=by
 induction h with
 | nil=>intro i b e; simp at e
 | cons h _ f=>
  grind
def hQ.append {d c:List α} {f e:List β} (h:hQ R d f) (g:hQ R c e):hQ R (d++c) (f++e):=by
 induction h with
 | nil=>exact g
 | cons h _ j=>exact .cons h j
def hQ.take {c:List α} {d:List β} (h:hQ R c d):∀ n,hQ R (c.take n) (d.take n):=by
 induction h with
 | nil=>intro n; simp; exact .nil
 | cons h _ e=>intro n; cases n with
  | zero=>exact .nil
  | succ n=>exact .cons h (e n)
def hQ.drop {c:List α} {d:List β} (h:hQ R c d):∀ n,hQ R (c.drop n) (d.drop n):=by
 induction h with
 | nil=>intro n; simp; exact .nil
 | cons h e f=>intro n; cases n with
  | zero=>exact .cons h e
  | succ n=>exact f n
def hQ.set {c:List α} {d:List β} (h:hQ R c d):∀ (i:Nat) {a:α} {b:β},R a b->hQ R (c.set i a) (d.set i b):=by
 induction h with
 | nil=>intro i a b _; exact .nil
 | cons h f g=>intro i a b e; cases i with
  | zero=>exact .cons e f
  | succ i=>exact .cons h (g i e)
end
class Rp (α:Type) where
 sz:Nat
 K6:Nat
 tid:TypeId
 rp:Bool->Nat->Nat->World->List Value->α->Prop
 len:∀ {o lo hi w cs x},rp o lo hi w cs x->cs.length=sz
 one:∀ {o lo hi w cs x},rp o lo hi w cs x->∀ u ∈ cs,u.oneCell' = true
 dm:∀ {o lo hi w w' cs x},rp o lo hi w cs x->(∀ b,lo<=b->b<hi->w'.heap[b]? = w.heap[b]?)->rp o lo hi w' cs x
 mono:∀ {o lo hi lo' hi' w cs x},rp o lo hi w cs x->lo' <= lo->hi<=hi' -> rp o lo' hi' w cs x
 A8:∀ {o lo hi w cs x},rp o lo hi w cs x->rp false lo hi w cs x
 inner:List TypeId
 mrk:Nat × Nat->Prop:=fun fr=>fr=(0,0)
 xab:mrk (0,0):=by exact rfl
 x9:∀ {o lo hi w w' cs x},rp o lo hi w cs x->(inner=[]\/o=true)->(∀ b cur t fr,lo<=b->b<hi->w.heap[b]? = some (.cells cur t fr)->t ∈ inner->w'.heap[b]? = w.heap[b]?)->rp o lo hi w' cs x
def Sl {d:Type} [Rp d] (o:Bool) (lo j:Nat) (w:World) (v:Value) (e:List d):Prop:=
 ∃ a c f,v = .slice a e.length c/\e.length<=c/\(c<=maxLen/\e.length*Rp.K6 d<=140737488355328)/\hQ (Rp.rp o lo j w) f e /\
  (e=[]\/∃ A:Addr,a=some A/\lo<=A.block/\A.block<j/\ie w A f.flatten) /\
  (o=true->c=0\/∃ g h fr,a=some ⟨g,0,none⟩/\lo<=g/\g<j/\(w.heap[g]? = some (.cells h (Rp.tid d) fr)/\Rp.mrk d fr)/\h.size=c*Rp.sz d)
section
variable {α:Type} [Rp α] {o:Bool} {lo hi:Nat} {w w':World} {v:Value} {xs:List α}
theorem Sl.dm (h:Sl o lo hi w v xs) (k:∀ b,lo<=b->b<hi->w'.heap[b]? = w.heap[b]?):Sl o lo hi w' v xs:=by
 obtain ⟨a,c,f,j,l,m,p,g,s⟩:=h;refine ⟨a,c,f,j,l,m,p.imp fun _ _ h=>Rp.dm h k,?_,fun t=>?_⟩
 ·rcases g with g | ⟨A,q,d,e,r⟩
  ·grind
  exact .inr ⟨A,q,d,e,r.dm (k _ d e)⟩
 grind
theorem Sl.mono {d e:Nat} (h:Sl o lo hi w v xs) (g:d <= lo) (j:hi<=e):Sl o d e w v xs:=by
 obtain ⟨a,c,f,k,l,m,p,q,r⟩:=h;refine ⟨a,c,f,k,l,m,p.imp fun _ _ h=>Rp.mono h g j,?_,fun s=>?_⟩
 ·grind
 grind
def Sl.A8 (h:Sl o lo hi w v xs):Sl false lo hi w v xs:=by
 obtain ⟨a,c,d,e,f,g,j,k,_⟩:=h;exact ⟨a,c,d,e,f,g,j.imp fun _ _ h=>Rp.A8 h,k,fun l=>by cases l⟩
theorem Sl.x9 (h:Sl true lo hi w v xs) (k:∀ b d t fr,lo<=b->b<hi->w.heap[b]? = some (.cells d t fr)->t ∈ Rp.tid α :: Rp.inner α->w'.heap[b]? = w.heap[b]?):Sl true lo hi w' v xs:=by
 obtain ⟨a,c,j,u,x,y,p,q,z⟩:=h;refine ⟨a,c,j,u,x,y,p.imp fun _ _ h=>Rp.x9 h (.inr rfl) fun b d t fr B C D F=>k b d t fr B C D (w8 _ F),?_,fun _=>?_⟩
 ·rcases q with q | ⟨A,r,l,m,G⟩
  ·grind
  refine .inr ⟨A,r,l,m,?_⟩;rcases z rfl with J | ⟨g,d,fr,s,e,f,H,K⟩
  ·have I:xs=[]:=B7 az;subst I;cases p;exact ie.nil
  rw [r] at s;cases s;exact G.dm (k _ _ _ _ e f H.1 aa)
 grind
theorem Sl.form (h:Sl o lo hi w v xs):∃ a c,v = .slice a xs.length c/\xs.length<=c/\c<=maxLen:=by
 obtain ⟨a,c,d,e,f,g,_⟩:=h;grind
theorem Sl.one (h:Sl o lo hi w v xs):v.oneCell' = true:=by
 obtain ⟨a,c,rfl,_⟩:=h.form;rfl
end
instance:Rp Int where
 sz:=1
 K6:=8
 tid:=3
 rp _ _ _ _ cs x:=cs=[.int .i64 x]/\a7 x
 len h:=by rw [h.1]; rfl
 one h:=by rw [h.1]; simp [oneCell']
 dm h _:=h
 mono h _ _:=h
 A8 h:=h
 inner:=[]
 x9 h _ _:=h
instance:Rp Bool where
 sz:=1
 K6:=1
 tid:=4
 rp _ _ _ _ cs x:=cs=[.bool x]
 len h:=by rw [h]; rfl
 one h:=by rw [h]; simp [oneCell']
 dm h _:=h
 mono h _ _:=h
 A8 h:=h
 inner:=[]
 x9 h _ _:=h
instance:Rp UInt8 where
 sz:=1
 K6:=1
 tid:=5
 rp _ _ _ _ cs x:=cs=[.int .u8 x.toNat]
 len h:=by rw [h]; rfl
 one h:=by rw [h]; simp [oneCell']
 dm h _:=h
 mono h _ _:=h
 A8 h:=h
 mrk _:=True
 xab:=trivial
 inner:=[]
 x9 h _ _:=h
structure y1 where
 n:Nat
deriving DecidableEq
instance:Rp y1 where
 sz:=1
 K6:=8
 tid:=173
 rp _ _ _ _ cs x:=cs=[.int .u64 x.n]/\x.n<18446744073709551616
 len h:=by rw [h.1]; rfl
 one h:=by rw [h.1]; simp [oneCell']
 dm h _:=h
 mono h _ _:=h
 A8 h:=h
 inner:=[]
 x9 h _ _:=h
structure o3 where
 b:List UInt8
deriving DecidableEq
def o3.val (s:o3):Value:=.string ⟨s.b.toArray⟩
instance:Rp o3 where
 sz:=1
 K6:=16
 tid:=9
 rp _ _ _ _ cs x:=cs=[x.val]/\x.b.length<=140737488355328
 len h:=by rw [h.1]; rfl
 one h:=by rw [h.1]; simp [oneCell',o3.val]
 dm h _:=h
 mono h _ _:=h
 A8 h:=h
 inner:=[]
 x9 h _ _:=h
instance (priority:=low) listRp {α:Type} [Rp α]:Rp (List α) where
 sz:=1
 K6:=24
 tid:=0
 rp o lo hi w cs xs:=∃ v,cs=[v]/\Sl o lo hi w v xs
 len h:=by obtain ⟨v,rfl,_⟩:=h; rfl
 one h:=by obtain ⟨v,rfl,h⟩:=h; simp [h.one]
 dm h k:=by obtain ⟨v,rfl,h⟩:=h; exact ⟨v,rfl,h.dm k⟩
 mono h h1 h2:=by obtain ⟨v,rfl,h⟩:=h; exact ⟨v,rfl,h.mono h1 h2⟩
 A8 h:=by obtain ⟨v,rfl,h⟩:=h; exact ⟨v,rfl,h.A8⟩
 inner:=Rp.tid α :: Rp.inner α
 x9 h ho k:=by
  obtain ⟨v,rfl,h⟩:=h
  have ho':=ho.resolve_left (by simp)
  subst ho'
  exact ⟨v,rfl,h.x9 k⟩
instance pairRp {α β:Type} [Rp α] [Rp β]:Rp (α × β) where
 K6:=0
 sz:=Rp.sz α+Rp.sz β
 tid:=0
 rp o lo hi w cs x:=∃ c1 c2,cs=c1++c2/\Rp.rp o lo hi w c1 x.1/\Rp.rp o lo hi w c2 x.2
 len h:=by obtain ⟨c1,c2,rfl,h1,h2⟩:=h; rw [r5,Rp.len h1,Rp.len h2]
 one h:=by
  obtain ⟨c1,c2,rfl,h1,h2⟩:=h
  intro u hu
  rcases y2.1 hu with hu | hu
  ·exact Rp.one h1 u hu
  ·exact Rp.one h2 u hu
 dm h k:=by obtain ⟨c1,c2,rfl,h1,h2⟩:=h; exact ⟨c1,c2,rfl,Rp.dm h1 k,Rp.dm h2 k⟩
 mono h ha hb:=by obtain ⟨c1,c2,rfl,h1,h2⟩:=h; exact ⟨c1,c2,rfl,Rp.mono h1 ha hb,Rp.mono h2 ha hb⟩
 A8 h:=by obtain ⟨c1,c2,rfl,h1,h2⟩:=h; exact ⟨c1,c2,rfl,Rp.A8 h1,Rp.A8 h2⟩
 inner:=Rp.inner α++Rp.inner β
 x9 h ho k:=by
  obtain ⟨c1,c2,rfl,h1,h2⟩:=h
  exact ⟨c1,c2,rfl,Rp.x9 h1 (ho.imp (fun h=>(List.append_eq_nil_iff.1 h).1) id) fun b cur t fr a1 a2 a3 a4=>k b cur t fr a1 a2 a3 (B9 _ a4),
   Rp.x9 h2 (ho.imp (fun h=>(List.append_eq_nil_iff.1 h).2) id) fun b cur t fr a1 a2 a3 a4=>k b cur t fr a1 a2 a3 (C6 _ a4)⟩
section
variable {α:Type} [Rp α] {o:Bool} {lo hi:Nat} {w w':World} {cs:List Value} {x:α}
variable {v:Value} {xs:List α}
end
theorem a7.wrap {x:Int} (h:a7 x):IntKind.i64.wrap x=x:=IntWalk.i64_in x ⟨h.1,h.2⟩
variable {m:Nat}
def EY (h:m<256):IntKind.u8.wrap (m:Int)=m:=by
 simp only [IntKind.wrap,IntKind.bits,IntKind.signed];simp;omega
section
variable {P:Program} {n:Nat} {fr:Fr} {w:World} {x y z:Operand} {ty t t':TypeId}
def R.move {v:Value} (c:ev fr x=some v):aL P n fr w (.move x) ty v w:=fun a _ _ _ _ d=>by simp [execOp,d.ev c]
def R.assign {v:Value} (c:ev fr x=some v):aL P n fr w (.assign x) ty v w:=fun a _ _ _ _ d=>by simp [execOp,d.ev c]
variable {b:Bool}
def R.AM {v:Value} (d:ev fr z=some (.bool b)) (e:b=true) (f:ev fr x=some v):aL P n fr w (.pick z x y) ty v w:=fun a _ _ _ _ c=>by
 subst e; simp [execOp,c.ev d,c.ev f,asBool]
def R.DK {v:Value} (d:ev fr z=some (.bool b)) (e:b=false) (f:ev fr y=some v):aL P n fr w (.pick z x y) ty v w:=fun a _ _ _ _ c=>by
 subst e; simp [execOp,c.ev d,c.ev f,asBool]
def R.not {b:Bool} (c:ev fr x=some (.bool b)):aL P n fr w (.unOp .not t x) ty (.bool (!b)) w:=fun a _ _ _ _ d=>by
 simp [execOp,d.ev c,Op.unary]
section ints
variable {k:IntKind} {a b:Int}
def R.lss (d:ev fr x=some (.int k a)) (e:ev fr y=some (.int k b)):aL P n fr w (.binOp .lss t x y t') ty (.bool (decide (a<b))) w:=fun _ _ _ _ _ c=>by
 simp [execOp,c.ev d,c.ev e,eqGuard_lss,binOp_lss]
def R.leq (d:ev fr x=some (.int k a)) (e:ev fr y=some (.int k b)):aL P n fr w (.binOp .leq t x y t') ty (.bool (decide (a<=b))) w:=fun _ _ _ _ _ c=>by
 simp [execOp,c.ev d,c.ev e,eqGuard_leq,binOp_leq]
def R.gtr (d:ev fr x=some (.int k a)) (e:ev fr y=some (.int k b)):aL P n fr w (.binOp .gtr t x y t') ty (.bool (decide (b<a))) w:=fun _ _ _ _ _ c=>by
 simp [execOp,c.ev d,c.ev e,eqGuard_gtr,binOp_gtr]
def R.geq (d:ev fr x=some (.int k a)) (e:ev fr y=some (.int k b)):aL P n fr w (.binOp .geq t x y t') ty (.bool (decide (b<=a))) w:=fun _ _ _ _ _ c=>by
 simp [execOp,c.ev d,c.ev e,eqGuard_geq,binOp_geq]
theorem R.eql (d:ev fr x=some (.int k a)) (e:ev fr y=some (.int k b)):aL P n fr w (.binOp .eql t x y t') ty (.bool (decide (a=b))) w:=fun _ _ _ _ _ c=>by
 simp [execOp,c.ev d,c.ev e,binOp_eql]; rfl
theorem R.neq (d:ev fr x=some (.int k a)) (e:ev fr y=some (.int k b)):aL P n fr w (.binOp .neq t x y t') ty (.bool (!decide (a=b))) w:=fun _ _ _ _ _ c=>by
 simp [execOp,c.ev d,c.ev e,binOp_neq]; rfl
def R.XO (d:ev fr x=some (.int k a)) (e:ev fr y=some (.int k b)):aL P n fr w (.binOp .add t x y t') ty (.int k (k.wrap (a+b))) w:=fun _ _ _ _ _ c=>by
 simp [execOp,c.ev d,c.ev e,eqGuard_add,binOp_add,Op.intArith]
def R.akb (d:ev fr x=some (.int k a)) (e:ev fr y=some (.int k b)):aL P n fr w (.binOp .sub t x y t') ty (.int k (k.wrap (a - b))) w:=fun _ _ _ _ _ c=>by
 simp [execOp,c.ev d,c.ev e,eqGuard_sub,binOp_sub,Op.intArith]
def R.aka (d:ev fr x=some (.int k a)) (e:ev fr y=some (.int k b)):aL P n fr w (.binOp .mul t x y t') ty (.int k (k.wrap (a*b))) w:=fun _ _ _ _ _ c=>by
 simp [execOp,c.ev d,c.ev e,eqGuard_mul,binOp_mul,Op.intArith]
theorem R.add (c:ev fr x=some (.int .i64 a)) (d:ev fr y=some (.int .i64 b)) (h:a7 (a+b)):aL P n fr w (.binOp .add t x y t') ty (.int .i64 (a+b)) w:=by
 have:=R.XO (P:=P) (n:=n) (w:=w) (ty:=ty) (t:=t) (t':=t') c d;rwa [h.wrap] at this
def R.sub (c:ev fr x=some (.int .i64 a)) (d:ev fr y=some (.int .i64 b)) (h:a7 (a - b)):aL P n fr w (.binOp .sub t x y t') ty (.int .i64 (a - b)) w:=by
 have:=R.akb (P:=P) (n:=n) (w:=w) (ty:=ty) (t:=t) (t':=t') c d;rwa [h.wrap] at this
def R.mul (c:ev fr x=some (.int .i64 a)) (d:ev fr y=some (.int .i64 b)) (h:a7 (a*b)):aL P n fr w (.binOp .mul t x y t') ty (.int .i64 (a*b)) w:=by
 have:=R.aka (P:=P) (n:=n) (w:=w) (ty:=ty) (t:=t) (t':=t') c d;rwa [h.wrap] at this
def R.conv {c:IntKind} {d:TypeDesc} (e:ev fr x=some (.int k a)) (f:P.underlying t=some d) (g:P.underlying t' = some (.int c)):aL P n fr w (.convert t t' x) ty (.int c (c.wrap a)) w:=fun _ _ _ _ _ h=>by
 simp [execOp,h.ev e,convert,A5 f,A5 g,Conv.intToInt]
variable {asx:Array TypeId}
def R.min2 (d:ev fr x=some (.int k a)) (e:ev fr y=some (.int k b)):aL P n fr w (.call { callee:=.builtin .min,args:=#[x,y],argTypes:=asx }) ty (.int k (min a b)) w:=fun _ _ _ _ _ c=>by
 simp [execOp,resolve,invoke,builtin,c.ev d,c.ev e,run_min_int2];split <;> omega
def R.max2 (d:ev fr x=some (.int k a)) (e:ev fr y=some (.int k b)):aL P n fr w (.call { callee:=.builtin .max,args:=#[x,y],argTypes:=asx }) ty (.int k (max a b)) w:=fun _ _ _ _ _ c=>by
 simp [execOp,resolve,invoke,builtin,c.ev d,c.ev e,run_max_int2];split <;> omega
theorem R.oL {a b:Nat} (c:ev fr x=some (.int .i64 (a:Int))) (d:ev fr y=some (.int .i64 (b:Int))) (h:a+b<=9223372036854775807):aL P n fr w (.binOp .add t x y t') ty (.int .i64 ((a+b:Nat):Int)) w:=by
 have:=R.add (P:=P) (n:=n) (w:=w) (ty:=ty) (t:=t) (t':=t') c d ⟨az,az⟩;grind
theorem R.aiH {a b:Nat} (c:ev fr x=some (.int .i64 (a:Int))) (d:ev fr y=some (.int .i64 (b:Int))) (h:b<=a) (e:a<=9223372036854775807):aL P n fr w (.binOp .sub t x y t') ty (.int .i64 ((a - b:Nat):Int)) w:=by
 have:=R.sub (P:=P) (n:=n) (w:=w) (ty:=ty) (t:=t) (t':=t') c d ⟨az,az⟩;grind
def R.YE {a b:Nat} (f:ev fr x=some (.int k (a:Int))) (g:ev fr y=some (.int k (b:Int))) (h:0<b):aL P n fr w (.binOp .rem t x y t') ty (.int k ((a % b:Nat):Int)) w:=fun _ _ _ _ _ d=>by
 have c:¬ b=0:=by omega
 have e:(a:Int).tmod b=((a % b:Nat):Int):=by rw [Int.tmod_eq_emod_of_nonneg az]; omega
 simp [execOp,d.ev f,d.ev g,eqGuard_rem,binOp_rem,Op.intDiv,c,e]
def R.Yn {a b:Nat} (e:ev fr x=some (.int k (a:Int))) (f:ev fr y=some (.int k (b:Int))) (h:0<b) (g:k.wrap ((a / b:Nat):Int)=((a / b:Nat):Int)):aL P n fr w (.binOp .quo t x y t') ty (.int k ((a / b:Nat):Int)) w:=fun _ _ _ _ _ d=>by
 have c:¬ b=0:=by omega
 simp [execOp,d.ev e,d.ev f,eqGuard_quo,binOp_quo,Op.intDiv,c];simpa using g
def R.ad1 {b:UInt8} {d:TypeDesc} (c:ev fr x=some (.int .u8 (b.toNat:Int))) (e:P.underlying t=some d) (f:P.underlying t' = some (.int .i64)):aL P n fr w (.convert t t' x) ty (.int .i64 (b.toNat:Int)) w:=by
 have:=R.conv (P:=P) (n:=n) (w:=w) (ty:=ty) c e f
 have g:=b.toNat_lt;rwa [a7.wrap ⟨az,az⟩] at this
theorem R.agx {a b:UInt8} (g:ev fr x=some (.int .u8 (a.toNat:Int))) (h:ev fr y=some (.int .u8 (b.toNat:Int))):aL P n fr w (.binOp .and t x y t') ty (.int .u8 ((a &&& b).toNat:Int)) w:=fun _ _ _ _ _ d=>by
 have e:bits .and .u8 (a.toNat:Int) (b.toNat:Int)=((a &&& b).toNat:Int):=by
  have f:∀ c:UInt8,(BitVec.ofInt 8 (c.toNat:Int))=c.toBitVec:=fun c=>by
   simp_all
  show IntKind.u8.wrap ((BitVec.ofInt 8 (a.toNat:Int) &&& BitVec.ofInt 8 (b.toNat:Int)).toNat:Int)=_;rw [f,f,<- UInt8.toBitVec_and];have:=(a &&& b).toNat_lt;exact EY this
 simp [execOp,d.ev g,d.ev h,eqGuard_and,binOp_and,intBits_and,e]
end ints
variable {a:Bool}
def R.amx (d:ev fr x=some (.bool a)) (e:ev fr y=some (.bool b)) (f:P.underlying t=some .bool):aL P n fr w (.binOp .eql t x y t') ty (.bool (a == b)) w:=fun _ _ _ _ _ c=>by
 simp [execOp,c.ev d,c.ev e,eqGuard_at_bool,run_eql_bool _ _ _ _ f]
def R.amm (d:ev fr x=some (.bool a)) (e:ev fr y=some (.bool b)) (f:P.underlying t=some .bool):aL P n fr w (.binOp .neq t x y t') ty (.bool (!(a == b))) w:=fun _ _ _ _ _ c=>by
 simp [execOp,c.ev d,c.ev e,eqGuard_at_bool,run_neq_bool _ _ _ _ f]
variable {b a:o3}
def R.alT (d:ev fr x=some a.val) (f:ev fr y=some b.val):aL P n fr w (.binOp .eql t x y t') ty (.bool (decide (a=b))) w:=fun _ _ _ _ _ c=>by
 have e:(a.b == b.b)=decide (a=b):=by
  rw [E2];cases a; cases b; simp
 simp [execOp,c.ev d,c.ev f,o3.val,eqGuard_at_string,binOp,Op.stringOp,e]
def R.aoP (d:ev fr x=some a.val) (f:ev fr y=some b.val):aL P n fr w (.binOp .neq t x y t') ty (.bool (!decide (a=b))) w:=fun _ _ _ _ _ c=>by
 have e:(a.b == b.b)=decide (a=b):=by
  rw [E2];cases a; cases b; simp
 simp [execOp,c.ev d,c.ev f,o3.val,eqGuard_at_string,binOp,Op.stringOp,e]
theorem R.extract {c:Array Value} {v:Value} {i:Nat} (d:ev fr x=some (.tuple c)) (e:c[i]? = some v):aL P n fr w (.extract x i) ty v w:=fun _ _ _ _ _ f=>by
 simp [execOp,f.ev d,Instr.extract,e]
def R.qJ {a:Addr} (c:ev fr x=some (.pointer (some a))):aL P n fr w (.nilCheck x) ty (.pointer (some a)) w:=fun _ _ _ _ _ d=>by
 simp [execOp,d.ev c]
def R.Lb {f:FuncId} {a c:Array Value} (d:ev fr x=some (.func (.func f) a c)):aL P n fr w (.nilCheck x) ty (.func (.func f) a c) w:=fun _ _ _ _ _ e=>by
 simp [execOp,e.ev d]
theorem R.makeFunc {f:FuncId} {c:Array Operand} {cv:Array Value} (h:∀ a,M n fr a->c.map a.eval=cv):aL P n fr w (.makeFunc (.func f) #[] c) ty (.func (.func f) #[] cv) w:=fun _ _ _ _ _ d=>by
 simp [execOp,Instr.makeFunc,h _ d]
theorem R.len {a:Option Addr} {m c:Nat} {e:TypeId} (d:ev fr x=some (.slice a m c)) (f:P.underlying t=some (.slice e)):aL P n fr w (.call { callee:=.builtin .len,args:=#[x],argTypes:=#[t] }) ty (.int .i64 (m:Int)) w:=fun _ _ _ _ _ g=>by
 simp [execOp,resolve,invoke,builtin,g.ev d,Builtin.len_,A5 f,goInt]
def R.anw {s:o3} (c:ev fr x=some s.val) (d:P.underlying t=some .string):aL P n fr w (.call { callee:=.builtin .len,args:=#[x],argTypes:=#[t] }) ty (.int .i64 (s.b.length:Int)) w:=fun _ _ _ _ _ e=>by
 simp [execOp,resolve,invoke,builtin,e.ev c,Builtin.len_,A5 d];rfl
variable {e:TypeId} {a:Option Addr}
def R.SG {c:Nat} (f:ev fr x=some (.slice a m c)) (g:ev fr y=some (.slice none 0 0)) (h:P.underlying t=some (.slice e)):aL P n fr w (.binOp .eql t x y t') ty (.bool a.isNone) w:=fun _ _ _ _ _ d=>by
 simp [execOp,d.ev f,d.ev g,eqGuard_at_slice,Lib.run_eql_slice_nil w t e a m c 0 0 h]
def R.TX {c:Nat} (f:ev fr x=some (.slice a m c)) (g:ev fr y=some (.slice none 0 0)) (h:P.underlying t=some (.slice e)):aL P n fr w (.binOp .neq t x y t') ty (.bool (!a.isNone)) w:=fun _ _ _ _ _ d=>by
 simp [execOp,d.ev f,d.ev g,eqGuard_at_slice,run_neq_slice_nil_any w t e a m c 0 0 h]
def R.build {d:Array (Nat × Operand)} {pv:List (Nat × Value)} {c:Array Value} (f:∀ a,M n fr a->(d.map fun p=>(p.1,a.eval p.2))=pv.toArray) (g:P.built t pv=some c) :
  aL P n fr w (.build t d) ty (.agg c) w:=fun _ _ _ _ _ h=>by
 have j:=run_build (P:=P) w t pv.toArray c (by simpa using g);simp [execOp,f _ h,j]
def ly:TypeDesc->Bool | .struct _=>true | .array _ _=>true | _=>false
theorem mJ {d:TypeDesc} (c:P.underlying t=some d) (w:World):(isAgg t).run P w = .ok (ly d) w:=by
 unfold isAgg;rw [Q7,A5 c w];cases d <;> rfl
variable {a:Addr}
theorem BX {v:Value} {d:TypeDesc} (c:P.underlying t=some d) (f:ly d=false) (g:w.cell? a=some v):(loadVar t a).run P w = .ok v w:=by
 simp [loadVar,mJ c,f,g]
variable {cs:List Value}
theorem AG {d:TypeDesc} (g:P.underlying t=some d) (h:ly d=true) (f:(P.info? t).map (·.size)=some cs.length) (j:ie w a cs):(loadVar t a).run P w = .ok (.agg cs.toArray) w:=by
 cases c:P.info? t with
 | none=>simp [c] at f
 | some i=>
  have k:i.size=cs.length:=by simpa [c] using f
  simp [loadVar,mJ g,h,sizeOf,typeInfo,c,k,T5 (P:=P) w a cs j]
def R.aaL {v:Value} {d:TypeDesc} (c:ev fr x=some (.pointer (some a))) (f:P.underlying t=some d) (g:ly d=false) (h:w.cell? a=some v):aL P n fr w (.load t x) ty v w:=fun _ _ _ _ _ j=>by
 simp [execOp,j.ev c,Instr.loadAt,Instr.sureAddr,BX f g h]
def R.abS {d:TypeDesc} (c:ev fr x=some (.pointer (some a))) (f:P.underlying t=some d) (g:ly d=true) (h:(P.info? t).map (·.size)=some cs.length) (j:ie w a cs) :
  aL P n fr w (.load t x) ty (.agg cs.toArray) w:=fun _ _ _ _ _ k=>by
 simp [execOp,k.ev c,Instr.loadAt,Instr.sureAddr,AG f g h j]
theorem uM {f:Field} {s:Nat} (d:(P.info? f.type).map (·.size)=some (s+1)):(fieldPlace a f).run P w = .ok (a.add f.offset) w:=by
 cases c:P.info? f.type with
 | none=>simp [c] at d
 | some i=>
  have:i.size=s+1:=by simpa [c] using d
  simp [fieldPlace,sizeOf,typeInfo,c,this]
def R.fieldAddr {a:Addr} {c:Array Field} {i j s:Nat} {f:Field} (d:ev fr x=some (.pointer (some a))) (g:P.underlying t=some (.struct c)) (h:c[i]? = some f) (k:f.offset=j) (l:(P.info? f.type).map (·.size)=some (s+1)) :
  aL P n fr w (.fieldAddr t x i) ty (.pointer (some (a.add j))) w:=fun _ _ _ _ _ o=>by
 subst k;simp [execOp,o.ev d,Instr.fieldAt,A5 g,h,Instr.sureAddr,uM l]
def R.indexAddr {a:Option Addr} {A:Addr} {m c:Nat} {k:IntKind} {i:Int} {e:TypeId} {s:Nat} (h:ev fr x=some (.slice a m c)) (j:ev fr y=some (.int k i)) (l:P.underlying t=some (.slice e)) (f:(P.info? e).map (·.size)=some s)
  (o:a=some A) (p:0<=i) (r:i<(m:Int)):aL P n fr w (.indexAddr t x y) ty (.pointer (some (A.add (i.toNat*s)))) w:=fun _ _ _ _ _ g=>by
 subst o;cases d:P.info? e with
 | none=>simp [d] at f
 | some q=>
  have:q.size=s:=by simpa [d] using f
  simp [execOp,g.ev h,g.ev j,Instr.indexAt,A5 l,asIntOf,p,r,sizeOf,typeInfo,d,this]
theorem R.kR {a:Option Addr} {A:Addr} {c:Nat} {k:IntKind} {s:Nat} (d:ev fr x=some (.slice a m c)) (f:ev fr y=some (.int k (i:Int))) (g:P.underlying t=some (.slice e)) (h:(P.info? e).map (·.size)=some s)
  (j:a=some A) (l:i<m):aL P n fr w (.indexAddr t x y) ty (.pointer (some (A.add (i*s)))) w:=by
 have:=R.indexAddr (P:=P) (n:=n) (w:=w) (ty:=ty) d f g h j az az;grind
variable {Q:Exit->Act->World->Prop} {l rest:List Oper} {d:Nat} {pos:String} {af:Array Edge}
def Vz (fr:Fr):List Operand->Option (List Value)
 | []=>some []
 | x :: r=>
  match ev fr x,Vz fr r with
  | some v,some c=>some (v :: c)
  | _,_=>none
theorem oe {a:Act} (g:M n fr a):∀ {j:List Operand} {c:List Value},Vz fr j=some c->j.map a.eval=c
 | [],c,h=>by simp [Vz] at h; subst h; rfl
 | x :: r,c,h=>by
  simp [Vz] at h;split at h
  ·rename_i v k o f;cases h;simp [g.ev o,oe g f]
  cases h
def RG (fr:Fr):List (Nat × Operand)->Option (List (Nat × Value))
 | []=>some []
 | (i,x) :: r=>
  match ev fr x,RG fr r with
  | some v,some c=>some ((i,v) :: c)
  | _,_=>none
theorem zX {a:Act} (g:M n fr a):∀ {j:List (Nat × Operand)} {c:List (Nat × Value)},RG fr j=some c->j.map (fun p=>(p.1,a.eval p.2))=c
 | [],c,h=>by simp [RG] at h; subst h; rfl
 | (i,x) :: r,c,h=>by
  simp [RG] at h;split at h
  ·rename_i v k o f;cases h;simp [g.ev o,zX g f]
  cases h
def R.qn {c:List (Nat × Operand)} {pv:List (Nat × Value)} {cells:Array Value} (f:RG fr c=some pv) (g:P.built t pv=some cells):aL P n fr w (.build t c.toArray) ty (.agg cells) w:=
 R.build (pv:=pv) (fun a h=>by simp [<- zX h f]) g
theorem uw (s:Nat):∀ (f:List (List Value)) (k:Nat) (pre post:List Value),(∀ vs ∈ f,vs.length=s)->pre.length=k*s->post.length=f.length*s->∀ (pv:List (Nat × Value)),pv.map (fun p=>(p.1,p.2.cells.toList))=(range' k f.length).zip f ->
  Instr.fill (fun i=>some (i*s,s)) (pre++post).toArray pv=some (pre++f.flatten).toArray
 | [],k,pre,post,_,_,g,pv,h=>by
  have:pv=[]:=by simpa using h
  subst this;have:post=[]:=by simpa using g
  subst this;simp [Instr.fill]
 | vs :: f,k,pre,post,B,o,g,[],h=>by simp at h
 | vs :: f,k,pre,post,B,o,g,(i,v) :: pv,h=>by
  simp [range'_succ] at h;obtain ⟨⟨J,G⟩,h⟩:=h;subst J;have q:vs.length=s:=B vs aa;have C:v.cells.size=s:=by rw [<- Array.length_toList,G,q]
  have A:post.length=s+f.length*s:=by rw [g,y4,I9]; omega
  have D:∀ (r:List Value) (j:Nat) (a b:List Value),r.length<=b.length->a.length=i*s+j ->
    (r.zipIdx j).foldl (fun cs (c:Value × Nat)=>cs.setIfInBounds (i*s+c.2) c.1) (a++b).toArray=(a++r++b.drop r.length).toArray:=by
   intro r;induction r with
   | nil=>intro j a b _ _; simp
   | cons u r K=>
    intro j a b H U;cases b with
    | nil=>simp at H
    | cons L b=>
     simp only [List.zipIdx_cons,List.foldl_cons];have:((a++L :: b).toArray.setIfInBounds (i*s+j) u)=((a++[u])++b).toArray:=by simp_all
     rw [this,K (j+1) (a++[u]) b (by simpa using H) (by simp; omega)];simp
  have F:v.cells.zipIdx.foldl (fun cs (c:Value × Nat)=>cs.setIfInBounds (i*s+c.2) c.1) (pre++post).toArray=((pre++vs)++post.drop s).toArray:=by
   have I:=D vs 0 pre post az az;rw [q] at I;have N:v.cells=vs.toArray:=by simp [<- G]
   rw [<- I,N];simp
  simp only [Instr.fill,C,ne_eq,not_true_eq_false];rw [dc (by simp [o,A])];have:=uw s f (i+1) (pre++vs) (post.drop s) (fun x O=>B x (by simp [O])) (by simp [o,q,I9]) (by simp [A]) pv (by simpa using h);refine Eq.trans ?_ (this.trans aa);congr 1
end
theorem BY:∀ {pre fr:Fr} {i:Nat},(∀ p ∈ pre,p.1≠i)->look (pre++fr) i=look fr i
 | [],_,_,_=>rfl
 | (j,v) :: r,fr,i,h=>by
  rw [D0,bg,dc (h (j,v) aa)];exact BY fun p c=>h p (by simp [c])
theorem Bf:∀ {fr:Fr} {i:Nat} {v:Value},look fr i=some v->∃ q ∈ fr,q.1=i
 | (j,u) :: r,i,v,h=>by
  rw [bg] at h;by_cases c:j=i
  ·simp_all
  simp_all [Bf]
section
variable {P:Program} {Q:Exit->Act->World->Prop} {n:Nat} {fr:Fr} {w:World}
end
def nB {c:Type} {d:List c} {x:c} (h:d[i]? = some x):i<d.length:=(r3.1 h).1
def ie.kp {a:Addr} {d:List Value} (h:ie w a d) (k:Kp S w w') (c:a.block<w.heap.size) (e:∀ g ∈ S,g≠a.block):ie w' a d:=
 h.dm (k.block _ c fun f=>e _ f rfl)
def vb {b c:Bool} (h:b=c):Value.bool b = .bool c:=by rw [h]
def Ac {c:Type} [Rp c] (lo:Nat) (j:Bool) (f h k:Nat) (w:World) (v:Value) (e:List c):Prop:=
 e.length*Rp.K6 c<=140737488355328/\∃ d,((e=[]/\∃ a,v = .slice a 0 0)\/(w.ownsRow lo (Rp.tid c) (Rp.sz c) v e.length d.flatten/\∀ g,v.ownBlock=some g->g<k))/\hQ (Rp.rp j f h w) d e
def ob:Value->List Nat
 | .slice (some a) _ c=>if c=0 then [] else [a.block]
 | _=>[]
def yp {v:Value} {g:Nat} (h:g ∈ ob v):v.ownBlock=some g:=by
 cases v <;> simp [ob] at h;rename_i a n c;cases a with
 | none=>simp at h
 | some a=>
  simp only at h;split at h
  ·simp at h
  simp at h; simp [ownBlock,h]
section
variable {α:Type} [Rp α] {lo lo2 hi2 hi:Nat} {o o2:Bool} {w w':World} {v:Value} {xs ys:List α}
theorem FD {e:TypeId} {s:Nat} {f:List Value} (h:w.ownsRow lo e s v n f) (k:∀ g,v.ownBlock=some g->w'.heap[g]? = w.heap[g]?):w'.ownsRow lo e s v n f:=by
 refine ⟨h.1,?_⟩;rcases h.2 with q | ⟨g,c,d,j,l,p,r⟩
 ·grind
 exact .inr ⟨g,c,d,j,l,(k g (by simp [j,ownBlock])).trans p,r⟩
theorem Ac.dm (h:Ac lo o2 lo2 hi2 hi w v xs) (k:∀ b,lo<=b->b<hi->w'.heap[b]? = w.heap[b]?) (j:∀ b,lo2<=b->b<hi2->w'.heap[b]? = w.heap[b]?):Ac lo o2 lo2 hi2 hi w' v xs:=by
 obtain ⟨l,d,c,p⟩:=h;refine ⟨l,d,?_,p.imp fun _ _ h=>Rp.dm h j⟩;rcases c with q | ⟨c,e⟩
 ·grind
 exact .inr ⟨FD c fun g f=>k g (c.lt g f).1 (e g f),e⟩
theorem Ac.mono {f d e j:Nat} (h:Ac lo o2 lo2 hi2 hi w v xs) (a:f <= lo) (b:d <= lo2) (t:hi2<=e) (c:hi<=j):Ac f o2 d e j w v xs:=by
 obtain ⟨u,l,k,x⟩:=h;refine ⟨u,l,?_,x.imp fun _ _ h=>Rp.mono h b t⟩;rcases k with y | ⟨k,z⟩
 ·grind
 refine .inr ⟨⟨k.1,?_⟩,fun g s=>w9 (z g s) c⟩;rcases k.2 with y | ⟨g,p,q,A,s,r⟩
 ·grind
 exact .inr ⟨g,p,q,A,az,r⟩
def Ac.A8 (h:Ac lo o2 lo2 hi2 hi w v xs):Ac lo false lo2 hi2 hi w v xs:=by
 obtain ⟨d,c,e,f⟩:=h;exact ⟨d,c,e,f.imp fun _ _ h=>Rp.A8 h⟩
end
theorem sj {e:TypeId} {s b:Nat} {z:List Value} (h:(P.info? e).map (fun i=>(i.zero.map Value.cells,i.size,i.bytes))=some (some z.toArray,s,b)) :
  ∃ i c,P.info? e=some i/\i.zero=some c/\c.cells=z.toArray/\i.size=s/\i.bytes=b:=by
 cases d:P.info? e with
 | none=>simp [d] at h
 | some i=>
  simp_all
section
variable {P:Program} {n:Nat} {fr:Fr} {w:World} {x y:Operand} {ty t:TypeId} {Q:Exit->Act->World->Prop} {l rest:List Oper} {d:Nat} {pos:String} {af:Array Edge}
variable {α:Type} [Rp α] {lo lo2 hi2 hi:Nat} {o2:Bool} {v:Value} {xs ys:List α}
end
section
variable {P:Program} {Q:Exit->Act->World->Prop} {n:Nat} {fr:Fr} {w:World} {x y:Operand} {ty t:TypeId} {l rest:List Oper} {d:Nat} {pos:String} {af:Array Edge}
variable {α:Type} [Rp α] {lo lo2 hi2 hi:Nat} {o2:Bool} {xs:List α}
def xi (a:Addr):a.add 0=a:=by simp [Addr.add_zero']
variable {e:TypeId} {j:Nat} {kh kl:IntKind} {z' z:Operand} {a' a:Option Addr}
def R.IN {c s:Nat} (u:ev fr x=some (.slice a m c)) (v:ev fr z=some (.int kl (i:Int))) (g:ev fr z' = some (.int kh (j:Int))) (h:P.underlying t=some (.slice e)) (r:(P.info? e).map (·.size)=some s)
  (A:(if c=i then a else a.map (·.add (i*s)))=a') (B:i<=j) (D:j<=c):aL P n fr w (.slice t x (some z) (some z') none) ty (.slice a' (j - i) (c - i)) w:=fun _ _ _ _ _ f=>by
 subst A;cases k:P.info? e with
 | none=>simp [k] at r
 | some q=>
  have o:q.size=s:=by simpa [k] using r
  have p:P.elem t=e:=by simp [Program.elem,h]
  have C:=S8 (P:=P) w t (.slice a m c) (some (.int kl (i:Int))) (some (.int kh (j:Int))) none (by rw [p]; exact h);have:=run_slice_lh (P:=P) w t a m c (by rw [p]; exact h) kl kh (i:Int) (j:Int) az az az;simp [execOp,f.ev u,f.ev v,f.ev g,C,this,p,sizeOf,typeInfo,k,o,sliced]
def R.mc {c s:Nat} (p:ev fr x=some (.slice a m c)) (g:ev fr z' = some (.int kh (j:Int))) (h:P.underlying t=some (.slice e)) (r:(P.info? e).map (·.size)=some s)
  (u:(if c=0 then a else a.map (·.add (0*s)))=a') (A:j<=c):aL P n fr w (.slice t x none (some z') none) ty (.slice a' (j - 0) (c - 0)) w:=fun _ _ _ _ _ f=>by
 subst u;cases o:P.info? e with
 | none=>simp [o] at r
 | some q=>
  have k:P.elem t=e:=by simp [Program.elem,h]
  have v:=S8 (P:=P) w t (.slice a m c) none (some (.int kh (j:Int))) none (by rw [k]; exact h);have:=run_slice_h (P:=P) w t a m c (by rw [k]; exact h) kh (j:Int) az az;simp [execOp,f.ev p,f.ev g,v,this,k,sizeOf,typeInfo,o,sliced]
def R.dN {c s:Nat} (r:ev fr x=some (.slice a m c)) (u:ev fr z=some (.int kl (i:Int))) (g:P.underlying t=some (.slice e)) (p:(P.info? e).map (·.size)=some s)
  (v:(if c=i then a else a.map (·.add (i*s)))=a') (B:i<=m):aL P n fr w (.slice t x (some z) none none) ty (.slice a' (m - i) (c - i)) w:=fun _ _ _ _ _ f=>by
 subst v;cases h:P.info? e with
 | none=>simp [h] at p
 | some q=>
  have k:q.size=s:=by simpa [h] using p
  have o:P.elem t=e:=by simp [Program.elem,g]
  have A:=S8 (P:=P) w t (.slice a m c) (some (.int kl (i:Int))) none none (by rw [o]; exact g);have:=run_slice_l (P:=P) w t a m c (by rw [o]; exact g) kl (i:Int) az az;simp [execOp,f.ev r,f.ev u,A,this,o,sizeOf,typeInfo,h,k,sliced]
def o3.cut (s:o3) (i j:Nat):o3:=⟨(s.b.drop i).take (j - i)⟩
theorem o3.yI (s:o3) (i j:Nat):(Value.string ((⟨s.b.toArray⟩:ByteArray).extract i j))=(s.cut i j).val:=by
 simp [o3.cut];congr 1;apply ByteArray.ext;simp_all
def R.anC {s:o3} (g:ev fr x=some s.val) (f:ev fr z' = some (.int kh (j:Int))) (h:P.underlying t=some .string) (o:j<=s.b.length) :
  aL P n fr w (.slice t x none (some z') none) ty (s.cut 0 j).val w:=fun _ _ _ _ _ c=>by
 have k:=run_sliceAt_string (P:=P) w t (.string ⟨s.b.toArray⟩) none (some (.int kh (j:Int))) none h;have:=run_slice_string_h (P:=P) w t ⟨s.b.toArray⟩ h kh (j:Int) az (by show (j:Int)<=((s.b.toArray.size:Nat):Int); simp; omega);rw [<- o3.yI s 0 j];simp [o3.val] at g;simp [execOp,c.ev g,c.ev f,k,this]
def wrap_u8 (a:Nat):IntKind.u8.wrap (a:Int)=(((ofNat a).toNat:Nat):Int):=by
 rw [H6];show (a:Int) % 256=_;omega
variable {a:Nat}
def wrap_u64 (h:a<18446744073709551616):IntKind.u64.wrap (a:Int)=(a:Int):=by
 show (a:Int) % 18446744073709551616=_;omega
variable {dd:TypeDesc} {k:IntKind} {t':TypeId}
def R.af1 (c:ev fr x=some (.int k (a:Int))) (f:P.underlying t=some dd) (g:P.underlying t' = some (.int .u8)):aL P n fr w (.convert t t' x) ty (.int .u8 (((ofNat a).toNat:Nat):Int)) w:=by
 have:=R.conv (P:=P) (n:=n) (w:=w) (ty:=ty) c f g
 rwa [wrap_u8] at this
def R.P_ (c:ev fr x=some (.int k (a:Int))) (f:P.underlying t=some dd) (g:P.underlying t' = some (.int .u64)) (h:a<18446744073709551616):aL P n fr w (.convert t t' x) ty (.int .u64 (a:Int)) w:=by
 have:=R.conv (P:=P) (n:=n) (w:=w) (ty:=ty) c f g
 rwa [wrap_u64 h] at this
theorem R.ap8 {a b:UInt8} (h:ev fr x=some (.int .u8 (a.toNat:Int))) (o:ev fr y=some (.int .u8 (b.toNat:Int))):aL P n fr w (.binOp .or t x y t') ty (.int .u8 ((a ||| b).toNat:Int)) w:=fun _ _ _ _ _ f=>by
 have e:bits .or .u8 (a.toNat:Int) (b.toNat:Int)=((a ||| b).toNat:Int):=by
  have g:∀ c:UInt8,(BitVec.ofInt 8 (c.toNat:Int))=c.toBitVec:=fun c=>by
   simp_all
  show IntKind.u8.wrap ((BitVec.ofInt 8 (a.toNat:Int) ||| BitVec.ofInt 8 (b.toNat:Int)).toNat:Int)=_;rw [g,g,<- UInt8.toBitVec_or];have:=(a ||| b).toNat_lt;exact EY this
 simp [execOp,f.ev h,f.ev o,eqGuard_or,binOp_or,intBits_or,e]
theorem R.NS {f:IntKind} {b:Nat} (g:ev fr x=some (.int k (a:Int))) (h:ev fr y=some (.int f (b:Int))) (o:b<=k.bits):aL P n fr w (.binOp .shr t x y t') ty (.int k ((a / 2 ^ b:Nat):Int)) w:=fun _ _ _ _ _ c=>by
 have e:(a:Int) / 2 ^ min (b:Int).toNat k.bits=((a / 2 ^ b:Nat):Int):=by grind
 simp [execOp,c.ev g,c.ev h,eqGuard_shr,binOp_shr,shift_shr_any _ _ _ _ (I3 b)];simpa using e
end
structure Sp where
 deps:List Nat
 S:List Nat
 V:Value->World->Prop
def Sp.ex (deps:List Nat) (c:Value):Sp:=⟨deps,[],fun u _=>u=c⟩
def qs (c:List Sp) (i:Nat):Sp:=c.getD i ⟨[],[],fun _ _=>True⟩
def Fz:List Sp->List Nat
 | []=>[]
 | s :: r=>s.S++Fz r
def vA:List Sp->Nat->List Nat
 | [],_=>[]
 | _ :: r,0=>Fz r
 | s :: r,i+1=>s.S++vA r i
def dW (l:List Oper) (fr:Fr) (c:Nat->Value):List Nat->Fr
 | []=>fr
 | j :: r=>match p5 l j with
  | some d=>(d,c j) :: dW l fr c r
  | none=>dW l fr c r
def gN (c:List Sp) (d:Nat->Value) (w:World):List Nat->Prop
 | []=>True
 | j :: r=>(qs c j).V (d j) w/\gN c d w r
def rf (N:Nat) (d?:Option Nat) (S:List Nat) (V:Value->World->Prop) (w:World):Exit->Act->World->Prop:=
 fun e c w'=>e = .normal/\c.defers=[]/\∃ v,(∀ d,d? = some d->d<N/\c.tmps.getD d undef=v)/\V v w' /\ Kp S w w'
def WX.aQ {N d:Nat} {V:Value->World->Prop} {fr:Fr} {v:Value} (h:look fr d=some v) (e:V v w') (f:Kp S w w'):WX (rf N (some d) S V w) N .normal fr w':=
 fun _ c=>⟨rfl,c.1,v,fun j g=>by cases g; exact c.2.2 _ _ h,e,f⟩
variable {Q:Exit->Act->World->Prop}
def WO.cA {l c:List Oper} {fr:Fr} (d:Has fr fr') (h:WO P Q n l c fr' w):WO P Q n l c fr w:=fun a e=>h a (e.sub d.look)
def gk (o:Oper):List Nat:=(o.after.toList.filter (Region.binds .any ·)).map (·.on)
def cf (l:List Oper) (i:Nat):List Nat:=match l[i]? with | some o=>gk o | none=>[]
def ny (l:List Oper) (e:List Sp) (c:List Nat) (n:Nat):Bool:=
  decide (n<=l.length) && decide (e.length=n) &&
  ((range n).all fun i=>(cf l i).all (fun j=>decide (j<i)) &&
    (qs e i).deps.all (fun j=>decide (j<i) && ((cf l i).contains j || (cf l i).any (fun k=>(qs e k).deps.contains j))) &&
    (match p5 l i with
     | some d=>!c.contains d && (range n).all (fun j=>j == i || p5 l j != some d)
     | none=>true)) &&
  ((decide (n=l.length)) || (Region.sinkB .any l.toArray n && Region.chainB .any l.toArray n)) &&
  Region.seqB .any l.toArray (l.length - n) n ((replicate n true)++(replicate (l.length - n) false))
theorem Vf {x y:Array Bool} (c:x.size=y.size) (h:∀ i,i<x.size->x.getD i false=y.getD i false):x=y:=by
 apply Array.ext c;simp_all
theorem countP_set {p q:Nat->Bool} (c:i<n) (d:p i=true) (e:q i=false) (h:∀ j,j≠i->q j=p j):(range n).countP q+1=(range n).countP p:=by
 induction n with
 | zero=>omega
 | succ n f=>
  rw [I7,T6,T6];by_cases g:i=n
  ·grind [List.countP_congr]
  grind
theorem Dh {F:Fence} {o:Oper} {K p:Act->World->Prop} {q:Exit->Act->World->Prop} {r:Result Next} (h:o.uponIn F m P a K Q r) (hK:∀ v w,K (a.put o.dst v) w->p (a.put o.dst v) w) (A:∀ d w,¬ K ({ a with defers:=d :: a.defers }.put o.dst undef) w)
  (t:∀ e a w,e ≠ .normal->¬ Q e a w):o.uponIn F m P a p q r:=by
 have hE:∀ (e:Ending) (g:World),(match e,g with | .returned v,g=>K (a.put o.dst v) g | .panicked j,g=>Q (.panic j) a g | .outgrown,_=>LetsOut Q) ->
   (match e,g with | .returned v,g=>p (a.put o.dst v) g | .panicked j,g=>q (.panic j) a g | .outgrown,_=>LetsOut q):=fun e g s=>by
  cases e with
  | returned v=>exact hK _ _ s
  | panicked c=>exact absurd s (t _ _ _ aa)
  | outgrown=>obtain ⟨D,w',B⟩:=s; exact absurd B (t _ _ _ aa)
 cases r with
 | ok x w'=>
  cases x <;> simp [Oper.uponIn] at h ⊢;case value u=>exact hK _ _ h
  case skip=>exact hK _ _ h
  case defer d=>exact absurd h (A _ _)
  case enter f args=>exact ⟨h.1,CallsIn.mono h.2 hE⟩
  case row r args=>exact ⟨h.1,RowsIn.mono h.2 fun v g C=>hK _ _ C⟩
  case round l f y k z=>exact ⟨h.1,RoundIn.mono h.2 hE⟩
 | halt x w'=>
  cases x <;> simp [Oper.uponIn] at h ⊢;grind
theorem lN {F:Fence} {m:Nat} {P:Program} {ops:Array Oper} {md:Region.Mode} {Q':Exit->Act->World->Prop}:∀ (l:List Oper) (k:Nat) (c:Array Bool) (a:Act) (w:World),(∀ j,l[j]? = ops[k+j]?) ->
  Region.seqB md ops l.length k c=true->wpListIn F m P ops Q' l a w->wpAnyIn F m P md ops Q' l.length c a w
 | [],_,_,_,_,_,d,h=>⟨by simpa [Region.seqB] using d,h⟩
 | o :: l,k,c,a,w,f,d,h=>by
  have q:ops[k]? = some o:=by simpa using (f 0).symm
  simp [Region.seqB] at d;refine ⟨fun g=>(by rw [d.1] at g; cases g),fun i p=>?_⟩;rw [d.1] at p;have e:i=k:=by simpa using p
  subst e;have r:wpOpIn F m P ops Q' i (wpListIn F m P ops Q' l) a w:=by unfold wpOpIn; simp [q]; exact h
  exact wpOpIn_mono (fun s w' t=>lN l (i+1) _ s w' (fun j=>by have:=f (j+1); simpa [Nat.add_assoc,Nat.add_comm 1 j] using this) d.2 t) r
theorem tT:∀ {sp:List Sp} {i j:Nat},i<sp.length->i≠j->∀ g ∈ (qs sp i).S,g ∈ vA sp j
 | s :: r,0,j+1,_,_,g,c=>B9 _ c
 | s :: r,i+1,0,d,_,g,c=>by
  have:∀ (r:List Sp) (i:Nat),i<r.length->g ∈ (qs r i).S->g ∈ Fz r:=by
   intro r;induction r with
   | nil=>intro i d; simp at d
   | cons s r e=>
    intro i d c;cases i with
    | zero=>exact B9 _ c
    | succ i=>exact C6 _ (e i (by simpa using d) c)
  exact this r i (by simpa using d) c
 | s :: r,i+1,j+1,d,f,g,c=>C6 _ (tT (sp:=r) (by simpa using d) az g c)
theorem Dv:∀ {r:List Sp} {i:Nat},i<r.length->∀ g ∈ (qs r i).S,g ∈ Fz r
 | s :: r,0,_,g,c=>B9 _ c
 | s :: r,i+1,d,g,c=>C6 _ (Dv (by simpa using d) g c)
section
variable {P:Program} {Q:Exit->Act->World->Prop} {N n id:Nat} {l:List Oper} {sp:List Sp} {fr:Fr} {w:World}
structure Y4 (N n:Nat) (l:List Oper) (sp:List Sp) (fr:Fr) (w0:World) (listed:Array Bool) (a:Act) (w:World):Prop where
 head:HeadInv .any l.toArray n listed
 clo:∀ i,i<n->listed.getD i false=true->∀ j ∈ (qs sp i).deps,listed.getD j false=true
 fr:M N fr a
 U9:∃ vs:Nat->Value,∀ i,i<n->listed.getD i false=true->(∀ d,p5 l i=some d->d<N/\a.tmps.getD d undef=vs i)/\(qs sp i).V (vs i) w
 kp:∃ S,Kp S w0 w/\∀ g ∈ S,∃ i,i<n/\listed.getD i false=true/\g ∈ (qs sp i).S
theorem nA {a:Act} (c:M N fr a) {vs:Nat->Value}:∀ (g:List Nat),(∀ j ∈ g,∀ d,p5 l j=some d->d<N/\a.tmps.getD d undef=vs j)->M N (dW l fr vs g) a
 | [],_=>c
 | j :: r,h=>by
  have e:=nA c (vs:=vs) r fun j k=>h j (w8 _ k);unfold dW;split
  ·rename_i d p;refine ⟨e.1,e.2.1,fun i v f=>?_⟩;rw [bg] at f;by_cases o:d=i
   ·grind
   rw [dc o] at f;exact e.2.2 i v f
  exact e
theorem nP {c:Nat->Value} {w:World}:∀ (d:List Nat),(∀ j ∈ d,(qs sp j).V (c j) w)->gN sp c w d
 | [],_=>trivial
 | j :: r,h=>⟨h j aa,nP r fun j e=>h j (w8 _ e)⟩
def WC.draw (hm:P.follows .mixedOrders=true) (sp:List Sp) (n:Nat) (hB:ny l sp (fr.map (·.1)) n=true)
    (stab:∀ i,i<n->∀ v w w',(qs sp i).V v w->Kp (vA sp i) w w' -> (qs sp i).V v w')
    (ops:∀ i o,i<n->l[i]? = some o->∀ K C,Kp (vA sp i) w C->gN sp K C (qs sp i).deps->WO P (rf N (p5 l i) (qs sp i).S (qs sp i).V C) N l [o] (dW l fr K (qs sp i).deps) C)
    (tail:∀ K C,Kp (Fz sp) w C->gN sp K C (range n)->WO P Q N l (l.drop n) (dW l fr K (range n)) C):WC P Q N (.region id l.toArray true) fr w:=by
  intro a ha ro L;simp only [ny,pe,vo,J5,E4,F5] at hB;obtain ⟨⟨⟨⟨hnl,hsp⟩,H⟩,hsc⟩,hseq⟩:=hB;refine wpIn_region_any hm ?_;have main:∀ f c a C,(range n).countP (fun i=>!c.getD i false)=f->Y4 N n l sp fr w c a C->wpAnyIn (iz ro) 0 P .any l.toArray (rY L Q) (f+(l.length - n)) c (jy a L) C:=by
    intro f;induction f with
    | zero=>
      intro c a C hc inv;have W:∀ i,i<n->c.getD i false=true:=fun i G=>by
        have:=List.countP_eq_zero.1 hc i (E4.2 G);simpa using this
      have b:c=replicate n true++replicate (l.length - n) false:=by
        have X:=inv.head.size;refine Vf (by rw [X]; simp; omega) fun i G=>?_;rw [X] at G;have hi':i<l.length:=by simpa using G
        by_cases O:i<n
        · rw [W i O,Array.getD_eq_getD_getElem?,Array.getElem?_append_left (by simpa using O)]
          simp [O]
        have h2:=inv.head.tail i az G;have h3:c.getD i false=false:=getD_both h2;rw [h3,Array.getD_eq_getD_getElem?,Array.getElem?_append_right (by simp; omega)];simp [Array.size_replicate,Array.getElem?_replicate];split <;> rfl
      rw [<- b] at hseq;obtain ⟨K,hv⟩:=inv.U9;obtain ⟨S,T,hS⟩:=inv.kp;have hM:M N (dW l fr K (range n)) a:=nA inv.fr _ fun j s d U=>(hv j (E4.1 s) (W j (E4.1 s))).1 d U;have ht:=tail K C (T.sub fun g hg=>by
        obtain ⟨i,G,_,h⟩:=hS g hg;exact Dv az g h) (nP _ fun j s=>(hv j (E4.1 s) (W j (E4.1 s))).2) a hM ro L
      have hdl:(l.drop n).length=l.length - n:=by simp
      have:=lN (F:=iz ro) (m:=0) (P:=P) (md:=.any) (ops:=l.toArray) (Q':=rY L Q) (l.drop n) n c (jy a L) C (fun j=>by simp [C7]) (by rw [hdl]; exact hseq) ht;rw [hdl] at this;rw [x7];exact this
    | succ f ih=>
      intro c a C hc inv;have hex:∃ i,i<n/\c.getD i false=false/\∀ j,j<i->c.getD j false=true:=by
        have h1:∃ i,i<n/\c.getD i false=false:=by
          have:0<(range n).countP (fun i=>!c.getD i false):=by omega
          obtain ⟨i,G,hp⟩:=List.countP_pos_iff.1 this;exact ⟨i,E4.1 G,by simpa using hp⟩
        obtain ⟨i,G,hp⟩:=h1;have hmin:∀ m,∀ i,i<n->c.getD i false=false->i<=m->∃ i,i<n/\c.getD i false=false/\∀ j,j<i->c.getD j false=true:=by
          intro m;induction m with
          | zero=>intro i G hp him; exact ⟨i,G,hp,fun j s=>by omega⟩
          | succ m ihm=>
            intro i G hp him;by_cases hlt:∃ j,j<i/\c.getD j false=false
            · obtain ⟨j,s,hpj⟩:=hlt
              exact ihm j az hpj az
            exact ⟨i,G,hp,fun j s=>by
              cases h:c.getD j false with
              | true=>rfl
              | false=>exact absurd ⟨j,s,h⟩ hlt⟩
        exact hmin i i G hp (sh _)
      obtain ⟨m,hmn,hmu,hmall⟩:=hex;have X:=inv.head.size;have O:∀ i,i<n->c.getD i false=false->c.getD i true=false:=fun i G h=>getD_in (by rw [X]; simp; omega) h;have J:m ∈ Region.ready .any l.toArray c:=by
        have hml:m<l.length:=by omega
        refine mem_ready.2 ⟨O m hmn hmu,l[m],by simp [hml],fun e he hb=>?_⟩;have h1:=(H m hmn).1.1 e.on (by
          simp [cf,p6 hml,gk,K4,R3];exact ⟨e,⟨by simpa using he,hb⟩,rfl⟩)
        exact hmall _ h1
      rw [show f+1+(l.length - n)=(f+(l.length - n))+1 by omega];refine ⟨fun h0=>(by rw [h0] at J; cases J),fun i G=>?_⟩;have hil:i<l.length:=by
        obtain ⟨_,o,ho,_⟩:=mem_ready.1 G;simpa using (Q4.1 ho).1
      have z:i<n:=by
        rcases Nat.lt_or_ge i n with h | h
        · exact h
        rcases hsc with hsc | hsc
        · omega
        exact absurd G (tail_waits hsc.1 hsc.2 (by simp; omega) inv.head _ m rfl hmn (O m hmn hmu) i h)
      obtain ⟨hun,o,ho,hafter⟩:=mem_ready.1 G;have ho':l[i]? = some o:=by simpa using ho
      have hun':c.getD i false=false:=getD_both hun;obtain ⟨K,hv⟩:=inv.U9;obtain ⟨S,T,hS⟩:=inv.kp
      have hpre:∀ k ∈ cf l i,c.getD k false=true:=fun k T=>by
        simp [cf,ho',gk,K4,R3] at T;obtain ⟨e,⟨he,hb⟩,rfl⟩:=T;exact hafter e (by simpa using he) hb
      have A:∀ j ∈ (qs sp i).deps,j<i/\c.getD j false=true:=fun j s=>by
        have h1:=(H i z).1.2 j s;refine ⟨h1.1,?_⟩;rcases h1.2 with h2 | h2
        · exact hpre j (by simpa using h2)
        obtain ⟨k,T,hk2⟩:=List.any_eq_true.1 h2;have hki:k<i:=(H i z).1.1 k T;exact inv.clo k az (hpre k T) j (by simpa using hk2)
      have hko:Kp (vA sp i) w C:=T.sub fun g hg=>by
        obtain ⟨j,s,D,hgj⟩:=hS g hg;exact tT az (fun e=>by subst e; rw [hun'] at D; cases D) g hgj
      have hM:M N (dW l fr K (qs sp i).deps) a:=nA inv.fr _ fun j s d U=>(hv j (by have:=A j s; omega) (A j s).2).1 d U;have hf:gN sp K C (qs sp i).deps:=nP _ fun j s=>(hv j (by have:=A j s; omega) (A j s).2).2;have hw:=ops i o z ho' K C hko hf a hM ro L;have step:∀ v w2,rf N (p5 l i) (qs sp i).S (qs sp i).V C .normal (a.put o.dst v) w2->wpAnyIn (iz ro) 0 P .any l.toArray (rY L Q) (f+(l.length - n)) (c.setIfInBounds i true) (jy (a.put o.dst v) L) w2:=by
        intro v w2 ⟨_,_,u,hu,hV,hk2⟩;have hdst:p5 l i=o.dst:=by rw [k_,ho']; rfl
        have B:∀ j,(c.setIfInBounds i true).getD j false=if j=i then true else c.getD j false:=fun j=>by
          by_cases s:j=i
          · subst s; simp [getD,X,hil]
          rw [getD_set_ne false (Ne.symm s),dc s]
        refine ih _ _ _ ?_ ⟨inv.head.set G z,?_,?_,?_,?_⟩
        · have:=countP_set (n:=n) (i:=i) (p:=fun j=>!c.getD j false) (q:=fun j=>!(c.setIfInBounds i true).getD j false) z (by simp [hun']) (by simp [B]) (fun j s=>by simp [B,s])
          omega
        · intro j s D d U
          rw [B];by_cases hdi:d=i
          · simp [hdi]
          rw [dc hdi];by_cases I:j=i
          · subst I; exact (A d U).2
          rw [B,dc I] at D;exact inv.clo j s D d U
        ·
          obtain ⟨f1,f2,f3⟩:=inv.fr;cases U:o.dst with
          | none=>exact ⟨f1,f2,f3⟩
          | some d=>
            have y:=(H i z).2;rw [hdst,U] at y;simp only [pe,S9,J5,E4,F5,beq_iff_eq,bne_iff_ne] at y;refine ⟨f1,by simp [Act.put,f2],fun k u' hk'=>?_⟩;obtain ⟨hkn,hkv⟩:=f3 k u' hk';refine ⟨hkn,?_⟩;have hne:d≠k:=by
              rintro rfl;have:∀ (fr:Fr) (d:Nat) (v:Value),look fr d=some v->d ∈ fr.map (·.1):=by
                intro fr;induction fr with
                | nil=>intro d v h; cases h
                | cons x r ihr=>
                  intro d v h;obtain ⟨x1,x2⟩:=x;rw [bg] at h;by_cases hx:x1=d
                  · simp [hx]
                  rw [dc hx] at h;exact w8 _ (ihr d v h)
              have h3:=this fr d u' hk';have h4:=y.1;simp only [List.contains_eq_mem,O1] at h4;exact h4 h3
            rw [<- hkv];simp [Act.put,getD,f2,hkn,hne]
        · refine ⟨fun j=>if j=i then u else K j,fun j s D=>?_⟩
          by_cases I:j=i
          · subst I
            simp only;exact ⟨hu,hV⟩
          simp only [dc I];rw [B,dc I] at D;obtain ⟨h1,h2⟩:=hv j s D;refine ⟨fun d U=>?_,stab j s _ _ _ h2 (hk2.sub (tT az (Ne.symm I)))⟩;obtain ⟨hdN,hdv⟩:=h1 d U;refine ⟨hdN,?_⟩;cases hdo:o.dst with
          | none=>exact hdv
          | some d'=>
            have y:=(H i z).2;rw [hdst,hdo] at y;simp at y;have h5:=(y.2 j s).resolve_left I;rw [U] at h5;have hne:d' ≠ d:=fun e=>h5 (by rw [e]);rw [<- hdv];by_cases hds:d<a.tmps.size <;> simp [Act.put,getD,hds,hne]
        refine ⟨S++(qs sp i).S,T.trans hk2,fun g hg=>?_⟩;rcases y2.1 hg with hg | hg
        · obtain ⟨j,s,D,hgj⟩:=hS g hg
          refine ⟨j,s,?_,hgj⟩;rw [B]; split
          · rfl
          exact D
        exact ⟨i,z,by rw [B,eg rfl],hg⟩
      have Y:∀ v w2,rY L (rf N (p5 l i) (qs sp i).S (qs sp i).V C) .normal ((jy a L).put o.dst v) w2->wpAnyIn (iz ro) 0 P .any l.toArray (rY L Q) (f+(l.length - n)) (c.setIfInBounds i true) ((jy a L).put o.dst v) w2:=fun v w2 ⟨a0,h0,e,h⟩=>by
        rw [ug] at e ⊢;rw [<- QN e (Kd inv.fr.1 _ _) h0] at h;exact step v w2 h
      unfold wpOpIn;simp only [ho];simp only [wpListIn] at hw;try simp only [eq_self_iff_true] at hw
      by_cases Z:Region.wanted o (yielded l.toArray (jy a L).tmps)=true
      · rw [eg Z] at hw ⊢
        unfold Oper.wpIn at hw ⊢;refine ⟨fun _ _=>trivial,Dh hw.2 Y (fun d w2 ⟨a0,h0,e,h⟩=>?_) (fun e a w he ⟨_,_,_,h⟩=>he h.1)⟩;have:=hC Act.defers e;cases U:o.dst <;> rw [U] at this <;> simp [Act.put,jy] at this
      rw [dc Z] at hw ⊢;exact ⟨fun _ _=>trivial,Y undef C hw.2⟩
  have hcount:(range n).countP (fun i=>!(replicate l.toArray.size false).getD i false)=n:=by
    rw [List.countP_eq_length.2 (fun i _=>by rw [L7]; rfl),V4]
  have:=main n (replicate l.toArray.size false) a { w with drawn:=w.drawn+1 } hcount
    ⟨⟨aa,fun j oj _ b=>(by rw [L7] at b; cases b),fun t _ ht=>getD_in (by simpa using ht) (L7 _ _)⟩,
     fun i _ b=>(by rw [L7] at b; cases b),ha,⟨fun _=>undef,fun i _ b=>(by rw [L7] at b; cases b)⟩,
     ⟨[],(Kp.refl w).drew,fun g hg=>by cases hg⟩⟩
  rw [show n+(l.length - n)=l.toArray.size by simp; omega] at this;exact this
def vR (P:Program) (N:Nat) (l:List Oper) (sp:List Sp) (fr:Fr) (w:World):Nat->List Oper->Prop
 | _,[]=>True
 | i,o :: r=>(∀ d c,Kp (vA sp i) w c->gN sp d c (qs sp i).deps->WO P (rf N (p5 l i) (qs sp i).S (qs sp i).V c) N l [o] (dW l fr d (qs sp i).deps) c)/\vR P N l sp fr w (i+1) r
def oK (sp:List Sp):Nat->List Sp->Prop
 | _,[]=>True
 | i,s :: r=>(∀ v w w',s.V v w->Kp (vA sp i) w w' -> s.V v w')/\oK sp (i+1) r
theorem vR.at_:∀ {r:List Oper} {k:Nat},vR P N l sp fr w k r->∀ j o,r[j]? = some o->∀ e d,Kp (vA sp (k+j)) w d->gN sp e d (qs sp (k+j)).deps ->
  WO P (rf N (p5 l (k+j)) (qs sp (k+j)).S (qs sp (k+j)).V d) N l [o] (dW l fr e (qs sp (k+j)).deps) d
 | [],_,_,j,o,c=>by simp at c
 | x :: r,k,h,0,o,c=>by
  simp at c; subst c;exact h.1
 | x :: r,k,h,j+1,o,c=>by
  have:=h.2.at_ j o (by simpa using c);grind
theorem oK.at_:∀ {r:List Sp} {k:Nat},oK sp k r->∀ j,j<r.length->∀ v w w',(qs r j).V v w->Kp (vA sp (k+j)) w w' -> (qs r j).V v w'
 | s :: r,k,h,0,_=>h.1
 | s :: r,k,h,j+1,c=>by
  have:=h.2.at_ j (by simpa using c);rwa [show k+1+j=k+(j+1) by omega] at this
theorem WC.wS (p:P.follows .mixedOrders=true) (sp:List Sp) (n:Nat) (h:ny l sp (fr.map (·.1)) n=true) (c:oK sp 0 sp) (e:vR P N l sp fr w 0 (l.take n))
  (d:∀ j f,Kp (Fz sp) w f->gN sp j f (range n)->WO P Q N l (l.drop n) (dW l fr j (range n)) f):WC P Q N (.region id l.toArray true) fr w:=by
 have g:=h;simp [ny] at g;refine WC.draw p sp n h (fun i k=>?_) (fun i o k q=>?_) d
 ·have:=c.at_ i az;grind
 have:=e.at_ i o (by rw [E0,eg k]; exact q);grind
end
structure lg where
 code:Int
 n:Int
deriving DecidableEq
structure eb where
 a6:Int
 seq:Int
 last:lg
deriving DecidableEq
structure l8 where
 set:Int
 a6:Int
deriving DecidableEq
structure hX where
 id:Int
 set:Int
 b9:List Int
 held:Bool
 tag:o3
deriving DecidableEq
structure b7 where
 a8:Int
 next:Int
 dm:Int
 ea:Int
 b8:List eb
 c6:List l8
 b6:List hX
deriving DecidableEq
structure b5 where
 kind:Int
 a6:Int
 seq:Int
 set:Int
 id:Int
 n:Int
 b9:List Int
 text:o3
deriving DecidableEq
structure A7 where
 id:Int
 set:Int
 b9:Bool × List Int
 held:Bool
 tag:o3
deriving DecidableEq
structure Field where
 num:Int
 fl:Int
 n:y1
 b:List UInt8
deriving DecidableEq
structure k9 where
 num:Int
 fl:Int
 since:Int
 x3:Bool
 hY:Bool
deriving DecidableEq
structure ec where
 bo:Int
 b:List UInt8
deriving DecidableEq
structure c9 where
 kind:Int
 a:Int
 b:Int
 x:List UInt8
deriving DecidableEq
structure eR where
 kind:Int
 n7:Int
 to:Int
 bo:Int
 a:Int
 b:Int
 c:Int
 bin:Int
 ok:Bool
 l:List ec
deriving DecidableEq
structure Event where
 kind:Int
 a:Int
 b:Int
 c:b5
deriving DecidableEq
structure A6 where
 node:Int
 number:Int
 bo:Int
 at_:Int
 Q1:Int
 c:b5
 done:Bool
 nd:lg
deriving DecidableEq
structure c4 where
 floor:Int
 bo:Int
 jc:Int
 log:List ec
deriving DecidableEq
structure v7 where
 n7:Int
 to:Int
 next:Int
 c7:Int
 bin:Int
deriving DecidableEq
structure Site where
 up:Bool
 j0:Int
 binary:Int
 floor:Int
 bo:Int
 jc:Int
 c7:Int
 c3:Int
 log:List ec
 eS:b7
deriving DecidableEq
structure C8 where
 kind:UInt8
 n:Int
 x:eR
 c:b5
deriving DecidableEq
structure Rest where
 fields:List Field
 at_:UInt8
deriving DecidableEq
structure Span where
 lo:Int
 hi:Int
deriving DecidableEq
inductive NT
 | nd | b8 | opn | snap | eS | command | snapE | field | spec | entry | record | letter | event | call | stable | route | site | nop | rest | span
deriving DecidableEq
abbrev NT.l5:NT->Type
 | .nd=>lg
 | .b8=>eb
 | .opn=>l8
 | .snap=>hX
 | .eS=>b7
 | .command=>b5
 | .snapE=>A7
 | .field=>Field
 | .spec=>k9
 | .entry=>ec
 | .record=>c9
 | .letter=>eR
 | .event=>Event
 | .call=>A6
 | .stable=>c4
 | .route=>v7
 | .site=>Site
 | .nop=>C8
 | .rest=>Rest
 | .span=>Span
inductive Sh
 | int | u8 | u64 | bool | str
 | lx
 | G7 (s:Sh)
 | nm (t:NT)
deriving DecidableEq
abbrev l5:Sh->Type
 | .int=>Int
 | .u8=>UInt8
 | .u64=>y1
 | .bool=>Bool
 | .str=>o3
 | .lx=>Bool × List Int
 | .G7 s=>List (l5 s)
 | .nm t=>t.l5
inductive BE
 | lit (b:Bool) | atom (b:Bool)
 | lt (a b:Int) | le (a b:Int) | eq (a b:Int)
 | seq (a b:o3)
 | beq (x y:BE) | not (x:BE) | and (x y:BE) | or (x y:BE)
def BE.val:BE->Bool
 | .lit b=>b
 | .atom b=>b
 | .lt a b=>decide (a<b)
 | .le a b=>decide (a<=b)
 | .eq a b=>decide (a=b)
 | .seq a b=>decide (a=b)
 | .beq x y=>x.val == y.val
 | .not x=>!x.val
 | .and x y=>x.val && y.val
 | .or x y=>x.val || y.val
def BE.p:BE->Bool->Prop
 | .lit b,v=>b=v
 | .atom b,v=>b=v
 | .lt a b,true=>a<b
 | .lt a b,false=>b<=a
 | .le a b,true=>a<=b
 | .le a b,false=>b<a
 | .eq a b,true=>a=b
 | .eq a b,false=>¬ a=b
 | .seq a b,true=>a=b
 | .seq a b,false=>¬ a=b
 | .beq x y,v=>(x.val == y.val)=v
 | .not x,true=>x.p false
 | .not x,false=>x.p true
 | .and x y,true=>x.p true/\y.p true
 | .and x y,false=>x.p false\/y.p false
 | .or x y,true=>x.p true\/y.p true
 | .or x y,false=>x.p false/\y.p false
theorem BE.fV:∀ (e:BE) (v:Bool),e.p v↔e.val=v
 | .lit b,v=>.rfl
 | .atom b,v=>.rfl
 | .lt a b,true=>by simp [BE.p,BE.val]
 | .lt a b,false=>by simp [BE.p,BE.val]
 | .le a b,true=>by simp [BE.p,BE.val]
 | .le a b,false=>by simp [BE.p,BE.val]
 | .eq a b,true=>by simp [BE.p,BE.val]
 | .eq a b,false=>by simp [BE.p,BE.val]
 | .seq a b,true=>by simp [BE.p,BE.val]
 | .seq a b,false=>by simp [BE.p,BE.val]
 | .beq x y,v=>.rfl
 | .not x,true=>by simp [BE.p,BE.val,fV x]
 | .not x,false=>by simp [BE.p,BE.val,fV x]
 | .and x y,true=>by simp [BE.p,BE.val,fV x,fV y]
 | .and x y,false=>by cases c:x.val <;> simp [BE.p,BE.val,fV x,fV y,c]
 | .or x y,true=>by simp [BE.p,BE.val,fV x,fV y]
 | .or x y,false=>by simp [BE.p,BE.val,fV x,fV y]
structure H2 where
 g:Nat
 s:Sh
 xs:List (l5 s)
def VV:List H2:=[]
def ag0:List (Nat × Bool):=[]
inductive KC
 | i (n:Int) | b (v:Bool) | f (g:Nat) | nf
inductive XK
 | er (b:Bool) | pl | pa | fm (f:o3->Option Int) | bp
 | ff (s:Sh) (xs:List (l5 s))
 | mx (nw:Bool) (xs:List Int)
 | w (n:Nat)
 | km (l:List (Int × List KC))
 | kf (x:KC)
inductive AV
 | int (n:Int) | u8 (b:UInt8) | u64 (n:Nat) | bool (e:BE) | str (s:o3)
 | em (nil:Bool)
 | fz (s:Sh) (xs:List (l5 s))
 | li (nw:Bool) (xs:List Int)
 | own (id:Nat)
 | sub (id off len:Nat)
 | ptr (id off:Nat) | np
 | x8 (id i off:Nat)
 | fe (s:Sh) (x:l5 s) (off:Nat)
 | fn (f:Nat) (b c:List (Nat × Nat)) | nf
 | yl (l:Nat)
 | mq (id:Nat)
 | xx (k:XK) (cs:List (Nat × Nat))
 | dead
inductive n8
 | c (a:AV)
 | agg (l:List AV)
inductive TV
 | one (t:n8)
 | C4 (l:List n8)
 | un
abbrev j9:=List (Nat × TV)
inductive AO
 | gone
 | box (t:TypeId) (cs:List AV)
 | row (t:TypeId) (s:Sh) (xs:List (l5 s))
 | q7 (s:Sh) (f:Int->Option (l5 s))
 | y9 (t:TypeId) (s:Sh) (n:Nat) (xs:List (l5 s))
 | p7 (l:List (Int × AV))
 | loc
abbrev AH:=List AO
def l1:j9->Nat->Option TV
 | [],_=>none
 | (j,v) :: r,i=>bif Nat.beq j i then some v else l1 r i
def AV.bq:AV->Option Int
 | .int n=>some n
 | _=>none
def AV.N3:AV->Option UInt8
 | .u8 n=>some n
 | _=>none
def AV.N2:AV->Option y1
 | .u64 n=>some ⟨n⟩
 | _=>none
def AV.vT:AV->Option Bool
 | .bool e=>some e.val
 | _=>none
def AV.ED:AV->Option o3
 | .str s=>some s
 | _=>none
def AV.P8:AV->Option (Bool × List Int)
 | .li b c=>some (b,c)
 | .em _=>some (true,[])
 | _=>none
def AV.gv (s:Sh):AV->Option (List (l5 s))
 | .fz c d=>if h:c = s then some (h ▸ d) else none
 | .em _=>some []
 | _=>none
def NT.cells:(t:NT)->t.l5->List AV
 | .nd,x=>[.int x.code,.int x.n]
 | .b8,x=>[.int x.a6,.int x.seq,.int x.last.code,.int x.last.n]
 | .opn,x=>[.int x.set,.int x.a6]
 | .snap,x=>[.int x.id,.int x.set,.fz .int x.b9,.bool (.atom x.held),.str x.tag]
 | .eS,x=>[.int x.a8,.int x.next,.int x.dm,.int x.ea,.fz (.nm .b8) x.b8,.fz (.nm .opn) x.c6,.fz (.nm .snap) x.b6]
 | .command,x=>[.int x.kind,.int x.a6,.int x.seq,.int x.set,.int x.id,.int x.n,.fz .int x.b9,.str x.text]
 | .snapE,x=>[.int x.id,.int x.set,.li x.b9.1 x.b9.2,.bool (.atom x.held),.str x.tag]
 | .field,x=>[.int x.num,.int x.fl,.u64 x.n.n,.fz .u8 x.b]
 | .spec,x=>[.int x.num,.int x.fl,.int x.since,.bool (.atom x.x3),.bool (.atom x.hY)]
 | .entry,x=>[.int x.bo,.fz .u8 x.b]
 | .record,x=>[.int x.kind,.int x.a,.int x.b,.fz .u8 x.x]
 | .letter,x=>[.int x.kind,.int x.n7,.int x.to,.int x.bo,.int x.a,.int x.b,.int x.c,.int x.bin,.bool (.atom x.ok),.fz (.nm .entry) x.l]
 | .event,x=>[.int x.kind,.int x.a,.int x.b,.int x.c.kind,.int x.c.a6,.int x.c.seq,.int x.c.set,.int x.c.id,.int x.c.n,.fz .int x.c.b9,.str x.c.text]
 | .call,x=>[.int x.node,.int x.number,.int x.bo,.int x.at_,.int x.Q1,.int x.c.kind,.int x.c.a6,.int x.c.seq,.int x.c.set,.int x.c.id,.int x.c.n,.fz .int x.c.b9,.str x.c.text,.bool (.atom x.done),.int x.nd.code,.int x.nd.n]
 | .stable,x=>[.int x.floor,.int x.bo,.int x.jc,.fz (.nm .entry) x.log]
 | .route,x=>[.int x.n7,.int x.to,.int x.next,.int x.c7,.int x.bin]
 | .site,x=>[.bool (.atom x.up),.int x.j0,.int x.binary,.int x.floor,.int x.bo,.int x.jc,.int x.c7,.int x.c3,.fz (.nm .entry) x.log,.int x.eS.a8,.int x.eS.next,.int x.eS.dm,.int x.eS.ea,.fz (.nm .b8) x.eS.b8,.fz (.nm .opn) x.eS.c6,.fz (.nm .snap) x.eS.b6]
 | .nop,x=>[.u8 x.kind,.int x.n,.int x.x.kind,.int x.x.n7,.int x.x.to,.int x.x.bo,.int x.x.a,.int x.x.b,.int x.x.c,.int x.x.bin,.bool (.atom x.x.ok),.fz (.nm .entry) x.x.l,.int x.c.kind,.int x.c.a6,.int x.c.seq,.int x.c.set,.int x.c.id,.int x.c.n,.fz .int x.c.b9,.str x.c.text]
 | .rest,x=>[.fz (.nm .field) x.fields,.u8 x.at_]
 | .span,x=>[.int x.lo,.int x.hi]
def NT.size:NT->Nat
 | .nd=>2
 | .b8=>4
 | .opn=>2
 | .snap=>5
 | .eS=>7
 | .command=>8
 | .snapE=>5
 | .field=>4
 | .spec=>5
 | .entry=>2
 | .record=>4
 | .letter=>10
 | .event=>11
 | .call=>16
 | .stable=>4
 | .route=>5
 | .site=>16
 | .nop=>20
 | .rest=>2
 | .span=>2
def NT.bytes:NT->Nat
 | .nd=>16
 | .b8=>32
 | .opn=>16
 | .snap=>64
 | .eS=>104
 | .command=>88
 | .snapE=>64
 | .field=>48
 | .spec=>32
 | .entry=>32
 | .record=>48
 | .letter=>96
 | .event=>112
 | .call=>152
 | .stable=>48
 | .route=>40
 | .site=>192
 | .nop=>200
 | .rest=>32
 | .span=>16
def NT.iy:NT->List Sh
 | .nd=>[]
 | .b8=>[]
 | .opn=>[]
 | .snap=>[.int]
 | .eS=>[(.nm .b8),(.nm .opn),(.nm .snap)]
 | .command=>[.int]
 | .snapE=>[.int]
 | .field=>[.u8]
 | .spec=>[]
 | .entry=>[.u8]
 | .record=>[.u8]
 | .letter=>[(.nm .entry)]
 | .event=>[.int]
 | .call=>[.int]
 | .stable=>[(.nm .entry)]
 | .route=>[]
 | .site=>[(.nm .entry),(.nm .b8),(.nm .opn),(.nm .snap)]
 | .nop=>[(.nm .entry),.int]
 | .rest=>[(.nm .field)]
 | .span=>[]
def NT.c5:(t:NT)->t.l5
 | .nd=>⟨0,0⟩
 | .b8=>⟨0,0,⟨0,0⟩⟩
 | .opn=>⟨0,0⟩
 | .snap=>⟨0,0,[],false,⟨[]⟩⟩
 | .eS=>⟨0,0,0,0,[],[],[]⟩
 | .command=>⟨0,0,0,0,0,0,[],⟨[]⟩⟩
 | .snapE=>⟨0,0,(true,[]),false,⟨[]⟩⟩
 | .field=>⟨0,0,⟨0⟩,[]⟩
 | .spec=>⟨0,0,0,false,false⟩
 | .entry=>⟨0,[]⟩
 | .record=>⟨0,0,0,[]⟩
 | .letter=>⟨0,0,0,0,0,0,0,0,false,[]⟩
 | .event=>⟨0,0,0,⟨0,0,0,0,0,0,[],⟨[]⟩⟩⟩
 | .call=>⟨0,0,0,0,0,⟨0,0,0,0,0,0,[],⟨[]⟩⟩,false,⟨0,0⟩⟩
 | .stable=>⟨0,0,0,[]⟩
 | .route=>⟨0,0,0,0,0⟩
 | .site=>⟨false,0,0,0,0,0,0,0,[],⟨0,0,0,0,[],[],[]⟩⟩
 | .nop=>⟨0,0,⟨0,0,0,0,0,0,0,0,false,[]⟩,⟨0,0,0,0,0,0,[],⟨[]⟩⟩⟩
 | .rest=>⟨[],0⟩
 | .span=>⟨0,0⟩
def lg.of:List AV->Option lg
 | [c,d]=>match c.bq,d.bq with
  | some e,some f=>some ⟨e,f⟩
  | _,_=>none
 | _=>none
def eb.of:List AV->Option eb
 | [c,d,e,f]=>match c.bq,d.bq,e.bq,f.bq with
  | some g,some h,some j,some k=>some ⟨g,h,⟨j,k⟩⟩
  | _,_,_,_=>none
 | _=>none
def l8.of:List AV->Option l8
 | [c,d]=>match c.bq,d.bq with
  | some e,some f=>some ⟨e,f⟩
  | _,_=>none
 | _=>none
def hX.of:List AV->Option hX
 | [c,d,e,f,g]=>match c.bq,d.bq,e.gv .int,f.vT,g.ED with
  | some h,some j,some k,some l,some o=>some ⟨h,j,k,l,o⟩
  | _,_,_,_,_=>none
 | _=>none
def b7.of:List AV->Option b7
 | [c,d,e,f,g,h,j]=>match c.bq,d.bq,e.bq,f.bq,g.gv (.nm .b8),h.gv (.nm .opn),j.gv (.nm .snap) with
  | some k,some l,some o,some p,some q,some r,some s=>some ⟨k,l,o,p,q,r,s⟩
  | _,_,_,_,_,_,_=>none
 | _=>none
def b5.of:List AV->Option b5
 | [c,d,e,f,g,h,j,k]=>match c.bq,d.bq,e.bq,f.bq,g.bq,h.bq,j.gv .int,k.ED with
  | some l,some o,some p,some q,some r,some s,some t,some u=>some ⟨l,o,p,q,r,s,t,u⟩
  | _,_,_,_,_,_,_,_=>none
 | _=>none
def A7.of:List AV->Option A7
 | [c,d,e,f,g]=>match c.bq,d.bq,e.P8,f.vT,g.ED with
  | some h,some j,some k,some l,some o=>some ⟨h,j,k,l,o⟩
  | _,_,_,_,_=>none
 | _=>none
def Field.of:List AV->Option Field
 | [c,d,e,f]=>match c.bq,d.bq,e.N2,f.gv .u8 with
  | some g,some h,some j,some k=>some ⟨g,h,j,k⟩
  | _,_,_,_=>none
 | _=>none
def k9.of:List AV->Option k9
 | [c,d,e,f,g]=>match c.bq,d.bq,e.bq,f.vT,g.vT with
  | some h,some j,some k,some l,some o=>some ⟨h,j,k,l,o⟩
  | _,_,_,_,_=>none
 | _=>none
def ec.of:List AV->Option ec
 | [c,d]=>match c.bq,d.gv .u8 with
  | some e,some f=>some ⟨e,f⟩
  | _,_=>none
 | _=>none
def c9.of:List AV->Option c9
 | [c,d,e,f]=>match c.bq,d.bq,e.bq,f.gv .u8 with
  | some g,some h,some j,some k=>some ⟨g,h,j,k⟩
  | _,_,_,_=>none
 | _=>none
def eR.of:List AV->Option eR
 | [c,d,e,f,g,h,j,k,l,o]=>match c.bq,d.bq,e.bq,f.bq,g.bq,h.bq,j.bq,k.bq,l.vT,o.gv (.nm .entry) with
  | some p,some q,some r,some s,some t,some u,some v,some x,some y,some z=>some ⟨p,q,r,s,t,u,v,x,y,z⟩
  | _,_,_,_,_,_,_,_,_,_=>none
 | _=>none
def Event.of:List AV->Option Event
 | [e,f,g,h,j,k,l,o,p,q,c]=>match e.bq,f.bq,g.bq,h.bq,j.bq,k.bq,l.bq,o.bq,p.bq,q.gv .int,c.ED with
  | some r,some s,some t,some u,some v,some x,some y,some z,some A,some B,some d=>some ⟨r,s,t,⟨u,v,x,y,z,A,B,d⟩⟩
  | _,_,_,_,_,_,_,_,_,_,_=>none
 | _=>none
def A6.of:List AV->Option A6
 | [r,s,t,u,v,x,y,z,A,B,c,d,e,f,g,h]=>match r.bq,s.bq,t.bq,u.bq,v.bq,x.bq,y.bq,z.bq,A.bq,B.bq,c.bq,d.gv .int,e.ED,f.vT,g.bq,h.bq with
  | some C,some D,some F,some G,some H,some I,some J,some K,some L,some N,some j,some k,some l,some o,some p,some q=>some ⟨C,D,F,G,H,⟨I,J,K,L,N,j,k,l⟩,o,⟨p,q⟩⟩
  | _,_,_,_,_,_,_,_,_,_,_,_,_,_,_,_=>none
 | _=>none
def c4.of:List AV->Option c4
 | [c,d,e,f]=>match c.bq,d.bq,e.bq,f.gv (.nm .entry) with
  | some g,some h,some j,some k=>some ⟨g,h,j,k⟩
  | _,_,_,_=>none
 | _=>none
def v7.of:List AV->Option v7
 | [c,d,e,f,g]=>match c.bq,d.bq,e.bq,f.bq,g.bq with
  | some h,some j,some k,some l,some o=>some ⟨h,j,k,l,o⟩
  | _,_,_,_,_=>none
 | _=>none
def Site.of:List AV->Option Site
 | [r,s,t,u,v,x,y,z,A,B,c,d,e,f,g,h]=>match r.vT,s.bq,t.bq,u.bq,v.bq,x.bq,y.bq,z.bq,A.gv (.nm .entry),B.bq,c.bq,d.bq,e.bq,f.gv (.nm .b8),g.gv (.nm .opn),h.gv (.nm .snap) with
  | some C,some D,some F,some G,some H,some I,some J,some K,some L,some N,some j,some k,some l,some o,some p,some q=>some ⟨C,D,F,G,H,I,J,K,L,⟨N,j,k,l,o,p,q⟩⟩
  | _,_,_,_,_,_,_,_,_,_,_,_,_,_,_,_=>none
 | _=>none
def C8.of:List AV->Option C8
 | [A,B,C,D,F,G,H,I,J,K,c,d,e,f,g,h,j,k,l,o]=>match A.N3,B.bq,C.bq,D.bq,F.bq,G.bq,H.bq,I.bq,J.bq,K.bq,c.vT,d.gv (.nm .entry),e.bq,f.bq,g.bq,h.bq,j.bq,k.bq,l.gv .int,o.ED with
  | some L,some N,some O,some U,some V,some W,some X,some Y,some Z,some a,some p,some q,some r,some s,some t,some u,some v,some x,some y,some z=>some ⟨L,N,⟨O,U,V,W,X,Y,Z,a,p,q⟩,⟨r,s,t,u,v,x,y,z⟩⟩
  | _,_,_,_,_,_,_,_,_,_,_,_,_,_,_,_,_,_,_,_=>none
 | _=>none
def Rest.of:List AV->Option Rest
 | [c,d]=>match c.gv (.nm .field),d.N3 with
  | some e,some f=>some ⟨e,f⟩
  | _,_=>none
 | _=>none
def Span.of:List AV->Option Span
 | [c,d]=>match c.bq,d.bq with
  | some e,some f=>some ⟨e,f⟩
  | _,_=>none
 | _=>none
def NT.of:(t:NT)->List AV->Option t.l5
 | .nd,l=>lg.of l
 | .b8,l=>eb.of l
 | .opn,l=>l8.of l
 | .snap,l=>hX.of l
 | .eS,l=>b7.of l
 | .command,l=>b5.of l
 | .snapE,l=>A7.of l
 | .field,l=>Field.of l
 | .spec,l=>k9.of l
 | .entry,l=>ec.of l
 | .record,l=>c9.of l
 | .letter,l=>eR.of l
 | .event,l=>Event.of l
 | .call,l=>A6.of l
 | .stable,l=>c4.of l
 | .route,l=>v7.of l
 | .site,l=>Site.of l
 | .nop,l=>C8.of l
 | .rest,l=>Rest.of l
 | .span,l=>Span.of l
def cellsOf:(s:Sh)->l5 s->List AV
 | .int,x=>[.int x]
 | .u8,x=>[.u8 x]
 | .u64,x=>[.u64 x.n]
 | .bool,x=>[.bool (.atom x)]
 | .str,x=>[.str x]
 | .lx,x=>[.li x.1 x.2]
 | .G7 s,x=>[.fz s x]
 | .nm t,x=>t.cells x
def Sh.size:Sh->Nat
 | .nm t=>t.size
 | _=>1
def Sh.bytes:Sh->Nat
 | .int=>8
 | .u8=>1
 | .u64=>8
 | .bool=>1
 | .str=>16
 | .lx=>24
 | .G7 _=>24
 | .nm t=>t.bytes
def c5:(s:Sh)->l5 s
 | .int=>0
 | .u8=>0
 | .u64=>⟨0⟩
 | .bool=>false
 | .str=>⟨[]⟩
 | .lx=>(true,[])
 | .G7 _=>[]
 | .nm t=>t.c5
def gP:(s:Sh)->List AV->Option (l5 s)
 | .int,[.int n]=>some n
 | .u8,[.u8 b]=>some b
 | .u64,[.u64 n]=>some ⟨n⟩
 | .bool,[.bool e]=>some e.val
 | .str,[.str s]=>some s
 | .lx,[a]=>a.P8
 | .G7 s,[a]=>a.gv s
 | .nm t,l=>t.of l
 | _,_=>none
end Go.Proofs.YticbaadnibdbkaaGreat
namespace Go.Proofs.YticbaadnibdbkaaGreat
open Go.RowKit
inductive TK
 | i (k:IntKind) | bool | str
 | sl (e:TypeId) (s:Option Sh)
 | st (fs:List (Nat × Nat))
 | ar (n:Nat) (e:TypeId)
 | mp (k e:TypeId) (s:Option Sh)
 | ptr | fn | oth
 | U1
 | ms (k e:TypeId)
 | mg (k e:TypeId) (z:List KC)
structure TI where
 k:TK
 size:Nat
 zero:List AV
def bj:List (Nat × TI)->Nat->Option TI
 | [],_=>none
 | (j,v) :: r,i=>bif Nat.beq j i then some v else bj r i
structure PR where
 v:TV
 ob:List Prop:=[]
 fc:List Prop:=[]
def one (a:AV):TV:=.one (.c a)
def pr (a:AV) (ob:List Prop:=[]) (b:List Prop:=[]):Option PR:=some ⟨.one (.c a),ob,b⟩
def AV.ok:AV->List Prop
 | .int n=>[a7 n]
 | .u64 n=>[n<18446744073709551616]
 | .str s=>[s.b.length<=140737488355328]
 | .fz s a=>[a.length*s.bytes<=140737488355328]
 | _=>[]
def Ng:List AV->List Prop
 | []=>[]
 | a :: r=>a.ok++Ng r
def n8.ok:n8->List Prop
 | .c a=>a.ok
 | .agg l=>Ng l
def LH:List n8->List Prop
 | []=>[]
 | a :: r=>a.ok++LH r
def l4 (H:AH) (id:Nat):AO:=H.getD id .gone
def AV.vw (H:AH):AV->AV
 | .own id=>match l4 H id with
  | .row _ s b=>.fz s b
  | _=>.dead
 | .sub id c len=>match l4 H id with
  | .row _ s b=>.fz s ((b.drop c).take len)
  | _=>.dead
 | a=>a
def cAV:Value->Option AV
 | .int .i64 n=>bif decide (-9223372036854775808<=n) && decide (n<=9223372036854775807) then some (.int n) else none
 | .int .u8 n=>bif decide (0<=n) && decide (n<256) then some (.u8 (ofNat n.toNat)) else none
 | .int .u64 n=>bif decide (0<=n) && decide (n<18446744073709551616) then some (.u64 n.toNat) else none
 | .int .u32 n=>bif decide (0<=n) && decide (n<4294967296) then some (.xx (.w n.toNat) []) else none
 | .bool b=>some (.bool (.lit b))
 | .string s=>bif ble s.data.toList.length 140737488355328 then some (.str ⟨s.data.toList⟩) else none
 | .slice none 0 0=>some (.em true)
 | .pointer none=>some .np
 | .nilIface=>some (.xx (.er true) [])
 | .nilFunc=>some .nf
 | _=>none
def dI (fr:j9):Operand->Option TV
 | .tmp i=>l1 fr i
 | .const v=>match cAV v with
  | some a=>some (one a)
  | none=>none
 | .func f=>some (one (.fn f [] []))
 | .global _=>none
def BE.neg:BE->BE
 | .lit b=>.lit (!b)
 | .not e=>e
 | e=>.not e
def N0 (a b:Int):Int:=((a.toNat ||| b.toNat:Nat):Int)
def MB (a b:Int):Int:=((BitVec.ofInt 64 a &&& BitVec.ofInt 64 b).toNat:Int)
def Z8 (c:BinOp):AV->AV->Option PR
 | .int a,.int b=>match c with
  | .lss=>pr (.bool (.lt a b))
  | .leq=>pr (.bool (.le a b))
  | .gtr=>pr (.bool (.lt b a))
  | .geq=>pr (.bool (.le b a))
  | .eql=>pr (.bool (.eq a b))
  | .neq=>pr (.bool (.not (.eq a b)))
  | .add=>pr (.int (a+b)) [a7 (a+b)]
  | .sub=>pr (.int (a - b)) [a7 (a - b)]
  | .mul=>pr (.int (a*b)) [a7 (a*b)]
  | .quo=>pr (.int (a.tdiv b)) [0<=a,0<b]
  | .rem=>pr (.int (a.tmod b)) [0<=a,0<b]
  | .and=>pr (.int (MB a b)) [0<=b]
  | .or=>pr (.int (N0 a b)) [0<=a,0<=b]
  | _=>none
 | .u8 a,.u8 b=>match c with
  | .lss=>pr (.bool (.lt a.toNat b.toNat))
  | .leq=>pr (.bool (.le a.toNat b.toNat))
  | .gtr=>pr (.bool (.lt b.toNat a.toNat))
  | .geq=>pr (.bool (.le b.toNat a.toNat))
  | .eql=>pr (.bool (.eq a.toNat b.toNat))
  | .neq=>pr (.bool (.not (.eq a.toNat b.toNat)))
  | .and=>pr (.u8 (a &&& b))
  | .or=>pr (.u8 (a ||| b))
  | .rem=>pr (.u8 (a % b)) [0<b.toNat]
  | .quo=>pr (.u8 (a / b)) [0<b.toNat]
  | _=>none
 | .u64 a,.u64 b=>match c with
  | .lss=>pr (.bool (.lt a b))
  | .leq=>pr (.bool (.le a b))
  | .gtr=>pr (.bool (.lt b a))
  | .geq=>pr (.bool (.le b a))
  | .eql=>pr (.bool (.eq a b))
  | .neq=>pr (.bool (.not (.eq a b)))
  | .add=>pr (.u64 ((a+b) % 18446744073709551616))
  | .or=>pr (.u64 (a ||| b))
  | .quo=>pr (.u64 (a / b)) [0<b]
  | .rem=>pr (.u64 (a % b)) [0<b]
  | .shl=>pr (.u64 ((a*2 ^ b) % 18446744073709551616)) [b<64]
  | .shr=>pr (.u64 (a / 2 ^ b)) [b<64]
  | _=>none
 | .u64 a,.int b=>match c with
  | .shl=>pr (.u64 ((a*2 ^ b.toNat) % 18446744073709551616)) [0<=b,b<64]
  | .shr=>pr (.u64 (a / 2 ^ b.toNat)) [0<=b,b<64]
  | _=>none
 | .int a,.u64 b=>match c with
  | .shl=>pr (.int (a*2 ^ b)) [b<64,a7 (a*2 ^ b)]
  | _=>none
 | .u8 a,.u64 b=>match c with
  | .shr=>pr (.u8 (ofNat (a.toNat / 2 ^ b))) [b<8]
  | _=>none
 | .bool a,.bool b=>match c with
  | .eql=>pr (.bool (.beq a b))
  | .neq=>pr (.bool (.not (.beq a b)))
  | _=>none
 | .str a,.str b=>match c with
  | .eql=>pr (.bool (.seq a b))
  | .neq=>pr (.bool (.not (.seq a b)))
  | .add=>pr (.str ⟨a.b++b.b⟩) [a.b.length+b.b.length<=140737488355328]
  | _=>none
 | .em a,.em true=>match c with
  | .eql=>pr (.bool (.lit a))
  | .neq=>pr (.bool (.lit (!a)))
  | _=>none
 | _,_=>none
inductive LK
 | i (k:IntKind) | b | s
deriving DecidableEq
def AV.lk:AV->Option LK
 | .int _=>some (.i .i64)
 | .u8 _=>some (.i .u8)
 | .u64 _=>some (.i .u64)
 | .bool _=>some .b
 | .str _=>some .s
 | _=>none
def M6:List AV->Option (List LK)
 | []=>some []
 | a :: r=>match a.lk,M6 r with
  | some k,some l=>some (k :: l)
  | _,_=>none
def VZ:AV->AV->Option BE
 | .int a,.int b=>some (.eq a b)
 | .u8 a,.u8 b=>some (.eq a.toNat b.toNat)
 | .u64 a,.u64 b=>some (.eq a b)
 | .bool x,.bool y=>some (.beq x y)
 | .str a,.str b=>some (.seq a b)
 | _,_=>none
def MQ:List AV->List AV->Option BE
 | [],[]=>some (.lit true)
 | [a],[b]=>VZ a b
 | a :: r,b :: l=>match VZ a b,MQ r l with
  | some x,some y=>some (.and x y)
  | _,_=>none
 | _,_=>none
def eqG (T:List (Nat × TI)) (c:BinOp) (t:TypeId) (a b:List AV):Option PR:=match bj T t with
 | some ⟨.st _,_,z⟩=>match M6 z,M6 a,M6 b with
  | some k,some d,some f=>match decide (d=k) && decide (f=k),MQ a b,c with
   | true,some e,.eql=>pr (.bool e)
   | true,some e,.neq=>pr (.bool (.not e))
   | _,_,_=>none
  | _,_,_=>none
 | _=>none
def UA (T:List (Nat × TI)) (t:TypeId):AV->Bool
 | .bool _=>match bj T t with
  | some ⟨.bool,_,_⟩=>true
  | _=>false
 | .em _=>match bj T t with
  | some ⟨.sl _ _,_,_⟩=>true
  | _=>false
 | .xx _ _=>false
 | _=>true
def de (n:Nat):Int:=if n<9223372036854775808 then n else (n:Int) - 18446744073709551616
def OW (H:AH) (s t:TK) (x:AV):Option PR:=
 match s,t,x with
 | .i .i64,.i .i64,.int n=>pr (.int n)
 | .i .u8,.i .i64,.u8 b=>pr (.int b.toNat)
 | .i .u8,.i .u64,.u8 b=>pr (.u64 b.toNat)
 | .i .i64,.i .u8,.int n=>pr (.u8 (ofNat n.toNat)) [0<=n]
 | .i .i64,.i .u64,.int n=>pr (.u64 n.toNat) [0<=n]
 | .i .u64,.i .u8,.u64 n=>pr (.u8 (ofNat n))
 | .i .u64,.i .i64,.u64 n=>pr (.int (de n))
 | .i .u64,.i .u64,.u64 n=>pr (.u64 n)
 | .sl _ (some .u8),.str,x=>match x.vw H with
  | .fz .u8 a=>pr (.str ⟨a⟩)
  | .em _=>pr (.str ⟨[]⟩)
  | _=>none
 | .str,.sl _ (some .u8),.str s=>pr (.fz .u8 s.b)
 | _,_,_=>none
def adm (T:List (Nat × TI)) (H:AH) (t:TypeId) (x:AV):Option Int:=
 match x,bj T t with
 | .fz _ a,some ⟨.sl _ _,_,_⟩=>some a.length
 | .str s,some ⟨.str,_,_⟩=>some s.b.length
 | .em _,some ⟨.sl _ _,_,_⟩=>some 0
 | .own id,some ⟨.sl _ _,_,_⟩=>match l4 H id with
  | .row _ _ a=>some a.length
  | _=>none
 | .sub id _ len,some ⟨.sl _ _,_,_⟩=>match l4 H id with
  | .row _ _ _=>some len
  | _=>none
 | .xx .pl c,some ⟨.sl _ _,_,_⟩=>some c.length
 | _,_=>none
def AV.ix:AV->Option Int
 | .int n=>some n
 | .u8 b=>some b.toNat
 | .u64 n=>some n
 | _=>none
def N1 (T:List (Nat × TI)) (t:TypeId):Option Sh:=match bj T t with
 | some ⟨.sl _ s,_,_⟩=>s
 | _=>none
def tH (H:AH) (b:Sh) (x:AV) (i:Int):Option PR:=
 match x with
 | .fz s a=>match decide (b = s) with
  | true=>pr (.fe s (a.getD i.toNat (c5 s)) 0) [0<=i,i<a.length] (Ng (cellsOf s (a.getD i.toNat (c5 s))))
  | false=>none
 | .own id=>match l4 H id with
  | .row _ s a=>match decide (b = s) with
   | true=>pr (.x8 id i.toNat 0) [0<=i,i<a.length] (Ng (cellsOf s (a.getD i.toNat (c5 s))))
   | false=>none
  | _=>none
 | _=>none
def zC (H:AH):AV->Option (List AV × Nat)
 | .ptr id o=>match l4 H id with
  | .box _ a=>some (a,o)
  | _=>none
 | .x8 id i o=>match l4 H id with
  | .row _ s b=>some (cellsOf s (b.getD i (c5 s)),o)
  | _=>none
 | .fe s x o=>some (cellsOf s x,o)
 | .xx .pa [q]=>some ([.ptr q.1 q.2],0)
 | _=>none
def Jn (T:List (Nat × TI)) (H:AH) (t:TypeId) (x:AV):Option PR:=
 match bj T t,zC H x with
 | some b,some (c,o)=>match b.k,ble (o+b.size) c.length with
  | .st _,true=>some ⟨.one (.agg ((c.drop o).take b.size)),[],[]⟩
  | .ar _ _,true=>some ⟨.one (.agg ((c.drop o).take b.size)),[],[]⟩
  | .oth,_=>none
  | .st _,_=>none
  | .ar _ _,_=>none
  | _,_=>match c[o]? with
   | some a=>pr a [] []
   | none=>none
 | _,_=>none
def AV.qc (k:Nat):AV->Option PR
 | .ptr id o=>pr (.ptr id (o+k))
 | .x8 id i o=>pr (.x8 id i (o+k))
 | .fe s x o=>pr (.fe s x (o+k))
 | _=>none
def lO (T:List (Nat × TI)) (t:TypeId) (x:AV) (l h:Option Int):Option PR:=
 match x with
 | .fz s a=>match N1 T t with
  | some c=>match decide (c = s) with
   | true=>match l,h with
    | some l,none=>pr (.fz s (a.drop l.toNat)) [0<=l,l<=a.length]
    | none,some h=>pr (.fz s (a.take h.toNat)) [0<=h,h<=a.length]
    | some l,some h=>pr (.fz s ((a.drop l.toNat).take (h.toNat - l.toNat))) [0<=l,l<=h,h<=a.length]
    | _,_=>none
   | false=>none
  | none=>none
 | .str s=>match bj T t with
  | some ⟨.str,_,_⟩=>match l,h with
   | some l,none=>pr (.str ⟨s.b.drop l.toNat⟩) [0<=l,l<=s.b.length]
   | none,some h=>pr (.str ⟨s.b.take h.toNat⟩) [0<=h,h<=s.b.length]
   | some l,some h=>pr (.str ⟨(s.b.drop l.toNat).take (h.toNat - l.toNat)⟩) [0<=l,l<=h,h<=s.b.length]
   | _,_=>none
  | _=>none
 | _=>none
def n8.cells:n8->List AV
 | .c a=>[a]
 | .agg l=>l
def Gy (fr:j9):List Operand->Option (List n8)
 | []=>some []
 | x :: r=>match dI fr x,Gy fr r with
  | some (.one a),some l=>some (a :: l)
  | _,_=>none
def zq (fr:j9):List (Nat × Operand)->Option (List (Nat × n8))
 | []=>some []
 | (i,x) :: r=>match dI fr x,zq fr r with
  | some (.one a),some l=>some ((i,a) :: l)
  | _,_=>none
def D9 (l:List AV) (o:Nat) (a:List AV):List AV:=l.take o++a++l.drop (o+a.length)
def mB (a:List (Nat × Nat)):List AV->List (Nat × n8)->Option (List AV)
 | z,[]=>some z
 | z,(i,v) :: r=>match a[i]? with
  | some (o,n)=>match Nat.beq v.cells.length n && ble (o+n) z.length with
   | true=>mB a (D9 z o v.cells) r
   | false=>none
  | none=>none
def nM:Nat->Nat->List (Nat × Nat)
 | _,0=>[]
 | k,n+1=>(k,1) :: nM (k+1) n
def mf:List n8->Option (List (Nat × Nat))
 | []=>some []
 | .c (.ptr id o) :: r=>match mf r with
  | some l=>some ((id,o) :: l)
  | none=>none
 | _=>none
def AV.plain:AV->Bool
 | .int _=>true
 | .u8 _=>true
 | .u64 _=>true
 | .bool _=>true
 | .str _=>true
 | .em _=>true
 | .fz _ _=>true
 | .li _ _=>true
 | _=>false
def O8 (T:List (Nat × TI)) (e:TypeId):Option Sh:=match bj T e with
 | some ⟨.i .i64,1,_⟩=>some .int
 | some ⟨.i .u8,1,_⟩=>some .u8
 | some ⟨.i .u64,1,_⟩=>some .u64
 | some ⟨.bool,1,_⟩=>some .bool
 | some ⟨.str,1,_⟩=>some .str
 | _=>none
def tU (s:Sh):List AV->Option (List (l5 s))
 | []=>some []
 | a :: r=>match gP s [a],tU s r with
  | some x,some l=>some (x :: l)
  | _,_=>none
def yK (s:Sh) (a:List (l5 s)):Nat->Nat->List AV
 | _,0=>[]
 | k,n+1=>cellsOf s (a.getD k (c5 s))++yK s a (k+1) n
def Rh (T:List (Nat × TI)) (t:TypeId) (a:List AV):AO:=match bj T t with
 | some ⟨.ar m e,_,_⟩=>match O8 T e with
  | some s=>match tU s a with
   | some b=>match Nat.beq b.length m && Nat.beq s.size 1 with
    | true=>.y9 t s m b
    | false=>.box t a
   | none=>.box t a
  | none=>.box t a
 | _=>.box t a
def sq (T:List (Nat × TI)) (H:AH) (t:TypeId) (x:AV):Option PR:=
 match x with
 | .ptr id o=>match l4 H id with
  | .y9 _ s n b=>match bj T t with
   | some ⟨.ar m _,sz,_⟩=>match Nat.beq o 0 && Nat.beq m n && Nat.beq sz n && Nat.beq s.size 1 with
    | true=>some ⟨.one (.agg (yK s b 0 n)),[],[]⟩
    | false=>none
   | some c=>match c.k,Nat.beq s.size 1,cellsOf s (b.getD o (c5 s)) with
    | .st _,_,_=>none
    | .ar _ _,_,_=>none
    | .oth,_,_=>none
    | _,true,[a]=>pr a [o<n] a.ok
    | _,_,_=>none
   | none=>none
  | _=>none
 | _=>none
def Bv (T:List (Nat × TI)) (e:TypeId):Bool:=match bj T e with
 | some ⟨.ptr,1,[.np]⟩=>true
 | _=>false
def iL (T:List (Nat × TI)) (H:AH) (t:TypeId) (x:AV) (i:Int):Option PR:=
 match x,bj T t with
 | .ptr id 0,some ⟨.ar m e,_,_⟩=>match l4 H id,O8 T e with
  | .y9 _ s n _,some _=>match Nat.beq m n && Nat.beq s.size 1 with
   | true=>pr (.ptr id i.toNat) [0<=i,i<n]
   | false=>none
  | _,_=>none
 | .xx .pl a,some ⟨.sl e none,_,_⟩=>match Bv T e,a[i.toNat]? with
  | true,some q=>pr (.xx .pa [q]) [0<=i,i<a.length]
  | _,_=>none
 | _,_=>none
def r_ (g:Nat):List H2->Option H2
 | []=>none
 | e :: r=>bif Nat.beq g e.g then some e else r_ g r
def vC (T:List (Nat × TI)) (t:TypeId) (x:Operand) (i:Int):Option PR:=
 match x with
 | .global g=>match r_ g VV,bj T t with
  | some e,some ⟨.ar m a,_,_⟩=>match O8 T a with
   | some s=>match decide (s=e.s) && Nat.beq m e.xs.length with
    | true=>pr (.fe e.s (e.xs.getD i.toNat (c5 e.s)) 0) [0<=i,i<m] (Ng (cellsOf e.s (e.xs.getD i.toNat (c5 e.s))))
    | false=>none
   | none=>none
  | _,_=>none
 | _=>none
def lC (T:List (Nat × TI)) (t:TypeId) (c:List AV) (i:Int):Option PR:=
 match bj T t with
 | some ⟨.ar m e,_,_⟩=>match O8 T e with
  | some s=>match tU s c with
   | some b=>match Nat.beq b.length m,cellsOf s (b.getD i.toNat (c5 s)) with
    | true,[a]=>pr a [0<=i,i<m] a.ok
    | _,_=>none
   | none=>none
  | none=>none
 | _=>none
structure z8 where
 pre:List Prop:=[]
 rs:List n8
 out:Option AH:=none
 dm:Bool:=false
abbrev ck:=Nat->List n8->AH->Option z8
def adL (O:ck):Bool:=(O 1000000000 [] []).isSome
def jj (a b:Int):Int:=IntKind.i64.wrap (a - b)
def ad2 (O:ck):Bool:=(O 1000000001 [] []).isSome
def adv (a b:Int):Int:=IntKind.i64.wrap (a+b)
def adY (O:ck) (c:BinOp) (a b:AV):Option PR:=match adL O,ad2 O,c,a,b with
 | true,_,.sub,.int x,.int y=>pr (.int (jj x y))
 | _,true,.add,.int x,.int y=>pr (.int (adv x y))
 | _,_,c,a,b=>Z8 c a b
def AV.ids:AV->List Nat
 | .own i=>[i]
 | .sub i _ _=>[i]
 | .x8 i _ _=>[i]
 | .ptr i _=>[i]
 | .fn _ b c=>b.map (·.1)++c.map (·.1)
 | .mq i=>[i]
 | .xx _ a=>a.map (·.1)
 | _=>[]
def ym:List AV->List Nat
 | []=>[]
 | a :: r=>a.ids++ym r
def rR:List n8->List Nat
 | []=>[]
 | a :: r=>ym a.cells++rR r
def Vq:List (Int × AV)->List Nat
 | []=>[]
 | (_,a) :: r=>a.ids++Vq r
def AO.ids:AO->List Nat
 | .box _ a=>ym a
 | .p7 l=>Vq l
 | _=>[]
def cM (i:Nat):List Nat->Bool
 | []=>false
 | j :: r=>bif Nat.beq i j then true else cM i r
def reach (H:AH):Nat->List Nat->List Nat->List Nat
 | 0,_,seen=>seen
 | _+1,[],seen=>seen
 | n+1,i :: r,seen=>bif cM i seen then reach H n r seen else reach H n ((l4 H i).ids++r) (seen++[i])
def posOf (i:Nat):List Nat->Nat
 | []=>0
 | j :: r=>bif Nat.beq i j then 0 else posOf i r+1
def UZ (f:Nat->Nat):List (Nat × Nat)->List (Nat × Nat)
 | []=>[]
 | (i,o) :: r=>(f i,o) :: UZ f r
def AV.mN (f:Nat->Nat):AV->AV
 | .own i=>.own (f i)
 | .sub i o l=>.sub (f i) o l
 | .x8 i k o=>.x8 (f i) k o
 | .ptr i o=>.ptr (f i) o
 | .fn g b c=>.fn g (UZ f b) (UZ f c)
 | .mq i=>.mq (f i)
 | .xx k d=>.xx k (UZ f d)
 | a=>a
def Te (f:Nat->Nat):List AV->List AV
 | []=>[]
 | a :: r=>a.mN f :: Te f r
def n8.mN (f:Nat->Nat):n8->n8
 | .c a=>.c (a.mN f)
 | .agg l=>.agg (Te f l)
def jF (f:Nat->Nat):List n8->List n8
 | []=>[]
 | a :: r=>a.mN f :: jF f r
def VA (f:Nat->Nat):List (Int × AV)->List (Int × AV)
 | []=>[]
 | (k,a) :: r=>(k,a.mN f) :: VA f r
def AO.mN (f:Nat->Nat):AO->AO
 | .box t a=>.box t (Te f a)
 | .p7 l=>.p7 (VA f l)
 | o=>o
def qB (f:Nat->Nat):List AO->List AO
 | []=>[]
 | a :: r=>a.mN f :: qB f r
def IM (H:AH):List AV->List AV
 | []=>[]
 | a :: r=>a.vw H :: IM H r
def n8.vw (H:AH):n8->n8
 | .c a=>.c (a.vw H)
 | .agg l=>.agg (IM H l)
def Lp (H:AH):List n8->List n8
 | []=>[]
 | a :: r=>a.vw H :: Lp H r
def tI (H:AH) (l:List n8):List Nat:=reach H 64 (rR l) []
def lY (H:AH):List Nat->List AO
 | []=>[]
 | i :: r=>l4 H i :: lY H r
def K_:List n8->TV
 | [a]=>.one a
 | l=>.C4 l
def rG (σ:List Nat):List Nat->Bool
 | []=>true
 | i :: r=>cM i σ && rG σ r
def lT:List Nat->Bool
 | []=>true
 | i :: r=>!cM i r && lT r
def iC (H:AH) (σ:List Nat):List Nat->Bool
 | []=>true
 | i :: r=>blt i H.length && rG σ (l4 H i).ids && iC H σ r
def Sh.iy:Sh->List Sh
 | .G7 s=>[s]
 | .lx=>[.int]
 | .nm t=>t.iy
 | _=>[]
def kq (f:Sh->Bool):List Sh->Bool
 | []=>true
 | s :: r=>f s && kq f r
def Sh.no:Nat->Sh->Sh->Bool
 | 0,_,_=>false
 | n+1,b,s=>!decide (s=b) && kq (Sh.no n b) s.iy
def AV.no (b:Sh):AV->Bool
 | .fz s _=>Sh.no 5 b s
 | .li _ _=>Sh.no 5 b .int
 | .fe _ _ _=>false
 | .xx k _=>match k with
  | .er _=>true
  | .bp=>true
  | .ff _ _=>true
  | .w _=>true
  | .kf _=>true
  | _=>false
 | _=>true
def P7 (b:Sh):List AV->Bool
 | []=>true
 | a :: r=>a.no b && P7 b r
def S1 (b:Sh):List n8->Bool
 | []=>true
 | a :: r=>P7 b a.cells && S1 b r
def fy:List AV->List Nat
 | []=>[]
 | .own i :: r=>i :: fy r
 | .sub i _ _ :: r=>i :: fy r
 | _ :: r=>fy r
def gr:List n8->List Nat
 | []=>[]
 | a :: r=>fy a.cells++gr r
def fU (H:AH):List Nat->List Sh
 | []=>[]
 | i :: r=>match l4 H i with
  | .row _ s _=>s :: fU H r
  | _=>fU H r
def qF (σ:List Nat):List Nat->Bool
 | []=>true
 | i :: r=>!cM i σ && qF σ r
def qC (H:AH):List Nat->Bool
 | []=>true
 | i :: r=>(match l4 H i with
  | .row _ _ _=>true
  | _=>false) && qC H r
def HP (O:ck) (H:AH) (f:Nat) (args:List n8):Option PR:=
 match tI H (Lp H args) with
 | σ=>match lT σ && rG σ (rR (Lp H args)) && iC H σ σ && qF σ (gr args) && qC H (gr args) with
  | true=>match O f (jF (posOf · σ) (Lp H args)) (qB (posOf · σ) (lY H σ)) with
   | some ⟨pre,a,none,_⟩=>match kq (fun b=>S1 b a) (fU H (gr args)) with
    | true=>some ⟨K_ (jF (fun j=>σ.getD j 0) a),pre,LH a⟩
    | false=>none
   | _=>none
  | false=>none
variable (T:List (Nat × TI)) (O:ck)
def iX (fr:j9) (c:Call):Option (Nat × List n8):=
 match c.callee with
 | .value f=>match dI fr f,Gy fr c.args.toList with
  | some (.one (.c (.fn g b a))),some l=>some (g,b.map (fun q=>.c (.ptr q.1 q.2))++(l++a.map (fun q=>.c (.ptr q.1 q.2))))
  | some (.one (.c (.xx (.kf x) []))),some l=>match x with
   | .f g=>some (g,l)
   | _=>none
  | _,_=>none
 | _=>none
def Sh.qw:Sh->Bool
 | .nm _=>true
 | _=>false
def UI (s:Sh) (x:l5 s):n8:=bif s.qw then .agg (cellsOf s x) else match cellsOf s x with
 | [a]=>.c a
 | l=>.agg l
def UM (O:ck):Bool:=(O 1000000002 [] []).isSome
def Q0 (n:Int):UInt8:=ofNat (n % 256).toNat
def PW (O:ck) (H:AH) (s t:TK) (x:AV):Option PR:=match UM O,s,t,x with
 | true,.i .i64,.i .u8,.int n=>pr (.u8 (Q0 n))
 | _,s,t,x=>OW H s t x
def erA (T:List (Nat × TI)) (a:BinOp) (t:TypeId) (x:Option TV):Operand->Option PR
 | .const .nilIface=>match bj T t,x with
  | some ⟨.U1,_,_⟩,some (.one (.c (.xx (.er b) [])))=>match a with
   | .eql=>pr (.bool (.atom b))
   | .neq=>pr (.bool (.not (.atom b)))
   | _=>none
  | _,_=>none
 | _=>none
def sW:Nat->List (Nat × n8)->Option (List (Nat × Nat))
 | _,[]=>some []
 | k,(i,.c (.ptr id o)) :: r=>match Nat.beq i k,sW (k+1) r with
  | true,some l=>some ((id,o) :: l)
  | _,_=>none
 | _,_=>none
def UG (T:List (Nat × TI)) (t:TypeId) (x y:Option TV) (ok:Bool):Option PR:=
 match bj T t,x,y with
 | some ⟨.ms _ _,_,_⟩,some (.one (.c (.xx (.fm f) []))),some (.one (.c (.str s)))=>match ok with
  | false=>pr (.int ((f s).getD 0))
  | true=>none
 | _,_,_=>none
def X3 (H:AH) (fr:j9):Op->Option PR
 | .move x=>match dI fr x with
  | some v=>some ⟨v,[],[]⟩
  | none=>none
 | .assign x=>match dI fr x with
  | some v=>some ⟨v,[],[]⟩
  | none=>none
 | .unOp .not _ x=>match dI fr x with
  | some (.one (.c (.bool e)))=>pr (.bool e.neg)
  | _=>none
 | .binOp j t x y _=>match dI fr x,dI fr y with
  | some (.one (.c a)),some (.one (.c b))=>match UA T t a with
   | true=>adY O j a b
   | false=>erA T j t (some (.one (.c a))) y
  | some (.one (.agg a)),some (.one (.agg b))=>eqG T j t a b
  | _,_=>none
 | .extract x i=>match dI fr x with
  | some (.C4 l)=>match l[i]? with
   | some a=>some ⟨.one a,[],[]⟩
   | none=>none
  | _=>none
 | .nilCheck x=>match dI fr x with
  | some (.one (.c a))=>match a with
   | .ptr _ _=>pr a
   | .x8 _ _ _=>pr a
   | .fe _ _ _=>pr a
   | .fn _ _ _=>pr a
   | _=>none
  | _=>none
 | .convert s t x=>match bj T s,bj T t,dI fr x with
  | some a,some b,some (.one (.c v))=>PW O H a.k b.k v
  | _,_,_=>none
 | .makeFunc (.func f) b c=>match b.toList,Gy fr c.toList with
  | [],some g=>match mf g with
   | some q=>pr (.fn f [] q)
   | none=>none
  | _,_=>none
 | .fieldAddr t x i=>match bj T t,dI fr x with
  | some ⟨.st p,_,_⟩,some (.one (.c a))=>match p[i]? with
   | some (o,_)=>a.qc o
   | none=>none
  | _,_=>none
 | .load t x=>match dI fr x with
  | some (.one (.c a))=>match sq T H t a with
   | some r=>some r
   | none=>Jn T H t a
  | _=>none
 | .indexAddr t x y=>match dI fr x,dI fr y,N1 T t with
  | some (.one (.c a)),some (.one (.c b)),some s=>match b.ix with
   | some i=>tH H s a i
   | none=>none
  | some (.one (.c a)),some (.one (.c b)),none=>match b.ix with
   | some i=>iL T H t a i
   | none=>none
  | none,some (.one (.c b)),none=>match b.ix with
   | some i=>vC T t x i
   | none=>none
  | _,_,_=>none
 | .index t x y=>match dI fr x,dI fr y with
  | some (.one (.c (.str s))),some (.one (.c b))=>match b.ix with
   | some i=>match bj T t with
    | some ⟨.str,_,_⟩=>pr (.u8 (s.b.getD i.toNat 0)) [0<=i,i<s.b.length]
    | _=>none
   | none=>none
  | some (.one (.agg g)),some (.one (.c b))=>match b.ix with
   | some i=>lC T t g i
   | none=>none
  | _,_=>none
 | .lookup t x y ok=>match bj T t,dI fr x,dI fr y with
  | some ⟨.mp _ _ (some s),_,_⟩,some (.one (.c (.mq id))),some (.one (.c (.int k)))=>match l4 H id with
   | .q7 u f=>if h:u = s then (match ok with
    | false=>some ⟨.one (UI s ((h ▸ f k:Option (l5 s)).getD (c5 s))),[],[]⟩
    | true=>some ⟨.C4 [UI s ((h ▸ f k:Option (l5 s)).getD (c5 s)),.c (.bool (.atom (f k).isSome))],[],[]⟩) else none
   | _=>none
  | _,x,y=>UG T t x y ok
 | .buildSlice t n d=>match bj T t,zq fr d.toList with
  | some ⟨.sl e none,_,_⟩,some l=>match sW 0 l with
   | some g=>match Nat.beq g.length n && Bv T e && ble n 16777216 with
    | true=>pr (.xx .pl g)
    | false=>none
   | none=>none
  | _,_=>none
 | .build t d=>match bj T t,zq fr d.toList with
  | some ⟨.st p,_,z⟩,some l=>match mB p z l with
   | some g=>some ⟨.one (.agg g),[],[]⟩
   | none=>none
  | some ⟨.ar m e,_,z⟩,some l=>match O8 T e,mB (nM 0 m) z l with
   | some _,some g=>some ⟨.one (.agg g),[],[]⟩
   | _,_=>none
  | _,_=>none
 | .slice t x l h none=>match dI fr x with
  | some (.one (.c a))=>match l,h with
   | none,none=>none
   | some l,none=>match dI fr l with
    | some (.one (.c (.int l)))=>lO T t a (some l) none
    | _=>none
   | none,some h=>match dI fr h with
    | some (.one (.c (.int h)))=>lO T t a none (some h)
    | _=>none
   | some l,some h=>match dI fr l,dI fr h with
    | some (.one (.c (.int l))),some (.one (.c (.int h)))=>lO T t a (some l) (some h)
    | _,_=>none
  | _=>none
 | .call c=>match c.callee with
  | .builtin .len=>match c.args.toList,c.argTypes.toList with
   | [x],[t]=>match dI fr x with
    | some (.one (.c a))=>match adm T H t a with
     | some n=>pr (.int n)
     | none=>none
    | _=>none
   | _,_=>none
  | .builtin .min=>match c.args.toList with
   | [x,y]=>match dI fr x,dI fr y with
    | some (.one (.c (.int a))),some (.one (.c (.int b)))=>pr (.int (min a b))
    | some (.one (.c (.u64 a))),some (.one (.c (.u64 b)))=>pr (.u64 (min a b))
    | _,_=>none
   | _=>none
  | .builtin .max=>match c.args.toList with
   | [x,y]=>match dI fr x,dI fr y with
    | some (.one (.c (.int a))),some (.one (.c (.int b)))=>pr (.int (max a b))
    | _,_=>none
   | _=>none
  | .value _=>match iX fr c with
   | some (f,l)=>HP O H f l
   | none=>none
  | _=>none
 | _=>none
def wOp (c:BinOp) (a b:Nat):Option PR:=match c with
 | .eql=>pr (.bool (.eq a b))
 | .neq=>pr (.bool (.not (.eq a b)))
 | .add=>pr (.xx (.w ((a+b) % 4294967296)) [])
 | .mul=>pr (.xx (.w ((a*b) % 4294967296)) [])
 | .rem=>pr (.xx (.w (a % b)) []) [0<b]
 | .quo=>pr (.xx (.w (a / b)) []) [0<b]
 | .or=>pr (.xx (.w (a ||| b)) [])
 | _=>none
def wSh (c:BinOp) (a b:Nat):Option PR:=match c with
 | .shl=>pr (.xx (.w ((a*2 ^ b) % 4294967296)) []) [b<32]
 | .shr=>pr (.xx (.w (a / 2 ^ b)) []) [b<32]
 | _=>none
def iSh (c:BinOp) (a:Int) (b:Nat):Option PR:=match c with
 | .shr=>pr (.int ((a.toNat / 2 ^ b:Nat):Int)) [0<=a,b<64]
 | _=>none
def eB:List (Int × List KC)->Int->Option (List KC)
 | [],_=>none
 | (j,a) :: r,k=>if k=j then some a else eB r k
def KC.int:KC->Int
 | .i n=>n
 | _=>0
def KC.bool:KC->Bool
 | .b v=>v
 | _=>false
def ET (a:List KC):Nat->List KC->List AV
 | _,[]=>[]
 | i,.i _ :: r=>.int ((a.getD i .nf).int) :: ET a (i+1) r
 | i,.b _ :: r=>.bool (.atom ((a.getD i .nf).bool)) :: ET a (i+1) r
 | i,_ :: r=>.xx (.kf (a.getD i .nf)) [] :: ET a (i+1) r
def Nf:List KC->List KC->Bool
 | [],[]=>true
 | .i _ :: r,.i n :: l=>decide (-9223372036854775808<=n) && decide (n<=9223372036854775807) && Nf r l
 | .b _ :: r,.b _ :: l=>Nf r l
 | .f _ :: r,.f _ :: l=>Nf r l
 | .f _ :: r,.nf :: l=>Nf r l
 | .nf :: r,.f _ :: l=>Nf r l
 | .nf :: r,.nf :: l=>Nf r l
 | _,_=>false
def S0 (z:List KC):List (Int × List KC)->Bool
 | []=>Nf z z
 | (_,a) :: r=>Nf z a && S0 z r
def aga:List (Nat × Nat):=[(201,0),(201,1),(201,2),(201,3),(201,4),(201,5),(48,0),(48,1),(48,2),(48,3),(48,4),(48,5),(48,6),(48,7),(48,8)]
def SA (t i:Nat):List (Nat × Nat)->Bool
 | []=>false
 | (a,b) :: r=>(Nat.beq t a && Nat.beq i b) || SA t i r
def zW (T:List (Nat × TI)) (t:TypeId) (x:AV) (l h m:Int):Option PR:=
 match x with
 | .fz s a=>match N1 T t with
  | some b=>match decide (b = s) with
   | true=>pr (.fz s ((a.drop l.toNat).take (h.toNat - l.toNat))) [0<=l,l<=h,h<=m,m<=a.length]
   | false=>none
  | none=>none
 | _=>none
def W6 (T:List (Nat × TI)) (t:TypeId) (a:BinOp) (b:Bool):Option PR:=match a,bj T t with
 | .eql,some ⟨.ptr,_,_⟩=>pr (.bool (.lit b))
 | .neq,some ⟨.ptr,_,_⟩=>pr (.bool (.lit (!b)))
 | _,_=>none
def X4 (H:AH) (fr:j9):Op->Option PR
 | .binOp j t x y _=>match dI fr x,dI fr y with
  | some (.one (.c (.ptr _ _))),some (.one (.c .np))=>W6 T t j false
  | some (.one (.c .np)),some (.one (.c .np))=>W6 T t j true
  | some (.one (.c (.xx (.w a) []))),some (.one (.c (.xx (.w b) [])))=>wOp j a b
  | some (.one (.c (.xx (.w a) []))),some (.one (.c (.u64 b)))=>wSh j a b
  | some (.one (.c (.int a))),some (.one (.c (.u64 b)))=>iSh j a b
  | _,_=>none
 | .convert s t x=>match bj T s,bj T t,dI fr x with
  | some ⟨.i .u8,_,_⟩,some ⟨.i .u32,_,_⟩,some (.one (.c (.u8 b)))=>pr (.xx (.w b.toNat) [])
  | some ⟨.i .u32,_,_⟩,some ⟨.i .u8,_,_⟩,some (.one (.c (.xx (.w n) [])))=>pr (.u8 (ofNat n))
  | _,_,_=>none
 | .lookup t x y ok=>match bj T t,dI fr x,dI fr y with
  | some ⟨.mg _ _ z,_,_⟩,some (.one (.c (.xx (.km l) []))),some (.one (.c (.int k)))=>match S0 z l,ok with
   | true,false=>some ⟨.one (.agg (ET ((eB l k).getD z) 0 z)),[],[]⟩
   | true,true=>some ⟨.C4 [.agg (ET ((eB l k).getD z) 0 z),.c (.bool (.atom (eB l k).isSome))],[],[]⟩
   | _,_=>none
  | _,_,_=>none
 | .field t x i=>match bj T t,dI fr x,SA t i aga with
  | some ⟨.st p,_,_⟩,some (.one (.agg d)),true=>match p[i]? with
   | some (o,_)=>match d[o]? with
    | some a=>pr a
    | none=>none
   | none=>none
  | _,_,_=>none
 | .makeFunc (.func f) b c=>match Gy fr b.toList,Gy fr c.toList with
  | some q,some d=>match mf q,mf d with
   | some r,some u=>pr (.fn f r u)
   | _,_=>none
  | _,_=>none
 | .indexAddr t x y=>match dI fr x,dI fr y,bj T t with
  | some (.one (.c (.ptr id 0))),some (.one (.c (.int i))),some ⟨.ar m e,_,_⟩=>match l4 H id,bj T e with
   | .box _ d,some ⟨.i .u32,1,_⟩=>match Nat.beq d.length m with
    | true=>pr (.ptr id i.toNat) [0<=i,i<m]
    | false=>none
   | _,_=>none
  | _,_,_=>none
 | .slice t x (some l) (some h) (some m)=>match dI fr x,dI fr l,dI fr h,dI fr m with
  | some (.one (.c a)),some (.one (.c (.int l))),some (.one (.c (.int h))),some (.one (.c (.int m)))=>zW T t a l h m
  | _,_,_,_=>none
 | .slice t x none (some h) (some m)=>match dI fr x,dI fr h,dI fr m with
  | some (.one (.c a)),some (.one (.c (.int h))),some (.one (.c (.int m)))=>zW T t a 0 h m
  | _,_,_=>none
 | .build t g=>match bj T t,zq fr g.toList with
  | some ⟨.ar m e,_,z⟩,some l=>match bj T e,mB (nM 0 m) z l with
   | some ⟨.i .u32,1,_⟩,some d=>some ⟨.one (.agg d),[],[]⟩
   | _,_=>none
  | _,_=>none
 | _=>none
def pv (H:AH) (fr:j9) (a:Op):Option PR:=match X3 T O H fr a with
 | some r=>some r
 | none=>X4 T H fr a
end Go.Proofs.YticbaadnibdbkaaGreat
namespace Go.Proofs.YticbaadnibdbkaaGreat
open Go.RowKit
structure Lv where
 wr:Nat->Bool
 mv:Nat->Bool
def iu (k:Nat):Lv:=⟨ble k,ble k⟩
def AV.kill (i:Nat):AV->AV
 | .own j=>bif Nat.beq i j then .dead else .own j
 | .sub j o l=>bif Nat.beq i j then .dead else .sub j o l
 | .x8 j k o=>bif Nat.beq i j then .dead else .x8 j k o
 | a=>a
def AV.LC (H:AH) (i:Nat):AV->AV
 | .own j=>bif Nat.beq i j then (AV.own j).vw H else .own j
 | .sub j o k=>bif Nat.beq i j then (AV.sub j o k).vw H else .sub j o k
 | .x8 j k o=>bif Nat.beq i j then .dead else .x8 j k o
 | a=>a
def tf (g:AV->AV):List AV->List AV
 | []=>[]
 | a :: r=>g a :: tf g r
def n8.mapA (g:AV->AV):n8->n8
 | .c a=>.c (g a)
 | .agg l=>.agg (tf g l)
def yU (g:AV->AV):List n8->List n8
 | []=>[]
 | a :: r=>a.mapA g :: yU g r
def TV.mapA (g:AV->AV):TV->TV
 | .one t=>.one (t.mapA g)
 | .C4 l=>.C4 (yU g l)
 | .un=>.un
def jK (g:AV->AV):j9->j9
 | []=>[]
 | (i,v) :: r=>(i,v.mapA g) :: jK g r
def mapM (g:AV->AV):List (Int × AV)->List (Int × AV)
 | []=>[]
 | (k,a) :: r=>(k,g a) :: mapM g r
def AO.mapA (g:AV->AV):AO->AO
 | .box t a=>.box t (tf g a)
 | .p7 l=>.p7 (mapM g l)
 | o=>o
def iJ (g:AV->AV):AH->AH
 | []=>[]
 | o :: r=>o.mapA g :: iJ g r
structure SR where
 v:TV
 fr:j9
 H:AH
 ob:List Prop:=[]
 fc:List Prop:=[]
def ow (s:Sh):n8->Bool
 | .agg _=>s.qw
 | .c _=>!s.qw
def jA (a:Lv):List Nat->j9->AH->Option (j9 × AH)
 | [],fr,H=>some (fr,H)
 | i :: l,fr,H=>match l4 H i with
  | .row _ _ _=>match a.mv i && a.wr i with
   | true=>jA a l (jK (AV.LC H i) fr) ((iJ (AV.LC H i) H).set i .gone)
   | false=>none
  | _=>jA a l fr H
def m_ (b:Lv) (fr:j9) (H:AH) (e:TypeId) (s:Sh) (a:List (l5 s)) (x:AV):Option SR:=
 match x with
 | .em _=>some ⟨one (.own H.length),fr,H++[.row e s a],[a.length*s.bytes<=140737488355328],[]⟩
 | .own id=>match l4 H id with
  | .row d f c=>if h:f = s then (match b.mv id && b.wr id && Nat.beq d e with
   | true=>some ⟨one (.own id),jK (AV.kill id) fr,(iJ (AV.kill id) H).set id (.row e s ((h ▸ c:List (l5 s))++a)),[(c.length+a.length)*s.bytes<=140737488355328],[]⟩
   | false=>none) else none
  | _=>none
 | .sub id 0 len=>match l4 H id with
  | .row d f c=>if h:f = s then (match b.mv id && b.wr id && Nat.beq d e with
   | true=>some ⟨one (.own id),jK (AV.kill id) fr,(iJ (AV.kill id) H).set id (.row e s ((h ▸ c:List (l5 s)).take len++a)),[(len+a.length)*s.bytes<=140737488355328],[]⟩
   | false=>none) else none
  | _=>none
 | _=>none
def kL (T:List (Nat × TI)) (a:Lv) (fr:j9) (H:AH) (t:TypeId) (x y:AV):Option SR:=
 match bj T t with
 | some ⟨.sl e (some s),_,_⟩=>match (y.vw H).gv s with
  | some b=>m_ a fr H e s b x
  | none=>none
 | _=>none
def Aa (T:List (Nat × TI)) (a:Lv) (fr:j9) (H:AH) (t c:TypeId) (x y:AV):Option SR:=
 match bj T t,bj T c,y with
 | some ⟨.sl e (some .u8),_,_⟩,some ⟨.str,_,_⟩,.str s=>m_ a fr H e .u8 s.b x
 | _,_,_=>none
def Fe (b:Lv) (fr:j9) (H:AH) (x:AV) (v:n8):Option SR:=
 match x with
 | .ptr id o=>match l4 H id with
  | .box t e=>match b.wr id && ble (o+v.cells.length) e.length with
   | true=>some ⟨.un,fr,H.set id (.box t (D9 e o v.cells)),[],[]⟩
   | false=>none
  | .y9 t s n c=>match b.wr id && Nat.beq s.size 1,v.cells with
   | true,[a]=>match a.plain,gP s [a] with
    | true,some d=>some ⟨.un,fr,H.set id (.y9 t s n (c.set o d)),[o<n],[]⟩
    | _,_=>none
   | true,_=>match Nat.beq o 0,tU s v.cells with
    | true,some l=>match Nat.beq l.length n with
     | true=>some ⟨.un,fr,H.set id (.y9 t s n l),[],[]⟩
     | false=>none
    | _,_=>none
   | _,_=>none
  | _=>none
 | .x8 id i o=>match l4 H id with
  | .row t s c=>match b.wr id && ble (o+v.cells.length) s.size && !cM id (fy v.cells),gP s (D9 (cellsOf s (c.getD i (c5 s))) o (IM H v.cells)),jA b (fy v.cells) fr H with
   | true,some d,some q=>some ⟨.un,q.1,q.2.set id (.row t s (c.set i d)),[],[]⟩
   | _,_,_=>none
  | _=>none
 | _=>none
def uf (s:Sh) (H:AH):List (Nat × n8)->Nat->Option (List (l5 s))
 | [],_=>some []
 | (i,v) :: r,k=>match Nat.beq i k,gP s (IM H v.cells),uf s H r (k+1) with
  | true,some x,some l=>some (x :: l)
  | _,_,_=>none
def FK:List (Nat × n8)->List Nat
 | []=>[]
 | (_,v) :: r=>fy v.cells++FK r
def nD (f:Nat->AO):List Nat->AH->AH
 | [],H=>H
 | i :: r,H=>nD f r (H.set i (f i))
def AV.cX (l:List Nat):AV->AV
 | .own j=>bif cM j l then .dead else .own j
 | .sub j o k=>bif cM j l then .dead else .sub j o k
 | .x8 j k o=>bif cM j l then .dead else .x8 j k o
 | a=>a
def rowsOf (H:AH):List Nat->List Nat
 | []=>[]
 | i :: r=>match l4 H i with
  | .row _ _ _=>i :: rowsOf H r
  | .loc=>i :: rowsOf H r
  | _=>rowsOf H r
def Ep (a:Lv):List Nat->Bool
 | []=>true
 | i :: r=>a.wr i && a.mv i && Ep a r
def U5 (b:Sh):List (Int × AV)->Bool
 | []=>true
 | (_,a) :: r=>a.no b && U5 b r
def vx (b:Sh):List AO->Bool
 | []=>true
 | .box _ a :: r=>P7 b a && vx b r
 | .row _ s _ :: r=>kq (Sh.no 5 b) s.iy && vx b r
 | .gone :: r=>vx b r
 | .q7 s _ :: r=>kq (Sh.no 5 b) s.iy && vx b r
 | .y9 _ s _ _ :: r=>kq (Sh.no 5 b) s.iy && vx b r
 | .p7 l :: r=>U5 b l && vx b r
 | .loc :: r=>vx b r
def gL (H:AH) (σ:List Nat) (j:Nat):Nat:=bif ble σ.length j then H.length+(j - σ.length) else σ.getD j 0
def Ju (O:ck) (g:Lv) (fr:j9) (H:AH) (f:Nat) (a:List n8) (c:List Nat):Option SR:=
 match tI H a with
 | σ=>match lT σ && rG σ (rR a) && iC H σ σ && qF σ c && Ep g σ with
  | true=>match O f (jF (posOf · σ) a) (qB (posOf · σ) (lY H σ)) with
   | some ⟨pre,e,some d,_⟩=>match ble σ.length d.length && kq (fun b=>S1 b e && vx b d) (fU H c) with
    | true=>some ⟨K_ (jF (gL H σ) e),jK (AV.cX (rowsOf H σ)) fr,nD (fun i=>(d.getD (posOf i σ) .gone).mN (gL H σ)) σ (iJ (AV.cX (rowsOf H σ)) H)++qB (gL H σ) (d.drop σ.length),pre,LH e⟩
    | false=>none
   | _=>none
  | false=>none
def Td (O:ck) (fr:j9) (H:AH) (f:Nat) (a:List n8):Option SR:=
 match tI H a with
 | σ=>match lT σ && rG σ (rR a) && iC H σ σ with
  | true=>match O f (jF (posOf · σ) a) (qB (posOf · σ) (lY H σ)) with
   | some ⟨pre,b,some c,true⟩=>match ble σ.length c.length with
    | true=>some ⟨K_ (jF (gL H σ) b),fr,H++qB (gL H σ) (c.drop σ.length),pre,LH b⟩
    | false=>none
   | _=>none
  | false=>none
def Rv (O:ck) (a:Lv) (fr:j9) (H:AH) (f:Nat) (args:List n8):Option SR:=
 match Td O fr H f args with
 | some r=>some r
 | none=>match qC H (gr args),Ju O a fr H f (Lp H args) (gr args) with
 | true,some r=>some r
 | _,_=>Ju O a fr H f args []
def TC (T:List (Nat × TI)) (a:Lv) (fr:j9) (H:AH) (t:TypeId) (x y z:Operand):Option SR:=
 match bj T t,dI fr x,dI fr y,dI fr z with
 | some ⟨.mp _ _ (some s),_,_⟩,some (.one (.c (.mq id))),some (.one (.c (.int k))),some (.one v)=>match l4 H id with
  | .q7 b f=>if h:b = s then (match a.wr id && ow s v && !cM id (fy v.cells),gP s (IM H v.cells),jA a (fy v.cells) fr H with
   | true,some d,some q=>some ⟨.un,q.1,q.2.set id (.q7 s fun j=>if j=k then some d else (h ▸ f:Int->Option (l5 s)) j),[],[]⟩
   | _,_,_=>none) else none
  | _=>none
 | _,_,_,_=>none
def Uc (T:List (Nat × TI)) (b:Lv) (fr:j9) (H:AH) (t:TypeId) (x y z:Operand):Option SR:=
 match bj T t,dI fr x,dI fr y,dI fr z with
 | some ⟨.mp _ _ none,_,_⟩,some (.one (.c (.mq id))),some (.one (.c (.int k))),some (.one (.c a))=>match l4 H id with
  | .p7 l=>match b.wr id with
   | true=>some ⟨.un,fr,H.set id (.p7 ((k,a) :: l)),[],[]⟩
   | false=>none
  | _=>none
 | _,_,_,_=>none
def Jj (T:List (Nat × TI)) (a:Lv) (fr:j9) (H:AH) (t:TypeId) (x y z:Operand):Option SR:=match TC T a fr H t x y z with
 | some r=>some r
 | none=>Uc T a fr H t x y z
def SC (O:ck) (a:Lv) (fr:j9) (H:AH) (c:Call) (l:List n8):Option SR:=match jA a (gr l) fr H with
 | some q=>match iX q.1 c with
  | some (f,b)=>match HP O q.2 f b with
   | some r=>some ⟨r.v,q.1,q.2,r.ob,r.fc⟩
   | none=>none
  | none=>none
 | none=>none
variable (T:List (Nat × TI)) (O:ck) (ro:Lv)
def svB (fr:j9) (H:AH):Op->Option SR
  | .box t x=>match dI fr x with
    | some (.one v)=>some ⟨one (.ptr H.length 0),fr,H++[Rh T t v.cells],[],[]⟩
    | _=>none
  | .alloc t=>match bj T t with
    | some g=>some ⟨one (.ptr H.length 0),fr,H++[Rh T t g.zero],[],[]⟩
    | none=>none
  | .store t x v=>match dI fr x,dI fr v,bj T t with
    | some (.one (.c a)),some (.one b),some g=>match Nat.beq g.size b.cells.length with
      | true=>Fe ro fr H a b
      | false=>none
    | _,_,_=>none
  | .buildSlice t n d=>match bj T t,zq fr d.toList with
    | some ⟨.sl e (some s),_,_⟩,some l=>match uf s H l 0,jA ro (FK l) fr H with
      | some h,some q=>match Nat.beq h.length n && ble (n*s.size) 16777216 && ble (n*s.bytes) 140737488355328 with
        | true=>match n with
          | 0=>some ⟨one (.em false),fr,H,[],[]⟩
          | _=>some ⟨one (.own q.2.length),q.1,q.2++[.row e s h],[],[]⟩
        | false=>none
      | _,_=>none
    | _,_=>none
  | .makeMap t none=>match bj T t with
    | some ⟨.mp _ _ (some s),_,_⟩=>some ⟨one (.mq H.length),fr,H++[.q7 s fun _=>none],[],[]⟩
    | some ⟨.mp _ _ none,_,_⟩=>some ⟨one (.mq H.length),fr,H++[.p7 []],[],[]⟩
    | _=>none
  | .insert t x y z=>Jj T ro fr H t x y z
  | .mapUpdate t x y z=>Jj T ro fr H t x y z
  | .makeSlice t n m=>match bj T t,dI fr n,dI fr m with
    | some ⟨.sl e (some s),_,_⟩,some (.one (.c (.int k))),some (.one (.c (.int o)))=>match Nat.beq s.size 1 with
     | true=>some ⟨one (.own H.length),fr,H++[.row e s (List.replicate k.toNat (c5 s))],[0<=k,k*s.bytes<=140737488355328,o = k],[]⟩
     | false=>none
    | _,_,_=>none
  | .slice t x lo p u=>match dI fr x with
    | some (.one (.c (.own i)))=>match jA ro [i] fr H with
      | some q=>match pv T O q.2 q.1 (.slice t x lo p u) with
        | some r=>some ⟨r.v,q.1,q.2,r.ob,r.fc⟩
        | none=>none
      | none=>none
    | _=>none
  | .call c=>match c.callee with
    | .builtin .append=>match c.args.toList,c.argTypes.toList with
      | [x,y],[t,j]=>match Nat.beq t j,dI fr x,dI fr y with
        | true,some (.one (.c a)),some (.one (.c b))=>kL T ro fr H t a b
        | false,some (.one (.c a)),some (.one (.c b))=>Aa T ro fr H t j a b
        | _,_,_=>none
      | _,_=>none
    | .value _=>match iX fr c with
      | some (f,l)=>match Rv O ro fr H f l with
        | some r=>some r
        | none=>SC O ro fr H c l
      | none=>none
    | _=>none
  | _=>none
def ajS (O:ck):Bool:=(O 1000000003 [] []).isSome
def adw (ro:Lv) (fr:j9) (H:AH) (x:AV) (h:Int):Option SR:=
 match x with
 | .own id=>match l4 H id with
  | .row e s a=>match ro.mv id && ro.wr id with
   | true=>some ⟨one (.own id),jK (AV.kill id) fr,(iJ (AV.kill id) H).set id (.row e s (a.take h.toNat)),[0<=h,h<=a.length],[]⟩
   | false=>none
  | _=>none
 | _=>none
def NF (T:List (Nat × TI)) (ro:Lv) (H:AH) (t c:TypeId) (x y:AV):Option SR:=
 match x,bj T t,bj T c with
 | .own id,some ⟨.sl _ (some s),_,_⟩,some ⟨.sl _ _,_,_⟩=>match l4 H id,(y.vw H).gv s,fy [y] with
  | .row e d a,some b,l=>if h:d = s then (match ro.wr id && !cM id l with
   | true=>some ⟨one (.int (min b.length a.length:Nat)),[],H.set id (.row e s (b.take a.length++(h ▸ a:List (l5 s)).drop b.length)),[],[]⟩
   | false=>none) else none
  | _,_,_=>none
 | _,_,_=>none
def svX (fr:j9) (H:AH):Op->Option SR
 | .call c=>match c.callee with
  | .builtin .copy=>match c.args.toList,c.argTypes.toList with
   | [x,y],[t,d]=>match dI fr x,dI fr y with
    | some (.one (.c a)),some (.one (.c b))=>match NF T ro H t d a b with
     | some r=>some ⟨r.v,fr,r.H,r.ob,r.fc⟩
     | none=>none
    | _,_=>none
   | _,_=>none
  | _=>none
 | _=>none
def svC (fr:j9) (H:AH):Op->Option SR
  | .slice t x none (some h) none=>match ajS O,dI fr x,dI fr h,bj T t with
    | true,some (.one (.c a)),some (.one (.c (.int h))),some ⟨.sl _ (some _),_,_⟩=>adw ro fr H a h
    | _,_,_,_=>none
  | .makeSlice t (.const (.int .i64 0)) (.tmp m)=>match bj T t,dI fr (.tmp m) with
    | some ⟨.sl e (some s),_,_⟩,some (.one (.c (.int k)))=>match Nat.beq s.size 1 with
     | true=>some ⟨one (.own H.length),fr,H++[.row e s []],[0<=k,k*s.bytes<=140737488355328],[]⟩
     | false=>none
    | _,_=>none
  | _=>none
def sv (fr:j9) (H:AH) (a:Op):Option SR:=match svC T O ro fr H a with
 | some r=>some r
 | none=>match svB T O ro fr H a with
  | some r=>some r
  | none=>svX T ro fr H a
def kj:List Prop->Prop
 | []=>True
 | [p]=>p
 | p :: q :: l=>p/\kj (q :: l)
def same (b:Bool):List Prop:=bif b then [] else [False]
def wh:List Prop->Prop->Prop
 | [],R=>R
 | p :: l,R=>p/\wh l R
def lS:List Prop->Prop->Prop
 | [],R=>R
 | p :: l,R=>p->lS l R
def rV (d:Option Nat) (v:TV) (fr:j9):j9:=match d with
 | some d=>(d,v) :: fr
 | none=>fr
def qy (t:Nat):Oper->Bool
 | ⟨_,.pick (.tmp u) _ _,_,_,_,_⟩=>Nat.beq t u
 | _=>false
def vn (t:Nat):List Oper->Option (List Oper × Oper × List Oper)
 | []=>none
 | o :: r=>bif qy t o then some ([],o,r) else match vn t r with
  | some (a,b,c)=>some (o :: a,b,c)
  | none=>none
def rX:Option TV->Option BE
 | some (.one (.c (.bool e)))=>some e
 | _=>none
def Jq (e:BE) (w:Bool) (on a:Option TV):Option BE:=
 match w,rX on,rX a with
 | true,some x,some (.lit false)=>some (.and e x)
 | false,some x,some (.lit true)=>some (.or e x)
 | _,_,_=>none
structure GR where
 fr:j9
 ob:List Prop
 fc:List Prop
def jw (fr:j9):Option Nat->Bool
 | none=>true
 | some d=>match l1 fr d with
  | none=>true
  | some _=>false
def EF (l:List Oper) (fr:j9) (j:Nat) (w:Bool):List Nat->List Oper->Bool
 | _,[]=>true
 | us,o :: r=>jw fr o.dst && (match o.guard with
  | some (a,b)=>(Nat.beq a j && (b == w)) || (match p5 l a with
   | some t=>cM t us
   | none=>false)
  | none=>false) && EF l fr j w (match o.dst with
   | some d=>d :: us
   | none=>us) r
def Vi (a b:Option (Nat × Bool)):Bool:=match a,b with
 | none,none=>true
 | some (i,x),some (j,y)=>Nat.beq i j && (x == y)
 | _,_=>false
def qE (e:BE) (w:Bool):List Prop->List Prop
 | []=>[]
 | ob=>[e.p w->kj ob]
structure S4 where
 d:Nat
 v:BE
 ob:List Prop
 fc:List Prop
 tail:List Oper
def XZ (l:List Oper) (fr:j9) (g:Option (Nat × Bool)) (f:Option (Nat × Bool)->List Oper->j9->Option GR) (j:Nat) (w:Bool) (h:List Oper):Option S4:=
 match p5 l j with
 | some t=>match rX (l1 fr t),vn t h with
  | some e,some (a,c,b)=>match EF l fr j w [] a && Vi c.guard g && jw fr c.dst,f (some (j,w)) a fr with
   | true,some q=>match c.op,c.dst with
    | .pick _ x y,some d=>match Jq e w (dI q.fr (cond w x y)) (dI fr (cond w y x)) with
     | some v=>some ⟨d,v,qE e w q.ob,qE e w q.fc,b⟩
     | none=>none
    | _,_=>none
   | _,_=>none
  | _,_=>none
 | none=>none
def Ll (l:List Oper) (H:AH):Nat->Option (Nat × Bool)->List Oper->j9->Option GR
 | 0,_,_,_=>none
 | _+1,_,[],fr=>some ⟨fr,[],[]⟩
 | n+1,g,o :: a,fr=>
  match Vi o.guard g with
  | true=>match jw fr o.dst,pv T O H fr o.op with
   | true,some r=>match Ll l H n g a (rV o.dst r.v fr) with
    | some q=>some ⟨q.fr,r.ob++q.ob,r.fc++q.fc⟩
    | none=>none
   | _,_=>none
  | false=>match o.guard with
   | some (j,w)=>match XZ l fr g (Ll l H n) j w (o :: a) with
    | some r=>match Ll l H n g r.tail ((r.d,one (.bool r.v)) :: fr) with
     | some q=>some ⟨q.fr,r.ob++q.ob,r.fc++q.fc⟩
     | none=>none
    | none=>none
   | none=>none
def D8:Op->Bool
 | .store _ _ _=>true
 | .insert _ _ _ _=>true
 | .mapUpdate _ _ _ _=>true
 | _=>false
def YF (o:Oper):Bool:=match D8 o.op,o.dst with
 | true,some _=>false
 | _,_=>true
structure IxR where
 s:Sh
 xs:List (l5 s)
 i:Int
def atA (fr:j9):Op->Option IxR
 | .indexAddr t x y=>match dI fr x,dI fr y,N1 T t with
  | some (.one (.c (.fz s a))),some (.one (.c b)),some d=>match decide (d = s),b.ix with
   | true,some i=>some ⟨s,a,i⟩
   | _,_=>none
  | _,_,_=>none
 | _=>none
structure Y7 where
 s:Sh
 xs:List (l5 s)
 ne:Bool
def afl (H:AH) (fr:j9):Op->Option Y7
 | .binOp d t x y _=>match d,bj T t,dI fr x,dI fr y with
  | .eql,some ⟨.sl _ _,_,_⟩,some (.one (.c a)),some (.one (.c (.em true)))=>match a.vw H with
   | .fz s b=>some ⟨s,b,false⟩
   | _=>none
  | .neq,some ⟨.sl _ _,_,_⟩,some (.one (.c a)),some (.one (.c (.em true)))=>match a.vw H with
   | .fz s b=>some ⟨s,b,true⟩
   | _=>none
  | _,_,_,_=>none
 | _=>none
def Z3:Bool->Bool->BE
 | true,b=>.not (.atom b)
 | false,b=>.atom b
structure Y5 where
 k:Int
 ok:Bool
 l:List (Int × AV)
def mapA (H:AH) (fr:j9):Op->Option Y5
 | .lookup t x y ok=>match bj T t,dI fr x,dI fr y with
  | some ⟨.mp _ _ none,_,_⟩,some (.one (.c (.mq id))),some (.one (.c (.int k)))=>match l4 H id with
   | .p7 l=>some ⟨k,ok,l⟩
   | _=>none
  | _,_,_=>none
 | _=>none
def KH:Bool->AV->Bool->TV
 | true,a,b=>.C4 [.c a,.c (.bool (.lit b))]
 | false,a,_=>one a
def yn (k:Int) (ok:Bool) (K:TV->Prop):List (Int × AV)->Prop
 | []=>K (KH ok .nf false)
 | (j,a) :: r=>(k=j->K (KH ok a true))/\(¬ k=j->yn k ok K r)
structure SpR where
 e:BE
 on:List Oper
 d:Nat
 off:Operand
 tail:List Oper
def akw (l:List Oper) (fr:j9) (j:Nat) (w:Bool) (f:List Oper):Option SpR:=
 match p5 l j with
 | some t=>match rX (l1 fr t),vn t f with
  | some e,some (c,b,a)=>match EF l fr j w [] c && Vi b.guard none && jw fr b.dst,b.op,b.dst with
   | true,.pick _ x y,some d=>some ⟨e,c.map (Pf j w)++⟨some d,.move (cond w x y),b.type,b.pos,b.after,none⟩ :: a,d,cond w y x,a⟩
   | _,_,_=>none
  | _,_=>none
 | none=>none
def wpOps (l:List Oper) (K:j9->AH->Prop):Nat->List Oper->j9->AH->Prop
  | 0,_,_,_=>False
  | _+1,[],fr,H=>K fr H
  | n+1,o :: a,fr,H=>
    match o.guard with
    | none=>match atA T fr o.op with
     | some ⟨s,c,i⟩=>0<=i/\i<(c.length:Int)/\∀ x,c[i.toNat]? = some x->lS (Ng (cellsOf s x)) (wpOps l K n a (rV o.dst (one (.fe s x 0)) fr) H)
     | none=>match afl T H fr o.op with
     | some ⟨_,c,f⟩=>∀ b:Bool,(b=true->c=[])->wpOps l K n a (rV o.dst (one (.bool (Z3 f b))) fr) H
     | none=>match mapA T H fr o.op with
     | some m=>yn m.k m.ok (fun v=>wpOps l K n a (rV o.dst v fr) H) m.l
     | none=>match pv T O H fr o.op with
      | some r=>wh r.ob (lS r.fc (wpOps l K n a (rV o.dst r.v fr) H))
      | none=>match YF o,sv T O ro fr H o.op with
        | true,some r=>wh r.ob (lS r.fc (wpOps l K n a (rV o.dst r.v r.fr) r.H))
        | _,_=>False
    | some (j,w)=>match XZ l fr none (Ll T O l H n) j w (o :: a) with
      | some r=>wh r.ob (lS r.fc (wpOps l K n r.tail ((r.d,one (.bool r.v)) :: fr) H))
      | none=>match akw l fr j w (o :: a) with
        | some r=>(r.e.p w->wpOps l K n r.on fr H)/\(r.e.p (!w)->match dI fr r.off with
          | some v=>wpOps l K n r.tail ((r.d,v) :: fr) H
          | none=>False)
        | none=>False
structure LI where
 σ:Type
 F:σ->j9 × AH
 J:σ->Prop
 μ:σ->Nat
 R:Option (σ->σ->Prop):=none
 un:Option (Nat × List Nat):=none
def LI.rel (I:LI) (a b:I.σ):Prop:=match I.R with
 | none=>True
 | some r=>r a b
def LI.aH (I:LI) (a b:I.σ) (p:Prop):Prop:=match I.R with
 | none=>p
 | some r=>r a b/\p
def LI.imp (I:LI) (a b:I.σ) (p:Prop):Prop:=match I.R with
 | none=>p
 | some r=>r a b->p
variable {I:LI}
def LI.GA {a b:I.σ} {p:Prop}:I.aH a b p↔I.rel a b/\p:=by
 unfold LI.aH LI.rel; cases I.R <;> simp
def LI.XN {a b:I.σ} {p:Prop}:I.imp a b p↔(I.rel a b->p):=by
 unfold LI.imp LI.rel; cases I.R <;> simp
def aa8:List (Nat × LI)->Option Nat->Option LI
 | [],_=>none
 | _,none=>none
 | (j,v) :: r,some i=>bif Nat.beq j i then some v else aa8 r (some i)
def lI:Code->Option Nat
 | .region i _ _=>some i
 | .seq a b=>match lI a with
  | some i=>some i
  | none=>lI b
 | .cond _ a b=>match lI a with
  | some i=>some i
  | none=>lI b
 | .block _ a=>lI a
 | .loop a=>lI a
 | .scope a=>lI a
 | _=>none
def y6:Nat->Nat->List Nat
 | _,0=>[]
 | k,n+1=>k :: y6 (k+1) n
def Nh:List Nat->Nat->Nat->Bool
 | [],_,_=>false
 | k :: _,0,i=>Nat.beq k i
 | _ :: r,j+1,i=>Nh r j i
def KT (n:Nat):List Nat->Nat->Bool
 | [],_=>false
 | k :: _,0=>ble n k
 | _ :: r,j+1=>KT n r j
def rK (σ:List Nat):List (Nat × Nat)->List (Nat × Nat)->Bool
 | [],[]=>true
 | (i,o) :: r,(j,a) :: l=>Nh σ j i && Nat.beq o a && rK σ r l
 | _,_=>false
def ahw (H:AH) (σ:List Nat) (j:Nat):Bool:=match σ[j]? with
 | some i=>match l4 H i with
  | .box _ _=>true
  | _=>false
 | none=>false
def eqX (σ:List Nat):XK->XK->List (Nat × Nat)->List (Nat × Nat)->List Prop
 | .er a,.er b,[],[]=>[a=b]
 | .bp,.bp,b,c=>same (rK σ b c)
 | .ff s d,.ff f e,[],[]=>if h:s=f then [(h ▸ d:List (l5 f))=e] else [False]
 | .mx a d,.mx b e,[],[]=>[a=b,d=e]
 | .w a,.w b,[],[]=>[a=b]
 | .pl,.pl,b,c=>same (rK σ b c)
 | .pa,.pa,b,c=>same (rK σ b c)
 | _,_,_,_=>[False]
def aiL (H:AH) (σ:List Nat):XK->List (Nat × Nat)->List Prop
 | .bp,[q]=>same (ahw H σ q.1)
 | _,_=>[False]
def ahx (σ:List Nat) (i o:Nat):XK->List (Nat × Nat)->List Prop
 | .bp,[q]=>same (Nh σ q.1 i && Nat.beq o q.2)
 | _,_=>[False]
def V7 (H:AH) (n:Nat) (σ:List Nat):AV->AV->List Prop
 | .int a,.int b=>[a=b]
 | .u8 a,.u8 b=>[a=b]
 | .u64 a,.u64 b=>[a=b]
 | .bool a,.bool b=>[a.val=b.val]
 | .str a,.str b=>[a=b]
 | .li a e,.li b d=>[a=b,e=d]
 | .fz s e,.fz p d=>if h:s=p then [(h ▸ e:List (l5 p))=d] else [False]
 | .em _,.fz _ d=>[d=[]]
 | .em a,.em b=>same (a == b)
 | .em _,.own j=>same (KT n σ j)
 | .own i,.own j=>same (Nh σ j i)
 | .own i,.fz s d=>match l4 H i with
  | .row _ p e=>if h:p = s then same (!cM i σ)++[(h ▸ e:List (l5 s))=d] else [False]
  | _=>[False]
 | .sub i o l,.sub j m t=>same (Nh σ j i)++[o=m,l=t]
 | .ptr i o,.ptr j m=>same (Nh σ j i && Nat.beq o m)
 | .np,.np=>[]
 | .x8 i k o,.x8 j q m=>same (Nh σ j i && Nat.beq o m)++[k=q]
 | .nf,.nf=>[]
 | .yl a,.yl b=>same (Nat.beq a b)
 | .mq i,.mq j=>same (Nh σ j i)
 | .fn f b c,.fn g r u=>same (Nat.beq f g && rK σ b r && rK σ c u)
 | .xx k b,.xx q r=>eqX σ k q b r
 | .np,.xx k b=>aiL H σ k b
 | .ptr i o,.xx k b=>ahx σ i o k b
 | _,.dead=>[]
 | _,_=>[False]
def SW (H:AH) (n:Nat) (σ:List Nat):List AV->List AV->List Prop
 | [],[]=>[]
 | a :: r,b :: l=>V7 H n σ a b++SW H n σ r l
 | _,_=>[False]
def Zv (H:AH) (n:Nat) (σ:List Nat):n8->n8->List Prop
 | .c a,.c b=>V7 H n σ a b
 | .agg a,.agg b=>SW H n σ a b
 | _,_=>[False]
def AN (H:AH) (n:Nat) (σ:List Nat):List n8->List n8->List Prop
 | [],[]=>[]
 | a :: r,b :: l=>Zv H n σ a b++AN H n σ r l
 | _,_=>[False]
def V9 (H:AH) (n:Nat) (σ:List Nat):TV->TV->List Prop
 | .one a,.one b=>Zv H n σ a b
 | .C4 a,.C4 b=>AN H n σ a b
 | _,.un=>[]
 | _,_=>[False]
def ZR (H:AH) (n:Nat) (σ:List Nat) (fr:j9):j9->List Prop
 | []=>[]
 | (i,v) :: r=>match l1 fr i with
  | some u=>V9 H n σ u v++ZR H n σ fr r
  | none=>[False]
def zG (T:List (Nat × TI)) (t:TypeId) (s:Sh):List (Nat × TI)->Bool
 | []=>false
 | (i,_) :: r=>(match bj T i with
  | some ⟨.sl e (some a),_,_⟩=>Nat.beq e t && decide (a = s)
  | _=>false) || zG T t s r
def eqO (H:AH) (n:Nat) (σ:List Nat):AO->AO->List Prop
 | .box t g,.box b c=>same (Nat.beq t b)++SW H n σ g c
 | .row t s d,.row b a e=>same (Nat.beq t b)++(if h:s=a then [(h ▸ d:List (l5 a))=e] else [False])
 | .gone,.gone=>[]
 | .q7 s f,.q7 a i=>if h:s=a then [(h ▸ f:Int->Option (l5 a))=i] else [False]
 | .y9 t s m d,.y9 b a j e=>same (Nat.beq t b && Nat.beq m j)++(if h:s=a then [(h ▸ d:List (l5 a))=e] else [False])
 | _,_=>[False]
def eqN (T:List (Nat × TI)):AO->List Prop
 | .row t s a=>same (zG T t s T)++[a=[]]
 | _=>[False]
def P2 (T:List (Nat × TI)) (H:AH) (n:Nat) (σ:List Nat):List Nat->AH->List Prop
 | [],[]=>[]
 | k :: r,b :: l=>(bif blt k n then eqO H n σ (l4 H k) b else eqN T b)++P2 T H n σ r l
 | _,_=>[False]
def Ia:List (Nat × Nat)->List (Nat × Nat)->List (Nat × Nat)
 | (i,_) :: r,(j,_) :: l=>(j,i) :: Ia r l
 | _,_=>[]
def abT:AV->AV->List (Nat × Nat)
 | .own i,.own j=>[(j,i)]
 | .sub i _ _,.sub j _ _=>[(j,i)]
 | .x8 i _ _,.x8 j _ _=>[(j,i)]
 | .ptr i _,.ptr j _=>[(j,i)]
 | .fn _ b c,.fn _ a d=>Ia b a ++ Ia c d
 | .xx _ b,.xx _ a=>Ia b a
 | _,_=>[]
def PV:List AV->List AV->List (Nat × Nat)
 | a :: r,b :: l=>abT a b++PV r l
 | _,_=>[]
def Hi:List n8->List n8->List (Nat × Nat)
 | .c a :: r,.c b :: l=>abT a b++Hi r l
 | .agg a :: r,.agg b :: l=>PV a b++Hi r l
 | _,_=>[]
def aiA:AO->AO->List (Nat × Nat)
 | .box _ b,.box _ a=>PV b a
 | _,_=>[]
def Hc (n:Nat):List (Nat × Nat)->Nat->Nat
 | [],_=>n
 | (j,i) :: r,k=>bif Nat.beq j k then i else Hc n r k
def Uv (H:AH):List Nat->AH->List (Nat × Nat)
 | k :: r,o :: l=>aiA (l4 H k) o++Uv H r l
 | _,_=>[]
def nT (n:Nat):List Nat->Bool
 | []=>true
 | k :: r=>(ble n k || !cM k r) && nT n r
def agQ (fr:j9):j9->List (Nat × Nat)
 | []=>[]
 | (i,v) :: r=>(match l1 fr i,v with
  | some (.one u),.one v=>Hi [u] [v]
  | _,_=>[])++agQ fr r
def adZ (a:List (Nat × Nat)):Nat->Nat->List Nat
 | _,0=>[]
 | k,m+1=>Hc k a k :: adZ a (k+1) m
def VB (a:Nat) (fr:j9) (H:AH) (q:j9 × AH):Nat->List (Nat × Nat)->List Nat
 | 0,b=>y6 0 a++adZ b a (q.2.length - a)
 | f+1,b=>VB a fr H q f (agQ fr q.1++Uv H (y6 0 a++adZ b a (q.2.length - a)) q.2)
def Gp (T:List (Nat × TI)) (a:Nat) (fr:j9) (H:AH) (q:j9 × AH):List Prop:=
 match VB a fr H q 3 [] with
 | σ=>same (ble a q.2.length && nT H.length σ)++ZR H H.length σ fr q.1++P2 T H H.length σ σ q.2
def Operand.sl:Operand->List Nat
 | .tmp t=>[t]
 | _=>[]
def X7:List Operand->List Nat
 | []=>[]
 | x :: r=>Operand.sl x++X7 r
def slP:List (Nat × Operand)->List Nat
 | []=>[]
 | (_,x) :: r=>Operand.sl x++slP r
def slO:Option Operand->List Nat
 | some x=>Operand.sl x
 | none=>[]
def EN:Op->List Nat
 | .move x=>Operand.sl x
 | .assign x=>Operand.sl x
 | .pick z x y=>Operand.sl z++Operand.sl x++Operand.sl y
 | .unOp _ _ x=>Operand.sl x
 | .binOp _ _ x y _=>Operand.sl x++Operand.sl y
 | .extract x _=>Operand.sl x
 | .nilCheck x=>Operand.sl x
 | .convert _ _ x=>Operand.sl x
 | .makeFunc _ b c=>X7 b.toList++X7 c.toList
 | .fieldAddr _ x _=>Operand.sl x
 | .field _ x _=>Operand.sl x
 | .load _ x=>Operand.sl x
 | .indexAddr _ x y=>Operand.sl x++Operand.sl y
 | .index _ x y=>Operand.sl x++Operand.sl y
 | .build _ l=>slP l.toList
 | .slice _ x l h _=>Operand.sl x++slO l++slO h
 | .lookup _ x y _=>Operand.sl x++Operand.sl y
 | .call c=>(match c.callee with
  | .value f=>Operand.sl f
  | _=>[])++X7 c.args.toList
 | _=>[]
structure DV where
 d:Nat
 v:TV
 ch:List (Nat × Bool)
 deps:List Nat
 ob:List Prop
 fc:List Prop
def zP:List DV->Nat->Option DV
 | [],_=>none
 | a :: _,0=>some a
 | _ :: r,i+1=>zP r i
def eU (b:List Nat):Nat->List DV->List Nat
 | _,[]=>[]
 | k,a :: r=>bif cM a.d b then k :: eU b (k+1) r else eU b (k+1) r
def Of (b:List DV) (fr:j9):List Nat->j9
 | []=>fr
 | j :: r=>match zP b j with
  | some a=>(a.d,a.v) :: Of b fr r
  | none=>Of b fr r
def rv:List (Nat × Bool)->List (Nat × Bool)->Bool
 | [],_=>true
 | (i,a) :: r,(j,b) :: l=>Nat.beq i j && (a == b) && rv r l
 | _,_=>false
def zt (b:List DV) (c:List (Nat × Bool)):List Nat->Bool
 | []=>true
 | j :: r=>(match zP b j with
  | some a=>rv a.ch c
  | none=>false) && zt b c r
def Vw (b:List DV):List (Nat × Bool)->Option BE
 | []=>some (.lit true)
 | (j,w) :: r=>match zP b j,Vw b r with
  | some a,some g=>match rX (some a.v) with
   | some e=>some (.and (match w with
    | true=>e
    | false=>.not e) g)
   | none=>none
  | _,_=>none
def nc (e:BE):List Prop->List Prop
 | []=>[]
 | ob=>match e with
  | .lit true=>ob
  | e=>[e.p true->kj ob]
def Dz:BE->BE
 | .and a (.lit true)=>a
 | .and a g=>.and a (Dz g)
 | g=>g
def FN (b:List DV):Option (Nat × Bool)->Option (List (Nat × Bool) × List Nat)
 | none=>some ([],[])
 | some (j,w)=>match zP b j with
  | some a=>some (a.ch++[(j,w)],[a.d])
  | none=>none
def ln:Operand->Bool
 | .tmp _=>true
 | _=>false
def QA (b:List DV) (d:List (Nat × Bool)) (t:Nat) (x y:Operand):Option BE:=
 match eU [t] 0 b with
 | [f]=>match zP b f with
  | some c=>match rX (some c.v),rv c.ch d with
   | some e,true=>match eU (Operand.sl (cond (ln x) x y)) 0 b with
    | [g]=>match zP b g with
     | some a=>match rv a.ch (d++[(f,ln x)]) with
      | true=>Jq e (ln x) (some a.v) (dI [] (cond (ln x) y x))
      | false=>none
     | none=>none
    | _=>none
   | _,_=>none
  | none=>none
 | _=>none
def uv (H:AH) (fr:j9) (a:List DV) (o:Oper):Option DV:=
 match o.dst,FN a o.guard with
 | some d,some (b,c)=>match Vw a b with
  | some g=>match o.op with
   | .pick (.tmp t) x y=>match QA a b t x y with
    | some v=>some ⟨d,one (.bool v),b,eU (EN (.pick (.tmp t) x y)++c) 0 a,[],[]⟩
    | none=>none
   | op=>match zt a b (eU (EN op++c) 0 a),pv T O H (Of a fr (eU (EN op++c) 0 a)) op with
    | true,some r=>some ⟨d,r.v,b,eU (EN op++c) 0 a,nc (Dz g) r.ob,nc (Dz g) r.fc⟩
    | _,_=>none
  | none=>none
 | _,_=>none
def zd (H:AH) (fr:j9):List Oper->List DV->Option (List DV)
 | [],b=>some b
 | o :: r,b=>match uv T O H fr b o with
  | some a=>zd H fr r (b++[a])
  | none=>none
def Z7:List DV->List Prop
 | []=>[]
 | a :: r=>a.ob++Z7 r
def YA:List DV->List Prop
 | []=>[]
 | a :: r=>a.fc++YA r
def Ay:List DV->j9->j9
 | [],fr=>fr
 | a :: r,fr=>match a.ch with
  | []=>(a.d,a.v) :: Ay r fr
  | _=>Ay r fr
def UE (H:AH) (fr:j9):List Oper->List DV->Nat->Nat
 | [],_,k=>k
 | o :: r,b,k=>match uv T O H fr b o with
  | some a=>UE H fr r (b++[a]) (k+1)
  | none=>k
def TV.ids:TV->List Nat
 | .one t=>ym t.cells
 | .C4 l=>rR l
 | .un=>[]
def AV.v8:AV->List Nat
 | .own i=>[i]
 | .sub i _ _=>[i]
 | .x8 i _ _=>[i]
 | _=>[]
def vJ:List AV->List Nat
 | []=>[]
 | a :: r=>a.v8++vJ r
def Kk:List n8->List Nat
 | []=>[]
 | a :: r=>vJ a.cells++Kk r
def TV.v8:TV->List Nat
 | .one t=>vJ t.cells
 | .C4 l=>Kk l
 | .un=>[]
def AO.v8:AO->List Nat
 | .box _ a=>vJ a
 | .p7 l=>vJ (l.map (·.2))
 | _=>[]
def x5 (fr:j9):List Nat->List Nat
 | []=>[]
 | t :: r=>(match l1 fr t with
  | some v=>v.ids
  | none=>[])++x5 fr r
def pj (fr:j9):List Nat->List Nat
 | []=>[]
 | t :: r=>(match l1 fr t with
  | some v=>v.v8
  | none=>[])++pj fr r
def C3 (H:AH):List Nat->List Nat
 | []=>[]
 | p :: r=>(l4 H p).ids++C3 H r
def mS (H:AH):List Nat->List Nat
 | []=>[]
 | p :: r=>(l4 H p).v8++mS H r
def dQ (fr:j9):List Nat->j9
 | []=>[]
 | t :: r=>match l1 fr t with
  | some v=>(t,v) :: dQ fr r
  | none=>dQ fr r
def sy (σ:List Nat):Nat->AH->AH
 | _,[]=>[]
 | p,o :: r=>(bif cM p σ then o else .loc) :: sy σ (p+1) r
def tt (a:List Nat):List Nat->Bool
 | []=>true
 | i :: r=>!cM i a && tt a r
def oZ (n:Nat):List Nat->Bool
 | []=>true
 | i :: r=>blt i n && oZ n r
inductive B2
 | fn (k:Int) (a:AV)
 | da (s:Sh) (k:Int) (x:l5 s)
def B2.key:B2->Int
 | .fn k _=>k
 | .da _ k _=>k
def B2.put:B2->AO->AO
 | .fn k a,.p7 l=>.p7 ((k,a) :: l)
 | .da s k x,.q7 b f=>if h:b = s then .q7 s fun j=>if j=k then some x else (h ▸ f:Int->Option (l5 s)) j else .q7 b f
 | _,o=>o
def q6 (a:List Nat) (o:AO):AO:=match a with
 | []=>o
 | _ :: _=>o.mapA (AV.cX a)
def TR (a:List Nat) (fr:j9):j9:=match a with
 | []=>fr
 | _ :: _=>jK (AV.cX a) fr
structure RC where
 on:Bool
 dst:Option Nat
 v:TV
 U:List Nat:=[]
 σ:List Nat:=[]
 ch:List Nat:=[]
 mv:List Nat:=[]
 base:Nat
 u5:AH
 E6:Option B2:=none
 ob:List Prop:=[]
 fc:List Prop:=[]
 u6:j9
 H0:AH
def RC.new (r:RC):List Nat:=y6 r.base (r.u5.length - r.base)
def mj (b c:List Nat) (e:Option B2) (a:AH):Nat->AH->AH
 | _,[]=>[]
 | p,o :: r=>(bif cM p b then (match e with
  | some e=>e.put o
  | none=>l4 a p) else q6 c o) :: mj b c e a (p+1) r
def RC.p4 (r:RC) (q:j9 × AH):j9 × AH:=(rV r.dst r.v (TR r.mv q.1),mj r.ch r.mv r.E6 r.u5 0 q.2++r.u5.drop r.base)
def Le (a:List Nat):Nat->AH->List Nat
 | _,[]=>[]
 | p,o :: r=>bif tt a o.v8 then Le a (p+1) r else p :: Le a (p+1) r
def UW (a:List Nat):j9->List Nat
 | []=>[]
 | (t,v) :: r=>bif tt a v.v8 then UW a r else t :: UW a r
def abP (d:Option Nat) (l:List Nat):Bool:=match d with
 | some d=>cM d l
 | none=>false
def W8 (a b:RC):Bool:=!abP b.dst a.U && tt b.ch a.σ && tt b.ch a.new && tt b.new a.σ && tt b.new a.ch && (match b.mv with
 | []=>true
 | mv=>tt (Le mv 0 b.H0) a.σ && tt (UW mv b.u6) a.U && tt mv (pj a.u6 a.U) && tt mv (mS a.H0 a.σ) && tt mv a.v.v8 && tt mv (mS a.u5 a.ch) && tt mv (mS a.u5 a.new) && (match a.E6 with
  | some (.fn _ x)=>tt mv x.v8
  | _=>true))
def G0 (a b:RC):Bool:=match a.E6,b.E6 with
 | some e,some c=>tt a.ch b.ch || !decide (e.key=c.key)
 | _,_=>tt a.ch b.ch
def y5 (m j:Nat):Bool:=Nat.beq (Nat.land (Nat.shiftRight m j) 1) 1
def ja (a:List Nat):List Nat->Nat
 | []=>0
 | j :: r=>lor (lor (Nat.shiftLeft 1 j) (a.getD j 0)) (ja a r)
def jE (a:List Nat):List Oper->List Nat
 | []=>a
 | o :: r=>jE (a++[ja a (gk o)]) r
def GY (m:Nat) (b:RC):Nat->List RC->Bool
 | _,[]=>true
 | i,a :: r=>(y5 m i || (W8 a b && W8 b a && G0 a b)) && GY m b (i+1) r
def yx (b:RC):List RC->Bool
 | []=>true
 | a :: r=>(match a.dst,b.dst with
  | some i,some j=>!Nat.beq i j
  | _,_=>true) && yx b r
def Gh (a:List Nat):Nat->List RC->List RC->Bool
 | _,_,[]=>true
 | j,done,b :: r=>Nat.beq b.base b.H0.length && ble b.base b.u5.length && oZ b.base (x5 b.u6 b.U) && oZ b.base (C3 b.H0 b.σ) && oZ b.base b.σ && oZ b.base b.ch && yx b done && (match b.E6 with
   | some _=>(match b.mv,b.ch with
    | [],[_]=>true
    | _,_=>false) && Nat.beq b.u5.length b.base
   | none=>true) && GY (a.getD j 0) b 0 done && Gh a (j+1) (done++[b]) r
def sg:Nat->List Oper->Bool
 | _,[]=>true
 | i,o :: r=>oZ i (gk o) && sg (i+1) r
def okR (l:List Oper) (a:List RC):Bool:=sg 0 l && Nat.beq a.length l.length && Gh (jE [] l) 0 [] a
def Cr (m:Nat):Nat->List RC->List Prop
 | _,[]=>[]
 | i,a :: r=>(bif y5 m i then a.fc else [])++Cr m (i+1) r
def anH (a:List Prop):List Prop->List Prop
 | []=>[]
 | ob=>[lS a (kj ob)]
def W7 (a:List RC):List Nat->List RC->List Prop
 | m :: c,b :: r=>anH (Cr m 0 a) b.ob++W7 a c r
 | _,_=>[]
def T9:List RC->List Prop
 | []=>[]
 | a :: r=>a.fc++T9 r
def wx:j9->List Nat->j9
 | [],_=>[]
 | (t,v) :: r,l=>bif cM t l then wx r l else (t,v) :: wx r (t :: l)
def ko:Op->List Nat
 | .store _ x v=>Operand.sl x++Operand.sl v
 | .insert _ x y z=>Operand.sl x++Operand.sl y++Operand.sl z
 | .mapUpdate _ x y z=>Operand.sl x++Operand.sl y++Operand.sl z
 | .lookup _ x y _=>Operand.sl x++Operand.sl y
 | .box _ x=>Operand.sl x
 | .makeSlice _ x y=>Operand.sl x++Operand.sl y
 | .buildSlice _ _ l=>slP l.toList
 | op=>EN op
def aaN (fr:j9) (H:AH):Op->List Nat
 | .move _=>[]
 | .assign _=>[]
 | .extract _ _=>[]
 | .nilCheck _=>[]
 | .makeFunc _ _ _=>[]
 | .fieldAddr _ _ _=>[]
 | .build _ _=>[]
 | .unOp _ _ _=>[]
 | .binOp _ _ _ _ _=>[]
 | .box _ _=>[]
 | .alloc _=>[]
 | .call c=>match c.callee with
  | .value _=>match iX fr c with
   | some (_,l)=>tI H l
   | none=>[]
  | _=>x5 fr (ko (.call c))
 | op=>x5 fr (ko op)
def apV (fr:j9) (H:AH):Op->List (List Nat × List Nat)
 | .store _ x v=>match dI fr x,dI fr v with
  | some (.one (.c (.ptr id _))),_=>[([id],[])]
  | some (.one (.c (.x8 id _ _))),some (.one b)=>[(id :: fy b.cells,fy b.cells)]
  | _,_=>[]
 | .box _ _=>[([],[])]
 | .buildSlice _ _ l=>match zq fr l.toList with
  | some l=>[(FK l,FK l)]
  | none=>[]
 | .alloc _=>[([],[])]
 | .makeMap _ _=>[([],[])]
 | .makeSlice _ _ _=>[([],[])]
 | .slice _ x none (some _) none=>match dI fr x with
  | some (.one (.c (.own id)))=>[([id],[id])]
  | _=>[]
 | .call c=>match c.callee with
  | .builtin .copy=>match c.args.toList with
   | [x,_]=>match dI fr x with
    | some (.one (.c (.own id)))=>[([id],[])]
    | _=>[]
   | _=>[]
  | .builtin .append=>match c.args.toList with
   | [x,_]=>match dI fr x with
    | some (.one (.c (.own id)))=>[([id],[id])]
    | some (.one (.c (.sub id _ _)))=>[([id],[id])]
    | _=>[([],[])]
   | _=>[]
  | .value _=>match iX fr c with
   | some (_,l)=>[([],[]),(tI H (Lp H l),tI H (Lp H l)),(tI H l,tI H l)]
   | none=>[]
  | _=>[]
 | _=>[]
structure XR where
 v:TV
 ch:List Nat
 mv:List Nat
 u5:AH
 ob:List Prop
 fc:List Prop
def ZK (a:j9) (b:AH) (c:Op):List (List Nat × List Nat)->Option XR
 | []=>none
 | (d,e) :: r=>match sv T O ⟨fun i=>cM i d && ro.wr i,fun i=>cM i e && ro.mv i⟩ a b c with
  | some q=>some ⟨q.v,d,e,q.H,q.ob,q.fc⟩
  | none=>ZK a b c r
def Ls (c:j9) (d:AH):Op->Option PR
 | .buildSlice t n a=>match bj T t,zq c a.toList with
  | some ⟨.sl _ (some s),_,_⟩,some l=>match FK l,uf s d l 0 with
   | [],some b=>match Nat.beq b.length n && ble (n*s.size) 16777216 && ble (n*s.bytes) 140737488355328 && blt 0 n with
    | true=>some ⟨one (.fz s b),[],[]⟩
    | false=>none
   | _,_=>none
  | _,_=>none
 | _=>none
def aca (a:j9) (b:AH) (c:Op):Option PR:=match UM O with
 | true=>none
 | false=>Ls T a b c
def acJ {a:j9} {b:AH} {c:Op} {r:PR} (h:aca T O a b c=some r):Ls T a b c=some r:=by
 unfold aca at h; split at h
 ·cases h
 exact h
def aiU (fr:j9) (H:AH) (o:Oper):Option XR:=
 match dQ fr (ko o.op),sy (aaN fr H o.op) 0 H with
 | fm,a=>match aca T O fm a o.op with
  | some r=>some ⟨r.v,[],[],a,r.ob,r.fc⟩
  | none=>match pv T O a fm o.op with
   | some r=>some ⟨r.v,[],[],a,r.ob,r.fc⟩
   | none=>match YF o with
    | true=>ZK T O ro fm a o.op (apV fr H o.op)
    | false=>none
def afG (fr:j9) (H:AH):Op->Option (Nat × B2)
 | .insert t x y z=>match bj T t,dI fr x,dI fr y,dI fr z with
  | some ⟨.mp _ _ (some s),_,_⟩,some (.one (.c (.mq id))),some (.one (.c (.int k))),some (.one v)=>match l4 H id,fy v.cells,gP s v.cells with
   | .q7 b _,[],some d=>match decide (b = s) && ow s v && ro.wr id with
    | true=>some (id,.da s k d)
    | false=>none
   | _,_,_=>none
  | some ⟨.mp _ _ none,_,_⟩,some (.one (.c (.mq id))),some (.one (.c (.int k))),some (.one (.c a))=>match l4 H id,ro.wr id with
   | .p7 _,true=>some (id,.fn k a)
   | _,_=>none
  | _,_,_,_=>none
 | _=>none
def aei:List RC->Nat->Bool
 | [],_=>true
 | r :: _,0=>r.on
 | _ :: l,i+1=>aei l i
def vQ (l:List Oper) (fr:j9) (a:List RC):Option (Nat × Bool)->Option Bool
 | none=>some true
 | some (j,w)=>match p5 l j with
  | some t=>match aei a j,l1 fr t with
   | false,_=>some false
   | true,some (.one (.c (.bool (.lit b))))=>some (b == w)
   | _,_=>none
  | none=>none
def iR (l:List Oper):Option (Nat × Bool)->List Nat
 | none=>[]
 | some (j,_)=>match p5 l j with
  | some t=>[t]
  | none=>[]
def WZ (i:Nat) (d:Option Nat):List Oper->Bool
 | []=>false
 | o :: r=>(match o.guard with
  | some (j,_)=>Nat.beq j i
  | none=>false) || (match d with
  | some d=>qy d o
  | none=>false) || WZ i d r
def split (g:Bool) (v:TV) (K:TV->Prop):Prop:=match g,rX (some v) with
 | true,some (.lit b)=>K (one (.bool (.lit b)))
 | true,some e=>(e.p true->K (one (.bool (.lit true))))/\(e.p false->K (one (.bool (.lit false))))
 | _,_=>K v
def Vv (l:List Oper) (K:j9->AH->Prop):Nat->Nat->List Oper->j9->AH->List RC->Prop
 | 0,_,_,_,_,_=>False
 | _+1,_,[],fr,H,d=>match okR l d with
  | true=>wh (W7 d (jE [] l) d) (lS (T9 d) (K (wx fr []) H))
  | false=>False
 | n+1,i,o :: a,fr,H,d=>match vQ l fr d o.guard with
  | some false=>match RC.mk false o.dst .un (iR l o.guard) [] [] [] H.length (sy [] 0 H) none [] [] fr H with
   | rc=>Vv l K n (i+1) a (rc.p4 (fr,H)).1 (rc.p4 (fr,H)).2 (d++[rc])
  | some true=>match o.op with
   | .pick (.tmp t) x y=>match l1 fr t with
    | some (.one (.c (.bool (.lit b))))=>match dI fr (cond b x y) with
     | some v=>split (WZ i o.dst a) v fun v=>match RC.mk true o.dst v (t :: Operand.sl (cond b x y)++iR l o.guard) [] [] [] H.length (sy [] 0 H) none [] [] fr H with
      | rc=>Vv l K n (i+1) a (rc.p4 (fr,H)).1 (rc.p4 (fr,H)).2 (d++[rc])
     | none=>False
    | _=>False
   | op=>match afG T ro fr H op with
    | some (id,e)=>match RC.mk true none .un (ko op++iR l o.guard) [] [id] [] H.length (sy [] 0 H) (some e) [] [] fr H,o.dst with
     | rc,none=>Vv l K n (i+1) a (rc.p4 (fr,H)).1 (rc.p4 (fr,H)).2 (d++[rc])
     | _,_=>False
    | none=>match aaN fr H op with
     | σ=>match mapA T (sy σ 0 H) (dQ fr (ko op)) op with
      | some m=>yn m.k m.ok (fun v=>split (WZ i o.dst a) v fun v=>match RC.mk true o.dst v (ko op++iR l o.guard) σ [] [] H.length (sy σ 0 H) none [] [] fr H with
       | rc=>Vv l K n (i+1) a (rc.p4 (fr,H)).1 (rc.p4 (fr,H)).2 (d++[rc])) m.l
      | none=>match aiU T O ro fr H o with
       | some r=>split (WZ i o.dst a) r.v fun v=>match RC.mk true o.dst v (ko op++iR l o.guard) σ r.ch r.mv H.length r.u5 none r.ob r.fc fr H with
        | rc=>Vv l K n (i+1) a (rc.p4 (fr,H)).1 (rc.p4 (fr,H)).2 (d++[rc])
       | none=>False
  | none=>False
def afW (l:List Oper) (K:j9->AH->Prop) (fr:j9) (H:AH):Prop:=Vv T O ro l K (l.length+1) 0 l fr H []
def Z9 (step:(Exit->j9->AH->Prop)->j9->AH->Prop) (K:Exit->j9->AH->Prop) (l:List Nat):Nat->j9->AH->Prop
 | 0,_,_=>False
 | n+1,fr,H=>step (fun e fr H=>match e with
  | .normal=>Z9 step K l n fr H
  | e=>K e fr H) (dQ fr l) H
def jH (d:Nat) (L:List (Nat × LI)):Code->(Exit->j9->AH->Prop)->j9->AH->Prop
 | .skip,K,fr,H=>K .normal fr H
 | .seq x y,K,fr,H=>jH d L x (fun e fr H=>match e with
  | .normal=>jH d L y K fr H
  | e=>K e fr H) fr H
 | .cond c x y,K,fr,H=>match rX (dI fr c) with
  | some (.lit true)=>jH d L x K fr H
  | some (.lit false)=>jH d L y K fr H
  | some e=>(e.p true->jH d L x K fr H)/\(e.p false->jH d L y K fr H)
  | none=>False
 | .block i c,K,fr,H=>jH d L c (fun e fr H=>match e with
  | .exit j=>bif Nat.beq j i then K .normal fr H else K (.exit j) fr H
  | e=>K e fr H) fr H
 | .loop c,K,fr,H=>match aa8 L (lI c) with
  | some I=>match I.un with
   | some (n,l)=>Z9 (jH d L c) K l n fr H
   | none=>∃ f,kj (Gp T d fr H (I.F f))/\I.J f/\I.aH f f (∀ s,I.J s->I.imp f s (jH d L c (fun e fr H=>match e with
    | .normal=>∃ g,kj (Gp T d fr H (I.F g))/\I.J g /\ I.aH f g (I.μ g < I.μ s)
    | e=>K e fr H) (I.F s).1 (I.F s).2))
  | none=>False
 | .exit i,K,fr,H=>K (.exit i) fr H
 | .ret,K,fr,H=>K .ret fr H
 | .scope c,K,fr,H=>jH d L c (fun e fr H=>match e with
  | .goto _=>False
  | e=>K e fr H) fr H
 | .label _,K,fr,H=>K .normal fr H
 | .region _ b false,K,fr,H=>wpOps T O ro b.toList (K .normal) (2*b.size+1) b.toList fr H
 | .region _ b true,K,fr,H=>
  match UE T O H fr b.toList [] 0 with
  | k=>match zd T O H fr (b.toList.take k) [] with
   | some h=>match ny b.toList (h.map fun a=>⟨a.deps,[],fun _ _=>True⟩) (fr.map (·.1)) k with
    | true=>wh (Z7 h) (lS (YA h) (wpOps T O ro b.toList (K .normal) (2*b.size+1) (b.toList.drop k) (Ay h fr) H))
    | false=>afW T O ro b.toList (K .normal) fr H
   | none=>afW T O ro b.toList (K .normal) fr H
 | _,_,_,_=>False
def aaf (T:List (Nat × TI)) (H:AH) (t:TypeId) (p:AV):Option PR:=match sq T H t p with
 | some r=>some r
 | none=>Jn T H t p
def wz (T:List (Nat × TI)) (fr:j9) (H:AH):List ResultVar->Option (List n8)
 | []=>some []
 | .tmp t :: r=>match l1 fr t,wz T fr H r with
  | some (.one a),some l=>some (a :: l)
  | _,_=>none
 | .cell a t :: r=>match l1 fr a,wz T fr H r with
  | some (.one (.c p)),some l=>match aaf T H t p with
   | some ⟨.one v,[],_⟩=>some (v :: l)
   | _=>none
  | _,_=>none
def vj:Nat->List n8->j9
 | _,[]=>[]
 | k,v :: r=>(k,.one v) :: vj (k+1) r
def N4 (L:List (Nat × LI)) (b:Func) (args:List n8) (H:AH) (d:List n8):Prop:=
 match b.body with
 | some c=>lS (LH args) (jH T O (iu H.length) H.length L c (fun e fr a=>match e with
  | .ret=>match wz T fr a b.results.toList with
   | some l=>kj (AN a a.length (y6 0 H.length) l d)
   | none=>False
  | .normal=>match wz T fr a b.results.toList with
   | some l=>kj (AN a a.length (y6 0 H.length) l d)
   | none=>False
  | _=>False) (vj 0 args) H)
 | none=>False
end Go.Proofs.YticbaadnibdbkaaGreat
namespace Go.Proofs.YticbaadnibdbkaaGreat
open Go.RowKit
structure Cx where
 shp:TypeId->Option Sh
 B0:Nat
 S:Nat->Prop
 w:World
def Cx.at (c:Cx) (s:Sh) (b:Nat):Prop:=c.S b/\(b<c.B0\/∃ a t fr,c.w.heap[b]? = some (.cells a t fr)/\c.shp t=some s/\(s = .int->fr=(0,0)))
def J8 (c:Cx) (d:Bool) (a:Option Addr) (e:List Int):Prop:=
 e=[]\/∃ A,a=some A/\(d=true->c.S A.block/\c.B0<=A.block/\∃ b t fr,c.w.heap[A.block]? = some (.cells b t fr)/\c.shp t=some .int/\fr=(0,0))/\(d=false->(A.block<c.B0/\A.block<c.w.heap.size)\/c.at .int A.block)/\ie c.w A (e.map (.int .i64))
mutual
inductive Pd (c:Cx):AV->Value->Prop
 | int {n:Int}:a7 n->Pd c (.int n) (.int .i64 n)
 | u8 {b:UInt8}:Pd c (.u8 b) (.int .u8 (b.toNat:Int))
 | u64 {n:Nat}:n<18446744073709551616->Pd c (.u64 n) (.int .u64 (n:Int))
 | bool {e:BE}:Pd c (.bool e) (.bool e.val)
 | str {s:o3}:s.b.length<=140737488355328->Pd c (.str s) s.val
 | em {b:Bool} {a:Option Addr}:b=a.isNone->Pd c (.em b) (.slice a 0 0)
 | fz {s:Sh} {xs:List (l5 s)} {a:Option Addr} {k:Nat} {cells:List Value}:xs.length<=k->k<=maxLen->xs.length*s.bytes<=140737488355328->p0 c (xs.flatMap (cellsOf s)) cells ->
   (xs=[]\/∃ A,a=some A/\c.at s A.block/\ie c.w A cells)->Pd c (.fz s xs) (.slice a xs.length k)
 | li {nw:Bool} {xs:List Int} {a:Option Addr} {k:Nat}:xs.length<=k->k<=maxLen->xs.length*8<=140737488355328->(∀ n ∈ xs,a7 n)->J8 c nw a xs->Pd c (.li nw xs) (.slice a xs.length k)
inductive p0 (c:Cx):List AV->List Value->Prop
 | nil:p0 c [] []
 | cons {a:AV} {v:Value} {r:List AV} {vs:List Value}:Pd c a v->p0 c r vs->p0 c (a :: r) (v :: vs)
end
def p0.all {c:Cx}:∀ {a:List AV} {b:List Value},p0 c a b->hQ (Pd c) a b
 | [],_,h=>by cases h; exact .nil
 | _ :: _,_,h=>by cases h with | cons d e=>exact .cons d e.all
def p0.of {c:Cx}:∀ {a:List AV} {b:List Value},hQ (Pd c) a b->p0 c a b
 | [],_,h=>by cases h; exact .nil
 | _ :: _,_,h=>by cases h with | cons d e=>exact .cons d (p0.of e)
structure Cx.le (c c':Cx):Prop where
 shp:c'.shp=c.shp
 B0:c'.B0=c.B0
 S:∀ b,c.S b->c'.S b/\c'.w.heap[b]? = c.w.heap[b]?
 lo:∀ b,b<c.B0->b<c.w.heap.size->c'.w.heap[b]? = c.w.heap[b]?
def Cx.low (c:Cx):Cx:=⟨c.shp,c.B0,fun b=>b<c.B0/\b<c.w.heap.size,c.w⟩
variable {b:Nat}
theorem nJ {w a:World} (h:a.heap[b]? = w.heap[b]?) (c:b<w.heap.size):b<a.heap.size:=by grind
def Cx.le.low {c d:Cx} (h:c.le d):c.low.le d.low:=⟨h.shp,h.B0,fun b a=>⟨⟨by rw [h.B0]; exact a.1,nJ (h.lo b a.1 a.2) a.2⟩,h.lo b a.1 a.2⟩,h.lo⟩
def Cx.le.refl (c:Cx):c.le c:=⟨rfl,rfl,fun _ h=>⟨h,rfl⟩,fun _ _ _=>rfl⟩
def Cx.le.trans {a b c:Cx} (h:a.le b) (k:b.le c):a.le c:=
 ⟨k.shp.trans h.shp,k.B0.trans h.B0,fun x d=>⟨(k.S x (h.S x d).1).1,((k.S x (h.S x d).1).2).trans (h.S x d).2⟩,fun x d e=>(k.lo x (by rw [h.B0]; exact d) (nJ (h.lo x d e) e)).trans (h.lo x d e)⟩
variable {c':Cx}
theorem Cx.le.at_ {c:Cx} (h:c.le c') {s:Sh} (k:c.at s b):c'.at s b:=by
 refine ⟨(h.S b k.1).1,?_⟩;rcases k.2 with a | ⟨d,t,fr,a,e,f⟩
 ·left; rw [h.B0]; exact a
 right; exact ⟨d,t,fr,((h.S b k.1).2).trans a,by rw [h.shp]; exact e,f⟩
def J8.le {c c':Cx} {f:Bool} {a:Option Addr} {j:List Int} (k:J8 c f a j) (h:c.le c'):J8 c' f a j:=by
 rcases k with k | ⟨A,m,d,l,g⟩
 ·exact .inl k
 refine .inr ⟨A,m,fun e=>⟨(h.S _ (d e).1).1,by rw [h.B0]; exact (d e).2.1,?_⟩,fun e=>(l e).imp (fun k=>⟨by rw [h.B0]; exact k.1,nJ (h.lo _ k.1 k.2) k.2⟩) fun k=>h.at_ k,?_⟩
 ·obtain ⟨i,t,fr,n,o,p⟩:=(d e).2.2;exact ⟨i,t,fr,((h.S _ (d e).1).2).trans n,by rw [h.shp]; exact o,p⟩
 cases f
 ·rcases l rfl with k | k
  ·exact g.dm (h.lo _ k.1 k.2)
  exact g.dm (h.S _ k.1).2
 exact g.dm (h.S _ (d rfl).1).2
theorem uR {c:Cx} (h:c.le c'):(∀ a v,Pd c a v->Pd c' a v)/\(∀ f j,p0 c f j->p0 c' f j):=by
 refine ⟨fun a v q=>?_,fun f j q=>?_⟩
 ·refine @Pd.rec c (fun a v _=>Pd c' a v) (fun f j _=>p0 c' f j) ?_ ?_ ?_ ?_ ?_ ?_ ?_ ?_ ?_ ?_ a v q
  ·intro n d; exact .int d
  ·intro b; exact .u8
  ·intro n d; exact .u64 d
  ·intro e; exact .bool
  ·intro s d; exact .str d
  ·intro b a d; exact .em d
  ·intro s t a k m d g o _ l p;refine .fz d g o p ?_;rcases l with l | ⟨A,u,i,w⟩
   ·grind
   exact .inr ⟨A,u,h.at_ i,w.dm (h.S _ i.1).2⟩
  ·intro y t a k d g o x l; exact .li d g o x (l.le h)
  ·exact .nil
  intro a v r j _ _ d g; exact .cons d g
 induction f generalizing j with
 | nil=>cases q; exact .nil
 | cons a r p=>
  cases q with
  | cons d g=>
   refine .cons ?_ (p _ g);refine @Pd.rec c (fun a v _=>Pd c' a v) (fun f j _=>p0 c' f j) ?_ ?_ ?_ ?_ ?_ ?_ ?_ ?_ ?_ ?_ _ _ d
   ·intro n d; exact .int d
   ·intro b; exact .u8
   ·intro n d; exact .u64 d
   ·intro e; exact .bool
   ·intro s d; exact .str d
   ·intro b a d; exact .em d
   ·intro s t a k m d g o _ l p;refine .fz d g o p ?_;rcases l with l | ⟨A,u,i,w⟩
    ·grind
    exact .inr ⟨A,u,h.at_ i,w.dm (h.S _ i.1).2⟩
   ·intro y t a k d g o x l; exact .li d g o x (l.le h)
   ·exact .nil
   intro a v r j _ _ d g; exact .cons d g
variable {a:AV}
def Pd.c8 {c:Cx} {v:Value} (h:Pd c a v) (k:c.le c'):Pd c' a v:=(uR k).1 _ _ h
variable {asx:List AV} {vs:List Value}
def p0.c8 {c:Cx} (h:p0 c asx vs) (k:c.le c'):p0 c' asx vs:=(uR k).2 _ _ h
theorem Pd.one {c:Cx} {v:Value} (h:Pd c a v):v.oneCell' = true:=by cases h <;> simp [oneCell',o3.val]
def p0.RB {c:Cx}:∀ {asx:List AV} {vs:List Value},p0 c asx vs->∀ u ∈ vs,u.oneCell' = true
 | [],_,h=>by cases h; simp
 | _ :: _,_,h=>by
  cases h with
  | cons d e=>
   intro u hu;rcases u2.1 hu with rfl | hu
   ·exact d.one
   exact e.RB u hu
theorem p0.length {c:Cx} {asx:List AV} {vs:List Value} (h:p0 c asx vs):asx.length=vs.length:=h.all.length
def p0.append {c:Cx}:∀ {asx d:List AV} {vs e:List Value},p0 c asx vs->p0 c d e->p0 c (asx++d) (vs++e)
 | [],_,_,_,h,k=>by cases h; exact k
 | _ :: _,_,_,_,h,k=>by cases h with | cons f g=>exact .cons f (g.append k)
def p0.take {c:Cx} {asx:List AV} {vs:List Value} (h:p0 c asx vs) (n:Nat):p0 c (asx.take n) (vs.take n):=.of (h.all.take n)
def p0.drop {c:Cx} {asx:List AV} {vs:List Value} (h:p0 c asx vs) (n:Nat):p0 c (asx.drop n) (vs.drop n):=.of (h.all.drop n)
def dz (s:Sh) (x:l5 s):(cellsOf s x).length=s.size:=by
 cases s <;> try rfl
 rename_i t;cases t <;> rfl
def size_pos (s:Sh):0<s.size:=by
 cases s with
 | nm t=>cases t <;> decide
 | _=>simp [Sh.size]
def iF (s:Sh):0<s.bytes:=by
 cases s with
 | nm t=>cases t <;> decide
 | _=>simp [Sh.bytes]
theorem cz {s:Sh}:∀ (c:List (l5 s)),(c.flatMap (cellsOf s)).length=c.length*s.size
 | []=>by simp
 | x :: r=>by rw [H5,r5,cz r,dz,y4,I9]; omega
theorem p_ {s:Sh}:∀ (c:List (l5 s)) (i:Nat),(c.flatMap (cellsOf s)).drop (i*s.size)=(c.drop i).flatMap (cellsOf s)
 | [],i=>by simp
 | x :: r,0=>by simp
 | x :: r,i+1=>by
  rw [H5,List.drop_append,List.drop_eq_nil_of_le (by rw [dz,I9]; omega),dz,show (i+1)*s.size - s.size=i*s.size by rw [I9]; omega,p_ r i];simp
theorem xp {s:Sh}:∀ (c:List (l5 s)) (i:Nat),(c.flatMap (cellsOf s)).take (i*s.size)=(c.take i).flatMap (cellsOf s)
 | [],i=>by simp
 | x :: r,0=>by simp
 | x :: r,i+1=>by
  rw [H5,List.take_append,r6 (by rw [dz,I9]; omega),dz,show (i+1)*s.size - s.size=i*s.size by rw [I9]; omega,xp r i];simp
variable {i:Nat}
def pt {s:Sh} {c:List (l5 s)} {x:l5 s} (h:c[i]? = some x):((c.flatMap (cellsOf s)).drop (i*s.size)).take s.size=cellsOf s x:=by
 rw [p_];have d:i<c.length:=(r3.1 h).1;rw [J2 d,H5,N8 (by rw [dz]; omega)];have e:c[i]=x:=by rw [p6 d] at h; exact B1 h
 rw [e,r6 (by rw [dz]; omega)]
theorem BC {s:Sh} {c:List (l5 s)} {x y:l5 s} (h:c[i]? = some x):(c.set i y).flatMap (cellsOf s)=(c.take i).flatMap (cellsOf s)++cellsOf s y++(c.drop (i+1)).flatMap (cellsOf s):=by
 have d:i<c.length:=(r3.1 h).1;have e:c.set i y=c.take i++y :: c.drop (i+1):=by grind [List.set_eq_take_append_cons_drop]
 grind
def ri (s:Sh) (x:l5 s):∀ a ∈ cellsOf s x,a.plain=true:=by
 cases s with
 | nm t=>cases t <;> simp [cellsOf,NT.cells,AV.plain]
 | _=>simp [cellsOf,AV.plain]
section
variable {c:Cx} {a:AV} {v:Value}
def AV.al7 {n:Int} (h:a.bq=some n):a = .int n:=by cases a <;> simp [AV.bq] at h; rw [h]
def AV.alZ {n:UInt8} (h:a.N3=some n):a = .u8 n:=by cases a <;> simp [AV.N3] at h; rw [h]
def AV.apG {n:y1} (h:a.N2=some n):a = .u64 n.n:=by cases a <;> simp [AV.N2] at h; rw [<- h]
def AV.ap3 {n:o3} (h:a.ED=some n):a = .str n:=by cases a <;> simp [AV.ED] at h; rw [h]
def Qd (c:Cx) (a:AV) (v:Value):Prop:=a.plain=true->Pd c a v
theorem Pd.bq {n:Int} (h:a.bq=some n) (k:Qd c a v):Pd c (.int n) v:=by obtain rfl:=AV.al7 h; exact k rfl
theorem Pd.N3 {n:UInt8} (h:a.N3=some n) (k:Qd c a v):Pd c (.u8 n) v:=by obtain rfl:=AV.alZ h; exact k rfl
theorem Pd.N2 {n:y1} (h:a.N2=some n) (k:Qd c a v):Pd c (.u64 n.n) v:=by obtain rfl:=AV.apG h; exact k rfl
theorem Pd.P8 {x:Bool × List Int} (h:a.P8=some x) (k:Qd c a v):Pd c (.li x.1 x.2) v:=by
 cases a <;> simp [AV.P8] at h
 ·subst h;cases (k rfl) with
  | em d=>exact Pd.li (xs:=[]) (k:=0) (sh _) (F8 _) aa aa (.inl rfl)
 subst h; exact k rfl
theorem Pd.ED {n:o3} (h:a.ED=some n) (k:Qd c a v):Pd c (.str n) v:=by obtain rfl:=AV.ap3 h; exact k rfl
theorem Pd.vT {n:Bool} (h:a.vT=some n) (k:Qd c a v):Pd c (.bool (.atom n)) v:=by
 cases a <;> simp [AV.vT] at h;have k:=k rfl;cases k;rw [h];exact Pd.bool (e:=.atom n)
def Pd.Ab {s:Sh} {b:Bool} (k:Pd c (.em b) v):Pd c (.fz s []) v:=by
 cases k with
 | em h=>exact Pd.fz (xs:=([]:List (l5 s))) (cells:=[]) (sh _) aa aa .nil (.inl rfl)
theorem Pd.gv {s:Sh} {d:List (l5 s)} (h:a.gv s=some d) (k:Qd c a v):Pd c (.fz s d) v:=by
 cases a <;> simp [AV.gv] at h
 ·subst h; exact (k rfl).Ab
 obtain ⟨rfl,h⟩:=h;subst h; exact k rfl
end
def lg.aV {c:Cx} {x:lg} (h:lg.of asx=some x) (d:hQ (Qd c) asx vs):p0 c (NT.cells .nd x) vs:=by
 unfold lg.of at h;split at h
 ·split at h
  ·rename_i e f;cases h;cases d with | cons g d=>cases d with | cons j d=>cases d; exact .cons (Pd.bq e g) ( .cons (Pd.bq f j) .nil)
  cases h
 cases h
def eb.aV {c:Cx} {x:eb} (h:eb.of asx=some x) (d:hQ (Qd c) asx vs):p0 c (NT.cells .b8 x) vs:=by
 unfold eb.of at h;split at h
 ·split at h
  ·rename_i e f g j;cases h;cases d with | cons k d=>cases d with | cons l d=>cases d with | cons m d=>cases d with | cons n d=>cases d; exact .cons (Pd.bq e k) ( .cons (Pd.bq f l) ( .cons (Pd.bq g m) ( .cons (Pd.bq j n) .nil)))
  cases h
 cases h
def l8.aV {c:Cx} {x:l8} (h:l8.of asx=some x) (d:hQ (Qd c) asx vs):p0 c (NT.cells .opn x) vs:=by
 unfold l8.of at h;split at h
 ·split at h
  ·rename_i e f;cases h;cases d with | cons g d=>cases d with | cons j d=>cases d; exact .cons (Pd.bq e g) ( .cons (Pd.bq f j) .nil)
  cases h
 cases h
def hX.aV {c:Cx} {x:hX} (h:hX.of asx=some x) (d:hQ (Qd c) asx vs):p0 c (NT.cells .snap x) vs:=by
 unfold hX.of at h;split at h
 ·split at h
  ·rename_i e f g j k;cases h;cases d with | cons l d=>cases d with | cons m d=>cases d with | cons n d=>cases d with | cons o d=>cases d with | cons p d=>cases d; exact .cons (Pd.bq e l) ( .cons (Pd.bq f m) ( .cons (Pd.gv g n) ( .cons (Pd.vT j o) ( .cons (Pd.ED k p) .nil))))
  cases h
 cases h
def b7.aV {c:Cx} {x:b7} (h:b7.of asx=some x) (d:hQ (Qd c) asx vs):p0 c (NT.cells .eS x) vs:=by
 unfold b7.of at h;split at h
 ·split at h
  ·rename_i e f g j k l m;cases h;cases d with | cons n d=>cases d with | cons o d=>cases d with | cons p d=>cases d with | cons q d=>cases d with | cons r d=>cases d with | cons s d=>cases d with | cons t d=>cases d; exact .cons (Pd.bq e n) ( .cons (Pd.bq f o) ( .cons (Pd.bq g p) ( .cons (Pd.bq j q) ( .cons (Pd.gv k r) ( .cons (Pd.gv l s) ( .cons (Pd.gv m t) .nil))))))
  cases h
 cases h
def b5.aV {c:Cx} {x:b5} (h:b5.of asx=some x) (d:hQ (Qd c) asx vs):p0 c (NT.cells .command x) vs:=by
 unfold b5.of at h;split at h
 ·split at h
  ·rename_i e f g j k l m n;cases h;cases d with | cons o d=>cases d with | cons p d=>cases d with | cons q d=>cases d with | cons r d=>cases d with | cons s d=>cases d with | cons t d=>cases d with | cons u d=>cases d with | cons v d=>cases d; exact .cons (Pd.bq e o) ( .cons (Pd.bq f p) ( .cons (Pd.bq g q) ( .cons (Pd.bq j r) ( .cons (Pd.bq k s) ( .cons (Pd.bq l t) ( .cons (Pd.gv m u) ( .cons (Pd.ED n v) .nil)))))))
  cases h
 cases h
def A7.aV {c:Cx} {x:A7} (h:A7.of asx=some x) (d:hQ (Qd c) asx vs):p0 c (NT.cells .snapE x) vs:=by
 unfold A7.of at h;split at h
 ·split at h
  ·rename_i e f g j k;cases h;cases d with | cons l d=>cases d with | cons m d=>cases d with | cons n d=>cases d with | cons o d=>cases d with | cons p d=>cases d; exact .cons (Pd.bq e l) ( .cons (Pd.bq f m) ( .cons (Pd.P8 g n) ( .cons (Pd.vT j o) ( .cons (Pd.ED k p) .nil))))
  cases h
 cases h
def Field.aV {c:Cx} {x:Field} (h:Field.of asx=some x) (d:hQ (Qd c) asx vs):p0 c (NT.cells .field x) vs:=by
 unfold Field.of at h;split at h
 ·split at h
  ·rename_i e f g j;cases h;cases d with | cons k d=>cases d with | cons l d=>cases d with | cons m d=>cases d with | cons n d=>cases d; exact .cons (Pd.bq e k) ( .cons (Pd.bq f l) ( .cons (Pd.N2 g m) ( .cons (Pd.gv j n) .nil)))
  cases h
 cases h
def k9.aV {c:Cx} {x:k9} (h:k9.of asx=some x) (d:hQ (Qd c) asx vs):p0 c (NT.cells .spec x) vs:=by
 unfold k9.of at h;split at h
 ·split at h
  ·rename_i e f g j k;cases h;cases d with | cons l d=>cases d with | cons m d=>cases d with | cons n d=>cases d with | cons o d=>cases d with | cons p d=>cases d; exact .cons (Pd.bq e l) ( .cons (Pd.bq f m) ( .cons (Pd.bq g n) ( .cons (Pd.vT j o) ( .cons (Pd.vT k p) .nil))))
  cases h
 cases h
def ec.aV {c:Cx} {x:ec} (h:ec.of asx=some x) (d:hQ (Qd c) asx vs):p0 c (NT.cells .entry x) vs:=by
 unfold ec.of at h;split at h
 ·split at h
  ·rename_i e f;cases h;cases d with | cons g d=>cases d with | cons j d=>cases d; exact .cons (Pd.bq e g) ( .cons (Pd.gv f j) .nil)
  cases h
 cases h
def c9.aV {c:Cx} {x:c9} (h:c9.of asx=some x) (d:hQ (Qd c) asx vs):p0 c (NT.cells .record x) vs:=by
 unfold c9.of at h;split at h
 ·split at h
  ·rename_i e f g j;cases h;cases d with | cons k d=>cases d with | cons l d=>cases d with | cons m d=>cases d with | cons n d=>cases d; exact .cons (Pd.bq e k) ( .cons (Pd.bq f l) ( .cons (Pd.bq g m) ( .cons (Pd.gv j n) .nil)))
  cases h
 cases h
def eR.aV {c:Cx} {x:eR} (h:eR.of asx=some x) (d:hQ (Qd c) asx vs):p0 c (NT.cells .letter x) vs:=by
 unfold eR.of at h;split at h
 ·split at h
  ·rename_i e f g j k l m n o p;cases h;cases d with | cons q d=>cases d with | cons r d=>cases d with | cons s d=>cases d with | cons t d=>cases d with | cons u d=>cases d with | cons v d=>cases d with | cons w d=>cases d with | cons y d=>cases d with | cons z d=>cases d with | cons A d=>cases d; exact .cons (Pd.bq e q) ( .cons (Pd.bq f r) ( .cons (Pd.bq g s) ( .cons (Pd.bq j t) ( .cons (Pd.bq k u) ( .cons (Pd.bq l v) ( .cons (Pd.bq m w) ( .cons (Pd.bq n y) ( .cons (Pd.vT o z) ( .cons (Pd.gv p A) .nil)))))))))
  cases h
 cases h
def Event.aV {c:Cx} {x:Event} (h:Event.of asx=some x) (d:hQ (Qd c) asx vs):p0 c (NT.cells .event x) vs:=by
 unfold Event.of at h;split at h
 ·split at h
  ·rename_i g j k l m n o p q r e;cases h;cases d with | cons s d=>cases d with | cons t d=>cases d with | cons u d=>cases d with | cons v d=>cases d with | cons w d=>cases d with | cons y d=>cases d with | cons z d=>cases d with | cons A d=>cases d with | cons B d=>cases d with | cons C d=>cases d with | cons f d=>cases d; exact .cons (Pd.bq g s) ( .cons (Pd.bq j t) ( .cons (Pd.bq k u) ( .cons (Pd.bq l v) ( .cons (Pd.bq m w) ( .cons (Pd.bq n y) ( .cons (Pd.bq o z) ( .cons (Pd.bq p A) ( .cons (Pd.bq q B) ( .cons (Pd.gv r C) ( .cons (Pd.ED e f) .nil))))))))))
  cases h
 cases h
def A6.aV {c:Cx} {x:A6} (h:A6.of asx=some x) (d:hQ (Qd c) asx vs):p0 c (NT.cells .call x) vs:=by
 unfold A6.of at h;split at h
 ·split at h
  ·rename_i s t u v w y z A B C e f g j k l;cases h;cases d with | cons D d=>cases d with | cons F d=>cases d with | cons G d=>cases d with | cons H d=>cases d with | cons I d=>cases d with | cons J d=>cases d with | cons K d=>cases d with | cons L d=>cases d with | cons N d=>cases d with | cons O d=>cases d with | cons m d=>cases d with | cons n d=>cases d with | cons o d=>cases d with | cons p d=>cases d with | cons q d=>cases d with | cons r d=>cases d; exact .cons (Pd.bq s D) ( .cons (Pd.bq t F) ( .cons (Pd.bq u G) ( .cons (Pd.bq v H) ( .cons (Pd.bq w I) ( .cons (Pd.bq y J) ( .cons (Pd.bq z K) ( .cons (Pd.bq A L) ( .cons (Pd.bq B N) ( .cons (Pd.bq C O) ( .cons (Pd.bq e m) ( .cons (Pd.gv f n) ( .cons (Pd.ED g o) ( .cons (Pd.vT j p) ( .cons (Pd.bq k q) ( .cons (Pd.bq l r) .nil)))))))))))))))
  cases h
 cases h
def c4.aV {c:Cx} {x:c4} (h:c4.of asx=some x) (d:hQ (Qd c) asx vs):p0 c (NT.cells .stable x) vs:=by
 unfold c4.of at h;split at h
 ·split at h
  ·rename_i e f g j;cases h;cases d with | cons k d=>cases d with | cons l d=>cases d with | cons m d=>cases d with | cons n d=>cases d; exact .cons (Pd.bq e k) ( .cons (Pd.bq f l) ( .cons (Pd.bq g m) ( .cons (Pd.gv j n) .nil)))
  cases h
 cases h
def v7.aV {c:Cx} {x:v7} (h:v7.of asx=some x) (d:hQ (Qd c) asx vs):p0 c (NT.cells .route x) vs:=by
 unfold v7.of at h;split at h
 ·split at h
  ·rename_i e f g j k;cases h;cases d with | cons l d=>cases d with | cons m d=>cases d with | cons n d=>cases d with | cons o d=>cases d with | cons p d=>cases d; exact .cons (Pd.bq e l) ( .cons (Pd.bq f m) ( .cons (Pd.bq g n) ( .cons (Pd.bq j o) ( .cons (Pd.bq k p) .nil))))
  cases h
 cases h
def Site.aV {c:Cx} {x:Site} (h:Site.of asx=some x) (d:hQ (Qd c) asx vs):p0 c (NT.cells .site x) vs:=by
 unfold Site.of at h;split at h
 ·split at h
  ·rename_i s t u v w y z A B C e f g j k l;cases h;cases d with | cons D d=>cases d with | cons F d=>cases d with | cons G d=>cases d with | cons H d=>cases d with | cons I d=>cases d with | cons J d=>cases d with | cons K d=>cases d with | cons L d=>cases d with | cons N d=>cases d with | cons O d=>cases d with | cons m d=>cases d with | cons n d=>cases d with | cons o d=>cases d with | cons p d=>cases d with | cons q d=>cases d with | cons r d=>cases d; exact .cons (Pd.vT s D) ( .cons (Pd.bq t F) ( .cons (Pd.bq u G) ( .cons (Pd.bq v H) ( .cons (Pd.bq w I) ( .cons (Pd.bq y J) ( .cons (Pd.bq z K) ( .cons (Pd.bq A L) ( .cons (Pd.gv B N) ( .cons (Pd.bq C O) ( .cons (Pd.bq e m) ( .cons (Pd.bq f n) ( .cons (Pd.bq g o) ( .cons (Pd.gv j p) ( .cons (Pd.gv k q) ( .cons (Pd.gv l r) .nil)))))))))))))))
  cases h
 cases h
def C8.aV {c:Cx} {x:C8} (h:C8.of asx=some x) (d:hQ (Qd c) asx vs):p0 c (NT.cells .nop x) vs:=by
 unfold C8.of at h;split at h
 ·split at h
  ·rename_i B C D F G H I J K L e f g j k l m n o p;cases h;cases d with | cons N d=>cases d with | cons O d=>cases d with | cons P d=>cases d with | cons Q d=>cases d with | cons S d=>cases d with | cons T d=>cases d with | cons U d=>cases d with | cons V d=>cases d with | cons W d=>cases d with | cons X d=>cases d with | cons q d=>cases d with | cons r d=>cases d with | cons s d=>cases d with | cons t d=>cases d with | cons u d=>cases d with | cons v d=>cases d with | cons w d=>cases d with | cons y d=>cases d with | cons z d=>cases d with | cons A d=>cases d; exact .cons (Pd.N3 B N) ( .cons (Pd.bq C O) ( .cons (Pd.bq D P) ( .cons (Pd.bq F Q) ( .cons (Pd.bq G S) ( .cons (Pd.bq H T) ( .cons (Pd.bq I U) ( .cons (Pd.bq J V) ( .cons (Pd.bq K W) ( .cons (Pd.bq L X) ( .cons (Pd.vT e q) ( .cons (Pd.gv f r) ( .cons (Pd.bq g s) ( .cons (Pd.bq j t) ( .cons (Pd.bq k u) ( .cons (Pd.bq l v) ( .cons (Pd.bq m w) ( .cons (Pd.bq n y) ( .cons (Pd.gv o z) ( .cons (Pd.ED p A) .nil)))))))))))))))))))
  cases h
 cases h
def Rest.aV {c:Cx} {x:Rest} (h:Rest.of asx=some x) (d:hQ (Qd c) asx vs):p0 c (NT.cells .rest x) vs:=by
 unfold Rest.of at h;split at h
 ·split at h
  ·rename_i e f;cases h;cases d with | cons g d=>cases d with | cons j d=>cases d; exact .cons (Pd.gv e g) ( .cons (Pd.N3 f j) .nil)
  cases h
 cases h
def Span.aV {c:Cx} {x:Span} (h:Span.of asx=some x) (d:hQ (Qd c) asx vs):p0 c (NT.cells .span x) vs:=by
 unfold Span.of at h;split at h
 ·split at h
  ·rename_i e f;cases h;cases d with | cons g d=>cases d with | cons j d=>cases d; exact .cons (Pd.bq e g) ( .cons (Pd.bq f j) .nil)
  cases h
 cases h
def YZ {c:Cx} {t:NT} {x:t.l5} (h:NT.of t asx=some x) (d:hQ (Qd c) asx vs):p0 c (t.cells x) vs:=by
 cases t
 ·exact lg.aV h d
 ·exact eb.aV h d
 ·exact l8.aV h d
 ·exact hX.aV h d
 ·exact b7.aV h d
 ·exact b5.aV h d
 ·exact A7.aV h d
 ·exact Field.aV h d
 ·exact k9.aV h d
 ·exact ec.aV h d
 ·exact c9.aV h d
 ·exact eR.aV h d
 ·exact Event.aV h d
 ·exact A6.aV h d
 ·exact c4.aV h d
 ·exact v7.aV h d
 ·exact Site.aV h d
 ·exact C8.aV h d
 ·exact Rest.aV h d
 exact Span.aV h d
def aV {c:Cx} {s:Sh} {x:l5 s} (h:gP s asx=some x) (f:hQ (Qd c) asx vs):p0 c (cellsOf s x) vs:=by
 unfold gP at h;split at h
 ·cases h; cases f with | cons d e=>cases e; exact .cons (d rfl) .nil
 ·cases h; cases f with | cons d e=>cases e; exact .cons (d rfl) .nil
 ·cases h; cases f with | cons d e=>cases e; exact .cons (d rfl) .nil
 ·cases h; cases f with | cons d e=>cases e; exact .cons (Pd.vT rfl d) .nil
 ·cases h; cases f with | cons d e=>cases e; exact .cons (d rfl) .nil
 ·cases f with | cons d e=>cases e; exact .cons (Pd.P8 h d) .nil
 ·cases f with | cons d e=>cases e; exact .cons (Pd.gv h d) .nil
 ·exact YZ h f
 cases h
end Go.Proofs.YticbaadnibdbkaaGreat
namespace Go.Proofs.YticbaadnibdbkaaGreat
open Go.RowKit
inductive RE
 | no | blk (g:Nat) | row (g cap len z:Nat) | emp
def RE.g?:RE->Option Nat
 | .blk g=>some g
 | .row g _ _ _=>some g
 | _=>none
def live (a:List RE) (b:Nat):Prop:=∃ (i:Nat) (r:RE),a[i]? = some r/\r.g? = some b
structure Gl where
 shp:TypeId->Option Sh
 B0:Nat
 Z:Nat->Prop
def cx (G:Gl) (ρ:List RE) (w:World):Cx:=⟨G.shp,G.B0,fun b=>b<w.heap.size/\¬ live ρ b/\¬ G.Z b,w⟩
def eQ (a:List RE) (q:Nat × Nat) (v:Value):Prop:=∃ g,a[q.1]? = some (.blk g)/\v = .pointer (some ⟨g,q.2,none⟩)
def qg:Value->Option Int
 | .int .i64 v=>some v
 | _=>none
def getM (k:Int):List MapEntry->Option Value
 | []=>none
 | e :: r=>if qg e.key=some k then some e.val else getM k r
def V1 (c:Cx) (s:Sh) (x:l5 s) (v:Value):Prop:=∃ a,p0 c (cellsOf s x) a/\((s.qw=true/\v = .agg a.toArray)\/(s.qw=false/\a=[v]))
def VO (c:Cx) (s:Sh):Option Value->Option (l5 s)->Prop
 | none,none=>True
 | some v,some x=>V1 c s x v
 | _,_=>False
def Xe (c:Cx) (g:Nat) (s:Sh) (f:Int->Option (l5 s)):Prop:=
 ∃ a n,c.w.heap[g]? = some (.map a n)/\(∀ e ∈ a.toList,∃ k,e.key = .int .i64 k)/\∀ k,VO c s (getM k a.toList) (f k)
def Yk:Value->Option o3
 | .string s=>some ⟨s.data.toList⟩
 | _=>none
def yw (k:o3):List MapEntry->Option Value
 | []=>none
 | e :: r=>if Yk e.key=some k then some e.val else yw k r
def anU (l:List MapEntry) (f:o3->Option Int):Prop:=(∀ e ∈ l,∃ s,e.key = .string s)/\∀ k,yw k l=(f k).map (.int .i64)/\∀ n,f k=some n->a7 n
def KC.val:KC->Value
 | .i n=>.int .i64 n
 | .b v=>.bool v
 | .f g=>.func (.func g) #[] #[]
 | .nf=>.nilFunc
def KC.fv:KC->Value
 | .f g=>.func (.func g) #[] #[]
 | _=>.nilFunc
def amd (a:List MapEntry) (l:List (Int × List KC)):Prop:=(∀ e ∈ a,∃ k,e.key = .int .i64 k)/\∀ k,getM k a=(eB l k).map fun b=>.agg (b.map KC.val).toArray
def XK.rd (c:Cx):XK->List Value->Value->Prop
 | .er b,d,v=>d=[]/\((b=true/\v = .nilIface)\/(b=false/\∃ t u,v = .iface t u))
 | .pl,d,v=>∃ A,v = .slice (some A) d.length d.length/\d.length<=16777216/\c.S A.block/\ie c.w A d
 | .pa,d,v=>∃ A,v = .pointer (some A)/\c.S A.block/\ie c.w A d
 | .fm f,d,v=>d=[]/\∃ g a n,v = .map (some g)/\c.S g/\c.w.heap[g]? = some (.map a n)/\anU a.toList f
 | .bp,d,v=>d.length=1/\(v = .pointer none\/d=[v])
 | .ff s e,d,v=>d=[]/\Pd c.low (.fz s e) v
 | .mx b e,d,v=>d=[]/\Pd (bif b then c else c.low) (.fz .int e) v
 | .w n,d,v=>d=[]/\n<4294967296/\v = .int .u32 n
 | .km l,d,v=>d=[]/\∃ g a n,v = .map (some g)/\c.S g/\c.w.heap[g]? = some (.map a n)/\amd a.toList l
 | .kf x,d,v=>d=[]/\v=x.fv
variable {us:List Value}
def XK.abi {c a:Cx} {s:Sh} {b:List (l5 s)} {v:Value} (h:XK.rd c (.ff s b) us v) (d:c.low.le a.low):XK.rd a (.ff s b) us v:=⟨h.1,h.2.c8 d⟩
def XK.rd.le {c l:Cx} {k:XK} {us:List Value} {v:Value} (h:k.rd c us v) (b:c.le l):k.rd l us v:=by
 cases k;case er=>exact h
 case pl=>obtain ⟨A,e,i,d,f⟩:=h; exact ⟨A,e,i,(b.S _ d).1,f.dm (b.S _ d).2⟩
 case pa=>obtain ⟨A,e,d,f⟩:=h; exact ⟨A,e,(b.S _ d).1,f.dm (b.S _ d).2⟩
 case fm=>obtain ⟨i,g,a,n,e,d,f,j⟩:=h; exact ⟨i,g,a,n,e,(b.S _ d).1,((b.S _ d).2).trans f,j⟩
 case bp=>exact h
 case w=>exact h
 case kf=>exact h
 case km=>obtain ⟨i,g,a,n,e,d,f,j⟩:=h; exact ⟨i,g,a,n,e,(b.S _ d).1,((b.S _ d).2).trans f,j⟩
 case ff=>exact XK.abi h b.low
 case mx m o=>
  cases m
  ·exact ⟨h.1,h.2.c8 b.low⟩
  exact ⟨h.1,h.2.c8 b⟩
variable {ρ:List RE}
theorem XK.rd.one {c:Cx} {k:XK} {b:List (Nat × Nat)} {v:Value} (h:k.rd c us v) (d:hQ (eQ ρ) b us):v.oneCell' = true:=by
 cases k;case er=>obtain ⟨_,⟨_,rfl⟩ | ⟨_,_,_,rfl⟩⟩:=h <;> rfl
 case pl=>obtain ⟨A,rfl,_⟩:=h; rfl
 case pa=>obtain ⟨A,rfl,_⟩:=h; rfl
 case fm=>obtain ⟨_,g,a,n,rfl,_⟩:=h; rfl
 case ff=>obtain ⟨_,h⟩:=h; cases h; rfl
 case mx=>obtain ⟨_,h⟩:=h; cases h; rfl
 case w=>obtain ⟨_,_,rfl⟩:=h; rfl
 case km=>obtain ⟨_,g,a,n,rfl,_⟩:=h; rfl
 case kf x=>obtain ⟨_,rfl⟩:=h; cases x <;> rfl
 case bp=>
  obtain ⟨_,rfl | rfl⟩:=h
  ·rfl
  cases d with | cons e _=>obtain ⟨_,_,rfl⟩:=e; rfl
def Rd (c:Cx) (ρ:List RE):AV->Value->Prop
 | .mq id,v=>∃ g,ρ[id]? = some (.blk g)/\v = .map (some g)
 | .own id,v=>(∃ g d len z,ρ[id]? = some (.row g d len z)/\v = .slice (some ⟨g,0,none⟩) len d)\/(ρ[id]? = some .emp/\∃ a,v = .slice a 0 0)
 | .sub id h len,v=>(∃ g d L z,ρ[id]? = some (.row g d L z)/\h+len<=L/\v = .slice (some ⟨g,h*z,none⟩) len (d - h))\/(ρ[id]? = some .emp/\h=0/\len=0/\∃ a,v = .slice a 0 0)
 | .ptr id o,v=>eQ ρ (id,o) v
 | .np,v=>v = .pointer none
 | .x8 id i o,v=>∃ g d len z,ρ[id]? = some (.row g d len z)/\i<len/\v = .pointer (some ⟨g,i*z+o,none⟩)
 | .fe s x o,v=>∃ A e,c.S A.block/\ie c.w A e/\p0 c (cellsOf s x) e/\v = .pointer (some (A.add o))
 | .fn f b j,v=>∃ m us,hQ (eQ ρ) b m/\hQ (eQ ρ) j us/\v = .func (.func f) m.toArray us.toArray
 | .nf,v=>v = .nilFunc
 | .yl l,v=>v = .func (.yield l) #[] #[]
 | .xx k j,v=>∃ us,hQ (eQ ρ) j us/\k.rd c us v
 | .dead,v=>v.oneCell' = true
 | a,v=>Pd c a v
def dJ (c:Cx) (ρ:List RE):n8->Value->Prop
 | .c a,v=>Rd c ρ a v
 | .agg l,v=>∃ b,v = .agg b.toArray/\hQ (Rd c ρ) l b
def Rt (c:Cx) (ρ:List RE):TV->Value->Prop
 | .one t,v=>dJ c ρ t v
 | .C4 l,v=>∃ a,v = .tuple a.toArray/\hQ (dJ c ρ) l a
 | .un,_=>True
def o9 (c:Cx) (ρ:List RE) (fr:j9) (F:Fr):Prop:=hQ (fun p q=>p.1=q.1/\Rt c ρ p.2 q.2) fr F
def u0 (k:Int):List (Int × AV)->Option AV
 | []=>none
 | (j,a) :: r=>if k=j then some a else u0 k r
def FO (c:Cx) (ρ:List RE):Option Value->Option AV->Prop
 | none,none=>True
 | some v,some a=>Rd c ρ a v
 | _,_=>False
def Ys (c:Cx) (ρ:List RE) (g:Nat) (l:List (Int × AV)):Prop:=
 ∃ a n,c.w.heap[g]? = some (.map a n)/\(∀ e ∈ a.toList,∃ k,e.key = .int .i64 k)/\∀ k,FO c ρ (getM k a.toList) (u0 k l)
def OR (c:Cx) (ρ:List RE):AO->RE->Prop
 | .gone,r=>r = .no
 | .q7 s f,r=>∃ g,r = .blk g/\Xe c g s f
 | .p7 l,r=>∃ g,r = .blk g/\Ys c ρ g l
 | .loc,_=>True
 | .y9 t s n d,r=>∃ g e,r = .blk g/\c.w.heap[g]? = some (.cells (toArray e) t (0,0))/\p0 c (d.flatMap (cellsOf s)) e/\d.length=n/\s.size=1
 | .box t i,r=>∃ g e,r = .blk g/\c.w.heap[g]? = some (.cells (toArray e) t (0,0))/\hQ (Rd c ρ) i e
 | .row t s d,r=>c.shp t=some s/\d.length*s.bytes<=140737488355328/\((r = .emp/\d=[])\/∃ g b a h,r = .row g b d.length s.size/\c.w.heap[g]? = some (.cells (toArray (a++h)) t (0,0)) /\
   p0 c (d.flatMap (cellsOf s)) a/\(a++h).length=b*s.size/\d.length<=b/\b<=maxLen)
def aoW (c:Cx) (q:Nat × Bool):Prop:=c.S q.1/\∃ v t fr,c.w.heap[q.1]? = some (.cells #[v] t fr)/\match q.2 with
 | true=>∃ m,v = .int .i64 m
 | false=>∃ a p,v = .iface a p
def B3 (c:Cx):Prop:=(∀ q ∈ ag0,aoW c q)/\∀ e ∈ VV,c.S e.g/\e.g<c.B0/\e.xs.length<=maxLen/\e.xs.length*e.s.bytes<=140737488355328/\∃ a t fr,c.w.heap[e.g]? = some (.cells (toArray a) t fr)/\p0 c (e.xs.flatMap (cellsOf e.s)) a
def B3.c8 {c g:Cx} (h:B3 c) (k:c.le g):B3 g:=by
 refine ⟨fun q i=>?_,fun e j=>?_⟩
 ·obtain ⟨b,v,t,fr,d,f⟩:=h.1 q i;exact ⟨(k.S _ b).1,v,t,fr,((k.S _ b).2).trans d,f⟩
 obtain ⟨b,d,f,l,a,t,fr,m,n⟩:=h.2 e j;exact ⟨(k.S _ b).1,by rw [k.B0]; exact d,f,l,a,t,fr,((k.S _ b).2).trans m,n.c8 k⟩
structure oh (G:Gl) (ρ:List RE) (H:AH) (w:World):Prop where
 obj:hQ (OR (cx G ρ w) ρ) H ρ
 inj:∀ (i j:Nat) (r r':RE) (g:Nat),ρ[i]? = some r->ρ[j]? = some r' -> r.g? = some g->r'.g? = some g->i=j
 sr:∀ (i:Nat) (r:RE) (g:Nat),ρ[i]? = some r->r.g? = some g->G.B0<=g/\g<w.heap.size/\¬ G.Z g
 z:∀ b,G.Z b->b<w.heap.size
 b0:G.B0<=w.heap.size
 tb:B3 (cx G ρ w)
structure u1 (ρ0:List RE) (w0:World) (ρ:List RE) (w:World):Prop where
 os:w.os=w0.os
 tape:w.tape=w0.tape
 output:w.output=w0.output
 size:w0.heap.size<=w.heap.size
 x4:∀ b,b<w0.heap.size->¬ live ρ0 b->¬ live ρ b/\w.heap[b]? = w0.heap[b]?
def u1.refl (ρ:List RE) (w:World):u1 ρ w ρ w:=⟨rfl,rfl,rfl,sh _,fun _ _ h=>⟨h,rfl⟩⟩
def u1.trans {d e f:List RE} {a b c:World} (h:u1 d a e b) (k:u1 e b f c):u1 d a f c:=
 ⟨k.os.trans h.os,k.tape.trans h.tape,k.output.trans h.output,z7 h.size k.size,fun x g i=>by
  obtain ⟨j,l⟩:=h.x4 x g i;obtain ⟨m,n⟩:=k.x4 x (w9 g h.size) j;exact ⟨m,n.trans l⟩⟩
variable {H:AH} {w:World}
def oh.lo {G:Gl} (h:oh G ρ H w) (b:Nat) (a:b<G.B0):b<w.heap.size/\¬ live ρ b:=
 ⟨w9 a h.b0,fun ⟨i,r,c,d⟩=>by have:=(h.sr i r b c d).1; omega⟩
def u1.le {G:Gl} {ρ c:List RE} {w d:World} (h:u1 ρ w c d) (e:∀ b,b<G.B0->b<w.heap.size/\¬ live ρ b):(cx G ρ w).le (cx G c d):=
 ⟨rfl,rfl,fun b a=>⟨⟨w9 a.1 h.size,(h.x4 b a.1 a.2.1).1,a.2.2⟩,(h.x4 b a.1 a.2.1).2⟩,fun b a f=>(h.x4 b f (e b a).2).2⟩
def Kp.le {G:Gl} {ρ:List RE} {w c:World} (k:Kp [] w c):(cx G ρ w).le (cx G ρ c):=
 ⟨rfl,rfl,fun b a=>⟨⟨w9 a.1 k.size,a.2⟩,k.block b a.1 aa⟩,fun b _ d=>k.block b d aa⟩
def u1.kp {a:World} (k:Kp [] w a):u1 ρ w ρ a:=⟨k.os,k.tape,k.output,k.size,fun b c h=>⟨h,k.block b c aa⟩⟩
variable {a:AV}
def iZ {c:Cx} {v:Value} (h:a.plain=true):Rd c ρ a v↔Pd c a v:=by cases a <;> first | exact .rfl | cases h
theorem lV {c:Cx} {v:Value} (h:Pd c a v):Rd c ρ a v:=by cases h <;> first | exact .int ‹_› | exact .u8 | exact .u64 ‹_› | exact .bool | exact .str ‹_› | exact .em ‹_› | exact .li ‹_› ‹_› ‹_› ‹_› ‹_› | exact .fz ‹_› ‹_› ‹_› ‹_› ‹_›
theorem iv {c:Cx} {ρ:List RE}:∀ {b:List AV} {d:List Value},p0 c b d->hQ (Rd c ρ) b d
 | [],_,h=>by cases h; exact .nil
 | _ :: _,_,h=>by cases h with | cons e f=>exact .cons (lV e) (iv f)
theorem ku {c:Cx} {ρ:List RE}:∀ {b:List AV} {d:List Value},(∀ a ∈ b,a.plain=true)->hQ (Rd c ρ) b d->p0 c b d
 | [],_,_,h=>by cases h; exact .nil
 | _ :: _,_,e,h=>by cases h with | cons f g=>exact .cons ((iZ (e _ aa)).1 f) (ku (fun a i=>e a (by simp [i])) g)
theorem Rd.one {c:Cx} {ρ:List RE} {a:AV} {v:Value} (h:Rd c ρ a v):v.oneCell' = true:=by
 cases a;case own=>rcases h with ⟨_,_,_,_,_,rfl⟩ | ⟨_,_,rfl⟩ <;> rfl
 case sub=>rcases h with ⟨_,_,_,_,_,_,rfl⟩ | ⟨_,_,_,_,rfl⟩ <;> rfl
 case ptr=>obtain ⟨_,_,rfl⟩:=h; rfl
 case np=>cases h; rfl
 case x8=>obtain ⟨_,_,_,_,_,_,rfl⟩:=h; rfl
 case fe=>obtain ⟨_,_,_,_,_,rfl⟩:=h; rfl
 case fn=>obtain ⟨_,_,_,_,rfl⟩:=h; rfl
 case nf=>cases h; rfl
 case yl=>cases h; rfl
 case xx=>obtain ⟨us,b,d⟩:=h; exact d.one b
 case mq=>obtain ⟨_,_,rfl⟩:=h; rfl
 case dead=>exact h
 all_goals exact Pd.one h
def lu (ρ b:List RE):Prop:=∀ (i:Nat) (r:RE),ρ[i]? = some r->r ≠ .no->b[i]? = some r
def lu.refl (ρ:List RE):lu ρ ρ:=fun _ _ h _=>h
def gO (ρ σ:List RE):lu ρ (ρ++σ):=fun i r h _=>by
 rw [C9 (r3.1 h).1]; exact h
def eQ.c8 {b:List RE} {q:Nat × Nat} {v:Value} (h:eQ ρ q v) (k:lu ρ b):eQ b q v:=by
 obtain ⟨g,c,d⟩:=h;exact ⟨g,k _ _ c aa,d⟩
def Rd.c8 {c m:Cx} {ρ i:List RE} {a:AV} {v:Value} (h:Rd c ρ a v) (j:c.le m) (k:lu ρ i):Rd m i a v:=by
 cases a;case own=>
  rcases h with ⟨g,b,len,z,h,e⟩ | ⟨h,e⟩
  ·exact .inl ⟨g,b,len,z,k _ _ h aa,e⟩
  exact .inr ⟨k _ _ h aa,e⟩
 case sub=>
  rcases h with ⟨g,b,len,z,h,e⟩ | ⟨h,e⟩
  ·exact .inl ⟨g,b,len,z,k _ _ h aa,e⟩
  exact .inr ⟨k _ _ h aa,e⟩
 case ptr=>exact eQ.c8 h k
 case np=>exact h
 case x8=>
  obtain ⟨g,b,len,z,h,e⟩:=h;exact ⟨g,b,len,z,k _ _ h aa,e⟩
 case fe=>
  obtain ⟨A,f,d,l,n,e⟩:=h;exact ⟨A,f,(j.S _ d).1,l.dm (j.S _ d).2,n.c8 j,e⟩
 case fn=>
  obtain ⟨o,us,d,l,e⟩:=h;exact ⟨o,us,d.imp fun _ _ h=>h.c8 k,l.imp fun _ _ h=>h.c8 k,e⟩
 case nf=>exact h
 case yl=>exact h
 case xx=>
  obtain ⟨us,d,l⟩:=h;exact ⟨us,d.imp fun _ _ h=>h.c8 k,l.le j⟩
 case mq=>
  obtain ⟨g,d,e⟩:=h;exact ⟨g,k _ _ d aa,e⟩
 case dead=>exact h
 all_goals exact Pd.c8 h j
def dJ.c8 {c d:Cx} {ρ b:List RE} {a:n8} {v:Value} (h:dJ c ρ a v) (e:c.le d) (k:lu ρ b):dJ d b a v:=by
 cases a with
 | c a=>exact Rd.c8 h e k
 | agg l=>obtain ⟨f,rfl,h⟩:=h; exact ⟨f,rfl,h.imp fun _ _ h=>h.c8 e k⟩
def Rt.c8 {c d:Cx} {ρ b:List RE} {a:TV} {v:Value} (h:Rt c ρ a v) (e:c.le d) (k:lu ρ b):Rt d b a v:=by
 cases a with
 | one a=>exact dJ.c8 h e k
 | C4 l=>obtain ⟨f,rfl,h⟩:=h; exact ⟨f,rfl,h.imp fun _ _ h=>h.c8 e k⟩
 | un=>trivial
def o9.c8 {c d:Cx} {ρ b:List RE} {fr:j9} {F:Fr} (h:o9 c ρ fr F) (e:c.le d) (k:lu ρ b):o9 d b fr F:=h.imp fun _ _ h=>⟨h.1,h.2.c8 e k⟩
def V1.c8 {c b:Cx} {s:Sh} {x:l5 s} {v:Value} (h:V1 c s x v) (d:c.le b):V1 b s x v:=by
 obtain ⟨e,f,g⟩:=h;exact ⟨e,f.c8 d,g⟩
def Xe.c8 {c b:Cx} {g:Nat} {s:Sh} {f:Int->Option (l5 s)} (h:Xe c g s f) (d:c.le b) (e:b.w.heap[g]? = c.w.heap[g]?):Xe b g s f:=by
 obtain ⟨a,n,i,j,l⟩:=h;refine ⟨a,n,e.trans i,j,fun k=>?_⟩;have:=l k;cases m:getM k a.toList <;> cases o:f k <;> rw [m,o] at this
 ·trivial
 ·exact this
 ·exact this
 exact V1.c8 this d
theorem FO.map {c d:Cx} {ρ b:List RE} {g:AV->AV} {v:Option Value} {l:List (Int × AV)} {k:Int} (h:FO c ρ v (u0 k l)) (f:∀ q ∈ l,∀ v,Rd c ρ q.2 v->Rd d b (g q.2) v) (e:List (Int × AV)) (i:e = l.map fun q=>(q.1,g q.2)):FO d b v (u0 k e):=by
 subst i;induction l with
 | nil=>exact (by cases v <;> exact h)
 | cons q l n=>
  obtain ⟨j,a⟩:=q;simp [u0] at h ⊢;by_cases m:k=j
  ·rw [eg m] at h ⊢;cases v with
   | none=>exact h
   | some v=>exact f (j,a) aa v h
  simp_all
def Ys.map {c d:Cx} {ρ b:List RE} {g0:AV->AV} {g:Nat} {l e:List (Int × AV)} (h:Ys c ρ g l) (f:e = l.map fun q=>(q.1,g0 q.2)) (i:∀ q ∈ l,∀ v,Rd c ρ q.2 v->Rd d b (g0 q.2) v) (j:d.w.heap[g]? = c.w.heap[g]?):Ys d b g e:=by
 obtain ⟨a,n,m,o,p⟩:=h;exact ⟨a,n,j.trans m,o,fun k=>(p k).map i e f⟩
def OR.c8 {c p:Cx} {ρ e:List RE} {o:AO} {r:RE} (h:OR c ρ o r) (d:c.le p) (k:lu ρ e) (i:∀ g,r.g? = some g->p.w.heap[g]? = c.w.heap[g]?):OR p e o r:=by
 cases o with
 | gone=>exact h
 | q7 s f=>
  obtain ⟨g,rfl,h⟩:=h;exact ⟨g,rfl,h.c8 d (i g rfl)⟩
 | loc=>trivial
 | p7 l=>
  obtain ⟨g,rfl,h⟩:=h;exact ⟨g,rfl,h.map (g0:=fun a=>a) aa (fun _ _ _ h=>h.c8 d k) (i g rfl)⟩
 | y9 t s n x=>
  obtain ⟨g,q,rfl,j,m,u⟩:=h;exact ⟨g,q,rfl,(i g rfl).trans j,m.c8 d,u⟩
 | box t C=>
  obtain ⟨g,q,rfl,j,m⟩:=h;exact ⟨g,q,rfl,(i g rfl).trans j,m.imp fun _ _ h=>h.c8 d k⟩
 | row t s x=>
  obtain ⟨j,m,u⟩:=h;refine ⟨d.shp ▸ j,m,u.imp id ?_⟩;rintro ⟨g,v,b,y,rfl,z,A,B⟩;exact ⟨g,v,b,y,rfl,(i g rfl).trans z,A.c8 d,B⟩
theorem eE {d e:Type} {R:d->e->Prop} {c:List d} {f:List e} (h:hQ R c f):∀ (i:Nat) (a:d),c[i]? = some a->∃ b,f[i]? = some b/\R a b:=by
 induction h with
 | nil=>intro i b g; simp at g
 | cons h _ j=>
  grind
theorem df {e f:Type} {R:e->f->Prop}:∀ {c:List e} {d:List f},c.length=d.length->(∀ (i:Nat) (a:e) (b:f),c[i]? = some a->d[i]? = some b->R a b)->hQ R c d
 | [],[],_,_=>.nil
 | a :: c,b :: d,h,k=>.cons (k 0 a b rfl rfl) (df (by simpa using h) fun i x y g j=>k (i+1) x y (by simpa using g) (by simpa using j))
theorem cq {i:Nat} {o:AO} (h:l4 H i=o) (b:o ≠ .gone):H[i]? = some o:=by
 unfold l4 at h;grind
section
variable {G:Gl} {ρ:List RE} {H:AH} {w w':World}
variable {i:Nat} {o:AO}
theorem oh.at_ (h:oh G ρ H w) (b:H[i]? = some o):∃ r,ρ[i]? = some r/\OR (cx G ρ w) ρ o r:=eE h.obj i o b
def oh.kp (h:oh G ρ H w) (k:Kp [] w w'):oh G ρ H w':=by
 refine ⟨df h.obj.length fun i o r f e=>?_,h.inj,fun i r g j l=>?_,fun b m=>w9 (h.z b m) k.size,z7 h.b0 k.size,h.tb.c8 ((u1.kp k).le h.lo)⟩
 ·obtain ⟨p,c,d⟩:=h.at_ f;rw [e] at c; cases c;exact d.c8 ((u1.kp k).le h.lo) (lu.refl _) fun g n=>k.block g (h.sr i r g e n).2.1 aa
 have:=h.sr i r g j l;exact ⟨this.1,w9 this.2.1 k.size,this.2.2⟩
variable {r:RE}
theorem Sk {b:Nat}:live (ρ++[r]) b↔live ρ b\/r.g? = some b:=by
 constructor
 ·rintro ⟨i,d,c,e⟩;by_cases f:i<ρ.length
  ·rw [C9 f] at c;exact .inl ⟨i,d,c,e⟩
  grind
 rintro (⟨i,d,c,e⟩ | h)
 ·exact ⟨i,d,by rw [C9 (r3.1 c).1]; exact c,e⟩
 exact ⟨ρ.length,r,aa,h⟩
theorem u1.p4 (k:Kp [] w w') (d:∀ c,r.g? = some c -> w.heap.size<=c):u1 ρ w (ρ++[r]) w':=
 ⟨k.os,k.tape,k.output,k.size,fun b e h=>⟨fun f=>(Sk.1 f).elim h fun g=>by have:=d b g; omega,k.block b e aa⟩⟩
theorem oh.p4 (h:oh G ρ H w) (k:Kp [] w w') {r:RE} {o:AO} (n:∀ g,r.g? = some g->w.heap.size<=g/\g<w'.heap.size) (p:OR (cx G (ρ++[r]) w') (ρ++[r]) o r):oh G (ρ++[r]) (H++[o]) w':=by
 have u:u1 ρ w (ρ++[r]) w':=u1.p4 k fun g q=>(n g q).1;refine ⟨?_,?_,?_,fun b C=>w9 (h.z b C) k.size,z7 h.b0 k.size,h.tb.c8 (u.le h.lo)⟩
 ·refine hQ.append (df h.obj.length fun i o d p l=>?_) (.cons p .nil);obtain ⟨D,e,s⟩:=h.at_ p;rw [l] at e; cases e;exact s.c8 (u.le h.lo) (gO _ _) fun g q=>k.block g (h.sr i d g l q).2.1 aa
 ·intro i j v x g c f y A;have m:∀ i d,(ρ++[r])[i]? = some d -> d.g? = some g->(ρ[i]? = some d /\ g<w.heap.size)\/(i=ρ.length/\w.heap.size<=g):=fun i d c f=>by
   by_cases t:i<ρ.length
   ·rw [C9 t] at c;exact .inl ⟨c,(h.sr i d g c f).2.1⟩
   grind
  rcases m i v c y with ⟨a,b⟩ | ⟨a,b⟩ <;> rcases m j x f A with ⟨B,F⟩ | ⟨B,F⟩
  ·exact h.inj i j v x g a B y A
  ·omega
  ·omega
  omega
 intro i d g c f;by_cases t:i<ρ.length
 ·rw [C9 t] at c;have:=h.sr i d g c f;exact ⟨this.1,w9 this.2.1 k.size,this.2.2⟩
 rw [N9 az] at c;have:i - ρ.length=0:=by grind
 rw [this] at c;simp at c; subst c;exact ⟨z7 h.b0 (n g f).1,(n g f).2,fun I=>by have:=h.z g I; have:=(n g f).1; omega⟩
theorem oh.put (h:oh G ρ H w) {g:Nat} {o':AO} (C:H[i]? = some o) (t:ρ[i]? = some r) (u:r.g? = some g) (k:Kp [g] w w') (D:OR (cx G ρ w') ρ o' r):oh G ρ (H.set i o') w' /\ u1 ρ w ρ w':=by
 have p:u1 ρ w ρ w':=⟨k.os,k.tape,k.output,k.size,fun b q v=>⟨v,k.block b q (by
  simp;rintro rfl;exact v ⟨i,r,t,u⟩)⟩⟩
 refine ⟨⟨df (by rw [B8]; exact h.obj.length) fun j x n e d=>?_,h.inj,fun j n f y A=>?_,fun b q=>w9 (h.z b q) k.size,z7 h.b0 k.size,h.tb.c8 (p.le h.lo)⟩,p⟩
 ·by_cases l:i=j
  ·grind
  rw [L8 l] at e;obtain ⟨B,c,s⟩:=h.at_ e;rw [d] at c; cases c;refine s.c8 (p.le h.lo) (lu.refl _) fun f m=>k.block f (h.sr j n f d m).2.1 ?_;simp;rintro rfl;exact l (h.inj i j r n f t d u m)
 have:=h.sr j n f y A;exact ⟨this.1,w9 this.2.1 k.size,this.2.2⟩
end
end Go.Proofs.YticbaadnibdbkaaGreat
