/- What leads to the law, part 1. Conditions: each lemma's own. -/
import Derived.KernelRfl
import Derived.LaidEqlPtr
import Derived.Lib.SliceRun
import Derived.Maps.AppendAt
import Derived.OrdersIn
import Derived.StillTail
import Derived.TacticsIn
import Derived.WalkKit
import Derived.WalkLawsBesides
import Derived.WalkSpells
set_option linter.unusedVariables false
set_option linter.unusedSimpArgs false
set_option maxHeartbeats 2000000
set_option linter.defProp false
open List (range range' range'_succ toArray)
open Nat (ble blt lor)
open UInt8 (ofNat)
open Array (getD replicate)
open Go.Value (oneCell' ownBlock)
namespace Go.Proofs.YtoecbhljidgajaaGreat
open Go.RowKit
def N{p:Prop}(h:p:=by omega):=h
def aa{p:Prop}(h:p:=by simp):=h
theorem am{p:Prop}(h:p:=by decide):p:=h
theorem ap{p:Prop}(h:p:=by assumption):p:=h
def bb{p:Prop}(h:p:=by simp_all):=h
def D4:=@Option.some.inj
def O:=@if_pos
def X:=@if_neg
def O9:=@Go.Calls.mono
def x9:=@List.mem_cons_of_mem
def A9:=@List.mem_cons_self
def O5:=@List.map_cons
def E4:=@List.cons_append
def r3:=@Bool.and_eq_true
def ts:=@Nat.eq_of_beq_eq_true
def R2:=@Nat.sub_zero
def sy:=@List.getElem?_eq_some_iff
def r5:=@List.getElem?_eq_getElem
def tw:=@Nat.le_refl
def zc:=@Nat.le_trans
def y7:=@Nat.lt_of_lt_of_le
def D1:=@List.getElem?_drop
def G2:=@List.getElem?_take
def A6:=@List.eq_nil_of_length_eq_zero
def s8:=@List.length_append
def A7:=@List.mem_append
def D3:=@List.mem_append_left
def E3:=@List.mem_append_right
def C0:=@Go.run_underlying
def E8:=@Bool.eq_iff_iff
def T4:=@Go.Sem.run_bind
def Y2:=@Go.run_loadCells_list
def x7:=@List.length_cons
def L2:=@Nat.add_mul
def V7:=@Go.run_sliceAt_slice
def J7:=@UInt8.toNat_ofNat'
def J8:=@Int.natCast_nonneg
def K8:=@List.range_succ
def M0:=@List.countP_append
def u9:=@decide_eq_true_eq
def Hm:=@List.all_eq_true
def K2:=@List.mem_range
def H2:=@Bool.or_eq_true
def A3:=@Nat.zero_add
def M7:=@List.mem_map
def T2:=@List.mem_filter
def S6:=@Array.getElem?_eq_some_iff
def S9:=@Bool.not_eq_true'
def J2:=@decide_eq_false_iff_not
def o9:=@congrArg
def O0:=@Go.getD_replicate_false
def Y3:=@List.length_range
def v7:=@List.mem_cons
def G9:=@List.flatMap_cons
def K6:=@List.drop_eq_getElem_cons
def N6:=@List.take_append_of_le_length
def H4:=@Nat.zero_le
def E0:=@List.getElem?_append_left
def Q4:=@List.getElem?_append_right
def B1:=@List.length_set
def N9:=@List.getElem?_set_ne
variable{b a:Prop}
def aH(x:a)(y:b):=And.intro x y
def aI{c:Prop}(h:a->b->c):a/\b->c:=λx=>h x.1 x.2
theorem Y{p:Prop}(h:p:=by with_reducible assumption):p:=h
def cj{p:Prop}(h:p:=by kernel_rfl):=h
def aZ{p:Prop}(h:p:=by first|with_reducible rfl|with_reducible assumption|omega|(constructor<;>omega)):=h
def zqS{p:Prop}(h:p:=by repeat' first|(with_reducible first|apply aH|refine aI ?_|intro)|exact aZ|trivial|decide|simp_all;done|grind):=h
abbrev zqM(n:Nat):Prop:=n<=140737488355328
instance zqL{α:Type _}:CoeOut (List α) Nat:=⟨List.length⟩
abbrev Fr:=List (Nat×Value)
def look:Fr->Nat->Option Value
 |[],_=>none
 |(j,v)::r,i=>bif Nat.beq j i then some v else look r i
def ev(fr:Fr):Operand->Option Value
 |.tmp i=>look fr i
 |.const v=>some v
 |.global g=>some (.pointer (some ⟨g,0,none⟩))
 |.func f=>some (.func (.func f) #[] #[])
def M n(fr:Fr)(a:Act):=
 a.defers=[]/\a.tmps.size=n/\∀i v,look fr i=some v->i<n/\a.tmps.getD i undef=v
theorem M.ev{n:Nat}{fr:Fr}{a:Act}{x:Operand}{v:Value}(h:M n fr a)(d:ev fr x=some v):a.eval x=v:=by
 cases x with
 |tmp i=>exact(h.2.2 i v d).2
 |const c=>exact D4 d
 |global g=>exact D4 d
 |func f=>exact D4 d
variable{i:Nat}
theorem b_{j:Nat}{v:Value}{r:Fr}:look ((j,v)::r) i=if j=i then some v else look r i:=by
 show(bif Nat.beq j i then some v else look r i)=_;simp_all
theorem M.put{n d:Nat}{fr:Fr}{a:Act}{v:Value}(h:M n fr a)(k:blt d n=true):M n ((d,v)::fr) (a.put (some d) v):=by
 have c:d<n:=by simpa using k
 let⟨l,j,m⟩:=h;refine⟨l,by simp[Act.put,j],λi u e=>?_⟩;rw[b_]at e;by_cases f:d=i
 .subst f;rw[O rfl]at e;cases e;exact⟨c,by simp[Act.put,j,c]⟩
 rw[X f]at e;let⟨g,o⟩:=m i u e;refine⟨g,?_⟩;rw[<-o];simp[Act.put,f]
variable{n:Nat}{a:Act}
theorem M.at_{fr:Fr}{t:Nat}{v:Value}(h:M n fr a)(c:look fr t=some v):a.tmps[t]?.getD undef=v:=by
 have:=(h.2.2 t v c).2;simp_all
variable{fr':Fr}
def M.sub{fr:Fr}(h:M n fr a)(c:∀i v,look fr' i=some v->look fr i=some v):M n fr' a:=
 ⟨h.1,h.2.1,λi v d=>h.2.2 i v (c i v d)⟩
abbrev jd(c:Option Nat):Fence:={fn:=λ_=>True,depth:=none,alive:=false,round:=c}
def kr(a:Act)(c:List Deferred):={a with defers:=c}
def sZ(c:List Deferred)(Q:Exit->Act->World->Prop)(e:Exit)(a:Act)(w:World):=∃a0:Act,a0.defers=[]/\a=kr a0 c/\Q e a0 w
def mf(P:Program)(c:Code)(Q:Exit->Act->World->Prop)(a:Act)(w:World):=∀e d,c.wpIn (jd e) 0 P (sZ d Q) (kr a d) w
def OP(P:Program)(l:Array Oper)(Q:Exit->Act->World->Prop)(c:List Oper)(a:Act)(w:World):=∀e d,wpListIn (jd e) 0 P l (sZ d Q) c (kr a d) w
def ahg{c:Option Nat}:(jd c).room n:=λ_ h=>by cases h
def pJ(a:Act)(c:List Deferred):(kr a c).eval=a.eval:=by funext x;cases x<;>rfl
theorem vv(a:Act)(c:List Deferred)(d:Option Tmp)(v:Value):(kr a c).put d v=kr (a.put d v) c:=by cases d<;>rfl
theorem Qn{b:Act}{c:List Deferred}(h:kr a c=kr b c)(d:a.defers=[])(e:b.defers=[]):a=b:=by
 cases a;cases b;simp[kr]at h;grind
def HL(h:a.defers=[])(d:Option Tmp)(v:Value):(a.put d v).defers=[]:=by cases d<;>exact h
section prim
variable{P:Program}{Q:Exit->Act->World->Prop}{a:Act}{w:World}
def Nq(c:a.defers=[])(h:Q .normal a w):mf P .skip Q a w:=λ_ _=>wpIn_skip ⟨a,c,rfl,h⟩
def KJ{l:Nat}(c:a.defers=[])(h:Q .normal a w):mf P (.label l) Q a w:=λ_ _=>wpIn_label ⟨a,c,rfl,h⟩
def MA{id:Nat}(c:a.defers=[])(h:Q (.exit id) a w):mf P (.exit id) Q a w:=λ_ _=>wpIn_exit ⟨a,c,rfl,h⟩
def YV(c:a.defers=[])(h:Q .ret a w):mf P .ret Q a w:=λ_ _=>wpIn_ret ⟨a,c,rfl,h⟩
variable{x:Code}
def XP{y:Code}(h:mf P x (Exit.then (mf P y Q) Q) a w):mf P (.seq x y) Q a w:=λd f=>wpIn_seq (wpIn_mono (h d f) λe a w c=>by
 cases e with
 |normal=>obtain⟨a0,_,rfl,c⟩:=c;exact c d f
 |_=>exact c)
def Ln{id:Nat}{c:Code}(h:mf P c (Exit.inBlock id Q) a w):mf P (.block id c) Q a w:=λg k=>wpIn_block (wpIn_mono (h g k) λe a w d=>by
 cases e with
 |exit j=>
  obtain⟨a0,f,rfl,d⟩:=d;simp[Exit.inBlock]at d⊢;split
  next e=>rw[O e]at d;exact⟨a0,f,rfl,d⟩
  rename_i e;rw[X e]at d;exact⟨a0,f,rfl,d⟩
 |_=>exact d)
def Fg{id:Nat}{l:List Oper}(h:OP P l.toArray Q l a w):mf P (.region id l.toArray false) Q a w:=λc d=>wpIn_region_lit (h c d)
def vy{c:Operand}{y:Code}{t:Bool}(f:a.eval c=.bool t)(g:t=true->mf P x Q a w)(j:t=false->mf P y Q a w):mf P (.cond c x y) Q a w:=
 λd e=>wpIn_cond_split (by rw[pJ];exact f) (λh=>g h d e) (λh=>j h d e)
def xb{c:Operand}{y:Code}(d:a.eval c=.bool true)(h:mf P x Q a w):mf P (.cond c x y) Q a w:=λe f=>wpIn_cond_true (by rw[pJ];exact d) (h e f)
def uq{c:Operand}{y:Code}(d:a.eval c=.bool false)(h:mf P y Q a w):mf P (.cond c x y) Q a w:=λe f=>wpIn_cond_false (by rw[pJ];exact d) (h e f)
def Km{c:Code}(h:mf P c (Exit.noGoto Q) a w):mf P (.scope c) Q a w:=by
 intro z r b k g s t u;have j:(lone (b.atR (kr a r) (.code (.scope c)::k)) g w).fenced P (jd z):=fenced_calm t u rfl;have m:step P (lone (b.atR (kr a r) (.code (.scope c)::k)) g w)=.next (lone (b.atR (kr a r) (.code c:: .inScope c::k)) g w):=step_lone_go (by simp[stepG,stepG.exec,Frame.atR])
 have C:∀a w,step P (lone (b.atR a (.inScope c::k)) g w)=.next (lone (b.atR a k) g w):=λa w=>step_lone_go (by simp[stepG,stepG.exec,Frame.atR])
 obtain⟨e,A,f,⟨a0,p,rfl,o⟩,d⟩:=h z r b (.inScope c::k) g s t u;cases e with
 |normal=>exact⟨.normal,_,f,⟨a0,p,rfl,o⟩,.head j m (StepsIn.trans d (.one (fenced_calm t u rfl) (C _ _)))⟩
 |exit id=>
  have B:exitTo id (.inScope c::k)=exitTo id k:=by simp[exitTo]
  exact⟨.exit id,_,f,⟨a0,p,rfl,o⟩,λD v=>.head j m (d.1 D (by rw[B];exact v)),λy v=>let⟨q,F,G⟩:=d.2 y (by rw[B];exact v);⟨q,F,.head j m G⟩⟩
 |goto l=>exact o.elim
 |ret=>exact⟨_,_,f,⟨a0,p,rfl,o⟩,.of_steps (.one j m) d⟩
 |panic H=>exact⟨_,_,f,⟨a0,p,rfl,o⟩,.of_steps (.one j m) d⟩
 |outgrown=>exact⟨_,_,f,⟨a0,p,rfl,o⟩,.of_steps (.one j m) d⟩
def wi{σ:Type}{c:Code}(D:Act->World->σ->Prop)(v:σ->Nat)(K:σ)(n:D a w K)
  (j:∀s a w,D a w s->mf P c (λe a w=>match e with|.normal=>∃p,D a w p/\v p<v s|e=>Q e a w) a w):mf P (.loop c) Q a w:=by
 intro L A b k B C F G;have H:∀m,∀s a w,v s=m->D a w s->∃e y z,sZ A Q e y z/\ArrivesIn (Machine.fenced P (jd L)) P (lone (b.atR (kr a A) (.code c:: .inLoop c::k)) B w) b k B e y z:=by
  intro m;induction m using Nat.strongRecOn with
  |_ m S=>
   intro s a w T U;obtain⟨e,i,f,⟨a0,q,rfl,h⟩,d⟩:=j s a w U L A b (.inLoop c::k) B C F G;cases e with
   |normal=>
    let⟨p,I,J⟩:=h;let⟨r,t,u,o,g⟩:=S (v p) (T▸J) p a0 f rfl I;exact⟨r,t,u,o,.of_steps (StepsIn.trans d (.one (fenced_calm F G rfl) stepR_inLoop)) g⟩
   |exit id=>exact⟨_,_,f,⟨a0,q,rfl,h⟩,.pass (x:=.inLoop c) rfl (λ_ _=>.inl aa) d⟩
   |goto l=>exact⟨_,_,f,⟨a0,q,rfl,h⟩,.pass (x:=.inLoop c) rfl (λ_ _=>.inl aa) d⟩
   |ret=>exact⟨_,_,f,⟨a0,q,rfl,h⟩,.pass (x:=.inLoop c) rfl (λ_ _=>.inl aa) d⟩
   |panic V=>exact⟨_,_,f,⟨a0,q,rfl,h⟩,.pass (x:=.inLoop c) rfl (λ_ _=>.inl aa) d⟩
   |outgrown=>exact⟨_,_,f,⟨a0,q,rfl,h⟩,.pass (x:=.inLoop c) rfl (λ_ _=>.inl aa) d⟩
 let⟨e,y,z,h,d⟩:=H _ K a w rfl n;exact⟨e,y,z,h,.of_steps (.one (fenced_calm F G rfl) stepR_loop) d⟩
variable{ro:Option Nat}
def Od{f:FuncId}{args:Array Value}{R:Ending->World->Prop}(h:Calls P f args w R):CallsIn (jd ro) n P f args w R:=
 ⟨trivial,λc _=>let⟨e,d,fr,r,s,x⟩:=h c;⟨e,d,fr,r,comesIn_wide.2 s,x⟩⟩
def acV{c:Code}(f:a.defers=[])(h:mf P c Q a w):c.wp P Q a w:=by
 have d:=(wpIn_wide (n:=0)).1 (h none []);have e:kr a []=a:=by rw[kr,<-f]
 rw[e]at d;refine wp_mono d λe j k ⟨a0,g,l,m⟩=>?_;have o:kr a0 []=a0:=by rw[kr,<-g]
 grind
variable{o:Oper}
def akn{e:Operand->Value}{x:Next}{f:World}(h:(execOp e o).run P w=.ok x f)(j:∀d,x≠ .defer d):(o.semAt ro e).run P w=.ok x f:=by
 rw[Oper.semAt_eq]
 .exact h
 intro c k;rw[execOp.eq_def,k]at h;simp at h;cases g:(resolve e c o.type).run P w with
 |ok d l=>rw[g]at h;simp at h;exact j _ h.1.symm
 |halt d l=>rw[g]at h;cases h
def aaD(P:Program)(o:Oper)(a:Act)(K:Act->World->Prop):Result Next->Prop
 |.ok (.value v) c=>K (a.put o.dst v) c
 |.ok .skip c=>K (a.put o.dst undef) c
 |.ok (.enter f args) c=>Calls P f args c λe d=>∃v,e=.returned v/\K (a.put o.dst v) d
 |_=>False
def OG{K:Act->World->Prop}{r:Result Next}(h:aaD P o a K r):o.uponIn (jd ro) 0 P a K Q r:=by
 cases r with
 |ok x c=>
  cases x<;>first|exact h|exact h.elim|skip
  case enter f args=>exact⟨(λh=>by cases h),(Od h).mono λe d ⟨v,g,j⟩=>by subst g;exact j⟩
 |halt x c=>cases x<;>exact h.elim
def lf{l:Array Oper}{c:List Oper}(m:o.guard=none)(h:∀K:Act->World->Prop,(∀a w,OP P l Q c a w->K a w)->aaD P o a K ((execOp a.eval o).run P w)):OP P l Q (o::c) a w:=λro k=>
 wpListIn_plain m λK hK=>by
  refine⟨λ_ _=>trivial,?_⟩;rw[pJ];have g:=h (λa w=>OP P l Q c a w) (λ_ _ h=>h);have hK:∀(d:Option Tmp) (v:Value) w,OP P l Q c (a.put d v) w->K ((kr a k).put d v) w:=λd v w h=>by rw[vv];exact hK _ _ (h ro k)
  cases j:(execOp a.eval o).run P w with
  |ok x p=>
   rw[j]at g;have q:∀d,x≠ .defer d:=λd e=>by subst e;exact g.elim
   rw[akn j q];refine OG ?_;cases x<;>first|exact g.elim|exact hK _ _ _ g|skip
   case enter f args=>exact O9 g λe r ⟨v,s,t⟩=>⟨v,s,hK _ _ _ t⟩
  |halt x p=>rw[j]at g;exact g.elim
end prim
def WX(Q:Exit->Act->World->Prop)n(e:Exit)(fr:Fr)(w:World):=∀a,M n fr a->Q e a w
def WC(P:Program)(Q:Exit->Act->World->Prop)n(c:Code)(fr:Fr)(w:World):=∀a,M n fr a->mf P c Q a w
def WO(P:Program)(Q:Exit->Act->World->Prop)n(l c:List Oper)(fr:Fr)(w:World):=∀a,M n fr a->OP P l.toArray Q c a w
def mT(P:Program)(f:FuncId)(args:Array Value)(w:World)(c:Value->World->Prop):=Calls P f args w λe d=>∃v,e=.returned v/\c v d
def mT.mono{P:Program}{f:FuncId}{args:Array Value}{w:World}{c d:Value->World->Prop}(h:mT P f args w c)(g:∀v e,c v e->d v e):mT P f args w d:=
 O9 h λ_ _ ⟨v,j,k⟩=>⟨v,j,g _ _ k⟩
section rules
variable{P:Program}{Q:Exit->Act->World->Prop}{n:Nat}{fr:Fr}{w:World}
def WC.seq{x y:Code}(h:WC P (Exit.then (mf P y Q) Q) n x fr w):WC P Q n (.seq x y) fr w:=λa c=>XP (h a c)
def WC.skip(h:WX Q n .normal fr w):WC P Q n .skip fr w:=λa c=>Nq c.1 (h a c)
def WC.label{l:Nat}(h:WX Q n .normal fr w):WC P Q n (.label l) fr w:=λa c=>KJ c.1 (h a c)
def WC.exit{id:Nat}(h:WX Q n (.exit id) fr w):WC P Q n (.exit id) fr w:=λa c=>MA c.1 (h a c)
def WC.ret(h:WX Q n .ret fr w):WC P Q n .ret fr w:=λa c=>YV c.1 (h a c)
def WC.block{id:Nat}{c:Code}(h:WC P (Exit.inBlock id Q) n c fr w):WC P Q n (.block id c) fr w:=λa d=>Ln (h a d)
def WC.region{id:Nat}{l:List Oper}(h:WO P Q n l l fr w):WC P Q n (.region id l.toArray false) fr w:=λa c=>Fg (h a c)
def WC.cond{c:Operand}{x y:Code}{b:Bool}(e:ev fr c=some (.bool b))(f:b=true->WC P Q n x fr w)(g:b=false->WC P Q n y fr w):WC P Q n (.cond c x y) fr w:=
 λa d=>vy (d.ev e) (λh=>f h a d) (λh=>g h a d)
variable{x:Code}
def WC.Ob{c:Operand}{y:Code}(e:ev fr c=some (.bool true))(f:WC P Q n x fr w):WC P Q n (.cond c x y) fr w:=
 λa d=>xb (d.ev e) (f a d)
def WC.akl{c:Operand}{y:Code}(e:ev fr c=some (.bool false))(f:WC P Q n y fr w):WC P Q n (.cond c x y) fr w:=
 λa d=>uq (d.ev e) (f a d)
def WX.next{y:Code}(h:WC P Q n y fr w):WX (Exit.then (mf P y Q) Q) n .normal fr w:=h
def WX.y_{k:Act->World->Prop}(h:WX Q n .ret fr w):WX (Exit.then k Q) n .ret fr w:=h
def WX.Lr{id:Nat}(h:WX Q n .normal fr w):WX (Exit.inBlock id Q) n .normal fr w:=h
def WX.ac9{id:Nat}(h:WX Q n .normal fr w):WX (Exit.inBlock id Q) n (.exit id) fr w:=λa c=>by
 show(if id=id then Q .normal a w else _);rw[O rfl];exact h a c
def Has(fr:Fr):Fr->Prop
 |[]=>True
 |(i,v)::r=>(∃u,look fr i=some u/\u=v)/\Has fr r
theorem Has.look{fr:Fr}:∀{fr':Fr},Has fr fr'->∀i v,look fr' i=some v->look fr i=some v
 |(j,u)::r,h,i,v,c=>by
  rw[b_]at c;by_cases d:j=i
  .subst d;rw[O rfl]at c;cases c;obtain⟨f,e,rfl⟩:=h.1;exact e
  rw[X d]at c;exact Has.look h.2 i v c
variable{o:Oper}{K' K:Act->World->Prop}{m:Nat}{F:Fence}
def FW{j:Exit->Act->World->Prop}(hK:∀a w,K a w->K' a w)(k:∀e a w,e≠ .normal->Q e a w->j e a w)(h:o.wpIn F m P a w K Q):o.wpIn F m P a w K' j:=by
 refine⟨h.1,?_⟩;have h:=h.2;generalize(o.semAt F.round a.eval).run P w=r at*;have hE:∀(e:Ending) (d:World),(match e,d with|.returned v,d=>K (a.put o.dst v) d|.panicked f,d=>Q (.panic f) a d|.outgrown,_=>LetsOut Q)->
   (match e,d with|.returned v,d=>K' (a.put o.dst v) d|.panicked f,d=>j (.panic f) a d|.outgrown,_=>LetsOut j):=λe d g=>by
  cases e with
  |returned v=>exact hK _ _ g
  |panicked c=>exact k _ _ _ aa g
  |outgrown=>let⟨p,l,q⟩:=g;exact⟨p,l,k _ _ _ aa q⟩
 cases r with
 |ok x l=>
  cases x<;>simp[Oper.uponIn]at h⊢ <;>
   first
    |exact hK _ _ h
    |exact⟨h.1,CallsIn.mono h.2 hE⟩
    |exact⟨h.1,RowsIn.mono h.2 (λ_ _ g=>hK _ _ g)⟩
    |exact⟨h.1,RoundIn.mono h.2 hE⟩
 |halt x l=>cases x<;>simp[Oper.uponIn]at h⊢ <;>exact k _ _ _ aa h
theorem ju{F:Fence}{m:Nat}{l:Array Oper}{d:Exit->Act->World->Prop}{f:List Oper}(g:∀e a w,e≠ .normal->Q e a w->d e a w)(j:∀a w,Q .normal a w->wpListIn F m P l d f a w):∀(c:List Oper) {a:Act} {w:World},wpListIn F m P l Q c a w->wpListIn F m P l d (c++f) a w
 |[],_,_,h=>j _ _ h
 |o::c,a,w,h=>by
  simp[wpListIn]at h⊢;by_cases k:Region.wanted o (yielded l a.tmps)=true
  .rw[O k]at h⊢;exact FW (λa w h=>ju g j c h) g h
  simp_all[ju]
variable{t:Nat}
def HT{A:Act}(B:∀d,o.dst=some d->d≠t)(hK:∀y q,y.tmps[t]? =A.tmps[t]? ->K y q->K' y q)(h:o.wpIn F m P A w K Q):o.wpIn F m P A w K' Q:=by
 have k:∀(D:List Deferred) v,(({tmps:=A.tmps,defers:=D}:Act).put o.dst v).tmps[t]? =A.tmps[t]?:=λD v=>by
  cases C:o.dst with
  |none=>rfl
  |some d=>simp[Act.put,B d C]
 refine⟨h.1,?_⟩;have h:=h.2;generalize(o.semAt F.round A.eval).run P w=r at*;have hE:∀(e:Ending) (g:World),(match e,g with|.returned v,g=>K (A.put o.dst v) g|.panicked j,g=>Q (.panic j) A g|.outgrown,_=>LetsOut Q)->
   (match e,g with|.returned v,g=>K' (A.put o.dst v) g|.panicked j,g=>Q (.panic j) A g|.outgrown,_=>LetsOut Q):=λe g p=>by
  cases e with
  |returned v=>exact hK _ _ (k A.defers v) p
  |panicked c=>exact p
  |outgrown=>exact p
 cases r with
 |ok x q=>
  cases x<;>simp[Oper.uponIn]at h⊢;case value u=>exact hK _ _ (k A.defers _) h
  case skip=>exact hK _ _ (k A.defers _) h
  case defer=>exact hK _ _ (k _ _) h
  case enter f args=>exact⟨h.1,CallsIn.mono h.2 hE⟩
  case row r args=>exact⟨h.1,RowsIn.mono h.2 (λ_ _ p=>hK _ _ (k A.defers _) p)⟩
  case round l f tmps s z=>exact⟨h.1,RoundIn.mono h.2 hE⟩
 |halt x q=>cases x<;>simp[Oper.uponIn]at h⊢ <;>exact h
def OQ(j:Nat)(c:Bool)(o:Oper):=bif (match o.guard with|some (i,b)=>Nat.beq i j&&(b==c)|none=>false)then{o with guard:=none}else o
def sX{F:Fence}{m:Nat}{l:Array Oper}{j t:Nat}{wt:Bool}(C:∀A:Act,A.tmps[t]? =some (.bool wt)->yielded l A.tmps j=some wt){D s:Oper}{c:List Oper}
  (q:∀(A:Act) (w:World),A.tmps[t]? =some (.bool wt)->wpListIn F m P l Q (s::c) A w->wpListIn F m P l Q (D::c) A w):
  ∀(g:List Oper),(∀o∈g,∀d,o.dst=some d->d≠t)->∀(A:Act) (w:World),A.tmps[t]? =some (.bool wt)->wpListIn F m P l Q (g.map (OQ j wt)++s::c) A w->wpListIn F m P l Q (g++D::c) A w
 |[],_,A,w,k,h=>q A w k h
 |o::r,G,A,w,k,h=>by
  have u:=sX C q r λx H=>G x (x9 _ H);have p:=G o A9;rw[O5,E4]at h;rw[E4];by_cases f:(match o.guard with|some (i,b)=>Nat.beq i j&&(b==wt)|none=>false)=true
  .have e:OQ j wt o={o with guard:=none}:=by unfold OQ;rw[f];rfl
   rw[e]at h;unfold wpListIn at h⊢;have I:Region.wanted {o with guard:=none} (yielded l A.tmps)=true:=rfl;have J:Region.wanted o (yielded l A.tmps)=true:=by
    split at f
    next i b v=>simp only[r3,beq_iff_eq]at f;have L:=ts f.1;simp[Region.wanted,v,L,f.2,C A k]
    cases f
   rw[O I]at h;rw[O J];have h:=h;exact HT (o:=o) (t:=t) p (λy z e h=>u y z (e.trans k) h) h
  have e:OQ j wt o=o:=by unfold OQ;rw[Bool.not_eq_true]at f;rw[f];rfl
  rw[e]at h;unfold wpListIn at h⊢;split
  next B=>rw[O B]at h;exact HT (o:=o) (t:=t) p (λy z e h=>u y z (e.trans k) h) h
  rename_i B;rw[X B]at h;refine⟨h.1,u _ _ ?_ h.2⟩;cases a:o.dst with
  |none=>exact k
  |some d=>simp[Act.put,p d a,k]
def ag6{v:Value}(c:M n fr a)(d:look fr t=some v):a.tmps[t]? =some v:=by
 let⟨e,f⟩:=c.2.2 t v d;have:t<a.tmps.size:=by rw[c.2.1];exact e
 simp_all
def aW(P:Program)n(fr:Fr)(w:World)(e:Op)(f:TypeId)(v:Value)(h:World):=
 ∀a d c j g,M n fr a->(execOp a.eval ⟨d,e,f,c,j,g⟩).run P w=.ok (.value v) h
def jJ(P:Program)n(fr:Fr)(w:World)(e:Op)(f:TypeId)(h:World):=
 ∀a d c j g,M n fr a->(execOp a.eval ⟨d,e,f,c,j,g⟩).run P w=.ok .skip h
def Enters(P:Program)n(fr:Fr)(w:World)(e:Op)(h:TypeId)(f:FuncId)(args:Array Value):=
 ∀a d c j g,M n fr a->(execOp a.eval ⟨d,e,h,c,j,g⟩).run P w=.ok (.enter f args) w
variable{l rest:List Oper}{d:Nat}{op:Op}{ty:TypeId}{pos:String}{af:Array Edge}
def WO.nil(h:WX Q n .normal fr w):WO P Q n l [] fr w:=λa c _ _=>⟨a,c.1,rfl,h a c⟩
theorem WO.v{v:Value}{c:World}(h:aW P n fr w op ty v c)(f:blt d n=true)(k:WO P Q n l rest ((d,v)::fr) c):WO P Q n l (⟨some d,op,ty,pos,af,none⟩::rest) fr w:=λa e=>
 lf rfl λK hK=>by
  rw[h a _ _ _ _ e];exact hK _ _ (k _ (e.put f))
variable{w':World}
def WO.v0{v:Value}(h:aW P n fr w op ty v w')(k:WO P Q n l rest fr w'):WO P Q n l (⟨none,op,ty,pos,af,none⟩::rest) fr w:=λa c=>
 lf rfl λK hK=>by
  rw[h a _ _ _ _ c];exact hK _ _ (k _ c)
theorem WO.s(h:jJ P n fr w op ty w')(k:WO P Q n l rest fr w'):WO P Q n l (⟨none,op,ty,pos,af,none⟩::rest) fr w:=λa c=>
 lf rfl λK hK=>by
  rw[h a _ _ _ _ c];exact hK _ _ (k _ c)
variable{f:FuncId}{φ:Value->World->Prop}{args:Array Value}
theorem WO.c(h:Enters P n fr w op ty f args)(j:mT P f args w φ)(p:blt d n=true)(k:∀v w',φ v w'->WO P Q n l rest ((d,v)::fr) w'):
  WO P Q n l (⟨some d,op,ty,pos,af,none⟩::rest) fr w:=λa g=>
 lf rfl λK hK=>by
  rw[h a _ _ _ _ g];exact O9 j λe w' ⟨v,q,r⟩=>⟨v,q,hK _ _ (k v w' r _ (g.put p))⟩
def WO.c0(h:Enters P n fr w op ty f args)(g:mT P f args w φ)(k:∀v w',φ v w'->WO P Q n l rest fr w'):
  WO P Q n l (⟨none,op,ty,pos,af,none⟩::rest) fr w:=λa c=>
 lf rfl λK hK=>by
  rw[h a _ _ _ _ c];exact O9 g λe w' ⟨v,j,p⟩=>⟨v,j,hK _ _ (k v w' p _ c)⟩
def s5:List Oper->Nat->Option Nat
 |[],_=>none
 |o::_,0=>o.dst
 |_::r,i+1=>s5 r i
theorem nJ:∀(l:List Oper) j,s5 l j=(l[j]?).bind (·.dst)
 |[],_=>rfl
 |_::_,0=>rfl
 |_::r,i+1=>nJ r i
variable{b:Bool}{j:Nat}
def oG(c:M n fr a)(e:s5 l j=some t)(g:look fr t=some (.bool b)):yielded l.toArray a.tmps j=some b:=by
 let⟨h,k⟩:=c.2.2 t _ g;rw[nJ]at e;have p:a.tmps[t]? =some (.bool b):=by
  have:t<a.tmps.size:=by rw[c.2.1];exact h
  simp_all
 unfold yielded;grind
theorem WO.split{e g:List Oper}{wt:Bool}{x y:Operand}(s:s5 l j=some t)(u:look fr t=some (.bool wt))(k:∀o∈e,∀d,o.dst=some d->d≠t)
  (h:WO P Q n l (e.map (OQ j wt)++⟨some d,.move (cond wt x y),ty,pos,af,none⟩::g) fr w):WO P Q n l (e++⟨some d,.pick (.tmp t) x y,ty,pos,af,none⟩::g) fr w:=λa p v q=>by
 have z:=ag6 p u;refine sX (t:=t) (j:=j) (wt:=wt) (λA r=>?_) (λA w r h=>?_) e k _ _ (show(kr a q).tmps[t]? =some (.bool wt)from z) (h a p v q)
 .rw[nJ]at s;unfold yielded;grind
 unfold wpListIn at h⊢;have G:Region.wanted ⟨some d,.move (cond wt x y),ty,pos,af,none⟩ (yielded l.toArray A.tmps)=true:=rfl;have H:Region.wanted ⟨some d,.pick (.tmp t) x y,ty,pos,af,none⟩ (yielded l.toArray A.tmps)=true:=rfl;refine⟨λf B=>(by simp[Oper.about]at B),?_⟩;have h:=h.2;rw[Oper.semAt_eq _ _ _ (λc=>by simp)]at h⊢;have I:(execOp A.eval ⟨some d,.move (cond wt x y),ty,pos,af,none⟩).run P w=.ok (.value (A.eval (cond wt x y))) w:=by simp[execOp]
 have C:A.eval (.tmp t)=.bool wt:=by simp[Act.eval,r]
 have D:(execOp A.eval ⟨some d,.pick (.tmp t) x y,ty,pos,af,none⟩).run P w=.ok (.value (A.eval (cond wt x y))) w:=by
  cases wt<;>simp[execOp,C,asBool]
 rw[D];exact h
variable{b':Bool}
def WO.on{dst:Option Nat}(p:s5 l j=some t)(q:look fr t=some (.bool b'))(r:b'=b)(k:WO P Q n l (⟨dst,op,ty,pos,af,none⟩::rest) fr w):
  WO P Q n l (⟨dst,op,ty,pos,af,some (j,b)⟩::rest) fr w:=λa e s g=>by
 have h:=k a e s g;have c:=oG (l:=l) e p q;have u:yielded l.toArray (kr a g).tmps j=_:=c;simp[wpListIn,Region.wanted,u,r]at h⊢;exact h
def WO.off(h:s5 l j=some t)(p:look fr t=some (.bool b'))(s:b'= !b)(q:blt d n=true)(k:WO P Q n l rest ((d,undef)::fr) w):
  WO P Q n l (⟨some d,op,ty,pos,af,some (j,b)⟩::rest) fr w:=λa e r g=>by
 have u:=k _ (e.put q) r g;have c:=oG (l:=l) e h p;have v:yielded l.toArray (kr a g).tmps j=_:=c;simp[wpListIn,Region.wanted,vv];grind
def WO.al9(p:s5 l j=some t)(q:look fr t=some (.bool b'))(r:b'= !b)(k:WO P Q n l rest fr w):
  WO P Q n l (⟨none,op,ty,pos,af,some (j,b)⟩::rest) fr w:=λa g s h=>by
 have u:=k _ g s h;have c:=oG (l:=l) g p q;have v:yielded l.toArray (kr a h).tmps j=_:=c;have e:((some b':Option Bool)==some b)=false:=by subst r;cases b<;>rfl
 simp only[wpListIn,Region.wanted,v,e];exact⟨λ_ _=>trivial,u⟩
def ov(c:M n fr a)(e:s5 l j=some t)(g:look fr t=some undef):yielded l.toArray a.tmps j=none:=by
 let⟨h,q⟩:=c.2.2 t _ g;rw[nJ]at e;have k:a.tmps[t]? =some undef:=by
  have:t<a.tmps.size:=by rw[c.2.1];exact h
  simp_all
 unfold yielded;have p:((l.toArray[j]?).bind (·.dst))=some t:=by simpa using e
 rw[p];simp[k,undef]
def WO.ajv(h:s5 l j=some t)(p:look fr t=some undef)(q:blt d n=true)(k:WO P Q n l rest ((d,undef)::fr) w):
  WO P Q n l (⟨some d,op,ty,pos,af,some (j,b)⟩::rest) fr w:=λa e r g=>by
 have s:=k _ (e.put q) r g;have c:=ov (l:=l) e h p;have u:yielded l.toArray (kr a g).tmps j=_:=c;simp[wpListIn,Region.wanted,vv];grind
def WO.aa4(h:s5 l j=some t)(p:look fr t=some undef)(k:WO P Q n l rest fr w):
  WO P Q n l (⟨none,op,ty,pos,af,some (j,b)⟩::rest) fr w:=λa e q g=>by
 have r:=k _ e q g;have c:=ov (l:=l) e h p;have s:yielded l.toArray (kr a g).tmps j=_:=c;simp only[wpListIn,Region.wanted,s];exact⟨λ_ _=>trivial,r⟩
end rules
def uU:∀(c:List Value) (k i:Nat) (v:Value),look ((range' k c.length).zip c) i=some v->k<=i/\c[i-k]? =some v
 |u::c,k,i,v,h=>by
  simp[range'_succ]at h;rw[b_]at h;by_cases d:k=i
  .grind
  rw[X d]at h;let⟨e,f⟩:=uU c (k+1) i v h;grind
def xr:Nat->List Value->Fr
 |_,[]=>[]
 |k,v::r=>(k,v)::xr (k+1) r
theorem vD:∀(c:List Value) k,xr k c=(range' k c.length).zip c
 |[],_=>rfl
 |v::r,k=>by simp[xr,range'_succ,vD r (k+1)]
variable{P:Program}{w:World}
def mT.enter{f:FuncId}{d:Func}{c:Code}{args:List Value}{l:Value->World->Prop}{fr:Fr}(q:P.funcs[f]? =some d)(r:d.body=some c)(s:d.ntmps=n)
  (j:ble args.length n=true)(k:xr 0 args=fr)
  (h:WC P (bodyPost P d λe t=>∃v,e=.returned v/\l v t) n c fr w):mT P f args.toArray w l:=by
 subst s;have m:args.length<=d.ntmps:=by simpa using j
 refine calls_of_wp q r (acV rfl (h _ ⟨rfl,?_,λi v o=>?_⟩))
 .simp;omega
 rw[<-k,vD]at o;let⟨_,g⟩:=uU args 0 i v o;rw[R2]at g;have p:=(sy.1 g).1;have u:args[i]=v:=by rw[r5 p]at g;exact D4 g
 simp[getD,p,u];omega
section ends
variable{P:Program}{fn:Func}{φ:Value->World->Prop}{n:Nat}{fr:Fr}{w:World}
def WX.ado(h:WX (bodyPost P fn λe c=>∃v,e=.returned v/\φ v c) n .ret fr w):WX (bodyPost P fn λe c=>∃v,e=.returned v/\φ v c) n .normal fr w:=h
def WX.SK{v:Value}(h:∀a,M n fr a->(results fn a.tmps).run P w=.ok v w)(c:φ v w):WX (bodyPost P fn λe f=>∃v,e=.returned v/\φ v f) n .ret fr w:=
 λa d=>⟨d.1,v,h a d,v,rfl,c⟩
def WX.ajh(d:fn.results= #[])(c:φ (.tuple #[]) w):WX (bodyPost P fn λe f=>∃v,e=.returned v/\φ v f) n .ret fr w:=
 WX.SK (λa _=>by simp[results,d]) c
def WX.SW{t:Tmp}{v:Value}(d:fn.results= #[.tmp t])(f:look fr t=some v)(c:φ v w):WX (bodyPost P fn λe g=>∃v,e=.returned v/\φ v g) n .ret fr w:=
 WX.SK (λa h=>by simp[results,d,h.at_ f]) c
end ends
structure Kp(S:List Nat)(w w':World):Prop where
 os:w'.os=w.os
 tape:w'.tape=w.tape
 output:w'.output=w.output
 size:w.heap.size<=w'.heap.size
 block:∀b,b<w.heap.size->b∉S->w'.heap[b]? =w.heap[b]?
def Kp.refl(w:World):Kp [] w w:=⟨rfl,rfl,rfl,tw _,λ_ _ _=>rfl⟩
def Kp.trans{S T:List Nat}{a b c:World}(h:Kp S a b)(k:Kp T b c):Kp (S++T) a c:=
 ⟨k.os.trans h.os,k.tape.trans h.tape,k.output.trans h.output,zc h.size k.size,λi e d=>by
  simp at d;exact(k.block i (y7 e h.size) d.2).trans (h.block i e d.1)⟩
variable{b:World}{T S:List Nat}
def Kp.sub{a:World}(h:Kp S a b)(c:∀g∈S,g∈T):Kp T a b:=
 ⟨h.os,h.tape,h.output,h.size,λi d e=>h.block i d λf=>e (c i f)⟩
def Kp.step{a c:World}(h:Kp S a b)(k:Kp T b c)(f:∀g∈T,g∈S\/a.heap.size<=g):Kp S a c:=
 ⟨k.os.trans h.os,k.tape.trans h.tape,k.output.trans h.output,zc h.size k.size,λi d e=>(k.block i (y7 d h.size) λj=>by
  rcases f i j with h1|h1
  .exact e h1
  omega).trans (h.block i d e)⟩
variable{w':World}
def Kp.below(h:Kp [] w w'):Below w.heap.size w w':=⟨h.os,h.tape,h.output,h.size,λb c=>h.block b c aa⟩
def Kp.drew{S:List Nat}{a w:World}(h:Kp S a w):Kp S a w.drew:=⟨h.os,h.tape,h.output,h.size,h.block⟩
theorem Kp.alloc(w:World)(o:Obj):Kp [] w (w.alloc o):=⟨rfl,rfl,rfl,aa,λb c _=>Below.heap_alloc w o b c⟩
def Kp.KQ(h:w.grownBy w' none):Kp [] w w':=⟨h.os,h.tape,h.output,h.size,λb c _=>h.block b c aa⟩
section
variable{w w':World}{g:Nat}{t:TypeId}{cs:List Value}
end
def Kp.setRow(w:World)g(c:Array Value):Kp [g] w (w.setRow g c):=⟨rfl,rfl,rfl,aa,λb _ d=>setRow_other w g b c (by simpa using d)⟩
def j0(w:World)(a:Addr)(c:List Value):=∀j v,c[j]? =some v->w.cell? (a.add j)=some v
theorem add_add(a:Addr)(i j:Nat):(a.add i).add j=a.add (i+j):=by
 unfold Addr.add;grind
def iq(a:Addr)n:(a.add n).block=a.block:=by unfold Addr.add;split<;>rfl
theorem add_lit(g i j:Nat):(⟨g,i,none⟩:Addr).add j=⟨g,i+j,none⟩:=by unfold Addr.add;split<;>simp_all
section
variable{w w':World}{a:Addr}{cs:List Value}
def j0.dc(h:j0 w a cs)(k:w'.heap[a.block]? =w.heap[a.block]?):j0 w' a cs:=λj v c=>by
 exact(World.cell?_of_block (a:=a.add j) (by rw[iq];exact k)).trans (h j v c)
def j0.shift(h:j0 w a cs)i:j0 w (a.add i) (cs.drop i):=λj v c=>by
 rw[add_add];exact h _ _ (by rw[<-c,D1])
def j0.take(h:j0 w a cs)i:j0 w a (cs.take i):=λj v c=>h j v (by
 rw[G2]at c;split at c
 .exact c
 cases c)
theorem j0.one(h:j0 w a cs){j:Nat}{v:Value}(c:cs[j]? =some v):w.cell? (a.add j)=some v:=h j v c
def j0.nil:j0 w a []:=λj v c=>by simp at c
end
def W n:=-9223372036854775808<=n/\n<=9223372036854775807
inductive hY{α β:Type}(R:α->β->Prop):List α->List β->Prop
 |nil:hY R [] []
 |cons {a:α} {b:β} {asx:List α} {bs:List β}:R a b->hY R asx bs->hY R (a::asx) (b::bs)
section
variable{α β:Type}{R R':α->β->Prop}
def hY.imp{c:List α}{d:List β}(h:hY R c d)(e:∀a b,R a b->R' a b):hY R' c d:=by
 induction h with
 |nil=>exact .nil
 |cons h _ f=>exact .cons (e _ _ h) f
theorem hY.length{c:List α}{d:List β}(h:hY R c d):c.length=d.length:=by
 induction h with
 |nil=>rfl
 |cons _ _ e=>simp[e]
def hY.get{c:List α}{d:List β}(h:hY R c d):∀(i:Nat) (b:β),d[i]? =some b->∃a,c[i]? =some a/\R a b:=by
 induction h with
 |nil=>intro i b e;simp at e
 |cons h _ f=>
  grind
def hY.append{d c:List α}{f e:List β}(h:hY R d f)(g:hY R c e):hY R (d++c) (f++e):=by
 induction h with
 |nil=>exact g
 |cons h _ j=>exact .cons h j
def hY.take{c:List α}{d:List β}(h:hY R c d):∀n,hY R (c.take n) (d.take n):=by
 induction h with
 |nil=>intro n;simp;exact .nil
 |cons h _ e=>intro n;cases n with
  |zero=>exact .nil
  |succ n=>exact .cons h (e n)
def hY.drop{c:List α}{d:List β}(h:hY R c d):∀n,hY R (c.drop n) (d.drop n):=by
 induction h with
 |nil=>intro n;simp;exact .nil
 |cons h e f=>intro n;cases n with
  |zero=>exact .cons h e
  |succ n=>exact f n
def hY.set{c:List α}{d:List β}(h:hY R c d):∀i {a:α} {b:β},R a b->hY R (c.set i a) (d.set i b):=by
 induction h with
 |nil=>intro i a b _;exact .nil
 |cons h f g=>intro i a b e;cases i with
  |zero=>exact .cons e f
  |succ i=>exact .cons h (g i e)
end
class Rp(α:Type) where
 sz:Nat
 M8:Nat
 tid:TypeId
 rp:Bool->Nat->Nat->World->List Value->α->Prop
 len:∀{o lo hi w cs x},rp o lo hi w cs x->cs.length=sz
 one:∀{o lo hi w cs x},rp o lo hi w cs x->∀u∈cs,u.oneCell'=true
 dc:∀{o lo hi w w' cs x},rp o lo hi w cs x->(∀b,lo<=b->b<hi->w'.heap[b]? =w.heap[b]?)->rp o lo hi w' cs x
 mono:∀{o lo hi lo' hi' w cs x},rp o lo hi w cs x->lo'<=lo->hi<=hi'->rp o lo' hi' w cs x
 C4:∀{o lo hi w cs x},rp o lo hi w cs x->rp false lo hi w cs x
 inner:List TypeId
 mrk:Nat×Nat->Prop:=λfr=>fr=(0,0)
 xac:mrk (0,0):=by exact rfl
 y9:∀{o lo hi w w' cs x},rp o lo hi w cs x->(inner=[]\/o=true)->(∀b cur t fr,lo<=b->b<hi->w.heap[b]? =some (.cells cur t fr)->t∈inner->w'.heap[b]? =w.heap[b]?)->rp o lo hi w' cs x
def Sl{d:Type}[Rp d](o:Bool)(lo j:Nat)(w:World)(v:Value)(e:List d):=
 ∃a c f,v=.slice a e.length c/\e.length<=c/\(c<=maxLen/\e.length*Rp.M8 d<=140737488355328)/\hY (Rp.rp o lo j w) f e/\
  (e=[]\/∃A:Addr,a=some A/\lo<=A.block/\A.block<j/\j0 w A f.flatten)/\
  (o=true->c=0\/∃g h fr,a=some ⟨g,0,none⟩/\lo<=g/\g<j/\(w.heap[g]? =some (.cells h (Rp.tid d) fr)/\Rp.mrk d fr)/\h.size=c*Rp.sz d)
section
variable{α:Type}[Rp α]{o:Bool}{lo hi:Nat}{w w':World}{v:Value}{xs:List α}
def Sl.dc(h:Sl o lo hi w v xs)(k:∀b,lo<=b->b<hi->w'.heap[b]? =w.heap[b]?):Sl o lo hi w' v xs:=by
 let⟨a,c,f,j,l,m,p,g,s⟩:=h;refine⟨a,c,f,j,l,m,p.imp λ_ _ h=>Rp.dc h k,?_,λt=>?_⟩
 .rcases g with g|⟨A,q,d,e,r⟩
  .grind
  exact .inr ⟨A,q,d,e,r.dc (k _ d e)⟩
 grind
def Sl.mono{d e:Nat}(h:Sl o lo hi w v xs)(g:d<=lo)(j:hi<=e):Sl o d e w v xs:=by
 let⟨a,c,f,k,l,m,p,q,r⟩:=h;refine⟨a,c,f,k,l,m,p.imp λ_ _ h=>Rp.mono h g j,?_,λs=>?_⟩
 .grind
 grind
def Sl.C4(h:Sl o lo hi w v xs):Sl false lo hi w v xs:=by
 let⟨a,c,d,e,f,g,j,k,_⟩:=h;exact⟨a,c,d,e,f,g,j.imp λ_ _ h=>Rp.C4 h,k,λl=>by cases l⟩
def Sl.y9(h:Sl true lo hi w v xs)(k:∀b d t fr,lo<=b->b<hi->w.heap[b]? =some (.cells d t fr)->t∈Rp.tid α::Rp.inner α->w'.heap[b]? =w.heap[b]?):Sl true lo hi w' v xs:=by
 let⟨a,c,j,u,x,y,p,q,z⟩:=h;refine⟨a,c,j,u,x,y,p.imp λ_ _ h=>Rp.y9 h (.inr rfl) λb d t fr B C D F=>k b d t fr B C D (x9 _ F),?_,λ_=>?_⟩
 .rcases q with q|⟨A,r,l,m,G⟩
  .grind
  refine .inr ⟨A,r,l,m,?_⟩;rcases z rfl with J|⟨g,d,fr,s,e,f,H,K⟩
  .have I:xs=[]:=A6 N;subst I;cases p;exact j0.nil
  rw[r]at s;cases s;exact G.dc (k _ _ _ _ e f H.1 aa)
 grind
def Sl.form(h:Sl o lo hi w v xs):∃a c,v=.slice a xs.length c/\xs.length<=c/\c<=maxLen:=by
 let⟨a,c,d,e,f,g,_⟩:=h;grind
theorem Sl.one(h:Sl o lo hi w v xs):v.oneCell'=true:=by
 obtain⟨a,c,rfl,_⟩:=h.form;rfl
end
instance:Rp Int where
 sz:=1
 M8:=8
 tid:=3
 rp _ _ _ _ cs x:=cs=[.int .i64 x]/\W x
 len h:=by rw[h.1];rfl
 one h:=by rw[h.1];simp[oneCell']
 dc h _:=h
 mono h _ _:=h
 C4 h:=h
 inner:=[]
 y9 h _ _:=h
instance:Rp Bool where
 sz:=1
 M8:=1
 tid:=4
 rp _ _ _ _ cs x:=cs=[.bool x]
 len h:=by rw[h];rfl
 one h:=by rw[h];simp[oneCell']
 dc h _:=h
 mono h _ _:=h
 C4 h:=h
 inner:=[]
 y9 h _ _:=h
instance:Rp UInt8 where
 sz:=1
 M8:=1
 tid:=5
 rp _ _ _ _ cs x:=cs=[.int .u8 x.toNat]
 len h:=by rw[h];rfl
 one h:=by rw[h];simp[oneCell']
 dc h _:=h
 mono h _ _:=h
 C4 h:=h
 mrk _:=True
 xac:=trivial
 inner:=[]
 y9 h _ _:=h
structure z8 where
 n:Nat
deriving DecidableEq
instance:Rp z8 where
 sz:=1
 M8:=8
 tid:=193
 rp _ _ _ _ cs x:=cs=[.int .u64 x.n]/\x.n<18446744073709551616
 len h:=by rw[h.1];rfl
 one h:=by rw[h.1];simp[oneCell']
 dc h _:=h
 mono h _ _:=h
 C4 h:=h
 inner:=[]
 y9 h _ _:=h
structure n9 where
 b:List UInt8
deriving DecidableEq
def n9.val(s:n9):Value:=.string ⟨s.b.toArray⟩
instance:Rp n9 where
 sz:=1
 M8:=16
 tid:=9
 rp _ _ _ _ cs x:=cs=[x.val]/\x.b.length<=140737488355328
 len h:=by rw[h.1];rfl
 one h:=by rw[h.1];simp[oneCell',n9.val]
 dc h _:=h
 mono h _ _:=h
 C4 h:=h
 inner:=[]
 y9 h _ _:=h
instance(priority:=low) listRp{α:Type}[Rp α]:Rp (List α) where
 sz:=1
 M8:=24
 tid:=0
 rp o lo hi w cs xs:=∃v,cs=[v]/\Sl o lo hi w v xs
 len h:=by obtain⟨v,rfl,_⟩:=h;rfl
 one h:=by obtain⟨v,rfl,h⟩:=h;simp[h.one]
 dc h k:=by obtain⟨v,rfl,h⟩:=h;exact⟨v,rfl,h.dc k⟩
 mono h h1 h2:=by obtain⟨v,rfl,h⟩:=h;exact⟨v,rfl,h.mono h1 h2⟩
 C4 h:=by obtain⟨v,rfl,h⟩:=h;exact⟨v,rfl,h.C4⟩
 inner:=Rp.tid α::Rp.inner α
 y9 h ho k:=by
  obtain⟨v,rfl,h⟩:=h
  have ho':=ho.resolve_left (by simp)
  subst ho'
  exact⟨v,rfl,h.y9 k⟩
instance pairRp{α β:Type}[Rp α][Rp β]:Rp (α×β) where
 M8:=0
 sz:=Rp.sz α+Rp.sz β
 tid:=0
 rp o lo hi w cs x:=∃c1 c2,cs=c1++c2/\Rp.rp o lo hi w c1 x.1/\Rp.rp o lo hi w c2 x.2
 len h:=by obtain⟨c1,c2,rfl,h1,h2⟩:=h;rw[s8,Rp.len h1,Rp.len h2]
 one h:=by
  obtain⟨c1,c2,rfl,h1,h2⟩:=h
  intro u hu
  rcases A7.1 hu with hu|hu
  .exact Rp.one h1 u hu
  .exact Rp.one h2 u hu
 dc h k:=by obtain⟨c1,c2,rfl,h1,h2⟩:=h;exact⟨c1,c2,rfl,Rp.dc h1 k,Rp.dc h2 k⟩
 mono h ha hb:=by obtain⟨c1,c2,rfl,h1,h2⟩:=h;exact⟨c1,c2,rfl,Rp.mono h1 ha hb,Rp.mono h2 ha hb⟩
 C4 h:=by obtain⟨c1,c2,rfl,h1,h2⟩:=h;exact⟨c1,c2,rfl,Rp.C4 h1,Rp.C4 h2⟩
 inner:=Rp.inner α++Rp.inner β
 y9 h ho k:=by
  obtain⟨c1,c2,rfl,h1,h2⟩:=h
  exact⟨c1,c2,rfl,Rp.y9 h1 (ho.imp (λh=>(List.append_eq_nil_iff.1 h).1) id) λb cur t fr a1 a2 a3 a4=>k b cur t fr a1 a2 a3 (D3 _ a4),
   Rp.y9 h2 (ho.imp (λh=>(List.append_eq_nil_iff.1 h).2) id) λb cur t fr a1 a2 a3 a4=>k b cur t fr a1 a2 a3 (E3 _ a4)⟩
section
variable{α:Type}[Rp α]{o:Bool}{lo hi:Nat}{w w':World}{cs:List Value}{x:α}
variable{v:Value}{xs:List α}
end
theorem W.wrap{x:Int}(h:W x):IntKind.i64.wrap x=x:=IntWalk.i64_in x ⟨h.1,h.2⟩
variable{m:Nat}
def Ep(h:m<256):IntKind.u8.wrap m=m:=by
 simp only[IntKind.wrap,IntKind.bits,IntKind.signed];simp;omega
section
variable{P:Program}{n:Nat}{fr:Fr}{w:World}{x y z:Operand}{ty t t':TypeId}
def R.move{v:Value}(c:ev fr x=some v):aW P n fr w (.move x) ty v w:=λa _ _ _ _ d=>by simp[execOp,d.ev c]
def R.assign{v:Value}(c:ev fr x=some v):aW P n fr w (.assign x) ty v w:=λa _ _ _ _ d=>by simp[execOp,d.ev c]
variable{b:Bool}
def R.Pf{v:Value}(d:ev fr z=some (.bool b))(e:b=true)(f:ev fr x=some v):aW P n fr w (.pick z x y) ty v w:=λa _ _ _ _ c=>by
 subst e;simp[execOp,c.ev d,c.ev f,asBool]
def R.NY{v:Value}(d:ev fr z=some (.bool b))(e:b=false)(f:ev fr y=some v):aW P n fr w (.pick z x y) ty v w:=λa _ _ _ _ c=>by
 subst e;simp[execOp,c.ev d,c.ev f,asBool]
def R.not{b:Bool}(c:ev fr x=some (.bool b)):aW P n fr w (.unOp .not t x) ty (.bool (!b)) w:=λa _ _ _ _ d=>by
 simp[execOp,d.ev c,Op.unary]
section ints
variable{k:IntKind}{a b:Int}
def R.lss(d:ev fr x=some (.int k a))(e:ev fr y=some (.int k b)):aW P n fr w (.binOp .lss t x y t') ty (.bool ((a<b))) w:=λ_ _ _ _ _ c=>by
 simp[execOp,c.ev d,c.ev e,eqGuard_lss,binOp_lss]
def R.leq(d:ev fr x=some (.int k a))(e:ev fr y=some (.int k b)):aW P n fr w (.binOp .leq t x y t') ty (.bool ((a<=b))) w:=λ_ _ _ _ _ c=>by
 simp[execOp,c.ev d,c.ev e,eqGuard_leq,binOp_leq]
def R.gtr(d:ev fr x=some (.int k a))(e:ev fr y=some (.int k b)):aW P n fr w (.binOp .gtr t x y t') ty (.bool ((b<a))) w:=λ_ _ _ _ _ c=>by
 simp[execOp,c.ev d,c.ev e,eqGuard_gtr,binOp_gtr]
def R.geq(d:ev fr x=some (.int k a))(e:ev fr y=some (.int k b)):aW P n fr w (.binOp .geq t x y t') ty (.bool ((b<=a))) w:=λ_ _ _ _ _ c=>by
 simp[execOp,c.ev d,c.ev e,eqGuard_geq,binOp_geq]
theorem R.eql(d:ev fr x=some (.int k a))(e:ev fr y=some (.int k b)):aW P n fr w (.binOp .eql t x y t') ty (.bool ((a=b))) w:=λ_ _ _ _ _ c=>by
 simp[execOp,c.ev d,c.ev e,binOp_eql];rfl
theorem R.neq(d:ev fr x=some (.int k a))(e:ev fr y=some (.int k b)):aW P n fr w (.binOp .neq t x y t') ty (.bool (!(a=b))) w:=λ_ _ _ _ _ c=>by
 simp[execOp,c.ev d,c.ev e,binOp_neq];rfl
def R.ZD(d:ev fr x=some (.int k a))(e:ev fr y=some (.int k b)):aW P n fr w (.binOp .add t x y t') ty (.int k (k.wrap (a+b))) w:=λ_ _ _ _ _ c=>by
 simp[execOp,c.ev d,c.ev e,eqGuard_add,binOp_add,Op.intArith]
def R.ak5(d:ev fr x=some (.int k a))(e:ev fr y=some (.int k b)):aW P n fr w (.binOp .sub t x y t') ty (.int k (k.wrap (a-b))) w:=λ_ _ _ _ _ c=>by
 simp[execOp,c.ev d,c.ev e,eqGuard_sub,binOp_sub,Op.intArith]
def R.ajQ(d:ev fr x=some (.int k a))(e:ev fr y=some (.int k b)):aW P n fr w (.binOp .mul t x y t') ty (.int k (k.wrap (a*b))) w:=λ_ _ _ _ _ c=>by
 simp[execOp,c.ev d,c.ev e,eqGuard_mul,binOp_mul,Op.intArith]
theorem R.add(c:ev fr x=some (.int .i64 a))(d:ev fr y=some (.int .i64 b))(h:W (a+b)):aW P n fr w (.binOp .add t x y t') ty (.int .i64 (a+b)) w:=by
 have:=R.ZD (P:=P) (n:=n) (w:=w) (ty:=ty) (t:=t) (t':=t') c d;rwa[h.wrap]at this
def R.sub(c:ev fr x=some (.int .i64 a))(d:ev fr y=some (.int .i64 b))(h:W (a-b)):aW P n fr w (.binOp .sub t x y t') ty (.int .i64 (a-b)) w:=by
 have:=R.ak5 (P:=P) (n:=n) (w:=w) (ty:=ty) (t:=t) (t':=t') c d;rwa[h.wrap]at this
def R.mul(c:ev fr x=some (.int .i64 a))(d:ev fr y=some (.int .i64 b))(h:W (a*b)):aW P n fr w (.binOp .mul t x y t') ty (.int .i64 (a*b)) w:=by
 have:=R.ajQ (P:=P) (n:=n) (w:=w) (ty:=ty) (t:=t) (t':=t') c d;rwa[h.wrap]at this
def R.conv{c:IntKind}{d:TypeDesc}(e:ev fr x=some (.int k a))(f:P.underlying t=some d)(g:P.underlying t'=some (.int c)):aW P n fr w (.convert t t' x) ty (.int c (c.wrap a)) w:=λ_ _ _ _ _ h=>by
 simp[execOp,h.ev e,convert,C0 f,C0 g,Conv.intToInt]
variable{asx:Array TypeId}
def R.min2(d:ev fr x=some (.int k a))(e:ev fr y=some (.int k b)):aW P n fr w (.call {callee:=.builtin .min,args:=#[x,y],argTypes:=asx}) ty (.int k (min a b)) w:=λ_ _ _ _ _ c=>by
 simp[execOp,resolve,invoke,builtin,c.ev d,c.ev e,run_min_int2];split<;>omega
def R.max2(d:ev fr x=some (.int k a))(e:ev fr y=some (.int k b)):aW P n fr w (.call {callee:=.builtin .max,args:=#[x,y],argTypes:=asx}) ty (.int k (max a b)) w:=λ_ _ _ _ _ c=>by
 simp[execOp,resolve,invoke,builtin,c.ev d,c.ev e,run_max_int2];split<;>omega
def R.Ee{a b:Nat}(c:ev fr x=some (.int .i64 a))(d:ev fr y=some (.int .i64 b))(h:a+b<=9223372036854775807):aW P n fr w (.binOp .add t x y t') ty (.int .i64 (a+b:Nat)) w:=by
 have:=R.add (P:=P) (n:=n) (w:=w) (ty:=ty) (t:=t) (t':=t') c d ⟨N,N⟩;grind
def R.arl{a b:Nat}(c:ev fr x=some (.int .i64 a))(d:ev fr y=some (.int .i64 b))(h:b<=a)(e:a<=9223372036854775807):aW P n fr w (.binOp .sub t x y t') ty (.int .i64 (a-b:Nat)) w:=by
 have:=R.sub (P:=P) (n:=n) (w:=w) (ty:=ty) (t:=t) (t':=t') c d ⟨N,N⟩;grind
def R.Xg{a b:Nat}(f:ev fr x=some (.int k a))(g:ev fr y=some (.int k b))(h:0<b):aW P n fr w (.binOp .rem t x y t') ty (.int k (a%b:Nat)) w:=λ_ _ _ _ _ d=>by
 have c:¬b=0:=by omega
 have e:(a:Int).tmod b=(a%b:Nat):=by rw[Int.tmod_eq_emod_of_nonneg N];omega
 simp[execOp,d.ev f,d.ev g,eqGuard_rem,binOp_rem,Op.intDiv,c,e]
def R.Ya{a b:Nat}(e:ev fr x=some (.int k a))(f:ev fr y=some (.int k b))(h:0<b)(g:k.wrap (a/b:Nat)=(a/b:Nat)):aW P n fr w (.binOp .quo t x y t') ty (.int k (a/b:Nat)) w:=λ_ _ _ _ _ d=>by
 have c:¬b=0:=by omega
 simp[execOp,d.ev e,d.ev f,eqGuard_quo,binOp_quo,Op.intDiv,c];simpa using g
def R.aeu{b:UInt8}{d:TypeDesc}(c:ev fr x=some (.int .u8 b.toNat))(e:P.underlying t=some d)(f:P.underlying t'=some (.int .i64)):aW P n fr w (.convert t t' x) ty (.int .i64 b.toNat) w:=by
 have:=R.conv (P:=P) (n:=n) (w:=w) (ty:=ty) c e f
 have g:=b.toNat_lt;rwa[W.wrap ⟨N,N⟩]at this
def R.ajz{a b:UInt8}(g:ev fr x=some (.int .u8 a.toNat))(h:ev fr y=some (.int .u8 b.toNat)):aW P n fr w (.binOp .and t x y t') ty (.int .u8 ((a&&&b).toNat:Int)) w:=λ_ _ _ _ _ d=>by
 have e:bits .and .u8 a.toNat b.toNat=((a&&&b).toNat:Int):=by
  have f:∀c:UInt8,(BitVec.ofInt 8 c.toNat)=c.toBitVec:=λc=>by
   simp_all
  show IntKind.u8.wrap ((BitVec.ofInt 8 a.toNat&&&BitVec.ofInt 8 b.toNat).toNat:Int)=_;rw[f,f,<-UInt8.toBitVec_and];have:=(a&&&b).toNat_lt;exact Ep this
 simp[execOp,d.ev g,d.ev h,eqGuard_and,binOp_and,intBits_and,e]
end ints
variable{a:Bool}
def R.ar5(d:ev fr x=some (.bool a))(e:ev fr y=some (.bool b))(f:P.underlying t=some .bool):aW P n fr w (.binOp .eql t x y t') ty (.bool (a==b)) w:=λ_ _ _ _ _ c=>by
 simp[execOp,c.ev d,c.ev e,eqGuard_at_bool,run_eql_bool _ _ _ _ f]
def R.anT(d:ev fr x=some (.bool a))(e:ev fr y=some (.bool b))(f:P.underlying t=some .bool):aW P n fr w (.binOp .neq t x y t') ty (.bool (!(a==b))) w:=λ_ _ _ _ _ c=>by
 simp[execOp,c.ev d,c.ev e,eqGuard_at_bool,run_neq_bool _ _ _ _ f]
variable{b a:n9}
def R.apR(d:ev fr x=some a.val)(f:ev fr y=some b.val):aW P n fr w (.binOp .eql t x y t') ty (.bool ((a=b))) w:=λ_ _ _ _ _ c=>by
 have e:(a.b==b.b)=decide (a=b):=by
  rw[E8];cases a;cases b;simp
 simp[execOp,c.ev d,c.ev f,n9.val,eqGuard_at_string,binOp,Op.stringOp,e]
def R.aq8(d:ev fr x=some a.val)(f:ev fr y=some b.val):aW P n fr w (.binOp .neq t x y t') ty (.bool (!(a=b))) w:=λ_ _ _ _ _ c=>by
 have e:(a.b==b.b)=decide (a=b):=by
  rw[E8];cases a;cases b;simp
 simp[execOp,c.ev d,c.ev f,n9.val,eqGuard_at_string,binOp,Op.stringOp,e]
theorem R.extract{c:Array Value}{v:Value}{i:Nat}(d:ev fr x=some (.tuple c))(e:c[i]? =some v):aW P n fr w (.extract x i) ty v w:=λ_ _ _ _ _ f=>by
 simp[execOp,f.ev d,Instr.extract,e]
def R.sA{a:Addr}(c:ev fr x=some (.pointer (some a))):aW P n fr w (.nilCheck x) ty (.pointer (some a)) w:=λ_ _ _ _ _ d=>by
 simp[execOp,d.ev c]
def R.Lc{f:FuncId}{a c:Array Value}(d:ev fr x=some (.func (.func f) a c)):aW P n fr w (.nilCheck x) ty (.func (.func f) a c) w:=λ_ _ _ _ _ e=>by
 simp[execOp,e.ev d]
theorem R.makeFunc{f:FuncId}{c:Array Operand}{cv:Array Value}(h:∀a,M n fr a->c.map a.eval=cv):aW P n fr w (.makeFunc (.func f) #[] c) ty (.func (.func f) #[] cv) w:=λ_ _ _ _ _ d=>by
 simp[execOp,Instr.makeFunc,h _ d]
theorem R.len{a:Option Addr}{m c:Nat}{e:TypeId}(d:ev fr x=some (.slice a m c))(f:P.underlying t=some (.slice e)):aW P n fr w (.call {callee:=.builtin .len,args:=#[x],argTypes:=#[t]}) ty (.int .i64 m) w:=λ_ _ _ _ _ g=>by
 simp[execOp,resolve,invoke,builtin,g.ev d,Builtin.len_,C0 f,goInt]
def R.an9{s:n9}(c:ev fr x=some s.val)(d:P.underlying t=some .string):aW P n fr w (.call {callee:=.builtin .len,args:=#[x],argTypes:=#[t]}) ty (.int .i64 s.b.length) w:=λ_ _ _ _ _ e=>by
 simp[execOp,resolve,invoke,builtin,e.ev c,Builtin.len_,C0 d];rfl
variable{e:TypeId}{a:Option Addr}
def R.TZ{c:Nat}(f:ev fr x=some (.slice a m c))(g:ev fr y=some (.slice none 0 0))(h:P.underlying t=some (.slice e)):aW P n fr w (.binOp .eql t x y t') ty (.bool a.isNone) w:=λ_ _ _ _ _ d=>by
 simp[execOp,d.ev f,d.ev g,eqGuard_at_slice,Lib.run_eql_slice_nil w t e a m c 0 0 h]
def R.Uy{c:Nat}(f:ev fr x=some (.slice a m c))(g:ev fr y=some (.slice none 0 0))(h:P.underlying t=some (.slice e)):aW P n fr w (.binOp .neq t x y t') ty (.bool (!a.isNone)) w:=λ_ _ _ _ _ d=>by
 simp[execOp,d.ev f,d.ev g,eqGuard_at_slice,run_neq_slice_nil_any w t e a m c 0 0 h]
def R.build{d:Array (Nat×Operand)}{pv:List (Nat×Value)}{c:Array Value}(f:∀a,M n fr a->(d.map λp=>(p.1,a.eval p.2))=pv.toArray)(g:P.built t pv=some c):
  aW P n fr w (.build t d) ty (.agg c) w:=λ_ _ _ _ _ h=>by
 have j:=run_build (P:=P) w t pv.toArray c (by simpa using g);simp[execOp,f _ h,j]
def mn:TypeDesc->Bool|.struct _=>true|.array _ _=>true|_=>false
theorem nZ{d:TypeDesc}(c:P.underlying t=some d)(w:World):(isAgg t).run P w=.ok (mn d) w:=by
 unfold isAgg;rw[T4,C0 c w];cases d<;>rfl
variable{a:Addr}
theorem DM{v:Value}{d:TypeDesc}(c:P.underlying t=some d)(f:mn d=false)(g:w.cell? a=some v):(loadVar t a).run P w=.ok v w:=by
 simp[loadVar,nZ c,f,g]
variable{cs:List Value}
theorem CP{d:TypeDesc}(g:P.underlying t=some d)(h:mn d=true)(f:(P.info? t).map (·.size)=some cs.length)(j:j0 w a cs):(loadVar t a).run P w=.ok (.agg cs.toArray) w:=by
 cases c:P.info? t with
 |none=>simp[c]at f
 |some i=>
  have k:i.size=cs.length:=by simpa[c] using f
  simp[loadVar,nZ g,h,sizeOf,typeInfo,c,k,Y2 (P:=P) w a cs j]
def R.ZY{v:Value}{d:TypeDesc}(c:ev fr x=some (.pointer (some a)))(f:P.underlying t=some d)(g:mn d=false)(h:w.cell? a=some v):aW P n fr w (.load t x) ty v w:=λ_ _ _ _ _ j=>by
 simp[execOp,j.ev c,Instr.loadAt,Instr.sureAddr,DM f g h]
def R.aaO{d:TypeDesc}(c:ev fr x=some (.pointer (some a)))(f:P.underlying t=some d)(g:mn d=true)(h:(P.info? t).map (·.size)=some cs.length)(j:j0 w a cs):
  aW P n fr w (.load t x) ty (.agg cs.toArray) w:=λ_ _ _ _ _ k=>by
 simp[execOp,k.ev c,Instr.loadAt,Instr.sureAddr,CP f g h j]
theorem uC{f:Field}{s:Nat}(d:(P.info? f.type).map (·.size)=some (s+1)):(fieldPlace a f).run P w=.ok (a.add f.offset) w:=by
 cases c:P.info? f.type with
 |none=>simp[c]at d
 |some i=>
  have:i.size=s+1:=by simpa[c] using d
  simp[fieldPlace,sizeOf,typeInfo,c,this]
def R.fieldAddr{a:Addr}{c:Array Field}{i j s:Nat}{f:Field}(d:ev fr x=some (.pointer (some a)))(g:P.underlying t=some (.struct c))(h:c[i]? =some f)(k:f.offset=j)(l:(P.info? f.type).map (·.size)=some (s+1)):
  aW P n fr w (.fieldAddr t x i) ty (.pointer (some (a.add j))) w:=λ_ _ _ _ _ o=>by
 subst k;simp[execOp,o.ev d,Instr.fieldAt,C0 g,h,Instr.sureAddr,uC l]
def R.indexAddr{a:Option Addr}{A:Addr}{m c:Nat}{k:IntKind}{i:Int}{e:TypeId}{s:Nat}(h:ev fr x=some (.slice a m c))(j:ev fr y=some (.int k i))(l:P.underlying t=some (.slice e))(f:(P.info? e).map (·.size)=some s)
  (o:a=some A)(p:0<=i)(r:i<m):aW P n fr w (.indexAddr t x y) ty (.pointer (some (A.add (i.toNat*s)))) w:=λ_ _ _ _ _ g=>by
 subst o;cases d:P.info? e with
 |none=>simp[d]at f
 |some q=>
  have:q.size=s:=by simpa[d] using f
  simp[execOp,g.ev h,g.ev j,Instr.indexAt,C0 l,asIntOf,p,r,sizeOf,typeInfo,d,this]
def R.lL{a:Option Addr}{A:Addr}{c:Nat}{k:IntKind}{s:Nat}(d:ev fr x=some (.slice a m c))(f:ev fr y=some (.int k i))(g:P.underlying t=some (.slice e))(h:(P.info? e).map (·.size)=some s)
  (j:a=some A)(l:i<m):aW P n fr w (.indexAddr t x y) ty (.pointer (some (A.add (i*s)))) w:=by
 have:=R.indexAddr (P:=P) (n:=n) (w:=w) (ty:=ty) d f g h j N N;grind
variable{Q:Exit->Act->World->Prop}{l rest:List Oper}{d:Nat}{pos:String}{af:Array Edge}
def UL(fr:Fr):List Operand->Option (List Value)
 |[]=>some []
 |x::r=>
  match ev fr x,UL fr r with
  |some v,some c=>some (v::c)
  |_,_=>none
theorem qB{a:Act}(g:M n fr a):∀{j:List Operand} {c:List Value},UL fr j=some c->j.map a.eval=c
 |[],c,h=>by simp[UL]at h;subst h;rfl
 |x::r,c,h=>by
  simp[UL]at h;split at h
  next v k o f=>cases h;simp[g.ev o,qB g f]
  cases h
def Qk(fr:Fr):List (Nat×Operand)->Option (List (Nat×Value))
 |[]=>some []
 |(i,x)::r=>
  match ev fr x,Qk fr r with
  |some v,some c=>some ((i,v)::c)
  |_,_=>none
theorem zA{a:Act}(g:M n fr a):∀{j:List (Nat×Operand)} {c:List (Nat×Value)},Qk fr j=some c->j.map (λp=>(p.1,a.eval p.2))=c
 |[],c,h=>by simp[Qk]at h;subst h;rfl
 |(i,x)::r,c,h=>by
  simp[Qk]at h;split at h
  next v k o f=>cases h;simp[g.ev o,zA g f]
  cases h
def R.sg{c:List (Nat×Operand)}{pv:List (Nat×Value)}{cells:Array Value}(f:Qk fr c=some pv)(g:P.built t pv=some cells):aW P n fr w (.build t c.toArray) ty (.agg cells) w:=
 R.build (pv:=pv) (λa h=>by simp[<-zA h f]) g
def uD s:∀(f:List (List Value)) k (pre post:List Value),(∀vs∈f,vs.length=s)->pre.length=k*s->post.length=f.length*s->∀pv,pv.map (λp=>(p.1,p.2.cells.toList))=(range' k f.length).zip f->
  Instr.fill (λi=>some (i*s,s)) (pre++post).toArray pv=some (pre++f.flatten).toArray
 |[],k,pre,post,_,_,g,pv,h=>by
  have:pv=[]:=by simpa using h
  subst this;have:post=[]:=by simpa using g
  subst this;simp[Instr.fill]
 |vs::f,k,pre,post,B,o,g,[],h=>by simp at h
 |vs::f,k,pre,post,B,o,g,(i,v)::pv,h=>by
  simp[range'_succ]at h;let⟨⟨J,G⟩,h⟩:=h;subst J;have q:=B vs aa;have C:v.cells.size=s:=by rw[<-Array.length_toList,G,q]
  have A:post.length=s+f.length*s:=by rw[g,x7,L2];omega
  have D:∀(r:List Value) j (a b:List Value),r.length<=b.length->a.length=i*s+j->
    (r.zipIdx j).foldl (λcs (c:Value×Nat)=>cs.setIfInBounds (i*s+c.2) c.1) (a++b).toArray=(a++r++b.drop r.length).toArray:=by
   intro r;induction r with
   |nil=>intro j a b _ _;simp
   |cons u r K=>
    intro j a b H U;cases b with
    |nil=>simp at H
    |cons L b=>
     simp only[List.zipIdx_cons,List.foldl_cons];have:((a++L::b).toArray.setIfInBounds (i*s+j) u)=((a++[u])++b).toArray:=by simp_all
     rw[this,K (j+1) (a++[u]) b (by simpa using H) (by simp;omega)];simp
  have F:v.cells.zipIdx.foldl (λcs (c:Value×Nat)=>cs.setIfInBounds (i*s+c.2) c.1) (pre++post).toArray=((pre++vs)++post.drop s).toArray:=by
   have I:=D vs 0 pre post N N;rw[q]at I;have d:v.cells=vs.toArray:=by simp[<-G]
   rw[<-I,d];simp
  simp only[Instr.fill,C,ne_eq,not_true_eq_false];rw[X (by simp[o,A])];have:=uD s f (i+1) (pre++vs) (post.drop s) (λx e=>B x (by simp[e])) (by simp[o,q,L2]) (by simp[A]) pv (by simpa using h);refine Eq.trans ?_ (this.trans aa);congr 1
end
def Cn:∀{pre fr:Fr} {i:Nat},(∀p∈pre,p.1≠i)->look (pre++fr) i=look fr i
 |[],_,_,_=>rfl
 |(j,v)::r,fr,i,h=>by
  rw[E4,b_,X (h (j,v) aa)];exact Cn λp c=>h p (by simp[c])
section
variable{P:Program}{Q:Exit->Act->World->Prop}{n:Nat}{fr:Fr}{w:World}
end
def oK{c:Type}{d:List c}{x:c}(h:d[i]? =some x):=(sy.1 h).1
def j0.kp{a:Addr}{d:List Value}(h:j0 w a d)(k:Kp S w w')(c:a.block<w.heap.size)(e:∀g∈S,g≠a.block):=
 h.dc (k.block _ c λf=>e _ f rfl)
def vb{b c:Bool}(h:b=c):Value.bool b=.bool c:=by rw[h]
def Ac{c:Type}[Rp c]lo(j:Bool)(f h k:Nat)(w:World)(v:Value)(e:List c):=
 e.length*Rp.M8 c<=140737488355328/\∃d,((e=[]/\∃a,v=.slice a 0 0)\/(w.ownsRow lo (Rp.tid c) (Rp.sz c) v e.length d.flatten/\∀g,v.ownBlock=some g->g<k))/\hY (Rp.rp j f h w) d e
def ob:Value->List Nat
 |.slice (some a) _ c=>if c=0 then[]else[a.block]
 |_=>[]
def Ad{v:Value}{g:Nat}(h:g∈ob v):v.ownBlock=some g:=by
 cases v<;>simp[ob]at h;rename_i a n c;cases a with
 |none=>simp at h
 |some a=>
  simp only at h;split at h
  .simp at h
  simp at h;simp[ownBlock,h]
section
variable{α:Type}[Rp α]{lo lo2 hi2 hi:Nat}{o o2:Bool}{w w':World}{v:Value}{xs ys:List α}
def FG{e:TypeId}{s:Nat}{f:List Value}(h:w.ownsRow lo e s v n f)(k:∀g,v.ownBlock=some g->w'.heap[g]? =w.heap[g]?):w'.ownsRow lo e s v n f:=by
 refine⟨h.1,?_⟩;rcases h.2 with q|⟨g,c,d,j,l,p,r⟩
 .grind
 exact .inr ⟨g,c,d,j,l,(k g (by simp[j,ownBlock])).trans p,r⟩
def Ac.dc(h:Ac lo o2 lo2 hi2 hi w v xs)(k:∀b,lo<=b->b<hi->w'.heap[b]? =w.heap[b]?)(j:∀b,lo2<=b->b<hi2->w'.heap[b]? =w.heap[b]?):Ac lo o2 lo2 hi2 hi w' v xs:=by
 let⟨l,d,c,p⟩:=h;refine⟨l,d,?_,p.imp λ_ _ h=>Rp.dc h j⟩;rcases c with q|⟨c,e⟩
 .grind
 exact .inr ⟨FG c λg f=>k g (c.lt g f).1 (e g f),e⟩
def Ac.mono{f d e j:Nat}(h:Ac lo o2 lo2 hi2 hi w v xs)(a:f<=lo)(b:d<=lo2)(t:hi2<=e)(c:hi<=j):Ac f o2 d e j w v xs:=by
 let⟨u,l,k,x⟩:=h;refine⟨u,l,?_,x.imp λ_ _ h=>Rp.mono h b t⟩;rcases k with y|⟨k,z⟩
 .grind
 refine .inr ⟨⟨k.1,?_⟩,λg s=>y7 (z g s) c⟩;rcases k.2 with y|⟨g,p,q,A,s,r⟩
 .grind
 exact .inr ⟨g,p,q,A,N,r⟩
def Ac.C4(h:Ac lo o2 lo2 hi2 hi w v xs):Ac lo false lo2 hi2 hi w v xs:=by
 let⟨d,c,e,f⟩:=h;exact⟨d,c,e,f.imp λ_ _ h=>Rp.C4 h⟩
end
def tQ{e:TypeId}{s b:Nat}{z:List Value}(h:(P.info? e).map (λi=>(i.zero.map Value.cells,i.size,i.bytes))=some (some z.toArray,s,b)):
  ∃i c,P.info? e=some i/\i.zero=some c/\c.cells=z.toArray/\i.size=s/\i.bytes=b:=by
 cases d:P.info? e with
 |none=>simp[d]at h
 |some i=>
  simp_all
section
variable{P:Program}{n:Nat}{fr:Fr}{w:World}{x y:Operand}{ty t:TypeId}{Q:Exit->Act->World->Prop}{l rest:List Oper}{d:Nat}{pos:String}{af:Array Edge}
variable{α:Type}[Rp α]{lo lo2 hi2 hi:Nat}{o2:Bool}{v:Value}{xs ys:List α}
end
section
variable{P:Program}{Q:Exit->Act->World->Prop}{n:Nat}{fr:Fr}{w:World}{x y:Operand}{ty t:TypeId}{l rest:List Oper}{d:Nat}{pos:String}{af:Array Edge}
variable{α:Type}[Rp α]{lo lo2 hi2 hi:Nat}{o2:Bool}{xs:List α}
def yp(a:Addr):a.add 0=a:=by simp[Addr.add_zero']
variable{kh kl:IntKind}{a' a:Option Addr}{z' z:Operand}{e:TypeId}{j:Nat}
def R.I_{c s:Nat}(u:ev fr x=some (.slice a m c))(v:ev fr z=some (.int kl i))(g:ev fr z'=some (.int kh j))(h:P.underlying t=some (.slice e))(r:(P.info? e).map (·.size)=some s)
  (A:(if c=i then a else a.map (·.add (i*s)))=a')(B:i<=j)(D:j<=c):aW P n fr w (.slice t x (some z) (some z') none) ty (.slice a' (j-i) (c-i)) w:=λ_ _ _ _ _ f=>by
 subst A;cases k:P.info? e with
 |none=>simp[k]at r
 |some q=>
  have o:q.size=s:=by simpa[k] using r
  have p:P.elem t=e:=by simp[Program.elem,h]
  have C:=V7 (P:=P) w t (.slice a m c) (some (.int kl i)) (some (.int kh j)) none (by rw[p];exact h);have:=run_slice_lh (P:=P) w t a m c (by rw[p];exact h) kl kh i j N N N;simp[execOp,f.ev u,f.ev v,f.ev g,C,this,p,sizeOf,typeInfo,k,o,sliced]
def R.rY{c s:Nat}(p:ev fr x=some (.slice a m c))(g:ev fr z'=some (.int kh j))(h:P.underlying t=some (.slice e))(r:(P.info? e).map (·.size)=some s)
  (u:(if c=0 then a else a.map (·.add (0*s)))=a')(A:j<=c):aW P n fr w (.slice t x none (some z') none) ty (.slice a' (j-0) (c-0)) w:=λ_ _ _ _ _ f=>by
 subst u;cases o:P.info? e with
 |none=>simp[o]at r
 |some q=>
  have k:P.elem t=e:=by simp[Program.elem,h]
  have v:=V7 (P:=P) w t (.slice a m c) none (some (.int kh j)) none (by rw[k];exact h);have:=run_slice_h (P:=P) w t a m c (by rw[k];exact h) kh j N N;simp[execOp,f.ev p,f.ev g,v,this,k,sizeOf,typeInfo,o,sliced]
def R.iZ{c s:Nat}(r:ev fr x=some (.slice a m c))(u:ev fr z=some (.int kl i))(g:P.underlying t=some (.slice e))(p:(P.info? e).map (·.size)=some s)
  (v:(if c=i then a else a.map (·.add (i*s)))=a')(B:i<=m):aW P n fr w (.slice t x (some z) none none) ty (.slice a' (m-i) (c-i)) w:=λ_ _ _ _ _ f=>by
 subst v;cases h:P.info? e with
 |none=>simp[h]at p
 |some q=>
  have k:q.size=s:=by simpa[h] using p
  have o:P.elem t=e:=by simp[Program.elem,g]
  have A:=V7 (P:=P) w t (.slice a m c) (some (.int kl i)) none none (by rw[o];exact g);have:=run_slice_l (P:=P) w t a m c (by rw[o];exact g) kl i N N;simp[execOp,f.ev r,f.ev u,A,this,o,sizeOf,typeInfo,h,k,sliced]
def n9.cut(s:n9)(i j:Nat):n9:=⟨(s.b.drop i).take (j-i)⟩
theorem n9.yG(s:n9)(i j:Nat):(Value.string ((⟨s.b.toArray⟩:ByteArray).extract i j))=(s.cut i j).val:=by
 simp[n9.cut];congr 1;apply ByteArray.ext;simp_all
def R.aqi{s:n9}(g:ev fr x=some s.val)(f:ev fr z'=some (.int kh j))(h:P.underlying t=some .string)(o:j<=s.b.length):
  aW P n fr w (.slice t x none (some z') none) ty (s.cut 0 j).val w:=λ_ _ _ _ _ c=>by
 have k:=run_sliceAt_string (P:=P) w t (.string ⟨s.b.toArray⟩) none (some (.int kh j)) none h;have:=run_slice_string_h (P:=P) w t ⟨s.b.toArray⟩ h kh j N (by show j<=((s.b.toArray.size:Nat):Int);simp;omega);rw[<-n9.yG s 0 j];simp[n9.val]at g;simp[execOp,c.ev g,c.ev f,k,this]
def wrap_u8(a:Nat):IntKind.u8.wrap a=(((ofNat a).toNat:Nat):Int):=by
 rw[J7];show(a:Int)%256=_;omega
variable{a:Nat}
def wrap_u64(h:a<18446744073709551616):IntKind.u64.wrap a=a:=by
 show(a:Int)%18446744073709551616=_;omega
variable{k:IntKind}{dd:TypeDesc}{t':TypeId}
def R.ae1(c:ev fr x=some (.int k a))(f:P.underlying t=some dd)(g:P.underlying t'=some (.int .u8)):aW P n fr w (.convert t t' x) ty (.int .u8 (((ofNat a).toNat:Nat):Int)) w:=by
 have:=R.conv (P:=P) (n:=n) (w:=w) (ty:=ty) c f g
 rwa[wrap_u8]at this
def R.Ou(c:ev fr x=some (.int k a))(f:P.underlying t=some dd)(g:P.underlying t'=some (.int .u64))(h:a<18446744073709551616):aW P n fr w (.convert t t' x) ty (.int .u64 a) w:=by
 have:=R.conv (P:=P) (n:=n) (w:=w) (ty:=ty) c f g
 rwa[wrap_u64 h]at this
def R.an7{a b:UInt8}(h:ev fr x=some (.int .u8 a.toNat))(o:ev fr y=some (.int .u8 b.toNat)):aW P n fr w (.binOp .or t x y t') ty (.int .u8 ((a|||b).toNat:Int)) w:=λ_ _ _ _ _ f=>by
 have e:bits .or .u8 a.toNat b.toNat=((a|||b).toNat:Int):=by
  have g:∀c:UInt8,(BitVec.ofInt 8 c.toNat)=c.toBitVec:=λc=>by
   simp_all
  show IntKind.u8.wrap ((BitVec.ofInt 8 a.toNat|||BitVec.ofInt 8 b.toNat).toNat:Int)=_;rw[g,g,<-UInt8.toBitVec_or];have:=(a|||b).toNat_lt;exact Ep this
 simp[execOp,f.ev h,f.ev o,eqGuard_or,binOp_or,intBits_or,e]
def R.Rk{f:IntKind}{b:Nat}(g:ev fr x=some (.int k a))(h:ev fr y=some (.int f b))(o:b<=k.bits):aW P n fr w (.binOp .shr t x y t') ty (.int k (a/2^b:Nat)) w:=λ_ _ _ _ _ c=>by
 have e:a/2^min (b:Int).toNat k.bits=((a/2^b:Nat):Int):=by grind
 simp[execOp,c.ev g,c.ev h,eqGuard_shr,binOp_shr,shift_shr_any _ _ _ _ (J8 b)];simpa using e
end
structure Sp where
 B8:List Nat
 S:List Nat
 V:Value->World->Prop
def Sp.ex(B8:List Nat)(c:Value):Sp:=⟨B8,[],λu _=>u=c⟩
def u1(c:List Sp)i:=c.getD i ⟨[],[],λ_ _=>True⟩
def Je:List Sp->List Nat
 |[]=>[]
 |s::r=>s.S++Je r
def yY:List Sp->Nat->List Nat
 |[],_=>[]
 |_::r,0=>Je r
 |s::r,i+1=>s.S++yY r i
def mZ(l:List Oper)(fr:Fr)(c:Nat->Value):List Nat->Fr
 |[]=>fr
 |j::r=>match s5 l j with
  |some d=>(d,c j)::mZ l fr c r
  |none=>mZ l fr c r
def ki(c:List Sp)(d:Nat->Value)(w:World):List Nat->Prop
 |[]=>True
 |j::r=>(u1 c j).V (d j) w/\ki c d w r
def xG(a:Nat)(d?:Option Nat)(S:List Nat)(V:Value->World->Prop)(w:World):Exit->Act->World->Prop:=
 λe c w'=>e=.normal/\c.defers=[]/\∃v,(∀d,d?=some d->d<a/\c.tmps.getD d undef=v)/\V v w'/\Kp S w w'
def WX.cE{a d:Nat}{V:Value->World->Prop}{fr:Fr}{v:Value}(h:look fr d=some v)(e:V v w')(f:Kp S w w'):WX (xG a (some d) S V w) a .normal fr w':=
 λ_ c=>⟨rfl,c.1,v,λj g=>by cases g;exact c.2.2 _ _ h,e,f⟩
variable{Q:Exit->Act->World->Prop}
def WO.fq{l c:List Oper}{fr:Fr}(d:Has fr fr')(h:WO P Q n l c fr' w):WO P Q n l c fr w:=λa e=>h a (e.sub d.look)
def gK(o:Oper):=(o.after.toList.filter (Region.binds .any ·)).map (·.on)
def cr(l:List Oper)(i:Nat):List Nat:=match l[i]? with|some o=>gK o|none=>[]
def GY(l:List Oper)(e:List Sp)(c:List Nat)n:=
  (n<=l.length)&&(e.length=n)&&
  ((range n).all λi=>(cr l i).all (λj=>(j<i))&&
    (u1 e i).B8.all (λj=>(j<i)&&((cr l i).contains j||(cr l i).any (λk=>(u1 e k).B8.contains j)))&&
    (match s5 l i with
     |some d=>!c.contains d&&(range n).all (λj=>j==i||s5 l j !=some d)
     |none=>true))&&
  (((n=l.length))||(Region.sinkB .any l.toArray n&&Region.chainB .any l.toArray n))&&
  Region.seqB .any l.toArray (l.length-n) n ((replicate n true)++(replicate (l.length-n) false))
def Pk{x y:Array Bool}(c:x.size=y.size)(h:∀i,i<x.size->x.getD i false=y.getD i false):x=y:=by
 apply Array.ext c;simp_all
def countP_set{p q:Nat->Bool}(c:i<n)(d:p i=true)(e:q i=false)(h:∀j,j≠i->q j=p j):(range n).countP q+1=(range n).countP p:=by
 induction n with
 |zero=>omega
 |succ n f=>
  rw[K8,M0,M0];by_cases g:i=n
  .grind[List.countP_congr]
  grind
def Dk{F:Fence}{o:Oper}{K p:Act->World->Prop}{q:Exit->Act->World->Prop}{r:Result Next}(h:o.uponIn F m P a K Q r)(hK:∀v w,K (a.put o.dst v) w->p (a.put o.dst v) w)(A:∀d w,¬K ({a with defers:=d::a.defers}.put o.dst undef) w)
  (t:∀e a w,e≠ .normal->¬Q e a w):o.uponIn F m P a p q r:=by
 have hE:∀(e:Ending) (g:World),(match e,g with|.returned v,g=>K (a.put o.dst v) g|.panicked j,g=>Q (.panic j) a g|.outgrown,_=>LetsOut Q)->
   (match e,g with|.returned v,g=>p (a.put o.dst v) g|.panicked j,g=>q (.panic j) a g|.outgrown,_=>LetsOut q):=λe g s=>by
  cases e with
  |returned v=>exact hK _ _ s
  |panicked c=>exact absurd s (t _ _ _ aa)
  |outgrown=>let⟨D,w',B⟩:=s;exact absurd B (t _ _ _ aa)
 cases r with
 |ok x w'=>
  cases x<;>simp[Oper.uponIn]at h⊢;case value u=>exact hK _ _ h
  case skip=>exact hK _ _ h
  case defer d=>exact absurd h (A _ _)
  case enter f args=>exact⟨h.1,CallsIn.mono h.2 hE⟩
  case row r args=>exact⟨h.1,RowsIn.mono h.2 λv g C=>hK _ _ C⟩
  case round l f y k z=>exact⟨h.1,RoundIn.mono h.2 hE⟩
 |halt x w'=>
  cases x<;>simp[Oper.uponIn]at h⊢;grind
def nh{F:Fence}{m:Nat}{P:Program}{ops:Array Oper}{md:Region.Mode}{Q':Exit->Act->World->Prop}:∀(l:List Oper) k (c:Array Bool) (a:Act) (w:World),(∀j,l[j]? =ops[k+j]?)->
  Region.seqB md ops l.length k c=true->wpListIn F m P ops Q' l a w->wpAnyIn F m P md ops Q' l.length c a w
 |[],_,_,_,_,_,d,h=>⟨by simpa[Region.seqB] using d,h⟩
 |o::l,k,c,a,w,f,d,h=>by
  have q:ops[k]? =some o:=by simpa using(f 0).symm
  simp[Region.seqB]at d;refine⟨λg=>(by rw[d.1]at g;cases g),λi p=>?_⟩;rw[d.1]at p;have e:i=k:=by simpa using p
  subst e;have r:wpOpIn F m P ops Q' i (wpListIn F m P ops Q' l) a w:=by unfold wpOpIn;simp[q];exact h
  exact wpOpIn_mono (λs w' t=>nh l (i+1) _ s w' (λj=>by have:=f (j+1);simpa[Nat.add_assoc,Nat.add_comm 1 j] using this) d.2 t) r
def uX:∀{sp:List Sp} {i j:Nat},i<sp.length->i≠j->∀g∈(u1 sp i).S,g∈yY sp j
 |s::r,0,j+1,_,_,g,c=>D3 _ c
 |s::r,i+1,0,d,_,g,c=>by
  have:∀(r:List Sp) i,i<r.length->g∈(u1 r i).S->g∈Je r:=by
   intro r;induction r with
   |nil=>intro i d;simp at d
   |cons s r e=>
    intro i d c;cases i with
    |zero=>exact D3 _ c
    |succ i=>exact E3 _ (e i (by simpa using d) c)
  exact this r i (by simpa using d) c
 |s::r,i+1,j+1,d,f,g,c=>E3 _ (uX (sp:=r) (by simpa using d) N g c)
def BT:∀{r:List Sp} {i:Nat},i<r.length->∀g∈(u1 r i).S,g∈Je r
 |s::r,0,_,g,c=>D3 _ c
 |s::r,i+1,d,g,c=>E3 _ (BT (by simpa using d) g c)
section
variable{P:Program}{Q:Exit->Act->World->Prop}{v6 n id:Nat}{l:List Oper}{sp:List Sp}{fr:Fr}{w:World}
structure xaa(v6 n:Nat)(l:List Oper)(sp:List Sp)(fr:Fr)(w0:World)(listed:Array Bool)(a:Act)(w:World):Prop where
 head:HeadInv .any l.toArray n listed
 clo:∀i,i<n->listed.getD i false=true->∀j∈(u1 sp i).B8,listed.getD j false=true
 fr:M v6 fr a
 X2:∃vs:Nat->Value,∀i,i<n->listed.getD i false=true->(∀d,s5 l i=some d->d<v6/\a.tmps.getD d undef=vs i)/\(u1 sp i).V (vs i) w
 kp:∃S,Kp S w0 w/\∀g∈S,∃i,i<n/\listed.getD i false=true/\g∈(u1 sp i).S
def oH{a:Act}(c:M v6 fr a){vs:Nat->Value}:∀g,(∀j∈g,∀d,s5 l j=some d->d<v6/\a.tmps.getD d undef=vs j)->M v6 (mZ l fr vs g) a
 |[],_=>c
 |j::r,h=>by
  have e:=oH c (vs:=vs) r λj k=>h j (x9 _ k);unfold mZ;split
  .rename_i d p;refine⟨e.1,e.2.1,λi v f=>?_⟩;rw[b_]at f;by_cases o:d=i
   .grind
   rw[X o]at f;exact e.2.2 i v f
  exact e
def oJ{c:Nat->Value}{w:World}:∀d,(∀j∈d,(u1 sp j).V (c j) w)->ki sp c w d
 |[],_=>trivial
 |j::r,h=>⟨h j aa,oJ r λj e=>h j (x9 _ e)⟩
def WC.draw(hm:P.follows .mixedOrders=true)(sp:List Sp)(n:Nat)(hB:GY l sp (fr.map (·.1)) n=true)
    (stab:∀i,i<n->∀v w w',(u1 sp i).V v w->Kp (yY sp i) w w'->(u1 sp i).V v w')
    (ops:∀i o,i<n->l[i]? =some o->∀K C,Kp (yY sp i) w C->ki sp K C (u1 sp i).B8->WO P (xG v6 (s5 l i) (u1 sp i).S (u1 sp i).V C) v6 l [o] (mZ l fr K (u1 sp i).B8) C)
    (tail:∀K C,Kp (Je sp) w C->ki sp K C (range n)->WO P Q v6 l (l.drop n) (mZ l fr K (range n)) C):WC P Q v6 (.region id l.toArray true) fr w:=by
  intro a ha ro L;simp only[GY,r3,u9,Hm,K2,H2]at hB;obtain⟨⟨⟨⟨hnl,hsp⟩,H⟩,hsc⟩,hseq⟩:=hB;refine wpIn_region_any hm ?_;have main:∀f c a C,(range n).countP (λi=>!c.getD i false)=f->xaa v6 n l sp fr w c a C->wpAnyIn (jd ro) 0 P .any l.toArray (sZ L Q) (f+(l.length-n)) c (kr a L) C:=by
    intro f;induction f with
    |zero=>
      intro c a C hc inv;have V:∀i,i<n->c.getD i false=true:=λi G=>by
        have:=List.countP_eq_zero.1 hc i (K2.2 G);simpa using this
      have b:c=replicate n true++replicate (l.length-n) false:=by
        have E:=inv.head.size;refine Pk (by rw[E];simp;omega) λi G=>?_;rw[E]at G;have hi':i<l.length:=by simpa using G
        by_cases m3:i<n
        · rw[V i m3,Array.getD_eq_getD_getElem?,Array.getElem?_append_left (by simpa using m3)]
          simp[m3]
        have h2:=inv.head.tail i N G;have h3:=getD_both h2;rw[h3,Array.getD_eq_getD_getElem?,Array.getElem?_append_right (by simp;omega)];simp[Array.size_replicate,Array.getElem?_replicate];split<;>rfl
      rw[<-b]at hseq;obtain⟨K,hv⟩:=inv.X2;obtain⟨S,T,hS⟩:=inv.kp;have hM:=oH inv.fr _ λj s d U=>(hv j (K2.1 s) (V j (K2.1 s))).1 d U;have ht:=tail K C (T.sub λg hg=>by
        obtain⟨i,G,_,h⟩:=hS g hg;exact BT N g h) (oJ _ λj s=>(hv j (K2.1 s) (V j (K2.1 s))).2) a hM ro L
      have hdl:(l.drop n).length=l.length-n:=by simp
      have:=nh (F:=jd ro) (m:=0) (P:=P) (md:=.any) (ops:=l.toArray) (Q':=sZ L Q) (l.drop n) n c (kr a L) C (λj=>by simp[D1]) (by rw[hdl];exact hseq) ht;rw[hdl]at this;rw[A3];exact this
    |succ f ih=>
      intro c a C hc inv;have hex:∃i,i<n/\c.getD i false=false/\∀j,j<i->c.getD j false=true:=by
        have h1:∃i,i<n/\c.getD i false=false:=by
          have:0<(range n).countP (λi=>!c.getD i false):=by omega
          obtain⟨i,G,hp⟩:=List.countP_pos_iff.1 this;exact⟨i,K2.1 G,by simpa using hp⟩
        obtain⟨i,G,hp⟩:=h1;have hmin:∀m,∀i,i<n->c.getD i false=false->i<=m->∃i,i<n/\c.getD i false=false/\∀j,j<i->c.getD j false=true:=by
          intro m;induction m with
          |zero=>intro i G hp him;exact⟨i,G,hp,λj s=>by omega⟩
          |succ m ihm=>
            intro i G hp him;by_cases hlt:∃j,j<i/\c.getD j false=false
            · obtain⟨j,s,hpj⟩:=hlt
              exact ihm j N hpj N
            exact⟨i,G,hp,λj s=>by
              cases h:c.getD j false with
              |true=>rfl
              |false=>exact absurd ⟨j,s,h⟩ hlt⟩
        exact hmin i i G hp (tw _)
      obtain⟨m,hmn,hmu,hmall⟩:=hex;have E:=inv.head.size;have m3:∀i,i<n->c.getD i false=false->c.getD i true=false:=λi G h=>getD_in (by rw[E];simp;omega) h;have J:m∈Region.ready .any l.toArray c:=by
        have hml:m<l.length:=by omega
        refine mem_ready.2 ⟨m3 m hmn hmu,l[m],by simp[hml],λe he hb=>?_⟩;have h1:=(H m hmn).1.1 e.on (by
          simp[cr,r5 hml,gK,M7,T2];exact⟨e,⟨by simpa using he,hb⟩,rfl⟩)
        exact hmall _ h1
      rw[show f+1+(l.length-n)=(f+(l.length-n))+1 by omega];refine⟨λh0=>(by rw[h0]at J;cases J),λi G=>?_⟩;have hil:i<l.length:=by
        obtain⟨_,o,ho,_⟩:=mem_ready.1 G;simpa using(S6.1 ho).1
      have z:i<n:=by
        rcases Nat.lt_or_ge i n with h|h
        · exact h
        rcases hsc with hsc|hsc
        · omega
        exact absurd G (tail_waits hsc.1 hsc.2 (by simp;omega) inv.head _ m rfl hmn (m3 m hmn hmu) i h)
      obtain⟨hun,o,ho,hafter⟩:=mem_ready.1 G;have ho':l[i]? =some o:=by simpa using ho
      have hun':=getD_both hun;obtain⟨K,hv⟩:=inv.X2;obtain⟨S,T,hS⟩:=inv.kp
      have hpre:∀k∈cr l i,c.getD k false=true:=λk T=>by
        simp[cr,ho',gK,M7,T2]at T;obtain⟨e,⟨he,hb⟩,rfl⟩:=T;exact hafter e (by simpa using he) hb
      have A:∀j∈(u1 sp i).B8,j<i/\c.getD j false=true:=λj s=>by
        have h1:=(H i z).1.2 j s;refine⟨h1.1,?_⟩;rcases h1.2 with h2|h2
        · exact hpre j (by simpa using h2)
        obtain⟨k,T,hk2⟩:=List.any_eq_true.1 h2;have hki:k<i:=(H i z).1.1 k T;exact inv.clo k N (hpre k T) j (by simpa using hk2)
      have hko:Kp (yY sp i) w C:=T.sub λg hg=>by
        obtain⟨j,s,D,hgj⟩:=hS g hg;exact uX N (λe=>by subst e;rw[hun']at D;cases D) g hgj
      have hM:M v6 (mZ l fr K (u1 sp i).B8) a:=oH inv.fr _ λj s d U=>(hv j (by have:=A j s;omega) (A j s).2).1 d U;have hf:ki sp K C (u1 sp i).B8:=oJ _ λj s=>(hv j (by have:=A j s;omega) (A j s).2).2;have hw:=ops i o z ho' K C hko hf a hM ro L;have step:∀v w2,xG v6 (s5 l i) (u1 sp i).S (u1 sp i).V C .normal (a.put o.dst v) w2->wpAnyIn (jd ro) 0 P .any l.toArray (sZ L Q) (f+(l.length-n)) (c.setIfInBounds i true) (kr (a.put o.dst v) L) w2:=by
        intro v w2 ⟨_,_,u,hu,hV,hk2⟩;have hdst:s5 l i=o.dst:=by rw[nJ,ho'];rfl
        have B:∀j,(c.setIfInBounds i true).getD j false=if j=i then true else c.getD j false:=λj=>by
          by_cases s:j=i
          · subst s;simp[getD,E,hil]
          rw[getD_set_ne false (Ne.symm s),X s]
        refine ih _ _ _ ?_ ⟨inv.head.set G z,?_,?_,?_,?_⟩
        · have:=countP_set (n:=n) (i:=i) (p:=λj=>!c.getD j false) (q:=λj=>!(c.setIfInBounds i true).getD j false) z (by simp[hun']) (by simp[B]) (λj s=>by simp[B,s])
          omega
        · intro j s D d U
          rw[B];by_cases hdi:d=i
          · simp[hdi]
          rw[X hdi];by_cases I:j=i
          · subst I;exact(A d U).2
          rw[B,X I]at D;exact inv.clo j s D d U
        ·
          obtain⟨f1,f2,f3⟩:=inv.fr;cases U:o.dst with
          |none=>exact⟨f1,f2,f3⟩
          |some d=>
            have y:=(H i z).2;rw[hdst,U]at y;simp only[r3,S9,Hm,K2,H2,beq_iff_eq,bne_iff_ne]at y;refine⟨f1,by simp[Act.put,f2],λk u' hk'=>?_⟩;obtain⟨hkn,hkv⟩:=f3 k u' hk';refine⟨hkn,?_⟩;have hne:d≠k:=by
              rintro rfl;have:∀(fr:Fr) (d:Nat) (v:Value),look fr d=some v->d∈fr.map (·.1):=by
                intro fr;induction fr with
                |nil=>intro d v h;cases h
                |cons x r ihr=>
                  intro d v h;obtain⟨x1,x2⟩:=x;rw[b_]at h;by_cases hx:x1=d
                  · simp[hx]
                  rw[X hx]at h;exact x9 _ (ihr d v h)
              have h3:=this fr d u' hk';have h4:=y.1;simp only[List.contains_eq_mem,J2]at h4;exact h4 h3
            rw[<-hkv];simp[Act.put,getD,f2,hkn,hne]
        · refine⟨λj=>if j=i then u else K j,λj s D=>?_⟩
          by_cases I:j=i
          · subst I
            simp only;exact⟨hu,hV⟩
          simp only[X I];rw[B,X I]at D;obtain⟨h1,h2⟩:=hv j s D;refine⟨λd U=>?_,stab j s _ _ _ h2 (hk2.sub (uX N (Ne.symm I)))⟩;obtain⟨hdN,hdv⟩:=h1 d U;refine⟨hdN,?_⟩;cases hdo:o.dst with
          |none=>exact hdv
          |some d'=>
            have y:=(H i z).2;rw[hdst,hdo]at y;simp at y;have h5:=(y.2 j s).resolve_left I;rw[U]at h5;have hne:d'≠d:=λe=>h5 (by rw[e]);rw[<-hdv];by_cases hds:d<a.tmps.size<;>simp[Act.put,getD,hds,hne]
        refine⟨S++(u1 sp i).S,T.trans hk2,λg hg=>?_⟩;rcases A7.1 hg with hg|hg
        · obtain⟨j,s,D,hgj⟩:=hS g hg
          refine⟨j,s,?_,hgj⟩;rw[B];split
          · rfl
          exact D
        exact⟨i,z,by rw[B,O rfl],hg⟩
      have R:∀v w2,sZ L (xG v6 (s5 l i) (u1 sp i).S (u1 sp i).V C) .normal ((kr a L).put o.dst v) w2->wpAnyIn (jd ro) 0 P .any l.toArray (sZ L Q) (f+(l.length-n)) (c.setIfInBounds i true) ((kr a L).put o.dst v) w2:=λv w2 ⟨a0,h0,e,h⟩=>by
        rw[vv]at e⊢;rw[<-Qn e (HL inv.fr.1 _ _) h0]at h;exact step v w2 h
      unfold wpOpIn;simp only[ho];simp only[wpListIn]at hw;try simp only[eq_self_iff_true]at hw
      by_cases Z:Region.wanted o (yielded l.toArray (kr a L).tmps)=true
      · rw[O Z]at hw⊢
        unfold Oper.wpIn at hw⊢;refine⟨λ_ _=>trivial,Dk hw.2 R (λd w2 ⟨a0,h0,e,h⟩=>?_) (λe a w he ⟨_,_,_,h⟩=>he h.1)⟩;have:=o9 Act.defers e;cases U:o.dst<;>rw[U]at this<;>simp[Act.put,kr]at this
      rw[X Z]at hw⊢;exact⟨λ_ _=>trivial,R undef C hw.2⟩
  have hcount:(range n).countP (λi=>!(replicate l.toArray.size false).getD i false)=n:=by
    rw[List.countP_eq_length.2 (λi _=>by rw[O0];rfl),Y3]
  have:=main n (replicate l.toArray.size false) a {w with drawn:=w.drawn+1} hcount
    ⟨⟨aa,λj oj _ b=>(by rw[O0]at b;cases b),λt _ ht=>getD_in (by simpa using ht) (O0 _ _)⟩,
     λi _ b=>(by rw[O0]at b;cases b),ha,⟨λ_=>undef,λi _ b=>(by rw[O0]at b;cases b)⟩,
     ⟨[],(Kp.refl w).drew,λg hg=>by cases hg⟩⟩
  rw[show n+(l.length-n)=l.toArray.size by simp;omega]at this;exact this
def zJ(P:Program)(v6:Nat)(l:List Oper)(sp:List Sp)(fr:Fr)(w:World):Nat->List Oper->Prop
 |_,[]=>True
 |i,o::r=>(∀d c,Kp (yY sp i) w c->ki sp d c (u1 sp i).B8->WO P (xG v6 (s5 l i) (u1 sp i).S (u1 sp i).V c) v6 l [o] (mZ l fr d (u1 sp i).B8) c)/\zJ P v6 l sp fr w (i+1) r
def ug(sp:List Sp):Nat->List Sp->Prop
 |_,[]=>True
 |i,s::r=>(∀v w w',s.V v w->Kp (yY sp i) w w'->s.V v w')/\ug sp (i+1) r
theorem zJ.at_:∀{r:List Oper} {k:Nat},zJ P v6 l sp fr w k r->∀j o,r[j]? =some o->∀e d,Kp (yY sp (k+j)) w d->ki sp e d (u1 sp (k+j)).B8->
  WO P (xG v6 (s5 l (k+j)) (u1 sp (k+j)).S (u1 sp (k+j)).V d) v6 l [o] (mZ l fr e (u1 sp (k+j)).B8) d
 |[],_,_,j,o,c=>by simp at c
 |x::r,k,h,0,o,c=>by
  simp at c;subst c;exact h.1
 |x::r,k,h,j+1,o,c=>by
  have:=h.2.at_ j o (by simpa using c);grind
theorem ug.at_:∀{r:List Sp} {k:Nat},ug sp k r->∀j,j<r.length->∀v w w',(u1 r j).V v w->Kp (yY sp (k+j)) w w'->(u1 r j).V v w'
 |s::r,k,h,0,_=>h.1
 |s::r,k,h,j+1,c=>by
  have:=h.2.at_ j (by simpa using c);rwa[show k+1+j=k+(j+1) by omega]at this
def WC.TG(p:P.follows .mixedOrders=true)(sp:List Sp)n(h:GY l sp (fr.map (·.1)) n=true)(c:ug sp 0 sp)(e:zJ P v6 l sp fr w 0 (l.take n))
  (d:∀j f,Kp (Je sp) w f->ki sp j f (range n)->WO P Q v6 l (l.drop n) (mZ l fr j (range n)) f):WC P Q v6 (.region id l.toArray true) fr w:=by
 have g:=h;simp[GY]at g;refine WC.draw p sp n h (λi k=>?_) (λi o k q=>?_) d
 .have:=c.at_ i N;grind
 have:=e.at_ i o (by rw[G2,O k];exact q);grind
end
structure l3 where
 code:Int
 n:Int
deriving DecidableEq
structure eS where
 a6:Int
 seq:Int
 last:l3
deriving DecidableEq
structure n7 where
 set:Int
 a6:Int
deriving DecidableEq
structure ie where
 id:Int
 set:Int
 c6:List Int
 held:Bool
 tag:n9
deriving DecidableEq
structure c5 where
 bo:Int
 next:Int
 dc:Int
 eR:Int
 c8:List eS
 eb:List n7
 c3:List ie
deriving DecidableEq
structure b6 where
 kind:Int
 a6:Int
 seq:Int
 set:Int
 id:Int
 n:Int
 c6:List Int
 text:n9
deriving DecidableEq
structure C3 where
 id:Int
 set:Int
 c6:Bool×List Int
 held:Bool
 tag:n9
deriving DecidableEq
structure Field where
 num:Int
 hC:Int
 n:z8
 b:List UInt8
deriving DecidableEq
structure l4 where
 num:Int
 hC:Int
 since:Int
 y4:Bool
 ea:Bool
deriving DecidableEq
structure eA where
 a8:Int
 b:List UInt8
deriving DecidableEq
structure dm where
 kind:Int
 a:Int
 b:Int
 x:List UInt8
deriving DecidableEq
structure ep where
 kind:Int
 l5:Int
 to:Int
 a8:Int
 a:Int
 b:Int
 c:Int
 bin:Int
 ok:Bool
 l:List eA
deriving DecidableEq
structure Event where
 kind:Int
 a:Int
 b:Int
 c:b6
deriving DecidableEq
structure C1 where
 node:Int
 number:Int
 a8:Int
 at_:Int
 S3:Int
 c:b6
 done:Bool
 l8:l3
deriving DecidableEq
structure b9 where
 floor:Int
 a8:Int
 hQ:Int
 log:List eA
deriving DecidableEq
structure vo where
 l5:Int
 to:Int
 next:Int
 b8:Int
 bin:Int
deriving DecidableEq
structure Site where
 up:Bool
 ee:Int
 binary:Int
 floor:Int
 a8:Int
 hQ:Int
 b8:Int
 b5:Int
 log:List eA
 state:c5
deriving DecidableEq
structure A5 where
 kind:UInt8
 n:Int
 x:ep
 c:b6
deriving DecidableEq
structure Rest where
 fields:List Field
 at_:UInt8
deriving DecidableEq
structure Span where
 lo:Int
 hi:Int
deriving DecidableEq
inductive NT
 |l8|c8|opn|snap|state|command|snapE|field|spec|entry|record|letter|event|call|stable|route|site|nop|rest|span
deriving DecidableEq
abbrev NT.l7:NT->Type
 |.l8=>l3
 |.c8=>eS
 |.opn=>n7
 |.snap=>ie
 |.state=>c5
 |.command=>b6
 |.snapE=>C3
 |.field=>Field
 |.spec=>l4
 |.entry=>eA
 |.record=>dm
 |.letter=>ep
 |.event=>Event
 |.call=>C1
 |.stable=>b9
 |.route=>vo
 |.site=>Site
 |.nop=>A5
 |.rest=>Rest
 |.span=>Span
inductive Sh
 |int|u8|u64|bool|str
 |lx
 |F9 (s:Sh)
 |nm (t:NT)
deriving DecidableEq
abbrev l7:Sh->Type
 |.int=>Int
 |.u8=>UInt8
 |.u64=>z8
 |.bool=>Bool
 |.str=>n9
 |.lx=>Bool×List Int
 |.F9 s=>List (l7 s)
 |.nm t=>t.l7
inductive BE
 |lit (b:Bool)|atom (b:Bool)
 |lt (a b:Int)|le (a b:Int)|eq (a b:Int)
 |seq (a b:n9)
 |beq (x y:BE)|not (x:BE)|and (x y:BE)|or (x y:BE)
def BE.val:BE->Bool
 |.lit b=>b
 |.atom b=>b
 |.lt a b=>(a<b)
 |.le a b=>(a<=b)
 |.eq a b=>(a=b)
 |.seq a b=>(a=b)
 |.beq x y=>x.val==y.val
 |.not x=>!x.val
 |.and x y=>x.val&&y.val
 |.or x y=>x.val||y.val
def BE.p:BE->Bool->Prop
 |.lit b,v=>b=v
 |.atom b,v=>b=v
 |.lt a b,true=>a<b
 |.lt a b,false=>b<=a
 |.le a b,true=>a<=b
 |.le a b,false=>b<a
 |.eq a b,true=>a=b
 |.eq a b,false=>¬a=b
 |.seq a b,true=>a=b
 |.seq a b,false=>¬a=b
 |.beq x y,v=>(x.val==y.val)=v
 |.not x,true=>x.p false
 |.not x,false=>x.p true
 |.and x y,true=>x.p true/\y.p true
 |.and x y,false=>x.p false\/y.p false
 |.or x y,true=>x.p true\/y.p true
 |.or x y,false=>x.p false/\y.p false
theorem BE.h_:∀(e:BE) (v:Bool),e.p v↔e.val=v
 |.lit b,v=>.rfl
 |.atom b,v=>.rfl
 |.lt a b,true=>by simp[BE.p,BE.val]
 |.lt a b,false=>by simp[BE.p,BE.val]
 |.le a b,true=>by simp[BE.p,BE.val]
 |.le a b,false=>by simp[BE.p,BE.val]
 |.eq a b,true=>by simp[BE.p,BE.val]
 |.eq a b,false=>by simp[BE.p,BE.val]
 |.seq a b,true=>by simp[BE.p,BE.val]
 |.seq a b,false=>by simp[BE.p,BE.val]
 |.beq x y,v=>.rfl
 |.not x,true=>by simp[BE.p,BE.val,h_ x]
 |.not x,false=>by simp[BE.p,BE.val,h_ x]
 |.and x y,true=>by simp[BE.p,BE.val,h_ x,h_ y]
 |.and x y,false=>by cases c:x.val<;>simp[BE.p,BE.val,h_ x,h_ y,c]
 |.or x y,true=>by simp[BE.p,BE.val,h_ x,h_ y]
 |.or x y,false=>by simp[BE.p,BE.val,h_ x,h_ y]
structure I7 where
 g:Nat
 s:Sh
 xs:List (l7 s)
def XN:List I7:=[]
def aiZ:List (Nat×Bool):=[]
inductive KC
 |i (n:Int)|b (v:Bool)|f (g:Nat)|nf
inductive XK
 |er (b:Bool)|pl|pa|fm (f:n9->Option Int)|bp
 |ff (s:Sh) (xs:List (l7 s))
 |mx (nw:Bool) (xs:List Int)
 |w (n:Nat)
 |km (l:List (Int×List KC))
 |kf (x:KC)
inductive AV
 |int (n:Int)|u8 (b:UInt8)|u64 (n:Nat)|bool (e:BE)|str (s:n9)
 |em (nil:Bool)
 |fz (s:Sh) (xs:List (l7 s))
 |li (nw:Bool) (xs:List Int)
 |own (id:Nat)
 |sub (id off len:Nat)
 |ptr (id off:Nat)|np
 |y8 (id i off:Nat)
 |fe (s:Sh) (x:l7 s) (off:Nat)
 |fn (f:Nat) (b c:List (Nat×Nat))|nf
 |yl (l:Nat)
 |mq (id:Nat)
 |xx (k:XK) (cs:List (Nat×Nat))
 |dead
inductive oh
 |c (a:AV)
 |agg (l:List AV)
inductive TV
 |one (t:oh)
 |D8 (l:List oh)
 |un
abbrev lg:=List (Nat×TV)
inductive AO
 |gone
 |box (t:TypeId) (cs:List AV)
 |row (t:TypeId) (s:Sh) (xs:List (l7 s))
 |s6 (s:Sh) (f:Int->Option (l7 s))
 |A8 (t:TypeId) (s:Sh) (n:Nat) (xs:List (l7 s))
 |r9 (l:List (Int×AV))
 |loc
abbrev AH:=List AO
def l6:lg->Nat->Option TV
 |[],_=>none
 |(j,v)::r,i=>bif Nat.beq j i then some v else l6 r i
def AV.bu:AV->Option Int
 |.int n=>some n
 |_=>none
def AV.P7:AV->Option UInt8
 |.u8 n=>some n
 |_=>none
def AV.P6:AV->Option z8
 |.u64 n=>some ⟨n⟩
 |_=>none
def AV.wW:AV->Option Bool
 |.bool e=>some e.val
 |_=>none
def AV.DS:AV->Option n9
 |.str s=>some s
 |_=>none
def AV.S1:AV->Option (Bool×List Int)
 |.li b c=>some (b,c)
 |.em _=>some (true,[])
 |_=>none
def AV.iu(s:Sh):AV->Option (List (l7 s))
 |.fz c d=>if h:c=s then some (h▸d)else none
 |.em _=>some []
 |_=>none
def NT.cells:(t:NT)->t.l7->List AV
 |.l8,x=>[.int x.code,.int x.n]
 |.c8,x=>[.int x.a6,.int x.seq,.int x.last.code,.int x.last.n]
 |.opn,x=>[.int x.set,.int x.a6]
 |.snap,x=>[.int x.id,.int x.set,.fz .int x.c6,.bool (.atom x.held),.str x.tag]
 |.state,x=>[.int x.bo,.int x.next,.int x.dc,.int x.eR,.fz (.nm .c8) x.c8,.fz (.nm .opn) x.eb,.fz (.nm .snap) x.c3]
 |.command,x=>[.int x.kind,.int x.a6,.int x.seq,.int x.set,.int x.id,.int x.n,.fz .int x.c6,.str x.text]
 |.snapE,x=>[.int x.id,.int x.set,.li x.c6.1 x.c6.2,.bool (.atom x.held),.str x.tag]
 |.field,x=>[.int x.num,.int x.hC,.u64 x.n.n,.fz .u8 x.b]
 |.spec,x=>[.int x.num,.int x.hC,.int x.since,.bool (.atom x.y4),.bool (.atom x.ea)]
 |.entry,x=>[.int x.a8,.fz .u8 x.b]
 |.record,x=>[.int x.kind,.int x.a,.int x.b,.fz .u8 x.x]
 |.letter,x=>[.int x.kind,.int x.l5,.int x.to,.int x.a8,.int x.a,.int x.b,.int x.c,.int x.bin,.bool (.atom x.ok),.fz (.nm .entry) x.l]
 |.event,x=>[.int x.kind,.int x.a,.int x.b,.int x.c.kind,.int x.c.a6,.int x.c.seq,.int x.c.set,.int x.c.id,.int x.c.n,.fz .int x.c.c6,.str x.c.text]
 |.call,x=>[.int x.node,.int x.number,.int x.a8,.int x.at_,.int x.S3,.int x.c.kind,.int x.c.a6,.int x.c.seq,.int x.c.set,.int x.c.id,.int x.c.n,.fz .int x.c.c6,.str x.c.text,.bool (.atom x.done),.int x.l8.code,.int x.l8.n]
 |.stable,x=>[.int x.floor,.int x.a8,.int x.hQ,.fz (.nm .entry) x.log]
 |.route,x=>[.int x.l5,.int x.to,.int x.next,.int x.b8,.int x.bin]
 |.site,x=>[.bool (.atom x.up),.int x.ee,.int x.binary,.int x.floor,.int x.a8,.int x.hQ,.int x.b8,.int x.b5,.fz (.nm .entry) x.log,.int x.state.bo,.int x.state.next,.int x.state.dc,.int x.state.eR,.fz (.nm .c8) x.state.c8,.fz (.nm .opn) x.state.eb,.fz (.nm .snap) x.state.c3]
 |.nop,x=>[.u8 x.kind,.int x.n,.int x.x.kind,.int x.x.l5,.int x.x.to,.int x.x.a8,.int x.x.a,.int x.x.b,.int x.x.c,.int x.x.bin,.bool (.atom x.x.ok),.fz (.nm .entry) x.x.l,.int x.c.kind,.int x.c.a6,.int x.c.seq,.int x.c.set,.int x.c.id,.int x.c.n,.fz .int x.c.c6,.str x.c.text]
 |.rest,x=>[.fz (.nm .field) x.fields,.u8 x.at_]
 |.span,x=>[.int x.lo,.int x.hi]
def NT.size:NT->Nat
 |.l8=>2
 |.c8=>4
 |.opn=>2
 |.snap=>5
 |.state=>7
 |.command=>8
 |.snapE=>5
 |.field=>4
 |.spec=>5
 |.entry=>2
 |.record=>4
 |.letter=>10
 |.event=>11
 |.call=>16
 |.stable=>4
 |.route=>5
 |.site=>16
 |.nop=>20
 |.rest=>2
 |.span=>2
def NT.bytes:NT->Nat
 |.l8=>16
 |.c8=>32
 |.opn=>16
 |.snap=>64
 |.state=>104
 |.command=>88
 |.snapE=>64
 |.field=>48
 |.spec=>32
 |.entry=>32
 |.record=>48
 |.letter=>96
 |.event=>112
 |.call=>152
 |.stable=>48
 |.route=>40
 |.site=>192
 |.nop=>200
 |.rest=>32
 |.span=>16
def NT.je:NT->List Sh
 |.l8=>[]
 |.c8=>[]
 |.opn=>[]
 |.snap=>[.int]
 |.state=>[(.nm .c8),(.nm .opn),(.nm .snap)]
 |.command=>[.int]
 |.snapE=>[.int]
 |.field=>[.u8]
 |.spec=>[]
 |.entry=>[.u8]
 |.record=>[.u8]
 |.letter=>[(.nm .entry)]
 |.event=>[.int]
 |.call=>[.int]
 |.stable=>[(.nm .entry)]
 |.route=>[]
 |.site=>[(.nm .entry),(.nm .c8),(.nm .opn),(.nm .snap)]
 |.nop=>[(.nm .entry),.int]
 |.rest=>[(.nm .field)]
 |.span=>[]
def NT.c4:(t:NT)->t.l7
 |.l8=>⟨0,0⟩
 |.c8=>⟨0,0,⟨0,0⟩⟩
 |.opn=>⟨0,0⟩
 |.snap=>⟨0,0,[],false,⟨[]⟩⟩
 |.state=>⟨0,0,0,0,[],[],[]⟩
 |.command=>⟨0,0,0,0,0,0,[],⟨[]⟩⟩
 |.snapE=>⟨0,0,(true,[]),false,⟨[]⟩⟩
 |.field=>⟨0,0,⟨0⟩,[]⟩
 |.spec=>⟨0,0,0,false,false⟩
 |.entry=>⟨0,[]⟩
 |.record=>⟨0,0,0,[]⟩
 |.letter=>⟨0,0,0,0,0,0,0,0,false,[]⟩
 |.event=>⟨0,0,0,⟨0,0,0,0,0,0,[],⟨[]⟩⟩⟩
 |.call=>⟨0,0,0,0,0,⟨0,0,0,0,0,0,[],⟨[]⟩⟩,false,⟨0,0⟩⟩
 |.stable=>⟨0,0,0,[]⟩
 |.route=>⟨0,0,0,0,0⟩
 |.site=>⟨false,0,0,0,0,0,0,0,[],⟨0,0,0,0,[],[],[]⟩⟩
 |.nop=>⟨0,0,⟨0,0,0,0,0,0,0,0,false,[]⟩,⟨0,0,0,0,0,0,[],⟨[]⟩⟩⟩
 |.rest=>⟨[],0⟩
 |.span=>⟨0,0⟩
def l3.of:List AV->Option l3
 |[a0,c]=>match a0.bu,c.bu with
  |some d,some e=>some ⟨d,e⟩
  |_,_=>none
 |_=>none
def eS.of:List AV->Option eS
 |[a0,c,d,e]=>match a0.bu,c.bu,d.bu,e.bu with
  |some f,some g,some h,some j=>some ⟨f,g,⟨h,j⟩⟩
  |_,_,_,_=>none
 |_=>none
def n7.of:List AV->Option n7
 |[a0,c]=>match a0.bu,c.bu with
  |some d,some e=>some ⟨d,e⟩
  |_,_=>none
 |_=>none
def ie.of:List AV->Option ie
 |[a0,c,d,e,f]=>match a0.bu,c.bu,d.iu .int,e.wW,f.DS with
  |some g,some h,some j,some k,some l=>some ⟨g,h,j,k,l⟩
  |_,_,_,_,_=>none
 |_=>none
def c5.of:List AV->Option c5
 |[a0,c,d,e,f,g,h]=>match a0.bu,c.bu,d.bu,e.bu,f.iu (.nm .c8),g.iu (.nm .opn),h.iu (.nm .snap)with
  |some j,some k,some l,some o,some p,some q,some r=>some ⟨j,k,l,o,p,q,r⟩
  |_,_,_,_,_,_,_=>none
 |_=>none
def b6.of:List AV->Option b6
 |[a0,c,d,e,f,g,h,j]=>match a0.bu,c.bu,d.bu,e.bu,f.bu,g.bu,h.iu .int,j.DS with
  |some k,some l,some o,some p,some q,some r,some s,some t=>some ⟨k,l,o,p,q,r,s,t⟩
  |_,_,_,_,_,_,_,_=>none
 |_=>none
def C3.of:List AV->Option C3
 |[a0,c,d,e,f]=>match a0.bu,c.bu,d.S1,e.wW,f.DS with
  |some g,some h,some j,some k,some l=>some ⟨g,h,j,k,l⟩
  |_,_,_,_,_=>none
 |_=>none
def Field.of:List AV->Option Field
 |[a0,c,d,e]=>match a0.bu,c.bu,d.P6,e.iu .u8 with
  |some f,some g,some h,some j=>some ⟨f,g,h,j⟩
  |_,_,_,_=>none
 |_=>none
def l4.of:List AV->Option l4
 |[a0,c,d,e,f]=>match a0.bu,c.bu,d.bu,e.wW,f.wW with
  |some g,some h,some j,some k,some l=>some ⟨g,h,j,k,l⟩
  |_,_,_,_,_=>none
 |_=>none
def eA.of:List AV->Option eA
 |[a0,c]=>match a0.bu,c.iu .u8 with
  |some d,some e=>some ⟨d,e⟩
  |_,_=>none
 |_=>none
def dm.of:List AV->Option dm
 |[a0,c,d,e]=>match a0.bu,c.bu,d.bu,e.iu .u8 with
  |some f,some g,some h,some j=>some ⟨f,g,h,j⟩
  |_,_,_,_=>none
 |_=>none
def ep.of:List AV->Option ep
 |[a0,c,d,e,f,g,h,j,k,l]=>match a0.bu,c.bu,d.bu,e.bu,f.bu,g.bu,h.bu,j.bu,k.wW,l.iu (.nm .entry)with
  |some o,some p,some q,some r,some s,some t,some u,some v,some x,some y=>some ⟨o,p,q,r,s,t,u,v,x,y⟩
  |_,_,_,_,_,_,_,_,_,_=>none
 |_=>none
def Event.of:List AV->Option Event
 |[a0,e,f,g,h,j,k,l,o,p,c]=>match a0.bu,e.bu,f.bu,g.bu,h.bu,j.bu,k.bu,l.bu,o.bu,p.iu .int,c.DS with
  |some q,some r,some s,some t,some u,some v,some x,some y,some z,some A,some d=>some ⟨q,r,s,⟨t,u,v,x,y,z,A,d⟩⟩
  |_,_,_,_,_,_,_,_,_,_,_=>none
 |_=>none
def C1.of:List AV->Option C1
 |[a0,q,r,s,t,u,v,x,y,z,c,d,e,f,g,h]=>match a0.bu,q.bu,r.bu,s.bu,t.bu,u.bu,v.bu,x.bu,y.bu,z.bu,c.bu,d.iu .int,e.DS,f.wW,g.bu,h.bu with
  |some A,some B,some C,some D,some F,some G,some H,some I,some J,some K,some j,some k,some l,some RT,some o,some p=>some ⟨A,B,C,D,F,⟨G,H,I,J,K,j,k,l⟩,RT,⟨o,p⟩⟩
  |_,_,_,_,_,_,_,_,_,_,_,_,_,_,_,_=>none
 |_=>none
def b9.of:List AV->Option b9
 |[a0,c,d,e]=>match a0.bu,c.bu,d.bu,e.iu (.nm .entry)with
  |some f,some g,some h,some j=>some ⟨f,g,h,j⟩
  |_,_,_,_=>none
 |_=>none
def vo.of:List AV->Option vo
 |[a0,c,d,e,f]=>match a0.bu,c.bu,d.bu,e.bu,f.bu with
  |some g,some h,some j,some k,some l=>some ⟨g,h,j,k,l⟩
  |_,_,_,_,_=>none
 |_=>none
def Site.of:List AV->Option Site
 |[a0,q,r,s,t,u,v,x,y,z,c,d,e,f,g,h]=>match a0.wW,q.bu,r.bu,s.bu,t.bu,u.bu,v.bu,x.bu,y.iu (.nm .entry),z.bu,c.bu,d.bu,e.bu,f.iu (.nm .c8),g.iu (.nm .opn),h.iu (.nm .snap)with
  |some A,some B,some C,some D,some F,some G,some H,some I,some J,some K,some j,some k,some l,some RT,some o,some p=>some ⟨A,B,C,D,F,G,H,I,J,⟨K,j,k,l,RT,o,p⟩⟩
  |_,_,_,_,_,_,_,_,_,_,_,_,_,_,_,_=>none
 |_=>none
def A5.of:List AV->Option A5
 |[a0,z,A,B,C,D,F,G,H,I,c,d,e,f,g,h,j,k,l,o]=>match a0.P7,z.bu,A.bu,B.bu,C.bu,D.bu,F.bu,G.bu,H.bu,I.bu,c.wW,d.iu (.nm .entry),e.bu,f.bu,g.bu,h.bu,j.bu,k.bu,l.iu .int,o.DS with
  |some J,some K,some L,some i,some n,some U,some V,some b,some m,some a,some p,some q,some r,some RT,some s,some t,some u,some v,some x,some y=>some ⟨J,K,⟨L,i,n,U,V,b,m,a,p,q⟩,⟨r,RT,s,t,u,v,x,y⟩⟩
  |_,_,_,_,_,_,_,_,_,_,_,_,_,_,_,_,_,_,_,_=>none
 |_=>none
def Rest.of:List AV->Option Rest
 |[a0,c]=>match a0.iu (.nm .field),c.P7 with
  |some d,some e=>some ⟨d,e⟩
  |_,_=>none
 |_=>none
def Span.of:List AV->Option Span
 |[a0,c]=>match a0.bu,c.bu with
  |some d,some e=>some ⟨d,e⟩
  |_,_=>none
 |_=>none
def NT.of:(t:NT)->List AV->Option t.l7
 |.l8,l=>l3.of l
 |.c8,l=>eS.of l
 |.opn,l=>n7.of l
 |.snap,l=>ie.of l
 |.state,l=>c5.of l
 |.command,l=>b6.of l
 |.snapE,l=>C3.of l
 |.field,l=>Field.of l
 |.spec,l=>l4.of l
 |.entry,l=>eA.of l
 |.record,l=>dm.of l
 |.letter,l=>ep.of l
 |.event,l=>Event.of l
 |.call,l=>C1.of l
 |.stable,l=>b9.of l
 |.route,l=>vo.of l
 |.site,l=>Site.of l
 |.nop,l=>A5.of l
 |.rest,l=>Rest.of l
 |.span,l=>Span.of l
def cellsOf:(s:Sh)->l7 s->List AV
 |.int,x=>[.int x]
 |.u8,x=>[.u8 x]
 |.u64,x=>[.u64 x.n]
 |.bool,x=>[.bool (.atom x)]
 |.str,x=>[.str x]
 |.lx,x=>[.li x.1 x.2]
 |.F9 s,x=>[.fz s x]
 |.nm t,x=>t.cells x
def Sh.size:Sh->Nat
 |.nm t=>t.size
 |_=>1
def Sh.bytes:Sh->Nat
 |.int=>8
 |.u8=>1
 |.u64=>8
 |.bool=>1
 |.str=>16
 |.lx=>24
 |.F9 _=>24
 |.nm t=>t.bytes
def c4:(s:Sh)->l7 s
 |.int=>0
 |.u8=>0
 |.u64=>⟨0⟩
 |.bool=>false
 |.str=>⟨[]⟩
 |.lx=>(true,[])
 |.F9 _=>[]
 |.nm t=>t.c4
def iG:(s:Sh)->List AV->Option (l7 s)
 |.int,[.int n]=>some n
 |.u8,[.u8 b]=>some b
 |.u64,[.u64 n]=>some ⟨n⟩
 |.bool,[.bool e]=>some e.val
 |.str,[.str s]=>some s
 |.lx,[a]=>a.S1
 |.F9 s,[a]=>a.iu s
 |.nm t,l=>t.of l
 |_,_=>none
end Go.Proofs.YtoecbhljidgajaaGreat
namespace Go.Proofs.YtoecbhljidgajaaGreat
open Go.RowKit
inductive TK
 |i (k:IntKind)|bool|str
 |sl (e:TypeId) (s:Option Sh)
 |st (fs:List (Nat×Nat))
 |ar (n:Nat) (e:TypeId)
 |mp (k e:TypeId) (s:Option Sh)
 |ptr|fn|oth
 |W4
 |ms (k e:TypeId)
 |mg (k e:TypeId) (z:List KC)
structure TI where
 k:TK
 size:Nat
 zero:List AV
def bt:List (Nat×TI)->Nat->Option TI
 |[],_=>none
 |(j,v)::r,i=>bif Nat.beq j i then some v else bt r i
structure PR where
 v:TV
 ob:List Prop:=[]
 fc:List Prop:=[]
def one(a:AV):TV:=.one (.c a)
def pr(a:AV)(ob:List Prop:=[])(b:List Prop:=[]):Option PR:=some ⟨.one (.c a),ob,b⟩
def AV.ok:AV->List Prop
 |.int n=>[W n]
 |.u64 n=>[n<18446744073709551616]
 |.str s=>[s.b.length<=140737488355328]
 |.fz s a=>[a.length*s.bytes<=140737488355328]
 |_=>[]
def Mk:List AV->List Prop
 |[]=>[]
 |a::r=>a.ok++Mk r
def oh.ok:oh->List Prop
 |.c a=>a.ok
 |.agg l=>Mk l
def Kf:List oh->List Prop
 |[]=>[]
 |a::r=>a.ok++Kf r
def l9(H:AH)id:=H.getD id .gone
def AV.vw(H:AH):AV->AV
 |.own id=>match l9 H id with
  |.row _ s b=>.fz s b
  |_=>.dead
 |.sub id c len=>match l9 H id with
  |.row _ s b=>.fz s ((b.drop c).take len)
  |_=>.dead
 |a=>a
def cAV:Value->Option AV
 |.int .i64 n=>bif (-9223372036854775808<=n)&&(n<=9223372036854775807)then some (.int n)else none
 |.int .u8 n=>bif (0<=n)&&(n<256)then some (.u8 (ofNat n.toNat))else none
 |.int .u64 n=>bif (0<=n)&&(n<18446744073709551616)then some (.u64 n.toNat)else none
 |.int .u32 n=>bif (0<=n)&&(n<4294967296)then some (.xx (.w n.toNat) [])else none
 |.bool b=>some (.bool (.lit b))
 |.string s=>bif ble s.data.toList.length 140737488355328 then some (.str ⟨s.data.toList⟩)else none
 |.slice none 0 0=>some (.em true)
 |.pointer none=>some .np
 |.nilIface=>some (.xx (.er true) [])
 |.nilFunc=>some .nf
 |_=>none
def ez(fr:lg):Operand->Option TV
 |.tmp i=>l6 fr i
 |.const v=>match cAV v with
  |some a=>some (one a)
  |none=>none
 |.func f=>some (one (.fn f [] []))
 |.global _=>none
def BE.neg:BE->BE
 |.lit b=>.lit (!b)
 |.not e=>e
 |e=>.not e
def Zl(a b:Int):=((a.toNat|||b.toNat:Nat):Int)
def lZ(a b:Int):=((BitVec.ofInt 64 a&&&BitVec.ofInt 64 b).toNat:Int)
def aeI(c:BinOp):AV->AV->Option PR
 |.int a,.int b=>match c with
  |.lss=>pr (.bool (.lt a b))
  |.leq=>pr (.bool (.le a b))
  |.gtr=>pr (.bool (.lt b a))
  |.geq=>pr (.bool (.le b a))
  |.eql=>pr (.bool (.eq a b))
  |.neq=>pr (.bool (.not (.eq a b)))
  |.add=>pr (.int (a+b)) [W (a+b)]
  |.sub=>pr (.int (a-b)) [W (a-b)]
  |.mul=>pr (.int (a*b)) [W (a*b)]
  |.quo=>pr (.int (a.tdiv b)) [0<=a,0<b]
  |.rem=>pr (.int (a.tmod b)) [0<=a,0<b]
  |.and=>pr (.int (lZ a b)) [0<=b]
  |.or=>pr (.int (Zl a b)) [0<=a,0<=b]
  |_=>none
 |.u8 a,.u8 b=>match c with
  |.lss=>pr (.bool (.lt a.toNat b.toNat))
  |.leq=>pr (.bool (.le a.toNat b.toNat))
  |.gtr=>pr (.bool (.lt b.toNat a.toNat))
  |.geq=>pr (.bool (.le b.toNat a.toNat))
  |.eql=>pr (.bool (.eq a.toNat b.toNat))
  |.neq=>pr (.bool (.not (.eq a.toNat b.toNat)))
  |.and=>pr (.u8 (a&&&b))
  |.or=>pr (.u8 (a|||b))
  |.rem=>pr (.u8 (a%b)) [0<b.toNat]
  |.quo=>pr (.u8 (a/b)) [0<b.toNat]
  |_=>none
 |.u64 a,.u64 b=>match c with
  |.lss=>pr (.bool (.lt a b))
  |.leq=>pr (.bool (.le a b))
  |.gtr=>pr (.bool (.lt b a))
  |.geq=>pr (.bool (.le b a))
  |.eql=>pr (.bool (.eq a b))
  |.neq=>pr (.bool (.not (.eq a b)))
  |.add=>pr (.u64 ((a+b)%18446744073709551616))
  |.or=>pr (.u64 (a|||b))
  |.quo=>pr (.u64 (a/b)) [0<b]
  |.rem=>pr (.u64 (a%b)) [0<b]
  |.shl=>pr (.u64 ((a*2^b)%18446744073709551616)) [b<64]
  |.shr=>pr (.u64 (a/2^b)) [b<64]
  |_=>none
 |.u64 a,.int b=>match c with
  |.shl=>pr (.u64 ((a*2^b.toNat)%18446744073709551616)) [0<=b,b<64]
  |.shr=>pr (.u64 (a/2^b.toNat)) [0<=b,b<64]
  |_=>none
 |.int a,.u64 b=>match c with
  |.shl=>pr (.int (a*2^b)) [b<64,W (a*2^b)]
  |_=>none
 |.u8 a,.u64 b=>match c with
  |.shr=>pr (.u8 (ofNat (a.toNat/2^b))) [b<8]
  |_=>none
 |.bool a,.bool b=>match c with
  |.eql=>pr (.bool (.beq a b))
  |.neq=>pr (.bool (.not (.beq a b)))
  |_=>none
 |.str a,.str b=>match c with
  |.eql=>pr (.bool (.seq a b))
  |.neq=>pr (.bool (.not (.seq a b)))
  |.add=>pr (.str ⟨a.b++b.b⟩) [a.b.length+b.b.length<=140737488355328]
  |_=>none
 |.em a,.em true=>match c with
  |.eql=>pr (.bool (.lit a))
  |.neq=>pr (.bool (.lit (!a)))
  |_=>none
 |_,_=>none
inductive LK
 |i (k:IntKind)|b|s
deriving DecidableEq
def AV.lk:AV->Option LK
 |.int _=>some (.i .i64)
 |.u8 _=>some (.i .u8)
 |.u64 _=>some (.i .u64)
 |.bool _=>some .b
 |.str _=>some .s
 |_=>none
def P1:List AV->Option (List LK)
 |[]=>some []
 |a::r=>match a.lk,P1 r with
  |some k,some l=>some (k::l)
  |_,_=>none
def Vs:AV->AV->Option BE
 |.int a,.int b=>some (.eq a b)
 |.u8 a,.u8 b=>some (.eq a.toNat b.toNat)
 |.u64 a,.u64 b=>some (.eq a b)
 |.bool x,.bool y=>some (.beq x y)
 |.str a,.str b=>some (.seq a b)
 |_,_=>none
def JW:List AV->List AV->Option BE
 |[],[]=>some (.lit true)
 |[a],[b]=>Vs a b
 |a::r,b::l=>match Vs a b,JW r l with
  |some x,some y=>some (.and x y)
  |_,_=>none
 |_,_=>none
def eqG(T:List (Nat×TI))(c:BinOp)(t:TypeId)(a b:List AV):Option PR:=match bt T t with
 |some ⟨.st _,_,z⟩=>match P1 z,P1 a,P1 b with
  |some k,some d,some f=>match decide (d=k)&&decide (f=k),JW a b,c with
   |true,some e,.eql=>pr (.bool e)
   |true,some e,.neq=>pr (.bool (.not e))
   |_,_,_=>none
  |_,_,_=>none
 |_=>none
def OD(T:List (Nat×TI))(t:TypeId):AV->Bool
 |.bool _=>match bt T t with
  |some ⟨.bool,_,_⟩=>true
  |_=>false
 |.em _=>match bt T t with
  |some ⟨.sl _ _,_,_⟩=>true
  |_=>false
 |.xx _ _=>false
 |_=>true
def cF(n:Nat):Int:=if n<9223372036854775808 then n else n-18446744073709551616
def Oh(H:AH)(s t:TK)(x:AV):=
 match s,t,x with
 |.i .i64,.i .i64,.int n=>pr (.int n)
 |.i .u8,.i .i64,.u8 b=>pr (.int b.toNat)
 |.i .u8,.i .u64,.u8 b=>pr (.u64 b.toNat)
 |.i .i64,.i .u8,.int n=>pr (.u8 (ofNat n.toNat)) [0<=n]
 |.i .i64,.i .u64,.int n=>pr (.u64 n.toNat) [0<=n]
 |.i .u64,.i .u8,.u64 n=>pr (.u8 (ofNat n))
 |.i .u64,.i .i64,.u64 n=>pr (.int (cF n))
 |.i .u64,.i .u64,.u64 n=>pr (.u64 n)
 |.sl _ (some .u8),.str,x=>match x.vw H with
  |.fz .u8 a=>pr (.str ⟨a⟩)
  |.em _=>pr (.str ⟨[]⟩)
  |_=>none
 |.str,.sl _ (some .u8),.str s=>pr (.fz .u8 s.b)
 |_,_,_=>none
def adW(T:List (Nat×TI))(H:AH)(t:TypeId)(x:AV):Option Int:=
 match x,bt T t with
 |.fz _ a,some ⟨.sl _ _,_,_⟩=>some a.length
 |.str s,some ⟨.str,_,_⟩=>some s.b.length
 |.em _,some ⟨.sl _ _,_,_⟩=>some 0
 |.own id,some ⟨.sl _ _,_,_⟩=>match l9 H id with
  |.row _ _ a=>some a.length
  |_=>none
 |.sub id _ len,some ⟨.sl _ _,_,_⟩=>match l9 H id with
  |.row _ _ _=>some len
  |_=>none
 |.xx .pl c,some ⟨.sl _ _,_,_⟩=>some c.length
 |_,_=>none
def AV.ix:AV->Option Int
 |.int n=>some n
 |.u8 b=>some b.toNat
 |.u64 n=>some n
 |_=>none
def P5(T:List (Nat×TI))(t:TypeId):Option Sh:=match bt T t with
 |some ⟨.sl _ s,_,_⟩=>s
 |_=>none
def vq(H:AH)(b:Sh)(x:AV)(i:Int):=
 match x with
 |.fz s a=>match decide (b=s)with
  |true=>pr (.fe s (a.getD i.toNat (c4 s)) 0) [0<=i,i<a.length] (Mk (cellsOf s (a.getD i.toNat (c4 s))))
  |false=>none
 |.own id=>match l9 H id with
  |.row _ s a=>match decide (b=s)with
   |true=>pr (.y8 id i.toNat 0) [0<=i,i<a.length] (Mk (cellsOf s (a.getD i.toNat (c4 s))))
   |false=>none
  |_=>none
 |_=>none
def ze(H:AH):AV->Option (List AV×Nat)
 |.ptr id o=>match l9 H id with
  |.box _ a=>some (a,o)
  |_=>none
 |.y8 id i o=>match l9 H id with
  |.row _ s b=>some (cellsOf s (b.getD i (c4 s)),o)
  |_=>none
 |.fe s x o=>some (cellsOf s x,o)
 |.xx .pa [q]=>some ([.ptr q.1 q.2],0)
 |_=>none
def GN(T:List (Nat×TI))(H:AH)(t:TypeId)(x:AV):Option PR:=
 match bt T t,ze H x with
 |some b,some (c,o)=>match b.k,ble (o+b.size) c.length with
  |.st _,true=>some ⟨.one (.agg ((c.drop o).take b.size)),[],[]⟩
  |.ar _ _,true=>some ⟨.one (.agg ((c.drop o).take b.size)),[],[]⟩
  |.oth,_=>none
  |.st _,_=>none
  |.ar _ _,_=>none
  |_,_=>match c[o]? with
   |some a=>pr a [] []
   |none=>none
 |_,_=>none
def AV.rR(k:Nat):AV->Option PR
 |.ptr id o=>pr (.ptr id (o+k))
 |.y8 id i o=>pr (.y8 id i (o+k))
 |.fe s x o=>pr (.fe s x (o+k))
 |_=>none
def mU(T:List (Nat×TI))(t:TypeId)(x:AV)(l h:Option Int):=
 match x with
 |.fz s a=>match P5 T t with
  |some c=>match decide (c=s)with
   |true=>match l,h with
    |some l,none=>pr (.fz s (a.drop l.toNat)) [0<=l,l<=a.length]
    |none,some h=>pr (.fz s (a.take h.toNat)) [0<=h,h<=a.length]
    |some l,some h=>pr (.fz s ((a.drop l.toNat).take (h.toNat-l.toNat))) [0<=l,l<=h,h<=a.length]
    |_,_=>none
   |false=>none
  |none=>none
 |.str s=>match bt T t with
  |some ⟨.str,_,_⟩=>match l,h with
   |some l,none=>pr (.str ⟨s.b.drop l.toNat⟩) [0<=l,l<=s.b.length]
   |none,some h=>pr (.str ⟨s.b.take h.toNat⟩) [0<=h,h<=s.b.length]
   |some l,some h=>pr (.str ⟨(s.b.drop l.toNat).take (h.toNat-l.toNat)⟩) [0<=l,l<=h,h<=s.b.length]
   |_,_=>none
  |_=>none
 |_=>none
def oh.cells:oh->List AV
 |.c a=>[a]
 |.agg l=>l
def Fh(fr:lg):List Operand->Option (List oh)
 |[]=>some []
 |x::r=>match ez fr x,Fh fr r with
  |some (.one a),some l=>some (a::l)
  |_,_=>none
def zq(fr:lg):List (Nat×Operand)->Option (List (Nat×oh))
 |[]=>some []
 |(i,x)::r=>match ez fr x,zq fr r with
  |some (.one a),some l=>some ((i,a)::l)
  |_,_=>none
def F3(l:List AV)o(a:List AV):=l.take o++a++l.drop (o+a.length)
def nv(a:List (Nat×Nat)):List AV->List (Nat×oh)->Option (List AV)
 |z,[]=>some z
 |z,(i,v)::r=>match a[i]? with
  |some (o,n)=>match Nat.beq v.cells.length n&&ble (o+n) z.length with
   |true=>nv a (F3 z o v.cells) r
   |false=>none
  |none=>none
def oL:Nat->Nat->List (Nat×Nat)
 |_,0=>[]
 |k,n+1=>(k,1)::oL (k+1) n
def nn:List oh->Option (List (Nat×Nat))
 |[]=>some []
 |.c (.ptr id o)::r=>match nn r with
  |some l=>some ((id,o)::l)
  |none=>none
 |_=>none
def AV.plain:AV->Bool
 |.int _=>true
 |.u8 _=>true
 |.u64 _=>true
 |.bool _=>true
 |.str _=>true
 |.em _=>true
 |.fz _ _=>true
 |.li _ _=>true
 |_=>false
def R0(T:List (Nat×TI))(e:TypeId):Option Sh:=match bt T e with
 |some ⟨.i .i64,1,_⟩=>some .int
 |some ⟨.i .u8,1,_⟩=>some .u8
 |some ⟨.i .u64,1,_⟩=>some .u64
 |some ⟨.bool,1,_⟩=>some .bool
 |some ⟨.str,1,_⟩=>some .str
 |_=>none
def wg(s:Sh):List AV->Option (List (l7 s))
 |[]=>some []
 |a::r=>match iG s [a],wg s r with
  |some x,some l=>some (x::l)
  |_,_=>none
def zn(s:Sh)(a:List (l7 s)):Nat->Nat->List AV
 |_,0=>[]
 |k,n+1=>cellsOf s (a.getD k (c4 s))++zn s a (k+1) n
def Rl(T:List (Nat×TI))(t:TypeId)(a:List AV):AO:=match bt T t with
 |some ⟨.ar m e,_,_⟩=>match R0 T e with
  |some s=>match wg s a with
   |some b=>match Nat.beq b.length m&&Nat.beq s.size 1 with
    |true=>.A8 t s m b
    |false=>.box t a
   |none=>.box t a
  |none=>.box t a
 |_=>.box t a
def tK(T:List (Nat×TI))(H:AH)(t:TypeId)(x:AV):Option PR:=
 match x with
 |.ptr id o=>match l9 H id with
  |.A8 _ s n b=>match bt T t with
   |some ⟨.ar m _,sz,_⟩=>match Nat.beq o 0&&Nat.beq m n&&Nat.beq sz n&&Nat.beq s.size 1 with
    |true=>some ⟨.one (.agg (zn s b 0 n)),[],[]⟩
    |false=>none
   |some c=>match c.k,Nat.beq s.size 1,cellsOf s (b.getD o (c4 s))with
    |.st _,_,_=>none
    |.ar _ _,_,_=>none
    |.oth,_,_=>none
    |_,true,[a]=>pr a [o<n] a.ok
    |_,_,_=>none
   |none=>none
  |_=>none
 |_=>none
def AM(T:List (Nat×TI))(e:TypeId):Bool:=match bt T e with
 |some ⟨.ptr,1,[.np]⟩=>true
 |_=>false
def jK(T:List (Nat×TI))(H:AH)(t:TypeId)(x:AV)(i:Int):Option PR:=
 match x,bt T t with
 |.ptr id 0,some ⟨.ar m e,_,_⟩=>match l9 H id,R0 T e with
  |.A8 _ s n _,some _=>match Nat.beq m n&&Nat.beq s.size 1 with
   |true=>pr (.ptr id i.toNat) [0<=i,i<n]
   |false=>none
  |_,_=>none
 |.xx .pl a,some ⟨.sl e none,_,_⟩=>match AM T e,a[i.toNat]? with
  |true,some q=>pr (.xx .pa [q]) [0<=i,i<a.length]
  |_,_=>none
 |_,_=>none
def tU(g:Nat):List I7->Option I7
 |[]=>none
 |e::r=>bif Nat.beq g e.g then some e else tU g r
def uT(T:List (Nat×TI))(t:TypeId)(x:Operand)(i:Int):=
 match x with
 |.global g=>match tU g XN,bt T t with
  |some e,some ⟨.ar m a,_,_⟩=>match R0 T a with
   |some s=>match (s=e.s)&&Nat.beq m e.xs.length with
    |true=>pr (.fe e.s (e.xs.getD i.toNat (c4 e.s)) 0) [0<=i,i<m] (Mk (cellsOf e.s (e.xs.getD i.toNat (c4 e.s))))
    |false=>none
   |none=>none
  |_,_=>none
 |_=>none
def ng(T:List (Nat×TI))(t:TypeId)(c:List AV)(i:Int):Option PR:=
 match bt T t with
 |some ⟨.ar m e,_,_⟩=>match R0 T e with
  |some s=>match wg s c with
   |some b=>match Nat.beq b.length m,cellsOf s (b.getD i.toNat (c4 s))with
    |true,[a]=>pr a [0<=i,i<m] a.ok
    |_,_=>none
   |none=>none
  |none=>none
 |_=>none
structure B5 where
 pre:List Prop:=[]
 rs:List oh
 out:Option AH:=none
 dc:Bool:=false
abbrev ic:=Nat->List oh->AH->Option B5
def ab5(a:ic):=(a 1000000000 [] []).isSome
def jQ(a b:Int):=IntKind.i64.wrap (a-b)
def acs(a:ic):=(a 1000000001 [] []).isSome
def adH(a b:Int):=IntKind.i64.wrap (a+b)
def ad_(d:ic)(c:BinOp)(a b:AV):Option PR:=match ab5 d,acs d,c,a,b with
 |true,_,.sub,.int x,.int y=>pr (.int (jQ x y))
 |_,true,.add,.int x,.int y=>pr (.int (adH x y))
 |_,_,c,a,b=>aeI c a b
def AV.ids:AV->List Nat
 |.own i=>[i]
 |.sub i _ _=>[i]
 |.y8 i _ _=>[i]
 |.ptr i _=>[i]
 |.fn _ b c=>b.map (·.1)++c.map (·.1)
 |.mq i=>[i]
 |.xx _ a=>a.map (·.1)
 |_=>[]
def zb:List AV->List Nat
 |[]=>[]
 |a::r=>a.ids++zb r
def tc:List oh->List Nat
 |[]=>[]
 |a::r=>zb a.cells++tc r
def Tw:List (Int×AV)->List Nat
 |[]=>[]
 |(_,a)::r=>a.ids++Tw r
def AO.ids:AO->List Nat
 |.box _ a=>zb a
 |.r9 l=>Tw l
 |_=>[]
def cZ(i:Nat):List Nat->Bool
 |[]=>false
 |j::r=>bif Nat.beq i j then true else cZ i r
def reach(H:AH):Nat->List Nat->List Nat->List Nat
 |0,_,seen=>seen
 |_+1,[],seen=>seen
 |n+1,i::r,seen=>bif cZ i seen then reach H n r seen else reach H n ((l9 H i).ids++r) (seen++[i])
def posOf(i:Nat):List Nat->Nat
 |[]=>0
 |j::r=>bif Nat.beq i j then 0 else posOf i r+1
def Oj(f:Nat->Nat):List (Nat×Nat)->List (Nat×Nat)
 |[]=>[]
 |(i,o)::r=>(f i,o)::Oj f r
def AV.nH(f:Nat->Nat):AV->AV
 |.own i=>.own (f i)
 |.sub i o l=>.sub (f i) o l
 |.y8 i k o=>.y8 (f i) k o
 |.ptr i o=>.ptr (f i) o
 |.fn g b c=>.fn g (Oj f b) (Oj f c)
 |.mq i=>.mq (f i)
 |.xx k d=>.xx k (Oj f d)
 |a=>a
def Ni(f:Nat->Nat):List AV->List AV
 |[]=>[]
 |a::r=>a.nH f::Ni f r
def oh.nH(f:Nat->Nat):oh->oh
 |.c a=>.c (a.nH f)
 |.agg l=>.agg (Ni f l)
def kq(f:Nat->Nat):List oh->List oh
 |[]=>[]
 |a::r=>a.nH f::kq f r
def ZR(f:Nat->Nat):List (Int×AV)->List (Int×AV)
 |[]=>[]
 |(k,a)::r=>(k,a.nH f)::ZR f r
def AO.nH(f:Nat->Nat):AO->AO
 |.box t a=>.box t (Ni f a)
 |.r9 l=>.r9 (ZR f l)
 |o=>o
def ru(f:Nat->Nat):List AO->List AO
 |[]=>[]
 |a::r=>a.nH f::ru f r
def Io(H:AH):List AV->List AV
 |[]=>[]
 |a::r=>a.vw H::Io H r
def oh.vw(H:AH):oh->oh
 |.c a=>.c (a.vw H)
 |.agg l=>.agg (Io H l)
def LJ(H:AH):List oh->List oh
 |[]=>[]
 |a::r=>a.vw H::LJ H r
def uw(H:AH)(l:List oh):=reach H 64 (tc l) []
def nj(H:AH):List Nat->List AO
 |[]=>[]
 |i::r=>l9 H i::nj H r
def Jw:List oh->TV
 |[a]=>.one a
 |l=>.D8 l
def sU(σ:List Nat):List Nat->Bool
 |[]=>true
 |i::r=>cZ i σ&&sU σ r
def lV:List Nat->Bool
 |[]=>true
 |i::r=>!cZ i r&&lV r
def jc(H:AH)(σ:List Nat):List Nat->Bool
 |[]=>true
 |i::r=>blt i H.length&&sU σ (l9 H i).ids&&jc H σ r
def Sh.je:Sh->List Sh
 |.F9 s=>[s]
 |.lx=>[.int]
 |.nm t=>t.je
 |_=>[]
def kJ(f:Sh->Bool):List Sh->Bool
 |[]=>true
 |s::r=>f s&&kJ f r
def Sh.no:Nat->Sh->Sh->Bool
 |0,_,_=>false
 |n+1,b,s=>!(s=b)&&kJ (Sh.no n b) s.je
def AV.no(b:Sh):AV->Bool
 |.fz s _=>Sh.no 5 b s
 |.li _ _=>Sh.no 5 b .int
 |.fe _ _ _=>false
 |.xx k _=>match k with
  |.er _=>true
  |.bp=>true
  |.ff _ _=>true
  |.w _=>true
  |.kf _=>true
  |_=>false
 |_=>true
def S0(b:Sh):List AV->Bool
 |[]=>true
 |a::r=>a.no b&&S0 b r
def U3(b:Sh):List oh->Bool
 |[]=>true
 |a::r=>S0 b a.cells&&U3 b r
def gb:List AV->List Nat
 |[]=>[]
 |.own i::r=>i::gb r
 |.sub i _ _::r=>i::gb r
 |_::r=>gb r
def g_:List oh->List Nat
 |[]=>[]
 |a::r=>gb a.cells++g_ r
def gE(H:AH):List Nat->List Sh
 |[]=>[]
 |i::r=>match l9 H i with
  |.row _ s _=>s::gE H r
  |_=>gE H r
def rb(σ:List Nat):List Nat->Bool
 |[]=>true
 |i::r=>!cZ i σ&&rb σ r
def rh(H:AH):List Nat->Bool
 |[]=>true
 |i::r=>(match l9 H i with
  |.row _ _ _=>true
  |_=>false)&&rh H r
def Ib(c:ic)(H:AH)(f:Nat)(args:List oh):Option PR:=
 match uw H (LJ H args)with
 |σ=>match lV σ&&sU σ (tc (LJ H args))&&jc H σ σ&&rb σ (g_ args)&&rh H (g_ args)with
  |true=>match c f (kq (posOf · σ) (LJ H args)) (ru (posOf · σ) (nj H σ))with
   |some ⟨pre,a,none,_⟩=>match kJ (λb=>U3 b a) (gE H (g_ args))with
    |true=>some ⟨Jw (kq (λj=>σ.getD j 0) a),pre,Kf a⟩
    |false=>none
   |_=>none
  |false=>none
variable(T:List (Nat×TI))(m3:ic)
def jD(fr:lg)(c:Call):Option (Nat×List oh):=
 match c.callee with
 |.value f=>match ez fr f,Fh fr c.args.toList with
  |some (.one (.c (.fn g b a))),some l=>some (g,b.map (λq=>.c (.ptr q.1 q.2))++(l++a.map (λq=>.c (.ptr q.1 q.2))))
  |some (.one (.c (.xx (.kf x) []))),some l=>match x with
   |.f g=>some (g,l)
   |_=>none
  |_,_=>none
 |_=>none
def Sh.rT:Sh->Bool
 |.nm _=>true
 |_=>false
def Tp(s:Sh)(x:l7 s):oh:=bif s.rT then .agg (cellsOf s x)else match cellsOf s x with
 |[a]=>.c a
 |l=>.agg l
def Qy(m3:ic):=(m3 1000000002 [] []).isSome
def DW(n:Int):=ofNat (n%256).toNat
def SN(m3:ic)(H:AH)(s t:TK)(x:AV):Option PR:=match Qy m3,s,t,x with
 |true,.i .i64,.i .u8,.int n=>pr (.u8 (DW n))
 |_,s,t,x=>Oh H s t x
def erA(T:List (Nat×TI))(a:BinOp)(t:TypeId)(x:Option TV):Operand->Option PR
 |.const .nilIface=>match bt T t,x with
  |some ⟨.W4,_,_⟩,some (.one (.c (.xx (.er b) [])))=>match a with
   |.eql=>pr (.bool (.atom b))
   |.neq=>pr (.bool (.not (.atom b)))
   |_=>none
  |_,_=>none
 |_=>none
def uJ:Nat->List (Nat×oh)->Option (List (Nat×Nat))
 |_,[]=>some []
 |k,(i,.c (.ptr id o))::r=>match Nat.beq i k,uJ (k+1) r with
  |true,some l=>some ((id,o)::l)
  |_,_=>none
 |_,_=>none
def Pe(T:List (Nat×TI))(t:TypeId)(x y:Option TV)(ok:Bool):Option PR:=
 match bt T t,x,y with
 |some ⟨.ms _ _,_,_⟩,some (.one (.c (.xx (.fm f) []))),some (.one (.c (.str s)))=>match ok with
  |false=>pr (.int ((f s).getD 0))
  |true=>none
 |_,_,_=>none
def pvB(H:AH)(fr:lg):Op->Option PR
 |.move x=>match ez fr x with
  |some v=>some ⟨v,[],[]⟩
  |none=>none
 |.assign x=>match ez fr x with
  |some v=>some ⟨v,[],[]⟩
  |none=>none
 |.unOp .not _ x=>match ez fr x with
  |some (.one (.c (.bool e)))=>pr (.bool e.neg)
  |_=>none
 |.binOp j t x y _=>match ez fr x,ez fr y with
  |some (.one (.c a)),some (.one (.c b))=>match OD T t a with
   |true=>ad_ m3 j a b
   |false=>erA T j t (some (.one (.c a))) y
  |some (.one (.agg a)),some (.one (.agg b))=>eqG T j t a b
  |_,_=>none
 |.extract x i=>match ez fr x with
  |some (.D8 l)=>match l[i]? with
   |some a=>some ⟨.one a,[],[]⟩
   |none=>none
  |_=>none
 |.nilCheck x=>match ez fr x with
  |some (.one (.c a))=>match a with
   |.ptr _ _=>pr a
   |.y8 _ _ _=>pr a
   |.fe _ _ _=>pr a
   |.fn _ _ _=>pr a
   |_=>none
  |_=>none
 |.convert s t x=>match bt T s,bt T t,ez fr x with
  |some a,some b,some (.one (.c v))=>SN m3 H a.k b.k v
  |_,_,_=>none
 |.makeFunc (.func f) b c=>match b.toList,Fh fr c.toList with
  |[],some g=>match nn g with
   |some q=>pr (.fn f [] q)
   |none=>none
  |_,_=>none
 |.fieldAddr t x i=>match bt T t,ez fr x with
  |some ⟨.st p,_,_⟩,some (.one (.c a))=>match p[i]? with
   |some (o,_)=>a.rR o
   |none=>none
  |_,_=>none
 |.load t x=>match ez fr x with
  |some (.one (.c a))=>match tK T H t a with
   |some r=>some r
   |none=>GN T H t a
  |_=>none
 |.indexAddr t x y=>match ez fr x,ez fr y,P5 T t with
  |some (.one (.c a)),some (.one (.c b)),some s=>match b.ix with
   |some i=>vq H s a i
   |none=>none
  |some (.one (.c a)),some (.one (.c b)),none=>match b.ix with
   |some i=>jK T H t a i
   |none=>none
  |none,some (.one (.c b)),none=>match b.ix with
   |some i=>uT T t x i
   |none=>none
  |_,_,_=>none
 |.index t x y=>match ez fr x,ez fr y with
  |some (.one (.c (.str s))),some (.one (.c b))=>match b.ix with
   |some i=>match bt T t with
    |some ⟨.str,_,_⟩=>pr (.u8 (s.b.getD i.toNat 0)) [0<=i,i<s.b.length]
    |_=>none
   |none=>none
  |some (.one (.agg g)),some (.one (.c b))=>match b.ix with
   |some i=>ng T t g i
   |none=>none
  |_,_=>none
 |.lookup t x y ok=>match bt T t,ez fr x,ez fr y with
  |some ⟨.mp _ _ (some s),_,_⟩,some (.one (.c (.mq id))),some (.one (.c (.int k)))=>match l9 H id with
   |.s6 u f=>if h:u=s then(match ok with
    |false=>some ⟨.one (Tp s ((h▸f k:Option (l7 s)).getD (c4 s))),[],[]⟩
    |true=>some ⟨.D8 [Tp s ((h▸f k:Option (l7 s)).getD (c4 s)),.c (.bool (.atom (f k).isSome))],[],[]⟩)else none
   |_=>none
  |_,x,y=>Pe T t x y ok
 |.buildSlice t n d=>match bt T t,zq fr d.toList with
  |some ⟨.sl e none,_,_⟩,some l=>match uJ 0 l with
   |some g=>match Nat.beq g.length n&&AM T e&&ble n 16777216 with
    |true=>pr (.xx .pl g)
    |false=>none
   |none=>none
  |_,_=>none
 |.build t d=>match bt T t,zq fr d.toList with
  |some ⟨.st p,_,z⟩,some l=>match nv p z l with
   |some g=>some ⟨.one (.agg g),[],[]⟩
   |none=>none
  |some ⟨.ar m e,_,z⟩,some l=>match R0 T e,nv (oL 0 m) z l with
   |some _,some g=>some ⟨.one (.agg g),[],[]⟩
   |_,_=>none
  |_,_=>none
 |.slice t x l h none=>match ez fr x with
  |some (.one (.c a))=>match l,h with
   |none,none=>none
   |some l,none=>match ez fr l with
    |some (.one (.c (.int l)))=>mU T t a (some l) none
    |_=>none
   |none,some h=>match ez fr h with
    |some (.one (.c (.int h)))=>mU T t a none (some h)
    |_=>none
   |some l,some h=>match ez fr l,ez fr h with
    |some (.one (.c (.int l))),some (.one (.c (.int h)))=>mU T t a (some l) (some h)
    |_,_=>none
  |_=>none
 |.call c=>match c.callee with
  |.builtin .len=>match c.args.toList,c.argTypes.toList with
   |[x],[t]=>match ez fr x with
    |some (.one (.c a))=>match adW T H t a with
     |some n=>pr (.int n)
     |none=>none
    |_=>none
   |_,_=>none
  |.builtin .min=>match c.args.toList with
   |[x,y]=>match ez fr x,ez fr y with
    |some (.one (.c (.int a))),some (.one (.c (.int b)))=>pr (.int (min a b))
    |some (.one (.c (.u64 a))),some (.one (.c (.u64 b)))=>pr (.u64 (min a b))
    |_,_=>none
   |_=>none
  |.builtin .max=>match c.args.toList with
   |[x,y]=>match ez fr x,ez fr y with
    |some (.one (.c (.int a))),some (.one (.c (.int b)))=>pr (.int (max a b))
    |_,_=>none
   |_=>none
  |.value _=>match jD fr c with
   |some (f,l)=>Ib m3 H f l
   |none=>none
  |_=>none
 |_=>none
def wOp(c:BinOp)(a b:Nat):=match c with
 |.eql=>pr (.bool (.eq a b))
 |.neq=>pr (.bool (.not (.eq a b)))
 |.add=>pr (.xx (.w ((a+b)%4294967296)) [])
 |.mul=>pr (.xx (.w ((a*b)%4294967296)) [])
 |.rem=>pr (.xx (.w (a%b)) []) [0<b]
 |.quo=>pr (.xx (.w (a/b)) []) [0<b]
 |.or=>pr (.xx (.w (a|||b)) [])
 |_=>none
def wSh(c:BinOp)(a b:Nat):=match c with
 |.shl=>pr (.xx (.w ((a*2^b)%4294967296)) []) [b<32]
 |.shr=>pr (.xx (.w (a/2^b)) []) [b<32]
 |_=>none
def iSh(c:BinOp)(a:Int)(b:Nat):Option PR:=match c with
 |.shr=>pr (.int ((a.toNat/2^b:Nat):Int)) [0<=a,b<64]
 |_=>none
def eY:List (Int×List KC)->Int->Option (List KC)
 |[],_=>none
 |(j,a)::r,k=>if k=j then some a else eY r k
def KC.int:KC->Int
 |.i n=>n
 |_=>0
def KC.bool:KC->Bool
 |.b v=>v
 |_=>false
def Ev(a:List KC):Nat->List KC->List AV
 |_,[]=>[]
 |i,.i _::r=>.int ((a.getD i .nf).int)::Ev a (i+1) r
 |i,.b _::r=>.bool (.atom ((a.getD i .nf).bool))::Ev a (i+1) r
 |i,_::r=>.xx (.kf (a.getD i .nf)) []::Ev a (i+1) r
def Mh:List KC->List KC->Bool
 |[],[]=>true
 |.i _::r,.i n::l=>(-9223372036854775808<=n)&&(n<=9223372036854775807)&&Mh r l
 |.b _::r,.b _::l=>Mh r l
 |.f _::r,.f _::l=>Mh r l
 |.f _::r,.nf::l=>Mh r l
 |.nf::r,.f _::l=>Mh r l
 |.nf::r,.nf::l=>Mh r l
 |_,_=>false
def U2(z:List KC):List (Int×List KC)->Bool
 |[]=>Mh z z
 |(_,a)::r=>Mh z a&&U2 z r
def abn:=[(163,0),(163,1),(163,2),(163,3),(163,4),(163,5),(58,0),(58,1),(58,2),(58,3),(58,4),(58,5),(58,6),(58,7),(58,8)]
def Qh(t i:Nat):List (Nat×Nat)->Bool
 |[]=>false
 |(a,b)::r=>(Nat.beq t a&&Nat.beq i b)||Qh t i r
def yu(T:List (Nat×TI))(t:TypeId)(x:AV)(l h m:Int):=
 match x with
 |.fz s a=>match P5 T t with
  |some b=>match decide (b=s)with
   |true=>pr (.fz s ((a.drop l.toNat).take (h.toNat-l.toNat))) [0<=l,l<=h,h<=m,m<=a.length]
   |false=>none
  |none=>none
 |_=>none
def Z6(T:List (Nat×TI))(t:TypeId)(a:BinOp)(b:Bool):Option PR:=match a,bt T t with
 |.eql,some ⟨.ptr,_,_⟩=>pr (.bool (.lit b))
 |.neq,some ⟨.ptr,_,_⟩=>pr (.bool (.lit (!b)))
 |_,_=>none
def pvX(H:AH)(fr:lg):Op->Option PR
 |.binOp j t x y _=>match ez fr x,ez fr y with
  |some (.one (.c (.ptr _ _))),some (.one (.c .np))=>Z6 T t j false
  |some (.one (.c .np)),some (.one (.c .np))=>Z6 T t j true
  |some (.one (.c (.xx (.w a) []))),some (.one (.c (.xx (.w b) [])))=>wOp j a b
  |some (.one (.c (.xx (.w a) []))),some (.one (.c (.u64 b)))=>wSh j a b
  |some (.one (.c (.int a))),some (.one (.c (.u64 b)))=>iSh j a b
  |_,_=>none
 |.convert s t x=>match bt T s,bt T t,ez fr x with
  |some ⟨.i .u8,_,_⟩,some ⟨.i .u32,_,_⟩,some (.one (.c (.u8 b)))=>pr (.xx (.w b.toNat) [])
  |some ⟨.i .u32,_,_⟩,some ⟨.i .u8,_,_⟩,some (.one (.c (.xx (.w n) [])))=>pr (.u8 (ofNat n))
  |_,_,_=>none
 |.lookup t x y ok=>match bt T t,ez fr x,ez fr y with
  |some ⟨.mg _ _ z,_,_⟩,some (.one (.c (.xx (.km l) []))),some (.one (.c (.int k)))=>match U2 z l,ok with
   |true,false=>some ⟨.one (.agg (Ev ((eY l k).getD z) 0 z)),[],[]⟩
   |true,true=>some ⟨.D8 [.agg (Ev ((eY l k).getD z) 0 z),.c (.bool (.atom (eY l k).isSome))],[],[]⟩
   |_,_=>none
  |_,_,_=>none
 |.field t x i=>match bt T t,ez fr x,Qh t i abn with
  |some ⟨.st p,_,_⟩,some (.one (.agg d)),true=>match p[i]? with
   |some (o,_)=>match d[o]? with
    |some a=>pr a
    |none=>none
   |none=>none
  |_,_,_=>none
 |.makeFunc (.func f) b c=>match Fh fr b.toList,Fh fr c.toList with
  |some q,some d=>match nn q,nn d with
   |some r,some u=>pr (.fn f r u)
   |_,_=>none
  |_,_=>none
 |.indexAddr t x y=>match ez fr x,ez fr y,bt T t with
  |some (.one (.c (.ptr id 0))),some (.one (.c (.int i))),some ⟨.ar m e,_,_⟩=>match l9 H id,bt T e with
   |.box _ d,some ⟨.i .u32,1,_⟩=>match Nat.beq d.length m with
    |true=>pr (.ptr id i.toNat) [0<=i,i<m]
    |false=>none
   |_,_=>none
  |_,_,_=>none
 |.slice t x (some l) (some h) (some m)=>match ez fr x,ez fr l,ez fr h,ez fr m with
  |some (.one (.c a)),some (.one (.c (.int l))),some (.one (.c (.int h))),some (.one (.c (.int m)))=>yu T t a l h m
  |_,_,_,_=>none
 |.slice t x none (some h) (some m)=>match ez fr x,ez fr h,ez fr m with
  |some (.one (.c a)),some (.one (.c (.int h))),some (.one (.c (.int m)))=>yu T t a 0 h m
  |_,_,_=>none
 |.build t g=>match bt T t,zq fr g.toList with
  |some ⟨.ar m e,_,z⟩,some l=>match bt T e,nv (oL 0 m) z l with
   |some ⟨.i .u32,1,_⟩,some d=>some ⟨.one (.agg d),[],[]⟩
   |_,_=>none
  |_,_=>none
 |_=>none
def pv(H:AH)(fr:lg)(a:Op):Option PR:=match pvB T m3 H fr a with
 |some r=>some r
 |none=>pvX T H fr a
end Go.Proofs.YtoecbhljidgajaaGreat
namespace Go.Proofs.YtoecbhljidgajaaGreat
open Go.RowKit
structure Lv where
 wr:Nat->Bool
 mv:Nat->Bool
def jR(k:Nat):Lv:=⟨ble k,ble k⟩
def AV.kill(i:Nat):AV->AV
 |.own j=>bif Nat.beq i j then .dead else .own j
 |.sub j o l=>bif Nat.beq i j then .dead else .sub j o l
 |.y8 j k o=>bif Nat.beq i j then .dead else .y8 j k o
 |a=>a
def AV.JR(H:AH)(i:Nat):AV->AV
 |.own j=>bif Nat.beq i j then(AV.own j).vw H else .own j
 |.sub j o k=>bif Nat.beq i j then(AV.sub j o k).vw H else .sub j o k
 |.y8 j k o=>bif Nat.beq i j then .dead else .y8 j k o
 |a=>a
def uY(g:AV->AV):List AV->List AV
 |[]=>[]
 |a::r=>g a::uY g r
def oh.mapA(g:AV->AV):oh->oh
 |.c a=>.c (g a)
 |.agg l=>.agg (uY g l)
def z_(g:AV->AV):List oh->List oh
 |[]=>[]
 |a::r=>a.mapA g::z_ g r
def TV.mapA(g:AV->AV):TV->TV
 |.one t=>.one (t.mapA g)
 |.D8 l=>.D8 (z_ g l)
 |.un=>.un
def kS(g:AV->AV):lg->lg
 |[]=>[]
 |(i,v)::r=>(i,v.mapA g)::kS g r
def mapM(g:AV->AV):List (Int×AV)->List (Int×AV)
 |[]=>[]
 |(k,a)::r=>(k,g a)::mapM g r
def AO.mapA(g:AV->AV):AO->AO
 |.box t a=>.box t (uY g a)
 |.r9 l=>.r9 (mapM g l)
 |o=>o
def kW(g:AV->AV):AH->AH
 |[]=>[]
 |o::r=>o.mapA g::kW g r
structure SR where
 v:TV
 fr:lg
 H:AH
 ob:List Prop:=[]
 fc:List Prop:=[]
def pM(s:Sh):oh->Bool
 |.agg _=>s.rT
 |.c _=>!s.rT
def kB(a:Lv):List Nat->lg->AH->Option (lg×AH)
 |[],fr,H=>some (fr,H)
 |i::l,fr,H=>match l9 H i with
  |.row _ _ _=>match a.mv i&&a.wr i with
   |true=>kB a l (kS (AV.JR H i) fr) ((kW (AV.JR H i) H).set i .gone)
   |false=>none
  |_=>kB a l fr H
def qV(b:Lv)(fr:lg)(H:AH)(e:TypeId)(s:Sh)(a:List (l7 s))(x:AV):Option SR:=
 match x with
 |.em _=>some ⟨one (.own H.length),fr,H++[.row e s a],[a.length*s.bytes<=140737488355328],[]⟩
 |.own id=>match l9 H id with
  |.row d f c=>if h:f=s then(match b.mv id&&b.wr id&&Nat.beq d e with
   |true=>some ⟨one (.own id),kS (AV.kill id) fr,(kW (AV.kill id) H).set id (.row e s ((h▸c:List (l7 s))++a)),[(c.length+a.length)*s.bytes<=140737488355328],[]⟩
   |false=>none)else none
  |_=>none
 |.sub id 0 len=>match l9 H id with
  |.row d f c=>if h:f=s then(match b.mv id&&b.wr id&&Nat.beq d e with
   |true=>some ⟨one (.own id),kS (AV.kill id) fr,(kW (AV.kill id) H).set id (.row e s ((h▸c:List (l7 s)).take len++a)),[(len+a.length)*s.bytes<=140737488355328],[]⟩
   |false=>none)else none
  |_=>none
 |_=>none
def qk(T:List (Nat×TI))(a:Lv)(fr:lg)(H:AH)(t:TypeId)(x y:AV):Option SR:=
 match bt T t with
 |some ⟨.sl e (some s),_,_⟩=>match(y.vw H).iu s with
  |some b=>qV a fr H e s b x
  |none=>none
 |_=>none
def zQ(T:List (Nat×TI))(a:Lv)(fr:lg)(H:AH)(t c:TypeId)(x y:AV):Option SR:=
 match bt T t,bt T c,y with
 |some ⟨.sl e (some .u8),_,_⟩,some ⟨.str,_,_⟩,.str s=>qV a fr H e .u8 s.b x
 |_,_,_=>none
def Es(b:Lv)(fr:lg)(H:AH)(x:AV)(v:oh):Option SR:=
 match x with
 |.ptr id o=>match l9 H id with
  |.box t e=>match b.wr id&&ble (o+v.cells.length) e.length with
   |true=>some ⟨.un,fr,H.set id (.box t (F3 e o v.cells)),[],[]⟩
   |false=>none
  |.A8 t s n c=>match b.wr id&&Nat.beq s.size 1,v.cells with
   |true,[a]=>match a.plain,iG s [a]with
    |true,some d=>some ⟨.un,fr,H.set id (.A8 t s n (c.set o d)),[o<n],[]⟩
    |_,_=>none
   |true,_=>match Nat.beq o 0,wg s v.cells with
    |true,some l=>match Nat.beq l.length n with
     |true=>some ⟨.un,fr,H.set id (.A8 t s n l),[],[]⟩
     |false=>none
    |_,_=>none
   |_,_=>none
  |_=>none
 |.y8 id i o=>match l9 H id with
  |.row t s c=>match b.wr id&&ble (o+v.cells.length) s.size&& !cZ id (gb v.cells),iG s (F3 (cellsOf s (c.getD i (c4 s))) o (Io H v.cells)),kB b (gb v.cells) fr H with
   |true,some d,some q=>some ⟨.un,q.1,q.2.set id (.row t s (c.set i d)),[],[]⟩
   |_,_,_=>none
  |_=>none
 |_=>none
def uO(s:Sh)(H:AH):List (Nat×oh)->Nat->Option (List (l7 s))
 |[],_=>some []
 |(i,v)::r,k=>match Nat.beq i k,iG s (Io H v.cells),uO s H r (k+1)with
  |true,some x,some l=>some (x::l)
  |_,_,_=>none
def Gb:List (Nat×oh)->List Nat
 |[]=>[]
 |(_,v)::r=>gb v.cells++Gb r
def oI(f:Nat->AO):List Nat->AH->AH
 |[],H=>H
 |i::r,H=>oI f r (H.set i (f i))
def AV.di(l:List Nat):AV->AV
 |.own j=>bif cZ j l then .dead else .own j
 |.sub j o k=>bif cZ j l then .dead else .sub j o k
 |.y8 j k o=>bif cZ j l then .dead else .y8 j k o
 |a=>a
def rowsOf(H:AH):List Nat->List Nat
 |[]=>[]
 |i::r=>match l9 H i with
  |.row _ _ _=>i::rowsOf H r
  |.loc=>i::rowsOf H r
  |_=>rowsOf H r
def Ck(a:Lv):List Nat->Bool
 |[]=>true
 |i::r=>a.wr i&&a.mv i&&Ck a r
def W9(b:Sh):List (Int×AV)->Bool
 |[]=>true
 |(_,a)::r=>a.no b&&W9 b r
def vF(b:Sh):List AO->Bool
 |[]=>true
 |.box _ a::r=>S0 b a&&vF b r
 |.row _ s _::r=>kJ (Sh.no 5 b) s.je&&vF b r
 |.gone::r=>vF b r
 |.s6 s _::r=>kJ (Sh.no 5 b) s.je&&vF b r
 |.A8 _ s _ _::r=>kJ (Sh.no 5 b) s.je&&vF b r
 |.r9 l::r=>W9 b l&&vF b r
 |.loc::r=>vF b r
def ir(H:AH)(σ:List Nat)(j:Nat):=bif ble σ.length j then H.length+(j-σ.length)else σ.getD j 0
def Iz(h:ic)(g:Lv)(fr:lg)(H:AH)(f:Nat)(a:List oh)(c:List Nat):Option SR:=
 match uw H a with
 |σ=>match lV σ&&sU σ (tc a)&&jc H σ σ&&rb σ c&&Ck g σ with
  |true=>match h f (kq (posOf · σ) a) (ru (posOf · σ) (nj H σ))with
   |some ⟨pre,e,some d,_⟩=>match ble σ.length d.length&&kJ (λb=>U3 b e&&vF b d) (gE H c)with
    |true=>some ⟨Jw (kq (ir H σ) e),kS (AV.di (rowsOf H σ)) fr,oI (λi=>(d.getD (posOf i σ) .gone).nH (ir H σ)) σ (kW (AV.di (rowsOf H σ)) H)++ru (ir H σ) (d.drop σ.length),pre,Kf e⟩
    |false=>none
   |_=>none
  |false=>none
def QJ(d:ic)(fr:lg)(H:AH)(f:Nat)(a:List oh):Option SR:=
 match uw H a with
 |σ=>match lV σ&&sU σ (tc a)&&jc H σ σ with
  |true=>match d f (kq (posOf · σ) a) (ru (posOf · σ) (nj H σ))with
   |some ⟨pre,b,some c,true⟩=>match ble σ.length c.length with
    |true=>some ⟨Jw (kq (ir H σ) b),fr,H++ru (ir H σ) (c.drop σ.length),pre,Kf b⟩
    |false=>none
   |_=>none
  |false=>none
def QW(b:ic)(a:Lv)(fr:lg)(H:AH)(f:Nat)(args:List oh):Option SR:=
 match QJ b fr H f args with
 |some r=>some r
 |none=>match rh H (g_ args),Iz b a fr H f (LJ H args) (g_ args)with
 |true,some r=>some r
 |_,_=>Iz b a fr H f args []
def Mx(T:List (Nat×TI))(a:Lv)(fr:lg)(H:AH)(t:TypeId)(x y z:Operand):Option SR:=
 match bt T t,ez fr x,ez fr y,ez fr z with
 |some ⟨.mp _ _ (some s),_,_⟩,some (.one (.c (.mq id))),some (.one (.c (.int k))),some (.one v)=>match l9 H id with
  |.s6 b f=>if h:b=s then(match a.wr id&&pM s v&& !cZ id (gb v.cells),iG s (Io H v.cells),kB a (gb v.cells) fr H with
   |true,some d,some q=>some ⟨.un,q.1,q.2.set id (.s6 s λj=>if j=k then some d else(h▸f:Int->Option (l7 s)) j),[],[]⟩
   |_,_,_=>none)else none
  |_=>none
 |_,_,_,_=>none
def Ng(T:List (Nat×TI))(b:Lv)(fr:lg)(H:AH)(t:TypeId)(x y z:Operand):Option SR:=
 match bt T t,ez fr x,ez fr y,ez fr z with
 |some ⟨.mp _ _ none,_,_⟩,some (.one (.c (.mq id))),some (.one (.c (.int k))),some (.one (.c a))=>match l9 H id with
  |.r9 l=>match b.wr id with
   |true=>some ⟨.un,fr,H.set id (.r9 ((k,a)::l)),[],[]⟩
   |false=>none
  |_=>none
 |_,_,_,_=>none
def GQ(T:List (Nat×TI))(a:Lv)(fr:lg)(H:AH)(t:TypeId)(x y z:Operand):Option SR:=match Mx T a fr H t x y z with
 |some r=>some r
 |none=>Ng T a fr H t x y z
def Qe(d:ic)(a:Lv)(fr:lg)(H:AH)(c:Call)(l:List oh):Option SR:=match kB a (g_ l) fr H with
 |some q=>match jD q.1 c with
  |some (f,b)=>match Ib d q.2 f b with
   |some r=>some ⟨r.v,q.1,q.2,r.ob,r.fc⟩
   |none=>none
  |none=>none
 |none=>none
variable(T:List (Nat×TI))(m3:ic)(ro:Lv)
def svB(fr:lg)(H:AH):Op->Option SR
  |.box t x=>match ez fr x with
    |some (.one v)=>some ⟨one (.ptr H.length 0),fr,H++[Rl T t v.cells],[],[]⟩
    |_=>none
  |.alloc t=>match bt T t with
    |some g=>some ⟨one (.ptr H.length 0),fr,H++[Rl T t g.zero],[],[]⟩
    |none=>none
  |.store t x v=>match ez fr x,ez fr v,bt T t with
    |some (.one (.c a)),some (.one b),some g=>match Nat.beq g.size b.cells.length with
      |true=>Es ro fr H a b
      |false=>none
    |_,_,_=>none
  |.buildSlice t n d=>match bt T t,zq fr d.toList with
    |some ⟨.sl e (some s),_,_⟩,some l=>match uO s H l 0,kB ro (Gb l) fr H with
      |some h,some q=>match Nat.beq h.length n&&ble (n*s.size) 16777216&&ble (n*s.bytes) 140737488355328 with
        |true=>match n with
          |0=>some ⟨one (.em false),fr,H,[],[]⟩
          |_=>some ⟨one (.own q.2.length),q.1,q.2++[.row e s h],[],[]⟩
        |false=>none
      |_,_=>none
    |_,_=>none
  |.makeMap t none=>match bt T t with
    |some ⟨.mp _ _ (some s),_,_⟩=>some ⟨one (.mq H.length),fr,H++[.s6 s λ_=>none],[],[]⟩
    |some ⟨.mp _ _ none,_,_⟩=>some ⟨one (.mq H.length),fr,H++[.r9 []],[],[]⟩
    |_=>none
  |.insert t x y z=>GQ T ro fr H t x y z
  |.mapUpdate t x y z=>GQ T ro fr H t x y z
  |.makeSlice t n m=>match bt T t,ez fr n,ez fr m with
    |some ⟨.sl e (some s),_,_⟩,some (.one (.c (.int k))),some (.one (.c (.int o)))=>match Nat.beq s.size 1 with
     |true=>some ⟨one (.own H.length),fr,H++[.row e s (List.replicate k.toNat (c4 s))],[0<=k,k*s.bytes<=140737488355328,o=k],[]⟩
     |false=>none
    |_,_,_=>none
  |.slice t x lo p u=>match ez fr x with
    |some (.one (.c (.own i)))=>match kB ro [i] fr H with
      |some q=>match pv T m3 q.2 q.1 (.slice t x lo p u)with
        |some r=>some ⟨r.v,q.1,q.2,r.ob,r.fc⟩
        |none=>none
      |none=>none
    |_=>none
  |.call c=>match c.callee with
    |.builtin .append=>match c.args.toList,c.argTypes.toList with
      |[x,y],[t,j]=>match Nat.beq t j,ez fr x,ez fr y with
        |true,some (.one (.c a)),some (.one (.c b))=>qk T ro fr H t a b
        |false,some (.one (.c a)),some (.one (.c b))=>zQ T ro fr H t j a b
        |_,_,_=>none
      |_,_=>none
    |.value _=>match jD fr c with
      |some (f,l)=>match QW m3 ro fr H f l with
        |some r=>some r
        |none=>Qe m3 ro fr H c l
      |none=>none
    |_=>none
  |_=>none
def aml(m3:ic):=(m3 1000000003 [] []).isSome
def ac7(ro:Lv)(fr:lg)(H:AH)(x:AV)(h:Int):Option SR:=
 match x with
 |.own id=>match l9 H id with
  |.row e s a=>match ro.mv id&&ro.wr id with
   |true=>some ⟨one (.own id),kS (AV.kill id) fr,(kW (AV.kill id) H).set id (.row e s (a.take h.toNat)),[0<=h,h<=a.length],[]⟩
   |false=>none
  |_=>none
 |_=>none
def OC(T:List (Nat×TI))(ro:Lv)(H:AH)(t c:TypeId)(x y:AV):Option SR:=
 match x,bt T t,bt T c with
 |.own id,some ⟨.sl _ (some s),_,_⟩,some ⟨.sl _ _,_,_⟩=>match l9 H id,(y.vw H).iu s,gb [y]with
  |.row e d a,some b,l=>if h:d=s then(match ro.wr id&& !cZ id l with
   |true=>some ⟨one (.int (min b.length a.length:Nat)),[],H.set id (.row e s (b.take a.length++(h▸a:List (l7 s)).drop b.length)),[],[]⟩
   |false=>none)else none
  |_,_,_=>none
 |_,_,_=>none
def svX(fr:lg)(H:AH):Op->Option SR
 |.call c=>match c.callee with
  |.builtin .copy=>match c.args.toList,c.argTypes.toList with
   |[x,y],[t,d]=>match ez fr x,ez fr y with
    |some (.one (.c a)),some (.one (.c b))=>match OC T ro H t d a b with
     |some r=>some ⟨r.v,fr,r.H,r.ob,r.fc⟩
     |none=>none
    |_,_=>none
   |_,_=>none
  |_=>none
 |_=>none
def svC(fr:lg)(H:AH):Op->Option SR
  |.slice t x none (some h) none=>match aml m3,ez fr x,ez fr h,bt T t with
    |true,some (.one (.c a)),some (.one (.c (.int h))),some ⟨.sl _ (some _),_,_⟩=>ac7 ro fr H a h
    |_,_,_,_=>none
  |.makeSlice t (.const (.int .i64 0)) (.tmp m)=>match bt T t,ez fr (.tmp m)with
    |some ⟨.sl e (some s),_,_⟩,some (.one (.c (.int k)))=>match Nat.beq s.size 1 with
     |true=>some ⟨one (.own H.length),fr,H++[.row e s []],[0<=k,k*s.bytes<=140737488355328],[]⟩
     |false=>none
    |_,_=>none
  |_=>none
def sv(fr:lg)(H:AH)(a:Op):Option SR:=match svC T m3 ro fr H a with
 |some r=>some r
 |none=>match svB T m3 ro fr H a with
  |some r=>some r
  |none=>svX T ro fr H a
def lu:List Prop->Prop
 |[]=>True
 |[p]=>p
 |p::q::l=>p/\lu (q::l)
def same(b:Bool):=bif b then[]else[False]
def zg:List Prop->Prop->Prop
 |[],R=>R
 |p::l,R=>p/\zg l R
def oq:List Prop->Prop->Prop
 |[],R=>R
 |p::l,R=>p->oq l R
def td(d:Option Nat)(v:TV)(fr:lg):lg:=match d with
 |some d=>(d,v)::fr
 |none=>fr
def sf(t:Nat):Oper->Bool
 |⟨_,.pick (.tmp u) _ _,_,_,_,_⟩=>Nat.beq t u
 |_=>false
def uy(t:Nat):List Oper->Option (List Oper×Oper×List Oper)
 |[]=>none
 |o::r=>bif sf t o then some ([],o,r)else match uy t r with
  |some (a,b,c)=>some (o::a,b,c)
  |none=>none
def BY:Option TV->Option BE
 |some (.one (.c (.bool e)))=>some e
 |_=>none
def aa2(e:BE)(w:Bool)(on a:Option TV):Option BE:=
 match w,BY on,BY a with
 |true,some x,some (.lit false)=>some (.and e x)
 |false,some x,some (.lit true)=>some (.or e x)
 |_,_,_=>none
structure GR where
 fr:lg
 ob:List Prop
 fc:List Prop
def ko(fr:lg):Option Nat->Bool
 |none=>true
 |some d=>match l6 fr d with
  |none=>true
  |some _=>false
def Ez(l:List Oper)(fr:lg)(j:Nat)(w:Bool):List Nat->List Oper->Bool
 |_,[]=>true
 |us,o::r=>ko fr o.dst&&(match o.guard with
  |some (a,b)=>(Nat.beq a j&&(b==w))||(match s5 l a with
   |some t=>cZ t us
   |none=>false)
  |none=>false)&&Ez l fr j w (match o.dst with
   |some d=>d::us
   |none=>us) r
def Mr(a b:Option (Nat×Bool)):=match a,b with
 |none,none=>true
 |some (i,x),some (j,y)=>Nat.beq i j&&(x==y)
 |_,_=>false
def rm(e:BE)(w:Bool):List Prop->List Prop
 |[]=>[]
 |ob=>[e.p w->lu ob]
structure U8 where
 d:Nat
 v:BE
 ob:List Prop
 fc:List Prop
 tail:List Oper
def UT(l:List Oper)(fr:lg)(g:Option (Nat×Bool))(f:Option (Nat×Bool)->List Oper->lg->Option GR)(j:Nat)(w:Bool)(h:List Oper):Option U8:=
 match s5 l j with
 |some t=>match BY (l6 fr t),uy t h with
  |some e,some (a,c,b)=>match Ez l fr j w [] a&&Mr c.guard g&&ko fr c.dst,f (some (j,w)) a fr with
   |true,some q=>match c.op,c.dst with
    |.pick _ x y,some d=>match aa2 e w (ez q.fr (cond w x y)) (ez fr (cond w y x))with
     |some v=>some ⟨d,v,rm e w q.ob,rm e w q.fc,b⟩
     |none=>none
    |_,_=>none
   |_,_=>none
  |_,_=>none
 |none=>none
def Ky(l:List Oper)(H:AH):Nat->Option (Nat×Bool)->List Oper->lg->Option GR
 |0,_,_,_=>none
 |_+1,_,[],fr=>some ⟨fr,[],[]⟩
 |n+1,g,o::a,fr=>
  match Mr o.guard g with
  |true=>match ko fr o.dst,pv T m3 H fr o.op with
   |true,some r=>match Ky l H n g a (td o.dst r.v fr)with
    |some q=>some ⟨q.fr,r.ob++q.ob,r.fc++q.fc⟩
    |none=>none
   |_,_=>none
  |false=>match o.guard with
   |some (j,w)=>match UT l fr g (Ky l H n) j w (o::a)with
    |some r=>match Ky l H n g r.tail ((r.d,one (.bool r.v))::fr)with
     |some q=>some ⟨q.fr,r.ob++q.ob,r.fc++q.fc⟩
     |none=>none
    |none=>none
   |none=>none
def F0:Op->Bool
 |.store _ _ _=>true
 |.insert _ _ _ _=>true
 |.mapUpdate _ _ _ _=>true
 |_=>false
def VN(o:Oper):Bool:=match F0 o.op,o.dst with
 |true,some _=>false
 |_,_=>true
structure IxR where
 s:Sh
 xs:List (l7 s)
 i:Int
def atA(fr:lg):Op->Option IxR
 |.indexAddr t x y=>match ez fr x,ez fr y,P5 T t with
  |some (.one (.c (.fz s a))),some (.one (.c b)),some d=>match decide (d=s),b.ix with
   |true,some i=>some ⟨s,a,i⟩
   |_,_=>none
  |_,_,_=>none
 |_=>none
structure xab where
 s:Sh
 xs:List (l7 s)
 ne:Bool
def abr(H:AH)(fr:lg):Op->Option xab
 |.binOp d t x y _=>match d,bt T t,ez fr x,ez fr y with
  |.eql,some ⟨.sl _ _,_,_⟩,some (.one (.c a)),some (.one (.c (.em true)))=>match a.vw H with
   |.fz s b=>some ⟨s,b,false⟩
   |_=>none
  |.neq,some ⟨.sl _ _,_,_⟩,some (.one (.c a)),some (.one (.c (.em true)))=>match a.vw H with
   |.fz s b=>some ⟨s,b,true⟩
   |_=>none
  |_,_,_,_=>none
 |_=>none
def adV:Bool->Bool->BE
 |true,b=>.not (.atom b)
 |false,b=>.atom b
structure MpR where
 k:Int
 ok:Bool
 l:List (Int×AV)
def mapA(H:AH)(fr:lg):Op->Option MpR
 |.lookup t x y ok=>match bt T t,ez fr x,ez fr y with
  |some ⟨.mp _ _ none,_,_⟩,some (.one (.c (.mq id))),some (.one (.c (.int k)))=>match l9 H id with
   |.r9 l=>some ⟨k,ok,l⟩
   |_=>none
  |_,_,_=>none
 |_=>none
def L_:Bool->AV->Bool->TV
 |true,a,b=>.D8 [.c a,.c (.bool (.lit b))]
 |false,a,_=>one a
def zP(k:Int)(ok:Bool)(K:TV->Prop):List (Int×AV)->Prop
 |[]=>K (L_ ok .nf false)
 |(j,a)::r=>(k=j->K (L_ ok a true))/\(¬k=j->zP k ok K r)
structure SpR where
 e:BE
 on:List Oper
 d:Nat
 off:Operand
 tail:List Oper
def alQ(l:List Oper)(fr:lg)(j:Nat)(w:Bool)(f:List Oper):Option SpR:=
 match s5 l j with
 |some t=>match BY (l6 fr t),uy t f with
  |some e,some (c,b,a)=>match Ez l fr j w [] c&&Mr b.guard none&&ko fr b.dst,b.op,b.dst with
   |true,.pick _ x y,some d=>some ⟨e,c.map (OQ j w)++⟨some d,.move (cond w x y),b.type,b.pos,b.after,none⟩::a,d,cond w y x,a⟩
   |_,_,_=>none
  |_,_=>none
 |none=>none
def wpOps(l:List Oper)(K:lg->AH->Prop):Nat->List Oper->lg->AH->Prop
  |0,_,_,_=>False
  |_+1,[],fr,H=>K fr H
  |n+1,o::a,fr,H=>
    match o.guard with
    |none=>match atA T fr o.op with
     |some ⟨s,c,i⟩=>0<=i/\i<c.length/\∀x,c[i.toNat]? =some x->oq (Mk (cellsOf s x)) (wpOps l K n a (td o.dst (one (.fe s x 0)) fr) H)
     |none=>match abr T H fr o.op with
     |some ⟨_,c,f⟩=>∀b:Bool,(b=true->c=[])->wpOps l K n a (td o.dst (one (.bool (adV f b))) fr) H
     |none=>match mapA T H fr o.op with
     |some m=>zP m.k m.ok (λv=>wpOps l K n a (td o.dst v fr) H) m.l
     |none=>match pv T m3 H fr o.op with
      |some r=>zg r.ob (oq r.fc (wpOps l K n a (td o.dst r.v fr) H))
      |none=>match VN o,sv T m3 ro fr H o.op with
        |true,some r=>zg r.ob (oq r.fc (wpOps l K n a (td o.dst r.v r.fr) r.H))
        |_,_=>False
    |some (j,w)=>match UT l fr none (Ky T m3 l H n) j w (o::a)with
      |some r=>zg r.ob (oq r.fc (wpOps l K n r.tail ((r.d,one (.bool r.v))::fr) H))
      |none=>match alQ l fr j w (o::a)with
        |some r=>(r.e.p w->wpOps l K n r.on fr H)/\(r.e.p (!w)->match ez fr r.off with
          |some v=>wpOps l K n r.tail ((r.d,v)::fr) H
          |none=>False)
        |none=>False
structure LI where
 σ:Type
 F:σ->lg×AH
 J:σ->Prop
 μ:σ->Nat
 R:Option (σ->σ->Prop):=none
 un:Option (Nat×List Nat):=none
def LI.rel(I:LI)(a b:I.σ):=match I.R with
 |none=>True
 |some r=>r a b
def LI.aD(I:LI)(a b:I.σ)(p:Prop):=match I.R with
 |none=>p
 |some r=>r a b/\p
def LI.imp(I:LI)(a b:I.σ)(p:Prop):=match I.R with
 |none=>p
 |some r=>r a b->p
variable{I:LI}
def LI.IB{a b:I.σ}{p:Prop}:I.aD a b p↔I.rel a b/\p:=by
 unfold LI.aD LI.rel;cases I.R<;>simp
def LI.WA{a b:I.σ}{p:Prop}:I.imp a b p↔(I.rel a b->p):=by
 unfold LI.imp LI.rel;cases I.R<;>simp
def aaA:List (Nat×LI)->Option Nat->Option LI
 |[],_=>none
 |_,none=>none
 |(j,v)::r,some i=>bif Nat.beq j i then some v else aaA r (some i)
def mC:Code->Option Nat
 |.region i _ _=>some i
 |.seq a b=>match mC a with
  |some i=>some i
  |none=>mC b
 |.cond _ a b=>match mC a with
  |some i=>some i
  |none=>mC b
 |.block _ a=>mC a
 |.loop a=>mC a
 |.scope a=>mC a
 |_=>none
def x4:Nat->Nat->List Nat
 |_,0=>[]
 |k,n+1=>k::x4 (k+1) n
def Mn:List Nat->Nat->Nat->Bool
 |[],_,_=>false
 |k::_,0,i=>Nat.beq k i
 |_::r,j+1,i=>Mn r j i
def KP(n:Nat):List Nat->Nat->Bool
 |[],_=>false
 |k::_,0=>ble n k
 |_::r,j+1=>KP n r j
def sQ(σ:List Nat):List (Nat×Nat)->List (Nat×Nat)->Bool
 |[],[]=>true
 |(i,o)::r,(j,a)::l=>Mn σ j i&&Nat.beq o a&&sQ σ r l
 |_,_=>false
def ags(H:AH)(σ:List Nat)(j:Nat):Bool:=match σ[j]? with
 |some i=>match l9 H i with
  |.box _ _=>true
  |_=>false
 |none=>false
def eqX(σ:List Nat):XK->XK->List (Nat×Nat)->List (Nat×Nat)->List Prop
 |.er a,.er b,[],[]=>[a=b]
 |.bp,.bp,b,c=>same (sQ σ b c)
 |.ff s d,.ff f e,[],[]=>if h:s=f then[(h▸d:List (l7 f))=e]else[False]
 |.mx a d,.mx b e,[],[]=>[a=b,d=e]
 |.w a,.w b,[],[]=>[a=b]
 |.pl,.pl,b,c=>same (sQ σ b c)
 |.pa,.pa,b,c=>same (sQ σ b c)
 |_,_,_,_=>[False]
def amq(H:AH)(σ:List Nat):XK->List (Nat×Nat)->List Prop
 |.bp,[q]=>same (ags H σ q.1)
 |_,_=>[False]
def amb(σ:List Nat)(i o:Nat):XK->List (Nat×Nat)->List Prop
 |.bp,[q]=>same (Mn σ q.1 i&&Nat.beq o q.2)
 |_,_=>[False]
def Y5(H:AH)(n:Nat)(σ:List Nat):AV->AV->List Prop
 |.int a,.int b=>[a=b]
 |.u8 a,.u8 b=>[a=b]
 |.u64 a,.u64 b=>[a=b]
 |.bool a,.bool b=>[a.val=b.val]
 |.str a,.str b=>[a=b]
 |.li a e,.li b d=>[a=b,e=d]
 |.fz s e,.fz p d=>if h:s=p then[(h▸e:List (l7 p))=d]else[False]
 |.em _,.fz _ d=>[d=[]]
 |.em a,.em b=>same (a==b)
 |.em _,.own j=>same (KP n σ j)
 |.own i,.own j=>same (Mn σ j i)
 |.own i,.fz s d=>match l9 H i with
  |.row _ p e=>if h:p=s then same (!cZ i σ)++[(h▸e:List (l7 s))=d]else[False]
  |_=>[False]
 |.sub i o l,.sub j m t=>same (Mn σ j i)++[o=m,l=t]
 |.ptr i o,.ptr j m=>same (Mn σ j i&&Nat.beq o m)
 |.np,.np=>[]
 |.y8 i k o,.y8 j q m=>same (Mn σ j i&&Nat.beq o m)++[k=q]
 |.nf,.nf=>[]
 |.yl a,.yl b=>same (Nat.beq a b)
 |.mq i,.mq j=>same (Mn σ j i)
 |.fn f b c,.fn g r u=>same (Nat.beq f g&&sQ σ b r&&sQ σ c u)
 |.xx k b,.xx q r=>eqX σ k q b r
 |.np,.xx k b=>amq H σ k b
 |.ptr i o,.xx k b=>amb σ i o k b
 |_,.dead=>[]
 |_,_=>[False]
def NW(H:AH)(n:Nat)(σ:List Nat):List AV->List AV->List Prop
 |[],[]=>[]
 |a::r,b::l=>Y5 H n σ a b++NW H n σ r l
 |_,_=>[False]
def WV(H:AH)(n:Nat)(σ:List Nat):oh->oh->List Prop
 |.c a,.c b=>Y5 H n σ a b
 |.agg a,.agg b=>NW H n σ a b
 |_,_=>[False]
def CR(H:AH)(n:Nat)(σ:List Nat):List oh->List oh->List Prop
 |[],[]=>[]
 |a::r,b::l=>WV H n σ a b++CR H n σ r l
 |_,_=>[False]
def Y7(H:AH)(n:Nat)(σ:List Nat):TV->TV->List Prop
 |.one a,.one b=>WV H n σ a b
 |.D8 a,.D8 b=>CR H n σ a b
 |_,.un=>[]
 |_,_=>[False]
def Yq(H:AH)(n:Nat)(σ:List Nat)(fr:lg):lg->List Prop
 |[]=>[]
 |(i,v)::r=>match l6 fr i with
  |some u=>Y7 H n σ u v++Yq H n σ fr r
  |none=>[False]
def zM(T:List (Nat×TI))(t:TypeId)(s:Sh):List (Nat×TI)->Bool
 |[]=>false
 |(i,_)::r=>(match bt T i with
  |some ⟨.sl e (some a),_,_⟩=>Nat.beq e t&&(a=s)
  |_=>false)||zM T t s r
def eqO(H:AH)(n:Nat)(σ:List Nat):AO->AO->List Prop
 |.box t g,.box b c=>same (Nat.beq t b)++NW H n σ g c
 |.row t s d,.row b a e=>same (Nat.beq t b)++(if h:s=a then[(h▸d:List (l7 a))=e]else[False])
 |.gone,.gone=>[]
 |.s6 s f,.s6 a i=>if h:s=a then[(h▸f:Int->Option (l7 a))=i]else[False]
 |.A8 t s m d,.A8 b a j e=>same (Nat.beq t b&&Nat.beq m j)++(if h:s=a then[(h▸d:List (l7 a))=e]else[False])
 |_,_=>[False]
def eqN(T:List (Nat×TI)):AO->List Prop
 |.row t s a=>same (zM T t s T)++[a=[]]
 |_=>[False]
def R7(T:List (Nat×TI))(H:AH)(n:Nat)(σ:List Nat):List Nat->AH->List Prop
 |[],[]=>[]
 |k::r,b::l=>(bif blt k n then eqO H n σ (l9 H k) b else eqN T b)++R7 T H n σ r l
 |_,_=>[False]
def GF:List (Nat×Nat)->List (Nat×Nat)->List (Nat×Nat)
 |(i,_)::r,(j,_)::l=>(j,i)::GF r l
 |_,_=>[]
def aa_:AV->AV->List (Nat×Nat)
 |.own i,.own j=>[(j,i)]
 |.sub i _ _,.sub j _ _=>[(j,i)]
 |.y8 i _ _,.y8 j _ _=>[(j,i)]
 |.ptr i _,.ptr j _=>[(j,i)]
 |.fn _ b c,.fn _ a d=>GF b a++GF c d
 |.xx _ b,.xx _ a=>GF b a
 |_,_=>[]
def UA:List AV->List AV->List (Nat×Nat)
 |a::r,b::l=>aa_ a b++UA r l
 |_,_=>[]
def Hr:List oh->List oh->List (Nat×Nat)
 |.c a::r,.c b::l=>aa_ a b++Hr r l
 |.agg a::r,.agg b::l=>UA a b++Hr r l
 |_,_=>[]
def akO:AO->AO->List (Nat×Nat)
 |.box _ b,.box _ a=>UA b a
 |_,_=>[]
def Hd(n:Nat):List (Nat×Nat)->Nat->Nat
 |[],_=>n
 |(j,i)::r,k=>bif Nat.beq j k then i else Hd n r k
def OF(H:AH):List Nat->AH->List (Nat×Nat)
 |k::r,o::l=>akO (l9 H k) o++OF H r l
 |_,_=>[]
def oN(n:Nat):List Nat->Bool
 |[]=>true
 |k::r=>(ble n k|| !cZ k r)&&oN n r
def alu(fr:lg):lg->List (Nat×Nat)
 |[]=>[]
 |(i,v)::r=>(match l6 fr i,v with
  |some (.one u),.one v=>Hr [u] [v]
  |_,_=>[])++alu fr r
def acI(a:List (Nat×Nat)):Nat->Nat->List Nat
 |_,0=>[]
 |k,m+1=>Hd k a k::acI a (k+1) m
def Zf(a:Nat)(fr:lg)(H:AH)(q:lg×AH):Nat->List (Nat×Nat)->List Nat
 |0,b=>x4 0 a++acI b a (q.2.length-a)
 |f+1,b=>Zf a fr H q f (alu fr q.1++OF H (x4 0 a++acI b a (q.2.length-a)) q.2)
def EZ(T:List (Nat×TI))a(fr:lg)(H:AH)(q:lg×AH):=
 match Zf a fr H q 3 []with
 |σ=>same (ble a q.2.length&&oN H.length σ)++Yq H H.length σ fr q.1++R7 T H H.length σ σ q.2
def Operand.sl:Operand->List Nat
 |.tmp t=>[t]
 |_=>[]
def slL:List Operand->List Nat
 |[]=>[]
 |x::r=>Operand.sl x++slL r
def slP:List (Nat×Operand)->List Nat
 |[]=>[]
 |(_,x)::r=>Operand.sl x++slP r
def slO:Option Operand->List Nat
 |some x=>Operand.sl x
 |none=>[]
def aqT:Op->List Nat
 |.move x=>Operand.sl x
 |.assign x=>Operand.sl x
 |.pick z x y=>Operand.sl z++Operand.sl x++Operand.sl y
 |.unOp _ _ x=>Operand.sl x
 |.binOp _ _ x y _=>Operand.sl x++Operand.sl y
 |.extract x _=>Operand.sl x
 |.nilCheck x=>Operand.sl x
 |.convert _ _ x=>Operand.sl x
 |.makeFunc _ b c=>slL b.toList++slL c.toList
 |.fieldAddr _ x _=>Operand.sl x
 |.field _ x _=>Operand.sl x
 |.load _ x=>Operand.sl x
 |.indexAddr _ x y=>Operand.sl x++Operand.sl y
 |.index _ x y=>Operand.sl x++Operand.sl y
 |.build _ l=>slP l.toList
 |.slice _ x l h _=>Operand.sl x++slO l++slO h
 |.lookup _ x y _=>Operand.sl x++Operand.sl y
 |.call c=>(match c.callee with
  |.value f=>Operand.sl f
  |_=>[])++slL c.args.toList
 |_=>[]
structure DV where
 d:Nat
 v:TV
 ch:List (Nat×Bool)
 B8:List Nat
 ob:List Prop
 fc:List Prop
def TV.ids:TV->List Nat
 |.one t=>zb t.cells
 |.D8 l=>tc l
 |.un=>[]
def AV.x6:AV->List Nat
 |.own i=>[i]
 |.sub i _ _=>[i]
 |.y8 i _ _=>[i]
 |_=>[]
def vY:List AV->List Nat
 |[]=>[]
 |a::r=>a.x6++vY r
def Hz:List oh->List Nat
 |[]=>[]
 |a::r=>vY a.cells++Hz r
def TV.x6:TV->List Nat
 |.one t=>vY t.cells
 |.D8 l=>Hz l
 |.un=>[]
def AO.x6:AO->List Nat
 |.box _ a=>vY a
 |.r9 l=>vY (l.map (·.2))
 |_=>[]
def y5(fr:lg):List Nat->List Nat
 |[]=>[]
 |t::r=>(match l6 fr t with
  |some v=>v.ids
  |none=>[])++y5 fr r
def pL(fr:lg):List Nat->List Nat
 |[]=>[]
 |t::r=>(match l6 fr t with
  |some v=>v.x6
  |none=>[])++pL fr r
def D6(H:AH):List Nat->List Nat
 |[]=>[]
 |p::r=>(l9 H p).ids++D6 H r
def nN(H:AH):List Nat->List Nat
 |[]=>[]
 |p::r=>(l9 H p).x6++nN H r
def eE(fr:lg):List Nat->lg
 |[]=>[]
 |t::r=>match l6 fr t with
  |some v=>(t,v)::eE fr r
  |none=>eE fr r
def u2(σ:List Nat):Nat->AH->AH
 |_,[]=>[]
 |p,o::r=>(bif cZ p σ then o else .loc)::u2 σ (p+1) r
def u4(a:List Nat):List Nat->Bool
 |[]=>true
 |i::r=>!cZ i a&&u4 a r
def pQ(n:Nat):List Nat->Bool
 |[]=>true
 |i::r=>blt i n&&pQ n r
inductive C7
 |fn (k:Int) (a:AV)
 |da (s:Sh) (k:Int) (x:l7 s)
def C7.key:C7->Int
 |.fn k _=>k
 |.da _ k _=>k
def C7.put:C7->AO->AO
 |.fn k a,.r9 l=>.r9 ((k,a)::l)
 |.da s k x,.s6 b f=>if h:b=s then .s6 s λj=>if j=k then some x else(h▸f:Int->Option (l7 s)) j else .s6 b f
 |_,o=>o
def sr(a:List Nat)(o:AO):=match a with
 |[]=>o
 |_::_=>o.mapA (AV.di a)
def Qw(a:List Nat)(fr:lg):=match a with
 |[]=>fr
 |_::_=>kS (AV.di a) fr
structure RC where
 on:Bool
 dst:Option Nat
 v:TV
 U:List Nat:=[]
 σ:List Nat:=[]
 ch:List Nat:=[]
 mv:List Nat:=[]
 base:Nat
 w9:AH
 F8:Option C7:=none
 ob:List Prop:=[]
 fc:List Prop:=[]
 z6:lg
 H0:AH
def RC.new(r:RC):=x4 r.base (r.w9.length-r.base)
def mQ(b c:List Nat)(e:Option C7)(a:AH):Nat->AH->AH
 |_,[]=>[]
 |p,o::r=>(bif cZ p b then(match e with
  |some e=>e.put o
  |none=>l9 a p)else sr c o)::mQ b c e a (p+1) r
def RC.qs(r:RC)(q:lg×AH):=(td r.dst r.v (Qw r.mv q.1),mQ r.ch r.mv r.F8 r.w9 0 q.2++r.w9.drop r.base)
def La(a:List Nat):Nat->AH->List Nat
 |_,[]=>[]
 |p,o::r=>bif u4 a o.x6 then La a (p+1) r else p::La a (p+1) r
def Sb(a:List Nat):lg->List Nat
 |[]=>[]
 |(t,v)::r=>bif u4 a v.x6 then Sb a r else t::Sb a r
def ZZ(d:Option Nat)(l:List Nat):=match d with
 |some d=>cZ d l
 |none=>false
def Z8(a b:RC):=!ZZ b.dst a.U&&u4 b.ch a.σ&&u4 b.ch a.new&&u4 b.new a.σ&&u4 b.new a.ch&&(match b.mv with
 |[]=>true
 |mv=>u4 (La mv 0 b.H0) a.σ&&u4 (Sb mv b.z6) a.U&&u4 mv (pL a.z6 a.U)&&u4 mv (nN a.H0 a.σ)&&u4 mv a.v.x6&&u4 mv (nN a.w9 a.ch)&&u4 mv (nN a.w9 a.new)&&(match a.F8 with
  |some (.fn _ x)=>u4 mv x.x6
  |_=>true))
def H6(a b:RC):=match a.F8,b.F8 with
 |some e,some c=>u4 a.ch b.ch|| !(e.key=c.key)
 |_,_=>u4 a.ch b.ch
def A4(m j:Nat):=Nat.beq (Nat.land (Nat.shiftRight m j) 1) 1
def jO(a:List Nat):List Nat->Nat
 |[]=>0
 |j::r=>lor (lor (Nat.shiftLeft 1 j) (a.getD j 0)) (jO a r)
def kn(a:List Nat):List Oper->List Nat
 |[]=>a
 |o::r=>kn (a++[jO a (gK o)]) r
def HV(m:Nat)(b:RC):Nat->List RC->Bool
 |_,[]=>true
 |i,a::r=>(A4 m i||(Z8 a b&&Z8 b a&&H6 a b))&&HV m b (i+1) r
def zZ(b:RC):List RC->Bool
 |[]=>true
 |a::r=>(match a.dst,b.dst with
  |some i,some j=>!Nat.beq i j
  |_,_=>true)&&zZ b r
def EY(a:List Nat):Nat->List RC->List RC->Bool
 |_,_,[]=>true
 |j,done,b::r=>Nat.beq b.base b.H0.length&&ble b.base b.w9.length&&pQ b.base (y5 b.z6 b.U)&&pQ b.base (D6 b.H0 b.σ)&&pQ b.base b.σ&&pQ b.base b.ch&&zZ b done&&(match b.F8 with
   |some _=>(match b.mv,b.ch with
    |[],[_]=>true
    |_,_=>false)&&Nat.beq b.w9.length b.base
   |none=>true)&&HV (a.getD j 0) b 0 done&&EY a (j+1) (done++[b]) r
def tN:Nat->List Oper->Bool
 |_,[]=>true
 |i,o::r=>pQ i (gK o)&&tN (i+1) r
def okR(l:List Oper)(a:List RC):=tN 0 l&&Nat.beq a.length l.length&&EY (kn [] l) 0 [] a
def Dj(m:Nat):Nat->List RC->List Prop
 |_,[]=>[]
 |i,a::r=>(bif A4 m i then a.fc else[])++Dj m (i+1) r
def apF(a:List Prop):List Prop->List Prop
 |[]=>[]
 |ob=>[oq a (lu ob)]
def Z7(a:List RC):List Nat->List RC->List Prop
 |m::c,b::r=>apF (Dj m 0 a) b.ob++Z7 a c r
 |_,_=>[]
def W2:List RC->List Prop
 |[]=>[]
 |a::r=>a.fc++W2 r
def xd:lg->List Nat->lg
 |[],_=>[]
 |(t,v)::r,l=>bif cZ t l then xd r l else(t,v)::xd r (t::l)
def kX:Op->List Nat
 |.store _ x v=>Operand.sl x++Operand.sl v
 |.insert _ x y z=>Operand.sl x++Operand.sl y++Operand.sl z
 |.mapUpdate _ x y z=>Operand.sl x++Operand.sl y++Operand.sl z
 |.lookup _ x y _=>Operand.sl x++Operand.sl y
 |.box _ x=>Operand.sl x
 |.makeSlice _ x y=>Operand.sl x++Operand.sl y
 |.buildSlice _ _ l=>slP l.toList
 |op=>aqT op
def aaF(fr:lg)(H:AH):Op->List Nat
 |.move _=>[]
 |.assign _=>[]
 |.extract _ _=>[]
 |.nilCheck _=>[]
 |.makeFunc _ _ _=>[]
 |.fieldAddr _ _ _=>[]
 |.build _ _=>[]
 |.unOp _ _ _=>[]
 |.binOp _ _ _ _ _=>[]
 |.box _ _=>[]
 |.alloc _=>[]
 |.call c=>match c.callee with
  |.value _=>match jD fr c with
   |some (_,l)=>uw H l
   |none=>[]
  |_=>y5 fr (kX (.call c))
 |op=>y5 fr (kX op)
def aqI(fr:lg)(H:AH):Op->List (List Nat×List Nat)
 |.store _ x v=>match ez fr x,ez fr v with
  |some (.one (.c (.ptr id _))),_=>[([id],[])]
  |some (.one (.c (.y8 id _ _))),some (.one b)=>[(id::gb b.cells,gb b.cells)]
  |_,_=>[]
 |.box _ _=>[([],[])]
 |.buildSlice _ _ l=>match zq fr l.toList with
  |some l=>[(Gb l,Gb l)]
  |none=>[]
 |.alloc _=>[([],[])]
 |.makeMap _ _=>[([],[])]
 |.makeSlice _ _ _=>[([],[])]
 |.slice _ x none (some _) none=>match ez fr x with
  |some (.one (.c (.own id)))=>[([id],[id])]
  |_=>[]
 |.call c=>match c.callee with
  |.builtin .copy=>match c.args.toList with
   |[x,_]=>match ez fr x with
    |some (.one (.c (.own id)))=>[([id],[])]
    |_=>[]
   |_=>[]
  |.builtin .append=>match c.args.toList with
   |[x,_]=>match ez fr x with
    |some (.one (.c (.own id)))=>[([id],[id])]
    |some (.one (.c (.sub id _ _)))=>[([id],[id])]
    |_=>[([],[])]
   |_=>[]
  |.value _=>match jD fr c with
   |some (_,l)=>[([],[]),(uw H (LJ H l),uw H (LJ H l)),(uw H l,uw H l)]
   |none=>[]
  |_=>[]
 |_=>[]
structure XR where
 v:TV
 ch:List Nat
 mv:List Nat
 w9:AH
 ob:List Prop
 fc:List Prop
def ZF(a:lg)(b:AH)(c:Op):List (List Nat×List Nat)->Option XR
 |[]=>none
 |(d,e)::r=>match sv T m3 ⟨λi=>cZ i d&&ro.wr i,λi=>cZ i e&&ro.mv i⟩ a b c with
  |some q=>some ⟨q.v,d,e,q.H,q.ob,q.fc⟩
  |none=>ZF a b c r
def LW(c:lg)(d:AH):Op->Option PR
 |.buildSlice t n a=>match bt T t,zq c a.toList with
  |some ⟨.sl _ (some s),_,_⟩,some l=>match Gb l,uO s d l 0 with
   |[],some b=>match Nat.beq b.length n&&ble (n*s.size) 16777216&&ble (n*s.bytes) 140737488355328&&blt 0 n with
    |true=>some ⟨one (.fz s b),[],[]⟩
    |false=>none
   |_,_=>none
  |_,_=>none
 |_=>none
def abg(a:lg)(b:AH)(c:Op):Option PR:=match Qy m3 with
 |true=>none
 |false=>LW T a b c
def ada{a:lg}{b:AH}{c:Op}{r:PR}(h:abg T m3 a b c=some r):LW T a b c=some r:=by
 unfold abg at h;split at h
 .cases h
 exact h
def aiQ(fr:lg)(H:AH)(o:Oper):Option XR:=
 match eE fr (kX o.op),u2 (aaF fr H o.op) 0 H with
 |fm,a=>match abg T m3 fm a o.op with
  |some r=>some ⟨r.v,[],[],a,r.ob,r.fc⟩
  |none=>match pv T m3 a fm o.op with
   |some r=>some ⟨r.v,[],[],a,r.ob,r.fc⟩
   |none=>match VN o with
    |true=>ZF T m3 ro fm a o.op (aqI fr H o.op)
    |false=>none
def adC(fr:lg)(H:AH):Op->Option (Nat×C7)
 |.insert t x y z=>match bt T t,ez fr x,ez fr y,ez fr z with
  |some ⟨.mp _ _ (some s),_,_⟩,some (.one (.c (.mq id))),some (.one (.c (.int k))),some (.one v)=>match l9 H id,gb v.cells,iG s v.cells with
   |.s6 b _,[],some d=>match (b=s)&&pM s v&&ro.wr id with
    |true=>some (id,.da s k d)
    |false=>none
   |_,_,_=>none
  |some ⟨.mp _ _ none,_,_⟩,some (.one (.c (.mq id))),some (.one (.c (.int k))),some (.one (.c a))=>match l9 H id,ro.wr id with
   |.r9 _,true=>some (id,.fn k a)
   |_,_=>none
  |_,_,_,_=>none
 |_=>none
def adI:List RC->Nat->Bool
 |[],_=>true
 |r::_,0=>r.on
 |_::l,i+1=>adI l i
def wI(l:List Oper)(fr:lg)(a:List RC):Option (Nat×Bool)->Option Bool
 |none=>some true
 |some (j,w)=>match s5 l j with
  |some t=>match adI a j,l6 fr t with
   |false,_=>some false
   |true,some (.one (.c (.bool (.lit b))))=>some (b==w)
   |_,_=>none
  |none=>none
def jC(l:List Oper):Option (Nat×Bool)->List Nat
 |none=>[]
 |some (j,_)=>match s5 l j with
  |some t=>[t]
  |none=>[]
def YR(i:Nat)(d:Option Nat):List Oper->Bool
 |[]=>false
 |o::r=>(match o.guard with
  |some (j,_)=>Nat.beq j i
  |none=>false)||(match d with
  |some d=>sf d o
  |none=>false)||YR i d r
def split(g:Bool)(v:TV)(K:TV->Prop):Prop:=match g,BY (some v)with
 |true,some (.lit b)=>K (one (.bool (.lit b)))
 |true,some e=>(e.p true->K (one (.bool (.lit true))))/\(e.p false->K (one (.bool (.lit false))))
 |_,_=>K v
def UN(l:List Oper)(K:lg->AH->Prop):Nat->Nat->List Oper->lg->AH->List RC->Prop
 |0,_,_,_,_,_=>False
 |_+1,_,[],fr,H,d=>match okR l d with
  |true=>zg (Z7 d (kn [] l) d) (oq (W2 d) (K (xd fr []) H))
  |false=>False
 |n+1,i,o::a,fr,H,d=>match wI l fr d o.guard with
  |some false=>match RC.mk false o.dst .un (jC l o.guard) [] [] [] H.length (u2 [] 0 H) none [] [] fr H with
   |rc=>UN l K n (i+1) a (rc.qs (fr,H)).1 (rc.qs (fr,H)).2 (d++[rc])
  |some true=>match o.op with
   |.pick (.tmp t) x y=>match l6 fr t with
    |some (.one (.c (.bool (.lit b))))=>match ez fr (cond b x y)with
     |some v=>split (YR i o.dst a) v λv=>match RC.mk true o.dst v (t::Operand.sl (cond b x y)++jC l o.guard) [] [] [] H.length (u2 [] 0 H) none [] [] fr H with
      |rc=>UN l K n (i+1) a (rc.qs (fr,H)).1 (rc.qs (fr,H)).2 (d++[rc])
     |none=>False
    |_=>False
   |op=>match adC T ro fr H op with
    |some (id,e)=>match RC.mk true none .un (kX op++jC l o.guard) [] [id] [] H.length (u2 [] 0 H) (some e) [] [] fr H,o.dst with
     |rc,none=>UN l K n (i+1) a (rc.qs (fr,H)).1 (rc.qs (fr,H)).2 (d++[rc])
     |_,_=>False
    |none=>match aaF fr H op with
     |σ=>match mapA T (u2 σ 0 H) (eE fr (kX op)) op with
      |some m=>zP m.k m.ok (λv=>split (YR i o.dst a) v λv=>match RC.mk true o.dst v (kX op++jC l o.guard) σ [] [] H.length (u2 σ 0 H) none [] [] fr H with
       |rc=>UN l K n (i+1) a (rc.qs (fr,H)).1 (rc.qs (fr,H)).2 (d++[rc])) m.l
      |none=>match aiQ T m3 ro fr H o with
       |some r=>split (YR i o.dst a) r.v λv=>match RC.mk true o.dst v (kX op++jC l o.guard) σ r.ch r.mv H.length r.w9 none r.ob r.fc fr H with
        |rc=>UN l K n (i+1) a (rc.qs (fr,H)).1 (rc.qs (fr,H)).2 (d++[rc])
       |none=>False
  |none=>False
def ajw(l:List Oper)(K:lg->AH->Prop)(fr:lg)(H:AH):=UN T m3 ro l K (l.length+1) 0 l fr H []
def afD(step:(Exit->lg->AH->Prop)->lg->AH->Prop)(K:Exit->lg->AH->Prop)(l:List Nat):Nat->lg->AH->Prop
 |0,_,_=>False
 |n+1,fr,H=>step (λe fr H=>match e with
  |.normal=>afD step K l n fr H
  |e=>K e fr H) (eE fr l) H
def kE(a:Nat)(L:List (Nat×LI)):Code->(Exit->lg->AH->Prop)->lg->AH->Prop
 |.skip,K,fr,H=>K .normal fr H
 |.seq x y,K,fr,H=>kE a L x (λe fr H=>match e with
  |.normal=>kE a L y K fr H
  |e=>K e fr H) fr H
 |.cond c x y,K,fr,H=>match BY (ez fr c)with
  |some (.lit true)=>kE a L x K fr H
  |some (.lit false)=>kE a L y K fr H
  |some e=>(e.p true->kE a L x K fr H)/\(e.p false->kE a L y K fr H)
  |none=>False
 |.block i c,K,fr,H=>kE a L c (λe fr H=>match e with
  |.exit j=>bif Nat.beq j i then K .normal fr H else K (.exit j) fr H
  |e=>K e fr H) fr H
 |.loop c,K,fr,H=>match aaA L (mC c)with
  |some I=>match I.un with
   |some (n,l)=>afD (kE a L c) K l n fr H
   |none=>∃d,lu (EZ T a fr H (I.F d))/\I.J d/\I.aD d d (∀s,I.J s->I.imp d s (kE a L c (λe fr H=>match e with
    |.normal=>∃f,lu (EZ T a fr H (I.F f))/\I.J f/\I.aD d f (I.μ f<I.μ s)
    |e=>K e fr H) (I.F s).1 (I.F s).2))
  |none=>False
 |.exit i,K,fr,H=>K (.exit i) fr H
 |.ret,K,fr,H=>K .ret fr H
 |.scope c,K,fr,H=>kE a L c (λe fr H=>match e with
  |.goto _=>False
  |e=>K e fr H) fr H
 |.label _,K,fr,H=>K .normal fr H
 |.region _ b false,K,fr,H=>wpOps T m3 ro b.toList (K .normal) (2*b.size+1) b.toList fr H
 |.region _ b true,K,fr,H=>ajw T m3 ro b.toList (K .normal) fr H
 |_,_,_,_=>False
def aaE(T:List (Nat×TI))(H:AH)(t:TypeId)(p:AV):Option PR:=match tK T H t p with
 |some r=>some r
 |none=>GN T H t p
def wY(T:List (Nat×TI))(fr:lg)(H:AH):List ResultVar->Option (List oh)
 |[]=>some []
 |.tmp t::r=>match l6 fr t,wY T fr H r with
  |some (.one a),some l=>some (a::l)
  |_,_=>none
 |.cell a t::r=>match l6 fr a,wY T fr H r with
  |some (.one (.c p)),some l=>match aaE T H t p with
   |some ⟨.one v,[],_⟩=>some (v::l)
   |_=>none
  |_,_=>none
def wM:Nat->List oh->lg
 |_,[]=>[]
 |k,v::r=>(k,.one v)::wM (k+1) r
def P8(L:List (Nat×LI))(b:Func)(args:List oh)(H:AH)(d:List oh):=
 match b.body with
 |some c=>oq (Kf args) (kE T m3 (jR H.length) H.length L c (λe fr a=>match e with
  |.ret=>match wY T fr a b.results.toList with
   |some l=>lu (CR a a.length (x4 0 H.length) l d)
   |none=>False
  |.normal=>match wY T fr a b.results.toList with
   |some l=>lu (CR a a.length (x4 0 H.length) l d)
   |none=>False
  |_=>False) (wM 0 args) H)
 |none=>False
end Go.Proofs.YtoecbhljidgajaaGreat
namespace Go.Proofs.YtoecbhljidgajaaGreat
open Go.RowKit
structure Cx where
 shp:TypeId->Option Sh
 B0:Nat
 S:Nat->Prop
 w:World
def Cx.at(c:Cx)(s:Sh)b:=c.S b/\(b<c.B0\/∃a t fr,c.w.heap[b]? =some (.cells a t fr)/\c.shp t=some s/\(s=.int->fr=(0,0)))
def L8(c:Cx)(d:Bool)(a:Option Addr)(e:List Int):=
 e=[]\/∃A,a=some A/\(d=true->c.S A.block/\c.B0<=A.block/\∃b t fr,c.w.heap[A.block]? =some (.cells b t fr)/\c.shp t=some .int/\fr=(0,0))/\(d=false->(A.block<c.B0/\A.block<c.w.heap.size)\/c.at .int A.block)/\j0 c.w A (e.map (.int .i64))
mutual
inductive Pd(c:Cx):AV->Value->Prop
 |int {n:Int}:W n->Pd c (.int n) (.int .i64 n)
 |u8 {b:UInt8}:Pd c (.u8 b) (.int .u8 (b.toNat:Int))
 |u64 {n:Nat}:n<18446744073709551616->Pd c (.u64 n) (.int .u64 (n:Int))
 |bool {e:BE}:Pd c (.bool e) (.bool e.val)
 |str {s:n9}:s.b.length<=140737488355328->Pd c (.str s) s.val
 |em {b:Bool} {a:Option Addr}:b=a.isNone->Pd c (.em b) (.slice a 0 0)
 |fz {s:Sh} {xs:List (l7 s)} {a:Option Addr} {k:Nat} {cells:List Value}:xs.length<=k->k<=maxLen->xs.length*s.bytes<=140737488355328->r6 c (xs.flatMap (cellsOf s)) cells->
   (xs=[]\/∃A,a=some A/\c.at s A.block/\j0 c.w A cells)->Pd c (.fz s xs) (.slice a xs.length k)
 |li {nw:Bool} {xs:List Int} {a:Option Addr} {k:Nat}:xs.length<=k->k<=maxLen->xs.length*8<=140737488355328->(∀n∈xs,W n)->L8 c nw a xs->Pd c (.li nw xs) (.slice a xs.length k)
inductive r6(c:Cx):List AV->List Value->Prop
 |nil:r6 c [] []
 |cons {a:AV} {v:Value} {r:List AV} {vs:List Value}:Pd c a v->r6 c r vs->r6 c (a::r) (v::vs)
end
def r6.all{c:Cx}:∀{a:List AV} {b:List Value},r6 c a b->hY (Pd c) a b
 |[],_,h=>by cases h;exact .nil
 |_::_,_,h=>by cases h with|cons d e=>exact .cons d e.all
def r6.of{c:Cx}:∀{a:List AV} {b:List Value},hY (Pd c) a b->r6 c a b
 |[],_,h=>by cases h;exact .nil
 |_::_,_,h=>by cases h with|cons d e=>exact .cons d (r6.of e)
structure Cx.le(c c':Cx):Prop where
 shp:c'.shp=c.shp
 B0:c'.B0=c.B0
 S:∀b,c.S b->c'.S b/\c'.w.heap[b]? =c.w.heap[b]?
 lo:∀b,b<c.B0->b<c.w.heap.size->c'.w.heap[b]? =c.w.heap[b]?
def Cx.low(c:Cx):Cx:=⟨c.shp,c.B0,λb=>b<c.B0/\b<c.w.heap.size,c.w⟩
variable{b:Nat}
def pd{w a:World}(h:a.heap[b]? =w.heap[b]?)(c:b<w.heap.size):b<a.heap.size:=by grind
def Cx.le.low{c d:Cx}(h:c.le d):c.low.le d.low:=⟨h.shp,h.B0,λb a=>⟨⟨by rw[h.B0];exact a.1,pd (h.lo b a.1 a.2) a.2⟩,h.lo b a.1 a.2⟩,h.lo⟩
def Cx.le.refl(c:Cx):c.le c:=⟨rfl,rfl,λ_ h=>⟨h,rfl⟩,λ_ _ _=>rfl⟩
def Cx.le.trans{a b c:Cx}(h:a.le b)(k:b.le c):a.le c:=
 ⟨k.shp.trans h.shp,k.B0.trans h.B0,λx d=>⟨(k.S x (h.S x d).1).1,((k.S x (h.S x d).1).2).trans (h.S x d).2⟩,λx d e=>(k.lo x (by rw[h.B0];exact d) (pd (h.lo x d e) e)).trans (h.lo x d e)⟩
variable{c':Cx}
theorem Cx.le.at_{c:Cx}(h:c.le c'){s:Sh}(k:c.at s b):c'.at s b:=by
 refine⟨(h.S b k.1).1,?_⟩;rcases k.2 with a|⟨d,t,fr,a,e,f⟩
 .left;rw[h.B0];exact a
 right;exact⟨d,t,fr,((h.S b k.1).2).trans a,by rw[h.shp];exact e,f⟩
def L8.le{c c':Cx}{f:Bool}{a:Option Addr}{j:List Int}(k:L8 c f a j)(h:c.le c'):L8 c' f a j:=by
 rcases k with k|⟨A,m,d,l,g⟩
 .exact .inl k
 refine .inr ⟨A,m,λe=>⟨(h.S _ (d e).1).1,by rw[h.B0];exact(d e).2.1,?_⟩,λe=>(l e).imp (λk=>⟨by rw[h.B0];exact k.1,pd (h.lo _ k.1 k.2) k.2⟩) λk=>h.at_ k,?_⟩
 .let⟨i,t,fr,n,o,p⟩:=(d e).2.2;exact⟨i,t,fr,((h.S _ (d e).1).2).trans n,by rw[h.shp];exact o,p⟩
 cases f
 .rcases l rfl with k|k
  .exact g.dc (h.lo _ k.1 k.2)
  exact g.dc (h.S _ k.1).2
 exact g.dc (h.S _ (d rfl).1).2
def vA{c:Cx}(h:c.le c'):(∀a v,Pd c a v->Pd c' a v)/\(∀f j,r6 c f j->r6 c' f j):=by
 refine⟨λa v q=>?_,λf j q=>?_⟩
 .refine @Pd.rec c (λa v _=>Pd c' a v) (λf j _=>r6 c' f j) ?_ ?_ ?_ ?_ ?_ ?_ ?_ ?_ ?_ ?_ a v q
  .intro n d;exact .int d
  .intro b;exact .u8
  .intro n d;exact .u64 d
  .intro e;exact .bool
  .intro s d;exact .str d
  .intro b a d;exact .em d
  .intro s t a k m d g o _ l p;refine .fz d g o p ?_;rcases l with l|⟨A,u,i,w⟩
   .grind
   exact .inr ⟨A,u,h.at_ i,w.dc (h.S _ i.1).2⟩
  .intro y t a k d g o x l;exact .li d g o x (l.le h)
  .exact .nil
  intro a v r j _ _ d g;exact .cons d g
 induction f generalizing j with
 |nil=>cases q;exact .nil
 |cons a r p=>
  cases q with
  |cons d g=>
   refine .cons ?_ (p _ g);refine @Pd.rec c (λa v _=>Pd c' a v) (λf j _=>r6 c' f j) ?_ ?_ ?_ ?_ ?_ ?_ ?_ ?_ ?_ ?_ _ _ d
   .intro n d;exact .int d
   .intro b;exact .u8
   .intro n d;exact .u64 d
   .intro e;exact .bool
   .intro s d;exact .str d
   .intro b a d;exact .em d
   .intro s t a k m d g o _ l p;refine .fz d g o p ?_;rcases l with l|⟨A,u,i,w⟩
    .grind
    exact .inr ⟨A,u,h.at_ i,w.dc (h.S _ i.1).2⟩
   .intro y t a k d g o x l;exact .li d g o x (l.le h)
   .exact .nil
   intro a v r j _ _ d g;exact .cons d g
variable{a:AV}
def Pd.ed{c:Cx}{v:Value}(h:Pd c a v)(k:c.le c'):=(vA k).1 _ _ h
variable{asx:List AV}{vs:List Value}
def r6.ed{c:Cx}(h:r6 c asx vs)(k:c.le c'):=(vA k).2 _ _ h
theorem Pd.one{c:Cx}{v:Value}(h:Pd c a v):v.oneCell'=true:=by cases h<;>simp[oneCell',n9.val]
def r6.ZH{c:Cx}:∀{asx:List AV} {vs:List Value},r6 c asx vs->∀u∈vs,u.oneCell'=true
 |[],_,h=>by cases h;simp
 |_::_,_,h=>by
  cases h with
  |cons d e=>
   intro u hu;rcases v7.1 hu with rfl|hu
   .exact d.one
   exact e.ZH u hu
theorem r6.length{c:Cx}{asx:List AV}{vs:List Value}(h:r6 c asx vs):asx.length=vs.length:=h.all.length
def r6.append{c:Cx}:∀{asx d:List AV} {vs e:List Value},r6 c asx vs->r6 c d e->r6 c (asx++d) (vs++e)
 |[],_,_,_,h,k=>by cases h;exact k
 |_::_,_,_,_,h,k=>by cases h with|cons f g=>exact .cons f (g.append k)
def r6.take{c:Cx}{asx:List AV}{vs:List Value}(h:r6 c asx vs)n:r6 c (asx.take n) (vs.take n):=.of (h.all.take n)
def r6.drop{c:Cx}{asx:List AV}{vs:List Value}(h:r6 c asx vs)n:r6 c (asx.drop n) (vs.drop n):=.of (h.all.drop n)
theorem dV(s:Sh)(x:l7 s):(cellsOf s x).length=s.size:=by
 cases s<;>try rfl
 rename_i t;cases t<;>rfl
def size_pos(s:Sh):0<s.size:=by
 cases s with
 |nm t=>cases t<;>decide
 |_=>simp[Sh.size]
def jn(s:Sh):0<s.bytes:=by
 cases s with
 |nm t=>cases t<;>decide
 |_=>simp[Sh.bytes]
theorem cX{s:Sh}:∀(c:List (l7 s)),(c.flatMap (cellsOf s)).length=c.length*s.size
 |[]=>by simp
 |x::r=>by rw[G9,s8,cX r,dV,x7,L2];omega
theorem rW{s:Sh}:∀(c:List (l7 s)) i,(c.flatMap (cellsOf s)).drop (i*s.size)=(c.drop i).flatMap (cellsOf s)
 |[],i=>by simp
 |x::r,0=>by simp
 |x::r,i+1=>by
  rw[G9,List.drop_append,List.drop_eq_nil_of_le (by rw[dV,L2];omega),dV,show(i+1)*s.size-s.size=i*s.size by rw[L2];omega,rW r i];simp
theorem xX{s:Sh}:∀(c:List (l7 s)) i,(c.flatMap (cellsOf s)).take (i*s.size)=(c.take i).flatMap (cellsOf s)
 |[],i=>by simp
 |x::r,0=>by simp
 |x::r,i+1=>by
  rw[G9,List.take_append,List.take_of_length_le (by rw[dV,L2];omega),dV,show(i+1)*s.size-s.size=i*s.size by rw[L2];omega,xX r i];simp
variable{i:Nat}
def qE{s:Sh}{c:List (l7 s)}{x:l7 s}(h:c[i]? =some x):((c.flatMap (cellsOf s)).drop (i*s.size)).take s.size=cellsOf s x:=by
 rw[rW];have d:=(sy.1 h).1;rw[K6 d,G9,N6 (by rw[dV];omega)];have e:c[i]=x:=by rw[r5 d]at h;exact D4 h
 rw[e,List.take_of_length_le (by rw[dV];omega)]
theorem AP{s:Sh}{c:List (l7 s)}{x y:l7 s}(h:c[i]? =some x):(c.set i y).flatMap (cellsOf s)=(c.take i).flatMap (cellsOf s)++cellsOf s y++(c.drop (i+1)).flatMap (cellsOf s):=by
 have d:=(sy.1 h).1;have e:c.set i y=c.take i++y::c.drop (i+1):=by grind[List.set_eq_take_append_cons_drop]
 grind
def sW(s:Sh)(x:l7 s):∀a∈cellsOf s x,a.plain=true:=by
 cases s with
 |nm t=>cases t<;>simp[cellsOf,NT.cells,AV.plain]
 |_=>simp[cellsOf,AV.plain]
section
variable{c:Cx}{a:AV}{v:Value}
def AV.arj{n:Int}(h:a.bu=some n):a=.int n:=by cases a<;>simp[AV.bu]at h;rw[h]
def AV.ara{n:UInt8}(h:a.P7=some n):a=.u8 n:=by cases a<;>simp[AV.P7]at h;rw[h]
def AV.aog{n:z8}(h:a.P6=some n):a=.u64 n.n:=by cases a<;>simp[AV.P6]at h;rw[<-h]
def AV.aq_{n:n9}(h:a.DS=some n):a=.str n:=by cases a<;>simp[AV.DS]at h;rw[h]
def Qd(c:Cx)(a:AV)(v:Value):=a.plain=true->Pd c a v
theorem Pd.bu{n:Int}(h:a.bu=some n)(k:Qd c a v):Pd c (.int n) v:=by obtain rfl:=AV.arj h;exact k rfl
theorem Pd.P7{n:UInt8}(h:a.P7=some n)(k:Qd c a v):Pd c (.u8 n) v:=by obtain rfl:=AV.ara h;exact k rfl
theorem Pd.P6{n:z8}(h:a.P6=some n)(k:Qd c a v):Pd c (.u64 n.n) v:=by obtain rfl:=AV.aog h;exact k rfl
theorem Pd.S1{x:Bool×List Int}(h:a.S1=some x)(k:Qd c a v):Pd c (.li x.1 x.2) v:=by
 cases a<;>simp[AV.S1]at h
 .subst h;cases(k rfl)with
  |em d=>exact Pd.li (xs:=[]) (k:=0) (tw _) (H4 _) aa aa (.inl rfl)
 subst h;exact k rfl
theorem Pd.DS{n:n9}(h:a.DS=some n)(k:Qd c a v):Pd c (.str n) v:=by obtain rfl:=AV.aq_ h;exact k rfl
theorem Pd.wW{n:Bool}(h:a.wW=some n)(k:Qd c a v):Pd c (.bool (.atom n)) v:=by
 cases a<;>simp[AV.wW]at h;have k:=k rfl;cases k;rw[h];exact Pd.bool (e:=.atom n)
def Pd.za{s:Sh}{b:Bool}(k:Pd c (.em b) v):Pd c (.fz s []) v:=by
 cases k with
 |em h=>exact Pd.fz (xs:=([]:List (l7 s))) (cells:=[]) (tw _) aa aa .nil (.inl rfl)
theorem Pd.iu{s:Sh}{d:List (l7 s)}(h:a.iu s=some d)(k:Qd c a v):Pd c (.fz s d) v:=by
 cases a<;>simp[AV.iu]at h
 .subst h;exact(k rfl).za
 obtain⟨rfl,h⟩:=h;subst h;exact k rfl
end
def l3.ba{c:Cx}{x:l3}(h:l3.of asx=some x)(d:hY (Qd c) asx vs):r6 c (NT.cells .l8 x) vs:=by
 unfold l3.of at h;split at h
 .split at h
  next e f=>cases h;cases d with|cons g d=>cases d with|cons j d=>cases d;exact .cons (Pd.bu e g) ( .cons (Pd.bu f j) .nil)
  cases h
 cases h
def eS.ba{c:Cx}{x:eS}(h:eS.of asx=some x)(d:hY (Qd c) asx vs):r6 c (NT.cells .c8 x) vs:=by
 unfold eS.of at h;split at h
 .split at h
  next e f g j=>cases h;cases d with|cons k d=>cases d with|cons l d=>cases d with|cons m d=>cases d with|cons n d=>cases d;exact .cons (Pd.bu e k) ( .cons (Pd.bu f l) ( .cons (Pd.bu g m) ( .cons (Pd.bu j n) .nil)))
  cases h
 cases h
def n7.ba{c:Cx}{x:n7}(h:n7.of asx=some x)(d:hY (Qd c) asx vs):r6 c (NT.cells .opn x) vs:=by
 unfold n7.of at h;split at h
 .split at h
  next e f=>cases h;cases d with|cons g d=>cases d with|cons j d=>cases d;exact .cons (Pd.bu e g) ( .cons (Pd.bu f j) .nil)
  cases h
 cases h
def ie.ba{c:Cx}{x:ie}(h:ie.of asx=some x)(d:hY (Qd c) asx vs):r6 c (NT.cells .snap x) vs:=by
 unfold ie.of at h;split at h
 .split at h
  next e f g j k=>cases h;cases d with|cons l d=>cases d with|cons m d=>cases d with|cons n d=>cases d with|cons o d=>cases d with|cons p d=>cases d;exact .cons (Pd.bu e l) ( .cons (Pd.bu f m) ( .cons (Pd.iu g n) ( .cons (Pd.wW j o) ( .cons (Pd.DS k p) .nil))))
  cases h
 cases h
def c5.ba{c:Cx}{x:c5}(h:c5.of asx=some x)(d:hY (Qd c) asx vs):r6 c (NT.cells .state x) vs:=by
 unfold c5.of at h;split at h
 .split at h
  next e f g j k l m=>cases h;cases d with|cons n d=>cases d with|cons o d=>cases d with|cons p d=>cases d with|cons q d=>cases d with|cons r d=>cases d with|cons s d=>cases d with|cons t d=>cases d;exact .cons (Pd.bu e n) ( .cons (Pd.bu f o) ( .cons (Pd.bu g p) ( .cons (Pd.bu j q) ( .cons (Pd.iu k r) ( .cons (Pd.iu l s) ( .cons (Pd.iu m t) .nil))))))
  cases h
 cases h
def b6.ba{c:Cx}{x:b6}(h:b6.of asx=some x)(d:hY (Qd c) asx vs):r6 c (NT.cells .command x) vs:=by
 unfold b6.of at h;split at h
 .split at h
  next e f g j k l m n=>cases h;cases d with|cons o d=>cases d with|cons p d=>cases d with|cons q d=>cases d with|cons r d=>cases d with|cons s d=>cases d with|cons t d=>cases d with|cons u d=>cases d with|cons v d=>cases d;exact .cons (Pd.bu e o) ( .cons (Pd.bu f p) ( .cons (Pd.bu g q) ( .cons (Pd.bu j r) ( .cons (Pd.bu k s) ( .cons (Pd.bu l t) ( .cons (Pd.iu m u) ( .cons (Pd.DS n v) .nil)))))))
  cases h
 cases h
def C3.ba{c:Cx}{x:C3}(h:C3.of asx=some x)(d:hY (Qd c) asx vs):r6 c (NT.cells .snapE x) vs:=by
 unfold C3.of at h;split at h
 .split at h
  next e f g j k=>cases h;cases d with|cons l d=>cases d with|cons m d=>cases d with|cons n d=>cases d with|cons o d=>cases d with|cons p d=>cases d;exact .cons (Pd.bu e l) ( .cons (Pd.bu f m) ( .cons (Pd.S1 g n) ( .cons (Pd.wW j o) ( .cons (Pd.DS k p) .nil))))
  cases h
 cases h
def Field.ba{c:Cx}{x:Field}(h:Field.of asx=some x)(d:hY (Qd c) asx vs):r6 c (NT.cells .field x) vs:=by
 unfold Field.of at h;split at h
 .split at h
  next e f g j=>cases h;cases d with|cons k d=>cases d with|cons l d=>cases d with|cons m d=>cases d with|cons n d=>cases d;exact .cons (Pd.bu e k) ( .cons (Pd.bu f l) ( .cons (Pd.P6 g m) ( .cons (Pd.iu j n) .nil)))
  cases h
 cases h
def l4.ba{c:Cx}{x:l4}(h:l4.of asx=some x)(d:hY (Qd c) asx vs):r6 c (NT.cells .spec x) vs:=by
 unfold l4.of at h;split at h
 .split at h
  next e f g j k=>cases h;cases d with|cons l d=>cases d with|cons m d=>cases d with|cons n d=>cases d with|cons o d=>cases d with|cons p d=>cases d;exact .cons (Pd.bu e l) ( .cons (Pd.bu f m) ( .cons (Pd.bu g n) ( .cons (Pd.wW j o) ( .cons (Pd.wW k p) .nil))))
  cases h
 cases h
def eA.ba{c:Cx}{x:eA}(h:eA.of asx=some x)(d:hY (Qd c) asx vs):r6 c (NT.cells .entry x) vs:=by
 unfold eA.of at h;split at h
 .split at h
  next e f=>cases h;cases d with|cons g d=>cases d with|cons j d=>cases d;exact .cons (Pd.bu e g) ( .cons (Pd.iu f j) .nil)
  cases h
 cases h
def dm.ba{c:Cx}{x:dm}(h:dm.of asx=some x)(d:hY (Qd c) asx vs):r6 c (NT.cells .record x) vs:=by
 unfold dm.of at h;split at h
 .split at h
  next e f g j=>cases h;cases d with|cons k d=>cases d with|cons l d=>cases d with|cons m d=>cases d with|cons n d=>cases d;exact .cons (Pd.bu e k) ( .cons (Pd.bu f l) ( .cons (Pd.bu g m) ( .cons (Pd.iu j n) .nil)))
  cases h
 cases h
def ep.ba{c:Cx}{x:ep}(h:ep.of asx=some x)(d:hY (Qd c) asx vs):r6 c (NT.cells .letter x) vs:=by
 unfold ep.of at h;split at h
 .split at h
  next e f g j k l m n o p=>cases h;cases d with|cons q d=>cases d with|cons r d=>cases d with|cons s d=>cases d with|cons t d=>cases d with|cons u d=>cases d with|cons v d=>cases d with|cons w d=>cases d with|cons y d=>cases d with|cons z d=>cases d with|cons A d=>cases d;exact .cons (Pd.bu e q) ( .cons (Pd.bu f r) ( .cons (Pd.bu g s) ( .cons (Pd.bu j t) ( .cons (Pd.bu k u) ( .cons (Pd.bu l v) ( .cons (Pd.bu m w) ( .cons (Pd.bu n y) ( .cons (Pd.wW o z) ( .cons (Pd.iu p A) .nil)))))))))
  cases h
 cases h
def Event.ba{c:Cx}{x:Event}(h:Event.of asx=some x)(d:hY (Qd c) asx vs):r6 c (NT.cells .event x) vs:=by
 unfold Event.of at h;split at h
 .split at h
  next g j k l m n o p q r e=>cases h;cases d with|cons s d=>cases d with|cons t d=>cases d with|cons u d=>cases d with|cons v d=>cases d with|cons w d=>cases d with|cons y d=>cases d with|cons z d=>cases d with|cons A d=>cases d with|cons B d=>cases d with|cons C d=>cases d with|cons f d=>cases d;exact .cons (Pd.bu g s) ( .cons (Pd.bu j t) ( .cons (Pd.bu k u) ( .cons (Pd.bu l v) ( .cons (Pd.bu m w) ( .cons (Pd.bu n y) ( .cons (Pd.bu o z) ( .cons (Pd.bu p A) ( .cons (Pd.bu q B) ( .cons (Pd.iu r C) ( .cons (Pd.DS e f) .nil))))))))))
  cases h
 cases h
def C1.ba{c:Cx}{x:C1}(h:C1.of asx=some x)(d:hY (Qd c) asx vs):r6 c (NT.cells .call x) vs:=by
 unfold C1.of at h;split at h
 .split at h
  next s t u v w y z A B C e f g j k l=>cases h;cases d with|cons D d=>cases d with|cons F d=>cases d with|cons G d=>cases d with|cons H d=>cases d with|cons I d=>cases d with|cons J d=>cases d with|cons K d=>cases d with|cons L d=>cases d with|cons a d=>cases d with|cons b d=>cases d with|cons m d=>cases d with|cons n d=>cases d with|cons o d=>cases d with|cons p d=>cases d with|cons q d=>cases d with|cons r d=>cases d;exact .cons (Pd.bu s D) ( .cons (Pd.bu t F) ( .cons (Pd.bu u G) ( .cons (Pd.bu v H) ( .cons (Pd.bu w I) ( .cons (Pd.bu y J) ( .cons (Pd.bu z K) ( .cons (Pd.bu A L) ( .cons (Pd.bu B a) ( .cons (Pd.bu C b) ( .cons (Pd.bu e m) ( .cons (Pd.iu f n) ( .cons (Pd.DS g o) ( .cons (Pd.wW j p) ( .cons (Pd.bu k q) ( .cons (Pd.bu l r) .nil)))))))))))))))
  cases h
 cases h
def b9.ba{c:Cx}{x:b9}(h:b9.of asx=some x)(d:hY (Qd c) asx vs):r6 c (NT.cells .stable x) vs:=by
 unfold b9.of at h;split at h
 .split at h
  next e f g j=>cases h;cases d with|cons k d=>cases d with|cons l d=>cases d with|cons m d=>cases d with|cons n d=>cases d;exact .cons (Pd.bu e k) ( .cons (Pd.bu f l) ( .cons (Pd.bu g m) ( .cons (Pd.iu j n) .nil)))
  cases h
 cases h
def vo.ba{c:Cx}{x:vo}(h:vo.of asx=some x)(d:hY (Qd c) asx vs):r6 c (NT.cells .route x) vs:=by
 unfold vo.of at h;split at h
 .split at h
  next e f g j k=>cases h;cases d with|cons l d=>cases d with|cons m d=>cases d with|cons n d=>cases d with|cons o d=>cases d with|cons p d=>cases d;exact .cons (Pd.bu e l) ( .cons (Pd.bu f m) ( .cons (Pd.bu g n) ( .cons (Pd.bu j o) ( .cons (Pd.bu k p) .nil))))
  cases h
 cases h
def Site.ba{c:Cx}{x:Site}(h:Site.of asx=some x)(d:hY (Qd c) asx vs):r6 c (NT.cells .site x) vs:=by
 unfold Site.of at h;split at h
 .split at h
  next s t u v w y z A B C e f g j k l=>cases h;cases d with|cons D d=>cases d with|cons F d=>cases d with|cons G d=>cases d with|cons H d=>cases d with|cons I d=>cases d with|cons J d=>cases d with|cons K d=>cases d with|cons L d=>cases d with|cons a d=>cases d with|cons b d=>cases d with|cons m d=>cases d with|cons n d=>cases d with|cons o d=>cases d with|cons p d=>cases d with|cons q d=>cases d with|cons r d=>cases d;exact .cons (Pd.wW s D) ( .cons (Pd.bu t F) ( .cons (Pd.bu u G) ( .cons (Pd.bu v H) ( .cons (Pd.bu w I) ( .cons (Pd.bu y J) ( .cons (Pd.bu z K) ( .cons (Pd.bu A L) ( .cons (Pd.iu B a) ( .cons (Pd.bu C b) ( .cons (Pd.bu e m) ( .cons (Pd.bu f n) ( .cons (Pd.bu g o) ( .cons (Pd.iu j p) ( .cons (Pd.iu k q) ( .cons (Pd.iu l r) .nil)))))))))))))))
  cases h
 cases h
def A5.ba{c:Cx}{x:A5}(h:A5.of asx=some x)(d:hY (Qd c) asx vs):r6 c (NT.cells .nop x) vs:=by
 unfold A5.of at h;split at h
 .split at h
  next A B C D F G H I J K e f g j k l e16 m n o=>cases h;cases d with|cons L d=>cases d with|cons b d=>cases d with|cons i d=>cases d with|cons P d=>cases d with|cons Q d=>cases d with|cons S d=>cases d with|cons T d=>cases d with|cons U d=>cases d with|cons V d=>cases d with|cons a d=>cases d with|cons p d=>cases d with|cons q d=>cases d with|cons r d=>cases d with|cons s d=>cases d with|cons t d=>cases d with|cons u d=>cases d with|cons v d=>cases d with|cons w d=>cases d with|cons y d=>cases d with|cons z d=>cases d;exact .cons (Pd.P7 A L) ( .cons (Pd.bu B b) ( .cons (Pd.bu C i) ( .cons (Pd.bu D P) ( .cons (Pd.bu F Q) ( .cons (Pd.bu G S) ( .cons (Pd.bu H T) ( .cons (Pd.bu I U) ( .cons (Pd.bu J V) ( .cons (Pd.bu K a) ( .cons (Pd.wW e p) ( .cons (Pd.iu f q) ( .cons (Pd.bu g r) ( .cons (Pd.bu j s) ( .cons (Pd.bu k t) ( .cons (Pd.bu l u) ( .cons (Pd.bu e16 v) ( .cons (Pd.bu m w) ( .cons (Pd.iu n y) ( .cons (Pd.DS o z) .nil)))))))))))))))))))
  cases h
 cases h
def Rest.ba{c:Cx}{x:Rest}(h:Rest.of asx=some x)(d:hY (Qd c) asx vs):r6 c (NT.cells .rest x) vs:=by
 unfold Rest.of at h;split at h
 .split at h
  next e f=>cases h;cases d with|cons g d=>cases d with|cons j d=>cases d;exact .cons (Pd.iu e g) ( .cons (Pd.P7 f j) .nil)
  cases h
 cases h
def Span.ba{c:Cx}{x:Span}(h:Span.of asx=some x)(d:hY (Qd c) asx vs):r6 c (NT.cells .span x) vs:=by
 unfold Span.of at h;split at h
 .split at h
  next e f=>cases h;cases d with|cons g d=>cases d with|cons j d=>cases d;exact .cons (Pd.bu e g) ( .cons (Pd.bu f j) .nil)
  cases h
 cases h
def YI{c:Cx}{t:NT}{x:t.l7}(h:NT.of t asx=some x)(d:hY (Qd c) asx vs):r6 c (t.cells x) vs:=by
 cases t
 .exact l3.ba h d
 .exact eS.ba h d
 .exact n7.ba h d
 .exact ie.ba h d
 .exact c5.ba h d
 .exact b6.ba h d
 .exact C3.ba h d
 .exact Field.ba h d
 .exact l4.ba h d
 .exact eA.ba h d
 .exact dm.ba h d
 .exact ep.ba h d
 .exact Event.ba h d
 .exact C1.ba h d
 .exact b9.ba h d
 .exact vo.ba h d
 .exact Site.ba h d
 .exact A5.ba h d
 .exact Rest.ba h d
 exact Span.ba h d
def ba{c:Cx}{s:Sh}{x:l7 s}(h:iG s asx=some x)(f:hY (Qd c) asx vs):r6 c (cellsOf s x) vs:=by
 unfold iG at h;split at h
 .cases h;cases f with|cons d e=>cases e;exact .cons (d rfl) .nil
 .cases h;cases f with|cons d e=>cases e;exact .cons (d rfl) .nil
 .cases h;cases f with|cons d e=>cases e;exact .cons (d rfl) .nil
 .cases h;cases f with|cons d e=>cases e;exact .cons (Pd.wW rfl d) .nil
 .cases h;cases f with|cons d e=>cases e;exact .cons (d rfl) .nil
 .cases f with|cons d e=>cases e;exact .cons (Pd.S1 h d) .nil
 .cases f with|cons d e=>cases e;exact .cons (Pd.iu h d) .nil
 .exact YI h f
 cases h
end Go.Proofs.YtoecbhljidgajaaGreat
namespace Go.Proofs.YtoecbhljidgajaaGreat
open Go.RowKit
inductive RE
 |no|blk (g:Nat)|row (g cap len z:Nat)|emp
def RE.g?:RE->Option Nat
 |.blk g=>some g
 |.row g _ _ _=>some g
 |_=>none
def live(a:List RE)b:=∃(i:Nat) (r:RE),a[i]? =some r/\r.g?=some b
structure Gl where
 shp:TypeId->Option Sh
 B0:Nat
 Z:Nat->Prop
def cx(G:Gl)(ρ:List RE)(w:World):Cx:=⟨G.shp,G.B0,λb=>b<w.heap.size/\¬live ρ b/\¬G.Z b,w⟩
def fw(a:List RE)(q:Nat×Nat)(v:Value):=∃g,a[q.1]? =some (.blk g)/\v=.pointer (some ⟨g,q.2,none⟩)
def rO:Value->Option Int
 |.int .i64 v=>some v
 |_=>none
def getM(k:Int):List MapEntry->Option Value
 |[]=>none
 |e::r=>if rO e.key=some k then some e.val else getM k r
def V1(c:Cx)(s:Sh)(x:l7 s)(v:Value):=∃a,r6 c (cellsOf s x) a/\((s.rT=true/\v=.agg a.toArray)\/(s.rT=false/\a=[v]))
def VO(c:Cx)(s:Sh):Option Value->Option (l7 s)->Prop
 |none,none=>True
 |some v,some x=>V1 c s x v
 |_,_=>False
def Xh(c:Cx)(g:Nat)(s:Sh)(f:Int->Option (l7 s)):=
 ∃a n,c.w.heap[g]? =some (.map a n)/\(∀e∈a.toList,∃k,e.key=.int .i64 k)/\∀k,VO c s (getM k a.toList) (f k)
def YK:Value->Option n9
 |.string s=>some ⟨s.data.toList⟩
 |_=>none
def yS(k:n9):List MapEntry->Option Value
 |[]=>none
 |e::r=>if YK e.key=some k then some e.val else yS k r
def arF(l:List MapEntry)(f:n9->Option Int):=(∀e∈l,∃s,e.key=.string s)/\∀k,yS k l=(f k).map (.int .i64)/\∀n,f k=some n->W n
def KC.val:KC->Value
 |.i n=>.int .i64 n
 |.b v=>.bool v
 |.f g=>.func (.func g) #[] #[]
 |.nf=>.nilFunc
def KC.fv:KC->Value
 |.f g=>.func (.func g) #[] #[]
 |_=>.nilFunc
def anM(a:List MapEntry)(l:List (Int×List KC)):=(∀e∈a,∃k,e.key=.int .i64 k)/\∀k,getM k a=(eY l k).map λb=>.agg (b.map KC.val).toArray
def XK.rd(c:Cx):XK->List Value->Value->Prop
 |.er b,d,v=>d=[]/\((b=true/\v=.nilIface)\/(b=false/\∃t u,v=.iface t u))
 |.pl,d,v=>∃A,v=.slice (some A) d.length d.length/\d.length<=16777216/\c.S A.block/\j0 c.w A d
 |.pa,d,v=>∃A,v=.pointer (some A)/\c.S A.block/\j0 c.w A d
 |.fm f,d,v=>d=[]/\∃g a n,v=.map (some g)/\c.S g/\c.w.heap[g]? =some (.map a n)/\arF a.toList f
 |.bp,d,v=>d.length=1/\(v=.pointer none\/d=[v])
 |.ff s e,d,v=>d=[]/\Pd c.low (.fz s e) v
 |.mx b e,d,v=>d=[]/\Pd (bif b then c else c.low) (.fz .int e) v
 |.w n,d,v=>d=[]/\n<4294967296/\v=.int .u32 n
 |.km l,d,v=>d=[]/\∃g a n,v=.map (some g)/\c.S g/\c.w.heap[g]? =some (.map a n)/\anM a.toList l
 |.kf x,d,v=>d=[]/\v=x.fv
variable{us:List Value}
def XK.aa0{c a:Cx}{s:Sh}{b:List (l7 s)}{v:Value}(h:XK.rd c (.ff s b) us v)(d:c.low.le a.low):XK.rd a (.ff s b) us v:=⟨h.1,h.2.ed d⟩
def XK.rd.le{c l:Cx}{k:XK}{us:List Value}{v:Value}(h:k.rd c us v)(b:c.le l):k.rd l us v:=by
 cases k;case er=>exact h
 case pl=>let⟨A,e,i,d,f⟩:=h;exact⟨A,e,i,(b.S _ d).1,f.dc (b.S _ d).2⟩
 case pa=>let⟨A,e,d,f⟩:=h;exact⟨A,e,(b.S _ d).1,f.dc (b.S _ d).2⟩
 case fm=>let⟨i,g,a,n,e,d,f,j⟩:=h;exact⟨i,g,a,n,e,(b.S _ d).1,((b.S _ d).2).trans f,j⟩
 case bp=>exact h
 case w=>exact h
 case kf=>exact h
 case km=>let⟨i,g,a,n,e,d,f,j⟩:=h;exact⟨i,g,a,n,e,(b.S _ d).1,((b.S _ d).2).trans f,j⟩
 case ff=>exact XK.aa0 h b.low
 case mx m o=>
  cases m
  .exact⟨h.1,h.2.ed b.low⟩
  exact⟨h.1,h.2.ed b⟩
variable{ρ:List RE}
theorem XK.rd.one{c:Cx}{k:XK}{b:List (Nat×Nat)}{v:Value}(h:k.rd c us v)(d:hY (fw ρ) b us):v.oneCell'=true:=by
 cases k;case er=>obtain⟨_,⟨_,rfl⟩|⟨_,_,_,rfl⟩⟩:=h<;>rfl
 case pl=>obtain⟨A,rfl,_⟩:=h;rfl
 case pa=>obtain⟨A,rfl,_⟩:=h;rfl
 case fm=>obtain⟨_,g,a,n,rfl,_⟩:=h;rfl
 case ff=>let⟨_,h⟩:=h;cases h;rfl
 case mx=>let⟨_,h⟩:=h;cases h;rfl
 case w=>obtain⟨_,_,rfl⟩:=h;rfl
 case km=>obtain⟨_,g,a,n,rfl,_⟩:=h;rfl
 case kf x=>obtain⟨_,rfl⟩:=h;cases x<;>rfl
 case bp=>
  obtain⟨_,rfl|rfl⟩:=h
  .rfl
  cases d with|cons e _=>obtain⟨_,_,rfl⟩:=e;rfl
def Rd(c:Cx)(ρ:List RE):AV->Value->Prop
 |.mq id,v=>∃g,ρ[id]? =some (.blk g)/\v=.map (some g)
 |.own id,v=>(∃g d len z,ρ[id]? =some (.row g d len z)/\v=.slice (some ⟨g,0,none⟩) len d)\/(ρ[id]? =some .emp/\∃a,v=.slice a 0 0)
 |.sub id h len,v=>(∃g d L z,ρ[id]? =some (.row g d L z)/\h+len<=L/\v=.slice (some ⟨g,h*z,none⟩) len (d-h))\/(ρ[id]? =some .emp/\h=0/\len=0/\∃a,v=.slice a 0 0)
 |.ptr id o,v=>fw ρ (id,o) v
 |.np,v=>v=.pointer none
 |.y8 id i o,v=>∃g d len z,ρ[id]? =some (.row g d len z)/\i<len/\v=.pointer (some ⟨g,i*z+o,none⟩)
 |.fe s x o,v=>∃A e,c.S A.block/\j0 c.w A e/\r6 c (cellsOf s x) e/\v=.pointer (some (A.add o))
 |.fn f b j,v=>∃m us,hY (fw ρ) b m/\hY (fw ρ) j us/\v=.func (.func f) m.toArray us.toArray
 |.nf,v=>v=.nilFunc
 |.yl l,v=>v=.func (.yield l) #[] #[]
 |.xx k j,v=>∃us,hY (fw ρ) j us/\k.rd c us v
 |.dead,v=>v.oneCell'=true
 |a,v=>Pd c a v
def eh(c:Cx)(ρ:List RE):oh->Value->Prop
 |.c a,v=>Rd c ρ a v
 |.agg l,v=>∃b,v=.agg b.toArray/\hY (Rd c ρ) l b
def Rt(c:Cx)(ρ:List RE):TV->Value->Prop
 |.one t,v=>eh c ρ t v
 |.D8 l,v=>∃a,v=.tuple a.toArray/\hY (eh c ρ) l a
 |.un,_=>True
def r7(c:Cx)(ρ:List RE)(fr:lg)(F:Fr):=hY (λp q=>p.1=q.1/\Rt c ρ p.2 q.2) fr F
def u5(k:Int):List (Int×AV)->Option AV
 |[]=>none
 |(j,a)::r=>if k=j then some a else u5 k r
def FO(c:Cx)(ρ:List RE):Option Value->Option AV->Prop
 |none,none=>True
 |some v,some a=>Rd c ρ a v
 |_,_=>False
def WG(c:Cx)(ρ:List RE)(g:Nat)(l:List (Int×AV)):=
 ∃a n,c.w.heap[g]? =some (.map a n)/\(∀e∈a.toList,∃k,e.key=.int .i64 k)/\∀k,FO c ρ (getM k a.toList) (u5 k l)
def OR(c:Cx)(ρ:List RE):AO->RE->Prop
 |.gone,r=>r=.no
 |.s6 s f,r=>∃g,r=.blk g/\Xh c g s f
 |.r9 l,r=>∃g,r=.blk g/\WG c ρ g l
 |.loc,_=>True
 |.A8 t s n d,r=>∃g e,r=.blk g/\c.w.heap[g]? =some (.cells (toArray e) t (0,0))/\r6 c (d.flatMap (cellsOf s)) e/\d.length=n/\s.size=1
 |.box t i,r=>∃g e,r=.blk g/\c.w.heap[g]? =some (.cells (toArray e) t (0,0))/\hY (Rd c ρ) i e
 |.row t s d,r=>c.shp t=some s/\d.length*s.bytes<=140737488355328/\((r=.emp/\d=[])\/∃g b a h,r=.row g b d.length s.size/\c.w.heap[g]? =some (.cells (toArray (a++h)) t (0,0))/\
   r6 c (d.flatMap (cellsOf s)) a/\(a++h).length=b*s.size/\d.length<=b/\b<=maxLen)
def anY(c:Cx)(q:Nat×Bool):=c.S q.1/\∃v t fr,c.w.heap[q.1]? =some (.cells #[v] t fr)/\match q.2 with
 |true=>∃m,v=.int .i64 m
 |false=>∃a p,v=.iface a p
def C8(c:Cx):=(∀q∈aiZ,anY c q)/\∀e∈XN,c.S e.g/\e.g<c.B0/\e.xs.length<=maxLen/\e.xs.length*e.s.bytes<=140737488355328/\∃a t fr,c.w.heap[e.g]? =some (.cells (toArray a) t fr)/\r6 c (e.xs.flatMap (cellsOf e.s)) a
def C8.ed{c g:Cx}(h:C8 c)(k:c.le g):C8 g:=by
 refine⟨λq i=>?_,λe j=>?_⟩
 .let⟨b,v,t,fr,d,f⟩:=h.1 q i;exact⟨(k.S _ b).1,v,t,fr,((k.S _ b).2).trans d,f⟩
 let⟨b,d,f,l,a,t,fr,m,n⟩:=h.2 e j;exact⟨(k.S _ b).1,by rw[k.B0];exact d,f,l,a,t,fr,((k.S _ b).2).trans m,n.ed k⟩
structure pe(G:Gl)(ρ:List RE)(H:AH)(w:World):Prop where
 obj:hY (OR (cx G ρ w) ρ) H ρ
 inj:∀(i j:Nat) (r r':RE) (g:Nat),ρ[i]? =some r->ρ[j]? =some r'->r.g?=some g->r'.g?=some g->i=j
 u0:∀(i:Nat) (r:RE) (g:Nat),ρ[i]? =some r->r.g?=some g->G.B0<=g/\g<w.heap.size/\¬G.Z g
 z:∀b,G.Z b->b<w.heap.size
 b0:G.B0<=w.heap.size
 tb:C8 (cx G ρ w)
structure u7(ρ0:List RE)(w0:World)(ρ:List RE)(w:World):Prop where
 os:w.os=w0.os
 tape:w.tape=w0.tape
 output:w.output=w0.output
 size:w0.heap.size<=w.heap.size
 z7:∀b,b<w0.heap.size->¬live ρ0 b->¬live ρ b/\w.heap[b]? =w0.heap[b]?
def u7.refl(ρ:List RE)(w:World):u7 ρ w ρ w:=⟨rfl,rfl,rfl,tw _,λ_ _ h=>⟨h,rfl⟩⟩
def u7.trans{d e f:List RE}{a b c:World}(h:u7 d a e b)(k:u7 e b f c):u7 d a f c:=
 ⟨k.os.trans h.os,k.tape.trans h.tape,k.output.trans h.output,zc h.size k.size,λx g i=>by
  let⟨j,l⟩:=h.z7 x g i;let⟨m,n⟩:=k.z7 x (y7 g h.size) j;exact⟨m,n.trans l⟩⟩
variable{w:World}{H:AH}
def pe.lo{G:Gl}(h:pe G ρ H w)b(a:b<G.B0):b<w.heap.size/\¬live ρ b:=
 ⟨y7 a h.b0,λ⟨i,r,c,d⟩=>by have:=(h.u0 i r b c d).1;omega⟩
def u7.le{G:Gl}{ρ c:List RE}{w d:World}(h:u7 ρ w c d)(e:∀b,b<G.B0->b<w.heap.size/\¬live ρ b):(cx G ρ w).le (cx G c d):=
 ⟨rfl,rfl,λb a=>⟨⟨y7 a.1 h.size,(h.z7 b a.1 a.2.1).1,a.2.2⟩,(h.z7 b a.1 a.2.1).2⟩,λb a f=>(h.z7 b f (e b a).2).2⟩
def Kp.le{G:Gl}{ρ:List RE}{w c:World}(k:Kp [] w c):(cx G ρ w).le (cx G ρ c):=
 ⟨rfl,rfl,λb a=>⟨⟨y7 a.1 k.size,a.2⟩,k.block b a.1 aa⟩,λb _ d=>k.block b d aa⟩
def u7.kp{a:World}(k:Kp [] w a):u7 ρ w ρ a:=⟨k.os,k.tape,k.output,k.size,λb c h=>⟨h,k.block b c aa⟩⟩
variable{a:AV}
def jF{c:Cx}{v:Value}(h:a.plain=true):Rd c ρ a v↔Pd c a v:=by cases a<;>first|exact .rfl|cases h
def mF{c:Cx}{v:Value}(h:Pd c a v):Rd c ρ a v:=by cases h<;>first|exact .int ‹_›|exact .u8|exact .u64 ‹_›|exact .bool|exact .str ‹_›|exact .em ‹_›|exact .li ‹_› ‹_› ‹_› ‹_› ‹_›|exact .fz ‹_› ‹_› ‹_› ‹_› ‹_›
def jb{c:Cx}{ρ:List RE}:∀{b:List AV} {d:List Value},r6 c b d->hY (Rd c ρ) b d
 |[],_,h=>by cases h;exact .nil
 |_::_,_,h=>by cases h with|cons e f=>exact .cons (mF e) (jb f)
def lO{c:Cx}{ρ:List RE}:∀{b:List AV} {d:List Value},(∀a∈b,a.plain=true)->hY (Rd c ρ) b d->r6 c b d
 |[],_,_,h=>by cases h;exact .nil
 |_::_,_,e,h=>by cases h with|cons f g=>exact .cons ((jF (e _ aa)).1 f) (lO (λa i=>e a (by simp[i])) g)
theorem Rd.one{c:Cx}{ρ:List RE}{a:AV}{v:Value}(h:Rd c ρ a v):v.oneCell'=true:=by
 cases a;case own=>rcases h with⟨_,_,_,_,_,rfl⟩|⟨_,_,rfl⟩<;>rfl
 case sub=>rcases h with⟨_,_,_,_,_,_,rfl⟩|⟨_,_,_,_,rfl⟩<;>rfl
 case ptr=>obtain⟨_,_,rfl⟩:=h;rfl
 case np=>cases h;rfl
 case y8=>obtain⟨_,_,_,_,_,_,rfl⟩:=h;rfl
 case fe=>obtain⟨_,_,_,_,_,rfl⟩:=h;rfl
 case fn=>obtain⟨_,_,_,_,rfl⟩:=h;rfl
 case nf=>cases h;rfl
 case yl=>cases h;rfl
 case xx=>let⟨us,b,d⟩:=h;exact d.one b
 case mq=>obtain⟨_,_,rfl⟩:=h;rfl
 case dead=>exact h
 all_goals exact Pd.one h
def mz(ρ b:List RE):=∀(i:Nat) (r:RE),ρ[i]? =some r->r≠ .no->b[i]? =some r
def mz.refl(ρ:List RE):mz ρ ρ:=λ_ _ h _=>h
def iF(ρ σ:List RE):mz ρ (ρ++σ):=λi r h _=>by
 rw[E0 (sy.1 h).1];exact h
def fw.ed{b:List RE}{q:Nat×Nat}{v:Value}(h:fw ρ q v)(k:mz ρ b):fw b q v:=by
 let⟨g,c,d⟩:=h;exact⟨g,k _ _ c aa,d⟩
def Rd.ed{c m:Cx}{ρ i:List RE}{a:AV}{v:Value}(h:Rd c ρ a v)(j:c.le m)(k:mz ρ i):Rd m i a v:=by
 cases a;case own=>
  rcases h with⟨g,b,len,z,h,e⟩|⟨h,e⟩
  .exact .inl ⟨g,b,len,z,k _ _ h aa,e⟩
  exact .inr ⟨k _ _ h aa,e⟩
 case sub=>
  rcases h with⟨g,b,len,z,h,e⟩|⟨h,e⟩
  .exact .inl ⟨g,b,len,z,k _ _ h aa,e⟩
  exact .inr ⟨k _ _ h aa,e⟩
 case ptr=>exact fw.ed h k
 case np=>exact h
 case y8=>
  let⟨g,b,len,z,h,e⟩:=h;exact⟨g,b,len,z,k _ _ h aa,e⟩
 case fe=>
  let⟨A,f,d,l,n,e⟩:=h;exact⟨A,f,(j.S _ d).1,l.dc (j.S _ d).2,n.ed j,e⟩
 case fn=>
  let⟨o,us,d,l,e⟩:=h;exact⟨o,us,d.imp λ_ _ h=>h.ed k,l.imp λ_ _ h=>h.ed k,e⟩
 case nf=>exact h
 case yl=>exact h
 case xx=>
  let⟨us,d,l⟩:=h;exact⟨us,d.imp λ_ _ h=>h.ed k,l.le j⟩
 case mq=>
  let⟨g,d,e⟩:=h;exact⟨g,k _ _ d aa,e⟩
 case dead=>exact h
 all_goals exact Pd.ed h j
def eh.ed{c d:Cx}{ρ b:List RE}{a:oh}{v:Value}(h:eh c ρ a v)(e:c.le d)(k:mz ρ b):eh d b a v:=by
 cases a with
 |c a=>exact Rd.ed h e k
 |agg l=>obtain⟨f,rfl,h⟩:=h;exact⟨f,rfl,h.imp λ_ _ h=>h.ed e k⟩
def Rt.ed{c d:Cx}{ρ b:List RE}{a:TV}{v:Value}(h:Rt c ρ a v)(e:c.le d)(k:mz ρ b):Rt d b a v:=by
 cases a with
 |one a=>exact eh.ed h e k
 |D8 l=>obtain⟨f,rfl,h⟩:=h;exact⟨f,rfl,h.imp λ_ _ h=>h.ed e k⟩
 |un=>trivial
def r7.ed{c d:Cx}{ρ b:List RE}{fr:lg}{F:Fr}(h:r7 c ρ fr F)(e:c.le d)(k:mz ρ b):r7 d b fr F:=h.imp λ_ _ h=>⟨h.1,h.2.ed e k⟩
def V1.ed{c b:Cx}{s:Sh}{x:l7 s}{v:Value}(h:V1 c s x v)(d:c.le b):V1 b s x v:=by
 let⟨e,f,g⟩:=h;exact⟨e,f.ed d,g⟩
def Xh.ed{c b:Cx}{g:Nat}{s:Sh}{f:Int->Option (l7 s)}(h:Xh c g s f)(d:c.le b)(e:b.w.heap[g]? =c.w.heap[g]?):Xh b g s f:=by
 let⟨a,n,i,j,l⟩:=h;refine⟨a,n,e.trans i,j,λk=>?_⟩;have:=l k;cases m:getM k a.toList<;>cases o:f k<;>rw[m,o]at this
 .trivial
 .exact this
 .exact this
 exact V1.ed this d
theorem FO.map{c d:Cx}{ρ b:List RE}{g:AV->AV}{v:Option Value}{l:List (Int×AV)}{k:Int}(h:FO c ρ v (u5 k l))(f:∀q∈l,∀v,Rd c ρ q.2 v->Rd d b (g q.2) v)(e:List (Int×AV))(i:e=l.map λq=>(q.1,g q.2)):FO d b v (u5 k e):=by
 subst i;induction l with
 |nil=>exact(by cases v<;>exact h)
 |cons q l n=>
  let⟨j,a⟩:=q;simp[u5]at h⊢;by_cases m:k=j
  .rw[O m]at h⊢;cases v with
   |none=>exact h
   |some v=>exact f (j,a) aa v h
  simp_all
def WG.map{c d:Cx}{ρ b:List RE}{g0:AV->AV}{g:Nat}{l e:List (Int×AV)}(h:WG c ρ g l)(f:e=l.map λq=>(q.1,g0 q.2))(i:∀q∈l,∀v,Rd c ρ q.2 v->Rd d b (g0 q.2) v)(j:d.w.heap[g]? =c.w.heap[g]?):WG d b g e:=by
 let⟨a,n,m,o,p⟩:=h;exact⟨a,n,j.trans m,o,λk=>(p k).map i e f⟩
def OR.ed{c p:Cx}{ρ e:List RE}{o:AO}{r:RE}(h:OR c ρ o r)(d:c.le p)(k:mz ρ e)(i:∀g,r.g?=some g->p.w.heap[g]? =c.w.heap[g]?):OR p e o r:=by
 cases o with
 |gone=>exact h
 |s6 s f=>
  obtain⟨g,rfl,h⟩:=h;exact⟨g,rfl,h.ed d (i g rfl)⟩
 |loc=>trivial
 |r9 l=>
  obtain⟨g,rfl,h⟩:=h;exact⟨g,rfl,h.map (g0:=λa=>a) aa (λ_ _ _ h=>h.ed d k) (i g rfl)⟩
 |A8 t s n x=>
  obtain⟨g,q,rfl,j,m,u⟩:=h;exact⟨g,q,rfl,(i g rfl).trans j,m.ed d,u⟩
 |box t C=>
  obtain⟨g,q,rfl,j,m⟩:=h;exact⟨g,q,rfl,(i g rfl).trans j,m.imp λ_ _ h=>h.ed d k⟩
 |row t s x=>
  let⟨j,m,u⟩:=h;refine⟨d.shp▸j,m,u.imp id ?_⟩;rintro⟨g,v,b,y,rfl,z,A,B⟩;exact⟨g,v,b,y,rfl,(i g rfl).trans z,A.ed d,B⟩
def e_{d e:Type}{R:d->e->Prop}{c:List d}{f:List e}(h:hY R c f):∀(i:Nat) (a:d),c[i]? =some a->∃b,f[i]? =some b/\R a b:=by
 induction h with
 |nil=>intro i b g;simp at g
 |cons h _ j=>
  grind
def dw{e f:Type}{R:e->f->Prop}:∀{c:List e} {d:List f},c.length=d.length->(∀(i:Nat) (a:e) (b:f),c[i]? =some a->d[i]? =some b->R a b)->hY R c d
 |[],[],_,_=>.nil
 |a::c,b::d,h,k=>.cons (k 0 a b rfl rfl) (dw (by simpa using h) λi x y g j=>k (i+1) x y (by simpa using g) (by simpa using j))
def cC{i:Nat}{o:AO}(h:l9 H i=o)(b:o≠ .gone):H[i]? =some o:=by
 unfold l9 at h;grind
section
variable{G:Gl}{ρ:List RE}{H:AH}{w w':World}
variable{o:AO}{i:Nat}
theorem pe.at_(h:pe G ρ H w)(b:H[i]? =some o):∃r,ρ[i]? =some r/\OR (cx G ρ w) ρ o r:=e_ h.obj i o b
def pe.kp(h:pe G ρ H w)(k:Kp [] w w'):pe G ρ H w':=by
 refine⟨dw h.obj.length λi o r f e=>?_,h.inj,λi r g j l=>?_,λb m=>y7 (h.z b m) k.size,zc h.b0 k.size,h.tb.ed ((u7.kp k).le h.lo)⟩
 .let⟨p,c,d⟩:=h.at_ f;rw[e]at c;cases c;exact d.ed ((u7.kp k).le h.lo) (mz.refl _) λg n=>k.block g (h.u0 i r g e n).2.1 aa
 have:=h.u0 i r g j l;exact⟨this.1,y7 this.2.1 k.size,this.2.2⟩
variable{r:RE}
def Pw{b:Nat}:live (ρ++[r]) b↔live ρ b\/r.g?=some b:=by
 constructor
 .rintro⟨i,d,c,e⟩;by_cases f:i<ρ.length
  .rw[E0 f]at c;exact .inl ⟨i,d,c,e⟩
  grind
 rintro(⟨i,d,c,e⟩|h)
 .exact⟨i,d,by rw[E0 (sy.1 c).1];exact c,e⟩
 exact⟨ρ.length,r,aa,h⟩
theorem u7.qs(k:Kp [] w w')(d:∀c,r.g?=some c->w.heap.size<=c):u7 ρ w (ρ++[r]) w':=
 ⟨k.os,k.tape,k.output,k.size,λb e h=>⟨λf=>(Pw.1 f).elim h λg=>by have:=d b g;omega,k.block b e aa⟩⟩
theorem pe.qs(h:pe G ρ H w)(k:Kp [] w w'){r:RE}{o:AO}(n:∀g,r.g?=some g->w.heap.size<=g/\g<w'.heap.size)(p:OR (cx G (ρ++[r]) w') (ρ++[r]) o r):pe G (ρ++[r]) (H++[o]) w':=by
 have u:u7 ρ w (ρ++[r]) w':=u7.qs k λg q=>(n g q).1;refine⟨?_,?_,?_,λb C=>y7 (h.z b C) k.size,zc h.b0 k.size,h.tb.ed (u.le h.lo)⟩
 .refine hY.append (dw h.obj.length λi o d p l=>?_) (.cons p .nil);let⟨D,e,s⟩:=h.at_ p;rw[l]at e;cases e;exact s.ed (u.le h.lo) (iF _ _) λg q=>k.block g (h.u0 i d g l q).2.1 aa
 .intro i j v x g c f y A;have m:∀i d,(ρ++[r])[i]? =some d->d.g?=some g->(ρ[i]? =some d/\g<w.heap.size)\/(i=ρ.length/\w.heap.size<=g):=λi d c f=>by
   by_cases t:i<ρ.length
   .rw[E0 t]at c;exact .inl ⟨c,(h.u0 i d g c f).2.1⟩
   grind
  rcases m i v c y with⟨a,b⟩|⟨a,b⟩<;>rcases m j x f A with⟨B,F⟩|⟨B,F⟩
  .exact h.inj i j v x g a B y A
  .omega
  .omega
  omega
 intro i d g c f;by_cases t:i<ρ.length
 .rw[E0 t]at c;have:=h.u0 i d g c f;exact⟨this.1,y7 this.2.1 k.size,this.2.2⟩
 rw[Q4 N]at c;have:i-ρ.length=0:=by grind
 rw[this]at c;simp at c;subst c;exact⟨zc h.b0 (n g f).1,(n g f).2,λI=>by have:=h.z g I;have:=(n g f).1;omega⟩
theorem pe.put(h:pe G ρ H w){g:Nat}{o':AO}(C:H[i]? =some o)(t:ρ[i]? =some r)(u:r.g?=some g)(k:Kp [g] w w')(D:OR (cx G ρ w') ρ o' r):pe G ρ (H.set i o') w'/\u7 ρ w ρ w':=by
 have p:u7 ρ w ρ w':=⟨k.os,k.tape,k.output,k.size,λb q v=>⟨v,k.block b q (by
  simp;rintro rfl;exact v ⟨i,r,t,u⟩)⟩⟩
 refine⟨⟨dw (by rw[B1];exact h.obj.length) λj x n e d=>?_,h.inj,λj n f y A=>?_,λb q=>y7 (h.z b q) k.size,zc h.b0 k.size,h.tb.ed (p.le h.lo)⟩,p⟩
 .by_cases l:i=j
  .grind
  rw[N9 l]at e;let⟨B,c,s⟩:=h.at_ e;rw[d]at c;cases c;refine s.ed (p.le h.lo) (mz.refl _) λf m=>k.block f (h.u0 j n f d m).2.1 ?_;simp;rintro rfl;exact l (h.inj i j r n f t d u m)
 have:=h.u0 j n f y A;exact⟨this.1,y7 this.2.1 k.size,this.2.2⟩
end
end Go.Proofs.YtoecbhljidgajaaGreat
