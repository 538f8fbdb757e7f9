/- What leads to the law, part 4. Conditions: each lemma's own. -/
import Derived.Laws.CopyRow
import Derived.Lib.AppendZerosOnto
import Derived.Lib.Overlaps
import Derived.Test.YtjmbgkmkinmlkaaKOM3
set_option linter.unusedVariables false
set_option linter.unusedSimpArgs false
namespace Go.Proofs.Ytjmbgkmkinmlkaa
open Go.RowKit
def J_ (a b:TV1):Prop:=∀ c ρ v,bX c ρ a v->bX c ρ b v
def yF:List TV1->List TV1->Prop
 | [],[]=>True
 | a :: r,b :: l=>J_ a b/\yF r l
 | _,_=>False
theorem yF.rd {c:Cx} {ρ:List RE}:∀ {aa bs:List TV1} {vs:List Value},yF aa bs->All2 (bX c ρ) aa vs->All2 (bX c ρ) bs vs
 | [],[],_,_,h=>h
 | [],_ :: _,_,h,_=>h.elim
 | _ :: _,[],_,h,_=>h.elim
 | _ :: _,_ :: _,_,h,k=>by cases k with | cons k1 k2=>exact .cons (h.1 _ _ _ k1) (yF.rd h.2 k2)
structure PU (α:Type) where
 p:TV1->Option α
 u:α->TV1
def PU.OK {α:Type} (A:PU α):Prop:=∀ a y,A.p a=some y->J_ a (A.u y)
def kT (s:Sh):PU (den s):=⟨fun | .agg l=>dZ s l | _=>none,fun x=>.agg (cellsOf s x)⟩
def NH (s:Sh) (n:Nat):TV1->Option (List (den s))
 | .agg l=>match nL s l with
  | some xs=>bif Nat.beq xs.length n && Nat.beq s.size 1 then some xs else none
  | none=>none
 | .c _=>none
def kA (s:Sh) (n:Nat):PU (List (den s)):=⟨NH s n,fun xs=>.agg (kM s xs 0 n)⟩
theorem oI {s:Sh} {xs:List (den s)}:∀ (n k:Nat),k+n=xs.length->kM s xs k n=(xs.drop k).flatMap (cellsOf s)
 | 0,k,h=>by rw [List.drop_of_length_le (by omega)]; rfl
 | n+1,k,h=>by
  have hk:k<xs.length:=by omega
  rw [kM,oI n (k+1) (by omega),List.drop_eq_getElem_cons hk,List.flatMap_cons,List.getD_eq_getElem?_getD,List.getElem?_eq_getElem hk]; rfl
theorem Kh {s:Sh} {n:Nat}:(kA s n).OK:=fun a y h=>by
 cases a with
 | c a=>cases h
 | agg l=>
  have h:NH s n (.agg l)=some y:=h
  simp only [NH] at h
  split at h
  ·rename_i xs hx
   cases hb:(Nat.beq xs.length n && Nat.beq s.size 1) <;> rw [hb] at h <;> cases h
   simp only [Bool.and_eq_true] at hb
   intro c ρ v hv
   obtain ⟨us,e,hu⟩:=hv
   refine ⟨us,e,?_⟩
   show All2 _ (kM s y 0 n) us
   have:=Nat.eq_of_beq_eq_true hb.1
   rw [oI n 0 (by omega)]
   exact dY (gG hx hu)
  ·cases h
def my (s:Sh) (xs:List (den s)):Nat->Nat->List (den s)
 | _,0=>[]
 | k,n+1=>xs.getD k (aG s) :: my s xs (k+1) n
theorem mf {s:Sh} {xs:List (den s)}:∀ (n k:Nat),(my s xs k n).length=n
 | 0,_=>rfl
 | n+1,k=>by rw [my,List.length_cons,mf n]
theorem sL {s:Sh} {xs:List (den s)}:∀ (n k:Nat),k+n=xs.length->my s xs k n=xs.drop k
 | 0,k,h=>by rw [List.drop_of_length_le (by omega)]; rfl
 | n+1,k,h=>by
  have hk:k<xs.length:=by omega
  rw [my,sL n (k+1) (by omega),List.drop_eq_getElem_cons hk,List.getD_eq_getElem?_getD,List.getElem?_eq_getElem hk]; rfl
theorem f_ {s:Sh} {xs:List (den s)} {n:Nat} (h:xs.length=n):my s xs 0 n=xs:=sL n 0 (by omega)
theorem bP {s:Sh}:(kT s).OK:=fun a y h=>by
 cases a with
 | c a=>cases h
 | agg l=>exact fun c ρ v ⟨vs,e,hv⟩=>⟨vs,e,dY (aW h (hv.imp fun _ _ h=>Rd.qd h))⟩
structure PC (α:Type) where
 p:AV->Option α
 u:α->AV
def PC.OK {α:Type} (A:PC α):Prop:=∀ a y,A.p a=some y->∀ c ρ v,Rd c ρ a v->Rd c ρ (A.u y) v
def cI:PC Int:=⟨AV.bH,.int⟩
def cU:PC U64:=⟨AV.GP,fun n=>.u64 n.n⟩
def cS:PC Str:=⟨AV.uq,.str⟩
def cB:PC Bool:=⟨AV.rb,fun b=>.bool (.atom b)⟩
def cL (s:Sh):PC (List (den s)):=⟨AV.fD s,.fz s⟩
def aP (i:Nat):PC Unit:=⟨fun | .own j=>bif Nat.beq j i then some () else none | _=>none,fun _=>.own i⟩
def bl (i o:Nat):PC Unit:=⟨fun | .ptr j k=>bif Nat.beq j i && Nat.beq k o then some () else none | _=>none,fun _=>.ptr i o⟩
def mo:List (Nat × Nat)->List (Nat × Nat)->Bool
 | [],[]=>true
 | (i,o) :: r,(j,k) :: l=>Nat.beq i j && Nat.beq o k && mo r l
 | _,_=>false
def iK (f:Nat) (b cs:List (Nat × Nat)):PC Unit:=⟨fun | .fn g b' cs'=>bif Nat.beq g f && mo b' b && mo cs' cs then some () else none | _=>none,fun _=>.fn f b cs⟩
def Nv:PC (Bool × List Int):=⟨fun | .li b xs=>some (b,xs) | _=>none,fun x=>.li x.1 x.2⟩
def IK (s:Sh):AV->Option (List (den s))
 | .xx (.ff s' xs) []=>if h:s' = s then some (h ▸ xs) else none
 | _=>none
def Dr (s:Sh):PC (List (den s)):=⟨IK s,fun xs=>.xx (.ff s xs) []⟩
theorem gU {A:AV} {y:AV} (h:∀ c v,Qd c A v->Pd c y v):∀ c ρ v,Rd c ρ A v->Rd c ρ y v:=fun c ρ v hv=>ga (h c v (Rd.qd hv))
theorem aq:cI.OK:=fun a y h=>gU fun _ _ hv=>Pd.bH h hv
theorem Gh:cU.OK:=fun a y h=>gU fun _ _ hv=>Pd.GP h hv
theorem Kl:cS.OK:=fun a y h=>gU fun _ _ hv=>Pd.uq h hv
theorem lr:cB.OK:=fun a y h=>gU fun _ _ hv=>Pd.rb h hv
theorem b_ {s:Sh}:(cL s).OK:=fun a y h=>gU fun _ _ hv=>Pd.fD h hv
theorem aw {i:Nat}:(aP i).OK:=fun a y h c ρ v hv=>by
 cases a <;> simp only [aP] at h <;> try cases h
 rename_i j
 cases hb:Nat.beq j i <;> rw [hb] at h <;> cases h
 rw [Nat.eq_of_beq_eq_true hb] at hv; exact hv
theorem aF {i o:Nat}:(bl i o).OK:=fun a y h c ρ v hv=>by
 cases a <;> simp only [bl] at h <;> try cases h
 rename_i j k
 cases hb:(Nat.beq j i && Nat.beq k o) <;> rw [hb] at h <;> cases h
 simp only [Bool.and_eq_true] at hb
 rw [Nat.eq_of_beq_eq_true hb.1,Nat.eq_of_beq_eq_true hb.2] at hv; exact hv
theorem mI:∀ {a b:List (Nat × Nat)},mo a b=true->a=b
 | [],[],_=>rfl
 | [],_ :: _,h=>by cases h
 | _ :: _,[],h=>by cases h
 | (i,o) :: r,(j,k) :: l,h=>by
  simp only [mo,Bool.and_eq_true] at h
  rw [Nat.eq_of_beq_eq_true h.1.1,Nat.eq_of_beq_eq_true h.1.2,mI h.2]
theorem bQ {f:Nat} {b cs:List (Nat × Nat)}:(iK f b cs).OK:=fun a y h c ρ v hv=>by
 cases a <;> simp only [iK] at h <;> try cases h
 rename_i g b' cs'
 cases hb:(Nat.beq g f && mo b' b && mo cs' cs) <;> rw [hb] at h <;> cases h
 simp only [Bool.and_eq_true] at hb
 rw [Nat.eq_of_beq_eq_true hb.1.1,mI hb.1.2,mI hb.2] at hv; exact hv
theorem Hr:Nv.OK:=fun a y h c ρ v hv=>by
 cases a <;> simp only [Nv] at h <;> first | (cases h; exact hv) | cases h
theorem fX {s:Sh}:(Dr s).OK:=fun a y h c ρ v hv=>by
 replace h:IK s a=some y:=h
 unfold IK at h
 split at h
 ·split at h
  ·rename_i h2
   subst h2; cases h; exact hv
  ·cases h
 ·cases h
structure PL (α:Type) where
 p:List AV->Option α
 u:α->List AV
def PL.OK {α:Type} (A:PL α):Prop:=∀ l y,A.p l=some y->∀ c ρ vs,All2 (Rd c ρ) l vs->All2 (Rd c ρ) (A.u y) vs
def a_:PL Unit:=⟨fun | []=>some () | _=>none,fun _=>[]⟩
def ai {α β:Type} (A:PC α) (R:PL β):PL (α × β):=⟨fun
 | a :: r=>match A.p a,R.p r with
  | some x,some y=>some (x,y)
  | _,_=>none
 | _=>none,fun q=>A.u q.1 :: R.u q.2⟩
def ra {β:Type} (s:Sh) (R:PL β):PL (den s × β):=⟨fun l=>match dZ s (l.take s.size),R.p (l.drop s.size) with
 | some x,some y=>some (x,y)
 | _,_=>none,fun q=>cellsOf s q.1++R.u q.2⟩
theorem aC:a_.OK:=fun l y h c ρ vs hv=>by cases l <;> simp only [a_] at h <;> first | exact hv | cases h
theorem ae {α β:Type} {A:PC α} {R:PL β} (hA:A.OK) (hR:R.OK):(ai A R).OK:=fun l y h c ρ vs hv=>by
 cases l with
 | nil=>cases h
 | cons a r=>
  simp only [ai] at h
  split at h
  ·rename_i h1 h2
   cases h
   cases hv with
   | cons k1 k2=>exact .cons (hA _ _ h1 _ _ _ k1) (hR _ _ h2 _ _ _ k2)
  ·cases h
theorem dj {β:Type} {s:Sh} {R:PL β} (hR:R.OK):(ra s R).OK:=fun l y h c ρ vs hv=>by
 simp only [ra] at h
 split at h
 ·rename_i h1 h2
  cases h
  have k1:=dY (ρ:=ρ) (aW h1 ((hv.take s.size).imp fun _ _ h=>Rd.qd h))
  have k2:=hR _ _ h2 _ _ _ (hv.drop s.size)
  have:=k1.append k2
  rwa [List.take_append_drop] at this
 ·cases h
def kC {α:Type} (A:PC α):PU α:=⟨fun | .c a=>A.p a | _=>none,fun y=>.c (A.u y)⟩
def kG {α:Type} (R:PL α):PU α:=⟨fun | .agg l=>R.p l | _=>none,fun y=>.agg (R.u y)⟩
theorem az {α:Type} {A:PC α} (hA:A.OK):(kC A).OK:=fun a y h=>by
 cases a with
 | c a=>exact fun c ρ v hv=>hA _ _ h c ρ v hv
 | agg l=>cases h
theorem F_ {α:Type} {R:PL α} (hR:R.OK):(kG R).OK:=fun a y h=>by
 cases a with
 | c a=>cases h
 | agg l=>exact fun c ρ v ⟨vs,e,hv⟩=>⟨vs,e,hR _ _ h _ _ _ hv⟩
structure PT (α:Type) where
 p:List TV1->Option α
 u:α->List TV1
def PT.OK {α:Type} (A:PT α):Prop:=∀ l y,A.p l=some y->yF l (A.u y)
def aS:PT Unit:=⟨fun | []=>some () | _=>none,fun _=>[]⟩
def ak {α β:Type} (A:PU α) (R:PT β):PT (α × β):=⟨fun
 | a :: r=>match A.p a,R.p r with
  | some x,some y=>some (x,y)
  | _,_=>none
 | _=>none,fun q=>A.u q.1 :: R.u q.2⟩
theorem ay:aS.OK:=fun l y h=>by cases l <;> simp only [aS] at h <;> first | exact trivial | cases h
theorem ag {α β:Type} {A:PU α} {R:PT β} (hA:A.OK) (hR:R.OK):(ak A R).OK:=fun l y h=>by
 cases l with
 | nil=>cases h
 | cons a r=>
  simp only [ak] at h
  split at h
  ·rename_i h1 h2
   cases h
   exact ⟨hA _ _ h1,hR _ _ h2⟩
  ·cases h
structure PO (α:Type) where
 p:AO->Option α
 u:α->AO
def PO.OK {α:Type} (A:PO α):Prop:=∀ o y,A.p o=some y->∀ c ρ r,OR c ρ o r->OR c ρ (A.u y) r
def bb {α:Type} (t:TypeId) (R:PL α):PO α:=⟨fun | .box t' cs=>bif Nat.beq t' t then R.p cs else none | _=>none,fun y=>.box t (R.u y)⟩
def aQ (t:TypeId) (s:Sh):PO (List (den s)):=⟨fun | .row t' s' xs=>bif Nat.beq t' t then (if h:s' = s then some (h ▸ xs) else none) else none | _=>none,fun xs=>.row t s xs⟩
def px (t:TypeId) (s:Sh) (n:Nat):PO (List (den s)):=⟨fun | .arr t' s' n' xs=>bif Nat.beq t' t && Nat.beq n' n then (if h:s' = s then some (h ▸ xs) else none) else none | _=>none,fun xs=>.arr t s n xs⟩
theorem aE {α:Type} {t:TypeId} {R:PL α} (hR:R.OK):(bb t R).OK:=fun o y h c ρ r hr=>by
 cases o <;> simp only [bb] at h <;> try cases h
 rename_i t' cs
 cases hb:Nat.beq t' t <;> rw [hb] at h
 ·cases h
 ·have:=Nat.eq_of_beq_eq_true hb
  subst this
  obtain ⟨g,vs,e,h1,h2⟩:=hr
  exact ⟨g,vs,e,h1,hR _ _ h _ _ _ h2⟩
theorem av {t:TypeId} {s:Sh}:(aQ t s).OK:=fun o y h c ρ r hr=>by
 cases o <;> simp only [aQ] at h <;> try cases h
 rename_i t' s' xs
 cases hb:Nat.beq t' t <;> rw [hb] at h
 ·cases h
 ·have:=Nat.eq_of_beq_eq_true hb
  subst this
  simp only [cond_true] at h
  split at h
  ·rename_i e
   subst e
   cases h
   exact hr
  ·cases h
theorem fM {t:TypeId} {s:Sh} {n:Nat}:(px t s n).OK:=fun o y h c ρ r hr=>by
 cases o <;> simp only [px] at h <;> try cases h
 rename_i t' s' n' xs
 cases hb:(Nat.beq t' t && Nat.beq n' n) <;> rw [hb] at h
 ·cases h
 ·simp only [Bool.and_eq_true] at hb
  have:=Nat.eq_of_beq_eq_true hb.1
  subst this
  have:=Nat.eq_of_beq_eq_true hb.2
  subst this
  simp only [cond_true] at h
  split at h
  ·rename_i e
   subst e
   cases h
   exact hr
  ·cases h
structure PH (α:Type) where
 p:AH->Option α
 u:α->AH
def PH.OK {α:Type} (A:PH α):Prop:=∀ H y,A.p H=some y->∀ c ρ ρ',All2 (OR c ρ) H ρ' -> All2 (OR c ρ) (A.u y) ρ'
def aR:PH Unit:=⟨fun | []=>some () | _=>none,fun _=>[]⟩
def au {α β:Type} (A:PO α) (R:PH β):PH (α × β):=⟨fun
 | a :: r=>match A.p a,R.p r with
  | some x,some y=>some (x,y)
  | _,_=>none
 | _=>none,fun q=>A.u q.1 :: R.u q.2⟩
theorem ax:aR.OK:=fun l y h c ρ ρ' hr=>by cases l <;> simp only [aR] at h <;> first | exact hr | cases h
theorem ah {α β:Type} {A:PO α} {R:PH β} (hA:A.OK) (hR:R.OK):(au A R).OK:=fun l y h c ρ ρ' hr=>by
 cases l with
 | nil=>cases h
 | cons a r=>
  simp only [au] at h
  split at h
  ·rename_i h1 h2
   cases h
   cases hr with
   | cons k1 k2=>exact .cons (hA _ _ h1 _ _ _ k1) (hR _ _ h2 _ _ _ k2)
  ·cases h
theorem Sat.Nj {P:Program} {shp:TypeId->Option Sh} {f:Nat} {aa bs:List TV1} {H H':AH} {r:SpecR} (h:Sat P shp f bs H' r) (hs:yF aa bs) (hH:∀ c ρ ρ',All2 (OR c ρ) H ρ' -> All2 (OR c ρ) H' ρ'):Sat P shp f aa H r:=
 ⟨h.1,fun G ρ w vs hg hR hv=>h.2 G ρ w vs hg ⟨hH _ _ _ hR.obj,hR.inj,hR.bnd,hR.z,hR.b0,hR.tb⟩ (hs.rd hv)⟩
section
variable {α β:Type} {P:Program} {shp:TypeId->Option Sh} {f:Nat}
def bE (A:PT α) (B:PH β) (r:α->β->SpecR):List TV1->AH->Option SpecR:=fun a H=>match A.p a,B.p H with
 | some x,some y=>some (r x y)
 | _,_=>none
def Gp (P:Program) (shp:TypeId->Option Sh) (f:Nat) (k:List TV1->AH->Option SpecR):Prop:=∀ args H r,k args H=some r->(∀ p ∈ r.pre,p)->Sat P shp f args H r
theorem aA {A:PT α} {B:PH β} {r:α->β->SpecR} (hA:A.OK) (hB:B.OK) (h:∀ x y,(∀ p ∈ (r x y).pre,p)->Sat P shp f (A.u x) (B.u y) (r x y)):Gp P shp f (bE A B r):=fun args H R e hp=>by
 unfold bE at e
 split at e
 ·rename_i hx hy
  cases e
  exact (h _ _ hp).Nj (hA _ _ hx) fun c ρ ρ' hr=>hB _ _ hy c ρ ρ' hr
 ·cases e
def bF (f:Nat) (k:List TV1->AH->Option SpecR) (O:cO):cO:=fun g a H=>bif Nat.beq f g then (match k a H with
 | some r=>some r
 | none=>O g a H) else O g a H
theorem aB {k:List TV1->AH->Option SpecR} {O:cO} (hk:Gp P shp f k) (hO:bk P shp O):bk P shp (bF f k O):=fun g args H r h hp=>by
 unfold bF at h
 cases hb:Nat.beq f g <;> rw [hb] at h
 ·exact hO g args H r h hp
 ·have:=Nat.eq_of_beq_eq_true hb
  subst this
  simp only [cond_true] at h
  split at h
  ·rename_i hkk
   cases h
   exact hk _ _ _ hkk hp
  ·exact hO f args H r h hp
def gL:cO:=fun _ _ _=>none
def EV (O:cO):cO:=fun g a H=>bif Nat.beq g 1000000000 then some ⟨[False],[],none,false⟩ else O g a H
theorem wF {O:cO} (hO:bk P shp O):bk P shp (EV O):=fun g args H r h hp=>by
 unfold EV at h
 cases hb:Nat.beq g 1000000000 <;> rw [hb] at h
 ·exact hO g args H r h hp
 ·cases h; exact (hp False (by simp)).elim
theorem cH:bk P shp gL:=fun _ _ _ _ h=>by cases h
theorem dM {p:Prop} {l:List Prop} (h:∀ q ∈ p :: l,q):p:=h _ (.head _)
theorem iD {p:Prop} {l:List Prop} (h:∀ q ∈ p :: l,q):∀ q ∈ l,q:=fun q hq=>h q (.tail _ hq)
end
theorem bd {O:cO} (hO:bk Try.prog (ao aI) O) {f:Nat} {fn:Func} {args rs:List TV1} {H:AH} {pre:List Prop} (L:List (Nat × LI)) (hfn:Try.prog.funcs[f]? = some fn) (hng:(fn.name == "runtime.NumGoroutine")=false)
  (hc:(match fn.body with
   | some c=>cJ fn.ntmps c && Nat.ble args.length fn.ntmps
   | none=>false)=true) (h:dp aI O L fn args H rs):Sat Try.prog (ao aI) f args H ⟨pre,rs,none,false⟩:=Sat.Jc dG hO (gC dG hO eZ) hfn hng hc h
theorem cf {O:cO} (hO:bk Try.prog (ao aI) O) {f:Nat} {fn:Func} {args rs:List TV1} {H H':AH} {pre:List Prop} (L:List (Nat × LI)) (hfn:Try.prog.funcs[f]? = some fn) (hng:(fn.name == "runtime.NumGoroutine")=false)
  (hc:(match fn.body with
   | some c=>cJ fn.ntmps c && Nat.ble args.length fn.ntmps
   | none=>false)=true) (h:g_ aI O L fn args H rs H'):Sat Try.prog (ao aI) f args H ⟨pre,rs,some H',false⟩:=Sat.uz dG hO (gC dG hO eZ) hfn hng hc h
theorem di {O:cO} (hO:bk Try.prog (ao aI) O) {f:Nat} {fn:Func} {args rs:List TV1} {H H':AH} {pre:List Prop} (L:List (Nat × LI)) (hfn:Try.prog.funcs[f]? = some fn) (hng:(fn.name == "runtime.NumGoroutine")=false)
  (hc:(match fn.body with
   | some c=>cJ fn.ntmps c && Nat.ble args.length fn.ntmps
   | none=>false)=true) (h:lF aI O L fn args H rs H'):Sat Try.prog (ao aI) f args H ⟨pre,rs,some H',true⟩:=Sat.uz dG hO (gC dG hO eZ) hfn hng hc h
section
variable {P:Program} {n:Nat} {fr:Fr} {w:World} {x y:Operand} {t t' ty e:TypeId}
theorem R.Eb {a:Option Addr} {m c:Nat} (hx:ev fr x=some (.slice a m c)) (ht:P.underlying t=some (.slice e)):aU P n fr w (.call { callee:=.builtin .cap,args:=#[x],argTypes:=#[t] }) ty (.int .i64 (c:Int)) w:=fun _ _ _ _ _ ha=>by
 simp [execOp,resolve,invoke,builtin,ha.ev hx,Builtin.cap_,run_underlying ht,goInt]
theorem R.ln {g o dl dc sl sc z:Nat} {a:Addr} {cur:List Value} {cs:List Value} {tt:TypeId} (hx:ev fr x=some (.slice (some ⟨g,o,none⟩) dl dc)) (hy:ev fr y=some (.slice (some a) sl sc)) (hu:P.underlying t=some (.slice e)) (hs:(P.info? e).map (·.size)=some z)
  (hg:w.heap[g]? = some (.cells cur.toArray tt (0,0))) (hn:cs.length=Nat.min sl dl*z) (hsrc:CellsAt w a cs) (hfit:o+cs.length<=cur.length) (h1:∀ v ∈ cs,v.oneCell' = true) :
  aU P n fr w (.call { callee:=.builtin .copy,args:=#[x,y],argTypes:=#[t,t'] }) ty (goInt (Nat.min sl dl)) (w.setRow g (cur.take o++cs++cur.drop (o+cs.length)).toArray):=fun _ _ _ _ _ ha=>by
 have hl:=run_loadCells_list (P:=P) w a cs hsrc
 have hst:=run_storeCells_at (P:=P) g o tt cs 0 cur.toArray w hg (by simpa using hfit) h1
 simp only [Nat.add_zero] at hst
 cases hq:P.info? e with
 | none=>simp [hq] at hs
 | some i=>
  have hi:i.size=z:=by simpa [hq] using hs
  have hc:(Builtin.copy_ #[t,t'] ty #[.slice (some ⟨g,o,none⟩) dl dc,.slice (some a) sl sc]).run P w = .ok (goInt (Nat.min sl dl)) (w.setRow g (cur.take o++cs++cur.drop (o+cs.length)).toArray):=by
   simp [Builtin.copy_,run_underlying hu,Builtin.lenOf,Builtin.firstCells,sizeOf,typeInfo,hq,hi,<- hn,hl,hst]
  simp [execOp,resolve,invoke,builtin,ha.ev hx,ha.ev hy,hc]
theorem R.LF {base:Option Addr} {sl sc k:Nat} {ti:TypeInfo} {zv:Value} {olds:List Value} (hx:ev fr x=some (.slice base sl sc)) (hy:ev fr y=some (.int .i64 (k:Int))) (hu:P.underlying t=some (.slice e)) (hu':P.underlying t' = some (.int .i64)) (hi:P.info? e=some ti) (hz:ti.zero=some zv)
  (hold:(Builtin.firstCells ti.size sl (.slice base sl sc)).run P w.drew = .ok olds.toArray w.drew) (h0:0<k) (hs:0<ti.size) (hg:sc<sl+k) (h63:((sl+k:Nat):Int)<=9223372036854775807) (h48:k*ti.bytes<=281474976710656) (hfit:Builtin.nextslicecap (sl+k) sc*ti.bytes<=281474976710656) :
  aU P n fr w (.call { callee:=.builtin .append,args:=#[x,y],argTypes:=#[t,t'] }) ty (.slice (some ⟨w.heap.size,0,none⟩) (sl+k) (grownCap w (sl+k) sc e))
   (w.drew.alloc (.cells (olds.toArray++Builtin.zeroCells zv.cells k++Builtin.zeroCells zv.cells (grownCap w (sl+k) sc e - (sl+k))) e)):=fun _ _ _ _ _ ha=>by
 have h:=Lib.run_append_grow_zeros w t t' ty e ti zv .i64 .i64 hu hu' hi hz base sl sc olds hold k h0 hs hg h63 h48 hfit
 simp [execOp,resolve,invoke,builtin,ha.ev hx,ha.ev hy,h]
theorem Eo {tS tR:TypeId} (hu:P.underlying tS=some (.slice e)) {z:Nat} (hz:(P.info? e).map (·.size)=some z) {a b:Addr} {la ca lb cb:Nat} (hne:a.block≠b.block) {curA curB:Array Value} {tA tB:TypeId} {fA:Nat × Nat}
  (hA:w.heap[a.block]? = some (.cells curA tA fA)) (hA0:curA.size≠0) (hB:w.heap[b.block]? = some (.cells curB tB (0,0))) :
  (Extern.SlicesOverlaps.overlaps #[tS,tS] #[tR] #[.slice (some a) la ca,.slice (some b) lb cb]).run P w = .ok (.bool false) w:=by
 have hnb:(a.block != b.block)=true:=by simpa using hne
 have hnb':(a.block == b.block)=false:=by simpa using hne
 have hfb:w.frozen? b=false:=by
  simp [World.frozen?,hB]
 have hfe:w.frozen? { block:=b.block,off:=curB.size }=false:=by
  simp [World.frozen?,hB]
 have hsa:w.shape? a.block=some (tA,curA.size):=by simp [World.shape?,hA]
 have hsb:w.shape? b.block=some (tB,curB.size):=by simp [World.shape?,hB]
 have hsz:(sizeOf e).run P w = .ok z w:=by
  cases hq:P.info? e with
  | none=>simp [hq] at hz
  | some i=>
   have hi:i.size=z:=by simpa [hq] using hz
   simp [sizeOf,typeInfo,hq,hi]
 change Sem.run P (α:=Value) (do
  let some t:=(#[tS,tS]:Array TypeId)[0]? | stuck "slices.overlaps: no parameter types"
  let .slice elem <- underlying t | stuck "slices.overlaps: slice type expected"
  let size <- sizeOf elem
  match (some a:Option Addr),(some b:Option Addr) with
  | some a,some b=>
   if la=0\/lb=0\/size=0 then pure (Value.bool false)
   else if a.block != b.block && (<- frozen a) && (<- frozen b) then unsupported .addressObserved
   else do
    if a.block != b.block then do
     noView a; noView b
     if <- mayBeOne a b then return Value.bool ((<- choose (.extern "sameAddr.stringBytes" 2)) == 1)
    pure (Value.bool (a.block == b.block && a.off<b.off+lb*size && b.off<a.off+la*size))
  | _,_=>pure (Value.bool false)) w=_
 by_cases h0:la=0\/lb=0\/z=0
 ·simp [run_underlying hu,hsz,h0]
 ·cases hk:curA.size with
  | zero=>exact absurd hk hA0
  | succ k=>
   rw [hk] at hsa
   cases hfa:w.frozen? a <;> cases hfae:w.frozen? { block:=a.block,off:=k+1 } <;>
    simp [run_underlying hu,hsz,h0,hnb,hnb',frozen,noView,viewAt,mayBeOne,stringish,shape,Sem.run,hsa,hsb,hfa,hfb,hfe,hfae]
theorem R.Of {f:FuncId} {fn:Func} {tS tR:TypeId} {ats:Array TypeId} (hf:P.funcs[f]? = some fn) (hname:(fn.name == "runtime.NumGoroutine")=false) (hb:fn.body.isNone=true) (hn:Extern.findNext fn=none) (he:Extern.find fn=some (Extern.SlicesOverlaps.overlaps #[tS,tS] #[tR]))
  (hu:P.underlying tS=some (.slice e)) {z:Nat} (hz:(P.info? e).map (·.size)=some z) {a b:Addr} {la ca lb cb:Nat} (hne:a.block≠b.block) {curA curB:Array Value} {tA tB:TypeId} {fA:Nat × Nat}
  (hA:w.heap[a.block]? = some (.cells curA tA fA)) (hA0:curA.size≠0) (hB:w.heap[b.block]? = some (.cells curB tB (0,0))) (hx:ev fr x=some (.slice (some a) la ca)) (hy:ev fr y=some (.slice (some b) lb cb)) :
  aU P n fr w (.call { callee:=.value (.func f),args:=#[x,y],argTypes:=ats }) ty (.bool false) w:=fun ac _ _ _ _ ha=>by
 have h1:=run_callFunc_extern hf hname hb hn he #[.slice (some a) la ca,.slice (some b) lb cb] w
 rw [Eo hu hz hne hA hA0 hB] at h1
 have h0:ac.eval (.func f) = .func (.func f) #[] #[]:=rfl
 simp [execOp,resolve,h0,Deferred.ofValue,invoke,ha.ev hx,ha.ev hy,h1]
theorem WO.ve {Q:Exit->Act->World->Prop} {l rest:List Oper} {d:Nat} {op:Op} {pos:String} {af:Array Edge} {ψ:Value->World->Prop} (h:∃ v w',aU P n fr w op ty v w' /\ ψ v w') (hd:Nat.blt d n=true) (k:∀ v w',ψ v w' -> WO P Q n l rest ((d,v) :: fr) w'):WO P Q n l (⟨some d,op,ty,pos,af,none⟩ :: rest) fr w:=by
 obtain ⟨v,w',h1,h2⟩:=h
 exact WO.v h1 hd (k v w' h2)
theorem R.wx {u u' v:Value} {w':World} {ts:Array TypeId} (h:aU P n [] w (.call { callee:=.builtin .append,args:=#[.const u,.const u'],argTypes:=ts }) ty v w') (hx:ev fr x=some u) (hy:ev fr y=some u'):aU P n fr w (.call { callee:=.builtin .append,args:=#[x,y],argTypes:=ts }) ty v w':=fun a d pos af g ha=>by
 have h1:=h a d pos af g (ha.sub fun i v hv=>by cases hv)
 have e1:a.eval (.const u)=u:=rfl
 have e2:a.eval (.const u')=u':=rfl
 simp only [execOp,resolve,invoke,builtin,ha.ev hx,ha.ev hy,e1,e2,List.map_toArray,List.map_cons,List.map_nil,Sem.run_bind,Sem.run_pure,Result.andThen_ok] at h1 ⊢
 exact h1
theorem R.slice3 {a:Option Addr} {m c i j k s:Nat} {kl kh km:IntKind} {z z' z'':Operand} (hx:ev fr x=some (.slice a m c)) (hz:ev fr z=some (.int kl (i:Int))) (hz':ev fr z' = some (.int kh (j:Int))) (hz'':ev fr z'' = some (.int km (k:Int))) (ht:P.underlying t=some (.slice e)) (hs:(P.info? e).map (·.size)=some s)
  (hij:i<=j) (hjk:j<=k) (hk:k<=c):aU P n fr w (.slice t x (some z) (some z') (some z'')) ty (.slice (if k=i then a else a.map (·.add (i*s))) (j - i) (k - i)) w:=fun _ _ _ _ _ hfr=>by
 cases hq:P.info? e with
 | none=>simp [hq] at hs
 | some q=>
  have hs':q.size=s:=by simpa [hq] using hs
  have he:P.elem t=e:=by simp [Program.elem,ht]
  have e0:=run_sliceAt_slice (P:=P) w t (.slice a m c) (some (.int kl (i:Int))) (some (.int kh (j:Int))) (some (.int km (k:Int))) (by rw [he]; exact ht)
  have:=run_slice_lhm (P:=P) w t a m c (by rw [he]; exact ht) kl kh km (i:Int) (j:Int) (k:Int) (by omega) (by omega) (by omega) (by omega)
  simp [execOp,hfr.ev hx,hfr.ev hz,hfr.ev hz',hfr.ev hz'',e0,this,he,sizeOf,typeInfo,hq,hs',sliced,Result.andThen]
theorem R.DS {g sl sc m c:Nat} {ti:TypeInfo} {ad:Addr} {cur news:List Value} (hx:ev fr x=some (.slice (some ⟨g,0,none⟩) sl sc)) (hy:ev fr y=some (.slice (some ad) m c)) (hu:P.underlying t=some (.slice e)) (hi:P.info? e=some ti) (hg:w.heap[g]? = some (.cells cur.toArray e (0,0)))
  (hl:news.length=m*ti.size) (hsrc:CellsAt w ad news) (h1:∀ u ∈ news,u.oneCell' = true) (hroom:sl+m<=sc) (hfit:sl*ti.size+news.length<=cur.length) :
  aU P n fr w (.call { callee:=.builtin .append,args:=#[x,y],argTypes:=#[t,t] }) ty (.slice (some ⟨g,0,none⟩) (sl+m) sc) (w.setRow g (cur.take (sl*ti.size)++news++cur.drop (sl*ti.size+news.length)).toArray):=fun _ _ _ _ _ ha=>by
 have h:=run_append_room (P:=P) w t ty e ti hu hi g sl sc cur.toArray hg ad m c news hl hsrc h1 hroom (by simpa using hfit)
 simp [execOp,resolve,invoke,builtin,ha.ev hx,ha.ev hy,h]
theorem R.Ov {g o m c:Nat} {ti:TypeInfo} {zv:Value} {cur:List Value} {tt:TypeId} (hx:ev fr x=some (.slice (some ⟨g,o,none⟩) m c)) (hm:m=1) (hu:P.underlying t=some (.slice e)) (hi:P.info? e=some ti) (hz:ti.zero=some zv) (h1:∀ u ∈ (Builtin.zeroCells zv.cells 1).toList,u.oneCell' = true) (hg:w.heap[g]? = some (.cells cur.toArray tt (0,0))) (hfit:o+(Builtin.zeroCells zv.cells 1).toList.length<=cur.length) :
  aU P n fr w (.call { callee:=.builtin .clear,args:=#[x],argTypes:=#[t] }) ty (.tuple #[]) (w.setRow g (cur.take o++(Builtin.zeroCells zv.cells 1).toList++cur.drop (o+(Builtin.zeroCells zv.cells 1).toList.length)).toArray):=fun _ _ _ _ _ ha=>by
 subst hm
 have hst:=run_storeCells_at P g o tt (Builtin.zeroCells zv.cells 1).toList 0 cur.toArray w hg (by simpa using hfit) h1
 simp only [Nat.add_zero] at hst
 have hc:(Builtin.clear_ #[t] ty #[.slice (some ⟨g,o,none⟩) 1 c]).run P w = .ok (.tuple #[]) (w.setRow g (cur.take o++(Builtin.zeroCells zv.cells 1).toList++cur.drop (o+(Builtin.zeroCells zv.cells 1).toList.length)).toArray):=by
  simp [Builtin.clear_,run_underlying hu,zeroValue,typeInfo,hi,hz,hst]
 simp [execOp,resolve,invoke,builtin,ha.ev hx,hc]
theorem Ic {A:Addr} {c i z:Nat}:(if c=i then (some A:Option Addr) else (some A:Option Addr).map (·.add (i*z)))=some (if c=i then A else A.add (i*z)):=by
 split <;> rfl
theorem oT {a:Addr} {v:Value} (h:w.cell? a=some v):∃ cur t f,w.heap[a.block]? = some (.cells cur t f)/\cur.size≠0:=by
 unfold World.cell? at h
 split at h
 ·rename_i c t f hc
  refine ⟨c,t,f,hc,fun h0=>?_⟩
  split at h
  ·cases h
  ·have:=(Array.getElem?_eq_some_iff.1 h).1
   omega
 ·cases h
theorem GV {c:Cx} {s:Sh} {xs:List (den s)} {ad:Addr} {m k:Nat} (h:Pd c (.fz s xs) (.slice (some ad) m k)) (h0:xs.length≠0):c.at s ad.block:=by
 generalize hv:Value.slice (some ad) m k=v at h
 cases h with
 | fz h1 h2 h3 h4 h5=>
  rcases h5 with h5 | ⟨A,hA,h6,_⟩
  ·subst h5; exact absurd rfl h0
  ·cases hv; cases hA; exact h6
theorem Ga {α:Type} {cells sp cys:List α} {o z:Nat} (ho:o+z<=cells.length) (hc:cys.length=z):((cells++sp).take (o+z)++cells.drop o++(cells++sp).drop (o+z+(cells.drop o).length)).take o++cys++((cells++sp).take (o+z)++cells.drop o++(cells++sp).drop (o+z+(cells.drop o).length)).drop (o+cys.length)=cells.take o++cys++cells.drop o++sp.drop z:=by
 have e1:(cells++sp).take (o+z)=cells.take (o+z):=List.take_append_of_le_length ho
 have e2:(cells++sp).drop (o+z+(cells.drop o).length)=sp.drop z:=by
  rw [List.length_drop,show o+z+(cells.length - o)=cells.length+z by omega,List.drop_append]
  simp
 have hl:(cells.take (o+z)).length=o+z:=by rw [List.length_take]; omega
 rw [e1,e2,hc]
 generalize hA:cells.take (o+z)=A at *
 have hA2:A.take o=cells.take o:=by rw [<- hA,List.take_take,Nat.min_eq_left (by omega)]
 rw [List.append_assoc A,List.take_append_of_le_length (by omega),hA2,List.drop_left' hl]
 simp
theorem Gb {α:Type} {cur cells ds cys:List α} {o z:Nat} (ho:o+z<=cur.length) (hc:cys.length=z) (he:cur.take o=cells.take o):(cur.take o++cys++cur.drop (o+cys.length)).take (o+z)++ds++(cur.take o++cys++cur.drop (o+cys.length)).drop (o+z+ds.length)=cells.take o++cys++ds++cur.drop (o+z+ds.length):=by
 have hl:(cur.take o++cys).length=o+z:=by rw [List.length_append,List.length_take,hc]; omega
 have e1:(cur.take o++cys++cur.drop (o+z)).drop (o+z+ds.length)=cur.drop (o+z+ds.length):=by
  rw [<- List.drop_drop,List.drop_left' hl,List.drop_drop]
 rw [hc,List.take_left' hl,e1,he]
theorem dy {g c i z:Nat} (h:¬ c=i):(if c=i then (some ⟨g,0,none⟩:Option Addr) else (some ⟨g,0,none⟩:Option Addr).map (·.add (i*z)))=some ⟨g,i*z,none⟩:=by
 rw [if_neg h,Option.map_some,add_lit,Nat.zero_add]
end
theorem mW (z:Array Value) (n:Nat):(Builtin.zeroCells z n).toList.length=n*z.size:=by rw [Array.length_toList,size_zeroCells]
theorem dq {w:World} {g:Nat} {o:Obj} (h:w.heap[g]? = some o):g<w.heap.size:=(Array.getElem?_eq_some_iff.1 h).1
theorem cw:(Try.prog.info? 46).map (·.size)=some 4:=by kernel_rfl
theorem zI:(Try.prog.info? 46).map (fun i=>(i.zero,i.size,i.bytes))=some (some (.agg #[.int .i64 0,.int .i64 0,.int .i64 0,.int .i64 0]),4,32):=by kernel_rfl
set_option maxRecDepth 100000 in
set_option maxHeartbeats 1000000 in
theorem tr {w:World} {n c vc:Nat} {A:Option Addr} {B:Option Addr} {φ:Value->World->Prop} (happ:∀ (F:Fr) (x y:Operand) (ty:TypeId),ev F x=some (.slice A n c)->ev F y=some (.slice B 1 vc)->∃ v2 w2,aU Try.prog 95 F w (.call { callee:=.builtin .append,args:=#[x,y],argTypes:=#[22,22] }) ty v2 w2/\φ v2 w2) :
  gw Try.prog 17 [.slice A n c,.int .i64 (n:Int),.slice B 1 vc].toArray w φ:=by
 refine gw.enter Try.func17 rfl rfl rfl rfl ?_
 refine WC.seq ?_
 refine WC.region ?_
 refine WO.v (R.assign rfl) rfl ?_
 refine WO.nil ?_
 refine WX.next ?_
 refine WC.seq ?_
 refine WC.region ?_
 refine WO.v (R.move rfl) rfl ?_
 refine WO.v (R.move rfl) rfl ?_
 refine WO.v (R.cr rfl rfl Try.underlying22 cw rfl (by omega)) rfl ?_
 refine WO.nil ?_
 refine WX.next ?_
 refine WC.seq ?_
 refine WC.region ?_
 refine WO.v (R.move rfl) rfl ?_
 refine WO.v (R.len rfl Try.underlying22) rfl ?_
 refine WO.v (R.assign rfl) rfl ?_
 refine WO.nil ?_
 refine WX.next ?_
 refine WC.seq ?_
 refine WC.seq ?_
 refine WC.region ?_
 refine WO.v (R.move rfl) rfl ?_
 refine WO.v (R.eql rfl rfl) rfl ?_
 refine WO.nil ?_
 refine WX.next ?_
 refine WC.cond rfl (fun q=>absurd (of_decide_eq_true q) (by omega)) (fun _=>?_)
 refine WC.skip ?_
 refine WX.next ?_
 refine WC.seq ?_
 refine WC.region ?_
 refine WO.v (R.move rfl) rfl ?_
 refine WO.v (R.len rfl Try.underlying22) rfl ?_
 refine WO.v (R.assign rfl) rfl ?_
 refine WO.nil ?_
 refine WX.next ?_
 refine WC.seq ?_
 refine WC.seq ?_
 refine WC.region ?_
 refine WO.v (R.move rfl) rfl ?_
 refine WO.v (R.move rfl) rfl ?_
 refine WO.v (R.eql rfl rfl) rfl ?_
 refine WO.nil ?_
 refine WX.next ?_
 refine WC.cond rfl (fun _=>?_) (fun q=>absurd rfl (of_decide_eq_false q))
 refine WC.seq ?_
 refine WC.region ?_
 refine WO.v (R.move rfl) rfl ?_
 refine WO.v (R.move rfl) rfl ?_
 refine WO.ve (happ _ _ _ _ rfl rfl) rfl fun v2 w2 hv2=>?_
 refine WO.v (R.assign rfl) rfl ?_
 refine WO.nil ?_
 refine WX.next ?_
 refine WC.ret ?_
 refine WX.eV ?_
 refine WX.uf rfl rfl ?_
 exact hv2
set_option maxRecDepth 100000 in
set_option maxHeartbeats 1000000 in
theorem pz {w W1:World} {g b n i c vc G:Nat} {ad:Addr} {cur vs ds:List Value} (hi:i<n) (hnc:n<=c) (hc:c<n+1) (hcm:c<=maxLen) (hG:n+1<=G) (hGm:G<=maxLen)
  (happ:∀ (F:Fr) (x y:Operand) (ty:TypeId),ev F x=some (.slice (some ⟨g,0*4,none⟩) i c)->ev F y=some (.int .i64 ((n+1 - i:Nat):Int))->aU Try.prog 95 F w (.call { callee:=.builtin .append,args:=#[x,y],argTypes:=#[22,3] }) ty (.slice (some ⟨b,0,none⟩) (n+1) G) W1)
  (hrow:W1.heap[b]? = some (.cells cur.toArray 46 (0,0))) (hcur:(n+1)*4<=cur.length) (hv:CellsAt W1 ad vs) (hvl:vs.length=4) (hd:CellsAt W1 ⟨g,i*4,none⟩ ds) (hgb:g≠b) (hgl:g<W1.heap.size) (hdl:ds.length=(n - i)*4)
  (h1v:∀ u ∈ vs,u.oneCell' = true) (h1d:∀ u ∈ ds,u.oneCell' = true) :
  gw Try.prog 17 [.slice (some ⟨g,0,none⟩) n c,.int .i64 (i:Int),.slice (some ad) 1 vc].toArray w fun v w'=>v = .slice (some ⟨b,0,none⟩) (n+1) G/\∃ w1,Kp [] (W1.setRow b (cur.take (i*4)++vs++cur.drop (i*4+vs.length)).toArray) w1/\w' = w1.setRow b ((cur.take (i*4)++vs++cur.drop (i*4+vs.length)).take ((i+1)*4)++ds++(cur.take (i*4)++vs++cur.drop (i*4+vs.length)).drop ((i+1)*4+ds.length)).toArray:=by
 have hGm:G<=9223372036854775807:=hGm
 have hcm:c<=9223372036854775807:=hcm
 have hn1:vs.length=Nat.min 1 (n+1 - i)*4:=by rw [show Nat.min 1 (n+1 - i)=1 from Nat.min_eq_left (by omega),Nat.one_mul]; exact hvl
 have hn2:ds.length=Nat.min (n - i) (n+1 - (i+1))*4:=by rw [show Nat.min (n - i) (n+1 - (i+1))=n - i from Nat.min_eq_left (by omega)]; exact hdl
 refine gw.enter Try.func17 rfl rfl rfl rfl ?_
 refine WC.seq ?_
 refine WC.region ?_
 refine WO.v (R.assign rfl) rfl ?_
 refine WO.nil ?_
 refine WX.next ?_
 refine WC.seq ?_
 refine WC.region ?_
 refine WO.v (R.move rfl) rfl ?_
 refine WO.v (R.move rfl) rfl ?_
 refine WO.v (R.cr rfl rfl Try.underlying22 cw rfl (by omega)) rfl ?_
 refine WO.nil ?_
 refine WX.next ?_
 refine WC.seq ?_
 refine WC.region ?_
 refine WO.v (R.move rfl) rfl ?_
 refine WO.v (R.len rfl Try.underlying22) rfl ?_
 refine WO.v (R.assign rfl) rfl ?_
 refine WO.nil ?_
 refine WX.next ?_
 refine WC.seq ?_
 refine WC.seq ?_
 refine WC.region ?_
 refine WO.v (R.move rfl) rfl ?_
 refine WO.v (R.eql rfl rfl) rfl ?_
 refine WO.nil ?_
 refine WX.next ?_
 refine WC.cond rfl (fun q=>absurd (of_decide_eq_true q) (by omega)) (fun _=>?_)
 refine WC.skip ?_
 refine WX.next ?_
 refine WC.seq ?_
 refine WC.region ?_
 refine WO.v (R.move rfl) rfl ?_
 refine WO.v (R.len rfl Try.underlying22) rfl ?_
 refine WO.v (R.assign rfl) rfl ?_
 refine WO.nil ?_
 refine WX.next ?_
 refine WC.seq ?_
 refine WC.seq ?_
 refine WC.region ?_
 refine WO.v (R.move rfl) rfl ?_
 refine WO.v (R.move rfl) rfl ?_
 refine WO.v (R.eql rfl rfl) rfl ?_
 refine WO.nil ?_
 refine WX.next ?_
 refine WC.cond rfl (fun q=>absurd (of_decide_eq_true q) (by omega)) (fun _=>?_)
 refine WC.skip ?_
 refine WX.next ?_
 refine WC.seq ?_
 refine WC.seq ?_
 refine WC.region ?_
 refine WO.v (R.move rfl) rfl ?_
 refine WO.v (R.move rfl) rfl ?_
 refine WO.v (R.jq rfl rfl (by omega)) rfl ?_
 refine WO.v (R.move rfl) rfl ?_
 refine WO.v (R.Eb rfl Try.underlying22) rfl ?_
 refine WO.v (R.gtr rfl rfl) rfl ?_
 refine WO.nil ?_
 refine WX.next ?_
 refine WC.cond rfl (fun _=>?_) (fun q=>absurd (by omega) (of_decide_eq_false q))
 refine WC.seq ?_
 refine WC.region ?_
 refine WO.v (R.move rfl) rfl ?_
 refine WO.v (R.move rfl) rfl ?_
 refine WO.v (R.j_ rfl rfl Try.underlying22 cw (dy (i:=0) (by omega)) (by omega)) rfl ?_
 refine WO.v (R.move rfl) rfl ?_
 refine WO.v (R.move rfl) rfl ?_
 refine WO.v (R.jq rfl rfl (by omega)) rfl ?_
 refine WO.v (R.move rfl) rfl ?_
 refine WO.v (R.Ke rfl rfl (by omega) (by omega)) rfl ?_
 refine WO.v (happ _ _ _ _ rfl rfl) rfl ?_
 refine WO.v (R.assign rfl) rfl ?_
 refine WO.nil ?_
 refine WX.next ?_
 refine WC.seq ?_
 refine WC.region ?_
 refine WO.v (R.move rfl) rfl ?_
 refine WO.v (R.move rfl) rfl ?_
 refine WO.v (R.cr rfl rfl Try.underlying22 cw (dy (by omega)) (by omega)) rfl ?_
 refine WO.v (R.move rfl) rfl ?_
 refine WO.v (R.ln rfl rfl Try.underlying22 cw hrow hn1 hv (by omega) h1v) rfl ?_
 refine WO.nil ?_
 refine WX.next ?_
 refine WC.seq ?_
 refine WC.oX eZ [.ex [] (.slice (some ⟨b,0,none⟩) (n+1) G),.ex [] (.int .i64 ((i:Nat):Int)),.ex [] (.int .i64 ((1:Nat):Int)),.ex [1,2] (.int .i64 ((i+1:Nat):Int)),.ex [0,3] (.slice (some ⟨b,(i+1)*4,none⟩) (n+1 - (i+1)) (G - (i+1))),.ex [] (.slice (some ⟨g,0,none⟩) n c),.ex [] (.int .i64 ((i:Nat):Int)),.ex [5,6] (.slice (some ⟨g,i*4,none⟩) (n - i) (c - i))] 8 (by kernel_rfl) ⟨fun _ _ _ h _=>h,fun _ _ _ h _=>h,fun _ _ _ h _=>h,fun _ _ _ h _=>h,fun _ _ _ h _=>h,fun _ _ _ h _=>h,fun _ _ _ h _=>h,fun _ _ _ h _=>h,trivial⟩ ⟨?_,?_,?_,?_,?_,?_,?_,?_,trivial⟩ ?_
 ·rintro vs wd kd ⟨-⟩
  refine WO.bL (fr':=[(9,.slice (some ⟨b,0,none⟩) (n+1) G)]) ⟨⟨_,rfl,rfl⟩,trivial⟩ ?_
  refine WO.v (R.move rfl) rfl ?_
  refine WO.nil ?_
  exact WX.aT rfl rfl (Kp.refl _)
 ·rintro vs wd kd ⟨-⟩
  refine WO.bL (fr':=[(1,.int .i64 ((i:Nat):Int))]) ⟨⟨_,rfl,rfl⟩,trivial⟩ ?_
  refine WO.v (R.move rfl) rfl ?_
  refine WO.nil ?_
  exact WX.aT rfl rfl (Kp.refl _)
 ·rintro vs wd kd ⟨-⟩
  refine WO.bL (fr':=[(7,.int .i64 ((1:Nat):Int))]) ⟨⟨_,rfl,rfl⟩,trivial⟩ ?_
  refine WO.v (R.move rfl) rfl ?_
  refine WO.nil ?_
  exact WX.aT rfl rfl (Kp.refl _)
 ·rintro vs wd kd ⟨e1,e2,-⟩
  refine WO.bL (fr':=[(47,.int .i64 ((i:Nat):Int)),(48,.int .i64 ((1:Nat):Int))]) ⟨⟨_,rfl,e1⟩,⟨_,rfl,e2⟩,trivial⟩ ?_
  refine WO.v (R.jq rfl rfl (by omega)) rfl ?_
  refine WO.nil ?_
  exact WX.aT rfl rfl (Kp.refl _)
 ·rintro vs wd kd ⟨e0,e3,-⟩
  refine WO.bL (fr':=[(46,.slice (some ⟨b,0,none⟩) (n+1) G),(49,.int .i64 ((i+1:Nat):Int))]) ⟨⟨_,rfl,e0⟩,⟨_,rfl,e3⟩,trivial⟩ ?_
  refine WO.v (R.cr rfl rfl Try.underlying22 cw (dy (by omega)) (by omega)) rfl ?_
  refine WO.nil ?_
  exact WX.aT rfl rfl (Kp.refl _)
 ·rintro vs wd kd ⟨-⟩
  refine WO.bL (fr':=[(0,.slice (some ⟨g,0,none⟩) n c)]) ⟨⟨_,rfl,rfl⟩,trivial⟩ ?_
  refine WO.v (R.move rfl) rfl ?_
  refine WO.nil ?_
  exact WX.aT rfl rfl (Kp.refl _)
 ·rintro vs wd kd ⟨-⟩
  refine WO.bL (fr':=[(1,.int .i64 ((i:Nat):Int))]) ⟨⟨_,rfl,rfl⟩,trivial⟩ ?_
  refine WO.v (R.move rfl) rfl ?_
  refine WO.nil ?_
  exact WX.aT rfl rfl (Kp.refl _)
 ·rintro vs wd kd ⟨e5,e6,-⟩
  refine WO.bL (fr':=[(51,.slice (some ⟨g,0,none⟩) n c),(52,.int .i64 ((i:Nat):Int))]) ⟨⟨_,rfl,e5⟩,⟨_,rfl,e6⟩,trivial⟩ ?_
  refine WO.v (R.cr rfl rfl Try.underlying22 cw (dy (by omega)) (by omega)) rfl ?_
  refine WO.nil ?_
  exact WX.aT rfl rfl (Kp.refl _)
 rintro vsx w1 k1 ⟨-,-,-,-,e4,-,-,e7,-⟩
 replace k1:Kp [] (W1.setRow b (cur.take (i*4)++vs++cur.drop (i*4+vs.length)).toArray) w1:=k1
 refine WO.bL (fr':=[(50,.slice (some ⟨b,(i+1)*4,none⟩) (n+1 - (i+1)) (G - (i+1))),(53,.slice (some ⟨g,i*4,none⟩) (n - i) (c - i)),(9,.slice (some ⟨b,0,none⟩) (n+1) G)]) ⟨⟨_,rfl,e4⟩,⟨_,rfl,e7⟩,⟨_,rfl,rfl⟩,trivial⟩ ?_
 have hb2:w1.heap[b]? = some (.cells (List.toArray (cur.take (i*4)++vs++cur.drop (i*4+vs.length))) 46 (0,0)):=by rw [k1.block b (by simpa using dq hrow) (by simp)]; exact setRow_heap W1 b _ _ 46 _ hrow
 have hd2:CellsAt w1 ⟨g,i*4,none⟩ ds:=(hd.kp (Kp.setRow W1 b _) hgl (by simpa using hgb.symm)).kp k1 (by simpa using hgl) (by simp)
 refine WO.v (R.ln rfl rfl Try.underlying22 cw hb2 hn2 hd2 (by simp only [List.length_append,List.length_take,List.length_drop]; omega) h1d) rfl ?_
 refine WO.nil ?_
 refine WX.next ?_
 refine WC.seq ?_
 refine WC.region ?_
 refine WO.v (R.move rfl) rfl ?_
 refine WO.v (R.assign rfl) rfl ?_
 refine WO.nil ?_
 refine WX.next ?_
 refine WC.ret ?_
 refine WX.eV ?_
 refine WX.uf rfl rfl ?_
 exact ⟨rfl,w1,k1,rfl⟩
set_option maxRecDepth 100000 in
set_option maxHeartbeats 1000000 in
theorem od {w:World} {g n i c vc:Nat} {ad:Addr} {cur vs ds:List Value} {curA:Array Value} {tA:TypeId} {fA:Nat × Nat} (hi:i<n) (hc:n+1<=c) (hcm:c<=maxLen)
  (hrow:w.heap[g]? = some (.cells cur.toArray 46 (0,0))) (hcur:(n+1)*4<=cur.length) (hv:CellsAt w ad vs) (hvb:w.heap[ad.block]? = some (.cells curA tA fA)) (hvb0:curA.size≠0) (hne:ad.block≠g) (hvl:vs.length=4) (hd:CellsAt w ⟨g,i*4,none⟩ ds) (hdl:ds.length=(n - i)*4)
  (h1v:∀ u ∈ vs,u.oneCell' = true) (h1d:∀ u ∈ ds,u.oneCell' = true) :
  gw Try.prog 17 [.slice (some ⟨g,0,none⟩) n c,.int .i64 (i:Int),.slice (some ad) 1 vc].toArray w fun v w'=>v = .slice (some ⟨g,0,none⟩) (n+1) c/\∃ w1,Kp [] w w1/\w' = (w1.setRow g (cur.take ((i+1)*4)++ds++cur.drop ((i+1)*4+ds.length)).toArray).setRow g ((cur.take ((i+1)*4)++ds++cur.drop ((i+1)*4+ds.length)).take (i*4)++vs++(cur.take ((i+1)*4)++ds++cur.drop ((i+1)*4+ds.length)).drop (i*4+vs.length)).toArray:=by
 have hcm:c<=9223372036854775807:=hcm
 have hn1:vs.length=Nat.min 1 (n+1 - i)*4:=by rw [show Nat.min 1 (n+1 - i)=1 from Nat.min_eq_left (by omega),Nat.one_mul]; exact hvl
 have hn2:ds.length=Nat.min (n+1 - i) (n+1 - (i+1))*4:=by rw [show Nat.min (n+1 - i) (n+1 - (i+1))=n+1 - (i+1) from Nat.min_eq_right (by omega),hdl]; congr 1; omega
 refine gw.enter Try.func17 rfl rfl rfl rfl ?_
 refine WC.seq ?_
 refine WC.region ?_
 refine WO.v (R.assign rfl) rfl ?_
 refine WO.nil ?_
 refine WX.next ?_
 refine WC.seq ?_
 refine WC.region ?_
 refine WO.v (R.move rfl) rfl ?_
 refine WO.v (R.move rfl) rfl ?_
 refine WO.v (R.cr rfl rfl Try.underlying22 cw rfl (by omega)) rfl ?_
 refine WO.nil ?_
 refine WX.next ?_
 refine WC.seq ?_
 refine WC.region ?_
 refine WO.v (R.move rfl) rfl ?_
 refine WO.v (R.len rfl Try.underlying22) rfl ?_
 refine WO.v (R.assign rfl) rfl ?_
 refine WO.nil ?_
 refine WX.next ?_
 refine WC.seq ?_
 refine WC.seq ?_
 refine WC.region ?_
 refine WO.v (R.move rfl) rfl ?_
 refine WO.v (R.eql rfl rfl) rfl ?_
 refine WO.nil ?_
 refine WX.next ?_
 refine WC.cond rfl (fun q=>absurd (of_decide_eq_true q) (by omega)) (fun _=>?_)
 refine WC.skip ?_
 refine WX.next ?_
 refine WC.seq ?_
 refine WC.region ?_
 refine WO.v (R.move rfl) rfl ?_
 refine WO.v (R.len rfl Try.underlying22) rfl ?_
 refine WO.v (R.assign rfl) rfl ?_
 refine WO.nil ?_
 refine WX.next ?_
 refine WC.seq ?_
 refine WC.seq ?_
 refine WC.region ?_
 refine WO.v (R.move rfl) rfl ?_
 refine WO.v (R.move rfl) rfl ?_
 refine WO.v (R.eql rfl rfl) rfl ?_
 refine WO.nil ?_
 refine WX.next ?_
 refine WC.cond rfl (fun q=>absurd (of_decide_eq_true q) (by omega)) (fun _=>?_)
 refine WC.skip ?_
 refine WX.next ?_
 refine WC.seq ?_
 refine WC.seq ?_
 refine WC.region ?_
 refine WO.v (R.move rfl) rfl ?_
 refine WO.v (R.move rfl) rfl ?_
 refine WO.v (R.jq rfl rfl (by omega)) rfl ?_
 refine WO.v (R.move rfl) rfl ?_
 refine WO.v (R.Eb rfl Try.underlying22) rfl ?_
 refine WO.v (R.gtr rfl rfl) rfl ?_
 refine WO.nil ?_
 refine WX.next ?_
 refine WC.cond rfl (fun q=>absurd (of_decide_eq_true q) (by omega)) (fun _=>?_)
 refine WC.skip ?_
 refine WX.next ?_
 refine WC.seq ?_
 refine WC.region ?_
 refine WO.v (R.move rfl) rfl ?_
 refine WO.v (R.move rfl) rfl ?_
 refine WO.v (R.move rfl) rfl ?_
 refine WO.v (R.jq rfl rfl (by omega)) rfl ?_
 refine WO.v (R.j_ rfl rfl Try.underlying22 cw (dy (i:=0) (by omega)) (by omega)) rfl ?_
 refine WO.v (R.assign rfl) rfl ?_
 refine WO.nil ?_
 refine WX.next ?_
 refine WC.seq ?_
 refine WC.seq ?_
 refine WC.region ?_
 refine WO.v (R.move rfl) rfl ?_
 refine WO.v (R.move rfl) rfl ?_
 refine WO.v (R.move rfl) rfl ?_
 refine WO.v (R.move rfl) rfl ?_
 refine WO.v (R.jq rfl rfl (by omega)) rfl ?_
 refine WO.v (R.cr rfl rfl Try.underlying22 cw (dy (by omega)) (by omega)) rfl ?_
 refine WO.v (R.Of (tS:=22) (tR:=4) Try.func30 rfl rfl (by kernel_rfl) (by kernel_rfl) Try.underlying22 cw hne hvb hvb0 hrow rfl rfl) rfl ?_
 refine WO.v (R.not rfl) rfl ?_
 refine WO.nil ?_
 refine WX.next ?_
 refine WC.z_ rfl ?_
 refine WC.seq ?_
 refine WC.oX eZ [.ex [] (.slice (some ⟨g,0,none⟩) (n+1) c),.ex [] (.int .i64 ((i:Nat):Int)),.ex [] (.int .i64 ((1:Nat):Int)),.ex [1,2] (.int .i64 ((i+1:Nat):Int)),.ex [0,3] (.slice (some ⟨g,(i+1)*4,none⟩) (n+1 - (i+1)) (c - (i+1))),.ex [] (.slice (some ⟨g,0,none⟩) (n+1) c),.ex [] (.int .i64 ((i:Nat):Int)),.ex [5,6] (.slice (some ⟨g,i*4,none⟩) (n+1 - i) (c - i))] 8 (by kernel_rfl) ⟨fun _ _ _ h _=>h,fun _ _ _ h _=>h,fun _ _ _ h _=>h,fun _ _ _ h _=>h,fun _ _ _ h _=>h,fun _ _ _ h _=>h,fun _ _ _ h _=>h,fun _ _ _ h _=>h,trivial⟩ ⟨?_,?_,?_,?_,?_,?_,?_,?_,trivial⟩ ?_
 ·rintro vs wd kd ⟨-⟩
  refine WO.bL (fr':=[(0,.slice (some ⟨g,0,none⟩) (n+1) c)]) ⟨⟨_,rfl,rfl⟩,trivial⟩ ?_
  refine WO.v (R.move rfl) rfl ?_
  refine WO.nil ?_
  exact WX.aT rfl rfl (Kp.refl _)
 ·rintro vs wd kd ⟨-⟩
  refine WO.bL (fr':=[(1,.int .i64 ((i:Nat):Int))]) ⟨⟨_,rfl,rfl⟩,trivial⟩ ?_
  refine WO.v (R.move rfl) rfl ?_
  refine WO.nil ?_
  exact WX.aT rfl rfl (Kp.refl _)
 ·rintro vs wd kd ⟨-⟩
  refine WO.bL (fr':=[(7,.int .i64 ((1:Nat):Int))]) ⟨⟨_,rfl,rfl⟩,trivial⟩ ?_
  refine WO.v (R.move rfl) rfl ?_
  refine WO.nil ?_
  exact WX.aT rfl rfl (Kp.refl _)
 ·rintro vs wd kd ⟨e1,e2,-⟩
  refine WO.bL (fr':=[(70,.int .i64 ((i:Nat):Int)),(71,.int .i64 ((1:Nat):Int))]) ⟨⟨_,rfl,e1⟩,⟨_,rfl,e2⟩,trivial⟩ ?_
  refine WO.v (R.jq rfl rfl (by omega)) rfl ?_
  refine WO.nil ?_
  exact WX.aT rfl rfl (Kp.refl _)
 ·rintro vs wd kd ⟨e0,e3,-⟩
  refine WO.bL (fr':=[(69,.slice (some ⟨g,0,none⟩) (n+1) c),(72,.int .i64 ((i+1:Nat):Int))]) ⟨⟨_,rfl,e0⟩,⟨_,rfl,e3⟩,trivial⟩ ?_
  refine WO.v (R.cr rfl rfl Try.underlying22 cw (dy (by omega)) (by omega)) rfl ?_
  refine WO.nil ?_
  exact WX.aT rfl rfl (Kp.refl _)
 ·rintro vs wd kd ⟨-⟩
  refine WO.bL (fr':=[(0,.slice (some ⟨g,0,none⟩) (n+1) c)]) ⟨⟨_,rfl,rfl⟩,trivial⟩ ?_
  refine WO.v (R.move rfl) rfl ?_
  refine WO.nil ?_
  exact WX.aT rfl rfl (Kp.refl _)
 ·rintro vs wd kd ⟨-⟩
  refine WO.bL (fr':=[(1,.int .i64 ((i:Nat):Int))]) ⟨⟨_,rfl,rfl⟩,trivial⟩ ?_
  refine WO.v (R.move rfl) rfl ?_
  refine WO.nil ?_
  exact WX.aT rfl rfl (Kp.refl _)
 ·rintro vs wd kd ⟨e5,e6,-⟩
  refine WO.bL (fr':=[(74,.slice (some ⟨g,0,none⟩) (n+1) c),(75,.int .i64 ((i:Nat):Int))]) ⟨⟨_,rfl,e5⟩,⟨_,rfl,e6⟩,trivial⟩ ?_
  refine WO.v (R.cr rfl rfl Try.underlying22 cw (dy (by omega)) (by omega)) rfl ?_
  refine WO.nil ?_
  exact WX.aT rfl rfl (Kp.refl _)
 rintro vsx w1 k1 ⟨-,-,-,-,e4,-,-,e7,-⟩
 replace k1:Kp [] w w1:=k1
 refine WO.bL (fr':=[(73,.slice (some ⟨g,(i+1)*4,none⟩) (n+1 - (i+1)) (c - (i+1))),(76,.slice (some ⟨g,i*4,none⟩) (n+1 - i) (c - i)),(0,.slice (some ⟨g,0,none⟩) (n+1) c),(1,.int .i64 ((i:Nat):Int)),(2,.slice (some ad) 1 vc)]) ⟨⟨_,rfl,e4⟩,⟨_,rfl,e7⟩,⟨_,rfl,rfl⟩,⟨_,rfl,rfl⟩,⟨_,rfl,rfl⟩,trivial⟩ ?_
 have hg1:w1.heap[g]? = some (.cells (List.toArray cur) 46 (0,0)):=by rw [k1.block g (dq hrow) (by simp)]; exact hrow
 refine WO.v (R.ln rfl rfl Try.underlying22 cw hg1 hn2 (hd.kp k1 (dq hrow) (by simp)) (by omega) h1d) rfl ?_
 refine WO.nil ?_
 refine WX.next ?_
 have hg2:(w1.setRow g (cur.take ((i+1)*4)++ds++cur.drop ((i+1)*4+ds.length)).toArray).heap[g]? = some (.cells (List.toArray (cur.take ((i+1)*4)++ds++cur.drop ((i+1)*4+ds.length))) 46 (0,0)):=setRow_heap w1 g _ _ 46 _ hg1
 have hv2:CellsAt (w1.setRow g (cur.take ((i+1)*4)++ds++cur.drop ((i+1)*4+ds.length)).toArray) ad vs:=(hv.kp k1 (dq hvb) (by simp)).kp (Kp.setRow w1 g _) (Nat.lt_of_lt_of_le (dq hvb) k1.size) (by simpa using fun h=>hne h.symm)
 refine WC.seq ?_
 refine WC.region ?_
 refine WO.v (R.move rfl) rfl ?_
 refine WO.v (R.move rfl) rfl ?_
 refine WO.v (R.cr rfl rfl Try.underlying22 cw (dy (by omega)) (by omega)) rfl ?_
 refine WO.v (R.move rfl) rfl ?_
 refine WO.v (R.ln rfl rfl Try.underlying22 cw hg2 hn1 hv2 (by simp only [List.length_append,List.length_take,List.length_drop]; omega) h1v) rfl ?_
 refine WO.nil ?_
 refine WX.next ?_
 refine WC.seq ?_
 refine WC.region ?_
 refine WO.v (R.move rfl) rfl ?_
 refine WO.v (R.assign rfl) rfl ?_
 refine WO.nil ?_
 refine WX.next ?_
 refine WC.ret ?_
 refine WX.eV ?_
 refine WX.uf rfl rfl ?_
 exact ⟨rfl,w1,k1,rfl⟩
theorem uo {G:Gl} {ρ:List RE} {H:AH} {w:World} (hs:G.shp=ao aI) (hR:Rep G ρ H w) {l m:List (den (.nm .sess))} (hH:getO H 0 = .row 46 (.nm .sess) l) (hl:l.length<1048576) {i:Nat} (hi:i<=l.length) {v0:Value} (h0:Rd (cx G ρ w) ρ (.own 0) v0)
  {ad:Addr} {k:Nat} {cys:List Value} {bAV:AV} (hm:m.length=1) (hb:Rd (cx G ρ w) ρ bAV (.slice (some ad) 1 k)) (hbv:(bAV.vw H).fD (.nm .sess)=some m) (hv:CellsAt w ad cys) (hvl:cys.length=4) (h1v:∀ u ∈ cys,u.oneCell' = true) (hp:Pds (cx G ρ w) (m.flatMap (cellsOf (.nm .sess))) cys)
  (hne:∀ g c n z,ρ[0]? = some (.row g c n z)->ad.block≠g) {curA:Array Value} {tA:TypeId} {fA:Nat × Nat} (hvb:w.heap[ad.block]? = some (.cells curA tA fA)) (hvb0:curA.size≠0) :
  gw Try.prog 17 [v0,.int .i64 (i:Int),.slice (some ad) 1 k].toArray w fun v w'=>∃ ρ',Stp (dS 0) ρ w ρ' w' /\ Rep G ρ' ((eR (AV.kill 0) H).set 0 (.row 46 (.nm .sess) (l.take i++m++l.drop i))) w' /\ Rd (cx G ρ' w') ρ' (.own 0) v:=by
 have hT:bn Try.prog G.shp aI:=hs ▸ dG
 obtain ⟨hshp,hlen⟩:=df hR hH
 have hl64:l.length<=9223372036854775807:=by omega
 have hin:((l.length:Nat):Int)<=9223372036854775807:=by omega
 by_cases hie:i=l.length
 ·subst hie
  have hc:∃ A c,v0 = .slice A l.length c:=by
   rcases h0 with ⟨g,cap,len,z,h1,rfl⟩ | ⟨h1,a,rfl⟩
   ·rcases bJ hR hH with ⟨h2,_⟩ | ⟨g',cap',cells,sp,h2,_⟩
    ·rw [h1] at h2; cases h2
    ·rw [h1] at h2; cases h2; exact ⟨_,_,rfl⟩
   ·rcases bJ hR hH with ⟨_,h2⟩ | ⟨g',cap',cells,sp,h2,_⟩
    ·subst h2; exact ⟨_,_,rfl⟩
    ·rw [h1] at h2; cases h2
  obtain ⟨A,c,rfl⟩:=hc
  refine tr fun F x y ty hx hy=>?_
  have happ:fP aI (dS 0) ([]:AFr) H 22 (.own 0) bAV=some ⟨one (.own 0),[],(eR (AV.kill 0) H).set 0 (.row 46 (.nm .sess) (l++m)),[(l.length+m.length)*(Sh.nm NT.sess).bytes<=140737488355328],[]⟩:=by
   unfold fP
   rw [show bq aI 22=some ⟨.sl 46 (some (.nm .sess)),1,[.em true]⟩ from by kernel_rfl]
   simp only [hbv,hL,hH]
   rfl
  obtain ⟨v,w',h1,ρ',h2,h3,_,h5,_⟩:=fR (P:=Try.prog) (n:=95) (F:=[]) (ty:=ty) (fr:=[]) (x:=.const (.slice A l.length c)) (y:=.const (.slice (some ad) 1 k)) hT hR .nil happ (by
   intro p hp
   rw [List.mem_singleton] at hp; subst hp
   show (l.length+m.length)*32<=_
   omega) h0 hb rfl rfl
  refine ⟨v,w',R.wx h1 hx hy,ρ',h2,?_,h5⟩
  rw [List.take_length,List.drop_length,List.append_nil]
  exact h3
 ·have hlt:i<l.length:=by omega
  rcases bJ hR hH with ⟨_,h2⟩ | ⟨g,cap,cells,sp,hρ,hg,hpd,hsz,hcap,hmax⟩
  ·subst h2; simp at hlt
  obtain ⟨hnb,hil,hiH⟩:=kQ hR hH
  have hv0:v0 = .slice (some ⟨g,0,none⟩) l.length cap:=by
   rcases h0 with ⟨g',cap',len,z,h1,rfl⟩ | ⟨h1,a,rfl⟩
   ·rw [hρ] at h1; cases h1; rfl
   ·rw [hρ] at h1; cases h1
  subst hv0
  have hz:(Sh.nm NT.sess).size=4:=rfl
  have hby:(Sh.nm NT.sess).bytes=32:=rfl
  have hcl:cells.length=l.length*4:=by rw [<- hpd.length,bT,hz]
  rw [hz,List.length_append] at hsz
  have hone:∀ u ∈ cells.drop (i*4),u.oneCell' = true:=fun u hu=>hpd.Di u (List.mem_of_mem_drop hu)
  have hd:CellsAt w ⟨g,i*4,none⟩ (cells.drop (i*4)):=by
   have:=(bU hg).shift (i*4)
   rwa [add_lit,Nat.zero_add] at this
  have hdl:(cells.drop (i*4)).length=(l.length - i)*4:=by rw [List.length_drop,hcl]; omega
  have hgl:=dq hg
  have hzl:(l.take i++m++l.drop i).length=l.length+1:=by
   rw [List.length_append,List.length_append,List.length_take,List.length_drop,hm]; omega
  have hnew:∀ {c:Cx},(cx G ρ w).le c->Pds c ((l.take i++m++l.drop i).flatMap (cellsOf (.nm .sess))) (cells.take (i*4)++cys++cells.drop (i*4)):=fun {c} hle=>by
   rw [List.flatMap_append,List.flatMap_append]
   exact (((bO hpd i).append hp).append (bY hpd i)).carry hle
  have hnl:(cells.take (i*4)++cys++cells.drop (i*4)).length=(l.length+1)*4:=by
   rw [List.length_append,List.length_append,List.length_take,List.length_drop,hcl,hvl]; omega
  have hbig:(l.take i++m++l.drop i).length*(Sh.nm NT.sess).bytes<=140737488355328:=by rw [hzl,hby]; omega
  -- what is shown of any way
  have fin:∀ (S:List Nat) (g2 cap2:Nat) (sp2:List Value) (w':World),Kp S w w' -> (∀ b ∈ S,b=g)->(g2=g\/w.heap.size<=g2)->w'.heap[g2]? = some (.cells (List.toArray (cells.take (i*4)++cys++cells.drop (i*4)++sp2)) 46 (0,0))->(l.length+1)*4+sp2.length=cap2*4->l.length+1<=cap2->cap2<=maxLen ->
    ∃ ρ',Stp (dS 0) ρ w ρ' w' /\ Rep G ρ' ((eR (AV.kill 0) H).set 0 (.row 46 (.nm .sess) (l.take i++m++l.drop i))) w' /\ Rd (cx G ρ' w') ρ' (.own 0) (.slice (some ⟨g2,0,none⟩) (l.length+1) cap2):=by
   intro S g2 cap2 sp2 w' hk hS hg2 hh hlen2 hle2 hmax2
   obtain ⟨k1,k2,_⟩:=jy (ro:=dS 0) (s':=.nm .sess) (e':=46) (zs:=l.take i++m++l.drop i) hR hH ⟨rfl,rfl⟩ hk (fun b hb=>⟨_,hρ,by rw [hS b hb]; rfl⟩) (r':=.row g2 cap2 (l.take i++m++l.drop i).length (Sh.nm NT.sess).size) (fun b hb=>by
    cases hb
    rcases hg2 with rfl | hg2
    ·exact .inl ⟨_,hρ,rfl⟩
    ·exact .inr ⟨hg2,dq hh⟩) (fun hle=>⟨hshp,hbig,.inr ⟨g2,cap2,_,sp2,rfl,hh,hnew hle,by rw [List.length_append,hnl,hz]; exact hlen2,by rw [hzl]; exact hle2,hmax2⟩⟩)
   exact ⟨_,k1,k2,.inl ⟨g2,cap2,_,_,List.getElem?_set_self hil,by rw [hzl]⟩⟩
  have eo:(i+1)*4=i*4+4:=by omega
  by_cases hroom:l.length+1<=cap
  ·refine (od hlt hroom hmax hg (by rw [List.length_append]; omega) hv hvb hvb0 (hne _ _ _ _ hρ) hvl hd hdl h1v hone).mono fun v w' ⟨e1,w1,k1,e2⟩=>?_
   subst e1; subst e2
   rw [eo,Ga (by omega) hvl]
   have hk:Kp [g] w ((w1.setRow g ((cells++sp).take (i*4+4)++cells.drop (i*4)++(cells++sp).drop (i*4+4+(cells.drop (i*4)).length)).toArray).setRow g (cells.take (i*4)++cys++cells.drop (i*4)++sp.drop 4).toArray):=((k1.sub (by simp)).step (Kp.setRow w1 g _) (by simp)).step (Kp.setRow _ g _) (by simp)
   have hg1:w1.heap[g]? = some (.cells (List.toArray (cells++sp)) 46 (0,0)):=by rw [k1.block g hgl (by simp)]; exact hg
   exact fin [g] g cap (sp.drop 4) _ hk (by simp) (.inl rfl) (setRow_heap _ g _ _ 46 _ (setRow_heap w1 g _ _ 46 _ hg1)) (by rw [List.length_drop]; omega) hroom hmax
  ·obtain ⟨ti,hi0,hz0,hz1,hz2⟩:=info_parts zI
   have eik:i+(l.length+1 - i)=l.length+1:=by omega
   have hge:=grownCap_ge w (l.length+1) cap 46
   have hgm:=grownCap_le_maxLen w (l.length+1) cap 46 (by simp [maxLen]; omega)
   have hold:(Builtin.firstCells ti.size i (.slice (some ⟨g,0*4,none⟩) i cap)).run Try.prog w.drew = .ok (cells.take (i*4)).toArray w.drew:=by
    have h:=run_loadCells_list (P:=Try.prog) w.drew ⟨g,0*4,none⟩ (cells.take (i*4)) (by rw [Nat.zero_mul]; exact (bU hg).take _)
    rw [List.length_take,Nat.min_eq_left (by omega)] at h
    rw [hz1]; exact h
   have happ:∀ (F:Fr) (x y:Operand) (ty:TypeId),ev F x=some (.slice (some ⟨g,0*4,none⟩) i cap)->ev F y=some (.int .i64 ((l.length+1 - i:Nat):Int))->aU Try.prog 95 F w (.call { callee:=.builtin .append,args:=#[x,y],argTypes:=#[22,3] }) ty (.slice (some ⟨w.heap.size,0,none⟩) (l.length+1) (grownCap w (l.length+1) cap 46)) (w.drew.alloc (.cells (List.toArray (cells.take (i*4)++((Builtin.zeroCells (Value.agg #[.int .i64 0,.int .i64 0,.int .i64 0,.int .i64 0]).cells (l.length+1 - i)).toList++(Builtin.zeroCells (Value.agg #[.int .i64 0,.int .i64 0,.int .i64 0,.int .i64 0]).cells (grownCap w (l.length+1) cap 46 - (l.length+1))).toList))) 46)):=fun F x y ty hx hy=>by
    have h:=R.LF (P:=Try.prog) (n:=95) (ty:=ty) hx hy Try.underlying22 Try.underlying3 hi0 hz0 hold (by omega) (by rw [hz1]; decide) (by omega) (by omega) (by rw [hz2]; omega) (by rw [hz2,eik]; exact growslice_fits (by omega) (by omega))
    rw [eik] at h
    have e:∀ (a:List Value) (b c:Array Value),a.toArray++b++c=(a++(b.toList++c.toList)).toArray:=fun a b c=>by apply Array.ext'; simp
    rw [e] at h
    exact h
   have hcurl:(cells.take (i*4)++((Builtin.zeroCells (Value.agg #[.int .i64 0,.int .i64 0,.int .i64 0,.int .i64 0]).cells (l.length+1 - i)).toList++(Builtin.zeroCells (Value.agg #[.int .i64 0,.int .i64 0,.int .i64 0,.int .i64 0]).cells (grownCap w (l.length+1) cap 46 - (l.length+1))).toList)).length=grownCap w (l.length+1) cap 46*4:=by
    rw [List.length_append,List.length_append,List.length_take,mW,mW]
    show min _ _+((l.length+1 - i)*4+(grownCap w (l.length+1) cap 46 - (l.length+1))*4)=_
    omega
   have htk:(cells.take (i*4)++((Builtin.zeroCells (Value.agg #[.int .i64 0,.int .i64 0,.int .i64 0,.int .i64 0]).cells (l.length+1 - i)).toList++(Builtin.zeroCells (Value.agg #[.int .i64 0,.int .i64 0,.int .i64 0,.int .i64 0]).cells (grownCap w (l.length+1) cap 46 - (l.length+1))).toList)).take (i*4)=cells.take (i*4):=List.take_left' (by rw [List.length_take]; omega)
   generalize grownCap w (l.length+1) cap 46=GC at *
   generalize cells.take (i*4)++((Builtin.zeroCells (Value.agg #[.int .i64 0,.int .i64 0,.int .i64 0,.int .i64 0]).cells (l.length+1 - i)).toList++(Builtin.zeroCells (Value.agg #[.int .i64 0,.int .i64 0,.int .i64 0,.int .i64 0]).cells (GC - (l.length+1))).toList)=cur at *
   have hK1:Kp [] w (w.drew.alloc (.cells (List.toArray cur) 46)):=((Kp.refl w).drew).step (Kp.alloc w.drew _) (by simp)
   have hrow:(w.drew.alloc (.cells (List.toArray cur) 46)).heap[w.heap.size]? = some (.cells (List.toArray cur) 46 (0,0)):=heap_alloc_new w.drew _
   generalize w.drew.alloc (.cells (List.toArray cur) 46)=W1 at *
   refine (pz hlt hcap (by omega) hmax hge hgm happ hrow (by omega) (hv.kp hK1 (dq hvb) (by simp)) hvl (hd.kp hK1 hgl (by simp)) (by omega) (Nat.lt_of_lt_of_le hgl hK1.size) hdl h1v hone).mono fun v w' ⟨e1,w1,k1,e2⟩=>?_
   subst e1; subst e2
   rw [eo,Gb (cells:=cells) (by omega) hvl htk]
   have hs1:∀ b ∈ [w.heap.size],b ∈ ([]:List Nat)\/w.heap.size<=b:=fun b hb=>.inr (by rw [List.mem_singleton] at hb; omega)
   have hk:Kp [] w (w1.setRow w.heap.size (cells.take (i*4)++cys++cells.drop (i*4)++cur.drop (i*4+4+(cells.drop (i*4)).length)).toArray):=((hK1.step (Kp.setRow W1 w.heap.size _) hs1).step k1 (by simp)).step (Kp.setRow w1 w.heap.size _) hs1
   have hg1:=(k1.block w.heap.size (by simpa using dq hrow) (by simp)).trans (setRow_heap W1 w.heap.size _ (cur.take (i*4)++cys++cur.drop (i*4+cys.length)).toArray 46 _ hrow)
   exact fin [] w.heap.size GC _ _ hk (by simp) (.inr (Nat.le_refl _)) (setRow_heap w1 w.heap.size _ _ 46 _ hg1) (by rw [List.length_drop]; omega) hge hgm
theorem qc (i:Int) (l m:List (den (.nm .sess))) (h:0<=i/\i<=(l.length:Int)) (hl:l.length<1048576) (hm:m.length=1):Sat Try.prog (ao aI) 17 [.c (.own 0),.c (.int i),.c (.own 1)] [.row 46 (.nm .sess) l,.row 46 (.nm .sess) m] ⟨[0<=i/\i<=(l.length:Int),l.length<1048576,m.length=1],[.c (.own 0)],some [.row 46 (.nm .sess) (l.take i.toNat++m++l.drop i.toNat),.row 46 (.nm .sess) m],false⟩:=by
 refine ⟨⟨_,Try.func17,by decide,rfl⟩,fun G ρ w vs hs hR hvs=>?_⟩
 obtain ⟨i,rfl⟩:=Int.eq_ofNat_of_zero_le h.1
 cases hvs with | cons h0 hvs=>
 cases hvs with | cons h1 hvs=>
 cases hvs with | cons h2 hvs=>
 cases hvs
 have h1:Pd (cx G ρ w) (.int (i:Int)) _:=h1
 cases h1
 have h0:Rd (cx G ρ w) ρ (.own 0) _:=h0
 have h2:Rd (cx G ρ w) ρ (.own 1) _:=h2
 have hH:getO [AO.row 46 (.nm .sess) l,.row 46 (.nm .sess) m] 0 = .row 46 (.nm .sess) l:=rfl
 have hbv:(AV.vw [AO.row 46 (.nm .sess) l,.row 46 (.nm .sess) m] (.own 1)).fD (.nm .sess)=some m:=by simp [AV.vw,AV.fD,getO]
 obtain ⟨A,k,cys,rfl,s1,s2,s3,s4⟩:=mQ hR hbv h2
 rw [hm] at h2 s1 s3
 rw [hm]
 obtain ⟨ad,rfl,s5⟩:∃ ad,A=some ad/\CellsAt w ad cys:=s3.resolve_left (by decide)
 have hz:(Sh.nm NT.sess).size=4:=rfl
 rw [hz] at s1
 obtain ⟨u,hu⟩:∃ u,cys[0]? = some u:=⟨_,List.getElem?_eq_getElem (by omega)⟩
 obtain ⟨cur,t,f,hc,hc0⟩:=oT (s5 0 u hu)
 have hne:∀ g c n z,ρ[0]? = some (.row g c n z)->ad.block≠g:=fun g c n z hg e=>by
  rcases h2 with ⟨g',cap',len,z',h3,h4⟩ | ⟨h3,a,h4⟩
  ·cases h4
   have:=hR.inj 0 1 _ _ g hg h3 rfl (by rw [<- e]; rfl)
   omega
  ·cases h4
 rw [ey] at hc
 refine (uo hs hR hH hl (by omega) h0 hm h2 hbv s5 s1 s2 s4 hne hc hc0).mono fun v w' ⟨ρ',k1,k2,k3⟩=>?_
 exact ⟨[v],rfl,ρ',k2,k1.ext,k1.bx,.cons k3 .nil,fun hb=>by cases hb⟩
theorem cD:(Try.prog.info? 42).map (·.size)=some 2:=by kernel_rfl
theorem wS:(Try.prog.info? 42).map (fun i=>(i.zero,i.size,i.bytes))=some (some (.agg #[.int .i64 0,.int .i64 0]),2,16):=by kernel_rfl
set_option maxRecDepth 100000 in
set_option maxHeartbeats 1000000 in
theorem uV {w:World} {n c vc:Nat} {A:Option Addr} {B:Option Addr} {φ:Value->World->Prop} (happ:∀ (F:Fr) (x y:Operand) (ty:TypeId),ev F x=some (.slice A n c)->ev F y=some (.slice B 1 vc)->∃ v2 w2,aU Try.prog 95 F w (.call { callee:=.builtin .append,args:=#[x,y],argTypes:=#[23,23] }) ty v2 w2/\φ v2 w2) :
  gw Try.prog 81 [.slice A n c,.int .i64 (n:Int),.slice B 1 vc].toArray w φ:=by
 refine gw.enter Try.func81 rfl rfl rfl rfl ?_
 refine WC.seq ?_
 refine WC.region ?_
 refine WO.v (R.assign rfl) rfl ?_
 refine WO.nil ?_
 refine WX.next ?_
 refine WC.seq ?_
 refine WC.region ?_
 refine WO.v (R.move rfl) rfl ?_
 refine WO.v (R.move rfl) rfl ?_
 refine WO.v (R.cr rfl rfl Try.underlying23 cD rfl (by omega)) rfl ?_
 refine WO.nil ?_
 refine WX.next ?_
 refine WC.seq ?_
 refine WC.region ?_
 refine WO.v (R.move rfl) rfl ?_
 refine WO.v (R.len rfl Try.underlying23) rfl ?_
 refine WO.v (R.assign rfl) rfl ?_
 refine WO.nil ?_
 refine WX.next ?_
 refine WC.seq ?_
 refine WC.seq ?_
 refine WC.region ?_
 refine WO.v (R.move rfl) rfl ?_
 refine WO.v (R.eql rfl rfl) rfl ?_
 refine WO.nil ?_
 refine WX.next ?_
 refine WC.cond rfl (fun q=>absurd (of_decide_eq_true q) (by omega)) (fun _=>?_)
 refine WC.skip ?_
 refine WX.next ?_
 refine WC.seq ?_
 refine WC.region ?_
 refine WO.v (R.move rfl) rfl ?_
 refine WO.v (R.len rfl Try.underlying23) rfl ?_
 refine WO.v (R.assign rfl) rfl ?_
 refine WO.nil ?_
 refine WX.next ?_
 refine WC.seq ?_
 refine WC.seq ?_
 refine WC.region ?_
 refine WO.v (R.move rfl) rfl ?_
 refine WO.v (R.move rfl) rfl ?_
 refine WO.v (R.eql rfl rfl) rfl ?_
 refine WO.nil ?_
 refine WX.next ?_
 refine WC.cond rfl (fun _=>?_) (fun q=>absurd rfl (of_decide_eq_false q))
 refine WC.seq ?_
 refine WC.region ?_
 refine WO.v (R.move rfl) rfl ?_
 refine WO.v (R.move rfl) rfl ?_
 refine WO.ve (happ _ _ _ _ rfl rfl) rfl fun v2 w2 hv2=>?_
 refine WO.v (R.assign rfl) rfl ?_
 refine WO.nil ?_
 refine WX.next ?_
 refine WC.ret ?_
 refine WX.eV ?_
 refine WX.uf rfl rfl ?_
 exact hv2
set_option maxRecDepth 100000 in
set_option maxHeartbeats 1000000 in
theorem te {w W1:World} {g b n i c vc G:Nat} {ad:Addr} {cur vs ds:List Value} (hi:i<n) (hnc:n<=c) (hc:c<n+1) (hcm:c<=maxLen) (hG:n+1<=G) (hGm:G<=maxLen)
  (happ:∀ (F:Fr) (x y:Operand) (ty:TypeId),ev F x=some (.slice (some ⟨g,0*2,none⟩) i c)->ev F y=some (.int .i64 ((n+1 - i:Nat):Int))->aU Try.prog 95 F w (.call { callee:=.builtin .append,args:=#[x,y],argTypes:=#[23,3] }) ty (.slice (some ⟨b,0,none⟩) (n+1) G) W1)
  (hrow:W1.heap[b]? = some (.cells cur.toArray 42 (0,0))) (hcur:(n+1)*2<=cur.length) (hv:CellsAt W1 ad vs) (hvl:vs.length=2) (hd:CellsAt W1 ⟨g,i*2,none⟩ ds) (hgb:g≠b) (hgl:g<W1.heap.size) (hdl:ds.length=(n - i)*2)
  (h1v:∀ u ∈ vs,u.oneCell' = true) (h1d:∀ u ∈ ds,u.oneCell' = true) :
  gw Try.prog 81 [.slice (some ⟨g,0,none⟩) n c,.int .i64 (i:Int),.slice (some ad) 1 vc].toArray w fun v w'=>v = .slice (some ⟨b,0,none⟩) (n+1) G/\∃ w1,Kp [] (W1.setRow b (cur.take (i*2)++vs++cur.drop (i*2+vs.length)).toArray) w1/\w' = w1.setRow b ((cur.take (i*2)++vs++cur.drop (i*2+vs.length)).take ((i+1)*2)++ds++(cur.take (i*2)++vs++cur.drop (i*2+vs.length)).drop ((i+1)*2+ds.length)).toArray:=by
 have hGm:G<=9223372036854775807:=hGm
 have hcm:c<=9223372036854775807:=hcm
 have hn1:vs.length=Nat.min 1 (n+1 - i)*2:=by rw [show Nat.min 1 (n+1 - i)=1 from Nat.min_eq_left (by omega),Nat.one_mul]; exact hvl
 have hn2:ds.length=Nat.min (n - i) (n+1 - (i+1))*2:=by rw [show Nat.min (n - i) (n+1 - (i+1))=n - i from Nat.min_eq_left (by omega)]; exact hdl
 refine gw.enter Try.func81 rfl rfl rfl rfl ?_
 refine WC.seq ?_
 refine WC.region ?_
 refine WO.v (R.assign rfl) rfl ?_
 refine WO.nil ?_
 refine WX.next ?_
 refine WC.seq ?_
 refine WC.region ?_
 refine WO.v (R.move rfl) rfl ?_
 refine WO.v (R.move rfl) rfl ?_
 refine WO.v (R.cr rfl rfl Try.underlying23 cD rfl (by omega)) rfl ?_
 refine WO.nil ?_
 refine WX.next ?_
 refine WC.seq ?_
 refine WC.region ?_
 refine WO.v (R.move rfl) rfl ?_
 refine WO.v (R.len rfl Try.underlying23) rfl ?_
 refine WO.v (R.assign rfl) rfl ?_
 refine WO.nil ?_
 refine WX.next ?_
 refine WC.seq ?_
 refine WC.seq ?_
 refine WC.region ?_
 refine WO.v (R.move rfl) rfl ?_
 refine WO.v (R.eql rfl rfl) rfl ?_
 refine WO.nil ?_
 refine WX.next ?_
 refine WC.cond rfl (fun q=>absurd (of_decide_eq_true q) (by omega)) (fun _=>?_)
 refine WC.skip ?_
 refine WX.next ?_
 refine WC.seq ?_
 refine WC.region ?_
 refine WO.v (R.move rfl) rfl ?_
 refine WO.v (R.len rfl Try.underlying23) rfl ?_
 refine WO.v (R.assign rfl) rfl ?_
 refine WO.nil ?_
 refine WX.next ?_
 refine WC.seq ?_
 refine WC.seq ?_
 refine WC.region ?_
 refine WO.v (R.move rfl) rfl ?_
 refine WO.v (R.move rfl) rfl ?_
 refine WO.v (R.eql rfl rfl) rfl ?_
 refine WO.nil ?_
 refine WX.next ?_
 refine WC.cond rfl (fun q=>absurd (of_decide_eq_true q) (by omega)) (fun _=>?_)
 refine WC.skip ?_
 refine WX.next ?_
 refine WC.seq ?_
 refine WC.seq ?_
 refine WC.region ?_
 refine WO.v (R.move rfl) rfl ?_
 refine WO.v (R.move rfl) rfl ?_
 refine WO.v (R.jq rfl rfl (by omega)) rfl ?_
 refine WO.v (R.move rfl) rfl ?_
 refine WO.v (R.Eb rfl Try.underlying23) rfl ?_
 refine WO.v (R.gtr rfl rfl) rfl ?_
 refine WO.nil ?_
 refine WX.next ?_
 refine WC.cond rfl (fun _=>?_) (fun q=>absurd (by omega) (of_decide_eq_false q))
 refine WC.seq ?_
 refine WC.region ?_
 refine WO.v (R.move rfl) rfl ?_
 refine WO.v (R.move rfl) rfl ?_
 refine WO.v (R.j_ rfl rfl Try.underlying23 cD (dy (i:=0) (by omega)) (by omega)) rfl ?_
 refine WO.v (R.move rfl) rfl ?_
 refine WO.v (R.move rfl) rfl ?_
 refine WO.v (R.jq rfl rfl (by omega)) rfl ?_
 refine WO.v (R.move rfl) rfl ?_
 refine WO.v (R.Ke rfl rfl (by omega) (by omega)) rfl ?_
 refine WO.v (happ _ _ _ _ rfl rfl) rfl ?_
 refine WO.v (R.assign rfl) rfl ?_
 refine WO.nil ?_
 refine WX.next ?_
 refine WC.seq ?_
 refine WC.region ?_
 refine WO.v (R.move rfl) rfl ?_
 refine WO.v (R.move rfl) rfl ?_
 refine WO.v (R.cr rfl rfl Try.underlying23 cD (dy (by omega)) (by omega)) rfl ?_
 refine WO.v (R.move rfl) rfl ?_
 refine WO.v (R.ln rfl rfl Try.underlying23 cD hrow hn1 hv (by omega) h1v) rfl ?_
 refine WO.nil ?_
 refine WX.next ?_
 refine WC.seq ?_
 refine WC.oX eZ [.ex [] (.slice (some ⟨b,0,none⟩) (n+1) G),.ex [] (.int .i64 ((i:Nat):Int)),.ex [] (.int .i64 ((1:Nat):Int)),.ex [1,2] (.int .i64 ((i+1:Nat):Int)),.ex [0,3] (.slice (some ⟨b,(i+1)*2,none⟩) (n+1 - (i+1)) (G - (i+1))),.ex [] (.slice (some ⟨g,0,none⟩) n c),.ex [] (.int .i64 ((i:Nat):Int)),.ex [5,6] (.slice (some ⟨g,i*2,none⟩) (n - i) (c - i))] 8 (by kernel_rfl) ⟨fun _ _ _ h _=>h,fun _ _ _ h _=>h,fun _ _ _ h _=>h,fun _ _ _ h _=>h,fun _ _ _ h _=>h,fun _ _ _ h _=>h,fun _ _ _ h _=>h,fun _ _ _ h _=>h,trivial⟩ ⟨?_,?_,?_,?_,?_,?_,?_,?_,trivial⟩ ?_
 ·rintro vs wd kd ⟨-⟩
  refine WO.bL (fr':=[(9,.slice (some ⟨b,0,none⟩) (n+1) G)]) ⟨⟨_,rfl,rfl⟩,trivial⟩ ?_
  refine WO.v (R.move rfl) rfl ?_
  refine WO.nil ?_
  exact WX.aT rfl rfl (Kp.refl _)
 ·rintro vs wd kd ⟨-⟩
  refine WO.bL (fr':=[(1,.int .i64 ((i:Nat):Int))]) ⟨⟨_,rfl,rfl⟩,trivial⟩ ?_
  refine WO.v (R.move rfl) rfl ?_
  refine WO.nil ?_
  exact WX.aT rfl rfl (Kp.refl _)
 ·rintro vs wd kd ⟨-⟩
  refine WO.bL (fr':=[(7,.int .i64 ((1:Nat):Int))]) ⟨⟨_,rfl,rfl⟩,trivial⟩ ?_
  refine WO.v (R.move rfl) rfl ?_
  refine WO.nil ?_
  exact WX.aT rfl rfl (Kp.refl _)
 ·rintro vs wd kd ⟨e1,e2,-⟩
  refine WO.bL (fr':=[(47,.int .i64 ((i:Nat):Int)),(48,.int .i64 ((1:Nat):Int))]) ⟨⟨_,rfl,e1⟩,⟨_,rfl,e2⟩,trivial⟩ ?_
  refine WO.v (R.jq rfl rfl (by omega)) rfl ?_
  refine WO.nil ?_
  exact WX.aT rfl rfl (Kp.refl _)
 ·rintro vs wd kd ⟨e0,e3,-⟩
  refine WO.bL (fr':=[(46,.slice (some ⟨b,0,none⟩) (n+1) G),(49,.int .i64 ((i+1:Nat):Int))]) ⟨⟨_,rfl,e0⟩,⟨_,rfl,e3⟩,trivial⟩ ?_
  refine WO.v (R.cr rfl rfl Try.underlying23 cD (dy (by omega)) (by omega)) rfl ?_
  refine WO.nil ?_
  exact WX.aT rfl rfl (Kp.refl _)
 ·rintro vs wd kd ⟨-⟩
  refine WO.bL (fr':=[(0,.slice (some ⟨g,0,none⟩) n c)]) ⟨⟨_,rfl,rfl⟩,trivial⟩ ?_
  refine WO.v (R.move rfl) rfl ?_
  refine WO.nil ?_
  exact WX.aT rfl rfl (Kp.refl _)
 ·rintro vs wd kd ⟨-⟩
  refine WO.bL (fr':=[(1,.int .i64 ((i:Nat):Int))]) ⟨⟨_,rfl,rfl⟩,trivial⟩ ?_
  refine WO.v (R.move rfl) rfl ?_
  refine WO.nil ?_
  exact WX.aT rfl rfl (Kp.refl _)
 ·rintro vs wd kd ⟨e5,e6,-⟩
  refine WO.bL (fr':=[(51,.slice (some ⟨g,0,none⟩) n c),(52,.int .i64 ((i:Nat):Int))]) ⟨⟨_,rfl,e5⟩,⟨_,rfl,e6⟩,trivial⟩ ?_
  refine WO.v (R.cr rfl rfl Try.underlying23 cD (dy (by omega)) (by omega)) rfl ?_
  refine WO.nil ?_
  exact WX.aT rfl rfl (Kp.refl _)
 rintro vsx w1 k1 ⟨-,-,-,-,e4,-,-,e7,-⟩
 replace k1:Kp [] (W1.setRow b (cur.take (i*2)++vs++cur.drop (i*2+vs.length)).toArray) w1:=k1
 refine WO.bL (fr':=[(50,.slice (some ⟨b,(i+1)*2,none⟩) (n+1 - (i+1)) (G - (i+1))),(53,.slice (some ⟨g,i*2,none⟩) (n - i) (c - i)),(9,.slice (some ⟨b,0,none⟩) (n+1) G)]) ⟨⟨_,rfl,e4⟩,⟨_,rfl,e7⟩,⟨_,rfl,rfl⟩,trivial⟩ ?_
 have hb2:w1.heap[b]? = some (.cells (List.toArray (cur.take (i*2)++vs++cur.drop (i*2+vs.length))) 42 (0,0)):=by rw [k1.block b (by simpa using dq hrow) (by simp)]; exact setRow_heap W1 b _ _ 42 _ hrow
 have hd2:CellsAt w1 ⟨g,i*2,none⟩ ds:=(hd.kp (Kp.setRow W1 b _) hgl (by simpa using hgb.symm)).kp k1 (by simpa using hgl) (by simp)
 refine WO.v (R.ln rfl rfl Try.underlying23 cD hb2 hn2 hd2 (by simp only [List.length_append,List.length_take,List.length_drop]; omega) h1d) rfl ?_
 refine WO.nil ?_
 refine WX.next ?_
 refine WC.seq ?_
 refine WC.region ?_
 refine WO.v (R.move rfl) rfl ?_
 refine WO.v (R.assign rfl) rfl ?_
 refine WO.nil ?_
 refine WX.next ?_
 refine WC.ret ?_
 refine WX.eV ?_
 refine WX.uf rfl rfl ?_
 exact ⟨rfl,w1,k1,rfl⟩
set_option maxRecDepth 100000 in
set_option maxHeartbeats 1000000 in
theorem qx {w:World} {g n i c vc:Nat} {ad:Addr} {cur vs ds:List Value} {curA:Array Value} {tA:TypeId} {fA:Nat × Nat} (hi:i<n) (hc:n+1<=c) (hcm:c<=maxLen)
  (hrow:w.heap[g]? = some (.cells cur.toArray 42 (0,0))) (hcur:(n+1)*2<=cur.length) (hv:CellsAt w ad vs) (hvb:w.heap[ad.block]? = some (.cells curA tA fA)) (hvb0:curA.size≠0) (hne:ad.block≠g) (hvl:vs.length=2) (hd:CellsAt w ⟨g,i*2,none⟩ ds) (hdl:ds.length=(n - i)*2)
  (h1v:∀ u ∈ vs,u.oneCell' = true) (h1d:∀ u ∈ ds,u.oneCell' = true) :
  gw Try.prog 81 [.slice (some ⟨g,0,none⟩) n c,.int .i64 (i:Int),.slice (some ad) 1 vc].toArray w fun v w'=>v = .slice (some ⟨g,0,none⟩) (n+1) c/\∃ w1,Kp [] w w1/\w' = (w1.setRow g (cur.take ((i+1)*2)++ds++cur.drop ((i+1)*2+ds.length)).toArray).setRow g ((cur.take ((i+1)*2)++ds++cur.drop ((i+1)*2+ds.length)).take (i*2)++vs++(cur.take ((i+1)*2)++ds++cur.drop ((i+1)*2+ds.length)).drop (i*2+vs.length)).toArray:=by
 have hcm:c<=9223372036854775807:=hcm
 have hn1:vs.length=Nat.min 1 (n+1 - i)*2:=by rw [show Nat.min 1 (n+1 - i)=1 from Nat.min_eq_left (by omega),Nat.one_mul]; exact hvl
 have hn2:ds.length=Nat.min (n+1 - i) (n+1 - (i+1))*2:=by rw [show Nat.min (n+1 - i) (n+1 - (i+1))=n+1 - (i+1) from Nat.min_eq_right (by omega),hdl]; congr 1; omega
 refine gw.enter Try.func81 rfl rfl rfl rfl ?_
 refine WC.seq ?_
 refine WC.region ?_
 refine WO.v (R.assign rfl) rfl ?_
 refine WO.nil ?_
 refine WX.next ?_
 refine WC.seq ?_
 refine WC.region ?_
 refine WO.v (R.move rfl) rfl ?_
 refine WO.v (R.move rfl) rfl ?_
 refine WO.v (R.cr rfl rfl Try.underlying23 cD rfl (by omega)) rfl ?_
 refine WO.nil ?_
 refine WX.next ?_
 refine WC.seq ?_
 refine WC.region ?_
 refine WO.v (R.move rfl) rfl ?_
 refine WO.v (R.len rfl Try.underlying23) rfl ?_
 refine WO.v (R.assign rfl) rfl ?_
 refine WO.nil ?_
 refine WX.next ?_
 refine WC.seq ?_
 refine WC.seq ?_
 refine WC.region ?_
 refine WO.v (R.move rfl) rfl ?_
 refine WO.v (R.eql rfl rfl) rfl ?_
 refine WO.nil ?_
 refine WX.next ?_
 refine WC.cond rfl (fun q=>absurd (of_decide_eq_true q) (by omega)) (fun _=>?_)
 refine WC.skip ?_
 refine WX.next ?_
 refine WC.seq ?_
 refine WC.region ?_
 refine WO.v (R.move rfl) rfl ?_
 refine WO.v (R.len rfl Try.underlying23) rfl ?_
 refine WO.v (R.assign rfl) rfl ?_
 refine WO.nil ?_
 refine WX.next ?_
 refine WC.seq ?_
 refine WC.seq ?_
 refine WC.region ?_
 refine WO.v (R.move rfl) rfl ?_
 refine WO.v (R.move rfl) rfl ?_
 refine WO.v (R.eql rfl rfl) rfl ?_
 refine WO.nil ?_
 refine WX.next ?_
 refine WC.cond rfl (fun q=>absurd (of_decide_eq_true q) (by omega)) (fun _=>?_)
 refine WC.skip ?_
 refine WX.next ?_
 refine WC.seq ?_
 refine WC.seq ?_
 refine WC.region ?_
 refine WO.v (R.move rfl) rfl ?_
 refine WO.v (R.move rfl) rfl ?_
 refine WO.v (R.jq rfl rfl (by omega)) rfl ?_
 refine WO.v (R.move rfl) rfl ?_
 refine WO.v (R.Eb rfl Try.underlying23) rfl ?_
 refine WO.v (R.gtr rfl rfl) rfl ?_
 refine WO.nil ?_
 refine WX.next ?_
 refine WC.cond rfl (fun q=>absurd (of_decide_eq_true q) (by omega)) (fun _=>?_)
 refine WC.skip ?_
 refine WX.next ?_
 refine WC.seq ?_
 refine WC.region ?_
 refine WO.v (R.move rfl) rfl ?_
 refine WO.v (R.move rfl) rfl ?_
 refine WO.v (R.move rfl) rfl ?_
 refine WO.v (R.jq rfl rfl (by omega)) rfl ?_
 refine WO.v (R.j_ rfl rfl Try.underlying23 cD (dy (i:=0) (by omega)) (by omega)) rfl ?_
 refine WO.v (R.assign rfl) rfl ?_
 refine WO.nil ?_
 refine WX.next ?_
 refine WC.seq ?_
 refine WC.seq ?_
 refine WC.region ?_
 refine WO.v (R.move rfl) rfl ?_
 refine WO.v (R.move rfl) rfl ?_
 refine WO.v (R.move rfl) rfl ?_
 refine WO.v (R.move rfl) rfl ?_
 refine WO.v (R.jq rfl rfl (by omega)) rfl ?_
 refine WO.v (R.cr rfl rfl Try.underlying23 cD (dy (by omega)) (by omega)) rfl ?_
 refine WO.v (R.Of (tS:=23) (tR:=4) Try.func93 rfl rfl (by kernel_rfl) (by kernel_rfl) Try.underlying23 cD hne hvb hvb0 hrow rfl rfl) rfl ?_
 refine WO.v (R.not rfl) rfl ?_
 refine WO.nil ?_
 refine WX.next ?_
 refine WC.z_ rfl ?_
 refine WC.seq ?_
 refine WC.oX eZ [.ex [] (.slice (some ⟨g,0,none⟩) (n+1) c),.ex [] (.int .i64 ((i:Nat):Int)),.ex [] (.int .i64 ((1:Nat):Int)),.ex [1,2] (.int .i64 ((i+1:Nat):Int)),.ex [0,3] (.slice (some ⟨g,(i+1)*2,none⟩) (n+1 - (i+1)) (c - (i+1))),.ex [] (.slice (some ⟨g,0,none⟩) (n+1) c),.ex [] (.int .i64 ((i:Nat):Int)),.ex [5,6] (.slice (some ⟨g,i*2,none⟩) (n+1 - i) (c - i))] 8 (by kernel_rfl) ⟨fun _ _ _ h _=>h,fun _ _ _ h _=>h,fun _ _ _ h _=>h,fun _ _ _ h _=>h,fun _ _ _ h _=>h,fun _ _ _ h _=>h,fun _ _ _ h _=>h,fun _ _ _ h _=>h,trivial⟩ ⟨?_,?_,?_,?_,?_,?_,?_,?_,trivial⟩ ?_
 ·rintro vs wd kd ⟨-⟩
  refine WO.bL (fr':=[(0,.slice (some ⟨g,0,none⟩) (n+1) c)]) ⟨⟨_,rfl,rfl⟩,trivial⟩ ?_
  refine WO.v (R.move rfl) rfl ?_
  refine WO.nil ?_
  exact WX.aT rfl rfl (Kp.refl _)
 ·rintro vs wd kd ⟨-⟩
  refine WO.bL (fr':=[(1,.int .i64 ((i:Nat):Int))]) ⟨⟨_,rfl,rfl⟩,trivial⟩ ?_
  refine WO.v (R.move rfl) rfl ?_
  refine WO.nil ?_
  exact WX.aT rfl rfl (Kp.refl _)
 ·rintro vs wd kd ⟨-⟩
  refine WO.bL (fr':=[(7,.int .i64 ((1:Nat):Int))]) ⟨⟨_,rfl,rfl⟩,trivial⟩ ?_
  refine WO.v (R.move rfl) rfl ?_
  refine WO.nil ?_
  exact WX.aT rfl rfl (Kp.refl _)
 ·rintro vs wd kd ⟨e1,e2,-⟩
  refine WO.bL (fr':=[(70,.int .i64 ((i:Nat):Int)),(71,.int .i64 ((1:Nat):Int))]) ⟨⟨_,rfl,e1⟩,⟨_,rfl,e2⟩,trivial⟩ ?_
  refine WO.v (R.jq rfl rfl (by omega)) rfl ?_
  refine WO.nil ?_
  exact WX.aT rfl rfl (Kp.refl _)
 ·rintro vs wd kd ⟨e0,e3,-⟩
  refine WO.bL (fr':=[(69,.slice (some ⟨g,0,none⟩) (n+1) c),(72,.int .i64 ((i+1:Nat):Int))]) ⟨⟨_,rfl,e0⟩,⟨_,rfl,e3⟩,trivial⟩ ?_
  refine WO.v (R.cr rfl rfl Try.underlying23 cD (dy (by omega)) (by omega)) rfl ?_
  refine WO.nil ?_
  exact WX.aT rfl rfl (Kp.refl _)
 ·rintro vs wd kd ⟨-⟩
  refine WO.bL (fr':=[(0,.slice (some ⟨g,0,none⟩) (n+1) c)]) ⟨⟨_,rfl,rfl⟩,trivial⟩ ?_
  refine WO.v (R.move rfl) rfl ?_
  refine WO.nil ?_
  exact WX.aT rfl rfl (Kp.refl _)
 ·rintro vs wd kd ⟨-⟩
  refine WO.bL (fr':=[(1,.int .i64 ((i:Nat):Int))]) ⟨⟨_,rfl,rfl⟩,trivial⟩ ?_
  refine WO.v (R.move rfl) rfl ?_
  refine WO.nil ?_
  exact WX.aT rfl rfl (Kp.refl _)
 ·rintro vs wd kd ⟨e5,e6,-⟩
  refine WO.bL (fr':=[(74,.slice (some ⟨g,0,none⟩) (n+1) c),(75,.int .i64 ((i:Nat):Int))]) ⟨⟨_,rfl,e5⟩,⟨_,rfl,e6⟩,trivial⟩ ?_
  refine WO.v (R.cr rfl rfl Try.underlying23 cD (dy (by omega)) (by omega)) rfl ?_
  refine WO.nil ?_
  exact WX.aT rfl rfl (Kp.refl _)
 rintro vsx w1 k1 ⟨-,-,-,-,e4,-,-,e7,-⟩
 replace k1:Kp [] w w1:=k1
 refine WO.bL (fr':=[(73,.slice (some ⟨g,(i+1)*2,none⟩) (n+1 - (i+1)) (c - (i+1))),(76,.slice (some ⟨g,i*2,none⟩) (n+1 - i) (c - i)),(0,.slice (some ⟨g,0,none⟩) (n+1) c),(1,.int .i64 ((i:Nat):Int)),(2,.slice (some ad) 1 vc)]) ⟨⟨_,rfl,e4⟩,⟨_,rfl,e7⟩,⟨_,rfl,rfl⟩,⟨_,rfl,rfl⟩,⟨_,rfl,rfl⟩,trivial⟩ ?_
 have hg1:w1.heap[g]? = some (.cells (List.toArray cur) 42 (0,0)):=by rw [k1.block g (dq hrow) (by simp)]; exact hrow
 refine WO.v (R.ln rfl rfl Try.underlying23 cD hg1 hn2 (hd.kp k1 (dq hrow) (by simp)) (by omega) h1d) rfl ?_
 refine WO.nil ?_
 refine WX.next ?_
 have hg2:(w1.setRow g (cur.take ((i+1)*2)++ds++cur.drop ((i+1)*2+ds.length)).toArray).heap[g]? = some (.cells (List.toArray (cur.take ((i+1)*2)++ds++cur.drop ((i+1)*2+ds.length))) 42 (0,0)):=setRow_heap w1 g _ _ 42 _ hg1
 have hv2:CellsAt (w1.setRow g (cur.take ((i+1)*2)++ds++cur.drop ((i+1)*2+ds.length)).toArray) ad vs:=(hv.kp k1 (dq hvb) (by simp)).kp (Kp.setRow w1 g _) (Nat.lt_of_lt_of_le (dq hvb) k1.size) (by simpa using fun h=>hne h.symm)
 refine WC.seq ?_
 refine WC.region ?_
 refine WO.v (R.move rfl) rfl ?_
 refine WO.v (R.move rfl) rfl ?_
 refine WO.v (R.cr rfl rfl Try.underlying23 cD (dy (by omega)) (by omega)) rfl ?_
 refine WO.v (R.move rfl) rfl ?_
 refine WO.v (R.ln rfl rfl Try.underlying23 cD hg2 hn1 hv2 (by simp only [List.length_append,List.length_take,List.length_drop]; omega) h1v) rfl ?_
 refine WO.nil ?_
 refine WX.next ?_
 refine WC.seq ?_
 refine WC.region ?_
 refine WO.v (R.move rfl) rfl ?_
 refine WO.v (R.assign rfl) rfl ?_
 refine WO.nil ?_
 refine WX.next ?_
 refine WC.ret ?_
 refine WX.eV ?_
 refine WX.uf rfl rfl ?_
 exact ⟨rfl,w1,k1,rfl⟩
theorem vu {G:Gl} {ρ:List RE} {H:AH} {w:World} (hs:G.shp=ao aI) (hR:Rep G ρ H w) {l m:List (den (.nm .opn))} (hH:getO H 0 = .row 42 (.nm .opn) l) (hl:l.length<1048576) {i:Nat} (hi:i<=l.length) {v0:Value} (h0:Rd (cx G ρ w) ρ (.own 0) v0)
  {ad:Addr} {k:Nat} {cys:List Value} {bAV:AV} (hm:m.length=1) (hb:Rd (cx G ρ w) ρ bAV (.slice (some ad) 1 k)) (hbv:(bAV.vw H).fD (.nm .opn)=some m) (hv:CellsAt w ad cys) (hvl:cys.length=2) (h1v:∀ u ∈ cys,u.oneCell' = true) (hp:Pds (cx G ρ w) (m.flatMap (cellsOf (.nm .opn))) cys)
  (hne:∀ g c n z,ρ[0]? = some (.row g c n z)->ad.block≠g) {curA:Array Value} {tA:TypeId} {fA:Nat × Nat} (hvb:w.heap[ad.block]? = some (.cells curA tA fA)) (hvb0:curA.size≠0) :
  gw Try.prog 81 [v0,.int .i64 (i:Int),.slice (some ad) 1 k].toArray w fun v w'=>∃ ρ',Stp (dS 0) ρ w ρ' w' /\ Rep G ρ' ((eR (AV.kill 0) H).set 0 (.row 42 (.nm .opn) (l.take i++m++l.drop i))) w' /\ Rd (cx G ρ' w') ρ' (.own 0) v:=by
 have hT:bn Try.prog G.shp aI:=hs ▸ dG
 obtain ⟨hshp,hlen⟩:=df hR hH
 have hl64:l.length<=9223372036854775807:=by omega
 have hin:((l.length:Nat):Int)<=9223372036854775807:=by omega
 by_cases hie:i=l.length
 ·subst hie
  have hc:∃ A c,v0 = .slice A l.length c:=by
   rcases h0 with ⟨g,cap,len,z,h1,rfl⟩ | ⟨h1,a,rfl⟩
   ·rcases bJ hR hH with ⟨h2,_⟩ | ⟨g',cap',cells,sp,h2,_⟩
    ·rw [h1] at h2; cases h2
    ·rw [h1] at h2; cases h2; exact ⟨_,_,rfl⟩
   ·rcases bJ hR hH with ⟨_,h2⟩ | ⟨g',cap',cells,sp,h2,_⟩
    ·subst h2; exact ⟨_,_,rfl⟩
    ·rw [h1] at h2; cases h2
  obtain ⟨A,c,rfl⟩:=hc
  refine uV fun F x y ty hx hy=>?_
  have happ:fP aI (dS 0) ([]:AFr) H 23 (.own 0) bAV=some ⟨one (.own 0),[],(eR (AV.kill 0) H).set 0 (.row 42 (.nm .opn) (l++m)),[(l.length+m.length)*(Sh.nm NT.opn).bytes<=140737488355328],[]⟩:=by
   unfold fP
   rw [show bq aI 23=some ⟨.sl 42 (some (.nm .opn)),1,[.em true]⟩ from by kernel_rfl]
   simp only [hbv,hL,hH]
   rfl
  obtain ⟨v,w',h1,ρ',h2,h3,_,h5,_⟩:=fR (P:=Try.prog) (n:=95) (F:=[]) (ty:=ty) (fr:=[]) (x:=.const (.slice A l.length c)) (y:=.const (.slice (some ad) 1 k)) hT hR .nil happ (by
   intro p hp
   rw [List.mem_singleton] at hp; subst hp
   show (l.length+m.length)*16<=_
   omega) h0 hb rfl rfl
  refine ⟨v,w',R.wx h1 hx hy,ρ',h2,?_,h5⟩
  rw [List.take_length,List.drop_length,List.append_nil]
  exact h3
 ·have hlt:i<l.length:=by omega
  rcases bJ hR hH with ⟨_,h2⟩ | ⟨g,cap,cells,sp,hρ,hg,hpd,hsz,hcap,hmax⟩
  ·subst h2; simp at hlt
  obtain ⟨hnb,hil,hiH⟩:=kQ hR hH
  have hv0:v0 = .slice (some ⟨g,0,none⟩) l.length cap:=by
   rcases h0 with ⟨g',cap',len,z,h1,rfl⟩ | ⟨h1,a,rfl⟩
   ·rw [hρ] at h1; cases h1; rfl
   ·rw [hρ] at h1; cases h1
  subst hv0
  have hz:(Sh.nm NT.opn).size=2:=rfl
  have hby:(Sh.nm NT.opn).bytes=16:=rfl
  have hcl:cells.length=l.length*2:=by rw [<- hpd.length,bT,hz]
  rw [hz,List.length_append] at hsz
  have hone:∀ u ∈ cells.drop (i*2),u.oneCell' = true:=fun u hu=>hpd.Di u (List.mem_of_mem_drop hu)
  have hd:CellsAt w ⟨g,i*2,none⟩ (cells.drop (i*2)):=by
   have:=(bU hg).shift (i*2)
   rwa [add_lit,Nat.zero_add] at this
  have hdl:(cells.drop (i*2)).length=(l.length - i)*2:=by rw [List.length_drop,hcl]; omega
  have hgl:=dq hg
  have hzl:(l.take i++m++l.drop i).length=l.length+1:=by
   rw [List.length_append,List.length_append,List.length_take,List.length_drop,hm]; omega
  have hnew:∀ {c:Cx},(cx G ρ w).le c->Pds c ((l.take i++m++l.drop i).flatMap (cellsOf (.nm .opn))) (cells.take (i*2)++cys++cells.drop (i*2)):=fun {c} hle=>by
   rw [List.flatMap_append,List.flatMap_append]
   exact (((bO hpd i).append hp).append (bY hpd i)).carry hle
  have hnl:(cells.take (i*2)++cys++cells.drop (i*2)).length=(l.length+1)*2:=by
   rw [List.length_append,List.length_append,List.length_take,List.length_drop,hcl,hvl]; omega
  have hbig:(l.take i++m++l.drop i).length*(Sh.nm NT.opn).bytes<=140737488355328:=by rw [hzl,hby]; omega
  -- what is shown of any way
  have fin:∀ (S:List Nat) (g2 cap2:Nat) (sp2:List Value) (w':World),Kp S w w' -> (∀ b ∈ S,b=g)->(g2=g\/w.heap.size<=g2)->w'.heap[g2]? = some (.cells (List.toArray (cells.take (i*2)++cys++cells.drop (i*2)++sp2)) 42 (0,0))->(l.length+1)*2+sp2.length=cap2*2->l.length+1<=cap2->cap2<=maxLen ->
    ∃ ρ',Stp (dS 0) ρ w ρ' w' /\ Rep G ρ' ((eR (AV.kill 0) H).set 0 (.row 42 (.nm .opn) (l.take i++m++l.drop i))) w' /\ Rd (cx G ρ' w') ρ' (.own 0) (.slice (some ⟨g2,0,none⟩) (l.length+1) cap2):=by
   intro S g2 cap2 sp2 w' hk hS hg2 hh hlen2 hle2 hmax2
   obtain ⟨k1,k2,_⟩:=jy (ro:=dS 0) (s':=.nm .opn) (e':=42) (zs:=l.take i++m++l.drop i) hR hH ⟨rfl,rfl⟩ hk (fun b hb=>⟨_,hρ,by rw [hS b hb]; rfl⟩) (r':=.row g2 cap2 (l.take i++m++l.drop i).length (Sh.nm NT.opn).size) (fun b hb=>by
    cases hb
    rcases hg2 with rfl | hg2
    ·exact .inl ⟨_,hρ,rfl⟩
    ·exact .inr ⟨hg2,dq hh⟩) (fun hle=>⟨hshp,hbig,.inr ⟨g2,cap2,_,sp2,rfl,hh,hnew hle,by rw [List.length_append,hnl,hz]; exact hlen2,by rw [hzl]; exact hle2,hmax2⟩⟩)
   exact ⟨_,k1,k2,.inl ⟨g2,cap2,_,_,List.getElem?_set_self hil,by rw [hzl]⟩⟩
  have eo:(i+1)*2=i*2+2:=by omega
  by_cases hroom:l.length+1<=cap
  ·refine (qx hlt hroom hmax hg (by rw [List.length_append]; omega) hv hvb hvb0 (hne _ _ _ _ hρ) hvl hd hdl h1v hone).mono fun v w' ⟨e1,w1,k1,e2⟩=>?_
   subst e1; subst e2
   rw [eo,Ga (by omega) hvl]
   have hk:Kp [g] w ((w1.setRow g ((cells++sp).take (i*2+2)++cells.drop (i*2)++(cells++sp).drop (i*2+2+(cells.drop (i*2)).length)).toArray).setRow g (cells.take (i*2)++cys++cells.drop (i*2)++sp.drop 2).toArray):=((k1.sub (by simp)).step (Kp.setRow w1 g _) (by simp)).step (Kp.setRow _ g _) (by simp)
   have hg1:w1.heap[g]? = some (.cells (List.toArray (cells++sp)) 42 (0,0)):=by rw [k1.block g hgl (by simp)]; exact hg
   exact fin [g] g cap (sp.drop 2) _ hk (by simp) (.inl rfl) (setRow_heap _ g _ _ 42 _ (setRow_heap w1 g _ _ 42 _ hg1)) (by rw [List.length_drop]; omega) hroom hmax
  ·obtain ⟨ti,hi0,hz0,hz1,hz2⟩:=info_parts wS
   have eik:i+(l.length+1 - i)=l.length+1:=by omega
   have hge:=grownCap_ge w (l.length+1) cap 42
   have hgm:=grownCap_le_maxLen w (l.length+1) cap 42 (by simp [maxLen]; omega)
   have hold:(Builtin.firstCells ti.size i (.slice (some ⟨g,0*2,none⟩) i cap)).run Try.prog w.drew = .ok (cells.take (i*2)).toArray w.drew:=by
    have h:=run_loadCells_list (P:=Try.prog) w.drew ⟨g,0*2,none⟩ (cells.take (i*2)) (by rw [Nat.zero_mul]; exact (bU hg).take _)
    rw [List.length_take,Nat.min_eq_left (by omega)] at h
    rw [hz1]; exact h
   have happ:∀ (F:Fr) (x y:Operand) (ty:TypeId),ev F x=some (.slice (some ⟨g,0*2,none⟩) i cap)->ev F y=some (.int .i64 ((l.length+1 - i:Nat):Int))->aU Try.prog 95 F w (.call { callee:=.builtin .append,args:=#[x,y],argTypes:=#[23,3] }) ty (.slice (some ⟨w.heap.size,0,none⟩) (l.length+1) (grownCap w (l.length+1) cap 42)) (w.drew.alloc (.cells (List.toArray (cells.take (i*2)++((Builtin.zeroCells (Value.agg #[.int .i64 0,.int .i64 0]).cells (l.length+1 - i)).toList++(Builtin.zeroCells (Value.agg #[.int .i64 0,.int .i64 0]).cells (grownCap w (l.length+1) cap 42 - (l.length+1))).toList))) 42)):=fun F x y ty hx hy=>by
    have h:=R.LF (P:=Try.prog) (n:=95) (ty:=ty) hx hy Try.underlying23 Try.underlying3 hi0 hz0 hold (by omega) (by rw [hz1]; decide) (by omega) (by omega) (by rw [hz2]; omega) (by rw [hz2,eik]; exact growslice_fits (by omega) (by omega))
    rw [eik] at h
    have e:∀ (a:List Value) (b c:Array Value),a.toArray++b++c=(a++(b.toList++c.toList)).toArray:=fun a b c=>by apply Array.ext'; simp
    rw [e] at h
    exact h
   have hcurl:(cells.take (i*2)++((Builtin.zeroCells (Value.agg #[.int .i64 0,.int .i64 0]).cells (l.length+1 - i)).toList++(Builtin.zeroCells (Value.agg #[.int .i64 0,.int .i64 0]).cells (grownCap w (l.length+1) cap 42 - (l.length+1))).toList)).length=grownCap w (l.length+1) cap 42*2:=by
    rw [List.length_append,List.length_append,List.length_take,mW,mW]
    show min _ _+((l.length+1 - i)*2+(grownCap w (l.length+1) cap 42 - (l.length+1))*2)=_
    omega
   have htk:(cells.take (i*2)++((Builtin.zeroCells (Value.agg #[.int .i64 0,.int .i64 0]).cells (l.length+1 - i)).toList++(Builtin.zeroCells (Value.agg #[.int .i64 0,.int .i64 0]).cells (grownCap w (l.length+1) cap 42 - (l.length+1))).toList)).take (i*2)=cells.take (i*2):=List.take_left' (by rw [List.length_take]; omega)
   generalize grownCap w (l.length+1) cap 42=GC at *
   generalize cells.take (i*2)++((Builtin.zeroCells (Value.agg #[.int .i64 0,.int .i64 0]).cells (l.length+1 - i)).toList++(Builtin.zeroCells (Value.agg #[.int .i64 0,.int .i64 0]).cells (GC - (l.length+1))).toList)=cur at *
   have hK1:Kp [] w (w.drew.alloc (.cells (List.toArray cur) 42)):=((Kp.refl w).drew).step (Kp.alloc w.drew _) (by simp)
   have hrow:(w.drew.alloc (.cells (List.toArray cur) 42)).heap[w.heap.size]? = some (.cells (List.toArray cur) 42 (0,0)):=heap_alloc_new w.drew _
   generalize w.drew.alloc (.cells (List.toArray cur) 42)=W1 at *
   refine (te hlt hcap (by omega) hmax hge hgm happ hrow (by omega) (hv.kp hK1 (dq hvb) (by simp)) hvl (hd.kp hK1 hgl (by simp)) (by omega) (Nat.lt_of_lt_of_le hgl hK1.size) hdl h1v hone).mono fun v w' ⟨e1,w1,k1,e2⟩=>?_
   subst e1; subst e2
   rw [eo,Gb (cells:=cells) (by omega) hvl htk]
   have hs1:∀ b ∈ [w.heap.size],b ∈ ([]:List Nat)\/w.heap.size<=b:=fun b hb=>.inr (by rw [List.mem_singleton] at hb; omega)
   have hk:Kp [] w (w1.setRow w.heap.size (cells.take (i*2)++cys++cells.drop (i*2)++cur.drop (i*2+2+(cells.drop (i*2)).length)).toArray):=((hK1.step (Kp.setRow W1 w.heap.size _) hs1).step k1 (by simp)).step (Kp.setRow w1 w.heap.size _) hs1
   have hg1:=(k1.block w.heap.size (by simpa using dq hrow) (by simp)).trans (setRow_heap W1 w.heap.size _ (cur.take (i*2)++cys++cur.drop (i*2+cys.length)).toArray 42 _ hrow)
   exact fin [] w.heap.size GC _ _ hk (by simp) (.inr (Nat.le_refl _)) (setRow_heap w1 w.heap.size _ _ 42 _ hg1) (by rw [List.length_drop]; omega) hge hgm
theorem pD (i:Int) (l m:List (den (.nm .opn))) (h:0<=i/\i<=(l.length:Int)) (hl:l.length<1048576) (hm:m.length=1):Sat Try.prog (ao aI) 81 [.c (.own 0),.c (.int i),.c (.fz (.nm .opn) m)] [.row 42 (.nm .opn) l] ⟨[0<=i/\i<=(l.length:Int),l.length<1048576,m.length=1],[.c (.own 0)],some [.row 42 (.nm .opn) (l.take i.toNat++m++l.drop i.toNat)],false⟩:=by
 refine ⟨⟨_,Try.func81,by decide,rfl⟩,fun G ρ w vs hs hR hvs=>?_⟩
 obtain ⟨i,rfl⟩:=Int.eq_ofNat_of_zero_le h.1
 cases hvs with | cons h0 hvs=>
 cases hvs with | cons h1 hvs=>
 cases hvs with | cons h2 hvs=>
 cases hvs
 have h1:Pd (cx G ρ w) (.int (i:Int)) _:=h1
 cases h1
 have h0:Rd (cx G ρ w) ρ (.own 0) _:=h0
 have h2:Rd (cx G ρ w) ρ (.fz (.nm .opn) m) _:=h2
 have hH:getO [AO.row 42 (.nm .opn) l] 0 = .row 42 (.nm .opn) l:=rfl
 have hbv:(AV.vw [AO.row 42 (.nm .opn) l] (.fz (.nm .opn) m)).fD (.nm .opn)=some m:=by simp [AV.vw,AV.fD,getO]
 obtain ⟨A,k,cys,rfl,s1,s2,s3,s4⟩:=mQ hR hbv h2
 rw [hm] at h2 s1 s3
 rw [hm]
 obtain ⟨ad,rfl,s5⟩:∃ ad,A=some ad/\CellsAt w ad cys:=s3.resolve_left (by decide)
 have hz:(Sh.nm NT.opn).size=2:=rfl
 rw [hz] at s1
 obtain ⟨u,hu⟩:∃ u,cys[0]? = some u:=⟨_,List.getElem?_eq_getElem (by omega)⟩
 obtain ⟨cur,t,f,hc,hc0⟩:=oT (s5 0 u hu)
 have hne:∀ g c n z,ρ[0]? = some (.row g c n z)->ad.block≠g:=fun g c n z hg e=>by
  have h2:Pd (cx G ρ w) (.fz (.nm .opn) m) (.slice (some ad) 1 k):=h2
  have h3:=GV h2 (by rw [hm]; decide)
  exact h3.1.2.1 ⟨0,_,hg,by rw [e]; rfl⟩
 rw [ey] at hc
 refine (vu hs hR hH hl (by omega) h0 hm h2 hbv s5 s1 s2 s4 hne hc hc0).mono fun v w' ⟨ρ',k1,k2,k3⟩=>?_
 exact ⟨[v],rfl,ρ',k2,k1.ext,k1.bx,.cons k3 .nil,fun hb=>by cases hb⟩
theorem Cs:(Builtin.zeroCells (Value.agg #[.int .i64 0,.int .i64 0]).cells 1).toList=[.int .i64 0,.int .i64 0]:=by kernel_rfl
set_option maxRecDepth 100000 in
set_option maxHeartbeats 1000000 in
theorem Ai {w:World} {g n i c:Nat} {cur ds:List Value} {ti:TypeInfo} (hi:i<n) (hnc:n<=c) (hcm:c<=maxLen) (hg:w.heap[g]? = some (.cells cur.toArray 42 (0,0))) (hcur:n*2<=cur.length) (hdl:ds.length=(n - (i+1))*2) (hd:CellsAt w (if c=i+1 then ⟨g,0,none⟩ else (⟨g,0,none⟩:Addr).add ((i+1)*2)) ds) (h1d:∀ u ∈ ds,u.oneCell' = true)
  (hi0:Try.prog.info? 42=some ti) (hz0:ti.zero=some (.agg #[.int .i64 0,.int .i64 0])) (hz1:ti.size=2) :
  gw Try.prog 84 [.slice (some ⟨g,0,none⟩) n c,.int .i64 (i:Int),.int .i64 ((i+1:Nat):Int)].toArray w fun v w'=>v = .slice (some ⟨g,0,none⟩) (i+(n - (i+1))) c/\∃ w1,Kp [] w w1/\w' = (w1.setRow g (cur.take (i*ti.size)++ds++cur.drop (i*ti.size+ds.length)).toArray).setRow g ((cur.take (i*ti.size)++ds++cur.drop (i*ti.size+ds.length)).take ((i+(n - (i+1)))*2)++(Builtin.zeroCells (Value.agg #[.int .i64 0,.int .i64 0]).cells 1).toList++(cur.take (i*ti.size)++ds++cur.drop (i*ti.size+ds.length)).drop ((i+(n - (i+1)))*2+(Builtin.zeroCells (Value.agg #[.int .i64 0,.int .i64 0]).cells 1).toList.length)).toArray:=by
 have hcm:c<=9223372036854775807:=hcm
 refine gw.enter Try.func84 rfl rfl rfl rfl ?_
 refine WC.seq ?_
 refine WC.region ?_
 refine WO.v (R.assign rfl) rfl ?_
 refine WO.nil ?_
 refine WX.next ?_
 refine WC.seq ?_
 refine WC.region ?_
 refine WO.v (R.move rfl) rfl ?_
 refine WO.v (R.move rfl) rfl ?_
 refine WO.v (R.move rfl) rfl ?_
 refine WO.v (R.move rfl) rfl ?_
 refine WO.v (R.len rfl Try.underlying23) rfl ?_
 refine WO.v (R.slice3 rfl rfl rfl rfl Try.underlying23 cD (by omega) (by omega) (by omega)) rfl ?_
 refine WO.nil ?_
 refine WX.next ?_
 refine WC.seq ?_
 refine WC.seq ?_
 refine WC.region ?_
 refine WO.v (R.move rfl) rfl ?_
 refine WO.v (R.move rfl) rfl ?_
 refine WO.v (R.eql rfl rfl) rfl ?_
 refine WO.nil ?_
 refine WX.next ?_
 refine WC.cond rfl (fun q=>absurd (of_decide_eq_true q) (by omega)) (fun _=>?_)
 refine WC.skip ?_
 refine WX.next ?_
 refine WC.seq ?_
 refine WC.region ?_
 refine WO.v (R.move rfl) rfl ?_
 refine WO.v (R.len rfl Try.underlying23) rfl ?_
 refine WO.v (R.assign rfl) rfl ?_
 refine WO.nil ?_
 refine WX.next ?_
 refine WC.seq ?_
 refine WC.oX eZ [.ex [] (.slice (some ⟨g,0,none⟩) n c),.ex [] (.int .i64 ((i:Nat):Int)),.ex [0,1] (.slice (some ⟨g,0*2,none⟩) (i - 0) (c - 0)),.ex [] (.slice (some ⟨g,0,none⟩) n c),.ex [] (.int .i64 ((i+1:Nat):Int)),.ex [3,4] (.slice (some (if c=i+1 then ⟨g,0,none⟩ else (⟨g,0,none⟩:Addr).add ((i+1)*2))) (n - (i+1)) (c - (i+1)))] 6 (by kernel_rfl) ⟨fun _ _ _ h _=>h,fun _ _ _ h _=>h,fun _ _ _ h _=>h,fun _ _ _ h _=>h,fun _ _ _ h _=>h,fun _ _ _ h _=>h,trivial⟩ ⟨?_,?_,?_,?_,?_,?_,trivial⟩ ?_
 ·rintro vs wd kd ⟨-⟩
  refine WO.bL (fr':=[(0,.slice (some ⟨g,0,none⟩) n c)]) ⟨⟨_,rfl,rfl⟩,trivial⟩ ?_
  refine WO.v (R.move rfl) rfl ?_
  refine WO.nil ?_
  exact WX.aT rfl rfl (Kp.refl _)
 ·rintro vs wd kd ⟨-⟩
  refine WO.bL (fr':=[(1,.int .i64 ((i:Nat):Int))]) ⟨⟨_,rfl,rfl⟩,trivial⟩ ?_
  refine WO.v (R.move rfl) rfl ?_
  refine WO.nil ?_
  exact WX.aT rfl rfl (Kp.refl _)
 ·rintro vs wd kd ⟨e0,e1,-⟩
  refine WO.bL (fr':=[(20,.slice (some ⟨g,0,none⟩) n c),(21,.int .i64 ((i:Nat):Int))]) ⟨⟨_,rfl,e0⟩,⟨_,rfl,e1⟩,trivial⟩ ?_
  refine WO.v (R.j_ rfl rfl Try.underlying23 cD (dy (i:=0) (by omega)) (by omega)) rfl ?_
  refine WO.nil ?_
  exact WX.aT rfl rfl (Kp.refl _)
 ·rintro vs wd kd ⟨-⟩
  refine WO.bL (fr':=[(0,.slice (some ⟨g,0,none⟩) n c)]) ⟨⟨_,rfl,rfl⟩,trivial⟩ ?_
  refine WO.v (R.move rfl) rfl ?_
  refine WO.nil ?_
  exact WX.aT rfl rfl (Kp.refl _)
 ·rintro vs wd kd ⟨-⟩
  refine WO.bL (fr':=[(2,.int .i64 ((i+1:Nat):Int))]) ⟨⟨_,rfl,rfl⟩,trivial⟩ ?_
  refine WO.v (R.move rfl) rfl ?_
  refine WO.nil ?_
  exact WX.aT rfl rfl (Kp.refl _)
 ·rintro vs wd kd ⟨e3,e4,-⟩
  refine WO.bL (fr':=[(23,.slice (some ⟨g,0,none⟩) n c),(24,.int .i64 ((i+1:Nat):Int))]) ⟨⟨_,rfl,e3⟩,⟨_,rfl,e4⟩,trivial⟩ ?_
  refine WO.v (R.cr rfl rfl Try.underlying23 cD Ic (by omega)) rfl ?_
  refine WO.nil ?_
  exact WX.aT rfl rfl (Kp.refl _)
 rintro vsx w1 k1 ⟨-,-,e2,-,-,e5,-⟩
 replace k1:Kp [] w w1:=k1
 refine WO.bL (fr':=[(22,.slice (some ⟨g,0*2,none⟩) (i - 0) (c - 0)),(25,.slice (some (if c=i+1 then ⟨g,0,none⟩ else (⟨g,0,none⟩:Addr).add ((i+1)*2))) (n - (i+1)) (c - (i+1))),(7,.int .i64 ((n:Nat):Int))]) ⟨⟨_,rfl,e2⟩,⟨_,rfl,e5⟩,⟨_,rfl,rfl⟩,trivial⟩ ?_
 have hg1:w1.heap[g]? = some (.cells (List.toArray cur) 42 (0,0)):=by rw [k1.block g (dq hg) (by simp)]; exact hg
 have hd1:CellsAt w1 (if c=i+1 then ⟨g,0,none⟩ else (⟨g,0,none⟩:Addr).add ((i+1)*2)) ds:=hd.keep (k1.block _ (by split <;> exact dq hg) (by simp))
 refine WO.v (R.DS (sl:=i) (sc:=c) rfl rfl Try.underlying23 hi0 hg1 (by rw [hz1]; exact hdl) hd1 h1d (by omega) (by rw [hz1]; omega)) rfl ?_
 refine WO.v (R.assign rfl) rfl ?_
 refine WO.nil ?_
 refine WX.next ?_
 have hg2:=setRow_heap w1 g _ (cur.take (i*ti.size)++ds++cur.drop (i*ti.size+ds.length)).toArray 42 _ hg1
 refine WC.seq ?_
 refine WC.region ?_
 refine WO.v (R.move rfl) rfl ?_
 refine WO.v (R.move rfl) rfl ?_
 refine WO.v (R.len rfl Try.underlying23) rfl ?_
 refine WO.v (R.move rfl) rfl ?_
 refine WO.v (R.xe rfl rfl rfl Try.underlying23 cD (dy (by omega)) (by omega) (by omega)) rfl ?_
 refine WO.v0 (R.Ov rfl (by omega) Try.underlying23 hi0 hz0 (by rw [Cs]; simp [Value.oneCell']) hg2 (by rw [mW,hz1]; simp only [List.length_append,List.length_take,List.length_drop]; show _+1*2<=_; omega)) ?_
 refine WO.nil ?_
 refine WX.next ?_
 refine WC.seq ?_
 refine WC.region ?_
 refine WO.v (R.move rfl) rfl ?_
 refine WO.v (R.assign rfl) rfl ?_
 refine WO.nil ?_
 refine WX.next ?_
 refine WC.ret ?_
 refine WX.uf rfl rfl ?_
 exact ⟨rfl,w1,k1,rfl⟩
theorem rk (i j:Int) (l:List (den (.nm .opn))) (h:0<=i/\i<(l.length:Int)/\j=i+1):Sat Try.prog (ao aI) 84 [.c (.own 0),.c (.int i),.c (.int j)] [.row 42 (.nm .opn) l] ⟨[0<=i/\i<(l.length:Int)/\j=i+1],[.c (.own 0)],some [.row 42 (.nm .opn) (l.take i.toNat++l.drop j.toNat)],false⟩:=by
 refine ⟨⟨_,Try.func84,by decide,rfl⟩,fun G ρ w vs hs hR hvs=>?_⟩
 obtain ⟨hi0,hi1,rfl⟩:=h
 obtain ⟨i,rfl⟩:=Int.eq_ofNat_of_zero_le hi0
 have hlt:i<l.length:=by omega
 cases hvs with | cons h0 hvs=>
 cases hvs with | cons h1 hvs=>
 cases hvs with | cons h2 hvs=>
 cases hvs
 have h1:Pd (cx G ρ w) (.int (i:Int)) _:=h1
 have h2:Pd (cx G ρ w) (.int ((i:Int)+1)) _:=h2
 cases h1
 cases h2
 have h0:Rd (cx G ρ w) ρ (.own 0) _:=h0
 have hH:getO [AO.row 42 (.nm .opn) l] 0 = .row 42 (.nm .opn) l:=rfl
 obtain ⟨hshp,hlen⟩:=df hR hH
 rcases bJ hR hH with ⟨_,h2⟩ | ⟨g,cap,cells,sp,hρ,hg,hpd,hsz,hcap,hmax⟩
 ·subst h2; simp at hlt
 obtain ⟨hnb,hil,hiH⟩:=kQ hR hH
 have hz:(Sh.nm NT.opn).size=2:=rfl
 have hby:(Sh.nm NT.opn).bytes=16:=rfl
 have hcl:cells.length=l.length*2:=by rw [<- hpd.length,bT,hz]
 rw [hz,List.length_append] at hsz
 rw [hby] at hlen
 obtain ⟨ti,hi0,hz0,hz1,hz2⟩:=info_parts wS
 have hone:∀ u ∈ cells.drop ((i+1)*2),u.oneCell' = true:=fun u hu=>hpd.Di u (List.mem_of_mem_drop hu)
 have hd:CellsAt w (if cap=i+1 then ⟨g,0,none⟩ else (⟨g,0,none⟩:Addr).add ((i+1)*2)) (cells.drop ((i+1)*2)):=by
  split
  ·rw [List.drop_of_length_le (by omega)]; exact CellsAt.nil
  ·exact (bU hg).shift _
 have hv0:∀ v,Rd (cx G ρ w) ρ (.own 0) v->v = .slice (some ⟨g,0,none⟩) l.length cap:=fun v h0=>by
  rcases h0 with ⟨g',cap',len,z,h1,rfl⟩ | ⟨h1,a,rfl⟩
  ·rw [hρ] at h1; cases h1; rfl
  ·rw [hρ] at h1; cases h1
 obtain rfl:=hv0 _ h0
 have e0:((i:Int)+1)=((i+1:Nat):Int):=by omega
 rw [e0]
 refine (Ai hlt hcap hmax hg (by rw [List.length_append]; omega) (by rw [List.length_drop,hcl]; omega) hd hone hi0 hz0 hz1).mono fun v w' ⟨e1,w1,k1,e2⟩=>?_
 subst e1
 have hq:i+(l.length - (i+1))=l.length - 1:=by omega
 rw [hq,hz1,Cs] at e2
 rw [hq]
 have hzl:(l.take i++l.drop (i+1)).length=l.length - 1:=by rw [List.length_append,List.length_take,List.length_drop]; omega
 have hnl:(cells.take (i*2)++cells.drop ((i+1)*2)).length=(l.length - 1)*2:=by rw [List.length_append,List.length_take,List.length_drop]; omega
 have htk:((cells++sp).take (i*2)++cells.drop ((i+1)*2)++(cells++sp).drop (i*2+(cells.drop ((i+1)*2)).length)).take ((l.length - 1)*2)=cells.take (i*2)++cells.drop ((i+1)*2):=by
  rw [List.take_append_of_le_length (l₁:=cells) (by omega)]
  exact List.take_left' hnl
 have hr1l:((cells++sp).take (i*2)++cells.drop ((i+1)*2)++(cells++sp).drop (i*2+(cells.drop ((i+1)*2)).length)).length=cap*2:=by
  simp only [List.length_append,List.length_drop,List.length_take]
  omega
 generalize (cells++sp).take (i*2)++cells.drop ((i+1)*2)++(cells++sp).drop (i*2+(cells.drop ((i+1)*2)).length)=r1 at e2 htk hr1l
 rw [htk,List.append_assoc] at e2
 generalize hsp2:([.int .i64 0,.int .i64 0]:List Value)++List.drop ((l.length - 1)*2+([.int .i64 0,.int .i64 0]:List Value).length) r1=sp2 at e2
 have hlen2:(l.length - 1)*2+sp2.length=cap*2:=by
  rw [<- hsp2]
  simp only [List.length_append,List.length_cons,List.length_nil,List.length_drop]
  omega
 have hg1:w1.heap[g]? = some (.cells (List.toArray (cells++sp)) 42 (0,0)):=by rw [k1.block g (dq hg) (by simp)]; exact hg
 have hh:=setRow_heap _ g _ (cells.take (i*2)++cells.drop ((i+1)*2)++sp2).toArray 42 _ (setRow_heap w1 g _ r1.toArray 42 _ hg1)
 have hk:=((k1.sub (T:=[g]) (by simp)).step (Kp.setRow w1 g r1.toArray) (by simp)).step (Kp.setRow _ g (cells.take (i*2)++cells.drop ((i+1)*2)++sp2).toArray) (by simp)
 subst e2
 obtain ⟨k2,k3,_⟩:=jy (ro:=dS 0) (s':=.nm .opn) (e':=42) (zs:=l.take i++l.drop (i+1)) hR hH ⟨rfl,rfl⟩ hk (fun b hb=>⟨_,hρ,by rw [List.mem_singleton] at hb; subst hb; rfl⟩) (r':=.row g cap (l.take i++l.drop (i+1)).length (Sh.nm NT.opn).size) (fun b hb=>by
  cases hb; exact .inl ⟨_,hρ,rfl⟩) (fun hle=>⟨hshp,by rw [hzl,hby]; omega,.inr ⟨g,cap,_,sp2,rfl,hh,by
   rw [List.flatMap_append]; exact ((bO hpd i).append (bY hpd (i+1))).carry hle,by rw [List.length_append,hnl,hz]; exact hlen2,by omega,hmax⟩⟩)
 exact ⟨[_],rfl,_,k3,k2.ext,k2.bx,.cons (.inl ⟨g,cap,_,_,List.getElem?_set_self hil,by rw [hzl]⟩) .nil,fun hb=>by cases hb⟩
def rZ {β:Type} (z:β) (k:Int):List (Int × β)->β
 | []=>z
 | p :: r=>if k=p.1 then p.2 else rZ z k r
theorem aL {α:Type} {l:List α} {k:Nat} {x:α} (hx:l[k]? = some x):l.take (k+1)=l.take k++[x]:=by
 rw [List.take_add_one,hx]; rfl
theorem Hw {α:Type} [DecidableEq α] {l m:List α} (h:¬ ((l.length:Nat):Int)=((m.length:Nat):Int)):false=decide (l=m):=by
 symm; apply decide_eq_false; rintro rfl; exact h rfl
theorem Ci {α:Type} [DecidableEq α] {l m:List α} {k:Nat} (hl:l.length=m.length) (h:l.take k=m.take k) (hk:l.length<=k):true=decide (l=m):=by
 symm; apply decide_eq_true
 rwa [List.take_of_length_le hk,List.take_of_length_le (by omega)] at h
def bC (n a b:Int):Bool:=decide (a<=n) && decide (n<=b)
def aD {α:Type} (key:α->Int) (most:Int):Int->List α->Bool
 | _,[]=>true
 | a,x :: r=>bC (key x) (a+1) most && aD key most (key x) r
def bj {α:Type} (key:α->Int) (a:Int) (l:List α):Int:=l.foldl (fun _ x=>key x) a
theorem ec {α:Type} {key:α->Int} {most:Int} {x:α}:∀ (p:List α) (a:Int),aD key most a (p++[x])=(aD key most a p && bC (key x) (bj key a p+1) most)
 | [],a=>by simp [aD,bj]
 | y :: p,a=>by
  rw [List.cons_append,aD,aD,ec p,Bool.and_assoc]; rfl
theorem iG {α:Type} {key:α->Int} {most:Int} (q:List α):∀ (p:List α) (a:Int),aD key most a (p++q)=true->aD key most a p=true
 | [],a,_=>rfl
 | y :: p,a,h=>by
  rw [List.cons_append,aD,Bool.and_eq_true] at h
  rw [aD,Bool.and_eq_true]
  exact ⟨h.1,iG q p _ h.2⟩
theorem du {α:Type} {key:α->Int} {a:Int} {l:List α} {k:Nat} {x:α} (hx:l[k]? = some x):key x=bj key a (l.take (k+1)):=by
 rw [aL hx,bj,List.foldl_append]; rfl
theorem fF {α:Type} {key:α->Int} {a:Int} {l:List α} {k:Nat} {x:α} (h:0<k) (hx:l[k - 1]? = some x):bj key a (l.take k)=key x:=by
 obtain ⟨j,rfl⟩:∃ j,k=j+1:=⟨k - 1,by omega⟩
 exact (du (by simpa using hx)).symm
theorem gH {α:Type} {key:α->Int} {most a:Int} {l:List α} {k:Nat} {x:α} (h:aD key most a (l.take k)=true) (hx:l[k]? = some x) (h1:bj key a (l.take k)<key x) (h2:key x<=most):aD key most a (l.take (k+1))=true:=by
 rw [aL hx,ec,h,Bool.true_and,bC,Bool.and_eq_true,decide_eq_true_eq,decide_eq_true_eq]
 exact ⟨by omega,h2⟩
theorem lf {α:Type} {key:α->Int} {most a:Int} {l:List α} {k:Nat} {x:α} (hx:l[k]? = some x) (h:¬ (bj key a (l.take k)<key x/\key x<=most)):aD key most a l=false:=by
 cases hr:aD key most a l with
 | false=>rfl
 | true=>
  have h1:=iG (l.drop (k+1)) (l.take (k+1)) a (by rw [List.take_append_drop]; exact hr)
  rw [aL hx,ec,Bool.and_eq_true,bC,Bool.and_eq_true,decide_eq_true_eq,decide_eq_true_eq] at h1
  exact absurd ⟨by omega,h1.2.2⟩ h
theorem gJ {α:Type} {key:α->Int} {most a:Int} {l:List α} {k:Nat} (h:aD key most a (l.take k)=true) (hk:l.length<=k):aD key most a l=true:=by
 rwa [List.take_of_length_le hk] at h
def cN (l:List Int):Bool:=(decide ((1:Int)<=((l.length:Nat):Int)) && decide (((l.length:Nat):Int)<=8)) && aD id 64 0 l
theorem h_ {l:List Int} {k:Nat} {x:Int} (hx:l[k]? = some x) (h:¬ (bj id 0 (l.take k)<x/\x<=64)):false=cN l:=by
 rw [cN,lf (key:=id) hx h,Bool.and_false]
theorem yb {l:List Int} {k:Nat} (h:aD id 64 0 (l.take k)=true) (hk:l.length<=k):(decide ((1:Int)<=((l.length:Nat):Int)) && decide (((l.length:Nat):Int)<=8))=cN l:=by
 rw [cN,gJ h hk,Bool.and_true]
theorem yM {l:List Int} {k:Nat} (h:aD id 64 0 (l.take k)=true):0<=bj id 0 (l.take k):=by
 by_cases hk:k=0
 ·subst hk; exact Int.le_refl _
 ·by_cases hl:k - 1<l.length
  ·have hx:=List.getElem?_eq_getElem hl
   rw [fF (by omega) hx]
   have e:l.take k=l.take (k - 1)++[l[k - 1]]:=by
    have:=aL hx
    rwa [show k - 1+1=k by omega] at this
   rw [e,ec,Bool.and_eq_true,bC,Bool.and_eq_true,decide_eq_true_eq] at h
   have h0:∀ (p:List Int) (a:Int),0<=a->aD id 64 a p=true->0<=bj id a p:=by
    intro p
    induction p with
    | nil=>intro a ha _; exact ha
    | cons y p ih=>
     intro a ha hp
     rw [aD,Bool.and_eq_true,bC,Bool.and_eq_true,decide_eq_true_eq] at hp
     exact ih (id y) bt hp.2
   have:=h0 _ _ (Int.le_refl 0) h.1
   omega
  ·have h0:∀ (p:List Int) (a:Int),0<=a->aD id 64 a p=true->0<=bj id a p:=by
    intro p
    induction p with
    | nil=>intro a ha _; exact ha
    | cons y p ih=>
     intro a ha hp
     rw [aD,Bool.and_eq_true,bC,Bool.and_eq_true,decide_eq_true_eq] at hp
     exact ih (id y) bt hp.2
   exact h0 _ _ (Int.le_refl 0) h
theorem iT {l:List Int} {k:Nat} (h:aD id 64 0 (l.take k)=true) (hk:l.length<=k) (hl:1<=l.length/\l.length<=8):true=cN l:=by
 rw [cN,gJ h hk,Bool.and_true]; symm; rw [Bool.and_eq_true,decide_eq_true_eq,decide_eq_true_eq]; omega
theorem nn {l:List Int} (hl:¬ (1<=l.length/\l.length<=8)):false=cN l:=by
 symm
 rw [cN,Bool.and_eq_false_iff]; left
 rw [Bool.and_eq_false_iff,decide_eq_false_iff_not,decide_eq_false_iff_not]; omega
def bg (x:Sess):Bool:=(bC x.seq 0 1048576 && bC x.last.code 0 99) && bC x.last.n 0 1048576
def bf (x:Opn):Bool:=bC x.client 1 8
theorem mN {α:Type} {p:α->Bool} {l:List α} {k:Nat} {x:α} (h:(l.take k).all p=true) (hx:l[k]? = some x) (hp:p x=true):(l.take (k+1)).all p=true:=by
 rw [aL hx,List.all_append,h]; simp [hp]
theorem CG {α:Type} {p:α->Bool} {l:List α} {k:Nat} {x:α} (hx:l[k]? = some x) (hp:p x=false):l.all p=false:=by
 rw [List.all_eq_false]; exact ⟨x,List.mem_of_getElem? hx,by simp [hp]⟩
theorem Ah {α:Type} {p:α->Bool} {l:List α} {k:Nat} (h:(l.take k).all p=true) (hk:l.length<=k):l.all p=true:=by
 rwa [List.take_of_length_le hk] at h
def bm (n:Nat):Nat:=if h:n<128 then 1 else bm (n / 128)+1
termination_by n
decreasing_by omega
theorem nC {n:Nat} (h:¬ n<128):bm n=bm (n / 128)+1:=by rw [bm,dif_neg h]
theorem iJ {n:Nat} (h:n<128):bm n=1:=by rw [bm,dif_pos h]
theorem iw (n:Nat):1<=bm n:=by rw [bm]; split <;> omega
theorem rh:∀ (k n:Nat),n<128 ^ (k+1)->bm n<=k+1
 | 0,n,h=>by rw [iJ (by simpa using h)]; omega
 | k+1,n,h=>by
  by_cases hn:n<128
  ·rw [iJ hn]; omega
  ·rw [nC hn]
   have:=rh k (n / 128) (by rw [Nat.div_lt_iff_lt_mul (by omega),<- Nat.pow_succ]; exact h)
   omega
theorem mJ {n:Nat} (h:n<18446744073709551616):bm n<=10:=rh 9 n (Nat.lt_of_lt_of_le h (by decide))
def Fq (n i:Nat):UInt8:=UInt8.ofNat (n / 128 ^ i) ||| 128
def dJ (n k:Nat):List UInt8:=(List.range k).map (Fq n)++List.replicate (bm n - k) 0
def nP (n:Nat):List UInt8:=(dJ n (bm n)).set (bm n - 1) (Fq n (bm n - 1) &&& 127)
theorem jV {n k:Nat} (h:k<=bm n):(dJ n k).length=bm n:=by simp [dJ]; omega
theorem vj {n k:Nat} (h:k<bm n):(dJ n k).set k (Fq n k)=dJ n (k+1):=by
 unfold dJ
 rw [List.set_append_right _ _ (by simp),List.range_succ,List.map_append,List.append_assoc]
 congr 1
 obtain ⟨j,hj⟩:∃ j,bm n - k=j+1:=⟨bm n - k - 1,by omega⟩
 rw [hj,show bm n - (k+1)=j by omega]
 simp [List.replicate_succ]
theorem vr (n:Nat):List.replicate (bm n) (0:UInt8)=dJ n 0:=by simp [dJ]
theorem vh {n:Nat} {x:UInt8} (h:(dJ n (bm n))[bm n - 1]? = some x):x=Fq n (bm n - 1):=by
 have hp:=iw n
 unfold dJ at h
 rw [List.getElem?_append_left (by simp; omega)] at h
 simp only [List.getElem?_map,List.getElem?_range (show bm n - 1<bm n by omega),Option.map_some,Option.some.injEq] at h
 exact h.symm
theorem div_pow {n k:Nat}:n / 128 ^ k / 2 ^ 7=n / 128 ^ (k+1):=by show n / 128 ^ k / 128=_; rw [Nat.div_div_eq_div_mul,Nat.pow_succ]
theorem Al (n:Nat):(nP n).length=bm n:=by rw [nP,List.length_set,jV (Nat.le_refl _)]
theorem nO {n:Nat} (h:n<18446744073709551616):(nP n).length<=10:=by rw [Al]; exact mJ h
def eI (l:List Int):List UInt8:=l.flatMap fun x=>nP x.toNat
theorem yr {l:List Int} {k:Nat} {x:Int} (hx:l[k]? = some x):eI (l.take k)++nP x.toNat=eI (l.take (k+1)):=by
 rw [aL hx]; simp [eI]
theorem Bw {l:List Int} (h:∀ x ∈ l,x<=64):(eI l).length<=10*l.length:=by
 induction l with
 | nil=>simp [eI]
 | cons a l ih=>
  have h1:=ih fun x hx=>h x (List.mem_cons_of_mem _ hx)
  have h2:=nO (n:=a.toNat) (by have:=h a (by simp); omega)
  simp only [eI,List.flatMap_cons,List.length_append,List.length_cons] at *
  omega
theorem vD {l:List Int} (h:cN l=true):∀ x ∈ l,0<x/\x<=64:=by
 rw [cN,Bool.and_eq_true] at h
 have:∀ (l:List Int) (a:Int),0<=a->aD id 64 a l=true->∀ x ∈ l,0<x/\x<=64:=by
  intro l
  induction l with
  | nil=>intro a _ _ x hx; cases hx
  | cons y l ih=>
   intro a ha hl x hx
   rw [aD,Bool.and_eq_true,bC,Bool.and_eq_true,decide_eq_true_eq,decide_eq_true_eq] at hl
   have h1:a+1<=y:=hl.1.1
   have h2:y<=64:=hl.1.2
   rcases List.mem_cons.1 hx with rfl | hx
   ·omega
   ·exact ih (id y) (by show 0<=y; omega) hl.2 x hx
 exact this l 0 bt h.2
theorem xa {l:List Int} (h:cN l=true):1<=l.length/\l.length<=8:=by
 rw [cN,Bool.and_eq_true,Bool.and_eq_true,decide_eq_true_eq,decide_eq_true_eq] at h
 omega
def fT (l:List Int):List UInt8:=if cN l then eI l else []
def dF (l:List Int):Int:=if cN l then 0 else 1
theorem zu {l:List Int} {k:Nat} (hr:cN l=true) (hk:l.length<=k):eI (l.take k)=fT l:=by rw [List.take_of_length_le hk,fT,if_pos hr]
theorem xz {l:List Int} (hr:cN l=false):[]=fT l:=by rw [fT,hr]; rfl
theorem tI {l:List Int} (hr:cN l=true):0=dF l:=by rw [dF,hr]; rfl
theorem mi {l:List Int} (hr:cN l=false):1=dF l:=by rw [dF,hr]; rfl
def cq (v t:Int) (x:Snap):Bool:=((decide (dF x.chunks=0) && bC x.set 1 8) && (!x.held || decide (2<=v))) && decide (((x.tag.b.length:Nat):Int)<=t)
def gX (v:Int):Int:=if v<3 then 0 else 16
def dE (s:State) (v:Int):Bool:=!(decide (16<((s.snaps.length:Nat):Int)) || !(aD Snap.id (s.next - 1) 0 s.snaps)) && s.snaps.all (cq v (gX v))
def dm (s:State) (v:Int):Bool:=((bC s.version 1 3 && bC s.next 1 1048576) && bC s.keep 0 8) && bC s.quota 0 (if v<3 then 0 else 64)
def lA (s:State):Bool:=aD Sess.client 8 0 s.sess && s.sess.all bg
def gB (s:State):Bool:=aD Opn.set 8 0 s.opens && s.opens.all bf
def bK (s:State) (v:Int):Int:=if !(bC v 1 3) then 1 else if (((!dm s v || !lA s) || !gB s) || !dE s v) then 6 else 0
theorem MI {s:State} {v:Int} (h:(!(bC v 1 3))=true):1=bK s v:=by rw [bK,if_pos h]
def d_ (next v:Int) (x:Snap):Bool:=((((cN x.chunks && bC x.id 1 (IntKind.i64.wrap (next - 1))) && bC x.set 1 8) && (!x.held || decide (2<=v))) && decide (((x.tag.b.length:Nat):Int)<=16)) && (decide (x.tag=⟨[]⟩) || decide (3<=v))
def aZ {α:Type} (p:α->Bool) (key:α->Int) (most:Int) (l:List α):Bool:=aD key most 0 l && l.all p
def jz (s:State) (v:Int):Bool:=((((((decide ((1:Int)<=s.version)) && (decide (s.version<=(3:Int)))) && ((decide ((1:Int)<=s.next)) && (decide (s.next<=(1048576:Int))))) && ((decide ((0:Int)<=s.keep)) && (decide (s.keep<=(8:Int))))) && ((decide ((0:Int)<=s.quota)) && (decide (s.quota<=(64:Int))))) && (decide (s.quota=(0:Int)) || decide ((3:Int)<=v))) && decide (((s.snaps.length:Nat):Int)<=(16:Int))
theorem ka {α:Type} {p:α->Bool} {key:α->Int} {most:Int} {l:List α} {k:Nat} {x:α} (hx:l[k]? = some x):aZ p key most (l.take (k+1))=(aZ p key most (l.take k) && (bC (key x) 1 most && p x) && (decide (((k:Nat):Int)=(0:Int)) || decide (bj key 0 (l.take k)<key x))):=by
 unfold aZ
 rw [aL hx,ec,List.all_append]
 have e:bC (key x) (bj key 0 (l.take k)+1) most=true↔(bj key 0 (l.take k)<key x/\key x<=most):=by
  unfold bC; rw [Bool.and_eq_true,decide_eq_true_eq,decide_eq_true_eq]; omega
 have e1:bC (key x) 1 most=true↔(1<=key x/\key x<=most):=by
  unfold bC; rw [Bool.and_eq_true,decide_eq_true_eq,decide_eq_true_eq]
 have hp:∀ (q:List α) (a:Int),0<=a->aD key most a q=true->q≠[]->1<=bj key a q:=by
  intro q
  induction q with
  | nil=>intro a _ _ h; exact absurd rfl h
  | cons y q ih=>
   intro a ha hq _
   rw [aD,Bool.and_eq_true,bC,Bool.and_eq_true,decide_eq_true_eq] at hq
   cases q with
   | nil=>show 1<=key y; omega
   | cons z q=>exact ih (key y) (by omega) hq.2 (by simp)
 cases hr:aD key most 0 (l.take k) with
 | false=>simp
 | true=>
  by_cases hk:k=0
  ·subst hk
   have h0:bj key 0 (l.take 0)=0:=rfl
   have e2:bC (key x) (bj key 0 (l.take 0)+1) most=bC (key x) 1 most:=by rw [h0]; rfl
   rw [e2]; simp
  ·have hne:l.take k≠[]:=by
    intro h
    have h3:(l.take k).length=0:=by rw [h]; rfl
    have h2:=BW hx
    rw [List.length_take] at h3
    omega
   have h1:=hp _ _ (Int.le_refl 0) hr hne
   have e3:bC (key x) (bj key 0 (l.take k)+1) most=(bC (key x) 1 most && decide (bj key 0 (l.take k)<key x)):=by
    rw [Bool.eq_iff_iff,Bool.and_eq_true,e,e1,decide_eq_true_eq]; omega
   have e4:decide (((k:Nat):Int)=(0:Int))=false:=decide_eq_false (by omega)
   rw [e3,e4]
   cases bC (key x) 1 most <;> cases decide (bj key 0 (l.take k)<key x) <;> cases (l.take k).all p <;> cases hpx:p x <;> simp [hpx]
theorem xK {B:Bool} {l:List Sess} {k:Nat} {x:Sess} (hx:l[k]? = some x):(B && aZ bg Sess.client 8 (l.take (k+1)))=(((((((B && aZ bg Sess.client 8 (l.take k)) && ((decide ((1:Int)<=x.client)) && (decide (x.client<=(8:Int))))) && ((decide ((0:Int)<=x.seq)) && (decide (x.seq<=(1048576:Int))))) && ((decide ((0:Int)<=x.last.code)) && (decide (x.last.code<=(99:Int))))) && ((decide ((0:Int)<=x.last.n)) && (decide (x.last.n<=(1048576:Int)))))) && (decide (((k:Nat):Int)=(0:Int)) || decide (bj Sess.client 0 (l.take k)<x.client))):=by
 rw [ka hx]
 show (B && (_ && (((decide ((1:Int)<=x.client)) && (decide (x.client<=(8:Int)))) && ((((decide ((0:Int)<=x.seq)) && (decide (x.seq<=(1048576:Int)))) && ((decide ((0:Int)<=x.last.code)) && (decide (x.last.code<=(99:Int))))) && ((decide ((0:Int)<=x.last.n)) && (decide (x.last.n<=(1048576:Int)))))) && _))=_
 cases B <;> cases aZ bg Sess.client 8 (l.take k) <;> cases ((decide ((1:Int)<=x.client)) && (decide (x.client<=(8:Int)))) <;> cases ((decide ((0:Int)<=x.seq)) && (decide (x.seq<=(1048576:Int)))) <;> cases ((decide ((0:Int)<=x.last.code)) && (decide (x.last.code<=(99:Int)))) <;> cases ((decide ((0:Int)<=x.last.n)) && (decide (x.last.n<=(1048576:Int)))) <;> rfl
theorem yB {B:Bool} {l:List Opn} {k:Nat} {x:Opn} (hx:l[k]? = some x):(B && aZ bf Opn.set 8 (l.take (k+1)))=((((B && aZ bf Opn.set 8 (l.take k)) && ((decide ((1:Int)<=x.set)) && (decide (x.set<=(8:Int))))) && ((decide ((1:Int)<=x.client)) && (decide (x.client<=(8:Int))))) && (decide (((k:Nat):Int)=(0:Int)) || decide (bj Opn.set 0 (l.take k)<x.set))):=by
 rw [ka hx]
 show (B && (_ && (((decide ((1:Int)<=x.set)) && (decide (x.set<=(8:Int)))) && ((decide ((1:Int)<=x.client)) && (decide (x.client<=(8:Int))))) && _))=_
 cases B <;> cases aZ bf Opn.set 8 (l.take k) <;> cases ((decide ((1:Int)<=x.set)) && (decide (x.set<=(8:Int)))) <;> cases ((decide ((1:Int)<=x.client)) && (decide (x.client<=(8:Int)))) <;> rfl
def cQ (s:State) (v:Int) (l:List Snap):Bool:=aZ (d_ s.next v) Snap.id (IntKind.i64.wrap (s.next - 1)) l
theorem im {B:Bool} {s:State} {v:Int} {l:List Snap} {k:Nat} {x:Snap} (hx:l[k]? = some x):(B && cQ s v (l.take (k+1)))=(((B && cQ s v (l.take k)) && d_ s.next v x) && (decide (((k:Nat):Int)=(0:Int)) || decide (bj Snap.id 0 (l.take k)<x.id))):=by
 unfold cQ
 rw [ka hx]
 have e:(bC x.id 1 (IntKind.i64.wrap (s.next - 1)) && d_ s.next v x)=d_ s.next v x:=by
  unfold d_
  cases bC x.id 1 (IntKind.i64.wrap (s.next - 1)) <;> simp
 rw [e]
 cases B <;> cases aZ (d_ s.next v) Snap.id (IntKind.i64.wrap (s.next - 1)) (l.take k) <;> cases d_ s.next v x <;> rfl
theorem jb {α:Type} {key:α->Int} {most:Int}:∀ {l:List α} {a:Int},0<=a->aD key most a l=true->∀ x ∈ l,1<=key x/\key x<=most
 | [],_,_,_,x,hx=>by cases hx
 | y :: l,a,ha,h,x,hx=>by
  rw [aD,Bool.and_eq_true,bC,Bool.and_eq_true,decide_eq_true_eq,decide_eq_true_eq] at h
  rcases List.mem_cons.1 hx with rfl | hx
  ·omega
  ·exact jb bt h.2 x hx
theorem EU {z:Int} (h:I64 z):IntKind.i64.wrap z=z:=I64.wrap h
theorem Ho {v:Int} {x:Snap}:(decide (((x.tag.b.length:Nat):Int)<=16) && (decide (x.tag=⟨[]⟩) || decide (3<=v)))=decide (((x.tag.b.length:Nat):Int)<=gX v):=by
 have e:x.tag=⟨[]⟩↔x.tag.b.length=0:=by
  constructor
  ·intro h; rw [h]; rfl
  ·intro h; cases hx:x.tag with | mk b=>rw [hx] at h; simp at h; rw [h]
 rw [Bool.eq_iff_iff,Bool.and_eq_true,Bool.or_eq_true,decide_eq_true_eq,decide_eq_true_eq,decide_eq_true_eq,decide_eq_true_eq,e,gX]
 split <;> omega
theorem uP (l:List Int):decide (dF l=0)=cN l:=by
 unfold dF; cases cN l <;> rfl
theorem tC {next v:Int} {x:Snap} (hw:IntKind.i64.wrap (next - 1)=next - 1) (h:1<=x.id/\x.id<=next - 1):d_ next v x=cq v (gX v) x:=by
 have e:bC x.id 1 (next - 1)=true:=by rw [bC,Bool.and_eq_true,decide_eq_true_eq,decide_eq_true_eq]; exact h
 unfold d_ cq
 rw [hw,e,uP,<- Ho]
 cases cN x.chunks <;> cases bC x.set 1 8 <;> cases (!x.held || decide (2<=v)) <;> simp
theorem AQ {q v:Int}:(((decide ((0:Int)<=q)) && (decide (q<=(64:Int)))) && (decide (q=(0:Int)) || decide ((3:Int)<=v)))=bC q 0 (if v<3 then 0 else 64):=by
 rw [Bool.eq_iff_iff,bC]
 simp only [Bool.and_eq_true,Bool.or_eq_true,decide_eq_true_eq]
 split <;> omega
theorem LU {s:State} {v:Int} {k k2 k3:Nat} (h1:s.sess.length<=k) (h2:s.opens.length<=k2) (h3:s.snaps.length<=k3) :
  (((jz s v && aZ bg Sess.client 8 (s.sess.take k)) && aZ bf Opn.set 8 (s.opens.take k2)) && cQ s v (s.snaps.take k3)) = !(((!dm s v || !lA s) || !gB s) || !dE s v):=by
 rw [List.take_of_length_le h1,List.take_of_length_le h2,List.take_of_length_le h3]
 have e0:jz s v=(dm s v && decide (((s.snaps.length:Nat):Int)<=(16:Int))):=by
  unfold jz dm
  rw [<- AQ]
  show ((((_ && bC s.next 1 1048576) && _) && _) && _ && _)=_
  simp only [bC,Bool.and_assoc]
 have e1:aZ bg Sess.client 8 s.sess=lA s:=rfl
 have e2:aZ bf Opn.set 8 s.opens=gB s:=rfl
 rw [e0,e1,e2]
 cases hn:dm s v with
 | false=>simp
 | true=>
  have hnx:1<=s.next/\s.next<=1048576:=by
   unfold dm at hn
   simp only [Bool.and_eq_true,bC,decide_eq_true_eq] at hn
   exact hn.1.1.2
  have hw:IntKind.i64.wrap (s.next - 1)=s.next - 1:=EU ⟨by omega,by omega⟩
  have e3:(decide (((s.snaps.length:Nat):Int)<=(16:Int)) && cQ s v s.snaps)=dE s v:=by
   unfold cQ aZ dE
   rw [hw]
   have ed:decide (16<((s.snaps.length:Nat):Int)) = !decide (((s.snaps.length:Nat):Int)<=(16:Int)):=by
    rw [<- decide_not,Bool.eq_iff_iff,decide_eq_true_eq,decide_eq_true_eq]; omega
   rw [ed]
   cases hr:aD Snap.id (s.next - 1) 0 s.snaps with
   | false=>simp
   | true=>
    have:s.snaps.all (d_ s.next v)=s.snaps.all (cq v (gX v)):=by
     rw [Bool.eq_iff_iff,List.all_eq_true,List.all_eq_true]
     constructor
     ·intro h x hx; rw [<- tC hw (jb (Int.le_refl 0) hr x hx)]; exact h x hx
     ·intro h x hx; rw [tC hw (jb (Int.le_refl 0) hr x hx)]; exact h x hx
    rw [this]
    cases decide (((s.snaps.length:Nat):Int)<=(16:Int)) <;> simp
  rw [<- e3]
  cases lA s <;> cases gB s <;> cases decide (((s.snaps.length:Nat):Int)<=(16:Int)) <;> cases cQ s v s.snaps <;> rfl
theorem KX {s:State} {v:Int} {k k2 k3:Nat} (hv:(!(bC v 1 3))=false) (h1:s.sess.length<=k) (h2:s.opens.length<=k2) (h3:s.snaps.length<=k3)
  (h:(!(((jz s v && aZ bg Sess.client 8 (s.sess.take k)) && aZ bf Opn.set 8 (s.opens.take k2)) && cQ s v (s.snaps.take k3)))=true):6=bK s v:=by
 rw [LU h1 h2 h3,Bool.not_not] at h
 rw [bK,hv,if_neg (by decide),if_pos h]
theorem Ly {s:State} {v:Int} {k k2 k3:Nat} (hv:(!(bC v 1 3))=false) (h1:s.sess.length<=k) (h2:s.opens.length<=k2) (h3:s.snaps.length<=k3)
  (h:(!(((jz s v && aZ bg Sess.client 8 (s.sess.take k)) && aZ bf Opn.set 8 (s.opens.take k2)) && cQ s v (s.snaps.take k3)))=false):0=bK s v:=by
 rw [LU h1 h2 h3,Bool.not_not] at h
 rw [bK,hv,if_neg (by decide),h,if_neg (by decide)]
def ph (k:Int):Int:=rZ 0 k [((1:Int),(1:Int)),((2:Int),(1:Int)),((3:Int),(1:Int)),((4:Int),(1:Int)),((5:Int),(1:Int)),((6:Int),(1:Int)),((7:Int),(1:Int)),((8:Int),(1:Int)),((9:Int),(2:Int)),((10:Int),(2:Int)),((11:Int),(3:Int)),((12:Int),(3:Int))]
theorem y_ {n a b:Int} (h:bC n a b=true):a<=n/\n<=b:=by unfold bC at h; rw [Bool.and_eq_true,decide_eq_true_eq,decide_eq_true_eq] at h; exact h
theorem Ok {n a b:Int} (h:bC n a b=false):¬ (a<=n/\n<=b):=fun h2=>by
 have:bC n a b=true:=by unfold bC; rw [Bool.and_eq_true,decide_eq_true_eq,decide_eq_true_eq]; exact h2
 rw [h] at this; cases this
def rE (c:Command):Command:={ c with chunks:=c.chunks.take 12,text:=c.text.cut 0 40 }
def fx (x:Int) (l:List Int):Int:=match l.findIdx? (fun y=>decide (x=y)) with | some i=>(i:Int) | none=>-1
theorem Dm {x y:Int} {l:List Int} {k:Nat} (h:∀ j y,j<k->l[j]? = some y->¬ x=y) (hy:l[k]? = some y) (hxy:x=y):(k:Int)=fx x l:=by
 have:l.findIdx? (fun y=>decide (x=y))=some k:=by
  obtain ⟨hk,rfl⟩:=List.getElem?_eq_some_iff.1 hy
  rw [List.findIdx?_eq_some_iff_getElem]
  exact ⟨hk,decide_eq_true hxy,fun j hj=>by simpa using h j _ hj (List.getElem?_eq_getElem bt)⟩
 simp [fx,this]
theorem wo (x:Int) (l:List Int):decide (0<=fx x l)=l.contains x:=by
 unfold fx
 cases h:l.findIdx? (fun y=>decide (x=y)) with
 | none=>
  rw [List.findIdx?_eq_none_iff] at h
  have:l.contains x=false:=by
   rw [<- Bool.not_eq_true,List.contains_iff_mem]
   intro hm; have:=h x hm; simp at this
  rw [this]; rfl
 | some i=>
  rw [List.findIdx?_eq_some_iff_getElem] at h
  obtain ⟨hi,hp,_⟩:=h
  have:l.contains x=true:=by
   rw [List.contains_iff_mem,of_decide_eq_true hp]; exact List.getElem_mem hi
  rw [this]; simp
def mL (n most:Int) (named:Bool):Bool:=if named then (decide (1<=n) && decide (n<=most)) else decide (n=0)
def s_ (k:Int):Int × Int:=rZ (0,0) k [((6:Int),((0:Int),(8:Int))),((8:Int),((2:Int),(3:Int))),((12:Int),((0:Int),(64:Int)))]
def Oe (c:Command):Bool:=if c.kind=3 then cN c.chunks else decide (((c.chunks.length:Nat):Int)=0)
def NQ (c:Command):Bool:=if c.kind=11 then decide (((c.text.b.length:Nat):Int)<=16) else decide (c.text=⟨[]⟩)
def pb (c:Command):Bool:=((((((((decide ((s_ c.kind).1<=c.n) && decide (c.n<=(s_ c.kind).2)) && Oe c) && NQ c) && mL c.client 8 (!([(8:Int)].contains c.kind))) && mL c.seq 1048576 (!([(1:Int),8].contains c.kind))) && mL c.set 8 ([(2:Int),3,4].contains c.kind)) && mL c.id 1048576 ([(5:Int),7,9,10,11].contains c.kind)))
def cC (c:Command) (v:Int):Int:=if !(bC v 1 3) || decide (ph c.kind=0) then 1 else if v<ph c.kind then 10 else if !pb c then 1 else 0
def ku (k:Int):Bool:=decide (1<=k) && decide (k<=3)
theorem xc {α:Type} {a b:List α} {k:Nat} {d:α} (h:a.take k=b.take k) (ha:k<a.length) (hb:k<b.length) (e:a.getD k d=b.getD k d):a.take (k+1)=b.take (k+1):=by
 have h1:a[k]? = some (a.getD k d):=by rw [List.getD_eq_getElem?_getD,List.getElem?_eq_getElem ha]; rfl
 have h2:b[k]? = some (b.getD k d):=by rw [List.getD_eq_getElem?_getD,List.getElem?_eq_getElem hb]; rfl
 rw [aL h1,aL h2,h,e]
theorem mR {s:Str} {n:Nat} (h:(s.b.length:Int)<=n):s=⟨s.b.take n⟩:=by
 cases s; rw [List.take_of_length_le (by simpa using h)]
theorem HG {l:List Int} {k:Nat} {x:Int} (hx:l[k]? = some x):x=bj id 0 (l.take (k+1)):=du (key:=id) hx
theorem Cn {l:List Int} {k:Nat} {x:Int} (h:aD id 64 0 (l.take k)=true) (hx:l[k]? = some x) (h1:bj id 0 (l.take k)<x) (h2:x<=64):aD id 64 0 (l.take (k+1))=true:=gH (key:=id) h hx (by dsimp only [id]; omega) (by dsimp only [id]; omega)
def KM (l:List Int):List (Nat × LI):=[(5,{ σ:=Nat,F:=fun k=>([(3,one (.int (bj id 0 (l.take k)))),(14,one (.fz .int (l))),(15,one (.int (l).length)),(16,one (.int k))],[]),J:=fun k=>k<=l.length/\aD id 64 0 (l.take k)=true/\1<=l.length/\l.length<=8,μ:=fun k=>(l).length - k })]
def GK (a:List Int) (b:List Int):List (Nat × LI):=[(4,{ σ:=Nat,F:=fun k=>([(0,one (.fz .int (a))),(1,one (.fz .int (b))),(5,one (.int k))],[]),J:=fun k=>k<=a.length/\a.length=b.length/\a.take k=b.take k,μ:=fun k=>a.length - k })]
theorem FX (k:Int) (r0:Bool):dp aI gL [] Try.f45 [.c (.int (k))] [] [.c (.bool (.atom (r0)))]=(I64 k->(decide ((1:Int)<=k) && decide (k<=(3:Int)))=r0):=by kernel_rfl
theorem EP (k:Int):Sat Try.prog (ao aI) 45 [.c (.int (k))] [] ⟨[],[.c (.bool (.atom ((ku k))))],none,false⟩:=by
 refine bd cH [] Try.func45 (by decide) (by kernel_rfl) ?_
 rw [FX]
 grind [ku]
theorem KS (l:List Int) (r0:Bool):dp aI gL (KM l) Try.f77 [.c (.fz .int (l))] [] [.c (.bool (.atom (r0)))]=((fun (q3:Int)=>(fun (q2:Int)=>(fun (q1:Nat)=>(fun (q0:Prop)=>l.length*(8:Nat)<=(140737488355328:Nat)->(q3<(1:Int)\/(8:Int)<q3->false=r0)/\((1:Int)<=q3/\q3<=(8:Int)->∃ (s0:Nat),(q2=bj id q2 (List.take s0 l)/\l=l/\q3=(↑q1:Int)/\q2=(↑s0:Int))/\(s0<=q1/\aD id (64:Int) q2 (List.take s0 l)=true/\q0)/\∀ (s:Nat),s<=q1/\aD id (64:Int) q2 (List.take s l)=true/\q0->((↑s:Int)<(↑q1:Int)->q2<=(↑s:Int)/\(↑s:Int)<q3/\∀ (x:Int),l[s]? = some x->I64 x->(x<=bj id q2 (List.take s l)\/(64:Int)<x->false=r0)/\(bj id q2 (List.take s l)<x/\x<=(64:Int)->I64 ((↑s:Int)+(1:Int))/\∃ (s':Nat),(x=bj id q2 (List.take s' l)/\l=l/\(↑q1:Int)=(↑q1:Int)/\(↑s:Int)+(1:Int)=(↑s':Int))/\(s' <= q1/\aD id (64:Int) q2 (List.take s' l)=true/\q0)/\q1 - s' < q1 - s))/\((↑q1:Int)<=(↑s:Int)->true=r0))) ((1:Nat)<=q1/\q1<=(8:Nat))) l.length) (0:Int)) (↑l.length:Int)):=by kernel_rfl
theorem JL (l:List Int):Sat Try.prog (ao aI) 77 [.c (.fz .int (l))] [] ⟨[],[.c (.bool (.atom ((cN l))))],none,false⟩:=by
 refine bd cH (KM l) Try.func77 (by decide) (by kernel_rfl) ?_
 rw [KS]
 (repeat' (first | refine And.intro ?_ ?_ | intro))
 all_goals try (grind [nn,h_,iT,HG,Cn,aD,bj])
 all_goals (refine ⟨0,?_⟩; (repeat' (first | refine And.intro ?_ ?_ | intro)))
 all_goals try (grind [nn,h_,iT,HG,Cn,aD,bj])
 all_goals (refine ⟨‹Nat› + 1,?_⟩; (repeat' (first | refine And.intro ?_ ?_ | intro)))
 all_goals grind [nn,h_,iT,HG,Cn,aD,bj]
theorem Hs (a:List Int) (b:List Int) (r0:Bool):dp aI gL (GK a b) Try.f66 [.c (.fz .int (a)),.c (.fz .int (b))] [] [.c (.bool (.atom (r0)))]=((fun (q1:Nat)=>(fun (q0:Int)=>a.length*(8:Nat)<=(140737488355328:Nat)->b.length*(8:Nat)<=(140737488355328:Nat)->(¬q0=(↑b.length:Int)->false=r0)/\(q0=(↑b.length:Int)->∃ (s0:Nat),(a=a/\b=b/\(0:Int)=(↑s0:Int))/\(s0<=q1/\q1=b.length/\List.take s0 a=List.take s0 b)/\∀ (s:Nat),(fun (q2:Prop)=>s<=q1/\q1=b.length/\List.take s a=List.take s b->((↑s:Int)<q0->(0:Int)<=(↑s:Int)/\(↑s:Int)<q0/\(0:Int)<=(↑s:Int)/\(↑s:Int)<(↑b.length:Int)/\(I64 (a.getD s (aG Sh.int))->I64 (b.getD s (aG Sh.int))->(¬q2->false=r0)/\(q2->I64 ((↑s:Int)+(1:Int))/\∃ (s':Nat),(a=a/\b=b/\(↑s:Int)+(1:Int)=(↑s':Int))/\(s' <= q1/\q1=b.length/\List.take s' a=List.take s' b)/\q1 - s' < q1 - s)))/\(q0<=(↑s:Int)->true=r0)) (a.getD s (aG Sh.int)=b.getD s (aG Sh.int)))) (↑a.length:Int)) a.length):=by kernel_rfl
theorem HD (a:List Int) (b:List Int):Sat Try.prog (ao aI) 66 [.c (.fz .int (a)),.c (.fz .int (b))] [] ⟨[],[.c (.bool (.atom ((decide (a=b)))))],none,false⟩:=by
 refine bd cH (GK a b) Try.func66 (by decide) (by kernel_rfl) ?_
 rw [Hs]
 (repeat' (first | refine And.intro ?_ ?_ | intro))
 all_goals try (grind [aL])
 all_goals (refine ⟨0,?_⟩; (repeat' (first | refine And.intro ?_ ?_ | intro)))
 all_goals try (grind [aL])
 all_goals (refine ⟨‹Nat› + 1,?_⟩; (repeat' (first | refine And.intro ?_ ?_ | intro)))
 all_goals first | exact xc (by grind) bt bt aO | grind
theorem IT (x:Int) (r0:Int):dp aI gL [] Try.f44 [.c (.int (x))] [] [.c (.int (r0))]=((fun (q0:Option (den Sh.int))=>I64 x->((fun (j:Int)=>if j=(12:Int) then some (3:Int) else (fun (j:Int)=>if j=(11:Int) then some (3:Int) else (fun (j:Int)=>if j=(10:Int) then some (2:Int) else (fun (j:Int)=>if j=(9:Int) then some (2:Int) else (fun (j:Int)=>if j=(8:Int) then q0 else (fun (j:Int)=>if j=(7:Int) then q0 else (fun (j:Int)=>if j=(6:Int) then q0 else (fun (j:Int)=>if j=(5:Int) then q0 else (fun (j:Int)=>if j=(4:Int) then q0 else (fun (j:Int)=>if j=(3:Int) then q0 else (fun (j:Int)=>if j=(2:Int) then q0 else (fun (j:Int)=>if j=(1:Int) then q0 else (fun (_:Int)=>none) j) j) j) j) j) j) j) j) j) j) j) j) x).getD (aG Sh.int)=r0) (some (1:Int))):=by kernel_rfl
theorem HZ (x:Int):Sat Try.prog (ao aI) 44 [.c (.int (x))] [] ⟨[],[.c (.int ((ph x)))],none,false⟩:=by
 refine bd cH [] Try.func44 (by decide) (by kernel_rfl) ?_
 rw [IT]
 intro _
 simp only [ph,rZ]
 by_cases h:1<=x/\x<=12
 ·have h2:x=1\/x=2\/x=3\/x=4\/x=5\/x=6\/x=7\/x=8\/x=9\/x=10\/x=11\/x=12:=by omega
  rcases h2 with rfl | rfl | rfl | rfl | rfl | rfl | rfl | rfl | rfl | rfl | rfl | rfl <;> rfl
 ·have h1:¬ x=1:=by omega
  have h2:¬ x=2:=by omega
  have h3:¬ x=3:=by omega
  have h4:¬ x=4:=by omega
  have h5:¬ x=5:=by omega
  have h6:¬ x=6:=by omega
  have h7:¬ x=7:=by omega
  have h8:¬ x=8:=by omega
  have h9:¬ x=9:=by omega
  have h10:¬ x=10:=by omega
  have h11:¬ x=11:=by omega
  have h12:¬ x=12:=by omega
  simp [h1,h2,h3,h4,h5,h6,h7,h8,h9,h10,h11,h12,aG]
theorem LH (s:Span) (k:Int) (r0:Bool):dp aI gL [] Try.f76 [.agg (cellsOf (.nm .span) s),.c (.int (k))] [] [.c (.bool (.atom (r0)))]=(I64 s.lo->I64 s.hi->I64 k->(decide (s.lo<=k) && decide (k<=s.hi))=r0):=by kernel_rfl
theorem Lx (s:Span) (k:Int):Sat Try.prog (ao aI) 76 [.agg (cellsOf (.nm .span) s),.c (.int (k))] [] ⟨[],[.c (.bool (.atom ((decide (s.lo<=k) && decide (k<=s.hi)))))],none,false⟩:=by
 refine bd cH [] Try.func76 (by decide) (by kernel_rfl) ?_
 rw [LH]
 grind
theorem BZ (n:Int) (a:Int) (b:Int) (r0:Bool):dp aI gL [] Try.f35 [.c (.int (n)),.c (.int (a)),.c (.int (b))] [] [.c (.bool (.atom (r0)))]=(I64 n->I64 a->I64 b->(decide (a<=n) && decide (n<=b))=r0):=by kernel_rfl
theorem Bl (n:Int) (a:Int) (b:Int):Sat Try.prog (ao aI) 35 [.c (.int (n)),.c (.int (a)),.c (.int (b))] [] ⟨[],[.c (.bool (.atom ((bC n a b))))],none,false⟩:=by
 refine bd cH [] Try.func35 (by decide) (by kernel_rfl) ?_
 rw [BZ]
 grind [bC]
theorem KD (n:Int) (a:Int) (b:Int) (r0:Bool):dp aI gL [] Try.f20 [.c (.int (n)),.c (.int (a)),.c (.int (b))] [] [.c (.bool (.atom (r0)))]=(I64 n->I64 a->I64 b->(decide (a<=n) && decide (n<=b))=r0):=by kernel_rfl
theorem JQ (n:Int) (a:Int) (b:Int):Sat Try.prog (ao aI) 20 [.c (.int (n)),.c (.int (a)),.c (.int (b))] [] ⟨[],[.c (.bool (.atom ((bC n a b))))],none,false⟩:=by
 refine bd cH [] Try.func20 (by decide) (by kernel_rfl) ?_
 rw [KD]
 grind [bC]
theorem Km (n:Int) (a:Int) (b:Int) (r0:Bool):dp aI gL [] Try.f67 [.c (.int (n)),.c (.int (a)),.c (.int (b))] [] [.c (.bool (.atom (r0)))]=(I64 n->I64 a->I64 b->(decide (a<=n) && decide (n<=b))=r0):=by kernel_rfl
theorem JV (n:Int) (a:Int) (b:Int):Sat Try.prog (ao aI) 67 [.c (.int (n)),.c (.int (a)),.c (.int (b))] [] ⟨[],[.c (.bool (.atom ((bC n a b))))],none,false⟩:=by
 refine bd cH [] Try.func67 (by decide) (by kernel_rfl) ?_
 rw [Km]
 grind [bC]
theorem vF (x:Sess) (r0:Int):dp aI gL [] Try.f29 [.agg (cellsOf (.nm .sess) x)] [] [.c (.int (r0))]=(I64 x.client->I64 x.seq->I64 x.last.code->I64 x.last.n->x.client=r0):=by kernel_rfl
theorem vm (x:Sess):Sat Try.prog (ao aI) 29 [.agg (cellsOf (.nm .sess) x)] [] ⟨[],[.c (.int ((x.client)))],none,false⟩:=by
 refine bd cH [] Try.func29 (by decide) (by kernel_rfl) ?_
 rw [vF]
 grind
theorem FU (x:Opn) (r0:Int):dp aI gL [] Try.f40 [.agg (cellsOf (.nm .opn) x)] [] [.c (.int (r0))]=(I64 x.set->I64 x.client->x.set=r0):=by kernel_rfl
theorem EZ (x:Opn):Sat Try.prog (ao aI) 40 [.agg (cellsOf (.nm .opn) x)] [] ⟨[],[.c (.int ((x.set)))],none,false⟩:=by
 refine bd cH [] Try.func40 (by decide) (by kernel_rfl) ?_
 rw [FU]
 grind
theorem IC (x:Snap) (r0:Int):dp aI gL [] Try.f69 [.agg (cellsOf (.nm .snap) x)] [] [.c (.int (r0))]=(I64 x.id->I64 x.set->x.chunks.length*(8:Nat)<=(140737488355328:Nat)->x.tag.b.length<=(140737488355328:Nat)->x.id=r0):=by kernel_rfl
theorem HK (x:Snap):Sat Try.prog (ao aI) 69 [.agg (cellsOf (.nm .snap) x)] [] ⟨[],[.c (.int ((x.id)))],none,false⟩:=by
 refine bd cH [] Try.func69 (by decide) (by kernel_rfl) ?_
 rw [IC]
 grind
theorem yJ (e:Int) (r0:Reply):dp aI gL [] Try.f15 [.c (.int (e))] [] [.agg (cellsOf (.nm .reply) r0)]=(I64 e->e=r0.code/\(0:Int)=r0.n):=by kernel_rfl
theorem xS (e:Int):Sat Try.prog (ao aI) 15 [.c (.int (e))] [] ⟨[],[.agg (cellsOf (.nm .reply) (⟨e,0⟩))],none,false⟩:=by
 refine bd cH [] Try.func15 (by decide) (by kernel_rfl) ?_
 rw [yJ]
 grind
theorem KE (c:Command) (r0:Command):dp aI gL [] Try.f6 [.agg (cellsOf (.nm .command) c)] [] [.agg (cellsOf (.nm .command) r0)]=((fun (q10:Prop)=>(fun (q9:Prop)=>(fun (q8:Prop)=>(fun (q7:Prop)=>(fun (q6:Nat)=>(fun (q5:Prop)=>(fun (q4:Prop)=>(fun (q3:Int)=>(fun (q2:Prop)=>(fun (q1:Prop)=>(fun (q0:Int)=>I64 c.kind->I64 c.client->I64 c.seq->I64 c.set->I64 c.id->I64 c.n->q6*(8:Nat)<=(140737488355328:Nat)->c.text.b.length<=(140737488355328:Nat)->((12:Int)<(↑q6:Int)->(0:Int)<=(12:Int)/\(12:Int)<=(↑q6:Int)/\(q3<q0->(0:Int)<=q3/\q3<=q0/\q2/\q1/\q4/\q5/\q7/\q10/\q9/\q8)/\(q0<=q3->q2/\q1/\q4/\q5/\q7/\q10/\q9/\c.text=r0.text))/\((↑q6:Int)<=(12:Int)->(q3<q0->(0:Int)<=q3/\q3<=q0/\q2/\q1/\q4/\q5/\q7/\q10/\c.chunks=r0.chunks/\q8)/\(q0<=q3->q2/\q1/\q4/\q5/\q7/\q10/\c.chunks=r0.chunks/\c.text=r0.text))) (↑c.text.b.length:Int)) (c.client=r0.client)) (c.kind=r0.kind)) (40:Int)) (c.seq=r0.seq)) (c.set=r0.set)) c.chunks.length) (c.id=r0.id)) (Str.mk (List.take (40:Nat) c.text.b)=r0.text)) (List.take (12:Nat) c.chunks=r0.chunks)) (c.n=r0.n)):=by kernel_rfl
theorem LD (c:Command):Sat Try.prog (ao aI) 6 [.agg (cellsOf (.nm .command) c)] [] ⟨[],[.agg (cellsOf (.nm .command) (rE c))],none,false⟩:=by
 refine bd cH [] Try.func6 (by decide) (by kernel_rfl) ?_
 rw [KE]
 simp only [rE,Str.cut]; (repeat' (first | refine And.intro ?_ ?_ | intro)) <;> first | trivial | rfl | omega | (symm; exact List.take_of_length_le (by omega)) | exact mR (by omega)
def Cj:cO:=(bF 6 (bE (ak (kT (.nm .command)) aS) aR fun (c,_) (_)=>⟨[],[.agg (cellsOf (.nm .command) (rE c))],none,false⟩) (bF 15 (bE (ak (kC cI) aS) aR fun (e,_) (_)=>⟨[],[.agg (cellsOf (.nm .reply) (⟨e,0⟩))],none,false⟩) (bF 69 (bE (ak (kT (.nm .snap)) aS) aR fun (x,_) (_)=>⟨[],[.c (.int ((x.id)))],none,false⟩) (bF 40 (bE (ak (kT (.nm .opn)) aS) aR fun (x,_) (_)=>⟨[],[.c (.int ((x.set)))],none,false⟩) (bF 29 (bE (ak (kT (.nm .sess)) aS) aR fun (x,_) (_)=>⟨[],[.c (.int ((x.client)))],none,false⟩) (bF 67 (bE (ak (kC cI) (ak (kC cI) (ak (kC cI) aS))) aR fun (n,a,b,_) (_)=>⟨[],[.c (.bool (.atom ((bC n a b))))],none,false⟩) (bF 20 (bE (ak (kC cI) (ak (kC cI) (ak (kC cI) aS))) aR fun (n,a,b,_) (_)=>⟨[],[.c (.bool (.atom ((bC n a b))))],none,false⟩) (bF 35 (bE (ak (kC cI) (ak (kC cI) (ak (kC cI) aS))) aR fun (n,a,b,_) (_)=>⟨[],[.c (.bool (.atom ((bC n a b))))],none,false⟩) (bF 76 (bE (ak (kT (.nm .span)) (ak (kC cI) aS)) aR fun (s,k,_) (_)=>⟨[],[.c (.bool (.atom ((decide (s.lo<=k) && decide (k<=s.hi)))))],none,false⟩) (bF 44 (bE (ak (kC cI) aS) aR fun (x,_) (_)=>⟨[],[.c (.int ((ph x)))],none,false⟩) (bF 66 (bE (ak (kC (cL .int)) (ak (kC (cL .int)) aS)) aR fun (a,b,_) (_)=>⟨[],[.c (.bool (.atom ((decide (a=b)))))],none,false⟩) (bF 77 (bE (ak (kC (cL .int)) aS) aR fun (l,_) (_)=>⟨[],[.c (.bool (.atom ((cN l))))],none,false⟩) (bF 45 (bE (ak (kC cI) aS) aR fun (k,_) (_)=>⟨[],[.c (.bool (.atom ((ku k))))],none,false⟩) gL)))))))))))))
theorem lZ:bk Try.prog (ao aI) Cj:=(aB (aA (ag bP ay) ax fun (c,_) (_) _=>LD c ) (aB (aA (ag (az aq) ay) ax fun (e,_) (_) _=>xS e ) (aB (aA (ag bP ay) ax fun (x,_) (_) _=>HK x ) (aB (aA (ag bP ay) ax fun (x,_) (_) _=>EZ x ) (aB (aA (ag bP ay) ax fun (x,_) (_) _=>vm x ) (aB (aA (ag (az aq) (ag (az aq) (ag (az aq) ay))) ax fun (n,a,b,_) (_) _=>JV n a b ) (aB (aA (ag (az aq) (ag (az aq) (ag (az aq) ay))) ax fun (n,a,b,_) (_) _=>JQ n a b ) (aB (aA (ag (az aq) (ag (az aq) (ag (az aq) ay))) ax fun (n,a,b,_) (_) _=>Bl n a b ) (aB (aA (ag bP (ag (az aq) ay)) ax fun (s,k,_) (_) _=>Lx s k ) (aB (aA (ag (az aq) ay) ax fun (x,_) (_) _=>HZ x ) (aB (aA (ag (az b_) (ag (az b_) ay)) ax fun (a,b,_) (_) _=>HD a b ) (aB (aA (ag (az b_) ay) ax fun (l,_) (_) _=>JL l ) (aB (aA (ag (az aq) ay) ax fun (k,_) (_) _=>EP k ) cH)))))))))))))
theorem uE {n:Int} (h1:-9223372036854775808<=n) (h2:n<=9223372036854775807):I64 n:=⟨h1,h2⟩
def aj {α:Type} (key:α->Int) (want:Int) (l:List α):Int:=match l.findIdx? (fun x=>decide (key x=want)) with
 | some i=>(i:Int)
 | none=>-1
section
variable {α:Type} {key:α->Int} {want:Int} {l:List α} {k:Nat} {x:α}
theorem mT:aj key want l = -1↔∀ x ∈ l,¬ key x=want:=by
 unfold aj
 cases h:l.findIdx? (fun x=>decide (key x=want)) with
 | none=>simpa using h
 | some i=>
  rw [List.findIdx?_eq_some_iff_getElem] at h
  obtain ⟨h1,h2,_⟩:=h
  simp only [decide_eq_true_eq] at h2
  constructor
  ·intro h; dsimp only at h; omega
  ·intro h; exact absurd h2 (h _ (List.getElem_mem h1))
theorem lX:aj key want (l.take 0) = -1:=rfl
theorem jM (h:aj key want (l.take k) = -1) (hx:l[k]? = some x) (hn:¬ key x=want):aj key want (l.take (k+1)) = -1:=by
 rw [mT] at h ⊢
 rw [aL hx]
 intro y hy
 rcases List.mem_append.1 hy with hy | hy
 ·exact h y hy
 ·rw [List.mem_singleton] at hy; subst hy; exact hn
theorem jH (h:aj key want (l.take k) = -1) (hk:l.length<=k):-1=aj key want l:=by
 rw [List.take_of_length_le hk] at h; exact h.symm
theorem il (h:aj key want (l.take k) = -1) (hx:l[k]? = some x) (he:key x=want):(k:Int)=aj key want l:=by
 have:l.findIdx? (fun x=>decide (key x=want))=some k:=by
  rw [mT] at h
  obtain ⟨hk,rfl⟩:=List.getElem?_eq_some_iff.1 hx
  rw [List.findIdx?_eq_some_iff_getElem]
  refine ⟨hk,decide_eq_true he,fun j hj=>?_⟩
  have:=h l[j] (by rw [List.mem_take_iff_getElem]; exact ⟨j,by omega,rfl⟩)
  simpa using this
 rw [aj,this]
end
def nX (l:List Sess) (want:Int):List (Nat × LI):=[(2,{ σ:=Nat,F:=fun k=>([(1,one (.int (want))),(2,one (.fn 29 [] [])),(9,one (.fz (.nm .sess) (l))),(10,one (.int (l).length)),(11,one (.int k))],[]),J:=fun k=>k<=l.length/\aj Sess.client want (l.take k) = -1,μ:=fun k=>(l).length - k })]
def nW (l:List Opn) (want:Int):List (Nat × LI):=[(2,{ σ:=Nat,F:=fun k=>([(1,one (.int (want))),(2,one (.fn 40 [] [])),(9,one (.fz (.nm .opn) (l))),(10,one (.int (l).length)),(11,one (.int k))],[]),J:=fun k=>k<=l.length/\aj Opn.set want (l.take k) = -1,μ:=fun k=>(l).length - k })]
def nZ (l:List Snap) (want:Int):List (Nat × LI):=[(2,{ σ:=Nat,F:=fun k=>([(1,one (.int (want))),(2,one (.fn 69 [] [])),(9,one (.fz (.nm .snap) (l))),(10,one (.int (l).length)),(11,one (.int k))],[]),J:=fun k=>k<=l.length/\aj Snap.id want (l.take k) = -1,μ:=fun k=>(l).length - k })]
theorem ui (l:List Sess) (want:Int) (r0:Int):dp aI Cj (nX l want) Try.f28 [.c (.fz (.nm .sess) (l)),.c (.int (want)),.c (.fn 29 [] [])] [] [.c (.int (r0))]=((fun (q1:Int)=>(fun (q0:Nat)=>l.length*(32:Nat)<=(140737488355328:Nat)->I64 want->∃ (s0:Nat),(want=want/\l=l/\(↑l.length:Int)=(↑q0:Int)/\(0:Int)=(↑s0:Int))/\(s0<=q0/\aj Sess.client want (List.take s0 l) = -q1)/\∀ (s:Nat),s<=q0/\aj Sess.client want (List.take s l) = -q1->((↑s:Int)<(↑q0:Int)->(0:Int)<=(↑s:Int)/\(↑s:Int)<(↑l.length:Int)/\∀ (x:Sess),l[s]? = some x->I64 x.client->I64 x.seq->I64 x.last.code->I64 x.last.n->I64 x.client->(x.client=want->(↑s:Int)=r0)/\(¬x.client=want->I64 ((↑s:Int)+q1)/\∃ (s':Nat),(want=want/\l=l/\(↑q0:Int)=(↑q0:Int)/\(↑s:Int)+q1=(↑s':Int))/\(s' <= q0/\aj Sess.client want (List.take s' l) = -q1)/\q0 - s' < q0 - s))/\((↑q0:Int)<=(↑s:Int) -> -q1=r0)) l.length) (1:Int)):=by kernel_rfl
theorem rl (l:List Sess) (want:Int):Sat Try.prog (ao aI) 28 [.c (.fz (.nm .sess) (l)),.c (.int (want)),.c (.fn 29 [] [])] [] ⟨[],[.c (.int ((aj Sess.client want l)))],none,false⟩:=by
 refine bd lZ (nX l want) Try.func28 (by decide) (by kernel_rfl) ?_
 rw [ui]
 iterate 3 ((all_goals (repeat' (first | with_reducible apply cg | with_reducible refine cj ?_ | intro))); (all_goals try (first | exact cG | exact (lX (key:=Sess.client)) | exact (il (key:=Sess.client) aO aO aO) | exact (jH (key:=Sess.client) aO bt) | exact (jM (key:=Sess.client) aO aO aO))); all_goals try first | refine ⟨‹Nat› + 1,?_⟩ | refine ⟨0,?_⟩)
theorem sD (l:List Opn) (want:Int) (r0:Int):dp aI Cj (nW l want) Try.f92 [.c (.fz (.nm .opn) (l)),.c (.int (want)),.c (.fn 40 [] [])] [] [.c (.int (r0))]=((fun (q1:Int)=>(fun (q0:Nat)=>l.length*(16:Nat)<=(140737488355328:Nat)->I64 want->∃ (s0:Nat),(want=want/\l=l/\(↑l.length:Int)=(↑q0:Int)/\(0:Int)=(↑s0:Int))/\(s0<=q0/\aj Opn.set want (List.take s0 l) = -q1)/\∀ (s:Nat),s<=q0/\aj Opn.set want (List.take s l) = -q1->((↑s:Int)<(↑q0:Int)->(0:Int)<=(↑s:Int)/\(↑s:Int)<(↑l.length:Int)/\∀ (x:Opn),l[s]? = some x->I64 x.set->I64 x.client->I64 x.set->(x.set=want->(↑s:Int)=r0)/\(¬x.set=want->I64 ((↑s:Int)+q1)/\∃ (s':Nat),(want=want/\l=l/\(↑q0:Int)=(↑q0:Int)/\(↑s:Int)+q1=(↑s':Int))/\(s' <= q0/\aj Opn.set want (List.take s' l) = -q1)/\q0 - s' < q0 - s))/\((↑q0:Int)<=(↑s:Int) -> -q1=r0)) l.length) (1:Int)):=by kernel_rfl
theorem td (l:List Opn) (want:Int):Sat Try.prog (ao aI) 92 [.c (.fz (.nm .opn) (l)),.c (.int (want)),.c (.fn 40 [] [])] [] ⟨[],[.c (.int ((aj Opn.set want l)))],none,false⟩:=by
 refine bd lZ (nW l want) Try.func92 (by decide) (by kernel_rfl) ?_
 rw [sD]
 iterate 3 ((all_goals (repeat' (first | with_reducible apply cg | with_reducible refine cj ?_ | intro))); (all_goals try (first | exact cG | exact (lX (key:=Opn.set)) | exact (il (key:=Opn.set) aO aO aO) | exact (jH (key:=Opn.set) aO bt) | exact (jM (key:=Opn.set) aO aO aO))); all_goals try first | refine ⟨‹Nat› + 1,?_⟩ | refine ⟨0,?_⟩)
theorem tN (l:List Snap) (want:Int) (r0:Int):dp aI Cj (nZ l want) Try.f79 [.c (.fz (.nm .snap) (l)),.c (.int (want)),.c (.fn 69 [] [])] [] [.c (.int (r0))]=((fun (q1:Int)=>(fun (q0:Nat)=>l.length*(64:Nat)<=(140737488355328:Nat)->I64 want->∃ (s0:Nat),(want=want/\l=l/\(↑l.length:Int)=(↑q0:Int)/\(0:Int)=(↑s0:Int))/\(s0<=q0/\aj Snap.id want (List.take s0 l) = -q1)/\∀ (s:Nat),s<=q0/\aj Snap.id want (List.take s l) = -q1->((↑s:Int)<(↑q0:Int)->(0:Int)<=(↑s:Int)/\(↑s:Int)<(↑l.length:Int)/\∀ (x:Snap),l[s]? = some x->I64 x.id->I64 x.set->x.chunks.length*(8:Nat)<=(140737488355328:Nat)->x.tag.b.length<=(140737488355328:Nat)->I64 x.id->(x.id=want->(↑s:Int)=r0)/\(¬x.id=want->I64 ((↑s:Int)+q1)/\∃ (s':Nat),(want=want/\l=l/\(↑q0:Int)=(↑q0:Int)/\(↑s:Int)+q1=(↑s':Int))/\(s' <= q0/\aj Snap.id want (List.take s' l) = -q1)/\q0 - s' < q0 - s))/\((↑q0:Int)<=(↑s:Int) -> -q1=r0)) l.length) (1:Int)):=by kernel_rfl
theorem tF (l:List Snap) (want:Int):Sat Try.prog (ao aI) 79 [.c (.fz (.nm .snap) (l)),.c (.int (want)),.c (.fn 69 [] [])] [] ⟨[],[.c (.int ((aj Snap.id want l)))],none,false⟩:=by
 refine bd lZ (nZ l want) Try.func79 (by decide) (by kernel_rfl) ?_
 rw [tN]
 iterate 3 ((all_goals (repeat' (first | with_reducible apply cg | with_reducible refine cj ?_ | intro))); (all_goals try (first | exact cG | exact (lX (key:=Snap.id)) | exact (il (key:=Snap.id) aO aO aO) | exact (jH (key:=Snap.id) aO bt) | exact (jM (key:=Snap.id) aO aO aO))); all_goals try first | refine ⟨‹Nat› + 1,?_⟩ | refine ⟨0,?_⟩)
def rV:cO:=(bF 79 (bE (ak (kC (cL (.nm .snap))) (ak (kC cI) (ak (kC (iK 69 [] [])) aS))) aR fun (l,want,_,_) (_)=>⟨[],[.c (.int ((aj Snap.id want l)))],none,false⟩) (bF 92 (bE (ak (kC (cL (.nm .opn))) (ak (kC cI) (ak (kC (iK 40 [] [])) aS))) aR fun (l,want,_,_) (_)=>⟨[],[.c (.int ((aj Opn.set want l)))],none,false⟩) (bF 28 (bE (ak (kC (cL (.nm .sess))) (ak (kC cI) (ak (kC (iK 29 [] [])) aS))) aR fun (l,want,_,_) (_)=>⟨[],[.c (.int ((aj Sess.client want l)))],none,false⟩) Cj)))
theorem fU:bk Try.prog (ao aI) rV:=(aB (aA (ag (az b_) (ag (az aq) (ag (az bQ) ay))) ax fun (l,want,_,_) (_) _=>tF l want ) (aB (aA (ag (az b_) (ag (az aq) (ag (az bQ) ay))) ax fun (l,want,_,_) (_) _=>td l want ) (aB (aA (ag (az b_) (ag (az aq) (ag (az bQ) ay))) ax fun (l,want,_,_) (_) _=>rl l want ) lZ)))
theorem FK {n r m:Nat} (h:bm n+1=bm r+m) (hr:128<=r):bm n+1=bm (r / 128)+(m+1):=by
 have:=nC (n:=r) (by omega); omega
theorem DP {n r m:Nat} (h:bm n+1=bm r+m) (hn:n<18446744073709551616):m<=10:=by
 have:=mJ hn; have:=iw r; omega
theorem CS {n r m:Nat} (h:bm n+1=bm r+m) (hr:r<128):m=bm n:=by
 have:=iJ hr; omega
section
variable {α:Type} {key:α->Int} {most:Int} {l:List α} {k:Nat} {x:α}
theorem Dj (h:aD key most 0 (l.take k)=true) (hx:l[k]? = some x) (hb:bC (key x) (bj key 0 (l.take k)+1) most=true):aD key most 0 (l.take (k+1))=true:=
 gH h hx (by have:=y_ hb; omega) (y_ hb).2
theorem CZ (hx:l[k]? = some x) (hb:bC (key x) (bj key 0 (l.take k)+1) most=false):false=aD key most 0 l:=
 (lf hx (by have:=Ok hb; omega)).symm
theorem AB (h:aD key most 0 (l.take k)=true) (hk:l.length<=k):true=aD key most 0 l:=(gJ h hk).symm
theorem AJ (hx:l[k]? = some x) (h0:0<=bj key 0 (l.take k)) (hb:bC (key x) (bj key 0 (l.take k)+1) most=true):0<=bj key 0 (l.take (k+1)):=by
 have:=y_ hb; rw [<- du hx]; omega
theorem CK (hx:l[k]? = some x) (hb:bC (key x) (bj key 0 (l.take k)+1) most=true) (hm:most<=1048576):bj key 0 (l.take (k+1))<=1048576:=by
 have:=y_ hb; rw [<- du hx]; omega
variable {p:α->Bool}
theorem B_ (hx:l[k]? = some x) (hp:p x=false):false=l.all p:=(CG hx hp).symm
theorem zd (h:(l.take k).all p=true) (hk:l.length<=k):true=l.all p:=(Ah h hk).symm
end
def GD (n:U64):List (Nat × LI):=[(2,{ σ:=Nat × Nat,F:=fun s=>([(0,one (.u64 s.1)),(3,one (.int s.2))],[]),J:=fun s=>s.1<18446744073709551616/\bm n.n+1=bm s.1+s.2,μ:=fun s=>s.1 })]
def kZ (l:List Sess) (most:Int):List (Nat × LI):=[(3,{ σ:=Nat,F:=fun k=>([(1,one (.int (most))),(2,one (.fn 29 [] [])),(7,one (.int (bj Sess.client 0 (l.take k)))),(10,one (.fz (.nm .sess) (l))),(11,one (.int (l).length)),(12,one (.int k))],[]),J:=fun k=>k<=l.length/\aD Sess.client most 0 (l.take k)=true/\0<=bj Sess.client 0 (l.take k)/\bj Sess.client 0 (l.take k)<=1048576,μ:=fun k=>(l).length - k })]
def lg (l:List Opn) (most:Int):List (Nat × LI):=[(3,{ σ:=Nat,F:=fun k=>([(1,one (.int (most))),(2,one (.fn 40 [] [])),(7,one (.int (bj Opn.set 0 (l.take k)))),(10,one (.fz (.nm .opn) (l))),(11,one (.int (l).length)),(12,one (.int k))],[]),J:=fun k=>k<=l.length/\aD Opn.set most 0 (l.take k)=true/\0<=bj Opn.set 0 (l.take k)/\bj Opn.set 0 (l.take k)<=1048576,μ:=fun k=>(l).length - k })]
def lp (l:List Snap) (most:Int):List (Nat × LI):=[(3,{ σ:=Nat,F:=fun k=>([(1,one (.int (most))),(2,one (.fn 69 [] [])),(7,one (.int (bj Snap.id 0 (l.take k)))),(10,one (.fz (.nm .snap) (l))),(11,one (.int (l).length)),(12,one (.int k))],[]),J:=fun k=>k<=l.length/\aD Snap.id most 0 (l.take k)=true/\0<=bj Snap.id 0 (l.take k)/\bj Snap.id 0 (l.take k)<=1048576,μ:=fun k=>(l).length - k })]
theorem HI (n:U64) (r0:Int):dp aI rV (GD n) Try.f99 [.c (.u64 (n).n)] [] [.c (.int (r0))]=((fun (q0:Nat)=>n.n<(18446744073709551616:Nat)->∃ (s0:Nat × Nat),(n.n=s0.fst/\(1:Int)=(↑s0.snd:Int))/\(s0.fst<(18446744073709551616:Nat)/\q0=bm s0.fst+s0.snd)/\∀ (s:Nat × Nat),s.fst<(18446744073709551616:Nat)/\q0=bm s.fst+s.snd->((↑(128:Nat):Int)<=(↑s.fst:Int)->(7:Nat)<(64:Nat)/\I64 ((↑s.snd:Int)+(1:Int))/\∃ (s':Nat × Nat),(s.fst / (2:Nat) ^ (7:Nat)=s'.fst/\(↑s.snd:Int)+(1:Int)=(↑s'.snd:Int))/\(s'.fst<(18446744073709551616:Nat)/\q0=bm s'.fst+s'.snd)/\s'.fst<s.fst)/\((↑s.fst:Int)<(↑(128:Nat):Int)->(↑s.snd:Int)=r0)) (bm n.n+(1:Nat))):=by kernel_rfl
theorem IS (n:U64):Sat Try.prog (ao aI) 99 [.c (.u64 (n).n)] [] ⟨[],[.c (.int (((bm n.n:Int))))],none,false⟩:=by
 refine bd fU (GD n) Try.func99 (by decide) (by kernel_rfl) ?_
 rw [HI]
 intro hn
 refine ⟨(n.n,1),⟨rfl,rfl⟩,⟨hn,rfl⟩,fun s hs=>⟨fun h=>?_,fun h=>?_⟩⟩
 ·have h2:=FK hs.2 (by omega)
  have h3:=DP hs.2 hn
  exact ⟨by omega,by constructor <;> omega,(s.1 / 128,s.2+1),⟨rfl,by simp⟩,⟨by show s.1 / 128<_; omega,h2⟩,by show s.1 / 128<s.1; omega⟩
 ·exact congrArg Int.ofNat (CS hs.2 bt)
theorem qk (l:List Sess) (most:Int) (r0:Bool):dp aI rV (kZ l most) Try.f36 [.c (.fz (.nm .sess) (l)),.c (.int (most)),.c (.fn 29 [] [])] [] [.c (.bool (.atom (r0)))]=((fun (q1:Nat)=>(fun (q0:Int)=>l.length*(32:Nat)<=(140737488355328:Nat)->I64 most->∃ (s0:Nat),(fun (q2:Int)=>(most=most/\q0=q2/\l=l/\(↑l.length:Int)=(↑q1:Int)/\q0=(↑s0:Int))/\(s0<=q1/\aD Sess.client most q0 (List.take s0 l)=true/\q0<=q2/\q2<=(1048576:Int))/\∀ (s:Nat),(fun (q3:Int)=>s<=q1/\aD Sess.client most q0 (List.take s l)=true/\q0<=q3/\q3<=(1048576:Int)->((↑s:Int)<(↑q1:Int)->q0<=(↑s:Int)/\(↑s:Int)<(↑l.length:Int)/\∀ (x:Sess),(fun (q4:Bool)=>l[s]? = some x->I64 x.client->I64 x.seq->I64 x.last.code->I64 x.last.n->I64 x.client->I64 (q3+(1:Int))/\(q4=false->false=r0)/\(q4=true->I64 x.client->I64 ((↑s:Int)+(1:Int))/\∃ (s':Nat),(fun (q5:Int)=>(most=most/\x.client=q5/\l=l/\(↑q1:Int)=(↑q1:Int)/\(↑s:Int)+(1:Int)=(↑s':Int))/\(s' <= q1/\aD Sess.client most q0 (List.take s' l)=true/\q0<=q5/\q5<=(1048576:Int))/\q1 - s' < q1 - s) (bj Sess.client q0 (List.take s' l)))) (bC x.client (q3+(1:Int)) most))/\((↑q1:Int)<=(↑s:Int)->true=r0)) (bj Sess.client q0 (List.take s l))) (bj Sess.client q0 (List.take s0 l))) (0:Int)) l.length):=by kernel_rfl
theorem pE (l:List Sess) (most:Int) (h0:most<=1048576):Sat Try.prog (ao aI) 36 [.c (.fz (.nm .sess) (l)),.c (.int (most)),.c (.fn 29 [] [])] [] ⟨[most<=1048576],[.c (.bool (.atom ((aD Sess.client most 0 l))))],none,false⟩:=by
 refine bd fU (kZ l most) Try.func36 (by decide) (by kernel_rfl) ?_
 rw [qk]
 iterate 3 ((all_goals (repeat' (first | with_reducible apply cg | with_reducible refine cj ?_ | intro))); (all_goals try (first | exact cG | exact (Dj (key:=Sess.client) aO aO aO) | exact (CZ (key:=Sess.client) aO aO) | exact (AB (key:=Sess.client) aO bt) | exact (du (key:=Sess.client) aO) | exact (AJ (key:=Sess.client) aO aO aO) | exact (CK (key:=Sess.client) aO aO aO) | exact rfl | exact Int.le_refl _ | exact (show (0:Int)<=1048576 by omega))); all_goals try first | refine ⟨‹Nat› + 1,?_⟩ | refine ⟨0,?_⟩)
theorem pA (l:List Opn) (most:Int) (r0:Bool):dp aI rV (lg l most) Try.f39 [.c (.fz (.nm .opn) (l)),.c (.int (most)),.c (.fn 40 [] [])] [] [.c (.bool (.atom (r0)))]=((fun (q1:Nat)=>(fun (q0:Int)=>l.length*(16:Nat)<=(140737488355328:Nat)->I64 most->∃ (s0:Nat),(fun (q2:Int)=>(most=most/\q0=q2/\l=l/\(↑l.length:Int)=(↑q1:Int)/\q0=(↑s0:Int))/\(s0<=q1/\aD Opn.set most q0 (List.take s0 l)=true/\q0<=q2/\q2<=(1048576:Int))/\∀ (s:Nat),(fun (q3:Int)=>s<=q1/\aD Opn.set most q0 (List.take s l)=true/\q0<=q3/\q3<=(1048576:Int)->((↑s:Int)<(↑q1:Int)->q0<=(↑s:Int)/\(↑s:Int)<(↑l.length:Int)/\∀ (x:Opn),(fun (q4:Bool)=>l[s]? = some x->I64 x.set->I64 x.client->I64 x.set->I64 (q3+(1:Int))/\(q4=false->false=r0)/\(q4=true->I64 x.set->I64 ((↑s:Int)+(1:Int))/\∃ (s':Nat),(fun (q5:Int)=>(most=most/\x.set=q5/\l=l/\(↑q1:Int)=(↑q1:Int)/\(↑s:Int)+(1:Int)=(↑s':Int))/\(s' <= q1/\aD Opn.set most q0 (List.take s' l)=true/\q0<=q5/\q5<=(1048576:Int))/\q1 - s' < q1 - s) (bj Opn.set q0 (List.take s' l)))) (bC x.set (q3+(1:Int)) most))/\((↑q1:Int)<=(↑s:Int)->true=r0)) (bj Opn.set q0 (List.take s l))) (bj Opn.set q0 (List.take s0 l))) (0:Int)) l.length):=by kernel_rfl
theorem pI (l:List Opn) (most:Int) (h0:most<=1048576):Sat Try.prog (ao aI) 39 [.c (.fz (.nm .opn) (l)),.c (.int (most)),.c (.fn 40 [] [])] [] ⟨[most<=1048576],[.c (.bool (.atom ((aD Opn.set most 0 l))))],none,false⟩:=by
 refine bd fU (lg l most) Try.func39 (by decide) (by kernel_rfl) ?_
 rw [pA]
 iterate 3 ((all_goals (repeat' (first | with_reducible apply cg | with_reducible refine cj ?_ | intro))); (all_goals try (first | exact cG | exact (Dj (key:=Opn.set) aO aO aO) | exact (CZ (key:=Opn.set) aO aO) | exact (AB (key:=Opn.set) aO bt) | exact (du (key:=Opn.set) aO) | exact (AJ (key:=Opn.set) aO aO aO) | exact (CK (key:=Opn.set) aO aO aO) | exact rfl | exact Int.le_refl _ | exact (show (0:Int)<=1048576 by omega))); all_goals try first | refine ⟨‹Nat› + 1,?_⟩ | refine ⟨0,?_⟩)
theorem py (l:List Snap) (most:Int) (r0:Bool):dp aI rV (lp l most) Try.f68 [.c (.fz (.nm .snap) (l)),.c (.int (most)),.c (.fn 69 [] [])] [] [.c (.bool (.atom (r0)))]=((fun (q1:Nat)=>(fun (q0:Int)=>l.length*(64:Nat)<=(140737488355328:Nat)->I64 most->∃ (s0:Nat),(fun (q2:Int)=>(most=most/\q0=q2/\l=l/\(↑l.length:Int)=(↑q1:Int)/\q0=(↑s0:Int))/\(s0<=q1/\aD Snap.id most q0 (List.take s0 l)=true/\q0<=q2/\q2<=(1048576:Int))/\∀ (s:Nat),(fun (q3:Int)=>s<=q1/\aD Snap.id most q0 (List.take s l)=true/\q0<=q3/\q3<=(1048576:Int)->((↑s:Int)<(↑q1:Int)->q0<=(↑s:Int)/\(↑s:Int)<(↑l.length:Int)/\∀ (x:Snap),(fun (q4:Int)=>l[s]? = some x->I64 x.id->I64 x.set->x.chunks.length*(8:Nat)<=(140737488355328:Nat)->x.tag.b.length<=(140737488355328:Nat)->I64 x.id->I64 q4/\(bC x.id q4 most=false->false=r0)/\(bC x.id q4 most=true->I64 x.id->I64 ((↑s:Int)+(1:Int))/\∃ (s':Nat),(fun (q5:Int)=>(most=most/\x.id=q5/\l=l/\(↑q1:Int)=(↑q1:Int)/\(↑s:Int)+(1:Int)=(↑s':Int))/\(s' <= q1/\aD Snap.id most q0 (List.take s' l)=true/\q0<=q5/\q5<=(1048576:Int))/\q1 - s' < q1 - s) (bj Snap.id q0 (List.take s' l)))) (q3+(1:Int)))/\((↑q1:Int)<=(↑s:Int)->true=r0)) (bj Snap.id q0 (List.take s l))) (bj Snap.id q0 (List.take s0 l))) (0:Int)) l.length):=by kernel_rfl
theorem qu (l:List Snap) (most:Int) (h0:most<=1048576):Sat Try.prog (ao aI) 68 [.c (.fz (.nm .snap) (l)),.c (.int (most)),.c (.fn 69 [] [])] [] ⟨[most<=1048576],[.c (.bool (.atom ((aD Snap.id most 0 l))))],none,false⟩:=by
 refine bd fU (lp l most) Try.func68 (by decide) (by kernel_rfl) ?_
 rw [py]
 iterate 3 ((all_goals (repeat' (first | with_reducible apply cg | with_reducible refine cj ?_ | intro))); (all_goals try (first | exact cG | exact (Dj (key:=Snap.id) aO aO aO) | exact (CZ (key:=Snap.id) aO aO) | exact (AB (key:=Snap.id) aO bt) | exact (du (key:=Snap.id) aO) | exact (AJ (key:=Snap.id) aO aO aO) | exact (CK (key:=Snap.id) aO aO aO) | exact rfl | exact Int.le_refl _ | exact (show (0:Int)<=1048576 by omega))); all_goals try first | refine ⟨‹Nat› + 1,?_⟩ | refine ⟨0,?_⟩)
theorem IN (x:Sess) (r0:Bool):dp aI rV [] Try.f38 [.agg (cellsOf (.nm .sess) x)] [] [.c (.bool (.atom (r0)))]=(I64 x.client->I64 x.seq->I64 x.last.code->I64 x.last.n->(bC x.seq (0:Int) (1048576:Int) && bC x.last.code (0:Int) (99:Int) && bC x.last.n (0:Int) (1048576:Int))=r0):=by kernel_rfl
theorem Hu (x:Sess):Sat Try.prog (ao aI) 38 [.agg (cellsOf (.nm .sess) x)] [] ⟨[],[.c (.bool (.atom ((bg x))))],none,false⟩:=by
 refine bd fU [] Try.func38 (by decide) (by kernel_rfl) ?_
 rw [IN]
 grind [bg,bC]
theorem HP (x:Opn) (r0:Bool):dp aI rV [] Try.f42 [.agg (cellsOf (.nm .opn) x)] [] [.c (.bool (.atom (r0)))]=(I64 x.set->I64 x.client->bC x.client (1:Int) (8:Int)=r0):=by kernel_rfl
theorem Hc (x:Opn):Sat Try.prog (ao aI) 42 [.agg (cellsOf (.nm .opn) x)] [] ⟨[],[.c (.bool (.atom ((bf x))))],none,false⟩:=by
 refine bd fU [] Try.func42 (by decide) (by kernel_rfl) ?_
 rw [HP]
 grind [bf,bC]
def qR:cO:=(bF 42 (bE (ak (kT (.nm .opn)) aS) aR fun (x,_) (_)=>⟨[],[.c (.bool (.atom ((bf x))))],none,false⟩) (bF 38 (bE (ak (kT (.nm .sess)) aS) aR fun (x,_) (_)=>⟨[],[.c (.bool (.atom ((bg x))))],none,false⟩) (bF 68 (bE (ak (kC (cL (.nm .snap))) (ak (kC cI) (ak (kC (iK 69 [] [])) aS))) aR fun (l,most,_,_) (_)=>⟨[most<=1048576],[.c (.bool (.atom ((aD Snap.id most 0 l))))],none,false⟩) (bF 39 (bE (ak (kC (cL (.nm .opn))) (ak (kC cI) (ak (kC (iK 40 [] [])) aS))) aR fun (l,most,_,_) (_)=>⟨[most<=1048576],[.c (.bool (.atom ((aD Opn.set most 0 l))))],none,false⟩) (bF 36 (bE (ak (kC (cL (.nm .sess))) (ak (kC cI) (ak (kC (iK 29 [] [])) aS))) aR fun (l,most,_,_) (_)=>⟨[most<=1048576],[.c (.bool (.atom ((aD Sess.client most 0 l))))],none,false⟩) (bF 99 (bE (ak (kC cU) aS) aR fun (n,_) (_)=>⟨[],[.c (.int (((bm n.n:Int))))],none,false⟩) rV))))))
theorem eW:bk Try.prog (ao aI) qR:=(aB (aA (ag bP ay) ax fun (x,_) (_) _=>Hc x ) (aB (aA (ag bP ay) ax fun (x,_) (_) _=>Hu x ) (aB (aA (ag (az b_) (ag (az aq) (ag (az bQ) ay))) ax fun (l,most,_,_) (_) hp=>qu l most (dM hp)) (aB (aA (ag (az b_) (ag (az aq) (ag (az bQ) ay))) ax fun (l,most,_,_) (_) hp=>pI l most (dM hp)) (aB (aA (ag (az b_) (ag (az aq) (ag (az bQ) ay))) ax fun (l,most,_,_) (_) hp=>pE l most (dM hp)) (aB (aA (ag (az Gh) ay) ax fun (n,_) (_) _=>IS n ) fU))))))
theorem Il {n k:Nat} (h:(k:Int)<bm n):(dJ n k).set k (UInt8.ofNat (n / 128 ^ k) ||| UInt8.ofNat 128)=dJ n (k+1):=vj (by omega)
theorem EB {n k:Nat} (h1:k<=bm n) (h2:(bm n:Int)<=(k:Int)):(dJ n k).set ((bm n:Int) - 1).toNat ((dJ n k).getD ((bm n:Int) - 1).toNat (aG Sh.u8) &&& UInt8.ofNat 127)=nP n:=by
 have e:k=bm n:=by omega
 have e2:((bm n:Int) - 1).toNat=bm n - 1:=by omega
 have hl:=jV (n:=n) (Nat.le_refl _)
 have hp:=iw n
 subst e
 have hlt:bm n - 1<(dJ n (bm n)).length:=by omega
 rw [e2,List.getD_eq_getElem?_getD,List.getElem?_eq_getElem hlt,Option.getD_some,vh (List.getElem?_eq_getElem hlt)]
 rfl
def KW (n:U64):List (Nat × LI):=[(4,{ σ:=Nat,F:=fun k=>([(0,one (.u64 (n.n / 128 ^ k))),(3,one (.int (bm n.n))),(4,one (.own 0)),(10,one (.int (bm n.n))),(11,one (.int k))],[.row 5 .u8 ((dJ n.n k))]),J:=fun k=>k<=bm n.n,μ:=fun k=>bm n.n - k })]
def sB (l:List Sess):List (Nat × LI):=[(2,{ σ:=Nat,F:=fun k=>([(1,one (.fn 38 [] [])),(7,one (.fz (.nm .sess) (l))),(8,one (.int (l).length)),(9,one (.int k))],[]),J:=fun k=>k<=l.length/\(l.take k).all (bg)=true,μ:=fun k=>(l).length - k })]
def rU (l:List Opn):List (Nat × LI):=[(2,{ σ:=Nat,F:=fun k=>([(1,one (.fn 42 [] [])),(7,one (.fz (.nm .opn) (l))),(8,one (.int (l).length)),(9,one (.int k))],[]),J:=fun k=>k<=l.length/\(l.take k).all (bf)=true,μ:=fun k=>(l).length - k })]
theorem La (n:U64) (r0:List UInt8):lF aI qR (KW n) Try.f90 [.c (.u64 (n).n)] [] [.c (.own 0)] [.row 5 .u8 (r0)]=((fun (q2:Nat)=>(fun (q1:Int)=>(fun (q0:Int)=>n.n<(18446744073709551616:Nat)->I64 q0->(0:Int)<=q0/\q0*(↑(1:Nat):Int)<=(140737488355328:Int)/\q0=q0/\∃ (s0:Nat),(fun (q3:Int)=>(n.n=n.n / (128:Nat) ^ s0/\q0=q0/\q0=q0/\(0:Int)=(↑s0:Int)/\List.replicate q2 (aG Sh.u8)=dJ n.n s0)/\s0<=q2/\∀ (s:Nat),(fun (q4:List UInt8)=>s<=q2->((↑s:Int)<q0->(0:Int)<=(↑s:Int)/\(↑s:Int)<(↑q4.length:Int)/\(7:Nat)<(64:Nat)/\I64 ((↑s:Int)+q1)/\∃ (s':Nat),(n.n / (128:Nat) ^ s / (2:Nat) ^ (7:Nat)=n.n / (128:Nat) ^ s' /\ q0=q0/\q0=q0/\(↑s:Int)+q1=(↑s':Int)/\q4.set s (UInt8.ofNat (n.n / (128:Nat) ^ s) ||| UInt8.ofNat (128:Nat))=dJ n.n s')/\s' <= q2/\q2 - s' < q2 - s)/\(q0<=(↑s:Int)->I64 q3/\(0:Int)<=q3/\q3<(↑q4.length:Int)/\(0:Int)<=q3/\q3<(↑q4.length:Int)/\q4.set q3.toNat (q4.getD q3.toNat (aG Sh.u8) &&& UInt8.ofNat (127:Nat))=r0)) (dJ n.n s)) (q0 - q1)) (↑q2:Int)) (1:Int)) (bm n.n)):=by kernel_rfl
theorem JP (n:U64):Sat Try.prog (ao aI) 90 [.c (.u64 (n).n)] [] ⟨[],[.c (.own 0)],some ([.row 5 .u8 ((nP n.n))]),true⟩:=by
 refine di eW (KW n) Try.func90 (by decide) (by kernel_rfl) ?_
 rw [La]
 intro hn
 have h1:=iw n.n
 have h10:=mJ hn
 iterate 3 ((all_goals (repeat' (first | with_reducible apply cg | with_reducible refine cj ?_ | intro))); (all_goals try (first | exact cG | exact (vr n.n) | exact (Il bt) | exact (EB bt bt) | exact div_pow | exact (by rw [Nat.pow_zero,Nat.div_one]) | exact (by rw [jV bt]; omega))); all_goals try first | refine ⟨‹Nat› + 1,?_⟩ | refine ⟨0,?_⟩)
theorem yo (l:List Sess) (r0:Bool):dp aI qR (sB l) Try.f37 [.c (.fz (.nm .sess) (l)),.c (.fn 38 [] [])] [] [.c (.bool (.atom (r0)))]=((fun (q0:Nat)=>l.length*(32:Nat)<=(140737488355328:Nat)->∃ (s0:Nat),(l=l/\(↑l.length:Int)=(↑q0:Int)/\(0:Int)=(↑s0:Int))/\(s0<=q0/\(List.take s0 l).all bg=true)/\∀ (s:Nat),s<=q0/\(List.take s l).all bg=true->((↑s:Int)<(↑q0:Int)->(0:Int)<=(↑s:Int)/\(↑s:Int)<(↑l.length:Int)/\∀ (x:Sess),l[s]? = some x->I64 x.client->I64 x.seq->I64 x.last.code->I64 x.last.n->(bg x=false->false=r0)/\(bg x=true->I64 ((↑s:Int)+(1:Int))/\∃ (s':Nat),(l=l/\(↑q0:Int)=(↑q0:Int)/\(↑s:Int)+(1:Int)=(↑s':Int))/\(s' <= q0/\(List.take s' l).all bg=true)/\q0 - s' < q0 - s))/\((↑q0:Int)<=(↑s:Int)->true=r0)) l.length):=by kernel_rfl
theorem xV (l:List Sess):Sat Try.prog (ao aI) 37 [.c (.fz (.nm .sess) (l)),.c (.fn 38 [] [])] [] ⟨[],[.c (.bool (.atom ((l.all (bg)))))],none,false⟩:=by
 refine bd eW (sB l) Try.func37 (by decide) (by kernel_rfl) ?_
 rw [yo]
 iterate 3 ((all_goals (repeat' (first | with_reducible apply cg | with_reducible refine cj ?_ | intro))); (all_goals try (first | exact cG | exact (mN (p:=bg) aO aO aO) | exact (B_ (p:=bg) aO aO) | exact (zd (p:=bg) aO bt) | exact rfl)); all_goals try first | refine ⟨‹Nat› + 1,?_⟩ | refine ⟨0,?_⟩)
theorem xX (l:List Opn) (r0:Bool):dp aI qR (rU l) Try.f41 [.c (.fz (.nm .opn) (l)),.c (.fn 42 [] [])] [] [.c (.bool (.atom (r0)))]=((fun (q0:Nat)=>l.length*(16:Nat)<=(140737488355328:Nat)->∃ (s0:Nat),(l=l/\(↑l.length:Int)=(↑q0:Int)/\(0:Int)=(↑s0:Int))/\(s0<=q0/\(List.take s0 l).all bf=true)/\∀ (s:Nat),s<=q0/\(List.take s l).all bf=true->((↑s:Int)<(↑q0:Int)->(0:Int)<=(↑s:Int)/\(↑s:Int)<(↑l.length:Int)/\∀ (x:Opn),l[s]? = some x->I64 x.set->I64 x.client->(bf x=false->false=r0)/\(bf x=true->I64 ((↑s:Int)+(1:Int))/\∃ (s':Nat),(l=l/\(↑q0:Int)=(↑q0:Int)/\(↑s:Int)+(1:Int)=(↑s':Int))/\(s' <= q0/\(List.take s' l).all bf=true)/\q0 - s' < q0 - s))/\((↑q0:Int)<=(↑s:Int)->true=r0)) l.length):=by kernel_rfl
theorem yx (l:List Opn):Sat Try.prog (ao aI) 41 [.c (.fz (.nm .opn) (l)),.c (.fn 42 [] [])] [] ⟨[],[.c (.bool (.atom ((l.all (bf)))))],none,false⟩:=by
 refine bd eW (rU l) Try.func41 (by decide) (by kernel_rfl) ?_
 rw [xX]
 iterate 3 ((all_goals (repeat' (first | with_reducible apply cg | with_reducible refine cj ?_ | intro))); (all_goals try (first | exact cG | exact (mN (p:=bf) aO aO aO) | exact (B_ (p:=bf) aO aO) | exact (zd (p:=bf) aO bt) | exact rfl)); all_goals try first | refine ⟨‹Nat› + 1,?_⟩ | refine ⟨0,?_⟩)
theorem qz (l:List Sess) (r0:List Sess):lF aI qR [] Try.f22 [.c (.fz (.nm .sess) (l))] [] [.c (.own 0)] [.row 46 (.nm .sess) (r0)]=((fun (q0:Prop)=>q0->∀ (b:Bool),(b=true->l=[])->(b=true->r0=[])/\(b=false->q0/\l=r0)) (l.length*(32:Nat)<=(140737488355328:Nat))):=by kernel_rfl
theorem jO (l:List Sess):Sat Try.prog (ao aI) 22 [.c (.fz (.nm .sess) (l))] [] ⟨[],[.c (.own 0)],some ([.row 46 (.nm .sess) ((l))]),true⟩:=by
 refine di eW [] Try.func22 (by decide) (by kernel_rfl) ?_
 rw [qz]
 exact fun h b hb=>⟨hb,fun _=>⟨h,rfl⟩⟩
theorem ub (l:List Opn) (r0:List Opn):lF aI qR [] Try.f23 [.c (.fz (.nm .opn) (l))] [] [.c (.own 0)] [.row 42 (.nm .opn) (r0)]=((fun (q0:Prop)=>q0->∀ (b:Bool),(b=true->l=[])->(b=true->r0=[])/\(b=false->q0/\l=r0)) (l.length*(16:Nat)<=(140737488355328:Nat))):=by kernel_rfl
theorem lB (l:List Opn):Sat Try.prog (ao aI) 23 [.c (.fz (.nm .opn) (l))] [] ⟨[],[.c (.own 0)],some ([.row 42 (.nm .opn) ((l))]),true⟩:=by
 refine di eW [] Try.func23 (by decide) (by kernel_rfl) ?_
 rw [ub]
 exact fun h b hb=>⟨hb,fun _=>⟨h,rfl⟩⟩
theorem pt (l:List Snap) (r0:List Snap):lF aI qR [] Try.f24 [.c (.fz (.nm .snap) (l))] [] [.c (.own 0)] [.row 44 (.nm .snap) (r0)]=((fun (q0:Prop)=>q0->∀ (b:Bool),(b=true->l=[])->(b=true->r0=[])/\(b=false->q0/\l=r0)) (l.length*(64:Nat)<=(140737488355328:Nat))):=by kernel_rfl
theorem jg (l:List Snap):Sat Try.prog (ao aI) 24 [.c (.fz (.nm .snap) (l))] [] ⟨[],[.c (.own 0)],some ([.row 44 (.nm .snap) ((l))]),true⟩:=by
 refine di eW [] Try.func24 (by decide) (by kernel_rfl) ?_
 rw [pt]
 exact fun h b hb=>⟨hb,fun _=>⟨h,rfl⟩⟩
theorem tj (l:List Int) (r0:List Int):dp aI qR [] Try.f25 [.c (.fz .int (l))] [] [.c (.fz .int (r0))]=((fun (q0:Prop)=>q0->∀ (b:Bool),(b=true->l=[])->(b=true->r0=[])/\(b=false->q0/\l=r0)) (l.length*(8:Nat)<=(140737488355328:Nat))):=by kernel_rfl
theorem sd (l:List Int):Sat Try.prog (ao aI) 25 [.c (.fz .int (l))] [] ⟨[],[.c (.fz .int ((l)))],none,false⟩:=by
 refine bd eW [] Try.func25 (by decide) (by kernel_rfl) ?_
 rw [tj]
 intros; repeat' (first | refine And.intro ?_ ?_ | intro)
 all_goals first | rfl | assumption | simp_all
def tE:cO:=(bF 25 (bE (ak (kC (cL .int)) aS) aR fun (l,_) (_)=>⟨[],[.c (.fz .int ((l)))],none,false⟩) (bF 24 (bE (ak (kC (cL (.nm .snap))) aS) aR fun (l,_) (_)=>⟨[],[.c (.own 0)],some ([.row 44 (.nm .snap) ((l))]),true⟩) (bF 23 (bE (ak (kC (cL (.nm .opn))) aS) aR fun (l,_) (_)=>⟨[],[.c (.own 0)],some ([.row 42 (.nm .opn) ((l))]),true⟩) (bF 22 (bE (ak (kC (cL (.nm .sess))) aS) aR fun (l,_) (_)=>⟨[],[.c (.own 0)],some ([.row 46 (.nm .sess) ((l))]),true⟩) (bF 41 (bE (ak (kC (cL (.nm .opn))) (ak (kC (iK 42 [] [])) aS)) aR fun (l,_,_) (_)=>⟨[],[.c (.bool (.atom ((l.all (bf)))))],none,false⟩) (bF 37 (bE (ak (kC (cL (.nm .sess))) (ak (kC (iK 38 [] [])) aS)) aR fun (l,_,_) (_)=>⟨[],[.c (.bool (.atom ((l.all (bg)))))],none,false⟩) (bF 90 (bE (ak (kC cU) aS) aR fun (n,_) (_)=>⟨[],[.c (.own 0)],some ([.row 5 .u8 ((nP n.n))]),true⟩) qR)))))))
theorem fI:bk Try.prog (ao aI) tE:=(aB (aA (ag (az b_) ay) ax fun (l,_) (_) _=>sd l ) (aB (aA (ag (az b_) ay) ax fun (l,_) (_) _=>jg l ) (aB (aA (ag (az b_) ay) ax fun (l,_) (_) _=>lB l ) (aB (aA (ag (az b_) ay) ax fun (l,_) (_) _=>jO l ) (aB (aA (ag (az b_) (ag (az bQ) ay)) ax fun (l,_,_) (_) _=>yx l ) (aB (aA (ag (az b_) (ag (az bQ) ay)) ax fun (l,_,_) (_) _=>xV l ) (aB (aA (ag (az Gh) ay) ax fun (n,_) (_) _=>JP n ) eW)))))))
theorem Hb {x:Int} {l:List Int} {k:Nat} (h:fx x (l.take k) = -1) (hk:l.length<=k):-1=fx x l:=by rw [List.take_of_length_le hk] at h; exact h.symm
theorem Fk {x y:Int} {l:List Int} {k:Nat} (h:fx x (l.take k) = -1) (hy:l[k]? = some y) (e:x=y):(k:Int)=fx x l:=by
 refine Dm (fun j z hj hz hc=>?_) hy e
 have hm:z ∈ l.take k:=by
  obtain ⟨h1,h2⟩:=List.getElem?_eq_some_iff.1 hz
  rw [List.mem_take_iff_getElem]; exact ⟨j,by omega,h2⟩
 have:decide (0<=fx x (l.take k))=true:=by rw [wo,List.contains_iff_mem,hc]; exact hm
 rw [decide_eq_true_eq] at this; omega
theorem IZ {x y:Int} {l:List Int} {k:Nat} (h:fx x (l.take k) = -1) (hy:l[k]? = some y) (e:¬ x=y):fx x (l.take (k+1)) = -1:=by
 have h0:(l.take k).contains x=false:=by
  have:=wo x (l.take k)
  rw [<- this,h]; decide
 have h1:(l.take (k+1)).contains x=false:=by
  rw [aL hy,<- Bool.not_eq_true,List.contains_iff_mem] at *
  intro hm
  rcases List.mem_append.1 hm with hm | hm
  ·exact h0 hm
  ·exact e (List.mem_singleton.1 hm)
 rw [<- wo,decide_eq_false_iff_not] at h1
 unfold fx at h1 ⊢
 split
 ·rename_i i hi; rw [hi] at h1; dsimp only at h1; omega
 ·rfl
theorem MT {l:List Int} {k:Nat} {x:Int} (hr:cN l=true) (hx:l[k]? = some x):0<=x:=Int.le_of_lt (vD hr x (List.mem_of_getElem? hx)).1
theorem Iv {l:List Int} {k:Nat} {x:Int} (hr:cN l=true) (hx:l[k]? = some x):((eI (l.take k)).length+(nP x.toNat).length)*1<=140737488355328:=by
 have h1:=Bw (l:=l.take k) (fun x hx=>(vD hr x (List.mem_of_mem_take hx)).2)
 have h2:=xa hr
 have h3:=vD hr x (List.mem_of_getElem? hx)
 have h4:=nO (n:=x.toNat) (by omega)
 rw [List.length_take] at h1; omega
def BO (l:List Int) (x:Int):List (Nat × LI):=[(2,{ σ:=Nat,F:=fun k=>([(0,one (.fz .int (l))),(1,one (.int (x))),(7,one (.int (l).length)),(8,one (.int k))],[]),J:=fun k=>k<=l.length/\fx x (l.take k) = -1,μ:=fun k=>(l).length - k })]
def wi (l:List Int):List (Nat × LI):=[(5,{ σ:=Nat,F:=fun k=>([(4,one (.own 0)),(10,one (.fz .int (l))),(11,one (.int (l).length)),(12,one (.int k))],[.row 5 .u8 ((eI (l.take k)))]),J:=fun k=>k<=l.length/\cN l=true,μ:=fun k=>(l).length - k })]
theorem DM (l:List Int) (x:Int) (r0:Int):dp aI tE (BO l x) Try.f91 [.c (.fz .int (l)),.c (.int (x))] [] [.c (.int (r0))]=((fun (q1:Int)=>(fun (q0:Nat)=>l.length*(8:Nat)<=(140737488355328:Nat)->I64 x->∃ (s0:Nat),(l=l/\x=x/\(↑l.length:Int)=(↑q0:Int)/\(0:Int)=(↑s0:Int))/\(s0<=q0/\fx x (List.take s0 l) = -q1)/\∀ (s:Nat),s<=q0/\fx x (List.take s l) = -q1->((↑s:Int)<(↑q0:Int)->(0:Int)<=(↑s:Int)/\(↑s:Int)<(↑l.length:Int)/\∀ (x_1:Int),l[s]? = some x_1->I64 x_1->(x=x_1->(↑s:Int)=r0)/\(¬x=x_1->I64 ((↑s:Int)+q1)/\∃ (s':Nat),(l=l/\x=x/\(↑q0:Int)=(↑q0:Int)/\(↑s:Int)+q1=(↑s':Int))/\(s' <= q0/\fx x (List.take s' l) = -q1)/\q0 - s' < q0 - s))/\((↑q0:Int)<=(↑s:Int) -> -q1=r0)) l.length) (1:Int)):=by kernel_rfl
theorem Fo (l:List Int) (x:Int):Sat Try.prog (ao aI) 91 [.c (.fz .int (l)),.c (.int (x))] [] ⟨[],[.c (.int ((fx x l)))],none,false⟩:=by
 refine bd fI (BO l x) Try.func91 (by decide) (by kernel_rfl) ?_
 rw [DM]
 iterate 3 ((all_goals (repeat' (first | with_reducible apply cg | with_reducible refine cj ?_ | intro))); (all_goals try (first | exact cG | exact rfl | exact (Hb aO bt) | exact (Fk aO aO aO) | exact (IZ aO aO aO))); all_goals try first | refine ⟨‹Nat› + 1,?_⟩ | refine ⟨0,?_⟩)
theorem Fi (n:Int) (most:Int) (named:Bool) (r0:Bool):dp aI tE [] Try.f75 [.c (.int (n)),.c (.int (most)),.c (.bool (.atom (named)))] [] [.c (.bool (.atom (r0)))]=(I64 n->I64 most->(named=true->(decide ((1:Int)<=n) && decide (n<=most))=r0)/\(named=false->decide (n=(0:Int))=r0)):=by kernel_rfl
theorem Dv (n:Int) (most:Int) (named:Bool):Sat Try.prog (ao aI) 75 [.c (.int (n)),.c (.int (most)),.c (.bool (.atom (named)))] [] ⟨[],[.c (.bool (.atom ((mL n most named))))],none,false⟩:=by
 refine bd fI [] Try.func75 (by decide) (by kernel_rfl) ?_
 rw [Fi]
 grind [mL]
theorem AY (l:List Int) (r0:List UInt8) (r1:Int):dp aI tE (wi l) Try.f72 [.c (.fz .int (l))] [] [.c (.fz .u8 (r0)),.c (.int (r1))]=((fun (q1:Prop)=>(fun (q0:Nat)=>l.length*(8:Nat)<=(140737488355328:Nat)->(cN l=false->r0=[]/\(1:Int)=r1)/\(q1->∃ (s0:Nat),(l=l/\(↑l.length:Int)=(↑q0:Int)/\(0:Int)=(↑s0:Int)/\eI (List.take s0 l)=[])/\(s0<=q0/\q1)/\∀ (s:Nat),s<=q0/\q1->((↑s:Int)<(↑q0:Int)->(0:Int)<=(↑s:Int)/\(↑s:Int)<(↑l.length:Int)/\∀ (x:Int),l[s]? = some x->I64 x->(0:Int)<=x/\((eI (List.take s l)).length+(nP x.toNat).length)*(1:Nat)<=(140737488355328:Nat)/\I64 ((↑s:Int)+(1:Int))/\∃ (s':Nat),(l=l/\(↑q0:Int)=(↑q0:Int)/\(↑s:Int)+(1:Int)=(↑s':Int)/\eI (List.take s l)++nP x.toNat=eI (List.take s' l))/\(s' <= q0/\q1)/\q0 - s' < q0 - s)/\((↑q0:Int)<=(↑s:Int)->eI (List.take s l)=r0/\(0:Int)=r1))) l.length) (cN l=true)):=by kernel_rfl
theorem BR (l:List Int):Sat Try.prog (ao aI) 72 [.c (.fz .int (l))] [] ⟨[],[.c (.fz .u8 ((fT l))),.c (.int ((dF l)))],none,false⟩:=by
 refine bd fI (wi l) Try.func72 (by decide) (by kernel_rfl) ?_
 rw [AY]
 iterate 3 ((all_goals (repeat' (first | with_reducible apply cg | with_reducible refine cj ?_ | intro))); (all_goals try (first | exact cG | exact rfl | exact (xz aO).symm | exact (mi aO) | exact (tI aO) | exact (zu aO bt) | exact (yr aO) | exact (MT aO aO) | exact (Iv aO aO))); all_goals try first | refine ⟨‹Nat› + 1,?_⟩ | refine ⟨0,?_⟩)
theorem CI (s:State) (x:Int) (r0:Int):dp aI tE [] Try.f16 [.agg (cellsOf (.nm .state) s),.c (.int (x))] [] [.c (.int (r0))]=(I64 s.version->I64 s.next->I64 s.keep->I64 s.quota->s.sess.length*(32:Nat)<=(140737488355328:Nat)->s.opens.length*(16:Nat)<=(140737488355328:Nat)->s.snaps.length*(64:Nat)<=(140737488355328:Nat)->I64 x->I64 (aj Sess.client x s.sess)->aj Sess.client x s.sess=r0):=by kernel_rfl
theorem AF (s:State) (x:Int):Sat Try.prog (ao aI) 16 [.agg (cellsOf (.nm .state) s),.c (.int (x))] [] ⟨[],[.c (.int ((aj Sess.client x s.sess)))],none,false⟩:=by
 refine bd fI [] Try.func16 (by decide) (by kernel_rfl) ?_
 rw [CI]
 grind
theorem BL (s:State) (x:Int) (r0:Int):dp aI tE [] Try.f80 [.agg (cellsOf (.nm .state) s),.c (.int (x))] [] [.c (.int (r0))]=(I64 s.version->I64 s.next->I64 s.keep->I64 s.quota->s.sess.length*(32:Nat)<=(140737488355328:Nat)->s.opens.length*(16:Nat)<=(140737488355328:Nat)->s.snaps.length*(64:Nat)<=(140737488355328:Nat)->I64 x->I64 (aj Opn.set x s.opens)->aj Opn.set x s.opens=r0):=by kernel_rfl
theorem Bj (s:State) (x:Int):Sat Try.prog (ao aI) 80 [.agg (cellsOf (.nm .state) s),.c (.int (x))] [] ⟨[],[.c (.int ((aj Opn.set x s.opens)))],none,false⟩:=by
 refine bd fI [] Try.func80 (by decide) (by kernel_rfl) ?_
 rw [BL]
 grind
theorem BS (s:State) (x:Int) (r0:Int):dp aI tE [] Try.f50 [.agg (cellsOf (.nm .state) s),.c (.int (x))] [] [.c (.int (r0))]=(I64 s.version->I64 s.next->I64 s.keep->I64 s.quota->s.sess.length*(32:Nat)<=(140737488355328:Nat)->s.opens.length*(16:Nat)<=(140737488355328:Nat)->s.snaps.length*(64:Nat)<=(140737488355328:Nat)->I64 x->I64 (aj Snap.id x s.snaps)->aj Snap.id x s.snaps=r0):=by kernel_rfl
theorem zf (s:State) (x:Int):Sat Try.prog (ao aI) 50 [.agg (cellsOf (.nm .state) s),.c (.int (x))] [] ⟨[],[.c (.int ((aj Snap.id x s.snaps)))],none,false⟩:=by
 refine bd fI [] Try.func50 (by decide) (by kernel_rfl) ?_
 rw [BS]
 grind
def DN:cO:=(bF 50 (bE (ak (kT (.nm .state)) (ak (kC cI) aS)) aR fun (s,x,_) (_)=>⟨[],[.c (.int ((aj Snap.id x s.snaps)))],none,false⟩) (bF 80 (bE (ak (kT (.nm .state)) (ak (kC cI) aS)) aR fun (s,x,_) (_)=>⟨[],[.c (.int ((aj Opn.set x s.opens)))],none,false⟩) (bF 16 (bE (ak (kT (.nm .state)) (ak (kC cI) aS)) aR fun (s,x,_) (_)=>⟨[],[.c (.int ((aj Sess.client x s.sess)))],none,false⟩) (bF 72 (bE (ak (kC (cL .int)) aS) aR fun (l,_) (_)=>⟨[],[.c (.fz .u8 ((fT l))),.c (.int ((dF l)))],none,false⟩) (bF 75 (bE (ak (kC cI) (ak (kC cI) (ak (kC cB) aS))) aR fun (n,most,named,_) (_)=>⟨[],[.c (.bool (.atom ((mL n most named))))],none,false⟩) (bF 91 (bE (ak (kC (cL .int)) (ak (kC cI) aS)) aR fun (l,x,_) (_)=>⟨[],[.c (.int ((fx x l)))],none,false⟩) tE))))))
theorem p_:bk Try.prog (ao aI) DN:=(aB (aA (ag bP (ag (az aq) ay)) ax fun (s,x,_) (_) _=>zf s x ) (aB (aA (ag bP (ag (az aq) ay)) ax fun (s,x,_) (_) _=>Bj s x ) (aB (aA (ag bP (ag (az aq) ay)) ax fun (s,x,_) (_) _=>AF s x ) (aB (aA (ag (az b_) ay) ax fun (l,_) (_) _=>BR l ) (aB (aA (ag (az aq) (ag (az aq) (ag (az lr) ay))) ax fun (n,most,named,_) (_) _=>Dv n most named ) (aB (aA (ag (az b_) (ag (az aq) ay)) ax fun (l,x,_) (_) _=>Fo l x ) fI))))))
theorem vx (l:List Int) (x:Int) (r0:Bool):dp aI DN [] Try.f74 [.c (.fz .int (l)),.c (.int (x))] [] [.c (.bool (.atom (r0)))]=(l.length*(8:Nat)<=(140737488355328:Nat)->I64 x->I64 (fx x l)->decide ((0:Int)<=fx x l)=r0):=by kernel_rfl
theorem uu (l:List Int) (x:Int):Sat Try.prog (ao aI) 74 [.c (.fz .int (l)),.c (.int (x))] [] ⟨[],[.c (.bool (.atom ((l.contains x))))],none,false⟩:=by
 refine bd p_ [] Try.func74 (by decide) (by kernel_rfl) ?_
 rw [vx]
 intros; exact wo _ _
theorem ze (x:Snap) (v:Int) (t:Int) (r0:Bool):dp aI DN [] Try.f71 [.agg (cellsOf (.nm .snap) x),.c (.ptr 0 0),.c (.ptr 1 0)] [.box 3 ([.int (v)]),.box 3 ([.int (t)])] [.c (.bool (.atom (r0)))]=(I64 x.id->I64 x.set->x.chunks.length*(8:Nat)<=(140737488355328:Nat)->x.tag.b.length<=(140737488355328:Nat)->(fT x.chunks).length*(1:Nat)<=(140737488355328:Nat)->I64 (dF x.chunks)->(decide (dF x.chunks=(0:Int)) && bC x.set (1:Int) (8:Int) && (!x.held || decide ((2:Int)<=v)) && decide ((↑x.tag.b.length:Int)<=t))=r0):=by kernel_rfl
theorem CM (x:Snap) (v:Int) (t:Int):Sat Try.prog (ao aI) 71 [.agg (cellsOf (.nm .snap) x),.c (.ptr 0 0),.c (.ptr 1 0)] [.box 3 ([.int (v)]),.box 3 ([.int (t)])] ⟨[],[.c (.bool (.atom ((cq v t x))))],none,false⟩:=by
 refine bd p_ [] Try.func71 (by decide) (by kernel_rfl) ?_
 rw [ze]
 intros; rfl
def DZ:cO:=(bF 71 (bE (ak (kT (.nm .snap)) (ak (kC (bl 0 0)) (ak (kC (bl 1 0)) aS))) (au (bb 3 (ai cI a_)) (au (bb 3 (ai cI a_)) aR)) fun (x,_,_,_) ((v,_),(t,_),_)=>⟨[],[.c (.bool (.atom ((cq v t x))))],none,false⟩) (bF 74 (bE (ak (kC (cL .int)) (ak (kC cI) aS)) aR fun (l,x,_) (_)=>⟨[],[.c (.bool (.atom ((l.contains x))))],none,false⟩) DN))
theorem pM:bk Try.prog (ao aI) DZ:=(aB (aA (ag bP (ag (az aF) (ag (az aF) ay))) (ah (aE (ae aq aC)) (ah (aE (ae aq aC)) ax)) fun (x,_,_,_) ((v,_),(t,_),_) _=>CM x v t ) (aB (aA (ag (az b_) (ag (az aq) ay)) ax fun (l,x,_) (_) _=>uu l x ) p_))
def rf (l:List Snap) (v:Int) (t:Int):List (Nat × LI):=[(2,{ σ:=Nat,F:=fun k=>([(1,one (.fn 71 [] [(0,0),(1,0)])),(7,one (.fz (.nm .snap) (l))),(8,one (.int (l).length)),(9,one (.int k))],[.box 3 ([.int ((v))]),.box 3 ([.int ((t))])]),J:=fun k=>k<=l.length/\(l.take k).all ((cq v t))=true,μ:=fun k=>(l).length - k })]
theorem E_ (l:List Int) (c:Command) (r0:Bool):dp aI DZ [] Try.f73 [.c (.fz .int (l)),.c (.ptr 0 0)] [.box 29 (cellsOf (.nm .command) (c))] [.c (.bool (.atom (r0)))]=(l.length*(8:Nat)<=(140737488355328:Nat)->l.contains c.kind=r0):=by kernel_rfl
theorem DY (l:List Int) (c:Command):Sat Try.prog (ao aI) 73 [.c (.fz .int (l)),.c (.ptr 0 0)] [.box 29 (cellsOf (.nm .command) (c))] ⟨[],[.c (.bool (.atom ((l.contains c.kind))))],none,false⟩:=by
 refine bd pM [] Try.func73 (by decide) (by kernel_rfl) ?_
 rw [E_]
 grind
theorem xC (l:List Snap) (v:Int) (t:Int) (r0:Bool):dp aI DZ (rf l v t) Try.f70 [.c (.fz (.nm .snap) (l)),.c (.fn 71 [] [(0,0),(1,0)])] [.box 3 ([.int (v)]),.box 3 ([.int (t)])] [.c (.bool (.atom (r0)))]=((fun (q0:Nat)=>l.length*(64:Nat)<=(140737488355328:Nat)->∃ (s0:Nat),(l=l/\(↑l.length:Int)=(↑q0:Int)/\(0:Int)=(↑s0:Int)/\v=v/\t=t)/\(s0<=q0/\(List.take s0 l).all (cq v t)=true)/\∀ (s:Nat),s<=q0/\(List.take s l).all (cq v t)=true->((↑s:Int)<(↑q0:Int)->(0:Int)<=(↑s:Int)/\(↑s:Int)<(↑l.length:Int)/\∀ (x:Snap),l[s]? = some x->I64 x.id->I64 x.set->x.chunks.length*(8:Nat)<=(140737488355328:Nat)->x.tag.b.length<=(140737488355328:Nat)->(cq v t x=false->false=r0)/\(cq v t x=true->I64 ((↑s:Int)+(1:Int))/\∃ (s':Nat),(l=l/\(↑q0:Int)=(↑q0:Int)/\(↑s:Int)+(1:Int)=(↑s':Int)/\v=v/\t=t)/\(s' <= q0/\(List.take s' l).all (cq v t)=true)/\q0 - s' < q0 - s))/\((↑q0:Int)<=(↑s:Int)->true=r0)) l.length):=by kernel_rfl
theorem yT (l:List Snap) (v:Int) (t:Int):Sat Try.prog (ao aI) 70 [.c (.fz (.nm .snap) (l)),.c (.fn 71 [] [(0,0),(1,0)])] [.box 3 ([.int (v)]),.box 3 ([.int (t)])] ⟨[],[.c (.bool (.atom ((l.all ((cq v t))))))],none,false⟩:=by
 refine bd pM (rf l v t) Try.func70 (by decide) (by kernel_rfl) ?_
 rw [xC]
 iterate 3 ((all_goals (repeat' (first | with_reducible apply cg | with_reducible refine cj ?_ | intro))); (all_goals try (first | exact cG | exact (mN (p:=(cq v t)) aO aO aO) | exact (B_ (p:=(cq v t)) aO aO) | exact (zd (p:=(cq v t)) aO bt) | exact rfl)); all_goals try first | refine ⟨‹Nat› + 1,?_⟩ | refine ⟨0,?_⟩)
def DO:cO:=(bF 70 (bE (ak (kC (cL (.nm .snap))) (ak (kC (iK 71 [] [(0,0),(1,0)])) aS)) (au (bb 3 (ai cI a_)) (au (bb 3 (ai cI a_)) aR)) fun (l,_,_) ((v,_),(t,_),_)=>⟨[],[.c (.bool (.atom ((l.all ((cq v t))))))],none,false⟩) (bF 73 (bE (ak (kC (cL .int)) (ak (kC (bl 0 0)) aS)) (au (bb 29 (ra (.nm .command) a_)) aR) fun (l,_,_) ((c,_),_)=>⟨[],[.c (.bool (.atom ((l.contains c.kind))))],none,false⟩) DZ))
theorem qh:bk Try.prog (ao aI) DO:=(aB (aA (ag (az b_) (ag (az bQ) ay)) (ah (aE (ae aq aC)) (ah (aE (ae aq aC)) ax)) fun (l,_,_) ((v,_),(t,_),_) _=>yT l v t ) (aB (aA (ag (az b_) (ag (az aF) ay)) (ah (aE (dj aC)) ax) fun (l,_,_) ((c,_),_) _=>DY l c ) pM))
theorem JS (k:Int):(if k=12 then some (Span.mk 0 64) else if k=8 then some (Span.mk 2 3) else if k=6 then some (Span.mk 0 8) else none).getD (aG (.nm .span))=⟨(s_ k).1,(s_ k).2⟩:=by
 by_cases h1:k=12
 ·subst h1; rfl
 ·by_cases h2:k=8
  ·subst h2; rfl
  ·by_cases h3:k=6
   ·subst h3; rfl
   ·simp [s_,rZ,h1,h2,h3,aG]; rfl
theorem Jo (c:Command) (r0:Bool):dp aI DO [] Try.f46 [.agg (cellsOf (.nm .command) c)] [] [.c (.bool (.atom (r0)))]=((fun (q9:Int)=>(fun (q8:Int)=>(fun (q7:Prop)=>(fun (q6:Bool)=>(fun (q5:Bool)=>(fun (q4:Bool)=>(fun (q3:Prop)=>(fun (q2:Prop)=>(fun (q1:Prop)=>(fun (q0:den (Sh.nm NT.span))=>I64 q8->I64 c.client->I64 c.seq->I64 c.set->I64 c.id->I64 c.n->c.chunks.length*(8:Nat)<=(140737488355328:Nat)->c.text.b.length<=(140737488355328:Nat)->(q8=(3:Int)->((decide (q0.lo<=c.n) && decide (c.n<=q0.hi))=true->(cN c.chunks=true->(q7->q1)/\(¬q7->q2))/\(cN c.chunks=false->q2))/\((decide (q0.lo<=c.n) && decide (c.n<=q0.hi))=false->q2))/\(¬q8=(3:Int)->(q8=(11:Int)->((decide (q0.lo<=c.n) && decide (c.n<=q0.hi))=true->(q3->((↑c.text.b.length:Int)<=(16:Int)->q1)/\((16:Int)<(↑c.text.b.length:Int)->q2))/\(¬q3->q2))/\((decide (q0.lo<=c.n) && decide (c.n<=q0.hi))=false->q2))/\(¬q8=(11:Int)->((decide (q0.lo<=c.n) && decide (c.n<=q0.hi))=true->(q3->(q7->q1)/\(¬q7->q2))/\(¬q3->q2))/\((decide (q0.lo<=c.n) && decide (c.n<=q0.hi))=false->q2)))) (((fun (j:Int)=>if j=(12:Int) then some (Span.mk (0:Int) (64:Int)) else (fun (j:Int)=>if j=q9 then some (Span.mk (2:Int) (3:Int)) else (fun (j:Int)=>if j=(6:Int) then some (Span.mk (0:Int) q9) else (fun (_:Int)=>none) j) j) j) q8).getD (aG (Sh.nm NT.span)))) ((q6=true->(q5=true->(q4=true->mL c.id (1048576:Int) ([(5:Int),(7:Int),(9:Int),(10:Int),(11:Int)].contains q8)=r0)/\(q4=false->q2))/\(q5=false->q2))/\(q6=false->q2))) (false=r0)) ((↑c.chunks.length:Int)=(0:Int))) (mL c.set q9 ([(2:Int),(3:Int),(4:Int)].contains q8))) (mL c.seq (1048576:Int) ![(1:Int),q9].contains q8)) (mL c.client q9 ![q9].contains q8)) (c.text=Str.mk [])) c.kind) (8:Int)):=by kernel_rfl
theorem IY (c:Command):Sat Try.prog (ao aI) 46 [.agg (cellsOf (.nm .command) c)] [] ⟨[],[.c (.bool (.atom ((pb c))))],none,false⟩:=by
 refine bd qh [] Try.func46 (by decide) (by kernel_rfl) ?_
 rw [Jo]
 simp only [JS]
 (repeat' (first | with_reducible apply cg | with_reducible refine cj ?_ | intro))
 all_goals ((unfold pb Oe NQ; simp_all) <;> (intros; omega))
theorem EC (s:State) (v:Int) (r0:Bool):dp aI DO [] Try.f43 [.agg (cellsOf (.nm .state) s),.c (.int (v))] [] [.c (.bool (.atom (r0)))]=((fun (q1:Nat)=>(fun (q0:Int)=>I64 s.version->I64 s.next->I64 s.keep->I64 s.quota->s.sess.length*(32:Nat)<=(140737488355328:Nat)->s.opens.length*(16:Nat)<=(140737488355328:Nat)->q1*(64:Nat)<=(140737488355328:Nat)->I64 v->((↑q1:Int)<=(16:Int)->I64 q0/\q0<=(1048576:Int))/\((16:Int)<(↑q1:Int)\/aD Snap.id q0 (0:Int) s.snaps=false->false=r0)/\((↑q1:Int)<=(16:Int)/\aD Snap.id q0 (0:Int) s.snaps=true->(v<(3:Int)->s.snaps.all (cq v (0:Int))=r0)/\((3:Int)<=v->s.snaps.all (cq v (16:Int))=r0))) (s.next - (1:Int))) s.snaps.length):=by kernel_rfl
theorem Eg (s:State) (v:Int) (h0:1<=s.next/\s.next<=1048576):Sat Try.prog (ao aI) 43 [.agg (cellsOf (.nm .state) s),.c (.int (v))] [] ⟨[1<=s.next/\s.next<=1048576],[.c (.bool (.atom ((dE s v))))],none,false⟩:=by
 refine bd qh [] Try.func43 (by decide) (by kernel_rfl) ?_
 rw [EC]
 (repeat' (first | with_reducible apply cg | with_reducible refine cj ?_ | intro))
 all_goals (first | exact cG | ((simp only [dE,gX]; simp_all) <;> (intros; omega)) | (simp only [dE,gX]; grind))
def AU:cO:=(bF 43 (bE (ak (kT (.nm .state)) (ak (kC cI) aS)) aR fun (s,v,_) (_)=>⟨[1<=s.next/\s.next<=1048576],[.c (.bool (.atom ((dE s v))))],none,false⟩) (bF 46 (bE (ak (kT (.nm .command)) aS) aR fun (c,_) (_)=>⟨[],[.c (.bool (.atom ((pb c))))],none,false⟩) DO))
theorem mc:bk Try.prog (ao aI) AU:=(aB (aA (ag bP (ag (az aq) ay)) ax fun (s,v,_) (_) hp=>Eg s v (dM hp)) (aB (aA (ag bP ay) ax fun (c,_) (_) _=>IY c ) qh))
def cX (s:State) (at_:Nat) (k:Nat):Int:=(((s.snaps.drop (at_+1)).take k).filter fun x=>decide (x.set=(s.snaps.getD at_ (aG (.nm .snap))).set)).length
def lq (s:State) (at_:Int):Bool:=if at_<0\/(s.snaps.length:Int)<=at_ then false else decide (cX s at_.toNat s.snaps.length<s.keep)
def nch (l:List Snap):Nat:=(l.flatMap Snap.chunks).length
def uC (c:Int) (l:List Snap):Nat:=(l.flatMap Snap.chunks).count c
def br (id:Int) (l:List Snap):List Snap:=l.filter fun x=>!decide (x.id=id)
theorem gd {α:Type} {l:List α} {k:Nat} {d:α} (h:(k:Int)<l.length):l[k]? = some (l.getD k d):=by
 have hk:k<l.length:=by omega
 rw [List.getD_eq_getElem?_getD,List.getElem?_eq_getElem hk]; rfl
theorem FQ {l:List Int} {k:Nat} (h:aD id 64 0 (l.take k)=true) (hk:(k:Int)<l.length) (hb:bC (l.getD k (aG .int)) 1 64=true/\((k:Int)<=0\/l.getD ((k:Int) - 1).toNat (aG .int)<l.getD k (aG .int))):aD id 64 0 (l.take (k+1))=true:=by
 have h1:=y_ hb.1
 refine gH (key:=id) h (gd hk) ?_ h1.2
 by_cases h0:k=0
 ·subst h0; show (0:Int)<l.getD 0 (aG .int); omega
 ·rw [fF (by omega) (gd (d:=aG .int) (by omega))]
  have:=hb.2.resolve_left (by omega)
  rwa [show ((k:Int) - 1).toNat=k - 1 by omega] at this
theorem EL {l:List Int} {k:Nat} (hk:(k:Int)<l.length) (hb:bC (l.getD k (aG .int)) 1 64=false\/0<(k:Int)/\l.getD k (aG .int)<=l.getD ((k:Int) - 1).toNat (aG .int)) (h:aD id 64 0 (l.take k)=true):false=cN l:=by
 refine h_ (gd (d:=aG .int) hk) fun h2=>?_
 rcases hb with hb | ⟨h3,h4⟩
 ·have h5:=Ok hb
  have:=yM h
  omega
 ·rw [fF (by omega) (gd (d:=aG .int) (by omega))] at h2
  rw [show ((k:Int) - 1).toNat=k - 1 by omega] at h4
  have:=h2.1
  dsimp only [id] at this
  omega
theorem IG {s:State} {a:Nat}:0=cX s a 0:=by simp [cX]
theorem EM {s:State} {a k:Nat}:cX s a k<=(k:Int):=by
 have h1:=List.length_filter_le (fun x:Snap=>decide (x.set=(s.snaps.getD a (aG (.nm .snap))).set)) ((s.snaps.drop (a+1)).take k)
 have h2:((s.snaps.drop (a+1)).take k).length<=k:=by rw [List.length_take]; omega
 unfold cX; omega
theorem EG {s:State} {a k:Nat}:0<=cX s a k:=by unfold cX; omega
theorem Ij {s:State} {a k:Nat} (h:a+1+k<=s.snaps.length) (h2:s.snaps.length*64<=140737488355328):I64 (cX s a k+1):=by
 have h1:=EM (s:=s) (a:=a) (k:=k)
 have h0:=EG (s:=s) (a:=a) (k:=k)
 constructor <;> omega
theorem G_ {s:State} {a k:Nat} {x:Snap} (hx:(s.snaps.drop (a+1))[k]? = some x) (h:x.set=(s.snaps.getD a (aG (.nm .snap))).set):cX s a k+1=cX s a (k+1):=by
 unfold cX
 rw [aL hx,List.filter_append,List.length_append]
 simp [h]
theorem Ip {s:State} {a k:Nat} {x:Snap} (hx:(s.snaps.drop (a+1))[k]? = some x) (h:¬ x.set=(s.snaps.getD a (aG (.nm .snap))).set):cX s a k=cX s a (k+1):=by
 unfold cX
 rw [aL hx,List.filter_append,List.length_append]
 rw [show List.filter (fun x:Snap=>decide (x.set=(s.snaps.getD a (aG (.nm .snap))).set)) [x]=[] by simp only [List.filter_cons,h,decide_false,List.filter_nil]; rfl]
 simp
theorem AG {s:State} {a:Int} {k:Nat} (h0:0<=a) (ha:a<s.snaps.length) (h:(s.snaps.length:Int)<=a+1+k):decide (cX s a.toNat k<s.keep)=lq s a:=by
 unfold lq
 rw [if_neg (by omega)]
 have e:∀ m:Nat,(s.snaps.length:Int)<=a+1+m->cX s a.toNat m=cX s a.toNat s.snaps.length:=fun m hm=>by
  unfold cX
  rw [List.take_of_length_le (by rw [List.length_drop]; omega),List.take_of_length_le (by rw [List.length_drop]; omega)]
 rw [e k h]
theorem zi {s:State} {a:Int} (h:a<0\/(s.snaps.length:Int)<=a):false=lq s a:=by unfold lq; rw [if_pos h]
theorem KC {id:Int} {l:List Snap} {k:Nat} {x y:Snap} (h:¬ x.id=id) (hx:l[k]? = some x) (hy:l[k]? = some y):br id (l.take k)++[y]=br id (l.take (k+1)):=by
 rw [hx] at hy; cases hy
 unfold br; rw [aL hx,List.filter_append]; simp [h]
theorem KF {id:Int} {l:List Snap} {k:Nat} {x:Snap} (hx:l[k]? = some x) (h:x.id=id):br id (l.take k)=br id (l.take (k+1)):=by
 unfold br; rw [aL hx,List.filter_append]; simp [h]
theorem Ik {id:Int} {l:List Snap} {k:Nat} (h:(l.length:Int)<=k):br id (l.take k)=br id l:=by rw [List.take_of_length_le (by omega)]
theorem Je {id:Int} {l:List Snap} {k:Nat} {x:Snap} (h:(k:Int)<l.length) (hl:l.length*64<=140737488355328):((br id (l.take k)).length+[x].length)*64<=140737488355328:=by
 have h1:=List.length_filter_le (fun x:Snap=>!decide (x.id=id)) (l.take k)
 rw [List.length_take] at h1
 unfold br
 simp only [List.length_cons,List.length_nil]
 omega
def GU (l:List Int):List (Nat × LI):=[(2,{ σ:=Nat,F:=fun k=>([(0,one (.fz .int (l))),(3,one (.int k))],[]),J:=fun k=>k<=l.length/\aD id 64 0 (l.take k)=true,μ:=fun k=>l.length - k })]
def rX (st:State) (x:Int):List (Nat × LI):=[(2,{ σ:=Nat,F:=fun k=>([(1,one (.int (x))),(2,one (.ptr 0 0)),(5,one (.int k))],[.box 26 (cellsOf (.nm .state) ((st)))]),J:=fun k=>k<=st.opens.length/\aj Opn.set x (st.opens.take k) = -1,μ:=fun k=>st.opens.length - k })]
def Gj (st:State) (at_:Int):List (Nat × LI):=[(5,{ σ:=Nat,F:=fun k=>([(1,one (.int (at_))),(2,one (.ptr 0 0)),(5,one (.int (cX st at_.toNat k))),(21,one (.fz (.nm .snap) (st.snaps.drop (at_+1).toNat))),(22,one (.int (st.snaps.drop (at_+1).toNat).length)),(23,one (.int k))],[.box 26 (cellsOf (.nm .state) ((st)))]),J:=fun k=>at_.toNat+1+k<=st.snaps.length/\0<=at_,μ:=fun k=>st.snaps.length - k })]
theorem Ha (l:List Int) (r0:Bool):dp aI AU (GU l) Try.f34 [.c (.fz .int (l))] [] [.c (.bool (.atom (r0)))]=((fun (q4:Int)=>(fun (q3:Int)=>(fun (q2:den Sh.int)=>(fun (q1:Int)=>(fun (q0:Int)=>l.length*(8:Nat)<=(140737488355328:Nat)->∃ (s0:Nat),(l=l/\q1=(↑s0:Int))/\(s0<=l.length/\aD id q4 q1 (List.take s0 l)=true)/\∀ (s:Nat),(fun (q7:den Sh.int)=>(fun (q6:Int)=>(fun (q5:Prop)=>s<=l.length/\aD id q4 q1 (List.take s l)=true->(q6<q3->q1<=q6/\q6<q3/\(q5->q1<=q6/\q6<q3)/\(q5->I64 (q6 - q0))/\(q5->q1<=q6 - q0/\q6 - q0<q3)/\(I64 q7->(q5->I64 q7)->(q5->I64 (l.getD (q6 - q0).toNat q2))->(bC q7 q0 q4=false\/q1<q6/\q7<=l.getD (q6 - q0).toNat q2->false=r0)/\(bC q7 q0 q4=true/\(q6<=q1\/l.getD (q6 - q0).toNat q2<q7)->I64 (q6+q0)/\∃ (s':Nat),(l=l/\q6+q0=(↑s':Int))/\(s' <= l.length/\aD id q4 q1 (List.take s' l)=true)/\l.length - s' < l.length - s)))/\(q3<=q6->(decide (q0<=q3) && decide (q3<=(8:Int)))=r0)) (bC q7 q0 q4=true/\q1<q6)) (↑s:Int)) (l.getD s q2)) (1:Int)) (0:Int)) (aG Sh.int)) (↑l.length:Int)) (64:Int)):=by kernel_rfl
theorem Hl (l:List Int):Sat Try.prog (ao aI) 34 [.c (.fz .int (l))] [] ⟨[],[.c (.bool (.atom ((cN l))))],none,false⟩:=by
 refine bd mc (GU l) Try.func34 (by decide) (by kernel_rfl) ?_
 rw [Ha]
 iterate 3 ((all_goals (repeat' (first | with_reducible apply cg | with_reducible refine cj ?_ | intro))); (all_goals try (first | exact cG | exact rfl | exact (FQ aO bt (And.intro aO (by assumption))) | exact (EL bt (by assumption) aO) | exact (yb aO bt))); all_goals try first | refine ⟨‹Nat› + 1,?_⟩ | refine ⟨0,?_⟩)
theorem xR (st:State) (x:Int) (r0:Int):dp aI AU (rX st x) Try.f11 [.agg (cellsOf (.nm .state) st),.c (.int (x))] [] [.c (.int (r0))]=((fun (q2:Int)=>(fun (q1:List Opn)=>(fun (q0:Prop)=>I64 st.version->I64 st.next->I64 st.keep->I64 st.quota->st.sess.length*(32:Nat)<=(140737488355328:Nat)->q1.length*(16:Nat)<=(140737488355328:Nat)->st.snaps.length*(64:Nat)<=(140737488355328:Nat)->I64 x->∃ (s0:Nat),(x=x/\(0:Int)=(↑s0:Int)/\q0)/\(s0<=q1.length/\aj Opn.set x (List.take s0 q1) = -q2)/\∀ (s:Nat),s<=q1.length/\aj Opn.set x (List.take s q1) = -q2->((↑s:Int)<(↑q1.length:Int)->(0:Int)<=(↑s:Int)/\(↑s:Int)<(↑q1.length:Int)/\∀ (x_1:Opn),q1[s]? = some x_1->I64 x_1.set->I64 x_1.client->(x_1.set=x->(↑s:Int)=r0)/\(¬x_1.set=x->I64 ((↑s:Int)+q2)/\∃ (s':Nat),(x=x/\(↑s:Int)+q2=(↑s':Int)/\q0)/\(s' <= q1.length/\aj Opn.set x (List.take s' q1) = -q2)/\q1.length - s' < q1.length - s))/\((↑q1.length:Int)<=(↑s:Int) -> -q2=r0)) (st.version=st.version/\st.next=st.next/\st.keep=st.keep/\st.quota=st.quota/\st.sess=st.sess/\q1=q1/\st.snaps=st.snaps)) st.opens) (1:Int)):=by kernel_rfl
theorem xq (st:State) (x:Int):Sat Try.prog (ao aI) 11 [.agg (cellsOf (.nm .state) st),.c (.int (x))] [] ⟨[],[.c (.int ((aj Opn.set x st.opens)))],none,false⟩:=by
 refine bd mc (rX st x) Try.func11 (by decide) (by kernel_rfl) ?_
 rw [xR]
 iterate 3 ((all_goals (repeat' (first | with_reducible apply cg | with_reducible refine cj ?_ | intro))); (all_goals try (first | exact cG | exact (lX (key:=Opn.set)) | exact (il (key:=Opn.set) aO aO aO) | exact (jH (key:=Opn.set) aO bt) | exact (jM (key:=Opn.set) aO aO aO))); all_goals try first | refine ⟨‹Nat› + 1,?_⟩ | refine ⟨0,?_⟩)
theorem Jr (st:State) (at_:Int) (r0:Bool):dp aI AU (Gj st at_) Try.f87 [.agg (cellsOf (.nm .state) st),.c (.int (at_))] [] [.c (.bool (.atom (r0)))]=((fun (q8:Int)=>(fun (q7:Nat)=>(fun (q6:den (Sh.nm NT.snap))=>(fun (q5:Int)=>(fun (q4:Prop)=>(fun (q3:Nat)=>(fun (q2:List Snap)=>(fun (q1:Nat)=>(fun (q0:Prop)=>I64 st.version->I64 st.next->I64 st.keep->I64 st.quota->st.sess.length*(32:Nat)<=q7->st.opens.length*(16:Nat)<=q7->q2.length*(64:Nat)<=q7->I64 at_->(at_<q8\/(↑q2.length:Int)<=at_->false=r0)/\(q4/\at_<(↑q2.length:Int)->I64 (at_+q5)/\q8<=at_+q5/\at_+q5<=(↑q2.length:Int)/\∃ (s0:Nat),(fun (q13:Nat)=>(fun (q12:Nat)=>(fun (q11:den (Sh.nm NT.snap))=>(fun (q10:List (den (Sh.nm NT.snap)))=>(fun (q9:Int)=>(at_=at_/\q8=cX st q3 s0/\q10=q10/\(↑q10.length:Int)=q9/\q8=(↑s0:Int)/\q0)/\(q13+s0<=q12/\q4)/\∀ (s:Nat),(fun (q15:Int)=>(fun (q14:Int)=>q13+s<=q12/\q4->((↑s:Int)<q9->q8<=(↑s:Int)/\(↑s:Int)<(↑q10.length:Int)/\∀ (x:Snap),q10[s]? = some x->I64 x.id->I64 x.set->x.chunks.length*(8:Nat)<=q7->x.tag.b.length<=q7->q4/\at_<(↑q2.length:Int)/\(I64 q11.id->I64 q11.set->q11.chunks.length*(8:Nat)<=q7->q11.tag.b.length<=q7->(x.set=q11.set->I64 (q15+q5)/\I64 q14/\∃ (s':Nat),(at_=at_/\q15+q5=cX st q3 s' /\ q10=q10/\q9=q9/\q14=(↑s':Int)/\q0)/\(q13+s' <= q12/\q4)/\q12 - s' < q12 - s)/\(¬x.set=q11.set->I64 q14/\∃ (s':Nat),(at_=at_/\q15=cX st q3 s' /\ q10=q10/\q9=q9/\q14=(↑s':Int)/\q0)/\(q13+s' <= q12/\q4)/\q12 - s' < q12 - s)))/\(q9<=(↑s:Int)->decide (q15<st.keep)=r0)) ((↑s:Int)+q5)) (cX st q3 s)) (↑(List.drop q1 q2).length:Int)) (List.drop q1 q2)) (q2.getD q3 q6)) q2.length) (q3+(1:Nat)))) (st.version=st.version/\st.next=st.next/\st.keep=st.keep/\st.quota=st.quota/\st.sess=st.sess/\st.opens=st.opens/\q2=q2)) (at_+q5).toNat) st.snaps) at_.toNat) (q8<=at_)) (1:Int)) (aG (Sh.nm NT.snap))) (140737488355328:Nat)) (0:Int)):=by kernel_rfl
theorem GZ (st:State) (at_:Int):Sat Try.prog (ao aI) 87 [.agg (cellsOf (.nm .state) st),.c (.int (at_))] [] ⟨[],[.c (.bool (.atom ((lq st at_))))],none,false⟩:=by
 refine bd mc (Gj st at_) Try.func87 (by decide) (by kernel_rfl) ?_
 rw [Jr]
 iterate 3 ((all_goals (repeat' (first | with_reducible apply cg | with_reducible refine cj ?_ | intro))); (all_goals try (first | exact cG | exact IG | exact (zi (by assumption)) | exact (Ij bt bt) | exact (AG bt bt (by rw [List.length_drop] at *; omega)) | exact (G_ (by rw [show (at_+1).toNat=at_.toNat+1 by omega] at *; assumption) aO) | exact (by have:=‹_<((List.length (List.drop _ _):Nat):Int)›; rw [List.length_drop] at this; omega) | exact (Ip (by rw [show (at_+1).toNat=at_.toNat+1 by omega] at *; assumption) aO))); all_goals try first | refine ⟨‹Nat› + 1,?_⟩ | refine ⟨0,?_⟩)
def uh:cO:=(bF 87 (bE (ak (kT (.nm .state)) (ak (kC cI) aS)) aR fun (st,at_,_) (_)=>⟨[],[.c (.bool (.atom ((lq st at_))))],none,false⟩) (bF 11 (bE (ak (kT (.nm .state)) (ak (kC cI) aS)) aR fun (st,x,_) (_)=>⟨[],[.c (.int ((aj Opn.set x st.opens)))],none,false⟩) (bF 34 (bE (ak (kC (cL .int)) aS) aR fun (l,_) (_)=>⟨[],[.c (.bool (.atom ((cN l))))],none,false⟩) AU)))
theorem fN:bk Try.prog (ao aI) uh:=(aB (aA (ag bP (ag (az aq) ay)) ax fun (st,at_,_) (_) _=>GZ st at_ ) (aB (aA (ag bP (ag (az aq) ay)) ax fun (st,x,_) (_) _=>xq st x ) (aB (aA (ag (az b_) ay) ax fun (l,_) (_) _=>Hl l ) mc)))
theorem Hn {α:Type} {l:List α} {k:Nat} {d:α} (h:(k:Int)<l.length):l.set k (l.getD k d)=l:=by
 have hk:k<l.length:=by omega
 rw [List.getD_eq_getElem?_getD,List.getElem?_eq_getElem hk]; exact List.set_getElem_self hk
theorem Hp {l:List Snap} {k:Nat} {x:Snap} (h:(k:Int)<l.length) (hl:l.length*64<=140737488355328):((l.take k).length+[x].length)*64<=140737488355328:=by
 rw [List.length_take]; simp only [List.length_cons,List.length_nil]; omega
def Cu (l:List Snap) (k:Nat):Nat:=((List.range k).filter fun (i:Nat)=>decide (0<uC ((i:Int)+1) l)).length
def ej (l:List Snap):Nat:=Cu l 64
def AK (st:State):List (Nat × LI):=[(5,{ σ:=Nat,F:=fun k=>([(1,one (.ptr 0 0)),(2,one (.ptr 1 0)),(18,one (.int st.snaps.length)),(19,one (.int k))],[.box 26 ([.int ((st.version)),.int ((st.next)),.int ((st.keep)),.int ((st.quota)),.own 2,.own 3,.own 4]),.box 26 ([.int ((0)),.int ((0)),.int ((0)),.int ((0)),.em true,.em true,.em true]),.row 46 (.nm .sess) ((st.sess)),.row 42 (.nm .opn) ((st.opens)),.row 44 (.nm .snap) ((st.snaps))]),J:=fun k=>k<=st.snaps.length,μ:=fun k=>st.snaps.length - k })]
def Bi (st:State):List (Nat × LI):=[(6,{ σ:=Nat,F:=fun k=>([(1,one (.ptr 0 0)),(2,one (.ptr 1 0)),(3,one (.ptr 2 0)),(4,one (.int k))],[.box 26 (cellsOf (.nm .state) ((st))),.box 26 ([.int ((0)),.int ((0)),.int ((0)),.int ((0)),.em true,.em true,.em true]),.box 26 ([.int ((st.version)),.int ((st.next)),.int ((st.keep)),.int ((st.quota)),.own 3,.own 4,.own 5]),.row 46 (.nm .sess) ((st.sess)),.row 42 (.nm .opn) ((st.opens)),.row 44 (.nm .snap) ((st.snaps.take k))]),J:=fun k=>k<=st.snaps.length,μ:=fun k=>st.snaps.length - k })]
theorem II (st:State) (v:Int) (r0:Int):dp aI uh [] Try.f26 [.agg (cellsOf (.nm .state) st),.c (.int (v))] [] [.c (.int (r0))]=((fun (q12:Int)=>(fun (q11:Bool)=>(fun (q10:Bool)=>(fun (q9:Int)=>(fun (q8:Int)=>(fun (q7:Int)=>(fun (q6:Int)=>(fun (q5:Int)=>(fun (q4:Int)=>(fun (q3:Prop)=>(fun (q2:Prop)=>(fun (q1:Prop)=>(fun (q0:Prop)=>I64 st.version->I64 q12->I64 st.keep->I64 q8->st.sess.length*(32:Nat)<=(140737488355328:Nat)->st.opens.length*(16:Nat)<=(140737488355328:Nat)->st.snaps.length*(64:Nat)<=(140737488355328:Nat)->I64 v->(bC v q6 q9=false->q6=r0)/\(bC v q6 q9=true->(v<q9->q5<=q7/\q5<=q7/\(((q0/\bC q8 q4 q4=true)/\q1)/\q2->q6<=q12/\q12<=q7)/\((((q3\/bC q8 q4 q4=false)\/aD Sess.client q5 q4 st.sess=false\/q11=false)\/aD Opn.set q5 q4 st.opens=false\/q10=false)\/dE st v=false->(6:Int)=r0)/\((((q0/\bC q8 q4 q4=true)/\q1)/\q2)/\dE st v=true->q4=r0))/\(q9<=v->q5<=q7/\q5<=q7/\(((q0/\bC q8 q4 (64:Int)=true)/\q1)/\q2->q6<=q12/\q12<=q7)/\((((q3\/bC q8 q4 (64:Int)=false)\/aD Sess.client q5 q4 st.sess=false\/q11=false)\/aD Opn.set q5 q4 st.opens=false\/q10=false)\/dE st v=false->(6:Int)=r0)/\((((q0/\bC q8 q4 (64:Int)=true)/\q1)/\q2)/\dE st v=true->q4=r0)))) ((bC st.version q6 q9=true/\bC q12 q6 q7=true)/\bC st.keep q4 q5=true)) (aD Sess.client q5 q4 st.sess=true/\q11=true)) (aD Opn.set q5 q4 st.opens=true/\q10=true)) ((bC st.version q6 q9=false\/bC q12 q6 q7=false)\/bC st.keep q4 q5=false)) (0:Int)) (8:Int)) (1:Int)) (1048576:Int)) st.quota) (3:Int)) (st.opens.all bf)) (st.sess.all bg)) st.next):=by kernel_rfl
theorem Hf (st:State) (v:Int):Sat Try.prog (ao aI) 26 [.agg (cellsOf (.nm .state) st),.c (.int (v))] [] ⟨[],[.c (.int ((bK st v)))],none,false⟩:=by
 refine bd fN [] Try.func26 (by decide) (by kernel_rfl) ?_
 rw [II]
 (repeat' (first | with_reducible apply cg | with_reducible refine cj ?_ | intro))
 all_goals (first | exact cG | exact (y_ (a:=1) (b:=1048576) aO).1 | exact (y_ (a:=1) (b:=1048576) aO).2 | (simp only [bK,dm,lA,gB]; grind))
theorem FV (c:Command) (v:Int) (r0:Int):dp aI uh [] Try.f27 [.agg (cellsOf (.nm .command) c),.c (.int (v))] [] [.c (.int (r0))]=((fun (q0:Int)=>I64 c.kind->I64 c.client->I64 c.seq->I64 c.set->I64 c.id->I64 c.n->c.chunks.length*(8:Nat)<=(140737488355328:Nat)->c.text.b.length<=(140737488355328:Nat)->I64 v->I64 q0->(ku v=false\/q0=(0:Int)->(1:Int)=r0)/\(ku v=true/\¬q0=(0:Int)->(v<q0->(10:Int)=r0)/\(q0<=v->(pb c=false->(1:Int)=r0)/\(pb c=true->(0:Int)=r0)))) (ph c.kind)):=by kernel_rfl
theorem wR (c:Command) (v:Int):Sat Try.prog (ao aI) 27 [.agg (cellsOf (.nm .command) c),.c (.int (v))] [] ⟨[],[.c (.int ((cC c v)))],none,false⟩:=by
 refine bd fN [] Try.func27 (by decide) (by kernel_rfl) ?_
 rw [FV]
 rw [show ku v=bC v 1 3 from rfl]
 (repeat' (first | with_reducible apply cg | with_reducible refine cj ?_ | intro))
 all_goals (first | exact cG | (simp only [cC]; grind))
theorem FH (st:State) (r0:Int) (r1:Int) (r2:Int) (r3:Int) (r4:List Sess) (r5:List Opn) (r6:List Snap):lF aI uh (AK st) Try.f13 [.agg (cellsOf (.nm .state) st)] [] [.agg ([.int (r0),.int (r1),.int (r2),.int (r3),.own 0,.own 1,.own 2])] [.row 46 (.nm .sess) (r4),.row 42 (.nm .opn) (r5),.row 44 (.nm .snap) (r6)]=((fun (q4:Int)=>(fun (q3:Nat)=>(fun (q2:den (Sh.nm NT.snap))=>(fun (q1:Prop)=>(fun (q0:List Snap)=>I64 q4->I64 st.next->I64 st.keep->I64 st.quota->st.sess.length*(32:Nat)<=q3->st.opens.length*(16:Nat)<=q3->q0.length*(64:Nat)<=q3->∃ (s0:Nat),(fun (q5:Nat)=>((↑q0.length:Int)=(↑q5:Int)/\(0:Int)=(↑s0:Int)/\q4=q4/\st.next=st.next/\st.keep=st.keep/\st.quota=st.quota/\q1/\q1/\q1/\q1/\st.sess=st.sess/\st.opens=st.opens/\q0=q0)/\s0<=q5/\∀ (s:Nat),(fun (q7:den (Sh.nm NT.snap))=>(fun (q6:Prop)=>s<=q5->((↑s:Int)<(↑q5:Int)->(0:Int)<=(↑s:Int)/\(↑s:Int)<(↑q0.length:Int)/\(0:Int)<=(↑s:Int)/\(↑s:Int)<(↑q0.length:Int)/\(I64 q7.id->I64 q7.set->q6->q7.tag.b.length<=q3->q6->I64 q7.id->I64 q7.set->q6->q7.tag.b.length<=q3->I64 ((↑s:Int)+(1:Int))/\∃ (s':Nat),((↑q5:Int)=(↑q5:Int)/\(↑s:Int)+(1:Int)=(↑s':Int)/\q4=q4/\st.next=st.next/\st.keep=st.keep/\st.quota=st.quota/\q1/\q1/\q1/\q1/\st.sess=st.sess/\st.opens=st.opens/\q0.set s q7=q0)/\s' <= q5/\q5 - s' < q5 - s))/\((↑q5:Int)<=(↑s:Int)->q4=r0/\st.next=r1/\st.keep=r2/\st.quota=r3/\st.sess=r4/\st.opens=r5/\q0=r6)) (q7.chunks.length*(8:Nat)<=q3)) (q0.getD s q2)) q0.length) st.snaps) ((0:Int)=(0:Int))) (aG (Sh.nm NT.snap))) (140737488355328:Nat)) st.version):=by kernel_rfl
theorem Ee (st:State):Sat Try.prog (ao aI) 13 [.agg (cellsOf (.nm .state) st)] [] ⟨[],[.agg ([.int ((st.version)),.int ((st.next)),.int ((st.keep)),.int ((st.quota)),.own 0,.own 1,.own 2])],some ([.row 46 (.nm .sess) ((st.sess)),.row 42 (.nm .opn) ((st.opens)),.row 44 (.nm .snap) ((st.snaps))]),true⟩:=by
 refine di fN (AK st) Try.func13 (by decide) (by kernel_rfl) ?_
 rw [FH]
 iterate 3 ((all_goals (repeat' (first | with_reducible apply cg | with_reducible refine cj ?_ | intro))); (all_goals try (first | exact cG | exact rfl | exact (Hn bt))); all_goals try first | refine ⟨‹Nat› + 1,?_⟩ | refine ⟨0,?_⟩)
theorem FI (st:State) (r0:Int) (r1:Int) (r2:Int) (r3:Int) (r4:List Sess) (r5:List Opn) (r6:List Snap):lF aI uh (Bi st) Try.f7 [.agg (cellsOf (.nm .state) st)] [] [.agg ([.int (r0),.int (r1),.int (r2),.int (r3),.own 0,.own 1,.own 2])] [.row 46 (.nm .sess) (r4),.row 42 (.nm .opn) (r5),.row 44 (.nm .snap) (r6)]=((fun (q8:Prop)=>(fun (q7:Prop)=>(fun (q6:Prop)=>(fun (q5:Nat)=>(fun (q4:Prop)=>(fun (q3:Prop)=>(fun (q2:Int)=>(fun (q1:List Snap)=>(fun (q0:Prop)=>I64 q2->I64 st.next->I64 st.keep->I64 st.quota->st.sess.length*(32:Nat)<=q5->st.opens.length*(16:Nat)<=q5->q1.length*(64:Nat)<=q5->st.sess.length*(32:Nat)<=q5/\st.opens.length*(16:Nat)<=q5/\∃ (s0:Nat),((0:Int)=(↑s0:Int)/\q2=q2/\q7/\q6/\q3/\q8/\q4/\q1=q1/\q0/\q0/\q0/\q0/\q2=q2/\q7/\q6/\q3/\q8/\q4/\List.take s0 q1=[])/\s0<=q1.length/\∀ (s:Nat),s<=q1.length->((↑s:Int)<(↑q1.length:Int)->(0:Int)<=(↑s:Int)/\(↑s:Int)<(↑q1.length:Int)/\∀ (x:Snap),(fun (q9:Prop)=>q1[s]? = some x->I64 x.id->I64 x.set->q9->x.tag.b.length<=q5->q9/\((List.take s q1).length+[x].length)*(64:Nat)<=q5/\I64 ((↑s:Int)+(1:Int))/\∃ (s':Nat),((↑s:Int)+(1:Int)=(↑s':Int)/\q2=q2/\q7/\q6/\q3/\q8/\q4/\q1=q1/\q0/\q0/\q0/\q0/\q2=q2/\q7/\q6/\q3/\q8/\q4/\List.take s q1++[x]=List.take s' q1)/\s' <= q1.length/\q1.length - s' < q1.length - s) (x.chunks.length*(8:Nat)<=q5))/\((↑q1.length:Int)<=(↑s:Int)->q2=r0/\st.next=r1/\st.keep=r2/\st.quota=r3/\st.sess=r4/\st.opens=r5/\List.take s q1=r6)) ((0:Int)=(0:Int))) st.snaps) st.version) (st.quota=st.quota)) (st.opens=st.opens)) (140737488355328:Nat)) (st.keep=st.keep)) (st.next=st.next)) (st.sess=st.sess)):=by kernel_rfl
theorem FG (st:State):Sat Try.prog (ao aI) 7 [.agg (cellsOf (.nm .state) st)] [] ⟨[],[.agg ([.int ((st.version)),.int ((st.next)),.int ((st.keep)),.int ((st.quota)),.own 0,.own 1,.own 2])],some ([.row 46 (.nm .sess) ((st.sess)),.row 42 (.nm .opn) ((st.opens)),.row 44 (.nm .snap) ((st.snaps))]),true⟩:=by
 refine di fN (Bi st) Try.func7 (by decide) (by kernel_rfl) ?_
 rw [FI]
 iterate 3 ((all_goals (repeat' (first | with_reducible apply cg | with_reducible refine cj ?_ | intro))); (all_goals try (first | exact cG | exact rfl | exact (aL aO).symm | exact (List.take_of_length_le bt) | exact (Hp bt bt))); all_goals try first | refine ⟨‹Nat› + 1,?_⟩ | refine ⟨0,?_⟩)
theorem xD (x:Snap) (n:Int) (v:Int) (r0:Bool):dp aI (EV uh) [] Try.f21 [.agg (cellsOf (.nm .snap) x),.c (.int (n)),.c (.int (v))] [] [.c (.bool (.atom (r0)))]=(I64 x.id->I64 x.set->x.chunks.length*(8:Nat)<=(140737488355328:Nat)->x.tag.b.length<=(140737488355328:Nat)->I64 n->I64 v->(cN x.chunks && bC x.id (1:Int) (fy n (1:Int)) && bC x.set (1:Int) (8:Int) && (!x.held || decide ((2:Int)<=v)) && decide ((↑x.tag.b.length:Int)<=(16:Int)) && (decide (x.tag=Str.mk []) || decide ((3:Int)<=v)))=r0):=by kernel_rfl
theorem xT (x:Snap) (n:Int) (v:Int):Sat Try.prog (ao aI) 21 [.agg (cellsOf (.nm .snap) x),.c (.int (n)),.c (.int (v))] [] ⟨[],[.c (.bool (.atom ((d_ n v x))))],none,false⟩:=by
 refine bd (wF fN) [] Try.func21 (by decide) (by kernel_rfl) ?_
 rw [xD]
 intros; rfl
theorem Eu (x:Snap) (y:Snap) (r0:Bool):dp aI uh [] Try.f33 [.agg (cellsOf (.nm .snap) x),.agg (cellsOf (.nm .snap) y)] [] [.c (.bool (.atom (r0)))]=(I64 x.id->I64 x.set->x.chunks.length*(8:Nat)<=(140737488355328:Nat)->x.tag.b.length<=(140737488355328:Nat)->I64 y.id->I64 y.set->y.chunks.length*(8:Nat)<=(140737488355328:Nat)->y.tag.b.length<=(140737488355328:Nat)->(decide (x.chunks=y.chunks) && decide (x.id=y.id) && decide (x.set=y.set) && x.held == y.held && decide (x.tag=y.tag))=r0):=by kernel_rfl
theorem Fe (x:Snap) (y:Snap):Sat Try.prog (ao aI) 33 [.agg (cellsOf (.nm .snap) x),.agg (cellsOf (.nm .snap) y)] [] ⟨[],[.c (.bool (.atom ((decide (x=y)))))],none,false⟩:=by
 refine bd fN [] Try.func33 (by decide) (by kernel_rfl) ?_
 rw [Eu]
 intros; cases x; cases y; simp only [Snap.mk.injEq]; grind
def oV:cO:=(bF 33 (bE (ak (kT (.nm .snap)) (ak (kT (.nm .snap)) aS)) aR fun (x,y,_) (_)=>⟨[],[.c (.bool (.atom ((decide (x=y)))))],none,false⟩) (bF 21 (bE (ak (kT (.nm .snap)) (ak (kC cI) (ak (kC cI) aS))) aR fun (x,n,v,_) (_)=>⟨[],[.c (.bool (.atom ((d_ n v x))))],none,false⟩) (bF 7 (bE (ak (kT (.nm .state)) aS) aR fun (st,_) (_)=>⟨[],[.agg ([.int ((st.version)),.int ((st.next)),.int ((st.keep)),.int ((st.quota)),.own 0,.own 1,.own 2])],some ([.row 46 (.nm .sess) ((st.sess)),.row 42 (.nm .opn) ((st.opens)),.row 44 (.nm .snap) ((st.snaps))]),true⟩) (bF 13 (bE (ak (kT (.nm .state)) aS) aR fun (st,_) (_)=>⟨[],[.agg ([.int ((st.version)),.int ((st.next)),.int ((st.keep)),.int ((st.quota)),.own 0,.own 1,.own 2])],some ([.row 46 (.nm .sess) ((st.sess)),.row 42 (.nm .opn) ((st.opens)),.row 44 (.nm .snap) ((st.snaps))]),true⟩) (bF 27 (bE (ak (kT (.nm .command)) (ak (kC cI) aS)) aR fun (c,v,_) (_)=>⟨[],[.c (.int ((cC c v)))],none,false⟩) (bF 26 (bE (ak (kT (.nm .state)) (ak (kC cI) aS)) aR fun (st,v,_) (_)=>⟨[],[.c (.int ((bK st v)))],none,false⟩) uh))))))
theorem gR:bk Try.prog (ao aI) oV:=(aB (aA (ag bP (ag bP ay)) ax fun (x,y,_) (_) _=>Fe x y ) (aB (aA (ag bP (ag (az aq) (ag (az aq) ay))) ax fun (x,n,v,_) (_) _=>xT x n v ) (aB (aA (ag bP ay) ax fun (st,_) (_) _=>FG st ) (aB (aA (ag bP ay) ax fun (st,_) (_) _=>Ee st ) (aB (aA (ag bP (ag (az aq) ay)) ax fun (c,v,_) (_) _=>wR c v ) (aB (aA (ag bP (ag (az aq) ay)) ax fun (st,v,_) (_) _=>Hf st v ) fN))))))
end Go.Proofs.Ytjmbgkmkinmlkaa
