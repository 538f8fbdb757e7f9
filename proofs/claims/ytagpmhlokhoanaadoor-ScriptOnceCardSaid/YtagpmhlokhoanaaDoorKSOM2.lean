/- What leads to the law, part 2. Conditions: each lemma's own. -/
import Derived.Laws.CopyRow
import Derived.MapFrom
import Derived.MapKept
import Derived.Test.YtagpmhlokhoanaaDoorKSOM1
set_option linter.unusedVariables false
set_option linter.unusedSimpArgs false
namespace Go.Proofs.YtagpmhlokhoanaaDoor
open Go.RowKit
def ln:List Value->Value
 | [v]=>v
 | l=>.tuple l.toArray
def Sat (P:Program) (shp:TypeId->Option Sh) (f:Nat) (args:List TV1) (H:AH) (r:SpecR):Prop:=
 (∃ fn,P.funcs[f]? = some fn/\(fn.name == "runtime.NumGoroutine")=false/\fn.body.isNone=false) /\
 ∀ (G:Gl) (ρ:List RE) (w:World) (vs:List Value),G.shp=shp->Rep G ρ H w->All2 (aO (cx G ρ w) ρ) args vs->mg P f vs.toArray w fun v w'=>∃ us,v=ln us/\match r.out with
  | none=>Kp [] w w' /\ All2 (aO (cx G ρ w') ρ) r.rs us
  | some H'=>∃ ρ',Rep G ρ' H' w' /\ Ext ρ w ρ' w' /\ (∀ (i g:Nat),ρ[i]? = some (.blk g)->ρ'[i]? = some (.blk g))/\All2 (aO (cx G ρ' w') ρ') r.rs us/\(r.keep=true->Kp [] w w' /\ ∀ (i:Nat) (rr:RE),ρ[i]? = some rr->ρ'[i]? = some rr)
def aS (P:Program) (shp:TypeId->Option Sh) (O:cZ):Prop:=∀ f args H r,O f args H=some r->(∀ p ∈ r.pre,p)->Sat P shp f args H r
theorem aj {i:Nat}:∀ {l:List Nat},aw i l=true↔i ∈ l
 | []=>by simp [aw]
 | j :: r=>by
  unfold aw
  cases hb:Nat.beq i j
  ·have:i≠j:=by rintro rfl; simp at hb
   simp [aj,this]
  ·have:i=j:=Nat.eq_of_beq_eq_true hb
   simp [this]
theorem cM {σ:List Nat}:∀ {l:List Nat},gm σ l=true↔∀ i ∈ l,i ∈ σ
 | []=>by simp [gm]
 | j :: r=>by simp [gm,aj,cM]
theorem ei {σ:List Nat}:∀ {l:List Nat},fU σ l=true↔∀ i ∈ l,i ∉ σ
 | []=>by simp [fU]
 | j :: r=>by
  simp only [fU,Bool.and_eq_true,ei,List.forall_mem_cons,Bool.not_eq_true',<- Bool.not_eq_true,aj]
theorem di:∀ {l:List Nat},dI l=true↔l.Nodup
 | []=>by simp [dI]
 | j :: r=>by
  simp only [dI,Bool.and_eq_true,di,List.nodup_cons,Bool.not_eq_true',<- Bool.not_eq_true,aj]
theorem cz {H:AH} {σ:List Nat}:∀ {l:List Nat},cw H σ l=true↔∀ i ∈ l,i<H.length/\∀ j ∈ (getO H i).ids,j ∈ σ
 | []=>by simp [cw]
 | j :: r=>by simp [cw,cz,cM,and_assoc]
theorem dA {i:Nat}:∀ {σ:List Nat},i ∈ σ->σ[posOf i σ]? = some i
 | [],h=>by simp at h
 | j :: r,h=>by
  unfold posOf
  cases hb:Nat.beq i j
  ·have hne:i≠j:=by rintro rfl; simp at hb
   have:i ∈ r:=by simpa [hne] using h
   simpa using dA this
  ·have:i=j:=Nat.eq_of_beq_eq_true hb
   simp [this]
def aL (ρ:List RE) (σ:List Nat):List RE:=σ.map fun i=>ρ.getD i .no
theorem nT {ρ:List RE} {σ:List Nat} {j i:Nat} (h:σ[j]? = some i):(aL ρ σ)[j]? = some (ρ.getD i .no):=by simp [aL,h]
theorem getD_some {ρ:List RE} {i:Nat} {r:RE} (h:ρ[i]? = some r):ρ.getD i .no=r:=by rw [List.getD_eq_getElem?_getD,h]; rfl
theorem cd {ρ:List RE} {σ:List Nat} {i:Nat} {r:RE} (h:i ∈ σ) (hr:ρ[i]? = some r):(aL ρ σ)[posOf i σ]? = some r:=by rw [nT (dA h),getD_some hr]
theorem bk {ρ:List RE} {σ:List Nat} {j:Nat} {r:RE} (h:(aL ρ σ)[j]? = some r) (hne:r ≠ .no):ρ[σ.getD j 0]? = some r:=by
 simp only [aL,List.getElem?_map,Option.map_eq_some_iff] at h
 obtain ⟨i,hi,rfl⟩:=h
 rw [List.getD_eq_getElem?_getD,hi,Option.getD_some]
 cases hρ:ρ[i]? with
 | none=>rw [List.getD_eq_getElem?_getD,hρ] at hne; exact absurd rfl hne
 | some r'=>rw [getD_some hρ]
theorem cO {ρ:List RE} {σ:List Nat} {b:Nat} (h:live (aL ρ σ) b):live ρ b:=by
 obtain ⟨j,r,h1,h2⟩:=h
 exact ⟨_,r,bk h1 (by rintro rfl; cases h2),h2⟩
theorem fD {ρ ρ':List RE} {f:Nat->Nat}:∀ {l:List (Nat × Nat)} {vs:List Value},(∀ i ∈ l.map (·.1),∀ g,ρ[i]? = some (.blk g)->ρ'[f i]? = some (.blk g))->All2 (ck ρ) l vs->All2 (ck ρ') (sk f l) vs
 | [],_,_,h=>by cases h; exact .nil
 | (i,o) :: r,_,hf,h=>by
  cases h with
  | cons h1 h2=>
   obtain ⟨g,hg,e⟩:=h1
   exact .cons ⟨g,hf i (by simp) g hg,e⟩ (fD (fun j hj=>hf j (by simp at hj ⊢; exact .inr hj)) h2)
theorem Rd.dN {c c':Cx} {ρ ρ':List RE} {f:Nat->Nat} {a:AV} {v:Value} (hp:a.plain=true->Pd c a v->Pd c' a v) (hfe:∀ s x o,a = .fe s x o->Rd c' ρ' a v) (hf:∀ i ∈ a.ids,∀ r,ρ[i]? = some r->r ≠ .no->ρ'[f i]? = some r) (h:Rd c ρ a v):Rd c' ρ' (a.dN f) v:=by
 cases a with
 | own id=>
  rcases h with ⟨g,cap,len,z,h,e⟩ | ⟨h,e⟩
  ·exact .inl ⟨g,cap,len,z,hf id (by simp [AV.ids]) _ h (by simp),e⟩
  ·exact .inr ⟨hf id (by simp [AV.ids]) _ h (by simp),e⟩
 | sub id o l=>
  rcases h with ⟨g,cap,len,z,h,e⟩ | ⟨h,e⟩
  ·exact .inl ⟨g,cap,len,z,hf id (by simp [AV.ids]) _ h (by simp),e⟩
  ·exact .inr ⟨hf id (by simp [AV.ids]) _ h (by simp),e⟩
 | ptr id o=>
  obtain ⟨g,h,e⟩:=h
  exact ⟨g,hf id (by simp [AV.ids]) _ h (by simp),e⟩
 | elp id i o=>
  obtain ⟨g,cap,len,z,h,e⟩:=h
  exact ⟨g,cap,len,z,hf id (by simp [AV.ids]) _ h (by simp),e⟩
 | fn g b cs=>
  obtain ⟨bs,us,h1,h2,e⟩:=h
  refine ⟨bs,us,fD (fun i hi g hg=>hf i ?_ _ hg (by simp)) h1,fD (fun i hi g hg=>hf i ?_ _ hg (by simp)) h2,e⟩
  ·simp only [AV.ids,List.mem_append]; exact .inl hi
  ·simp only [AV.ids,List.mem_append]; exact .inr hi
 | fe s x o=>exact hfe s x o rfl
 | mq id=>
  obtain ⟨g,h,e⟩:=h
  exact ⟨g,hf id (by simp [AV.ids]) _ h (by simp),e⟩
 | np=>exact h
 | nf=>exact h
 | yl l=>exact h
 | dead=>exact h
 | int n=>exact hp rfl h
 | u8 b=>exact hp rfl h
 | u64 n=>exact hp rfl h
 | bool e=>exact hp rfl h
 | str s=>exact hp rfl h
 | em b=>exact hp rfl h
 | fz s xs=>exact hp rfl h
theorem bC {f:Sh->Bool}:∀ {l:List Sh},cP f l=true↔∀ s ∈ l,f s=true
 | []=>by simp [cP]
 | s :: r=>by simp [cP,bC]
theorem dj {s:Sh} {x:den s} {s':Sh} {ys:List (den s')} (h:AV.fz s' ys ∈ cellsOf s x):s' ∈ s.dX:=by
 cases s with
 | nm t=>cases t <;> simp [cellsOf,NT.cells] at h <;> first | (simp [Sh.dX,NT.dX,h]; done) | (rcases h with h | h | h <;> simp [Sh.dX,NT.dX,h.1])
 | lst s=>simp [cellsOf] at h; simp [Sh.dX,h.1]
 | _=>simp [cellsOf] at h
def ux (n:Nat) (b:Sh):AV->Bool
 | .fz s _=>Sh.no n b s
 | _=>true
theorem Pd.pI {c c':Cx} (ls:List Sh) (hw:c'.w=c.w) (hs:c'.shp=c.shp) (hB:c'.B0=c.B0)
  (hS:∀ b,c.S b->c'.S b\/(¬ b<c.B0/\∃ sb ∈ ls,∃ cur t fr,c.w.heap[b]? = some (.cells cur t fr)/\c.shp t=some sb)) {a:AV} {v:Value} (h:Pd c a v):∀ n,(∀ b ∈ ls,ux n b a=true)->Pd c' a v:=by
 refine @Pd.rec c (fun a v _=>∀ n,(∀ b ∈ ls,ux n b a=true)->Pd c' a v) (fun asx vs _=>∀ n,(∀ a ∈ asx,∀ b ∈ ls,ux n b a=true)->Pds c' asx vs) ?_ ?_ ?_ ?_ ?_ ?_ ?_ ?_ ?_ a v h
 ·intro n h1 _ _; exact .int h1
 ·intro b _ _; exact .u8
 ·intro n h1 _ _; exact .u64 h1
 ·intro e _ _; exact .bool
 ·intro s h1 _ _; exact .str h1
 ·intro b a h1 _ _; exact .em h1
 ·intro s xs a k cells h1 h2 h3 _ h5 ih n hno
  have key:∀ b ∈ ls,s≠b/\∀ s' ∈ s.dX,Sh.no (n - 1) b s' = true:=fun b hb=>by
   have:=hno b hb
   cases n with
   | zero=>simp [ux,Sh.no] at this
   | succ n=>
    simp only [ux,Sh.no,Bool.and_eq_true,Bool.not_eq_true',decide_eq_false_iff_not,bC] at this
    exact this
  refine .fz h1 h2 h3 (ih (n - 1) fun x hx b hb=>?_) ?_
  ·rw [List.mem_flatMap] at hx
   obtain ⟨y,_,hy⟩:=hx
   cases x with
   | fz s' ys=>exact (key b hb).2 s' (dj hy)
   | _=>rfl
  ·rcases h5 with h5 | ⟨A,hA,hat,hc⟩
   ·exact .inl h5
   ·refine .inr ⟨A,hA,?_,by rw [hw]; exact hc⟩
    rcases hS _ hat.1 with h6 | ⟨h6,sb,hsb,cur,t,fr,h7,h8⟩
    ·refine ⟨h6,?_⟩
     rw [hB,hw,hs]; exact hat.2
    ·rcases hat.2 with h9 | ⟨cur',t',fr',h9,h10⟩
     ·exact absurd h9 h6
     ·rw [h7] at h9
      cases h9
      rw [h8] at h10
      cases h10
      exact absurd rfl (key _ hsb).1
 ·intro _ _; exact .nil
 ·intro a v r vs _ _ h1 h2 n hno
  exact .cons (h1 n (hno a (by simp))) (h2 n fun x hx=>hno x (by simp [hx]))
theorem kr {b:Sh}:∀ {l:List AV},uP b l=true↔∀ a ∈ l,a.no b=true
 | []=>by simp [uP]
 | a :: r=>by simp [uP,kr]
theorem kF {b:Sh}:∀ {l:List TV1},vS b l=true↔∀ t ∈ l,∀ a ∈ t.cells,a.no b=true
 | []=>by simp [vS]
 | a :: r=>by simp [vS,kF,kr]
theorem fR {H:AH} {i:Nat} {t:TypeId} {s:Sh} {xs:List (den s)} (h:getO H i = .row t s xs):∀ {l:List Nat},i ∈ l->s ∈ bl H l
 | [],hi=>by simp at hi
 | j :: r,hi=>by
  rcases List.mem_cons.1 hi with rfl | hi
  ·simp [bl,h]
  ·have:=fR h hi
   unfold bl
   split
   ·exact List.mem_cons_of_mem _ this
   ·exact this
theorem eT {c c':Cx} {ρ ρ':List RE} {f:Nat->Nat}:∀ {asx:List AV} {vs:List Value},(∀ a ∈ asx,∀ v,Rd c ρ a v->Rd c' ρ' (a.dN f) v)->All2 (Rd c ρ) asx vs->All2 (Rd c' ρ') (pL f asx) vs
 | [],_,_,h=>by cases h; exact .nil
 | a :: r,_,hf,h=>by cases h with | cons h1 h2=>exact .cons (hf a (by simp) _ h1) (eT (fun x hx=>hf x (by simp [hx])) h2)
theorem qw {c c':Cx} {ρ ρ':List RE} {f:Nat->Nat} {t:TV1} {v:Value} (hf:∀ a ∈ t.cells,∀ v,Rd c ρ a v->Rd c' ρ' (a.dN f) v) (h:aO c ρ t v):aO c' ρ' (t.dN f) v:=by
 cases t with
 | c a=>exact hf a (by simp [TV1.cells]) _ h
 | agg l=>obtain ⟨vs,rfl,h⟩:=h; exact ⟨vs,rfl,eT hf h⟩
theorem dP {c c':Cx} {ρ ρ':List RE} {f:Nat->Nat}:∀ {ts:List TV1} {vs:List Value},(∀ t ∈ ts,∀ a ∈ t.cells,∀ v,Rd c ρ a v->Rd c' ρ' (a.dN f) v)->All2 (aO c ρ) ts vs->All2 (aO c' ρ') (cJ f ts) vs
 | [],_,_,h=>by cases h; exact .nil
 | t :: r,_,hf,h=>by cases h with | cons h1 h2=>exact .cons (qw (hf t (by simp)) h1) (dP (fun x hx=>hf x (by simp [hx])) h2)
theorem rV {c c':Cx} {ρ ρ':List RE} {f:Nat->Nat} {H:AH}:∀ {asx:List AV} {vs:List Value},(∀ a ∈ asx,∀ v,Rd c ρ a v->Rd c' ρ' ((a.vw H).dN f) v)->All2 (Rd c ρ) asx vs->All2 (Rd c' ρ') (pL f (nu H asx)) vs
 | [],_,_,h=>by cases h; exact .nil
 | a :: r,_,hf,h=>by cases h with | cons h1 h2=>exact .cons (hf a (by simp) _ h1) (rV (fun x hx=>hf x (by simp [hx])) h2)
theorem m_ {c c':Cx} {ρ ρ':List RE} {f:Nat->Nat} {H:AH}:∀ {ts:List TV1} {vs:List Value},(∀ t ∈ ts,∀ a ∈ t.cells,∀ v,Rd c ρ a v->Rd c' ρ' ((a.vw H).dN f) v)->All2 (aO c ρ) ts vs->All2 (aO c' ρ') (cJ f (po H ts)) vs
 | [],_,_,h=>by cases h; exact .nil
 | t :: r,_,hf,h=>by
  cases h with
  | cons h1 h2=>
   refine .cons ?_ (m_ (fun x hx=>hf x (by simp [hx])) h2)
   cases t with
   | c a=>exact hf (.c a) (by simp) a (by simp [TV1.cells]) _ h1
   | agg l=>obtain ⟨vs,rfl,h1⟩:=h1; exact ⟨vs,rfl,rV (hf (.agg l) (by simp)) h1⟩
theorem dJ {i:Nat}:∀ {l:List AV} {a:AV},a ∈ l->i ∈ a.ids->i ∈ j_ l
 | [],_,h,_=>by simp at h
 | b :: r,a,h,hi=>by
  simp only [j_,List.mem_append]
  rcases List.mem_cons.1 h with rfl | h
  ·exact .inl hi
  ·exact .inr (dJ h hi)
theorem gU {i:Nat}:∀ {l:List (Int × AV)} {q:Int × AV},q ∈ l->i ∈ q.2.ids->i ∈ qP l
 | [],_,h,_=>by simp at h
 | b :: r,q,h,hi=>by
  simp only [qP,List.mem_append]
  rcases List.mem_cons.1 h with rfl | h
  ·exact .inl hi
  ·exact .inr (gU h hi)
theorem ey {H:AH}:∀ {l:List Nat},fL H l=true↔∀ i ∈ l,∃ t s xs,getO H i = .row t s xs
 | []=>by simp [fL]
 | i :: r=>by
  simp only [fL,Bool.and_eq_true,ey,List.forall_mem_cons]
  refine and_congr_left fun _=>?_
  split
  ·rename_i t s xs h; exact iff_of_true rfl ⟨t,s,xs,h⟩
  ·rename_i hn; exact iff_of_false (by simp) fun ⟨t,s,xs,h⟩=>hn t s xs h
theorem gN {f:Nat->Nat}:∀ l:List (Int × AV),sr f l=l.map fun q=>(q.1,q.2.dN f)
 | []=>rfl
 | (k,a) :: r=>by simp [sr,gN r]
theorem dB {i:Nat}:∀ {l:List TV1} {t:TV1} {a:AV},t ∈ l->a ∈ t.cells->i ∈ a.ids->i ∈ gA l
 | [],_,_,h,_,_=>by simp at h
 | b :: r,t,a,h,ha,hi=>by
  simp only [gA,List.mem_append]
  rcases List.mem_cons.1 h with rfl | h
  ·exact .inl (dJ ha hi)
  ·exact .inr (dB h ha hi)
theorem lK {H:AH} {t:TV1} {a:AV} (h:a ∈ t.cells):a.vw H ∈ (t.vw H).cells:=by
 cases t with
 | c b=>simp only [TV1.cells,List.mem_singleton] at h; subst h; simp [TV1.vw,TV1.cells]
 | agg l=>
  simp only [TV1.cells] at h
  simp only [TV1.vw,TV1.cells]
  induction l with
  | nil=>simp at h
  | cons b r ih=>
   rcases List.mem_cons.1 h with rfl | h
   ·simp [nu]
   ·simp only [nu,List.mem_cons]; exact .inr (ih h)
theorem jZ {H:AH}:∀ {l:List TV1} {t:TV1},t ∈ l->t.vw H ∈ po H l
 | [],_,h=>by simp at h
 | b :: r,t,h=>by
  rcases List.mem_cons.1 h with rfl | h
  ·simp [po]
  ·simp only [po,List.mem_cons]; exact .inr (jZ h)
theorem ly {i:Nat}:∀ {l:List AV} {a:AV},a ∈ l->(a = .own i\/∃ o k,a = .sub i o k)->i ∈ bd l
 | [],_,h,_=>by simp at h
 | b :: r,a,h,hi=>by
  rcases List.mem_cons.1 h with rfl | h
  ·rcases hi with rfl | ⟨o,k,rfl⟩ <;> simp [bd]
  ·have:=ly h hi
   cases b <;> simp [bd,this]
theorem gT {i:Nat}:∀ {l:List TV1} {t:TV1} {a:AV},t ∈ l->a ∈ t.cells->(a = .own i\/∃ o k,a = .sub i o k)->i ∈ bw l
 | [],_,_,h,_,_=>by simp at h
 | b :: r,t,a,h,ha,hi=>by
  simp only [bw,List.mem_append]
  rcases List.mem_cons.1 h with rfl | h
  ·exact .inl (ly ha hi)
  ·exact .inr (gT h ha hi)
theorem qq {b:Sh} {a:AV} (h:a.no b=true):ux 5 b a=true:=by cases a <;> first | rfl | exact h
theorem lx {H:AH}:∀ {σ:List Nat} {j i:Nat},σ[j]? = some i->(ea H σ)[j]? = some (getO H i)
 | [],_,_,h=>by simp at h
 | k :: r,0,i,h=>by simp at h; subst h; simp [ea]
 | k :: r,j+1,i,h=>by simpa [ea] using lx (σ:=r) (by simpa using h)
theorem gQ {f:Nat->Nat}:∀ {l:List AO} {j:Nat} {o:AO},l[j]? = some o->(gv f l)[j]? = some (o.dN f)
 | [],_,_,h=>by simp at h
 | k :: r,0,i,h=>by simp at h; subst h; simp [gv]
 | k :: r,j+1,i,h=>by simpa [gv] using gQ (l:=r) (by simpa using h)
theorem dF {f:Nat->Nat}:∀ {l:List AO},(gv f l).length=l.length
 | []=>rfl
 | _ :: r=>by simp [gv,dF]
theorem jG {H:AH}:∀ {σ:List Nat},(ea H σ).length=σ.length
 | []=>rfl
 | _ :: r=>by simp [ea,jG]
section
variable {G:Gl} {ρ:List RE} {H:AH} {w:World} {σ:List Nat}
theorem Rep.sub (hR:Rep G ρ H w) {Z':Nat->Prop} (hn:dI σ=true) (hc:cw H σ σ=true) (hZ:∀ b,Z' b->b<w.heap.size) (hZ0:∀ b,¬ G.Z b->¬ live ρ b->¬ Z' b) (hZ1:∀ b,live (aL ρ σ) b->¬ Z' b) :
  Rep ⟨G.shp,G.B0,Z'⟩ (aL ρ σ) (gv (posOf · σ) (ea H σ)) w/\(cx G ρ w).le (cx ⟨G.shp,G.B0,Z'⟩ (aL ρ σ) w):=by
 have hle:(cx G ρ w).le (cx ⟨G.shp,G.B0,Z'⟩ (aL ρ σ) w):=⟨rfl,rfl,fun b hb=>⟨⟨hb.1,fun hl=>hb.2.1 (cO hl),hZ0 b hb.2.2 hb.2.1⟩,rfl⟩⟩
 have hcl:=cz.1 hc
 refine ⟨⟨aG (by simp [dF,jG,aL]) fun j o r ho hr=>?_,fun i j r r' g h1 h2 h3 h4=>?_,fun i r g h1 h2=>?_,hZ,hR.b0,hR.tb.carry hle⟩,hle⟩
 ·have hj:j<σ.length:=by
   have:=(List.getElem?_eq_some_iff.1 hr).1
   simpa [aL] using this
  have hσ:σ[j]? = some σ[j]:=List.getElem?_eq_getElem hj
  have hi:σ[j] ∈ σ:=List.getElem_mem _
  rw [nT hσ] at hr
  cases hr
  rw [gQ (lx (H:=H) hσ)] at ho
  cases ho
  obtain ⟨hlt,hids⟩:=hcl _ hi
  have hH:H[σ[j]]? = some H[σ[j]]:=List.getElem?_eq_getElem hlt
  have hO:getO H σ[j]=H[σ[j]]:=by unfold getO; rw [List.getD_eq_getElem?_getD,hH]; rfl
  obtain ⟨r,hr,hor⟩:=hR.at_ hH
  rw [getD_some hr,hO]
  rw [hO] at hids
  generalize H[σ[j]]=o at hor hids
  cases o with
  | gone=>exact hor
  | mapo s f=>
   obtain ⟨g,rfl,h⟩:=hor
   exact ⟨g,rfl,h.carry hle rfl⟩
  | loc=>trivial
  | mapf l=>
   obtain ⟨g,rfl,h⟩:=hor
   refine ⟨g,rfl,h.map (g0:=fun a=>a.dN (posOf · σ)) (gN l) (fun q hq v h=>Rd.dN (fun _ hp=>hp.carry hle) (fun s x o e=>?_) (fun i hi r hr _=>cd (hids i (gU hq hi)) hr) h) rfl⟩
   rw [e] at h ⊢
   obtain ⟨A,cells,k1,k2,k3,e⟩:=h
   exact ⟨A,cells,(hle.S _ k1).1,k2,k3.carry hle,e⟩
  | arr t s n xs=>
   obtain ⟨g,vs,rfl,h1,h2,h3⟩:=hor
   exact ⟨g,vs,rfl,h1,h2.carry hle,h3⟩
  | box t cs=>
   obtain ⟨g,vs,rfl,h1,h2⟩:=hor
   refine ⟨g,vs,rfl,h1,eT (fun a ha v h=>Rd.dN (fun _ hp=>hp.carry hle) (fun s x o e=>?_) (fun i hi r hr _=>cd (hids i (dJ ha hi)) hr) h) h2⟩
   subst e
   obtain ⟨A,cells,k1,k2,k3,e⟩:=h
   exact ⟨A,cells,(hle.S _ k1).1,k2,k3.carry hle,e⟩
  | row t s xs=>
   obtain ⟨h1,h2,h3⟩:=hor
   exact ⟨h1,h2,h3.imp id fun ⟨g,cap,cells,sp,e,h4,h5,h6⟩=>⟨g,cap,cells,sp,e,h4,h5.carry hle,h6⟩⟩
 ·have e1:=bk h1 (by rintro rfl; cases h3)
  have e2:=bk h2 (by rintro rfl; cases h4)
  have:=hR.inj _ _ _ _ g e1 e2 h3 h4
  have hi:i<σ.length:=by simpa [aL] using (List.getElem?_eq_some_iff.1 h1).1
  have hj:j<σ.length:=by simpa [aL] using (List.getElem?_eq_some_iff.1 h2).1
  have a1:σ.getD i 0=σ[i]:=by rw [List.getD_eq_getElem?_getD,List.getElem?_eq_getElem hi]; rfl
  have a2:σ.getD j 0=σ[j]:=by rw [List.getD_eq_getElem?_getD,List.getElem?_eq_getElem hj]; rfl
  rw [a1,a2] at this
  exact (List.getElem_inj (di.1 hn)).1 this
 ·have e1:=bk h1 (by rintro rfl; cases h2)
  have:=hR.bnd _ _ g e1 h2
  exact ⟨this.1,this.2.1,hZ1 g ⟨i,r,h1,h2⟩⟩
end
section
variable {P:Program} {G:Gl} {O:cZ} {n:Nat} {F:Fr} {w:World} {ρ:List RE} {H:AH}
theorem jE (hO:aS P G.shp O) (hR:Rep G ρ H w) {f:Nat} {args:List TV1} {vs:List Value} {r:PR} (hvs:All2 (aO (cx G ρ w) ρ) args vs) (h:ny O H f args=some r) (hob:∀ p ∈ r.ob,p) :
  (∃ fn,P.funcs[f]? = some fn/\(fn.name == "runtime.NumGoroutine")=false/\fn.body.isNone=false)/\mg P f vs.toArray w fun v w'=>Kp [] w w' /\ Rt (cx G ρ w') ρ r.v v/\∀ p ∈ r.fc,p:=by
 unfold ny at h
 generalize hσ:iL H (po H args)=σ at h
 simp only at h
 split at h
 ·rename_i hck
  simp only [Bool.and_eq_true] at hck
  obtain ⟨⟨⟨⟨hn,hai⟩,hcl⟩,hno⟩,hrw⟩:=hck
  split at h
  ·rename_i pre rs kp hrs
   split at h
   ·rename_i hsh
    cases h
    have hai:=cM.1 hai
    have hno:=ei.1 hno
    let lent:Nat->Prop:=fun b=>∃ id ∈ bw args,∃ rr,ρ[id]? = some rr/\rr.g? = some b
    let Z':Nat->Prop:=fun b=>G.Z b\/(live ρ b/\¬ live (aL ρ σ) b/\¬ lent b)
    have hlentσ:∀ b,lent b->¬ live (aL ρ σ) b:=by
     rintro b ⟨id,hid,rr,h1,h2⟩ ⟨j,r2,h3,h4⟩
     have e:=bk h3 (by rintro rfl; cases h4)
     have e2:=hR.inj _ _ _ _ b h1 e h2 h4
     have hj:j<σ.length:=by simpa [aL] using (List.getElem?_eq_some_iff.1 h3).1
     have a1:σ.getD j 0=σ[j]:=by rw [List.getD_eq_getElem?_getD,List.getElem?_eq_getElem hj]; rfl
     exact hno id hid (by rw [e2,a1]; exact List.getElem_mem _)
    obtain ⟨hR',hle⟩:=hR.sub (σ:=σ) (Z':=Z') hn hcl (fun b hb=>hb.elim (hR.z b) fun ⟨⟨i,r,h1,h2⟩,_⟩=>(hR.bnd i r b h1 h2).2.1) (fun b h1 h2 hz=>hz.elim h1 fun h3=>h2 h3.1)
     (fun b h1 hz=>hz.elim (fun h2=>by obtain ⟨i,r,h3,h4⟩:=cO h1; exact (hR.bnd i r b h3 h4).2.2 h2) fun h2=>h2.2.1 h1)
    obtain ⟨hfn,hrun⟩:=hO _ _ _ _ hrs hob
    refine ⟨hfn,?_⟩
    have hargs:All2 (aO (cx ⟨G.shp,G.B0,Z'⟩ (aL ρ σ) w) (aL ρ σ)) (cJ (posOf · σ) (po H args)) vs:=by
     refine m_ (fun t ht a ha v hv=>?_) hvs
     have hids:∀ i ∈ (a.vw H).ids,i ∈ σ:=fun i hi=>hai i (dB (jZ ht) (lK ha) hi)
     by_cases hown:∃ id,a = .own id\/∃ o k,a = .sub id o k
     ·obtain ⟨id,hid⟩:=hown
      have hmem:=gT ht ha hid
      cases hv2:a.vw H with
      | fz s xs=>
       refine dy (eP hR hle rfl hv (fun g cap len z ⟨id',he,h1⟩=>?_) hv2)
       have e:id' = id:=by rcases hid with rfl | ⟨o,k,rfl⟩ <;> rcases he with he | ⟨_,_,he⟩ <;> cases he <;> rfl
       subst e
       have hl:lent g:=⟨id',hmem,_,h1,rfl⟩
       have hb:=hR.bnd _ _ g h1 rfl
       exact ⟨hb.2.1,hlentσ g hl,fun hz=>hz.elim hb.2.2 fun h2=>h2.2.2 hl⟩
      | dead=>exact Rd.one hv
      | _=>
       rcases hid with rfl | ⟨o,k,rfl⟩ <;> simp only [AV.vw] at hv2 <;> split at hv2 <;> cases hv2
     ·have e:a.vw H=a:=by
       cases a <;> first | rfl | exact absurd ⟨_,.inl rfl⟩ hown | exact absurd ⟨_,.inr ⟨_,_,rfl⟩⟩ hown
      rw [e] at hids ⊢
      refine Rd.dN (fun _ hp=>hp.carry hle) (fun s x o e=>?_) (fun i hi r hr _=>cd (hids i hi) hr) hv
      subst e
      obtain ⟨A,cells,k1,k2,k3,e⟩:=hv
      exact ⟨A,cells,(hle.S _ k1).1,k2,k3.carry hle,e⟩
    refine (hrun ⟨G.shp,G.B0,Z'⟩ _ w vs rfl hR' hargs).mono fun v w' ⟨us,hv,hk,hrs'⟩=>?_
    refine ⟨hk,?_,ui.eU hrs'⟩
    have hback:All2 (aO (cx G ρ w') ρ) (cJ (fun j=>σ.getD j 0) rs) us:=by
     refine dP (fun t ht a ha u hu=>?_) hrs'
     have hno5:∀ b ∈ bl H (bw args),a.no b=true:=fun b hb=>kF.1 (bC.1 hsh b hb) t ht a ha
     have hS:∀ b,(cx ⟨G.shp,G.B0,Z'⟩ (aL ρ σ) w').S b->(cx G ρ w').S b\/(¬ b<G.B0/\∃ sb ∈ bl H (bw args),∃ cur t fr,w'.heap[b]? = some (.cells cur t fr)/\G.shp t=some sb):=by
      rintro b ⟨h1,h2,h3⟩
      by_cases hl:live ρ b
      ·right
       have hlt:lent b:=by
        by_cases hx:lent b
        ·exact hx
        ·exact absurd (.inr ⟨hl,h2,hx⟩) h3
       obtain ⟨id,hid,rr,h4,h5⟩:=hlt
       have hb:=hR.bnd _ _ b h4 h5
       refine ⟨by omega,?_⟩
       have hlen:id<H.length:=by
        have:=(List.getElem?_eq_some_iff.1 h4).1
        rw [hR.obj.length]; exact this
       obtain ⟨r',hr',hor⟩:=hR.at_ (List.getElem?_eq_getElem hlen)
       rw [h4] at hr'
       cases hr'
       have hO:getO H id=H[id]:=by unfold getO; rw [List.getD_eq_getElem?_getD,List.getElem?_eq_getElem hlen]; rfl
       cases ho:H[id] with
       | gone=>rw [ho] at hor; cases hor; cases h5
       | box t cs=>
        -- a box is not lent
        exfalso
        have:∀ (l:List TV1) (us:List Value),All2 (aO (cx G ρ w) ρ) l us->id ∈ bw l->∃ g cap len z,ρ[id]? = some (.row g cap len z)\/ρ[id]? = some .emp:=by
         intro l us hl
         induction hl with
         | nil=>intro h; simp [bw] at h
         | @cons t u l us h1 _ ih=>
          intro h
          simp only [bw,List.mem_append] at h
          rcases h with h | h
          ·obtain ⟨us',hc',hcells⟩:=aO.cells h1
           clear h1 hc'
           generalize t.cells=q at h hcells
           induction hcells with
           | nil=>simp [bd] at h
           | @cons a' v' _ _ h3 _ ih2=>
            cases a' <;> simp only [bd,List.mem_cons] at h
            case own j=>
             rcases h with rfl | h
             ·rcases h3 with ⟨g,cap,len,z,h3,_⟩ | ⟨h3,_⟩
              ·exact ⟨g,cap,len,z,.inl h3⟩
              ·exact ⟨0,0,0,0,.inr h3⟩
             ·exact ih2 h
            case sub j o k=>
             rcases h with rfl | h
             ·rcases h3 with ⟨g,cap,len,z,h3,_⟩ | ⟨h3,_⟩
              ·exact ⟨g,cap,len,z,.inl h3⟩
              ·exact ⟨0,0,0,0,.inr h3⟩
             ·exact ih2 h
            all_goals exact ih2 h
          ·exact ih h
        obtain ⟨g,cap,len,z,h6⟩:=this _ _ hvs hid
        rw [ho] at hor
        obtain ⟨g',vs',rfl,_⟩:=hor
        rcases h6 with h6 | h6 <;> rw [h4] at h6 <;> cases h6
       | mapo s0 f0=>
        -- a map is not lent
        exfalso
        have:∀ (l:List TV1) (us:List Value),All2 (aO (cx G ρ w) ρ) l us->id ∈ bw l->∃ g cap len z,ρ[id]? = some (.row g cap len z)\/ρ[id]? = some .emp:=by
         intro l us hl
         induction hl with
         | nil=>intro h; simp [bw] at h
         | @cons t u l us h1 _ ih=>
          intro h
          simp only [bw,List.mem_append] at h
          rcases h with h | h
          ·obtain ⟨us',hc',hcells⟩:=aO.cells h1
           clear h1 hc'
           generalize t.cells=q at h hcells
           induction hcells with
           | nil=>simp [bd] at h
           | @cons a' v' _ _ h3 _ ih2=>
            cases a' <;> simp only [bd,List.mem_cons] at h
            case own j=>
             rcases h with rfl | h
             ·rcases h3 with ⟨g,cap,len,z,h3,_⟩ | ⟨h3,_⟩
              ·exact ⟨g,cap,len,z,.inl h3⟩
              ·exact ⟨0,0,0,0,.inr h3⟩
             ·exact ih2 h
            case sub j o k=>
             rcases h with rfl | h
             ·rcases h3 with ⟨g,cap,len,z,h3,_⟩ | ⟨h3,_⟩
              ·exact ⟨g,cap,len,z,.inl h3⟩
              ·exact ⟨0,0,0,0,.inr h3⟩
             ·exact ih2 h
            all_goals exact ih2 h
          ·exact ih h
        obtain ⟨g,cap,len,z,h6⟩:=this _ _ hvs hid
        rw [ho] at hor
        obtain ⟨g',rfl,_⟩:=hor
        rcases h6 with h6 | h6 <;> rw [h4] at h6 <;> cases h6
       | loc=>
        have:=ey.1 hrw id hid
        obtain ⟨t,s,xs,e⟩:=this
        rw [hO,ho] at e; cases e
       | mapf l0=>
        -- nor is a map of functions
        exfalso
        have:∀ (l:List TV1) (us:List Value),All2 (aO (cx G ρ w) ρ) l us->id ∈ bw l->∃ g cap len z,ρ[id]? = some (.row g cap len z)\/ρ[id]? = some .emp:=by
         intro l us hl
         induction hl with
         | nil=>intro h; simp [bw] at h
         | @cons t u l us h1 _ ih=>
          intro h
          simp only [bw,List.mem_append] at h
          rcases h with h | h
          ·obtain ⟨us',hc',hcells⟩:=aO.cells h1
           clear h1 hc'
           generalize t.cells=q at h hcells
           induction hcells with
           | nil=>simp [bd] at h
           | @cons a' v' _ _ h3 _ ih2=>
            cases a' <;> simp only [bd,List.mem_cons] at h
            case own j=>
             rcases h with rfl | h
             ·rcases h3 with ⟨g,cap,len,z,h3,_⟩ | ⟨h3,_⟩
              ·exact ⟨g,cap,len,z,.inl h3⟩
              ·exact ⟨0,0,0,0,.inr h3⟩
             ·exact ih2 h
            case sub j o k=>
             rcases h with rfl | h
             ·rcases h3 with ⟨g,cap,len,z,h3,_⟩ | ⟨h3,_⟩
              ·exact ⟨g,cap,len,z,.inl h3⟩
              ·exact ⟨0,0,0,0,.inr h3⟩
             ·exact ih2 h
            all_goals exact ih2 h
          ·exact ih h
        obtain ⟨g,cap,len,z,h6⟩:=this _ _ hvs hid
        rw [ho] at hor
        obtain ⟨g',rfl,_⟩:=hor
        rcases h6 with h6 | h6 <;> rw [h4] at h6 <;> cases h6
       | arr t0 s0 n0 xs0=>
        -- nor is an array
        exfalso
        have:∀ (l:List TV1) (us:List Value),All2 (aO (cx G ρ w) ρ) l us->id ∈ bw l->∃ g cap len z,ρ[id]? = some (.row g cap len z)\/ρ[id]? = some .emp:=by
         intro l us hl
         induction hl with
         | nil=>intro h; simp [bw] at h
         | @cons t u l us h1 _ ih=>
          intro h
          simp only [bw,List.mem_append] at h
          rcases h with h | h
          ·obtain ⟨us',hc',hcells⟩:=aO.cells h1
           clear h1 hc'
           generalize t.cells=q at h hcells
           induction hcells with
           | nil=>simp [bd] at h
           | @cons a' v' _ _ h3 _ ih2=>
            cases a' <;> simp only [bd,List.mem_cons] at h
            case own j=>
             rcases h with rfl | h
             ·rcases h3 with ⟨g,cap,len,z,h3,_⟩ | ⟨h3,_⟩
              ·exact ⟨g,cap,len,z,.inl h3⟩
              ·exact ⟨0,0,0,0,.inr h3⟩
             ·exact ih2 h
            case sub j o k=>
             rcases h with rfl | h
             ·rcases h3 with ⟨g,cap,len,z,h3,_⟩ | ⟨h3,_⟩
              ·exact ⟨g,cap,len,z,.inl h3⟩
              ·exact ⟨0,0,0,0,.inr h3⟩
             ·exact ih2 h
            all_goals exact ih2 h
          ·exact ih h
        obtain ⟨g,cap,len,z,h6⟩:=this _ _ hvs hid
        rw [ho] at hor
        obtain ⟨g',vs',rfl,_⟩:=hor
        rcases h6 with h6 | h6 <;> rw [h4] at h6 <;> cases h6
       | row t s xs=>
        rw [ho] at hor hO
        obtain ⟨h6,_,h7⟩:=hor
        refine ⟨s,fR hO hid,?_⟩
        rcases h7 with ⟨rfl,_⟩ | ⟨g,cap,cells,sp,rfl,h8,_⟩
        ·cases h5
        ·cases h5
         exact ⟨_,t,(0,0),(hk.block _ hb.2.1 (by simp)).trans h8,h6⟩
      ·left; exact ⟨h1,hl,fun hz=>h3 (.inl hz)⟩
     have hpd:∀ {b:AV} {u:Value},Pd (cx ⟨G.shp,G.B0,Z'⟩ (aL ρ σ) w') b u->(∀ sb ∈ bl H (bw args),ux 5 sb b=true)->Pd (cx G ρ w') b u:=fun hb hn=>Pd.pI (c:=cx ⟨G.shp,G.B0,Z'⟩ (aL ρ σ) w') (c':=cx G ρ w') (bl H (bw args)) rfl rfl rfl hS hb 5 hn
     refine Rd.dN (fun _ hp=>hpd hp fun sb hsb=>qq (hno5 sb hsb)) (fun s x o e=>?_) (fun i hi r hr hne=>bk hr hne) hu
     subst e
     -- a pointer into what is frozen: nothing was lent
     have hnil:bl H (bw args)=[]:=by
      cases hq:bl H (bw args) with
      | nil=>rfl
      | cons b l=>have:=hno5 b (by rw [hq]; simp); simp [AV.no] at this
     rw [hnil] at hS
     have hS':(cx ⟨G.shp,G.B0,Z'⟩ (aL ρ σ) w').le (cx G ρ w'):=⟨rfl,rfl,fun b hb=>⟨(hS b hb).resolve_right fun ⟨_,sb,h,_⟩=>by simp at h,rfl⟩⟩
     obtain ⟨A,cells,k1,k2,k3,e⟩:=hu
     exact ⟨A,cells,(hS'.S _ k1).1,k2,k3.carry hS',e⟩
    subst hv
    show Rt (cx G ρ w') ρ (oL (cJ (fun j=>σ.getD j 0) rs)) (ln us)
    generalize cJ (fun j=>σ.getD j 0) rs=rs' at hback ⊢
    cases hback with
    | nil=>exact ⟨[],rfl,.nil⟩
    | @cons t u l us h1 h2=>
     cases h2 with
     | nil=>exact h1
     | cons h3 h4=>exact ⟨_,rfl,.cons h1 (.cons h3 h4)⟩
   ·cases h
  ·cases h
 ·cases h
end
def Yields (P:Program) (n:Nat) (F:Fr) (w:World) (op:Op) (ty:TypeId) (φ:Value->World->Prop):Prop:=
 (∃ v w',ah P n F w op ty v w' /\ φ v w')\/(∃ f args,Enters P n F w op ty f args/\mg P f args w φ)
theorem Yields.mono {P:Program} {n:Nat} {F:Fr} {w:World} {op:Op} {ty:TypeId} {φ ψ:Value->World->Prop} (h:Yields P n F w op ty φ) (hh:∀ v w',φ v w' -> ψ v w'):Yields P n F w op ty ψ:=by
 rcases h with ⟨v,w',h1,h2⟩ | ⟨f,args,h1,h2⟩
 ·exact .inl ⟨v,w',h1,hh _ _ h2⟩
 ·exact .inr ⟨f,args,h1,h2.mono hh⟩
section
variable {P:Program} {n:Nat} {fr:Fr} {w:World} {x y:Operand} {ty t t' e:TypeId}
theorem R.qZ {v:Value} {c:Cx} {xs:List UInt8} (hw:c.w=w) (hx:ev fr x=some v) (hs:P.underlying t=some (.slice e)) (hd:P.underlying t' = some .string) (he:P.underlying e=some (.int .u8)) (h:Sread c .u8 xs v) :
  ah P n fr w (.convert t t' x) ty (⟨xs⟩:Str).val w:=fun _ _ _ _ _ ha=>by
 obtain ⟨a,k,cells,rfl,h1,h2,h3,h4⟩:=h.ex
 have hfl:cells=xs.map fun b=>Value.int .u8 (b.toNat:Int):=by
  have:∀ (l:List UInt8) (vs:List Value),Pds c (l.flatMap (cellsOf .u8)) vs->vs=l.map fun b=>Value.int .u8 (b.toNat:Int):=by
   intro l
   induction l with
   | nil=>intro vs h; cases h; rfl
   | cons b l ih=>
    intro vs h
    rw [List.flatMap_cons] at h
    cases h with
    | cons h1 h2=>cases h1; rw [ih _ h2]; rfl
  exact this _ _ h3
 have main:(convert t t' (.slice a xs.length k)).run P w = .ok (.string ⟨xs.toArray⟩) w:=by
  cases a with
  | none=>
   have hn:xs=[]:=by
    rcases h4 with h4 | ⟨A,hA,_⟩
    ·exact h4
    ·cases hA
   subst hn
   rw [run_convert_bytes_string w t t' e none _ k hs he hd]; rfl
  | some A=>
   refine run_convert_bytes_back w t t' e A k xs hs he hd fun j hj=>?_
   rcases h4 with h4 | ⟨A',hA,_,hc⟩
   ·subst h4; simp at hj
   ·cases hA
    rw [hfl,hw] at hc
    exact hc j _ (by simp [hj])
 simp [execOp,ha.ev hx,main,Str.val]
theorem R.pU {s:Str} (hx:ev fr x=some s.val) (hlen:s.b.length<=140737488355328) (hs:P.underlying t=some .string) (hd:P.underlying t' = some (.slice e)) (he:P.underlying e=some (.int .u8)) :
  ∃ a k w',ah P n fr w (.convert t t' x) ty (.slice a s.b.length k) w' /\ Kp [] w w' /\ s.b.length<=k/\k<=maxLen/\a=some ⟨w.heap.size,0,none⟩/\w.heap.size<w'.heap.size/\CellsAt w' ⟨w.heap.size,0,none⟩ (s.b.map fun b=>Value.int .u8 (b.toNat:Int))/\∃ C fz,w'.heap[w.heap.size]? = some (.cells C e fz):=by
 have hrun:=run_bytes_of_string w t t' e ⟨s.b.toArray⟩ hs hd he
 have hsz:(⟨s.b.toArray⟩:ByteArray).size=s.b.length:=by simp [ByteArray.size]
 have hge:=grownCap_ge w (⟨s.b.toArray⟩:ByteArray).size 0 e
 have hle:=grownCap_le_maxLen w (⟨s.b.toArray⟩:ByteArray).size 0 e (by rw [hsz]; simp [maxLen]; omega)
 generalize hcap:grownCap w (⟨s.b.toArray⟩:ByteArray).size 0 e=cap at *
 rw [hsz] at hge
 generalize hC:bytesRow ⟨s.b.toArray⟩ cap=C at hrun
 have hnew:(w.drew.alloc (.cells C e (C.size,C.size+1))).heap[w.heap.size]? = some (.cells C e (C.size,C.size+1)):=heap_alloc_new w.drew _
 refine ⟨some ⟨w.heap.size,0,none⟩,cap,w.drew.alloc (.cells C e (C.size,C.size+1)),fun a _ _ _ _ ha=>?_,?_,hge,hle,rfl,by simp,fun j v hv=>?_,C,_,hnew⟩
 ·rw [hsz] at hrun
  simp only [Str.val] at hx
  simp [execOp,ha.ev hx,hrun]
 ·have:=Kp.alloc w.drew (.cells C e (C.size,C.size+1))
  exact ⟨this.os,this.tape,this.output,this.size,this.block⟩
 ·rw [add_lit,Nat.zero_add,cell_of_row _ w.heap.size j C _ _ hnew]
  subst hC
  simp only [List.getElem?_map,Option.map_eq_some_iff] at hv
  obtain ⟨b,hb,rfl⟩:=hv
  have hj:j<s.b.length:=(List.getElem?_eq_some_iff.1 hb).1
  rw [List.getElem?_eq_getElem hj] at hb
  have hb2:=Option.some.inj hb
  simp [bytesRow,hj,Array.getElem?_append,hb2]
theorem eD (s:Str):(⟨s.b.toArray⟩:ByteArray).size=s.b.length:=by simp [ByteArray.size]
theorem R.xt {s:Str} {i:Nat} {k:IntKind} {z:Operand} (hx:ev fr x=some s.val) (hz:ev fr z=some (.int k (i:Int))) (ht:P.underlying t=some .string) (hi:i<=s.b.length):ah P n fr w (.slice t x (some z) none none) ty (⟨s.b.drop i⟩:Str).val w:=fun _ _ _ _ _ ha=>by
 have e0:=run_sliceAt_string (P:=P) w t (.string ⟨s.b.toArray⟩) (some (.int k (i:Int))) none none ht
 have:=run_slice_string_l (P:=P) w t ⟨s.b.toArray⟩ ht k (i:Int) (by omega) (by rw [eD]; omega)
 have e:s.cut i s.b.length=⟨s.b.drop i⟩:=by simp [Str.cut,<- List.length_drop]
 rw [<- e,<- Str.jX s i s.b.length]
 rw [eD,Int.toNat_natCast] at this
 simp only [Str.val] at hx
 simp [execOp,ha.ev hx,ha.ev hz,e0,this]
theorem R.wq {s:Str} {i j:Nat} {k k':IntKind} {z z':Operand} (hx:ev fr x=some s.val) (hz:ev fr z=some (.int k (i:Int))) (hz':ev fr z' = some (.int k' (j:Int))) (ht:P.underlying t=some .string) (hij:i<=j) (hj:j<=s.b.length):ah P n fr w (.slice t x (some z) (some z') none) ty (⟨(s.b.drop i).take (j - i)⟩:Str).val w:=fun _ _ _ _ _ ha=>by
 have e0:=run_sliceAt_string (P:=P) w t (.string ⟨s.b.toArray⟩) (some (.int k (i:Int))) (some (.int k' (j:Int))) none ht
 have:=run_slice_string (P:=P) w t ⟨s.b.toArray⟩ k k' (i:Int) (j:Int) ht (by omega) (by omega) (by rw [eD]; omega)
 have e:(⟨(s.b.drop i).take (j - i)⟩:Str)=s.cut i j:=rfl
 rw [e,<- Str.jX s i j]
 rw [Int.toNat_natCast,Int.toNat_natCast] at this
 simp only [Str.val] at hx
 simp [execOp,ha.ev hx,ha.ev hz,ha.ev hz',e0,this]
theorem R.wx {s:Str} {j:Nat} {k:IntKind} {z:Operand} (hx:ev fr x=some s.val) (hz:ev fr z=some (.int k (j:Int))) (ht:P.underlying t=some .string) (hj:j<=s.b.length):ah P n fr w (.slice t x none (some z) none) ty (⟨s.b.take j⟩:Str).val w:=by
 have:=R.xQ (P:=P) (n:=n) (w:=w) (ty:=ty) hx hz ht hj
 have e:s.cut 0 j=⟨s.b.take j⟩:=by simp [Str.cut]
 rwa [e] at this
theorem R.wh {s:Str} {i:Nat} {k:IntKind} (hx:ev fr x=some s.val) (hy:ev fr y=some (.int k (i:Int))) (ht:P.underlying t=some .string) (hi:i<s.b.length):ah P n fr w (.index t x y) ty (.int .u8 ((s.b.getD i 0).toNat:Int)) w:=fun _ _ _ _ _ ha=>by
 have:=run_index_string (P:=P) w t ⟨s.b.toArray⟩ k (i:Int) ht
 rw [dif_pos ⟨by omega,by rw [eD]; omega⟩] at this
 simp only [Str.val] at hx
 have e:((⟨s.b.toArray⟩:ByteArray)[(i:Int).toNat]'(by simp [ByteArray.size]; omega))=s.b.getD i 0:=by
  rw [List.getD_eq_getElem?_getD,List.getElem?_eq_getElem hi]
  simp [ByteArray.getElem_eq_getElem_data]
 rw [e] at this
 simp [execOp,ha.ev hx,ha.ev hy,this]
end
section
variable {P:Program} {T:List (Nat × TI)} {G:Gl} {n:Nat} {F:Fr} {w:World} {x y:Operand} {ty t t':TypeId} {ρ:List RE} {H:AH}
theorem mK (hT:ao P G.shp T) {s:Sh} (h:vR T t=some s):∃ e,P.underlying t=some (.slice e)/\G.shp e=some s/\(∃ z:List Value,(P.info? e).map (fun i=>(i.zero.map Value.cells,i.size,i.bytes))=some (some z.toArray,s.size,s.bytes)/\mN (cellsOf s (aJ s)) z=true)/\(P.info? e).map (·.size)=some s.size/\(s = .u8->P.underlying e=some (.int .u8)):=by
 unfold vR at h
 split at h
 ·rename_i e so sz z hf
  subst h
  obtain ⟨h1,h2⟩:=(hT _ _ hf).2
  obtain ⟨h3,⟨zz,h4,h5⟩,h6⟩:=h2 s rfl
  refine ⟨e,h1,h3,⟨zz,h4,h5⟩,?_,h6⟩
  cases hq:P.info? e with
  | none=>simp [hq] at h4
  | some i=>simp only [hq,Option.map_some,Option.some.injEq,Prod.mk.injEq] at h4 ⊢; exact h4.2.1
 ·cases h
theorem fV {b:AV} {i:Int} {v:Value} {c:Cx} (h:b.ix=some i) (hb:Rd c ρ b v):∃ k,v = .int k i:=by
 cases b <;> simp only [AV.ix] at h <;> cases h
 ·cases hb with | int=>exact ⟨_,rfl⟩
 ·cases hb with | u8=>exact ⟨_,rfl⟩
 ·cases hb with | u64=>exact ⟨_,rfl⟩
theorem pR {c:Cx} {s:Sh} {xs:List (den s)} {v:Value} {i:Nat} {x:den s} (h:Pd c (.fz s xs) v) (hx:xs[i]? = some x):∃ A k,v = .slice (some A) xs.length k/\i<xs.length/\Rd c ρ (.fe s x 0) (.pointer (some (A.add (i*s.size))))/\∃ us,Pds c (cellsOf s x) us:=by
 have hi:i<xs.length:=(List.getElem?_eq_some_iff.1 hx).1
 cases h with
 | fz h1 h2 h3 h4 h5=>
  rcases h5 with h5 | ⟨A,rfl,hat,hc⟩
  ·subst h5; simp at hi
  ·have h7:=(h4.drop (i*s.size)).take s.size
   rw [eL hx] at h7
   refine ⟨A,_,rfl,hi,⟨A.add (i*s.size),_,by rw [fB]; exact hat.1,(hc.shift _).take _,h7,by rw [jN]⟩,_,h7⟩
theorem eF {s:Sh} {xs:List (den s)} {i:Nat} (h:i<xs.length):xs[i]? = some (xs.getD i (aJ s)):=by
 rw [List.getD_eq_getElem?_getD,List.getElem?_eq_getElem h]; rfl
theorem oH {a:Option Addr} {c i s:Nat} {c':Cx} {sh:Sh} {ys:List (den sh)} {cells:List Value} (hi:i<=c) {A:Addr} (hA:a=some A) (hcells:CellsAt c'.w A cells) (hat:c'.at sh A.block) (hys:Pds c' (ys.flatMap (cellsOf sh)) ((cells.drop (i*s)).take (ys.length*s))) (hl:ys.length<=c - i) (hc:c<=maxLen) (hb:ys.length*sh.bytes<=140737488355328) :
  Pd c' (.fz sh ys) (.slice (if c=i then a else a.map (·.add (i*s))) ys.length (c - i)):=by
 refine .fz hl (by omega) hb hys ?_
 by_cases h:c=i
 ·left; exact List.eq_nil_of_length_eq_zero (by omega)
 ·right
  rw [if_neg h,hA]
  exact ⟨A.add (i*s),rfl,by rw [fB]; exact hat,(hcells.shift _).take _⟩
theorem pj (hT:ao P G.shp T) (hR:Rep G ρ H w) {s':Sh} {a:AV} {i:Int} {r:PR} {va:Value} {k:IntKind} (hs:vR T t=some s') (h:gV H s' a i=some r) (hob:∀ p ∈ r.ob,p) (ha:Rd (cx G ρ w) ρ a va) (hx:ev F x=some va) (hy:ev F y=some (.int k i)) :
  ∃ v,ah P n F w (.indexAddr t x y) ty v w/\Rt (cx G ρ w) ρ r.v v/\∀ p ∈ r.fc,p:=by
 obtain ⟨e,hu,_,_,hsz,_⟩:=mK hT hs
 cases a with
 | fz s xs=>
  simp only [gV] at h
  split at h
  ·rename_i hd
   cases h
   have e1:s' = s:=of_decide_eq_true hd
   subst e1
   have h0:=hob _ (List.mem_cons_self); have h1:=hob _ (List.mem_cons_of_mem _ (List.mem_singleton_self _))
   obtain ⟨j,rfl⟩:=Int.eq_ofNat_of_zero_le h0
   have hj:j<xs.length:=by omega
   obtain ⟨A,kk,rfl,_,hfe,us,hus⟩:=pR (ρ:=ρ) ha (eF hj)
   exact ⟨_,R.eo hx hy hu hsz rfl hj,hfe,hus.eU⟩
  ·cases h
 | own id=>
  simp only [gV] at h
  split at h
  ·rename_i t0 s xs hH
   split at h
   ·rename_i hd
    cases h
    have e1:s' = s:=of_decide_eq_true hd
    subst e1
    have h0:=hob _ (List.mem_cons_self); have h1:=hob _ (List.mem_cons_of_mem _ (List.mem_singleton_self _))
    obtain ⟨j,rfl⟩:=Int.eq_ofNat_of_zero_le h0
    have hj:j<xs.length:=by omega
    rcases aE hR hH with ⟨_,rfl⟩ | ⟨g,cap,cells,sp,h2,h3,h4,h5⟩
    ·simp at hj
    ·rcases ha with ⟨_,_,_,_,h6,rfl⟩ | ⟨h6,_⟩
     ·rw [h2] at h6; cases h6
      have:=R.eo (P:=P) (n:=n) (w:=w) (ty:=ty) hx hy hu hsz rfl hj
      rw [add_lit,Nat.zero_add] at this
      have h7:=(h4.drop (j*s'.size)).take s'.size
      rw [eL (eF hj)] at h7
      exact ⟨_,this,⟨g,cap,xs.length,s'.size,h2,hj,rfl⟩,h7.eU⟩
     ·rw [h2] at h6; cases h6
   ·cases h
  ·cases h
 | _=>simp [gV] at h
theorem oO (hT:ao P G.shp T) {c:Cx} {a:AV} {l h:Option Int} {ol oh:Option Operand} {r:PR} {va:Value} (hr:dD T t a l h=some r) (hob:∀ p ∈ r.ob,p) (ha:Rd c ρ a va) (hx:ev F x=some va)
  (hl:∀ i,l=some i->∃ z,ol=some z/\ev F z=some (.int .i64 i)) (hl0:l=none->ol=none) (hh:∀ i,h=some i->∃ z,oh=some z/\ev F z=some (.int .i64 i)) (hh0:h=none->oh=none) :
  ∃ v,ah P n F w (.slice t x ol oh none) ty v w/\Rt c ρ r.v v/\r.fc=[]:=by
 cases a with
 | fz s xs=>
  simp only [dD] at hr
  split at hr
  ·rename_i s' hs
   split at hr
   ·rename_i hd
    have e1:s' = s:=of_decide_eq_true hd
    subst e1
    obtain ⟨e,hu,_,_,hsz,_⟩:=mK hT hs
    cases ha with
    | @fz _ _ a k cells h1 h2 h3 h4 h5=>
    have main:∀ (i:Nat) (ys:List (den s')),i<=xs.length->ys.length<=xs.length - i->Pds c (ys.flatMap (cellsOf s')) ((cells.drop (i*s'.size)).take (ys.length*s'.size))->Pd c (.fz s' ys) (.slice (if k=i then a else a.map (·.add (i*s'.size))) ys.length (k - i)):=by
     intro i ys hi hy hp
     rcases h5 with h5 | ⟨A,rfl,hat,hc⟩
     ·subst h5
      have h00:([]:List (den s')).length=0:=rfl
      have:ys=[]:=List.eq_nil_of_length_eq_zero (by omega)
      subst this
      exact .fz (xs:=([]:List (den s'))) (cells:=[]) (by simp) bK (by simp) .nil (.inl rfl)
     ·exact oH bK rfl hc hat hp bK h2 (fA h3 bK)
    have hcl:cells.length=xs.length*s'.size:=by rw [<- h4.length,aD]
    split at hr
    ·-- from l
     rename_i i
     cases hr
     obtain ⟨z,rfl,hz⟩:=hl _ rfl
     obtain rfl:=hh0 rfl
     have g0:=hob _ (List.mem_cons_self); have g1:=hob _ (List.mem_cons_of_mem _ (List.mem_singleton_self _))
     obtain ⟨i,rfl⟩:=Int.eq_ofNat_of_zero_le g0
     have hi:i<=xs.length:=by omega
     have:=main i (xs.drop i) hi (by simp) (by
      rw [List.length_drop,List.take_of_length_le (by rw [List.length_drop,hcl,Nat.sub_mul]; omega)]
      exact aU h4 i)
     rw [List.length_drop] at this
     exact ⟨_,R.ve hx hz hu hsz rfl hi,this,rfl⟩
    ·rename_i j
     cases hr
     obtain ⟨z,rfl,hz⟩:=hh _ rfl
     obtain rfl:=hl0 rfl
     have g0:=hob _ (List.mem_cons_self); have g1:=hob _ (List.mem_cons_of_mem _ (List.mem_singleton_self _))
     obtain ⟨j,rfl⟩:=Int.eq_ofNat_of_zero_le g0
     have hj:j<=xs.length:=by omega
     have hlen:(xs.take j).length=j:=by simp; omega
     have:=main 0 (xs.take j) (by omega) (by simp; omega) (by
      rw [hlen,Nat.zero_mul,List.drop_zero]
      exact aK h4 j)
     rw [hlen] at this
     exact ⟨_,R.uZ hx hz hu hsz rfl bK,this,rfl⟩
    ·rename_i i j
     cases hr
     obtain ⟨z,rfl,hz⟩:=hl _ rfl
     obtain ⟨z',rfl,hz'⟩:=hh _ rfl
     have g0:=hob _ (List.mem_cons_self); have g1:=hob _ (List.mem_cons_of_mem _ (List.mem_cons_self)); have g2:=hob _ (List.mem_cons_of_mem _ (List.mem_cons_of_mem _ (List.mem_singleton_self _)))
     obtain ⟨i,rfl⟩:=Int.eq_ofNat_of_zero_le g0
     obtain ⟨j,rfl⟩:=Int.eq_ofNat_of_zero_le (Int.le_trans g0 g1)
     have hlen:((xs.drop i).take (j - i)).length=j - i:=by simp; omega
     have:=main i ((xs.drop i).take (j - i)) (by omega) (by simp; omega) (by
      rw [hlen]
      exact aK (aU h4 i) (j - i))
     rw [hlen] at this
     exact ⟨_,R.sy hx hz hz' hu hsz rfl bK bK,this,rfl⟩
    ·cases hr
   ·cases hr
  ·cases hr
 | str s=>
  simp only [dD] at hr
  split at hr
  ·rename_i sz z hf
   have hu:P.underlying t=some .string:=(hT _ _ hf).2
   cases ha with
   | str hs=>
   split at hr
   ·cases hr
    obtain ⟨z,rfl,hz⟩:=hl _ rfl
    obtain rfl:=hh0 rfl
    have g0:=hob _ (List.mem_cons_self); have g1:=hob _ (List.mem_cons_of_mem _ (List.mem_singleton_self _))
    obtain ⟨i,rfl⟩:=Int.eq_ofNat_of_zero_le g0
    exact ⟨_,R.xt hx hz hu bK,Pd.str (by simp; omega),rfl⟩
   ·cases hr
    obtain ⟨z,rfl,hz⟩:=hh _ rfl
    obtain rfl:=hl0 rfl
    have g0:=hob _ (List.mem_cons_self); have g1:=hob _ (List.mem_cons_of_mem _ (List.mem_singleton_self _))
    obtain ⟨i,rfl⟩:=Int.eq_ofNat_of_zero_le g0
    exact ⟨_,R.wx hx hz hu bK,Pd.str (by simp; omega),rfl⟩
   ·cases hr
    obtain ⟨z,rfl,hz⟩:=hl _ rfl
    obtain ⟨z',rfl,hz'⟩:=hh _ rfl
    have g0:=hob _ (List.mem_cons_self); have g1:=hob _ (List.mem_cons_of_mem _ (List.mem_cons_self)); have g2:=hob _ (List.mem_cons_of_mem _ (List.mem_cons_of_mem _ (List.mem_singleton_self _)))
    obtain ⟨i,rfl⟩:=Int.eq_ofNat_of_zero_le g0
    obtain ⟨j,rfl⟩:=Int.eq_ofNat_of_zero_le (Int.le_trans g0 g1)
    exact ⟨_,R.wq hx hz hz' hu bK bK,Pd.str (by simp; omega),rfl⟩
   ·cases hr
  ·cases hr
 | _=>simp [dD] at hr
theorem tx (hT:ao P G.shp T) (hR:Rep G ρ H w) {a:AV} {m:Int} {va:Value} (h:vr T H t a=some m) (ha:Rd (cx G ρ w) ρ a va) (hx:ev F x=some va):ah P n F w (.call { callee:=.builtin .len,args:=#[x],argTypes:=#[t] }) ty (.int .i64 m) w/\I64 m:=by
 have hmax:∀ k:Nat,k<=maxLen->I64 (k:Int):=fun k hk=>by simp only [maxLen] at hk; exact ⟨by omega,by omega⟩
 unfold vr at h
 split at h
 ·rename_i s xs e so sz z hf
  cases h
  cases ha with
  | fz h1 h2 h3 h4 h5=>exact ⟨R.len hx (hT _ _ hf).2.1,hmax _ (Nat.le_trans h1 h2)⟩
 ·rename_i s sz z hf
  cases h
  cases ha with
  | str hs=>exact ⟨R.xF hx (hT _ _ hf).2,⟨by omega,by omega⟩⟩
 ·rename_i b e so sz z hf
  cases h
  cases ha with
  | em hs=>exact ⟨R.len hx (hT _ _ hf).2.1,⟨by omega,by omega⟩⟩
 ·rename_i id e so sz z hf
  split at h
  ·rename_i t0 s xs hH
   cases h
   rcases aE hR hH with ⟨h0,rfl⟩ | ⟨g,cap,cells,sp,h2,h3,h4,h5,h6,h7⟩
   ·rcases ha with ⟨_,_,_,_,h6,_⟩ | ⟨_,a,rfl⟩
    ·rw [h0] at h6; cases h6
    ·exact ⟨R.len hx (hT _ _ hf).2.1,⟨by simp,by simp⟩⟩
   ·rcases ha with ⟨_,_,_,_,h8,rfl⟩ | ⟨h8,_⟩
    ·rw [h2] at h8; cases h8
     exact ⟨R.len hx (hT _ _ hf).2.1,hmax _ (Nat.le_trans h6 h7)⟩
    ·rw [h2] at h8; cases h8
  ·cases h
 ·rename_i id off len e so sz z hf
  split at h
  ·rename_i t0 s xs hH
   cases h
   rcases ha with ⟨g,cap,L,zz,h1,h2,rfl⟩ | ⟨_,_,rfl,a,rfl⟩
   ·refine ⟨R.len hx (hT _ _ hf).2.1,?_⟩
    rcases aE hR hH with ⟨h0,_⟩ | ⟨g',cap',cells,sp,h3,_,_,_,h6,h7⟩
    ·rw [h0] at h1; cases h1
    ·rw [h3] at h1; cases h1
     exact hmax _ bK
   ·exact ⟨R.len hx (hT _ _ hf).2.1,⟨by simp,by simp⟩⟩
  ·cases h
 ·cases h
end
end Go.Proofs.YtagpmhlokhoanaaDoor
namespace Go.Proofs.YtagpmhlokhoanaaDoor
open Go.RowKit
open Go.MapKept (IsKey run_checkKey run_findKey run_setObj_map heap_set heap_alloc run_keyThatStays)
theorem fO {k:Int}:∀ {l:List MapEntry} {i:Nat},(∀ e ∈ l,∃ k,e.key = .int .i64 k) ->
  (∃ j e,l[j]? = some e/\e.key = .int .i64 k/\Instr.findNow (.int .i64) (.int .i64 k) l i=some (some (i+j,e.val))/\getM k l=some e.val /\
   ∀ v q,getM q (l.modify j fun e=>{ e with key:=.int .i64 k,val:=v })=if q=k then some v else getM q l) \/
  (Instr.findNow (.int .i64) (.int .i64 k) l i=some none/\getM k l=none/\∀ v q b,getM q (l++[{ key:=.int .i64 k,val:=v,born:=b }])=if q=k then some v else getM q l)
 | [],i,_=>.inr ⟨rfl,rfl,fun v q b=>by
   by_cases hq:q=k
   ·subst hq; simp [getM,gB]
   ·have:¬ (k=q):=fun h=>hq h.symm
    simp [getM,gB,hq,this]⟩
 | e :: l,i,h=>by
  obtain ⟨k0,hk⟩:=h e (by simp)
  have hr:=fun x hx=>h x (List.mem_cons_of_mem _ hx)
  by_cases hkk:k=k0
  ·subst hkk
   refine .inl ⟨0,e,rfl,hk,?_,?_,fun v q=>?_⟩
   ·simp [Instr.findNow,hk,Instr.sameNow]
   ·simp [getM,gB,hk]
   ·by_cases hq:q=k
    ·subst hq; simp [getM,gB]
    ·have hq2:¬ (k=q):=fun h=>hq h.symm
     simp [getM,gB,hk,hq,hq2]
  ·have hb:(k == k0)=false:=by simpa using hkk
   have hb2:¬ (k0=k):=fun h=>hkk h.symm
   rcases fO (k:=k) (i:=i+1) hr with ⟨j,e',h1,h2,h3,h3b,h4⟩ | ⟨h1,h2,h3⟩
   ·refine .inl ⟨j+1,e',h1,h2,?_,?_,fun v q=>?_⟩
    ·simp [Instr.findNow,hk,Instr.sameNow,hb,h3]; omega
    ·simp [getM,gB,hk,hb2,h3b]
    ·by_cases hq:q=k0
     ·subst hq
      simp [getM,gB,hk,hb2]
     ·have hq2:¬ (k0=q):=fun h=>hq h.symm
      have:=h4 v q
      simp [getM,gB,hk,hq2]
      simpa using this
   ·refine .inr ⟨?_,?_,fun v q b=>?_⟩
    ·simp [Instr.findNow,hk,Instr.sameNow,hb,h1]
    ·simp [getM,gB,hk,hb2,h2]
    ·by_cases hq:q=k0
     ·subst hq
      simp [getM,gB,hk,hb2]
     ·have hq2:¬ (k0=q):=fun h=>hq h.symm
      have:=h3 v q b
      simp [getM,gB,hk,hq2]
      simpa using this
section
variable {P:Program} {n:Nat} {F:Fr} {w:World} {x y z':Operand} {t ty kt et:TypeId} {g c:Nat} {k:Int} {a:Array MapEntry}
theorem R.nh {z:Value} (ok:Bool) (hx:ev F x=some (.map (some g))) (hy:ev F y=some (.int .i64 k)) (hm:P.underlying t=some (.map kt et)) (hk:P.underlying kt=some (.int .i64)) (hz:(P.info? et).bind (·.zero)=some z) (hg:w.heap[g]? = some (.map a c)) (hl:∀ e ∈ a.toList,∃ k,e.key = .int .i64 k) :
  ah P n F w (.lookup t x y ok) ty (if ok then .tuple #[(getM k a.toList).getD z,.bool (getM k a.toList).isSome] else (getM k a.toList).getD z) w:=fun a' _ _ _ _ ha=>by
 have hik:IsKey (.int .i64) (.int .i64 k):=rfl
 have e2:(zeroValue et).run P w = .ok z w:=by
  cases hq:P.info? et with
  | none=>simp [hq] at hz
  | some i=>simp [hq] at hz; simp [zeroValue,typeInfo,hq,hz]
 have e:(Instr.lookup t (.map (some g)) (.int .i64 k) ok).run P w = .ok (if ok then .tuple #[(getM k a.toList).getD z,.bool (getM k a.toList).isSome] else (getM k a.toList).getD z) w:=by
  unfold Instr.lookup
  simp only [Sem.run_bind,run_underlying hm,Result.andThen]
  rcases fO (k:=k) (i:=0) hl with ⟨j,e0,_,_,h1,h2,_⟩ | ⟨h1,h2,_⟩
  ·simp only [Sem.run_bind,MapKept.run_getObj_map hg,Result.andThen,Sem.run_pure,show (10000:Nat)=9999+1 from rfl,run_checkKey hk hik,run_findKey hk h1]
   cases ok <;> simp [h2]
  ·simp only [Sem.run_bind,MapKept.run_getObj_map hg,Result.andThen,Sem.run_pure,show (10000:Nat)=9999+1 from rfl,run_checkKey hk hik,run_findKey hk h1]
   cases ok <;> simp [h2,e2]
 simp [execOp,ha.ev hx,ha.ev hy,e]
theorem R.lT:ah P n F w (.makeMap t none) ty (.map (some w.heap.size)) (w.alloc (.map #[] 0)):=fun a _ _ _ _ ha=>by
 simp [execOp,Instr.makeMap,newObj,Sem.run]
theorem tQ {v:Value} (hx:ev F x=some (.map (some g))) (hy:ev F y=some (.int .i64 k)) (hv:ev F z' = some v) (hm:P.underlying t=some (.map kt et)) (hk:P.underlying kt=some (.int .i64)) (hg:w.heap[g]? = some (.map a c)) (hl:∀ e ∈ a.toList,∃ k,e.key = .int .i64 k) :
  ∃ w' a' c',(bV P n F w (.insert t x y z') ty w' /\ bV P n F w (.mapUpdate t x y z') ty w')/\Kp [g] w w' /\ w'.heap[g]? = some (.map a' c')/\(∀ e ∈ a'.toList,∃ k,e.key = .int .i64 k)/\∀ q,getM q a'.toList=if q=k then some v else getM q a.toList:=by
 have hik:IsKey (.int .i64) (.int .i64 k):=rfl
 have fin:∀ a' c',(Instr.mapUpdate t (.map (some g)) (.int .i64 k) v).run P w = .ok () { w with heap:=w.heap.setIfInBounds g (.map a' c') }->(∀ e ∈ a'.toList,∃ k,e.key = .int .i64 k)->(∀ q,getM q a'.toList=if q=k then some v else getM q a.toList) ->
   ∃ w' a' c',(bV P n F w (.insert t x y z') ty w' /\ bV P n F w (.mapUpdate t x y z') ty w')/\Kp [g] w w' /\ w'.heap[g]? = some (.map a' c')/\(∀ e ∈ a'.toList,∃ k,e.key = .int .i64 k)/\∀ q,getM q a'.toList=if q=k then some v else getM q a.toList:=by
  intro a' c' e h1 h2
  have hs:=heap_set (o':=.map a' c') hg
  refine ⟨{ w with heap:=w.heap.setIfInBounds g (.map a' c') },a',c',⟨fun a'' _ _ _ _ ha=>?_,fun a'' _ _ _ _ ha=>?_⟩,⟨rfl,rfl,rfl,by simp,fun i hi hn=>hs.2 i (by simpa using hn)⟩,by simpa using hs.1,h1,h2⟩
  ·simp [execOp,ha.ev hx,ha.ev hy,ha.ev hv,e]
  ·simp [execOp,ha.ev hx,ha.ev hy,ha.ev hv,e]
 rcases fO (k:=k) (i:=0) hl with ⟨j,e0,hj,he,h1,_,h2⟩ | ⟨h1,_,h3⟩
 ·have hj':a[j]? = some e0:=by simpa using hj
  refine fin (a.modify j fun e=>{ e with key:=.int .i64 k,val:=v }) c ?_ ?_ ?_
  ·rw [Nat.zero_add] at h1
   simp [Instr.mapUpdate,run_underlying hm,MapKept.run_getObj_map hg,run_checkKey hk hik,run_findKey hk h1,hj',he,run_keyThatStays hik,run_setObj_map _ hg,Result.andThen]
  ·intro e hem
   rcases MapFrom.mem_modify hem with h | ⟨e',_,rfl⟩
   ·exact hl e h
   ·exact ⟨k,rfl⟩
  ·intro q
   rw [Array.toList_modify,h2 v q]
 ·refine fin (a.push { key:=.int .i64 k,val:=v,born:=c }) (c+1) ?_ ?_ ?_
  ·simp [Instr.mapUpdate,run_underlying hm,MapKept.run_getObj_map hg,run_checkKey hk hik,run_findKey hk h1,run_setObj_map _ hg,Result.andThen]
  ·intro e hem
   simp only [Array.toList_push,List.mem_append,List.mem_singleton] at hem
   rcases hem with hem | rfl
   ·exact hl e hem
   ·exact ⟨k,rfl⟩
  ·intro q
   rw [Array.toList_push,h3 v q c]
end
section
variable {c:Cx} {ρ:List RE} {s:Sh} {x:den s} {v:Value}
theorem sa {s:Sh} (h:s.fp=false) (x:den s):∃ a,cellsOf s x=[a]:=by
 cases s <;> first | exact ⟨_,rfl⟩ | cases h
theorem V1.rt (h:V1 c s x v):aO c ρ (qX s x) v:=by
 obtain ⟨vs,h1,⟨h2,rfl⟩ | ⟨h2,rfl⟩⟩:=h
 ·simp only [qX,h2,cond_true]; exact ⟨vs,rfl,ct h1⟩
 ·obtain ⟨a,ha⟩:=sa h2 x
  simp only [qX,h2,cond_false,ha]
  rw [ha] at h1
  cases h1 with | cons h1 _=>exact dy h1
theorem V1.zero {z:Value} {zs:List Value} (hz:mN (cellsOf s (aJ s)) zs=true) (h:(s.fp=true/\z = .agg zs.toArray)\/(s.fp=false/\zs=[z])):V1 c s (aJ s) z:=
 ⟨zs,c_ (ρ:=[]) (gb s _) (dz hz),h⟩
end
end Go.Proofs.YtagpmhlokhoanaaDoor
namespace Go.Proofs.YtagpmhlokhoanaaDoor
open Go.RowKit
def cU:Value->Lit
 | .int k n=>.int k n
 | .bool b=>.bool b
 | .string s=>.string s.data.toList
 | _=>.bool false
def wM (k:LK) (v:Value):Prop:=match k,v with
 | .i q,.int q' n=>q' = q/\(Lit.int q n).wf=true
 | .b,.bool _=>True
 | .s,.string s=>s.size<=maxLen
 | _,_=>False
def dq:List LK->List Value->Prop
 | [],[]=>True
 | k :: r,v :: l=>wM k v/\dq r l
 | _,_=>False
theorem dq.len:∀ {ks:List LK} {vs:List Value},dq ks vs->vs.length=ks.length
 | [],[],_=>rfl
 | [],_ :: _,h=>h.elim
 | _ :: _,[],h=>h.elim
 | _ :: _,_ :: _,h=>by rw [List.length_cons,List.length_cons,dq.len h.2]
theorem dq.split:∀ {ks l:List LK} {vs:List Value},dq (ks++l) vs->dq ks (vs.take ks.length)/\dq l (vs.drop ks.length)
 | [],_,_,h=>⟨trivial,h⟩
 | _ :: _,_,[],h=>h.elim
 | _ :: ks,l,_ :: vs,h=>by
  obtain ⟨h1,h2⟩:=dq.split (ks:=ks) h.2
  exact ⟨⟨h.1,h1⟩,h2⟩
section
variable {P:Program}
theorem jH {g:TypeId->Option (List LK)} {d:Nat} (hg:∀ t ks vs,g t=some ks->dq ks vs->P.keyLits d t vs=some (vs.map cU)) {cs:List Value}:∀ {F:List Go.Field} {o:Nat} {ks:List LK},su P g F o=some ks->dq ks (cs.drop o) ->
  (F.mapM fun f=>P.keyLits d f.type ((cs.drop f.offset).take (P.cellsOf f.type))).map List.flatten=some ((cs.drop o).map cU)/\(∀ f ∈ F,(f.name != "_")=true)
 | [],o,ks,h,k=>by
  cases h
  have:cs.drop o=[]:=by
   have h1:=dq.len k
   rw [List.length_drop] at h1
   rw [List.drop_eq_nil_iff]
   simp only [List.length_nil] at h1; omega
  rw [this]; exact ⟨rfl,by simp⟩
 | f :: F,o,ks,h,k=>by
  simp only [su] at h
  split at h
  ·rename_i k1 hk1
   split at h
   ·rename_i l hb hl
    cases h
    simp only [Bool.and_eq_true,decide_eq_true_eq] at hb
    obtain ⟨⟨h1,h2⟩,h3⟩:=hb
    obtain ⟨k2,k3⟩:=dq.split k
    rw [List.drop_drop] at k3
    obtain ⟨e1,e2⟩:=jH hg hl k3
    refine ⟨?_,fun x hx=>?_⟩
    ·simp only [Option.map_eq_some_iff] at e1 ⊢
     obtain ⟨L,e3,e4⟩:=e1
     refine ⟨((cs.drop o).take k1.length).map cU :: L,?_,?_⟩
     ·rw [List.mapM_cons,h1,h2,hg _ _ _ hk1 k2,e3]; rfl
     ·rw [List.flatten_cons,e4,<- List.map_append,<- List.drop_drop,List.take_append_drop]
    ·rcases List.mem_cons.1 hx with rfl | hx
     ·exact h3
     ·exact e2 x hx
   ·cases h
  ·cases h
theorem f_:∀ (d:Nat) (t:TypeId) (ks:List LK) (vs:List Value),qe P d t=some ks->dq ks vs->P.keyLits d t vs=some (vs.map cU)
 | 0,_,_,_,h,_=>by cases h
 | d+1,t,ks,vs,h,k=>by
  unfold qe at h
  unfold Program.keyLits
  split at h
  ·rename_i q hu
   cases h
   match vs,k with
   | [.int q' n],⟨⟨h1,h2⟩,_⟩=>subst h1; simp [hu,h2,cU]
  ·rename_i hu
   cases h
   match vs,k with
   | [.bool b],_=>simp [hu,cU]
  ·rename_i hu
   cases h
   match vs,k with
   | [.string s],⟨h1,_⟩=>
    have h1:s.size<=maxLen:=h1
    simp [hu,cU,h1]
  ·rename_i F hu
   split at h
   ·rename_i l hl
    split at h
    ·rename_i hd
     cases h
     have hd:=of_decide_eq_true hd
     have hlen:=dq.len k
     obtain ⟨e1,e2⟩:=jH (fun t ks vs=>f_ d t ks vs) (cs:=vs) (o:=0) hl (by simpa using k)
     have ha:F.all (·.name != "_")=true:=by
      rw [Array.all_eq_true_iff_forall_mem]
      intro f hf
      exact e2 f (Array.mem_toList_iff.2 hf)
     have hc:vs.length=P.cellsOf t/\F.all (·.name != "_")=true:=⟨by rw [hlen,hd],ha⟩
     rw [hu]
     split
     ·rename_i e; cases e
     ·rename_i e; cases e
     ·rename_i e; cases e
     ·rename_i e; cases e
     ·rename_i fs e
      cases e
      rw [if_pos hc,e1]
      simp
     ·rename_i e1' e2' e3' e4' e5'
      exact absurd rfl (by first | exact e5' _ | exact e4' _ | exact e3' _ | exact e2' _)
    ·cases h
   ·cases h
  ·cases h
theorem eH {c:Cx} {ρ:List RE}:∀ {asx:List AV} {vs:List Value} {ks:List LK},uA asx=some ks->All2 (Rd c ρ) asx vs->dq ks vs
 | [],_,_,h,k=>by cases h; cases k; trivial
 | a :: r,_,ks,h,k=>by
  cases k with
  | cons k1 k2=>
   simp only [uA] at h
   split at h
   ·rename_i q l hq hl
    cases h
    refine ⟨?_,eH hl k2⟩
    cases a <;> cases hq
    ·cases k1 with | int hI=>exact ⟨rfl,by unfold I64 at hI; simp [Lit.wf,IntKind.min,IntKind.max,IntKind.bits,IntKind.signed]; omega⟩
    ·rename_i b
     have:=b.toNat_lt
     cases k1 with | u8=>exact ⟨rfl,by simp [Lit.wf,IntKind.min,IntKind.max,IntKind.bits,IntKind.signed]; omega⟩
    ·cases k1 with | u64 hI=>exact ⟨rfl,by simp [Lit.wf,IntKind.min,IntKind.max,IntKind.bits,IntKind.signed]; omega⟩
    ·cases k1 with | bool=>trivial
    ·cases k1 with | str hI=>exact (by simp [wM,Str.val,maxLen,ByteArray.size]; omega)
   ·cases h
theorem lL {c:Cx} {ρ:List RE} {a b:AV} {u v:Value} {e:BE} (h:sB a b=some e) (ha:Rd c ρ a u) (hb:Rd c ρ b v):e.val=true↔cU u=cU v:=by
 unfold sB at h
 split at h <;> cases h
 ·cases ha; cases hb; simp [BE.val,cU]
 ·cases ha; cases hb; simp [BE.val,cU]
 ·cases ha; cases hb; simp [BE.val,cU]
 ·cases ha; cases hb; simp [BE.val,cU]
 ·rename_i s s'
  cases ha; cases hb
  cases s; cases s'
  simp [BE.val,cU,Str.val]
theorem ij {c:Cx} {ρ:List RE}:∀ {asx bs:List AV} {us vs:List Value} {e:BE},lI asx bs=some e->All2 (Rd c ρ) asx us->All2 (Rd c ρ) bs vs->(e.val=true↔us.map cU=vs.map cU)
 | [],[],_,_,_,h,ha,hb=>by cases h; cases ha; cases hb; simp [BE.val]
 | [],_ :: _,_,_,_,h,_,_=>by cases h
 | _ :: _,[],_,_,_,h,_,_=>by simp [lI] at h
 | [a],[b],_,_,_,h,ha,hb=>by
  cases ha with | cons ha1 ha2=>cases ha2; cases hb with | cons hb1 hb2=>cases hb2; simpa using lL h ha1 hb1
 | [a],b :: b2 :: l,_,_,_,h,_,_=>by
  simp only [lI] at h
  split at h
  ·rename_i h2; cases h2
  ·cases h
 | a :: a2 :: r,[b],_,_,_,h,_,_=>by
  simp only [lI] at h
  split at h
  ·rename_i h2; cases r <;> simp [lI] at h2
  ·cases h
 | a :: a2 :: r,b :: b2 :: l,_,_,_,h,ha,hb=>by
  simp only [lI] at h
  split at h
  ·rename_i x y h1 h2
   cases h
   cases ha with | cons ha1 ha2=>
   cases hb with | cons hb1 hb2=>
   have e1:=lL h1 ha1 hb1
   have e2:=ij h2 ha2 hb2
   simp only [BE.val,Bool.and_eq_true,e1,e2,List.map_cons,List.cons.injEq]
  ·cases h
theorem nj {t:TypeId} {ks:List LK} {xs ys:List Value} {w:World} (h:xc P t ks=true) (hx:dq ks xs) (hy:dq ks ys) (hs:∃ F,P.underlying t=some (.struct F)) :
  P.eqGuardType P.depth t=false/\∃ r:Bool,(Op.equalIn 10000 t (.agg xs.toArray) (.agg ys.toArray)).run P w = .ok r w/\(r=true↔xs.map cU=ys.map cU):=by
 simp only [xc,Bool.and_eq_true,decide_eq_true_eq,Bool.not_eq_true'] at h
 obtain ⟨⟨h1,h2⟩,h3⟩:=h
 obtain ⟨F,hF⟩:=hs
 have hc:P.cellsOf t=ks.length:=by
  have h1:=h1
  unfold qe at h1
  rw [hF] at h1
  simp only at h1
  split at h1
  ·split at h1
   ·rename_i hd; cases h1; exact of_decide_eq_true hd
   ·cases h1
  ·cases h1
 refine ⟨h3,?_⟩
 have:=run_equalIn_deep (P:=P) 9992 8 t h2 w 8 8 (.agg xs.toArray) (.agg ys.toArray) (xs.map cU) (ys.map cU)
  (by simp [Value.formed,hF,hc,hx.len]) (by simp [Value.formed,hF,hc,hy.len])
  (by simpa [Value.cells] using f_ 8 t ks xs h1 hx) (by simpa [Value.cells] using f_ 8 t ks ys h1 hy)
 exact this
theorem sY {T:List (Nat × TI)} {G:Gl} {n:Nat} {F:Fr} {w:World} {x y:Operand} {ty t t':TypeId} {c:Cx} {ρ:List RE} (hT:ao P G.shp T) {op:BinOp} {asx bs:List AV} {r:PR} {us vs:List Value} (h:xI T op t asx bs=some r) (ha:All2 (Rd c ρ) asx us) (hb:All2 (Rd c ρ) bs vs) (hx:ev F x=some (.agg us.toArray)) (hy:ev F y=some (.agg vs.toArray)) :
  ∃ v,ah P n F w (.binOp op t x y t') ty v w/\Rt c ρ r.v v/\r.fc=[]:=by
 unfold xI at h
 split at h
 ·rename_i fs sz z ht
  obtain ⟨Fs,hF,_,_,hE⟩:=(hT _ _ ht).2
  split at h
  ·rename_i k k1 k2 hk hk1 hk2
   have hq:=hE _ hk
   split at h
   ·rename_i e hd he
    simp only [Bool.and_eq_true,decide_eq_true_eq] at hd
    obtain ⟨rfl,rfl⟩:=hd
    cases h
    obtain ⟨hg,b,hb1,hb2⟩:=nj (w:=w) hq (eH hk1 ha) (eH hk2 hb) ⟨Fs,hF⟩
    have e1:b=e.val:=Bool.eq_iff_iff.2 (hb2.trans (ij he ha hb).symm)
    subst e1
    refine ⟨_,fun _ _ _ _ _ hm=>?_,Pd.bool (e:=e),rfl⟩
    simp [execOp,hm.ev hx,hm.ev hy,run_eqGuard_agg w .eql t x y _ _ hg,run_eql_struct,hb1]
   ·rename_i e hd he
    simp only [Bool.and_eq_true,decide_eq_true_eq] at hd
    obtain ⟨rfl,rfl⟩:=hd
    cases h
    obtain ⟨hg,b,hb1,hb2⟩:=nj (w:=w) hq (eH hk1 ha) (eH hk2 hb) ⟨Fs,hF⟩
    have e1:b=e.val:=Bool.eq_iff_iff.2 (hb2.trans (ij he ha hb).symm)
    subst e1
    refine ⟨_,fun _ _ _ _ _ hm=>?_,Pd.bool (e:=.not e),rfl⟩
    simp [execOp,hm.ev hx,hm.ev hy,run_eqGuard_agg w .neq t x y _ _ hg,run_neq_struct,hb1,BE.val]
   ·cases h
  ·cases h
 ·cases h
end
section
variable {P:Program} {T:List (Nat × TI)} {G:Gl} {O:cZ} {n:Nat} {F:Fr} {w:World} {x y:Operand} {ty t t':TypeId} {ρ:List RE} {H:AH}
theorem oT {m:Nat} (h:m<18446744073709551616):IntKind.i64.wrap (m:Int)=qb m:=by
 unfold qb
 simp only [IntKind.wrap,IntKind.bits,IntKind.signed]
 simp
 split <;> split <;> omega
theorem pO {m:Nat} (h:m<18446744073709551616):I64 (qb m):=by
 unfold qb I64; split <;> omega
theorem y0 {op:Op} {v:Value} {r:PR} (h:ah P n F w op ty v w) (hr:Rt (cx G ρ w) ρ r.v v) (hf:∀ p ∈ r.fc,p):Yields P n F w op ty fun v w'=>Kp [] w w' /\ Rt (cx G ρ w') ρ r.v v/\∀ p ∈ r.fc,p:=
 .inl ⟨v,w,h,Kp.refl w,hr,hf⟩
theorem pN {r:PR} (h:r.fc=[]):∀ p ∈ r.fc,p:=by rw [h]; simp
theorem pB (hT:ao P G.shp T) (hR:Rep G ρ H w) {a b:TI} {u:AV} {r:PR} {va:Value} (ht:au T t=some a) (ht':au T t' = some b) (h:qt H a.k b.k u=some r) (hob:∀ p ∈ r.ob,p) (ha:Rd (cx G ρ w) ρ u va) (hx:ev F x=some va) :
  Yields P n F w (.convert t t' x) ty fun v w'=>Kp [] w w' /\ Rt (cx G ρ w') ρ r.v v/\∀ p ∈ r.fc,p:=by
 have hs:=(hT _ _ ht).2
 have hd:=(hT _ _ ht').2
 unfold qt at h
 split at h
 ·rename_i k1 k2 m e1 e2
  rw [e1] at hs; rw [e2] at hd
  cases h
  cases ha with | int hI=>
  have:=R.conv (P:=P) (n:=n) (w:=w) (ty:=ty) hx hs hd
  rw [hI.wrap] at this
  exact y0 this (Pd.int hI) (by simp)
 ·rename_i k1 k2 m e1 e2
  rw [e1] at hs; rw [e2] at hd
  cases h
  cases ha with | u8=>
  have hm:=m.toNat_lt
  exact y0 (R.vO hx hs hd) (Pd.int ⟨by omega,by omega⟩) (by simp)
 ·rename_i k1 k2 m e1 e2
  rw [e1] at hs; rw [e2] at hd
  cases h
  cases ha with | u8=>
  have hm:=m.toNat_lt
  exact y0 (R.pZ hx hs hd bK) (Pd.u64 bK) (by simp)
 ·rename_i k1 k2 m e1 e2
  rw [e1] at hs; rw [e2] at hd
  cases h
  cases ha with | int hI=>
  have h0:=hob _ (List.mem_singleton_self _)
  obtain ⟨m,rfl⟩:=Int.eq_ofNat_of_zero_le h0
  exact y0 (R.wI hx hs hd) Pd.u8 (by simp)
 ·rename_i k1 k2 m e1 e2
  rw [e1] at hs; rw [e2] at hd
  cases h
  cases ha with | int hI=>
  have h0:=hob _ (List.mem_singleton_self _)
  obtain ⟨m,rfl⟩:=Int.eq_ofNat_of_zero_le h0
  have:m<18446744073709551616:=by have:=hI.2; omega
  exact y0 (R.pZ hx hs hd this) (Pd.u64 this) (by simp)
 ·rename_i k1 k2 m e1 e2
  rw [e1] at hs; rw [e2] at hd
  cases h
  cases ha with | u64 hI=>
  exact y0 (R.wI hx hs hd) Pd.u8 (by simp)
 ·rename_i k1 k2 m e1 e2
  rw [e1] at hs; rw [e2] at hd
  cases h
  cases ha with | u64 hI=>
  have:=R.conv (P:=P) (n:=n) (w:=w) (ty:=ty) hx hs hd
  rw [oT hI] at this
  exact y0 this (Pd.int (pO hI)) (by simp)
 ·rename_i k1 k2 m e1 e2
  rw [e1] at hs; rw [e2] at hd
  cases h
  cases ha with | u64 hI=>
  exact y0 (R.pZ hx hs hd hI) (Pd.u64 hI) (by simp)
 ·rename_i k1 k2 e v1 e1 e2
  rw [e1] at hs; rw [e2] at hd
  obtain ⟨hs1,hs2⟩:=hs
  obtain ⟨_,_,he⟩:=hs2 .u8 rfl
  split at h
  ·rename_i xs hv
   cases h
   have hrd:=ov hR hv ha
   refine y0 (R.qZ rfl hx hs1 hd (he rfl) hrd) (Pd.str ?_) (by simp)
   have:=hrd.le
   simp only [Sh.bytes] at this
   show xs.length<=_
   omega
  ·rename_i b hv
   cases h
   obtain ⟨q,ha,hv⟩:∃ q,Rd (cx G ρ w) ρ q va/\q.vw H = .em b:=⟨_,ha,hv⟩
   cases q <;> simp only [AV.vw] at hv
   case em=>
    have hrd:Sread (cx G ρ w) .u8 [] va:=Pd.um (Pd.kX ha) fun b hb=>hb.1
    exact y0 (R.qZ rfl hx hs1 hd (he rfl) hrd) (Pd.str (by simp)) (by simp)
   case own=>split at hv <;> cases hv
   case sub=>split at hv <;> cases hv
   all_goals cases hv
  ·cases h
 ·rename_i k1 e s e1 e2
  rw [e1] at hs; rw [e2] at hd
  obtain ⟨hd1,hd2⟩:=hd
  obtain ⟨hshp,_,he⟩:=hd2 .u8 rfl
  cases h
  cases ha with | str hl=>
  obtain ⟨a,k,w',hrun,hk,h1,h2,h3,h4,h5,C,fz,h6⟩:=R.pU (P:=P) (n:=n) (fr:=F) (w:=w) (x:=x) (ty:=ty) (t:=t) (t':=t') (s:=s) hx hl hs hd1 (he rfl)
  refine .inl ⟨_,w',hrun,hk,?_,by simp⟩
  have hp:Pds (cx G ρ w') (s.b.flatMap (cellsOf .u8)) (s.b.map fun b=>Value.int .u8 (b.toNat:Int)):=by
   generalize s.b=l
   induction l with
   | nil=>exact .nil
   | cons b l ih=>exact .cons .u8 ih
  exact Pd.fz (s:=.u8) (xs:=s.b) h1 h2 (by simpa [Sh.bytes] using hl) hp (.inr ⟨_,h3,⟨⟨h4,fun ⟨i,r,e1,e2⟩=>by have:=(hR.bnd i r _ e1 e2).2.1; simp at this,fun hz=>by have:=hR.z _ hz; simp at this⟩,.inr ⟨C,e,fz,h6,hshp⟩⟩,h5⟩)
 ·cases h
theorem pc (off:Nat):∀ (us:List Value) (j:Nat) (a b:List Value),us.length<=b.length->a.length=off+j ->
  (us.zipIdx j).foldl (fun cs (c:Value × Nat)=>cs.setIfInBounds (off+c.2) c.1) (a++b).toArray=(a++us++b.drop us.length).toArray:=by
 intro us
 induction us with
 | nil=>intro j a b _ _; simp
 | cons u us ih=>
  intro j a b hb ha
  cases b with
  | nil=>simp at hb
  | cons b0 b=>
   simp only [List.zipIdx_cons,List.foldl_cons]
   have:((a++b0 :: b).toArray.setIfInBounds (off+j) u)=((a++[u])++b).toArray:=by simp [<- ha]
   rw [this,ih (j+1) (a++[u]) b (by simpa using hb) (by simp [ha]; omega)]
   simp
theorem fZ {c:Cx} {fs:List (Nat × Nat)} {place:Nat->Option (Nat × Nat)} (hpl:∀ (i:Nat) (q:Nat × Nat),fs[i]? = some q->place i=some q):∀ {parts:List (Nat × TV1)} {pv:List (Nat × Value)} {z:List AV} {zs:List Value} {cs:List AV},All2 (fun p q=>p.1=q.1/\aO c ρ p.2 q.2) parts pv->All2 (Rd c ρ) z zs->eu fs z parts=some cs ->
  ∃ us,Instr.fill place zs.toArray pv=some (List.toArray us)/\All2 (Rd c ρ) cs us
 | [],_,z,zs,cs,hp,hz,h=>by
  cases hp
  cases h
  exact ⟨zs,rfl,hz⟩
 | (i,v) :: r,_,z,zs,cs,hp,hz,h=>by
  cases hp with
  | @cons _ q _ qs h1 h2=>
  obtain ⟨i',u⟩:=q
  obtain ⟨e,hv⟩:=h1
  simp only at e; subst e
  simp only [eu] at h
  split at h
  ·rename_i o k hfs
   split at h
   ·rename_i hck
    simp only [Bool.and_eq_true] at hck
    have e1:v.cells.length=k:=Nat.eq_of_beq_eq_true hck.1
    have e2:=Nat.le_of_ble_eq_true hck.2
    obtain ⟨us,hus,hcells⟩:=aO.cells hv
    have hlen:v.cells.length=us.length:=hcells.length
    have hzl:=hz.length
    have hov:All2 (Rd c ρ) (over z o v.cells) (zs.take o++us++zs.drop (o+us.length)):=by
     unfold over
     rw [<- hlen]
     exact ((hz.take o).append hcells).append (hz.drop _)
    obtain ⟨us',h3,h4⟩:=fZ hpl h2 hov h
    refine ⟨us',?_,h4⟩
    simp only [Instr.fill,hpl _ _ hfs,hus]
    have hfold:(us.toArray.zipIdx.foldl (fun cs (c:Value × Nat)=>cs.setIfInBounds (o+c.2) c.1) zs.toArray)=(zs.take o++us++zs.drop (o+us.length)).toArray:=by
     have h5:=pc o us 0 (zs.take o) (zs.drop o) (by simp; omega) (by simp; omega)
     rw [List.take_append_drop,List.drop_drop] at h5
     rw [<- h5]
     simp
    rw [if_neg (by simp; omega)]
    refine Eq.trans ?_ h3
    congr 1
   ·cases h
  ·cases h
theorem pa (hT:ao P G.shp T) {c:Cx} {fs:List (Nat × Nat)} {sz:Nat} {z cs:List AV} {parts:List (Nat × Operand)} {l:List (Nat × TV1)} {pv:List (Nat × Value)} (ht:au T t=some ⟨.st fs,sz,z⟩) (hp:se F parts=some pv) (hl:All2 (fun p q=>p.1=q.1/\aO c ρ p.2 q.2) l pv) (h:eu fs z l=some cs) :
  ∃ us,ah P n F w (.build t parts.toArray) ty (.agg (List.toArray us)) w/\All2 (Rd c ρ) cs us:=by
 obtain ⟨⟨hsz,zs,hz,hzb⟩,Fs,hu,hm,_⟩:=hT _ _ ht
 obtain ⟨us,h1,h2⟩:=fZ (place:=(fs.toArray[·]?)) (fun i q hq=>by simpa using hq) hl (dz hzb) h
 refine ⟨us,R.rE hp ?_,h2⟩
 unfold Program.built
 cases hq:P.info? t with
 | none=>rw [hq] at hz; simp at hz
 | some i=>
  rw [hq] at hz
  simp only [Option.bind_some,Option.map_eq_some_iff] at hz
  obtain ⟨zv,hzv,hzc⟩:=hz
  simp only [hu,hzv,hm,hzc]
  exact h1
theorem kE {e:TypeId} {s:Sh} (hT:ao P G.shp T) (h:ua T e=some s):s.size=1/\(P.info? e).map (·.size)=some 1/\∃ d,P.underlying e=some d/\er d=false:=by
 unfold ua at h
 split at h <;> cases h <;> rename_i hf <;> obtain ⟨⟨h1,_⟩,h2⟩:=hT _ _ hf <;> exact ⟨rfl,h1,_,h2,rfl⟩
theorem jQ:∀ {n k i:Nat} {q:Nat × Nat},(ez k n)[i]? = some q->q=(k+i,1)
 | 0,_,_,_,h=>by simp [ez] at h
 | n+1,k,0,q,h=>by simp [ez] at h; exact h.symm
 | n+1,k,i+1,q,h=>by
  rw [ez,List.getElem?_cons_succ] at h
  rw [jQ h,show k+1+i=k+(i+1) by omega]
theorem nd (hT:ao P G.shp T) {c:Cx} {m sz:Nat} {e:TypeId} {s:Sh} {z cs:List AV} {parts:List (Nat × Operand)} {l:List (Nat × TV1)} {pv:List (Nat × Value)} (ht:au T t=some ⟨.ar m e,sz,z⟩) (he:ua T e=some s) (hp:se F parts=some pv) (hl:All2 (fun p q=>p.1=q.1/\aO c ρ p.2 q.2) l pv) (h:eu (ez 0 m) z l=some cs) :
  ∃ us,ah P n F w (.build t parts.toArray) ty (.agg (List.toArray us)) w/\All2 (Rd c ρ) cs us:=by
 obtain ⟨⟨hsz,zs,hz,hzb⟩,hu⟩:=hT _ _ ht
 have hu:P.underlying t=some (.array m e):=hu
 obtain ⟨_,hes,_⟩:=kE hT he
 obtain ⟨us,h1,h2⟩:=fZ (place:=fun i=>some (i*1,1)) (fun i q hq=>by rw [jQ hq]; simp) hl (dz hzb) h
 refine ⟨us,R.rE hp ?_,h2⟩
 unfold Program.built
 cases hq:P.info? t with
 | none=>rw [hq] at hz; simp at hz
 | some i=>
  rw [hq] at hz
  simp only [Option.bind_some,Option.map_eq_some_iff] at hz
  obtain ⟨zv,hzv,hzc⟩:=hz
  cases hqe:P.info? e with
  | none=>rw [hqe] at hes; cases hes
  | some ie=>
   rw [hqe] at hes
   have hs1:ie.size=1:=by simpa using hes
   simp only [hu,hzv,hzc,hqe,hs1]
   exact h1
theorem kR {c:Cx}:∀ {l:List TV1} {q:List (Nat × Nat)} {vs:List Value},ef l=some q->All2 (aO c ρ) l vs->All2 (ck ρ) q vs
 | [],_,_,h,hv=>by cases h; cases hv; exact .nil
 | .c (.ptr id o) :: r,q,_,h,hv=>by
  simp only [ef] at h
  split at h
  ·rename_i l hl
   cases h
   cases hv with
   | cons h1 h2=>exact .cons h1 (kR hl h2)
  ·cases h
 | .agg _ :: _,_,_,h,_=>by simp [ef] at h
 | .c a :: r,q,_,h,hv=>by
  cases a with
  | ptr id o=>
   simp only [ef] at h
   split at h
   ·rename_i l hl
    cases h
    cases hv with
    | cons h1 h2=>exact .cons h1 (kR hl h2)
   ·cases h
  | _=>simp [ef] at h
theorem ou {c:Cx}:∀ {q:List (Nat × Nat)} {vs:List Value},All2 (ck ρ) q vs->All2 (aO c ρ) (q.map fun q=>.c (.ptr q.1 q.2)) vs
 | [],_,h=>by cases h; exact .nil
 | _ :: _,_,h=>by cases h with | cons h1 h2=>exact .cons h1 (ou h2)
theorem dE {c:Cx} {fr:AFr} (hf:ba c ρ fr F) {cl:Call} {f:Nat} {l:List TV1} (h:cm fr cl=some (f,l)):∃ x xs vs cap,cl.callee = .value x/\cl.args=List.toArray xs/\ev F x=some (.func (.func f) #[] (List.toArray cap))/\uc F xs=some vs/\All2 (aO c ρ) l (vs++cap):=by
 unfold cm at h
 split at h
 ·rename_i x hc
  split at h
  ·rename_i g cs l' hx hl
   cases h
   obtain ⟨v,hv,bs,us,h1,h2,rfl⟩:=ab hf hx
   cases h1
   obtain ⟨vs,h3,h4⟩:=kO hf hl
   exact ⟨x,cl.args.toList,vs,us,hc,by simp,hv,h3,h4.append (ou h2)⟩
  ·cases h
 ·cases h
theorem nr {s:Sh}:∀ {n k:Nat} {xs:List (den s)},k+n=xs.length->tz s xs k n=(xs.drop k).flatMap (cellsOf s)
 | 0,k,xs,h=>by rw [List.drop_eq_nil_of_le (by omega)]; rfl
 | n+1,k,xs,h=>by
  rw [tz,nr (by omega),List.drop_eq_getElem_cons (show k<xs.length by omega),List.flatMap_cons,List.getD_eq_getElem?_getD,List.getElem?_eq_getElem (by omega)]
  rfl
theorem eK {c:Cx} {s:Sh}:∀ {cs:List AV} {xs:List (den s)} {us:List Value},jR s cs=some xs->All2 (Rd c ρ) cs us->Pds c (xs.flatMap (cellsOf s)) us
 | [],_,_,h,hu=>by cases h; cases hu; exact .nil
 | a :: r,xs,_,h,hu=>by
  simp only [jR] at h
  split at h
  ·rename_i x l hx hl
   cases h
   cases hu with
   | cons h1 h2=>
    rw [List.flatMap_cons]
    exact (ag (vs:=[_]) hx (.cons (fun hp=>(ca hp).1 h1) .nil)).append (eK hl h2)
  ·cases h
theorem R.dG {cs:List Value} {m i:Nat} {e:TypeId} {k:IntKind} {v:Value} {dd:TypeDesc} (hx:ev F x=some (.agg cs.toArray)) (hy:ev F y=some (.int k (i:Int))) (ht:P.underlying t=some (.array m e)) (he:P.underlying e=some dd) (hd:er dd=false) (hs:(P.info? e).map (·.size)=some 1) (hi:i<m) (hv:cs[i]? = some v) :
  ah P n F w (.index t x y) ty v w:=fun _ _ _ _ _ ha=>by
 cases hq:P.info? e with
 | none=>simp [hq] at hs
 | some q=>
  have hq1:q.size=1:=by simpa [hq] using hs
  have e1:(Instr.index t (.agg cs.toArray) (.int k (i:Int))).run P w = .ok v w:=by
   unfold Instr.index
   simp [asIntOf,run_underlying ht,Result.andThen,hi,part,fv he,hd,sizeOf,typeInfo,hq,hq1,hv]
  simp [execOp,ha.ev hx,ha.ev hy,e1]
theorem R.cQ {g m i:Nat} {e:TypeId} {k:IntKind} (hx:ev F x=some (.pointer (some ⟨g,0,none⟩))) (hy:ev F y=some (.int k (i:Int))) (ht:P.underlying t=some (.array m e)) (hs:(P.info? e).map (·.size)=some 1) (hi:i<m) :
  ah P n F w (.indexAddr t x y) ty (.pointer (some ⟨g,i,none⟩)) w:=fun _ _ _ _ _ ha=>by
 cases hq:P.info? e with
 | none=>simp [hq] at hs
 | some q=>
  have hq1:q.size=1:=by simpa [hq] using hs
  have h2:(Addr.add ⟨g,0,none⟩ i)=⟨g,i,none⟩:=by rw [add_lit,Nat.zero_add]
  simp [execOp,ha.ev hx,ha.ev hy,Instr.indexAt,run_underlying ht,asIntOf,Instr.sureAddr,sizeOf,typeInfo,hq,hq1,h2]
  omega
theorem qy {c:Cx} {s:Sh} {a:AV} {xs:List (den s)} {vs:List Value} {o:Nat} (h:Pds c (xs.flatMap (cellsOf s)) vs) (hs:s.size=1) (ho:o<xs.length) (ha:cellsOf s (xs.getD o (aJ s))=[a]):∃ u,vs[o]? = some u/\Pd c a u:=by
 have h1:=(h.drop (o*s.size)).take s.size
 rw [eL (eF ho),ha,hs,Nat.mul_one] at h1
 generalize hq:List.take 1 (List.drop o vs)=q at h1
 cases h1 with
 | @cons _ u _ q' h2 h3=>
  cases h3
  refine ⟨u,?_,h2⟩
  have:=congrArg (·[0]?) hq
  simpa [List.getElem?_take,List.getElem?_drop] using this
theorem gk (hT:ao P G.shp T) (hR:Rep G ρ H w) {a:AV} {v:Value} {r:PR} (h:Rd (cx G ρ w) ρ a v) (hx:ev F x=some v) (hl:gH T H t a=some r) (hob:∀ p ∈ r.ob,p):∃ u,ah P n F w (.load t x) ty u w/\Rt (cx G ρ w) ρ r.v u/\∀ p ∈ r.fc,p:=by
 unfold gH at hl
 split at hl
 ·rename_i id o
  split at hl
  ·rename_i ta s m xs hH
   obtain ⟨r0,hr,g,vs,rfl,h2,h3,h4,h5⟩:=hR.at_ (ax hH (by simp))
   obtain ⟨g',hg',rfl⟩:=h
   rw [hr] at hg'; cases hg'
   have hvl:vs.length=m:=by rw [<- h3.length,aD,h4,h5,Nat.mul_one]
   have hA:CellsAt w ⟨g,0,none⟩ vs:=aT (cells:=vs) (sp:=[]) (by rw [List.append_nil]; exact h2)
   split at hl
   ·rename_i m' e sz z hft
    split at hl
    ·rename_i hck
     cases hl
     simp only [Bool.and_eq_true] at hck
     have e1:=Nat.eq_of_beq_eq_true hck.1.1.1
     have e2:=Nat.eq_of_beq_eq_true hck.1.1.2
     have e3:=Nat.eq_of_beq_eq_true hck.1.2
     subst e1; subst e2
     obtain ⟨⟨hsz,_⟩,hk⟩:=hT _ _ hft
     refine ⟨.agg vs.toArray,R.ug hx hk rfl (by rw [hsz,hvl]; exact congrArg some e3) hA,⟨vs,rfl,?_⟩,by simp⟩
     rw [nr (by omega),List.drop_zero]
     exact ct h3
    ·cases hl
   ·rename_i ti _ hft
    split at hl
    ·cases hl
    ·cases hl
    ·cases hl
    ·rename_i a' hs1 hcell n1 n2 n3
     simp only [pr,Option.some.injEq] at hl
     subst hl
     have ho:=hob _ (List.mem_singleton_self _)
     obtain ⟨u,hu,hpu⟩:=qy h3 h5 (by omega) hcell
     obtain ⟨_,hk⟩:=hT _ _ hft
     have:∃ d,P.underlying t=some d/\er d=false:=by
      cases hkk:ti.k <;> rw [hkk] at hk
      case i=>exact ⟨_,hk,rfl⟩
      case bool=>exact ⟨_,hk,rfl⟩
      case str=>exact ⟨_,hk,rfl⟩
      case sl=>exact ⟨_,hk.1,rfl⟩
      case st=>exact absurd hkk (n1 _)
      case ar=>exact absurd hkk (n2 _ _)
      case mp=>exact ⟨_,hk.1,rfl⟩
      all_goals exact hk
     obtain ⟨d,hd,hag⟩:=this
     have hcl:=hA o u hu
     rw [add_lit,Nat.zero_add] at hcl
     exact ⟨u,R.ur hx hd hag hcl,dy hpu,hpu.eU⟩
    ·cases hl
   ·cases hl
  ·cases hl
 ·cases hl
theorem uX {c:Cx} (h:TabsOK c) {e:TabE} (he:e ∈ oC):Pd c (.fz e.s e.xs) (.slice (some ⟨e.g,0,none⟩) e.xs.length e.xs.length):=by
 obtain ⟨h1,h2,h3,h4,cells,t,fr,h5,h6⟩:=h e he
 refine .fz (Nat.le_refl _) h3 h4 h6 (.inr ⟨_,rfl,⟨h1,.inl h2⟩,?_⟩)
 exact aT (cells:=cells) (sp:=[]) (t:=t) (f:=fr) (by rw [List.append_nil]; exact h5)
theorem gh {g:Nat}:∀ {l:List TabE} {e:TabE},gE g l=some e->e ∈ l/\e.g=g
 | [],_,h=>by cases h
 | a :: l,e,h=>by
  unfold gE at h
  cases hb:Nat.beq g a.g
  ·rw [hb,cond_false] at h
   have:=gh h
   exact ⟨List.mem_cons_of_mem _ this.1,this.2⟩
  ·rw [hb,cond_true] at h
   cases h
   exact ⟨List.mem_cons_self,(Nat.eq_of_beq_eq_true hb).symm⟩
theorem kq (hT:ao P G.shp T) (hR:Rep G ρ H w) {i:Int} {k:IntKind} {r:PR} (hy:ev F y=some (.int k i)) (hl:iF T t x i=some r) (hob:∀ p ∈ r.ob,p):∃ u,ah P n F w (.indexAddr t x y) ty u w/\Rt (cx G ρ w) ρ r.v u/\∀ p ∈ r.fc,p:=by
 unfold iF at hl
 split at hl
 ·rename_i g
  split at hl
  ·rename_i e m el sz z hg hft
   split at hl
   ·rename_i s hs'
    split at hl
    ·rename_i hck
     simp only [pr,Option.some.injEq] at hl
     subst hl
     simp only [Bool.and_eq_true,decide_eq_true_eq] at hck
     have e1:=hck.1
     have e2:=Nat.eq_of_beq_eq_true hck.2
     have h0:=hob _ (List.mem_cons_self); have h1:=hob _ (List.mem_cons_of_mem _ (List.mem_singleton_self _))
     obtain ⟨j,rfl⟩:=Int.eq_ofNat_of_zero_le h0
     obtain ⟨hm,hg'⟩:=gh hg
     have hj:j<e.xs.length:=by omega
     obtain ⟨A,kk,hA,_,hfe,us,hus⟩:=pR (ρ:=ρ) (uX hR.tb hm) (eF hj)
     have hsz:=kE hT hs'
     cases hA
     have ep:Addr.add ⟨e.g,0,none⟩ (j*e.s.size)=⟨g,j,none⟩:=by rw [hg',<- e1,hsz.1,add_lit,Nat.zero_add,Nat.mul_one]
     rw [ep] at hfe
     refine ⟨_,R.cQ (g:=g) (i:=j) (by rfl) hy (hT _ _ hft).2 hsz.2.1 (by omega),?_,hus.eU⟩
     rw [Int.toNat_natCast]
     exact hfe
    ·cases hl
   ·cases hl
  ·cases hl
 ·cases hl
theorem ki (hT:ao P G.shp T) {a:AV} {i:Int} {k:IntKind} {v:Value} {r:PR} (h:Rd (cx G ρ w) ρ a v) (hx:ev F x=some v) (hy:ev F y=some (.int k i)) (hl:cQ T H t a i=some r) (hob:∀ p ∈ r.ob,p):∃ u,ah P n F w (.indexAddr t x y) ty u w/\Rt (cx G ρ w) ρ r.v u/\∀ p ∈ r.fc,p:=by
 unfold cQ at hl
 split at hl
 ·rename_i id m e sz z hft
  split at hl
  ·rename_i ta s n' xs s' hH hs'
   split at hl
   ·rename_i hck
    simp only [pr,Option.some.injEq] at hl
    subst hl
    simp only [Bool.and_eq_true] at hck
    have e2:=Nat.eq_of_beq_eq_true hck.1
    have h0:=hob _ (List.mem_cons_self); have h1:=hob _ (List.mem_cons_of_mem _ (List.mem_singleton_self _))
    obtain ⟨j,rfl⟩:=Int.eq_ofNat_of_zero_le h0
    obtain ⟨g,hg,rfl⟩:=h
    exact ⟨_,R.cQ hx hy (hT _ _ hft).2 (kE hT hs').2.1 (by omega),⟨g,hg,by rw [Int.toNat_natCast]⟩,by simp⟩
   ·cases hl
  ·cases hl
 ·cases hl
theorem kU (hT:ao P G.shp T) {c:Cx} {cs:List AV} {i:Int} {k:IntKind} {v:Value} {r:PR} (h:aO c ρ (.agg cs) v) (hx:ev F x=some v) (hy:ev F y=some (.int k i)) (hl:dG T t cs i=some r) (hob:∀ p ∈ r.ob,p):∃ u,ah P n F w (.index t x y) ty u w/\Rt c ρ r.v u/\∀ p ∈ r.fc,p:=by
 unfold dG at hl
 split at hl
 ·rename_i m e sz z hft
  split at hl
  ·rename_i s hs
   split at hl
   ·rename_i xs hxs
    split at hl
    ·rename_i a hlen hcell
     simp only [pr,Option.some.injEq] at hl
     subst hl
     have hlen:=Nat.eq_of_beq_eq_true hlen
     have h0:=hob _ (List.mem_cons_self); have h1:=hob _ (List.mem_cons_of_mem _ (List.mem_singleton_self _))
     obtain ⟨j,rfl⟩:=Int.eq_ofNat_of_zero_le h0
     obtain ⟨vs,rfl,hvs⟩:=h
     obtain ⟨hs1,hes,d,hd,hag⟩:=kE hT hs
     rw [Int.toNat_natCast] at hcell
     obtain ⟨u,hu,hpu⟩:=qy (eK hxs hvs) hs1 (show j<xs.length by omega) hcell
     exact ⟨u,R.dG hx hy (hT _ _ hft).2 hd hag hes bK hu,dy hpu,hpu.eU⟩
    ·cases hl
   ·cases hl
  ·cases hl
 ·cases hl
theorem hU (hT:ao P G.shp T) (hO:aS P G.shp O) (hR:Rep G ρ H w) {fr:AFr} (hf:ba (cx G ρ w) ρ fr F) {op:Op} {r:PR} (h:pv T O H fr op=some r) (hob:∀ p ∈ r.ob,p) :
  Yields P n F w op ty fun v w'=>Kp [] w w' /\ Rt (cx G ρ w') ρ r.v v/\∀ p ∈ r.fc,p:=by
 cases op <;> simp only [pv] at h
 case move x=>
  split at h
  ·rename_i tv hx
   cases h
   obtain ⟨v,h1,h2⟩:=ab hf hx
   exact y0 (R.move h1) h2 (by simp)
  ·cases h
 case assign x=>
  split at h
  ·rename_i tv hx
   cases h
   obtain ⟨v,h1,h2⟩:=ab hf hx
   exact y0 (R.assign h1) h2 (by simp)
  ·cases h
 case unOp u t x=>
  cases u <;> simp only at h <;> try cases h
  split at h
  ·rename_i e hx
   cases h
   obtain ⟨v,h1,h2⟩:=ab hf hx
   cases h2 with | bool=>
   have e1:(BE.neg e).val = !e.val:=by cases e <;> simp [BE.neg,BE.val]
   have h3:=Pd.bool (c:=cx G ρ w) (e:=e.neg)
   rw [e1] at h3
   exact y0 (R.not h1) h3 (by simp)
  ·cases h
 case binOp op t x y t'=>
  split at h
  ·rename_i a b hx hy
   split at h
   ·rename_i hb
    obtain ⟨va,h1,h2⟩:=ab hf hx
    obtain ⟨vb,h3,h4⟩:=ab hf hy
    obtain ⟨v,h5,h6,h7⟩:=qc (P:=P) (n:=n) (w:=w) (ty:=ty) (t':=t') hT hb h hob h2 h4 h1 h3
    exact y0 h5 h6 (pN h7)
   ·cases h
  ·rename_i a b hx hy
   obtain ⟨va,h1,vs,rfl,h2⟩:=ab hf hx
   obtain ⟨vb,h3,us,rfl,h4⟩:=ab hf hy
   obtain ⟨v,h5,h6,h7⟩:=sY (P:=P) (n:=n) (w:=w) (ty:=ty) (t':=t') hT h h2 h4 h1 h3
   exact y0 h5 h6 (pN h7)
  ·cases h
 case extract x i=>
  split at h
  ·rename_i l hx
   split at h
   ·rename_i a hi
    cases h
    obtain ⟨v,h1,vs,rfl,h2⟩:=ab hf hx
    obtain ⟨u,h3,h4⟩:=bA h2 i a hi
    exact y0 (R.extract h1 (by simpa using h3)) h4 (by simp)
   ·cases h
  ·cases h
 case nilCheck x=>
  split at h
  ·rename_i a hx
   obtain ⟨v,h1,h2⟩:=ab hf hx
   cases a <;> simp only [pr] at h <;> cases h
   ·obtain ⟨g,h3,rfl⟩:=h2
    exact y0 (R.fq h1) ⟨g,h3,rfl⟩ (by simp)
   ·obtain ⟨g,cap,len,z,h3,h4,rfl⟩:=h2
    exact y0 (R.fq h1) ⟨g,cap,len,z,h3,h4,rfl⟩ (by simp)
   ·obtain ⟨A,cells,h3,h4,h5,rfl⟩:=h2
    exact y0 (R.fq h1) ⟨A,cells,h3,h4,h5,rfl⟩ (by simp)
   ·obtain ⟨bs,us,h3,h4,rfl⟩:=h2
    exact y0 (R.pf h1) ⟨bs,us,h3,h4,rfl⟩ (by simp)
  ·cases h
 case convert s t x=>
  split at h
  ·rename_i a b u h1 h2 hx
   obtain ⟨v,h3,h4⟩:=ab hf hx
   exact pB hT hR h1 h2 h hob h4 h3
  ·cases h
 case makeFunc g b c=>
  cases g <;> simp only at h <;> try cases h
  rename_i f
  split at h
  ·rename_i cs hb hc
   split at h
   ·rename_i cp hcp
    cases h
    obtain ⟨vs,h1,h2⟩:=kO hf hc
    have h3:=kR hcp h2
    obtain rfl:b = #[]:=by
     apply Array.ext'
     simpa using hb
    refine y0 (R.makeFunc (cv:=vs.toArray) fun a ha=>?_) ⟨[],vs,.nil,h3,rfl⟩ (by simp)
    apply Array.ext'
    rw [Array.toList_map,kM ha h1]
   ·cases h
  ·cases h
 case fieldAddr t x i=>
  split at h
  ·rename_i fs sz z a h1 hx
   split at h
   ·rename_i o k hi
    obtain ⟨v,h2,h3⟩:=ab hf hx
    obtain ⟨u,h4,h5,_,h7⟩:=oX (P:=P) (n:=n) (w:=w) (ty:=ty) hT h1 hi h3 h2 h
    exact y0 h4 h5 (pN h7)
   ·cases h
  ·cases h
 case load t x=>
  split at h
  ·rename_i a hx
   obtain ⟨v,h2,h3⟩:=ab hf hx
   split at h
   ·rename_i r' hla
    cases h
    obtain ⟨u,h4,h5,h6⟩:=gk (P:=P) (n:=n) (ty:=ty) hT hR h3 h2 hla hob
    exact y0 h4 h5 h6
   ·obtain ⟨u,h4,h5,_,h7⟩:=mm (P:=P) (n:=n) (ty:=ty) hT hR h3 h2 h
    exact y0 h4 h5 (pN h7)
  ·cases h
 case indexAddr t x y=>
  split at h
  ·rename_i a b s hx hy hs
   split at h
   ·rename_i i hi
    obtain ⟨va,h1,h2⟩:=ab hf hx
    obtain ⟨vb,h3,h4⟩:=ab hf hy
    obtain ⟨k,rfl⟩:=fV hi h4
    obtain ⟨v,h5,h6,h7⟩:=pj (P:=P) (n:=n) (ty:=ty) hT hR hs h hob h2 h1 h3
    exact y0 h5 h6 h7
   ·cases h
  ·rename_i a b hx hy hs
   split at h
   ·rename_i i hi
    obtain ⟨va,h1,h2⟩:=ab hf hx
    obtain ⟨vb,h3,h4⟩:=ab hf hy
    obtain ⟨k,rfl⟩:=fV hi h4
    obtain ⟨v,h5,h6,h7⟩:=ki (P:=P) (n:=n) (ty:=ty) hT h2 h1 h3 h hob
    exact y0 h5 h6 h7
   ·cases h
  ·rename_i b hx hy hs
   split at h
   ·rename_i i hi
    obtain ⟨vb,h3,h4⟩:=ab hf hy
    obtain ⟨k,rfl⟩:=fV hi h4
    obtain ⟨v,h5,h6,h7⟩:=kq (P:=P) (n:=n) (ty:=ty) hT hR h3 h hob
    exact y0 h5 h6 h7
   ·cases h
  ·cases h
 case index t x y=>
  split at h
  ·rename_i s b hx hy
   split at h
   ·rename_i i hi
    split at h
    ·rename_i sz z ht
     cases h
     obtain ⟨va,h1,h2⟩:=ab hf hx
     obtain ⟨vb,h3,h4⟩:=ab hf hy
     obtain ⟨k,rfl⟩:=fV hi h4
     cases h2 with | str hl=>
     have g0:=hob _ (List.mem_cons_self); have g1:=hob _ (List.mem_cons_of_mem _ (List.mem_singleton_self _))
     obtain ⟨j,rfl⟩:=Int.eq_ofNat_of_zero_le g0
     exact y0 (R.wh h1 h3 (hT _ _ ht).2 bK) Pd.u8 (by simp)
    ·cases h
   ·cases h
  ·rename_i cs b hx hy
   split at h
   ·rename_i i hi
    obtain ⟨va,h1,h2⟩:=ab hf hx
    obtain ⟨vb,h3,h4⟩:=ab hf hy
    obtain ⟨k,rfl⟩:=fV hi h4
    obtain ⟨v,h5,h6,h7⟩:=kU (P:=P) (n:=n) (w:=w) (ty:=ty) hT h2 h1 h3 h hob
    exact y0 h5 h6 h7
   ·cases h
  ·cases h
 case build t parts=>
  split at h
  ·rename_i fs sz z l ht hl
   split at h
   ·rename_i cs hb
    cases h
    obtain ⟨pv,h1,h2⟩:=eW hf hl
    obtain ⟨us,h3,h4⟩:=pa (P:=P) (n:=n) (w:=w) (ty:=ty) hT ht h1 h2 hb
    have e:parts.toList.toArray=parts:=by simp
    rw [e] at h3
    exact y0 h3 ⟨us,rfl,h4⟩ (by simp)
   ·cases h
  ·rename_i m e sz z l ht hl
   split at h
   ·rename_i s cs hs hb
    cases h
    obtain ⟨pv,h1,h2⟩:=eW hf hl
    obtain ⟨us,h3,h4⟩:=nd (P:=P) (n:=n) (w:=w) (ty:=ty) hT ht hs h1 h2 hb
    have e:parts.toList.toArray=parts:=by simp
    rw [e] at h3
    exact y0 h3 ⟨us,rfl,h4⟩ (by simp)
   ·cases h
  ·cases h
 case slice t x lo hi mx=>
  cases mx with
  | some m=>cases h
  | none=>
  simp only at h
  split at h
  ·rename_i a hx
   obtain ⟨va,h1,h2⟩:=ab hf hx
   have fin:∀ (l' h':Option Int),dD T t a l' h' = some r->(∀ i,l' = some i->∃ z,lo=some z/\ev F z=some (.int .i64 i))->(l' = none->lo=none)->(∀ i,h' = some i->∃ z,hi=some z/\ev F z=some (.int .i64 i))->(h' = none->hi=none)->Yields P n F w (.slice t x lo hi none) ty fun v w'=>Kp [] w w' /\ Rt (cx G ρ w') ρ r.v v/\∀ p ∈ r.fc,p:=fun l' h' hs k1 k2 k3 k4=>by
    obtain ⟨v,h5,h6,h7⟩:=oO (P:=P) (n:=n) (w:=w) (ty:=ty) hT hs hob h2 h1 k1 k2 k3 k4
    exact y0 h5 h6 (pN h7)
   split at h
   ·cases h
   ·split at h
    ·rename_i z i hz
     obtain ⟨vz,h3,h4⟩:=ab hf hz
     cases h4 with | int=>
     exact fin _ _ h (fun j hj=>by cases hj; exact ⟨_,rfl,h3⟩) (by simp) (by simp) (fun _=>rfl)
    ·cases h
   ·split at h
    ·rename_i z i hz
     obtain ⟨vz,h3,h4⟩:=ab hf hz
     cases h4 with | int=>
     exact fin _ _ h (by simp) (fun _=>rfl) (fun j hj=>by cases hj; exact ⟨_,rfl,h3⟩) (by simp)
    ·cases h
   ·split at h
    ·rename_i z z' i j hz hz'
     obtain ⟨vz,h3,h4⟩:=ab hf hz
     obtain ⟨vz',h5,h6⟩:=ab hf hz'
     cases h4 with | int=>
     cases h6 with | int=>
     exact fin _ _ h (fun j hj=>by cases hj; exact ⟨_,rfl,h3⟩) (by simp) (fun j hj=>by cases hj; exact ⟨_,rfl,h5⟩) (by simp)
    ·cases h
  ·cases h
 case call cl=>
  split at h
  ·rename_i hcal
   split at h
   ·rename_i x t hargs htys
    split at h
    ·rename_i a hx
     split at h
     ·rename_i m hm
      cases h
      obtain ⟨va,h1,h2⟩:=ab hf hx
      obtain ⟨h3,h4⟩:=tx (P:=P) (n:=n) (ty:=ty) hT hR hm h2 h1
      have e:cl={ callee:=.builtin .len,args:=#[x],argTypes:=#[t] }:=by
       cases cl; simp at hcal hargs htys; subst hcal
       simp only [Call.mk.injEq,true_and]
       exact ⟨Array.ext' (by simpa using hargs),Array.ext' (by simpa using htys)⟩
      rw [e]
      exact y0 h3 (Pd.int h4) (by simp)
     ·cases h
    ·cases h
   ·cases h
  ·rename_i hcal
   split at h
   ·rename_i x y hargs
    split at h
    ·rename_i a b hx hy
     cases h
     obtain ⟨va,h1,h2⟩:=ab hf hx
     obtain ⟨vb,h3,h4⟩:=ab hf hy
     cases h2 with | int ia=>
     cases h4 with | int ib=>
     have e:cl={ callee:=.builtin .min,args:=#[x,y],argTypes:=cl.argTypes }:=by
      cases cl; simp at hcal hargs; subst hcal
      simp only [Call.mk.injEq,true_and,and_true]
      exact Array.ext' (by simpa using hargs)
     rw [e]
     exact y0 (R.min2 h1 h3) (Pd.int (by unfold I64 at *; omega)) (by simp)
    ·rename_i a b hx hy
     cases h
     obtain ⟨va,h1,h2⟩:=ab hf hx
     obtain ⟨vb,h3,h4⟩:=ab hf hy
     cases h2 with | u64 ia=>
     cases h4 with | u64 ib=>
     have e:cl={ callee:=.builtin .min,args:=#[x,y],argTypes:=cl.argTypes }:=by
      cases cl; simp at hcal hargs; subst hcal
      simp only [Call.mk.injEq,true_and,and_true]
      exact Array.ext' (by simpa using hargs)
     have e2:min (a:Int) (b:Int)=((min a b:Nat):Int):=by omega
     have e3:=R.min2 (P:=P) (n:=n) (w:=w) (ty:=ty) (asx:=cl.argTypes) h1 h3
     rw [e2] at e3
     rw [e]
     exact y0 e3 (Pd.u64 bK) (by simp)
    ·cases h
   ·cases h
  ·rename_i hcal
   split at h
   ·rename_i x y hargs
    split at h
    ·rename_i a b hx hy
     cases h
     obtain ⟨va,h1,h2⟩:=ab hf hx
     obtain ⟨vb,h3,h4⟩:=ab hf hy
     cases h2 with | int ia=>
     cases h4 with | int ib=>
     have e:cl={ callee:=.builtin .max,args:=#[x,y],argTypes:=cl.argTypes }:=by
      cases cl; simp at hcal hargs; subst hcal
      simp only [Call.mk.injEq,true_and,and_true]
      exact Array.ext' (by simpa using hargs)
     rw [e]
     exact y0 (R.max2 h1 h3) (Pd.int (by unfold I64 at *; omega)) (by simp)
    ·cases h
   ·cases h
  ·rename_i x hcal
   split at h
   ·rename_i f l hl
    obtain ⟨x',xs,vs,cap,h1,h2,h3,h4,h5⟩:=dE hf hl
    obtain ⟨⟨fn,h6,h7,h8⟩,hrun⟩:=jE hO hR h5 h hob
    have e:cl={ callee:=.value x',args:=xs.toArray,argTypes:=cl.argTypes }:=by
     cases cl; simp at h1 h2; subst h1; subst h2; rfl
    rw [e]
    exact .inr ⟨_,_,E.call h3 h4 h6 h7 h8,hrun⟩
   ·cases h
  ·cases h
 case lookup t x y ok=>
  split at h
  ·rename_i s id k hft hx hy
   split at h
   ·rename_i s' f hO2
    split at h
    ·rename_i hss
     subst hss
     obtain ⟨hm,hk,hz,_⟩:=(hT _ _ hft).2
     obtain ⟨z,zs,hz1,hz2,hz3⟩:=hz _ rfl
     obtain ⟨va,h1,h2⟩:=ab hf hx
     obtain ⟨vb,h3,h4⟩:=ab hf hy
     cases h4 with | int=>
     obtain ⟨g,hg,rfl⟩:=h2
     obtain ⟨r',hr',hor⟩:=hR.at_ (ax hO2 (by simp))
     rw [hg] at hr'; cases hr'
     obtain ⟨g',e,a,c,k1,k2,k3⟩:=hor
     cases e
     have hrun:=R.nh (P:=P) (n:=n) (ty:=ty) ok h1 h3 hm hk hz1 k1 k2
     have hv:V1 (cx G ρ w) s' ((f k).getD (aJ s')) ((getM k a.toList).getD z):=by
      have k4:=k3 k
      cases hgm:getM k a.toList <;> cases hfk:f k <;> rw [hgm,hfk] at k4
      ·exact V1.zero hz2 hz3
      ·exact k4.elim
      ·exact k4.elim
      ·exact k4
     have hs:(getM k a.toList).isSome=(f k).isSome:=by
      have k4:=k3 k
      cases hgm:getM k a.toList <;> cases hfk:f k <;> rw [hgm,hfk] at k4
      ·rfl
      ·exact k4.elim
      ·exact k4.elim
      ·rfl
     cases ok with
     | false=>cases h; exact y0 hrun hv.rt (by simp)
     | true=>
      cases h
      refine y0 hrun ⟨_,rfl,.cons hv.rt (.cons ?_ .nil)⟩ (by simp)
      rw [hs]
      exact Pd.bool (e:=.atom (f k).isSome)
    ·cases h
   ·cases h
  ·cases h
 all_goals cases h
end
def cV (d:Option Nat) (v:Value) (F:Fr):Fr:=match d with
 | some d=>(d,v) :: F
 | none=>F
def dK (n:Nat):List Oper->Bool
 | []=>true
 | o :: r=>(match o.dst with
  | some d=>Nat.blt d n
  | none=>true) && dK n r
theorem dx {n:Nat}:∀ {l:List Oper},dK n l=true->∀ o ∈ l,∀ d,o.dst=some d->Nat.blt d n=true
 | [],_,_,h,_,_=>by simp at h
 | a :: r,h,o,ho,d,hd=>by
  simp only [dK,Bool.and_eq_true] at h
  rcases List.mem_cons.1 ho with rfl | ho
  ·have:=h.1; rw [hd] at this; exact this
  ·exact dx h.2 o ho d hd
section
variable {P:Program} {Q:Exit->Act->World->Prop} {n:Nat} {l rest:List Oper} {F:Fr} {w:World} {op:Op} {ty:TypeId} {pos:String} {af:Array Edge}
theorem WO.y {d:Option Nat} {φ:Value->World->Prop} (h:Yields P n F w op ty φ) (hd:∀ d',d=some d' -> Nat.blt d' n=true) (k:∀ v w',φ v w' -> WO P Q n l rest (cV d v F) w'):WO P Q n l (⟨d,op,ty,pos,af,none⟩ :: rest) F w:=by
 cases d with
 | some d=>
  rcases h with ⟨v,w',h1,h2⟩ | ⟨f,args,h1,h2⟩
  ·exact WO.v h1 (hd _ rfl) (k v w' h2)
  ·exact WO.c h1 h2 (hd _ rfl) k
 | none=>
  rcases h with ⟨v,w',h1,h2⟩ | ⟨f,args,h1,h2⟩
  ·exact WO.v0 h1 (k v w' h2)
  ·exact WO.c0 h1 h2 k
theorem oI {c:Cx} {ρ:List RE} {fr:AFr} (h:ba c ρ fr F) {i:Nat} (hx:lookA fr i=none):look F i=none:=by
 induction h with
 | nil=>rfl
 | @cons p q fr F hp _ ih=>
  obtain ⟨i1,t1⟩:=p
  obtain ⟨i2,v2⟩:=q
  obtain ⟨rfl,hr⟩:=hp
  unfold lookA at hx
  unfold look
  cases hb:Nat.beq i1 i <;> rw [hb] at hx <;> simp only [cond_true,cond_false] at hx ⊢
  ·exact ih hx
  ·cases hx
theorem cg {c:Cx} {ρ:List RE} {fr:AFr} (h:ba c ρ fr F) {d:Option Nat} (hd:cH fr d=true):∀ d',d=some d' -> look F d' = none:=by
 rintro d' rfl
 simp only [cH] at hd
 split at hd
 ·rename_i he; exact oI h he
 ·cases hd
theorem cN {F:Fr} {i:Nat} {v:Value} (hv:look F i=some v):∀ {us:Fr},(∀ q ∈ us,look F q.1=none)->look (us++F) i=some v
 | [],_=>hv
 | (j,u) :: us,h=>by
  rw [List.cons_append,ai]
  by_cases hj:j=i
  ·subst hj
   have:=h (j,u) (by simp)
   simp only at this
   rw [this] at hv; cases hv
  ·rw [if_neg hj]; exact cN hv fun q hq=>h q (by simp [hq])
theorem WO.drop {us F:Fr} (h:∀ q ∈ us,look F q.1=none) (k:WO P Q n l rest F w):WO P Q n l rest (us++F) w:=fun a ha=>k a (ha.sub fun _ _ hv=>cN hv h)
theorem WO.sP {us F:Fr} {x:Nat × Value} (h:∀ q ∈ us,look F q.1=none) (k:WO P Q n l rest (x :: F) w):WO P Q n l rest (x :: (us++F)) w:=fun a ha=>k a (ha.sub fun i v hv=>by
 obtain ⟨j,u⟩:=x
 rw [ai] at hv ⊢
 by_cases hj:j=i
 ·rw [if_pos hj] at hv ⊢; exact hv
 ·rw [if_neg hj] at hv ⊢; exact cN hv h)
theorem pq {us F:Fr} {i:Nat} (h:∀ q ∈ us,q.1≠i):look (us++F) i=look F i:=mw h
theorem kv {a b:Option (Nat × Bool)} (h:qm a b=true):a=b:=by
 unfold qm at h
 split at h
 ·rfl
 ·simp only [Bool.and_eq_true,beq_iff_eq] at h
  have:=Nat.eq_of_beq_eq_true h.1
  rw [this,h.2]
 ·cases h
theorem iI {F:Fr} {q:Nat × Value}:∀ {us:Fr},q ∈ us->(∀ q ∈ us,q.2=undef)->look (us++F) q.1=some undef
 | [],h,_=>by simp at h
 | (i,u) :: us,hq,hus=>by
  rw [List.cons_append,ai]
  by_cases hi:i=q.1
  ·rw [if_pos hi]; have:=hus (i,u) (by simp); simp only at this; rw [this]
  ·rw [if_neg hi]
   refine iI ?_ (fun z hz=>hus z (by simp [hz]))
   rcases List.mem_cons.1 hq with rfl | hq
   ·exact absurd rfl hi
   ·exact hq
theorem dM {fr:AFr} {c:Cx} {ρ:List RE} (hf:ba c ρ fr F) {j t:Nat} {wt b:Bool} (hj:idst l j=some t) (hv:look F t=some (.bool b)) (hb:b = !wt):∀ {grp:List Oper} {us:Fr},mJ l fr j wt (us.map (·.1)) grp=true->dK n grp=true->(∀ q ∈ us,look F q.1=none/\q.2=undef)->WO P Q n l rest F w->WO P Q n l (grp++rest) (us++F) w
 | [],us,_,_,hus,k=>WO.drop (fun q hq=>(hus q hq).1) k
 | o :: r,us,h,hd,hus,k=>by
  have hdo:=dx hd o (by simp)
  have hdr:dK n r=true:=by simp only [dK,Bool.and_eq_true] at hd; exact hd.2
  clear hd
  obtain ⟨dst,op,ty,pos,af,g⟩:=o
  simp only [mJ,Bool.and_eq_true] at h
  obtain ⟨⟨h1,h2⟩,h3⟩:=h
  have hne:∀ q ∈ us,q.1≠t:=fun q hq e=>by have:=(hus q hq).1; rw [e,hv] at this; cases this
  have hv':look (us++F) t=some (.bool b):=by rw [pq hne]; exact hv
  rw [List.cons_append]
  cases g with
  | none=>cases h2
  | some g=>
  obtain ⟨j',w'⟩:=g
  simp only [Bool.or_eq_true,Bool.and_eq_true,beq_iff_eq] at h2
  have hnew:∀ d,dst=some d->∀ q ∈ ((d,undef) :: us:Fr),look F q.1=none/\q.2=undef:=fun d hdd q hq=>by
   rcases List.mem_cons.1 hq with rfl | hq
   ·exact ⟨cg hf h1 d hdd,rfl⟩
   ·exact hus q hq
  rcases h2 with ⟨e1,e2⟩ | h2
  ·have e1:=Nat.eq_of_beq_eq_true e1
   subst e1; subst e2
   cases dst with
   | some d=>exact WO.off hj hv' hb (hdo d rfl) (dM hf hj hv hb (us:=(d,undef) :: us) h3 hdr (hnew d rfl) k)
   | none=>exact WO.wW hj hv' hb (dM hf hj hv hb h3 hdr hus k)
  ·split at h2
   ·rename_i t' ht'
    obtain ⟨q,hq,rfl⟩:=List.mem_map.1 (aj.1 h2)
    have hlu:look (us++F) q.1=some undef:=iI hq fun z hz=>(hus z hz).2
    cases dst with
    | some d=>exact WO.vI ht' hlu (hdo d rfl) (dM hf hj hv hb (us:=(d,undef) :: us) h3 hdr (hnew d rfl) k)
    | none=>exact WO.uo ht' hlu (dM hf hj hv hb h3 hdr hus k)
   ·cases h2
theorem fE {t:Nat}:∀ {ops grp tail:List Oper} {pk:Oper},gZ t ops=some (grp,pk,tail)->ops=grp++pk :: tail/\fM t pk=true
 | [],_,_,_,h=>by cases h
 | o :: r,grp,tail,pk,h=>by
  unfold gZ at h
  cases hp:fM t o <;> rw [hp] at h
  ·simp only [cond_false] at h
   split at h
   ·rename_i a b c hs
    cases h
    obtain ⟨h1,h2⟩:=fE hs
    exact ⟨by rw [h1]; rfl,h2⟩
   ·cases h
  ·cases h; exact ⟨rfl,hp⟩
theorem eM {n:Nat}:∀ {a b:List Oper},dK n (a++b)=true↔dK n a=true/\dK n b=true
 | [],b=>by simp [dK]
 | o :: r,b=>by simp [dK,eM,and_assoc]
end
theorem bn:∀ {l:List Prop},eX l↔∀ p ∈ l,p
 | []=>by simp [eX]
 | [p]=>⟨fun h q hq=>by rw [List.mem_singleton.1 hq]; exact h,fun h=>h p (List.mem_singleton_self _)⟩
 | p :: q :: l=>by
  have:=bn (l:=q :: l)
  simp only [eX,this,List.forall_mem_cons]
theorem oD {e:BE} {w:Bool} {ob:List Prop} (h:∀ p ∈ fK e w ob,p) (he:e.val=w):∀ p ∈ ob,p:=by
 cases ob with
 | nil=>simp
 | cons p ob=>exact bn.1 (h _ (List.mem_singleton_self _) ((BE.bm e w).2 he))
theorem js {e:BE} {w:Bool} {ob:List Prop} (h:e.val=w->∀ p ∈ ob,p):∀ p ∈ fK e w ob,p:=by
 cases ob with
 | nil=>simp [fK]
 | cons p ob=>
  intro q hq
  rw [List.mem_singleton.1 hq]
  exact fun he=>bn.2 (h ((BE.bm e w).1 he))
theorem aR {tv:Option TV} {e:BE} (h:gy tv=some e):tv=some (one (.bool e)):=by
 unfold gy at h
 split at h
 ·cases h; rfl
 ·cases h
section
variable {P:Program} {T:List (Nat × TI)} {G:Gl} {O:cZ} {Q:Exit->Act->World->Prop} {n:Nat} {l:List Oper} {ρ:List RE} {H:AH}
def vP (l:List Oper) (fr:AFr) (g:Option (Nat × Bool)):Prop:=∀ j wt,g=some (j,wt)->∃ t e,idst l j=some t/\lookA fr t=some (one (.bool e))/\e.val=wt
theorem aM {j i:Nat} {v:TV} {r:AFr}:lookA ((j,v) :: r) i=if j=i then some v else lookA r i:=by
 show (bif Nat.beq j i then some v else lookA r i)=_
 by_cases h:j=i
 ·simp [h]
 ·have:Nat.beq j i=false:=by rw [<- Bool.not_eq_true,Nat.beq_eq]; exact h
  simp [this,h]
theorem vP.put {fr:AFr} {g:Option (Nat × Bool)} (h:vP l fr g) {d:Option Nat} {v:TV} (hd:cH fr d=true):vP l (gC d v fr) g:=by
 intro j wt hg
 obtain ⟨t,e,h1,h2,h3⟩:=h j wt hg
 refine ⟨t,e,h1,?_,h3⟩
 cases d with
 | none=>exact h2
 | some d=>
  show lookA ((d,v) :: fr) t=_
  rw [aM,if_neg]
  ·exact h2
  ·rintro rfl
   simp only [cH,h2] at hd
   cases hd
theorem WO.yc {F:Fr} {w:World} {fr:AFr} {g:Option (Nat × Bool)} (hg:vP l fr g) (hf:ba (cx G ρ w) ρ fr F) {A:Fr} (hA:∀ x ∈ A,look F x.1=none) {dst:Option Nat} {op:Op} {ty:TypeId} {pos:String} {af:Array Edge} {rest:List Oper}
  (k:WO P Q n l (⟨dst,op,ty,pos,af,none⟩ :: rest) (A++F) w):WO P Q n l (⟨dst,op,ty,pos,af,g⟩ :: rest) (A++F) w:=by
 cases g with
 | none=>exact k
 | some g=>
  obtain ⟨j,wt⟩:=g
  obtain ⟨t,e,h1,h2,h3⟩:=hg j wt rfl
  obtain ⟨v,h4,h5⟩:=bR hf h2
  cases h5 with | bool=>
  exact WO.on h1 (cN h4 hA) h3 k
def we (P:Program) (G:Gl) (Q:Exit->Act->World->Prop) (n:Nat) (l:List Oper) (ρ:List RE) (H:AH) (run:Option (Nat × Bool)->List Oper->AFr->Option GR):Prop:=
 ∀ (g:Option (Nat × Bool)) (ops tail:List Oper) (fr:AFr) (q:GR) (F:Fr) (w:World),run g ops fr=some q->vP l fr g->(∀ p ∈ q.ob,p)->dK n ops=true->Rep G ρ H w->ba (cx G ρ w) ρ fr F ->
  (∀ A w',Kp [] w w' -> (∀ p ∈ q.fc,p)->ba (cx G ρ w') ρ q.fr (A++F)->ba (cx G ρ w') ρ fr F->(∀ x ∈ A,look F x.1=none)->WO P Q n l tail (A++F) w')->WO P Q n l (ops++tail) F w
theorem ba.kp {fr:AFr} {F:Fr} {w w':World} (h:ba (cx G ρ w) ρ fr F) (k:Kp [] w w'):ba (cx G ρ w') ρ fr F:=h.carry (Ext.kp k).le (fl.refl _)
theorem nC {run:Option (Nat × Bool)->List Oper->AFr->Option GR} (hrun:we P G Q n l ρ H run) {g:Option (Nat × Bool)} {ops tl:List Oper} {fr:AFr} {j:Nat} {wt:Bool} {r:GrpR} {F:Fr} {w:World} (h:tT l fr g run j wt ops=some r) (hg:vP l fr g) (hob:∀ p ∈ r.ob,p) (hd:dK n ops=true) (hR:Rep G ρ H w) (hf:ba (cx G ρ w) ρ fr F)
  (k:∀ w',Kp [] w w' -> (∀ p ∈ r.fc,p)->look F r.d=none->cH fr (some r.d)=true->ba (cx G ρ w') ρ fr F->Nat.blt r.d n=true->dK n r.tail=true->WO P Q n l (r.tail++tl) ((r.d,.bool r.v.val) :: F) w'):WO P Q n l (ops++tl) F w:=by
 unfold tT at h
 split at h
 ·rename_i t hj
  split at h
  ·rename_i e grp pk tail he hs
   split at h
   ·rename_i q hck hq
    simp only [Bool.and_eq_true] at hck
    obtain ⟨⟨hoff,hpg⟩,hfresh⟩:=hck
    split at h
    ·rename_i z x y d hpk hpd
     split at h
     ·rename_i v hv
      cases h
      obtain ⟨hops,hip⟩:=fE hs
      subst hops
      replace hpg:=kv hpg
      replace he:=aR he
      obtain ⟨vt,hvt,hvr⟩:=bR hf he
      cases hvr with | bool=>
      obtain ⟨hd1,hd2⟩:=eM.1 hd
      have hd3:dK n tail=true:=by simp only [dK,Bool.and_eq_true] at hd2; exact hd2.2
      have hdd:Nat.blt d n=true:=dx hd2 pk (by simp) d hpd
      rw [hpd] at hfresh
      have hFd:look F d=none:=cg hf hfresh d rfl
      obtain ⟨dst,op,ty,pos,af,pg⟩:=pk
      simp only at hpk hpd hpg
      subst hpk; subst hpd; subst hpg
      have hz:z = .tmp t:=by
       cases z <;> simp only [fM] at hip
       ·rw [Nat.eq_of_beq_eq_true hip]
       all_goals cases hip
      subst hz
      rw [List.append_assoc,List.cons_append]
      -- the pick
      have pick:∀ (A:Fr) (w':World) (b:Bool),e.val=b->(∀ u ∈ A,look F u.1=none)->Kp [] w w' -> (∀ p ∈ fK e wt q.fc,p)->ba (cx G ρ w') ρ fr F->(∃ u,ev (A++F) (cond b x y)=some (.bool u)/\u=v.val)->WO P Q n l (⟨some d,.pick (.tmp t) x y,ty,pos,af,pg⟩ :: (tail++tl)) (A++F) w':=by
       rintro A w' b hb hA hk hfc hf' ⟨u,hu,hv2⟩
       subst hv2
       refine WO.yc (G:=G) (ρ:=ρ) hg hf' hA ?_
       have hl:ev (A++F) (.tmp t)=some (.bool e.val):=cN hvt hA
       have key:=WO.sP (x:=(d,.bool v.val)) hA (k w' hk hfc hFd hfresh hf' hdd hd3)
       cases b with
       | true=>exact WO.v (R.ll hl hb hu) hdd key
       | false=>exact WO.v (R.mF hl hb hu) hdd key
      unfold nE at hv
      by_cases hew:e.val=wt
      ·-- it is run
       refine hrun (some (j,wt)) grp _ fr q F w hq (fun j' w' hjw=>by cases hjw; exact ⟨t,e,hj,he,hew⟩) (oD hob hew) hd1 hR hf fun A w' hk hfc hfq hf' hA=>?_
       refine pick A w' wt hew hA hk (js fun _=>hfc) hf' ?_
       split at hv
       ·rename_i a hon hoff'
        cases hv
        obtain ⟨u,h1,h2⟩:=ab hfq (aR hon)
        cases h2 with | bool=>
        exact ⟨_,h1,by simp [BE.val,hew]⟩
       ·rename_i a hon hoff'
        cases hv
        obtain ⟨u,h1,h2⟩:=ab hfq (aR hon)
        cases h2 with | bool=>
        exact ⟨_,h1,by simp [BE.val,hew]⟩
       ·cases hv
      ·have hew':e.val = !wt:=by revert hew; cases e.val <;> cases wt <;> simp
       refine dM (us:=[]) hf hj hvt hew' hoff hd1 (by simp) ?_
       refine pick [] w (!wt) hew' (by simp) (Kp.refl w) (js fun hh=>absurd hh hew) hf ?_
       split at hv
       ·rename_i a hon hoff'
        cases hv
        obtain ⟨u,h1,h2⟩:=ab hf (aR hoff')
        cases h2 with | bool=>
        exact ⟨_,h1,by simp [BE.val,hew']⟩
       ·rename_i a hon hoff'
        cases hv
        obtain ⟨u,h1,h2⟩:=ab hf (aR hoff')
        cases h2 with | bool=>
        exact ⟨_,h1,by simp [BE.val,hew']⟩
       ·cases hv
     ·cases h
    ·cases h
   ·cases h
  ·cases h
 ·cases h
theorem eO (hT:ao P G.shp T) (hO:aS P G.shp O):∀ m,we P G Q n l ρ H (pt T O l H m)
 | 0=>fun g ops tail fr q F w h=>by cases ops <;> cases h
 | m+1=>by
  intro g ops tail fr q F w h hg hob hd hR hf k
  cases ops with
  | nil=>
   cases h
   exact k [] w (Kp.refl w) (by simp) hf hf (by simp)
  | cons o rest=>
   have hdo:=dx hd o (by simp)
   have hdr:dK n rest=true:=by simp only [dK,Bool.and_eq_true] at hd; exact hd.2
   unfold pt at h
   split at h
   ·rename_i hgo
    replace hgo:=kv hgo
    split at h
    ·rename_i r hfr hpv
     split at h
     ·rename_i q2 hq2
      cases h
      obtain ⟨dst,op,ty,pos,af,og⟩:=o
      simp only at hgo hfr hpv hdo hq2
      subst hgo
      rw [List.cons_append]
      refine WO.yc (A:=[]) (G:=G) (ρ:=ρ) hg hf (by simp) ?_
      change WO P Q n l _ F w
      refine WO.y (hU (ty:=ty) hT hO hR hf hpv fun p hp=>hob p (by simp [hp])) hdo fun v w1 ⟨hk1,hv1,hfc1⟩=>?_
      have hf1:ba (cx G ρ w1) ρ (gC dst r.v fr) (cV dst v F):=by
       cases dst with
       | some d=>exact .cons ⟨rfl,hv1⟩ (hf.kp hk1)
       | none=>exact hf.kp hk1
      refine eO hT hO m og rest tail _ q2 _ w1 hq2 (hg.put hfr) (fun p hp=>hob p (by simp [hp])) hdr (hR.kp hk1) hf1 fun A w2 hk2 hfc2 hfq _ hA=>?_
      have hA2:∀ x ∈ A++cV dst v [],look F x.1=none:=by
       intro x hx
       rcases List.mem_append.1 hx with hx | hx
       ·have:=hA x hx
        cases dst with
        | none=>exact this
        | some d=>
         simp only [cV] at this
         rw [ai] at this
         by_cases hdx:d=x.1
         ·rw [if_pos hdx] at this; cases this
         ·rw [if_neg hdx] at this; exact this
       ·cases dst with
        | none=>simp [cV] at hx
        | some d=>simp only [cV,List.mem_singleton] at hx; subst hx; exact cg hf hfr d rfl
      have e:A++cV dst v F=(A++cV dst v [])++F:=by cases dst <;> simp [cV]
      rw [e] at hfq ⊢
      exact k _ w2 (hk1.trans hk2) (fun p hp=>by
       rcases List.mem_append.1 hp with hp | hp
       ·exact hfc1 p hp
       ·exact hfc2 p hp) hfq ((hf.kp hk1).kp hk2) hA2
     ·cases h
    ·cases h
   ·split at h
    ·rename_i j wt hog
     split at h
     ·rename_i r hgr
      split at h
      ·rename_i q2 hq2
       cases h
       refine nC (G:=G) (H:=H) (eO hT hO m) hgr hg (fun p hp=>hob p (by simp [hp])) hd hR hf fun w1 hk1 hfc1 hFd hfd hf1 hbd hdt=>?_
       have hf2:ba (cx G ρ w1) ρ ((r.d,one (.bool r.v)) :: fr) ((r.d,.bool r.v.val) :: F):=.cons ⟨rfl,Pd.bool⟩ hf1
       refine eO hT hO m g r.tail tail _ q2 _ w1 hq2 (hg.put (d:=some r.d) hfd) (fun p hp=>hob p (by simp [hp])) hdt (hR.kp hk1) hf2 fun A w2 hk2 hfc2 hfq _ hA=>?_
       have hA2:∀ x ∈ A++[(r.d,Value.bool r.v.val)],look F x.1=none:=by
        intro x hx
        rcases List.mem_append.1 hx with hx | hx
        ·have:=hA x hx
         rw [ai] at this
         by_cases hdx:r.d=x.1
         ·rw [if_pos hdx] at this; cases this
         ·rw [if_neg hdx] at this; exact this
        ·simp only [List.mem_singleton] at hx; subst hx; exact hFd
       have e:A++((r.d,Value.bool r.v.val) :: F)=(A++[(r.d,Value.bool r.v.val)])++F:=by simp
       rw [e] at hfq ⊢
       exact k _ w2 (hk1.trans hk2) (fun p hp=>by
        rcases List.mem_append.1 hp with hp | hp
        ·exact hfc1 p hp
        ·exact hfc2 p hp) hfq (hf1.kp hk2) hA2
      ·cases h
     ·cases h
    ·cases h
end
theorem iZ {ρ:List RE} {r r':RE} {i:Nat} (h:ρ[i]? = some r'):(ρ++[r])[i]? = some r':=by
 rw [List.getElem?_append_left (List.getElem?_eq_some_iff.1 h).1]; exact h
structure Stp (ro:Lv) (ρ:List RE) (w:World) (ρ':List RE) (w':World):Prop where
 ext:Ext ρ w ρ' w'
 loc:∀ (i:Nat) (r:RE),ro.mv i=false->ρ[i]? = some r->ρ'[i]? = some r
 pro:∀ (i:Nat) (r:RE),ro.wr i=false->ρ[i]? = some r->ρ'[i]? = some r/\∀ g,r.g? = some g->w'.heap[g]? = w.heap[g]?
 bx:∀ (i g:Nat),ρ[i]? = some (.blk g)->ρ'[i]? = some (.blk g)
theorem Stp.refl (ro:Lv) (ρ:List RE) (w:World):Stp ro ρ w ρ w:=⟨Ext.refl _ _,fun _ _ _ h=>h,fun _ _ _ h=>⟨h,fun _ _=>rfl⟩,fun _ _ h=>h⟩
theorem Stp.trans {ro:Lv} {ρ0 ρ1 ρ2:List RE} {a b c:World} (h:Stp ro ρ0 a ρ1 b) (k:Stp ro ρ1 b ρ2 c):Stp ro ρ0 a ρ2 c:=
 ⟨h.ext.trans k.ext,fun i r hi hr=>k.loc i r hi (h.loc i r hi hr),fun i r hi hr=>by
  obtain ⟨h1,h2⟩:=h.pro i r hi hr
  obtain ⟨h3,h4⟩:=k.pro i r hi h1
  exact ⟨h3,fun g hg=>(h4 g hg).trans (h2 g hg)⟩,fun i g hi=>k.bx i g (h.bx i g hi)⟩
theorem Stp.kp {ro:Lv} {G:Gl} {H:AH} {ρ:List RE} {w w':World} (hR:Rep G ρ H w) (k:Kp [] w w'):Stp ro ρ w ρ w':=
 ⟨Ext.kp k,fun _ _ _ h=>h,fun _ r _ h=>⟨h,fun g hg=>k.block g (hR.bnd _ r g h hg).2.1 (by simp)⟩,fun _ _ h=>h⟩
theorem Stp.app {ro:Lv} {G:Gl} {H:AH} {ρ:List RE} {w w':World} {r:RE} (hR:Rep G ρ H w) (k:Kp [] w w') (hr:∀ g',r.g? = some g' -> w.heap.size<=g'):Stp ro ρ w (ρ++[r]) w':=
 ⟨Ext.app k hr,fun _ _ _ h=>iZ h,fun i r' _ h=>⟨iZ h,fun g hg=>k.block g (hR.bnd _ r' g h hg).2.1 (by simp)⟩,fun _ _ h=>iZ h⟩
section
variable {c c':Cx} {ρ ρ':List RE} {g:AV->AV}
theorem nJ (hg:∀ a v,Rd c ρ a v->Rd c' ρ' (g a) v) {asx:List AV} {vs:List Value} (h:All2 (Rd c ρ) asx vs):All2 (Rd c' ρ') (hY g asx) vs:=by
 induction h with
 | nil=>exact .nil
 | cons h _ ih=>exact .cons (hg _ _ h) ih
theorem kP (hg:∀ a v,Rd c ρ a v->Rd c' ρ' (g a) v) {t:TV1} {v:Value} (h:aO c ρ t v):aO c' ρ' (t.mapA g) v:=by
 cases t with
 | c a=>exact hg _ _ h
 | agg l=>obtain ⟨vs,rfl,h⟩:=h; exact ⟨vs,rfl,nJ hg h⟩
theorem nR (hg:∀ a v,Rd c ρ a v->Rd c' ρ' (g a) v) {asx:List TV1} {vs:List Value} (h:All2 (aO c ρ) asx vs):All2 (aO c' ρ') (kY g asx) vs:=by
 induction h with
 | nil=>exact .nil
 | cons h _ ih=>exact .cons (kP hg h) ih
theorem iG (hg:∀ a v,Rd c ρ a v->Rd c' ρ' (g a) v) {fr:AFr} {F:Fr} (h:ba c ρ fr F):ba c' ρ' (dm g fr) F:=by
 induction h with
 | nil=>exact .nil
 | @cons p q fr F h _ ih=>
  obtain ⟨i,t⟩:=p
  refine .cons ⟨h.1,?_⟩ ih
  have h2:=h.2
  cases t with
  | one t=>exact kP hg h2
  | tup l=>obtain ⟨vs,e,h2⟩:=h2; exact ⟨vs,e,nR hg h2⟩
  | un=>trivial
theorem gG:∀ l:List (Int × AV),mapM g l=l.map fun q=>(q.1,g q.2)
 | []=>rfl
 | (k,a) :: r=>by simp [mapM,gG r]
theorem dV:∀ {H:AH} {i:Nat},(dY g H)[i]? = (H[i]?).map (AO.mapA g)
 | [],i=>by simp [dY]
 | o :: r,0=>by simp [dY]
 | o :: r,i+1=>by simpa [dY] using dV (H:=r) (i:=i)
theorem a_:∀ {H:AH},(dY g H).length=H.length
 | []=>rfl
 | _ :: r=>by simp [dY,a_]
theorem OR.map (hc:c.le c') (hg:∀ a v,Rd c ρ a v->Rd c' ρ' (g a) v) {o:AO} {r:RE} (h:OR c ρ o r) (hb:∀ g,r.g? = some g->c'.w.heap[g]? = c.w.heap[g]?):OR c' ρ' (o.mapA g) r:=by
 cases o with
 | gone=>exact h
 | mapo s f=>
  obtain ⟨g',rfl,h⟩:=h
  exact ⟨g',rfl,h.carry hc (hb g' rfl)⟩
 | loc=>trivial
 | mapf l=>
  obtain ⟨g',rfl,h⟩:=h
  exact ⟨g',rfl,h.map (g0:=g) (gG l) (fun _ _ v h=>hg _ v h) (hb g' rfl)⟩
 | arr t s n xs=>
  obtain ⟨g',vs,rfl,h1,h2,h3⟩:=h
  exact ⟨g',vs,rfl,(hb g' rfl).trans h1,h2.carry hc,h3⟩
 | box t cs=>
  obtain ⟨g',vs,rfl,h1,h2⟩:=h
  exact ⟨g',vs,rfl,(hb g' rfl).trans h1,nJ hg h2⟩
 | row t s xs=>
  obtain ⟨h1,h2,h3⟩:=h
  refine ⟨hc.shp ▸ h1,h2,h3.imp id ?_⟩
  rintro ⟨g',cap,cells,sp,rfl,h4,h5,h6⟩
  exact ⟨g',cap,cells,sp,rfl,(hb g' rfl).trans h4,h5.carry hc,h6⟩
end
theorem cF {ρ:List RE} {i j:Nat} {r:RE} (hij:i≠j):(ρ.set i r)[j]? = ρ[j]?:=List.getElem?_set_ne hij
theorem lA {ρ:List RE} {i:Nat} {r:RE} {b:Nat} (h:live (ρ.set i r) b):live ρ b\/r.g? = some b:=by
 obtain ⟨j,r',h1,h2⟩:=h
 by_cases hij:i=j
 ·subst hij
  by_cases hi:i<ρ.length
  ·rw [List.getElem?_set_self hi] at h1; cases h1; exact .inr h2
  ·rw [List.getElem?_eq_none (by simp; omega)] at h1; cases h1
 ·rw [cF hij] at h1; exact .inl ⟨j,r',h1,h2⟩
section
variable {G:Gl} {ρ:List RE} {H:AH} {w:World}
theorem mT (hR:Rep G ρ H w) {i:Nat} {t:TypeId} {s:Sh} {xs:List (den s)} (hi:getO H i = .row t s xs):(∀ g,ρ[i]? ≠ some (.blk g))/\i<ρ.length/\i<H.length:=by
 have hH:=ax hi (by simp)
 have h1:=(List.getElem?_eq_some_iff.1 hH).1
 refine ⟨fun g hg=>?_,by rw [<- hR.obj.length]; exact h1,h1⟩
 rcases aE hR hi with ⟨h,_⟩ | ⟨_,_,_,_,h,_⟩ <;> rw [h] at hg <;> cases hg
theorem xl (hR:Rep G ρ H w) {i:Nat} {t:TypeId} {s:Sh} {xs:List (den s)} (hi:getO H i = .row t s xs) {ro:Lv} (hro:ro.mv i=true) (hro2:ro.wr i=true) :
  (∀ a v,Rd (cx G ρ w) ρ a v->Rd (cx G (ρ.set i .no) w) (ρ.set i .no) (a.oF H i) v)/\Rep G (ρ.set i .no) ((dY (AV.oF H i) H).set i .gone) w/\Stp ro ρ w (ρ.set i .no) w/\(cx G ρ w).le (cx G (ρ.set i .no) w):=by
 obtain ⟨hnb,hil,hiH⟩:=mT hR hi
 have hext:Ext ρ w (ρ.set i .no) w:=⟨rfl,rfl,rfl,Nat.le_refl _,fun b _ hl=>⟨fun h=>(lA h).elim hl (by rintro ⟨⟩),rfl⟩⟩
 have hle:=hext.le (G:=G)
 have hne:∀ j r,i≠j->ρ[j]? = some r->(ρ.set i .no)[j]? = some r:=fun j r hij h=>by rw [cF hij]; exact h
 have hcap:∀ q v,ck ρ q v->ck (ρ.set i .no) q v:=fun q v ⟨g,h1,h2⟩=>⟨g,hne _ _ (fun e=>hnb g (e ▸ h1)) h1,h2⟩
 have hrd:∀ a v,Rd (cx G ρ w) ρ a v->Rd (cx G (ρ.set i .no) w) (ρ.set i .no) (a.oF H i) v:=by
  intro a v h
  have hSg:∀ g cap len z,ρ[i]? = some (.row g cap len z)->(cx G (ρ.set i .no) w).S g:=fun g cap len z h1=>by
   have hb:=hR.bnd _ _ g h1 rfl
   refine ⟨hb.2.1,fun hl=>?_,hb.2.2⟩
   obtain ⟨j,r',h2,h3⟩:=hl
   by_cases hij:i=j
   ·subst hij; rw [List.getElem?_set_self hil] at h2; cases h2; cases h3
   ·rw [cF hij] at h2; exact hij (hR.inj _ _ _ _ g h1 h2 rfl h3)
  cases a with
  | own j=>
   simp only [AV.oF]
   cases hb:Nat.beq i j
   ·have hij:i≠j:=by rintro rfl; simp at hb
    rcases h with ⟨g,cap,len,z,h,e⟩ | ⟨h,e⟩
    ·exact .inl ⟨g,cap,len,z,hne _ _ hij h,e⟩
    ·exact .inr ⟨hne _ _ hij h,e⟩
   ·have hij:=Nat.eq_of_beq_eq_true hb
    subst hij
    simp only [cond_true]
    have hv:(AV.own i).vw H = .fz s xs:=by simp [AV.vw,hi]
    rw [hv]
    refine dy (eP hR hle rfl h (fun g cap len z ⟨id,he,h1⟩=>?_) hv)
    rcases he with he | ⟨_,_,he⟩ <;> cases he
    exact hSg g cap len z h1
  | sub j o k=>
   simp only [AV.oF]
   cases hb:Nat.beq i j
   ·have hij:i≠j:=by rintro rfl; simp at hb
    rcases h with ⟨g,cap,len,z,h,e⟩ | ⟨h,e⟩
    ·exact .inl ⟨g,cap,len,z,hne _ _ hij h,e⟩
    ·exact .inr ⟨hne _ _ hij h,e⟩
   ·have hij:=Nat.eq_of_beq_eq_true hb
    subst hij
    simp only [cond_true]
    have hv:(AV.sub i o k).vw H = .fz s ((xs.drop o).take k):=by simp [AV.vw,hi]
    rw [hv]
    refine dy (eP hR hle rfl h (fun g cap len z ⟨id,he,h1⟩=>?_) hv)
    rcases he with he | ⟨_,_,he⟩ <;> cases he
    exact hSg g cap len z h1
  | elp j k o=>
   simp only [AV.oF]
   cases hb:Nat.beq i j
   ·have hij:i≠j:=by rintro rfl; simp at hb
    obtain ⟨g,cap,len,z,h,e⟩:=h
    exact ⟨g,cap,len,z,hne _ _ hij h,e⟩
   ·exact Rd.one h
  | ptr j o=>exact hcap _ _ h
  | mq j=>
   obtain ⟨g,h1,e⟩:=h
   exact ⟨g,hne _ _ (fun e=>hnb g (e ▸ h1)) h1,e⟩
  | fn f b cs=>
   obtain ⟨bs,us,h1,h2,e⟩:=h
   exact ⟨bs,us,h1.imp fun _ _ h=>hcap _ _ h,h2.imp fun _ _ h=>hcap _ _ h,e⟩
  | fe s' x o=>
   obtain ⟨A,cells,h1,h2,h3,e⟩:=h
   exact ⟨A,cells,(hle.S _ h1).1,h2,h3.carry hle,e⟩
  | np=>exact h
  | nf=>exact h
  | yl l=>exact h
  | dead=>exact h
  | int n=>exact Pd.carry h hle
  | u8 b=>exact Pd.carry h hle
  | u64 n=>exact Pd.carry h hle
  | bool e=>exact Pd.carry h hle
  | str s=>exact Pd.carry h hle
  | em b=>exact Pd.carry h hle
  | fz s xs=>exact Pd.carry h hle
 refine ⟨hrd,⟨aG (by simp [a_,hR.obj.length]) fun j o r ho hr=>?_,fun a b r r' g h1 h2 h3 h4=>?_,fun j r g h1 h2=>?_,hR.z,hR.b0,hR.tb.carry hle⟩,⟨hext,fun j r hj h=>hne j r (by rintro rfl; rw [hro] at hj; cases hj) h,fun j r hj h=>⟨hne j r (by rintro rfl; rw [hro2] at hj; cases hj) h,fun _ _=>rfl⟩,fun j g h=>hne j _ (fun e=>hnb g (e ▸ h)) h⟩,hle⟩
 ·by_cases hij:i=j
  ·subst hij
   rw [List.getElem?_set_self (by rw [a_]; exact hiH)] at ho
   rw [List.getElem?_set_self hil] at hr
   cases ho; cases hr
   rfl
  ·rw [List.getElem?_set_ne hij,dV] at ho
   rw [cF hij] at hr
   rw [Option.map_eq_some_iff] at ho
   obtain ⟨o',ho',rfl⟩:=ho
   obtain ⟨r',hr',hor⟩:=hR.at_ ho'
   rw [hr] at hr'; cases hr'
   exact hor.map hle hrd fun _ _=>rfl
 ·have key:∀ (a:Nat) (r:RE),(ρ.set i .no)[a]? = some r->r.g? = some g->ρ[a]? = some r:=fun a r h1 h2=>by
   by_cases hia:i=a
   ·subst hia; rw [List.getElem?_set_self hil] at h1; cases h1; cases h2
   ·rw [cF hia] at h1; exact h1
  exact hR.inj a b r r' g (key a r h1 h3) (key b r' h2 h4) h3 h4
 ·by_cases hij:i=j
  ·subst hij; rw [List.getElem?_set_self hil] at h1; cases h1; cases h2
  ·rw [cF hij] at h1; exact hR.bnd j r g h1 h2
theorem wV {i j:Nat} (hij:i≠j) {t:TypeId} {s:Sh} {xs:List (den s)} (h:getO H j = .row t s xs):getO ((dY (AV.oF H i) H).set i .gone) j = .row t s xs:=by
 have:=ax h (by simp)
 unfold getO
 rw [List.getD_eq_getElem?_getD,List.getElem?_set_ne hij,dV,this]
 rfl
theorem cq {ro:Lv} {F:Fr}:∀ {l:List Nat} {fr:AFr} {H:AH} {ρ:List RE} {q:AFr × AH},cD ro l fr H=some q->Rep G ρ H w->ba (cx G ρ w) ρ fr F ->
  ∃ ρ',Stp ro ρ w ρ' w/\(cx G ρ w).le (cx G ρ' w)/\Rep G ρ' q.2 w/\ba (cx G ρ' w) ρ' q.1 F/\q.2.length=H.length /\
   (∀ (H0:AH) a v,(∀ i,(a = .own i\/∃ o k,a = .sub i o k)->i ∈ l/\∃ t s xs,getO H0 i = .row t s xs)->((Rd (cx G ρ w) ρ a v/\∀ i,(a = .own i\/∃ o k,a = .sub i o k)->getO H i=getO H0 i)\/Pd (cx G ρ w) (a.vw H0) v)->(∀ i,a ≠ .own i/\∀ o k,a ≠ .sub i o k)\/Pd (cx G ρ' w) (a.vw H0) v) /\
   (∀ i o,i ∉ l->H[i]? = some o->((∀ t cs,o ≠ .box t cs)/\∀ l,o ≠ .mapf l)->q.2[i]? = some o)/\(∀ i,i ∉ l->ρ'[i]? = ρ[i]?)
 | [],fr,H,ρ,q,h,hR,hf=>by
  cases h
  refine ⟨ρ,Stp.refl _ _ _,Cx.le.refl _,hR,hf,rfl,fun H0 a v hall h=>?_,fun i o _ h _=>h,fun _ _=>rfl⟩
  by_cases hown:∃ i,a = .own i\/∃ o k,a = .sub i o k
  ·obtain ⟨i,hi⟩:=hown
   have:=(hall i hi).1
   simp at this
  ·left
   intro i
   exact ⟨fun e=>hown ⟨i,.inl e⟩,fun o k e=>hown ⟨i,.inr ⟨o,k,e⟩⟩⟩
 | i :: l,fr,H,ρ,q,h,hR,hf=>by
  unfold cD at h
  split at h
  ·rename_i t s xs hi
   split at h
   ·rename_i hro
    simp only [Bool.and_eq_true] at hro
    obtain ⟨hrd,hR1,hst,hle⟩:=xl hR hi (ro:=ro) hro.1 hro.2
    obtain ⟨ρ',h1,h2,h3,h4,h5,h6,h7,h8⟩:=cq h hR1 (iG hrd hf)
    refine ⟨ρ',hst.trans h1,hle.trans h2,h3,h4,by rw [h5]; simp [a_],fun H0 a v hall hd=>?_,fun j o hj ho hb=>?_,fun j hj=>?_⟩
    ·-- the element's cell
     by_cases hown:∃ j,a = .own j\/∃ o k,a = .sub j o k
     ·obtain ⟨j,hj⟩:=hown
      right
      have hpd:Pd (cx G (ρ.set i .no) w) (a.vw H0) v\/(Rd (cx G (ρ.set i .no) w) (ρ.set i .no) a v/\i≠j/\getO H j=getO H0 j):=by
       rcases hd with ⟨hd,hHH⟩ | hd
       ·have e:=hHH j hj
        by_cases hij:i=j
        ·subst hij
         left
         have h9:=hrd a v hd
         have hv:a.vw H=a.vw H0:=by rcases hj with rfl | ⟨o,k,rfl⟩ <;> simp [AV.vw,e]
         have hz:a.oF H i=a.vw H:=by rcases hj with rfl | ⟨o,k,rfl⟩ <;> simp [AV.oF]
         rw [hz,hv] at h9
         have hp:(a.vw H0).plain=true:=by
          rw [<- hv]
          rcases hj with rfl | ⟨o,k,rfl⟩ <;> simp [AV.vw,hi,AV.plain]
         exact (ca hp).1 h9
        ·right
         have h9:=hrd a v hd
         have hz:a.oF H i=a:=by
          have hb:Nat.beq i j=false:=by rw [<- Bool.not_eq_true,Nat.beq_eq]; exact hij
          rcases hj with rfl | ⟨o,k,rfl⟩ <;> simp [AV.oF,hb]
         rw [hz] at h9
         exact ⟨h9,hij,e⟩
       ·exact .inl (hd.carry hle)
      rcases hpd with hpd | ⟨hpd,hij,e⟩
      ·-- done; carry on
       exact hpd.carry h2
      ·obtain ⟨hm,tt,ss,xx,hrow⟩:=hall j hj
       have hml:j ∈ l:=by
        rcases List.mem_cons.1 hm with e2 | hm
        ·exact absurd e2.symm hij
        ·exact hm
       have hrow':getO H j = .row tt ss xx:=e.trans hrow
       refine (h6 H0 a v (fun j' hj'=>?_) (.inl ⟨hpd,fun j' hj'=>?_⟩)).resolve_left fun hh=>?_
       ·have:j' = j:=by rcases hj with rfl | ⟨o,k,rfl⟩ <;> rcases hj' with e3 | ⟨_,_,e3⟩ <;> cases e3 <;> rfl
        subst this; exact ⟨hml,tt,ss,xx,hrow⟩
       ·have:j' = j:=by rcases hj with rfl | ⟨o,k,rfl⟩ <;> rcases hj' with e3 | ⟨_,_,e3⟩ <;> cases e3 <;> rfl
        subst this
        rw [wV hij hrow',hrow]
       ·rcases hj with rfl | ⟨o,k,rfl⟩
        ·exact (hh j).1 rfl
        ·exact (hh j).2 _ _ rfl
     ·left
      intro i
      exact ⟨fun e=>hown ⟨i,.inl e⟩,fun o k e=>hown ⟨i,.inr ⟨o,k,e⟩⟩⟩
    ·simp only [List.mem_cons,not_or] at hj
     refine h7 j o hj.2 ?_ hb
     rw [List.getElem?_set_ne (Ne.symm hj.1),dV,ho]
     cases o with
     | box t cs=>exact absurd rfl (hb.1 t cs)
     | mapf l=>exact absurd rfl (hb.2 l)
     | _=>rfl
    ·simp only [List.mem_cons,not_or] at hj
     rw [h8 j hj.2,cF (Ne.symm hj.1)]
   ·cases h
  ·rename_i hnr
   obtain ⟨ρ',h1,h2,h3,h4,h5,h6,h7,h8⟩:=cq h hR hf
   refine ⟨ρ',h1,h2,h3,h4,h5,fun H0 a v hall hd=>?_,fun j o hj=>h7 j o fun hm=>hj (by simp [hm]),fun j hj=>h8 j fun hm=>hj (by simp [hm])⟩
   by_cases hown:∃ j,a = .own j\/∃ o k,a = .sub j o k
   ·obtain ⟨j,hj⟩:=hown
    obtain ⟨hm,tt,ss,xx,hrow⟩:=hall j hj
    rcases hd with ⟨hd,hHH⟩ | hd
    ·have hml:j ∈ l:=by
      rcases List.mem_cons.1 hm with e2 | hm
      ·subst e2; exact absurd ((hHH j hj).trans hrow) (hnr _ _ _)
      ·exact hm
     refine h6 H0 a v (fun j' hj'=>?_) (.inl ⟨hd,hHH⟩)
     have:j' = j:=by rcases hj with rfl | ⟨o,k,rfl⟩ <;> rcases hj' with e3 | ⟨_,_,e3⟩ <;> cases e3 <;> rfl
     subst this; exact ⟨hml,tt,ss,xx,hrow⟩
    ·exact .inr (hd.carry h2)
   ·left
    intro i
    exact ⟨fun e=>hown ⟨i,.inl e⟩,fun o k e=>hown ⟨i,.inr ⟨o,k,e⟩⟩⟩
theorem fF {ro:Lv} {fr:AFr} {F:Fr} {l:List Nat} {q:AFr × AH} (h:cD ro l fr H=some q) (hR:Rep G ρ H w) (hf:ba (cx G ρ w) ρ fr F) :
  ∃ ρ',Stp ro ρ w ρ' w/\(cx G ρ w).le (cx G ρ' w)/\Rep G ρ' q.2 w/\ba (cx G ρ' w) ρ' q.1 F/\q.2.length=H.length /\
   (∀ (asx:List AV) (vs:List Value),(∀ i ∈ bd asx,i ∈ l)->All2 (Rd (cx G ρ w) ρ) asx vs->All2 (Qd (cx G ρ' w)) (nu H asx) vs)/\(∀ i o,i ∉ l->H[i]? = some o->((∀ t cs,o ≠ .box t cs)/\∀ l,o ≠ .mapf l)->q.2[i]? = some o)/\(∀ i,i ∉ l->ρ'[i]? = ρ[i]?):=by
 obtain ⟨ρ',h1,h2,h3,h4,h5,h6,h7,h8⟩:=cq h hR hf
 refine ⟨ρ',h1,h2,h3,h4,h5,fun asx vs hin hv=>?_,h7,h8⟩
 induction hv with
 | nil=>exact .nil
 | @cons a v asx vs hav _ ih=>
  refine .cons ?_ (ih fun i hi=>hin i (by cases a <;> simp [bd,hi]))
  intro hp
  by_cases hown:∃ i,a = .own i\/∃ o k,a = .sub i o k
  ·obtain ⟨i,hi⟩:=hown
   have hrow:∃ t s xs,getO H i = .row t s xs:=by
    cases hg:getO H i with
    | row t s xs=>exact ⟨t,s,xs,rfl⟩
    | _=>rcases hi with rfl | ⟨o,k,rfl⟩ <;> simp [AV.vw,hg,AV.plain] at hp
   refine (h6 H a v (fun j hj=>?_) (.inl ⟨hav,fun _ _=>rfl⟩)).resolve_left fun hh=>?_
   ·have:j=i:=by rcases hi with rfl | ⟨o,k,rfl⟩ <;> rcases hj with e3 | ⟨_,_,e3⟩ <;> cases e3 <;> rfl
    subst this
    refine ⟨hin j ?_,hrow⟩
    rcases hi with rfl | ⟨o,k,rfl⟩ <;> simp [bd]
   ·rcases hi with rfl | ⟨o,k,rfl⟩
    ·exact (hh i).1 rfl
    ·exact (hh i).2 _ _ rfl
  ·have e:a.vw H=a:=by
    cases a <;> first | rfl | exact absurd ⟨_,.inl rfl⟩ hown | exact absurd ⟨_,.inr ⟨_,_,rfl⟩⟩ hown
   rw [e] at hp ⊢
   exact ((ca hp).1 hav).carry h2
end
def bq (P:Program) (n:Nat) (F:Fr) (w:World) (op:Op) (ty:TypeId) (φ:Value->World->Prop):Prop:=
 Yields P n F w op ty φ\/(isSt op=true/\∃ w',bV P n F w op ty w' /\ φ undef w')
def bW (G:Gl) (ro:Lv) (ρ:List RE) (w:World) (r:SR) (F:Fr) (v:Value) (w':World):Prop:=
 ∃ ρ',Stp ro ρ w ρ' w' /\ Rep G ρ' r.H w' /\ ba (cx G ρ' w') ρ' r.fr F/\Rt (cx G ρ' w') ρ' r.v v/\∀ p ∈ r.fc,p
section
variable {P:Program} {T:List (Nat × TI)} {G:Gl} {O:cZ} {n:Nat} {F:Fr} {w:World} {x y:Operand} {ty t:TypeId} {ρ:List RE} {H:AH} {fr:AFr} {ro:Lv}
theorem R.box {v:Value} {cs:List Value} (hx:ev F x=some v) (hcs:v.cells=cs.toArray):ah P n F w (.box t x) ty (.pointer (some ⟨w.heap.size,0,none⟩)) (w.alloc (.cells cs.toArray t)):=
 fun a _ _ _ _ ha=>by simp [execOp,ha.ev hx,Instr.box,newVar,newRow,hcs]
theorem R.alloc {cs:List Value} (hz:((P.info? t).bind (·.zero)).map Value.cells=some cs.toArray):ah P n F w (.alloc t) ty (.pointer (some ⟨w.heap.size,0,none⟩)) (w.alloc (.cells cs.toArray t)):=fun a _ _ _ _ _=>by
 cases hq:P.info? t with
 | none=>simp [hq] at hz
 | some i=>
  cases hz':i.zero with
  | none=>simp [hq,hz'] at hz
  | some z=>
   have:z.cells=cs.toArray:=by simpa [hq,hz'] using hz
   simp [execOp,Instr.alloc,newVar,newRow,zeroValue,typeInfo,hq,hz',this]
theorem sD {c:Cx} {t:TypeId} {cs:List AV} {us:List Value} {g:Nat} (hh:c.w.heap[g]? = some (.cells us.toArray t (0,0))) (hcs:All2 (Rd c ρ) cs us):OR c ρ (qN T t cs) (.blk g):=by
 have hb:OR c ρ (.box t cs) (.blk g):=⟨g,us,rfl,hh,hcs⟩
 unfold qN
 split
 ·split
  ·split
   ·split
    ·rename_i hck
     simp only [Bool.and_eq_true] at hck
     exact ⟨g,us,rfl,hh,eK (by assumption) hcs,Nat.eq_of_beq_eq_true hck.1,Nat.eq_of_beq_eq_true hck.2⟩
    ·exact hb
   ·exact hb
  ·exact hb
 ·exact hb
theorem jl (hR:Rep G ρ H w) (hf:ba (cx G ρ w) ρ fr F) {cs:List AV} {us:List Value} (hcs:All2 (Rd (cx G ρ w) ρ) cs us):bW G ro ρ w ⟨one (.ptr H.length 0),fr,H++[qN T t cs],[],[]⟩ F (.pointer (some ⟨w.heap.size,0,none⟩)) (w.alloc (.cells us.toArray t)):=by
 have hk:=Kp.alloc w (.cells us.toArray t)
 have hext:Ext ρ w (ρ++[.blk w.heap.size]) (w.alloc (.cells us.toArray t)):=Ext.app hk fun g hg=>by cases hg; exact Nat.le_refl _
 have hle:=hext.le (G:=G)
 refine ⟨ρ++[.blk w.heap.size],Stp.app hR hk (fun g hg=>by cases hg; exact Nat.le_refl _),hR.app hk (fun g hg=>by cases hg; exact ⟨Nat.le_refl _,by simp⟩) (sD (heap_alloc_new w _) (hcs.imp fun _ _ h=>h.carry hle (bQ _ _))),hf.carry hle (bQ _ _),⟨w.heap.size,by rw [hR.obj.length]; simp,rfl⟩,by simp⟩
theorem R.store {g o:Nat} {tb:TypeId} {cur us:List Value} {v:Value} (hx:ev F x=some (.pointer (some ⟨g,o,none⟩))) (hy:ev F y=some v) (hg:w.heap[g]? = some (.cells (List.toArray cur) tb (0,0))) (hv:v.cells=us.toArray) (h1:∀ u ∈ us,u.oneCell' = true) (hi:(P.info? t).map (·.size)=some us.length) (hl:o+us.length<=cur.length) :
  bV P n F w (.store t x y) ty (w.setRow g (cur.take o++us++cur.drop (o+us.length)).toArray):=fun a _ _ _ _ ha=>by
 have h2:=run_storeCells_at (P:=P) g o tb us 0 cur.toArray w hg (by simpa using hl) h1
 cases hq:P.info? t with
 | none=>simp [hq] at hi
 | some i=>
  have hs:i.size=us.length:=by simpa [hq] using hi
  simp [execOp,ha.ev hx,ha.ev hy,Instr.storeAt,Instr.sureAddr,storeVar,sizeOf,typeInfo,hq,hs,hv] at h2 ⊢
  simp [h2]
theorem lB (hT:ao P G.shp T) (hR:Rep G ρ H w) (hf:ba (cx G ρ w) ρ fr F) {a:AV} {b:TV1} {va vb:Value} {r:SR} {ti:TI} (ht:au T t=some ti) (hsz:Nat.beq ti.size b.cells.length=true) (ha:Rd (cx G ρ w) ρ a va) (hb:aO (cx G ρ w) ρ b vb) (hx:ev F x=some va) (hy:ev F y=some vb) (h:mS ro fr H a b=some r) (hob:∀ p ∈ r.ob,p) :
  ∃ w',bV P n F w (.store t x y) ty w' /\ bW G ro ρ w r F undef w':=by
 have hsz:=Nat.eq_of_beq_eq_true hsz
 obtain ⟨us,hus,hcs⟩:=aO.cells hb
 have hul:=hcs.length
 have h1:∀ u ∈ us,u.oneCell' = true:=fun u hu=>by
  obtain ⟨i,hi⟩:=List.getElem?_of_mem hu
  obtain ⟨a',_,h⟩:=hcs.get i u hi
  exact Rd.one h
 have hinfo:(P.info? t).map (·.size)=some us.length:=by rw [(hT _ _ ht).1.1,hsz,hul]
 unfold mS at h
 split at h
 ·-- a box
  rename_i id o
  split at h
  ·rename_i tb cs hH
   split at h
   ·rename_i hck
    cases h
    simp only [Bool.and_eq_true] at hck
    have hro:=hck.1
    have hlen:=Nat.le_of_ble_eq_true hck.2
    have hHs:=ax hH (by simp)
    obtain ⟨r,hr,g,vs,rfl,h2,h3⟩:=hR.at_ hHs
    obtain ⟨g',hg',rfl⟩:=ha
    rw [hr] at hg'; cases hg'
    have hvl:=h3.length
    refine ⟨_,R.store hx hy h2 hus h1 hinfo (by omega),ρ,?_⟩
    have hkp:=Kp.setRow w g (vs.take o++us++vs.drop (o+us.length)).toArray
    have hhp:(w.setRow g (vs.take o++us++vs.drop (o+us.length)).toArray).heap[g]? = some (.cells (vs.take o++us++vs.drop (o+us.length)).toArray tb (0,0)):=setRow_heap w g _ _ tb _ h2
    have hext:Ext ρ w ρ (w.setRow g (vs.take o++us++vs.drop (o+us.length)).toArray):=⟨hkp.os,hkp.tape,hkp.output,hkp.size,fun b hb hl=>⟨hl,hkp.block b hb (by
     simp only [List.mem_singleton]
     rintro rfl
     exact hl ⟨id,_,hr,rfl⟩)⟩⟩
    have hle:=hext.le (G:=G)
    have hput:=hR.put hHs hr rfl hkp (o':=.box tb (over cs o b.cells)) ⟨g,_,rfl,hhp,by
     unfold over
     rw [hul]
     exact (((h3.take o).append hcs).append (h3.drop _)).imp fun _ _ h=>h.carry hle (fl.refl _)⟩
    refine ⟨⟨hput.2,fun _ _ _ h=>h,fun i r' hi hr'=>⟨hr',fun g' hg'=>hkp.block g' (hR.bnd i r' g' hr' hg').2.1 ?_⟩,fun _ _ h=>h⟩,hput.1,hf.carry hle (fl.refl _),trivial,by simp⟩
    simp only [List.mem_singleton]
    rintro rfl
    have:=hR.inj i id _ _ g' hr' hr hg' rfl
    subst this; rw [hro] at hi; cases hi
   ·cases h
  ·-- an array
   rename_i ta s m xs hH
   split at h
   ·rename_i a1 hck hcell
    split at h
    ·rename_i x' hpl hof
     cases h
     simp only [Bool.and_eq_true] at hck
     have hro:=hck.1
     have hs1:=Nat.eq_of_beq_eq_true hck.2
     have ho:=hob _ (List.mem_singleton_self _)
     have hHs:=ax hH (by simp)
     obtain ⟨r,hr,g,vs,rfl,h2,h3,h4,h5⟩:=hR.at_ hHs
     obtain ⟨g',hg',rfl⟩:=ha
     rw [hr] at hg'; cases hg'
     rw [hcell] at hcs
     cases hcs with | @cons _ u _ _ hu1 hu2=>
     cases hu2
     have hvl:vs.length=m:=by rw [<- h3.length,aD,h4,hs1,Nat.mul_one]
     have hlu:[u].length=1:=rfl
     have hkp:=Kp.setRow w g (vs.take o++[u]++vs.drop (o+[u].length)).toArray
     have hhp:(w.setRow g (vs.take o++[u]++vs.drop (o+[u].length)).toArray).heap[g]? = some (.cells (vs.take o++[u]++vs.drop (o+[u].length)).toArray ta (0,0)):=setRow_heap w g _ _ ta _ h2
     have hext:Ext ρ w ρ (w.setRow g (vs.take o++[u]++vs.drop (o+[u].length)).toArray):=⟨hkp.os,hkp.tape,hkp.output,hkp.size,fun b hb hl=>⟨hl,hkp.block b hb (by
      simp only [List.mem_singleton]
      rintro rfl
      exact hl ⟨id,_,hr,rfl⟩)⟩⟩
     have hle:=hext.le (G:=G)
     have hxo:xs[o]? = some (xs.getD o (aJ s)):=by
      rw [List.getD_eq_getElem?_getD,List.getElem?_eq_getElem (by omega)]; rfl
     have hsp:Pds (cx G ρ w) (cellsOf s x') [u]:=ag hof (.cons (fun hp=>(ca hp).1 hu1) .nil)
     have hnew:Pds (cx G ρ w) ((xs.set o x').flatMap (cellsOf s)) (vs.take o++[u]++vs.drop (o+[u].length)):=by
      rw [lh hxo]
      have f1:=aK h3 o
      have f2:=aU h3 (o+1)
      rw [hs1,Nat.mul_one] at f1 f2
      exact (f1.append hsp).append f2
     have hput:=hR.put hHs hr rfl hkp (o':=.arr ta s m (xs.set o x')) ⟨g,_,rfl,hhp,hnew.carry hle,by rw [List.length_set]; exact h4,hs1⟩
     refine ⟨_,R.store hx hy h2 hus h1 hinfo (by rw [hlu]; omega),ρ,⟨hput.2,fun _ _ _ h=>h,fun i r' hi hr'=>⟨hr',fun g' hg'=>hkp.block g' (hR.bnd i r' g' hr' hg').2.1 ?_⟩,fun _ _ h=>h⟩,hput.1,hf.carry hle (fl.refl _),trivial,by simp⟩
     simp only [List.mem_singleton]
     rintro rfl
     have:=hR.inj i id _ _ g' hr' hr hg' rfl
     subst this; rw [hro] at hi; cases hi
    ·cases h
   ·-- all of it
    rename_i hck hne
    split at h
    ·rename_i l ho hl
     split at h
     ·rename_i hln
      cases h
      simp only [Bool.and_eq_true] at hck
      have hro:=hck.1
      have hs1:=Nat.eq_of_beq_eq_true hck.2
      have ho:=Nat.eq_of_beq_eq_true ho
      subst ho
      have hln:=Nat.eq_of_beq_eq_true hln
      have hHs:=ax hH (by simp)
      obtain ⟨r,hr,g,vs,rfl,h2,h3,h4,h5⟩:=hR.at_ hHs
      obtain ⟨g',hg',rfl⟩:=ha
      rw [hr] at hg'; cases hg'
      have hpd:=eK hl hcs
      have hul2:us.length=m:=by rw [<- hpd.length,aD,hln,hs1,Nat.mul_one]
      have hvl:vs.length=m:=by rw [<- h3.length,aD,h4,hs1,Nat.mul_one]
      have he:vs.take 0++us++vs.drop (0+us.length)=us:=by
       rw [List.take_zero,List.nil_append,List.drop_of_length_le (by omega),List.append_nil]
      have hst:=R.store (P:=P) (n:=n) (F:=F) (w:=w) (t:=t) (ty:=ty) hx hy h2 hus h1 hinfo (by omega)
      rw [he] at hst
      have hkp:=Kp.setRow w g us.toArray
      have hhp:(w.setRow g us.toArray).heap[g]? = some (.cells us.toArray ta (0,0)):=setRow_heap w g _ _ ta _ h2
      have hext:Ext ρ w ρ (w.setRow g us.toArray):=⟨hkp.os,hkp.tape,hkp.output,hkp.size,fun b hb hl=>⟨hl,hkp.block b hb (by
       simp only [List.mem_singleton]
       rintro rfl
       exact hl ⟨id,_,hr,rfl⟩)⟩⟩
      have hle:=hext.le (G:=G)
      have hput:=hR.put hHs hr rfl hkp (o':=.arr ta s m l) ⟨g,_,rfl,hhp,hpd.carry hle,hln,hs1⟩
      refine ⟨_,hst,ρ,⟨hput.2,fun _ _ _ h=>h,fun i r' hi hr'=>⟨hr',fun g' hg'=>hkp.block g' (hR.bnd i r' g' hr' hg').2.1 ?_⟩,fun _ _ h=>h⟩,hput.1,hf.carry hle (fl.refl _),trivial,by simp⟩
      simp only [List.mem_singleton]
      rintro rfl
      have:=hR.inj i id _ _ g' hr' hr hg' rfl
      subst this; rw [hro] at hi; cases hi
     ·cases h
    ·cases h
   ·cases h
  ·cases h
 ·-- an element of a row
  rename_i id i o
  split at h
  ·rename_i tb s xs hH
   split at h
   ·rename_i x' q hck hof hfz
    cases h
    simp only [Bool.and_eq_true,Bool.not_eq_true',<- Bool.not_eq_true,aj] at hck
    obtain ⟨⟨hro,hlen⟩,hnm⟩:=hck
    have hlen:=Nat.le_of_ble_eq_true hlen
    obtain ⟨ρ1,k1,k2,k3,k4,k5,k6,k7,k8⟩:=fF hfz hR hf
    obtain ⟨g,cap,len,z,h2,h3,rfl⟩:=ha
    have hHs:=ax hH (by simp)
    rcases aE hR hH with ⟨h0,_⟩ | ⟨g',cap',cells,sp,h4,h5,h6,h7,h8,h9⟩
    ·rw [h0] at h2; cases h2
    ·rw [h4] at h2; cases h2
     have hfacts:=bE hR hH
     have hxi:xs[i]? = some (xs.getD i (aJ s)):=eF h3
     have hcl:cells.length=xs.length*s.size:=by rw [<- h6.length,aD]
     have hmul:(i+1)*s.size<=xs.length*s.size:=Nat.mul_le_mul_right _ h3
     rw [Nat.add_mul] at hmul
     have hρ1:ρ1[id]? = some (.row g cap xs.length s.size):=by rw [k8 id hnm]; exact h4
     have hH1:q.2[id]? = some (.row tb s xs):=k7 id _ hnm hHs (by simp)
     -- the element's new cells
     have hel:All2 (Rd (cx G ρ w) ρ) (cellsOf s (xs.getD i (aJ s))) ((cells.drop (i*s.size)).take s.size):=by
      have:=(h6.drop (i*s.size)).take s.size
      rw [eL hxi] at this
      exact ct this
     have hell:=hel.length
     rw [aI] at hell
     have hnew:All2 (Qd (cx G ρ1 w)) (over (cellsOf s (xs.getD i (aJ s))) o (nu H b.cells)) (((cells.drop (i*s.size)).take s.size).take o++us++((cells.drop (i*s.size)).take s.size).drop (o+us.length)):=by
      have hvl:(nu H b.cells).length=us.length:=by
       rw [<- hul]
       generalize b.cells=l
       induction l with
       | nil=>rfl
       | cons a l ih=>simp [nu,ih]
      unfold over
      rw [hvl]
      have hq:All2 (Qd (cx G ρ1 w)) (cellsOf s (xs.getD i (aJ s))) ((cells.drop (i*s.size)).take s.size):=hel.imp fun a v h hp=>((ca hp).1 h).carry k2
      exact ((hq.take o).append (k6 _ _ (fun j hj=>hj) hcs)).append (hq.drop _)
     have hsp:=ag hof hnew
     have hcur:cells.take (i*s.size+o)++us++cells.drop (i*s.size+o+us.length)=cells.take (i*s.size)++(((cells.drop (i*s.size)).take s.size).take o++us++((cells.drop (i*s.size)).take s.size).drop (o+us.length))++cells.drop ((i+1)*s.size):=by
      have e1:cells.take (i*s.size+o)=cells.take (i*s.size)++((cells.drop (i*s.size)).take s.size).take o:=by
       rw [List.take_take,Nat.min_eq_left (by omega),List.take_add]
      have e2:cells.drop (i*s.size+o+us.length)=((cells.drop (i*s.size)).take s.size).drop (o+us.length)++cells.drop ((i+1)*s.size):=by
       rw [List.drop_take,List.drop_drop,Nat.add_mul,Nat.one_mul]
       have:i*s.size+(o+us.length)=i*s.size+o+us.length:=by omega
       rw [this]
       have e3:cells.drop (i*s.size+s.size)=(cells.drop (i*s.size+o+us.length)).drop (s.size - (o+us.length)):=by
        rw [List.drop_drop]; congr 1; omega
       rw [e3,List.take_append_drop]
      rw [e1,e2]
      simp only [List.append_assoc]
     have hkp:=Kp.setRow w g ((cells++sp).take (i*s.size+o)++us++(cells++sp).drop (i*s.size+o+us.length)).toArray
     have htk:(cells++sp).take (i*s.size+o)++us++(cells++sp).drop (i*s.size+o+us.length)=(cells.take (i*s.size+o)++us++cells.drop (i*s.size+o+us.length))++sp:=by
      rw [List.take_append_of_le_length (by omega),List.drop_append_of_le_length (by omega)]
      simp only [List.append_assoc]
     refine ⟨_,R.store hx hy h5 hus h1 hinfo (by rw [List.length_append]; omega),ρ1,?_⟩
     have hhp:(w.setRow g ((cells++sp).take (i*s.size+o)++us++(cells++sp).drop (i*s.size+o+us.length)).toArray).heap[g]? = some (.cells ((cells++sp).take (i*s.size+o)++us++(cells++sp).drop (i*s.size+o+us.length)).toArray tb (0,0)):=setRow_heap w g _ _ tb _ h5
     generalize hw':w.setRow g ((cells++sp).take (i*s.size+o)++us++(cells++sp).drop (i*s.size+o+us.length)).toArray=w' at hkp hhp
     rw [htk,hcur] at hhp
     have hext:Ext ρ1 w ρ1 w':=⟨hkp.os,hkp.tape,hkp.output,hkp.size,fun b hb hl=>⟨hl,hkp.block b hb (by
      simp only [List.mem_singleton]
      rintro rfl
      exact hl ⟨id,_,hρ1,rfl⟩)⟩⟩
     have hle:=hext.le (G:=G)
     have hput:=k3.put hH1 hρ1 rfl hkp (o':=.row tb s (xs.set i x')) ⟨hfacts.1,by rw [List.length_set]; exact hfacts.2,.inr ⟨g,cap,_,sp,by rw [List.length_set],hhp,by
      rw [lh hxi]
      have f1:Pds (cx G ρ w) ((xs.take i).flatMap (cellsOf s)) (cells.take (i*s.size)):=aK h6 i
      have f2:Pds (cx G ρ w) ((xs.drop (i+1)).flatMap (cellsOf s)) (cells.drop ((i+1)*s.size)):=aU h6 (i+1)
      exact (((f1.carry k2).append hsp).append (f2.carry k2)).carry hle,by
      have e4:((cells.drop (i*s.size)).take s.size).length=s.size:=by rw [List.length_take,List.length_drop]; omega
      rw [Nat.add_mul,Nat.one_mul]
      simp only [List.length_append,List.length_take,List.length_drop] at e4 h7 ⊢
      omega,by rw [List.length_set]; exact h8,h9⟩⟩
     refine ⟨k1.trans ⟨hput.2,fun _ _ _ h=>h,fun j r' hj hr'=>⟨hr',fun g' hg'=>hkp.block g' (k3.bnd j r' g' hr' hg').2.1 ?_⟩,fun _ _ h=>h⟩,hput.1,k4.carry hle (fl.refl _),trivial,by simp⟩
     simp only [List.mem_singleton]
     rintro rfl
     have:=k3.inj j id _ _ g' hr' hρ1 hg' rfl
     subst this; rw [hro] at hj; cases hj
   ·cases h
  ·cases h
 ·cases h
end
section
variable {P:Program} {T:List (Nat × TI)} {G:Gl} {O:cZ} {n:Nat} {F:Fr} {w:World} {x y:Operand} {ty t:TypeId} {ρ:List RE} {H:AH} {fr:AFr} {ro:Lv}
theorem R.buildSlice {parts:List (Nat × Operand)} {pv:List (Nat × Value)} {vss:List (List Value)} {m s:Nat} {e:TypeId} {z:List Value} (ht:P.underlying t=some (.slice e)) (hs:(P.info? e).map (·.size)=some s)
  (hz:((P.info? e).bind (·.zero)).map Value.cells=some z.toArray) (hp:se F parts=some pv) (hv:pv.map (fun p=>(p.1,p.2.cells.toList))=(List.range' 0 vss.length).zip vss) (hl:∀ vs ∈ vss,vs.length=s) (hm:vss.length=m)
  (hsm:m*s<=16777216):ah P n F w (.buildSlice t m parts.toArray) ty (.slice (some ⟨w.heap.size,0,none⟩) m m) (w.alloc (.cells vss.flatten.toArray e)):=fun a _ _ _ _ ha=>by
 subst hm
 cases hq:P.info? e with
 | none=>simp [hq] at hs
 | some i=>
  have hi:i.size=s:=by simpa [hq] using hs
  cases hz':i.zero with
  | none=>simp [hq,hz'] at hz
  | some zv=>
   have hparts:(parts.toArray.map fun p=>(p.1,a.eval p.2))=pv.toArray:=by simp [<- kS ha hp]
   have hf:∀ zc:List Value,zc.length=vss.length*s->Instr.fill (fun i=>some (i*s,s)) zc.toArray pv=some vss.flatten.toArray:=fun zc hzc=>by
    simpa using i_ s vss 0 [] zc hl (by simp) hzc pv hv
   by_cases h0:vss.length*s=0
   ·have:=hf [] (by simp [h0])
    simp [execOp,hparts,Instr.buildSlice,run_underlying ht,sizeOf,typeInfo,hq,hi,h0,Array.range_zero',this,newRow]
   ·have:=hf ((List.range (vss.length*s)).map fun j=>zv.cells[j % zv.cells.size]!) (by simp)
    have h2:(Array.range (vss.length*s)).map (fun j=>zv.cells[j % zv.cells.size]!)=((List.range (vss.length*s)).map fun j=>zv.cells[j % zv.cells.size]!).toArray:=by rw [<- List.toArray_range,List.map_toArray]
    simp only [execOp,Instr.buildSlice,Sem.run_bind,run_underlying ht,sizeOf,typeInfo,run_program,hq,hi,Result.andThen_ok,Sem.run_ite,if_neg (show ¬ vss.length*s > 2 ^ 24 by omega),Sem.run_pure,h0,if_false,zeroValue,hz',h2]
    rw [show (Array.map (fun x=>(x.1,a.eval x.2)) parts.toArray).toList=pv by rw [hparts]]
    simp [this,newRow]
theorem fQ {c c1:Cx} {s:Sh}:∀ {l:List (Nat × TV1)} {pv:List (Nat × Value)} {k:Nat} {xs:List (den s)},iC s H l k=some xs->All2 (fun p q=>p.1=q.1/\aO c ρ p.2 q.2) l pv->(∀ p ∈ l,∀ us,All2 (Rd c ρ) p.2.cells us->All2 (Qd c1) (nu H p.2.cells) us) ->
  ∃ vss:List (List Value),pv.map (fun p=>(p.1,p.2.cells.toList))=(List.range' k vss.length).zip vss/\(∀ vs ∈ vss,vs.length=s.size)/\vss.length=xs.length/\Pds c1 (xs.flatMap (cellsOf s)) vss.flatten
 | [],_,k,xs,h,hp,_=>by
  cases h; cases hp
  exact ⟨[],rfl,by simp,rfl,.nil⟩
 | (i,v) :: r,_,k,xs,h,hp,hq=>by
  cases hp with
  | @cons _ q _ qs h1 h2=>
  obtain ⟨i',u⟩:=q
  obtain ⟨e,hv⟩:=h1
  simp only at e; subst e
  simp only [iC] at h
  split at h
  ·rename_i x l hb ho hl
   cases h
   have:=Nat.eq_of_beq_eq_true hb
   subst this
   obtain ⟨us,hus,hcells⟩:=aO.cells hv
   have hsp:=ag ho (hq (i,v) (by simp) us hcells)
   obtain ⟨vss,h3,h4,h5,h6⟩:=fQ hl h2 fun p hp=>hq p (by simp [hp])
   refine ⟨us :: vss,?_,?_,by simp [h5],?_⟩
   ·simp only [List.map_cons,List.length_cons,List.range'_succ,List.zip_cons_cons,h3,hus]
   ·intro vs hvs
    rcases List.mem_cons.1 hvs with rfl | hvs
    ·rw [<- hsp.length,aI]
    ·exact h4 vs hvs
   ·rw [List.flatMap_cons,List.flatten_cons]
    exact hsp.append h6
  ·cases h
theorem iD:∀ {l:List (Nat × TV1)} {p:Nat × TV1} {i:Nat},p ∈ l->i ∈ bd p.2.cells->i ∈ mV l
 | [],_,_,h,_=>by simp at h
 | (j,v) :: r,p,i,h,hi=>by
  simp only [mV,List.mem_append]
  rcases List.mem_cons.1 h with rfl | h
  ·exact .inl hi
  ·exact .inr (iD h hi)
theorem kz {w':World} (hR:Rep G ρ H w) (hf:ba (cx G ρ w) ρ fr F) (hk:Kp [] w w') {e:TypeId} {s:Sh} {xs:List (den s)} {cells sp:List Value} {cap:Nat} (hh:w'.heap[w.heap.size]? = some (.cells (List.toArray (cells++sp)) e (0,0))) (hs:G.shp e=some s) (hb:xs.length*s.bytes<=140737488355328) (hp:Pds (cx G ρ w) (xs.flatMap (cellsOf s)) cells) (hc:(cells++sp).length=cap*s.size) (hl:xs.length<=cap) (hm:cap<=maxLen) :
  ∃ ρ',Stp ro ρ w ρ' w' /\ Rep G ρ' (H++[.row e s xs]) w' /\ ba (cx G ρ' w') ρ' fr F/\Rd (cx G ρ' w') ρ' (.own H.length) (.slice (some ⟨w.heap.size,0,none⟩) xs.length cap):=by
 have hlt:w.heap.size<w'.heap.size:=(Array.getElem?_eq_some_iff.1 hh).1
 have hext:Ext ρ w (ρ++[.row w.heap.size cap xs.length s.size]) w':=Ext.app hk fun g hg=>by cases hg; exact Nat.le_refl _
 have hle:=hext.le (G:=G)
 refine ⟨ρ++[.row w.heap.size cap xs.length s.size],Stp.app hR hk (fun g hg=>by cases hg; exact Nat.le_refl _),hR.app hk (fun g hg=>by cases hg; exact ⟨Nat.le_refl _,hlt⟩) ⟨hs,hb,.inr ⟨w.heap.size,cap,cells,sp,rfl,hh,hp.carry hle,hc,hl,hm⟩⟩,hf.carry hle (bQ _ _),.inl ⟨w.heap.size,cap,xs.length,s.size,by rw [hR.obj.length]; simp,rfl⟩⟩
theorem qA {w':World} (hR:Rep G ρ H w) (hf:ba (cx G ρ w) ρ fr F) (hk:Kp [] w w') {e:TypeId} {s:Sh} (hs:G.shp e=some s) {xs:List (den s)} (hx:xs=[]) (a:Option Addr) :
  ∃ ρ',Stp ro ρ w ρ' w' /\ Rep G ρ' (H++[.row e s xs]) w' /\ ba (cx G ρ' w') ρ' fr F/\Rd (cx G ρ' w') ρ' (.own H.length) (.slice a 0 0):=by
 subst hx
 have hext:Ext ρ w (ρ++[.emp]) w':=Ext.app hk fun g hg=>by cases hg
 have hle:=hext.le (G:=G)
 exact ⟨ρ++[.emp],Stp.app hR hk (fun g hg=>by cases hg),hR.app hk (fun g hg=>by cases hg) ⟨hs,by simp,.inl ⟨rfl,rfl⟩⟩,hf.carry hle (bQ _ _),.inr ⟨by rw [hR.obj.length]; simp,a,rfl⟩⟩
theorem nY {e:TypeId} {z:List Value} {s b:Nat} (h:(P.info? e).map (fun i=>(i.zero.map Value.cells,i.size,i.bytes))=some (some z.toArray,s,b)):((P.info? e).bind (·.zero)).map Value.cells=some z.toArray:=by
 cases hq:P.info? e with
 | none=>simp [hq] at h
 | some i=>simp [hq] at h ⊢; exact h.1
theorem lW {e:TypeId} {s b:Nat} {z:List Value} (ht:P.underlying t=some (.slice e)) (hi':(P.info? e).map (fun i=>(i.zero.map Value.cells,i.size,i.bytes))=some (some z.toArray,s,b)) (hz:z.length=s) (hs0:0<s)
  {v:Value} {m k cy:Nat} {olds cys:List Value} {A:Option Addr} {lo:Nat} (hlo:lo<=w.heap.size) (hrow:(m=0/\olds=[]/\∃ a,v = .slice a 0 0)\/w.ownsRow lo e s v m olds) (hfl:cys.length=k*s) (hones:∀ u ∈ cys,u.oneCell' = true) (hcells:k=0\/∃ ad,A=some ad/\CellsAt w ad cys)
  (hlen:(m+k)*b<=140737488355328) (h63:m+k<=9223372036854775807) :
  ∃ v' w',(Builtin.append_ #[t,t] ty #[v,.slice A k cy]).run P w = .ok v' w' /\ ((m+k=0/\∃ a,v' = .slice a 0 0)\/w'.ownsRow lo e s v' (m+k) (olds++cys))/\Kp (ob v) w w' /\ (∀ g ∈ ob v',g ∈ ob v\/(g=w.heap.size/\w.heap.size<w'.heap.size)):=by
 obtain ⟨i,zv,hq,hzv,hzc,hsz,hby_⟩:=nQ hi'
 have hzs:zv.cells.size=s:=by rw [hzc]; simpa using hz
 have hA0:A=none->k=0:=by
  intro hA
  rcases hcells with h | ⟨ad',h,hc⟩
  ·exact h
  ·rw [hA] at h; cases h
 have hcl:∀ ad,A=some ad->∀ j u,cys[j]? = some u->w.cell? (ad.add j)=some u:=by
  intro ad hA j u hu
  rcases hcells with h | ⟨ad',h,hc⟩
  ·subst h
   have:cys=[]:=List.eq_nil_of_length_eq_zero (by omega)
   subst this; simp at hu
  ·rw [hA] at h; cases h; exact hc j u hu
 have runOwn:∀ (v:Value) (n:Nat) (olds:List Value),w.ownsRow lo e s v n olds->n+k<=9223372036854775807->(n+k)*b<=140737488355328 ->
   ∃ v' w',(Builtin.append_ #[t,t] ty #[v,.slice A k cy]).run P w = .ok v' w' /\ w'.ownsRow lo e s v' (n+k) (olds++cys)/\w.grownBy w' v.ownBlock /\
    (v'.ownBlock=v.ownBlock\/v'.ownBlock=some w.heap.size)/\(v'.ownBlock=some w.heap.size->w.heap.size<w'.heap.size):=by
  intro v n olds hown h63 hlen
  rcases A with _ | ad
  ·have hy0:=hA0 rfl
   subst hy0
   have hc0:cys=[]:=List.eq_nil_of_length_eq_zero (by omega)
   subst hc0
   refine ⟨v,w,?_,by simpa using hown,⟨rfl,rfl,rfl,Nat.le_refl _,fun _ _ _=>rfl⟩,.inl rfl,fun h=>?_⟩
   ·rcases hown.2 with ⟨rfl,h0⟩ | ⟨g,cap,cur,rfl,_,_,hnc,_⟩
    ·simp [Builtin.append_,run_underlying ht,sizeOf,typeInfo,hq,Builtin.lenOf,Builtin.firstCells]
    ·simp [Builtin.append_,run_underlying ht,sizeOf,typeInfo,hq,Builtin.lenOf,Builtin.firstCells,hnc,storeCells]
   ·exact absurd (hown.lt _ h).2 bK
  ·obtain ⟨v',w',hrun,h2,h3,_,h5⟩:=run_append_own_at (P:=P) w lo t ty e i zv s b ht hq hzv hsz hby_ hzs (by omega) v n olds hown ad k cy cys hfl (hcl ad rfl) hones (by simpa [maxLen] using h63) hlen hlo
   exact ⟨v',w',hrun,h2,h3,h5,fun h=>(h2.lt _ h).2⟩
 by_cases hcap:∃ a,v = .slice a 0 0
 ·obtain ⟨a0,rfl⟩:=hcap
  have hm0:m=0/\olds=[]:=by
   rcases hrow with ⟨h1,h2,_⟩ | h1
   ·exact ⟨h1,h2⟩
   ·have hm:m=0:=by
     rcases h1.2 with ⟨_,h0⟩ | ⟨g,cap,cur,hv,_,_,hn,_⟩
     ·exact h0
     ·injection hv with _ e1 _; exact e1.symm
    refine ⟨hm,List.eq_nil_of_length_eq_zero ?_⟩
    rw [h1.1,hm,Nat.zero_mul]
  obtain ⟨rfl,rfl⟩:=hm0
  by_cases hy0:k=0
  ·subst hy0
   have hc0:cys=[]:=List.eq_nil_of_length_eq_zero (by omega)
   subst hc0
   refine ⟨.slice a0 0 0,w,?_,.inl ⟨rfl,a0,rfl⟩,(Kp.refl w).sub (by simp),fun g hg=>.inl hg⟩
   cases a0 <;> cases A <;> simp [Builtin.append_,run_underlying ht,sizeOf,typeInfo,hq,Builtin.lenOf,Builtin.firstCells,storeCells,loadCells,loadCellsFrom]
  ·obtain ⟨ad,rfl⟩:∃ ad,A=some ad:=by
    cases A with
    | none=>exact absurd (hA0 rfl) hy0
    | some ad=>exact ⟨ad,rfl⟩
   simp only [Nat.zero_add] at h63 hlen
   obtain ⟨v',w',hrun,h2,h3,h5,h6⟩:=runOwn (.slice none 0 0) 0 [] (World.ownsRow_nil _ _ _ _) (by simpa using h63) (by simpa using hlen)
   have heq:(Builtin.append_ #[t,t] ty #[.slice a0 0 0,.slice (some ad) k cy]).run P w=(Builtin.append_ #[t,t] ty #[.slice none 0 0,.slice (some ad) k cy]).run P w:=by
    cases a0 with
    | none=>rfl
    | some b0=>
     rw [run_append_nil (P:=P) w t ty e i zv ht hq hzv ad k cy cys (by rw [hfl,hsz]) (hcl ad rfl) (by omega) (by omega) (by rw [hby_]; omega)]
     rw [run_append_grow (P:=P) w t ty e i zv ht hq hzv b0 0 0 [] (by simp) (by simp) ad k cy cys (by rw [hfl,hsz]) (hcl ad rfl) (by omega) (by omega) (by
      rw [hby_]; exact growslice_fits (by omega) (by simpa using hlen))]
     simp
   refine ⟨v',w',heq.trans hrun,.inr (by simpa using h2),⟨h3.os,h3.tape,h3.output,h3.size,fun b hb _=>h3.block b hb (by simp [Value.ownBlock])⟩,fun g hg=>?_⟩
   have hg':=qQ hg
   rcases h5 with h5 | h5
   ·rw [h5] at hg'; cases hg'
   ·exact .inr ⟨by rw [h5] at hg'; exact (Option.some.inj hg').symm,h6 h5⟩
 ·have hown:w.ownsRow lo e s v m olds:=by
   rcases hrow with ⟨_,_,h⟩ | h1
   ·exact absurd h hcap
   ·exact h1
  obtain ⟨v',w',hrun,h2,h3,h5,h6⟩:=runOwn v m olds hown h63 hlen
  have hob:∀ g,v.ownBlock=some g->g ∈ ob v:=by
   intro g hg
   rcases hown.2 with ⟨rfl,h0⟩ | ⟨g',cap,cur,rfl,_,_,hn,_⟩
   ·cases hg
   ·cases hg
    simp only [ob]
    rw [if_neg]
    ·simp
    ·intro h0; subst h0; exact hcap ⟨_,by rw [show m=0 by omega]⟩
  refine ⟨v',w',hrun,.inr h2,⟨h3.os,h3.tape,h3.output,h3.size,fun b hb hn=>h3.block b hb fun he=>hn (hob b he.symm)⟩,fun g hg=>?_⟩
  have hg':=qQ hg
  rcases h5 with h5 | h5
  ·rw [h5] at hg'; exact .inl (hob g hg')
  ·exact .inr ⟨by rw [h5] at hg'; exact (Option.some.inj hg').symm,h6 h5⟩
end
section
variable {G:Gl} {ρ:List RE} {H:AH} {w w':World}
theorem re (hR:Rep G ρ H w) {id:Nat} {e e':TypeId} {s s':Sh} {xs:List (den s)} {zs:List (den s')} (hH:getO H id = .row e s xs) {ro:Lv} (hro:ro.mv id=true/\ro.wr id=true) {S:List Nat} (hk:Kp S w w') (hS:∀ g ∈ S,∃ r,ρ[id]? = some r/\r.g? = some g) {r':RE} (hr':∀ g,r'.g? = some g->(∃ r,ρ[id]? = some r/\r.g? = some g)\/(w.heap.size<=g/\g<w'.heap.size))
  (ho:(cx G ρ w).le (cx G (ρ.set id r') w')->OR (cx G (ρ.set id r') w') (ρ.set id r') (.row e' s' zs) r') :
  Stp ro ρ w (ρ.set id r') w' /\ Rep G (ρ.set id r') ((dY (AV.kill id) H).set id (.row e' s' zs)) w' /\ (∀ fr F,ba (cx G ρ w) ρ fr F->ba (cx G (ρ.set id r') w') (ρ.set id r') (dm (AV.kill id) fr) F):=by
 obtain ⟨hnb,hil,hiH⟩:=mT hR hH
 have hlv:∀ b,b<w.heap.size->¬ live ρ b->¬ live (ρ.set id r') b:=fun b hb hl h=>(lA h).elim hl fun h2=>by
  rcases hr' b h2 with ⟨r,h3,h4⟩ | h3
  ·exact hl ⟨id,r,h3,h4⟩
  ·omega
 have hblk:∀ b,b<w.heap.size->(∀ r,ρ[id]? = some r->r.g? ≠ some b)->w'.heap[b]? = w.heap[b]?:=fun b hb hn=>hk.block b hb fun hm=>by
  obtain ⟨r,h1,h2⟩:=hS b hm
  exact hn r h1 h2
 have hext:Ext ρ w (ρ.set id r') w':=⟨hk.os,hk.tape,hk.output,hk.size,fun b hb hl=>⟨hlv b hb hl,hblk b hb fun r h1 h2=>hl ⟨id,r,h1,h2⟩⟩⟩
 have hle:=hext.le (G:=G)
 have hne:∀ j r,id≠j->ρ[j]? = some r->(ρ.set id r')[j]? = some r:=fun j r hij h=>by rw [cF hij]; exact h
 have hcap:∀ q v,ck ρ q v->ck (ρ.set id r') q v:=fun q v ⟨g,h1,h2⟩=>⟨g,hne _ _ (fun e=>hnb g (e ▸ h1)) h1,h2⟩
 have hrd:∀ a v,Rd (cx G ρ w) ρ a v->Rd (cx G (ρ.set id r') w') (ρ.set id r') (a.kill id) v:=by
  intro a v h
  cases a with
  | own j=>
   simp only [AV.kill]
   cases hb:Nat.beq id j
   ·have hij:id≠j:=by rintro rfl; simp at hb
    rcases h with ⟨g,cap,len,z,h,e⟩ | ⟨h,e⟩
    ·exact .inl ⟨g,cap,len,z,hne _ _ hij h,e⟩
    ·exact .inr ⟨hne _ _ hij h,e⟩
   ·exact Rd.one h
  | sub j o k=>
   simp only [AV.kill]
   cases hb:Nat.beq id j
   ·have hij:id≠j:=by rintro rfl; simp at hb
    rcases h with ⟨g,cap,len,z,h,e⟩ | ⟨h,e⟩
    ·exact .inl ⟨g,cap,len,z,hne _ _ hij h,e⟩
    ·exact .inr ⟨hne _ _ hij h,e⟩
   ·exact Rd.one h
  | elp j k o=>
   simp only [AV.kill]
   cases hb:Nat.beq id j
   ·have hij:id≠j:=by rintro rfl; simp at hb
    obtain ⟨g,cap,len,z,h,e⟩:=h
    exact ⟨g,cap,len,z,hne _ _ hij h,e⟩
   ·exact Rd.one h
  | ptr j o=>exact hcap _ _ h
  | mq j=>
   obtain ⟨g,h1,e⟩:=h
   exact ⟨g,hne _ _ (fun e=>hnb g (e ▸ h1)) h1,e⟩
  | fn f b cs=>
   obtain ⟨bs,us,h1,h2,e⟩:=h
   exact ⟨bs,us,h1.imp fun _ _ h=>hcap _ _ h,h2.imp fun _ _ h=>hcap _ _ h,e⟩
  | fe s' x o=>
   obtain ⟨A,cells,h1,h2,h3,e⟩:=h
   exact ⟨A,cells,(hle.S _ h1).1,h2.keep (hle.S _ h1).2,h3.carry hle,e⟩
  | np=>exact h
  | nf=>exact h
  | yl l=>exact h
  | dead=>exact h
  | int n=>exact Pd.carry h hle
  | u8 b=>exact Pd.carry h hle
  | u64 n=>exact Pd.carry h hle
  | bool e=>exact Pd.carry h hle
  | str s=>exact Pd.carry h hle
  | em b=>exact Pd.carry h hle
  | fz s xs=>exact Pd.carry h hle
 have hoth:∀ j r g,id≠j->ρ[j]? = some r->r.g? = some g->w'.heap[g]? = w.heap[g]?:=fun j r g hij h1 h2=>hblk g (hR.bnd j r g h1 h2).2.1 fun r2 h3 h4=>hij (hR.inj _ _ _ _ g h3 h1 h4 h2)
 have key:∀ (a:Nat) (r:RE) (g:Nat),(ρ.set id r')[a]? = some r->r.g? = some g->(id≠a/\ρ[a]? = some r)\/(id=a/\((∃ r,ρ[id]? = some r/\r.g? = some g)\/(w.heap.size<=g/\g<w'.heap.size))):=fun a r g h1 h2=>by
  by_cases hia:id=a
  ·subst hia
   rw [List.getElem?_set_self hil] at h1; cases h1
   exact .inr ⟨rfl,hr' g h2⟩
  ·rw [cF hia] at h1; exact .inl ⟨hia,h1⟩
 refine ⟨⟨hext,fun j r hj h=>hne j r (by rintro rfl; rw [hro.1] at hj; cases hj) h,fun j r hj h=>⟨hne j r (by rintro rfl; rw [hro.2] at hj; cases hj) h,fun g hg=>hoth j r g (by rintro rfl; rw [hro.2] at hj; cases hj) h hg⟩,fun j g h=>hne j _ (fun e=>hnb g (e ▸ h)) h⟩,⟨aG (by simp [a_,hR.obj.length]) fun j o r ho' hr=>?_,fun a b r1 r2 g h1 h2 h3 h4=>?_,fun j r g h1 h2=>?_,fun b hb=>Nat.lt_of_lt_of_le (hR.z b hb) hk.size,Nat.le_trans hR.b0 hk.size,hR.tb.carry hle⟩,fun fr F h=>iG hrd h⟩
 ·by_cases hij:id=j
  ·subst hij
   rw [List.getElem?_set_self (by rw [a_]; exact hiH)] at ho'
   rw [List.getElem?_set_self hil] at hr
   cases ho'; cases hr
   exact ho hle
  ·rw [List.getElem?_set_ne hij,dV] at ho'
   rw [cF hij] at hr
   rw [Option.map_eq_some_iff] at ho'
   obtain ⟨o',ho2,rfl⟩:=ho'
   obtain ⟨r2,hr2,hor⟩:=hR.at_ ho2
   rw [hr] at hr2; cases hr2
   exact hor.map hle hrd fun g hg=>hoth j r g hij hr hg
 ·rcases key a r1 g h1 h3 with ⟨k1,k2⟩ | ⟨k1,k2⟩ <;> rcases key b r2 g h2 h4 with ⟨k3,k4⟩ | ⟨k3,k4⟩
  ·exact hR.inj a b r1 r2 g k2 k4 h3 h4
  ·rcases k4 with ⟨r,k5,k6⟩ | k4
   ·exact absurd (hR.inj _ _ _ _ g k5 k2 k6 h3) k1
   ·have:=(hR.bnd a r1 g k2 h3).2.1; omega
  ·rcases k2 with ⟨r,k5,k6⟩ | k2
   ·exact absurd (hR.inj _ _ _ _ g k5 k4 k6 h4) k3
   ·have:=(hR.bnd b r2 g k4 h4).2.1; omega
  ·omega
 ·rcases key j r g h1 h2 with ⟨k1,k2⟩ | ⟨k1,k2⟩
  ·have:=hR.bnd j r g k2 h2
   exact ⟨this.1,Nat.lt_of_lt_of_le this.2.1 hk.size,this.2.2⟩
  ·rcases k2 with ⟨r,k5,k6⟩ | k2
   ·have:=hR.bnd _ r g k5 k6
    exact ⟨this.1,Nat.lt_of_lt_of_le this.2.1 hk.size,this.2.2⟩
   ·exact ⟨Nat.le_trans hR.b0 k2.1,k2.2,fun hz=>by have:=hR.z g hz; omega⟩
end
section
variable {P:Program} {T:List (Nat × TI)} {G:Gl} {O:cZ} {n:Nat} {F:Fr} {w:World} {x y:Operand} {ty t:TypeId} {ρ:List RE} {H:AH} {fr:AFr} {ro:Lv}
theorem p_ (hR:Rep G ρ H w) {b:AV} {vb:Value} {s:Sh} {ys:List (den s)} (h:(b.vw H).dC s=some ys) (hb:Rd (cx G ρ w) ρ b vb):∃ A k cys,vb = .slice A ys.length k/\cys.length=ys.length*s.size/\(∀ u ∈ cys,u.oneCell' = true)/\(ys.length=0\/∃ ad,A=some ad/\CellsAt w ad cys)/\Pds (cx G ρ w) (ys.flatMap (cellsOf s)) cys:=by
 have hfz:∀ v,b.vw H = .fz s v->∃ A k cys,vb = .slice A v.length k/\cys.length=v.length*s.size/\(∀ u ∈ cys,u.oneCell' = true)/\(v.length=0\/∃ ad,A=some ad/\CellsAt w ad cys)/\Pds (cx G ρ w) (v.flatMap (cellsOf s)) cys:=fun v hv=>by
  obtain ⟨a,k,cells,rfl,h1,h2,h3,h4⟩:=(ov hR hv hb).ex
  refine ⟨a,k,cells,rfl,by rw [<- h3.length,aD],h3.wA,?_,h3⟩
  rcases h4 with h4 | ⟨A,hA,_,hc⟩
  ·exact .inl (by rw [h4]; rfl)
  ·exact .inr ⟨A,hA,hc⟩
 cases hv:b.vw H with
 | fz s' zs=>
  rw [hv] at h
  simp only [AV.dC] at h
  split at h
  ·rename_i e
   subst e
   cases h
   exact hfz _ hv
  ·cases h
 | em c=>
  rw [hv] at h
  cases h
  have hbe:b = .em c:=by
   cases b <;> simp only [AV.vw] at hv <;> first | (cases hv <;> rfl) | (split at hv <;> cases hv)
  subst hbe
  cases hb with | @em _ a _=>
  exact ⟨a,0,[],rfl,by simp,by simp,.inl rfl,.nil⟩
 | _=>rw [hv] at h; simp [AV.dC] at h
theorem fx {lo:Nat} {e:TypeId} {s m:Nat} {v:Value} {cs:List Value} (h:w.ownsRow lo e s v m cs):(v = .slice none 0 0/\m=0)\/∃ g cap sp,v = .slice (some ⟨g,0,none⟩) m cap/\w.heap[g]? = some (.cells (List.toArray (cs++sp)) e (0,0))/\(cs++sp).length=cap*s/\m<=cap/\cap<=maxLen:=by
 rcases h.2 with h0 | ⟨g,cap,cur,hv,_,hh,hn,hm,hs,ht⟩
 ·exact .inl h0
 ·refine .inr ⟨g,cap,cur.toList.drop (m*s),hv,?_,?_,hn,hm⟩
  ·rw [<- ht,List.take_append_drop]; simpa using hh
  ·rw [<- ht,List.take_append_drop]; simpa using hs
theorem kD (hT:ao P G.shp T) (hR:Rep G ρ H w) (hf:ba (cx G ρ w) ρ fr F) {a b:AV} {va vb:Value} {r:SR} (h:kN T ro fr H t a b=some r) (hob:∀ p ∈ r.ob,p) (ha:Rd (cx G ρ w) ρ a va) (hb:Rd (cx G ρ w) ρ b vb) (hx:ev F x=some va) (hy:ev F y=some vb) :
  ∃ v w',ah P n F w (.call { callee:=.builtin .append,args:=#[x,y],argTypes:=#[t,t] }) ty v w' /\ bW G ro ρ w r F v w':=by
 unfold kN at h
 split at h
 ·rename_i e s sz z hft
  obtain ⟨hu,hs⟩:=(hT _ _ hft).2
  obtain ⟨hshp,⟨zz,hz,hzb⟩,_⟩:=hs s rfl
  have hzl:zz.length=s.size:=by
   have:=(dz (c:=cx G ρ w) (ρ:=ρ) hzb).length
   rw [aI] at this; exact this.symm
  split at h
  ·rename_i ys hys
   obtain ⟨A,k,cys,rfl,s1,s2,s3,s4⟩:=p_ hR hys hb
   have run:∀ (m:Nat) (olds:List Value),((m=0/\olds=[]/\∃ a,va = .slice a 0 0)\/w.ownsRow 0 e s.size va m olds)->(m+ys.length)*s.bytes<=140737488355328 ->
     ∃ v' w',ah P n F w (.call { callee:=.builtin .append,args:=#[x,y],argTypes:=#[t,t] }) ty v' w' /\ ((m+ys.length=0/\∃ a,v' = .slice a 0 0)\/w'.ownsRow 0 e s.size v' (m+ys.length) (olds++cys))/\Kp (ob va) w w' /\ (∀ g ∈ ob v',g ∈ ob va\/(g=w.heap.size/\w.heap.size<w'.heap.size)):=fun m olds hrow hlen=>by
    have h63:m+ys.length<=9223372036854775807:=by
     have:=Nat.mul_le_mul_left (m+ys.length) (dQ s)
     omega
    obtain ⟨v',w',h1,h2⟩:=lW (P:=P) (w:=w) (ty:=ty) (cy:=k) hu hz hzl (size_pos s) (lo:=0) (Nat.zero_le _) hrow s1 s2 s3 hlen h63
    exact ⟨v',w',fun a _ _ _ _ ha=>by simp [execOp,resolve,invoke,builtin,ha.ev hx,ha.ev hy,h1],h2⟩
   -- what a row of one's own becomes
   have ownStep:∀ (id:Nat) (xs zs:List (den s)) (m:Nat),getO H id = .row e s xs->(ro.mv id=true/\ro.wr id=true)->m=zs.length->(∀ (v':Value) (w':World),w'.heap.size=w'.heap.size)->(m+ys.length)*s.bytes<=140737488355328 ->
     ((va = .slice (some ⟨0,0,none⟩) 0 0->True))->(∃ olds,((m=0/\olds=[]/\∃ a,va = .slice a 0 0)\/w.ownsRow 0 e s.size va m olds)/\Pds (cx G ρ w) (zs.flatMap (cellsOf s)) olds)->(∀ g ∈ ob va,∃ r,ρ[id]? = some r/\r.g? = some g) ->
     ∃ v w',ah P n F w (.call { callee:=.builtin .append,args:=#[x,y],argTypes:=#[t,t] }) ty v w' /\ bW G ro ρ w ⟨one (.own id),dm (AV.kill id) fr,(dY (AV.kill id) H).set id (.row e s (zs++ys)),[],[]⟩ F v w':=by
    intro id xs zs m hH hro hm _ hlen _ ⟨olds,hrow,hpo⟩ hobv
    subst hm
    obtain ⟨_,hil,_⟩:=mT hR hH
    obtain ⟨v',w',h1,h2,h3,h4⟩:=run zs.length olds hrow hlen
    have hlap:(zs++ys).length=zs.length+ys.length:=List.length_append
    have done:∀ (r':RE),(∀ g,r'.g? = some g->(∃ r,ρ[id]? = some r/\r.g? = some g)\/(w.heap.size<=g/\g<w'.heap.size))->((cx G ρ w).le (cx G (ρ.set id r') w')->OR (cx G (ρ.set id r') w') (ρ.set id r') (.row e s (zs++ys)) r')->Rd (cx G (ρ.set id r') w') (ρ.set id r') (.own id) v' -> ∃ v w',ah P n F w (.call { callee:=.builtin .append,args:=#[x,y],argTypes:=#[t,t] }) ty v w' /\ bW G ro ρ w ⟨one (.own id),dm (AV.kill id) fr,(dY (AV.kill id) H).set id (.row e s (zs++ys)),[],[]⟩ F v w':=fun r' k1 k2 k3=>by
     obtain ⟨k4,k5,k6⟩:=re hR hH hro h3 hobv k1 k2
     exact ⟨v',w',h1,ρ.set id r',k4,k5,k6 fr F hf,k3,by simp⟩
    rcases h2 with ⟨h0,a',rfl⟩ | h2
    ·refine done .emp (by rintro g ⟨⟩) (fun _=>⟨hshp,by rw [hlap]; exact hlen,.inl ⟨rfl,List.eq_nil_of_length_eq_zero (by omega)⟩⟩) (.inr ⟨List.getElem?_set_self hil,a',rfl⟩)
    ·rcases fx h2 with ⟨rfl,h0⟩ | ⟨g,cap,sp,rfl,k1,k2,k3,k4⟩
     ·refine done .emp (by rintro g ⟨⟩) (fun _=>⟨hshp,by rw [hlap]; exact hlen,.inl ⟨rfl,List.eq_nil_of_length_eq_zero (by omega)⟩⟩) (.inr ⟨List.getElem?_set_self hil,none,rfl⟩)
     ·by_cases hc0:cap=0
      ·subst hc0
       have hm0:zs.length+ys.length=0:=by omega
       exact done .emp (by rintro g ⟨⟩) (fun _=>⟨hshp,by rw [hlap]; exact hlen,.inl ⟨rfl,List.eq_nil_of_length_eq_zero (by omega)⟩⟩) (.inr ⟨List.getElem?_set_self hil,some ⟨g,0,none⟩,by rw [hm0]⟩)
      ·refine done (.row g cap (zs++ys).length s.size) (fun g' hg'=>?_) (fun hle=>⟨hshp,by rw [hlap]; exact hlen,.inr ⟨g,cap,olds++cys,sp,rfl,k1,?_,k2,by rw [hlap]; exact k3,k4⟩⟩) (.inl ⟨g,cap,(zs++ys).length,s.size,List.getElem?_set_self hil,by rw [hlap]⟩)
       ·cases hg'
        rcases h4 g (by simp [ob,hc0]) with h5 | ⟨h5,h6⟩
        ·exact .inl (hobv g h5)
        ·exact .inr ⟨by omega,by omega⟩
       ·rw [List.flatMap_append]
        exact (hpo.append s4).carry hle
   split at h
   ·-- no room
    cases h
    cases ha with | @em _ a0 _=>
    have hlen:=hob _ (List.mem_singleton_self _)
    obtain ⟨v',w',h1,h2,h3,h4⟩:=run 0 [] (.inl ⟨rfl,rfl,a0,rfl⟩) (by simpa using hlen)
    have hk:Kp [] w w':=h3.sub fun g hg=>by cases a0 <;> simp [ob] at hg
    simp only [Nat.zero_add,List.nil_append] at h2
    have fin:∀ (a':Option Addr),ys=[]->v' = .slice a' 0 0->bW G ro ρ w ⟨one (.own H.length),fr,H++[.row e s ys],[ys.length*s.bytes<=140737488355328],[]⟩ F v' w':=fun a' hy0 hv=>by
     obtain ⟨ρ',k1,k2,k3,k4⟩:=qA (ro:=ro) hR hf hk hshp hy0 a'
     subst hv
     exact ⟨ρ',k1,k2,k3,k4,by simp⟩
    refine ⟨v',w',h1,?_⟩
    rcases h2 with ⟨h0,a',hv⟩ | h2
    ·exact fin a' (List.eq_nil_of_length_eq_zero h0) hv
    ·rcases fx h2 with ⟨hv,h0⟩ | ⟨g,cap,sp,rfl,k1,k2,k3,k4⟩
     ·exact fin none (List.eq_nil_of_length_eq_zero h0) hv
     ·by_cases hc0:cap=0
      ·subst hc0
       have hm0:ys.length=0:=by omega
       exact fin _ (List.eq_nil_of_length_eq_zero hm0) (by rw [hm0])
      ·rcases h4 g (by simp [ob,hc0]) with h5 | ⟨h5,h6⟩
       ·cases a0 <;> simp [ob] at h5
       ·subst h5
        obtain ⟨ρ',j1,j2,j3,j4⟩:=kz (ro:=ro) hR hf hk k1 hshp hlen s4 k2 k3 k4
        exact ⟨ρ',j1,j2,j3,j4,by simp⟩
   ·-- a row
    rename_i id
    split at h
    ·rename_i e' s' xs hH
     split at h
     ·rename_i hss
      subst hss
      split at h
      ·rename_i hck
       cases h
       simp only [Bool.and_eq_true] at hck
       have he:=Nat.eq_of_beq_eq_true hck.2
       subst he
       have hlen:=hob _ (List.mem_singleton_self _)
       have hmain:=ownStep id xs xs xs.length hH hck.1 rfl (fun _ _=>rfl) hlen (fun _=>trivial)
       rcases aE hR hH with ⟨h0,rfl⟩ | ⟨g,cap,cells,sp,h2,h3,h4,h5,h6,h7⟩
       ·rcases ha with ⟨_,_,_,_,h8,_⟩ | ⟨_,a0,rfl⟩
        ·rw [h0] at h8; cases h8
        ·obtain ⟨v,w',k1,ρ',k2,k3,k4,k5,k6⟩:=hmain ⟨[],.inl ⟨rfl,rfl,a0,rfl⟩,.nil⟩ (fun g hg=>by cases a0 <;> simp [ob] at hg)
         exact ⟨v,w',k1,ρ',k2,k3,k4,k5,k6⟩
       ·rcases ha with ⟨_,_,_,_,h8,rfl⟩ | ⟨h8,_⟩
        ·rw [h2] at h8; cases h8
         obtain ⟨v,w',k1,ρ',k2,k3,k4,k5,k6⟩:=hmain ⟨cells,.inr ⟨by rw [<- h4.length,aD],.inr ⟨g,cap,_,rfl,Nat.zero_le _,h3,h6,h7,by simpa using h5,by
          have hcl:cells.length=xs.length*s'.size:=by rw [<- h4.length,aD]
          rw [<- hcl]; simp⟩⟩,h4⟩ (fun g' hg'=>by
           simp only [ob] at hg'
           split at hg'
           ·simp at hg'
           ·simp at hg'; subst hg'; exact ⟨_,h2,rfl⟩)
         exact ⟨v,w',k1,ρ',k2,k3,k4,k5,k6⟩
        ·rw [h2] at h8; cases h8
      ·cases h
     ·cases h
    ·cases h
   ·-- a row's beginning
    rename_i id len
    split at h
    ·rename_i e' s' xs hH
     split at h
     ·rename_i hss
      subst hss
      split at h
      ·rename_i hck
       cases h
       simp only [Bool.and_eq_true] at hck
       have he:=Nat.eq_of_beq_eq_true hck.2
       subst he
       have hlen:=hob _ (List.mem_singleton_self _)
       rcases aE hR hH with ⟨h0,rfl⟩ | ⟨g,cap,cells,sp,h2,h3,h4,h5,h6,h7⟩
       ·rcases ha with ⟨_,_,_,_,h8,_⟩ | ⟨_,_,rfl,a0,rfl⟩
        ·rw [h0] at h8; cases h8
        ·obtain ⟨v,w',k1,ρ',k2,k3,k4,k5,k6⟩:=ownStep id [] ([].take 0) 0 hH hck.1 rfl (fun _ _=>rfl) hlen (fun _=>trivial) ⟨[],.inl ⟨rfl,rfl,a0,rfl⟩,.nil⟩ (fun g hg=>by cases a0 <;> simp [ob] at hg)
         exact ⟨v,w',k1,ρ',k2,k3,k4,k5,k6⟩
       ·rcases ha with ⟨_,_,_,_,h8,h9,rfl⟩ | ⟨h8,_⟩
        ·rw [h2] at h8; cases h8
         have hlt:(xs.take len).length=len:=by simp; omega
         have hcl:cells.length=xs.length*s'.size:=by rw [<- h4.length,aD]
         have hmul:len*s'.size<=xs.length*s'.size:=Nat.mul_le_mul_right _ (by omega)
         obtain ⟨v,w',k1,ρ',k2,k3,k4,k5,k6⟩:=ownStep id xs (xs.take len) len hH hck.1 hlt.symm (fun _ _=>rfl) hlen (fun _=>trivial) ⟨cells.take (len*s'.size),.inr ⟨by rw [List.length_take]; omega,.inr ⟨g,cap,_,by rw [Nat.zero_mul,Nat.sub_zero],Nat.zero_le _,h3,by omega,h7,by simpa using h5,by
          rw [List.toList_toArray,List.take_append_of_le_length (by omega)]⟩⟩,aK h4 len⟩ (fun g' hg'=>by
           simp only [ob] at hg'
           split at hg'
           ·simp at hg'
           ·simp at hg'; subst hg'; exact ⟨_,h2,rfl⟩)
         exact ⟨v,w',k1,ρ',k2,k3,k4,k5,k6⟩
        ·rw [h2] at h8; cases h8
      ·cases h
     ·cases h
    ·cases h
   ·cases h
  ·cases h
 ·cases h
end
theorem b_ {f:Nat->AO}:∀ {l:List Nat} {H:AH},(eg f l H).length=H.length
 | [],_=>rfl
 | i :: r,H=>by rw [eg,b_,List.length_set]
theorem jD {f:Nat->AO} {j:Nat}:∀ {l:List Nat} {H:AH},j<H.length->(eg f l H)[j]? = if j ∈ l then some (f j) else H[j]?
 | [],_,_=>by simp [eg]
 | i :: r,H,hj=>by
  rw [eg,jD (by rw [List.length_set]; exact hj)]
  by_cases h1:j ∈ r
  ·simp [h1]
  ·by_cases h2:i=j
   ·subst h2; simp [h1,hj]
   ·rw [if_neg h1,List.getElem?_set_ne h2]
    simp [h1,Ne.symm h2]
theorem cf {H:AH} {i:Nat}:∀ {l:List Nat},i ∈ rowsOf H l↔i ∈ l/\((∃ t s xs,getO H i = .row t s xs)\/getO H i = .loc)
 | []=>by simp [rowsOf]
 | j :: r=>by
  unfold rowsOf
  split
  ·rename_i t s xs h
   simp only [List.mem_cons,cf]
   constructor
   ·rintro (rfl | ⟨h1,h2⟩)
    ·exact ⟨.inl rfl,.inl ⟨t,s,xs,h⟩⟩
    ·exact ⟨.inr h1,h2⟩
   ·rintro ⟨rfl | h1,h2⟩
    ·exact .inl rfl
    ·exact .inr ⟨h1,h2⟩
  ·rename_i h
   simp only [List.mem_cons,cf]
   constructor
   ·rintro (rfl | ⟨h1,h2⟩)
    ·exact ⟨.inl rfl,.inr h⟩
    ·exact ⟨.inr h1,h2⟩
   ·rintro ⟨rfl | h1,h2⟩
    ·exact .inl rfl
    ·exact .inr ⟨h1,h2⟩
  ·rename_i hn hl
   simp only [List.mem_cons,cf]
   constructor
   ·rintro ⟨h1,h2⟩; exact ⟨.inr h1,h2⟩
   ·rintro ⟨rfl | h1,h2⟩
    ·rcases h2 with ⟨t,s,xs,h2⟩ | h2
     ·exact absurd h2 (hn t s xs)
     ·exact absurd h2 hl
    ·exact ⟨h1,h2⟩
theorem jS {ro:Lv}:∀ {l:List Nat},mn ro l=true↔∀ i ∈ l,ro.wr i=true/\ro.mv i=true
 | []=>by simp [mn]
 | i :: r=>by simp [mn,jS]
theorem fH {b:Sh} {o:AO}:∀ {H:AH},iQ b H=true->o ∈ H->iQ b [o]=true
 | [],_,h=>by simp at h
 | o' :: r,h,hm=>by
  rcases List.mem_cons.1 hm with rfl | hm
  ·cases o <;> simp only [iQ,Bool.and_eq_true] at h ⊢ <;> simp_all
  ·exact fH (H:=r) (by cases o' <;> simp only [iQ,Bool.and_eq_true] at h <;> first | exact h | exact h.2) hm
theorem sR {b:Sh} {t:TypeId} {cs:List AV} {H:AH} (h:iQ b H=true) (hm:.box t cs ∈ H):uP b cs=true:=by simpa [iQ] using fH h hm
theorem tq {b:Sh} {t:TypeId} {s:Sh} {xs:List (den s)} {H:AH} (h:iQ b H=true) (hm:.row t s xs ∈ H):cP (Sh.no 5 b) s.dX=true:=by simpa [iQ] using fH h hm
theorem tu {b:Sh} {s:Sh} {f:Int->Option (den s)} {H:AH} (h:iQ b H=true) (hm:.mapo s f ∈ H):cP (Sh.no 5 b) s.dX=true:=by simpa [iQ] using fH h hm
theorem tX {b:Sh} {t:TypeId} {s:Sh} {n:Nat} {xs:List (den s)} {H:AH} (h:iQ b H=true) (hm:.arr t s n xs ∈ H):cP (Sh.no 5 b) s.dX=true:=by simpa [iQ] using fH h hm
theorem oi {b:Sh}:∀ {l:List (Int × AV)},wN b l=true->∀ q ∈ l,q.2.no b=true
 | [],_,q,hq=>by simp at hq
 | (k,a) :: r,h,q,hq=>by
  simp only [wN,Bool.and_eq_true] at h
  rcases List.mem_cons.1 hq with rfl | hq
  ·exact h.1
  ·exact oi h.2 q hq
theorem rL {b:Sh} {l:List (Int × AV)} {H:AH} (h:iQ b H=true) (hm:.mapf l ∈ H):wN b l=true:=by simpa [iQ] using fH h hm
theorem ng {σ:List Nat} (hn:σ.Nodup) {j:Nat} (hj:j<σ.length):posOf σ[j] σ=j:=by
 have h1:=dA (σ:=σ) (List.getElem_mem hj)
 have h2:=(List.getElem?_eq_some_iff.1 h1)
 obtain ⟨h3,h4⟩:=h2
 exact (List.getElem_inj hn).1 h4
def bJ (ρ:List RE) (σ:List Nat) (ρ2:List RE):List RE:=((List.range ρ.length).map fun j=>if j ∈ σ then ρ2.getD (posOf j σ) .no else ρ.getD j .no)++ρ2.drop σ.length
theorem dh {ρ:List RE} {σ:List Nat} {ρ2:List RE} {j:Nat} (hj:j<ρ.length):(bJ ρ σ ρ2)[j]? = some (if j ∈ σ then ρ2.getD (posOf j σ) .no else ρ.getD j .no):=by
 unfold bJ
 rw [List.getElem?_append_left (by simpa using hj)]
 simp [hj]
theorem ku {ρ:List RE} {σ:List Nat} {ρ2:List RE} {j:Nat} (hj:ρ.length<=j):(bJ ρ σ ρ2)[j]? = ρ2[σ.length+(j - ρ.length)]?:=by
 unfold bJ
 rw [List.getElem?_append_right (by simpa using hj),List.getElem?_drop]
 simp
section
variable {P:Program} {G:Gl} {O:cZ} {n:Nat} {F:Fr} {w:World} {ρ:List RE} {H:AH} {fr:AFr} {ro:Lv}
theorem jA (hO:aS P G.shp O) (hR:Rep G ρ H w) (hf:ba (cx G ρ w) ρ fr F) {f:Nat} {a:List TV1} {lent:List Nat} {vs:List Value} {r:SR}
  (hvs:∀ (G':Gl) (σ:List Nat),G'.shp=G.shp->(cx G ρ w).le (cx G' (aL ρ σ) w)->(∀ i ∈ gA a,i ∈ σ)->(∀ id ∈ lent,∀ g cap len z,ρ[id]? = some (.row g cap len z)->(cx G' (aL ρ σ) w).S g)->All2 (aO (cx G' (aL ρ σ) w) (aL ρ σ)) (cJ (posOf · σ) a) vs)
  (hlent:∀ id ∈ lent,∀ r,ρ[id]? = some r->r ≠ .no->(∃ t s xs,getO H id = .row t s xs))
  (h:nU O ro fr H f a lent=some r) (hob:∀ p ∈ r.ob,p) :
  (∃ fn,P.funcs[f]? = some fn/\(fn.name == "runtime.NumGoroutine")=false/\fn.body.isNone=false)/\mg P f vs.toArray w fun v w'=>bW G ro ρ w r F v w':=by
 unfold nU at h
 generalize iL H a=σ at h
 simp only at h
 split at h
 ·rename_i hck
  simp only [Bool.and_eq_true] at hck
  obtain ⟨⟨⟨⟨hn,hai⟩,hcl⟩,hno⟩,hge⟩:=hck
  split at h
  ·rename_i pre rs H' kp hrs
   split at h
   ·rename_i hck2
    cases h
    simp only [Bool.and_eq_true] at hck2
    have hlenH:=Nat.le_of_ble_eq_true hck2.1
    have hsh:=bC.1 hck2.2
    have hai:=cM.1 hai
    have hno:=ei.1 hno
    have hge:=jS.1 hge
    have hnd:=di.1 hn
    have hclo:=cz.1 hcl
    let lt:Nat->Prop:=fun b=>∃ id ∈ lent,∃ rr,ρ[id]? = some rr/\rr.g? = some b
    let Z':Nat->Prop:=fun b=>G.Z b\/(live ρ b/\¬ live (aL ρ σ) b/\¬ lt b)
    have hsub:∀ (b i:Nat) (r:RE),ρ[i]? = some r->r.g? = some b->live (aL ρ σ) b->i ∈ σ:=by
     rintro b i r h1 h2 ⟨j,r2,h3,h4⟩
     have e:=bk h3 (by rintro rfl; cases h4)
     have e2:=hR.inj _ _ _ _ b h1 e h2 h4
     have hj:j<σ.length:=by simpa [aL] using (List.getElem?_eq_some_iff.1 h3).1
     have a1:σ.getD j 0=σ[j]:=by rw [List.getD_eq_getElem?_getD,List.getElem?_eq_getElem hj]; rfl
     rw [e2,a1]; exact List.getElem_mem _
    have hltσ:∀ b,lt b->¬ live (aL ρ σ) b:=by
     rintro b ⟨id,hid,rr,h1,h2⟩ hl
     exact hno id hid (hsub b id rr h1 h2 hl)
    obtain ⟨hR',hle⟩:=hR.sub (σ:=σ) (Z':=Z') hn hcl (fun b hb=>hb.elim (hR.z b) fun ⟨⟨i,r,h1,h2⟩,_⟩=>(hR.bnd i r b h1 h2).2.1) (fun b h1 h2 hz=>hz.elim h1 fun h3=>h2 h3.1)
     (fun b h1 hz=>hz.elim (fun h2=>by obtain ⟨i,r,h3,h4⟩:=cO h1; exact (hR.bnd i r b h3 h4).2.2 h2) fun h2=>h2.2.1 h1)
    obtain ⟨hfn,hrun⟩:=hO _ _ _ _ hrs hob
    refine ⟨hfn,?_⟩
    have hargs:=hvs ⟨G.shp,G.B0,Z'⟩ σ rfl hle hai fun id hid g cap len z h1=>by
     have hl:lt g:=⟨id,hid,_,h1,rfl⟩
     have hb:=hR.bnd _ _ g h1 rfl
     exact ⟨hb.2.1,hltσ g hl,fun hz=>hz.elim hb.2.2 fun h2=>h2.2.2 hl⟩
    refine (hrun ⟨G.shp,G.B0,Z'⟩ _ w vs rfl hR' hargs).mono fun v w' ⟨us,hv,ρ2,hR2,hext2,hbx2,hrs',_⟩=>?_
    have hl2:H'.length=ρ2.length:=hR2.obj.length
    have hHρ:H.length=ρ.length:=hR.obj.length
    have hτlt:∀ {j:Nat},j<σ.length->bB H σ j=σ.getD j 0:=fun {j} hj=>by
     unfold bB
     have:Nat.ble σ.length j=false:=by rw [<- Bool.not_eq_true,Nat.ble_eq]; omega
     rw [this]; rfl
    have hτge:∀ {j:Nat},σ.length<=j->bB H σ j=H.length+(j - σ.length):=fun {j} hj=>by
     unfold bB
     have:Nat.ble σ.length j=true:=by rw [Nat.ble_eq]; exact hj
     rw [this]; rfl
    have hσlt:∀ i ∈ σ,i<ρ.length:=fun i hi=>by rw [<- hHρ]; exact (hclo i hi).1
    have hτ:∀ (j:Nat) (r:RE),ρ2[j]? = some r->(bJ ρ σ ρ2)[bB H σ j]? = some r:=fun j r hj=>by
     by_cases hjn:j<σ.length
     ·rw [hτlt hjn]
      have a1:σ.getD j 0=σ[j]:=by rw [List.getD_eq_getElem?_getD,List.getElem?_eq_getElem hjn]; rfl
      rw [a1,dh (hσlt _ (List.getElem_mem hjn)),if_pos (List.getElem_mem hjn),ng hnd hjn,getD_some hj]
     ·rw [hτge (by omega),ku (by omega),hHρ,<- hj]
      congr 1; omega
    -- where what stands at a place comes from
    have hmix:∀ (i:Nat) (r:RE) (g:Nat),(bJ ρ σ ρ2)[i]? = some r->r.g? = some g->(i<ρ.length/\i ∉ σ/\ρ[i]? = some r)\/∃ j,ρ2[j]? = some r/\bB H σ j=i:=fun i r g h1 h2=>by
     by_cases hi:i<ρ.length
     ·rw [dh hi] at h1
      by_cases hm:i ∈ σ
      ·rw [if_pos hm] at h1
       cases h1
       have hp:=dA hm
       obtain ⟨hpl,hpe⟩:=List.getElem?_eq_some_iff.1 hp
       refine .inr ⟨posOf i σ,?_,?_⟩
       ·cases hq:ρ2[posOf i σ]? with
        | none=>rw [List.getD_eq_getElem?_getD,hq] at h2; cases h2
        | some r'=>rw [getD_some hq]
       ·rw [hτlt hpl,List.getD_eq_getElem?_getD,hp]; rfl
      ·rw [if_neg hm] at h1
       cases h1
       have:ρ[i]? = some ρ[i]:=List.getElem?_eq_getElem hi
       exact .inl ⟨hi,hm,by rw [getD_some this]; exact this⟩
     ·rw [ku (by omega)] at h1
      refine .inr ⟨σ.length+(i - ρ.length),h1,?_⟩
      rw [hτge (by omega),hHρ]; omega
    have hτinj:∀ (j j':Nat),j<ρ2.length->j' < ρ2.length->bB H σ j=bB H σ j' -> j=j':=fun j j' hj hj' he=>by
     by_cases h1:j<σ.length <;> by_cases h2:j' < σ.length
     ·rw [hτlt h1,hτlt h2] at he
      rw [List.getD_eq_getElem?_getD,List.getElem?_eq_getElem h1,List.getD_eq_getElem?_getD,List.getElem?_eq_getElem h2] at he
      exact (List.getElem_inj hnd).1 he
     ·rw [hτlt h1,hτge (by omega),List.getD_eq_getElem?_getD,List.getElem?_eq_getElem h1] at he
      have:=(hclo _ (List.getElem_mem h1)).1
      simp only [Option.getD_some] at he; omega
     ·rw [hτge (by omega),hτlt h2,List.getD_eq_getElem?_getD,List.getElem?_eq_getElem h2] at he
      have:=(hclo _ (List.getElem_mem h2)).1
      simp only [Option.getD_some] at he; omega
     ·rw [hτge (by omega),hτge (by omega)] at he; omega
    have hlive2:∀ b,live ρ2 b->live (aL ρ σ) b\/w.heap.size<=b:=fun b hl=>by
     by_cases hb:b<w.heap.size
     ·by_cases hs:live (aL ρ σ) b
      ·exact .inl hs
      ·exact absurd hl (hext2.old b hb hs).1
     ·exact .inr bK
    -- what is not the callee's stays
    have hoth:∀ (i:Nat) (r:RE) (g:Nat),i ∉ σ->ρ[i]? = some r->r.g? = some g->¬ live ρ2 g/\w'.heap[g]? = w.heap[g]?:=fun i r g hi h1 h2=>
     hext2.old g (hR.bnd i r g h1 h2).2.1 fun hl=>hi (hsub g i r h1 h2 hl)
    have hlv:∀ b,b<w.heap.size->¬ live ρ b->¬ live (bJ ρ σ ρ2) b:=fun b hb hl ⟨i,r,h1,h2⟩=>by
     rcases hmix i r b h1 h2 with ⟨_,_,h3⟩ | ⟨j,h3,_⟩
     ·exact hl ⟨i,r,h3,h2⟩
     ·rcases hlive2 b ⟨j,r,h3,h2⟩ with h4 | h4
      ·exact hl (cO h4)
      ·omega
    have hext:Ext ρ w (bJ ρ σ ρ2) w':=⟨hext2.os,hext2.tape,hext2.output,hext2.size,fun b hb hl=>⟨hlv b hb hl,(hext2.old b hb fun h=>hl (cO h)).2⟩⟩
    have hle1:=hext.le (G:=G)
    have hstp:Stp ro ρ w (bJ ρ σ ρ2) w':=by
     refine ⟨hext,fun i r hi hr=>?_,fun i r hi hr=>?_,fun i g hi=>?_⟩
     ·have him:i ∉ σ:=fun hm=>by have:=(hge i hm).2; rw [hi] at this; cases this
      rw [dh (List.getElem?_eq_some_iff.1 hr).1,if_neg him,getD_some hr]
     ·have him:i ∉ σ:=fun hm=>by have:=(hge i hm).1; rw [hi] at this; cases this
      have hil:=(List.getElem?_eq_some_iff.1 hr).1
      refine ⟨?_,fun g hg=>(hoth i r g him hr hg).2⟩
      rw [dh hil,if_neg him,getD_some hr]
     ·have hil:=(List.getElem?_eq_some_iff.1 hi).1
      rw [dh hil]
      by_cases hm:i ∈ σ
      ·rw [if_pos hm]
       have:=hbx2 (posOf i σ) g (cd hm hi)
       rw [getD_some this]
      ·rw [if_neg hm,getD_some hi]
    -- the frame's values and the others' objects
    have hag:∀ (i:Nat) (r:RE),(i ∉ σ\/∃ g,r = .blk g)->ρ[i]? = some r->(bJ ρ σ ρ2)[i]? = some r:=fun i r hh hr=>by
     rcases hh with hh | ⟨g,rfl⟩
     ·rw [dh (List.getElem?_eq_some_iff.1 hr).1,if_neg hh,getD_some hr]
     ·exact hstp.bx i g hr
    have hcap:∀ q v,ck ρ q v->ck (bJ ρ σ ρ2) q v:=fun q v ⟨g,h1,h2⟩=>⟨g,hag _ _ (.inr ⟨g,rfl⟩) h1,h2⟩
    have hrow:∀ (i:Nat) (r:RE),ρ[i]? = some r->(r = .emp\/∃ g cap len z,r = .row g cap len z)->aw i (rowsOf H σ)=false->i ∉ σ:=fun i r h1 h2 h3 hm=>by
     have hlt:=(hclo i hm).1
     obtain ⟨r',hr',hor⟩:=hR.at_ (List.getElem?_eq_getElem hlt)
     rw [h1] at hr'; cases hr'
     have hO:getO H i=H[i]:=by unfold getO; rw [List.getD_eq_getElem?_getD,List.getElem?_eq_getElem hlt]; rfl
     cases ho:H[i] with
     | gone=>rw [ho] at hor; rcases h2 with rfl | ⟨_,_,_,_,rfl⟩ <;> cases hor
     | box t cs=>rw [ho] at hor; obtain ⟨g,_,e,_⟩:=hor; subst e; rcases h2 with h2 | ⟨_,_,_,_,h2⟩ <;> cases h2
     | mapo s f=>rw [ho] at hor; obtain ⟨g,e,_⟩:=hor; subst e; rcases h2 with h2 | ⟨_,_,_,_,h2⟩ <;> cases h2
     | loc=>
      have:i ∈ rowsOf H σ:=cf.2 ⟨hm,.inr (by rw [hO,ho])⟩
      rw [aj.2 this] at h3; cases h3
     | mapf l=>rw [ho] at hor; obtain ⟨g,e,_⟩:=hor; subst e; rcases h2 with h2 | ⟨_,_,_,_,h2⟩ <;> cases h2
     | arr t s n xs=>rw [ho] at hor; obtain ⟨g,_,e,_⟩:=hor; subst e; rcases h2 with h2 | ⟨_,_,_,_,h2⟩ <;> cases h2
     | row t s xs=>
      have:i ∈ rowsOf H σ:=cf.2 ⟨hm,.inl ⟨t,s,xs,by rw [hO,ho]⟩⟩
      rw [aj.2 this] at h3; cases h3
    have hrd:∀ a v,Rd (cx G ρ w) ρ a v->Rd (cx G (bJ ρ σ ρ2) w') (bJ ρ σ ρ2) (a.ay (rowsOf H σ)) v:=by
     intro a v h
     cases a with
     | own j=>
      simp only [AV.ay]
      cases hb:aw j (rowsOf H σ)
      ·rcases h with ⟨g,cap,len,z,h,e⟩ | ⟨h,e⟩
       ·exact .inl ⟨g,cap,len,z,hag _ _ (.inl (hrow j _ h (.inr ⟨_,_,_,_,rfl⟩) hb)) h,e⟩
       ·exact .inr ⟨hag _ _ (.inl (hrow j _ h (.inl rfl) hb)) h,e⟩
      ·exact Rd.one h
     | sub j o k=>
      simp only [AV.ay]
      cases hb:aw j (rowsOf H σ)
      ·rcases h with ⟨g,cap,len,z,h,e⟩ | ⟨h,e⟩
       ·exact .inl ⟨g,cap,len,z,hag _ _ (.inl (hrow j _ h (.inr ⟨_,_,_,_,rfl⟩) hb)) h,e⟩
       ·exact .inr ⟨hag _ _ (.inl (hrow j _ h (.inl rfl) hb)) h,e⟩
      ·exact Rd.one h
     | elp j k o=>
      simp only [AV.ay]
      cases hb:aw j (rowsOf H σ)
      ·obtain ⟨g,cap,len,z,h,e⟩:=h
       exact ⟨g,cap,len,z,hag _ _ (.inl (hrow j _ h (.inr ⟨_,_,_,_,rfl⟩) hb)) h,e⟩
      ·exact Rd.one h
     | ptr j o=>exact hcap _ _ h
     | mq j=>
      obtain ⟨g,h1,e⟩:=h
      exact ⟨g,hag _ _ (.inr ⟨g,rfl⟩) h1,e⟩
     | fn f b cs=>
      obtain ⟨bs,us,h1,h2,e⟩:=h
      exact ⟨bs,us,h1.imp fun _ _ h=>hcap _ _ h,h2.imp fun _ _ h=>hcap _ _ h,e⟩
     | fe s' x o=>
      obtain ⟨A,cells,h1,h2,h3,e⟩:=h
      exact ⟨A,cells,(hle1.S _ h1).1,h2.keep (hle1.S _ h1).2,h3.carry hle1,e⟩
     | np=>exact h
     | nf=>exact h
     | yl l=>exact h
     | dead=>exact h
     | int n=>exact Pd.carry h hle1
     | u8 b=>exact Pd.carry h hle1
     | u64 n=>exact Pd.carry h hle1
     | bool e=>exact Pd.carry h hle1
     | str s=>exact Pd.carry h hle1
     | em b=>exact Pd.carry h hle1
     | fz s xs=>exact Pd.carry h hle1
    -- the callee's values,taken over
    have hS:∀ b,(cx ⟨G.shp,G.B0,Z'⟩ ρ2 w').S b->(cx G (bJ ρ σ ρ2) w').S b\/(¬ b<G.B0/\∃ sb ∈ bl H lent,∃ cur t fr,w'.heap[b]? = some (.cells cur t fr)/\G.shp t=some sb):=by
     rintro b ⟨h1,h2,h3⟩
     by_cases hl:live (bJ ρ σ ρ2) b
     ·right
      obtain ⟨i,r,h4,h5⟩:=hl
      rcases hmix i r b h4 h5 with ⟨_,him,h6⟩ | ⟨j,h6,_⟩
      ·have hnl:¬ live (aL ρ σ) b:=fun hh=>him (hsub b i r h6 h5 hh)
       have hlt:lt b:=by
        by_cases hx:lt b
        ·exact hx
        ·exact absurd (.inr ⟨⟨i,r,h6,h5⟩,hnl,hx⟩) h3
       obtain ⟨id,hid,rr,h7,h8⟩:=hlt
       have hb:=hR.bnd _ _ b h7 h8
       refine ⟨by omega,?_⟩
       obtain ⟨t,s,xs,hrw⟩:=hlent id hid rr h7 (by rintro rfl; cases h8)
       refine ⟨s,fR hrw hid,?_⟩
       have hfc:=bE hR hrw
       rcases aE hR hrw with ⟨h9,_⟩ | ⟨g,cap,cells,sp,h9,h10,_⟩
       ·rw [h7] at h9; cases h9; cases h8
       ·rw [h7] at h9; cases h9; cases h8
        have hids:id ∉ σ:=hno id hid
        exact ⟨_,t,(0,0),(hoth id _ _ hids h7 rfl).2.trans h10,hfc.1⟩
      ·exact absurd ⟨j,r,h6,h5⟩ h2
     ·left; exact ⟨h1,hl,fun hz=>h3 (.inl hz)⟩
    have hpd:∀ {b:AV} {u:Value},Pd (cx ⟨G.shp,G.B0,Z'⟩ ρ2 w') b u->(∀ sb ∈ bl H lent,ux 5 sb b=true)->Pd (cx G (bJ ρ σ ρ2) w') b u:=fun hb hn=>Pd.pI (c:=cx ⟨G.shp,G.B0,Z'⟩ ρ2 w') (c':=cx G (bJ ρ σ ρ2) w') (bl H lent) rfl rfl rfl hS hb 5 hn
    have htake:∀ (a:AV) (u:Value),(∀ b ∈ bl H lent,a.no b=true)->Rd (cx ⟨G.shp,G.B0,Z'⟩ ρ2 w') ρ2 a u->Rd (cx G (bJ ρ σ ρ2) w') (bJ ρ σ ρ2) (a.dN (bB H σ)) u:=fun a u hno5 hu=>by
     refine Rd.dN (fun _ hp=>hpd hp fun sb hsb=>qq (hno5 sb hsb)) (fun s x o e=>?_) (fun i hi r hr _=>hτ i r hr) hu
     subst e
     have hnil:bl H lent=[]:=by
      cases hq:bl H lent with
      | nil=>rfl
      | cons b l=>have:=hno5 b (by rw [hq]; simp); simp [AV.no] at this
     rw [hnil] at hS
     have hS':(cx ⟨G.shp,G.B0,Z'⟩ ρ2 w').le (cx G (bJ ρ σ ρ2) w'):=⟨rfl,rfl,fun b hb=>⟨(hS b hb).resolve_right fun ⟨_,sb,h,_⟩=>by simp at h,rfl⟩⟩
     obtain ⟨A,cells,k1,k2,k3,e⟩:=hu
     exact ⟨A,cells,(hS'.S _ k1).1,k2,k3.carry hS',e⟩
    have hobj:∀ (j:Nat) (o:AO) (r:RE),H'[j]? = some o->ρ2[j]? = some r->OR (cx G (bJ ρ σ ρ2) w') (bJ ρ σ ρ2) (o.dN (bB H σ)) r:=fun j o r ho hr=>by
     obtain ⟨r',hr',hor⟩:=hR2.at_ ho
     rw [hr] at hr'; cases hr'
     have hmem:o ∈ H':=List.mem_of_getElem? ho
     have hnoO:∀ b ∈ bl H lent,iQ b H' = true:=fun b hb=>by have:=hsh b hb; simp only [Bool.and_eq_true] at this; exact this.2
     cases o with
     | gone=>exact hor
     | mapo s f=>
      obtain ⟨g,rfl,a,n,k1,k2,k3⟩:=hor
      refine ⟨g,rfl,a,n,k1,k2,fun k=>?_⟩
      have k4:=k3 k
      cases hg:getM k a.toList <;> cases hf:f k <;> rw [hg,hf] at k4
      ·trivial
      ·exact k4
      ·exact k4
      ·rename_i v x
       obtain ⟨us,k5,k6⟩:=k4
       refine ⟨us,Pds.of (aG k5.length fun i a u ha hu=>?_),k6⟩
       obtain ⟨u',hu',hau⟩:=bA k5.all i a ha
       rw [hu] at hu'; cases hu'
       refine hpd hau fun sb hsb=>?_
       have hns:=bC.1 (tu (hnoO sb hsb) hmem)
       cases a with
       | fz s' ys=>exact hns s' (dj (List.mem_of_getElem? ha))
       | _=>rfl
     | box t cs=>
      obtain ⟨g,vs',rfl,h1,h2⟩:=hor
      exact ⟨g,vs',rfl,h1,eT (fun a ha u hu=>htake a u (fun b hb=>kr.1 (sR (hnoO b hb) hmem) a ha) hu) h2⟩
     | loc=>trivial
     | mapf l=>
      obtain ⟨g,rfl,h⟩:=hor
      exact ⟨g,rfl,h.map (g0:=fun a=>a.dN (bB H σ)) (gN l) (fun q hq u hu=>htake q.2 u (fun b hb=>oi (rL (hnoO b hb) hmem) q hq) hu) rfl⟩
     | arr t s n xs=>
      obtain ⟨g,vs',rfl,h4,h5,h6⟩:=hor
      refine ⟨g,vs',rfl,h4,?_,h6⟩
      refine Pds.of (aG h5.length fun i a u ha hu=>?_)
      obtain ⟨u',hu',hau⟩:=bA h5.all i a ha
      rw [hu] at hu'; cases hu'
      refine hpd hau fun sb hsb=>?_
      have hns:=bC.1 (tX (hnoO sb hsb) hmem)
      have hmem2:=List.mem_of_getElem? ha
      rw [List.mem_flatMap] at hmem2
      obtain ⟨y,_,hy⟩:=hmem2
      cases a with
      | fz s' ys=>exact hns s' (dj hy)
      | _=>rfl
     | row t s xs=>
      obtain ⟨h1,h2,h3⟩:=hor
      refine ⟨h1,h2,h3.imp id fun ⟨g,cap,cells,sp,e,h4,h5,h6⟩=>⟨g,cap,cells,sp,e,h4,?_,h6⟩⟩
      refine Pds.of (aG h5.length fun i a u ha hu=>?_)
      obtain ⟨u',hu',hau⟩:=bA h5.all i a ha
      rw [hu] at hu'; cases hu'
      refine hpd hau fun sb hsb=>?_
      have hns:=bC.1 (tq (hnoO sb hsb) hmem)
      have hmem2:=List.mem_of_getElem? ha
      rw [List.mem_flatMap] at hmem2
      obtain ⟨y,_,hy⟩:=hmem2
      cases a with
      | fz s' ys=>exact hns s' (dj hy)
      | _=>rfl
    refine ⟨bJ ρ σ ρ2,hstp,⟨?_,?_,?_,fun b hb=>Nat.lt_of_lt_of_le (hR.z b hb) hext.size,Nat.le_trans hR.b0 hext.size,hR.tb.carry hext.le⟩,iG hrd hf,?_,ui.eU hrs'⟩
    ·-- the objects
     refine aG ?_ fun i o r ho hr=>?_
     ·simp only [List.length_append,b_,a_,dF,List.length_drop,bJ,List.length_map,List.length_range]
      omega
     ·by_cases hi:i<H.length
      ·rw [List.getElem?_append_left (by rw [b_,a_]; exact hi),jD (by rw [a_]; exact hi)] at ho
       rw [dh (by omega)] at hr
       by_cases hm:i ∈ σ
       ·rw [if_pos hm] at ho hr
        cases ho; cases hr
        obtain ⟨hpl,_⟩:=List.getElem?_eq_some_iff.1 (dA hm)
        have hp2:posOf i σ<H'.length:=by omega
        have e1:H'[posOf i σ]? = some H'[posOf i σ]:=List.getElem?_eq_getElem hp2
        have e2:ρ2[posOf i σ]? = some (ρ2[posOf i σ]'(by omega)):=List.getElem?_eq_getElem (by omega)
        have e3:H'.getD (posOf i σ) .gone=H'[posOf i σ]:=by rw [List.getD_eq_getElem?_getD,e1]; rfl
        rw [e3,getD_some e2]
        exact hobj _ _ _ e1 e2
       ·rw [if_neg hm] at ho hr
        cases hr
        rw [dV,Option.map_eq_some_iff] at ho
        obtain ⟨o',ho',rfl⟩:=ho
        obtain ⟨r',hr',hor⟩:=hR.at_ ho'
        rw [getD_some hr']
        exact hor.map hle1 hrd fun g hg=>(hoth i r' g hm hr' hg).2
      ·rw [List.getElem?_append_right (by rw [b_,a_]; omega),b_,a_] at ho
       rw [ku (by omega)] at hr
       have hil:σ.length+(i - H.length)<H'.length:=by
        have:=(List.getElem?_eq_some_iff.1 ho).1
        simp only [dF,List.length_drop] at this; omega
       have hx:(H'.drop σ.length)[i - H.length]? = some H'[σ.length+(i - H.length)]:=by
        rw [List.getElem?_drop]; exact List.getElem?_eq_getElem hil
       rw [gQ hx] at ho
       have ho:=Option.some.inj ho
       subst ho
       refine hobj (σ.length+(i - H.length)) _ r (List.getElem?_eq_getElem hil) ?_
       rw [hHρ]; exact hr
    ·intro i i' r r' g h1 h2 h3 h4
     rcases hmix i r g h1 h3 with ⟨a1,a2,a3⟩ | ⟨j,a3,a4⟩ <;> rcases hmix i' r' g h2 h4 with ⟨b1,b2,b3⟩ | ⟨j',b3,b4⟩
     ·exact hR.inj _ _ _ _ g a3 b3 h3 h4
     ·exact absurd ⟨j',r',b3,h4⟩ (hoth i r g a2 a3 h3).1
     ·exact absurd ⟨j,r,a3,h3⟩ (hoth i' r' g b2 b3 h4).1
     ·rw [<- a4,<- b4,hR2.inj _ _ _ _ g a3 b3 h3 h4]
    ·intro i r g h1 h2
     rcases hmix i r g h1 h2 with ⟨_,_,a3⟩ | ⟨j,a3,_⟩
     ·have:=hR.bnd i r g a3 h2
      exact ⟨this.1,Nat.lt_of_lt_of_le this.2.1 hext.size,this.2.2⟩
     ·have:=hR2.bnd j r g a3 h2
      exact ⟨this.1,this.2.1,fun hz=>this.2.2 (.inl hz)⟩
    ·-- the results
     have hback:All2 (aO (cx G (bJ ρ σ ρ2) w') (bJ ρ σ ρ2)) (cJ (bB H σ) rs) us:=by
      refine dP (fun t ht a ha u hu=>htake a u (fun b hb=>?_) hu) hrs'
      have:=hsh b hb
      simp only [Bool.and_eq_true] at this
      exact kF.1 this.1 t ht a ha
     subst hv
     show Rt _ _ (oL (cJ (bB H σ) rs)) (ln us)
     generalize cJ (bB H σ) rs=rs' at hback ⊢
     cases hback with
     | nil=>exact ⟨[],rfl,.nil⟩
     | @cons t u l us h1 h2=>
      cases h2 with
      | nil=>exact h1
      | cons h3 h4=>exact ⟨_,rfl,.cons h1 (.cons h3 h4)⟩
   ·cases h
  ·cases h
 ·cases h
end
section
variable {P:Program} {T:List (Nat × TI)} {G:Gl} {O:cZ} {n:Nat} {F:Fr} {w:World} {x y:Operand} {ty t:TypeId} {ρ:List RE} {H:AH} {fr:AFr} {ro:Lv}
theorem ph (hO:aS P G.shp O) (hR:Rep G ρ H w) (hf:ba (cx G ρ w) ρ fr F) {f:Nat} {a:List TV1} {vs:List Value} {r:SR} (hvs:All2 (aO (cx G ρ w) ρ) a vs) (h:rU O fr H f a=some r) (hob:∀ p ∈ r.ob,p) :
  (∃ fn,P.funcs[f]? = some fn/\(fn.name == "runtime.NumGoroutine")=false/\fn.body.isNone=false)/\mg P f vs.toArray w fun v w'=>bW G ro ρ w r F v w':=by
 unfold rU at h
 generalize iL H a=σ at h
 simp only at h
 split at h
 ·rename_i hck
  simp only [Bool.and_eq_true] at hck
  obtain ⟨⟨hn,hai⟩,hcl⟩:=hck
  split at h
  ·rename_i pre rs H' hrs
   split at h
   ·rename_i hlen
    cases h
    have hlenH:=Nat.le_of_ble_eq_true hlen
    have hai:=cM.1 hai
    have hnd:=di.1 hn
    have hclo:=cz.1 hcl
    let Z':Nat->Prop:=fun b=>G.Z b\/(live ρ b/\¬ live (aL ρ σ) b)
    obtain ⟨hR',hle⟩:=hR.sub (σ:=σ) (Z':=Z') hn hcl (fun b hb=>hb.elim (hR.z b) fun ⟨⟨i,r,h1,h2⟩,_⟩=>(hR.bnd i r b h1 h2).2.1) (fun b h1 h2 hz=>hz.elim h1 fun h3=>h2 h3.1)
     (fun b h1 hz=>hz.elim (fun h2=>by obtain ⟨i,r,h3,h4⟩:=cO h1; exact (hR.bnd i r b h3 h4).2.2 h2) fun h2=>h2.2 h1)
    obtain ⟨hfn,hrun⟩:=hO _ _ _ _ hrs hob
    refine ⟨hfn,?_⟩
    have hargs:All2 (aO (cx ⟨G.shp,G.B0,Z'⟩ (aL ρ σ) w) (aL ρ σ)) (cJ (posOf · σ) a) vs:=by
     refine dP (fun t ht a ha' v hv=>?_) hvs
     refine Rd.dN (fun _ hp=>hp.carry hle) (fun s x o e=>?_) (fun i hi r hr _=>cd (hai i (dB ht ha' hi)) hr) hv
     subst e
     obtain ⟨A,cells,k1,k2,k3,e⟩:=hv
     exact ⟨A,cells,(hle.S _ k1).1,k2,k3.carry hle,e⟩
    refine (hrun ⟨G.shp,G.B0,Z'⟩ _ w vs rfl hR' hargs).mono fun v w' ⟨us,hv,ρ2,hR2,hext2,hbx2,hrs',hkeep⟩=>?_
    obtain ⟨hk,hρ2⟩:=hkeep rfl
    have hl2:H'.length=ρ2.length:=hR2.obj.length
    have hHρ:H.length=ρ.length:=hR.obj.length
    have hnew:∀ (b j:Nat) (r:RE),σ.length<=j->ρ2[j]? = some r->r.g? = some b->w.heap.size<=b:=fun b j r hj h1 h2=>by
     by_cases hb:b<w.heap.size
     ·by_cases hs:live (aL ρ σ) b
      ·obtain ⟨i,r',h3,h4⟩:=hs
       have:=hR2.inj _ _ _ _ b h1 (hρ2 i r' h3) h2 h4
       have h6:i<σ.length:=by simpa [aL] using (List.getElem?_eq_some_iff.1 h3).1
       omega
      ·exact absurd ⟨j,r,h1,h2⟩ (hext2.old b hb hs).1
     ·omega
    have hN:∀ (i:Nat) (r:RE),ρ[i]? = some r->(ρ++ρ2.drop σ.length)[i]? = some r:=fun i r h=>by
     rw [List.getElem?_append_left (List.getElem?_eq_some_iff.1 h).1]; exact h
    have hNge:∀ (i:Nat),ρ.length<=i->(ρ++ρ2.drop σ.length)[i]? = ρ2[σ.length+(i - ρ.length)]?:=fun i hi=>by
     rw [List.getElem?_append_right hi,List.getElem?_drop]
    have hcase:∀ (i:Nat) (r:RE) (g:Nat),(ρ++ρ2.drop σ.length)[i]? = some r->r.g? = some g->(i<ρ.length/\ρ[i]? = some r)\/(ρ.length<=i/\ρ2[σ.length+(i - ρ.length)]? = some r/\w.heap.size<=g):=fun i r g h1 h2=>by
     by_cases hi:i<ρ.length
     ·rw [List.getElem?_append_left hi] at h1; exact .inl ⟨hi,h1⟩
     ·rw [hNge i (by omega)] at h1
      exact .inr ⟨by omega,h1,hnew g _ r bK h1 h2⟩
    have hext:Ext ρ w (ρ++ρ2.drop σ.length) w':=⟨hk.os,hk.tape,hk.output,hk.size,fun b hb hl=>⟨fun ⟨i,r,h1,h2⟩=>(hcase i r b h1 h2).elim (fun h=>hl ⟨i,r,h.2,h2⟩) fun h=>by omega,hk.block b hb (by simp)⟩⟩
    have hle1:=hext.le (G:=G)
    have hagr:fl ρ (ρ++ρ2.drop σ.length):=fun i r h _=>hN i r h
    have hτ:∀ (j:Nat) (r:RE),ρ2[j]? = some r->r ≠ .no->(ρ++ρ2.drop σ.length)[bB H σ j]? = some r:=fun j r hj hne=>by
     unfold bB
     by_cases hjn:j<σ.length
     ·have hb:Nat.ble σ.length j=false:=by rw [<- Bool.not_eq_true,Nat.ble_eq]; omega
      rw [hb]
      have hs:(aL ρ σ)[j]? = some ((aL ρ σ)[j]'(by simpa [aL] using hjn)):=List.getElem?_eq_getElem _
      have h1:=hρ2 j _ hs
      rw [hj] at h1
      rw [<- Option.some.inj h1] at hs
      exact hN _ _ (bk hs hne)
     ·have hb:Nat.ble σ.length j=true:=by rw [Nat.ble_eq]; omega
      rw [hb]
      show (ρ++ρ2.drop σ.length)[H.length+(j - σ.length)]? = some r
      rw [hNge _ (by omega),hHρ,<- hj]
      congr 1; omega
    have hS:(cx ⟨G.shp,G.B0,Z'⟩ ρ2 w').le (cx G (ρ++ρ2.drop σ.length) w'):=⟨rfl,rfl,fun b hb=>⟨⟨hb.1,by
     rintro ⟨i,r,h1,h2⟩
     rcases hcase i r b h1 h2 with ⟨h3,h4⟩ | ⟨_,h4,_⟩
     ·by_cases hs:live (aL ρ σ) b
      ·obtain ⟨j,r',h5,h6⟩:=hs
       exact hb.2.1 ⟨j,r',hρ2 j r' h5,h6⟩
      ·exact hb.2.2 (.inr ⟨⟨i,r,h4,h2⟩,hs⟩)
     ·exact hb.2.1 ⟨_,r,h4,h2⟩,fun hz=>hb.2.2 (.inl hz)⟩,rfl⟩⟩
    have htake:∀ (a:AV) (u:Value),Rd (cx ⟨G.shp,G.B0,Z'⟩ ρ2 w') ρ2 a u->Rd (cx G (ρ++ρ2.drop σ.length) w') (ρ++ρ2.drop σ.length) (a.dN (bB H σ)) u:=fun a u hu=>by
     refine Rd.dN (fun _ hp=>hp.carry hS) (fun s x o e=>?_) (fun i hi r hr hne=>hτ i r hr hne) hu
     subst e
     obtain ⟨A,cells,k1,k2,k3,e⟩:=hu
     exact ⟨A,cells,(hS.S _ k1).1,k2,k3.carry hS,e⟩
    have hobj:∀ (j:Nat) (o:AO) (r:RE),H'[j]? = some o->ρ2[j]? = some r->OR (cx G (ρ++ρ2.drop σ.length) w') (ρ++ρ2.drop σ.length) (o.dN (bB H σ)) r:=fun j o r ho hr=>by
     obtain ⟨r',hr',hor⟩:=hR2.at_ ho
     rw [hr] at hr'; cases hr'
     cases o with
     | gone=>exact hor
     | loc=>trivial
     | mapo s f=>
      obtain ⟨g,rfl,h⟩:=hor
      exact ⟨g,rfl,h.carry hS rfl⟩
     | mapf l=>
      obtain ⟨g,rfl,h⟩:=hor
      exact ⟨g,rfl,h.map (g0:=fun a=>a.dN (bB H σ)) (gN l) (fun q hq u hu=>htake q.2 u hu) rfl⟩
     | box t cs=>
      obtain ⟨g,vs',rfl,h1,h2⟩:=hor
      exact ⟨g,vs',rfl,h1,eT (fun a ha u hu=>htake a u hu) h2⟩
     | arr t s n xs=>
      obtain ⟨g,vs',rfl,h4,h5,h6⟩:=hor
      exact ⟨g,vs',rfl,h4,h5.carry hS,h6⟩
     | row t s xs=>
      obtain ⟨h1,h2,h3⟩:=hor
      exact ⟨h1,h2,h3.imp id fun ⟨g,cap,cells,sp,e,h4,h5,h6⟩=>⟨g,cap,cells,sp,e,h4,h5.carry hS,h6⟩⟩
    refine ⟨ρ++ρ2.drop σ.length,⟨hext,fun i r _ hr=>hN i r hr,fun i r _ hr=>⟨hN i r hr,fun g hg=>hk.block g (hR.bnd i r g hr hg).2.1 (by simp)⟩,fun i g hi=>hN i _ hi⟩,⟨?_,?_,?_,fun b hb=>Nat.lt_of_lt_of_le (hR.z b hb) hext.size,Nat.le_trans hR.b0 hext.size,hR.tb.carry hle1⟩,hf.carry hle1 hagr,?_,ui.eU hrs'⟩
    ·refine All2.append (aG hR.obj.length fun i o r ho hr=>?_) (aG (by simp [dF,hl2]) fun i o r ho hr=>?_)
     ·obtain ⟨r',hr',hor⟩:=hR.at_ ho
      rw [hr] at hr'; cases hr'
      exact hor.carry hle1 hagr fun g hg=>hk.block g (hR.bnd i r g hr hg).2.1 (by simp)
     ·rw [List.getElem?_drop] at hr
      have hil:σ.length+i<H'.length:=by
       have:=(List.getElem?_eq_some_iff.1 hr).1; omega
      have hx:(H'.drop σ.length)[i]? = some H'[σ.length+i]:=by
       rw [List.getElem?_drop]; exact List.getElem?_eq_getElem hil
      rw [gQ hx] at ho
      have ho:=Option.some.inj ho
      subst ho
      exact hobj (σ.length+i) _ r (List.getElem?_eq_getElem hil) hr
    ·intro i i' r r' g h1 h2 h3 h4
     rcases hcase i r g h1 h3 with ⟨a1,a2⟩ | ⟨a1,a2,a3⟩ <;> rcases hcase i' r' g h2 h4 with ⟨b1,b2⟩ | ⟨b1,b2,b3⟩
     ·exact hR.inj _ _ _ _ g a2 b2 h3 h4
     ·have:=(hR.bnd i r g a2 h3).2.1; omega
     ·have:=(hR.bnd i' r' g b2 h4).2.1; omega
     ·have:=hR2.inj _ _ _ _ g a2 b2 h3 h4; omega
    ·intro i r g h1 h2
     rcases hcase i r g h1 h2 with ⟨_,a3⟩ | ⟨_,a3,_⟩
     ·have:=hR.bnd i r g a3 h2
      exact ⟨this.1,Nat.lt_of_lt_of_le this.2.1 hext.size,this.2.2⟩
     ·have:=hR2.bnd _ r g a3 h2
      exact ⟨this.1,this.2.1,fun hz=>this.2.2 (.inl hz)⟩
    ·have hback:All2 (aO (cx G (ρ++ρ2.drop σ.length) w') (ρ++ρ2.drop σ.length)) (cJ (bB H σ) rs) us:=dP (fun t ht a ha u hu=>htake a u hu) hrs'
     subst hv
     show Rt _ _ (oL (cJ (bB H σ) rs)) (ln us)
     generalize cJ (bB H σ) rs=rs' at hback ⊢
     cases hback with
     | nil=>exact ⟨[],rfl,.nil⟩
     | @cons t u l us h1 h2=>
      cases h2 with
      | nil=>exact h1
      | cons h3 h4=>exact ⟨_,rfl,.cons h1 (.cons h3 h4)⟩
   ·cases h
  ·cases h
 ·cases h
theorem pe (hO:aS P G.shp O) (hR:Rep G ρ H w) (hf:ba (cx G ρ w) ρ fr F) {f:Nat} {args:List TV1} {vs:List Value} {r:SR} (ha:All2 (aO (cx G ρ w) ρ) args vs) (h:pV O ro fr H f args=some r) (hob:∀ p ∈ r.ob,p) :
  (∃ fn,P.funcs[f]? = some fn/\(fn.name == "runtime.NumGoroutine")=false/\fn.body.isNone=false)/\mg P f vs.toArray w fun v w'=>bW G ro ρ w r F v w':=by
 unfold pV at h
 split at h
 ·rename_i r' hn
  cases h
  exact ph hO hR hf ha hn hob
 split at h
 ·rename_i r' hrw hr'
  cases h
  refine jA hO hR hf (fun G' σ hs hle hids hl=>?_) (fun id hid r hr hne=>ey.1 hrw id hid) hr' hob
  refine m_ (fun t ht a ha' v hv=>?_) ha
  have hid:∀ i ∈ (a.vw H).ids,i ∈ σ:=fun i hi=>hids i (dB (jZ ht) (lK ha') hi)
  by_cases hown:∃ id,a = .own id\/∃ o k,a = .sub id o k
  ·obtain ⟨id,hio⟩:=hown
   have hmem:=gT ht ha' hio
   cases hv2:a.vw H with
   | fz s xs=>
    refine dy (eP hR hle rfl hv (fun g cap len z ⟨id',he,h1⟩=>?_) hv2)
    have e:id' = id:=by rcases hio with rfl | ⟨o,k,rfl⟩ <;> rcases he with he | ⟨_,_,he⟩ <;> cases he <;> rfl
    subst e
    exact hl id' hmem g cap len z h1
   | dead=>exact Rd.one hv
   | _=>rcases hio with rfl | ⟨o,k,rfl⟩ <;> simp only [AV.vw] at hv2 <;> split at hv2 <;> cases hv2
  ·have e:a.vw H=a:=by
    cases a <;> first | rfl | exact absurd ⟨_,.inl rfl⟩ hown | exact absurd ⟨_,.inr ⟨_,_,rfl⟩⟩ hown
   rw [e] at hid ⊢
   refine Rd.dN (fun _ hp=>hp.carry hle) (fun s x o e=>?_) (fun i hi r hr _=>cd (hid i hi) hr) hv
   subst e
   obtain ⟨A,cells,k1,k2,k3,e⟩:=hv
   exact ⟨A,cells,(hle.S _ k1).1,k2,k3.carry hle,e⟩
 ·refine jA hO hR hf (fun G' σ hs hle hids hl=>?_) (by simp) h hob
  refine dP (fun t ht a ha' v hv=>?_) ha
  refine Rd.dN (fun _ hp=>hp.carry hle) (fun s x o e=>?_) (fun i hi r hr _=>cd (hids i (dB ht ha' hi)) hr) hv
  subst e
  obtain ⟨A,cells,k1,k2,k3,e⟩:=hv
  exact ⟨A,cells,(hle.S _ k1).1,k2,k3.carry hle,e⟩
theorem qj {c:Cx} {s:Sh} {z:List Value} (hz:All2 (Rd c ρ) (cellsOf s (aJ s)) z) (h1:s.size=1):∀ m:Nat,Pds c ((List.replicate m (aJ s)).flatMap (cellsOf s)) (List.replicate m (z.headD undef)):=by
 have hp:=c_ (gb s _) hz
 have hl:=hz.length
 rw [aI,h1] at hl
 obtain ⟨u,rfl⟩:∃ u,z=[u]:=by
  cases z with
  | nil=>simp at hl
  | cons u r=>
   cases r with
   | nil=>exact ⟨u,rfl⟩
   | cons _ _=>simp at hl
 intro m
 induction m with
 | zero=>exact .nil
 | succ m ih=>
  rw [List.replicate_succ,List.replicate_succ,List.flatMap_cons]
  exact hp.append ih
theorem oA (hT:ao P G.shp T) (hR:Rep G ρ H w) (hf:ba (cx G ρ w) ρ fr F) {t:TypeId} {x y z:Operand} {r:SR} (h:qD T ro fr H t x y z=some r) :
  ∃ w',(bV P n F w (.insert t x y z) ty w' /\ bV P n F w (.mapUpdate t x y z) ty w')/\bW G ro ρ w r F undef w':=by
 unfold qD at h
 split at h
 ·rename_i s id k v hft hx hy hz
  split at h
  ·rename_i s' f hO2
   split at h
   ·rename_i hss
    subst hss
    split at h
    ·rename_i x' q hck hof hfz
     cases h
     simp only [Bool.and_eq_true,Bool.not_eq_true',<- Bool.not_eq_true,aj] at hck
     obtain ⟨⟨hro,hform⟩,hnm⟩:=hck
     obtain ⟨hm,hk,_⟩:=(hT _ _ hft).2
     obtain ⟨va,h1,g,hg,rfl⟩:=ab hf hx
     obtain ⟨vb,h3,h4⟩:=ab hf hy
     cases h4 with | int=>
     obtain ⟨vz,h5,h6⟩:=ab hf hz
     have hHs:=ax hO2 (by simp)
     obtain ⟨r',hr',hor⟩:=hR.at_ hHs
     rw [hg] at hr'; cases hr'
     obtain ⟨g',e,a,c,k1,k2,k3⟩:=hor
     cases e
     obtain ⟨ρ1,j1,j2,j3,j4,j5,j6,j7,j8⟩:=fF (ro:=ro) hfz hR hf
     obtain ⟨w',a',c',hsk,hkp,hg',hl',hget⟩:=tQ (P:=P) (n:=n) (ty:=ty) h1 h3 h5 hm hk k1 k2
     have hρ1:ρ1[id]? = some (.blk g):=by rw [j8 id hnm]; exact hg
     have hH1:q.2[id]? = some (.mapo s' f):=j7 id _ hnm hHs (by simp)
     have hext:Ext ρ1 w ρ1 w':=⟨hkp.os,hkp.tape,hkp.output,hkp.size,fun b hb hl=>⟨hl,hkp.block b hb (by
      simp only [List.mem_singleton]
      rintro rfl
      exact hl ⟨id,_,hρ1,rfl⟩)⟩⟩
     have hle:=hext.le (G:=G)
     have hV:V1 (cx G ρ1 w') s' x' vz:=by
      cases v with
      | c a=>
       have h6:Rd (cx G ρ w) ρ a vz:=h6
       have:=ag hof (j6 [a] [vz] (fun i hi=>hi) (.cons h6 .nil))
       refine ⟨[vz],this.carry hle,.inr ⟨?_,rfl⟩⟩
       simpa [fk] using hform
      | agg l=>
       obtain ⟨us,e,h6⟩:=h6
       have:=ag hof (j6 l us (fun i hi=>hi) h6)
       exact ⟨us,this.carry hle,.inl ⟨hform,e⟩⟩
     have hput:=j3.put hH1 hρ1 rfl hkp (o':=.mapo s' fun j=>if j=k then some x' else f j) ⟨g,rfl,a',c',hg',hl',fun q=>by
      rw [hget q]
      show VO _ _ _ (if q=k then some x' else f q)
      by_cases hq:q=k
      ·rw [if_pos hq,if_pos hq]; exact hV
      ·rw [if_neg hq,if_neg hq]
       have k4:=k3 q
       cases hgm:getM q a.toList <;> cases hfk:f q <;> rw [hgm,hfk] at k4
       ·trivial
       ·exact k4
       ·exact k4
       ·exact V1.carry k4 (j2.trans hle)⟩
     refine ⟨w',hsk,ρ1,j1.trans ⟨hput.2,fun _ _ _ h=>h,fun j r' hj hr'=>⟨hr',fun gx hgx=>hkp.block gx (j3.bnd j r' gx hr' hgx).2.1 ?_⟩,fun _ _ h=>h⟩,hput.1,j4.carry hle (fl.refl _),trivial,by simp⟩
     simp only [List.mem_singleton]
     rintro rfl
     have:=j3.inj j id _ _ _ hr' hρ1 hgx rfl
     subst this; rw [hro] at hj; cases hj
    ·cases h
   ·cases h
  ·cases h
 ·cases h
theorem mM (hT:ao P G.shp T) (hR:Rep G ρ H w) (hf:ba (cx G ρ w) ρ fr F) {t:TypeId} {x y z:Operand} {r:SR} (h:sc T ro fr H t x y z=some r) :
  ∃ w',(bV P n F w (.insert t x y z) ty w' /\ bV P n F w (.mapUpdate t x y z) ty w')/\bW G ro ρ w r F undef w':=by
 unfold sc at h
 split at h
 ·rename_i id k a hft hx hy hz
  split at h
  ·rename_i l hO2
   split at h
   ·rename_i hro
    cases h
    obtain ⟨hm,hk,_⟩:=(hT _ _ hft).2
    obtain ⟨va,h1,g,hg,rfl⟩:=ab hf hx
    obtain ⟨vb,h3,h4⟩:=ab hf hy
    cases h4 with | int=>
    obtain ⟨vz,h5,h6⟩:=ab hf hz
    have hHs:=ax hO2 (by simp)
    obtain ⟨r',hr',hor⟩:=hR.at_ hHs
    rw [hg] at hr'; cases hr'
    obtain ⟨g',e,a',c,k1,k2,k3⟩:=hor
    cases e
    obtain ⟨w',a'',c',hsk,hkp,hg',hl',hget⟩:=tQ (P:=P) (n:=n) (ty:=ty) h1 h3 h5 hm hk k1 k2
    have hext:Ext ρ w ρ w':=⟨hkp.os,hkp.tape,hkp.output,hkp.size,fun b hb hl=>⟨hl,hkp.block b hb (by
     simp only [List.mem_singleton]
     rintro rfl
     exact hl ⟨id,_,hg,rfl⟩)⟩⟩
    have hle:=hext.le (G:=G)
    have hput:=hR.put hHs hg rfl hkp (o':=.mapf ((k,a) :: l)) ⟨g,rfl,a'',c',hg',hl',fun q=>by
     rw [hget q]
     simp only [lookF]
     by_cases hq:q=k
     ·rw [if_pos hq,if_pos hq]; exact Rd.carry h6 hle (fl.refl _)
     ·rw [if_neg hq,if_neg hq]
      have k4:=k3 q
      cases hgm:getM q a'.toList <;> cases hfk:lookF q l <;> rw [hgm,hfk] at k4
      ·trivial
      ·exact k4
      ·exact k4
      ·exact Rd.carry k4 hle (fl.refl _)⟩
    refine ⟨w',hsk,ρ,⟨hput.2,fun _ _ _ h=>h,fun j r' hj hr'=>⟨hr',fun gx hgx=>hkp.block gx (hR.bnd j r' gx hr' hgx).2.1 ?_⟩,fun _ _ h=>h⟩,hput.1,hf.carry hle (fl.refl _),trivial,by simp⟩
    simp only [List.mem_singleton]
    rintro rfl
    have:=hR.inj j id _ _ _ hr' hg hgx rfl
    subst this; rw [hro] at hj; cases hj
   ·cases h
  ·cases h
 ·cases h
theorem il (hT:ao P G.shp T) (hR:Rep G ρ H w) (hf:ba (cx G ρ w) ρ fr F) {t:TypeId} {x y z:Operand} {r:SR} (h:nz T ro fr H t x y z=some r) :
  ∃ w',(bV P n F w (.insert t x y z) ty w' /\ bV P n F w (.mapUpdate t x y z) ty w')/\bW G ro ρ w r F undef w':=by
 unfold nz at h
 split at h
 ·rename_i r' hr'
  cases h
  exact oA hT hR hf hr'
 ·exact mM hT hR hf h
theorem pX (hT:ao P G.shp T) (hO:aS P G.shp O) (hR:Rep G ρ H w) (hf:ba (cx G ρ w) ρ fr F) {op:Op} {r:SR} (h:sv T O ro fr H op=some r) (hob:∀ p ∈ r.ob,p):bq P n F w op ty (bW G ro ρ w r F):=by
 cases op <;> simp only [sv] at h
 case box t x=>
  split at h
  ·rename_i v hx
   cases h
   obtain ⟨u,h1,h2⟩:=ab hf hx
   obtain ⟨us,h3,h4⟩:=aO.cells h2
   exact .inl (.inl ⟨_,_,R.box h1 h3,jl hR hf h4⟩)
  ·cases h
 case alloc t=>
  split at h
  ·rename_i ti hti
   cases h
   obtain ⟨⟨_,zs,hz,hzb⟩,_⟩:=hT _ _ hti
   exact .inl (.inl ⟨_,_,R.alloc hz,jl hR hf (dz hzb)⟩)
  ·cases h
 case store t x v=>
  split at h
  ·rename_i a b ti hx hv hti
   split at h
   ·rename_i hsz
    obtain ⟨va,h1,h2⟩:=ab hf hx
    obtain ⟨vb,h3,h4⟩:=ab hf hv
    obtain ⟨w',h5,h6⟩:=lB (ty:=ty) hT hR hf hti hsz h2 h4 h1 h3 h hob
    exact .inr ⟨rfl,w',h5,h6⟩
   ·cases h
  ·cases h
 case buildSlice t m parts=>
  split at h
  ·rename_i e s sz z l hft hl
   obtain ⟨hu,hs⟩:=(hT _ _ hft).2
   obtain ⟨hshp,⟨zz,hz,hzb⟩,_⟩:=hs s rfl
   have hsize:(P.info? e).map (·.size)=some s.size:=by
    cases hq:P.info? e with
    | none=>simp [hq] at hz
    | some i=>simp only [hq,Option.map_some,Option.some.injEq,Prod.mk.injEq] at hz ⊢; exact hz.2.1
   split at h
   ·rename_i xs q hel hfz
    split at h
    ·rename_i hck
     simp only [Bool.and_eq_true] at hck
     have hm:=Nat.eq_of_beq_eq_true hck.1.1
     have hsm:=Nat.le_of_ble_eq_true hck.1.2
     have hbm:=Nat.le_of_ble_eq_true hck.2
     obtain ⟨pv,h1,h2⟩:=eW hf hl
     obtain ⟨ρ1,k1,k2,k3,k4,k5,k6,_,_⟩:=fF hfz hR hf
     obtain ⟨vss,h3,h4,h5,h6⟩:=fQ hel h2 fun p hp us hus=>k6 _ us (fun i hi=>iD hp hi) hus
     have hrun:=R.buildSlice (P:=P) (n:=n) (F:=F) (w:=w) (ty:=ty) (m:=m) hu hsize (nY hz) h1 h3 h4 (by omega) hsm
     have e0:parts.toList.toArray=parts:=by simp
     rw [e0] at hrun
     have hk:=Kp.alloc w (.cells vss.flatten.toArray e)
     cases m with
     | zero=>
      cases h
      refine .inl (.inl ⟨_,_,hrun,ρ,Stp.kp hR hk,hR.kp hk,hf.kp hk,Pd.em (a:=some ⟨w.heap.size,0,none⟩) rfl,by simp⟩)
     | succ m=>
      cases h
      have hfl:vss.flatten.length=(m+1)*s.size:=by rw [<- h6.length,aD,hm]
      obtain ⟨ρ2,j1,j2,j3,j4⟩:=kz (ro:=ro) (sp:=[]) (cap:=m+1) k3 k4 hk (by rw [List.append_nil]; exact heap_alloc_new w _) hshp (by rw [hm]; exact hbm) h6 (by rw [List.append_nil]; exact hfl) (by omega) (by
       have:=Nat.mul_le_mul_left (m+1) (dQ s)
       simp only [maxLen]; omega)
      rw [hm] at j4
      exact .inl (.inl ⟨_,_,hrun,ρ2,k1.trans j1,j2,j3,j4,by simp⟩)
    ·cases h
   ·cases h
  ·cases h
 case makeSlice t a b=>
  split at h
  ·rename_i e s sz z k k' hft hx hy
   split at h
   ·rename_i hs1
    cases h
    obtain ⟨hu,hs⟩:=(hT _ _ hft).2
    obtain ⟨hshp,⟨zz,hz,hzb⟩,_⟩:=hs s rfl
    have hs1:=Nat.eq_of_beq_eq_true hs1
    have g0:=hob _ (List.mem_cons_self); have g1:=hob _ (List.mem_cons_of_mem _ (List.mem_cons_self)); have g2:=hob _ (List.mem_cons_of_mem _ (List.mem_cons_of_mem _ (List.mem_singleton_self _)))
    subst g2
    obtain ⟨m,rfl⟩:=Int.eq_ofNat_of_zero_le g0
    obtain ⟨va,h1,h2⟩:=ab hf hx
    obtain ⟨vb,h3,h4⟩:=ab hf hy
    cases h2 with | int=>
    cases h4 with | int=>
    have hmb:m*s.bytes<=140737488355328:=by
     have e9:((m*s.bytes:Nat):Int)=(m:Int)*s.bytes:=by simp
     omega
    have hml:m<=maxLen:=by
     have:=Nat.mul_le_mul_left m (dQ s)
     simp only [maxLen]; omega
    obtain ⟨i,zv,hq,hzv,hzc,hsz,hby⟩:=nQ hz
    obtain ⟨w',hrun,hown,hgr⟩:=run_make_full (P:=P) w w.heap.size t e i zv s.size hu hq hzv hsz .i64 .i64 m (by rw [hby,Nat.mul_comm]; omega) hml (Nat.le_refl _)
    have hmade:(madeCells zv.cells (m*s.size)).toList=List.replicate m (zz.headD undef):=by
     have hzl:=(dz (c:=cx G ρ w) (ρ:=ρ) hzb).length
     rw [aI,hs1] at hzl
     obtain ⟨u,rfl⟩:∃ u,zz=[u]:=by
      cases zz with
      | nil=>simp at hzl
      | cons u r=>
       cases r with
       | nil=>exact ⟨u,rfl⟩
       | cons _ _=>simp at hzl
     rw [hzc,hs1]; simp [madeCells,Nat.mod_one,List.map_const']
    rw [hmade] at hown
    have hk:=Kp.oG hgr
    rcases fx hown with ⟨h0,_⟩ | ⟨g,cap,sp,hv,j1,j2,j3,j4⟩
    ·cases h0
    ·injection hv with e1 e2 e3
     cases e1
     subst e3
     have hrl:(List.replicate m (aJ s)).length=m:=List.length_replicate
     obtain ⟨ρ2,q1,q2,q3,q4⟩:=kz (ro:=ro) (xs:=List.replicate m (aJ s)) hR hf hk j1 hshp (by rw [hrl]; exact hmb) (qj (dz (ρ:=ρ) hzb) hs1 m) j2 (by rw [hrl]; exact j3) j4
     rw [hrl] at q4
     exact .inl (.inl ⟨_,w',fun a _ _ _ _ ha=>by simp [execOp,ha.ev h1,ha.ev h3,hrun],ρ2,q1,q2,q3,q4,by simp⟩)
   ·cases h
  ·cases h
 case call cl=>
  split at h
  ·rename_i hcal
   split at h
   ·rename_i x y t t' hargs htys
    split at h
    ·rename_i a b htt hx hy
     have htt:=Nat.eq_of_beq_eq_true htt
     subst htt
     obtain ⟨va,h1,h2⟩:=ab hf hx
     obtain ⟨vb,h3,h4⟩:=ab hf hy
     obtain ⟨v,w',h5,h6⟩:=kD (P:=P) (n:=n) (ty:=ty) hT hR hf h hob h2 h4 h1 h3
     have e:cl={ callee:=.builtin .append,args:=#[x,y],argTypes:=#[t,t] }:=by
      cases cl; simp at hcal hargs htys; subst hcal
      simp only [Call.mk.injEq,true_and]
      exact ⟨Array.ext' (by simpa using hargs),Array.ext' (by simpa using htys)⟩
     rw [e]
     exact .inl (.inl ⟨v,w',h5,h6⟩)
    ·cases h
   ·cases h
  ·rename_i x hcal
   split at h
   ·rename_i f l hl
    split at h
    ·rename_i r' hce
     cases h
     obtain ⟨x',xs,vs,cap,h1,h2,h3,h4,h5⟩:=dE hf hl
     obtain ⟨⟨fn,h6,h7,h8⟩,hrun⟩:=pe hO hR hf h5 hce hob
     have e:cl={ callee:=.value x',args:=xs.toArray,argTypes:=cl.argTypes }:=by
      cases cl; simp at h1 h2; subst h1; subst h2; rfl
     rw [e]
     exact .inl (.inr ⟨_,_,E.call h3 h4 h6 h7 h8,hrun⟩)
    ·unfold rz at h
     split at h
     ·rename_i q hfz
      split at h
      ·rename_i f' l' hl'
       split at h
       ·rename_i r' hcp
        cases h
        obtain ⟨ρ',k1,k2,k3,k4,k5,_,_,_⟩:=cq hfz hR hf
        obtain ⟨x',xs,vs,cap,h1,h2,h3,h4,h5⟩:=dE k4 hl'
        obtain ⟨⟨fn,h6,h7,h8⟩,hrun⟩:=jE hO k3 h5 hcp hob
        have e:cl={ callee:=.value x',args:=xs.toArray,argTypes:=cl.argTypes }:=by
         cases cl; simp at h1 h2; subst h1; subst h2; rfl
        rw [e]
        exact .inl (.inr ⟨_,_,E.call h3 h4 h6 h7 h8,hrun.mono fun v w' hp=>⟨ρ',k1.trans (Stp.kp k3 hp.1),k3.kp hp.1,k4.kp hp.1,hp.2.1,hp.2.2⟩⟩)
       ·cases h
      ·cases h
     ·cases h
   ·cases h
  ·cases h
 case slice t x lo hi mx=>
  split at h
  ·rename_i i hx
   split at h
   ·rename_i q hfz
    split at h
    ·rename_i r' hpv
     cases h
     obtain ⟨ρ',k1,k2,k3,k4,k5,_,_,_⟩:=cq hfz hR hf
     rcases hU (ty:=ty) hT hO k3 k4 hpv hob with ⟨v,w',h1,h2⟩ | ⟨f,args,h1,h2⟩
     ·exact .inl (.inl ⟨v,w',h1,ρ',k1.trans (Stp.kp k3 h2.1),k3.kp h2.1,k4.kp h2.1,h2.2.1,h2.2.2⟩)
     ·exact .inl (.inr ⟨f,args,h1,h2.mono fun v w' hp=>⟨ρ',k1.trans (Stp.kp k3 hp.1),k3.kp hp.1,k4.kp hp.1,hp.2.1,hp.2.2⟩⟩)
    ·cases h
   ·cases h
  ·cases h
 case makeMap t o=>
  cases o with
  | some o=>cases h
  | none=>
   simp only at h
   split at h
   ·rename_i s hft
    cases h
    have hk:=Kp.alloc w (.map #[] 0)
    have hext:Ext ρ w (ρ++[.blk w.heap.size]) (w.alloc (.map #[] 0)):=Ext.app hk fun g hg=>by cases hg; exact Nat.le_refl _
    have hle:=hext.le (G:=G)
    exact .inl (.inl ⟨_,_,R.lT,ρ++[.blk w.heap.size],Stp.app hR hk (fun g hg=>by cases hg; exact Nat.le_refl _),hR.app hk (fun g hg=>by cases hg; exact ⟨Nat.le_refl _,by simp⟩) ⟨_,rfl,#[],0,(Go.MapKept.heap_alloc w _).1,by simp,fun _=>trivial⟩,hf.carry hle (bQ _ _),⟨w.heap.size,by rw [hR.obj.length]; simp,rfl⟩,by simp⟩)
   ·rename_i hft
    cases h
    have hk:=Kp.alloc w (.map #[] 0)
    have hext:Ext ρ w (ρ++[.blk w.heap.size]) (w.alloc (.map #[] 0)):=Ext.app hk fun g hg=>by cases hg; exact Nat.le_refl _
    have hle:=hext.le (G:=G)
    exact .inl (.inl ⟨_,_,R.lT,ρ++[.blk w.heap.size],Stp.app hR hk (fun g hg=>by cases hg; exact Nat.le_refl _),hR.app hk (fun g hg=>by cases hg; exact ⟨Nat.le_refl _,by simp⟩) ⟨_,rfl,#[],0,(Go.MapKept.heap_alloc w _).1,by simp,fun _=>trivial⟩,hf.carry hle (bQ _ _),⟨w.heap.size,by rw [hR.obj.length]; simp,rfl⟩,by simp⟩)
   ·cases h
 case insert t x y z=>
  obtain ⟨w',h1,h2⟩:=il (n:=n) (ty:=ty) hT hR hf h
  exact .inr ⟨rfl,w',h1.1,h2⟩
 case mapUpdate t x y z=>
  obtain ⟨w',h1,h2⟩:=il (n:=n) (ty:=ty) hT hR hf h
  exact .inr ⟨rfl,w',h1.2,h2⟩
 all_goals cases h
end
theorem aQ {q:Prop} (h:∀ p ∈ [q],p):q:=h q (List.mem_singleton_self q)
theorem aC {b:Bool}:(∀ p ∈ same b,p)↔b=true:=by
 cases b with
 | true=>simp [same]
 | false=>exact ⟨fun h=>(aQ h).elim,fun h=>by cases h⟩
theorem lO:∀ {k n:Nat},(iota k n).length=n
 | _,0=>rfl
 | k,n+1=>by simp [iota,lO]
theorem kf:∀ {k n i:Nat},i<n->(iota k n)[i]? = some (k+i)
 | k,n+1,0,_=>by simp [iota]
 | k,n+1,i+1,h=>by
  have:=kf (k:=k+1) (n:=n) (i:=i) (by omega)
  rw [iota,List.getElem?_cons_succ,this,show k+1+i=k+(i+1) by omega]
theorem rh {k n i:Nat}:i ∈ iota k n↔k<=i/\i<k+n:=by
 induction n generalizing k with
 | zero=>simp [iota]
 | succ n ih=>simp [iota,ih]; omega
theorem dk:∀ {σ:List Nat} {j i:Nat},q_ σ j i=true↔σ[j]? = some i
 | [],j,i=>by simp [q_]
 | k :: r,0,i=>by simp [q_]
 | k :: r,j+1,i=>by simpa [q_] using dk (σ:=r)
theorem lr {n:Nat}:∀ {σ:List Nat} {j:Nat},oR n σ j=true↔∃ k,σ[j]? = some k/\n<=k
 | [],j=>by simp [oR]
 | k :: r,0=>by simp [oR]
 | k :: r,j+1=>by simpa [oR] using lr (σ:=r)
def aF (ρ:List RE) (σ:List Nat):List RE:=σ.map fun k=>ρ.getD k .emp
theorem aY {ρ:List RE} {σ:List Nat} {i j:Nat} {r:RE} (h:σ[j]? = some i) (hr:ρ[i]? = some r):(aF ρ σ)[j]? = some r:=by
 simp [aF,h,List.getD_eq_getElem?_getD,hr]
theorem pK {ρ:List RE} {σ:List Nat} {i j:Nat} (h:σ[j]? = some i) (hr:ρ.length<=i):(aF ρ σ)[j]? = some .emp:=by
 simp [aF,h,List.getD_eq_getElem?_getD,List.getElem?_eq_none hr]
theorem eR {ρ:List RE} {σ:List Nat} {j g:Nat} {r:RE} (h:(aF ρ σ)[j]? = some r) (hg:r.g? = some g):∃ i,σ[j]? = some i/\ρ[i]? = some r:=by
 simp only [aF,List.getElem?_map,Option.map_eq_some_iff] at h
 obtain ⟨i,h1,h2⟩:=h
 refine ⟨i,h1,?_⟩
 rw [List.getD_eq_getElem?_getD] at h2
 cases hi:ρ[i]? with
 | none=>rw [hi] at h2; simp at h2; subst h2; cases hg
 | some r'=>rw [hi] at h2; simp at h2; rw [h2]
theorem fG {ρ:List RE} {σ:List Nat} {b:Nat} (h:live (aF ρ σ) b):∃ i r,i ∈ σ/\ρ[i]? = some r/\r.g? = some b:=by
 obtain ⟨j,r,h1,h2⟩:=h
 obtain ⟨i,h3,h4⟩:=eR h1 h2
 exact ⟨i,r,List.mem_of_getElem? h3,h4,h2⟩
section
variable {G:Gl} {ρ:List RE} {H:AH} {w:World} {σ:List Nat} {n:Nat}
theorem ky:(cx G ρ w).le (cx G (aF ρ σ) w):=
 ⟨rfl,rfl,fun _ hb=>⟨⟨hb.1,fun h=>by
  obtain ⟨i,r,_,h1,h2⟩:=fG h
  exact hb.2.1 ⟨i,r,h1,h2⟩,hb.2.2⟩,rfl⟩⟩
theorem fC:∀ {b b':List (Nat × Nat)} {us:List Value},lg σ b b' = true->All2 (ck ρ) b us->All2 (ck (aF ρ σ)) b' us
 | [],[],_,_,h=>by cases h; exact .nil
 | [],_ :: _,_,h,_=>by cases h
 | (_,_) :: _,[],_,h,_=>by cases h
 | (i,o) :: b,(j,o') :: b',_,h,k=>by
  simp only [lg,Bool.and_eq_true] at h
  cases k with | cons k1 k2=>
  have ho:=Nat.eq_of_beq_eq_true h.1.2
  subst ho
  obtain ⟨g,e1,e2⟩:=k1
  exact .cons ⟨g,aY (dk.1 h.1.1) e1,e2⟩ (fC h.2 k2)
theorem rN (hR:Rep G ρ H w) (hn:n=H.length) {a b:AV} {v:Value} (h:Rd (cx G ρ w) ρ a v) (he:∀ p ∈ xf H n σ a b,p):Rd (cx G (aF ρ σ) w) (aF ρ σ) b v:=by
 have hlen:=hR.obj.length
 by_cases hd:b = .dead
 ·subst hd; exact h.one
 have hle:(cx G ρ w).le (cx G (aF ρ σ) w):=ky
 cases a <;> cases b <;> first | exact (hd rfl).elim | (dsimp only [xf] at he; try exact (aQ he).elim)
 case int.int=>have he:=aQ he; subst he; exact Pd.carry h hle
 case u8.u8=>have he:=aQ he; subst he; exact Pd.carry h hle
 case u64.u64=>have he:=aQ he; subst he; exact Pd.carry h hle
 case bool.bool=>
  have h:Pd (cx G ρ w) _ v:=h
  cases h
  rw [aQ he]; exact Pd.bool
 case str.str=>have he:=aQ he; subst he; exact Pd.carry h hle
 case fz.fz=>
  rename_i s xs s' ys
  by_cases hs:s=s'
  ·subst hs
   rw [dif_pos rfl] at he
   have he:xs=ys:=aQ he
   subst he
   exact Pd.carry h hle
  ·rw [dif_neg hs] at he
   exact (aQ he).elim
 case em.fz=>
  have he:=aQ he
  subst he
  exact Pd.kX (Pd.carry h hle)
 case em.em=>
  have:=aC.1 he
  simp at this; subst this
  exact Pd.carry h hle
 case em.own=>
  obtain ⟨k,h1,h2⟩:=lr.1 (aC.1 he)
  have h:Pd (cx G ρ w) _ v:=h
  cases h with | em _=>
  exact .inr ⟨pK h1 bK,_,rfl⟩
 case own.own=>
  have h1:=dk.1 (aC.1 he)
  rcases h with ⟨g,cap,len,z,h,e⟩ | ⟨h,e⟩
  ·exact .inl ⟨g,cap,len,z,aY h1 h,e⟩
  ·exact .inr ⟨aY h1 h,e⟩
 case own.fz=>
  rename_i i s ys
  split at he
  ·rename_i t s' xs hH
   by_cases hs:s' = s
   ·subst hs
    rw [dif_pos rfl] at he
    have h1:=aC.1 fun p hp=>he p (List.mem_append_left _ hp)
    have h2:xs=ys:=he _ (List.mem_append_right _ (List.mem_singleton_self _))
    simp only [Bool.not_eq_true'] at h1
    subst h2
    have hni:i ∉ σ:=fun hi=>by rw [aj.2 hi] at h1; cases h1
    have hv:(AV.own i).vw H = .fz s' xs:=by simp [AV.vw,hH]
    refine dy (eP hR hle rfl h (fun g cap len z ⟨id,he,hid⟩=>?_) hv)
    have hb:=hR.bnd _ _ g hid rfl
    refine ⟨hb.2.1,fun hl=>?_,hb.2.2⟩
    obtain ⟨i',r',h3,h4,h5⟩:=fG hl
    have:=hR.inj _ _ _ _ g hid h4 rfl h5
    rcases he with he | ⟨_,_,he⟩ <;> cases he
    subst this
    exact hni h3
   ·rw [dif_neg hs] at he
    exact (aQ he).elim
  ·exact (aQ he).elim
 case sub.sub=>
  simp only [List.mem_append,List.mem_cons,List.not_mem_nil,or_false] at he
  have h1:=dk.1 (aC.1 fun p hp=>he p (.inl hp))
  have h2:=he _ (.inr (.inl rfl))
  have h3:=he _ (.inr (.inr rfl))
  subst h2; subst h3
  rcases h with ⟨g,cap,len,z,h,e⟩ | ⟨h,e⟩
  ·exact .inl ⟨g,cap,len,z,aY h1 h,e⟩
  ·exact .inr ⟨aY h1 h,e⟩
 case ptr.ptr=>
  have h1:=aC.1 he
  simp only [Bool.and_eq_true] at h1
  have ho:=Nat.eq_of_beq_eq_true h1.2
  subst ho
  obtain ⟨g,h,e⟩:=h
  exact ⟨g,aY (dk.1 h1.1) h,e⟩
 case np.np=>exact h
 case elp.elp=>
  simp only [List.mem_append,List.mem_cons,List.not_mem_nil,or_false] at he
  have h1:=aC.1 fun p hp=>he p (.inl hp)
  have h2:=he _ (.inr rfl)
  simp only [Bool.and_eq_true] at h1
  have ho:=Nat.eq_of_beq_eq_true h1.2
  subst ho; subst h2
  obtain ⟨g,cap,len,z,h,e⟩:=h
  exact ⟨g,cap,len,z,aY (dk.1 h1.1) h,e⟩
 case fn.fn=>
  have h1:=aC.1 he
  simp only [Bool.and_eq_true] at h1
  have ho:=Nat.eq_of_beq_eq_true h1.1.1
  subst ho
  obtain ⟨bs,us,h2,h3,e⟩:=h
  exact ⟨bs,us,fC h1.1.2 h2,fC h1.2 h3,e⟩
 case nf.nf=>exact h
 case yl.yl=>rw [<- Nat.eq_of_beq_eq_true (aC.1 he)]; exact h
 case mq.mq=>
  obtain ⟨g,h,e⟩:=h
  exact ⟨g,aY (dk.1 (aC.1 he)) h,e⟩
theorem kB (hR:Rep G ρ H w) (hn:n=H.length):∀ {asx bs:List AV} {vs:List Value},All2 (Rd (cx G ρ w) ρ) asx vs->(∀ p ∈ rC H n σ asx bs,p)->All2 (Rd (cx G (aF ρ σ) w) (aF ρ σ)) bs vs
 | [],[],_,h,_=>by cases h; exact .nil
 | [],_ :: _,_,_,h=>(aQ h).elim
 | _ :: _,[],_,_,h=>(aQ h).elim
 | a :: asx,b :: bs,_,h,he=>by
  cases h with | cons h1 h2=>
  simp only [rC,List.mem_append] at he
  exact .cons (rN hR hn h1 fun p hp=>he p (.inl hp)) (kB hR hn h2 fun p hp=>he p (.inr hp))
theorem oe (hR:Rep G ρ H w) (hn:n=H.length) {a b:TV1} {v:Value} (h:aO (cx G ρ w) ρ a v) (he:∀ p ∈ sJ H n σ a b,p):aO (cx G (aF ρ σ) w) (aF ρ σ) b v:=by
 cases a <;> cases b <;> simp only [sJ] at he
 ·exact rN hR hn h he
 ·exact (aQ he).elim
 ·exact (aQ he).elim
 ·obtain ⟨vs,e,h⟩:=h
  exact ⟨vs,e,kB hR hn h he⟩
theorem gF (hR:Rep G ρ H w) (hn:n=H.length):∀ {asx bs:List TV1} {vs:List Value},All2 (aO (cx G ρ w) ρ) asx vs->(∀ p ∈ ml H n σ asx bs,p)->All2 (aO (cx G (aF ρ σ) w) (aF ρ σ)) bs vs
 | [],[],_,h,_=>by cases h; exact .nil
 | [],_ :: _,_,_,h=>(aQ h).elim
 | _ :: _,[],_,_,h=>(aQ h).elim
 | a :: asx,b :: bs,_,h,he=>by
  cases h with | cons h1 h2=>
  simp only [ml,List.mem_append] at he
  exact .cons (oe hR hn h1 fun p hp=>he p (.inl hp)) (gF hR hn h2 fun p hp=>he p (.inr hp))
theorem uD (hR:Rep G ρ H w) (hn:n=H.length) {a b:TV} {v:Value} (h:Rt (cx G ρ w) ρ a v) (he:∀ p ∈ xb H n σ a b,p):Rt (cx G (aF ρ σ) w) (aF ρ σ) b v:=by
 cases b with
 | un=>trivial
 | one b=>
  cases a <;> simp only [xb] at he
  ·exact oe hR hn h he
  ·exact (aQ he).elim
  ·exact (aQ he).elim
 | tup b=>
  cases a <;> simp only [xb] at he
  ·exact (aQ he).elim
  ·obtain ⟨vs,e,h⟩:=h
   exact ⟨vs,e,gF hR hn h he⟩
  ·exact (aQ he).elim
theorem nK (hR:Rep G ρ H w) (hn:n=H.length) {fr:AFr} {F:Fr} (hf:ba (cx G ρ w) ρ fr F):∀ {fr':AFr},(∀ p ∈ tW H n σ fr fr',p)->∃ F',ba (cx G (aF ρ σ) w) (aF ρ σ) fr' F' /\ ∀ i v,look F' i=some v->look F i=some v
 | [],_=>⟨[],.nil,fun i v h=>by cases h⟩
 | (i,b) :: fr',he=>by
  simp only [tW] at he
  split at he
  ·rename_i u hu
   simp only [List.mem_append] at he
   obtain ⟨v,h1,h2⟩:=bR hf hu
   obtain ⟨F',h3,h4⟩:=nK hR hn hf fun p hp=>he p (.inr hp)
   refine ⟨(i,v) :: F',.cons ⟨rfl,uD hR hn h2 fun p hp=>he p (.inl hp)⟩ h3,fun j x hj=>?_⟩
   rw [ai] at hj
   by_cases hij:i=j
   ·subst hij; rw [if_pos rfl] at hj; cases hj; exact h1
   ·rw [if_neg hij] at hj; exact h4 j x hj
  ·exact (aQ he).elim
theorem l_ {P:Program} {t:TypeId} {s:Sh} {T:List (Nat × TI)} (hT:ao P G.shp T):∀ {r:List (Nat × TI)},jU T t s r=true->G.shp t=some s
 | [],h=>by cases h
 | (i,_) :: r,h=>by
  simp only [jU,Bool.or_eq_true] at h
  rcases h with h | h
  ·split at h
   ·rename_i e s' _ _ hu
    simp only [Bool.and_eq_true,decide_eq_true_eq] at h
    have h1:=Nat.eq_of_beq_eq_true h.1
    obtain ⟨_,h2⟩:=h
    subst h1; subst h2
    exact ((hT _ _ hu).2.2 _ rfl).1
   ·cases h
  ·exact l_ hT h
theorem qT {P:Program} {T:List (Nat × TI)} (hT:ao P G.shp T) (hR:Rep G ρ H w) (hn:n=H.length):∀ {r:List Nat} {H':AH},(∀ p ∈ vV T H n σ r H',p)->All2 (OR (cx G (aF ρ σ) w) (aF ρ σ)) H' (r.map fun k=>ρ.getD k .emp)
 | [],[],_=>.nil
 | [],_ :: _,h=>(aQ h).elim
 | _ :: _,[],h=>(aQ h).elim
 | k :: r,b :: H',h=>by
  simp only [vV,List.mem_append] at h
  refine .cons ?_ (qT hT hR hn fun p hp=>h p (.inr hp))
  replace h:=fun p hp=>h p (.inl hp)
  have hle:(cx G ρ w).le (cx G (aF ρ σ) w):=ky
  cases hk:Nat.blt k n <;> rw [hk] at h
  ·-- a new row
   have hk':n<=k:=by
    have:¬ k<n:=fun hlt=>by have:=(Nat.blt_eq).mpr hlt; rw [hk] at this; cases this
    omega
   dsimp only [cond_false] at h
   have hlen:=hR.obj.length
   show OR _ _ _ (ρ.getD k .emp)
   rw [List.getD_eq_getElem?_getD,List.getElem?_eq_none (by omega)]
   cases b with
   | row t s ys=>
    dsimp only [yd] at h
    have h1:=aC.1 fun p hp=>h p (List.mem_append_left _ hp)
    have h2:ys=[]:=h _ (List.mem_append_right _ (List.mem_singleton_self _))
    subst h2
    exact ⟨l_ hT h1,by simp,.inl ⟨rfl,rfl⟩⟩
   | gone=>exact (aQ h).elim
   | mapo _ _=>exact (aQ h).elim
   | mapf _=>exact (aQ h).elim
   | loc=>exact (aQ h).elim
   | arr _ _ _ _=>exact (aQ h).elim
   | box _ _=>exact (aQ h).elim
  ·dsimp only [cond_true] at h
   have hk':k<H.length:=by have:=Nat.blt_eq.mp hk; omega
   have hg:H[k]? = some (getO H k):=by
    unfold getO
    rw [List.getD_eq_getElem?_getD,List.getElem?_eq_getElem hk']
    rfl
   obtain ⟨rr,h1,h2⟩:=hR.at_ hg
   show OR _ _ _ (ρ.getD k .emp)
   rw [List.getD_eq_getElem?_getD,h1,Option.getD_some]
   generalize getO H k=a at h h2
   cases a <;> cases b <;> dsimp only [yg] at h <;> try exact (aQ h).elim
   case gone.gone=>exact h2
   case mapo.mapo s f s' f'=>
    by_cases hs:s=s'
    ·subst hs
     rw [dif_pos rfl] at h
     have he:f=f':=aQ h
     subst he
     obtain ⟨g,e,h3⟩:=h2
     exact ⟨g,e,h3.carry hle rfl⟩
    ·rw [dif_neg hs] at h
     exact (aQ h).elim
   case arr.arr t s m xs t' s' m' ys=>
    have h0:=aC.1 fun p hp=>h p (List.mem_append_left _ hp)
    simp only [Bool.and_eq_true] at h0
    have h3:=Nat.eq_of_beq_eq_true h0.1
    have h4:=Nat.eq_of_beq_eq_true h0.2
    subst h3; subst h4
    replace h:=fun p hp=>h p (List.mem_append_right _ hp)
    by_cases hs:s=s'
    ·subst hs
     rw [dif_pos rfl] at h
     have he:xs=ys:=aQ h
     subst he
     obtain ⟨g,vs,e,h5,h6,h7⟩:=h2
     exact ⟨g,vs,e,h5,h6.carry hle,h7⟩
    ·rw [dif_neg hs] at h
     exact (aQ h).elim
   case box.box t cs t' cs'=>
    have h3:=Nat.eq_of_beq_eq_true (aC.1 fun p hp=>h p (List.mem_append_left _ hp))
    subst h3
    obtain ⟨g,vs,e,h4,h5⟩:=h2
    exact ⟨g,vs,e,h4,kB hR hn h5 fun p hp=>h p (List.mem_append_right _ hp)⟩
   case row.row t s xs t' s' ys=>
    have h3:=Nat.eq_of_beq_eq_true (aC.1 fun p hp=>h p (List.mem_append_left _ hp))
    subst h3
    replace h:=fun p hp=>h p (List.mem_append_right _ hp)
    by_cases hs:s=s'
    ·subst hs
     rw [dif_pos rfl] at h
     have he:xs=ys:=aQ h
     subst he
     refine ⟨h2.1,h2.2.1,h2.2.2.imp id ?_⟩
     rintro ⟨g,cap,cells,sp,e,h4,h5,h6⟩
     exact ⟨g,cap,cells,sp,e,h4,h5.carry hle,h6⟩
    ·rw [dif_neg hs] at h
     exact (aQ h).elim
theorem iT {n:Nat}:∀ {σ:List Nat},fy n σ=true->∀ (i j k:Nat),σ[i]? = some k->σ[j]? = some k->k<n->i=j
 | [],_,i,j,k,h,_,_=>by simp at h
 | x :: r,hs,i,j,k,h1,h2,hk=>by
  simp only [fy,Bool.and_eq_true,Bool.or_eq_true,Bool.not_eq_true'] at hs
  have hx:k=x->∀ m:Nat,r[m]? = some k->False:=by
   rintro rfl m hm
   rcases hs.1 with h | h
   ·have:=Nat.le_of_ble_eq_true h; omega
   ·rw [aj.2 (List.mem_of_getElem? hm)] at h; cases h
  cases i with
  | zero=>
   simp at h1
   cases j with
   | zero=>rfl
   | succ j=>exact (hx h1.symm j (by simpa using h2)).elim
  | succ i=>
   cases j with
   | zero=>simp at h2; exact (hx h2.symm i (by simpa using h1)).elim
   | succ j=>rw [iT hs.2 i j k (by simpa using h1) (by simpa using h2) hk]
theorem mb {P:Program} {T:List (Nat × TI)} (hT:ao P G.shp T) (hR:Rep G ρ H w) (hn:n=H.length) (hs:fy n σ=true) {H':AH} (h:∀ p ∈ vV T H n σ σ H',p):Rep G (aF ρ σ) H' w:=by
 have hlen:=hR.obj.length
 refine ⟨qT hT hR hn h,fun i j r r' g h1 h2 h3 h4=>?_,fun i r g h1 h2=>?_,hR.z,hR.b0,hR.tb.carry ky⟩
 ·obtain ⟨a,h5,h6⟩:=eR h1 h3
  obtain ⟨b,h7,h8⟩:=eR h2 h4
  have:=hR.inj a b r r' g h6 h8 h3 h4
  subst this
  exact iT hs i j a h5 h7 (by have:=(List.getElem?_eq_some_iff.1 h6).1; omega)
 ·obtain ⟨a,h5,h6⟩:=eR h1 h2
  exact hR.bnd a r g h6 h2
theorem lu {ρ0:List RE} {w0:World} (h:Ext ρ0 w0 ρ w):Ext ρ0 w0 (aF ρ σ) w:=
 ⟨h.os,h.tape,h.output,h.size,fun b hb hl=>⟨fun hk=>by
  obtain ⟨i,r,_,h1,h2⟩:=fG hk
  exact (h.old b hb hl).1 ⟨i,r,h1,h2⟩,(h.old b hb hl).2⟩⟩
theorem rJ {ro:Lv} {ρ0:List RE} {w0:World} (h:Stp ro ρ0 w0 ρ w) (hσ:∀ i,i<ρ0.length->σ[i]? = some i):Stp ro ρ0 w0 (aF ρ σ) w:=
 ⟨lu h.ext,fun i r hi hr=>aY (hσ i (List.getElem?_eq_some_iff.1 hr).1) (h.loc i r hi hr),fun i r hi hr=>⟨aY (hσ i (List.getElem?_eq_some_iff.1 hr).1) (h.pro i r hi hr).1,(h.pro i r hi hr).2⟩,
  fun i g hg=>aY (hσ i (List.getElem?_eq_some_iff.1 hg).1) (h.bx i g hg)⟩
def St (G:Gl) (ro:Lv) (ρ0:List RE) (w0:World) (fr:AFr) (H:AH) (F:Fr) (w:World):Prop:=∃ ρ,Stp ro ρ0 w0 ρ w/\Rep G ρ H w/\ba (cx G ρ w) ρ fr F
theorem lz {k0:Nat} {fr:AFr} {H:AH} {q:AFr × AH} {i:Nat} (h:i<k0):∀ (f:Nat) (ps:List (Nat × Nat)),(tY k0 fr H q f ps)[i]? = some i
 | 0,ps=>by
  show (iota 0 k0++_)[i]? = _
  have:=kf (k:=0) (n:=k0) (i:=i) h
  rw [Nat.zero_add] at this
  rw [List.getElem?_append_left (List.getElem?_eq_some_iff.1 this).1]; exact this
 | f+1,ps=>lz h f _
theorem lb {P:Program} {T:List (Nat × TI)} (hT:ao P G.shp T) {ro:Lv} {k0:Nat} {ρ0:List RE} {w0:World} {fr:AFr} {F:Fr} {q:AFr × AH} (hk0:ρ0.length<=k0) (h:St G ro ρ0 w0 fr H F w) (he:eX (tj T k0 fr H q)) :
  ∃ F',St G ro ρ0 w0 q.1 q.2 F' w/\∀ i v,look F' i=some v->look F i=some v:=by
 obtain ⟨ρ,hS,hR,hf⟩:=h
 replace he:=bn.1 he
 dsimp only [tj] at he
 have h0:=aC.1 fun p hp=>he p (List.mem_append_left _ (List.mem_append_left _ hp))
 rw [Bool.and_eq_true] at h0
 obtain ⟨F',h2,h3⟩:=nK (σ:=tY k0 fr H q 3 []) hR rfl hf fun p hp=>he p (List.mem_append_left _ (List.mem_append_right _ hp))
 have h4:=mb hT hR rfl h0.2 fun p hp=>he p (List.mem_append_right _ hp)
 exact ⟨F',⟨_,rJ hS fun i hi=>lz bK 3 [],h4,h2⟩,h3⟩
end
end Go.Proofs.YtagpmhlokhoanaaDoor
