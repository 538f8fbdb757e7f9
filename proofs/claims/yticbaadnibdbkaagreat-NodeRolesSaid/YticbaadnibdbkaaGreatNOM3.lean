/- What leads to the law, part 3. Conditions: each lemma's own. -/
import Derived.Scope
import Derived.Test.YticbaadnibdbkaaGreatNOM2
set_option linter.unusedVariables false
set_option linter.unusedSimpArgs false
set_option maxHeartbeats 2000000
set_option linter.defProp false
namespace Go.Proofs.YticbaadnibdbkaaGreat
open Go.RowKit
def ag5:=@Nat.mul_le_mul_left
def ajs:=@Option.getD_some
def afN:=@List.length_replicate
def aie:=@Nat.min_eq_right
def ahX:=@List.mem_map_of_mem
def ahp:=@List.length_singleton
section
variable {G:Gl} {ρ:List RE} {H:AH} {w w':World}
theorem jv (t:Rep G ρ H w) {id:Nat} {e e':TypeId} {s s':Sh} {xs:List (den s)} {zs:List (den s')} (hH:getO H id = .row e s xs) {ro:Lv} (L:ro.mv id=true/\ro.wr id=true) {S:List Nat} (C:Kp S w w') (hS:∀ g ∈ S,∃ r,ρ[id]? = some r/\r.g? = some g) {r':RE} (V:∀ g,r'.g? = some g->(∃ r,ρ[id]? = some r/\r.g? = some g)\/(w.heap.size<=g/\g<w'.heap.size))
  (ho:(cx G ρ w).le (cx G (ρ.set id r') w')->OR (cx G (ρ.set id r') w') (ρ.set id r') (.row e' s' zs) r') :
  Stp ro ρ w (ρ.set id r') w' /\ Rep G (ρ.set id r') ((iF (AV.kill id) H).set id (.row e' s' zs)) w' /\ (∀ fr F,FrR (cx G ρ w) ρ fr F->FrR (cx G (ρ.set id r') w') (ρ.set id r') (ji (AV.kill id) fr) F):=by
 obtain ⟨N,hil,hiH⟩:=na t hH;have hlv:∀ b,b<w.heap.size->¬ live ρ b->¬ live (ρ.set id r') b:=fun b y W h=>(zr h).elim W fun m=>by
  rcases V b m with ⟨r,h3,D⟩ | h3
  ·exact W ⟨id,r,h3,D⟩
  omega
 have I:∀ b,b<w.heap.size->(∀ r,ρ[id]? = some r->r.g? ≠ some b)->w'.heap[b]? = w.heap[b]?:=fun b y hn=>C.block b y fun hm=>by
  obtain ⟨r,i,m⟩:=hS b hm;exact hn r i m
 have J:Ext ρ w (ρ.set id r') w':=⟨C.os,C.tape,C.output,C.size,fun b y W=>⟨hlv b y W,I b y fun r i m=>W ⟨id,r,i,m⟩⟩⟩;have d:=J.le t.lo;have p:∀ j r,id≠j->ρ[j]? = some r->(ρ.set id r')[j]? = some r:=fun j r c h=>by rw [i_ c]; exact h
 have u:∀ q v,dY ρ q v->dY (ρ.set id r') q v:=fun q v ⟨g,i,m⟩=>⟨g,p _ _ (fun e=>N g (e ▸ i)) i,m⟩;have X:∀ a v,Rd (cx G ρ w) ρ a v->Rd (cx G (ρ.set id r') w') (ρ.set id r') (a.kill id) v:=by
  intro a v h;cases a with
  | own j=>
   simp only [AV.kill];cases y:Nat.beq id j
   ·have c:id≠j:=by rintro rfl; simp at y
    rcases h with ⟨g,B,len,z,h,e⟩ | ⟨h,e⟩
    ·exact .inl ⟨g,B,len,z,p _ _ c h,e⟩
    exact .inr ⟨p _ _ c h,e⟩
   exact Rd.one h
  | sub j o k=>
   simp only [AV.kill];cases y:Nat.beq id j
   ·have c:id≠j:=by rintro rfl; simp at y
    rcases h with ⟨g,B,len,z,h,e⟩ | ⟨h,e⟩
    ·exact .inl ⟨g,B,len,z,p _ _ c h,e⟩
    exact .inr ⟨p _ _ c h,e⟩
   exact Rd.one h
  | elp j k o=>
   simp only [AV.kill];cases y:Nat.beq id j
   ·have c:id≠j:=by rintro rfl; simp at y
    obtain ⟨g,B,len,z,h,e⟩:=h;exact ⟨g,B,len,z,p _ _ c h,e⟩
   exact Rd.one h
  | ptr j o=>exact u _ _ h
  | mq j=>
   obtain ⟨g,i,e⟩:=h;exact ⟨g,p _ _ (fun e=>N g (e ▸ i)) i,e⟩
  | fn f b cs=>
   obtain ⟨bs,us,i,m,e⟩:=h;exact ⟨bs,us,i.imp fun _ _ h=>u _ _ h,m.imp fun _ _ h=>u _ _ h,e⟩
  | fe s' x o=>
   obtain ⟨A,O,i,m,h3,e⟩:=h;exact ⟨A,O,(d.S _ i).1,m.keep (d.S _ i).2,h3.carry d,e⟩
  | np=>exact h
  | nf=>exact h
  | yl l=>exact h
  | xx k cs=>
   obtain ⟨us,i,m⟩:=h;exact ⟨us,i.imp fun _ _ h=>u _ _ h,m.le d⟩
  | dead=>exact h
  | int n=>exact Pd.carry h d
  | u8 b=>exact Pd.carry h d
  | u64 n=>exact Pd.carry h d
  | bool e=>exact Pd.carry h d
  | str s=>exact Pd.carry h d
  | em b=>exact Pd.carry h d
  | li nw xs=>exact Pd.carry h d
  | fz s xs=>exact Pd.carry h d
 have K:∀ j r g,id≠j->ρ[j]? = some r->r.g? = some g->w'.heap[g]? = w.heap[g]?:=fun j r g c i m=>I g (t.bnd j r g i m).2.1 fun Y h3 D=>c (t.inj _ _ _ _ g h3 i D m);have P:∀ (a:Nat) (r:RE) (g:Nat),(ρ.set id r')[a]? = some r->r.g? = some g->(id≠a/\ρ[a]? = some r)\/(id=a/\((∃ r,ρ[id]? = some r/\r.g? = some g)\/(w.heap.size<=g/\g<w'.heap.size))):=fun a r g i m=>by
  by_cases Q:id=a
  ·subst Q;rw [adU hil] at i; cases i;exact .inr ⟨rfl,V g m⟩
  rw [i_ Q] at i; exact .inl ⟨Q,i⟩
 refine ⟨⟨J,fun j r T h=>p j r (by rintro rfl; rw [L.1] at T; cases T) h,fun j r T h=>⟨p j r (by rintro rfl; rw [L.2] at T; cases T) h,fun g hg=>K j r g (by rintro rfl; rw [L.2] at T; cases T) h hg⟩,fun j g h=>p j _ (fun e=>N g (e ▸ h)) h⟩,⟨cA (by simp [fg,t.obj.length]) fun j o r U hr=>?_,fun a b r1 Y g i m h3 D=>?_,fun j r g i m=>?_,fun b y=>acv (t.z b y) C.size,Nat.le_trans t.b0 C.size,t.tb.carry d⟩,fun fr F h=>tV X h⟩
 ·by_cases c:id=j
  ·grind
  rw [List.getElem?_set_ne c,lQ] at U;rw [i_ c] at hr;rw [aeB] at U;obtain ⟨o',ho2,rfl⟩:=U;obtain ⟨Y,Z,hor⟩:=t.at_ ho2;rw [hr] at Z; cases Z;exact hor.map d X fun g hg=>K j r g c hr hg
 ·rcases P a r1 g i h3 with ⟨k1,k2⟩ | ⟨k1,k2⟩ <;> rcases P b Y g m D with ⟨k3,k4⟩ | ⟨k3,k4⟩
  ·exact t.inj a b r1 Y g k2 k4 h3 D
  ·rcases k4 with ⟨r,k5,k6⟩ | k4
   ·exact absurd (t.inj _ _ _ _ g k5 k2 k6 h3) k1
   have:=(t.bnd a r1 g k2 h3).2.1; omega
  ·rcases k2 with ⟨r,k5,k6⟩ | k2
   ·exact absurd (t.inj _ _ _ _ g k5 k4 k6 D) k3
   have:=(t.bnd b Y g k4 D).2.1; omega
  omega
 rcases P j r g i m with ⟨k1,k2⟩ | ⟨k1,k2⟩
 ·have:=t.bnd j r g k2 m;exact ⟨this.1,acv this.2.1 C.size,this.2.2⟩
 rcases k2 with ⟨r,k5,k6⟩ | k2
 ·have:=t.bnd _ r g k5 k6;exact ⟨this.1,acv this.2.1 C.size,this.2.2⟩
 exact ⟨Nat.le_trans t.b0 k2.1,k2.2,fun hz=>by have:=t.z g hz; omega⟩
end
section
variable {P:Program} {T:List (Nat × TI)} {G:Gl} {O:bP} {n:Nat} {F:Fr} {w:World} {x y:Operand} {ty t:TypeId} {ρ:List RE} {H:AH} {fr:AFr} {ro:Lv}
variable {b:AV}
theorem oB (p:Rep G ρ H w) {vb:Value} {s:Sh} {g:List (den s)} (h:(b.vw H).fS s=some g) (m:Rd (cx G ρ w) ρ b vb):∃ A k d,vb = .slice A g.length k/\d.length=g.length*s.size/\(∀ u ∈ d,u.oneCell' = true)/\(g.length=0\/∃ i,A=some i/\CellsAt w i d)/\Pds (cx G ρ w) (g.flatMap (cellsOf s)) d:=by
 have q:∀ v,b.vw H = .fz s v->∃ A k d,vb = .slice A v.length k/\d.length=v.length*s.size/\(∀ u ∈ d,u.oneCell' = true)/\(v.length=0\/∃ i,A=some i/\CellsAt w i d)/\Pds (cx G ρ w) (v.flatMap (cellsOf s)) d:=fun v e=>by
  obtain ⟨a,k,f,rfl,B,C,j,o⟩:=(Gv p e m).ex;refine ⟨a,k,f,rfl,by rw [<- j.length,bU],j.Md,?_,j⟩;rcases o with o | ⟨A,r,_,z⟩
  ·grind
  exact .inr ⟨A,r,z⟩
 cases e:b.vw H with
 | fz D I=>
  rw [e] at h;simp only [AV.fS] at h;grind
 | em c=>
  rw [e] at h;cases h;have l:b = .em c:=by
   cases b <;> simp only [AV.vw] at e <;> first | (cases e <;> rfl) | (split at e <;> cases e)
  subst l;cases m with | @em _ a _=>
  exact ⟨a,0,[],rfl,aa,aa,.inl rfl,.nil⟩
 | _=>rw [e] at h; simp [AV.fS] at h
variable {e:TypeId} {m:Nat}
theorem oN {lo:Nat} {s:Nat} {v:Value} {c:List Value} (h:w.ownsRow lo e s v m c):(v = .slice none 0 0/\m=0)\/∃ g a f,v = .slice (some ⟨g,0,none⟩) m a/\w.heap[g]? = some (.cells (List.toArray (c++f)) e (0,0))/\(c++f).length=a*s/\m<=a/\a<=maxLen:=by
 rcases h.2 with p | ⟨g,a,d,i,_,j,k,l,q,o⟩
 ·grind
 refine .inr ⟨g,a,d.toList.drop (m*s),i,?_,?_,k,l⟩
 ·rw [<- o,List.take_append_drop]; simpa using j
 grind
variable {r:SR} {a:AV} {va:Value}
def mA (hR:Rep G ρ H w) (hf:FrR (cx G ρ w) ρ fr F) {op:Op} {s:Sh} {z:List (den s)} {T:List Value} (q:G.shp e=some s) (s4:Pds (cx G ρ w) (z.flatMap (cellsOf s)) T)
  (run:∀ (m:Nat) (f:List Value),((m=0/\f=[]/\∃ a,va = .slice a 0 0)\/w.ownsRow 0 e s.size va m f)->(m+z.length)*s.bytes<=140737488355328 ->
     ∃ L d,aF P n F w op ty L d /\ ((m+z.length=0/\∃ a,L = .slice a 0 0)\/d.ownsRow 0 e s.size L (m+z.length) (f++T))/\Kp (ob va) w d /\ (∀ g ∈ ob L,g ∈ ob va\/(g=w.heap.size/\w.heap.size<d.heap.size)))
  (h:mf ro fr H e s z a=some r) (hob:∀ p ∈ r.ob,p) (ha:Rd (cx G ρ w) ρ a va) :
  ∃ v d,aF P n F w op ty v d /\ eN G ro ρ w r F v d:=by
 unfold mf at h
 have j:∀ (id:Nat) (K N:List (den s)) (m:Nat),getO H id = .row e s K->(ro.mv id=true/\ro.wr id=true)->m=N.length->(∀ (L:Value) (d:World),d.heap.size=d.heap.size)->(m+z.length)*s.bytes<=140737488355328 ->
   ((va = .slice (some ⟨0,0,none⟩) 0 0->True))->(∃ f,((m=0/\f=[]/\∃ a,va = .slice a 0 0)\/w.ownsRow 0 e s.size va m f)/\Pds (cx G ρ w) (N.flatMap (cellsOf s)) f)->(∀ g ∈ ob va,∃ r,ρ[id]? = some r/\r.g? = some g) ->
   ∃ v d,aF P n F w op ty v d /\ eN G ro ρ w ⟨one (.own id),ji (AV.kill id) fr,(iF (AV.kill id) H).set id (.row e s (N++z)),[],[]⟩ F v d:=by
  intro id K N m W hro hm _ c _ ⟨f,hrow,hpo⟩ O;subst hm;obtain ⟨_,X,_⟩:=na hR W;obtain ⟨L,d,h1,h2,h3,U⟩:=run N.length f hrow c;have u:(N++z).length=N.length+z.length:=List.length_append;have done:∀ (Y:RE),(∀ g,Y.g? = some g->(∃ r,ρ[id]? = some r/\r.g? = some g)\/(w.heap.size<=g/\g<d.heap.size))->((cx G ρ w).le (cx G (ρ.set id Y) d)->OR (cx G (ρ.set id Y) d) (ρ.set id Y) (.row e s (N++z)) Y)->Rd (cx G (ρ.set id Y) d) (ρ.set id Y) (.own id) L -> ∃ v d,aF P n F w op ty v d /\ eN G ro ρ w ⟨one (.own id),ji (AV.kill id) fr,(iF (AV.kill id) H).set id (.row e s (N++z)),[],[]⟩ F v d:=fun Y C D I=>by
   obtain ⟨J,Z,b⟩:=jv hR W hro h3 O C D;exact ⟨L,d,h1,ρ.set id Y,J,Z,b fr F hf,I,aa⟩
  rcases h2 with ⟨t,a',rfl⟩ | h2
  ·refine done .emp (by rintro g ⟨⟩) (fun _=>⟨q,by rw [u]; exact c,.inl ⟨rfl,acu aE⟩⟩) (.inr ⟨adU X,a',rfl⟩)
  rcases oN h2 with ⟨rfl,t⟩ | ⟨g,o,sp,rfl,C,D,I,J⟩
  ·refine done .emp (by rintro g ⟨⟩) (fun _=>⟨q,by rw [u]; exact c,.inl ⟨rfl,acu aE⟩⟩) (.inr ⟨adU X,none,rfl⟩)
  by_cases Q:o=0
  ·subst Q;have x:N.length+z.length=0:=by omega
   exact done .emp (by rintro g ⟨⟩) (fun _=>⟨q,by rw [u]; exact c,.inl ⟨rfl,acu aE⟩⟩) (.inr ⟨adU X,some ⟨g,0,none⟩,by rw [x]⟩)
  refine done (.row g o (N++z).length s.size) (fun g' i=>?_) (fun hle=>⟨q,by rw [u]; exact c,.inr ⟨g,o,f++T,sp,rfl,C,?_,D,by rw [u]; exact I,J⟩⟩) (.inl ⟨g,o,(N++z).length,s.size,adU X,by rw [u]⟩)
  ·cases i;rcases U g (by simp [ob,Q]) with V | ⟨V,h6⟩
   ·exact .inl (O g V)
   exact .inr ⟨aE,aE⟩
  rw [List.flatMap_append];exact (hpo.append s4).carry hle
 split at h
 ·-- no room
  cases h;cases ha with | @em _ y _=>
  have c:=hob _ (aaZ _);obtain ⟨L,d,h1,h2,h3,U⟩:=run 0 [] (.inl ⟨rfl,rfl,y,rfl⟩) (by simpa using c);have hk:Kp [] w d:=h3.sub fun g hg=>by cases y <;> simp [ob] at hg
  simp only [acC,ail] at h2;have fin:∀ (a':Option Addr),z=[]->L = .slice a' 0 0->eN G ro ρ w ⟨one (.own H.length),fr,H++[.row e s z],[z.length*s.bytes<=140737488355328],[]⟩ F L d:=fun a' hy0 hv=>by
   obtain ⟨k,C,D,I,J⟩:=Le (ro:=ro) hR hf hk q hy0 a';subst hv;exact ⟨k,C,D,I,J,aa⟩
  refine ⟨L,d,h1,?_⟩;rcases h2 with ⟨t,a',hv⟩ | h2
  ·exact fin a' (acu t) hv
  rcases oN h2 with ⟨hv,t⟩ | ⟨g,o,sp,rfl,C,D,I,J⟩
  ·exact fin none (acu t) hv
  by_cases Q:o=0
  ·subst Q;have x:z.length=0:=by omega
   exact fin _ (acu x) (by rw [x])
  rcases U g (by simp [ob,Q]) with V | ⟨V,h6⟩
  ·cases y <;> simp [ob] at V
  subst V;obtain ⟨k,j1,j2,j3,j4⟩:=qY (ro:=ro) hR hf hk C q c s4 D I J;exact ⟨k,j1,j2,j3,j4,aa⟩
 ·-- a row
  rename_i id;split at h
  ·rename_i e' s' K W;split at h
   ·rename_i hss;subst hss;split at h
    ·rename_i A;cases h;simp only [Bool.and_eq_true] at A;have he:=aaF A.2;subst he;have c:=hob _ (aaZ _);have S:=j id K K K.length W A.1 rfl (fun _ _=>rfl) c (fun _=>trivial);rcases bE hR W with ⟨t,rfl⟩ | ⟨g,o,l,sp,h2,h3,U,V,h6,h7⟩
     ·rcases ha with ⟨_,_,_,_,B,_⟩ | ⟨_,y,rfl⟩
      ·rw [t] at B; cases B
      obtain ⟨v,d,C,k,D,I,J,Z,b⟩:=S ⟨[],.inl ⟨rfl,rfl,y,rfl⟩,.nil⟩ (fun g hg=>by cases y <;> simp [ob] at hg);exact ⟨v,d,C,k,D,I,J,Z,b⟩
     rcases ha with ⟨_,_,_,_,B,rfl⟩ | ⟨B,_⟩
     ·rw [h2] at B; cases B;obtain ⟨v,d,C,k,D,I,J,Z,b⟩:=S ⟨l,.inr ⟨by rw [<- U.length,bU],.inr ⟨g,o,_,rfl,af3 _,h3,h6,h7,by simpa using V,by
       have hcl:l.length=K.length*s'.size:=by rw [<- U.length,bU]
       rw [<- hcl]; simp⟩⟩,U⟩ (fun g' i=>by
        simp only [ob] at i;split at i
        ·simp at i
        simp at i; subst i; exact ⟨_,h2,rfl⟩)
      exact ⟨v,d,C,k,D,I,J,Z,b⟩
     rw [h2] at B; cases B
    cases h
   cases h
  cases h
 ·-- a row's beginning
  rename_i id len;split at h
  ·rename_i e' s' K W;split at h
   ·rename_i hss;subst hss;split at h
    ·rename_i A;cases h;simp only [Bool.and_eq_true] at A;have he:=aaF A.2;subst he;have c:=hob _ (aaZ _);rcases bE hR W with ⟨t,rfl⟩ | ⟨g,o,l,sp,h2,h3,U,V,h6,h7⟩
     ·rcases ha with ⟨_,_,_,_,B,_⟩ | ⟨_,_,rfl,y,rfl⟩
      ·rw [t] at B; cases B
      obtain ⟨v,d,C,k,D,I,J,Z,b⟩:=j id [] ([].take 0) 0 W A.1 rfl (fun _ _=>rfl) c (fun _=>trivial) ⟨[],.inl ⟨rfl,rfl,y,rfl⟩,.nil⟩ (fun g hg=>by cases y <;> simp [ob] at hg);exact ⟨v,d,C,k,D,I,J,Z,b⟩
     rcases ha with ⟨_,_,_,_,B,h9,rfl⟩ | ⟨B,_⟩
     ·rw [h2] at B; cases B;have hlt:(K.take len).length=len:=by simp; omega
      have hcl:l.length=K.length*s'.size:=by rw [<- U.length,bU]
      have hmul:len*s'.size<=K.length*s'.size:=afK _ aE;obtain ⟨v,d,C,k,D,I,J,Z,b⟩:=j id K (K.take len) len W A.1 hlt.symm (fun _ _=>rfl) c (fun _=>trivial) ⟨l.take (len*s'.size),.inr ⟨by rw [List.length_take]; omega,.inr ⟨g,o,_,by rw [ajp,ajg],af3 _,h3,aE,h7,by simpa using V,by
       rw [List.toList_toArray,afQ aE]⟩⟩,bC U len⟩ (fun g' i=>by
        simp only [ob] at i;split at i
        ·simp at i
        simp at i; subst i; exact ⟨_,h2,rfl⟩)
      exact ⟨v,d,C,k,D,I,J,Z,b⟩
     rw [h2] at B; cases B
    cases h
   cases h
  cases h
 cases h
def jY (hT:bh P G.shp T) (D:Rep G ρ H w) (K:FrR (cx G ρ w) ρ fr F) {vb:Value} (h:kg T ro fr H t a b=some r) (l:∀ p ∈ r.ob,p) (i:Rd (cx G ρ w) ρ a va) (L:Rd (cx G ρ w) ρ b vb) (N:ev F x=some va) (Q:ev F y=some vb) :
  ∃ v j,aF P n F w (.call { callee:=.builtin .append,args:=#[x,y],argTypes:=#[t,t] }) ty v j /\ eN G ro ρ w r F v j:=by
 unfold kg at h;split at h
 ·rename_i e s sz z o;obtain ⟨S,U⟩:=(hT _ _ o).2;obtain ⟨d,⟨V,W,q⟩,_⟩:=U s rfl;have u:V.length=s.size:=by
   have:=(jQ (c:=cx G ρ w) (ρ:=ρ) q).length;rw [cY] at this; exact this.symm
  split at h
  ·rename_i I B;obtain ⟨A,k,X,rfl,Y,Z,O,s4⟩:=oB D B L;refine mA (ty:=ty) D K d s4 (fun m J f g=>?_) h l i;have C:m+I.length<=9223372036854775807:=by
    have:=ag5 (m+I.length) (gN s);omega
   obtain ⟨v',j,h1,h2⟩:=Ax (P:=P) (w:=w) (ty:=ty) (cy:=k) S W u (size_pos s) (lo:=0) (af3 _) f Y Z O g C;exact ⟨v',j,fun a _ _ _ _ i=>by simp [execOp,resolve,invoke,builtin,i.ev N,i.ev Q,h1],h2⟩
  cases h
 cases h
variable {t':TypeId}
def rM {z:List Value} (Y:P.underlying t=some (.slice e)) (B:P.underlying t' = some .string) (O:(P.info? e).map (fun i=>(i.zero.map Value.cells,i.size,i.bytes))=some (some z.toArray,1,1)) (hz:(P.info? e).bind (·.zero)=some (.int .u8 0))
  {v:Value} {d:List Value} (S:(m=0/\d=[]/\∃ a,v = .slice a 0 0)\/w.ownsRow 0 e 1 v m d) (s:ByteArray) (U:m+s.size<=140737488355328) :
  ∃ A C,(Builtin.append_ #[t,t'] ty #[v,.string s]).run P w = .ok A C /\ ((m+s.size=0/\∃ a,A = .slice a 0 0)\/C.ownsRow 0 e 1 A (m+s.size) (d++Lib.strCells s))/\Kp (ob v) w C /\ (∀ g ∈ ob A,g ∈ ob v\/(g=w.heap.size/\w.heap.size<C.heap.size)):=by
 obtain ⟨i,zv,V,hzv,hzc,K,L⟩:=re O;have p:i.zero=some (.int .u8 0):=by
  rw [V] at hz; exact hz
 have y:m+s.size<=maxLen:=by simp only [maxLen]; omega
 have I:∀ (A:Value) (C:World) (k c:Nat),A = .slice (some ⟨w.heap.size,0,none⟩) k c->C.ownsRow 0 e 1 A k (d++Lib.strCells s)->∀ g ∈ ob A,g ∈ ob v\/(g=w.heap.size/\w.heap.size<C.heap.size):=fun A C k c T f g N=>by
  have h1:=xc N;have h2:=(f.lt _ h1).2;subst T;have h1:w.heap.size=g:=acD h1;exact .inr ⟨h1.symm,aE⟩
 by_cases J:∃ a,v = .slice a 0 0
 ·obtain ⟨Z,rfl⟩:=J;have hm0:m=0/\d=[]:=by
   rcases S with ⟨h1,h2,_⟩ | h1
   ·exact ⟨h1,h2⟩
   have hm:m=0:=by
    rcases h1.2 with ⟨_,n⟩ | ⟨g,l,D,T,_,_,H,_⟩
    ·exact n
    injection T with _ W _; exact W.symm
   refine ⟨hm,acu ?_⟩;rw [h1.1,hm,ajp]
  obtain ⟨rfl,rfl⟩:=hm0;have hob0:∀ g,g ∉ ob (.slice Z 0 0):=fun g N=>by cases Z <;> simp [ob] at N
  by_cases n:s.size=0
  ·refine ⟨.slice Z 0 0,w,?_,.inl ⟨aE,Z,rfl⟩,(Kp.refl w).sub aa,fun g N=>.inl N⟩;have hf:=Lib.run_firstCells_string (P:=P) w 1 s;have H:Lib.strCells s=[]:=acu (by rw [Lib.strCells_length]; exact n);rw [n,H] at hf;cases Z <;> simp [Builtin.append_,run_underlying Y,run_underlying B,sizeOf,typeInfo,V,K,Builtin.lenOf,n,hf,storeCells]
  obtain ⟨A,C,x,f,o,_⟩:=Lib.run_append_own_string (P:=P) w 0 t t' ty e i Y B V p K L (.slice none 0 0) 0 [] (World.ownsRow_nil _ _ _ _) s y U (af3 _);have q:=run_append_nil_string (P:=P) w t t' ty e i (.int .u8 0) Y B V p s aE aE (by rw [L]; omega);rw [x] at q;injection q with W e2;have heq:(Builtin.append_ #[t,t'] ty #[.slice Z 0 0,.string s]).run P w = .ok A C:=by
   cases Z with
   | none=>exact x
   | some b0=>
    rw [Lib.run_append_grow_string (P:=P) w t t' ty e i (.int .u8 0) Y B V p b0 0 0 [] aa aa s aE aE (by rw [L]; exact ajA aE aE),W,e2];have e3:(s.data.map fun b=>Value.int .u8 b.toNat)=(Lib.strCells s).toArray:=by
     apply agd;simp [Lib.strCells]
    simp [e3]
  exact ⟨A,C,heq,.inr (by simpa using f),⟨o.os,o.tape,o.output,o.size,fun b hb _=>o.block b hb (by simp [Value.ownBlock])⟩,fun g N=>I A C _ _ W (by simpa using f) g N⟩
 have f:w.ownsRow 0 e 1 v m d:=by
  rcases S with ⟨_,_,h⟩ | h1
  ·exact absurd h J
  exact h1
 obtain ⟨A,C,x,Q,o,_⟩:=Lib.run_append_own_string (P:=P) w 0 t t' ty e i Y B V p K L v m d f s y U (af3 _);obtain ⟨g,l,D,rfl,hc0,N,F,G,hl⟩:∃ g l D,v = .slice (some ⟨g,0,none⟩) m l/\l≠0/\w.heap[g]? = some (.cells D e (0,0))/\m<=l/\D.size=l/\(∀ j u,d[j]? = some u->w.cell? ((⟨g,0,none⟩:Addr).add j)=some u):=by
  rcases f.2 with ⟨h,_⟩ | ⟨g,l,D,rfl,_,N,F,_,G,_⟩
  ·exact absurd ⟨none,h⟩ J
  refine ⟨g,l,D,rfl,fun n=>J ⟨some ⟨g,0,none⟩,?_⟩,N,F,by simpa using G,f.cells (g:=g) rfl⟩;subst n;rw [show m=0 by omega]
 have X:ob (.slice (some ⟨g,0,none⟩) m l)=[g]:=by simp [ob,hc0]
 refine ⟨A,C,x,.inr Q,⟨o.os,o.tape,o.output,o.size,fun b hb H=>o.block b hb fun he=>H (by rw [X]; simpa [Value.ownBlock] using he)⟩,?_⟩;by_cases r:m+s.size<=l
 ·have q:=Lib.run_append_room_string (P:=P) w t t' ty e i Y B V K g m l D N s r aE;rw [x] at q;injection q with W e2;intro g' hg';subst W;have h1:=xc hg';have h1:g=g':=acD h1;subst h1;exact .inl (by rw [X]; simp)
 have q:=Lib.run_append_grow_string (P:=P) w t t' ty e i (.int .u8 0) Y B V p ⟨g,0,none⟩ m l d (by rw [K]; exact f.1) hl s aE aE (by rw [L]; exact ajA aE aE);rw [x] at q;injection q with W e2;exact I A C _ _ W Q
def uy (hT:bh P G.shp T) (C:Rep G ρ H w) (D:FrR (cx G ρ w) ρ fr F) {vb:Value} (h:xD T ro fr H t t' a b=some r) (k:∀ p ∈ r.ob,p) (i:Rd (cx G ρ w) ρ a va) (I:Rd (cx G ρ w) ρ b vb) (J:ev F x=some va) (K:ev F y=some vb) :
  ∃ v j,aF P n F w (.call { callee:=.builtin .append,args:=#[x,y],argTypes:=#[t,t'] }) ty v j /\ eN G ro ρ w r F v j:=by
 unfold xD at h;split at h
 ·rename_i e sz z L Z s o c;obtain ⟨N,Q⟩:=(hT _ _ o).2;obtain ⟨d,⟨O,S,U⟩,q⟩:=Q .u8 rfl;have u:=(hT _ _ c).2;cases I with | str hl=>
  have V:Pds (cx G ρ w) (s.b.flatMap (cellsOf .u8)) (Lib.strCells ⟨s.b.toArray⟩):=by
   have:Lib.strCells ⟨s.b.toArray⟩=s.b.map fun b=>Value.int .u8 (b.toNat:Int):=by simp [Lib.strCells]
   rw [this];generalize s.b=l;induction l with
   | nil=>exact .nil
   | cons b l W=>exact .cons .u8 W
  refine mA (ty:=ty) C D d V (fun m A f g=>?_) h k i;obtain ⟨X,j,Y,B⟩:=rM (P:=P) (w:=w) (ty:=ty) N u S (q rfl).2 f ⟨s.b.toArray⟩ (by simpa [Sh.bytes,ByteArray.size] using g);exact ⟨X,j,fun a _ _ _ _ i=>by simp [execOp,resolve,invoke,builtin,i.ev J,i.ev K,Str.val,Y],by rw [show (ByteArray.mk s.b.toArray).size=s.b.length by simp [ByteArray.size]] at B; exact B⟩
 cases h
end
theorem gT {f:Nat->AO}:∀ {l:List Nat} {H:AH},(nc f l H).length=H.length
 | [],_=>rfl
 | i :: r,H=>by rw [nc,gT,acF]
theorem vU {f:Nat->AO} {j:Nat}:∀ {l:List Nat} {H:AH},j<H.length->(nc f l H)[j]? = if j ∈ l then some (f j) else H[j]?
 | [],_,_=>by simp [nc]
 | i :: r,H,a=>by
  rw [nc,vU (by rw [acF]; exact a)];grind
theorem hU {H:AH} {i:Nat}:∀ {l:List Nat},i ∈ rowsOf H l↔i ∈ l/\((∃ t s a,getO H i = .row t s a)\/getO H i = .loc)
 | []=>by simp [rowsOf]
 | j :: r=>by
  unfold rowsOf;split
  ·rename_i t s a h;simp only [acw,hU];grind
  ·rename_i h;simp only [acw,hU];grind
  rename_i b c;simp only [hU];grind
theorem wI {a:Lv}:∀ {l:List Nat},Bm a l=true↔∀ i ∈ l,a.wr i=true/\a.mv i=true
 | []=>by simp [Bm]
 | i :: r=>by simp [Bm,wI]
theorem oO {b:Sh} {o:AO}:∀ {H:AH},tK b H=true->o ∈ H->tK b [o]=true
 | o' :: r,h,hm=>by
  rcases acw.1 hm with rfl | hm
  ·cases o <;> simp only [tK] at h ⊢ <;> simp_all
  exact oO (H:=r) (by cases o' <;> simp only [tK,Bool.and_eq_true] at h <;> first | exact h | exact h.2) hm
variable {H:AH} {b:Sh} {t:TypeId}
def SW {a:List AV} (h:tK b H=true) (c:.box t a ∈ H):ZE b a=true:=by simpa [tK] using oO h c
def Rq {s:Sh} {a:List (den s)} (h:tK b H=true) (c:.row t s a ∈ H):jD (Sh.no 5 b) s.gG=true:=by simpa [tK] using oO h c
def SY {s:Sh} {f:Int->Option (den s)} (h:tK b H=true) (a:.mapo s f ∈ H):jD (Sh.no 5 b) s.gG=true:=by simpa [tK] using oO h a
variable {n:Nat}
def Vp {s:Sh} {a:List (den s)} (h:tK b H=true) (c:.arr t s n a ∈ H):jD (Sh.no 5 b) s.gG=true:=by simpa [tK] using oO h c
theorem Fb {b:Sh}:∀ {l:List (Int × AV)},noM b l=true->∀ q ∈ l,q.2.no b=true
 | (k,a) :: r,h,q,hq=>by
  simp only [noM,Bool.and_eq_true] at h;rcases acw.1 hq with rfl | hq
  ·exact h.1
  exact Fb h.2 q hq
variable {l:List (Int × AV)}
def Of (h:tK b H=true) (a:.mapf l ∈ H):noM b l=true:=by simpa [tK] using oO h a
variable {σ:List Nat} {j:Nat}
def DZ (a:σ.Nodup) (c:j<σ.length):posOf σ[j] σ=j:=by
 have d:=ly (σ:=σ) (afT c);have e:=(aaw.1 d);obtain ⟨g,f⟩:=e;exact (List.getElem_inj a).1 f
def fZ (c:List RE) (σ:List Nat) (a:List RE):List RE:=((List.range c.length).map fun j=>if j ∈ σ then a.getD (posOf j σ) .no else c.getD j .no)++a.drop σ.length
variable {ρ2 ρ:List RE}
theorem j_ (a:j<ρ.length):(fZ ρ σ ρ2)[j]? = some (if j ∈ σ then ρ2.getD (posOf j σ) .no else ρ.getD j .no):=by
 unfold fZ;grind
theorem xf (a:ρ.length<=j):(fZ ρ σ ρ2)[j]? = ρ2[σ.length+(j - ρ.length)]?:=by
 unfold fZ;grind
section
variable {P:Program} {G:Gl} {O:bP} {n:Nat} {F:Fr} {w:World} {ρ:List RE} {H:AH} {fr:AFr} {ro:Lv}
def wz (hO:aA P G.shp O) (hR:Rep G ρ H w) (hf:FrR (cx G ρ w) ρ fr F) {f:Nat} {a:List TV1} {D:List Nat} {vs:List Value} {r:SR}
  (hvs:∀ (G':Gl) (σ:List Nat),G'.shp=G.shp->(cx G ρ w).le (cx G' (dp ρ σ) w)->(∀ i ∈ qF a,i ∈ σ)->(∀ id ∈ D,∀ g L len z,ρ[id]? = some (.row g L len z)->(cx G' (dp ρ σ) w).S g)->All2 (di (cx G' (dp ρ σ) w) (dp ρ σ)) (iS (posOf · σ) a) vs)
  (hlent:∀ id ∈ D,∀ r,ρ[id]? = some r->r ≠ .no->(∃ t s xs,getO H id = .row t s xs))
  (h:HH O ro fr H f a D=some r) (hob:∀ p ∈ r.ob,p) :
  (∃ fn,P.funcs[f]? = some fn/\(fn.name == "runtime.NumGoroutine")=false/\fn.body.isNone=false)/\jT P f vs.toArray w fun v X=>eN G ro ρ w r F v X:=by
 unfold HH at h;generalize tG H a=σ at h;simp only at h;split at h
 ·rename_i hck;simp only [Bool.and_eq_true] at hck;obtain ⟨⟨⟨⟨hn,hai⟩,hcl⟩,hno⟩,hge⟩:=hck;split at h
  ·rename_i pre rs H' kp hrs;split at h
   ·rename_i hck2;cases h;simp only [Bool.and_eq_true] at hck2;have hlenH:=afL hck2.1;have hsh:=fU.1 hck2.2;have hai:=jr.1 hai;have hno:=mL.1 hno;have hge:=wI.1 hge;have hnd:=jX.1 hn;have hclo:=iJ.1 hcl;let lt:Nat->Prop:=fun b=>∃ id ∈ D,∃ rr,ρ[id]? = some rr/\rr.g? = some b
    let Z':Nat->Prop:=fun b=>G.Z b\/(live ρ b/\¬ live (dp ρ σ) b/\¬ lt b)
    have hsub:∀ (b i:Nat) (r:RE),ρ[i]? = some r->r.g? = some b->live (dp ρ σ) b->i ∈ σ:=by
     rintro b i r m d ⟨j,r2,K,h4⟩;have e:=fy K (by rintro rfl; cases h4);have e2:=hR.inj _ _ _ _ b m e d h4;have hj:j<σ.length:=by simpa [dp] using (aaw.1 K).1
     have a1:σ.getD j 0=σ[j]:=by rw [List.getD_eq_getElem?_getD,List.getElem?_eq_getElem hj]; rfl
     rw [e2,a1]; exact afT _
    have hltσ:∀ b,lt b->¬ live (dp ρ σ) b:=by
     rintro b ⟨id,hid,rr,m,d⟩ hl;exact hno id hid (hsub b id rr m d hl)
    obtain ⟨hR',hle⟩:=hR.sub (σ:=σ) (Z':=Z') hn hcl (fun b I=>I.elim (hR.z b) fun ⟨⟨i,r,m,d⟩,_⟩=>(hR.bnd i r b m d).2.1) (fun b m d hz=>hz.elim m fun K=>d K.1)
     (fun b m hz=>hz.elim (fun d=>by obtain ⟨i,r,K,h4⟩:=gr m; exact (hR.bnd i r b K h4).2.2 d) fun d=>d.2.1 m)
    obtain ⟨hfn,hrun⟩:=hO _ _ _ _ hrs hob;refine ⟨hfn,?_⟩;have hargs:=hvs ⟨G.shp,G.B0,Z'⟩ σ rfl hle hai fun id hid g L len z m=>by
     have hl:lt g:=⟨id,hid,_,m,rfl⟩;have I:=hR.bnd _ _ g m rfl;exact ⟨I.2.1,hltσ g hl,fun hz=>hz.elim I.2.2 fun d=>d.2.2 hl⟩
    refine (hrun ⟨G.shp,G.B0,Z'⟩ _ w vs rfl hR' hargs).mono fun v X ⟨us,hv,ρ2,hR2,J,hbx2,hrs',_⟩=>?_;have hl2:H'.length=ρ2.length:=hR2.obj.length;have hHρ:H.length=ρ.length:=hR.obj.length;have N:∀ {j:Nat},j<σ.length->fV H σ j=σ.getD j 0:=fun {j} hj=>by
     unfold fV;have:Nat.ble σ.length j=false:=by rw [<- Bool.not_eq_true,Nat.ble_eq]; omega
     rw [this]; rfl
    have Q:∀ {j:Nat},σ.length<=j->fV H σ j=H.length+(j - σ.length):=fun {j} hj=>by
     unfold fV;have:Nat.ble σ.length j=true:=by rw [Nat.ble_eq]; exact hj
     rw [this]; rfl
    have hσlt:∀ i ∈ σ,i<ρ.length:=fun i hi=>by rw [<- hHρ]; exact (hclo i hi).1
    have hτ:∀ (j:Nat) (r:RE),ρ2[j]? = some r->(fZ ρ σ ρ2)[fV H σ j]? = some r:=fun j r hj=>by
     by_cases hjn:j<σ.length
     ·rw [N hjn];have a1:σ.getD j 0=σ[j]:=by rw [List.getD_eq_getElem?_getD,List.getElem?_eq_getElem hjn]; rfl
      rw [a1,j_ (hσlt _ (afT hjn)),if_pos (afT hjn),DZ hnd hjn,getD_some hj]
     rw [Q aE,xf aE,hHρ,<- hj];congr 1; omega
    have hmix:∀ (i:Nat) (r:RE) (g:Nat),(fZ ρ σ ρ2)[i]? = some r->r.g? = some g->(i<ρ.length/\i ∉ σ/\ρ[i]? = some r)\/∃ j,ρ2[j]? = some r/\fV H σ j=i:=fun i r g m d=>by
     by_cases hi:i<ρ.length
     ·rw [j_ hi] at m;by_cases Y:i ∈ σ
      ·rw [if_pos Y] at m;cases m;have hp:=ly Y;obtain ⟨hpl,hpe⟩:=aaw.1 hp;refine .inr ⟨posOf i σ,?_,?_⟩
       ·cases hq:ρ2[posOf i σ]? with
        | none=>rw [List.getD_eq_getElem?_getD,hq] at d; cases d
        | some r'=>rw [getD_some hq]
       rw [N hpl,List.getD_eq_getElem?_getD,hp]; rfl
      rw [if_neg Y] at m;cases m;have:ρ[i]? = some ρ[i]:=List.getElem?_eq_getElem hi;exact .inl ⟨hi,Y,by rw [getD_some this]; exact this⟩
     rw [xf aE] at m;refine .inr ⟨σ.length+(i - ρ.length),m,?_⟩;rw [Q aE,hHρ]; omega
    have hτinj:∀ (j j':Nat),j<ρ2.length->j' < ρ2.length->fV H σ j=fV H σ j' -> j=j':=fun j j' hj hj' he=>by
     by_cases m:j<σ.length <;> by_cases d:j' < σ.length
     ·rw [N m,N d] at he;rw [List.getD_eq_getElem?_getD,List.getElem?_eq_getElem m,List.getD_eq_getElem?_getD,List.getElem?_eq_getElem d] at he;exact (List.getElem_inj hnd).1 he
     ·rw [N m,Q aE,List.getD_eq_getElem?_getD,List.getElem?_eq_getElem m] at he;have:=(hclo _ (afT m)).1;simp only [ajs] at he; omega
     ·rw [Q aE,N d,List.getD_eq_getElem?_getD,List.getElem?_eq_getElem d] at he;have:=(hclo _ (afT d)).1;simp only [ajs] at he; omega
     rw [Q aE,Q aE] at he; omega
    have hlive2:∀ b,live ρ2 b->live (dp ρ σ) b\/w.heap.size<=b:=fun b hl=>by
     by_cases I:b<w.heap.size
     ·by_cases hs:live (dp ρ σ) b
      ·exact .inl hs
      exact absurd hl (J.old b I hs).1
     exact .inr aE
    have hoth:∀ (i:Nat) (r:RE) (g:Nat),i ∉ σ->ρ[i]? = some r->r.g? = some g->¬ live ρ2 g/\X.heap[g]? = w.heap[g]?:=fun i r g hi m d=>
     J.old g (hR.bnd i r g m d).2.1 fun hl=>hi (hsub g i r m d hl)
    have hlv:∀ b,b<w.heap.size->¬ live ρ b->¬ live (fZ ρ σ ρ2) b:=fun b I hl ⟨i,r,m,d⟩=>by
     rcases hmix i r b m d with ⟨_,_,K⟩ | ⟨j,K,_⟩
     ·exact hl ⟨i,r,K,d⟩
     rcases hlive2 b ⟨j,r,K,d⟩ with h4 | h4
     ·exact hl (gr h4)
     omega
    have hext:Ext ρ w (fZ ρ σ ρ2) X:=⟨J.os,J.tape,J.output,J.size,fun b I hl=>⟨hlv b I hl,(J.old b I fun h=>hl (gr h)).2⟩⟩;have B:=hext.le hR.lo;have hstp:Stp ro ρ w (fZ ρ σ ρ2) X:=by
     refine ⟨hext,fun i r hi W=>?_,fun i r hi W=>?_,fun i g hi=>?_⟩
     ·have him:i ∉ σ:=fun Y=>by have:=(hge i Y).2; rw [hi] at this; cases this
      rw [j_ (aaw.1 W).1,if_neg him,getD_some W]
     ·have him:i ∉ σ:=fun Y=>by have:=(hge i Y).1; rw [hi] at this; cases this
      have hil:=(aaw.1 W).1;refine ⟨?_,fun g hg=>(hoth i r g him W hg).2⟩;rw [j_ hil,if_neg him,getD_some W]
     have hil:=(aaw.1 hi).1;rw [j_ hil];by_cases Y:i ∈ σ
     ·rw [if_pos Y];have:=hbx2 (posOf i σ) g (ir Y hi);rw [getD_some this]
     rw [if_neg Y,getD_some hi]
    have hag:∀ (i:Nat) (r:RE),(i ∉ σ\/∃ g,r = .blk g)->ρ[i]? = some r->(fZ ρ σ ρ2)[i]? = some r:=fun i r hh W=>by
     rcases hh with hh | ⟨g,rfl⟩
     ·rw [j_ (aaw.1 W).1,if_neg hh,getD_some W]
     exact hstp.bx i g W
    have hcap:∀ q v,dY ρ q v->dY (fZ ρ σ ρ2) q v:=fun q v ⟨g,m,d⟩=>⟨g,hag _ _ (.inr ⟨g,rfl⟩) m,d⟩;have hrow:∀ (i:Nat) (r:RE),ρ[i]? = some r->(r = .emp\/∃ g L len z,r = .row g L len z)->cd i (rowsOf H σ)=false->i ∉ σ:=fun i r m d K Y=>by
     have hlt:=(hclo i Y).1;obtain ⟨r',hr',C⟩:=hR.at_ (List.getElem?_eq_getElem hlt);rw [m] at hr'; cases hr';have hO:getO H i=H[i]:=by unfold getO; rw [List.getD_eq_getElem?_getD,List.getElem?_eq_getElem hlt]; rfl
     cases U:H[i] with
     | gone=>rw [U] at C; rcases d with rfl | ⟨_,_,_,_,rfl⟩ <;> cases C
     | box t cs=>rw [U] at C; obtain ⟨g,_,e,_⟩:=C; subst e; rcases d with d | ⟨_,_,_,_,d⟩ <;> cases d
     | mapo s f=>rw [U] at C; obtain ⟨g,e,_⟩:=C; subst e; rcases d with d | ⟨_,_,_,_,d⟩ <;> cases d
     | loc=>
      have:i ∈ rowsOf H σ:=hU.2 ⟨Y,.inr (by rw [hO,U])⟩;rw [bw.2 this] at K; cases K
     | mapf l=>rw [U] at C; obtain ⟨g,e,_⟩:=C; subst e; rcases d with d | ⟨_,_,_,_,d⟩ <;> cases d
     | arr t s n xs=>rw [U] at C; obtain ⟨g,_,e,_⟩:=C; subst e; rcases d with d | ⟨_,_,_,_,d⟩ <;> cases d
     | row t s xs=>
      have:i ∈ rowsOf H σ:=hU.2 ⟨Y,.inl ⟨t,s,xs,by rw [hO,U]⟩⟩;rw [bw.2 this] at K; cases K
    have hrd:∀ a v,Rd (cx G ρ w) ρ a v->Rd (cx G (fZ ρ σ ρ2) X) (fZ ρ σ ρ2) (a.cr (rowsOf H σ)) v:=by
     intro a v h;cases a with
     | own j=>
      simp only [AV.cr];cases I:cd j (rowsOf H σ)
      ·rcases h with ⟨g,L,len,z,h,e⟩ | ⟨h,e⟩
       ·exact .inl ⟨g,L,len,z,hag _ _ (.inl (hrow j _ h (.inr ⟨_,_,_,_,rfl⟩) I)) h,e⟩
       exact .inr ⟨hag _ _ (.inl (hrow j _ h (.inl rfl) I)) h,e⟩
      exact Rd.one h
     | sub j o k=>
      simp only [AV.cr];cases I:cd j (rowsOf H σ)
      ·rcases h with ⟨g,L,len,z,h,e⟩ | ⟨h,e⟩
       ·exact .inl ⟨g,L,len,z,hag _ _ (.inl (hrow j _ h (.inr ⟨_,_,_,_,rfl⟩) I)) h,e⟩
       exact .inr ⟨hag _ _ (.inl (hrow j _ h (.inl rfl) I)) h,e⟩
      exact Rd.one h
     | elp j k o=>
      simp only [AV.cr];cases I:cd j (rowsOf H σ)
      ·obtain ⟨g,L,len,z,h,e⟩:=h;exact ⟨g,L,len,z,hag _ _ (.inl (hrow j _ h (.inr ⟨_,_,_,_,rfl⟩) I)) h,e⟩
      exact Rd.one h
     | ptr j o=>exact hcap _ _ h
     | mq j=>
      obtain ⟨g,m,e⟩:=h;exact ⟨g,hag _ _ (.inr ⟨g,rfl⟩) m,e⟩
     | fn f b cs=>
      obtain ⟨bs,us,m,d,e⟩:=h;exact ⟨bs,us,m.imp fun _ _ h=>hcap _ _ h,d.imp fun _ _ h=>hcap _ _ h,e⟩
     | fe s' x o=>
      obtain ⟨A,T,m,d,K,e⟩:=h;exact ⟨A,T,(B.S _ m).1,d.keep (B.S _ m).2,K.carry B,e⟩
     | np=>exact h
     | nf=>exact h
     | yl l=>exact h
     | xx k cs=>
      obtain ⟨us,m,d⟩:=h;exact ⟨us,m.imp fun _ _ h=>hcap _ _ h,d.le B⟩
     | dead=>exact h
     | int n=>exact Pd.carry h B
     | u8 b=>exact Pd.carry h B
     | u64 n=>exact Pd.carry h B
     | bool e=>exact Pd.carry h B
     | str s=>exact Pd.carry h B
     | em b=>exact Pd.carry h B
     | li nw xs=>exact Pd.carry h B
     | fz s xs=>exact Pd.carry h B
    have hS:∀ b,(cx ⟨G.shp,G.B0,Z'⟩ ρ2 X).S b->(cx G (fZ ρ σ ρ2) X).S b\/(¬ b<G.B0/\∃ sb ∈ fx H D,∃ cur t fr,X.heap[b]? = some (.cells cur t fr)/\G.shp t=some sb):=by
     rintro b ⟨m,d,K⟩;by_cases hl:live (fZ ρ σ ρ2) b
     ·right;obtain ⟨i,r,h4,h5⟩:=hl;rcases hmix i r b h4 h5 with ⟨_,him,h6⟩ | ⟨j,h6,_⟩
      ·have hnl:¬ live (dp ρ σ) b:=fun hh=>him (hsub b i r h6 h5 hh);have hlt:lt b:=by
        by_cases hx:lt b
        ·exact hx
        exact absurd (.inr ⟨⟨i,r,h6,h5⟩,hnl,hx⟩) K
       obtain ⟨id,hid,rr,h7,h8⟩:=hlt;have I:=hR.bnd _ _ b h7 h8;refine ⟨aE,?_⟩;obtain ⟨t,s,xs,hrw⟩:=hlent id hid rr h7 (by rintro rfl; cases h8);refine ⟨s,py hrw hid,?_⟩;have hfc:=dD hR hrw;rcases bE hR hrw with ⟨h9,_⟩ | ⟨g,L,T,sp,h9,h10,_⟩
       ·rw [h7] at h9; cases h9; cases h8
       rw [h7] at h9; cases h9; cases h8;have hids:id ∉ σ:=hno id hid;exact ⟨_,t,(0,0),(hoth id _ _ hids h7 rfl).2.trans h10,hfc.1⟩
      exact absurd ⟨j,r,h6,h5⟩ d
     left; exact ⟨m,hl,fun hz=>K (.inl hz)⟩
    have hpd:∀ {b:AV} {u:Value},Pd (cx ⟨G.shp,G.B0,Z'⟩ ρ2 X) b u->(∀ sb ∈ fx H D,VZ 5 sb b=true)->Pd (cx G (fZ ρ σ ρ2) X) b u:=fun I hn=>Pd.Qx (c:=cx ⟨G.shp,G.B0,Z'⟩ ρ2 X) (c':=cx G (fZ ρ σ ρ2) X) (fx H D) rfl rfl rfl hS I 5 hn;have htake:∀ (a:AV) (u:Value),(∀ b ∈ fx H D,a.no b=true)->Rd (cx ⟨G.shp,G.B0,Z'⟩ ρ2 X) ρ2 a u->Rd (cx G (fZ ρ σ ρ2) X) (fZ ρ σ ρ2) (a.lR (fV H σ)) u:=fun a u hno5 hu=>by
     refine Rd.lR (fun _ hp=>hpd hp fun sb hsb=>Nl (hno5 sb hsb)) (fun s x o e=>?_) (fun k cs us e h=>h.unl (c:=cx ⟨G.shp,G.B0,Z'⟩ ρ2 X) (c':=cx G (fZ ρ σ ρ2) X) rfl rfl rfl hS fun sb hsb=>e ▸ hno5 sb hsb) (fun i hi r W _=>hτ i r W) hu;subst e;have hnil:fx H D=[]:=by
      cases hq:fx H D with
      | nil=>rfl
      | cons b l=>have:=hno5 b (by rw [hq]; simp); simp [AV.no] at this
     rw [hnil] at hS;have hS':(cx ⟨G.shp,G.B0,Z'⟩ ρ2 X).le (cx G (fZ ρ σ ρ2) X):=⟨rfl,rfl,fun b I=>⟨(hS b I).resolve_right fun ⟨_,sb,h,_⟩=>by simp at h,rfl⟩,fun _ _ _=>rfl⟩;obtain ⟨A,T,k1,k2,k3,e⟩:=hu;exact ⟨A,T,(hS'.S _ k1).1,k2,k3.carry hS',e⟩
    have hobj:∀ (j:Nat) (o:AO) (r:RE),H'[j]? = some o->ρ2[j]? = some r->OR (cx G (fZ ρ σ ρ2) X) (fZ ρ σ ρ2) (o.lR (fV H σ)) r:=fun j o r U W=>by
     obtain ⟨r',hr',C⟩:=hR2.at_ U;rw [W] at hr'; cases hr';have hmem:o ∈ H':=acA U;have hnoO:∀ b ∈ fx H D,tK b H' = true:=fun b I=>by have:=hsh b I; simp only [Bool.and_eq_true] at this; exact this.2
     cases o with
     | gone=>exact C
     | mapo s f=>
      obtain ⟨g,rfl,a,n,k1,k2,k3⟩:=C;refine ⟨g,rfl,a,n,k1,k2,fun k=>?_⟩;have k4:=k3 k;cases hg:getM k a.toList <;> cases hf:f k <;> rw [hg,hf] at k4
      ·trivial
      ·exact k4
      ·exact k4
      rename_i v x;obtain ⟨us,k5,k6⟩:=k4;refine ⟨us,Pds.of (cA k5.length fun i a u ha hu=>?_),k6⟩;obtain ⟨u',hu',hau⟩:=dQ k5.all i a ha;rw [hu] at hu'; cases hu';refine hpd hau fun sb hsb=>?_;have hns:=fU.1 (SY (hnoO sb hsb) hmem);cases a with
      | fz s' ys=>exact hns s' (jF (acA ha))
      | li nw ys=>exact hns .int (jW (acA ha))
      | _=>rfl
     | box t cs=>
      obtain ⟨g,vs',rfl,m,d⟩:=C;exact ⟨g,vs',rfl,m,ou (fun a ha u hu=>htake a u (fun b I=>xz.1 (SW (hnoO b I) hmem) a ha) hu) d⟩
     | loc=>trivial
     | mapf l=>
      obtain ⟨g,rfl,h⟩:=C;exact ⟨g,rfl,h.map (g0:=fun a=>a.lR (fV H σ)) (qH l) (fun q hq u hu=>htake q.2 u (fun b I=>Fb (Of (hnoO b I) hmem) q hq) hu) rfl⟩
     | arr t s n xs=>
      obtain ⟨g,vs',rfl,h4,h5,h6⟩:=C;refine ⟨g,vs',rfl,h4,?_,h6⟩;refine Pds.of (cA h5.length fun i a u ha hu=>?_);obtain ⟨u',hu',hau⟩:=dQ h5.all i a ha;rw [hu] at hu'; cases hu';refine hpd hau fun sb hsb=>?_;have hns:=fU.1 (Vp (hnoO sb hsb) hmem);have V:=acA ha;rw [List.mem_flatMap] at V;obtain ⟨y,_,hy⟩:=V;cases a with
      | fz s' ys=>exact hns s' (jF hy)
      | li nw ys=>exact hns .int (jW hy)
      | _=>rfl
     | row t s xs=>
      obtain ⟨m,d,K⟩:=C;refine ⟨m,d,K.imp id fun ⟨g,L,T,sp,e,h4,h5,h6⟩=>⟨g,L,T,sp,e,h4,?_,h6⟩⟩;refine Pds.of (cA h5.length fun i a u ha hu=>?_);obtain ⟨u',hu',hau⟩:=dQ h5.all i a ha;rw [hu] at hu'; cases hu';refine hpd hau fun sb hsb=>?_;have hns:=fU.1 (Rq (hnoO sb hsb) hmem);have V:=acA ha;rw [List.mem_flatMap] at V;obtain ⟨y,_,hy⟩:=V;cases a with
      | fz s' ys=>exact hns s' (jF hy)
      | li nw ys=>exact hns .int (jW hy)
      | _=>rfl
    refine ⟨fZ ρ σ ρ2,hstp,⟨?_,?_,?_,fun b I=>acv (hR.z b I) hext.size,Nat.le_trans hR.b0 hext.size,hR.tb.carry (hext.le hR.lo)⟩,tV hrd hf,?_,Vl.oQ hrs'⟩
    ·-- the objects
     refine cA ?_ fun i o r U W=>?_
     ·simp only [List.length_append,gT,fg,kX,List.length_drop,fZ,List.length_map,ajw];omega
     by_cases hi:i<H.length
     ·rw [List.getElem?_append_left (by rw [gT,fg]; exact hi),vU (by rw [fg]; exact hi)] at U;rw [j_ aE] at W;by_cases Y:i ∈ σ
      ·rw [if_pos Y] at U W;cases U; cases W;obtain ⟨hpl,_⟩:=aaw.1 (ly Y);have hp2:posOf i σ<H'.length:=by omega
       have e1:H'[posOf i σ]? = some H'[posOf i σ]:=List.getElem?_eq_getElem hp2;have e2:ρ2[posOf i σ]? = some (ρ2[posOf i σ]' aE):=List.getElem?_eq_getElem aE;have e3:H'.getD (posOf i σ) .gone=H'[posOf i σ]:=by rw [List.getD_eq_getElem?_getD,e1]; rfl
       rw [e3,getD_some e2];exact hobj _ _ _ e1 e2
      rw [if_neg Y] at U W;cases W;rw [lQ,aeB] at U;obtain ⟨o',ho',rfl⟩:=U;obtain ⟨r',hr',C⟩:=hR.at_ ho';rw [getD_some hr'];exact C.map B hrd fun g hg=>(hoth i r' g Y hr' hg).2
     rw [afS (by rw [gT,fg]; omega),gT,fg] at U;rw [xf aE] at W;have hil:σ.length+(i - H.length)<H'.length:=by
      have:=(aaw.1 U).1;simp only [kX,List.length_drop] at this; omega
     have hx:(H'.drop σ.length)[i - H.length]? = some H'[σ.length+(i - H.length)]:=by
      rw [aeb]; exact List.getElem?_eq_getElem hil
     rw [qQ hx] at U;have U:=acD U;subst U;refine hobj (σ.length+(i - H.length)) _ r (List.getElem?_eq_getElem hil) ?_;rw [hHρ]; exact W
    ·intro i i' r r' g m d K h4;rcases hmix i r g m K with ⟨a1,a2,a3⟩ | ⟨j,a3,a4⟩ <;> rcases hmix i' r' g d h4 with ⟨b1,b2,b3⟩ | ⟨j',b3,b4⟩
     ·exact hR.inj _ _ _ _ g a3 b3 K h4
     ·exact absurd ⟨j',r',b3,h4⟩ (hoth i r g a2 a3 K).1
     ·exact absurd ⟨j,r,a3,K⟩ (hoth i' r' g b2 b3 h4).1
     rw [<- a4,<- b4,hR2.inj _ _ _ _ g a3 b3 K h4]
    ·intro i r g m d;rcases hmix i r g m d with ⟨_,_,a3⟩ | ⟨j,a3,_⟩
     ·have:=hR.bnd i r g a3 d;exact ⟨this.1,acv this.2.1 hext.size,this.2.2⟩
     have:=hR2.bnd j r g a3 d;exact ⟨this.1,this.2.1,fun hz=>this.2.2 (.inl hz)⟩
    have hback:All2 (di (cx G (fZ ρ σ ρ2) X) (fZ ρ σ ρ2)) (iS (fV H σ) rs) us:=by
     refine lJ (fun t ht a ha u hu=>htake a u (fun b I=>?_) hu) hrs';have:=hsh b I;simp only [Bool.and_eq_true] at this;exact xm.1 this.1 t ht a ha
    subst hv;show Rt _ _ (JW (iS (fV H σ) rs)) (Cq us);generalize iS (fV H σ) rs=rs' at hback ⊢;cases hback with
    | nil=>exact ⟨[],rfl,.nil⟩
    | @cons t u l us m d=>
     cases d with
     | nil=>exact m
     | cons K h4=>exact ⟨_,rfl,.cons m (.cons K h4)⟩
   cases h
  cases h
 cases h
end
section
variable {P:Program} {T:List (Nat × TI)} {G:Gl} {O:bP} {n:Nat} {F:Fr} {w:World} {x y:Operand} {ty t:TypeId} {ρ:List RE} {H:AH} {fr:AFr} {ro:Lv}
variable {r:SR} {vs:List Value} {f:Nat}
def JM (hO:aA P G.shp O) (C:Rep G ρ H w) (hf:FrR (cx G ρ w) ρ fr F) {a:List TV1} (hvs:All2 (di (cx G ρ w) ρ) a vs) (h:KO O fr H f a=some r) (hob:∀ p ∈ r.ob,p) :
  (∃ fn,P.funcs[f]? = some fn/\(fn.name == "runtime.NumGoroutine")=false/\fn.body.isNone=false)/\jT P f vs.toArray w fun v Y=>eN G ro ρ w r F v Y:=by
 unfold KO at h;generalize tG H a=σ at h;simp only at h;split at h
 ·rename_i hck;simp only [Bool.and_eq_true] at hck;obtain ⟨⟨hn,hai⟩,hcl⟩:=hck;split at h
  ·rename_i pre rs H' hrs;split at h
   ·rename_i hlen;cases h;have hlenH:=afL hlen;have hai:=jr.1 hai;have hnd:=jX.1 hn;have hclo:=iJ.1 hcl;let Z':Nat->Prop:=fun b=>G.Z b\/(live ρ b/\¬ live (dp ρ σ) b)
    obtain ⟨hR',y⟩:=C.sub (σ:=σ) (Z':=Z') hn hcl (fun b D=>D.elim (C.z b) fun ⟨⟨i,r,c,d⟩,_⟩=>(C.bnd i r b c d).2.1) (fun b c d hz=>hz.elim c fun L=>d L.1)
     (fun b c hz=>hz.elim (fun d=>by obtain ⟨i,r,L,B⟩:=gr c; exact (C.bnd i r b L B).2.2 d) fun d=>d.2 c)
    obtain ⟨hfn,hrun⟩:=hO _ _ _ _ hrs hob;refine ⟨hfn,?_⟩;have hargs:All2 (di (cx ⟨G.shp,G.B0,Z'⟩ (dp ρ σ) w) (dp ρ σ)) (iS (posOf · σ) a) vs:=by
     refine lJ (fun t ht a ha' v hv=>?_) hvs;refine Rd.lR (fun _ hp=>hp.carry y) (fun s x o e=>?_) (fun _ _ _ _ h=>h.le y) (fun i T r I _=>ir (hai i (kW ht ha' T)) I) hv;subst e;obtain ⟨A,k,k1,k2,k3,e⟩:=hv;exact ⟨A,k,(y.S _ k1).1,k2,k3.carry y,e⟩
    refine (hrun ⟨G.shp,G.B0,Z'⟩ _ w vs rfl hR' hargs).mono fun v Y ⟨us,hv,ρ2,Q,hext2,hbx2,hrs',hkeep⟩=>?_;obtain ⟨hk,U⟩:=hkeep rfl;have hl2:H'.length=ρ2.length:=Q.obj.length;have hHρ:H.length=ρ.length:=C.obj.length;have hnew:∀ (b j:Nat) (r:RE),σ.length<=j->ρ2[j]? = some r->r.g? = some b->w.heap.size<=b:=fun b j r hj c d=>by
     by_cases D:b<w.heap.size
     ·by_cases hs:live (dp ρ σ) b
      ·obtain ⟨i,r',L,B⟩:=hs;have:=Q.inj _ _ _ _ b c (U i r' L) d B;have h6:i<σ.length:=by simpa [dp] using (aaw.1 L).1
       omega
      exact absurd ⟨j,r,c,d⟩ (hext2.old b D hs).1
     omega
    have hN:∀ (i:Nat) (r:RE),ρ[i]? = some r->(ρ++ρ2.drop σ.length)[i]? = some r:=fun i r h=>by
     rw [List.getElem?_append_left (aaw.1 h).1]; exact h
    have hNge:∀ (i:Nat),ρ.length<=i->(ρ++ρ2.drop σ.length)[i]? = ρ2[σ.length+(i - ρ.length)]?:=fun i T=>by
     rw [afS T,aeb]
    have m:∀ (i:Nat) (r:RE) (g:Nat),(ρ++ρ2.drop σ.length)[i]? = some r->r.g? = some g->(i<ρ.length/\ρ[i]? = some r)\/(ρ.length<=i/\ρ2[σ.length+(i - ρ.length)]? = some r/\w.heap.size<=g):=fun i r g c d=>by
     by_cases T:i<ρ.length
     ·rw [List.getElem?_append_left T] at c; exact .inl ⟨T,c⟩
     rw [hNge i aE] at c;exact .inr ⟨aE,c,hnew g _ r aE c d⟩
    have J:Ext ρ w (ρ++ρ2.drop σ.length) Y:=⟨hk.os,hk.tape,hk.output,hk.size,fun b D hl=>⟨fun ⟨i,r,c,d⟩=>(m i r b c d).elim (fun h=>hl ⟨i,r,h.2,d⟩) fun h=>by omega,hk.block b D aa⟩⟩;have V:=J.le C.lo;have hagr:ky ρ (ρ++ρ2.drop σ.length):=fun i r h _=>hN i r h;have hτ:∀ (j:Nat) (r:RE),ρ2[j]? = some r->r ≠ .no->(ρ++ρ2.drop σ.length)[fV H σ j]? = some r:=fun j r hj hne=>by
     unfold fV;by_cases hjn:j<σ.length
     ·have D:Nat.ble σ.length j=false:=by rw [<- Bool.not_eq_true,Nat.ble_eq]; omega
      rw [D];have hs:(dp ρ σ)[j]? = some ((dp ρ σ)[j]'(by simpa [dp] using hjn)):=List.getElem?_eq_getElem _;have c:=U j _ hs;rw [hj] at c;rw [<- acD c] at hs;exact hN _ _ (fy hs hne)
     have D:Nat.ble σ.length j=true:=by rw [Nat.ble_eq]; omega
     rw [D];show (ρ++ρ2.drop σ.length)[H.length+(j - σ.length)]? = some r;rw [hNge _ aE,hHρ,<- hj];congr 1; omega
    have hS:(cx ⟨G.shp,G.B0,Z'⟩ ρ2 Y).le (cx G (ρ++ρ2.drop σ.length) Y):=⟨rfl,rfl,fun b D=>⟨⟨D.1,by
     rintro ⟨i,r,c,d⟩;rcases m i r b c d with ⟨L,B⟩ | ⟨_,B,_⟩
     ·by_cases hs:live (dp ρ σ) b
      ·obtain ⟨j,r',h5,h6⟩:=hs;exact D.2.1 ⟨j,r',U j r' h5,h6⟩
      exact D.2.2 (.inr ⟨⟨i,r,B,d⟩,hs⟩)
     exact D.2.1 ⟨_,r,B,d⟩,fun hz=>D.2.2 (.inl hz)⟩,rfl⟩,fun _ _ _=>rfl⟩
    have N:∀ (a:AV) (u:Value),Rd (cx ⟨G.shp,G.B0,Z'⟩ ρ2 Y) ρ2 a u->Rd (cx G (ρ++ρ2.drop σ.length) Y) (ρ++ρ2.drop σ.length) (a.lR (fV H σ)) u:=fun a u hu=>by
     refine Rd.lR (fun _ hp=>hp.carry hS) (fun s x o e=>?_) (fun _ _ _ _ h=>h.le hS) (fun i T r I hne=>hτ i r I hne) hu;subst e;obtain ⟨A,k,k1,k2,k3,e⟩:=hu;exact ⟨A,k,(hS.S _ k1).1,k2,k3.carry hS,e⟩
    have hobj:∀ (j:Nat) (o:AO) (r:RE),H'[j]? = some o->ρ2[j]? = some r->OR (cx G (ρ++ρ2.drop σ.length) Y) (ρ++ρ2.drop σ.length) (o.lR (fV H σ)) r:=fun j o r ho I=>by
     obtain ⟨r',W,K⟩:=Q.at_ ho;rw [I] at W; cases W;cases o with
     | gone=>exact K
     | loc=>trivial
     | mapo s f=>
      obtain ⟨g,rfl,h⟩:=K;exact ⟨g,rfl,h.carry hS rfl⟩
     | mapf l=>
      obtain ⟨g,rfl,h⟩:=K;exact ⟨g,rfl,h.map (g0:=fun a=>a.lR (fV H σ)) (qH l) (fun q hq u hu=>N q.2 u hu) rfl⟩
     | box t cs=>
      obtain ⟨g,vs',rfl,c,d⟩:=K;exact ⟨g,vs',rfl,c,ou (fun a ha u hu=>N a u hu) d⟩
     | arr t s n xs=>
      obtain ⟨g,vs',rfl,B,h5,h6⟩:=K;exact ⟨g,vs',rfl,B,h5.carry hS,h6⟩
     | row t s xs=>
      obtain ⟨c,d,L⟩:=K;exact ⟨c,d,L.imp id fun ⟨g,cap,k,sp,e,B,h5,h6⟩=>⟨g,cap,k,sp,e,B,h5.carry hS,h6⟩⟩
    refine ⟨ρ++ρ2.drop σ.length,⟨J,fun i r _ I=>hN i r I,fun i r _ I=>⟨hN i r I,fun g hg=>hk.block g (C.bnd i r g I hg).2.1 aa⟩,fun i g T=>hN i _ T⟩,⟨?_,?_,?_,fun b D=>acv (C.z b D) J.size,Nat.le_trans C.b0 J.size,C.tb.carry V⟩,hf.carry V hagr,?_,Vl.oQ hrs'⟩
    ·refine All2.append (cA C.obj.length fun i o r ho I=>?_) (cA (by simp [kX,hl2]) fun i o r ho I=>?_)
     ·obtain ⟨r',W,K⟩:=C.at_ ho;rw [I] at W; cases W;exact K.carry V hagr fun g hg=>hk.block g (C.bnd i r g I hg).2.1 aa
     rw [aeb] at I;have hil:σ.length+i<H'.length:=by
      have:=(aaw.1 I).1; omega
     have hx:(H'.drop σ.length)[i]? = some H'[σ.length+i]:=by
      rw [aeb]; exact List.getElem?_eq_getElem hil
     rw [qQ hx] at ho;have ho:=acD ho;subst ho;exact hobj (σ.length+i) _ r (List.getElem?_eq_getElem hil) I
    ·intro i i' r r' g c d L B;rcases m i r g c L with ⟨a1,a2⟩ | ⟨a1,a2,a3⟩ <;> rcases m i' r' g d B with ⟨b1,b2⟩ | ⟨b1,b2,b3⟩
     ·exact C.inj _ _ _ _ g a2 b2 L B
     ·have:=(C.bnd i r g a2 L).2.1; omega
     ·have:=(C.bnd i' r' g b2 B).2.1; omega
     have:=Q.inj _ _ _ _ g a2 b2 L B; omega
    ·intro i r g c d;rcases m i r g c d with ⟨_,a3⟩ | ⟨_,a3,_⟩
     ·have:=C.bnd i r g a3 d;exact ⟨this.1,acv this.2.1 J.size,this.2.2⟩
     have:=Q.bnd _ r g a3 d;exact ⟨this.1,this.2.1,fun hz=>this.2.2 (.inl hz)⟩
    have X:All2 (di (cx G (ρ++ρ2.drop σ.length) Y) (ρ++ρ2.drop σ.length)) (iS (fV H σ) rs) us:=lJ (fun t ht a ha u hu=>N a u hu) hrs';subst hv;show Rt _ _ (JW (iS (fV H σ) rs)) (Cq us);generalize iS (fV H σ) rs=rs' at X ⊢;cases X with
    | nil=>exact ⟨[],rfl,.nil⟩
    | @cons t u l us c d=>
     cases d with
     | nil=>exact c
     | cons L B=>exact ⟨_,rfl,.cons c (.cons L B)⟩
   cases h
  cases h
 cases h
def JH (X:aA P G.shp O) (Q:Rep G ρ H w) (Y:FrR (cx G ρ w) ρ fr F) {args:List TV1} (Z:All2 (di (cx G ρ w) ρ) args vs) (h:KX O ro fr H f args=some r) (D:∀ p ∈ r.ob,p) :
  (∃ b,P.funcs[f]? = some b/\(b.name == "runtime.NumGoroutine")=false/\b.body.isNone=false)/\jT P f vs.toArray w fun v w'=>eN G ro ρ w r F v w':=by
 unfold KX at h;split at h
 ·rename_i r' hn;cases h;exact JM X Q Y Z hn D
 split at h
 ·rename_i r' j l;cases h;refine wz X Q Y (fun G' σ hs c m hl=>?_) (fun id u r U hne=>mH.1 j id u) l D;refine DQ (fun t V a B v I=>?_) Z;have u:∀ i ∈ (a.vw H).ids,i ∈ σ:=fun i K=>m i (kW (yE V) (AE B) K);by_cases q:∃ id,a = .own id\/∃ o k,a = .sub id o k
  ·obtain ⟨id,J⟩:=q;have L:=si V B J;cases C:a.vw H with
   | fz s xs=>
    refine kU (nE Q c rfl I (fun g n len z ⟨N,W,h1⟩=>?_) C);have e:N = id:=by rcases J with rfl | ⟨o,k,rfl⟩ <;> rcases W with W | ⟨_,_,W⟩ <;> cases W <;> rfl
    subst e;exact hl N L g n len z h1
   | dead=>exact Rd.one I
   | _=>rcases J with rfl | ⟨o,k,rfl⟩ <;> simp only [AV.vw] at C <;> split at C <;> cases C
  have e:a.vw H=a:=by
   cases a <;> first | rfl | exact absurd ⟨_,.inl rfl⟩ q | exact absurd ⟨_,.inr ⟨_,_,rfl⟩⟩ q
  rw [e] at u ⊢;refine Rd.lR (fun _ y=>y.carry c) (fun s x o e=>?_) (fun _ _ _ _ h=>h.le c) (fun i K r U _=>ir (u i K) U) I;subst e;obtain ⟨A,d,T,k2,k3,e⟩:=I;exact ⟨A,d,(c.S _ T).1,k2,k3.carry c,e⟩
 refine wz X Q Y (fun G' σ hs c m hl=>?_) aa h D;refine lJ (fun t V a B v I=>?_) Z;refine Rd.lR (fun _ y=>y.carry c) (fun s x o e=>?_) (fun _ _ _ _ h=>h.le c) (fun i K r U _=>ir (m i (kW V B K)) U) I;subst e;obtain ⟨A,d,T,k2,k3,e⟩:=I;exact ⟨A,d,(c.S _ T).1,k2,k3.carry c,e⟩
theorem Mg {c:Cx} {s:Sh} {z:List Value} (a:All2 (Rd c ρ) (cellsOf s (au s)) z) (e:s.size=1):∀ m:Nat,Pds c ((List.replicate m (au s)).flatMap (cellsOf s)) (List.replicate m (z.headD undef)):=by
 have g:=jH (qm s _) a;have d:=a.length;rw [cY,e] at d;obtain ⟨u,rfl⟩:∃ u,z=[u]:=by
  cases z with
  | nil=>simp at d
  | cons u r=>
   grind
 intro m;induction m with
 | zero=>exact .nil
 | succ m h=>
  exact g.append h
variable {z:Operand}
def Jp (hT:bh P G.shp T) (hR:Rep G ρ H w) (U:FrR (cx G ρ w) ρ fr F) {y:Operand} (h:Qh T ro fr H t x y z=some r) :
  ∃ C,(gZ P n F w (.insert t x y z) ty C /\ gZ P n F w (.mapUpdate t x y z) ty C)/\eN G ro ρ w r F undef C:=by
 unfold Qh at h;split at h
 ·rename_i s id k v Z hx hy hz;split at h
  ·rename_i O f hO2;split at h
   ·rename_i hss;subst hss;split at h
    ·rename_i x' q I J hfz;cases h;simp only [Bool.and_eq_true,Bool.not_eq_true',<- Bool.not_eq_true,bw] at I;obtain ⟨⟨hro,o⟩,K⟩:=I;obtain ⟨hm,hk,_⟩:=(hT _ _ Z).2;obtain ⟨va,h1,g,hg,rfl⟩:=aq U hx;obtain ⟨vb,h3,h4⟩:=aq U hy;cases h4 with | int=>
     obtain ⟨V,h5,D⟩:=aq U hz;have L:=bM hO2 aa;obtain ⟨r',m,hor⟩:=hR.at_ L;rw [hg] at m; cases m;obtain ⟨g',e,a,c,k1,k2,k3⟩:=hor;cases e;obtain ⟨p,j1,j2,W,j4,j5,j6,j7,j8⟩:=pO (ro:=ro) hfz hR U;obtain ⟨C,a',c',hsk,d,hg',hl',N⟩:=UY (P:=P) (n:=n) (ty:=ty) h1 h3 h5 hm hk k1 k2;have u:p[id]? = some (.blk g):=by rw [j8 id K]; exact hg
     have hH1:q.2[id]? = some (.mapo O f):=j7 id _ K L aa;have Q:Ext p w p C:=⟨d.os,d.tape,d.output,d.size,fun b hb hl=>⟨hl,d.block b hb (by
      simp only [acr];rintro rfl;exact hl ⟨id,_,u,rfl⟩)⟩⟩
     have A:=Q.le W.lo;have hV:V1 (cx G p C) O x' V:=by
      cases v with
      | c a=>
       have D:Rd (cx G ρ w) ρ a V:=D;have:=aK J (j6 [a] [V] (fun i hi=>hi) (.cons D .nil));refine ⟨[V],this.carry A,.inr ⟨?_,rfl⟩⟩;simpa [nM] using o
      | agg l=>
       obtain ⟨us,e,D⟩:=D;have:=aK J (j6 l us (fun i hi=>hi) D);exact ⟨us,this.carry A,.inl ⟨o,e⟩⟩
     have B:=W.put hH1 u rfl d (o':=.mapo O fun j=>if j=k then some x' else f j) ⟨g,rfl,a',c',hg',hl',fun q=>by
      rw [N q];show VO _ _ _ (if q=k then some x' else f q);by_cases X:q=k
      ·rw [if_pos X,if_pos X]; exact hV
      rw [if_neg X,if_neg X];have Y:=k3 q;cases hgm:getM q a.toList <;> cases hfk:f q <;> rw [hgm,hfk] at Y
      ·trivial
      ·exact Y
      ·exact Y
      exact V1.carry Y (j2.trans A)⟩
     refine ⟨C,hsk,p,j1.trans ⟨B.2,fun _ _ _ h=>h,fun j r' hj m=>⟨m,fun gx S=>d.block gx (W.bnd j r' gx m S).2.1 ?_⟩,fun _ _ h=>h⟩,B.1,j4.carry A (ky.refl _),trivial,aa⟩;simp only [acr];rintro rfl;have:=W.inj j id _ _ _ m u S rfl;subst this; rw [hro] at hj; cases hj
    cases h
   cases h
  cases h
 cases h
def Dk (hT:bh P G.shp T) (s:Rep G ρ H w) (C:FrR (cx G ρ w) ρ fr F) {y:Operand} (h:Mr T ro fr H t x y z=some r) :
  ∃ p,(gZ P n F w (.insert t x y z) ty p /\ gZ P n F w (.mapUpdate t x y z) ty p)/\eN G ro ρ w r F undef p:=by
 unfold Mr at h;split at h
 ·rename_i id k a K hx hy hz;split at h
  ·rename_i l L;split at h
   ·rename_i N;cases h;obtain ⟨hm,hk,_⟩:=(hT _ _ K).2;obtain ⟨va,h1,g,D,rfl⟩:=aq C hx;obtain ⟨vb,h3,h4⟩:=aq C hy;cases h4 with | int=>
    obtain ⟨vz,h5,h6⟩:=aq C hz;have u:=bM L aa;obtain ⟨Z,i,Q⟩:=s.at_ u;rw [D] at i; cases i;obtain ⟨g',e,a',c,k1,k2,k3⟩:=Q;cases e;obtain ⟨p,S,c',U,d,V,W,v⟩:=UY (P:=P) (n:=n) (ty:=ty) h1 h3 h5 hm hk k1 k2;have A:Ext ρ w ρ p:=⟨d.os,d.tape,d.output,d.size,fun b hb f=>⟨f,d.block b hb (by
     simp only [acr];rintro rfl;exact f ⟨id,_,D,rfl⟩)⟩⟩
    have o:=A.le s.lo;have m:=s.put u D rfl d (o':=.mapf ((k,a) :: l)) ⟨g,rfl,S,c',V,W,fun q=>by
     rw [v q];simp only [lookF];by_cases I:q=k
     ·rw [if_pos I,if_pos I]; exact Rd.carry h6 o (ky.refl _)
     rw [if_neg I,if_neg I];have J:=k3 q;cases X:getM q a'.toList <;> cases Y:lookF q l <;> rw [X,Y] at J
     ·trivial
     ·exact J
     ·exact J
     exact Rd.carry J o (ky.refl _)⟩
    refine ⟨p,U,ρ,⟨m.2,fun _ _ _ h=>h,fun j Z O i=>⟨i,fun gx B=>d.block gx (s.bnd j Z gx i B).2.1 ?_⟩,fun _ _ h=>h⟩,m.1,C.carry o (ky.refl _),trivial,aa⟩;simp only [acr];rintro rfl;have:=s.inj j id _ _ _ i D B rfl;subst this; rw [N] at O; cases O
   cases h
  cases h
 cases h
def sX (hT:bh P G.shp T) (d:Rep G ρ H w) (e:FrR (cx G ρ w) ρ fr F) {y:Operand} (h:Ew T ro fr H t x y z=some r) :
  ∃ a,(gZ P n F w (.insert t x y z) ty a /\ gZ P n F w (.mapUpdate t x y z) ty a)/\eN G ro ρ w r F undef a:=by
 unfold Ew at h;split at h
 ·rename_i g c;cases h;exact Jp hT d e c
 exact Dk hT d e h
def Vs (hT:bh P G.shp T) (hO:aA P G.shp O) (D:Rep G ρ H w) (B:FrR (cx G ρ w) ρ fr F) {op:Op} (h:svB T O ro fr H op=some r) (I:∀ p ∈ r.ob,p):eK P n F w op ty (eN G ro ρ w r F):=by
 cases op <;> simp only [svB] at h;case box t x=>
  split at h
  ·rename_i v hx;cases h;obtain ⟨u,C,d⟩:=aq B hx;obtain ⟨us,L,N⟩:=di.cells d;exact .inl (.inl ⟨_,_,R.box C L,wy D B N⟩)
  cases h
 case alloc t=>
  split at h
  ·rename_i ti hti;cases h;obtain ⟨⟨_,zs,hz,X⟩,_⟩:=hT _ _ hti;exact .inl (.inl ⟨_,_,R.alloc hz,wy D B (jQ X)⟩)
  cases h
 case store t x v=>
  split at h
  ·rename_i a b ti hx hv hti;split at h
   ·rename_i hsz;obtain ⟨va,C,d⟩:=aq B hx;obtain ⟨vb,L,N⟩:=aq B hv;obtain ⟨Q,h5,W⟩:=BN (ty:=ty) hT D B hti hsz d N C L h I;exact .inr ⟨rfl,Q,h5,W⟩
   cases h
  cases h
 case buildSlice t m Y=>
  split at h
  ·rename_i e s sz z l Z hl;obtain ⟨hu,hs⟩:=(hT _ _ Z).2;obtain ⟨j,⟨zz,hz,X⟩,_⟩:=hs s rfl;have hsize:(P.info? e).map (·.size)=some s.size:=by
    cases hq:P.info? e with
    | none=>simp [hq] at hz
    | some i=>simp only [hq,Option.map_some,Option.some.injEq,Prod.mk.injEq] at hz ⊢; exact hz.2.1
   split at h
   ·rename_i xs q hel hfz;split at h
    ·rename_i hck;simp only [Bool.and_eq_true] at hck;have hm:=aaF hck.1.1;have hsm:=afL hck.1.2;have hbm:=afL hck.2;obtain ⟨pv,C,d⟩:=jU B hl;obtain ⟨ρ1,k1,k2,k3,k4,k5,k6,_,_⟩:=pO hfz D B;obtain ⟨vss,L,N,h5,W⟩:=po hel d fun p V us hus=>k6 _ us (fun i hi=>tk V hi) hus;have A:=R.buildSlice (P:=P) (n:=n) (F:=F) (w:=w) (ty:=ty) (m:=m) hu hsize (Fv hz) C L N aE hsm;have e0:Y.toList.toArray=Y:=by simp
     rw [e0] at A;have S:=Kp.alloc w (.cells vss.flatten.toArray e);cases m with
     | zero=>
      cases h;refine .inl (.inl ⟨_,_,A,ρ,Stp.kp D S,D.kp S,B.kp S,Pd.em (a:=some ⟨w.heap.size,0,none⟩) rfl,aa⟩)
     | succ m=>
      cases h;have hfl:vss.flatten.length=(m+1)*s.size:=by rw [<- W.length,bU,hm]
      obtain ⟨ρ2,j1,j2,j3,j4⟩:=qY (ro:=ro) (sp:=[]) (cap:=m+1) k3 k4 S (by rw [ad8]; exact af6 w _) j (by rw [hm]; exact hbm) W (by rw [ad8]; exact hfl) aE (by
       have:=ag5 (m+1) (gN s);simp only [maxLen]; omega)
      rw [hm] at j4;exact .inl (.inl ⟨_,_,A,ρ2,k1.trans j1,j2,j3,j4,aa⟩)
    cases h
   cases h
  cases h
 case makeSlice t a b=>
  split at h
  ·rename_i e s sz z k k' Z hx hy;split at h
   ·rename_i hs1;cases h;obtain ⟨hu,hs⟩:=(hT _ _ Z).2;obtain ⟨j,⟨zz,hz,X⟩,_⟩:=hs s rfl;have hs1:=aaF hs1;have g0:=I _ (acy); have g1:=I _ (acs _ (acy)); have g2:=I _ (acs _ (acs _ (aaZ _)));subst g2;obtain ⟨m,rfl⟩:=aa5 g0;obtain ⟨va,C,d⟩:=aq B hx;obtain ⟨vb,L,N⟩:=aq B hy;cases d with | int=>
    cases N with | int=>
    have hmb:m*s.bytes<=140737488355328:=by
     have e9:((m*s.bytes:Nat):Int)=(m:Int)*s.bytes:=by simp
     omega
    have hml:m<=maxLen:=by
     have:=ag5 m (gN s);simp only [maxLen]; omega
    obtain ⟨i,zv,hq,hzv,hzc,hsz,hby⟩:=re hz;obtain ⟨Q,A,hown,hgr⟩:=run_make_full (P:=P) w w.heap.size t e i zv s.size hu hq hzv hsz .i64 .i64 m (by rw [hby,Nat.mul_comm]; omega) hml (Nat.le_refl _);have hmade:(madeCells zv.cells (m*s.size)).toList=List.replicate m (zz.headD undef):=by
     have hzl:=(jQ (c:=cx G ρ w) (ρ:=ρ) X).length;rw [cY,hs1] at hzl;obtain ⟨u,rfl⟩:∃ u,zz=[u]:=by
      cases zz with
      | nil=>simp at hzl
      | cons u r=>
       cases r with
       | nil=>exact ⟨u,rfl⟩
       | cons _ _=>simp at hzl
     rw [hzc,hs1]; simp [madeCells,Nat.mod_one,List.map_const']
    rw [hmade] at hown;have S:=Kp.IV hgr;rcases oN hown with ⟨h0,_⟩ | ⟨g,cap,sp,hv,j1,j2,j3,j4⟩
    ·cases h0
    injection hv with e1 e2 e3;cases e1;subst e3;have hrl:(List.replicate m (au s)).length=m:=afN;obtain ⟨ρ2,q1,q2,q3,q4⟩:=qY (ro:=ro) (xs:=List.replicate m (au s)) D B S j1 j (by rw [hrl]; exact hmb) (Mg (jQ (ρ:=ρ) X) hs1 m) j2 (by rw [hrl]; exact j3) j4;rw [hrl] at q4;exact .inl (.inl ⟨_,Q,fun a _ _ _ _ ha=>by simp [execOp,ha.ev C,ha.ev L,A],ρ2,q1,q2,q3,q4,aa⟩)
   cases h
  cases h
 case call cl=>
  split at h
  ·rename_i K;split at h
   ·rename_i x y t t' J U;split at h
    ·rename_i a b htt hx hy;have htt:=aaF htt;subst htt;obtain ⟨va,C,d⟩:=aq B hx;obtain ⟨vb,L,N⟩:=aq B hy;obtain ⟨v,Q,h5,W⟩:=jY (P:=P) (n:=n) (ty:=ty) hT D B h I d N C L;have e:cl={ callee:=.builtin .append,args:=#[x,y],argTypes:=#[t,t] }:=by
      cases cl; simp at K J U; subst K;simp only [aiy,true_and];exact ⟨agd (by simpa using J),agd (by simpa using U)⟩
     rw [e];exact .inl (.inl ⟨v,Q,h5,W⟩)
    ·rename_i a b htt hx hy;obtain ⟨va,C,d⟩:=aq B hx;obtain ⟨vb,L,N⟩:=aq B hy;obtain ⟨v,Q,h5,W⟩:=uy (P:=P) (n:=n) (ty:=ty) hT D B h I d N C L;have e:cl={ callee:=.builtin .append,args:=#[x,y],argTypes:=#[t,t'] }:=by
      cases cl; simp at K J U; subst K;simp only [aiy,true_and];exact ⟨agd (by simpa using J),agd (by simpa using U)⟩
     rw [e];exact .inl (.inl ⟨v,Q,h5,W⟩)
    cases h
   cases h
  ·rename_i x K;split at h
   ·rename_i f l hl;split at h
    ·rename_i r' hce;cases h;obtain ⟨x',xs,vs,bs,cap,C,d,L,N,h5⟩:=ld B hl;obtain ⟨⟨fn,W,h7,h8⟩,A⟩:=JH hO D B h5 hce I;have e:cl={ callee:=.value x',args:=xs.toArray,argTypes:=cl.argTypes }:=by
      cases cl; simp at C d; subst C; subst d; rfl
     rw [e];exact .inl (.inr ⟨_,_,E.Lh L N W h7 h8,A⟩)
    unfold K_ at h;split at h
    ·rename_i q hfz;split at h
     ·rename_i f' l' hl';split at h
      ·rename_i r' hcp;cases h;obtain ⟨ρ',k1,k2,k3,k4,k5,_,_,_⟩:=gY hfz D B;obtain ⟨x',xs,vs,bs,cap,C,d,L,N,h5⟩:=ld k4 hl';obtain ⟨⟨fn,W,h7,h8⟩,A⟩:=uT hO k3 h5 hcp I;have e:cl={ callee:=.value x',args:=xs.toArray,argTypes:=cl.argTypes }:=by
        cases cl; simp at C d; subst C; subst d; rfl
       rw [e];exact .inl (.inr ⟨_,_,E.Lh L N W h7 h8,A.mono fun v Q V=>⟨ρ',k1.trans (Stp.kp k3 V.1),k3.kp V.1,k4.kp V.1,V.2.1,V.2.2⟩⟩)
      cases h
     cases h
    cases h
   cases h
  cases h
 case slice t x lo hi mx=>
  split at h
  ·rename_i i hx;split at h
   ·rename_i q hfz;split at h
    ·rename_i r' hpv;cases h;obtain ⟨ρ',k1,k2,k3,k4,k5,_,_,_⟩:=gY hfz D B;rcases ua (ty:=ty) hT hO k3 k4 hpv I with ⟨v,Q,C,d⟩ | ⟨f,args,C,d⟩
     ·exact .inl (.inl ⟨v,Q,C,ρ',k1.trans (Stp.kp k3 d.1),k3.kp d.1,k4.kp d.1,d.2.1,d.2.2⟩)
     exact .inl (.inr ⟨f,args,C,d.mono fun v Q V=>⟨ρ',k1.trans (Stp.kp k3 V.1),k3.kp V.1,k4.kp V.1,V.2.1,V.2.2⟩⟩)
    cases h
   cases h
  cases h
 case makeMap t o=>
  cases o with
  | some o=>cases h
  | none=>
   simp only at h;split at h
   ·rename_i s Z;cases h;have S:=Kp.alloc w (.map #[] 0);have hext:Ext ρ w (ρ++[.blk w.heap.size]) (w.alloc (.map #[] 0)):=Ext.app S fun g hg=>by cases hg; exact Nat.le_refl _
    have hle:=hext.le D.lo;exact .inl (.inl ⟨_,_,R.rV,ρ++[.blk w.heap.size],Stp.app D S (fun g hg=>by cases hg; exact Nat.le_refl _),D.app S (fun g hg=>by cases hg; exact ⟨Nat.le_refl _,aa⟩) ⟨_,rfl,#[],0,(Go.MapKept.heap_alloc w _).1,aa,fun _=>trivial⟩,B.carry hle (gk _ _),⟨w.heap.size,by rw [D.obj.length]; simp,rfl⟩,aa⟩)
   ·rename_i Z;cases h;have S:=Kp.alloc w (.map #[] 0);have hext:Ext ρ w (ρ++[.blk w.heap.size]) (w.alloc (.map #[] 0)):=Ext.app S fun g hg=>by cases hg; exact Nat.le_refl _
    have hle:=hext.le D.lo;exact .inl (.inl ⟨_,_,R.rV,ρ++[.blk w.heap.size],Stp.app D S (fun g hg=>by cases hg; exact Nat.le_refl _),D.app S (fun g hg=>by cases hg; exact ⟨Nat.le_refl _,aa⟩) ⟨_,rfl,#[],0,(Go.MapKept.heap_alloc w _).1,aa,fun _=>trivial⟩,B.carry hle (gk _ _),⟨w.heap.size,by rw [D.obj.length]; simp,rfl⟩,aa⟩)
   cases h
 case insert t x y z=>
  obtain ⟨Q,C,d⟩:=sX (n:=n) (ty:=ty) hT D B h;exact .inr ⟨rfl,Q,C.1,d⟩
 case mapUpdate t x y z=>
  obtain ⟨Q,C,d⟩:=sX (n:=n) (ty:=ty) hT D B h;exact .inr ⟨rfl,Q,C.2,d⟩
 all_goals cases h
end
section
variable {P:Program} {T:List (Nat × TI)} {G:Gl} {O:bP} {n:Nat} {F:Fr} {w:World} {x y:Operand} {ty t t':TypeId} {ρ:List RE} {H:AH} {fr:AFr} {ro:Lv}
variable {r:SR} {e:TypeId} {a:AV} {va:Value}
theorem IT (hT:bh P G.shp T) (C:Rep G ρ H w) (y:FrR (cx G ρ w) ρ fr F) {h:Int} {N:Sh} {sz:Nat} {z:List AV} {O:Operand} (Q:a_ T t=some ⟨.sl e (some N),sz,z⟩) (o:abU ro fr H a h=some r) (D:∀ p ∈ r.ob,p) (ha:Rd (cx G ρ w) ρ a va) (hx:ev F x=some va) (hy:ev F O=some (.int .i64 h)) :
  ∃ v w',aF P n F w (.slice t x none (some O) none) ty v w' /\ eN G ro ρ w r F v w':=by
 obtain ⟨hu,hs⟩:=(hT _ _ Q).2;obtain ⟨_,⟨zz,S,_⟩,_⟩:=hs _ rfl;have f:(P.info? e).map (·.size)=some N.size:=by
  cases hq:P.info? e with
  | none=>simp [hq] at S
  | some q=>simp [hq] at S; simp [S.2.1]
 unfold abU at o;split at o
 ·rename_i id;split at o
  ·rename_i er s k I;split at o
   ·rename_i A;cases o;simp only [Bool.and_eq_true] at A;have o1:=D _ (.head _);have o2:=D _ (.tail _ (.head _));obtain ⟨j,rfl⟩:=aa5 o1;have U:j<=k.length:=by omega
    obtain ⟨_,J,_⟩:=na C I;obtain ⟨u,m⟩:=dD C I;have K:(k.take j).length=j:=by rw [List.length_take]; omega
    have L:(k.take j).length*s.bytes<=140737488355328:=Nat.le_trans (afK _ aE) m;rcases bE C I with ⟨h0,h1⟩ | ⟨g,i,c,sp,V,h3,h4,h5,h6,h7⟩
    ·rcases ha with ⟨_,_,_,_,B,_⟩ | ⟨_,a0,rfl⟩
     ·grind
     have W:j=0:=by rw [h1] at U; simpa using U
     subst W;have d:=R.lE (P:=P) (n:=n) (w:=w) (ty:=ty) (a':=a0) hx hy hu f aa (Nat.le_refl 0);obtain ⟨X,Y,Z⟩:=jv (r':=.emp) (zs:=k.take 0) C I A (Kp.refl w) aa (by rintro g ⟨⟩) (fun _=>⟨u,L,.inl ⟨rfl,rfl⟩⟩);exact ⟨_,w,d,_,X,Y,Z fr F y,.inr ⟨adU J,a0,rfl⟩,aa⟩
    rcases ha with ⟨_,_,_,_,B,rfl⟩ | ⟨B,_⟩
    ·rw [V] at B; cases B;have e0:(if i=0 then (some (⟨g,0,none⟩:Addr)) else (some (⟨g,0,none⟩:Addr)).map (·.add (0*N.size)))=some ⟨g,0,none⟩:=by
      split
      ·rfl
      simp [Addr.add]
     have d:=R.lE (P:=P) (n:=n) (w:=w) (ty:=ty) hx hy hu f e0 (show j<=i by omega);rw [ajg,ajg] at d;have hcl:c.length=k.length*s.size:=by rw [<- h4.length,bU]
     have hmul:j*s.size<=k.length*s.size:=afK _ U;obtain ⟨X,Y,Z⟩:=jv (r':=.row g i (k.take j).length s.size) (zs:=k.take j) (e':=er) C I A (Kp.refl w) aa (fun g' b=>by cases b; exact .inl ⟨_,V,rfl⟩) (fun l=>⟨u,L,.inr ⟨g,i,c.take (j*s.size),c.drop (j*s.size)++sp,rfl,by rw [<- List.append_assoc,List.take_append_drop]; exact h3,(bC h4 j).carry l,by rw [<- List.append_assoc,List.take_append_drop]; exact h5,aE,h7⟩⟩);refine ⟨_,w,d,_,X,Y,Z fr F y,.inl ⟨g,i,(k.take j).length,s.size,adU J,by rw [K]⟩,aa⟩
    rw [V] at B; cases B
   cases o
  cases o
 cases o
def R.aeI {A B:Option Addr} {c f d g z:Nat} (o:ev F x=some (.slice A c f)) (p:ev F y=some (.slice B d g)) (q:P.underlying t=some (.slice e)) (s:(P.info? e).map (·.size)=some z) (u:Nat.min d c=0) :
  aF P n F w (.call { callee:=.builtin .copy,args:=#[x,y],argTypes:=#[t,t'] }) ty (goInt 0) w:=fun _ _ _ _ _ k=>by
 cases m:P.info? e with
 | none=>simp [m] at s
 | some i=>
  have C:∀ a:Addr,(loadCells a 0).run P w = .ok #[] w:=fun a=>aih (P:=P) w a [] (fun j v h=>by simp at h);have D:(Builtin.copy_ #[t,t'] ty #[.slice A c f,.slice B d g]).run P w = .ok (goInt 0) w:=by
   cases A <;> cases B <;> simp [Builtin.copy_,run_underlying q,Builtin.lenOf,Builtin.firstCells,sizeOf,typeInfo,m,u,C,storeCells]
  simp [execOp,resolve,invoke,builtin,k.ev o,k.ev p,D]
def Eo (hT:bh P G.shp T) (S:Rep G ρ H w) (hf:FrR (cx G ρ w) ρ fr F) {b:AV} {vb:Value} (K:OD T ro H t t' a b=some r) (ha:Rd (cx G ρ w) ρ a va) (hb:Rd (cx G ρ w) ρ b vb) (hx:ev F x=some va) (hy:ev F y=some vb) :
  ∃ v l,aF P n F w (.call { callee:=.builtin .copy,args:=#[x,y],argTypes:=#[t,t'] }) ty v l /\ eN G ro ρ w ⟨r.v,fr,r.H,r.ob,r.fc⟩ F v l:=by
 unfold OD at K;split at K
 ·rename_i id e s sz z e' so sz' z' hft hft';obtain ⟨hu,hs⟩:=(hT _ _ hft).2;obtain ⟨_,⟨zz,hz,_⟩,_⟩:=hs _ rfl;have J:(P.info? e).map (·.size)=some s.size:=by
   cases hq:P.info? e with
   | none=>simp [hq] at hz
   | some q=>simp [hq] at hz; simp [hz.2.1]
  split at K
  ·rename_i er p d o hH hys;split at K
   ·rename_i hss;subst hss;split at K
    ·rename_i O;cases K;simp only [Bool.and_eq_true] at O;obtain ⟨A,k,u,rfl,s1,s2,s3,s4⟩:=oB S hys hb;obtain ⟨hshp,L⟩:=dD S hH;have hI:I64 ((min o.length d.length:Nat):Int):=by
      have:=ag5 d.length (gN p);constructor <;> omega
     have hHs:=bM hH aa;have same:min o.length d.length=0->o.take d.length++d.drop o.length=d:=fun D=>by
      rcases Nat.le_total o.length d.length with hle | hle
      ·have:o.length=0:=by rw [afR hle] at D; exact D
       rw [this,ajy,acu this]; simp
      have:d.length=0:=by rw [aie hle] at D; exact D
      rw [acu this]; simp
     have U:∀ (A':Option Addr) (m c:Nat),va = .slice A' m c->m=d.length->min o.length d.length=0->∃ v l,aF P n F w (.call { callee:=.builtin .copy,args:=#[x,y],argTypes:=#[t,t'] }) ty v l /\ eN G ro ρ w ⟨one (.int (min o.length d.length:Nat)),fr,H.set id (.row er p (o.take d.length++d.drop o.length)),[],[]⟩ F v l:=fun A' m c e1 e2 D=>by
      subst e1; subst e2;refine ⟨_,w,R.aeI hx hy hu J D,ρ,Stp.refl _ _ _,?_,hf,?_,aa⟩
      ·rw [same D];have:H.set id (.row er p d)=H:=by
        obtain ⟨hi,he⟩:=aaw.1 hHs;rw [<- he,List.set_getElem_self]
       rw [this]; exact S
      have e3:(min o.length d.length)=0:=D;rw [e3]; exact Pd.int ⟨am,am⟩
     rcases bE S hH with ⟨D,h1⟩ | ⟨g,cap,f,I,h2,h3,h4,h5,h6,h7⟩
     ·rcases ha with ⟨_,_,_,_,V,_⟩ | ⟨_,a0,rfl⟩
      ·rw [D] at V; cases V
      exact U a0 0 0 rfl (by rw [h1]; rfl) (by rw [h1]; exact Nat.min_zero _)
     rcases ha with ⟨_,_,_,_,V,rfl⟩ | ⟨V,_⟩
     ·rw [h2] at V; cases V;by_cases D:min o.length d.length=0
      ·exact U _ _ _ rfl rfl D
      have hy0:¬ o.length=0:=fun e=>D (by rw [e]; exact Nat.zero_min _);obtain ⟨ad,rfl,hsrc⟩:=s3.resolve_left hy0;have N:f.length=d.length*p.size:=by rw [<- h4.length,bU]
      have hml:min o.length d.length<=o.length:=Nat.min_le_left _ _;have hmr:min o.length d.length<=d.length:=Nat.min_le_right _ _;have b1:min o.length d.length*p.size<=o.length*p.size:=afK _ hml;have b2:min o.length d.length*p.size<=d.length*p.size:=afK _ hmr;have Y:(u.take (min o.length d.length*p.size)).length=min o.length d.length*p.size:=by rw [List.length_take,s1]; exact afR b1
      have hrun:=R.nI (P:=P) (n:=n) (w:=w) (ty:=ty) (t':=t') (cur:=f++I) (cs:=u.take (min o.length d.length*p.size)) hx hy hu J h3 Y (hsrc.take _) (by rw [Y,List.length_append,N]; omega) (fun v hv=>s2 v (List.mem_of_mem_take hv));refine ⟨_,_,hrun,?_⟩;have B:=Kp.setRow w g ((f++I).take 0++u.take (min o.length d.length*p.size)++(f++I).drop (0+(u.take (min o.length d.length*p.size)).length)).toArray;have Q:=afU w g _ ((f++I).take 0++u.take (min o.length d.length*p.size)++(f++I).drop (0+(u.take (min o.length d.length*p.size)).length)).toArray er _ h3;revert B Q;generalize hW:w.setRow g ((f++I).take 0++u.take (min o.length d.length*p.size)++(f++I).drop (0+(u.take (min o.length d.length*p.size)).length)).toArray=W;intro B Q;have C:(f++I).take 0++u.take (min o.length d.length*p.size)++(f++I).drop (0+(u.take (min o.length d.length*p.size)).length)=(u.take (d.length*p.size)++f.drop (o.length*p.size))++I:=by
       rw [Y,ajz,ail,acC,List.drop_append_of_le_length aE,<- List.append_assoc];congr 1;rcases Nat.le_total o.length d.length with hle | hle
       ·have e1:min o.length d.length=o.length:=afR hle;rw [e1,<- s1,List.take_length,List.take_of_length_le (by rw [s1]; exact afK _ hle)]
       have e1:min o.length d.length=d.length:=aie hle;rw [e1,<- N,List.drop_length,afY (by rw [N]; exact afK _ hle)]
      rw [C] at Q;have hnew:Pds (cx G ρ w) ((o.take d.length++d.drop o.length).flatMap (cellsOf p)) (u.take (d.length*p.size)++f.drop (o.length*p.size)):=by
       rw [List.flatMap_append];exact (bC s4 _).append (bV h4 _)
      have Z:(o.take d.length++d.drop o.length).length=d.length:=by
       rw [List.length_append,List.length_take,List.length_drop]; omega
      have hext:Ext ρ w ρ W:=⟨B.os,B.tape,B.output,B.size,fun b hb hl=>⟨hl,B.block b hb (by
       simp only [acr];rintro rfl;exact hl ⟨id,_,h2,rfl⟩)⟩⟩
      have hle:=hext.le S.lo;have X:=S.put (o':=.row er p (o.take d.length++d.drop o.length)) hHs h2 rfl B ⟨hshp,by rw [Z]; exact L,.inr ⟨g,cap,_,I,by rw [Z],Q,hnew.carry hle,by
       rw [<- C,<- h5];simp only [List.length_append,List.length_take,List.length_drop,acC,s1];have e9:min (min o.length d.length*p.size) (o.length*p.size)=min o.length d.length*p.size:=afR b1;rw [e9,N];have e8:min 0 (d.length*p.size+I.length)=0:=Nat.zero_min _;omega,by rw [Z]; exact h6,h7⟩⟩
      refine ⟨ρ,⟨X.2,fun _ _ _ h=>h,fun i r' hi j=>⟨j,fun g' hg'=>B.block g' (S.bnd i r' g' j hg').2.1 ?_⟩,fun _ _ h=>h⟩,X.1,hf.carry hle (ky.refl _),(show Pd _ (.int (min o.length d.length:Nat)) (.int .i64 _) from Pd.int hI),aa⟩;simp only [acr];rintro rfl;have:=S.inj i id _ _ g' j h2 hg' rfl;subst this; rw [O.1] at hi; cases hi
     rw [h2] at V; cases V
    cases K
   cases K
  cases K
 cases K
variable {op:Op}
theorem UQ (hT:bh P G.shp T) (m:Rep G ρ H w) (g:FrR (cx G ρ w) ρ fr F) (h:svX T ro fr H op=some r) (o:∀ p ∈ r.ob,p):eK P n F w op ty (eN G ro ρ w r F):=by
 unfold svX at h;split at h
 ·rename_i k;split at h
  ·rename_i c;split at h
   ·rename_i x y t t' d f;split at h
    ·rename_i a b q s;split at h
     ·rename_i J i;cases h;obtain ⟨va,u,z⟩:=aq g q;obtain ⟨vb,A,B⟩:=aq g s;obtain ⟨v,C,D,I⟩:=Eo (P:=P) (n:=n) (ty:=ty) hT m g i z B u A;have e:k={ callee:=.builtin .copy,args:=#[x,y],argTypes:=#[t,t'] }:=by
       cases k; simp at c d f; subst c;simp only [aiy];grind
      rw [e];exact .inl (.inl ⟨v,C,D,I⟩)
     cases h
    cases h
   cases h
  cases h
 cases h
def Nh (hT:bh P G.shp T) (W:aA P G.shp O) (C:Rep G ρ H w) (o:FrR (cx G ρ w) ρ fr F) (h:sv T O ro fr H op=some r) (d:∀ p ∈ r.ob,p):eK P n F w op ty (eN G ro ρ w r F):=by
 unfold sv at h;split at h
 ·rename_i r' f;cases h;unfold svC at f;split at f
  ·rename_i t x hi;split at f
   ·rename_i X Y q;obtain ⟨va,Z,j⟩:=aq o X;obtain ⟨vb,I,J⟩:=aq o Y;cases J with | int=>
    obtain ⟨v,l,y,h6⟩:=IT (P:=P) (n:=n) (ty:=ty) hT C o q f d j Z I;exact .inl (.inl ⟨v,l,y,h6⟩)
   cases f
  ·rename_i t b;split at f
   ·rename_i e s sz z k q hy;split at f
    ·rename_i u;cases f;obtain ⟨hu,hs⟩:=(hT _ _ q).2;obtain ⟨A,⟨zz,hz,K⟩,_⟩:=hs s rfl;have u:=aaF u;have g0:=d _ (.head _);have g1:=d _ (.tail _ (.head _));obtain ⟨m,rfl⟩:=aa5 g0;obtain ⟨vb,I,J⟩:=aq o hy;cases J with | int=>
     have hmb:m*s.bytes<=140737488355328:=by
      have U:((m*s.bytes:Nat):Int)=(m:Int)*s.bytes:=by simp
      omega
     have B:m<=maxLen:=by
      have:=ag5 m (gN s);simp only [maxLen]; omega
     obtain ⟨i,D,hq,L,hzc,N,Q⟩:=re hz;have S:=(jQ (c:=cx G ρ w) (ρ:=ρ) K).length;rw [cY,u] at S;have g:=run_make (P:=P) w t e i D hu hq L .i64 .i64 0 (m:Int) aE aE (by
      rw [Q];have U:((s.bytes*m:Nat):Int)=(s.bytes:Int)*m:=by simp
      rw [<- U,Nat.mul_comm]; omega) (by simp only [maxLen] at B; omega)
     simp only [afM,Int.toNat_zero] at g;have hk:=Kp.alloc w (.cells (madeCells D.cells (m*i.size)) e);obtain ⟨ρ2,q1,q2,q3,q4⟩:=qY (ro:=ro) (xs:=([]:List (den s))) (cells:=[]) (sp:=(madeCells D.cells (m*i.size)).toList) (cap:=m) C o hk (by
      have:=af6 w (.cells (madeCells D.cells (m*i.size)) e);simpa using this) A aa .nil (by simp [madeCells,N]) (af3 _) B
     exact .inl (.inl ⟨_,_,fun a _ _ _ _ V=>by simp [execOp,V.ev (show ev F (.const (.int .i64 0))=some (.int .i64 0) from rfl),V.ev I,g],ρ2,q1,q2,q3,q4,aa⟩)
    cases f
   cases f
  cases f
 split at h
 ·cases h; exact Vs hT W C o ap d
 exact UQ hT C o h d
end
def dR {q:Prop} (h:∀ p ∈ [q],p):q:=h q (aaZ q)
def bH {b:Bool}:(∀ p ∈ same b,p)↔b=true:=by
 cases b with
 | true=>simp [same]
 | false=>exact ⟨fun h=>(dR h).elim,fun h=>by cases h⟩
theorem zb:∀ {k n:Nat},(iota k n).length=n
 | _,0=>rfl
 | k,n+1=>by simp [iota,zb]
theorem yh:∀ {k n i:Nat},i<n->(iota k n)[i]? = some (k+i)
 | k,n+1,0,_=>by simp [iota]
 | k,n+1,i+1,h=>by
  have:=yh (k:=k+1) (n:=n) (i:=i) aE;rw [iota,agW,this,show k+1+i=k+(i+1) by omega]
variable {k i:Nat}
def Ou:i ∈ iota k n↔k<=i/\i<k+n:=by
 induction n generalizing k with
 | zero=>simp [iota]
 | succ n a=>simp [iota,a]; omega
theorem iL:∀ {σ:List Nat} {j i:Nat},Kj σ j i=true↔σ[j]? = some i
 | [],j,i=>by simp [Kj]
 | k :: r,0,i=>by simp [Kj]
 | k :: r,j+1,i=>by simpa [Kj] using iL (σ:=r)
theorem Ah {n:Nat}:∀ {σ:List Nat} {j:Nat},JS n σ j=true↔∃ k,σ[j]? = some k/\n<=k
 | [],j=>by simp [JS]
 | k :: r,0=>by simp [JS]
 | k :: r,j+1=>by simpa [JS] using Ah (σ:=r)
def cV (ρ:List RE) (σ:List Nat):List RE:=σ.map fun k=>ρ.getD k .emp
variable {r:RE}
def dt (h:σ[j]? = some i) (a:ρ[i]? = some r):(cV ρ σ)[j]? = some r:=by
 simp [cV,h,a]
def KN (h:σ[j]? = some i) (a:ρ.length<=i):(cV ρ σ)[j]? = some .emp:=by
 simp [cV,h,List.getElem?_eq_none a]
def nZ {g:Nat} (h:(cV ρ σ)[j]? = some r) (d:r.g? = some g):∃ i,σ[j]? = some i/\ρ[i]? = some r:=by
 simp only [cV,List.getElem?_map,aeB] at h;obtain ⟨i,e,a⟩:=h;refine ⟨i,e,?_⟩;rw [List.getD_eq_getElem?_getD] at a;cases c:ρ[i]? with
 | none=>rw [c] at a; simp at a; subst a; cases d
 | some f=>rw [c] at a; simp at a; rw [a]
theorem oS {b:Nat} (h:live (cV ρ σ) b):∃ i r,i ∈ σ/\ρ[i]? = some r/\r.g? = some b:=by
 obtain ⟨j,r,a,c⟩:=h;obtain ⟨i,d,e⟩:=nZ a c;grind
section
variable {G:Gl} {ρ:List RE} {H:AH} {w:World} {σ:List Nat} {n:Nat}
def yi:(cx G ρ w).le (cx G (cV ρ σ) w):=
 ⟨rfl,rfl,fun _ a=>⟨⟨a.1,fun h=>by
  obtain ⟨i,r,_,c,d⟩:=oS h;exact a.2.1 ⟨i,r,c,d⟩,a.2.2⟩,rfl⟩,fun _ _ _=>rfl⟩
theorem gQ:∀ {b a:List (Nat × Nat)} {c:List Value},pX σ b a = true->All2 (dY ρ) b c->All2 (dY (cV ρ σ)) a c
 | [],[],_,_,h=>by cases h; exact .nil
 | (i,o) :: b,(j,q) :: a,_,h,k=>by
  simp only [pX,Bool.and_eq_true] at h;cases k with | cons d e=>
  have f:=aaF h.1.2;subst f;obtain ⟨g,m,p⟩:=d;exact .cons ⟨g,dt (iL.1 h.1.1) m,p⟩ (gQ h.2 e)
def LV (A:Rep G ρ H w) (l:n=H.length) {a b:AV} {v:Value} (h:Rd (cx G ρ w) ρ a v) (c:∀ p ∈ eqA H n σ a b,p):Rd (cx G (cV ρ σ) w) (cV ρ σ) b v:=by
 have S:=A.obj.length;by_cases T:b = .dead
 ·subst T; exact h.one
 have f:(cx G ρ w).le (cx G (cV ρ σ) w):=yi;cases a <;> cases b <;> first | exact (T rfl).elim | (dsimp only [eqA] at c; try exact (dR c).elim)
 case int.int=>have c:=dR c; subst c; exact Pd.carry h f
 case u8.u8=>have c:=dR c; subst c; exact Pd.carry h f
 case u64.u64=>have c:=dR c; subst c; exact Pd.carry h f
 case bool.bool=>
  have h:Pd (cx G ρ w) _ v:=h;cases h;rw [dR c]; exact Pd.bool
 case str.str=>have c:=dR c; subst c; exact Pd.carry h f
 case li.li=>
  have K:=c _ (acy ..);have L:=c _ (acs _ (aaZ _));subst K; subst L; exact Pd.carry h f
 case fz.fz=>
  rename_i s I J N;by_cases x:s=J
  ·subst x;rw [aju rfl] at c;have c:I=N:=dR c;subst c;exact Pd.carry h f
  rw [dif_neg x] at c;exact (dR c).elim
 case em.fz=>
  have c:=dR c;subst c;exact Pd.yp (Pd.carry h f)
 case em.em=>
  have:=bH.1 c;simp at this; subst this;exact Pd.carry h f
 case em.own=>
  obtain ⟨k,d,m⟩:=Ah.1 (bH.1 c);have h:Pd (cx G ρ w) _ v:=h;cases h with | em _=>
  exact .inr ⟨KN d aE,_,rfl⟩
 case own.own=>
  have d:=iL.1 (bH.1 c);rcases h with ⟨g,u,len,z,h,e⟩ | ⟨h,e⟩
  ·exact .inl ⟨g,u,len,z,dt d h,e⟩
  exact .inr ⟨dt d h,e⟩
 case own.fz=>
  rename_i i s N;split at c
  ·rename_i t J I O;by_cases x:J = s
   ·subst x;rw [aju rfl] at c;have d:=bH.1 fun p B=>c p (acz _ B);have m:I=N:=c _ (acB _ (aaZ _));simp only [Bool.not_eq_true'] at d;subst m;have P:i ∉ σ:=fun Q=>by rw [bw.2 Q] at d; cases d
    have V:(AV.own i).vw H = .fz J I:=by simp [AV.vw,O]
    refine kU (nE A f rfl h (fun g u len z ⟨id,c,C⟩=>?_) V);have U:=A.bnd _ _ g C rfl;refine ⟨U.2.1,fun W=>?_,U.2.2⟩;obtain ⟨i',r',D,X,Y⟩:=oS W;have:=A.inj _ _ _ _ g C X rfl Y;rcases c with c | ⟨_,_,c⟩ <;> cases c;subst this;exact P D
   rw [dif_neg x] at c;exact (dR c).elim
  exact (dR c).elim
 case sub.sub=>
  simp only [acq,acw,af8,or_false] at c;have d:=iL.1 (bH.1 fun p B=>c p (.inl B));have m:=c _ (.inr (.inl rfl));have D:=c _ (.inr (.inr rfl));subst m; subst D;rcases h with ⟨g,u,len,z,h,e⟩ | ⟨h,e⟩
  ·exact .inl ⟨g,u,len,z,dt d h,e⟩
  exact .inr ⟨dt d h,e⟩
 case ptr.ptr=>
  have d:=bH.1 c;simp only [Bool.and_eq_true] at d;have y:=aaF d.2;subst y;obtain ⟨g,h,e⟩:=h;exact ⟨g,dt (iL.1 d.1) h,e⟩
 case np.np=>exact h
 case elp.elp=>
  simp only [acq,acw,af8,or_false] at c;have d:=bH.1 fun p B=>c p (.inl B);have m:=c _ (.inr rfl);simp only [Bool.and_eq_true] at d;have y:=aaF d.2;subst y; subst m;obtain ⟨g,u,len,z,h,e⟩:=h;exact ⟨g,u,len,z,dt (iL.1 d.1) h,e⟩
 case fn.fn=>
  have d:=bH.1 c;simp only [Bool.and_eq_true] at d;have y:=aaF d.1.1;subst y;obtain ⟨Z,F,m,D,e⟩:=h;exact ⟨Z,F,gQ d.1.2 m,gQ d.2 D,e⟩
 case nf.nf=>exact h
 case yl.yl=>rw [<- aaF (bH.1 c)]; exact h
 case np.xx k b=>
  unfold ae_ at c;split at c
  ·rename_i q;have d:=bH.1 c;unfold afq at d;split at d
   ·rename_i i Q;split at d
    ·rename_i t cs O;obtain ⟨r,j,g,vs,rfl,_⟩:=A.at_ (bM O aa);have h:v = .pointer none:=h;exact ⟨[_],.cons ⟨g,dt Q j,rfl⟩ .nil,rfl,.inl h⟩
    cases d
   cases d
  exact (dR c).elim
 case ptr.xx i o k b=>
  unfold acT at c;split at c
  ·rename_i q;have d:=bH.1 c;simp only [Bool.and_eq_true] at d;obtain ⟨g,m,e⟩:=h;have y:=aaF d.2;subst y;exact ⟨[v],.cons ⟨g,dt (iL.1 d.1) m,e⟩ .nil,rfl,.inr rfl⟩
  exact (dR c).elim
 case xx.xx k b k' b'=>
  obtain ⟨F,d,m⟩:=h;unfold eqX at c;split at c
  ·have:=c _ (aaZ _);subst this;cases d;exact ⟨[],.nil,m⟩
  ·exact ⟨F,gQ (bH.1 c) d,m.le f⟩
  ·split at c
   ·rename_i x;subst x;have:=c _ (aaZ _);subst this;cases d;exact ⟨[],.nil,m.le f⟩
   exact (dR c).elim
  ·have K:=c _ (acy ..);have L:=c _ (acs _ (aaZ _));subst K; subst L;cases d;exact ⟨[],.nil,m.le f⟩
  ·have:=c _ (aaZ _);subst this;cases d;exact ⟨[],.nil,m⟩
  ·exact ⟨F,gQ (bH.1 c) d,m.le f⟩
  ·exact ⟨F,gQ (bH.1 c) d,m.le f⟩
  exact (dR c).elim
 case mq.mq=>
  obtain ⟨g,h,e⟩:=h;exact ⟨g,dt (iL.1 (bH.1 c)) h,e⟩
theorem xZ (g:Rep G ρ H w) (m:n=H.length):∀ {c d:List AV} {o:List Value},All2 (Rd (cx G ρ w) ρ) c o->(∀ p ∈ Mq H n σ c d,p)->All2 (Rd (cx G (cV ρ σ) w) (cV ρ σ)) d o
 | [],[],_,h,_=>by cases h; exact .nil
 | [],_ :: _,_,_,h=>(dR h).elim
 | _ :: _,[],_,_,h=>(dR h).elim
 | a :: c,b :: d,_,h,e=>by
  cases h with | cons q s=>
  simp only [Mq,acq] at e;exact .cons (LV g m q fun p f=>e p (.inl f)) (xZ g m s fun p f=>e p (.inr f))
theorem Gm (d:Rep G ρ H w) (f:n=H.length) {a b:TV1} {v:Value} (h:di (cx G ρ w) ρ a v) (c:∀ p ∈ Vi H n σ a b,p):di (cx G (cV ρ σ) w) (cV ρ σ) b v:=by
 cases a <;> cases b <;> simp only [Vi] at c
 ·exact LV d f h c
 ·simp_all
 ·exact (dR c).elim
 obtain ⟨g,e,h⟩:=h;exact ⟨g,e,xZ d f h c⟩
theorem oE (g:Rep G ρ H w) (m:n=H.length):∀ {c d:List TV1} {o:List Value},All2 (di (cx G ρ w) ρ) c o->(∀ p ∈ Cs H n σ c d,p)->All2 (di (cx G (cV ρ σ) w) (cV ρ σ)) d o
 | [],[],_,h,_=>by cases h; exact .nil
 | [],_ :: _,_,_,h=>(dR h).elim
 | _ :: _,[],_,_,h=>(dR h).elim
 | a :: c,b :: d,_,h,e=>by
  cases h with | cons q s=>
  simp only [Cs,acq] at e;exact .cons (Gm g m q fun p f=>e p (.inl f)) (oE g m s fun p f=>e p (.inr f))
theorem aas (d:Rep G ρ H w) (f:n=H.length) {a b:TV} {v:Value} (h:Rt (cx G ρ w) ρ a v) (c:∀ p ∈ eqT H n σ a b,p):Rt (cx G (cV ρ σ) w) (cV ρ σ) b v:=by
 cases b with
 | un=>trivial
 | one b=>
  cases a <;> simp only [eqT] at c
  ·exact Gm d f h c
  ·simp_all
  exact (dR c).elim
 | tup b=>
  cases a <;> simp only [eqT] at c
  ·exact (dR c).elim
  ·obtain ⟨g,e,h⟩:=h;exact ⟨g,e,oE d f h c⟩
  exact (dR c).elim
theorem FM (f:Rep G ρ H w) (g:n=H.length) {fr:AFr} {F:Fr} (m:FrR (cx G ρ w) ρ fr F):∀ {a:AFr},(∀ p ∈ Vn H n σ fr a,p)->∃ d,FrR (cx G (cV ρ σ) w) (cV ρ σ) a d /\ ∀ i v,look d i=some v->look F i=some v
 | [],_=>⟨[],.nil,fun i v h=>by cases h⟩
 | (i,b) :: a,c=>by
  simp only [Vn] at c;split at c
  ·rename_i u o;simp only [acq] at c;obtain ⟨v,z,q⟩:=eH m o;obtain ⟨d,s,A⟩:=FM f g m fun p e=>c p (.inr e);refine ⟨(i,v) :: d,.cons ⟨rfl,aas f g q fun p e=>c p (.inl e)⟩ s,fun j x y=>?_⟩;rw [aW] at y;grind
  simp_all
theorem zF {P:Program} {t:TypeId} {s:Sh} {T:List (Nat × TI)} (hT:bh P G.shp T):∀ {r:List (Nat × TI)},xQ T t s r=true->G.shp t=some s
 | (i,_) :: r,h=>by
  simp only [xQ,Bool.or_eq_true] at h;rcases h with h | h
  ·split at h
   ·rename_i e f _ _ a;simp only [Bool.and_eq_true,decide_eq_true_eq] at h;have c:=aaF h.1;obtain ⟨_,d⟩:=h;subst c; subst d;exact ((hT _ _ a).2.2 _ rfl).1
   cases h
  exact zF hT h
theorem Qk {P:Program} {T:List (Nat × TI)} (hT:bh P G.shp T) (D:Rep G ρ H w) (U:n=H.length):∀ {r:List Nat} {F:AH},(∀ p ∈ Zz T H n σ r F,p)->All2 (OR (cx G (cV ρ σ) w) (cV ρ σ)) F (r.map fun k=>ρ.getD k .emp)
 | [],[],_=>.nil
 | [],_ :: _,h=>(dR h).elim
 | _ :: _,[],h=>(dR h).elim
 | k :: r,b :: F,h=>by
  simp only [Zz,acq] at h;refine .cons ?_ (Qk hT D U fun p c=>h p (.inr c));replace h:=fun p c=>h p (.inl c);have o:(cx G ρ w).le (cx G (cV ρ σ) w):=yi;cases I:Nat.blt k n <;> rw [I] at h
  ·-- a new row
   have x:n<=k:=by
    have:¬ k<n:=fun J=>by have:=(Nat.blt_eq).mpr J; rw [I] at this; cases this
    omega
   dsimp only [cond_false] at h;have V:=D.obj.length;show OR _ _ _ (ρ.getD k .emp);rw [List.getD_eq_getElem?_getD,List.getElem?_eq_none aE];cases b with
   | row t s y=>
    dsimp only [eqN] at h;have K:=bH.1 fun p c=>h p (acz _ c);have d:y=[]:=h _ (acB _ (aaZ _));subst d;exact ⟨zF hT K,aa,.inl ⟨rfl,rfl⟩⟩
   | gone=>exact (dR h).elim
   | mapo _ _=>exact (dR h).elim
   | mapf _=>exact (dR h).elim
   | loc=>exact (dR h).elim
   | arr _ _ _ _=>exact (dR h).elim
   | box _ _=>exact (dR h).elim
  dsimp only [cond_true] at h;have x:k<H.length:=by have:=Nat.blt_eq.mp I; omega
  have X:H[k]? = some (getO H k):=by
   unfold getO;rw [List.getD_eq_getElem?_getD,List.getElem?_eq_getElem x];rfl
  obtain ⟨l,K,d⟩:=D.at_ X;show OR _ _ _ (ρ.getD k .emp);rw [List.getD_eq_getElem?_getD,K,ajs];generalize getO H k=a at h d;cases a <;> cases b <;> dsimp only [eqO] at h <;> try exact (dR h).elim
  case gone.gone=>exact d
  case mapo.mapo s f z Y=>
   by_cases q:s=z
   ·subst q;rw [aju rfl] at h;have A:f=Y:=dR h;subst A;obtain ⟨g,e,u⟩:=d;exact ⟨g,e,u.carry o rfl⟩
   simp_all
  case arr.arr t s m L W z m' y=>
   have N:=bH.1 fun p c=>h p (acz _ c);simp only [Bool.and_eq_true] at N;have u:=aaF N.1;have B:=aaF N.2;subst u; subst B;replace h:=fun p c=>h p (acB _ c);by_cases q:s=z
   ·subst q;rw [aju rfl] at h;have A:L=y:=dR h;subst A;obtain ⟨g,O,e,C,Q,Z⟩:=d;exact ⟨g,O,e,C,Q.carry o,Z⟩
   rw [dif_neg q] at h;exact (dR h).elim
  case box.box t cs W i=>
   have u:=aaF (bH.1 fun p c=>h p (acz _ c));subst u;obtain ⟨g,O,e,B,C⟩:=d;exact ⟨g,O,e,B,xZ D U C fun p c=>h p (acB _ c)⟩
  case row.row t s L W z y=>
   have u:=aaF (bH.1 fun p c=>h p (acz _ c));subst u;replace h:=fun p c=>h p (acB _ c);by_cases q:s=z
   ·subst q;rw [aju rfl] at h;have A:L=y:=dR h;subst A;refine ⟨d.1,d.2.1,d.2.2.imp id ?_⟩;rintro ⟨g,S,v,j,e,B,C,Q⟩;exact ⟨g,S,v,j,e,B,C.carry o,Q⟩
   rw [dif_neg q] at h;exact (dR h).elim
theorem tj {n:Nat}:∀ {σ:List Nat},mJ n σ=true->∀ (i j k:Nat),σ[i]? = some k->σ[j]? = some k->k<n->i=j
 | x :: r,a,i,j,k,d,c,e=>by
  simp only [mJ,Bool.and_eq_true,Bool.or_eq_true] at a;have f:k=x->∀ m:Nat,r[m]? = some k->False:=by
   rintro rfl m g;rcases a.1 with h | h
   ·have:=afL h; omega
   rw [bw.2 (acA g)] at h; cases h
  cases i with
  | zero=>
   grind
  | succ i=>
   cases j with
   | zero=>simp at c; exact (f c.symm i (by simpa using d)).elim
   | succ j=>rw [tj a.2 i j k (by simpa using d) (by simpa using c) e]
variable {P:Program} {T:List (Nat × TI)}
def nD (hT:bh P G.shp T) (c:Rep G ρ H w) (v:n=H.length) (x:mJ n σ=true) {m:AH} (h:∀ p ∈ Zz T H n σ σ m,p):Rep G (cV ρ σ) m w:=by
 have o:=c.obj.length;refine ⟨Qk hT c v h,fun i j r y g f d q s=>?_,fun i r g f d=>?_,c.z,c.b0,c.tb.carry yi⟩
 ·obtain ⟨a,u,e⟩:=nZ f q;obtain ⟨b,A,B⟩:=nZ d s;have:=c.inj a b r y g e B q s;subst this;exact tj x i j a u A (by have:=(aaw.1 e).1; omega)
 obtain ⟨a,u,e⟩:=nZ f d;exact c.bnd a r g e d
variable {w0:World} {ρ0:List RE}
def nn (h:Ext ρ0 w0 ρ w):Ext ρ0 w0 (cV ρ σ) w:=
 ⟨h.os,h.tape,h.output,h.size,fun b a c=>⟨fun d=>by
  obtain ⟨i,r,_,e,f⟩:=oS d;exact (h.old b a c).1 ⟨i,r,e,f⟩,(h.old b a c).2⟩⟩
variable {ro:Lv}
def QJ (h:Stp ro ρ0 w0 ρ w) (a:∀ i,i<ρ0.length->σ[i]? = some i):Stp ro ρ0 w0 (cV ρ σ) w:=
 ⟨nn h.ext,fun i r d c=>dt (a i (aaw.1 c).1) (h.loc i r d c),fun i r d c=>⟨dt (a i (aaw.1 c).1) (h.pro i r d c).1,(h.pro i r d c).2⟩,
  fun i g e=>dt (a i (aaw.1 e).1) (h.bx i g e)⟩
def St (G:Gl) (ro:Lv) (ρ0:List RE) (w0:World) (fr:AFr) (H:AH) (F:Fr) (w:World):Prop:=∃ ρ,Stp ro ρ0 w0 ρ w/\Rep G ρ H w/\FrR (cx G ρ w) ρ fr F
theorem CD {a:Nat} {fr:AFr} {H:AH} {q:AFr × AH} {i:Nat} (h:i<a):∀ (f:Nat) (c:List (Nat × Nat)),(VK a fr H q f c)[i]? = some i
 | 0,c=>by
  show (iota 0 a++_)[i]? = _;have:=yh (k:=0) (n:=a) (i:=i) h;grind
 | f+1,c=>CD h f _
def gl (hT:bh P G.shp T) {e:Nat} {fr:AFr} {F:Fr} {q:AFr × AH} (m:ρ0.length<=e) (h:St G ro ρ0 w0 fr H F w) (a:jw (Dh T e fr H q)) :
  ∃ d,St G ro ρ0 w0 q.1 q.2 d w/\∀ i v,look d i=some v->look F i=some v:=by
 obtain ⟨ρ,o,f,s⟩:=h;replace a:=ew.1 a;have g:=bH.1 fun p c=>a p (acz _ (acz _ c));rw [Bool.and_eq_true] at g;obtain ⟨d,u,x⟩:=FM (σ:=VK e fr H q 3 []) f rfl s fun p c=>a p (acz _ (acB _ c));have y:=nD hT f rfl g.2 fun p c=>a p (acB _ c);exact ⟨d,⟨_,QJ o fun i z=>CD aE 3 [],y,u⟩,x⟩
end
theorem js {R:Prop}:∀ {l:List Prop},uB l R↔(∀ p ∈ l,p)/\R
 | []=>by simp [uB]
 | p :: l=>by simp only [uB,js,agr,and_assoc]
theorem ez {R:Prop}:∀ {l:List Prop},kL l R↔((∀ p ∈ l,p)->R)
 | []=>by simp [kL]
 | p :: l=>by simp only [kL,ez,agr,and_imp]
section
variable {P:Program} {T:List (Nat × TI)} {G:Gl} {O:bP} {Q:Exit->Act->World->Prop} {n:Nat} {ro:Lv} {l:List Oper} {ρ0:List RE} {w0:World}
variable {w:World}
theorem KQ (x:Rep G ρ H w) {a:AV} {v:Value} (h:Rd (cx G ρ w) ρ a v) {s:Sh} {q:List (den s)} (d:a.vw H = .fz s q):∃ A m c,v = .slice A m c/\(A.isNone=true->q=[]):=by
 cases a <;> simp only [AV.vw] at d <;> try cases d
 case fz=>
  cases h with
  | fz D f F I J=>
   grind
 case own id=>
  split at d
  ·rename_i t y B u;cases d;rcases h with ⟨g,e,len,z,h,rfl⟩ | ⟨h,A,rfl⟩
   ·grind
   refine ⟨_,_,_,rfl,fun _=>?_⟩;rcases bE x u with ⟨_,f⟩ | ⟨g,e,p,K,f,_⟩
   ·exact f
   grind
  cases d
 case sub id o k=>
  split at d
  ·rename_i t y B u;rcases h with ⟨g,e,L,z,h,_,rfl⟩ | ⟨h,rfl,rfl,A,rfl⟩
   ·exact ⟨_,_,_,rfl,fun C=>by cases C⟩
   grind
  cases d
variable {op:Op} {ty:TypeId} {F:Fr}
def SS (hT:bh P G.shp T) (K:Rep G ρ H w) {fr:AFr} (I:FrR (cx G ρ w) ρ fr F) {s:Sh} {C:List (den s)} {J:Bool} (h:Zh T H fr op=some ⟨s,C,J⟩):∃ b,aF P n F w op ty (.bool (aae J b).val) w/\(b=true->C=[]):=by
 unfold Zh at h;split at h
 ·rename_i W t x y X;have g:∀ {a:AV} {e D sz z},a_ T t=some ⟨.sl e D,sz,z⟩->dh fr x=some (.one (.c a))->dh fr y=some (.one (.c (.em true)))->a.vw H = .fz s C->∃ A m c,ev F x=some (.slice A m c)/\ev F y=some (.slice none 0 0)/\P.underlying t=some (.slice e)/\(A.isNone=true->C=[]):=by
   intro a e D sz z d o p q;obtain ⟨Y,u,v⟩:=aq I o;obtain ⟨vb,B,f⟩:=aq I p;obtain ⟨A,m,c,rfl,L⟩:=KQ K v q;have f:Pd (cx G ρ w) (.em true) vb:=f;cases f with
   | @em b N S=>
    cases N with
    | none=>exact ⟨A,m,c,u,B,(hT _ _ d).2.1,L⟩
    | some _=>cases S
  split at h
  ·rename_i e D sz z a d o p;split at h
   ·rename_i U V q;cases h;obtain ⟨A,m,c,u,v,B,f⟩:=g d o p q;exact ⟨A.isNone,R.Mw u v B,f⟩
   cases h
  ·rename_i e D sz z a d o p;split at h
   ·rename_i U V q;cases h;obtain ⟨A,m,c,u,v,B,f⟩:=g d o p q;exact ⟨A.isNone,R.LS u v B,f⟩
   cases h
  cases h
 cases h
theorem m_ {k:Int} {ok:Bool} {K:TV->Prop}:∀ {l:List (Int × AV)},xi k ok K l->K (match lookF k l with
  | some a=>Is ok a true
  | none=>Is ok .nf false)
 | [],h=>h
 | (j,a) :: r,h=>by
  simp only [lookF];by_cases c:k=j
  ·rw [if_pos c]; exact h.1 c
  rw [if_neg c]; exact m_ (h.2 c)
def AA (hT:bh P G.shp T) (B:Rep G ρ H w) {fr:AFr} (A:FrR (cx G ρ w) ρ fr F) {m:MpR} (h:mapA T H fr op=some m):∃ v,aF P n F w op ty v w/\Rt (cx G ρ w) ρ (match lookF m.k m.l with
  | some a=>Is m.ok a true
  | none=>Is m.ok .nf false) v:=by
 unfold mapA at h;split at h
 ·rename_i t x y ok;split at h
  ·rename_i id k p C D;split at h
   ·rename_i l q;cases h;obtain ⟨I,J,_,K⟩:=(hT _ _ p).2;obtain ⟨Z,L,N⟩:=aq A C;obtain ⟨vb,S,U⟩:=aq A D;cases U with | int=>
    obtain ⟨g,V,rfl⟩:=N;obtain ⟨b,d,s⟩:=B.at_ (bM q aa);rw [V] at d; cases d;obtain ⟨i,e,a,c,W,X,Y⟩:=s;cases e;have f:=R.q_ (P:=P) (n:=n) (ty:=ty) ok L S I J (K rfl) W X;refine ⟨_,f,?_⟩;have o:=Y k;cases u:getM k a.toList <;> cases z:lookF k l <;> rw [u,z] at o
    ·cases ok with
     | false=>exact (rfl:(_:Value)=_)
     | true=>exact ⟨_,rfl,.cons rfl (.cons (Pd.bool (e:=.lit false)) .nil)⟩
    ·exact o.elim
    ·exact o.elim
    cases ok with
    | false=>exact o
    | true=>exact ⟨_,rfl,.cons o (.cons (Pd.bool (e:=.lit true)) .nil)⟩
   cases h
  cases h
 cases h
theorem rI {l:List Oper} {fr:AFr} {j:Nat} {w:Bool}:∀ {a:List Oper} {c:List Nat},Di l fr j w c a=true->∀ o ∈ a,iY fr o.dst=true
 | [],_,_,o,ho=>by cases ho
 | x :: r,c,h,o,ho=>by
  simp only [Di,Bool.and_eq_true] at h;rcases acw.1 ho with rfl | ho
  ·exact h.1.1
  exact rI h.2 o ho
theorem GW {n j:Nat} {w:Bool}:∀ {a:List Oper},kB n a=true->kB n (a.map (QP j w))=true
 | [],h=>h
 | x :: r,h=>by
  simp only [kB,afV,Bool.and_eq_true] at h ⊢;refine ⟨?_,GW h.2⟩;have e:(QP j w x).dst=x.dst:=by unfold QP; rw [Bool.cond_eq_ite]; split <;> first | rfl | (split <;> rfl)
  grind
theorem l_ (hT:bh P G.shp T) (hO:aA P G.shp O) {K:AFr->AH->Prop} (hK:∀ fr H F w,K fr H->St G ro ρ0 w0 fr H F w->WX Q n .normal F w) :
  ∀ (m:Nat) (ops:List Oper) (fr:AFr) (H:AH) (F:Fr) (w:World),kB n ops=true->wpOps T O ro l K m ops fr H->St G ro ρ0 w0 fr H F w->WO P Q n l ops F w
 | 0,_,_,_,_,_,_,h,_=>h.elim
 | _+1,[],fr,H,F,w,_,h,hs=>WO.nil (hK fr H F w h hs)
 | m+1,o :: f,fr,H,F,w,hd,h,hs=>by
  have ih:=l_ hT hO hK m;have hs0:=hs;obtain ⟨ρ,hS,D,p⟩:=hs;have N:=k_ hd o aa;have S:kB n f=true:=by simp only [kB,Bool.and_eq_true] at hd; exact hd.2
  obtain ⟨dst,op,ty,pos,af,g⟩:=o;simp only [wpOps] at h;split at h
  ·-- no guard
   split at h
   ·-- an element of what nobody writes
    rename_i s xs i q;unfold atA at q;split at q
    ·rename_i t x y;split at q
     ·rename_i s1 xs1 b s2 hx hy hsl;split at q
      ·rename_i i' hdc hix;cases q;have hss:s2=s:=acx hdc;subst hss;obtain ⟨h0,h1,h2⟩:=h;obtain ⟨va,h3,h4⟩:=aq p hx;obtain ⟨vb,h5,h6⟩:=aq p hy;obtain ⟨k,rfl⟩:=pK hix h6;obtain ⟨e,hu,_,_,hsz,_⟩:=DN hT hsl;obtain ⟨j,rfl⟩:=aa5 h0;have hj:j<xs.length:=by omega
       have hxj:=List.getElem?_eq_getElem hj;obtain ⟨A,kk,rfl,_,hfe,us,hus⟩:=Rc (ρ:=ρ) h4 hxj;have h7:=ez.1 (h2 _ (by rw [afM]; exact hxj)) hus.oQ;refine WO.y (φ:=fun v L=>v = .pointer (some (A.add (j*s2.size)))/\L = w) (.inl ⟨_,_,R.jR h3 h5 hu hsz rfl hj,rfl,rfl⟩) N fun v L ⟨e1,e2⟩=>?_;subst e1; subst e2;refine ih f _ H _ _ S h7 ⟨ρ,hS,D,?_⟩;cases dst with
       | some d=>exact .cons ⟨rfl,hfe⟩ p
       | none=>exact p
      cases q
     cases q
    cases q
   split at h
   ·-- a comparison to nil
    rename_i s xs ne hnl;obtain ⟨b,U,hb⟩:=SS (n:=n) (ty:=ty) hT D p hnl;refine WO.y (φ:=fun v L=>v = .bool (aae ne b).val/\L = w) (.inl ⟨_,_,U,rfl,rfl⟩) N fun v L ⟨e1,e2⟩=>?_;subst e1; subst e2;refine ih f _ H _ _ S (h b hb) ⟨ρ,hS,D,?_⟩;cases dst with
    | some d=>exact .cons ⟨rfl,Pd.bool⟩ p
    | none=>exact p
   split at h
   ·-- a map of functions
    rename_i m0 hmp;obtain ⟨v0,U,hv0⟩:=AA (n:=n) (ty:=ty) hT D p hmp;refine WO.y (φ:=fun v L=>v=v0/\L = w) (.inl ⟨_,_,U,rfl,rfl⟩) N fun v L ⟨e1,e2⟩=>?_;subst e1; subst e2;refine ih f _ H _ _ S (m_ h) ⟨ρ,hS,D,?_⟩;cases dst with
    | some d=>exact .cons ⟨rfl,hv0⟩ p
    | none=>exact p
   split at h
   ·-- a step that changes nothing
    rename_i r hpv;obtain ⟨V,h⟩:=js.1 h;refine WO.y (ua (ty:=ty) hT hO D p hpv V) N fun v w1 ⟨C,hv1,W⟩=>?_;refine ih f _ H _ _ S (ez.1 h W) ⟨ρ,hS.trans (Stp.kp D C),D.kp C,?_⟩;cases dst with
    | some d=>exact .cons ⟨rfl,hv1⟩ (p.kp C)
    | none=>exact p.kp C
   split at h
   ·rename_i r hst hsv;obtain ⟨V,h⟩:=js.1 h;have key:∀ v L,eN G ro ρ w r F v L -> WO P Q n l f (jj dst v F) L:=by
     rintro v L ⟨ρ',k1,k2,k3,k4,k5⟩;refine ih f _ _ _ _ S (ez.1 h k5) ⟨ρ',hS.trans k1,k2,?_⟩;cases dst with
     | some d=>exact .cons ⟨rfl,k4⟩ k3
     | none=>exact k3
    rcases Nh (ty:=ty) hT hO D p hsv V with hy | ⟨e,L,hsk,haf⟩
    ·exact WO.y hy N key
    cases dst with
    | some d=>simp [UP,e] at hst
    | none=>exact WO.s hsk (key _ _ haf)
   exact h.elim
  rename_i g0 j wt;split at h
  ·rename_i r hgr;obtain ⟨V,h⟩:=js.1 h;have:=EJ (tl:=[]) (G:=G) (Q:=Q) (n:=n) (l:=l) (ρ:=ρ) (H:=H) (nT hT hO m) hgr (fun _ _ e=>by cases e) V hd D p fun w1 C W hFd hfd hf1 hbd hdt=>by
    rw [ad8];exact ih r.tail _ H _ _ hdt (ez.1 h W) ⟨ρ,hS.trans (Stp.kp D C),D.kp C,.cons ⟨rfl,Pd.bool⟩ hf1⟩
   rwa [ad8] at this
  split at h
  ·-- a group,in two ways
   rename_i r B;obtain ⟨hon,c⟩:=h;unfold ad_ at B;split at B
   ·rename_i t hj;split at B
    ·rename_i e grp pk tail he hsp;split at B
     ·rename_i z x y d hck hpk hpd;cases B;simp only [Bool.and_eq_true] at hck;obtain ⟨⟨X,hpg⟩,I⟩:=hck;obtain ⟨hops,hip⟩:=pG hsp;replace hpg:=yu hpg;replace he:=dL he;rw [hops] at hd;rw [hops];obtain ⟨vt,Y,hvr⟩:=eH p he;cases hvr with | bool=>
      obtain ⟨hd1,Z⟩:=oq.1 hd;have hd3:kB n tail=true:=by simp only [kB,Bool.and_eq_true] at Z; exact Z.2
      have hdd:Nat.blt d n=true:=k_ Z pk aa d hpd;rw [hpd] at I;have hFd:look F d=none:=ig p I d rfl;obtain ⟨dst,op,ty,pos,af,pg⟩:=pk;simp only at hpk hpd hpg hon c;subst hpk; subst hpd; subst hpg;have hz:z = .tmp t:=by
       cases z <;> simp only [oP] at hip
       ·rw [aaF hip]
       all_goals cases hip
      subst hz;by_cases hew:e.val=wt
      ·rw [hew] at Y;refine WO.split (t:=t) hj Y (fun o ho d' hd' e=>?_) (ih _ _ H _ _ ?_ (hon ((BE.fB e wt).2 hew)) ⟨ρ,hS,D,p⟩)
       ·have:=ig p (rI X o ho) d' hd';rw [e,Y] at this; cases this
       refine oq.2 ⟨GW hd1,?_⟩;simp only [kB,Bool.and_eq_true] at Z ⊢;exact Z
      have J:e.val = !wt:=by revert hew; cases e.val <;> cases wt <;> simp
      have c:=c ((BE.fB e _).2 J);split at c
      ·rename_i v hv;refine lU (us:=[]) p hj Y J X hd1 aa ?_;obtain ⟨u,hu,hr⟩:=aq p hv;have k:=ih tail ((d,v) :: fr) H ((d,u) :: F) _ hd3 c ⟨ρ,hS,D,.cons ⟨rfl,hr⟩ p⟩;have hl:ev F (.tmp t)=some (.bool e.val):=Y;cases wt with
       | true=>exact WO.v (R.CB hl J hu) hdd k
       | false=>exact WO.v (R.AL hl J hu) hdd k
      exact c.elim
     cases B
    cases B
   cases B
  exact h.elim
def eD (n:Nat):Code->Bool
 | .seq a b=>eD n a && eD n b
 | .cond _ a b=>eD n a && eD n b
 | .block _ a=>eD n a
 | .loop a=>eD n a
 | .scope a=>eD n a
 | .region _ c _=>kB n c.toList
 | _=>true
theorem zD {c:Cx} {ρ:List RE} {fr:AFr} {F:Fr} (h:FrR c ρ fr F):∀ l:List Nat,∃ a,FrR c ρ (du fr l) a/\∀ i v,look a i=some v->look F i=some v
 | []=>⟨[],.nil,fun i v h=>by cases h⟩
 | t :: r=>by
  obtain ⟨a,d,m⟩:=zD h r;unfold du;split
  ·rename_i v e;obtain ⟨u,o,f⟩:=eH h e;refine ⟨(t,u) :: a,.cons ⟨rfl,f⟩ d,fun i x g=>?_⟩;rw [aW] at g;grind
  grind
def NI (P:Program) (T:List (Nat × TI)) (G:Gl) (O:bP) (n:Nat) (ro:Lv) (ρ0:List RE) (w0:World):Prop:=
 ∀ (Q:Exit->Act->World->Prop) (c id:Nat) (L:List (Nat × LI)) (a:Array Oper) (K:Exit->AFr->AH->Prop) (fr:AFr) (H:AH) (F:Fr) (w:World),kB n a.toList=true->jb T O ro c L (.region id a true) K fr H->St G ro ρ0 w0 fr H F w ->
  (∀ fr H F w,K .normal fr H->St G ro ρ0 w0 fr H F w->WX Q n .normal F w)->WC P Q n (.region id a true) F w
theorem wZ (hT:bh P G.shp T) (hO:aA P G.shp O) (B:NI P T G O n ro ρ0 w0) {k0:Nat} (C:ρ0.length<=k0) {L:List (Nat × LI)} :
  ∀ (c:Code) (Q:Exit->Act->World->Prop) (K:Exit->AFr->AH->Prop) (fr:AFr) (H:AH) (F:Fr) (w:World),eD n c=true->jb T O ro k0 L c K fr H->St G ro ρ0 w0 fr H F w ->
   (∀ e fr H F w,K e fr H->St G ro ρ0 w0 fr H F w->WX Q n e F w)->WC P Q n c F w:=by
 intro c;induction c <;> intro Q K fr H F w g h d hK
 case skip=>exact WC.skip (hK _ _ _ _ _ h d)
 case seq a b f p=>
  simp only [eD,Bool.and_eq_true] at g;refine WC.seq (f _ _ fr H F w g.1 h d fun e fr H F w h d=>?_);cases e with
  | normal=>exact WX.next (p _ _ fr H F w g.2 h d hK)
  | _=>exact hK _ fr H F w h d
 case cond c a b f p=>
  simp only [eD,Bool.and_eq_true] at g;obtain ⟨ρ,V,W,A⟩:=d;have d:St G ro ρ0 w0 fr H F w:=⟨ρ,V,W,A⟩;simp only [jb] at h;split at h
  ·rename_i D;obtain ⟨v,q,u⟩:=aq A (dL D);cases u with | bool=>
   exact WC.Ff q (f _ _ fr H F w g.1 h d hK)
  ·rename_i D;obtain ⟨v,q,u⟩:=aq A (dL D);cases u with | bool=>
   exact WC.adL q (p _ _ fr H F w g.2 h d hK)
  ·rename_i e _ _ D;obtain ⟨v,q,u⟩:=aq A (dL D);cases u with | bool=>
   exact WC.cond q (fun X=>f _ _ fr H F w g.1 (h.1 ((BE.fB e true).2 X)) d hK) (fun X=>p _ _ fr H F w g.2 (h.2 ((BE.fB e false).2 X)) d hK)
  grind
 case block i a f=>
  refine WC.block (f _ _ fr H F w g h d fun e fr H F w h d=>?_);cases e with
  | exit j=>
   simp only at h;intro x o;show (if j=i then Q .normal x w else Q (.exit j) x w);cases Y:Nat.beq j i <;> rw [Y] at h
   ·have:j≠i:=by rintro rfl; simp at Y
    rw [if_neg this];exact hK _ fr H F w h d x o
   rw [if_pos (aaF Y)];exact hK _ fr H F w h d x o
  | _=>exact hK _ fr H F w h d
 case loop a f=>
  simp only [jb] at h;split at h
  ·rename_i I hI;split at h
   ·rename_i m l _;intro x o;refine r_ (fun N w m=>∃ fr H F,ab1 (jb T O ro k0 L a) K l m fr H/\M n F N /\ St G ro ρ0 w0 fr H F w) id m ⟨fr,H,F,h,o,d⟩ fun m N w B=>?_;obtain ⟨fr,H,F',hu,Z,y⟩:=B;cases m with
    | zero=>exact hu.elim
    | succ m=>
     obtain ⟨k,V,W,A⟩:=y;obtain ⟨S,r,U⟩:=zD A l;exact f _ _ _ _ S w g hu ⟨k,V,W,r⟩ (fun e fr H F w h d=>by
      cases e with
      | normal=>exact fun x o=>⟨m,⟨fr,H,F,h,o,d⟩,Nat.lt_succ_self m⟩
      | _=>exact hK _ fr H F w h d) N (Z.sub U)
   obtain ⟨s0,q,u,t⟩:=h;obtain ⟨hr0,t⟩:=LI.EY.1 t;intro x o;obtain ⟨S,h7,h8⟩:=gl hT C d q;refine r_ (fun a w s=>I.J s/\I.rel s0 s/\∃ F,M n F a/\St G ro ρ0 w0 (I.F s).1 (I.F s).2 F w) I.μ s0 ⟨u,hr0,S,o.sub h8,h7⟩ fun s N w B=>?_;obtain ⟨hJ,hrl,F',Z,y⟩:=B;exact f _ _ _ _ F' w g (LI.SF.1 (t s hJ) hrl) y (fun e fr H F w h d=>by
    cases e with
    | normal=>
     obtain ⟨s',h4,h5,h6⟩:=h;obtain ⟨h9,h6⟩:=LI.EY.1 h6;obtain ⟨S,h7,h8⟩:=gl hT C d h4;exact fun x o=>⟨s',⟨h5,h9,S,o.sub h8,h7⟩,h6⟩
    | _=>exact hK _ fr H F w h d) N Z
  exact h.elim
 case exit i=>exact WC.exit (hK _ _ _ _ _ h d)
 case ret=>exact WC.ret (hK _ _ _ _ _ h d)
 case scope a f=>
  refine fun x o=>Iw (f (Exit.noGoto Q) _ fr H F w g h d (fun e fr H F w h d=>?_) x o);cases e with
  | goto i=>exact h.elim
  | _=>exact hK _ fr H F w h d
 case label i=>exact WC.label (hK _ _ _ _ _ h d)
 case region i z b=>
  cases b with
  | true=>exact B Q k0 i L z K fr H F w g h d fun fr H F w=>hK _ fr H F w
  | false=>
   have e:z=z.toList.toArray:=by simp
   rw [e];exact WC.region (l_ hT hO (fun fr H F w=>hK _ fr H F w) _ _ fr H F w g h d)
 all_goals exact h.elim
end
def ZP (n:Nat) (a:List (Nat × Nat)):Nat->Nat->List Nat
 | _,0=>[]
 | k,m+1=>FW n a k :: ZP n a (k+1) m
def kV:AO->Bool
 | .row _ _ _=>true
 | _=>false
def idR (a:AH) (c:List (Nat × Nat)):Nat->Nat->List Nat
 | _,0=>[]
 | k,m+1=>(bif kV (getO a k) then FW k c k else k) :: idR a c (k+1) m
def JA (e:AH) (a:Nat) (H:AH) (l g:List TV1) (d:AH):Nat->List (Nat × Nat)->List Nat
 | 0,c=>idR e c 0 a++ZP H.length c a (d.length - a)
 | f+1,c=>JA e a H l g d f (EA l g++Lg H (idR e c 0 a++ZP H.length c a (d.length - a)) d)
def Zt (T:List (Nat × TI)) (d:AH) (e:Nat) (f:Func) (a:List TV1) (c:AH) (fr:AFr) (H:AH):List Prop:=
 match uA T fr H f.results.toList with
 | some l=>match JA d e H l a c 3 [] with
  | σ=>same (mJ H.length σ)++Cs H H.length σ l a++Zz T H H.length σ σ c
 | none=>[False]
def endE (T:List (Nat × TI)) (a:AH) (c:Nat) (d:Func) (e:List TV1) (f:AH) (fr:AFr) (H:AH):Prop:=jw (Zt T a c d e f fr H)
def wpB (b:Bool) (T:List (Nat × TI)) (O:bP) (L:List (Nat × LI)) (a:Func) (args:List TV1) (H:AH) (d:List TV1) (f:AH):Prop:=
 match a.body with
 | some c=>kL (JV args) (jb T O (gF (bif b then H.length else 0)) H.length L c (fun e fr K=>match e with
  | .ret=>endE T (bif b then [] else H) H.length a d f fr K
  | .normal=>endE T (bif b then [] else H) H.length a d f fr K
  | _=>False) (tX 0 args) H)
 | none=>False
def wpE:=wpB false
def wpN:=wpB true
section
variable {P:Program} {T:List (Nat × TI)} {G:Gl} {O:bP} {n:Nat} {ρ:List RE} {H:AH} {w:World} {fr:AFr} {F:Fr}
theorem nU {c:Cx}:∀ {args:List TV1} {a:List Value} {k:Nat},All2 (di c ρ) args a->FrR c ρ (tX k args) (wg k a)
 | [],_,_,h=>by cases h; exact .nil
 | _ :: _,_,_,h=>by cases h with | cons d e=>exact .cons ⟨rfl,d⟩ (nU e)
def Uu (c:Array Value):ResultVar->Sem Value
 | .tmp t=>pure (c.getD t undef)
 | .cell a t=>do loadVar t (<- asAddr (c.getD a undef))
def Qt {v u:Value} (h:aF P 0 [] w (.load t (.const v)) 0 u w):(do loadVar t (<- asAddr v)).run P w = .ok u w:=by
 replace h:=h ⟨#[],[]⟩ none "" #[] none ⟨rfl,rfl,fun _ _ h=>by cases h⟩;have e:(⟨#[],[]⟩:Act).eval (.const v)=v:=rfl;simp only [execOp,e,Instr.loadAt] at h;cases v;case pointer a=>
  cases a with
  | none=>simp [Instr.sureAddr] at h
  | some a=>
   simp only [Instr.sureAddr,asAddr,pure_bind] at h ⊢;rw [Sem.run_bind] at h;cases c:(loadVar t a).run P w with
   | ok x d=>rw [c] at h; simp at h; rw [h.1,h.2]
   | halt x d=>rw [c] at h; simp at h
 all_goals simp [Instr.sureAddr] at h
theorem tC (hT:bh P G.shp T) (e:Rep G ρ H w) (f:FrR (cx G ρ w) ρ fr F) {a:Act} (g:M n F a):∀ {I:List ResultVar} {l:List TV1},uA T fr H I=some l ->
  ∃ d,All2 (di (cx G ρ w) ρ) l d/\(I.mapM (Uu a.tmps)).run P w = .ok d w
 | [],l,h=>by cases h; exact ⟨[],.nil,rfl⟩
 | .tmp t :: r,l,h=>by
  simp only [uA] at h;split at h
  ·rename_i J K o q;cases h;obtain ⟨d,s,y⟩:=tC hT e f g q;obtain ⟨v,z,m⟩:=eH f o;refine ⟨v :: d,.cons m s,?_⟩;have A:=g.at_ z;simp [Uu,y,A]
  cases h
 | .cell p t :: r,l,h=>by
  simp only [uA] at h;split at h
  ·rename_i N K o q;split at h
   ·rename_i J Q c;cases h;obtain ⟨d,s,y⟩:=tC hT e f g q;obtain ⟨v,z,m⟩:=eH f o;obtain ⟨u,B,C⟩:∃ u,aF P 0 [] w (.load t (.const v)) 0 u w/\Rt (cx G ρ w) ρ (.one J) u:=by
     unfold WU at c;split at c
     ·rename_i D;cases c;obtain ⟨u,B,C,_⟩:=pW (P:=P) (F:=[]) (n:=0) (ty:=0) (x:=.const v) hT e m rfl D aa;grind
     obtain ⟨u,B,C,_,_⟩:=Ao (P:=P) (F:=[]) (n:=0) (ty:=0) (x:=.const v) hT e m rfl c;grind
    have L:=Qt B;refine ⟨u :: d,.cons C s,?_⟩;have A:a.tmps.getD p undef=v:=(g.2.2 p v z).2;rw [List.mapM_cons,Sem.run_bind];simp only [Uu,A,L];simp [y]
   cases h
  cases h
variable {fn:Func}
def kK (hT:bh P G.shp T) (f:Rep G ρ H w) (g:FrR (cx G ρ w) ρ fr F) {a:Act} (m:M n F a) {l:List TV1} (h:uA T fr H fn.results.toList=some l) :
  ∃ c,All2 (di (cx G ρ w) ρ) l c/\(results fn a.tmps).run P w = .ok (Cq c) w:=by
 obtain ⟨c,o,p⟩:=tC hT f g m h;refine ⟨c,o,?_⟩;have e:results fn a.tmps=(do let d <- fn.results.mapM (Uu a.tmps); pure (if h:d.size=1 then d[0] else .tuple d)):=rfl;have q:fn.results=fn.results.toList.toArray:=by simp
 rw [e,q,List.mapM_toArray];simp only [Sem.run_bind,p,map_eq_pure_bind];cases c with
 | nil=>rfl
 | cons u c=>
  cases c with
  | nil=>rfl
  | cons s c=>rfl
def xq (h:i<k):Nat.ble k i=false:=by
 rw [<- Bool.not_eq_true,Nat.ble_eq]; omega
def vE {m:Nat} (h:k<=m) (i:Nat) (a:(gF k).wr i=false\/(gF k).mv i=false):i<m:=by
 have:Nat.ble k i=false:=a.elim id id;rw [<- Bool.not_eq_true,Nat.ble_eq] at this; omega
def xF (P:Program) (shp:TypeId->Option Sh) (T:List (Nat × TI)) (O:bP):Prop:=∀ (G:Gl) (n:Nat) (c:Lv) (a:List RE) (d:World),G.shp=shp->(∀ i,c.wr i=false\/c.mv i=false->i<a.length)->NI P T G O n c a d
variable {pre:List Prop} {shp:TypeId->Option Sh} {L:List (Nat × LI)} {rs args:List TV1} {f:Nat}
theorem Sat.aap (hT:bh P shp T) (W:aA P shp O) (X:xF P shp T O) (s:P.funcs[f]? = some fn) (D:(fn.name == "runtime.NumGoroutine")=false)
  (p:(match fn.body with
   | some c=>eD fn.ntmps c && Nat.ble args.length fn.ntmps
   | none=>false)=true) (h:Xx T O L fn args H rs):Sat P shp f args H ⟨pre,rs,none,false⟩:=by
 cases g:fn.body with
 | none=>rw [g] at p; cases p
 | some c=>
 rw [g] at p;simp only [Bool.and_eq_true] at p;refine ⟨⟨fn,s,D,by rw [g]; rfl⟩,?_⟩;intro G ρ w t u q m;subst u;simp only [Xx,g] at h;have h:=ez.1 h (Vl.oQ m);refine jT.enter s g rfl (by rw [<- m.length]; exact p.2) rfl (wZ hT W (X G _ _ ρ w rfl (vE (by rw [<- q.obj.length]; exact Nat.le_refl _))) (k0:=H.length) (by rw [<- q.obj.length]; exact Nat.le_refl _) c _ _ _ H _ w p.1 h ⟨ρ,Stp.refl _ _ _,q,nU m⟩ ?_);intro e fr I F A hK J;obtain ⟨K,o,y,Y⟩:=J;have z:∀ {l},uA T fr I fn.results.toList=some l->jw (Cs I I.length (iota 0 H.length) l rs)->∀ a,M fn.ntmps F a->a.defers=[]/\∃ v,(results fn a.tmps).run P A = .ok v A /\ ∃ x,Ending.returned v = .returned x/\∃ B,x=Cq B/\Kp [] w A /\ All2 (di (cx G ρ A) ρ) rs B:=by
  intro l d Z a U;obtain ⟨B,j,n⟩:=kK hT y Y U d;refine ⟨U.1,_,n,_,rfl,B,rfl,?_,?_⟩
  ·refine ⟨o.ext.os,o.ext.tape,o.ext.output,o.ext.size,fun b g _=>?_⟩;by_cases d:live ρ b
   ·obtain ⟨i,r,C,N⟩:=d;exact (o.pro i r (xq (by rw [q.obj.length]; exact (aaw.1 C).1)) C).2 b N
   exact (o.ext.old b g d).2
  have C:=oE y rfl j (ew.1 Z);have N:cV K (iota 0 H.length)=ρ:=by
   refine List.ext_getElem? fun i=>?_;by_cases Q:i<H.length
   ·have V:i<ρ.length:=by rw [<- q.obj.length]; exact Q
    rw [List.getElem?_eq_getElem V];exact dt (by have:=yh (k:=0) Q; rwa [acC] at this) (o.pro i _ (xq Q) (List.getElem?_eq_getElem V)).1
   rw [List.getElem?_eq_none (by simp [cV,zb]; omega),List.getElem?_eq_none (by rw [<- q.obj.length]; omega)]
  rwa [N] at C
 cases e with
 | ret=>
  simp only at hK;split at hK
  ·rename_i l d; exact fun a S=>z d hK a S
  grind
 | normal=>
  simp only at hK;split at hK
  ·rename_i l d; exact fun a S=>z d hK a S
  exact hK.elim
 | _=>exact hK.elim
theorem QW {c:AH} {ps:List (Nat × Nat)}:∀ {m k i:Nat},i<m->kV (getO c (k+i))=false->(idR c ps k m)[i]? = some (k+i)
 | m+1,k,0,_,a=>by
  rw [ahH] at a;simp [idR,a]
 | m+1,k,i+1,h,a=>by
  have:=QW (ps:=ps) (m:=m) (k:=k+1) (i:=i) (Nat.lt_of_succ_lt_succ h) (by rw [show k+1+i=k+(i+1) by omega]; exact a);rw [show k+(i+1)=k+1+i by omega,<- this]; rfl
theorem ot {a:AH} {c:Nat} {K:AH} {l rs:List TV1} {e:AH} {i:Nat} (h:i<c) (d:kV (getO a i)=false):∀ (f:Nat) (ps:List (Nat × Nat)),(JA a c K l rs e f ps)[i]? = some i
 | 0,ps=>by
  show (idR a ps 0 c++_)[i]? = _;have:=QW (ps:=ps) (k:=0) h (by rw [acC]; exact d);grind
 | f+1,ps=>ot h d f _
variable {b:Bool}
theorem WL (c:Rep G ρ H w) {g:Nat} (d:ρ[i]? = some (.blk g)):kV (getO (bif b then [] else H) i)=false:=by
 cases b
 ·show kV (getO H i)=false;cases e:getO H i with
  | row t s m=>
   obtain ⟨r,a,h⟩:=c.at_ (bM e aa);rw [d] at a; cases a;obtain ⟨_,_,h | ⟨_,_,_,_,h,_⟩⟩:=h
   ·grind
   cases h
  | _=>rfl
 show kV (getO [] i)=false;simp [getO,kV]
def Sat.ML {C:AH} (hT:bh P shp T) (k:aA P shp O) (n:xF P shp T O) (D:P.funcs[f]? = some fn) (U:(fn.name == "runtime.NumGoroutine")=false)
  (z:(match fn.body with
   | some c=>eD fn.ntmps c && Nat.ble args.length fn.ntmps
   | none=>false)=true) (h:wpB b T O L fn args H rs C):Sat P shp f args H ⟨pre,rs,some C,b⟩:=by
 cases m:fn.body with
 | none=>rw [m] at z; cases z
 | some c=>
 rw [m] at z;simp only [Bool.and_eq_true] at z;refine ⟨⟨fn,D,U,by rw [m]; rfl⟩,?_⟩;intro G ρ w vs I A s;subst I;simp only [wpB,m] at h;have h:=ez.1 h (Vl.oQ s);refine jT.enter D m rfl (by rw [<- s.length]; exact z.2) rfl (wZ hT k (n G _ _ ρ w rfl (vE (by cases b <;> simp [A.obj.length]))) (k0:=H.length) (by rw [<- A.obj.length]; exact Nat.le_refl _) c _ _ _ H _ w z.1 h ⟨ρ,Stp.refl _ _ _,A,nU s⟩ ?_);intro e fr K F B hK V;obtain ⟨d,o,u,t⟩:=V;have J:endE T (bif b then [] else H) H.length fn rs C fr K->∀ a,M fn.ntmps F a->a.defers=[]/\∃ v,(results fn a.tmps).run P B = .ok v B /\ ∃ x,Ending.returned v = .returned x/\∃ Q,x=Cq Q /\
   ∃ d,Rep G d C B /\ Ext ρ w d B /\ (∀ (i g:Nat),ρ[i]? = some (.blk g)->d[i]? = some (.blk g))/\All2 (di (cx G d B) d) rs Q/\(b=true->Kp [] w B /\ ∀ (i:Nat) (q:RE),ρ[i]? = some q->d[i]? = some q):=by
  intro hE a Z;unfold endE Zt at hE;split at hE
  ·rename_i l S;obtain ⟨Q,h1,h2⟩:=kK hT u t Z S;replace hE:=ew.1 hE;refine ⟨Z.1,_,h2,_,rfl,Q,rfl,cV d (JA (bif b then [] else H) H.length K l rs C 3 []),?_,nn o.ext,fun i g W=>?_,?_,fun m=>?_⟩
   ·exact nD hT u rfl (bH.1 fun p N=>hE p (acz _ (acz _ N))) fun p N=>hE p (acB _ N)
   ·exact dt (ot (by rw [A.obj.length]; exact (aaw.1 W).1) (WL A W) _ _) (o.bx i g W)
   ·exact oE u rfl h1 fun p N=>hE p (acz _ (acB _ N))
   subst m;have y:∀ (i:Nat) (q:RE),ρ[i]? = some q->i<H.length:=fun i q h=>by rw [A.obj.length]; exact (aaw.1 h).1
   refine ⟨⟨o.ext.os,o.ext.tape,o.ext.output,o.ext.size,fun b m _=>?_⟩,fun i q X=>?_⟩
   ·by_cases S:live ρ b
    ·obtain ⟨i,r,j,h4⟩:=S;exact (o.pro i r (xq (y i r j)) j).2 b h4
    exact (o.ext.old b m S).2
   exact dt (ot (y i q X) rfl _ _) (o.pro i q (xq (y i q X)) X).1
  exact (show False from hE).elim
 cases e with
 | ret=>exact fun a Y=>J hK a Y
 | normal=>exact fun a Y=>J hK a Y
 | _=>exact hK.elim
end
theorem iP:∀ {ds:List DV} {i:Nat},xA ds i=ds[i]?
 | [],_=>rfl
 | _ :: _,0=>rfl
 | _ :: r,i+1=>by simpa [xA] using iP (ds:=r) (i:=i)
theorem fp {sl:List Nat}:∀ {ds:List DV} {k j:Nat},j ∈ d_ sl k ds↔∃ i a,j=k+i/\ds[i]? = some a/\a.d ∈ sl
 | [],k,j=>by simp [d_]
 | a :: r,k,j=>by
  have g:=fp (sl:=sl) (ds:=r) (k:=k+1) (j:=j);have c:(∃ i b,j=k+i/\(a :: r)[i]? = some b/\b.d ∈ sl)↔(j=k/\a.d ∈ sl)\/j ∈ d_ sl (k+1) r:=by
   rw [g];constructor
   ·grind
   rintro (⟨m,f⟩ | ⟨i,b,m,f,o⟩)
   ·simp_all
   exact ⟨i+1,b,aE,by simpa using f,o⟩
  rw [c,show d_ sl k (a :: r)=(bif cd a.d sl then k :: d_ sl (k+1) r else d_ sl (k+1) r) from rfl];cases e:cd a.d sl
  ·have:a.d ∉ sl:=fun h=>by rw [bw.2 h] at e; cases e
   simp [this]
  simp [bw.1 e]
def Kg (c:List DV) (d:List (Nat × Bool)):Prop:=∀ q ∈ d,∃ a e,c[q.1]? = some a/\a.v=one (.bool e)/\e.val=q.2
theorem qO {c:List DV}:∀ {o:List (Nat × Bool)} {g:BE},Rn c o=some g->(g.val=true↔Kg c o)/\∀ q ∈ o,∃ a e,c[q.1]? = some a/\a.v=one (.bool e)
 | [],g,h=>by cases h; simp [BE.val,Kg]
 | (j,d) :: r,g,h=>by
  simp only [Rn,iP] at h;split at h
  ·rename_i a A w x;split at h
   ·rename_i e p;cases h;obtain ⟨s,y⟩:=qO x;have p:=acD (dL p);refine ⟨?_,fun q hq=>?_⟩
    ·have z:Kg c ((j,d) :: r)↔e.val=d/\Kg c r:=by
      constructor
      ·intro h;refine ⟨?_,fun q hq=>h q (by simp [hq])⟩;obtain ⟨B,C,f,m,u⟩:=h (j,d) aa;simp only at f u;rw [w] at f; cases f;rw [p] at m;cases m;exact u
      rintro ⟨f,m⟩ q hq;rcases acw.1 hq with rfl | hq
      ·grind
      exact m q hq
     rw [z,<- s];cases d <;> simp [BE.val]
    grind
   cases h
  cases h
variable {ds:List DV}
theorem yH {a:DV} (h:(ds.take i)[j]? = some a):ds[j]? = some a/\j<i:=by grind
theorem zh {ds:List DV} {i:Nat}:∀ {c:List (Nat × Bool)} {g:BE},Rn (ds.take i) c=some g->Rn ds c=some g
 | [],g,h=>h
 | (j,f) :: r,g,h=>by
  simp only [Rn,iP] at h ⊢;split at h
  ·rename_i a m d e;rw [(yH d).1,zh e];exact h
  cases h
theorem vd:∀ {x y:List (Nat × Bool)},pY x y=true->∀ q ∈ x,q ∈ y
 | (i,a) :: r,(j,b) :: l,h,q,hq=>by
  simp only [pY,Bool.and_eq_true] at h;have c:=aaF h.1.1;rcases acw.1 hq with rfl | hq
  ·grind
  exact acs _ (vd h.2 q hq)
def xC {x y:List (Nat × Bool)} (h:pY x y=true) (k:Kg ds y):Kg ds x:=fun q a=>k q (vd h q a)
theorem v_ (g:BE):(zR g).val=g.val:=by fun_induction zR g <;> simp_all [BE.val]
variable {e:BE}
def DY {ob:List Prop} (h:∀ p ∈ ma e ob,p) (a:e.val=true):∀ p ∈ ob,p:=by
 unfold ma at h;split at h
 ·simp
 split at h
 ·exact h
 exact ew.1 (dR h ((BE.fB e true).2 a))
def tz {ob:List Prop} (h:e.val=true->∀ p ∈ ob,p):∀ p ∈ ma e ob,p:=by
 unfold ma;split
 ·simp
 split
 ·exact h rfl
 intro q a;rw [acr.1 a];exact fun c=>ew.2 (h ((BE.fB e true).1 c))
section
variable {P:Program} {T:List (Nat × TI)} {G:Gl} {O:bP} {n k:Nat} {l:List Oper} {ρ:List RE} {H:AH} {fr:AFr} {F:Fr} {ds:List DV} {vs:Nat->Value}
def DVal (G:Gl) (ρ:List RE) (ds:List DV) (a:DV) (u:Value) (w:World):Prop:=(∀ p ∈ a.fc,p)/\(Kg ds a.ch->Rt (cx G ρ w) ρ a.v u)/\(¬ Kg ds a.ch->u=undef)
variable {w:World} {a:DV}
def DVal.kp {u:Value} {c:World} (h:DVal G ρ ds a u w) (k:Kp [] w c):DVal G ρ ds a u c:=⟨h.1,fun d=>(h.2.1 d).carry (Kp.le k) (ky.refl _),h.2.2⟩
theorem yU {vs:Nat->Value} {t c:Nat} (o:idst l c=some t):∀ {deps:List Nat},(∀ j ∈ deps,∃ d,idst l j=some d)->(∀ j ∈ deps,idst l j=some t->j=c)->c ∈ deps->look (dz l F vs deps) t=some (vs c)
 | j :: r,m,p,h=>by
  obtain ⟨d,q⟩:=m j aa;simp only [dz,q];rw [aW];by_cases f:d=t
  ·grind
  rw [if_neg f];refine yU o (fun j g=>m j (by simp [g])) (fun j g=>p j (by simp [g])) ?_;grind
theorem EL {w:World} {p:List DV} (c:FrR (cx G ρ w) ρ fr F):∀ {deps:List Nat},(∀ j ∈ deps,∃ b,p[j]? = some b/\idst l j=some b.d/\Rt (cx G ρ w) ρ b.v (vs j))->FrR (cx G ρ w) ρ (Re p fr deps) (dz l F vs deps)
 | [],_=>c
 | j :: r,h=>by
  obtain ⟨b,f,g,m⟩:=h j aa;simp only [Re,iP,f,dz,g];exact .cons ⟨rfl,m⟩ (EL c fun j o=>h j (by simp [o]))
theorem vP {p:List DV} {c:List (Nat × Bool)}:∀ {deps:List Nat},ya p c deps=true->∀ j ∈ deps,∃ b,p[j]? = some b/\pY b.ch c=true
 | i :: r,h,j,hj=>by
  simp only [ya,iP,Bool.and_eq_true] at h;rcases acw.1 hj with rfl | hj
  ·grind
  exact vP h.2 j hj
structure DCtx (G:Gl) (ρ:List RE) (l:List Oper) (ds:List DV) (vs:Nat->Value) (p:List DV) (deps:List Nat) (w:World):Prop where
 pre:∀ (j:Nat) (a:DV),p[j]? = some a->ds[j]? = some a
 dst:∀ (j:Nat) (a:DV),ds[j]? = some a->idst l j=some a.d
 dist:∀ (i j:Nat) (a b:DV),ds[i]? = some a->ds[j]? = some b->a.d=b.d->i=j
 dep:∀ j ∈ deps,∃ a,p[j]? = some a/\DVal G ρ ds a (vs j) w
theorem DCtx.look {p:List DV} {deps:List Nat} {w:World} (h:DCtx G ρ l ds vs p deps w) {j:Nat} (m:j ∈ deps) {a:DV} (g:p[j]? = some a):look (dz l F vs deps) a.d=some (vs j):=by
 refine yU (h.dst j a (h.pre j a g)) (fun i f=>?_) (fun i f o=>?_) m
 ·obtain ⟨b,c,_⟩:=h.dep i f;exact ⟨_,h.dst i b (h.pre i b c)⟩
 obtain ⟨b,c,_⟩:=h.dep i f;have:=h.dst i b (h.pre i b c);rw [o] at this;exact h.dist i j b a (h.pre i b c) (h.pre j a g) (acD this).symm
variable {ch:List (Nat × Bool)} {deps:List Nat} {ty:TypeId}
theorem uN {Q:Exit->Act->World->Prop} {p:List DV} (h:DCtx G ρ l ds vs p deps w) {gd:Option (Nat × Bool)} {N:List Nat} {g:BE} (c:CT p gd=some (ch,N)) (C:∀ (j:Nat) (a:DV),p[j]? = some a->a.d ∈ N->j ∈ deps) (i:Rn ds ch=some g)
  {d:Nat} {S:Op} {s:String} {U:Array Edge} (V:Nat.blt d n=true)
  (on:Kg ds ch->WO P Q n l [⟨some d,S,ty,s,U,none⟩] (dz l F vs deps) w) (v:¬ Kg ds ch->WO P Q n l [] ((d,undef) :: dz l F vs deps) w):WO P Q n l [⟨some d,S,ty,s,U,gd⟩] (dz l F vs deps) w:=by
 cases gd with
 | none=>
  cases c;exact on fun q hq=>by simp at hq
 | some q=>
  obtain ⟨j,A⟩:=q;simp only [CT,iP] at c;split at c
  ·rename_i a m;cases c;have W:=C j a m aa;have x:=h.look (F:=F) W m;obtain ⟨r,y,X⟩:=h.dep j W;rw [m] at y; cases y;obtain ⟨b,e,D,I⟩:=(qO i).2 (j,A) aa;simp only at D;rw [h.pre j a m] at D; cases D;have J:=h.dst j a (h.pre j a m);by_cases f:Kg ds a.ch
   ·have z:=X.2.1 f;rw [I] at z;obtain ⟨K,o⟩:∃ K,vs j = .bool K/\K=e.val:=by
     have z:Pd (cx G ρ w) (.bool e) (vs j):=z;generalize vs j=u at z;cases z;grind
    obtain ⟨o,rfl⟩:=o;rw [o] at x;by_cases B:e.val=A
    ·exact WO.on J x B (on fun q hq=>by
      rcases acq.1 hq with hq | hq
      ·exact f q hq
      rw [acr.1 hq];exact ⟨a,e,h.pre j a m,I,B⟩)
    refine WO.off J x (by revert B; cases e.val <;> cases A <;> simp) V (v fun c=>?_);obtain ⟨b,t,L,Y,Z⟩:=c (j,A) aa;simp only at L Z;rw [h.pre j a m] at L; cases L;rw [I] at Y; cases Y;exact B Z
   have k:=X.2.2 f;rw [k] at x;exact WO.aaE J x V (v fun c=>f fun q hq=>c q (by simp [hq]))
  cases c
variable {x:Operand}
def Qi {v:Value} (h:ev [] x=some v):ev F x=some v:=by
 cases x with
 | tmp i=>cases h
 | _=>exact h
theorem Qz {p:List DV} (h:DCtx G ρ l ds vs p deps w) (U:Kg ds ch) {t:Nat} {y:Operand} {v:BE} (g:KZ p ch t x y=some v) (I:∀ (j:Nat) (a:DV),p[j]? = some a->a.d=t\/a.d ∈ Operand.sl x\/a.d ∈ Operand.sl y->j ∈ deps) :
  aF P n (dz l F vs deps) w (.pick (.tmp t) x y) ty (.bool v.val) w:=by
 unfold KZ at g;split at g
 ·rename_i Q T;split at g
  ·rename_i c S;rw [iP] at S;split at g
   ·rename_i e O V;split at g
    ·rename_i W hjx;split at g
     ·rename_i a X;rw [iP] at X;split at g
      ·rename_i hpa;have Y:c.d=t:=by
        obtain ⟨i,b,K,A,L⟩:=fp.1 (show Q ∈ d_ [t] 0 p by rw [T]; simp);rw [acC] at K; subst K;rw [S] at A; cases A;simpa using L
       have Z:=I Q c S (.inl Y);have hl:=h.look (F:=F) Z S;rw [Y] at hl;have O:=acD (dL O);have B:look (dz l F vs deps) t=some (.bool e.val):=by
        obtain ⟨c',k,hv⟩:=h.dep Q Z;rw [S] at k; cases k;have s:=hv.2.1 (xC V U);rw [O] at s;have s:Pd (cx G ρ w) (.bool e) (vs Q):=s;rw [hl];generalize vs Q=u at s;cases s;rfl
       have C:e.val=kq x->∀ z,qA (some a.v)=some z->ev (dz l F vs deps) (cond (kq x) x y)=some (.bool z.val):=by
        intro hw z D;have D:=acD (dL D);have r:=fp.1 (show W ∈ d_ (Operand.sl (cond (kq x) x y)) 0 p by rw [hjx]; simp);obtain ⟨i,b,K,A,L⟩:=r;rw [acC] at K; subst K;rw [X] at A; cases A;have J:=I W a X (.inr (by
         cases hx:kq x <;> rw [hx] at L
         ·grind
         exact .inl L))
        obtain ⟨a',H,hv⟩:=h.dep W J;rw [X] at H; cases H;have s:=hv.2.1 (xC hpa fun q hq=>by
         rcases acq.1 hq with hq | hq
         ·exact U q hq
         rw [acr.1 hq];exact ⟨c,e,h.pre Q c S,O,hw⟩)
        rw [D] at s;have s:Pd (cx G ρ w) (.bool z) (vs W):=s;have hl2:=h.look (F:=F) J X;generalize cond (kq x) x y=o at L ⊢;cases o <;> simp only [Operand.sl,acr,af8] at L;rw [<- L];show look _ a.d=_;rw [hl2];generalize vs W=u at s;cases s;rfl
       have m:∀ z,qA (dh [] (cond (kq x) y x))=some z->ev (dz l F vs deps) (cond (kq x) y x)=some (.bool z.val):=by
        intro z D;obtain ⟨u,K,A⟩:=aq (c:=cx G ρ w) (ρ:=ρ) (fr:=[]) (F:=[]) .nil (dL D);have A:Pd (cx G ρ w) (.bool z) u:=A;cases A;exact Qi K
       unfold Hd at g;cases hx:kq x <;> rw [hx] at g C m <;> simp only [cond_true,cond_false] at C m g
       ·split at g
        ·grind
        ·rename_i z _ D N;cases g;cases f:e.val with
         | false=>rw [show (BE.or e z).val=z.val by simp [BE.val,f]]; exact R.CB (f ▸ B) rfl (C f z D)
         | true=>rw [show (BE.or e z).val=true by simp [BE.val,f]]; exact R.AL (f ▸ B) rfl (m _ N)
        cases g
       split at g
       ·rename_i z _ D N;cases g;cases f:e.val with
        | true=>rw [show (BE.and e z).val=z.val by simp [BE.val,f]]; exact R.AL (f ▸ B) rfl (C f z D)
        | false=>rw [show (BE.and e z).val=false by simp [BE.val,f]]; exact R.CB (f ▸ B) rfl (m _ N)
       ·contradiction
       cases g
      cases g
     cases g
    cases g
   cases g
  cases g
 cases g
theorem Uf (hT:bh P G.shp T) (X:aA P G.shp O) {p:List DV} {o:Oper} (c:tZ T O H fr p o=some a) (h:DCtx G ρ l ds vs p a.deps w) (K:∀ ch g,Rn p ch=some g->Rn ds ch=some g) (L:∀ q ∈ a.ob,q) (V:∀ d,o.dst=some d->Nat.blt d n=true) (Y:Rep G ρ H w) (Z:FrR (cx G ρ w) ρ fr F) :
  o.dst=some a.d/\WO P (qf n (some a.d) [] (DVal G ρ ds a) w) n l [o] (dz l F vs a.deps) w:=by
 obtain ⟨dst,e,ty,i,af,gd⟩:=o;unfold tZ at c;split at c
 ·rename_i d ch k s z;simp only at s z;subst s;split at c
  ·rename_i g hg;have m:=K _ _ hg;have A:=V d rfl;split at c
   ·-- a pick
    rename_i t x y B;simp only at B;subst B;split at c
    ·rename_i v C;cases c;refine ⟨rfl,uN h z (fun j b u hb=>fp.2 ⟨j,b,aa,u,by simp [hb]⟩) m A (fun f=>?_) (fun f=>?_)⟩
     ·refine WO.v (Qz h f C fun j b u hb=>fp.2 ⟨j,b,aa,u,?_⟩) A (WO.nil (WX.aI (v:=.bool v.val) (by rw [aW,if_pos rfl]) ⟨aa,fun _=>Pd.bool,fun h=>absurd f h⟩ (Kp.refl w)));simp only [Dn,Operand.sl,acq,acr];rcases hb with hb | hb | hb
      ·grind
      ·exact .inl (.inl (.inr hb))
      exact .inl (.inr hb)
     exact WO.nil (WX.aI (v:=undef) (by rw [aW,if_pos rfl]) ⟨aa,fun h=>absurd h f,fun _=>rfl⟩ (Kp.refl w))
    cases c
   split at c
   ·rename_i r D N;cases c;refine ⟨rfl,uN h z (fun j b u hb=>fp.2 ⟨j,b,aa,u,by simp [hb]⟩) m A (fun f=>?_) (fun f=>?_)⟩
    ·have Q:=(qO m).1.2 f;have S:=EL (l:=l) (vs:=vs) (F:=F) Z (p:=p) (deps:=d_ (Dn e++k) 0 p) fun j u=>by
      obtain ⟨b,hb,I⟩:=vP D j u;obtain ⟨b',J,C⟩:=h.dep j u;rw [hb] at J; cases J;exact ⟨b,hb,h.dst j b (h.pre j b hb),C.2.1 (xC I f)⟩
     refine WO.y (ua (ty:=ty) hT X Y S N (DY L (by rw [v_]; exact Q))) V fun v w' ⟨hk,C,U⟩=>?_;exact WO.nil (WX.aI (v:=v) (by simp only [jj]; rw [aW,if_pos rfl]) ⟨tz fun _=>U,fun _=>C,fun h=>absurd f h⟩ hk)
    refine WO.nil (WX.aI (v:=undef) (by rw [aW,if_pos rfl]) ⟨tz fun W=>?_,fun h=>absurd h f,fun _=>rfl⟩ (Kp.refl w));rw [v_] at W;exact absurd ((qO m).1.1 W) f
   cases c
  cases c
 cases c
end
theorem cC {a:List Nat}:∀ {l:List Nat},disj a l=true↔∀ i ∈ l,i ∉ a
 | []=>by simp [disj]
 | j :: r=>by simp only [disj,Bool.and_eq_true,cC,agr,Bool.not_eq_true',<- Bool.not_eq_true,bw]
theorem gP {n:Nat}:∀ {l:List Nat},nY n l=true↔∀ i ∈ l,i<n
 | []=>by simp [nY]
 | j :: r=>by
  simp [nY,gP]
theorem nr {σ:List Nat}:∀ {H:AH} {k p:Nat},(maskH σ k H)[p]? = (H[p]?).map fun o=>if k+p ∈ σ then o else .loc
 | [],_,_=>by simp [maskH]
 | o :: r,k,0=>by
  simp only [maskH,List.getElem?_cons_zero,Option.map_some,ahH];cases h:cd k σ with
  | true=>rw [if_pos (bw.1 h)]; rfl
  | false=>rw [if_neg fun a=>by rw [bw.2 a] at h; cases h]; rfl
 | o :: r,k,p+1=>by
  simp only [maskH,agW,nr];grind
theorem oY {σ:List Nat}:∀ {H:AH} {k:Nat},(maskH σ k H).length=H.length
 | [],_=>rfl
 | _ :: r,k=>by simp [maskH,oY (H:=r)]
def RC.obj (r:RC) (p:Nat) (o:AO):AO:=if p ∈ r.ch then (match r.ent with
 | some e=>e.put o
 | none=>getO r.res p) else killO r.mv o
theorem vx {r:RC}:∀ {H:AH} {k p:Nat},(lj r.ch r.mv r.ent r.res k H)[p]? = (H[p]?).map (r.obj (k+p))
 | [],_,_=>by simp [lj]
 | o :: l,k,0=>by
  simp only [lj,List.getElem?_cons_zero,Option.map_some,ahH,RC.obj];cases h:cd k r.ch with
  | true=>rw [if_pos (bw.1 h)]; cases r.ent <;> rfl
  | false=>rw [if_neg fun a=>by rw [bw.2 a] at h; cases h]; rfl
 | o :: l,k,p+1=>by
  simp only [lj,agW,vx];grind
theorem h_ {c d:List Nat} {e:Option Ent} {a:AH}:∀ {H:AH} {k:Nat},(lj c d e a k H).length=H.length
 | [],_=>rfl
 | _ :: r,k=>by simp [lj,h_ (H:=r)]
def killTV (a:List Nat) (v:TV):TV:=match a with
 | []=>v
 | _ :: _=>v.mapA (AV.cr a)
theorem rZ {g:AV->AV} {t:Nat}:∀ {fr:AFr},lookA (ji g fr) t=(lookA fr t).map (TV.mapA g)
 | []=>rfl
 | (i,v) :: r=>by
  simp only [ji,lookA];cases Nat.beq i t
  ·exact rZ
  rfl
variable {mv:List Nat} {t:Nat}
theorem Eh {fr:AFr}:lookA (Qn mv fr) t=(lookA fr t).map (killTV mv):=by
 cases mv with
 | nil=>cases h:lookA fr t <;> simp [Qn,killTV,h]
 | cons a r=>exact rZ
variable {d:Option Nat}
theorem Jl {v:TV} {fr:AFr}:lookA (qC d v fr) t=if d=some t then some v else lookA fr t:=by
 cases d with
 | none=>simp [qC]
 | some d=>simp only [qC,dw,Option.some.injEq]
structure RC.Fit (r:RC):Prop where
 base:r.base=r.H0.length
 le:r.base<=r.res.length
variable {r:RC}
def ck {q:AFr × AH} (h:r.Fit) (a:q.2.length=r.base):(r.app q).2.length=r.res.length:=by
 have:=h.le;simp only [RC.app,List.length_append,h_,List.length_drop]; omega
def gA {q:AFr × AH} (h:r.Fit) (c:q.2.length=r.base) {p:Nat}:(r.app q).2[p]? = if p<r.base then (q.2[p]?).map (r.obj p) else r.res[p]?:=by
 simp only [RC.app];by_cases a:p<r.base
 ·rw [if_pos a,List.getElem?_append_left (by rw [h_]; omega),vx,acC]
 rw [if_neg a,afS (by rw [h_]; omega),h_,aeb];congr 1; omega
def gW {q:AFr × AH}:lookA (r.app q).1 t=if r.dst=some t then some r.v else (lookA q.1 t).map (killTV r.mv):=by
 simp only [RC.app,Jl,Eh]
def RC.IX (r:RC) (q:AFr × AH):AFr × AH:=(q.1,q.2++List.replicate (r.res.length - r.base) .gone)
def gK {q:AFr × AH} (h:r.Fit) (a:q.2.length=r.base):(r.IX q).2.length=r.res.length:=by
 have:=h.le;simp only [RC.IX,List.length_append,afN]; omega
theorem g_ {q:AFr × AH} (h:r.Fit) (a:q.2.length=r.base) {p:Nat}:(r.IX q).2[p]? = if p<r.base then q.2[p]? else if p<r.res.length then some .gone else none:=by
 simp only [RC.IX];grind
def iT (s:Nat->Bool):Nat->List RC->AFr × AH->AFr × AH
 | _,[],q=>q
 | i,r :: a,q=>iT s (i+1) a (bif s i then r.app q else r.IX q)
def prg:List RC->AFr × AH->AFr × AH
 | [],q=>q
 | r :: a,q=>prg a (r.app q)
def fQ:AFr × AH->List RC->Prop
 | _,[]=>True
 | q,r :: a=>r.fr0=q.1/\r.H0=q.2/\r.Fit/\fQ (r.app q) a
theorem Gj {s:Nat->Bool}:∀ {a b:List RC} {k:Nat} {q:AFr × AH},iT s k (a++b) q=iT s (k+a.length) b (iT s k a q)
 | [],_,_,_=>by simp [iT]
 | r :: a,b,k,q=>by
  simp only [List.cons_append,iT,Gj (a:=a),List.length_cons];congr 1; omega
theorem o_ {s c:Nat->Bool}:∀ {a:List RC} {k:Nat} {q:AFr × AH},(∀ i,k<=i->i<k+a.length->s i=c i)->iT s k a q=iT c k a q
 | [],_,_,_=>rfl
 | r :: a,k,q,h=>by
  simp only [iT];rw [h k (Nat.le_refl _) aa];exact o_ fun i g f=>h i aE (by simp at f ⊢; omega)
theorem wY {s:Nat->Bool}:∀ {c:List RC} {k:Nat} {q p:AFr × AH},fQ p c->q.2.length=p.2.length->(iT s k c q).2.length=(prg c p).2.length
 | [],_,_,_,_,h=>h
 | r :: c,k,q,p,g,h=>by
  obtain ⟨_,m,a,o⟩:=g;have f:=a.base;rw [m] at f;simp only [iT];refine wY o ?_;cases s k
  ·exact (gK a aE).trans (ck a f.symm).symm
  exact (ck a aE).trans (ck a f.symm).symm
theorem DO:∀ {a:List RC} {p:AFr × AH},fQ p a->p.2.length<=(prg a p).2.length
 | [],_,_=>Nat.le_refl _
 | r :: a,p,g=>by
  obtain ⟨_,h,c,m⟩:=g;have f:=c.base;rw [h] at f;have:=DO m;rw [ck c f.symm] at this;have:=c.le;simp only [prg]; omega
theorem fQ.Nc:∀ {a b:List RC} {p:AFr × AH},fQ p (a++b)↔fQ p a/\fQ (prg a p) b
 | [],b,p=>by simp [fQ,prg]
 | r :: a,b,p=>by simp only [List.cons_append,fQ,prg,fQ.Nc (a:=a),and_assoc]
theorem yz:∀ {a b:List RC} {p:AFr × AH},prg (a++b) p=prg b (prg a p)
 | [],_,_=>rfl
 | r :: a,b,p=>by simp only [List.cons_append,prg,yz (a:=a)]
def gp {a:AV} (h:∀ i ∈ a.rids,i ∉ mv):a.cr mv=a:=by
 have c:∀ j,j ∉ mv->cd j mv=false:=fun j f=>by rw [<- Bool.not_eq_true,bw]; exact f
 cases a with
 | own j=>simp [AV.cr,c j (h j (by simp [AV.rids]))]
 | sub j _ _=>simp [AV.cr,c j (h j (by simp [AV.rids]))]
 | elp j _ _=>simp [AV.cr,c j (h j (by simp [AV.rids]))]
 | _=>rfl
theorem jl {i:Nat}:∀ {l:List AV} {a:AV},a ∈ l->i ∈ a.rids->i ∈ rO l
 | b :: r,a,h,c=>by
  simp only [rO,acq];rcases acw.1 h with rfl | h
  ·grind
  exact .inr (jl h c)
theorem qZ {g:AV->AV}:∀ {l:List AV},(∀ a ∈ l,g a=a)->rC g l=l
 | [],_=>rfl
 | a :: r,h=>by simp only [rC]; rw [h a aa,qZ fun b c=>h b (by simp [c])]
def rA {g:AV->AV} {t:TV1} (h:∀ a ∈ t.cells,g a=a):t.mapA g=t:=by
 cases t with
 | c a=>simp only [TV1.mapA]; rw [h a (by simp [TV1.cells])]
 | agg l=>exact congrArg TV1.agg (qZ h)
theorem uZ {i:Nat}:∀ {l:List TV1} {t:TV1} {a:AV},t ∈ l->a ∈ t.cells->i ∈ a.rids->i ∈ EB l
 | b :: r,t,a,h,c,f=>by
  simp only [EB,acq];rcases acw.1 h with rfl | h
  ·exact .inl (jl c f)
  exact .inr (uZ h c f)
theorem wW {g:AV->AV}:∀ {l:List TV1},(∀ t ∈ l,∀ a ∈ t.cells,g a=a)->xO g l=l
 | [],_=>rfl
 | a :: r,h=>by simp only [xO]; rw [rA (h a aa),wW fun b c=>h b (by simp [c])]
def pI {v:TV} (h:disj mv v.rids=true):killTV mv v=v:=by
 have h:=cC.1 h;cases mv with
 | nil=>rfl
 | cons m r=>
  cases v with
  | one t=>exact congrArg TV.one (rA fun a c=>gp fun i f=>h i (jl c f))
  | tup l=>exact congrArg TV.tup (wW fun t g a c=>gp fun i f=>h i (uZ g c f))
  | un=>rfl
variable {o:AO}
theorem oC (h:disj mv o.rids=true):killO mv o=o:=by
 have h:=cC.1 h;cases mv with
 | nil=>rfl
 | cons m r=>
  cases o with
  | box t p=>exact congrArg (AO.box t) (qZ fun a f=>gp fun i c=>h i (jl f c))
  | mapf l=>
   show AO.mapf (mapM _ l)=_;rw [ra];congr 1;refine (List.map_congr_left fun q g=>?_).trans (List.map_id _);have e:=gp (mv:=m :: r) (a:=q.2) fun i c=>h i (jl (ahX g) c);grind
  | _=>rfl
variable {b a:List Nat}
def td {x:AV}:(x.cr a).cr b=(x.cr b).cr a:=by
 cases x with
 | own j=>cases c:cd j a <;> cases f:cd j b <;> simp [AV.cr,c,f]
 | sub j _ _=>cases c:cd j a <;> cases f:cd j b <;> simp [AV.cr,c,f]
 | elp j _ _=>cases c:cd j a <;> cases f:cd j b <;> simp [AV.cr,c,f]
 | _=>rfl
theorem pA {g h:AV->AV}:∀ {l:List AV},rC g (rC h l)=rC (fun a=>g (h a)) l
 | []=>rfl
 | a :: r=>by simp [rC,pA (l:=r)]
variable {h:AV->AV}
theorem rW {g:AV->AV} {t:TV1}:(t.mapA h).mapA g=t.mapA fun a=>g (h a):=by
 cases t with
 | c a=>rfl
 | agg l=>simp [TV1.mapA,pA]
theorem wh {g h:AV->AV}:∀ {l:List TV1},xO g (xO h l)=xO (fun a=>g (h a)) l
 | []=>rfl
 | a :: r=>by simp [xO,rW,wh (l:=r)]
theorem yX {v:TV}:killTV b (killTV a v)=killTV a (killTV b v):=by
 cases a with
 | nil=>rfl
 | cons x r=>
  cases b with
  | nil=>rfl
  | cons y q=>
   have e:(fun z:AV=>(z.cr (x :: r)).cr (y :: q))=fun z=>(z.cr (y :: q)).cr (x :: r):=funext fun z=>td;cases v with
   | one t=>simp only [killTV,TV.mapA,rW,e]
   | tup l=>simp only [killTV,TV.mapA,wh,e]
   | un=>rfl
theorem I_ {g:AV->AV}:mapM g (mapM h l)=mapM (fun a=>g (h a)) l:=by
 induction l with
 | nil=>rfl
 | cons q r c=>obtain ⟨k,a⟩:=q; simp [mapM,c]
def CV:killO b (killO a o)=killO a (killO b o):=by
 cases a with
 | nil=>rfl
 | cons x r=>
  cases b with
  | nil=>rfl
  | cons y q=>
   have e:(fun z:AV=>(z.cr (x :: r)).cr (y :: q))=fun z=>(z.cr (y :: q)).cr (x :: r):=funext fun z=>td;cases o with
   | box t c=>simp only [killO,AO.mapA,pA,e]
   | mapf l=>simp only [killO,AO.mapA,I_,e]
   | _=>rfl
def rX:killO a .gone = .gone:=by cases a <;> rfl
inductive AOq:AO->AO->Prop
 | rfl {o:AO}:AOq o o
 | map {l l':List (Int × AV)}:(∀ k,lookF k l=lookF k l')->AOq (.mapf l) (.mapf l')
variable {o':AO}
def AOq.or {c:Cx} {r:RE} (h:AOq o o') (k:OR c ρ o r):OR c ρ o' r:=by
 cases h with
 | rfl=>exact k
 | map f=>
  obtain ⟨g,e,a,n,m,p,q⟩:=k;exact ⟨g,e,a,n,m,p,fun k=>by rw [<- f]; exact q k⟩
def AOq.trans {a b c:AO} (h:AOq a b) (k:AOq b c):AOq a c:=by
 cases h with
 | rfl=>exact k
 | map h=>
  cases k with
  | rfl=>exact .map h
  | map k=>exact .map fun x=>(h x).trans (k x)
def AOq.symm {a b:AO} (h:AOq a b):AOq b a:=by
 cases h with
 | rfl=>exact .rfl
 | map h=>exact .map fun x=>(h x).symm
theorem pw {g:AV->AV} {k:Int}:∀ {l:List (Int × AV)},lookF k (mapM g l)=(lookF k l).map g
 | []=>rfl
 | (j,a) :: r=>by
  simp only [mapM,lookF];by_cases h:k=j
  ·grind
  rw [if_neg h,if_neg h]; exact pw
theorem AOq.kill (h:AOq o o'):AOq (killO mv o) (killO mv o'):=by
 cases h with
 | rfl=>exact .rfl
 | map h=>
  cases mv with
  | nil=>exact .map h
  | cons a r=>exact .map fun k=>by rw [pw,pw,h]
theorem AOq.put {e:Ent} {o o':AO} (h:AOq o o'):AOq (e.put o) (e.put o'):=by
 cases h with
 | rfl=>exact .rfl
 | map h=>
  cases e with
  | fn k a=>exact .map fun j=>by simp only [lookF,h]
  | da s k x=>exact .map h
def KS {j k:Int} {b:AV} {s:Sh} {x:den s}:(Ent.fn j b).put ((Ent.da s k x).put o)=(Ent.da s k x).put ((Ent.fn j b).put o):=by
 cases o with
 | mapo c g=>
  by_cases h:c = s
  ·subst h; simp only [Ent.put,aju]
  simp only [Ent.put,dif_neg h]
 | _=>rfl
variable {e:Ent}
theorem put_comm {f:Ent} (h:e.key≠f.key):AOq (f.put (e.put o)) (e.put (f.put o)):=by
 cases e with
 | fn k a=>
  cases f with
  | fn j b=>
   cases o with
   | mapf l=>
    refine .map fun i=>?_;simp only [lookF];have h:k≠j:=h;grind
   | _=>exact .rfl
  | da s j x=>rw [KS]; exact .rfl
 | da s k x=>
  cases f with
  | fn j b=>rw [KS]; exact .rfl
  | da q j y=>
   cases o with
   | mapo p g=>
    by_cases m:p = s
    ·by_cases c:p = q
     ·subst m; subst c;simp only [Ent.put,aju];have u:(fun i=>if i=j then some y else if i=k then some x else g i)=fun i=>if i=k then some x else if i=j then some y else g i:=by
       have h:k≠j:=h;grind
      rw [u];exact .rfl
     subst m;simp only [Ent.put,aju,dif_neg c];exact .rfl
    by_cases c:p = q
    ·subst c;simp only [Ent.put,dif_neg m,aju];exact .rfl
    simp only [Ent.put,dif_neg m,dif_neg c];exact .rfl
   | _=>exact .rfl
def Bj (h:∀ k a,e = .fn k a->disj mv a.rids=true):killO mv (e.put o)=e.put (killO mv o):=by
 cases mv with
 | nil=>rfl
 | cons m r=>
  cases e with
  | fn k a=>
   cases o with
   | mapf l=>
    have:=gp (mv:=m :: r) (a:=a) (cC.1 (h k a rfl));simp only [killO,Ent.put,AO.mapA,mapM,this]
   | _=>rfl
  | da s k x=>
   cases o with
   | mapo c g=>
    by_cases h:c = s
    ·subst h; simp only [Ent.put,aju,killO,AO.mapA]
    simp only [Ent.put,dif_neg h,killO,AO.mapA]
   | _=>rfl
def kd:AO->Option (Option Sh)
 | .mapf _=>some none
 | .mapo s _=>some (some s)
 | _=>none
def yw:kd (e.put o)=kd o:=by
 cases e with
 | fn k a=>cases o <;> rfl
 | da s k x=>
  cases o with
  | mapo c g=>
   simp only [Ent.put];split
   ·rename_i h; subst h; rfl
   rfl
  | _=>rfl
def ri:kd (killO mv o)=kd o:=by cases mv <;> cases o <;> rfl
theorem zY {mv:List Nat}:∀ {H:AH} {k p:Nat} {o:AO},H[p]? = some o->k+p ∉ Ja mv k H->disj mv o.rids=true
 | x :: r,k,0,o,h,c=>by
  simp only [Ja] at c;grind
 | x :: r,k,p+1,o,h,c=>by
  refine zY (H:=r) (k:=k+1) (p:=p) (by simpa using h) fun f=>c ?_;simp only [Ja];grind
theorem Av {mv:List Nat}:∀ {fr:AFr} {t:Nat} {v:TV},lookA fr t=some v->t ∉ QH mv fr->disj mv v.rids=true
 | (i,x) :: r,t,v,h,c=>by
  rw [dw] at h;simp only [QH] at c;by_cases f:i=t
  ·grind
  rw [if_neg f] at h;refine Av h fun g=>c ?_;grind
theorem nG {fr:AFr} {i t:Nat} {v:TV} (c:lookA fr t=some v) (f:i ∈ v.rids):∀ {U:List Nat},t ∈ U->i ∈ oK fr U
 | u :: r,h=>by
  simp only [oK,acq];rcases acw.1 h with rfl | h
  ·grind
  exact .inr (nG c f h)
theorem qi {fr:AFr} {i t:Nat} {v:TV} (c:lookA fr t=some v) (f:i ∈ v.ids):∀ {U:List Nat},t ∈ U->i ∈ slotIds fr U
 | u :: r,h=>by
  simp only [slotIds,acq];rcases acw.1 h with rfl | h
  ·grind
  exact .inr (qi c f h)
theorem iO {H:AH} {i p:Nat} (c:i ∈ (getO H p).rids):∀ {l:List Nat},p ∈ l->i ∈ lP H l
 | u :: r,h=>by
  simp only [lP,acq];rcases acw.1 h with rfl | h
  ·grind
  exact .inr (iO c h)
theorem uf {H:AH} {i p:Nat} (c:i ∈ (getO H p).ids):∀ {l:List Nat},p ∈ l->i ∈ objIds H l
 | u :: r,h=>by
  simp only [objIds,acq];rcases acw.1 h with rfl | h
  ·grind
  exact .inr (uf c h)
def nt (h:r.Fit) {p:Nat}:p ∈ r.new↔r.base<=p/\p<r.res.length:=by
 rw [RC.new,Ou]; omega
def gJ {p:Nat} (h:H[p]? = some o):getO H p=o:=by unfold getO; rw [List.getD_eq_getElem?_getD,h]; rfl
structure OkD (a b:RC):Prop where
 dst:∀ d,b.dst=some d->d ∉ a.U
 chσ:∀ p ∈ a.σ,p ∉ b.ch
 chn:∀ p ∈ a.new,p ∉ b.ch
 nσ:∀ p ∈ a.σ,p ∉ b.new
 nch:∀ p ∈ a.ch,p ∉ b.new
 kp:∀ p ∈ a.σ,∀ o,b.H0[p]? = some o->killO b.mv o=o
 ks:∀ t ∈ a.U,∀ v,lookA b.fr0 t=some v->killTV b.mv v=v
 sl:∀ t ∈ a.U,∀ v,lookA a.fr0 t=some v->killTV b.mv v=v
 ob:∀ p ∈ a.σ,killO b.mv (getO a.H0 p)=getO a.H0 p
 v:killTV b.mv a.v=a.v
 rc:∀ p ∈ a.ch,killO b.mv (getO a.res p)=getO a.res p
 rn:∀ p ∈ a.new,killO b.mv (getO a.res p)=getO a.res p
 en:∀ k x,a.ent=some (.fn k x)->disj b.mv x.rids=true
def OT {l:List Nat}:disj [] l=true:=cC.2 fun _ _ h=>by simp at h
def oo {l c:List Nat} (h:disj mv l=true) (f:∀ i ∈ c,i ∈ l):disj mv c = true:=cC.2 fun i g=>cC.1 h i (f i g)
variable {b a:RC}
theorem FI (h:okD a b=true):OkD a b:=by
 simp only [okD,Bool.and_eq_true] at h;obtain ⟨⟨⟨⟨⟨x,y⟩,z⟩,A⟩,B⟩,g⟩:=h;have q:∀ d,b.dst=some d->d ∉ a.U:=fun d q C=>by
  simp only [q,WE,bw.2 C] at x; cases x
 refine ⟨q,cC.1 y,cC.1 z,cC.1 A,cC.1 B,?_,?_,?_,?_,?_,?_,?_,?_⟩ <;> (cases s:b.mv with
  | nil=>intros; first | rfl | exact OT
  | cons m r=>?_) <;> (rw [s] at g; simp only [Bool.and_eq_true] at g; obtain ⟨⟨⟨⟨⟨⟨⟨D,F⟩,G⟩,I⟩,J⟩,K⟩,L⟩,O⟩:=g)
 ·intro p c o N;exact oC (zY (k:=0) N (by rw [acC]; exact cC.1 D p c))
 ·intro t u v w;exact pI (Av w (cC.1 F t u))
 ·intro t u v w;exact pI (oo G fun i f=>nG w f u)
 ·intro p c;exact oC (oo I fun i f=>iO f c)
 ·exact pI J
 ·intro p c;exact oC (oo K fun i f=>iO f c)
 ·intro p c;exact oC (oo L fun i f=>iO f c)
 grind
def RC.fo {p:Nat} (h:p ∉ r.ch):r.obj p o=killO r.mv o:=by rw [RC.obj,if_neg h]
structure Agr (b:RC) (q p:AFr × AH):Prop where
 len:q.2.length=p.2.length
 ob:∀ x ∈ b.σ,q.2[x]? = p.2[x]?
 kd:∀ x ∈ b.ch,(q.2[x]?).map kd=(p.2[x]?).map kd
 sl:∀ t ∈ b.U,lookA q.1 t=lookA p.1 t
theorem yx (h:okI a b=true) {p:Nat} (c:p ∈ a.ch) (g:p ∈ b.ch):∃ e f,a.ent=some e/\b.ent=some f/\e.key≠f.key:=by
 unfold okI at h;split at h
 ·rename_i e f m q;simp only [Bool.or_eq_true] at h;rcases h with h | h
  ·exact absurd c (cC.1 h p g)
  grind
 exact absurd c (cC.1 h p g)
theorem Hn {b:RC} {s:Nat->Bool}:∀ {A:List RC} {k:Nat} {q p:AFr × AH},fQ p A->(∀ j r,A[j]? = some r->s (k+j)=true\/(OkD b r/\okI b r=true))->Agr b q p->Agr b (iT s k A q) (prg A p)
 | [],_,_,_,_,_,h=>h
 | r :: A,k,q,p,L,J,h=>by
  obtain ⟨N,K,g,O⟩:=L;have w:p.2.length=r.base:=by rw [<- K]; exact g.base.symm
  have m:q.2.length=r.base:=h.len.trans w;simp only [iT,prg];refine Hn O (fun j P Q=>by have:=J (j+1) P (by simpa using Q); rwa [show k+(j+1)=k+1+j by omega] at this) ?_;cases S:s k with
  | true=>
   simp only [cond_true];refine ⟨(ck g m).trans (ck g w).symm,fun x u=>?_,fun x u=>?_,fun t B=>?_⟩
   ·rw [gA g m,gA g w,h.ob x u]
   ·rw [gA g m,gA g w];by_cases c:x<r.base
    ·rw [if_pos c,if_pos c];have:=h.kd x u;have D:∀ o o',kd o=kd o' -> kd (r.obj x o)=kd (r.obj x o'):=fun o o' e=>by
      unfold RC.obj;split
      ·split
       ·rw [yw,yw,e]
       rfl
      rw [ri,ri,e]
     cases F:q.2[x]? <;> cases y:p.2[x]? <;> rw [F,y] at this <;> simp at this ⊢;exact D _ _ this
    grind
   rw [gW,gW,h.sl t B]
  | false=>
   simp only [cond_false];obtain ⟨z,T⟩:=(J 0 r rfl).resolve_left (by rw [ahH,S]; simp);refine ⟨(gK g m).trans (ck g w).symm,fun x u=>?_,fun x u=>?_,fun t B=>?_⟩
   ·rw [g_ g m,gA g w,h.ob x u];by_cases c:x<r.base
    ·rw [if_pos c,if_pos c];cases y:p.2[x]? with
     | none=>rfl
     | some o=>
      rw [Option.map_some,RC.fo (z.chσ x u),z.kp x u o (by rw [K]; exact y)]
    rw [if_neg c,if_neg c];have C:=z.nσ x u;rw [nt g] at C;rw [if_neg (fun G=>C ⟨aE,G⟩),List.getElem?_eq_none aE]
   ·rw [g_ g m,gA g w];by_cases c:x<r.base
    ·rw [if_pos c,if_pos c];have:=h.kd x u;cases F:q.2[x]? <;> cases y:p.2[x]? <;> rw [F,y] at this <;> simp at this ⊢;rw [this];unfold RC.obj;split
     ·rename_i I;obtain ⟨e,f,_,U,_⟩:=yx T u I;rw [U]; exact yw.symm
     exact ri.symm
    rw [if_neg c,if_neg c];have C:=z.nch x u;rw [nt g] at C;rw [if_neg (fun G=>C ⟨aE,G⟩),List.getElem?_eq_none aE]
   rw [gW,if_neg (fun e=>z.dst t e B)];show lookA q.1 t=_;rw [h.sl t B];cases y:lookA p.1 t with
   | none=>rfl
   | some v=>rw [Option.map_some,z.ks t B v (by rw [N]; exact y)]
structure AgrB (b:RC) (q:AFr × AH):Prop where
 ob:∀ x ∈ b.σ,x<b.base->q.2[x]? = b.H0[x]?
 kd:∀ x ∈ b.ch,x<b.base->(q.2[x]?).map kd=(b.H0[x]?).map kd
 sl:∀ t ∈ b.U,lookA q.1 t=lookA b.fr0 t
 gn:∀ x,b.base<=x->x<b.res.length->q.2[x]? = some .gone
theorem BW {b:RC} (w:b.Fit) {s:Nat->Bool}:∀ {B:List RC} {k:Nat} {q p:AFr × AH},fQ p B->b.res.length<=p.2.length->q.2.length=p.2.length->(∀ j r,B[j]? = some r->s (k+j)=false\/(OkD b r/\okI b r=true))->AgrB b q->AgrB b (iT s k B q)
 | [],_,_,_,_,_,_,_,h=>h
 | r :: B,k,q,p,K,L,y,I,h=>by
  obtain ⟨W,N,u,O⟩:=K;have C:p.2.length=r.base:=by rw [<- N]; exact u.base.symm
  have g:q.2.length=r.base:=y.trans C;have P:=u.le;simp only [iT];have D:(bif s k then r.app q else r.IX q).2.length=(r.app p).2.length:=by
   cases s k
   ·exact (gK u g).trans (ck u C).symm
   exact (ck u g).trans (ck u C).symm
  have J:=w.le;refine BW w O (by rw [ck u C]; omega) D (fun j Q S=>by have:=I (j+1) Q (by simpa using S); rwa [show k+(j+1)=k+1+j by omega] at this) ?_;cases T:s k with
  | false=>
   simp only [cond_false];refine ⟨fun x m c=>?_,fun x m c=>?_,fun t z=>h.sl t z,fun x m c=>?_⟩
   ·rw [g_ u g,if_pos aE]; exact h.ob x m c
   ·rw [g_ u g,if_pos aE]; exact h.kd x m c
   rw [g_ u g,if_pos aE]; exact h.gn x m c
  | true=>
   simp only [cond_true];obtain ⟨A,U⟩:=(I 0 r rfl).resolve_left (by rw [ahH,T]; simp);refine ⟨fun x m c=>?_,fun x m c=>?_,fun t z=>?_,fun x m c=>?_⟩
   ·rw [gA u g,if_pos aE,h.ob x m c];cases F:b.H0[x]? with
    | none=>rfl
    | some o=>
     have:=A.ob x m;rw [gJ F] at this;rw [Option.map_some,RC.fo (A.chσ x m),this]
   ·rw [gA u g,if_pos aE,<- h.kd x m c];cases X:q.2[x]? with
    | none=>rfl
    | some o=>
     simp only [Option.map_some,Option.some.injEq];unfold RC.obj;split
     ·rename_i G;obtain ⟨e,f,_,V,_⟩:=yx U m G;rw [V]; exact yw
     exact ri
   ·rw [gW,if_neg (fun e=>A.dst t e z),h.sl t z];cases F:lookA b.fr0 t with
    | none=>rfl
    | some v=>rw [Option.map_some,A.sl t z v F]
   rw [gA u g,if_pos aE,h.gn x m c,Option.map_some,RC.fo (A.chn x ((nt w).2 ⟨m,c⟩)),rX]
def RC.endO (b:RC) (x:Nat) (o:AO):AO:=if b.base<=x/\x<b.res.length then getO b.res x else b.obj x o
def RC.endF (b:RC) (t:Nat) (v:Option TV):Option TV:=if b.dst=some t then some b.v else v.map (killTV b.mv)
inductive OOq:Option AO->Option AO->Prop
 | none:OOq none none
 | some {o o':AO}:AOq o o' -> OOq (some o) (some o')
structure Rel (b:RC) (q' q:AFr × AH):Prop where
 len:q'.2.length=q.2.length
 ob:∀ x,OOq (q'.2[x]?) ((q.2[x]?).map (b.endO x))
 sl:∀ t,lookA q'.1 t=b.endF t (lookA q.1 t)
def OOq.refl:∀ o:Option AO,OOq o o
 | .none=>.none
 | .some _=>.some .rfl
def Ij (f:b.Fit) {q:AFr × AH} (g:q.2.length=b.base):Rel b (b.app q) (b.IX q):=by
 refine ⟨(ck f g).trans (gK f g).symm,fun x=>?_,fun t=>gW⟩;rw [gA f g,g_ f g];by_cases m:x<b.base
 ·rw [if_pos m,if_pos m];have:(q.2[x]?).map (b.obj x)=(q.2[x]?).map (b.endO x):=by
   cases q.2[x]? with
   | none=>rfl
   | some o=>simp only [Option.map_some,RC.endO,if_neg (show ¬ (b.base<=x/\x<b.res.length) by omega)]
  rw [this]; exact .refl _
 rw [if_neg m,if_neg m];by_cases c:x<b.res.length
 ·rw [if_pos c,Option.map_some,RC.endO,if_pos ⟨aE,c⟩,List.getElem?_eq_getElem c];exact .some (by rw [gJ (List.getElem?_eq_getElem c)]; exact .rfl)
 rw [if_neg c,List.getElem?_eq_none aE]; exact .none
def Vo (w:b.Fit) (m:OkD b r) (q:OkD r b) (y:okI b r=true) {x:Nat} (h:AOq o' (b.endO x o)):AOq (r.obj x o') (b.endO x (r.obj x o)):=by
 by_cases s:b.base<=x/\x<b.res.length
 ·-- b's own
  have g:x ∈ b.new:=(nt w).2 s;have c:x ∉ r.ch:=m.chn x g;simp only [RC.endO,if_pos s] at h ⊢;rw [RC.fo c];have:=(h.kill (mv:=r.mv)).trans (by rw [m.rn x g]; exact .rfl);exact this
 simp only [RC.endO,if_neg s] at h ⊢;by_cases g:x ∈ b.ch
 ·by_cases c:x ∈ r.ch
  ·obtain ⟨e,f,p,z,u⟩:=yx y g c;simp only [RC.obj,if_pos g,if_pos c,p,z] at h ⊢;exact (h.put (e:=f)).trans (put_comm u)
  rw [RC.fo c,RC.fo c];cases p:b.ent with
  | some e=>
   simp only [RC.obj,if_pos g,p] at h ⊢;refine (h.kill (mv:=r.mv)).trans ?_;rw [Bj fun k a v=>m.en k a (by rw [p,v])];exact .rfl
  | none=>
   simp only [RC.obj,if_pos g,p] at h ⊢;have:=h.kill (mv:=r.mv);rwa [m.rc x g] at this
 rw [RC.fo g] at h ⊢;by_cases c:x ∈ r.ch
 ·cases p:r.ent with
  | some e=>
   simp only [RC.obj,if_pos c,p];refine (h.put (e:=e)).trans ?_;rw [Bj fun k a v=>q.en k a (by rw [p,v])];exact .rfl
  | none=>
   simp only [RC.obj,if_pos c,p];rw [q.rc x c]; exact .rfl
 rw [RC.fo c,RC.fo c,CV];exact h.kill
variable {q':AFr × AH}
def MG (F:b.Fit) (p:r.Fit) (s:OkD b r) (f:OkD r b) (G:okI b r=true) (z:∀ d,b.dst=some d->r.dst≠some d) {q:AFr × AH} (A:q.2.length=r.base) (I:b.res.length<=r.base) (h:Rel b q' q):Rel b (r.app q') (r.app q):=by
 have u:q'.2.length=r.base:=h.len.trans A;refine ⟨(ck p u).trans (ck p A).symm,fun x=>?_,fun t=>?_⟩
 ·rw [gA p u,gA p A];by_cases g:x<r.base
  ·rw [if_pos g,if_pos g];have:=h.ob x;cases B:q'.2[x]? <;> cases y:q.2[x]? <;> rw [B,y] at this <;> simp only [Option.map_some,Option.map_none] at this ⊢ <;> cases this
   ·exact .none
   rename_i J; exact .some (Vo F s f G J)
  rw [if_neg g,if_neg g];cases y:r.res[x]? with
  | none=>exact .none
  | some o=>
   refine .some ?_;have C:=(aaw.1 y).1;have w:x ∈ r.new:=(nt p).2 ⟨aE,C⟩;have D:=f.rn x w;rw [gJ y] at D;have K:x ∉ b.ch:=f.chn x w;rw [RC.endO,if_neg aE,RC.fo K,D];exact .rfl
 rw [gW,gW,h.sl t];unfold RC.endF;by_cases c:r.dst=some t
 ·rw [if_pos c,if_pos c,if_neg (fun e=>z t e c),Option.map_some,f.v]
 rw [if_neg c,if_neg c];by_cases m:b.dst=some t
 ·rw [if_pos m,if_pos m,Option.map_some,s.v]
 rw [if_neg m,if_neg m,Option.map_map,Option.map_map];cases lookA q.1 t with
 | none=>rfl
 | some v=>simp only [Option.map_some,Function.comp,yX]
def VA (v:b.Fit) (g:r.Fit) (m:∀ x ∈ b.ch,x<b.base) {q:AFr × AH} (p:q.2.length=r.base) (w:b.res.length<=r.base) (h:Rel b q' q):Rel b (r.IX q') (r.IX q):=by
 have f:q'.2.length=r.base:=h.len.trans p;have s:=v.le;refine ⟨(gK g f).trans (gK g p).symm,fun x=>?_,h.sl⟩;rw [g_ g f,g_ g p];by_cases c:x<r.base
 ·rw [if_pos c,if_pos c]; exact h.ob x
 rw [if_neg c,if_neg c];by_cases u:x<r.res.length
 ·rw [if_pos u,Option.map_some,RC.endO,if_neg aE,RC.fo (fun y=>by have:=m x y; omega),rX];exact .some .rfl
 rw [if_neg u]; exact .none
theorem GP {b:RC} (w:b.Fit) (m:∀ x ∈ b.ch,x<b.base) {s:Nat->Bool}:∀ {u:List RC} {k:Nat} {q' q p:AFr × AH},fQ p u->b.res.length<=p.2.length->q.2.length=p.2.length->(∀ j r,u[j]? = some r->(s (k+j)=false\/(OkD b r/\OkD r b/\okI b r=true))/\∀ d,b.dst=some d->r.dst≠some d)->Rel b q' q->Rel b (iT s k u q') (iT s k u q)
 | [],_,_,_,_,_,_,_,_,h=>h
 | r :: u,k,q',q,p,D,F,v,C,h=>by
  obtain ⟨_,G,c,I⟩:=D;have f:p.2.length=r.base:=by rw [<- G]; exact c.base.symm
  have g:q.2.length=r.base:=v.trans f;have J:=c.le;simp only [iT];have y:(bif s k then r.app q else r.IX q).2.length=(r.app p).2.length:=by
   cases s k
   ·exact (gK c g).trans (ck c f).symm
   exact (ck c g).trans (ck c f).symm
  refine GP w m I (by rw [ck c f]; omega) y (fun j K L=>by have:=C (j+1) K (by simpa using L); rwa [show k+(j+1)=k+1+j by omega] at this) ?_;cases N:s k with
  | false=>exact VA w c m g aE h
  | true=>
   obtain ⟨O,z⟩:=C 0 r rfl;obtain ⟨A,B,P⟩:=O.resolve_left (by rw [ahH,N]; simp);exact MG w c A B P z g aE h
def Rd.on {c L:Cx} {B:List RE} {a:AV} {v:Value} (h:Rd c ρ a v) (y:c.le L) (k:∀ i ∈ a.ids,∀ r,ρ[i]? = some r->r ≠ .no->B[i]? = some r):Rd L B a v:=by
 have m:∀ q u,q.1 ∈ a.ids->dY ρ q u->dY B q u:=fun q u C ⟨g,p,F⟩=>⟨g,k _ C _ p aa,F⟩;cases a with
 | own id=>
  rcases h with ⟨g,m,len,z,h,e⟩ | ⟨h,e⟩
  ·exact .inl ⟨g,m,len,z,k id (by simp [AV.ids]) _ h aa,e⟩
  exact .inr ⟨k id (by simp [AV.ids]) _ h aa,e⟩
 | sub id o l=>
  rcases h with ⟨g,m,len,z,h,e⟩ | ⟨h,e⟩
  ·exact .inl ⟨g,m,len,z,k id (by simp [AV.ids]) _ h aa,e⟩
  exact .inr ⟨k id (by simp [AV.ids]) _ h aa,e⟩
 | ptr id o=>exact m (id,o) _ (by simp [AV.ids]) h
 | elp id i o=>
  obtain ⟨g,m,len,z,h,e⟩:=h;exact ⟨g,m,len,z,k id (by simp [AV.ids]) _ h aa,e⟩
 | fe s x o=>
  obtain ⟨A,G,p,F,O,e⟩:=h;exact ⟨A,G,(y.S _ p).1,F.keep (y.S _ p).2,O.carry y,e⟩
 | fn f b I=>
  obtain ⟨N,w,p,F,e⟩:=h;have D:∀ (l:List (Nat × Nat)) (w:List Value),(∀ q ∈ l,q.1 ∈ (AV.fn f b I).ids)->All2 (dY ρ) l w->All2 (dY B) l w:=fun l w J h=>by
   induction h with
   | nil=>exact .nil
   | cons p _ K=>exact .cons (m _ _ (J _ aa) p) (K fun q C=>J q (by simp [C]))
  refine ⟨N,w,D b N (fun q C=>?_) p,D I w (fun q C=>?_) F,e⟩ <;> simp only [AV.ids,acq] <;> first | exact .inl (ahX C) | exact .inr (ahX C)
 | mq id=>
  obtain ⟨g,p,e⟩:=h;exact ⟨g,k id (by simp [AV.ids]) _ p aa,e⟩
 | np=>exact h
 | nf=>exact h
 | yl l=>exact h
 | xx P I=>
  obtain ⟨w,p,F⟩:=h;have D:∀ (l:List (Nat × Nat)) (w:List Value),(∀ q ∈ l,q.1 ∈ (AV.xx P I).ids)->All2 (dY ρ) l w->All2 (dY B) l w:=fun l w J h=>by
   induction h with
   | nil=>exact .nil
   | cons p _ K=>exact .cons (m _ _ (J _ aa) p) (K fun q C=>J q (by simp [C]))
  exact ⟨w,D I w (fun q C=>by simp only [AV.ids]; exact ahX C) p,F.le y⟩
 | dead=>exact h
 | int n=>exact Pd.carry h y
 | u8 b=>exact Pd.carry h y
 | u64 n=>exact Pd.carry h y
 | bool e=>exact Pd.carry h y
 | str s=>exact Pd.carry h y
 | em b=>exact Pd.carry h y
 | li T Q=>exact Pd.carry h y
 | fz s Q=>exact Pd.carry h y
def XP.on {c p:Cx} {ρ g:List RE}:∀ {f:List AV} {q:List Value},All2 (Rd c ρ) f q->c.le p -> (∀ i ∈ yA f,∀ r,ρ[i]? = some r->r ≠ .no->g[i]? = some r)->All2 (Rd p g) f q
 | [],_,h,_,_=>by cases h; exact .nil
 | a :: r,_,h,s,k=>by
  cases h with
  | cons u v=>exact .cons (u.on s fun i m=>k i (lu (a:=a) aa m)) (XP.on v s fun i m=>k i (by simp only [yA,acq]; exact .inr m))
def di.on {c g:Cx} {ρ f:List RE} {t:TV1} {v:Value} (h:di c ρ t v) (m:c.le g) (k:∀ i ∈ yA t.cells,∀ r,ρ[i]? = some r->r ≠ .no->f[i]? = some r):di g f t v:=by
 cases t with
 | c a=>exact Rd.on h m fun i p=>k i (lu (a:=a) (by simp [TV1.cells]) p)
 | agg l=>obtain ⟨q,e,h⟩:=h; exact ⟨q,e,XP.on h m k⟩
def Vl.on {c p:Cx} {ρ g:List RE}:∀ {f:List TV1} {q:List Value},All2 (di c ρ) f q->c.le p -> (∀ i ∈ qF f,∀ r,ρ[i]? = some r->r ≠ .no->g[i]? = some r)->All2 (di p g) f q
 | [],_,h,_,_=>by cases h; exact .nil
 | a :: r,_,h,s,k=>by
  cases h with
  | cons u v=>exact .cons (u.on s fun i m=>k i (by simp only [qF,acq]; exact .inl m)) (Vl.on v s fun i m=>k i (by simp only [qF,acq]; exact .inr m))
def Rt.on {c g:Cx} {ρ f:List RE} {t:TV} {v:Value} (h:Rt c ρ t v) (m:c.le g) (k:∀ i ∈ t.ids,∀ r,ρ[i]? = some r->r ≠ .no->f[i]? = some r):Rt g f t v:=by
 cases t with
 | one t=>exact di.on h m k
 | tup l=>obtain ⟨p,e,h⟩:=h; exact ⟨p,e,Vl.on h m k⟩
 | un=>trivial
def SN {q:Int × AV} (h:q ∈ l) (c:i ∈ q.2.ids):i ∈ KA l:=rL h c
def OR.on {c z:Cx} {ρ u:List RE} {o:AO} {r:RE} (h:OR c ρ o r) (p:c.le z) (v:z.w=c.w) (k:∀ i ∈ o.ids,∀ r,ρ[i]? = some r->r ≠ .no->u[i]? = some r):OR z u o r:=by
 cases o with
 | gone=>exact h
 | loc=>trivial
 | mapo s f=>
  obtain ⟨g,rfl,h⟩:=h;exact ⟨g,rfl,h.carry p (by rw [v])⟩
 | mapf l=>
  obtain ⟨g,rfl,h⟩:=h;exact ⟨g,rfl,h.map (g0:=fun a=>a) aa (fun q D _ h=>h.on p fun i F=>k i (SN D F)) (by rw [v])⟩
 | arr t s n G=>
  obtain ⟨g,A,rfl,x,y,B⟩:=h;exact ⟨g,A,rfl,by rw [v]; exact x,y.carry p,B⟩
 | box t N=>
  obtain ⟨g,A,rfl,x,y⟩:=h;exact ⟨g,A,rfl,by rw [v]; exact x,XP.on y p k⟩
 | row t s G=>
  obtain ⟨x,y,B⟩:=h;refine ⟨p.shp ▸ x,y,B.imp id ?_⟩;rintro ⟨g,C,m,I,rfl,J,K,L⟩;exact ⟨g,C,m,I,rfl,by rw [v]; exact J,K.carry p,L⟩
def HZ (h:mv=[]) {l:List AV}:rC (AV.cr mv) l=l:=qZ fun a _=>gp (by subst h; simp)
theorem Ma:killO mv o=o.mapA (AV.cr mv):=by
 cases mv with
 | cons _ _=>rfl
 | nil=>
  cases o with
  | box t c=>exact congrArg (AO.box t) (HZ rfl).symm
  | mapf l=>
   show AO.mapf l=AO.mapf (mapM _ l);rw [ra];congr 1;refine ((List.map_congr_left fun q _=>?_).trans (List.map_id _)).symm;have e:=gp (mv:=[]) (a:=q.2) aa;grind
  | _=>rfl
def Gz (G:Gl) (c:List RE):Gl:=⟨G.shp,G.B0,fun b=>G.Z b\/live c b⟩
section
variable {G:Gl} {ρ:List RE} {S:AH} {w w':World} {m top:Nat}
structure Part (G:Gl) (ρ:List RE) (S:AH) (w:World) (m top:Nat):Prop where
 R:Rep G ρ S w
 le:m<=top
 len:top<=S.length
 gn:∀ x,m<=x->x<top->S[x]? = some .gone
def Part.mid (h:Part G ρ S w m top) {x:Nat} (f:m<=x) (g:x<top):ρ[x]? = some .no:=by
 obtain ⟨r,p,c⟩:=h.R.at_ (h.gn x f g);cases c; exact p
def Part.lv (h:Part G ρ S w m top) {b:Nat}:live ρ b↔live (ρ.take m) b\/live (ρ.drop top) b:=by
 constructor
 ·rintro ⟨i,r,c,f⟩;by_cases g:i<m
  ·exact .inl ⟨i,r,by rw [afF,if_pos g]; exact c,f⟩
  by_cases p:i<top
  ·rw [h.mid aE p] at c; cases c; cases f
  exact .inr ⟨i - top,r,by rw [aeb,show top+(i - top)=i by omega]; exact c,f⟩
 rintro (⟨i,r,c,f⟩ | ⟨i,r,c,f⟩)
 ·rw [afF] at c;split at c
  ·exact ⟨i,r,c,f⟩
  cases c
 rw [aeb] at c;exact ⟨_,r,c,f⟩
theorem Part.sS (h:Part G ρ S w m top) {b:Nat}:(cx (Gz G (ρ.drop top)) (ρ.take m) w).S b↔(cx G ρ w).S b:=by
 show (b<w.heap.size/\¬ live (ρ.take m) b/\¬ (G.Z b\/live (ρ.drop top) b))↔(b<w.heap.size/\¬ live ρ b/\¬ G.Z b);rw [h.lv];grind
def Part.cle (h:Part G ρ S w m top):(cx G ρ w).le (cx (Gz G (ρ.drop top)) (ρ.take m) w):=⟨rfl,rfl,fun _ c=>⟨h.sS.2 c,rfl⟩,fun _ _ _=>rfl⟩
theorem kJ {r:RE} (h:(ρ.take m)[i]? = some r):ρ[i]? = some r/\i<m:=by grind
theorem Part.mask (h:Part G ρ S w m top) (v:∀ x ∈ σ,∀ i ∈ (getO S x).ids,i<m):Rep (Gz G (ρ.drop top)) (ρ.take m) (maskH σ 0 (S.take m)) w:=by
 have F:=h.R.obj.length;refine ⟨cA (by rw [oY,List.length_take,List.length_take,F]) fun j o r C y=>?_,fun i j r s g c f u A=>h.R.inj i j r s g (kJ c).1 (kJ f).1 u A,fun i r g c f=>?_,fun b I=>I.elim (h.R.z b) fun ⟨j,r,c,f⟩=>?_,h.R.b0,h.R.tb.carry h.cle⟩
 ·obtain ⟨y,J⟩:=kJ y;rw [nr,afF,if_pos J,acC,aeB] at C;obtain ⟨o',p,rfl⟩:=C;split
  ·rename_i K;obtain ⟨s,q,B⟩:=h.R.at_ p;rw [y] at q; cases q;refine B.on h.cle rfl fun i D r L _=>?_;have:=v j K i (by rw [gJ p]; exact D);grind
  trivial
 ·obtain ⟨c,D⟩:=kJ c;have:=h.R.bnd i r g c f;refine ⟨this.1,this.2.1,fun N=>N.elim this.2.2 fun ⟨j,s,u,A⟩=>?_⟩;rw [aeb] at u;have e:=h.R.inj i _ r s g c u f A;have:=h.le;omega
 rw [aeb] at c;exact (h.R.bnd _ r b c f).2.1
def Part.merge (h:Part G ρ S w m top) {ro:Lv} (H:b.base=m) (Y:b.res.length=top) (hent:b.ent=none) (hch:∀ x ∈ b.ch,x<m) {c:List RE} (hro:∀ i,ro.wr i=false\/ro.mv i=false->i<m) (T:Stp ⟨fun i=>cd i b.ch && ro.wr i,fun i=>cd i b.mv && ro.mv i⟩ (ρ.take m) w c w') (W:Rep (Gz G (ρ.drop top)) c b.res w') {S':AH} (hlen:S'.length=S.length) (hS':∀ x,OOq (S'[x]?) ((S[x]?).map (b.endO x))) :
  Rep G (c++ρ.drop top) S' w' /\ Stp ro ρ w (c++ρ.drop top) w' /\ (∀ a v,Rd (cx G ρ w) ρ a v->Rd (cx G (c++ρ.drop top) w') (c++ρ.drop top) (a.cr b.mv) v)/\(∀ t v,Rt (cx (Gz G (ρ.drop top)) c w') c t v->Rt (cx G (c++ρ.drop top) w') (c++ρ.drop top) t v):=by
 have hl:=h.R.obj.length;have hle:=h.le;have htl:c.length=top:=by rw [<- W.obj.length,Y]
 have hSl:=h.len
 have B:∀ i,i<top->(c++ρ.drop top)[i]? = c[i]?:=fun i y=>List.getElem?_append_left aE;have I:∀ i,top<=i->(c++ρ.drop top)[i]? = ρ[i]?:=fun i y=>by rw [afS aE,htl,aeb]; congr 1; omega
 have lv':∀ b,live (c++ρ.drop top) b↔live c b\/live (ρ.drop top) b:=fun b=>by
  constructor
  ·rintro ⟨i,r,q,u⟩;by_cases y:i<top
   ·exact .inl ⟨i,r,by rw [<- B i y]; exact q,u⟩
   refine .inr ⟨i - top,r,?_,u⟩;rw [I i aE] at q;rw [aeb,show top+(i - top)=i by omega]; exact q
  rintro (⟨i,r,q,u⟩ | ⟨i,r,q,u⟩)
  ·exact ⟨i,r,by rw [B i (by rw [<- htl]; exact (aaw.1 q).1)]; exact q,u⟩
  rw [aeb] at q;exact ⟨top+i,r,by rw [I _ aE]; exact q,u⟩
 have O:∀ g,g<w.heap.size->¬ live (ρ.take m) g->¬ live c g/\w'.heap[g]? = w.heap[g]?:=fun g hg hn=>T.ext.old g hg hn;have U:∀ g,live (ρ.drop top) g->g<w.heap.size/\¬ live (ρ.take m) g:=by
  rintro g ⟨j,r,q,u⟩;rw [aeb] at q;refine ⟨(h.R.bnd _ r g q u).2.1,?_⟩;rintro ⟨i,r',P,h4⟩;obtain ⟨P,h5⟩:=kJ P;have:=h.R.inj _ _ _ _ g q P u h4;omega
 have J:Ext ρ w (c++ρ.drop top) w':=⟨T.ext.os,T.ext.tape,T.ext.output,T.ext.size,fun b Q hl=>by
  rw [h.lv] at hl;have hk:=O b Q fun k=>hl (.inl k);exact ⟨fun k=>((lv' b).1 k).elim hk.1 fun k=>hl (.inr k),hk.2⟩⟩
 have p:(cx G ρ w).le (cx G (c++ρ.drop top) w'):=J.le h.R.lo;have V:(cx (Gz G (ρ.drop top)) c w').le (cx G (c++ρ.drop top) w'):=⟨rfl,rfl,fun b ⟨q,u,P⟩=>⟨⟨q,fun k=>((lv' b).1 k).elim u fun k=>P (.inr k),fun k=>P (.inl k)⟩,rfl⟩,fun _ _ _=>rfl⟩;have Z:ky c (c++ρ.drop top):=gk _ _
 have C:∀ i r,ρ[i]? = some r->r ≠ .no->((∃ g,r = .blk g)\/i ∉ b.mv)->(c++ρ.drop top)[i]? = some r:=fun i r D L hk=>by
  by_cases y:i<m
  ·rw [B i aE];have N:(ρ.take m)[i]? = some r:=by rw [afF,if_pos y]; exact D
   rcases hk with ⟨g,rfl⟩ | hk
   ·exact T.bx i g N
   refine T.loc i r ?_ N;have:cd i b.mv=false:=by rw [<- Bool.not_eq_true,bw]; exact hk
   simp [this]
  by_cases hj:i<top
  ·rw [h.mid aE hj] at D; cases D; exact absurd rfl L
  rw [I i aE]; exact D
 have hrd:∀ a v,Rd (cx G ρ w) ρ a v->Rd (cx G (c++ρ.drop top) w') (c++ρ.drop top) (a.cr b.mv) v:=by
  intro a v F;have nm:∀ j,cd j b.mv=false->j ∉ b.mv:=fun j Q hm=>by rw [bw.2 hm] at Q; cases Q
  cases a with
  | own j=>
   simp only [AV.cr];cases Q:cd j b.mv
   ·refine Rd.on F p fun i y r D L=>C i r D L (.inr ?_);simp only [AV.ids,cond_false,acr] at y; subst y; exact nm _ Q
   exact Rd.one F
  | sub j o k=>
   simp only [AV.cr];cases Q:cd j b.mv
   ·refine Rd.on F p fun i y r D L=>C i r D L (.inr ?_);simp only [AV.ids,cond_false,acr] at y; subst y; exact nm _ Q
   exact Rd.one F
  | elp j k o=>
   simp only [AV.cr];cases Q:cd j b.mv
   ·refine Rd.on F p fun i y r D L=>C i r D L (.inr ?_);simp only [AV.ids,cond_false,acr] at y; subst y; exact nm _ Q
   exact Rd.one F
  | ptr j o=>
   obtain ⟨g,q,e⟩:=F;exact ⟨g,C _ _ q aa (.inl ⟨g,rfl⟩),e⟩
  | mq j=>
   obtain ⟨g,q,e⟩:=F;exact ⟨g,C _ _ q aa (.inl ⟨g,rfl⟩),e⟩
  | fn f b' cs=>
   obtain ⟨bs,us,q,u,e⟩:=F;exact ⟨bs,us,q.imp fun _ _ ⟨g,k1,k2⟩=>⟨g,C _ _ k1 aa (.inl ⟨g,rfl⟩),k2⟩,u.imp fun _ _ ⟨g,k1,k2⟩=>⟨g,C _ _ k1 aa (.inl ⟨g,rfl⟩),k2⟩,e⟩
  | fe s x o=>
   obtain ⟨A,cells,q,u,P,e⟩:=F;exact ⟨A,cells,(p.S _ q).1,u.keep (p.S _ q).2,P.carry p,e⟩
  | np=>exact F
  | nf=>exact F
  | yl l=>exact F
  | xx k' cs=>
   obtain ⟨us,q,u⟩:=F;exact ⟨us,q.imp fun _ _ ⟨g,k1,k2⟩=>⟨g,C _ _ k1 aa (.inl ⟨g,rfl⟩),k2⟩,u.le p⟩
  | dead=>exact F
  | int n=>exact Pd.carry F p
  | u8 b=>exact Pd.carry F p
  | u64 n=>exact Pd.carry F p
  | bool e=>exact Pd.carry F p
  | str s=>exact Pd.carry F p
  | em b=>exact Pd.carry F p
  | li nw xs=>exact Pd.carry F p
  | fz s xs=>exact Pd.carry F p
 refine ⟨⟨?_,?_,?_,fun b Q=>acv (h.R.z b Q) J.size,Nat.le_trans h.R.b0 J.size,h.R.tb.carry p⟩,⟨J,fun i r y D=>?_,fun i r y D=>?_,fun i g y=>?_⟩,hrd,fun t v ht=>ht.carry V Z⟩
 ·refine cA (by rw [hlen,List.length_append,htl,List.length_drop]; omega) fun x o r ho D=>?_;have hq:=hS' x;rw [ho] at hq;cases hx:S[x]? with
  | none=>rw [hx] at hq; cases hq
  | some o0=>
   rw [hx,Option.map_some] at hq;cases hq with
   | some hq=>
   refine hq.symm.or ?_;obtain ⟨r0,hr0,hor0⟩:=h.R.at_ hx
   have d:ρ[x]? = some r->(∀ g,r.g? = some g->w'.heap[g]? = w.heap[g]?)->OR (cx G (c++ρ.drop top) w') (c++ρ.drop top) (killO b.mv o0) r:=fun N hg=>by
    rw [hr0] at N; cases N;rw [Ma];exact hor0.map p hrd hg
   have K:x<top->∀ o1,b.res[x]? = some o1->OR (cx G (c++ρ.drop top) w') (c++ρ.drop top) o1 r:=fun X o1 ho1=>by
    rw [B x X] at D;obtain ⟨r1,hr1,hor1⟩:=W.at_ ho1;rw [D] at hr1; cases hr1;exact hor1.carry V Z fun _ _=>rfl
   unfold RC.endO;rw [H,Y];split
   ·rename_i hn;refine K hn.2 _ ?_;rw [List.getElem?_eq_getElem aE,gJ (List.getElem?_eq_getElem aE)]
   rename_i hn;unfold RC.obj;split
   ·rename_i hchx;rw [hent];have X:=hch x hchx;refine K aE _ ?_;rw [List.getElem?_eq_getElem aE,gJ (List.getElem?_eq_getElem aE)]
   rename_i hch;have hm:cd x b.ch=false:=by rw [<- Bool.not_eq_true,bw]; exact hch
   by_cases X:x<m
   ·have N:(ρ.take m)[x]? = some r0:=by rw [afF,if_pos X]; exact hr0
    have hp:=T.pro x r0 (by simp [hm]) N;rw [B x aE,hp.1] at D; cases D;exact d hr0 hp.2
   have hx2:top<=x:=by omega
   rw [I x hx2] at D;refine d D fun g hg=>(O g (h.R.bnd x r g D hg).2.1 (U g ⟨x - top,r,?_,hg⟩).2).2;rw [aeb,show top+(x - top)=x by omega]; exact D
 ·intro i j r r' g q u P h4;by_cases y:i<top <;> by_cases hj:j<top
  ·rw [B i y] at q; rw [B j hj] at u;exact W.inj i j r r' g q u P h4
  ·rw [B i y] at q; rw [I j aE] at u;have hc:live (ρ.drop top) g:=⟨j - top,r',by rw [aeb,show top+(j - top)=j by omega]; exact u,h4⟩;exact absurd ⟨i,r,q,P⟩ (O g (U g hc).1 (U g hc).2).1
  ·rw [I i aE] at q; rw [B j hj] at u;have hc:live (ρ.drop top) g:=⟨i - top,r,by rw [aeb,show top+(i - top)=i by omega]; exact q,P⟩;exact absurd ⟨j,r',u,h4⟩ (O g (U g hc).1 (U g hc).2).1
  rw [I i aE] at q; rw [I j aE] at u;exact h.R.inj i j r r' g q u P h4
 ·intro i r g q u;by_cases y:i<top
  ·rw [B i y] at q;have:=W.bnd i r g q u;exact ⟨this.1,this.2.1,fun hz=>this.2.2 (.inl hz)⟩
  rw [I i aE] at q;have:=h.R.bnd i r g q u;exact ⟨this.1,acv this.2.1 J.size,this.2.2⟩
 ·have hi':=hro i (.inr y);rw [B i aE];exact T.loc i r (by simp [y]) (by rw [afF,if_pos hi']; exact D)
 ·have hi':=hro i (.inl y);rw [B i aE];exact T.pro i r (by simp [y]) (by rw [afF,if_pos hi']; exact D)
 by_cases q:i<m
 ·rw [B i aE];exact T.bx i g (by rw [afF,if_pos q]; exact y)
 by_cases u:i<top
 ·rw [h.mid aE u] at y; cases y
 rw [I i aE]; exact y
end
variable {P:Program} {l:List Oper} {w:World} {a:Act}
theorem ad6 {Q:Exit->Act->World->Prop} {id:Nat} (hm:P.follows .mixedOrders=true) {Inv:(Nat->Bool)->Act->World->Prop}
  (N:∀ i,∀ j ∈ bG l i,j<i) (I:∀ s a w,Inv s a w->a.defers=[])
  (hs:∀ s a w i o,Inv s a w->l[i]? = some o->s i=false->(∀ j ∈ bG l i,s j=true)->(∀ k,s k=true->∀ j ∈ bG l k,s j=true) ->
   Pa P l.toArray (fun e a' w'=>e = .normal/\Inv (fun j=>s j || Nat.beq i j) a' w') [o] a w)
  (O:∀ s a w,Inv s a w->(∀ i,i<l.length->s i=true)->Q .normal a w) (Y:Inv (fun _=>false) a { w with drawn:=w.drawn+1 }):kD P (.region id l.toArray true) Q a w:=by
 intro H ds;refine wpIn_region_any hm ?_;have b:∀ f (c:Array Bool) a w,c.size=l.length->(List.range l.length).countP (fun i=>!c.getD i false)=f->(∀ k,c.getD k false=true->∀ j ∈ bG l k,c.getD j false=true)->Inv (fun i=>c.getD i false) a w->wpAnyIn (gM H) 0 P .any l.toArray (qE ds Q) f c (iU a ds) w:=by
  intro f;induction f with
  | zero=>
   intro c a w B hc S inv;have J:∀ i,i<l.length->c.getD i false=true:=fun i z=>by
    have:=List.countP_eq_zero.1 hc i (List.mem_range.2 z);simpa using this
   refine ⟨?_,a,I _ _ _ inv,rfl,O _ a w inv J⟩;cases hr:Region.ready .any l.toArray c with
   | nil=>rfl
   | cons i r=>
    obtain ⟨T,o,ho,_⟩:=mem_ready.1 (show i ∈ Region.ready .any l.toArray c by rw [hr]; simp);have C:i<l.length:=by simpa using (af1.1 ho).1
    have:=J i C;rw [getD_both T] at this; cases this
  | succ f ih=>
   intro c a w B hc S inv;have hex:∃ i,i<l.length/\c.getD i false=false/\∀ j,j<i->c.getD j false=true:=by
    have h1:∃ i,i<l.length/\c.getD i false=false:=by
     have:0<(List.range l.length).countP (fun i=>!c.getD i false):=by omega
     obtain ⟨i,z,Z⟩:=List.countP_pos_iff.1 this;exact ⟨i,List.mem_range.1 z,by simpa using Z⟩
    obtain ⟨i,z,Z⟩:=h1;have t:∀ m,∀ i,i<l.length->c.getD i false=false->i<=m->∃ i,i<l.length/\c.getD i false=false/\∀ j,j<i->c.getD j false=true:=by
     intro m;induction m with
     | zero=>intro i z Z him; exact ⟨i,z,Z,fun j A=>by omega⟩
     | succ m ihm=>
      intro i z Z him;by_cases N:∃ j,j<i/\c.getD j false=false
      ·obtain ⟨j,A,hpj⟩:=N;exact ihm j aE hpj aE
      grind
    exact t i i z Z (Nat.le_refl _)
   obtain ⟨m,U,hmu,V⟩:=hex;have g:m ∈ Region.ready .any l.toArray c:=by
    refine mem_ready.2 ⟨getD_in (by rw [B]; exact U) hmu,l[m],by simp [U],fun e O hb=>?_⟩;exact V _ (N m e.on (by
     simp only [bG,List.getElem?_eq_getElem U,fJ,ahE,ajt];exact ⟨e,⟨by simpa using O,hb⟩,rfl⟩))
   refine ⟨fun Y=>(by rw [Y] at g; cases g),fun i z=>?_⟩;obtain ⟨T,o,ho,D⟩:=mem_ready.1 z;have W:l[i]? = some o:=by simpa using ho
   have C:i<l.length:=(aaw.1 W).1;have K:c.getD i false=false:=getD_both T;have L:∀ k ∈ bG l i,c.getD k false=true:=fun k hk=>by
    simp only [bG,W,fJ,ahE,ajt] at hk;obtain ⟨e,⟨O,hb⟩,rfl⟩:=hk;exact D e (by simpa using O) hb
   have X:=hs _ a w i o inv W K L S H ds;have u:∀ j,(c.setIfInBounds i true).getD j false=(c.getD j false || Nat.beq i j):=fun j=>by
    by_cases A:j=i
    ·subst A; simp [Array.getD,B,C]
    have:Nat.beq i j=false:=by rw [<- Bool.not_eq_true,Nat.beq_eq]; exact fun e=>A e.symm
    rw [getD_set_ne false (Ne.symm A),this,Bool.or_false]
   have step:∀ v F,(True/\Inv (fun j=>c.getD j false || Nat.beq i j) (a.put o.dst v) F)->wpAnyIn (gM H) 0 P .any l.toArray (qE ds Q) f (c.setIfInBounds i true) (iU (a.put o.dst v) ds) F:=by
    intro v F ⟨_,hv⟩;refine ih _ _ _ (by simp [B]) ?_ ?_ ?_
    ·have:=countP_set (n:=l.length) (i:=i) (p:=fun j=>!c.getD j false) (q:=fun j=>!(c.setIfInBounds i true).getD j false) C (by simp [K]) (by simp [u]) (fun j A=>by
      have:Nat.beq i j=false:=by rw [<- Bool.not_eq_true,Nat.beq_eq]; exact fun e=>A e.symm
      simp [u,this])
     omega
    ·intro k hk j A;rw [u] at hk ⊢;rw [Bool.or_eq_true] at hk ⊢;rcases hk with hk | hk
     ·exact .inl (S k hk j A)
     have:=aaF hk;subst this; exact .inl (L j A)
    have e:(fun j=>(c.setIfInBounds i true).getD j false)=fun j=>(c.getD j false || Nat.beq i j):=funext u;rw [e]; exact hv
   have x:∀ v F,qE ds (fun e a' w'=>e = .normal/\Inv (fun j=>c.getD j false || Nat.beq i j) a' w') .normal ((iU a ds).put o.dst v) F->wpAnyIn (gM H) 0 P .any l.toArray (qE ds Q) f (c.setIfInBounds i true) ((iU a ds).put o.dst v) F:=fun v F ⟨a0,Y,e,h⟩=>by
    rw [sM] at e ⊢;rw [<- Nw e (E_ (I _ _ _ inv) _ _) Y] at h;exact step v F ⟨trivial,h.2⟩
   unfold wpOpIn;simp only [ho];simp only [wpListIn] at X;try simp only [eq_self_iff_true] at X
   by_cases y:Region.wanted o (yielded l.toArray (iU a ds).tmps)=true
   ·rw [if_pos y] at X ⊢;unfold Oper.wpIn at X ⊢;refine ⟨fun _ _=>trivial,zJ X.2 x (fun d F ⟨a0,Y,e,h⟩=>?_) (fun e a w O ⟨_,_,_,h⟩=>O h.1)⟩;have:=congrArg Act.defers e;cases hd:o.dst <;> rw [hd] at this <;> simp [Act.put,iU] at this
   rw [if_neg y] at X ⊢;exact ⟨fun _ _=>trivial,x undef w X.2⟩
 have G:(List.range l.length).countP (fun i=>!(Array.replicate l.toArray.size false).getD i false)=l.length:=by
  rw [List.countP_eq_length.2 (fun i _=>by rw [af2]; rfl),ajw]
 have:=b l.length (Array.replicate l.toArray.size false) a { w with drawn:=w.drawn+1 } aa G (fun k hk=>by rw [af2] at hk; cases hk) (by
  have e:(fun i=>(Array.replicate l.toArray.size false).getD i false)=fun _=>false:=funext fun i=>af2 _ _;rw [e]; exact Y)
 rw [show l.toArray.size=l.length by simp];exact this
theorem ln {m:Nat}:bitN m j=m.testBit j:=by
 rw [Nat.testBit_eq_decide_div_mod_eq];show Nat.beq ((m >>> j) &&& 1) 1=_;rw [Nat.and_one_is_mod,Nat.shiftRight_eq_div_pow];generalize m / 2 ^ j % 2=q;by_cases h:q=1
 ·simp_all
 rw [decide_eq_false h,<- Bool.not_eq_true,Nat.beq_eq]; exact h
theorem Ur {a b:Nat}:bitN (Nat.lor a b) j=(bitN a j || bitN b j):=by
 rw [ln,ln,ln];simp_all
theorem RU:bitN (Nat.shiftLeft 1 k) j=true↔j=k:=by
 rw [ln];show (1 <<< k).testBit j=true↔_;rw [Nat.testBit_shiftLeft,Bool.and_eq_true,decide_eq_true_eq,Nat.testBit_one_eq_true_iff_self_eq_zero];omega
theorem MM:bitN 0 j=false:=by rw [ln]; exact Nat.zero_testBit j
theorem pf {c:List Nat} {j:Nat}:∀ {l:List Nat},bitN (gV c l) j=true↔∃ k ∈ l,j=k\/bitN (c.getD k 0) j=true
 | []=>by simp [gV,MM]
 | k :: r=>by simp only [gV,Ur,Bool.or_eq_true,RU,pf,acw,or_and_right,exists_or,exists_eq_left]
theorem za:∀ {l:List Oper} {acc:List Nat},(iR acc l).length=acc.length+l.length
 | [],_=>by simp [iR]
 | o :: r,acc=>by
  have:=za (l:=r) (acc:=acc++[gV acc (fJ o)]);simp only [iR,this];simp; omega
theorem uq:∀ {l:List Oper} {c:List Nat} {k:Nat},k<c.length->(iR c l).getD k 0=c.getD k 0
 | [],_,_,_=>rfl
 | o :: r,c,k,h=>by
  simp only [iR];rw [uq (by simp; omega),List.getD_eq_getElem?_getD,List.getElem?_append_left h,List.getD_eq_getElem?_getD]
theorem pQ:∀ {l:List Oper} {k:Nat},rm k l=true->∀ i,∀ j ∈ bG l i,j<k+i
 | o :: r,k,h,i,j,c=>by
  simp only [rm,Bool.and_eq_true] at h;cases i with
  | zero=>exact gP.1 h.1 j (by simpa [bG] using c)
  | succ i=>
   have:=pQ h.2 i j (by simpa [bG] using c);omega
theorem xk:∀ {l:List Oper} {acc:List Nat} {i:Nat},(∀ i,∀ j ∈ bG l i,j<acc.length+i)->i<l.length->(iR acc l).getD (acc.length+i) 0=gV (iR acc l) (bG l i)
 | o :: r,acc,0,f,_=>by
  simp only [iR];have e:(iR (acc++[gV acc (fJ o)]) r).getD (acc.length+0) 0=gV acc (fJ o):=by
   rw [uq aa,List.getD_eq_getElem?_getD]; simp
  have m:bG (o :: r) 0=fJ o:=rfl;have p:∀ l:List Nat,(∀ j ∈ l,j<acc.length)->gV acc l=gV (iR (acc++[gV acc (fJ o)]) r) l:=by
   intro l;induction l with
   | nil=>intro _; rfl
   | cons k t q=>
    intro g;have u:=g k aa;simp only [gV];rw [q fun j c=>g j (by simp [c]),uq (show k<(acc++[gV acc (fJ o)]).length by simp; omega)];grind
  grind
 | o :: r,acc,i+1,f,s=>by
  simp only [iR];have:=xk (l:=r) (acc:=acc++[gV acc (fJ o)]) (i:=i) (fun k j c=>by
   have:=f (k+1) j (by simpa [bG] using c);simp; omega) (by simpa using s)
  simp only [List.length_append,ahp] at this;rw [show acc.length+(i+1)=acc.length+1+i by omega,this];simp [bG]
theorem sa {s:Nat->Bool} (p:∀ i,∀ j ∈ bG l i,j<i) (q:∀ k,s k=true->∀ j ∈ bG l k,s j=true):∀ (n i:Nat),i<=n->i<l.length->(∀ j ∈ bG l i,s j=true)->∀ j,bitN ((iR [] l).getD i 0) j=true->s j=true:=by
 intro n;induction n with
 | zero=>
  intro i u c f j g;have:=xk (acc:=[]) (fun i j m=>by have:=p i j m; simp; omega) c;simp only [List.length_nil,acC] at this;rw [this,pf] at g;grind
 | succ n v=>
  intro i u c f j g;have:=xk (acc:=[]) (fun i j m=>by have:=p i j m; simp; omega) c;simp only [List.length_nil,acC] at this;rw [this,pf] at g;grind
def jq (a:Act):Nat->Fr
 | 0=>[]
 | k+1=>(k,a.tmps.getD k undef) :: jq a k
theorem ga {a:Act} {t:Nat}:∀ {n:Nat},look (jq a n) t=if t<n then some (a.tmps.getD t undef) else none
 | 0=>rfl
 | k+1=>by
  simp only [jq,aW,ga];grind
variable {a':Act}
def Yt (h:a.defers=[]) (f:a'.defers=[]) (m:a.tmps.size=n) (c:a'.tmps.size=n) (g:∀ t,t<n->a'.tmps.getD t undef=a.tmps.getD t undef):a' = a:=by
 cases a with
 | mk t d=>
 cases a' with
 | mk s u=>
 simp only at h f m c g;subst h; subst f;congr 1;refine Array.ext aE fun i p q=>?_;have:=g i aE;simpa [Array.getD,p,q] using this
theorem Pm (h:a.defers=[]) (f:a.tmps.size=n):M n (jq a n) a:=⟨h,f,fun i v c=>by
 rw [ga] at c;split at c
 ·grind
 cases c⟩
variable {u:Value}
theorem lN (f:a.tmps.size=n) (g:t<n):(a.put d u).tmps.getD t undef=if d=some t then u else a.tmps.getD t undef:=by
 cases d with
 | none=>simp [Act.put]
 | some d=>
  by_cases c:d=t
  ·subst c; simp [Act.put,f,g]
  have m:¬ (some d=some t):=fun e=>c (acD e);show (a.tmps.setIfInBounds d u).getD t undef=_;simp_all
def sD (h:a.defers=[]) (m:a.tmps.size=n) (c:M n (jj d u (jq a n)) a'):a' = a.put d u:=by
 have p:(a.put d u).defers=[]/\(a.put d u).tmps.size=n:=by cases d <;> simp [Act.put,h,m]
 refine Yt p.1 c.1 p.2 c.2.1 fun t f=>?_;rw [lN m f];cases d with
 | none=>
  exact (c.2.2 t (a.tmps.getD t undef) (by show look (jq a n) t=_; rw [ga,if_pos f])).2
 | some d=>
  by_cases g:d=t
  ·subst g;rw [if_pos rfl];exact (c.2.2 d u (by show look ((d,u) :: jq a n) d=_; rw [aW,if_pos rfl])).2
  rw [if_neg (fun e=>g (acD e))];exact (c.2.2 t (a.tmps.getD t undef) (by show look ((d,u) :: jq a n) t=_; rw [aW,if_neg g,ga,if_pos f])).2
def eK.sub {F F':Fr} {y:Op} {ty:TypeId} {z:Value->World->Prop} (h:∀ a,M n F' a->M n F a) (k:eK P n F w y ty z):eK P n F' w y ty z:=by
 rcases k with (⟨v,x,m,p⟩ | ⟨f,args,m,p⟩) | ⟨A,x,m,p⟩
 ·exact .inl (.inl ⟨v,x,fun a d c q g s=>m a d c q g (h a s),p⟩)
 ·exact .inl (.inr ⟨f,args,fun a d c q g s=>m a d c q g (h a s),p⟩)
 exact .inr ⟨A,x,fun a d c q g s=>m a d c q g (h a s),p⟩
section
variable {P:Program} {n:Nat} {l:List Oper} {a:Act} {w:World}
variable {Q:Exit->Act->World->Prop} {o:Oper}
def HC (h:a.defers=[]) (A:a.tmps.size=n) {F:Fr} (K:∀ i v,look F i=some v->i<n/\a.tmps.getD i undef=v) {Φ:Value->World->Prop} (L:eK P n F w o.op o.type Φ) (N:∀ d,o.dst=some d->Nat.blt d n=true) (B:isSt o.op=true->o.dst=none)
  (O:∀ j x,o.guard=some (j,x)->∃ t,idst l j=some t/\t<n/\a.tmps.getD t undef = .bool x) (I:∀ u z,Φ u z -> Q .normal (a.put o.dst u) z):Pa P l.toArray Q [o] a w:=by
 have J:=Pm h A;have f:=eK.sub (F':=jq a n) (fun a' C=>⟨C.1,C.2.1,fun i v D=>by
  obtain ⟨p,q⟩:=K i v D;have:=(C.2.2 i (a.tmps.getD i undef) (by rw [ga,if_pos p])).2;exact ⟨p,this.trans q⟩⟩) L
 obtain ⟨dst,S,T,G,U,g⟩:=o;have c:WO P Q n l [⟨dst,S,T,G,U,none⟩] (jq a n) w:=by
  rcases f with f | ⟨V,z,p,q⟩
  ·exact WO.y f N fun v z D=>WO.nil fun a' m=>by rw [sD h A m]; exact I _ _ D
  obtain rfl:=B V;exact WO.s p (WO.nil fun a' m=>by
   have e:=sD (d:=none) (u:=undef) h A m;rw [e]; exact I _ _ q)
 cases g with
 | none=>exact c a J
 | some g=>
  obtain ⟨j,x⟩:=g;obtain ⟨t,p,q,W⟩:=O j x rfl;exact WO.on p (by rw [ga,if_pos q,W]) rfl c a J
def Ms (h:a.defers=[]) (v:a.tmps.size=n) (x:∀ d,o.dst=some d->Nat.blt d n=true) {y:Bool} (z:o.guard=some (j,y)) (f:idst l j=some t) (q:t<n) (hv:a.tmps.getD t undef = .bool (!y)\/a.tmps.getD t undef=undef) (A:Q .normal (a.put o.dst undef) w):Pa P l.toArray Q [o] a w:=by
 have m:=Pm h v;obtain ⟨dst,C,D,B,F,g⟩:=o;subst z;have p:look (jq a n) t=some (a.tmps.getD t undef):=by rw [ga,if_pos q]
 have c:WO P Q n l [] (jj dst undef (jq a n)) w:=WO.nil fun a' s=>by rw [sD h v s]; exact A
 cases dst with
 | some d=>
  rcases hv with hv | hv
  ·exact WO.off f (by rw [p,hv]) rfl (x d rfl) c a m
  exact WO.aaE f (by rw [p,hv]) (x d rfl) c a m
 | none=>
  have c:WO P Q n l [] (jq a n) w:=c;rcases hv with hv | hv
  ·exact WO.adB f (by rw [p,hv]) rfl c a m
  exact WO.WN f (by rw [p,hv]) c a m
end
def RunOK (P:Program) (shp:TypeId->Option Sh) (n:Nat) (g:Lv) (o:Oper) (r:RC):Prop:=∀ (G:Gl) (ρ:List RE) (w:World) (F:Fr),G.shp=shp->Rep G ρ (maskH r.σ 0 r.H0) w->FrR (cx G ρ w) ρ (du r.fr0 r.U) F->(∀ p ∈ r.ob,p) ->
 eK P n F w o.op o.type fun u f=>∃ c,Stp ⟨fun i=>cd i r.ch && g.wr i,fun i=>cd i r.mv && g.mv i⟩ ρ w c f /\ Rep G c r.res f /\ Rt (cx G c f) c r.v u/\∀ p ∈ r.fc,p
def EntOK (P:Program) (shp:TypeId->Option Sh) (n:Nat) (f:Lv) (o:Oper) (r:RC) (e:Ent) (p:Nat):Prop:=∀ (G:Gl) (ρ:List RE) (w:World) (F:Fr) (S:AH),G.shp=shp->Rep G ρ S w->FrR (cx G ρ w) ρ (du r.fr0 r.U) F->(S[p]?).map kd=(r.H0[p]?).map kd ->
 ∃ c,gZ P n F w o.op o.type c /\ Rep G ρ (S.set p (e.put (getO S p))) c /\ Stp f ρ w ρ c
structure RcOK (P:Program) (shp:TypeId->Option Sh) (n:Nat) (ro:Lv) (l:List Oper) (rs:List RC) (o:Oper) (i:Nat) (r:RC):Prop where
 dst:r.dst=o.dst
 dn:∀ d,o.dst=some d->Nat.blt d n=true
 st:r.on=true->isSt o.op=true->o.dst=none
 run:r.on=true->(r.ent=none/\RunOK P shp n ro o r)\/∃ e p,r.ent=some e/\r.ch=[p]/\r.mv=[]/\r.v = .un/\r.fc=[]/\r.res.length=r.base/\isSt o.op=true/\EntOK P shp n ro o r e p
 off:r.on=false->r.ch=[]/\r.mv=[]/\r.σ=[]/\r.res=maskH [] 0 r.H0/\r.ent=none/\r.v = .un/\r.fc=[]
 gd:(o.guard=none/\r.on=true)\/∃ j wt t,o.guard=some (j,wt)/\idst l j=some t/\t ∈ r.U/\((∃ rj,rs[j]? = some rj/\j<i/\rj.on=false/\r.on=false)\/∃ b,lookA r.fr0 t=some (one (.bool (.lit b)))/\r.on=(b == wt))
theorem Oi {a:RC} (h:okI a b=true):okI b a=true:=by
 have g:disj a.ch b.ch=true->disj b.ch a.ch=true:=fun h=>cC.2 fun i c f=>cC.1 h i f c;unfold okI at h ⊢;grind
theorem AX {m:Nat} {b:RC}:∀ {l:List RC} {k:Nat},Hc m b k l=true->∀ i a,l[i]? = some a->bitN m (k+i)=true\/(OkD a b/\OkD b a/\okI a b=true)
 | [],_,_,i,a,h=>by simp at h
 | x :: r,k,h,i,a,c=>by
  simp only [Hc,Bool.and_eq_true,Bool.or_eq_true] at h;cases i with
  | zero=>
   simp at c; subst c;exact h.1.imp id fun ⟨⟨f,g⟩,p⟩=>⟨FI f,FI g,p⟩
  | succ i=>
   have:=AX h.2 i a (by simpa using c);grind
theorem vk {b:RC}:∀ {l:List RC},xu b l=true->∀ a ∈ l,∀ d,a.dst=some d->b.dst≠some d
 | [],_,a,h,_,_=>by simp at h
 | x :: r,h,a,ha,d,c=>by
  simp only [xu,Bool.and_eq_true] at h;rcases acw.1 ha with rfl | ha
  ·intro f;simp_all
  exact vk h.2 a ha d c
structure OkAt (bef:List Nat) (j:Nat) (b:RC) (done:List RC):Prop where
 fit:b.Fit
 U:∀ i ∈ slotIds b.fr0 b.U,i<b.base
 σ:∀ i ∈ objIds b.H0 b.σ,i<b.base
 σb:∀ i ∈ b.σ,i<b.base
 ch:∀ i ∈ b.ch,i<b.base
 row:∀ i a,done[i]? = some a->bitN (bef.getD j 0) i=true\/(OkD a b/\OkD b a/\okI a b=true)
 dst:∀ a ∈ done,∀ d,a.dst=some d->b.dst≠some d
theorem EP {c:List Nat}:∀ {rest done:List RC} {j:Nat},done.length=j->DD c j done rest=true->∀ i b,rest[i]? = some b->OkAt c (j+i) b ((done++rest).take (j+i))
 | [],_,_,_,_,i,b,h=>by simp at h
 | x :: r,done,j,m,h,i,b,f=>by
  simp only [DD,Bool.and_eq_true] at h;obtain ⟨⟨⟨⟨⟨⟨⟨⟨⟨p,q⟩,s⟩,v⟩,g⟩,y⟩,z⟩,D⟩,A⟩,B⟩:=h;cases i with
  | zero=>
   simp at f; subst f;have e:(done++x :: r).take (j+0)=done:=by rw [ahH,<- m]; simp
   rw [e,ahH];exact ⟨⟨aaF p,afL q⟩,gP.1 s,gP.1 v,gP.1 g,gP.1 y,fun i a C=>by
    have:=AX A i a C;rwa [acC] at this,vk z⟩
  | succ i=>
   have:=EP (rest:=r) (done:=done++[x]) (j:=j+1) (by simp [m]) B i b (by simpa using f);rw [show j+1+i=j+(i+1) by omega] at this;simpa using this
section
variable {P:Program} {T:List (Nat × TI)} {shp:TypeId->Option Sh} {n:Nat} {ro:Lv} {l:List Oper}
def FrA (c:Cx) (ρ:List RE) (n:Nat) (fr:AFr) (a:Act):Prop:=∀ t v,lookA fr t=some v->t<n/\Rt c ρ v (a.tmps.getD t undef)
def Tl (G:Gl) (ro:Lv) (c:List RE) (m:World) (n:Nat) (g:AFr × AH) (f:List RC) (s:Nat->Bool) (a:Act) (w:World):Prop:=
 ∃ ρ,Stp ro c m ρ w/\Rep G ρ (iT s 0 f g).2 w/\FrA (cx G ρ w) ρ n (iT s 0 f g).1 a/\a.defers=[]/\a.tmps.size=n/\∀ k r,f[k]? = some r->s k=true->(∀ p ∈ r.fc,p)/\(r.on=false->∀ d,r.dst=some d->a.tmps.getD d undef=undef)
def AG (a:Act):AFr->Fr
 | []=>[]
 | (t,_) :: r=>(t,a.tmps.getD t undef) :: AG a r
theorem pj {a:Act} {t:Nat} {v:Value}:∀ {fr:AFr},look (AG a fr) t=some v->v=a.tmps.getD t undef/\∃ c,lookA fr t=some c
 | (i,x) :: r,h=>by
  simp only [AG,aW] at h;rw [dw];by_cases f:i=t
  ·simp_all
  rw [if_neg f] at h ⊢; exact pj h
theorem jN {fr:AFr} {t:Nat} {g:TV}:∀ {U:List Nat},lookA (du fr U) t=some g->t ∈ U/\lookA fr t=some g
 | u :: r,h=>by
  simp only [du] at h;split at h
  ·rename_i v p;rw [dw] at h;by_cases m:u=t
   ·grind
   rw [if_neg m] at h;obtain ⟨c,f⟩:=jN h; exact ⟨by simp [c],f⟩
  obtain ⟨c,f⟩:=jN h; exact ⟨by simp [c],f⟩
theorem lS {fr:AFr} {q:Nat × TV}:∀ {U:List Nat},q ∈ du fr U->q.1 ∈ U/\lookA fr q.1=some q.2
 | u :: r,h=>by
  simp only [du] at h;split at h
  ·rename_i v g;rcases acw.1 h with rfl | h
   ·grind
   obtain ⟨c,f⟩:=lS h; exact ⟨by simp [c],f⟩
  obtain ⟨c,f⟩:=lS h; exact ⟨by simp [c],f⟩
theorem qM {c:Cx} {ρ:List RE} {a:Act}:∀ {fr:AFr},(∀ q ∈ fr,Rt c ρ q.2 (a.tmps.getD q.1 undef))->FrR c ρ fr (AG a fr)
 | [],_=>.nil
 | (t,v) :: r,h=>.cons ⟨rfl,h (t,v) aa⟩ (qM fun q f=>h q (by simp [f]))
def oG (h:a.defers=[]) (c:a.tmps.size=n):(a.put d u).defers=[]/\(a.put d u).tmps.size=n:=by cases d <;> simp [Act.put,h,c]
def Ip {v:TV}:killTV mv v=v.mapA (AV.cr mv):=by
 cases mv with
 | cons _ _=>rfl
 | nil=>
  have e:∀ a:AV,a.cr []=a:=fun a=>gp aa;cases v with
  | one t=>exact congrArg TV.one (rA fun a _=>e a).symm
  | tup l=>exact congrArg TV.tup (wW fun t _ a _=>e a).symm
  | un=>rfl
def Rt.Li {c g:Cx} {f:List RE} (m:∀ a v,Rd c ρ a v->Rd g f (AV.cr mv a) v) {t:TV} {v:Value} (h:Rt c ρ t v):Rt g f (killTV mv t) v:=by
 rw [Ip];cases t with
 | one t=>exact xg m h
 | tup l=>obtain ⟨p,e,h⟩:=h; exact ⟨p,e,Gg m h⟩
 | un=>trivial
theorem Rep.q {G:Gl} {A B:AH} (h:Rep G ρ A w) (m:B.length=A.length) (p:∀ x:Nat,OOq (B[x]?) (A[x]?)):Rep G ρ B w:=by
 refine ⟨cA (by rw [m]; exact h.obj.length) fun x o r s v=>?_,h.inj,h.bnd,h.z,h.b0,h.tb⟩;have:=p x;rw [s] at this;cases f:A[x]? with
 | none=>rw [f] at this; cases this
 | some o'=>
  rw [f] at this;cases this with
  | some y=>
   obtain ⟨C,c,g⟩:=h.at_ f;rw [v] at c; cases c;exact y.symm.or g
def Hp {c:Cx} {b:Bool} {v:Value} (h:Rt c ρ (one (.bool (.lit b))) v):v = .bool b:=by
 cases h; rfl
variable {G:Gl} {ρ0:List RE} {w0:World} {q0:AFr × AH} {rs:List RC}
theorem My (hG:G.shp=shp) (hro:∀ i,ro.wr i=false\/ro.mv i=false->i<ρ0.length) (hq0:∀ i,i<ρ0.length->(ro.wr i=false\/ro.mv i=false)->i<q0.2.length) (hp:∀ i,∀ j ∈ bG l i,j<i) (hc:fQ q0 rs) (hok:DD (iR [] l) 0 [] rs=true) (hlen:rs.length=l.length) (hrc:∀ i o r,l[i]? = some o->rs[i]? = some r->RcOK P shp n ro l rs o i r)
  (hob:∀ i r,rs[i]? = some r->(∀ j r',rs[j]? = some r' -> bitN ((iR [] l).getD i 0) j=true->∀ p ∈ r'.fc,p)->∀ p ∈ r.ob,p)
  {s:Nat->Bool} {o:Oper} (inv:Tl G ro ρ0 w0 n q0 rs s a w) (ho:l[i]? = some o) (hsi:s i=false) (hpre:∀ j ∈ bG l i,s j=true) (hcl:∀ k,s k=true->∀ j ∈ bG l k,s j=true) :
  Pa P l.toArray (fun e a' w'=>e = .normal/\Tl G ro ρ0 w0 n q0 rs (fun j=>s j || Nat.beq i j) a' w') [o] a w:=by
 obtain ⟨ρ,hS,hR,hf,Y,F,hfc⟩:=inv;have hil:i<l.length:=(aaw.1 ho).1;obtain ⟨b,hb⟩:∃ b,rs[i]? = some b:=⟨_,List.getElem?_eq_getElem aE⟩;have m:=hrc i o b ho hb;have okAt:∀ j r,rs[j]? = some r->OkAt (iR [] l) j r (rs.take j):=fun j r z=>by
  have:=EP (done:=[]) rfl hok j r z;simpa using this
 have Q:=okAt i b hb;have hbits:∀ j,bitN ((iR [] l).getD i 0) j=true->s j=true:=sa hp hcl i i (Nat.le_refl _) hil hpre
 have S:∀ j r,rs[j]? = some r->j<i->s j=true\/(OkD b r/\OkD r b/\okI b r=true):=fun j r z hj=>by
  rcases Q.row j r (by rw [afF,if_pos hj]; exact z) with h | ⟨f,y,X⟩
  ·exact .inl (hbits j h)
  exact .inr ⟨y,f,Oi X⟩
 have V:∀ j r,rs[j]? = some r->i<j->s j=false\/(OkD b r/\OkD r b/\okI b r=true):=fun j r z hj=>by
  cases hsj:s j with
  | false=>exact .inl rfl
  | true=>
   right;rcases (okAt j r z).row i b (by rw [afF,if_pos hj]; exact hb) with h | ⟨f,y,X⟩
   ·have hjl:j<l.length:=by rw [<- hlen]; exact (aaw.1 z).1
    have:=sa hp hcl j j (Nat.le_refl _) hjl (hcl j hsj) i h;rw [hsi] at this; cases this
   exact ⟨f,y,X⟩
 have hdsts:∀ j r,rs[j]? = some r->i≠j->∀ d,b.dst=some d->r.dst≠some d:=fun j r z hj d O=>by
  rcases Nat.lt_or_gt_of_ne hj with h | h
  ·exact (okAt j r z).dst b (acA (by rw [afF,if_pos h]; exact hb)) d O
  intro hrd;exact Q.dst r (acA (by rw [afF,if_pos h]; exact z)) d hrd O
 have hrs:rs=rs.take i++b :: rs.drop (i+1):=by
  have f:=(aaw.1 hb);obtain ⟨f,y⟩:=f;rw [<- y,<- afP f,List.take_append_drop]
 have hti:(rs.take i).length=i:=by
  have:=(aaw.1 hb).1;simp; omega
 generalize hpreD:rs.take i=pre at hrs hti;generalize hpostD:rs.drop (i+1)=post at hrs;have hpre_at:∀ j r,pre[j]? = some r->rs[j]? = some r/\j<i:=fun j r h=>by
  have hj:=(aaw.1 h).1;rw [<- hpreD,afF] at h;split at h
  ·exact ⟨h,‹_›⟩
  cases h
 have C:∀ j r,post[j]? = some r->rs[i+1+j]? = some r:=fun j r h=>by
  rw [<- hpostD,aeb] at h; exact h
 have hcp:fQ q0 pre/\fQ (prg pre q0) (b :: post):=by rw [hrs] at hc; exact fQ.Nc.1 hc
 obtain ⟨hc1,hb1,L,g,hc2⟩:=hcp;have A:b.base=(prg pre q0).2.length:=by rw [<- L]; exact g.base
 have hst:∀ s',iT s' 0 rs q0=iT s' (i+1) post (bif s' i then b.app (iT s' 0 pre q0) else b.IX (iT s' 0 pre q0)):=fun s'=>by
  rw [hrs,Gj,hti,acC]; rfl
 have hl1:(iT s 0 pre q0).2.length=b.base:=by rw [A]; exact wY hc1 rfl
 have hag:Agr b (iT s 0 pre q0) (prg pre q0):=Hn hc1 (fun j r z=>by
  rw [acC];obtain ⟨f,y⟩:=hpre_at j r z;exact (S j r f y).imp id fun ⟨X,_,h4⟩=>⟨X,h4⟩) ⟨rfl,fun _ _=>rfl,fun _ _=>rfl,fun _ _=>rfl⟩
 have hgb:AgrB b (iT s 0 rs q0):=by
  rw [hst s,hsi,cond_false];refine BW g hc2 (by rw [ck g A.symm]; exact Nat.le_refl _) ((gK g hl1).trans (ck g A.symm).symm) (fun j r z=>(V _ r (C j r z) aE).imp id fun ⟨X,_,h4⟩=>⟨X,h4⟩) ?_;refine ⟨fun x K hlt=>?_,fun x K hlt=>?_,fun t T=>?_,fun x K hlt=>?_⟩
  ·rw [g_ g hl1,if_pos hlt,hag.ob x K,L]
  ·rw [g_ g hl1,if_pos hlt,hag.kd x K,L]
  ·show lookA (iT s 0 pre q0).1 t=_;rw [hag.sl t T,hb1]
  rw [g_ g hl1,if_neg aE,if_pos hlt]
 have D:Rel b (iT (fun j=>s j || Nat.beq i j) 0 rs q0) (iT s 0 rs q0):=by
  rw [hst s,hst (fun j=>s j || Nat.beq i j),hsi,cond_false];have e1:(false || Nat.beq i i)=true:=by simp
  rw [e1,cond_true];have ne:∀ j,j≠i->(s j || Nat.beq i j)=s j:=fun j hj=>by
   have:Nat.beq i j=false:=by rw [<- Bool.not_eq_true,Nat.beq_eq]; exact fun e=>hj e.symm
   rw [this,Bool.or_false]
  have e2:iT (fun j=>s j || Nat.beq i j) 0 pre q0=iT s 0 pre q0:=o_ fun j _ hj=>ne j aE;have e3:∀ q,iT (fun j=>s j || Nat.beq i j) (i+1) post q=iT s (i+1) post q:=fun q=>o_ fun j hj _=>ne j aE;rw [e2,e3];refine GP g Q.ch hc2 (by rw [ck g A.symm]; exact Nat.le_refl _) ((gK g hl1).trans (ck g A.symm).symm) (fun j r z=>⟨V _ r (C j r z) aE,hdsts _ r (C j r z) aE⟩) (Ij g hl1)
 have hSl:b.res.length<=(iT s 0 rs q0).2.length:=by
  have f:(iT s 0 rs q0).2.length=(prg rs q0).2.length:=wY hc rfl;rw [f,hrs,yz];have:=DO hc2;rw [ck g A.symm] at this;exact this
 have hge:q0.2.length<=b.base:=by rw [A]; exact DO hc1
 generalize hq:iT s 0 rs q0=q at hR hf hgb D hSl;generalize hq':iT (fun j=>s j || Nat.beq i j) 0 rs q0=q' at D;have part:Part G ρ q.2 w b.base b.res.length:=⟨hR,g.le,hSl,hgb.gn⟩
 have hmask:maskH b.σ 0 (q.2.take b.base)=maskH b.σ 0 b.H0:=by
  refine List.ext_getElem? fun x=>?_;rw [nr,nr,afF,acC];by_cases K:x<b.base
  ·rw [if_pos K];by_cases hm:x ∈ b.σ
   ·rw [hgb.ob x hm K]
   simp only [if_neg hm];have f:x<q.2.length:=by have:=g.le; omega
   have y:x<b.H0.length:=by have:=g.base; omega
   rw [List.getElem?_eq_getElem f,List.getElem?_eq_getElem y]; rfl
  rw [if_neg K,List.getElem?_eq_none (l:=b.H0) (by have:=g.base; omega)]
 have hσids:∀ x ∈ b.σ,∀ k ∈ (getO q.2 x).ids,k<b.base:=fun x K k I=>by
  have:=hgb.ob x K (Q.σb x K);have e:getO q.2 x=getO b.H0 x:=by unfold getO; rw [List.getD_eq_getElem?_getD,List.getD_eq_getElem?_getD,this]
  rw [e] at I;exact Q.σ k (uf I K)
 have N:∀ t ∈ b.U,∀ v,lookA b.fr0 t=some v->t<n/\Rt (cx G ρ w) ρ v (a.tmps.getD t undef):=fun t T v hv=>hf t v (by rw [hgb.sl t T]; exact hv);have hslotIds:∀ t ∈ b.U,∀ v,lookA b.fr0 t=some v->∀ k ∈ v.ids,k<b.base:=fun t T v hv k I=>Q.U k (qi hv I T);have hro':∀ k,ro.wr k=false\/ro.mv k=false->k<b.base:=fun k I=>acv (hq0 k (hro k I) I) hge
 have hgs:∀ j wt t,o.guard=some (j,wt)->idst l j=some t->t ∈ b.U->∀ c,lookA b.fr0 t=some (one (.bool (.lit c)))->t<n/\a.tmps.getD t undef = .bool c:=fun j wt t _ _ T c hc=>by
  obtain ⟨f,y⟩:=N t T _ hc;exact ⟨f,Hp y⟩
 have clause:∀ u k r,rs[k]? = some r->k≠i->s k=true->(∀ p ∈ r.fc,p)/\(r.on=false->∀ d,r.dst=some d->(a.put o.dst u).tmps.getD d undef=undef):=fun u k r z I hsk=>by
  obtain ⟨f,y⟩:=hfc k r z hsk;refine ⟨f,fun hoff d O=>?_⟩;have hkl:k<l.length:=by rw [<- hlen]; exact (aaw.1 z).1
  have hrk:=hrc k _ r (List.getElem?_eq_getElem hkl) z;have hdn:d<n:=by have:=hrk.dn d (by rw [<- hrk.dst]; exact O); exact Nat.blt_eq.mp this
  rw [lN F hdn,if_neg (fun e=>hdsts k r z (Ne.symm I) d (by rw [m.dst]; exact e) O)];exact y hoff d O
 have hsne:∀ k,(s k || Nat.beq i k)=true->k≠i->s k=true:=fun k I hne=>by
  have:Nat.beq i k=false:=by rw [<- Bool.not_eq_true,Nat.beq_eq]; exact fun e=>hne e.symm
  rwa [this,Bool.or_false] at I
 have fin:∀ u w' Z,b.ent=none->Stp ⟨fun i=>cd i b.ch && ro.wr i,fun i=>cd i b.mv && ro.mv i⟩ (ρ.take b.base) w Z w' -> Rep (Gz G (ρ.drop b.res.length)) Z b.res w' -> Rt (cx (Gz G (ρ.drop b.res.length)) Z w') Z b.v u->(∀ p ∈ b.fc,p)->(b.on=false->u=undef)->Tl G ro ρ0 w0 n q0 rs (fun j=>s j || Nat.beq i j) (a.put o.dst u) w':=by
  intro u w' Z W qD hRt hv hfcb hoff;obtain ⟨k1,k2,k3,k4⟩:=part.merge rfl rfl W Q.ch hro' qD hRt D.len D.ob;refine ⟨_,hS.trans k2,by rw [hq']; exact k1,fun t v B=>?_,(oG Y F).1,(oG Y F).2,fun k r z hsk=>?_⟩
  ·rw [hq',D.sl t] at B;unfold RC.endF at B;by_cases O:b.dst=some t
   ·rw [if_pos O] at B;cases B;rw [m.dst] at O;have htn:t<n:=Nat.blt_eq.mp (m.dn t O);rw [lN F htn,if_pos O];exact ⟨htn,k4 _ _ hv⟩
   rw [if_neg O,aeB] at B;obtain ⟨v0,f,rfl⟩:=B;obtain ⟨y,X⟩:=hf t v0 f;rw [m.dst] at O;rw [lN F y,if_neg O];exact ⟨y,X.Li k3⟩
  by_cases I:k=i
  ·subst I;rw [hb] at z; cases z;refine ⟨hfcb,fun ho' d O=>?_⟩;rw [m.dst] at O;rw [lN F (Nat.blt_eq.mp (m.dn d O)),if_pos O];exact hoff ho'
  exact clause u k r z I (hsne k hsk I)
 cases J:b.on with
 | false=>
  obtain ⟨e1,e2,e3,e4,e5,e6,e7⟩:=m.off J;rcases m.gd with ⟨_,y⟩ | ⟨j,wt,t,hg,T,htU,H⟩
  ·rw [J] at y; cases y
  have htv:t<n/\(a.tmps.getD t undef = .bool (!wt)\/a.tmps.getD t undef=undef):=by
   rcases H with ⟨rj,hrj,hji,hoffj,_⟩ | ⟨c,hc,L⟩
   ·have hjl:j<l.length:=by omega
    have hrcj:=hrc j _ rj (List.getElem?_eq_getElem hjl) hrj;have hdj:rj.dst=some t:=by
     rw [hrcj.dst];have:=T;rw [kj,List.getElem?_eq_getElem hjl] at this;exact this
    have hsj:s j=true:=by
     rcases S j rj hrj hji with h | ⟨h,_,_⟩
     ·exact h
     exact absurd htU (h.dst t hdj)
    exact ⟨Nat.blt_eq.mp (hrcj.dn t (by rw [<- hrcj.dst]; exact hdj)),.inr ((hfc j rj hrj hsj).2 hoffj t hdj)⟩
   obtain ⟨f,y⟩:=hgs j wt t hg T htU c hc;refine ⟨f,.inl ?_⟩;rw [y];rw [J] at L;cases c <;> cases wt <;> simp at L ⊢
  refine Ms Y F m.dn hg T htv.1 htv.2 ⟨rfl,fin undef w (ρ.take b.base) e5 (Stp.refl _ _ _) ?_ (by rw [e6]; trivial) (by rw [e7]; simp) fun _=>rfl⟩;have key:maskH b.σ 0 (q.2.take b.base)=b.res:=by rw [hmask,e3,e4]
  have hm:=part.mask hσids;rw [key] at hm;exact hm
 | true=>
  have hg:∀ j wt,o.guard=some (j,wt)->∃ t,idst l j=some t/\t<n/\a.tmps.getD t undef = .bool wt:=fun j wt hgd=>by
   rcases m.gd with ⟨f,_⟩ | ⟨j',wt',t,hg,T,htU,H⟩
   ·rw [hgd] at f; cases f
   rw [hgd] at hg; cases hg;rcases H with ⟨_,_,_,_,h⟩ | ⟨c,hc,L⟩
   ·rw [J] at h; cases h
   obtain ⟨f,y⟩:=hgs j wt t hgd T htU c hc;refine ⟨t,T,f,?_⟩;rw [y];rw [J] at L;cases c <;> cases wt <;> simp at L ⊢
  have hF:∀ k v,look (AG a (du b.fr0 b.U)) k=some v->k<n/\a.tmps.getD k undef=v:=fun k v I=>by
   obtain ⟨f,tv,y⟩:=pj I;obtain ⟨X,h4⟩:=jN y;exact ⟨(N k X tv h4).1,f.symm⟩
  rcases m.run J with ⟨W,hrun⟩ | ⟨e,p,W,hch,hmv,hv,hfcb,hres,hst2,hrun⟩
  ·have hy:=hrun (Gz G (ρ.drop b.res.length)) (ρ.take b.base) w (AG a (du b.fr0 b.U)) hG (by rw [<- hmask]; exact part.mask hσids) (qM fun x K=>by
    obtain ⟨f,y⟩:=lS K;refine (N _ f _ y).2.on part.cle fun k I r z _=>?_;rw [afF,if_pos (hslotIds _ f _ y k I)]; exact z) (hob i b hb fun j r' hr' hbit=>(hfc j r' hr' (hbits j hbit)).1)
   exact HC Y F hF hy m.dn (m.st J) hg fun u w' ⟨Z,f,y,X,h4⟩=>⟨rfl,fin u w' Z W f y X h4 fun h=>by rw [J] at h; cases h⟩
  have hpb:p<b.base:=Q.ch p (by rw [hch]; simp);obtain ⟨w',f,y,X⟩:=hrun G ρ w (AG a (du b.fr0 b.U)) q.2 hG hR (qM fun x K=>by
   obtain ⟨f,y⟩:=lS K;exact (N _ f _ y).2) (hgb.kd p (by rw [hch]; simp) hpb)
  have hdst:=m.st J hst2;refine HC (Φ:=fun u x=>u=undef/\x=w') Y F hF (.inr ⟨hst2,w',f,rfl,rfl⟩) m.dn (m.st J) hg fun u x ⟨_,K⟩=>?_;subst K;have hle:=X.ext.le hR.lo;refine ⟨rfl,ρ,hS.trans X,?_,fun t v B=>?_,(oG Y F).1,(oG Y F).2,fun k r z hsk=>?_⟩
  ·rw [hq'];refine y.q (by rw [acF]; exact D.len) fun x=>?_;have:=D.ob x;have hpl:p<q.2.length:=by omega
   by_cases hxp:x=p
   ·subst hxp;rw [adU hpl];rw [List.getElem?_eq_getElem hpl,Option.map_some,RC.endO,if_neg aE,RC.obj,if_pos (by rw [hch]; simp),W] at this;rw [gJ (List.getElem?_eq_getElem hpl)];exact this
   rw [List.getElem?_set_ne (fun e=>hxp e.symm)];have e9:(q.2[x]?).map (b.endO x)=q.2[x]?:=by
    cases q.2[x]? with
    | none=>rfl
    | some o=>
     rw [Option.map_some,RC.endO,if_neg aE,RC.fo (by rw [hch]; simpa using hxp),hmv];rfl
   rw [e9] at this;exact this
  ·rw [hq',D.sl t] at B;unfold RC.endF at B;rw [m.dst,hdst,if_neg aa,hmv] at B;have hv2:lookA q.1 t=some v:=by
    cases K:lookA q.1 t with
    | none=>rw [K] at B; cases B
    | some v0=>rw [K] at B; exact B
   obtain ⟨h5,h6⟩:=hf t v hv2;rw [lN F h5,hdst,if_neg aa];exact ⟨h5,h6.carry hle (ky.refl _)⟩
  by_cases I:k=i
  ·subst I;rw [hb] at z; cases z;exact ⟨by rw [hfcb]; simp,fun h=>by rw [J] at h; cases h⟩
  exact clause u k r z I (hsne k hsk I)
end
end Go.Proofs.YticbaadnibdbkaaGreat
