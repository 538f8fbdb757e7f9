/- What leads to the law, part 3. Conditions: each lemma's own. -/
import Derived.Scope
import Derived.Test.YticbaadnibdbkaaGreatNDM2
set_option linter.unusedVariables false
set_option linter.unusedSimpArgs false
set_option maxHeartbeats 2000000
set_option linter.defProp false
namespace Go.Proofs.YticbaadnibdbkaaGreat
open Go.RowKit
def ajF:=@Nat.mul_le_mul_left
def ag6:=@List.length_replicate
def alq:=@Nat.min_eq_right
def alo:=@List.mem_map_of_mem
def ahP:=@decide_eq_false
def akS:=@List.length_singleton
section
variable {G:Gl} {ρ:List RE} {H:AH} {w w':World}
theorem jl (t:Rep G ρ H w) {id:Nat} {e e':TypeId} {s s':Sh} {xs:List (den s)} {zs:List (den s')} (hH:getO H id = .row e s xs) {ro:Lv} (L:ro.mv id=true/\ro.wr id=true) {S:List Nat} (C:Kp S w w') (hS:∀ g ∈ S,∃ r,ρ[id]? = some r/\r.g? = some g) {r':RE} (V:∀ g,r'.g? = some g->(∃ r,ρ[id]? = some r/\r.g? = some g)\/(w.heap.size<=g/\g<w'.heap.size))
  (ho:(cx G ρ w).le (cx G (ρ.set id r') w')->OR (cx G (ρ.set id r') w') (ρ.set id r') (.row e' s' zs) r') :
  Stp ro ρ w (ρ.set id r') w' /\ Rep G (ρ.set id r') ((iq (AV.kill id) H).set id (.row e' s' zs)) w' /\ (∀ fr F,FrR (cx G ρ w) ρ fr F->FrR (cx G (ρ.set id r') w') (ρ.set id r') (jh (AV.kill id) fr) F):=by
 obtain ⟨N,hil,hiH⟩:=ng t hH;have hlv:∀ b,b<w.heap.size->¬ live ρ b->¬ live (ρ.set id r') b:=fun b y W h=>(zI h).elim W fun m=>by
  rcases V b m with ⟨r,h3,D⟩ | h3
  ·exact W ⟨id,r,h3,D⟩
  omega
 have I:∀ b,b<w.heap.size->(∀ r,ρ[id]? = some r->r.g? ≠ some b)->w'.heap[b]? = w.heap[b]?:=fun b y hn=>C.block b y fun hm=>by
  obtain ⟨r,i,m⟩:=hS b hm;exact hn r i m
 have J:Ext ρ w (ρ.set id r') w':=⟨C.os,C.tape,C.output,C.size,fun b y W=>⟨hlv b y W,I b y fun r i m=>W ⟨id,r,i,m⟩⟩⟩;have d:=J.le t.lo;have p:∀ j r,id≠j->ρ[j]? = some r->(ρ.set id r')[j]? = some r:=fun j r c h=>by rw [i_ c]; exact h
 have u:∀ q v,ek ρ q v->ek (ρ.set id r') q v:=fun q v ⟨g,i,m⟩=>⟨g,p _ _ (fun e=>N g (e ▸ i)) i,m⟩;have X:∀ a v,Rd (cx G ρ w) ρ a v->Rd (cx G (ρ.set id r') w') (ρ.set id r') (a.kill id) v:=by
  intro a v h;cases a with
  | own j=>
   simp only [AV.kill];cases y:Nat.beq id j
   ·have c:id≠j:=by rintro rfl; simp at y
    rcases h with ⟨g,B,len,z,h,e⟩ | ⟨h,e⟩
    ·exact .inl ⟨g,B,len,z,p _ _ c h,e⟩
    exact .inr ⟨p _ _ c h,e⟩
   exact Rd.one h
  | sub j o k=>
   simp only [AV.kill];cases y:Nat.beq id j
   ·have c:id≠j:=by rintro rfl; simp at y
    rcases h with ⟨g,B,len,z,h,e⟩ | ⟨h,e⟩
    ·exact .inl ⟨g,B,len,z,p _ _ c h,e⟩
    exact .inr ⟨p _ _ c h,e⟩
   exact Rd.one h
  | elp j k o=>
   simp only [AV.kill];cases y:Nat.beq id j
   ·have c:id≠j:=by rintro rfl; simp at y
    obtain ⟨g,B,len,z,h,e⟩:=h;exact ⟨g,B,len,z,p _ _ c h,e⟩
   exact Rd.one h
  | ptr j o=>exact u _ _ h
  | mq j=>
   obtain ⟨g,i,e⟩:=h;exact ⟨g,p _ _ (fun e=>N g (e ▸ i)) i,e⟩
  | fn f b cs=>
   obtain ⟨bs,us,i,m,e⟩:=h;exact ⟨bs,us,i.imp fun _ _ h=>u _ _ h,m.imp fun _ _ h=>u _ _ h,e⟩
  | fe s' x o=>
   obtain ⟨A,O,i,m,h3,e⟩:=h;exact ⟨A,O,(d.S _ i).1,m.keep (d.S _ i).2,h3.carry d,e⟩
  | np=>exact h
  | nf=>exact h
  | yl l=>exact h
  | xx k cs=>
   obtain ⟨us,i,m⟩:=h;exact ⟨us,i.imp fun _ _ h=>u _ _ h,m.le d⟩
  | dead=>exact h
  | int n=>exact Pd.carry h d
  | u8 b=>exact Pd.carry h d
  | u64 n=>exact Pd.carry h d
  | bool e=>exact Pd.carry h d
  | str s=>exact Pd.carry h d
  | em b=>exact Pd.carry h d
  | li nw xs=>exact Pd.carry h d
  | fz s xs=>exact Pd.carry h d
 have K:∀ j r g,id≠j->ρ[j]? = some r->r.g? = some g->w'.heap[g]? = w.heap[g]?:=fun j r g c i m=>I g (t.bnd j r g i m).2.1 fun Y h3 D=>c (t.inj _ _ _ _ g h3 i D m);have P:∀ (a:Nat) (r:RE) (g:Nat),(ρ.set id r')[a]? = some r->r.g? = some g->(id≠a/\ρ[a]? = some r)\/(id=a/\((∃ r,ρ[id]? = some r/\r.g? = some g)\/(w.heap.size<=g/\g<w'.heap.size))):=fun a r g i m=>by
  by_cases Q:id=a
  ·subst Q;rw [aeb hil] at i; cases i;exact .inr ⟨rfl,V g m⟩
  rw [i_ Q] at i; exact .inl ⟨Q,i⟩
 refine ⟨⟨J,fun j r T h=>p j r (by rintro rfl; rw [L.1] at T; cases T) h,fun j r T h=>⟨p j r (by rintro rfl; rw [L.2] at T; cases T) h,fun g hg=>K j r g (by rintro rfl; rw [L.2] at T; cases T) h hg⟩,fun j g h=>p j _ (fun e=>N g (e ▸ h)) h⟩,⟨cC (by simp [fq,t.obj.length]) fun j o r U hr=>?_,fun a b r1 Y g i m h3 D=>?_,fun j r g i m=>?_,fun b y=>ac2 (t.z b y) C.size,Nat.le_trans t.b0 C.size,t.tb.carry d⟩,fun fr F h=>tw X h⟩
 ·by_cases c:id=j
  ·grind
  rw [List.getElem?_set_ne c,lV] at U;rw [i_ c] at hr;rw [ago] at U;obtain ⟨o',ho2,rfl⟩:=U;obtain ⟨Y,Z,hor⟩:=t.at_ ho2;rw [hr] at Z; cases Z;exact hor.map d X fun g hg=>K j r g c hr hg
 ·rcases P a r1 g i h3 with ⟨k1,k2⟩ | ⟨k1,k2⟩ <;> rcases P b Y g m D with ⟨k3,k4⟩ | ⟨k3,k4⟩
  ·exact t.inj a b r1 Y g k2 k4 h3 D
  ·rcases k4 with ⟨r,k5,k6⟩ | k4
   ·exact absurd (t.inj _ _ _ _ g k5 k2 k6 h3) k1
   have:=(t.bnd a r1 g k2 h3).2.1; omega
  ·rcases k2 with ⟨r,k5,k6⟩ | k2
   ·exact absurd (t.inj _ _ _ _ g k5 k4 k6 D) k3
   have:=(t.bnd b Y g k4 D).2.1; omega
  omega
 rcases P j r g i m with ⟨k1,k2⟩ | ⟨k1,k2⟩
 ·have:=t.bnd j r g k2 m;exact ⟨this.1,ac2 this.2.1 C.size,this.2.2⟩
 rcases k2 with ⟨r,k5,k6⟩ | k2
 ·have:=t.bnd _ r g k5 k6;exact ⟨this.1,ac2 this.2.1 C.size,this.2.2⟩
 exact ⟨Nat.le_trans t.b0 k2.1,k2.2,fun hz=>by have:=t.z g hz; omega⟩
end
section
variable {P:Program} {T:List (Nat × TI)} {G:Gl} {O:bH} {n:Nat} {F:Fr} {w:World} {x y:Operand} {ty t:TypeId} {ρ:List RE} {H:AH} {fr:AFr} {ro:Lv}
variable {b:AV}
theorem oM (p:Rep G ρ H w) {vb:Value} {s:Sh} {g:List (den s)} (h:(b.vw H).fW s=some g) (m:Rd (cx G ρ w) ρ b vb):∃ A k d,vb = .slice A g.length k/\d.length=g.length*s.size/\(∀ u ∈ d,u.oneCell' = true)/\(g.length=0\/∃ i,A=some i/\CellsAt w i d)/\Pds (cx G ρ w) (g.flatMap (cellsOf s)) d:=by
 have q:∀ v,b.vw H = .fz s v->∃ A k d,vb = .slice A v.length k/\d.length=v.length*s.size/\(∀ u ∈ d,u.oneCell' = true)/\(v.length=0\/∃ i,A=some i/\CellsAt w i d)/\Pds (cx G ρ w) (v.flatMap (cellsOf s)) d:=fun v e=>by
  obtain ⟨a,k,f,rfl,B,C,j,o⟩:=(Hi p e m).ex;refine ⟨a,k,f,rfl,by rw [<- j.length,bX],j.Mn,?_,j⟩;rcases o with o | ⟨A,r,_,z⟩
  ·grind
  exact .inr ⟨A,r,z⟩
 cases e:b.vw H with
 | fz D I=>
  rw [e] at h;simp only [AV.fW] at h;grind
 | em c=>
  rw [e] at h;cases h;have l:b = .em c:=by
   cases b <;> simp only [AV.vw] at e <;> first | (cases e <;> rfl) | (split at e <;> cases e)
  subst l;cases m with | @em _ a _=>
  exact ⟨a,0,[],rfl,aa,aa,.inl rfl,.nil⟩
 | _=>rw [e] at h; simp [AV.fW] at h
variable {e:TypeId} {m:Nat}
theorem pA {lo:Nat} {s:Nat} {v:Value} {c:List Value} (h:w.ownsRow lo e s v m c):(v = .slice none 0 0/\m=0)\/∃ g a f,v = .slice (some ⟨g,0,none⟩) m a/\w.heap[g]? = some (.cells (List.toArray (c++f)) e (0,0))/\(c++f).length=a*s/\m<=a/\a<=maxLen:=by
 rcases h.2 with p | ⟨g,a,d,i,_,j,k,l,q,o⟩
 ·grind
 refine .inr ⟨g,a,d.toList.drop (m*s),i,?_,?_,k,l⟩
 ·rw [<- o,List.take_append_drop]; simpa using j
 grind
variable {va:Value} {a:AV} {r:SR}
def mA (hR:Rep G ρ H w) (hf:FrR (cx G ρ w) ρ fr F) {op:Op} {s:Sh} {z:List (den s)} {O:List Value} (q:G.shp e=some s) (s4:Pds (cx G ρ w) (z.flatMap (cellsOf s)) O)
  (run:∀ (m:Nat) (f:List Value),((m=0/\f=[]/\∃ a,va = .slice a 0 0)\/w.ownsRow 0 e s.size va m f)->(m+z.length)*s.bytes<=140737488355328 ->
     ∃ L d,aJ P n F w op ty L d /\ ((m+z.length=0/\∃ a,L = .slice a 0 0)\/d.ownsRow 0 e s.size L (m+z.length) (f++O))/\Kp (ob va) w d /\ (∀ g ∈ ob L,g ∈ ob va\/(g=w.heap.size/\w.heap.size<d.heap.size)))
  (h:lO ro fr H e s z a=some r) (T:∀ p ∈ r.ob,p) (ha:Rd (cx G ρ w) ρ a va) :
  ∃ v d,aJ P n F w op ty v d /\ eT G ro ρ w r F v d:=by
 unfold lO at h
 have j:∀ (id:Nat) (K N:List (den s)) (m:Nat),getO H id = .row e s K->(ro.mv id=true/\ro.wr id=true)->m=N.length->(∀ (L:Value) (d:World),d.heap.size=d.heap.size)->(m+z.length)*s.bytes<=140737488355328 ->
   ((va = .slice (some ⟨0,0,none⟩) 0 0->True))->(∃ f,((m=0/\f=[]/\∃ a,va = .slice a 0 0)\/w.ownsRow 0 e s.size va m f)/\Pds (cx G ρ w) (N.flatMap (cellsOf s)) f)->(∀ g ∈ ob va,∃ r,ρ[id]? = some r/\r.g? = some g) ->
   ∃ v d,aJ P n F w op ty v d /\ eT G ro ρ w ⟨one (.own id),jh (AV.kill id) fr,(iq (AV.kill id) H).set id (.row e s (N++z)),[],[]⟩ F v d:=by
  intro id K N m W hro hm _ c _ ⟨f,hrow,hpo⟩ y;subst hm;obtain ⟨_,X,_⟩:=ng hR W;obtain ⟨L,d,h1,h2,h3,U⟩:=run N.length f hrow c;have u:(N++z).length=N.length+z.length:=List.length_append;have done:∀ (Y:RE),(∀ g,Y.g? = some g->(∃ r,ρ[id]? = some r/\r.g? = some g)\/(w.heap.size<=g/\g<d.heap.size))->((cx G ρ w).le (cx G (ρ.set id Y) d)->OR (cx G (ρ.set id Y) d) (ρ.set id Y) (.row e s (N++z)) Y)->Rd (cx G (ρ.set id Y) d) (ρ.set id Y) (.own id) L -> ∃ v d,aJ P n F w op ty v d /\ eT G ro ρ w ⟨one (.own id),jh (AV.kill id) fr,(iq (AV.kill id) H).set id (.row e s (N++z)),[],[]⟩ F v d:=fun Y C D I=>by
   obtain ⟨J,Z,b⟩:=jl hR W hro h3 y C D;exact ⟨L,d,h1,ρ.set id Y,J,Z,b fr F hf,I,aa⟩
  rcases h2 with ⟨t,a',rfl⟩ | h2
  ·refine done .emp (by rintro g ⟨⟩) (fun _=>⟨q,by rw [u]; exact c,.inl ⟨rfl,abb aI⟩⟩) (.inr ⟨aeb X,a',rfl⟩)
  rcases pA h2 with ⟨rfl,t⟩ | ⟨g,o,sp,rfl,C,D,I,J⟩
  ·refine done .emp (by rintro g ⟨⟩) (fun _=>⟨q,by rw [u]; exact c,.inl ⟨rfl,abb aI⟩⟩) (.inr ⟨aeb X,none,rfl⟩)
  by_cases Q:o=0
  ·subst Q;have x:N.length+z.length=0:=by omega
   exact done .emp (by rintro g ⟨⟩) (fun _=>⟨q,by rw [u]; exact c,.inl ⟨rfl,abb aI⟩⟩) (.inr ⟨aeb X,some ⟨g,0,none⟩,by rw [x]⟩)
  refine done (.row g o (N++z).length s.size) (fun g' i=>?_) (fun hle=>⟨q,by rw [u]; exact c,.inr ⟨g,o,f++O,sp,rfl,C,?_,D,by rw [u]; exact I,J⟩⟩) (.inl ⟨g,o,(N++z).length,s.size,aeb X,by rw [u]⟩)
  ·cases i;rcases U g (by simp [ob,Q]) with V | ⟨V,h6⟩
   ·exact .inl (y g V)
   exact .inr ⟨aI,aI⟩
  rw [List.flatMap_append];exact (hpo.append s4).carry hle
 split at h
 ·-- no room
  cases h;cases ha with | @em _ a0 _=>
  have c:=T _ (aa0 _);obtain ⟨L,d,h1,h2,h3,U⟩:=run 0 [] (.inl ⟨rfl,rfl,a0,rfl⟩) (by simpa using c);have hk:Kp [] w d:=h3.sub fun g hg=>by cases a0 <;> simp [ob] at hg
  simp only [adz,ak_] at h2;have fin:∀ (a':Option Addr),z=[]->L = .slice a' 0 0->eT G ro ρ w ⟨one (.own H.length),fr,H++[.row e s z],[z.length*s.bytes<=140737488355328],[]⟩ F L d:=fun a' hy0 hv=>by
   obtain ⟨k,C,D,I,J⟩:=OA (ro:=ro) hR hf hk q hy0 a';subst hv;exact ⟨k,C,D,I,J,aa⟩
  refine ⟨L,d,h1,?_⟩;rcases h2 with ⟨t,a',hv⟩ | h2
  ·exact fin a' (abb t) hv
  rcases pA h2 with ⟨hv,t⟩ | ⟨g,o,sp,rfl,C,D,I,J⟩
  ·exact fin none (abb t) hv
  by_cases Q:o=0
  ·subst Q;have x:z.length=0:=by omega
   exact fin _ (abb x) (by rw [x])
  rcases U g (by simp [ob,Q]) with V | ⟨V,h6⟩
  ·cases a0 <;> simp [ob] at V
  subst V;obtain ⟨k,j1,j2,j3,j4⟩:=rG (ro:=ro) hR hf hk C q c s4 D I J;exact ⟨k,j1,j2,j3,j4,aa⟩
 ·-- a row
  rename_i id;split at h
  ·rename_i e' s' K W;split at h
   ·rename_i hss;subst hss;split at h
    ·rename_i A;cases h;simp only [Bool.and_eq_true] at A;have he:=aaA A.2;subst he;have c:=T _ (aa0 _);have S:=j id K K K.length W A.1 rfl (fun _ _=>rfl) c (fun _=>trivial);rcases bE hR W with ⟨t,rfl⟩ | ⟨g,o,l,sp,h2,h3,U,V,h6,h7⟩
     ·rcases ha with ⟨_,_,_,_,B,_⟩ | ⟨_,a0,rfl⟩
      ·rw [t] at B; cases B
      obtain ⟨v,d,C,k,D,I,J,Z,b⟩:=S ⟨[],.inl ⟨rfl,rfl,a0,rfl⟩,.nil⟩ (fun g hg=>by cases a0 <;> simp [ob] at hg);exact ⟨v,d,C,k,D,I,J,Z,b⟩
     rcases ha with ⟨_,_,_,_,B,rfl⟩ | ⟨B,_⟩
     ·rw [h2] at B; cases B;obtain ⟨v,d,C,k,D,I,J,Z,b⟩:=S ⟨l,.inr ⟨by rw [<- U.length,bX],.inr ⟨g,o,_,rfl,ahj _,h3,h6,h7,by simpa using V,by
       have hcl:l.length=K.length*s'.size:=by rw [<- U.length,bX]
       rw [<- hcl]; simp⟩⟩,U⟩ (fun g' i=>by
        simp only [ob] at i;split at i
        ·simp at i
        simp at i; subst i; exact ⟨_,h2,rfl⟩)
      exact ⟨v,d,C,k,D,I,J,Z,b⟩
     rw [h2] at B; cases B
    cases h
   cases h
  cases h
 ·-- a row's beginning
  rename_i id len;split at h
  ·rename_i e' s' K W;split at h
   ·rename_i hss;subst hss;split at h
    ·rename_i A;cases h;simp only [Bool.and_eq_true] at A;have he:=aaA A.2;subst he;have c:=T _ (aa0 _);rcases bE hR W with ⟨t,rfl⟩ | ⟨g,o,l,sp,h2,h3,U,V,h6,h7⟩
     ·rcases ha with ⟨_,_,_,_,B,_⟩ | ⟨_,_,rfl,a0,rfl⟩
      ·rw [t] at B; cases B
      obtain ⟨v,d,C,k,D,I,J,Z,b⟩:=j id [] ([].take 0) 0 W A.1 rfl (fun _ _=>rfl) c (fun _=>trivial) ⟨[],.inl ⟨rfl,rfl,a0,rfl⟩,.nil⟩ (fun g hg=>by cases a0 <;> simp [ob] at hg);exact ⟨v,d,C,k,D,I,J,Z,b⟩
     rcases ha with ⟨_,_,_,_,B,h9,rfl⟩ | ⟨B,_⟩
     ·rw [h2] at B; cases B;have hlt:(K.take len).length=len:=by simp; omega
      have hcl:l.length=K.length*s'.size:=by rw [<- U.length,bX]
      have hmul:len*s'.size<=K.length*s'.size:=ag0 _ aI;obtain ⟨v,d,C,k,D,I,J,Z,b⟩:=j id K (K.take len) len W A.1 hlt.symm (fun _ _=>rfl) c (fun _=>trivial) ⟨l.take (len*s'.size),.inr ⟨by rw [List.length_take]; omega,.inr ⟨g,o,_,by rw [alw,alF],ahj _,h3,aI,h7,by simpa using V,by
       rw [List.toList_toArray,ag4 aI]⟩⟩,bC U len⟩ (fun g' i=>by
        simp only [ob] at i;split at i
        ·simp at i
        simp at i; subst i; exact ⟨_,h2,rfl⟩)
      exact ⟨v,d,C,k,D,I,J,Z,b⟩
     rw [h2] at B; cases B
    cases h
   cases h
  cases h
 cases h
def jN (hT:bh P G.shp T) (D:Rep G ρ H w) (K:FrR (cx G ρ w) ρ fr F) {vb:Value} (h:jO T ro fr H t a b=some r) (l:∀ p ∈ r.ob,p) (i:Rd (cx G ρ w) ρ a va) (L:Rd (cx G ρ w) ρ b vb) (N:ev F x=some va) (Q:ev F y=some vb) :
  ∃ v j,aJ P n F w (.call { callee:=.builtin .append,args:=#[x,y],argTypes:=#[t,t] }) ty v j /\ eT G ro ρ w r F v j:=by
 unfold jO at h;split at h
 ·rename_i e s sz z o;obtain ⟨S,U⟩:=(hT _ _ o).2;obtain ⟨d,⟨V,W,q⟩,_⟩:=U s rfl;have u:V.length=s.size:=by
   have:=(ki (c:=cx G ρ w) (ρ:=ρ) q).length;rw [cY] at this; exact this.symm
  split at h
  ·rename_i I B;obtain ⟨A,k,X,rfl,Y,Z,O,s4⟩:=oM D B L;refine mA (ty:=ty) D K d s4 (fun m J f g=>?_) h l i;have C:m+I.length<=9223372036854775807:=by
    have:=ajF (m+I.length) (gV s);omega
   obtain ⟨v',j,h1,h2⟩:=zj (P:=P) (w:=w) (ty:=ty) (cy:=k) S W u (size_pos s) (lo:=0) (ahj _) f Y Z O g C;exact ⟨v',j,fun a _ _ _ _ i=>by simp [execOp,resolve,invoke,builtin,i.ev N,i.ev Q,h1],h2⟩
  cases h
 cases h
variable {t':TypeId}
def tH {z:List Value} (Y:P.underlying t=some (.slice e)) (B:P.underlying t' = some .string) (H:(P.info? e).map (fun i=>(i.zero.map Value.cells,i.size,i.bytes))=some (some z.toArray,1,1)) (hz:(P.info? e).bind (·.zero)=some (.int .u8 0))
  {v:Value} {d:List Value} (S:(m=0/\d=[]/\∃ a,v = .slice a 0 0)\/w.ownsRow 0 e 1 v m d) (s:ByteArray) (U:m+s.size<=140737488355328) :
  ∃ A C,(Builtin.append_ #[t,t'] ty #[v,.string s]).run P w = .ok A C /\ ((m+s.size=0/\∃ a,A = .slice a 0 0)\/C.ownsRow 0 e 1 A (m+s.size) (d++Lib.strCells s))/\Kp (ob v) w C /\ (∀ g ∈ ob A,g ∈ ob v\/(g=w.heap.size/\w.heap.size<C.heap.size)):=by
 obtain ⟨i,zv,V,hzv,hzc,K,L⟩:=rC H;have p:i.zero=some (.int .u8 0):=by
  rw [V] at hz; exact hz
 have x:m+s.size<=maxLen:=by simp only [maxLen]; omega
 have I:∀ (A:Value) (C:World) (k c:Nat),A = .slice (some ⟨w.heap.size,0,none⟩) k c->C.ownsRow 0 e 1 A k (d++Lib.strCells s)->∀ g ∈ ob A,g ∈ ob v\/(g=w.heap.size/\w.heap.size<C.heap.size):=fun A C k c O f g N=>by
  have h1:=yv N;have h2:=(f.lt _ h1).2;subst O;have h1:w.heap.size=g:=adC h1;exact .inr ⟨h1.symm,aI⟩
 by_cases J:∃ a,v = .slice a 0 0
 ·obtain ⟨a0,rfl⟩:=J;have T:m=0/\d=[]:=by
   rcases S with ⟨h1,h2,_⟩ | h1
   ·exact ⟨h1,h2⟩
   have hm:m=0:=by
    rcases h1.2 with ⟨_,Z⟩ | ⟨g,l,D,O,_,_,G,_⟩
    ·exact Z
    injection O with _ W _; exact W.symm
   refine ⟨hm,abb ?_⟩;rw [h1.1,hm,alw]
  obtain ⟨rfl,rfl⟩:=T;have hob0:∀ g,g ∉ ob (.slice a0 0 0):=fun g N=>by cases a0 <;> simp [ob] at N
  by_cases Z:s.size=0
  ·refine ⟨.slice a0 0 0,w,?_,.inl ⟨aI,a0,rfl⟩,(Kp.refl w).sub aa,fun g N=>.inl N⟩;have hf:=Lib.run_firstCells_string (P:=P) w 1 s;have G:Lib.strCells s=[]:=abb (by rw [Lib.strCells_length]; exact Z);rw [Z,G] at hf;cases a0 <;> simp [Builtin.append_,run_underlying Y,run_underlying B,sizeOf,typeInfo,V,K,Builtin.lenOf,Z,hf,storeCells]
  obtain ⟨A,C,r,f,o,_⟩:=Lib.run_append_own_string (P:=P) w 0 t t' ty e i Y B V p K L (.slice none 0 0) 0 [] (World.ownsRow_nil _ _ _ _) s x U (ahj _);have q:=run_append_nil_string (P:=P) w t t' ty e i (.int .u8 0) Y B V p s aI aI (by rw [L]; omega);rw [r] at q;injection q with W e2;have heq:(Builtin.append_ #[t,t'] ty #[.slice a0 0 0,.string s]).run P w = .ok A C:=by
   cases a0 with
   | none=>exact r
   | some b0=>
    rw [Lib.run_append_grow_string (P:=P) w t t' ty e i (.int .u8 0) Y B V p b0 0 0 [] aa aa s aI aI (by rw [L]; exact alO aI aI),W,e2];have e3:(s.data.map fun b=>Value.int .u8 b.toNat)=(Lib.strCells s).toArray:=by
     apply aiW;simp [Lib.strCells]
    simp [e3]
  exact ⟨A,C,heq,.inr (by simpa using f),⟨o.os,o.tape,o.output,o.size,fun b hb _=>o.block b hb (by simp [Value.ownBlock])⟩,fun g N=>I A C _ _ W (by simpa using f) g N⟩
 have f:w.ownsRow 0 e 1 v m d:=by
  rcases S with ⟨_,_,h⟩ | h1
  ·exact absurd h J
  exact h1
 obtain ⟨A,C,r,Q,o,_⟩:=Lib.run_append_own_string (P:=P) w 0 t t' ty e i Y B V p K L v m d f s x U (ahj _);obtain ⟨g,l,D,rfl,hc0,N,y,F,hl⟩:∃ g l D,v = .slice (some ⟨g,0,none⟩) m l/\l≠0/\w.heap[g]? = some (.cells D e (0,0))/\m<=l/\D.size=l/\(∀ j u,d[j]? = some u->w.cell? ((⟨g,0,none⟩:Addr).add j)=some u):=by
  rcases f.2 with ⟨h,_⟩ | ⟨g,l,D,rfl,_,N,y,_,F,_⟩
  ·exact absurd ⟨none,h⟩ J
  refine ⟨g,l,D,rfl,fun Z=>J ⟨some ⟨g,0,none⟩,?_⟩,N,y,by simpa using F,f.cells (g:=g) rfl⟩;subst Z;rw [show m=0 by omega]
 have X:ob (.slice (some ⟨g,0,none⟩) m l)=[g]:=by simp [ob,hc0]
 refine ⟨A,C,r,.inr Q,⟨o.os,o.tape,o.output,o.size,fun b hb G=>o.block b hb fun he=>G (by rw [X]; simpa [Value.ownBlock] using he)⟩,?_⟩;by_cases n:m+s.size<=l
 ·have q:=Lib.run_append_room_string (P:=P) w t t' ty e i Y B V K g m l D N s n aI;rw [r] at q;injection q with W e2;intro g' hg';subst W;have h1:=yv hg';have h1:g=g':=adC h1;subst h1;exact .inl (by rw [X]; simp)
 have q:=Lib.run_append_grow_string (P:=P) w t t' ty e i (.int .u8 0) Y B V p ⟨g,0,none⟩ m l d (by rw [K]; exact f.1) hl s aI aI (by rw [L]; exact alO aI aI);rw [r] at q;injection q with W e2;exact I A C _ _ W Q
def uZ (hT:bh P G.shp T) (C:Rep G ρ H w) (D:FrR (cx G ρ w) ρ fr F) {vb:Value} (h:yF T ro fr H t t' a b=some r) (k:∀ p ∈ r.ob,p) (i:Rd (cx G ρ w) ρ a va) (I:Rd (cx G ρ w) ρ b vb) (J:ev F x=some va) (K:ev F y=some vb) :
  ∃ v j,aJ P n F w (.call { callee:=.builtin .append,args:=#[x,y],argTypes:=#[t,t'] }) ty v j /\ eT G ro ρ w r F v j:=by
 unfold yF at h;split at h
 ·rename_i e sz z L Z s o c;obtain ⟨N,Q⟩:=(hT _ _ o).2;obtain ⟨d,⟨O,S,U⟩,q⟩:=Q .u8 rfl;have u:=(hT _ _ c).2;cases I with | str hl=>
  have V:Pds (cx G ρ w) (s.b.flatMap (cellsOf .u8)) (Lib.strCells ⟨s.b.toArray⟩):=by
   have:Lib.strCells ⟨s.b.toArray⟩=s.b.map fun b=>Value.int .u8 (b.toNat:Int):=by simp [Lib.strCells]
   rw [this];generalize s.b=l;induction l with
   | nil=>exact .nil
   | cons b l W=>exact .cons .u8 W
  refine mA (ty:=ty) C D d V (fun m A f g=>?_) h k i;obtain ⟨X,j,Y,B⟩:=tH (P:=P) (w:=w) (ty:=ty) N u S (q rfl).2 f ⟨s.b.toArray⟩ (by simpa [Sh.bytes,ByteArray.size] using g);exact ⟨X,j,fun a _ _ _ _ i=>by simp [execOp,resolve,invoke,builtin,i.ev J,i.ev K,Str.val,Y],by rw [show (ByteArray.mk s.b.toArray).size=s.b.length by simp [ByteArray.size]] at B; exact B⟩
 cases h
end
theorem iM {f:Nat->AO}:∀ {l:List Nat} {H:AH},(ny f l H).length=H.length
 | [],_=>rfl
 | i :: r,H=>by rw [ny,iM,aeD]
theorem wB {f:Nat->AO} {j:Nat}:∀ {l:List Nat} {H:AH},j<H.length->(ny f l H)[j]? = if j ∈ l then some (f j) else H[j]?
 | [],_,_=>by simp [ny]
 | i :: r,H,a=>by
  rw [ny,wB (by rw [aeD]; exact a)];grind
theorem iJ {H:AH} {i:Nat}:∀ {l:List Nat},i ∈ rowsOf H l↔i ∈ l/\((∃ t s a,getO H i = .row t s a)\/getO H i = .loc)
 | []=>by simp [rowsOf]
 | j :: r=>by
  unfold rowsOf;split
  ·rename_i t s a h;simp only [ado,iJ];grind
  ·rename_i h;simp only [ado,iJ];grind
  rename_i b c;simp only [iJ];grind
theorem vr {a:Lv}:∀ {l:List Nat},zd a l=true↔∀ i ∈ l,a.wr i=true/\a.mv i=true
 | []=>by simp [zd]
 | i :: r=>by simp [zd,vr]
theorem qf {b:Sh} {o:AO}:∀ {H:AH},sX b H=true->o ∈ H->sX b [o]=true
 | o' :: r,h,hm=>by
  rcases ado.1 hm with rfl | hm
  ·cases o <;> simp only [sX] at h ⊢ <;> simp_all
  exact qf (H:=r) (by cases o' <;> simp only [sX,Bool.and_eq_true] at h <;> first | exact h | exact h.2) hm
variable {H:AH} {t:TypeId} {b:Sh}
def UL {a:List AV} (h:sX b H=true) (c:.box t a ∈ H):noL b a=true:=by simpa [sX] using qf h c
def Tb {s:Sh} {a:List (den s)} (h:sX b H=true) (c:.row t s a ∈ H):jv (Sh.no 5 b) s.gS=true:=by simpa [sX] using qf h c
def Wy {s:Sh} {f:Int->Option (den s)} (h:sX b H=true) (a:.mapo s f ∈ H):jv (Sh.no 5 b) s.gS=true:=by simpa [sX] using qf h a
variable {n:Nat}
def Wv {s:Sh} {a:List (den s)} (h:sX b H=true) (c:.arr t s n a ∈ H):jv (Sh.no 5 b) s.gS=true:=by simpa [sX] using qf h c
theorem Gp {b:Sh}:∀ {l:List (Int × AV)},noM b l=true->∀ q ∈ l,q.2.no b=true
 | (k,a) :: r,h,q,hq=>by
  simp only [noM,Bool.and_eq_true] at h;rcases ado.1 hq with rfl | hq
  ·exact h.1
  exact Gp h.2 q hq
variable {l:List (Int × AV)}
def QX (h:sX b H=true) (a:.mapf l ∈ H):noM b l=true:=by simpa [sX] using qf h a
variable {j:Nat} {σ:List Nat}
def Dm (a:σ.Nodup) (c:j<σ.length):posOf σ[j] σ=j:=by
 have d:=lq (σ:=σ) (aha c);have e:=(aad.1 d);obtain ⟨g,f⟩:=e;exact (List.getElem_inj a).1 f
def gb (c:List RE) (σ:List Nat) (a:List RE):List RE:=((List.range c.length).map fun j=>if j ∈ σ then a.getD (posOf j σ) .no else c.getD j .no)++a.drop σ.length
variable {ρ ρ2:List RE}
theorem jH (a:j<ρ.length):(gb ρ σ ρ2)[j]? = some (if j ∈ σ then ρ2.getD (posOf j σ) .no else ρ.getD j .no):=by
 unfold gb;grind
theorem yx (a:ρ.length<=j):(gb ρ σ ρ2)[j]? = ρ2[σ.length+(j - ρ.length)]?:=by
 unfold gb;grind
section
variable {P:Program} {G:Gl} {O:bH} {n:Nat} {F:Fr} {w:World} {ρ:List RE} {H:AH} {fr:AFr} {ro:Lv}
def vP (hO:aw P G.shp O) (hR:Rep G ρ H w) (hf:FrR (cx G ρ w) ρ fr F) {f:Nat} {a:List TV1} {D:List Nat} {vs:List Value} {r:SR}
  (hvs:∀ (G':Gl) (σ:List Nat),G'.shp=G.shp->(cx G ρ w).le (cx G' (dw ρ σ) w)->(∀ i ∈ qW a,i ∈ σ)->(∀ id ∈ D,∀ g L len z,ρ[id]? = some (.row g L len z)->(cx G' (dw ρ σ) w).S g)->All2 (dk (cx G' (dw ρ σ) w) (dw ρ σ)) (jb (posOf · σ) a) vs)
  (hlent:∀ id ∈ D,∀ r,ρ[id]? = some r->r ≠ .no->(∃ t s xs,getO H id = .row t s xs))
  (h:HK O ro fr H f a D=some r) (hob:∀ p ∈ r.ob,p) :
  (∃ fn,P.funcs[f]? = some fn/\(fn.name == "runtime.NumGoroutine")=false/\fn.body.isNone=false)/\jS P f vs.toArray w fun v X=>eT G ro ρ w r F v X:=by
 unfold HK at h;generalize ux H a=σ at h;simp only at h;split at h
 ·rename_i hck;simp only [Bool.and_eq_true] at hck;obtain ⟨⟨⟨⟨hn,hai⟩,hcl⟩,hno⟩,hge⟩:=hck;split at h
  ·rename_i pre rs H' kp hrs;split at h
   ·rename_i hck2;cases h;simp only [Bool.and_eq_true] at hck2;have hlenH:=ag1 hck2.1;have hsh:=f_.1 hck2.2;have hai:=jk.1 hai;have hno:=nD.1 hno;have hge:=vr.1 hge;have hnd:=jK.1 hn;have hclo:=iV.1 hcl;let lt:Nat->Prop:=fun b=>∃ id ∈ D,∃ rr,ρ[id]? = some rr/\rr.g? = some b
    let Z':Nat->Prop:=fun b=>G.Z b\/(live ρ b/\¬ live (dw ρ σ) b/\¬ lt b)
    have hsub:∀ (b i:Nat) (r:RE),ρ[i]? = some r->r.g? = some b->live (dw ρ σ) b->i ∈ σ:=by
     rintro b i r m d ⟨j,r2,K,h4⟩;have e:=fy K (by rintro rfl; cases h4);have e2:=hR.inj _ _ _ _ b m e d h4;have hj:j<σ.length:=by simpa [dw] using (aad.1 K).1
     have a1:σ.getD j 0=σ[j]:=by rw [List.getD_eq_getElem?_getD,List.getElem?_eq_getElem hj]; rfl
     rw [e2,a1]; exact aha _
    have hltσ:∀ b,lt b->¬ live (dw ρ σ) b:=by
     rintro b ⟨id,hid,rr,m,d⟩ hl;exact hno id hid (hsub b id rr m d hl)
    obtain ⟨hR',hle⟩:=hR.sub (σ:=σ) (Z':=Z') hn hcl (fun b I=>I.elim (hR.z b) fun ⟨⟨i,r,m,d⟩,_⟩=>(hR.bnd i r b m d).2.1) (fun b m d hz=>hz.elim m fun K=>d K.1)
     (fun b m hz=>hz.elim (fun d=>by obtain ⟨i,r,K,h4⟩:=gy m; exact (hR.bnd i r b K h4).2.2 d) fun d=>d.2.1 m)
    obtain ⟨hfn,hrun⟩:=hO _ _ _ _ hrs hob;refine ⟨hfn,?_⟩;have hargs:=hvs ⟨G.shp,G.B0,Z'⟩ σ rfl hle hai fun id hid g L len z m=>by
     have hl:lt g:=⟨id,hid,_,m,rfl⟩;have I:=hR.bnd _ _ g m rfl;exact ⟨I.2.1,hltσ g hl,fun hz=>hz.elim I.2.2 fun d=>d.2.2 hl⟩
    refine (hrun ⟨G.shp,G.B0,Z'⟩ _ w vs rfl hR' hargs).mono fun v X ⟨us,hv,ρ2,hR2,J,hbx2,hrs',_⟩=>?_;have hl2:H'.length=ρ2.length:=hR2.obj.length;have hHρ:H.length=ρ.length:=hR.obj.length;have N:∀ {j:Nat},j<σ.length->fZ H σ j=σ.getD j 0:=fun {j} hj=>by
     unfold fZ;have:Nat.ble σ.length j=false:=by rw [<- Bool.not_eq_true,Nat.ble_eq]; omega
     rw [this]; rfl
    have Q:∀ {j:Nat},σ.length<=j->fZ H σ j=H.length+(j - σ.length):=fun {j} hj=>by
     unfold fZ;have:Nat.ble σ.length j=true:=by rw [Nat.ble_eq]; exact hj
     rw [this]; rfl
    have hσlt:∀ i ∈ σ,i<ρ.length:=fun i hi=>by rw [<- hHρ]; exact (hclo i hi).1
    have hτ:∀ (j:Nat) (r:RE),ρ2[j]? = some r->(gb ρ σ ρ2)[fZ H σ j]? = some r:=fun j r hj=>by
     by_cases hjn:j<σ.length
     ·rw [N hjn];have a1:σ.getD j 0=σ[j]:=by rw [List.getD_eq_getElem?_getD,List.getElem?_eq_getElem hjn]; rfl
      rw [a1,jH (hσlt _ (aha hjn)),if_pos (aha hjn),Dm hnd hjn,getD_some hj]
     rw [Q aI,yx aI,hHρ,<- hj];congr 1; omega
    have hmix:∀ (i:Nat) (r:RE) (g:Nat),(gb ρ σ ρ2)[i]? = some r->r.g? = some g->(i<ρ.length/\i ∉ σ/\ρ[i]? = some r)\/∃ j,ρ2[j]? = some r/\fZ H σ j=i:=fun i r g m d=>by
     by_cases hi:i<ρ.length
     ·rw [jH hi] at m;by_cases Y:i ∈ σ
      ·rw [if_pos Y] at m;cases m;have hp:=lq Y;obtain ⟨hpl,hpe⟩:=aad.1 hp;refine .inr ⟨posOf i σ,?_,?_⟩
       ·cases hq:ρ2[posOf i σ]? with
        | none=>rw [List.getD_eq_getElem?_getD,hq] at d; cases d
        | some r'=>rw [getD_some hq]
       rw [N hpl,List.getD_eq_getElem?_getD,hp]; rfl
      rw [if_neg Y] at m;cases m;have:ρ[i]? = some ρ[i]:=List.getElem?_eq_getElem hi;exact .inl ⟨hi,Y,by rw [getD_some this]; exact this⟩
     rw [yx aI] at m;refine .inr ⟨σ.length+(i - ρ.length),m,?_⟩;rw [Q aI,hHρ]; omega
    have hτinj:∀ (j j':Nat),j<ρ2.length->j' < ρ2.length->fZ H σ j=fZ H σ j' -> j=j':=fun j j' hj hj' he=>by
     by_cases m:j<σ.length <;> by_cases d:j' < σ.length
     ·rw [N m,N d] at he;rw [List.getD_eq_getElem?_getD,List.getElem?_eq_getElem m,List.getD_eq_getElem?_getD,List.getElem?_eq_getElem d] at he;exact (List.getElem_inj hnd).1 he
     ·rw [N m,Q aI,List.getD_eq_getElem?_getD,List.getElem?_eq_getElem m] at he;have:=(hclo _ (aha m)).1;simp only [Option.getD_some] at he; omega
     ·rw [Q aI,N d,List.getD_eq_getElem?_getD,List.getElem?_eq_getElem d] at he;have:=(hclo _ (aha d)).1;simp only [Option.getD_some] at he; omega
     rw [Q aI,Q aI] at he; omega
    have hlive2:∀ b,live ρ2 b->live (dw ρ σ) b\/w.heap.size<=b:=fun b hl=>by
     by_cases I:b<w.heap.size
     ·by_cases hs:live (dw ρ σ) b
      ·exact .inl hs
      exact absurd hl (J.old b I hs).1
     exact .inr aI
    have hoth:∀ (i:Nat) (r:RE) (g:Nat),i ∉ σ->ρ[i]? = some r->r.g? = some g->¬ live ρ2 g/\X.heap[g]? = w.heap[g]?:=fun i r g hi m d=>
     J.old g (hR.bnd i r g m d).2.1 fun hl=>hi (hsub g i r m d hl)
    have hlv:∀ b,b<w.heap.size->¬ live ρ b->¬ live (gb ρ σ ρ2) b:=fun b I hl ⟨i,r,m,d⟩=>by
     rcases hmix i r b m d with ⟨_,_,K⟩ | ⟨j,K,_⟩
     ·exact hl ⟨i,r,K,d⟩
     rcases hlive2 b ⟨j,r,K,d⟩ with h4 | h4
     ·exact hl (gy h4)
     omega
    have hext:Ext ρ w (gb ρ σ ρ2) X:=⟨J.os,J.tape,J.output,J.size,fun b I hl=>⟨hlv b I hl,(J.old b I fun h=>hl (gy h)).2⟩⟩;have B:=hext.le hR.lo;have hstp:Stp ro ρ w (gb ρ σ ρ2) X:=by
     refine ⟨hext,fun i r hi W=>?_,fun i r hi W=>?_,fun i g hi=>?_⟩
     ·have him:i ∉ σ:=fun Y=>by have:=(hge i Y).2; rw [hi] at this; cases this
      rw [jH (aad.1 W).1,if_neg him,getD_some W]
     ·have him:i ∉ σ:=fun Y=>by have:=(hge i Y).1; rw [hi] at this; cases this
      have hil:=(aad.1 W).1;refine ⟨?_,fun g hg=>(hoth i r g him W hg).2⟩;rw [jH hil,if_neg him,getD_some W]
     have hil:=(aad.1 hi).1;rw [jH hil];by_cases Y:i ∈ σ
     ·rw [if_pos Y];have:=hbx2 (posOf i σ) g (ic Y hi);rw [getD_some this]
     rw [if_neg Y,getD_some hi]
    have hag:∀ (i:Nat) (r:RE),(i ∉ σ\/∃ g,r = .blk g)->ρ[i]? = some r->(gb ρ σ ρ2)[i]? = some r:=fun i r hh W=>by
     rcases hh with hh | ⟨g,rfl⟩
     ·rw [jH (aad.1 W).1,if_neg hh,getD_some W]
     exact hstp.bx i g W
    have hcap:∀ q v,ek ρ q v->ek (gb ρ σ ρ2) q v:=fun q v ⟨g,m,d⟩=>⟨g,hag _ _ (.inr ⟨g,rfl⟩) m,d⟩;have hrow:∀ (i:Nat) (r:RE),ρ[i]? = some r->(r = .emp\/∃ g L len z,r = .row g L len z)->cf i (rowsOf H σ)=false->i ∉ σ:=fun i r m d K Y=>by
     have hlt:=(hclo i Y).1;obtain ⟨r',hr',C⟩:=hR.at_ (List.getElem?_eq_getElem hlt);rw [m] at hr'; cases hr';have hO:getO H i=H[i]:=by unfold getO; rw [List.getD_eq_getElem?_getD,List.getElem?_eq_getElem hlt]; rfl
     cases U:H[i] with
     | gone=>rw [U] at C; rcases d with rfl | ⟨_,_,_,_,rfl⟩ <;> cases C
     | box t cs=>rw [U] at C; obtain ⟨g,_,e,_⟩:=C; subst e; rcases d with d | ⟨_,_,_,_,d⟩ <;> cases d
     | mapo s f=>rw [U] at C; obtain ⟨g,e,_⟩:=C; subst e; rcases d with d | ⟨_,_,_,_,d⟩ <;> cases d
     | loc=>
      have:i ∈ rowsOf H σ:=iJ.2 ⟨Y,.inr (by rw [hO,U])⟩;rw [bz.2 this] at K; cases K
     | mapf l=>rw [U] at C; obtain ⟨g,e,_⟩:=C; subst e; rcases d with d | ⟨_,_,_,_,d⟩ <;> cases d
     | arr t s n xs=>rw [U] at C; obtain ⟨g,_,e,_⟩:=C; subst e; rcases d with d | ⟨_,_,_,_,d⟩ <;> cases d
     | row t s xs=>
      have:i ∈ rowsOf H σ:=iJ.2 ⟨Y,.inl ⟨t,s,xs,by rw [hO,U]⟩⟩;rw [bz.2 this] at K; cases K
    have hrd:∀ a v,Rd (cx G ρ w) ρ a v->Rd (cx G (gb ρ σ ρ2) X) (gb ρ σ ρ2) (a.cq (rowsOf H σ)) v:=by
     intro a v h;cases a with
     | own j=>
      simp only [AV.cq];cases I:cf j (rowsOf H σ)
      ·rcases h with ⟨g,L,len,z,h,e⟩ | ⟨h,e⟩
       ·exact .inl ⟨g,L,len,z,hag _ _ (.inl (hrow j _ h (.inr ⟨_,_,_,_,rfl⟩) I)) h,e⟩
       exact .inr ⟨hag _ _ (.inl (hrow j _ h (.inl rfl) I)) h,e⟩
      exact Rd.one h
     | sub j o k=>
      simp only [AV.cq];cases I:cf j (rowsOf H σ)
      ·rcases h with ⟨g,L,len,z,h,e⟩ | ⟨h,e⟩
       ·exact .inl ⟨g,L,len,z,hag _ _ (.inl (hrow j _ h (.inr ⟨_,_,_,_,rfl⟩) I)) h,e⟩
       exact .inr ⟨hag _ _ (.inl (hrow j _ h (.inl rfl) I)) h,e⟩
      exact Rd.one h
     | elp j k o=>
      simp only [AV.cq];cases I:cf j (rowsOf H σ)
      ·obtain ⟨g,L,len,z,h,e⟩:=h;exact ⟨g,L,len,z,hag _ _ (.inl (hrow j _ h (.inr ⟨_,_,_,_,rfl⟩) I)) h,e⟩
      exact Rd.one h
     | ptr j o=>exact hcap _ _ h
     | mq j=>
      obtain ⟨g,m,e⟩:=h;exact ⟨g,hag _ _ (.inr ⟨g,rfl⟩) m,e⟩
     | fn f b cs=>
      obtain ⟨bs,us,m,d,e⟩:=h;exact ⟨bs,us,m.imp fun _ _ h=>hcap _ _ h,d.imp fun _ _ h=>hcap _ _ h,e⟩
     | fe s' x o=>
      obtain ⟨A,T,m,d,K,e⟩:=h;exact ⟨A,T,(B.S _ m).1,d.keep (B.S _ m).2,K.carry B,e⟩
     | np=>exact h
     | nf=>exact h
     | yl l=>exact h
     | xx k cs=>
      obtain ⟨us,m,d⟩:=h;exact ⟨us,m.imp fun _ _ h=>hcap _ _ h,d.le B⟩
     | dead=>exact h
     | int n=>exact Pd.carry h B
     | u8 b=>exact Pd.carry h B
     | u64 n=>exact Pd.carry h B
     | bool e=>exact Pd.carry h B
     | str s=>exact Pd.carry h B
     | em b=>exact Pd.carry h B
     | li nw xs=>exact Pd.carry h B
     | fz s xs=>exact Pd.carry h B
    have hS:∀ b,(cx ⟨G.shp,G.B0,Z'⟩ ρ2 X).S b->(cx G (gb ρ σ ρ2) X).S b\/(¬ b<G.B0/\∃ sb ∈ fw H D,∃ cur t fr,X.heap[b]? = some (.cells cur t fr)/\G.shp t=some sb):=by
     rintro b ⟨m,d,K⟩;by_cases hl:live (gb ρ σ ρ2) b
     ·right;obtain ⟨i,r,h4,h5⟩:=hl;rcases hmix i r b h4 h5 with ⟨_,him,h6⟩ | ⟨j,h6,_⟩
      ·have hnl:¬ live (dw ρ σ) b:=fun hh=>him (hsub b i r h6 h5 hh);have hlt:lt b:=by
        by_cases hx:lt b
        ·exact hx
        exact absurd (.inr ⟨⟨i,r,h6,h5⟩,hnl,hx⟩) K
       obtain ⟨id,hid,rr,h7,h8⟩:=hlt;have I:=hR.bnd _ _ b h7 h8;refine ⟨aI,?_⟩;obtain ⟨t,s,xs,hrw⟩:=hlent id hid rr h7 (by rintro rfl; cases h8);refine ⟨s,pK hrw hid,?_⟩;have hfc:=dH hR hrw;rcases bE hR hrw with ⟨h9,_⟩ | ⟨g,L,T,sp,h9,h10,_⟩
       ·rw [h7] at h9; cases h9; cases h8
       rw [h7] at h9; cases h9; cases h8;have hids:id ∉ σ:=hno id hid;exact ⟨_,t,(0,0),(hoth id _ _ hids h7 rfl).2.trans h10,hfc.1⟩
      exact absurd ⟨j,r,h6,h5⟩ d
     left; exact ⟨m,hl,fun hz=>K (.inl hz)⟩
    have hpd:∀ {b:AV} {u:Value},Pd (cx ⟨G.shp,G.B0,Z'⟩ ρ2 X) b u->(∀ sb ∈ fw H D,Wd 5 sb b=true)->Pd (cx G (gb ρ σ ρ2) X) b u:=fun I hn=>Pd.Sd (c:=cx ⟨G.shp,G.B0,Z'⟩ ρ2 X) (c':=cx G (gb ρ σ ρ2) X) (fw H D) rfl rfl rfl hS I 5 hn;have htake:∀ (a:AV) (u:Value),(∀ b ∈ fw H D,a.no b=true)->Rd (cx ⟨G.shp,G.B0,Z'⟩ ρ2 X) ρ2 a u->Rd (cx G (gb ρ σ ρ2) X) (gb ρ σ ρ2) (a.lX (fZ H σ)) u:=fun a u hno5 hu=>by
     refine Rd.lX (fun _ hp=>hpd hp fun sb hsb=>PQ (hno5 sb hsb)) (fun s x o e=>?_) (fun k cs us e h=>h.unl (c:=cx ⟨G.shp,G.B0,Z'⟩ ρ2 X) (c':=cx G (gb ρ σ ρ2) X) rfl rfl rfl hS fun sb hsb=>e ▸ hno5 sb hsb) (fun i hi r W _=>hτ i r W) hu;subst e;have hnil:fw H D=[]:=by
      cases hq:fw H D with
      | nil=>rfl
      | cons b l=>have:=hno5 b (by rw [hq]; simp); simp [AV.no] at this
     rw [hnil] at hS;have hS':(cx ⟨G.shp,G.B0,Z'⟩ ρ2 X).le (cx G (gb ρ σ ρ2) X):=⟨rfl,rfl,fun b I=>⟨(hS b I).resolve_right fun ⟨_,sb,h,_⟩=>by simp at h,rfl⟩,fun _ _ _=>rfl⟩;obtain ⟨A,T,k1,k2,k3,e⟩:=hu;exact ⟨A,T,(hS'.S _ k1).1,k2,k3.carry hS',e⟩
    have hobj:∀ (j:Nat) (o:AO) (r:RE),H'[j]? = some o->ρ2[j]? = some r->OR (cx G (gb ρ σ ρ2) X) (gb ρ σ ρ2) (o.lX (fZ H σ)) r:=fun j o r U W=>by
     obtain ⟨r',hr',C⟩:=hR2.at_ U;rw [W] at hr'; cases hr';have hmem:o ∈ H':=adB U;have hnoO:∀ b ∈ fw H D,sX b H' = true:=fun b I=>by have:=hsh b I; simp only [Bool.and_eq_true] at this; exact this.2
     cases o with
     | gone=>exact C
     | mapo s f=>
      obtain ⟨g,rfl,a,n,k1,k2,k3⟩:=C;refine ⟨g,rfl,a,n,k1,k2,fun k=>?_⟩;have k4:=k3 k;cases hg:getM k a.toList <;> cases hf:f k <;> rw [hg,hf] at k4
      ·trivial
      ·exact k4
      ·exact k4
      rename_i v x;obtain ⟨us,k5,k6⟩:=k4;refine ⟨us,Pds.of (cC k5.length fun i a u ha hu=>?_),k6⟩;obtain ⟨u',hu',hau⟩:=dT k5.all i a ha;rw [hu] at hu'; cases hu';refine hpd hau fun sb hsb=>?_;have hns:=f_.1 (Wy (hnoO sb hsb) hmem);cases a with
      | fz s' ys=>exact hns s' (jJ (adB ha))
      | li nw ys=>exact hns .int (jU (adB ha))
      | _=>rfl
     | box t cs=>
      obtain ⟨g,vs',rfl,m,d⟩:=C;exact ⟨g,vs',rfl,m,nN (fun a ha u hu=>htake a u (fun b I=>yg.1 (UL (hnoO b I) hmem) a ha) hu) d⟩
     | loc=>trivial
     | mapf l=>
      obtain ⟨g,rfl,h⟩:=C;exact ⟨g,rfl,h.map (g0:=fun a=>a.lX (fZ H σ)) (rJ l) (fun q hq u hu=>htake q.2 u (fun b I=>Gp (QX (hnoO b I) hmem) q hq) hu) rfl⟩
     | arr t s n xs=>
      obtain ⟨g,vs',rfl,h4,h5,h6⟩:=C;refine ⟨g,vs',rfl,h4,?_,h6⟩;refine Pds.of (cC h5.length fun i a u ha hu=>?_);obtain ⟨u',hu',hau⟩:=dT h5.all i a ha;rw [hu] at hu'; cases hu';refine hpd hau fun sb hsb=>?_;have hns:=f_.1 (Wv (hnoO sb hsb) hmem);have V:=adB ha;rw [List.mem_flatMap] at V;obtain ⟨y,_,hy⟩:=V;cases a with
      | fz s' ys=>exact hns s' (jJ hy)
      | li nw ys=>exact hns .int (jU hy)
      | _=>rfl
     | row t s xs=>
      obtain ⟨m,d,K⟩:=C;refine ⟨m,d,K.imp id fun ⟨g,L,T,sp,e,h4,h5,h6⟩=>⟨g,L,T,sp,e,h4,?_,h6⟩⟩;refine Pds.of (cC h5.length fun i a u ha hu=>?_);obtain ⟨u',hu',hau⟩:=dT h5.all i a ha;rw [hu] at hu'; cases hu';refine hpd hau fun sb hsb=>?_;have hns:=f_.1 (Tb (hnoO sb hsb) hmem);have V:=adB ha;rw [List.mem_flatMap] at V;obtain ⟨y,_,hy⟩:=V;cases a with
      | fz s' ys=>exact hns s' (jJ hy)
      | li nw ys=>exact hns .int (jU hy)
      | _=>rfl
    refine ⟨gb ρ σ ρ2,hstp,⟨?_,?_,?_,fun b I=>ac2 (hR.z b I) hext.size,Nat.le_trans hR.b0 hext.size,hR.tb.carry (hext.le hR.lo)⟩,tw hrd hf,?_,Tx.pC hrs'⟩
    ·-- the objects
     refine cC ?_ fun i o r U W=>?_
     ·simp only [List.length_append,iM,fq,kX,List.length_drop,gb,List.length_map,alK];omega
     by_cases hi:i<H.length
     ·rw [List.getElem?_append_left (by rw [iM,fq]; exact hi),wB (by rw [fq]; exact hi)] at U;rw [jH aI] at W;by_cases Y:i ∈ σ
      ·rw [if_pos Y] at U W;cases U; cases W;obtain ⟨hpl,_⟩:=aad.1 (lq Y);have hp2:posOf i σ<H'.length:=by omega
       have e1:H'[posOf i σ]? = some H'[posOf i σ]:=List.getElem?_eq_getElem hp2;have e2:ρ2[posOf i σ]? = some (ρ2[posOf i σ]' aI):=List.getElem?_eq_getElem aI;have e3:H'.getD (posOf i σ) .gone=H'[posOf i σ]:=by rw [List.getD_eq_getElem?_getD,e1]; rfl
       rw [e3,getD_some e2];exact hobj _ _ _ e1 e2
      rw [if_neg Y] at U W;cases W;rw [lV,ago] at U;obtain ⟨o',ho',rfl⟩:=U;obtain ⟨r',hr',C⟩:=hR.at_ ho';rw [getD_some hr'];exact C.map B hrd fun g hg=>(hoth i r' g Y hr' hg).2
     rw [ag_ (by rw [iM,fq]; omega),iM,fq] at U;rw [yx aI] at W;have hil:σ.length+(i - H.length)<H'.length:=by
      have:=(aad.1 U).1;simp only [kX,List.length_drop] at this; omega
     have hx:(H'.drop σ.length)[i - H.length]? = some H'[σ.length+(i - H.length)]:=by
      rw [afX]; exact List.getElem?_eq_getElem hil
     rw [ry hx] at U;have U:=adC U;subst U;refine hobj (σ.length+(i - H.length)) _ r (List.getElem?_eq_getElem hil) ?_;rw [hHρ]; exact W
    ·intro i i' r r' g m d K h4;rcases hmix i r g m K with ⟨a1,a2,a3⟩ | ⟨j,a3,a4⟩ <;> rcases hmix i' r' g d h4 with ⟨b1,b2,b3⟩ | ⟨j',b3,b4⟩
     ·exact hR.inj _ _ _ _ g a3 b3 K h4
     ·exact absurd ⟨j',r',b3,h4⟩ (hoth i r g a2 a3 K).1
     ·exact absurd ⟨j,r,a3,K⟩ (hoth i' r' g b2 b3 h4).1
     rw [<- a4,<- b4,hR2.inj _ _ _ _ g a3 b3 K h4]
    ·intro i r g m d;rcases hmix i r g m d with ⟨_,_,a3⟩ | ⟨j,a3,_⟩
     ·have:=hR.bnd i r g a3 d;exact ⟨this.1,ac2 this.2.1 hext.size,this.2.2⟩
     have:=hR2.bnd j r g a3 d;exact ⟨this.1,this.2.1,fun hz=>this.2.2 (.inl hz)⟩
    have hback:All2 (dk (cx G (gb ρ σ ρ2) X) (gb ρ σ ρ2)) (jb (fZ H σ) rs) us:=by
     refine ma (fun t ht a ha u hu=>htake a u (fun b I=>?_) hu) hrs';have:=hsh b I;simp only [Bool.and_eq_true] at this;exact xP.1 this.1 t ht a ha
    subst hv;show Rt _ _ (KD (jb (fZ H σ) rs)) (AZ us);generalize jb (fZ H σ) rs=rs' at hback ⊢;cases hback with
    | nil=>exact ⟨[],rfl,.nil⟩
    | @cons t u l us m d=>
     cases d with
     | nil=>exact m
     | cons K h4=>exact ⟨_,rfl,.cons m (.cons K h4)⟩
   cases h
  cases h
 cases h
end
section
variable {P:Program} {T:List (Nat × TI)} {G:Gl} {O:bH} {n:Nat} {F:Fr} {w:World} {x y:Operand} {ty t:TypeId} {ρ:List RE} {H:AH} {fr:AFr} {ro:Lv}
variable {f:Nat} {r:SR} {vs:List Value}
def Kb (hO:aw P G.shp O) (C:Rep G ρ H w) (hf:FrR (cx G ρ w) ρ fr F) {a:List TV1} (hvs:All2 (dk (cx G ρ w) ρ) a vs) (h:Se O fr H f a=some r) (hob:∀ p ∈ r.ob,p) :
  (∃ fn,P.funcs[f]? = some fn/\(fn.name == "runtime.NumGoroutine")=false/\fn.body.isNone=false)/\jS P f vs.toArray w fun v Y=>eT G ro ρ w r F v Y:=by
 unfold Se at h;generalize ux H a=σ at h;simp only at h;split at h
 ·rename_i hck;simp only [Bool.and_eq_true] at hck;obtain ⟨⟨hn,hai⟩,hcl⟩:=hck;split at h
  ·rename_i pre rs H' hrs;split at h
   ·rename_i hlen;cases h;have hlenH:=ag1 hlen;have hai:=jk.1 hai;have hnd:=jK.1 hn;have hclo:=iV.1 hcl;let Z':Nat->Prop:=fun b=>G.Z b\/(live ρ b/\¬ live (dw ρ σ) b)
    obtain ⟨hR',y⟩:=C.sub (σ:=σ) (Z':=Z') hn hcl (fun b D=>D.elim (C.z b) fun ⟨⟨i,r,c,d⟩,_⟩=>(C.bnd i r b c d).2.1) (fun b c d hz=>hz.elim c fun L=>d L.1)
     (fun b c hz=>hz.elim (fun d=>by obtain ⟨i,r,L,B⟩:=gy c; exact (C.bnd i r b L B).2.2 d) fun d=>d.2 c)
    obtain ⟨hfn,hrun⟩:=hO _ _ _ _ hrs hob;refine ⟨hfn,?_⟩;have hargs:All2 (dk (cx ⟨G.shp,G.B0,Z'⟩ (dw ρ σ) w) (dw ρ σ)) (jb (posOf · σ) a) vs:=by
     refine ma (fun t ht a ha' v hv=>?_) hvs;refine Rd.lX (fun _ hp=>hp.carry y) (fun s x o e=>?_) (fun _ _ _ _ h=>h.le y) (fun i T r I _=>ic (hai i (ly ht ha' T)) I) hv;subst e;obtain ⟨A,k,k1,k2,k3,e⟩:=hv;exact ⟨A,k,(y.S _ k1).1,k2,k3.carry y,e⟩
    refine (hrun ⟨G.shp,G.B0,Z'⟩ _ w vs rfl hR' hargs).mono fun v Y ⟨us,hv,ρ2,Q,hext2,hbx2,hrs',hkeep⟩=>?_;obtain ⟨hk,U⟩:=hkeep rfl;have hl2:H'.length=ρ2.length:=Q.obj.length;have hHρ:H.length=ρ.length:=C.obj.length;have hnew:∀ (b j:Nat) (r:RE),σ.length<=j->ρ2[j]? = some r->r.g? = some b->w.heap.size<=b:=fun b j r hj c d=>by
     by_cases D:b<w.heap.size
     ·by_cases hs:live (dw ρ σ) b
      ·obtain ⟨i,r',L,B⟩:=hs;have:=Q.inj _ _ _ _ b c (U i r' L) d B;have h6:i<σ.length:=by simpa [dw] using (aad.1 L).1
       omega
      exact absurd ⟨j,r,c,d⟩ (hext2.old b D hs).1
     omega
    have hN:∀ (i:Nat) (r:RE),ρ[i]? = some r->(ρ++ρ2.drop σ.length)[i]? = some r:=fun i r h=>by
     rw [List.getElem?_append_left (aad.1 h).1]; exact h
    have hNge:∀ (i:Nat),ρ.length<=i->(ρ++ρ2.drop σ.length)[i]? = ρ2[σ.length+(i - ρ.length)]?:=fun i T=>by
     rw [ag_ T,afX]
    have m:∀ (i:Nat) (r:RE) (g:Nat),(ρ++ρ2.drop σ.length)[i]? = some r->r.g? = some g->(i<ρ.length/\ρ[i]? = some r)\/(ρ.length<=i/\ρ2[σ.length+(i - ρ.length)]? = some r/\w.heap.size<=g):=fun i r g c d=>by
     by_cases T:i<ρ.length
     ·rw [List.getElem?_append_left T] at c; exact .inl ⟨T,c⟩
     rw [hNge i aI] at c;exact .inr ⟨aI,c,hnew g _ r aI c d⟩
    have J:Ext ρ w (ρ++ρ2.drop σ.length) Y:=⟨hk.os,hk.tape,hk.output,hk.size,fun b D hl=>⟨fun ⟨i,r,c,d⟩=>(m i r b c d).elim (fun h=>hl ⟨i,r,h.2,d⟩) fun h=>by omega,hk.block b D aa⟩⟩;have V:=J.le C.lo;have hagr:kB ρ (ρ++ρ2.drop σ.length):=fun i r h _=>hN i r h;have hτ:∀ (j:Nat) (r:RE),ρ2[j]? = some r->r ≠ .no->(ρ++ρ2.drop σ.length)[fZ H σ j]? = some r:=fun j r hj hne=>by
     unfold fZ;by_cases hjn:j<σ.length
     ·have D:Nat.ble σ.length j=false:=by rw [<- Bool.not_eq_true,Nat.ble_eq]; omega
      rw [D];have hs:(dw ρ σ)[j]? = some ((dw ρ σ)[j]'(by simpa [dw] using hjn)):=List.getElem?_eq_getElem _;have c:=U j _ hs;rw [hj] at c;rw [<- adC c] at hs;exact hN _ _ (fy hs hne)
     have D:Nat.ble σ.length j=true:=by rw [Nat.ble_eq]; omega
     rw [D];show (ρ++ρ2.drop σ.length)[H.length+(j - σ.length)]? = some r;rw [hNge _ aI,hHρ,<- hj];congr 1; omega
    have hS:(cx ⟨G.shp,G.B0,Z'⟩ ρ2 Y).le (cx G (ρ++ρ2.drop σ.length) Y):=⟨rfl,rfl,fun b D=>⟨⟨D.1,by
     rintro ⟨i,r,c,d⟩;rcases m i r b c d with ⟨L,B⟩ | ⟨_,B,_⟩
     ·by_cases hs:live (dw ρ σ) b
      ·obtain ⟨j,r',h5,h6⟩:=hs;exact D.2.1 ⟨j,r',U j r' h5,h6⟩
      exact D.2.2 (.inr ⟨⟨i,r,B,d⟩,hs⟩)
     exact D.2.1 ⟨_,r,B,d⟩,fun hz=>D.2.2 (.inl hz)⟩,rfl⟩,fun _ _ _=>rfl⟩
    have N:∀ (a:AV) (u:Value),Rd (cx ⟨G.shp,G.B0,Z'⟩ ρ2 Y) ρ2 a u->Rd (cx G (ρ++ρ2.drop σ.length) Y) (ρ++ρ2.drop σ.length) (a.lX (fZ H σ)) u:=fun a u hu=>by
     refine Rd.lX (fun _ hp=>hp.carry hS) (fun s x o e=>?_) (fun _ _ _ _ h=>h.le hS) (fun i T r I hne=>hτ i r I hne) hu;subst e;obtain ⟨A,k,k1,k2,k3,e⟩:=hu;exact ⟨A,k,(hS.S _ k1).1,k2,k3.carry hS,e⟩
    have hobj:∀ (j:Nat) (o:AO) (r:RE),H'[j]? = some o->ρ2[j]? = some r->OR (cx G (ρ++ρ2.drop σ.length) Y) (ρ++ρ2.drop σ.length) (o.lX (fZ H σ)) r:=fun j o r ho I=>by
     obtain ⟨r',W,K⟩:=Q.at_ ho;rw [I] at W; cases W;cases o with
     | gone=>exact K
     | loc=>trivial
     | mapo s f=>
      obtain ⟨g,rfl,h⟩:=K;exact ⟨g,rfl,h.carry hS rfl⟩
     | mapf l=>
      obtain ⟨g,rfl,h⟩:=K;exact ⟨g,rfl,h.map (g0:=fun a=>a.lX (fZ H σ)) (rJ l) (fun q hq u hu=>N q.2 u hu) rfl⟩
     | box t cs=>
      obtain ⟨g,vs',rfl,c,d⟩:=K;exact ⟨g,vs',rfl,c,nN (fun a ha u hu=>N a u hu) d⟩
     | arr t s n xs=>
      obtain ⟨g,vs',rfl,B,h5,h6⟩:=K;exact ⟨g,vs',rfl,B,h5.carry hS,h6⟩
     | row t s xs=>
      obtain ⟨c,d,L⟩:=K;exact ⟨c,d,L.imp id fun ⟨g,cap,k,sp,e,B,h5,h6⟩=>⟨g,cap,k,sp,e,B,h5.carry hS,h6⟩⟩
    refine ⟨ρ++ρ2.drop σ.length,⟨J,fun i r _ I=>hN i r I,fun i r _ I=>⟨hN i r I,fun g hg=>hk.block g (C.bnd i r g I hg).2.1 aa⟩,fun i g T=>hN i _ T⟩,⟨?_,?_,?_,fun b D=>ac2 (C.z b D) J.size,Nat.le_trans C.b0 J.size,C.tb.carry V⟩,hf.carry V hagr,?_,Tx.pC hrs'⟩
    ·refine All2.append (cC C.obj.length fun i o r ho I=>?_) (cC (by simp [kX,hl2]) fun i o r ho I=>?_)
     ·obtain ⟨r',W,K⟩:=C.at_ ho;rw [I] at W; cases W;exact K.carry V hagr fun g hg=>hk.block g (C.bnd i r g I hg).2.1 aa
     rw [afX] at I;have hil:σ.length+i<H'.length:=by
      have:=(aad.1 I).1; omega
     have hx:(H'.drop σ.length)[i]? = some H'[σ.length+i]:=by
      rw [afX]; exact List.getElem?_eq_getElem hil
     rw [ry hx] at ho;have ho:=adC ho;subst ho;exact hobj (σ.length+i) _ r (List.getElem?_eq_getElem hil) I
    ·intro i i' r r' g c d L B;rcases m i r g c L with ⟨a1,a2⟩ | ⟨a1,a2,a3⟩ <;> rcases m i' r' g d B with ⟨b1,b2⟩ | ⟨b1,b2,b3⟩
     ·exact C.inj _ _ _ _ g a2 b2 L B
     ·have:=(C.bnd i r g a2 L).2.1; omega
     ·have:=(C.bnd i' r' g b2 B).2.1; omega
     have:=Q.inj _ _ _ _ g a2 b2 L B; omega
    ·intro i r g c d;rcases m i r g c d with ⟨_,a3⟩ | ⟨_,a3,_⟩
     ·have:=C.bnd i r g a3 d;exact ⟨this.1,ac2 this.2.1 J.size,this.2.2⟩
     have:=Q.bnd _ r g a3 d;exact ⟨this.1,this.2.1,fun hz=>this.2.2 (.inl hz)⟩
    have X:All2 (dk (cx G (ρ++ρ2.drop σ.length) Y) (ρ++ρ2.drop σ.length)) (jb (fZ H σ) rs) us:=ma (fun t ht a ha u hu=>N a u hu) hrs';subst hv;show Rt _ _ (KD (jb (fZ H σ) rs)) (AZ us);generalize jb (fZ H σ) rs=rs' at X ⊢;cases X with
    | nil=>exact ⟨[],rfl,.nil⟩
    | @cons t u l us c d=>
     cases d with
     | nil=>exact c
     | cons L B=>exact ⟨_,rfl,.cons c (.cons L B)⟩
   cases h
  cases h
 cases h
def JI (X:aw P G.shp O) (Q:Rep G ρ H w) (Y:FrR (cx G ρ w) ρ fr F) {args:List TV1} (Z:All2 (dk (cx G ρ w) ρ) args vs) (h:Mc O ro fr H f args=some r) (D:∀ p ∈ r.ob,p) :
  (∃ b,P.funcs[f]? = some b/\(b.name == "runtime.NumGoroutine")=false/\b.body.isNone=false)/\jS P f vs.toArray w fun v w'=>eT G ro ρ w r F v w':=by
 unfold Mc at h;split at h
 ·rename_i r' hn;cases h;exact Kb X Q Y Z hn D
 split at h
 ·rename_i r' j l;cases h;refine vP X Q Y (fun G' σ hs c m hl=>?_) (fun id u r U hne=>ns.1 j id u) l D;refine DN (fun t V a B v I=>?_) Z;have u:∀ i ∈ (a.vw H).ids,i ∈ σ:=fun i K=>m i (ly (yO V) (AU B) K);by_cases q:∃ id,a = .own id\/∃ o k,a = .sub id o k
  ·obtain ⟨id,J⟩:=q;have L:=sJ V B J;cases C:a.vw H with
   | fz s xs=>
    refine lj (o_ Q c rfl I (fun g n len z ⟨N,W,h1⟩=>?_) C);have e:N = id:=by rcases J with rfl | ⟨o,k,rfl⟩ <;> rcases W with W | ⟨_,_,W⟩ <;> cases W <;> rfl
    subst e;exact hl N L g n len z h1
   | dead=>exact Rd.one I
   | _=>rcases J with rfl | ⟨o,k,rfl⟩ <;> simp only [AV.vw] at C <;> split at C <;> cases C
  have e:a.vw H=a:=by
   cases a <;> first | rfl | exact absurd ⟨_,.inl rfl⟩ q | exact absurd ⟨_,.inr ⟨_,_,rfl⟩⟩ q
  rw [e] at u ⊢;refine Rd.lX (fun _ y=>y.carry c) (fun s x o e=>?_) (fun _ _ _ _ h=>h.le c) (fun i K r U _=>ic (u i K) U) I;subst e;obtain ⟨A,d,T,k2,k3,e⟩:=I;exact ⟨A,d,(c.S _ T).1,k2,k3.carry c,e⟩
 refine vP X Q Y (fun G' σ hs c m hl=>?_) aa h D;refine ma (fun t V a B v I=>?_) Z;refine Rd.lX (fun _ y=>y.carry c) (fun s x o e=>?_) (fun _ _ _ _ h=>h.le c) (fun i K r U _=>ic (m i (ly V B K)) U) I;subst e;obtain ⟨A,d,T,k2,k3,e⟩:=I;exact ⟨A,d,(c.S _ T).1,k2,k3.carry c,e⟩
theorem RF {c:Cx} {s:Sh} {z:List Value} (a:All2 (Rd c ρ) (cellsOf s (aj s)) z) (e:s.size=1):∀ m:Nat,Pds c ((List.replicate m (aj s)).flatMap (cellsOf s)) (List.replicate m (z.headD undef)):=by
 have g:=jY (qm s _) a;have d:=a.length;rw [cY,e] at d;obtain ⟨u,rfl⟩:∃ u,z=[u]:=by
  cases z with
  | nil=>simp at d
  | cons u r=>
   grind
 intro m;induction m with
 | zero=>exact .nil
 | succ m h=>
  exact g.append h
variable {z:Operand}
def KA (hT:bh P G.shp T) (hR:Rep G ρ H w) (U:FrR (cx G ρ w) ρ fr F) {y:Operand} (h:RB T ro fr H t x y z=some r) :
  ∃ C,(h_ P n F w (.insert t x y z) ty C /\ h_ P n F w (.mapUpdate t x y z) ty C)/\eT G ro ρ w r F undef C:=by
 unfold RB at h;split at h
 ·rename_i s id k v Z hx hy hz;split at h
  ·rename_i O f hO2;split at h
   ·rename_i hss;subst hss;split at h
    ·rename_i x' q I J hfz;cases h;simp only [Bool.and_eq_true,ag5,<- Bool.not_eq_true,bz] at I;obtain ⟨⟨hro,o⟩,K⟩:=I;obtain ⟨hm,hk,_⟩:=(hT _ _ Z).2;obtain ⟨va,h1,g,hg,rfl⟩:=au U hx;obtain ⟨vb,h3,h4⟩:=au U hy;cases h4 with | int=>
     obtain ⟨V,h5,D⟩:=au U hz;have L:=bN hO2 aa;obtain ⟨r',m,hor⟩:=hR.at_ L;rw [hg] at m; cases m;obtain ⟨g',e,a,c,k1,k2,k3⟩:=hor;cases e;obtain ⟨p,j1,j2,W,j4,j5,j6,j7,j8⟩:=qg (ro:=ro) hfz hR U;obtain ⟨C,a',c',hsk,d,hg',hl',N⟩:=UK (P:=P) (n:=n) (ty:=ty) h1 h3 h5 hm hk k1 k2;have u:p[id]? = some (.blk g):=by rw [j8 id K]; exact hg
     have hH1:q.2[id]? = some (.mapo O f):=j7 id _ K L aa;have Q:Ext p w p C:=⟨d.os,d.tape,d.output,d.size,fun b hb hl=>⟨hl,d.block b hb (by
      simp only [abL];rintro rfl;exact hl ⟨id,_,u,rfl⟩)⟩⟩
     have A:=Q.le W.lo;have hV:V1 (cx G p C) O x' V:=by
      cases v with
      | c a=>
       have D:Rd (cx G ρ w) ρ a V:=D;have:=aM J (j6 [a] [V] (fun i hi=>hi) (.cons D .nil));refine ⟨[V],this.carry A,.inr ⟨?_,rfl⟩⟩;simpa [oQ] using o
      | agg l=>
       obtain ⟨us,e,D⟩:=D;have:=aM J (j6 l us (fun i hi=>hi) D);exact ⟨us,this.carry A,.inl ⟨o,e⟩⟩
     have B:=W.put hH1 u rfl d (o':=.mapo O fun j=>if j=k then some x' else f j) ⟨g,rfl,a',c',hg',hl',fun q=>by
      rw [N q];show VO _ _ _ (if q=k then some x' else f q);by_cases X:q=k
      ·rw [if_pos X,if_pos X]; exact hV
      rw [if_neg X,if_neg X];have Y:=k3 q;cases hgm:getM q a.toList <;> cases hfk:f q <;> rw [hgm,hfk] at Y
      ·trivial
      ·exact Y
      ·exact Y
      exact V1.carry Y (j2.trans A)⟩
     refine ⟨C,hsk,p,j1.trans ⟨B.2,fun _ _ _ h=>h,fun j r' hj m=>⟨m,fun gx S=>d.block gx (W.bnd j r' gx m S).2.1 ?_⟩,fun _ _ h=>h⟩,B.1,j4.carry A (kB.refl _),trivial,aa⟩;simp only [abL];rintro rfl;have:=W.inj j id _ _ _ m u S rfl;subst this; rw [hro] at hj; cases hj
    cases h
   cases h
  cases h
 cases h
def DX (hT:bh P G.shp T) (s:Rep G ρ H w) (C:FrR (cx G ρ w) ρ fr F) {y:Operand} (h:QE T ro fr H t x y z=some r) :
  ∃ p,(h_ P n F w (.insert t x y z) ty p /\ h_ P n F w (.mapUpdate t x y z) ty p)/\eT G ro ρ w r F undef p:=by
 unfold QE at h;split at h
 ·rename_i id k a K hx hy hz;split at h
  ·rename_i l L;split at h
   ·rename_i N;cases h;obtain ⟨hm,hk,_⟩:=(hT _ _ K).2;obtain ⟨va,h1,g,D,rfl⟩:=au C hx;obtain ⟨vb,h3,h4⟩:=au C hy;cases h4 with | int=>
    obtain ⟨vz,h5,h6⟩:=au C hz;have u:=bN L aa;obtain ⟨Z,i,Q⟩:=s.at_ u;rw [D] at i; cases i;obtain ⟨g',e,a',c,k1,k2,k3⟩:=Q;cases e;obtain ⟨p,S,c',U,d,V,W,v⟩:=UK (P:=P) (n:=n) (ty:=ty) h1 h3 h5 hm hk k1 k2;have A:Ext ρ w ρ p:=⟨d.os,d.tape,d.output,d.size,fun b hb f=>⟨f,d.block b hb (by
     simp only [abL];rintro rfl;exact f ⟨id,_,D,rfl⟩)⟩⟩
    have o:=A.le s.lo;have m:=s.put u D rfl d (o':=.mapf ((k,a) :: l)) ⟨g,rfl,S,c',V,W,fun q=>by
     rw [v q];simp only [lookF];by_cases I:q=k
     ·rw [if_pos I,if_pos I]; exact Rd.carry h6 o (kB.refl _)
     rw [if_neg I,if_neg I];have J:=k3 q;cases X:getM q a'.toList <;> cases Y:lookF q l <;> rw [X,Y] at J
     ·trivial
     ·exact J
     ·exact J
     exact Rd.carry J o (kB.refl _)⟩
    refine ⟨p,U,ρ,⟨m.2,fun _ _ _ h=>h,fun j Z O i=>⟨i,fun gx B=>d.block gx (s.bnd j Z gx i B).2.1 ?_⟩,fun _ _ h=>h⟩,m.1,C.carry o (kB.refl _),trivial,aa⟩;simp only [abL];rintro rfl;have:=s.inj j id _ _ _ i D B rfl;subst this; rw [N] at O; cases O
   cases h
  cases h
 cases h
def tz (hT:bh P G.shp T) (d:Rep G ρ H w) (e:FrR (cx G ρ w) ρ fr F) {y:Operand} (h:HO T ro fr H t x y z=some r) :
  ∃ a,(h_ P n F w (.insert t x y z) ty a /\ h_ P n F w (.mapUpdate t x y z) ty a)/\eT G ro ρ w r F undef a:=by
 unfold HO at h;split at h
 ·rename_i g c;cases h;exact KA hT d e c
 exact DX hT d e h
def UF (hT:bh P G.shp T) (hO:aw P G.shp O) (D:Rep G ρ H w) (B:FrR (cx G ρ w) ρ fr F) {op:Op} (h:svB T O ro fr H op=some r) (I:∀ p ∈ r.ob,p):eP P n F w op ty (eT G ro ρ w r F):=by
 cases op <;> simp only [svB] at h;case box t x=>
  split at h
  ·rename_i v hx;cases h;obtain ⟨u,C,d⟩:=au B hx;obtain ⟨us,L,N⟩:=dk.cells d;exact .inl (.inl ⟨_,_,R.box C L,vJ D B N⟩)
  cases h
 case alloc t=>
  split at h
  ·rename_i ti hti;cases h;obtain ⟨⟨_,zs,hz,X⟩,_⟩:=hT _ _ hti;exact .inl (.inl ⟨_,_,R.alloc hz,vJ D B (ki X)⟩)
  cases h
 case store t x v=>
  split at h
  ·rename_i a b ti hx hv hti;split at h
   ·rename_i hsz;obtain ⟨va,C,d⟩:=au B hx;obtain ⟨vb,L,N⟩:=au B hv;obtain ⟨Q,h5,W⟩:=Bd (ty:=ty) hT D B hti hsz d N C L h I;exact .inr ⟨rfl,Q,h5,W⟩
   cases h
  cases h
 case buildSlice t m Y=>
  split at h
  ·rename_i e s sz z l Z hl;obtain ⟨hu,hs⟩:=(hT _ _ Z).2;obtain ⟨j,⟨zz,hz,X⟩,_⟩:=hs s rfl;have hsize:(P.info? e).map (·.size)=some s.size:=by
    cases hq:P.info? e with
    | none=>simp [hq] at hz
    | some i=>simp only [hq,Option.map_some,Option.some.injEq,alG] at hz ⊢; exact hz.2.1
   split at h
   ·rename_i xs q hel hfz;split at h
    ·rename_i hck;simp only [Bool.and_eq_true] at hck;have hm:=aaA hck.1.1;have hsm:=ag1 hck.1.2;have hbm:=ag1 hck.2;obtain ⟨pv,C,d⟩:=jL B hl;obtain ⟨ρ1,k1,k2,k3,k4,k5,k6,_,_⟩:=qg hfz D B;obtain ⟨vss,L,N,h5,W⟩:=pF hel d fun p V us hus=>k6 _ us (fun i hi=>sA V hi) hus;have A:=R.buildSlice (P:=P) (n:=n) (F:=F) (w:=w) (ty:=ty) (m:=m) hu hsize (Io hz) C L N aI hsm;have e0:Y.toList.toArray=Y:=by simp
     rw [e0] at A;have S:=Kp.alloc w (.cells vss.flatten.toArray e);cases m with
     | zero=>
      cases h;refine .inl (.inl ⟨_,_,A,ρ,Stp.kp D S,D.kp S,B.kp S,Pd.em (a:=some ⟨w.heap.size,0,none⟩) rfl,aa⟩)
     | succ m=>
      cases h;have hfl:vss.flatten.length=(m+1)*s.size:=by rw [<- W.length,bX,hm]
      obtain ⟨ρ2,j1,j2,j3,j4⟩:=rG (ro:=ro) (sp:=[]) (cap:=m+1) k3 k4 S (by rw [adD]; exact aio w _) j (by rw [hm]; exact hbm) W (by rw [adD]; exact hfl) aI (by
       have:=ajF (m+1) (gV s);simp only [maxLen]; omega)
      rw [hm] at j4;exact .inl (.inl ⟨_,_,A,ρ2,k1.trans j1,j2,j3,j4,aa⟩)
    cases h
   cases h
  cases h
 case makeSlice t a b=>
  split at h
  ·rename_i e s sz z k k' Z hx hy;split at h
   ·rename_i hs1;cases h;obtain ⟨hu,hs⟩:=(hT _ _ Z).2;obtain ⟨j,⟨zz,hz,X⟩,_⟩:=hs s rfl;have hs1:=aaA hs1;have g0:=I _ (adx); have g1:=I _ (abM _ (adx)); have g2:=I _ (abM _ (abM _ (aa0 _)));subst g2;obtain ⟨m,rfl⟩:=aa5 g0;obtain ⟨va,C,d⟩:=au B hx;obtain ⟨vb,L,N⟩:=au B hy;cases d with | int=>
    cases N with | int=>
    have hmb:m*s.bytes<=140737488355328:=by
     have e9:((m*s.bytes:Nat):Int)=(m:Int)*s.bytes:=by simp
     omega
    have hml:m<=maxLen:=by
     have:=ajF m (gV s);simp only [maxLen]; omega
    obtain ⟨i,zv,hq,hzv,hzc,hsz,hby⟩:=rC hz;obtain ⟨Q,A,hown,hgr⟩:=run_make_full (P:=P) w w.heap.size t e i zv s.size hu hq hzv hsz .i64 .i64 m (by rw [hby,Nat.mul_comm]; omega) hml (Nat.le_refl _);have hmade:(madeCells zv.cells (m*s.size)).toList=List.replicate m (zz.headD undef):=by
     have hzl:=(ki (c:=cx G ρ w) (ρ:=ρ) X).length;rw [cY,hs1] at hzl;obtain ⟨u,rfl⟩:∃ u,zz=[u]:=by
      cases zz with
      | nil=>simp at hzl
      | cons u r=>
       cases r with
       | nil=>exact ⟨u,rfl⟩
       | cons _ _=>simp at hzl
     rw [hzc,hs1]; simp [madeCells,Nat.mod_one,List.map_const']
    rw [hmade] at hown;have S:=Kp.JH hgr;rcases pA hown with ⟨h0,_⟩ | ⟨g,cap,sp,hv,j1,j2,j3,j4⟩
    ·cases h0
    injection hv with e1 e2 e3;cases e1;subst e3;have hrl:(List.replicate m (aj s)).length=m:=ag6;obtain ⟨ρ2,q1,q2,q3,q4⟩:=rG (ro:=ro) (xs:=List.replicate m (aj s)) D B S j1 j (by rw [hrl]; exact hmb) (RF (ki (ρ:=ρ) X) hs1 m) j2 (by rw [hrl]; exact j3) j4;rw [hrl] at q4;exact .inl (.inl ⟨_,Q,fun a _ _ _ _ ha=>by simp [execOp,ha.ev C,ha.ev L,A],ρ2,q1,q2,q3,q4,aa⟩)
   cases h
  cases h
 case call cl=>
  split at h
  ·rename_i K;split at h
   ·rename_i x y t t' J U;split at h
    ·rename_i a b htt hx hy;have htt:=aaA htt;subst htt;obtain ⟨va,C,d⟩:=au B hx;obtain ⟨vb,L,N⟩:=au B hy;obtain ⟨v,Q,h5,W⟩:=jN (P:=P) (n:=n) (ty:=ty) hT D B h I d N C L;have e:cl={ callee:=.builtin .append,args:=#[x,y],argTypes:=#[t,t] }:=by
      cases cl; simp at K J U; subst K;simp only [alx,true_and];exact ⟨aiW (by simpa using J),aiW (by simpa using U)⟩
     rw [e];exact .inl (.inl ⟨v,Q,h5,W⟩)
    ·rename_i a b htt hx hy;obtain ⟨va,C,d⟩:=au B hx;obtain ⟨vb,L,N⟩:=au B hy;obtain ⟨v,Q,h5,W⟩:=uZ (P:=P) (n:=n) (ty:=ty) hT D B h I d N C L;have e:cl={ callee:=.builtin .append,args:=#[x,y],argTypes:=#[t,t'] }:=by
      cases cl; simp at K J U; subst K;simp only [alx,true_and];exact ⟨aiW (by simpa using J),aiW (by simpa using U)⟩
     rw [e];exact .inl (.inl ⟨v,Q,h5,W⟩)
    cases h
   cases h
  ·rename_i x K;split at h
   ·rename_i f l hl;split at h
    ·rename_i r' hce;cases h;obtain ⟨x',xs,vs,bs,cap,C,d,L,N,h5⟩:=lB B hl;obtain ⟨⟨fn,W,h7,h8⟩,A⟩:=JI hO D B h5 hce I;have e:cl={ callee:=.value x',args:=xs.toArray,argTypes:=cl.argTypes }:=by
      cases cl; simp at C d; subst C; subst d; rfl
     rw [e];exact .inl (.inr ⟨_,_,E.Mx L N W h7 h8,A⟩)
    unfold Ph at h;split at h
    ·rename_i q hfz;split at h
     ·rename_i f' l' hl';split at h
      ·rename_i r' hcp;cases h;obtain ⟨ρ',k1,k2,k3,k4,k5,_,_,_⟩:=hU hfz D B;obtain ⟨x',xs,vs,bs,cap,C,d,L,N,h5⟩:=lB k4 hl';obtain ⟨⟨fn,W,h7,h8⟩,A⟩:=wK hO k3 h5 hcp I;have e:cl={ callee:=.value x',args:=xs.toArray,argTypes:=cl.argTypes }:=by
        cases cl; simp at C d; subst C; subst d; rfl
       rw [e];exact .inl (.inr ⟨_,_,E.Mx L N W h7 h8,A.mono fun v Q V=>⟨ρ',k1.trans (Stp.kp k3 V.1),k3.kp V.1,k4.kp V.1,V.2.1,V.2.2⟩⟩)
      cases h
     cases h
    cases h
   cases h
  cases h
 case slice t x lo hi mx=>
  split at h
  ·rename_i i hx;split at h
   ·rename_i q hfz;split at h
    ·rename_i r' hpv;cases h;obtain ⟨ρ',k1,k2,k3,k4,k5,_,_,_⟩:=hU hfz D B;rcases sH (ty:=ty) hT hO k3 k4 hpv I with ⟨v,Q,C,d⟩ | ⟨f,args,C,d⟩
     ·exact .inl (.inl ⟨v,Q,C,ρ',k1.trans (Stp.kp k3 d.1),k3.kp d.1,k4.kp d.1,d.2.1,d.2.2⟩)
     exact .inl (.inr ⟨f,args,C,d.mono fun v Q V=>⟨ρ',k1.trans (Stp.kp k3 V.1),k3.kp V.1,k4.kp V.1,V.2.1,V.2.2⟩⟩)
    cases h
   cases h
  cases h
 case makeMap t o=>
  cases o with
  | some o=>cases h
  | none=>
   simp only at h;split at h
   ·rename_i s Z;cases h;have S:=Kp.alloc w (.map #[] 0);have hext:Ext ρ w (ρ++[.blk w.heap.size]) (w.alloc (.map #[] 0)):=Ext.app S fun g hg=>by cases hg; exact Nat.le_refl _
    have hle:=hext.le D.lo;exact .inl (.inl ⟨_,_,R.uA,ρ++[.blk w.heap.size],Stp.app D S (fun g hg=>by cases hg; exact Nat.le_refl _),D.app S (fun g hg=>by cases hg; exact ⟨Nat.le_refl _,aa⟩) ⟨_,rfl,#[],0,(Go.MapKept.heap_alloc w _).1,aa,fun _=>trivial⟩,B.carry hle (gu _ _),⟨w.heap.size,by rw [D.obj.length]; simp,rfl⟩,aa⟩)
   ·rename_i Z;cases h;have S:=Kp.alloc w (.map #[] 0);have hext:Ext ρ w (ρ++[.blk w.heap.size]) (w.alloc (.map #[] 0)):=Ext.app S fun g hg=>by cases hg; exact Nat.le_refl _
    have hle:=hext.le D.lo;exact .inl (.inl ⟨_,_,R.uA,ρ++[.blk w.heap.size],Stp.app D S (fun g hg=>by cases hg; exact Nat.le_refl _),D.app S (fun g hg=>by cases hg; exact ⟨Nat.le_refl _,aa⟩) ⟨_,rfl,#[],0,(Go.MapKept.heap_alloc w _).1,aa,fun _=>trivial⟩,B.carry hle (gu _ _),⟨w.heap.size,by rw [D.obj.length]; simp,rfl⟩,aa⟩)
   cases h
 case insert t x y z=>
  obtain ⟨Q,C,d⟩:=tz (n:=n) (ty:=ty) hT D B h;exact .inr ⟨rfl,Q,C.1,d⟩
 case mapUpdate t x y z=>
  obtain ⟨Q,C,d⟩:=tz (n:=n) (ty:=ty) hT D B h;exact .inr ⟨rfl,Q,C.2,d⟩
 all_goals cases h
end
section
variable {P:Program} {T:List (Nat × TI)} {G:Gl} {O:bH} {n:Nat} {F:Fr} {w:World} {x y:Operand} {ty t t':TypeId} {ρ:List RE} {H:AH} {fr:AFr} {ro:Lv}
variable {va:Value} {a:AV} {e:TypeId} {r:SR}
theorem JA (hT:bh P G.shp T) (C:Rep G ρ H w) (y:FrR (cx G ρ w) ρ fr F) {h:Int} {N:Sh} {sz:Nat} {z:List AV} {O:Operand} (Q:aZ T t=some ⟨.sl e (some N),sz,z⟩) (o:abO ro fr H a h=some r) (D:∀ p ∈ r.ob,p) (ha:Rd (cx G ρ w) ρ a va) (hx:ev F x=some va) (hy:ev F O=some (.int .i64 h)) :
  ∃ v w',aJ P n F w (.slice t x none (some O) none) ty v w' /\ eT G ro ρ w r F v w':=by
 obtain ⟨hu,hs⟩:=(hT _ _ Q).2;obtain ⟨_,⟨zz,S,_⟩,_⟩:=hs _ rfl;have f:(P.info? e).map (·.size)=some N.size:=by
  cases hq:P.info? e with
  | none=>simp [hq] at S
  | some q=>simp [hq] at S; simp [S.2.1]
 unfold abO at o;split at o
 ·rename_i id;split at o
  ·rename_i er s k I;split at o
   ·rename_i A;cases o;simp only [Bool.and_eq_true] at A;have o1:=D _ (.head _);have o2:=D _ (.tail _ (.head _));obtain ⟨j,rfl⟩:=aa5 o1;have U:j<=k.length:=by omega
    obtain ⟨_,J,_⟩:=ng C I;obtain ⟨u,m⟩:=dH C I;have K:(k.take j).length=j:=by rw [List.length_take]; omega
    have L:(k.take j).length*s.bytes<=140737488355328:=Nat.le_trans (ag0 _ aI) m;rcases bE C I with ⟨h0,h1⟩ | ⟨g,i,c,sp,V,h3,h4,h5,h6,h7⟩
    ·rcases ha with ⟨_,_,_,_,B,_⟩ | ⟨_,a0,rfl⟩
     ·grind
     have W:j=0:=by rw [h1] at U; simpa using U
     subst W;have d:=R.kZ (P:=P) (n:=n) (w:=w) (ty:=ty) (a':=a0) hx hy hu f aa (Nat.le_refl 0);obtain ⟨X,Y,Z⟩:=jl (r':=.emp) (zs:=k.take 0) C I A (Kp.refl w) aa (by rintro g ⟨⟩) (fun _=>⟨u,L,.inl ⟨rfl,rfl⟩⟩);exact ⟨_,w,d,_,X,Y,Z fr F y,.inr ⟨aeb J,a0,rfl⟩,aa⟩
    rcases ha with ⟨_,_,_,_,B,rfl⟩ | ⟨B,_⟩
    ·rw [V] at B; cases B;have e0:(if i=0 then (some (⟨g,0,none⟩:Addr)) else (some (⟨g,0,none⟩:Addr)).map (·.add (0*N.size)))=some ⟨g,0,none⟩:=by
      split
      ·rfl
      simp [Addr.add]
     have d:=R.kZ (P:=P) (n:=n) (w:=w) (ty:=ty) hx hy hu f e0 (show j<=i by omega);rw [alF,alF] at d;have hcl:c.length=k.length*s.size:=by rw [<- h4.length,bX]
     have hmul:j*s.size<=k.length*s.size:=ag0 _ U;obtain ⟨X,Y,Z⟩:=jl (r':=.row g i (k.take j).length s.size) (zs:=k.take j) (e':=er) C I A (Kp.refl w) aa (fun g' b=>by cases b; exact .inl ⟨_,V,rfl⟩) (fun l=>⟨u,L,.inr ⟨g,i,c.take (j*s.size),c.drop (j*s.size)++sp,rfl,by rw [<- List.append_assoc,List.take_append_drop]; exact h3,(bC h4 j).carry l,by rw [<- List.append_assoc,List.take_append_drop]; exact h5,aI,h7⟩⟩);refine ⟨_,w,d,_,X,Y,Z fr F y,.inl ⟨g,i,(k.take j).length,s.size,aeb J,by rw [K]⟩,aa⟩
    rw [V] at B; cases B
   cases o
  cases o
 cases o
def R.afe {A B:Option Addr} {c f d g z:Nat} (o:ev F x=some (.slice A c f)) (p:ev F y=some (.slice B d g)) (q:P.underlying t=some (.slice e)) (s:(P.info? e).map (·.size)=some z) (u:Nat.min d c=0) :
  aJ P n F w (.call { callee:=.builtin .copy,args:=#[x,y],argTypes:=#[t,t'] }) ty (goInt 0) w:=fun _ _ _ _ _ k=>by
 cases m:P.info? e with
 | none=>simp [m] at s
 | some i=>
  have C:∀ a:Addr,(loadCells a 0).run P w = .ok #[] w:=fun a=>alv (P:=P) w a [] (fun j v h=>by simp at h);have D:(Builtin.copy_ #[t,t'] ty #[.slice A c f,.slice B d g]).run P w = .ok (goInt 0) w:=by
   cases A <;> cases B <;> simp [Builtin.copy_,run_underlying q,Builtin.lenOf,Builtin.firstCells,sizeOf,typeInfo,m,u,C,storeCells]
  simp [execOp,resolve,invoke,builtin,k.ev o,k.ev p,D]
def EF (hT:bh P G.shp T) (S:Rep G ρ H w) (hf:FrR (cx G ρ w) ρ fr F) {b:AV} {vb:Value} (K:Sz T ro H t t' a b=some r) (ha:Rd (cx G ρ w) ρ a va) (hb:Rd (cx G ρ w) ρ b vb) (hx:ev F x=some va) (hy:ev F y=some vb) :
  ∃ v l,aJ P n F w (.call { callee:=.builtin .copy,args:=#[x,y],argTypes:=#[t,t'] }) ty v l /\ eT G ro ρ w ⟨r.v,fr,r.H,r.ob,r.fc⟩ F v l:=by
 unfold Sz at K;split at K
 ·rename_i id e s sz z e' so sz' z' hft hft';obtain ⟨hu,hs⟩:=(hT _ _ hft).2;obtain ⟨_,⟨zz,hz,_⟩,_⟩:=hs _ rfl;have J:(P.info? e).map (·.size)=some s.size:=by
   cases hq:P.info? e with
   | none=>simp [hq] at hz
   | some q=>simp [hq] at hz; simp [hz.2.1]
  split at K
  ·rename_i er p d o hH hys;split at K
   ·rename_i hss;subst hss;split at K
    ·rename_i O;cases K;simp only [Bool.and_eq_true] at O;obtain ⟨A,k,u,rfl,s1,s2,s3,s4⟩:=oM S hys hb;obtain ⟨hshp,L⟩:=dH S hH;have hI:I64 ((min o.length d.length:Nat):Int):=by
      have:=ajF d.length (gV p);constructor <;> omega
     have hHs:=bN hH aa;have same:min o.length d.length=0->o.take d.length++d.drop o.length=d:=fun D=>by
      rcases Nat.le_total o.length d.length with hle | hle
      ·have:o.length=0:=by rw [ag3 hle] at D; exact D
       rw [this,alM,abb this]; simp
      have:d.length=0:=by rw [alq hle] at D; exact D
      rw [abb this]; simp
     have U:∀ (A':Option Addr) (m c:Nat),va = .slice A' m c->m=d.length->min o.length d.length=0->∃ v l,aJ P n F w (.call { callee:=.builtin .copy,args:=#[x,y],argTypes:=#[t,t'] }) ty v l /\ eT G ro ρ w ⟨one (.int (min o.length d.length:Nat)),fr,H.set id (.row er p (o.take d.length++d.drop o.length)),[],[]⟩ F v l:=fun A' m c e1 e2 D=>by
      subst e1; subst e2;refine ⟨_,w,R.afe hx hy hu J D,ρ,Stp.refl _ _ _,?_,hf,?_,aa⟩
      ·rw [same D];have:H.set id (.row er p d)=H:=by
        obtain ⟨hi,he⟩:=aad.1 hHs;rw [<- he,List.set_getElem_self]
       rw [this]; exact S
      have e3:(min o.length d.length)=0:=D;rw [e3]; exact Pd.int ⟨am,am⟩
     rcases bE S hH with ⟨D,h1⟩ | ⟨g,cap,f,I,h2,h3,h4,h5,h6,h7⟩
     ·rcases ha with ⟨_,_,_,_,V,_⟩ | ⟨_,a0,rfl⟩
      ·rw [D] at V; cases V
      exact U a0 0 0 rfl (by rw [h1]; rfl) (by rw [h1]; exact Nat.min_zero _)
     rcases ha with ⟨_,_,_,_,V,rfl⟩ | ⟨V,_⟩
     ·rw [h2] at V; cases V;by_cases D:min o.length d.length=0
      ·exact U _ _ _ rfl rfl D
      have hy0:¬ o.length=0:=fun e=>D (by rw [e]; exact Nat.zero_min _);obtain ⟨ad,rfl,hsrc⟩:=s3.resolve_left hy0;have N:f.length=d.length*p.size:=by rw [<- h4.length,bX]
      have hml:min o.length d.length<=o.length:=Nat.min_le_left _ _;have hmr:min o.length d.length<=d.length:=Nat.min_le_right _ _;have b1:min o.length d.length*p.size<=o.length*p.size:=ag0 _ hml;have b2:min o.length d.length*p.size<=d.length*p.size:=ag0 _ hmr;have Y:(u.take (min o.length d.length*p.size)).length=min o.length d.length*p.size:=by rw [List.length_take,s1]; exact ag3 b1
      have hrun:=R.oP (P:=P) (n:=n) (w:=w) (ty:=ty) (t':=t') (cur:=f++I) (cs:=u.take (min o.length d.length*p.size)) hx hy hu J h3 Y (hsrc.take _) (by rw [Y,List.length_append,N]; omega) (fun v hv=>s2 v (List.mem_of_mem_take hv));refine ⟨_,_,hrun,?_⟩;have B:=Kp.setRow w g ((f++I).take 0++u.take (min o.length d.length*p.size)++(f++I).drop (0+(u.take (min o.length d.length*p.size)).length)).toArray;have Q:=ag7 w g _ ((f++I).take 0++u.take (min o.length d.length*p.size)++(f++I).drop (0+(u.take (min o.length d.length*p.size)).length)).toArray er _ h3;revert B Q;generalize hW:w.setRow g ((f++I).take 0++u.take (min o.length d.length*p.size)++(f++I).drop (0+(u.take (min o.length d.length*p.size)).length)).toArray=W;intro B Q;have C:(f++I).take 0++u.take (min o.length d.length*p.size)++(f++I).drop (0+(u.take (min o.length d.length*p.size)).length)=(u.take (d.length*p.size)++f.drop (o.length*p.size))++I:=by
       rw [Y,alN,ak_,adz,List.drop_append_of_le_length aI,<- List.append_assoc];congr 1;rcases Nat.le_total o.length d.length with hle | hle
       ·have e1:min o.length d.length=o.length:=ag3 hle;rw [e1,<- s1,List.take_length,List.take_of_length_le (by rw [s1]; exact ag0 _ hle)]
       have e1:min o.length d.length=d.length:=alq hle;rw [e1,<- N,List.drop_length,ag8 (by rw [N]; exact ag0 _ hle)]
      rw [C] at Q;have hnew:Pds (cx G ρ w) ((o.take d.length++d.drop o.length).flatMap (cellsOf p)) (u.take (d.length*p.size)++f.drop (o.length*p.size)):=by
       rw [List.flatMap_append];exact (bC s4 _).append (bY h4 _)
      have Z:(o.take d.length++d.drop o.length).length=d.length:=by
       rw [List.length_append,List.length_take,List.length_drop]; omega
      have hext:Ext ρ w ρ W:=⟨B.os,B.tape,B.output,B.size,fun b hb hl=>⟨hl,B.block b hb (by
       simp only [abL];rintro rfl;exact hl ⟨id,_,h2,rfl⟩)⟩⟩
      have hle:=hext.le S.lo;have X:=S.put (o':=.row er p (o.take d.length++d.drop o.length)) hHs h2 rfl B ⟨hshp,by rw [Z]; exact L,.inr ⟨g,cap,_,I,by rw [Z],Q,hnew.carry hle,by
       rw [<- C,<- h5];simp only [List.length_append,List.length_take,List.length_drop,adz,s1];have e9:min (min o.length d.length*p.size) (o.length*p.size)=min o.length d.length*p.size:=ag3 b1;rw [e9,N];have e8:min 0 (d.length*p.size+I.length)=0:=Nat.zero_min _;omega,by rw [Z]; exact h6,h7⟩⟩
      refine ⟨ρ,⟨X.2,fun _ _ _ h=>h,fun i r' hi j=>⟨j,fun g' hg'=>B.block g' (S.bnd i r' g' j hg').2.1 ?_⟩,fun _ _ h=>h⟩,X.1,hf.carry hle (kB.refl _),(show Pd _ (.int (min o.length d.length:Nat)) (.int .i64 _) from Pd.int hI),aa⟩;simp only [abL];rintro rfl;have:=S.inj i id _ _ g' j h2 hg' rfl;subst this; rw [O.1] at hi; cases hi
     rw [h2] at V; cases V
    cases K
   cases K
  cases K
 cases K
variable {op:Op}
theorem WG (hT:bh P G.shp T) (m:Rep G ρ H w) (g:FrR (cx G ρ w) ρ fr F) (h:svX T ro fr H op=some r) (o:∀ p ∈ r.ob,p):eP P n F w op ty (eT G ro ρ w r F):=by
 unfold svX at h;split at h
 ·rename_i k;split at h
  ·rename_i c;split at h
   ·rename_i x y t t' d f;split at h
    ·rename_i a b q s;split at h
     ·rename_i J i;cases h;obtain ⟨va,u,z⟩:=au g q;obtain ⟨vb,A,B⟩:=au g s;obtain ⟨v,C,D,I⟩:=EF (P:=P) (n:=n) (ty:=ty) hT m g i z B u A;have e:k={ callee:=.builtin .copy,args:=#[x,y],argTypes:=#[t,t'] }:=by
       cases k; simp at c d f; subst c;simp only [alx];grind
      rw [e];exact .inl (.inl ⟨v,C,D,I⟩)
     cases h
    cases h
   cases h
  cases h
 cases h
def NN (hT:bh P G.shp T) (W:aw P G.shp O) (C:Rep G ρ H w) (o:FrR (cx G ρ w) ρ fr F) (h:sv T O ro fr H op=some r) (d:∀ p ∈ r.ob,p):eP P n F w op ty (eT G ro ρ w r F):=by
 unfold sv at h;split at h
 ·rename_i r' f;cases h;unfold svC at f;split at f
  ·rename_i t x hi;split at f
   ·rename_i X Y q;obtain ⟨va,Z,j⟩:=au o X;obtain ⟨vb,I,J⟩:=au o Y;cases J with | int=>
    obtain ⟨v,l,y,h6⟩:=JA (P:=P) (n:=n) (ty:=ty) hT C o q f d j Z I;exact .inl (.inl ⟨v,l,y,h6⟩)
   cases f
  ·rename_i t b;split at f
   ·rename_i e s sz z k q hy;split at f
    ·rename_i u;cases f;obtain ⟨hu,hs⟩:=(hT _ _ q).2;obtain ⟨A,⟨zz,hz,K⟩,_⟩:=hs s rfl;have u:=aaA u;have g0:=d _ (.head _);have g1:=d _ (.tail _ (.head _));obtain ⟨m,rfl⟩:=aa5 g0;obtain ⟨vb,I,J⟩:=au o hy;cases J with | int=>
     have hmb:m*s.bytes<=140737488355328:=by
      have U:((m*s.bytes:Nat):Int)=(m:Int)*s.bytes:=by simp
      omega
     have B:m<=maxLen:=by
      have:=ajF m (gV s);simp only [maxLen]; omega
     obtain ⟨i,D,hq,L,hzc,N,Q⟩:=rC hz;have S:=(ki (c:=cx G ρ w) (ρ:=ρ) K).length;rw [cY,u] at S;have g:=run_make (P:=P) w t e i D hu hq L .i64 .i64 0 (m:Int) aI aI (by
      rw [Q];have U:((s.bytes*m:Nat):Int)=(s.bytes:Int)*m:=by simp
      rw [<- U,Nat.mul_comm]; omega) (by simp only [maxLen] at B; omega)
     simp only [agr,Int.toNat_zero] at g;have hk:=Kp.alloc w (.cells (madeCells D.cells (m*i.size)) e);obtain ⟨ρ2,q1,q2,q3,q4⟩:=rG (ro:=ro) (xs:=([]:List (den s))) (cells:=[]) (sp:=(madeCells D.cells (m*i.size)).toList) (cap:=m) C o hk (by
      have:=aio w (.cells (madeCells D.cells (m*i.size)) e);simpa using this) A aa .nil (by simp [madeCells,N]) (ahj _) B
     exact .inl (.inl ⟨_,_,fun a _ _ _ _ V=>by simp [execOp,V.ev (show ev F (.const (.int .i64 0))=some (.int .i64 0) from rfl),V.ev I,g],ρ2,q1,q2,q3,q4,aa⟩)
    cases f
   cases f
  cases f
 split at h
 ·cases h; exact UF hT W C o ap d
 exact WG hT C o h d
end
def dY {q:Prop} (h:∀ p ∈ [q],p):q:=h q (aa0 q)
def bM {b:Bool}:(∀ p ∈ same b,p)↔b=true:=by
 cases b with
 | true=>simp [same]
 | false=>exact ⟨fun h=>(dY h).elim,fun h=>by cases h⟩
theorem Ck:∀ {k n:Nat},(iota k n).length=n
 | _,0=>rfl
 | k,n+1=>by simp [iota,Ck]
theorem xp:∀ {k n i:Nat},i<n->(iota k n)[i]? = some (k+i)
 | k,n+1,0,_=>by simp [iota]
 | k,n+1,i+1,h=>by
  have:=xp (k:=k+1) (n:=n) (i:=i) aI;rw [iota,ajm,this,show k+1+i=k+(i+1) by omega]
variable {k i:Nat}
def OM:i ∈ iota k n↔k<=i/\i<k+n:=by
 induction n generalizing k with
 | zero=>simp [iota]
 | succ n a=>simp [iota,a]; omega
theorem iQ:∀ {σ:List Nat} {j i:Nat},KV σ j i=true↔σ[j]? = some i
 | [],j,i=>by simp [KV]
 | k :: r,0,i=>by simp [KV]
 | k :: r,j+1,i=>by simpa [KV] using iQ (σ:=r)
theorem Bo {n:Nat}:∀ {σ:List Nat} {j:Nat},JQ n σ j=true↔∃ k,σ[j]? = some k/\n<=k
 | [],j=>by simp [JQ]
 | k :: r,0=>by simp [JQ]
 | k :: r,j+1=>by simpa [JQ] using Bo (σ:=r)
def cT (ρ:List RE) (σ:List Nat):List RE:=σ.map fun k=>ρ.getD k .emp
variable {r:RE}
def dz (h:σ[j]? = some i) (a:ρ[i]? = some r):(cT ρ σ)[j]? = some r:=by
 simp [cT,h,a]
def Sb (h:σ[j]? = some i) (a:ρ.length<=i):(cT ρ σ)[j]? = some .emp:=by
 simp [cT,h,List.getElem?_eq_none a]
def ox {g:Nat} (h:(cT ρ σ)[j]? = some r) (d:r.g? = some g):∃ i,σ[j]? = some i/\ρ[i]? = some r:=by
 simp only [cT,List.getElem?_map,ago] at h;obtain ⟨i,e,a⟩:=h;refine ⟨i,e,?_⟩;rw [List.getD_eq_getElem?_getD] at a;cases c:ρ[i]? with
 | none=>rw [c] at a; simp at a; subst a; cases d
 | some f=>rw [c] at a; simp at a; rw [a]
theorem pt {b:Nat} (h:live (cT ρ σ) b):∃ i r,i ∈ σ/\ρ[i]? = some r/\r.g? = some b:=by
 obtain ⟨j,r,a,c⟩:=h;obtain ⟨i,d,e⟩:=ox a c;grind
section
variable {G:Gl} {ρ:List RE} {H:AH} {w:World} {σ:List Nat} {n:Nat}
def yP:(cx G ρ w).le (cx G (cT ρ σ) w):=
 ⟨rfl,rfl,fun _ a=>⟨⟨a.1,fun h=>by
  obtain ⟨i,r,_,c,d⟩:=pt h;exact a.2.1 ⟨i,r,c,d⟩,a.2.2⟩,rfl⟩,fun _ _ _=>rfl⟩
theorem gX:∀ {b a:List (Nat × Nat)} {c:List Value},qH σ b a = true->All2 (ek ρ) b c->All2 (ek (cT ρ σ)) a c
 | [],[],_,_,h=>by cases h; exact .nil
 | (i,o) :: b,(j,q) :: a,_,h,k=>by
  simp only [qH,Bool.and_eq_true] at h;cases k with | cons d e=>
  have f:=aaA h.1.2;subst f;obtain ⟨g,m,p⟩:=d;exact .cons ⟨g,dz (iQ.1 h.1.1) m,p⟩ (gX h.2 e)
def PE (A:Rep G ρ H w) (l:n=H.length) {a b:AV} {v:Value} (h:Rd (cx G ρ w) ρ a v) (c:∀ p ∈ eqA H n σ a b,p):Rd (cx G (cT ρ σ) w) (cT ρ σ) b v:=by
 have S:=A.obj.length;by_cases T:b = .dead
 ·subst T; exact h.one
 have f:(cx G ρ w).le (cx G (cT ρ σ) w):=yP;cases a <;> cases b <;> first | exact (T rfl).elim | (dsimp only [eqA] at c; try exact (dY c).elim)
 case int.int=>have c:=dY c; subst c; exact Pd.carry h f
 case u8.u8=>have c:=dY c; subst c; exact Pd.carry h f
 case u64.u64=>have c:=dY c; subst c; exact Pd.carry h f
 case bool.bool=>
  have h:Pd (cx G ρ w) _ v:=h;cases h;rw [dY c]; exact Pd.bool
 case str.str=>have c:=dY c; subst c; exact Pd.carry h f
 case li.li=>
  have K:=c _ (adx ..);have L:=c _ (abM _ (aa0 _));subst K; subst L; exact Pd.carry h f
 case fz.fz=>
  rename_i s I J N;by_cases x:s=J
  ·subst x;rw [alI rfl] at c;have c:I=N:=dY c;subst c;exact Pd.carry h f
  rw [dif_neg x] at c;exact (dY c).elim
 case em.fz=>
  have c:=dY c;subst c;exact Pd.yA (Pd.carry h f)
 case em.em=>
  have:=bM.1 c;simp at this; subst this;exact Pd.carry h f
 case em.own=>
  obtain ⟨k,d,m⟩:=Bo.1 (bM.1 c);have h:Pd (cx G ρ w) _ v:=h;cases h with | em _=>
  exact .inr ⟨Sb d aI,_,rfl⟩
 case own.own=>
  have d:=iQ.1 (bM.1 c);rcases h with ⟨g,u,len,z,h,e⟩ | ⟨h,e⟩
  ·exact .inl ⟨g,u,len,z,dz d h,e⟩
  exact .inr ⟨dz d h,e⟩
 case own.fz=>
  rename_i i s N;split at c
  ·rename_i t J I O;by_cases x:J = s
   ·subst x;rw [alI rfl] at c;have d:=bM.1 fun p B=>c p (ady _ B);have m:I=N:=c _ (adA _ (aa0 _));simp only [ag5] at d;subst m;have P:i ∉ σ:=fun Q=>by rw [bz.2 Q] at d; cases d
    have V:(AV.own i).vw H = .fz J I:=by simp [AV.vw,O]
    refine lj (o_ A f rfl h (fun g u len z ⟨id,c,C⟩=>?_) V);have U:=A.bnd _ _ g C rfl;refine ⟨U.2.1,fun W=>?_,U.2.2⟩;obtain ⟨i',r',D,X,Y⟩:=pt W;have:=A.inj _ _ _ _ g C X rfl Y;rcases c with c | ⟨_,_,c⟩ <;> cases c;subst this;exact P D
   rw [dif_neg x] at c;exact (dY c).elim
  exact (dY c).elim
 case sub.sub=>
  simp only [abx,ado,akB,or_false] at c;have d:=iQ.1 (bM.1 fun p B=>c p (.inl B));have m:=c _ (.inr (.inl rfl));have D:=c _ (.inr (.inr rfl));subst m; subst D;rcases h with ⟨g,u,len,z,h,e⟩ | ⟨h,e⟩
  ·exact .inl ⟨g,u,len,z,dz d h,e⟩
  exact .inr ⟨dz d h,e⟩
 case ptr.ptr=>
  have d:=bM.1 c;simp only [Bool.and_eq_true] at d;have y:=aaA d.2;subst y;obtain ⟨g,h,e⟩:=h;exact ⟨g,dz (iQ.1 d.1) h,e⟩
 case np.np=>exact h
 case elp.elp=>
  simp only [abx,ado,akB,or_false] at c;have d:=bM.1 fun p B=>c p (.inl B);have m:=c _ (.inr rfl);simp only [Bool.and_eq_true] at d;have y:=aaA d.2;subst y; subst m;obtain ⟨g,u,len,z,h,e⟩:=h;exact ⟨g,u,len,z,dz (iQ.1 d.1) h,e⟩
 case fn.fn=>
  have d:=bM.1 c;simp only [Bool.and_eq_true] at d;have y:=aaA d.1.1;subst y;obtain ⟨Z,F,m,D,e⟩:=h;exact ⟨Z,F,gX d.1.2 m,gX d.2 D,e⟩
 case nf.nf=>exact h
 case yl.yl=>rw [<- aaA (bM.1 c)]; exact h
 case np.xx k b=>
  unfold agM at c;split at c
  ·rename_i q;have d:=bM.1 c;unfold afR at d;split at d
   ·rename_i i Q;split at d
    ·rename_i t cs O;obtain ⟨r,j,g,vs,rfl,_⟩:=A.at_ (bN O aa);have h:v = .pointer none:=h;exact ⟨[_],.cons ⟨g,dz Q j,rfl⟩ .nil,rfl,.inl h⟩
    cases d
   cases d
  exact (dY c).elim
 case ptr.xx i o k b=>
  unfold aeu at c;split at c
  ·rename_i q;have d:=bM.1 c;simp only [Bool.and_eq_true] at d;obtain ⟨g,m,e⟩:=h;have y:=aaA d.2;subst y;exact ⟨[v],.cons ⟨g,dz (iQ.1 d.1) m,e⟩ .nil,rfl,.inr rfl⟩
  exact (dY c).elim
 case xx.xx k b k' b'=>
  obtain ⟨F,d,m⟩:=h;unfold eqX at c;split at c
  ·have:=c _ (aa0 _);subst this;cases d;exact ⟨[],.nil,m⟩
  ·exact ⟨F,gX (bM.1 c) d,m.le f⟩
  ·split at c
   ·rename_i x;subst x;have:=c _ (aa0 _);subst this;cases d;exact ⟨[],.nil,m.le f⟩
   exact (dY c).elim
  ·have K:=c _ (adx ..);have L:=c _ (abM _ (aa0 _));subst K; subst L;cases d;exact ⟨[],.nil,m.le f⟩
  ·have:=c _ (aa0 _);subst this;cases d;exact ⟨[],.nil,m⟩
  ·exact ⟨F,gX (bM.1 c) d,m.le f⟩
  ·exact ⟨F,gX (bM.1 c) d,m.le f⟩
  exact (dY c).elim
 case mq.mq=>
  obtain ⟨g,h,e⟩:=h;exact ⟨g,dz (iQ.1 (bM.1 c)) h,e⟩
theorem yM (g:Rep G ρ H w) (m:n=H.length):∀ {c d:List AV} {o:List Value},All2 (Rd (cx G ρ w) ρ) c o->(∀ p ∈ Mg H n σ c d,p)->All2 (Rd (cx G (cT ρ σ) w) (cT ρ σ)) d o
 | [],[],_,h,_=>by cases h; exact .nil
 | [],_ :: _,_,_,h=>(dY h).elim
 | _ :: _,[],_,_,h=>(dY h).elim
 | a :: c,b :: d,_,h,e=>by
  cases h with | cons q s=>
  simp only [Mg,abx] at e;exact .cons (PE g m q fun p f=>e p (.inl f)) (yM g m s fun p f=>e p (.inr f))
theorem HQ (d:Rep G ρ H w) (f:n=H.length) {a b:TV1} {v:Value} (h:dk (cx G ρ w) ρ a v) (c:∀ p ∈ VT H n σ a b,p):dk (cx G (cT ρ σ) w) (cT ρ σ) b v:=by
 cases a <;> cases b <;> simp only [VT] at c
 ·exact PE d f h c
 ·simp_all
 ·exact (dY c).elim
 obtain ⟨g,e,h⟩:=h;exact ⟨g,e,yM d f h c⟩
theorem oD (g:Rep G ρ H w) (m:n=H.length):∀ {c d:List TV1} {o:List Value},All2 (dk (cx G ρ w) ρ) c o->(∀ p ∈ Bg H n σ c d,p)->All2 (dk (cx G (cT ρ σ) w) (cT ρ σ)) d o
 | [],[],_,h,_=>by cases h; exact .nil
 | [],_ :: _,_,_,h=>(dY h).elim
 | _ :: _,[],_,_,h=>(dY h).elim
 | a :: c,b :: d,_,h,e=>by
  cases h with | cons q s=>
  simp only [Bg,abx] at e;exact .cons (HQ g m q fun p f=>e p (.inl f)) (oD g m s fun p f=>e p (.inr f))
theorem aa1 (d:Rep G ρ H w) (f:n=H.length) {a b:TV} {v:Value} (h:Rt (cx G ρ w) ρ a v) (c:∀ p ∈ eqT H n σ a b,p):Rt (cx G (cT ρ σ) w) (cT ρ σ) b v:=by
 cases b with
 | un=>trivial
 | one b=>
  cases a <;> simp only [eqT] at c
  ·exact HQ d f h c
  ·simp_all
  exact (dY c).elim
 | tup b=>
  cases a <;> simp only [eqT] at c
  ·exact (dY c).elim
  ·obtain ⟨g,e,h⟩:=h;exact ⟨g,e,oD d f h c⟩
  exact (dY c).elim
theorem EP (f:Rep G ρ H w) (g:n=H.length) {fr:AFr} {F:Fr} (m:FrR (cx G ρ w) ρ fr F):∀ {a:AFr},(∀ p ∈ TJ H n σ fr a,p)->∃ d,FrR (cx G (cT ρ σ) w) (cT ρ σ) a d /\ ∀ i v,look d i=some v->look F i=some v
 | [],_=>⟨[],.nil,fun i v h=>by cases h⟩
 | (i,b) :: a,c=>by
  simp only [TJ] at c;split at c
  ·rename_i u o;simp only [abx] at c;obtain ⟨v,z,q⟩:=eL m o;obtain ⟨d,s,A⟩:=EP f g m fun p e=>c p (.inr e);refine ⟨(i,v) :: d,.cons ⟨rfl,aa1 f g q fun p e=>c p (.inl e)⟩ s,fun j x y=>?_⟩;rw [aV] at y;grind
  simp_all
theorem BN {P:Program} {t:TypeId} {s:Sh} {T:List (Nat × TI)} (hT:bh P G.shp T):∀ {r:List (Nat × TI)},xC T t s r=true->G.shp t=some s
 | (i,_) :: r,h=>by
  simp only [xC,Bool.or_eq_true] at h;rcases h with h | h
  ·split at h
   ·rename_i e f _ _ a;simp only [Bool.and_eq_true,decide_eq_true_eq] at h;have c:=aaA h.1;obtain ⟨_,d⟩:=h;subst c; subst d;exact ((hT _ _ a).2.2 _ rfl).1
   cases h
  exact BN hT h
theorem Li {P:Program} {T:List (Nat × TI)} (hT:bh P G.shp T) (D:Rep G ρ H w) (U:n=H.length):∀ {r:List Nat} {F:AH},(∀ p ∈ eqH T H n σ r F,p)->All2 (OR (cx G (cT ρ σ) w) (cT ρ σ)) F (r.map fun k=>ρ.getD k .emp)
 | [],[],_=>.nil
 | [],_ :: _,h=>(dY h).elim
 | _ :: _,[],h=>(dY h).elim
 | k :: r,b :: F,h=>by
  simp only [eqH,abx] at h;refine .cons ?_ (Li hT D U fun p c=>h p (.inr c));replace h:=fun p c=>h p (.inl c);have o:(cx G ρ w).le (cx G (cT ρ σ) w):=yP;cases I:Nat.blt k n <;> rw [I] at h
  ·-- a new row
   have x:n<=k:=by
    have:¬ k<n:=fun J=>by have:=(Nat.blt_eq).mpr J; rw [I] at this; cases this
    omega
   dsimp only [cond_false] at h;have V:=D.obj.length;show OR _ _ _ (ρ.getD k .emp);rw [List.getD_eq_getElem?_getD,List.getElem?_eq_none aI];cases b with
   | row t s y=>
    dsimp only [eqN] at h;have K:=bM.1 fun p c=>h p (ady _ c);have d:y=[]:=h _ (adA _ (aa0 _));subst d;exact ⟨BN hT K,aa,.inl ⟨rfl,rfl⟩⟩
   | gone=>exact (dY h).elim
   | mapo _ _=>exact (dY h).elim
   | mapf _=>exact (dY h).elim
   | loc=>exact (dY h).elim
   | arr _ _ _ _=>exact (dY h).elim
   | box _ _=>exact (dY h).elim
  dsimp only [cond_true] at h;have x:k<H.length:=by have:=Nat.blt_eq.mp I; omega
  have X:H[k]? = some (getO H k):=by
   unfold getO;rw [List.getD_eq_getElem?_getD,List.getElem?_eq_getElem x];rfl
  obtain ⟨l,K,d⟩:=D.at_ X;show OR _ _ _ (ρ.getD k .emp);rw [List.getD_eq_getElem?_getD,K,Option.getD_some];generalize getO H k=a at h d;cases a <;> cases b <;> dsimp only [eqO] at h <;> try exact (dY h).elim
  case gone.gone=>exact d
  case mapo.mapo s f z Y=>
   by_cases q:s=z
   ·subst q;rw [alI rfl] at h;have A:f=Y:=dY h;subst A;obtain ⟨g,e,u⟩:=d;exact ⟨g,e,u.carry o rfl⟩
   simp_all
  case arr.arr t s m L W z m' y=>
   have N:=bM.1 fun p c=>h p (ady _ c);simp only [Bool.and_eq_true] at N;have u:=aaA N.1;have B:=aaA N.2;subst u; subst B;replace h:=fun p c=>h p (adA _ c);by_cases q:s=z
   ·subst q;rw [alI rfl] at h;have A:L=y:=dY h;subst A;obtain ⟨g,O,e,C,Q,Z⟩:=d;exact ⟨g,O,e,C,Q.carry o,Z⟩
   rw [dif_neg q] at h;exact (dY h).elim
  case box.box t cs W i=>
   have u:=aaA (bM.1 fun p c=>h p (ady _ c));subst u;obtain ⟨g,O,e,B,C⟩:=d;exact ⟨g,O,e,B,yM D U C fun p c=>h p (adA _ c)⟩
  case row.row t s L W z y=>
   have u:=aaA (bM.1 fun p c=>h p (ady _ c));subst u;replace h:=fun p c=>h p (adA _ c);by_cases q:s=z
   ·subst q;rw [alI rfl] at h;have A:L=y:=dY h;subst A;refine ⟨d.1,d.2.1,d.2.2.imp id ?_⟩;rintro ⟨g,S,v,j,e,B,C,Q⟩;exact ⟨g,S,v,j,e,B,C.carry o,Q⟩
   rw [dif_neg q] at h;exact (dY h).elim
theorem tk {n:Nat}:∀ {σ:List Nat},na n σ=true->∀ (i j k:Nat),σ[i]? = some k->σ[j]? = some k->k<n->i=j
 | x :: r,a,i,j,k,d,c,e=>by
  simp only [na,Bool.and_eq_true,Bool.or_eq_true] at a;have f:k=x->∀ m:Nat,r[m]? = some k->False:=by
   rintro rfl m g;rcases a.1 with h | h
   ·have:=ag1 h; omega
   rw [bz.2 (adB g)] at h; cases h
  cases i with
  | zero=>
   grind
  | succ i=>
   cases j with
   | zero=>simp at c; exact (f c.symm i (by simpa using d)).elim
   | succ j=>rw [tk a.2 i j k (by simpa using d) (by simpa using c) e]
variable {P:Program} {T:List (Nat × TI)}
def ot (hT:bh P G.shp T) (c:Rep G ρ H w) (v:n=H.length) (x:na n σ=true) {m:AH} (h:∀ p ∈ eqH T H n σ σ m,p):Rep G (cT ρ σ) m w:=by
 have o:=c.obj.length;refine ⟨Li hT c v h,fun i j r y g f d q s=>?_,fun i r g f d=>?_,c.z,c.b0,c.tb.carry yP⟩
 ·obtain ⟨a,u,e⟩:=ox f q;obtain ⟨b,A,B⟩:=ox d s;have:=c.inj a b r y g e B q s;subst this;exact tk x i j a u A (by have:=(aad.1 e).1; omega)
 obtain ⟨a,u,e⟩:=ox f d;exact c.bnd a r g e d
variable {w0:World} {ρ0:List RE}
def ov (h:Ext ρ0 w0 ρ w):Ext ρ0 w0 (cT ρ σ) w:=
 ⟨h.os,h.tape,h.output,h.size,fun b a c=>⟨fun d=>by
  obtain ⟨i,r,_,e,f⟩:=pt d;exact (h.old b a c).1 ⟨i,r,e,f⟩,(h.old b a c).2⟩⟩
variable {ro:Lv}
def QA (h:Stp ro ρ0 w0 ρ w) (a:∀ i,i<ρ0.length->σ[i]? = some i):Stp ro ρ0 w0 (cT ρ σ) w:=
 ⟨ov h.ext,fun i r d c=>dz (a i (aad.1 c).1) (h.loc i r d c),fun i r d c=>⟨dz (a i (aad.1 c).1) (h.pro i r d c).1,(h.pro i r d c).2⟩,
  fun i g e=>dz (a i (aad.1 e).1) (h.bx i g e)⟩
def St (G:Gl) (ro:Lv) (ρ0:List RE) (w0:World) (fr:AFr) (H:AH) (F:Fr) (w:World):Prop:=∃ ρ,Stp ro ρ0 w0 ρ w/\Rep G ρ H w/\FrR (cx G ρ w) ρ fr F
theorem Bc {a:Nat} {fr:AFr} {H:AH} {q:AFr × AH} {i:Nat} (h:i<a):∀ (f:Nat) (c:List (Nat × Nat)),(UH a fr H q f c)[i]? = some i
 | 0,c=>by
  show (iota 0 a++_)[i]? = _;have:=xp (k:=0) (n:=a) (i:=i) h;grind
 | f+1,c=>Bc h f _
def gz (hT:bh P G.shp T) {e:Nat} {fr:AFr} {F:Fr} {q:AFr × AH} (m:ρ0.length<=e) (h:St G ro ρ0 w0 fr H F w) (a:jn (Ec T e fr H q)) :
  ∃ d,St G ro ρ0 w0 q.1 q.2 d w/\∀ i v,look d i=some v->look F i=some v:=by
 obtain ⟨ρ,o,f,s⟩:=h;replace a:=eH.1 a;have g:=bM.1 fun p c=>a p (ady _ (ady _ c));rw [Bool.and_eq_true] at g;obtain ⟨d,u,x⟩:=EP (σ:=UH e fr H q 3 []) f rfl s fun p c=>a p (ady _ (adA _ c));have y:=ot hT f rfl g.2 fun p c=>a p (adA _ c);exact ⟨d,⟨_,QA o fun i z=>Bc aI 3 [],y,u⟩,x⟩
end
theorem jw {R:Prop}:∀ {l:List Prop},uY l R↔(∀ p ∈ l,p)/\R
 | []=>by simp [uY]
 | p :: l=>by simp only [uY,jw,aji,and_assoc]
theorem eA {R:Prop}:∀ {l:List Prop},lf l R↔((∀ p ∈ l,p)->R)
 | []=>by simp [lf]
 | p :: l=>by simp only [lf,eA,aji,and_imp]
section
variable {P:Program} {T:List (Nat × TI)} {G:Gl} {O:bH} {Q:Exit->Act->World->Prop} {n:Nat} {ro:Lv} {l:List Oper} {ρ0:List RE} {w0:World}
variable {w:World}
theorem Md (x:Rep G ρ H w) {a:AV} {v:Value} (h:Rd (cx G ρ w) ρ a v) {s:Sh} {q:List (den s)} (d:a.vw H = .fz s q):∃ A m c,v = .slice A m c/\(A.isNone=true->q=[]):=by
 cases a <;> simp only [AV.vw] at d <;> try cases d
 case fz=>
  cases h with
  | fz D f F I J=>
   grind
 case own id=>
  split at d
  ·rename_i t y B u;cases d;rcases h with ⟨g,e,len,z,h,rfl⟩ | ⟨h,A,rfl⟩
   ·grind
   refine ⟨_,_,_,rfl,fun _=>?_⟩;rcases bE x u with ⟨_,f⟩ | ⟨g,e,p,K,f,_⟩
   ·exact f
   grind
  cases d
 case sub id o k=>
  split at d
  ·rename_i t y B u;rcases h with ⟨g,e,L,z,h,_,rfl⟩ | ⟨h,rfl,rfl,A,rfl⟩
   ·exact ⟨_,_,_,rfl,fun C=>by cases C⟩
   grind
  cases d
variable {F:Fr} {ty:TypeId} {op:Op}
def VZ (hT:bh P G.shp T) (K:Rep G ρ H w) {fr:AFr} (I:FrR (cx G ρ w) ρ fr F) {s:Sh} {C:List (den s)} {J:Bool} (h:acP T H fr op=some ⟨s,C,J⟩):∃ b,aJ P n F w op ty (.bool (abS J b).val) w/\(b=true->C=[]):=by
 unfold acP at h;split at h
 ·rename_i W t x y X;have g:∀ {a:AV} {e D sz z},aZ T t=some ⟨.sl e D,sz,z⟩->dq fr x=some (.one (.c a))->dq fr y=some (.one (.c (.em true)))->a.vw H = .fz s C->∃ A m c,ev F x=some (.slice A m c)/\ev F y=some (.slice none 0 0)/\P.underlying t=some (.slice e)/\(A.isNone=true->C=[]):=by
   intro a e D sz z d o p q;obtain ⟨Y,u,v⟩:=au I o;obtain ⟨vb,B,f⟩:=au I p;obtain ⟨A,m,c,rfl,L⟩:=Md K v q;have f:Pd (cx G ρ w) (.em true) vb:=f;cases f with
   | @em b N S=>
    cases N with
    | none=>exact ⟨A,m,c,u,B,(hT _ _ d).2.1,L⟩
    | some _=>cases S
  split at h
  ·rename_i e D sz z a d o p;split at h
   ·rename_i U V q;cases h;obtain ⟨A,m,c,u,v,B,f⟩:=g d o p q;exact ⟨A.isNone,R.QD u v B,f⟩
   cases h
  ·rename_i e D sz z a d o p;split at h
   ·rename_i U V q;cases h;obtain ⟨A,m,c,u,v,B,f⟩:=g d o p q;exact ⟨A.isNone,R.Pz u v B,f⟩
   cases h
  cases h
 cases h
theorem nB {k:Int} {ok:Bool} {K:TV->Prop}:∀ {l:List (Int × AV)},yu k ok K l->K (match lookF k l with
  | some a=>IM ok a true
  | none=>IM ok .nf false)
 | [],h=>h
 | (j,a) :: r,h=>by
  simp only [lookF];by_cases c:k=j
  ·rw [if_pos c]; exact h.1 c
  rw [if_neg c]; exact nB (h.2 c)
def zq (hT:bh P G.shp T) (B:Rep G ρ H w) {fr:AFr} (A:FrR (cx G ρ w) ρ fr F) {m:MpR} (h:mapA T H fr op=some m):∃ v,aJ P n F w op ty v w/\Rt (cx G ρ w) ρ (match lookF m.k m.l with
  | some a=>IM m.ok a true
  | none=>IM m.ok .nf false) v:=by
 unfold mapA at h;split at h
 ·rename_i t x y ok;split at h
  ·rename_i id k p C D;split at h
   ·rename_i l q;cases h;obtain ⟨I,J,_,K⟩:=(hT _ _ p).2;obtain ⟨Z,L,N⟩:=au A C;obtain ⟨vb,S,U⟩:=au A D;cases U with | int=>
    obtain ⟨g,V,rfl⟩:=N;obtain ⟨b,d,s⟩:=B.at_ (bN q aa);rw [V] at d; cases d;obtain ⟨i,e,a,c,W,X,Y⟩:=s;cases e;have f:=R.rm (P:=P) (n:=n) (ty:=ty) ok L S I J (K rfl) W X;refine ⟨_,f,?_⟩;have o:=Y k;cases u:getM k a.toList <;> cases z:lookF k l <;> rw [u,z] at o
    ·cases ok with
     | false=>exact (rfl:(_:Value)=_)
     | true=>exact ⟨_,rfl,.cons rfl (.cons (Pd.bool (e:=.lit false)) .nil)⟩
    ·exact o.elim
    ·exact o.elim
    cases ok with
    | false=>exact o
    | true=>exact ⟨_,rfl,.cons o (.cons (Pd.bool (e:=.lit true)) .nil)⟩
   cases h
  cases h
 cases h
theorem tq {l:List Oper} {fr:AFr} {j:Nat} {w:Bool}:∀ {a:List Oper} {c:List Nat},Ei l fr j w c a=true->∀ o ∈ a,iW fr o.dst=true
 | [],_,_,o,ho=>by cases ho
 | x :: r,c,h,o,ho=>by
  simp only [Ei,Bool.and_eq_true] at h;rcases ado.1 ho with rfl | ho
  ·exact h.1.1
  exact tq h.2 o ho
theorem GD {n j:Nat} {w:Bool}:∀ {a:List Oper},kD n a=true->kD n (a.map (Qv j w))=true
 | [],h=>h
 | x :: r,h=>by
  simp only [kD,ahd,Bool.and_eq_true] at h ⊢;refine ⟨?_,GD h.2⟩;have e:(Qv j w x).dst=x.dst:=by unfold Qv; rw [Bool.cond_eq_ite]; split <;> first | rfl | (split <;> rfl)
  grind
theorem lL (hT:bh P G.shp T) (hO:aw P G.shp O) {K:AFr->AH->Prop} (hK:∀ fr H F w,K fr H->St G ro ρ0 w0 fr H F w->WX Q n .normal F w) :
  ∀ (m:Nat) (ops:List Oper) (fr:AFr) (H:AH) (F:Fr) (w:World),kD n ops=true->wpOps T O ro l K m ops fr H->St G ro ρ0 w0 fr H F w->WO P Q n l ops F w
 | 0,_,_,_,_,_,_,h,_=>h.elim
 | _+1,[],fr,H,F,w,_,h,hs=>WO.nil (hK fr H F w h hs)
 | m+1,o :: f,fr,H,F,w,hd,h,hs=>by
  have ih:=lL hT hO hK m;have hs0:=hs;obtain ⟨ρ,hS,D,p⟩:=hs;have N:=kW hd o aa;have S:kD n f=true:=by simp only [kD,Bool.and_eq_true] at hd; exact hd.2
  obtain ⟨dst,op,ty,pos,af,g⟩:=o;simp only [wpOps] at h;split at h
  ·-- no guard
   split at h
   ·-- an element of what nobody writes
    rename_i s xs i q;unfold atA at q;split at q
    ·rename_i t x y;split at q
     ·rename_i s1 xs1 b s2 hx hy hsl;split at q
      ·rename_i i' hdc hix;cases q;have hss:s2=s:=adw hdc;subst hss;obtain ⟨h0,h1,h2⟩:=h;obtain ⟨va,h3,h4⟩:=au p hx;obtain ⟨vb,h5,h6⟩:=au p hy;obtain ⟨k,rfl⟩:=px hix h6;obtain ⟨e,hu,_,_,hsz,_⟩:=EI hT hsl;obtain ⟨j,rfl⟩:=aa5 h0;have hj:j<xs.length:=by omega
       have hxj:=List.getElem?_eq_getElem hj;obtain ⟨A,kk,rfl,_,hfe,us,hus⟩:=Sk (ρ:=ρ) h4 hxj;have h7:=eA.1 (h2 _ (by rw [agr]; exact hxj)) hus.pC;refine WO.y (φ:=fun v L=>v = .pointer (some (A.add (j*s2.size)))/\L = w) (.inl ⟨_,_,R.jT h3 h5 hu hsz rfl hj,rfl,rfl⟩) N fun v L ⟨e1,e2⟩=>?_;subst e1; subst e2;refine ih f _ H _ _ S h7 ⟨ρ,hS,D,?_⟩;cases dst with
       | some d=>exact .cons ⟨rfl,hfe⟩ p
       | none=>exact p
      cases q
     cases q
    cases q
   split at h
   ·-- a comparison to nil
    rename_i s xs ne hnl;obtain ⟨b,U,hb⟩:=VZ (n:=n) (ty:=ty) hT D p hnl;refine WO.y (φ:=fun v L=>v = .bool (abS ne b).val/\L = w) (.inl ⟨_,_,U,rfl,rfl⟩) N fun v L ⟨e1,e2⟩=>?_;subst e1; subst e2;refine ih f _ H _ _ S (h b hb) ⟨ρ,hS,D,?_⟩;cases dst with
    | some d=>exact .cons ⟨rfl,Pd.bool⟩ p
    | none=>exact p
   split at h
   ·-- a map of functions
    rename_i m0 hmp;obtain ⟨v0,U,hv0⟩:=zq (n:=n) (ty:=ty) hT D p hmp;refine WO.y (φ:=fun v L=>v=v0/\L = w) (.inl ⟨_,_,U,rfl,rfl⟩) N fun v L ⟨e1,e2⟩=>?_;subst e1; subst e2;refine ih f _ H _ _ S (nB h) ⟨ρ,hS,D,?_⟩;cases dst with
    | some d=>exact .cons ⟨rfl,hv0⟩ p
    | none=>exact p
   split at h
   ·-- a step that changes nothing
    rename_i r hpv;obtain ⟨V,h⟩:=jw.1 h;refine WO.y (sH (ty:=ty) hT hO D p hpv V) N fun v w1 ⟨C,hv1,W⟩=>?_;refine ih f _ H _ _ S (eA.1 h W) ⟨ρ,hS.trans (Stp.kp D C),D.kp C,?_⟩;cases dst with
    | some d=>exact .cons ⟨rfl,hv1⟩ (p.kp C)
    | none=>exact p.kp C
   split at h
   ·rename_i r hst hsv;obtain ⟨V,h⟩:=jw.1 h;have key:∀ v L,eT G ro ρ w r F v L -> WO P Q n l f (jy dst v F) L:=by
     rintro v L ⟨ρ',k1,k2,k3,k4,k5⟩;refine ih f _ _ _ _ S (eA.1 h k5) ⟨ρ',hS.trans k1,k2,?_⟩;cases dst with
     | some d=>exact .cons ⟨rfl,k4⟩ k3
     | none=>exact k3
    rcases NN (ty:=ty) hT hO D p hsv V with hy | ⟨e,L,hsk,haf⟩
    ·exact WO.y hy N key
    cases dst with
    | some d=>simp [WJ,e] at hst
    | none=>exact WO.s hsk (key _ _ haf)
   exact h.elim
  rename_i g0 j wt;split at h
  ·rename_i r hgr;obtain ⟨V,h⟩:=jw.1 h;have:=Hg (tl:=[]) (G:=G) (Q:=Q) (n:=n) (l:=l) (ρ:=ρ) (H:=H) (nU hT hO m) hgr (fun _ _ e=>by cases e) V hd D p fun w1 C W hFd hfd hf1 hbd hdt=>by
    rw [adD];exact ih r.tail _ H _ _ hdt (eA.1 h W) ⟨ρ,hS.trans (Stp.kp D C),D.kp C,.cons ⟨rfl,Pd.bool⟩ hf1⟩
   rwa [adD] at this
  split at h
  ·-- a group,in two ways
   rename_i r B;obtain ⟨hon,c⟩:=h;unfold adV at B;split at B
   ·rename_i t hj;split at B
    ·rename_i e grp pk tail he hsp;split at B
     ·rename_i z x y d hck hpk hpd;cases B;simp only [Bool.and_eq_true] at hck;obtain ⟨⟨X,hpg⟩,I⟩:=hck;obtain ⟨hops,hip⟩:=pX hsp;replace hpg:=xK hpg;replace he:=dQ he;rw [hops] at hd;rw [hops];obtain ⟨vt,Y,hvr⟩:=eL p he;cases hvr with | bool=>
      obtain ⟨hd1,Z⟩:=nY.1 hd;have hd3:kD n tail=true:=by simp only [kD,Bool.and_eq_true] at Z; exact Z.2
      have hdd:Nat.blt d n=true:=kW Z pk aa d hpd;rw [hpd] at I;have hFd:look F d=none:=ij p I d rfl;obtain ⟨dst,op,ty,pos,af,pg⟩:=pk;simp only at hpk hpd hpg hon c;subst hpk; subst hpd; subst hpg;have hz:z = .tmp t:=by
       cases z <;> simp only [qa] at hip
       ·rw [aaA hip]
       all_goals cases hip
      subst hz;by_cases hew:e.val=wt
      ·rw [hew] at Y;refine WO.split (t:=t) hj Y (fun o ho d' hd' e=>?_) (ih _ _ H _ _ ?_ (hon ((BE.fD e wt).2 hew)) ⟨ρ,hS,D,p⟩)
       ·have:=ij p (tq X o ho) d' hd';rw [e,Y] at this; cases this
       refine nY.2 ⟨GD hd1,?_⟩;simp only [kD,Bool.and_eq_true] at Z ⊢;exact Z
      have J:e.val = !wt:=by revert hew; cases e.val <;> cases wt <;> simp
      have c:=c ((BE.fD e _).2 J);split at c
      ·rename_i v hv;refine mb (us:=[]) p hj Y J X hd1 aa ?_;obtain ⟨u,hu,hr⟩:=au p hv;have k:=ih tail ((d,v) :: fr) H ((d,u) :: F) _ hd3 c ⟨ρ,hS,D,.cons ⟨rfl,hr⟩ p⟩;have hl:ev F (.tmp t)=some (.bool e.val):=Y;cases wt with
       | true=>exact WO.v (R.CB hl J hu) hdd k
       | false=>exact WO.v (R.zM hl J hu) hdd k
      exact c.elim
     cases B
    cases B
   cases B
  exact h.elim
def eG (n:Nat):Code->Bool
 | .seq a b=>eG n a && eG n b
 | .cond _ a b=>eG n a && eG n b
 | .block _ a=>eG n a
 | .loop a=>eG n a
 | .scope a=>eG n a
 | .region _ c _=>kD n c.toList
 | _=>true
theorem Df {c:Cx} {ρ:List RE} {fr:AFr} {F:Fr} (h:FrR c ρ fr F):∀ l:List Nat,∃ a,FrR c ρ (dA fr l) a/\∀ i v,look a i=some v->look F i=some v
 | []=>⟨[],.nil,fun i v h=>by cases h⟩
 | t :: r=>by
  obtain ⟨a,d,m⟩:=Df h r;unfold dA;split
  ·rename_i v e;obtain ⟨u,o,f⟩:=eL h e;refine ⟨(t,u) :: a,.cons ⟨rfl,f⟩ d,fun i x g=>?_⟩;rw [aV] at g;grind
  grind
def Rw (P:Program) (T:List (Nat × TI)) (G:Gl) (O:bH) (n:Nat) (ro:Lv) (ρ0:List RE) (w0:World):Prop:=
 ∀ (Q:Exit->Act->World->Prop) (c id:Nat) (L:List (Nat × LI)) (a:Array Oper) (K:Exit->AFr->AH->Prop) (fr:AFr) (H:AH) (F:Fr) (w:World),kD n a.toList=true->jg T O ro c L (.region id a true) K fr H->St G ro ρ0 w0 fr H F w ->
  (∀ fr H F w,K .normal fr H->St G ro ρ0 w0 fr H F w->WX Q n .normal F w)->WC P Q n (.region id a true) F w
theorem yo (hT:bh P G.shp T) (hO:aw P G.shp O) (B:Rw P T G O n ro ρ0 w0) {k0:Nat} (C:ρ0.length<=k0) {L:List (Nat × LI)} :
  ∀ (c:Code) (Q:Exit->Act->World->Prop) (K:Exit->AFr->AH->Prop) (fr:AFr) (H:AH) (F:Fr) (w:World),eG n c=true->jg T O ro k0 L c K fr H->St G ro ρ0 w0 fr H F w ->
   (∀ e fr H F w,K e fr H->St G ro ρ0 w0 fr H F w->WX Q n e F w)->WC P Q n c F w:=by
 intro c;induction c <;> intro Q K fr H F w g h d hK
 case skip=>exact WC.skip (hK _ _ _ _ _ h d)
 case seq a b f p=>
  simp only [eG,Bool.and_eq_true] at g;refine WC.seq (f _ _ fr H F w g.1 h d fun e fr H F w h d=>?_);cases e with
  | normal=>exact WX.next (p _ _ fr H F w g.2 h d hK)
  | _=>exact hK _ fr H F w h d
 case cond c a b f p=>
  simp only [eG,Bool.and_eq_true] at g;obtain ⟨ρ,V,W,A⟩:=d;have d:St G ro ρ0 w0 fr H F w:=⟨ρ,V,W,A⟩;simp only [jg] at h;split at h
  ·rename_i D;obtain ⟨v,q,u⟩:=au A (dQ D);cases u with | bool=>
   exact WC.Ih q (f _ _ fr H F w g.1 h d hK)
  ·rename_i D;obtain ⟨v,q,u⟩:=au A (dQ D);cases u with | bool=>
   exact WC.ae0 q (p _ _ fr H F w g.2 h d hK)
  ·rename_i e _ _ D;obtain ⟨v,q,u⟩:=au A (dQ D);cases u with | bool=>
   exact WC.cond q (fun X=>f _ _ fr H F w g.1 (h.1 ((BE.fD e true).2 X)) d hK) (fun X=>p _ _ fr H F w g.2 (h.2 ((BE.fD e false).2 X)) d hK)
  grind
 case block i a f=>
  refine WC.block (f _ _ fr H F w g h d fun e fr H F w h d=>?_);cases e with
  | exit j=>
   simp only at h;intro x o;show (if j=i then Q .normal x w else Q (.exit j) x w);cases Y:Nat.beq j i <;> rw [Y] at h
   ·have:j≠i:=by rintro rfl; simp at Y
    rw [if_neg this];exact hK _ fr H F w h d x o
   rw [if_pos (aaA Y)];exact hK _ fr H F w h d x o
  | _=>exact hK _ fr H F w h d
 case loop a f=>
  simp only [jg] at h;split at h
  ·rename_i I hI;split at h
   ·rename_i m l _;intro x o;refine sV (fun N w m=>∃ fr H F,aco (jg T O ro k0 L a) K l m fr H/\M n F N /\ St G ro ρ0 w0 fr H F w) id m ⟨fr,H,F,h,o,d⟩ fun m N w B=>?_;obtain ⟨fr,H,F',hu,Z,y⟩:=B;cases m with
    | zero=>exact hu.elim
    | succ m=>
     obtain ⟨k,V,W,A⟩:=y;obtain ⟨S,r,U⟩:=Df A l;exact f _ _ _ _ S w g hu ⟨k,V,W,r⟩ (fun e fr H F w h d=>by
      cases e with
      | normal=>exact fun x o=>⟨m,⟨fr,H,F,h,o,d⟩,Nat.lt_succ_self m⟩
      | _=>exact hK _ fr H F w h d) N (Z.sub U)
   obtain ⟨s0,q,u,t⟩:=h;obtain ⟨hr0,t⟩:=LI.ET.1 t;intro x o;obtain ⟨S,h7,h8⟩:=gz hT C d q;refine sV (fun a w s=>I.J s/\I.rel s0 s/\∃ F,M n F a/\St G ro ρ0 w0 (I.F s).1 (I.F s).2 F w) I.μ s0 ⟨u,hr0,S,o.sub h8,h7⟩ fun s N w B=>?_;obtain ⟨hJ,hrl,F',Z,y⟩:=B;exact f _ _ _ _ F' w g (LI.Vs.1 (t s hJ) hrl) y (fun e fr H F w h d=>by
    cases e with
    | normal=>
     obtain ⟨s',h4,h5,h6⟩:=h;obtain ⟨h9,h6⟩:=LI.ET.1 h6;obtain ⟨S,h7,h8⟩:=gz hT C d h4;exact fun x o=>⟨s',⟨h5,h9,S,o.sub h8,h7⟩,h6⟩
    | _=>exact hK _ fr H F w h d) N Z
  exact h.elim
 case exit i=>exact WC.exit (hK _ _ _ _ _ h d)
 case ret=>exact WC.ret (hK _ _ _ _ _ h d)
 case scope a f=>
  refine fun x o=>Kd (f (Exit.noGoto Q) _ fr H F w g h d (fun e fr H F w h d=>?_) x o);cases e with
  | goto i=>exact h.elim
  | _=>exact hK _ fr H F w h d
 case label i=>exact WC.label (hK _ _ _ _ _ h d)
 case region i z b=>
  cases b with
  | true=>exact B Q k0 i L z K fr H F w g h d fun fr H F w=>hK _ fr H F w
  | false=>
   have e:z=z.toList.toArray:=by simp
   rw [e];exact WC.region (lL hT hO (fun fr H F w=>hK _ fr H F w) _ _ fr H F w g h d)
 all_goals exact h.elim
end
def aa3 (n:Nat) (a:List (Nat × Nat)):Nat->Nat->List Nat
 | _,0=>[]
 | k,m+1=>Gf n a k :: aa3 n a (k+1) m
def kN:AO->Bool
 | .row _ _ _=>true
 | _=>false
def idR (a:AH) (c:List (Nat × Nat)):Nat->Nat->List Nat
 | _,0=>[]
 | k,m+1=>(bif kN (getO a k) then Gf k c k else k) :: idR a c (k+1) m
def Kw (e:AH) (a:Nat) (H:AH) (l g:List TV1) (d:AH):Nat->List (Nat × Nat)->List Nat
 | 0,c=>idR e c 0 a++aa3 H.length c a (d.length - a)
 | f+1,c=>Kw e a H l g d f (GK l g++Od H (idR e c 0 a++aa3 H.length c a (d.length - a)) d)
def ab7 (T:List (Nat × TI)) (d:AH) (e:Nat) (f:Func) (a:List TV1) (c:AH) (fr:AFr) (H:AH):List Prop:=
 match vk T fr H f.results.toList with
 | some l=>match Kw d e H l a c 3 [] with
  | σ=>same (na H.length σ)++Bg H H.length σ l a++eqH T H H.length σ σ c
 | none=>[False]
def endE (T:List (Nat × TI)) (a:AH) (c:Nat) (d:Func) (e:List TV1) (f:AH) (fr:AFr) (H:AH):Prop:=jn (ab7 T a c d e f fr H)
def wpB (b:Bool) (T:List (Nat × TI)) (O:bH) (L:List (Nat × LI)) (a:Func) (args:List TV1) (H:AH) (d:List TV1) (f:AH):Prop:=
 match a.body with
 | some c=>lf (JN args) (jg T O (gR (bif b then H.length else 0)) H.length L c (fun e fr K=>match e with
  | .ret=>endE T (bif b then [] else H) H.length a d f fr K
  | .normal=>endE T (bif b then [] else H) H.length a d f fr K
  | _=>False) (tr 0 args) H)
 | none=>False
def wpE:=wpB false
def wpN:=wpB true
section
variable {P:Program} {T:List (Nat × TI)} {G:Gl} {O:bH} {n:Nat} {ρ:List RE} {H:AH} {w:World} {fr:AFr} {F:Fr}
theorem nX {c:Cx}:∀ {args:List TV1} {a:List Value} {k:Nat},All2 (dk c ρ) args a->FrR c ρ (tr k args) (wF k a)
 | [],_,_,h=>by cases h; exact .nil
 | _ :: _,_,_,h=>by cases h with | cons d e=>exact .cons ⟨rfl,d⟩ (nX e)
def Vt (c:Array Value):ResultVar->Sem Value
 | .tmp t=>pure (c.getD t undef)
 | .cell a t=>do loadVar t (<- asAddr (c.getD a undef))
def Lf {v u:Value} (h:aJ P 0 [] w (.load t (.const v)) 0 u w):(do loadVar t (<- asAddr v)).run P w = .ok u w:=by
 replace h:=h ⟨#[],[]⟩ none "" #[] none ⟨rfl,rfl,fun _ _ h=>by cases h⟩;have e:(⟨#[],[]⟩:Act).eval (.const v)=v:=rfl;simp only [execOp,e,Instr.loadAt] at h;cases v;case pointer a=>
  cases a with
  | none=>simp [Instr.sureAddr] at h
  | some a=>
   simp only [Instr.sureAddr,asAddr,pure_bind] at h ⊢;rw [Sem.run_bind] at h;cases c:(loadVar t a).run P w with
   | ok x d=>rw [c] at h; simp at h; rw [h.1,h.2]
   | halt x d=>rw [c] at h; simp at h
 all_goals simp [Instr.sureAddr] at h
theorem ua (hT:bh P G.shp T) (e:Rep G ρ H w) (f:FrR (cx G ρ w) ρ fr F) {a:Act} (g:M n F a):∀ {I:List ResultVar} {l:List TV1},vk T fr H I=some l ->
  ∃ d,All2 (dk (cx G ρ w) ρ) l d/\(I.mapM (Vt a.tmps)).run P w = .ok d w
 | [],l,h=>by cases h; exact ⟨[],.nil,rfl⟩
 | .tmp t :: r,l,h=>by
  simp only [vk] at h;split at h
  ·rename_i J K o q;cases h;obtain ⟨d,s,y⟩:=ua hT e f g q;obtain ⟨v,z,m⟩:=eL f o;refine ⟨v :: d,.cons m s,?_⟩;have A:=g.at_ z;simp [Vt,y,A]
  cases h
 | .cell p t :: r,l,h=>by
  simp only [vk] at h;split at h
  ·rename_i N K o q;split at h
   ·rename_i J Q c;cases h;obtain ⟨d,s,y⟩:=ua hT e f g q;obtain ⟨v,z,m⟩:=eL f o;obtain ⟨u,B,C⟩:∃ u,aJ P 0 [] w (.load t (.const v)) 0 u w/\Rt (cx G ρ w) ρ (.one J) u:=by
     unfold YD at c;split at c
     ·rename_i D;cases c;obtain ⟨u,B,C,_⟩:=qo (P:=P) (F:=[]) (n:=0) (ty:=0) (x:=.const v) hT e m rfl D aa;grind
     obtain ⟨u,B,C,_,_⟩:=Ah (P:=P) (F:=[]) (n:=0) (ty:=0) (x:=.const v) hT e m rfl c;grind
    have L:=Lf B;refine ⟨u :: d,.cons C s,?_⟩;have A:a.tmps.getD p undef=v:=(g.2.2 p v z).2;rw [List.mapM_cons,Sem.run_bind];simp only [Vt,A,L];simp [y]
   cases h
  cases h
variable {fn:Func}
def kI (hT:bh P G.shp T) (f:Rep G ρ H w) (g:FrR (cx G ρ w) ρ fr F) {a:Act} (m:M n F a) {l:List TV1} (h:vk T fr H fn.results.toList=some l) :
  ∃ c,All2 (dk (cx G ρ w) ρ) l c/\(results fn a.tmps).run P w = .ok (AZ c) w:=by
 obtain ⟨c,o,p⟩:=ua hT f g m h;refine ⟨c,o,?_⟩;have e:results fn a.tmps=(do let d <- fn.results.mapM (Vt a.tmps); pure (if h:d.size=1 then d[0] else .tuple d)):=rfl;have q:fn.results=fn.results.toList.toArray:=by simp
 rw [e,q,List.mapM_toArray];simp only [Sem.run_bind,p,map_eq_pure_bind];cases c with
 | nil=>rfl
 | cons u c=>
  cases c with
  | nil=>rfl
  | cons s c=>rfl
def xM (h:i<k):Nat.ble k i=false:=by
 rw [<- Bool.not_eq_true,Nat.ble_eq]; omega
def wu {m:Nat} (h:k<=m) (i:Nat) (a:(gR k).wr i=false\/(gR k).mv i=false):i<m:=by
 have:Nat.ble k i=false:=a.elim id id;rw [<- Bool.not_eq_true,Nat.ble_eq] at this; omega
def yH (P:Program) (shp:TypeId->Option Sh) (T:List (Nat × TI)) (O:bH):Prop:=∀ (G:Gl) (n:Nat) (c:Lv) (a:List RE) (d:World),G.shp=shp->(∀ i,c.wr i=false\/c.mv i=false->i<a.length)->Rw P T G O n c a d
variable {args rs:List TV1} {pre:List Prop} {f:Nat} {L:List (Nat × LI)} {shp:TypeId->Option Sh}
theorem Sat.acb (hT:bh P shp T) (W:aw P shp O) (X:yH P shp T O) (s:P.funcs[f]? = some fn) (D:(fn.name == "runtime.NumGoroutine")=false)
  (p:(match fn.body with
   | some c=>eG fn.ntmps c && Nat.ble args.length fn.ntmps
   | none=>false)=true) (h:XN T O L fn args H rs):Sat P shp f args H ⟨pre,rs,none,false⟩:=by
 cases g:fn.body with
 | none=>rw [g] at p; cases p
 | some c=>
 rw [g] at p;simp only [Bool.and_eq_true] at p;refine ⟨⟨fn,s,D,by rw [g]; rfl⟩,?_⟩;intro G ρ w t u q m;subst u;simp only [XN,g] at h;have h:=eA.1 h (Tx.pC m);refine jS.enter s g rfl (by rw [<- m.length]; exact p.2) rfl (yo hT W (X G _ _ ρ w rfl (wu (by rw [<- q.obj.length]; exact Nat.le_refl _))) (k0:=H.length) (by rw [<- q.obj.length]; exact Nat.le_refl _) c _ _ _ H _ w p.1 h ⟨ρ,Stp.refl _ _ _,q,nX m⟩ ?_);intro e fr I F A hK J;obtain ⟨K,o,y,Y⟩:=J;have z:∀ {l},vk T fr I fn.results.toList=some l->jn (Bg I I.length (iota 0 H.length) l rs)->∀ a,M fn.ntmps F a->a.defers=[]/\∃ v,(results fn a.tmps).run P A = .ok v A /\ ∃ x,Ending.returned v = .returned x/\∃ B,x=AZ B/\Kp [] w A /\ All2 (dk (cx G ρ A) ρ) rs B:=by
  intro l d Z a U;obtain ⟨B,j,n⟩:=kI hT y Y U d;refine ⟨U.1,_,n,_,rfl,B,rfl,?_,?_⟩
  ·refine ⟨o.ext.os,o.ext.tape,o.ext.output,o.ext.size,fun b g _=>?_⟩;by_cases d:live ρ b
   ·obtain ⟨i,r,C,N⟩:=d;exact (o.pro i r (xM (by rw [q.obj.length]; exact (aad.1 C).1)) C).2 b N
   exact (o.ext.old b g d).2
  have C:=oD y rfl j (eH.1 Z);have N:cT K (iota 0 H.length)=ρ:=by
   refine List.ext_getElem? fun i=>?_;by_cases Q:i<H.length
   ·have V:i<ρ.length:=by rw [<- q.obj.length]; exact Q
    rw [List.getElem?_eq_getElem V];exact dz (by have:=xp (k:=0) Q; rwa [adz] at this) (o.pro i _ (xM Q) (List.getElem?_eq_getElem V)).1
   rw [List.getElem?_eq_none (by simp [cT,Ck]; omega),List.getElem?_eq_none (by rw [<- q.obj.length]; omega)]
  rwa [N] at C
 cases e with
 | ret=>
  simp only at hK;split at hK
  ·rename_i l d; exact fun a S=>z d hK a S
  grind
 | normal=>
  simp only at hK;split at hK
  ·rename_i l d; exact fun a S=>z d hK a S
  exact hK.elim
 | _=>exact hK.elim
theorem RS {c:AH} {ps:List (Nat × Nat)}:∀ {m k i:Nat},i<m->kN (getO c (k+i))=false->(idR c ps k m)[i]? = some (k+i)
 | m+1,k,0,_,a=>by
  rw [aln] at a;simp [idR,a]
 | m+1,k,i+1,h,a=>by
  have:=RS (ps:=ps) (m:=m) (k:=k+1) (i:=i) (Nat.lt_of_succ_lt_succ h) (by rw [show k+1+i=k+(i+1) by omega]; exact a);rw [show k+(i+1)=k+1+i by omega,<- this]; rfl
theorem oF {a:AH} {c:Nat} {K:AH} {l rs:List TV1} {e:AH} {i:Nat} (h:i<c) (d:kN (getO a i)=false):∀ (f:Nat) (ps:List (Nat × Nat)),(Kw a c K l rs e f ps)[i]? = some i
 | 0,ps=>by
  show (idR a ps 0 c++_)[i]? = _;have:=RS (ps:=ps) (k:=0) h (by rw [adz]; exact d);grind
 | f+1,ps=>oF h d f _
variable {b:Bool}
theorem Xy (c:Rep G ρ H w) {g:Nat} (d:ρ[i]? = some (.blk g)):kN (getO (bif b then [] else H) i)=false:=by
 cases b
 ·show kN (getO H i)=false;cases e:getO H i with
  | row t s m=>
   obtain ⟨r,a,h⟩:=c.at_ (bN e aa);rw [d] at a; cases a;obtain ⟨_,_,h | ⟨_,_,_,_,h,_⟩⟩:=h
   ·grind
   cases h
  | _=>rfl
 show kN (getO [] i)=false;simp [getO,kN]
def Sat.Lc {C:AH} (hT:bh P shp T) (k:aw P shp O) (n:yH P shp T O) (D:P.funcs[f]? = some fn) (U:(fn.name == "runtime.NumGoroutine")=false)
  (z:(match fn.body with
   | some c=>eG fn.ntmps c && Nat.ble args.length fn.ntmps
   | none=>false)=true) (h:wpB b T O L fn args H rs C):Sat P shp f args H ⟨pre,rs,some C,b⟩:=by
 cases m:fn.body with
 | none=>rw [m] at z; cases z
 | some c=>
 rw [m] at z;simp only [Bool.and_eq_true] at z;refine ⟨⟨fn,D,U,by rw [m]; rfl⟩,?_⟩;intro G ρ w vs I A s;subst I;simp only [wpB,m] at h;have h:=eA.1 h (Tx.pC s);refine jS.enter D m rfl (by rw [<- s.length]; exact z.2) rfl (yo hT k (n G _ _ ρ w rfl (wu (by cases b <;> simp [A.obj.length]))) (k0:=H.length) (by rw [<- A.obj.length]; exact Nat.le_refl _) c _ _ _ H _ w z.1 h ⟨ρ,Stp.refl _ _ _,A,nX s⟩ ?_);intro e fr K F B hK V;obtain ⟨d,o,u,t⟩:=V;have J:endE T (bif b then [] else H) H.length fn rs C fr K->∀ a,M fn.ntmps F a->a.defers=[]/\∃ v,(results fn a.tmps).run P B = .ok v B /\ ∃ x,Ending.returned v = .returned x/\∃ Q,x=AZ Q /\
   ∃ d,Rep G d C B /\ Ext ρ w d B /\ (∀ (i g:Nat),ρ[i]? = some (.blk g)->d[i]? = some (.blk g))/\All2 (dk (cx G d B) d) rs Q/\(b=true->Kp [] w B /\ ∀ (i:Nat) (q:RE),ρ[i]? = some q->d[i]? = some q):=by
  intro hE a Z;unfold endE ab7 at hE;split at hE
  ·rename_i l S;obtain ⟨Q,h1,h2⟩:=kI hT u t Z S;replace hE:=eH.1 hE;refine ⟨Z.1,_,h2,_,rfl,Q,rfl,cT d (Kw (bif b then [] else H) H.length K l rs C 3 []),?_,ov o.ext,fun i g W=>?_,?_,fun m=>?_⟩
   ·exact ot hT u rfl (bM.1 fun p N=>hE p (ady _ (ady _ N))) fun p N=>hE p (adA _ N)
   ·exact dz (oF (by rw [A.obj.length]; exact (aad.1 W).1) (Xy A W) _ _) (o.bx i g W)
   ·exact oD u rfl h1 fun p N=>hE p (ady _ (adA _ N))
   subst m;have y:∀ (i:Nat) (q:RE),ρ[i]? = some q->i<H.length:=fun i q h=>by rw [A.obj.length]; exact (aad.1 h).1
   refine ⟨⟨o.ext.os,o.ext.tape,o.ext.output,o.ext.size,fun b m _=>?_⟩,fun i q X=>?_⟩
   ·by_cases S:live ρ b
    ·obtain ⟨i,r,j,h4⟩:=S;exact (o.pro i r (xM (y i r j)) j).2 b h4
    exact (o.ext.old b m S).2
   exact dz (oF (y i q X) rfl _ _) (o.pro i q (xM (y i q X)) X).1
  exact (show False from hE).elim
 cases e with
 | ret=>exact fun a Y=>J hK a Y
 | normal=>exact fun a Y=>J hK a Y
 | _=>exact hK.elim
end
theorem iS:∀ {ds:List DV} {i:Nat},xZ ds i=ds[i]?
 | [],_=>rfl
 | _ :: _,0=>rfl
 | _ :: r,i+1=>by simpa [xZ] using iS (ds:=r) (i:=i)
theorem fu {sl:List Nat}:∀ {ds:List DV} {k j:Nat},j ∈ ei sl k ds↔∃ i a,j=k+i/\ds[i]? = some a/\a.d ∈ sl
 | [],k,j=>by simp [ei]
 | a :: r,k,j=>by
  have g:=fu (sl:=sl) (ds:=r) (k:=k+1) (j:=j);have c:(∃ i b,j=k+i/\(a :: r)[i]? = some b/\b.d ∈ sl)↔(j=k/\a.d ∈ sl)\/j ∈ ei sl (k+1) r:=by
   rw [g];constructor
   ·grind
   rintro (⟨m,f⟩ | ⟨i,b,m,f,o⟩)
   ·simp_all
   exact ⟨i+1,b,aI,by simpa using f,o⟩
  rw [c,show ei sl k (a :: r)=(bif cf a.d sl then k :: ei sl (k+1) r else ei sl (k+1) r) from rfl];cases e:cf a.d sl
  ·have:a.d ∉ sl:=fun h=>by rw [bz.2 h] at e; cases e
   simp [this]
  simp [bz.1 e]
def KU (c:List DV) (d:List (Nat × Bool)):Prop:=∀ q ∈ d,∃ a e,c[q.1]? = some a/\a.v=one (.bool e)/\e.val=q.2
theorem rq {c:List DV}:∀ {o:List (Nat × Bool)} {g:BE},SF c o=some g->(g.val=true↔KU c o)/\∀ q ∈ o,∃ a e,c[q.1]? = some a/\a.v=one (.bool e)
 | [],g,h=>by cases h; simp [BE.val,KU]
 | (j,d) :: r,g,h=>by
  simp only [SF,iS] at h;split at h
  ·rename_i a A w x;split at h
   ·rename_i e p;cases h;obtain ⟨s,y⟩:=rq x;have p:=adC (dQ p);refine ⟨?_,fun q hq=>?_⟩
    ·have z:KU c ((j,d) :: r)↔e.val=d/\KU c r:=by
      constructor
      ·intro h;refine ⟨?_,fun q hq=>h q (by simp [hq])⟩;obtain ⟨B,C,f,m,u⟩:=h (j,d) aa;simp only at f u;rw [w] at f; cases f;rw [p] at m;cases m;exact u
      rintro ⟨f,m⟩ q hq;rcases ado.1 hq with rfl | hq
      ·grind
      exact m q hq
     rw [z,<- s];cases d <;> simp [BE.val]
    grind
   cases h
  cases h
variable {ds:List DV}
theorem xn {a:DV} (h:(ds.take i)[j]? = some a):ds[j]? = some a/\j<i:=by grind
theorem zA {ds:List DV} {i:Nat}:∀ {c:List (Nat × Bool)} {g:BE},SF (ds.take i) c=some g->SF ds c=some g
 | [],g,h=>h
 | (j,f) :: r,g,h=>by
  simp only [SF,iS] at h ⊢;split at h
  ·rename_i a m d e;rw [(xn d).1,zA e];exact h
  cases h
theorem wC:∀ {x y:List (Nat × Bool)},qF x y=true->∀ q ∈ x,q ∈ y
 | (i,a) :: r,(j,b) :: l,h,q,hq=>by
  simp only [qF,Bool.and_eq_true] at h;have c:=aaA h.1.1;rcases ado.1 hq with rfl | hq
  ·grind
  exact abM _ (wC h.2 q hq)
def yj {x y:List (Nat × Bool)} (h:qF x y=true) (k:KU ds y):KU ds x:=fun q a=>k q (wC h q a)
theorem wG (g:BE):(Cu g).val=g.val:=by fun_induction Cu g <;> simp_all [BE.val]
variable {e:BE}
def EN {ob:List Prop} (h:∀ p ∈ lU e ob,p) (a:e.val=true):∀ p ∈ ob,p:=by
 unfold lU at h;split at h
 ·simp
 split at h
 ·exact h
 exact eH.1 (dY h ((BE.fD e true).2 a))
def uN {ob:List Prop} (h:e.val=true->∀ p ∈ ob,p):∀ p ∈ lU e ob,p:=by
 unfold lU;split
 ·simp
 split
 ·exact h rfl
 intro q a;rw [abL.1 a];exact fun c=>eH.2 (h ((BE.fD e true).1 c))
section
variable {P:Program} {T:List (Nat × TI)} {G:Gl} {O:bH} {n k:Nat} {l:List Oper} {ρ:List RE} {H:AH} {fr:AFr} {F:Fr} {ds:List DV} {vs:Nat->Value}
def DVal (G:Gl) (ρ:List RE) (ds:List DV) (a:DV) (u:Value) (w:World):Prop:=(∀ p ∈ a.fc,p)/\(KU ds a.ch->Rt (cx G ρ w) ρ a.v u)/\(¬ KU ds a.ch->u=undef)
variable {a:DV} {w:World}
def DVal.kp {u:Value} {c:World} (h:DVal G ρ ds a u w) (k:Kp [] w c):DVal G ρ ds a u c:=⟨h.1,fun d=>(h.2.1 d).carry (Kp.le k) (kB.refl _),h.2.2⟩
theorem yY {vs:Nat->Value} {t c:Nat} (o:idst l c=some t):∀ {deps:List Nat},(∀ j ∈ deps,∃ d,idst l j=some d)->(∀ j ∈ deps,idst l j=some t->j=c)->c ∈ deps->look (dE l F vs deps) t=some (vs c)
 | j :: r,m,p,h=>by
  obtain ⟨d,q⟩:=m j aa;simp only [dE,q];rw [aV];by_cases f:d=t
  ·grind
  rw [if_neg f];refine yY o (fun j g=>m j (by simp [g])) (fun j g=>p j (by simp [g])) ?_;grind
theorem HT {w:World} {p:List DV} (c:FrR (cx G ρ w) ρ fr F):∀ {deps:List Nat},(∀ j ∈ deps,∃ b,p[j]? = some b/\idst l j=some b.d/\Rt (cx G ρ w) ρ b.v (vs j))->FrR (cx G ρ w) ρ (Su p fr deps) (dE l F vs deps)
 | [],_=>c
 | j :: r,h=>by
  obtain ⟨b,f,g,m⟩:=h j aa;simp only [Su,iS,f,dE,g];exact .cons ⟨rfl,m⟩ (HT c fun j o=>h j (by simp [o]))
theorem vG {p:List DV} {c:List (Nat × Bool)}:∀ {deps:List Nat},yd p c deps=true->∀ j ∈ deps,∃ b,p[j]? = some b/\qF b.ch c=true
 | i :: r,h,j,hj=>by
  simp only [yd,iS,Bool.and_eq_true] at h;rcases ado.1 hj with rfl | hj
  ·grind
  exact vG h.2 j hj
structure DCtx (G:Gl) (ρ:List RE) (l:List Oper) (ds:List DV) (vs:Nat->Value) (p:List DV) (deps:List Nat) (w:World):Prop where
 pre:∀ (j:Nat) (a:DV),p[j]? = some a->ds[j]? = some a
 dst:∀ (j:Nat) (a:DV),ds[j]? = some a->idst l j=some a.d
 dist:∀ (i j:Nat) (a b:DV),ds[i]? = some a->ds[j]? = some b->a.d=b.d->i=j
 dep:∀ j ∈ deps,∃ a,p[j]? = some a/\DVal G ρ ds a (vs j) w
theorem DCtx.look {p:List DV} {deps:List Nat} {w:World} (h:DCtx G ρ l ds vs p deps w) {j:Nat} (m:j ∈ deps) {a:DV} (g:p[j]? = some a):look (dE l F vs deps) a.d=some (vs j):=by
 refine yY (h.dst j a (h.pre j a g)) (fun i f=>?_) (fun i f o=>?_) m
 ·obtain ⟨b,c,_⟩:=h.dep i f;exact ⟨_,h.dst i b (h.pre i b c)⟩
 obtain ⟨b,c,_⟩:=h.dep i f;have:=h.dst i b (h.pre i b c);rw [o] at this;exact h.dist i j b a (h.pre i b c) (h.pre j a g) (adC this).symm
variable {ty:TypeId} {deps:List Nat} {ch:List (Nat × Bool)}
theorem wR {Q:Exit->Act->World->Prop} {p:List DV} (h:DCtx G ρ l ds vs p deps w) {gd:Option (Nat × Bool)} {N:List Nat} {g:BE} (c:Ej p gd=some (ch,N)) (C:∀ (j:Nat) (a:DV),p[j]? = some a->a.d ∈ N->j ∈ deps) (i:SF ds ch=some g)
  {d:Nat} {S:Op} {s:String} {U:Array Edge} (V:Nat.blt d n=true)
  (on:KU ds ch->WO P Q n l [⟨some d,S,ty,s,U,none⟩] (dE l F vs deps) w) (v:¬ KU ds ch->WO P Q n l [] ((d,undef) :: dE l F vs deps) w):WO P Q n l [⟨some d,S,ty,s,U,gd⟩] (dE l F vs deps) w:=by
 cases gd with
 | none=>
  cases c;exact on fun q hq=>by simp at hq
 | some q=>
  obtain ⟨j,A⟩:=q;simp only [Ej,iS] at c;split at c
  ·rename_i a m;cases c;have W:=C j a m aa;have x:=h.look (F:=F) W m;obtain ⟨r,y,X⟩:=h.dep j W;rw [m] at y; cases y;obtain ⟨b,e,D,I⟩:=(rq i).2 (j,A) aa;simp only at D;rw [h.pre j a m] at D; cases D;have J:=h.dst j a (h.pre j a m);by_cases f:KU ds a.ch
   ·have z:=X.2.1 f;rw [I] at z;obtain ⟨K,o⟩:∃ K,vs j = .bool K/\K=e.val:=by
     have z:Pd (cx G ρ w) (.bool e) (vs j):=z;generalize vs j=u at z;cases z;grind
    obtain ⟨o,rfl⟩:=o;rw [o] at x;by_cases B:e.val=A
    ·exact WO.on J x B (on fun q hq=>by
      rcases abx.1 hq with hq | hq
      ·exact f q hq
      rw [abL.1 hq];exact ⟨a,e,h.pre j a m,I,B⟩)
    refine WO.off J x (by revert B; cases e.val <;> cases A <;> simp) V (v fun c=>?_);obtain ⟨b,t,L,Y,Z⟩:=c (j,A) aa;simp only at L Z;rw [h.pre j a m] at L; cases L;rw [I] at Y; cases Y;exact B Z
   have k:=X.2.2 f;rw [k] at x;exact WO.acV J x V (v fun c=>f fun q hq=>c q (by simp [hq]))
  cases c
variable {x:Operand}
def LA {v:Value} (h:ev [] x=some v):ev F x=some v:=by
 cases x with
 | tmp i=>cases h
 | _=>exact h
theorem PF {p:List DV} (h:DCtx G ρ l ds vs p deps w) (U:KU ds ch) {t:Nat} {y:Operand} {v:BE} (g:OP p ch t x y=some v) (I:∀ (j:Nat) (a:DV),p[j]? = some a->a.d=t\/a.d ∈ Operand.sl x\/a.d ∈ Operand.sl y->j ∈ deps) :
  aJ P n (dE l F vs deps) w (.pick (.tmp t) x y) ty (.bool v.val) w:=by
 unfold OP at g;split at g
 ·rename_i Q T;split at g
  ·rename_i c S;rw [iS] at S;split at g
   ·rename_i e O V;split at g
    ·rename_i W hjx;split at g
     ·rename_i a X;rw [iS] at X;split at g
      ·rename_i hpa;have Y:c.d=t:=by
        obtain ⟨i,b,K,A,L⟩:=fu.1 (show Q ∈ ei [t] 0 p by rw [T]; simp);rw [adz] at K; subst K;rw [S] at A; cases A;simpa using L
       have Z:=I Q c S (.inl Y);have hl:=h.look (F:=F) Z S;rw [Y] at hl;have O:=adC (dQ O);have B:look (dE l F vs deps) t=some (.bool e.val):=by
        obtain ⟨c',k,hv⟩:=h.dep Q Z;rw [S] at k; cases k;have s:=hv.2.1 (yj V U);rw [O] at s;have s:Pd (cx G ρ w) (.bool e) (vs Q):=s;rw [hl];generalize vs Q=u at s;cases s;rfl
       have C:e.val=ku x->∀ z,q_ (some a.v)=some z->ev (dE l F vs deps) (cond (ku x) x y)=some (.bool z.val):=by
        intro hw z D;have D:=adC (dQ D);have r:=fu.1 (show W ∈ ei (Operand.sl (cond (ku x) x y)) 0 p by rw [hjx]; simp);obtain ⟨i,b,K,A,L⟩:=r;rw [adz] at K; subst K;rw [X] at A; cases A;have J:=I W a X (.inr (by
         cases hx:ku x <;> rw [hx] at L
         ·grind
         exact .inl L))
        obtain ⟨a',H,hv⟩:=h.dep W J;rw [X] at H; cases H;have s:=hv.2.1 (yj hpa fun q hq=>by
         rcases abx.1 hq with hq | hq
         ·exact U q hq
         rw [abL.1 hq];exact ⟨c,e,h.pre Q c S,O,hw⟩)
        rw [D] at s;have s:Pd (cx G ρ w) (.bool z) (vs W):=s;have hl2:=h.look (F:=F) J X;generalize cond (ku x) x y=o at L ⊢;cases o <;> simp only [Operand.sl,abL,akB] at L;rw [<- L];show look _ a.d=_;rw [hl2];generalize vs W=u at s;cases s;rfl
       have m:∀ z,q_ (dq [] (cond (ku x) y x))=some z->ev (dE l F vs deps) (cond (ku x) y x)=some (.bool z.val):=by
        intro z D;obtain ⟨u,K,A⟩:=au (c:=cx G ρ w) (ρ:=ρ) (fr:=[]) (F:=[]) .nil (dQ D);have A:Pd (cx G ρ w) (.bool z) u:=A;cases A;exact LA K
       unfold HY at g;cases hx:ku x <;> rw [hx] at g C m <;> simp only [cond_true,cond_false] at C m g
       ·split at g
        ·grind
        ·rename_i z _ D N;cases g;cases f:e.val with
         | false=>rw [show (BE.or e z).val=z.val by simp [BE.val,f]]; exact R.CB (f ▸ B) rfl (C f z D)
         | true=>rw [show (BE.or e z).val=true by simp [BE.val,f]]; exact R.zM (f ▸ B) rfl (m _ N)
        cases g
       split at g
       ·rename_i z _ D N;cases g;cases f:e.val with
        | true=>rw [show (BE.and e z).val=z.val by simp [BE.val,f]]; exact R.zM (f ▸ B) rfl (C f z D)
        | false=>rw [show (BE.and e z).val=false by simp [BE.val,f]]; exact R.CB (f ▸ B) rfl (m _ N)
       ·contradiction
       cases g
      cases g
     cases g
    cases g
   cases g
  cases g
 cases g
theorem Ue (hT:bh P G.shp T) (X:aw P G.shp O) {p:List DV} {o:Oper} (c:t_ T O H fr p o=some a) (h:DCtx G ρ l ds vs p a.deps w) (K:∀ ch g,SF p ch=some g->SF ds ch=some g) (L:∀ q ∈ a.ob,q) (V:∀ d,o.dst=some d->Nat.blt d n=true) (Y:Rep G ρ H w) (Z:FrR (cx G ρ w) ρ fr F) :
  o.dst=some a.d/\WO P (qQ n (some a.d) [] (DVal G ρ ds a) w) n l [o] (dE l F vs a.deps) w:=by
 obtain ⟨dst,e,ty,i,af,gd⟩:=o;unfold t_ at c;split at c
 ·rename_i d ch k s z;simp only at s z;subst s;split at c
  ·rename_i g hg;have m:=K _ _ hg;have A:=V d rfl;split at c
   ·-- a pick
    rename_i t x y B;simp only at B;subst B;split at c
    ·rename_i v C;cases c;refine ⟨rfl,wR h z (fun j b u hb=>fu.2 ⟨j,b,aa,u,by simp [hb]⟩) m A (fun f=>?_) (fun f=>?_)⟩
     ·refine WO.v (PF h f C fun j b u hb=>fu.2 ⟨j,b,aa,u,?_⟩) A (WO.nil (WX.aK (v:=.bool v.val) (by rw [aV,if_pos rfl]) ⟨aa,fun _=>Pd.bool,fun h=>absurd f h⟩ (Kp.refl w)));simp only [Dw,Operand.sl,abx,abL];rcases hb with hb | hb | hb
      ·grind
      ·exact .inl (.inl (.inr hb))
      exact .inl (.inr hb)
     exact WO.nil (WX.aK (v:=undef) (by rw [aV,if_pos rfl]) ⟨aa,fun h=>absurd h f,fun _=>rfl⟩ (Kp.refl w))
    cases c
   split at c
   ·rename_i r D N;cases c;refine ⟨rfl,wR h z (fun j b u hb=>fu.2 ⟨j,b,aa,u,by simp [hb]⟩) m A (fun f=>?_) (fun f=>?_)⟩
    ·have Q:=(rq m).1.2 f;have S:=HT (l:=l) (vs:=vs) (F:=F) Z (p:=p) (deps:=ei (Dw e++k) 0 p) fun j u=>by
      obtain ⟨b,hb,I⟩:=vG D j u;obtain ⟨b',J,C⟩:=h.dep j u;rw [hb] at J; cases J;exact ⟨b,hb,h.dst j b (h.pre j b hb),C.2.1 (yj I f)⟩
     refine WO.y (sH (ty:=ty) hT X Y S N (EN L (by rw [wG]; exact Q))) V fun v w' ⟨hk,C,U⟩=>?_;exact WO.nil (WX.aK (v:=v) (by simp only [jy]; rw [aV,if_pos rfl]) ⟨uN fun _=>U,fun _=>C,fun h=>absurd f h⟩ hk)
    refine WO.nil (WX.aK (v:=undef) (by rw [aV,if_pos rfl]) ⟨uN fun W=>?_,fun h=>absurd h f,fun _=>rfl⟩ (Kp.refl w));rw [wG] at W;exact absurd ((rq m).1.1 W) f
   cases c
  cases c
 cases c
end
theorem cG {a:List Nat}:∀ {l:List Nat},disj a l=true↔∀ i ∈ l,i ∉ a
 | []=>by simp [disj]
 | j :: r=>by simp only [disj,Bool.and_eq_true,cG,aji,ag5,<- Bool.not_eq_true,bz]
theorem gY {n:Nat}:∀ {l:List Nat},oY n l=true↔∀ i ∈ l,i<n
 | []=>by simp [oY]
 | j :: r=>by
  simp [oY,gY]
theorem oo {σ:List Nat}:∀ {H:AH} {k p:Nat},(maskH σ k H)[p]? = (H[p]?).map fun o=>if k+p ∈ σ then o else .loc
 | [],_,_=>by simp [maskH]
 | o :: r,k,0=>by
  simp only [maskH,List.getElem?_cons_zero,Option.map_some,aln];cases h:cf k σ with
  | true=>rw [if_pos (bz.1 h)]; rfl
  | false=>rw [if_neg fun a=>by rw [bz.2 a] at h; cases h]; rfl
 | o :: r,k,p+1=>by
  simp only [maskH,ajm,oo];grind
theorem pV {σ:List Nat}:∀ {H:AH} {k:Nat},(maskH σ k H).length=H.length
 | [],_=>rfl
 | _ :: r,k=>by simp [maskH,pV (H:=r)]
def RC.obj (r:RC) (p:Nat) (o:AO):AO:=if p ∈ r.ch then (match r.ent with
 | some e=>e.put o
 | none=>getO r.res p) else killO r.mv o
theorem w_ {r:RC}:∀ {H:AH} {k p:Nat},(lr r.ch r.mv r.ent r.res k H)[p]? = (H[p]?).map (r.obj (k+p))
 | [],_,_=>by simp [lr]
 | o :: l,k,0=>by
  simp only [lr,List.getElem?_cons_zero,Option.map_some,aln,RC.obj];cases h:cf k r.ch with
  | true=>rw [if_pos (bz.1 h)]; cases r.ent <;> rfl
  | false=>rw [if_neg fun a=>by rw [bz.2 a] at h; cases h]; rfl
 | o :: l,k,p+1=>by
  simp only [lr,ajm,w_];grind
theorem iG {c d:List Nat} {e:Option Ent} {a:AH}:∀ {H:AH} {k:Nat},(lr c d e a k H).length=H.length
 | [],_=>rfl
 | _ :: r,k=>by simp [lr,iG (H:=r)]
def killTV (a:List Nat) (v:TV):TV:=match a with
 | []=>v
 | _ :: _=>v.mapA (AV.cq a)
theorem tT {g:AV->AV} {t:Nat}:∀ {fr:AFr},lookA (jh g fr) t=(lookA fr t).map (TV.mapA g)
 | []=>rfl
 | (i,v) :: r=>by
  simp only [jh,lookA];cases Nat.beq i t
  ·exact tT
  rfl
variable {t:Nat} {mv:List Nat}
theorem EM {fr:AFr}:lookA (NF mv fr) t=(lookA fr t).map (killTV mv):=by
 cases mv with
 | nil=>cases h:lookA fr t <;> simp [NF,killTV,h]
 | cons a r=>exact tT
variable {d:Option Nat}
theorem Kv {v:TV} {fr:AFr}:lookA (qZ d v fr) t=if d=some t then some v else lookA fr t:=by
 cases d with
 | none=>simp [qZ]
 | some d=>simp only [qZ,dD,Option.some.injEq]
structure RC.Fit (r:RC):Prop where
 base:r.base=r.H0.length
 le:r.base<=r.res.length
variable {r:RC}
def cm {q:AFr × AH} (h:r.Fit) (a:q.2.length=r.base):(r.app q).2.length=r.res.length:=by
 have:=h.le;simp only [RC.app,List.length_append,iG,List.length_drop]; omega
def gJ {q:AFr × AH} (h:r.Fit) (c:q.2.length=r.base) {p:Nat}:(r.app q).2[p]? = if p<r.base then (q.2[p]?).map (r.obj p) else r.res[p]?:=by
 simp only [RC.app];by_cases a:p<r.base
 ·rw [if_pos a,List.getElem?_append_left (by rw [iG]; omega),w_,adz]
 rw [if_neg a,ag_ (by rw [iG]; omega),iG,afX];congr 1; omega
def il {q:AFr × AH}:lookA (r.app q).1 t=if r.dst=some t then some r.v else (lookA q.1 t).map (killTV r.mv):=by
 simp only [RC.app,Kv,EM]
def RC.KO (r:RC) (q:AFr × AH):AFr × AH:=(q.1,q.2++List.replicate (r.res.length - r.base) .gone)
def gP {q:AFr × AH} (h:r.Fit) (a:q.2.length=r.base):(r.KO q).2.length=r.res.length:=by
 have:=h.le;simp only [RC.KO,List.length_append,ag6]; omega
theorem iE {q:AFr × AH} (h:r.Fit) (a:q.2.length=r.base) {p:Nat}:(r.KO q).2[p]? = if p<r.base then q.2[p]? else if p<r.res.length then some .gone else none:=by
 simp only [RC.KO];grind
def iX (s:Nat->Bool):Nat->List RC->AFr × AH->AFr × AH
 | _,[],q=>q
 | i,r :: a,q=>iX s (i+1) a (bif s i then r.app q else r.KO q)
def prg:List RC->AFr × AH->AFr × AH
 | [],q=>q
 | r :: a,q=>prg a (r.app q)
def fU:AFr × AH->List RC->Prop
 | _,[]=>True
 | q,r :: a=>r.fr0=q.1/\r.H0=q.2/\r.Fit/\fU (r.app q) a
theorem Iq {s:Nat->Bool}:∀ {a b:List RC} {k:Nat} {q:AFr × AH},iX s k (a++b) q=iX s (k+a.length) b (iX s k a q)
 | [],_,_,_=>by simp [iX]
 | r :: a,b,k,q=>by
  simp only [List.cons_append,iX,Iq (a:=a),List.length_cons];congr 1; omega
theorem pT {s c:Nat->Bool}:∀ {a:List RC} {k:Nat} {q:AFr × AH},(∀ i,k<=i->i<k+a.length->s i=c i)->iX s k a q=iX c k a q
 | [],_,_,_=>rfl
 | r :: a,k,q,h=>by
  simp only [iX];rw [h k (Nat.le_refl _) aa];exact pT fun i g f=>h i aI (by simp at f ⊢; omega)
theorem xu {s:Nat->Bool}:∀ {c:List RC} {k:Nat} {q p:AFr × AH},fU p c->q.2.length=p.2.length->(iX s k c q).2.length=(prg c p).2.length
 | [],_,_,_,_,h=>h
 | r :: c,k,q,p,g,h=>by
  obtain ⟨_,m,a,o⟩:=g;have f:=a.base;rw [m] at f;simp only [iX];refine xu o ?_;cases s k
  ·exact (gP a aI).trans (cm a f.symm).symm
  exact (cm a aI).trans (cm a f.symm).symm
theorem Em:∀ {a:List RC} {p:AFr × AH},fU p a->p.2.length<=(prg a p).2.length
 | [],_,_=>Nat.le_refl _
 | r :: a,p,g=>by
  obtain ⟨_,h,c,m⟩:=g;have f:=c.base;rw [h] at f;have:=Em m;rw [cm c f.symm] at this;have:=c.le;simp only [prg]; omega
theorem fU.Sw:∀ {a b:List RC} {p:AFr × AH},fU p (a++b)↔fU p a/\fU (prg a p) b
 | [],b,p=>by simp [fU,prg]
 | r :: a,b,p=>by simp only [List.cons_append,fU,prg,fU.Sw (a:=a),and_assoc]
theorem yK:∀ {a b:List RC} {p:AFr × AH},prg (a++b) p=prg b (prg a p)
 | [],_,_=>rfl
 | r :: a,b,p=>by simp only [List.cons_append,prg,yK (a:=a)]
def gD {a:AV} (h:∀ i ∈ a.rids,i ∉ mv):a.cq mv=a:=by
 have c:∀ j,j ∉ mv->cf j mv=false:=fun j f=>by rw [<- Bool.not_eq_true,bz]; exact f
 cases a with
 | own j=>simp [AV.cq,c j (h j (by simp [AV.rids]))]
 | sub j _ _=>simp [AV.cq,c j (h j (by simp [AV.rids]))]
 | elp j _ _=>simp [AV.cq,c j (h j (by simp [AV.rids]))]
 | _=>rfl
theorem jB {i:Nat}:∀ {l:List AV} {a:AV},a ∈ l->i ∈ a.rids->i ∈ sq l
 | b :: r,a,h,c=>by
  simp only [sq,abx];rcases ado.1 h with rfl | h
  ·grind
  exact .inr (jB h c)
theorem rM {g:AV->AV}:∀ {l:List AV},(∀ a ∈ l,g a=a)->sZ g l=l
 | [],_=>rfl
 | a :: r,h=>by simp only [sZ]; rw [h a aa,rM fun b c=>h b (by simp [c])]
def ui {g:AV->AV} {t:TV1} (h:∀ a ∈ t.cells,g a=a):t.mapA g=t:=by
 cases t with
 | c a=>simp only [TV1.mapA]; rw [h a (by simp [TV1.cells])]
 | agg l=>exact congrArg TV1.agg (rM h)
theorem wz {i:Nat}:∀ {l:List TV1} {t:TV1} {a:AV},t ∈ l->a ∈ t.cells->i ∈ a.rids->i ∈ HX l
 | b :: r,t,a,h,c,f=>by
  simp only [HX,abx];rcases ado.1 h with rfl | h
  ·exact .inl (jB c f)
  exact .inr (wz h c f)
theorem xV {g:AV->AV}:∀ {l:List TV1},(∀ t ∈ l,∀ a ∈ t.cells,g a=a)->xD g l=l
 | [],_=>rfl
 | a :: r,h=>by simp only [xD]; rw [ui (h a aa),xV fun b c=>h b (by simp [c])]
def pL {v:TV} (h:disj mv v.rids=true):killTV mv v=v:=by
 have h:=cG.1 h;cases mv with
 | nil=>rfl
 | cons m r=>
  cases v with
  | one t=>exact congrArg TV.one (ui fun a c=>gD fun i f=>h i (jB c f))
  | tup l=>exact congrArg TV.tup (xV fun t g a c=>gD fun i f=>h i (wz g c f))
  | un=>rfl
variable {o:AO}
theorem oL (h:disj mv o.rids=true):killO mv o=o:=by
 have h:=cG.1 h;cases mv with
 | nil=>rfl
 | cons m r=>
  cases o with
  | box t p=>exact congrArg (AO.box t) (rM fun a f=>gD fun i c=>h i (jB f c))
  | mapf l=>
   show AO.mapf (mapM _ l)=_;rw [rD];congr 1;refine (List.map_congr_left fun q g=>?_).trans (List.map_id _);have e:=gD (mv:=m :: r) (a:=q.2) fun i c=>h i (jB (alo g) c);grind
  | _=>rfl
variable {a b:List Nat}
def uv {x:AV}:(x.cq a).cq b=(x.cq b).cq a:=by
 cases x with
 | own j=>cases c:cf j a <;> cases f:cf j b <;> simp [AV.cq,c,f]
 | sub j _ _=>cases c:cf j a <;> cases f:cf j b <;> simp [AV.cq,c,f]
 | elp j _ _=>cases c:cf j a <;> cases f:cf j b <;> simp [AV.cq,c,f]
 | _=>rfl
theorem pn {g h:AV->AV}:∀ {l:List AV},sZ g (sZ h l)=sZ (fun a=>g (h a)) l
 | []=>rfl
 | a :: r=>by simp [sZ,pn (l:=r)]
variable {h:AV->AV}
theorem sB {g:AV->AV} {t:TV1}:(t.mapA h).mapA g=t.mapA fun a=>g (h a):=by
 cases t with
 | c a=>rfl
 | agg l=>simp [TV1.mapA,pn]
theorem vy {g h:AV->AV}:∀ {l:List TV1},xD g (xD h l)=xD (fun a=>g (h a)) l
 | []=>rfl
 | a :: r=>by simp [xD,sB,vy (l:=r)]
theorem CP {v:TV}:killTV b (killTV a v)=killTV a (killTV b v):=by
 cases a with
 | nil=>rfl
 | cons x r=>
  cases b with
  | nil=>rfl
  | cons y q=>
   have e:(fun z:AV=>(z.cq (x :: r)).cq (y :: q))=fun z=>(z.cq (y :: q)).cq (x :: r):=funext fun z=>uv;cases v with
   | one t=>simp only [killTV,TV.mapA,sB,e]
   | tup l=>simp only [killTV,TV.mapA,vy,e]
   | un=>rfl
theorem Ja {g:AV->AV}:mapM g (mapM h l)=mapM (fun a=>g (h a)) l:=by
 induction l with
 | nil=>rfl
 | cons q r c=>obtain ⟨k,a⟩:=q; simp [mapM,c]
def Eg:killO b (killO a o)=killO a (killO b o):=by
 cases a with
 | nil=>rfl
 | cons x r=>
  cases b with
  | nil=>rfl
  | cons y q=>
   have e:(fun z:AV=>(z.cq (x :: r)).cq (y :: q))=fun z=>(z.cq (y :: q)).cq (x :: r):=funext fun z=>uv;cases o with
   | box t c=>simp only [killO,AO.mapA,pn,e]
   | mapf l=>simp only [killO,AO.mapA,Ja,e]
   | _=>rfl
def tV:killO a .gone = .gone:=by cases a <;> rfl
inductive AOq:AO->AO->Prop
 | rfl {o:AO}:AOq o o
 | map {l l':List (Int × AV)}:(∀ k,lookF k l=lookF k l')->AOq (.mapf l) (.mapf l')
variable {o':AO}
def AOq.or {c:Cx} {r:RE} (h:AOq o o') (k:OR c ρ o r):OR c ρ o' r:=by
 cases h with
 | rfl=>exact k
 | map f=>
  obtain ⟨g,e,a,n,m,p,q⟩:=k;exact ⟨g,e,a,n,m,p,fun k=>by rw [<- f]; exact q k⟩
def AOq.trans {a b c:AO} (h:AOq a b) (k:AOq b c):AOq a c:=by
 cases h with
 | rfl=>exact k
 | map h=>
  cases k with
  | rfl=>exact .map h
  | map k=>exact .map fun x=>(h x).trans (k x)
def AOq.symm {a b:AO} (h:AOq a b):AOq b a:=by
 cases h with
 | rfl=>exact .rfl
 | map h=>exact .map fun x=>(h x).symm
theorem pZ {g:AV->AV} {k:Int}:∀ {l:List (Int × AV)},lookF k (mapM g l)=(lookF k l).map g
 | []=>rfl
 | (j,a) :: r=>by
  simp only [mapM,lookF];by_cases h:k=j
  ·grind
  rw [if_neg h,if_neg h]; exact pZ
theorem AOq.kill (h:AOq o o'):AOq (killO mv o) (killO mv o'):=by
 cases h with
 | rfl=>exact .rfl
 | map h=>
  cases mv with
  | nil=>exact .map h
  | cons a r=>exact .map fun k=>by rw [pZ,pZ,h]
theorem AOq.put {e:Ent} {o o':AO} (h:AOq o o'):AOq (e.put o) (e.put o'):=by
 cases h with
 | rfl=>exact .rfl
 | map h=>
  cases e with
  | fn k a=>exact .map fun j=>by simp only [lookF,h]
  | da s k x=>exact .map h
def Lh {j k:Int} {b:AV} {s:Sh} {x:den s}:(Ent.fn j b).put ((Ent.da s k x).put o)=(Ent.da s k x).put ((Ent.fn j b).put o):=by
 cases o with
 | mapo c g=>
  by_cases h:c = s
  ·subst h; simp only [Ent.put,alI]
  simp only [Ent.put,dif_neg h]
 | _=>rfl
variable {e:Ent}
theorem put_comm {f:Ent} (h:e.key≠f.key):AOq (f.put (e.put o)) (e.put (f.put o)):=by
 cases e with
 | fn k a=>
  cases f with
  | fn j b=>
   cases o with
   | mapf l=>
    refine .map fun i=>?_;simp only [lookF];have h:k≠j:=h;grind
   | _=>exact .rfl
  | da s j x=>rw [Lh]; exact .rfl
 | da s k x=>
  cases f with
  | fn j b=>rw [Lh]; exact .rfl
  | da q j y=>
   cases o with
   | mapo p g=>
    by_cases m:p = s
    ·by_cases c:p = q
     ·subst m; subst c;simp only [Ent.put,alI];have u:(fun i=>if i=j then some y else if i=k then some x else g i)=fun i=>if i=k then some x else if i=j then some y else g i:=by
       have h:k≠j:=h;grind
      rw [u];exact .rfl
     subst m;simp only [Ent.put,alI,dif_neg c];exact .rfl
    by_cases c:p = q
    ·subst c;simp only [Ent.put,dif_neg m,alI];exact .rfl
    simp only [Ent.put,dif_neg m,dif_neg c];exact .rfl
   | _=>exact .rfl
def BL (h:∀ k a,e = .fn k a->disj mv a.rids=true):killO mv (e.put o)=e.put (killO mv o):=by
 cases mv with
 | nil=>rfl
 | cons m r=>
  cases e with
  | fn k a=>
   cases o with
   | mapf l=>
    have:=gD (mv:=m :: r) (a:=a) (cG.1 (h k a rfl));simp only [killO,Ent.put,AO.mapA,mapM,this]
   | _=>rfl
  | da s k x=>
   cases o with
   | mapo c g=>
    by_cases h:c = s
    ·subst h; simp only [Ent.put,alI,killO,AO.mapA]
    simp only [Ent.put,dif_neg h,killO,AO.mapA]
   | _=>rfl
def kd:AO->Option (Option Sh)
 | .mapf _=>some none
 | .mapo s _=>some (some s)
 | _=>none
def xE:kd (e.put o)=kd o:=by
 cases e with
 | fn k a=>cases o <;> rfl
 | da s k x=>
  cases o with
  | mapo c g=>
   simp only [Ent.put];split
   ·rename_i h; subst h; rfl
   rfl
  | _=>rfl
def ru:kd (killO mv o)=kd o:=by cases mv <;> cases o <;> rfl
theorem zm {mv:List Nat}:∀ {H:AH} {k p:Nat} {o:AO},H[p]? = some o->k+p ∉ IX mv k H->disj mv o.rids=true
 | x :: r,k,0,o,h,c=>by
  simp only [IX] at c;grind
 | x :: r,k,p+1,o,h,c=>by
  refine zm (H:=r) (k:=k+1) (p:=p) (by simpa using h) fun f=>c ?_;simp only [IX];grind
theorem Ap {mv:List Nat}:∀ {fr:AFr} {t:Nat} {v:TV},lookA fr t=some v->t ∉ On mv fr->disj mv v.rids=true
 | (i,x) :: r,t,v,h,c=>by
  rw [dD] at h;simp only [On] at c;by_cases f:i=t
  ·grind
  rw [if_neg f] at h;refine Ap h fun g=>c ?_;grind
theorem oq {fr:AFr} {i t:Nat} {v:TV} (c:lookA fr t=some v) (f:i ∈ v.rids):∀ {U:List Nat},t ∈ U->i ∈ oS fr U
 | u :: r,h=>by
  simp only [oS,abx];rcases ado.1 h with rfl | h
  ·grind
  exact .inr (oq c f h)
theorem qE {fr:AFr} {i t:Nat} {v:TV} (c:lookA fr t=some v) (f:i ∈ v.ids):∀ {U:List Nat},t ∈ U->i ∈ slotIds fr U
 | u :: r,h=>by
  simp only [slotIds,abx];rcases ado.1 h with rfl | h
  ·grind
  exact .inr (qE c f h)
theorem iU {H:AH} {i p:Nat} (c:i ∈ (getO H p).rids):∀ {l:List Nat},p ∈ l->i ∈ lY H l
 | u :: r,h=>by
  simp only [lY,abx];rcases ado.1 h with rfl | h
  ·grind
  exact .inr (iU c h)
theorem uB {H:AH} {i p:Nat} (c:i ∈ (getO H p).ids):∀ {l:List Nat},p ∈ l->i ∈ objIds H l
 | u :: r,h=>by
  simp only [objIds,abx];rcases ado.1 h with rfl | h
  ·grind
  exact .inr (uB c h)
def n_ (h:r.Fit) {p:Nat}:p ∈ r.new↔r.base<=p/\p<r.res.length:=by
 rw [RC.new,OM]; omega
def gU {p:Nat} (h:H[p]? = some o):getO H p=o:=by unfold getO; rw [List.getD_eq_getElem?_getD,h]; rfl
structure OkD (a b:RC):Prop where
 dst:∀ d,b.dst=some d->d ∉ a.U
 chσ:∀ p ∈ a.σ,p ∉ b.ch
 chn:∀ p ∈ a.new,p ∉ b.ch
 nσ:∀ p ∈ a.σ,p ∉ b.new
 nch:∀ p ∈ a.ch,p ∉ b.new
 kp:∀ p ∈ a.σ,∀ o,b.H0[p]? = some o->killO b.mv o=o
 ks:∀ t ∈ a.U,∀ v,lookA b.fr0 t=some v->killTV b.mv v=v
 sl:∀ t ∈ a.U,∀ v,lookA a.fr0 t=some v->killTV b.mv v=v
 ob:∀ p ∈ a.σ,killO b.mv (getO a.H0 p)=getO a.H0 p
 v:killTV b.mv a.v=a.v
 rc:∀ p ∈ a.ch,killO b.mv (getO a.res p)=getO a.res p
 rn:∀ p ∈ a.new,killO b.mv (getO a.res p)=getO a.res p
 en:∀ k x,a.ent=some (.fn k x)->disj b.mv x.rids=true
def LW {l:List Nat}:disj [] l=true:=cG.2 fun _ _ h=>by simp at h
def nV {l c:List Nat} (h:disj mv l=true) (f:∀ i ∈ c,i ∈ l):disj mv c = true:=cG.2 fun i g=>cG.1 h i (f i g)
variable {a b:RC}
theorem He (h:okD a b=true):OkD a b:=by
 simp only [okD,Bool.and_eq_true] at h;obtain ⟨⟨⟨⟨⟨x,y⟩,z⟩,A⟩,B⟩,g⟩:=h;have q:∀ d,b.dst=some d->d ∉ a.U:=fun d q C=>by
  simp only [q,YY,bz.2 C] at x; cases x
 refine ⟨q,cG.1 y,cG.1 z,cG.1 A,cG.1 B,?_,?_,?_,?_,?_,?_,?_,?_⟩ <;> (cases s:b.mv with
  | nil=>intros; first | rfl | exact LW
  | cons m r=>?_) <;> (rw [s] at g; simp only [Bool.and_eq_true] at g; obtain ⟨⟨⟨⟨⟨⟨⟨D,F⟩,G⟩,I⟩,J⟩,K⟩,L⟩,O⟩:=g)
 ·intro p c o N;exact oL (zm (k:=0) N (by rw [adz]; exact cG.1 D p c))
 ·intro t u v w;exact pL (Ap w (cG.1 F t u))
 ·intro t u v w;exact pL (nV G fun i f=>oq w f u)
 ·intro p c;exact oL (nV I fun i f=>iU f c)
 ·exact pL J
 ·intro p c;exact oL (nV K fun i f=>iU f c)
 ·intro p c;exact oL (nV L fun i f=>iU f c)
 grind
def RC.ft {p:Nat} (h:p ∉ r.ch):r.obj p o=killO r.mv o:=by rw [RC.obj,if_neg h]
structure Agr (b:RC) (q p:AFr × AH):Prop where
 len:q.2.length=p.2.length
 ob:∀ x ∈ b.σ,q.2[x]? = p.2[x]?
 kd:∀ x ∈ b.ch,(q.2[x]?).map kd=(p.2[x]?).map kd
 sl:∀ t ∈ b.U,lookA q.1 t=lookA p.1 t
theorem yy (h:okI a b=true) {p:Nat} (c:p ∈ a.ch) (g:p ∈ b.ch):∃ e f,a.ent=some e/\b.ent=some f/\e.key≠f.key:=by
 unfold okI at h;split at h
 ·rename_i e f m q;simp only [Bool.or_eq_true] at h;rcases h with h | h
  ·exact absurd c (cG.1 h p g)
  grind
 exact absurd c (cG.1 h p g)
theorem HR {b:RC} {s:Nat->Bool}:∀ {A:List RC} {k:Nat} {q p:AFr × AH},fU p A->(∀ j r,A[j]? = some r->s (k+j)=true\/(OkD b r/\okI b r=true))->Agr b q p->Agr b (iX s k A q) (prg A p)
 | [],_,_,_,_,_,h=>h
 | r :: A,k,q,p,L,J,h=>by
  obtain ⟨N,K,g,O⟩:=L;have w:p.2.length=r.base:=by rw [<- K]; exact g.base.symm
  have m:q.2.length=r.base:=h.len.trans w;simp only [iX,prg];refine HR O (fun j P Q=>by have:=J (j+1) P (by simpa using Q); rwa [show k+(j+1)=k+1+j by omega] at this) ?_;cases S:s k with
  | true=>
   simp only [cond_true];refine ⟨(cm g m).trans (cm g w).symm,fun x u=>?_,fun x u=>?_,fun t B=>?_⟩
   ·rw [gJ g m,gJ g w,h.ob x u]
   ·rw [gJ g m,gJ g w];by_cases c:x<r.base
    ·rw [if_pos c,if_pos c];have:=h.kd x u;have D:∀ o o',kd o=kd o' -> kd (r.obj x o)=kd (r.obj x o'):=fun o o' e=>by
      unfold RC.obj;split
      ·split
       ·rw [xE,xE,e]
       rfl
      rw [ru,ru,e]
     cases F:q.2[x]? <;> cases y:p.2[x]? <;> rw [F,y] at this <;> simp at this ⊢;exact D _ _ this
    grind
   rw [il,il,h.sl t B]
  | false=>
   simp only [cond_false];obtain ⟨z,T⟩:=(J 0 r rfl).resolve_left (by rw [aln,S]; simp);refine ⟨(gP g m).trans (cm g w).symm,fun x u=>?_,fun x u=>?_,fun t B=>?_⟩
   ·rw [iE g m,gJ g w,h.ob x u];by_cases c:x<r.base
    ·rw [if_pos c,if_pos c];cases y:p.2[x]? with
     | none=>rfl
     | some o=>
      rw [Option.map_some,RC.ft (z.chσ x u),z.kp x u o (by rw [K]; exact y)]
    rw [if_neg c,if_neg c];have C:=z.nσ x u;rw [n_ g] at C;rw [if_neg (fun G=>C ⟨aI,G⟩),List.getElem?_eq_none aI]
   ·rw [iE g m,gJ g w];by_cases c:x<r.base
    ·rw [if_pos c,if_pos c];have:=h.kd x u;cases F:q.2[x]? <;> cases y:p.2[x]? <;> rw [F,y] at this <;> simp at this ⊢;rw [this];unfold RC.obj;split
     ·rename_i I;obtain ⟨e,f,_,U,_⟩:=yy T u I;rw [U]; exact xE.symm
     exact ru.symm
    rw [if_neg c,if_neg c];have C:=z.nch x u;rw [n_ g] at C;rw [if_neg (fun G=>C ⟨aI,G⟩),List.getElem?_eq_none aI]
   rw [il,if_neg (fun e=>z.dst t e B)];show lookA q.1 t=_;rw [h.sl t B];cases y:lookA p.1 t with
   | none=>rfl
   | some v=>rw [Option.map_some,z.ks t B v (by rw [N]; exact y)]
structure AgrB (b:RC) (q:AFr × AH):Prop where
 ob:∀ x ∈ b.σ,x<b.base->q.2[x]? = b.H0[x]?
 kd:∀ x ∈ b.ch,x<b.base->(q.2[x]?).map kd=(b.H0[x]?).map kd
 sl:∀ t ∈ b.U,lookA q.1 t=lookA b.fr0 t
 gn:∀ x,b.base<=x->x<b.res.length->q.2[x]? = some .gone
theorem Ad {b:RC} (w:b.Fit) {s:Nat->Bool}:∀ {B:List RC} {k:Nat} {q p:AFr × AH},fU p B->b.res.length<=p.2.length->q.2.length=p.2.length->(∀ j r,B[j]? = some r->s (k+j)=false\/(OkD b r/\okI b r=true))->AgrB b q->AgrB b (iX s k B q)
 | [],_,_,_,_,_,_,_,h=>h
 | r :: B,k,q,p,K,L,y,I,h=>by
  obtain ⟨W,N,u,O⟩:=K;have C:p.2.length=r.base:=by rw [<- N]; exact u.base.symm
  have g:q.2.length=r.base:=y.trans C;have P:=u.le;simp only [iX];have D:(bif s k then r.app q else r.KO q).2.length=(r.app p).2.length:=by
   cases s k
   ·exact (gP u g).trans (cm u C).symm
   exact (cm u g).trans (cm u C).symm
  have J:=w.le;refine Ad w O (by rw [cm u C]; omega) D (fun j Q S=>by have:=I (j+1) Q (by simpa using S); rwa [show k+(j+1)=k+1+j by omega] at this) ?_;cases T:s k with
  | false=>
   simp only [cond_false];refine ⟨fun x m c=>?_,fun x m c=>?_,fun t z=>h.sl t z,fun x m c=>?_⟩
   ·rw [iE u g,if_pos aI]; exact h.ob x m c
   ·rw [iE u g,if_pos aI]; exact h.kd x m c
   rw [iE u g,if_pos aI]; exact h.gn x m c
  | true=>
   simp only [cond_true];obtain ⟨A,U⟩:=(I 0 r rfl).resolve_left (by rw [aln,T]; simp);refine ⟨fun x m c=>?_,fun x m c=>?_,fun t z=>?_,fun x m c=>?_⟩
   ·rw [gJ u g,if_pos aI,h.ob x m c];cases F:b.H0[x]? with
    | none=>rfl
    | some o=>
     have:=A.ob x m;rw [gU F] at this;rw [Option.map_some,RC.ft (A.chσ x m),this]
   ·rw [gJ u g,if_pos aI,<- h.kd x m c];cases X:q.2[x]? with
    | none=>rfl
    | some o=>
     simp only [Option.map_some,Option.some.injEq];unfold RC.obj;split
     ·rename_i G;obtain ⟨e,f,_,V,_⟩:=yy U m G;rw [V]; exact xE
     exact ru
   ·rw [il,if_neg (fun e=>A.dst t e z),h.sl t z];cases F:lookA b.fr0 t with
    | none=>rfl
    | some v=>rw [Option.map_some,A.sl t z v F]
   rw [gJ u g,if_pos aI,h.gn x m c,Option.map_some,RC.ft (A.chn x ((n_ w).2 ⟨m,c⟩)),tV]
def RC.endO (b:RC) (x:Nat) (o:AO):AO:=if b.base<=x/\x<b.res.length then getO b.res x else b.obj x o
def RC.endF (b:RC) (t:Nat) (v:Option TV):Option TV:=if b.dst=some t then some b.v else v.map (killTV b.mv)
inductive OOq:Option AO->Option AO->Prop
 | none:OOq none none
 | some {o o':AO}:AOq o o' -> OOq (some o) (some o')
structure Rel (b:RC) (q' q:AFr × AH):Prop where
 len:q'.2.length=q.2.length
 ob:∀ x,OOq (q'.2[x]?) ((q.2[x]?).map (b.endO x))
 sl:∀ t,lookA q'.1 t=b.endF t (lookA q.1 t)
def OOq.refl:∀ o:Option AO,OOq o o
 | .none=>.none
 | .some _=>.some .rfl
def KM (f:b.Fit) {q:AFr × AH} (g:q.2.length=b.base):Rel b (b.app q) (b.KO q):=by
 refine ⟨(cm f g).trans (gP f g).symm,fun x=>?_,fun t=>il⟩;rw [gJ f g,iE f g];by_cases m:x<b.base
 ·rw [if_pos m,if_pos m];have:(q.2[x]?).map (b.obj x)=(q.2[x]?).map (b.endO x):=by
   cases q.2[x]? with
   | none=>rfl
   | some o=>simp only [Option.map_some,RC.endO,if_neg (show ¬ (b.base<=x/\x<b.res.length) by omega)]
  rw [this]; exact .refl _
 rw [if_neg m,if_neg m];by_cases c:x<b.res.length
 ·rw [if_pos c,Option.map_some,RC.endO,if_pos ⟨aI,c⟩,List.getElem?_eq_getElem c];exact .some (by rw [gU (List.getElem?_eq_getElem c)]; exact .rfl)
 rw [if_neg c,List.getElem?_eq_none aI]; exact .none
def VH (w:b.Fit) (m:OkD b r) (q:OkD r b) (y:okI b r=true) {x:Nat} (h:AOq o' (b.endO x o)):AOq (r.obj x o') (b.endO x (r.obj x o)):=by
 by_cases s:b.base<=x/\x<b.res.length
 ·-- b's own
  have g:x ∈ b.new:=(n_ w).2 s;have c:x ∉ r.ch:=m.chn x g;simp only [RC.endO,if_pos s] at h ⊢;rw [RC.ft c];have:=(h.kill (mv:=r.mv)).trans (by rw [m.rn x g]; exact .rfl);exact this
 simp only [RC.endO,if_neg s] at h ⊢;by_cases g:x ∈ b.ch
 ·by_cases c:x ∈ r.ch
  ·obtain ⟨e,f,p,z,u⟩:=yy y g c;simp only [RC.obj,if_pos g,if_pos c,p,z] at h ⊢;exact (h.put (e:=f)).trans (put_comm u)
  rw [RC.ft c,RC.ft c];cases p:b.ent with
  | some e=>
   simp only [RC.obj,if_pos g,p] at h ⊢;refine (h.kill (mv:=r.mv)).trans ?_;rw [BL fun k a v=>m.en k a (by rw [p,v])];exact .rfl
  | none=>
   simp only [RC.obj,if_pos g,p] at h ⊢;have:=h.kill (mv:=r.mv);rwa [m.rc x g] at this
 rw [RC.ft g] at h ⊢;by_cases c:x ∈ r.ch
 ·cases p:r.ent with
  | some e=>
   simp only [RC.obj,if_pos c,p];refine (h.put (e:=e)).trans ?_;rw [BL fun k a v=>q.en k a (by rw [p,v])];exact .rfl
  | none=>
   simp only [RC.obj,if_pos c,p];rw [q.rc x c]; exact .rfl
 rw [RC.ft c,RC.ft c,Eg];exact h.kill
variable {q':AFr × AH}
def NJ (F:b.Fit) (p:r.Fit) (s:OkD b r) (f:OkD r b) (G:okI b r=true) (z:∀ d,b.dst=some d->r.dst≠some d) {q:AFr × AH} (A:q.2.length=r.base) (I:b.res.length<=r.base) (h:Rel b q' q):Rel b (r.app q') (r.app q):=by
 have u:q'.2.length=r.base:=h.len.trans A;refine ⟨(cm p u).trans (cm p A).symm,fun x=>?_,fun t=>?_⟩
 ·rw [gJ p u,gJ p A];by_cases g:x<r.base
  ·rw [if_pos g,if_pos g];have:=h.ob x;cases B:q'.2[x]? <;> cases y:q.2[x]? <;> rw [B,y] at this <;> simp only [Option.map_some,Option.map_none] at this ⊢ <;> cases this
   ·exact .none
   rename_i J; exact .some (VH F s f G J)
  rw [if_neg g,if_neg g];cases y:r.res[x]? with
  | none=>exact .none
  | some o=>
   refine .some ?_;have C:=(aad.1 y).1;have w:x ∈ r.new:=(n_ p).2 ⟨aI,C⟩;have D:=f.rn x w;rw [gU y] at D;have K:x ∉ b.ch:=f.chn x w;rw [RC.endO,if_neg aI,RC.ft K,D];exact .rfl
 rw [il,il,h.sl t];unfold RC.endF;by_cases c:r.dst=some t
 ·rw [if_pos c,if_pos c,if_neg (fun e=>z t e c),Option.map_some,f.v]
 rw [if_neg c,if_neg c];by_cases m:b.dst=some t
 ·rw [if_pos m,if_pos m,Option.map_some,s.v]
 rw [if_neg m,if_neg m,Option.map_map,Option.map_map];cases lookA q.1 t with
 | none=>rfl
 | some v=>simp only [Option.map_some,Function.comp,CP]
def VV (v:b.Fit) (g:r.Fit) (m:∀ x ∈ b.ch,x<b.base) {q:AFr × AH} (p:q.2.length=r.base) (w:b.res.length<=r.base) (h:Rel b q' q):Rel b (r.KO q') (r.KO q):=by
 have f:q'.2.length=r.base:=h.len.trans p;have s:=v.le;refine ⟨(gP g f).trans (gP g p).symm,fun x=>?_,h.sl⟩;rw [iE g f,iE g p];by_cases c:x<r.base
 ·rw [if_pos c,if_pos c]; exact h.ob x
 rw [if_neg c,if_neg c];by_cases u:x<r.res.length
 ·rw [if_pos u,Option.map_some,RC.endO,if_neg aI,RC.ft (fun y=>by have:=m x y; omega),tV];exact .some .rfl
 rw [if_neg u]; exact .none
theorem Hf {b:RC} (w:b.Fit) (m:∀ x ∈ b.ch,x<b.base) {s:Nat->Bool}:∀ {u:List RC} {k:Nat} {q' q p:AFr × AH},fU p u->b.res.length<=p.2.length->q.2.length=p.2.length->(∀ j r,u[j]? = some r->(s (k+j)=false\/(OkD b r/\OkD r b/\okI b r=true))/\∀ d,b.dst=some d->r.dst≠some d)->Rel b q' q->Rel b (iX s k u q') (iX s k u q)
 | [],_,_,_,_,_,_,_,_,h=>h
 | r :: u,k,q',q,p,D,F,v,C,h=>by
  obtain ⟨_,G,c,I⟩:=D;have f:p.2.length=r.base:=by rw [<- G]; exact c.base.symm
  have g:q.2.length=r.base:=v.trans f;have J:=c.le;simp only [iX];have y:(bif s k then r.app q else r.KO q).2.length=(r.app p).2.length:=by
   cases s k
   ·exact (gP c g).trans (cm c f).symm
   exact (cm c g).trans (cm c f).symm
  refine Hf w m I (by rw [cm c f]; omega) y (fun j K L=>by have:=C (j+1) K (by simpa using L); rwa [show k+(j+1)=k+1+j by omega] at this) ?_;cases N:s k with
  | false=>exact VV w c m g aI h
  | true=>
   obtain ⟨O,z⟩:=C 0 r rfl;obtain ⟨A,B,P⟩:=O.resolve_left (by rw [aln,N]; simp);exact NJ w c A B P z g aI h
def Rd.on {c L:Cx} {B:List RE} {a:AV} {v:Value} (h:Rd c ρ a v) (y:c.le L) (k:∀ i ∈ a.ids,∀ r,ρ[i]? = some r->r ≠ .no->B[i]? = some r):Rd L B a v:=by
 have m:∀ q u,q.1 ∈ a.ids->ek ρ q u->ek B q u:=fun q u C ⟨g,p,F⟩=>⟨g,k _ C _ p aa,F⟩;cases a with
 | own id=>
  rcases h with ⟨g,m,len,z,h,e⟩ | ⟨h,e⟩
  ·exact .inl ⟨g,m,len,z,k id (by simp [AV.ids]) _ h aa,e⟩
  exact .inr ⟨k id (by simp [AV.ids]) _ h aa,e⟩
 | sub id o l=>
  rcases h with ⟨g,m,len,z,h,e⟩ | ⟨h,e⟩
  ·exact .inl ⟨g,m,len,z,k id (by simp [AV.ids]) _ h aa,e⟩
  exact .inr ⟨k id (by simp [AV.ids]) _ h aa,e⟩
 | ptr id o=>exact m (id,o) _ (by simp [AV.ids]) h
 | elp id i o=>
  obtain ⟨g,m,len,z,h,e⟩:=h;exact ⟨g,m,len,z,k id (by simp [AV.ids]) _ h aa,e⟩
 | fe s x o=>
  obtain ⟨A,G,p,F,O,e⟩:=h;exact ⟨A,G,(y.S _ p).1,F.keep (y.S _ p).2,O.carry y,e⟩
 | fn f b I=>
  obtain ⟨N,w,p,F,e⟩:=h;have D:∀ (l:List (Nat × Nat)) (w:List Value),(∀ q ∈ l,q.1 ∈ (AV.fn f b I).ids)->All2 (ek ρ) l w->All2 (ek B) l w:=fun l w J h=>by
   induction h with
   | nil=>exact .nil
   | cons p _ K=>exact .cons (m _ _ (J _ aa) p) (K fun q C=>J q (by simp [C]))
  refine ⟨N,w,D b N (fun q C=>?_) p,D I w (fun q C=>?_) F,e⟩ <;> simp only [AV.ids,abx] <;> first | exact .inl (alo C) | exact .inr (alo C)
 | mq id=>
  obtain ⟨g,p,e⟩:=h;exact ⟨g,k id (by simp [AV.ids]) _ p aa,e⟩
 | np=>exact h
 | nf=>exact h
 | yl l=>exact h
 | xx P I=>
  obtain ⟨w,p,F⟩:=h;have D:∀ (l:List (Nat × Nat)) (w:List Value),(∀ q ∈ l,q.1 ∈ (AV.xx P I).ids)->All2 (ek ρ) l w->All2 (ek B) l w:=fun l w J h=>by
   induction h with
   | nil=>exact .nil
   | cons p _ K=>exact .cons (m _ _ (J _ aa) p) (K fun q C=>J q (by simp [C]))
  exact ⟨w,D I w (fun q C=>by simp only [AV.ids]; exact alo C) p,F.le y⟩
 | dead=>exact h
 | int n=>exact Pd.carry h y
 | u8 b=>exact Pd.carry h y
 | u64 n=>exact Pd.carry h y
 | bool e=>exact Pd.carry h y
 | str s=>exact Pd.carry h y
 | em b=>exact Pd.carry h y
 | li T Q=>exact Pd.carry h y
 | fz s Q=>exact Pd.carry h y
def XE.on {c p:Cx} {ρ g:List RE}:∀ {f:List AV} {q:List Value},All2 (Rd c ρ) f q->c.le p -> (∀ i ∈ xU f,∀ r,ρ[i]? = some r->r ≠ .no->g[i]? = some r)->All2 (Rd p g) f q
 | [],_,h,_,_=>by cases h; exact .nil
 | a :: r,_,h,s,k=>by
  cases h with
  | cons u v=>exact .cons (u.on s fun i m=>k i (kR (a:=a) aa m)) (XE.on v s fun i m=>k i (by simp only [xU,abx]; exact .inr m))
def dk.on {c g:Cx} {ρ f:List RE} {t:TV1} {v:Value} (h:dk c ρ t v) (m:c.le g) (k:∀ i ∈ xU t.cells,∀ r,ρ[i]? = some r->r ≠ .no->f[i]? = some r):dk g f t v:=by
 cases t with
 | c a=>exact Rd.on h m fun i p=>k i (kR (a:=a) (by simp [TV1.cells]) p)
 | agg l=>obtain ⟨q,e,h⟩:=h; exact ⟨q,e,XE.on h m k⟩
def Tx.on {c p:Cx} {ρ g:List RE}:∀ {f:List TV1} {q:List Value},All2 (dk c ρ) f q->c.le p -> (∀ i ∈ qW f,∀ r,ρ[i]? = some r->r ≠ .no->g[i]? = some r)->All2 (dk p g) f q
 | [],_,h,_,_=>by cases h; exact .nil
 | a :: r,_,h,s,k=>by
  cases h with
  | cons u v=>exact .cons (u.on s fun i m=>k i (by simp only [qW,abx]; exact .inl m)) (Tx.on v s fun i m=>k i (by simp only [qW,abx]; exact .inr m))
def Rt.on {c g:Cx} {ρ f:List RE} {t:TV} {v:Value} (h:Rt c ρ t v) (m:c.le g) (k:∀ i ∈ t.ids,∀ r,ρ[i]? = some r->r ≠ .no->f[i]? = some r):Rt g f t v:=by
 cases t with
 | one t=>exact dk.on h m k
 | tup l=>obtain ⟨p,e,h⟩:=h; exact ⟨p,e,Tx.on h m k⟩
 | un=>trivial
def WH {q:Int × AV} (h:q ∈ l) (c:i ∈ q.2.ids):i ∈ Ls l:=tQ h c
def OR.on {c z:Cx} {ρ u:List RE} {o:AO} {r:RE} (h:OR c ρ o r) (p:c.le z) (v:z.w=c.w) (k:∀ i ∈ o.ids,∀ r,ρ[i]? = some r->r ≠ .no->u[i]? = some r):OR z u o r:=by
 cases o with
 | gone=>exact h
 | loc=>trivial
 | mapo s f=>
  obtain ⟨g,rfl,h⟩:=h;exact ⟨g,rfl,h.carry p (by rw [v])⟩
 | mapf l=>
  obtain ⟨g,rfl,h⟩:=h;exact ⟨g,rfl,h.map (g0:=fun a=>a) aa (fun q D _ h=>h.on p fun i F=>k i (WH D F)) (by rw [v])⟩
 | arr t s n G=>
  obtain ⟨g,A,rfl,x,y,B⟩:=h;exact ⟨g,A,rfl,by rw [v]; exact x,y.carry p,B⟩
 | box t N=>
  obtain ⟨g,A,rfl,x,y⟩:=h;exact ⟨g,A,rfl,by rw [v]; exact x,XE.on y p k⟩
 | row t s G=>
  obtain ⟨x,y,B⟩:=h;refine ⟨p.shp ▸ x,y,B.imp id ?_⟩;rintro ⟨g,C,m,I,rfl,J,K,L⟩;exact ⟨g,C,m,I,rfl,by rw [v]; exact J,K.carry p,L⟩
def JZ (h:mv=[]) {l:List AV}:sZ (AV.cq mv) l=l:=rM fun a _=>gD (by subst h; simp)
theorem MK:killO mv o=o.mapA (AV.cq mv):=by
 cases mv with
 | cons _ _=>rfl
 | nil=>
  cases o with
  | box t c=>exact congrArg (AO.box t) (JZ rfl).symm
  | mapf l=>
   show AO.mapf l=AO.mapf (mapM _ l);rw [rD];congr 1;refine ((List.map_congr_left fun q _=>?_).trans (List.map_id _)).symm;have e:=gD (mv:=[]) (a:=q.2) aa;grind
  | _=>rfl
def Gz (G:Gl) (c:List RE):Gl:=⟨G.shp,G.B0,fun b=>G.Z b\/live c b⟩
section
variable {G:Gl} {ρ:List RE} {S:AH} {w w':World} {m top:Nat}
structure Part (G:Gl) (ρ:List RE) (S:AH) (w:World) (m top:Nat):Prop where
 R:Rep G ρ S w
 le:m<=top
 len:top<=S.length
 gn:∀ x,m<=x->x<top->S[x]? = some .gone
def Part.mid (h:Part G ρ S w m top) {x:Nat} (f:m<=x) (g:x<top):ρ[x]? = some .no:=by
 obtain ⟨r,p,c⟩:=h.R.at_ (h.gn x f g);cases c; exact p
def Part.lv (h:Part G ρ S w m top) {b:Nat}:live ρ b↔live (ρ.take m) b\/live (ρ.drop top) b:=by
 constructor
 ·rintro ⟨i,r,c,f⟩;by_cases g:i<m
  ·exact .inl ⟨i,r,by rw [agZ,if_pos g]; exact c,f⟩
  by_cases p:i<top
  ·rw [h.mid aI p] at c; cases c; cases f
  exact .inr ⟨i - top,r,by rw [afX,show top+(i - top)=i by omega]; exact c,f⟩
 rintro (⟨i,r,c,f⟩ | ⟨i,r,c,f⟩)
 ·rw [agZ] at c;split at c
  ·exact ⟨i,r,c,f⟩
  cases c
 rw [afX] at c;exact ⟨_,r,c,f⟩
theorem Part.sS (h:Part G ρ S w m top) {b:Nat}:(cx (Gz G (ρ.drop top)) (ρ.take m) w).S b↔(cx G ρ w).S b:=by
 show (b<w.heap.size/\¬ live (ρ.take m) b/\¬ (G.Z b\/live (ρ.drop top) b))↔(b<w.heap.size/\¬ live ρ b/\¬ G.Z b);rw [h.lv];grind
def Part.cle (h:Part G ρ S w m top):(cx G ρ w).le (cx (Gz G (ρ.drop top)) (ρ.take m) w):=⟨rfl,rfl,fun _ c=>⟨h.sS.2 c,rfl⟩,fun _ _ _=>rfl⟩
theorem kP {r:RE} (h:(ρ.take m)[i]? = some r):ρ[i]? = some r/\i<m:=by grind
theorem Part.mask (h:Part G ρ S w m top) (v:∀ x ∈ σ,∀ i ∈ (getO S x).ids,i<m):Rep (Gz G (ρ.drop top)) (ρ.take m) (maskH σ 0 (S.take m)) w:=by
 have F:=h.R.obj.length;refine ⟨cC (by rw [pV,List.length_take,List.length_take,F]) fun j o r C y=>?_,fun i j r s g c f u A=>h.R.inj i j r s g (kP c).1 (kP f).1 u A,fun i r g c f=>?_,fun b I=>I.elim (h.R.z b) fun ⟨j,r,c,f⟩=>?_,h.R.b0,h.R.tb.carry h.cle⟩
 ·obtain ⟨y,J⟩:=kP y;rw [oo,agZ,if_pos J,adz,ago] at C;obtain ⟨o',p,rfl⟩:=C;split
  ·rename_i K;obtain ⟨s,q,B⟩:=h.R.at_ p;rw [y] at q; cases q;refine B.on h.cle rfl fun i D r L _=>?_;have:=v j K i (by rw [gU p]; exact D);grind
  trivial
 ·obtain ⟨c,D⟩:=kP c;have:=h.R.bnd i r g c f;refine ⟨this.1,this.2.1,fun N=>N.elim this.2.2 fun ⟨j,s,u,A⟩=>?_⟩;rw [afX] at u;have e:=h.R.inj i _ r s g c u f A;have:=h.le;omega
 rw [afX] at c;exact (h.R.bnd _ r b c f).2.1
def Part.merge (h:Part G ρ S w m top) {ro:Lv} (H:b.base=m) (Y:b.res.length=top) (hent:b.ent=none) (hch:∀ x ∈ b.ch,x<m) {c:List RE} (hro:∀ i,ro.wr i=false\/ro.mv i=false->i<m) (T:Stp ⟨fun i=>cf i b.ch && ro.wr i,fun i=>cf i b.mv && ro.mv i⟩ (ρ.take m) w c w') (W:Rep (Gz G (ρ.drop top)) c b.res w') {S':AH} (hlen:S'.length=S.length) (hS':∀ x,OOq (S'[x]?) ((S[x]?).map (b.endO x))) :
  Rep G (c++ρ.drop top) S' w' /\ Stp ro ρ w (c++ρ.drop top) w' /\ (∀ a v,Rd (cx G ρ w) ρ a v->Rd (cx G (c++ρ.drop top) w') (c++ρ.drop top) (a.cq b.mv) v)/\(∀ t v,Rt (cx (Gz G (ρ.drop top)) c w') c t v->Rt (cx G (c++ρ.drop top) w') (c++ρ.drop top) t v):=by
 have hl:=h.R.obj.length;have hle:=h.le;have htl:c.length=top:=by rw [<- W.obj.length,Y]
 have hSl:=h.len
 have B:∀ i,i<top->(c++ρ.drop top)[i]? = c[i]?:=fun i y=>List.getElem?_append_left aI;have I:∀ i,top<=i->(c++ρ.drop top)[i]? = ρ[i]?:=fun i y=>by rw [ag_ aI,htl,afX]; congr 1; omega
 have lv':∀ b,live (c++ρ.drop top) b↔live c b\/live (ρ.drop top) b:=fun b=>by
  constructor
  ·rintro ⟨i,r,q,u⟩;by_cases y:i<top
   ·exact .inl ⟨i,r,by rw [<- B i y]; exact q,u⟩
   refine .inr ⟨i - top,r,?_,u⟩;rw [I i aI] at q;rw [afX,show top+(i - top)=i by omega]; exact q
  rintro (⟨i,r,q,u⟩ | ⟨i,r,q,u⟩)
  ·exact ⟨i,r,by rw [B i (by rw [<- htl]; exact (aad.1 q).1)]; exact q,u⟩
  rw [afX] at q;exact ⟨top+i,r,by rw [I _ aI]; exact q,u⟩
 have O:∀ g,g<w.heap.size->¬ live (ρ.take m) g->¬ live c g/\w'.heap[g]? = w.heap[g]?:=fun g hg hn=>T.ext.old g hg hn;have U:∀ g,live (ρ.drop top) g->g<w.heap.size/\¬ live (ρ.take m) g:=by
  rintro g ⟨j,r,q,u⟩;rw [afX] at q;refine ⟨(h.R.bnd _ r g q u).2.1,?_⟩;rintro ⟨i,r',P,h4⟩;obtain ⟨P,h5⟩:=kP P;have:=h.R.inj _ _ _ _ g q P u h4;omega
 have J:Ext ρ w (c++ρ.drop top) w':=⟨T.ext.os,T.ext.tape,T.ext.output,T.ext.size,fun b Q hl=>by
  rw [h.lv] at hl;have hk:=O b Q fun k=>hl (.inl k);exact ⟨fun k=>((lv' b).1 k).elim hk.1 fun k=>hl (.inr k),hk.2⟩⟩
 have p:(cx G ρ w).le (cx G (c++ρ.drop top) w'):=J.le h.R.lo;have V:(cx (Gz G (ρ.drop top)) c w').le (cx G (c++ρ.drop top) w'):=⟨rfl,rfl,fun b ⟨q,u,P⟩=>⟨⟨q,fun k=>((lv' b).1 k).elim u fun k=>P (.inr k),fun k=>P (.inl k)⟩,rfl⟩,fun _ _ _=>rfl⟩;have Z:kB c (c++ρ.drop top):=gu _ _
 have C:∀ i r,ρ[i]? = some r->r ≠ .no->((∃ g,r = .blk g)\/i ∉ b.mv)->(c++ρ.drop top)[i]? = some r:=fun i r D L hk=>by
  by_cases y:i<m
  ·rw [B i aI];have N:(ρ.take m)[i]? = some r:=by rw [agZ,if_pos y]; exact D
   rcases hk with ⟨g,rfl⟩ | hk
   ·exact T.bx i g N
   refine T.loc i r ?_ N;have:cf i b.mv=false:=by rw [<- Bool.not_eq_true,bz]; exact hk
   simp [this]
  by_cases hj:i<top
  ·rw [h.mid aI hj] at D; cases D; exact absurd rfl L
  rw [I i aI]; exact D
 have hrd:∀ a v,Rd (cx G ρ w) ρ a v->Rd (cx G (c++ρ.drop top) w') (c++ρ.drop top) (a.cq b.mv) v:=by
  intro a v F;have nm:∀ j,cf j b.mv=false->j ∉ b.mv:=fun j Q hm=>by rw [bz.2 hm] at Q; cases Q
  cases a with
  | own j=>
   simp only [AV.cq];cases Q:cf j b.mv
   ·refine Rd.on F p fun i y r D L=>C i r D L (.inr ?_);simp only [AV.ids,cond_false,abL] at y; subst y; exact nm _ Q
   exact Rd.one F
  | sub j o k=>
   simp only [AV.cq];cases Q:cf j b.mv
   ·refine Rd.on F p fun i y r D L=>C i r D L (.inr ?_);simp only [AV.ids,cond_false,abL] at y; subst y; exact nm _ Q
   exact Rd.one F
  | elp j k o=>
   simp only [AV.cq];cases Q:cf j b.mv
   ·refine Rd.on F p fun i y r D L=>C i r D L (.inr ?_);simp only [AV.ids,cond_false,abL] at y; subst y; exact nm _ Q
   exact Rd.one F
  | ptr j o=>
   obtain ⟨g,q,e⟩:=F;exact ⟨g,C _ _ q aa (.inl ⟨g,rfl⟩),e⟩
  | mq j=>
   obtain ⟨g,q,e⟩:=F;exact ⟨g,C _ _ q aa (.inl ⟨g,rfl⟩),e⟩
  | fn f b' cs=>
   obtain ⟨bs,us,q,u,e⟩:=F;exact ⟨bs,us,q.imp fun _ _ ⟨g,k1,k2⟩=>⟨g,C _ _ k1 aa (.inl ⟨g,rfl⟩),k2⟩,u.imp fun _ _ ⟨g,k1,k2⟩=>⟨g,C _ _ k1 aa (.inl ⟨g,rfl⟩),k2⟩,e⟩
  | fe s x o=>
   obtain ⟨A,cells,q,u,P,e⟩:=F;exact ⟨A,cells,(p.S _ q).1,u.keep (p.S _ q).2,P.carry p,e⟩
  | np=>exact F
  | nf=>exact F
  | yl l=>exact F
  | xx k' cs=>
   obtain ⟨us,q,u⟩:=F;exact ⟨us,q.imp fun _ _ ⟨g,k1,k2⟩=>⟨g,C _ _ k1 aa (.inl ⟨g,rfl⟩),k2⟩,u.le p⟩
  | dead=>exact F
  | int n=>exact Pd.carry F p
  | u8 b=>exact Pd.carry F p
  | u64 n=>exact Pd.carry F p
  | bool e=>exact Pd.carry F p
  | str s=>exact Pd.carry F p
  | em b=>exact Pd.carry F p
  | li nw xs=>exact Pd.carry F p
  | fz s xs=>exact Pd.carry F p
 refine ⟨⟨?_,?_,?_,fun b Q=>ac2 (h.R.z b Q) J.size,Nat.le_trans h.R.b0 J.size,h.R.tb.carry p⟩,⟨J,fun i r y D=>?_,fun i r y D=>?_,fun i g y=>?_⟩,hrd,fun t v ht=>ht.carry V Z⟩
 ·refine cC (by rw [hlen,List.length_append,htl,List.length_drop]; omega) fun x o r ho D=>?_;have hq:=hS' x;rw [ho] at hq;cases hx:S[x]? with
  | none=>rw [hx] at hq; cases hq
  | some o0=>
   rw [hx,Option.map_some] at hq;cases hq with
   | some hq=>
   refine hq.symm.or ?_;obtain ⟨r0,hr0,hor0⟩:=h.R.at_ hx
   have d:ρ[x]? = some r->(∀ g,r.g? = some g->w'.heap[g]? = w.heap[g]?)->OR (cx G (c++ρ.drop top) w') (c++ρ.drop top) (killO b.mv o0) r:=fun N hg=>by
    rw [hr0] at N; cases N;rw [MK];exact hor0.map p hrd hg
   have K:x<top->∀ o1,b.res[x]? = some o1->OR (cx G (c++ρ.drop top) w') (c++ρ.drop top) o1 r:=fun X o1 ho1=>by
    rw [B x X] at D;obtain ⟨r1,hr1,hor1⟩:=W.at_ ho1;rw [D] at hr1; cases hr1;exact hor1.carry V Z fun _ _=>rfl
   unfold RC.endO;rw [H,Y];split
   ·rename_i hn;refine K hn.2 _ ?_;rw [List.getElem?_eq_getElem aI,gU (List.getElem?_eq_getElem aI)]
   rename_i hn;unfold RC.obj;split
   ·rename_i hchx;rw [hent];have X:=hch x hchx;refine K aI _ ?_;rw [List.getElem?_eq_getElem aI,gU (List.getElem?_eq_getElem aI)]
   rename_i hch;have hm:cf x b.ch=false:=by rw [<- Bool.not_eq_true,bz]; exact hch
   by_cases X:x<m
   ·have N:(ρ.take m)[x]? = some r0:=by rw [agZ,if_pos X]; exact hr0
    have hp:=T.pro x r0 (by simp [hm]) N;rw [B x aI,hp.1] at D; cases D;exact d hr0 hp.2
   have hx2:top<=x:=by omega
   rw [I x hx2] at D;refine d D fun g hg=>(O g (h.R.bnd x r g D hg).2.1 (U g ⟨x - top,r,?_,hg⟩).2).2;rw [afX,show top+(x - top)=x by omega]; exact D
 ·intro i j r r' g q u P h4;by_cases y:i<top <;> by_cases hj:j<top
  ·rw [B i y] at q; rw [B j hj] at u;exact W.inj i j r r' g q u P h4
  ·rw [B i y] at q; rw [I j aI] at u;have hc:live (ρ.drop top) g:=⟨j - top,r',by rw [afX,show top+(j - top)=j by omega]; exact u,h4⟩;exact absurd ⟨i,r,q,P⟩ (O g (U g hc).1 (U g hc).2).1
  ·rw [I i aI] at q; rw [B j hj] at u;have hc:live (ρ.drop top) g:=⟨i - top,r,by rw [afX,show top+(i - top)=i by omega]; exact q,P⟩;exact absurd ⟨j,r',u,h4⟩ (O g (U g hc).1 (U g hc).2).1
  rw [I i aI] at q; rw [I j aI] at u;exact h.R.inj i j r r' g q u P h4
 ·intro i r g q u;by_cases y:i<top
  ·rw [B i y] at q;have:=W.bnd i r g q u;exact ⟨this.1,this.2.1,fun hz=>this.2.2 (.inl hz)⟩
  rw [I i aI] at q;have:=h.R.bnd i r g q u;exact ⟨this.1,ac2 this.2.1 J.size,this.2.2⟩
 ·have hi':=hro i (.inr y);rw [B i aI];exact T.loc i r (by simp [y]) (by rw [agZ,if_pos hi']; exact D)
 ·have hi':=hro i (.inl y);rw [B i aI];exact T.pro i r (by simp [y]) (by rw [agZ,if_pos hi']; exact D)
 by_cases q:i<m
 ·rw [B i aI];exact T.bx i g (by rw [agZ,if_pos q]; exact y)
 by_cases u:i<top
 ·rw [h.mid aI u] at y; cases y
 rw [I i aI]; exact y
end
variable {P:Program} {a:Act} {w:World} {l:List Oper}
theorem agP {Q:Exit->Act->World->Prop} {id:Nat} (hm:P.follows .mixedOrders=true) {Inv:(Nat->Bool)->Act->World->Prop}
  (N:∀ i,∀ j ∈ bK l i,j<i) (I:∀ s a w,Inv s a w->a.defers=[])
  (hs:∀ s a w i o,Inv s a w->l[i]? = some o->s i=false->(∀ j ∈ bK l i,s j=true)->(∀ k,s k=true->∀ j ∈ bK l k,s j=true) ->
   Le P l.toArray (fun e a' w'=>e = .normal/\Inv (fun j=>s j || Nat.beq i j) a' w') [o] a w)
  (O:∀ s a w,Inv s a w->(∀ i,i<l.length->s i=true)->Q .normal a w) (Y:Inv (fun _=>false) a { w with drawn:=w.drawn+1 }):kF P (.region id l.toArray true) Q a w:=by
 intro H ds;refine wpIn_region_any hm ?_;have b:∀ f (c:Array Bool) a w,c.size=l.length->(List.range l.length).countP (fun i=>!c.getD i false)=f->(∀ k,c.getD k false=true->∀ j ∈ bK l k,c.getD j false=true)->Inv (fun i=>c.getD i false) a w->wpAnyIn (gN H) 0 P .any l.toArray (qT ds Q) f c (iZ a ds) w:=by
  intro f;induction f with
  | zero=>
   intro c a w B hc S inv;have J:∀ i,i<l.length->c.getD i false=true:=fun i z=>by
    have:=List.countP_eq_zero.1 hc i (List.mem_range.2 z);simpa using this
   refine ⟨?_,a,I _ _ _ inv,rfl,O _ a w inv J⟩;cases hr:Region.ready .any l.toArray c with
   | nil=>rfl
   | cons i r=>
    obtain ⟨T,o,ho,_⟩:=mem_ready.1 (show i ∈ Region.ready .any l.toArray c by rw [hr]; simp);have C:i<l.length:=by simpa using (ahh.1 ho).1
    have:=J i C;rw [getD_both T] at this; cases this
  | succ f ih=>
   intro c a w B hc S inv;have hex:∃ i,i<l.length/\c.getD i false=false/\∀ j,j<i->c.getD j false=true:=by
    have h1:∃ i,i<l.length/\c.getD i false=false:=by
     have:0<(List.range l.length).countP (fun i=>!c.getD i false):=by omega
     obtain ⟨i,z,Z⟩:=List.countP_pos_iff.1 this;exact ⟨i,List.mem_range.1 z,by simpa using Z⟩
    obtain ⟨i,z,Z⟩:=h1;have t:∀ m,∀ i,i<l.length->c.getD i false=false->i<=m->∃ i,i<l.length/\c.getD i false=false/\∀ j,j<i->c.getD j false=true:=by
     intro m;induction m with
     | zero=>intro i z Z him; exact ⟨i,z,Z,fun j A=>by omega⟩
     | succ m ihm=>
      intro i z Z him;by_cases N:∃ j,j<i/\c.getD j false=false
      ·obtain ⟨j,A,hpj⟩:=N;exact ihm j aI hpj aI
      grind
    exact t i i z Z (Nat.le_refl _)
   obtain ⟨m,U,hmu,V⟩:=hex;have g:m ∈ Region.ready .any l.toArray c:=by
    refine mem_ready.2 ⟨getD_in (by rw [B]; exact U) hmu,l[m],by simp [U],fun e O hb=>?_⟩;exact V _ (N m e.on (by
     simp only [bK,List.getElem?_eq_getElem U,fO,alb,alH];exact ⟨e,⟨by simpa using O,hb⟩,rfl⟩))
   refine ⟨fun Y=>(by rw [Y] at g; cases g),fun i z=>?_⟩;obtain ⟨T,o,ho,D⟩:=mem_ready.1 z;have W:l[i]? = some o:=by simpa using ho
   have C:i<l.length:=(aad.1 W).1;have K:c.getD i false=false:=getD_both T;have L:∀ k ∈ bK l i,c.getD k false=true:=fun k hk=>by
    simp only [bK,W,fO,alb,alH] at hk;obtain ⟨e,⟨O,hb⟩,rfl⟩:=hk;exact D e (by simpa using O) hb
   have X:=hs _ a w i o inv W K L S H ds;have u:∀ j,(c.setIfInBounds i true).getD j false=(c.getD j false || Nat.beq i j):=fun j=>by
    by_cases A:j=i
    ·subst A; simp [Array.getD,B,C]
    have:Nat.beq i j=false:=by rw [<- Bool.not_eq_true,Nat.beq_eq]; exact fun e=>A e.symm
    rw [getD_set_ne false (Ne.symm A),this,Bool.or_false]
   have step:∀ v F,(True/\Inv (fun j=>c.getD j false || Nat.beq i j) (a.put o.dst v) F)->wpAnyIn (gN H) 0 P .any l.toArray (qT ds Q) f (c.setIfInBounds i true) (iZ (a.put o.dst v) ds) F:=by
    intro v F ⟨_,hv⟩;refine ih _ _ _ (by simp [B]) ?_ ?_ ?_
    ·have:=countP_set (n:=l.length) (i:=i) (p:=fun j=>!c.getD j false) (q:=fun j=>!(c.setIfInBounds i true).getD j false) C (by simp [K]) (by simp [u]) (fun j A=>by
      have:Nat.beq i j=false:=by rw [<- Bool.not_eq_true,Nat.beq_eq]; exact fun e=>A e.symm
      simp [u,this])
     omega
    ·intro k hk j A;rw [u] at hk ⊢;rw [Bool.or_eq_true] at hk ⊢;rcases hk with hk | hk
     ·exact .inl (S k hk j A)
     have:=aaA hk;subst this; exact .inl (L j A)
    have e:(fun j=>(c.setIfInBounds i true).getD j false)=fun j=>(c.getD j false || Nat.beq i j):=funext u;rw [e]; exact hv
   have x:∀ v F,qT ds (fun e a' w'=>e = .normal/\Inv (fun j=>c.getD j false || Nat.beq i j) a' w') .normal ((iZ a ds).put o.dst v) F->wpAnyIn (gN H) 0 P .any l.toArray (qT ds Q) f (c.setIfInBounds i true) ((iZ a ds).put o.dst v) F:=fun v F ⟨a0,Y,e,h⟩=>by
    rw [ur] at e ⊢;rw [<- Pw e (Hs (I _ _ _ inv) _ _) Y] at h;exact step v F ⟨trivial,h.2⟩
   unfold wpOpIn;simp only [ho];simp only [wpListIn] at X;try simp only [eq_self_iff_true] at X
   by_cases y:Region.wanted o (yielded l.toArray (iZ a ds).tmps)=true
   ·rw [if_pos y] at X ⊢;unfold Oper.wpIn at X ⊢;refine ⟨fun _ _=>trivial,Ao X.2 x (fun d F ⟨a0,Y,e,h⟩=>?_) (fun e a w O ⟨_,_,_,h⟩=>O h.1)⟩;have:=congrArg Act.defers e;cases hd:o.dst <;> rw [hd] at this <;> simp [Act.put,iZ] at this
   rw [if_neg y] at X ⊢;exact ⟨fun _ _=>trivial,x undef w X.2⟩
 have G:(List.range l.length).countP (fun i=>!(Array.replicate l.toArray.size false).getD i false)=l.length:=by
  rw [List.countP_eq_length.2 (fun i _=>by rw [ahi]; rfl),alK]
 have:=b l.length (Array.replicate l.toArray.size false) a { w with drawn:=w.drawn+1 } aa G (fun k hk=>by rw [ahi] at hk; cases hk) (by
  have e:(fun i=>(Array.replicate l.toArray.size false).getD i false)=fun _=>false:=funext fun i=>ahi _ _;rw [e]; exact Y)
 rw [show l.toArray.size=l.length by simp];exact this
theorem ll {m:Nat}:bitN m j=m.testBit j:=by
 rw [Nat.testBit_eq_decide_div_mod_eq];show Nat.beq ((m >>> j) &&& 1) 1=_;rw [Nat.and_one_is_mod,Nat.shiftRight_eq_div_pow];generalize m / 2 ^ j % 2=q;by_cases h:q=1
 ·simp_all
 rw [ahP h,<- Bool.not_eq_true,Nat.beq_eq]; exact h
theorem WQ {a b:Nat}:bitN (Nat.lor a b) j=(bitN a j || bitN b j):=by
 rw [ll,ll,ll];simp_all
theorem TL:bitN (Nat.shiftLeft 1 k) j=true↔j=k:=by
 rw [ll];show (1 <<< k).testBit j=true↔_;rw [Nat.testBit_shiftLeft,Bool.and_eq_true,decide_eq_true_eq,Nat.testBit_one_eq_true_iff_self_eq_zero];omega
theorem Lo:bitN 0 j=false:=by rw [ll]; exact Nat.zero_testBit j
theorem pW {c:List Nat} {j:Nat}:∀ {l:List Nat},bitN (gZ c l) j=true↔∃ k ∈ l,j=k\/bitN (c.getD k 0) j=true
 | []=>by simp [gZ,Lo]
 | k :: r=>by simp only [gZ,WQ,Bool.or_eq_true,TL,pW,ado,or_and_right,exists_or,exists_eq_left]
theorem zP:∀ {l:List Oper} {acc:List Nat},(iY acc l).length=acc.length+l.length
 | [],_=>by simp [iY]
 | o :: r,acc=>by
  have:=zP (l:=r) (acc:=acc++[gZ acc (fO o)]);simp only [iY,this];simp; omega
theorem tO:∀ {l:List Oper} {c:List Nat} {k:Nat},k<c.length->(iY c l).getD k 0=c.getD k 0
 | [],_,_,_=>rfl
 | o :: r,c,k,h=>by
  simp only [iY];rw [tO (by simp; omega),List.getD_eq_getElem?_getD,List.getElem?_append_left h,List.getD_eq_getElem?_getD]
theorem qj:∀ {l:List Oper} {k:Nat},rP k l=true->∀ i,∀ j ∈ bK l i,j<k+i
 | o :: r,k,h,i,j,c=>by
  simp only [rP,Bool.and_eq_true] at h;cases i with
  | zero=>exact gY.1 h.1 j (by simpa [bK] using c)
  | succ i=>
   have:=qj h.2 i j (by simpa [bK] using c);omega
theorem ya:∀ {l:List Oper} {acc:List Nat} {i:Nat},(∀ i,∀ j ∈ bK l i,j<acc.length+i)->i<l.length->(iY acc l).getD (acc.length+i) 0=gZ (iY acc l) (bK l i)
 | o :: r,acc,0,f,_=>by
  simp only [iY];have e:(iY (acc++[gZ acc (fO o)]) r).getD (acc.length+0) 0=gZ acc (fO o):=by
   rw [tO aa,List.getD_eq_getElem?_getD]; simp
  have m:bK (o :: r) 0=fO o:=rfl;have p:∀ l:List Nat,(∀ j ∈ l,j<acc.length)->gZ acc l=gZ (iY (acc++[gZ acc (fO o)]) r) l:=by
   intro l;induction l with
   | nil=>intro _; rfl
   | cons k t q=>
    intro g;have u:=g k aa;simp only [gZ];rw [q fun j c=>g j (by simp [c]),tO (show k<(acc++[gZ acc (fO o)]).length by simp; omega)];grind
  grind
 | o :: r,acc,i+1,f,s=>by
  simp only [iY];have:=ya (l:=r) (acc:=acc++[gZ acc (fO o)]) (i:=i) (fun k j c=>by
   have:=f (k+1) j (by simpa [bK] using c);simp; omega) (by simpa using s)
  simp only [List.length_append,akS] at this;rw [show acc.length+(i+1)=acc.length+1+i by omega,this];simp [bK]
theorem sP {s:Nat->Bool} (p:∀ i,∀ j ∈ bK l i,j<i) (q:∀ k,s k=true->∀ j ∈ bK l k,s j=true):∀ (n i:Nat),i<=n->i<l.length->(∀ j ∈ bK l i,s j=true)->∀ j,bitN ((iY [] l).getD i 0) j=true->s j=true:=by
 intro n;induction n with
 | zero=>
  intro i u c f j g;have:=ya (acc:=[]) (fun i j m=>by have:=p i j m; simp; omega) c;simp only [List.length_nil,adz] at this;rw [this,pW] at g;grind
 | succ n v=>
  intro i u c f j g;have:=ya (acc:=[]) (fun i j m=>by have:=p i j m; simp; omega) c;simp only [List.length_nil,adz] at this;rw [this,pW] at g;grind
def jr (a:Act):Nat->Fr
 | 0=>[]
 | k+1=>(k,a.tmps.getD k undef) :: jr a k
theorem fX {a:Act} {t:Nat}:∀ {n:Nat},look (jr a n) t=if t<n then some (a.tmps.getD t undef) else none
 | 0=>rfl
 | k+1=>by
  simp only [jr,aV,fX];grind
variable {a':Act}
def ab5 (h:a.defers=[]) (f:a'.defers=[]) (m:a.tmps.size=n) (c:a'.tmps.size=n) (g:∀ t,t<n->a'.tmps.getD t undef=a.tmps.getD t undef):a' = a:=by
 cases a with
 | mk t d=>
 cases a' with
 | mk s u=>
 simp only at h f m c g;subst h; subst f;congr 1;refine Array.ext aI fun i p q=>?_;have:=g i aI;simpa [Array.getD,p,q] using this
theorem Mv (h:a.defers=[]) (f:a.tmps.size=n):M n (jr a n) a:=⟨h,f,fun i v c=>by
 rw [fX] at c;split at c
 ·grind
 cases c⟩
variable {u:Value}
theorem l_ (f:a.tmps.size=n) (g:t<n):(a.put d u).tmps.getD t undef=if d=some t then u else a.tmps.getD t undef:=by
 cases d with
 | none=>simp [Act.put]
 | some d=>
  by_cases c:d=t
  ·subst c; simp [Act.put,f,g]
  have m:¬ (some d=some t):=fun e=>c (adC e);show (a.tmps.setIfInBounds d u).getD t undef=_;simp_all
def sR (h:a.defers=[]) (m:a.tmps.size=n) (c:M n (jy d u (jr a n)) a'):a' = a.put d u:=by
 have p:(a.put d u).defers=[]/\(a.put d u).tmps.size=n:=by cases d <;> simp [Act.put,h,m]
 refine ab5 p.1 c.1 p.2 c.2.1 fun t f=>?_;rw [l_ m f];cases d with
 | none=>
  exact (c.2.2 t (a.tmps.getD t undef) (by show look (jr a n) t=_; rw [fX,if_pos f])).2
 | some d=>
  by_cases g:d=t
  ·subst g;rw [if_pos rfl];exact (c.2.2 d u (by show look ((d,u) :: jr a n) d=_; rw [aV,if_pos rfl])).2
  rw [if_neg (fun e=>g (adC e))];exact (c.2.2 t (a.tmps.getD t undef) (by show look ((d,u) :: jr a n) t=_; rw [aV,if_neg g,fX,if_pos f])).2
def eP.sub {F F':Fr} {y:Op} {ty:TypeId} {z:Value->World->Prop} (h:∀ a,M n F' a->M n F a) (k:eP P n F w y ty z):eP P n F' w y ty z:=by
 rcases k with (⟨v,x,m,p⟩ | ⟨f,args,m,p⟩) | ⟨A,x,m,p⟩
 ·exact .inl (.inl ⟨v,x,fun a d c q g s=>m a d c q g (h a s),p⟩)
 ·exact .inl (.inr ⟨f,args,fun a d c q g s=>m a d c q g (h a s),p⟩)
 exact .inr ⟨A,x,fun a d c q g s=>m a d c q g (h a s),p⟩
section
variable {P:Program} {n:Nat} {l:List Oper} {a:Act} {w:World}
variable {Q:Exit->Act->World->Prop} {o:Oper}
def Gw (h:a.defers=[]) (A:a.tmps.size=n) {F:Fr} (K:∀ i v,look F i=some v->i<n/\a.tmps.getD i undef=v) {Φ:Value->World->Prop} (L:eP P n F w o.op o.type Φ) (N:∀ d,o.dst=some d->Nat.blt d n=true) (B:isSt o.op=true->o.dst=none)
  (O:∀ j x,o.guard=some (j,x)->∃ t,idst l j=some t/\t<n/\a.tmps.getD t undef = .bool x) (I:∀ u z,Φ u z -> Q .normal (a.put o.dst u) z):Le P l.toArray Q [o] a w:=by
 have J:=Mv h A;have f:=eP.sub (F':=jr a n) (fun a' C=>⟨C.1,C.2.1,fun i v D=>by
  obtain ⟨p,q⟩:=K i v D;have:=(C.2.2 i (a.tmps.getD i undef) (by rw [fX,if_pos p])).2;exact ⟨p,this.trans q⟩⟩) L
 obtain ⟨dst,S,T,G,U,g⟩:=o;have c:WO P Q n l [⟨dst,S,T,G,U,none⟩] (jr a n) w:=by
  rcases f with f | ⟨V,z,p,q⟩
  ·exact WO.y f N fun v z D=>WO.nil fun a' m=>by rw [sR h A m]; exact I _ _ D
  obtain rfl:=B V;exact WO.s p (WO.nil fun a' m=>by
   have e:=sR (d:=none) (u:=undef) h A m;rw [e]; exact I _ _ q)
 cases g with
 | none=>exact c a J
 | some g=>
  obtain ⟨j,x⟩:=g;obtain ⟨t,p,q,W⟩:=O j x rfl;exact WO.on p (by rw [fX,if_pos q,W]) rfl c a J
def Ll (h:a.defers=[]) (v:a.tmps.size=n) (x:∀ d,o.dst=some d->Nat.blt d n=true) {y:Bool} (z:o.guard=some (j,y)) (f:idst l j=some t) (q:t<n) (hv:a.tmps.getD t undef = .bool (!y)\/a.tmps.getD t undef=undef) (A:Q .normal (a.put o.dst undef) w):Le P l.toArray Q [o] a w:=by
 have m:=Mv h v;obtain ⟨dst,C,D,B,F,g⟩:=o;subst z;have p:look (jr a n) t=some (a.tmps.getD t undef):=by rw [fX,if_pos q]
 have c:WO P Q n l [] (jy dst undef (jr a n)) w:=WO.nil fun a' s=>by rw [sR h v s]; exact A
 cases dst with
 | some d=>
  rcases hv with hv | hv
  ·exact WO.off f (by rw [p,hv]) rfl (x d rfl) c a m
  exact WO.acV f (by rw [p,hv]) (x d rfl) c a m
 | none=>
  have c:WO P Q n l [] (jr a n) w:=c;rcases hv with hv | hv
  ·exact WO.afi f (by rw [p,hv]) rfl c a m
  exact WO.Yk f (by rw [p,hv]) c a m
end
def RunOK (P:Program) (shp:TypeId->Option Sh) (n:Nat) (g:Lv) (o:Oper) (r:RC):Prop:=∀ (G:Gl) (ρ:List RE) (w:World) (F:Fr),G.shp=shp->Rep G ρ (maskH r.σ 0 r.H0) w->FrR (cx G ρ w) ρ (dA r.fr0 r.U) F->(∀ p ∈ r.ob,p) ->
 eP P n F w o.op o.type fun u f=>∃ c,Stp ⟨fun i=>cf i r.ch && g.wr i,fun i=>cf i r.mv && g.mv i⟩ ρ w c f /\ Rep G c r.res f /\ Rt (cx G c f) c r.v u/\∀ p ∈ r.fc,p
def EntOK (P:Program) (shp:TypeId->Option Sh) (n:Nat) (f:Lv) (o:Oper) (r:RC) (e:Ent) (p:Nat):Prop:=∀ (G:Gl) (ρ:List RE) (w:World) (F:Fr) (S:AH),G.shp=shp->Rep G ρ S w->FrR (cx G ρ w) ρ (dA r.fr0 r.U) F->(S[p]?).map kd=(r.H0[p]?).map kd ->
 ∃ c,h_ P n F w o.op o.type c /\ Rep G ρ (S.set p (e.put (getO S p))) c /\ Stp f ρ w ρ c
structure RcOK (P:Program) (shp:TypeId->Option Sh) (n:Nat) (ro:Lv) (l:List Oper) (rs:List RC) (o:Oper) (i:Nat) (r:RC):Prop where
 dst:r.dst=o.dst
 dn:∀ d,o.dst=some d->Nat.blt d n=true
 st:r.on=true->isSt o.op=true->o.dst=none
 run:r.on=true->(r.ent=none/\RunOK P shp n ro o r)\/∃ e p,r.ent=some e/\r.ch=[p]/\r.mv=[]/\r.v = .un/\r.fc=[]/\r.res.length=r.base/\isSt o.op=true/\EntOK P shp n ro o r e p
 off:r.on=false->r.ch=[]/\r.mv=[]/\r.σ=[]/\r.res=maskH [] 0 r.H0/\r.ent=none/\r.v = .un/\r.fc=[]
 gd:(o.guard=none/\r.on=true)\/∃ j wt t,o.guard=some (j,wt)/\idst l j=some t/\t ∈ r.U/\((∃ rj,rs[j]? = some rj/\j<i/\rj.on=false/\r.on=false)\/∃ b,lookA r.fr0 t=some (one (.bool (.lit b)))/\r.on=(b == wt))
theorem Rn {a:RC} (h:okI a b=true):okI b a=true:=by
 have g:disj a.ch b.ch=true->disj b.ch a.ch=true:=fun h=>cG.2 fun i c f=>cG.1 h i f c;unfold okI at h ⊢;grind
theorem zO {m:Nat} {b:RC}:∀ {l:List RC} {k:Nat},Ib m b k l=true->∀ i a,l[i]? = some a->bitN m (k+i)=true\/(OkD a b/\OkD b a/\okI a b=true)
 | [],_,_,i,a,h=>by simp at h
 | x :: r,k,h,i,a,c=>by
  simp only [Ib,Bool.and_eq_true,Bool.or_eq_true] at h;cases i with
  | zero=>
   simp at c; subst c;exact h.1.imp id fun ⟨⟨f,g⟩,p⟩=>⟨He f,He g,p⟩
  | succ i=>
   have:=zO h.2 i a (by simpa using c);grind
theorem vK {b:RC}:∀ {l:List RC},yk b l=true->∀ a ∈ l,∀ d,a.dst=some d->b.dst≠some d
 | [],_,a,h,_,_=>by simp at h
 | x :: r,h,a,ha,d,c=>by
  simp only [yk,Bool.and_eq_true] at h;rcases ado.1 ha with rfl | ha
  ·intro f;simp_all
  exact vK h.2 a ha d c
structure OkAt (bef:List Nat) (j:Nat) (b:RC) (done:List RC):Prop where
 fit:b.Fit
 U:∀ i ∈ slotIds b.fr0 b.U,i<b.base
 σ:∀ i ∈ objIds b.H0 b.σ,i<b.base
 σb:∀ i ∈ b.σ,i<b.base
 ch:∀ i ∈ b.ch,i<b.base
 row:∀ i a,done[i]? = some a->bitN (bef.getD j 0) i=true\/(OkD a b/\OkD b a/\okI a b=true)
 dst:∀ a ∈ done,∀ d,a.dst=some d->b.dst≠some d
theorem Gg {c:List Nat}:∀ {rest done:List RC} {j:Nat},done.length=j->DO c j done rest=true->∀ i b,rest[i]? = some b->OkAt c (j+i) b ((done++rest).take (j+i))
 | [],_,_,_,_,i,b,h=>by simp at h
 | x :: r,done,j,m,h,i,b,f=>by
  simp only [DO,Bool.and_eq_true] at h;obtain ⟨⟨⟨⟨⟨⟨⟨⟨⟨p,q⟩,s⟩,v⟩,g⟩,y⟩,z⟩,D⟩,A⟩,B⟩:=h;cases i with
  | zero=>
   simp at f; subst f;have e:(done++x :: r).take (j+0)=done:=by rw [aln,<- m]; simp
   rw [e,aln];exact ⟨⟨aaA p,ag1 q⟩,gY.1 s,gY.1 v,gY.1 g,gY.1 y,fun i a C=>by
    have:=zO A i a C;rwa [adz] at this,vK z⟩
  | succ i=>
   have:=Gg (rest:=r) (done:=done++[x]) (j:=j+1) (by simp [m]) B i b (by simpa using f);rw [show j+1+i=j+(i+1) by omega] at this;simpa using this
section
variable {P:Program} {T:List (Nat × TI)} {shp:TypeId->Option Sh} {n:Nat} {ro:Lv} {l:List Oper}
def FrA (c:Cx) (ρ:List RE) (n:Nat) (fr:AFr) (a:Act):Prop:=∀ t v,lookA fr t=some v->t<n/\Rt c ρ v (a.tmps.getD t undef)
def Uf (G:Gl) (ro:Lv) (c:List RE) (m:World) (n:Nat) (g:AFr × AH) (f:List RC) (s:Nat->Bool) (a:Act) (w:World):Prop:=
 ∃ ρ,Stp ro c m ρ w/\Rep G ρ (iX s 0 f g).2 w/\FrA (cx G ρ w) ρ n (iX s 0 f g).1 a/\a.defers=[]/\a.tmps.size=n/\∀ k r,f[k]? = some r->s k=true->(∀ p ∈ r.fc,p)/\(r.on=false->∀ d,r.dst=some d->a.tmps.getD d undef=undef)
def Ak (a:Act):AFr->Fr
 | []=>[]
 | (t,_) :: r=>(t,a.tmps.getD t undef) :: Ak a r
theorem pw {a:Act} {t:Nat} {v:Value}:∀ {fr:AFr},look (Ak a fr) t=some v->v=a.tmps.getD t undef/\∃ c,lookA fr t=some c
 | (i,x) :: r,h=>by
  simp only [Ak,aV] at h;rw [dD];by_cases f:i=t
  ·simp_all
  rw [if_neg f] at h ⊢; exact pw h
theorem j_ {fr:AFr} {t:Nat} {g:TV}:∀ {U:List Nat},lookA (dA fr U) t=some g->t ∈ U/\lookA fr t=some g
 | u :: r,h=>by
  simp only [dA] at h;split at h
  ·rename_i v p;rw [dD] at h;by_cases m:u=t
   ·grind
   rw [if_neg m] at h;obtain ⟨c,f⟩:=j_ h; exact ⟨by simp [c],f⟩
  obtain ⟨c,f⟩:=j_ h; exact ⟨by simp [c],f⟩
theorem mf {fr:AFr} {q:Nat × TV}:∀ {U:List Nat},q ∈ dA fr U->q.1 ∈ U/\lookA fr q.1=some q.2
 | u :: r,h=>by
  simp only [dA] at h;split at h
  ·rename_i v g;rcases ado.1 h with rfl | h
   ·grind
   obtain ⟨c,f⟩:=mf h; exact ⟨by simp [c],f⟩
  obtain ⟨c,f⟩:=mf h; exact ⟨by simp [c],f⟩
theorem rv {c:Cx} {ρ:List RE} {a:Act}:∀ {fr:AFr},(∀ q ∈ fr,Rt c ρ q.2 (a.tmps.getD q.1 undef))->FrR c ρ fr (Ak a fr)
 | [],_=>.nil
 | (t,v) :: r,h=>.cons ⟨rfl,h (t,v) aa⟩ (rv fun q f=>h q (by simp [f]))
def nO (h:a.defers=[]) (c:a.tmps.size=n):(a.put d u).defers=[]/\(a.put d u).tmps.size=n:=by cases d <;> simp [Act.put,h,c]
def Jb {v:TV}:killTV mv v=v.mapA (AV.cq mv):=by
 cases mv with
 | cons _ _=>rfl
 | nil=>
  have e:∀ a:AV,a.cq []=a:=fun a=>gD aa;cases v with
  | one t=>exact congrArg TV.one (ui fun a _=>e a).symm
  | tup l=>exact congrArg TV.tup (xV fun t _ a _=>e a).symm
  | un=>rfl
def Rt.MY {c g:Cx} {f:List RE} (m:∀ a v,Rd c ρ a v->Rd g f (AV.cq mv a) v) {t:TV} {v:Value} (h:Rt c ρ t v):Rt g f (killTV mv t) v:=by
 rw [Jb];cases t with
 | one t=>exact ye m h
 | tup l=>obtain ⟨p,e,h⟩:=h; exact ⟨p,e,Hv m h⟩
 | un=>trivial
theorem Rep.q {G:Gl} {A B:AH} (h:Rep G ρ A w) (m:B.length=A.length) (p:∀ x:Nat,OOq (B[x]?) (A[x]?)):Rep G ρ B w:=by
 refine ⟨cC (by rw [m]; exact h.obj.length) fun x o r s v=>?_,h.inj,h.bnd,h.z,h.b0,h.tb⟩;have:=p x;rw [s] at this;cases f:A[x]? with
 | none=>rw [f] at this; cases this
 | some o'=>
  rw [f] at this;cases this with
  | some y=>
   obtain ⟨C,c,g⟩:=h.at_ f;rw [v] at c; cases c;exact y.symm.or g
def FW {c:Cx} {b:Bool} {v:Value} (h:Rt c ρ (one (.bool (.lit b))) v):v = .bool b:=by
 cases h; rfl
variable {G:Gl} {ρ0:List RE} {w0:World} {q0:AFr × AH} {rs:List RC}
theorem Pp (hG:G.shp=shp) (hro:∀ i,ro.wr i=false\/ro.mv i=false->i<ρ0.length) (hq0:∀ i,i<ρ0.length->(ro.wr i=false\/ro.mv i=false)->i<q0.2.length) (hp:∀ i,∀ j ∈ bK l i,j<i) (hc:fU q0 rs) (hok:DO (iY [] l) 0 [] rs=true) (hlen:rs.length=l.length) (hrc:∀ i o r,l[i]? = some o->rs[i]? = some r->RcOK P shp n ro l rs o i r)
  (hob:∀ i r,rs[i]? = some r->(∀ j r',rs[j]? = some r' -> bitN ((iY [] l).getD i 0) j=true->∀ p ∈ r'.fc,p)->∀ p ∈ r.ob,p)
  {s:Nat->Bool} {o:Oper} (inv:Uf G ro ρ0 w0 n q0 rs s a w) (ho:l[i]? = some o) (hsi:s i=false) (hpre:∀ j ∈ bK l i,s j=true) (hcl:∀ k,s k=true->∀ j ∈ bK l k,s j=true) :
  Le P l.toArray (fun e a' w'=>e = .normal/\Uf G ro ρ0 w0 n q0 rs (fun j=>s j || Nat.beq i j) a' w') [o] a w:=by
 obtain ⟨ρ,hS,hR,hf,Y,F,hfc⟩:=inv;have hil:i<l.length:=(aad.1 ho).1;obtain ⟨b,hb⟩:∃ b,rs[i]? = some b:=⟨_,List.getElem?_eq_getElem aI⟩;have m:=hrc i o b ho hb;have okAt:∀ j r,rs[j]? = some r->OkAt (iY [] l) j r (rs.take j):=fun j r z=>by
  have:=Gg (done:=[]) rfl hok j r z;simpa using this
 have Q:=okAt i b hb;have hbits:∀ j,bitN ((iY [] l).getD i 0) j=true->s j=true:=sP hp hcl i i (Nat.le_refl _) hil hpre
 have S:∀ j r,rs[j]? = some r->j<i->s j=true\/(OkD b r/\OkD r b/\okI b r=true):=fun j r z hj=>by
  rcases Q.row j r (by rw [agZ,if_pos hj]; exact z) with h | ⟨f,y,X⟩
  ·exact .inl (hbits j h)
  exact .inr ⟨y,f,Rn X⟩
 have V:∀ j r,rs[j]? = some r->i<j->s j=false\/(OkD b r/\OkD r b/\okI b r=true):=fun j r z hj=>by
  cases hsj:s j with
  | false=>exact .inl rfl
  | true=>
   right;rcases (okAt j r z).row i b (by rw [agZ,if_pos hj]; exact hb) with h | ⟨f,y,X⟩
   ·have hjl:j<l.length:=by rw [<- hlen]; exact (aad.1 z).1
    have:=sP hp hcl j j (Nat.le_refl _) hjl (hcl j hsj) i h;rw [hsi] at this; cases this
   exact ⟨f,y,X⟩
 have hdsts:∀ j r,rs[j]? = some r->i≠j->∀ d,b.dst=some d->r.dst≠some d:=fun j r z hj d O=>by
  rcases Nat.lt_or_gt_of_ne hj with h | h
  ·exact (okAt j r z).dst b (adB (by rw [agZ,if_pos h]; exact hb)) d O
  intro hrd;exact Q.dst r (adB (by rw [agZ,if_pos h]; exact z)) d hrd O
 have hrs:rs=rs.take i++b :: rs.drop (i+1):=by
  have f:=(aad.1 hb);obtain ⟨f,y⟩:=f;rw [<- y,<- ag2 f,List.take_append_drop]
 have hti:(rs.take i).length=i:=by
  have:=(aad.1 hb).1;simp; omega
 generalize hpreD:rs.take i=pre at hrs hti;generalize hpostD:rs.drop (i+1)=post at hrs;have hpre_at:∀ j r,pre[j]? = some r->rs[j]? = some r/\j<i:=fun j r h=>by
  have hj:=(aad.1 h).1;rw [<- hpreD,agZ] at h;split at h
  ·exact ⟨h,‹_›⟩
  cases h
 have C:∀ j r,post[j]? = some r->rs[i+1+j]? = some r:=fun j r h=>by
  rw [<- hpostD,afX] at h; exact h
 have hcp:fU q0 pre/\fU (prg pre q0) (b :: post):=by rw [hrs] at hc; exact fU.Sw.1 hc
 obtain ⟨hc1,hb1,L,g,hc2⟩:=hcp;have A:b.base=(prg pre q0).2.length:=by rw [<- L]; exact g.base
 have hst:∀ s',iX s' 0 rs q0=iX s' (i+1) post (bif s' i then b.app (iX s' 0 pre q0) else b.KO (iX s' 0 pre q0)):=fun s'=>by
  rw [hrs,Iq,hti,adz]; rfl
 have hl1:(iX s 0 pre q0).2.length=b.base:=by rw [A]; exact xu hc1 rfl
 have hag:Agr b (iX s 0 pre q0) (prg pre q0):=HR hc1 (fun j r z=>by
  rw [adz];obtain ⟨f,y⟩:=hpre_at j r z;exact (S j r f y).imp id fun ⟨X,_,h4⟩=>⟨X,h4⟩) ⟨rfl,fun _ _=>rfl,fun _ _=>rfl,fun _ _=>rfl⟩
 have hgb:AgrB b (iX s 0 rs q0):=by
  rw [hst s,hsi,cond_false];refine Ad g hc2 (by rw [cm g A.symm]; exact Nat.le_refl _) ((gP g hl1).trans (cm g A.symm).symm) (fun j r z=>(V _ r (C j r z) aI).imp id fun ⟨X,_,h4⟩=>⟨X,h4⟩) ?_;refine ⟨fun x K hlt=>?_,fun x K hlt=>?_,fun t T=>?_,fun x K hlt=>?_⟩
  ·rw [iE g hl1,if_pos hlt,hag.ob x K,L]
  ·rw [iE g hl1,if_pos hlt,hag.kd x K,L]
  ·show lookA (iX s 0 pre q0).1 t=_;rw [hag.sl t T,hb1]
  rw [iE g hl1,if_neg aI,if_pos hlt]
 have D:Rel b (iX (fun j=>s j || Nat.beq i j) 0 rs q0) (iX s 0 rs q0):=by
  rw [hst s,hst (fun j=>s j || Nat.beq i j),hsi,cond_false];have e1:(false || Nat.beq i i)=true:=by simp
  rw [e1,cond_true];have ne:∀ j,j≠i->(s j || Nat.beq i j)=s j:=fun j hj=>by
   have:Nat.beq i j=false:=by rw [<- Bool.not_eq_true,Nat.beq_eq]; exact fun e=>hj e.symm
   rw [this,Bool.or_false]
  have e2:iX (fun j=>s j || Nat.beq i j) 0 pre q0=iX s 0 pre q0:=pT fun j _ hj=>ne j aI;have e3:∀ q,iX (fun j=>s j || Nat.beq i j) (i+1) post q=iX s (i+1) post q:=fun q=>pT fun j hj _=>ne j aI;rw [e2,e3];refine Hf g Q.ch hc2 (by rw [cm g A.symm]; exact Nat.le_refl _) ((gP g hl1).trans (cm g A.symm).symm) (fun j r z=>⟨V _ r (C j r z) aI,hdsts _ r (C j r z) aI⟩) (KM g hl1)
 have hSl:b.res.length<=(iX s 0 rs q0).2.length:=by
  have f:(iX s 0 rs q0).2.length=(prg rs q0).2.length:=xu hc rfl;rw [f,hrs,yK];have:=Em hc2;rw [cm g A.symm] at this;exact this
 have hge:q0.2.length<=b.base:=by rw [A]; exact Em hc1
 generalize hq:iX s 0 rs q0=q at hR hf hgb D hSl;generalize hq':iX (fun j=>s j || Nat.beq i j) 0 rs q0=q' at D;have part:Part G ρ q.2 w b.base b.res.length:=⟨hR,g.le,hSl,hgb.gn⟩
 have hmask:maskH b.σ 0 (q.2.take b.base)=maskH b.σ 0 b.H0:=by
  refine List.ext_getElem? fun x=>?_;rw [oo,oo,agZ,adz];by_cases K:x<b.base
  ·rw [if_pos K];by_cases hm:x ∈ b.σ
   ·rw [hgb.ob x hm K]
   simp only [if_neg hm];have f:x<q.2.length:=by have:=g.le; omega
   have y:x<b.H0.length:=by have:=g.base; omega
   rw [List.getElem?_eq_getElem f,List.getElem?_eq_getElem y]; rfl
  rw [if_neg K,List.getElem?_eq_none (l:=b.H0) (by have:=g.base; omega)]
 have hσids:∀ x ∈ b.σ,∀ k ∈ (getO q.2 x).ids,k<b.base:=fun x K k I=>by
  have:=hgb.ob x K (Q.σb x K);have e:getO q.2 x=getO b.H0 x:=by unfold getO; rw [List.getD_eq_getElem?_getD,List.getD_eq_getElem?_getD,this]
  rw [e] at I;exact Q.σ k (uB I K)
 have N:∀ t ∈ b.U,∀ v,lookA b.fr0 t=some v->t<n/\Rt (cx G ρ w) ρ v (a.tmps.getD t undef):=fun t T v hv=>hf t v (by rw [hgb.sl t T]; exact hv);have hslotIds:∀ t ∈ b.U,∀ v,lookA b.fr0 t=some v->∀ k ∈ v.ids,k<b.base:=fun t T v hv k I=>Q.U k (qE hv I T);have hro':∀ k,ro.wr k=false\/ro.mv k=false->k<b.base:=fun k I=>ac2 (hq0 k (hro k I) I) hge
 have hgs:∀ j wt t,o.guard=some (j,wt)->idst l j=some t->t ∈ b.U->∀ c,lookA b.fr0 t=some (one (.bool (.lit c)))->t<n/\a.tmps.getD t undef = .bool c:=fun j wt t _ _ T c hc=>by
  obtain ⟨f,y⟩:=N t T _ hc;exact ⟨f,FW y⟩
 have clause:∀ u k r,rs[k]? = some r->k≠i->s k=true->(∀ p ∈ r.fc,p)/\(r.on=false->∀ d,r.dst=some d->(a.put o.dst u).tmps.getD d undef=undef):=fun u k r z I hsk=>by
  obtain ⟨f,y⟩:=hfc k r z hsk;refine ⟨f,fun hoff d O=>?_⟩;have hkl:k<l.length:=by rw [<- hlen]; exact (aad.1 z).1
  have hrk:=hrc k _ r (List.getElem?_eq_getElem hkl) z;have hdn:d<n:=by have:=hrk.dn d (by rw [<- hrk.dst]; exact O); exact Nat.blt_eq.mp this
  rw [l_ F hdn,if_neg (fun e=>hdsts k r z (Ne.symm I) d (by rw [m.dst]; exact e) O)];exact y hoff d O
 have hsne:∀ k,(s k || Nat.beq i k)=true->k≠i->s k=true:=fun k I hne=>by
  have:Nat.beq i k=false:=by rw [<- Bool.not_eq_true,Nat.beq_eq]; exact fun e=>hne e.symm
  rwa [this,Bool.or_false] at I
 have fin:∀ u w' Z,b.ent=none->Stp ⟨fun i=>cf i b.ch && ro.wr i,fun i=>cf i b.mv && ro.mv i⟩ (ρ.take b.base) w Z w' -> Rep (Gz G (ρ.drop b.res.length)) Z b.res w' -> Rt (cx (Gz G (ρ.drop b.res.length)) Z w') Z b.v u->(∀ p ∈ b.fc,p)->(b.on=false->u=undef)->Uf G ro ρ0 w0 n q0 rs (fun j=>s j || Nat.beq i j) (a.put o.dst u) w':=by
  intro u w' Z W qU hRt hv hfcb hoff;obtain ⟨k1,k2,k3,k4⟩:=part.merge rfl rfl W Q.ch hro' qU hRt D.len D.ob;refine ⟨_,hS.trans k2,by rw [hq']; exact k1,fun t v B=>?_,(nO Y F).1,(nO Y F).2,fun k r z hsk=>?_⟩
  ·rw [hq',D.sl t] at B;unfold RC.endF at B;by_cases O:b.dst=some t
   ·rw [if_pos O] at B;cases B;rw [m.dst] at O;have htn:t<n:=Nat.blt_eq.mp (m.dn t O);rw [l_ F htn,if_pos O];exact ⟨htn,k4 _ _ hv⟩
   rw [if_neg O,ago] at B;obtain ⟨v0,f,rfl⟩:=B;obtain ⟨y,X⟩:=hf t v0 f;rw [m.dst] at O;rw [l_ F y,if_neg O];exact ⟨y,X.MY k3⟩
  by_cases I:k=i
  ·subst I;rw [hb] at z; cases z;refine ⟨hfcb,fun ho' d O=>?_⟩;rw [m.dst] at O;rw [l_ F (Nat.blt_eq.mp (m.dn d O)),if_pos O];exact hoff ho'
  exact clause u k r z I (hsne k hsk I)
 cases J:b.on with
 | false=>
  obtain ⟨e1,e2,e3,e4,e5,e6,e7⟩:=m.off J;rcases m.gd with ⟨_,y⟩ | ⟨j,wt,t,hg,T,htU,H⟩
  ·rw [J] at y; cases y
  have htv:t<n/\(a.tmps.getD t undef = .bool (!wt)\/a.tmps.getD t undef=undef):=by
   rcases H with ⟨rj,hrj,hji,hoffj,_⟩ | ⟨c,hc,L⟩
   ·have hjl:j<l.length:=by omega
    have hrcj:=hrc j _ rj (List.getElem?_eq_getElem hjl) hrj;have hdj:rj.dst=some t:=by
     rw [hrcj.dst];have:=T;rw [ko,List.getElem?_eq_getElem hjl] at this;exact this
    have hsj:s j=true:=by
     rcases S j rj hrj hji with h | ⟨h,_,_⟩
     ·exact h
     exact absurd htU (h.dst t hdj)
    exact ⟨Nat.blt_eq.mp (hrcj.dn t (by rw [<- hrcj.dst]; exact hdj)),.inr ((hfc j rj hrj hsj).2 hoffj t hdj)⟩
   obtain ⟨f,y⟩:=hgs j wt t hg T htU c hc;refine ⟨f,.inl ?_⟩;rw [y];rw [J] at L;cases c <;> cases wt <;> simp at L ⊢
  refine Ll Y F m.dn hg T htv.1 htv.2 ⟨rfl,fin undef w (ρ.take b.base) e5 (Stp.refl _ _ _) ?_ (by rw [e6]; trivial) (by rw [e7]; simp) fun _=>rfl⟩;have key:maskH b.σ 0 (q.2.take b.base)=b.res:=by rw [hmask,e3,e4]
  have hm:=part.mask hσids;rw [key] at hm;exact hm
 | true=>
  have hg:∀ j wt,o.guard=some (j,wt)->∃ t,idst l j=some t/\t<n/\a.tmps.getD t undef = .bool wt:=fun j wt hgd=>by
   rcases m.gd with ⟨f,_⟩ | ⟨j',wt',t,hg,T,htU,H⟩
   ·rw [hgd] at f; cases f
   rw [hgd] at hg; cases hg;rcases H with ⟨_,_,_,_,h⟩ | ⟨c,hc,L⟩
   ·rw [J] at h; cases h
   obtain ⟨f,y⟩:=hgs j wt t hgd T htU c hc;refine ⟨t,T,f,?_⟩;rw [y];rw [J] at L;cases c <;> cases wt <;> simp at L ⊢
  have hF:∀ k v,look (Ak a (dA b.fr0 b.U)) k=some v->k<n/\a.tmps.getD k undef=v:=fun k v I=>by
   obtain ⟨f,tv,y⟩:=pw I;obtain ⟨X,h4⟩:=j_ y;exact ⟨(N k X tv h4).1,f.symm⟩
  rcases m.run J with ⟨W,hrun⟩ | ⟨e,p,W,hch,hmv,hv,hfcb,hres,hst2,hrun⟩
  ·have hy:=hrun (Gz G (ρ.drop b.res.length)) (ρ.take b.base) w (Ak a (dA b.fr0 b.U)) hG (by rw [<- hmask]; exact part.mask hσids) (rv fun x K=>by
    obtain ⟨f,y⟩:=mf K;refine (N _ f _ y).2.on part.cle fun k I r z _=>?_;rw [agZ,if_pos (hslotIds _ f _ y k I)]; exact z) (hob i b hb fun j r' hr' hbit=>(hfc j r' hr' (hbits j hbit)).1)
   exact Gw Y F hF hy m.dn (m.st J) hg fun u w' ⟨Z,f,y,X,h4⟩=>⟨rfl,fin u w' Z W f y X h4 fun h=>by rw [J] at h; cases h⟩
  have hpb:p<b.base:=Q.ch p (by rw [hch]; simp);obtain ⟨w',f,y,X⟩:=hrun G ρ w (Ak a (dA b.fr0 b.U)) q.2 hG hR (rv fun x K=>by
   obtain ⟨f,y⟩:=mf K;exact (N _ f _ y).2) (hgb.kd p (by rw [hch]; simp) hpb)
  have hdst:=m.st J hst2;refine Gw (Φ:=fun u x=>u=undef/\x=w') Y F hF (.inr ⟨hst2,w',f,rfl,rfl⟩) m.dn (m.st J) hg fun u x ⟨_,K⟩=>?_;subst K;have hle:=X.ext.le hR.lo;refine ⟨rfl,ρ,hS.trans X,?_,fun t v B=>?_,(nO Y F).1,(nO Y F).2,fun k r z hsk=>?_⟩
  ·rw [hq'];refine y.q (by rw [aeD]; exact D.len) fun x=>?_;have:=D.ob x;have hpl:p<q.2.length:=by omega
   by_cases hxp:x=p
   ·subst hxp;rw [aeb hpl];rw [List.getElem?_eq_getElem hpl,Option.map_some,RC.endO,if_neg aI,RC.obj,if_pos (by rw [hch]; simp),W] at this;rw [gU (List.getElem?_eq_getElem hpl)];exact this
   rw [List.getElem?_set_ne (fun e=>hxp e.symm)];have e9:(q.2[x]?).map (b.endO x)=q.2[x]?:=by
    cases q.2[x]? with
    | none=>rfl
    | some o=>
     rw [Option.map_some,RC.endO,if_neg aI,RC.ft (by rw [hch]; simpa using hxp),hmv];rfl
   rw [e9] at this;exact this
  ·rw [hq',D.sl t] at B;unfold RC.endF at B;rw [m.dst,hdst,if_neg aa,hmv] at B;have hv2:lookA q.1 t=some v:=by
    cases K:lookA q.1 t with
    | none=>rw [K] at B; cases B
    | some v0=>rw [K] at B; exact B
   obtain ⟨h5,h6⟩:=hf t v hv2;rw [l_ F h5,hdst,if_neg aa];exact ⟨h5,h6.carry hle (kB.refl _)⟩
  by_cases I:k=i
  ·subst I;rw [hb] at z; cases z;exact ⟨by rw [hfcb]; simp,fun h=>by rw [J] at h; cases h⟩
  exact clause u k r z I (hsne k hsk I)
end
end Go.Proofs.YticbaadnibdbkaaGreat
