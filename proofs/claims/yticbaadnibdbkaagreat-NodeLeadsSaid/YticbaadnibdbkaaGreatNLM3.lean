/- What leads to the law, part 3. Conditions: each lemma's own. -/
import Derived.Scope
import Derived.Test.YticbaadnibdbkaaGreatNLM2
set_option linter.unusedVariables false
set_option linter.unusedSimpArgs false
set_option maxHeartbeats 2000000
set_option linter.defProp false
namespace Go.Proofs.YticbaadnibdbkaaGreat
open Go.RowKit
def ahd:=@Nat.mul_le_mul_left
def ahh:=@List.length_replicate
def ahm:=@Nat.min_eq_right
def ahl:=@List.mem_map_of_mem
section
variable {G:Gl} {ρ:List RE} {H:AH} {w w':World}
theorem iX (hR:Rep G ρ H w) {id:Nat} {e e':TypeId} {s s':Sh} {xs:List (den s)} {zs:List (den s')} (hH:getO H id = .row e s xs) {ro:Lv} (hro:ro.mv id=true/\ro.wr id=true) {S:List Nat} (hk:Kp S w w') (hS:∀ g ∈ S,∃ r,ρ[id]? = some r/\r.g? = some g) {r':RE} (hr':∀ g,r'.g? = some g->(∃ r,ρ[id]? = some r/\r.g? = some g)\/(w.heap.size<=g/\g<w'.heap.size))
  (ho:(cx G ρ w).le (cx G (ρ.set id r') w')->OR (cx G (ρ.set id r') w') (ρ.set id r') (.row e' s' zs) r') :
  Stp ro ρ w (ρ.set id r') w' /\ Rep G (ρ.set id r') ((ic (AV.kill id) H).set id (.row e' s' zs)) w' /\ (∀ fr F,FrR (cx G ρ w) ρ fr F->FrR (cx G (ρ.set id r') w') (ρ.set id r') (iU (AV.kill id) fr) F):=by
 obtain ⟨hnb,hil,hiH⟩:=ma hR hH;have hlv:∀ b,b<w.heap.size->¬ live ρ b->¬ live (ρ.set id r') b:=fun b hb hl h=>(yJ h).elim hl fun h2=>by
  rcases hr' b h2 with ⟨r,h3,h4⟩ | h3
  ·exact hl ⟨id,r,h3,h4⟩
  omega
 have hblk:∀ b,b<w.heap.size->(∀ r,ρ[id]? = some r->r.g? ≠ some b)->w'.heap[b]? = w.heap[b]?:=fun b hb hn=>hk.block b hb fun hm=>by
  obtain ⟨r,h1,h2⟩:=hS b hm;exact hn r h1 h2
 have hext:Ext ρ w (ρ.set id r') w':=⟨hk.os,hk.tape,hk.output,hk.size,fun b hb hl=>⟨hlv b hb hl,hblk b hb fun r h1 h2=>hl ⟨id,r,h1,h2⟩⟩⟩;have hle:=hext.le hR.lo;have hne:∀ j r,id≠j->ρ[j]? = some r->(ρ.set id r')[j]? = some r:=fun j r hij h=>by rw [iE hij]; exact h
 have hcap:∀ q v,dP ρ q v->dP (ρ.set id r') q v:=fun q v ⟨g,h1,h2⟩=>⟨g,hne _ _ (fun e=>hnb g (e ▸ h1)) h1,h2⟩;have hrd:∀ a v,Rd (cx G ρ w) ρ a v->Rd (cx G (ρ.set id r') w') (ρ.set id r') (a.kill id) v:=by
  intro a v h;cases a with
  | own j=>
   simp only [AV.kill];cases hb:Nat.beq id j
   ·have hij:id≠j:=by rintro rfl; simp at hb
    rcases h with ⟨g,cap,len,z,h,e⟩ | ⟨h,e⟩
    ·exact .inl ⟨g,cap,len,z,hne _ _ hij h,e⟩
    exact .inr ⟨hne _ _ hij h,e⟩
   exact Rd.one h
  | sub j o k=>
   simp only [AV.kill];cases hb:Nat.beq id j
   ·have hij:id≠j:=by rintro rfl; simp at hb
    rcases h with ⟨g,cap,len,z,h,e⟩ | ⟨h,e⟩
    ·exact .inl ⟨g,cap,len,z,hne _ _ hij h,e⟩
    exact .inr ⟨hne _ _ hij h,e⟩
   exact Rd.one h
  | elp j k o=>
   simp only [AV.kill];cases hb:Nat.beq id j
   ·have hij:id≠j:=by rintro rfl; simp at hb
    obtain ⟨g,cap,len,z,h,e⟩:=h;exact ⟨g,cap,len,z,hne _ _ hij h,e⟩
   exact Rd.one h
  | ptr j o=>exact hcap _ _ h
  | mq j=>
   obtain ⟨g,h1,e⟩:=h;exact ⟨g,hne _ _ (fun e=>hnb g (e ▸ h1)) h1,e⟩
  | fn f b cs=>
   obtain ⟨bs,us,h1,h2,e⟩:=h;exact ⟨bs,us,h1.imp fun _ _ h=>hcap _ _ h,h2.imp fun _ _ h=>hcap _ _ h,e⟩
  | fe s' x o=>
   obtain ⟨A,cells,h1,h2,h3,e⟩:=h;exact ⟨A,cells,(hle.S _ h1).1,h2.keep (hle.S _ h1).2,h3.carry hle,e⟩
  | np=>exact h
  | nf=>exact h
  | yl l=>exact h
  | xx k cs=>
   obtain ⟨us,h1,h2⟩:=h;exact ⟨us,h1.imp fun _ _ h=>hcap _ _ h,h2.le hle⟩
  | dead=>exact h
  | int n=>exact Pd.carry h hle
  | u8 b=>exact Pd.carry h hle
  | u64 n=>exact Pd.carry h hle
  | bool e=>exact Pd.carry h hle
  | str s=>exact Pd.carry h hle
  | em b=>exact Pd.carry h hle
  | li nw xs=>exact Pd.carry h hle
  | fz s xs=>exact Pd.carry h hle
 have hoth:∀ j r g,id≠j->ρ[j]? = some r->r.g? = some g->w'.heap[g]? = w.heap[g]?:=fun j r g hij h1 h2=>hblk g (hR.bnd j r g h1 h2).2.1 fun r2 h3 h4=>hij (hR.inj _ _ _ _ g h3 h1 h4 h2);have key:∀ (a:Nat) (r:RE) (g:Nat),(ρ.set id r')[a]? = some r->r.g? = some g->(id≠a/\ρ[a]? = some r)\/(id=a/\((∃ r,ρ[id]? = some r/\r.g? = some g)\/(w.heap.size<=g/\g<w'.heap.size))):=fun a r g h1 h2=>by
  by_cases hia:id=a
  ·subst hia;rw [adh hil] at h1; cases h1;exact .inr ⟨rfl,hr' g h2⟩
  rw [iE hia] at h1; exact .inl ⟨hia,h1⟩
 refine ⟨⟨hext,fun j r hj h=>hne j r (by rintro rfl; rw [hro.1] at hj; cases hj) h,fun j r hj h=>⟨hne j r (by rintro rfl; rw [hro.2] at hj; cases hj) h,fun g hg=>hoth j r g (by rintro rfl; rw [hro.2] at hj; cases hj) h hg⟩,fun j g h=>hne j _ (fun e=>hnb g (e ▸ h)) h⟩,⟨cg (by simp [eL,hR.obj.length]) fun j o r ho' hr=>?_,fun a b r1 r2 g h1 h2 h3 h4=>?_,fun j r g h1 h2=>?_,fun b hb=>ac3 (hR.z b hb) hk.size,Nat.le_trans hR.b0 hk.size,hR.tb.carry hle⟩,fun fr F h=>rH hrd h⟩
 ·by_cases hij:id=j
  ·grind
  rw [List.getElem?_set_ne hij,lh] at ho';rw [iE hij] at hr;rw [adg] at ho';obtain ⟨o',ho2,rfl⟩:=ho';obtain ⟨r2,hr2,hor⟩:=hR.at_ ho2;rw [hr] at hr2; cases hr2;exact hor.map hle hrd fun g hg=>hoth j r g hij hr hg
 ·rcases key a r1 g h1 h3 with ⟨k1,k2⟩ | ⟨k1,k2⟩ <;> rcases key b r2 g h2 h4 with ⟨k3,k4⟩ | ⟨k3,k4⟩
  ·exact hR.inj a b r1 r2 g k2 k4 h3 h4
  ·rcases k4 with ⟨r,k5,k6⟩ | k4
   ·exact absurd (hR.inj _ _ _ _ g k5 k2 k6 h3) k1
   have:=(hR.bnd a r1 g k2 h3).2.1; omega
  ·rcases k2 with ⟨r,k5,k6⟩ | k2
   ·exact absurd (hR.inj _ _ _ _ g k5 k4 k6 h4) k3
   have:=(hR.bnd b r2 g k4 h4).2.1; omega
  omega
 rcases key j r g h1 h2 with ⟨k1,k2⟩ | ⟨k1,k2⟩
 ·have:=hR.bnd j r g k2 h2;exact ⟨this.1,ac3 this.2.1 hk.size,this.2.2⟩
 rcases k2 with ⟨r,k5,k6⟩ | k2
 ·have:=hR.bnd _ r g k5 k6;exact ⟨this.1,ac3 this.2.1 hk.size,this.2.2⟩
 exact ⟨Nat.le_trans hR.b0 k2.1,k2.2,fun hz=>by have:=hR.z g hz; omega⟩
end
section
variable {P:Program} {T:List (Nat × TI)} {G:Gl} {O:bD} {n:Nat} {F:Fr} {w:World} {x y:Operand} {ty t:TypeId} {ρ:List RE} {H:AH} {fr:AFr} {ro:Lv}
variable {b:AV}
theorem mw (hR:Rep G ρ H w) {vb:Value} {s:Sh} {ys:List (den s)} (h:(b.vw H).fC s=some ys) (hb:Rd (cx G ρ w) ρ b vb):∃ A k cys,vb = .slice A ys.length k/\cys.length=ys.length*s.size/\(∀ u ∈ cys,u.oneCell' = true)/\(ys.length=0\/∃ ad,A=some ad/\CellsAt w ad cys)/\Pds (cx G ρ w) (ys.flatMap (cellsOf s)) cys:=by
 have hfz:∀ v,b.vw H = .fz s v->∃ A k cys,vb = .slice A v.length k/\cys.length=v.length*s.size/\(∀ u ∈ cys,u.oneCell' = true)/\(v.length=0\/∃ ad,A=some ad/\CellsAt w ad cys)/\Pds (cx G ρ w) (v.flatMap (cellsOf s)) cys:=fun v hv=>by
  obtain ⟨a,k,cells,rfl,h1,h2,h3,h4⟩:=(DB hR hv hb).ex;refine ⟨a,k,cells,rfl,by rw [<- h3.length,bR],h3.Lo,?_,h3⟩;rcases h4 with h4 | ⟨A,hA,_,hc⟩
  ·grind
  exact .inr ⟨A,hA,hc⟩
 cases hv:b.vw H with
 | fz s' zs=>
  rw [hv] at h;simp only [AV.fC] at h;grind
 | em c=>
  rw [hv] at h;cases h;have hbe:b = .em c:=by
   cases b <;> simp only [AV.vw] at hv <;> first | (cases hv <;> rfl) | (split at hv <;> cases hv)
  subst hbe;cases hb with | @em _ a _=>
  exact ⟨a,0,[],rfl,by simp,by simp,.inl rfl,.nil⟩
 | _=>rw [hv] at h; simp [AV.fC] at h
variable {m:Nat} {e:TypeId}
theorem nU {lo:Nat} {s:Nat} {v:Value} {cs:List Value} (h:w.ownsRow lo e s v m cs):(v = .slice none 0 0/\m=0)\/∃ g cap sp,v = .slice (some ⟨g,0,none⟩) m cap/\w.heap[g]? = some (.cells (List.toArray (cs++sp)) e (0,0))/\(cs++sp).length=cap*s/\m<=cap/\cap<=maxLen:=by
 rcases h.2 with h0 | ⟨g,cap,cur,hv,_,hh,hn,hm,hs,ht⟩
 ·grind
 refine .inr ⟨g,cap,cur.toList.drop (m*s),hv,?_,?_,hn,hm⟩
 ·rw [<- ht,List.take_append_drop]; simpa using hh
 grind
variable {r:SR} {va:Value} {a:AV}
theorem lD (hR:Rep G ρ H w) (hf:FrR (cx G ρ w) ρ fr F) {op:Op} {s:Sh} {ys:List (den s)} {cys:List Value} (hshp:G.shp e=some s) (s4:Pds (cx G ρ w) (ys.flatMap (cellsOf s)) cys)
  (run:∀ (m:Nat) (olds:List Value),((m=0/\olds=[]/\∃ a,va = .slice a 0 0)\/w.ownsRow 0 e s.size va m olds)->(m+ys.length)*s.bytes<=140737488355328 ->
     ∃ v' w',aD P n F w op ty v' w' /\ ((m+ys.length=0/\∃ a,v' = .slice a 0 0)\/w'.ownsRow 0 e s.size v' (m+ys.length) (olds++cys))/\Kp (ob va) w w' /\ (∀ g ∈ ob v',g ∈ ob va\/(g=w.heap.size/\w.heap.size<w'.heap.size)))
  (h:kU ro fr H e s ys a=some r) (hob:∀ p ∈ r.ob,p) (ha:Rd (cx G ρ w) ρ a va) :
  ∃ v w',aD P n F w op ty v w' /\ eB G ro ρ w r F v w':=by
 unfold kU at h
 -- what a row of one's own becomes
 have ownStep:∀ (id:Nat) (xs zs:List (den s)) (m:Nat),getO H id = .row e s xs->(ro.mv id=true/\ro.wr id=true)->m=zs.length->(∀ (v':Value) (w':World),w'.heap.size=w'.heap.size)->(m+ys.length)*s.bytes<=140737488355328 ->
   ((va = .slice (some ⟨0,0,none⟩) 0 0->True))->(∃ olds,((m=0/\olds=[]/\∃ a,va = .slice a 0 0)\/w.ownsRow 0 e s.size va m olds)/\Pds (cx G ρ w) (zs.flatMap (cellsOf s)) olds)->(∀ g ∈ ob va,∃ r,ρ[id]? = some r/\r.g? = some g) ->
   ∃ v w',aD P n F w op ty v w' /\ eB G ro ρ w ⟨one (.own id),iU (AV.kill id) fr,(ic (AV.kill id) H).set id (.row e s (zs++ys)),[],[]⟩ F v w':=by
  intro id xs zs m hH hro hm _ hlen _ ⟨olds,hrow,hpo⟩ hobv;subst hm;obtain ⟨_,hil,_⟩:=ma hR hH;obtain ⟨v',w',h1,h2,h3,h4⟩:=run zs.length olds hrow hlen;have hlap:(zs++ys).length=zs.length+ys.length:=List.length_append;have done:∀ (r':RE),(∀ g,r'.g? = some g->(∃ r,ρ[id]? = some r/\r.g? = some g)\/(w.heap.size<=g/\g<w'.heap.size))->((cx G ρ w).le (cx G (ρ.set id r') w')->OR (cx G (ρ.set id r') w') (ρ.set id r') (.row e s (zs++ys)) r')->Rd (cx G (ρ.set id r') w') (ρ.set id r') (.own id) v' -> ∃ v w',aD P n F w op ty v w' /\ eB G ro ρ w ⟨one (.own id),iU (AV.kill id) fr,(ic (AV.kill id) H).set id (.row e s (zs++ys)),[],[]⟩ F v w':=fun r' k1 k2 k3=>by
   obtain ⟨k4,k5,k6⟩:=iX hR hH hro h3 hobv k1 k2;exact ⟨v',w',h1,ρ.set id r',k4,k5,k6 fr F hf,k3,by simp⟩
  rcases h2 with ⟨h0,a',rfl⟩ | h2
  ·refine done .emp (by rintro g ⟨⟩) (fun _=>⟨hshp,by rw [hlap]; exact hlen,.inl ⟨rfl,acr (by omega)⟩⟩) (.inr ⟨adh hil,a',rfl⟩)
  rcases nU h2 with ⟨rfl,h0⟩ | ⟨g,cap,sp,rfl,k1,k2,k3,k4⟩
  ·refine done .emp (by rintro g ⟨⟩) (fun _=>⟨hshp,by rw [hlap]; exact hlen,.inl ⟨rfl,acr (by omega)⟩⟩) (.inr ⟨adh hil,none,rfl⟩)
  by_cases hc0:cap=0
  ·subst hc0;have hm0:zs.length+ys.length=0:=by omega
   exact done .emp (by rintro g ⟨⟩) (fun _=>⟨hshp,by rw [hlap]; exact hlen,.inl ⟨rfl,acr (by omega)⟩⟩) (.inr ⟨adh hil,some ⟨g,0,none⟩,by rw [hm0]⟩)
  refine done (.row g cap (zs++ys).length s.size) (fun g' hg'=>?_) (fun hle=>⟨hshp,by rw [hlap]; exact hlen,.inr ⟨g,cap,olds++cys,sp,rfl,k1,?_,k2,by rw [hlap]; exact k3,k4⟩⟩) (.inl ⟨g,cap,(zs++ys).length,s.size,adh hil,by rw [hlap]⟩)
  ·cases hg';rcases h4 g (by simp [ob,hc0]) with h5 | ⟨h5,h6⟩
   ·exact .inl (hobv g h5)
   exact .inr ⟨by omega,by omega⟩
  rw [List.flatMap_append];exact (hpo.append s4).carry hle
 split at h
 ·-- no room
  cases h;cases ha with | @em _ a0 _=>
  have hlen:=hob _ (ab3 _);obtain ⟨v',w',h1,h2,h3,h4⟩:=run 0 [] (.inl ⟨rfl,rfl,a0,rfl⟩) (by simpa using hlen);have hk:Kp [] w w':=h3.sub fun g hg=>by cases a0 <;> simp [ob] at hg
  simp only [ac_,ahp] at h2;have fin:∀ (a':Option Addr),ys=[]->v' = .slice a' 0 0->eB G ro ρ w ⟨one (.own H.length),fr,H++[.row e s ys],[ys.length*s.bytes<=140737488355328],[]⟩ F v' w':=fun a' hy0 hv=>by
   obtain ⟨ρ',k1,k2,k3,k4⟩:=NS (ro:=ro) hR hf hk hshp hy0 a';subst hv;exact ⟨ρ',k1,k2,k3,k4,by simp⟩
  refine ⟨v',w',h1,?_⟩;rcases h2 with ⟨h0,a',hv⟩ | h2
  ·exact fin a' (acr h0) hv
  rcases nU h2 with ⟨hv,h0⟩ | ⟨g,cap,sp,rfl,k1,k2,k3,k4⟩
  ·exact fin none (acr h0) hv
  by_cases hc0:cap=0
  ·subst hc0;have hm0:ys.length=0:=by omega
   exact fin _ (acr hm0) (by rw [hm0])
  rcases h4 g (by simp [ob,hc0]) with h5 | ⟨h5,h6⟩
  ·cases a0 <;> simp [ob] at h5
  subst h5;obtain ⟨ρ',j1,j2,j3,j4⟩:=pP (ro:=ro) hR hf hk k1 hshp hlen s4 k2 k3 k4;exact ⟨ρ',j1,j2,j3,j4,by simp⟩
 ·-- a row
  rename_i id;split at h
  ·rename_i e' s' xs hH;split at h
   ·rename_i hss;subst hss;split at h
    ·rename_i hck;cases h;simp only [Bool.and_eq_true] at hck;have he:=abk hck.2;subst he;have hlen:=hob _ (ab3 _);have hmain:=ownStep id xs xs xs.length hH hck.1 rfl (fun _ _=>rfl) hlen (fun _=>trivial);rcases bl hR hH with ⟨h0,rfl⟩ | ⟨g,cap,cells,sp,h2,h3,h4,h5,h6,h7⟩
     ·rcases ha with ⟨_,_,_,_,h8,_⟩ | ⟨_,a0,rfl⟩
      ·rw [h0] at h8; cases h8
      obtain ⟨v,w',k1,ρ',k2,k3,k4,k5,k6⟩:=hmain ⟨[],.inl ⟨rfl,rfl,a0,rfl⟩,.nil⟩ (fun g hg=>by cases a0 <;> simp [ob] at hg);exact ⟨v,w',k1,ρ',k2,k3,k4,k5,k6⟩
     rcases ha with ⟨_,_,_,_,h8,rfl⟩ | ⟨h8,_⟩
     ·rw [h2] at h8; cases h8;obtain ⟨v,w',k1,ρ',k2,k3,k4,k5,k6⟩:=hmain ⟨cells,.inr ⟨by rw [<- h4.length,bR],.inr ⟨g,cap,_,rfl,afV _,h3,h6,h7,by simpa using h5,by
       have hcl:cells.length=xs.length*s'.size:=by rw [<- h4.length,bR]
       rw [<- hcl]; simp⟩⟩,h4⟩ (fun g' hg'=>by
        simp only [ob] at hg';split at hg'
        ·simp at hg'
        simp at hg'; subst hg'; exact ⟨_,h2,rfl⟩)
      exact ⟨v,w',k1,ρ',k2,k3,k4,k5,k6⟩
     rw [h2] at h8; cases h8
    cases h
   cases h
  cases h
 ·-- a row's beginning
  rename_i id len;split at h
  ·rename_i e' s' xs hH;split at h
   ·rename_i hss;subst hss;split at h
    ·rename_i hck;cases h;simp only [Bool.and_eq_true] at hck;have he:=abk hck.2;subst he;have hlen:=hob _ (ab3 _);rcases bl hR hH with ⟨h0,rfl⟩ | ⟨g,cap,cells,sp,h2,h3,h4,h5,h6,h7⟩
     ·rcases ha with ⟨_,_,_,_,h8,_⟩ | ⟨_,_,rfl,a0,rfl⟩
      ·rw [h0] at h8; cases h8
      obtain ⟨v,w',k1,ρ',k2,k3,k4,k5,k6⟩:=ownStep id [] ([].take 0) 0 hH hck.1 rfl (fun _ _=>rfl) hlen (fun _=>trivial) ⟨[],.inl ⟨rfl,rfl,a0,rfl⟩,.nil⟩ (fun g hg=>by cases a0 <;> simp [ob] at hg);exact ⟨v,w',k1,ρ',k2,k3,k4,k5,k6⟩
     rcases ha with ⟨_,_,_,_,h8,h9,rfl⟩ | ⟨h8,_⟩
     ·rw [h2] at h8; cases h8;have hlt:(xs.take len).length=len:=by simp; omega
      have hcl:cells.length=xs.length*s'.size:=by rw [<- h4.length,bR]
      have hmul:len*s'.size<=xs.length*s'.size:=adk _ (by omega);obtain ⟨v,w',k1,ρ',k2,k3,k4,k5,k6⟩:=ownStep id xs (xs.take len) len hH hck.1 hlt.symm (fun _ _=>rfl) hlen (fun _=>trivial) ⟨cells.take (len*s'.size),.inr ⟨by rw [List.length_take]; omega,.inr ⟨g,cap,_,by rw [ahx,ahw],afV _,h3,by omega,h7,by simpa using h5,by
       rw [List.toList_toArray,ado (by omega)]⟩⟩,bk h4 len⟩ (fun g' hg'=>by
        simp only [ob] at hg';split at hg'
        ·simp at hg'
        simp at hg'; subst hg'; exact ⟨_,h2,rfl⟩)
      exact ⟨v,w',k1,ρ',k2,k3,k4,k5,k6⟩
     rw [h2] at h8; cases h8
    cases h
   cases h
  cases h
 cases h
theorem jD (hT:aY P G.shp T) (hR:Rep G ρ H w) (hf:FrR (cx G ρ w) ρ fr F) {vb:Value} (h:jo T ro fr H t a b=some r) (hob:∀ p ∈ r.ob,p) (ha:Rd (cx G ρ w) ρ a va) (hb:Rd (cx G ρ w) ρ b vb) (hx:ev F x=some va) (hy:ev F y=some vb) :
  ∃ v w',aD P n F w (.call { callee:=.builtin .append,args:=#[x,y],argTypes:=#[t,t] }) ty v w' /\ eB G ro ρ w r F v w':=by
 unfold jo at h;split at h
 ·rename_i e s sz z hft;obtain ⟨hu,hs⟩:=(hT _ _ hft).2;obtain ⟨hshp,⟨zz,hz,hzb⟩,_⟩:=hs s rfl;have hzl:zz.length=s.size:=by
   have:=(jk (c:=cx G ρ w) (ρ:=ρ) hzb).length;rw [cF] at this; exact this.symm
  split at h
  ·rename_i ys hys;obtain ⟨A,k,cys,rfl,s1,s2,s3,s4⟩:=mw hR hys hb;refine lD (ty:=ty) hR hf hshp s4 (fun m olds hrow hlen=>?_) h hob ha;have h63:m+ys.length<=9223372036854775807:=by
    have:=ahd (m+ys.length) (gC s);omega
   obtain ⟨v',w',h1,h2⟩:=xy (P:=P) (w:=w) (ty:=ty) (cy:=k) hu hz hzl (size_pos s) (lo:=0) (afV _) hrow s1 s2 s3 hlen h63;exact ⟨v',w',fun a _ _ _ _ ha=>by simp [execOp,resolve,invoke,builtin,ha.ev hx,ha.ev hy,h1],h2⟩
  cases h
 cases h
variable {t':TypeId}
theorem sB {z:List Value} (ht:P.underlying t=some (.slice e)) (ht':P.underlying t' = some .string) (hi':(P.info? e).map (fun i=>(i.zero.map Value.cells,i.size,i.bytes))=some (some z.toArray,1,1)) (hz:(P.info? e).bind (·.zero)=some (.int .u8 0))
  {v:Value} {olds:List Value} (hrow:(m=0/\olds=[]/\∃ a,v = .slice a 0 0)\/w.ownsRow 0 e 1 v m olds) (s:ByteArray) (hlen:m+s.size<=140737488355328) :
  ∃ v' w',(Builtin.append_ #[t,t'] ty #[v,.string s]).run P w = .ok v' w' /\ ((m+s.size=0/\∃ a,v' = .slice a 0 0)\/w'.ownsRow 0 e 1 v' (m+s.size) (olds++Lib.strCells s))/\Kp (ob v) w w' /\ (∀ g ∈ ob v',g ∈ ob v\/(g=w.heap.size/\w.heap.size<w'.heap.size)):=by
 obtain ⟨i,zv,hq,hzv,hzc,hsz,hby⟩:=pO hi';have hzv':i.zero=some (.int .u8 0):=by
  rw [hq] at hz; exact hz
 have h63:m+s.size<=maxLen:=by simp only [maxLen]; omega
 have hgrown:∀ (v':Value) (w':World) (k c:Nat),v' = .slice (some ⟨w.heap.size,0,none⟩) k c->w'.ownsRow 0 e 1 v' k (olds++Lib.strCells s)->∀ g ∈ ob v',g ∈ ob v\/(g=w.heap.size/\w.heap.size<w'.heap.size):=fun v' w' k c hv hown g hg=>by
  have h1:=wL hg;have h2:=(hown.lt _ h1).2;subst hv;have h1:w.heap.size=g:=adb h1;exact .inr ⟨h1.symm,by omega⟩
 by_cases hcap:∃ a,v = .slice a 0 0
 ·obtain ⟨a0,rfl⟩:=hcap;have hm0:m=0/\olds=[]:=by
   rcases hrow with ⟨h1,h2,_⟩ | h1
   ·exact ⟨h1,h2⟩
   have hm:m=0:=by
    rcases h1.2 with ⟨_,h0⟩ | ⟨g,cap,cur,hv,_,_,hn,_⟩
    ·exact h0
    injection hv with _ e1 _; exact e1.symm
   refine ⟨hm,acr ?_⟩;rw [h1.1,hm,ahx]
  obtain ⟨rfl,rfl⟩:=hm0;have hob0:∀ g,g ∉ ob (.slice a0 0 0):=fun g hg=>by cases a0 <;> simp [ob] at hg
  by_cases h0:s.size=0
  ·refine ⟨.slice a0 0 0,w,?_,.inl ⟨by omega,a0,rfl⟩,(Kp.refl w).sub (by simp),fun g hg=>.inl hg⟩;have hf:=Lib.run_firstCells_string (P:=P) w 1 s;have hn:Lib.strCells s=[]:=acr (by rw [Lib.strCells_length]; exact h0);rw [h0,hn] at hf;cases a0 <;> simp [Builtin.append_,run_underlying ht,run_underlying ht',sizeOf,typeInfo,hq,hsz,Builtin.lenOf,h0,hf,storeCells]
  obtain ⟨v',w',hr,hown,hgr,_⟩:=Lib.run_append_own_string (P:=P) w 0 t t' ty e i ht ht' hq hzv' hsz hby (.slice none 0 0) 0 [] (World.ownsRow_nil _ _ _ _) s h63 hlen (afV _);have hr2:=run_append_nil_string (P:=P) w t t' ty e i (.int .u8 0) ht ht' hq hzv' s (by omega) (by omega) (by rw [hby]; omega);rw [hr] at hr2;injection hr2 with e1 e2;have heq:(Builtin.append_ #[t,t'] ty #[.slice a0 0 0,.string s]).run P w = .ok v' w':=by
   cases a0 with
   | none=>exact hr
   | some b0=>
    rw [Lib.run_append_grow_string (P:=P) w t t' ty e i (.int .u8 0) ht ht' hq hzv' b0 0 0 [] (by simp) (by simp) s (by omega) (by omega) (by rw [hby]; exact ahI (by omega) (by omega)),e1,e2];have e3:(s.data.map fun b=>Value.int .u8 b.toNat)=(Lib.strCells s).toArray:=by
     apply agt;simp [Lib.strCells]
    simp [e3]
  exact ⟨v',w',heq,.inr (by simpa using hown),⟨hgr.os,hgr.tape,hgr.output,hgr.size,fun b hb _=>hgr.block b hb (by simp [Value.ownBlock])⟩,fun g hg=>hgrown v' w' _ _ e1 (by simpa using hown) g hg⟩
 have hown:w.ownsRow 0 e 1 v m olds:=by
  rcases hrow with ⟨_,_,h⟩ | h1
  ·exact absurd h hcap
  exact h1
 obtain ⟨v',w',hr,hown',hgr,_⟩:=Lib.run_append_own_string (P:=P) w 0 t t' ty e i ht ht' hq hzv' hsz hby v m olds hown s h63 hlen (afV _);obtain ⟨g,cap,cur,rfl,hc0,hg,hnc,hcs,hl⟩:∃ g cap cur,v = .slice (some ⟨g,0,none⟩) m cap/\cap≠0/\w.heap[g]? = some (.cells cur e (0,0))/\m<=cap/\cur.size=cap/\(∀ j u,olds[j]? = some u->w.cell? ((⟨g,0,none⟩:Addr).add j)=some u):=by
  rcases hown.2 with ⟨h,_⟩ | ⟨g,cap,cur,rfl,_,hg,hnc,_,hcs,_⟩
  ·exact absurd ⟨none,h⟩ hcap
  refine ⟨g,cap,cur,rfl,fun h0=>hcap ⟨some ⟨g,0,none⟩,?_⟩,hg,hnc,by simpa using hcs,hown.cells (g:=g) rfl⟩;subst h0;rw [show m=0 by omega]
 have hobg:ob (.slice (some ⟨g,0,none⟩) m cap)=[g]:=by simp [ob,hc0]
 refine ⟨v',w',hr,.inr hown',⟨hgr.os,hgr.tape,hgr.output,hgr.size,fun b hb hn=>hgr.block b hb fun he=>hn (by rw [hobg]; simpa [Value.ownBlock] using he)⟩,?_⟩;by_cases hroom:m+s.size<=cap
 ·have hr2:=Lib.run_append_room_string (P:=P) w t t' ty e i ht ht' hq hsz g m cap cur hg s hroom (by omega);rw [hr] at hr2;injection hr2 with e1 e2;intro g' hg';subst e1;have h1:=wL hg';have h1:g=g':=adb h1;subst h1;exact .inl (by rw [hobg]; simp)
 have hr2:=Lib.run_append_grow_string (P:=P) w t t' ty e i (.int .u8 0) ht ht' hq hzv' ⟨g,0,none⟩ m cap olds (by rw [hsz]; exact hown.1) hl s (by omega) (by omega) (by rw [hby]; exact ahI (by omega) (by omega));rw [hr] at hr2;injection hr2 with e1 e2;exact hgrown v' w' _ _ e1 hown'
theorem tz (hT:aY P G.shp T) (hR:Rep G ρ H w) (hf:FrR (cx G ρ w) ρ fr F) {vb:Value} (h:wF T ro fr H t t' a b=some r) (hob:∀ p ∈ r.ob,p) (ha:Rd (cx G ρ w) ρ a va) (hb:Rd (cx G ρ w) ρ b vb) (hx:ev F x=some va) (hy:ev F y=some vb) :
  ∃ v w',aD P n F w (.call { callee:=.builtin .append,args:=#[x,y],argTypes:=#[t,t'] }) ty v w' /\ eB G ro ρ w r F v w':=by
 unfold wF at h;split at h
 ·rename_i e sz z sz' z' s hft hft';obtain ⟨hu,hs⟩:=(hT _ _ hft).2;obtain ⟨hshp,⟨zz,hz,hzb⟩,hu8⟩:=hs .u8 rfl;have hu':=(hT _ _ hft').2;cases hb with | str hl=>
  have hp:Pds (cx G ρ w) (s.b.flatMap (cellsOf .u8)) (Lib.strCells ⟨s.b.toArray⟩):=by
   have:Lib.strCells ⟨s.b.toArray⟩=s.b.map fun b=>Value.int .u8 (b.toNat:Int):=by simp [Lib.strCells]
   rw [this];generalize s.b=l;induction l with
   | nil=>exact .nil
   | cons b l ih=>exact .cons .u8 ih
  refine lD (ty:=ty) hR hf hshp hp (fun m olds hrow hlen=>?_) h hob ha;obtain ⟨v',w',h1,h2⟩:=sB (P:=P) (w:=w) (ty:=ty) hu hu' hz (hu8 rfl).2 hrow ⟨s.b.toArray⟩ (by simpa [Sh.bytes,ByteArray.size] using hlen);exact ⟨v',w',fun a _ _ _ _ ha=>by simp [execOp,resolve,invoke,builtin,ha.ev hx,ha.ev hy,Str.val,h1],by rw [show (ByteArray.mk s.b.toArray).size=s.b.length by simp [ByteArray.size]] at h2; exact h2⟩
 cases h
end
theorem gT {f:Nat->AO}:∀ {l:List Nat} {H:AH},(l_ f l H).length=H.length
 | [],_=>rfl
 | i :: r,H=>by rw [l_,gT,adn]
theorem tW {f:Nat->AO} {j:Nat}:∀ {l:List Nat} {H:AH},j<H.length->(l_ f l H)[j]? = if j ∈ l then some (f j) else H[j]?
 | [],_,_=>by simp [l_]
 | i :: r,H,hj=>by
  rw [l_,tW (by rw [adn]; exact hj)];grind
theorem gN {H:AH} {i:Nat}:∀ {l:List Nat},i ∈ rowsOf H l↔i ∈ l/\((∃ t s xs,getO H i = .row t s xs)\/getO H i = .loc)
 | []=>by simp [rowsOf]
 | j :: r=>by
  unfold rowsOf;split
  ·rename_i t s xs h;simp only [ac4,gN];grind
  ·rename_i h;simp only [ac4,gN];grind
  rename_i hn hl;simp only [gN];grind
theorem uw {ro:Lv}:∀ {l:List Nat},yQ ro l=true↔∀ i ∈ l,ro.wr i=true/\ro.mv i=true
 | []=>by simp [yQ]
 | i :: r=>by simp [yQ,uw]
theorem nT {b:Sh} {o:AO}:∀ {H:AH},sC b H=true->o ∈ H->sC b [o]=true
 | o' :: r,h,hm=>by
  rcases ac4.1 hm with rfl | hm
  ·cases o <;> simp only [sC] at h ⊢ <;> simp_all
  exact nT (H:=r) (by cases o' <;> simp only [sC,Bool.and_eq_true] at h <;> first | exact h | exact h.2) hm
variable {b:Sh} {t:TypeId} {H:AH}
theorem Pl {cs:List AV} (h:sC b H=true) (hm:.box t cs ∈ H):Zh b cs=true:=by simpa [sC] using nT h hm
theorem QM {s:Sh} {xs:List (den s)} (h:sC b H=true) (hm:.row t s xs ∈ H):iT (Sh.no 5 b) s.gy=true:=by simpa [sC] using nT h hm
theorem QW {s:Sh} {f:Int->Option (den s)} (h:sC b H=true) (hm:.mapo s f ∈ H):iT (Sh.no 5 b) s.gy=true:=by simpa [sC] using nT h hm
variable {n:Nat}
theorem QG {s:Sh} {xs:List (den s)} (h:sC b H=true) (hm:.arr t s n xs ∈ H):iT (Sh.no 5 b) s.gy=true:=by simpa [sC] using nT h hm
theorem Dj {b:Sh}:∀ {l:List (Int × AV)},noM b l=true->∀ q ∈ l,q.2.no b=true
 | (k,a) :: r,h,q,hq=>by
  simp only [noM,Bool.and_eq_true] at h;rcases ac4.1 hq with rfl | hq
  ·exact h.1
  exact Dj h.2 q hq
variable {l:List (Int × AV)}
theorem Iw (h:sC b H=true) (hm:.mapf l ∈ H):noM b l=true:=by simpa [sC] using nT h hm
variable {σ:List Nat} {j:Nat}
theorem Cv (hn:σ.Nodup) (hj:j<σ.length):posOf σ[j] σ=j:=by
 have h1:=jX (σ:=σ) (adV hj);have h2:=(aam.1 h1);obtain ⟨h3,h4⟩:=h2;exact (List.getElem_inj hn).1 h4
def fL (ρ:List RE) (σ:List Nat) (ρ2:List RE):List RE:=((List.range ρ.length).map fun j=>if j ∈ σ then ρ2.getD (posOf j σ) .no else ρ.getD j .no)++ρ2.drop σ.length
variable {ρ2 ρ:List RE}
theorem jr (hj:j<ρ.length):(fL ρ σ ρ2)[j]? = some (if j ∈ σ then ρ2.getD (posOf j σ) .no else ρ.getD j .no):=by
 unfold fL;grind
theorem wE (hj:ρ.length<=j):(fL ρ σ ρ2)[j]? = ρ2[σ.length+(j - ρ.length)]?:=by
 unfold fL;grind
section
variable {P:Program} {G:Gl} {O:bD} {n:Nat} {F:Fr} {w:World} {ρ:List RE} {H:AH} {fr:AFr} {ro:Lv}
theorem ug (hO:ay P G.shp O) (hR:Rep G ρ H w) (hf:FrR (cx G ρ w) ρ fr F) {f:Nat} {a:List TV1} {lent:List Nat} {vs:List Value} {r:SR}
  (hvs:∀ (G':Gl) (σ:List Nat),G'.shp=G.shp->(cx G ρ w).le (cx G' (cR ρ σ) w)->(∀ i ∈ pH a,i ∈ σ)->(∀ id ∈ lent,∀ g cap len z,ρ[id]? = some (.row g cap len z)->(cx G' (cR ρ σ) w).S g)->All2 (cO (cx G' (cR ρ σ) w) (cR ρ σ)) (iC (posOf · σ) a) vs)
  (hlent:∀ id ∈ lent,∀ r,ρ[id]? = some r->r ≠ .no->(∃ t s xs,getO H id = .row t s xs))
  (h:Eg O ro fr H f a lent=some r) (hob:∀ p ∈ r.ob,p) :
  (∃ fn,P.funcs[f]? = some fn/\(fn.name == "runtime.NumGoroutine")=false/\fn.body.isNone=false)/\jI P f vs.toArray w fun v w'=>eB G ro ρ w r F v w':=by
 unfold Eg at h;generalize sJ H a=σ at h;simp only at h;split at h
 ·rename_i hck;simp only [Bool.and_eq_true] at hck;obtain ⟨⟨⟨⟨hn,hai⟩,hcl⟩,hno⟩,hge⟩:=hck;split at h
  ·rename_i pre rs H' kp hrs;split at h
   ·rename_i hck2;cases h;simp only [Bool.and_eq_true] at hck2;have hlenH:=adl hck2.1;have hsh:=fH.1 hck2.2;have hai:=jb.1 hai;have hno:=lT.1 hno;have hge:=uw.1 hge;have hnd:=jj.1 hn;have hclo:=iu.1 hcl;let lt:Nat->Prop:=fun b=>∃ id ∈ lent,∃ rr,ρ[id]? = some rr/\rr.g? = some b
    let Z':Nat->Prop:=fun b=>G.Z b\/(live ρ b/\¬ live (cR ρ σ) b/\¬ lt b)
    have hsub:∀ (b i:Nat) (r:RE),ρ[i]? = some r->r.g? = some b->live (cR ρ σ) b->i ∈ σ:=by
     rintro b i r h1 h2 ⟨j,r2,h3,h4⟩;have e:=eY h3 (by rintro rfl; cases h4);have e2:=hR.inj _ _ _ _ b h1 e h2 h4;have hj:j<σ.length:=by simpa [cR] using (aam.1 h3).1
     have a1:σ.getD j 0=σ[j]:=by rw [List.getD_eq_getElem?_getD,List.getElem?_eq_getElem hj]; rfl
     rw [e2,a1]; exact adV _
    have hltσ:∀ b,lt b->¬ live (cR ρ σ) b:=by
     rintro b ⟨id,hid,rr,h1,h2⟩ hl;exact hno id hid (hsub b id rr h1 h2 hl)
    obtain ⟨hR',hle⟩:=hR.sub (σ:=σ) (Z':=Z') hn hcl (fun b hb=>hb.elim (hR.z b) fun ⟨⟨i,r,h1,h2⟩,_⟩=>(hR.bnd i r b h1 h2).2.1) (fun b h1 h2 hz=>hz.elim h1 fun h3=>h2 h3.1)
     (fun b h1 hz=>hz.elim (fun h2=>by obtain ⟨i,r,h3,h4⟩:=ga h1; exact (hR.bnd i r b h3 h4).2.2 h2) fun h2=>h2.2.1 h1)
    obtain ⟨hfn,hrun⟩:=hO _ _ _ _ hrs hob;refine ⟨hfn,?_⟩;have hargs:=hvs ⟨G.shp,G.B0,Z'⟩ σ rfl hle hai fun id hid g cap len z h1=>by
     have hl:lt g:=⟨id,hid,_,h1,rfl⟩;have hb:=hR.bnd _ _ g h1 rfl;exact ⟨hb.2.1,hltσ g hl,fun hz=>hz.elim hb.2.2 fun h2=>h2.2.2 hl⟩
    refine (hrun ⟨G.shp,G.B0,Z'⟩ _ w vs rfl hR' hargs).mono fun v w' ⟨us,hv,ρ2,hR2,hext2,hbx2,hrs',_⟩=>?_;have hl2:H'.length=ρ2.length:=hR2.obj.length;have hHρ:H.length=ρ.length:=hR.obj.length;have hτlt:∀ {j:Nat},j<σ.length->fK H σ j=σ.getD j 0:=fun {j} hj=>by
     unfold fK;have:Nat.ble σ.length j=false:=by rw [<- Bool.not_eq_true,Nat.ble_eq]; omega
     rw [this]; rfl
    have hτge:∀ {j:Nat},σ.length<=j->fK H σ j=H.length+(j - σ.length):=fun {j} hj=>by
     unfold fK;have:Nat.ble σ.length j=true:=by rw [Nat.ble_eq]; exact hj
     rw [this]; rfl
    have hσlt:∀ i ∈ σ,i<ρ.length:=fun i hi=>by rw [<- hHρ]; exact (hclo i hi).1
    have hτ:∀ (j:Nat) (r:RE),ρ2[j]? = some r->(fL ρ σ ρ2)[fK H σ j]? = some r:=fun j r hj=>by
     by_cases hjn:j<σ.length
     ·rw [hτlt hjn];have a1:σ.getD j 0=σ[j]:=by rw [List.getD_eq_getElem?_getD,List.getElem?_eq_getElem hjn]; rfl
      rw [a1,jr (hσlt _ (adV hjn)),if_pos (adV hjn),Cv hnd hjn,getD_some hj]
     rw [hτge (by omega),wE (by omega),hHρ,<- hj];congr 1; omega
    -- where what stands at a place comes from
    have hmix:∀ (i:Nat) (r:RE) (g:Nat),(fL ρ σ ρ2)[i]? = some r->r.g? = some g->(i<ρ.length/\i ∉ σ/\ρ[i]? = some r)\/∃ j,ρ2[j]? = some r/\fK H σ j=i:=fun i r g h1 h2=>by
     by_cases hi:i<ρ.length
     ·rw [jr hi] at h1;by_cases hm:i ∈ σ
      ·rw [if_pos hm] at h1;cases h1;have hp:=jX hm;obtain ⟨hpl,hpe⟩:=aam.1 hp;refine .inr ⟨posOf i σ,?_,?_⟩
       ·cases hq:ρ2[posOf i σ]? with
        | none=>rw [List.getD_eq_getElem?_getD,hq] at h2; cases h2
        | some r'=>rw [getD_some hq]
       rw [hτlt hpl,List.getD_eq_getElem?_getD,hp]; rfl
      rw [if_neg hm] at h1;cases h1;have:ρ[i]? = some ρ[i]:=List.getElem?_eq_getElem hi;exact .inl ⟨hi,hm,by rw [getD_some this]; exact this⟩
     rw [wE (by omega)] at h1;refine .inr ⟨σ.length+(i - ρ.length),h1,?_⟩;rw [hτge (by omega),hHρ]; omega
    have hτinj:∀ (j j':Nat),j<ρ2.length->j' < ρ2.length->fK H σ j=fK H σ j' -> j=j':=fun j j' hj hj' he=>by
     by_cases h1:j<σ.length <;> by_cases h2:j' < σ.length
     ·rw [hτlt h1,hτlt h2] at he;rw [List.getD_eq_getElem?_getD,List.getElem?_eq_getElem h1,List.getD_eq_getElem?_getD,List.getElem?_eq_getElem h2] at he;exact (List.getElem_inj hnd).1 he
     ·rw [hτlt h1,hτge (by omega),List.getD_eq_getElem?_getD,List.getElem?_eq_getElem h1] at he;have:=(hclo _ (adV h1)).1;simp only [Option.getD_some] at he; omega
     ·rw [hτge (by omega),hτlt h2,List.getD_eq_getElem?_getD,List.getElem?_eq_getElem h2] at he;have:=(hclo _ (adV h2)).1;simp only [Option.getD_some] at he; omega
     rw [hτge (by omega),hτge (by omega)] at he; omega
    have hlive2:∀ b,live ρ2 b->live (cR ρ σ) b\/w.heap.size<=b:=fun b hl=>by
     by_cases hb:b<w.heap.size
     ·by_cases hs:live (cR ρ σ) b
      ·exact .inl hs
      exact absurd hl (hext2.old b hb hs).1
     exact .inr aK
    -- what is not the callee's stays
    have hoth:∀ (i:Nat) (r:RE) (g:Nat),i ∉ σ->ρ[i]? = some r->r.g? = some g->¬ live ρ2 g/\w'.heap[g]? = w.heap[g]?:=fun i r g hi h1 h2=>
     hext2.old g (hR.bnd i r g h1 h2).2.1 fun hl=>hi (hsub g i r h1 h2 hl)
    have hlv:∀ b,b<w.heap.size->¬ live ρ b->¬ live (fL ρ σ ρ2) b:=fun b hb hl ⟨i,r,h1,h2⟩=>by
     rcases hmix i r b h1 h2 with ⟨_,_,h3⟩ | ⟨j,h3,_⟩
     ·exact hl ⟨i,r,h3,h2⟩
     rcases hlive2 b ⟨j,r,h3,h2⟩ with h4 | h4
     ·exact hl (ga h4)
     omega
    have hext:Ext ρ w (fL ρ σ ρ2) w':=⟨hext2.os,hext2.tape,hext2.output,hext2.size,fun b hb hl=>⟨hlv b hb hl,(hext2.old b hb fun h=>hl (ga h)).2⟩⟩;have hle1:=hext.le hR.lo;have hstp:Stp ro ρ w (fL ρ σ ρ2) w':=by
     refine ⟨hext,fun i r hi hr=>?_,fun i r hi hr=>?_,fun i g hi=>?_⟩
     ·have him:i ∉ σ:=fun hm=>by have:=(hge i hm).2; rw [hi] at this; cases this
      rw [jr (aam.1 hr).1,if_neg him,getD_some hr]
     ·have him:i ∉ σ:=fun hm=>by have:=(hge i hm).1; rw [hi] at this; cases this
      have hil:=(aam.1 hr).1;refine ⟨?_,fun g hg=>(hoth i r g him hr hg).2⟩;rw [jr hil,if_neg him,getD_some hr]
     have hil:=(aam.1 hi).1;rw [jr hil];by_cases hm:i ∈ σ
     ·rw [if_pos hm];have:=hbx2 (posOf i σ) g (g_ hm hi);rw [getD_some this]
     rw [if_neg hm,getD_some hi]
    -- the frame's values and the others' objects
    have hag:∀ (i:Nat) (r:RE),(i ∉ σ\/∃ g,r = .blk g)->ρ[i]? = some r->(fL ρ σ ρ2)[i]? = some r:=fun i r hh hr=>by
     rcases hh with hh | ⟨g,rfl⟩
     ·rw [jr (aam.1 hr).1,if_neg hh,getD_some hr]
     exact hstp.bx i g hr
    have hcap:∀ q v,dP ρ q v->dP (fL ρ σ ρ2) q v:=fun q v ⟨g,h1,h2⟩=>⟨g,hag _ _ (.inr ⟨g,rfl⟩) h1,h2⟩;have hrow:∀ (i:Nat) (r:RE),ρ[i]? = some r->(r = .emp\/∃ g cap len z,r = .row g cap len z)->bQ i (rowsOf H σ)=false->i ∉ σ:=fun i r h1 h2 h3 hm=>by
     have hlt:=(hclo i hm).1;obtain ⟨r',hr',hor⟩:=hR.at_ (List.getElem?_eq_getElem hlt);rw [h1] at hr'; cases hr';have hO:getO H i=H[i]:=by unfold getO; rw [List.getD_eq_getElem?_getD,List.getElem?_eq_getElem hlt]; rfl
     cases ho:H[i] with
     | gone=>rw [ho] at hor; rcases h2 with rfl | ⟨_,_,_,_,rfl⟩ <;> cases hor
     | box t cs=>rw [ho] at hor; obtain ⟨g,_,e,_⟩:=hor; subst e; rcases h2 with h2 | ⟨_,_,_,_,h2⟩ <;> cases h2
     | mapo s f=>rw [ho] at hor; obtain ⟨g,e,_⟩:=hor; subst e; rcases h2 with h2 | ⟨_,_,_,_,h2⟩ <;> cases h2
     | loc=>
      have:i ∈ rowsOf H σ:=gN.2 ⟨hm,.inr (by rw [hO,ho])⟩;rw [bj.2 this] at h3; cases h3
     | mapf l=>rw [ho] at hor; obtain ⟨g,e,_⟩:=hor; subst e; rcases h2 with h2 | ⟨_,_,_,_,h2⟩ <;> cases h2
     | arr t s n xs=>rw [ho] at hor; obtain ⟨g,_,e,_⟩:=hor; subst e; rcases h2 with h2 | ⟨_,_,_,_,h2⟩ <;> cases h2
     | row t s xs=>
      have:i ∈ rowsOf H σ:=gN.2 ⟨hm,.inl ⟨t,s,xs,by rw [hO,ho]⟩⟩;rw [bj.2 this] at h3; cases h3
    have hrd:∀ a v,Rd (cx G ρ w) ρ a v->Rd (cx G (fL ρ σ ρ2) w') (fL ρ σ ρ2) (a.bY (rowsOf H σ)) v:=by
     intro a v h;cases a with
     | own j=>
      simp only [AV.bY];cases hb:bQ j (rowsOf H σ)
      ·rcases h with ⟨g,cap,len,z,h,e⟩ | ⟨h,e⟩
       ·exact .inl ⟨g,cap,len,z,hag _ _ (.inl (hrow j _ h (.inr ⟨_,_,_,_,rfl⟩) hb)) h,e⟩
       exact .inr ⟨hag _ _ (.inl (hrow j _ h (.inl rfl) hb)) h,e⟩
      exact Rd.one h
     | sub j o k=>
      simp only [AV.bY];cases hb:bQ j (rowsOf H σ)
      ·rcases h with ⟨g,cap,len,z,h,e⟩ | ⟨h,e⟩
       ·exact .inl ⟨g,cap,len,z,hag _ _ (.inl (hrow j _ h (.inr ⟨_,_,_,_,rfl⟩) hb)) h,e⟩
       exact .inr ⟨hag _ _ (.inl (hrow j _ h (.inl rfl) hb)) h,e⟩
      exact Rd.one h
     | elp j k o=>
      simp only [AV.bY];cases hb:bQ j (rowsOf H σ)
      ·obtain ⟨g,cap,len,z,h,e⟩:=h;exact ⟨g,cap,len,z,hag _ _ (.inl (hrow j _ h (.inr ⟨_,_,_,_,rfl⟩) hb)) h,e⟩
      exact Rd.one h
     | ptr j o=>exact hcap _ _ h
     | mq j=>
      obtain ⟨g,h1,e⟩:=h;exact ⟨g,hag _ _ (.inr ⟨g,rfl⟩) h1,e⟩
     | fn f b cs=>
      obtain ⟨bs,us,h1,h2,e⟩:=h;exact ⟨bs,us,h1.imp fun _ _ h=>hcap _ _ h,h2.imp fun _ _ h=>hcap _ _ h,e⟩
     | fe s' x o=>
      obtain ⟨A,cells,h1,h2,h3,e⟩:=h;exact ⟨A,cells,(hle1.S _ h1).1,h2.keep (hle1.S _ h1).2,h3.carry hle1,e⟩
     | np=>exact h
     | nf=>exact h
     | yl l=>exact h
     | xx k cs=>
      obtain ⟨us,h1,h2⟩:=h;exact ⟨us,h1.imp fun _ _ h=>hcap _ _ h,h2.le hle1⟩
     | dead=>exact h
     | int n=>exact Pd.carry h hle1
     | u8 b=>exact Pd.carry h hle1
     | u64 n=>exact Pd.carry h hle1
     | bool e=>exact Pd.carry h hle1
     | str s=>exact Pd.carry h hle1
     | em b=>exact Pd.carry h hle1
     | li nw xs=>exact Pd.carry h hle1
     | fz s xs=>exact Pd.carry h hle1
    -- the callee's values,taken over
    have hS:∀ b,(cx ⟨G.shp,G.B0,Z'⟩ ρ2 w').S b->(cx G (fL ρ σ ρ2) w').S b\/(¬ b<G.B0/\∃ sb ∈ eZ H lent,∃ cur t fr,w'.heap[b]? = some (.cells cur t fr)/\G.shp t=some sb):=by
     rintro b ⟨h1,h2,h3⟩;by_cases hl:live (fL ρ σ ρ2) b
     ·right;obtain ⟨i,r,h4,h5⟩:=hl;rcases hmix i r b h4 h5 with ⟨_,him,h6⟩ | ⟨j,h6,_⟩
      ·have hnl:¬ live (cR ρ σ) b:=fun hh=>him (hsub b i r h6 h5 hh);have hlt:lt b:=by
        by_cases hx:lt b
        ·exact hx
        exact absurd (.inr ⟨⟨i,r,h6,h5⟩,hnl,hx⟩) h3
       obtain ⟨id,hid,rr,h7,h8⟩:=hlt;have hb:=hR.bnd _ _ b h7 h8;refine ⟨by omega,?_⟩;obtain ⟨t,s,xs,hrw⟩:=hlent id hid rr h7 (by rintro rfl; cases h8);refine ⟨s,oF hrw hid,?_⟩;have hfc:=dj hR hrw;rcases bl hR hrw with ⟨h9,_⟩ | ⟨g,cap,cells,sp,h9,h10,_⟩
       ·rw [h7] at h9; cases h9; cases h8
       rw [h7] at h9; cases h9; cases h8;have hids:id ∉ σ:=hno id hid;exact ⟨_,t,(0,0),(hoth id _ _ hids h7 rfl).2.trans h10,hfc.1⟩
      exact absurd ⟨j,r,h6,h5⟩ h2
     left; exact ⟨h1,hl,fun hz=>h3 (.inl hz)⟩
    have hpd:∀ {b:AV} {u:Value},Pd (cx ⟨G.shp,G.B0,Z'⟩ ρ2 w') b u->(∀ sb ∈ eZ H lent,PJ 5 sb b=true)->Pd (cx G (fL ρ σ ρ2) w') b u:=fun hb hn=>Pd.Ob (c:=cx ⟨G.shp,G.B0,Z'⟩ ρ2 w') (c':=cx G (fL ρ σ ρ2) w') (eZ H lent) rfl rfl rfl hS hb 5 hn;have htake:∀ (a:AV) (u:Value),(∀ b ∈ eZ H lent,a.no b=true)->Rd (cx ⟨G.shp,G.B0,Z'⟩ ρ2 w') ρ2 a u->Rd (cx G (fL ρ σ ρ2) w') (fL ρ σ ρ2) (a.ly (fK H σ)) u:=fun a u hno5 hu=>by
     refine Rd.ly (fun _ hp=>hpd hp fun sb hsb=>IZ (hno5 sb hsb)) (fun s x o e=>?_) (fun k cs us e h=>h.unl (c:=cx ⟨G.shp,G.B0,Z'⟩ ρ2 w') (c':=cx G (fL ρ σ ρ2) w') rfl rfl rfl hS fun sb hsb=>e ▸ hno5 sb hsb) (fun i hi r hr _=>hτ i r hr) hu;subst e;have hnil:eZ H lent=[]:=by
      cases hq:eZ H lent with
      | nil=>rfl
      | cons b l=>have:=hno5 b (by rw [hq]; simp); simp [AV.no] at this
     rw [hnil] at hS;have hS':(cx ⟨G.shp,G.B0,Z'⟩ ρ2 w').le (cx G (fL ρ σ ρ2) w'):=⟨rfl,rfl,fun b hb=>⟨(hS b hb).resolve_right fun ⟨_,sb,h,_⟩=>by simp at h,rfl⟩,fun _ _ _=>rfl⟩;obtain ⟨A,cells,k1,k2,k3,e⟩:=hu;exact ⟨A,cells,(hS'.S _ k1).1,k2,k3.carry hS',e⟩
    have hobj:∀ (j:Nat) (o:AO) (r:RE),H'[j]? = some o->ρ2[j]? = some r->OR (cx G (fL ρ σ ρ2) w') (fL ρ σ ρ2) (o.ly (fK H σ)) r:=fun j o r ho hr=>by
     obtain ⟨r',hr',hor⟩:=hR2.at_ ho;rw [hr] at hr'; cases hr';have hmem:o ∈ H':=ada ho;have hnoO:∀ b ∈ eZ H lent,sC b H' = true:=fun b hb=>by have:=hsh b hb; simp only [Bool.and_eq_true] at this; exact this.2
     cases o with
     | gone=>exact hor
     | mapo s f=>
      obtain ⟨g,rfl,a,n,k1,k2,k3⟩:=hor;refine ⟨g,rfl,a,n,k1,k2,fun k=>?_⟩;have k4:=k3 k;cases hg:getM k a.toList <;> cases hf:f k <;> rw [hg,hf] at k4
      ·trivial
      ·exact k4
      ·exact k4
      rename_i v x;obtain ⟨us,k5,k6⟩:=k4;refine ⟨us,Pds.of (cg k5.length fun i a u ha hu=>?_),k6⟩;obtain ⟨u',hu',hau⟩:=dC k5.all i a ha;rw [hu] at hu'; cases hu';refine hpd hau fun sb hsb=>?_;have hns:=fH.1 (QW (hnoO sb hsb) hmem);cases a with
      | fz s' ys=>exact hns s' (jl (ada ha))
      | li nw ys=>exact hns .int (jn (ada ha))
      | _=>rfl
     | box t cs=>
      obtain ⟨g,vs',rfl,h1,h2⟩:=hor;exact ⟨g,vs',rfl,h1,nh (fun a ha u hu=>htake a u (fun b hb=>we.1 (Pl (hnoO b hb) hmem) a ha) hu) h2⟩
     | loc=>trivial
     | mapf l=>
      obtain ⟨g,rfl,h⟩:=hor;exact ⟨g,rfl,h.map (g0:=fun a=>a.ly (fK H σ)) (qk l) (fun q hq u hu=>htake q.2 u (fun b hb=>Dj (Iw (hnoO b hb) hmem) q hq) hu) rfl⟩
     | arr t s n xs=>
      obtain ⟨g,vs',rfl,h4,h5,h6⟩:=hor;refine ⟨g,vs',rfl,h4,?_,h6⟩;refine Pds.of (cg h5.length fun i a u ha hu=>?_);obtain ⟨u',hu',hau⟩:=dC h5.all i a ha;rw [hu] at hu'; cases hu';refine hpd hau fun sb hsb=>?_;have hns:=fH.1 (QG (hnoO sb hsb) hmem);have hmem2:=ada ha;rw [List.mem_flatMap] at hmem2;obtain ⟨y,_,hy⟩:=hmem2;cases a with
      | fz s' ys=>exact hns s' (jl hy)
      | li nw ys=>exact hns .int (jn hy)
      | _=>rfl
     | row t s xs=>
      obtain ⟨h1,h2,h3⟩:=hor;refine ⟨h1,h2,h3.imp id fun ⟨g,cap,cells,sp,e,h4,h5,h6⟩=>⟨g,cap,cells,sp,e,h4,?_,h6⟩⟩;refine Pds.of (cg h5.length fun i a u ha hu=>?_);obtain ⟨u',hu',hau⟩:=dC h5.all i a ha;rw [hu] at hu'; cases hu';refine hpd hau fun sb hsb=>?_;have hns:=fH.1 (QM (hnoO sb hsb) hmem);have hmem2:=ada ha;rw [List.mem_flatMap] at hmem2;obtain ⟨y,_,hy⟩:=hmem2;cases a with
      | fz s' ys=>exact hns s' (jl hy)
      | li nw ys=>exact hns .int (jn hy)
      | _=>rfl
    refine ⟨fL ρ σ ρ2,hstp,⟨?_,?_,?_,fun b hb=>ac3 (hR.z b hb) hext.size,Nat.le_trans hR.b0 hext.size,hR.tb.carry (hext.le hR.lo)⟩,rH hrd hf,?_,RL.oK hrs'⟩
    ·-- the objects
     refine cg ?_ fun i o r ho hr=>?_
     ·simp only [List.length_append,gT,eL,kH,List.length_drop,fL,List.length_map,ahC];omega
     by_cases hi:i<H.length
     ·rw [List.getElem?_append_left (by rw [gT,eL]; exact hi),tW (by rw [eL]; exact hi)] at ho;rw [jr (by omega)] at hr;by_cases hm:i ∈ σ
      ·rw [if_pos hm] at ho hr;cases ho; cases hr;obtain ⟨hpl,_⟩:=aam.1 (jX hm);have hp2:posOf i σ<H'.length:=by omega
       have e1:H'[posOf i σ]? = some H'[posOf i σ]:=List.getElem?_eq_getElem hp2;have e2:ρ2[posOf i σ]? = some (ρ2[posOf i σ]'(by omega)):=List.getElem?_eq_getElem (by omega);have e3:H'.getD (posOf i σ) .gone=H'[posOf i σ]:=by rw [List.getD_eq_getElem?_getD,e1]; rfl
       rw [e3,getD_some e2];exact hobj _ _ _ e1 e2
      rw [if_neg hm] at ho hr;cases hr;rw [lh,adg] at ho;obtain ⟨o',ho',rfl⟩:=ho;obtain ⟨r',hr',hor⟩:=hR.at_ ho';rw [getD_some hr'];exact hor.map hle1 hrd fun g hg=>(hoth i r' g hm hr' hg).2
     rw [age (by rw [gT,eL]; omega),gT,eL] at ho;rw [wE (by omega)] at hr;have hil:σ.length+(i - H.length)<H'.length:=by
      have:=(aam.1 ho).1;simp only [kH,List.length_drop] at this; omega
     have hx:(H'.drop σ.length)[i - H.length]? = some H'[σ.length+(i - H.length)]:=by
      rw [adf]; exact List.getElem?_eq_getElem hil
     rw [p_ hx] at ho;have ho:=adb ho;subst ho;refine hobj (σ.length+(i - H.length)) _ r (List.getElem?_eq_getElem hil) ?_;rw [hHρ]; exact hr
    ·intro i i' r r' g h1 h2 h3 h4;rcases hmix i r g h1 h3 with ⟨a1,a2,a3⟩ | ⟨j,a3,a4⟩ <;> rcases hmix i' r' g h2 h4 with ⟨b1,b2,b3⟩ | ⟨j',b3,b4⟩
     ·exact hR.inj _ _ _ _ g a3 b3 h3 h4
     ·exact absurd ⟨j',r',b3,h4⟩ (hoth i r g a2 a3 h3).1
     ·exact absurd ⟨j,r,a3,h3⟩ (hoth i' r' g b2 b3 h4).1
     rw [<- a4,<- b4,hR2.inj _ _ _ _ g a3 b3 h3 h4]
    ·intro i r g h1 h2;rcases hmix i r g h1 h2 with ⟨_,_,a3⟩ | ⟨j,a3,_⟩
     ·have:=hR.bnd i r g a3 h2;exact ⟨this.1,ac3 this.2.1 hext.size,this.2.2⟩
     have:=hR2.bnd j r g a3 h2;exact ⟨this.1,this.2.1,fun hz=>this.2.2 (.inl hz)⟩
    -- the results
    have hback:All2 (cO (cx G (fL ρ σ ρ2) w') (fL ρ σ ρ2)) (iC (fK H σ) rs) us:=by
     refine lj (fun t ht a ha u hu=>htake a u (fun b hb=>?_) hu) hrs';have:=hsh b hb;simp only [Bool.and_eq_true] at this;exact wR.1 this.1 t ht a ha
    subst hv;show Rt _ _ (FU (iC (fK H σ) rs)) (zw us);generalize iC (fK H σ) rs=rs' at hback ⊢;cases hback with
    | nil=>exact ⟨[],rfl,.nil⟩
    | @cons t u l us h1 h2=>
     cases h2 with
     | nil=>exact h1
     | cons h3 h4=>exact ⟨_,rfl,.cons h1 (.cons h3 h4)⟩
   cases h
  cases h
 cases h
end
section
variable {P:Program} {T:List (Nat × TI)} {G:Gl} {O:bD} {n:Nat} {F:Fr} {w:World} {x y:Operand} {ty t:TypeId} {ρ:List RE} {H:AH} {fr:AFr} {ro:Lv}
variable {r:SR} {f:Nat} {vs:List Value}
theorem Gm (hO:ay P G.shp O) (hR:Rep G ρ H w) (hf:FrR (cx G ρ w) ρ fr F) {a:List TV1} (hvs:All2 (cO (cx G ρ w) ρ) a vs) (h:Lq O fr H f a=some r) (hob:∀ p ∈ r.ob,p) :
  (∃ fn,P.funcs[f]? = some fn/\(fn.name == "runtime.NumGoroutine")=false/\fn.body.isNone=false)/\jI P f vs.toArray w fun v w'=>eB G ro ρ w r F v w':=by
 unfold Lq at h;generalize sJ H a=σ at h;simp only at h;split at h
 ·rename_i hck;simp only [Bool.and_eq_true] at hck;obtain ⟨⟨hn,hai⟩,hcl⟩:=hck;split at h
  ·rename_i pre rs H' hrs;split at h
   ·rename_i hlen;cases h;have hlenH:=adl hlen;have hai:=jb.1 hai;have hnd:=jj.1 hn;have hclo:=iu.1 hcl;let Z':Nat->Prop:=fun b=>G.Z b\/(live ρ b/\¬ live (cR ρ σ) b)
    obtain ⟨hR',hle⟩:=hR.sub (σ:=σ) (Z':=Z') hn hcl (fun b hb=>hb.elim (hR.z b) fun ⟨⟨i,r,h1,h2⟩,_⟩=>(hR.bnd i r b h1 h2).2.1) (fun b h1 h2 hz=>hz.elim h1 fun h3=>h2 h3.1)
     (fun b h1 hz=>hz.elim (fun h2=>by obtain ⟨i,r,h3,h4⟩:=ga h1; exact (hR.bnd i r b h3 h4).2.2 h2) fun h2=>h2.2 h1)
    obtain ⟨hfn,hrun⟩:=hO _ _ _ _ hrs hob;refine ⟨hfn,?_⟩;have hargs:All2 (cO (cx ⟨G.shp,G.B0,Z'⟩ (cR ρ σ) w) (cR ρ σ)) (iC (posOf · σ) a) vs:=by
     refine lj (fun t ht a ha' v hv=>?_) hvs;refine Rd.ly (fun _ hp=>hp.carry hle) (fun s x o e=>?_) (fun _ _ _ _ h=>h.le hle) (fun i hi r hr _=>g_ (hai i (kM ht ha' hi)) hr) hv;subst e;obtain ⟨A,cells,k1,k2,k3,e⟩:=hv;exact ⟨A,cells,(hle.S _ k1).1,k2,k3.carry hle,e⟩
    refine (hrun ⟨G.shp,G.B0,Z'⟩ _ w vs rfl hR' hargs).mono fun v w' ⟨us,hv,ρ2,hR2,hext2,hbx2,hrs',hkeep⟩=>?_;obtain ⟨hk,hρ2⟩:=hkeep rfl;have hl2:H'.length=ρ2.length:=hR2.obj.length;have hHρ:H.length=ρ.length:=hR.obj.length;have hnew:∀ (b j:Nat) (r:RE),σ.length<=j->ρ2[j]? = some r->r.g? = some b->w.heap.size<=b:=fun b j r hj h1 h2=>by
     by_cases hb:b<w.heap.size
     ·by_cases hs:live (cR ρ σ) b
      ·obtain ⟨i,r',h3,h4⟩:=hs;have:=hR2.inj _ _ _ _ b h1 (hρ2 i r' h3) h2 h4;have h6:i<σ.length:=by simpa [cR] using (aam.1 h3).1
       omega
      exact absurd ⟨j,r,h1,h2⟩ (hext2.old b hb hs).1
     omega
    have hN:∀ (i:Nat) (r:RE),ρ[i]? = some r->(ρ++ρ2.drop σ.length)[i]? = some r:=fun i r h=>by
     rw [List.getElem?_append_left (aam.1 h).1]; exact h
    have hNge:∀ (i:Nat),ρ.length<=i->(ρ++ρ2.drop σ.length)[i]? = ρ2[σ.length+(i - ρ.length)]?:=fun i hi=>by
     rw [age hi,adf]
    have hcase:∀ (i:Nat) (r:RE) (g:Nat),(ρ++ρ2.drop σ.length)[i]? = some r->r.g? = some g->(i<ρ.length/\ρ[i]? = some r)\/(ρ.length<=i/\ρ2[σ.length+(i - ρ.length)]? = some r/\w.heap.size<=g):=fun i r g h1 h2=>by
     by_cases hi:i<ρ.length
     ·rw [List.getElem?_append_left hi] at h1; exact .inl ⟨hi,h1⟩
     rw [hNge i (by omega)] at h1;exact .inr ⟨by omega,h1,hnew g _ r aK h1 h2⟩
    have hext:Ext ρ w (ρ++ρ2.drop σ.length) w':=⟨hk.os,hk.tape,hk.output,hk.size,fun b hb hl=>⟨fun ⟨i,r,h1,h2⟩=>(hcase i r b h1 h2).elim (fun h=>hl ⟨i,r,h.2,h2⟩) fun h=>by omega,hk.block b hb (by simp)⟩⟩;have hle1:=hext.le hR.lo;have hagr:jP ρ (ρ++ρ2.drop σ.length):=fun i r h _=>hN i r h;have hτ:∀ (j:Nat) (r:RE),ρ2[j]? = some r->r ≠ .no->(ρ++ρ2.drop σ.length)[fK H σ j]? = some r:=fun j r hj hne=>by
     unfold fK;by_cases hjn:j<σ.length
     ·have hb:Nat.ble σ.length j=false:=by rw [<- Bool.not_eq_true,Nat.ble_eq]; omega
      rw [hb];have hs:(cR ρ σ)[j]? = some ((cR ρ σ)[j]'(by simpa [cR] using hjn)):=List.getElem?_eq_getElem _;have h1:=hρ2 j _ hs;rw [hj] at h1;rw [<- adb h1] at hs;exact hN _ _ (eY hs hne)
     have hb:Nat.ble σ.length j=true:=by rw [Nat.ble_eq]; omega
     rw [hb];show (ρ++ρ2.drop σ.length)[H.length+(j - σ.length)]? = some r;rw [hNge _ (by omega),hHρ,<- hj];congr 1; omega
    have hS:(cx ⟨G.shp,G.B0,Z'⟩ ρ2 w').le (cx G (ρ++ρ2.drop σ.length) w'):=⟨rfl,rfl,fun b hb=>⟨⟨hb.1,by
     rintro ⟨i,r,h1,h2⟩;rcases hcase i r b h1 h2 with ⟨h3,h4⟩ | ⟨_,h4,_⟩
     ·by_cases hs:live (cR ρ σ) b
      ·obtain ⟨j,r',h5,h6⟩:=hs;exact hb.2.1 ⟨j,r',hρ2 j r' h5,h6⟩
      exact hb.2.2 (.inr ⟨⟨i,r,h4,h2⟩,hs⟩)
     exact hb.2.1 ⟨_,r,h4,h2⟩,fun hz=>hb.2.2 (.inl hz)⟩,rfl⟩,fun _ _ _=>rfl⟩
    have htake:∀ (a:AV) (u:Value),Rd (cx ⟨G.shp,G.B0,Z'⟩ ρ2 w') ρ2 a u->Rd (cx G (ρ++ρ2.drop σ.length) w') (ρ++ρ2.drop σ.length) (a.ly (fK H σ)) u:=fun a u hu=>by
     refine Rd.ly (fun _ hp=>hp.carry hS) (fun s x o e=>?_) (fun _ _ _ _ h=>h.le hS) (fun i hi r hr hne=>hτ i r hr hne) hu;subst e;obtain ⟨A,cells,k1,k2,k3,e⟩:=hu;exact ⟨A,cells,(hS.S _ k1).1,k2,k3.carry hS,e⟩
    have hobj:∀ (j:Nat) (o:AO) (r:RE),H'[j]? = some o->ρ2[j]? = some r->OR (cx G (ρ++ρ2.drop σ.length) w') (ρ++ρ2.drop σ.length) (o.ly (fK H σ)) r:=fun j o r ho hr=>by
     obtain ⟨r',hr',hor⟩:=hR2.at_ ho;rw [hr] at hr'; cases hr';cases o with
     | gone=>exact hor
     | loc=>trivial
     | mapo s f=>
      obtain ⟨g,rfl,h⟩:=hor;exact ⟨g,rfl,h.carry hS rfl⟩
     | mapf l=>
      obtain ⟨g,rfl,h⟩:=hor;exact ⟨g,rfl,h.map (g0:=fun a=>a.ly (fK H σ)) (qk l) (fun q hq u hu=>htake q.2 u hu) rfl⟩
     | box t cs=>
      obtain ⟨g,vs',rfl,h1,h2⟩:=hor;exact ⟨g,vs',rfl,h1,nh (fun a ha u hu=>htake a u hu) h2⟩
     | arr t s n xs=>
      obtain ⟨g,vs',rfl,h4,h5,h6⟩:=hor;exact ⟨g,vs',rfl,h4,h5.carry hS,h6⟩
     | row t s xs=>
      obtain ⟨h1,h2,h3⟩:=hor;exact ⟨h1,h2,h3.imp id fun ⟨g,cap,cells,sp,e,h4,h5,h6⟩=>⟨g,cap,cells,sp,e,h4,h5.carry hS,h6⟩⟩
    refine ⟨ρ++ρ2.drop σ.length,⟨hext,fun i r _ hr=>hN i r hr,fun i r _ hr=>⟨hN i r hr,fun g hg=>hk.block g (hR.bnd i r g hr hg).2.1 (by simp)⟩,fun i g hi=>hN i _ hi⟩,⟨?_,?_,?_,fun b hb=>ac3 (hR.z b hb) hext.size,Nat.le_trans hR.b0 hext.size,hR.tb.carry hle1⟩,hf.carry hle1 hagr,?_,RL.oK hrs'⟩
    ·refine All2.append (cg hR.obj.length fun i o r ho hr=>?_) (cg (by simp [kH,hl2]) fun i o r ho hr=>?_)
     ·obtain ⟨r',hr',hor⟩:=hR.at_ ho;rw [hr] at hr'; cases hr';exact hor.carry hle1 hagr fun g hg=>hk.block g (hR.bnd i r g hr hg).2.1 (by simp)
     rw [adf] at hr;have hil:σ.length+i<H'.length:=by
      have:=(aam.1 hr).1; omega
     have hx:(H'.drop σ.length)[i]? = some H'[σ.length+i]:=by
      rw [adf]; exact List.getElem?_eq_getElem hil
     rw [p_ hx] at ho;have ho:=adb ho;subst ho;exact hobj (σ.length+i) _ r (List.getElem?_eq_getElem hil) hr
    ·intro i i' r r' g h1 h2 h3 h4;rcases hcase i r g h1 h3 with ⟨a1,a2⟩ | ⟨a1,a2,a3⟩ <;> rcases hcase i' r' g h2 h4 with ⟨b1,b2⟩ | ⟨b1,b2,b3⟩
     ·exact hR.inj _ _ _ _ g a2 b2 h3 h4
     ·have:=(hR.bnd i r g a2 h3).2.1; omega
     ·have:=(hR.bnd i' r' g b2 h4).2.1; omega
     have:=hR2.inj _ _ _ _ g a2 b2 h3 h4; omega
    ·intro i r g h1 h2;rcases hcase i r g h1 h2 with ⟨_,a3⟩ | ⟨_,a3,_⟩
     ·have:=hR.bnd i r g a3 h2;exact ⟨this.1,ac3 this.2.1 hext.size,this.2.2⟩
     have:=hR2.bnd _ r g a3 h2;exact ⟨this.1,this.2.1,fun hz=>this.2.2 (.inl hz)⟩
    have hback:All2 (cO (cx G (ρ++ρ2.drop σ.length) w') (ρ++ρ2.drop σ.length)) (iC (fK H σ) rs) us:=lj (fun t ht a ha u hu=>htake a u hu) hrs';subst hv;show Rt _ _ (FU (iC (fK H σ) rs)) (zw us);generalize iC (fK H σ) rs=rs' at hback ⊢;cases hback with
    | nil=>exact ⟨[],rfl,.nil⟩
    | @cons t u l us h1 h2=>
     cases h2 with
     | nil=>exact h1
     | cons h3 h4=>exact ⟨_,rfl,.cons h1 (.cons h3 h4)⟩
   cases h
  cases h
 cases h
theorem GA (hO:ay P G.shp O) (hR:Rep G ρ H w) (hf:FrR (cx G ρ w) ρ fr F) {args:List TV1} (ha:All2 (cO (cx G ρ w) ρ) args vs) (h:NY O ro fr H f args=some r) (hob:∀ p ∈ r.ob,p) :
  (∃ fn,P.funcs[f]? = some fn/\(fn.name == "runtime.NumGoroutine")=false/\fn.body.isNone=false)/\jI P f vs.toArray w fun v w'=>eB G ro ρ w r F v w':=by
 unfold NY at h;split at h
 ·rename_i r' hn;cases h;exact Gm hO hR hf ha hn hob
 split at h
 ·rename_i r' hrw hr';cases h;refine ug hO hR hf (fun G' σ hs hle hids hl=>?_) (fun id hid r hr hne=>lN.1 hrw id hid) hr' hob;refine Ch (fun t ht a ha' v hv=>?_) ha;have hid:∀ i ∈ (a.vw H).ids,i ∈ σ:=fun i hi=>hids i (kM (wv ht) (yg ha') hi);by_cases hown:∃ id,a = .own id\/∃ o k,a = .sub id o k
  ·obtain ⟨id,hio⟩:=hown;have hmem:=sO ht ha' hio;cases hv2:a.vw H with
   | fz s xs=>
    refine kN (nL hR hle rfl hv (fun g cap len z ⟨id',he,h1⟩=>?_) hv2);have e:id' = id:=by rcases hio with rfl | ⟨o,k,rfl⟩ <;> rcases he with he | ⟨_,_,he⟩ <;> cases he <;> rfl
    subst e;exact hl id' hmem g cap len z h1
   | dead=>exact Rd.one hv
   | _=>rcases hio with rfl | ⟨o,k,rfl⟩ <;> simp only [AV.vw] at hv2 <;> split at hv2 <;> cases hv2
  have e:a.vw H=a:=by
   cases a <;> first | rfl | exact absurd ⟨_,.inl rfl⟩ hown | exact absurd ⟨_,.inr ⟨_,_,rfl⟩⟩ hown
  rw [e] at hid ⊢;refine Rd.ly (fun _ hp=>hp.carry hle) (fun s x o e=>?_) (fun _ _ _ _ h=>h.le hle) (fun i hi r hr _=>g_ (hid i hi) hr) hv;subst e;obtain ⟨A,cells,k1,k2,k3,e⟩:=hv;exact ⟨A,cells,(hle.S _ k1).1,k2,k3.carry hle,e⟩
 refine ug hO hR hf (fun G' σ hs hle hids hl=>?_) (by simp) h hob;refine lj (fun t ht a ha' v hv=>?_) ha;refine Rd.ly (fun _ hp=>hp.carry hle) (fun s x o e=>?_) (fun _ _ _ _ h=>h.le hle) (fun i hi r hr _=>g_ (hids i (kM ht ha' hi)) hr) hv;subst e;obtain ⟨A,cells,k1,k2,k3,e⟩:=hv;exact ⟨A,cells,(hle.S _ k1).1,k2,k3.carry hle,e⟩
theorem Jo {c:Cx} {s:Sh} {z:List Value} (hz:All2 (Rd c ρ) (cellsOf s (ao s)) z) (h1:s.size=1):∀ m:Nat,Pds c ((List.replicate m (ao s)).flatMap (cellsOf s)) (List.replicate m (z.headD undef)):=by
 have hp:=jE (oZ s _) hz;have hl:=hz.length;rw [cF,h1] at hl;obtain ⟨u,rfl⟩:∃ u,z=[u]:=by
  cases z with
  | nil=>simp at hl
  | cons u r=>
   grind
 intro m;induction m with
 | zero=>exact .nil
 | succ m ih=>
  exact hp.append ih
variable {z:Operand}
theorem FH (hT:aY P G.shp T) (hR:Rep G ρ H w) (hf:FrR (cx G ρ w) ρ fr F) {y:Operand} (h:KZ T ro fr H t x y z=some r) :
  ∃ w',(gG P n F w (.insert t x y z) ty w' /\ gG P n F w (.mapUpdate t x y z) ty w')/\eB G ro ρ w r F undef w':=by
 unfold KZ at h;split at h
 ·rename_i s id k v hft hx hy hz;split at h
  ·rename_i s' f hO2;split at h
   ·rename_i hss;subst hss;split at h
    ·rename_i x' q hck hof hfz;cases h;simp only [Bool.and_eq_true,adu,<- Bool.not_eq_true,bj] at hck;obtain ⟨⟨hro,hform⟩,hnm⟩:=hck;obtain ⟨hm,hk,_⟩:=(hT _ _ hft).2;obtain ⟨va,h1,g,hg,rfl⟩:=aq hf hx;obtain ⟨vb,h3,h4⟩:=aq hf hy;cases h4 with | int=>
     obtain ⟨vz,h5,h6⟩:=aq hf hz;have hHs:=bB hO2 (by simp);obtain ⟨r',hr',hor⟩:=hR.at_ hHs;rw [hg] at hr'; cases hr';obtain ⟨g',e,a,c,k1,k2,k3⟩:=hor;cases e;obtain ⟨ρ1,j1,j2,j3,j4,j5,j6,j7,j8⟩:=oL (ro:=ro) hfz hR hf;obtain ⟨w',a',c',hsk,hkp,hg',hl',hget⟩:=PD (P:=P) (n:=n) (ty:=ty) h1 h3 h5 hm hk k1 k2;have hρ1:ρ1[id]? = some (.blk g):=by rw [j8 id hnm]; exact hg
     have hH1:q.2[id]? = some (.mapo s' f):=j7 id _ hnm hHs (by simp);have hext:Ext ρ1 w ρ1 w':=⟨hkp.os,hkp.tape,hkp.output,hkp.size,fun b hb hl=>⟨hl,hkp.block b hb (by
      simp only [ac2];rintro rfl;exact hl ⟨id,_,hρ1,rfl⟩)⟩⟩
     have hle:=hext.le j3.lo;have hV:V1 (cx G ρ1 w') s' x' vz:=by
      cases v with
      | c a=>
       have h6:Rd (cx G ρ w) ρ a vz:=h6;have:=aG hof (j6 [a] [vz] (fun i hi=>hi) (.cons h6 .nil));refine ⟨[vz],this.carry hle,.inr ⟨?_,rfl⟩⟩;simpa [nt] using hform
      | agg l=>
       obtain ⟨us,e,h6⟩:=h6;have:=aG hof (j6 l us (fun i hi=>hi) h6);exact ⟨us,this.carry hle,.inl ⟨hform,e⟩⟩
     have hput:=j3.put hH1 hρ1 rfl hkp (o':=.mapo s' fun j=>if j=k then some x' else f j) ⟨g,rfl,a',c',hg',hl',fun q=>by
      rw [hget q];show VO _ _ _ (if q=k then some x' else f q);by_cases hq:q=k
      ·rw [if_pos hq,if_pos hq]; exact hV
      rw [if_neg hq,if_neg hq];have k4:=k3 q;cases hgm:getM q a.toList <;> cases hfk:f q <;> rw [hgm,hfk] at k4
      ·trivial
      ·exact k4
      ·exact k4
      exact V1.carry k4 (j2.trans hle)⟩
     refine ⟨w',hsk,ρ1,j1.trans ⟨hput.2,fun _ _ _ h=>h,fun j r' hj hr'=>⟨hr',fun gx hgx=>hkp.block gx (j3.bnd j r' gx hr' hgx).2.1 ?_⟩,fun _ _ h=>h⟩,hput.1,j4.carry hle (jP.refl _),trivial,by simp⟩;simp only [ac2];rintro rfl;have:=j3.inj j id _ _ _ hr' hρ1 hgx rfl;subst this; rw [hro] at hj; cases hj
    cases h
   cases h
  cases h
 cases h
theorem BX (hT:aY P G.shp T) (hR:Rep G ρ H w) (hf:FrR (cx G ρ w) ρ fr F) {y:Operand} (h:KR T ro fr H t x y z=some r) :
  ∃ w',(gG P n F w (.insert t x y z) ty w' /\ gG P n F w (.mapUpdate t x y z) ty w')/\eB G ro ρ w r F undef w':=by
 unfold KR at h;split at h
 ·rename_i id k a hft hx hy hz;split at h
  ·rename_i l hO2;split at h
   ·rename_i hro;cases h;obtain ⟨hm,hk,_⟩:=(hT _ _ hft).2;obtain ⟨va,h1,g,hg,rfl⟩:=aq hf hx;obtain ⟨vb,h3,h4⟩:=aq hf hy;cases h4 with | int=>
    obtain ⟨vz,h5,h6⟩:=aq hf hz;have hHs:=bB hO2 (by simp);obtain ⟨r',hr',hor⟩:=hR.at_ hHs;rw [hg] at hr'; cases hr';obtain ⟨g',e,a',c,k1,k2,k3⟩:=hor;cases e;obtain ⟨w',a'',c',hsk,hkp,hg',hl',hget⟩:=PD (P:=P) (n:=n) (ty:=ty) h1 h3 h5 hm hk k1 k2;have hext:Ext ρ w ρ w':=⟨hkp.os,hkp.tape,hkp.output,hkp.size,fun b hb hl=>⟨hl,hkp.block b hb (by
     simp only [ac2];rintro rfl;exact hl ⟨id,_,hg,rfl⟩)⟩⟩
    have hle:=hext.le hR.lo;have hput:=hR.put hHs hg rfl hkp (o':=.mapf ((k,a) :: l)) ⟨g,rfl,a'',c',hg',hl',fun q=>by
     rw [hget q];simp only [lookF];by_cases hq:q=k
     ·rw [if_pos hq,if_pos hq]; exact Rd.carry h6 hle (jP.refl _)
     rw [if_neg hq,if_neg hq];have k4:=k3 q;cases hgm:getM q a'.toList <;> cases hfk:lookF q l <;> rw [hgm,hfk] at k4
     ·trivial
     ·exact k4
     ·exact k4
     exact Rd.carry k4 hle (jP.refl _)⟩
    refine ⟨w',hsk,ρ,⟨hput.2,fun _ _ _ h=>h,fun j r' hj hr'=>⟨hr',fun gx hgx=>hkp.block gx (hR.bnd j r' gx hr' hgx).2.1 ?_⟩,fun _ _ h=>h⟩,hput.1,hf.carry hle (jP.refl _),trivial,by simp⟩;simp only [ac2];rintro rfl;have:=hR.inj j id _ _ _ hr' hg hgx rfl;subst this; rw [hro] at hj; cases hj
   cases h
  cases h
 cases h
theorem sD (hT:aY P G.shp T) (hR:Rep G ρ H w) (hf:FrR (cx G ρ w) ρ fr F) {y:Operand} (h:CW T ro fr H t x y z=some r) :
  ∃ w',(gG P n F w (.insert t x y z) ty w' /\ gG P n F w (.mapUpdate t x y z) ty w')/\eB G ro ρ w r F undef w':=by
 unfold CW at h;split at h
 ·rename_i r' hr';cases h;exact FH hT hR hf hr'
 exact BX hT hR hf h
theorem Pe (hT:aY P G.shp T) (hO:ay P G.shp O) (hR:Rep G ρ H w) (hf:FrR (cx G ρ w) ρ fr F) {op:Op} (h:svB T O ro fr H op=some r) (hob:∀ p ∈ r.ob,p):ez P n F w op ty (eB G ro ρ w r F):=by
 cases op <;> simp only [svB] at h;case box t x=>
  split at h
  ·rename_i v hx;cases h;obtain ⟨u,h1,h2⟩:=aq hf hx;obtain ⟨us,h3,h4⟩:=cO.cells h2;exact .inl (.inl ⟨_,_,R.box h1 h3,uG hR hf h4⟩)
  cases h
 case alloc t=>
  split at h
  ·rename_i ti hti;cases h;obtain ⟨⟨_,zs,hz,hzb⟩,_⟩:=hT _ _ hti;exact .inl (.inl ⟨_,_,R.alloc hz,uG hR hf (jk hzb)⟩)
  cases h
 case store t x v=>
  split at h
  ·rename_i a b ti hx hv hti;split at h
   ·rename_i hsz;obtain ⟨va,h1,h2⟩:=aq hf hx;obtain ⟨vb,h3,h4⟩:=aq hf hv;obtain ⟨w',h5,h6⟩:=AB (ty:=ty) hT hR hf hti hsz h2 h4 h1 h3 h hob;exact .inr ⟨rfl,w',h5,h6⟩
   cases h
  cases h
 case buildSlice t m parts=>
  split at h
  ·rename_i e s sz z l hft hl;obtain ⟨hu,hs⟩:=(hT _ _ hft).2;obtain ⟨hshp,⟨zz,hz,hzb⟩,_⟩:=hs s rfl;have hsize:(P.info? e).map (·.size)=some s.size:=by
    cases hq:P.info? e with
    | none=>simp [hq] at hz
    | some i=>simp only [hq,Option.map_some,Option.some.injEq,ahy] at hz ⊢; exact hz.2.1
   split at h
   ·rename_i xs q hel hfz;split at h
    ·rename_i hck;simp only [Bool.and_eq_true] at hck;have hm:=abk hck.1.1;have hsm:=adl hck.1.2;have hbm:=adl hck.2;obtain ⟨pv,h1,h2⟩:=jB hf hl;obtain ⟨ρ1,k1,k2,k3,k4,k5,k6,_,_⟩:=oL hfz hR hf;obtain ⟨vss,h3,h4,h5,h6⟩:=oi hel h2 fun p hp us hus=>k6 _ us (fun i hi=>rC hp hi) hus;have hrun:=R.buildSlice (P:=P) (n:=n) (F:=F) (w:=w) (ty:=ty) (m:=m) hu hsize (Du hz) h1 h3 h4 (by omega) hsm;have e0:parts.toList.toArray=parts:=by simp
     rw [e0] at hrun;have hk:=Kp.alloc w (.cells vss.flatten.toArray e);cases m with
     | zero=>
      cases h;refine .inl (.inl ⟨_,_,hrun,ρ,Stp.kp hR hk,hR.kp hk,hf.kp hk,Pd.em (a:=some ⟨w.heap.size,0,none⟩) rfl,by simp⟩)
     | succ m=>
      cases h;have hfl:vss.flatten.length=(m+1)*s.size:=by rw [<- h6.length,bR,hm]
      obtain ⟨ρ2,j1,j2,j3,j4⟩:=pP (ro:=ro) (sp:=[]) (cap:=m+1) k3 k4 hk (by rw [ade]; exact agi w _) hshp (by rw [hm]; exact hbm) h6 (by rw [ade]; exact hfl) (by omega) (by
       have:=ahd (m+1) (gC s);simp only [maxLen]; omega)
      rw [hm] at j4;exact .inl (.inl ⟨_,_,hrun,ρ2,k1.trans j1,j2,j3,j4,by simp⟩)
    cases h
   cases h
  cases h
 case makeSlice t a b=>
  split at h
  ·rename_i e s sz z k k' hft hx hy;split at h
   ·rename_i hs1;cases h;obtain ⟨hu,hs⟩:=(hT _ _ hft).2;obtain ⟨hshp,⟨zz,hz,hzb⟩,_⟩:=hs s rfl;have hs1:=abk hs1;have g0:=hob _ (ac7); have g1:=hob _ (acb _ (ac7)); have g2:=hob _ (acb _ (acb _ (ab3 _)));subst g2;obtain ⟨m,rfl⟩:=ab9 g0;obtain ⟨va,h1,h2⟩:=aq hf hx;obtain ⟨vb,h3,h4⟩:=aq hf hy;cases h2 with | int=>
    cases h4 with | int=>
    have hmb:m*s.bytes<=140737488355328:=by
     have e9:((m*s.bytes:Nat):Int)=(m:Int)*s.bytes:=by simp
     omega
    have hml:m<=maxLen:=by
     have:=ahd m (gC s);simp only [maxLen]; omega
    obtain ⟨i,zv,hq,hzv,hzc,hsz,hby⟩:=pO hz;obtain ⟨w',hrun,hown,hgr⟩:=run_make_full (P:=P) w w.heap.size t e i zv s.size hu hq hzv hsz .i64 .i64 m (by rw [hby,Nat.mul_comm]; omega) hml (ac5 _);have hmade:(madeCells zv.cells (m*s.size)).toList=List.replicate m (zz.headD undef):=by
     have hzl:=(jk (c:=cx G ρ w) (ρ:=ρ) hzb).length;rw [cF,hs1] at hzl;obtain ⟨u,rfl⟩:∃ u,zz=[u]:=by
      cases zz with
      | nil=>simp at hzl
      | cons u r=>
       cases r with
       | nil=>exact ⟨u,rfl⟩
       | cons _ _=>simp at hzl
     rw [hzc,hs1]; simp [madeCells,Nat.mod_one,List.map_const']
    rw [hmade] at hown;have hk:=Kp.Fq hgr;rcases nU hown with ⟨h0,_⟩ | ⟨g,cap,sp,hv,j1,j2,j3,j4⟩
    ·cases h0
    injection hv with e1 e2 e3;cases e1;subst e3;have hrl:(List.replicate m (ao s)).length=m:=ahh;obtain ⟨ρ2,q1,q2,q3,q4⟩:=pP (ro:=ro) (xs:=List.replicate m (ao s)) hR hf hk j1 hshp (by rw [hrl]; exact hmb) (Jo (jk (ρ:=ρ) hzb) hs1 m) j2 (by rw [hrl]; exact j3) j4;rw [hrl] at q4;exact .inl (.inl ⟨_,w',fun a _ _ _ _ ha=>by simp [execOp,ha.ev h1,ha.ev h3,hrun],ρ2,q1,q2,q3,q4,by simp⟩)
   cases h
  cases h
 case call cl=>
  split at h
  ·rename_i hcal;split at h
   ·rename_i x y t t' hargs htys;split at h
    ·rename_i a b htt hx hy;have htt:=abk htt;subst htt;obtain ⟨va,h1,h2⟩:=aq hf hx;obtain ⟨vb,h3,h4⟩:=aq hf hy;obtain ⟨v,w',h5,h6⟩:=jD (P:=P) (n:=n) (ty:=ty) hT hR hf h hob h2 h4 h1 h3;have e:cl={ callee:=.builtin .append,args:=#[x,y],argTypes:=#[t,t] }:=by
      cases cl; simp at hcal hargs htys; subst hcal;simp only [ahq,true_and];exact ⟨agt (by simpa using hargs),agt (by simpa using htys)⟩
     rw [e];exact .inl (.inl ⟨v,w',h5,h6⟩)
    ·rename_i a b htt hx hy;obtain ⟨va,h1,h2⟩:=aq hf hx;obtain ⟨vb,h3,h4⟩:=aq hf hy;obtain ⟨v,w',h5,h6⟩:=tz (P:=P) (n:=n) (ty:=ty) hT hR hf h hob h2 h4 h1 h3;have e:cl={ callee:=.builtin .append,args:=#[x,y],argTypes:=#[t,t'] }:=by
      cases cl; simp at hcal hargs htys; subst hcal;simp only [ahq,true_and];exact ⟨agt (by simpa using hargs),agt (by simpa using htys)⟩
     rw [e];exact .inl (.inl ⟨v,w',h5,h6⟩)
    cases h
   cases h
  ·rename_i x hcal;split at h
   ·rename_i f l hl;split at h
    ·rename_i r' hce;cases h;obtain ⟨x',xs,vs,bs,cap,h1,h2,h3,h4,h5⟩:=kJ hf hl;obtain ⟨⟨fn,h6,h7,h8⟩,hrun⟩:=GA hO hR hf h5 hce hob;have e:cl={ callee:=.value x',args:=xs.toArray,argTypes:=cl.argTypes }:=by
      cases cl; simp at h1 h2; subst h1; subst h2; rfl
     rw [e];exact .inl (.inr ⟨_,_,E.HX h3 h4 h6 h7 h8,hrun⟩)
    unfold MI at h;split at h
    ·rename_i q hfz;split at h
     ·rename_i f' l' hl';split at h
      ·rename_i r' hcp;cases h;obtain ⟨ρ',k1,k2,k3,k4,k5,_,_,_⟩:=gZ hfz hR hf;obtain ⟨x',xs,vs,bs,cap,h1,h2,h3,h4,h5⟩:=kJ k4 hl';obtain ⟨⟨fn,h6,h7,h8⟩,hrun⟩:=uh hO k3 h5 hcp hob;have e:cl={ callee:=.value x',args:=xs.toArray,argTypes:=cl.argTypes }:=by
        cases cl; simp at h1 h2; subst h1; subst h2; rfl
       rw [e];exact .inl (.inr ⟨_,_,E.HX h3 h4 h6 h7 h8,hrun.mono fun v w' hp=>⟨ρ',k1.trans (Stp.kp k3 hp.1),k3.kp hp.1,k4.kp hp.1,hp.2.1,hp.2.2⟩⟩)
      cases h
     cases h
    cases h
   cases h
  cases h
 case slice t x lo hi mx=>
  split at h
  ·rename_i i hx;split at h
   ·rename_i q hfz;split at h
    ·rename_i r' hpv;cases h;obtain ⟨ρ',k1,k2,k3,k4,k5,_,_,_⟩:=gZ hfz hR hf;rcases ru (ty:=ty) hT hO k3 k4 hpv hob with ⟨v,w',h1,h2⟩ | ⟨f,args,h1,h2⟩
     ·exact .inl (.inl ⟨v,w',h1,ρ',k1.trans (Stp.kp k3 h2.1),k3.kp h2.1,k4.kp h2.1,h2.2.1,h2.2.2⟩)
     exact .inl (.inr ⟨f,args,h1,h2.mono fun v w' hp=>⟨ρ',k1.trans (Stp.kp k3 hp.1),k3.kp hp.1,k4.kp hp.1,hp.2.1,hp.2.2⟩⟩)
    cases h
   cases h
  cases h
 case makeMap t o=>
  cases o with
  | some o=>cases h
  | none=>
   simp only at h;split at h
   ·rename_i s hft;cases h;have hk:=Kp.alloc w (.map #[] 0);have hext:Ext ρ w (ρ++[.blk w.heap.size]) (w.alloc (.map #[] 0)):=Ext.app hk fun g hg=>by cases hg; exact ac5 _
    have hle:=hext.le hR.lo;exact .inl (.inl ⟨_,_,R.sF,ρ++[.blk w.heap.size],Stp.app hR hk (fun g hg=>by cases hg; exact ac5 _),hR.app hk (fun g hg=>by cases hg; exact ⟨ac5 _,by simp⟩) ⟨_,rfl,#[],0,(Go.MapKept.heap_alloc w _).1,by simp,fun _=>trivial⟩,hf.carry hle (fR _ _),⟨w.heap.size,by rw [hR.obj.length]; simp,rfl⟩,by simp⟩)
   ·rename_i hft;cases h;have hk:=Kp.alloc w (.map #[] 0);have hext:Ext ρ w (ρ++[.blk w.heap.size]) (w.alloc (.map #[] 0)):=Ext.app hk fun g hg=>by cases hg; exact ac5 _
    have hle:=hext.le hR.lo;exact .inl (.inl ⟨_,_,R.sF,ρ++[.blk w.heap.size],Stp.app hR hk (fun g hg=>by cases hg; exact ac5 _),hR.app hk (fun g hg=>by cases hg; exact ⟨ac5 _,by simp⟩) ⟨_,rfl,#[],0,(Go.MapKept.heap_alloc w _).1,by simp,fun _=>trivial⟩,hf.carry hle (fR _ _),⟨w.heap.size,by rw [hR.obj.length]; simp,rfl⟩,by simp⟩)
   cases h
 case insert t x y z=>
  obtain ⟨w',h1,h2⟩:=sD (n:=n) (ty:=ty) hT hR hf h;exact .inr ⟨rfl,w',h1.1,h2⟩
 case mapUpdate t x y z=>
  obtain ⟨w',h1,h2⟩:=sD (n:=n) (ty:=ty) hT hR hf h;exact .inr ⟨rfl,w',h1.2,h2⟩
 all_goals cases h
end
section
variable {P:Program} {T:List (Nat × TI)} {G:Gl} {O:bD} {n:Nat} {F:Fr} {w:World} {x y:Operand} {ty t t':TypeId} {ρ:List RE} {H:AH} {fr:AFr} {ro:Lv}
variable {r:SR} {va:Value} {e:TypeId} {a:AV}
theorem GD (hT:aY P G.shp T) (hR:Rep G ρ H w) (hf:FrR (cx G ρ w) ρ fr F) {h:Int} {s':Sh} {sz:Nat} {z:List AV} {hi:Operand} (hft:aQ T t=some ⟨.sl e (some s'),sz,z⟩) (hr:YQ ro fr H a h=some r) (hob:∀ p ∈ r.ob,p) (ha:Rd (cx G ρ w) ρ a va) (hx:ev F x=some va) (hy:ev F hi=some (.int .i64 h)) :
  ∃ v w',aD P n F w (.slice t x none (some hi) none) ty v w' /\ eB G ro ρ w r F v w':=by
 obtain ⟨hu,hs⟩:=(hT _ _ hft).2;obtain ⟨_,⟨zz,hz,_⟩,_⟩:=hs _ rfl;have hinfo:(P.info? e).map (·.size)=some s'.size:=by
  cases hq:P.info? e with
  | none=>simp [hq] at hz
  | some q=>simp [hq] at hz; simp [hz.2.1]
 unfold YQ at hr;split at hr
 ·rename_i id;split at hr
  ·rename_i er sr xs hH;split at hr
   ·rename_i hck;cases hr;simp only [Bool.and_eq_true] at hck;have o1:=hob _ (.head _);have o2:=hob _ (.tail _ (.head _));obtain ⟨j,rfl⟩:=ab9 o1;have hj:j<=xs.length:=by omega
    obtain ⟨_,hil,_⟩:=ma hR hH;obtain ⟨hshp,hbytes⟩:=dj hR hH;have hlen:(xs.take j).length=j:=by rw [List.length_take]; omega
    have hb':(xs.take j).length*sr.bytes<=140737488355328:=Nat.le_trans (adk _ (by omega)) hbytes;rcases bl hR hH with ⟨h0,h1⟩ | ⟨g,cap,cells,sp,h2,h3,h4,h5,h6,h7⟩
    ·rcases ha with ⟨_,_,_,_,h8,_⟩ | ⟨_,a0,rfl⟩
     ·grind
     have hj0:j=0:=by rw [h1] at hj; simpa using hj
     subst hj0;have hrun:=R.kx (P:=P) (n:=n) (w:=w) (ty:=ty) (a':=a0) hx hy hu hinfo (by simp) (ac5 0);obtain ⟨k4,k5,k6⟩:=iX (r':=.emp) (zs:=xs.take 0) hR hH hck (Kp.refl w) (by simp) (by rintro g ⟨⟩) (fun _=>⟨hshp,hb',.inl ⟨rfl,rfl⟩⟩);exact ⟨_,w,hrun,_,k4,k5,k6 fr F hf,.inr ⟨adh hil,a0,rfl⟩,by simp⟩
    rcases ha with ⟨_,_,_,_,h8,rfl⟩ | ⟨h8,_⟩
    ·rw [h2] at h8; cases h8;have e0:(if cap=0 then (some (⟨g,0,none⟩:Addr)) else (some (⟨g,0,none⟩:Addr)).map (·.add (0*s'.size)))=some ⟨g,0,none⟩:=by
      split
      ·rfl
      simp [Addr.add]
     have hrun:=R.kx (P:=P) (n:=n) (w:=w) (ty:=ty) hx hy hu hinfo e0 (show j<=cap by omega);rw [ahw,ahw] at hrun;have hcl:cells.length=xs.length*sr.size:=by rw [<- h4.length,bR]
     have hmul:j*sr.size<=xs.length*sr.size:=adk _ hj;obtain ⟨k4,k5,k6⟩:=iX (r':=.row g cap (xs.take j).length sr.size) (zs:=xs.take j) (e':=er) hR hH hck (Kp.refl w) (by simp) (fun g' hg'=>by cases hg'; exact .inl ⟨_,h2,rfl⟩) (fun hle=>⟨hshp,hb',.inr ⟨g,cap,cells.take (j*sr.size),cells.drop (j*sr.size)++sp,rfl,by rw [<- List.append_assoc,List.take_append_drop]; exact h3,(bk h4 j).carry hle,by rw [<- List.append_assoc,List.take_append_drop]; exact h5,by omega,h7⟩⟩);refine ⟨_,w,hrun,_,k4,k5,k6 fr F hf,.inl ⟨g,cap,(xs.take j).length,sr.size,adh hil,by rw [hlen]⟩,by simp⟩
    rw [h2] at h8; cases h8
   cases hr
  cases hr
 cases hr
theorem R.aco {A B:Option Addr} {dl dc sl sc z:Nat} (hx:ev F x=some (.slice A dl dc)) (hy:ev F y=some (.slice B sl sc)) (hu:P.underlying t=some (.slice e)) (hs:(P.info? e).map (·.size)=some z) (h0:Nat.min sl dl=0) :
  aD P n F w (.call { callee:=.builtin .copy,args:=#[x,y],argTypes:=#[t,t'] }) ty (goInt 0) w:=fun _ _ _ _ _ ha=>by
 cases hq:P.info? e with
 | none=>simp [hq] at hs
 | some i=>
  have hl:∀ a:Addr,(loadCells a 0).run P w = .ok #[] w:=fun a=>ahn (P:=P) w a [] (fun j v h=>by simp at h);have hc:(Builtin.copy_ #[t,t'] ty #[.slice A dl dc,.slice B sl sc]).run P w = .ok (goInt 0) w:=by
   cases A <;> cases B <;> simp [Builtin.copy_,run_underlying hu,Builtin.lenOf,Builtin.firstCells,sizeOf,typeInfo,hq,h0,hl,storeCells]
  simp [execOp,resolve,invoke,builtin,ha.ev hx,ha.ev hy,hc]
theorem Bd (hT:aY P G.shp T) (hR:Rep G ρ H w) (hf:FrR (cx G ρ w) ρ fr F) {b:AV} {vb:Value} (hr:MQ T ro H t t' a b=some r) (ha:Rd (cx G ρ w) ρ a va) (hb:Rd (cx G ρ w) ρ b vb) (hx:ev F x=some va) (hy:ev F y=some vb) :
  ∃ v w',aD P n F w (.call { callee:=.builtin .copy,args:=#[x,y],argTypes:=#[t,t'] }) ty v w' /\ eB G ro ρ w ⟨r.v,fr,r.H,r.ob,r.fc⟩ F v w':=by
 unfold MQ at hr;split at hr
 ·rename_i id e s sz z e' so sz' z' hft hft';obtain ⟨hu,hs⟩:=(hT _ _ hft).2;obtain ⟨_,⟨zz,hz,_⟩,_⟩:=hs _ rfl;have hinfo:(P.info? e).map (·.size)=some s.size:=by
   cases hq:P.info? e with
   | none=>simp [hq] at hz
   | some q=>simp [hq] at hz; simp [hz.2.1]
  split at hr
  ·rename_i er sr xs ys hH hys;split at hr
   ·rename_i hss;subst hss;split at hr
    ·rename_i hck;cases hr;simp only [Bool.and_eq_true] at hck;obtain ⟨A,k,cys,rfl,s1,s2,s3,s4⟩:=mw hR hys hb;obtain ⟨hshp,hbytes⟩:=dj hR hH;have hI:I64 ((min ys.length xs.length:Nat):Int):=by
      have:=ahd xs.length (gC sr);constructor <;> omega
     have hHs:=bB hH (by simp);have same:min ys.length xs.length=0->ys.take xs.length++xs.drop ys.length=xs:=fun h0=>by
      rcases Nat.le_total ys.length xs.length with hle | hle
      ·have:ys.length=0:=by rw [adA hle] at h0; exact h0
       rw [this,ahF,acr this]; simp
      have:xs.length=0:=by rw [ahm hle] at h0; exact h0
      rw [acr this]; simp
     have zero:∀ (A':Option Addr) (m c:Nat),va = .slice A' m c->m=xs.length->min ys.length xs.length=0->∃ v w',aD P n F w (.call { callee:=.builtin .copy,args:=#[x,y],argTypes:=#[t,t'] }) ty v w' /\ eB G ro ρ w ⟨one (.int (min ys.length xs.length:Nat)),fr,H.set id (.row er sr (ys.take xs.length++xs.drop ys.length)),[],[]⟩ F v w':=fun A' m c e1 e2 h0=>by
      subst e1; subst e2;refine ⟨_,w,R.aco hx hy hu hinfo h0,ρ,Stp.refl _ _ _,?_,hf,?_,by simp⟩
      ·rw [same h0];have:H.set id (.row er sr xs)=H:=by
        obtain ⟨hi,he⟩:=aam.1 hHs;rw [<- he,List.set_getElem_self]
       rw [this]; exact hR
      have e3:(min ys.length xs.length)=0:=h0;rw [e3]; exact Pd.int ⟨by decide,by decide⟩
     rcases bl hR hH with ⟨h0,h1⟩ | ⟨g,cap,cells,sp,h2,h3,h4,h5,h6,h7⟩
     ·rcases ha with ⟨_,_,_,_,h8,_⟩ | ⟨_,a0,rfl⟩
      ·rw [h0] at h8; cases h8
      exact zero a0 0 0 rfl (by rw [h1]; rfl) (by rw [h1]; exact Nat.min_zero _)
     rcases ha with ⟨_,_,_,_,h8,rfl⟩ | ⟨h8,_⟩
     ·rw [h2] at h8; cases h8;by_cases h0:min ys.length xs.length=0
      ·exact zero _ _ _ rfl rfl h0
      have hy0:¬ ys.length=0:=fun e=>h0 (by rw [e]; exact Nat.zero_min _);obtain ⟨ad,rfl,hsrc⟩:=s3.resolve_left hy0;have hcl:cells.length=xs.length*sr.size:=by rw [<- h4.length,bR]
      have hml:min ys.length xs.length<=ys.length:=Nat.min_le_left _ _;have hmr:min ys.length xs.length<=xs.length:=Nat.min_le_right _ _;have b1:min ys.length xs.length*sr.size<=ys.length*sr.size:=adk _ hml;have b2:min ys.length xs.length*sr.size<=xs.length*sr.size:=adk _ hmr;have hcs:(cys.take (min ys.length xs.length*sr.size)).length=min ys.length xs.length*sr.size:=by rw [List.length_take,s1]; exact adA b1
      have hrun:=R.mz (P:=P) (n:=n) (w:=w) (ty:=ty) (t':=t') (cur:=cells++sp) (cs:=cys.take (min ys.length xs.length*sr.size)) hx hy hu hinfo h3 hcs (hsrc.take _) (by rw [hcs,List.length_append,hcl]; omega) (fun v hv=>s2 v (List.mem_of_mem_take hv));refine ⟨_,_,hrun,?_⟩;have hkp:=Kp.setRow w g ((cells++sp).take 0++cys.take (min ys.length xs.length*sr.size)++(cells++sp).drop (0+(cys.take (min ys.length xs.length*sr.size)).length)).toArray;have hhp:=ad4 w g _ ((cells++sp).take 0++cys.take (min ys.length xs.length*sr.size)++(cells++sp).drop (0+(cys.take (min ys.length xs.length*sr.size)).length)).toArray er _ h3;revert hkp hhp;generalize hW:w.setRow g ((cells++sp).take 0++cys.take (min ys.length xs.length*sr.size)++(cells++sp).drop (0+(cys.take (min ys.length xs.length*sr.size)).length)).toArray=W;intro hkp hhp;have hcells:(cells++sp).take 0++cys.take (min ys.length xs.length*sr.size)++(cells++sp).drop (0+(cys.take (min ys.length xs.length*sr.size)).length)=(cys.take (xs.length*sr.size)++cells.drop (ys.length*sr.size))++sp:=by
       rw [hcs,ahG,ahp,ac_,List.drop_append_of_le_length (by omega),<- List.append_assoc];congr 1;rcases Nat.le_total ys.length xs.length with hle | hle
       ·have e1:min ys.length xs.length=ys.length:=adA hle;rw [e1,<- s1,List.take_length,List.take_of_length_le (by rw [s1]; exact adk _ hle)]
       have e1:min ys.length xs.length=xs.length:=ahm hle;rw [e1,<- hcl,List.drop_length,aeu (by rw [hcl]; exact adk _ hle)]
      rw [hcells] at hhp;have hnew:Pds (cx G ρ w) ((ys.take xs.length++xs.drop ys.length).flatMap (cellsOf sr)) (cys.take (xs.length*sr.size)++cells.drop (ys.length*sr.size)):=by
       rw [List.flatMap_append];exact (bk s4 _).append (bL h4 _)
      have hnl:(ys.take xs.length++xs.drop ys.length).length=xs.length:=by
       rw [List.length_append,List.length_take,List.length_drop]; omega
      have hext:Ext ρ w ρ W:=⟨hkp.os,hkp.tape,hkp.output,hkp.size,fun b hb hl=>⟨hl,hkp.block b hb (by
       simp only [ac2];rintro rfl;exact hl ⟨id,_,h2,rfl⟩)⟩⟩
      have hle:=hext.le hR.lo;have hput:=hR.put (o':=.row er sr (ys.take xs.length++xs.drop ys.length)) hHs h2 rfl hkp ⟨hshp,by rw [hnl]; exact hbytes,.inr ⟨g,cap,_,sp,by rw [hnl],hhp,hnew.carry hle,by
       rw [<- hcells,<- h5];simp only [List.length_append,List.length_take,List.length_drop,ac_,s1];have e9:min (min ys.length xs.length*sr.size) (ys.length*sr.size)=min ys.length xs.length*sr.size:=adA b1;rw [e9,hcl];have e8:min 0 (xs.length*sr.size+sp.length)=0:=Nat.zero_min _;omega,by rw [hnl]; exact h6,h7⟩⟩
      refine ⟨ρ,⟨hput.2,fun _ _ _ h=>h,fun i r' hi hr'=>⟨hr',fun g' hg'=>hkp.block g' (hR.bnd i r' g' hr' hg').2.1 ?_⟩,fun _ _ h=>h⟩,hput.1,hf.carry hle (jP.refl _),(show Pd _ (.int (min ys.length xs.length:Nat)) (.int .i64 _) from Pd.int hI),by simp⟩;simp only [ac2];rintro rfl;have:=hR.inj i id _ _ g' hr' h2 hg' rfl;subst this; rw [hck.1] at hi; cases hi
     rw [h2] at h8; cases h8
    cases hr
   cases hr
  cases hr
 cases hr
variable {op:Op}
theorem Qk (hT:aY P G.shp T) (hR:Rep G ρ H w) (hf:FrR (cx G ρ w) ρ fr F) (h:svX T ro fr H op=some r) (hob:∀ p ∈ r.ob,p):ez P n F w op ty (eB G ro ρ w r F):=by
 unfold svX at h;split at h
 ·rename_i cl;split at h
  ·rename_i hcal;split at h
   ·rename_i x y t t' hargs htys;split at h
    ·rename_i a b hx hy;split at h
     ·rename_i r' hcp;cases h;obtain ⟨va,h1,h2⟩:=aq hf hx;obtain ⟨vb,h3,h4⟩:=aq hf hy;obtain ⟨v,w',h5,h6⟩:=Bd (P:=P) (n:=n) (ty:=ty) hT hR hf hcp h2 h4 h1 h3;have e:cl={ callee:=.builtin .copy,args:=#[x,y],argTypes:=#[t,t'] }:=by
       cases cl; simp at hcal hargs htys; subst hcal;simp only [ahq];grind
      rw [e];exact .inl (.inl ⟨v,w',h5,h6⟩)
     cases h
    cases h
   cases h
  cases h
 cases h
theorem N_ (hT:aY P G.shp T) (hO:ay P G.shp O) (hR:Rep G ρ H w) (hf:FrR (cx G ρ w) ρ fr F) (h:sv T O ro fr H op=some r) (hob:∀ p ∈ r.ob,p):ez P n F w op ty (eB G ro ρ w r F):=by
 unfold sv at h;split at h
 ·rename_i r' hc;cases h;unfold svC at hc;split at hc
  ·rename_i t x hi;split at hc
   ·rename_i hx hh hft;obtain ⟨va,h1,h2⟩:=aq hf hx;obtain ⟨vb,h3,h4⟩:=aq hf hh;cases h4 with | int=>
    obtain ⟨v,w',h5,h6⟩:=GD (P:=P) (n:=n) (ty:=ty) hT hR hf hft hc hob h2 h1 h3;exact .inl (.inl ⟨v,w',h5,h6⟩)
   cases hc
  ·rename_i t b;split at hc
   ·rename_i e s sz z k hft hy;split at hc
    ·rename_i hs1;cases hc;obtain ⟨hu,hs⟩:=(hT _ _ hft).2;obtain ⟨hshp,⟨zz,hz,hzb⟩,_⟩:=hs s rfl;have hs1:=abk hs1;have g0:=hob _ (.head _);have g1:=hob _ (.tail _ (.head _));obtain ⟨m,rfl⟩:=ab9 g0;obtain ⟨vb,h3,h4⟩:=aq hf hy;cases h4 with | int=>
     have hmb:m*s.bytes<=140737488355328:=by
      have e9:((m*s.bytes:Nat):Int)=(m:Int)*s.bytes:=by simp
      omega
     have hml:m<=maxLen:=by
      have:=ahd m (gC s);simp only [maxLen]; omega
     obtain ⟨i,zv,hq,hzv,hzc,hsz,hby⟩:=pO hz;have hzl:=(jk (c:=cx G ρ w) (ρ:=ρ) hzb).length;rw [cF,hs1] at hzl;have hrun:=run_make (P:=P) w t e i zv hu hq hzv .i64 .i64 0 (m:Int) (by omega) (by omega) (by
      rw [hby];have e9:((s.bytes*m:Nat):Int)=(s.bytes:Int)*m:=by simp
      rw [<- e9,Nat.mul_comm]; omega) (by simp only [maxLen] at hml; omega)
     simp only [adm,Int.toNat_zero] at hrun;have hk:=Kp.alloc w (.cells (madeCells zv.cells (m*i.size)) e);obtain ⟨ρ2,q1,q2,q3,q4⟩:=pP (ro:=ro) (xs:=([]:List (den s))) (cells:=[]) (sp:=(madeCells zv.cells (m*i.size)).toList) (cap:=m) hR hf hk (by
      have:=agi w (.cells (madeCells zv.cells (m*i.size)) e);simpa using this) hshp (by simp) .nil (by simp [madeCells,hsz]) (afV _) hml
     exact .inl (.inl ⟨_,_,fun a _ _ _ _ ha=>by simp [execOp,ha.ev (show ev F (.const (.int .i64 0))=some (.int .i64 0) from rfl),ha.ev h3,hrun],ρ2,q1,q2,q3,q4,by simp⟩)
    cases hc
   cases hc
  cases hc
 split at h
 ·cases h; exact Pe hT hO hR hf (by assumption) hob
 exact Qk hT hR hf h hob
end
theorem dz {q:Prop} (h:∀ p ∈ [q],p):q:=h q (ab3 q)
theorem bu {b:Bool}:(∀ p ∈ same b,p)↔b=true:=by
 cases b with
 | true=>simp [same]
 | false=>exact ⟨fun h=>(dz h).elim,fun h=>by cases h⟩
theorem Ao:∀ {k n:Nat},(iota k n).length=n
 | _,0=>rfl
 | k,n+1=>by simp [iota,Ao]
theorem xl:∀ {k n i:Nat},i<n->(iota k n)[i]? = some (k+i)
 | k,n+1,0,_=>by simp [iota]
 | k,n+1,i+1,h=>by
  have:=xl (k:=k+1) (n:=n) (i:=i) (by omega);rw [iota,agO,this,show k+1+i=k+(i+1) by omega]
variable {i k:Nat}
theorem JA:i ∈ iota k n↔k<=i/\i<k+n:=by
 induction n generalizing k with
 | zero=>simp [iota]
 | succ n ih=>simp [iota,ih]; omega
theorem ir:∀ {σ:List Nat} {j i:Nat},HM σ j i=true↔σ[j]? = some i
 | [],j,i=>by simp [HM]
 | k :: r,0,i=>by simp [HM]
 | k :: r,j+1,i=>by simpa [HM] using ir (σ:=r)
theorem zJ {n:Nat}:∀ {σ:List Nat} {j:Nat},Gu n σ j=true↔∃ k,σ[j]? = some k/\n<=k
 | [],j=>by simp [Gu]
 | k :: r,0=>by simp [Gu]
 | k :: r,j+1=>by simpa [Gu] using zJ (σ:=r)
def cC (ρ:List RE) (σ:List Nat):List RE:=σ.map fun k=>ρ.getD k .emp
variable {r:RE}
theorem cX (h:σ[j]? = some i) (hr:ρ[i]? = some r):(cC ρ σ)[j]? = some r:=by
 simp [cC,h,hr]
theorem Nn (h:σ[j]? = some i) (hr:ρ.length<=i):(cC ρ σ)[j]? = some .emp:=by
 simp [cC,h,List.getElem?_eq_none hr]
theorem nD {g:Nat} (h:(cC ρ σ)[j]? = some r) (hg:r.g? = some g):∃ i,σ[j]? = some i/\ρ[i]? = some r:=by
 simp only [cC,List.getElem?_map,adg] at h;obtain ⟨i,h1,h2⟩:=h;refine ⟨i,h1,?_⟩;rw [List.getD_eq_getElem?_getD] at h2;cases hi:ρ[i]? with
 | none=>rw [hi] at h2; simp at h2; subst h2; cases hg
 | some r'=>rw [hi] at h2; simp at h2; rw [h2]
theorem oq {b:Nat} (h:live (cC ρ σ) b):∃ i r,i ∈ σ/\ρ[i]? = some r/\r.g? = some b:=by
 obtain ⟨j,r,h1,h2⟩:=h;obtain ⟨i,h3,h4⟩:=nD h1 h2;grind
section
variable {G:Gl} {ρ:List RE} {H:AH} {w:World} {σ:List Nat} {n:Nat}
theorem wV:(cx G ρ w).le (cx G (cC ρ σ) w):=
 ⟨rfl,rfl,fun _ hb=>⟨⟨hb.1,fun h=>by
  obtain ⟨i,r,_,h1,h2⟩:=oq h;exact hb.2.1 ⟨i,r,h1,h2⟩,hb.2.2⟩,rfl⟩,fun _ _ _=>rfl⟩
theorem gB:∀ {b b':List (Nat × Nat)} {us:List Value},oQ σ b b' = true->All2 (dP ρ) b us->All2 (dP (cC ρ σ)) b' us
 | [],[],_,_,h=>by cases h; exact .nil
 | (i,o) :: b,(j,o') :: b',_,h,k=>by
  simp only [oQ,Bool.and_eq_true] at h;cases k with | cons k1 k2=>
  have ho:=abk h.1.2;subst ho;obtain ⟨g,e1,e2⟩:=k1;exact .cons ⟨g,cX (ir.1 h.1.1) e1,e2⟩ (gB h.2 k2)
theorem NM (hR:Rep G ρ H w) (hn:n=H.length) {a b:AV} {v:Value} (h:Rd (cx G ρ w) ρ a v) (he:∀ p ∈ eqA H n σ a b,p):Rd (cx G (cC ρ σ) w) (cC ρ σ) b v:=by
 have hlen:=hR.obj.length;by_cases hd:b = .dead
 ·subst hd; exact h.one
 have hle:(cx G ρ w).le (cx G (cC ρ σ) w):=wV;cases a <;> cases b <;> first | exact (hd rfl).elim | (dsimp only [eqA] at he; try exact (dz he).elim)
 case int.int=>have he:=dz he; subst he; exact Pd.carry h hle
 case u8.u8=>have he:=dz he; subst he; exact Pd.carry h hle
 case u64.u64=>have he:=dz he; subst he; exact Pd.carry h hle
 case bool.bool=>
  have h:Pd (cx G ρ w) _ v:=h;cases h;rw [dz he]; exact Pd.bool
 case str.str=>have he:=dz he; subst he; exact Pd.carry h hle
 case li.li=>
  have e1:=he _ (ac7 ..);have e2:=he _ (acb _ (ab3 _));subst e1; subst e2; exact Pd.carry h hle
 case fz.fz=>
  rename_i s xs s' ys;by_cases hs:s=s'
  ·subst hs;rw [ahA rfl] at he;have he:xs=ys:=dz he;subst he;exact Pd.carry h hle
  rw [dif_neg hs] at he;exact (dz he).elim
 case em.fz=>
  have he:=dz he;subst he;exact Pd.Bs (Pd.carry h hle)
 case em.em=>
  have:=bu.1 he;simp at this; subst this;exact Pd.carry h hle
 case em.own=>
  obtain ⟨k,h1,h2⟩:=zJ.1 (bu.1 he);have h:Pd (cx G ρ w) _ v:=h;cases h with | em _=>
  exact .inr ⟨Nn h1 aK,_,rfl⟩
 case own.own=>
  have h1:=ir.1 (bu.1 he);rcases h with ⟨g,cap,len,z,h,e⟩ | ⟨h,e⟩
  ·exact .inl ⟨g,cap,len,z,cX h1 h,e⟩
  exact .inr ⟨cX h1 h,e⟩
 case own.fz=>
  rename_i i s ys;split at he
  ·rename_i t s' xs hH;by_cases hs:s' = s
   ·subst hs;rw [ahA rfl] at he;have h1:=bu.1 fun p hp=>he p (ac8 _ hp);have h2:xs=ys:=he _ (ac9 _ (ab3 _));simp only [adu] at h1;subst h2;have hni:i ∉ σ:=fun hi=>by rw [bj.2 hi] at h1; cases h1
    have hv:(AV.own i).vw H = .fz s' xs:=by simp [AV.vw,hH]
    refine kN (nL hR hle rfl h (fun g cap len z ⟨id,he,hid⟩=>?_) hv);have hb:=hR.bnd _ _ g hid rfl;refine ⟨hb.2.1,fun hl=>?_,hb.2.2⟩;obtain ⟨i',r',h3,h4,h5⟩:=oq hl;have:=hR.inj _ _ _ _ g hid h4 rfl h5;rcases he with he | ⟨_,_,he⟩ <;> cases he;subst this;exact hni h3
   rw [dif_neg hs] at he;exact (dz he).elim
  exact (dz he).elim
 case sub.sub=>
  simp only [ac1,ac4,ahf,or_false] at he;have h1:=ir.1 (bu.1 fun p hp=>he p (.inl hp));have h2:=he _ (.inr (.inl rfl));have h3:=he _ (.inr (.inr rfl));subst h2; subst h3;rcases h with ⟨g,cap,len,z,h,e⟩ | ⟨h,e⟩
  ·exact .inl ⟨g,cap,len,z,cX h1 h,e⟩
  exact .inr ⟨cX h1 h,e⟩
 case ptr.ptr=>
  have h1:=bu.1 he;simp only [Bool.and_eq_true] at h1;have ho:=abk h1.2;subst ho;obtain ⟨g,h,e⟩:=h;exact ⟨g,cX (ir.1 h1.1) h,e⟩
 case np.np=>exact h
 case elp.elp=>
  simp only [ac1,ac4,ahf,or_false] at he;have h1:=bu.1 fun p hp=>he p (.inl hp);have h2:=he _ (.inr rfl);simp only [Bool.and_eq_true] at h1;have ho:=abk h1.2;subst ho; subst h2;obtain ⟨g,cap,len,z,h,e⟩:=h;exact ⟨g,cap,len,z,cX (ir.1 h1.1) h,e⟩
 case fn.fn=>
  have h1:=bu.1 he;simp only [Bool.and_eq_true] at h1;have ho:=abk h1.1.1;subst ho;obtain ⟨bs,us,h2,h3,e⟩:=h;exact ⟨bs,us,gB h1.1.2 h2,gB h1.2 h3,e⟩
 case nf.nf=>exact h
 case yl.yl=>rw [<- abk (bu.1 he)]; exact h
 case np.xx k b=>
  unfold abw at he;split at he
  ·rename_i q;have h1:=bu.1 he;unfold aaq at h1;split at h1
   ·rename_i i hi;split at h1
    ·rename_i t cs hH;obtain ⟨r,hr,g,vs,rfl,_⟩:=hR.at_ (bB hH (by simp));have h:v = .pointer none:=h;exact ⟨[_],.cons ⟨g,cX hi hr,rfl⟩ .nil,rfl,.inl h⟩
    cases h1
   cases h1
  exact (dz he).elim
 case ptr.xx i o k b=>
  unfold acC at he;split at he
  ·rename_i q;have h1:=bu.1 he;simp only [Bool.and_eq_true] at h1;obtain ⟨g,h2,e⟩:=h;have ho:=abk h1.2;subst ho;exact ⟨[v],.cons ⟨g,cX (ir.1 h1.1) h2,e⟩ .nil,rfl,.inr rfl⟩
  exact (dz he).elim
 case xx.xx k b k' b'=>
  obtain ⟨us,h1,h2⟩:=h;unfold eqX at he;split at he
  ·have:=he _ (ab3 _);subst this;cases h1;exact ⟨[],.nil,h2⟩
  ·exact ⟨us,gB (bu.1 he) h1,h2.le hle⟩
  ·split at he
   ·rename_i hs;subst hs;have:=he _ (ab3 _);subst this;cases h1;exact ⟨[],.nil,h2.le hle⟩
   exact (dz he).elim
  ·have e1:=he _ (ac7 ..);have e2:=he _ (acb _ (ab3 _));subst e1; subst e2;cases h1;exact ⟨[],.nil,h2.le hle⟩
  ·have:=he _ (ab3 _);subst this;cases h1;exact ⟨[],.nil,h2⟩
  ·exact ⟨us,gB (bu.1 he) h1,h2.le hle⟩
  ·exact ⟨us,gB (bu.1 he) h1,h2.le hle⟩
  exact (dz he).elim
 case mq.mq=>
  obtain ⟨g,h,e⟩:=h;exact ⟨g,cX (ir.1 (bu.1 he)) h,e⟩
theorem xi (hR:Rep G ρ H w) (hn:n=H.length):∀ {asx bs:List AV} {vs:List Value},All2 (Rd (cx G ρ w) ρ) asx vs->(∀ p ∈ Oq H n σ asx bs,p)->All2 (Rd (cx G (cC ρ σ) w) (cC ρ σ)) bs vs
 | [],[],_,h,_=>by cases h; exact .nil
 | [],_ :: _,_,_,h=>(dz h).elim
 | _ :: _,[],_,_,h=>(dz h).elim
 | a :: asx,b :: bs,_,h,he=>by
  cases h with | cons h1 h2=>
  simp only [Oq,ac1] at he;exact .cons (NM hR hn h1 fun p hp=>he p (.inl hp)) (xi hR hn h2 fun p hp=>he p (.inr hp))
theorem CQ (hR:Rep G ρ H w) (hn:n=H.length) {a b:TV1} {v:Value} (h:cO (cx G ρ w) ρ a v) (he:∀ p ∈ RB H n σ a b,p):cO (cx G (cC ρ σ) w) (cC ρ σ) b v:=by
 cases a <;> cases b <;> simp only [RB] at he
 ·exact NM hR hn h he
 ·simp_all
 ·exact (dz he).elim
 obtain ⟨vs,e,h⟩:=h;exact ⟨vs,e,xi hR hn h he⟩
theorem mu (hR:Rep G ρ H w) (hn:n=H.length):∀ {asx bs:List TV1} {vs:List Value},All2 (cO (cx G ρ w) ρ) asx vs->(∀ p ∈ xD H n σ asx bs,p)->All2 (cO (cx G (cC ρ σ) w) (cC ρ σ)) bs vs
 | [],[],_,h,_=>by cases h; exact .nil
 | [],_ :: _,_,_,h=>(dz h).elim
 | _ :: _,[],_,_,h=>(dz h).elim
 | a :: asx,b :: bs,_,h,he=>by
  cases h with | cons h1 h2=>
  simp only [xD,ac1] at he;exact .cons (CQ hR hn h1 fun p hp=>he p (.inl hp)) (mu hR hn h2 fun p hp=>he p (.inr hp))
theorem VQ (hR:Rep G ρ H w) (hn:n=H.length) {a b:TV} {v:Value} (h:Rt (cx G ρ w) ρ a v) (he:∀ p ∈ eqT H n σ a b,p):Rt (cx G (cC ρ σ) w) (cC ρ σ) b v:=by
 cases b with
 | un=>trivial
 | one b=>
  cases a <;> simp only [eqT] at he
  ·exact CQ hR hn h he
  ·simp_all
  exact (dz he).elim
 | tup b=>
  cases a <;> simp only [eqT] at he
  ·exact (dz he).elim
  ·obtain ⟨vs,e,h⟩:=h;exact ⟨vs,e,mu hR hn h he⟩
  exact (dz he).elim
theorem D_ (hR:Rep G ρ H w) (hn:n=H.length) {fr:AFr} {F:Fr} (hf:FrR (cx G ρ w) ρ fr F):∀ {fr':AFr},(∀ p ∈ Q_ H n σ fr fr',p)->∃ F',FrR (cx G (cC ρ σ) w) (cC ρ σ) fr' F' /\ ∀ i v,look F' i=some v->look F i=some v
 | [],_=>⟨[],.nil,fun i v h=>by cases h⟩
 | (i,b) :: fr',he=>by
  simp only [Q_] at he;split at he
  ·rename_i u hu;simp only [ac1] at he;obtain ⟨v,h1,h2⟩:=ew hf hu;obtain ⟨F',h3,h4⟩:=D_ hR hn hf fun p hp=>he p (.inr hp);refine ⟨(i,v) :: F',.cons ⟨rfl,VQ hR hn h2 fun p hp=>he p (.inl hp)⟩ h3,fun j x hj=>?_⟩;rw [aM] at hj;grind
  simp_all
theorem An {P:Program} {t:TypeId} {s:Sh} {T:List (Nat × TI)} (hT:aY P G.shp T):∀ {r:List (Nat × TI)},wX T t s r=true->G.shp t=some s
 | (i,_) :: r,h=>by
  simp only [wX,Bool.or_eq_true] at h;rcases h with h | h
  ·split at h
   ·rename_i e s' _ _ hu;simp only [Bool.and_eq_true,decide_eq_true_eq] at h;have h1:=abk h.1;obtain ⟨_,h2⟩:=h;subst h1; subst h2;exact ((hT _ _ hu).2.2 _ rfl).1
   cases h
  exact An hT h
theorem ME {P:Program} {T:List (Nat × TI)} (hT:aY P G.shp T) (hR:Rep G ρ H w) (hn:n=H.length):∀ {r:List Nat} {H':AH},(∀ p ∈ Yi T H n σ r H',p)->All2 (OR (cx G (cC ρ σ) w) (cC ρ σ)) H' (r.map fun k=>ρ.getD k .emp)
 | [],[],_=>.nil
 | [],_ :: _,h=>(dz h).elim
 | _ :: _,[],h=>(dz h).elim
 | k :: r,b :: H',h=>by
  simp only [Yi,ac1] at h;refine .cons ?_ (ME hT hR hn fun p hp=>h p (.inr hp));replace h:=fun p hp=>h p (.inl hp);have hle:(cx G ρ w).le (cx G (cC ρ σ) w):=wV;cases hk:Nat.blt k n <;> rw [hk] at h
  ·-- a new row
   have hk':n<=k:=by
    have:¬ k<n:=fun hlt=>by have:=(Nat.blt_eq).mpr hlt; rw [hk] at this; cases this
    omega
   dsimp only [cond_false] at h;have hlen:=hR.obj.length;show OR _ _ _ (ρ.getD k .emp);rw [List.getD_eq_getElem?_getD,List.getElem?_eq_none (by omega)];cases b with
   | row t s ys=>
    dsimp only [eqN] at h;have h1:=bu.1 fun p hp=>h p (ac8 _ hp);have h2:ys=[]:=h _ (ac9 _ (ab3 _));subst h2;exact ⟨An hT h1,by simp,.inl ⟨rfl,rfl⟩⟩
   | gone=>exact (dz h).elim
   | mapo _ _=>exact (dz h).elim
   | mapf _=>exact (dz h).elim
   | loc=>exact (dz h).elim
   | arr _ _ _ _=>exact (dz h).elim
   | box _ _=>exact (dz h).elim
  dsimp only [cond_true] at h;have hk':k<H.length:=by have:=Nat.blt_eq.mp hk; omega
  have hg:H[k]? = some (getO H k):=by
   unfold getO;rw [List.getD_eq_getElem?_getD,List.getElem?_eq_getElem hk'];rfl
  obtain ⟨rr,h1,h2⟩:=hR.at_ hg;show OR _ _ _ (ρ.getD k .emp);rw [List.getD_eq_getElem?_getD,h1,Option.getD_some];generalize getO H k=a at h h2;cases a <;> cases b <;> dsimp only [eqO] at h <;> try exact (dz h).elim
  case gone.gone=>exact h2
  case mapo.mapo s f s' f'=>
   by_cases hs:s=s'
   ·subst hs;rw [ahA rfl] at h;have he:f=f':=dz h;subst he;obtain ⟨g,e,h3⟩:=h2;exact ⟨g,e,h3.carry hle rfl⟩
   simp_all
  case arr.arr t s m xs t' s' m' ys=>
   have h0:=bu.1 fun p hp=>h p (ac8 _ hp);simp only [Bool.and_eq_true] at h0;have h3:=abk h0.1;have h4:=abk h0.2;subst h3; subst h4;replace h:=fun p hp=>h p (ac9 _ hp);by_cases hs:s=s'
   ·subst hs;rw [ahA rfl] at h;have he:xs=ys:=dz h;subst he;obtain ⟨g,vs,e,h5,h6,h7⟩:=h2;exact ⟨g,vs,e,h5,h6.carry hle,h7⟩
   rw [dif_neg hs] at h;exact (dz h).elim
  case box.box t cs t' cs'=>
   have h3:=abk (bu.1 fun p hp=>h p (ac8 _ hp));subst h3;obtain ⟨g,vs,e,h4,h5⟩:=h2;exact ⟨g,vs,e,h4,xi hR hn h5 fun p hp=>h p (ac9 _ hp)⟩
  case row.row t s xs t' s' ys=>
   have h3:=abk (bu.1 fun p hp=>h p (ac8 _ hp));subst h3;replace h:=fun p hp=>h p (ac9 _ hp);by_cases hs:s=s'
   ·subst hs;rw [ahA rfl] at h;have he:xs=ys:=dz h;subst he;refine ⟨h2.1,h2.2.1,h2.2.2.imp id ?_⟩;rintro ⟨g,cap,cells,sp,e,h4,h5,h6⟩;exact ⟨g,cap,cells,sp,e,h4,h5.carry hle,h6⟩
   rw [dif_neg hs] at h;exact (dz h).elim
theorem sK {n:Nat}:∀ {σ:List Nat},mb n σ=true->∀ (i j k:Nat),σ[i]? = some k->σ[j]? = some k->k<n->i=j
 | x :: r,hs,i,j,k,h1,h2,hk=>by
  simp only [mb,Bool.and_eq_true,Bool.or_eq_true] at hs;have hx:k=x->∀ m:Nat,r[m]? = some k->False:=by
   rintro rfl m hm;rcases hs.1 with h | h
   ·have:=adl h; omega
   rw [bj.2 (ada hm)] at h; cases h
  cases i with
  | zero=>
   grind
  | succ i=>
   cases j with
   | zero=>simp at h2; exact (hx h2.symm i (by simpa using h1)).elim
   | succ j=>rw [sK hs.2 i j k (by simpa using h1) (by simpa using h2) hk]
variable {T:List (Nat × TI)} {P:Program}
theorem nj (hT:aY P G.shp T) (hR:Rep G ρ H w) (hn:n=H.length) (hs:mb n σ=true) {H':AH} (h:∀ p ∈ Yi T H n σ σ H',p):Rep G (cC ρ σ) H' w:=by
 have hlen:=hR.obj.length;refine ⟨ME hT hR hn h,fun i j r r' g h1 h2 h3 h4=>?_,fun i r g h1 h2=>?_,hR.z,hR.b0,hR.tb.carry wV⟩
 ·obtain ⟨a,h5,h6⟩:=nD h1 h3;obtain ⟨b,h7,h8⟩:=nD h2 h4;have:=hR.inj a b r r' g h6 h8 h3 h4;subst this;exact sK hs i j a h5 h7 (by have:=(aam.1 h6).1; omega)
 obtain ⟨a,h5,h6⟩:=nD h1 h2;exact hR.bnd a r g h6 h2
variable {w0:World} {ρ0:List RE}
theorem nG (h:Ext ρ0 w0 ρ w):Ext ρ0 w0 (cC ρ σ) w:=
 ⟨h.os,h.tape,h.output,h.size,fun b hb hl=>⟨fun hk=>by
  obtain ⟨i,r,_,h1,h2⟩:=oq hk;exact (h.old b hb hl).1 ⟨i,r,h1,h2⟩,(h.old b hb hl).2⟩⟩
variable {ro:Lv}
theorem LS (h:Stp ro ρ0 w0 ρ w) (hσ:∀ i,i<ρ0.length->σ[i]? = some i):Stp ro ρ0 w0 (cC ρ σ) w:=
 ⟨nG h.ext,fun i r hi hr=>cX (hσ i (aam.1 hr).1) (h.loc i r hi hr),fun i r hi hr=>⟨cX (hσ i (aam.1 hr).1) (h.pro i r hi hr).1,(h.pro i r hi hr).2⟩,
  fun i g hg=>cX (hσ i (aam.1 hg).1) (h.bx i g hg)⟩
def St (G:Gl) (ro:Lv) (ρ0:List RE) (w0:World) (fr:AFr) (H:AH) (F:Fr) (w:World):Prop:=∃ ρ,Stp ro ρ0 w0 ρ w/\Rep G ρ H w/\FrR (cx G ρ w) ρ fr F
theorem Ag {k0:Nat} {fr:AFr} {H:AH} {q:AFr × AH} {i:Nat} (h:i<k0):∀ (f:Nat) (ps:List (Nat × Nat)),(Ta k0 fr H q f ps)[i]? = some i
 | 0,ps=>by
  show (iota 0 k0++_)[i]? = _;have:=xl (k:=0) (n:=k0) (i:=i) h;grind
 | f+1,ps=>Ag h f _
theorem gg (hT:aY P G.shp T) {k0:Nat} {fr:AFr} {F:Fr} {q:AFr × AH} (hk0:ρ0.length<=k0) (h:St G ro ρ0 w0 fr H F w) (he:iQ (Bt T k0 fr H q)) :
  ∃ F',St G ro ρ0 w0 q.1 q.2 F' w/\∀ i v,look F' i=some v->look F i=some v:=by
 obtain ⟨ρ,hS,hR,hf⟩:=h;replace he:=dZ.1 he;have h0:=bu.1 fun p hp=>he p (ac8 _ (ac8 _ hp));rw [Bool.and_eq_true] at h0;obtain ⟨F',h2,h3⟩:=D_ (σ:=Ta k0 fr H q 3 []) hR rfl hf fun p hp=>he p (ac8 _ (ac9 _ hp));have h4:=nj hT hR rfl h0.2 fun p hp=>he p (ac9 _ hp);exact ⟨F',⟨_,LS hS fun i hi=>Ag aK 3 [],h4,h2⟩,h3⟩
end
theorem je {R:Prop}:∀ {l:List Prop},tq l R↔(∀ p ∈ l,p)/\R
 | []=>by simp [tq]
 | p :: l=>by simp only [tq,je,agH,and_assoc]
theorem ef {R:Prop}:∀ {l:List Prop},ku l R↔((∀ p ∈ l,p)->R)
 | []=>by simp [ku]
 | p :: l=>by simp only [ku,ef,agH,and_imp]
section
variable {P:Program} {T:List (Nat × TI)} {G:Gl} {O:bD} {Q:Exit->Act->World->Prop} {n:Nat} {ro:Lv} {l:List Oper} {ρ0:List RE} {w0:World}
variable {w:World}
theorem Nf (hR:Rep G ρ H w) {a:AV} {v:Value} (h:Rd (cx G ρ w) ρ a v) {s:Sh} {xs:List (den s)} (hv:a.vw H = .fz s xs):∃ A m c,v = .slice A m c/\(A.isNone=true->xs=[]):=by
 cases a <;> simp only [AV.vw] at hv <;> try cases hv
 case fz=>
  cases h with
  | fz h1 h2 h3 h4 h5=>
   grind
 case own id=>
  split at hv
  ·rename_i t s' ys hH;cases hv;rcases h with ⟨g,cap,len,z,h,rfl⟩ | ⟨h,A,rfl⟩
   ·grind
   refine ⟨_,_,_,rfl,fun _=>?_⟩;rcases bl hR hH with ⟨_,h2⟩ | ⟨g,cap,cells,sp,h2,_⟩
   ·exact h2
   grind
  cases hv
 case sub id o k=>
  split at hv
  ·rename_i t s' ys hH;rcases h with ⟨g,cap,L,z,h,_,rfl⟩ | ⟨h,rfl,rfl,A,rfl⟩
   ·exact ⟨_,_,_,rfl,fun hn=>by cases hn⟩
   grind
  cases hv
variable {ty:TypeId} {F:Fr} {op:Op}
theorem Tf (hT:aY P G.shp T) (hR:Rep G ρ H w) {fr:AFr} (hf:FrR (cx G ρ w) ρ fr F) {s:Sh} {xs:List (den s)} {ne:Bool} (h:Zi T H fr op=some ⟨s,xs,ne⟩):∃ b,aD P n F w op ty (.bool (XA ne b).val) w/\(b=true->xs=[]):=by
 unfold Zi at h;split at h
 ·rename_i bo t x y t';have key:∀ {a:AV} {e so sz z},aQ T t=some ⟨.sl e so,sz,z⟩->cP fr x=some (.one (.c a))->cP fr y=some (.one (.c (.em true)))->a.vw H = .fz s xs->∃ A m c,ev F x=some (.slice A m c)/\ev F y=some (.slice none 0 0)/\P.underlying t=some (.slice e)/\(A.isNone=true->xs=[]):=by
   intro a e so sz z hft hx hy hv;obtain ⟨va,h1,h2⟩:=aq hf hx;obtain ⟨vb,h3,h4⟩:=aq hf hy;obtain ⟨A,m,c,rfl,hn⟩:=Nf hR h2 hv;have h4:Pd (cx G ρ w) (.em true) vb:=h4;cases h4 with
   | @em b A' he=>
    cases A' with
    | none=>exact ⟨A,m,c,h1,h3,(hT _ _ hft).2.1,hn⟩
    | some _=>cases he
  split at h
  ·rename_i e so sz z a hft hx hy;split at h
   ·rename_i s' ys hv;cases h;obtain ⟨A,m,c,h1,h2,h3,h4⟩:=key hft hx hy hv;exact ⟨A.isNone,R.NZ h1 h2 h3,h4⟩
   cases h
  ·rename_i e so sz z a hft hx hy;split at h
   ·rename_i s' ys hv;cases h;obtain ⟨A,m,c,h1,h2,h3,h4⟩:=key hft hx hy hv;exact ⟨A.isNone,R.Ny h1 h2 h3,h4⟩
   cases h
  cases h
 cases h
theorem lO {k:Int} {ok:Bool} {K:TV->Prop}:∀ {l:List (Int × AV)},xf k ok K l->K (match lookF k l with
  | some a=>Gb ok a true
  | none=>Gb ok .nf false)
 | [],h=>h
 | (j,a) :: r,h=>by
  simp only [lookF];by_cases hk:k=j
  ·rw [if_pos hk]; exact h.1 hk
  rw [if_neg hk]; exact lO (h.2 hk)
theorem xI (hT:aY P G.shp T) (hR:Rep G ρ H w) {fr:AFr} (hf:FrR (cx G ρ w) ρ fr F) {m:MpR} (h:mapA T H fr op=some m):∃ v,aD P n F w op ty v w/\Rt (cx G ρ w) ρ (match lookF m.k m.l with
  | some a=>Gb m.ok a true
  | none=>Gb m.ok .nf false) v:=by
 unfold mapA at h;split at h
 ·rename_i t x y ok;split at h
  ·rename_i id k hft hx hy;split at h
   ·rename_i l hO2;cases h;obtain ⟨hm,hk,_,hz⟩:=(hT _ _ hft).2;obtain ⟨va,h1,h2⟩:=aq hf hx;obtain ⟨vb,h3,h4⟩:=aq hf hy;cases h4 with | int=>
    obtain ⟨g,hg,rfl⟩:=h2;obtain ⟨r',hr',hor⟩:=hR.at_ (bB hO2 (by simp));rw [hg] at hr'; cases hr';obtain ⟨g',e,a,c,k1,k2,k3⟩:=hor;cases e;have hrun:=R.qe (P:=P) (n:=n) (ty:=ty) ok h1 h3 hm hk (hz rfl) k1 k2;refine ⟨_,hrun,?_⟩;have k4:=k3 k;cases hgm:getM k a.toList <;> cases hfk:lookF k l <;> rw [hgm,hfk] at k4
    ·cases ok with
     | false=>exact (rfl:(_:Value)=_)
     | true=>exact ⟨_,rfl,.cons rfl (.cons (Pd.bool (e:=.lit false)) .nil)⟩
    ·exact k4.elim
    ·exact k4.elim
    cases ok with
    | false=>exact k4
    | true=>exact ⟨_,rfl,.cons k4 (.cons (Pd.bool (e:=.lit true)) .nil)⟩
   cases h
  cases h
 cases h
theorem rG {l:List Oper} {fr:AFr} {j:Nat} {w:Bool}:∀ {grp:List Oper} {us:List Nat},BB l fr j w us grp=true->∀ o ∈ grp,iG fr o.dst=true
 | [],_,_,o,ho=>by cases ho
 | x :: r,us,h,o,ho=>by
  simp only [BB,Bool.and_eq_true] at h;rcases ac4.1 ho with rfl | ho
  ·exact h.1.1
  exact rG h.2 o ho
theorem Dn {n j:Nat} {w:Bool}:∀ {grp:List Oper},jR n grp=true->jR n (grp.map (Ks j w))=true
 | [],h=>h
 | x :: r,h=>by
  simp only [jR,ae9,Bool.and_eq_true] at h ⊢;refine ⟨?_,Dn h.2⟩;have e:(Ks j w x).dst=x.dst:=by unfold Ks; rw [Bool.cond_eq_ite]; split <;> first | rfl | (split <;> rfl)
  grind
theorem k_ (hT:aY P G.shp T) (hO:ay P G.shp O) {K:AFr->AH->Prop} (hK:∀ fr H F w,K fr H->St G ro ρ0 w0 fr H F w->WX Q n .normal F w) :
  ∀ (m:Nat) (ops:List Oper) (fr:AFr) (H:AH) (F:Fr) (w:World),jR n ops=true->wpOps T O ro l K m ops fr H->St G ro ρ0 w0 fr H F w->WO P Q n l ops F w
 | 0,_,_,_,_,_,_,h,_=>h.elim
 | _+1,[],fr,H,F,w,_,h,hs=>WO.nil (hK fr H F w h hs)
 | m+1,o :: rest,fr,H,F,w,hd,h,hs=>by
  have ih:=k_ hT hO hK m;have hs0:=hs;obtain ⟨ρ,hS,hR,hf⟩:=hs;have hdo:=kL hd o (by simp);have hdr:jR n rest=true:=by simp only [jR,Bool.and_eq_true] at hd; exact hd.2
  obtain ⟨dst,op,ty,pos,af,g⟩:=o;simp only [wpOps] at h;split at h
  ·-- no guard
   split at h
   ·-- an element of what nobody writes
    rename_i s xs i hat;unfold atA at hat;split at hat
    ·rename_i t x y;split at hat
     ·rename_i s1 xs1 b s2 hx hy hsl;split at hat
      ·rename_i i' hdc hix;cases hat;have hss:s2=s:=ac6 hdc;subst hss;obtain ⟨h0,h1,h2⟩:=h;obtain ⟨va,h3,h4⟩:=aq hf hx;obtain ⟨vb,h5,h6⟩:=aq hf hy;obtain ⟨k,rfl⟩:=oN hix h6;obtain ⟨e,hu,_,_,hsz,_⟩:=Bx hT hsl;obtain ⟨j,rfl⟩:=ab9 h0;have hj:j<xs.length:=by omega
       have hxj:=List.getElem?_eq_getElem hj;obtain ⟨A,kk,rfl,_,hfe,us,hus⟩:=JH (ρ:=ρ) h4 hxj;have h7:=ef.1 (h2 _ (by rw [adm]; exact hxj)) hus.oK;refine WO.y (φ:=fun v w'=>v = .pointer (some (A.add (j*s2.size)))/\w' = w) (.inl ⟨_,_,R.jz h3 h5 hu hsz rfl hj,rfl,rfl⟩) hdo fun v w' ⟨e1,e2⟩=>?_;subst e1; subst e2;refine ih rest _ H _ _ hdr h7 ⟨ρ,hS,hR,?_⟩;cases dst with
       | some d=>exact .cons ⟨rfl,hfe⟩ hf
       | none=>exact hf
      cases hat
     cases hat
    cases hat
   split at h
   ·-- a comparison to nil
    rename_i s xs ne hnl;obtain ⟨b,hrun,hb⟩:=Tf (n:=n) (ty:=ty) hT hR hf hnl;refine WO.y (φ:=fun v w'=>v = .bool (XA ne b).val/\w' = w) (.inl ⟨_,_,hrun,rfl,rfl⟩) hdo fun v w' ⟨e1,e2⟩=>?_;subst e1; subst e2;refine ih rest _ H _ _ hdr (h b hb) ⟨ρ,hS,hR,?_⟩;cases dst with
    | some d=>exact .cons ⟨rfl,Pd.bool⟩ hf
    | none=>exact hf
   split at h
   ·-- a map of functions
    rename_i m0 hmp;obtain ⟨v0,hrun,hv0⟩:=xI (n:=n) (ty:=ty) hT hR hf hmp;refine WO.y (φ:=fun v w'=>v=v0/\w' = w) (.inl ⟨_,_,hrun,rfl,rfl⟩) hdo fun v w' ⟨e1,e2⟩=>?_;subst e1; subst e2;refine ih rest _ H _ _ hdr (lO h) ⟨ρ,hS,hR,?_⟩;cases dst with
    | some d=>exact .cons ⟨rfl,hv0⟩ hf
    | none=>exact hf
   split at h
   ·-- a step that changes nothing
    rename_i r hpv;obtain ⟨hob,h⟩:=je.1 h;refine WO.y (ru (ty:=ty) hT hO hR hf hpv hob) hdo fun v w1 ⟨hk1,hv1,hfc1⟩=>?_;refine ih rest _ H _ _ hdr (ef.1 h hfc1) ⟨ρ,hS.trans (Stp.kp hR hk1),hR.kp hk1,?_⟩;cases dst with
    | some d=>exact .cons ⟨rfl,hv1⟩ (hf.kp hk1)
    | none=>exact hf.kp hk1
   split at h
   ·rename_i r hst hsv;obtain ⟨hob,h⟩:=je.1 h;have key:∀ v w',eB G ro ρ w r F v w' -> WO P Q n l rest (iW dst v F) w':=by
     rintro v w' ⟨ρ',k1,k2,k3,k4,k5⟩;refine ih rest _ _ _ _ hdr (ef.1 h k5) ⟨ρ',hS.trans k1,k2,?_⟩;cases dst with
     | some d=>exact .cons ⟨rfl,k4⟩ k3
     | none=>exact k3
    rcases N_ (ty:=ty) hT hO hR hf hsv hob with hy | ⟨e,w',hsk,haf⟩
    ·exact WO.y hy hdo key
    cases dst with
    | some d=>simp [QN,e] at hst
    | none=>exact WO.s hsk (key _ _ haf)
   exact h.elim
  -- a guard
  rename_i g0 j wt;split at h
  ·rename_i r hgr;obtain ⟨hob,h⟩:=je.1 h;have:=DH (tl:=[]) (G:=G) (Q:=Q) (n:=n) (l:=l) (ρ:=ρ) (H:=H) (mA hT hO m) hgr (fun _ _ e=>by cases e) hob hd hR hf fun w1 hk1 hfc1 hFd hfd hf1 hbd hdt=>by
    rw [ade];exact ih r.tail _ H _ _ hdt (ef.1 h hfc1) ⟨ρ,hS.trans (Stp.kp hR hk1),hR.kp hk1,.cons ⟨rfl,Pd.bool⟩ hf1⟩
   rwa [ade] at this
  split at h
  ·-- a group,in two ways
   rename_i r hgs;obtain ⟨hon,hoff'⟩:=h;unfold ZH at hgs;split at hgs
   ·rename_i t hj;split at hgs
    ·rename_i e grp pk tail he hsp;split at hgs
     ·rename_i z x y d hck hpk hpd;cases hgs;simp only [Bool.and_eq_true] at hck;obtain ⟨⟨hoffB,hpg⟩,hfresh⟩:=hck;obtain ⟨hops,hip⟩:=oC hsp;replace hpg:=vU hpg;replace he:=dy he;rw [hops] at hd;rw [hops];obtain ⟨vt,hvt,hvr⟩:=ew hf he;cases hvr with | bool=>
      obtain ⟨hd1,hd2⟩:=nH.1 hd;have hd3:jR n tail=true:=by simp only [jR,Bool.and_eq_true] at hd2; exact hd2.2
      have hdd:Nat.blt d n=true:=kL hd2 pk (by simp) d hpd;rw [hpd] at hfresh;have hFd:look F d=none:=gJ hf hfresh d rfl;obtain ⟨dst,op,ty,pos,af,pg⟩:=pk;simp only at hpk hpd hpg hon hoff';subst hpk; subst hpd; subst hpg;have hz:z = .tmp t:=by
       cases z <;> simp only [oH] at hip
       ·rw [abk hip]
       all_goals cases hip
      subst hz;by_cases hew:e.val=wt
      ·rw [hew] at hvt;refine WO.split (t:=t) hj hvt (fun o ho d' hd' e=>?_) (ih _ _ H _ _ ?_ (hon ((BE.fh e wt).2 hew)) ⟨ρ,hS,hR,hf⟩)
       ·have:=gJ hf (rG hoffB o ho) d' hd';rw [e,hvt] at this; cases this
       refine nH.2 ⟨Dn hd1,?_⟩;simp only [jR,Bool.and_eq_true] at hd2 ⊢;exact hd2
      have hew':e.val = !wt:=by revert hew; cases e.val <;> cases wt <;> simp
      have hoff':=hoff' ((BE.fh e _).2 hew');split at hoff'
      ·rename_i v hv;refine kX (us:=[]) hf hj hvt hew' hoffB hd1 (by simp) ?_;obtain ⟨u,hu,hr⟩:=aq hf hv;have k:=ih tail ((d,v) :: fr) H ((d,u) :: F) _ hd3 hoff' ⟨ρ,hS,hR,.cons ⟨rfl,hr⟩ hf⟩;have hl:ev F (.tmp t)=some (.bool e.val):=hvt;cases wt with
       | true=>exact WO.v (R.Ai hl hew' hu) hdd k
       | false=>exact WO.v (R.xQ hl hew' hu) hdd k
      exact hoff'.elim
     cases hgs
    cases hgs
   cases hgs
  exact h.elim
def eu (n:Nat):Code->Bool
 | .seq a b=>eu n a && eu n b
 | .cond _ a b=>eu n a && eu n b
 | .block _ a=>eu n a
 | .loop a=>eu n a
 | .scope a=>eu n a
 | .region _ ops _=>jR n ops.toList
 | _=>true
theorem xw {c:Cx} {ρ:List RE} {fr:AFr} {F:Fr} (h:FrR c ρ fr F):∀ l:List Nat,∃ F2,FrR c ρ (cY fr l) F2/\∀ i v,look F2 i=some v->look F i=some v
 | []=>⟨[],.nil,fun i v h=>by cases h⟩
 | t :: r=>by
  obtain ⟨F2,h1,h2⟩:=xw h r;unfold cY;split
  ·rename_i v hv;obtain ⟨u,h3,h4⟩:=ew h hv;refine ⟨(t,u) :: F2,.cons ⟨rfl,h4⟩ h1,fun i x hx=>?_⟩;rw [aM] at hx;grind
  grind
def Nw (P:Program) (T:List (Nat × TI)) (G:Gl) (O:bD) (n:Nat) (ro:Lv) (ρ0:List RE) (w0:World):Prop:=
 ∀ (Q:Exit->Act->World->Prop) (k0 id:Nat) (L:List (Nat × LI)) (ops:Array Oper) (K:Exit->AFr->AH->Prop) (fr:AFr) (H:AH) (F:Fr) (w:World),jR n ops.toList=true->iL T O ro k0 L (.region id ops true) K fr H->St G ro ρ0 w0 fr H F w ->
  (∀ fr H F w,K .normal fr H->St G ro ρ0 w0 fr H F w->WX Q n .normal F w)->WC P Q n (.region id ops true) F w
theorem xj (hT:aY P G.shp T) (hO:ay P G.shp O) (hD:Nw P T G O n ro ρ0 w0) {k0:Nat} (hk0:ρ0.length<=k0) {L:List (Nat × LI)} :
  ∀ (c:Code) (Q:Exit->Act->World->Prop) (K:Exit->AFr->AH->Prop) (fr:AFr) (H:AH) (F:Fr) (w:World),eu n c=true->iL T O ro k0 L c K fr H->St G ro ρ0 w0 fr H F w ->
   (∀ e fr H F w,K e fr H->St G ro ρ0 w0 fr H F w->WX Q n e F w)->WC P Q n c F w:=by
 intro c;induction c <;> intro Q K fr H F w hc h hs hK
 case skip=>exact WC.skip (hK _ _ _ _ _ h hs)
 case seq a b iha ihb=>
  simp only [eu,Bool.and_eq_true] at hc;refine WC.seq (iha _ _ fr H F w hc.1 h hs fun e fr H F w h hs=>?_);cases e with
  | normal=>exact WX.next (ihb _ _ fr H F w hc.2 h hs hK)
  | _=>exact hK _ fr H F w h hs
 case cond c a b iha ihb=>
  simp only [eu,Bool.and_eq_true] at hc;obtain ⟨ρ,hS,hR,hf⟩:=hs;have hs:St G ro ρ0 w0 fr H F w:=⟨ρ,hS,hR,hf⟩;simp only [iL] at h;split at h
  ·rename_i he;obtain ⟨v,h1,h2⟩:=aq hf (dy he);cases h2 with | bool=>
   exact WC.Db h1 (iha _ _ fr H F w hc.1 h hs hK)
  ·rename_i he;obtain ⟨v,h1,h2⟩:=aq hf (dy he);cases h2 with | bool=>
   exact WC.aaa h1 (ihb _ _ fr H F w hc.2 h hs hK)
  ·rename_i e _ _ he;obtain ⟨v,h1,h2⟩:=aq hf (dy he);cases h2 with | bool=>
   exact WC.cond h1 (fun hv=>iha _ _ fr H F w hc.1 (h.1 ((BE.fh e true).2 hv)) hs hK) (fun hv=>ihb _ _ fr H F w hc.2 (h.2 ((BE.fh e false).2 hv)) hs hK)
  grind
 case block i a iha=>
  refine WC.block (iha _ _ fr H F w hc h hs fun e fr H F w h hs=>?_);cases e with
  | exit j=>
   simp only at h;intro x hx;show (if j=i then Q .normal x w else Q (.exit j) x w);cases hb:Nat.beq j i <;> rw [hb] at h
   ·have:j≠i:=by rintro rfl; simp at hb
    rw [if_neg this];exact hK _ fr H F w h hs x hx
   rw [if_pos (abk hb)];exact hK _ fr H F w h hs x hx
  | _=>exact hK _ fr H F w h hs
 case loop a iha=>
  simp only [iL] at h;split at h
  ·rename_i I hI;split at h
   ·rename_i m l _;intro x hx;refine qJ (fun a' w m=>∃ fr H F,VE (iL T O ro k0 L a) K l m fr H/\M n F a' /\ St G ro ρ0 w0 fr H F w) id m ⟨fr,H,F,h,hx,hs⟩ fun m a' w hD=>?_;obtain ⟨fr,H,F',hu,hM,hst⟩:=hD;cases m with
    | zero=>exact hu.elim
    | succ m=>
     obtain ⟨ρ',hS,hR,hf⟩:=hst;obtain ⟨F2,hf2,hsub⟩:=xw hf l;exact iha _ _ _ _ F2 w hc hu ⟨ρ',hS,hR,hf2⟩ (fun e fr H F w h hs=>by
      cases e with
      | normal=>exact fun x hx=>⟨m,⟨fr,H,F,h,hx,hs⟩,Nat.lt_succ_self m⟩
      | _=>exact hK _ fr H F w h hs) a' (hM.sub hsub)
   obtain ⟨s0,h1,h2,h3⟩:=h;obtain ⟨hr0,h3⟩:=LI.CE.1 h3;intro x hx;obtain ⟨F2,h7,h8⟩:=gg hT hk0 hs h1;refine qJ (fun a w s=>I.J s/\I.rel s0 s/\∃ F,M n F a/\St G ro ρ0 w0 (I.F s).1 (I.F s).2 F w) I.μ s0 ⟨h2,hr0,F2,hx.sub h8,h7⟩ fun s a' w hD=>?_;obtain ⟨hJ,hrl,F',hM,hst⟩:=hD;exact iha _ _ _ _ F' w hc (LI.Pq.1 (h3 s hJ) hrl) hst (fun e fr H F w h hs=>by
    cases e with
    | normal=>
     obtain ⟨s',h4,h5,h6⟩:=h;obtain ⟨h9,h6⟩:=LI.CE.1 h6;obtain ⟨F2,h7,h8⟩:=gg hT hk0 hs h4;exact fun x hx=>⟨s',⟨h5,h9,F2,hx.sub h8,h7⟩,h6⟩
    | _=>exact hK _ fr H F w h hs) a' hM
  exact h.elim
 case exit i=>exact WC.exit (hK _ _ _ _ _ h hs)
 case ret=>exact WC.ret (hK _ _ _ _ _ h hs)
 case scope a iha=>
  refine fun x hx=>GP (iha (Exit.noGoto Q) _ fr H F w hc h hs (fun e fr H F w h hs=>?_) x hx);cases e with
  | goto i=>exact h.elim
  | _=>exact hK _ fr H F w h hs
 case label i=>exact WC.label (hK _ _ _ _ _ h hs)
 case region i ops b=>
  cases b with
  | true=>exact hD Q k0 i L ops K fr H F w hc h hs fun fr H F w=>hK _ fr H F w
  | false=>
   have e:ops=ops.toList.toArray:=by simp
   rw [e];exact WC.region (k_ hT hO (fun fr H F w=>hK _ fr H F w) _ _ fr H F w hc h hs)
 all_goals exact h.elim
end
def X_ (n:Nat) (ps:List (Nat × Nat)):Nat->Nat->List Nat
 | _,0=>[]
 | k,m+1=>CP n ps k :: X_ n ps (k+1) m
def ke:AO->Bool
 | .row _ _ _=>true
 | _=>false
def ZD (H0:AH) (ps:List (Nat × Nat)):Nat->Nat->List Nat
 | _,0=>[]
 | k,m+1=>(bif ke (getO H0 k) then CP k ps k else k) :: ZD H0 ps (k+1) m
def Hy (H0:AH) (k0:Nat) (H:AH) (l rs:List TV1) (H':AH):Nat->List (Nat × Nat)->List Nat
 | 0,ps=>ZD H0 ps 0 k0++X_ H.length ps k0 (H'.length - k0)
 | f+1,ps=>Hy H0 k0 H l rs H' f (Ea l rs++H_ H (ZD H0 ps 0 k0++X_ H.length ps k0 (H'.length - k0)) H')
def Zk (T:List (Nat × TI)) (H0:AH) (k0:Nat) (fn:Func) (rs:List TV1) (H':AH) (fr:AFr) (H:AH):List Prop:=
 match tD T fr H fn.results.toList with
 | some l=>match Hy H0 k0 H l rs H' 3 [] with
  | σ=>same (mb H.length σ)++xD H H.length σ l rs++Yi T H H.length σ σ H'
 | none=>[False]
def endE (T:List (Nat × TI)) (H0:AH) (k0:Nat) (fn:Func) (rs:List TV1) (H':AH) (fr:AFr) (H:AH):Prop:=iQ (Zk T H0 k0 fn rs H' fr H)
def wpB (b:Bool) (T:List (Nat × TI)) (O:bD) (L:List (Nat × LI)) (fn:Func) (args:List TV1) (H:AH) (rs:List TV1) (H':AH):Prop:=
 match fn.body with
 | some c=>ku (Ho args) (iL T O (gz (bif b then H.length else 0)) H.length L c (fun e fr K=>match e with
  | .ret=>endE T (bif b then [] else H) H.length fn rs H' fr K
  | .normal=>endE T (bif b then [] else H) H.length fn rs H' fr K
  | _=>False) (qG 0 args) H)
 | none=>False
def wpE:=wpB false
def wpN:=wpB true
section
variable {P:Program} {T:List (Nat × TI)} {G:Gl} {O:bD} {n:Nat} {ρ:List RE} {H:AH} {w:World} {fr:AFr} {F:Fr}
theorem mQ {c:Cx}:∀ {args:List TV1} {vs:List Value} {k:Nat},All2 (cO c ρ) args vs->FrR c ρ (qG k args) (vj k vs)
 | [],_,_,h=>by cases h; exact .nil
 | _ :: _,_,_,h=>by cases h with | cons h1 h2=>exact .cons ⟨rfl,h1⟩ (mQ h2)
def SU (tm:Array Value):ResultVar->Sem Value
 | .tmp t=>pure (tm.getD t undef)
 | .cell a t=>do loadVar t (<- asAddr (tm.getD a undef))
theorem MG {v u:Value} (h:aD P 0 [] w (.load t (.const v)) 0 u w):(do loadVar t (<- asAddr v)).run P w = .ok u w:=by
 replace h:=h ⟨#[],[]⟩ none "" #[] none ⟨rfl,rfl,fun _ _ h=>by cases h⟩;have e:(⟨#[],[]⟩:Act).eval (.const v)=v:=rfl;simp only [execOp,e,Instr.loadAt] at h;cases v;case pointer a=>
  cases a with
  | none=>simp [Instr.sureAddr] at h
  | some a=>
   simp only [Instr.sureAddr,asAddr,pure_bind] at h ⊢;rw [Sem.run_bind] at h;cases hr:(loadVar t a).run P w with
   | ok x w'=>rw [hr] at h; simp at h; rw [h.1,h.2]
   | halt x w'=>rw [hr] at h; simp at h
 all_goals simp [Instr.sureAddr] at h
theorem qM (hT:aY P G.shp T) (hR:Rep G ρ H w) (hf:FrR (cx G ρ w) ρ fr F) {a:Act} (hM:M n F a):∀ {rs:List ResultVar} {l:List TV1},tD T fr H rs=some l ->
  ∃ us,All2 (cO (cx G ρ w) ρ) l us/\(rs.mapM (SU a.tmps)).run P w = .ok us w
 | [],l,h=>by cases h; exact ⟨[],.nil,rfl⟩
 | .tmp t :: r,l,h=>by
  simp only [tD] at h;split at h
  ·rename_i tv l' ht hl;cases h;obtain ⟨us,h1,h2⟩:=qM hT hR hf hM hl;obtain ⟨v,h3,h4⟩:=ew hf ht;refine ⟨v :: us,.cons h4 h1,?_⟩;have h5:=hM.at_ h3;simp [SU,h2,h5]
  cases h
 | .cell p t :: r,l,h=>by
  simp only [tD] at h;split at h
  ·rename_i ap l' ht hl;split at h
   ·rename_i tv fc hld;cases h;obtain ⟨us,h1,h2⟩:=qM hT hR hf hM hl;obtain ⟨v,h3,h4⟩:=ew hf ht;obtain ⟨u,h6,h7⟩:∃ u,aD P 0 [] w (.load t (.const v)) 0 u w/\Rt (cx G ρ w) ρ (.one tv) u:=by
     unfold Ue at hld;split at hld
     ·rename_i hla;cases hld;obtain ⟨u,h6,h7,_⟩:=pn (P:=P) (F:=[]) (n:=0) (ty:=0) (x:=.const v) hT hR h4 rfl hla (by simp);grind
     obtain ⟨u,h6,h7,_,_⟩:=xC (P:=P) (F:=[]) (n:=0) (ty:=0) (x:=.const v) hT hR h4 rfl hld;grind
    have h8:=MG h6;refine ⟨u :: us,.cons h7 h1,?_⟩;have h5:a.tmps.getD p undef=v:=(hM.2.2 p v h3).2;rw [List.mapM_cons,Sem.run_bind];simp only [SU,h5,h8];simp [h2]
   cases h
  cases h
variable {fn:Func}
theorem kO (hT:aY P G.shp T) (hR:Rep G ρ H w) (hf:FrR (cx G ρ w) ρ fr F) {a:Act} (hM:M n F a) {l:List TV1} (h:tD T fr H fn.results.toList=some l) :
  ∃ us,All2 (cO (cx G ρ w) ρ) l us/\(results fn a.tmps).run P w = .ok (zw us) w:=by
 obtain ⟨us,h1,h2⟩:=qM hT hR hf hM h;refine ⟨us,h1,?_⟩;have e:results fn a.tmps=(do let vs <- fn.results.mapM (SU a.tmps); pure (if h:vs.size=1 then vs[0] else .tuple vs)):=rfl;have e2:fn.results=fn.results.toList.toArray:=by simp
 rw [e,e2,List.mapM_toArray];simp only [Sem.run_bind,h2,map_eq_pure_bind];cases us with
 | nil=>rfl
 | cons u us=>
  cases us with
  | nil=>rfl
  | cons u2 us=>rfl
theorem wW (h:i<k):Nat.ble k i=false:=by
 rw [<- Bool.not_eq_true,Nat.ble_eq]; omega
theorem uz {m:Nat} (h:k<=m) (i:Nat) (hi:(gz k).wr i=false\/(gz k).mv i=false):i<m:=by
 have:Nat.ble k i=false:=hi.elim id id;rw [<- Bool.not_eq_true,Nat.ble_eq] at this; omega
def wQ (P:Program) (shp:TypeId->Option Sh) (T:List (Nat × TI)) (O:bD):Prop:=∀ (G:Gl) (n:Nat) (ro:Lv) (ρ0:List RE) (w0:World),G.shp=shp->(∀ i,ro.wr i=false\/ro.mv i=false->i<ρ0.length)->Nw P T G O n ro ρ0 w0
variable {shp:TypeId->Option Sh} {rs args:List TV1} {L:List (Nat × LI)} {f:Nat} {pre:List Prop}
theorem Sat.Wt (hT:aY P shp T) (hO:ay P shp O) (hD:wQ P shp T O) (hfn:P.funcs[f]? = some fn) (hng:(fn.name == "runtime.NumGoroutine")=false)
  (hc:(match fn.body with
   | some c=>eu fn.ntmps c && Nat.ble args.length fn.ntmps
   | none=>false)=true) (h:Uw T O L fn args H rs):Sat P shp f args H ⟨pre,rs,none,false⟩:=by
 cases hb:fn.body with
 | none=>rw [hb] at hc; cases hc
 | some c=>
 rw [hb] at hc;simp only [Bool.and_eq_true] at hc;refine ⟨⟨fn,hfn,hng,by rw [hb]; rfl⟩,?_⟩;intro G ρ w vs hshp hR hvs;subst hshp;simp only [Uw,hb] at h;have h:=ef.1 h (RL.oK hvs);refine jI.enter hfn hb rfl (by rw [<- hvs.length]; exact hc.2) rfl (xj hT hO (hD G _ _ ρ w rfl (uz (by rw [<- hR.obj.length]; exact ac5 _))) (k0:=H.length) (by rw [<- hR.obj.length]; exact ac5 _) c _ _ _ H _ w hc.1 h ⟨ρ,Stp.refl _ _ _,hR,mQ hvs⟩ ?_);intro e fr H' F w' hK hst;obtain ⟨ρ',hS,hR',hf⟩:=hst;have key:∀ {l},tD T fr H' fn.results.toList=some l->iQ (xD H' H'.length (iota 0 H.length) l rs)->∀ a,M fn.ntmps F a->a.defers=[]/\∃ v,(results fn a.tmps).run P w' = .ok v w' /\ ∃ x,Ending.returned v = .returned x/\∃ us,x=zw us/\Kp [] w w' /\ All2 (cO (cx G ρ w') ρ) rs us:=by
  intro l hl he a hM;obtain ⟨us,h1,h2⟩:=kO hT hR' hf hM hl;refine ⟨hM.1,_,h2,_,rfl,us,rfl,?_,?_⟩
  ·refine ⟨hS.ext.os,hS.ext.tape,hS.ext.output,hS.ext.size,fun b hb _=>?_⟩;by_cases hl:live ρ b
   ·obtain ⟨i,r,h3,h4⟩:=hl;exact (hS.pro i r (wW (by rw [hR.obj.length]; exact (aam.1 h3).1)) h3).2 b h4
   exact (hS.ext.old b hb hl).2
  have h3:=mu hR' rfl h1 (dZ.1 he);have h4:cC ρ' (iota 0 H.length)=ρ:=by
   refine List.ext_getElem? fun i=>?_;by_cases hi:i<H.length
   ·have h5:i<ρ.length:=by rw [<- hR.obj.length]; exact hi
    rw [List.getElem?_eq_getElem h5];exact cX (by have:=xl (k:=0) hi; rwa [ac_] at this) (hS.pro i _ (wW hi) (List.getElem?_eq_getElem h5)).1
   rw [List.getElem?_eq_none (by simp [cC,Ao]; omega),List.getElem?_eq_none (by rw [<- hR.obj.length]; omega)]
  rwa [h4] at h3
 cases e with
 | ret=>
  simp only at hK;split at hK
  ·rename_i l hl; exact fun a ha=>key hl hK a ha
  grind
 | normal=>
  simp only at hK;split at hK
  ·rename_i l hl; exact fun a ha=>key hl hK a ha
  exact hK.elim
 | _=>exact hK.elim
theorem LQ {H0:AH} {ps:List (Nat × Nat)}:∀ {m k i:Nat},i<m->ke (getO H0 (k+i))=false->(ZD H0 ps k m)[i]? = some (k+i)
 | m+1,k,0,_,hr=>by
  rw [ahk] at hr;simp [ZD,hr]
 | m+1,k,i+1,h,hr=>by
  have:=LQ (ps:=ps) (m:=m) (k:=k+1) (i:=i) (Nat.lt_of_succ_lt_succ h) (by rw [show k+1+i=k+(i+1) by omega]; exact hr);rw [show k+(i+1)=k+1+i by omega,<- this]; rfl
theorem mD {H0:AH} {k0:Nat} {K:AH} {l rs:List TV1} {H':AH} {i:Nat} (h:i<k0) (hr:ke (getO H0 i)=false):∀ (f:Nat) (ps:List (Nat × Nat)),(Hy H0 k0 K l rs H' f ps)[i]? = some i
 | 0,ps=>by
  show (ZD H0 ps 0 k0++_)[i]? = _;have:=LQ (ps:=ps) (k:=0) h (by rw [ac_]; exact hr);grind
 | f+1,ps=>mD h hr f _
variable {b:Bool}
theorem TO (hR:Rep G ρ H w) {g:Nat} (hg:ρ[i]? = some (.blk g)):ke (getO (bif b then [] else H) i)=false:=by
 cases b
 ·show ke (getO H i)=false;cases ho:getO H i with
  | row t s xs=>
   obtain ⟨r,hr,h⟩:=hR.at_ (bB ho (by simp));rw [hg] at hr; cases hr;obtain ⟨_,_,h | ⟨_,_,_,_,h,_⟩⟩:=h
   ·grind
   cases h
  | _=>rfl
 show ke (getO [] i)=false;simp [getO,ke]
theorem Sat.Iu {H':AH} (hT:aY P shp T) (hO:ay P shp O) (hD:wQ P shp T O) (hfn:P.funcs[f]? = some fn) (hng:(fn.name == "runtime.NumGoroutine")=false)
  (hc:(match fn.body with
   | some c=>eu fn.ntmps c && Nat.ble args.length fn.ntmps
   | none=>false)=true) (h:wpB b T O L fn args H rs H'):Sat P shp f args H ⟨pre,rs,some H',b⟩:=by
 cases hb:fn.body with
 | none=>rw [hb] at hc; cases hc
 | some c=>
 rw [hb] at hc;simp only [Bool.and_eq_true] at hc;refine ⟨⟨fn,hfn,hng,by rw [hb]; rfl⟩,?_⟩;intro G ρ w vs hshp hR hvs;subst hshp;simp only [wpB,hb] at h;have h:=ef.1 h (RL.oK hvs);refine jI.enter hfn hb rfl (by rw [<- hvs.length]; exact hc.2) rfl (xj hT hO (hD G _ _ ρ w rfl (uz (by cases b <;> simp [hR.obj.length]))) (k0:=H.length) (by rw [<- hR.obj.length]; exact ac5 _) c _ _ _ H _ w hc.1 h ⟨ρ,Stp.refl _ _ _,hR,mQ hvs⟩ ?_);intro e fr K F w' hK hst;obtain ⟨ρ',hS,hR',hf⟩:=hst;have key:endE T (bif b then [] else H) H.length fn rs H' fr K->∀ a,M fn.ntmps F a->a.defers=[]/\∃ v,(results fn a.tmps).run P w' = .ok v w' /\ ∃ x,Ending.returned v = .returned x/\∃ us,x=zw us /\
   ∃ ρ',Rep G ρ' H' w' /\ Ext ρ w ρ' w' /\ (∀ (i g:Nat),ρ[i]? = some (.blk g)->ρ'[i]? = some (.blk g))/\All2 (cO (cx G ρ' w') ρ') rs us/\(b=true->Kp [] w w' /\ ∀ (i:Nat) (rr:RE),ρ[i]? = some rr->ρ'[i]? = some rr):=by
  intro hE a hM;unfold endE Zk at hE;split at hE
  ·rename_i l hl;obtain ⟨us,h1,h2⟩:=kO hT hR' hf hM hl;replace hE:=dZ.1 hE;refine ⟨hM.1,_,h2,_,rfl,us,rfl,cC ρ' (Hy (bif b then [] else H) H.length K l rs H' 3 []),?_,nG hS.ext,fun i g hg=>?_,?_,fun hb=>?_⟩
   ·exact nj hT hR' rfl (bu.1 fun p hp=>hE p (ac8 _ (ac8 _ hp))) fun p hp=>hE p (ac9 _ hp)
   ·exact cX (mD (by rw [hR.obj.length]; exact (aam.1 hg).1) (TO hR hg) _ _) (hS.bx i g hg)
   ·exact mu hR' rfl h1 fun p hp=>hE p (ac8 _ (ac9 _ hp))
   subst hb;have hlt:∀ (i:Nat) (rr:RE),ρ[i]? = some rr->i<H.length:=fun i rr h=>by rw [hR.obj.length]; exact (aam.1 h).1
   refine ⟨⟨hS.ext.os,hS.ext.tape,hS.ext.output,hS.ext.size,fun b hb _=>?_⟩,fun i rr hi=>?_⟩
   ·by_cases hl:live ρ b
    ·obtain ⟨i,r,h3,h4⟩:=hl;exact (hS.pro i r (wW (hlt i r h3)) h3).2 b h4
    exact (hS.ext.old b hb hl).2
   exact cX (mD (hlt i rr hi) rfl _ _) (hS.pro i rr (wW (hlt i rr hi)) hi).1
  exact (show False from hE).elim
 cases e with
 | ret=>exact fun a ha=>key hK a ha
 | normal=>exact fun a ha=>key hK a ha
 | _=>exact hK.elim
end
theorem iv:∀ {ds:List DV} {i:Nat},xe ds i=ds[i]?
 | [],_=>rfl
 | _ :: _,0=>rfl
 | _ :: r,i+1=>by simpa [xe] using iv (ds:=r) (i:=i)
theorem eU {sl:List Nat}:∀ {ds:List DV} {k j:Nat},j ∈ dO sl k ds↔∃ i a,j=k+i/\ds[i]? = some a/\a.d ∈ sl
 | [],k,j=>by simp [dO]
 | a :: r,k,j=>by
  have ih:=eU (sl:=sl) (ds:=r) (k:=k+1) (j:=j);have key:(∃ i b,j=k+i/\(a :: r)[i]? = some b/\b.d ∈ sl)↔(j=k/\a.d ∈ sl)\/j ∈ dO sl (k+1) r:=by
   rw [ih];constructor
   ·grind
   rintro (⟨h1,h2⟩ | ⟨i,b,h1,h2,h3⟩)
   ·simp_all
   exact ⟨i+1,b,by omega,by simpa using h2,h3⟩
  rw [key,show dO sl k (a :: r)=(bif bQ a.d sl then k :: dO sl (k+1) r else dO sl (k+1) r) from rfl];cases hm:bQ a.d sl
  ·have:a.d ∉ sl:=fun h=>by rw [bj.2 h] at hm; cases hm
   simp [this]
  simp [bj.1 hm]
def HJ (ds:List DV) (ch:List (Nat × Bool)):Prop:=∀ q ∈ ch,∃ a e,ds[q.1]? = some a/\a.v=one (.bool e)/\e.val=q.2
theorem qm {ds:List DV}:∀ {ch:List (Nat × Bool)} {g:BE},OA ds ch=some g->(g.val=true↔HJ ds ch)/\∀ q ∈ ch,∃ a e,ds[q.1]? = some a/\a.v=one (.bool e)
 | [],g,h=>by cases h; simp [BE.val,HJ]
 | (j,wt) :: r,g,h=>by
  simp only [OA,iv] at h;split at h
  ·rename_i a g' h1 h2;split at h
   ·rename_i e he;cases h;obtain ⟨ih1,ih2⟩:=qm h2;have he:=adb (dy he);refine ⟨?_,fun q hq=>?_⟩
    ·have e1:HJ ds ((j,wt) :: r)↔e.val=wt/\HJ ds r:=by
      constructor
      ·intro h;refine ⟨?_,fun q hq=>h q (by simp [hq])⟩;obtain ⟨a',e',k1,k2,k3⟩:=h (j,wt) (by simp);simp only at k1 k3;rw [h1] at k1; cases k1;rw [he] at k2;cases k2;exact k3
      rintro ⟨k1,k2⟩ q hq;rcases ac4.1 hq with rfl | hq
      ·grind
      exact k2 q hq
     rw [e1,<- ih1];cases wt <;> simp [BE.val]
    grind
   cases h
  cases h
variable {ds:List DV}
theorem xo {a:DV} (h:(ds.take i)[j]? = some a):ds[j]? = some a/\j<i:=by grind
theorem zr {ds:List DV} {i:Nat}:∀ {ch:List (Nat × Bool)} {g:BE},OA (ds.take i) ch=some g->OA ds ch=some g
 | [],g,h=>h
 | (j,wt) :: r,g,h=>by
  simp only [OA,iv] at h ⊢;split at h
  ·rename_i a g' h1 h2;rw [(xo h1).1,zr h2];exact h
  cases h
theorem vi:∀ {x y:List (Nat × Bool)},pA x y=true->∀ q ∈ x,q ∈ y
 | (i,a) :: r,(j,b) :: l,h,q,hq=>by
  simp only [pA,Bool.and_eq_true] at h;have h1:=abk h.1.1;rcases ac4.1 hq with rfl | hq
  ·grind
  exact acb _ (vi h.2 q hq)
theorem xa {x y:List (Nat × Bool)} (h:pA x y=true) (k:HJ ds y):HJ ds x:=fun q hq=>k q (vi h q hq)
theorem uQ (g:BE):(yr g).val=g.val:=by fun_induction yr g <;> simp_all [BE.val]
variable {e:BE}
theorem Cq {ob:List Prop} (h:∀ p ∈ lf e ob,p) (he:e.val=true):∀ p ∈ ob,p:=by
 unfold lf at h;split at h
 ·simp
 split at h
 ·exact h
 exact dZ.1 (dz h ((BE.fh e true).2 he))
theorem qU {ob:List Prop} (h:e.val=true->∀ p ∈ ob,p):∀ p ∈ lf e ob,p:=by
 unfold lf;split
 ·simp
 split
 ·exact h rfl
 intro q hq;rw [ac2.1 hq];exact fun he=>dZ.2 (h ((BE.fh e true).1 he))
section
variable {P:Program} {T:List (Nat × TI)} {G:Gl} {O:bD} {n k:Nat} {l:List Oper} {ρ:List RE} {H:AH} {fr:AFr} {F:Fr} {ds:List DV} {vs:Nat->Value}
def DVal (G:Gl) (ρ:List RE) (ds:List DV) (a:DV) (u:Value) (w:World):Prop:=(∀ p ∈ a.fc,p)/\(HJ ds a.ch->Rt (cx G ρ w) ρ a.v u)/\(¬ HJ ds a.ch->u=undef)
variable {w:World} {a:DV}
theorem DVal.kp {u:Value} {w':World} (h:DVal G ρ ds a u w) (k:Kp [] w w'):DVal G ρ ds a u w':=⟨h.1,fun hc=>(h.2.1 hc).carry (Kp.le k) (jP.refl _),h.2.2⟩
theorem yF {vs:Nat->Value} {t jc:Nat} (ht:idst l jc=some t):∀ {deps:List Nat},(∀ j ∈ deps,∃ d,idst l j=some d)->(∀ j ∈ deps,idst l j=some t->j=jc)->jc ∈ deps->look (de l F vs deps) t=some (vs jc)
 | j :: r,h1,h2,h=>by
  obtain ⟨d,hd⟩:=h1 j (by simp);simp only [de,hd];rw [aM];by_cases hdt:d=t
  ·grind
  rw [if_neg hdt];refine yF ht (fun j hj=>h1 j (by simp [hj])) (fun j hj=>h2 j (by simp [hj])) ?_;grind
theorem EB {w:World} {p:List DV} (hf:FrR (cx G ρ w) ρ fr F):∀ {deps:List Nat},(∀ j ∈ deps,∃ b,p[j]? = some b/\idst l j=some b.d/\Rt (cx G ρ w) ρ b.v (vs j))->FrR (cx G ρ w) ρ (KG p fr deps) (de l F vs deps)
 | [],_=>hf
 | j :: r,h=>by
  obtain ⟨b,h1,h2,h3⟩:=h j (by simp);simp only [KG,iv,h1,de,h2];exact .cons ⟨rfl,h3⟩ (EB hf fun j hj=>h j (by simp [hj]))
theorem uR {p:List DV} {ch:List (Nat × Bool)}:∀ {deps:List Nat},wZ p ch deps=true->∀ j ∈ deps,∃ b,p[j]? = some b/\pA b.ch ch=true
 | i :: r,h,j,hj=>by
  simp only [wZ,iv,Bool.and_eq_true] at h;rcases ac4.1 hj with rfl | hj
  ·grind
  exact uR h.2 j hj
structure DCtx (G:Gl) (ρ:List RE) (l:List Oper) (ds:List DV) (vs:Nat->Value) (p:List DV) (deps:List Nat) (w:World):Prop where
 pre:∀ (j:Nat) (a:DV),p[j]? = some a->ds[j]? = some a
 dst:∀ (j:Nat) (a:DV),ds[j]? = some a->idst l j=some a.d
 dist:∀ (i j:Nat) (a b:DV),ds[i]? = some a->ds[j]? = some b->a.d=b.d->i=j
 dep:∀ j ∈ deps,∃ a,p[j]? = some a/\DVal G ρ ds a (vs j) w
theorem DCtx.look {p:List DV} {deps:List Nat} {w:World} (h:DCtx G ρ l ds vs p deps w) {j:Nat} (hj:j ∈ deps) {a:DV} (ha:p[j]? = some a):look (de l F vs deps) a.d=some (vs j):=by
 refine yF (h.dst j a (h.pre j a ha)) (fun i hi=>?_) (fun i hi he=>?_) hj
 ·obtain ⟨b,hb,_⟩:=h.dep i hi;exact ⟨_,h.dst i b (h.pre i b hb)⟩
 obtain ⟨b,hb,_⟩:=h.dep i hi;have:=h.dst i b (h.pre i b hb);rw [he] at this;exact h.dist i j b a (h.pre i b hb) (h.pre j a ha) (adb this).symm
variable {ty:TypeId} {deps:List Nat} {ch:List (Nat × Bool)}
theorem uB {Q:Exit->Act->World->Prop} {p:List DV} (h:DCtx G ρ l ds vs p deps w) {gd:Option (Nat × Bool)} {gs:List Nat} {g:BE} (hc:Cl p gd=some (ch,gs)) (hgs:∀ (j:Nat) (a:DV),p[j]? = some a->a.d ∈ gs->j ∈ deps) (hg:OA ds ch=some g)
  {d:Nat} {op:Op} {pos:String} {af:Array Edge} (hd:Nat.blt d n=true)
  (on:HJ ds ch->WO P Q n l [⟨some d,op,ty,pos,af,none⟩] (de l F vs deps) w) (off:¬ HJ ds ch->WO P Q n l [] ((d,undef) :: de l F vs deps) w):WO P Q n l [⟨some d,op,ty,pos,af,gd⟩] (de l F vs deps) w:=by
 cases gd with
 | none=>
  cases hc;exact on fun q hq=>by simp at hq
 | some q=>
  obtain ⟨j,wt⟩:=q;simp only [Cl,iv] at hc;split at hc
  ·rename_i a ha;cases hc;have hj:=hgs j a ha (by simp);have hl:=h.look (F:=F) hj ha;obtain ⟨a',ha',hv⟩:=h.dep j hj;rw [ha] at ha'; cases ha';obtain ⟨b,e,hb,he⟩:=(qm hg).2 (j,wt) (by simp);simp only at hb;rw [h.pre j a ha] at hb; cases hb;have hi:=h.dst j a (h.pre j a ha);by_cases hch:HJ ds a.ch
   ·have hr:=hv.2.1 hch;rw [he] at hr;obtain ⟨bv,hbv⟩:∃ bv,vs j = .bool bv/\bv=e.val:=by
     have hr:Pd (cx G ρ w) (.bool e) (vs j):=hr;generalize vs j=u at hr;cases hr;grind
    obtain ⟨hbv,rfl⟩:=hbv;rw [hbv] at hl;by_cases hw:e.val=wt
    ·exact WO.on hi hl hw (on fun q hq=>by
      rcases ac1.1 hq with hq | hq
      ·exact hch q hq
      rw [ac2.1 hq];exact ⟨a,e,h.pre j a ha,he,hw⟩)
    refine WO.off hi hl (by revert hw; cases e.val <;> cases wt <;> simp) hd (off fun hc=>?_);obtain ⟨b,e',k1,k2,k3⟩:=hc (j,wt) (by simp);simp only at k1 k3;rw [h.pre j a ha] at k1; cases k1;rw [he] at k2; cases k2;exact hw k3
   have hu:=hv.2.2 hch;rw [hu] at hl;exact WO.Wd hi hl hd (off fun hc=>hch fun q hq=>hc q (by simp [hq]))
  cases hc
variable {x:Operand}
theorem IM {v:Value} (h:ev [] x=some v):ev F x=some v:=by
 cases x with
 | tmp i=>cases h
 | _=>exact h
theorem Mw {p:List DV} (h:DCtx G ρ l ds vs p deps w) (hch:HJ ds ch) {t:Nat} {y:Operand} {v:BE} (hp:MV p ch t x y=some v) (hdep:∀ (j:Nat) (a:DV),p[j]? = some a->a.d=t\/a.d ∈ Operand.sl x\/a.d ∈ Operand.sl y->j ∈ deps) :
  aD P n (de l F vs deps) w (.pick (.tmp t) x y) ty (.bool v.val) w:=by
 unfold MV at hp;split at hp
 ·rename_i jc hjc;split at hp
  ·rename_i c hc;rw [iv] at hc;split at hp
   ·rename_i e he hpre;split at hp
    ·rename_i jx hjx;split at hp
     ·rename_i a ha;rw [iv] at ha;split at hp
      ·rename_i hpa;have hct:c.d=t:=by
        obtain ⟨i,b,k1,k2,k3⟩:=eU.1 (show jc ∈ dO [t] 0 p by rw [hjc]; simp);rw [ac_] at k1; subst k1;rw [hc] at k2; cases k2;simpa using k3
       have hjd:=hdep jc c hc (.inl hct);have hl:=h.look (F:=F) hjd hc;rw [hct] at hl;have he:=adb (dy he);have hlb:look (de l F vs deps) t=some (.bool e.val):=by
        obtain ⟨c',hc',hv⟩:=h.dep jc hjd;rw [hc] at hc'; cases hc';have hr:=hv.2.1 (xa hpre hch);rw [he] at hr;have hr:Pd (cx G ρ w) (.bool e) (vs jc):=hr;rw [hl];generalize vs jc=u at hr;cases hr;rfl
       -- the side that was walked
       have hon:e.val=jM x->∀ z,pI (some a.v)=some z->ev (de l F vs deps) (cond (jM x) x y)=some (.bool z.val):=by
        intro hw z hz;have hz:=adb (dy hz);have hmem:=eU.1 (show jx ∈ dO (Operand.sl (cond (jM x) x y)) 0 p by rw [hjx]; simp);obtain ⟨i,b,k1,k2,k3⟩:=hmem;rw [ac_] at k1; subst k1;rw [ha] at k2; cases k2;have hjd2:=hdep jx a ha (.inr (by
         cases hx:jM x <;> rw [hx] at k3
         ·grind
         exact .inl k3))
        obtain ⟨a',ha',hv⟩:=h.dep jx hjd2;rw [ha] at ha'; cases ha';have hr:=hv.2.1 (xa hpa fun q hq=>by
         rcases ac1.1 hq with hq | hq
         ·exact hch q hq
         rw [ac2.1 hq];exact ⟨c,e,h.pre jc c hc,he,hw⟩)
        rw [hz] at hr;have hr:Pd (cx G ρ w) (.bool z) (vs jx):=hr;have hl2:=h.look (F:=F) hjd2 ha;generalize cond (jM x) x y=o at k3 ⊢;cases o <;> simp only [Operand.sl,ac2,ahf] at k3;rw [<- k3];show look _ a.d=_;rw [hl2];generalize vs jx=u at hr;cases hr;rfl
       have hoff:∀ z,pI (cP [] (cond (jM x) y x))=some z->ev (de l F vs deps) (cond (jM x) y x)=some (.bool z.val):=by
        intro z hz;obtain ⟨u,k1,k2⟩:=aq (c:=cx G ρ w) (ρ:=ρ) (fr:=[]) (F:=[]) .nil (dy hz);have k2:Pd (cx G ρ w) (.bool z) u:=k2;cases k2;exact IM k1
       unfold DF at hp;cases hx:jM x <;> rw [hx] at hp hon hoff <;> simp only [cond_true,cond_false] at hon hoff hp
       ·split at hp
        ·grind
        ·rename_i z _ hz hz2;cases hp;cases hev:e.val with
         | false=>rw [show (BE.or e z).val=z.val by simp [BE.val,hev]]; exact R.Ai (hev ▸ hlb) rfl (hon hev z hz)
         | true=>rw [show (BE.or e z).val=true by simp [BE.val,hev]]; exact R.xQ (hev ▸ hlb) rfl (hoff _ hz2)
        cases hp
       split at hp
       ·rename_i z _ hz hz2;cases hp;cases hev:e.val with
        | true=>rw [show (BE.and e z).val=z.val by simp [BE.val,hev]]; exact R.xQ (hev ▸ hlb) rfl (hon hev z hz)
        | false=>rw [show (BE.and e z).val=false by simp [BE.val,hev]]; exact R.Ai (hev ▸ hlb) rfl (hoff _ hz2)
       ·contradiction
       cases hp
      cases hp
     cases hp
    cases hp
   cases hp
  cases hp
 cases hp
theorem Tl (hT:aY P G.shp T) (hO:ay P G.shp O) {p:List DV} {o:Oper} (hs:rL T O H fr p o=some a) (h:DCtx G ρ l ds vs p a.deps w) (hpg:∀ ch g,OA p ch=some g->OA ds ch=some g) (hob:∀ q ∈ a.ob,q) (hd:∀ d,o.dst=some d->Nat.blt d n=true) (hR:Rep G ρ H w) (hf:FrR (cx G ρ w) ρ fr F) :
  o.dst=some a.d/\WO P (oU n (some a.d) [] (DVal G ρ ds a) w) n l [o] (de l F vs a.deps) w:=by
 obtain ⟨dst,op,ty,pos,af,gd⟩:=o;unfold rL at hs;split at hs
 ·rename_i d ch gs hdst hch;simp only at hdst hch;subst hdst;split at hs
  ·rename_i g hg;have hg':=hpg _ _ hg;have hdn:=hd d rfl;split at hs
   ·-- a pick
    rename_i t x y hop;simp only at hop;subst hop;split at hs
    ·rename_i v hv;cases hs;refine ⟨rfl,uB h hch (fun j b hj hb=>eU.2 ⟨j,b,by simp,hj,by simp [hb]⟩) hg' hdn (fun hc=>?_) (fun hc=>?_)⟩
     ·refine WO.v (Mw h hc hv fun j b hj hb=>eU.2 ⟨j,b,by simp,hj,?_⟩) hdn (WO.nil (WX.aF (v:=.bool v.val) (by rw [aM,if_pos rfl]) ⟨by simp,fun _=>Pd.bool,fun h=>absurd hc h⟩ (Kp.refl w)));simp only [Bf,Operand.sl,ac1,ac2];rcases hb with hb | hb | hb
      ·grind
      ·exact .inl (.inl (.inr hb))
      exact .inl (.inr hb)
     exact WO.nil (WX.aF (v:=undef) (by rw [aM,if_pos rfl]) ⟨by simp,fun h=>absurd h hc,fun _=>rfl⟩ (Kp.refl w))
    cases hs
   split at hs
   ·rename_i r hall hpv;cases hs;refine ⟨rfl,uB h hch (fun j b hj hb=>eU.2 ⟨j,b,by simp,hj,by simp [hb]⟩) hg' hdn (fun hc=>?_) (fun hc=>?_)⟩
    ·have hgv:=(qm hg').1.2 hc;have hfr:=EB (l:=l) (vs:=vs) (F:=F) hf (p:=p) (deps:=dO (Bf op++gs) 0 p) fun j hj=>by
      obtain ⟨b,hb,hpre⟩:=uR hall j hj;obtain ⟨b',hb',hv⟩:=h.dep j hj;rw [hb] at hb'; cases hb';exact ⟨b,hb,h.dst j b (h.pre j b hb),hv.2.1 (xa hpre hc)⟩
     refine WO.y (ru (ty:=ty) hT hO hR hfr hpv (Cq hob (by rw [uQ]; exact hgv))) hd fun v w' ⟨hk,hv,hfc⟩=>?_;exact WO.nil (WX.aF (v:=v) (by simp only [iW]; rw [aM,if_pos rfl]) ⟨qU fun _=>hfc,fun _=>hv,fun h=>absurd hc h⟩ hk)
    refine WO.nil (WX.aF (v:=undef) (by rw [aM,if_pos rfl]) ⟨qU fun he=>?_,fun h=>absurd h hc,fun _=>rfl⟩ (Kp.refl w));rw [uQ] at he;exact absurd ((qm hg').1.1 he) hc
   cases hs
  cases hs
 cases hs
end
theorem cn {a:List Nat}:∀ {l:List Nat},disj a l=true↔∀ i ∈ l,i ∉ a
 | []=>by simp [disj]
 | j :: r=>by simp only [disj,Bool.and_eq_true,cn,agH,adu,<- Bool.not_eq_true,bj]
theorem gD {n:Nat}:∀ {l:List Nat},nE n l=true↔∀ i ∈ l,i<n
 | []=>by simp [nE]
 | j :: r=>by
  simp [nE,gD]
theorem ny {σ:List Nat}:∀ {H:AH} {k p:Nat},(maskH σ k H)[p]? = (H[p]?).map fun o=>if k+p ∈ σ then o else .loc
 | [],_,_=>by simp [maskH]
 | o :: r,k,0=>by
  simp only [maskH,List.getElem?_cons_zero,Option.map_some,ahk];cases h:bQ k σ with
  | true=>rw [if_pos (bj.1 h)]; rfl
  | false=>rw [if_neg fun hm=>by rw [bj.2 hm] at h; cases h]; rfl
 | o :: r,k,p+1=>by
  simp only [maskH,agO,ny];grind
theorem oa {σ:List Nat}:∀ {H:AH} {k:Nat},(maskH σ k H).length=H.length
 | [],_=>rfl
 | _ :: r,k=>by simp [maskH,oa (H:=r)]
def RC.obj (r:RC) (p:Nat) (o:AO):AO:=if p ∈ r.ch then (match r.ent with
 | some e=>e.put o
 | none=>getO r.res p) else killO r.mv o
theorem ux {r:RC}:∀ {H:AH} {k p:Nat},(kD r.ch r.mv r.ent r.res k H)[p]? = (H[p]?).map (r.obj (k+p))
 | [],_,_=>by simp [kD]
 | o :: l,k,0=>by
  simp only [kD,List.getElem?_cons_zero,Option.map_some,ahk,RC.obj];cases h:bQ k r.ch with
  | true=>rw [if_pos (bj.1 h)]; cases r.ent <;> rfl
  | false=>rw [if_neg fun hm=>by rw [bj.2 hm] at h; cases h]; rfl
 | o :: l,k,p+1=>by
  simp only [kD,agO,ux];grind
theorem h_ {ch mv:List Nat} {e:Option Ent} {res:AH}:∀ {H:AH} {k:Nat},(kD ch mv e res k H).length=H.length
 | [],_=>rfl
 | _ :: r,k=>by simp [kD,h_ (H:=r)]
def killTV (mv:List Nat) (v:TV):TV:=match mv with
 | []=>v
 | _ :: _=>v.mapA (AV.bY mv)
theorem qW {g:AV->AV} {t:Nat}:∀ {fr:AFr},lookA (iU g fr) t=(lookA fr t).map (TV.mapA g)
 | []=>rfl
 | (i,v) :: r=>by
  simp only [iU,lookA];cases Nat.beq i t
  ·exact qW
  rfl
variable {mv:List Nat} {t:Nat}
theorem Bn {fr:AFr}:lookA (Jh mv fr) t=(lookA fr t).map (killTV mv):=by
 cases mv with
 | nil=>cases h:lookA fr t <;> simp [Jh,killTV,h]
 | cons a r=>exact qW
variable {d:Option Nat}
theorem HE {v:TV} {fr:AFr}:lookA (pG d v fr) t=if d=some t then some v else lookA fr t:=by
 cases d with
 | none=>simp [pG]
 | some d=>simp only [pG,cZ,Option.some.injEq]
structure RC.Fit (r:RC):Prop where
 base:r.base=r.H0.length
 le:r.base<=r.res.length
variable {r:RC}
theorem bT {q:AFr × AH} (h:r.Fit) (hq:q.2.length=r.base):(r.app q).2.length=r.res.length:=by
 have:=h.le;simp only [RC.app,List.length_append,h_,List.length_drop]; omega
theorem gk {q:AFr × AH} (h:r.Fit) (hq:q.2.length=r.base) {p:Nat}:(r.app q).2[p]? = if p<r.base then (q.2[p]?).map (r.obj p) else r.res[p]?:=by
 simp only [RC.app];by_cases hp:p<r.base
 ·rw [if_pos hp,List.getElem?_append_left (by rw [h_]; omega),ux,ac_]
 rw [if_neg hp,age (by rw [h_]; omega),h_,adf];congr 1; omega
theorem hP {q:AFr × AH}:lookA (r.app q).1 t=if r.dst=some t then some r.v else (lookA q.1 t).map (killTV r.mv):=by
 simp only [RC.app,HE,Bn]
def RC.FD (r:RC) (q:AFr × AH):AFr × AH:=(q.1,q.2++List.replicate (r.res.length - r.base) .gone)
theorem gv {q:AFr × AH} (h:r.Fit) (hq:q.2.length=r.base):(r.FD q).2.length=r.res.length:=by
 have:=h.le;simp only [RC.FD,List.length_append,ahh]; omega
theorem gQ {q:AFr × AH} (h:r.Fit) (hq:q.2.length=r.base) {p:Nat}:(r.FD q).2[p]? = if p<r.base then q.2[p]? else if p<r.res.length then some .gone else none:=by
 simp only [RC.FD];grind
def iJ (s:Nat->Bool):Nat->List RC->AFr × AH->AFr × AH
 | _,[],q=>q
 | i,r :: rs,q=>iJ s (i+1) rs (bif s i then r.app q else r.FD q)
def prg:List RC->AFr × AH->AFr × AH
 | [],q=>q
 | r :: rs,q=>prg rs (r.app q)
def fD:AFr × AH->List RC->Prop
 | _,[]=>True
 | q,r :: rs=>r.fr0=q.1/\r.H0=q.2/\r.Fit/\fD (r.app q) rs
theorem DL {s:Nat->Bool}:∀ {a b:List RC} {k:Nat} {q:AFr × AH},iJ s k (a++b) q=iJ s (k+a.length) b (iJ s k a q)
 | [],_,_,_=>by simp [iJ]
 | r :: a,b,k,q=>by
  simp only [List.cons_append,iJ,DL (a:=a),List.length_cons];congr 1; omega
theorem oy {s s':Nat->Bool}:∀ {rs:List RC} {k:Nat} {q:AFr × AH},(∀ i,k<=i->i<k+rs.length->s i=s' i)->iJ s k rs q=iJ s' k rs q
 | [],_,_,_=>rfl
 | r :: rs,k,q,h=>by
  simp only [iJ];rw [h k (ac5 _) (by simp)];exact oy fun i h1 h2=>h i aK (by simp at h2 ⊢; omega)
theorem v_ {s:Nat->Bool}:∀ {rs:List RC} {k:Nat} {q p:AFr × AH},fD p rs->q.2.length=p.2.length->(iJ s k rs q).2.length=(prg rs p).2.length
 | [],_,_,_,_,h=>h
 | r :: rs,k,q,p,hc,h=>by
  obtain ⟨_,h2,h3,h4⟩:=hc;have hb:=h3.base;rw [h2] at hb;simp only [iJ];refine v_ h4 ?_;cases s k
  ·exact (gv h3 aK).trans (bT h3 hb.symm).symm
  exact (bT h3 aK).trans (bT h3 hb.symm).symm
theorem Bw:∀ {rs:List RC} {p:AFr × AH},fD p rs->p.2.length<=(prg rs p).2.length
 | [],_,_=>ac5 _
 | r :: rs,p,hc=>by
  obtain ⟨_,h2,h3,h4⟩:=hc;have hb:=h3.base;rw [h2] at hb;have:=Bw h4;rw [bT h3 hb.symm] at this;have:=h3.le;simp only [prg]; omega
theorem fD.Nj:∀ {a b:List RC} {p:AFr × AH},fD p (a++b)↔fD p a/\fD (prg a p) b
 | [],b,p=>by simp [fD,prg]
 | r :: a,b,p=>by simp only [List.cons_append,fD,prg,fD.Nj (a:=a),and_assoc]
theorem wm:∀ {a b:List RC} {p:AFr × AH},prg (a++b) p=prg b (prg a p)
 | [],_,_=>rfl
 | r :: a,b,p=>by simp only [List.cons_append,prg,wm (a:=a)]
theorem gb {a:AV} (h:∀ i ∈ a.rids,i ∉ mv):a.bY mv=a:=by
 have key:∀ j,j ∉ mv->bQ j mv=false:=fun j hj=>by rw [<- Bool.not_eq_true,bj]; exact hj
 cases a with
 | own j=>simp [AV.bY,key j (h j (by simp [AV.rids]))]
 | sub j _ _=>simp [AV.bY,key j (h j (by simp [AV.rids]))]
 | elp j _ _=>simp [AV.bY,key j (h j (by simp [AV.rids]))]
 | _=>rfl
theorem iV {i:Nat}:∀ {l:List AV} {a:AV},a ∈ l->i ∈ a.rids->i ∈ rh l
 | b :: r,a,h,hi=>by
  simp only [rh,ac1];rcases ac4.1 h with rfl | h
  ·grind
  exact .inr (iV h hi)
theorem qu {g:AV->AV}:∀ {l:List AV},(∀ a ∈ l,g a=a)->qN g l=l
 | [],_=>rfl
 | a :: r,h=>by simp only [qN]; rw [h a (by simp),qu fun b hb=>h b (by simp [hb])]
theorem sf {g:AV->AV} {t:TV1} (h:∀ a ∈ t.cells,g a=a):t.mapA g=t:=by
 cases t with
 | c a=>simp only [TV1.mapA]; rw [h a (by simp [TV1.cells])]
 | agg l=>exact congrArg TV1.agg (qu h)
theorem tQ {i:Nat}:∀ {l:List TV1} {t:TV1} {a:AV},t ∈ l->a ∈ t.cells->i ∈ a.rids->i ∈ Ee l
 | b :: r,t,a,h,ha,hi=>by
  simp only [Ee,ac1];rcases ac4.1 h with rfl | h
  ·exact .inl (iV ha hi)
  exact .inr (tQ h ha hi)
theorem wB {g:AV->AV}:∀ {l:List TV1},(∀ t ∈ l,∀ a ∈ t.cells,g a=a)->wO g l=l
 | [],_=>rfl
 | a :: r,h=>by simp only [wO]; rw [sf (h a (by simp)),wB fun b hb=>h b (by simp [hb])]
theorem nY {v:TV} (h:disj mv v.rids=true):killTV mv v=v:=by
 have h:=cn.1 h;cases mv with
 | nil=>rfl
 | cons m r=>
  cases v with
  | one t=>exact congrArg TV.one (sf fun a ha=>gb fun i hi=>h i (iV ha hi))
  | tup l=>exact congrArg TV.tup (wB fun t ht a ha=>gb fun i hi=>h i (tQ ht ha hi))
  | un=>rfl
variable {o:AO}
theorem mE (h:disj mv o.rids=true):killO mv o=o:=by
 have h:=cn.1 h;cases mv with
 | nil=>rfl
 | cons m r=>
  cases o with
  | box t cs=>exact congrArg (AO.box t) (qu fun a ha=>gb fun i hi=>h i (iV ha hi))
  | mapf l=>
   show AO.mapf (mapM _ l)=_;rw [ql];congr 1;refine (List.map_congr_left fun q hq=>?_).trans (List.map_id _);have e:=gb (mv:=m :: r) (a:=q.2) fun i hi=>h i (iV (ahl hq) hi);grind
  | _=>rfl
variable {b a:List Nat}
theorem su {x:AV}:(x.bY a).bY b=(x.bY b).bY a:=by
 cases x with
 | own j=>cases h1:bQ j a <;> cases h2:bQ j b <;> simp [AV.bY,h1,h2]
 | sub j _ _=>cases h1:bQ j a <;> cases h2:bQ j b <;> simp [AV.bY,h1,h2]
 | elp j _ _=>cases h1:bQ j a <;> cases h2:bQ j b <;> simp [AV.bY,h1,h2]
 | _=>rfl
theorem nP {g h:AV->AV}:∀ {l:List AV},qN g (qN h l)=qN (fun a=>g (h a)) l
 | []=>rfl
 | a :: r=>by simp [qN,nP (l:=r)]
variable {h:AV->AV}
theorem rv {g:AV->AV} {t:TV1}:(t.mapA h).mapA g=t.mapA fun a=>g (h a):=by
 cases t with
 | c a=>rfl
 | agg l=>simp [TV1.mapA,nP]
theorem vf {g h:AV->AV}:∀ {l:List TV1},wO g (wO h l)=wO (fun a=>g (h a)) l
 | []=>rfl
 | a :: r=>by simp [wO,rv,vf (l:=r)]
theorem AW {v:TV}:killTV b (killTV a v)=killTV a (killTV b v):=by
 cases a with
 | nil=>rfl
 | cons x r=>
  cases b with
  | nil=>rfl
  | cons y q=>
   have e:(fun z:AV=>(z.bY (x :: r)).bY (y :: q))=fun z=>(z.bY (y :: q)).bY (x :: r):=funext fun z=>su;cases v with
   | one t=>simp only [killTV,TV.mapA,rv,e]
   | tup l=>simp only [killTV,TV.mapA,vf,e]
   | un=>rfl
theorem Gs {g:AV->AV}:mapM g (mapM h l)=mapM (fun a=>g (h a)) l:=by
 induction l with
 | nil=>rfl
 | cons q r ih=>obtain ⟨k,a⟩:=q; simp [mapM,ih]
theorem BI:killO b (killO a o)=killO a (killO b o):=by
 cases a with
 | nil=>rfl
 | cons x r=>
  cases b with
  | nil=>rfl
  | cons y q=>
   have e:(fun z:AV=>(z.bY (x :: r)).bY (y :: q))=fun z=>(z.bY (y :: q)).bY (x :: r):=funext fun z=>su;cases o with
   | box t cs=>simp only [killO,AO.mapA,nP,e]
   | mapf l=>simp only [killO,AO.mapA,Gs,e]
   | _=>rfl
theorem rZ:killO a .gone = .gone:=by cases a <;> rfl
inductive AOq:AO->AO->Prop
 | rfl {o:AO}:AOq o o
 | map {l l':List (Int × AV)}:(∀ k,lookF k l=lookF k l')->AOq (.mapf l) (.mapf l')
variable {o':AO}
theorem AOq.or {c:Cx} {r:RE} (h:AOq o o') (k:OR c ρ o r):OR c ρ o' r:=by
 cases h with
 | rfl=>exact k
 | map hl=>
  obtain ⟨g,e,a,n,h1,h2,h3⟩:=k;exact ⟨g,e,a,n,h1,h2,fun k=>by rw [<- hl]; exact h3 k⟩
theorem AOq.trans {a b c:AO} (h:AOq a b) (k:AOq b c):AOq a c:=by
 cases h with
 | rfl=>exact k
 | map h=>
  cases k with
  | rfl=>exact .map h
  | map k=>exact .map fun x=>(h x).trans (k x)
theorem AOq.symm {a b:AO} (h:AOq a b):AOq b a:=by
 cases h with
 | rfl=>exact .rfl
 | map h=>exact .map fun x=>(h x).symm
theorem oz {g:AV->AV} {k:Int}:∀ {l:List (Int × AV)},lookF k (mapM g l)=(lookF k l).map g
 | []=>rfl
 | (j,a) :: r=>by
  simp only [mapM,lookF];by_cases h:k=j
  ·grind
  rw [if_neg h,if_neg h]; exact oz
theorem AOq.kill (h:AOq o o'):AOq (killO mv o) (killO mv o'):=by
 cases h with
 | rfl=>exact .rfl
 | map h=>
  cases mv with
  | nil=>exact .map h
  | cons a r=>exact .map fun k=>by rw [oz,oz,h]
theorem AOq.put {e:Ent} {o o':AO} (h:AOq o o'):AOq (e.put o) (e.put o'):=by
 cases h with
 | rfl=>exact .rfl
 | map h=>
  cases e with
  | fn k a=>exact .map fun j=>by simp only [lookF,h]
  | da s k x=>exact .map h
theorem Ip {j k:Int} {b:AV} {s:Sh} {x:den s}:(Ent.fn j b).put ((Ent.da s k x).put o)=(Ent.da s k x).put ((Ent.fn j b).put o):=by
 cases o with
 | mapo s' g=>
  by_cases h:s' = s
  ·subst h; simp only [Ent.put,ahA]
  simp only [Ent.put,dif_neg h]
 | _=>rfl
variable {e:Ent}
theorem put_comm {f:Ent} (h:e.key≠f.key):AOq (f.put (e.put o)) (e.put (f.put o)):=by
 cases e with
 | fn k a=>
  cases f with
  | fn j b=>
   cases o with
   | mapf l=>
    refine .map fun i=>?_;simp only [lookF];have h:k≠j:=h;grind
   | _=>exact .rfl
  | da s j x=>rw [Ip]; exact .rfl
 | da s k x=>
  cases f with
  | fn j b=>rw [Ip]; exact .rfl
  | da s2 j y=>
   cases o with
   | mapo s' g=>
    by_cases h1:s' = s
    ·by_cases h2:s' = s2
     ·subst h1; subst h2;simp only [Ent.put,ahA];have e2:(fun i=>if i=j then some y else if i=k then some x else g i)=fun i=>if i=k then some x else if i=j then some y else g i:=by
       have h:k≠j:=h;grind
      rw [e2];exact .rfl
     subst h1;simp only [Ent.put,ahA,dif_neg h2];exact .rfl
    by_cases h2:s' = s2
    ·subst h2;simp only [Ent.put,dif_neg h1,ahA];exact .rfl
    simp only [Ent.put,dif_neg h1,dif_neg h2];exact .rfl
   | _=>exact .rfl
theorem AK (h:∀ k a,e = .fn k a->disj mv a.rids=true):killO mv (e.put o)=e.put (killO mv o):=by
 cases mv with
 | nil=>rfl
 | cons m r=>
  cases e with
  | fn k a=>
   cases o with
   | mapf l=>
    have:=gb (mv:=m :: r) (a:=a) (cn.1 (h k a rfl));simp only [killO,Ent.put,AO.mapA,mapM,this]
   | _=>rfl
  | da s k x=>
   cases o with
   | mapo s' g=>
    by_cases h:s' = s
    ·subst h; simp only [Ent.put,ahA,killO,AO.mapA]
    simp only [Ent.put,dif_neg h,killO,AO.mapA]
   | _=>rfl
def kd:AO->Option (Option Sh)
 | .mapf _=>some none
 | .mapo s _=>some (some s)
 | _=>none
theorem wq:kd (e.put o)=kd o:=by
 cases e with
 | fn k a=>cases o <;> rfl
 | da s k x=>
  cases o with
  | mapo s' g=>
   simp only [Ent.put];split
   ·rename_i h; subst h; rfl
   rfl
  | _=>rfl
theorem qi:kd (killO mv o)=kd o:=by cases mv <;> cases o <;> rfl
theorem Af {mv:List Nat}:∀ {H:AH} {k p:Nat} {o:AO},H[p]? = some o->k+p ∉ GS mv k H->disj mv o.rids=true
 | x :: r,k,0,o,h,hn=>by
  simp only [GS] at hn;grind
 | x :: r,k,p+1,o,h,hn=>by
  refine Af (H:=r) (k:=k+1) (p:=p) (by simpa using h) fun hm=>hn ?_;simp only [GS];grind
theorem yy {mv:List Nat}:∀ {fr:AFr} {t:Nat} {v:TV},lookA fr t=some v->t ∉ Ok mv fr->disj mv v.rids=true
 | (i,x) :: r,t,v,h,hn=>by
  rw [cZ] at h;simp only [Ok] at hn;by_cases hi:i=t
  ·grind
  rw [if_neg hi] at h;refine yy h fun hm=>hn ?_;grind
theorem mT {fr:AFr} {i t:Nat} {v:TV} (hv:lookA fr t=some v) (hi:i ∈ v.rids):∀ {U:List Nat},t ∈ U->i ∈ mO fr U
 | u :: r,h=>by
  simp only [mO,ac1];rcases ac4.1 h with rfl | h
  ·grind
  exact .inr (mT hv hi h)
theorem px {fr:AFr} {i t:Nat} {v:TV} (hv:lookA fr t=some v) (hi:i ∈ v.ids):∀ {U:List Nat},t ∈ U->i ∈ slotIds fr U
 | u :: r,h=>by
  simp only [slotIds,ac1];rcases ac4.1 h with rfl | h
  ·grind
  exact .inr (px hv hi h)
theorem iy {H:AH} {i p:Nat} (hi:i ∈ (getO H p).rids):∀ {l:List Nat},p ∈ l->i ∈ ll H l
 | u :: r,h=>by
  simp only [ll,ac1];rcases ac4.1 h with rfl | h
  ·grind
  exact .inr (iy hi h)
theorem sk {H:AH} {i p:Nat} (hi:i ∈ (getO H p).ids):∀ {l:List Nat},p ∈ l->i ∈ objIds H l
 | u :: r,h=>by
  simp only [objIds,ac1];rcases ac4.1 h with rfl | h
  ·grind
  exact .inr (sk hi h)
theorem mL (h:r.Fit) {p:Nat}:p ∈ r.new↔r.base<=p/\p<r.res.length:=by
 rw [RC.new,JA]; omega
theorem gw {p:Nat} (h:H[p]? = some o):getO H p=o:=by unfold getO; rw [List.getD_eq_getElem?_getD,h]; rfl
structure OkD (a b:RC):Prop where
 dst:∀ d,b.dst=some d->d ∉ a.U
 chσ:∀ p ∈ a.σ,p ∉ b.ch
 chn:∀ p ∈ a.new,p ∉ b.ch
 nσ:∀ p ∈ a.σ,p ∉ b.new
 nch:∀ p ∈ a.ch,p ∉ b.new
 kp:∀ p ∈ a.σ,∀ o,b.H0[p]? = some o->killO b.mv o=o
 ks:∀ t ∈ a.U,∀ v,lookA b.fr0 t=some v->killTV b.mv v=v
 sl:∀ t ∈ a.U,∀ v,lookA a.fr0 t=some v->killTV b.mv v=v
 ob:∀ p ∈ a.σ,killO b.mv (getO a.H0 p)=getO a.H0 p
 v:killTV b.mv a.v=a.v
 rc:∀ p ∈ a.ch,killO b.mv (getO a.res p)=getO a.res p
 rn:∀ p ∈ a.new,killO b.mv (getO a.res p)=getO a.res p
 en:∀ k x,a.ent=some (.fn k x)->disj b.mv x.rids=true
theorem IA {l:List Nat}:disj [] l=true:=cn.2 fun _ _ h=>by simp at h
theorem mZ {l l':List Nat} (h:disj mv l=true) (hs:∀ i ∈ l',i ∈ l):disj mv l' = true:=cn.2 fun i hi=>cn.1 h i (hs i hi)
variable {b a:RC}
theorem DO (h:okD a b=true):OkD a b:=by
 simp only [okD,Bool.and_eq_true] at h;obtain ⟨⟨⟨⟨⟨h1,h2⟩,h3⟩,h4⟩,h5⟩,h6⟩:=h;have hd:∀ d,b.dst=some d->d ∉ a.U:=fun d hd hm=>by
  simp only [hd,TA,bj.2 hm] at h1; cases h1
 refine ⟨hd,cn.1 h2,cn.1 h3,cn.1 h4,cn.1 h5,?_,?_,?_,?_,?_,?_,?_,?_⟩ <;> (cases hmv:b.mv with
  | nil=>intros; first | rfl | exact IA
  | cons m r=>?_) <;> (rw [hmv] at h6; simp only [Bool.and_eq_true] at h6; obtain ⟨⟨⟨⟨⟨⟨⟨k1,k2⟩,k3⟩,k4⟩,k5⟩,k6⟩,k7⟩,k8⟩:=h6)
 ·intro p hp o ho;exact mE (Af (k:=0) ho (by rw [ac_]; exact cn.1 k1 p hp))
 ·intro t ht v hv;exact nY (yy hv (cn.1 k2 t ht))
 ·intro t ht v hv;exact nY (mZ k3 fun i hi=>mT hv hi ht)
 ·intro p hp;exact mE (mZ k4 fun i hi=>iy hi hp)
 ·exact nY k5
 ·intro p hp;exact mE (mZ k6 fun i hi=>iy hi hp)
 ·intro p hp;exact mE (mZ k7 fun i hi=>iy hi hp)
 grind
theorem RC.eT {p:Nat} (h:p ∉ r.ch):r.obj p o=killO r.mv o:=by rw [RC.obj,if_neg h]
structure Agr (b:RC) (q p:AFr × AH):Prop where
 len:q.2.length=p.2.length
 ob:∀ x ∈ b.σ,q.2[x]? = p.2[x]?
 kd:∀ x ∈ b.ch,(q.2[x]?).map kd=(p.2[x]?).map kd
 sl:∀ t ∈ b.U,lookA q.1 t=lookA p.1 t
theorem wg (h:okI a b=true) {p:Nat} (ha:p ∈ a.ch) (hb:p ∈ b.ch):∃ e f,a.ent=some e/\b.ent=some f/\e.key≠f.key:=by
 unfold okI at h;split at h
 ·rename_i e f he hf;simp only [Bool.or_eq_true] at h;rcases h with h | h
  ·exact absurd ha (cn.1 h p hb)
  grind
 exact absurd ha (cn.1 h p hb)
theorem Eb {b:RC} {s:Nat->Bool}:∀ {rs:List RC} {k:Nat} {q p:AFr × AH},fD p rs->(∀ j r,rs[j]? = some r->s (k+j)=true\/(OkD b r/\okI b r=true))->Agr b q p->Agr b (iJ s k rs q) (prg rs p)
 | [],_,_,_,_,_,h=>h
 | r :: rs,k,q,p,hc,hs,h=>by
  obtain ⟨h1,h2,h3,h4⟩:=hc;have hb:p.2.length=r.base:=by rw [<- h2]; exact h3.base.symm
  have hqb:q.2.length=r.base:=h.len.trans hb;simp only [iJ,prg];refine Eb h4 (fun j r' hj=>by have:=hs (j+1) r' (by simpa using hj); rwa [show k+(j+1)=k+1+j by omega] at this) ?_;cases hk:s k with
  | true=>
   simp only [cond_true];refine ⟨(bT h3 hqb).trans (bT h3 hb).symm,fun x hx=>?_,fun x hx=>?_,fun t ht=>?_⟩
   ·rw [gk h3 hqb,gk h3 hb,h.ob x hx]
   ·rw [gk h3 hqb,gk h3 hb];by_cases hlt:x<r.base
    ·rw [if_pos hlt,if_pos hlt];have:=h.kd x hx;have key:∀ o o',kd o=kd o' -> kd (r.obj x o)=kd (r.obj x o'):=fun o o' e=>by
      unfold RC.obj;split
      ·split
       ·rw [wq,wq,e]
       rfl
      rw [qi,qi,e]
     cases hq:q.2[x]? <;> cases hp:p.2[x]? <;> rw [hq,hp] at this <;> simp at this ⊢;exact key _ _ this
    grind
   rw [hP,hP,h.sl t ht]
  | false=>
   simp only [cond_false];obtain ⟨hd,hi⟩:=(hs 0 r rfl).resolve_left (by rw [ahk,hk]; simp);refine ⟨(gv h3 hqb).trans (bT h3 hb).symm,fun x hx=>?_,fun x hx=>?_,fun t ht=>?_⟩
   ·rw [gQ h3 hqb,gk h3 hb,h.ob x hx];by_cases hlt:x<r.base
    ·rw [if_pos hlt,if_pos hlt];cases hp:p.2[x]? with
     | none=>rfl
     | some o=>
      rw [Option.map_some,RC.eT (hd.chσ x hx),hd.kp x hx o (by rw [h2]; exact hp)]
    rw [if_neg hlt,if_neg hlt];have hn:=hd.nσ x hx;rw [mL h3] at hn;rw [if_neg (fun hh=>hn ⟨by omega,hh⟩),List.getElem?_eq_none (by omega)]
   ·rw [gQ h3 hqb,gk h3 hb];by_cases hlt:x<r.base
    ·rw [if_pos hlt,if_pos hlt];have:=h.kd x hx;cases hq:q.2[x]? <;> cases hp:p.2[x]? <;> rw [hq,hp] at this <;> simp at this ⊢;rw [this];unfold RC.obj;split
     ·rename_i hxr;obtain ⟨e,f,_,hf,_⟩:=wg hi hx hxr;rw [hf]; exact wq.symm
     exact qi.symm
    rw [if_neg hlt,if_neg hlt];have hn:=hd.nch x hx;rw [mL h3] at hn;rw [if_neg (fun hh=>hn ⟨by omega,hh⟩),List.getElem?_eq_none (by omega)]
   rw [hP,if_neg (fun e=>hd.dst t e ht)];show lookA q.1 t=_;rw [h.sl t ht];cases hp:lookA p.1 t with
   | none=>rfl
   | some v=>rw [Option.map_some,hd.ks t ht v (by rw [h1]; exact hp)]
structure AgrB (b:RC) (q:AFr × AH):Prop where
 ob:∀ x ∈ b.σ,x<b.base->q.2[x]? = b.H0[x]?
 kd:∀ x ∈ b.ch,x<b.base->(q.2[x]?).map kd=(b.H0[x]?).map kd
 sl:∀ t ∈ b.U,lookA q.1 t=lookA b.fr0 t
 gn:∀ x,b.base<=x->x<b.res.length->q.2[x]? = some .gone
theorem yk {b:RC} (hbf:b.Fit) {s:Nat->Bool}:∀ {rs:List RC} {k:Nat} {q p:AFr × AH},fD p rs->b.res.length<=p.2.length->q.2.length=p.2.length->(∀ j r,rs[j]? = some r->s (k+j)=false\/(OkD b r/\okI b r=true))->AgrB b q->AgrB b (iJ s k rs q)
 | [],_,_,_,_,_,_,_,h=>h
 | r :: rs,k,q,p,hc,hbl,hlen,hs,h=>by
  obtain ⟨h1,h2,h3,h4⟩:=hc;have hb:p.2.length=r.base:=by rw [<- h2]; exact h3.base.symm
  have hqb:q.2.length=r.base:=hlen.trans hb;have hle:=h3.le;simp only [iJ];have hl2:(bif s k then r.app q else r.FD q).2.length=(r.app p).2.length:=by
   cases s k
   ·exact (gv h3 hqb).trans (bT h3 hb).symm
   exact (bT h3 hqb).trans (bT h3 hb).symm
  have hble:=hbf.le;refine yk hbf h4 (by rw [bT h3 hb]; omega) hl2 (fun j r' hj=>by have:=hs (j+1) r' (by simpa using hj); rwa [show k+(j+1)=k+1+j by omega] at this) ?_;cases hk:s k with
  | false=>
   simp only [cond_false];refine ⟨fun x hx hlt=>?_,fun x hx hlt=>?_,fun t ht=>h.sl t ht,fun x hx hlt=>?_⟩
   ·rw [gQ h3 hqb,if_pos (by omega)]; exact h.ob x hx hlt
   ·rw [gQ h3 hqb,if_pos (by omega)]; exact h.kd x hx hlt
   rw [gQ h3 hqb,if_pos (by omega)]; exact h.gn x hx hlt
  | true=>
   simp only [cond_true];obtain ⟨hd,hi⟩:=(hs 0 r rfl).resolve_left (by rw [ahk,hk]; simp);refine ⟨fun x hx hlt=>?_,fun x hx hlt=>?_,fun t ht=>?_,fun x hx hlt=>?_⟩
   ·rw [gk h3 hqb,if_pos (by omega),h.ob x hx hlt];cases hp:b.H0[x]? with
    | none=>rfl
    | some o=>
     have:=hd.ob x hx;rw [gw hp] at this;rw [Option.map_some,RC.eT (hd.chσ x hx),this]
   ·rw [gk h3 hqb,if_pos (by omega),<- h.kd x hx hlt];cases hq:q.2[x]? with
    | none=>rfl
    | some o=>
     simp only [Option.map_some,Option.some.injEq];unfold RC.obj;split
     ·rename_i hxr;obtain ⟨e,f,_,hf,_⟩:=wg hi hx hxr;rw [hf]; exact wq
     exact qi
   ·rw [hP,if_neg (fun e=>hd.dst t e ht),h.sl t ht];cases hp:lookA b.fr0 t with
    | none=>rfl
    | some v=>rw [Option.map_some,hd.sl t ht v hp]
   rw [gk h3 hqb,if_pos (by omega),h.gn x hx hlt,Option.map_some,RC.eT (hd.chn x ((mL hbf).2 ⟨hx,hlt⟩)),rZ]
def RC.endO (b:RC) (x:Nat) (o:AO):AO:=if b.base<=x/\x<b.res.length then getO b.res x else b.obj x o
def RC.endF (b:RC) (t:Nat) (v:Option TV):Option TV:=if b.dst=some t then some b.v else v.map (killTV b.mv)
inductive OOq:Option AO->Option AO->Prop
 | none:OOq none none
 | some {o o':AO}:AOq o o' -> OOq (some o) (some o')
structure Rel (b:RC) (q' q:AFr × AH):Prop where
 len:q'.2.length=q.2.length
 ob:∀ x,OOq (q'.2[x]?) ((q.2[x]?).map (b.endO x))
 sl:∀ t,lookA q'.1 t=b.endF t (lookA q.1 t)
theorem OOq.refl:∀ o:Option AO,OOq o o
 | .none=>.none
 | .some _=>.some .rfl
theorem Hq (hb:b.Fit) {q:AFr × AH} (hq:q.2.length=b.base):Rel b (b.app q) (b.FD q):=by
 refine ⟨(bT hb hq).trans (gv hb hq).symm,fun x=>?_,fun t=>hP⟩;rw [gk hb hq,gQ hb hq];by_cases h1:x<b.base
 ·rw [if_pos h1,if_pos h1];have:(q.2[x]?).map (b.obj x)=(q.2[x]?).map (b.endO x):=by
   cases q.2[x]? with
   | none=>rfl
   | some o=>simp only [Option.map_some,RC.endO,if_neg (show ¬ (b.base<=x/\x<b.res.length) by omega)]
  rw [this]; exact .refl _
 rw [if_neg h1,if_neg h1];by_cases h2:x<b.res.length
 ·rw [if_pos h2,Option.map_some,RC.endO,if_pos ⟨by omega,h2⟩,List.getElem?_eq_getElem h2];exact .some (by rw [gw (List.getElem?_eq_getElem h2)]; exact .rfl)
 rw [if_neg h2,List.getElem?_eq_none (by omega)]; exact .none
theorem PG (hb:b.Fit) (hdb:OkD b r) (hdr:OkD r b) (hi:okI b r=true) {x:Nat} (h:AOq o' (b.endO x o)):AOq (r.obj x o') (b.endO x (r.obj x o)):=by
 by_cases hn:b.base<=x/\x<b.res.length
 ·-- b's own
  have hxb:x ∈ b.new:=(mL hb).2 hn;have hxr:x ∉ r.ch:=hdb.chn x hxb;simp only [RC.endO,if_pos hn] at h ⊢;rw [RC.eT hxr];have:=(h.kill (mv:=r.mv)).trans (by rw [hdb.rn x hxb]; exact .rfl);exact this
 simp only [RC.endO,if_neg hn] at h ⊢;by_cases hxb:x ∈ b.ch
 ·by_cases hxr:x ∈ r.ch
  ·obtain ⟨e,f,he,hf,hne⟩:=wg hi hxb hxr;simp only [RC.obj,if_pos hxb,if_pos hxr,he,hf] at h ⊢;exact (h.put (e:=f)).trans (put_comm hne)
  rw [RC.eT hxr,RC.eT hxr];cases he:b.ent with
  | some e=>
   simp only [RC.obj,if_pos hxb,he] at h ⊢;refine (h.kill (mv:=r.mv)).trans ?_;rw [AK fun k a hk=>hdb.en k a (by rw [he,hk])];exact .rfl
  | none=>
   simp only [RC.obj,if_pos hxb,he] at h ⊢;have:=h.kill (mv:=r.mv);rwa [hdb.rc x hxb] at this
 rw [RC.eT hxb] at h ⊢;by_cases hxr:x ∈ r.ch
 ·cases he:r.ent with
  | some e=>
   simp only [RC.obj,if_pos hxr,he];refine (h.put (e:=e)).trans ?_;rw [AK fun k a hk=>hdr.en k a (by rw [he,hk])];exact .rfl
  | none=>
   simp only [RC.obj,if_pos hxr,he];rw [hdr.rc x hxr]; exact .rfl
 rw [RC.eT hxr,RC.eT hxr,BI];exact h.kill
variable {q':AFr × AH}
theorem Nr (hb:b.Fit) (hr:r.Fit) (hdb:OkD b r) (hdr:OkD r b) (hi:okI b r=true) (hds:∀ d,b.dst=some d->r.dst≠some d) {q:AFr × AH} (hq:q.2.length=r.base) (hbr:b.res.length<=r.base) (h:Rel b q' q):Rel b (r.app q') (r.app q):=by
 have hq':q'.2.length=r.base:=h.len.trans hq;refine ⟨(bT hr hq').trans (bT hr hq).symm,fun x=>?_,fun t=>?_⟩
 ·rw [gk hr hq',gk hr hq];by_cases hlt:x<r.base
  ·rw [if_pos hlt,if_pos hlt];have:=h.ob x;cases hx':q'.2[x]? <;> cases hx:q.2[x]? <;> rw [hx',hx] at this <;> simp only [Option.map_some,Option.map_none] at this ⊢ <;> cases this
   ·exact .none
   rename_i hh; exact .some (PG hb hdb hdr hi hh)
  rw [if_neg hlt,if_neg hlt];cases hx:r.res[x]? with
  | none=>exact .none
  | some o=>
   refine .some ?_;have hlx:=(aam.1 hx).1;have hxn:x ∈ r.new:=(mL hr).2 ⟨by omega,hlx⟩;have h1:=hdr.rn x hxn;rw [gw hx] at h1;have h2:x ∉ b.ch:=hdr.chn x hxn;rw [RC.endO,if_neg (by omega),RC.eT h2,h1];exact .rfl
 rw [hP,hP,h.sl t];unfold RC.endF;by_cases hrt:r.dst=some t
 ·rw [if_pos hrt,if_pos hrt,if_neg (fun e=>hds t e hrt),Option.map_some,hdr.v]
 rw [if_neg hrt,if_neg hrt];by_cases hbt:b.dst=some t
 ·rw [if_pos hbt,if_pos hbt,Option.map_some,hdb.v]
 rw [if_neg hbt,if_neg hbt,Option.map_map,Option.map_map];cases lookA q.1 t with
 | none=>rfl
 | some v=>simp only [Option.map_some,Function.comp,AW]
theorem Rl (hb:b.Fit) (hr:r.Fit) (hdr:∀ x ∈ b.ch,x<b.base) {q:AFr × AH} (hq:q.2.length=r.base) (hbr:b.res.length<=r.base) (h:Rel b q' q):Rel b (r.FD q') (r.FD q):=by
 have hq':q'.2.length=r.base:=h.len.trans hq;have hble:=hb.le;refine ⟨(gv hr hq').trans (gv hr hq).symm,fun x=>?_,h.sl⟩;rw [gQ hr hq',gQ hr hq];by_cases hlt:x<r.base
 ·rw [if_pos hlt,if_pos hlt]; exact h.ob x
 rw [if_neg hlt,if_neg hlt];by_cases h2:x<r.res.length
 ·rw [if_pos h2,Option.map_some,RC.endO,if_neg (by omega),RC.eT (fun hm=>by have:=hdr x hm; omega),rZ];exact .some .rfl
 rw [if_neg h2]; exact .none
theorem DS {b:RC} (hb:b.Fit) (hch:∀ x ∈ b.ch,x<b.base) {s:Nat->Bool}:∀ {rs:List RC} {k:Nat} {q' q p:AFr × AH},fD p rs->b.res.length<=p.2.length->q.2.length=p.2.length->(∀ j r,rs[j]? = some r->(s (k+j)=false\/(OkD b r/\OkD r b/\okI b r=true))/\∀ d,b.dst=some d->r.dst≠some d)->Rel b q' q->Rel b (iJ s k rs q') (iJ s k rs q)
 | [],_,_,_,_,_,_,_,_,h=>h
 | r :: rs,k,q',q,p,hc,hbl,hlen,hs,h=>by
  obtain ⟨_,h2,h3,h4⟩:=hc;have hb0:p.2.length=r.base:=by rw [<- h2]; exact h3.base.symm
  have hqb:q.2.length=r.base:=hlen.trans hb0;have hle:=h3.le;simp only [iJ];have hl2:(bif s k then r.app q else r.FD q).2.length=(r.app p).2.length:=by
   cases s k
   ·exact (gv h3 hqb).trans (bT h3 hb0).symm
   exact (bT h3 hqb).trans (bT h3 hb0).symm
  refine DS hb hch h4 (by rw [bT h3 hb0]; omega) hl2 (fun j r' hj=>by have:=hs (j+1) r' (by simpa using hj); rwa [show k+(j+1)=k+1+j by omega] at this) ?_;cases hk:s k with
  | false=>exact Rl hb h3 hch hqb (by omega) h
  | true=>
   obtain ⟨hh,hds⟩:=hs 0 r rfl;obtain ⟨hd1,hd2,hi⟩:=hh.resolve_left (by rw [ahk,hk]; simp);exact Nr hb h3 hd1 hd2 hi hds hqb aK h
theorem Rd.on {c c':Cx} {ρ':List RE} {a:AV} {v:Value} (h:Rd c ρ a v) (hc:c.le c') (k:∀ i ∈ a.ids,∀ r,ρ[i]? = some r->r ≠ .no->ρ'[i]? = some r):Rd c' ρ' a v:=by
 have cap:∀ q u,q.1 ∈ a.ids->dP ρ q u->dP ρ' q u:=fun q u hq ⟨g,h1,h2⟩=>⟨g,k _ hq _ h1 (by simp),h2⟩;cases a with
 | own id=>
  rcases h with ⟨g,cap,len,z,h,e⟩ | ⟨h,e⟩
  ·exact .inl ⟨g,cap,len,z,k id (by simp [AV.ids]) _ h (by simp),e⟩
  exact .inr ⟨k id (by simp [AV.ids]) _ h (by simp),e⟩
 | sub id o l=>
  rcases h with ⟨g,cap,len,z,h,e⟩ | ⟨h,e⟩
  ·exact .inl ⟨g,cap,len,z,k id (by simp [AV.ids]) _ h (by simp),e⟩
  exact .inr ⟨k id (by simp [AV.ids]) _ h (by simp),e⟩
 | ptr id o=>exact cap (id,o) _ (by simp [AV.ids]) h
 | elp id i o=>
  obtain ⟨g,cap,len,z,h,e⟩:=h;exact ⟨g,cap,len,z,k id (by simp [AV.ids]) _ h (by simp),e⟩
 | fe s x o=>
  obtain ⟨A,cells,h1,h2,h3,e⟩:=h;exact ⟨A,cells,(hc.S _ h1).1,h2.keep (hc.S _ h1).2,h3.carry hc,e⟩
 | fn f b cs=>
  obtain ⟨bs,us,h1,h2,e⟩:=h;have all:∀ (l:List (Nat × Nat)) (us:List Value),(∀ q ∈ l,q.1 ∈ (AV.fn f b cs).ids)->All2 (dP ρ) l us->All2 (dP ρ') l us:=fun l us hl h=>by
   induction h with
   | nil=>exact .nil
   | cons h1 _ ih=>exact .cons (cap _ _ (hl _ (by simp)) h1) (ih fun q hq=>hl q (by simp [hq]))
  refine ⟨bs,us,all b bs (fun q hq=>?_) h1,all cs us (fun q hq=>?_) h2,e⟩ <;> simp only [AV.ids,ac1] <;> first | exact .inl (ahl hq) | exact .inr (ahl hq)
 | mq id=>
  obtain ⟨g,h1,e⟩:=h;exact ⟨g,k id (by simp [AV.ids]) _ h1 (by simp),e⟩
 | np=>exact h
 | nf=>exact h
 | yl l=>exact h
 | xx k' cs=>
  obtain ⟨us,h1,h2⟩:=h;have all:∀ (l:List (Nat × Nat)) (us:List Value),(∀ q ∈ l,q.1 ∈ (AV.xx k' cs).ids)->All2 (dP ρ) l us->All2 (dP ρ') l us:=fun l us hl h=>by
   induction h with
   | nil=>exact .nil
   | cons h1 _ ih=>exact .cons (cap _ _ (hl _ (by simp)) h1) (ih fun q hq=>hl q (by simp [hq]))
  exact ⟨us,all cs us (fun q hq=>by simp only [AV.ids]; exact ahl hq) h1,h2.le hc⟩
 | dead=>exact h
 | int n=>exact Pd.carry h hc
 | u8 b=>exact Pd.carry h hc
 | u64 n=>exact Pd.carry h hc
 | bool e=>exact Pd.carry h hc
 | str s=>exact Pd.carry h hc
 | em b=>exact Pd.carry h hc
 | li nw xs=>exact Pd.carry h hc
 | fz s xs=>exact Pd.carry h hc
theorem UB.on {c c':Cx} {ρ ρ':List RE}:∀ {asx:List AV} {vs:List Value},All2 (Rd c ρ) asx vs->c.le c' -> (∀ i ∈ vG asx,∀ r,ρ[i]? = some r->r ≠ .no->ρ'[i]? = some r)->All2 (Rd c' ρ') asx vs
 | [],_,h,_,_=>by cases h; exact .nil
 | a :: r,_,h,hc,k=>by
  cases h with
  | cons h1 h2=>exact .cons (h1.on hc fun i hi=>k i (kE (a:=a) (by simp) hi)) (UB.on h2 hc fun i hi=>k i (by simp only [vG,ac1]; exact .inr hi))
theorem cO.on {c c':Cx} {ρ ρ':List RE} {t:TV1} {v:Value} (h:cO c ρ t v) (hc:c.le c') (k:∀ i ∈ vG t.cells,∀ r,ρ[i]? = some r->r ≠ .no->ρ'[i]? = some r):cO c' ρ' t v:=by
 cases t with
 | c a=>exact Rd.on h hc fun i hi=>k i (kE (a:=a) (by simp [TV1.cells]) hi)
 | agg l=>obtain ⟨vs,e,h⟩:=h; exact ⟨vs,e,UB.on h hc k⟩
theorem RL.on {c c':Cx} {ρ ρ':List RE}:∀ {asx:List TV1} {vs:List Value},All2 (cO c ρ) asx vs->c.le c' -> (∀ i ∈ pH asx,∀ r,ρ[i]? = some r->r ≠ .no->ρ'[i]? = some r)->All2 (cO c' ρ') asx vs
 | [],_,h,_,_=>by cases h; exact .nil
 | a :: r,_,h,hc,k=>by
  cases h with
  | cons h1 h2=>exact .cons (h1.on hc fun i hi=>k i (by simp only [pH,ac1]; exact .inl hi)) (RL.on h2 hc fun i hi=>k i (by simp only [pH,ac1]; exact .inr hi))
theorem Rt.on {c c':Cx} {ρ ρ':List RE} {t:TV} {v:Value} (h:Rt c ρ t v) (hc:c.le c') (k:∀ i ∈ t.ids,∀ r,ρ[i]? = some r->r ≠ .no->ρ'[i]? = some r):Rt c' ρ' t v:=by
 cases t with
 | one t=>exact cO.on h hc k
 | tup l=>obtain ⟨vs,e,h⟩:=h; exact ⟨vs,e,RL.on h hc k⟩
 | un=>trivial
theorem ON {q:Int × AV} (h:q ∈ l) (hi:i ∈ q.2.ids):i ∈ ML l:=tc h hi
theorem OR.on {c c':Cx} {ρ ρ':List RE} {o:AO} {r:RE} (h:OR c ρ o r) (hc:c.le c') (hw:c'.w=c.w) (k:∀ i ∈ o.ids,∀ r,ρ[i]? = some r->r ≠ .no->ρ'[i]? = some r):OR c' ρ' o r:=by
 cases o with
 | gone=>exact h
 | loc=>trivial
 | mapo s f=>
  obtain ⟨g,rfl,h⟩:=h;exact ⟨g,rfl,h.carry hc (by rw [hw])⟩
 | mapf l=>
  obtain ⟨g,rfl,h⟩:=h;exact ⟨g,rfl,h.map (g0:=fun a=>a) (by simp) (fun q hq _ h=>h.on hc fun i hi=>k i (ON hq hi)) (by rw [hw])⟩
 | arr t s n xs=>
  obtain ⟨g,vs,rfl,h1,h2,h3⟩:=h;exact ⟨g,vs,rfl,by rw [hw]; exact h1,h2.carry hc,h3⟩
 | box t cs=>
  obtain ⟨g,vs,rfl,h1,h2⟩:=h;exact ⟨g,vs,rfl,by rw [hw]; exact h1,UB.on h2 hc k⟩
 | row t s xs=>
  obtain ⟨h1,h2,h3⟩:=h;refine ⟨hc.shp ▸ h1,h2,h3.imp id ?_⟩;rintro ⟨g,cap,cells,sp,rfl,h4,h5,h6⟩;exact ⟨g,cap,cells,sp,rfl,by rw [hw]; exact h4,h5.carry hc,h6⟩
theorem Fz (h:mv=[]) {l:List AV}:qN (AV.bY mv) l=l:=qu fun a _=>gb (by subst h; simp)
theorem MR:killO mv o=o.mapA (AV.bY mv):=by
 cases mv with
 | cons _ _=>rfl
 | nil=>
  cases o with
  | box t cs=>exact congrArg (AO.box t) (Fz rfl).symm
  | mapf l=>
   show AO.mapf l=AO.mapf (mapM _ l);rw [ql];congr 1;refine ((List.map_congr_left fun q _=>?_).trans (List.map_id _)).symm;have e:=gb (mv:=[]) (a:=q.2) (by simp);grind
  | _=>rfl
def Gz (G:Gl) (ρc:List RE):Gl:=⟨G.shp,G.B0,fun b=>G.Z b\/live ρc b⟩
section
variable {G:Gl} {ρ:List RE} {S:AH} {w w':World} {m top:Nat}
structure Part (G:Gl) (ρ:List RE) (S:AH) (w:World) (m top:Nat):Prop where
 R:Rep G ρ S w
 le:m<=top
 len:top<=S.length
 gn:∀ x,m<=x->x<top->S[x]? = some .gone
theorem Part.mid (h:Part G ρ S w m top) {x:Nat} (h1:m<=x) (h2:x<top):ρ[x]? = some .no:=by
 obtain ⟨r,hr,hor⟩:=h.R.at_ (h.gn x h1 h2);cases hor; exact hr
theorem Part.lv (h:Part G ρ S w m top) {b:Nat}:live ρ b↔live (ρ.take m) b\/live (ρ.drop top) b:=by
 constructor
 ·rintro ⟨i,r,h1,h2⟩;by_cases hi:i<m
  ·exact .inl ⟨i,r,by rw [adj,if_pos hi]; exact h1,h2⟩
  by_cases hj:i<top
  ·rw [h.mid (by omega) hj] at h1; cases h1; cases h2
  exact .inr ⟨i - top,r,by rw [adf,show top+(i - top)=i by omega]; exact h1,h2⟩
 rintro (⟨i,r,h1,h2⟩ | ⟨i,r,h1,h2⟩)
 ·rw [adj] at h1;split at h1
  ·exact ⟨i,r,h1,h2⟩
  cases h1
 rw [adf] at h1;exact ⟨_,r,h1,h2⟩
theorem Part.sS (h:Part G ρ S w m top) {b:Nat}:(cx (Gz G (ρ.drop top)) (ρ.take m) w).S b↔(cx G ρ w).S b:=by
 show (b<w.heap.size/\¬ live (ρ.take m) b/\¬ (G.Z b\/live (ρ.drop top) b))↔(b<w.heap.size/\¬ live ρ b/\¬ G.Z b);rw [h.lv];grind
theorem Part.cle (h:Part G ρ S w m top):(cx G ρ w).le (cx (Gz G (ρ.drop top)) (ρ.take m) w):=⟨rfl,rfl,fun _ hb=>⟨h.sS.2 hb,rfl⟩,fun _ _ _=>rfl⟩
theorem jV {r:RE} (h:(ρ.take m)[i]? = some r):ρ[i]? = some r/\i<m:=by grind
theorem Part.mask (h:Part G ρ S w m top) (hσ:∀ x ∈ σ,∀ i ∈ (getO S x).ids,i<m):Rep (Gz G (ρ.drop top)) (ρ.take m) (maskH σ 0 (S.take m)) w:=by
 have hl:=h.R.obj.length;refine ⟨cg (by rw [oa,List.length_take,List.length_take,hl]) fun j o r ho hr=>?_,fun i j r r' g h1 h2 h3 h4=>h.R.inj i j r r' g (jV h1).1 (jV h2).1 h3 h4,fun i r g h1 h2=>?_,fun b hb=>hb.elim (h.R.z b) fun ⟨j,r,h1,h2⟩=>?_,h.R.b0,h.R.tb.carry h.cle⟩
 ·obtain ⟨hr,hj⟩:=jV hr;rw [ny,adj,if_pos hj,ac_,adg] at ho;obtain ⟨o',ho',rfl⟩:=ho;split
  ·rename_i hm;obtain ⟨r',hr',hor⟩:=h.R.at_ ho';rw [hr] at hr'; cases hr';refine hor.on h.cle rfl fun i hi r hri _=>?_;have:=hσ j hm i (by rw [gw ho']; exact hi);grind
  trivial
 ·obtain ⟨h1,hi⟩:=jV h1;have:=h.R.bnd i r g h1 h2;refine ⟨this.1,this.2.1,fun hz=>hz.elim this.2.2 fun ⟨j,r',h3,h4⟩=>?_⟩;rw [adf] at h3;have e:=h.R.inj i _ r r' g h1 h3 h2 h4;have:=h.le;omega
 rw [adf] at h1;exact (h.R.bnd _ r b h1 h2).2.1
theorem Part.merge (h:Part G ρ S w m top) {ro:Lv} (hbase:b.base=m) (hres:b.res.length=top) (hent:b.ent=none) (hch:∀ x ∈ b.ch,x<m) {ρt:List RE} (hro:∀ i,ro.wr i=false\/ro.mv i=false->i<m) (hS:Stp ⟨fun i=>bQ i b.ch && ro.wr i,fun i=>bQ i b.mv && ro.mv i⟩ (ρ.take m) w ρt w') (hRt:Rep (Gz G (ρ.drop top)) ρt b.res w') {S':AH} (hlen:S'.length=S.length) (hS':∀ x,OOq (S'[x]?) ((S[x]?).map (b.endO x))) :
  Rep G (ρt++ρ.drop top) S' w' /\ Stp ro ρ w (ρt++ρ.drop top) w' /\ (∀ a v,Rd (cx G ρ w) ρ a v->Rd (cx G (ρt++ρ.drop top) w') (ρt++ρ.drop top) (a.bY b.mv) v)/\(∀ t v,Rt (cx (Gz G (ρ.drop top)) ρt w') ρt t v->Rt (cx G (ρt++ρ.drop top) w') (ρt++ρ.drop top) t v):=by
 have hl:=h.R.obj.length;have hle:=h.le;have htl:ρt.length=top:=by rw [<- hRt.obj.length,hres]
 have hSl:=h.len
 -- where they lie
 have at1:∀ i,i<top->(ρt++ρ.drop top)[i]? = ρt[i]?:=fun i hi=>List.getElem?_append_left (by omega);have at2:∀ i,top<=i->(ρt++ρ.drop top)[i]? = ρ[i]?:=fun i hi=>by rw [age (by omega),htl,adf]; congr 1; omega
 have lv':∀ b,live (ρt++ρ.drop top) b↔live ρt b\/live (ρ.drop top) b:=fun b=>by
  constructor
  ·rintro ⟨i,r,h1,h2⟩;by_cases hi:i<top
   ·exact .inl ⟨i,r,by rw [<- at1 i hi]; exact h1,h2⟩
   refine .inr ⟨i - top,r,?_,h2⟩;rw [at2 i (by omega)] at h1;rw [adf,show top+(i - top)=i by omega]; exact h1
  rintro (⟨i,r,h1,h2⟩ | ⟨i,r,h1,h2⟩)
  ·exact ⟨i,r,by rw [at1 i (by rw [<- htl]; exact (aam.1 h1).1)]; exact h1,h2⟩
  rw [adf] at h1;exact ⟨top+i,r,by rw [at2 _ (by omega)]; exact h1,h2⟩
 have hblk:∀ g,g<w.heap.size->¬ live (ρ.take m) g->¬ live ρt g/\w'.heap[g]? = w.heap[g]?:=fun g hg hn=>hS.ext.old g hg hn;have hcn:∀ g,live (ρ.drop top) g->g<w.heap.size/\¬ live (ρ.take m) g:=by
  rintro g ⟨j,r,h1,h2⟩;rw [adf] at h1;refine ⟨(h.R.bnd _ r g h1 h2).2.1,?_⟩;rintro ⟨i,r',h3,h4⟩;obtain ⟨h3,h5⟩:=jV h3;have:=h.R.inj _ _ _ _ g h1 h3 h2 h4;omega
 have hext:Ext ρ w (ρt++ρ.drop top) w':=⟨hS.ext.os,hS.ext.tape,hS.ext.output,hS.ext.size,fun b hb hl=>by
  rw [h.lv] at hl;have hk:=hblk b hb fun k=>hl (.inl k);exact ⟨fun k=>((lv' b).1 k).elim hk.1 fun k=>hl (.inr k),hk.2⟩⟩
 have hcle:(cx G ρ w).le (cx G (ρt++ρ.drop top) w'):=hext.le h.R.lo;have hcle2:(cx (Gz G (ρ.drop top)) ρt w').le (cx G (ρt++ρ.drop top) w'):=⟨rfl,rfl,fun b ⟨h1,h2,h3⟩=>⟨⟨h1,fun k=>((lv' b).1 k).elim h2 fun k=>h3 (.inr k),fun k=>h3 (.inl k)⟩,rfl⟩,fun _ _ _=>rfl⟩;have hagr:jP ρt (ρt++ρ.drop top):=fR _ _
 -- what is kept
 have keep:∀ i r,ρ[i]? = some r->r ≠ .no->((∃ g,r = .blk g)\/i ∉ b.mv)->(ρt++ρ.drop top)[i]? = some r:=fun i r hr hne hk=>by
  by_cases hi:i<m
  ·rw [at1 i (by omega)];have hr':(ρ.take m)[i]? = some r:=by rw [adj,if_pos hi]; exact hr
   rcases hk with ⟨g,rfl⟩ | hk
   ·exact hS.bx i g hr'
   refine hS.loc i r ?_ hr';have:bQ i b.mv=false:=by rw [<- Bool.not_eq_true,bj]; exact hk
   simp [this]
  by_cases hj:i<top
  ·rw [h.mid (by omega) hj] at hr; cases hr; exact absurd rfl hne
  rw [at2 i (by omega)]; exact hr
 have hrd:∀ a v,Rd (cx G ρ w) ρ a v->Rd (cx G (ρt++ρ.drop top) w') (ρt++ρ.drop top) (a.bY b.mv) v:=by
  intro a v hd;have nm:∀ j,bQ j b.mv=false->j ∉ b.mv:=fun j hb hm=>by rw [bj.2 hm] at hb; cases hb
  cases a with
  | own j=>
   simp only [AV.bY];cases hb:bQ j b.mv
   ·refine Rd.on hd hcle fun i hi r hr hne=>keep i r hr hne (.inr ?_);simp only [AV.ids,cond_false,ac2] at hi; subst hi; exact nm _ hb
   exact Rd.one hd
  | sub j o k=>
   simp only [AV.bY];cases hb:bQ j b.mv
   ·refine Rd.on hd hcle fun i hi r hr hne=>keep i r hr hne (.inr ?_);simp only [AV.ids,cond_false,ac2] at hi; subst hi; exact nm _ hb
   exact Rd.one hd
  | elp j k o=>
   simp only [AV.bY];cases hb:bQ j b.mv
   ·refine Rd.on hd hcle fun i hi r hr hne=>keep i r hr hne (.inr ?_);simp only [AV.ids,cond_false,ac2] at hi; subst hi; exact nm _ hb
   exact Rd.one hd
  | ptr j o=>
   obtain ⟨g,h1,e⟩:=hd;exact ⟨g,keep _ _ h1 (by simp) (.inl ⟨g,rfl⟩),e⟩
  | mq j=>
   obtain ⟨g,h1,e⟩:=hd;exact ⟨g,keep _ _ h1 (by simp) (.inl ⟨g,rfl⟩),e⟩
  | fn f b' cs=>
   obtain ⟨bs,us,h1,h2,e⟩:=hd;exact ⟨bs,us,h1.imp fun _ _ ⟨g,k1,k2⟩=>⟨g,keep _ _ k1 (by simp) (.inl ⟨g,rfl⟩),k2⟩,h2.imp fun _ _ ⟨g,k1,k2⟩=>⟨g,keep _ _ k1 (by simp) (.inl ⟨g,rfl⟩),k2⟩,e⟩
  | fe s x o=>
   obtain ⟨A,cells,h1,h2,h3,e⟩:=hd;exact ⟨A,cells,(hcle.S _ h1).1,h2.keep (hcle.S _ h1).2,h3.carry hcle,e⟩
  | np=>exact hd
  | nf=>exact hd
  | yl l=>exact hd
  | xx k' cs=>
   obtain ⟨us,h1,h2⟩:=hd;exact ⟨us,h1.imp fun _ _ ⟨g,k1,k2⟩=>⟨g,keep _ _ k1 (by simp) (.inl ⟨g,rfl⟩),k2⟩,h2.le hcle⟩
  | dead=>exact hd
  | int n=>exact Pd.carry hd hcle
  | u8 b=>exact Pd.carry hd hcle
  | u64 n=>exact Pd.carry hd hcle
  | bool e=>exact Pd.carry hd hcle
  | str s=>exact Pd.carry hd hcle
  | em b=>exact Pd.carry hd hcle
  | li nw xs=>exact Pd.carry hd hcle
  | fz s xs=>exact Pd.carry hd hcle
 refine ⟨⟨?_,?_,?_,fun b hb=>ac3 (h.R.z b hb) hext.size,Nat.le_trans h.R.b0 hext.size,h.R.tb.carry hcle⟩,⟨hext,fun i r hi hr=>?_,fun i r hi hr=>?_,fun i g hi=>?_⟩,hrd,fun t v ht=>ht.carry hcle2 hagr⟩
 ·refine cg (by rw [hlen,List.length_append,htl,List.length_drop]; omega) fun x o r ho hr=>?_;have hq:=hS' x;rw [ho] at hq;cases hx:S[x]? with
  | none=>rw [hx] at hq; cases hq
  | some o0=>
   rw [hx,Option.map_some] at hq;cases hq with
   | some hq=>
   refine hq.symm.or ?_;obtain ⟨r0,hr0,hor0⟩:=h.R.at_ hx
   -- those that stay: Jv
   have stay:ρ[x]? = some r->(∀ g,r.g? = some g->w'.heap[g]? = w.heap[g]?)->OR (cx G (ρt++ρ.drop top) w') (ρt++ρ.drop top) (killO b.mv o0) r:=fun hr' hg=>by
    rw [hr0] at hr'; cases hr';rw [MR];exact hor0.map hcle hrd hg
   have fromRes:x<top->∀ o1,b.res[x]? = some o1->OR (cx G (ρt++ρ.drop top) w') (ρt++ρ.drop top) o1 r:=fun hx1 o1 ho1=>by
    rw [at1 x hx1] at hr;obtain ⟨r1,hr1,hor1⟩:=hRt.at_ ho1;rw [hr] at hr1; cases hr1;exact hor1.carry hcle2 hagr fun _ _=>rfl
   unfold RC.endO;rw [hbase,hres];split
   ·rename_i hn;refine fromRes hn.2 _ ?_;rw [List.getElem?_eq_getElem (by omega),gw (List.getElem?_eq_getElem (by omega))]
   rename_i hn;unfold RC.obj;split
   ·rename_i hchx;rw [hent];have hx1:=hch x hchx;refine fromRes (by omega) _ ?_;rw [List.getElem?_eq_getElem (by omega),gw (List.getElem?_eq_getElem (by omega))]
   rename_i hch;have hm:bQ x b.ch=false:=by rw [<- Bool.not_eq_true,bj]; exact hch
   by_cases hx1:x<m
   ·have hr':(ρ.take m)[x]? = some r0:=by rw [adj,if_pos hx1]; exact hr0
    have hp:=hS.pro x r0 (by simp [hm]) hr';rw [at1 x (by omega),hp.1] at hr; cases hr;exact stay hr0 hp.2
   have hx2:top<=x:=by omega
   rw [at2 x hx2] at hr;refine stay hr fun g hg=>(hblk g (h.R.bnd x r g hr hg).2.1 (hcn g ⟨x - top,r,?_,hg⟩).2).2;rw [adf,show top+(x - top)=x by omega]; exact hr
 ·intro i j r r' g h1 h2 h3 h4;by_cases hi:i<top <;> by_cases hj:j<top
  ·rw [at1 i hi] at h1; rw [at1 j hj] at h2;exact hRt.inj i j r r' g h1 h2 h3 h4
  ·rw [at1 i hi] at h1; rw [at2 j (by omega)] at h2;have hc:live (ρ.drop top) g:=⟨j - top,r',by rw [adf,show top+(j - top)=j by omega]; exact h2,h4⟩;exact absurd ⟨i,r,h1,h3⟩ (hblk g (hcn g hc).1 (hcn g hc).2).1
  ·rw [at2 i (by omega)] at h1; rw [at1 j hj] at h2;have hc:live (ρ.drop top) g:=⟨i - top,r,by rw [adf,show top+(i - top)=i by omega]; exact h1,h3⟩;exact absurd ⟨j,r',h2,h4⟩ (hblk g (hcn g hc).1 (hcn g hc).2).1
  rw [at2 i (by omega)] at h1; rw [at2 j (by omega)] at h2;exact h.R.inj i j r r' g h1 h2 h3 h4
 ·intro i r g h1 h2;by_cases hi:i<top
  ·rw [at1 i hi] at h1;have:=hRt.bnd i r g h1 h2;exact ⟨this.1,this.2.1,fun hz=>this.2.2 (.inl hz)⟩
  rw [at2 i (by omega)] at h1;have:=h.R.bnd i r g h1 h2;exact ⟨this.1,ac3 this.2.1 hext.size,this.2.2⟩
 ·have hi':=hro i (.inr hi);rw [at1 i (by omega)];exact hS.loc i r (by simp [hi]) (by rw [adj,if_pos hi']; exact hr)
 ·have hi':=hro i (.inl hi);rw [at1 i (by omega)];exact hS.pro i r (by simp [hi]) (by rw [adj,if_pos hi']; exact hr)
 by_cases h1:i<m
 ·rw [at1 i (by omega)];exact hS.bx i g (by rw [adj,if_pos h1]; exact hi)
 by_cases h2:i<top
 ·rw [h.mid (by omega) h2] at hi; cases hi
 rw [at2 i (by omega)]; exact hi
end
variable {w:World} {P:Program} {a:Act} {l:List Oper}
theorem acp {Q:Exit->Act->World->Prop} {id:Nat} (hm:P.follows .mixedOrders=true) {Inv:(Nat->Bool)->Act->World->Prop}
  (hlt:∀ i,∀ j ∈ bt l i,j<i) (hdef:∀ s a w,Inv s a w->a.defers=[])
  (hs:∀ s a w i o,Inv s a w->l[i]? = some o->s i=false->(∀ j ∈ bt l i,s j=true)->(∀ k,s k=true->∀ j ∈ bt l k,s j=true) ->
   IT P l.toArray (fun e a' w'=>e = .normal/\Inv (fun j=>s j || Nat.beq i j) a' w') [o] a w)
  (he:∀ s a w,Inv s a w->(∀ i,i<l.length->s i=true)->Q .normal a w) (h0:Inv (fun _=>false) a { w with drawn:=w.drawn+1 }):jS P (.region id l.toArray true) Q a w:=by
 intro ro ds;refine wpIn_region_any hm ?_;have main:∀ f (listed:Array Bool) a w,listed.size=l.length->(List.range l.length).countP (fun i=>!listed.getD i false)=f->(∀ k,listed.getD k false=true->∀ j ∈ bt l k,listed.getD j false=true)->Inv (fun i=>listed.getD i false) a w->wpAnyIn (gr ro) 0 P .any l.toArray (pD ds Q) f listed (iH a ds) w:=by
  intro f;induction f with
  | zero=>
   intro listed a w hsz hc hcl inv;have hall:∀ i,i<l.length->listed.getD i false=true:=fun i hi=>by
    have:=List.countP_eq_zero.1 hc i (List.mem_range.2 hi);simpa using this
   refine ⟨?_,a,hdef _ _ _ inv,rfl,he _ a w inv hall⟩;cases hr:Region.ready .any l.toArray listed with
   | nil=>rfl
   | cons i r=>
    obtain ⟨hun,o,ho,_⟩:=mem_ready.1 (show i ∈ Region.ready .any l.toArray listed by rw [hr]; simp);have hil:i<l.length:=by simpa using (afC.1 ho).1
    have:=hall i hil;rw [getD_both hun] at this; cases this
  | succ f ih=>
   intro listed a w hsz hc hcl inv;have hex:∃ i,i<l.length/\listed.getD i false=false/\∀ j,j<i->listed.getD j false=true:=by
    have h1:∃ i,i<l.length/\listed.getD i false=false:=by
     have:0<(List.range l.length).countP (fun i=>!listed.getD i false):=by omega
     obtain ⟨i,hi,hp⟩:=List.countP_pos_iff.1 this;exact ⟨i,List.mem_range.1 hi,by simpa using hp⟩
    obtain ⟨i,hi,hp⟩:=h1;have hmin:∀ m,∀ i,i<l.length->listed.getD i false=false->i<=m->∃ i,i<l.length/\listed.getD i false=false/\∀ j,j<i->listed.getD j false=true:=by
     intro m;induction m with
     | zero=>intro i hi hp him; exact ⟨i,hi,hp,fun j hj=>by omega⟩
     | succ m ihm=>
      intro i hi hp him;by_cases hlt:∃ j,j<i/\listed.getD j false=false
      ·obtain ⟨j,hj,hpj⟩:=hlt;exact ihm j aK hpj aK
      grind
    exact hmin i i hi hp (ac5 _)
   obtain ⟨m,hml,hmu,hmall⟩:=hex;have hready:m ∈ Region.ready .any l.toArray listed:=by
    refine mem_ready.2 ⟨getD_in (by rw [hsz]; exact hml) hmu,l[m],by simp [hml],fun e he hb=>?_⟩;exact hmall _ (hlt m e.on (by
     simp only [bt,List.getElem?_eq_getElem hml,fp,aho,ahz];exact ⟨e,⟨by simpa using he,hb⟩,rfl⟩))
   refine ⟨fun h0=>(by rw [h0] at hready; cases hready),fun i hi=>?_⟩;obtain ⟨hun,o,ho,hafter⟩:=mem_ready.1 hi;have ho':l[i]? = some o:=by simpa using ho
   have hil:i<l.length:=(aam.1 ho').1;have hun':listed.getD i false=false:=getD_both hun;have hpre:∀ k ∈ bt l i,listed.getD k false=true:=fun k hk=>by
    simp only [bt,ho',fp,aho,ahz] at hk;obtain ⟨e,⟨he,hb⟩,rfl⟩:=hk;exact hafter e (by simpa using he) hb
   have hw:=hs _ a w i o inv ho' hun' hpre hcl ro ds;have hset:∀ j,(listed.setIfInBounds i true).getD j false=(listed.getD j false || Nat.beq i j):=fun j=>by
    by_cases hj:j=i
    ·subst hj; simp [Array.getD,hsz,hil]
    have:Nat.beq i j=false:=by rw [<- Bool.not_eq_true,Nat.beq_eq]; exact fun e=>hj e.symm
    rw [getD_set_ne false (Ne.symm hj),this,Bool.or_false]
   have step:∀ v w2,(True/\Inv (fun j=>listed.getD j false || Nat.beq i j) (a.put o.dst v) w2)->wpAnyIn (gr ro) 0 P .any l.toArray (pD ds Q) f (listed.setIfInBounds i true) (iH (a.put o.dst v) ds) w2:=by
    intro v w2 ⟨_,hv⟩;refine ih _ _ _ (by simp [hsz]) ?_ ?_ ?_
    ·have:=countP_set (n:=l.length) (i:=i) (p:=fun j=>!listed.getD j false) (q:=fun j=>!(listed.setIfInBounds i true).getD j false) hil (by simp [hun']) (by simp [hset]) (fun j hj=>by
      have:Nat.beq i j=false:=by rw [<- Bool.not_eq_true,Nat.beq_eq]; exact fun e=>hj e.symm
      simp [hset,this])
     omega
    ·intro k hk j hj;rw [hset] at hk ⊢;rw [Bool.or_eq_true] at hk ⊢;rcases hk with hk | hk
     ·exact .inl (hcl k hk j hj)
     have:=abk hk;subst this; exact .inl (hpre j hj)
    have e:(fun j=>(listed.setIfInBounds i true).getD j false)=fun j=>(listed.getD j false || Nat.beq i j):=funext hset;rw [e]; exact hv
   have step':∀ v w2,pD ds (fun e a' w'=>e = .normal/\Inv (fun j=>listed.getD j false || Nat.beq i j) a' w') .normal ((iH a ds).put o.dst v) w2->wpAnyIn (gr ro) 0 P .any l.toArray (pD ds Q) f (listed.setIfInBounds i true) ((iH a ds).put o.dst v) w2:=fun v w2 ⟨a0,h0,e,h⟩=>by
    rw [rF] at e ⊢;rw [<- HT e (EI (hdef _ _ _ inv) _ _) h0] at h;exact step v w2 ⟨trivial,h.2⟩
   unfold wpOpIn;simp only [ho];simp only [wpListIn] at hw;try simp only [eq_self_iff_true] at hw
   by_cases hwant:Region.wanted o (yielded l.toArray (iH a ds).tmps)=true
   ·rw [if_pos hwant] at hw ⊢;unfold Oper.wpIn at hw ⊢;refine ⟨fun _ _=>trivial,yR hw.2 step' (fun d w2 ⟨a0,h0,e,h⟩=>?_) (fun e a w he ⟨_,_,_,h⟩=>he h.1)⟩;have:=congrArg Act.defers e;cases hd:o.dst <;> rw [hd] at this <;> simp [Act.put,iH] at this
   rw [if_neg hwant] at hw ⊢;exact ⟨fun _ _=>trivial,step' undef w hw.2⟩
 have hcount:(List.range l.length).countP (fun i=>!(Array.replicate l.toArray.size false).getD i false)=l.length:=by
  rw [List.countP_eq_length.2 (fun i _=>by rw [afS]; rfl),ahC]
 have:=main l.length (Array.replicate l.toArray.size false) a { w with drawn:=w.drawn+1 } (by simp) hcount (fun k hk=>by rw [afS] at hk; cases hk) (by
  have e:(fun i=>(Array.replicate l.toArray.size false).getD i false)=fun _=>false:=funext fun i=>afS _ _;rw [e]; exact h0)
 rw [show l.toArray.size=l.length by simp];exact this
theorem kS {m:Nat}:bitN m j=m.testBit j:=by
 rw [Nat.testBit_eq_decide_div_mod_eq];show Nat.beq ((m >>> j) &&& 1) 1=_;rw [Nat.and_one_is_mod,Nat.shiftRight_eq_div_pow];generalize m / 2 ^ j % 2=q;by_cases h:q=1
 ·simp_all
 rw [decide_eq_false h,<- Bool.not_eq_true,Nat.beq_eq]; exact h
theorem Sw {a b:Nat}:bitN (Nat.lor a b) j=(bitN a j || bitN b j):=by
 rw [kS,kS,kS];simp_all
theorem Pc:bitN (Nat.shiftLeft 1 k) j=true↔j=k:=by
 rw [kS];show (1 <<< k).testBit j=true↔_;rw [Nat.testBit_shiftLeft,Bool.and_eq_true,decide_eq_true_eq,Nat.testBit_one_eq_true_iff_self_eq_zero];omega
theorem Nc:bitN 0 j=false:=by rw [kS]; exact Nat.zero_testBit j
theorem nW {acc:List Nat} {j:Nat}:∀ {l:List Nat},bitN (hU acc l) j=true↔∃ k ∈ l,j=k\/bitN (acc.getD k 0) j=true
 | []=>by simp [hU,Nc]
 | k :: r=>by simp only [hU,Sw,Bool.or_eq_true,Pc,nW,ac4,or_and_right,exists_or,exists_eq_left]
theorem zf:∀ {l:List Oper} {acc:List Nat},(iD acc l).length=acc.length+l.length
 | [],_=>by simp [iD]
 | o :: r,acc=>by
  have:=zf (l:=r) (acc:=acc++[hU acc (fp o)]);simp only [iD,this];simp; omega
theorem rX:∀ {l:List Oper} {acc:List Nat} {k:Nat},k<acc.length->(iD acc l).getD k 0=acc.getD k 0
 | [],_,_,_=>rfl
 | o :: r,acc,k,h=>by
  simp only [iD];rw [rX (by simp; omega),List.getD_eq_getElem?_getD,List.getElem?_append_left h,List.getD_eq_getElem?_getD]
theorem pb:∀ {l:List Oper} {k:Nat},qg k l=true->∀ i,∀ j ∈ bt l i,j<k+i
 | o :: r,k,h,i,j,hj=>by
  simp only [qg,Bool.and_eq_true] at h;cases i with
  | zero=>exact gD.1 h.1 j (by simpa [bt] using hj)
  | succ i=>
   have:=pb h.2 i j (by simpa [bt] using hj);omega
theorem wI:∀ {l:List Oper} {acc:List Nat} {i:Nat},(∀ i,∀ j ∈ bt l i,j<acc.length+i)->i<l.length->(iD acc l).getD (acc.length+i) 0=hU (iD acc l) (bt l i)
 | o :: r,acc,0,hp,_=>by
  simp only [iD];have e:(iD (acc++[hU acc (fp o)]) r).getD (acc.length+0) 0=hU acc (fp o):=by
   rw [rX (by simp),List.getD_eq_getElem?_getD]; simp
  have hpa:bt (o :: r) 0=fp o:=rfl;have key:∀ l:List Nat,(∀ j ∈ l,j<acc.length)->hU acc l=hU (iD (acc++[hU acc (fp o)]) r) l:=by
   intro l;induction l with
   | nil=>intro _; rfl
   | cons k t ih=>
    intro hl;have hk:=hl k (by simp);simp only [hU];rw [ih fun j hj=>hl j (by simp [hj]),rX (show k<(acc++[hU acc (fp o)]).length by simp; omega)];grind
  grind
 | o :: r,acc,i+1,hp,hi=>by
  simp only [iD];have:=wI (l:=r) (acc:=acc++[hU acc (fp o)]) (i:=i) (fun k j hj=>by
   have:=hp (k+1) j (by simpa [bt] using hj);simp; omega) (by simpa using hi)
  simp only [List.length_append,List.length_singleton] at this;rw [show acc.length+(i+1)=acc.length+1+i by omega,this];simp [bt]
theorem sP {s:Nat->Bool} (hp:∀ i,∀ j ∈ bt l i,j<i) (hcl:∀ k,s k=true->∀ j ∈ bt l k,s j=true):∀ (n i:Nat),i<=n->i<l.length->(∀ j ∈ bt l i,s j=true)->∀ j,bitN ((iD [] l).getD i 0) j=true->s j=true:=by
 intro n;induction n with
 | zero=>
  intro i hi hl hpi j hb;have:=wI (acc:=[]) (fun i j hj=>by have:=hp i j hj; simp; omega) hl;simp only [List.length_nil,ac_] at this;rw [this,nW] at hb;grind
 | succ n ih=>
  intro i hi hl hpi j hb;have:=wI (acc:=[]) (fun i j hj=>by have:=hp i j hj; simp; omega) hl;simp only [List.length_nil,ac_] at this;rw [this,nW] at hb;grind
def iY (a:Act):Nat->Fr
 | 0=>[]
 | k+1=>(k,a.tmps.getD k undef) :: iY a k
theorem fM {a:Act} {t:Nat}:∀ {n:Nat},look (iY a n) t=if t<n then some (a.tmps.getD t undef) else none
 | 0=>rfl
 | k+1=>by
  simp only [iY,aM,fM];grind
variable {a':Act}
theorem WT (h:a.defers=[]) (h':a'.defers=[]) (hs:a.tmps.size=n) (hs':a'.tmps.size=n) (ht:∀ t,t<n->a'.tmps.getD t undef=a.tmps.getD t undef):a' = a:=by
 cases a with
 | mk t d=>
 cases a' with
 | mk t' d'=>
 simp only at h h' hs hs' ht;subst h; subst h';congr 1;refine Array.ext (by omega) fun i h1 h2=>?_;have:=ht i (by omega);simpa [Array.getD,h1,h2] using this
theorem Il (h:a.defers=[]) (hs:a.tmps.size=n):M n (iY a n) a:=⟨h,hs,fun i v hv=>by
 rw [fM] at hv;split at hv
 ·grind
 cases hv⟩
variable {u:Value}
theorem lp (hs:a.tmps.size=n) (ht:t<n):(a.put d u).tmps.getD t undef=if d=some t then u else a.tmps.getD t undef:=by
 cases d with
 | none=>simp [Act.put]
 | some d=>
  by_cases hd:d=t
  ·subst hd; simp [Act.put,hs,ht]
  have h2:¬ (some d=some t):=fun e=>hd (adb e);show (a.tmps.setIfInBounds d u).getD t undef=_;simp_all
theorem sZ (h:a.defers=[]) (hs:a.tmps.size=n) (hM:M n (iW d u (iY a n)) a'):a' = a.put d u:=by
 have hp:(a.put d u).defers=[]/\(a.put d u).tmps.size=n:=by cases d <;> simp [Act.put,h,hs]
 refine WT hp.1 hM.1 hp.2 hM.2.1 fun t ht=>?_;rw [lp hs ht];cases d with
 | none=>
  exact (hM.2.2 t (a.tmps.getD t undef) (by show look (iY a n) t=_; rw [fM,if_pos ht])).2
 | some d=>
  by_cases hd:d=t
  ·subst hd;rw [if_pos rfl];exact (hM.2.2 d u (by show look ((d,u) :: iY a n) d=_; rw [aM,if_pos rfl])).2
  rw [if_neg (fun e=>hd (adb e))];exact (hM.2.2 t (a.tmps.getD t undef) (by show look ((d,u) :: iY a n) t=_; rw [aM,if_neg hd,fM,if_pos ht])).2
theorem ez.sub {F F':Fr} {op:Op} {ty:TypeId} {φ:Value->World->Prop} (h:∀ a,M n F' a->M n F a) (k:ez P n F w op ty φ):ez P n F' w op ty φ:=by
 rcases k with (⟨v,w',h1,h2⟩ | ⟨f,args,h1,h2⟩) | ⟨h0,w',h1,h2⟩
 ·exact .inl (.inl ⟨v,w',fun a d pos af g ha=>h1 a d pos af g (h a ha),h2⟩)
 ·exact .inl (.inr ⟨f,args,fun a d pos af g ha=>h1 a d pos af g (h a ha),h2⟩)
 exact .inr ⟨h0,w',fun a d pos af g ha=>h1 a d pos af g (h a ha),h2⟩
section
variable {P:Program} {n:Nat} {l:List Oper} {a:Act} {w:World}
variable {Q:Exit->Act->World->Prop} {o:Oper}
theorem Fh (h:a.defers=[]) (hs:a.tmps.size=n) {F:Fr} (hF:∀ i v,look F i=some v->i<n/\a.tmps.getD i undef=v) {Φ:Value->World->Prop} (hy:ez P n F w o.op o.type Φ) (hd:∀ d,o.dst=some d->Nat.blt d n=true) (hst:isSt o.op=true->o.dst=none)
  (hg:∀ j wt,o.guard=some (j,wt)->∃ t,idst l j=some t/\t<n/\a.tmps.getD t undef = .bool wt) (hQ:∀ u w',Φ u w' -> Q .normal (a.put o.dst u) w'):IT P l.toArray Q [o] a w:=by
 have hM:=Il h hs;have hy':=ez.sub (F':=iY a n) (fun a' ha=>⟨ha.1,ha.2.1,fun i v hv=>by
  obtain ⟨h1,h2⟩:=hF i v hv;have:=(ha.2.2 i (a.tmps.getD i undef) (by rw [fM,if_pos h1])).2;exact ⟨h1,this.trans h2⟩⟩) hy
 obtain ⟨dst,op,ty,pos,af,g⟩:=o;have main:WO P Q n l [⟨dst,op,ty,pos,af,none⟩] (iY a n) w:=by
  rcases hy' with hy' | ⟨h0,w',h1,h2⟩
  ·exact WO.y hy' hd fun v w' hv=>WO.nil fun a' ha'=>by rw [sZ h hs ha']; exact hQ _ _ hv
  obtain rfl:=hst h0;exact WO.s h1 (WO.nil fun a' ha'=>by
   have e:=sZ (d:=none) (u:=undef) h hs ha';rw [e]; exact hQ _ _ h2)
 cases g with
 | none=>exact main a hM
 | some g=>
  obtain ⟨j,wt⟩:=g;obtain ⟨t,h1,h2,h3⟩:=hg j wt rfl;exact WO.on h1 (by rw [fM,if_pos h2,h3]) rfl main a hM
theorem Nx (h:a.defers=[]) (hs:a.tmps.size=n) (hd:∀ d,o.dst=some d->Nat.blt d n=true) {wt:Bool} (hg:o.guard=some (j,wt)) (ht:idst l j=some t) (htn:t<n) (hv:a.tmps.getD t undef = .bool (!wt)\/a.tmps.getD t undef=undef) (hQ:Q .normal (a.put o.dst undef) w):IT P l.toArray Q [o] a w:=by
 have hM:=Il h hs;obtain ⟨dst,op,ty,pos,af,g⟩:=o;subst hg;have hl:look (iY a n) t=some (a.tmps.getD t undef):=by rw [fM,if_pos htn]
 have fin:WO P Q n l [] (iW dst undef (iY a n)) w:=WO.nil fun a' ha'=>by rw [sZ h hs ha']; exact hQ
 cases dst with
 | some d=>
  rcases hv with hv | hv
  ·exact WO.off ht (by rw [hl,hv]) rfl (hd d rfl) fin a hM
  exact WO.Wd ht (by rw [hl,hv]) (hd d rfl) fin a hM
 | none=>
  have fin:WO P Q n l [] (iY a n) w:=fin;rcases hv with hv | hv
  ·exact WO.abx ht (by rw [hl,hv]) rfl fin a hM
  exact WO.TJ ht (by rw [hl,hv]) fin a hM
end
def RunOK (P:Program) (shp:TypeId->Option Sh) (n:Nat) (ro:Lv) (o:Oper) (r:RC):Prop:=∀ (G:Gl) (ρ:List RE) (w:World) (F:Fr),G.shp=shp->Rep G ρ (maskH r.σ 0 r.H0) w->FrR (cx G ρ w) ρ (cY r.fr0 r.U) F->(∀ p ∈ r.ob,p) ->
 ez P n F w o.op o.type fun u w'=>∃ ρ',Stp ⟨fun i=>bQ i r.ch && ro.wr i,fun i=>bQ i r.mv && ro.mv i⟩ ρ w ρ' w' /\ Rep G ρ' r.res w' /\ Rt (cx G ρ' w') ρ' r.v u/\∀ p ∈ r.fc,p
def EntOK (P:Program) (shp:TypeId->Option Sh) (n:Nat) (ro:Lv) (o:Oper) (r:RC) (e:Ent) (p:Nat):Prop:=∀ (G:Gl) (ρ:List RE) (w:World) (F:Fr) (S:AH),G.shp=shp->Rep G ρ S w->FrR (cx G ρ w) ρ (cY r.fr0 r.U) F->(S[p]?).map kd=(r.H0[p]?).map kd ->
 ∃ w',gG P n F w o.op o.type w' /\ Rep G ρ (S.set p (e.put (getO S p))) w' /\ Stp ro ρ w ρ w'
structure RcOK (P:Program) (shp:TypeId->Option Sh) (n:Nat) (ro:Lv) (l:List Oper) (rs:List RC) (o:Oper) (i:Nat) (r:RC):Prop where
 dst:r.dst=o.dst
 dn:∀ d,o.dst=some d->Nat.blt d n=true
 st:r.on=true->isSt o.op=true->o.dst=none
 run:r.on=true->(r.ent=none/\RunOK P shp n ro o r)\/∃ e p,r.ent=some e/\r.ch=[p]/\r.mv=[]/\r.v = .un/\r.fc=[]/\r.res.length=r.base/\isSt o.op=true/\EntOK P shp n ro o r e p
 off:r.on=false->r.ch=[]/\r.mv=[]/\r.σ=[]/\r.res=maskH [] 0 r.H0/\r.ent=none/\r.v = .un/\r.fc=[]
 gd:(o.guard=none/\r.on=true)\/∃ j wt t,o.guard=some (j,wt)/\idst l j=some t/\t ∈ r.U/\((∃ rj,rs[j]? = some rj/\j<i/\rj.on=false/\r.on=false)\/∃ b,lookA r.fr0 t=some (one (.bool (.lit b)))/\r.on=(b == wt))
theorem NP {a:RC} (h:okI a b=true):okI b a=true:=by
 have hd:disj a.ch b.ch=true->disj b.ch a.ch=true:=fun h=>cn.2 fun i hi hb=>cn.1 h i hb hi;unfold okI at h ⊢;grind
theorem zD {m:Nat} {b:RC}:∀ {l:List RC} {k:Nat},Ff m b k l=true->∀ i a,l[i]? = some a->bitN m (k+i)=true\/(OkD a b/\OkD b a/\okI a b=true)
 | [],_,_,i,a,h=>by simp at h
 | x :: r,k,h,i,a,ha=>by
  simp only [Ff,Bool.and_eq_true,Bool.or_eq_true] at h;cases i with
  | zero=>
   simp at ha; subst ha;exact h.1.imp id fun ⟨⟨h1,h2⟩,h3⟩=>⟨DO h1,DO h2,h3⟩
  | succ i=>
   have:=zD h.2 i a (by simpa using ha);grind
theorem uJ {b:RC}:∀ {l:List RC},vW b l=true->∀ a ∈ l,∀ d,a.dst=some d->b.dst≠some d
 | [],_,a,h,_,_=>by simp at h
 | x :: r,h,a,ha,d,hd=>by
  simp only [vW,Bool.and_eq_true] at h;rcases ac4.1 ha with rfl | ha
  ·intro hb;simp_all
  exact uJ h.2 a ha d hd
structure OkAt (bef:List Nat) (j:Nat) (b:RC) (done:List RC):Prop where
 fit:b.Fit
 U:∀ i ∈ slotIds b.fr0 b.U,i<b.base
 σ:∀ i ∈ objIds b.H0 b.σ,i<b.base
 σb:∀ i ∈ b.σ,i<b.base
 ch:∀ i ∈ b.ch,i<b.base
 row:∀ i a,done[i]? = some a->bitN (bef.getD j 0) i=true\/(OkD a b/\OkD b a/\okI a b=true)
 dst:∀ a ∈ done,∀ d,a.dst=some d->b.dst≠some d
theorem EH {bef:List Nat}:∀ {rest done:List RC} {j:Nat},done.length=j->Cu bef j done rest=true->∀ i b,rest[i]? = some b->OkAt bef (j+i) b ((done++rest).take (j+i))
 | [],_,_,_,_,i,b,h=>by simp at h
 | x :: r,done,j,hl,h,i,b,hb=>by
  simp only [Cu,Bool.and_eq_true] at h;obtain ⟨⟨⟨⟨⟨⟨⟨⟨⟨h1,h2⟩,h3⟩,h4⟩,h4b⟩,h5⟩,h6⟩,h7⟩,h8⟩,h9⟩:=h;cases i with
  | zero=>
   simp at hb; subst hb;have e:(done++x :: r).take (j+0)=done:=by rw [ahk,<- hl]; simp
   rw [e,ahk];exact ⟨⟨abk h1,adl h2⟩,gD.1 h3,gD.1 h4,gD.1 h4b,gD.1 h5,fun i a ha=>by
    have:=zD h8 i a ha;rwa [ac_] at this,uJ h6⟩
  | succ i=>
   have:=EH (rest:=r) (done:=done++[x]) (j:=j+1) (by simp [hl]) h9 i b (by simpa using hb);rw [show j+1+i=j+(i+1) by omega] at this;simpa using this
section
variable {P:Program} {T:List (Nat × TI)} {shp:TypeId->Option Sh} {n:Nat} {ro:Lv} {l:List Oper}
def FrA (c:Cx) (ρ:List RE) (n:Nat) (fr:AFr) (a:Act):Prop:=∀ t v,lookA fr t=some v->t<n/\Rt c ρ v (a.tmps.getD t undef)
def QL (G:Gl) (ro:Lv) (ρ0:List RE) (w0:World) (n:Nat) (q0:AFr × AH) (rs:List RC) (s:Nat->Bool) (a:Act) (w:World):Prop:=
 ∃ ρ,Stp ro ρ0 w0 ρ w/\Rep G ρ (iJ s 0 rs q0).2 w/\FrA (cx G ρ w) ρ n (iJ s 0 rs q0).1 a/\a.defers=[]/\a.tmps.size=n/\∀ k r,rs[k]? = some r->s k=true->(∀ p ∈ r.fc,p)/\(r.on=false->∀ d,r.dst=some d->a.tmps.getD d undef=undef)
def yf (a:Act):AFr->Fr
 | []=>[]
 | (t,_) :: r=>(t,a.tmps.getD t undef) :: yf a r
theorem oo {a:Act} {t:Nat} {v:Value}:∀ {fr:AFr},look (yf a fr) t=some v->v=a.tmps.getD t undef/\∃ tv,lookA fr t=some tv
 | (i,x) :: r,h=>by
  simp only [yf,aM] at h;rw [cZ];by_cases hi:i=t
  ·simp_all
  rw [if_neg hi] at h ⊢; exact oo h
theorem jA {fr:AFr} {t:Nat} {tv:TV}:∀ {U:List Nat},lookA (cY fr U) t=some tv->t ∈ U/\lookA fr t=some tv
 | u :: r,h=>by
  simp only [cY] at h;split at h
  ·rename_i v hv;rw [cZ] at h;by_cases hi:u=t
   ·grind
   rw [if_neg hi] at h;obtain ⟨h1,h2⟩:=jA h; exact ⟨by simp [h1],h2⟩
  obtain ⟨h1,h2⟩:=jA h; exact ⟨by simp [h1],h2⟩
theorem lr {fr:AFr} {q:Nat × TV}:∀ {U:List Nat},q ∈ cY fr U->q.1 ∈ U/\lookA fr q.1=some q.2
 | u :: r,h=>by
  simp only [cY] at h;split at h
  ·rename_i v hv;rcases ac4.1 h with rfl | h
   ·grind
   obtain ⟨h1,h2⟩:=lr h; exact ⟨by simp [h1],h2⟩
  obtain ⟨h1,h2⟩:=lr h; exact ⟨by simp [h1],h2⟩
theorem pQ {c:Cx} {ρ:List RE} {a:Act}:∀ {fr:AFr},(∀ q ∈ fr,Rt c ρ q.2 (a.tmps.getD q.1 undef))->FrR c ρ fr (yf a fr)
 | [],_=>.nil
 | (t,v) :: r,h=>.cons ⟨rfl,h (t,v) (by simp)⟩ (pQ fun q hq=>h q (by simp [hq]))
theorem mC (h:a.defers=[]) (hs:a.tmps.size=n):(a.put d u).defers=[]/\(a.put d u).tmps.size=n:=by cases d <;> simp [Act.put,h,hs]
theorem FV {v:TV}:killTV mv v=v.mapA (AV.bY mv):=by
 cases mv with
 | cons _ _=>rfl
 | nil=>
  have e:∀ a:AV,a.bY []=a:=fun a=>gb (by simp);cases v with
  | one t=>exact congrArg TV.one (sf fun a _=>e a).symm
  | tup l=>exact congrArg TV.tup (wB fun t _ a _=>e a).symm
  | un=>rfl
theorem Rt.Jv {c c':Cx} {ρ':List RE} (hg:∀ a v,Rd c ρ a v->Rd c' ρ' (AV.bY mv a) v) {t:TV} {v:Value} (h:Rt c ρ t v):Rt c' ρ' (killTV mv t) v:=by
 rw [FV];cases t with
 | one t=>exact vJ hg h
 | tup l=>obtain ⟨vs,e,h⟩:=h; exact ⟨vs,e,DT hg h⟩
 | un=>trivial
theorem Rep.q {G:Gl} {A B:AH} (h:Rep G ρ A w) (hl:B.length=A.length) (hq:∀ x:Nat,OOq (B[x]?) (A[x]?)):Rep G ρ B w:=by
 refine ⟨cg (by rw [hl]; exact h.obj.length) fun x o r ho hr=>?_,h.inj,h.bnd,h.z,h.b0,h.tb⟩;have:=hq x;rw [ho] at this;cases hA:A[x]? with
 | none=>rw [hA] at this; cases this
 | some o'=>
  rw [hA] at this;cases this with
  | some hh=>
   obtain ⟨r',hr',hor⟩:=h.at_ hA;rw [hr] at hr'; cases hr';exact hh.symm.or hor
theorem Dm {c:Cx} {b:Bool} {v:Value} (h:Rt c ρ (one (.bool (.lit b))) v):v = .bool b:=by
 cases h; rfl
variable {G:Gl} {ρ0:List RE} {w0:World} {q0:AFr × AH} {rs:List RC}
theorem Om (hG:G.shp=shp) (hro:∀ i,ro.wr i=false\/ro.mv i=false->i<ρ0.length) (hq0:∀ i,i<ρ0.length->(ro.wr i=false\/ro.mv i=false)->i<q0.2.length) (hp:∀ i,∀ j ∈ bt l i,j<i) (hc:fD q0 rs) (hok:Cu (iD [] l) 0 [] rs=true) (hlen:rs.length=l.length) (hrc:∀ i o r,l[i]? = some o->rs[i]? = some r->RcOK P shp n ro l rs o i r)
  (hob:∀ i r,rs[i]? = some r->(∀ j r',rs[j]? = some r' -> bitN ((iD [] l).getD i 0) j=true->∀ p ∈ r'.fc,p)->∀ p ∈ r.ob,p)
  {s:Nat->Bool} {o:Oper} (inv:QL G ro ρ0 w0 n q0 rs s a w) (ho:l[i]? = some o) (hsi:s i=false) (hpre:∀ j ∈ bt l i,s j=true) (hcl:∀ k,s k=true->∀ j ∈ bt l k,s j=true) :
  IT P l.toArray (fun e a' w'=>e = .normal/\QL G ro ρ0 w0 n q0 rs (fun j=>s j || Nat.beq i j) a' w') [o] a w:=by
 obtain ⟨ρ,hS,hR,hf,hdf,hsz,hfc⟩:=inv;have hil:i<l.length:=(aam.1 ho).1;obtain ⟨b,hb⟩:∃ b,rs[i]? = some b:=⟨_,List.getElem?_eq_getElem (by omega)⟩;have hbo:=hrc i o b ho hb;have okAt:∀ j r,rs[j]? = some r->OkAt (iD [] l) j r (rs.take j):=fun j r hr=>by
  have:=EH (done:=[]) rfl hok j r hr;simpa using this
 have hbk:=okAt i b hb;have hbits:∀ j,bitN ((iD [] l).getD i 0) j=true->s j=true:=sP hp hcl i i (ac5 _) hil hpre
 -- what comes ahead,and behind
 have hbefore:∀ j r,rs[j]? = some r->j<i->s j=true\/(OkD b r/\OkD r b/\okI b r=true):=fun j r hr hj=>by
  rcases hbk.row j r (by rw [adj,if_pos hj]; exact hr) with h | ⟨h1,h2,h3⟩
  ·exact .inl (hbits j h)
  exact .inr ⟨h2,h1,NP h3⟩
 have hbehind:∀ j r,rs[j]? = some r->i<j->s j=false\/(OkD b r/\OkD r b/\okI b r=true):=fun j r hr hj=>by
  cases hsj:s j with
  | false=>exact .inl rfl
  | true=>
   right;rcases (okAt j r hr).row i b (by rw [adj,if_pos hj]; exact hb) with h | ⟨h1,h2,h3⟩
   ·have hjl:j<l.length:=by rw [<- hlen]; exact (aam.1 hr).1
    have:=sP hp hcl j j (ac5 _) hjl (hcl j hsj) i h;rw [hsi] at this; cases this
   exact ⟨h1,h2,h3⟩
 have hdsts:∀ j r,rs[j]? = some r->i≠j->∀ d,b.dst=some d->r.dst≠some d:=fun j r hr hj d hd=>by
  rcases Nat.lt_or_gt_of_ne hj with h | h
  ·exact (okAt j r hr).dst b (ada (by rw [adj,if_pos h]; exact hb)) d hd
  intro hrd;exact hbk.dst r (ada (by rw [adj,if_pos h]; exact hr)) d hrd hd
 -- the list of records,parted
 have hrs:rs=rs.take i++b :: rs.drop (i+1):=by
  have h1:=(aam.1 hb);obtain ⟨h1,h2⟩:=h1;rw [<- h2,<- adz h1,List.take_append_drop]
 have hti:(rs.take i).length=i:=by
  have:=(aam.1 hb).1;simp; omega
 generalize hpreD:rs.take i=pre at hrs hti;generalize hpostD:rs.drop (i+1)=post at hrs;have hpre_at:∀ j r,pre[j]? = some r->rs[j]? = some r/\j<i:=fun j r h=>by
  have hj:=(aam.1 h).1;rw [<- hpreD,adj] at h;split at h
  ·exact ⟨h,‹_›⟩
  cases h
 have hpost_at:∀ j r,post[j]? = some r->rs[i+1+j]? = some r:=fun j r h=>by
  rw [<- hpostD,adf] at h; exact h
 have hcp:fD q0 pre/\fD (prg pre q0) (b :: post):=by rw [hrs] at hc; exact fD.Nj.1 hc
 obtain ⟨hc1,hb1,hb2,hbf,hc2⟩:=hcp;have hbase:b.base=(prg pre q0).2.length:=by rw [<- hb2]; exact hbf.base
 have hst:∀ s',iJ s' 0 rs q0=iJ s' (i+1) post (bif s' i then b.app (iJ s' 0 pre q0) else b.FD (iJ s' 0 pre q0)):=fun s'=>by
  rw [hrs,DL,hti,ac_]; rfl
 have hl1:(iJ s 0 pre q0).2.length=b.base:=by rw [hbase]; exact v_ hc1 rfl
 have hag:Agr b (iJ s 0 pre q0) (prg pre q0):=Eb hc1 (fun j r hr=>by
  rw [ac_];obtain ⟨h1,h2⟩:=hpre_at j r hr;exact (hbefore j r h1 h2).imp id fun ⟨h3,_,h4⟩=>⟨h3,h4⟩) ⟨rfl,fun _ _=>rfl,fun _ _=>rfl,fun _ _=>rfl⟩
 have hgb:AgrB b (iJ s 0 rs q0):=by
  rw [hst s,hsi,cond_false];refine yk hbf hc2 (by rw [bT hbf hbase.symm]; exact ac5 _) ((gv hbf hl1).trans (bT hbf hbase.symm).symm) (fun j r hr=>(hbehind _ r (hpost_at j r hr) (by omega)).imp id fun ⟨h3,_,h4⟩=>⟨h3,h4⟩) ?_;refine ⟨fun x hx hlt=>?_,fun x hx hlt=>?_,fun t ht=>?_,fun x hx hlt=>?_⟩
  ·rw [gQ hbf hl1,if_pos hlt,hag.ob x hx,hb2]
  ·rw [gQ hbf hl1,if_pos hlt,hag.kd x hx,hb2]
  ·show lookA (iJ s 0 pre q0).1 t=_;rw [hag.sl t ht,hb1]
  rw [gQ hbf hl1,if_neg (by omega),if_pos hlt]
 have hrel:Rel b (iJ (fun j=>s j || Nat.beq i j) 0 rs q0) (iJ s 0 rs q0):=by
  rw [hst s,hst (fun j=>s j || Nat.beq i j),hsi,cond_false];have e1:(false || Nat.beq i i)=true:=by simp
  rw [e1,cond_true];have ne:∀ j,j≠i->(s j || Nat.beq i j)=s j:=fun j hj=>by
   have:Nat.beq i j=false:=by rw [<- Bool.not_eq_true,Nat.beq_eq]; exact fun e=>hj e.symm
   rw [this,Bool.or_false]
  have e2:iJ (fun j=>s j || Nat.beq i j) 0 pre q0=iJ s 0 pre q0:=oy fun j _ hj=>ne j (by omega);have e3:∀ q,iJ (fun j=>s j || Nat.beq i j) (i+1) post q=iJ s (i+1) post q:=fun q=>oy fun j hj _=>ne j (by omega);rw [e2,e3];refine DS hbf hbk.ch hc2 (by rw [bT hbf hbase.symm]; exact ac5 _) ((gv hbf hl1).trans (bT hbf hbase.symm).symm) (fun j r hr=>⟨hbehind _ r (hpost_at j r hr) (by omega),hdsts _ r (hpost_at j r hr) (by omega)⟩) (Hq hbf hl1)
 have hSl:b.res.length<=(iJ s 0 rs q0).2.length:=by
  have h1:(iJ s 0 rs q0).2.length=(prg rs q0).2.length:=v_ hc rfl;rw [h1,hrs,wm];have:=Bw hc2;rw [bT hbf hbase.symm] at this;exact this
 have hge:q0.2.length<=b.base:=by rw [hbase]; exact Bw hc1
 generalize hq:iJ s 0 rs q0=q at hR hf hgb hrel hSl;generalize hq':iJ (fun j=>s j || Nat.beq i j) 0 rs q0=q' at hrel;have part:Part G ρ q.2 w b.base b.res.length:=⟨hR,hbf.le,hSl,hgb.gn⟩
 -- what is masked
 have hmask:maskH b.σ 0 (q.2.take b.base)=maskH b.σ 0 b.H0:=by
  refine List.ext_getElem? fun x=>?_;rw [ny,ny,adj,ac_];by_cases hx:x<b.base
  ·rw [if_pos hx];by_cases hm:x ∈ b.σ
   ·rw [hgb.ob x hm hx]
   simp only [if_neg hm];have h1:x<q.2.length:=by have:=hbf.le; omega
   have h2:x<b.H0.length:=by have:=hbf.base; omega
   rw [List.getElem?_eq_getElem h1,List.getElem?_eq_getElem h2]; rfl
  rw [if_neg hx,List.getElem?_eq_none (l:=b.H0) (by have:=hbf.base; omega)]
 have hσids:∀ x ∈ b.σ,∀ k ∈ (getO q.2 x).ids,k<b.base:=fun x hx k hk=>by
  have:=hgb.ob x hx (hbk.σb x hx);have e:getO q.2 x=getO b.H0 x:=by unfold getO; rw [List.getD_eq_getElem?_getD,List.getD_eq_getElem?_getD,this]
  rw [e] at hk;exact hbk.σ k (sk hk hx)
 have hslot:∀ t ∈ b.U,∀ v,lookA b.fr0 t=some v->t<n/\Rt (cx G ρ w) ρ v (a.tmps.getD t undef):=fun t ht v hv=>hf t v (by rw [hgb.sl t ht]; exact hv);have hslotIds:∀ t ∈ b.U,∀ v,lookA b.fr0 t=some v->∀ k ∈ v.ids,k<b.base:=fun t ht v hv k hk=>hbk.U k (px hv hk ht);have hro':∀ k,ro.wr k=false\/ro.mv k=false->k<b.base:=fun k hk=>ac3 (hq0 k (hro k hk) hk) hge
 -- the guard's slot
 have hgs:∀ j wt t,o.guard=some (j,wt)->idst l j=some t->t ∈ b.U->∀ c,lookA b.fr0 t=some (one (.bool (.lit c)))->t<n/\a.tmps.getD t undef = .bool c:=fun j wt t _ _ ht c hc=>by
  obtain ⟨h1,h2⟩:=hslot t ht _ hc;exact ⟨h1,Dm h2⟩
 -- behind it
 have clause:∀ u k r,rs[k]? = some r->k≠i->s k=true->(∀ p ∈ r.fc,p)/\(r.on=false->∀ d,r.dst=some d->(a.put o.dst u).tmps.getD d undef=undef):=fun u k r hr hk hsk=>by
  obtain ⟨h1,h2⟩:=hfc k r hr hsk;refine ⟨h1,fun hoff d hd=>?_⟩;have hkl:k<l.length:=by rw [<- hlen]; exact (aam.1 hr).1
  have hrk:=hrc k _ r (List.getElem?_eq_getElem hkl) hr;have hdn:d<n:=by have:=hrk.dn d (by rw [<- hrk.dst]; exact hd); exact Nat.blt_eq.mp this
  rw [lp hsz hdn,if_neg (fun e=>hdsts k r hr (Ne.symm hk) d (by rw [hbo.dst]; exact e) hd)];exact h2 hoff d hd
 have hsne:∀ k,(s k || Nat.beq i k)=true->k≠i->s k=true:=fun k hk hne=>by
  have:Nat.beq i k=false:=by rw [<- Bool.not_eq_true,Nat.beq_eq]; exact fun e=>hne e.symm
  rwa [this,Bool.or_false] at hk
 have fin:∀ u w' ρt,b.ent=none->Stp ⟨fun i=>bQ i b.ch && ro.wr i,fun i=>bQ i b.mv && ro.mv i⟩ (ρ.take b.base) w ρt w' -> Rep (Gz G (ρ.drop b.res.length)) ρt b.res w' -> Rt (cx (Gz G (ρ.drop b.res.length)) ρt w') ρt b.v u->(∀ p ∈ b.fc,p)->(b.on=false->u=undef)->QL G ro ρ0 w0 n q0 rs (fun j=>s j || Nat.beq i j) (a.put o.dst u) w':=by
  intro u w' ρt hent pF hRt hv hfcb hoff;obtain ⟨k1,k2,k3,k4⟩:=part.merge rfl rfl hent hbk.ch hro' pF hRt hrel.len hrel.ob;refine ⟨_,hS.trans k2,by rw [hq']; exact k1,fun t v hv'=>?_,(mC hdf hsz).1,(mC hdf hsz).2,fun k r hr hsk=>?_⟩
  ·rw [hq',hrel.sl t] at hv';unfold RC.endF at hv';by_cases hd:b.dst=some t
   ·rw [if_pos hd] at hv';cases hv';rw [hbo.dst] at hd;have htn:t<n:=Nat.blt_eq.mp (hbo.dn t hd);rw [lp hsz htn,if_pos hd];exact ⟨htn,k4 _ _ hv⟩
   rw [if_neg hd,adg] at hv';obtain ⟨v0,h1,rfl⟩:=hv';obtain ⟨h2,h3⟩:=hf t v0 h1;rw [hbo.dst] at hd;rw [lp hsz h2,if_neg hd];exact ⟨h2,h3.Jv k3⟩
  by_cases hk:k=i
  ·subst hk;rw [hb] at hr; cases hr;refine ⟨hfcb,fun ho' d hd=>?_⟩;rw [hbo.dst] at hd;rw [lp hsz (Nat.blt_eq.mp (hbo.dn d hd)),if_pos hd];exact hoff ho'
  exact clause u k r hr hk (hsne k hsk hk)
 cases hon:b.on with
 | false=>
  obtain ⟨e1,e2,e3,e4,e5,e6,e7⟩:=hbo.off hon;rcases hbo.gd with ⟨_,h2⟩ | ⟨j,wt,t,hg,ht,htU,hcase⟩
  ·rw [hon] at h2; cases h2
  have htv:t<n/\(a.tmps.getD t undef = .bool (!wt)\/a.tmps.getD t undef=undef):=by
   rcases hcase with ⟨rj,hrj,hji,hoffj,_⟩ | ⟨c,hc,hb2⟩
   ·have hjl:j<l.length:=by omega
    have hrcj:=hrc j _ rj (List.getElem?_eq_getElem hjl) hrj;have hdj:rj.dst=some t:=by
     rw [hrcj.dst];have:=ht;rw [jK,List.getElem?_eq_getElem hjl] at this;exact this
    have hsj:s j=true:=by
     rcases hbefore j rj hrj hji with h | ⟨h,_,_⟩
     ·exact h
     exact absurd htU (h.dst t hdj)
    exact ⟨Nat.blt_eq.mp (hrcj.dn t (by rw [<- hrcj.dst]; exact hdj)),.inr ((hfc j rj hrj hsj).2 hoffj t hdj)⟩
   obtain ⟨h1,h2⟩:=hgs j wt t hg ht htU c hc;refine ⟨h1,.inl ?_⟩;rw [h2];rw [hon] at hb2;cases c <;> cases wt <;> simp at hb2 ⊢
  refine Nx hdf hsz hbo.dn hg ht htv.1 htv.2 ⟨rfl,fin undef w (ρ.take b.base) e5 (Stp.refl _ _ _) ?_ (by rw [e6]; trivial) (by rw [e7]; simp) fun _=>rfl⟩;have key:maskH b.σ 0 (q.2.take b.base)=b.res:=by rw [hmask,e3,e4]
  have hm:=part.mask hσids;rw [key] at hm;exact hm
 | true=>
  have hg:∀ j wt,o.guard=some (j,wt)->∃ t,idst l j=some t/\t<n/\a.tmps.getD t undef = .bool wt:=fun j wt hgd=>by
   rcases hbo.gd with ⟨h1,_⟩ | ⟨j',wt',t,hg,ht,htU,hcase⟩
   ·rw [hgd] at h1; cases h1
   rw [hgd] at hg; cases hg;rcases hcase with ⟨_,_,_,_,h⟩ | ⟨c,hc,hb2⟩
   ·rw [hon] at h; cases h
   obtain ⟨h1,h2⟩:=hgs j wt t hgd ht htU c hc;refine ⟨t,ht,h1,?_⟩;rw [h2];rw [hon] at hb2;cases c <;> cases wt <;> simp at hb2 ⊢
  have hF:∀ k v,look (yf a (cY b.fr0 b.U)) k=some v->k<n/\a.tmps.getD k undef=v:=fun k v hk=>by
   obtain ⟨h1,tv,h2⟩:=oo hk;obtain ⟨h3,h4⟩:=jA h2;exact ⟨(hslot k h3 tv h4).1,h1.symm⟩
  rcases hbo.run hon with ⟨hent,hrun⟩ | ⟨e,p,hent,hch,hmv,hv,hfcb,hres,hst2,hrun⟩
  ·have hy:=hrun (Gz G (ρ.drop b.res.length)) (ρ.take b.base) w (yf a (cY b.fr0 b.U)) hG (by rw [<- hmask]; exact part.mask hσids) (pQ fun x hx=>by
    obtain ⟨h1,h2⟩:=lr hx;refine (hslot _ h1 _ h2).2.on part.cle fun k hk r hr _=>?_;rw [adj,if_pos (hslotIds _ h1 _ h2 k hk)]; exact hr) (hob i b hb fun j r' hr' hbit=>(hfc j r' hr' (hbits j hbit)).1)
   exact Fh hdf hsz hF hy hbo.dn (hbo.st hon) hg fun u w' ⟨ρt,h1,h2,h3,h4⟩=>⟨rfl,fin u w' ρt hent h1 h2 h3 h4 fun h=>by rw [hon] at h; cases h⟩
  have hpb:p<b.base:=hbk.ch p (by rw [hch]; simp);obtain ⟨w',h1,h2,h3⟩:=hrun G ρ w (yf a (cY b.fr0 b.U)) q.2 hG hR (pQ fun x hx=>by
   obtain ⟨h1,h2⟩:=lr hx;exact (hslot _ h1 _ h2).2) (hgb.kd p (by rw [hch]; simp) hpb)
  have hdst:=hbo.st hon hst2;refine Fh (Φ:=fun u x=>u=undef/\x=w') hdf hsz hF (.inr ⟨hst2,w',h1,rfl,rfl⟩) hbo.dn (hbo.st hon) hg fun u x ⟨_,hx⟩=>?_;subst hx;have hle:=h3.ext.le hR.lo;refine ⟨rfl,ρ,hS.trans h3,?_,fun t v hv'=>?_,(mC hdf hsz).1,(mC hdf hsz).2,fun k r hr hsk=>?_⟩
  ·rw [hq'];refine h2.q (by rw [adn]; exact hrel.len) fun x=>?_;have:=hrel.ob x;have hpl:p<q.2.length:=by omega
   by_cases hxp:x=p
   ·subst hxp;rw [adh hpl];rw [List.getElem?_eq_getElem hpl,Option.map_some,RC.endO,if_neg (by omega),RC.obj,if_pos (by rw [hch]; simp),hent] at this;rw [gw (List.getElem?_eq_getElem hpl)];exact this
   rw [List.getElem?_set_ne (fun e=>hxp e.symm)];have e9:(q.2[x]?).map (b.endO x)=q.2[x]?:=by
    cases q.2[x]? with
    | none=>rfl
    | some o=>
     rw [Option.map_some,RC.endO,if_neg (by omega),RC.eT (by rw [hch]; simpa using hxp),hmv];rfl
   rw [e9] at this;exact this
  ·rw [hq',hrel.sl t] at hv';unfold RC.endF at hv';rw [hbo.dst,hdst,if_neg (by simp),hmv] at hv';have hv2:lookA q.1 t=some v:=by
    cases hx:lookA q.1 t with
    | none=>rw [hx] at hv'; cases hv'
    | some v0=>rw [hx] at hv'; exact hv'
   obtain ⟨h5,h6⟩:=hf t v hv2;rw [lp hsz h5,hdst,if_neg (by simp)];exact ⟨h5,h6.carry hle (jP.refl _)⟩
  by_cases hk:k=i
  ·subst hk;rw [hb] at hr; cases hr;exact ⟨by rw [hfcb]; simp,fun h=>by rw [hon] at h; cases h⟩
  exact clause u k r hr hk (hsne k hsk hk)
end
end Go.Proofs.YticbaadnibdbkaaGreat
