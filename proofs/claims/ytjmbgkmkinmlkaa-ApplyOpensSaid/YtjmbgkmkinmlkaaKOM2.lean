/- What leads to the law, part 2. Conditions: each lemma's own. -/
import Derived.Laws.CopyRow
import Derived.MapFrom
import Derived.MapKept
import Derived.Test.YtjmbgkmkinmlkaaKOM1
set_option linter.unusedVariables false
set_option linter.unusedSimpArgs false
namespace Go.Proofs.Ytjmbgkmkinmlkaa
open Go.RowKit
section
variable {G:Gl} {ρ:List RE} {H:AH} {w:World}
theorem bJ (hR:Rep G ρ H w) {id:Nat} {t:TypeId} {s:Sh} {xs:List (den s)} (hH:getO H id = .row t s xs):(ρ[id]? = some .emp/\xs=[]) \/
  ∃ g cap cells sp,ρ[id]? = some (.row g cap xs.length s.size)/\w.heap[g]? = some (.cells (List.toArray (cells++sp)) t (0,0))/\Pds (cx G ρ w) (xs.flatMap (cellsOf s)) cells/\(cells++sp).length=cap*s.size/\xs.length<=cap/\cap<=maxLen:=by
 obtain ⟨r,hr,h1,h2,h3⟩:=hR.at_ (bG hH (by simp))
 rcases h3 with ⟨rfl,h3⟩ | ⟨g,cap,cells,sp,rfl,h4⟩
 ·exact .inl ⟨hr,h3⟩
 ·exact .inr ⟨g,cap,cells,sp,hr,h4⟩
theorem df (hR:Rep G ρ H w) {id:Nat} {t:TypeId} {s:Sh} {xs:List (den s)} (hH:getO H id = .row t s xs):G.shp t=some s/\xs.length*s.bytes<=140737488355328:=by
 obtain ⟨r,hr,h1,h2,h3⟩:=hR.at_ (bG hH (by simp))
 exact ⟨h1,h2⟩
theorem bU {g:Nat} {cells sp:List Value} {t:TypeId} {f:Nat × Nat} (h:w.heap[g]? = some (.cells (List.toArray (cells++sp)) t f)):CellsAt w ⟨g,0,none⟩ cells:=fun j v hv=>by
 rw [add_lit,Nat.zero_add,cell_of_row w g j _ t f h]
 have hj:j<cells.length:=(List.getElem?_eq_some_iff.1 hv).1
 simp [List.getElem?_append_left hj,hv]
theorem CellsAt.drop {a:Addr} {cs:List Value} (h:CellsAt w a cs) (i:Nat):CellsAt w (a.add i) (cs.drop i):=h.shift i
theorem bY {c:Cx} {s:Sh} {xs:List (den s)} {cells:List Value} (h:Pds c (xs.flatMap (cellsOf s)) cells) (i:Nat):Pds c ((xs.drop i).flatMap (cellsOf s)) (cells.drop (i*s.size)):=by
 rw [<- kL]; exact h.drop _
theorem bO {c:Cx} {s:Sh} {xs:List (den s)} {cells:List Value} (h:Pds c (xs.flatMap (cellsOf s)) cells) (i:Nat):Pds c ((xs.take i).flatMap (cellsOf s)) (cells.take (i*s.size)):=by
 rw [<- oG]; exact h.take _
structure Sread (c:Cx) (s:Sh) (xs:List (den s)) (v:Value):Prop where
 ex:∃ a k cells,v = .slice a xs.length k/\xs.length<=k/\k<=maxLen/\Pds c (xs.flatMap (cellsOf s)) cells/\(xs=[]\/∃ A,a=some A/\A.block<c.w.heap.size/\CellsAt c.w A cells)
 le:xs.length*s.bytes<=140737488355328
theorem Pd.GF {c:Cx} {s:Sh} {xs:List (den s)} {v:Value} (h:Pd c (.fz s xs) v) (hS:∀ b,c.S b->b<c.w.heap.size):Sread c s xs v:=by
 cases h with
 | fz h1 h2 h3 h4 h5=>
  refine ⟨⟨_,_,_,rfl,h1,h2,h4,?_⟩,h3⟩
  rcases h5 with h5 | ⟨A,hA,hat,hc⟩
  ·exact .inl h5
  ·exact .inr ⟨A,hA,hS _ hat.1,hc⟩
theorem jX {a b m M:Nat} (h:b*m<=M) (k:a<=b):a*m<=M:=Nat.le_trans (Nat.mul_le_mul_right _ k) h
theorem vW (hR:Rep G ρ H w) {a:AV} {s:Sh} {xs:List (den s)} {v:Value} (ha:a.vw H = .fz s xs) (h:Rd (cx G ρ w) ρ a v):Sread (cx G ρ w) s xs v:=by
 cases a with
 | fz s' ys=>simp only [AV.vw] at ha; cases ha; exact Pd.GF h fun b hb=>hb.1
 | own id=>
  simp only [AV.vw] at ha
  split at ha
  ·rename_i t s' ys hH
   cases ha
   have hle:=(df hR hH).2
   rcases bJ hR hH with ⟨h0,rfl⟩ | ⟨g,cap,cells,sp,h1,h2,h3,h4,h5,h6⟩
   ·rcases h with ⟨_,_,_,_,h,_⟩ | ⟨_,a,rfl⟩
    ·rw [h0] at h; cases h
    ·exact ⟨⟨a,0,[],rfl,Nat.le_refl _,by simp [maxLen],.nil,.inl rfl⟩,hle⟩
   ·rcases h with ⟨_,_,_,_,h,rfl⟩ | ⟨h,_⟩
    ·rw [h1] at h; cases h
     exact ⟨⟨_,_,cells,rfl,h5,h6,h3,.inr ⟨_,rfl,(hR.bnd _ _ g h1 rfl).2.1,bU h2⟩⟩,hle⟩
    ·rw [h1] at h; cases h
  ·cases ha
 | sub id off len=>
  simp only [AV.vw] at ha
  split at ha
  ·rename_i t s' ys hH
   cases ha
   have hle:=(df hR hH).2
   have hle2:((ys.drop off).take len).length*s.bytes<=140737488355328:=jX hle (by simp; omega)
   rcases bJ hR hH with ⟨h0,rfl⟩ | ⟨g,cap,cells,sp,h1,h2,h3,h4,h5,h6⟩
   ·rcases h with ⟨_,_,_,_,h,_⟩ | ⟨_,rfl,rfl,a,rfl⟩
    ·rw [h0] at h; cases h
    ·exact ⟨⟨a,0,[],rfl,by simp,by simp [maxLen],.nil,.inl rfl⟩,hle2⟩
   ·rcases h with ⟨_,_,_,_,h,hl,rfl⟩ | ⟨h,_⟩
    ·rw [h1] at h; cases h
     have hlen:((ys.drop off).take len).length=len:=by simp; omega
     refine ⟨⟨some ⟨g,off*s.size,none⟩,cap - off,(cells.drop (off*s.size)).take (len*s.size),by rw [hlen],by rw [hlen]; omega,by omega,bO (bY h3 off) len,.inr ⟨_,rfl,(hR.bnd _ _ g h1 rfl).2.1,?_⟩⟩,hle2⟩
     have:=((bU h2).drop (off*s.size)).take (len*s.size)
     rwa [add_lit,Nat.zero_add] at this
    ·rw [h1] at h; cases h
  ·cases ha
 | _=>simp [AV.vw] at ha
theorem jT (hR:Rep G ρ H w) {c:Cx} (hc:(cx G ρ w).le c) (hw:c.w=w) {a:AV} {v:Value} (h:Rd (cx G ρ w) ρ a v)
  (hS:∀ g cap len z,(∃ id,(a = .own id\/∃ o l,a = .sub id o l)/\ρ[id]? = some (.row g cap len z))->c.S g) {s:Sh} {xs:List (den s)} (ha:a.vw H = .fz s xs):Pd c (.fz s xs) v:=by
 cases a with
 | fz s' ys=>simp only [AV.vw] at ha; cases ha; exact Pd.carry h hc
 | own id=>
  simp only [AV.vw] at ha
  split at ha
  ·rename_i t s' ys hH
   cases ha
   have hle:=(df hR hH)
   rcases bJ hR hH with ⟨h0,rfl⟩ | ⟨g,cap,cells,sp,h1,h2,h3,h4,h5,h6⟩
   ·rcases h with ⟨_,_,_,_,h,_⟩ | ⟨_,a,rfl⟩
    ·rw [h0] at h; cases h
    ·exact .fz (xs:=([]:List (den s))) (cells:=[]) (Nat.le_refl _) (by simp [maxLen]) (by simp) .nil (.inl rfl)
   ·rcases h with ⟨_,_,_,_,h,rfl⟩ | ⟨h,_⟩
    ·rw [h1] at h; cases h
     refine .fz h5 h6 hle.2 (h3.carry hc) (.inr ⟨_,rfl,⟨hS g _ _ _ ⟨id,.inl rfl,h1⟩,.inr ⟨_,t,(0,0),by rw [hw]; exact h2,by rw [hc.shp]; exact hle.1,fun _=>rfl⟩⟩,by rw [hw]; exact bU h2⟩)
    ·rw [h1] at h; cases h
  ·cases ha
 | sub id off len=>
  simp only [AV.vw] at ha
  split at ha
  ·rename_i t s' ys hH
   cases ha
   have hle:=(df hR hH)
   have hle2:((ys.drop off).take len).length*s.bytes<=140737488355328:=jX hle.2 (by simp; omega)
   rcases bJ hR hH with ⟨h0,rfl⟩ | ⟨g,cap,cells,sp,h1,h2,h3,h4,h5,h6⟩
   ·rcases h with ⟨_,_,_,_,h,_⟩ | ⟨_,rfl,rfl,a,rfl⟩
    ·rw [h0] at h; cases h
    ·exact .fz (xs:=([]:List (den s))) (cells:=[]) (Nat.le_refl _) (by simp [maxLen]) (by simp) .nil (.inl rfl)
   ·rcases h with ⟨_,_,_,_,h,hl,rfl⟩ | ⟨h,_⟩
    ·rw [h1] at h; cases h
     have hlen:((ys.drop off).take len).length=len:=by simp; omega
     have:=Pd.fz (c:=c) (s:=s) (xs:=(ys.drop off).take len) (a:=some ⟨g,off*s.size,none⟩) (k:=cap - off) (cells:=(cells.drop (off*s.size)).take (len*s.size)) (by rw [hlen]; omega) (by omega) hle2 ((bO (bY h3 off) len).carry hc) (.inr ⟨_,rfl,⟨hS g _ _ _ ⟨id,.inr ⟨_,_,rfl⟩,h1⟩,.inr ⟨_,t,(0,0),by rw [hw]; exact h2,by rw [hc.shp]; exact hle.1,fun _=>rfl⟩⟩,by
      rw [hw]
      have:=((bU h2).drop (off*s.size)).take (len*s.size)
      rwa [add_lit,Nat.zero_add] at this⟩)
     rwa [hlen] at this
    ·rw [h1] at h; cases h
  ·cases ha
 | _=>simp [AV.vw] at ha
theorem Pd.jd {c:Cx} {a:AV} {v:Value} (h:Pd c a v):∀ p ∈ a.ok,p:=by
 intro p hp
 cases h
 case int h1=>rw [List.mem_singleton.1 hp]; exact h1
 case u64 h1=>rw [List.mem_singleton.1 hp]; exact h1
 case str h1=>rw [List.mem_singleton.1 hp]; exact h1
 case fz h1 _ _ _ _=>rw [List.mem_singleton.1 hp]; assumption
 all_goals cases hp
theorem Pds.jd {c:Cx}:∀ {asx:List AV} {vs:List Value},Pds c asx vs->∀ p ∈ yZ asx,p
 | [],_,h=>by cases h; simp [yZ]
 | _ :: _,_,h=>by
  cases h with
  | cons h1 h2=>
   intro p hp
   simp only [yZ,List.mem_append] at hp
   exact hp.elim (h1.jd p) (h2.jd p)
theorem Rd.jd {c:Cx} {a:AV} {v:Value} (h:Rd c ρ a v):∀ p ∈ a.ok,p:=by
 cases a
 case int=>exact Pd.jd h
 case u8=>exact Pd.jd h
 case u64=>exact Pd.jd h
 case bool=>exact Pd.jd h
 case str=>exact Pd.jd h
 case em=>exact Pd.jd h
 case fz=>exact Pd.jd h
 all_goals simp [AV.ok]
theorem KY.jd {c:Cx} {asx:List AV} {vs:List Value} (h:All2 (Rd c ρ) asx vs):∀ p ∈ yZ asx,p:=by
 induction h with
 | nil=>simp [yZ]
 | cons h1 _ ih=>
  intro p hp
  simp only [yZ,List.mem_append] at hp
  exact hp.elim (h1.jd p) (ih p)
theorem bX.jd {c:Cx} {t:TV1} {v:Value} (h:bX c ρ t v):∀ p ∈ t.ok,p:=by
 cases t with
 | c a=>exact Rd.jd h
 | agg l=>obtain ⟨vs,_,h⟩:=h; exact KY.jd h
theorem Fj.jd {c:Cx} {asx:List TV1} {vs:List Value} (h:All2 (bX c ρ) asx vs):∀ p ∈ xY asx,p:=by
 induction h with
 | nil=>simp [xY]
 | cons h1 _ ih=>
  intro p hp
  simp only [xY,List.mem_append] at hp
  exact hp.elim (h1.jd p) (ih p)
theorem bX.cells {c:Cx} {t:TV1} {v:Value} (h:bX c ρ t v):∃ us,v.cells=List.toArray us/\All2 (Rd c ρ) t.cells us:=by
 cases t with
 | c a=>
  refine ⟨[v],?_,.cons h .nil⟩
  have:=Rd.one h
  cases v <;> simp_all [Value.cells,Value.oneCell']
 | agg l=>obtain ⟨vs,rfl,h⟩:=h; exact ⟨vs,rfl,h⟩
theorem uw (hR:Rep G ρ H w) {a:AV} {v:Value} (h:Rd (cx G ρ w) ρ a v) {cs:List AV} {o:Nat} (hc:qW H a=some (cs,o)) :
  ∃ A vs,v = .pointer (some A)/\CellsAt w A (vs.drop o)/\All2 (Rd (cx G ρ w) ρ) cs vs:=by
 cases a <;> simp only [qW] at hc
 case ptr id k=>
  split at hc
  ·rename_i t cs' hH
   cases hc
   obtain ⟨r,hr,g,vs,rfl,h1,h2⟩:=hR.at_ (bG hH (by simp))
   obtain ⟨g',hg,rfl⟩:=h
   rw [hr] at hg; cases hg
   refine ⟨_,vs,rfl,?_,h2⟩
   have:=(bU (cells:=vs) (sp:=[]) (by simpa using h1)).drop o
   rwa [add_lit,Nat.zero_add] at this
  ·cases hc
 case elp id i k=>
  split at hc
  ·rename_i t s xs hH
   cases hc
   obtain ⟨g,cap,len,z,h1,h2,rfl⟩:=h
   rcases bJ hR hH with ⟨h0,rfl⟩ | ⟨g',cap',cells,sp,h3,h4,h5,h6⟩
   ·rw [h0] at h1; cases h1
   ·rw [h3] at h1; cases h1
    have hx:xs[i]? = some xs[i]:=List.getElem?_eq_getElem h2
    have hd:xs.getD i (aG s)=xs[i]:=by rw [List.getD_eq_getElem?_getD,hx]; rfl
    rw [hd]
    have h7:=(h5.drop (i*s.size)).take s.size
    rw [jh hx] at h7
    refine ⟨_,_,rfl,?_,dY h7⟩
    have:=(((bU h4).drop (i*s.size)).take s.size).drop o
    rwa [add_lit,add_lit,Nat.zero_add] at this
  ·cases hc
 case fe s x k=>
  cases hc
  obtain ⟨A,cells,h1,h2,h3,rfl⟩:=h
  exact ⟨_,cells,rfl,h2.drop _,dY h3⟩
 case xx k cs'=>
  split at hc
  all_goals first | cases hc | skip
  all_goals try (rename_i heq; cases heq)
  obtain ⟨us,h1,A,rfl,h2,h3⟩:=h
  exact ⟨A,us,rfl,h3.drop _,by cases h1 with | cons h1 h2=>cases h2; exact .cons h1 .nil⟩
 all_goals cases hc
end
section
variable {P:Program} {T:List (Nat × TI)} {G:Gl} {n:Nat} {F:Fr} {w:World} {x y:Operand} {ty t t':TypeId} {ρ:List RE} {H:AH}
theorem rI (hT:bn P G.shp T) (hR:Rep G ρ H w) {a:AV} {v:Value} {r:PR} (h:Rd (cx G ρ w) ρ a v) (hx:ev F x=some v) (hl:wB T H t a=some r):∃ u,aU P n F w (.load t x) ty u w/\Rt (cx G ρ w) ρ r.v u/\r.ob=[]/\r.fc=[]:=by
 unfold wB at hl
 split at hl
 ·rename_i ti cs o hti hcs
  obtain ⟨A,vs,rfl,hA,hvs⟩:=uw hR h hcs
  obtain ⟨⟨hsz,_⟩,hk⟩:=hT _ _ hti
  have hagg:∀ (_:Nat.ble (o+ti.size) cs.length=true) (d:TypeDesc),P.underlying t=some d->iP d=true->aU P n F w (.load t x) ty (.agg (((vs.drop o).take ti.size).toArray)) w:=fun hb d hd ha=>by
   have hb':=Nat.le_of_ble_eq_true hb
   have hlen:=hvs.length
   exact R.wL hx hd ha (by rw [hsz,List.length_take,List.length_drop]; congr 1; omega) (hA.take _)
  have hone:∀ (a:AV) (d:TypeDesc),P.underlying t=some d->iP d=false->cs[o]? = some a->∃ u,aU P n F w (.load t x) ty u w/\Rd (cx G ρ w) ρ a u:=fun a d hd ha ho=>by
   obtain ⟨u,hu,hr⟩:=db hvs o a ho
   refine ⟨u,R.ml hx hd ha ?_,hr⟩
   have:=hA 0 u (by rw [List.getElem?_drop,Nat.add_zero]; exact hu)
   rwa [oJ] at this
  split at hl
  ·rename_i fs hkk hb
   cases hl
   rw [hkk] at hk
   obtain ⟨Fs,hu,_⟩:=hk
   exact ⟨_,hagg hb _ hu rfl,⟨_,rfl,(hvs.drop _).take _⟩,rfl,rfl⟩
  ·rename_i m e hkk hb
   cases hl
   rw [hkk] at hk
   exact ⟨_,hagg hb _ hk rfl,⟨_,rfl,(hvs.drop _).take _⟩,rfl,rfl⟩
  ·cases hl
  ·cases hl
  ·cases hl
  ·rename_i k b h1 h2 h3
   split at hl
   ·rename_i a ha
    cases hl
    have:∃ d,P.underlying t=some d/\iP d=false:=by
     cases hkk:ti.k <;> rw [hkk] at hk
     case i=>exact ⟨_,hk,rfl⟩
     case bool=>exact ⟨_,hk,rfl⟩
     case str=>exact ⟨_,hk,rfl⟩
     case sl=>exact ⟨_,hk.1,rfl⟩
     case st=>simp_all
     case ar=>simp_all
     case mp=>exact ⟨_,hk.1,rfl⟩
     case ifc=>exact ⟨_,hk,rfl⟩
     case ms=>exact ⟨_,hk.1,rfl⟩
     all_goals exact hk
    obtain ⟨d,hd,hag⟩:=this
    obtain ⟨u,h4,h5⟩:=hone a d hd hag ha
    exact ⟨u,h4,h5,rfl,rfl⟩
   ·cases hl
 ·cases hl
theorem wj {α β:Type} {f:α->Option β}:∀ {l:List α} {r:List β},l.mapM f=some r->∀ (i:Nat) (q:β),r[i]? = some q->∃ a,l[i]? = some a/\f a=some q
 | [],r,h,i,q,hq=>by simp at h; subst h; simp at hq
 | a :: l,r,h,i,q,hq=>by
  simp only [List.mapM_cons,Option.bind_eq_bind,Option.pure_def,Option.bind_eq_some_iff] at h
  obtain ⟨b,hb,bs,hbs,rfl⟩:=by simpa using h
  cases i with
  | zero=>simp at hq; subst hq; exact ⟨a,rfl,hb⟩
  | succ i=>simpa using wj hbs i q (by simpa using hq)
theorem yS (hT:bn P G.shp T) {c:Cx} {a:AV} {v:Value} {r:PR} {fs:List (Nat × Nat)} {sz:Nat} {z:List AV} {i o k:Nat} (ht:bq T t=some ⟨.st fs,sz,z⟩) (hi:fs[i]? = some (o,k)) (h:Rd c ρ a v) (hx:ev F x=some v) (hr:a.kx o=some r) :
  ∃ u,aU P n F w (.fieldAddr t x i) ty u w/\Rt c ρ r.v u/\r.ob=[]/\r.fc=[]:=by
 obtain ⟨_,Fs,hu,hm,hp,_⟩:=hT _ _ ht
 obtain ⟨f,hf,hfs⟩:=wj hm i _ hi
 rw [Option.map_eq_some_iff] at hfs
 obtain ⟨inf,hinf,he⟩:=hfs
 cases he
 have hk:=hp _ (List.mem_of_getElem? hi)
 have hsz:(P.info? f.type).map (·.size)=some (inf.size - 1+1):=by rw [hinf]; show some inf.size=some _; congr 1; simp only at hk; omega
 have hF:Fs[i]? = some f:=by simpa using hf
 cases a with
 | ptr id o'=>
  simp only [AV.kx,pr,Option.some.injEq] at hr
  subst hr
  obtain ⟨g,h1,rfl⟩:=h
  have:=R.fieldAddr (P:=P) (n:=n) (w:=w) (ty:=ty) hx hu hF rfl hsz
  rw [add_lit] at this
  exact ⟨_,this,⟨g,h1,rfl⟩,rfl,rfl⟩
 | elp id i' o'=>
  simp only [AV.kx,pr,Option.some.injEq] at hr
  subst hr
  obtain ⟨g,cap,len,z,h1,h2,rfl⟩:=h
  have:=R.fieldAddr (P:=P) (n:=n) (w:=w) (ty:=ty) hx hu hF rfl hsz
  rw [add_lit] at this
  exact ⟨_,this,⟨g,cap,len,z,h1,h2,by rw [Nat.add_assoc]⟩,rfl,rfl⟩
 | fe s x' o'=>
  simp only [AV.kx,pr,Option.some.injEq] at hr
  subst hr
  obtain ⟨A,cells,h1,h2,h3,rfl⟩:=h
  have:=R.fieldAddr (P:=P) (n:=n) (w:=w) (ty:=ty) hx hu hF rfl hsz
  rw [add_add] at this
  exact ⟨_,this,⟨A,cells,h1,h2,h3,rfl⟩,rfl,rfl⟩
 | _=>simp [AV.kx] at hr
end
def uZ:List Value->Value
 | [v]=>v
 | l=>.tuple l.toArray
def Sat (P:Program) (shp:TypeId->Option Sh) (f:Nat) (args:List TV1) (H:AH) (r:SpecR):Prop:=
 (∃ fn,P.funcs[f]? = some fn/\(fn.name == "runtime.NumGoroutine")=false/\fn.body.isNone=false) /\
 ∀ (G:Gl) (ρ:List RE) (w:World) (vs:List Value),G.shp=shp->Rep G ρ H w->All2 (bX (cx G ρ w) ρ) args vs->gw P f vs.toArray w fun v w'=>∃ us,v=uZ us/\match r.out with
  | none=>Kp [] w w' /\ All2 (bX (cx G ρ w') ρ) r.rs us
  | some H'=>∃ ρ',Rep G ρ' H' w' /\ Ext ρ w ρ' w' /\ (∀ (i g:Nat),ρ[i]? = some (.blk g)->ρ'[i]? = some (.blk g))/\All2 (bX (cx G ρ' w') ρ') r.rs us/\(r.keep=true->Kp [] w w' /\ ∀ (i:Nat) (rr:RE),ρ[i]? = some rr->ρ'[i]? = some rr)
def bk (P:Program) (shp:TypeId->Option Sh) (O:cO):Prop:=∀ f args H r,O f args H=some r->(∀ p ∈ r.pre,p)->Sat P shp f args H r
theorem bw {i:Nat}:∀ {l:List Nat},bM i l=true↔i ∈ l
 | []=>by simp [bM]
 | j :: r=>by
  unfold bM
  cases hb:Nat.beq i j
  ·have:i≠j:=by rintro rfl; simp at hb
   simp [bw,this]
  ·have:i=j:=Nat.eq_of_beq_eq_true hb
   simp [this]
theorem fH {σ:List Nat}:∀ {l:List Nat},lE σ l=true↔∀ i ∈ l,i ∈ σ
 | []=>by simp [lE]
 | j :: r=>by simp [lE,bw,fH]
theorem iU {σ:List Nat}:∀ {l:List Nat},kv σ l=true↔∀ i ∈ l,i ∉ σ
 | []=>by simp [kv]
 | j :: r=>by
  simp only [kv,Bool.and_eq_true,iU,List.forall_mem_cons,Bool.not_eq_true',<- Bool.not_eq_true,bw]
theorem fO:∀ {l:List Nat},gr l=true↔l.Nodup
 | []=>by simp [gr]
 | j :: r=>by
  simp only [gr,Bool.and_eq_true,fO,List.nodup_cons,Bool.not_eq_true',<- Bool.not_eq_true,bw]
theorem eY {H:AH} {σ:List Nat}:∀ {l:List Nat},eT H σ l=true↔∀ i ∈ l,i<H.length/\∀ j ∈ (getO H i).ids,j ∈ σ
 | []=>by simp [eT]
 | j :: r=>by simp [eT,eY,fH,and_assoc]
theorem gk {i:Nat}:∀ {σ:List Nat},i ∈ σ->σ[posOf i σ]? = some i
 | [],h=>by simp at h
 | j :: r,h=>by
  unfold posOf
  cases hb:Nat.beq i j
  ·have hne:i≠j:=by rintro rfl; simp at hb
   have:i ∈ r:=by simpa [hne] using h
   simpa using gk this
  ·have:i=j:=Nat.eq_of_beq_eq_true hb
   simp [this]
def cu (ρ:List RE) (σ:List Nat):List RE:=σ.map fun i=>ρ.getD i .no
theorem wm {ρ:List RE} {σ:List Nat} {j i:Nat} (h:σ[j]? = some i):(cu ρ σ)[j]? = some (ρ.getD i .no):=by simp [cu,h]
theorem getD_some {ρ:List RE} {i:Nat} {r:RE} (h:ρ[i]? = some r):ρ.getD i .no=r:=by rw [List.getD_eq_getElem?_getD,h]; rfl
theorem eH {ρ:List RE} {σ:List Nat} {i:Nat} {r:RE} (h:i ∈ σ) (hr:ρ[i]? = some r):(cu ρ σ)[posOf i σ]? = some r:=by rw [wm (gk h),getD_some hr]
theorem dx {ρ:List RE} {σ:List Nat} {j:Nat} {r:RE} (h:(cu ρ σ)[j]? = some r) (hne:r ≠ .no):ρ[σ.getD j 0]? = some r:=by
 simp only [cu,List.getElem?_map,Option.map_eq_some_iff] at h
 obtain ⟨i,hi,rfl⟩:=h
 rw [List.getD_eq_getElem?_getD,hi,Option.getD_some]
 cases hρ:ρ[i]? with
 | none=>rw [List.getD_eq_getElem?_getD,hρ] at hne; exact absurd rfl hne
 | some r'=>rw [getD_some hρ]
theorem fp {ρ:List RE} {σ:List Nat} {b:Nat} (h:live (cu ρ σ) b):live ρ b:=by
 obtain ⟨j,r,h1,h2⟩:=h
 exact ⟨_,r,dx h1 (by rintro rfl; cases h2),h2⟩
theorem hU {ρ ρ':List RE} {f:Nat->Nat}:∀ {l:List (Nat × Nat)} {vs:List Value},(∀ i ∈ l.map (·.1),∀ g,ρ[i]? = some (.blk g)->ρ'[f i]? = some (.blk g))->All2 (cR ρ) l vs->All2 (cR ρ') (BP f l) vs
 | [],_,_,h=>by cases h; exact .nil
 | (i,o) :: r,_,hf,h=>by
  cases h with
  | cons h1 h2=>
   obtain ⟨g,hg,e⟩:=h1
   exact .cons ⟨g,hf i (by simp) g hg,e⟩ (hU (fun j hj=>hf j (by simp at hj ⊢; exact .inr hj)) h2)
theorem Rd.ir {c c':Cx} {ρ ρ':List RE} {f:Nat->Nat} {a:AV} {v:Value} (hp:a.plain=true->Pd c a v->Pd c' a v) (hfe:∀ s x o,a = .fe s x o->Rd c' ρ' a v) (hxx:∀ k cs us,a = .xx k cs->k.rd c us v->k.rd c' us v) (hf:∀ i ∈ a.ids,∀ r,ρ[i]? = some r->r ≠ .no->ρ'[f i]? = some r) (h:Rd c ρ a v):Rd c' ρ' (a.ir f) v:=by
 cases a with
 | own id=>
  rcases h with ⟨g,cap,len,z,h,e⟩ | ⟨h,e⟩
  ·exact .inl ⟨g,cap,len,z,hf id (by simp [AV.ids]) _ h (by simp),e⟩
  ·exact .inr ⟨hf id (by simp [AV.ids]) _ h (by simp),e⟩
 | sub id o l=>
  rcases h with ⟨g,cap,len,z,h,e⟩ | ⟨h,e⟩
  ·exact .inl ⟨g,cap,len,z,hf id (by simp [AV.ids]) _ h (by simp),e⟩
  ·exact .inr ⟨hf id (by simp [AV.ids]) _ h (by simp),e⟩
 | ptr id o=>
  obtain ⟨g,h,e⟩:=h
  exact ⟨g,hf id (by simp [AV.ids]) _ h (by simp),e⟩
 | elp id i o=>
  obtain ⟨g,cap,len,z,h,e⟩:=h
  exact ⟨g,cap,len,z,hf id (by simp [AV.ids]) _ h (by simp),e⟩
 | fn g b cs=>
  obtain ⟨bs,us,h1,h2,e⟩:=h
  refine ⟨bs,us,hU (fun i hi g hg=>hf i ?_ _ hg (by simp)) h1,hU (fun i hi g hg=>hf i ?_ _ hg (by simp)) h2,e⟩
  ·simp only [AV.ids,List.mem_append]; exact .inl hi
  ·simp only [AV.ids,List.mem_append]; exact .inr hi
 | fe s x o=>exact hfe s x o rfl
 | xx k cs=>
  obtain ⟨us,h1,h2⟩:=h
  exact ⟨us,hU (fun i hi g hg=>hf i hi _ hg (by simp)) h1,hxx k cs us rfl h2⟩
 | mq id=>
  obtain ⟨g,h,e⟩:=h
  exact ⟨g,hf id (by simp [AV.ids]) _ h (by simp),e⟩
 | np=>exact h
 | nf=>exact h
 | yl l=>exact h
 | dead=>exact h
 | int n=>exact hp rfl h
 | u8 b=>exact hp rfl h
 | u64 n=>exact hp rfl h
 | bool e=>exact hp rfl h
 | str s=>exact hp rfl h
 | em b=>exact hp rfl h
 | li nw xs=>exact hp rfl h
 | fz s xs=>exact hp rfl h
theorem dT {f:Sh->Bool}:∀ {l:List Sh},fB f l=true↔∀ s ∈ l,f s=true
 | []=>by simp [fB]
 | s :: r=>by simp [fB,dT]
theorem fS {s:Sh} {x:den s} {s':Sh} {ys:List (den s')} (h:AV.fz s' ys ∈ cellsOf s x):s' ∈ s.fC:=by
 cases s with
 | nm t=>cases t <;> simp [cellsOf,NT.cells] at h <;> first | (simp [Sh.fC,NT.fC,h]; done) | (rcases h with h | h | h <;> simp [Sh.fC,NT.fC,h.1])
 | lst s=>simp [cellsOf] at h; simp [Sh.fC,h.1]
 | _=>simp [cellsOf] at h
theorem fQ {s:Sh} {x:den s} {nw:Bool} {ys:List Int} (h:AV.li nw ys ∈ cellsOf s x):Sh.int ∈ s.fC:=by
 cases s with
 | nm t=>cases t <;> simp [cellsOf,NT.cells] at h <;> simp [Sh.fC,NT.fC]
 | lx=>simp [Sh.fC]
 | _=>simp [cellsOf] at h
def DA (n:Nat) (b:Sh):AV->Bool
 | .fz s _=>Sh.no n b s
 | .li _ _=>Sh.no n b .int
 | _=>true
theorem XK.rd.Oi {c c':Cx} {ls:List Sh} {k:XK} {cs:List (Nat × Nat)} {us:List Value} {v:Value} (hw:c'.w=c.w) (hs:c'.shp=c.shp) (hB:c'.B0=c.B0)
  (hS:∀ b,c.S b->c'.S b\/(¬ b<c.B0/\∃ sb ∈ ls,∃ cur t fr,c.w.heap[b]? = some (.cells cur t fr)/\c.shp t=some sb)) (h:k.rd c us v) (hno:∀ b ∈ ls,(AV.xx k cs).no b=true):k.rd c' us v:=by
 by_cases hl:ls=[]
 ·subst hl
  exact h.le ⟨hs,hB,fun b hb=>⟨(hS b hb).resolve_right fun ⟨_,sb,h,_⟩=>by simp at h,by rw [hw]⟩,fun b _ _=>by rw [hw]⟩
 ·obtain ⟨b,hb⟩:=List.exists_mem_of_ne_nil _ hl
  have:=hno b hb
  cases k
  case er=>exact h
  case bp=>exact h
  case ff=>exact XK.Ge h ⟨hs,hB,fun b hb=>⟨⟨by rw [hB]; exact hb.1,by rw [hw]; exact hb.2⟩,by show c'.w.heap[b]? = _; rw [hw]; rfl⟩,fun b _ _=>by show c'.w.heap[b]? = _; rw [hw]; rfl⟩
  all_goals simp [AV.no] at this
theorem Pd.zD {c c':Cx} (ls:List Sh) (hw:c'.w=c.w) (hs:c'.shp=c.shp) (hB:c'.B0=c.B0)
  (hS:∀ b,c.S b->c'.S b\/(¬ b<c.B0/\∃ sb ∈ ls,∃ cur t fr,c.w.heap[b]? = some (.cells cur t fr)/\c.shp t=some sb)) {a:AV} {v:Value} (h:Pd c a v):∀ n,(∀ b ∈ ls,DA n b a=true)->Pd c' a v:=by
 refine @Pd.rec c (fun a v _=>∀ n,(∀ b ∈ ls,DA n b a=true)->Pd c' a v) (fun asx vs _=>∀ n,(∀ a ∈ asx,∀ b ∈ ls,DA n b a=true)->Pds c' asx vs) ?_ ?_ ?_ ?_ ?_ ?_ ?_ ?_ ?_ ?_ a v h
 ·intro n h1 _ _; exact .int h1
 ·intro b _ _; exact .u8
 ·intro n h1 _ _; exact .u64 h1
 ·intro e _ _; exact .bool
 ·intro s h1 _ _; exact .str h1
 ·intro b a h1 _ _; exact .em h1
 ·intro s xs a k cells h1 h2 h3 _ h5 ih n hno
  have key:∀ b ∈ ls,s≠b/\∀ s' ∈ s.fC,Sh.no (n - 1) b s' = true:=fun b hb=>by
   have:=hno b hb
   cases n with
   | zero=>simp [DA,Sh.no] at this
   | succ n=>
    simp only [DA,Sh.no,Bool.and_eq_true,Bool.not_eq_true',decide_eq_false_iff_not,dT] at this
    exact this
  refine .fz h1 h2 h3 (ih (n - 1) fun x hx b hb=>?_) ?_
  ·rw [List.mem_flatMap] at hx
   obtain ⟨y,_,hy⟩:=hx
   cases x with
   | fz s' ys=>exact (key b hb).2 s' (fS hy)
   | li nw ys=>exact (key b hb).2 .int (fQ hy)
   | _=>rfl
  ·rcases h5 with h5 | ⟨A,hA,hat,hc⟩
   ·exact .inl h5
   ·refine .inr ⟨A,hA,?_,by rw [hw]; exact hc⟩
    rcases hS _ hat.1 with h6 | ⟨h6,sb,hsb,cur,t,fr,h7,h8⟩
    ·refine ⟨h6,?_⟩
     rw [hB,hw,hs]; exact hat.2
    ·rcases hat.2 with h9 | ⟨cur',t',fr',h9,h10,_⟩
     ·exact absurd h9 h6
     ·rw [h7] at h9
      cases h9
      rw [h8] at h10
      cases h10
      exact absurd rfl (key _ hsb).1
 ·intro nw xs a k h1 h2 h3 h4 h5 n hno
  refine .li h1 h2 h3 h4 ?_
  rcases h5 with h5 | ⟨A,hA,hn,ho,hc⟩
  ·exact .inl h5
  ·have key:c.at .int A.block->c'.at .int A.block:=fun k=>by
    rcases hS _ k.1 with h6 | ⟨h6,sb,hsb,cur',t',fr',h7,h8⟩
    ·exact ⟨h6,by rw [hB,hw,hs]; exact k.2⟩
    ·rcases k.2 with k2 | ⟨cur,t,fr,k3,k4,_⟩
     ·exact absurd k2 h6
     ·rw [h7] at k3; cases k3
      rw [h8] at k4; cases k4
      have:=hno _ hsb
      cases n <;> simp [DA,Sh.no] at this
   refine .inr ⟨A,hA,fun e=>?_,fun e=>(ho e).imp (fun k=>⟨by rw [hB]; exact k.1,by rw [hw]; exact k.2⟩) key,by rw [hw]; exact hc⟩
   obtain ⟨k1,k2,cur,t,fr,k3,k4,k6⟩:=hn e
   have k5:=key ⟨k1,.inr ⟨cur,t,fr,k3,k4,fun _=>k6⟩⟩
   exact ⟨k5.1,by rw [hB]; exact k2,cur,t,fr,by rw [hw]; exact k3,by rw [hs]; exact k4,k6⟩
 ·intro _ _; exact .nil
 ·intro a v r vs _ _ h1 h2 n hno
  exact .cons (h1 n (hno a (by simp))) (h2 n fun x hx=>hno x (by simp [hx]))
theorem qn {b:Sh}:∀ {l:List AV},He b l=true↔∀ a ∈ l,a.no b=true
 | []=>by simp [He]
 | a :: r=>by simp [He,qn]
theorem qY {b:Sh}:∀ {l:List TV1},JD b l=true↔∀ t ∈ l,∀ a ∈ t.cells,a.no b=true
 | []=>by simp [JD]
 | a :: r=>by simp [JD,qY,qn]
theorem jY {H:AH} {i:Nat} {t:TypeId} {s:Sh} {xs:List (den s)} (h:getO H i = .row t s xs):∀ {l:List Nat},i ∈ l->s ∈ dA H l
 | [],hi=>by simp at hi
 | j :: r,hi=>by
  rcases List.mem_cons.1 hi with rfl | hi
  ·simp [dA,h]
  ·have:=jY h hi
   unfold dA
   split
   ·exact List.mem_cons_of_mem _ this
   ·exact this
theorem jQ {c c':Cx} {ρ ρ':List RE} {f:Nat->Nat}:∀ {asx:List AV} {vs:List Value},(∀ a ∈ asx,∀ v,Rd c ρ a v->Rd c' ρ' (a.ir f) v)->All2 (Rd c ρ) asx vs->All2 (Rd c' ρ') (BX f asx) vs
 | [],_,_,h=>by cases h; exact .nil
 | a :: r,_,hf,h=>by cases h with | cons h1 h2=>exact .cons (hf a (by simp) _ h1) (jQ (fun x hx=>hf x (by simp [hx])) h2)
theorem Bs {c c':Cx} {ρ ρ':List RE} {f:Nat->Nat} {t:TV1} {v:Value} (hf:∀ a ∈ t.cells,∀ v,Rd c ρ a v->Rd c' ρ' (a.ir f) v) (h:bX c ρ t v):bX c' ρ' (t.ir f) v:=by
 cases t with
 | c a=>exact hf a (by simp [TV1.cells]) _ h
 | agg l=>obtain ⟨vs,rfl,h⟩:=h; exact ⟨vs,rfl,jQ hf h⟩
theorem gZ {c c':Cx} {ρ ρ':List RE} {f:Nat->Nat}:∀ {ts:List TV1} {vs:List Value},(∀ t ∈ ts,∀ a ∈ t.cells,∀ v,Rd c ρ a v->Rd c' ρ' (a.ir f) v)->All2 (bX c ρ) ts vs->All2 (bX c' ρ') (fi f ts) vs
 | [],_,_,h=>by cases h; exact .nil
 | t :: r,_,hf,h=>by cases h with | cons h1 h2=>exact .cons (Bs (hf t (by simp)) h1) (gZ (fun x hx=>hf x (by simp [hx])) h2)
theorem BM {c c':Cx} {ρ ρ':List RE} {f:Nat->Nat} {H:AH}:∀ {asx:List AV} {vs:List Value},(∀ a ∈ asx,∀ v,Rd c ρ a v->Rd c' ρ' ((a.vw H).ir f) v)->All2 (Rd c ρ) asx vs->All2 (Rd c' ρ') (BX f (vI H asx)) vs
 | [],_,_,h=>by cases h; exact .nil
 | a :: r,_,hf,h=>by cases h with | cons h1 h2=>exact .cons (hf a (by simp) _ h1) (BM (fun x hx=>hf x (by simp [hx])) h2)
theorem ur {c c':Cx} {ρ ρ':List RE} {f:Nat->Nat} {H:AH}:∀ {ts:List TV1} {vs:List Value},(∀ t ∈ ts,∀ a ∈ t.cells,∀ v,Rd c ρ a v->Rd c' ρ' ((a.vw H).ir f) v)->All2 (bX c ρ) ts vs->All2 (bX c' ρ') (fi f (yA H ts)) vs
 | [],_,_,h=>by cases h; exact .nil
 | t :: r,_,hf,h=>by
  cases h with
  | cons h1 h2=>
   refine .cons ?_ (ur (fun x hx=>hf x (by simp [hx])) h2)
   cases t with
   | c a=>exact hf (.c a) (by simp) a (by simp [TV1.cells]) _ h1
   | agg l=>obtain ⟨vs,rfl,h1⟩:=h1; exact ⟨vs,rfl,BM (hf (.agg l) (by simp)) h1⟩
theorem gF {i:Nat}:∀ {l:List AV} {a:AV},a ∈ l->i ∈ a.ids->i ∈ qN l
 | [],_,h,_=>by simp at h
 | b :: r,a,h,hi=>by
  simp only [qN,List.mem_append]
  rcases List.mem_cons.1 h with rfl | h
  ·exact .inl hi
  ·exact .inr (gF h hi)
theorem nR {i:Nat}:∀ {l:List (Int × AV)} {q:Int × AV},q ∈ l->i ∈ q.2.ids->i ∈ Cf l
 | [],_,h,_=>by simp at h
 | b :: r,q,h,hi=>by
  simp only [Cf,List.mem_append]
  rcases List.mem_cons.1 h with rfl | h
  ·exact .inl hi
  ·exact .inr (nR h hi)
theorem iX {H:AH}:∀ {l:List Nat},kI H l=true↔∀ i ∈ l,∃ t s xs,getO H i = .row t s xs
 | []=>by simp [kI]
 | i :: r=>by
  simp only [kI,Bool.and_eq_true,iX,List.forall_mem_cons]
  refine and_congr_left fun _=>?_
  split
  ·rename_i t s xs h; exact iff_of_true rfl ⟨t,s,xs,h⟩
  ·rename_i hn; exact iff_of_false (by simp) fun ⟨t,s,xs,h⟩=>hn t s xs h
theorem lW {f:Nat->Nat}:∀ l:List (Int × AV),FL f l=l.map fun q=>(q.1,q.2.ir f)
 | []=>rfl
 | (k,a) :: r=>by simp [FL,lW r]
theorem gN {i:Nat}:∀ {l:List TV1} {t:TV1} {a:AV},t ∈ l->a ∈ t.cells->i ∈ a.ids->i ∈ lL l
 | [],_,_,h,_,_=>by simp at h
 | b :: r,t,a,h,ha,hi=>by
  simp only [lL,List.mem_append]
  rcases List.mem_cons.1 h with rfl | h
  ·exact .inl (gF ha hi)
  ·exact .inr (gN h ha hi)
theorem sx {H:AH} {t:TV1} {a:AV} (h:a ∈ t.cells):a.vw H ∈ (t.vw H).cells:=by
 cases t with
 | c b=>simp only [TV1.cells,List.mem_singleton] at h; subst h; simp [TV1.vw,TV1.cells]
 | agg l=>
  simp only [TV1.cells] at h
  simp only [TV1.vw,TV1.cells]
  induction l with
  | nil=>simp at h
  | cons b r ih=>
   rcases List.mem_cons.1 h with rfl | h
   ·simp [vI]
   ·simp only [vI,List.mem_cons]; exact .inr (ih h)
theorem qT {H:AH}:∀ {l:List TV1} {t:TV1},t ∈ l->t.vw H ∈ yA H l
 | [],_,h=>by simp at h
 | b :: r,t,h=>by
  rcases List.mem_cons.1 h with rfl | h
  ·simp [yA]
  ·simp only [yA,List.mem_cons]; exact .inr (qT h)
theorem rK {i:Nat}:∀ {l:List AV} {a:AV},a ∈ l->(a = .own i\/∃ o k,a = .sub i o k)->i ∈ dk l
 | [],_,h,_=>by simp at h
 | b :: r,a,h,hi=>by
  rcases List.mem_cons.1 h with rfl | h
  ·rcases hi with rfl | ⟨o,k,rfl⟩ <;> simp [dk]
  ·have:=rK h hi
   cases b <;> simp [dk,this]
theorem mC {i:Nat}:∀ {l:List TV1} {t:TV1} {a:AV},t ∈ l->a ∈ t.cells->(a = .own i\/∃ o k,a = .sub i o k)->i ∈ dN l
 | [],_,_,h,_,_=>by simp at h
 | b :: r,t,a,h,ha,hi=>by
  simp only [dN,List.mem_append]
  rcases List.mem_cons.1 h with rfl | h
  ·exact .inl (rK ha hi)
  ·exact .inr (mC h ha hi)
theorem zw {b:Sh} {a:AV} (h:a.no b=true):DA 5 b a=true:=by cases a <;> first | rfl | exact h
theorem sf {H:AH}:∀ {σ:List Nat} {j i:Nat},σ[j]? = some i->(iB H σ)[j]? = some (getO H i)
 | [],_,_,h=>by simp at h
 | k :: r,0,i,h=>by simp at h; subst h; simp [iB]
 | k :: r,j+1,i,h=>by simpa [iB] using sf (σ:=r) (by simpa using h)
theorem lQ {f:Nat->Nat}:∀ {l:List AO} {j:Nat} {o:AO},l[j]? = some o->(lN f l)[j]? = some (o.ir f)
 | [],_,_,h=>by simp at h
 | k :: r,0,i,h=>by simp at h; subst h; simp [lN]
 | k :: r,j+1,i,h=>by simpa [lN] using lQ (l:=r) (by simpa using h)
theorem gI {f:Nat->Nat}:∀ {l:List AO},(lN f l).length=l.length
 | []=>rfl
 | _ :: r=>by simp [lN,gI]
theorem oW {H:AH}:∀ {σ:List Nat},(iB H σ).length=σ.length
 | []=>rfl
 | _ :: r=>by simp [iB,oW]
section
variable {G:Gl} {ρ:List RE} {H:AH} {w:World} {σ:List Nat}
theorem Rep.sub (hR:Rep G ρ H w) {Z':Nat->Prop} (hn:gr σ=true) (hc:eT H σ σ=true) (hZ:∀ b,Z' b->b<w.heap.size) (hZ0:∀ b,¬ G.Z b->¬ live ρ b->¬ Z' b) (hZ1:∀ b,live (cu ρ σ) b->¬ Z' b) :
  Rep ⟨G.shp,G.B0,Z'⟩ (cu ρ σ) (lN (posOf · σ) (iB H σ)) w/\(cx G ρ w).le (cx ⟨G.shp,G.B0,Z'⟩ (cu ρ σ) w):=by
 have hle:(cx G ρ w).le (cx ⟨G.shp,G.B0,Z'⟩ (cu ρ σ) w):=⟨rfl,rfl,fun b hb=>⟨⟨hb.1,fun hl=>hb.2.1 (fp hl),hZ0 b hb.2.2 hb.2.1⟩,rfl⟩,fun _ _ _=>rfl⟩
 have hcl:=eY.1 hc
 refine ⟨⟨cd (by simp [gI,oW,cu]) fun j o r ho hr=>?_,fun i j r r' g h1 h2 h3 h4=>?_,fun i r g h1 h2=>?_,hZ,hR.b0,hR.tb.carry hle⟩,hle⟩
 ·have hj:j<σ.length:=by
   have:=(List.getElem?_eq_some_iff.1 hr).1
   simpa [cu] using this
  have hσ:σ[j]? = some σ[j]:=List.getElem?_eq_getElem hj
  have hi:σ[j] ∈ σ:=List.getElem_mem _
  rw [wm hσ] at hr
  cases hr
  rw [lQ (sf (H:=H) hσ)] at ho
  cases ho
  obtain ⟨hlt,hids⟩:=hcl _ hi
  have hH:H[σ[j]]? = some H[σ[j]]:=List.getElem?_eq_getElem hlt
  have hO:getO H σ[j]=H[σ[j]]:=by unfold getO; rw [List.getD_eq_getElem?_getD,hH]; rfl
  obtain ⟨r,hr,hor⟩:=hR.at_ hH
  rw [getD_some hr,hO]
  rw [hO] at hids
  generalize H[σ[j]]=o at hor hids
  cases o with
  | gone=>exact hor
  | mapo s f=>
   obtain ⟨g,rfl,h⟩:=hor
   exact ⟨g,rfl,h.carry hle rfl⟩
  | loc=>trivial
  | mapf l=>
   obtain ⟨g,rfl,h⟩:=hor
   refine ⟨g,rfl,h.map (g0:=fun a=>a.ir (posOf · σ)) (lW l) (fun q hq v h=>Rd.ir (fun _ hp=>hp.carry hle) (fun s x o e=>?_) (fun _ _ _ _ h=>h.le hle) (fun i hi r hr _=>eH (hids i (nR hq hi)) hr) h) rfl⟩
   rw [e] at h ⊢
   obtain ⟨A,cells,k1,k2,k3,e⟩:=h
   exact ⟨A,cells,(hle.S _ k1).1,k2,k3.carry hle,e⟩
  | arr t s n xs=>
   obtain ⟨g,vs,rfl,h1,h2,h3⟩:=hor
   exact ⟨g,vs,rfl,h1,h2.carry hle,h3⟩
  | box t cs=>
   obtain ⟨g,vs,rfl,h1,h2⟩:=hor
   refine ⟨g,vs,rfl,h1,jQ (fun a ha v h=>Rd.ir (fun _ hp=>hp.carry hle) (fun s x o e=>?_) (fun _ _ _ _ h=>h.le hle) (fun i hi r hr _=>eH (hids i (gF ha hi)) hr) h) h2⟩
   subst e
   obtain ⟨A,cells,k1,k2,k3,e⟩:=h
   exact ⟨A,cells,(hle.S _ k1).1,k2,k3.carry hle,e⟩
  | row t s xs=>
   obtain ⟨h1,h2,h3⟩:=hor
   exact ⟨h1,h2,h3.imp id fun ⟨g,cap,cells,sp,e,h4,h5,h6⟩=>⟨g,cap,cells,sp,e,h4,h5.carry hle,h6⟩⟩
 ·have e1:=dx h1 (by rintro rfl; cases h3)
  have e2:=dx h2 (by rintro rfl; cases h4)
  have:=hR.inj _ _ _ _ g e1 e2 h3 h4
  have hi:i<σ.length:=by simpa [cu] using (List.getElem?_eq_some_iff.1 h1).1
  have hj:j<σ.length:=by simpa [cu] using (List.getElem?_eq_some_iff.1 h2).1
  have a1:σ.getD i 0=σ[i]:=by rw [List.getD_eq_getElem?_getD,List.getElem?_eq_getElem hi]; rfl
  have a2:σ.getD j 0=σ[j]:=by rw [List.getD_eq_getElem?_getD,List.getElem?_eq_getElem hj]; rfl
  rw [a1,a2] at this
  exact (List.getElem_inj (fO.1 hn)).1 this
 ·have e1:=dx h1 (by rintro rfl; cases h2)
  have:=hR.bnd _ _ g e1 h2
  exact ⟨this.1,this.2.1,hZ1 g ⟨i,r,h1,h2⟩⟩
end
section
variable {P:Program} {G:Gl} {O:cO} {n:Nat} {F:Fr} {w:World} {ρ:List RE} {H:AH}
theorem oZ (hO:bk P G.shp O) (hR:Rep G ρ H w) {f:Nat} {args:List TV1} {vs:List Value} {r:PR} (hvs:All2 (bX (cx G ρ w) ρ) args vs) (h:xi O H f args=some r) (hob:∀ p ∈ r.ob,p) :
  (∃ fn,P.funcs[f]? = some fn/\(fn.name == "runtime.NumGoroutine")=false/\fn.body.isNone=false)/\gw P f vs.toArray w fun v w'=>Kp [] w w' /\ Rt (cx G ρ w') ρ r.v v/\∀ p ∈ r.fc,p:=by
 unfold xi at h
 generalize hσ:nH H (yA H args)=σ at h
 simp only at h
 split at h
 ·rename_i hck
  simp only [Bool.and_eq_true] at hck
  obtain ⟨⟨⟨⟨hn,hai⟩,hcl⟩,hno⟩,hrw⟩:=hck
  split at h
  ·rename_i pre rs kp hrs
   split at h
   ·rename_i hsh
    cases h
    have hai:=fH.1 hai
    have hno:=iU.1 hno
    let lent:Nat->Prop:=fun b=>∃ id ∈ dN args,∃ rr,ρ[id]? = some rr/\rr.g? = some b
    let Z':Nat->Prop:=fun b=>G.Z b\/(live ρ b/\¬ live (cu ρ σ) b/\¬ lent b)
    have hlentσ:∀ b,lent b->¬ live (cu ρ σ) b:=by
     rintro b ⟨id,hid,rr,h1,h2⟩ ⟨j,r2,h3,h4⟩
     have e:=dx h3 (by rintro rfl; cases h4)
     have e2:=hR.inj _ _ _ _ b h1 e h2 h4
     have hj:j<σ.length:=by simpa [cu] using (List.getElem?_eq_some_iff.1 h3).1
     have a1:σ.getD j 0=σ[j]:=by rw [List.getD_eq_getElem?_getD,List.getElem?_eq_getElem hj]; rfl
     exact hno id hid (by rw [e2,a1]; exact List.getElem_mem _)
    obtain ⟨hR',hle⟩:=hR.sub (σ:=σ) (Z':=Z') hn hcl (fun b hb=>hb.elim (hR.z b) fun ⟨⟨i,r,h1,h2⟩,_⟩=>(hR.bnd i r b h1 h2).2.1) (fun b h1 h2 hz=>hz.elim h1 fun h3=>h2 h3.1)
     (fun b h1 hz=>hz.elim (fun h2=>by obtain ⟨i,r,h3,h4⟩:=fp h1; exact (hR.bnd i r b h3 h4).2.2 h2) fun h2=>h2.2.1 h1)
    obtain ⟨hfn,hrun⟩:=hO _ _ _ _ hrs hob
    refine ⟨hfn,?_⟩
    have hargs:All2 (bX (cx ⟨G.shp,G.B0,Z'⟩ (cu ρ σ) w) (cu ρ σ)) (fi (posOf · σ) (yA H args)) vs:=by
     refine ur (fun t ht a ha v hv=>?_) hvs
     have hids:∀ i ∈ (a.vw H).ids,i ∈ σ:=fun i hi=>hai i (gN (qT ht) (sx ha) hi)
     by_cases hown:∃ id,a = .own id\/∃ o k,a = .sub id o k
     ·obtain ⟨id,hid⟩:=hown
      have hmem:=mC ht ha hid
      cases hv2:a.vw H with
      | fz s xs=>
       refine ga (jT hR hle rfl hv (fun g cap len z ⟨id',he,h1⟩=>?_) hv2)
       have e:id' = id:=by rcases hid with rfl | ⟨o,k,rfl⟩ <;> rcases he with he | ⟨_,_,he⟩ <;> cases he <;> rfl
       subst e
       have hl:lent g:=⟨id',hmem,_,h1,rfl⟩
       have hb:=hR.bnd _ _ g h1 rfl
       exact ⟨hb.2.1,hlentσ g hl,fun hz=>hz.elim hb.2.2 fun h2=>h2.2.2 hl⟩
      | dead=>exact Rd.one hv
      | _=>
       rcases hid with rfl | ⟨o,k,rfl⟩ <;> simp only [AV.vw] at hv2 <;> split at hv2 <;> cases hv2
     ·have e:a.vw H=a:=by
       cases a <;> first | rfl | exact absurd ⟨_,.inl rfl⟩ hown | exact absurd ⟨_,.inr ⟨_,_,rfl⟩⟩ hown
      rw [e] at hids ⊢
      refine Rd.ir (fun _ hp=>hp.carry hle) (fun s x o e=>?_) (fun _ _ _ _ h=>h.le hle) (fun i hi r hr _=>eH (hids i hi) hr) hv
      subst e
      obtain ⟨A,cells,k1,k2,k3,e⟩:=hv
      exact ⟨A,cells,(hle.S _ k1).1,k2,k3.carry hle,e⟩
    refine (hrun ⟨G.shp,G.B0,Z'⟩ _ w vs rfl hR' hargs).mono fun v w' ⟨us,hv,hk,hrs'⟩=>?_
    refine ⟨hk,?_,Fj.jd hrs'⟩
    have hback:All2 (bX (cx G ρ w') ρ) (fi (fun j=>σ.getD j 0) rs) us:=by
     refine gZ (fun t ht a ha u hu=>?_) hrs'
     have hno5:∀ b ∈ dA H (dN args),a.no b=true:=fun b hb=>qY.1 (dT.1 hsh b hb) t ht a ha
     have hS:∀ b,(cx ⟨G.shp,G.B0,Z'⟩ (cu ρ σ) w').S b->(cx G ρ w').S b\/(¬ b<G.B0/\∃ sb ∈ dA H (dN args),∃ cur t fr,w'.heap[b]? = some (.cells cur t fr)/\G.shp t=some sb):=by
      rintro b ⟨h1,h2,h3⟩
      by_cases hl:live ρ b
      ·right
       have hlt:lent b:=by
        by_cases hx:lent b
        ·exact hx
        ·exact absurd (.inr ⟨hl,h2,hx⟩) h3
       obtain ⟨id,hid,rr,h4,h5⟩:=hlt
       have hb:=hR.bnd _ _ b h4 h5
       refine ⟨by omega,?_⟩
       have hlen:id<H.length:=by
        have:=(List.getElem?_eq_some_iff.1 h4).1
        rw [hR.obj.length]; exact this
       obtain ⟨r',hr',hor⟩:=hR.at_ (List.getElem?_eq_getElem hlen)
       rw [h4] at hr'
       cases hr'
       have hO:getO H id=H[id]:=by unfold getO; rw [List.getD_eq_getElem?_getD,List.getElem?_eq_getElem hlen]; rfl
       cases ho:H[id] with
       | gone=>rw [ho] at hor; cases hor; cases h5
       | box t cs=>
        -- a box is not lent
        exfalso
        have:∀ (l:List TV1) (us:List Value),All2 (bX (cx G ρ w) ρ) l us->id ∈ dN l->∃ g cap len z,ρ[id]? = some (.row g cap len z)\/ρ[id]? = some .emp:=by
         intro l us hl
         induction hl with
         | nil=>intro h; simp [dN] at h
         | @cons t u l us h1 _ ih=>
          intro h
          simp only [dN,List.mem_append] at h
          rcases h with h | h
          ·obtain ⟨us',hc',hcells⟩:=bX.cells h1
           clear h1 hc'
           generalize t.cells=q at h hcells
           induction hcells with
           | nil=>simp [dk] at h
           | @cons a' v' _ _ h3 _ ih2=>
            cases a' <;> simp only [dk,List.mem_cons] at h
            case own j=>
             rcases h with rfl | h
             ·rcases h3 with ⟨g,cap,len,z,h3,_⟩ | ⟨h3,_⟩
              ·exact ⟨g,cap,len,z,.inl h3⟩
              ·exact ⟨0,0,0,0,.inr h3⟩
             ·exact ih2 h
            case sub j o k=>
             rcases h with rfl | h
             ·rcases h3 with ⟨g,cap,len,z,h3,_⟩ | ⟨h3,_⟩
              ·exact ⟨g,cap,len,z,.inl h3⟩
              ·exact ⟨0,0,0,0,.inr h3⟩
             ·exact ih2 h
            all_goals exact ih2 h
          ·exact ih h
        obtain ⟨g,cap,len,z,h6⟩:=this _ _ hvs hid
        rw [ho] at hor
        obtain ⟨g',vs',rfl,_⟩:=hor
        rcases h6 with h6 | h6 <;> rw [h4] at h6 <;> cases h6
       | mapo s0 f0=>
        -- a map is not lent
        exfalso
        have:∀ (l:List TV1) (us:List Value),All2 (bX (cx G ρ w) ρ) l us->id ∈ dN l->∃ g cap len z,ρ[id]? = some (.row g cap len z)\/ρ[id]? = some .emp:=by
         intro l us hl
         induction hl with
         | nil=>intro h; simp [dN] at h
         | @cons t u l us h1 _ ih=>
          intro h
          simp only [dN,List.mem_append] at h
          rcases h with h | h
          ·obtain ⟨us',hc',hcells⟩:=bX.cells h1
           clear h1 hc'
           generalize t.cells=q at h hcells
           induction hcells with
           | nil=>simp [dk] at h
           | @cons a' v' _ _ h3 _ ih2=>
            cases a' <;> simp only [dk,List.mem_cons] at h
            case own j=>
             rcases h with rfl | h
             ·rcases h3 with ⟨g,cap,len,z,h3,_⟩ | ⟨h3,_⟩
              ·exact ⟨g,cap,len,z,.inl h3⟩
              ·exact ⟨0,0,0,0,.inr h3⟩
             ·exact ih2 h
            case sub j o k=>
             rcases h with rfl | h
             ·rcases h3 with ⟨g,cap,len,z,h3,_⟩ | ⟨h3,_⟩
              ·exact ⟨g,cap,len,z,.inl h3⟩
              ·exact ⟨0,0,0,0,.inr h3⟩
             ·exact ih2 h
            all_goals exact ih2 h
          ·exact ih h
        obtain ⟨g,cap,len,z,h6⟩:=this _ _ hvs hid
        rw [ho] at hor
        obtain ⟨g',rfl,_⟩:=hor
        rcases h6 with h6 | h6 <;> rw [h4] at h6 <;> cases h6
       | loc=>
        have:=iX.1 hrw id hid
        obtain ⟨t,s,xs,e⟩:=this
        rw [hO,ho] at e; cases e
       | mapf l0=>
        -- nor is a map of functions
        exfalso
        have:∀ (l:List TV1) (us:List Value),All2 (bX (cx G ρ w) ρ) l us->id ∈ dN l->∃ g cap len z,ρ[id]? = some (.row g cap len z)\/ρ[id]? = some .emp:=by
         intro l us hl
         induction hl with
         | nil=>intro h; simp [dN] at h
         | @cons t u l us h1 _ ih=>
          intro h
          simp only [dN,List.mem_append] at h
          rcases h with h | h
          ·obtain ⟨us',hc',hcells⟩:=bX.cells h1
           clear h1 hc'
           generalize t.cells=q at h hcells
           induction hcells with
           | nil=>simp [dk] at h
           | @cons a' v' _ _ h3 _ ih2=>
            cases a' <;> simp only [dk,List.mem_cons] at h
            case own j=>
             rcases h with rfl | h
             ·rcases h3 with ⟨g,cap,len,z,h3,_⟩ | ⟨h3,_⟩
              ·exact ⟨g,cap,len,z,.inl h3⟩
              ·exact ⟨0,0,0,0,.inr h3⟩
             ·exact ih2 h
            case sub j o k=>
             rcases h with rfl | h
             ·rcases h3 with ⟨g,cap,len,z,h3,_⟩ | ⟨h3,_⟩
              ·exact ⟨g,cap,len,z,.inl h3⟩
              ·exact ⟨0,0,0,0,.inr h3⟩
             ·exact ih2 h
            all_goals exact ih2 h
          ·exact ih h
        obtain ⟨g,cap,len,z,h6⟩:=this _ _ hvs hid
        rw [ho] at hor
        obtain ⟨g',rfl,_⟩:=hor
        rcases h6 with h6 | h6 <;> rw [h4] at h6 <;> cases h6
       | arr t0 s0 n0 xs0=>
        -- nor is an array
        exfalso
        have:∀ (l:List TV1) (us:List Value),All2 (bX (cx G ρ w) ρ) l us->id ∈ dN l->∃ g cap len z,ρ[id]? = some (.row g cap len z)\/ρ[id]? = some .emp:=by
         intro l us hl
         induction hl with
         | nil=>intro h; simp [dN] at h
         | @cons t u l us h1 _ ih=>
          intro h
          simp only [dN,List.mem_append] at h
          rcases h with h | h
          ·obtain ⟨us',hc',hcells⟩:=bX.cells h1
           clear h1 hc'
           generalize t.cells=q at h hcells
           induction hcells with
           | nil=>simp [dk] at h
           | @cons a' v' _ _ h3 _ ih2=>
            cases a' <;> simp only [dk,List.mem_cons] at h
            case own j=>
             rcases h with rfl | h
             ·rcases h3 with ⟨g,cap,len,z,h3,_⟩ | ⟨h3,_⟩
              ·exact ⟨g,cap,len,z,.inl h3⟩
              ·exact ⟨0,0,0,0,.inr h3⟩
             ·exact ih2 h
            case sub j o k=>
             rcases h with rfl | h
             ·rcases h3 with ⟨g,cap,len,z,h3,_⟩ | ⟨h3,_⟩
              ·exact ⟨g,cap,len,z,.inl h3⟩
              ·exact ⟨0,0,0,0,.inr h3⟩
             ·exact ih2 h
            all_goals exact ih2 h
          ·exact ih h
        obtain ⟨g,cap,len,z,h6⟩:=this _ _ hvs hid
        rw [ho] at hor
        obtain ⟨g',vs',rfl,_⟩:=hor
        rcases h6 with h6 | h6 <;> rw [h4] at h6 <;> cases h6
       | row t s xs=>
        rw [ho] at hor hO
        obtain ⟨h6,_,h7⟩:=hor
        refine ⟨s,jY hO hid,?_⟩
        rcases h7 with ⟨rfl,_⟩ | ⟨g,cap,cells,sp,rfl,h8,_⟩
        ·cases h5
        ·cases h5
         exact ⟨_,t,(0,0),(hk.block _ hb.2.1 (by simp)).trans h8,h6⟩
      ·left; exact ⟨h1,hl,fun hz=>h3 (.inl hz)⟩
     have hpd:∀ {b:AV} {u:Value},Pd (cx ⟨G.shp,G.B0,Z'⟩ (cu ρ σ) w') b u->(∀ sb ∈ dA H (dN args),DA 5 sb b=true)->Pd (cx G ρ w') b u:=fun hb hn=>Pd.zD (c:=cx ⟨G.shp,G.B0,Z'⟩ (cu ρ σ) w') (c':=cx G ρ w') (dA H (dN args)) rfl rfl rfl hS hb 5 hn
     refine Rd.ir (fun _ hp=>hpd hp fun sb hsb=>zw (hno5 sb hsb)) (fun s x o e=>?_) (fun k cs us e h=>h.Oi (c:=cx ⟨G.shp,G.B0,Z'⟩ (cu ρ σ) w') (c':=cx G ρ w') rfl rfl rfl hS fun sb hsb=>e ▸ hno5 sb hsb) (fun i hi r hr hne=>dx hr hne) hu
     subst e
     -- a pointer into what is frozen: nothing was lent
     have hnil:dA H (dN args)=[]:=by
      cases hq:dA H (dN args) with
      | nil=>rfl
      | cons b l=>have:=hno5 b (by rw [hq]; simp); simp [AV.no] at this
     rw [hnil] at hS
     have hS':(cx ⟨G.shp,G.B0,Z'⟩ (cu ρ σ) w').le (cx G ρ w'):=⟨rfl,rfl,fun b hb=>⟨(hS b hb).resolve_right fun ⟨_,sb,h,_⟩=>by simp at h,rfl⟩,fun _ _ _=>rfl⟩
     obtain ⟨A,cells,k1,k2,k3,e⟩:=hu
     exact ⟨A,cells,(hS'.S _ k1).1,k2,k3.carry hS',e⟩
    subst hv
    show Rt (cx G ρ w') ρ (yf (fi (fun j=>σ.getD j 0) rs)) (uZ us)
    generalize fi (fun j=>σ.getD j 0) rs=rs' at hback ⊢
    cases hback with
    | nil=>exact ⟨[],rfl,.nil⟩
    | @cons t u l us h1 h2=>
     cases h2 with
     | nil=>exact h1
     | cons h3 h4=>exact ⟨_,rfl,.cons h1 (.cons h3 h4)⟩
   ·cases h
  ·cases h
 ·cases h
end
def Yields (P:Program) (n:Nat) (F:Fr) (w:World) (op:Op) (ty:TypeId) (φ:Value->World->Prop):Prop:=
 (∃ v w',aU P n F w op ty v w' /\ φ v w')\/(∃ f args,qH P n F w op ty f args/\gw P f args w φ)
theorem Yields.mono {P:Program} {n:Nat} {F:Fr} {w:World} {op:Op} {ty:TypeId} {φ ψ:Value->World->Prop} (h:Yields P n F w op ty φ) (hh:∀ v w',φ v w' -> ψ v w'):Yields P n F w op ty ψ:=by
 rcases h with ⟨v,w',h1,h2⟩ | ⟨f,args,h1,h2⟩
 ·exact .inl ⟨v,w',h1,hh _ _ h2⟩
 ·exact .inr ⟨f,args,h1,h2.mono hh⟩
section
variable {P:Program} {n:Nat} {fr:Fr} {w:World} {x y:Operand} {ty t t' e:TypeId}
theorem R.Ag {v:Value} {c:Cx} {xs:List UInt8} (hw:c.w=w) (hx:ev fr x=some v) (hs:P.underlying t=some (.slice e)) (hd:P.underlying t' = some .string) (he:P.underlying e=some (.int .u8)) (h:Sread c .u8 xs v) :
  aU P n fr w (.convert t t' x) ty (⟨xs⟩:Str).val w:=fun _ _ _ _ _ ha=>by
 obtain ⟨a,k,cells,rfl,h1,h2,h3,h4⟩:=h.ex
 have hfl:cells=xs.map fun b=>Value.int .u8 (b.toNat:Int):=by
  have:∀ (l:List UInt8) (vs:List Value),Pds c (l.flatMap (cellsOf .u8)) vs->vs=l.map fun b=>Value.int .u8 (b.toNat:Int):=by
   intro l
   induction l with
   | nil=>intro vs h; cases h; rfl
   | cons b l ih=>
    intro vs h
    rw [List.flatMap_cons] at h
    cases h with
    | cons h1 h2=>cases h1; rw [ih _ h2]; rfl
  exact this _ _ h3
 have main:(convert t t' (.slice a xs.length k)).run P w = .ok (.string ⟨xs.toArray⟩) w:=by
  cases a with
  | none=>
   have hn:xs=[]:=by
    rcases h4 with h4 | ⟨A,hA,_⟩
    ·exact h4
    ·cases hA
   subst hn
   rw [run_convert_bytes_string w t t' e none _ k hs he hd]; rfl
  | some A=>
   refine run_convert_bytes_back w t t' e A k xs hs he hd fun j hj=>?_
   rcases h4 with h4 | ⟨A',hA,_,hc⟩
   ·subst h4; simp at hj
   ·cases hA
    rw [hfl,hw] at hc
    exact hc j _ (by simp [hj])
 simp [execOp,ha.ev hx,main,Str.val]
theorem R.Cv {s:Str} (hx:ev fr x=some s.val) (hlen:s.b.length<=140737488355328) (hs:P.underlying t=some .string) (hd:P.underlying t' = some (.slice e)) (he:P.underlying e=some (.int .u8)) :
  ∃ a k w',aU P n fr w (.convert t t' x) ty (.slice a s.b.length k) w' /\ Kp [] w w' /\ s.b.length<=k/\k<=maxLen/\a=some ⟨w.heap.size,0,none⟩/\w.heap.size<w'.heap.size/\CellsAt w' ⟨w.heap.size,0,none⟩ (s.b.map fun b=>Value.int .u8 (b.toNat:Int))/\∃ C fz,w'.heap[w.heap.size]? = some (.cells C e fz):=by
 have hrun:=run_bytes_of_string w t t' e ⟨s.b.toArray⟩ hs hd he
 have hsz:(⟨s.b.toArray⟩:ByteArray).size=s.b.length:=by simp [ByteArray.size]
 have hge:=grownCap_ge w (⟨s.b.toArray⟩:ByteArray).size 0 e
 have hle:=grownCap_le_maxLen w (⟨s.b.toArray⟩:ByteArray).size 0 e (by rw [hsz]; simp [maxLen]; omega)
 generalize hcap:grownCap w (⟨s.b.toArray⟩:ByteArray).size 0 e=cap at *
 rw [hsz] at hge
 generalize hC:bytesRow ⟨s.b.toArray⟩ cap=C at hrun
 have hnew:(w.drew.alloc (.cells C e (C.size,C.size+1))).heap[w.heap.size]? = some (.cells C e (C.size,C.size+1)):=heap_alloc_new w.drew _
 refine ⟨some ⟨w.heap.size,0,none⟩,cap,w.drew.alloc (.cells C e (C.size,C.size+1)),fun a _ _ _ _ ha=>?_,?_,hge,hle,rfl,by simp,fun j v hv=>?_,C,_,hnew⟩
 ·rw [hsz] at hrun
  simp only [Str.val] at hx
  simp [execOp,ha.ev hx,hrun]
 ·have:=Kp.alloc w.drew (.cells C e (C.size,C.size+1))
  exact ⟨this.os,this.tape,this.output,this.size,this.block⟩
 ·rw [add_lit,Nat.zero_add,cell_of_row _ w.heap.size j C _ _ hnew]
  subst hC
  simp only [List.getElem?_map,Option.map_eq_some_iff] at hv
  obtain ⟨b,hb,rfl⟩:=hv
  have hj:j<s.b.length:=(List.getElem?_eq_some_iff.1 hb).1
  rw [List.getElem?_eq_getElem hj] at hb
  have hb2:=Option.some.inj hb
  simp [bytesRow,hj,Array.getElem?_append,hb2]
theorem jF (s:Str):(⟨s.b.toArray⟩:ByteArray).size=s.b.length:=by simp [ByteArray.size]
theorem R.NG {s:Str} {i:Nat} {k:IntKind} {z:Operand} (hx:ev fr x=some s.val) (hz:ev fr z=some (.int k (i:Int))) (ht:P.underlying t=some .string) (hi:i<=s.b.length):aU P n fr w (.slice t x (some z) none none) ty (⟨s.b.drop i⟩:Str).val w:=fun _ _ _ _ _ ha=>by
 have e0:=run_sliceAt_string (P:=P) w t (.string ⟨s.b.toArray⟩) (some (.int k (i:Int))) none none ht
 have:=run_slice_string_l (P:=P) w t ⟨s.b.toArray⟩ ht k (i:Int) (by omega) (by rw [jF]; omega)
 have e:s.cut i s.b.length=⟨s.b.drop i⟩:=by simp [Str.cut,<- List.length_drop]
 rw [<- e,<- Str.pJ s i s.b.length]
 rw [jF,Int.toNat_natCast] at this
 simp only [Str.val] at hx
 simp [execOp,ha.ev hx,ha.ev hz,e0,this]
theorem R.LN {s:Str} {i j:Nat} {k k':IntKind} {z z':Operand} (hx:ev fr x=some s.val) (hz:ev fr z=some (.int k (i:Int))) (hz':ev fr z' = some (.int k' (j:Int))) (ht:P.underlying t=some .string) (hij:i<=j) (hj:j<=s.b.length):aU P n fr w (.slice t x (some z) (some z') none) ty (⟨(s.b.drop i).take (j - i)⟩:Str).val w:=fun _ _ _ _ _ ha=>by
 have e0:=run_sliceAt_string (P:=P) w t (.string ⟨s.b.toArray⟩) (some (.int k (i:Int))) (some (.int k' (j:Int))) none ht
 have:=run_slice_string (P:=P) w t ⟨s.b.toArray⟩ k k' (i:Int) (j:Int) ht (by omega) (by omega) (by rw [jF]; omega)
 have e:(⟨(s.b.drop i).take (j - i)⟩:Str)=s.cut i j:=rfl
 rw [e,<- Str.pJ s i j]
 rw [Int.toNat_natCast,Int.toNat_natCast] at this
 simp only [Str.val] at hx
 simp [execOp,ha.ev hx,ha.ev hz,ha.ev hz',e0,this]
theorem R.Kc {s:Str} {j:Nat} {k:IntKind} {z:Operand} (hx:ev fr x=some s.val) (hz:ev fr z=some (.int k (j:Int))) (ht:P.underlying t=some .string) (hj:j<=s.b.length):aU P n fr w (.slice t x none (some z) none) ty (⟨s.b.take j⟩:Str).val w:=by
 have:=R.MN (P:=P) (n:=n) (w:=w) (ty:=ty) hx hz ht hj
 have e:s.cut 0 j=⟨s.b.take j⟩:=by simp [Str.cut]
 rwa [e] at this
theorem R.LA {s:Str} {i:Nat} {k:IntKind} (hx:ev fr x=some s.val) (hy:ev fr y=some (.int k (i:Int))) (ht:P.underlying t=some .string) (hi:i<s.b.length):aU P n fr w (.index t x y) ty (.int .u8 ((s.b.getD i 0).toNat:Int)) w:=fun _ _ _ _ _ ha=>by
 have:=run_index_string (P:=P) w t ⟨s.b.toArray⟩ k (i:Int) ht
 rw [dif_pos ⟨by omega,by rw [jF]; omega⟩] at this
 simp only [Str.val] at hx
 have e:((⟨s.b.toArray⟩:ByteArray)[(i:Int).toNat]'(by simp [ByteArray.size]; omega))=s.b.getD i 0:=by
  rw [List.getD_eq_getElem?_getD,List.getElem?_eq_getElem hi]
  simp [ByteArray.getElem_eq_getElem_data]
 rw [e] at this
 simp [execOp,ha.ev hx,ha.ev hy,this]
end
section
variable {P:Program} {T:List (Nat × TI)} {G:Gl} {n:Nat} {F:Fr} {w:World} {x y:Operand} {ty t t':TypeId} {ρ:List RE} {H:AH}
theorem uX (hT:bn P G.shp T) {s:Sh} (h:JA T t=some s):∃ e,P.underlying t=some (.slice e)/\G.shp e=some s/\(∃ z:List Value,(P.info? e).map (fun i=>(i.zero.map Value.cells,i.size,i.bytes))=some (some z.toArray,s.size,s.bytes)/\re (cellsOf s (aG s)) z=true)/\(P.info? e).map (·.size)=some s.size/\(s = .u8->P.underlying e=some (.int .u8)/\(P.info? e).bind (·.zero)=some (.int .u8 0)):=by
 unfold JA at h
 split at h
 ·rename_i e so sz z hf
  subst h
  obtain ⟨h1,h2⟩:=(hT _ _ hf).2
  obtain ⟨h3,⟨zz,h4,h5⟩,h6⟩:=h2 s rfl
  refine ⟨e,h1,h3,⟨zz,h4,h5⟩,?_,h6⟩
  cases hq:P.info? e with
  | none=>simp [hq] at h4
  | some i=>simp only [hq,Option.map_some,Option.some.injEq,Prod.mk.injEq] at h4 ⊢; exact h4.2.1
 ·cases h
theorem jU {b:AV} {i:Int} {v:Value} {c:Cx} (h:b.ix=some i) (hb:Rd c ρ b v):∃ k,v = .int k i:=by
 cases b <;> simp only [AV.ix] at h <;> cases h
 ·cases hb with | int=>exact ⟨_,rfl⟩
 ·cases hb with | u8=>exact ⟨_,rfl⟩
 ·cases hb with | u64=>exact ⟨_,rfl⟩
theorem Bk {c:Cx} {s:Sh} {xs:List (den s)} {v:Value} {i:Nat} {x:den s} (h:Pd c (.fz s xs) v) (hx:xs[i]? = some x):∃ A k,v = .slice (some A) xs.length k/\i<xs.length/\Rd c ρ (.fe s x 0) (.pointer (some (A.add (i*s.size))))/\∃ us,Pds c (cellsOf s x) us:=by
 have hi:i<xs.length:=(List.getElem?_eq_some_iff.1 hx).1
 cases h with
 | fz h1 h2 h3 h4 h5=>
  rcases h5 with h5 | ⟨A,rfl,hat,hc⟩
  ·subst h5; simp at hi
  ·have h7:=(h4.drop (i*s.size)).take s.size
   rw [jh hx] at h7
   refine ⟨A,_,rfl,hi,⟨A.add (i*s.size),_,by rw [ey]; exact hat.1,(hc.shift _).take _,h7,by rw [oJ]⟩,_,h7⟩
theorem jl {s:Sh} {xs:List (den s)} {i:Nat} (h:i<xs.length):xs[i]? = some (xs.getD i (aG s)):=by
 rw [List.getD_eq_getElem?_getD,List.getElem?_eq_getElem h]; rfl
theorem yW {a:Option Addr} {c i s:Nat} {c':Cx} {sh:Sh} {ys:List (den sh)} {cells:List Value} (hi:i<=c) {A:Addr} (hA:a=some A) (hcells:CellsAt c'.w A cells) (hat:c'.at sh A.block) (hys:Pds c' (ys.flatMap (cellsOf sh)) ((cells.drop (i*s)).take (ys.length*s))) (hl:ys.length<=c - i) (hc:c<=maxLen) (hb:ys.length*sh.bytes<=140737488355328) :
  Pd c' (.fz sh ys) (.slice (if c=i then a else a.map (·.add (i*s))) ys.length (c - i)):=by
 refine .fz hl (by omega) hb hys ?_
 by_cases h:c=i
 ·left; exact List.eq_nil_of_length_eq_zero (by omega)
 ·right
  rw [if_neg h,hA]
  exact ⟨A.add (i*s),rfl,by rw [ey]; exact hat,(hcells.shift _).take _⟩
theorem yj (hT:bn P G.shp T) (hR:Rep G ρ H w) {s':Sh} {a:AV} {i:Int} {r:PR} {va:Value} {k:IntKind} (hs:JA T t=some s') (h:ni H s' a i=some r) (hob:∀ p ∈ r.ob,p) (ha:Rd (cx G ρ w) ρ a va) (hx:ev F x=some va) (hy:ev F y=some (.int k i)) :
  ∃ v,aU P n F w (.indexAddr t x y) ty v w/\Rt (cx G ρ w) ρ r.v v/\∀ p ∈ r.fc,p:=by
 obtain ⟨e,hu,_,_,hsz,_⟩:=uX hT hs
 cases a with
 | fz s xs=>
  simp only [ni] at h
  split at h
  ·rename_i hd
   cases h
   have e1:s' = s:=of_decide_eq_true hd
   subst e1
   have h0:=hob _ (List.mem_cons_self); have h1:=hob _ (List.mem_cons_of_mem _ (List.mem_singleton_self _))
   obtain ⟨j,rfl⟩:=Int.eq_ofNat_of_zero_le h0
   have hj:j<xs.length:=by omega
   obtain ⟨A,kk,rfl,_,hfe,us,hus⟩:=Bk (ρ:=ρ) ha (jl hj)
   exact ⟨_,R.dV hx hy hu hsz rfl hj,hfe,hus.jd⟩
  ·cases h
 | own id=>
  simp only [ni] at h
  split at h
  ·rename_i t0 s xs hH
   split at h
   ·rename_i hd
    cases h
    have e1:s' = s:=of_decide_eq_true hd
    subst e1
    have h0:=hob _ (List.mem_cons_self); have h1:=hob _ (List.mem_cons_of_mem _ (List.mem_singleton_self _))
    obtain ⟨j,rfl⟩:=Int.eq_ofNat_of_zero_le h0
    have hj:j<xs.length:=by omega
    rcases bJ hR hH with ⟨_,rfl⟩ | ⟨g,cap,cells,sp,h2,h3,h4,h5⟩
    ·simp at hj
    ·rcases ha with ⟨_,_,_,_,h6,rfl⟩ | ⟨h6,_⟩
     ·rw [h2] at h6; cases h6
      have:=R.dV (P:=P) (n:=n) (w:=w) (ty:=ty) hx hy hu hsz rfl hj
      rw [add_lit,Nat.zero_add] at this
      have h7:=(h4.drop (j*s'.size)).take s'.size
      rw [jh (jl hj)] at h7
      exact ⟨_,this,⟨g,cap,xs.length,s'.size,h2,hj,rfl⟩,h7.jd⟩
     ·rw [h2] at h6; cases h6
   ·cases h
  ·cases h
 | _=>simp [ni] at h
theorem xr (hT:bn P G.shp T) {c:Cx} {a:AV} {l h:Option Int} {ol oh:Option Operand} {r:PR} {va:Value} (hr:gl T t a l h=some r) (hob:∀ p ∈ r.ob,p) (ha:Rd c ρ a va) (hx:ev F x=some va)
  (hl:∀ i,l=some i->∃ z,ol=some z/\ev F z=some (.int .i64 i)) (hl0:l=none->ol=none) (hh:∀ i,h=some i->∃ z,oh=some z/\ev F z=some (.int .i64 i)) (hh0:h=none->oh=none) :
  ∃ v,aU P n F w (.slice t x ol oh none) ty v w/\Rt c ρ r.v v/\r.fc=[]:=by
 cases a with
 | fz s xs=>
  simp only [gl] at hr
  split at hr
  ·rename_i s' hs
   split at hr
   ·rename_i hd
    have e1:s' = s:=of_decide_eq_true hd
    subst e1
    obtain ⟨e,hu,_,_,hsz,_⟩:=uX hT hs
    cases ha with
    | @fz _ _ a k cells h1 h2 h3 h4 h5=>
    have main:∀ (i:Nat) (ys:List (den s')),i<=xs.length->ys.length<=xs.length - i->Pds c (ys.flatMap (cellsOf s')) ((cells.drop (i*s'.size)).take (ys.length*s'.size))->Pd c (.fz s' ys) (.slice (if k=i then a else a.map (·.add (i*s'.size))) ys.length (k - i)):=by
     intro i ys hi hy hp
     rcases h5 with h5 | ⟨A,rfl,hat,hc⟩
     ·subst h5
      have h00:([]:List (den s')).length=0:=rfl
      have:ys=[]:=List.eq_nil_of_length_eq_zero (by omega)
      subst this
      exact .fz (xs:=([]:List (den s'))) (cells:=[]) (by simp) bt (by simp) .nil (.inl rfl)
     ·exact yW bt rfl hc hat hp bt h2 (jX h3 bt)
    have hcl:cells.length=xs.length*s'.size:=by rw [<- h4.length,bT]
    split at hr
    ·-- from l
     rename_i i
     cases hr
     obtain ⟨z,rfl,hz⟩:=hl _ rfl
     obtain rfl:=hh0 rfl
     have g0:=hob _ (List.mem_cons_self); have g1:=hob _ (List.mem_cons_of_mem _ (List.mem_singleton_self _))
     obtain ⟨i,rfl⟩:=Int.eq_ofNat_of_zero_le g0
     have hi:i<=xs.length:=by omega
     have:=main i (xs.drop i) hi (by simp) (by
      rw [List.length_drop,List.take_of_length_le (by rw [List.length_drop,hcl,Nat.sub_mul]; omega)]
      exact bY h4 i)
     rw [List.length_drop] at this
     exact ⟨_,R.cr hx hz hu hsz rfl hi,this,rfl⟩
    ·rename_i j
     cases hr
     obtain ⟨z,rfl,hz⟩:=hh _ rfl
     obtain rfl:=hl0 rfl
     have g0:=hob _ (List.mem_cons_self); have g1:=hob _ (List.mem_cons_of_mem _ (List.mem_singleton_self _))
     obtain ⟨j,rfl⟩:=Int.eq_ofNat_of_zero_le g0
     have hj:j<=xs.length:=by omega
     have hlen:(xs.take j).length=j:=by simp; omega
     have:=main 0 (xs.take j) (by omega) (by simp; omega) (by
      rw [hlen,Nat.zero_mul,List.drop_zero]
      exact bO h4 j)
     rw [hlen] at this
     exact ⟨_,R.j_ hx hz hu hsz rfl bt,this,rfl⟩
    ·rename_i i j
     cases hr
     obtain ⟨z,rfl,hz⟩:=hl _ rfl
     obtain ⟨z',rfl,hz'⟩:=hh _ rfl
     have g0:=hob _ (List.mem_cons_self); have g1:=hob _ (List.mem_cons_of_mem _ (List.mem_cons_self)); have g2:=hob _ (List.mem_cons_of_mem _ (List.mem_cons_of_mem _ (List.mem_singleton_self _)))
     obtain ⟨i,rfl⟩:=Int.eq_ofNat_of_zero_le g0
     obtain ⟨j,rfl⟩:=Int.eq_ofNat_of_zero_le (Int.le_trans g0 g1)
     have hlen:((xs.drop i).take (j - i)).length=j - i:=by simp; omega
     have:=main i ((xs.drop i).take (j - i)) (by omega) (by simp; omega) (by
      rw [hlen]
      exact bO (bY h4 i) (j - i))
     rw [hlen] at this
     exact ⟨_,R.xe hx hz hz' hu hsz rfl bt bt,this,rfl⟩
    ·cases hr
   ·cases hr
  ·cases hr
 | str s=>
  simp only [gl] at hr
  split at hr
  ·rename_i sz z hf
   have hu:P.underlying t=some .string:=(hT _ _ hf).2
   cases ha with
   | str hs=>
   split at hr
   ·cases hr
    obtain ⟨z,rfl,hz⟩:=hl _ rfl
    obtain rfl:=hh0 rfl
    have g0:=hob _ (List.mem_cons_self); have g1:=hob _ (List.mem_cons_of_mem _ (List.mem_singleton_self _))
    obtain ⟨i,rfl⟩:=Int.eq_ofNat_of_zero_le g0
    exact ⟨_,R.NG hx hz hu bt,Pd.str (by simp; omega),rfl⟩
   ·cases hr
    obtain ⟨z,rfl,hz⟩:=hh _ rfl
    obtain rfl:=hl0 rfl
    have g0:=hob _ (List.mem_cons_self); have g1:=hob _ (List.mem_cons_of_mem _ (List.mem_singleton_self _))
    obtain ⟨i,rfl⟩:=Int.eq_ofNat_of_zero_le g0
    exact ⟨_,R.Kc hx hz hu bt,Pd.str (by simp; omega),rfl⟩
   ·cases hr
    obtain ⟨z,rfl,hz⟩:=hl _ rfl
    obtain ⟨z',rfl,hz'⟩:=hh _ rfl
    have g0:=hob _ (List.mem_cons_self); have g1:=hob _ (List.mem_cons_of_mem _ (List.mem_cons_self)); have g2:=hob _ (List.mem_cons_of_mem _ (List.mem_cons_of_mem _ (List.mem_singleton_self _)))
    obtain ⟨i,rfl⟩:=Int.eq_ofNat_of_zero_le g0
    obtain ⟨j,rfl⟩:=Int.eq_ofNat_of_zero_le (Int.le_trans g0 g1)
    exact ⟨_,R.LN hx hz hz' hu bt bt,Pd.str (by simp; omega),rfl⟩
   ·cases hr
  ·cases hr
 | _=>simp [gl] at hr
theorem EI (hT:bn P G.shp T) (hR:Rep G ρ H w) {a:AV} {m:Int} {va:Value} (h:Hi T H t a=some m) (ha:Rd (cx G ρ w) ρ a va) (hx:ev F x=some va):aU P n F w (.call { callee:=.builtin .len,args:=#[x],argTypes:=#[t] }) ty (.int .i64 m) w/\I64 m:=by
 have hmax:∀ k:Nat,k<=maxLen->I64 (k:Int):=fun k hk=>by simp only [maxLen] at hk; exact ⟨by omega,by omega⟩
 unfold Hi at h
 split at h
 ·rename_i s xs e so sz z hf
  cases h
  cases ha with
  | fz h1 h2 h3 h4 h5=>exact ⟨R.len hx (hT _ _ hf).2.1,hmax _ (Nat.le_trans h1 h2)⟩
 ·rename_i s sz z hf
  cases h
  cases ha with
  | str hs=>exact ⟨R.MU hx (hT _ _ hf).2,⟨by omega,by omega⟩⟩
 ·rename_i b e so sz z hf
  cases h
  cases ha with
  | em hs=>exact ⟨R.len hx (hT _ _ hf).2.1,⟨by omega,by omega⟩⟩
 ·rename_i id e so sz z hf
  split at h
  ·rename_i t0 s xs hH
   cases h
   rcases bJ hR hH with ⟨h0,rfl⟩ | ⟨g,cap,cells,sp,h2,h3,h4,h5,h6,h7⟩
   ·rcases ha with ⟨_,_,_,_,h6,_⟩ | ⟨_,a,rfl⟩
    ·rw [h0] at h6; cases h6
    ·exact ⟨R.len hx (hT _ _ hf).2.1,⟨by simp,by simp⟩⟩
   ·rcases ha with ⟨_,_,_,_,h8,rfl⟩ | ⟨h8,_⟩
    ·rw [h2] at h8; cases h8
     exact ⟨R.len hx (hT _ _ hf).2.1,hmax _ (Nat.le_trans h6 h7)⟩
    ·rw [h2] at h8; cases h8
  ·cases h
 ·rename_i id off len e so sz z hf
  split at h
  ·rename_i t0 s xs hH
   cases h
   rcases ha with ⟨g,cap,L,zz,h1,h2,rfl⟩ | ⟨_,_,rfl,a,rfl⟩
   ·refine ⟨R.len hx (hT _ _ hf).2.1,?_⟩
    rcases bJ hR hH with ⟨h0,_⟩ | ⟨g',cap',cells,sp,h3,_,_,_,h6,h7⟩
    ·rw [h0] at h1; cases h1
    ·rw [h3] at h1; cases h1
     exact hmax _ bt
   ·exact ⟨R.len hx (hT _ _ hf).2.1,⟨by simp,by simp⟩⟩
  ·cases h
 ·rename_i cs e so sz z hf
  cases h
  obtain ⟨us,h1,A,rfl,h2,_⟩:=ha
  have hl:=h1.length
  rw [hl]
  exact ⟨R.len hx (hT _ _ hf).2.1,⟨by omega,by omega⟩⟩
 ·cases h
end
end Go.Proofs.Ytjmbgkmkinmlkaa
namespace Go.Proofs.Ytjmbgkmkinmlkaa
open Go.RowKit
open Go.MapKept (IsKey run_checkKey run_findKey run_setObj_map heap_set heap_alloc run_keyThatStays)
theorem kU {k:Int}:∀ {l:List MapEntry} {i:Nat},(∀ e ∈ l,∃ k,e.key = .int .i64 k) ->
  (∃ j e,l[j]? = some e/\e.key = .int .i64 k/\Instr.findNow (.int .i64) (.int .i64 k) l i=some (some (i+j,e.val))/\getM k l=some e.val /\
   ∀ v q,getM q (l.modify j fun e=>{ e with key:=.int .i64 k,val:=v })=if q=k then some v else getM q l) \/
  (Instr.findNow (.int .i64) (.int .i64 k) l i=some none/\getM k l=none/\∀ v q b,getM q (l++[{ key:=.int .i64 k,val:=v,born:=b }])=if q=k then some v else getM q l)
 | [],i,_=>.inr ⟨rfl,rfl,fun v q b=>by
   by_cases hq:q=k
   ·subst hq; simp [getM,lI]
   ·have:¬ (k=q):=fun h=>hq h.symm
    simp [getM,lI,hq,this]⟩
 | e :: l,i,h=>by
  obtain ⟨k0,hk⟩:=h e (by simp)
  have hr:=fun x hx=>h x (List.mem_cons_of_mem _ hx)
  by_cases hkk:k=k0
  ·subst hkk
   refine .inl ⟨0,e,rfl,hk,?_,?_,fun v q=>?_⟩
   ·simp [Instr.findNow,hk,Instr.sameNow]
   ·simp [getM,lI,hk]
   ·by_cases hq:q=k
    ·subst hq; simp [getM,lI]
    ·have hq2:¬ (k=q):=fun h=>hq h.symm
     simp [getM,lI,hk,hq,hq2]
  ·have hb:(k == k0)=false:=by simpa using hkk
   have hb2:¬ (k0=k):=fun h=>hkk h.symm
   rcases kU (k:=k) (i:=i+1) hr with ⟨j,e',h1,h2,h3,h3b,h4⟩ | ⟨h1,h2,h3⟩
   ·refine .inl ⟨j+1,e',h1,h2,?_,?_,fun v q=>?_⟩
    ·simp [Instr.findNow,hk,Instr.sameNow,hb,h3]; omega
    ·simp [getM,lI,hk,hb2,h3b]
    ·by_cases hq:q=k0
     ·subst hq
      simp [getM,lI,hk,hb2]
     ·have hq2:¬ (k0=q):=fun h=>hq h.symm
      have:=h4 v q
      simp [getM,lI,hk,hq2]
      simpa using this
   ·refine .inr ⟨?_,?_,fun v q b=>?_⟩
    ·simp [Instr.findNow,hk,Instr.sameNow,hb,h1]
    ·simp [getM,lI,hk,hb2,h2]
    ·by_cases hq:q=k0
     ·subst hq
      simp [getM,lI,hk,hb2]
     ·have hq2:¬ (k0=q):=fun h=>hq h.symm
      have:=h3 v q b
      simp [getM,lI,hk,hq2]
      simpa using this
section
variable {P:Program} {n:Nat} {F:Fr} {w:World} {x y z':Operand} {t ty kt et:TypeId} {g c:Nat} {k:Int} {a:Array MapEntry}
theorem R.vS {z:Value} (ok:Bool) (hx:ev F x=some (.map (some g))) (hy:ev F y=some (.int .i64 k)) (hm:P.underlying t=some (.map kt et)) (hk:P.underlying kt=some (.int .i64)) (hz:(P.info? et).bind (·.zero)=some z) (hg:w.heap[g]? = some (.map a c)) (hl:∀ e ∈ a.toList,∃ k,e.key = .int .i64 k) :
  aU P n F w (.lookup t x y ok) ty (if ok then .tuple #[(getM k a.toList).getD z,.bool (getM k a.toList).isSome] else (getM k a.toList).getD z) w:=fun a' _ _ _ _ ha=>by
 have hik:IsKey (.int .i64) (.int .i64 k):=rfl
 have e2:(zeroValue et).run P w = .ok z w:=by
  cases hq:P.info? et with
  | none=>simp [hq] at hz
  | some i=>simp [hq] at hz; simp [zeroValue,typeInfo,hq,hz]
 have e:(Instr.lookup t (.map (some g)) (.int .i64 k) ok).run P w = .ok (if ok then .tuple #[(getM k a.toList).getD z,.bool (getM k a.toList).isSome] else (getM k a.toList).getD z) w:=by
  unfold Instr.lookup
  simp only [Sem.run_bind,run_underlying hm,Result.andThen]
  rcases kU (k:=k) (i:=0) hl with ⟨j,e0,_,_,h1,h2,_⟩ | ⟨h1,h2,_⟩
  ·simp only [Sem.run_bind,MapKept.run_getObj_map hg,Result.andThen,Sem.run_pure,show (10000:Nat)=9999+1 from rfl,run_checkKey hk hik,run_findKey hk h1]
   cases ok <;> simp [h2]
  ·simp only [Sem.run_bind,MapKept.run_getObj_map hg,Result.andThen,Sem.run_pure,show (10000:Nat)=9999+1 from rfl,run_checkKey hk hik,run_findKey hk h1]
   cases ok <;> simp [h2,e2]
 simp [execOp,ha.ev hx,ha.ev hy,e]
theorem R.sa:aU P n F w (.makeMap t none) ty (.map (some w.heap.size)) (w.alloc (.map #[] 0)):=fun a _ _ _ _ ha=>by
 simp [execOp,Instr.makeMap,newObj,Sem.run]
theorem Fu {v:Value} (hx:ev F x=some (.map (some g))) (hy:ev F y=some (.int .i64 k)) (hv:ev F z' = some v) (hm:P.underlying t=some (.map kt et)) (hk:P.underlying kt=some (.int .i64)) (hg:w.heap[g]? = some (.map a c)) (hl:∀ e ∈ a.toList,∃ k,e.key = .int .i64 k) :
  ∃ w' a' c',(eO P n F w (.insert t x y z') ty w' /\ eO P n F w (.mapUpdate t x y z') ty w')/\Kp [g] w w' /\ w'.heap[g]? = some (.map a' c')/\(∀ e ∈ a'.toList,∃ k,e.key = .int .i64 k)/\∀ q,getM q a'.toList=if q=k then some v else getM q a.toList:=by
 have hik:IsKey (.int .i64) (.int .i64 k):=rfl
 have fin:∀ a' c',(Instr.mapUpdate t (.map (some g)) (.int .i64 k) v).run P w = .ok () { w with heap:=w.heap.setIfInBounds g (.map a' c') }->(∀ e ∈ a'.toList,∃ k,e.key = .int .i64 k)->(∀ q,getM q a'.toList=if q=k then some v else getM q a.toList) ->
   ∃ w' a' c',(eO P n F w (.insert t x y z') ty w' /\ eO P n F w (.mapUpdate t x y z') ty w')/\Kp [g] w w' /\ w'.heap[g]? = some (.map a' c')/\(∀ e ∈ a'.toList,∃ k,e.key = .int .i64 k)/\∀ q,getM q a'.toList=if q=k then some v else getM q a.toList:=by
  intro a' c' e h1 h2
  have hs:=heap_set (o':=.map a' c') hg
  refine ⟨{ w with heap:=w.heap.setIfInBounds g (.map a' c') },a',c',⟨fun a'' _ _ _ _ ha=>?_,fun a'' _ _ _ _ ha=>?_⟩,⟨rfl,rfl,rfl,by simp,fun i hi hn=>hs.2 i (by simpa using hn)⟩,by simpa using hs.1,h1,h2⟩
  ·simp [execOp,ha.ev hx,ha.ev hy,ha.ev hv,e]
  ·simp [execOp,ha.ev hx,ha.ev hy,ha.ev hv,e]
 rcases kU (k:=k) (i:=0) hl with ⟨j,e0,hj,he,h1,_,h2⟩ | ⟨h1,_,h3⟩
 ·have hj':a[j]? = some e0:=by simpa using hj
  refine fin (a.modify j fun e=>{ e with key:=.int .i64 k,val:=v }) c ?_ ?_ ?_
  ·rw [Nat.zero_add] at h1
   simp [Instr.mapUpdate,run_underlying hm,MapKept.run_getObj_map hg,run_checkKey hk hik,run_findKey hk h1,hj',he,run_keyThatStays hik,run_setObj_map _ hg,Result.andThen]
  ·intro e hem
   rcases MapFrom.mem_modify hem with h | ⟨e',_,rfl⟩
   ·exact hl e h
   ·exact ⟨k,rfl⟩
  ·intro q
   rw [Array.toList_modify,h2 v q]
 ·refine fin (a.push { key:=.int .i64 k,val:=v,born:=c }) (c+1) ?_ ?_ ?_
  ·simp [Instr.mapUpdate,run_underlying hm,MapKept.run_getObj_map hg,run_checkKey hk hik,run_findKey hk h1,run_setObj_map _ hg,Result.andThen]
  ·intro e hem
   simp only [Array.toList_push,List.mem_append,List.mem_singleton] at hem
   rcases hem with hem | rfl
   ·exact hl e hem
   ·exact ⟨k,rfl⟩
  ·intro q
   rw [Array.toList_push,h3 v q c]
end
section
variable {c:Cx} {ρ:List RE} {s:Sh} {x:den s} {v:Value}
theorem BG {s:Sh} (h:s.ky=false) (x:den s):∃ a,cellsOf s x=[a]:=by
 cases s <;> first | exact ⟨_,rfl⟩ | cases h
theorem V1.rt (h:V1 c s x v):bX c ρ (CT s x) v:=by
 obtain ⟨vs,h1,⟨h2,rfl⟩ | ⟨h2,rfl⟩⟩:=h
 ·simp only [CT,h2,cond_true]; exact ⟨vs,rfl,dY h1⟩
 ·obtain ⟨a,ha⟩:=BG h2 x
  simp only [CT,h2,cond_false,ha]
  rw [ha] at h1
  cases h1 with | cons h1 _=>exact ga h1
theorem V1.zero {z:Value} {zs:List Value} (hz:re (cellsOf s (aG s)) zs=true) (h:(s.ky=true/\z = .agg zs.toArray)\/(s.ky=false/\zs=[z])):V1 c s (aG s) z:=
 ⟨zs,fY (ρ:=[]) (ly s _) (gT hz),h⟩
end
end Go.Proofs.Ytjmbgkmkinmlkaa
namespace Go.Proofs.Ytjmbgkmkinmlkaa
open Go.RowKit
def ft:Value->Lit
 | .int k n=>.int k n
 | .bool b=>.bool b
 | .string s=>.string s.data.toList
 | _=>.bool false
def Ln (k:LK) (v:Value):Prop:=match k,v with
 | .i q,.int q' n=>q' = q/\(Lit.int q n).wf=true
 | .b,.bool _=>True
 | .s,.string s=>s.size<=maxLen
 | _,_=>False
def gg:List LK->List Value->Prop
 | [],[]=>True
 | k :: r,v :: l=>Ln k v/\gg r l
 | _,_=>False
theorem gg.len:∀ {ks:List LK} {vs:List Value},gg ks vs->vs.length=ks.length
 | [],[],_=>rfl
 | [],_ :: _,h=>h.elim
 | _ :: _,[],h=>h.elim
 | _ :: _,_ :: _,h=>by rw [List.length_cons,List.length_cons,gg.len h.2]
theorem gg.split:∀ {ks l:List LK} {vs:List Value},gg (ks++l) vs->gg ks (vs.take ks.length)/\gg l (vs.drop ks.length)
 | [],_,_,h=>⟨trivial,h⟩
 | _ :: _,_,[],h=>h.elim
 | _ :: ks,l,_ :: vs,h=>by
  obtain ⟨h1,h2⟩:=gg.split (ks:=ks) h.2
  exact ⟨⟨h.1,h1⟩,h2⟩
section
variable {P:Program}
theorem ov {g:TypeId->Option (List LK)} {d:Nat} (hg:∀ t ks vs,g t=some ks->gg ks vs->P.keyLits d t vs=some (vs.map ft)) {cs:List Value}:∀ {F:List Go.Field} {o:Nat} {ks:List LK},EH P g F o=some ks->gg ks (cs.drop o) ->
  (F.mapM fun f=>P.keyLits d f.type ((cs.drop f.offset).take (P.cellsOf f.type))).map List.flatten=some ((cs.drop o).map ft)/\(∀ f ∈ F,(f.name != "_")=true)
 | [],o,ks,h,k=>by
  cases h
  have:cs.drop o=[]:=by
   have h1:=gg.len k
   rw [List.length_drop] at h1
   rw [List.drop_eq_nil_iff]
   simp only [List.length_nil] at h1; omega
  rw [this]; exact ⟨rfl,by simp⟩
 | f :: F,o,ks,h,k=>by
  simp only [EH] at h
  split at h
  ·rename_i k1 hk1
   split at h
   ·rename_i l hb hl
    cases h
    simp only [Bool.and_eq_true,decide_eq_true_eq] at hb
    obtain ⟨⟨h1,h2⟩,h3⟩:=hb
    obtain ⟨k2,k3⟩:=gg.split k
    rw [List.drop_drop] at k3
    obtain ⟨e1,e2⟩:=ov hg hl k3
    refine ⟨?_,fun x hx=>?_⟩
    ·simp only [Option.map_eq_some_iff] at e1 ⊢
     obtain ⟨L,e3,e4⟩:=e1
     refine ⟨((cs.drop o).take k1.length).map ft :: L,?_,?_⟩
     ·rw [List.mapM_cons,h1,h2,hg _ _ _ hk1 k2,e3]; rfl
     ·rw [List.flatten_cons,e4,<- List.map_append,<- List.drop_drop,List.take_append_drop]
    ·rcases List.mem_cons.1 hx with rfl | hx
     ·exact h3
     ·exact e2 x hx
   ·cases h
  ·cases h
theorem jZ:∀ (d:Nat) (t:TypeId) (ks:List LK) (vs:List Value),Df P d t=some ks->gg ks vs->P.keyLits d t vs=some (vs.map ft)
 | 0,_,_,_,h,_=>by cases h
 | d+1,t,ks,vs,h,k=>by
  unfold Df at h
  unfold Program.keyLits
  split at h
  ·rename_i q hu
   cases h
   match vs,k with
   | [.int q' n],⟨⟨h1,h2⟩,_⟩=>subst h1; simp [hu,h2,ft]
  ·rename_i hu
   cases h
   match vs,k with
   | [.bool b],_=>simp [hu,ft]
  ·rename_i hu
   cases h
   match vs,k with
   | [.string s],⟨h1,_⟩=>
    have h1:s.size<=maxLen:=h1
    simp [hu,ft,h1]
  ·rename_i F hu
   split at h
   ·rename_i l hl
    split at h
    ·rename_i hd
     cases h
     have hd:=of_decide_eq_true hd
     have hlen:=gg.len k
     obtain ⟨e1,e2⟩:=ov (fun t ks vs=>jZ d t ks vs) (cs:=vs) (o:=0) hl (by simpa using k)
     have ha:F.all (·.name != "_")=true:=by
      rw [Array.all_eq_true_iff_forall_mem]
      intro f hf
      exact e2 f (Array.mem_toList_iff.2 hf)
     have hc:vs.length=P.cellsOf t/\F.all (·.name != "_")=true:=⟨by rw [hlen,hd],ha⟩
     rw [hu]
     split
     ·rename_i e; cases e
     ·rename_i e; cases e
     ·rename_i e; cases e
     ·rename_i e; cases e
     ·rename_i fs e
      cases e
      rw [if_pos hc,e1]
      simp
     ·rename_i e1' e2' e3' e4' e5'
      exact absurd rfl (by first | exact e5' _ | exact e4' _ | exact e3' _ | exact e2' _)
    ·cases h
   ·cases h
  ·cases h
theorem ju {c:Cx} {ρ:List RE}:∀ {asx:List AV} {vs:List Value} {ks:List LK},Gm asx=some ks->All2 (Rd c ρ) asx vs->gg ks vs
 | [],_,_,h,k=>by cases h; cases k; trivial
 | a :: r,_,ks,h,k=>by
  cases k with
  | cons k1 k2=>
   simp only [Gm] at h
   split at h
   ·rename_i q l hq hl
    cases h
    refine ⟨?_,ju hl k2⟩
    cases a <;> cases hq
    ·cases k1 with | int hI=>exact ⟨rfl,by unfold I64 at hI; simp [Lit.wf,IntKind.min,IntKind.max,IntKind.bits,IntKind.signed]; omega⟩
    ·rename_i b
     have:=b.toNat_lt
     cases k1 with | u8=>exact ⟨rfl,by simp [Lit.wf,IntKind.min,IntKind.max,IntKind.bits,IntKind.signed]; omega⟩
    ·cases k1 with | u64 hI=>exact ⟨rfl,by simp [Lit.wf,IntKind.min,IntKind.max,IntKind.bits,IntKind.signed]; omega⟩
    ·cases k1 with | bool=>trivial
    ·cases k1 with | str hI=>exact (by simp [Ln,Str.val,maxLen,ByteArray.size]; omega)
   ·cases h
theorem rP {c:Cx} {ρ:List RE} {a b:AV} {u v:Value} {e:BE} (h:EF a b=some e) (ha:Rd c ρ a u) (hb:Rd c ρ b v):e.val=true↔ft u=ft v:=by
 unfold EF at h
 split at h <;> cases h
 ·cases ha; cases hb; simp [BE.val,ft]
 ·cases ha; cases hb; simp [BE.val,ft]
 ·cases ha; cases hb; simp [BE.val,ft]
 ·cases ha; cases hb; simp [BE.val,ft]
 ·rename_i s s'
  cases ha; cases hb
  cases s; cases s'
  simp [BE.val,ft,Str.val]
theorem ny {c:Cx} {ρ:List RE}:∀ {asx bs:List AV} {us vs:List Value} {e:BE},tz asx bs=some e->All2 (Rd c ρ) asx us->All2 (Rd c ρ) bs vs->(e.val=true↔us.map ft=vs.map ft)
 | [],[],_,_,_,h,ha,hb=>by cases h; cases ha; cases hb; simp [BE.val]
 | [],_ :: _,_,_,_,h,_,_=>by cases h
 | _ :: _,[],_,_,_,h,_,_=>by simp [tz] at h
 | [a],[b],_,_,_,h,ha,hb=>by
  cases ha with | cons ha1 ha2=>cases ha2; cases hb with | cons hb1 hb2=>cases hb2; simpa using rP h ha1 hb1
 | [a],b :: b2 :: l,_,_,_,h,_,_=>by
  simp only [tz] at h
  split at h
  ·rename_i h2; cases h2
  ·cases h
 | a :: a2 :: r,[b],_,_,_,h,_,_=>by
  simp only [tz] at h
  split at h
  ·rename_i h2; cases r <;> simp [tz] at h2
  ·cases h
 | a :: a2 :: r,b :: b2 :: l,_,_,_,h,ha,hb=>by
  simp only [tz] at h
  split at h
  ·rename_i x y h1 h2
   cases h
   cases ha with | cons ha1 ha2=>
   cases hb with | cons hb1 hb2=>
   have e1:=rP h1 ha1 hb1
   have e2:=ny h2 ha2 hb2
   simp only [BE.val,Bool.and_eq_true,e1,e2,List.map_cons,List.cons.injEq]
  ·cases h
theorem w_ {t:TypeId} {ks:List LK} {xs ys:List Value} {w:World} (h:Mg P t ks=true) (hx:gg ks xs) (hy:gg ks ys) (hs:∃ F,P.underlying t=some (.struct F)) :
  P.eqGuardType P.depth t=false/\∃ r:Bool,(Op.equalIn 10000 t (.agg xs.toArray) (.agg ys.toArray)).run P w = .ok r w/\(r=true↔xs.map ft=ys.map ft):=by
 simp only [Mg,Bool.and_eq_true,decide_eq_true_eq,Bool.not_eq_true'] at h
 obtain ⟨⟨h1,h2⟩,h3⟩:=h
 obtain ⟨F,hF⟩:=hs
 have hc:P.cellsOf t=ks.length:=by
  have h1:=h1
  unfold Df at h1
  rw [hF] at h1
  simp only at h1
  split at h1
  ·split at h1
   ·rename_i hd; cases h1; exact of_decide_eq_true hd
   ·cases h1
  ·cases h1
 refine ⟨h3,?_⟩
 have:=run_equalIn_deep (P:=P) 9992 8 t h2 w 8 8 (.agg xs.toArray) (.agg ys.toArray) (xs.map ft) (ys.map ft)
  (by simp [Value.formed,hF,hc,hx.len]) (by simp [Value.formed,hF,hc,hy.len])
  (by simpa [Value.cells] using jZ 8 t ks xs h1 hx) (by simpa [Value.cells] using jZ 8 t ks ys h1 hy)
 exact this
theorem FC {T:List (Nat × TI)} {G:Gl} {n:Nat} {F:Fr} {w:World} {x y:Operand} {ty t t':TypeId} {c:Cx} {ρ:List RE} (hT:bn P G.shp T) {op:BinOp} {asx bs:List AV} {r:PR} {us vs:List Value} (h:Nm T op t asx bs=some r) (ha:All2 (Rd c ρ) asx us) (hb:All2 (Rd c ρ) bs vs) (hx:ev F x=some (.agg us.toArray)) (hy:ev F y=some (.agg vs.toArray)) :
  ∃ v,aU P n F w (.binOp op t x y t') ty v w/\Rt c ρ r.v v/\r.fc=[]:=by
 unfold Nm at h
 split at h
 ·rename_i fs sz z ht
  obtain ⟨Fs,hF,_,_,hE⟩:=(hT _ _ ht).2
  split at h
  ·rename_i k k1 k2 hk hk1 hk2
   have hq:=hE _ hk
   split at h
   ·rename_i e hd he
    simp only [Bool.and_eq_true,decide_eq_true_eq] at hd
    obtain ⟨rfl,rfl⟩:=hd
    cases h
    obtain ⟨hg,b,hb1,hb2⟩:=w_ (w:=w) hq (ju hk1 ha) (ju hk2 hb) ⟨Fs,hF⟩
    have e1:b=e.val:=Bool.eq_iff_iff.2 (hb2.trans (ny he ha hb).symm)
    subst e1
    refine ⟨_,fun _ _ _ _ _ hm=>?_,Pd.bool (e:=e),rfl⟩
    simp [execOp,hm.ev hx,hm.ev hy,run_eqGuard_agg w .eql t x y _ _ hg,run_eql_struct,hb1]
   ·rename_i e hd he
    simp only [Bool.and_eq_true,decide_eq_true_eq] at hd
    obtain ⟨rfl,rfl⟩:=hd
    cases h
    obtain ⟨hg,b,hb1,hb2⟩:=w_ (w:=w) hq (ju hk1 ha) (ju hk2 hb) ⟨Fs,hF⟩
    have e1:b=e.val:=Bool.eq_iff_iff.2 (hb2.trans (ny he ha hb).symm)
    subst e1
    refine ⟨_,fun _ _ _ _ _ hm=>?_,Pd.bool (e:=.not e),rfl⟩
    simp [execOp,hm.ev hx,hm.ev hy,run_eqGuard_agg w .neq t x y _ _ hg,run_neq_struct,hb1,BE.val]
   ·cases h
  ·cases h
 ·cases h
end
section
variable {P:Program} {T:List (Nat × TI)} {G:Gl} {O:cO} {n:Nat} {F:Fr} {w:World} {x y:Operand} {ty t t':TypeId} {ρ:List RE} {H:AH}
theorem xv {m:Nat} (h:m<18446744073709551616):IntKind.i64.wrap (m:Int)=CO m:=by
 unfold CO
 simp only [IntKind.wrap,IntKind.bits,IntKind.signed]
 simp
 split <;> split <;> omega
theorem zA {m:Nat} (h:m<18446744073709551616):I64 (CO m):=by
 unfold CO I64; split <;> omega
theorem y0 {op:Op} {v:Value} {r:PR} (h:aU P n F w op ty v w) (hr:Rt (cx G ρ w) ρ r.v v) (hf:∀ p ∈ r.fc,p):Yields P n F w op ty fun v w'=>Kp [] w w' /\ Rt (cx G ρ w') ρ r.v v/\∀ p ∈ r.fc,p:=
 .inl ⟨v,w,h,Kp.refl w,hr,hf⟩
theorem Cm {r:PR} (h:r.fc=[]):∀ p ∈ r.fc,p:=by rw [h]; simp
theorem CX (hT:bn P G.shp T) (hR:Rep G ρ H w) {a b:TI} {u:AV} {r:PR} {va:Value} (ht:bq T t=some a) (ht':bq T t' = some b) (h:Bq H a.k b.k u=some r) (hob:∀ p ∈ r.ob,p) (ha:Rd (cx G ρ w) ρ u va) (hx:ev F x=some va) :
  Yields P n F w (.convert t t' x) ty fun v w'=>Kp [] w w' /\ Rt (cx G ρ w') ρ r.v v/\∀ p ∈ r.fc,p:=by
 have hs:=(hT _ _ ht).2
 have hd:=(hT _ _ ht').2
 unfold Bq at h
 split at h
 ·rename_i k1 k2 m e1 e2
  rw [e1] at hs; rw [e2] at hd
  cases h
  cases ha with | int hI=>
  have:=R.conv (P:=P) (n:=n) (w:=w) (ty:=ty) hx hs hd
  rw [hI.wrap] at this
  exact y0 this (Pd.int hI) (by simp)
 ·rename_i k1 k2 m e1 e2
  rw [e1] at hs; rw [e2] at hd
  cases h
  cases ha with | u8=>
  have hm:=m.toNat_lt
  exact y0 (R.Jl hx hs hd) (Pd.int ⟨by omega,by omega⟩) (by simp)
 ·rename_i k1 k2 m e1 e2
  rw [e1] at hs; rw [e2] at hd
  cases h
  cases ha with | u8=>
  have hm:=m.toNat_lt
  exact y0 (R.Ao hx hs hd bt) (Pd.u64 bt) (by simp)
 ·rename_i k1 k2 m e1 e2
  rw [e1] at hs; rw [e2] at hd
  cases h
  cases ha with | int hI=>
  have h0:=hob _ (List.mem_singleton_self _)
  obtain ⟨m,rfl⟩:=Int.eq_ofNat_of_zero_le h0
  exact y0 (R.JY hx hs hd) Pd.u8 (by simp)
 ·rename_i k1 k2 m e1 e2
  rw [e1] at hs; rw [e2] at hd
  cases h
  cases ha with | int hI=>
  have h0:=hob _ (List.mem_singleton_self _)
  obtain ⟨m,rfl⟩:=Int.eq_ofNat_of_zero_le h0
  have:m<18446744073709551616:=by have:=hI.2; omega
  exact y0 (R.Ao hx hs hd this) (Pd.u64 this) (by simp)
 ·rename_i k1 k2 m e1 e2
  rw [e1] at hs; rw [e2] at hd
  cases h
  cases ha with | u64 hI=>
  exact y0 (R.JY hx hs hd) Pd.u8 (by simp)
 ·rename_i k1 k2 m e1 e2
  rw [e1] at hs; rw [e2] at hd
  cases h
  cases ha with | u64 hI=>
  have:=R.conv (P:=P) (n:=n) (w:=w) (ty:=ty) hx hs hd
  rw [xv hI] at this
  exact y0 this (Pd.int (zA hI)) (by simp)
 ·rename_i k1 k2 m e1 e2
  rw [e1] at hs; rw [e2] at hd
  cases h
  cases ha with | u64 hI=>
  exact y0 (R.Ao hx hs hd hI) (Pd.u64 hI) (by simp)
 ·rename_i k1 k2 e v1 e1 e2
  rw [e1] at hs; rw [e2] at hd
  obtain ⟨hs1,hs2⟩:=hs
  obtain ⟨_,_,he⟩:=hs2 .u8 rfl
  split at h
  ·rename_i xs hv
   cases h
   have hrd:=vW hR hv ha
   refine y0 (R.Ag rfl hx hs1 hd (he rfl).1 hrd) (Pd.str ?_) (by simp)
   have:=hrd.le
   simp only [Sh.bytes] at this
   show xs.length<=_
   omega
  ·rename_i b hv
   cases h
   obtain ⟨q,ha,hv⟩:∃ q,Rd (cx G ρ w) ρ q va/\q.vw H = .em b:=⟨_,ha,hv⟩
   cases q <;> simp only [AV.vw] at hv
   case em=>
    have hrd:Sread (cx G ρ w) .u8 [] va:=Pd.GF (Pd.qB ha) fun b hb=>hb.1
    exact y0 (R.Ag rfl hx hs1 hd (he rfl).1 hrd) (Pd.str (by simp)) (by simp)
   case own=>split at hv <;> cases hv
   case sub=>split at hv <;> cases hv
   all_goals cases hv
  ·cases h
 ·rename_i k1 e s e1 e2
  rw [e1] at hs; rw [e2] at hd
  obtain ⟨hd1,hd2⟩:=hd
  obtain ⟨hshp,_,he⟩:=hd2 .u8 rfl
  cases h
  cases ha with | str hl=>
  obtain ⟨a,k,w',hrun,hk,h1,h2,h3,h4,h5,C,fz,h6⟩:=R.Cv (P:=P) (n:=n) (fr:=F) (w:=w) (x:=x) (ty:=ty) (t:=t) (t':=t') (s:=s) hx hl hs hd1 (he rfl).1
  refine .inl ⟨_,w',hrun,hk,?_,by simp⟩
  have hp:Pds (cx G ρ w') (s.b.flatMap (cellsOf .u8)) (s.b.map fun b=>Value.int .u8 (b.toNat:Int)):=by
   generalize s.b=l
   induction l with
   | nil=>exact .nil
   | cons b l ih=>exact .cons .u8 ih
  exact Pd.fz (s:=.u8) (xs:=s.b) h1 h2 (by simpa [Sh.bytes] using hl) hp (.inr ⟨_,h3,⟨⟨h4,fun ⟨i,r,e1,e2⟩=>by have:=(hR.bnd i r _ e1 e2).2.1; simp at this,fun hz=>by have:=hR.z _ hz; simp at this⟩,.inr ⟨C,e,fz,h6,hshp,(fun e=>nomatch e)⟩⟩,h5⟩)
 ·cases h
theorem yp (off:Nat):∀ (us:List Value) (j:Nat) (a b:List Value),us.length<=b.length->a.length=off+j ->
  (us.zipIdx j).foldl (fun cs (c:Value × Nat)=>cs.setIfInBounds (off+c.2) c.1) (a++b).toArray=(a++us++b.drop us.length).toArray:=by
 intro us
 induction us with
 | nil=>intro j a b _ _; simp
 | cons u us ih=>
  intro j a b hb ha
  cases b with
  | nil=>simp at hb
  | cons b0 b=>
   simp only [List.zipIdx_cons,List.foldl_cons]
   have:((a++b0 :: b).toArray.setIfInBounds (off+j) u)=((a++[u])++b).toArray:=by simp [<- ha]
   rw [this,ih (j+1) (a++[u]) b (by simpa using hb) (by simp [ha]; omega)]
   simp
theorem kB {c:Cx} {fs:List (Nat × Nat)} {place:Nat->Option (Nat × Nat)} (hpl:∀ (i:Nat) (q:Nat × Nat),fs[i]? = some q->place i=some q):∀ {parts:List (Nat × TV1)} {pv:List (Nat × Value)} {z:List AV} {zs:List Value} {cs:List AV},All2 (fun p q=>p.1=q.1/\bX c ρ p.2 q.2) parts pv->All2 (Rd c ρ) z zs->iV fs z parts=some cs ->
  ∃ us,Instr.fill place zs.toArray pv=some (List.toArray us)/\All2 (Rd c ρ) cs us
 | [],_,z,zs,cs,hp,hz,h=>by
  cases hp
  cases h
  exact ⟨zs,rfl,hz⟩
 | (i,v) :: r,_,z,zs,cs,hp,hz,h=>by
  cases hp with
  | @cons _ q _ qs h1 h2=>
  obtain ⟨i',u⟩:=q
  obtain ⟨e,hv⟩:=h1
  simp only at e; subst e
  simp only [iV] at h
  split at h
  ·rename_i o k hfs
   split at h
   ·rename_i hck
    simp only [Bool.and_eq_true] at hck
    have e1:v.cells.length=k:=Nat.eq_of_beq_eq_true hck.1
    have e2:=Nat.le_of_ble_eq_true hck.2
    obtain ⟨us,hus,hcells⟩:=bX.cells hv
    have hlen:v.cells.length=us.length:=hcells.length
    have hzl:=hz.length
    have hov:All2 (Rd c ρ) (over z o v.cells) (zs.take o++us++zs.drop (o+us.length)):=by
     unfold over
     rw [<- hlen]
     exact ((hz.take o).append hcells).append (hz.drop _)
    obtain ⟨us',h3,h4⟩:=kB hpl h2 hov h
    refine ⟨us',?_,h4⟩
    simp only [Instr.fill,hpl _ _ hfs,hus]
    have hfold:(us.toArray.zipIdx.foldl (fun cs (c:Value × Nat)=>cs.setIfInBounds (o+c.2) c.1) zs.toArray)=(zs.take o++us++zs.drop (o+us.length)).toArray:=by
     have h5:=yp o us 0 (zs.take o) (zs.drop o) (by simp; omega) (by simp; omega)
     rw [List.take_append_drop,List.drop_drop] at h5
     rw [<- h5]
     simp
    rw [if_neg (by simp; omega)]
    refine Eq.trans ?_ h3
    congr 1
   ·cases h
  ·cases h
theorem yu (hT:bn P G.shp T) {c:Cx} {fs:List (Nat × Nat)} {sz:Nat} {z cs:List AV} {parts:List (Nat × Operand)} {l:List (Nat × TV1)} {pv:List (Nat × Value)} (ht:bq T t=some ⟨.st fs,sz,z⟩) (hp:Bg F parts=some pv) (hl:All2 (fun p q=>p.1=q.1/\bX c ρ p.2 q.2) l pv) (h:iV fs z l=some cs) :
  ∃ us,aU P n F w (.build t parts.toArray) ty (.agg (List.toArray us)) w/\All2 (Rd c ρ) cs us:=by
 obtain ⟨⟨hsz,zs,hz,hzb⟩,Fs,hu,hm,_⟩:=hT _ _ ht
 obtain ⟨us,h1,h2⟩:=kB (place:=(fs.toArray[·]?)) (fun i q hq=>by simpa using hq) hl (gT hzb) h
 refine ⟨us,R.Am hp ?_,h2⟩
 unfold Program.built
 cases hq:P.info? t with
 | none=>rw [hq] at hz; simp at hz
 | some i=>
  rw [hq] at hz
  simp only [Option.bind_some,Option.map_eq_some_iff] at hz
  obtain ⟨zv,hzv,hzc⟩:=hz
  simp only [hu,hzv,hm,hzc]
  exact h1
theorem pB {e:TypeId} {s:Sh} (hT:bn P G.shp T) (h:Gq T e=some s):s.size=1/\(P.info? e).map (·.size)=some 1/\∃ d,P.underlying e=some d/\iP d=false:=by
 unfold Gq at h
 split at h <;> cases h <;> rename_i hf <;> obtain ⟨⟨h1,_⟩,h2⟩:=hT _ _ hf <;> exact ⟨rfl,h1,_,h2,rfl⟩
theorem ow:∀ {n k i:Nat} {q:Nat × Nat},(iM k n)[i]? = some q->q=(k+i,1)
 | 0,_,_,_,h=>by simp [iM] at h
 | n+1,k,0,q,h=>by simp [iM] at h; exact h.symm
 | n+1,k,i+1,q,h=>by
  rw [iM,List.getElem?_cons_succ] at h
  rw [ow h,show k+1+i=k+(i+1) by omega]
theorem vi (hT:bn P G.shp T) {c:Cx} {m sz:Nat} {e:TypeId} {s:Sh} {z cs:List AV} {parts:List (Nat × Operand)} {l:List (Nat × TV1)} {pv:List (Nat × Value)} (ht:bq T t=some ⟨.ar m e,sz,z⟩) (he:Gq T e=some s) (hp:Bg F parts=some pv) (hl:All2 (fun p q=>p.1=q.1/\bX c ρ p.2 q.2) l pv) (h:iV (iM 0 m) z l=some cs) :
  ∃ us,aU P n F w (.build t parts.toArray) ty (.agg (List.toArray us)) w/\All2 (Rd c ρ) cs us:=by
 obtain ⟨⟨hsz,zs,hz,hzb⟩,hu⟩:=hT _ _ ht
 have hu:P.underlying t=some (.array m e):=hu
 obtain ⟨_,hes,_⟩:=pB hT he
 obtain ⟨us,h1,h2⟩:=kB (place:=fun i=>some (i*1,1)) (fun i q hq=>by rw [ow hq]; simp) hl (gT hzb) h
 refine ⟨us,R.Am hp ?_,h2⟩
 unfold Program.built
 cases hq:P.info? t with
 | none=>rw [hq] at hz; simp at hz
 | some i=>
  rw [hq] at hz
  simp only [Option.bind_some,Option.map_eq_some_iff] at hz
  obtain ⟨zv,hzv,hzc⟩:=hz
  cases hqe:P.info? e with
  | none=>rw [hqe] at hes; cases hes
  | some ie=>
   rw [hqe] at hes
   have hs1:ie.size=1:=by simpa using hes
   simp only [hu,hzv,hzc,hqe,hs1]
   exact h1
theorem pX {c:Cx}:∀ {l:List TV1} {q:List (Nat × Nat)} {vs:List Value},iS l=some q->All2 (bX c ρ) l vs->All2 (cR ρ) q vs
 | [],_,_,h,hv=>by cases h; cases hv; exact .nil
 | .c (.ptr id o) :: r,q,_,h,hv=>by
  simp only [iS] at h
  split at h
  ·rename_i l hl
   cases h
   cases hv with
   | cons h1 h2=>exact .cons h1 (pX hl h2)
  ·cases h
 | .agg _ :: _,_,_,h,_=>by simp [iS] at h
 | .c a :: r,q,_,h,hv=>by
  cases a with
  | ptr id o=>
   simp only [iS] at h
   split at h
   ·rename_i l hl
    cases h
    cases hv with
    | cons h1 h2=>exact .cons h1 (pX hl h2)
   ·cases h
  | _=>simp [iS] at h
theorem wk {c:Cx}:∀ {q:List (Nat × Nat)} {vs:List Value},All2 (cR ρ) q vs->All2 (bX c ρ) (q.map fun q=>.c (.ptr q.1 q.2)) vs
 | [],_,h=>by cases h; exact .nil
 | _ :: _,_,h=>by cases h with | cons h1 h2=>exact .cons h1 (wk h2)
theorem gy {c:Cx} {fr:AFr} (hf:cK c ρ fr F) {cl:Call} {f:Nat} {l:List TV1} (h:eK fr cl=some (f,l)):∃ x xs vs cap,cl.callee = .value x/\cl.args=List.toArray xs/\ev F x=some (.func (.func f) #[] (List.toArray cap))/\Gf F xs=some vs/\All2 (bX c ρ) l (vs++cap):=by
 unfold eK at h
 split at h
 ·rename_i x hc
  split at h
  ·rename_i g cs l' hx hl
   cases h
   obtain ⟨v,hv,bs,us,h1,h2,rfl⟩:=aK hf hx
   cases h1
   obtain ⟨vs,h3,h4⟩:=qU hf hl
   exact ⟨x,cl.args.toList,vs,us,hc,by simp,hv,h3,h4.append (wk h2)⟩
  ·cases h
 ·cases h
theorem wK {s:Sh}:∀ {n k:Nat} {xs:List (den s)},k+n=xs.length->kM s xs k n=(xs.drop k).flatMap (cellsOf s)
 | 0,k,xs,h=>by rw [List.drop_eq_nil_of_le (by omega)]; rfl
 | n+1,k,xs,h=>by
  rw [kM,wK (by omega),List.drop_eq_getElem_cons (show k<xs.length by omega),List.flatMap_cons,List.getD_eq_getElem?_getD,List.getElem?_eq_getElem (by omega)]
  rfl
theorem gG {c:Cx} {s:Sh}:∀ {cs:List AV} {xs:List (den s)} {us:List Value},nL s cs=some xs->All2 (Rd c ρ) cs us->Pds c (xs.flatMap (cellsOf s)) us
 | [],_,_,h,hu=>by cases h; cases hu; exact .nil
 | a :: r,xs,_,h,hu=>by
  simp only [nL] at h
  split at h
  ·rename_i x l hx hl
   cases h
   cases hu with
   | cons h1 h2=>
    rw [List.flatMap_cons]
    exact (aW (vs:=[_]) hx (.cons (fun hp=>(eG hp).1 h1) .nil)).append (gG hl h2)
  ·cases h
theorem R.gM {cs:List Value} {m i:Nat} {e:TypeId} {k:IntKind} {v:Value} {dd:TypeDesc} (hx:ev F x=some (.agg cs.toArray)) (hy:ev F y=some (.int k (i:Int))) (ht:P.underlying t=some (.array m e)) (he:P.underlying e=some dd) (hd:iP dd=false) (hs:(P.info? e).map (·.size)=some 1) (hi:i<m) (hv:cs[i]? = some v) :
  aU P n F w (.index t x y) ty v w:=fun _ _ _ _ _ ha=>by
 cases hq:P.info? e with
 | none=>simp [hq] at hs
 | some q=>
  have hq1:q.size=1:=by simpa [hq] using hs
  have e1:(Instr.index t (.agg cs.toArray) (.int k (i:Int))).run P w = .ok v w:=by
   unfold Instr.index
   simp [asIntOf,run_underlying ht,Result.andThen,hi,part,kD he,hd,sizeOf,typeInfo,hq,hq1,hv]
  simp [execOp,ha.ev hx,ha.ev hy,e1]
theorem R.fl {g m i:Nat} {e:TypeId} {k:IntKind} (hx:ev F x=some (.pointer (some ⟨g,0,none⟩))) (hy:ev F y=some (.int k (i:Int))) (ht:P.underlying t=some (.array m e)) (hs:(P.info? e).map (·.size)=some 1) (hi:i<m) :
  aU P n F w (.indexAddr t x y) ty (.pointer (some ⟨g,i,none⟩)) w:=fun _ _ _ _ _ ha=>by
 cases hq:P.info? e with
 | none=>simp [hq] at hs
 | some q=>
  have hq1:q.size=1:=by simpa [hq] using hs
  have h2:(Addr.add ⟨g,0,none⟩ i)=⟨g,i,none⟩:=by rw [add_lit,Nat.zero_add]
  simp [execOp,ha.ev hx,ha.ev hy,Instr.indexAt,run_underlying ht,asIntOf,Instr.sureAddr,sizeOf,typeInfo,hq,hq1,h2]
  omega
theorem Dc {c:Cx} {s:Sh} {a:AV} {xs:List (den s)} {vs:List Value} {o:Nat} (h:Pds c (xs.flatMap (cellsOf s)) vs) (hs:s.size=1) (ho:o<xs.length) (ha:cellsOf s (xs.getD o (aG s))=[a]):∃ u,vs[o]? = some u/\Pd c a u:=by
 have h1:=(h.drop (o*s.size)).take s.size
 rw [jh (jl ho),ha,hs,Nat.mul_one] at h1
 generalize hq:List.take 1 (List.drop o vs)=q at h1
 cases h1 with
 | @cons _ u _ q' h2 h3=>
  cases h3
  refine ⟨u,?_,h2⟩
  have:=congrArg (·[0]?) hq
  simpa [List.getElem?_take,List.getElem?_drop] using this
theorem lG (hT:bn P G.shp T) (hR:Rep G ρ H w) {a:AV} {v:Value} {r:PR} (h:Rd (cx G ρ w) ρ a v) (hx:ev F x=some v) (hl:lY T H t a=some r) (hob:∀ p ∈ r.ob,p):∃ u,aU P n F w (.load t x) ty u w/\Rt (cx G ρ w) ρ r.v u/\∀ p ∈ r.fc,p:=by
 unfold lY at hl
 split at hl
 ·rename_i id o
  split at hl
  ·rename_i ta s m xs hH
   obtain ⟨r0,hr,g,vs,rfl,h2,h3,h4,h5⟩:=hR.at_ (bG hH (by simp))
   obtain ⟨g',hg',rfl⟩:=h
   rw [hr] at hg'; cases hg'
   have hvl:vs.length=m:=by rw [<- h3.length,bT,h4,h5,Nat.mul_one]
   have hA:CellsAt w ⟨g,0,none⟩ vs:=bU (cells:=vs) (sp:=[]) (by rw [List.append_nil]; exact h2)
   split at hl
   ·rename_i m' e sz z hft
    split at hl
    ·rename_i hck
     cases hl
     simp only [Bool.and_eq_true] at hck
     have e1:=Nat.eq_of_beq_eq_true hck.1.1.1
     have e2:=Nat.eq_of_beq_eq_true hck.1.1.2
     have e3:=Nat.eq_of_beq_eq_true hck.1.2
     subst e1; subst e2
     obtain ⟨⟨hsz,_⟩,hk⟩:=hT _ _ hft
     refine ⟨.agg vs.toArray,R.wL hx hk rfl (by rw [hsz,hvl]; exact congrArg some e3) hA,⟨vs,rfl,?_⟩,by simp⟩
     rw [wK (by omega),List.drop_zero]
     exact dY h3
    ·cases hl
   ·rename_i ti _ hft
    split at hl
    ·cases hl
    ·cases hl
    ·cases hl
    ·rename_i a' hs1 hcell n1 n2 n3
     simp only [pr,Option.some.injEq] at hl
     subst hl
     have ho:=hob _ (List.mem_singleton_self _)
     obtain ⟨u,hu,hpu⟩:=Dc h3 h5 (by omega) hcell
     obtain ⟨_,hk⟩:=hT _ _ hft
     have:∃ d,P.underlying t=some d/\iP d=false:=by
      cases hkk:ti.k <;> rw [hkk] at hk
      case i=>exact ⟨_,hk,rfl⟩
      case bool=>exact ⟨_,hk,rfl⟩
      case str=>exact ⟨_,hk,rfl⟩
      case sl=>exact ⟨_,hk.1,rfl⟩
      case st=>exact absurd hkk (n1 _)
      case ar=>exact absurd hkk (n2 _ _)
      case mp=>exact ⟨_,hk.1,rfl⟩
      case ifc=>exact ⟨_,hk,rfl⟩
      case ms=>exact ⟨_,hk.1,rfl⟩
      all_goals exact hk
     obtain ⟨d,hd,hag⟩:=this
     have hcl:=hA o u hu
     rw [add_lit,Nat.zero_add] at hcl
     exact ⟨u,R.ml hx hd hag hcl,ga hpu,hpu.jd⟩
    ·cases hl
   ·cases hl
  ·cases hl
 ·cases hl
theorem Jk {c:Cx} (h:TabsOK c) {e:TabE} (he:e ∈ DJ):Pd c (.fz e.s e.xs) (.slice (some ⟨e.g,0,none⟩) e.xs.length e.xs.length):=by
 obtain ⟨h1,h2,h3,h4,cells,t,fr,h5,h6⟩:=h.2 e he
 refine .fz (Nat.le_refl _) h3 h4 h6 (.inr ⟨_,rfl,⟨h1,.inl h2⟩,?_⟩)
 exact bU (cells:=cells) (sp:=[]) (t:=t) (f:=fr) (by rw [List.append_nil]; exact h5)
theorem lu {g:Nat}:∀ {l:List TabE} {e:TabE},lP g l=some e->e ∈ l/\e.g=g
 | [],_,h=>by cases h
 | a :: l,e,h=>by
  unfold lP at h
  cases hb:Nat.beq g a.g
  ·rw [hb,cond_false] at h
   have:=lu h
   exact ⟨List.mem_cons_of_mem _ this.1,this.2⟩
  ·rw [hb,cond_true] at h
   cases h
   exact ⟨List.mem_cons_self,(Nat.eq_of_beq_eq_true hb).symm⟩
theorem qb (hT:bn P G.shp T) (hR:Rep G ρ H w) {i:Int} {k:IntKind} {r:PR} (hy:ev F y=some (.int k i)) (hl:mw T t x i=some r) (hob:∀ p ∈ r.ob,p):∃ u,aU P n F w (.indexAddr t x y) ty u w/\Rt (cx G ρ w) ρ r.v u/\∀ p ∈ r.fc,p:=by
 unfold mw at hl
 split at hl
 ·rename_i g
  split at hl
  ·rename_i e m el sz z hg hft
   split at hl
   ·rename_i s hs'
    split at hl
    ·rename_i hck
     simp only [pr,Option.some.injEq] at hl
     subst hl
     simp only [Bool.and_eq_true,decide_eq_true_eq] at hck
     have e1:=hck.1
     have e2:=Nat.eq_of_beq_eq_true hck.2
     have h0:=hob _ (List.mem_cons_self); have h1:=hob _ (List.mem_cons_of_mem _ (List.mem_singleton_self _))
     obtain ⟨j,rfl⟩:=Int.eq_ofNat_of_zero_le h0
     obtain ⟨hm,hg'⟩:=lu hg
     have hj:j<e.xs.length:=by omega
     obtain ⟨A,kk,hA,_,hfe,us,hus⟩:=Bk (ρ:=ρ) (Jk hR.tb hm) (jl hj)
     have hsz:=pB hT hs'
     cases hA
     have ep:Addr.add ⟨e.g,0,none⟩ (j*e.s.size)=⟨g,j,none⟩:=by rw [hg',<- e1,hsz.1,add_lit,Nat.zero_add,Nat.mul_one]
     rw [ep] at hfe
     refine ⟨_,R.fl (g:=g) (i:=j) (by rfl) hy (hT _ _ hft).2 hsz.2.1 (by omega),?_,hus.jd⟩
     rw [Int.toNat_natCast]
     exact hfe
    ·cases hl
   ·cases hl
  ·cases hl
 ·cases hl
theorem rO {e:TypeId} (hT:bn P G.shp T) (h:tJ T e=true):(P.info? e).map (·.size)=some 1/\((P.info? e).bind (·.zero)).map Value.cells=some [Value.pointer none].toArray:=by
 unfold tJ at h
 split at h
 ·rename_i hft
  obtain ⟨⟨hsz,zs,hz,hzb⟩,_⟩:=hT _ _ hft
  refine ⟨hsz,hz.trans (congrArg (fun l:List Value=>some l.toArray) ?_)⟩
  cases zs with
  | nil=>simp [re] at hzb
  | cons v r=>
   cases r with
   | cons _ _=>simp [re] at hzb
   | nil=>
    simp only [re,Bool.and_true] at hzb
    have h:=Gu (c:=⟨fun _=>none,0,fun _=>False,default⟩) (ρ:=[]) hzb
    have h:v = .pointer none:=h
    rw [h]
 ·cases h
theorem pK (hT:bn P G.shp T) {a:AV} {i:Int} {k:IntKind} {v:Value} {r:PR} (h:Rd (cx G ρ w) ρ a v) (hx:ev F x=some v) (hy:ev F y=some (.int k i)) (hl:fl T H t a i=some r) (hob:∀ p ∈ r.ob,p):∃ u,aU P n F w (.indexAddr t x y) ty u w/\Rt (cx G ρ w) ρ r.v u/\∀ p ∈ r.fc,p:=by
 unfold fl at hl
 split at hl
 ·rename_i id m e sz z hft
  split at hl
  ·rename_i ta s n' xs s' hH hs'
   split at hl
   ·rename_i hck
    simp only [pr,Option.some.injEq] at hl
    subst hl
    simp only [Bool.and_eq_true] at hck
    have e2:=Nat.eq_of_beq_eq_true hck.1
    have h0:=hob _ (List.mem_cons_self); have h1:=hob _ (List.mem_cons_of_mem _ (List.mem_singleton_self _))
    obtain ⟨j,rfl⟩:=Int.eq_ofNat_of_zero_le h0
    obtain ⟨g,hg,rfl⟩:=h
    exact ⟨_,R.fl hx hy (hT _ _ hft).2 (pB hT hs').2.1 (by omega),⟨g,hg,by rw [Int.toNat_natCast]⟩,by simp⟩
   ·cases hl
  ·cases hl
 ·rename_i cs e sz z hft
  split at hl
  ·rename_i q hp hq
   simp only [pr,Option.some.injEq] at hl
   subst hl
   have h0:=hob _ (List.mem_cons_self); have h1:=hob _ (List.mem_cons_of_mem _ (List.mem_singleton_self _))
   obtain ⟨j,rfl⟩:=Int.eq_ofNat_of_zero_le h0
   rw [Int.toNat_natCast] at hq
   obtain ⟨us,hus,A,rfl,hl,hS,hA⟩:=h
   have hlen:=hus.length
   obtain ⟨u,hu,hcap⟩:=db hus j q hq
   refine ⟨_,R.dV (s:=1) hx hy (hT _ _ hft).2.1 (rO hT hp).1 rfl (by omega),⟨[u],.cons hcap .nil,A.add (j*1),rfl,by rw [ey]; exact hS,?_⟩,by simp⟩
   have:=(hA.drop j).take 1
   rw [List.drop_eq_getElem_cons (List.getElem?_eq_some_iff.1 hu).1,(List.getElem?_eq_some_iff.1 hu).2] at this
   rw [Nat.mul_one]
   simpa using this
  ·cases hl
 ·cases hl
theorem pC (hT:bn P G.shp T) {c:Cx} {cs:List AV} {i:Int} {k:IntKind} {v:Value} {r:PR} (h:bX c ρ (.agg cs) v) (hx:ev F x=some v) (hy:ev F y=some (.int k i)) (hl:gM T t cs i=some r) (hob:∀ p ∈ r.ob,p):∃ u,aU P n F w (.index t x y) ty u w/\Rt c ρ r.v u/\∀ p ∈ r.fc,p:=by
 unfold gM at hl
 split at hl
 ·rename_i m e sz z hft
  split at hl
  ·rename_i s hs
   split at hl
   ·rename_i xs hxs
    split at hl
    ·rename_i a hlen hcell
     simp only [pr,Option.some.injEq] at hl
     subst hl
     have hlen:=Nat.eq_of_beq_eq_true hlen
     have h0:=hob _ (List.mem_cons_self); have h1:=hob _ (List.mem_cons_of_mem _ (List.mem_singleton_self _))
     obtain ⟨j,rfl⟩:=Int.eq_ofNat_of_zero_le h0
     obtain ⟨vs,rfl,hvs⟩:=h
     obtain ⟨hs1,hes,d,hd,hag⟩:=pB hT hs
     rw [Int.toNat_natCast] at hcell
     obtain ⟨u,hu,hpu⟩:=Dc (gG hxs hvs) hs1 (show j<xs.length by omega) hcell
     exact ⟨u,R.gM hx hy (hT _ _ hft).2 hd hag hes bt hu,ga hpu,hpu.jd⟩
    ·cases hl
   ·cases hl
  ·cases hl
 ·cases hl
theorem R.buildSlice {parts:List (Nat × Operand)} {pv:List (Nat × Value)} {vss:List (List Value)} {m s:Nat} {e:TypeId} {z:List Value} (ht:P.underlying t=some (.slice e)) (hs:(P.info? e).map (·.size)=some s)
  (hz:((P.info? e).bind (·.zero)).map Value.cells=some z.toArray) (hp:Bg F parts=some pv) (hv:pv.map (fun p=>(p.1,p.2.cells.toList))=(List.range' 0 vss.length).zip vss) (hl:∀ vs ∈ vss,vs.length=s) (hm:vss.length=m)
  (hsm:m*s<=16777216):aU P n F w (.buildSlice t m parts.toArray) ty (.slice (some ⟨w.heap.size,0,none⟩) m m) (w.alloc (.cells vss.flatten.toArray e)):=fun a _ _ _ _ ha=>by
 subst hm
 cases hq:P.info? e with
 | none=>simp [hq] at hs
 | some i=>
  have hi:i.size=s:=by simpa [hq] using hs
  cases hz':i.zero with
  | none=>simp [hq,hz'] at hz
  | some zv=>
   have hparts:(parts.toArray.map fun p=>(p.1,a.eval p.2))=pv.toArray:=by simp [<- qo ha hp]
   have hf:∀ zc:List Value,zc.length=vss.length*s->Instr.fill (fun i=>some (i*s,s)) zc.toArray pv=some vss.flatten.toArray:=fun zc hzc=>by
    simpa using mV s vss 0 [] zc hl (by simp) hzc pv hv
   by_cases h0:vss.length*s=0
   ·have:=hf [] (by simp [h0])
    simp [execOp,hparts,Instr.buildSlice,run_underlying ht,sizeOf,typeInfo,hq,hi,h0,Array.range_zero',this,newRow]
   ·have:=hf ((List.range (vss.length*s)).map fun j=>zv.cells[j % zv.cells.size]!) (by simp)
    have h2:(Array.range (vss.length*s)).map (fun j=>zv.cells[j % zv.cells.size]!)=((List.range (vss.length*s)).map fun j=>zv.cells[j % zv.cells.size]!).toArray:=by rw [<- List.toArray_range,List.map_toArray]
    simp only [execOp,Instr.buildSlice,Sem.run_bind,run_underlying ht,sizeOf,typeInfo,run_program,hq,hi,Result.andThen_ok,Sem.run_ite,if_neg (show ¬ vss.length*s > 2 ^ 24 by omega),Sem.run_pure,h0,if_false,zeroValue,hz',h2]
    rw [show (Array.map (fun x=>(x.1,a.eval x.2)) parts.toArray).toList=pv by rw [hparts]]
    simp [this,newRow]
theorem rF (op:BinOp) (t:TypeId) (x:Operand):eqGuard op t x (.const .nilIface) .nilIface .nilIface=pure ():=by cases op <;> cases x <;> rfl
theorem tP (op:BinOp) (t:TypeId) (x y:Operand) (a:TypeId) (b:Value):eqGuard op t x y (.iface a b) .nilIface=pure ():=by cases op <;> rfl
theorem eval_nil (a:Act):a.eval (.const .nilIface) = .nilIface:=rfl
theorem Hh (hT:bn P G.shp T) {c:Cx} {fr:AFr} (hf:cK c ρ fr F) {op:BinOp} {r:PR} {X:Option TV} (hX:cW fr x=X) (h:Mw T op t X y=some r) (hc:c=cx G ρ w):Yields P n F w (.binOp op t x y t') ty fun v w'=>Kp [] w w' /\ Rt (cx G ρ w') ρ r.v v/\∀ p ∈ r.fc,p:=by
 subst hc
 unfold Mw at h
 split at h
 ·split at h
  ·rename_i sz z b hft
   obtain ⟨va,h1,us,h2,h3⟩:=aK hf hX
   cases h2
   have hu:P.underlying t=some (.interface (P.methodsAt t)):=(hT _ _ hft).2
   obtain ⟨_,h3⟩:=h3
   split at h
   ·cases h
    rcases h3 with ⟨rfl,rfl⟩ | ⟨rfl,t0,u0,rfl⟩
    ·exact y0 (v:=.bool true) (fun _ _ _ _ _ ha=>by simp [execOp,ha.ev h1,eval_nil,rF,run_eql_nil_nil w t hu]) (Pd.bool (e:=.atom true)) (by simp)
    ·exact y0 (v:=.bool false) (fun _ _ _ _ _ ha=>by simp [execOp,ha.ev h1,eval_nil,tP,run_eql_held_nil w t t0 u0 hu]) (Pd.bool (e:=.atom false)) (by simp)
   ·cases h
    rcases h3 with ⟨rfl,rfl⟩ | ⟨rfl,t0,u0,rfl⟩
    ·exact y0 (v:=.bool false) (fun _ _ _ _ _ ha=>by simp [execOp,ha.ev h1,eval_nil,rF,run_neq_nil_nil w t hu]) (Pd.bool (e:=.not (.atom true))) (by simp)
    ·exact y0 (v:=.bool true) (fun _ _ _ _ _ ha=>by simp [execOp,ha.ev h1,eval_nil,tP,run_neq_held_nil w t t0 u0 hu]) (Pd.bool (e:=.not (.atom false))) (by simp)
   ·cases h
  ·cases h
 ·cases h
theorem zF (n:Int):IntKind.u8.wrap n=((MW n).toNat:Int):=by
 show n % 256=_
 unfold MW
 rw [UInt8.toNat_ofNat']
 omega
theorem yE (hT:bn P G.shp T) (hR:Rep G ρ H w) {a b:TI} {u:AV} {r:PR} {va:Value} (ht:bq T t=some a) (ht':bq T t' = some b) (h:zj O H a.k b.k u=some r) (hob:∀ p ∈ r.ob,p) (ha:Rd (cx G ρ w) ρ u va) (hx:ev F x=some va) :
  Yields P n F w (.convert t t' x) ty fun v w'=>Kp [] w w' /\ Rt (cx G ρ w') ρ r.v v/\∀ p ∈ r.fc,p:=by
 unfold zj at h
 split at h
 ·rename_i k1 k2 m _ e1 e2
  have hs:=(hT _ _ ht).2
  have hd:=(hT _ _ ht').2
  rw [e1] at hs; rw [e2] at hd
  cases h
  cases ha with | int hI=>
  have:=R.conv (P:=P) (n:=n) (w:=w) (ty:=ty) hx hs hd
  rw [zF] at this
  exact y0 this Pd.u8 (by simp)
 ·exact CX hT hR ht ht' h hob ha hx
theorem wA {k:Str}:∀ {l:List MapEntry} {i:Nat},(∀ e ∈ l,∃ s,e.key = .string s) ->
  (∃ j v,Instr.findNow .string k.val l i=some (some (j,v))/\ql k l=some v)\/(Instr.findNow .string k.val l i=some none/\ql k l=none)
 | [],i,_=>.inr ⟨rfl,rfl⟩
 | e :: l,i,h=>by
  obtain ⟨s,hk⟩:=h e (by simp)
  have hr:=fun x hx=>h x (List.mem_cons_of_mem _ hx)
  have hb:((⟨k.b.toArray⟩:ByteArray) == s)=decide ((⟨s.data.toList⟩:Str)=k):=by
   rw [Bool.eq_iff_iff,MapKept.bytes_beq,decide_eq_true_eq]
   constructor
   ·rintro rfl; simp
   ·intro e; rw [<- e]
  by_cases hkk:(⟨s.data.toList⟩:Str)=k
  ·exact .inl ⟨i,e.val,by simp only [Instr.findNow,hk,Instr.sameNow,Str.val,hb,hkk,decide_true],by simp [ql,Ev,hk,hkk]⟩
  ·rcases wA (k:=k) (i:=i+1) hr with ⟨j,v,h1,h2⟩ | ⟨h1,h2⟩
   ·exact .inl ⟨j,v,by simp only [Instr.findNow,hk,Instr.sameNow,Str.val,hb,hkk,decide_false]; exact h1,by simp [ql,Ev,hk,hkk,h2]⟩
   ·exact .inr ⟨by simp only [Instr.findNow,hk,Instr.sameNow,Str.val,hb,hkk,decide_false]; exact h1,by simp [ql,Ev,hk,hkk,h2]⟩
theorem R.DX {g c:Nat} {k:Str} {a:Array MapEntry} {z:Value} {kt et:TypeId} (hx:ev F x=some (.map (some g))) (hy:ev F y=some k.val) (hm:P.underlying t=some (.map kt et)) (hk:P.underlying kt=some .string) (hz:(P.info? et).bind (·.zero)=some z) (hg:w.heap[g]? = some (.map a c)) (hl:∀ e ∈ a.toList,∃ s,e.key = .string s) :
  aU P n F w (.lookup t x y false) ty ((ql k a.toList).getD z) w:=fun a' _ _ _ _ ha=>by
 have hik:MapKept.IsKey .string k.val:=trivial
 have e2:(zeroValue et).run P w = .ok z w:=by
  cases hq:P.info? et with
  | none=>simp [hq] at hz
  | some i=>simp [hq] at hz; simp [zeroValue,typeInfo,hq,hz]
 have e:(Instr.lookup t (.map (some g)) k.val false).run P w = .ok ((ql k a.toList).getD z) w:=by
  unfold Instr.lookup
  simp only [Sem.run_bind,run_underlying hm,Result.andThen]
  rcases wA (k:=k) (i:=0) hl with ⟨j,e0,h1,h2⟩ | ⟨h1,h2⟩
  ·simp only [Sem.run_bind,MapKept.run_getObj_map hg,Result.andThen,Sem.run_pure,show (10000:Nat)=9999+1 from rfl,MapKept.run_checkKey hk hik,MapKept.run_findKey hk h1]
   simp [h2]
  ·simp only [Sem.run_bind,MapKept.run_getObj_map hg,Result.andThen,Sem.run_pure,show (10000:Nat)=9999+1 from rfl,MapKept.run_checkKey hk hik,MapKept.run_findKey hk h1]
   simp [h2,e2]
 simp [execOp,ha.ev hx,ha.ev hy,e]
theorem xy (hT:bn P G.shp T) {c:Cx} {fr:AFr} (hf:cK c ρ fr F) {ok:Bool} {r:PR} {X Y:Option TV} (hX:cW fr x=X) (hY:cW fr y=Y) (h:BQ T t X Y ok=some r) (hc:c=cx G ρ w):Yields P n F w (.lookup t x y ok) ty fun v w'=>Kp [] w w' /\ Rt (cx G ρ w') ρ r.v v/\∀ p ∈ r.fc,p:=by
 subst hc
 unfold BQ at h
 split at h
 ·rename_i kt et sz z f s hft
  split at h
  ·cases h
   obtain ⟨va,h1,us,h2,h3⟩:=aK hf hX
   obtain ⟨vb,h4,h5⟩:=aK hf hY
   cases h5 with | str hl=>
   obtain ⟨_,g,a,n',rfl,_,hg,hk,hv⟩:=h3
   obtain ⟨hu,hkt,hz⟩:=(hT _ _ hft).2
   have hrun:=R.DX (P:=P) (n:=n) (F:=F) (ty:=ty) h1 h4 hu hkt hz hg hk
   obtain ⟨hv1,hv2⟩:=hv s
   rw [hv1] at hrun
   cases hf':f s with
   | none=>rw [hf'] at hrun; exact y0 hrun (by rw [show ((none:Option Int).getD 0)=0 from rfl]; exact Pd.int ⟨by omega,by omega⟩) (by simp)
   | some m=>rw [hf'] at hrun; exact y0 hrun (Pd.int (hv2 m hf')) (by simp)
  ·cases h
 ·cases h
theorem rC {c:Cx}:∀ {l:List (Nat × TV1)} {k:Nat} {cs:List (Nat × Nat)} {pv:List (Nat × Value)},mK k l=some cs->All2 (fun p q=>p.1=q.1/\bX c ρ p.2 q.2) l pv ->
  ∃ us:List Value,All2 (cR ρ) cs us/\pv.map (fun p=>(p.1,p.2.cells.toList))=(List.range' k us.length).zip (us.map fun u=>[u])
 | [],k,cs,_,h,hp=>by cases h; cases hp; exact ⟨[],.nil,rfl⟩
 | (i,t) :: r,k,cs,_,h,hp=>by
  cases hp with
  | @cons _ q _ qs h1 h2=>
  obtain ⟨i',u⟩:=q
  obtain ⟨e,hv⟩:=h1
  simp only at e; subst e
  cases t with
  | agg l=>simp [mK] at h
  | c a=>
  cases a
  case ptr id o=>
   simp only [mK] at h
   split at h
   ·rename_i l hik hl
    cases h
    obtain ⟨us,h3,h4⟩:=rC hl h2
    have hik:=Nat.eq_of_beq_eq_true hik
    subst hik
    obtain ⟨g,h5,rfl⟩:=hv
    refine ⟨_ :: us,.cons ⟨g,h5,rfl⟩ h3,?_⟩
    simp only [List.map_cons,h4,List.length_cons,List.range'_succ,List.zip_cons_cons]
    rfl
   ·cases h
  all_goals simp [mK] at h
theorem Gs:∀ us:List Value,(us.map fun u=>[u]).flatten=us
 | []=>rfl
 | a :: r=>by rw [List.map_cons,List.flatten_cons,Gs r]; rfl
theorem CA (hT:bn P G.shp T) (hR:Rep G ρ H w) {e m sz:Nat} {z:List AV} {l:List (Nat × TV1)} {cs:List (Nat × Nat)} {parts:Array (Nat × Operand)} {pv:List (Nat × Value)} (hft:bq T t=some ⟨.sl e none,sz,z⟩) (hcs:mK 0 l=some cs) (h1:Bg F parts.toList=some pv) (h2:All2 (fun p q=>p.1=q.1/\bX (cx G ρ w) ρ p.2 q.2) l pv) (hm:cs.length=m) (hpt:tJ T e=true) (hle:m<=16777216) :
  Yields P n F w (.buildSlice t m parts) ty fun v w'=>Kp [] w w' /\ Rt (cx G ρ w') ρ (one (.xx .pl cs)) v/\∀ p ∈ ([]:List Prop),p:=by
 obtain ⟨us,h3,h4⟩:=rC hcs h2
 have hl:=h3.length
 have hft:=(hT _ _ hft).2
 have hz:=rO hT hpt
 have hrun:=R.buildSlice (P:=P) (n:=n) (F:=F) (w:=w) (ty:=ty) (m:=m) (s:=1) (z:=[.pointer none]) (vss:=us.map fun u=>[u]) hft.1 hz.1 hz.2 h1 (by rw [List.length_map]; exact h4) (by simp) (by rw [List.length_map]; omega) (by omega)
 rw [show parts.toList.toArray=parts by simp,Gs us] at hrun
 have hlen:us.length=m:=by omega
 subst hlen
 refine .inl ⟨_,_,hrun,Kp.alloc w _,⟨us,h3,⟨w.heap.size,0,none⟩,rfl,hle,⟨by simp,fun ⟨i,r,e1,e2⟩=>by have:=(hR.bnd i r _ e1 e2).2.1; simp at this,fun hz=>by have:=hR.z _ hz; simp at this⟩,?_⟩,by simp⟩
 exact bU (cells:=us) (sp:=[]) (t:=e) (f:=(0,0)) (by rw [List.append_nil]; exact heap_alloc_new w _)
theorem mG (hT:bn P G.shp T) (hO:bk P G.shp O) (hR:Rep G ρ H w) {fr:AFr} (hf:cK (cx G ρ w) ρ fr F) {op:Op} {r:PR} (h:pv T O H fr op=some r) (hob:∀ p ∈ r.ob,p) :
  Yields P n F w op ty fun v w'=>Kp [] w w' /\ Rt (cx G ρ w') ρ r.v v/\∀ p ∈ r.fc,p:=by
 cases op <;> simp only [pv] at h
 case move x=>
  split at h
  ·rename_i tv hx
   cases h
   obtain ⟨v,h1,h2⟩:=aK hf hx
   exact y0 (R.move h1) h2 (by simp)
  ·cases h
 case assign x=>
  split at h
  ·rename_i tv hx
   cases h
   obtain ⟨v,h1,h2⟩:=aK hf hx
   exact y0 (R.assign h1) h2 (by simp)
  ·cases h
 case unOp u t x=>
  cases u <;> simp only at h <;> try cases h
  split at h
  ·rename_i e hx
   cases h
   obtain ⟨v,h1,h2⟩:=aK hf hx
   cases h2 with | bool=>
   have e1:(BE.neg e).val = !e.val:=by cases e <;> simp [BE.neg,BE.val]
   have h3:=Pd.bool (c:=cx G ρ w) (e:=e.neg)
   rw [e1] at h3
   exact y0 (R.not h1) h3 (by simp)
  ·cases h
 case binOp op t x y t'=>
  split at h
  ·rename_i a b hx hy
   split at h
   ·rename_i hb
    obtain ⟨va,h1,h2⟩:=aK hf hx
    obtain ⟨vb,h3,h4⟩:=aK hf hy
    obtain ⟨v,h5,h6,h7⟩:=AZ (P:=P) (n:=n) (w:=w) (ty:=ty) (t':=t') hT hb h hob h2 h4 h1 h3
    exact y0 h5 h6 (Cm h7)
   ·exact Hh (P:=P) (n:=n) (w:=w) (ty:=ty) hT hf hx h rfl
  ·rename_i a b hx hy
   obtain ⟨va,h1,vs,rfl,h2⟩:=aK hf hx
   obtain ⟨vb,h3,us,rfl,h4⟩:=aK hf hy
   obtain ⟨v,h5,h6,h7⟩:=FC (P:=P) (n:=n) (w:=w) (ty:=ty) (t':=t') hT h h2 h4 h1 h3
   exact y0 h5 h6 (Cm h7)
  ·cases h
 case extract x i=>
  split at h
  ·rename_i l hx
   split at h
   ·rename_i a hi
    cases h
    obtain ⟨v,h1,vs,rfl,h2⟩:=aK hf hx
    obtain ⟨u,h3,h4⟩:=db h2 i a hi
    exact y0 (R.extract h1 (by simpa using h3)) h4 (by simp)
   ·cases h
  ·cases h
 case nilCheck x=>
  split at h
  ·rename_i a hx
   obtain ⟨v,h1,h2⟩:=aK hf hx
   cases a <;> simp only [pr] at h <;> cases h
   ·obtain ⟨g,h3,rfl⟩:=h2
    exact y0 (R.kV h1) ⟨g,h3,rfl⟩ (by simp)
   ·obtain ⟨g,cap,len,z,h3,h4,rfl⟩:=h2
    exact y0 (R.kV h1) ⟨g,cap,len,z,h3,h4,rfl⟩ (by simp)
   ·obtain ⟨A,cells,h3,h4,h5,rfl⟩:=h2
    exact y0 (R.kV h1) ⟨A,cells,h3,h4,h5,rfl⟩ (by simp)
   ·obtain ⟨bs,us,h3,h4,rfl⟩:=h2
    exact y0 (R.ya h1) ⟨bs,us,h3,h4,rfl⟩ (by simp)
  ·cases h
 case convert s t x=>
  split at h
  ·rename_i a b u h1 h2 hx
   obtain ⟨v,h3,h4⟩:=aK hf hx
   exact yE hT hR h1 h2 h hob h4 h3
  ·cases h
 case makeFunc g b c=>
  cases g <;> simp only at h <;> try cases h
  rename_i f
  split at h
  ·rename_i cs hb hc
   split at h
   ·rename_i cp hcp
    cases h
    obtain ⟨vs,h1,h2⟩:=qU hf hc
    have h3:=pX hcp h2
    obtain rfl:b = #[]:=by
     apply Array.ext'
     simpa using hb
    refine y0 (R.makeFunc (cv:=vs.toArray) fun a ha=>?_) ⟨[],vs,.nil,h3,rfl⟩ (by simp)
    apply Array.ext'
    rw [Array.toList_map,pS ha h1]
   ·cases h
  ·cases h
 case fieldAddr t x i=>
  split at h
  ·rename_i fs sz z a h1 hx
   split at h
   ·rename_i o k hi
    obtain ⟨v,h2,h3⟩:=aK hf hx
    obtain ⟨u,h4,h5,_,h7⟩:=yS (P:=P) (n:=n) (w:=w) (ty:=ty) hT h1 hi h3 h2 h
    exact y0 h4 h5 (Cm h7)
   ·cases h
  ·cases h
 case load t x=>
  split at h
  ·rename_i a hx
   obtain ⟨v,h2,h3⟩:=aK hf hx
   split at h
   ·rename_i r' hla
    cases h
    obtain ⟨u,h4,h5,h6⟩:=lG (P:=P) (n:=n) (ty:=ty) hT hR h3 h2 hla hob
    exact y0 h4 h5 h6
   ·obtain ⟨u,h4,h5,_,h7⟩:=rI (P:=P) (n:=n) (ty:=ty) hT hR h3 h2 h
    exact y0 h4 h5 (Cm h7)
  ·cases h
 case indexAddr t x y=>
  split at h
  ·rename_i a b s hx hy hs
   split at h
   ·rename_i i hi
    obtain ⟨va,h1,h2⟩:=aK hf hx
    obtain ⟨vb,h3,h4⟩:=aK hf hy
    obtain ⟨k,rfl⟩:=jU hi h4
    obtain ⟨v,h5,h6,h7⟩:=yj (P:=P) (n:=n) (ty:=ty) hT hR hs h hob h2 h1 h3
    exact y0 h5 h6 h7
   ·cases h
  ·rename_i a b hx hy hs
   split at h
   ·rename_i i hi
    obtain ⟨va,h1,h2⟩:=aK hf hx
    obtain ⟨vb,h3,h4⟩:=aK hf hy
    obtain ⟨k,rfl⟩:=jU hi h4
    obtain ⟨v,h5,h6,h7⟩:=pK (P:=P) (n:=n) (ty:=ty) hT h2 h1 h3 h hob
    exact y0 h5 h6 h7
   ·cases h
  ·rename_i b hx hy hs
   split at h
   ·rename_i i hi
    obtain ⟨vb,h3,h4⟩:=aK hf hy
    obtain ⟨k,rfl⟩:=jU hi h4
    obtain ⟨v,h5,h6,h7⟩:=qb (P:=P) (n:=n) (ty:=ty) hT hR h3 h hob
    exact y0 h5 h6 h7
   ·cases h
  ·cases h
 case index t x y=>
  split at h
  ·rename_i s b hx hy
   split at h
   ·rename_i i hi
    split at h
    ·rename_i sz z ht
     cases h
     obtain ⟨va,h1,h2⟩:=aK hf hx
     obtain ⟨vb,h3,h4⟩:=aK hf hy
     obtain ⟨k,rfl⟩:=jU hi h4
     cases h2 with | str hl=>
     have g0:=hob _ (List.mem_cons_self); have g1:=hob _ (List.mem_cons_of_mem _ (List.mem_singleton_self _))
     obtain ⟨j,rfl⟩:=Int.eq_ofNat_of_zero_le g0
     exact y0 (R.LA h1 h3 (hT _ _ ht).2 bt) Pd.u8 (by simp)
    ·cases h
   ·cases h
  ·rename_i cs b hx hy
   split at h
   ·rename_i i hi
    obtain ⟨va,h1,h2⟩:=aK hf hx
    obtain ⟨vb,h3,h4⟩:=aK hf hy
    obtain ⟨k,rfl⟩:=jU hi h4
    obtain ⟨v,h5,h6,h7⟩:=pC (P:=P) (n:=n) (w:=w) (ty:=ty) hT h2 h1 h3 h hob
    exact y0 h5 h6 h7
   ·cases h
  ·cases h
 case build t parts=>
  split at h
  ·rename_i fs sz z l ht hl
   split at h
   ·rename_i cs hb
    cases h
    obtain ⟨pv,h1,h2⟩:=iq hf hl
    obtain ⟨us,h3,h4⟩:=yu (P:=P) (n:=n) (w:=w) (ty:=ty) hT ht h1 h2 hb
    have e:parts.toList.toArray=parts:=by simp
    rw [e] at h3
    exact y0 h3 ⟨us,rfl,h4⟩ (by simp)
   ·cases h
  ·rename_i m e sz z l ht hl
   split at h
   ·rename_i s cs hs hb
    cases h
    obtain ⟨pv,h1,h2⟩:=iq hf hl
    obtain ⟨us,h3,h4⟩:=vi (P:=P) (n:=n) (w:=w) (ty:=ty) hT ht hs h1 h2 hb
    have e:parts.toList.toArray=parts:=by simp
    rw [e] at h3
    exact y0 h3 ⟨us,rfl,h4⟩ (by simp)
   ·cases h
  ·cases h
 case slice t x lo hi mx=>
  cases mx with
  | some m=>cases h
  | none=>
  simp only at h
  split at h
  ·rename_i a hx
   obtain ⟨va,h1,h2⟩:=aK hf hx
   have fin:∀ (l' h':Option Int),gl T t a l' h' = some r->(∀ i,l' = some i->∃ z,lo=some z/\ev F z=some (.int .i64 i))->(l' = none->lo=none)->(∀ i,h' = some i->∃ z,hi=some z/\ev F z=some (.int .i64 i))->(h' = none->hi=none)->Yields P n F w (.slice t x lo hi none) ty fun v w'=>Kp [] w w' /\ Rt (cx G ρ w') ρ r.v v/\∀ p ∈ r.fc,p:=fun l' h' hs k1 k2 k3 k4=>by
    obtain ⟨v,h5,h6,h7⟩:=xr (P:=P) (n:=n) (w:=w) (ty:=ty) hT hs hob h2 h1 k1 k2 k3 k4
    exact y0 h5 h6 (Cm h7)
   split at h
   ·cases h
   ·split at h
    ·rename_i z i hz
     obtain ⟨vz,h3,h4⟩:=aK hf hz
     cases h4 with | int=>
     exact fin _ _ h (fun j hj=>by cases hj; exact ⟨_,rfl,h3⟩) (by simp) (by simp) (fun _=>rfl)
    ·cases h
   ·split at h
    ·rename_i z i hz
     obtain ⟨vz,h3,h4⟩:=aK hf hz
     cases h4 with | int=>
     exact fin _ _ h (by simp) (fun _=>rfl) (fun j hj=>by cases hj; exact ⟨_,rfl,h3⟩) (by simp)
    ·cases h
   ·split at h
    ·rename_i z z' i j hz hz'
     obtain ⟨vz,h3,h4⟩:=aK hf hz
     obtain ⟨vz',h5,h6⟩:=aK hf hz'
     cases h4 with | int=>
     cases h6 with | int=>
     exact fin _ _ h (fun j hj=>by cases hj; exact ⟨_,rfl,h3⟩) (by simp) (fun j hj=>by cases hj; exact ⟨_,rfl,h5⟩) (by simp)
    ·cases h
  ·cases h
 case call cl=>
  split at h
  ·rename_i hcal
   split at h
   ·rename_i x t hargs htys
    split at h
    ·rename_i a hx
     split at h
     ·rename_i m hm
      cases h
      obtain ⟨va,h1,h2⟩:=aK hf hx
      obtain ⟨h3,h4⟩:=EI (P:=P) (n:=n) (ty:=ty) hT hR hm h2 h1
      have e:cl={ callee:=.builtin .len,args:=#[x],argTypes:=#[t] }:=by
       cases cl; simp at hcal hargs htys; subst hcal
       simp only [Call.mk.injEq,true_and]
       exact ⟨Array.ext' (by simpa using hargs),Array.ext' (by simpa using htys)⟩
      rw [e]
      exact y0 h3 (Pd.int h4) (by simp)
     ·cases h
    ·cases h
   ·cases h
  ·rename_i hcal
   split at h
   ·rename_i x y hargs
    split at h
    ·rename_i a b hx hy
     cases h
     obtain ⟨va,h1,h2⟩:=aK hf hx
     obtain ⟨vb,h3,h4⟩:=aK hf hy
     cases h2 with | int ia=>
     cases h4 with | int ib=>
     have e:cl={ callee:=.builtin .min,args:=#[x,y],argTypes:=cl.argTypes }:=by
      cases cl; simp at hcal hargs; subst hcal
      simp only [Call.mk.injEq,true_and,and_true]
      exact Array.ext' (by simpa using hargs)
     rw [e]
     exact y0 (R.min2 h1 h3) (Pd.int (by unfold I64 at *; omega)) (by simp)
    ·rename_i a b hx hy
     cases h
     obtain ⟨va,h1,h2⟩:=aK hf hx
     obtain ⟨vb,h3,h4⟩:=aK hf hy
     cases h2 with | u64 ia=>
     cases h4 with | u64 ib=>
     have e:cl={ callee:=.builtin .min,args:=#[x,y],argTypes:=cl.argTypes }:=by
      cases cl; simp at hcal hargs; subst hcal
      simp only [Call.mk.injEq,true_and,and_true]
      exact Array.ext' (by simpa using hargs)
     have e2:min (a:Int) (b:Int)=((min a b:Nat):Int):=by omega
     have e3:=R.min2 (P:=P) (n:=n) (w:=w) (ty:=ty) (asx:=cl.argTypes) h1 h3
     rw [e2] at e3
     rw [e]
     exact y0 e3 (Pd.u64 bt) (by simp)
    ·cases h
   ·cases h
  ·rename_i hcal
   split at h
   ·rename_i x y hargs
    split at h
    ·rename_i a b hx hy
     cases h
     obtain ⟨va,h1,h2⟩:=aK hf hx
     obtain ⟨vb,h3,h4⟩:=aK hf hy
     cases h2 with | int ia=>
     cases h4 with | int ib=>
     have e:cl={ callee:=.builtin .max,args:=#[x,y],argTypes:=cl.argTypes }:=by
      cases cl; simp at hcal hargs; subst hcal
      simp only [Call.mk.injEq,true_and,and_true]
      exact Array.ext' (by simpa using hargs)
     rw [e]
     exact y0 (R.max2 h1 h3) (Pd.int (by unfold I64 at *; omega)) (by simp)
    ·cases h
   ·cases h
  ·rename_i x hcal
   split at h
   ·rename_i f l hl
    obtain ⟨x',xs,vs,cap,h1,h2,h3,h4,h5⟩:=gy hf hl
    obtain ⟨⟨fn,h6,h7,h8⟩,hrun⟩:=oZ hO hR h5 h hob
    have e:cl={ callee:=.value x',args:=xs.toArray,argTypes:=cl.argTypes }:=by
     cases cl; simp at h1 h2; subst h1; subst h2; rfl
    rw [e]
    exact .inr ⟨_,_,E.call h3 h4 h6 h7 h8,hrun⟩
   ·cases h
  ·cases h
 case lookup t x y ok=>
  split at h
  ·rename_i s id k hft hx hy
   split at h
   ·rename_i s' f hO2
    split at h
    ·rename_i hss
     subst hss
     obtain ⟨hm,hk,hz,_⟩:=(hT _ _ hft).2
     obtain ⟨z,zs,hz1,hz2,hz3⟩:=hz _ rfl
     obtain ⟨va,h1,h2⟩:=aK hf hx
     obtain ⟨vb,h3,h4⟩:=aK hf hy
     cases h4 with | int=>
     obtain ⟨g,hg,rfl⟩:=h2
     obtain ⟨r',hr',hor⟩:=hR.at_ (bG hO2 (by simp))
     rw [hg] at hr'; cases hr'
     obtain ⟨g',e,a,c,k1,k2,k3⟩:=hor
     cases e
     have hrun:=R.vS (P:=P) (n:=n) (ty:=ty) ok h1 h3 hm hk hz1 k1 k2
     have hv:V1 (cx G ρ w) s' ((f k).getD (aG s')) ((getM k a.toList).getD z):=by
      have k4:=k3 k
      cases hgm:getM k a.toList <;> cases hfk:f k <;> rw [hgm,hfk] at k4
      ·exact V1.zero hz2 hz3
      ·exact k4.elim
      ·exact k4.elim
      ·exact k4
     have hs:(getM k a.toList).isSome=(f k).isSome:=by
      have k4:=k3 k
      cases hgm:getM k a.toList <;> cases hfk:f k <;> rw [hgm,hfk] at k4
      ·rfl
      ·exact k4.elim
      ·exact k4.elim
      ·rfl
     cases ok with
     | false=>cases h; exact y0 hrun hv.rt (by simp)
     | true=>
      cases h
      refine y0 hrun ⟨_,rfl,.cons hv.rt (.cons ?_ .nil)⟩ (by simp)
      rw [hs]
      exact Pd.bool (e:=.atom (f k).isSome)
    ·cases h
   ·cases h
  ·exact xy (P:=P) (n:=n) (w:=w) (ty:=ty) hT hf rfl rfl h rfl
 case buildSlice t m parts=>
  split at h
  ·rename_i e sz z l hft hl
   split at h
   ·rename_i cs hcs
    split at h
    ·rename_i hck
     simp only [pr,Option.some.injEq] at h
     subst h
     simp only [Bool.and_eq_true] at hck
     obtain ⟨pv,h1,h2⟩:=iq hf hl
     exact CA hT hR hft hcs h1 h2 (Nat.eq_of_beq_eq_true hck.1.1) hck.1.2 (Nat.le_of_ble_eq_true hck.2)
    ·cases h
   ·cases h
  ·cases h
 all_goals cases h
end
def fo (d:Option Nat) (v:Value) (F:Fr):Fr:=match d with
 | some d=>(d,v) :: F
 | none=>F
def gi (n:Nat):List Oper->Bool
 | []=>true
 | o :: r=>(match o.dst with
  | some d=>Nat.blt d n
  | none=>true) && gi n r
theorem gP {n:Nat}:∀ {l:List Oper},gi n l=true->∀ o ∈ l,∀ d,o.dst=some d->Nat.blt d n=true
 | [],_,_,h,_,_=>by simp at h
 | a :: r,h,o,ho,d,hd=>by
  simp only [gi,Bool.and_eq_true] at h
  rcases List.mem_cons.1 ho with rfl | ho
  ·have:=h.1; rw [hd] at this; exact this
  ·exact gP h.2 o ho d hd
section
variable {P:Program} {Q:Exit->Act->World->Prop} {n:Nat} {l rest:List Oper} {F:Fr} {w:World} {op:Op} {ty:TypeId} {pos:String} {af:Array Edge}
theorem WO.y {d:Option Nat} {φ:Value->World->Prop} (h:Yields P n F w op ty φ) (hd:∀ d',d=some d' -> Nat.blt d' n=true) (k:∀ v w',φ v w' -> WO P Q n l rest (fo d v F) w'):WO P Q n l (⟨d,op,ty,pos,af,none⟩ :: rest) F w:=by
 cases d with
 | some d=>
  rcases h with ⟨v,w',h1,h2⟩ | ⟨f,args,h1,h2⟩
  ·exact WO.v h1 (hd _ rfl) (k v w' h2)
  ·exact WO.c h1 h2 (hd _ rfl) k
 | none=>
  rcases h with ⟨v,w',h1,h2⟩ | ⟨f,args,h1,h2⟩
  ·exact WO.v0 h1 (k v w' h2)
  ·exact WO.c0 h1 h2 k
theorem yP {c:Cx} {ρ:List RE} {fr:AFr} (h:cK c ρ fr F) {i:Nat} (hx:lookA fr i=none):look F i=none:=by
 induction h with
 | nil=>rfl
 | @cons p q fr F hp _ ih=>
  obtain ⟨i1,t1⟩:=p
  obtain ⟨i2,v2⟩:=q
  obtain ⟨rfl,hr⟩:=hp
  unfold lookA at hx
  unfold look
  cases hb:Nat.beq i1 i <;> rw [hb] at hx <;> simp only [cond_true,cond_false] at hx ⊢
  ·exact ih hx
  ·cases hx
theorem eL {c:Cx} {ρ:List RE} {fr:AFr} (h:cK c ρ fr F) {d:Option Nat} (hd:e_ fr d=true):∀ d',d=some d' -> look F d' = none:=by
 rintro d' rfl
 simp only [e_] at hd
 split at hd
 ·rename_i he; exact yP h he
 ·cases hd
theorem fE {F:Fr} {i:Nat} {v:Value} (hv:look F i=some v):∀ {us:Fr},(∀ q ∈ us,look F q.1=none)->look (us++F) i=some v
 | [],_=>hv
 | (j,u) :: us,h=>by
  rw [List.cons_append,aY]
  by_cases hj:j=i
  ·subst hj
   have:=h (j,u) (by simp)
   simp only at this
   rw [this] at hv; cases hv
  ·rw [if_neg hj]; exact fE hv fun q hq=>h q (by simp [hq])
theorem WO.drop {us F:Fr} (h:∀ q ∈ us,look F q.1=none) (k:WO P Q n l rest F w):WO P Q n l rest (us++F) w:=fun a ha=>k a (ha.sub fun _ _ hv=>fE hv h)
theorem WO.Ew {us F:Fr} {x:Nat × Value} (h:∀ q ∈ us,look F q.1=none) (k:WO P Q n l rest (x :: F) w):WO P Q n l rest (x :: (us++F)) w:=fun a ha=>k a (ha.sub fun i v hv=>by
 obtain ⟨j,u⟩:=x
 rw [aY] at hv ⊢
 by_cases hj:j=i
 ·rw [if_pos hj] at hv ⊢; exact hv
 ·rw [if_neg hj] at hv ⊢; exact fE hv h)
theorem yL {us F:Fr} {i:Nat} (h:∀ q ∈ us,q.1≠i):look (us++F) i=look F i:=sy h
theorem qK {a b:Option (Nat × Bool)} (h:BH a b=true):a=b:=by
 unfold BH at h
 split at h
 ·rfl
 ·simp only [Bool.and_eq_true,beq_iff_eq] at h
  have:=Nat.eq_of_beq_eq_true h.1
  rw [this,h.2]
 ·cases h
theorem nj {F:Fr} {q:Nat × Value}:∀ {us:Fr},q ∈ us->(∀ q ∈ us,q.2=undef)->look (us++F) q.1=some undef
 | [],h,_=>by simp at h
 | (i,u) :: us,hq,hus=>by
  rw [List.cons_append,aY]
  by_cases hi:i=q.1
  ·rw [if_pos hi]; have:=hus (i,u) (by simp); simp only at this; rw [this]
  ·rw [if_neg hi]
   refine nj ?_ (fun z hz=>hus z (by simp [hz]))
   rcases List.mem_cons.1 hq with rfl | hq
   ·exact absurd rfl hi
   ·exact hq
theorem hP {fr:AFr} {c:Cx} {ρ:List RE} (hf:cK c ρ fr F) {j t:Nat} {wt b:Bool} (hj:idst l j=some t) (hv:look F t=some (.bool b)) (hb:b = !wt):∀ {grp:List Oper} {us:Fr},uO l fr j wt (us.map (·.1)) grp=true->gi n grp=true->(∀ q ∈ us,look F q.1=none/\q.2=undef)->WO P Q n l rest F w->WO P Q n l (grp++rest) (us++F) w
 | [],us,_,_,hus,k=>WO.drop (fun q hq=>(hus q hq).1) k
 | o :: r,us,h,hd,hus,k=>by
  have hdo:=gP hd o (by simp)
  have hdr:gi n r=true:=by simp only [gi,Bool.and_eq_true] at hd; exact hd.2
  clear hd
  obtain ⟨dst,op,ty,pos,af,g⟩:=o
  simp only [uO,Bool.and_eq_true] at h
  obtain ⟨⟨h1,h2⟩,h3⟩:=h
  have hne:∀ q ∈ us,q.1≠t:=fun q hq e=>by have:=(hus q hq).1; rw [e,hv] at this; cases this
  have hv':look (us++F) t=some (.bool b):=by rw [yL hne]; exact hv
  rw [List.cons_append]
  cases g with
  | none=>cases h2
  | some g=>
  obtain ⟨j',w'⟩:=g
  simp only [Bool.or_eq_true,Bool.and_eq_true,beq_iff_eq] at h2
  have hnew:∀ d,dst=some d->∀ q ∈ ((d,undef) :: us:Fr),look F q.1=none/\q.2=undef:=fun d hdd q hq=>by
   rcases List.mem_cons.1 hq with rfl | hq
   ·exact ⟨eL hf h1 d hdd,rfl⟩
   ·exact hus q hq
  rcases h2 with ⟨e1,e2⟩ | h2
  ·have e1:=Nat.eq_of_beq_eq_true e1
   subst e1; subst e2
   cases dst with
   | some d=>exact WO.off hj hv' hb (hdo d rfl) (hP hf hj hv hb (us:=(d,undef) :: us) h3 hdr (hnew d rfl) k)
   | none=>exact WO.LP hj hv' hb (hP hf hj hv hb h3 hdr hus k)
  ·split at h2
   ·rename_i t' ht'
    obtain ⟨q,hq,rfl⟩:=List.mem_map.1 (bw.1 h2)
    have hlu:look (us++F) q.1=some undef:=nj hq fun z hz=>(hus z hz).2
    cases dst with
    | some d=>exact WO.Ht ht' hlu (hdo d rfl) (hP hf hj hv hb (us:=(d,undef) :: us) h3 hdr (hnew d rfl) k)
    | none=>exact WO.GJ ht' hlu (hP hf hj hv hb h3 hdr hus k)
   ·cases h2
theorem ko {t:Nat}:∀ {ops grp tail:List Oper} {pk:Oper},nV t ops=some (grp,pk,tail)->ops=grp++pk :: tail/\kz t pk=true
 | [],_,_,_,h=>by cases h
 | o :: r,grp,tail,pk,h=>by
  unfold nV at h
  cases hp:kz t o <;> rw [hp] at h
  ·simp only [cond_false] at h
   split at h
   ·rename_i a b c hs
    cases h
    obtain ⟨h1,h2⟩:=ko hs
    exact ⟨by rw [h1]; rfl,h2⟩
   ·cases h
  ·cases h; exact ⟨rfl,hp⟩
theorem jm {n:Nat}:∀ {a b:List Oper},gi n (a++b)=true↔gi n a=true/\gi n b=true
 | [],b=>by simp [gi]
 | o :: r,b=>by simp [gi,jm,and_assoc]
end
theorem dK:∀ {l:List Prop},gO l↔∀ p ∈ l,p
 | []=>by simp [gO]
 | [p]=>⟨fun h q hq=>by rw [List.mem_singleton.1 hq]; exact h,fun h=>h p (List.mem_singleton_self _)⟩
 | p :: q :: l=>by
  have:=dK (l:=q :: l)
  simp only [gO,this,List.forall_mem_cons]
theorem xG {e:BE} {w:Bool} {ob:List Prop} (h:∀ p ∈ ke e w ob,p) (he:e.val=w):∀ p ∈ ob,p:=by
 cases ob with
 | nil=>simp
 | cons p ob=>exact dK.1 (h _ (List.mem_singleton_self _) ((BE.dB e w).2 he))
theorem oY {e:BE} {w:Bool} {ob:List Prop} (h:e.val=w->∀ p ∈ ob,p):∀ p ∈ ke e w ob,p:=by
 cases ob with
 | nil=>simp [ke]
 | cons p ob=>
  intro q hq
  rw [List.mem_singleton.1 hq]
  exact fun he=>dK.2 (h ((BE.dB e w).1 he))
theorem cM {tv:Option TV} {e:BE} (h:lK tv=some e):tv=some (one (.bool e)):=by
 unfold lK at h
 split at h
 ·cases h; rfl
 ·cases h
section
variable {P:Program} {T:List (Nat × TI)} {G:Gl} {O:cO} {Q:Exit->Act->World->Prop} {n:Nat} {l:List Oper} {ρ:List RE} {H:AH}
def Jy (l:List Oper) (fr:AFr) (g:Option (Nat × Bool)):Prop:=∀ j wt,g=some (j,wt)->∃ t e,idst l j=some t/\lookA fr t=some (one (.bool e))/\e.val=wt
theorem cz {j i:Nat} {v:TV} {r:AFr}:lookA ((j,v) :: r) i=if j=i then some v else lookA r i:=by
 show (bif Nat.beq j i then some v else lookA r i)=_
 by_cases h:j=i
 ·simp [h]
 ·have:Nat.beq j i=false:=by rw [<- Bool.not_eq_true,Nat.beq_eq]; exact h
  simp [this,h]
theorem Jy.put {fr:AFr} {g:Option (Nat × Bool)} (h:Jy l fr g) {d:Option Nat} {v:TV} (hd:e_ fr d=true):Jy l (lO d v fr) g:=by
 intro j wt hg
 obtain ⟨t,e,h1,h2,h3⟩:=h j wt hg
 refine ⟨t,e,h1,?_,h3⟩
 cases d with
 | none=>exact h2
 | some d=>
  show lookA ((d,v) :: fr) t=_
  rw [cz,if_neg]
  ·exact h2
  ·rintro rfl
   simp only [e_,h2] at hd
   cases hd
theorem WO.NZ {F:Fr} {w:World} {fr:AFr} {g:Option (Nat × Bool)} (hg:Jy l fr g) (hf:cK (cx G ρ w) ρ fr F) {A:Fr} (hA:∀ x ∈ A,look F x.1=none) {dst:Option Nat} {op:Op} {ty:TypeId} {pos:String} {af:Array Edge} {rest:List Oper}
  (k:WO P Q n l (⟨dst,op,ty,pos,af,none⟩ :: rest) (A++F) w):WO P Q n l (⟨dst,op,ty,pos,af,g⟩ :: rest) (A++F) w:=by
 cases g with
 | none=>exact k
 | some g=>
  obtain ⟨j,wt⟩:=g
  obtain ⟨t,e,h1,h2,h3⟩:=hg j wt rfl
  obtain ⟨v,h4,h5⟩:=dL hf h2
  cases h5 with | bool=>
  exact WO.on h1 (fE h4 hA) h3 k
def KT (P:Program) (G:Gl) (Q:Exit->Act->World->Prop) (n:Nat) (l:List Oper) (ρ:List RE) (H:AH) (run:Option (Nat × Bool)->List Oper->AFr->Option GR):Prop:=
 ∀ (g:Option (Nat × Bool)) (ops tail:List Oper) (fr:AFr) (q:GR) (F:Fr) (w:World),run g ops fr=some q->Jy l fr g->(∀ p ∈ q.ob,p)->gi n ops=true->Rep G ρ H w->cK (cx G ρ w) ρ fr F ->
  (∀ A w',Kp [] w w' -> (∀ p ∈ q.fc,p)->cK (cx G ρ w') ρ q.fr (A++F)->cK (cx G ρ w') ρ fr F->(∀ x ∈ A,look F x.1=none)->WO P Q n l tail (A++F) w')->WO P Q n l (ops++tail) F w
theorem cK.kp {fr:AFr} {F:Fr} {w w':World} (h:cK (cx G ρ w) ρ fr F) (k:Kp [] w w'):cK (cx G ρ w') ρ fr F:=h.carry (Kp.le k) (je.refl _)
theorem xm {run:Option (Nat × Bool)->List Oper->AFr->Option GR} (hrun:KT P G Q n l ρ H run) {g:Option (Nat × Bool)} {ops tl:List Oper} {fr:AFr} {j:Nat} {wt:Bool} {r:GrpR} {F:Fr} {w:World} (h:DC l fr g run j wt ops=some r) (hg:Jy l fr g) (hob:∀ p ∈ r.ob,p) (hd:gi n ops=true) (hR:Rep G ρ H w) (hf:cK (cx G ρ w) ρ fr F)
  (k:∀ w',Kp [] w w' -> (∀ p ∈ r.fc,p)->look F r.d=none->e_ fr (some r.d)=true->cK (cx G ρ w') ρ fr F->Nat.blt r.d n=true->gi n r.tail=true->WO P Q n l (r.tail++tl) ((r.d,.bool r.v.val) :: F) w'):WO P Q n l (ops++tl) F w:=by
 unfold DC at h
 split at h
 ·rename_i t hj
  split at h
  ·rename_i e grp pk tail he hs
   split at h
   ·rename_i q hck hq
    simp only [Bool.and_eq_true] at hck
    obtain ⟨⟨hoff,hpg⟩,hfresh⟩:=hck
    split at h
    ·rename_i z x y d hpk hpd
     split at h
     ·rename_i v hv
      cases h
      obtain ⟨hops,hip⟩:=ko hs
      subst hops
      replace hpg:=qK hpg
      replace he:=cM he
      obtain ⟨vt,hvt,hvr⟩:=dL hf he
      cases hvr with | bool=>
      obtain ⟨hd1,hd2⟩:=jm.1 hd
      have hd3:gi n tail=true:=by simp only [gi,Bool.and_eq_true] at hd2; exact hd2.2
      have hdd:Nat.blt d n=true:=gP hd2 pk (by simp) d hpd
      rw [hpd] at hfresh
      have hFd:look F d=none:=eL hf hfresh d rfl
      obtain ⟨dst,op,ty,pos,af,pg⟩:=pk
      simp only at hpk hpd hpg
      subst hpk; subst hpd; subst hpg
      have hz:z = .tmp t:=by
       cases z <;> simp only [kz] at hip
       ·rw [Nat.eq_of_beq_eq_true hip]
       all_goals cases hip
      subst hz
      rw [List.append_assoc,List.cons_append]
      -- the pick
      have pick:∀ (A:Fr) (w':World) (b:Bool),e.val=b->(∀ u ∈ A,look F u.1=none)->Kp [] w w' -> (∀ p ∈ ke e wt q.fc,p)->cK (cx G ρ w') ρ fr F->(∃ u,ev (A++F) (cond b x y)=some (.bool u)/\u=v.val)->WO P Q n l (⟨some d,.pick (.tmp t) x y,ty,pos,af,pg⟩ :: (tail++tl)) (A++F) w':=by
       rintro A w' b hb hA hk hfc hf' ⟨u,hu,hv2⟩
       subst hv2
       refine WO.NZ (G:=G) (ρ:=ρ) hg hf' hA ?_
       have hl:ev (A++F) (.tmp t)=some (.bool e.val):=fE hvt hA
       have key:=WO.Ew (x:=(d,.bool v.val)) hA (k w' hk hfc hFd hfresh hf' hdd hd3)
       cases b with
       | true=>exact WO.v (R.tg hl hb hu) hdd key
       | false=>exact WO.v (R.rR hl hb hu) hdd key
      unfold vK at hv
      by_cases hew:e.val=wt
      ·-- it is run
       refine hrun (some (j,wt)) grp _ fr q F w hq (fun j' w' hjw=>by cases hjw; exact ⟨t,e,hj,he,hew⟩) (xG hob hew) hd1 hR hf fun A w' hk hfc hfq hf' hA=>?_
       refine pick A w' wt hew hA hk (oY fun _=>hfc) hf' ?_
       split at hv
       ·rename_i a hon hoff'
        cases hv
        obtain ⟨u,h1,h2⟩:=aK hfq (cM hon)
        cases h2 with | bool=>
        exact ⟨_,h1,by simp [BE.val,hew]⟩
       ·rename_i a hon hoff'
        cases hv
        obtain ⟨u,h1,h2⟩:=aK hfq (cM hon)
        cases h2 with | bool=>
        exact ⟨_,h1,by simp [BE.val,hew]⟩
       ·cases hv
      ·have hew':e.val = !wt:=by revert hew; cases e.val <;> cases wt <;> simp
       refine hP (us:=[]) hf hj hvt hew' hoff hd1 (by simp) ?_
       refine pick [] w (!wt) hew' (by simp) (Kp.refl w) (oY fun hh=>absurd hh hew) hf ?_
       split at hv
       ·rename_i a hon hoff'
        cases hv
        obtain ⟨u,h1,h2⟩:=aK hf (cM hoff')
        cases h2 with | bool=>
        exact ⟨_,h1,by simp [BE.val,hew']⟩
       ·rename_i a hon hoff'
        cases hv
        obtain ⟨u,h1,h2⟩:=aK hf (cM hoff')
        cases h2 with | bool=>
        exact ⟨_,h1,by simp [BE.val,hew']⟩
       ·cases hv
     ·cases h
    ·cases h
   ·cases h
  ·cases h
 ·cases h
theorem jC (hT:bn P G.shp T) (hO:bk P G.shp O):∀ m,KT P G Q n l ρ H (xU T O l H m)
 | 0=>fun g ops tail fr q F w h=>by cases ops <;> cases h
 | m+1=>by
  intro g ops tail fr q F w h hg hob hd hR hf k
  cases ops with
  | nil=>
   cases h
   exact k [] w (Kp.refl w) (by simp) hf hf (by simp)
  | cons o rest=>
   have hdo:=gP hd o (by simp)
   have hdr:gi n rest=true:=by simp only [gi,Bool.and_eq_true] at hd; exact hd.2
   unfold xU at h
   split at h
   ·rename_i hgo
    replace hgo:=qK hgo
    split at h
    ·rename_i r hfr hpv
     split at h
     ·rename_i q2 hq2
      cases h
      obtain ⟨dst,op,ty,pos,af,og⟩:=o
      simp only at hgo hfr hpv hdo hq2
      subst hgo
      rw [List.cons_append]
      refine WO.NZ (A:=[]) (G:=G) (ρ:=ρ) hg hf (by simp) ?_
      change WO P Q n l _ F w
      refine WO.y (mG (ty:=ty) hT hO hR hf hpv fun p hp=>hob p (by simp [hp])) hdo fun v w1 ⟨hk1,hv1,hfc1⟩=>?_
      have hf1:cK (cx G ρ w1) ρ (lO dst r.v fr) (fo dst v F):=by
       cases dst with
       | some d=>exact .cons ⟨rfl,hv1⟩ (hf.kp hk1)
       | none=>exact hf.kp hk1
      refine jC hT hO m og rest tail _ q2 _ w1 hq2 (hg.put hfr) (fun p hp=>hob p (by simp [hp])) hdr (hR.kp hk1) hf1 fun A w2 hk2 hfc2 hfq _ hA=>?_
      have hA2:∀ x ∈ A++fo dst v [],look F x.1=none:=by
       intro x hx
       rcases List.mem_append.1 hx with hx | hx
       ·have:=hA x hx
        cases dst with
        | none=>exact this
        | some d=>
         simp only [fo] at this
         rw [aY] at this
         by_cases hdx:d=x.1
         ·rw [if_pos hdx] at this; cases this
         ·rw [if_neg hdx] at this; exact this
       ·cases dst with
        | none=>simp [fo] at hx
        | some d=>simp only [fo,List.mem_singleton] at hx; subst hx; exact eL hf hfr d rfl
      have e:A++fo dst v F=(A++fo dst v [])++F:=by cases dst <;> simp [fo]
      rw [e] at hfq ⊢
      exact k _ w2 (hk1.trans hk2) (fun p hp=>by
       rcases List.mem_append.1 hp with hp | hp
       ·exact hfc1 p hp
       ·exact hfc2 p hp) hfq ((hf.kp hk1).kp hk2) hA2
     ·cases h
    ·cases h
   ·split at h
    ·rename_i j wt hog
     split at h
     ·rename_i r hgr
      split at h
      ·rename_i q2 hq2
       cases h
       refine xm (G:=G) (H:=H) (jC hT hO m) hgr hg (fun p hp=>hob p (by simp [hp])) hd hR hf fun w1 hk1 hfc1 hFd hfd hf1 hbd hdt=>?_
       have hf2:cK (cx G ρ w1) ρ ((r.d,one (.bool r.v)) :: fr) ((r.d,.bool r.v.val) :: F):=.cons ⟨rfl,Pd.bool⟩ hf1
       refine jC hT hO m g r.tail tail _ q2 _ w1 hq2 (hg.put (d:=some r.d) hfd) (fun p hp=>hob p (by simp [hp])) hdt (hR.kp hk1) hf2 fun A w2 hk2 hfc2 hfq _ hA=>?_
       have hA2:∀ x ∈ A++[(r.d,Value.bool r.v.val)],look F x.1=none:=by
        intro x hx
        rcases List.mem_append.1 hx with hx | hx
        ·have:=hA x hx
         rw [aY] at this
         by_cases hdx:r.d=x.1
         ·rw [if_pos hdx] at this; cases this
         ·rw [if_neg hdx] at this; exact this
        ·simp only [List.mem_singleton] at hx; subst hx; exact hFd
       have e:A++((r.d,Value.bool r.v.val) :: F)=(A++[(r.d,Value.bool r.v.val)])++F:=by simp
       rw [e] at hfq ⊢
       exact k _ w2 (hk1.trans hk2) (fun p hp=>by
        rcases List.mem_append.1 hp with hp | hp
        ·exact hfc1 p hp
        ·exact hfc2 p hp) hfq (hf1.kp hk2) hA2
      ·cases h
     ·cases h
    ·cases h
end
theorem nD {ρ:List RE} {r r':RE} {i:Nat} (h:ρ[i]? = some r'):(ρ++[r])[i]? = some r':=by
 rw [List.getElem?_append_left (List.getElem?_eq_some_iff.1 h).1]; exact h
structure Stp (ro:Lv) (ρ:List RE) (w:World) (ρ':List RE) (w':World):Prop where
 ext:Ext ρ w ρ' w'
 loc:∀ (i:Nat) (r:RE),ro.mv i=false->ρ[i]? = some r->ρ'[i]? = some r
 pro:∀ (i:Nat) (r:RE),ro.wr i=false->ρ[i]? = some r->ρ'[i]? = some r/\∀ g,r.g? = some g->w'.heap[g]? = w.heap[g]?
 bx:∀ (i g:Nat),ρ[i]? = some (.blk g)->ρ'[i]? = some (.blk g)
theorem Stp.refl (ro:Lv) (ρ:List RE) (w:World):Stp ro ρ w ρ w:=⟨Ext.refl _ _,fun _ _ _ h=>h,fun _ _ _ h=>⟨h,fun _ _=>rfl⟩,fun _ _ h=>h⟩
theorem Stp.trans {ro:Lv} {ρ0 ρ1 ρ2:List RE} {a b c:World} (h:Stp ro ρ0 a ρ1 b) (k:Stp ro ρ1 b ρ2 c):Stp ro ρ0 a ρ2 c:=
 ⟨h.ext.trans k.ext,fun i r hi hr=>k.loc i r hi (h.loc i r hi hr),fun i r hi hr=>by
  obtain ⟨h1,h2⟩:=h.pro i r hi hr
  obtain ⟨h3,h4⟩:=k.pro i r hi h1
  exact ⟨h3,fun g hg=>(h4 g hg).trans (h2 g hg)⟩,fun i g hi=>k.bx i g (h.bx i g hi)⟩
theorem Stp.kp {ro:Lv} {G:Gl} {H:AH} {ρ:List RE} {w w':World} (hR:Rep G ρ H w) (k:Kp [] w w'):Stp ro ρ w ρ w':=
 ⟨Ext.kp k,fun _ _ _ h=>h,fun _ r _ h=>⟨h,fun g hg=>k.block g (hR.bnd _ r g h hg).2.1 (by simp)⟩,fun _ _ h=>h⟩
theorem Stp.app {ro:Lv} {G:Gl} {H:AH} {ρ:List RE} {w w':World} {r:RE} (hR:Rep G ρ H w) (k:Kp [] w w') (hr:∀ g',r.g? = some g' -> w.heap.size<=g'):Stp ro ρ w (ρ++[r]) w':=
 ⟨Ext.app k hr,fun _ _ _ h=>nD h,fun i r' _ h=>⟨nD h,fun g hg=>k.block g (hR.bnd _ r' g h hg).2.1 (by simp)⟩,fun _ _ h=>nD h⟩
section
variable {c c':Cx} {ρ ρ':List RE} {g:AV->AV}
theorem xf (hg:∀ a v,Rd c ρ a v->Rd c' ρ' (g a) v) {asx:List AV} {vs:List Value} (h:All2 (Rd c ρ) asx vs):All2 (Rd c' ρ') (nN g asx) vs:=by
 induction h with
 | nil=>exact .nil
 | cons h _ ih=>exact .cons (hg _ _ h) ih
theorem pP (hg:∀ a v,Rd c ρ a v->Rd c' ρ' (g a) v) {t:TV1} {v:Value} (h:bX c ρ t v):bX c' ρ' (t.mapA g) v:=by
 cases t with
 | c a=>exact hg _ _ h
 | agg l=>obtain ⟨vs,rfl,h⟩:=h; exact ⟨vs,rfl,xf hg h⟩
theorem xj (hg:∀ a v,Rd c ρ a v->Rd c' ρ' (g a) v) {asx:List TV1} {vs:List Value} (h:All2 (bX c ρ) asx vs):All2 (bX c' ρ') (qC g asx) vs:=by
 induction h with
 | nil=>exact .nil
 | cons h _ ih=>exact .cons (pP hg h) ih
theorem mZ (hg:∀ a v,Rd c ρ a v->Rd c' ρ' (g a) v) {fr:AFr} {F:Fr} (h:cK c ρ fr F):cK c' ρ' (gf g fr) F:=by
 induction h with
 | nil=>exact .nil
 | @cons p q fr F h _ ih=>
  obtain ⟨i,t⟩:=p
  refine .cons ⟨h.1,?_⟩ ih
  have h2:=h.2
  cases t with
  | one t=>exact pP hg h2
  | tup l=>obtain ⟨vs,e,h2⟩:=h2; exact ⟨vs,e,xj hg h2⟩
  | un=>trivial
theorem mg:∀ l:List (Int × AV),mapM g l=l.map fun q=>(q.1,g q.2)
 | []=>rfl
 | (k,a) :: r=>by simp [mapM,mg r]
theorem ig:∀ {H:AH} {i:Nat},(eR g H)[i]? = (H[i]?).map (AO.mapA g)
 | [],i=>by simp [eR]
 | o :: r,0=>by simp [eR]
 | o :: r,i+1=>by simpa [eR] using ig (H:=r) (i:=i)
theorem c_:∀ {H:AH},(eR g H).length=H.length
 | []=>rfl
 | _ :: r=>by simp [eR,c_]
theorem OR.map (hc:c.le c') (hg:∀ a v,Rd c ρ a v->Rd c' ρ' (g a) v) {o:AO} {r:RE} (h:OR c ρ o r) (hb:∀ g,r.g? = some g->c'.w.heap[g]? = c.w.heap[g]?):OR c' ρ' (o.mapA g) r:=by
 cases o with
 | gone=>exact h
 | mapo s f=>
  obtain ⟨g',rfl,h⟩:=h
  exact ⟨g',rfl,h.carry hc (hb g' rfl)⟩
 | loc=>trivial
 | mapf l=>
  obtain ⟨g',rfl,h⟩:=h
  exact ⟨g',rfl,h.map (g0:=g) (mg l) (fun _ _ v h=>hg _ v h) (hb g' rfl)⟩
 | arr t s n xs=>
  obtain ⟨g',vs,rfl,h1,h2,h3⟩:=h
  exact ⟨g',vs,rfl,(hb g' rfl).trans h1,h2.carry hc,h3⟩
 | box t cs=>
  obtain ⟨g',vs,rfl,h1,h2⟩:=h
  exact ⟨g',vs,rfl,(hb g' rfl).trans h1,xf hg h2⟩
 | row t s xs=>
  obtain ⟨h1,h2,h3⟩:=h
  refine ⟨hc.shp ▸ h1,h2,h3.imp id ?_⟩
  rintro ⟨g',cap,cells,sp,rfl,h4,h5,h6⟩
  exact ⟨g',cap,cells,sp,rfl,(hb g' rfl).trans h4,h5.carry hc,h6⟩
end
theorem fb {ρ:List RE} {i j:Nat} {r:RE} (hij:i≠j):(ρ.set i r)[j]? = ρ[j]?:=List.getElem?_set_ne hij
theorem t_ {ρ:List RE} {i:Nat} {r:RE} {b:Nat} (h:live (ρ.set i r) b):live ρ b\/r.g? = some b:=by
 obtain ⟨j,r',h1,h2⟩:=h
 by_cases hij:i=j
 ·subst hij
  by_cases hi:i<ρ.length
  ·rw [List.getElem?_set_self hi] at h1; cases h1; exact .inr h2
  ·rw [List.getElem?_eq_none (by simp; omega)] at h1; cases h1
 ·rw [fb hij] at h1; exact .inl ⟨j,r',h1,h2⟩
section
variable {G:Gl} {ρ:List RE} {H:AH} {w:World}
theorem kQ (hR:Rep G ρ H w) {i:Nat} {t:TypeId} {s:Sh} {xs:List (den s)} (hi:getO H i = .row t s xs):(∀ g,ρ[i]? ≠ some (.blk g))/\i<ρ.length/\i<H.length:=by
 have hH:=bG hi (by simp)
 have h1:=(List.getElem?_eq_some_iff.1 hH).1
 refine ⟨fun g hg=>?_,by rw [<- hR.obj.length]; exact h1,h1⟩
 rcases bJ hR hi with ⟨h,_⟩ | ⟨_,_,_,_,h,_⟩ <;> rw [h] at hg <;> cases hg
theorem Mq (hR:Rep G ρ H w) {i:Nat} {t:TypeId} {s:Sh} {xs:List (den s)} (hi:getO H i = .row t s xs) {ro:Lv} (hro:ro.mv i=true) (hro2:ro.wr i=true) :
  (∀ a v,Rd (cx G ρ w) ρ a v->Rd (cx G (ρ.set i .no) w) (ρ.set i .no) (a.yO H i) v)/\Rep G (ρ.set i .no) ((eR (AV.yO H i) H).set i .gone) w/\Stp ro ρ w (ρ.set i .no) w/\(cx G ρ w).le (cx G (ρ.set i .no) w):=by
 obtain ⟨hnb,hil,hiH⟩:=kQ hR hi
 have hext:Ext ρ w (ρ.set i .no) w:=⟨rfl,rfl,rfl,Nat.le_refl _,fun b _ hl=>⟨fun h=>(t_ h).elim hl (by rintro ⟨⟩),rfl⟩⟩
 have hle:=hext.le hR.lo
 have hne:∀ j r,i≠j->ρ[j]? = some r->(ρ.set i .no)[j]? = some r:=fun j r hij h=>by rw [fb hij]; exact h
 have hcap:∀ q v,cR ρ q v->cR (ρ.set i .no) q v:=fun q v ⟨g,h1,h2⟩=>⟨g,hne _ _ (fun e=>hnb g (e ▸ h1)) h1,h2⟩
 have hrd:∀ a v,Rd (cx G ρ w) ρ a v->Rd (cx G (ρ.set i .no) w) (ρ.set i .no) (a.yO H i) v:=by
  intro a v h
  have hSg:∀ g cap len z,ρ[i]? = some (.row g cap len z)->(cx G (ρ.set i .no) w).S g:=fun g cap len z h1=>by
   have hb:=hR.bnd _ _ g h1 rfl
   refine ⟨hb.2.1,fun hl=>?_,hb.2.2⟩
   obtain ⟨j,r',h2,h3⟩:=hl
   by_cases hij:i=j
   ·subst hij; rw [List.getElem?_set_self hil] at h2; cases h2; cases h3
   ·rw [fb hij] at h2; exact hij (hR.inj _ _ _ _ g h1 h2 rfl h3)
  cases a with
  | own j=>
   simp only [AV.yO]
   cases hb:Nat.beq i j
   ·have hij:i≠j:=by rintro rfl; simp at hb
    rcases h with ⟨g,cap,len,z,h,e⟩ | ⟨h,e⟩
    ·exact .inl ⟨g,cap,len,z,hne _ _ hij h,e⟩
    ·exact .inr ⟨hne _ _ hij h,e⟩
   ·have hij:=Nat.eq_of_beq_eq_true hb
    subst hij
    simp only [cond_true]
    have hv:(AV.own i).vw H = .fz s xs:=by simp [AV.vw,hi]
    rw [hv]
    refine ga (jT hR hle rfl h (fun g cap len z ⟨id,he,h1⟩=>?_) hv)
    rcases he with he | ⟨_,_,he⟩ <;> cases he
    exact hSg g cap len z h1
  | sub j o k=>
   simp only [AV.yO]
   cases hb:Nat.beq i j
   ·have hij:i≠j:=by rintro rfl; simp at hb
    rcases h with ⟨g,cap,len,z,h,e⟩ | ⟨h,e⟩
    ·exact .inl ⟨g,cap,len,z,hne _ _ hij h,e⟩
    ·exact .inr ⟨hne _ _ hij h,e⟩
   ·have hij:=Nat.eq_of_beq_eq_true hb
    subst hij
    simp only [cond_true]
    have hv:(AV.sub i o k).vw H = .fz s ((xs.drop o).take k):=by simp [AV.vw,hi]
    rw [hv]
    refine ga (jT hR hle rfl h (fun g cap len z ⟨id,he,h1⟩=>?_) hv)
    rcases he with he | ⟨_,_,he⟩ <;> cases he
    exact hSg g cap len z h1
  | elp j k o=>
   simp only [AV.yO]
   cases hb:Nat.beq i j
   ·have hij:i≠j:=by rintro rfl; simp at hb
    obtain ⟨g,cap,len,z,h,e⟩:=h
    exact ⟨g,cap,len,z,hne _ _ hij h,e⟩
   ·exact Rd.one h
  | ptr j o=>exact hcap _ _ h
  | mq j=>
   obtain ⟨g,h1,e⟩:=h
   exact ⟨g,hne _ _ (fun e=>hnb g (e ▸ h1)) h1,e⟩
  | fn f b cs=>
   obtain ⟨bs,us,h1,h2,e⟩:=h
   exact ⟨bs,us,h1.imp fun _ _ h=>hcap _ _ h,h2.imp fun _ _ h=>hcap _ _ h,e⟩
  | fe s' x o=>
   obtain ⟨A,cells,h1,h2,h3,e⟩:=h
   exact ⟨A,cells,(hle.S _ h1).1,h2,h3.carry hle,e⟩
  | np=>exact h
  | nf=>exact h
  | yl l=>exact h
  | xx k cs=>
   obtain ⟨us,h1,h2⟩:=h
   exact ⟨us,h1.imp fun _ _ h=>hcap _ _ h,h2.le hle⟩
  | dead=>exact h
  | int n=>exact Pd.carry h hle
  | u8 b=>exact Pd.carry h hle
  | u64 n=>exact Pd.carry h hle
  | bool e=>exact Pd.carry h hle
  | str s=>exact Pd.carry h hle
  | em b=>exact Pd.carry h hle
  | li nw xs=>exact Pd.carry h hle
  | fz s xs=>exact Pd.carry h hle
 refine ⟨hrd,⟨cd (by simp [c_,hR.obj.length]) fun j o r ho hr=>?_,fun a b r r' g h1 h2 h3 h4=>?_,fun j r g h1 h2=>?_,hR.z,hR.b0,hR.tb.carry hle⟩,⟨hext,fun j r hj h=>hne j r (by rintro rfl; rw [hro] at hj; cases hj) h,fun j r hj h=>⟨hne j r (by rintro rfl; rw [hro2] at hj; cases hj) h,fun _ _=>rfl⟩,fun j g h=>hne j _ (fun e=>hnb g (e ▸ h)) h⟩,hle⟩
 ·by_cases hij:i=j
  ·subst hij
   rw [List.getElem?_set_self (by rw [c_]; exact hiH)] at ho
   rw [List.getElem?_set_self hil] at hr
   cases ho; cases hr
   rfl
  ·rw [List.getElem?_set_ne hij,ig] at ho
   rw [fb hij] at hr
   rw [Option.map_eq_some_iff] at ho
   obtain ⟨o',ho',rfl⟩:=ho
   obtain ⟨r',hr',hor⟩:=hR.at_ ho'
   rw [hr] at hr'; cases hr'
   exact hor.map hle hrd fun _ _=>rfl
 ·have key:∀ (a:Nat) (r:RE),(ρ.set i .no)[a]? = some r->r.g? = some g->ρ[a]? = some r:=fun a r h1 h2=>by
   by_cases hia:i=a
   ·subst hia; rw [List.getElem?_set_self hil] at h1; cases h1; cases h2
   ·rw [fb hia] at h1; exact h1
  exact hR.inj a b r r' g (key a r h1 h3) (key b r' h2 h4) h3 h4
 ·by_cases hij:i=j
  ·subst hij; rw [List.getElem?_set_self hil] at h1; cases h1; cases h2
  ·rw [fb hij] at h1; exact hR.bnd j r g h1 h2
theorem KI {i j:Nat} (hij:i≠j) {t:TypeId} {s:Sh} {xs:List (den s)} (h:getO H j = .row t s xs):getO ((eR (AV.yO H i) H).set i .gone) j = .row t s xs:=by
 have:=bG h (by simp)
 unfold getO
 rw [List.getD_eq_getElem?_getD,List.getElem?_set_ne hij,ig,this]
 rfl
theorem eF {ro:Lv} {F:Fr}:∀ {l:List Nat} {fr:AFr} {H:AH} {ρ:List RE} {q:AFr × AH},fg ro l fr H=some q->Rep G ρ H w->cK (cx G ρ w) ρ fr F ->
  ∃ ρ',Stp ro ρ w ρ' w/\(cx G ρ w).le (cx G ρ' w)/\Rep G ρ' q.2 w/\cK (cx G ρ' w) ρ' q.1 F/\q.2.length=H.length /\
   (∀ (H0:AH) a v,(∀ i,(a = .own i\/∃ o k,a = .sub i o k)->i ∈ l/\∃ t s xs,getO H0 i = .row t s xs)->((Rd (cx G ρ w) ρ a v/\∀ i,(a = .own i\/∃ o k,a = .sub i o k)->getO H i=getO H0 i)\/Pd (cx G ρ w) (a.vw H0) v)->(∀ i,a ≠ .own i/\∀ o k,a ≠ .sub i o k)\/Pd (cx G ρ' w) (a.vw H0) v) /\
   (∀ i o,i ∉ l->H[i]? = some o->((∀ t cs,o ≠ .box t cs)/\∀ l,o ≠ .mapf l)->q.2[i]? = some o)/\(∀ i,i ∉ l->ρ'[i]? = ρ[i]?)
 | [],fr,H,ρ,q,h,hR,hf=>by
  cases h
  refine ⟨ρ,Stp.refl _ _ _,Cx.le.refl _,hR,hf,rfl,fun H0 a v hall h=>?_,fun i o _ h _=>h,fun _ _=>rfl⟩
  by_cases hown:∃ i,a = .own i\/∃ o k,a = .sub i o k
  ·obtain ⟨i,hi⟩:=hown
   have:=(hall i hi).1
   simp at this
  ·left
   intro i
   exact ⟨fun e=>hown ⟨i,.inl e⟩,fun o k e=>hown ⟨i,.inr ⟨o,k,e⟩⟩⟩
 | i :: l,fr,H,ρ,q,h,hR,hf=>by
  unfold fg at h
  split at h
  ·rename_i t s xs hi
   split at h
   ·rename_i hro
    simp only [Bool.and_eq_true] at hro
    obtain ⟨hrd,hR1,hst,hle⟩:=Mq hR hi (ro:=ro) hro.1 hro.2
    obtain ⟨ρ',h1,h2,h3,h4,h5,h6,h7,h8⟩:=eF h hR1 (mZ hrd hf)
    refine ⟨ρ',hst.trans h1,hle.trans h2,h3,h4,by rw [h5]; simp [c_],fun H0 a v hall hd=>?_,fun j o hj ho hb=>?_,fun j hj=>?_⟩
    ·-- the element's cell
     by_cases hown:∃ j,a = .own j\/∃ o k,a = .sub j o k
     ·obtain ⟨j,hj⟩:=hown
      right
      have hpd:Pd (cx G (ρ.set i .no) w) (a.vw H0) v\/(Rd (cx G (ρ.set i .no) w) (ρ.set i .no) a v/\i≠j/\getO H j=getO H0 j):=by
       rcases hd with ⟨hd,hHH⟩ | hd
       ·have e:=hHH j hj
        by_cases hij:i=j
        ·subst hij
         left
         have h9:=hrd a v hd
         have hv:a.vw H=a.vw H0:=by rcases hj with rfl | ⟨o,k,rfl⟩ <;> simp [AV.vw,e]
         have hz:a.yO H i=a.vw H:=by rcases hj with rfl | ⟨o,k,rfl⟩ <;> simp [AV.yO]
         rw [hz,hv] at h9
         have hp:(a.vw H0).plain=true:=by
          rw [<- hv]
          rcases hj with rfl | ⟨o,k,rfl⟩ <;> simp [AV.vw,hi,AV.plain]
         exact (eG hp).1 h9
        ·right
         have h9:=hrd a v hd
         have hz:a.yO H i=a:=by
          have hb:Nat.beq i j=false:=by rw [<- Bool.not_eq_true,Nat.beq_eq]; exact hij
          rcases hj with rfl | ⟨o,k,rfl⟩ <;> simp [AV.yO,hb]
         rw [hz] at h9
         exact ⟨h9,hij,e⟩
       ·exact .inl (hd.carry hle)
      rcases hpd with hpd | ⟨hpd,hij,e⟩
      ·-- done; carry on
       exact hpd.carry h2
      ·obtain ⟨hm,tt,ss,xx,hrow⟩:=hall j hj
       have hml:j ∈ l:=by
        rcases List.mem_cons.1 hm with e2 | hm
        ·exact absurd e2.symm hij
        ·exact hm
       have hrow':getO H j = .row tt ss xx:=e.trans hrow
       refine (h6 H0 a v (fun j' hj'=>?_) (.inl ⟨hpd,fun j' hj'=>?_⟩)).resolve_left fun hh=>?_
       ·have:j' = j:=by rcases hj with rfl | ⟨o,k,rfl⟩ <;> rcases hj' with e3 | ⟨_,_,e3⟩ <;> cases e3 <;> rfl
        subst this; exact ⟨hml,tt,ss,xx,hrow⟩
       ·have:j' = j:=by rcases hj with rfl | ⟨o,k,rfl⟩ <;> rcases hj' with e3 | ⟨_,_,e3⟩ <;> cases e3 <;> rfl
        subst this
        rw [KI hij hrow',hrow]
       ·rcases hj with rfl | ⟨o,k,rfl⟩
        ·exact (hh j).1 rfl
        ·exact (hh j).2 _ _ rfl
     ·left
      intro i
      exact ⟨fun e=>hown ⟨i,.inl e⟩,fun o k e=>hown ⟨i,.inr ⟨o,k,e⟩⟩⟩
    ·simp only [List.mem_cons,not_or] at hj
     refine h7 j o hj.2 ?_ hb
     rw [List.getElem?_set_ne (Ne.symm hj.1),ig,ho]
     cases o with
     | box t cs=>exact absurd rfl (hb.1 t cs)
     | mapf l=>exact absurd rfl (hb.2 l)
     | _=>rfl
    ·simp only [List.mem_cons,not_or] at hj
     rw [h8 j hj.2,fb (Ne.symm hj.1)]
   ·cases h
  ·rename_i hnr
   obtain ⟨ρ',h1,h2,h3,h4,h5,h6,h7,h8⟩:=eF h hR hf
   refine ⟨ρ',h1,h2,h3,h4,h5,fun H0 a v hall hd=>?_,fun j o hj=>h7 j o fun hm=>hj (by simp [hm]),fun j hj=>h8 j fun hm=>hj (by simp [hm])⟩
   by_cases hown:∃ j,a = .own j\/∃ o k,a = .sub j o k
   ·obtain ⟨j,hj⟩:=hown
    obtain ⟨hm,tt,ss,xx,hrow⟩:=hall j hj
    rcases hd with ⟨hd,hHH⟩ | hd
    ·have hml:j ∈ l:=by
      rcases List.mem_cons.1 hm with e2 | hm
      ·subst e2; exact absurd ((hHH j hj).trans hrow) (hnr _ _ _)
      ·exact hm
     refine h6 H0 a v (fun j' hj'=>?_) (.inl ⟨hd,hHH⟩)
     have:j' = j:=by rcases hj with rfl | ⟨o,k,rfl⟩ <;> rcases hj' with e3 | ⟨_,_,e3⟩ <;> cases e3 <;> rfl
     subst this; exact ⟨hml,tt,ss,xx,hrow⟩
    ·exact .inr (hd.carry h2)
   ·left
    intro i
    exact ⟨fun e=>hown ⟨i,.inl e⟩,fun o k e=>hown ⟨i,.inr ⟨o,k,e⟩⟩⟩
theorem kb {ro:Lv} {fr:AFr} {F:Fr} {l:List Nat} {q:AFr × AH} (h:fg ro l fr H=some q) (hR:Rep G ρ H w) (hf:cK (cx G ρ w) ρ fr F) :
  ∃ ρ',Stp ro ρ w ρ' w/\(cx G ρ w).le (cx G ρ' w)/\Rep G ρ' q.2 w/\cK (cx G ρ' w) ρ' q.1 F/\q.2.length=H.length /\
   (∀ (asx:List AV) (vs:List Value),(∀ i ∈ dk asx,i ∈ l)->All2 (Rd (cx G ρ w) ρ) asx vs->All2 (Qd (cx G ρ' w)) (vI H asx) vs)/\(∀ i o,i ∉ l->H[i]? = some o->((∀ t cs,o ≠ .box t cs)/\∀ l,o ≠ .mapf l)->q.2[i]? = some o)/\(∀ i,i ∉ l->ρ'[i]? = ρ[i]?):=by
 obtain ⟨ρ',h1,h2,h3,h4,h5,h6,h7,h8⟩:=eF h hR hf
 refine ⟨ρ',h1,h2,h3,h4,h5,fun asx vs hin hv=>?_,h7,h8⟩
 induction hv with
 | nil=>exact .nil
 | @cons a v asx vs hav _ ih=>
  refine .cons ?_ (ih fun i hi=>hin i (by cases a <;> simp [dk,hi]))
  intro hp
  by_cases hown:∃ i,a = .own i\/∃ o k,a = .sub i o k
  ·obtain ⟨i,hi⟩:=hown
   have hrow:∃ t s xs,getO H i = .row t s xs:=by
    cases hg:getO H i with
    | row t s xs=>exact ⟨t,s,xs,rfl⟩
    | _=>rcases hi with rfl | ⟨o,k,rfl⟩ <;> simp [AV.vw,hg,AV.plain] at hp
   refine (h6 H a v (fun j hj=>?_) (.inl ⟨hav,fun _ _=>rfl⟩)).resolve_left fun hh=>?_
   ·have:j=i:=by rcases hi with rfl | ⟨o,k,rfl⟩ <;> rcases hj with e3 | ⟨_,_,e3⟩ <;> cases e3 <;> rfl
    subst this
    refine ⟨hin j ?_,hrow⟩
    rcases hi with rfl | ⟨o,k,rfl⟩ <;> simp [dk]
   ·rcases hi with rfl | ⟨o,k,rfl⟩
    ·exact (hh i).1 rfl
    ·exact (hh i).2 _ _ rfl
  ·have e:a.vw H=a:=by
    cases a <;> first | rfl | exact absurd ⟨_,.inl rfl⟩ hown | exact absurd ⟨_,.inr ⟨_,_,rfl⟩⟩ hown
   rw [e] at hp ⊢
   exact ((eG hp).1 hav).carry h2
end
def dD (P:Program) (n:Nat) (F:Fr) (w:World) (op:Op) (ty:TypeId) (φ:Value->World->Prop):Prop:=
 Yields P n F w op ty φ\/(isSt op=true/\∃ w',eO P n F w op ty w' /\ φ undef w')
def ee (G:Gl) (ro:Lv) (ρ:List RE) (w:World) (r:SR) (F:Fr) (v:Value) (w':World):Prop:=
 ∃ ρ',Stp ro ρ w ρ' w' /\ Rep G ρ' r.H w' /\ cK (cx G ρ' w') ρ' r.fr F/\Rt (cx G ρ' w') ρ' r.v v/\∀ p ∈ r.fc,p
section
variable {P:Program} {T:List (Nat × TI)} {G:Gl} {O:cO} {n:Nat} {F:Fr} {w:World} {x y:Operand} {ty t:TypeId} {ρ:List RE} {H:AH} {fr:AFr} {ro:Lv}
theorem R.box {v:Value} {cs:List Value} (hx:ev F x=some v) (hcs:v.cells=cs.toArray):aU P n F w (.box t x) ty (.pointer (some ⟨w.heap.size,0,none⟩)) (w.alloc (.cells cs.toArray t)):=
 fun a _ _ _ _ ha=>by simp [execOp,ha.ev hx,Instr.box,newVar,newRow,hcs]
theorem R.alloc {cs:List Value} (hz:((P.info? t).bind (·.zero)).map Value.cells=some cs.toArray):aU P n F w (.alloc t) ty (.pointer (some ⟨w.heap.size,0,none⟩)) (w.alloc (.cells cs.toArray t)):=fun a _ _ _ _ _=>by
 cases hq:P.info? t with
 | none=>simp [hq] at hz
 | some i=>
  cases hz':i.zero with
  | none=>simp [hq,hz'] at hz
  | some z=>
   have:z.cells=cs.toArray:=by simpa [hq,hz'] using hz
   simp [execOp,Instr.alloc,newVar,newRow,zeroValue,typeInfo,hq,hz',this]
theorem Ep {c:Cx} {t:TypeId} {cs:List AV} {us:List Value} {g:Nat} (hh:c.w.heap[g]? = some (.cells us.toArray t (0,0))) (hcs:All2 (Rd c ρ) cs us):OR c ρ (Dd T t cs) (.blk g):=by
 have hb:OR c ρ (.box t cs) (.blk g):=⟨g,us,rfl,hh,hcs⟩
 unfold Dd
 split
 ·split
  ·split
   ·split
    ·rename_i hck
     simp only [Bool.and_eq_true] at hck
     exact ⟨g,us,rfl,hh,gG (by assumption) hcs,Nat.eq_of_beq_eq_true hck.1,Nat.eq_of_beq_eq_true hck.2⟩
    ·exact hb
   ·exact hb
  ·exact hb
 ·exact hb
theorem pq (hR:Rep G ρ H w) (hf:cK (cx G ρ w) ρ fr F) {cs:List AV} {us:List Value} (hcs:All2 (Rd (cx G ρ w) ρ) cs us):ee G ro ρ w ⟨one (.ptr H.length 0),fr,H++[Dd T t cs],[],[]⟩ F (.pointer (some ⟨w.heap.size,0,none⟩)) (w.alloc (.cells us.toArray t)):=by
 have hk:=Kp.alloc w (.cells us.toArray t)
 have hext:Ext ρ w (ρ++[.blk w.heap.size]) (w.alloc (.cells us.toArray t)):=Ext.app hk fun g hg=>by cases hg; exact Nat.le_refl _
 have hle:=hext.le hR.lo
 refine ⟨ρ++[.blk w.heap.size],Stp.app hR hk (fun g hg=>by cases hg; exact Nat.le_refl _),hR.app hk (fun g hg=>by cases hg; exact ⟨Nat.le_refl _,by simp⟩) (Ep (heap_alloc_new w _) (hcs.imp fun _ _ h=>h.carry hle (dH _ _))),hf.carry hle (dH _ _),⟨w.heap.size,by rw [hR.obj.length]; simp,rfl⟩,by simp⟩
theorem R.store {g o:Nat} {tb:TypeId} {cur us:List Value} {v:Value} (hx:ev F x=some (.pointer (some ⟨g,o,none⟩))) (hy:ev F y=some v) (hg:w.heap[g]? = some (.cells (List.toArray cur) tb (0,0))) (hv:v.cells=us.toArray) (h1:∀ u ∈ us,u.oneCell' = true) (hi:(P.info? t).map (·.size)=some us.length) (hl:o+us.length<=cur.length) :
  eO P n F w (.store t x y) ty (w.setRow g (cur.take o++us++cur.drop (o+us.length)).toArray):=fun a _ _ _ _ ha=>by
 have h2:=run_storeCells_at (P:=P) g o tb us 0 cur.toArray w hg (by simpa using hl) h1
 cases hq:P.info? t with
 | none=>simp [hq] at hi
 | some i=>
  have hs:i.size=us.length:=by simpa [hq] using hi
  simp [execOp,ha.ev hx,ha.ev hy,Instr.storeAt,Instr.sureAddr,storeVar,sizeOf,typeInfo,hq,hs,hv] at h2 ⊢
  simp [h2]
theorem tw (hT:bn P G.shp T) (hR:Rep G ρ H w) (hf:cK (cx G ρ w) ρ fr F) {a:AV} {b:TV1} {va vb:Value} {r:SR} {ti:TI} (ht:bq T t=some ti) (hsz:Nat.beq ti.size b.cells.length=true) (ha:Rd (cx G ρ w) ρ a va) (hb:bX (cx G ρ w) ρ b vb) (hx:ev F x=some va) (hy:ev F y=some vb) (h:uN ro fr H a b=some r) (hob:∀ p ∈ r.ob,p) :
  ∃ w',eO P n F w (.store t x y) ty w' /\ ee G ro ρ w r F undef w':=by
 have hsz:=Nat.eq_of_beq_eq_true hsz
 obtain ⟨us,hus,hcs⟩:=bX.cells hb
 have hul:=hcs.length
 have h1:∀ u ∈ us,u.oneCell' = true:=fun u hu=>by
  obtain ⟨i,hi⟩:=List.getElem?_of_mem hu
  obtain ⟨a',_,h⟩:=hcs.get i u hi
  exact Rd.one h
 have hinfo:(P.info? t).map (·.size)=some us.length:=by rw [(hT _ _ ht).1.1,hsz,hul]
 unfold uN at h
 split at h
 ·-- a box
  rename_i id o
  split at h
  ·rename_i tb cs hH
   split at h
   ·rename_i hck
    cases h
    simp only [Bool.and_eq_true] at hck
    have hro:=hck.1
    have hlen:=Nat.le_of_ble_eq_true hck.2
    have hHs:=bG hH (by simp)
    obtain ⟨r,hr,g,vs,rfl,h2,h3⟩:=hR.at_ hHs
    obtain ⟨g',hg',rfl⟩:=ha
    rw [hr] at hg'; cases hg'
    have hvl:=h3.length
    refine ⟨_,R.store hx hy h2 hus h1 hinfo (by omega),ρ,?_⟩
    have hkp:=Kp.setRow w g (vs.take o++us++vs.drop (o+us.length)).toArray
    have hhp:(w.setRow g (vs.take o++us++vs.drop (o+us.length)).toArray).heap[g]? = some (.cells (vs.take o++us++vs.drop (o+us.length)).toArray tb (0,0)):=setRow_heap w g _ _ tb _ h2
    have hext:Ext ρ w ρ (w.setRow g (vs.take o++us++vs.drop (o+us.length)).toArray):=⟨hkp.os,hkp.tape,hkp.output,hkp.size,fun b hb hl=>⟨hl,hkp.block b hb (by
     simp only [List.mem_singleton]
     rintro rfl
     exact hl ⟨id,_,hr,rfl⟩)⟩⟩
    have hle:=hext.le hR.lo
    have hput:=hR.put hHs hr rfl hkp (o':=.box tb (over cs o b.cells)) ⟨g,_,rfl,hhp,by
     unfold over
     rw [hul]
     exact (((h3.take o).append hcs).append (h3.drop _)).imp fun _ _ h=>h.carry hle (je.refl _)⟩
    refine ⟨⟨hput.2,fun _ _ _ h=>h,fun i r' hi hr'=>⟨hr',fun g' hg'=>hkp.block g' (hR.bnd i r' g' hr' hg').2.1 ?_⟩,fun _ _ h=>h⟩,hput.1,hf.carry hle (je.refl _),trivial,by simp⟩
    simp only [List.mem_singleton]
    rintro rfl
    have:=hR.inj i id _ _ g' hr' hr hg' rfl
    subst this; rw [hro] at hi; cases hi
   ·cases h
  ·-- an array
   rename_i ta s m xs hH
   split at h
   ·rename_i a1 hck hcell
    split at h
    ·rename_i x' hpl hof
     cases h
     simp only [Bool.and_eq_true] at hck
     have hro:=hck.1
     have hs1:=Nat.eq_of_beq_eq_true hck.2
     have ho:=hob _ (List.mem_singleton_self _)
     have hHs:=bG hH (by simp)
     obtain ⟨r,hr,g,vs,rfl,h2,h3,h4,h5⟩:=hR.at_ hHs
     obtain ⟨g',hg',rfl⟩:=ha
     rw [hr] at hg'; cases hg'
     rw [hcell] at hcs
     cases hcs with | @cons _ u _ _ hu1 hu2=>
     cases hu2
     have hvl:vs.length=m:=by rw [<- h3.length,bT,h4,hs1,Nat.mul_one]
     have hlu:[u].length=1:=rfl
     have hkp:=Kp.setRow w g (vs.take o++[u]++vs.drop (o+[u].length)).toArray
     have hhp:(w.setRow g (vs.take o++[u]++vs.drop (o+[u].length)).toArray).heap[g]? = some (.cells (vs.take o++[u]++vs.drop (o+[u].length)).toArray ta (0,0)):=setRow_heap w g _ _ ta _ h2
     have hext:Ext ρ w ρ (w.setRow g (vs.take o++[u]++vs.drop (o+[u].length)).toArray):=⟨hkp.os,hkp.tape,hkp.output,hkp.size,fun b hb hl=>⟨hl,hkp.block b hb (by
      simp only [List.mem_singleton]
      rintro rfl
      exact hl ⟨id,_,hr,rfl⟩)⟩⟩
     have hle:=hext.le hR.lo
     have hxo:xs[o]? = some (xs.getD o (aG s)):=by
      rw [List.getD_eq_getElem?_getD,List.getElem?_eq_getElem (by omega)]; rfl
     have hsp:Pds (cx G ρ w) (cellsOf s x') [u]:=aW hof (.cons (fun hp=>(eG hp).1 hu1) .nil)
     have hnew:Pds (cx G ρ w) ((xs.set o x').flatMap (cellsOf s)) (vs.take o++[u]++vs.drop (o+[u].length)):=by
      rw [rM hxo]
      have f1:=bO h3 o
      have f2:=bY h3 (o+1)
      rw [hs1,Nat.mul_one] at f1 f2
      exact (f1.append hsp).append f2
     have hput:=hR.put hHs hr rfl hkp (o':=.arr ta s m (xs.set o x')) ⟨g,_,rfl,hhp,hnew.carry hle,by rw [List.length_set]; exact h4,hs1⟩
     refine ⟨_,R.store hx hy h2 hus h1 hinfo (by rw [hlu]; omega),ρ,⟨hput.2,fun _ _ _ h=>h,fun i r' hi hr'=>⟨hr',fun g' hg'=>hkp.block g' (hR.bnd i r' g' hr' hg').2.1 ?_⟩,fun _ _ h=>h⟩,hput.1,hf.carry hle (je.refl _),trivial,by simp⟩
     simp only [List.mem_singleton]
     rintro rfl
     have:=hR.inj i id _ _ g' hr' hr hg' rfl
     subst this; rw [hro] at hi; cases hi
    ·cases h
   ·-- all of it
    rename_i hck hne
    split at h
    ·rename_i l ho hl
     split at h
     ·rename_i hln
      cases h
      simp only [Bool.and_eq_true] at hck
      have hro:=hck.1
      have hs1:=Nat.eq_of_beq_eq_true hck.2
      have ho:=Nat.eq_of_beq_eq_true ho
      subst ho
      have hln:=Nat.eq_of_beq_eq_true hln
      have hHs:=bG hH (by simp)
      obtain ⟨r,hr,g,vs,rfl,h2,h3,h4,h5⟩:=hR.at_ hHs
      obtain ⟨g',hg',rfl⟩:=ha
      rw [hr] at hg'; cases hg'
      have hpd:=gG hl hcs
      have hul2:us.length=m:=by rw [<- hpd.length,bT,hln,hs1,Nat.mul_one]
      have hvl:vs.length=m:=by rw [<- h3.length,bT,h4,hs1,Nat.mul_one]
      have he:vs.take 0++us++vs.drop (0+us.length)=us:=by
       rw [List.take_zero,List.nil_append,List.drop_of_length_le (by omega),List.append_nil]
      have hst:=R.store (P:=P) (n:=n) (F:=F) (w:=w) (t:=t) (ty:=ty) hx hy h2 hus h1 hinfo (by omega)
      rw [he] at hst
      have hkp:=Kp.setRow w g us.toArray
      have hhp:(w.setRow g us.toArray).heap[g]? = some (.cells us.toArray ta (0,0)):=setRow_heap w g _ _ ta _ h2
      have hext:Ext ρ w ρ (w.setRow g us.toArray):=⟨hkp.os,hkp.tape,hkp.output,hkp.size,fun b hb hl=>⟨hl,hkp.block b hb (by
       simp only [List.mem_singleton]
       rintro rfl
       exact hl ⟨id,_,hr,rfl⟩)⟩⟩
      have hle:=hext.le hR.lo
      have hput:=hR.put hHs hr rfl hkp (o':=.arr ta s m l) ⟨g,_,rfl,hhp,hpd.carry hle,hln,hs1⟩
      refine ⟨_,hst,ρ,⟨hput.2,fun _ _ _ h=>h,fun i r' hi hr'=>⟨hr',fun g' hg'=>hkp.block g' (hR.bnd i r' g' hr' hg').2.1 ?_⟩,fun _ _ h=>h⟩,hput.1,hf.carry hle (je.refl _),trivial,by simp⟩
      simp only [List.mem_singleton]
      rintro rfl
      have:=hR.inj i id _ _ g' hr' hr hg' rfl
      subst this; rw [hro] at hi; cases hi
     ·cases h
    ·cases h
   ·cases h
  ·cases h
 ·-- an element of a row
  rename_i id i o
  split at h
  ·rename_i tb s xs hH
   split at h
   ·rename_i x' q hck hof hfz
    cases h
    simp only [Bool.and_eq_true,Bool.not_eq_true',<- Bool.not_eq_true,bw] at hck
    obtain ⟨⟨hro,hlen⟩,hnm⟩:=hck
    have hlen:=Nat.le_of_ble_eq_true hlen
    obtain ⟨ρ1,k1,k2,k3,k4,k5,k6,k7,k8⟩:=kb hfz hR hf
    obtain ⟨g,cap,len,z,h2,h3,rfl⟩:=ha
    have hHs:=bG hH (by simp)
    rcases bJ hR hH with ⟨h0,_⟩ | ⟨g',cap',cells,sp,h4,h5,h6,h7,h8,h9⟩
    ·rw [h0] at h2; cases h2
    ·rw [h4] at h2; cases h2
     have hfacts:=df hR hH
     have hxi:xs[i]? = some (xs.getD i (aG s)):=jl h3
     have hcl:cells.length=xs.length*s.size:=by rw [<- h6.length,bT]
     have hmul:(i+1)*s.size<=xs.length*s.size:=Nat.mul_le_mul_right _ h3
     rw [Nat.add_mul] at hmul
     have hρ1:ρ1[id]? = some (.row g cap xs.length s.size):=by rw [k8 id hnm]; exact h4
     have hH1:q.2[id]? = some (.row tb s xs):=k7 id _ hnm hHs (by simp)
     -- the element's new cells
     have hel:All2 (Rd (cx G ρ w) ρ) (cellsOf s (xs.getD i (aG s))) ((cells.drop (i*s.size)).take s.size):=by
      have:=(h6.drop (i*s.size)).take s.size
      rw [jh hxi] at this
      exact dY this
     have hell:=hel.length
     rw [ct] at hell
     have hnew:All2 (Qd (cx G ρ1 w)) (over (cellsOf s (xs.getD i (aG s))) o (vI H b.cells)) (((cells.drop (i*s.size)).take s.size).take o++us++((cells.drop (i*s.size)).take s.size).drop (o+us.length)):=by
      have hvl:(vI H b.cells).length=us.length:=by
       rw [<- hul]
       generalize b.cells=l
       induction l with
       | nil=>rfl
       | cons a l ih=>simp [vI,ih]
      unfold over
      rw [hvl]
      have hq:All2 (Qd (cx G ρ1 w)) (cellsOf s (xs.getD i (aG s))) ((cells.drop (i*s.size)).take s.size):=hel.imp fun a v h hp=>((eG hp).1 h).carry k2
      exact ((hq.take o).append (k6 _ _ (fun j hj=>hj) hcs)).append (hq.drop _)
     have hsp:=aW hof hnew
     have hcur:cells.take (i*s.size+o)++us++cells.drop (i*s.size+o+us.length)=cells.take (i*s.size)++(((cells.drop (i*s.size)).take s.size).take o++us++((cells.drop (i*s.size)).take s.size).drop (o+us.length))++cells.drop ((i+1)*s.size):=by
      have e1:cells.take (i*s.size+o)=cells.take (i*s.size)++((cells.drop (i*s.size)).take s.size).take o:=by
       rw [List.take_take,Nat.min_eq_left (by omega),List.take_add]
      have e2:cells.drop (i*s.size+o+us.length)=((cells.drop (i*s.size)).take s.size).drop (o+us.length)++cells.drop ((i+1)*s.size):=by
       rw [List.drop_take,List.drop_drop,Nat.add_mul,Nat.one_mul]
       have:i*s.size+(o+us.length)=i*s.size+o+us.length:=by omega
       rw [this]
       have e3:cells.drop (i*s.size+s.size)=(cells.drop (i*s.size+o+us.length)).drop (s.size - (o+us.length)):=by
        rw [List.drop_drop]; congr 1; omega
       rw [e3,List.take_append_drop]
      rw [e1,e2]
      simp only [List.append_assoc]
     have hkp:=Kp.setRow w g ((cells++sp).take (i*s.size+o)++us++(cells++sp).drop (i*s.size+o+us.length)).toArray
     have htk:(cells++sp).take (i*s.size+o)++us++(cells++sp).drop (i*s.size+o+us.length)=(cells.take (i*s.size+o)++us++cells.drop (i*s.size+o+us.length))++sp:=by
      rw [List.take_append_of_le_length (by omega),List.drop_append_of_le_length (by omega)]
      simp only [List.append_assoc]
     refine ⟨_,R.store hx hy h5 hus h1 hinfo (by rw [List.length_append]; omega),ρ1,?_⟩
     have hhp:(w.setRow g ((cells++sp).take (i*s.size+o)++us++(cells++sp).drop (i*s.size+o+us.length)).toArray).heap[g]? = some (.cells ((cells++sp).take (i*s.size+o)++us++(cells++sp).drop (i*s.size+o+us.length)).toArray tb (0,0)):=setRow_heap w g _ _ tb _ h5
     generalize hw':w.setRow g ((cells++sp).take (i*s.size+o)++us++(cells++sp).drop (i*s.size+o+us.length)).toArray=w' at hkp hhp
     rw [htk,hcur] at hhp
     have hext:Ext ρ1 w ρ1 w':=⟨hkp.os,hkp.tape,hkp.output,hkp.size,fun b hb hl=>⟨hl,hkp.block b hb (by
      simp only [List.mem_singleton]
      rintro rfl
      exact hl ⟨id,_,hρ1,rfl⟩)⟩⟩
     have hle:=hext.le k3.lo
     have hput:=k3.put hH1 hρ1 rfl hkp (o':=.row tb s (xs.set i x')) ⟨hfacts.1,by rw [List.length_set]; exact hfacts.2,.inr ⟨g,cap,_,sp,by rw [List.length_set],hhp,by
      rw [rM hxi]
      have f1:Pds (cx G ρ w) ((xs.take i).flatMap (cellsOf s)) (cells.take (i*s.size)):=bO h6 i
      have f2:Pds (cx G ρ w) ((xs.drop (i+1)).flatMap (cellsOf s)) (cells.drop ((i+1)*s.size)):=bY h6 (i+1)
      exact (((f1.carry k2).append hsp).append (f2.carry k2)).carry hle,by
      have e4:((cells.drop (i*s.size)).take s.size).length=s.size:=by rw [List.length_take,List.length_drop]; omega
      rw [Nat.add_mul,Nat.one_mul]
      simp only [List.length_append,List.length_take,List.length_drop] at e4 h7 ⊢
      omega,by rw [List.length_set]; exact h8,h9⟩⟩
     refine ⟨k1.trans ⟨hput.2,fun _ _ _ h=>h,fun j r' hj hr'=>⟨hr',fun g' hg'=>hkp.block g' (k3.bnd j r' g' hr' hg').2.1 ?_⟩,fun _ _ h=>h⟩,hput.1,k4.carry hle (je.refl _),trivial,by simp⟩
     simp only [List.mem_singleton]
     rintro rfl
     have:=k3.inj j id _ _ g' hr' hρ1 hg' rfl
     subst this; rw [hro] at hj; cases hj
   ·cases h
  ·cases h
 ·cases h
end
section
variable {P:Program} {T:List (Nat × TI)} {G:Gl} {O:cO} {n:Nat} {F:Fr} {w:World} {x y:Operand} {ty t:TypeId} {ρ:List RE} {H:AH} {fr:AFr} {ro:Lv}
theorem kH {c c1:Cx} {s:Sh}:∀ {l:List (Nat × TV1)} {pv:List (Nat × Value)} {k:Nat} {xs:List (den s)},mP s H l k=some xs->All2 (fun p q=>p.1=q.1/\bX c ρ p.2 q.2) l pv->(∀ p ∈ l,∀ us,All2 (Rd c ρ) p.2.cells us->All2 (Qd c1) (vI H p.2.cells) us) ->
  ∃ vss:List (List Value),pv.map (fun p=>(p.1,p.2.cells.toList))=(List.range' k vss.length).zip vss/\(∀ vs ∈ vss,vs.length=s.size)/\vss.length=xs.length/\Pds c1 (xs.flatMap (cellsOf s)) vss.flatten
 | [],_,k,xs,h,hp,_=>by
  cases h; cases hp
  exact ⟨[],rfl,by simp,rfl,.nil⟩
 | (i,v) :: r,_,k,xs,h,hp,hq=>by
  cases hp with
  | @cons _ q _ qs h1 h2=>
  obtain ⟨i',u⟩:=q
  obtain ⟨e,hv⟩:=h1
  simp only at e; subst e
  simp only [mP] at h
  split at h
  ·rename_i x l hb ho hl
   cases h
   have:=Nat.eq_of_beq_eq_true hb
   subst this
   obtain ⟨us,hus,hcells⟩:=bX.cells hv
   have hsp:=aW ho (hq (i,v) (by simp) us hcells)
   obtain ⟨vss,h3,h4,h5,h6⟩:=kH hl h2 fun p hp=>hq p (by simp [hp])
   refine ⟨us :: vss,?_,?_,by simp [h5],?_⟩
   ·simp only [List.map_cons,List.length_cons,List.range'_succ,List.zip_cons_cons,h3,hus]
   ·intro vs hvs
    rcases List.mem_cons.1 hvs with rfl | hvs
    ·rw [<- hsp.length,ct]
    ·exact h4 vs hvs
   ·rw [List.flatMap_cons,List.flatten_cons]
    exact hsp.append h6
  ·cases h
theorem mA:∀ {l:List (Nat × TV1)} {p:Nat × TV1} {i:Nat},p ∈ l->i ∈ dk p.2.cells->i ∈ uA l
 | [],_,_,h,_=>by simp at h
 | (j,v) :: r,p,i,h,hi=>by
  simp only [uA,List.mem_append]
  rcases List.mem_cons.1 h with rfl | h
  ·exact .inl hi
  ·exact .inr (mA h hi)
theorem qV {w':World} (hR:Rep G ρ H w) (hf:cK (cx G ρ w) ρ fr F) (hk:Kp [] w w') {e:TypeId} {s:Sh} {xs:List (den s)} {cells sp:List Value} {cap:Nat} (hh:w'.heap[w.heap.size]? = some (.cells (List.toArray (cells++sp)) e (0,0))) (hs:G.shp e=some s) (hb:xs.length*s.bytes<=140737488355328) (hp:Pds (cx G ρ w) (xs.flatMap (cellsOf s)) cells) (hc:(cells++sp).length=cap*s.size) (hl:xs.length<=cap) (hm:cap<=maxLen) :
  ∃ ρ',Stp ro ρ w ρ' w' /\ Rep G ρ' (H++[.row e s xs]) w' /\ cK (cx G ρ' w') ρ' fr F/\Rd (cx G ρ' w') ρ' (.own H.length) (.slice (some ⟨w.heap.size,0,none⟩) xs.length cap):=by
 have hlt:w.heap.size<w'.heap.size:=(Array.getElem?_eq_some_iff.1 hh).1
 have hext:Ext ρ w (ρ++[.row w.heap.size cap xs.length s.size]) w':=Ext.app hk fun g hg=>by cases hg; exact Nat.le_refl _
 have hle:=hext.le hR.lo
 refine ⟨ρ++[.row w.heap.size cap xs.length s.size],Stp.app hR hk (fun g hg=>by cases hg; exact Nat.le_refl _),hR.app hk (fun g hg=>by cases hg; exact ⟨Nat.le_refl _,hlt⟩) ⟨hs,hb,.inr ⟨w.heap.size,cap,cells,sp,rfl,hh,hp.carry hle,hc,hl,hm⟩⟩,hf.carry hle (dH _ _),.inl ⟨w.heap.size,cap,xs.length,s.size,by rw [hR.obj.length]; simp,rfl⟩⟩
theorem AE {w':World} (hR:Rep G ρ H w) (hf:cK (cx G ρ w) ρ fr F) (hk:Kp [] w w') {e:TypeId} {s:Sh} (hs:G.shp e=some s) {xs:List (den s)} (hx:xs=[]) (a:Option Addr) :
  ∃ ρ',Stp ro ρ w ρ' w' /\ Rep G ρ' (H++[.row e s xs]) w' /\ cK (cx G ρ' w') ρ' fr F/\Rd (cx G ρ' w') ρ' (.own H.length) (.slice a 0 0):=by
 subst hx
 have hext:Ext ρ w (ρ++[.emp]) w':=Ext.app hk fun g hg=>by cases hg
 have hle:=hext.le hR.lo
 exact ⟨ρ++[.emp],Stp.app hR hk (fun g hg=>by cases hg),hR.app hk (fun g hg=>by cases hg) ⟨hs,by simp,.inl ⟨rfl,rfl⟩⟩,hf.carry hle (dH _ _),.inr ⟨by rw [hR.obj.length]; simp,a,rfl⟩⟩
theorem wc {e:TypeId} {z:List Value} {s b:Nat} (h:(P.info? e).map (fun i=>(i.zero.map Value.cells,i.size,i.bytes))=some (some z.toArray,s,b)):((P.info? e).bind (·.zero)).map Value.cells=some z.toArray:=by
 cases hq:P.info? e with
 | none=>simp [hq] at h
 | some i=>simp [hq] at h ⊢; exact h.1
theorem sO {e:TypeId} {s b:Nat} {z:List Value} (ht:P.underlying t=some (.slice e)) (hi':(P.info? e).map (fun i=>(i.zero.map Value.cells,i.size,i.bytes))=some (some z.toArray,s,b)) (hz:z.length=s) (hs0:0<s)
  {v:Value} {m k cy:Nat} {olds cys:List Value} {A:Option Addr} {lo:Nat} (hlo:lo<=w.heap.size) (hrow:(m=0/\olds=[]/\∃ a,v = .slice a 0 0)\/w.ownsRow lo e s v m olds) (hfl:cys.length=k*s) (hones:∀ u ∈ cys,u.oneCell' = true) (hcells:k=0\/∃ ad,A=some ad/\CellsAt w ad cys)
  (hlen:(m+k)*b<=140737488355328) (h63:m+k<=9223372036854775807) :
  ∃ v' w',(Builtin.append_ #[t,t] ty #[v,.slice A k cy]).run P w = .ok v' w' /\ ((m+k=0/\∃ a,v' = .slice a 0 0)\/w'.ownsRow lo e s v' (m+k) (olds++cys))/\Kp (ob v) w w' /\ (∀ g ∈ ob v',g ∈ ob v\/(g=w.heap.size/\w.heap.size<w'.heap.size)):=by
 obtain ⟨i,zv,hq,hzv,hzc,hsz,hby_⟩:=qL hi'
 have hzs:zv.cells.size=s:=by rw [hzc]; simpa using hz
 have hA0:A=none->k=0:=by
  intro hA
  rcases hcells with h | ⟨ad',h,hc⟩
  ·exact h
  ·rw [hA] at h; cases h
 have hcl:∀ ad,A=some ad->∀ j u,cys[j]? = some u->w.cell? (ad.add j)=some u:=by
  intro ad hA j u hu
  rcases hcells with h | ⟨ad',h,hc⟩
  ·subst h
   have:cys=[]:=List.eq_nil_of_length_eq_zero (by omega)
   subst this; simp at hu
  ·rw [hA] at h; cases h; exact hc j u hu
 have runOwn:∀ (v:Value) (n:Nat) (olds:List Value),w.ownsRow lo e s v n olds->n+k<=9223372036854775807->(n+k)*b<=140737488355328 ->
   ∃ v' w',(Builtin.append_ #[t,t] ty #[v,.slice A k cy]).run P w = .ok v' w' /\ w'.ownsRow lo e s v' (n+k) (olds++cys)/\w.grownBy w' v.ownBlock /\
    (v'.ownBlock=v.ownBlock\/v'.ownBlock=some w.heap.size)/\(v'.ownBlock=some w.heap.size->w.heap.size<w'.heap.size):=by
  intro v n olds hown h63 hlen
  rcases A with _ | ad
  ·have hy0:=hA0 rfl
   subst hy0
   have hc0:cys=[]:=List.eq_nil_of_length_eq_zero (by omega)
   subst hc0
   refine ⟨v,w,?_,by simpa using hown,⟨rfl,rfl,rfl,Nat.le_refl _,fun _ _ _=>rfl⟩,.inl rfl,fun h=>?_⟩
   ·rcases hown.2 with ⟨rfl,h0⟩ | ⟨g,cap,cur,rfl,_,_,hnc,_⟩
    ·simp [Builtin.append_,run_underlying ht,sizeOf,typeInfo,hq,Builtin.lenOf,Builtin.firstCells]
    ·simp [Builtin.append_,run_underlying ht,sizeOf,typeInfo,hq,Builtin.lenOf,Builtin.firstCells,hnc,storeCells]
   ·exact absurd (hown.lt _ h).2 bt
  ·obtain ⟨v',w',hrun,h2,h3,_,h5⟩:=run_append_own_at (P:=P) w lo t ty e i zv s b ht hq hzv hsz hby_ hzs (by omega) v n olds hown ad k cy cys hfl (hcl ad rfl) hones (by simpa [maxLen] using h63) hlen hlo
   exact ⟨v',w',hrun,h2,h3,h5,fun h=>(h2.lt _ h).2⟩
 by_cases hcap:∃ a,v = .slice a 0 0
 ·obtain ⟨a0,rfl⟩:=hcap
  have hm0:m=0/\olds=[]:=by
   rcases hrow with ⟨h1,h2,_⟩ | h1
   ·exact ⟨h1,h2⟩
   ·have hm:m=0:=by
     rcases h1.2 with ⟨_,h0⟩ | ⟨g,cap,cur,hv,_,_,hn,_⟩
     ·exact h0
     ·injection hv with _ e1 _; exact e1.symm
    refine ⟨hm,List.eq_nil_of_length_eq_zero ?_⟩
    rw [h1.1,hm,Nat.zero_mul]
  obtain ⟨rfl,rfl⟩:=hm0
  by_cases hy0:k=0
  ·subst hy0
   have hc0:cys=[]:=List.eq_nil_of_length_eq_zero (by omega)
   subst hc0
   refine ⟨.slice a0 0 0,w,?_,.inl ⟨rfl,a0,rfl⟩,(Kp.refl w).sub (by simp),fun g hg=>.inl hg⟩
   cases a0 <;> cases A <;> simp [Builtin.append_,run_underlying ht,sizeOf,typeInfo,hq,Builtin.lenOf,Builtin.firstCells,storeCells,loadCells,loadCellsFrom]
  ·obtain ⟨ad,rfl⟩:∃ ad,A=some ad:=by
    cases A with
    | none=>exact absurd (hA0 rfl) hy0
    | some ad=>exact ⟨ad,rfl⟩
   simp only [Nat.zero_add] at h63 hlen
   obtain ⟨v',w',hrun,h2,h3,h5,h6⟩:=runOwn (.slice none 0 0) 0 [] (World.ownsRow_nil _ _ _ _) (by simpa using h63) (by simpa using hlen)
   have heq:(Builtin.append_ #[t,t] ty #[.slice a0 0 0,.slice (some ad) k cy]).run P w=(Builtin.append_ #[t,t] ty #[.slice none 0 0,.slice (some ad) k cy]).run P w:=by
    cases a0 with
    | none=>rfl
    | some b0=>
     rw [run_append_nil (P:=P) w t ty e i zv ht hq hzv ad k cy cys (by rw [hfl,hsz]) (hcl ad rfl) (by omega) (by omega) (by rw [hby_]; omega)]
     rw [run_append_grow (P:=P) w t ty e i zv ht hq hzv b0 0 0 [] (by simp) (by simp) ad k cy cys (by rw [hfl,hsz]) (hcl ad rfl) (by omega) (by omega) (by
      rw [hby_]; exact growslice_fits (by omega) (by simpa using hlen))]
     simp
   refine ⟨v',w',heq.trans hrun,.inr (by simpa using h2),⟨h3.os,h3.tape,h3.output,h3.size,fun b hb _=>h3.block b hb (by simp [Value.ownBlock])⟩,fun g hg=>?_⟩
   have hg':=pV hg
   rcases h5 with h5 | h5
   ·rw [h5] at hg'; cases hg'
   ·exact .inr ⟨by rw [h5] at hg'; exact (Option.some.inj hg').symm,h6 h5⟩
 ·have hown:w.ownsRow lo e s v m olds:=by
   rcases hrow with ⟨_,_,h⟩ | h1
   ·exact absurd h hcap
   ·exact h1
  obtain ⟨v',w',hrun,h2,h3,h5,h6⟩:=runOwn v m olds hown h63 hlen
  have hob:∀ g,v.ownBlock=some g->g ∈ ob v:=by
   intro g hg
   rcases hown.2 with ⟨rfl,h0⟩ | ⟨g',cap,cur,rfl,_,_,hn,_⟩
   ·cases hg
   ·cases hg
    simp only [ob]
    rw [if_neg]
    ·simp
    ·intro h0; subst h0; exact hcap ⟨_,by rw [show m=0 by omega]⟩
  refine ⟨v',w',hrun,.inr h2,⟨h3.os,h3.tape,h3.output,h3.size,fun b hb hn=>h3.block b hb fun he=>hn (hob b he.symm)⟩,fun g hg=>?_⟩
  have hg':=pV hg
  rcases h5 with h5 | h5
  ·rw [h5] at hg'; exact .inl (hob g hg')
  ·exact .inr ⟨by rw [h5] at hg'; exact (Option.some.inj hg').symm,h6 h5⟩
end
section
variable {G:Gl} {ρ:List RE} {H:AH} {w w':World}
theorem jy (hR:Rep G ρ H w) {id:Nat} {e e':TypeId} {s s':Sh} {xs:List (den s)} {zs:List (den s')} (hH:getO H id = .row e s xs) {ro:Lv} (hro:ro.mv id=true/\ro.wr id=true) {S:List Nat} (hk:Kp S w w') (hS:∀ g ∈ S,∃ r,ρ[id]? = some r/\r.g? = some g) {r':RE} (hr':∀ g,r'.g? = some g->(∃ r,ρ[id]? = some r/\r.g? = some g)\/(w.heap.size<=g/\g<w'.heap.size))
  (ho:(cx G ρ w).le (cx G (ρ.set id r') w')->OR (cx G (ρ.set id r') w') (ρ.set id r') (.row e' s' zs) r') :
  Stp ro ρ w (ρ.set id r') w' /\ Rep G (ρ.set id r') ((eR (AV.kill id) H).set id (.row e' s' zs)) w' /\ (∀ fr F,cK (cx G ρ w) ρ fr F->cK (cx G (ρ.set id r') w') (ρ.set id r') (gf (AV.kill id) fr) F):=by
 obtain ⟨hnb,hil,hiH⟩:=kQ hR hH
 have hlv:∀ b,b<w.heap.size->¬ live ρ b->¬ live (ρ.set id r') b:=fun b hb hl h=>(t_ h).elim hl fun h2=>by
  rcases hr' b h2 with ⟨r,h3,h4⟩ | h3
  ·exact hl ⟨id,r,h3,h4⟩
  ·omega
 have hblk:∀ b,b<w.heap.size->(∀ r,ρ[id]? = some r->r.g? ≠ some b)->w'.heap[b]? = w.heap[b]?:=fun b hb hn=>hk.block b hb fun hm=>by
  obtain ⟨r,h1,h2⟩:=hS b hm
  exact hn r h1 h2
 have hext:Ext ρ w (ρ.set id r') w':=⟨hk.os,hk.tape,hk.output,hk.size,fun b hb hl=>⟨hlv b hb hl,hblk b hb fun r h1 h2=>hl ⟨id,r,h1,h2⟩⟩⟩
 have hle:=hext.le hR.lo
 have hne:∀ j r,id≠j->ρ[j]? = some r->(ρ.set id r')[j]? = some r:=fun j r hij h=>by rw [fb hij]; exact h
 have hcap:∀ q v,cR ρ q v->cR (ρ.set id r') q v:=fun q v ⟨g,h1,h2⟩=>⟨g,hne _ _ (fun e=>hnb g (e ▸ h1)) h1,h2⟩
 have hrd:∀ a v,Rd (cx G ρ w) ρ a v->Rd (cx G (ρ.set id r') w') (ρ.set id r') (a.kill id) v:=by
  intro a v h
  cases a with
  | own j=>
   simp only [AV.kill]
   cases hb:Nat.beq id j
   ·have hij:id≠j:=by rintro rfl; simp at hb
    rcases h with ⟨g,cap,len,z,h,e⟩ | ⟨h,e⟩
    ·exact .inl ⟨g,cap,len,z,hne _ _ hij h,e⟩
    ·exact .inr ⟨hne _ _ hij h,e⟩
   ·exact Rd.one h
  | sub j o k=>
   simp only [AV.kill]
   cases hb:Nat.beq id j
   ·have hij:id≠j:=by rintro rfl; simp at hb
    rcases h with ⟨g,cap,len,z,h,e⟩ | ⟨h,e⟩
    ·exact .inl ⟨g,cap,len,z,hne _ _ hij h,e⟩
    ·exact .inr ⟨hne _ _ hij h,e⟩
   ·exact Rd.one h
  | elp j k o=>
   simp only [AV.kill]
   cases hb:Nat.beq id j
   ·have hij:id≠j:=by rintro rfl; simp at hb
    obtain ⟨g,cap,len,z,h,e⟩:=h
    exact ⟨g,cap,len,z,hne _ _ hij h,e⟩
   ·exact Rd.one h
  | ptr j o=>exact hcap _ _ h
  | mq j=>
   obtain ⟨g,h1,e⟩:=h
   exact ⟨g,hne _ _ (fun e=>hnb g (e ▸ h1)) h1,e⟩
  | fn f b cs=>
   obtain ⟨bs,us,h1,h2,e⟩:=h
   exact ⟨bs,us,h1.imp fun _ _ h=>hcap _ _ h,h2.imp fun _ _ h=>hcap _ _ h,e⟩
  | fe s' x o=>
   obtain ⟨A,cells,h1,h2,h3,e⟩:=h
   exact ⟨A,cells,(hle.S _ h1).1,h2.keep (hle.S _ h1).2,h3.carry hle,e⟩
  | np=>exact h
  | nf=>exact h
  | yl l=>exact h
  | xx k cs=>
   obtain ⟨us,h1,h2⟩:=h
   exact ⟨us,h1.imp fun _ _ h=>hcap _ _ h,h2.le hle⟩
  | dead=>exact h
  | int n=>exact Pd.carry h hle
  | u8 b=>exact Pd.carry h hle
  | u64 n=>exact Pd.carry h hle
  | bool e=>exact Pd.carry h hle
  | str s=>exact Pd.carry h hle
  | em b=>exact Pd.carry h hle
  | li nw xs=>exact Pd.carry h hle
  | fz s xs=>exact Pd.carry h hle
 have hoth:∀ j r g,id≠j->ρ[j]? = some r->r.g? = some g->w'.heap[g]? = w.heap[g]?:=fun j r g hij h1 h2=>hblk g (hR.bnd j r g h1 h2).2.1 fun r2 h3 h4=>hij (hR.inj _ _ _ _ g h3 h1 h4 h2)
 have key:∀ (a:Nat) (r:RE) (g:Nat),(ρ.set id r')[a]? = some r->r.g? = some g->(id≠a/\ρ[a]? = some r)\/(id=a/\((∃ r,ρ[id]? = some r/\r.g? = some g)\/(w.heap.size<=g/\g<w'.heap.size))):=fun a r g h1 h2=>by
  by_cases hia:id=a
  ·subst hia
   rw [List.getElem?_set_self hil] at h1; cases h1
   exact .inr ⟨rfl,hr' g h2⟩
  ·rw [fb hia] at h1; exact .inl ⟨hia,h1⟩
 refine ⟨⟨hext,fun j r hj h=>hne j r (by rintro rfl; rw [hro.1] at hj; cases hj) h,fun j r hj h=>⟨hne j r (by rintro rfl; rw [hro.2] at hj; cases hj) h,fun g hg=>hoth j r g (by rintro rfl; rw [hro.2] at hj; cases hj) h hg⟩,fun j g h=>hne j _ (fun e=>hnb g (e ▸ h)) h⟩,⟨cd (by simp [c_,hR.obj.length]) fun j o r ho' hr=>?_,fun a b r1 r2 g h1 h2 h3 h4=>?_,fun j r g h1 h2=>?_,fun b hb=>Nat.lt_of_lt_of_le (hR.z b hb) hk.size,Nat.le_trans hR.b0 hk.size,hR.tb.carry hle⟩,fun fr F h=>mZ hrd h⟩
 ·by_cases hij:id=j
  ·subst hij
   rw [List.getElem?_set_self (by rw [c_]; exact hiH)] at ho'
   rw [List.getElem?_set_self hil] at hr
   cases ho'; cases hr
   exact ho hle
  ·rw [List.getElem?_set_ne hij,ig] at ho'
   rw [fb hij] at hr
   rw [Option.map_eq_some_iff] at ho'
   obtain ⟨o',ho2,rfl⟩:=ho'
   obtain ⟨r2,hr2,hor⟩:=hR.at_ ho2
   rw [hr] at hr2; cases hr2
   exact hor.map hle hrd fun g hg=>hoth j r g hij hr hg
 ·rcases key a r1 g h1 h3 with ⟨k1,k2⟩ | ⟨k1,k2⟩ <;> rcases key b r2 g h2 h4 with ⟨k3,k4⟩ | ⟨k3,k4⟩
  ·exact hR.inj a b r1 r2 g k2 k4 h3 h4
  ·rcases k4 with ⟨r,k5,k6⟩ | k4
   ·exact absurd (hR.inj _ _ _ _ g k5 k2 k6 h3) k1
   ·have:=(hR.bnd a r1 g k2 h3).2.1; omega
  ·rcases k2 with ⟨r,k5,k6⟩ | k2
   ·exact absurd (hR.inj _ _ _ _ g k5 k4 k6 h4) k3
   ·have:=(hR.bnd b r2 g k4 h4).2.1; omega
  ·omega
 ·rcases key j r g h1 h2 with ⟨k1,k2⟩ | ⟨k1,k2⟩
  ·have:=hR.bnd j r g k2 h2
   exact ⟨this.1,Nat.lt_of_lt_of_le this.2.1 hk.size,this.2.2⟩
  ·rcases k2 with ⟨r,k5,k6⟩ | k2
   ·have:=hR.bnd _ r g k5 k6
    exact ⟨this.1,Nat.lt_of_lt_of_le this.2.1 hk.size,this.2.2⟩
   ·exact ⟨Nat.le_trans hR.b0 k2.1,k2.2,fun hz=>by have:=hR.z g hz; omega⟩
end
section
variable {P:Program} {T:List (Nat × TI)} {G:Gl} {O:cO} {n:Nat} {F:Fr} {w:World} {x y:Operand} {ty t:TypeId} {ρ:List RE} {H:AH} {fr:AFr} {ro:Lv}
theorem mQ (hR:Rep G ρ H w) {b:AV} {vb:Value} {s:Sh} {ys:List (den s)} (h:(b.vw H).fD s=some ys) (hb:Rd (cx G ρ w) ρ b vb):∃ A k cys,vb = .slice A ys.length k/\cys.length=ys.length*s.size/\(∀ u ∈ cys,u.oneCell' = true)/\(ys.length=0\/∃ ad,A=some ad/\CellsAt w ad cys)/\Pds (cx G ρ w) (ys.flatMap (cellsOf s)) cys:=by
 have hfz:∀ v,b.vw H = .fz s v->∃ A k cys,vb = .slice A v.length k/\cys.length=v.length*s.size/\(∀ u ∈ cys,u.oneCell' = true)/\(v.length=0\/∃ ad,A=some ad/\CellsAt w ad cys)/\Pds (cx G ρ w) (v.flatMap (cellsOf s)) cys:=fun v hv=>by
  obtain ⟨a,k,cells,rfl,h1,h2,h3,h4⟩:=(vW hR hv hb).ex
  refine ⟨a,k,cells,rfl,by rw [<- h3.length,bT],h3.Di,?_,h3⟩
  rcases h4 with h4 | ⟨A,hA,_,hc⟩
  ·exact .inl (by rw [h4]; rfl)
  ·exact .inr ⟨A,hA,hc⟩
 cases hv:b.vw H with
 | fz s' zs=>
  rw [hv] at h
  simp only [AV.fD] at h
  split at h
  ·rename_i e
   subst e
   cases h
   exact hfz _ hv
  ·cases h
 | em c=>
  rw [hv] at h
  cases h
  have hbe:b = .em c:=by
   cases b <;> simp only [AV.vw] at hv <;> first | (cases hv <;> rfl) | (split at hv <;> cases hv)
  subst hbe
  cases hb with | @em _ a _=>
  exact ⟨a,0,[],rfl,by simp,by simp,.inl rfl,.nil⟩
 | _=>rw [hv] at h; simp [AV.fD] at h
theorem ki {lo:Nat} {e:TypeId} {s m:Nat} {v:Value} {cs:List Value} (h:w.ownsRow lo e s v m cs):(v = .slice none 0 0/\m=0)\/∃ g cap sp,v = .slice (some ⟨g,0,none⟩) m cap/\w.heap[g]? = some (.cells (List.toArray (cs++sp)) e (0,0))/\(cs++sp).length=cap*s/\m<=cap/\cap<=maxLen:=by
 rcases h.2 with h0 | ⟨g,cap,cur,hv,_,hh,hn,hm,hs,ht⟩
 ·exact .inl h0
 ·refine .inr ⟨g,cap,cur.toList.drop (m*s),hv,?_,?_,hn,hm⟩
  ·rw [<- ht,List.take_append_drop]; simpa using hh
  ·rw [<- ht,List.take_append_drop]; simpa using hs
theorem iC (hR:Rep G ρ H w) (hf:cK (cx G ρ w) ρ fr F) {op:Op} {e:TypeId} {s:Sh} {ys:List (den s)} {cys:List Value} {a:AV} {va:Value} {r:SR} (hshp:G.shp e=some s) (s4:Pds (cx G ρ w) (ys.flatMap (cellsOf s)) cys)
  (run:∀ (m:Nat) (olds:List Value),((m=0/\olds=[]/\∃ a,va = .slice a 0 0)\/w.ownsRow 0 e s.size va m olds)->(m+ys.length)*s.bytes<=140737488355328 ->
     ∃ v' w',aU P n F w op ty v' w' /\ ((m+ys.length=0/\∃ a,v' = .slice a 0 0)\/w'.ownsRow 0 e s.size v' (m+ys.length) (olds++cys))/\Kp (ob va) w w' /\ (∀ g ∈ ob v',g ∈ ob va\/(g=w.heap.size/\w.heap.size<w'.heap.size)))
  (h:hL ro fr H e s ys a=some r) (hob:∀ p ∈ r.ob,p) (ha:Rd (cx G ρ w) ρ a va) :
  ∃ v w',aU P n F w op ty v w' /\ ee G ro ρ w r F v w':=by
 unfold hL at h
 -- what a row of one's own becomes
 have ownStep:∀ (id:Nat) (xs zs:List (den s)) (m:Nat),getO H id = .row e s xs->(ro.mv id=true/\ro.wr id=true)->m=zs.length->(∀ (v':Value) (w':World),w'.heap.size=w'.heap.size)->(m+ys.length)*s.bytes<=140737488355328 ->
   ((va = .slice (some ⟨0,0,none⟩) 0 0->True))->(∃ olds,((m=0/\olds=[]/\∃ a,va = .slice a 0 0)\/w.ownsRow 0 e s.size va m olds)/\Pds (cx G ρ w) (zs.flatMap (cellsOf s)) olds)->(∀ g ∈ ob va,∃ r,ρ[id]? = some r/\r.g? = some g) ->
   ∃ v w',aU P n F w op ty v w' /\ ee G ro ρ w ⟨one (.own id),gf (AV.kill id) fr,(eR (AV.kill id) H).set id (.row e s (zs++ys)),[],[]⟩ F v w':=by
  intro id xs zs m hH hro hm _ hlen _ ⟨olds,hrow,hpo⟩ hobv
  subst hm
  obtain ⟨_,hil,_⟩:=kQ hR hH
  obtain ⟨v',w',h1,h2,h3,h4⟩:=run zs.length olds hrow hlen
  have hlap:(zs++ys).length=zs.length+ys.length:=List.length_append
  have done:∀ (r':RE),(∀ g,r'.g? = some g->(∃ r,ρ[id]? = some r/\r.g? = some g)\/(w.heap.size<=g/\g<w'.heap.size))->((cx G ρ w).le (cx G (ρ.set id r') w')->OR (cx G (ρ.set id r') w') (ρ.set id r') (.row e s (zs++ys)) r')->Rd (cx G (ρ.set id r') w') (ρ.set id r') (.own id) v' -> ∃ v w',aU P n F w op ty v w' /\ ee G ro ρ w ⟨one (.own id),gf (AV.kill id) fr,(eR (AV.kill id) H).set id (.row e s (zs++ys)),[],[]⟩ F v w':=fun r' k1 k2 k3=>by
   obtain ⟨k4,k5,k6⟩:=jy hR hH hro h3 hobv k1 k2
   exact ⟨v',w',h1,ρ.set id r',k4,k5,k6 fr F hf,k3,by simp⟩
  rcases h2 with ⟨h0,a',rfl⟩ | h2
  ·refine done .emp (by rintro g ⟨⟩) (fun _=>⟨hshp,by rw [hlap]; exact hlen,.inl ⟨rfl,List.eq_nil_of_length_eq_zero (by omega)⟩⟩) (.inr ⟨List.getElem?_set_self hil,a',rfl⟩)
  ·rcases ki h2 with ⟨rfl,h0⟩ | ⟨g,cap,sp,rfl,k1,k2,k3,k4⟩
   ·refine done .emp (by rintro g ⟨⟩) (fun _=>⟨hshp,by rw [hlap]; exact hlen,.inl ⟨rfl,List.eq_nil_of_length_eq_zero (by omega)⟩⟩) (.inr ⟨List.getElem?_set_self hil,none,rfl⟩)
   ·by_cases hc0:cap=0
    ·subst hc0
     have hm0:zs.length+ys.length=0:=by omega
     exact done .emp (by rintro g ⟨⟩) (fun _=>⟨hshp,by rw [hlap]; exact hlen,.inl ⟨rfl,List.eq_nil_of_length_eq_zero (by omega)⟩⟩) (.inr ⟨List.getElem?_set_self hil,some ⟨g,0,none⟩,by rw [hm0]⟩)
    ·refine done (.row g cap (zs++ys).length s.size) (fun g' hg'=>?_) (fun hle=>⟨hshp,by rw [hlap]; exact hlen,.inr ⟨g,cap,olds++cys,sp,rfl,k1,?_,k2,by rw [hlap]; exact k3,k4⟩⟩) (.inl ⟨g,cap,(zs++ys).length,s.size,List.getElem?_set_self hil,by rw [hlap]⟩)
     ·cases hg'
      rcases h4 g (by simp [ob,hc0]) with h5 | ⟨h5,h6⟩
      ·exact .inl (hobv g h5)
      ·exact .inr ⟨by omega,by omega⟩
     ·rw [List.flatMap_append]
      exact (hpo.append s4).carry hle
 split at h
 ·-- no room
  cases h
  cases ha with | @em _ a0 _=>
  have hlen:=hob _ (List.mem_singleton_self _)
  obtain ⟨v',w',h1,h2,h3,h4⟩:=run 0 [] (.inl ⟨rfl,rfl,a0,rfl⟩) (by simpa using hlen)
  have hk:Kp [] w w':=h3.sub fun g hg=>by cases a0 <;> simp [ob] at hg
  simp only [Nat.zero_add,List.nil_append] at h2
  have fin:∀ (a':Option Addr),ys=[]->v' = .slice a' 0 0->ee G ro ρ w ⟨one (.own H.length),fr,H++[.row e s ys],[ys.length*s.bytes<=140737488355328],[]⟩ F v' w':=fun a' hy0 hv=>by
   obtain ⟨ρ',k1,k2,k3,k4⟩:=AE (ro:=ro) hR hf hk hshp hy0 a'
   subst hv
   exact ⟨ρ',k1,k2,k3,k4,by simp⟩
  refine ⟨v',w',h1,?_⟩
  rcases h2 with ⟨h0,a',hv⟩ | h2
  ·exact fin a' (List.eq_nil_of_length_eq_zero h0) hv
  ·rcases ki h2 with ⟨hv,h0⟩ | ⟨g,cap,sp,rfl,k1,k2,k3,k4⟩
   ·exact fin none (List.eq_nil_of_length_eq_zero h0) hv
   ·by_cases hc0:cap=0
    ·subst hc0
     have hm0:ys.length=0:=by omega
     exact fin _ (List.eq_nil_of_length_eq_zero hm0) (by rw [hm0])
    ·rcases h4 g (by simp [ob,hc0]) with h5 | ⟨h5,h6⟩
     ·cases a0 <;> simp [ob] at h5
     ·subst h5
      obtain ⟨ρ',j1,j2,j3,j4⟩:=qV (ro:=ro) hR hf hk k1 hshp hlen s4 k2 k3 k4
      exact ⟨ρ',j1,j2,j3,j4,by simp⟩
 ·-- a row
  rename_i id
  split at h
  ·rename_i e' s' xs hH
   split at h
   ·rename_i hss
    subst hss
    split at h
    ·rename_i hck
     cases h
     simp only [Bool.and_eq_true] at hck
     have he:=Nat.eq_of_beq_eq_true hck.2
     subst he
     have hlen:=hob _ (List.mem_singleton_self _)
     have hmain:=ownStep id xs xs xs.length hH hck.1 rfl (fun _ _=>rfl) hlen (fun _=>trivial)
     rcases bJ hR hH with ⟨h0,rfl⟩ | ⟨g,cap,cells,sp,h2,h3,h4,h5,h6,h7⟩
     ·rcases ha with ⟨_,_,_,_,h8,_⟩ | ⟨_,a0,rfl⟩
      ·rw [h0] at h8; cases h8
      ·obtain ⟨v,w',k1,ρ',k2,k3,k4,k5,k6⟩:=hmain ⟨[],.inl ⟨rfl,rfl,a0,rfl⟩,.nil⟩ (fun g hg=>by cases a0 <;> simp [ob] at hg)
       exact ⟨v,w',k1,ρ',k2,k3,k4,k5,k6⟩
     ·rcases ha with ⟨_,_,_,_,h8,rfl⟩ | ⟨h8,_⟩
      ·rw [h2] at h8; cases h8
       obtain ⟨v,w',k1,ρ',k2,k3,k4,k5,k6⟩:=hmain ⟨cells,.inr ⟨by rw [<- h4.length,bT],.inr ⟨g,cap,_,rfl,Nat.zero_le _,h3,h6,h7,by simpa using h5,by
        have hcl:cells.length=xs.length*s'.size:=by rw [<- h4.length,bT]
        rw [<- hcl]; simp⟩⟩,h4⟩ (fun g' hg'=>by
         simp only [ob] at hg'
         split at hg'
         ·simp at hg'
         ·simp at hg'; subst hg'; exact ⟨_,h2,rfl⟩)
       exact ⟨v,w',k1,ρ',k2,k3,k4,k5,k6⟩
      ·rw [h2] at h8; cases h8
    ·cases h
   ·cases h
  ·cases h
 ·-- a row's beginning
  rename_i id len
  split at h
  ·rename_i e' s' xs hH
   split at h
   ·rename_i hss
    subst hss
    split at h
    ·rename_i hck
     cases h
     simp only [Bool.and_eq_true] at hck
     have he:=Nat.eq_of_beq_eq_true hck.2
     subst he
     have hlen:=hob _ (List.mem_singleton_self _)
     rcases bJ hR hH with ⟨h0,rfl⟩ | ⟨g,cap,cells,sp,h2,h3,h4,h5,h6,h7⟩
     ·rcases ha with ⟨_,_,_,_,h8,_⟩ | ⟨_,_,rfl,a0,rfl⟩
      ·rw [h0] at h8; cases h8
      ·obtain ⟨v,w',k1,ρ',k2,k3,k4,k5,k6⟩:=ownStep id [] ([].take 0) 0 hH hck.1 rfl (fun _ _=>rfl) hlen (fun _=>trivial) ⟨[],.inl ⟨rfl,rfl,a0,rfl⟩,.nil⟩ (fun g hg=>by cases a0 <;> simp [ob] at hg)
       exact ⟨v,w',k1,ρ',k2,k3,k4,k5,k6⟩
     ·rcases ha with ⟨_,_,_,_,h8,h9,rfl⟩ | ⟨h8,_⟩
      ·rw [h2] at h8; cases h8
       have hlt:(xs.take len).length=len:=by simp; omega
       have hcl:cells.length=xs.length*s'.size:=by rw [<- h4.length,bT]
       have hmul:len*s'.size<=xs.length*s'.size:=Nat.mul_le_mul_right _ (by omega)
       obtain ⟨v,w',k1,ρ',k2,k3,k4,k5,k6⟩:=ownStep id xs (xs.take len) len hH hck.1 hlt.symm (fun _ _=>rfl) hlen (fun _=>trivial) ⟨cells.take (len*s'.size),.inr ⟨by rw [List.length_take]; omega,.inr ⟨g,cap,_,by rw [Nat.zero_mul,Nat.sub_zero],Nat.zero_le _,h3,by omega,h7,by simpa using h5,by
        rw [List.toList_toArray,List.take_append_of_le_length (by omega)]⟩⟩,bO h4 len⟩ (fun g' hg'=>by
         simp only [ob] at hg'
         split at hg'
         ·simp at hg'
         ·simp at hg'; subst hg'; exact ⟨_,h2,rfl⟩)
       exact ⟨v,w',k1,ρ',k2,k3,k4,k5,k6⟩
      ·rw [h2] at h8; cases h8
    ·cases h
   ·cases h
  ·cases h
 ·cases h
theorem fR (hT:bn P G.shp T) (hR:Rep G ρ H w) (hf:cK (cx G ρ w) ρ fr F) {a b:AV} {va vb:Value} {r:SR} (h:fP T ro fr H t a b=some r) (hob:∀ p ∈ r.ob,p) (ha:Rd (cx G ρ w) ρ a va) (hb:Rd (cx G ρ w) ρ b vb) (hx:ev F x=some va) (hy:ev F y=some vb) :
  ∃ v w',aU P n F w (.call { callee:=.builtin .append,args:=#[x,y],argTypes:=#[t,t] }) ty v w' /\ ee G ro ρ w r F v w':=by
 unfold fP at h
 split at h
 ·rename_i e s sz z hft
  obtain ⟨hu,hs⟩:=(hT _ _ hft).2
  obtain ⟨hshp,⟨zz,hz,hzb⟩,_⟩:=hs s rfl
  have hzl:zz.length=s.size:=by
   have:=(gT (c:=cx G ρ w) (ρ:=ρ) hzb).length
   rw [ct] at this; exact this.symm
  split at h
  ·rename_i ys hys
   obtain ⟨A,k,cys,rfl,s1,s2,s3,s4⟩:=mQ hR hys hb
   refine iC (ty:=ty) hR hf hshp s4 (fun m olds hrow hlen=>?_) h hob ha
   have h63:m+ys.length<=9223372036854775807:=by
    have:=Nat.mul_le_mul_left (m+ys.length) (gY s)
    omega
   obtain ⟨v',w',h1,h2⟩:=sO (P:=P) (w:=w) (ty:=ty) (cy:=k) hu hz hzl (size_pos s) (lo:=0) (Nat.zero_le _) hrow s1 s2 s3 hlen h63
   exact ⟨v',w',fun a _ _ _ _ ha=>by simp [execOp,resolve,invoke,builtin,ha.ev hx,ha.ev hy,h1],h2⟩
  ·cases h
 ·cases h
theorem nk {e:TypeId} {z:List Value} {t':TypeId} (ht:P.underlying t=some (.slice e)) (ht':P.underlying t' = some .string) (hi':(P.info? e).map (fun i=>(i.zero.map Value.cells,i.size,i.bytes))=some (some z.toArray,1,1)) (hz:(P.info? e).bind (·.zero)=some (.int .u8 0))
  {v:Value} {m:Nat} {olds:List Value} (hrow:(m=0/\olds=[]/\∃ a,v = .slice a 0 0)\/w.ownsRow 0 e 1 v m olds) (s:ByteArray) (hlen:m+s.size<=140737488355328) :
  ∃ v' w',(Builtin.append_ #[t,t'] ty #[v,.string s]).run P w = .ok v' w' /\ ((m+s.size=0/\∃ a,v' = .slice a 0 0)\/w'.ownsRow 0 e 1 v' (m+s.size) (olds++Lib.strCells s))/\Kp (ob v) w w' /\ (∀ g ∈ ob v',g ∈ ob v\/(g=w.heap.size/\w.heap.size<w'.heap.size)):=by
 obtain ⟨i,zv,hq,hzv,hzc,hsz,hby⟩:=qL hi'
 have hzv':i.zero=some (.int .u8 0):=by
  rw [hq] at hz; exact hz
 have h63:m+s.size<=maxLen:=by simp only [maxLen]; omega
 have hgrown:∀ (v':Value) (w':World) (k c:Nat),v' = .slice (some ⟨w.heap.size,0,none⟩) k c->w'.ownsRow 0 e 1 v' k (olds++Lib.strCells s)->∀ g ∈ ob v',g ∈ ob v\/(g=w.heap.size/\w.heap.size<w'.heap.size):=fun v' w' k c hv hown g hg=>by
  have h1:=pV hg
  have h2:=(hown.lt _ h1).2
  subst hv
  have h1:w.heap.size=g:=Option.some.inj h1
  exact .inr ⟨h1.symm,by omega⟩
 by_cases hcap:∃ a,v = .slice a 0 0
 ·obtain ⟨a0,rfl⟩:=hcap
  have hm0:m=0/\olds=[]:=by
   rcases hrow with ⟨h1,h2,_⟩ | h1
   ·exact ⟨h1,h2⟩
   ·have hm:m=0:=by
     rcases h1.2 with ⟨_,h0⟩ | ⟨g,cap,cur,hv,_,_,hn,_⟩
     ·exact h0
     ·injection hv with _ e1 _; exact e1.symm
    refine ⟨hm,List.eq_nil_of_length_eq_zero ?_⟩
    rw [h1.1,hm,Nat.zero_mul]
  obtain ⟨rfl,rfl⟩:=hm0
  have hob0:∀ g,g ∉ ob (.slice a0 0 0):=fun g hg=>by cases a0 <;> simp [ob] at hg
  by_cases h0:s.size=0
  ·refine ⟨.slice a0 0 0,w,?_,.inl ⟨by omega,a0,rfl⟩,(Kp.refl w).sub (by simp),fun g hg=>.inl hg⟩
   have hf:=Lib.run_firstCells_string (P:=P) w 1 s
   have hn:Lib.strCells s=[]:=List.eq_nil_of_length_eq_zero (by rw [Lib.strCells_length]; exact h0)
   rw [h0,hn] at hf
   cases a0 <;> simp [Builtin.append_,run_underlying ht,run_underlying ht',sizeOf,typeInfo,hq,hsz,Builtin.lenOf,h0,hf,storeCells]
  ·obtain ⟨v',w',hr,hown,hgr,_⟩:=Lib.run_append_own_string (P:=P) w 0 t t' ty e i ht ht' hq hzv' hsz hby (.slice none 0 0) 0 [] (World.ownsRow_nil _ _ _ _) s h63 hlen (Nat.zero_le _)
   have hr2:=run_append_nil_string (P:=P) w t t' ty e i (.int .u8 0) ht ht' hq hzv' s (by omega) (by omega) (by rw [hby]; omega)
   rw [hr] at hr2
   injection hr2 with e1 e2
   have heq:(Builtin.append_ #[t,t'] ty #[.slice a0 0 0,.string s]).run P w = .ok v' w':=by
    cases a0 with
    | none=>exact hr
    | some b0=>
     rw [Lib.run_append_grow_string (P:=P) w t t' ty e i (.int .u8 0) ht ht' hq hzv' b0 0 0 [] (by simp) (by simp) s (by omega) (by omega) (by rw [hby]; exact growslice_fits (by omega) (by omega)),e1,e2]
     have e3:(s.data.map fun b=>Value.int .u8 b.toNat)=(Lib.strCells s).toArray:=by
      apply Array.ext'
      simp [Lib.strCells]
     simp [e3]
   exact ⟨v',w',heq,.inr (by simpa using hown),⟨hgr.os,hgr.tape,hgr.output,hgr.size,fun b hb _=>hgr.block b hb (by simp [Value.ownBlock])⟩,fun g hg=>hgrown v' w' _ _ e1 (by simpa using hown) g hg⟩
 ·have hown:w.ownsRow 0 e 1 v m olds:=by
   rcases hrow with ⟨_,_,h⟩ | h1
   ·exact absurd h hcap
   ·exact h1
  obtain ⟨v',w',hr,hown',hgr,_⟩:=Lib.run_append_own_string (P:=P) w 0 t t' ty e i ht ht' hq hzv' hsz hby v m olds hown s h63 hlen (Nat.zero_le _)
  obtain ⟨g,cap,cur,rfl,hc0,hg,hnc,hcs,hl⟩:∃ g cap cur,v = .slice (some ⟨g,0,none⟩) m cap/\cap≠0/\w.heap[g]? = some (.cells cur e (0,0))/\m<=cap/\cur.size=cap/\(∀ j u,olds[j]? = some u->w.cell? ((⟨g,0,none⟩:Addr).add j)=some u):=by
   rcases hown.2 with ⟨h,_⟩ | ⟨g,cap,cur,rfl,_,hg,hnc,_,hcs,_⟩
   ·exact absurd ⟨none,h⟩ hcap
   ·refine ⟨g,cap,cur,rfl,fun h0=>hcap ⟨some ⟨g,0,none⟩,?_⟩,hg,hnc,by simpa using hcs,hown.cells (g:=g) rfl⟩
    subst h0
    rw [show m=0 by omega]
  have hobg:ob (.slice (some ⟨g,0,none⟩) m cap)=[g]:=by simp [ob,hc0]
  refine ⟨v',w',hr,.inr hown',⟨hgr.os,hgr.tape,hgr.output,hgr.size,fun b hb hn=>hgr.block b hb fun he=>hn (by rw [hobg]; simpa [Value.ownBlock] using he)⟩,?_⟩
  by_cases hroom:m+s.size<=cap
  ·have hr2:=Lib.run_append_room_string (P:=P) w t t' ty e i ht ht' hq hsz g m cap cur hg s hroom (by omega)
   rw [hr] at hr2
   injection hr2 with e1 e2
   intro g' hg'
   subst e1
   have h1:=pV hg'
   have h1:g=g':=Option.some.inj h1
   subst h1
   exact .inl (by rw [hobg]; simp)
  ·have hr2:=Lib.run_append_grow_string (P:=P) w t t' ty e i (.int .u8 0) ht ht' hq hzv' ⟨g,0,none⟩ m cap olds (by rw [hsz]; exact hown.1) hl s (by omega) (by omega) (by rw [hby]; exact growslice_fits (by omega) (by omega))
   rw [hr] at hr2
   injection hr2 with e1 e2
   exact hgrown v' w' _ _ e1 hown'
theorem om (hT:bn P G.shp T) (hR:Rep G ρ H w) (hf:cK (cx G ρ w) ρ fr F) {t':TypeId} {a b:AV} {va vb:Value} {r:SR} (h:pR T ro fr H t t' a b=some r) (hob:∀ p ∈ r.ob,p) (ha:Rd (cx G ρ w) ρ a va) (hb:Rd (cx G ρ w) ρ b vb) (hx:ev F x=some va) (hy:ev F y=some vb) :
  ∃ v w',aU P n F w (.call { callee:=.builtin .append,args:=#[x,y],argTypes:=#[t,t'] }) ty v w' /\ ee G ro ρ w r F v w':=by
 unfold pR at h
 split at h
 ·rename_i e sz z sz' z' s hft hft'
  obtain ⟨hu,hs⟩:=(hT _ _ hft).2
  obtain ⟨hshp,⟨zz,hz,hzb⟩,hu8⟩:=hs .u8 rfl
  have hu':=(hT _ _ hft').2
  cases hb with | str hl=>
  have hp:Pds (cx G ρ w) (s.b.flatMap (cellsOf .u8)) (Lib.strCells ⟨s.b.toArray⟩):=by
   have:Lib.strCells ⟨s.b.toArray⟩=s.b.map fun b=>Value.int .u8 (b.toNat:Int):=by simp [Lib.strCells]
   rw [this]
   generalize s.b=l
   induction l with
   | nil=>exact .nil
   | cons b l ih=>exact .cons .u8 ih
  refine iC (ty:=ty) hR hf hshp hp (fun m olds hrow hlen=>?_) h hob ha
  obtain ⟨v',w',h1,h2⟩:=nk (P:=P) (w:=w) (ty:=ty) hu hu' hz (hu8 rfl).2 hrow ⟨s.b.toArray⟩ (by simpa [Sh.bytes,ByteArray.size] using hlen)
  exact ⟨v',w',fun a _ _ _ _ ha=>by simp [execOp,resolve,invoke,builtin,ha.ev hx,ha.ev hy,Str.val,h1],by rw [show (ByteArray.mk s.b.toArray).size=s.b.length by simp [ByteArray.size]] at h2; exact h2⟩
 ·cases h
end
theorem eB {f:Nat->AO}:∀ {l:List Nat} {H:AH},(iL f l H).length=H.length
 | [],_=>rfl
 | i :: r,H=>by rw [iL,eB,List.length_set]
theorem pd {f:Nat->AO} {j:Nat}:∀ {l:List Nat} {H:AH},j<H.length->(iL f l H)[j]? = if j ∈ l then some (f j) else H[j]?
 | [],_,_=>by simp [iL]
 | i :: r,H,hj=>by
  rw [iL,pd (by rw [List.length_set]; exact hj)]
  by_cases h1:j ∈ r
  ·simp [h1]
  ·by_cases h2:i=j
   ·subst h2; simp [h1,hj]
   ·rw [if_neg h1,List.getElem?_set_ne h2]
    simp [h1,Ne.symm h2]
theorem eD {H:AH} {i:Nat}:∀ {l:List Nat},i ∈ rowsOf H l↔i ∈ l/\((∃ t s xs,getO H i = .row t s xs)\/getO H i = .loc)
 | []=>by simp [rowsOf]
 | j :: r=>by
  unfold rowsOf
  split
  ·rename_i t s xs h
   simp only [List.mem_cons,eD]
   constructor
   ·rintro (rfl | ⟨h1,h2⟩)
    ·exact ⟨.inl rfl,.inl ⟨t,s,xs,h⟩⟩
    ·exact ⟨.inr h1,h2⟩
   ·rintro ⟨rfl | h1,h2⟩
    ·exact .inl rfl
    ·exact .inr ⟨h1,h2⟩
  ·rename_i h
   simp only [List.mem_cons,eD]
   constructor
   ·rintro (rfl | ⟨h1,h2⟩)
    ·exact ⟨.inl rfl,.inr h⟩
    ·exact ⟨.inr h1,h2⟩
   ·rintro ⟨rfl | h1,h2⟩
    ·exact .inl rfl
    ·exact .inr ⟨h1,h2⟩
  ·rename_i hn hl
   simp only [List.mem_cons,eD]
   constructor
   ·rintro ⟨h1,h2⟩; exact ⟨.inr h1,h2⟩
   ·rintro ⟨rfl | h1,h2⟩
    ·rcases h2 with ⟨t,s,xs,h2⟩ | h2
     ·exact absurd h2 (hn t s xs)
     ·exact absurd h2 hl
    ·exact ⟨h1,h2⟩
theorem oy {ro:Lv}:∀ {l:List Nat},th ro l=true↔∀ i ∈ l,ro.wr i=true/\ro.mv i=true
 | []=>by simp [th]
 | i :: r=>by simp [th,oy]
theorem kO {b:Sh} {o:AO}:∀ {H:AH},nu b H=true->o ∈ H->nu b [o]=true
 | [],_,h=>by simp at h
 | o' :: r,h,hm=>by
  rcases List.mem_cons.1 hm with rfl | hm
  ·cases o <;> simp only [nu,Bool.and_eq_true] at h ⊢ <;> simp_all
  ·exact kO (H:=r) (by cases o' <;> simp only [nu,Bool.and_eq_true] at h <;> first | exact h | exact h.2) hm
theorem EY {b:Sh} {t:TypeId} {cs:List AV} {H:AH} (h:nu b H=true) (hm:.box t cs ∈ H):He b cs=true:=by simpa [nu] using kO h hm
theorem DE {b:Sh} {t:TypeId} {s:Sh} {xs:List (den s)} {H:AH} (h:nu b H=true) (hm:.row t s xs ∈ H):fB (Sh.no 5 b) s.fC=true:=by simpa [nu] using kO h hm
theorem DW {b:Sh} {s:Sh} {f:Int->Option (den s)} {H:AH} (h:nu b H=true) (hm:.mapo s f ∈ H):fB (Sh.no 5 b) s.fC=true:=by simpa [nu] using kO h hm
theorem EX {b:Sh} {t:TypeId} {s:Sh} {n:Nat} {xs:List (den s)} {H:AH} (h:nu b H=true) (hm:.arr t s n xs ∈ H):fB (Sh.no 5 b) s.fC=true:=by simpa [nu] using kO h hm
theorem wU {b:Sh}:∀ {l:List (Int × AV)},KP b l=true->∀ q ∈ l,q.2.no b=true
 | [],_,q,hq=>by simp at hq
 | (k,a) :: r,h,q,hq=>by
  simp only [KP,Bool.and_eq_true] at h
  rcases List.mem_cons.1 hq with rfl | hq
  ·exact h.1
  ·exact wU h.2 q hq
theorem AR {b:Sh} {l:List (Int × AV)} {H:AH} (h:nu b H=true) (hm:.mapf l ∈ H):KP b l=true:=by simpa [nu] using kO h hm
theorem uQ {σ:List Nat} (hn:σ.Nodup) {j:Nat} (hj:j<σ.length):posOf σ[j] σ=j:=by
 have h1:=gk (σ:=σ) (List.getElem_mem hj)
 have h2:=(List.getElem?_eq_some_iff.1 h1)
 obtain ⟨h3,h4⟩:=h2
 exact (List.getElem_inj hn).1 h4
def dW (ρ:List RE) (σ:List Nat) (ρ2:List RE):List RE:=((List.range ρ.length).map fun j=>if j ∈ σ then ρ2.getD (posOf j σ) .no else ρ.getD j .no)++ρ2.drop σ.length
theorem fW {ρ:List RE} {σ:List Nat} {ρ2:List RE} {j:Nat} (hj:j<ρ.length):(dW ρ σ ρ2)[j]? = some (if j ∈ σ then ρ2.getD (posOf j σ) .no else ρ.getD j .no):=by
 unfold dW
 rw [List.getElem?_append_left (by simpa using hj)]
 simp [hj]
theorem qP {ρ:List RE} {σ:List Nat} {ρ2:List RE} {j:Nat} (hj:ρ.length<=j):(dW ρ σ ρ2)[j]? = ρ2[σ.length+(j - ρ.length)]?:=by
 unfold dW
 rw [List.getElem?_append_right (by simpa using hj),List.getElem?_drop]
 simp
section
variable {P:Program} {G:Gl} {O:cO} {n:Nat} {F:Fr} {w:World} {ρ:List RE} {H:AH} {fr:AFr} {ro:Lv}
theorem oQ (hO:bk P G.shp O) (hR:Rep G ρ H w) (hf:cK (cx G ρ w) ρ fr F) {f:Nat} {a:List TV1} {lent:List Nat} {vs:List Value} {r:SR}
  (hvs:∀ (G':Gl) (σ:List Nat),G'.shp=G.shp->(cx G ρ w).le (cx G' (cu ρ σ) w)->(∀ i ∈ lL a,i ∈ σ)->(∀ id ∈ lent,∀ g cap len z,ρ[id]? = some (.row g cap len z)->(cx G' (cu ρ σ) w).S g)->All2 (bX (cx G' (cu ρ σ) w) (cu ρ σ)) (fi (posOf · σ) a) vs)
  (hlent:∀ id ∈ lent,∀ r,ρ[id]? = some r->r ≠ .no->(∃ t s xs,getO H id = .row t s xs))
  (h:vY O ro fr H f a lent=some r) (hob:∀ p ∈ r.ob,p) :
  (∃ fn,P.funcs[f]? = some fn/\(fn.name == "runtime.NumGoroutine")=false/\fn.body.isNone=false)/\gw P f vs.toArray w fun v w'=>ee G ro ρ w r F v w':=by
 unfold vY at h
 generalize nH H a=σ at h
 simp only at h
 split at h
 ·rename_i hck
  simp only [Bool.and_eq_true] at hck
  obtain ⟨⟨⟨⟨hn,hai⟩,hcl⟩,hno⟩,hge⟩:=hck
  split at h
  ·rename_i pre rs H' kp hrs
   split at h
   ·rename_i hck2
    cases h
    simp only [Bool.and_eq_true] at hck2
    have hlenH:=Nat.le_of_ble_eq_true hck2.1
    have hsh:=dT.1 hck2.2
    have hai:=fH.1 hai
    have hno:=iU.1 hno
    have hge:=oy.1 hge
    have hnd:=fO.1 hn
    have hclo:=eY.1 hcl
    let lt:Nat->Prop:=fun b=>∃ id ∈ lent,∃ rr,ρ[id]? = some rr/\rr.g? = some b
    let Z':Nat->Prop:=fun b=>G.Z b\/(live ρ b/\¬ live (cu ρ σ) b/\¬ lt b)
    have hsub:∀ (b i:Nat) (r:RE),ρ[i]? = some r->r.g? = some b->live (cu ρ σ) b->i ∈ σ:=by
     rintro b i r h1 h2 ⟨j,r2,h3,h4⟩
     have e:=dx h3 (by rintro rfl; cases h4)
     have e2:=hR.inj _ _ _ _ b h1 e h2 h4
     have hj:j<σ.length:=by simpa [cu] using (List.getElem?_eq_some_iff.1 h3).1
     have a1:σ.getD j 0=σ[j]:=by rw [List.getD_eq_getElem?_getD,List.getElem?_eq_getElem hj]; rfl
     rw [e2,a1]; exact List.getElem_mem _
    have hltσ:∀ b,lt b->¬ live (cu ρ σ) b:=by
     rintro b ⟨id,hid,rr,h1,h2⟩ hl
     exact hno id hid (hsub b id rr h1 h2 hl)
    obtain ⟨hR',hle⟩:=hR.sub (σ:=σ) (Z':=Z') hn hcl (fun b hb=>hb.elim (hR.z b) fun ⟨⟨i,r,h1,h2⟩,_⟩=>(hR.bnd i r b h1 h2).2.1) (fun b h1 h2 hz=>hz.elim h1 fun h3=>h2 h3.1)
     (fun b h1 hz=>hz.elim (fun h2=>by obtain ⟨i,r,h3,h4⟩:=fp h1; exact (hR.bnd i r b h3 h4).2.2 h2) fun h2=>h2.2.1 h1)
    obtain ⟨hfn,hrun⟩:=hO _ _ _ _ hrs hob
    refine ⟨hfn,?_⟩
    have hargs:=hvs ⟨G.shp,G.B0,Z'⟩ σ rfl hle hai fun id hid g cap len z h1=>by
     have hl:lt g:=⟨id,hid,_,h1,rfl⟩
     have hb:=hR.bnd _ _ g h1 rfl
     exact ⟨hb.2.1,hltσ g hl,fun hz=>hz.elim hb.2.2 fun h2=>h2.2.2 hl⟩
    refine (hrun ⟨G.shp,G.B0,Z'⟩ _ w vs rfl hR' hargs).mono fun v w' ⟨us,hv,ρ2,hR2,hext2,hbx2,hrs',_⟩=>?_
    have hl2:H'.length=ρ2.length:=hR2.obj.length
    have hHρ:H.length=ρ.length:=hR.obj.length
    have hτlt:∀ {j:Nat},j<σ.length->dU H σ j=σ.getD j 0:=fun {j} hj=>by
     unfold dU
     have:Nat.ble σ.length j=false:=by rw [<- Bool.not_eq_true,Nat.ble_eq]; omega
     rw [this]; rfl
    have hτge:∀ {j:Nat},σ.length<=j->dU H σ j=H.length+(j - σ.length):=fun {j} hj=>by
     unfold dU
     have:Nat.ble σ.length j=true:=by rw [Nat.ble_eq]; exact hj
     rw [this]; rfl
    have hσlt:∀ i ∈ σ,i<ρ.length:=fun i hi=>by rw [<- hHρ]; exact (hclo i hi).1
    have hτ:∀ (j:Nat) (r:RE),ρ2[j]? = some r->(dW ρ σ ρ2)[dU H σ j]? = some r:=fun j r hj=>by
     by_cases hjn:j<σ.length
     ·rw [hτlt hjn]
      have a1:σ.getD j 0=σ[j]:=by rw [List.getD_eq_getElem?_getD,List.getElem?_eq_getElem hjn]; rfl
      rw [a1,fW (hσlt _ (List.getElem_mem hjn)),if_pos (List.getElem_mem hjn),uQ hnd hjn,getD_some hj]
     ·rw [hτge (by omega),qP (by omega),hHρ,<- hj]
      congr 1; omega
    -- where what stands at a place comes from
    have hmix:∀ (i:Nat) (r:RE) (g:Nat),(dW ρ σ ρ2)[i]? = some r->r.g? = some g->(i<ρ.length/\i ∉ σ/\ρ[i]? = some r)\/∃ j,ρ2[j]? = some r/\dU H σ j=i:=fun i r g h1 h2=>by
     by_cases hi:i<ρ.length
     ·rw [fW hi] at h1
      by_cases hm:i ∈ σ
      ·rw [if_pos hm] at h1
       cases h1
       have hp:=gk hm
       obtain ⟨hpl,hpe⟩:=List.getElem?_eq_some_iff.1 hp
       refine .inr ⟨posOf i σ,?_,?_⟩
       ·cases hq:ρ2[posOf i σ]? with
        | none=>rw [List.getD_eq_getElem?_getD,hq] at h2; cases h2
        | some r'=>rw [getD_some hq]
       ·rw [hτlt hpl,List.getD_eq_getElem?_getD,hp]; rfl
      ·rw [if_neg hm] at h1
       cases h1
       have:ρ[i]? = some ρ[i]:=List.getElem?_eq_getElem hi
       exact .inl ⟨hi,hm,by rw [getD_some this]; exact this⟩
     ·rw [qP (by omega)] at h1
      refine .inr ⟨σ.length+(i - ρ.length),h1,?_⟩
      rw [hτge (by omega),hHρ]; omega
    have hτinj:∀ (j j':Nat),j<ρ2.length->j' < ρ2.length->dU H σ j=dU H σ j' -> j=j':=fun j j' hj hj' he=>by
     by_cases h1:j<σ.length <;> by_cases h2:j' < σ.length
     ·rw [hτlt h1,hτlt h2] at he
      rw [List.getD_eq_getElem?_getD,List.getElem?_eq_getElem h1,List.getD_eq_getElem?_getD,List.getElem?_eq_getElem h2] at he
      exact (List.getElem_inj hnd).1 he
     ·rw [hτlt h1,hτge (by omega),List.getD_eq_getElem?_getD,List.getElem?_eq_getElem h1] at he
      have:=(hclo _ (List.getElem_mem h1)).1
      simp only [Option.getD_some] at he; omega
     ·rw [hτge (by omega),hτlt h2,List.getD_eq_getElem?_getD,List.getElem?_eq_getElem h2] at he
      have:=(hclo _ (List.getElem_mem h2)).1
      simp only [Option.getD_some] at he; omega
     ·rw [hτge (by omega),hτge (by omega)] at he; omega
    have hlive2:∀ b,live ρ2 b->live (cu ρ σ) b\/w.heap.size<=b:=fun b hl=>by
     by_cases hb:b<w.heap.size
     ·by_cases hs:live (cu ρ σ) b
      ·exact .inl hs
      ·exact absurd hl (hext2.old b hb hs).1
     ·exact .inr bt
    -- what is not the callee's stays
    have hoth:∀ (i:Nat) (r:RE) (g:Nat),i ∉ σ->ρ[i]? = some r->r.g? = some g->¬ live ρ2 g/\w'.heap[g]? = w.heap[g]?:=fun i r g hi h1 h2=>
     hext2.old g (hR.bnd i r g h1 h2).2.1 fun hl=>hi (hsub g i r h1 h2 hl)
    have hlv:∀ b,b<w.heap.size->¬ live ρ b->¬ live (dW ρ σ ρ2) b:=fun b hb hl ⟨i,r,h1,h2⟩=>by
     rcases hmix i r b h1 h2 with ⟨_,_,h3⟩ | ⟨j,h3,_⟩
     ·exact hl ⟨i,r,h3,h2⟩
     ·rcases hlive2 b ⟨j,r,h3,h2⟩ with h4 | h4
      ·exact hl (fp h4)
      ·omega
    have hext:Ext ρ w (dW ρ σ ρ2) w':=⟨hext2.os,hext2.tape,hext2.output,hext2.size,fun b hb hl=>⟨hlv b hb hl,(hext2.old b hb fun h=>hl (fp h)).2⟩⟩
    have hle1:=hext.le hR.lo
    have hstp:Stp ro ρ w (dW ρ σ ρ2) w':=by
     refine ⟨hext,fun i r hi hr=>?_,fun i r hi hr=>?_,fun i g hi=>?_⟩
     ·have him:i ∉ σ:=fun hm=>by have:=(hge i hm).2; rw [hi] at this; cases this
      rw [fW (List.getElem?_eq_some_iff.1 hr).1,if_neg him,getD_some hr]
     ·have him:i ∉ σ:=fun hm=>by have:=(hge i hm).1; rw [hi] at this; cases this
      have hil:=(List.getElem?_eq_some_iff.1 hr).1
      refine ⟨?_,fun g hg=>(hoth i r g him hr hg).2⟩
      rw [fW hil,if_neg him,getD_some hr]
     ·have hil:=(List.getElem?_eq_some_iff.1 hi).1
      rw [fW hil]
      by_cases hm:i ∈ σ
      ·rw [if_pos hm]
       have:=hbx2 (posOf i σ) g (eH hm hi)
       rw [getD_some this]
      ·rw [if_neg hm,getD_some hi]
    -- the frame's values and the others' objects
    have hag:∀ (i:Nat) (r:RE),(i ∉ σ\/∃ g,r = .blk g)->ρ[i]? = some r->(dW ρ σ ρ2)[i]? = some r:=fun i r hh hr=>by
     rcases hh with hh | ⟨g,rfl⟩
     ·rw [fW (List.getElem?_eq_some_iff.1 hr).1,if_neg hh,getD_some hr]
     ·exact hstp.bx i g hr
    have hcap:∀ q v,cR ρ q v->cR (dW ρ σ ρ2) q v:=fun q v ⟨g,h1,h2⟩=>⟨g,hag _ _ (.inr ⟨g,rfl⟩) h1,h2⟩
    have hrow:∀ (i:Nat) (r:RE),ρ[i]? = some r->(r = .emp\/∃ g cap len z,r = .row g cap len z)->bM i (rowsOf H σ)=false->i ∉ σ:=fun i r h1 h2 h3 hm=>by
     have hlt:=(hclo i hm).1
     obtain ⟨r',hr',hor⟩:=hR.at_ (List.getElem?_eq_getElem hlt)
     rw [h1] at hr'; cases hr'
     have hO:getO H i=H[i]:=by unfold getO; rw [List.getD_eq_getElem?_getD,List.getElem?_eq_getElem hlt]; rfl
     cases ho:H[i] with
     | gone=>rw [ho] at hor; rcases h2 with rfl | ⟨_,_,_,_,rfl⟩ <;> cases hor
     | box t cs=>rw [ho] at hor; obtain ⟨g,_,e,_⟩:=hor; subst e; rcases h2 with h2 | ⟨_,_,_,_,h2⟩ <;> cases h2
     | mapo s f=>rw [ho] at hor; obtain ⟨g,e,_⟩:=hor; subst e; rcases h2 with h2 | ⟨_,_,_,_,h2⟩ <;> cases h2
     | loc=>
      have:i ∈ rowsOf H σ:=eD.2 ⟨hm,.inr (by rw [hO,ho])⟩
      rw [bw.2 this] at h3; cases h3
     | mapf l=>rw [ho] at hor; obtain ⟨g,e,_⟩:=hor; subst e; rcases h2 with h2 | ⟨_,_,_,_,h2⟩ <;> cases h2
     | arr t s n xs=>rw [ho] at hor; obtain ⟨g,_,e,_⟩:=hor; subst e; rcases h2 with h2 | ⟨_,_,_,_,h2⟩ <;> cases h2
     | row t s xs=>
      have:i ∈ rowsOf H σ:=eD.2 ⟨hm,.inl ⟨t,s,xs,by rw [hO,ho]⟩⟩
      rw [bw.2 this] at h3; cases h3
    have hrd:∀ a v,Rd (cx G ρ w) ρ a v->Rd (cx G (dW ρ σ ρ2) w') (dW ρ σ ρ2) (a.bN (rowsOf H σ)) v:=by
     intro a v h
     cases a with
     | own j=>
      simp only [AV.bN]
      cases hb:bM j (rowsOf H σ)
      ·rcases h with ⟨g,cap,len,z,h,e⟩ | ⟨h,e⟩
       ·exact .inl ⟨g,cap,len,z,hag _ _ (.inl (hrow j _ h (.inr ⟨_,_,_,_,rfl⟩) hb)) h,e⟩
       ·exact .inr ⟨hag _ _ (.inl (hrow j _ h (.inl rfl) hb)) h,e⟩
      ·exact Rd.one h
     | sub j o k=>
      simp only [AV.bN]
      cases hb:bM j (rowsOf H σ)
      ·rcases h with ⟨g,cap,len,z,h,e⟩ | ⟨h,e⟩
       ·exact .inl ⟨g,cap,len,z,hag _ _ (.inl (hrow j _ h (.inr ⟨_,_,_,_,rfl⟩) hb)) h,e⟩
       ·exact .inr ⟨hag _ _ (.inl (hrow j _ h (.inl rfl) hb)) h,e⟩
      ·exact Rd.one h
     | elp j k o=>
      simp only [AV.bN]
      cases hb:bM j (rowsOf H σ)
      ·obtain ⟨g,cap,len,z,h,e⟩:=h
       exact ⟨g,cap,len,z,hag _ _ (.inl (hrow j _ h (.inr ⟨_,_,_,_,rfl⟩) hb)) h,e⟩
      ·exact Rd.one h
     | ptr j o=>exact hcap _ _ h
     | mq j=>
      obtain ⟨g,h1,e⟩:=h
      exact ⟨g,hag _ _ (.inr ⟨g,rfl⟩) h1,e⟩
     | fn f b cs=>
      obtain ⟨bs,us,h1,h2,e⟩:=h
      exact ⟨bs,us,h1.imp fun _ _ h=>hcap _ _ h,h2.imp fun _ _ h=>hcap _ _ h,e⟩
     | fe s' x o=>
      obtain ⟨A,cells,h1,h2,h3,e⟩:=h
      exact ⟨A,cells,(hle1.S _ h1).1,h2.keep (hle1.S _ h1).2,h3.carry hle1,e⟩
     | np=>exact h
     | nf=>exact h
     | yl l=>exact h
     | xx k cs=>
      obtain ⟨us,h1,h2⟩:=h
      exact ⟨us,h1.imp fun _ _ h=>hcap _ _ h,h2.le hle1⟩
     | dead=>exact h
     | int n=>exact Pd.carry h hle1
     | u8 b=>exact Pd.carry h hle1
     | u64 n=>exact Pd.carry h hle1
     | bool e=>exact Pd.carry h hle1
     | str s=>exact Pd.carry h hle1
     | em b=>exact Pd.carry h hle1
     | li nw xs=>exact Pd.carry h hle1
     | fz s xs=>exact Pd.carry h hle1
    -- the callee's values,taken over
    have hS:∀ b,(cx ⟨G.shp,G.B0,Z'⟩ ρ2 w').S b->(cx G (dW ρ σ ρ2) w').S b\/(¬ b<G.B0/\∃ sb ∈ dA H lent,∃ cur t fr,w'.heap[b]? = some (.cells cur t fr)/\G.shp t=some sb):=by
     rintro b ⟨h1,h2,h3⟩
     by_cases hl:live (dW ρ σ ρ2) b
     ·right
      obtain ⟨i,r,h4,h5⟩:=hl
      rcases hmix i r b h4 h5 with ⟨_,him,h6⟩ | ⟨j,h6,_⟩
      ·have hnl:¬ live (cu ρ σ) b:=fun hh=>him (hsub b i r h6 h5 hh)
       have hlt:lt b:=by
        by_cases hx:lt b
        ·exact hx
        ·exact absurd (.inr ⟨⟨i,r,h6,h5⟩,hnl,hx⟩) h3
       obtain ⟨id,hid,rr,h7,h8⟩:=hlt
       have hb:=hR.bnd _ _ b h7 h8
       refine ⟨by omega,?_⟩
       obtain ⟨t,s,xs,hrw⟩:=hlent id hid rr h7 (by rintro rfl; cases h8)
       refine ⟨s,jY hrw hid,?_⟩
       have hfc:=df hR hrw
       rcases bJ hR hrw with ⟨h9,_⟩ | ⟨g,cap,cells,sp,h9,h10,_⟩
       ·rw [h7] at h9; cases h9; cases h8
       ·rw [h7] at h9; cases h9; cases h8
        have hids:id ∉ σ:=hno id hid
        exact ⟨_,t,(0,0),(hoth id _ _ hids h7 rfl).2.trans h10,hfc.1⟩
      ·exact absurd ⟨j,r,h6,h5⟩ h2
     ·left; exact ⟨h1,hl,fun hz=>h3 (.inl hz)⟩
    have hpd:∀ {b:AV} {u:Value},Pd (cx ⟨G.shp,G.B0,Z'⟩ ρ2 w') b u->(∀ sb ∈ dA H lent,DA 5 sb b=true)->Pd (cx G (dW ρ σ ρ2) w') b u:=fun hb hn=>Pd.zD (c:=cx ⟨G.shp,G.B0,Z'⟩ ρ2 w') (c':=cx G (dW ρ σ ρ2) w') (dA H lent) rfl rfl rfl hS hb 5 hn
    have htake:∀ (a:AV) (u:Value),(∀ b ∈ dA H lent,a.no b=true)->Rd (cx ⟨G.shp,G.B0,Z'⟩ ρ2 w') ρ2 a u->Rd (cx G (dW ρ σ ρ2) w') (dW ρ σ ρ2) (a.ir (dU H σ)) u:=fun a u hno5 hu=>by
     refine Rd.ir (fun _ hp=>hpd hp fun sb hsb=>zw (hno5 sb hsb)) (fun s x o e=>?_) (fun k cs us e h=>h.Oi (c:=cx ⟨G.shp,G.B0,Z'⟩ ρ2 w') (c':=cx G (dW ρ σ ρ2) w') rfl rfl rfl hS fun sb hsb=>e ▸ hno5 sb hsb) (fun i hi r hr _=>hτ i r hr) hu
     subst e
     have hnil:dA H lent=[]:=by
      cases hq:dA H lent with
      | nil=>rfl
      | cons b l=>have:=hno5 b (by rw [hq]; simp); simp [AV.no] at this
     rw [hnil] at hS
     have hS':(cx ⟨G.shp,G.B0,Z'⟩ ρ2 w').le (cx G (dW ρ σ ρ2) w'):=⟨rfl,rfl,fun b hb=>⟨(hS b hb).resolve_right fun ⟨_,sb,h,_⟩=>by simp at h,rfl⟩,fun _ _ _=>rfl⟩
     obtain ⟨A,cells,k1,k2,k3,e⟩:=hu
     exact ⟨A,cells,(hS'.S _ k1).1,k2,k3.carry hS',e⟩
    have hobj:∀ (j:Nat) (o:AO) (r:RE),H'[j]? = some o->ρ2[j]? = some r->OR (cx G (dW ρ σ ρ2) w') (dW ρ σ ρ2) (o.ir (dU H σ)) r:=fun j o r ho hr=>by
     obtain ⟨r',hr',hor⟩:=hR2.at_ ho
     rw [hr] at hr'; cases hr'
     have hmem:o ∈ H':=List.mem_of_getElem? ho
     have hnoO:∀ b ∈ dA H lent,nu b H' = true:=fun b hb=>by have:=hsh b hb; simp only [Bool.and_eq_true] at this; exact this.2
     cases o with
     | gone=>exact hor
     | mapo s f=>
      obtain ⟨g,rfl,a,n,k1,k2,k3⟩:=hor
      refine ⟨g,rfl,a,n,k1,k2,fun k=>?_⟩
      have k4:=k3 k
      cases hg:getM k a.toList <;> cases hf:f k <;> rw [hg,hf] at k4
      ·trivial
      ·exact k4
      ·exact k4
      ·rename_i v x
       obtain ⟨us,k5,k6⟩:=k4
       refine ⟨us,Pds.of (cd k5.length fun i a u ha hu=>?_),k6⟩
       obtain ⟨u',hu',hau⟩:=db k5.all i a ha
       rw [hu] at hu'; cases hu'
       refine hpd hau fun sb hsb=>?_
       have hns:=dT.1 (DW (hnoO sb hsb) hmem)
       cases a with
       | fz s' ys=>exact hns s' (fS (List.mem_of_getElem? ha))
       | li nw ys=>exact hns .int (fQ (List.mem_of_getElem? ha))
       | _=>rfl
     | box t cs=>
      obtain ⟨g,vs',rfl,h1,h2⟩:=hor
      exact ⟨g,vs',rfl,h1,jQ (fun a ha u hu=>htake a u (fun b hb=>qn.1 (EY (hnoO b hb) hmem) a ha) hu) h2⟩
     | loc=>trivial
     | mapf l=>
      obtain ⟨g,rfl,h⟩:=hor
      exact ⟨g,rfl,h.map (g0:=fun a=>a.ir (dU H σ)) (lW l) (fun q hq u hu=>htake q.2 u (fun b hb=>wU (AR (hnoO b hb) hmem) q hq) hu) rfl⟩
     | arr t s n xs=>
      obtain ⟨g,vs',rfl,h4,h5,h6⟩:=hor
      refine ⟨g,vs',rfl,h4,?_,h6⟩
      refine Pds.of (cd h5.length fun i a u ha hu=>?_)
      obtain ⟨u',hu',hau⟩:=db h5.all i a ha
      rw [hu] at hu'; cases hu'
      refine hpd hau fun sb hsb=>?_
      have hns:=dT.1 (EX (hnoO sb hsb) hmem)
      have hmem2:=List.mem_of_getElem? ha
      rw [List.mem_flatMap] at hmem2
      obtain ⟨y,_,hy⟩:=hmem2
      cases a with
      | fz s' ys=>exact hns s' (fS hy)
      | li nw ys=>exact hns .int (fQ hy)
      | _=>rfl
     | row t s xs=>
      obtain ⟨h1,h2,h3⟩:=hor
      refine ⟨h1,h2,h3.imp id fun ⟨g,cap,cells,sp,e,h4,h5,h6⟩=>⟨g,cap,cells,sp,e,h4,?_,h6⟩⟩
      refine Pds.of (cd h5.length fun i a u ha hu=>?_)
      obtain ⟨u',hu',hau⟩:=db h5.all i a ha
      rw [hu] at hu'; cases hu'
      refine hpd hau fun sb hsb=>?_
      have hns:=dT.1 (DE (hnoO sb hsb) hmem)
      have hmem2:=List.mem_of_getElem? ha
      rw [List.mem_flatMap] at hmem2
      obtain ⟨y,_,hy⟩:=hmem2
      cases a with
      | fz s' ys=>exact hns s' (fS hy)
      | li nw ys=>exact hns .int (fQ hy)
      | _=>rfl
    refine ⟨dW ρ σ ρ2,hstp,⟨?_,?_,?_,fun b hb=>Nat.lt_of_lt_of_le (hR.z b hb) hext.size,Nat.le_trans hR.b0 hext.size,hR.tb.carry (hext.le hR.lo)⟩,mZ hrd hf,?_,Fj.jd hrs'⟩
    ·-- the objects
     refine cd ?_ fun i o r ho hr=>?_
     ·simp only [List.length_append,eB,c_,gI,List.length_drop,dW,List.length_map,List.length_range]
      omega
     ·by_cases hi:i<H.length
      ·rw [List.getElem?_append_left (by rw [eB,c_]; exact hi),pd (by rw [c_]; exact hi)] at ho
       rw [fW (by omega)] at hr
       by_cases hm:i ∈ σ
       ·rw [if_pos hm] at ho hr
        cases ho; cases hr
        obtain ⟨hpl,_⟩:=List.getElem?_eq_some_iff.1 (gk hm)
        have hp2:posOf i σ<H'.length:=by omega
        have e1:H'[posOf i σ]? = some H'[posOf i σ]:=List.getElem?_eq_getElem hp2
        have e2:ρ2[posOf i σ]? = some (ρ2[posOf i σ]'(by omega)):=List.getElem?_eq_getElem (by omega)
        have e3:H'.getD (posOf i σ) .gone=H'[posOf i σ]:=by rw [List.getD_eq_getElem?_getD,e1]; rfl
        rw [e3,getD_some e2]
        exact hobj _ _ _ e1 e2
       ·rw [if_neg hm] at ho hr
        cases hr
        rw [ig,Option.map_eq_some_iff] at ho
        obtain ⟨o',ho',rfl⟩:=ho
        obtain ⟨r',hr',hor⟩:=hR.at_ ho'
        rw [getD_some hr']
        exact hor.map hle1 hrd fun g hg=>(hoth i r' g hm hr' hg).2
      ·rw [List.getElem?_append_right (by rw [eB,c_]; omega),eB,c_] at ho
       rw [qP (by omega)] at hr
       have hil:σ.length+(i - H.length)<H'.length:=by
        have:=(List.getElem?_eq_some_iff.1 ho).1
        simp only [gI,List.length_drop] at this; omega
       have hx:(H'.drop σ.length)[i - H.length]? = some H'[σ.length+(i - H.length)]:=by
        rw [List.getElem?_drop]; exact List.getElem?_eq_getElem hil
       rw [lQ hx] at ho
       have ho:=Option.some.inj ho
       subst ho
       refine hobj (σ.length+(i - H.length)) _ r (List.getElem?_eq_getElem hil) ?_
       rw [hHρ]; exact hr
    ·intro i i' r r' g h1 h2 h3 h4
     rcases hmix i r g h1 h3 with ⟨a1,a2,a3⟩ | ⟨j,a3,a4⟩ <;> rcases hmix i' r' g h2 h4 with ⟨b1,b2,b3⟩ | ⟨j',b3,b4⟩
     ·exact hR.inj _ _ _ _ g a3 b3 h3 h4
     ·exact absurd ⟨j',r',b3,h4⟩ (hoth i r g a2 a3 h3).1
     ·exact absurd ⟨j,r,a3,h3⟩ (hoth i' r' g b2 b3 h4).1
     ·rw [<- a4,<- b4,hR2.inj _ _ _ _ g a3 b3 h3 h4]
    ·intro i r g h1 h2
     rcases hmix i r g h1 h2 with ⟨_,_,a3⟩ | ⟨j,a3,_⟩
     ·have:=hR.bnd i r g a3 h2
      exact ⟨this.1,Nat.lt_of_lt_of_le this.2.1 hext.size,this.2.2⟩
     ·have:=hR2.bnd j r g a3 h2
      exact ⟨this.1,this.2.1,fun hz=>this.2.2 (.inl hz)⟩
    ·-- the results
     have hback:All2 (bX (cx G (dW ρ σ ρ2) w') (dW ρ σ ρ2)) (fi (dU H σ) rs) us:=by
      refine gZ (fun t ht a ha u hu=>htake a u (fun b hb=>?_) hu) hrs'
      have:=hsh b hb
      simp only [Bool.and_eq_true] at this
      exact qY.1 this.1 t ht a ha
     subst hv
     show Rt _ _ (yf (fi (dU H σ) rs)) (uZ us)
     generalize fi (dU H σ) rs=rs' at hback ⊢
     cases hback with
     | nil=>exact ⟨[],rfl,.nil⟩
     | @cons t u l us h1 h2=>
      cases h2 with
      | nil=>exact h1
      | cons h3 h4=>exact ⟨_,rfl,.cons h1 (.cons h3 h4)⟩
   ·cases h
  ·cases h
 ·cases h
end
end Go.Proofs.Ytjmbgkmkinmlkaa
