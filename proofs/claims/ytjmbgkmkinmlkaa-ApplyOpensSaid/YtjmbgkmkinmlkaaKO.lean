/- The law: for every input it returns true, and each argument reads behind the call as it read before; and what leads there. Conditions: each lemma's own. -/
import Derived.ProofKit
import Derived.SizedLaws
import Derived.Test.YtjmbgkmkinmlkaaChecked
import Derived.Test.YtjmbgkmkinmlkaaRows
import Derived.Test.YtjmbgkmkinmlkaaKOM5
set_option linter.unusedVariables false
set_option linter.unusedSimpArgs false
namespace Go.Proofs.Ytjmbgkmkinmlkaa
open Go.RowKit
def AV.up:AV->AV
 | .xx (.ff s xs) []=>.fz s xs
 | a=>a
def TV1.up:TV1->TV1
 | .c a=>.c a.up
 | .agg l=>.agg (l.map AV.up)
def AV.flat:AV->Bool
 | .int _=>true
 | .u8 _=>true
 | .u64 _=>true
 | .bool _=>true
 | .str _=>true
 | .em _=>true
 | _=>false
def TV1.flat:TV1->Bool
 | .c a=>a.flat
 | .agg l=>l.all AV.flat
def Gl.up (G:Gl):Gl:=⟨G.shp,G.B0,fun b=>G.Z b/\G.B0<=b⟩
section
variable {G:Gl} {ρ:List RE} {H:AH} {w:World}
theorem tM:(cx G ρ w).le (cx G.up ρ w):=⟨rfl,rfl,fun _ h=>⟨⟨h.1,h.2.1,fun hz=>h.2.2 hz.1⟩,rfl⟩,fun _ _ _=>rfl⟩
theorem Ck (hR:Rep G ρ H w):(cx G ρ w).low.le (cx G.up ρ w):=
 ⟨rfl,rfl,fun b h=>⟨⟨h.2,(hR.lo b h.1).2,fun hz=>by have h1:b<G.B0:=h.1; have:=hz.2; omega⟩,rfl⟩,fun _ _ _=>rfl⟩
theorem Rep.up (hR:Rep G ρ H w):Rep G.up ρ H w:=
 ⟨hR.obj.imp fun _ _ h=>h.carry tM (je.refl _) fun _ _=>rfl,hR.inj,fun i r g h1 h2=>⟨(hR.bnd i r g h1 h2).1,(hR.bnd i r g h1 h2).2.1,fun hz=>(hR.bnd i r g h1 h2).2.2 hz.1⟩,fun b hb=>hR.z b hb.1,hR.b0,hR.tb.carry tM⟩
theorem Rd.up (hR:Rep G ρ H w) {a:AV} {v:Value} (h:Rd (cx G ρ w) ρ a v):Rd (cx G.up ρ w) ρ a.up v:=by
 have key:∀ a,a.up=a->Rd (cx G ρ w) ρ a v->Rd (cx G.up ρ w) ρ a.up v:=fun a e h=>by rw [e]; exact h.carry tM (je.refl _)
 cases a with
 | xx k cs=>
  cases k with
  | ff s xs=>
   cases cs with
   | nil=>
    obtain ⟨us,_,_,h2⟩:=h
    exact ga (h2.carry (Ck hR))
   | cons _ _=>exact key _ rfl h
  | _=>exact key _ rfl h
 | _=>exact key _ rfl h
theorem bX.up (hR:Rep G ρ H w) {a:TV1} {v:Value} (h:bX (cx G ρ w) ρ a v):bX (cx G.up ρ w) ρ a.up v:=by
 cases a with
 | c a=>exact Rd.up hR h
 | agg l=>
  obtain ⟨vs,rfl,h⟩:=h
  refine ⟨vs,rfl,?_⟩
  induction h with
  | nil=>exact .nil
  | cons h1 _ ih=>exact .cons (Rd.up hR h1) ih
theorem Mo (hR:Rep G ρ H w):∀ {args:List TV1} {vs:List Value},All2 (bX (cx G ρ w) ρ) args vs->All2 (bX (cx G.up ρ w) ρ) (args.map TV1.up) vs
 | _,_,.nil=>.nil
 | _,_,.cons h1 h2=>.cons (bX.up hR h1) (Mo hR h2)
theorem bu {c c':Cx} {ρ ρ':List RE} {a:AV} {v:Value} (hf:a.flat=true) (h:Rd c ρ a v):Rd c' ρ' a v:=by
 cases a with
 | int n=>cases (h:Pd c _ _) with | int h1=>exact (Pd.int h1:Pd c' _ _)
 | u8 n=>cases (h:Pd c _ _); exact (Pd.u8:Pd c' _ _)
 | u64 n=>cases (h:Pd c _ _) with | u64 h1=>exact (Pd.u64 h1:Pd c' _ _)
 | bool n=>cases (h:Pd c _ _); exact (Pd.bool:Pd c' _ _)
 | str n=>cases (h:Pd c _ _) with | str h1=>exact (Pd.str h1:Pd c' _ _)
 | em n=>cases (h:Pd c _ _) with | em h1=>exact (Pd.em h1:Pd c' _ _)
 | _=>cases hf
theorem jD {c c':Cx} {ρ ρ':List RE} {a:TV1} {v:Value} (hf:a.flat=true) (h:bX c ρ a v):bX c' ρ' a v:=by
 cases a with
 | c a=>exact bu hf h
 | agg l=>
  obtain ⟨vs,rfl,h⟩:=h
  refine ⟨vs,rfl,?_⟩
  have hf2:∀ a ∈ l,a.flat=true:=List.all_eq_true.1 hf
  clear hf
  induction h with
  | nil=>exact .nil
  | cons h1 _ ih=>exact .cons (bu (hf2 _ (List.mem_cons_self ..)) h1) (ih fun a ha=>hf2 a (List.mem_cons_of_mem _ ha))
theorem GG {c c':Cx} {ρ ρ':List RE}:∀ {l:List TV1} {vs:List Value},(∀ a ∈ l,a.flat=true)->All2 (bX c ρ) l vs->All2 (bX c' ρ') l vs
 | _,_,_,.nil=>.nil
 | _,_,hf,.cons h1 h2=>.cons (jD (hf _ (List.mem_cons_self ..)) h1) (GG (fun a ha=>hf a (List.mem_cons_of_mem _ ha)) h2)
end
theorem vU {c c':Cx}:∀ {xs:List Int} {cells:List Value},Pds c (xs.flatMap (cellsOf .int)) cells->Pds c' (xs.flatMap (cellsOf .int)) cells
 | [],_,h=>by cases h; exact .nil
 | x :: xs,_,h=>by
  have h:Pds c (.int x :: xs.flatMap (cellsOf .int)) _:=h
  cases h with | cons k1 k2=>?_
  cases k1 with | int k3=>?_
  exact (.cons (.int k3) (vU k2):Pds c' (.int x :: xs.flatMap (cellsOf .int)) _)
section
variable {P:Program} {shp:TypeId->Option Sh} {f:Nat} {args:List TV1} {H:AH} {r:SpecR}
theorem Sat.ff (h:Sat P shp f (args.map TV1.up) H r) (ho:r.out=none) (hr:r.rs.all TV1.flat=true):Sat P shp f args H r:=by
 refine ⟨h.1,fun G ρ w vs hG hR hvs=>(h.2 G.up ρ w vs hG hR.up (Mo hR hvs)).mono fun v w' ⟨us,hv,hq⟩=>⟨us,hv,?_⟩⟩
 rw [ho] at hq ⊢
 exact ⟨hq.1,GG (List.all_eq_true.1 hr) hq.2⟩
theorem Sat.Om {t:TypeId} {xs:List Int} (h:Sat P shp f (args.map TV1.up) [] ⟨[],[.c (.own 0)],some [.row t .int xs],true⟩):Sat P shp f args [] ⟨[],[.c (.own 0)],some [.row t .int xs],true⟩:=by
 refine ⟨h.1,fun G ρ w vs hG hR hvs=>(h.2 G.up ρ w vs hG hR.up (Mo hR hvs)).mono fun v w' ⟨us,hv,hq⟩=>⟨us,hv,?_⟩⟩
 obtain ⟨ρ',h1,h2,h3,h4,h5⟩:=hq
 have hle:=h2.le (G:=G) hR.lo
 refine ⟨ρ',⟨?_,h1.inj,fun i r g k1 k2=>⟨(h1.bnd i r g k1 k2).1,(h1.bnd i r g k1 k2).2.1,fun hz=>(h1.bnd i r g k1 k2).2.2 ⟨hz,(h1.bnd i r g k1 k2).1⟩⟩,fun b hb=>Nat.lt_of_lt_of_le (hR.z b hb) h2.size,h1.b0,hR.tb.carry hle⟩,h2,h3,?_,h5⟩
 ·cases h1.obj with | cons h6 h7=>?_
  cases h7
  refine .cons ⟨h6.1,h6.2.1,h6.2.2.imp id ?_⟩ .nil
  rintro ⟨g,cap,cells,sp,e1,e2,e3,e4,e5,e6⟩
  refine ⟨g,cap,cells,sp,e1,e2,?_,e4,e5,e6⟩
  exact vU e3
 ·cases h4 with | cons h6 h7=>?_
  cases h7
  exact .cons h6 .nil
theorem JO {G:Gl} {ρ:List RE} {w:World} (hR:Rep G ρ H w) {b:Bool} {xs:List Int} {v:Value} (h:Pd (cx G ρ w) (.li b xs) v):Pd (cx G.up ρ w) (.fz .int xs) v:=by
 have ints:∀ {xs:List Int},(∀ n ∈ xs,I64 n)->Pds (cx G.up ρ w) (xs.flatMap (cellsOf .int)) (xs.map (.int .i64)):=by
  intro xs
  induction xs with
  | nil=>intro _; exact .nil
  | cons x xs ih=>intro h; exact (.cons (.int (h x (by simp))) (ih fun n hn=>h n (by simp [hn])):Pds _ (.int x :: xs.flatMap (cellsOf .int)) (.int .i64 x :: xs.map (.int .i64)))
 cases h with
 | li h1 h2 h3 h4 h5=>
  refine .fz (s:=.int) h1 h2 h3 (ints h4) (h5.imp id ?_)
  rintro ⟨A,hA,hn,ho,hc⟩
  refine ⟨A,hA,?_,hc⟩
  cases b with
  | true=>
   obtain ⟨k1,_,cur,t,fr,e1,e2,e3⟩:=hn rfl
   exact ⟨(tM.S _ k1).1,.inr ⟨cur,t,fr,e1,e2,fun _=>e3⟩⟩
  | false=>
   rcases ho rfl with k | k
   ·exact ⟨((Ck hR).S _ k).1,.inl k.1⟩
   ·exact tM.at_ k
theorem Sat.li {t:TypeId} {b:Bool} {xs:List Int} (h:Sat P shp f [.c (.fz .int xs)] [] ⟨[],[.c (.own 0)],some [.row t .int xs],true⟩):Sat P shp f [.c (.li b xs)] [] ⟨[],[.c (.li true xs)],none,false⟩:=by
 refine ⟨h.1,fun G ρ w vs hG hR hvs=>?_⟩
 cases hvs with | cons h1 hvs=>?_
 cases hvs
 have h1:Pd (cx G ρ w) (.li b xs) _:=h1
 refine (h.2 G.up ρ w _ hG hR.up (.cons (show Rd _ ρ (.fz .int xs) _ from JO hR h1) .nil)).mono fun v w' ⟨us,hv,hq⟩=>⟨us,hv,?_⟩
 obtain ⟨ρ',k1,k2,_,k4,k5⟩:=hq
 have hk:=(k5 rfl).1
 refine ⟨hk,?_⟩
 cases k4 with | cons k6 k7=>?_
 cases k7
 refine .cons ?_ .nil
 have k6:Rd (cx G.up ρ' w') ρ' (.own 0) _:=k6
 have hρ:ρ=[]:=List.eq_nil_of_length_eq_zero hR.obj.length.symm
 have hlen:xs.length*8<=140737488355328:=by
  cases h1 with | li _ _ h3 _ _=>exact h3
 have h64:∀ n ∈ xs,I64 n:=by
  cases h1 with | li _ _ _ h4 _=>exact h4
 obtain ⟨r,hr,hor⟩:=k1.at_ (show ([.row t .int xs]:AH)[0]? = some _ from rfl)
 obtain ⟨m1,m2,m3⟩:=hor
 show Pd (cx G ρ w') (.li true xs) _
 rcases m3 with ⟨rfl,hx⟩ | ⟨g,cap,cells,sp,rfl,m4,m5,m6,m7,m8⟩
 ·rcases k6 with ⟨_,_,_,_,e,_⟩ | ⟨_,a,rfl⟩
  ·rw [hr] at e; cases e
  ·subst hx
   exact Pd.li (nw:=true) (xs:=[]) (a:=a) (k:=0) (Nat.le_refl _) (Nat.zero_le _) (by simp) (by simp) (.inl rfl)
 ·rcases k6 with ⟨_,_,_,_,e,rfl⟩ | ⟨e,_⟩
  ·rw [hr] at e; cases e
   have hb:=k1.bnd 0 _ g hr rfl
   have hcs:cells=xs.map (.int .i64):=by
    have:∀ {xs:List Int} {cells:List Value},Pds (cx G.up ρ' w') (xs.flatMap (cellsOf .int)) cells->cells=xs.map (.int .i64):=by
     intro xs
     induction xs with
     | nil=>intro cells h; cases h; rfl
     | cons x xs ih=>
      intro cells h
      have h:Pds (cx G.up ρ' w') (.int x :: xs.flatMap (cellsOf .int)) cells:=h
      cases h with | cons k1 k2=>?_
      cases k1
      rw [ih k2]; rfl
    exact this m5
   refine Pd.li m7 m8 hlen h64 (.inr ⟨⟨g,0,none⟩,rfl,fun _=>⟨⟨hb.2.1,?_,fun hz=>hb.2.2 ⟨hz,hb.1⟩⟩,hb.1,_,_,_,m4,by rw [<- hG] at *; exact m1,rfl⟩,(fun e=>nomatch e),?_⟩)
   ·subst hρ
    rintro ⟨i,r,e1,_⟩
    simp at e1
   ·rw [<- hcs]
    intro j u hu
    exact bU m4 j u hu
  ·rw [hr] at e; cases e
end
def Jw:Sh->Sh
 | .nm .snap=>.nm .snapE
 | s=>s
def Mb:TK->TK
 | .sl e (some s)=>.sl e (some (Jw s))
 | k=>k
def lM:List (Nat × TI):=aI.map fun p=>(p.1,{ p.2 with k:=Mb p.2.k })
theorem zr:bn Try.prog (ao lM) lM:=BJ (by kernel_rfl)
theorem Dh {O:cO} (hO:bk Try.prog (ao lM) O) {f:Nat} {fn:Func} {args rs:List TV1} {H H':AH} {pre:List Prop} (L:List (Nat × LI)) (hfn:Try.prog.funcs[f]? = some fn) (hng:(fn.name == "runtime.NumGoroutine")=false)
  (hc:(match fn.body with
   | some c=>cJ fn.ntmps c && Nat.ble args.length fn.ntmps
   | none=>false)=true) (h:lF lM O L fn args H rs H'):Sat Try.prog (ao lM) f args H ⟨pre,rs,some H',true⟩:=Sat.uz zr hO (gC zr hO eZ) hfn hng hc h
theorem wD:∀ {T:List (Nat × TI)} {t:TypeId},ao (T.map fun p=>(p.1,{ p.2 with k:=Mb p.2.k })) t=(ao T t).map Jw
 | [],_=>rfl
 | (i,⟨k,n,z⟩) :: r,t=>by
  have ih:=wD (T:=r) (t:=t)
  cases k with
  | sl e o=>
   cases o with
   | none=>exact ih
   | some s=>
    show (bif Nat.beq e t then some (Jw s) else ao (r.map _) t)=(bif Nat.beq e t then some s else ao r t).map Jw
    cases Nat.beq e t
    ·exact ih
    ·rfl
  | _=>exact ih
theorem Fc {t:TypeId}:ao lM t=(ao aI t).map Jw:=wD
theorem Pd.pH {c c':Cx} (hw:c'.w=c.w) (hB:c'.B0=c.B0) (hS:∀ b,b<c.B0->b<c.w.heap.size->c'.S b) {a:AV} {v:Value} (h:Pd c.low a v):Pd c' a v:=by
 refine @Pd.rec c.low (fun a v _=>Pd c' a v) (fun l vs _=>Pds c' l vs) ?_ ?_ ?_ ?_ ?_ ?_ ?_ ?_ ?_ ?_ a v h
 ·intro n h1; exact .int h1
 ·intro b; exact .u8
 ·intro n h1; exact .u64 h1
 ·intro e; exact .bool
 ·intro s h1; exact .str h1
 ·intro b a h1; exact .em h1
 ·intro s xs a k cells h1 h2 h3 _ h5 ih
  refine .fz h1 h2 h3 ih (h5.imp id ?_)
  rintro ⟨A,hA,hat,hc⟩
  exact ⟨A,hA,⟨hS _ hat.1.1 hat.1.2,.inl (by rw [hB]; exact hat.1.1)⟩,by rw [hw]; exact hc⟩
 ·intro nw xs a k h1 h2 h3 h4 h5
  refine .li h1 h2 h3 h4 (h5.imp id ?_)
  rintro ⟨A,hA,hn,ho,hc⟩
  refine ⟨A,hA,fun e=>?_,fun e=>.inl ?_,by rw [hw]; exact hc⟩
  ·obtain ⟨k1,k2,_⟩:=hn e
   have k1:A.block<c.B0:=k1.1
   have k2:c.B0<=A.block:=k2
   omega
  ·rw [hB,hw]
   rcases ho e with k | k
   ·exact k
   ·exact k.1
 ·exact .nil
 ·intro a v r vs _ _ h1 h2; exact .cons h1 h2
def lh (x:Snap):SnapE:=⟨x.id,x.set,(false,x.chunks),x.held,x.tag⟩
def n_ (x:Snap):SnapE:=⟨x.id,x.set,(true,x.chunks),x.held,x.tag⟩
def Gl.to (G:Gl) (shp:TypeId->Option Sh):Gl:=⟨shp,G.B0,fun b=>G.Z b/\G.B0<=b⟩
theorem lU {G:Gl} {w:World} (hz:∀ b,G.Z b->b<w.heap.size) (hb:G.B0<=w.heap.size) (ht:TabsOK (cx G [] w)):Rep G [] [] w:=
 ⟨.nil,fun _ _ _ _ _ h=>by simp at h,fun _ _ _ h=>by simp at h,hz,hb,ht⟩
theorem dg {c c':Cx} {a:AV} {v:Value} (hf:a.flat=true) (h:Pd c a v):Pd c' a v:=by
 cases h with
 | int h1=>exact .int h1
 | u8=>exact .u8
 | u64 h1=>exact .u64 h1
 | bool=>exact .bool
 | str h1=>exact .str h1
 | em h1=>exact .em h1
 | fz=>cases hf
 | li=>cases hf
theorem gu {c c':Cx}:∀ {l:List AV} {vs:List Value},(∀ a ∈ l,a.flat=true)->Pds c l vs->Pds c' l vs
 | [],_,_,h=>by cases h; exact .nil
 | a :: l,_,hf,h=>by cases h with | cons h1 h2=>exact .cons (dg (hf a (by simp)) h1) (gu (fun x hx=>hf x (by simp [hx])) h2)
theorem Sat.NM {P:Program} {f:Nat} {t:TypeId} {s:Sh} {xs:List (den s)} (hfl:∀ x:den s,∀ a ∈ cellsOf s x,a.flat=true) (ht:ao lM t=some s) (iA:∀ c,TabsOK c)
  (h:Sat P (ao aI) f [.c (.fz s xs)] [] ⟨[],[.c (.own 0)],some [.row t s xs],true⟩):Sat P (ao lM) f [.c (.xx (.ff s xs) [])] [] ⟨[],[.c (.own 0)],some [.row t s xs],true⟩:=by
 refine ⟨h.1,fun G ρ w vs hG hR hvs=>?_⟩
 cases hvs with | cons h1 hvs=>?_
 cases hvs
 have hρ:ρ=[]:=List.eq_nil_of_length_eq_zero hR.obj.length.symm
 subst hρ
 obtain ⟨_,_,_,h2⟩:=h1
 have hR2:Rep (G.to (ao aI)) [] [] w:=lU (fun b hb=>hR.z b hb.1) hR.b0 (iA _)
 have ha:Pd (cx (G.to (ao aI)) [] w) (.fz s xs) _:=Pd.pH (c:=cx G [] w) (c':=cx (G.to (ao aI)) [] w) rfl rfl (fun b hb hs=>⟨hs,(hR.lo b hb).2,fun hz=>by have h1:b<G.B0:=hb; have:=hz.2; omega⟩) h2
 refine (h.2 _ [] w _ rfl hR2 (.cons (show Rd _ [] (.fz s xs) _ from ha) .nil)).mono fun v w' ⟨us,hv,hq⟩=>⟨us,hv,?_⟩
 obtain ⟨ρ',k1,k2,k3,k4,k5⟩:=hq
 refine ⟨ρ',⟨?_,k1.inj,fun i r g e1 e2=>⟨(k1.bnd i r g e1 e2).1,(k1.bnd i r g e1 e2).2.1,fun hz=>(k1.bnd i r g e1 e2).2.2 ⟨hz,(k1.bnd i r g e1 e2).1⟩⟩,fun b hb=>Nat.lt_of_lt_of_le (hR.z b hb) k2.size,k1.b0,iA _⟩,k2,k3,?_,k5⟩
 ·cases k1.obj with | cons h6 h7=>?_
  cases h7
  refine .cons ⟨by show G.shp t=_; rw [hG]; exact ht,h6.2.1,h6.2.2.imp id ?_⟩ .nil
  rintro ⟨g,cap,cells,sp,e1,e2,e3,e4,e5,e6⟩
  refine ⟨g,cap,cells,sp,e1,e2,gu (fun a ha=>?_) e3,e4,e5,e6⟩
  rw [List.mem_flatMap] at ha
  obtain ⟨x,_,hx⟩:=ha
  exact hfl x a hx
 ·cases k4 with | cons h6 h7=>?_
  cases h7
  exact .cons h6 .nil
theorem pU {c:Cx}:∀ {xs:List Int} {cells:List Value},Pds c (xs.flatMap (cellsOf .int)) cells->cells=xs.map (.int .i64)/\∀ n ∈ xs,I64 n
 | [],_,h=>by cases h; exact ⟨rfl,by simp⟩
 | x :: xs,_,h=>by
  have h:Pds c (.int x :: xs.flatMap (cellsOf .int)) _:=h
  cases h with | cons k1 k2=>?_
  cases k1 with | int k3=>?_
  obtain ⟨e,k4⟩:=pU k2
  exact ⟨by rw [e]; rfl,fun n hn=>(List.mem_cons.1 hn).elim (fun h=>h ▸ k3) (k4 n)⟩
theorem JK {G:Gl} {ρ:List RE} {w:World} {xs:List Int} {v:Value} (hG:G.shp=ao lM) (h:Pd (cx (G.to (ao aI)) ρ w) (.fz .int xs) v):Pd (cx G ρ w) (.li false xs) v:=by
 cases h with
 | fz h1 h2 h3 h4 h5=>
  obtain ⟨e,h64⟩:=pU h4
  refine .li h1 h2 h3 h64 (h5.imp id ?_)
  rintro ⟨A,hA,⟨hS,hat⟩,hc⟩
  refine ⟨A,hA,(fun e=>nomatch e),fun _=>?_,by rw [<- e]; exact hc⟩
  by_cases hb:A.block<G.B0
  ·exact .inl ⟨hb,hS.1⟩
  ·right
   refine ⟨⟨hS.1,hS.2.1,fun hz=>hS.2.2 ⟨hz,by show G.B0<=_; omega⟩⟩,.inr ?_⟩
   obtain ⟨cur,t,fr,k1,k2,k3⟩:=hat.resolve_left hb
   have k2:ao aI t=some .int:=k2
   exact ⟨cur,t,fr,k1,by show G.shp t=_; rw [hG,Fc,k2]; rfl,k3⟩
theorem sP {G:Gl} {ρ:List RE} {w:World} (hG:G.shp=ao lM):∀ {l:List Snap} {cells:List Value},Pds (cx (G.to (ao aI)) ρ w) (l.flatMap (cellsOf (.nm .snap))) cells->Pds (cx G ρ w) ((l.map lh).flatMap (cellsOf (.nm .snapE))) cells
 | [],_,h=>by cases h; exact .nil
 | x :: l,_,h=>by
  have h0:Pds (cx (G.to (ao aI)) ρ w) (.int x.id :: .int x.set :: .fz .int x.chunks :: .bool (.atom x.held) :: .str x.tag :: l.flatMap (cellsOf (.nm .snap))) _:=h
  clear h
  cases h0 with | cons k1 h1=>?_
  cases h1 with | cons k2 h2=>?_
  cases h2 with | cons k3 h3=>?_
  cases h3 with | cons k4 h4=>?_
  cases h4 with | cons k5 h=>?_
  exact (.cons (dg rfl k1) (.cons (dg rfl k2) (.cons (JK hG k3) (.cons (dg rfl k4) (.cons (dg rfl k5) (sP hG h))))):Pds (cx G ρ w) (.int x.id :: .int x.set :: .li false x.chunks :: .bool (.atom x.held) :: .str x.tag :: (l.map lh).flatMap (cellsOf (.nm .snapE))) _)
theorem Sat.Mb {P:Program} {f:Nat} {t:TypeId} {l:List Snap} (iA:∀ c,TabsOK c)
  (h:Sat P (ao aI) f [.c (.fz (.nm .snap) l)] [] ⟨[],[.c (.own 0)],some [.row t (.nm .snap) l],true⟩):Sat P (ao lM) f [.c (.xx (.ff (.nm .snap) l) [])] [] ⟨[],[.c (.own 0)],some [.row t (.nm .snapE) (l.map lh)],true⟩:=by
 refine ⟨h.1,fun G ρ w vs hG hR hvs=>?_⟩
 cases hvs with | cons h1 hvs=>?_
 cases hvs
 have hρ:ρ=[]:=List.eq_nil_of_length_eq_zero hR.obj.length.symm
 subst hρ
 obtain ⟨_,_,_,h2⟩:=h1
 have hR2:Rep (G.to (ao aI)) [] [] w:=lU (fun b hb=>hR.z b hb.1) hR.b0 (iA _)
 have ha:Pd (cx (G.to (ao aI)) [] w) (.fz (.nm .snap) l) _:=Pd.pH (c:=cx G [] w) (c':=cx (G.to (ao aI)) [] w) rfl rfl (fun b hb hs=>⟨hs,(hR.lo b hb).2,fun hz=>by have h1:b<G.B0:=hb; have:=hz.2; omega⟩) h2
 refine (h.2 _ [] w _ rfl hR2 (.cons (show Rd _ [] (.fz (.nm .snap) l) _ from ha) .nil)).mono fun v w' ⟨us,hv,hq⟩=>⟨us,hv,?_⟩
 obtain ⟨ρ',k1,k2,k3,k4,k5⟩:=hq
 refine ⟨ρ',⟨?_,k1.inj,fun i r g e1 e2=>⟨(k1.bnd i r g e1 e2).1,(k1.bnd i r g e1 e2).2.1,fun hz=>(k1.bnd i r g e1 e2).2.2 ⟨hz,(k1.bnd i r g e1 e2).1⟩⟩,fun b hb=>Nat.lt_of_lt_of_le (hR.z b hb) k2.size,k1.b0,iA _⟩,k2,k3,?_,k5⟩
 ·cases k1.obj with | cons h6 h7=>?_
  cases h7
  obtain ⟨h8,h9,h10⟩:=h6
  have h8:ao aI t=some (.nm .snap):=h8
  refine .cons ⟨by show G.shp t=_; rw [hG,Fc,h8]; rfl,by rw [List.length_map]; exact h9,?_⟩ .nil
  rcases h10 with ⟨e,hx⟩ | ⟨g,cap,cells,sp,e1,e2,e3,e4,e5,e6⟩
  ·exact .inl ⟨e,by rw [hx]; rfl⟩
  ·exact .inr ⟨g,cap,cells,sp,by rw [List.length_map]; exact e1,e2,sP hG e3,e4,by rw [List.length_map]; exact e5,e6⟩
 ·cases k4 with | cons h6 h7=>?_
  cases h7
  exact .cons h6 .nil
theorem Fp {o:Option Sh} (h:o.map Jw=some .int):o=some .int:=by
 cases o with
 | none=>cases h
 | some s=>
  cases s with
  | int=>rfl
  | nm t=>cases t <;> cases h
  | _=>cases h
theorem LO {G G2:Gl} {ρ:List RE} {w:World} (hG:G.shp=ao aI) (hG2:G2.shp=ao lM) (hz:G2.Z=G.Z) {xs:List Int} {v:Value} (h:Pd (cx G2 ρ w) (.li true xs) v):Pd (cx G ρ w) (.fz .int xs) v:=by
 cases h with
 | li h1 h2 h3 h4 h5=>
 have ints:∀ {xs:List Int},(∀ n ∈ xs,I64 n)->Pds (cx G ρ w) (xs.flatMap (cellsOf .int)) (xs.map (.int .i64)):=by
  intro xs
  induction xs with
  | nil=>intro _; exact .nil
  | cons x xs ih=>intro h; exact (.cons (.int (h x (by simp))) (ih fun n hn=>h n (by simp [hn])):Pds _ (.int x :: xs.flatMap (cellsOf .int)) (.int .i64 x :: xs.map (.int .i64)))
 refine .fz (s:=.int) h1 h2 h3 (ints h4) (h5.imp id ?_)
 rintro ⟨A,hA,hn,_,hc⟩
 obtain ⟨n1,_,cur,t,fr,n3,n4,n5⟩:=hn rfl
 have n4:G2.shp t=some .int:=n4
 rw [hG2,Fc] at n4
 exact ⟨A,hA,⟨⟨n1.1,n1.2.1,by rw [<- hz]; exact n1.2.2⟩,.inr ⟨cur,t,fr,n3,by show G.shp t=_; rw [hG]; exact Fp n4,fun _=>n5⟩⟩,hc⟩
theorem rN {G G2:Gl} {ρ:List RE} {w:World} (hG:G.shp=ao aI) (hG2:G2.shp=ao lM) (hz:G2.Z=G.Z):∀ {l:List Snap} {cells:List Value},Pds (cx G2 ρ w) ((l.map n_).flatMap (cellsOf (.nm .snapE))) cells->Pds (cx G ρ w) (l.flatMap (cellsOf (.nm .snap))) cells
 | [],_,h=>by cases h; exact .nil
 | x :: l,_,h=>by
  have h0:Pds (cx G2 ρ w) (.int x.id :: .int x.set :: .li true x.chunks :: .bool (.atom x.held) :: .str x.tag :: (l.map n_).flatMap (cellsOf (.nm .snapE))) _:=h
  clear h
  cases h0 with | cons k1 h1=>?_
  cases h1 with | cons k2 h2=>?_
  cases h2 with | cons k3 h3=>?_
  cases h3 with | cons k4 h4=>?_
  cases h4 with | cons k5 h=>?_
  have k6:=LO hG hG2 hz k3
  exact (.cons (dg rfl k1) (.cons (dg rfl k2) (.cons k6 (.cons (dg rfl k4) (.cons (dg rfl k5) (rN hG hG2 hz h))))):Pds (cx G ρ w) (.int x.id :: .int x.set :: .fz .int x.chunks :: .bool (.atom x.held) :: .str x.tag :: l.flatMap (cellsOf (.nm .snap))) _)
theorem Ia {o:Option Sh} {n:NT} (hn:n ≠ .snapE) (h:o.map Jw=some (.nm n)):o=some (.nm n):=by
 cases o with
 | none=>cases h
 | some s=>
  cases s with
  | nm t=>
   cases t <;> first
    | exact h
    | (exfalso; apply hn; cases h; rfl)
  | _=>cases h
theorem Aa {G G2:Gl} {ρ:List RE} {w:World} {t:TypeId} {n:NT} {xs:List n.den} {r:RE} (hG:G.shp=ao aI) (hG2:G2.shp=ao lM) (hn:n ≠ .snapE) (hfl:∀ x:n.den,∀ a ∈ n.cells x,a.flat=true) (h:OR (cx G2 ρ w) ρ (.row t (.nm n) xs) r):OR (cx G ρ w) ρ (.row t (.nm n) xs) r:=by
 obtain ⟨h1,h2,h3⟩:=h
 have h1:G2.shp t=some (.nm n):=h1
 rw [hG2,Fc] at h1
 refine ⟨by show G.shp t=_; rw [hG]; exact Ia hn h1,h2,h3.imp id ?_⟩
 rintro ⟨g,cap,cells,sp,e1,e2,e3,e4,e5,e6⟩
 refine ⟨g,cap,cells,sp,e1,e2,gu (fun a ha=>?_) e3,e4,e5,e6⟩
 rw [List.mem_flatMap] at ha
 obtain ⟨x,_,hx⟩:=ha
 exact hfl x a hx
theorem zb {c c':Cx} {s:Sh} {xs:List (den s)} {ρ:List RE} {v:Value} (hw:c'.w=c.w) (hB:c'.B0=c.B0) (h:Rd c ρ (.xx (.ff s xs) []) v):Rd c' ρ (.xx (.ff s xs) []) v:=by
 obtain ⟨us,h1,h2,h3⟩:=h
 exact ⟨us,h1,h2,Pd.pH (c:=c) (c':=c'.low) hw hB (fun b hb hs=>⟨by rw [hB]; exact hb,by rw [hw]; exact hs⟩) h3⟩
theorem Sat.LS {P:Program} {f:Nat} {t1 t2 t3:TypeId} {v nx kp qt:Int} {se:List Sess} {op:List Opn} {sn:List Snap} (iA:∀ c,TabsOK c) (ht3:ao aI t3=some (.nm .snap)) (hf:∃ fn,P.funcs[f]? = some fn/\(fn.name == "runtime.NumGoroutine")=false/\fn.body.isNone=false)
  (h:sn.length*64<=140737488355328->Sat P (ao lM) f [.agg [.int v,.int nx,.int kp,.int qt,.xx (.ff (.nm .sess) se) [],.xx (.ff (.nm .opn) op) [],.xx (.ff (.nm .snap) sn) []]] []
   ⟨[],[.agg [.int v,.int nx,.int kp,.int qt,.own 0,.own 1,.own 2]],some [.row t1 (.nm .sess) se,.row t2 (.nm .opn) op,.row t3 (.nm .snapE) (sn.map n_)],true⟩) :
  Sat P (ao aI) f [.agg [.int v,.int nx,.int kp,.int qt,.xx (.ff (.nm .sess) se) [],.xx (.ff (.nm .opn) op) [],.xx (.ff (.nm .snap) sn) []]] []
   ⟨[],[.agg [.int v,.int nx,.int kp,.int qt,.own 0,.own 1,.own 2]],some [.row t1 (.nm .sess) se,.row t2 (.nm .opn) op,.row t3 (.nm .snap) sn],true⟩:=by
 refine ⟨hf,fun G ρ w vs hG hR hvs=>?_⟩
 cases hvs with | cons h1 hvs=>?_
 cases hvs
 have hρ:ρ=[]:=List.eq_nil_of_length_eq_zero hR.obj.length.symm
 subst hρ
 let G2:Gl:=⟨ao lM,G.B0,G.Z⟩
 have hR2:Rep G2 [] [] w:=lU hR.z hR.b0 (iA _)
 obtain ⟨us,rfl,h1⟩:=h1
 cases h1 with | cons a1 h1=>?_
 cases h1 with | cons a2 h1=>?_
 cases h1 with | cons a3 h1=>?_
 cases h1 with | cons a4 h1=>?_
 cases h1 with | cons a5 h1=>?_
 cases h1 with | cons a6 h1=>?_
 cases h1 with | cons a7 h1=>?_
 cases h1
 have ha:bX (cx G2 [] w) [] (.agg [.int v,.int nx,.int kp,.int qt,.xx (.ff (.nm .sess) se) [],.xx (.ff (.nm .opn) op) [],.xx (.ff (.nm .snap) sn) []]) _:=
  ⟨_,rfl,.cons (bu rfl a1) (.cons (bu rfl a2) (.cons (bu rfl a3) (.cons (bu rfl a4) (.cons (zb (c:=cx G [] w) rfl rfl a5) (.cons (zb (c:=cx G [] w) rfl rfl a6) (.cons (zb (c:=cx G [] w) rfl rfl a7) .nil))))))⟩
 have hlen:sn.length*64<=140737488355328:=by
  obtain ⟨_,_,_,h2⟩:=a7
  cases h2 with | fz _ _ h3 _ _=>exact h3
 refine ((h hlen).2 G2 [] w _ rfl hR2 (.cons ha .nil)).mono fun v' w' ⟨us,hv,hq⟩=>⟨us,hv,?_⟩
 obtain ⟨ρ',k1,k2,k3,k4,k5⟩:=hq
 refine ⟨ρ',⟨?_,k1.inj,k1.bnd,fun b hb=>Nat.lt_of_lt_of_le (hR.z b hb) k2.size,k1.b0,iA _⟩,k2,k3,?_,k5⟩
 ·cases k1.obj with | cons o1 h=>?_
  cases h with | cons o2 h=>?_
  cases h with | cons o3 h=>?_
  cases h
  refine .cons (Aa hG rfl (by decide) (by simp [NT.cells,AV.flat]) o1) (.cons (Aa hG rfl (by decide) (by simp [NT.cells,AV.flat]) o2) (.cons ?_ .nil))
  obtain ⟨h8,h9,h10⟩:=o3
  refine ⟨by show G.shp t3=_; rw [hG]; exact ht3,by rw [List.length_map] at h9; exact h9,?_⟩
  ·rcases h10 with ⟨e,hx⟩ | ⟨g,cap,cells,sp,e1,e2,e3,e4,e5,e6⟩
   ·exact .inl ⟨e,List.map_eq_nil_iff.1 hx⟩
   ·exact .inr ⟨g,cap,cells,sp,by rw [List.length_map] at e1; exact e1,e2,rN (G2:=G2) hG rfl rfl e3,e4,by rw [List.length_map] at e5; exact e5,e6⟩
 ·cases k4 with | cons o1 h=>?_
  cases h
  obtain ⟨us,rfl,h⟩:=o1
  refine .cons ⟨_,rfl,?_⟩ .nil
  cases h with | cons b1 h=>?_
  cases h with | cons b2 h=>?_
  cases h with | cons b3 h=>?_
  cases h with | cons b4 h=>?_
  cases h with | cons b5 h=>?_
  cases h with | cons b6 h=>?_
  cases h with | cons b7 h=>?_
  cases h
  exact .cons (bu rfl b1) (.cons (bu rfl b2) (.cons (bu rfl b3) (.cons (bu rfl b4) (.cons b5 (.cons b6 (.cons b7 .nil))))))
def ba (c:Command):List AV:=[.int c.kind,.int c.client,.int c.seq,.int c.set,.int c.id,.int c.n,.xx (.ff .int c.chunks) [],.str c.text]
def xN (s:State):List AV:=[.int s.version,.int s.next,.int s.keep,.int s.quota,.xx (.ff (.nm .sess) s.sess) [],.xx (.ff (.nm .opn) s.opens) [],.xx (.ff (.nm .snap) s.snaps) []]
def lC:PL (Int × Int × Int × Int × Int × Int × List Int × Str × Unit):=ai cI (ai cI (ai cI (ai cI (ai cI (ai cI (ai (Dr .int) (ai cS a_)))))))
theorem Kt:lC.OK:=ae aq (ae aq (ae aq (ae aq (ae aq (ae aq (ae fX (ae Kl aC)))))))
def lS:PL (Int × Int × Int × Int × List Sess × List Opn × List Snap × Unit):=ai cI (ai cI (ai cI (ai cI (ai (Dr (.nm .sess)) (ai (Dr (.nm .opn)) (ai (Dr (.nm .snap)) a_))))))
theorem Kx:lS.OK:=ae aq (ae aq (ae aq (ae aq (ae fX (ae fX (ae fX aC))))))
def Mf (l:List AV):Option Command:=match lC.p l with
 | some (a,b,c,d,e,f,g,h,_)=>some ⟨a,b,c,d,e,f,g,h⟩
 | none=>none
def Nu (l:List AV):Option State:=match lS.p l with
 | some (a,b,c,d,e,f,g,_)=>some ⟨a,b,c,d,e,f,g⟩
 | none=>none
theorem Cc {l:List AV} {y:Command} (h:Mf l=some y) {c:Cx} {ρ:List RE} {vs:List Value} (hv:All2 (Rd c ρ) l vs):All2 (Rd c ρ) (ba y) vs:=by
 unfold Mf at h
 split at h
 ·rename_i h1; cases h; exact Kt _ _ h1 _ _ _ hv
 ·cases h
theorem Iy {l:List AV} {y:State} (h:Nu l=some y) {c:Cx} {ρ:List RE} {vs:List Value} (hv:All2 (Rd c ρ) l vs):All2 (Rd c ρ) (xN y) vs:=by
 unfold Nu at h
 split at h
 ·rename_i h1; cases h; exact Kx _ _ h1 _ _ _ hv
 ·cases h
def Dn:PU Command:=⟨fun | .agg l=>Mf l | _=>none,fun x=>.agg (ba x)⟩
def Na:PU State:=⟨fun | .agg l=>Nu l | _=>none,fun x=>.agg (xN x)⟩
theorem fL:Dn.OK:=fun a y h=>by
 cases a with
 | c a=>cases h
 | agg l=>exact fun c ρ v ⟨vs,e,hv⟩=>⟨vs,e,Cc h hv⟩
theorem BD:Na.OK:=fun a y h=>by
 cases a with
 | c a=>cases h
 | agg l=>exact fun c ρ v ⟨vs,e,hv⟩=>⟨vs,e,Iy h hv⟩
def tW {β:Type} (R:PL β):PL (Command × β):=⟨fun l=>match Mf (l.take 8),R.p (l.drop 8) with
 | some x,some y=>some (x,y)
 | _,_=>none,fun q=>ba q.1++R.u q.2⟩
theorem dw {β:Type} {R:PL β} (hR:R.OK):(tW R).OK:=fun l y h c ρ vs hv=>by
 simp only [tW] at h
 split at h
 ·rename_i h1 h2
  cases h
  have k1:=Cc h1 (hv.take 8)
  have k2:=hR _ _ h2 _ _ _ (hv.drop 8)
  have:=k1.append k2
  rwa [List.take_append_drop] at this
 ·cases h
theorem iA:∀ c,TabsOK c:=fun _=>⟨fun _ h=>(nomatch h),fun _ h=>(nomatch h)⟩
theorem qj (l:List Int) (r0:List Int):lF lM gL [] Try.f25 [.c (.fz .int (l))] [] [.c (.own 0)] [.row 3 .int (r0)]=(l.length*(8:Nat)<=(140737488355328:Nat)->∀ (b:Bool),(b=true->l=[])->(b=true->r0=[])/\(b=false->l.length*(8:Nat)<=(140737488355328:Nat)/\l=r0)):=by kernel_rfl
theorem jj (l:List Int):Sat Try.prog (ao lM) 25 [.c (.fz .int (l))] [] ⟨[],[.c (.own 0)],some ([.row 3 .int ((l))]),true⟩:=by
 refine Dh cH [] Try.func25 (by decide) (by kernel_rfl) ?_
 rw [qj]
 exact fun h b hb=>⟨hb,fun _=>⟨h,rfl⟩⟩
theorem u_ (q:Bool × List Int):Sat Try.prog (ao lM) 25 [.c (.li (q).1 (q).2)] [] ⟨[],[.c (.li (((true,q.2))).1 (((true,q.2))).2)],none,false⟩:=Sat.li (jj q.2)
theorem oi (l:List Sess):Sat Try.prog (ao lM) 22 [.c (.xx (.ff (.nm .sess) (l)) [])] [] ⟨[],[.c (.own 0)],some ([.row 46 (.nm .sess) ((l))]),true⟩:=Sat.NM (by simp [cellsOf,NT.cells,AV.flat]) (by kernel_rfl) iA (jO l)
theorem qe (l:List Opn):Sat Try.prog (ao lM) 23 [.c (.xx (.ff (.nm .opn) (l)) [])] [] ⟨[],[.c (.own 0)],some ([.row 42 (.nm .opn) ((l))]),true⟩:=Sat.NM (by simp [cellsOf,NT.cells,AV.flat]) (by kernel_rfl) iA (lB l)
theorem tH (l:List Snap):Sat Try.prog (ao lM) 24 [.c (.xx (.ff (.nm .snap) (l)) [])] [] ⟨[],[.c (.own 0)],some ([.row 44 (.nm .snapE) ((l.map lh))]),true⟩:=Sat.Mb iA (jg l)
def Gy:cO:=(bF 24 (bE (ak (kC (Dr (.nm .snap))) aS) aR fun (l,_) (_)=>⟨[],[.c (.own 0)],some ([.row 44 (.nm .snapE) ((l.map lh))]),true⟩) (bF 23 (bE (ak (kC (Dr (.nm .opn))) aS) aR fun (l,_) (_)=>⟨[],[.c (.own 0)],some ([.row 42 (.nm .opn) ((l))]),true⟩) (bF 22 (bE (ak (kC (Dr (.nm .sess))) aS) aR fun (l,_) (_)=>⟨[],[.c (.own 0)],some ([.row 46 (.nm .sess) ((l))]),true⟩) (bF 25 (bE (ak (kC Nv) aS) aR fun (q,_) (_)=>⟨[],[.c (.li (((true,q.2))).1 (((true,q.2))).2)],none,false⟩) (bF 25 (bE (ak (kC (cL .int)) aS) aR fun (l,_) (_)=>⟨[],[.c (.own 0)],some ([.row 3 .int ((l))]),true⟩) gL)))))
theorem Bd:bk Try.prog (ao lM) Gy:=(aB (aA (ag (az fX) ay) ax fun (l,_) (_) _=>tH l ) (aB (aA (ag (az fX) ay) ax fun (l,_) (_) _=>qe l ) (aB (aA (ag (az fX) ay) ax fun (l,_) (_) _=>oi l ) (aB (aA (ag (az Hr) ay) ax fun (q,_) (_) _=>u_ q ) (aB (aA (ag (az b_) ay) ax fun (l,_) (_) _=>jj l ) cH)))))
theorem Nl {l:List Snap}:l.map lh=(l.take 0).map n_++(l.drop 0).map lh:=by simp
theorem ML {l:List Snap}:((l.map lh).length:Int)=(l.length:Int):=by rw [List.length_map]
theorem Hx {l:List Snap} {k:Nat}:((l.take k).map n_++(l.drop k).map lh).length=l.length:=by simp only [List.length_append,List.length_map,List.length_take,List.length_drop]; omega
theorem KR {l:List Snap} {k:Nat} (h:(k:Int)<l.length):(k:Int)<((l.take k).map n_++(l.drop k).map lh).length:=by rw [Hx]; exact h
theorem HM {l:List Snap} {k:Nat} (h:(l.length:Int)<=k):(l.take k).map n_++(l.drop k).map lh=l.map n_:=by
 rw [List.take_of_length_le (by omega),List.drop_of_length_le (by omega)]; simp
theorem Ks {l:List Snap} {k:Nat} {d:SnapE} (h:(k:Int)<l.length):((l.take k).map n_++(l.drop k).map lh).set k (SnapE.mk (((l.take k).map n_++(l.drop k).map lh).getD k d).id (((l.take k).map n_++(l.drop k).map lh).getD k d).set (true,(((l.take k).map n_++(l.drop k).map lh).getD k d).chunks.snd) (((l.take k).map n_++(l.drop k).map lh).getD k d).held (((l.take k).map n_++(l.drop k).map lh).getD k d).tag)=(l.take (k+1)).map n_++(l.drop (k+1)).map lh:=by
 have hk:k<l.length:=by omega
 have h1:((l.take k).map n_).length=k:=by simp; omega
 have h2:l.drop k=l[k] :: l.drop (k+1):=List.drop_eq_getElem_cons hk
 have h3:((l.take k).map n_++(l.drop k).map lh).getD k d=lh l[k]:=by
  rw [List.getD_eq_getElem?_getD,List.getElem?_append_right (by omega),h1,Nat.sub_self,h2]; rfl
 rw [h3,List.set_append_right _ _ (by omega),h1,Nat.sub_self,h2,List.map_cons,List.set_cons_zero,List.take_succ_eq_append_getElem hk,List.map_append,List.append_assoc]
 rfl
def Bb (v:Int) (nx:Int) (kp:Int) (qt:Int) (se:List Sess) (op:List Opn) (sn:List Snap):List (Nat × LI):=[(5,{ σ:=Nat,F:=fun k=>([(1,one (.ptr 0 0)),(2,one (.ptr 1 0)),(18,one (.int sn.length)),(19,one (.int k))],[.box 26 ([.int ((v)),.int ((nx)),.int ((kp)),.int ((qt)),.own 2,.own 3,.own 4]),.box 26 ([.int ((0)),.int ((0)),.int ((0)),.int ((0)),.em true,.em true,.em true]),.row 46 (.nm .sess) ((se)),.row 42 (.nm .opn) ((op)),.row 44 (.nm .snapE) (((sn.take k).map n_++(sn.drop k).map lh))]),J:=fun k=>k<=sn.length,μ:=fun k=>sn.length - k })]
theorem DI (v:Int) (nx:Int) (kp:Int) (qt:Int) (se:List Sess) (op:List Opn) (sn:List Snap) (r0:Int) (r1:Int) (r2:Int) (r3:Int) (r4:List Sess) (r5:List Opn) (r6:List SnapE):lF lM Gy (Bb v nx kp qt se op sn) Try.f13 [.agg ([.int (v),.int (nx),.int (kp),.int (qt),.xx (.ff (.nm .sess) (se)) [],.xx (.ff (.nm .opn) (op)) [],.xx (.ff (.nm .snap) (sn)) []])] [] [.agg ([.int (r0),.int (r1),.int (r2),.int (r3),.own 0,.own 1,.own 2])] [.row 46 (.nm .sess) (r4),.row 42 (.nm .opn) (r5),.row 44 (.nm .snapE) (r6)]=((fun (q2:Nat)=>(fun (q1:den (Sh.nm NT.snapE))=>(fun (q0:Prop)=>I64 v->I64 nx->I64 kp->I64 qt->∃ (s0:Nat),((↑(List.map lh sn).length:Int)=(↑q2:Int)/\(0:Int)=(↑s0:Int)/\v=v/\nx=nx/\kp=kp/\qt=qt/\q0/\q0/\q0/\q0/\se=se/\op=op/\List.map lh sn=List.map n_ (List.take s0 sn)++List.map lh (List.drop s0 sn))/\s0<=q2/\∀ (s:Nat),(fun (q3:List SnapE)=>s<=q2->((↑s:Int)<(↑q2:Int)->(0:Int)<=(↑s:Int)/\(↑s:Int)<(↑q3.length:Int)/\(0:Int)<=(↑s:Int)/\(↑s:Int)<(↑q3.length:Int)/\(I64 (q3.getD s q1).id->I64 (q3.getD s q1).set->(q3.getD s q1).tag.b.length<=(140737488355328:Nat)->I64 (q3.getD s q1).id->I64 (q3.getD s q1).set->(q3.getD s q1).tag.b.length<=(140737488355328:Nat)->I64 ((↑s:Int)+(1:Int))/\∃ (s':Nat),(fun (q4:den (Sh.nm NT.snapE))=>((↑q2:Int)=(↑q2:Int)/\(↑s:Int)+(1:Int)=(↑s':Int)/\v=v/\nx=nx/\kp=kp/\qt=qt/\q0/\q0/\q0/\q0/\se=se/\op=op/\q3.set s (SnapE.mk q4.id q4.set (true,q4.chunks.snd) q4.held q4.tag)=List.map n_ (List.take s' sn)++List.map lh (List.drop s' sn))/\s' <= q2/\q2 - s' < q2 - s) (q3.getD s q1)))/\((↑q2:Int)<=(↑s:Int)->v=r0/\nx=r1/\kp=r2/\qt=r3/\se=r4/\op=r5/\q3=r6)) (List.map n_ (List.take s sn)++List.map lh (List.drop s sn))) ((0:Int)=(0:Int))) (aG (Sh.nm NT.snapE))) sn.length):=by kernel_rfl
theorem wM (v:Int) (nx:Int) (kp:Int) (qt:Int) (se:List Sess) (op:List Opn) (sn:List Snap) (h0:sn.length*64<=140737488355328):Sat Try.prog (ao lM) 13 [.agg ([.int (v),.int (nx),.int (kp),.int (qt),.xx (.ff (.nm .sess) (se)) [],.xx (.ff (.nm .opn) (op)) [],.xx (.ff (.nm .snap) (sn)) []])] [] ⟨[sn.length*64<=140737488355328],[.agg ([.int ((v)),.int ((nx)),.int ((kp)),.int ((qt)),.own 0,.own 1,.own 2])],some ([.row 46 (.nm .sess) ((se)),.row 42 (.nm .opn) ((op)),.row 44 (.nm .snapE) ((sn.map n_))]),true⟩:=by
 refine Dh Bd (Bb v nx kp qt se op sn) Try.func13 (by decide) (by kernel_rfl) ?_
 rw [DI]
 iterate 3 ((all_goals (repeat' (first | with_reducible apply cg | with_reducible refine cj ?_ | intro))); (all_goals try (first | exact cG | exact rfl | exact Nl | exact ML | exact (HM bt) | exact KR aO | exact Ks aO)); all_goals try first | refine ⟨‹Nat› + 1,?_⟩ | refine ⟨0,?_⟩)
theorem Fz (st:State):Sat Try.prog (ao aI) 13 [.agg (xN (st))] [] ⟨[],[.agg ([.int ((st.version)),.int ((st.next)),.int ((st.keep)),.int ((st.quota)),.own 0,.own 1,.own 2])],some ([.row 46 (.nm .sess) ((st.sess)),.row 42 (.nm .opn) ((st.opens)),.row 44 (.nm .snap) ((st.snaps))]),true⟩:=Sat.LS iA (by kernel_rfl) (wM 0 0 0 0 [] [] [] (by decide)).1 (wM st.version st.next st.keep st.quota st.sess st.opens st.snaps)
theorem CB (c:Command) (v:Int):Sat Try.prog (ao aI) 27 [.agg (ba (c)),.c (.int (v))] [] ⟨[],[.c (.int ((cC c v)))],none,false⟩:=Sat.ff (wR c v) rfl rfl
theorem Cy (st:State) (c:Command):Sat Try.prog (ao aI) 14 [.agg (cellsOf (.nm .state) st),.agg (ba (c))] [] ⟨[],[.c (.int ((if bK st st.version=0 then cC c st.version else 1)))],none,false⟩:=Sat.ff (Cg st c) rfl rfl
theorem Ez (l:List Snap) (m:List Int) (h0:nch l<=1048576):Sat Try.prog (ao aI) 83 [.c (.fz (.nm .snap) (l)),.c (.xx (.ff .int (m)) [])] [] ⟨[nch l<=1048576],[.c (.int (((ej (l++[⟨0,0,m,false,⟨[]⟩⟩]):Int))))],none,false⟩:=Sat.ff (wG l m h0) rfl rfl
theorem qX (l:List Int) (r0:List Int):lF aI Ap [] Try.f25 [.c (.fz .int (l))] [] [.c (.own 0)] [.row 3 .int (r0)]=((fun (q0:Prop)=>q0->∀ (b:Bool),(b=true->l=[])->(b=true->r0=[])/\(b=false->q0/\l=r0)) (l.length*(8:Nat)<=(140737488355328:Nat))):=by kernel_rfl
theorem jE (l:List Int):Sat Try.prog (ao aI) 25 [.c (.fz .int (l))] [] ⟨[],[.c (.own 0)],some ([.row 3 .int ((l))]),true⟩:=by
 refine di rT [] Try.func25 (by decide) (by kernel_rfl) ?_
 rw [qX]
 exact fun h b hb=>⟨hb,fun _=>⟨h,rfl⟩⟩
theorem vy (l:List Int):Sat Try.prog (ao aI) 25 [.c (.xx (.ff .int (l)) [])] [] ⟨[],[.c (.own 0)],some ([.row 3 .int ((l))]),true⟩:=Sat.Om (jE l)
def oD:cO:=(bF 25 (bE (ak (kC (Dr .int)) aS) aR fun (l,_) (_)=>⟨[],[.c (.own 0)],some ([.row 3 .int ((l))]),true⟩) (bF 25 (bE (ak (kC (cL .int)) aS) aR fun (l,_) (_)=>⟨[],[.c (.own 0)],some ([.row 3 .int ((l))]),true⟩) (bF 83 (bE (ak (kC (cL (.nm .snap))) (ak (kC (Dr .int)) aS)) aR fun (l,m,_) (_)=>⟨[nch l<=1048576],[.c (.int (((ej (l++[⟨0,0,m,false,⟨[]⟩⟩]):Int))))],none,false⟩) (bF 14 (bE (ak (kT (.nm .state)) (ak Dn aS)) aR fun (st,c,_) (_)=>⟨[],[.c (.int ((if bK st st.version=0 then cC c st.version else 1)))],none,false⟩) (bF 27 (bE (ak Dn (ak (kC cI) aS)) aR fun (c,v,_) (_)=>⟨[],[.c (.int ((cC c v)))],none,false⟩) (bF 13 (bE (ak Na aS) aR fun (st,_) (_)=>⟨[],[.agg ([.int ((st.version)),.int ((st.next)),.int ((st.keep)),.int ((st.quota)),.own 0,.own 1,.own 2])],some ([.row 46 (.nm .sess) ((st.sess)),.row 42 (.nm .opn) ((st.opens)),.row 44 (.nm .snap) ((st.snaps))]),true⟩) Ap))))))
theorem gS:bk Try.prog (ao aI) oD:=(aB (aA (ag (az fX) ay) ax fun (l,_) (_) _=>vy l ) (aB (aA (ag (az b_) ay) ax fun (l,_) (_) _=>jE l ) (aB (aA (ag (az b_) (ag (az fX) ay)) ax fun (l,m,_) (_) hp=>Ez l m (dM hp)) (aB (aA (ag bP (ag fL ay)) ax fun (st,c,_) (_) _=>Cy st c ) (aB (aA (ag fL (ag (az aq) ay)) ax fun (c,v,_) (_) _=>CB c v ) (aB (aA (ag BD ay) ax fun (st,_) (_) _=>Fz st ) rT))))))
theorem vE (c:Command) (v:Int) (nx:Int) (kp:Int) (qt:Int) (se:List Sess) (op:List Opn) (sn:List Snap) (r0:Int):dp aI oD [] Try.f82 [.c (.ptr 0 0),.agg (ba (c))] [.box 26 ([.int (v),.int (nx),.int (kp),.int (qt),.own 1,.own 2,.own 3]),.row 46 (.nm .sess) (se),.row 42 (.nm .opn) (op),.row 44 (.nm .snap) (sn)] [.c (.int (r0))]=((fun (q0:Int)=>I64 c.kind->I64 c.client->I64 c.seq->I64 c.set->I64 c.id->I64 c.n->c.text.b.length<=(140737488355328:Nat)->I64 q0->((0:Int)<=q0->(0:Int)<=q0/\q0<(↑op.length:Int))/\(((0:Int)<=q0->I64 (op.getD q0.toNat (aG (Sh.nm NT.opn))).set/\I64 (op.getD q0.toNat (aG (Sh.nm NT.opn))).client)->((0:Int)<=q0/\¬(op.getD q0.toNat (aG (Sh.nm NT.opn))).client=c.client->(-1:Int)=r0)/\(q0<(0:Int)\/(op.getD q0.toNat (aG (Sh.nm NT.opn))).client=c.client->q0=r0))) (aj Opn.set c.set op)):=by kernel_rfl
theorem vA (c:Command) (v:Int) (nx:Int) (kp:Int) (qt:Int) (se:List Sess) (op:List Opn) (sn:List Snap):Sat Try.prog (ao aI) 82 [.c (.ptr 0 0),.agg (ba (c))] [.box 26 ([.int (v),.int (nx),.int (kp),.int (qt),.own 1,.own 2,.own 3]),.row 46 (.nm .sess) (se),.row 42 (.nm .opn) (op),.row 44 (.nm .snap) (sn)] ⟨[],[.c (.int ((bh (State.mk v nx kp qt se op sn) c)))],none,false⟩:=by
 refine bd gS [] Try.func82 (by decide) (by kernel_rfl) ?_
 rw [vE]
 (repeat' (first | with_reducible apply cg | with_reducible refine cj ?_ | intro))
 all_goals (first | exact cG | exact bz aO | (unfold bh; grind))
theorem DD (c:Command) (v:Int) (nx:Int) (kp:Int) (qt:Int) (se:List Sess) (op:List Opn) (sn:List Snap) (r0:Reply) (r1:Command) (r2:Int) (r3:Int) (r4:Int) (r5:Int) (r6:List Sess) (r7:List Opn) (r8:List Snap):g_ aI oD [] Try.f59 [.c (.ptr 0 0),.c (.ptr 1 0)] [.box 29 (ba (c)),.box 26 ([.int (v),.int (nx),.int (kp),.int (qt),.own 2,.own 3,.own 4]),.row 46 (.nm .sess) (se),.row 42 (.nm .opn) (op),.row 44 (.nm .snap) (sn)] [.agg (cellsOf (.nm .reply) r0)] [.box 29 (ba (r1)),.box 26 ([.int (r2),.int (r3),.int (r4),.int (r5),.own 2,.own 3,.own 4]),.row 46 (.nm .sess) (r6),.row 42 (.nm .opn) (r7),.row 44 (.nm .snap) (r8)]=((0:Int)=r0.code/\(0:Int)=r0.n/\c.kind=r1.kind/\c.client=r1.client/\c.seq=r1.seq/\c.set=r1.set/\c.id=r1.id/\c.n=r1.n/\c.chunks=r1.chunks/\c.text=r1.text/\v=r2/\nx=r3/\c.n=r4/\qt=r5/\se=r6/\op=r7/\sn=r8):=by kernel_rfl
theorem Dx (c:Command) (v:Int) (nx:Int) (kp:Int) (qt:Int) (se:List Sess) (op:List Opn) (sn:List Snap):Sat Try.prog (ao aI) 59 [.c (.ptr 0 0),.c (.ptr 1 0)] [.box 29 (ba (c)),.box 26 ([.int (v),.int (nx),.int (kp),.int (qt),.own 2,.own 3,.own 4]),.row 46 (.nm .sess) (se),.row 42 (.nm .opn) (op),.row 44 (.nm .snap) (sn)] ⟨[],[.agg (cellsOf (.nm .reply) ((bW c (State.mk v nx kp qt se op sn)).2))],some ([.box 29 (ba ((c))),.box 26 ([.int ((((bW c (State.mk v nx kp qt se op sn)).1).version)),.int ((((bW c (State.mk v nx kp qt se op sn)).1).next)),.int ((((bW c (State.mk v nx kp qt se op sn)).1).keep)),.int ((((bW c (State.mk v nx kp qt se op sn)).1).quota)),.own 2,.own 3,.own 4]),.row 46 (.nm .sess) ((((bW c (State.mk v nx kp qt se op sn)).1).sess)),.row 42 (.nm .opn) ((((bW c (State.mk v nx kp qt se op sn)).1).opens)),.row 44 (.nm .snap) ((((bW c (State.mk v nx kp qt se op sn)).1).snaps))]),false⟩:=by
 refine cf gS [] Try.func59 (by decide) (by kernel_rfl) ?_
 rw [DD]
 (repeat' (first | with_reducible apply cg | with_reducible refine cj ?_ | intro))
 all_goals (first | exact cG | exact rfl)
theorem EE (c:Command) (v:Int) (nx:Int) (kp:Int) (qt:Int) (se:List Sess) (op:List Opn) (sn:List Snap) (r0:Reply) (r1:Command) (r2:Int) (r3:Int) (r4:Int) (r5:Int) (r6:List Sess) (r7:List Opn) (r8:List Snap):g_ aI oD [] Try.f60 [.c (.ptr 0 0),.c (.ptr 1 0)] [.box 29 (ba (c)),.box 26 ([.int (v),.int (nx),.int (kp),.int (qt),.own 2,.own 3,.own 4]),.row 46 (.nm .sess) (se),.row 42 (.nm .opn) (op),.row 44 (.nm .snap) (sn)] [.agg (cellsOf (.nm .reply) r0)] [.box 29 (ba (r1)),.box 26 ([.int (r2),.int (r3),.int (r4),.int (r5),.own 2,.own 3,.own 4]),.row 46 (.nm .sess) (r6),.row 42 (.nm .opn) (r7),.row 44 (.nm .snap) (r8)]=(nch sn<=(1048576:Nat)/\(I64 (↑(ej sn):Int)->(0:Int)=r0.code/\(↑(ej sn):Int)=r0.n/\c.kind=r1.kind/\c.client=r1.client/\c.seq=r1.seq/\c.set=r1.set/\c.id=r1.id/\c.n=r1.n/\c.chunks=r1.chunks/\c.text=r1.text/\v=r2/\nx=r3/\kp=r4/\c.n=r5/\se=r6/\op=r7/\sn=r8)):=by kernel_rfl
theorem FP (c:Command) (v:Int) (nx:Int) (kp:Int) (qt:Int) (se:List Sess) (op:List Opn) (sn:List Snap) (h0:nch sn<=1048576):Sat Try.prog (ao aI) 60 [.c (.ptr 0 0),.c (.ptr 1 0)] [.box 29 (ba (c)),.box 26 ([.int (v),.int (nx),.int (kp),.int (qt),.own 2,.own 3,.own 4]),.row 46 (.nm .sess) (se),.row 42 (.nm .opn) (op),.row 44 (.nm .snap) (sn)] ⟨[nch sn<=1048576],[.agg (cellsOf (.nm .reply) ((bB c (State.mk v nx kp qt se op sn)).2))],some ([.box 29 (ba ((c))),.box 26 ([.int ((((bB c (State.mk v nx kp qt se op sn)).1).version)),.int ((((bB c (State.mk v nx kp qt se op sn)).1).next)),.int ((((bB c (State.mk v nx kp qt se op sn)).1).keep)),.int ((((bB c (State.mk v nx kp qt se op sn)).1).quota)),.own 2,.own 3,.own 4]),.row 46 (.nm .sess) ((((bB c (State.mk v nx kp qt se op sn)).1).sess)),.row 42 (.nm .opn) ((((bB c (State.mk v nx kp qt se op sn)).1).opens)),.row 44 (.nm .snap) ((((bB c (State.mk v nx kp qt se op sn)).1).snaps))]),false⟩:=by
 refine cf gS [] Try.func60 (by decide) (by kernel_rfl) ?_
 rw [EE]
 (repeat' (first | with_reducible apply cg | with_reducible refine cj ?_ | intro))
 all_goals (first | exact cG | exact rfl)
theorem C_ (i:Int) (c:Command) (v:Int) (nx:Int) (kp:Int) (qt:Int) (se:List Sess) (op:List Opn) (sn:List Snap) (r0:Reply) (r1:Command) (r2:Int) (r3:Int) (r4:Int) (r5:Int) (r6:List Sess) (r7:List Opn) (r8:List Snap):g_ aI oD [] Try.f65 [.c (.int (i)),.c (.ptr 0 0),.c (.ptr 1 0)] [.box 29 (ba (c)),.box 26 ([.int (v),.int (nx),.int (kp),.int (qt),.own 2,.own 3,.own 4]),.row 46 (.nm .sess) (se),.row 42 (.nm .opn) (op),.row 44 (.nm .snap) (sn)] [.agg (cellsOf (.nm .reply) r0)] [.box 29 (ba (r1)),.box 26 ([.int (r2),.int (r3),.int (r4),.int (r5),.own 2,.own 3,.own 4]),.row 46 (.nm .sess) (r6),.row 42 (.nm .opn) (r7),.row 44 (.nm .snap) (r8)]=((fun (q0:den (Sh.nm NT.snap))=>I64 i->(0:Int)<=i/\i<(↑sn.length:Int)/\(I64 q0.id->I64 q0.set->q0.chunks.length*(8:Nat)<=(140737488355328:Nat)->q0.tag.b.length<=(140737488355328:Nat)->(0:Int)=r0.code/\(0:Int)=r0.n/\c.kind=r1.kind/\c.client=r1.client/\c.seq=r1.seq/\c.set=r1.set/\c.id=r1.id/\c.n=r1.n/\c.chunks=r1.chunks/\c.text=r1.text/\v=r2/\nx=r3/\kp=r4/\qt=r5/\se=r6/\op=r7/\sn.set i.toNat (Snap.mk q0.id q0.set q0.chunks q0.held c.text)=r8)) (sn.getD i.toNat (aG (Sh.nm NT.snap)))):=by kernel_rfl
theorem AN (i:Int) (c:Command) (v:Int) (nx:Int) (kp:Int) (qt:Int) (se:List Sess) (op:List Opn) (sn:List Snap) (h0:0<=i/\i<(sn.length:Int)):Sat Try.prog (ao aI) 65 [.c (.int (i)),.c (.ptr 0 0),.c (.ptr 1 0)] [.box 29 (ba (c)),.box 26 ([.int (v),.int (nx),.int (kp),.int (qt),.own 2,.own 3,.own 4]),.row 46 (.nm .sess) (se),.row 42 (.nm .opn) (op),.row 44 (.nm .snap) (sn)] ⟨[0<=i/\i<(sn.length:Int)],[.agg (cellsOf (.nm .reply) ((bD c (State.mk v nx kp qt se op sn) i.toNat).2))],some ([.box 29 (ba ((c))),.box 26 ([.int ((((bD c (State.mk v nx kp qt se op sn) i.toNat).1).version)),.int ((((bD c (State.mk v nx kp qt se op sn) i.toNat).1).next)),.int ((((bD c (State.mk v nx kp qt se op sn) i.toNat).1).keep)),.int ((((bD c (State.mk v nx kp qt se op sn) i.toNat).1).quota)),.own 2,.own 3,.own 4]),.row 46 (.nm .sess) ((((bD c (State.mk v nx kp qt se op sn) i.toNat).1).sess)),.row 42 (.nm .opn) ((((bD c (State.mk v nx kp qt se op sn) i.toNat).1).opens)),.row 44 (.nm .snap) ((((bD c (State.mk v nx kp qt se op sn) i.toNat).1).snaps))]),false⟩:=by
 refine cf gS [] Try.func65 (by decide) (by kernel_rfl) ?_
 rw [C_]
 (repeat' (first | with_reducible apply cg | with_reducible refine cj ?_ | intro))
 all_goals (first | exact cG | exact rfl)
def sT:cO:=(bF 65 (bE (ak (kC cI) (ak (kC (bl 0 0)) (ak (kC (bl 1 0)) aS))) (au (bb 29 (tW a_)) (au (bb 26 (ai cI (ai cI (ai cI (ai cI (ai (aP 2) (ai (aP 3) (ai (aP 4) a_)))))))) (au (aQ 46 (.nm .sess)) (au (aQ 42 (.nm .opn)) (au (aQ 44 (.nm .snap)) aR))))) fun (i,_,_,_) ((c,_),(v,nx,kp,qt,_,_,_,_),se,op,sn,_)=>⟨[0<=i/\i<(sn.length:Int)],[.agg (cellsOf (.nm .reply) ((bD c (State.mk v nx kp qt se op sn) i.toNat).2))],some ([.box 29 (ba ((c))),.box 26 ([.int ((((bD c (State.mk v nx kp qt se op sn) i.toNat).1).version)),.int ((((bD c (State.mk v nx kp qt se op sn) i.toNat).1).next)),.int ((((bD c (State.mk v nx kp qt se op sn) i.toNat).1).keep)),.int ((((bD c (State.mk v nx kp qt se op sn) i.toNat).1).quota)),.own 2,.own 3,.own 4]),.row 46 (.nm .sess) ((((bD c (State.mk v nx kp qt se op sn) i.toNat).1).sess)),.row 42 (.nm .opn) ((((bD c (State.mk v nx kp qt se op sn) i.toNat).1).opens)),.row 44 (.nm .snap) ((((bD c (State.mk v nx kp qt se op sn) i.toNat).1).snaps))]),false⟩) (bF 60 (bE (ak (kC (bl 0 0)) (ak (kC (bl 1 0)) aS)) (au (bb 29 (tW a_)) (au (bb 26 (ai cI (ai cI (ai cI (ai cI (ai (aP 2) (ai (aP 3) (ai (aP 4) a_)))))))) (au (aQ 46 (.nm .sess)) (au (aQ 42 (.nm .opn)) (au (aQ 44 (.nm .snap)) aR))))) fun (_,_,_) ((c,_),(v,nx,kp,qt,_,_,_,_),se,op,sn,_)=>⟨[nch sn<=1048576],[.agg (cellsOf (.nm .reply) ((bB c (State.mk v nx kp qt se op sn)).2))],some ([.box 29 (ba ((c))),.box 26 ([.int ((((bB c (State.mk v nx kp qt se op sn)).1).version)),.int ((((bB c (State.mk v nx kp qt se op sn)).1).next)),.int ((((bB c (State.mk v nx kp qt se op sn)).1).keep)),.int ((((bB c (State.mk v nx kp qt se op sn)).1).quota)),.own 2,.own 3,.own 4]),.row 46 (.nm .sess) ((((bB c (State.mk v nx kp qt se op sn)).1).sess)),.row 42 (.nm .opn) ((((bB c (State.mk v nx kp qt se op sn)).1).opens)),.row 44 (.nm .snap) ((((bB c (State.mk v nx kp qt se op sn)).1).snaps))]),false⟩) (bF 59 (bE (ak (kC (bl 0 0)) (ak (kC (bl 1 0)) aS)) (au (bb 29 (tW a_)) (au (bb 26 (ai cI (ai cI (ai cI (ai cI (ai (aP 2) (ai (aP 3) (ai (aP 4) a_)))))))) (au (aQ 46 (.nm .sess)) (au (aQ 42 (.nm .opn)) (au (aQ 44 (.nm .snap)) aR))))) fun (_,_,_) ((c,_),(v,nx,kp,qt,_,_,_,_),se,op,sn,_)=>⟨[],[.agg (cellsOf (.nm .reply) ((bW c (State.mk v nx kp qt se op sn)).2))],some ([.box 29 (ba ((c))),.box 26 ([.int ((((bW c (State.mk v nx kp qt se op sn)).1).version)),.int ((((bW c (State.mk v nx kp qt se op sn)).1).next)),.int ((((bW c (State.mk v nx kp qt se op sn)).1).keep)),.int ((((bW c (State.mk v nx kp qt se op sn)).1).quota)),.own 2,.own 3,.own 4]),.row 46 (.nm .sess) ((((bW c (State.mk v nx kp qt se op sn)).1).sess)),.row 42 (.nm .opn) ((((bW c (State.mk v nx kp qt se op sn)).1).opens)),.row 44 (.nm .snap) ((((bW c (State.mk v nx kp qt se op sn)).1).snaps))]),false⟩) (bF 82 (bE (ak (kC (bl 0 0)) (ak Dn aS)) (au (bb 26 (ai cI (ai cI (ai cI (ai cI (ai (aP 1) (ai (aP 2) (ai (aP 3) a_)))))))) (au (aQ 46 (.nm .sess)) (au (aQ 42 (.nm .opn)) (au (aQ 44 (.nm .snap)) aR)))) fun (_,c,_) ((v,nx,kp,qt,_,_,_,_),se,op,sn,_)=>⟨[],[.c (.int ((bh (State.mk v nx kp qt se op sn) c)))],none,false⟩) oD))))
theorem jG:bk Try.prog (ao aI) sT:=(aB (aA (ag (az aq) (ag (az aF) (ag (az aF) ay))) (ah (aE (dw aC)) (ah (aE (ae aq (ae aq (ae aq (ae aq (ae aw (ae aw (ae aw aC)))))))) (ah av (ah av (ah av ax))))) fun (i,_,_,_) ((c,_),(v,nx,kp,qt,_,_,_,_),se,op,sn,_) hp=>AN i c v nx kp qt se op sn (dM hp)) (aB (aA (ag (az aF) (ag (az aF) ay)) (ah (aE (dw aC)) (ah (aE (ae aq (ae aq (ae aq (ae aq (ae aw (ae aw (ae aw aC)))))))) (ah av (ah av (ah av ax))))) fun (_,_,_) ((c,_),(v,nx,kp,qt,_,_,_,_),se,op,sn,_) hp=>FP c v nx kp qt se op sn (dM hp)) (aB (aA (ag (az aF) (ag (az aF) ay)) (ah (aE (dw aC)) (ah (aE (ae aq (ae aq (ae aq (ae aq (ae aw (ae aw (ae aw aC)))))))) (ah av (ah av (ah av ax))))) fun (_,_,_) ((c,_),(v,nx,kp,qt,_,_,_,_),se,op,sn,_) _=>Dx c v nx kp qt se op sn ) (aB (aA (ag (az aF) (ag fL ay)) (ah (aE (ae aq (ae aq (ae aq (ae aq (ae aw (ae aw (ae aw aC)))))))) (ah av (ah av (ah av ax)))) fun (_,c,_) ((v,nx,kp,qt,_,_,_,_),se,op,sn,_) _=>vA c v nx kp qt se op sn ) gS))))
def rY (c:Command) (v:Int) (nx:Int) (kp:Int) (qt:Int) (se:List Sess) (op:List Opn) (sn:List Snap):List (Nat × LI):=[(5,{ σ:=Nat,F:=fun k=>([(0,one (.ptr 0 0)),(3,one (.ptr 4 0)),(4,one (.ptr 5 0)),(6,one (.int k))],[.box 26 ([.int ((v)),.int ((nx)),.int ((kp)),.int ((qt)),.own 1,.own 2,.own 3]),.row 46 (.nm .sess) ((se)),.row 42 (.nm .opn) ((op)),.row 44 (.nm .snap) ((sn)),.box 29 (ba ((c))),.box 35 ([.int ((0)),.int ((0))])]),J:=fun k=>k<=op.length/\(op.take k).all (fun y=>decide (y.set<c.set))=true,μ:=fun k=>op.length - k })]
theorem yw (c:Command) (v:Int) (nx:Int) (kp:Int) (qt:Int) (se:List Sess) (op:List Opn) (sn:List Snap) (r0:Reply) (r1:Int) (r2:Int) (r3:Int) (r4:Int) (r5:List Sess) (r6:List Opn) (r7:List Snap):g_ aI sT (rY c v nx kp qt se op sn) Try.f54 [.c (.ptr 0 0),.agg (ba (c))] [.box 26 ([.int (v),.int (nx),.int (kp),.int (qt),.own 1,.own 2,.own 3]),.row 46 (.nm .sess) (se),.row 42 (.nm .opn) (op),.row 44 (.nm .snap) (sn)] [.agg (cellsOf (.nm .reply) r0)] [.box 26 ([.int (r1),.int (r2),.int (r3),.int (r4),.own 1,.own 2,.own 3]),.row 46 (.nm .sess) (r5),.row 42 (.nm .opn) (r6),.row 44 (.nm .snap) (r7)]=((fun (q5:Int)=>(fun (q4:den (Sh.nm NT.opn))=>(fun (q3:Int)=>(fun (q2:Int)=>(fun (q1:Int)=>(fun (q0:Prop)=>I64 c.kind->I64 c.client->I64 c.seq->I64 q5->I64 c.id->I64 c.n->c.text.b.length<=(140737488355328:Nat)->I64 q1->(q2<=q1->q2<=q1/\q1<q3/\(I64 (op.getD q1.toNat q4).set->I64 (op.getD q1.toNat q4).client->(16:Int)=r0.code/\(op.getD q1.toNat q4).client=r0.n/\v=r1/\nx=r2/\kp=r3/\qt=r4/\se=r5/\op=r6/\sn=r7))/\(q1<q2->∃ (s0:Nat),(q2=(↑s0:Int)/\q0)/\(s0<=op.length/\((List.take s0 op).all fun (y:Opn)=>decide (y.set<q5))=true)/\∀ (s:Nat),(fun (q7:Int)=>(fun (q6:Int)=>s<=op.length/\((List.take s op).all fun (y:Opn)=>decide (y.set<q5))=true->(q6<q3->q2<=q6/\q6<q3)/\((q6<q3->I64 q7/\I64 (op.getD s q4).client)->(q6<q3/\q7<q5->I64 (q6+(1:Int))/\∃ (s':Nat),(q6+(1:Int)=(↑s':Int)/\q0)/\(s' <= op.length/\((List.take s' op).all fun (y:Opn)=>decide (y.set<q5))=true)/\op.length - s' < op.length - s)/\(q3<=q6\/q5<=q7->((q2<=q6/\q6<=q3)/\op.length<(1048576:Nat)/\[Opn.mk q5 c.client].length=(1:Nat))/\q2=r0.code/\q2=r0.n/\v=r1/\nx=r2/\kp=r3/\qt=r4/\se=r5/\List.take s op++[Opn.mk q5 c.client]++List.drop s op=r6/\sn=r7))) (↑s:Int)) (op.getD s q4).set)) (v=v/\nx=nx/\kp=kp/\qt=qt/\se=se/\op=op/\sn=sn/\c.kind=c.kind/\c.client=c.client/\c.seq=c.seq/\q5=q5/\c.id=c.id/\c.n=c.n/\c.chunks=c.chunks/\c.text=c.text/\q2=q2/\q2=q2)) (aj Opn.set q5 op)) (0:Int)) (↑op.length:Int)) (aG (Sh.nm NT.opn))) c.set):=by kernel_rfl
theorem yG (c:Command) (v:Int) (nx:Int) (kp:Int) (qt:Int) (se:List Sess) (op:List Opn) (sn:List Snap) (h0:op.length<1048576):Sat Try.prog (ao aI) 54 [.c (.ptr 0 0),.agg (ba (c))] [.box 26 ([.int (v),.int (nx),.int (kp),.int (qt),.own 1,.own 2,.own 3]),.row 46 (.nm .sess) (se),.row 42 (.nm .opn) (op),.row 44 (.nm .snap) (sn)] ⟨[op.length<1048576],[.agg (cellsOf (.nm .reply) ((aJ (State.mk v nx kp qt se op sn) c).2))],some ([.box 26 ([.int ((((aJ (State.mk v nx kp qt se op sn) c).1).version)),.int ((((aJ (State.mk v nx kp qt se op sn) c).1).next)),.int ((((aJ (State.mk v nx kp qt se op sn) c).1).keep)),.int ((((aJ (State.mk v nx kp qt se op sn) c).1).quota)),.own 1,.own 2,.own 3]),.row 46 (.nm .sess) ((((aJ (State.mk v nx kp qt se op sn) c).1).sess)),.row 42 (.nm .opn) ((((aJ (State.mk v nx kp qt se op sn) c).1).opens)),.row 44 (.nm .snap) ((((aJ (State.mk v nx kp qt se op sn) c).1).snaps))]),false⟩:=by
 refine cf jG (rY c v nx kp qt se op sn) Try.func54 (by decide) (by kernel_rfl) ?_
 rw [yw]
 iterate 3 ((all_goals (repeat' (first | with_reducible apply cg | with_reducible refine cj ?_ | intro))); (all_goals try (first | exact cG | exact rfl | exact bz aO | exact (Gg aO aO aO) | exact (GH aO bt aO (by assumption)) | (rw [NY]; omega) | (rw [NU]; omega))); all_goals try first | refine ⟨‹Nat› + 1,?_⟩ | refine ⟨0,?_⟩)
theorem yH (c:Command) (v:Int) (nx:Int) (kp:Int) (qt:Int) (se:List Sess) (op:List Opn) (sn:List Snap) (r0:Reply) (r1:Int) (r2:Int) (r3:Int) (r4:Int) (r5:List Sess) (r6:List Opn) (r7:List Snap):g_ aI sT [] Try.f58 [.c (.ptr 0 0),.agg (ba (c))] [.box 26 ([.int (v),.int (nx),.int (kp),.int (qt),.own 1,.own 2,.own 3]),.row 46 (.nm .sess) (se),.row 42 (.nm .opn) (op),.row 44 (.nm .snap) (sn)] [.agg (cellsOf (.nm .reply) r0)] [.box 26 ([.int (r1),.int (r2),.int (r3),.int (r4),.own 1,.own 2,.own 3]),.row 46 (.nm .sess) (r5),.row 42 (.nm .opn) (r6),.row 44 (.nm .snap) (r7)]=((fun (q1:Int)=>(fun (q0:Int)=>I64 c.kind->I64 c.client->I64 c.seq->I64 c.set->I64 c.id->I64 c.n->c.text.b.length<=(140737488355328:Nat)->I64 q0->(q0<q1->I64 (15:Int)->I64 q1->(15:Int)=r0.code/\q1=r0.n/\v=r1/\nx=r2/\kp=r3/\qt=r4/\se=r5/\op=r6/\sn=r7)/\(q1<=q0->I64 (q0+(1:Int))/\(q1<=q0/\q0<(↑op.length:Int)/\q0+(1:Int)=q0+(1:Int))/\q1=r0.code/\q1=r0.n/\v=r1/\nx=r2/\kp=r3/\qt=r4/\se=r5/\List.take q0.toNat op++List.drop (q0+(1:Int)).toNat op=r6/\sn=r7)) (bh (State.mk v nx kp qt se op sn) c)) (0:Int)):=by kernel_rfl
theorem xA (c:Command) (v:Int) (nx:Int) (kp:Int) (qt:Int) (se:List Sess) (op:List Opn) (sn:List Snap) (h0:op.length<1048576):Sat Try.prog (ao aI) 58 [.c (.ptr 0 0),.agg (ba (c))] [.box 26 ([.int (v),.int (nx),.int (kp),.int (qt),.own 1,.own 2,.own 3]),.row 46 (.nm .sess) (se),.row 42 (.nm .opn) (op),.row 44 (.nm .snap) (sn)] ⟨[op.length<1048576],[.agg (cellsOf (.nm .reply) ((aN (State.mk v nx kp qt se op sn) c).2))],some ([.box 26 ([.int ((((aN (State.mk v nx kp qt se op sn) c).1).version)),.int ((((aN (State.mk v nx kp qt se op sn) c).1).next)),.int ((((aN (State.mk v nx kp qt se op sn) c).1).keep)),.int ((((aN (State.mk v nx kp qt se op sn) c).1).quota)),.own 1,.own 2,.own 3]),.row 46 (.nm .sess) ((((aN (State.mk v nx kp qt se op sn) c).1).sess)),.row 42 (.nm .opn) ((((aN (State.mk v nx kp qt se op sn) c).1).opens)),.row 44 (.nm .snap) ((((aN (State.mk v nx kp qt se op sn) c).1).snaps))]),false⟩:=by
 refine cf jG [] Try.func58 (by decide) (by kernel_rfl) ?_
 rw [yH]
 have hl:0<=bh (State.mk v nx kp qt se op sn) c->bh (State.mk v nx kp qt se op sn) c+1<=(op.length:Int):=fun h=>pG h
 (repeat' (first | with_reducible apply cg | with_reducible refine cj ?_ | intro))
 all_goals (first | exact cG | (rw [Ob]; omega) | (rw [NX]; omega))
theorem uF (c:Command) (v:Int) (nx:Int) (kp:Int) (qt:Int) (se:List Sess) (op:List Opn) (sn:List Snap) (r0:Reply) (r1:Int) (r2:Int) (r3:Int) (r4:Int) (r5:List Sess) (r6:List Opn) (r7:List Snap):g_ aI sT [] Try.f56 [.c (.ptr 0 0),.agg (ba (c))] [.box 26 ([.int (v),.int (nx),.int (kp),.int (qt),.own 1,.own 2,.own 3]),.row 46 (.nm .sess) (se),.row 42 (.nm .opn) (op),.row 44 (.nm .snap) (sn)] [.agg (cellsOf (.nm .reply) r0)] [.box 26 ([.int (r1),.int (r2),.int (r3),.int (r4),.own 1,.own 2,.own 3]),.row 46 (.nm .sess) (r5),.row 42 (.nm .opn) (r6),.row 44 (.nm .snap) (r7)]=((fun (q5:Snap)=>(fun (q4:Int)=>(fun (q3:Int)=>(fun (q2:Int)=>(fun (q1:Prop)=>(fun (q0:Int)=>I64 c.kind->I64 c.client->I64 c.seq->I64 c.set->I64 c.id->I64 c.n->c.text.b.length<=(140737488355328:Nat)->I64 q0->(q0<q3->I64 (15:Int)->I64 q3->(15:Int)=r0.code/\q1)/\(q3<=q0->((16:Int)<=(↑sn.length:Int)\/(1048576:Int)<=nx->I64 (20:Int)->I64 q3->(20:Int)=r0.code/\q1)/\((↑sn.length:Int)<(16:Int)/\nx<(1048576:Int)->(¬qt=q3->nch sn<=(1048576:Nat))/\((¬qt=q3->I64 q2)->(¬qt=q3/\qt<q2->I64 (19:Int)->I64 q3->(19:Int)=r0.code/\q1)/\(qt=q3\/q2<=qt->(sn.length+[q5].length)*(64:Nat)<=(140737488355328:Nat)/\I64 (nx+q4)/\I64 (q0+q4)/\(q3<=q0/\q0<(↑op.length:Int)/\q0+q4=q0+q4)/\q3=r0.code/\nx=r0.n/\v=r1/\nx+q4=r2/\kp=r3/\qt=r4/\se=r5/\List.take q0.toNat op++List.drop (q0+q4).toNat op=r6/\sn++[q5]=r7))))) (bh (State.mk v nx kp qt se op sn) c)) (q3=r0.n/\v=r1/\nx=r2/\kp=r3/\qt=r4/\se=r5/\op=r6/\sn=r7)) (↑(ej (sn++[Snap.mk q3 q3 c.chunks false (Str.mk [])])):Int)) (0:Int)) (1:Int)) (Snap.mk nx c.set c.chunks false (Str.mk []))):=by kernel_rfl
theorem vl (c:Command) (v:Int) (nx:Int) (kp:Int) (qt:Int) (se:List Sess) (op:List Opn) (sn:List Snap) (h0:nch sn<=1048576) (h1:sn.length<1048576) (h2:op.length<1048576) (h3:0<=nx):Sat Try.prog (ao aI) 56 [.c (.ptr 0 0),.agg (ba (c))] [.box 26 ([.int (v),.int (nx),.int (kp),.int (qt),.own 1,.own 2,.own 3]),.row 46 (.nm .sess) (se),.row 42 (.nm .opn) (op),.row 44 (.nm .snap) (sn)] ⟨[nch sn<=1048576,sn.length<1048576,op.length<1048576,0<=nx],[.agg (cellsOf (.nm .reply) ((aH (State.mk v nx kp qt se op sn) c).2))],some ([.box 26 ([.int ((((aH (State.mk v nx kp qt se op sn) c).1).version)),.int ((((aH (State.mk v nx kp qt se op sn) c).1).next)),.int ((((aH (State.mk v nx kp qt se op sn) c).1).keep)),.int ((((aH (State.mk v nx kp qt se op sn) c).1).quota)),.own 1,.own 2,.own 3]),.row 46 (.nm .sess) ((((aH (State.mk v nx kp qt se op sn) c).1).sess)),.row 42 (.nm .opn) ((((aH (State.mk v nx kp qt se op sn) c).1).opens)),.row 44 (.nm .snap) ((((aH (State.mk v nx kp qt se op sn) c).1).snaps))]),false⟩:=by
 refine cf jG [] Try.func56 (by decide) (by kernel_rfl) ?_
 rw [uF]
 have hl:0<=bh (State.mk v nx kp qt se op sn) c->bh (State.mk v nx kp qt se op sn) c+1<=(op.length:Int):=fun h=>pG h
 (repeat' (first | with_reducible apply cg | with_reducible refine cj ?_ | intro))
 all_goals (first | exact cG | (simp only [aH,sW]; grind) | (simp only [List.length_cons,List.length_nil]; omega))
def jw:cO:=(bF 56 (bE (ak (kC (bl 0 0)) (ak Dn aS)) (au (bb 26 (ai cI (ai cI (ai cI (ai cI (ai (aP 1) (ai (aP 2) (ai (aP 3) a_)))))))) (au (aQ 46 (.nm .sess)) (au (aQ 42 (.nm .opn)) (au (aQ 44 (.nm .snap)) aR)))) fun (_,c,_) ((v,nx,kp,qt,_,_,_,_),se,op,sn,_)=>⟨[nch sn<=1048576,sn.length<1048576,op.length<1048576,0<=nx],[.agg (cellsOf (.nm .reply) ((aH (State.mk v nx kp qt se op sn) c).2))],some ([.box 26 ([.int ((((aH (State.mk v nx kp qt se op sn) c).1).version)),.int ((((aH (State.mk v nx kp qt se op sn) c).1).next)),.int ((((aH (State.mk v nx kp qt se op sn) c).1).keep)),.int ((((aH (State.mk v nx kp qt se op sn) c).1).quota)),.own 1,.own 2,.own 3]),.row 46 (.nm .sess) ((((aH (State.mk v nx kp qt se op sn) c).1).sess)),.row 42 (.nm .opn) ((((aH (State.mk v nx kp qt se op sn) c).1).opens)),.row 44 (.nm .snap) ((((aH (State.mk v nx kp qt se op sn) c).1).snaps))]),false⟩) (bF 58 (bE (ak (kC (bl 0 0)) (ak Dn aS)) (au (bb 26 (ai cI (ai cI (ai cI (ai cI (ai (aP 1) (ai (aP 2) (ai (aP 3) a_)))))))) (au (aQ 46 (.nm .sess)) (au (aQ 42 (.nm .opn)) (au (aQ 44 (.nm .snap)) aR)))) fun (_,c,_) ((v,nx,kp,qt,_,_,_,_),se,op,sn,_)=>⟨[op.length<1048576],[.agg (cellsOf (.nm .reply) ((aN (State.mk v nx kp qt se op sn) c).2))],some ([.box 26 ([.int ((((aN (State.mk v nx kp qt se op sn) c).1).version)),.int ((((aN (State.mk v nx kp qt se op sn) c).1).next)),.int ((((aN (State.mk v nx kp qt se op sn) c).1).keep)),.int ((((aN (State.mk v nx kp qt se op sn) c).1).quota)),.own 1,.own 2,.own 3]),.row 46 (.nm .sess) ((((aN (State.mk v nx kp qt se op sn) c).1).sess)),.row 42 (.nm .opn) ((((aN (State.mk v nx kp qt se op sn) c).1).opens)),.row 44 (.nm .snap) ((((aN (State.mk v nx kp qt se op sn) c).1).snaps))]),false⟩) (bF 54 (bE (ak (kC (bl 0 0)) (ak Dn aS)) (au (bb 26 (ai cI (ai cI (ai cI (ai cI (ai (aP 1) (ai (aP 2) (ai (aP 3) a_)))))))) (au (aQ 46 (.nm .sess)) (au (aQ 42 (.nm .opn)) (au (aQ 44 (.nm .snap)) aR)))) fun (_,c,_) ((v,nx,kp,qt,_,_,_,_),se,op,sn,_)=>⟨[op.length<1048576],[.agg (cellsOf (.nm .reply) ((aJ (State.mk v nx kp qt se op sn) c).2))],some ([.box 26 ([.int ((((aJ (State.mk v nx kp qt se op sn) c).1).version)),.int ((((aJ (State.mk v nx kp qt se op sn) c).1).next)),.int ((((aJ (State.mk v nx kp qt se op sn) c).1).keep)),.int ((((aJ (State.mk v nx kp qt se op sn) c).1).quota)),.own 1,.own 2,.own 3]),.row 46 (.nm .sess) ((((aJ (State.mk v nx kp qt se op sn) c).1).sess)),.row 42 (.nm .opn) ((((aJ (State.mk v nx kp qt se op sn) c).1).opens)),.row 44 (.nm .snap) ((((aJ (State.mk v nx kp qt se op sn) c).1).snaps))]),false⟩) sT)))
theorem ea:bk Try.prog (ao aI) jw:=(aB (aA (ag (az aF) (ag fL ay)) (ah (aE (ae aq (ae aq (ae aq (ae aq (ae aw (ae aw (ae aw aC)))))))) (ah av (ah av (ah av ax)))) fun (_,c,_) ((v,nx,kp,qt,_,_,_,_),se,op,sn,_) hp=>vl c v nx kp qt se op sn (dM hp) (dM (iD hp)) (dM (iD (iD hp))) (dM (iD (iD (iD hp))))) (aB (aA (ag (az aF) (ag fL ay)) (ah (aE (ae aq (ae aq (ae aq (ae aq (ae aw (ae aw (ae aw aC)))))))) (ah av (ah av (ah av ax)))) fun (_,c,_) ((v,nx,kp,qt,_,_,_,_),se,op,sn,_) hp=>xA c v nx kp qt se op sn (dM hp)) (aB (aA (ag (az aF) (ag fL ay)) (ah (aE (ae aq (ae aq (ae aq (ae aq (ae aw (ae aw (ae aw aC)))))))) (ah av (ah av (ah av ax)))) fun (_,c,_) ((v,nx,kp,qt,_,_,_,_),se,op,sn,_) hp=>yG c v nx kp qt se op sn (dM hp)) jG)))
theorem Em (v:Int) (nx:Int) (kp:Int) (qt:Int) (se:List Sess) (op:List Opn) (sn:List Snap) (c:Command) (r0:Reply) (r1:Int) (r2:Int) (r3:Int) (r4:Int) (r5:List Sess) (r6:List Opn) (r7:List Snap) (r8:Command):g_ aI jw [] Try.f53 [.c (.ptr 0 0),.c (.ptr 4 0)] [.box 26 ([.int (v),.int (nx),.int (kp),.int (qt),.own 1,.own 2,.own 3]),.row 46 (.nm .sess) (se),.row 42 (.nm .opn) (op),.row 44 (.nm .snap) (sn),.box 29 (ba (c))] [.agg (cellsOf (.nm .reply) r0)] [.box 26 ([.int (r1),.int (r2),.int (r3),.int (r4),.own 1,.own 2,.own 3]),.row 46 (.nm .sess) (r5),.row 42 (.nm .opn) (r6),.row 44 (.nm .snap) (r7),.box 29 (ba (r8))]=((fun (q0:State × Reply)=>op.length<(1048576:Nat)/\(I64 q0.snd.code->I64 q0.snd.n->q0.snd.code=r0.code/\q0.snd.n=r0.n/\q0.fst.version=r1/\q0.fst.next=r2/\q0.fst.keep=r3/\q0.fst.quota=r4/\q0.fst.sess=r5/\q0.fst.opens=r6/\q0.fst.snaps=r7/\c.kind=r8.kind/\c.client=r8.client/\c.seq=r8.seq/\c.set=r8.set/\c.id=r8.id/\c.n=r8.n/\c.chunks=r8.chunks/\c.text=r8.text)) (aJ (State.mk v nx kp qt se op sn) c)):=by kernel_rfl
theorem Dw (v:Int) (nx:Int) (kp:Int) (qt:Int) (se:List Sess) (op:List Opn) (sn:List Snap) (c:Command) (h0:op.length<1048576):Sat Try.prog (ao aI) 53 [.c (.ptr 0 0),.c (.ptr 4 0)] [.box 26 ([.int (v),.int (nx),.int (kp),.int (qt),.own 1,.own 2,.own 3]),.row 46 (.nm .sess) (se),.row 42 (.nm .opn) (op),.row 44 (.nm .snap) (sn),.box 29 (ba (c))] ⟨[op.length<1048576],[.agg (cellsOf (.nm .reply) ((aJ (State.mk v nx kp qt se op sn) c).2))],some ([.box 26 ([.int ((((aJ (State.mk v nx kp qt se op sn) c).1).version)),.int ((((aJ (State.mk v nx kp qt se op sn) c).1).next)),.int ((((aJ (State.mk v nx kp qt se op sn) c).1).keep)),.int ((((aJ (State.mk v nx kp qt se op sn) c).1).quota)),.own 1,.own 2,.own 3]),.row 46 (.nm .sess) ((((aJ (State.mk v nx kp qt se op sn) c).1).sess)),.row 42 (.nm .opn) ((((aJ (State.mk v nx kp qt se op sn) c).1).opens)),.row 44 (.nm .snap) ((((aJ (State.mk v nx kp qt se op sn) c).1).snaps)),.box 29 (ba ((c)))]),false⟩:=by
 refine cf ea [] Try.func53 (by decide) (by kernel_rfl) ?_
 rw [Em]
 (repeat' (first | with_reducible apply cg | with_reducible refine cj ?_ | intro))
 all_goals (first | exact cG | exact rfl)
theorem FT (v:Int) (nx:Int) (kp:Int) (qt:Int) (se:List Sess) (op:List Opn) (sn:List Snap) (c:Command) (r0:Reply) (r1:Int) (r2:Int) (r3:Int) (r4:Int) (r5:List Sess) (r6:List Opn) (r7:List Snap) (r8:Command):g_ aI jw [] Try.f55 [.c (.ptr 0 0),.c (.ptr 4 0)] [.box 26 ([.int (v),.int (nx),.int (kp),.int (qt),.own 1,.own 2,.own 3]),.row 46 (.nm .sess) (se),.row 42 (.nm .opn) (op),.row 44 (.nm .snap) (sn),.box 29 (ba (c))] [.agg (cellsOf (.nm .reply) r0)] [.box 26 ([.int (r1),.int (r2),.int (r3),.int (r4),.own 1,.own 2,.own 3]),.row 46 (.nm .sess) (r5),.row 42 (.nm .opn) (r6),.row 44 (.nm .snap) (r7),.box 29 (ba (r8))]=((fun (q0:State × Reply)=>nch sn<=(1048576:Nat)/\sn.length<(1048576:Nat)/\op.length<(1048576:Nat)/\(0:Int)<=nx/\(I64 q0.snd.code->I64 q0.snd.n->q0.snd.code=r0.code/\q0.snd.n=r0.n/\q0.fst.version=r1/\q0.fst.next=r2/\q0.fst.keep=r3/\q0.fst.quota=r4/\q0.fst.sess=r5/\q0.fst.opens=r6/\q0.fst.snaps=r7/\c.kind=r8.kind/\c.client=r8.client/\c.seq=r8.seq/\c.set=r8.set/\c.id=r8.id/\c.n=r8.n/\c.chunks=r8.chunks/\c.text=r8.text)) (aH (State.mk v nx kp qt se op sn) c)):=by kernel_rfl
theorem ER (v:Int) (nx:Int) (kp:Int) (qt:Int) (se:List Sess) (op:List Opn) (sn:List Snap) (c:Command) (h0:nch sn<=1048576) (h1:sn.length<1048576) (h2:op.length<1048576) (h3:0<=nx):Sat Try.prog (ao aI) 55 [.c (.ptr 0 0),.c (.ptr 4 0)] [.box 26 ([.int (v),.int (nx),.int (kp),.int (qt),.own 1,.own 2,.own 3]),.row 46 (.nm .sess) (se),.row 42 (.nm .opn) (op),.row 44 (.nm .snap) (sn),.box 29 (ba (c))] ⟨[nch sn<=1048576,sn.length<1048576,op.length<1048576,0<=nx],[.agg (cellsOf (.nm .reply) ((aH (State.mk v nx kp qt se op sn) c).2))],some ([.box 26 ([.int ((((aH (State.mk v nx kp qt se op sn) c).1).version)),.int ((((aH (State.mk v nx kp qt se op sn) c).1).next)),.int ((((aH (State.mk v nx kp qt se op sn) c).1).keep)),.int ((((aH (State.mk v nx kp qt se op sn) c).1).quota)),.own 1,.own 2,.own 3]),.row 46 (.nm .sess) ((((aH (State.mk v nx kp qt se op sn) c).1).sess)),.row 42 (.nm .opn) ((((aH (State.mk v nx kp qt se op sn) c).1).opens)),.row 44 (.nm .snap) ((((aH (State.mk v nx kp qt se op sn) c).1).snaps)),.box 29 (ba ((c)))]),false⟩:=by
 refine cf ea [] Try.func55 (by decide) (by kernel_rfl) ?_
 rw [FT]
 (repeat' (first | with_reducible apply cg | with_reducible refine cj ?_ | intro))
 all_goals (first | exact cG | exact rfl)
theorem Fa (v:Int) (nx:Int) (kp:Int) (qt:Int) (se:List Sess) (op:List Opn) (sn:List Snap) (c:Command) (r0:Reply) (r1:Int) (r2:Int) (r3:Int) (r4:Int) (r5:List Sess) (r6:List Opn) (r7:List Snap) (r8:Command):g_ aI jw [] Try.f57 [.c (.ptr 0 0),.c (.ptr 4 0)] [.box 26 ([.int (v),.int (nx),.int (kp),.int (qt),.own 1,.own 2,.own 3]),.row 46 (.nm .sess) (se),.row 42 (.nm .opn) (op),.row 44 (.nm .snap) (sn),.box 29 (ba (c))] [.agg (cellsOf (.nm .reply) r0)] [.box 26 ([.int (r1),.int (r2),.int (r3),.int (r4),.own 1,.own 2,.own 3]),.row 46 (.nm .sess) (r5),.row 42 (.nm .opn) (r6),.row 44 (.nm .snap) (r7),.box 29 (ba (r8))]=((fun (q0:State × Reply)=>op.length<(1048576:Nat)/\(I64 q0.snd.code->I64 q0.snd.n->q0.snd.code=r0.code/\q0.snd.n=r0.n/\q0.fst.version=r1/\q0.fst.next=r2/\q0.fst.keep=r3/\q0.fst.quota=r4/\q0.fst.sess=r5/\q0.fst.opens=r6/\q0.fst.snaps=r7/\c.kind=r8.kind/\c.client=r8.client/\c.seq=r8.seq/\c.set=r8.set/\c.id=r8.id/\c.n=r8.n/\c.chunks=r8.chunks/\c.text=r8.text)) (aN (State.mk v nx kp qt se op sn) c)):=by kernel_rfl
theorem Ex (v:Int) (nx:Int) (kp:Int) (qt:Int) (se:List Sess) (op:List Opn) (sn:List Snap) (c:Command) (h0:op.length<1048576):Sat Try.prog (ao aI) 57 [.c (.ptr 0 0),.c (.ptr 4 0)] [.box 26 ([.int (v),.int (nx),.int (kp),.int (qt),.own 1,.own 2,.own 3]),.row 46 (.nm .sess) (se),.row 42 (.nm .opn) (op),.row 44 (.nm .snap) (sn),.box 29 (ba (c))] ⟨[op.length<1048576],[.agg (cellsOf (.nm .reply) ((aN (State.mk v nx kp qt se op sn) c).2))],some ([.box 26 ([.int ((((aN (State.mk v nx kp qt se op sn) c).1).version)),.int ((((aN (State.mk v nx kp qt se op sn) c).1).next)),.int ((((aN (State.mk v nx kp qt se op sn) c).1).keep)),.int ((((aN (State.mk v nx kp qt se op sn) c).1).quota)),.own 1,.own 2,.own 3]),.row 46 (.nm .sess) ((((aN (State.mk v nx kp qt se op sn) c).1).sess)),.row 42 (.nm .opn) ((((aN (State.mk v nx kp qt se op sn) c).1).opens)),.row 44 (.nm .snap) ((((aN (State.mk v nx kp qt se op sn) c).1).snaps)),.box 29 (ba ((c)))]),false⟩:=by
 refine cf ea [] Try.func57 (by decide) (by kernel_rfl) ?_
 rw [Fa]
 (repeat' (first | with_reducible apply cg | with_reducible refine cj ?_ | intro))
 all_goals (first | exact cG | exact rfl)
theorem oq (v:Int) (nx:Int) (kp:Int) (qt:Int) (se:List Sess) (op:List Opn) (sn:List Snap) (c:Command) (r0:Int) (r1:Int) (r2:Int) (r3:Int) (r4:List Sess) (r5:List Opn) (r6:List Snap) (r7:Command):lF aI jw [] Try.f48 [.c (.fn 62 [] [(0,0)]),.c (.ptr 0 0),.c (.ptr 4 0)] [.box 26 ([.int (v),.int (nx),.int (kp),.int (qt),.own 1,.own 2,.own 3]),.row 46 (.nm .sess) (se),.row 42 (.nm .opn) (op),.row 44 (.nm .snap) (sn),.box 29 (ba (c))] [.c (.fn 49 [] [(0,0),(4,0),(5,0)])] [.box 26 ([.int (r0),.int (r1),.int (r2),.int (r3),.own 1,.own 2,.own 3]),.row 46 (.nm .sess) (r4),.row 42 (.nm .opn) (r5),.row 44 (.nm .snap) (r6),.box 29 (ba (r7)),.box 77 ([.fn 62 [] [(0,0)]])]=(v=r0/\nx=r1/\kp=r2/\qt=r3/\se=r4/\op=r5/\sn=r6/\c.kind=r7.kind/\c.client=r7.client/\c.seq=r7.seq/\c.set=r7.set/\c.id=r7.id/\c.n=r7.n/\c.chunks=r7.chunks/\c.text=r7.text):=by kernel_rfl
theorem oe (v:Int) (nx:Int) (kp:Int) (qt:Int) (se:List Sess) (op:List Opn) (sn:List Snap) (c:Command):Sat Try.prog (ao aI) 48 [.c (.fn 62 [] [(0,0)]),.c (.ptr 0 0),.c (.ptr 4 0)] [.box 26 ([.int (v),.int (nx),.int (kp),.int (qt),.own 1,.own 2,.own 3]),.row 46 (.nm .sess) (se),.row 42 (.nm .opn) (op),.row 44 (.nm .snap) (sn),.box 29 (ba (c))] ⟨[],[.c (.fn 49 [] [(0,0),(4,0),(5,0)])],some ([.box 26 ([.int ((v)),.int ((nx)),.int ((kp)),.int ((qt)),.own 1,.own 2,.own 3]),.row 46 (.nm .sess) ((se)),.row 42 (.nm .opn) ((op)),.row 44 (.nm .snap) ((sn)),.box 29 (ba ((c))),.box 77 ([.fn 62 [] [(0,0)]])]),true⟩:=by
 refine di ea [] Try.func48 (by decide) (by kernel_rfl) ?_
 rw [oq]
 (repeat' (first | with_reducible apply cg | with_reducible refine cj ?_ | intro))
 all_goals (first | exact cG | exact rfl)
theorem qZ (v:Int) (nx:Int) (kp:Int) (qt:Int) (se:List Sess) (op:List Opn) (sn:List Snap) (c:Command) (r0:Int) (r1:Int) (r2:Int) (r3:Int) (r4:List Sess) (r5:List Opn) (r6:List Snap) (r7:Command):lF aI jw [] Try.f48 [.c (.fn 64 [] [(0,0)]),.c (.ptr 0 0),.c (.ptr 4 0)] [.box 26 ([.int (v),.int (nx),.int (kp),.int (qt),.own 1,.own 2,.own 3]),.row 46 (.nm .sess) (se),.row 42 (.nm .opn) (op),.row 44 (.nm .snap) (sn),.box 29 (ba (c))] [.c (.fn 49 [] [(0,0),(4,0),(5,0)])] [.box 26 ([.int (r0),.int (r1),.int (r2),.int (r3),.own 1,.own 2,.own 3]),.row 46 (.nm .sess) (r4),.row 42 (.nm .opn) (r5),.row 44 (.nm .snap) (r6),.box 29 (ba (r7)),.box 77 ([.fn 64 [] [(0,0)]])]=(v=r0/\nx=r1/\kp=r2/\qt=r3/\se=r4/\op=r5/\sn=r6/\c.kind=r7.kind/\c.client=r7.client/\c.seq=r7.seq/\c.set=r7.set/\c.id=r7.id/\c.n=r7.n/\c.chunks=r7.chunks/\c.text=r7.text):=by kernel_rfl
theorem qG (v:Int) (nx:Int) (kp:Int) (qt:Int) (se:List Sess) (op:List Opn) (sn:List Snap) (c:Command):Sat Try.prog (ao aI) 48 [.c (.fn 64 [] [(0,0)]),.c (.ptr 0 0),.c (.ptr 4 0)] [.box 26 ([.int (v),.int (nx),.int (kp),.int (qt),.own 1,.own 2,.own 3]),.row 46 (.nm .sess) (se),.row 42 (.nm .opn) (op),.row 44 (.nm .snap) (sn),.box 29 (ba (c))] ⟨[],[.c (.fn 49 [] [(0,0),(4,0),(5,0)])],some ([.box 26 ([.int ((v)),.int ((nx)),.int ((kp)),.int ((qt)),.own 1,.own 2,.own 3]),.row 46 (.nm .sess) ((se)),.row 42 (.nm .opn) ((op)),.row 44 (.nm .snap) ((sn)),.box 29 (ba ((c))),.box 77 ([.fn 64 [] [(0,0)]])]),true⟩:=by
 refine di ea [] Try.func48 (by decide) (by kernel_rfl) ?_
 rw [qZ]
 (repeat' (first | with_reducible apply cg | with_reducible refine cj ?_ | intro))
 all_goals (first | exact cG | exact rfl)
theorem rq (c:Command) (v:Int) (nx:Int) (kp:Int) (qt:Int) (se:List Sess) (op:List Opn) (sn:List Snap) (r0:Command) (r1:Int) (r2:Int) (r3:Int) (r4:Int) (r5:List Sess) (r6:List Opn) (r7:List Snap):lF aI jw [] Try.f48 [.c (.fn 65 [] [(0,0),(1,0)]),.c (.ptr 1 0),.c (.ptr 0 0)] [.box 29 (ba (c)),.box 26 ([.int (v),.int (nx),.int (kp),.int (qt),.own 2,.own 3,.own 4]),.row 46 (.nm .sess) (se),.row 42 (.nm .opn) (op),.row 44 (.nm .snap) (sn)] [.c (.fn 49 [] [(1,0),(0,0),(5,0)])] [.box 29 (ba (r0)),.box 26 ([.int (r1),.int (r2),.int (r3),.int (r4),.own 2,.own 3,.own 4]),.row 46 (.nm .sess) (r5),.row 42 (.nm .opn) (r6),.row 44 (.nm .snap) (r7),.box 77 ([.fn 65 [] [(0,0),(1,0)]])]=(c.kind=r0.kind/\c.client=r0.client/\c.seq=r0.seq/\c.set=r0.set/\c.id=r0.id/\c.n=r0.n/\c.chunks=r0.chunks/\c.text=r0.text/\v=r1/\nx=r2/\kp=r3/\qt=r4/\se=r5/\op=r6/\sn=r7):=by kernel_rfl
theorem sF (c:Command) (v:Int) (nx:Int) (kp:Int) (qt:Int) (se:List Sess) (op:List Opn) (sn:List Snap):Sat Try.prog (ao aI) 48 [.c (.fn 65 [] [(0,0),(1,0)]),.c (.ptr 1 0),.c (.ptr 0 0)] [.box 29 (ba (c)),.box 26 ([.int (v),.int (nx),.int (kp),.int (qt),.own 2,.own 3,.own 4]),.row 46 (.nm .sess) (se),.row 42 (.nm .opn) (op),.row 44 (.nm .snap) (sn)] ⟨[],[.c (.fn 49 [] [(1,0),(0,0),(5,0)])],some ([.box 29 (ba ((c))),.box 26 ([.int ((v)),.int ((nx)),.int ((kp)),.int ((qt)),.own 2,.own 3,.own 4]),.row 46 (.nm .sess) ((se)),.row 42 (.nm .opn) ((op)),.row 44 (.nm .snap) ((sn)),.box 77 ([.fn 65 [] [(0,0),(1,0)]])]),true⟩:=by
 refine di ea [] Try.func48 (by decide) (by kernel_rfl) ?_
 rw [rq]
 (repeat' (first | with_reducible apply cg | with_reducible refine cj ?_ | intro))
 all_goals (first | exact cG | exact rfl)
theorem pT (v:Int) (nx:Int) (kp:Int) (qt:Int) (se:List Sess) (op:List Opn) (sn:List Snap) (b:Bool) (c:Command) (r0:Int) (r1:Int) (r2:Int) (r3:Int) (r4:List Sess) (r5:List Opn) (r6:List Snap) (r7:Bool) (r8:Command):lF aI jw [] Try.f48 [.c (.fn 52 [] [(0,0),(4,0)]),.c (.ptr 0 0),.c (.ptr 5 0)] [.box 26 ([.int (v),.int (nx),.int (kp),.int (qt),.own 1,.own 2,.own 3]),.row 46 (.nm .sess) (se),.row 42 (.nm .opn) (op),.row 44 (.nm .snap) (sn),.box 4 ([.bool (.atom (b))]),.box 29 (ba (c))] [.c (.fn 49 [] [(0,0),(5,0),(6,0)])] [.box 26 ([.int (r0),.int (r1),.int (r2),.int (r3),.own 1,.own 2,.own 3]),.row 46 (.nm .sess) (r4),.row 42 (.nm .opn) (r5),.row 44 (.nm .snap) (r6),.box 4 ([.bool (.atom (r7))]),.box 29 (ba (r8)),.box 77 ([.fn 52 [] [(0,0),(4,0)]])]=(v=r0/\nx=r1/\kp=r2/\qt=r3/\se=r4/\op=r5/\sn=r6/\b=r7/\c.kind=r8.kind/\c.client=r8.client/\c.seq=r8.seq/\c.set=r8.set/\c.id=r8.id/\c.n=r8.n/\c.chunks=r8.chunks/\c.text=r8.text):=by kernel_rfl
theorem qa (v:Int) (nx:Int) (kp:Int) (qt:Int) (se:List Sess) (op:List Opn) (sn:List Snap) (b:Bool) (c:Command):Sat Try.prog (ao aI) 48 [.c (.fn 52 [] [(0,0),(4,0)]),.c (.ptr 0 0),.c (.ptr 5 0)] [.box 26 ([.int (v),.int (nx),.int (kp),.int (qt),.own 1,.own 2,.own 3]),.row 46 (.nm .sess) (se),.row 42 (.nm .opn) (op),.row 44 (.nm .snap) (sn),.box 4 ([.bool (.atom (b))]),.box 29 (ba (c))] ⟨[],[.c (.fn 49 [] [(0,0),(5,0),(6,0)])],some ([.box 26 ([.int ((v)),.int ((nx)),.int ((kp)),.int ((qt)),.own 1,.own 2,.own 3]),.row 46 (.nm .sess) ((se)),.row 42 (.nm .opn) ((op)),.row 44 (.nm .snap) ((sn)),.box 4 ([.bool (.atom ((b)))]),.box 29 (ba ((c))),.box 77 ([.fn 52 [] [(0,0),(4,0)]])]),true⟩:=by
 refine di ea [] Try.func48 (by decide) (by kernel_rfl) ?_
 rw [pT]
 (repeat' (first | with_reducible apply cg | with_reducible refine cj ?_ | intro))
 all_goals (first | exact cG | exact rfl)
def m_:cO:=(bF 48 (bE (ak (kC (iK 52 [] [(0,0),(4,0)])) (ak (kC (bl 0 0)) (ak (kC (bl 5 0)) aS))) (au (bb 26 (ai cI (ai cI (ai cI (ai cI (ai (aP 1) (ai (aP 2) (ai (aP 3) a_)))))))) (au (aQ 46 (.nm .sess)) (au (aQ 42 (.nm .opn)) (au (aQ 44 (.nm .snap)) (au (bb 4 (ai cB a_)) (au (bb 29 (tW a_)) aR)))))) fun (_,_,_,_) ((v,nx,kp,qt,_,_,_,_),se,op,sn,(b,_),(c,_),_)=>⟨[],[.c (.fn 49 [] [(0,0),(5,0),(6,0)])],some ([.box 26 ([.int ((v)),.int ((nx)),.int ((kp)),.int ((qt)),.own 1,.own 2,.own 3]),.row 46 (.nm .sess) ((se)),.row 42 (.nm .opn) ((op)),.row 44 (.nm .snap) ((sn)),.box 4 ([.bool (.atom ((b)))]),.box 29 (ba ((c))),.box 77 ([.fn 52 [] [(0,0),(4,0)]])]),true⟩) (bF 48 (bE (ak (kC (iK 65 [] [(0,0),(1,0)])) (ak (kC (bl 1 0)) (ak (kC (bl 0 0)) aS))) (au (bb 29 (tW a_)) (au (bb 26 (ai cI (ai cI (ai cI (ai cI (ai (aP 2) (ai (aP 3) (ai (aP 4) a_)))))))) (au (aQ 46 (.nm .sess)) (au (aQ 42 (.nm .opn)) (au (aQ 44 (.nm .snap)) aR))))) fun (_,_,_,_) ((c,_),(v,nx,kp,qt,_,_,_,_),se,op,sn,_)=>⟨[],[.c (.fn 49 [] [(1,0),(0,0),(5,0)])],some ([.box 29 (ba ((c))),.box 26 ([.int ((v)),.int ((nx)),.int ((kp)),.int ((qt)),.own 2,.own 3,.own 4]),.row 46 (.nm .sess) ((se)),.row 42 (.nm .opn) ((op)),.row 44 (.nm .snap) ((sn)),.box 77 ([.fn 65 [] [(0,0),(1,0)]])]),true⟩) (bF 48 (bE (ak (kC (iK 64 [] [(0,0)])) (ak (kC (bl 0 0)) (ak (kC (bl 4 0)) aS))) (au (bb 26 (ai cI (ai cI (ai cI (ai cI (ai (aP 1) (ai (aP 2) (ai (aP 3) a_)))))))) (au (aQ 46 (.nm .sess)) (au (aQ 42 (.nm .opn)) (au (aQ 44 (.nm .snap)) (au (bb 29 (tW a_)) aR))))) fun (_,_,_,_) ((v,nx,kp,qt,_,_,_,_),se,op,sn,(c,_),_)=>⟨[],[.c (.fn 49 [] [(0,0),(4,0),(5,0)])],some ([.box 26 ([.int ((v)),.int ((nx)),.int ((kp)),.int ((qt)),.own 1,.own 2,.own 3]),.row 46 (.nm .sess) ((se)),.row 42 (.nm .opn) ((op)),.row 44 (.nm .snap) ((sn)),.box 29 (ba ((c))),.box 77 ([.fn 64 [] [(0,0)]])]),true⟩) (bF 48 (bE (ak (kC (iK 62 [] [(0,0)])) (ak (kC (bl 0 0)) (ak (kC (bl 4 0)) aS))) (au (bb 26 (ai cI (ai cI (ai cI (ai cI (ai (aP 1) (ai (aP 2) (ai (aP 3) a_)))))))) (au (aQ 46 (.nm .sess)) (au (aQ 42 (.nm .opn)) (au (aQ 44 (.nm .snap)) (au (bb 29 (tW a_)) aR))))) fun (_,_,_,_) ((v,nx,kp,qt,_,_,_,_),se,op,sn,(c,_),_)=>⟨[],[.c (.fn 49 [] [(0,0),(4,0),(5,0)])],some ([.box 26 ([.int ((v)),.int ((nx)),.int ((kp)),.int ((qt)),.own 1,.own 2,.own 3]),.row 46 (.nm .sess) ((se)),.row 42 (.nm .opn) ((op)),.row 44 (.nm .snap) ((sn)),.box 29 (ba ((c))),.box 77 ([.fn 62 [] [(0,0)]])]),true⟩) (bF 57 (bE (ak (kC (bl 0 0)) (ak (kC (bl 4 0)) aS)) (au (bb 26 (ai cI (ai cI (ai cI (ai cI (ai (aP 1) (ai (aP 2) (ai (aP 3) a_)))))))) (au (aQ 46 (.nm .sess)) (au (aQ 42 (.nm .opn)) (au (aQ 44 (.nm .snap)) (au (bb 29 (tW a_)) aR))))) fun (_,_,_) ((v,nx,kp,qt,_,_,_,_),se,op,sn,(c,_),_)=>⟨[op.length<1048576],[.agg (cellsOf (.nm .reply) ((aN (State.mk v nx kp qt se op sn) c).2))],some ([.box 26 ([.int ((((aN (State.mk v nx kp qt se op sn) c).1).version)),.int ((((aN (State.mk v nx kp qt se op sn) c).1).next)),.int ((((aN (State.mk v nx kp qt se op sn) c).1).keep)),.int ((((aN (State.mk v nx kp qt se op sn) c).1).quota)),.own 1,.own 2,.own 3]),.row 46 (.nm .sess) ((((aN (State.mk v nx kp qt se op sn) c).1).sess)),.row 42 (.nm .opn) ((((aN (State.mk v nx kp qt se op sn) c).1).opens)),.row 44 (.nm .snap) ((((aN (State.mk v nx kp qt se op sn) c).1).snaps)),.box 29 (ba ((c)))]),false⟩) (bF 55 (bE (ak (kC (bl 0 0)) (ak (kC (bl 4 0)) aS)) (au (bb 26 (ai cI (ai cI (ai cI (ai cI (ai (aP 1) (ai (aP 2) (ai (aP 3) a_)))))))) (au (aQ 46 (.nm .sess)) (au (aQ 42 (.nm .opn)) (au (aQ 44 (.nm .snap)) (au (bb 29 (tW a_)) aR))))) fun (_,_,_) ((v,nx,kp,qt,_,_,_,_),se,op,sn,(c,_),_)=>⟨[nch sn<=1048576,sn.length<1048576,op.length<1048576,0<=nx],[.agg (cellsOf (.nm .reply) ((aH (State.mk v nx kp qt se op sn) c).2))],some ([.box 26 ([.int ((((aH (State.mk v nx kp qt se op sn) c).1).version)),.int ((((aH (State.mk v nx kp qt se op sn) c).1).next)),.int ((((aH (State.mk v nx kp qt se op sn) c).1).keep)),.int ((((aH (State.mk v nx kp qt se op sn) c).1).quota)),.own 1,.own 2,.own 3]),.row 46 (.nm .sess) ((((aH (State.mk v nx kp qt se op sn) c).1).sess)),.row 42 (.nm .opn) ((((aH (State.mk v nx kp qt se op sn) c).1).opens)),.row 44 (.nm .snap) ((((aH (State.mk v nx kp qt se op sn) c).1).snaps)),.box 29 (ba ((c)))]),false⟩) (bF 53 (bE (ak (kC (bl 0 0)) (ak (kC (bl 4 0)) aS)) (au (bb 26 (ai cI (ai cI (ai cI (ai cI (ai (aP 1) (ai (aP 2) (ai (aP 3) a_)))))))) (au (aQ 46 (.nm .sess)) (au (aQ 42 (.nm .opn)) (au (aQ 44 (.nm .snap)) (au (bb 29 (tW a_)) aR))))) fun (_,_,_) ((v,nx,kp,qt,_,_,_,_),se,op,sn,(c,_),_)=>⟨[op.length<1048576],[.agg (cellsOf (.nm .reply) ((aJ (State.mk v nx kp qt se op sn) c).2))],some ([.box 26 ([.int ((((aJ (State.mk v nx kp qt se op sn) c).1).version)),.int ((((aJ (State.mk v nx kp qt se op sn) c).1).next)),.int ((((aJ (State.mk v nx kp qt se op sn) c).1).keep)),.int ((((aJ (State.mk v nx kp qt se op sn) c).1).quota)),.own 1,.own 2,.own 3]),.row 46 (.nm .sess) ((((aJ (State.mk v nx kp qt se op sn) c).1).sess)),.row 42 (.nm .opn) ((((aJ (State.mk v nx kp qt se op sn) c).1).opens)),.row 44 (.nm .snap) ((((aJ (State.mk v nx kp qt se op sn) c).1).snaps)),.box 29 (ba ((c)))]),false⟩) jw)))))))
theorem fv:bk Try.prog (ao aI) m_:=(aB (aA (ag (az bQ) (ag (az aF) (ag (az aF) ay))) (ah (aE (ae aq (ae aq (ae aq (ae aq (ae aw (ae aw (ae aw aC)))))))) (ah av (ah av (ah av (ah (aE (ae lr aC)) (ah (aE (dw aC)) ax)))))) fun (_,_,_,_) ((v,nx,kp,qt,_,_,_,_),se,op,sn,(b,_),(c,_),_) _=>qa v nx kp qt se op sn b c ) (aB (aA (ag (az bQ) (ag (az aF) (ag (az aF) ay))) (ah (aE (dw aC)) (ah (aE (ae aq (ae aq (ae aq (ae aq (ae aw (ae aw (ae aw aC)))))))) (ah av (ah av (ah av ax))))) fun (_,_,_,_) ((c,_),(v,nx,kp,qt,_,_,_,_),se,op,sn,_) _=>sF c v nx kp qt se op sn ) (aB (aA (ag (az bQ) (ag (az aF) (ag (az aF) ay))) (ah (aE (ae aq (ae aq (ae aq (ae aq (ae aw (ae aw (ae aw aC)))))))) (ah av (ah av (ah av (ah (aE (dw aC)) ax))))) fun (_,_,_,_) ((v,nx,kp,qt,_,_,_,_),se,op,sn,(c,_),_) _=>qG v nx kp qt se op sn c ) (aB (aA (ag (az bQ) (ag (az aF) (ag (az aF) ay))) (ah (aE (ae aq (ae aq (ae aq (ae aq (ae aw (ae aw (ae aw aC)))))))) (ah av (ah av (ah av (ah (aE (dw aC)) ax))))) fun (_,_,_,_) ((v,nx,kp,qt,_,_,_,_),se,op,sn,(c,_),_) _=>oe v nx kp qt se op sn c ) (aB (aA (ag (az aF) (ag (az aF) ay)) (ah (aE (ae aq (ae aq (ae aq (ae aq (ae aw (ae aw (ae aw aC)))))))) (ah av (ah av (ah av (ah (aE (dw aC)) ax))))) fun (_,_,_) ((v,nx,kp,qt,_,_,_,_),se,op,sn,(c,_),_) hp=>Ex v nx kp qt se op sn c (dM hp)) (aB (aA (ag (az aF) (ag (az aF) ay)) (ah (aE (ae aq (ae aq (ae aq (ae aq (ae aw (ae aw (ae aw aC)))))))) (ah av (ah av (ah av (ah (aE (dw aC)) ax))))) fun (_,_,_) ((v,nx,kp,qt,_,_,_,_),se,op,sn,(c,_),_) hp=>ER v nx kp qt se op sn c (dM hp) (dM (iD hp)) (dM (iD (iD hp))) (dM (iD (iD (iD hp))))) (aB (aA (ag (az aF) (ag (az aF) ay)) (ah (aE (ae aq (ae aq (ae aq (ae aq (ae aw (ae aw (ae aw aC)))))))) (ah av (ah av (ah av (ah (aE (dw aC)) ax))))) fun (_,_,_) ((v,nx,kp,qt,_,_,_,_),se,op,sn,(c,_),_) hp=>Dw v nx kp qt se op sn c (dM hp)) ea)))))))
theorem Dt (b:Bool) (v:Int) (nx:Int) (kp:Int) (qt:Int) (se:List Sess) (op:List Opn) (sn:List Snap) (c:Command) (r0:Int) (r1:Int) (r2:Int) (r3:Int) (r4:List Sess) (r5:List Opn) (r6:List Snap) (r7:Command) (r8:Bool):lF aI m_ [] Try.f51 [.c (.bool (.atom (b))),.c (.ptr 0 0),.c (.ptr 1 0)] [.box 79 ([.fn 48 [] [(1,0),(5,0)]]),.box 26 ([.int (v),.int (nx),.int (kp),.int (qt),.own 2,.own 3,.own 4]),.row 46 (.nm .sess) (se),.row 42 (.nm .opn) (op),.row 44 (.nm .snap) (sn),.box 29 (ba (c))] [.c (.fn 49 [] [(1,0),(5,0),(7,0)])] [.box 79 ([.fn 48 [] [(1,0),(5,0)]]),.box 26 ([.int (r0),.int (r1),.int (r2),.int (r3),.own 2,.own 3,.own 4]),.row 46 (.nm .sess) (r4),.row 42 (.nm .opn) (r5),.row 44 (.nm .snap) (r6),.box 29 (ba (r7)),.box 4 ([.bool (.atom (r8))]),.box 77 ([.fn 52 [] [(1,0),(6,0)]])]=(v=r0/\nx=r1/\kp=r2/\qt=r3/\se=r4/\op=r5/\sn=r6/\c.kind=r7.kind/\c.client=r7.client/\c.seq=r7.seq/\c.set=r7.set/\c.id=r7.id/\c.n=r7.n/\c.chunks=r7.chunks/\c.text=r7.text/\b=r8):=by kernel_rfl
theorem FE (b:Bool) (v:Int) (nx:Int) (kp:Int) (qt:Int) (se:List Sess) (op:List Opn) (sn:List Snap) (c:Command):Sat Try.prog (ao aI) 51 [.c (.bool (.atom (b))),.c (.ptr 0 0),.c (.ptr 1 0)] [.box 79 ([.fn 48 [] [(1,0),(5,0)]]),.box 26 ([.int (v),.int (nx),.int (kp),.int (qt),.own 2,.own 3,.own 4]),.row 46 (.nm .sess) (se),.row 42 (.nm .opn) (op),.row 44 (.nm .snap) (sn),.box 29 (ba (c))] ⟨[],[.c (.fn 49 [] [(1,0),(5,0),(7,0)])],some ([.box 79 ([.fn 48 [] [(1,0),(5,0)]]),.box 26 ([.int ((v)),.int ((nx)),.int ((kp)),.int ((qt)),.own 2,.own 3,.own 4]),.row 46 (.nm .sess) ((se)),.row 42 (.nm .opn) ((op)),.row 44 (.nm .snap) ((sn)),.box 29 (ba ((c))),.box 4 ([.bool (.atom ((b)))]),.box 77 ([.fn 52 [] [(1,0),(6,0)]])]),true⟩:=by
 refine di fv [] Try.func51 (by decide) (by kernel_rfl) ?_
 rw [Dt]
 (repeat' (first | with_reducible apply cg | with_reducible refine cj ?_ | intro))
 all_goals (first | exact cG | exact rfl)
theorem sw (v:Int) (nx:Int) (kp:Int) (qt:Int) (se:List Sess) (op:List Opn) (sn:List Snap) (c:Command) (r0:Reply) (r1:Int) (r2:Int) (r3:Int) (r4:Int) (r5:List Sess) (r6:List Opn) (r7:List Snap) (r8:Command):g_ aI m_ [] Try.f49 [.c (.ptr 0 0),.c (.ptr 4 0),.c (.ptr 5 0)] [.box 26 ([.int (v),.int (nx),.int (kp),.int (qt),.own 1,.own 2,.own 3]),.row 46 (.nm .sess) (se),.row 42 (.nm .opn) (op),.row 44 (.nm .snap) (sn),.box 29 (ba (c)),.box 77 ([.fn 62 [] [(0,0)]])] [.agg (cellsOf (.nm .reply) r0)] [.box 26 ([.int (r1),.int (r2),.int (r3),.int (r4),.own 1,.own 2,.own 3]),.row 46 (.nm .sess) (r5),.row 42 (.nm .opn) (r6),.row 44 (.nm .snap) (r7),.box 29 (ba (r8)),.box 77 ([.fn 62 [] [(0,0)]])]=((fun (q2:Int)=>(fun (q1:Prop)=>(fun (q0:State × Reply)=>I64 q2->(q2<(0:Int)->I64 (15:Int)->I64 (0:Int)->(15:Int)=r0.code/\(0:Int)=r0.n/\v=r1/\nx=r2/\kp=r3/\qt=r4/\se=r5/\op=r6/\sn=r7/\q1)/\((0:Int)<=q2->((0:Int)<=q2/\q2<(↑sn.length:Int))/\nch sn<=(1048576:Nat)/\(I64 q0.snd.code->I64 q0.snd.n->q0.snd.code=r0.code/\q0.snd.n=r0.n/\q0.fst.version=r1/\q0.fst.next=r2/\q0.fst.keep=r3/\q0.fst.quota=r4/\q0.fst.sess=r5/\q0.fst.opens=r6/\q0.fst.snaps=r7/\q1))) (aM (State.mk v nx kp qt se op sn) q2.toNat)) (c.kind=r8.kind/\c.client=r8.client/\c.seq=r8.seq/\c.set=r8.set/\c.id=r8.id/\c.n=r8.n/\c.chunks=r8.chunks/\c.text=r8.text)) (aj Snap.id c.id sn)):=by kernel_rfl
theorem r_ (v:Int) (nx:Int) (kp:Int) (qt:Int) (se:List Sess) (op:List Opn) (sn:List Snap) (c:Command) (h0:nch sn<=1048576):Sat Try.prog (ao aI) 49 [.c (.ptr 0 0),.c (.ptr 4 0),.c (.ptr 5 0)] [.box 26 ([.int (v),.int (nx),.int (kp),.int (qt),.own 1,.own 2,.own 3]),.row 46 (.nm .sess) (se),.row 42 (.nm .opn) (op),.row 44 (.nm .snap) (sn),.box 29 (ba (c)),.box 77 ([.fn 62 [] [(0,0)]])] ⟨[nch sn<=1048576],[.agg (cellsOf (.nm .reply) ((al aM c (State.mk v nx kp qt se op sn)).2))],some ([.box 26 ([.int ((((al aM c (State.mk v nx kp qt se op sn)).1).version)),.int ((((al aM c (State.mk v nx kp qt se op sn)).1).next)),.int ((((al aM c (State.mk v nx kp qt se op sn)).1).keep)),.int ((((al aM c (State.mk v nx kp qt se op sn)).1).quota)),.own 1,.own 2,.own 3]),.row 46 (.nm .sess) ((((al aM c (State.mk v nx kp qt se op sn)).1).sess)),.row 42 (.nm .opn) ((((al aM c (State.mk v nx kp qt se op sn)).1).opens)),.row 44 (.nm .snap) ((((al aM c (State.mk v nx kp qt se op sn)).1).snaps)),.box 29 (ba ((c))),.box 77 ([.fn 62 [] [(0,0)]])]),false⟩:=by
 refine cf fv [] Try.func49 (by decide) (by kernel_rfl) ?_
 rw [sw]
 (repeat' (first | with_reducible apply cg | with_reducible refine cj ?_ | intro))
 all_goals (first | exact cG | exact bz aO | (rw [Gd] <;> first | rfl | omega) | (rw [GS] <;> first | rfl | omega))
theorem vn (v:Int) (nx:Int) (kp:Int) (qt:Int) (se:List Sess) (op:List Opn) (sn:List Snap) (c:Command) (r0:Reply) (r1:Int) (r2:Int) (r3:Int) (r4:Int) (r5:List Sess) (r6:List Opn) (r7:List Snap) (r8:Command):g_ aI m_ [] Try.f49 [.c (.ptr 0 0),.c (.ptr 4 0),.c (.ptr 5 0)] [.box 26 ([.int (v),.int (nx),.int (kp),.int (qt),.own 1,.own 2,.own 3]),.row 46 (.nm .sess) (se),.row 42 (.nm .opn) (op),.row 44 (.nm .snap) (sn),.box 29 (ba (c)),.box 77 ([.fn 64 [] [(0,0)]])] [.agg (cellsOf (.nm .reply) r0)] [.box 26 ([.int (r1),.int (r2),.int (r3),.int (r4),.own 1,.own 2,.own 3]),.row 46 (.nm .sess) (r5),.row 42 (.nm .opn) (r6),.row 44 (.nm .snap) (r7),.box 29 (ba (r8)),.box 77 ([.fn 64 [] [(0,0)]])]=((fun (q2:Int)=>(fun (q1:Prop)=>(fun (q0:State × Reply)=>I64 q2->(q2<(0:Int)->I64 (15:Int)->I64 (0:Int)->(15:Int)=r0.code/\(0:Int)=r0.n/\v=r1/\nx=r2/\kp=r3/\qt=r4/\se=r5/\op=r6/\sn=r7/\q1)/\((0:Int)<=q2->((0:Int)<=q2/\q2<(↑sn.length:Int))/\(I64 q0.snd.code->I64 q0.snd.n->q0.snd.code=r0.code/\q0.snd.n=r0.n/\q0.fst.version=r1/\q0.fst.next=r2/\q0.fst.keep=r3/\q0.fst.quota=r4/\q0.fst.sess=r5/\q0.fst.opens=r6/\q0.fst.snaps=r7/\q1))) (aV (State.mk v nx kp qt se op sn) q2.toNat)) (c.kind=r8.kind/\c.client=r8.client/\c.seq=r8.seq/\c.set=r8.set/\c.id=r8.id/\c.n=r8.n/\c.chunks=r8.chunks/\c.text=r8.text)) (aj Snap.id c.id sn)):=by kernel_rfl
theorem vB (v:Int) (nx:Int) (kp:Int) (qt:Int) (se:List Sess) (op:List Opn) (sn:List Snap) (c:Command):Sat Try.prog (ao aI) 49 [.c (.ptr 0 0),.c (.ptr 4 0),.c (.ptr 5 0)] [.box 26 ([.int (v),.int (nx),.int (kp),.int (qt),.own 1,.own 2,.own 3]),.row 46 (.nm .sess) (se),.row 42 (.nm .opn) (op),.row 44 (.nm .snap) (sn),.box 29 (ba (c)),.box 77 ([.fn 64 [] [(0,0)]])] ⟨[],[.agg (cellsOf (.nm .reply) ((al aV c (State.mk v nx kp qt se op sn)).2))],some ([.box 26 ([.int ((((al aV c (State.mk v nx kp qt se op sn)).1).version)),.int ((((al aV c (State.mk v nx kp qt se op sn)).1).next)),.int ((((al aV c (State.mk v nx kp qt se op sn)).1).keep)),.int ((((al aV c (State.mk v nx kp qt se op sn)).1).quota)),.own 1,.own 2,.own 3]),.row 46 (.nm .sess) ((((al aV c (State.mk v nx kp qt se op sn)).1).sess)),.row 42 (.nm .opn) ((((al aV c (State.mk v nx kp qt se op sn)).1).opens)),.row 44 (.nm .snap) ((((al aV c (State.mk v nx kp qt se op sn)).1).snaps)),.box 29 (ba ((c))),.box 77 ([.fn 64 [] [(0,0)]])]),false⟩:=by
 refine cf fv [] Try.func49 (by decide) (by kernel_rfl) ?_
 rw [vn]
 (repeat' (first | with_reducible apply cg | with_reducible refine cj ?_ | intro))
 all_goals (first | exact cG | exact bz aO | (rw [Gd] <;> first | rfl | omega) | (rw [GS] <;> first | rfl | omega))
theorem xQ (v:Int) (nx:Int) (kp:Int) (qt:Int) (se:List Sess) (op:List Opn) (sn:List Snap) (c:Command) (r0:Reply) (r1:Int) (r2:Int) (r3:Int) (r4:Int) (r5:List Sess) (r6:List Opn) (r7:List Snap) (r8:Command):g_ aI m_ [] Try.f49 [.c (.ptr 0 0),.c (.ptr 4 0),.c (.ptr 5 0)] [.box 26 ([.int (v),.int (nx),.int (kp),.int (qt),.own 1,.own 2,.own 3]),.row 46 (.nm .sess) (se),.row 42 (.nm .opn) (op),.row 44 (.nm .snap) (sn),.box 29 (ba (c)),.box 77 ([.fn 65 [] [(4,0),(0,0)]])] [.agg (cellsOf (.nm .reply) r0)] [.box 26 ([.int (r1),.int (r2),.int (r3),.int (r4),.own 1,.own 2,.own 3]),.row 46 (.nm .sess) (r5),.row 42 (.nm .opn) (r6),.row 44 (.nm .snap) (r7),.box 29 (ba (r8)),.box 77 ([.fn 65 [] [(4,0),(0,0)]])]=((fun (q2:Int)=>(fun (q1:Prop)=>(fun (q0:State × Reply)=>I64 q2->(q2<(0:Int)->I64 (15:Int)->I64 (0:Int)->(15:Int)=r0.code/\(0:Int)=r0.n/\v=r1/\nx=r2/\kp=r3/\qt=r4/\se=r5/\op=r6/\sn=r7/\q1)/\((0:Int)<=q2->((0:Int)<=q2/\q2<(↑sn.length:Int))/\(I64 q0.snd.code->I64 q0.snd.n->q0.snd.code=r0.code/\q0.snd.n=r0.n/\q0.fst.version=r1/\q0.fst.next=r2/\q0.fst.keep=r3/\q0.fst.quota=r4/\q0.fst.sess=r5/\q0.fst.opens=r6/\q0.fst.snaps=r7/\q1))) (bD c (State.mk v nx kp qt se op sn) q2.toNat)) (c.kind=r8.kind/\c.client=r8.client/\c.seq=r8.seq/\c.set=r8.set/\c.id=r8.id/\c.n=r8.n/\c.chunks=r8.chunks/\c.text=r8.text)) (aj Snap.id c.id sn)):=by kernel_rfl
theorem xO (v:Int) (nx:Int) (kp:Int) (qt:Int) (se:List Sess) (op:List Opn) (sn:List Snap) (c:Command):Sat Try.prog (ao aI) 49 [.c (.ptr 0 0),.c (.ptr 4 0),.c (.ptr 5 0)] [.box 26 ([.int (v),.int (nx),.int (kp),.int (qt),.own 1,.own 2,.own 3]),.row 46 (.nm .sess) (se),.row 42 (.nm .opn) (op),.row 44 (.nm .snap) (sn),.box 29 (ba (c)),.box 77 ([.fn 65 [] [(4,0),(0,0)]])] ⟨[],[.agg (cellsOf (.nm .reply) ((al (bD c) c (State.mk v nx kp qt se op sn)).2))],some ([.box 26 ([.int ((((al (bD c) c (State.mk v nx kp qt se op sn)).1).version)),.int ((((al (bD c) c (State.mk v nx kp qt se op sn)).1).next)),.int ((((al (bD c) c (State.mk v nx kp qt se op sn)).1).keep)),.int ((((al (bD c) c (State.mk v nx kp qt se op sn)).1).quota)),.own 1,.own 2,.own 3]),.row 46 (.nm .sess) ((((al (bD c) c (State.mk v nx kp qt se op sn)).1).sess)),.row 42 (.nm .opn) ((((al (bD c) c (State.mk v nx kp qt se op sn)).1).opens)),.row 44 (.nm .snap) ((((al (bD c) c (State.mk v nx kp qt se op sn)).1).snaps)),.box 29 (ba ((c))),.box 77 ([.fn 65 [] [(4,0),(0,0)]])]),false⟩:=by
 refine cf fv [] Try.func49 (by decide) (by kernel_rfl) ?_
 rw [xQ]
 (repeat' (first | with_reducible apply cg | with_reducible refine cj ?_ | intro))
 all_goals (first | exact cG | exact bz aO | (rw [Gd] <;> first | rfl | omega) | (rw [GS] <;> first | rfl | omega))
theorem vv (v:Int) (nx:Int) (kp:Int) (qt:Int) (se:List Sess) (op:List Opn) (sn:List Snap) (c:Command) (b:Bool) (r0:Reply) (r1:Int) (r2:Int) (r3:Int) (r4:Int) (r5:List Sess) (r6:List Opn) (r7:List Snap) (r8:Command) (r9:Bool):g_ aI m_ [] Try.f49 [.c (.ptr 0 0),.c (.ptr 4 0),.c (.ptr 5 0)] [.box 26 ([.int (v),.int (nx),.int (kp),.int (qt),.own 1,.own 2,.own 3]),.row 46 (.nm .sess) (se),.row 42 (.nm .opn) (op),.row 44 (.nm .snap) (sn),.box 29 (ba (c)),.box 77 ([.fn 52 [] [(0,0),(6,0)]]),.box 4 ([.bool (.atom (b))])] [.agg (cellsOf (.nm .reply) r0)] [.box 26 ([.int (r1),.int (r2),.int (r3),.int (r4),.own 1,.own 2,.own 3]),.row 46 (.nm .sess) (r5),.row 42 (.nm .opn) (r6),.row 44 (.nm .snap) (r7),.box 29 (ba (r8)),.box 77 ([.fn 52 [] [(0,0),(6,0)]]),.box 4 ([.bool (.atom (r9))])]=((fun (q2:Int)=>(fun (q1:Prop)=>(fun (q0:State × Reply)=>I64 q2->(q2<(0:Int)->I64 (15:Int)->I64 (0:Int)->(15:Int)=r0.code/\(0:Int)=r0.n/\v=r1/\nx=r2/\kp=r3/\qt=r4/\se=r5/\op=r6/\sn=r7/\q1)/\((0:Int)<=q2->((0:Int)<=q2/\q2<(↑sn.length:Int))/\(I64 q0.snd.code->I64 q0.snd.n->q0.snd.code=r0.code/\q0.snd.n=r0.n/\q0.fst.version=r1/\q0.fst.next=r2/\q0.fst.keep=r3/\q0.fst.quota=r4/\q0.fst.sess=r5/\q0.fst.opens=r6/\q0.fst.snaps=r7/\q1))) (bc b (State.mk v nx kp qt se op sn) q2.toNat)) (c.kind=r8.kind/\c.client=r8.client/\c.seq=r8.seq/\c.set=r8.set/\c.id=r8.id/\c.n=r8.n/\c.chunks=r8.chunks/\c.text=r8.text/\b=r9)) (aj Snap.id c.id sn)):=by kernel_rfl
theorem vd (v:Int) (nx:Int) (kp:Int) (qt:Int) (se:List Sess) (op:List Opn) (sn:List Snap) (c:Command) (b:Bool):Sat Try.prog (ao aI) 49 [.c (.ptr 0 0),.c (.ptr 4 0),.c (.ptr 5 0)] [.box 26 ([.int (v),.int (nx),.int (kp),.int (qt),.own 1,.own 2,.own 3]),.row 46 (.nm .sess) (se),.row 42 (.nm .opn) (op),.row 44 (.nm .snap) (sn),.box 29 (ba (c)),.box 77 ([.fn 52 [] [(0,0),(6,0)]]),.box 4 ([.bool (.atom (b))])] ⟨[],[.agg (cellsOf (.nm .reply) ((al (bc b) c (State.mk v nx kp qt se op sn)).2))],some ([.box 26 ([.int ((((al (bc b) c (State.mk v nx kp qt se op sn)).1).version)),.int ((((al (bc b) c (State.mk v nx kp qt se op sn)).1).next)),.int ((((al (bc b) c (State.mk v nx kp qt se op sn)).1).keep)),.int ((((al (bc b) c (State.mk v nx kp qt se op sn)).1).quota)),.own 1,.own 2,.own 3]),.row 46 (.nm .sess) ((((al (bc b) c (State.mk v nx kp qt se op sn)).1).sess)),.row 42 (.nm .opn) ((((al (bc b) c (State.mk v nx kp qt se op sn)).1).opens)),.row 44 (.nm .snap) ((((al (bc b) c (State.mk v nx kp qt se op sn)).1).snaps)),.box 29 (ba ((c))),.box 77 ([.fn 52 [] [(0,0),(6,0)]]),.box 4 ([.bool (.atom ((b)))])]),false⟩:=by
 refine cf fv [] Try.func49 (by decide) (by kernel_rfl) ?_
 rw [vv]
 (repeat' (first | with_reducible apply cg | with_reducible refine cj ?_ | intro))
 all_goals (first | exact cG | exact bz aO | (rw [Gd] <;> first | rfl | omega) | (rw [GS] <;> first | rfl | omega))
def CC:cO:=(bF 49 (bE (ak (kC (bl 0 0)) (ak (kC (bl 4 0)) (ak (kC (bl 5 0)) aS))) (au (bb 26 (ai cI (ai cI (ai cI (ai cI (ai (aP 1) (ai (aP 2) (ai (aP 3) a_)))))))) (au (aQ 46 (.nm .sess)) (au (aQ 42 (.nm .opn)) (au (aQ 44 (.nm .snap)) (au (bb 29 (tW a_)) (au (bb 77 (ai (iK 52 [] [(0,0),(6,0)]) a_)) (au (bb 4 (ai cB a_)) aR))))))) fun (_,_,_,_) ((v,nx,kp,qt,_,_,_,_),se,op,sn,(c,_),(_,_),(b,_),_)=>⟨[],[.agg (cellsOf (.nm .reply) ((al (bc b) c (State.mk v nx kp qt se op sn)).2))],some ([.box 26 ([.int ((((al (bc b) c (State.mk v nx kp qt se op sn)).1).version)),.int ((((al (bc b) c (State.mk v nx kp qt se op sn)).1).next)),.int ((((al (bc b) c (State.mk v nx kp qt se op sn)).1).keep)),.int ((((al (bc b) c (State.mk v nx kp qt se op sn)).1).quota)),.own 1,.own 2,.own 3]),.row 46 (.nm .sess) ((((al (bc b) c (State.mk v nx kp qt se op sn)).1).sess)),.row 42 (.nm .opn) ((((al (bc b) c (State.mk v nx kp qt se op sn)).1).opens)),.row 44 (.nm .snap) ((((al (bc b) c (State.mk v nx kp qt se op sn)).1).snaps)),.box 29 (ba ((c))),.box 77 ([.fn 52 [] [(0,0),(6,0)]]),.box 4 ([.bool (.atom ((b)))])]),false⟩) (bF 49 (bE (ak (kC (bl 0 0)) (ak (kC (bl 4 0)) (ak (kC (bl 5 0)) aS))) (au (bb 26 (ai cI (ai cI (ai cI (ai cI (ai (aP 1) (ai (aP 2) (ai (aP 3) a_)))))))) (au (aQ 46 (.nm .sess)) (au (aQ 42 (.nm .opn)) (au (aQ 44 (.nm .snap)) (au (bb 29 (tW a_)) (au (bb 77 (ai (iK 65 [] [(4,0),(0,0)]) a_)) aR)))))) fun (_,_,_,_) ((v,nx,kp,qt,_,_,_,_),se,op,sn,(c,_),(_,_),_)=>⟨[],[.agg (cellsOf (.nm .reply) ((al (bD c) c (State.mk v nx kp qt se op sn)).2))],some ([.box 26 ([.int ((((al (bD c) c (State.mk v nx kp qt se op sn)).1).version)),.int ((((al (bD c) c (State.mk v nx kp qt se op sn)).1).next)),.int ((((al (bD c) c (State.mk v nx kp qt se op sn)).1).keep)),.int ((((al (bD c) c (State.mk v nx kp qt se op sn)).1).quota)),.own 1,.own 2,.own 3]),.row 46 (.nm .sess) ((((al (bD c) c (State.mk v nx kp qt se op sn)).1).sess)),.row 42 (.nm .opn) ((((al (bD c) c (State.mk v nx kp qt se op sn)).1).opens)),.row 44 (.nm .snap) ((((al (bD c) c (State.mk v nx kp qt se op sn)).1).snaps)),.box 29 (ba ((c))),.box 77 ([.fn 65 [] [(4,0),(0,0)]])]),false⟩) (bF 49 (bE (ak (kC (bl 0 0)) (ak (kC (bl 4 0)) (ak (kC (bl 5 0)) aS))) (au (bb 26 (ai cI (ai cI (ai cI (ai cI (ai (aP 1) (ai (aP 2) (ai (aP 3) a_)))))))) (au (aQ 46 (.nm .sess)) (au (aQ 42 (.nm .opn)) (au (aQ 44 (.nm .snap)) (au (bb 29 (tW a_)) (au (bb 77 (ai (iK 64 [] [(0,0)]) a_)) aR)))))) fun (_,_,_,_) ((v,nx,kp,qt,_,_,_,_),se,op,sn,(c,_),(_,_),_)=>⟨[],[.agg (cellsOf (.nm .reply) ((al aV c (State.mk v nx kp qt se op sn)).2))],some ([.box 26 ([.int ((((al aV c (State.mk v nx kp qt se op sn)).1).version)),.int ((((al aV c (State.mk v nx kp qt se op sn)).1).next)),.int ((((al aV c (State.mk v nx kp qt se op sn)).1).keep)),.int ((((al aV c (State.mk v nx kp qt se op sn)).1).quota)),.own 1,.own 2,.own 3]),.row 46 (.nm .sess) ((((al aV c (State.mk v nx kp qt se op sn)).1).sess)),.row 42 (.nm .opn) ((((al aV c (State.mk v nx kp qt se op sn)).1).opens)),.row 44 (.nm .snap) ((((al aV c (State.mk v nx kp qt se op sn)).1).snaps)),.box 29 (ba ((c))),.box 77 ([.fn 64 [] [(0,0)]])]),false⟩) (bF 49 (bE (ak (kC (bl 0 0)) (ak (kC (bl 4 0)) (ak (kC (bl 5 0)) aS))) (au (bb 26 (ai cI (ai cI (ai cI (ai cI (ai (aP 1) (ai (aP 2) (ai (aP 3) a_)))))))) (au (aQ 46 (.nm .sess)) (au (aQ 42 (.nm .opn)) (au (aQ 44 (.nm .snap)) (au (bb 29 (tW a_)) (au (bb 77 (ai (iK 62 [] [(0,0)]) a_)) aR)))))) fun (_,_,_,_) ((v,nx,kp,qt,_,_,_,_),se,op,sn,(c,_),(_,_),_)=>⟨[nch sn<=1048576],[.agg (cellsOf (.nm .reply) ((al aM c (State.mk v nx kp qt se op sn)).2))],some ([.box 26 ([.int ((((al aM c (State.mk v nx kp qt se op sn)).1).version)),.int ((((al aM c (State.mk v nx kp qt se op sn)).1).next)),.int ((((al aM c (State.mk v nx kp qt se op sn)).1).keep)),.int ((((al aM c (State.mk v nx kp qt se op sn)).1).quota)),.own 1,.own 2,.own 3]),.row 46 (.nm .sess) ((((al aM c (State.mk v nx kp qt se op sn)).1).sess)),.row 42 (.nm .opn) ((((al aM c (State.mk v nx kp qt se op sn)).1).opens)),.row 44 (.nm .snap) ((((al aM c (State.mk v nx kp qt se op sn)).1).snaps)),.box 29 (ba ((c))),.box 77 ([.fn 62 [] [(0,0)]])]),false⟩) (bF 51 (bE (ak (kC cB) (ak (kC (bl 0 0)) (ak (kC (bl 1 0)) aS))) (au (bb 79 (ai (iK 48 [] [(1,0),(5,0)]) a_)) (au (bb 26 (ai cI (ai cI (ai cI (ai cI (ai (aP 2) (ai (aP 3) (ai (aP 4) a_)))))))) (au (aQ 46 (.nm .sess)) (au (aQ 42 (.nm .opn)) (au (aQ 44 (.nm .snap)) (au (bb 29 (tW a_)) aR)))))) fun (b,_,_,_) ((_,_),(v,nx,kp,qt,_,_,_,_),se,op,sn,(c,_),_)=>⟨[],[.c (.fn 49 [] [(1,0),(5,0),(7,0)])],some ([.box 79 ([.fn 48 [] [(1,0),(5,0)]]),.box 26 ([.int ((v)),.int ((nx)),.int ((kp)),.int ((qt)),.own 2,.own 3,.own 4]),.row 46 (.nm .sess) ((se)),.row 42 (.nm .opn) ((op)),.row 44 (.nm .snap) ((sn)),.box 29 (ba ((c))),.box 4 ([.bool (.atom ((b)))]),.box 77 ([.fn 52 [] [(1,0),(6,0)]])]),true⟩) m_)))))
theorem sV:bk Try.prog (ao aI) CC:=(aB (aA (ag (az aF) (ag (az aF) (ag (az aF) ay))) (ah (aE (ae aq (ae aq (ae aq (ae aq (ae aw (ae aw (ae aw aC)))))))) (ah av (ah av (ah av (ah (aE (dw aC)) (ah (aE (ae bQ aC)) (ah (aE (ae lr aC)) ax))))))) fun (_,_,_,_) ((v,nx,kp,qt,_,_,_,_),se,op,sn,(c,_),(_,_),(b,_),_) _=>vd v nx kp qt se op sn c b ) (aB (aA (ag (az aF) (ag (az aF) (ag (az aF) ay))) (ah (aE (ae aq (ae aq (ae aq (ae aq (ae aw (ae aw (ae aw aC)))))))) (ah av (ah av (ah av (ah (aE (dw aC)) (ah (aE (ae bQ aC)) ax)))))) fun (_,_,_,_) ((v,nx,kp,qt,_,_,_,_),se,op,sn,(c,_),(_,_),_) _=>xO v nx kp qt se op sn c ) (aB (aA (ag (az aF) (ag (az aF) (ag (az aF) ay))) (ah (aE (ae aq (ae aq (ae aq (ae aq (ae aw (ae aw (ae aw aC)))))))) (ah av (ah av (ah av (ah (aE (dw aC)) (ah (aE (ae bQ aC)) ax)))))) fun (_,_,_,_) ((v,nx,kp,qt,_,_,_,_),se,op,sn,(c,_),(_,_),_) _=>vB v nx kp qt se op sn c ) (aB (aA (ag (az aF) (ag (az aF) (ag (az aF) ay))) (ah (aE (ae aq (ae aq (ae aq (ae aq (ae aw (ae aw (ae aw aC)))))))) (ah av (ah av (ah av (ah (aE (dw aC)) (ah (aE (ae bQ aC)) ax)))))) fun (_,_,_,_) ((v,nx,kp,qt,_,_,_,_),se,op,sn,(c,_),(_,_),_) hp=>r_ v nx kp qt se op sn c (dM hp)) (aB (aA (ag (az lr) (ag (az aF) (ag (az aF) ay))) (ah (aE (ae bQ aC)) (ah (aE (ae aq (ae aq (ae aq (ae aq (ae aw (ae aw (ae aw aC)))))))) (ah av (ah av (ah av (ah (aE (dw aC)) ax)))))) fun (b,_,_,_) ((_,_),(v,nx,kp,qt,_,_,_,_),se,op,sn,(c,_),_) _=>FE b v nx kp qt se op sn c ) fv)))))
theorem DQ (st:State) (c:Command) (r0:Int) (r1:Int) (r2:Int) (r3:Int) (r4:Reply) (r5:List Sess) (r6:List Opn) (r7:List Snap):lF aI CC [] Try.f32 [.agg (cellsOf (.nm .state) st),.agg (ba (c))] [] [.agg ([.int (r0),.int (r1),.int (r2),.int (r3),.own 0,.own 1,.own 2]),.agg (cellsOf (.nm .reply) r4)] [.row 46 (.nm .sess) (r5),.row 42 (.nm .opn) (r6),.row 44 (.nm .snap) (r7)]=((fun (q18:Reply)=>(fun (q17:Int)=>(fun (q16:Int)=>(fun (q15:Prop)=>(fun (q14:Prop)=>(fun (q13:Int)=>(fun (q12:State)=>(fun (q11:Prop)=>(fun (q10:State × Reply)=>(fun (q9:State × Reply)=>(fun (q8:State × Reply)=>(fun (q7:Int)=>(fun (q6:State × Reply)=>(fun (q5:State × Reply)=>(fun (q4:State × Reply)=>(fun (q3:State × Reply)=>(fun (q2:State × Reply)=>(fun (q1:State × Reply)=>(fun (q0:Int)=>I64 q17->I64 st.next->I64 st.keep->I64 st.quota->st.sess.length*(32:Nat)<=(140737488355328:Nat)->st.opens.length*(16:Nat)<=(140737488355328:Nat)->st.snaps.length*(64:Nat)<=(140737488355328:Nat)->I64 q7->I64 c.client->I64 c.seq->I64 c.set->I64 c.id->I64 c.n->c.text.b.length<=(140737488355328:Nat)->I64 q17->I64 st.next->I64 st.keep->I64 st.quota->I64 q0->(¬q0=q16->I64 q0->I64 q16->q17=r0/\st.next=r1/\st.keep=r2/\st.quota=r3/\q0=q13/\q11)/\(q0=q16->(q7=(11:Int)->I64 q3.snd.code->I64 q3.snd.n->q3.fst.version=r0/\q3.fst.next=r1/\q3.fst.keep=r2/\q3.fst.quota=r3/\q3.snd.code=q13/\q3.snd.n=r4.n/\q3.fst.sess=r5/\q3.fst.opens=r6/\q3.fst.snaps=r7)/\(¬q7=(11:Int)->(q7=(10:Int)->I64 q1.snd.code->I64 q1.snd.n->q1.fst.version=r0/\q1.fst.next=r1/\q1.fst.keep=r2/\q1.fst.quota=r3/\q1.snd.code=q13/\q1.snd.n=r4.n/\q1.fst.sess=r5/\q1.fst.opens=r6/\q1.fst.snaps=r7)/\(¬q7=(10:Int)->(q7=(9:Int)->I64 q2.snd.code->I64 q2.snd.n->q2.fst.version=r0/\q2.fst.next=r1/\q2.fst.keep=r2/\q2.fst.quota=r3/\q2.snd.code=q13/\q2.snd.n=r4.n/\q2.fst.sess=r5/\q2.fst.opens=r6/\q2.fst.snaps=r7)/\(¬q7=(9:Int)->(q7=(7:Int)->I64 q4.snd.code->I64 q4.snd.n->q4.fst.version=r0/\q4.fst.next=r1/\q4.fst.keep=r2/\q4.fst.quota=r3/\q4.snd.code=q13/\q4.snd.n=r4.n/\q4.fst.sess=r5/\q4.fst.opens=r6/\q4.fst.snaps=r7)/\(¬q7=(7:Int)->(q7=(5:Int)->q15/\(I64 q5.snd.code->I64 q5.snd.n->q5.fst.version=r0/\q5.fst.next=r1/\q5.fst.keep=r2/\q5.fst.quota=r3/\q5.snd.code=q13/\q5.snd.n=r4.n/\q5.fst.sess=r5/\q5.fst.opens=r6/\q5.fst.snaps=r7))/\(¬q7=(5:Int)->(q7=(12:Int)->q15/\(I64 q10.snd.code->I64 q10.snd.n->q10.fst.version=r0/\q10.fst.next=r1/\q10.fst.keep=r2/\q10.fst.quota=r3/\q10.snd.code=q13/\q10.snd.n=r4.n/\q10.fst.sess=r5/\q10.fst.opens=r6/\q10.fst.snaps=r7))/\(¬q7=(12:Int)->(q7=(6:Int)->I64 q18.code->I64 q18.n->q12.version=r0/\q12.next=r1/\q12.keep=r2/\q12.quota=r3/\q18.code=q13/\q18.n=r4.n/\q12.sess=r5/\q12.opens=r6/\q12.snaps=r7)/\(¬q7=(6:Int)->(q7=(4:Int)->q14/\(I64 q8.snd.code->I64 q8.snd.n->q8.fst.version=r0/\q8.fst.next=r1/\q8.fst.keep=r2/\q8.fst.quota=r3/\q8.snd.code=q13/\q8.snd.n=r4.n/\q8.fst.sess=r5/\q8.fst.opens=r6/\q8.fst.snaps=r7))/\(¬q7=(4:Int)->(q7=(3:Int)->q15/\st.snaps.length<(1048576:Nat)/\q14/\q16<=st.next/\(I64 q6.snd.code->I64 q6.snd.n->q6.fst.version=r0/\q6.fst.next=r1/\q6.fst.keep=r2/\q6.fst.quota=r3/\q6.snd.code=q13/\q6.snd.n=r4.n/\q6.fst.sess=r5/\q6.fst.opens=r6/\q6.fst.snaps=r7))/\(¬q7=(3:Int)->(q7=(2:Int)->q14/\(I64 q9.snd.code->I64 q9.snd.n->q9.fst.version=r0/\q9.fst.next=r1/\q9.fst.keep=r2/\q9.fst.quota=r3/\q9.snd.code=q13/\q9.snd.n=r4.n/\q9.fst.sess=r5/\q9.fst.opens=r6/\q9.fst.snaps=r7))/\(¬q7=(2:Int)->I64 (1:Int)->I64 q16->q17=r0/\st.next=r1/\st.keep=r2/\st.quota=r3/\(1:Int)=q13/\q11)))))))))))) (if bK st q17=q16 then cC c q17 else (1:Int))) (al (bc false) c st)) (al (bc true) c st)) (al (bD c) c st)) (al aV c st)) (al aM c st)) (aH st c)) c.kind) (aN st c)) (aJ st c)) (bB c st)) (q16=r4.n/\st.sess=r5/\st.opens=r6/\st.snaps=r7)) (bW c st).fst) r4.code) (st.opens.length<(1048576:Nat))) (nch st.snaps<=(1048576:Nat))) (0:Int)) st.version) (bW c st).snd):=by kernel_rfl
theorem FF (st:State) (c:Command):Sat Try.prog (ao aI) 32 [.agg (cellsOf (.nm .state) st),.agg (ba (c))] [] ⟨[],[.agg ([.int (((bV st c).1.version)),.int (((bV st c).1.next)),.int (((bV st c).1.keep)),.int (((bV st c).1.quota)),.own 0,.own 1,.own 2]),.agg (cellsOf (.nm .reply) ((bV st c).2))],some ([.row 46 (.nm .sess) (((bV st c).1.sess)),.row 42 (.nm .opn) (((bV st c).1.opens)),.row 44 (.nm .snap) (((bV st c).1.snaps))]),true⟩:=by
 refine di sV [] Try.func32 (by decide) (by kernel_rfl) ?_
 rw [DQ]
 (repeat' (first | with_reducible apply cg | with_reducible refine cj ?_ | intro))
 all_goals (first | exact cG | exact (Ce aO) | exact (GQ aO) | exact (tk aO) | exact (GB aO) | exact (GO aO) | (rw [Lm aO]; done) | (rw [EN aO]; simp only [sQ, *]; done) | (rw [EN aO]; simp [sQ, *]; done))
def Be:cO:=(bF 32 (bE (ak (kT (.nm .state)) (ak Dn aS)) aR fun (st,c,_) (_)=>⟨[],[.agg ([.int (((bV st c).1.version)),.int (((bV st c).1.next)),.int (((bV st c).1.keep)),.int (((bV st c).1.quota)),.own 0,.own 1,.own 2]),.agg (cellsOf (.nm .reply) ((bV st c).2))],some ([.row 46 (.nm .sess) (((bV st c).1.sess)),.row 42 (.nm .opn) (((bV st c).1.opens)),.row 44 (.nm .snap) (((bV st c).1.snaps))]),true⟩) CC)
theorem um:bk Try.prog (ao aI) Be:=(aB (aA (ag bP (ag fL ay)) ax fun (st,c,_) (_) _=>FF st c ) sV)
theorem yt (v:Int) (nx:Int) (kp:Int) (qt:Int) (c:Command) (se:List Sess) (op:List Opn) (sn:List Snap) (r0:Int) (r1:Int) (r2:Int) (r3:Int) (r4:Reply) (r5:List Sess) (r6:List Opn) (r7:List Snap):g_ aI Be [] Try.f18 [.agg ([.int (v),.int (nx),.int (kp),.int (qt),.own 0,.own 1,.own 2]),.agg (ba (c))] [.row 46 (.nm .sess) (se),.row 42 (.nm .opn) (op),.row 44 (.nm .snap) (sn)] [.agg ([.int (r0),.int (r1),.int (r2),.int (r3),.own 0,.own 1,.own 2]),.agg (cellsOf (.nm .reply) r4)] [.row 46 (.nm .sess) (r5),.row 42 (.nm .opn) (r6),.row 44 (.nm .snap) (r7)]=((fun (q7:Prop)=>(fun (q6:Int)=>(fun (q5:Int)=>(fun (q4:Prop)=>(fun (q3:den (Sh.nm NT.sess))=>(fun (q2:State × Reply)=>(fun (q1:Int)=>(fun (q0:den (Sh.nm NT.sess))=>I64 v->I64 nx->I64 kp->I64 qt->I64 c.kind->I64 c.client->I64 q6->I64 c.set->I64 c.id->I64 c.n->c.text.b.length<=(140737488355328:Nat)->I64 q1->(q1<q5->I64 (11:Int)->I64 q5->v=r0/\nx=r1/\kp=r2/\qt=r3/\(11:Int)=r4.code/\q4)/\(q5<=q1->q5<=q1/\q1<(↑se.length:Int)/\(I64 (se.getD q1.toNat q3).client->I64 (se.getD q1.toNat q3).seq->I64 (se.getD q1.toNat q3).last.code->I64 (se.getD q1.toNat q3).last.n->(q6=(se.getD q1.toNat q3).seq->v=r0/\nx=r1/\kp=r2/\qt=r3/\(se.getD q1.toNat q3).last.code=r4.code/\(se.getD q1.toNat q3).last.n=r4.n/\q7)/\(¬q6=(se.getD q1.toNat q3).seq->(q6<(se.getD q1.toNat q3).seq->I64 (13:Int)->I64 q5->v=r0/\nx=r1/\kp=r2/\qt=r3/\(13:Int)=r4.code/\q4)/\((se.getD q1.toNat q3).seq<=q6->I64 ((se.getD q1.toNat q3).seq+(1:Int))/\((se.getD q1.toNat q3).seq+(1:Int)<q6->I64 (14:Int)->I64 q5->v=r0/\nx=r1/\kp=r2/\qt=r3/\(14:Int)=r4.code/\q4)/\(q6<=(se.getD q1.toNat q3).seq+(1:Int)->I64 q2.fst.version->I64 q2.fst.next->I64 q2.fst.keep->I64 q2.fst.quota->I64 q2.snd.code->I64 q2.snd.n->(q5<=q1/\q1<(↑q2.fst.sess.length:Int))/\(I64 q0.client->I64 q0.seq->I64 q0.last.code->I64 q0.last.n->q5<=q1/\q1<(↑(q2.fst.sess.set q1.toNat (Sess.mk q0.client q6 q0.last)).length:Int))/\(I64 q0.client->I64 q0.seq->I64 q0.last.code->I64 q0.last.n->I64 ((q2.fst.sess.set q1.toNat (Sess.mk q0.client q6 q0.last)).getD q1.toNat q3).client->I64 ((q2.fst.sess.set q1.toNat (Sess.mk q0.client q6 q0.last)).getD q1.toNat q3).seq->I64 ((q2.fst.sess.set q1.toNat (Sess.mk q0.client q6 q0.last)).getD q1.toNat q3).last.code->I64 ((q2.fst.sess.set q1.toNat (Sess.mk q0.client q6 q0.last)).getD q1.toNat q3).last.n->q2.fst.version=r0/\q2.fst.next=r1/\q2.fst.keep=r2/\q2.fst.quota=r3/\q2.snd.code=r4.code/\q2.snd.n=r4.n/\(q2.fst.sess.set q1.toNat (Sess.mk q0.client q6 q0.last)).set q1.toNat (Sess.mk ((q2.fst.sess.set q1.toNat (Sess.mk q0.client q6 q0.last)).getD q1.toNat q3).client ((q2.fst.sess.set q1.toNat (Sess.mk q0.client q6 q0.last)).getD q1.toNat q3).seq q2.snd)=r5/\q2.fst.opens=r6/\q2.fst.snaps=r7))))))) (q2.fst.sess.getD q1.toNat q3)) (aj Sess.client c.client se)) (bV (State.mk v nx kp qt se op sn) c)) (aG (Sh.nm NT.sess))) (q5=r4.n/\q7)) (0:Int)) c.seq) (se=r5/\op=r6/\sn=r7)):=by kernel_rfl
theorem yU (v:Int) (nx:Int) (kp:Int) (qt:Int) (c:Command) (se:List Sess) (op:List Opn) (sn:List Snap) (h0:cP (State.mk v nx kp qt se op sn) c=0):Sat Try.prog (ao aI) 18 [.agg ([.int (v),.int (nx),.int (kp),.int (qt),.own 0,.own 1,.own 2]),.agg (ba (c))] [.row 46 (.nm .sess) (se),.row 42 (.nm .opn) (op),.row 44 (.nm .snap) (sn)] ⟨[cP (State.mk v nx kp qt se op sn) c=0],[.agg ([.int (((aX (State.mk v nx kp qt se op sn) c).1.version)),.int (((aX (State.mk v nx kp qt se op sn) c).1.next)),.int (((aX (State.mk v nx kp qt se op sn) c).1.keep)),.int (((aX (State.mk v nx kp qt se op sn) c).1.quota)),.own 0,.own 1,.own 2]),.agg (cellsOf (.nm .reply) ((aX (State.mk v nx kp qt se op sn) c).2))],some ([.row 46 (.nm .sess) (((aX (State.mk v nx kp qt se op sn) c).1.sess)),.row 42 (.nm .opn) (((aX (State.mk v nx kp qt se op sn) c).1.opens)),.row 44 (.nm .snap) (((aX (State.mk v nx kp qt se op sn) c).1.snaps))]),false⟩:=by
 refine cf um [] Try.func18 (by decide) (by kernel_rfl) ?_
 rw [yt]
 (repeat' (first | with_reducible apply cg | with_reducible refine cj ?_ | intro))
 all_goals (first | exact cG | exact bz aO | exact wq aO | exact Gk aO | exact Kv aO aO | (rw [N_] <;> first | rfl | with_reducible assumption | exact iI (iF aO)) | (rw [Ol] <;> first | rfl | with_reducible assumption | exact iI (iF aO)) | (rw [Oa] <;> first | rfl | with_reducible assumption | exact iI (iF aO)) | (rw [NO] <;> first | rfl | with_reducible assumption | exact iI (iF aO)) | (rw [NP] <;> first | rfl | with_reducible assumption | exact iI (iF aO)))
def zE:cO:=(bF 18 (bE (ak (kG (ai cI (ai cI (ai cI (ai cI (ai (aP 0) (ai (aP 1) (ai (aP 2) a_)))))))) (ak Dn aS)) (au (aQ 46 (.nm .sess)) (au (aQ 42 (.nm .opn)) (au (aQ 44 (.nm .snap)) aR))) fun ((v,nx,kp,qt,_,_,_,_),c,_) (se,op,sn,_)=>⟨[cP (State.mk v nx kp qt se op sn) c=0],[.agg ([.int (((aX (State.mk v nx kp qt se op sn) c).1.version)),.int (((aX (State.mk v nx kp qt se op sn) c).1.next)),.int (((aX (State.mk v nx kp qt se op sn) c).1.keep)),.int (((aX (State.mk v nx kp qt se op sn) c).1.quota)),.own 0,.own 1,.own 2]),.agg (cellsOf (.nm .reply) ((aX (State.mk v nx kp qt se op sn) c).2))],some ([.row 46 (.nm .sess) (((aX (State.mk v nx kp qt se op sn) c).1.sess)),.row 42 (.nm .opn) (((aX (State.mk v nx kp qt se op sn) c).1.opens)),.row 44 (.nm .snap) (((aX (State.mk v nx kp qt se op sn) c).1.snaps))]),false⟩) Be)
theorem sZ:bk Try.prog (ao aI) zE:=(aB (aA (ag (F_ (ae aq (ae aq (ae aq (ae aq (ae aw (ae aw (ae aw aC)))))))) (ag fL ay)) (ah av (ah av (ah av ax))) fun ((v,nx,kp,qt,_,_,_,_),c,_) (se,op,sn,_) hp=>yU v nx kp qt c se op sn (dM hp)) um)
def Gi (st:State) (c:Command):List (Nat × LI):=[(15,{ σ:=Nat,F:=fun k=>([(2,one (.ptr 0 0)),(3,one (.ptr 1 0)),(4,one (.ptr 2 0)),(5,one (.ptr 3 0)),(7,one (.int k))],[.box 26 ([.int ((st.version)),.int ((st.next)),.int ((st.keep)),.int ((st.quota)),.own 4,.own 5,.own 6]),.box 29 (ba ((c))),.box 26 ([.int ((0)),.int ((0)),.int ((0)),.int ((0)),.em true,.em true,.em true]),.box 35 ([.int ((0)),.int ((0))]),.row 46 (.nm .sess) ((st.sess)),.row 42 (.nm .opn) ((st.opens)),.row 44 (.nm .snap) ((st.snaps))]),J:=fun k=>k<=st.sess.length/\(st.sess.take k).all (fun y=>decide (y.client<c.client))=true,μ:=fun k=>st.sess.length - k })]
theorem Hd (st:State) (c:Command) (r0:Int) (r1:Int) (r2:Int) (r3:Int) (r4:Reply) (r5:List Sess) (r6:List Opn) (r7:List Snap):lF aI zE (Gi st c) Try.f8 [.agg (xN (st)),.agg (ba (c))] [] [.agg ([.int (r0),.int (r1),.int (r2),.int (r3),.own 0,.own 1,.own 2]),.agg (cellsOf (.nm .reply) r4)] [.row 46 (.nm .sess) (r5),.row 42 (.nm .opn) (r6),.row 44 (.nm .snap) (r7)]=((fun (q13:Prop)=>(fun (q12:Reply)=>(fun (q11:den (Sh.nm NT.sess))=>(fun (q10:Prop)=>(fun (q9:Prop)=>(fun (q8:Prop)=>(fun (q7:Int)=>(fun (q6:Int)=>(fun (q5:State)=>(fun (q4:List Sess)=>(fun (q3:Int)=>(fun (q2:Prop)=>(fun (q1:Int)=>(fun (q0:Prop)=>I64 q3->I64 st.next->I64 st.keep->I64 st.quota->I64 c.kind->I64 q7->I64 c.seq->I64 c.set->I64 c.id->I64 c.n->c.text.b.length<=(140737488355328:Nat)->I64 q3->I64 st.next->I64 st.keep->I64 st.quota->I64 (if bK st q3=q1 then cC c q3 else q6)->(¬(if bK st q3=q1 then cC c q3 else q6)=q1->I64 (if bK st q3=q1 then cC c q3 else q6)->I64 q1->q3=r0/\q10/\q9/\q8/\(if bK st q3=q1 then cC c q3 else q6)=r4.code/\q1=r4.n/\q2)/\((if bK st q3=q1 then cC c q3 else q6)=q1->(c.kind=(8:Int)->I64 (q3+q6)/\(¬c.n=q3+q6->I64 q6->I64 q1->q3=r0/\q10/\q9/\q8/\q6=r4.code/\q1=r4.n/\q2)/\(c.n=q3+q6->c.n=r0/\q10/\q9/\q8/\q1=r4.code/\c.n=r4.n/\q2))/\(¬c.kind=(8:Int)->(c.kind=q6->I64 (aj Sess.client q7 q4)->(q1<=aj Sess.client q7 q4->I64 (12:Int)->I64 q1->q3=r0/\q10/\q9/\q8/\(12:Int)=r4.code/\q1=r4.n/\q2)/\(aj Sess.client q7 q4<q1->∃ (s0:Nat),(fun (q14:Int)=>(q1=(↑s0:Int)/\q0)/\(s0<=q4.length/\((List.take s0 q4).all fun (y:Sess)=>decide (y.client<q7))=true)/\∀ (s:Nat),(fun (q16:Int)=>(fun (q15:den (Sh.nm NT.sess))=>s<=q4.length/\((List.take s q4).all fun (y:Sess)=>decide (y.client<q7))=true->(q16<q14->q1<=q16/\q16<q14)/\((q16<q14->I64 q15.client/\I64 q15.seq/\I64 q15.last.code/\I64 q15.last.n)->(q16<q14/\q15.client<q7->I64 (q16+q6)/\∃ (s':Nat),(q16+q6=(↑s':Int)/\q0)/\(s' <= q4.length/\((List.take s' q4).all fun (y:Sess)=>decide (y.client<q7))=true)/\q4.length - s' < q4.length - s)/\(q14<=q16\/q7<=q15.client->(q1<=q16/\q16<=q14)/\q4.length<(1048576:Nat)/\[Sess.mk q7 q1 (Reply.mk q1 q1)].length=(1:Nat)/\q3=r0/\q10/\q9/\q8/\q1=r4.code/\q1=r4.n/\List.take s q4++[Sess.mk q7 q1 (Reply.mk q1 q1)]++List.drop s q4=r5/\q13))) (q4.getD s q11)) (↑s:Int)) (↑q4.length:Int)))/\(¬c.kind=q6->cP st c=q1/\(I64 q5.version->I64 q5.next->I64 q5.keep->I64 q5.quota->I64 q12.code->I64 q12.n->q5.version=r0/\q5.next=r1/\q5.keep=r2/\q5.quota=r3/\q12.code=r4.code/\q12.n=r4.n/\q5.sess=r5/\q5.opens=r6/\q5.snaps=r7))))) (q3=q3/\st.next=st.next/\st.keep=st.keep/\st.quota=st.quota/\c.kind=c.kind/\q7=q7/\c.seq=c.seq/\c.set=c.set/\c.id=c.id/\c.n=c.n/\c.chunks=c.chunks/\c.text=c.text/\q1=q1/\q1=q1/\q1=q1/\q1=q1/\q1=q1/\q1=q1/\q4=q4/\st.opens=st.opens/\st.snaps=st.snaps)) (0:Int)) (q4=r5/\q13)) st.version) st.sess) (aX st c).fst) (1:Int)) c.client) (st.quota=r3)) (st.keep=r2)) (st.next=r1)) (aG (Sh.nm NT.sess))) (aX st c).snd) (st.opens=r6/\st.snaps=r7)):=by kernel_rfl
theorem At (st:State) (c:Command):Sat Try.prog (ao aI) 8 [.agg (xN (st)),.agg (ba (c))] [] ⟨[],[.agg ([.int (((de st c).1.version)),.int (((de st c).1.next)),.int (((de st c).1.keep)),.int (((de st c).1.quota)),.own 0,.own 1,.own 2]),.agg (cellsOf (.nm .reply) ((de st c).2))],some ([.row 46 (.nm .sess) (((de st c).1.sess)),.row 42 (.nm .opn) (((de st c).1.opens)),.row 44 (.nm .snap) (((de st c).1.snaps))]),true⟩:=by
 refine di sZ (Gi st c) Try.func8 (by decide) (by kernel_rfl) ?_
 rw [Hd]
 iterate 3 ((all_goals (repeat' (first | with_reducible apply cg | with_reducible refine cj ?_ | intro))); (all_goals try (first | exact cG | (refine uE ?_ ?_ <;> (have:=tk aO; omega)) | exact rfl | exact Kr aO | exact KG aO | exact tk aO | exact GN aO aO aO | (rw [Od] <;> first | rfl | with_reducible assumption | exact ei bt aO (by assumption)) | (rw [KH] <;> first | rfl | with_reducible assumption | exact ei bt aO (by assumption)) | (rw [Lw] <;> first | rfl | with_reducible assumption | exact ei bt aO (by assumption)) | (rw [Ll] <;> first | rfl | with_reducible assumption | exact ei bt aO (by assumption)) | (rw [Kf] <;> first | rfl | with_reducible assumption | exact ei bt aO (by assumption)) | (rw [Oj] <;> first | rfl | with_reducible assumption | exact ei bt aO (by assumption)))); all_goals try first | refine ⟨‹Nat› + 1,?_⟩ | refine ⟨0,?_⟩)
def dh:cO:=(bF 8 (bE (ak Na (ak Dn aS)) aR fun (st,c,_) (_)=>⟨[],[.agg ([.int (((de st c).1.version)),.int (((de st c).1.next)),.int (((de st c).1.keep)),.int (((de st c).1.quota)),.own 0,.own 1,.own 2]),.agg (cellsOf (.nm .reply) ((de st c).2))],some ([.row 46 (.nm .sess) (((de st c).1.sess)),.row 42 (.nm .opn) (((de st c).1.opens)),.row 44 (.nm .snap) (((de st c).1.snaps))]),true⟩) zE)
theorem nI:bk Try.prog (ao aI) dh:=(aB (aA (ag BD (ag fL ay)) ax fun (st,c,_) (_) _=>At st c ) sZ)
def dC:Code->Code
 | .seq x _=>x
 | c=>c
def ot:Code->Code
 | .seq _ y=>y
 | c=>c
def lD:Code->List Oper
 | .region _ ops _=>ops.toList
 | _=>[]
noncomputable abbrev o0:Code:=(Try.f3).body.getD .skip
noncomputable abbrev o1:Code:=ot o0
noncomputable abbrev o2:Code:=ot o1
noncomputable abbrev o3:Code:=ot o2
noncomputable abbrev o4:Code:=ot o3
noncomputable abbrev o5:Code:=ot o4
noncomputable abbrev o6:Code:=ot o5
noncomputable abbrev o7:Code:=ot o6
noncomputable abbrev o8:Code:=ot o7
noncomputable abbrev o9:Code:=ot o8
noncomputable abbrev oC:Code:=ot o9
noncomputable abbrev oA:Code:=.seq (dC o0) (.seq (dC o1) (.seq (dC o2) (.seq (dC o3) (dC o4))))
noncomputable abbrev oR:Code:=dC o5
noncomputable abbrev oB:Code:=.seq (dC o6) (.seq (dC o7) (dC o8))
noncomputable abbrev oN:Code:=dC o9
def hA (s:State) (c:Command):AH:=[.box 26 (cellsOf (.nm .state) ((s))),.box 29 (cellsOf (.nm .command) ((c))),.row 46 (.nm .sess) ((s.sess)),.row 42 (.nm .opn) ((s.opens)),.row 44 (.nm .snap) ((s.snaps)),.box 26 ([.int ((s.version)),.int ((s.next)),.int ((s.keep)),.int ((s.quota)),.own 2,.own 3,.own 4])]
def hR (a:State):AH:=[.row 46 (.nm .sess) ((a.sess)),.row 42 (.nm .opn) ((a.opens)),.row 44 (.nm .snap) ((a.snaps))]
def Mj (a:State) (r:Reply):AH:=[.box 26 ([.int ((a.version)),.int ((a.next)),.int ((a.keep)),.int ((a.quota)),.own 6,.own 7,.own 8]),.box 35 (cellsOf (.nm .reply) ((r)))]
def hB (s:State) (c:Command) (a:State) (r:Reply):AH:=hA s c++hR a++Mj a r
def hC (s:State) (c:Command) (a:State) (r:Reply) (l:List Sess):AH:=hA s c++([.row 46 (.nm .sess) ((l)),.row 42 (.nm .opn) ((a.opens))]++[.gone])++[.box 26 ([.int ((a.version)),.int ((a.next)),.int ((a.keep)),.int ((a.quota)),.own 6,.own 7,.dead]),.box 35 (cellsOf (.nm .reply) ((r)))]
def Ih:AFr:=[(2,one (.ptr 0 0)),(3,one (.ptr 1 0)),(5,one (.bool (.atom true))),(6,one (.ptr 5 0))]
def IB (a:State) (r:Reply):AFr:=(26,.tup [.agg [.int a.version,.int a.next,.int a.keep,.int a.quota,.own 6,.own 7,.own 8],.agg (cellsOf (.nm .reply) r)]) :: Ih
def Jx:AFr:=(7,one (.ptr 9 0)) :: Ih
def DR:AFr:=(9,one (.bool (.atom true))) :: Jx
def Le:Option TV->Prop
 | some (.one (.c (.bool e)))=>e.val=true
 | _=>False
def LR (k0:Nat) (q:AFr × AH):Exit->AFr->AH->Prop
 | .normal,fr,K=>gO (uJ aI k0 fr K q)
 | _,_,_=>False
def Oh (k0:Nat) (q:AFr × AH) (fr:AFr) (K:AH):Prop:=gO (uJ aI k0 fr K q)
def Mc (k0:Nat) (q:AFr × AH):Exit->AFr->AH->Prop
 | .normal,fr,K=>gO (uJ aI k0 fr K q)
 | .ret,fr,_=>Le (lookA fr 4)
 | _,_,_=>False
def NV:Exit->AFr->AH->Prop
 | .ret,fr,_=>Le (lookA fr 4)
 | _,_,_=>False
def zG (x:Sess):Sess:=⟨x.client,99,x.last⟩
def LB (s:State) (c:Command) (a:State) (r:Reply):List (Nat × LI):=[(10,{ σ:=Nat,F:=fun x=>((10,one (.int ((x:Int)+1))) :: DR,hB s c a r),J:=fun x=>x<=8,μ:=fun x=>8 - x })]
def LC (s:State) (c:Command) (a:State) (r:Reply):List (Nat × LI):=[(24,{ σ:=Nat,F:=fun k=>((15,one (.int k)) :: DR,hC s c a r ((a.sess.take k).map zG++a.sess.drop k)),J:=fun k=>k<=a.sess.length,μ:=fun k=>a.sess.length - k })]
theorem MO (s:State) (c:Command):iz (xY [.agg (cellsOf (.nm .state) s),.agg (cellsOf (.nm .command) c)]) (gz aI dh (dS 0) 0 [] oA (LR 0 (Ih,hA (cY s) (rE c))) (lH 0 [.agg (cellsOf (.nm .state) s),.agg (cellsOf (.nm .command) c)]) [])=((fun (q2:Nat)=>(fun (q1:Command)=>(fun (q0:State)=>I64 s.version->I64 s.next->I64 s.keep->I64 s.quota->s.sess.length*(32:Nat)<=q2->s.opens.length*(16:Nat)<=q2->s.snaps.length*(64:Nat)<=q2->I64 c.kind->I64 c.client->I64 c.seq->I64 c.set->I64 c.id->I64 c.n->c.chunks.length*(8:Nat)<=q2->c.text.b.length<=q2->I64 q0.version->I64 q0.next->I64 q0.keep->I64 q0.quota->q0.sess.length*(32:Nat)<=q2->q0.opens.length*(16:Nat)<=q2->q0.snaps.length*(64:Nat)<=q2->I64 q1.kind->I64 q1.client->I64 q1.seq->I64 q1.set->I64 q1.id->I64 q1.n->q1.chunks.length*(8:Nat)<=q2->q1.text.b.length<=q2->I64 q0.version->I64 q0.next->I64 q0.keep->I64 q0.quota->true=true/\q0.version=q0.version/\q0.next=q0.next/\q0.keep=q0.keep/\q0.quota=q0.quota/\q0.sess=q0.sess/\q0.opens=q0.opens/\q0.snaps=q0.snaps/\q1.kind=q1.kind/\q1.client=q1.client/\q1.seq=q1.seq/\q1.set=q1.set/\q1.id=q1.id/\q1.n=q1.n/\q1.chunks=q1.chunks/\q1.text=q1.text/\q0.sess=q0.sess/\q0.opens=q0.opens/\q0.snaps=q0.snaps/\q0.version=q0.version/\q0.next=q0.next/\q0.keep=q0.keep/\q0.quota=q0.quota) (cY s)) (rE c)) (140737488355328:Nat)):=by kernel_rfl
theorem Mz (s:State) (c:Command) (a:State) (r:Reply):wpOps aI dh (dS 9) (lD oR) (Oh 9 (Jx,hB s c a r)) 20 ((lD oR).drop 3) (IB a r) (hA s c++hR a)=(true=true/\s.version=s.version/\s.next=s.next/\s.keep=s.keep/\s.quota=s.quota/\s.sess=s.sess/\s.opens=s.opens/\s.snaps=s.snaps/\c.kind=c.kind/\c.client=c.client/\c.seq=c.seq/\c.set=c.set/\c.id=c.id/\c.n=c.n/\c.chunks=c.chunks/\c.text=c.text/\s.sess=s.sess/\s.opens=s.opens/\s.snaps=s.snaps/\s.version=s.version/\s.next=s.next/\s.keep=s.keep/\s.quota=s.quota/\a.sess=a.sess/\a.opens=a.opens/\a.snaps=a.snaps/\a.version=a.version/\a.next=a.next/\a.keep=a.keep/\a.quota=a.quota/\r.code=r.code/\r.n=r.n):=by kernel_rfl
theorem Ns (s:State) (c:Command) (a:State) (r:Reply):gz aI dh (dS 11) 11 (LB s c a r) oB (Mc 11 (DR,hB s c a r)) Jx (hB s c a r)=((fun (q10:Int)=>(fun (q9:Int)=>(fun (q8:Int)=>(fun (q7:Prop)=>(fun (q6:Prop)=>(fun (q5:Int)=>(fun (q4:List Opn)=>(fun (q3:den (Sh.nm NT.opn))=>(fun (q2:List Opn)=>(fun (q1:Int)=>(fun (q0:Prop)=>I64 (bK s q9)->(¬bK s q9=q5->(true && decide (s=s))=true)/\(bK s q9=q5->∃ (s0:Nat),(q1=(↑s0:Int)+q1/\decide (s=s)=true/\q0)/\s0<=(8:Nat)/\∀ (s:Nat),(fun (q11:Int)=>s<=(8:Nat)->(q11<=(8:Int)->I64 (aj Opn.set q11 q4)->I64 (aj Opn.set q11 q2)->(q5<=aj Opn.set q11 q4/\q5<=aj Opn.set q11 q2->q5<=aj Opn.set q11 q4/\aj Opn.set q11 q4<(↑q4.length:Int))/\(q5<=aj Opn.set q11 q4/\q5<=aj Opn.set q11 q2->q5<=aj Opn.set q11 q2/\aj Opn.set q11 q2<(↑q2.length:Int))/\(((aj Opn.set q11 q4<q5\/aj Opn.set q11 q2<q5)\/(q4.getD (aj Opn.set q11 q4).toNat q3).set=(q2.getD (aj Opn.set q11 q2).toNat q3).set/\(q4.getD (aj Opn.set q11 q4).toNat q3).client=(q2.getD (aj Opn.set q11 q2).toNat q3).client)/\(aj Opn.set q11 q4<q5/\q5<=aj Opn.set q11 q2)/\q6/\q10=q11->q5<=aj Opn.set q11 q2/\aj Opn.set q11 q2<(↑q2.length:Int))/\((((aj Opn.set q11 q4<q5\/aj Opn.set q11 q2<q5)\/(q4.getD (aj Opn.set q11 q4).toNat q3).set=(q2.getD (aj Opn.set q11 q2).toNat q3).set/\(q4.getD (aj Opn.set q11 q4).toNat q3).client=(q2.getD (aj Opn.set q11 q2).toNat q3).client)/\((q5<=aj Opn.set q11 q4\/aj Opn.set q11 q2<q5)\/(q6/\q10=q11)/\(q2.getD (aj Opn.set q11 q2).toNat q3).client=q8))/\(q5<=aj Opn.set q11 q4/\aj Opn.set q11 q2<q5)/\q7/\q10=q11->q5<=aj Opn.set q11 q4/\aj Opn.set q11 q4<(↑q4.length:Int))/\((q5<=aj Opn.set q11 q4/\q5<=aj Opn.set q11 q2->I64 (q4.getD (aj Opn.set q11 q4).toNat q3).set/\I64 (q4.getD (aj Opn.set q11 q4).toNat q3).client)->(q5<=aj Opn.set q11 q4/\q5<=aj Opn.set q11 q2->I64 (q2.getD (aj Opn.set q11 q2).toNat q3).set/\I64 (q2.getD (aj Opn.set q11 q2).toNat q3).client)->(((aj Opn.set q11 q4<q5\/aj Opn.set q11 q2<q5)\/(q4.getD (aj Opn.set q11 q4).toNat q3).set=(q2.getD (aj Opn.set q11 q2).toNat q3).set/\(q4.getD (aj Opn.set q11 q4).toNat q3).client=(q2.getD (aj Opn.set q11 q2).toNat q3).client)/\(aj Opn.set q11 q4<q5/\q5<=aj Opn.set q11 q2)/\q6/\q10=q11->I64 (q2.getD (aj Opn.set q11 q2).toNat q3).set/\I64 (q2.getD (aj Opn.set q11 q2).toNat q3).client)->((((aj Opn.set q11 q4<q5\/aj Opn.set q11 q2<q5)\/(q4.getD (aj Opn.set q11 q4).toNat q3).set=(q2.getD (aj Opn.set q11 q2).toNat q3).set/\(q4.getD (aj Opn.set q11 q4).toNat q3).client=(q2.getD (aj Opn.set q11 q2).toNat q3).client)/\((q5<=aj Opn.set q11 q4\/aj Opn.set q11 q2<q5)\/(q6/\q10=q11)/\(q2.getD (aj Opn.set q11 q2).toNat q3).client=q8))/\(q5<=aj Opn.set q11 q4/\aj Opn.set q11 q2<q5)/\q7/\q10=q11->I64 (q4.getD (aj Opn.set q11 q4).toNat q3).set/\I64 (q4.getD (aj Opn.set q11 q4).toNat q3).client)->(((q5<=aj Opn.set q11 q4/\q5<=aj Opn.set q11 q2)/\(¬(q4.getD (aj Opn.set q11 q4).toNat q3).set=(q2.getD (aj Opn.set q11 q2).toNat q3).set\/¬(q4.getD (aj Opn.set q11 q4).toNat q3).client=(q2.getD (aj Opn.set q11 q2).toNat q3).client)\/(aj Opn.set q11 q4<q5/\q5<=aj Opn.set q11 q2)/\((¬q6\/¬q10=q11)\/¬(q2.getD (aj Opn.set q11 q2).toNat q3).client=q8))\/(q5<=aj Opn.set q11 q4/\aj Opn.set q11 q2<q5)/\((¬c.kind=(3:Int)/\¬c.kind=(4:Int)\/¬q10=q11)\/¬(q4.getD (aj Opn.set q11 q4).toNat q3).client=q8)->false=true)/\((((aj Opn.set q11 q4<q5\/aj Opn.set q11 q2<q5)\/(q4.getD (aj Opn.set q11 q4).toNat q3).set=(q2.getD (aj Opn.set q11 q2).toNat q3).set/\(q4.getD (aj Opn.set q11 q4).toNat q3).client=(q2.getD (aj Opn.set q11 q2).toNat q3).client)/\((q5<=aj Opn.set q11 q4\/aj Opn.set q11 q2<q5)\/(q6/\q10=q11)/\(q2.getD (aj Opn.set q11 q2).toNat q3).client=q8))/\((aj Opn.set q11 q4<q5\/q5<=aj Opn.set q11 q2)\/(q7/\q10=q11)/\(q4.getD (aj Opn.set q11 q4).toNat q3).client=q8)->I64 (q11+q1)/\∃ (s':Nat),(q11+q1=(↑s':Int)+q1/\true=true/\q0)/\s' <= (8:Nat)/\(8:Nat) - s' < (8:Nat) - s)))/\((8:Int)<q11->true=true/\q0)) ((↑s:Int)+q1))) (true=true/\q9=q9/\s.next=s.next/\s.keep=s.keep/\s.quota=s.quota/\s.sess=s.sess/\q4=q4/\s.snaps=s.snaps/\c.kind=c.kind/\q8=q8/\c.seq=c.seq/\q10=q10/\c.id=c.id/\c.n=c.n/\c.chunks=c.chunks/\c.text=c.text/\s.sess=s.sess/\q4=q4/\s.snaps=s.snaps/\q9=q9/\s.next=s.next/\s.keep=s.keep/\s.quota=s.quota/\a.sess=a.sess/\q2=q2/\a.snaps=a.snaps/\a.version=a.version/\a.next=a.next/\a.keep=a.keep/\a.quota=a.quota/\r.code=r.code/\r.n=r.n)) (1:Int)) a.opens) (aG (Sh.nm NT.opn))) s.opens) (0:Int)) (c.kind=(2:Int))) (c.kind=(3:Int)\/c.kind=(4:Int))) c.client) s.version) c.set):=by kernel_rfl
theorem M_ (s:State) (c:Command) (a:State) (r:Reply):gz aI dh (dS 0) 11 (LC s c a r) oC NV DR (hC s c a r a.sess)=((fun (q9:den (Sh.nm NT.sess))=>(fun (q8:Prop)=>(fun (q7:Prop)=>(fun (q6:Prop)=>(fun (q5:Prop)=>(fun (q4:Prop)=>(fun (q3:Prop)=>(fun (q2:Prop)=>(fun (q1:List Sess)=>(fun (q0:Prop)=>∃ (s0:Nat),((0:Int)=(↑s0:Int)/\true=true/\true=true/\q2/\q7/\q6/\q3/\q8/\q4/\q5/\c.kind=c.kind/\c.client=c.client/\c.seq=c.seq/\c.set=c.set/\c.id=c.id/\c.n=c.n/\c.chunks=c.chunks/\c.text=c.text/\q8/\q4/\q5/\q2/\q7/\q6/\q3/\q1=List.map zG (List.take s0 q1)++List.drop s0 q1/\q0)/\s0<=q1.length/\∀ (s_1:Nat),(fun (q10:List Sess)=>s_1<=q1.length->((↑s_1:Int)<(↑q10.length:Int)->(0:Int)<=(↑s_1:Int)/\(↑s_1:Int)<(↑q10.length:Int)/\(I64 (q10.getD s_1 q9).client->I64 (q10.getD s_1 q9).seq->I64 (q10.getD s_1 q9).last.code->I64 (q10.getD s_1 q9).last.n->I64 ((↑s_1:Int)+(1:Int))/\∃ (s':Nat),((↑s_1:Int)+(1:Int)=(↑s':Int)/\true=true/\true=true/\q2/\q7/\q6/\q3/\q8/\q4/\q5/\c.kind=c.kind/\c.client=c.client/\c.seq=c.seq/\c.set=c.set/\c.id=c.id/\c.n=c.n/\c.chunks=c.chunks/\c.text=c.text/\q8/\q4/\q5/\q2/\q7/\q6/\q3/\q10.set s_1 (Sess.mk (q10.getD s_1 q9).client (99:Int) (q10.getD s_1 q9).last)=List.map zG (List.take s' q1)++List.drop s' q1/\q0)/\s' <= q1.length/\q1.length - s' < q1.length - s_1))/\((↑q10.length:Int)<=(↑s_1:Int)->(true && true && decide (s=s))=true)) (List.map zG (List.take s_1 q1)++List.drop s_1 q1)) (a.opens=a.opens/\a.version=a.version/\a.next=a.next/\a.keep=a.keep/\a.quota=a.quota/\r.code=r.code/\r.n=r.n)) a.sess) (s.version=s.version)) (s.quota=s.quota)) (s.opens=s.opens)) (s.snaps=s.snaps)) (s.keep=s.keep)) (s.next=s.next)) (s.sess=s.sess)) (aG (Sh.nm NT.sess))):=by kernel_rfl
structure NS (mk g7:Nat) (A7:Option Addr) (n c7:Nat) (v7 cur:List Value) (w:World):Prop where
 h7:w.heap[g7]? = some (.cells (List.toArray v7) 26 (0,0))
 s7:v7[6]? = some (.slice A7 n c7)
 hs:∀ i,i<n->∃ gs,A7=some ⟨gs,0,none⟩/\w.heap[gs]? = some (.cells (List.toArray cur) 44 (0,0))
 hc:∀ i,i<n->∃ a len k,cur[i*5+2]? = some (.slice a len k)/\len<9223372036854775807/\(len=0\/∃ b o arr,a=some ⟨b,o,none⟩/\mk<=b/\w.heap[b]? = some (.cells (List.toArray arr) 3 (0,0))/\o+len<=arr.length)
structure NR (mk:Nat) (w0 w:World):Prop where
 os:w.os=w0.os
 tape:w.tape=w0.tape
 output:w.output=w0.output
 size:w.heap.size=w0.heap.size
 blk:∀ b:Nat,(b<mk\/∀ arr:Array Value,w0.heap[b]? ≠ some (Obj.cells arr 3 (0,0)))->w.heap[b]? = w0.heap[b]?
 ty:∀ (b:Nat) (arr:Array Value),w.heap[b]? = some (Obj.cells arr 3 (0,0))->∃ arr':Array Value,w0.heap[b]? = some (Obj.cells arr' 3 (0,0))
theorem NR.refl (mk:Nat) (w:World):NR mk w w:=⟨rfl,rfl,rfl,rfl,fun _ _=>rfl,fun _ arr h=>⟨arr,h⟩⟩
section
variable {mk g7 n c7:Nat} {A7:Option Addr} {v7 cur:List Value} {w0 w:World}
theorem NR.store {b:Nat} {arr arr':List Value} (h:NR mk w0 w) (hb:mk<=b) (hg:w.heap[b]? = some (.cells (List.toArray arr) 3 (0,0))):NR mk w0 (w.setRow b arr'.toArray):=by
 have hk:=Kp.setRow w b arr'.toArray
 have hh:=setRow_heap w b arr.toArray arr'.toArray 3 (0,0) hg
 refine ⟨hk.os.trans h.os,hk.tape.trans h.tape,hk.output.trans h.output,(by simp:(w.setRow b arr'.toArray).heap.size=w.heap.size).trans h.size,fun x hx=>?_,fun x a ha=>?_⟩
 ·by_cases e:x=b
  ·subst e
   obtain ⟨a0,h0⟩:=h.ty x _ hg
   rcases hx with hx | hx
   ·omega
   ·exact absurd h0 (hx a0)
  ·exact (setRow_other w b x arr'.toArray e).trans (h.blk x hx)
 ·by_cases e:x=b
  ·subst e; exact h.ty x _ hg
  ·rw [setRow_other w b x arr'.toArray e] at ha
   exact h.ty x a ha
theorem NS.store {b:Nat} {arr arr':List Value} (h:NS mk g7 A7 n c7 v7 cur w) (hg:w.heap[b]? = some (.cells (List.toArray arr) 3 (0,0))) (hl:arr'.length=arr.length):NS mk g7 A7 n c7 v7 cur (w.setRow b arr'.toArray):=by
 have hh:=setRow_heap w b arr.toArray arr'.toArray 3 (0,0) hg
 refine ⟨?_,h.s7,fun i hi=>?_,fun i hi=>?_⟩
 ·rw [setRow_other w b g7 arr'.toArray (fun e=>by subst e; rw [h.h7] at hg; cases hg)]; exact h.h7
 ·obtain ⟨gs,e1,e2⟩:=h.hs i hi
  exact ⟨gs,e1,by rw [setRow_other w b gs arr'.toArray (fun e=>by subst e; rw [e2] at hg; cases hg)]; exact e2⟩
 ·obtain ⟨a,len,k,e1,e2,e3⟩:=h.hc i hi
  refine ⟨a,len,k,e1,e2,e3.imp id ?_⟩
  rintro ⟨b',o,ar,f1,f2,f3,f4⟩
  by_cases e:b' = b
  ·subst e
   rw [f3] at hg; cases hg
   exact ⟨b',o,arr',f1,f2,hh,by omega⟩
  ·exact ⟨b',o,ar,f1,f2,by rw [setRow_other w b b' arr'.toArray e]; exact f3,f4⟩
end
theorem MK:(Try.prog.info? 44).map (·.size)=some 5:=by kernel_rfl
theorem LX:(Try.prog.info? 3).map (·.size)=some 1:=by kernel_rfl
theorem GW:(Try.prog.info? 24).map (·.size)=some (0+1):=by kernel_rfl
theorem Lz:(Try.prog.info? 27).map (·.size)=some (0+1):=by kernel_rfl
section
variable {mk g7 n c7:Nat} {A7:Option Addr} {v7 cur:List Value} {w:World} {Q:Exit->Act->World->Prop} {v9 v2 v3 v5 v6:Value}
theorem gE {g i:Nat} {cs:List Value} {t:TypeId} {v:Value} (h:w.heap[g]? = some (.cells (List.toArray cs) t (0,0))) (hv:cs[i]? = some v):w.cell? ⟨g,i,none⟩=some v:=by
 simp [World.cell?,h,hv]
theorem Ka {q s:Int} {v7:Value} {i:Nat} {v:Value} (hv:look [(14,.int .i64 q),(13,.int .i64 s),(9,v9),(7,v7),(2,v2),(3,v3),(5,v5),(6,v6)] i=some v) {a b c d e:Value}:look [(14,.int .i64 q),(139,a),(138,b),(137,c),(136,d),(135,e),(13,.int .i64 s),(9,v9),(7,v7),(2,v2),(3,v3),(5,v5),(6,v6)] i=some v:=
 Has.look (fr':=[(14,.int .i64 q),(13,.int .i64 s),(9,v9),(7,v7),(2,v2),(3,v3),(5,v5),(6,v6)]) ⟨⟨_,rfl,rfl⟩,⟨_,rfl,rfl⟩,⟨_,rfl,rfl⟩,⟨_,rfl,rfl⟩,⟨_,rfl,rfl⟩,⟨_,rfl,rfl⟩,⟨_,rfl,rfl⟩,⟨_,rfl,rfl⟩,trivial⟩ i v hv
theorem Da (h:NS mk g7 A7 n c7 v7 cur w) (hn:n<9223372036854775807)
  (k:∀ w',NS mk g7 A7 n c7 v7 cur w' -> NR mk w w' -> WX Q 182 .normal [(9,v9),(7,.pointer (some ⟨g7,0,none⟩)),(2,v2),(3,v3),(5,v5),(6,v6)] w') :
  WC Try.prog Q 182 oN [(9,v9),(7,.pointer (some ⟨g7,0,none⟩)),(2,v2),(3,v3),(5,v5),(6,v6)] w:=by
 refine WC.seq (WC.region (WO.v (R.assign rfl) rfl (WO.nil (WX.next (WC.block ?_)))))
 refine WC.Gc (fun s:Nat=>[(13,.int .i64 (s:Int)),(9,v9),(7,.pointer (some ⟨g7,0,none⟩)),(2,v2),(3,v3),(5,v5),(6,v6)]) (fun s w'=>s<=n/\NS mk g7 A7 n c7 v7 cur w' /\ NR mk w w') (fun s=>n - s) 0 (fun _ _ h=>h) ⟨Nat.zero_le _,h,NR.refl _ _⟩ fun s w1 hJ=>?_
 obtain ⟨hs,hN,hR⟩:=hJ
 refine WC.seq (WC.seq (WC.region (WO.v (R.move rfl) rfl (WO.v (R.eQ rfl Try.underlying26 rfl rfl GW) rfl (WO.v (R.ml rfl Try.underlying24 rfl (gE hN.h7 hN.s7)) rfl (WO.v (R.len rfl Try.underlying24) rfl (WO.v (R.lss rfl rfl) rfl (WO.nil (WX.next ?_)))))))))
 refine WC.cond rfl (fun hb=>WC.skip (WX.next ?_)) (fun hb=>WC.exit (WX.sG (WX.rB (WX.Ax ?_))))
 ·have hb:s<n:=by have:=of_decide_eq_true hb; omega
  refine WC.seq (WC.block (WC.seq (WC.region (WO.v (R.assign rfl) rfl (WO.nil (WX.next (WC.block ?_)))))))
  obtain ⟨ca,len,ck,hcu,hlen,hca⟩:=h.hc s hb
  obtain ⟨gs,hA7,-⟩:=h.hs s hb
  subst hA7
  refine WC.Gc (fun q:Nat=>[(14,.int .i64 (q:Int)),(13,.int .i64 (s:Int)),(9,v9),(7,.pointer (some ⟨g7,0,none⟩)),(2,v2),(3,v3),(5,v5),(6,v6)]) (fun q w'=>q<=len/\NS mk g7 (some ⟨gs,0,none⟩) n c7 v7 cur w' /\ NR mk w w') (fun q=>len - q) 0 (fun i v hv=>Ka hv) ⟨Nat.zero_le _,hN,hR⟩ fun q w2 hJ=>?_
  obtain ⟨hq,hN2,hR2⟩:=hJ
  obtain ⟨gs',hgs,hsn⟩:=hN2.hs s hb
  cases hgs
  have e2:(⟨gs,0,none⟩:Addr).add (s*5)=⟨gs,s*5,none⟩:=by rw [add_lit,Nat.zero_add]
  have hix:∀ {F:Fr} {x y:Operand} {ty:TypeId},ev F x=some (.slice (some ⟨gs,0,none⟩) n c7)->ev F y=some (.int .i64 (s:Int))->aU Try.prog 182 F w2 (.indexAddr 24 x y) ty (.pointer (some ⟨gs,s*5,none⟩)) w2:=@fun _ _ _ ty hx hy=>by
   have:=R.dV (P:=Try.prog) (n:=182) (w:=w2) (ty:=ty) hx hy Try.underlying24 MK rfl hb
   rw [e2] at this; exact this
  refine WC.seq (WC.seq (WC.region (WO.v (R.move rfl) rfl (WO.v (R.eQ rfl Try.underlying26 rfl rfl GW) rfl (WO.v (R.ml rfl Try.underlying24 rfl (gE hN2.h7 hN2.s7)) rfl (WO.v (R.move rfl) rfl (WO.v (hix rfl rfl) rfl (WO.v (R.eQ rfl Try.underlying44 rfl rfl Lz) rfl (WO.v (R.ml rfl Try.underlying27 rfl (gE hsn hcu)) rfl (WO.v (R.len rfl Try.underlying27) rfl (WO.v (R.lss rfl rfl) rfl (WO.nil (WX.next ?_)))))))))))))
  refine WC.cond rfl (fun hb2=>WC.skip (WX.next ?_)) (fun hb2=>WC.exit (WX.sG (WX.rB (WX.Ax ?_))))
  ·have hb2:q<len:=by have:=of_decide_eq_true hb2; omega
   rcases hca with hz | ⟨b,o,arr0,rfl,hmb,-,-⟩
   ·omega
   obtain ⟨ca',len',ck',hcu',-,hca'⟩:=hN2.hc s hb
   rw [hcu] at hcu'; cases hcu'
   rcases hca' with hz | ⟨b',o',arr,he,-,hbl,hol⟩
   ·omega
   cases he
   have hiy:∀ {F:Fr} {x y:Operand} {ty:TypeId},ev F x=some (.slice (some ⟨b,o,none⟩) len ck)->ev F y=some (.int .i64 (q:Int))->aU Try.prog 182 F w2 (.indexAddr 27 x y) ty (.pointer (some ⟨b,o+q,none⟩)) w2:=@fun _ _ _ ty hx hy=>by
    have:=R.dV (P:=Try.prog) (n:=182) (w:=w2) (ty:=ty) hx hy Try.underlying27 LX rfl hb2
    rw [add_lit,Nat.mul_one] at this; exact this
   refine WC.seq (WC.block (WC.region (WO.v (R.eQ rfl Try.underlying26 rfl rfl GW) rfl (WO.v (R.ml rfl Try.underlying24 rfl (gE hN2.h7 hN2.s7)) rfl (WO.v (R.move rfl) rfl (WO.v (hix rfl rfl) rfl (WO.v (R.eQ rfl Try.underlying44 rfl rfl Lz) rfl (WO.v (R.ml rfl Try.underlying27 rfl (gE hsn hcu)) rfl (WO.v (R.move rfl) rfl (WO.v (hiy rfl rfl) rfl (WO.s (R.store (us:=[.int .i64 99]) rfl rfl hbl rfl (by simp [Value.oneCell']) LX (by simp; omega)) (WO.nil (WX.ou (WX.next ?_))))))))))))))
   refine WC.region (WO.v (R.move rfl) rfl (WO.v (R.inc rfl (by omega)) rfl (WO.v (R.assign rfl) rfl (WO.nil ?_))))
   exact WX.rA (q+1) ⟨⟨_,rfl,rfl⟩,⟨_,rfl,rfl⟩,⟨_,rfl,rfl⟩,⟨_,rfl,rfl⟩,⟨_,rfl,rfl⟩,⟨_,rfl,rfl⟩,⟨_,rfl,rfl⟩,⟨_,rfl,rfl⟩,trivial⟩ ⟨hb2,hN2.store hbl (by simp; omega),hR2.store hmb hbl⟩ bt
  ·refine WX.ou (WX.next ?_)
   refine WC.region (WO.v (R.move rfl) rfl (WO.v (R.inc rfl (by omega)) rfl (WO.v (R.assign rfl) rfl (WO.nil ?_))))
   exact WX.rA (s+1) ⟨⟨_,rfl,rfl⟩,⟨_,rfl,rfl⟩,⟨_,rfl,rfl⟩,⟨_,rfl,rfl⟩,⟨_,rfl,rfl⟩,⟨_,rfl,rfl⟩,⟨_,rfl,rfl⟩,trivial⟩ ⟨hb,hN2,hR2⟩ bt
 ·refine WX.Oq [9,7,2,3,5,6] rfl (k w1 hN hR)
end
section
variable {c c':Cx}
theorem wP (hw:c'.w=c.w) {s:Sh} (hat:∀ b,c.at s b->c'.at s b) {xs:List (den s)} {v:Value} (hf:∀ x:den s,∀ a ∈ cellsOf s x,a.flat=true) (h:Pd c (.fz s xs) v):Pd c' (.fz s xs) v:=by
 cases h with | fz h1 h2 h3 h4 h5=>
 refine .fz h1 h2 h3 (gu (fun a ha=>?_) h4) (h5.imp id ?_)
 ·rw [List.mem_flatMap] at ha
  obtain ⟨x,_,hx⟩:=ha
  exact hf x a hx
 ·rintro ⟨A,hA,h6,hc⟩
  exact ⟨A,hA,hat _ h6,by rw [hw]; exact hc⟩
theorem zp (hw:c'.w=c.w) (hat:∀ b,c.at .int b->c'.at .int b):∀ {l:List Snap} {cells:List Value},Pds c (l.flatMap (cellsOf (.nm .snap))) cells->Pds c' (l.flatMap (cellsOf (.nm .snap))) cells
 | [],_,h=>by cases h; exact .nil
 | x :: l,_,h=>by
  have h0:Pds c (.int x.id :: .int x.set :: .fz .int x.chunks :: .bool (.atom x.held) :: .str x.tag :: l.flatMap (cellsOf (.nm .snap))) _:=h
  clear h
  cases h0 with | cons k1 h1=>?_
  cases h1 with | cons k2 h2=>?_
  cases h2 with | cons k3 h3=>?_
  cases h3 with | cons k4 h4=>?_
  cases h4 with | cons k5 h=>?_
  exact (.cons (dg rfl k1) (.cons (dg rfl k2) (.cons (wP hw hat (by simp [cellsOf,AV.flat]) k3) (.cons (dg rfl k4) (.cons (dg rfl k5) (zp hw hat h))))):Pds c' (.int x.id :: .int x.set :: .fz .int x.chunks :: .bool (.atom x.held) :: .str x.tag :: l.flatMap (cellsOf (.nm .snap))) _)
theorem Jp (hw:c'.w=c.w) (hat:∀ s b,c.at s b->c'.at s b) {xs:List Snap} {v:Value} (h:Pd c (.fz (.nm .snap) xs) v):Pd c' (.fz (.nm .snap) xs) v:=by
 cases h with | fz h1 h2 h3 h4 h5=>
 refine .fz h1 h2 h3 (zp hw (hat _) h4) (h5.imp id ?_)
 rintro ⟨A,hA,h6,hc⟩
 exact ⟨A,hA,hat _ _ h6,by rw [hw]; exact hc⟩
end
def Gl.at (G:Gl) (w:World):Gl:=⟨G.shp,w.heap.size,fun b=>b<w.heap.size⟩
section
variable {G:Gl} {ρ ρ':List RE} {H H':AH} {w w':World}
theorem pN {s:Sh} {b:Nat} (h:(cx G ρ w).at s b):(cx (G.at w) [] w).low.at s b:=⟨⟨h.1.1,h.1.1⟩,.inl h.1.1⟩
theorem DL {s:State} {v:Value} (h:bX (cx G ρ w) ρ (.agg (cellsOf (.nm .state) s)) v):bX (cx (G.at w) [] w) [] (.agg (xN s)) v:=by
 obtain ⟨us,rfl,h⟩:=h
 refine ⟨us,rfl,?_⟩
 replace h:All2 (Rd (cx G ρ w) ρ) [.int s.version,.int s.next,.int s.keep,.int s.quota,.fz (.nm .sess) s.sess,.fz (.nm .opn) s.opens,.fz (.nm .snap) s.snaps] us:=h
 cases h with | cons a1 h=>?_
 cases h with | cons a2 h=>?_
 cases h with | cons a3 h=>?_
 cases h with | cons a4 h=>?_
 cases h with | cons a5 h=>?_
 cases h with | cons a6 h=>?_
 cases h with | cons a7 h=>?_
 cases h
 have a5:Pd (cx G ρ w) (.fz (.nm .sess) s.sess) _:=a5
 have a6:Pd (cx G ρ w) (.fz (.nm .opn) s.opens) _:=a6
 have a7:Pd (cx G ρ w) (.fz (.nm .snap) s.snaps) _:=a7
 exact .cons (bu rfl a1) (.cons (bu rfl a2) (.cons (bu rfl a3) (.cons (bu rfl a4) (.cons ⟨[],.nil,rfl,wP (c:=cx G ρ w) (c':=(cx (G.at w) [] w).low) rfl (fun _=>pN) (by simp [cellsOf,NT.cells,AV.flat]) a5⟩ (.cons ⟨[],.nil,rfl,wP (c:=cx G ρ w) (c':=(cx (G.at w) [] w).low) rfl (fun _=>pN) (by simp [cellsOf,NT.cells,AV.flat]) a6⟩ (.cons ⟨[],.nil,rfl,Jp (c:=cx G ρ w) (c':=(cx (G.at w) [] w).low) rfl (fun _ _=>pN) a7⟩ .nil))))))
theorem DK {s:Command} {v:Value} (h:bX (cx G ρ w) ρ (.agg (cellsOf (.nm .command) s)) v):bX (cx (G.at w) [] w) [] (.agg (ba s)) v:=by
 obtain ⟨us,rfl,h⟩:=h
 refine ⟨us,rfl,?_⟩
 replace h:All2 (Rd (cx G ρ w) ρ) [.int s.kind,.int s.client,.int s.seq,.int s.set,.int s.id,.int s.n,.fz .int s.chunks,.str s.text] us:=h
 cases h with | cons a1 h=>?_
 cases h with | cons a2 h=>?_
 cases h with | cons a3 h=>?_
 cases h with | cons a4 h=>?_
 cases h with | cons a5 h=>?_
 cases h with | cons a6 h=>?_
 cases h with | cons a7 h=>?_
 cases h with | cons a8 h=>?_
 cases h
 have a7:Pd (cx G ρ w) (.fz .int s.chunks) _:=a7
 exact .cons (bu rfl a1) (.cons (bu rfl a2) (.cons (bu rfl a3) (.cons (bu rfl a4) (.cons (bu rfl a5) (.cons (bu rfl a6) (.cons ⟨[],.nil,rfl,wP (c:=cx G ρ w) (c':=(cx (G.at w) [] w).low) rfl (fun _=>pN) (by simp [cellsOf,AV.flat]) a7⟩ (.cons (bu rfl a8) .nil)))))))
theorem pZ {b:Nat} (h:live (ρ++ρ') b):live ρ b\/live ρ' b:=by
 obtain ⟨i,r,h1,h2⟩:=h
 rw [List.getElem?_append] at h1
 split at h1
 ·exact .inl ⟨i,r,h1,h2⟩
 ·exact .inr ⟨_,r,h1,h2⟩
theorem uK (hk:Kp [] w w') (hD:Rep (G.at w) ρ' H' w'):Ext ρ w (ρ++ρ') w':=
 ⟨hk.os,hk.tape,hk.output,hk.size,fun b hb hl=>⟨fun h=>(pZ h).elim hl fun ⟨i,r,h1,h2⟩=>by have:=(hD.bnd i r b h1 h2).2.2; exact this hb,hk.block b hb (by simp)⟩⟩
theorem JF {s:Sh} {b:Nat} (hR:Rep G ρ H w) (hk:Kp [] w w') (h:(cx (G.at w) ρ' w').at s b):(cx G (ρ++ρ') w').at s b:=by
 obtain ⟨⟨h1,h2,h3⟩,h4⟩:=h
 have h3:¬ b<w.heap.size:=h3
 refine ⟨⟨h1,fun h=>(pZ h).elim (fun ⟨i,r,k1,k2⟩=>h3 (hR.bnd i r b k1 k2).2.1) h2,fun hz=>h3 (hR.z b hz)⟩,.inr ?_⟩
 rcases h4 with h4 | h4
 ·exact absurd h4 h3
 ·exact h4
theorem mX {t:TypeId} {s:Sh} {xs:List (den s)} {r:RE} {c c':Cx} {ρ ρ':List RE} (hs:c'.shp=c.shp) (hb:∀ g,r.g? = some g->c'.w.heap[g]? = c.w.heap[g]?) (hp:∀ cells,Pds c (xs.flatMap (cellsOf s)) cells->Pds c' (xs.flatMap (cellsOf s)) cells) (h:OR c ρ (.row t s xs) r):OR c' ρ' (.row t s xs) r:=by
 obtain ⟨h1,h2,h3⟩:=h
 refine ⟨by rw [hs]; exact h1,h2,h3.imp id ?_⟩
 rintro ⟨g,cap,cells,sp,e1,e2,e3,e4,e5,e6⟩
 exact ⟨g,cap,cells,sp,e1,(hb g (by rw [e1]; rfl)).trans e2,hp _ e3,e4,e5,e6⟩
theorem jK {s:Sh} (hf:∀ x:den s,∀ a ∈ cellsOf s x,a.flat=true) {xs:List (den s)} {c c':Cx} (cells:List Value) (h:Pds c (xs.flatMap (cellsOf s)) cells):Pds c' (xs.flatMap (cellsOf s)) cells:=gu (fun a ha=>by
 rw [List.mem_flatMap] at ha
 obtain ⟨x,_,hx⟩:=ha
 exact hf x a hx) h
theorem H_ {a:State} (hR:Rep G ρ H w) (hk:Kp [] w w') (hD:Rep (G.at w) ρ' (Go.Proofs.Ytjmbgkmkinmlkaa.hR a) w'):Rep G (ρ++ρ') (H++Go.Proofs.Ytjmbgkmkinmlkaa.hR a) w':=by
 have hext:=uK (ρ:=ρ) hk hD
 have hle:=hext.le (G:=G) hR.lo
 refine ⟨All2.append (cd hR.obj.length fun i o r ho hr=>?_) ?_,fun i j r r' g h1 h2 h3 h4=>?_,fun i r g h1 h2=>?_,fun b hb=>Nat.lt_of_lt_of_le (hR.z b hb) hk.size,Nat.le_trans hR.b0 hk.size,iA _⟩
 ·obtain ⟨r',h1,h2⟩:=hR.at_ ho
  rw [hr] at h1; cases h1
  exact h2.carry hle (dH _ _) fun g hg=>hk.block g (hR.bnd i r g hr hg).2.1 (by simp)
 ·have hobj:=hD.obj
  cases hobj with | cons o1 h=>?_
  cases h with | cons o2 h=>?_
  cases h with | cons o3 h=>?_
  cases h
  rename_i r1 r2 r3
  exact .cons (mX (c:=cx (G.at w) [r1,r2,r3] w') (ρ:=[r1,r2,r3]) rfl (fun _ _=>rfl) (jK (by simp [cellsOf,NT.cells,AV.flat])) o1) (.cons (mX (c:=cx (G.at w) [r1,r2,r3] w') (ρ:=[r1,r2,r3]) rfl (fun _ _=>rfl) (jK (by simp [cellsOf,NT.cells,AV.flat])) o2) (.cons (mX (c:=cx (G.at w) [r1,r2,r3] w') (ρ:=[r1,r2,r3]) rfl (fun _ _=>rfl) (fun _ h=>zp (c:=cx (G.at w) [r1,r2,r3] w') (c':=cx G (ρ++[r1,r2,r3]) w') rfl (fun b hb=>JF hR hk hb) h) o3) .nil))
 ·rw [List.getElem?_append] at h1 h2
  split at h1 <;> split at h2
  ·exact hR.inj i j r r' g h1 h2 h3 h4
  ·have k1:=(hR.bnd i r g h1 h3).2.1
   have k2:=(hD.bnd _ r' g h2 h4).2.2
   exact absurd k1 k2
  ·have k1:=(hR.bnd j r' g h2 h4).2.1
   have k2:=(hD.bnd _ r g h1 h3).2.2
   exact absurd k1 k2
  ·have:=hD.inj _ _ r r' g h1 h2 h3 h4
   omega
 ·rw [List.getElem?_append] at h1
  split at h1
  ·obtain ⟨k1,k2,k3⟩:=hR.bnd i r g h1 h2
   exact ⟨k1,Nat.lt_of_lt_of_le k2 hk.size,k3⟩
  ·obtain ⟨k1,k2,k3⟩:=hD.bnd _ r g h1 h2
   have k1:w.heap.size<=g:=k1
   exact ⟨Nat.le_trans hR.b0 k1,k2,fun hz=>by have:=hR.z g hz; omega⟩
end
def DT:List (Nat × TI)->List Nat
 | []=>[]
 | (_,⟨.sl e (some .int),_,_⟩) :: r=>e :: DT r
 | _ :: r=>DT r
theorem vZ:∀ {T:List (Nat × TI)} {t:Nat},ao T t=some .int->t ∈ DT T
 | [],_,h=>by cases h
 | (i,⟨k,n,z⟩) :: r,t,h=>by
  have ih:=@vZ r t
  cases k with
  | sl e o=>
   cases o with
   | none=>exact ih h
   | some s=>
    have h:(bif Nat.beq e t then some s else ao r t)=some .int:=h
    cases hb:Nat.beq e t with
    | true=>
     rw [hb] at h; cases h
     rw [Nat.eq_of_beq_eq_true hb]; exact List.mem_cons_self
    | false=>
     rw [hb] at h
     have:=ih h
     cases s <;> first | exact this | exact List.mem_cons_of_mem _ this
  | _=>exact ih h
theorem Kq {t:Nat} (h:ao aI t=some .int):t=3:=by
 have h1:=vZ h
 rw [show DT aI=[3] from by kernel_rfl] at h1
 exact List.mem_singleton.1 h1
theorem Gw {c:Cx}:∀ {l:List Snap} {cells:List Value},Pds c (l.flatMap (cellsOf (.nm .snap))) cells->∀ i,i<l.length->∃ v xs,cells[i*5+2]? = some v/\Pd c (.fz .int xs) v
 | [],_,_,i,hi=>by simp at hi
 | x :: l,_,h,i,hi=>by
  have h0:Pds c (.int x.id :: .int x.set :: .fz .int x.chunks :: .bool (.atom x.held) :: .str x.tag :: l.flatMap (cellsOf (.nm .snap))) _:=h
  clear h
  cases h0 with | cons k1 h1=>?_
  cases h1 with | cons k2 h2=>?_
  cases h2 with | cons k3 h3=>?_
  cases h3 with | cons k4 h4=>?_
  cases h4 with | cons k5 h=>?_
  cases i with
  | zero=>exact ⟨_,x.chunks,rfl,k3⟩
  | succ i=>
   obtain ⟨v,xs,e1,e2⟩:=Gw h i (by simp at hi; omega)
   exact ⟨v,xs,by rw [show (i+1)*5+2=i*5+2+1+1+1+1+1 by omega]; exact e1,e2⟩
section
variable {G:Gl} {ρ':List RE} {H:AH} {w w':World}
theorem KL (hG:G.shp=ao aI) {xs:List Int} {v:Value} (h:Pd (cx (G.at w) ρ' w') (.fz .int xs) v):∃ a len k,v = .slice a len k/\len<9223372036854775807/\(len=0\/∃ b o arr,a=some ⟨b,o,none⟩/\w.heap.size<=b/\b<w'.heap.size/\¬ live ρ' b/\w'.heap[b]? = some (.cells (List.toArray arr) 3 (0,0))/\o+len<=arr.length):=by
 cases h with
 | @fz _ _ a k cells h1 h2 h3 h4 h5=>
  have h3:xs.length*8<=140737488355328:=h3
  refine ⟨a,xs.length,k,rfl,by omega,?_⟩
  by_cases hx:xs.length=0
  ·exact .inl hx
  right
  rcases h5 with h5 | ⟨A,hA,⟨⟨s1,s2,s3⟩,hat⟩,hc⟩
  ·subst h5; simp at hx
  have s3:¬ A.block<w.heap.size:=s3
  rcases hat with hat | ⟨cur,t,fr,e1,e2,e3⟩
  ·exact absurd hat s3
  have e2:G.shp t=some .int:=e2
  rw [hG] at e2
  obtain rfl:=Kq e2
  obtain rfl:=e3 rfl
  obtain ⟨hcl,_⟩:=pU h4
  have e1:w'.heap[A.block]? = some (.cells cur 3 (0,0)):=e1
  have key:∀ j,j<xs.length->∃ u,w'.cell? (A.add j)=some u:=fun j hj=>by
   have hj2:j<cells.length:=by rw [hcl,List.length_map]; exact hj
   exact ⟨_,hc j _ (List.getElem?_eq_getElem hj2)⟩
  obtain ⟨u0,hu0⟩:=key 0 (by omega)
  have hsp:A.spot=none:=by
   have h0:w'.cell? A=some u0:=hu0
   unfold World.cell? at h0
   rw [e1] at h0
   cases hs:A.spot with
   | none=>rfl
   | some q=>simp [hs] at h0
  obtain ⟨b,o,sp⟩:=A
  subst hsp
  refine ⟨b,o,cur.toList,hA,Nat.le_of_not_lt s3,s1,s2,by rw [e1],?_⟩
  obtain ⟨u1,hu1⟩:=key (xs.length - 1) (by omega)
  rw [add_lit] at hu1
  unfold World.cell? at hu1
  have e1:w'.heap[b]? = _:=e1
  simp only [e1] at hu1
  have hu1:cur[o+(xs.length - 1)]? = some u1:=by simpa using hu1
  have:=(Array.getElem?_eq_some_iff.1 hu1).1
  simp only [Array.length_toList]; omega
end
theorem wH {c:Cx} {ρ:List RE} {t:TypeId} {s:Sh} {xs:List (den s)} {r:RE} (h:OR c ρ (.row t s xs) r) (ht:t≠3):∀ g,r.g? = some g->∀ arr:Array Value,c.w.heap[g]? ≠ some (.cells arr 3 (0,0)):=fun g hg arr h2=>by
 obtain ⟨_,_,h3⟩:=h
 rcases h3 with ⟨rfl,_⟩ | ⟨g',cap,cells,sp,rfl,e2,_⟩
 ·cases hg
 ·cases hg
  rw [h2] at e2
  cases e2
  exact ht rfl
theorem vJ {c:Cx} {ρ:List RE} {t:TypeId} {cs:List AV} {r:RE} (h:OR c ρ (.box t cs) r) (ht:t≠3):∀ g,r.g? = some g->∀ arr:Array Value,c.w.heap[g]? ≠ some (.cells arr 3 (0,0)):=fun g hg arr h2=>by
 obtain ⟨g',vs,rfl,e2,_⟩:=h
 cases hg
 rw [h2] at e2
 cases e2
 exact ht rfl
theorem Cl {c c':Cx} {ρ ρ':List RE} {t:TypeId} {cs cs':List AV} {r:RE} (h:OR c ρ (.box t cs) r) (hb:∀ g,r.g? = some g->c'.w.heap[g]? = c.w.heap[g]?) (hc:∀ vs,All2 (Rd c ρ) cs vs->All2 (Rd c' ρ') cs' vs):OR c' ρ' (.box t cs') r:=by
 obtain ⟨g',vs,rfl,e2,e3⟩:=h
 exact ⟨g',vs,rfl,(hb _ rfl).trans e2,hc _ e3⟩
theorem zC {c c':Cx} {ρ ρ':List RE} {i:Nat} {v:Value} (h:Rd c ρ (.own i) v) (hi:ρ'[i]? = ρ[i]?):Rd c' ρ' (.own i) v:=by
 have h:(∃ g cap len z,ρ[i]? = some (.row g cap len z)/\v = .slice (some ⟨g,0,none⟩) len cap)\/(ρ[i]? = some .emp/\∃ a,v = .slice a 0 0):=h
 show (∃ g cap len z,ρ'[i]? = some (.row g cap len z)/\v = .slice (some ⟨g,0,none⟩) len cap)\/(ρ'[i]? = some .emp/\∃ a,v = .slice a 0 0)
 rw [hi]; exact h
section
variable {G:Gl} {ρ ρ' ρ2 ρ3:List RE} {W W1 W2 W3 W4:World} {s a:State} {c:Command} {r:Reply}
theorem stay (hR0:Rep G ρ (hA s c) W) (hD:Rep (G.at W) ρ' (hR a) W1) (h2:Stp (dS 9) (ρ++ρ') W1 ρ2 W2) (h3:Stp (dS 11) ρ2 W2 ρ3 W3) {i:Nat} {x:RE} (hx:(ρ++ρ')[i]? = some x):ρ3[i]? = some x/\∀ g,x.g? = some g->W3.heap[g]? = W1.heap[g]?:=by
 have hl:(ρ++ρ').length=9:=by
  have l1:=hR0.obj.length
  have l2:=hD.obj.length
  have l3:(hA s c).length=6:=rfl
  have l4:(hR a).length=3:=rfl
  rw [List.length_append]; omega
 have hi:i<9:=by rw [<- hl]; exact (List.getElem?_eq_some_iff.1 hx).1
 obtain ⟨k1,k2⟩:=h2.pro i x (kW hi) hx
 obtain ⟨k3,k4⟩:=h3.pro i x (kW (by omega)) k1
 exact ⟨k3,fun g hg=>(k4 g hg).trans (k2 g hg)⟩
theorem BY {i:Nat} {x:RE} (h:(ρ3.set 8 .no)[i]? = some x) {g:Nat} (hg:x.g? = some g):ρ3[i]? = some x:=by
 by_cases hi:i=8
 ·subst hi
  rw [List.getElem?_set] at h
  split at h
  ·split at h
   ·cases h; cases hg
   ·cases h
  ·rename_i h1; exact absurd rfl h1
 ·rwa [List.getElem?_set_ne (fun e=>hi e.symm)] at h
theorem Nh (hR0:Rep G ρ (hA s c) W) (hk:Kp [] W W1) (hD:Rep (G.at W) ρ' (hR a) W1) (h2:Stp (dS 9) (ρ++ρ') W1 ρ2 W2) (h3:Stp (dS 11) ρ2 W2 ρ3 W3) (hR3:Rep G ρ3 (hB s c a r) W3) (hN:NR W.heap.size W3 W4) :
  Rep G (ρ3.set 8 .no) (hC s c a r a.sess) W4/\∀ b,b<W.heap.size->¬ live ρ b->¬ live (ρ3.set 8 .no) b/\W4.heap[b]? = W.heap[b]?:=by
 have hE:Ext ρ W ρ3 W3:=((uK hk hD).trans h2.ext).trans h3.ext
 have hlen3:ρ3.length=11:=hR3.obj.length.symm
 have hlen0:ρ.length=6:=hR0.obj.length.symm
 have hlv:∀ b,live (ρ3.set 8 .no) b->live ρ3 b:=fun b ⟨i,x,h1,h2⟩=>⟨i,x,BY h1 h2,h2⟩
 have hold:∀ b,b<W.heap.size->¬ live ρ b->¬ live (ρ3.set 8 .no) b/\W4.heap[b]? = W.heap[b]?:=fun b hb hl=>by
  obtain ⟨k1,k2⟩:=hE.old b hb hl
  exact ⟨fun h=>k1 (hlv b h),(hN.blk b (.inl hb)).trans k2⟩
 have hle:(cx G ρ W).le (cx G (ρ3.set 8 .no) W4):=⟨rfl,rfl,fun b hb=>⟨⟨by show b<W4.heap.size; rw [hN.size]; exact Nat.lt_of_lt_of_le hb.1 hE.size,(hold b hb.1 hb.2.1).1,hb.2.2⟩,(hold b hb.1 hb.2.1).2⟩,fun b hb hs=>(hold b hs (hR0.lo b hb).2).2⟩
 have hne:∀ i,i≠8->(ρ3.set 8 .no)[i]? = ρ3[i]?:=fun i hi=>List.getElem?_set_ne (fun e=>hi e.symm)
 refine ⟨⟨cd (by rw [List.length_set,hlen3]; rfl) fun i o x ho hx=>?_,fun i j x y g h1 h2 h3 h4=>hR3.inj i j x y g (BY h1 h3) (BY h2 h4) h3 h4,fun i x g h1 h2=>?_,fun b hb=>by rw [hN.size]; exact hR3.z b hb,by rw [hN.size]; exact hR3.b0,iA _⟩,hold⟩
 ·by_cases hi:i<6
  ·have ho:(hA s c)[i]? = some o:=by
    have e:(hC s c a r a.sess)[i]? = (hA s c)[i]?:=by
     unfold hC
     rw [List.append_assoc,List.getElem?_append_left (show i<(hA s c).length from hi)]
    rw [<- e]; exact ho
   obtain ⟨y,k1,k2⟩:=hR0.at_ ho
   have k3:(ρ++ρ')[i]? = some y:=by rw [List.getElem?_append_left (by omega)]; exact k1
   obtain ⟨k4,k5⟩:=stay hR0 hD h2 h3 k3
   rw [hne i (by omega),k4] at hx
   cases hx
   refine k2.carry hle (fun j z hz hzn=>?_) fun g hg=>?_
   ·have k3:(ρ++ρ')[j]? = some z:=by rw [List.getElem?_append_left (List.getElem?_eq_some_iff.1 hz).1]; exact hz
    have hj:j<6:=by rw [<- hlen0]; exact (List.getElem?_eq_some_iff.1 hz).1
    rw [hne j (by omega)]
    exact (stay hR0 hD h2 h3 k3).1
   ·have hb:=(hR0.bnd i _ g k1 hg).2.1
    exact ((hN.blk g (.inl hb)).trans (k5 g hg)).trans (hk.block g hb (by simp))
  ·have hi2:i=6\/i=7\/i=8\/i=9\/i=10:=by
    have:=(List.getElem?_eq_some_iff.1 hx).1
    rw [List.length_set,hlen3] at this; omega
   rcases hi2 with rfl | rfl | rfl | rfl | rfl
   ·obtain ⟨y,k1,k2⟩:=hR3.at_ (show (hB s c a r)[6]? = some (.row 46 (.nm .sess) a.sess) from rfl)
    rw [hne 6 (by decide),k1] at hx; cases hx
    have ho:some (AO.row 46 (.nm .sess) a.sess)=some o:=ho
    cases ho
    exact mX (c:=cx G ρ3 W3) (ρ:=ρ3) rfl (fun g hg=>hN.blk g (.inr (wH k2 (by decide) g hg))) (jK (by simp [cellsOf,NT.cells,AV.flat])) k2
   ·obtain ⟨y,k1,k2⟩:=hR3.at_ (show (hB s c a r)[7]? = some (.row 42 (.nm .opn) a.opens) from rfl)
    rw [hne 7 (by decide),k1] at hx; cases hx
    have ho:some (AO.row 42 (.nm .opn) a.opens)=some o:=ho
    cases ho
    exact mX (c:=cx G ρ3 W3) (ρ:=ρ3) rfl (fun g hg=>hN.blk g (.inr (wH k2 (by decide) g hg))) (jK (by simp [cellsOf,NT.cells,AV.flat])) k2
   ·have ho:some AO.gone=some o:=ho
    cases ho
    rw [List.getElem?_set_self (by omega)] at hx
    cases hx; rfl
   ·obtain ⟨y,k1,k2⟩:=hR3.at_ (show (hB s c a r)[9]? = some (.box 26 [.int a.version,.int a.next,.int a.keep,.int a.quota,.own 6,.own 7,.own 8]) from rfl)
    rw [hne 9 (by decide),k1] at hx; cases hx
    have ho:some (AO.box 26 [.int a.version,.int a.next,.int a.keep,.int a.quota,.own 6,.own 7,.dead])=some o:=ho
    cases ho
    refine Cl (c:=cx G ρ3 W3) (ρ:=ρ3) k2 (fun g hg=>hN.blk g (.inr (vJ k2 (by decide) g hg))) fun vs h=>?_
    cases h with | cons a1 h=>?_
    cases h with | cons a2 h=>?_
    cases h with | cons a3 h=>?_
    cases h with | cons a4 h=>?_
    cases h with | cons a5 h=>?_
    cases h with | cons a6 h=>?_
    cases h with | cons a7 h=>?_
    cases h
    exact .cons (bu rfl a1) (.cons (bu rfl a2) (.cons (bu rfl a3) (.cons (bu rfl a4) (.cons (zC a5 (hne 6 (by decide))) (.cons (zC a6 (hne 7 (by decide))) (.cons (Rd.one a7) .nil))))))
   ·obtain ⟨y,k1,k2⟩:=hR3.at_ (show (hB s c a r)[10]? = some (.box 35 [.int r.code,.int r.n]) from rfl)
    rw [hne 10 (by decide),k1] at hx; cases hx
    have ho:some (AO.box 35 [.int r.code,.int r.n])=some o:=ho
    cases ho
    refine Cl (c:=cx G ρ3 W3) (ρ:=ρ3) k2 (fun g hg=>hN.blk g (.inr (vJ k2 (by decide) g hg))) fun vs h=>?_
    cases h with | cons a1 h=>?_
    cases h with | cons a2 h=>?_
    cases h
    exact .cons (bu rfl a1) (.cons (bu rfl a2) .nil)
 ·have:=hR3.bnd i x g (BY h1 h2) h2
  exact ⟨this.1,by rw [hN.size]; exact this.2.1,this.2.2⟩
end
section
variable {α:Type} {key:α->Int} {x:Int} {l:List α} {d:α}
abbrev xk (key:α->Int) (x:Int) (l:List α):Option α:=l.find? fun y=>decide (key y=x)
theorem uT:(aj key x l<0/\xk key x l=none)\/(0<=aj key x l/\xk key x l=some (l.getD (aj key x l).toNat d)/\l[(aj key x l).toNat]? = some (l.getD (aj key x l).toNat d)/\key (l.getD (aj key x l).toNat d)=x):=by
 unfold aj
 cases h:l.findIdx? (fun y=>decide (key y=x)) with
 | none=>
  left
  refine ⟨by decide,?_⟩
  rw [List.findIdx?_eq_none_iff] at h
  exact List.find?_eq_none.2 fun y hy=>by have:=h y hy; simpa using this
 | some i=>
  right
  rw [List.findIdx?_eq_some_iff_getElem] at h
  obtain ⟨h1,h2,h3⟩:=h
  have e:l.getD ((i:Int)).toNat d=l[i]:=by
   rw [show ((i:Int)).toNat=i from rfl,List.getD_eq_getElem?_getD,List.getElem?_eq_getElem h1]; rfl
  refine ⟨by dsimp only; omega,?_,?_,?_⟩
  ·dsimp only
   rw [e]
   unfold xk
   rw [List.find?_eq_some_iff_getElem]
   exact ⟨h2,i,h1,rfl,fun j hj=>by have:=h3 j hj; simpa using this⟩
  ·dsimp only; rw [e]; exact List.getElem?_eq_getElem h1
  ·dsimp only; rw [e]; exact of_decide_eq_true h2
theorem Ek {n:Nat} {y:α} (hx:¬ key y=x):xk key x (l.take n++y :: l.drop n)=xk key x l:=by
 unfold xk
 rw [List.find?_append,List.find?_cons_of_neg (by simpa using hx),<- List.find?_append,List.take_append_drop]
theorem Is {n:Nat} {y:α} (hl:xk key x l=none) (hx:key y=x):xk key x (l.take n++y :: l.drop n)=some y:=by
 unfold xk at *
 rw [List.find?_eq_none] at hl
 rw [List.find?_append,List.find?_eq_none.2 (fun z hz=>hl z (List.mem_of_mem_take hz)),List.find?_cons_of_pos (by simpa using hx)]; rfl
theorem EO {i:Nat} {y:α} (hi:l[i]? = some y) (hx:¬ key y=x):xk key x (l.take i++l.drop (i+1))=xk key x l:=by
 obtain ⟨h1,h2⟩:=List.getElem?_eq_some_iff.1 hi
 have e:l=l.take i++y :: l.drop (i+1):=by
  rw [<- h2,<- List.drop_eq_getElem_cons h1,List.take_append_drop]
 unfold xk
 conv=>rhs; rw [e]
 rw [List.find?_append,List.find?_append,List.find?_cons_of_neg (by simpa using hx)]
theorem qy {most:Int}:∀ {l:List α} {a:Int},aD key most a l=true->∀ y ∈ l,a<key y
 | [],_,_,y,hy=>by simp at hy
 | z :: l,a,h,y,hy=>by
  simp only [aD,Bool.and_eq_true] at h
  have h1:=y_ h.1
  rcases List.mem_cons.1 hy with rfl | hy
  ·omega
  ·have:=qy h.2 y hy; omega
theorem we {most:Int}:∀ {l:List α} {a:Int} {i:Nat} {y:α},aD key most a l=true->l[i]? = some y->xk key (key y) (l.take i++l.drop (i+1))=none
 | [],_,_,_,_,h=>by simp at h
 | z :: l,a,0,y,h,hy=>by
  simp at hy; subst hy
  simp only [aD,Bool.and_eq_true] at h
  refine List.find?_eq_none.2 fun u hu=>?_
  have hu:u ∈ l:=by simpa using hu
  have:=qy h.2 u hu
  simp; omega
 | z :: l,a,i+1,y,h,hy=>by
  simp only [aD,Bool.and_eq_true] at h
  have hy:l[i]? = some y:=by simpa using hy
  have hz:=qy h.2 y (List.mem_of_getElem? hy)
  show ((z :: l.take i)++l.drop (i+1)).find? _=none
  rw [List.cons_append,List.find?_cons_of_neg (by simp; omega)]
  exact we h.2 hy
end
theorem Ec {s:State} {c:Command}:(bV s c).1.opens=s.opens\/(c.kind=2/\aj Opn.set c.set s.opens<0/\∃ n,(bV s c).1.opens=s.opens.take n++⟨c.set,c.client⟩ :: s.opens.drop n)\/((c.kind=3\/c.kind=4)/\0<=bh s c/\(bV s c).1.opens=sW s.opens (bh s c)):=by
 unfold bV
 split
 ·exact .inl rfl
 have snap:∀ f:State->Nat->State × Reply,(∀ s n,(f s n).1.opens=s.opens)->(al f c s).1.opens=s.opens:=fun f hf=>by
  unfold al; split
  ·rfl
  ·exact hf _ _
 have h1:∀ b s n,(bc b s n).1.opens=s.opens:=fun b s n=>by unfold bc; split <;> rfl
 have h2:∀ s n,(aM s n).1.opens=s.opens:=fun s n=>by
  unfold aM; split
  ·rfl
  ·split <;> rfl
 unfold sQ
 split
 ·exact .inl (snap _ fun _ _=>rfl)
 split
 ·exact .inl (snap _ (h1 _))
 split
 ·exact .inl (snap _ (h1 _))
 split
 ·exact .inl (snap _ fun _ _=>rfl)
 split
 ·exact .inl (snap _ h2)
 split
 ·exact .inl rfl
 split
 ·exact .inl rfl
 split
 ·rename_i k
  unfold aN; split
  ·exact .inl rfl
  ·exact .inr (.inr ⟨.inr k,by omega,rfl⟩)
 split
 ·rename_i k
  unfold aH; split
  ·exact .inl rfl
  split
  ·exact .inl rfl
  split
  ·exact .inl rfl
  ·exact .inr (.inr ⟨.inl k,by omega,rfl⟩)
 split
 ·rename_i k
  unfold aJ; split
  ·exact .inl rfl
  ·exact .inr (.inl ⟨k,by omega,_,rfl⟩)
 ·exact .inl rfl
theorem Jd {s:State} {c:Command}:(de s c).1.opens=s.opens\/(c.kind=2/\aj Opn.set c.set s.opens<0/\∃ n,(de s c).1.opens=s.opens.take n++⟨c.set,c.client⟩ :: s.opens.drop n)\/((c.kind=3\/c.kind=4)/\0<=bh s c/\(de s c).1.opens=sW s.opens (bh s c)):=by
 unfold de
 split
 ·exact .inl rfl
 split
 ·split <;> exact .inl rfl
 split
 ·split <;> exact .inl rfl
 unfold aX
 split
 ·exact .inl rfl
 split
 ·exact .inl rfl
 split
 ·exact .inl rfl
 split
 ·exact .inl rfl
 ·exact Ec
abbrev dO:Opn:=aG (.nm .opn)
theorem Ie {s:State} {c:Command} (hm:bK s s.version=0) (x:Int) :
  (0<=aj Opn.set x s.opens->0<=aj Opn.set x (de s c).1.opens->s.opens.getD (aj Opn.set x s.opens).toNat dO=(de s c).1.opens.getD (aj Opn.set x (de s c).1.opens).toNat dO) /\
  (aj Opn.set x s.opens<0->0<=aj Opn.set x (de s c).1.opens->c.kind=2/\c.set=x/\((de s c).1.opens.getD (aj Opn.set x (de s c).1.opens).toNat dO).client=c.client) /\
  (0<=aj Opn.set x s.opens->aj Opn.set x (de s c).1.opens<0->(c.kind=3\/c.kind=4)/\c.set=x/\(s.opens.getD (aj Opn.set x s.opens).toNat dO).client=c.client):=by
 have hr:aD Opn.set 8 0 s.opens=true:=by
  have h1:=(dQ hm).2.2.2.1
  simp only [gB,Bool.and_eq_true] at h1
  exact h1.1
 have p1:=uT (key:=Opn.set) (x:=x) (l:=s.opens) (d:=dO)
 have p2:=uT (key:=Opn.set) (x:=x) (l:=(de s c).1.opens) (d:=dO)
 rcases Jd (s:=s) (c:=c) with h | ⟨hk,hp,n,h⟩ | ⟨hk,hp,h⟩
 ·rw [h]
  exact ⟨fun _ _=>rfl,fun _ _=>by omega,fun _ _=>by omega⟩
 ·by_cases hx:c.set=x
  ·subst hx
   have p3:xk Opn.set c.set s.opens=none:=by
    rcases p1 with p1 | p1
    ·exact p1.2
    ·omega
   have p4:=Is (n:=n) (y:=(⟨c.set,c.client⟩:Opn)) p3 rfl
   rw [<- h] at p4
   refine ⟨fun h1 _=>by omega,fun _ h2=>⟨hk,rfl,?_⟩,fun h1 _=>by omega⟩
   rcases p2 with p2 | p2
   ·omega
   ·rw [p2.2.1] at p4; rw [Option.some.inj p4]
  ·have p4:=Ek (n:=n) (l:=s.opens) (y:=(⟨c.set,c.client⟩:Opn)) (key:=Opn.set) hx
   rw [<- h] at p4
   rcases p1 with p1 | p1 <;> rcases p2 with p2 | p2
   ·exact ⟨by omega,by omega,by omega⟩
   ·rw [p1.2,p2.2.1] at p4; cases p4
   ·rw [p2.2,p1.2.1] at p4; cases p4
   ·rw [p1.2.1,p2.2.1] at p4
    exact ⟨fun _ _=>(Option.some.inj p4).symm,by omega,by omega⟩
 ·have ho:bh s c=aj Opn.set c.set s.opens/\(s.opens.getD (aj Opn.set c.set s.opens).toNat dO).client=c.client:=by
   unfold bh at hp ⊢
   split at hp
   ·omega
   ·rename_i h1
    rw [if_neg h1]
    refine ⟨rfl,Classical.byContradiction fun h2=>h1 ⟨hp,h2⟩⟩
  have q:=uT (key:=Opn.set) (x:=c.set) (l:=s.opens) (d:=dO)
  rw [ho.1] at h hp
  rcases q with q | ⟨-,q1,q2,q3⟩
  ·omega
  have hi1:(aj Opn.set c.set s.opens+1).toNat=(aj Opn.set c.set s.opens).toNat+1:=by omega
  unfold sW at h
  rw [hi1] at h
  by_cases hx:c.set=x
  ·subst hx
   have p4:=we hr q2
   rw [q3,<- h] at p4
   have h2:aj Opn.set c.set (de s c).1.opens<0:=by
    rcases p2 with p2 | p2
    ·exact p2.1
    ·rw [p2.2.1] at p4; cases p4
   exact ⟨fun _ h1=>by omega,fun h1 _=>by omega,fun _ _=>⟨hk,rfl,ho.2⟩⟩
  ·have p4:=EO (key:=Opn.set) (x:=x) q2 (by rw [q3]; exact hx)
   rw [<- h] at p4
   rcases p1 with p1 | p1 <;> rcases p2 with p2 | p2
   ·exact ⟨by omega,by omega,by omega⟩
   ·rw [p1.2,p2.2.1] at p4; cases p4
   ·rw [p2.2,p1.2.1] at p4; cases p4
   ·rw [p1.2.1,p2.2.1] at p4
    exact ⟨fun _ _=>(Option.some.inj p4).symm,by omega,by omega⟩
structure Wq (p:Prop):Prop where
 h:p
theorem LY {n k0:Nat} {m:Nat} {L:List (Nat × LI)} {G:Gl} {c:Code} {K:Exit->AFr->AH->Prop} {fr:AFr} {H:AH} {ρ0:List RE} {w0 w:World} {F:Fr} {Q:Exit->Act->World->Prop} (hG:G.shp=ao aI) (hm:m<=ρ0.length) (hk:ρ0.length<=k0) (hc:cJ n c=true) (h:gz aI dh (dS m) k0 L c K fr H)
  (hs:St G (dS m) ρ0 w0 fr H F w) (hK:∀ e fr H F w,K e fr H->St G (dS m) ρ0 w0 fr H F w->WX Q n e F w):WC Try.prog Q n c F w:=
 pF (by rw [hG]; exact dG) (by rw [hG]; exact nI) (gC dG nI eZ G n (dS m) ρ0 w0 hG (kK hm)) hk c Q K fr H F w hc h hs hK
theorem ND {n m i:Nat} {G:Gl} {l ops:List Oper} {K:AFr->AH->Prop} {fr:AFr} {H:AH} {ρ0:List RE} {w0 w:World} {F:Fr} {Q:Exit->Act->World->Prop} (hG:G.shp=ao aI) (hd:gi n ops=true) (h:wpOps aI dh (dS i) l K m ops fr H)
  (hs:St G (dS i) ρ0 w0 fr H F w) (hK:∀ fr H F w,K fr H->St G (dS i) ρ0 w0 fr H F w->WX Q n .normal F w):WO Try.prog Q n l ops F w:=
 ij (by rw [hG]; exact dG) (by rw [hG]; exact nI) hK m ops fr H F w hd h hs
theorem zN {n k0:Nat} {m:Nat} {L:List (Nat × LI)} {G:Gl} {x y z:Code} {K:Exit->AFr->AH->Prop} {fr:AFr} {H:AH} {ρ0:List RE} {w0 w:World} {F:Fr} {Q:Exit->Act->World->Prop} (hG:G.shp=ao aI) (hm:m<=ρ0.length) (hk:ρ0.length<=k0) (hc:cJ n x=true) (h:gz aI dh (dS m) k0 L (.seq x y) K fr H)
  (hs:St G (dS m) ρ0 w0 fr H F w) (kN:∀ fr H F w,gz aI dh (dS m) k0 L y K fr H->St G (dS m) ρ0 w0 fr H F w->WC Try.prog Q n z F w) (kR:∀ fr H F w,K .ret fr H->St G (dS m) ρ0 w0 fr H F w->WX Q n .ret F w) (kE:∀ e fr H,e ≠ .normal->e ≠ .ret->¬ K e fr H):WC Try.prog Q n (.seq x z) F w:=by
 refine WC.seq (LY hG hm hk hc (show gz aI dh (dS m) k0 L x (fun e fr H=>match e with | .normal=>gz aI dh (dS m) k0 L y K fr H | e=>K e fr H) fr H from h) hs fun e fr H F w hK hs=>?_)
 cases e with
 | normal=>exact WX.next (kN _ _ _ _ hK hs)
 | ret=>exact WX.eV (kR _ _ _ _ hK hs)
 | _=>exact (kE _ _ _ (by simp) (by simp) hK).elim
theorem Nb {n k0:Nat} {m:Nat} {L:List (Nat × LI)} {G:Gl} {c:Code} {K:Exit->AFr->AH->Prop} {fr:AFr} {H:AH} {ρ0:List RE} {w0 w:World} {F:Fr} {Q:Exit->Act->World->Prop} (hG:G.shp=ao aI) (hm:m<=ρ0.length) (hk:ρ0.length<=k0) (hc:cJ n c=true) (h:Wq (gz aI dh (dS m) k0 L c K fr H))
  (hs:St G (dS m) ρ0 w0 fr H F w) (hK:∀ e fr H F w,K e fr H->St G (dS m) ρ0 w0 fr H F w->WX Q n e F w):WC Try.prog Q n c F w:=LY hG hm hk hc h.h hs hK
theorem Lc {n m i:Nat} {G:Gl} {l ops:List Oper} {K:AFr->AH->Prop} {fr:AFr} {H:AH} {ρ0:List RE} {w0 w:World} {F:Fr} {Q:Exit->Act->World->Prop} (hG:G.shp=ao aI) (hd:gi n ops=true) (h:Wq (wpOps aI dh (dS i) l K m ops fr H))
  (hs:St G (dS i) ρ0 w0 fr H F w) (hK:∀ fr H F w,K fr H->St G (dS i) ρ0 w0 fr H F w->WX Q n .normal F w):WO Try.prog Q n l ops F w:=ND hG hd h.h hs hK
theorem Gn {n k0:Nat} {m:Nat} {L:List (Nat × LI)} {G:Gl} {x y z:Code} {K:Exit->AFr->AH->Prop} {fr:AFr} {H:AH} {ρ0:List RE} {w0 w:World} {F:Fr} {Q:Exit->Act->World->Prop} (hG:G.shp=ao aI) (hm:m<=ρ0.length) (hk:ρ0.length<=k0) (hc:cJ n x=true) (h:Wq (gz aI dh (dS m) k0 L (.seq x y) K fr H))
  (hs:St G (dS m) ρ0 w0 fr H F w) (kN:∀ fr H F w,gz aI dh (dS m) k0 L y K fr H->St G (dS m) ρ0 w0 fr H F w->WC Try.prog Q n z F w) (kR:∀ fr H F w,K .ret fr H->St G (dS m) ρ0 w0 fr H F w->WX Q n .ret F w) (kE:∀ e fr H,e ≠ .normal->e ≠ .ret->¬ K e fr H):WC Try.prog Q n (.seq x z) F w:=zN hG hm hk hc h.h hs kN kR kE
section
variable {s:State} {c:Command} {a:State} {r:Reply}
theorem JZ:Wq (iz (xY [.agg (cellsOf (.nm .state) s),.agg (cellsOf (.nm .command) c)]) (gz aI dh (dS 0) 0 [] oA (LR 0 (Ih,hA (cY s) (rE c))) (lH 0 [.agg (cellsOf (.nm .state) s),.agg (cellsOf (.nm .command) c)]) [])):=by
 refine ⟨?_⟩
 rw [MO]
 repeat' (first | with_reducible apply cg | with_reducible refine cj ?_ | intro)
 all_goals with_reducible rfl
theorem NA (s:State) (c:Command) (a:State) (r:Reply):Wq (wpOps aI dh (dS 9) (lD oR) (Oh 9 (Jx,hB s c a r)) 20 ((lD oR).drop 3) (IB a r) (hA s c++hR a)):=by
 refine ⟨?_⟩
 rw [Mz]
 repeat' (first | with_reducible apply cg | with_reducible rfl)
theorem Li:Wq (gz aI dh (dS 11) 11 (LB s c (de s c).1 r) oB (Mc 11 (DR,hB s c (de s c).1 r)) Jx (hB s c (de s c).1 r)):=by
 refine ⟨?_⟩
 rw [Ns]
 dsimp only
 intro _
 refine ⟨fun _=>by simp,fun hm=>⟨0,⟨rfl,by simp,by simp⟩,by omega,fun x hx=>⟨fun h8 h1 h2=>?_,fun _=>by simp⟩⟩⟩
 obtain ⟨q1,q2,q3⟩:=Ie (c:=c) hm ((x:Int)+1)
 refine ⟨fun h=>⟨h.1,bz h.1⟩,fun h=>⟨h.2,bz h.2⟩,fun h=>⟨h.2.1.2,bz h.2.1.2⟩,fun h=>⟨h.2.1.1,bz h.2.1.1⟩,fun _ _ _ _=>⟨fun h=>?_,fun _=>⟨?_,x+1,⟨rfl,by simp⟩,by omega,by omega⟩⟩⟩
 ·exfalso
  rcases h with (⟨⟨h3,h4⟩,h5⟩ | ⟨⟨h3,h4⟩,h5⟩) | ⟨⟨h3,h4⟩,h5⟩
  ·rw [q1 h3 h4] at h5
   rcases h5 with h5 | h5 <;> exact h5 rfl
  ·obtain ⟨k1,k2,k3⟩:=q2 h3 h4
   rcases h5 with (h5 | h5) | h5
   ·exact h5 k1
   ·exact h5 k2
   ·exact h5 k3
  ·obtain ⟨k1,k2,k3⟩:=q3 h3 h4
   rcases h5 with (h5 | h5) | h5
   ·rcases k1 with k1 | k1
    ·exact h5.1 k1
    ·exact h5.2 k1
   ·exact h5 k2
   ·exact h5 k3
 ·constructor <;> omega
theorem Fw {l:List Sess} {k:Nat}:((l.take k).map zG++l.drop k).length=l.length:=by simp only [List.length_append,List.length_map,List.length_take,List.length_drop]; omega
theorem HO {l:List Sess} {k:Nat} {d:Sess} (h:k<l.length):((l.take k).map zG++l.drop k).set k (Sess.mk (((l.take k).map zG++l.drop k).getD k d).client 99 (((l.take k).map zG++l.drop k).getD k d).last)=(l.take (k+1)).map zG++l.drop (k+1):=by
 have h1:((l.take k).map zG).length=k:=by simp; omega
 have h2:l.drop k=l[k] :: l.drop (k+1):=List.drop_eq_getElem_cons h
 have h3:((l.take k).map zG++l.drop k).getD k d=l[k]:=by
  rw [List.getD_eq_getElem?_getD,List.getElem?_append_right (by omega),h1,Nat.sub_self,h2]; rfl
 rw [h3,List.set_append_right _ _ (by omega),h1,Nat.sub_self,h2,List.set_cons_zero,List.take_succ_eq_append_getElem h,List.map_append,List.append_assoc]
 rfl
theorem LJ (hsz:a.sess.length<9223372036854775807):Wq (gz aI dh (dS 0) 11 (LC s c a r) oC NV DR (hC s c a r a.sess)):=by
 refine ⟨?_⟩
 rw [M_]
 dsimp only
 refine ⟨0,⟨rfl,by simp⟩,by omega,fun k hk=>⟨fun h=>?_,fun _=>by simp⟩⟩
 rw [Fw] at h ⊢
 refine ⟨by omega,h,fun _ _ _ _=>⟨by constructor <;> omega,k+1,⟨rfl,?_⟩,by omega,by omega⟩⟩
 rw [HO (by omega)]
 simp
end
theorem KU:Try.f3.body=some (.seq (dC o0) (.seq (dC o1) (.seq (dC o2) (.seq (dC o3) (.seq (dC o4) (.seq oR (.seq (dC o6) (.seq (dC o7) (.seq (dC o8) (.seq oN oC)))))))))):=by kernel_rfl
theorem vC {c c':Cx} {ρ ρ':List RE} {i j:Nat} {v:Value} (h:Rd c ρ (.own i) v) (hi:ρ'[j]? = ρ[i]?):Rd c' ρ' (.own j) v:=by
 have h:(∃ g cap len z,ρ[i]? = some (.row g cap len z)/\v = .slice (some ⟨g,0,none⟩) len cap)\/(ρ[i]? = some .emp/\∃ a,v = .slice a 0 0):=h
 show (∃ g cap len z,ρ'[j]? = some (.row g cap len z)/\v = .slice (some ⟨g,0,none⟩) len cap)\/(ρ'[j]? = some .emp/\∃ a,v = .slice a 0 0)
 rw [hi]; exact h
theorem KA {s:State} {c:Command} (h:∀ p ∈ xY [.agg (cellsOf (.nm .state) s),.agg (cellsOf (.nm .command) c)],p):Wq (gz aI dh (dS 0) 0 [] oA (LR 0 (Ih,hA (cY s) (rE c))) (lH 0 [.agg (cellsOf (.nm .state) s),.agg (cellsOf (.nm .command) c)]) []):=by
 have h1:=@JZ s c
 revert h1 h
 generalize xY [.agg (cellsOf (.nm .state) s),.agg (cellsOf (.nm .command) c)]=L
 generalize gz aI dh (dS 0) 0 [] oA (LR 0 (Ih,hA (cY s) (rE c))) (lH 0 [.agg (cellsOf (.nm .state) s),.agg (cellsOf (.nm .command) c)]) []=R
 intro h h1
 exact ⟨cZ.1 h1.h h⟩
theorem My {s:State} {c:Command} {a:State} {r:Reply} (h:(de s c).1=a):Wq (gz aI dh (dS 11) 11 (LB s c a r) oB (Mc 11 (DR,hB s c a r)) Jx (hB s c a r)):=by subst h; exact Li
theorem pQ {k0:Nat} {q:AFr × AH} (e:Exit) (fr:AFr) (H:AH) (h1:e ≠ .normal) (_:e ≠ .ret):¬ LR k0 q e fr H:=fun h=>by
 cases e <;> first | exact h1 rfl | exact h
theorem zY {k0:Nat} {q:AFr × AH} (e:Exit) (fr:AFr) (H:AH) (h1:e ≠ .normal) (h2:e ≠ .ret):¬ Mc k0 q e fr H:=fun h=>by
 cases e <;> first | exact h1 rfl | exact h2 rfl | exact h
theorem A_ {c:Cx} {ρ:List RE} {fr:AFr} {F:Fr} (hf:cK c ρ fr F) (h:Le (lookA fr 4)):look F 4=some (.bool true):=by
 unfold Le at h
 split at h
 ·rename_i e hl
  obtain ⟨v,h1,h2⟩:=dL hf hl
  have h2:Pd c (.bool e) v:=h2
  cases h2
  rw [h1,h]
 ·exact h.elim
section
variable {G:Gl} {w:World} {vs:List Value} {s:State} {c:Command}
abbrev LQ (w:World):Exit->Act->World->Prop:=bodyPost Try.prog Try.f3 fun e w'=>∃ v,e = .returned v/\(v = .bool true/\Kp [] w w')
theorem qS {w w5:World} {ρ5:List RE} {F:Fr} {fr:AFr} {cc:Cx} (hf:cK cc ρ5 fr F) (h:Le (lookA fr 4)) (hk:Kp [] w w5):WX (LQ w) 182 .ret F w5:=WX.uf rfl (A_ hf h) ⟨rfl,hk⟩
theorem CN {ρ0 ρ5:List RE} {w w5:World} (hE:Ext ρ0 w ρ5 w5) (h0:ρ0=[]):Kp [] w w5:=⟨hE.os,hE.tape,hE.output,hE.size,fun b hb _=>(hE.old b hb (fun ⟨i,r,h,_⟩=>by subst h0; simp at h)).2⟩
theorem Ch {a:State} {r:Reply} (hG:G.shp=ao aI) {ρ ρ' ρ2 ρ3:List RE} {W W1 W2 W3:World} {F:Fr} (hE:Ext [] w ρ3 W3) (hbW:∀ b,b<w.heap.size->b<W.heap.size) (hR0:Rep G ρ (hA s c) W) (hk:Kp [] W W1) (hD:Rep (G.at W) ρ' (hR a) W1) (h2:Stp (dS 9) (ρ++ρ') W1 ρ2 W2) (h3:Stp (dS 11) ρ2 W2 ρ3 W3) (hR3:Rep G ρ3 (hB s c a r) W3) (hf:cK (cx G ρ3 W3) ρ3 DR F) :
  WC Try.prog (LQ w) 182 (.seq oN oC) F W3:=by
 have hlen3:ρ3.length=11:=hR3.obj.length.symm
 have hlen0:ρ.length=6:=hR0.obj.length.symm
 have hlenD:ρ'.length=3:=hD.obj.length.symm
 cases hf with | cons f9 hf=>?_
 cases hf with | cons f7 hf=>?_
 cases hf with | cons f2 hf=>?_
 cases hf with | cons f3 hf=>?_
 cases hf with | cons f5 hf=>?_
 cases hf with | cons f6 hf=>?_
 cases hf
 rename_i q9 q7 q2 q3 q5 q6
 obtain ⟨i9,v9⟩:=q9
 obtain ⟨i7,v7⟩:=q7
 obtain ⟨i2,v2⟩:=q2
 obtain ⟨i3,v3⟩:=q3
 obtain ⟨i5,v5⟩:=q5
 obtain ⟨i6,v6⟩:=q6
 obtain ⟨rfl,f9⟩:=f9
 obtain ⟨rfl,f7⟩:=f7
 obtain ⟨rfl,f2⟩:=f2
 obtain ⟨rfl,f3⟩:=f3
 obtain ⟨rfl,f5⟩:=f5
 obtain ⟨rfl,f6⟩:=f6
 obtain ⟨r9,e9,g7,u7,rfl,hh7,hv7⟩:=hR3.at_ (show (hB s c a r)[9]? = some (.box 26 [.int a.version,.int a.next,.int a.keep,.int a.quota,.own 6,.own 7,.own 8]) from rfl)
 obtain ⟨g,k1,rfl⟩:cR ρ3 (9,0) v7:=f7
 rw [e9] at k1; cases k1
 -- the row of snapshots
 obtain ⟨r8,e8,o8⟩:=hD.at_ (show (hR a)[2]? = some (.row 44 (.nm .snap) a.snaps) from rfl)
 have e8':(ρ++ρ')[8]? = some r8:=by rw [List.getElem?_append_right (by omega),hlen0]; exact e8
 obtain ⟨e83,hb8⟩:=stay hR0 hD h2 h3 e8'
 obtain ⟨v6',hv6,hw6⟩:=db hv7 6 (.own 8) rfl
 have hns:∃ A7 n c7 cur,NS W.heap.size g7 A7 n c7 u7 cur W3/\n<9223372036854775807:=by
  obtain ⟨_,hsz,ho⟩:=o8
  have hsz:a.snaps.length*64<=140737488355328:=hsz
  have hw6:(∃ g cap len z,ρ3[8]? = some (.row g cap len z)/\v6' = .slice (some ⟨g,0,none⟩) len cap)\/(ρ3[8]? = some .emp/\∃ a,v6' = .slice a 0 0):=hw6
  rcases ho with ⟨rfl,hx⟩ | ⟨gs,cap,cells,sp,rfl,m4,m5,m6,m7,m8⟩
  ·rcases hw6 with ⟨_,_,_,_,k,_⟩ | ⟨_,ad,rfl⟩
   ·rw [e83] at k; cases k
   ·exact ⟨ad,0,0,[],⟨hh7,hv6,fun i hi=>by omega,fun i hi=>by omega⟩,by omega⟩
  ·rcases hw6 with ⟨_,_,_,_,k,rfl⟩ | ⟨k,_⟩
   ·rw [e83] at k; cases k
    refine ⟨_,a.snaps.length,cap,cells++sp,⟨hh7,hv6,fun i hi=>⟨gs,rfl,?_⟩,fun i hi=>?_⟩,by omega⟩
    ·exact (hb8 gs rfl).trans m4
    ·obtain ⟨v,xs,k1,k2⟩:=Gw m5 i hi
     obtain ⟨ad,len,kk,rfl,hl,hc⟩:=KL hG k2
     have k3:(cells++sp)[i*5+2]? = some (.slice ad len kk):=by rw [List.getElem?_append_left (List.getElem?_eq_some_iff.1 k1).1]; exact k1
     refine ⟨ad,len,kk,k3,hl,hc.imp id ?_⟩
     rintro ⟨b,o,arr,c1,c2,c3,c4,c5,c6⟩
     have hnl:¬ live (ρ++ρ') b:=fun h=>(pZ h).elim (fun ⟨i,x,y1,y2⟩=>by have:=(hR0.bnd i x b y1 y2).2.1; omega) c4
     obtain ⟨d1,d2⟩:=h2.ext.old b c3 hnl
     obtain ⟨d3,d4⟩:=h3.ext.old b (Nat.lt_of_lt_of_le c3 h2.ext.size) d1
     exact ⟨b,o,arr,c1,c2,(d4.trans d2).trans c5,c6⟩
   ·rw [e83] at k; cases k
 obtain ⟨A7,n,c7,cur,hN,hn⟩:=hns
 refine WC.seq (Da hN hn fun W4 _ hNR=>WX.next ?_)
 obtain ⟨hR4,hold⟩:=Nh hR0 hk hD h2 h3 hR3 hNR
 have hlen4:(ρ3.set 8 .no).length=11:=by rw [List.length_set]; exact hlen3
 have hne:∀ i,i≠8->(ρ3.set 8 .no)[i]? = ρ3[i]?:=fun i hi=>List.getElem?_set_ne (fun e=>hi e.symm)
 have cp:∀ {i:Nat} {v:Value},i≠8->cR ρ3 (i,0) v->cR (ρ3.set 8 .no) (i,0) v:=fun {i v} hi ⟨g,k1,k2⟩=>⟨g,(hne i hi).trans k1,k2⟩
 replace f9:bX (cx G ρ3 W3) ρ3 (.c (.bool (.atom true))) v9:=f9
 replace f5:bX (cx G ρ3 W3) ρ3 (.c (.bool (.atom true))) v5:=f5
 have f9':bX (cx G (ρ3.set 8 .no) W4) (ρ3.set 8 .no) (.c (.bool (.atom true))) v9:=jD rfl f9
 have f5':bX (cx G (ρ3.set 8 .no) W4) (ρ3.set 8 .no) (.c (.bool (.atom true))) v5:=jD rfl f5
 have hf4:cK (cx G (ρ3.set 8 .no) W4) (ρ3.set 8 .no) DR [(9,v9),(7,.pointer (some ⟨g7,0,none⟩)),(2,v2),(3,v3),(5,v5),(6,v6)]:=
  .cons ⟨rfl,f9'⟩ (.cons ⟨rfl,(cp (by decide) ⟨g7,e9,rfl⟩:cR _ (9,0) _)⟩ (.cons ⟨rfl,(cp (by decide) f2:cR _ (0,0) _)⟩ (.cons ⟨rfl,(cp (by decide) f3:cR _ (1,0) _)⟩ (.cons ⟨rfl,f5'⟩ (.cons ⟨rfl,(cp (by decide) f6:cR _ (5,0) _)⟩ .nil)))))
 have hsz6:a.sess.length<9223372036854775807:=by
  obtain ⟨r6,_,o6⟩:=hD.at_ (show (hR a)[0]? = some (.row 46 (.nm .sess) a.sess) from rfl)
  have:a.sess.length*32<=140737488355328:=o6.2.1
  omega
 refine Nb hG (Nat.zero_le _) (Nat.le_of_eq hlen4) (by kernel_rfl) (LJ hsz6) ⟨_,Stp.refl _ _ _,hR4,hf4⟩ fun e fr H F5 W5 hK hs=>?_
 cases e with
 | ret=>
  obtain ⟨ρ5,h5,hR5,hf5⟩:=hs
  refine qS hf5 hK ⟨?_,?_,?_,?_,fun b hb _=>?_⟩
  ·exact h5.ext.os.trans (hNR.os.trans hE.os)
  ·exact h5.ext.tape.trans (hNR.tape.trans hE.tape)
  ·exact h5.ext.output.trans (hNR.output.trans hE.output)
  ·exact Nat.le_trans (by rw [hNR.size]; exact hE.size) h5.ext.size
  ·obtain ⟨n1,n2⟩:=hE.old b hb (fun ⟨i,x,h,_⟩=>by simp at h)
   have n3:¬ live (ρ3.set 8 .no) b:=fun ⟨i,x,y1,y2⟩=>n1 ⟨i,x,BY y1 y2,y2⟩
   have n4:W4.heap[b]? = W3.heap[b]?:=hNR.blk b (.inl (hbW b hb))
   exact (h5.ext.old b (by rw [hNR.size]; exact Nat.lt_of_lt_of_le hb hE.size) n3).2.trans (n4.trans n2)
 | _=>exact hK.elim
theorem zP (hG:G.shp=ao aI) {ρ:List RE} {W:World} {F:Fr} (hE0:Ext [] w ρ W) (hR0:Rep G ρ (hA s c) W) (hf:cK (cx G ρ W) ρ Ih F) :
  WC Try.prog (LQ w) 182 (.seq oR (.seq (dC o6) (.seq (dC o7) (.seq (dC o8) (.seq oN oC))))) F W:=by
 have hlen0:ρ.length=6:=hR0.obj.length.symm
 cases hf with | cons f2 hf=>?_
 cases hf with | cons f3 hf=>?_
 cases hf with | cons f5 hf=>?_
 cases hf with | cons f6 hf=>?_
 cases hf
 rename_i q2 q3 q5 q6
 obtain ⟨i2,v2⟩:=q2
 obtain ⟨i3,v3⟩:=q3
 obtain ⟨i5,v5⟩:=q5
 obtain ⟨i6,v6⟩:=q6
 obtain ⟨rfl,f2⟩:=f2
 obtain ⟨rfl,f3⟩:=f3
 obtain ⟨rfl,f5⟩:=f5
 obtain ⟨rfl,f6⟩:=f6
 obtain ⟨r0,e0,g0,u0,rfl,hh0,hv0⟩:=hR0.at_ (show (hA s c)[0]? = some (.box 26 (cellsOf (.nm .state) s)) from rfl)
 obtain ⟨r1,e1,g1,u1,rfl,hh1,hv1⟩:=hR0.at_ (show (hA s c)[1]? = some (.box 29 (cellsOf (.nm .command) c)) from rfl)
 obtain ⟨g,k1,rfl⟩:cR ρ (0,0) v2:=f2
 rw [e0] at k1; cases k1
 obtain ⟨g,k1,rfl⟩:cR ρ (1,0) v3:=f3
 rw [e1] at k1; cases k1
 have B0:Blk W g0 26 u0:=hh0
 have B1:Blk W g1 29 u1:=hh1
 have z0:(Try.prog.info? 26).map (·.size)=some u0.length:=by rw [<- hv0.length]; kernel_rfl
 have z1:(Try.prog.info? 29).map (·.size)=some u1.length:=by rw [<- hv1.length]; kernel_rfl
 have a0:=DL (show bX (cx G ρ W) ρ (.agg (cellsOf (.nm .state) s)) (.agg u0.toArray) from ⟨u0,rfl,hv0⟩)
 have a1:=DK (show bX (cx G ρ W) ρ (.agg (cellsOf (.nm .command) c)) (.agg u1.toArray) from ⟨u1,rfl,hv1⟩)
 have hdo:=(At s c).2 (G.at W) [] W [.agg u0.toArray,.agg u1.toArray] hG (lU (fun _ h=>h) (Nat.le_refl _) (iA _)) (.cons a0 (.cons a1 .nil))
 refine WC.seq (WC.region (WO.v (R.wL rfl Try.underlying26 rfl z0 B0.cells) rfl (WO.v (R.wL rfl Try.underlying29 rfl z1 B1.cells) rfl (WO.c (E.call (vs:=[.agg u0.toArray,.agg u1.toArray]) (cap:=[]) rfl rfl Try.func8 (by decide) (by kernel_rfl)) hdo rfl fun v W1 hφ=>?_))))
 generalize hda:(de s c).1=a at hφ
 generalize hdr:(de s c).2=r at hφ
 obtain ⟨us,rfl,ρ',hD,-,-,hus,hkp⟩:=hφ
 have hk:Kp [] W W1:=(hkp rfl).1
 have hR1:Rep G (ρ++ρ') (hA s c++hR a) W1:=H_ hR0 hk hD
 have hE1:=uK (ρ:=ρ) hk hD
 have hle1:=hE1.le (G:=G) hR0.lo
 have hlen1:(ρ++ρ').length=9:=hR1.obj.length.symm
 cases hus with | cons t0 hus=>?_
 cases hus with | cons t1 hus=>?_
 cases hus
 rename_i x0 x1
 have hx0:bX (cx G (ρ++ρ') W1) (ρ++ρ') (.agg [.int a.version,.int a.next,.int a.keep,.int a.quota,.own 6,.own 7,.own 8]) x0:=by
  obtain ⟨ys,rfl,h⟩:=t0
  refine ⟨ys,rfl,?_⟩
  have hap:∀ i,(ρ++ρ')[6+i]? = ρ'[i]?:=fun i=>by rw [List.getElem?_append_right (by omega),hlen0,Nat.add_sub_cancel_left]
  replace h:All2 (Rd (cx (G.at W) ρ' W1) ρ') [.int a.version,.int a.next,.int a.keep,.int a.quota,.own 0,.own 1,.own 2] ys:=h
  cases h with | cons a1 h=>?_
  cases h with | cons a2 h=>?_
  cases h with | cons a3 h=>?_
  cases h with | cons a4 h=>?_
  cases h with | cons a5 h=>?_
  cases h with | cons a6 h=>?_
  cases h with | cons a7 h=>?_
  cases h
  exact .cons (bu rfl a1) (.cons (bu rfl a2) (.cons (bu rfl a3) (.cons (bu rfl a4) (.cons (vC a5 (hap 0)) (.cons (vC a6 (hap 1)) (.cons (vC a7 (hap 2)) .nil))))))
 have hx1:bX (cx G (ρ++ρ') W1) (ρ++ρ') (.agg (cellsOf (.nm .reply) r)) x1:=jD rfl t1
 replace f5:bX (cx G ρ W) ρ (.c (.bool (.atom true))) v5:=f5
 replace f6:bX (cx G ρ W) ρ (.c (.ptr 5 0)) v6:=f6
 have f5':bX (cx G (ρ++ρ') W1) (ρ++ρ') (.c (.bool (.atom true))) v5:=jD rfl f5
 have f6':bX (cx G (ρ++ρ') W1) (ρ++ρ') (.c (.ptr 5 0)) v6:=bX.carry f6 hle1 (dH _ _)
 have p2:bX (cx G (ρ++ρ') W1) (ρ++ρ') (.c (.ptr 0 0)) (.pointer (some ⟨g0,0,none⟩)):=⟨g0,by rw [List.getElem?_append_left (by omega)]; exact e0,rfl⟩
 have p3:bX (cx G (ρ++ρ') W1) (ρ++ρ') (.c (.ptr 1 0)) (.pointer (some ⟨g1,0,none⟩)):=⟨g1,by rw [List.getElem?_append_left (by omega)]; exact e1,rfl⟩
 show WO Try.prog _ 182 (lD oR) ((lD oR).drop 3) _ _
 have hf1:cK (cx G (ρ++ρ') W1) (ρ++ρ') (IB a r) [(26,.tuple #[x0,x1]),(2,.pointer (some ⟨g0,0,none⟩)),(3,.pointer (some ⟨g1,0,none⟩)),(5,v5),(6,v6)]:=
  .cons ⟨rfl,[x0,x1],rfl,.cons hx0 (.cons hx1 .nil)⟩ (.cons ⟨rfl,p2⟩ (.cons ⟨rfl,p3⟩ (.cons ⟨rfl,f5'⟩ (.cons ⟨rfl,f6'⟩ .nil))))
 have key:WO Try.prog (Exit.then (js Try.prog (.seq (dC o6) (.seq (dC o7) (.seq (dC o8) (.seq oN oC)))) (LQ w)) (LQ w)) 182 (lD oR) ((lD oR).drop 3) [(26,.tuple #[x0,x1]),(2,.pointer (some ⟨g0,0,none⟩)),(3,.pointer (some ⟨g1,0,none⟩)),(5,v5),(6,v6)] W1:=by
  refine Lc hG (by kernel_rfl) (NA s c a r) ⟨ρ++ρ',Stp.refl _ _ _,hR1,hf1⟩ fun fr H F2 W2 hK hs=>WX.next ?_
  obtain ⟨F3,⟨ρ2,h2,hR2,hf2⟩,hlk⟩:=gW (P:=Try.prog) (by rw [hG]; exact dG) (Nat.le_of_eq hlen1) hs hK
  have hlen2:ρ2.length=11:=hR2.obj.length.symm
  have hE2:Ext [] w ρ2 W2:=(hE0.trans hE1).trans h2.ext
  intro aa haa
  refine (Gn (x:=dC o6) hG (Nat.le_of_eq hlen2.symm) (Nat.le_of_eq hlen2) (by kernel_rfl) (My (r:=r) hda) ⟨ρ2,Stp.refl _ _ _,hR2,hf2⟩ (fun fr H F W3 h hs=>?_) (fun fr H F W3 h hs=>?_) zY) aa (haa.sub hlk)
  ·refine zN (x:=dC o7) hG (Nat.le_of_eq hlen2.symm) (Nat.le_of_eq hlen2) (by kernel_rfl) h hs (fun fr H F W3 h hs=>?_) (fun fr H F W3 h hs=>?_) zY
   ·refine WC.seq (LY hG (Nat.le_of_eq hlen2.symm) (Nat.le_of_eq hlen2) (by kernel_rfl) h hs fun e fr H F W3 hK hs=>?_)
    cases e with
    | normal=>
     obtain ⟨F4,⟨ρ3,h3,hR3,hf3⟩,hlk3⟩:=gW (P:=Try.prog) (by rw [hG]; exact dG) (Nat.le_of_eq hlen2) hs hK
     refine WX.next fun ab hab=>?_
     exact Ch hG (hE2.trans h3.ext) (fun b hb=>Nat.lt_of_lt_of_le hb hE0.size) hR0 hk hD h2 h3 hR3 hf3 ab (hab.sub hlk3)
    | ret=>
     obtain ⟨ρ3,h3,hR3,hf3⟩:=hs
     exact WX.eV (qS hf3 hK (CN (hE2.trans h3.ext) rfl))
    | _=>exact hK.elim
   ·obtain ⟨ρ3,h3,hR3,hf3⟩:=hs
    exact qS hf3 h (CN (hE2.trans h3.ext) rfl)
  ·obtain ⟨ρ3,h3,hR3,hf3⟩:=hs
   exact qS hf3 h (CN (hE2.trans h3.ext) rfl)
 exact fun a ha=>key a (ha.sub fun i v hv=>Has.look (fr':=[(26,.tuple #[x0,x1]),(2,.pointer (some ⟨g0,0,none⟩)),(3,.pointer (some ⟨g1,0,none⟩)),(5,v5),(6,v6)]) ⟨⟨_,rfl,rfl⟩,⟨_,rfl,rfl⟩,⟨_,rfl,rfl⟩,⟨_,rfl,rfl⟩,⟨_,rfl,rfl⟩,trivial⟩ i v hv)
theorem EW (hG:G.shp=ao aI) (hR:Rep G [] [] w) (hvs:All2 (bX (cx G [] w) []) [.agg (cellsOf (.nm .state) s),.agg (cellsOf (.nm .command) c)] vs):gw Try.prog 3 vs.toArray w fun v w'=>v = .bool true/\Kp [] w w':=by
 have hok:=Fj.jd hvs
 have h0:([]:List RE).length<=0:=Nat.le_refl 0
 refine gw.enter (n:=182) Try.func3 KU rfl (by rw [<- hvs.length]; rfl) rfl ?_
 refine Gn (x:=dC o0) hG h0 h0 (by kernel_rfl) (KA hok) ⟨[],Stp.refl _ _ _,hR,jP hvs⟩ (fun fr H F w1 h hs=>?_) (fun _ _ _ _ h _=>h.elim) pQ
 refine zN (x:=dC o1) hG h0 h0 (by kernel_rfl) h hs (fun fr H F w1 h hs=>?_) (fun _ _ _ _ h _=>h.elim) pQ
 refine zN (x:=dC o2) hG h0 h0 (by kernel_rfl) h hs (fun fr H F w1 h hs=>?_) (fun _ _ _ _ h _=>h.elim) pQ
 refine zN (x:=dC o3) hG h0 h0 (by kernel_rfl) h hs (fun fr H F w1 h hs=>?_) (fun _ _ _ _ h _=>h.elim) pQ
 refine WC.seq (LY hG h0 h0 (by kernel_rfl) h hs fun e fr H F w1 hK hs=>?_)
 cases e with
 | normal=>
  obtain ⟨F1,⟨ρ1,h1,hR1,hf1⟩,hlk⟩:=gW (P:=Try.prog) (by rw [hG]; exact dG) h0 hs hK
  exact WX.next fun a ha=>zP hG h1.ext hR1 hf1 a (ha.sub hlk)
 | _=>exact hK.elim
theorem Jh (s:State) (c:Command):Sat Try.prog (ao aI) 3 [.agg (cellsOf (.nm .state) s),.agg (cellsOf (.nm .command) c)] [] ⟨[],[.c (.bool (.atom true))],none,false⟩:=by
 refine ⟨⟨_,Try.func3,by decide,by kernel_rfl⟩,fun G ρ w vs hG hR hvs=>?_⟩
 have hρ:ρ=[]:=List.eq_nil_of_length_eq_zero hR.obj.length.symm
 subst hρ
 refine (EW hG hR hvs).mono fun u w' ⟨e,h⟩=>⟨[u],rfl,h,.cons ?_ .nil⟩
 subst e
 exact (Pd.bool (e:=.atom true):Pd _ (.bool (.atom true)) (.bool true))
end
end Go.Proofs.Ytjmbgkmkinmlkaa
namespace Go.Proofs.Ytjmbgkmkinmlkaa
open Go.RowKit Go.ChangeShapes Go.WideShapes
def vX (shp:TypeId->Option Sh) (w:World):Cx:=cx ⟨shp,w.heap.size,fun _=>False⟩ [] w
theorem IV {shp:TypeId->Option Sh} {w:World} {s:Sh} {b:Nat} (h:b<w.heap.size):(vX shp w).at s b:=⟨⟨h,fun ⟨_,_,h,_⟩=>by simp at h,fun h=>h⟩,.inl h⟩
def Tr (P:Program) (shp:TypeId->Option Sh) (t:TypeId) (s:Sh):Prop:=
 ∀ (H:Type) (enc:TypeId × Value->H) (w:World) (fuel:Nat) (cs:List Value) (x:DataW H × List MemPlace),
  DataW.trod enc P w 0 (fun _=>true) true fuel t cs=some x->(∀ n ∈ x.1.weights P t,n<=140737488351232)->(∀ q ∈ x.2,q.block<w.heap.size)->∃ y:den s,Pds (vX shp w) (cellsOf s y) cs
def Ig:List Sh->List AV->Prop
 | [],asx=>asx=[]
 | s :: r,asx=>∃ (y:den s) (l:List AV),asx=cellsOf s y++l/\Ig r l
def JX:List Sh->Nat
 | []=>0
 | s :: r=>s.size+JX r
def fK (P:Program) (shp:TypeId->Option Sh) (fs:List Go.Field) (o:Nat) (ss:List Sh):Prop:=
 ∀ (H:Type) (enc:TypeId × Value->H) (w:World) (fuel:Nat) (cs:List Value) (xs:List (DataW H × List MemPlace)),
  cs.length=o+JX ss->xs.length=fs.length->(∀ (i:Nat) (f:Go.Field),fs[i]? = some f->DataW.trod enc P w 0 (fun _=>true) true fuel f.type ((cs.drop f.offset).take (P.cellsOf f.type))=xs[i]?) ->
  (∀ n ∈ DataW.weightsEach P (fs.map (·.type)) (xs.map (·.1)),n<=140737488351232)->(∀ q ∈ xs.flatMap (·.2),q.block<w.heap.size)->∃ asx,Ig ss asx/\Pds (vX shp w) asx (cs.drop o)
section
variable {P:Program} {shp:TypeId->Option Sh} {t:TypeId}
theorem Tr.int (h:P.underlying t=some (.int .i64)):Tr P shp t .int:=fun _ enc w fuel cs x hx _ _=>by
 obtain ⟨n,rfl,_,hw⟩:=DataW.trod_int h hx
 have h1:IntKind.i64.min = -9223372036854775808:=rfl
 have h2:IntKind.i64.max=9223372036854775807:=rfl
 simp only [Lit.wf,Bool.and_eq_true,decide_eq_true_eq] at hw
 exact ⟨n,.cons (.int ⟨by omega,by omega⟩) .nil⟩
theorem Tr.bool (h:P.underlying t=some .bool):Tr P shp t .bool:=fun _ enc w fuel cs x hx _ _=>by
 obtain ⟨n,rfl,_⟩:=DataW.trod_bool h hx
 exact ⟨n,.cons (Pd.bool (e:=.atom n)) .nil⟩
theorem Tr.u8 (h:P.underlying t=some (.int .u8)):Tr P shp t .u8:=fun _ enc w fuel cs x hx _ _=>by
 obtain ⟨n,rfl,_,hw⟩:=DataW.trod_int h hx
 have h1:IntKind.u8.min=0:=rfl
 have h2:IntKind.u8.max=255:=rfl
 simp only [Lit.wf,Bool.and_eq_true,decide_eq_true_eq] at hw
 refine ⟨UInt8.ofNat n.toNat,?_⟩
 have:n=((UInt8.ofNat n.toNat).toNat:Int):=by
  rw [UInt8.toNat_ofNat']; omega
 generalize hg:UInt8.ofNat n.toNat=b at this
 subst this
 exact .cons .u8 .nil
theorem Tr.u64 (h:P.underlying t=some (.int .u64)):Tr P shp t .u64:=fun _ enc w fuel cs x hx _ _=>by
 obtain ⟨n,rfl,_,hw⟩:=DataW.trod_int h hx
 have h1:IntKind.u64.min=0:=rfl
 have h2:IntKind.u64.max=18446744073709551615:=rfl
 simp only [Lit.wf,Bool.and_eq_true,decide_eq_true_eq] at hw
 refine ⟨⟨n.toNat⟩,?_⟩
 have:n=(n.toNat:Int):=by omega
 generalize hg:n.toNat=b at this
 subst this
 exact .cons (.u64 (by show b<_; omega)) .nil
theorem Tr.str (h:P.underlying t=some .string):Tr P shp t .str:=fun _ enc w fuel cs x hx hw _=>by
 obtain ⟨s,rfl,hx,_⟩:=DataW.trod_string h hx
 refine ⟨⟨s.data.toList⟩,?_⟩
 have:=hw s.data.toList.length (by rw [hx]; simp [DataW.weights])
 have e:=Pd.str (c:=vX shp w) (s:=⟨s.data.toList⟩) (by show s.data.toList.length<=_; omega)
 have e2:(⟨s.data.toList⟩:Str).val = .string s:=by simp [Str.val]
 rw [e2] at e
 exact .cons e .nil
theorem gm {H:Type} {e:TypeId}:∀ {ds:List (DataW H)} {d:DataW H},d ∈ ds->∀ n ∈ d.weights P e,n ∈ DataW.weightsAll P e ds
 | [],_,h,_,_=>by cases h
 | d0 :: ds,d,h,n,hn=>by
  rw [DataW.weightsAll,List.mem_append]
  rcases List.mem_cons.1 h with rfl | h
  ·exact .inl hn
  ·exact .inr (gm h n hn)
theorem xu {s:Sh} {xs:List (den s)} {y:den s}:(xs++[y]).flatMap (cellsOf s)=xs.flatMap (cellsOf s)++cellsOf s y:=by simp
theorem Tr.list {e:TypeId} {s:Sh} (ht:P.underlying t=some (.slice e)) (hC:P.cellsOf e=s.size) (hB:P.bytesOf e=s.bytes) (he:Tr P shp e s):Tr P shp t (.lst s):=fun H enc w fuel cs x hx hw hlt=>by
 have hp:=size_pos s
 rcases DataW.trod_slice ht hx with ⟨rfl,_⟩ | ⟨a,len,cap,elems,rest,n,rfl,rfl,rfl,_,hl,hc,hel,hget,hrest,_⟩
 ·exact ⟨([]:List (den s)),.cons (Pd.qB (.em (a:=none) (b:=true) rfl)) .nil⟩
 ·rw [hC] at *
  have step:∀ m,m<=len->∃ (cells:List Value) (xs:List (den s)),Pds (vX shp w) (xs.flatMap (cellsOf s)) cells/\xs.length=m/\CellsAt w a cells:=by
   intro m
   induction m with
   | zero=>intro _; exact ⟨[],[],.nil,rfl,CellsAt.nil⟩
   | succ m ih=>
    intro hm
    obtain ⟨cells,xs,h1,h2,h3⟩:=ih (by omega)
    have hg:=hget m (by omega)
    have hem:elems[m]? = some (elems[m]'(by omega)):=List.getElem?_eq_getElem (by omega)
    rw [hem,Option.bind_eq_some_iff] at hg
    obtain ⟨cs,hcs,htr⟩:=hg
    have hmem:elems[m]'(by omega) ∈ elems:=List.getElem_mem _
    obtain ⟨y,hy⟩:=he H enc w n cs _ htr
     (fun k hk=>hw k (by
      simp only [DataW.weights,ht,List.mem_cons,List.mem_append]
      exact .inr (.inl (gm (List.mem_map_of_mem hmem) k hk))))
     (fun q hq=>hlt q (by
      simp only [List.mem_append,List.mem_flatMap]
      exact .inr ⟨_,.inl hmem,hq⟩))
    obtain ⟨_,hcl,hat⟩:=World.cells?_some hcs
    refine ⟨cells++cs,xs++[y],by rw [xu]; exact h1.append hy,by simp [h2],fun j v hv=>?_⟩
    have hfl:cells.length=m*s.size:=by rw [<- h1.length,bT,h2]
    by_cases hj:j<m*s.size
    ·rw [List.getElem?_append_left (by omega)] at hv
     exact h3 j v hv
    ·rw [List.getElem?_append_right (by omega),hfl] at hv
     have hj2:=BW hv
     have:=hat (j - m*s.size) (by omega)
     rw [hv,add_add,show m*s.size+(j - m*s.size)=j by omega] at this
     exact this
  obtain ⟨cells,xs,h1,h2,h3⟩:=step len (Nat.le_refl _)
  have hwt:(elems.length+rest.length)*P.bytesOf e<=140737488351232:=hw _ (by simp [DataW.weights,ht])
  refine ⟨xs,.cons ?_ .nil⟩
  subst h2
  refine .fz (by omega) hc ?_ h1 ?_
  ·rw [hB] at hwt
   have:xs.length*s.bytes<=(elems.length+rest.length)*s.bytes:=Nat.mul_le_mul_right _ (by omega)
   omega
  ·by_cases h0:xs.length=0
   ·left; exact List.eq_nil_of_length_eq_zero h0
   ·right
    refine ⟨a,rfl,IV ?_,h3⟩
    have:MemPlace.cell a.block (a.off+0) ∈ MemPlace.row a ((elems.length+rest.length)*s.size):=MemPlace.mem_row.2 ⟨0,Nat.mul_pos (by omega) hp,rfl⟩
    exact hlt _ (List.mem_append_left _ this)
theorem fK.nil {o:Nat}:fK P shp [] o []:=fun H enc w fuel cs xs hl _ _ _ _=>⟨[],rfl,by rw [List.drop_eq_nil_of_le (by simp only [JX] at hl; omega)]; exact .nil⟩
theorem fK.cons {f:Go.Field} {fs:List Go.Field} {o:Nat} {s:Sh} {ss:List Sh} (h:Tr P shp f.type s) (ho:f.offset=o) (hC:P.cellsOf f.type=s.size) (hr:fK P shp fs (o+s.size) ss):fK P shp (f :: fs) o (s :: ss):=fun H enc w fuel cs xs hl hx hf hw hlt=>by
 match xs,hx with
 | x :: xs,hx=>
  have hl':cs.length=o+(s.size+JX ss):=hl
  have h1:=hf 0 f rfl
  rw [ho,hC] at h1
  obtain ⟨y,hy⟩:=h H enc w fuel _ x h1 (fun n hn=>hw n (by simp [DataW.weightsEach,hn])) (fun q hq=>hlt q (by simp [hq]))
  obtain ⟨z,hz1,hz2⟩:=hr H enc w fuel cs xs (by omega) (by simpa using hx) (fun i f' hi=>by simpa using hf (i+1) f' (by simpa using hi)) (fun n hn=>hw n (by simp only [List.map_cons,DataW.weightsEach,List.mem_append]; exact .inr hn)) (fun q hq=>hlt q (by simp only [List.flatMap_cons,List.mem_append]; exact .inr hq))
  refine ⟨cellsOf s y++z,⟨y,z,rfl,hz1⟩,?_⟩
  have:=hy.append hz2
  rwa [<- List.drop_drop,List.take_append_drop] at this
theorem Tr.struct {s:Sh} {ss:List Sh} {fs:Array Go.Field} (ht:P.underlying t=some (.struct fs)) (hC:P.cellsOf t=JX ss) (hs:∀ asx,Ig ss asx->∃ y:den s,asx=cellsOf s y) (h:fK P shp fs.toList 0 ss):Tr P shp t s:=fun H enc w fuel cs x hx hw hlt=>by
 obtain ⟨xs,n,_,rfl,hl,hxl,hf⟩:=DataW.trod_struct ht hx
 obtain ⟨asx,h1,h2⟩:=h H enc w n cs xs (by omega) (by simpa using hxl) (fun i f hi=>hf i f (by simpa using hi)) (fun k hk=>hw k (by simpa [DataW.weights,ht] using hk)) hlt
 obtain ⟨y,rfl⟩:=hs asx h1
 exact ⟨y,by simpa using h2⟩
end
section
variable {H:Type} {enc:TypeId × Value->H} {P:Program} {shp:TypeId->Option Sh}
structure Ar (enc:TypeId × Value->H) (P:Program) (W:World) (t:TypeId) (v:Value):Prop where
 form:∃ base,Value.okWide P W .any base t v
 read:∃ d p fuel,DataW.trod enc P W 0 (fun _=>true) true fuel t v.cells.toList=some (d,p)/\(∀ n ∈ d.weights P t,n<=140737488351232)/\(∀ q ∈ p,q.block<W.heap.size)
variable {W:World} {t:TypeId} {v:Value}
theorem Ar.rp {s:Sh} (h:Ar enc P W t v) (ht:Tr P shp t s):∃ y:den s,Pds (vX shp W) (cellsOf s y) v.cells.toList:=by
 obtain ⟨d,p,fuel,h1,h2,h3⟩:=h.read
 exact ht H enc W fuel _ _ h1 h2 h3
theorem BB {a:AV} {u:Value} (h:Pds (vX shp W) [a] [u]):bX (vX shp W) [] (.c a) u:=by cases h with | cons h1 _=>exact ga h1
theorem Ar.int (h:Ar enc P W t v) (ht:P.underlying t=some (.int .i64)):∃ y:Int,bX (vX shp W) [] (.c (.int y)) v:=by
 obtain ⟨base,hf⟩:=h.form
 obtain ⟨n,rfl⟩:=okWide_int ht hf
 obtain ⟨y,h1⟩:=h.rp (shp:=shp) (Tr.int ht)
 exact ⟨y,BB (by simpa [Value.cells,cellsOf] using h1)⟩
theorem Ar.u8 (h:Ar enc P W t v) (ht:P.underlying t=some (.int .u8)):∃ y:UInt8,bX (vX shp W) [] (.c (.u8 y)) v:=by
 obtain ⟨base,hf⟩:=h.form
 obtain ⟨n,rfl⟩:=okWide_int ht hf
 obtain ⟨y,h1⟩:=h.rp (shp:=shp) (Tr.u8 ht)
 exact ⟨y,BB (by simpa [Value.cells,cellsOf] using h1)⟩
theorem Ar.bool (h:Ar enc P W t v) (ht:P.underlying t=some .bool):∃ y:Bool,bX (vX shp W) [] (.c (.bool (.atom y))) v:=by
 obtain ⟨base,hf⟩:=h.form
 obtain ⟨b,rfl⟩:=okWide_bool ht hf
 exact ⟨b,Pd.bool (e:=.atom b)⟩
theorem Ar.struct {s:Sh} {fs:Array Go.Field} (h:Ar enc P W t v) (hu:P.underlying t=some (.struct fs)) (ht:Tr P shp t s):∃ x:den s,bX (vX shp W) [] (.agg (cellsOf s x)) v:=by
 obtain ⟨base,hf⟩:=h.form
 obtain ⟨cs,rfl,_⟩:=okWide_struct hu hf
 obtain ⟨y,h1⟩:=h.rp ht
 exact ⟨y,cs.toList,by simp,dY (by simpa [Value.cells] using h1)⟩
theorem Dy {f:Nat} {args:List TV1} {pre:List Prop} {e:BE} {vs:List Value} (h:Sat P shp f args [] ⟨pre,[.c (.bool e)],none,false⟩) (he:e.val=true) (hv:All2 (bX (vX shp W) []) args vs) (htb:TabsOK (vX shp W):=by refine ⟨?_,?_⟩ <;> intro e he <;> first | simp [DJ] at he | simp [JJ] at he):gw P f vs.toArray W fun r W'=>r = .bool true/\Kp [] W W':=by
 refine (h.2 ⟨shp,W.heap.size,fun _=>False⟩ [] W vs rfl ⟨.nil,fun _ _ _ _ _ h=>by simp at h,fun _ _ _ h=>by simp at h,fun _ h=>h.elim,Nat.le_refl _,htb⟩ hv).mono fun v w' ⟨us,h1,h2,h3⟩=>⟨?_,h2⟩
 cases h3 with | cons h4 h5=>
 cases h5
 have h4:Pd _ (.bool e) _:=h4
 cases h4
 rw [h1,he]; rfl
theorem DG {base:Nat} {ts:List TypeId} {args:Array Value} {ds:List (DataW H)} {p:List MemPlace} (hf:∀ (j:Nat) t v,ts[j]? = some t->args[j]? = some v->Value.okWide P W .any base t v)
  (h:DataW.TrodAll enc P W 0 (fun _=>true) true ts args.toList ds p) (hw:∀ n ∈ DataW.weightsEach P ts ds,n<=140737488351232) (hlt:∀ q ∈ p,q.block<W.heap.size) :
  args.size=ts.length/\∀ (j:Nat) t v,ts[j]? = some t->args[j]? = some v->Ar enc P W t v:=by
 have key:∀ (ts:List TypeId) (vs:List Value) (ds:List (DataW H)) (p:List MemPlace),DataW.TrodAll enc P W 0 (fun _=>true) true ts vs ds p->(∀ n ∈ DataW.weightsEach P ts ds,n<=140737488351232)->(∀ q ∈ p,q.block<W.heap.size) ->
   vs.length=ts.length/\∀ (j:Nat) t v,ts[j]? = some t->vs[j]? = some v->∃ d p fuel,DataW.trod enc P W 0 (fun _=>true) true fuel t v.cells.toList=some (d,p)/\(∀ n ∈ d.weights P t,n<=140737488351232)/\(∀ q ∈ p,q.block<W.heap.size):=by
  intro ts
  induction ts with
  | nil=>intro vs ds p h _ _; obtain ⟨rfl,_,_⟩:=trodAll_nil h; exact ⟨rfl,fun j t v h=>by simp at h⟩
  | cons t ts ih=>
   intro vs ds p h hw hlt
   obtain ⟨v,vs,d,ds,p1,p2,rfl,rfl,rfl,h1,h2⟩:=trodAll_cons h
   obtain ⟨k1,k2⟩:=ih vs ds p2 h2 (fun n hn=>hw n (by rw [DataW.weightsEach,List.mem_append]; exact .inr hn)) (fun q hq=>hlt q (List.mem_append_right _ hq))
   refine ⟨by simp [k1],fun j t' v' ht hv=>?_⟩
   cases j with
   | zero=>
    simp at ht hv
    subst ht; subst hv
    obtain ⟨fuel,hf⟩:=h1
    exact ⟨d,p1,fuel,hf,fun n hn=>hw n (by rw [DataW.weightsEach,List.mem_append]; exact .inl hn),fun q hq=>hlt q (List.mem_append_left _ hq)⟩
   | succ j=>exact k2 j t' v' (by simpa using ht) (by simpa using hv)
 obtain ⟨k1,k2⟩:=key ts args.toList ds p h hw hlt
 exact ⟨by simpa using k1,fun j t v ht hv=>⟨⟨base,hf j t v ht hv⟩,k2 j t v ht (by simpa using hv)⟩⟩
theorem xH (hl:laidOutB P=true) {W':World} (hb:Below W.heap.size W W'):∀ (ts:List TypeId) (vs:List Value) (ds:List (DataW H)) (p:List MemPlace),ts.all (fun t=>P.readableRec t && decide (t<P.types.size))=true->DataW.TrodAll enc P W 0 (fun _=>true) true ts vs ds p->(∀ q ∈ p,q.block<W.heap.size) ->
  DataW.TrodAll enc P W' 0 (fun b=>decide (b<W.heap.size)) true ts vs ds p:=by
 intro ts
 induction ts with
 | nil=>intro vs ds p _ h _; obtain ⟨rfl,rfl,rfl⟩:=trodAll_nil h; rfl
 | cons t ts ih=>
  intro vs ds p hr h hlt
  obtain ⟨v,vs,d,ds,p1,p2,rfl,rfl,rfl,h1,h2⟩:=trodAll_cons h
  rw [List.all_cons,Bool.and_eq_true,Bool.and_eq_true,decide_eq_true_eq] at hr
  exact ⟨p1,p2,Below.trod hl hr.1.1 hr.1.2 h1 hb fun q hq=>hlt q (List.mem_append_left _ hq),ih vs ds p2 hr.2 h2 fun q hq=>hlt q (List.mem_append_right _ hq),rfl⟩
theorem Dg {fn:Func} {s:ChangeSpec} {tb:TypeId} {W':World} {args:Array Value} {ds:List (DataW H)} {p:List MemPlace} (hl:laidOutB P=true)
  (hrow:fn.params.toList.all (fun t=>P.readableRec t && decide (t<P.types.size))=true) (hr:fn.resultTypes = #[tb]) (hb:P.underlying tb=some .bool) (hv:s.vars=[])
  (hs:s.fn H (ds++[])={ results:=[.lit (.bool true)],args:=ds }) (hW:DataW.Whole enc P fn.params.toList s.vars false W args.toList ds [] p) (hA:DataW.TrodAll enc P W 0 (fun _=>true) true fn.params.toList args.toList ds p) (hlt:∀ q ∈ p,q.block<W.heap.size) (hk:Kp [] W W') :
  s.post enc P fn false true false false W args (.bool true) W':=by
 refine ⟨ds,[],p,[],p,[],hW,?_,?_,?_,hk.below.frame _,fun h=>by cases h⟩
 ·rw [hs,hr]
  exact trodAll_mk1 ⟨1,by simp [DataW.trod,Value.cells,hb]⟩
 ·rw [hs]
  exact xH hl hk.below _ _ _ _ hrow hA hlt
 ·rw [hs,hv]; rfl
theorem CW {C:Checked} {os:Os} {f:FuncId} {fn:Func} {s:ChangeSpec} {conds:List PathCond} {tb:TypeId} (own:ownKnob C.prog.godebug=none) (started:os.Started) (noInit:C.prog.inits.idxOf? f=none) (hfn:C.prog.funcs[f]? = some fn)
  (witness:∃ (w:World) (tape:Tape) (i:Input),w.os=os/\(w.forCall tape i).Shaped C.prog/\i.vars=[]/\Input.okWide C.prog (w.forCall tape i) .any w.heap.size f i /\
   s.pre6 enc C.prog fn conds false (w.forCall tape i).memory i.args/\({}:Assume).holds C.prog (lone (Frame.enter C.prog f i.args .normal) [] (w.forCall tape i)))
  (hl:laidOutB C.prog=true) (hrow:fn.params.toList.all (fun t=>C.prog.readableRec t && decide (t<C.prog.types.size))=true) (hr:fn.resultTypes = #[tb]) (hb:C.prog.underlying tb=some .bool) (hv:s.vars=[])
  (hs:∀ ds:List (DataW H),ds.length=fn.params.size->s.fn H ds={ results:=[.lit (.bool true)],args:=ds })
  (law:∀ (W:World) (args:Array Value),args.size=fn.params.toList.length->(∀ (j:Nat) t v,fn.params.toList[j]? = some t->args[j]? = some v->Ar enc C.prog W t v)->gw C.prog f args W fun r W'=>r = .bool true/\Kp [] W W') :
  ReturnsInHanded {} C os f .any (s.pre6 enc C.prog fn conds false) (s.post enc C.prog fn false true false false):=by
 refine returnsInHanded_of_change_sized own started noInit hfn witness ?_
 intro W base args ds gs before hval hW _ hsz _
 have hW0:=hW
 obtain ⟨p,q,hA,hV,rfl,_,_⟩:=hW
 rw [hv] at hV
 obtain ⟨rfl,rfl⟩:=trodVars_none hV
 simp only [List.append_nil] at hW0 hsz
 have hlt:∀ x ∈ p,x.block<W.heap.size:=fun x hx=>by simpa using hW0.lt x hx
 have hwt:∀ n ∈ DataW.weightsEach C.prog fn.params.toList ds,n<=140737488351232:=fun n hn=>by
  have hmem:n ∈ DataW.weightsEach C.prog (fn.params.toList++s.plain.varTypes C.prog) ds:=by
   have:∀ (ts us:List TypeId) (ds:List (DataW H)),n ∈ DataW.weightsEach C.prog ts ds->n ∈ DataW.weightsEach C.prog (ts++us) ds:=by
    intro ts
    induction ts with
    | nil=>intro us ds h; simp [DataW.weightsEach] at h
    | cons t ts ih=>
     intro us ds h
     cases ds with
     | nil=>simp [DataW.weightsEach] at h
     | cons d ds=>
      rw [DataW.weightsEach,List.mem_append] at h
      rw [List.cons_append,DataW.weightsEach,List.mem_append]
      exact h.imp id (ih us ds)
   exact this _ _ _ hn
  exact of_decide_eq_true (List.all_eq_true.1 hsz n hmem)
 obtain ⟨hsize,har⟩:=DG (fun j t v ht hv=>hval j t v (by simpa using ht) hv) hA hwt hlt
 have hdl:ds.length=fn.params.size:=by
  have:∀ (ts:List TypeId) (vs:List Value) (ds:List (DataW H)) (p:List MemPlace),DataW.TrodAll enc C.prog W 0 (fun _=>true) true ts vs ds p->ds.length=ts.length:=by
   intro ts
   induction ts with
   | nil=>intro vs ds p h; obtain ⟨_,rfl,_⟩:=trodAll_nil h; rfl
   | cons t ts ih=>intro vs ds p h; obtain ⟨v,vs,d,ds,p1,p2,rfl,rfl,rfl,_,h2⟩:=trodAll_cons h; simp [ih vs ds p2 h2]
  simpa using this _ _ _ _ hA
 refine Calls.mono (law W args hsize har) fun e W' ⟨v,he,hv',hk⟩=>⟨v,he,?_⟩
 subst hv'
 exact Dg hl hrow hr hb hv (by rw [List.append_nil]; exact hs ds hdl) hW0 hA hlt hk
end
end Go.Proofs.Ytjmbgkmkinmlkaa
namespace Go.Proofs.Ytjmbgkmkinmlkaa
open Go.RowKit Go.ChangeShapes Go.WideShapes
theorem Bc:ownKnob Try.prog.godebug=none:=by kernel_rfl
theorem Aj:laidOutB Try.prog=true:=by kernel_rfl
theorem Nc:Tr Try.prog (ao aI) 44 (.nm .snap):=Tr.struct (ss:=[.int,.int,(.lst .int),.bool,.str]) Try.underlying44 (by kernel_rfl) (fun cells h=>by
 obtain ⟨y0,l0,rfl,y1,l1,rfl,y2,l2,rfl,y3,l3,rfl,y4,l4,rfl,rfl⟩:=h
 exact ⟨⟨y0,y1,y2,y3,y4⟩,rfl⟩) (fK.cons (Tr.int Try.underlying3) rfl (by kernel_rfl) (fK.cons (Tr.int Try.underlying3) rfl (by kernel_rfl) (fK.cons (Tr.list Try.underlying27 (by kernel_rfl) (by kernel_rfl) (Tr.int Try.underlying3)) rfl (by kernel_rfl) (fK.cons (Tr.bool Try.underlying4) rfl (by kernel_rfl) (fK.cons (Tr.str Try.underlying9) rfl (by kernel_rfl) (fK.nil))))))
theorem MP:Tr Try.prog (ao aI) 42 (.nm .opn):=Tr.struct (ss:=[.int,.int]) Try.underlying42 (by kernel_rfl) (fun cells h=>by
 obtain ⟨y0,l0,rfl,y1,l1,rfl,rfl⟩:=h
 exact ⟨⟨y0,y1⟩,rfl⟩) (fK.cons (Tr.int Try.underlying3) rfl (by kernel_rfl) (fK.cons (Tr.int Try.underlying3) rfl (by kernel_rfl) (fK.nil)))
theorem Nd:Tr Try.prog (ao aI) 35 (.nm .reply):=Tr.struct (ss:=[.int,.int]) Try.underlying35 (by kernel_rfl) (fun cells h=>by
 obtain ⟨y0,l0,rfl,y1,l1,rfl,rfl⟩:=h
 exact ⟨⟨y0,y1⟩,rfl⟩) (fK.cons (Tr.int Try.underlying33) rfl (by kernel_rfl) (fK.cons (Tr.int Try.underlying3) rfl (by kernel_rfl) (fK.nil)))
theorem Nn:Tr Try.prog (ao aI) 46 (.nm .sess):=Tr.struct (ss:=[.int,.int,(.nm .reply)]) Try.underlying46 (by kernel_rfl) (fun cells h=>by
 obtain ⟨y0,l0,rfl,y1,l1,rfl,y2,l2,rfl,rfl⟩:=h
 exact ⟨⟨y0,y1,y2⟩,rfl⟩) (fK.cons (Tr.int Try.underlying3) rfl (by kernel_rfl) (fK.cons (Tr.int Try.underlying3) rfl (by kernel_rfl) (fK.cons (Nd) rfl (by kernel_rfl) (fK.nil))))
theorem Nr:Tr Try.prog (ao aI) 26 (.nm .state):=Tr.struct (ss:=[.int,.int,.int,.int,(.lst (.nm .sess)),(.lst (.nm .opn)),(.lst (.nm .snap))]) Try.underlying26 (by kernel_rfl) (fun cells h=>by
 obtain ⟨y0,l0,rfl,y1,l1,rfl,y2,l2,rfl,y3,l3,rfl,y4,l4,rfl,y5,l5,rfl,y6,l6,rfl,rfl⟩:=h
 exact ⟨⟨y0,y1,y2,y3,y4,y5,y6⟩,rfl⟩) (fK.cons (Tr.int Try.underlying3) rfl (by kernel_rfl) (fK.cons (Tr.int Try.underlying3) rfl (by kernel_rfl) (fK.cons (Tr.int Try.underlying3) rfl (by kernel_rfl) (fK.cons (Tr.int Try.underlying3) rfl (by kernel_rfl) (fK.cons (Tr.list Try.underlying22 (by kernel_rfl) (by kernel_rfl) (Nn)) rfl (by kernel_rfl) (fK.cons (Tr.list Try.underlying23 (by kernel_rfl) (by kernel_rfl) (MP)) rfl (by kernel_rfl) (fK.cons (Tr.list Try.underlying24 (by kernel_rfl) (by kernel_rfl) (Nc)) rfl (by kernel_rfl) (fK.nil))))))))
theorem Ms:Tr Try.prog (ao aI) 29 (.nm .command):=Tr.struct (ss:=[.int,.int,.int,.int,.int,.int,(.lst .int),.str]) Try.underlying29 (by kernel_rfl) (fun cells h=>by
 obtain ⟨y0,l0,rfl,y1,l1,rfl,y2,l2,rfl,y3,l3,rfl,y4,l4,rfl,y5,l5,rfl,y6,l6,rfl,y7,l7,rfl,rfl⟩:=h
 exact ⟨⟨y0,y1,y2,y3,y4,y5,y6,y7⟩,rfl⟩) (fK.cons (Tr.int Try.underlying3) rfl (by kernel_rfl) (fK.cons (Tr.int Try.underlying3) rfl (by kernel_rfl) (fK.cons (Tr.int Try.underlying3) rfl (by kernel_rfl) (fK.cons (Tr.int Try.underlying3) rfl (by kernel_rfl) (fK.cons (Tr.int Try.underlying3) rfl (by kernel_rfl) (fK.cons (Tr.int Try.underlying3) rfl (by kernel_rfl) (fK.cons (Tr.list Try.underlying27 (by kernel_rfl) (by kernel_rfl) (Tr.int Try.underlying3)) rfl (by kernel_rfl) (fK.cons (Tr.str Try.underlying9) rfl (by kernel_rfl) (fK.nil)))))))))
set_option maxRecDepth 100000 in
theorem lJ (os:Os) (started:os.Started) (H:Type) (enc:TypeId × Value->H) :
  ReturnsInHanded {} Try.checked os 3 .any (Rows.applyOpensSpec.pre6 enc Try.prog Try.f3 Rows.applyOpensRow.domain false) (Rows.applyOpensSpec.post enc Try.prog Try.f3 false true false false):=by
 refine CW (C:=Try.checked) Bc started (by kernel_rfl) Try.func3 (ChangeSpec.witness6 (enc:=enc) (C:=Try.checked) false ⟨#[],#[.agg #[.int .i64 0,.int .i64 0,.int .i64 0,.int .i64 0,.slice none 0 0,.slice none 0 0,.slice none 0 0],.agg #[.int .i64 0,.int .i64 0,.int .i64 0,.int .i64 0,.int .i64 0,.int .i64 0,.slice none 0 0,.string ⟨#[]⟩]],[]⟩ 8 (by kernel_rfl) (by kernel_rfl) (by kernel_rfl) (by kernel_rfl)) Aj (by kernel_rfl) (by kernel_rfl) Try.underlying4 rfl (fun ds h=>?_) ?_
 ·match ds,h with
  | [d0,d1],_=>rfl
 ·intro W args hs ha
  obtain ⟨l⟩:=args
  match l,hs with
  | [v0,v1],_=>
   obtain ⟨x0,h0⟩:=Ar.struct (shp:=ao aI) (ha 0 26 _ rfl rfl) Try.underlying26 Nr
   obtain ⟨x1,h1⟩:=Ar.struct (shp:=ao aI) (ha 1 29 _ rfl rfl) Try.underlying29 Ms
   exact Dy (Jh x0 x1) rfl (.cons h0 (.cons h1 .nil))
theorem applyOpens_holds:Rows.ApplyOpensSaid:=
 OpenClaim.holds_of_wide 3 Try.f3 rfl rfl rfl rfl rfl rfl rfl ⟨rfl,rfl,rfl,rfl,rfl⟩ rfl rfl rfl rfl rfl (by kernel_rfl) Try.func3 (by kernel_rfl)
  (of_decide_eq_true (by kernel_rfl)) (by unfold Func.isWrapper; first | (rw [if_pos (by decide +kernel)]; kernel_rfl) | (rw [if_neg (by decide +kernel)]; exact ⟨rfl,rfl⟩))
  (fun os started H enc _=>lJ os started H enc)
end Go.Proofs.Ytjmbgkmkinmlkaa
