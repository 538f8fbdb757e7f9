/- What leads to the law, part 4. Conditions: each lemma's own. -/
import Derived.Lib.ItoaLen
import Derived.Lib.ItoaMem
import Derived.Lib.Join
import Derived.Lib.SplitLaws
import Derived.Shelf.LaysC
import Derived.Shelf.LaysM
import Derived.Shelf.Small.Strs
import Derived.Shelf.Strconv.AtoiAll
import Derived.Shelf.Strconv.Itoa3
import Derived.Shelf.Strings.BuilderK
import Derived.Shelf.Strings.OnBuilder
import Derived.Shelf.Strings.Split
import Derived.Test.YtagpmhlokhoanaaDoorKSTM3
set_option linter.unusedVariables false
set_option linter.unusedSimpArgs false
namespace Go.Proofs.YtagpmhlokhoanaaDoor
open Go.RowKit
theorem th {u:Nat} (h:u<10):(UInt8.ofNat (48+u)).toNat=48+u:=by
 rw [UInt8.toNat_ofNat']; exact Nat.mod_eq_of_lt (by omega)
theorem rI:∀ (u:Nat) (c:UInt8),c ∈ Lib.decDigits u->48<=c.toNat/\c.toNat<=57:=fun u=>by
 induction u using Nat.strongRecOn with
 | _ u ih=>
  intro c hc
  by_cases h:u<10
  ·rw [Lib.decDigits,dif_pos h,List.mem_singleton] at hc
   subst hc; rw [th h]; omega
  ·rw [Lib.decDigits,dif_neg h,List.mem_append,List.mem_singleton] at hc
   rcases hc with hc | rfl
   ·exact ih (u / 10) bY c hc
   ·rw [th (by omega)]; omega
def okW (l:List UInt8):Prop:=∀ c ∈ l,c≠32/\c≠10
theorem tc (u:Nat):okW (Lib.decDigits u):=fun c hc=>by
 have:=rI u c hc
 constructor <;> (rintro rfl; revert this; decide)
theorem iq (n:Int):okW (Lib.itoa n):=by
 unfold Lib.itoa
 split
 ·intro c hc
  rcases List.mem_cons.1 hc with rfl | hc
  ·decide
  ·exact tc _ c hc
 ·exact tc _
theorem tail_cons (x:List UInt8) (r:List (List UInt8)):Lib.joinTail [32] (x :: r)=32 :: (x++Lib.joinTail [32] r):=by simp [Lib.joinTail]
def jn (l:List (List UInt8)):List UInt8:=Lib.join l [32]
def aQ:List UInt8:=[48,49,50,51,52,53,54,55,56,57,97,98,99,100,101,102]
def eU (k:Nat):UInt8:=aQ.getD k 0
theorem wG:∀ j k:Fin 16,eU j=eU k->j=k:=by decide
theorem sV:∀ j:Fin 16,eU j≠32/\eU j≠10/\eU j≠45:=by decide
def bW (c:UInt8):List UInt8:=[eU (c.toNat / 16),eU (c.toNat % 16)]
def aJ (l:List UInt8):List UInt8:=if l=[] then [45] else l.flatMap bW
theorem mO {j k:Nat} (hj:j<16) (hk:k<16) (h:eU j=eU k):j=k:=by
 have:=wG ⟨j,hj⟩ ⟨k,hk⟩ h
 simpa using this
theorem wB {c d:UInt8} {r s:List UInt8} (h:bW c++r=bW d++s):c=d/\r=s:=by
 simp only [bW,List.cons_append,List.nil_append,List.cons.injEq] at h
 have hc:=c.toNat_lt; have hd:=d.toNat_lt
 have h1:=mO (by omega) (by omega) h.1
 have h2:=mO (by omega) (by omega) h.2.1
 exact ⟨UInt8.toNat_inj.1 bY,h.2.2⟩
theorem ow:∀ {l m:List UInt8},l.flatMap bW=m.flatMap bW->l=m
 | [],[],_=>rfl
 | [],d :: m,h=>by simp [List.flatMap_cons,bW] at h
 | c :: l,[],h=>by simp [List.flatMap_cons,bW] at h
 | c :: l,d :: m,h=>by
  rw [List.flatMap_cons,List.flatMap_cons] at h
  obtain ⟨h1,h2⟩:=wB h
  rw [h1,ow h2]
theorem uj {l m:List UInt8} (h:aJ l=aJ m):l=m:=by
 unfold aJ at h
 split at h <;> split at h
 ·simp_all
 ·rename_i h1 h2
  cases m with
  | nil=>exact absurd rfl h2
  | cons d m=>have:=congrArg List.length h; simp [bW] at this
 ·rename_i h1 h2
  cases l with
  | nil=>exact absurd rfl h1
  | cons d m=>have:=congrArg List.length h; simp [bW] at this
 ·exact ow h
theorem uK (l:List UInt8):okW (aJ l):=by
 unfold aJ
 split
 ·intro c hc; rw [List.mem_singleton] at hc; subst hc; decide
 ·intro c hc
  rw [List.mem_flatMap] at hc
  obtain ⟨d,_,hd⟩:=hc
  have hl:=d.toNat_lt
  simp only [bW,List.mem_cons,List.not_mem_nil,or_false] at hd
  rcases hd with rfl | rfl
  ·have:=sV ⟨d.toNat / 16,by omega⟩; exact ⟨this.1,this.2.1⟩
  ·have:=sV ⟨d.toNat % 16,by omega⟩; exact ⟨this.1,this.2.1⟩
def cA (k:Int):Str:=cb.getD k.toNat (az .str)
def okN (n:Int):Bool:=decide (0<=n) && decide (n<=1048576)
def bl (k:Int):Bool:=decide (k=7) || decide (k=8) || decide (k=9)
def cj (c:Command):Bool:=decide (c.kind=0) && decide (c.client=0) && decide (c.seq=0) && decide (c.set=0) && decide (c.id=0) && decide (c.n=0) && decide (c.chunks=[]) && decide (c.text=⟨[]⟩)
def ag (n:Int):Str:=⟨Lib.itoa n⟩
def fb (c:Command):List Int:=[c.kind,c.client,c.seq,c.set,c.id,c.n]
def lineOk (e:Event):Bool:=decide (1<=e.kind) && decide (e.kind<10) && okN e.a && (if bl e.kind then okN e.b else decide (e.b=0)) && (if e.kind=6 then decide (e.c.text.b.length<=16) && decide (e.c.chunks.length<=16) && (fb e.c).all okN && e.c.chunks.all okN else cj e.c)
def aF (e:Event):List Str:=[cA e.kind,ag e.a]++(if bl e.kind then [ag e.b] else [])++(if e.kind=6 then (fb e.c).map ag++[⟨aJ e.c.text.b⟩]++e.c.chunks.map ag else [])
def AP (l:List Str):Str:=⟨jn (l.map (·.b))⟩
def ao (e:Event):Str:=if lineOk e then AP (aF e) else ⟨[]⟩
def ax (e:Event):Int:=if lineOk e then 0 else 1
theorem yR:∀ k:Fin 10,okW (cb.getD k.1 ⟨[]⟩).b:=by unfold okW; decide
theorem qg {e:Event} (h:lineOk e=true):∀ x ∈ (aF e).map (·.b),okW x:=by
 intro x hx
 rw [List.mem_map] at hx
 obtain ⟨s,hs,rfl⟩:=hx
 simp only [lineOk,Bool.and_eq_true,decide_eq_true_eq] at h
 simp only [aF,List.mem_append,List.mem_cons,List.not_mem_nil,or_false] at hs
 rcases hs with ((rfl | rfl) | hs) | hs
 ·exact yR ⟨e.kind.toNat,by omega⟩
 ·exact iq _
 ·split at hs
  ·rw [List.mem_singleton] at hs; subst hs; exact iq _
  ·cases hs
 ·split at hs
  ·simp only [List.mem_append,List.mem_map,List.mem_singleton] at hs
   rcases hs with (⟨_,_,rfl⟩ | rfl) | ⟨_,_,rfl⟩
   ·exact iq _
   ·exact uK _
   ·exact iq _
  ·cases hs
theorem qe (e:Event):∃ x r,(aF e).map (·.b)=x :: r:=⟨_,_,rfl⟩
theorem empty_eq {c d:Command} (h:cj c=true) (k:cj d=true):c=d:=by
 simp only [cj,Bool.and_eq_true,decide_eq_true_eq] at h k
 obtain ⟨⟨⟨⟨⟨⟨⟨h1,h2⟩,h3⟩,h4⟩,h5⟩,h6⟩,h7⟩,h8⟩:=h
 obtain ⟨⟨⟨⟨⟨⟨⟨k1,k2⟩,k3⟩,k4⟩,k5⟩,k6⟩,k7⟩,k8⟩:=k
 cases c; cases d; simp only at *; subst_vars; rfl
end Go.Proofs.YtagpmhlokhoanaaDoor
namespace Go.Proofs.YtagpmhlokhoanaaDoor
open Go.Shelf Go.Proofs
def ed:Go.Shelf.Ren:=⟨fun | 156=>27 | 165=>42 | 166=>37 | 169=>39 | 240=>49 | 241=>51 | 276=>58 | 277=>63 | n=>n,fun | 31=>46 | 9=>9 | 3=>3 | 4=>4 | 0=>0 | 20=>20 | 72=>62 | 76=>65 | 70=>60 | 37=>58 | 75=>64 | 127=>81 | 164=>87 | 5=>5 | 80=>68 | n=>n,fun | n=>n⟩
theorem iF:Lays.n156 Tryd.prog ed:={
 mixed:=by kernel_rfl
 f156:=Tryd.func27.trans (congrArg some (by kernel_rfl))
 f165:=Tryd.func42.trans (congrArg some (by kernel_rfl))
 f166:=Tryd.func37.trans (congrArg some (by kernel_rfl))
 f169:=Tryd.func39.trans (congrArg some (by kernel_rfl))
 f240:=Tryd.func49.trans (congrArg some (by kernel_rfl))
 f241:=Tryd.func51.trans (congrArg some (by kernel_rfl))
 f276:=Tryd.func58.trans (congrArg some (by kernel_rfl))
 f277:=Tryd.func63.trans (congrArg some (by kernel_rfl))
 t0:=Tryd.underlying0
 a0:=Tryd.isAgg0
 z0:=Tryd.sizeOf0
 v0:=Tryd.zeroValue0
 t3:=Tryd.underlying3
 a3:=Tryd.isAgg3
 z3:=Tryd.sizeOf3
 v3:=Tryd.zeroValue3
 t4:=Tryd.underlying4
 a4:=Tryd.isAgg4
 z4:=Tryd.sizeOf4
 v4:=Tryd.zeroValue4
 t9:=Tryd.underlying9
 a9:=Tryd.isAgg9
 z9:=Tryd.sizeOf9
 v9:=Tryd.zeroValue9
 t20:=Tryd.underlying20
 a20:=Tryd.isAgg20
 z20:=Tryd.sizeOf20
 v20:=Tryd.zeroValue20
 t31:=Tryd.underlying46
 a31:=Tryd.isAgg46
 z31:=Tryd.sizeOf46
 v31:=Tryd.zeroValue46
 t37:=Tryd.underlying58
 a37:=Tryd.isAgg58
 z37:=Tryd.sizeOf58
 v37:=Tryd.zeroValue58
 t70:=Tryd.underlying60
 a70:=Tryd.isAgg60
 z70:=Tryd.sizeOf60
 v70:=Tryd.zeroValue60
 t72:=Tryd.underlying62
 a72:=Tryd.isAgg62
 z72:=Tryd.sizeOf62
 v72:=Tryd.zeroValue62
 t75:=Tryd.underlying64
 a75:=Tryd.isAgg64
 z75:=Tryd.sizeOf64
 v75:=Tryd.zeroValue64
 t76:=Tryd.underlying65
 a76:=Tryd.isAgg65
 z76:=Tryd.sizeOf65
 v76:=Tryd.zeroValue65
 t127:=Tryd.underlying81
 a127:=Tryd.isAgg81
 z127:=Tryd.sizeOf81
 v127:=Tryd.zeroValue81
 t164:=Tryd.underlying87
 a164:=Tryd.isAgg87
 z164:=Tryd.sizeOf87
 v164:=Tryd.zeroValue87 }
theorem bX:Builder.Extra Tryd.prog ed:={
 sizeBuilder:=by kernel_rfl
 liesBuilder:=by kernel_rfl
 t5:=Tryd.underlying5
 a5:=Tryd.isAgg5
 z5:=Tryd.sizeOf5
 v5:=Tryd.zeroValue5
 infoByte:=by kernel_rfl
 cellsByte:=by kernel_rfl
 sizeByte:=by kernel_rfl
 neB5:=by decide }
def lj:Go.Shelf.Ren:=⟨fun | 171=>23 | 243=>41 | 246=>50 | 283=>59 | 284=>60 | 285=>61 | 286=>62 | 129=>75 | 317=>74 | 318=>76 | 319=>77 | 320=>78 | 337=>87 | 338=>88 | n=>n,fun | 3=>3 | 9=>9 | 2=>2 | 4=>4 | 171=>89 | 0=>0 | 53=>90 | 37=>58 | 5=>5 | 173=>93 | 212=>106 | 51=>107 | 20=>20 | 213=>108 | 46=>69 | 232=>127 | 233=>128 | n=>n,fun | 17=>1 | 18=>7 | 19=>8 | n=>n⟩
theorem rq:LaysM.n171 Tryd.prog lj:={
 mixed:=by kernel_rfl
 f129:=Tryd.func75.trans (congrArg some (by kernel_rfl))
 f171:=Tryd.func23.trans (congrArg some (by kernel_rfl))
 f243:=Tryd.func41.trans (congrArg some (by kernel_rfl))
 f246:=Tryd.func50.trans (congrArg some (by kernel_rfl))
 f283:=Tryd.func59.trans (congrArg some (by kernel_rfl))
 f284:=Tryd.func60.trans (congrArg some (by kernel_rfl))
 f285:=Tryd.func61.trans (congrArg some (by kernel_rfl))
 f286:=Tryd.func62.trans (congrArg some (by kernel_rfl))
 f317:=Tryd.func74.trans (congrArg some (by kernel_rfl))
 f318:=Tryd.func76.trans (congrArg some (by kernel_rfl))
 f319:=Tryd.func77.trans (congrArg some (by kernel_rfl))
 f320:=Tryd.func78.trans (congrArg some (by kernel_rfl))
 f337:=Tryd.func87.trans (congrArg some (by kernel_rfl))
 f338:=Tryd.func88.trans (congrArg some (by kernel_rfl))
 t0:=Tryd.underlying0
 a0:=Tryd.isAgg0
 z0:=Tryd.sizeOf0
 v0:=Tryd.zeroValue0
 t2:=Tryd.underlying2
 a2:=Tryd.isAgg2
 z2:=Tryd.sizeOf2
 v2:=Tryd.zeroValue2
 t3:=Tryd.underlying3
 a3:=Tryd.isAgg3
 z3:=Tryd.sizeOf3
 v3:=Tryd.zeroValue3
 t4:=Tryd.underlying4
 a4:=Tryd.isAgg4
 z4:=Tryd.sizeOf4
 v4:=Tryd.zeroValue4
 t5:=Tryd.underlying5
 a5:=Tryd.isAgg5
 z5:=Tryd.sizeOf5
 v5:=Tryd.zeroValue5
 t9:=Tryd.underlying9
 a9:=Tryd.isAgg9
 z9:=Tryd.sizeOf9
 v9:=Tryd.zeroValue9
 t20:=Tryd.underlying20
 a20:=Tryd.isAgg20
 z20:=Tryd.sizeOf20
 v20:=Tryd.zeroValue20
 t37:=Tryd.underlying58
 a37:=Tryd.isAgg58
 z37:=Tryd.sizeOf58
 v37:=Tryd.zeroValue58
 t46:=Tryd.underlying69
 a46:=Tryd.isAgg69
 z46:=Tryd.sizeOf69
 v46:=Tryd.zeroValue69
 t51:=Tryd.underlying107
 a51:=Tryd.isAgg107
 z51:=Tryd.sizeOf107
 v51:=Tryd.zeroValue107
 t53:=Tryd.underlying90
 a53:=Tryd.isAgg90
 z53:=Tryd.sizeOf90
 v53:=Tryd.zeroValue90
 t171:=Tryd.underlying89
 a171:=Tryd.isAgg89
 z171:=Tryd.sizeOf89
 v171:=Tryd.zeroValue89
 t173:=Tryd.underlying93
 a173:=Tryd.isAgg93
 z173:=Tryd.sizeOf93
 v173:=Tryd.zeroValue93
 t212:=Tryd.underlying106
 a212:=Tryd.isAgg106
 z212:=Tryd.sizeOf106
 v212:=Tryd.zeroValue106
 t213:=Tryd.underlying108
 a213:=Tryd.isAgg108
 z213:=Tryd.sizeOf108
 t232:=Tryd.underlying127
 a232:=Tryd.isAgg127
 z232:=Tryd.sizeOf127
 v232:=Tryd.zeroValue127
 t233:=Tryd.underlying128
 a233:=Tryd.isAgg128
 z233:=Tryd.sizeOf128
 v233:=Tryd.zeroValue128
 g17:=by kernel_rfl
 g18:=by kernel_rfl
 g19:=by kernel_rfl
 i0:=by kernel_rfl
 i2:=by kernel_rfl
 i3:=by kernel_rfl
 i4:=by kernel_rfl
 i5:=by kernel_rfl
 i9:=by kernel_rfl
 i20:=by kernel_rfl
 i37:=by kernel_rfl
 i46:=by kernel_rfl
 i51:=by kernel_rfl
 i53:=by kernel_rfl
 i171:=by kernel_rfl
 i173:=by kernel_rfl
 i212:=by kernel_rfl
 i232:=by kernel_rfl
 i233:=by kernel_rfl
 m17:=by kernel_rfl
 m18:=by kernel_rfl
 m19:=by kernel_rfl }
end Go.Proofs.YtagpmhlokhoanaaDoor
namespace Go.Proofs.YtagpmhlokhoanaaDoor
open Go.RowKit Go.Proofs
theorem kZ {c:Cx}:∀ {l:List U64} {cells:List Value},Pds c (l.flatMap (cellsOf .u64)) cells->cells=l.map fun x=>.int .u64 (x.n:Int)
 | [],_,h=>by cases h; rfl
 | x :: l,_,h=>by
  have h':Pds c (.u64 x.n :: l.flatMap (cellsOf .u64)) _:=h
  cases h' with | cons h1 h2=>?_
  cases h1
  rw [kZ h2]; rfl
theorem Ck {G:Gl} {ρ:List RE} {H:AH} {w:World} (hR:Rep G ρ H w):Lib.TabIs Tryd.prog w "internal/strconv.uint64pow10" .u64 Lib.pow10Tab:=by
 obtain ⟨_,_,_,_,cells,t,fr,h5,h6⟩:=hR.tb.2 ⟨1,.u64,rh⟩ (by simp [qY])
 have hc:cells=(Lib.pow10Tab.map fun z=>Value.int .u64 z):=by
  exact (kZ h6).trans rfl
 unfold Lib.TabIs World.var?
 rw [show Tryd.prog.globalNamed _=some 1 by kernel_rfl]
 show (match w.heap[1]? with
  | some (.cells cs _ _)=>some cs
  | _=>none)=_
 rw [show w.heap[1]? = some (.cells (List.toArray cells) t fr) from h5,hc]
theorem Kp.ze {w:World} {k:Nat} {os:Array Obj}:Kp [] w (Go.Sort.grow (w.drewN k) os):=by
 refine ⟨rfl,rfl,rfl,?_,fun b hb _=>?_⟩
 ·show w.heap.size<=(w.heap++os).size
  rw [Array.size_append]; omega
 ·show (w.heap++os)[b]? = w.heap[b]?
  exact Array.getElem?_append_left hb
theorem gj {c:Cx}:∀ {l:List Str} {cells:List Value},Pds c (l.flatMap (cellsOf .str)) cells->cells=l.map Str.val
 | [],_,h=>by cases h; rfl
 | x :: l,_,h=>by
  have h':Pds c (.str x :: l.flatMap (cellsOf .str)) _:=h
  cases h' with | cons h1 h2=>?_
  cases h1
  rw [gj h2]; rfl
theorem wo (n:Int):Sat Tryd.prog (aj aP) 23 [.c (.int n)] [] ⟨[],[.c (.str (ag n))],none,false⟩:=by
 refine ⟨⟨_,Tryd.func23,by decide,by kernel_rfl⟩,fun G ρ w vs hG hR hvs=>?_⟩
 cases hvs with | cons h1 hvs=>?_
 cases hvs
 have h2:Rd (cx G ρ w) ρ (.int n) _:=h1
 cases h2 with | int hi=>?_
 refine (Any.strconv_Itoa rq n hi.1 hi.2 w (Ck hR)).mono fun e w' ⟨he,k,os,hw⟩=>⟨_,he,[_],rfl,?_,.cons (show bE (cx G ρ w') ρ (.c (.str (ag n))) _ from (Pd.str ?_:Pd (cx G ρ w') (.str (ag n)) (ag n).val)) .nil⟩
 ·rw [hw]; exact Kp.ze
 ·have:=Lib.itoa_length_le n hi.1 hi.2; show (Lib.itoa n).length<=_; omega
theorem wL (l:List Str) (sep:Str) (hl:(Lib.join (l.map (·.b)) sep.b).length<=140737488355328):Sat Tryd.prog (aj aP) 27 [.c (.own 0),.c (.str sep)] [.row 9 .str l] ⟨[],[.c (.str ⟨Lib.join (l.map (·.b)) sep.b⟩)],some [.row 9 .str l],true⟩:=by
 refine ⟨⟨_,Tryd.func27,by decide,by kernel_rfl⟩,fun G ρ w vs hG hR hvs=>?_⟩
 cases hvs with | cons h1 hvs=>?_
 cases hvs with | cons h2 hvs=>?_
 cases hvs
 have h3:Rd (cx G ρ w) ρ (.own 0) _:=h1
 have h4:Rd (cx G ρ w) ρ (.str sep) _:=h2
 cases h4 with | str hs=>?_
 have hfin:∀ {e:Ending} {w':World},e = .returned (.string ⟨(Lib.join (l.map (·.b)) sep.b).toArray⟩)->Kp [] w w' -> ∃ v,e = .returned v/\∃ us,v=pj us/\∃ ρ',Rep G ρ' [.row 9 .str l] w' /\ Ext ρ w ρ' w' /\ (∀ (i g:Nat),ρ[i]? = some (.blk g)->ρ'[i]? = some (.blk g))/\All2 (bE (cx G ρ' w') ρ') [.c (.str ⟨Lib.join (l.map (·.b)) sep.b⟩)] us/\(true=true->Kp [] w w' /\ ∀ (i:Nat) (rr:RE),ρ[i]? = some rr->ρ'[i]? = some rr):=fun {e w'} he hk=>
  ⟨_,he,[_],rfl,ρ,hR.kp hk,Ext.kp hk,fun _ _ h=>h,.cons (show bE (cx G ρ w') ρ (.c (.str ⟨Lib.join (l.map (·.b)) sep.b⟩)) _ from (Pd.str hl:Pd (cx G ρ w') (.str ⟨Lib.join (l.map (·.b)) sep.b⟩) (Str.val ⟨Lib.join (l.map (·.b)) sep.b⟩))) .nil,fun _=>⟨hk,fun _ _ h=>h⟩⟩
 have hH:getO [AO.row 9 .str l] 0 = .row 9 .str l:=rfl
 rcases bj hR hH with ⟨h0,h5⟩ | ⟨g,cap,cells,sp,h5,h6,h7,h8,h9,h10⟩
 ·rcases h3 with ⟨_,_,_,_,h3,_⟩ | ⟨_,a,rfl⟩
  ·rw [h0] at h3; cases h3
  ·exact (Any.strings_Join_none iF bX a 0 ⟨sep.b.toArray⟩ w).mono fun e w' ⟨he,hw⟩=>hfin (by rw [he,h5]; rfl) (by rw [hw]; exact Kp.refl _)
 ·rcases h3 with ⟨_,_,_,_,h3,rfl⟩ | ⟨h3,_⟩
  ·rw [h5] at h3; cases h3
   have hc:cells=l.map Str.val:=gj h7
   have hcs:=bh h6
   have:=Any.strings_Join iF bX g 0 cap (l.map fun s=>(⟨s.b.toArray⟩:ByteArray)) ⟨sep.b.toArray⟩ w (fun j x hx=>?_) ((hR.bnd _ _ g h5 rfl).2.1) (by rw [List.length_map]; have:=(cn hR hH).2; simp [Sh.bytes] at this; omega) (by rw [List.length_map]; exact h9) (by simpa [Function.comp_def] using hl)
   ·rw [List.length_map] at this
    exact this.mono fun e w' ⟨he,hw⟩=>hfin (by rw [he]; simp [Function.comp_def]) (Kp.h_ hw)
   ·have:=hcs j (.string x) (by rw [hc,List.getElem?_map]; rw [List.getElem?_map] at hx; cases hq:l[j]? <;> rw [hq] at hx <;> simp_all [Str.val])
    rw [add_lit] at this
    exact this
  ·rw [h5] at h3; cases h3
end Go.Proofs.YtagpmhlokhoanaaDoor
namespace Go.Proofs.YtagpmhlokhoanaaDoor
open Go.Shelf Go.Proofs
def av:Go.Shelf.Ren:=⟨fun | 169=>39 | n=>n,fun | 70=>60 | 9=>9 | 0=>0 | 72=>62 | 37=>58 | 127=>81 | 3=>3 | 5=>5 | n=>n,fun | n=>n⟩
theorem mz:Lays.n169 Tryd.prog av:={
 mixed:=by kernel_rfl
 f169:=Tryd.func39.trans (congrArg some (by kernel_rfl))
 t0:=Tryd.underlying0
 a0:=Tryd.isAgg0
 z0:=Tryd.sizeOf0
 v0:=Tryd.zeroValue0
 t3:=Tryd.underlying3
 a3:=Tryd.isAgg3
 z3:=Tryd.sizeOf3
 v3:=Tryd.zeroValue3
 t9:=Tryd.underlying9
 a9:=Tryd.isAgg9
 z9:=Tryd.sizeOf9
 v9:=Tryd.zeroValue9
 t37:=Tryd.underlying58
 a37:=Tryd.isAgg58
 z37:=Tryd.sizeOf58
 v37:=Tryd.zeroValue58
 t70:=Tryd.underlying60
 a70:=Tryd.isAgg60
 z70:=Tryd.sizeOf60
 v70:=Tryd.zeroValue60
 t72:=Tryd.underlying62
 a72:=Tryd.isAgg62
 z72:=Tryd.sizeOf62
 v72:=Tryd.zeroValue62
 t127:=Tryd.underlying81
 a127:=Tryd.isAgg81
 z127:=Tryd.sizeOf81
 v127:=Tryd.zeroValue81 }
theorem dS:Builder.Extra Tryd.prog av:={
 sizeBuilder:=by kernel_rfl
 liesBuilder:=by kernel_rfl
 t5:=Tryd.underlying5
 a5:=Tryd.isAgg5
 z5:=Tryd.sizeOf5
 v5:=Tryd.zeroValue5
 infoByte:=by kernel_rfl
 cellsByte:=by kernel_rfl
 sizeByte:=by kernel_rfl
 neB5:=by decide }
def lS:Go.Shelf.Ren:=⟨fun | 137=>54 | 217=>69 | 266=>82 | n=>n,fun | 9=>9 | 5=>5 | 3=>3 | n=>n,fun | n=>n⟩
theorem tG:Lays.n137 Tryd.prog lS:={
 mixed:=by kernel_rfl
 f137:=Tryd.func54.trans (congrArg some (by kernel_rfl))
 f217:=Tryd.func69.trans (congrArg some (by kernel_rfl))
 f266:=Tryd.func82.trans (congrArg some (by kernel_rfl))
 t3:=Tryd.underlying3
 a3:=Tryd.isAgg3
 z3:=Tryd.sizeOf3
 v3:=Tryd.zeroValue3
 t5:=Tryd.underlying5
 a5:=Tryd.isAgg5
 z5:=Tryd.sizeOf5
 v5:=Tryd.zeroValue5
 t9:=Tryd.underlying9
 a9:=Tryd.isAgg9
 z9:=Tryd.sizeOf9
 v9:=Tryd.zeroValue9 }
def lP:Go.Shelf.Ren:=⟨fun | 146=>33 | 221=>48 | 268=>55 | 138=>56 | 143=>57 | 195=>70 | 197=>71 | 218=>72 | 219=>73 | 260=>83 | 217=>69 | 225=>84 | 224=>85 | 267=>86 | 266=>82 | 314=>91 | n=>n,fun | 9=>9 | 31=>46 | 3=>3 | 4=>4 | 0=>0 | 105=>102 | 21=>21 | 5=>5 | 46=>69 | 119=>121 | 139=>124 | 138=>123 | 146=>125 | 51=>107 | n=>n,fun | 1=>2 | 3=>5 | 4=>6 | n=>n⟩
theorem tj:Lays.n146 Tryd.prog lP:={
 mixed:=by kernel_rfl
 f138:=Tryd.func56.trans (congrArg some (by kernel_rfl))
 f143:=Tryd.func57.trans (congrArg some (by kernel_rfl))
 f146:=Tryd.func33.trans (congrArg some (by kernel_rfl))
 f195:=Tryd.func70.trans (congrArg some (by kernel_rfl))
 f197:=Tryd.func71.trans (congrArg some (by kernel_rfl))
 f217:=Tryd.func69.trans (congrArg some (by kernel_rfl))
 f218:=Tryd.func72.trans (congrArg some (by kernel_rfl))
 f219:=Tryd.func73.trans (congrArg some (by kernel_rfl))
 f221:=Tryd.func48.trans (congrArg some (by kernel_rfl))
 f224:=Tryd.func85.trans (congrArg some (by kernel_rfl))
 f225:=Tryd.func84.trans (congrArg some (by kernel_rfl))
 f260:=Tryd.func83.trans (congrArg some (by kernel_rfl))
 f266:=Tryd.func82.trans (congrArg some (by kernel_rfl))
 f267:=Tryd.func86.trans (congrArg some (by kernel_rfl))
 f268:=Tryd.func55.trans (congrArg some (by kernel_rfl))
 f314:=Tryd.func91.trans (congrArg some (by kernel_rfl))
 t0:=Tryd.underlying0
 a0:=Tryd.isAgg0
 z0:=Tryd.sizeOf0
 v0:=Tryd.zeroValue0
 t3:=Tryd.underlying3
 a3:=Tryd.isAgg3
 z3:=Tryd.sizeOf3
 v3:=Tryd.zeroValue3
 t4:=Tryd.underlying4
 a4:=Tryd.isAgg4
 z4:=Tryd.sizeOf4
 v4:=Tryd.zeroValue4
 t5:=Tryd.underlying5
 a5:=Tryd.isAgg5
 z5:=Tryd.sizeOf5
 v5:=Tryd.zeroValue5
 t9:=Tryd.underlying9
 a9:=Tryd.isAgg9
 z9:=Tryd.sizeOf9
 v9:=Tryd.zeroValue9
 t21:=Tryd.underlying21
 a21:=Tryd.isAgg21
 z21:=Tryd.sizeOf21
 v21:=Tryd.zeroValue21
 t31:=Tryd.underlying46
 a31:=Tryd.isAgg46
 z31:=Tryd.sizeOf46
 v31:=Tryd.zeroValue46
 t46:=Tryd.underlying69
 a46:=Tryd.isAgg69
 z46:=Tryd.sizeOf69
 v46:=Tryd.zeroValue69
 t51:=Tryd.underlying107
 a51:=Tryd.isAgg107
 z51:=Tryd.sizeOf107
 v51:=Tryd.zeroValue107
 t105:=Tryd.underlying102
 a105:=Tryd.isAgg102
 z105:=Tryd.sizeOf102
 v105:=Tryd.zeroValue102
 t119:=Tryd.underlying121
 a119:=Tryd.isAgg121
 z119:=Tryd.sizeOf121
 t138:=Tryd.underlying123
 a138:=Tryd.isAgg123
 z138:=Tryd.sizeOf123
 v138:=Tryd.zeroValue123
 t139:=Tryd.underlying124
 a139:=Tryd.isAgg124
 z139:=Tryd.sizeOf124
 v139:=Tryd.zeroValue124
 t146:=Tryd.underlying125
 a146:=Tryd.isAgg125
 z146:=Tryd.sizeOf125
 v146:=Tryd.zeroValue125
 g1:=by kernel_rfl
 g3:=by kernel_rfl
 g4:=by kernel_rfl }
def kG:Go.Shelf.Ren:=⟨fun | 172=>46 | 244=>52 | 245=>53 | 247=>64 | 279=>65 | 280=>66 | 281=>67 | 282=>68 | 287=>79 | 316=>80 | 171=>23 | 205=>81 | 321=>89 | 322=>90 | 243=>41 | 246=>50 | 283=>59 | 284=>60 | 285=>61 | 286=>62 | 129=>75 | 317=>74 | 318=>76 | 319=>77 | 320=>78 | 337=>87 | 338=>88 | n=>n,fun | 9=>9 | 3=>3 | 75=>64 | 76=>65 | 4=>4 | 5=>5 | 167=>96 | 37=>58 | 0=>0 | 85=>97 | 2=>2 | 168=>99 | 53=>90 | 175=>110 | 46=>69 | 210=>113 | 127=>81 | 145=>120 | 143=>118 | 21=>21 | 171=>89 | 173=>93 | 212=>106 | 51=>107 | 20=>20 | 213=>108 | 232=>127 | 233=>128 | 80=>68 | n=>n,fun | 15=>3 | 16=>4 | 17=>1 | 18=>7 | 19=>8 | n=>n⟩
theorem gv:LaysC.n172 Tryd.prog kG:={
 mixed:=by kernel_rfl
 f129:=Tryd.func75.trans (congrArg some (by kernel_rfl))
 f171:=Tryd.func23.trans (congrArg some (by kernel_rfl))
 f172:=Tryd.func46.trans (congrArg some (by kernel_rfl))
 f205:=Tryd.func81.trans (congrArg some (by kernel_rfl))
 f243:=Tryd.func41.trans (congrArg some (by kernel_rfl))
 f244:=Tryd.func52.trans (congrArg some (by kernel_rfl))
 f245:=Tryd.func53.trans (congrArg some (by kernel_rfl))
 f246:=Tryd.func50.trans (congrArg some (by kernel_rfl))
 f247:=Tryd.func64.trans (congrArg some (by kernel_rfl))
 f279:=Tryd.func65.trans (congrArg some (by kernel_rfl))
 f280:=Tryd.func66.trans (congrArg some (by kernel_rfl))
 f281:=Tryd.func67.trans (congrArg some (by kernel_rfl))
 f282:=Tryd.func68.trans (congrArg some (by kernel_rfl))
 f283:=Tryd.func59.trans (congrArg some (by kernel_rfl))
 f284:=Tryd.func60.trans (congrArg some (by kernel_rfl))
 f285:=Tryd.func61.trans (congrArg some (by kernel_rfl))
 f286:=Tryd.func62.trans (congrArg some (by kernel_rfl))
 f287:=Tryd.func79.trans (congrArg some (by kernel_rfl))
 f316:=Tryd.func80.trans (congrArg some (by kernel_rfl))
 f317:=Tryd.func74.trans (congrArg some (by kernel_rfl))
 f318:=Tryd.func76.trans (congrArg some (by kernel_rfl))
 f319:=Tryd.func77.trans (congrArg some (by kernel_rfl))
 f320:=Tryd.func78.trans (congrArg some (by kernel_rfl))
 f321:=Tryd.func89.trans (congrArg some (by kernel_rfl))
 f322:=Tryd.func90.trans (congrArg some (by kernel_rfl))
 f337:=Tryd.func87.trans (congrArg some (by kernel_rfl))
 f338:=Tryd.func88.trans (congrArg some (by kernel_rfl))
 t0:=Tryd.underlying0
 a0:=Tryd.isAgg0
 z0:=Tryd.sizeOf0
 v0:=Tryd.zeroValue0
 t2:=Tryd.underlying2
 a2:=Tryd.isAgg2
 z2:=Tryd.sizeOf2
 v2:=Tryd.zeroValue2
 t3:=Tryd.underlying3
 a3:=Tryd.isAgg3
 z3:=Tryd.sizeOf3
 v3:=Tryd.zeroValue3
 t4:=Tryd.underlying4
 a4:=Tryd.isAgg4
 z4:=Tryd.sizeOf4
 v4:=Tryd.zeroValue4
 t5:=Tryd.underlying5
 a5:=Tryd.isAgg5
 z5:=Tryd.sizeOf5
 v5:=Tryd.zeroValue5
 t9:=Tryd.underlying9
 a9:=Tryd.isAgg9
 z9:=Tryd.sizeOf9
 v9:=Tryd.zeroValue9
 t20:=Tryd.underlying20
 a20:=Tryd.isAgg20
 z20:=Tryd.sizeOf20
 v20:=Tryd.zeroValue20
 t21:=Tryd.underlying21
 a21:=Tryd.isAgg21
 z21:=Tryd.sizeOf21
 v21:=Tryd.zeroValue21
 t37:=Tryd.underlying58
 a37:=Tryd.isAgg58
 z37:=Tryd.sizeOf58
 v37:=Tryd.zeroValue58
 t46:=Tryd.underlying69
 a46:=Tryd.isAgg69
 z46:=Tryd.sizeOf69
 v46:=Tryd.zeroValue69
 t51:=Tryd.underlying107
 a51:=Tryd.isAgg107
 z51:=Tryd.sizeOf107
 v51:=Tryd.zeroValue107
 t53:=Tryd.underlying90
 a53:=Tryd.isAgg90
 z53:=Tryd.sizeOf90
 v53:=Tryd.zeroValue90
 t75:=Tryd.underlying64
 a75:=Tryd.isAgg64
 z75:=Tryd.sizeOf64
 v75:=Tryd.zeroValue64
 t76:=Tryd.underlying65
 a76:=Tryd.isAgg65
 z76:=Tryd.sizeOf65
 v76:=Tryd.zeroValue65
 t85:=Tryd.underlying97
 a85:=Tryd.isAgg97
 z85:=Tryd.sizeOf97
 v85:=Tryd.zeroValue97
 t127:=Tryd.underlying81
 a127:=Tryd.isAgg81
 z127:=Tryd.sizeOf81
 v127:=Tryd.zeroValue81
 t143:=Tryd.underlying118
 a143:=Tryd.isAgg118
 z143:=Tryd.sizeOf118
 v143:=Tryd.zeroValue118
 t145:=Tryd.underlying120
 a145:=Tryd.isAgg120
 z145:=Tryd.sizeOf120
 v145:=Tryd.zeroValue120
 t167:=Tryd.underlying96
 a167:=Tryd.isAgg96
 z167:=Tryd.sizeOf96
 v167:=Tryd.zeroValue96
 t168:=Tryd.underlying99
 a168:=Tryd.isAgg99
 z168:=Tryd.sizeOf99
 v168:=Tryd.zeroValue99
 t171:=Tryd.underlying89
 a171:=Tryd.isAgg89
 z171:=Tryd.sizeOf89
 v171:=Tryd.zeroValue89
 t173:=Tryd.underlying93
 a173:=Tryd.isAgg93
 z173:=Tryd.sizeOf93
 v173:=Tryd.zeroValue93
 t175:=Tryd.underlying110
 a175:=Tryd.isAgg110
 z175:=Tryd.sizeOf110
 v175:=Tryd.zeroValue110
 t210:=Tryd.underlying113
 a210:=Tryd.isAgg113
 z210:=Tryd.sizeOf113
 v210:=Tryd.zeroValue113
 t212:=Tryd.underlying106
 a212:=Tryd.isAgg106
 z212:=Tryd.sizeOf106
 v212:=Tryd.zeroValue106
 t213:=Tryd.underlying108
 a213:=Tryd.isAgg108
 z213:=Tryd.sizeOf108
 t232:=Tryd.underlying127
 a232:=Tryd.isAgg127
 z232:=Tryd.sizeOf127
 v232:=Tryd.zeroValue127
 t233:=Tryd.underlying128
 a233:=Tryd.isAgg128
 z233:=Tryd.sizeOf128
 v233:=Tryd.zeroValue128
 g15:=by kernel_rfl
 g16:=by kernel_rfl
 g17:=by kernel_rfl
 g18:=by kernel_rfl
 g19:=by kernel_rfl
 t80:=Tryd.underlying68
 a80:=Tryd.isAgg68
 z80:=Tryd.sizeOf68
 v80:=Tryd.zeroValue68
 i0:=by kernel_rfl
 i2:=by kernel_rfl
 i3:=by kernel_rfl
 i4:=by kernel_rfl
 i5:=by kernel_rfl
 i9:=by kernel_rfl
 i20:=by kernel_rfl
 i21:=by kernel_rfl
 i37:=by kernel_rfl
 i46:=by kernel_rfl
 i51:=by kernel_rfl
 i53:=by kernel_rfl
 i75:=by kernel_rfl
 i76:=by kernel_rfl
 i80:=by kernel_rfl
 i85:=by kernel_rfl
 i127:=by kernel_rfl
 i143:=by kernel_rfl
 i145:=by kernel_rfl
 i167:=by kernel_rfl
 i168:=by kernel_rfl
 i171:=by kernel_rfl
 i173:=by kernel_rfl
 i175:=by kernel_rfl
 i210:=by kernel_rfl
 i212:=by kernel_rfl
 i232:=by kernel_rfl
 i233:=by kernel_rfl
 m15:=by kernel_rfl
 m16:=by kernel_rfl
 m17:=by kernel_rfl
 m18:=by kernel_rfl
 m19:=by kernel_rfl
 c0:=by kernel_rfl
 c2:=by kernel_rfl
 c3:=by kernel_rfl
 c4:=by kernel_rfl
 c5:=by kernel_rfl
 c9:=by kernel_rfl
 c20:=by kernel_rfl
 c21:=by kernel_rfl
 c37:=by kernel_rfl
 c46:=by kernel_rfl
 c51:=by kernel_rfl
 c53:=by kernel_rfl
 c75:=by kernel_rfl
 c76:=by kernel_rfl
 c80:=by kernel_rfl
 c85:=by kernel_rfl
 c127:=by kernel_rfl
 c143:=by kernel_rfl
 c145:=by kernel_rfl
 c167:=by kernel_rfl
 c168:=by kernel_rfl
 c171:=by kernel_rfl
 c173:=by kernel_rfl
 c175:=by kernel_rfl
 c210:=by kernel_rfl
 c212:=by kernel_rfl
 c213:=by kernel_rfl
 c232:=by kernel_rfl
 c233:=by kernel_rfl }
end Go.Proofs.YtagpmhlokhoanaaDoor
namespace Go.Proofs.YtagpmhlokhoanaaDoor
open Go.RowKit Go.Proofs
def pR (b:UInt8):List (List UInt8)->List (List UInt8)
 | []=>[[b]]
 | x :: r=>(b :: x) :: r
def ak (c:UInt8):List UInt8->List (List UInt8)
 | []=>[[]]
 | b :: l=>if b=c then [] :: ak c l else pR b (ak c l)
theorem gG {c:UInt8} {r:List UInt8}:∀ {x:List UInt8},c ∉ x->ak c (x++c :: r)=x :: ak c r
 | [],_=>by simp [ak]
 | b :: x,h=>by
  have hb:b≠c:=fun e=>h (by simp [e])
  rw [List.cons_append,ak,if_neg hb,gG fun hc=>h (by simp [hc])]; rfl
theorem iO {c:UInt8}:∀ {x:List UInt8},c ∉ x->ak c x=[x]
 | [],_=>rfl
 | b :: x,h=>by
  have hb:b≠c:=fun e=>h (by simp [e])
  rw [ak,if_neg hb,iO fun hc=>h (by simp [hc])]; rfl
theorem vj (c:UInt8):∀ l:List UInt8,c ∉ l\/∃ x r,l=x++c :: r/\c ∉ x
 | []=>.inl (by simp)
 | b :: l=>by
  by_cases hb:b=c
  ·exact .inr ⟨[],l,by rw [hb]; rfl,by simp⟩
  ·rcases vj c l with h | ⟨x,r,rfl,h⟩
   ·exact .inl (by simp [h,Ne.symm hb])
   ·exact .inr ⟨b :: x,r,rfl,by simp [h,Ne.symm hb]⟩
theorem px {c:UInt8}:∀ {l:List UInt8},c ∉ l->Lib.index l [c] = -1
 | [],_=>rfl
 | b :: l,h=>by
  have hb:¬ b=c:=fun e=>h (by simp [e])
  have hp:([c]:List UInt8).isPrefixOf (b :: l)=false:=by simp [List.isPrefixOf,Ne.symm hb]
  rw [Lib.index,hp,px fun hc=>h (by simp [hc])]; rfl
theorem mF {c:UInt8} {r:List UInt8}:∀ {x:List UInt8},c ∉ x->Lib.index (x++c :: r) [c]=x.length
 | [],_=>by simp [Lib.index,List.isPrefixOf]
 | b :: x,h=>by
  have hb:¬ b=c:=fun e=>h (by simp [e])
  have hp:([c]:List UInt8).isPrefixOf (b :: (x++c :: r))=false:=by simp [List.isPrefixOf,Ne.symm hb]
  rw [List.cons_append,Lib.index,hp,mF fun hc=>h (by simp [hc])]
  simp only [Bool.false_eq_true,if_false,List.length_cons]
  rw [if_neg (by simp <;> omega)]; omega
theorem ue {c:UInt8}:∀ (n:Nat) (l:List UInt8),l.length<=n->Lib.splitK [c] 0 (Lib.count l [c]) l=ak c l:=fun n=>by
 induction n with
 | zero=>
  intro l h
  obtain rfl:l=[]:=List.eq_nil_of_length_eq_zero (by omega)
  rw [Lib.count_one]; rfl
 | succ n ih=>
  intro l h
  rcases vj c l with hn | ⟨x,r,rfl,hx⟩
  ·rw [Lib.count_miss (px hn),iO hn]; rfl
  ·have hi:=mF (r:=r) hx
   rw [Lib.count_hit (by simp) hi,gG hx,Nat.add_comm,Lib.splitK,if_neg (by rw [hi]; simp <;> omega),hi]
   have e:(x++c :: r).drop (x.length+1)=r:=by
    rw [List.drop_append]; simp
   simp only [Int.toNat_natCast,Nat.add_zero,List.length_cons,List.length_nil,Nat.zero_add,e]
   rw [ih r (by simp at h; omega),List.take_left]
def bd (s sep:Str):List Str:=(ak (sep.b.getD 0 0) s.b).map Str.mk
theorem bF (c:UInt8):∀ l:List UInt8,(ak c l).length<=l.length+1/\ak c l≠[]
 | []=>by simp [ak]
 | b :: l=>by
  have:=bF c l
  unfold ak
  split
  ·simp; omega
  ·cases h:ak c l with
   | nil=>exact absurd h this.2
   | cons x r=>rw [h] at this; simp [pR] at this ⊢; omega
theorem dI (c:UInt8):∀ (l:List UInt8),∀ x ∈ ak c l,x.length<=l.length
 | [],x,h=>by simp [ak] at h; simp [h]
 | b :: l,x,h=>by
  unfold ak at h
  have ih:=dI c l
  split at h
  ·rcases List.mem_cons.1 h with rfl | h
   ·simp
   ·have:=ih x h; simp; omega
  ·cases hs:ak c l with
   | nil=>rw [hs] at h; simp [pR] at h; subst h; simp
   | cons y r=>
    rw [hs] at h ih
    simp only [pR,List.mem_cons] at h
    rcases h with rfl | h
    ·have:=ih y (by simp); simp; omega
    ·have:=ih x (by simp [h]); simp; omega
theorem pH {c:Cx}:∀ {l:List Str},(∀ s ∈ l,s.b.length<=140737488355328)->Pds c (l.flatMap (cellsOf .str)) (l.map Str.val)
 | [],_=>.nil
 | s :: l,h=>.cons (.str (h s (by simp))) (pH fun x hx=>h x (by simp [hx]))
theorem vc {G:Gl} {ρ:List RE} {H:AH} {w:World} (hR:Rep G ρ H w) (hG:G.shp=aj aP) {l:List Str} (hl:∀ x ∈ l,x.b.length<=140737488355328) (hn:l.length<=4294967296):bE (cx G ρ (w.alloc (.cells (List.toArray (l.map Str.val)) 9))) ρ (.c (.fz .str l)) (.slice (some ⟨w.heap.size,0,none⟩) l.length l.length):=
 (Pd.fz (c:=cx G ρ (w.alloc (.cells (List.toArray (l.map Str.val)) 9))) (s:=.str) (xs:=l) (Nat.le_refl _) (by simp only [maxLen]; omega) (by simp only [Sh.bytes]; omega) (pH hl) (.inr ⟨_,rfl,⟨⟨by simp,fun ⟨i,r,e1,e2⟩=>by have:=(hR.bnd i r _ e1 e2).2.1; simp at this,fun hz=>by have:=hR.z _ hz; simp at this⟩,.inr ⟨_,_,_,heap_alloc_new w _,by rw [show (cx G ρ (w.alloc (.cells (List.toArray (l.map Str.val)) 9))).shp=aj aP from hG]; kernel_rfl⟩⟩,bh (cells:=l.map Str.val) (sp:=[]) (by rw [List.append_nil]; exact heap_alloc_new w _)⟩):Pd _ (.fz .str l) _)
theorem uy (s sep:Str) (h0:s.b.length<4294967281) (h1:sep.b.length=1):Sat Tryd.prog (aj aP) 33 [.c (.str s),.c (.str sep)] [] ⟨[],[.c (.fz .str (bd s sep))],none,false⟩:=by
 refine ⟨⟨_,Tryd.func33,by decide,by kernel_rfl⟩,fun G ρ w vs hG hR hvs=>?_⟩
 cases hvs with | cons h2 hvs=>?_
 cases hvs with | cons h3 hvs=>?_
 cases hvs
 have h2:Pd (cx G ρ w) (.str s) _:=h2
 have h3:Pd (cx G ρ w) (.str sep) _:=h3
 cases h2 with | str hs=>?_
 cases h3 with | str hsep=>?_
 obtain ⟨c,hc⟩:∃ c,sep.b=[c]:=by
  cases hq:sep.b with
  | nil=>rw [hq] at h1; simp at h1
  | cons c r=>cases r with
   | nil=>exact ⟨c,rfl⟩
   | cons _ _=>rw [hq] at h1; simp at h1
 obtain ⟨hgS,v,t,fr,hg,m,rfl⟩:=hR.tb.1 (2,true) (by simp [ur])
 have hg:w.heap[2]? = some (.cells #[.int .i64 m] t fr):=hg
 have hcell:w.cell? ⟨2,0,none⟩=some (.int .i64 m):=by rw [Lib.cell_of_heap hg]; rfl
 refine (Any.strings_Split tj (by kernel_rfl) ⟨s.b.toArray⟩ ⟨sep.b.toArray⟩ m w (by simpa [ByteArray.size] using h0) hcell (by simp [ByteArray.size]; omega)).mono fun e w' ⟨he,hw⟩=>?_
 have hmap:(Lib.splitB ⟨sep.b.toArray⟩ 0 (Lib.countB ⟨s.b.toArray⟩ ⟨sep.b.toArray⟩) ⟨s.b.toArray⟩).map (·.data.toList)=ak c s.b:=by
  rw [Lib.splitB_data]
  have:Lib.countB ⟨s.b.toArray⟩ ⟨sep.b.toArray⟩=Lib.count s.b sep.b:=rfl
  rw [this,hc]
  exact ue _ _ (Nat.le_refl _)
 have hlen:Lib.countB ⟨s.b.toArray⟩ ⟨sep.b.toArray⟩+1=(ak c s.b).length:=by
  rw [<- hmap,List.length_map,Lib.splitB_all _ (by simp [ByteArray.size]; omega) 0 _ _ rfl]
 have hvals:(Lib.splitB ⟨sep.b.toArray⟩ 0 (Lib.countB ⟨s.b.toArray⟩ ⟨sep.b.toArray⟩) ⟨s.b.toArray⟩).map Value.string=(bd s sep).map Str.val:=by
  have e:bd s sep=(ak c s.b).map Str.mk:=by unfold bd; rw [hc]; rfl
  rw [e,<- hmap,List.map_map,List.map_map]
  refine List.map_congr_left fun x _=>?_
  simp [Str.val]
 have hl:(bd s sep).length=(ak c s.b).length:=by unfold bd; rw [hc]; simp
 have hle:=(bF c s.b).1
 rw [hvals] at hw
 rw [hlen,<- hl] at he
 subst hw
 exact ⟨_,he,[_],rfl,Kp.alloc w _,.cons (vc (l:=bd s sep) hR hG (fun x hx=>by
  unfold bd at hx
  rw [hc,List.mem_map] at hx
  obtain ⟨y,hy,rfl⟩:=hx
  have:=dI c s.b y hy
  show y.length<=_
  omega) (by omega)) .nil⟩
theorem df (c:UInt8):∀ l:List UInt8,-1<=Lib.indexByte l c/\Lib.indexByte l c<=l.length
 | []=>by simp [Lib.indexByte]
 | b :: l=>by
  have:=df c l
  simp only [Lib.indexByte,List.length_cons]
  split
  ·omega
  ·split <;> omega
theorem tF (s:Str) (c:UInt8):Sat Tryd.prog (aj aP) 54 [.c (.str s),.c (.u8 c)] [] ⟨[],[.c (.int (Lib.indexByte s.b c))],none,false⟩:=by
 refine ⟨⟨_,Tryd.func54,by decide,by kernel_rfl⟩,fun G ρ w vs hG hR hvs=>?_⟩
 cases hvs with | cons h2 hvs=>?_
 cases hvs with | cons h3 hvs=>?_
 cases hvs
 have h2:Pd (cx G ρ w) (.str s) _:=h2
 have h3:Pd (cx G ρ w) (.u8 c) _:=h3
 cases h2 with | str hs=>?_
 cases h3
 refine (Any.strings_IndexByte tG ⟨s.b.toArray⟩ (c.toNat:Int) w).mono fun e w' ⟨he,hw⟩=>?_
 subst hw
 have hb:=df c s.b
 refine ⟨_,he,[_],rfl,Kp.refl _,.cons ?_ .nil⟩
 have e2:((c.toNat:Int).toNat.toUInt8)=c:=by rw [Int.toNat_natCast]; exact UInt8.ofNat_toNat
 rw [e2]
 exact (Pd.int ⟨by omega,by omega⟩:Pd _ (.int (Lib.indexByte s.b c)) _)
def aN (s:Str):Int:=match Lib.atoiAll s.b with
 | .ok v=>v
 | .range=>Lib.atoiSat s.b
 | _=>0
def bZ (s:Str):Bool:=match Lib.atoiAll s.b with
 | .ok _=>true
 | _=>false
theorem xO (s:Str):Sat Tryd.prog (aj aP) 46 [.c (.str s)] [] ⟨[],[.c (.int (aN s)),.c (.xx (.er (bZ s)) [])],none,false⟩:=by
 refine ⟨⟨_,Tryd.func46,by decide,by kernel_rfl⟩,fun G ρ w vs hG hR hvs=>?_⟩
 cases hvs with | cons h2 hvs=>?_
 cases hvs
 have h2:Pd (cx G ρ w) (.str s) _:=h2
 cases h2 with | str hs=>?_
 have hsz:(ByteArray.mk s.b.toArray).size=s.b.length:=by simp [ByteArray.size]
 obtain ⟨_,v3,t3,f3,hg3,tp3,p3,rfl⟩:=hR.tb.1 (3,false) (by simp [ur])
 obtain ⟨_,v4,t4,f4,hg4,tp4,p4,rfl⟩:=hR.tb.1 (4,false) (by simp [ur])
 have hg3:w.heap[3]? = some (.cells #[.iface tp3 p3] t3 f3):=hg3
 have hg4:w.heap[4]? = some (.cells #[.iface tp4 p4] t4 f4):=hg4
 have hc3:w.cell? ⟨3,0,none⟩=some (.iface tp3 p3):=by rw [Lib.cell_of_heap hg3]; rfl
 have hc4:w.cell? ⟨4,0,none⟩=some (.iface tp4 p4):=by rw [Lib.cell_of_heap hg4]; rfl
 rcases h:Lib.atoiAll s.b with v | _ | _
 ·have hb:=Lib.atoiAll_bounds h
  refine (Any.strconv_Atoi_ok gv ⟨s.b.toArray⟩ (by omega) v h w).mono fun e w' ⟨he,hw⟩=>?_
  have hk:Kp [] w w':=by
   rcases hw with rfl | ⟨t,rfl⟩
   ·exact Kp.refl _
   ·exact Kp.h_ (Lib.bytesWorld_below _ _ _)
  refine ⟨_,he,[_,_],rfl,hk,.cons ?_ (.cons ⟨[],.nil,rfl,.inl ⟨by simp [bZ,h],rfl⟩⟩ .nil)⟩
  rw [show aN s=v by simp [aN,h]]
  exact (Pd.int hb:Pd _ (.int v) _)
 ·refine (Any.strconv_Atoi_syntax gv ⟨s.b.toArray⟩ (by omega) h _ w hc3 (.inr ⟨_,_,rfl⟩)).mono fun e w' ⟨N,he,_,_,hb⟩=>?_
  refine ⟨_,he,[_,_],rfl,Kp.h_ hb,.cons ?_ (.cons ⟨[],.nil,rfl,.inr ⟨by simp [bZ,h],_,_,rfl⟩⟩ .nil)⟩
  rw [show aN s=0 by simp [aN,h]]
  exact (Pd.int ⟨by omega,by omega⟩:Pd _ (.int 0) _)
 ·have hb:=Lib.atoiSat_bounds s.b
  refine (Any.strconv_Atoi_range gv ⟨s.b.toArray⟩ (by omega) h _ w hc4 (.inr ⟨_,_,rfl⟩)).mono fun e w' ⟨N,he,_,_,hb⟩=>?_
  refine ⟨_,he,[_,_],rfl,Kp.h_ hb,.cons ?_ (.cons ⟨[],.nil,rfl,.inr ⟨by simp [bZ,h],_,_,rfl⟩⟩ .nil)⟩
  rw [show aN s=Lib.atoiSat s.b by simp [aN,h]]
  exact (Pd.int (Lib.atoiSat_bounds s.b):Pd _ (.int (Lib.atoiSat s.b)) _)
end Go.Proofs.YtagpmhlokhoanaaDoor
namespace Go.Proofs.YtagpmhlokhoanaaDoor
open Go.RowKit Go.Proofs Go.Shelf
def ug (xs:List UInt8):AH:=[.box 62 [.xx .bp [(0,0)],.own 1],.row 5 .u8 xs]
theorem qC {G:Gl} {ρ:List RE} {w:World} {xs:List UInt8} (hR:Rep G ρ (ug xs) w):∃ g p v,ρ[0]? = some (.blk g)/\w.heap[g]? = some (.cells #[p,v] 62 (0,0))/\(p = .pointer none\/p = .pointer (some ⟨g,0,none⟩))/\Rd (cx G ρ w) ρ (.own 1) v:=by
 obtain ⟨r,hr,g,vs,rfl,h1,h2⟩:=hR.at_ (show (ug xs)[0]? = some _ from rfl)
 cases h2 with | cons h2 h3=>?_
 cases h3 with | cons h3 h4=>?_
 cases h4
 obtain ⟨us,h5,h6,h7⟩:=h2
 cases h5 with | cons h5 h8=>?_
 cases h8
 obtain ⟨g',h9,rfl⟩:=h5
 rw [hr] at h9; cases h9
 refine ⟨g,_,_,hr,h1,?_,h3⟩
 rcases h7 with h7 | h7
 ·exact .inl h7
 ·exact .inr (List.cons.inj h7).1.symm
theorem lV (xs:List UInt8):Sat Tryd.prog (aj aP) 49 [.c (.ptr 0 0)] (ug xs) ⟨[],[],some (ug xs),false⟩:=by
 refine ⟨⟨_,Tryd.func49,by decide,by kernel_rfl⟩,fun G ρ w vs hG hR hvs=>?_⟩
 cases hvs with | cons h1 hvs=>?_
 cases hvs
 obtain ⟨g0,h0,rfl⟩:=h1
 obtain ⟨g,p,v,h1,hb,hp,hv⟩:=qC hR
 obtain rfl:g=g0:=by rw [h1] at h0; cases h0; rfl
 clear h0
 have L:Lays.n240 Tryd.prog ed:={ iF with }
 rcases hp with rfl | rfl
 ·refine (Any.Builder_copyCheck_fresh L bX.toX72 g w (by rw [Lib.cell_of_heap hb]; rfl) (by simp [World.shape?,hb]; rfl) (Lib.frozen_of_heap hb 0)).mono fun e w' ⟨he,hw⟩=>?_
  have hk:Kp [g] w w':=by
   subst hw
   refine ⟨rfl,rfl,rfl,by simp [World.setCell],fun b hb hn=>?_⟩
   simp only [World.setCell,Array.getElem?_modify]
   rw [if_neg (by simpa using fun h=>hn (by simp [h]))]
  have hb':w'.heap[g]? = some (.cells #[.pointer (some ⟨g,0,none⟩),v] 62 (0,0)):=by
   subst hw
   simp [World.setCell,Array.getElem?_modify,hb]
  obtain ⟨k1,k2⟩:=hR.put (o:=.box 62 [.xx .bp [(0,0)],.own 1]) (o':=.box 62 [.xx .bp [(0,0)],.own 1]) rfl h1 rfl hk ⟨g,[_,v],rfl,hb',.cons ⟨[.pointer (some ⟨g,0,none⟩)],.cons ⟨g,h1,rfl⟩ .nil,rfl,.inr rfl⟩ (.cons hv .nil)⟩
  exact ⟨_,he,[],rfl,ρ,k1,k2,fun _ _ h=>h,.nil,fun h=>by cases h⟩
 ·refine (Any.Builder_copyCheck_used L bX.toX72 g w (by rw [Lib.cell_of_heap hb]; rfl)).mono fun e w' ⟨he,hw⟩=>?_
  subst hw
  exact ⟨_,he,[],rfl,ρ,hR,Ext.refl _ _,fun _ _ h=>h,.nil,fun h=>by cases h⟩
set_option maxHeartbeats 1000000 in
set_option maxRecDepth 100000 in
theorem rC (g gb cap:Nat) (p:Value) (l:List UInt8) (sp:List Value) (w:World) (h0:l≠[]) (hb:w.heap[g]? = some (.cells #[p,.slice (some ⟨gb,0,none⟩) l.length cap] 62 (0,0))) (hg:w.heap[gb]? = some (.cells (List.toArray (Lib.byteCells l++sp)) 5 (0,0))) (hcap:(Lib.byteCells l++sp).length=cap) (hmax:cap<=maxLen) :
  Calls Tryd.prog 39 #[.pointer (some ⟨g,0,none⟩)] w fun e w'=>e = .returned (.string ⟨l.toArray⟩)/\w' = w.drew.freeze ⟨gb,0,none⟩ l.length:=by
 have L:=mz
 have X:=dS
 have hl0:l.length≠0:=by simpa using h0
 have hlen:(Lib.byteCells l).length=l.length:=Lib.byteCells_length l
 have hlc:l.length<=cap:=by rw [<- hcap,List.length_append,hlen]; omega
 have c1:w.drew.cell? ⟨g,1,none⟩=some (.slice (some ⟨gb,0,none⟩) l.length cap):=by
  have:w.drew.heap[g]? = some (.cells #[p,.slice (some ⟨gb,0,none⟩) l.length cap] 62 (0,0)):=hb
  rw [Lib.cell_of_heap this]; rfl
 have hSD:(Builtin.unsafeSliceData_ #[(av.t 37)] (av.t 127) #[.slice (some ⟨gb,0,none⟩) l.length cap]).run Tryd.prog w.drew = .ok (.pointer (some ⟨gb,0,none⟩)) w.drew:=
  Lib.run_unsafeSliceData_row _ _ _ _ _ _ (by omega)
 have hUS:(Builtin.unsafeString_ #[(av.t 127),(av.t 3)] (av.t 9) #[.pointer (some ⟨gb,0,none⟩),.int .i64 l.length]).run Tryd.prog w.drew = .ok (.string ⟨l.toArray⟩) (w.drew.freeze ⟨gb,0,none⟩ l.length):=by
  refine Lib.run_unsafeString_row w.drew (av.t 127) (av.t 3) (av.t 9) (av.t 5) L.t127 X.cellsByte gb cap (by have hg':w.drew.heap[gb]? = some (.cells (List.toArray (Lib.byteCells l++sp)) 5 (0,0)):=hg; simp only [World.shape?,hg',List.size_toArray,hcap]; rfl) l h0 (by omega) (by unfold maxLen at hmax; omega) ?_
  intro j x hx
  have hg':w.drew.heap[gb]? = some (.cells (List.toArray (Lib.byteCells l++sp)) 5 (0,0)):=hg
  have:=bh hg' j (.int .u8 x.toNat) (by simp [Lib.byteCells,hx])
  rw [add_lit,Nat.zero_add] at this
  first | exact this | (rw [add_lit,Nat.zero_add]; exact this)
 have mixed:=L.mixed
 have t72:=L.t72; have a72:=L.a72; have z72:=L.z72; have v72:=L.v72; have u72:=run_underlying L.t72
 have t70:=L.t70; have a70:=L.a70; have z70:=L.z70; have v70:=L.v70; have u70:=run_underlying L.t70
 have t37:=L.t37; have a37:=L.a37; have z37:=L.z37; have v37:=L.v37; have u37:=run_underlying L.t37
 have t127:=L.t127; have a127:=L.a127; have z127:=L.z127; have v127:=L.v127; have u127:=run_underlying L.t127
 have t3:=L.t3; have a3:=L.a3; have z3:=L.z3; have v3:=L.v3; have u3:=run_underlying L.t3
 have t9:=L.t9; have a9:=L.a9; have z9:=L.z9; have v9:=L.v9; have u9:=run_underlying L.t9
 have t5:=X.t5; have a5:=X.a5; have z5:=X.z5; have v5:=X.v5; have u5:=run_underlying X.t5
 show Calls Tryd.prog (av.f 169) _ _ _
 go_enter L.f169,Body.n169_ntmps av
 go_wp2
 go_region_o
 all_goals (go_wp2; go_ret; exact ⟨rfl,rfl⟩)
theorem jE {c:Cx}:∀ {l:List UInt8} {cells:List Value},Pds c (l.flatMap (cellsOf .u8)) cells->cells=Lib.byteCells l
 | [],_,h=>by cases h; rfl
 | x :: l,_,h=>by
  have h':Pds c (.u8 x :: l.flatMap (cellsOf .u8)) _:=h
  cases h' with | cons h1 h2=>?_
  cases h1
  rw [jE h2]; rfl
theorem rF (xs:List UInt8) (h0:xs≠[]):Sat Tryd.prog (aj aP) 39 [.c (.ptr 0 0)] (ug xs) ⟨[],[.c (.str ⟨xs⟩)],some [.box 62 [.xx .bp [(0,0)],.dead],.gone],false⟩:=by
 refine ⟨⟨_,Tryd.func39,by decide,by kernel_rfl⟩,fun G ρ w vs hG hR hvs=>?_⟩
 cases hvs with | cons h1 hvs=>?_
 cases hvs
 obtain ⟨g0,hg0,rfl⟩:=h1
 obtain ⟨g,p,v,h1,hb,hp,hv⟩:=qC hR
 obtain rfl:g=g0:=by rw [h1] at hg0; cases hg0; rfl
 clear hg0
 have hH:getO (ug xs) 1 = .row 5 .u8 xs:=rfl
 have hxl:xs.length<=140737488355328:=by have:=(cn hR hH).2; simpa [Sh.bytes] using this
 rcases bj hR hH with ⟨_,h5⟩ | ⟨gb,cap,cells,sp,h5,h6,h7,h8,h9,h10⟩
 ·exact absurd h5 h0
 have hv2:v = .slice (some ⟨gb,0,none⟩) xs.length cap:=by
  rcases hv with ⟨_,_,_,_,h11,rfl⟩ | ⟨h11,_⟩
  ·rw [h5] at h11; cases h11; rfl
  ·rw [h5] at h11; cases h11
 subst hv2
 obtain rfl:=jE h7
 have hne:g≠gb:=by
  rintro rfl
  have:=hR.inj 0 1 _ _ g h1 h5 rfl rfl
  omega
 refine (rC g gb cap p xs sp w h0 hb h6 (by simpa [Sh.size] using h8) h10).mono fun e w' ⟨he,hw⟩=>?_
 have hk:Kp [gb] w w':=by
  subst hw
  unfold World.freeze
  split
  ·exact ⟨rfl,rfl,rfl,Nat.le_refl _,fun _ _ _=>rfl⟩
  ·refine ⟨rfl,rfl,rfl,by simp,fun b hb hn=>?_⟩
   simp only [Array.getElem?_modify]
   rw [if_neg (by simpa using fun h=>hn (by simp [h]))]
   rfl
 have hρl:ρ.length=2:=hR.obj.length.symm
 have hb':w'.heap[g]? = some (.cells #[p,.slice (some ⟨gb,0,none⟩) xs.length cap] 62 (0,0)):=(hk.block g (Array.getElem?_eq_some_iff.1 hb).1 (by simpa using hne)).trans hb
 have hlive:∀ b,live [RE.blk g,RE.no] b->b=g:=by
  rintro b ⟨i,r,e1,e2⟩
  cases i with
  | zero=>simp at e1; subst e1; simpa [RE.g?] using e2.symm
  | succ i=>cases i with
   | zero=>simp at e1; subst e1; cases e2
   | succ i=>simp at e1
 have hbg:=hR.bnd 0 _ g h1 rfl
 have hsz:w.heap.size<=w'.heap.size:=hk.size
 have hle:(cx G ρ w).le (cx G [.blk g,.no] w'):=by
  refine ⟨rfl,rfl,fun b hS=>⟨⟨Nat.lt_of_lt_of_le hS.1 hsz,fun hl=>hS.2.1 ⟨0,_,h1,by rw [hlive b hl]; rfl⟩,hS.2.2⟩,hk.block b hS.1 ?_⟩⟩
  simp only [List.mem_singleton]
  rintro rfl
  exact hS.2.1 ⟨1,_,h5,rfl⟩
 have hpd:Rd (cx G [.blk g,.no] w') [.blk g,.no] (.xx .bp [(0,0)]) p:=⟨[.pointer (some ⟨g,0,none⟩)],.cons ⟨g,rfl,rfl⟩ .nil,rfl,hp.imp id fun h=>by rw [h]⟩
 refine ⟨_,he,[_],rfl,[.blk g,.no],⟨.cons ⟨g,[p,_],rfl,hb',.cons hpd (.cons rfl .nil)⟩ (.cons rfl .nil),fun i j r r' b e1 e2 e3 e4=>?_,fun i r b e1 e2=>?_,fun b hb=>Nat.lt_of_lt_of_le (hR.z b hb) hsz,Nat.le_trans hR.b0 hsz,hR.tb.carry hle⟩,⟨hk.os,hk.tape,hk.output,hsz,fun b hb hl=>⟨fun h=>hl ⟨0,_,h1,by rw [hlive b h]; rfl⟩,hk.block b hb ?_⟩⟩,fun i b h=>?_,.cons (show Pd _ (.str ⟨xs⟩) _ from (Pd.str hxl:Pd _ (.str ⟨xs⟩) (Str.val ⟨xs⟩))) .nil,fun h=>by cases h⟩
 ·have a1:∀ (i:Nat) (r:RE),[RE.blk g,RE.no][i]? = some r->r.g? = some b->i=0:=fun i r e1 e2=>by
   cases i with
   | zero=>rfl
   | succ i=>cases i with
    | zero=>simp at e1; subst e1; cases e2
    | succ i=>simp at e1
  rw [a1 i r e1 e3,a1 j r' e2 e4]
 ·obtain rfl:=hlive b ⟨i,r,e1,e2⟩
  exact ⟨hbg.1,Nat.lt_of_lt_of_le hbg.2.1 hsz,hbg.2.2⟩
 ·simp only [List.mem_singleton]
  rintro rfl
  exact hl ⟨1,_,h5,rfl⟩
 ·cases i with
  | zero=>rw [h1] at h; cases h; rfl
  | succ i=>cases i with
   | zero=>rw [h5] at h; cases h
   | succ i=>
    have:=(List.getElem?_eq_some_iff.1 h).1
    omega
end Go.Proofs.YtagpmhlokhoanaaDoor
namespace Go.Proofs.YtagpmhlokhoanaaDoor
open Go.RowKit Go.Proofs
open Go.MapKept (run_checkKey run_findKey run_setObj_map heap_set run_keyThatStays)
theorem sj {k:Str}:∀ {l:List MapEntry} {i:Nat},(∀ e ∈ l,∃ s,e.key = .string s) ->
  (∃ j e,l[j]? = some e/\e.key=k.val/\Instr.findNow .string k.val l i=some (some (i+j,e.val)) /\
   ∀ v q,getS q (l.modify j fun e=>{ e with key:=k.val,val:=v })=if q=k then some v else getS q l) \/
  (Instr.findNow .string k.val l i=some none/\∀ v q b,getS q (l++[{ key:=k.val,val:=v,born:=b }])=if q=k then some v else getS q l)
 | [],i,_=>.inr ⟨rfl,fun v q b=>by
   have hs:nj k.val=some k:=by simp [nj,Str.val]
   by_cases hq:q=k
   ·subst hq; simp [getS,hs]
   ·have:¬ (k=q):=fun h=>hq h.symm
    simp [getS,hs,hq,this]⟩
 | e :: l,i,h=>by
  have hs:nj k.val=some k:=by simp [nj,Str.val]
  obtain ⟨s,hk⟩:=h e (by simp)
  have hr:=fun x hx=>h x (List.mem_cons_of_mem _ hx)
  have hse:nj e.key=some ⟨s.data.toList⟩:=by rw [hk]; rfl
  have hb:((⟨k.b.toArray⟩:ByteArray) == s)=decide ((⟨s.data.toList⟩:Str)=k):=by
   rw [Bool.eq_iff_iff,MapKept.bytes_beq,decide_eq_true_eq]
   constructor
   ·rintro rfl; simp
   ·intro e; rw [<- e]
  by_cases hkk:(⟨s.data.toList⟩:Str)=k
  ·have he:e.key=k.val:=by rw [hk,<- hkk]; simp [Str.val]
   refine .inl ⟨0,e,rfl,he,?_,fun v q=>?_⟩
   ·simp only [Instr.findNow,hk,Instr.sameNow,Str.val,hb,hkk,decide_true]; rfl
   ·by_cases hq:q=k
    ·subst hq; simp [getS,hs]
    ·have hq2:¬ (k=q):=fun h=>hq h.symm
     simp [getS,hs,hse,hkk,hq,hq2]
  ·rcases sj (k:=k) (i:=i+1) hr with ⟨j,e',h1,h2,h3,h4⟩ | ⟨h1,h3⟩
   ·refine .inl ⟨j+1,e',h1,h2,?_,fun v q=>?_⟩
    ·simp only [Instr.findNow,hk,Instr.sameNow,Str.val,hb,hkk,decide_false]
     have:=h3
     simp only [Str.val] at this
     rw [this]; congr 3; omega
    ·by_cases hq:q=(⟨s.data.toList⟩:Str)
     ·subst hq
      simp [getS,hse,hkk]
     ·have hq2:¬ ((⟨s.data.toList⟩:Str)=q):=fun h=>hq h.symm
      have:=h4 v q
      simp [getS,hse,hq2]
      simpa using this
   ·refine .inr ⟨?_,fun v q b=>?_⟩
    ·simp only [Instr.findNow,hk,Instr.sameNow,Str.val,hb,hkk,decide_false]
     exact h1
    ·by_cases hq:q=(⟨s.data.toList⟩:Str)
     ·subst hq
      simp [getS,hse,hkk]
     ·have hq2:¬ ((⟨s.data.toList⟩:Str)=q):=fun h=>hq h.symm
      have:=h3 v q b
      simp [getS,hse,hq2]
      simpa using this
section
variable {P:Program} {n:Nat} {F:Fr} {w:World} {x y z':Operand} {t ty kt et:TypeId} {g c:Nat} {k:Str} {a:Array MapEntry}
theorem CJ {v:Value} (hx:ev F x=some (.map (some g))) (hy:ev F y=some k.val) (hv:ev F z' = some v) (hm:P.underlying t=some (.map kt et)) (hk:P.underlying kt=some .string) (hg:w.heap[g]? = some (.map a c)) (hl:∀ e ∈ a.toList,∃ s,e.key = .string s) :
  ∃ w' a' c',cX P n F w (.mapUpdate t x y z') ty w' /\ Kp [g] w w' /\ w'.heap[g]? = some (.map a' c')/\(∀ e ∈ a'.toList,∃ s,e.key = .string s)/\∀ q,getS q a'.toList=if q=k then some v else getS q a.toList:=by
 have hik:MapKept.IsKey .string k.val:=trivial
 have fin:∀ a' c',(Instr.mapUpdate t (.map (some g)) k.val v).run P w = .ok () { w with heap:=w.heap.setIfInBounds g (.map a' c') }->(∀ e ∈ a'.toList,∃ s,e.key = .string s)->(∀ q,getS q a'.toList=if q=k then some v else getS q a.toList) ->
   ∃ w' a' c',cX P n F w (.mapUpdate t x y z') ty w' /\ Kp [g] w w' /\ w'.heap[g]? = some (.map a' c')/\(∀ e ∈ a'.toList,∃ s,e.key = .string s)/\∀ q,getS q a'.toList=if q=k then some v else getS q a.toList:=by
  intro a' c' e h1 h2
  have hs:=heap_set (o':=.map a' c') hg
  refine ⟨{ w with heap:=w.heap.setIfInBounds g (.map a' c') },a',c',fun a'' _ _ _ _ ha=>?_,⟨rfl,rfl,rfl,by simp,fun i hi hn=>hs.2 i (by simpa using hn)⟩,by simpa using hs.1,h1,h2⟩
  simp [execOp,ha.ev hx,ha.ev hy,ha.ev hv,e]
 rcases sj (k:=k) (i:=0) hl with ⟨j,e0,hj,he,h1,h2⟩ | ⟨h1,h3⟩
 ·have hj':a[j]? = some e0:=by simpa using hj
  refine fin (a.modify j fun e=>{ e with key:=k.val,val:=v }) c ?_ ?_ ?_
  ·rw [Nat.zero_add] at h1
   simp [Instr.mapUpdate,run_underlying hm,MapKept.run_getObj_map hg,run_checkKey hk hik,run_findKey hk h1,hj',he,run_keyThatStays hik,run_setObj_map _ hg,Result.andThen]
  ·intro e hem
   rcases MapFrom.mem_modify hem with h | ⟨e',_,rfl⟩
   ·exact hl e h
   ·exact ⟨_,rfl⟩
  ·intro q
   rw [Array.toList_modify,h2 v q]
 ·refine fin (a.push { key:=k.val,val:=v,born:=c }) (c+1) ?_ ?_ ?_
  ·simp [Instr.mapUpdate,run_underlying hm,MapKept.run_getObj_map hg,run_checkKey hk hik,run_findKey hk h1,run_setObj_map _ hg,Result.andThen]
  ·intro e hem
   simp only [Array.toList_push,List.mem_append,List.mem_singleton] at hem
   rcases hem with hem | rfl
   ·exact hl e hem
   ·exact ⟨_,rfl⟩
  ·intro q
   rw [Array.toList_push,h3 v q c]
theorem WO.CJ {Q:Exit->Act->World->Prop} {l rest:List Oper} {pos:String} {af:Array Edge} {v:Value} (hx:ev F x=some (.map (some g))) (hy:ev F y=some k.val) (hv:ev F z' = some v) (hm:P.underlying t=some (.map kt et)) (hk:P.underlying kt=some .string) (hg:w.heap[g]? = some (.map a c)) (hl:∀ e ∈ a.toList,∃ s,e.key = .string s)
  (kk:∀ w' a' c',Kp [g] w w' -> w'.heap[g]? = some (.map a' c')->(∀ e ∈ a'.toList,∃ s,e.key = .string s)->(∀ q,getS q a'.toList=if q=k then some v else getS q a.toList)->WO P Q n l rest F w'):WO P Q n l (⟨none,.mapUpdate t x y z',ty,pos,af,none⟩ :: rest) F w:=by
 obtain ⟨w',a',c',h1,h2,h3,h4,h5⟩:=_root_.Go.Proofs.YtagpmhlokhoanaaDoor.CJ (P:=P) (n:=n) (F:=F) (w:=w) (ty:=ty) hx hy hv hm hk hg hl
 exact WO.s h1 (kk w' a' c' h2 h3 h4 h5)
end
def kindK:Nat->Str->Option Int
 | 0,_=>none
 | k+1,s=>if s=cb.getD k ⟨[]⟩/\¬ cb.getD k ⟨[]⟩=⟨[]⟩ then some k else kindK k s
def jF:Str->Option Int:=kindK 10
theorem oA:∀ (k:Nat) (s:Str) (n:Int),k<=10->kindK k s=some n->0<=n/\n<k
 | 0,_,_,_,h=>by cases h
 | k+1,s,n,hk,h=>by
  unfold kindK at h
  split at h
  ·cases h; omega
  ·have:=oA k s n (by omega) h; omega
def mL:List Value:=cb.map Str.val
structure KJ (w:World) (k:Nat) (w':World):Prop where
 le:k<=10
 kp:Kp [] w w'
 mp:∃ a c,w'.heap[w.heap.size]? = some (.map a c)/\(∀ e ∈ a.toList,∃ s,e.key = .string s)/\∀ s,getS s a.toList=(kindK k s).map (.int .i64)
theorem wJ {i:Nat} (w:World) (o:Obj) (h:i<w.heap.size):(w.alloc o).heap[i]? = w.heap[i]?:=(Kp.alloc w o).block i h (by simp)
set_option maxRecDepth 100000 in
theorem tu {w:World} {t:TypeId} {fr:Nat × Nat} (h0:w.heap[0]? = some (.cells (List.toArray mL) t fr)):mj Tryd.prog 44 #[] w fun r w'=>r = .map (some w.heap.size)/\KJ w 10 w':=by
 refine mj.enter (args:=[]) Tryd.func44 rfl Tryd.ntmps44 rfl rfl ?_
 refine WC.seq (WC.region (WO.v (R.assign rfl) rfl (WO.nil (WX.next ?_))))
 refine WC.seq (WC.region (WO.v R.la rfl (WO.v (R.assign rfl) rfl (WO.nil (WX.next ?_)))))
 refine WC.seq (WC.seq (WC.region (WO.v (R.wK (a:=⟨0,0,none⟩) rfl Tryd.underlying45 rfl (by kernel_rfl) (bh (cells:=mL) (sp:=[]) (by rw [List.append_nil]; exact (wJ w _ (Array.getElem?_eq_some_iff.1 h0).1).trans h0))) rfl (WO.v (R.move rfl) rfl (WO.nil (WX.next (WC.block ?_)))))))
 refine WC.Em (fun k:Nat=>[(1,.map (some w.heap.size)),(5,.agg (List.toArray mL)),(6,.int .i64 (k:Int))]) (fun k w'=>KJ w k w') (fun k=>10 - k) 0 (Has.look ⟨⟨_,rfl,rfl⟩,⟨_,rfl,rfl⟩,⟨_,rfl,rfl⟩,trivial⟩) ⟨by omega,Kp.alloc w _,#[],0,heap_alloc_new w _,by simp,fun s=>rfl⟩ fun k w' hJ=>?_
 refine WC.seq (WC.region (WO.v (R.lss rfl rfl) rfl (WO.nil (WX.next ?_))))
 refine WC.seq (WC.cond (b:=decide ((k:Int)<10)) rfl (fun hk=>WC.skip (WX.next ?_)) (fun hk=>WC.exit (WX.xN (WX.vY (WX.BW (WX.next ?_))))))
 ·have hk:(k:Int)<10:=of_decide_eq_true hk
  obtain ⟨a,c,hm,hkeys,hval⟩:=hJ.mp
  have hx:mL[k]? = some (cb.getD k ⟨[]⟩).val:=by
   have:k<cb.length:=by show k<10; omega
   rw [mL,List.getElem?_map,List.getD_eq_getElem?_getD,List.getElem?_eq_getElem this]; rfl
  refine WC.seq (WC.block ?_)
  refine WC.seq (WC.region (WO.v (R.move rfl) rfl (WO.v (R.ej rfl rfl Tryd.underlying45 Tryd.underlying9 rfl (by kernel_rfl) (by omega) hx) rfl (WO.v (R.assign rfl) rfl (WO.v (R.assign rfl) rfl (WO.nil (WX.next ?_)))))))
  refine WC.seq (WC.region (WO.v (R.move rfl) rfl (WO.v (R.FD (b:=⟨[]⟩) rfl rfl) rfl (WO.nil (WX.next ?_)))))
  refine WC.cond (b:=!decide (cb.getD k ⟨[]⟩=⟨[]⟩)) rfl (fun hv=>?_) (fun hv=>WC.skip (WX.mM (WX.next ?_)))
  ·have hv:¬ cb.getD k ⟨[]⟩=⟨[]⟩:=by simpa using hv
   refine WC.region (WO.v (R.move rfl) rfl (WO.v (R.move rfl) rfl (WO.v (R.move rfl) rfl (WO.CJ rfl (k:=cb.getD k ⟨[]⟩) rfl rfl Tryd.underlying72 Tryd.underlying9 hm hkeys fun w2 a2 c2 h2 h3 h4 h5=>WO.nil (WX.mM (WX.next ?_))))))
   refine WC.region (WO.v (R.Ek (b:=1) rfl rfl (by omega)) rfl (WO.v (R.move rfl) rfl (WO.nil (WX.qH (k+1) ⟨⟨_,rfl,rfl⟩,⟨_,rfl,rfl⟩,⟨_,rfl,rfl⟩,trivial⟩ ⟨by omega,?_,a2,c2,h3,h4,fun q=>?_⟩ (by omega)))))
   ·exact ⟨h2.os.trans hJ.kp.os,h2.tape.trans hJ.kp.tape,h2.output.trans hJ.kp.output,Nat.le_trans hJ.kp.size h2.size,fun b hb _=>(h2.block b (Nat.lt_of_lt_of_le hb hJ.kp.size) (by simp; omega)).trans (hJ.kp.block b hb (by simp))⟩
   ·rw [h5 q,hval q,kindK]
    by_cases hq:q=cb.getD k ⟨[]⟩
    ·rw [if_pos hq,if_pos ⟨hq,hv⟩]; rfl
    ·rw [if_neg hq,if_neg fun h=>hq h.1]
  ·have hv:cb.getD k ⟨[]⟩=⟨[]⟩:=by simpa using hv
   refine WC.region (WO.v (R.Ek (b:=1) rfl rfl (by omega)) rfl (WO.v (R.move rfl) rfl (WO.nil (WX.qH (k+1) ⟨⟨_,rfl,rfl⟩,⟨_,rfl,rfl⟩,⟨_,rfl,rfl⟩,trivial⟩ ⟨by omega,hJ.kp,a,c,hm,hkeys,fun q=>?_⟩ (by omega)))))
   rw [hval q,kindK,if_neg fun h=>h.2 hv]
 ·have hk':k=10:=by have:=hJ.le; simp at hk; omega
  subst hk'
  refine WC.seq (WC.region (WO.v (R.move rfl) rfl (WO.v (R.assign rfl) rfl (WO.nil (WX.next ?_)))))
  exact WC.ret (WX.GL Tryd.results44 rfl ⟨rfl,hJ⟩)
theorem tP:Sat Tryd.prog (aj aP) 44 [] [] ⟨[],[.c (.xx (.fm jF) [])],none,false⟩:=by
 refine ⟨⟨_,Tryd.func44,by decide,by kernel_rfl⟩,fun G ρ w vs hG hR hvs=>?_⟩
 cases hvs
 obtain ⟨_,_,_,_,cells,t,fr,h5,h6⟩:=hR.tb.2 ⟨0,.str,cb⟩ (by simp [qY])
 have hc:cells=mL:=gj h6
 subst hc
 refine (tu h5).mono fun r w' ⟨hr,hJ⟩=>⟨[r],rfl,hJ.kp,.cons ?_ .nil⟩
 obtain ⟨a,c,hm,hk,hv⟩:=hJ.mp
 subst hr
 have hlt:=(Array.getElem?_eq_some_iff.1 hm).1
 refine ⟨[],.nil,rfl,w.heap.size,a,c,rfl,⟨hlt,fun ⟨i,r,e1,e2⟩=>by have:=(hR.bnd i r _ e1 e2).2.1; omega,fun hz=>by have:=hR.z _ hz; omega⟩,hm,hk,fun s=>⟨hv s,fun n hn=>?_⟩⟩
 have:=oA 10 s n (by omega) hn
 exact ⟨by omega,by omega⟩
end Go.Proofs.YtagpmhlokhoanaaDoor
namespace Go.Proofs.YtagpmhlokhoanaaDoor
open Go.RowKit
theorem Cd {n:Int} (h1:-9223372036854775808<=n) (h2:n<=9223372036854775807):I64 n:=⟨h1,h2⟩
theorem bg {α:Type} {l:List α} {k:Nat} {d:α} (h:k<l.length):l[k]? = some (l.getD k d):=by
 rw [List.getD_eq_getElem?_getD,List.getElem?_eq_getElem h]; rfl
theorem lO {α:Type} {l:List α} {k:Nat} {x:α} (hx:l[k]? = some x):l.take (k+1)=l.take k++[x]:=by
 rw [List.take_add_one,hx]; rfl
theorem Du {a b:List Int} {k:Nat} {d:Int} (h:a.take k=b.take k) (ha:(k:Int)<a.length) (hb:a.length=b.length) (e:a.getD k d=b.getD k d):a.take (k+1)=b.take (k+1):=by
 have h1:=bg (l:=a) (k:=k) (d:=d) (by omega)
 have h2:=bg (l:=b) (k:=k) (d:=d) (by omega)
 rw [lO h1,lO h2,h,e]
theorem Dg {a b:List Int} {k:Nat} {d:Int} (_:a.take k=b.take k) (ha:(k:Int)<a.length) (hb:a.length=b.length) (e:¬ a.getD k d=b.getD k d):false=decide (a=b):=by
 symm; rw [decide_eq_false_iff_not]; rintro rfl; exact e rfl
theorem BZ {a b:List Int} {k:Nat} (h:a.take k=b.take k) (ha:(a.length:Int)<=k) (hb:a.length=b.length):true=decide (a=b):=by
 symm; rw [decide_eq_true_eq,<- List.take_of_length_le (show a.length<=k by omega),<- List.take_of_length_le (show b.length<=k by omega)]; exact h
theorem BA {a b:List Int} (h:¬ (a.length:Int)=b.length):false=decide (a=b):=by
 symm; rw [decide_eq_false_iff_not]; rintro rfl; exact h rfl
def dy (e:Event):Event:={ e with c:={ e.c with chunks:=e.c.chunks.take 20,text:=⟨e.c.text.b.take 40⟩ } }
def addO (l:List Int) (ok:Bool):Bool:=ok && l.all okN
theorem Dj {c:Command}:(decide (c.kind=0) && decide (c.client=0) && decide (c.seq=0) && decide (c.set=0) && decide (c.id=0) && decide (c.n=0) && decide ((c.chunks.length:Int)=0) && decide (c.text=⟨[]⟩))=cj c:=by
 have h:(decide ((c.chunks.length:Int)=0))=decide (c.chunks=[]):=by
  rw [decide_eq_decide]
  constructor
  ·intro h; exact List.eq_nil_of_length_eq_zero (by omega)
  ·intro h; rw [h]; rfl
 rw [h]; rfl
section
variable {l:List Int} {wds:List Str} {ok:Bool} {k:Nat} {x:Int}
theorem HM:ok=addO (l.take 0) ok:=by simp [addO]
theorem Hl:wds=wds++(l.take 0).map ag:=by simp
theorem HD (h:wds.length+l.length<=1000):((wds++(l.take k).map ag).length+[ag x].length)*16<=140737488355328:=by
 rw [List.length_append,List.length_map,List.length_take,List.length_singleton]; omega
theorem HG (hx:l[k]? = some x):(addO (l.take k) ok && decide (0<=x) && decide (x<=1048576))=addO (l.take (k+1)) ok:=by
 rw [lO hx,addO,addO,List.all_append]; simp [okN,Bool.and_assoc]
theorem HE (hx:l[k]? = some x):wds++(l.take k).map ag++[ag x]=wds++(l.take (k+1)).map ag:=by
 rw [lO hx,List.map_append,List.append_assoc]; rfl
theorem HL (h:(l.length:Int)<=k):addO (l.take k) ok=addO l ok:=by rw [List.take_of_length_le (by omega)]
theorem Gx (h:(l.length:Int)<=k):wds++(l.take k).map ag=wds++l.map ag:=by rw [List.take_of_length_le (by omega)]
end
theorem qW {s:Str} {n:Nat} (h:(s.b.length:Int)<=n):s=⟨s.b.take n⟩:=by
 cases s; rw [List.take_of_length_le (by simpa using h)]
theorem xD {l:List Int} {n:Nat} (h:(l.length:Int)<=n):l=l.take n:=by rw [List.take_of_length_le (by omega)]
theorem EV {c:UInt8}:(UInt8.ofNat (c.toNat / 2 ^ 4)).toNat=c.toNat / 16:=by
 have:=c.toNat_lt
 rw [UInt8.toNat_ofNat',Nat.mod_eq_of_lt (by omega)]
theorem Bt {c:UInt8}:(c &&& 15).toNat=c.toNat % 16:=by
 rw [UInt8.toNat_and,show (15:UInt8).toNat=2 ^ 4 - 1 from rfl,Nat.and_two_pow_sub_one_eq_mod]
section
variable {s:Str} {k:Nat} {c:UInt8}
theorem Io (h:s=⟨[]⟩):Str.mk [45]=⟨aJ s.b⟩:=by rw [h]; rfl
theorem ID:((UInt8.ofNat (c.toNat / 2 ^ 4)).toNat:Int)<(([48,49,50,51,52,53,54,55,56,57,97,98,99,100,101,102]:List UInt8).length:Int):=by
 have:=c.toNat_lt
 rw [EV]; show _<(16:Int); omega
theorem Iy:((c &&& UInt8.ofNat 15).toNat:Int)<(([48,49,50,51,52,53,54,55,56,57,97,98,99,100,101,102]:List UInt8).length:Int):=by
 rw [show (UInt8.ofNat 15)=15 from rfl,Bt]; show _<(16:Int); omega
theorem eO:∀ (l:List UInt8),(l.flatMap bW).length=2*l.length
 | []=>rfl
 | c :: l=>by rw [List.flatMap_cons,List.length_append,eO l]; simp [bW]; omega
theorem Iw {x y:UInt8} (h:s.b.length<=1000):(((s.b.take k).flatMap bW).length+[x,y].length)*1<=140737488355328:=by
 rw [eO,List.length_take]; simp; omega
theorem IB (h:(k:Int)<(s.b.length:Int)):(s.b.take k).flatMap bW++[([48,49,50,51,52,53,54,55,56,57,97,98,99,100,101,102]:List UInt8).getD (UInt8.ofNat ((s.b.getD k 0).toNat / 2 ^ 4)).toNat 0,([48,49,50,51,52,53,54,55,56,57,97,98,99,100,101,102]:List UInt8).getD (s.b.getD k 0 &&& UInt8.ofNat 15).toNat 0]=(s.b.take (k+1)).flatMap bW:=by
 rw [lO (bg (d:=(0:UInt8)) (show k<s.b.length by omega)),List.flatMap_append,EV,show (UInt8.ofNat 15)=15 from rfl,Bt]
 rfl
theorem Iz:(s.b.take 0).flatMap bW=[]:=rfl
theorem Ii (h:¬ s=⟨[]⟩) (hk:(s.b.length:Int)<=k):Str.mk ((s.b.take k).flatMap bW)=⟨aJ s.b⟩:=by
 rw [List.take_of_length_le (by omega),aJ,if_neg]
 intro h2; apply h; cases s; simp only at h2; rw [h2]
end
theorem Cz (n:Int):Sat Tryd.prog (aj aP) 23 [.c (.int (n))] [] ⟨[],[.c (.str ((ag n)))],none,false⟩:=wo n
theorem Cb (sep:Str) (l:List Str) (h0:(Lib.join (l.map (·.b)) sep.b).length<=140737488355328):Sat Tryd.prog (aj aP) 27 [.c (.own 0),.c (.str (sep))] [.row 9 .str (l)] ⟨[(Lib.join (l.map (·.b)) sep.b).length<=140737488355328],[.c (.str ((⟨Lib.join (l.map (·.b)) sep.b⟩)))],some ([.row 9 .str ((l))]),true⟩:=wL l sep h0
def oI:cG:=(dr 27 (cV (aA (kC (pP 0)) (aA (kC cS) br)) (bM (pL 9 .str) bt) fun (_,sep,_) (l,_)=>⟨[(Lib.join (l.map (·.b)) sep.b).length<=140737488355328],[.c (.str ((⟨Lib.join (l.map (·.b)) sep.b⟩)))],some ([.row 9 .str ((l))]),true⟩) (dr 23 (cV (aA (kC cI) br) bt fun (n,_) (_)=>⟨[],[.c (.str ((ag n)))],none,false⟩) Fi))
theorem eI:aZ Tryd.prog (aj aP) oI:=(aD (aE (ae (aH fI) (ae (aH cq) aq)) (aM fR au) fun (_,sep,_) (l,_) hp=>Cb sep l (ot hp)) (aD (aE (ae (aH bn) aq) au fun (n,_) (_) _=>Cz n ) AB))
def AU (s:Str):List (Nat × LI):=[(5,{ σ:=Nat,F:=fun k=>([(0,one (.str (s))),(3,one (.own 0)),(8,one (.int s.b.length)),(9,one (.int k))],[.row 5 .u8 (((s.b.take k).flatMap bW))]),J:=fun k=>k<=s.b.length,μ:=fun k=>s.b.length - k })]
def EW (l:List Int) (ok:Bool) (wds:List Str):List (Nat × LI):=[(1,{ σ:=Nat,F:=fun k=>([(1,one (.ptr 0 0)),(2,one (.ptr 1 0)),(6,one (.fz .int (l))),(7,one (.int (l).length)),(8,one (.int k))],[.box 4 ([.bool (.atom ((addO (l.take k) ok)))]),.box 46 ([.own 2]),.row 9 .str ((wds++(l.take k).map ag))]),J:=fun k=>k<=l.length,μ:=fun k=>(l).length - k })]
def AW (a:List Int) (b:List Int):List (Nat × LI):=[(4,{ σ:=Nat,F:=fun k=>([(0,one (.fz .int (a))),(1,one (.fz .int (b))),(5,one (.int k))],[]),J:=fun k=>k<=a.length/\a.length=b.length/\a.take k=b.take k,μ:=fun k=>a.length - k })]
theorem vm (k:Int) (r0:Bool):fW aP oI [] Tryd.f24 [.c (.int (k))] [] [.c (.bool (.atom (r0)))]=(I64 k->(decide (k=(7:Int)) || decide (k=(8:Int)) || decide (k=(9:Int)))=r0):=by kernel_rfl
theorem vG (k:Int):Sat Tryd.prog (aj aP) 24 [.c (.int (k))] [] ⟨[],[.c (.bool (.atom ((bl k))))],none,false⟩:=by
 refine bB eI [] Tryd.func24 (by decide) (by kernel_rfl) ?_
 rw [vm]
 grind [bl]
theorem za (c:Command) (r0:Bool):fW aP oI [] Tryd.f25 [.agg (cellsOf (.nm .command) c)] [] [.c (.bool (.atom (r0)))]=((fun (q0:Int)=>I64 c.kind->I64 c.client->I64 c.seq->I64 c.set->I64 c.id->I64 c.n->c.chunks.length*(8:Nat)<=(140737488355328:Nat)->c.text.b.length<=(140737488355328:Nat)->(decide (c.kind=q0) && decide (c.client=q0) && decide (c.seq=q0) && decide (c.set=q0) && decide (c.id=q0) && decide (c.n=q0) && decide ((↑c.chunks.length:Int)=q0) && decide (c.text=Str.mk []))=r0) (0:Int)):=by kernel_rfl
theorem yA (c:Command):Sat Tryd.prog (aj aP) 25 [.agg (cellsOf (.nm .command) c)] [] ⟨[],[.c (.bool (.atom ((cj c))))],none,false⟩:=by
 refine bB eI [] Tryd.func25 (by decide) (by kernel_rfl) ?_
 rw [za]
 (repeat' (first | with_reducible apply dW | with_reducible refine dY ?_ | intro))
 all_goals (first | exact ga | exact Dj)
theorem CS (s:Str) (r0:Str):fW aP oI (AU s) Tryd.f26 [.c (.str (s))] [] [.c (.str (r0))]=((fun (q4:UInt8)=>(fun (q3:Nat)=>(fun (q2:UInt8)=>(fun (q1:Nat)=>(fun (q0:List UInt8)=>q1<=(140737488355328:Nat)->(s=Str.mk []->Str.mk [(45:UInt8)]=r0)/\(¬s=Str.mk []->∃ (s0:Nat),(fun (q5:Int)=>(s=s/\q5=q5/\(0:Int)=(↑s0:Int)/\List.flatMap bW (List.take s0 s.b)=[])/\s0<=q1/\∀ (s_1:Nat),(fun (q9:List (den Sh.u8))=>(fun (q8:Prop)=>(fun (q7:Nat)=>(fun (q6:Nat)=>s_1<=q1->((↑s_1:Int)<q5->q8/\(4:Nat)<(8:Nat)/\((0:Int)<=(↑q6:Int)/\(↑q6:Int)<(↑q0.length:Int))/\q8/\((0:Int)<=(↑q7:Int)/\(↑q7:Int)<(↑q0.length:Int))/\(q9.length+[q0.getD q6 q2,q0.getD q7 q2].length)*(1:Nat)<=(140737488355328:Nat)/\I64 ((↑s_1:Int)+(1:Int))/\∃ (s':Nat),(s=s/\q5=q5/\(↑s_1:Int)+(1:Int)=(↑s':Int)/\q9++[q0.getD q6 q2,q0.getD q7 q2]=List.flatMap bW (List.take s' s.b))/\s' <= q1/\q1 - s' < q1 - s_1)/\(q5<=(↑s_1:Int)->Str.mk q9=r0)) (UInt8.ofNat ((s.b.getD s_1 q2).toNat / q3)).toNat) (s.b.getD s_1 q2 &&& q4).toNat) ((0:Int)<=(↑s_1:Int)/\(↑s_1:Int)<q5)) (List.flatMap bW (List.take s_1 s.b))) (↑q1:Int))) [(48:UInt8),(49:UInt8),(50:UInt8),(51:UInt8),(52:UInt8),(53:UInt8),(54:UInt8),(55:UInt8),(56:UInt8),(57:UInt8),(97:UInt8),(98:UInt8),(99:UInt8),(100:UInt8),(101:UInt8),(102:UInt8)]) s.b.length) (0:UInt8)) ((2:Nat) ^ (4:Nat))) (UInt8.ofNat (15:Nat))):=by kernel_rfl
theorem CF (s:Str) (h0:s.b.length<=1000):Sat Tryd.prog (aj aP) 26 [.c (.str (s))] [] ⟨[s.b.length<=1000],[.c (.str ((⟨aJ s.b⟩)))],none,false⟩:=by
 refine bB eI (AU s) Tryd.func26 (by decide) (by kernel_rfl) ?_
 rw [CS]
 iterate 3 ((all_goals (repeat' (first | with_reducible apply dW | with_reducible refine dY ?_ | intro))); (all_goals try (first | exact ga | exact Iz | exact (Io ab) | with_reducible exact ID | with_reducible exact Iy | with_reducible exact (Iw h0) | with_reducible exact (IB ab) | with_reducible exact (Ii ab ab))); all_goals try first | refine ⟨‹Nat› + 1,?_⟩ | refine ⟨0,?_⟩)
theorem EZ (l:List Int) (ok:Bool) (wds:List Str) (r0:Bool) (r1:List Str):AX aP oI (EW l ok wds) Tryd.f22 [.c (.fz .int (l)),.c (.ptr 0 0),.c (.ptr 1 0)] [.box 4 ([.bool (.atom (ok))]),.box 46 ([.own 2]),.row 9 .str (wds)] [] [.box 4 ([.bool (.atom (r0))]),.box 46 ([.own 2]),.row 9 .str (r1)]=((fun (q0:Nat)=>l.length*(8:Nat)<=(140737488355328:Nat)->∃ (s0:Nat),(l=l/\(↑l.length:Int)=(↑q0:Int)/\(0:Int)=(↑s0:Int)/\ok=addO (List.take s0 l) ok/\wds=wds++List.map ag (List.take s0 l))/\s0<=q0/\∀ (s:Nat),(fun (q1:List Str)=>s<=q0->((↑s:Int)<(↑q0:Int)->(0:Int)<=(↑s:Int)/\(↑s:Int)<(↑l.length:Int)/\∀ (x:Int),l[s]? = some x->I64 x->((ag x).b.length<=(140737488355328:Nat)->(q1.length+[ag x].length)*(16:Nat)<=(140737488355328:Nat))/\((ag x).b.length<=(140737488355328:Nat)->I64 ((↑s:Int)+(1:Int))/\∃ (s':Nat),(l=l/\(↑q0:Int)=(↑q0:Int)/\(↑s:Int)+(1:Int)=(↑s':Int)/\(addO (List.take s l) ok && decide ((0:Int)<=x) && decide (x<=(1048576:Int)))=addO (List.take s' l) ok/\q1++[ag x]=wds++List.map ag (List.take s' l))/\s' <= q0/\q0 - s' < q0 - s))/\((↑q0:Int)<=(↑s:Int)->addO (List.take s l) ok=r0/\q1=r1)) (wds++List.map ag (List.take s l))) l.length):=by kernel_rfl
theorem Fg (l:List Int) (ok:Bool) (wds:List Str) (h0:wds.length+l.length<=1000):Sat Tryd.prog (aj aP) 22 [.c (.fz .int (l)),.c (.ptr 0 0),.c (.ptr 1 0)] [.box 4 ([.bool (.atom (ok))]),.box 46 ([.own 2]),.row 9 .str (wds)] ⟨[wds.length+l.length<=1000],[],some ([.box 4 ([.bool (.atom ((addO l ok)))]),.box 46 ([.own 2]),.row 9 .str ((wds++l.map ag))]),false⟩:=by
 refine kL eI (EW l ok wds) Tryd.func22 (by decide) (by kernel_rfl) ?_
 rw [EZ]
 iterate 3 ((all_goals (repeat' (first | with_reducible apply dW | with_reducible refine dY ?_ | intro))); (all_goals try (first | exact ga | exact rfl | exact HM | exact Hl | exact (HD (by assumption)) | exact (HG ab) | exact (HE ab) | exact (HL ab) | exact (Gx ab))); all_goals try first | refine ⟨‹Nat› + 1,?_⟩ | refine ⟨0,?_⟩)
theorem CW (a:List Int) (b:List Int) (r0:Bool):fW aP oI (AW a b) Tryd.f43 [.c (.fz .int (a)),.c (.fz .int (b))] [] [.c (.bool (.atom (r0)))]=((fun (q1:Nat)=>(fun (q0:Int)=>a.length*(8:Nat)<=(140737488355328:Nat)->b.length*(8:Nat)<=(140737488355328:Nat)->(¬q0=(↑b.length:Int)->false=r0)/\(q0=(↑b.length:Int)->∃ (s0:Nat),(a=a/\b=b/\(0:Int)=(↑s0:Int))/\(s0<=q1/\q1=b.length/\List.take s0 a=List.take s0 b)/\∀ (s:Nat),(fun (q2:Prop)=>s<=q1/\q1=b.length/\List.take s a=List.take s b->((↑s:Int)<q0->(0:Int)<=(↑s:Int)/\(↑s:Int)<q0/\(0:Int)<=(↑s:Int)/\(↑s:Int)<(↑b.length:Int)/\(I64 (a.getD s (az Sh.int))->I64 (b.getD s (az Sh.int))->(¬q2->false=r0)/\(q2->I64 ((↑s:Int)+(1:Int))/\∃ (s':Nat),(a=a/\b=b/\(↑s:Int)+(1:Int)=(↑s':Int))/\(s' <= q1/\q1=b.length/\List.take s' a=List.take s' b)/\q1 - s' < q1 - s)))/\(q0<=(↑s:Int)->true=r0)) (a.getD s (az Sh.int)=b.getD s (az Sh.int)))) (↑a.length:Int)) a.length):=by kernel_rfl
theorem Cp (a:List Int) (b:List Int):Sat Tryd.prog (aj aP) 43 [.c (.fz .int (a)),.c (.fz .int (b))] [] ⟨[],[.c (.bool (.atom ((decide (a=b)))))],none,false⟩:=by
 refine bB eI (AW a b) Tryd.func43 (by decide) (by kernel_rfl) ?_
 rw [CW]
 iterate 3 ((all_goals (repeat' (first | with_reducible apply dW | with_reducible refine dY ?_ | intro))); (all_goals try (first | exact ga | exact rfl | exact (Du ab ab ab ab) | exact (Dg ab ab ab ab) | exact (BZ ab ab ab) | exact (BA ab))); all_goals try first | refine ⟨‹Nat› + 1,?_⟩ | refine ⟨0,?_⟩)
theorem zi (e:Event) (r0:Event):fW aP oI [] Tryd.f9 [.agg (cellsOf (.nm .event) e)] [] [.agg (cellsOf (.nm .event) r0)]=((fun (q6:Prop)=>(fun (q5:Prop)=>(fun (q4:Int)=>(fun (q3:Prop)=>(fun (q2:Command)=>(fun (q1:Command)=>(fun (q0:Int)=>I64 e.kind->I64 e.a->I64 e.b->I64 q2.kind->I64 q2.client->I64 q2.seq->I64 q2.set->I64 q2.id->I64 q2.n->q2.chunks.length*(8:Nat)<=(140737488355328:Nat)->q2.text.b.length<=(140737488355328:Nat)->((20:Int)<(↑q2.chunks.length:Int)->(0:Int)<=(20:Int)/\(20:Int)<=(↑q2.chunks.length:Int)/\(q4<q0->(0:Int)<=q4/\q4<=q0/\q3/\q5/\q6/\q2.kind=q1.kind/\q2.client=q1.client/\q2.seq=q1.seq/\q2.set=q1.set/\q2.id=q1.id/\q2.n=q1.n/\List.take (20:Nat) q2.chunks=q1.chunks/\Str.mk (List.take (40:Nat) q2.text.b)=q1.text)/\(q0<=q4->q3/\q5/\q6/\q2.kind=q1.kind/\q2.client=q1.client/\q2.seq=q1.seq/\q2.set=q1.set/\q2.id=q1.id/\q2.n=q1.n/\List.take (20:Nat) q2.chunks=q1.chunks/\q2.text=q1.text))/\((↑q2.chunks.length:Int)<=(20:Int)->(q4<q0->(0:Int)<=q4/\q4<=q0/\q3/\q5/\q6/\q2.kind=q1.kind/\q2.client=q1.client/\q2.seq=q1.seq/\q2.set=q1.set/\q2.id=q1.id/\q2.n=q1.n/\q2.chunks=q1.chunks/\Str.mk (List.take (40:Nat) q2.text.b)=q1.text)/\(q0<=q4->q3/\q5/\q6/\q2.kind=q1.kind/\q2.client=q1.client/\q2.seq=q1.seq/\q2.set=q1.set/\q2.id=q1.id/\q2.n=q1.n/\q2.chunks=q1.chunks/\q2.text=q1.text))) (↑q2.text.b.length:Int)) r0.c) e.c) (e.kind=r0.kind)) (40:Int)) (e.a=r0.a)) (e.b=r0.b)):=by kernel_rfl
theorem yK (e:Event):Sat Tryd.prog (aj aP) 9 [.agg (cellsOf (.nm .event) e)] [] ⟨[],[.agg (cellsOf (.nm .event) (dy e))],none,false⟩:=by
 refine bB eI [] Tryd.func9 (by decide) (by kernel_rfl) ?_
 rw [zi]
 (repeat' (first | with_reducible apply dW | with_reducible refine dY ?_ | intro))
 all_goals (first | exact ga | exact rfl | exact (qW bY) | exact (xD bY) | exact (qW bY).symm | exact (xD bY).symm)
def z_:cG:=(dr 9 (cV (aA (kT (.nm .event)) br) bt fun (e,_) (_)=>⟨[],[.agg (cellsOf (.nm .event) (dy e))],none,false⟩) (dr 43 (cV (aA (kC (cL .int)) (aA (kC (cL .int)) br)) bt fun (a,b,_) (_)=>⟨[],[.c (.bool (.atom ((decide (a=b)))))],none,false⟩) (dr 22 (cV (aA (kC (cL .int)) (aA (kC (fv 0 0)) (aA (kC (fv 1 0)) br))) (bM (dV 4 (aG cB ea)) (bM (dV 46 (aG (pP 2) ea)) (bM (pL 9 .str) bt))) fun (l,_,_,_) ((ok,_),(_,_),wds,_)=>⟨[wds.length+l.length<=1000],[],some ([.box 4 ([.bool (.atom ((addO l ok)))]),.box 46 ([.own 2]),.row 9 .str ((wds++l.map ag))]),false⟩) (dr 26 (cV (aA (kC cS) br) bt fun (s,_) (_)=>⟨[s.b.length<=1000],[.c (.str ((⟨aJ s.b⟩)))],none,false⟩) (dr 25 (cV (aA (kT (.nm .command)) br) bt fun (c,_) (_)=>⟨[],[.c (.bool (.atom ((cj c))))],none,false⟩) (dr 24 (cV (aA (kC cI) br) bt fun (k,_) (_)=>⟨[],[.c (.bool (.atom ((bl k))))],none,false⟩) oI))))))
theorem mZ:aZ Tryd.prog (aj aP) z_:=(aD (aE (ae jw aq) au fun (e,_) (_) _=>yK e ) (aD (aE (ae (aH dx) (ae (aH dx) aq)) au fun (a,b,_) (_) _=>Cp a b ) (aD (aE (ae (aH dx) (ae (aH bQ) (ae (aH bQ) aq))) (aM (bk (ah qy bm)) (aM (bk (ah fI bm)) (aM fR au))) fun (l,_,_,_) ((ok,_),(_,_),wds,_) hp=>Fg l ok wds (ot hp)) (aD (aE (ae (aH cq) aq) au fun (s,_) (_) hp=>CF s (ot hp)) (aD (aE (ae jw aq) au fun (c,_) (_) _=>yA c ) (aD (aE (ae (aH bn) aq) au fun (k,_) (_) _=>vG k ) eI))))))
theorem vC {l:List Int} {ok:Bool}:addO l ok=true↔ok=true/\l.all okN=true:=by simp [addO]
theorem bw {e:Event}:lineOk e=true↔1<=e.kind/\e.kind<10/\okN e.a=true/\(bl e.kind=true->okN e.b=true)/\(bl e.kind=false->e.b=0)/\(e.kind=6->(e.c.text.b.length:Int)<=16/\(e.c.chunks.length:Int)<=16/\(fb e.c).all okN=true/\e.c.chunks.all okN=true)/\(¬ e.kind=6->cj e.c=true):=by
 unfold lineOk
 rw [Bool.and_eq_true,Bool.and_eq_true,Bool.and_eq_true,Bool.and_eq_true,decide_eq_true_eq,decide_eq_true_eq]
 cases hs:bl e.kind <;> by_cases h6:e.kind=6 <;> (first | rw [if_pos h6] | rw [if_neg h6]) <;> simp only [Bool.and_eq_true,decide_eq_true_eq,if_true,if_false,Bool.false_eq_true] <;> constructor <;> intro h <;> simp_all <;> omega
section
variable {e:Event}
theorem xU (h:¬ lineOk e=true):Str.mk []=ao e:=by rw [ao,if_neg h]
theorem qT (h:¬ lineOk e=true):(1:Int)=ax e:=by rw [ax,if_neg h]
theorem BY {ws:List Str} (h:lineOk e=true) (hw:aF e=ws):Str.mk (Lib.join (ws.map fun (x:den Sh.str)=>x.b) [32])=ao e:=by rw [ao,if_pos h,<- hw]; rfl
theorem mX (h:lineOk e=true):(0:Int)=ax e:=by rw [ax,if_pos h]
theorem oE:∀ {l:List (List UInt8)} {m:Nat},(∀ x ∈ l,x.length<=m)->(Lib.joinTail [32] l).length<=(m+1)*l.length
 | [],_,_=>Nat.le_refl _
 | x :: l,m,h=>by
  have h1:=h x (by simp)
  have h2:=oE (l:=l) (m:=m) fun y hy=>h y (by simp [hy])
  rw [tail_cons,List.length_cons,List.length_append,List.length_cons,Nat.mul_succ]; omega
theorem BN {l:List (List UInt8)} {m:Nat} (h:∀ x ∈ l,x.length<=m):(Lib.join l [32]).length<=(m+1)*l.length:=by
 cases l with
 | nil=>exact Nat.zero_le _
 | cons x l=>
  have h1:=h x (by simp)
  have h2:=oE (l:=l) (m:=m) fun y hy=>h y (by simp [hy])
  rw [Lib.join_cons,List.length_append,List.length_cons,Nat.mul_succ]; omega
theorem qx:∀ k:Fin 10,(cb.getD k.1 ⟨[]⟩).b.length<=40:=by decide
theorem pX {l:List UInt8} (h:l.length<=16):(aJ l).length<=40:=by
 unfold aJ
 split
 ·decide
 ·rw [eO]; omega
theorem gk {n:Int} (h:okN n=true):(ag n).b.length<=40:=by
 simp only [okN,Bool.and_eq_true,decide_eq_true_eq] at h
 have:=Lib.itoa_length_le n (by omega) (by omega)
 show (Lib.itoa n).length<=40; omega
theorem Dl {ws:List Str} (h:lineOk e=true) (hw:aF e=ws):(Lib.join (ws.map fun (x:den Sh.str)=>x.b) [32]).length<=140737488355328:=by
 subst hw
 obtain ⟨h1,h2,h3,h4,h5,h6,h7⟩:=bw.1 h
 have hl:(aF e).length<=40:=by
  unfold aF
  by_cases hk:e.kind=6
  ·have:=(h6 hk).2.1
   rw [if_pos hk]; simp only [List.length_append,List.length_map,fb]; split <;> simp <;> omega
  ·rw [if_neg hk]; split <;> simp
 have hx:∀ x ∈ (aF e).map (fun (x:den Sh.str)=>x.b),x.length<=40:=by
  intro x hx
  rw [List.mem_map] at hx
  obtain ⟨s,hs,rfl⟩:=hx
  simp only [aF,List.mem_append,List.mem_cons,List.not_mem_nil,or_false] at hs
  rcases hs with ((rfl | rfl) | hs) | hs
  ·exact qx ⟨e.kind.toNat,by omega⟩
  ·exact gk h3
  ·split at hs
   ·rw [List.mem_singleton] at hs; subst hs; exact gk (h4 (by assumption))
   ·cases hs
  ·split at hs
   ·obtain ⟨k1,k2,k3,k4⟩:=h6 (by assumption)
    simp only [List.mem_append,List.mem_map,List.mem_singleton] at hs
    rcases hs with (⟨n,hn,rfl⟩ | rfl) | ⟨n,hn,rfl⟩
    ·exact gk (List.all_eq_true.1 k3 n hn)
    ·exact pX bY
    ·exact gk (List.all_eq_true.1 k4 n hn)
   ·cases hs
 have:=BN hx
 rw [List.length_map] at this
 have:(40+1)*(aF e).length<=(40+1)*40:=Nat.mul_le_mul_left _ hl
 omega
end
theorem yx (a:Command) (b:Command) (r0:Bool):fW aP z_ [] Tryd.f28 [.agg (cellsOf (.nm .command) a),.agg (cellsOf (.nm .command) b)] [] [.c (.bool (.atom (r0)))]=(I64 a.kind->I64 a.client->I64 a.seq->I64 a.set->I64 a.id->I64 a.n->a.chunks.length*(8:Nat)<=(140737488355328:Nat)->a.text.b.length<=(140737488355328:Nat)->I64 b.kind->I64 b.client->I64 b.seq->I64 b.set->I64 b.id->I64 b.n->b.chunks.length*(8:Nat)<=(140737488355328:Nat)->b.text.b.length<=(140737488355328:Nat)->(decide (a.chunks=b.chunks) && decide (a.kind=b.kind) && decide (a.client=b.client) && decide (a.seq=b.seq) && decide (a.set=b.set) && decide (a.id=b.id) && decide (a.n=b.n) && decide (a.text=b.text))=r0):=by kernel_rfl
theorem yZ (a:Command) (b:Command):Sat Tryd.prog (aj aP) 28 [.agg (cellsOf (.nm .command) a),.agg (cellsOf (.nm .command) b)] [] ⟨[],[.c (.bool (.atom ((decide (a=b)))))],none,false⟩:=by
 refine bB mZ [] Tryd.func28 (by decide) (by kernel_rfl) ?_
 rw [yx]
 intros; cases a; cases b; simp only [Command.mk.injEq]; grind
theorem BP (e:Event) (r0:Str) (r1:Int):fW aP z_ [] Tryd.f10 [.agg (cellsOf (.nm .event) e)] [] [.c (.str (r0)),.c (.int (r1))]=((fun (q18:Bool)=>(fun (q17:Int)=>(fun (db:List (den Sh.int))=>(fun (q15:den Sh.str)=>(fun (q14:Prop)=>(fun (q13:Nat)=>(fun (q12:Int)=>(fun (q11:Prop)=>(fun (q10:Nat)=>(fun (q9:Nat)=>(fun (q8:Bool)=>(fun (q7:List Str)=>(fun (q6:Prop)=>(fun (q5:List Int)=>(fun (q4:List UInt8)=>(fun (q3:Prop)=>(fun (q2:List (den Sh.str))=>(fun (q1:List (den Sh.str))=>(fun (q0:List (den Sh.int))=>I64 q17->I64 e.a->I64 e.b->I64 e.c.kind->I64 e.c.client->I64 e.c.seq->I64 e.c.set->I64 e.c.id->I64 e.c.n->q5.length*(8:Nat)<=q10->q9<=q10->(q17<(1:Int)\/(10:Int)<=q17->q3)/\((1:Int)<=q17/\q17<(10:Int)->(0:Int)<=q17/\q17<(↑(10:Nat):Int)/\(q15.b.length<=q10->[q15].length+[e.a].length<=q13/\(bl q17=true->q1.length+db.length<=q13/\(¬q11->(addO db q8=false\/q18=false->q3)/\(addO db q8=true/\q18=true->(Lib.join (List.map (fun (x:den Sh.str)=>x.b) (q1++q7)) q4).length<=q10/\((Lib.join (List.map (fun (x:den Sh.str)=>x.b) (q1++q7)) q4).length<=q10->Str.mk (Lib.join (List.map (fun (x:den Sh.str)=>x.b) (q1++q7)) q4)=r0/\q14)))/\(q11->(q12<(↑q9:Int)\/q12<(↑q5.length:Int)->q3)/\((↑q9:Int)<=q12/\(↑q5.length:Int)<=q12->(q1++q7).length+q0.length<=q13/\q9<=q13/\(q6->((q1++q7++List.map ag q0).length+q2.length)*(16:Nat)<=q10)/\(q6->(q1++q7++List.map ag q0++q2).length+q5.length<=q13/\(addO q5 (addO q0 (addO db q8))=false->q3)/\(addO q5 (addO q0 (addO db q8))=true->(Lib.join (List.map (fun (x:den Sh.str)=>x.b) (q1++q7++List.map ag q0++q2++List.map ag q5)) q4).length<=q10/\((Lib.join (List.map (fun (x:den Sh.str)=>x.b) (q1++q7++List.map ag q0++q2++List.map ag q5)) q4).length<=q10->Str.mk (Lib.join (List.map (fun (x:den Sh.str)=>x.b) (q1++q7++List.map ag q0++q2++List.map ag q5)) q4)=r0/\q14))))))/\(bl q17=false->(¬e.b=(0:Int)->(¬q11->(false=false\/q18=false->q3)/\(false=true/\q18=true->(Lib.join (List.map (fun (x:den Sh.str)=>x.b) q1) q4).length<=q10/\((Lib.join (List.map (fun (x:den Sh.str)=>x.b) q1) q4).length<=q10->Str.mk (Lib.join (List.map (fun (x:den Sh.str)=>x.b) q1) q4)=r0/\q14)))/\(q11->(q12<(↑q9:Int)\/q12<(↑q5.length:Int)->q3)/\((↑q9:Int)<=q12/\(↑q5.length:Int)<=q12->q1.length+q0.length<=q13/\q9<=q13/\(q6->((q1++List.map ag q0).length+q2.length)*(16:Nat)<=q10)/\(q6->(q1++List.map ag q0++q2).length+q5.length<=q13/\(addO q5 (addO q0 false)=false->q3)/\(addO q5 (addO q0 false)=true->(Lib.join (List.map (fun (x:den Sh.str)=>x.b) (q1++List.map ag q0++q2++List.map ag q5)) q4).length<=q10/\((Lib.join (List.map (fun (x:den Sh.str)=>x.b) (q1++List.map ag q0++q2++List.map ag q5)) q4).length<=q10->Str.mk (Lib.join (List.map (fun (x:den Sh.str)=>x.b) (q1++List.map ag q0++q2++List.map ag q5)) q4)=r0/\q14))))))/\(e.b=(0:Int)->(¬q11->(q8=false\/q18=false->q3)/\(q8=true/\q18=true->(Lib.join (List.map (fun (x:den Sh.str)=>x.b) q1) q4).length<=q10/\((Lib.join (List.map (fun (x:den Sh.str)=>x.b) q1) q4).length<=q10->Str.mk (Lib.join (List.map (fun (x:den Sh.str)=>x.b) q1) q4)=r0/\q14)))/\(q11->(q12<(↑q9:Int)\/q12<(↑q5.length:Int)->q3)/\((↑q9:Int)<=q12/\(↑q5.length:Int)<=q12->q1.length+q0.length<=q13/\q9<=q13/\(q6->((q1++List.map ag q0).length+q2.length)*(16:Nat)<=q10)/\(q6->(q1++List.map ag q0++q2).length+q5.length<=q13/\(addO q5 (addO q0 q8)=false->q3)/\(addO q5 (addO q0 q8)=true->(Lib.join (List.map (fun (x:den Sh.str)=>x.b) (q1++List.map ag q0++q2++List.map ag q5)) q4).length<=q10/\((Lib.join (List.map (fun (x:den Sh.str)=>x.b) (q1++List.map ag q0++q2++List.map ag q5)) q4).length<=q10->Str.mk (Lib.join (List.map (fun (x:den Sh.str)=>x.b) (q1++List.map ag q0++q2++List.map ag q5)) q4)=r0/\q14)))))))))) [e.c.kind,e.c.client,e.c.seq,e.c.set,e.c.id,e.c.n]) ([q15]++List.map ag [e.a])) [Str.mk (aJ e.c.text.b)]) (Str.mk []=r0/\(1:Int)=r1)) [(32:UInt8)]) e.c.chunks) ((aJ e.c.text.b).length<=q10)) (List.map ag db)) (addO [e.a] true)) e.c.text.b.length) (140737488355328:Nat)) (q17=(6:Int))) (16:Int)) (1000:Nat)) ((0:Int)=r1)) (cb.getD q17.toNat (az Sh.str))) [e.b]) e.kind) (cj e.c)):=by kernel_rfl
theorem Dx (e:Event):Sat Tryd.prog (aj aP) 10 [.agg (cellsOf (.nm .event) e)] [] ⟨[],[.c (.str ((ao e))),.c (.int ((ax e)))],none,false⟩:=by
 refine bB mZ [] Tryd.func10 (by decide) (by kernel_rfl) ?_
 rw [BP]
 (repeat' (first | with_reducible apply dW | with_reducible refine dY ?_ | intro))
 all_goals (first | exact ga | (simp only [List.length_append,List.length_map,List.length_cons,List.length_nil]; omega) | exact (xU (fun hl=>by have hl:=bw.1 hl; simp_all [addO,fb,List.all_cons,List.all_nil] <;> omega)) | exact (qT (fun hl=>by have hl:=bw.1 hl; simp_all [addO,fb,List.all_cons,List.all_nil] <;> omega)) | exact (mX (bw.2 (by simp_all [addO,fb,List.all_cons,List.all_nil]))) | exact (BY (bw.2 (by simp_all [addO,fb,List.all_cons,List.all_nil])) (by simp_all [aF,cA,fb])) | exact (Dl (e:=e) (bw.2 (by simp_all [addO,fb,List.all_cons,List.all_nil])) (by simp_all [aF,cA,fb])))
def zK:cG:=(dr 10 (cV (aA (kT (.nm .event)) br) bt fun (e,_) (_)=>⟨[],[.c (.str ((ao e))),.c (.int ((ax e)))],none,false⟩) (dr 28 (cV (aA (kT (.nm .command)) (aA (kT (.nm .command)) br)) bt fun (a,b,_) (_)=>⟨[],[.c (.bool (.atom ((decide (a=b)))))],none,false⟩) z_))
theorem nJ:aZ Tryd.prog (aj aP) zK:=(aD (aE (ae jw aq) au fun (e,_) (_) _=>Dx e ) (aD (aE (ae jw (ae jw aq)) au fun (a,b,_) (_) _=>yZ a b ) mZ))
theorem ES {n:Nat} (h:n<10):ag (n:Int)=⟨[UInt8.ofNat (48+n)]⟩:=by
 show Str.mk (Lib.itoa n)=_
 rw [Lib.itoa_nonneg,Lib.decDigits,dif_pos h]
theorem FW:ao (Event.mk 9 1 3 (Command.mk 0 0 0 0 0 0 [] ⟨[]⟩))=⟨[115,116,97,114,116,32,49,32,51]⟩:=by
 have h:aF (Event.mk 9 1 3 (Command.mk 0 0 0 0 0 0 [] ⟨[]⟩))=[⟨[115,116,97,114,116]⟩,⟨[49]⟩,⟨[51]⟩]:=by
  show [cA 9,ag ((1:Nat):Int)]++[ag ((3:Nat):Int)]++[]=_
  rw [ES (by decide),ES (by decide)]; rfl
 rw [ao,if_pos (by decide),h]; rfl
theorem Hz:ao (Event.mk 6 0 0 (Command.mk 1 2 0 0 0 0 [] ⟨[]⟩))=⟨[99,97,108,108,32,48,32,49,32,50,32,48,32,48,32,48,32,48,32,45]⟩:=by
 have h:aF (Event.mk 6 0 0 (Command.mk 1 2 0 0 0 0 [] ⟨[]⟩))=[⟨[99,97,108,108]⟩,⟨[48]⟩,⟨[49]⟩,⟨[50]⟩,⟨[48]⟩,⟨[48]⟩,⟨[48]⟩,⟨[48]⟩,⟨[45]⟩]:=by
  show [cA 6,ag ((0:Nat):Int)]++[]++([ag ((1:Nat):Int),ag ((2:Nat):Int),ag ((0:Nat):Int),ag ((0:Nat):Int),ag ((0:Nat):Int),ag ((0:Nat):Int)]++[⟨aJ []⟩]++[])=_
  rw [ES (by decide),ES (by decide),ES (by decide)]; rfl
 rw [ao,if_pos (by decide),h]; rfl
theorem Hd:ax (Event.mk 9 1 3 (Command.mk 0 0 0 0 0 0 [] ⟨[]⟩))=0:=by decide
theorem HQ:ax (Event.mk 6 0 0 (Command.mk 1 2 0 0 0 0 [] ⟨[]⟩))=0:=by decide
section
variable {a b:Event} {k:Nat}
end
theorem wW (a:Event) (b:Event) (r0:Bool):fW aP zK [] Tryd.f11 [.agg (cellsOf (.nm .event) a),.agg (cellsOf (.nm .event) b)] [] [.c (.bool (.atom (r0)))]=(I64 a.kind->I64 a.a->I64 a.b->I64 a.c.kind->I64 a.c.client->I64 a.c.seq->I64 a.c.set->I64 a.c.id->I64 a.c.n->a.c.chunks.length*(8:Nat)<=(140737488355328:Nat)->a.c.text.b.length<=(140737488355328:Nat)->I64 b.kind->I64 b.a->I64 b.b->I64 b.c.kind->I64 b.c.client->I64 b.c.seq->I64 b.c.set->I64 b.c.id->I64 b.c.n->b.c.chunks.length*(8:Nat)<=(140737488355328:Nat)->b.c.text.b.length<=(140737488355328:Nat)->(decide (a.c=b.c) && decide (a.kind=b.kind) && decide (a.a=b.a) && decide (a.b=b.b))=r0):=by kernel_rfl
theorem wA (a:Event) (b:Event):Sat Tryd.prog (aj aP) 11 [.agg (cellsOf (.nm .event) a),.agg (cellsOf (.nm .event) b)] [] ⟨[],[.c (.bool (.atom ((decide (a=b)))))],none,false⟩:=by
 refine bB nJ [] Tryd.func11 (by decide) (by kernel_rfl) ?_
 rw [wW]
 intros; cases a; cases b; simp only [Event.mk.injEq]; grind
theorem yt  (r0:Bool):fW aP zK [] Tryd.f8 [] [] [.c (.bool (.atom (r0)))]=((fun (q2:Int)=>(fun (q1:UInt8)=>(fun (q0:Int)=>(ao (Event.mk (9:Int) q2 (3:Int) (Command.mk q0 q0 q0 q0 q0 q0 [] (Str.mk [])))).b.length<=(140737488355328:Nat)->I64 (ax (Event.mk (9:Int) q2 (3:Int) (Command.mk q0 q0 q0 q0 q0 q0 [] (Str.mk []))))->(ao (Event.mk (6:Int) q0 q0 (Command.mk q2 (2:Int) q0 q0 q0 q0 [] (Str.mk [])))).b.length<=(140737488355328:Nat)->I64 (ax (Event.mk (6:Int) q0 q0 (Command.mk q2 (2:Int) q0 q0 q0 q0 [] (Str.mk []))))->(decide (ao (Event.mk (9:Int) q2 (3:Int) (Command.mk q0 q0 q0 q0 q0 q0 [] (Str.mk [])))=Str.mk [(115:UInt8),(116:UInt8),(97:UInt8),(114:UInt8),(116:UInt8),q1,(49:UInt8),q1,(51:UInt8)]) && decide (ax (Event.mk (9:Int) q2 (3:Int) (Command.mk q0 q0 q0 q0 q0 q0 [] (Str.mk [])))=q0) && decide (ao (Event.mk (6:Int) q0 q0 (Command.mk q2 (2:Int) q0 q0 q0 q0 [] (Str.mk [])))=Str.mk [(99:UInt8),(97:UInt8),(108:UInt8),(108:UInt8),q1,(48:UInt8),q1,(49:UInt8),q1,(50:UInt8),q1,(48:UInt8),q1,(48:UInt8),q1,(48:UInt8),q1,(48:UInt8),q1,(45:UInt8)]) && decide (ax (Event.mk (6:Int) q0 q0 (Command.mk q2 (2:Int) q0 q0 q0 q0 [] (Str.mk [])))=q0))=r0) (0:Int)) (32:UInt8)) (1:Int)):=by kernel_rfl
theorem zq :Sat Tryd.prog (aj aP) 8 [] [] ⟨[],[.c (.bool (.atom ((true))))],none,false⟩:=by
 refine bB nJ [] Tryd.func8 (by decide) (by kernel_rfl) ?_
 rw [yt]
 (repeat' (first | with_reducible apply dW | with_reducible refine dY ?_ | intro))
 rw [FW,Hz,Hd,HQ]; rfl
def DL:cG:=(dr 8 (cV br bt fun (_) (_)=>⟨[],[.c (.bool (.atom ((true))))],none,false⟩) (dr 11 (cV (aA (kT (.nm .event)) (aA (kT (.nm .event)) br)) bt fun (a,b,_) (_)=>⟨[],[.c (.bool (.atom ((decide (a=b)))))],none,false⟩) zK))
theorem zE:aZ Tryd.prog (aj aP) DL:=(aD (aE aq au fun (_) (_) _=>zq  ) (aD (aE (ae jw (ae jw aq)) au fun (a,b,_) (_) _=>wA a b ) nJ))
theorem Cg (s:Str) (sep:Str) (h0:s.b.length<4294967281) (h1:sep.b.length=1):Sat Tryd.prog (aj aP) 33 [.c (.str (s)),.c (.str (sep))] [] ⟨[s.b.length<4294967281,sep.b.length=1],[.c (.fz .str ((bd s sep)))],none,false⟩:=uy s sep h0 h1
theorem ym (s:Str) (c:UInt8):Sat Tryd.prog (aj aP) 54 [.c (.str (s)),.c (.u8 (c))] [] ⟨[],[.c (.int ((Lib.indexByte s.b c)))],none,false⟩:=tF s c
theorem BS (s:Str):Sat Tryd.prog (aj aP) 46 [.c (.str (s))] [] ⟨[],[.c (.int ((aN s))),.c (.xx (.er ((bZ s))) [])],none,false⟩:=xO s
theorem Av :Sat Tryd.prog (aj aP) 44 [] [] ⟨[],[.c (.xx (.fm jF) [])],none,false⟩:=tP
theorem qi (xs:List UInt8):Sat Tryd.prog (aj aP) 49 [.c (.ptr 0 0)] [.box 62 ([.xx .bp [(0,0)],.own 1]),.row 5 .u8 (xs)] ⟨[],[],some ([.box 62 ([.xx .bp [(0,0)],.own 1]),.row 5 .u8 ((xs))]),false⟩:=lV xs
theorem uf (xs:List UInt8) (h0:xs≠[]):Sat Tryd.prog (aj aP) 39 [.c (.ptr 0 0)] [.box 62 ([.xx .bp [(0,0)],.own 1]),.row 5 .u8 (xs)] ⟨[xs≠[]],[.c (.str ((⟨xs⟩)))],some ([.box 62 ([.xx .bp [(0,0)],.dead]),.gone]),false⟩:=rF xs h0
def oM:cG:=(dr 39 (cV (aA (kC (fv 0 0)) br) (bM (dV 62 (aG (Fw 0 0) (aG (pP 1) ea))) (bM (pL 5 .u8) bt)) fun (_,_) ((_,_,_),xs,_)=>⟨[xs≠[]],[.c (.str ((⟨xs⟩)))],some ([.box 62 ([.xx .bp [(0,0)],.dead]),.gone]),false⟩) (dr 49 (cV (aA (kC (fv 0 0)) br) (bM (dV 62 (aG (Fw 0 0) (aG (pP 1) ea))) (bM (pL 5 .u8) bt)) fun (_,_) ((_,_,_),xs,_)=>⟨[],[],some ([.box 62 ([.xx .bp [(0,0)],.own 1]),.row 5 .u8 ((xs))]),false⟩) (dr 44 (cV br bt fun (_) (_)=>⟨[],[.c (.xx (.fm jF) [])],none,false⟩) (dr 46 (cV (aA (kC cS) br) bt fun (s,_) (_)=>⟨[],[.c (.int ((aN s))),.c (.xx (.er ((bZ s))) [])],none,false⟩) (dr 54 (cV (aA (kC cS) (aA (kC cY) br)) bt fun (s,c,_) (_)=>⟨[],[.c (.int ((Lib.indexByte s.b c)))],none,false⟩) (dr 33 (cV (aA (kC cS) (aA (kC cS) br)) bt fun (s,sep,_) (_)=>⟨[s.b.length<4294967281,sep.b.length=1],[.c (.fz .str ((bd s sep)))],none,false⟩) DL))))))
theorem gT:aZ Tryd.prog (aj aP) oM:=(aD (aE (ae (aH bQ) aq) (aM (bk (ah od (ah fI bm))) (aM fR au)) fun (_,_) ((_,_,_),xs,_) hp=>uf xs (ot hp)) (aD (aE (ae (aH bQ) aq) (aM (bk (ah od (ah fI bm))) (aM fR au)) fun (_,_) ((_,_,_),xs,_) _=>qi xs ) (aD (aE aq au fun (_) (_) _=>Av  ) (aD (aE (ae (aH cq) aq) au fun (s,_) (_) _=>BS s ) (aD (aE (ae (aH cq) (ae (aH xt) aq)) au fun (s,c,_) (_) _=>ym s c ) (aD (aE (ae (aH cq) (ae (aH cq) aq)) au fun (s,sep,_) (_) hp=>Cg s sep (ot hp) (ot (Is hp))) zE))))))
abbrev gg (c:UInt8):Int:=Lib.indexByte [48,49,50,51,52,53,54,55,56,57,97,98,99,100,101,102] c
abbrev rR (a b:UInt8):UInt8:=UInt8.ofNat (yn (gg a*2 ^ 4) (gg b)).toNat
def unwL:List UInt8->Option (List UInt8)
 | []=>some []
 | [_]=>none
 | a :: b :: r=>if gg a<0\/gg b<0 then none else (unwL r).map (rR a b :: ·)
def aS (s:Str):Str:=if s=⟨[45]⟩ then ⟨[]⟩ else ⟨(unwL s.b).getD []⟩
def aY (s:Str):Bool:=if s=⟨[45]⟩ then true else (unwL s.b).isSome
def accP (l:List UInt8):Nat->List UInt8
 | 0=>[]
 | k+1=>accP l k++[rR (l.getD (2*k) 0) (l.getD (2*k+1) 0)]
structure UnJ (l:List UInt8) (k:Nat):Prop where
 le:2*k<=l.length
 eq:unwL l=(unwL (l.drop (2*k))).map (accP l k ++ ·)
theorem yu (c:UInt8):-1<=gg c/\gg c<16:=by
 unfold gg
 have:∀ l:List UInt8,Lib.indexByte l c<l.length\/Lib.indexByte l c = -1:=fun l=>by
  induction l with
  | nil=>exact .inr rfl
  | cons b l ih=>
   have:=df c l
   simp only [Lib.indexByte,List.length_cons]
   split
   ·left; omega
   ·split
    ·exact .inr rfl
    ·left; rename_i h; rw [beq_iff_eq] at h; omega
 have h1:=this [48,49,50,51,52,53,54,55,56,57,97,98,99,100,101,102]
 have h2:=df c [48,49,50,51,52,53,54,55,56,57,97,98,99,100,101,102]
 simp only [List.length_cons,List.length_nil] at h1
 omega
section
variable {w:Str} {k:Nat}
theorem Gy:UnJ w.b 0:=⟨by omega,by simp [accP]⟩
theorem Hp:(2*(k:Int)).toNat=2*k:=by omega
theorem GQ:(2*(k:Int)+1).toNat=2*k+1:=by omega
theorem Dk:accP w.b k++[rR (w.b.getD (2*(k:Int)).toNat 0) (w.b.getD (2*(k:Int)+1).toNat 0)]=accP w.b (k+1):=by rw [Hp,GQ]; rfl
theorem pF:∀ k:Nat,(accP w.b k).length=k
 | 0=>rfl
 | k+1=>by rw [accP,List.length_append,pF k]; rfl
theorem Cj {x:UInt8} (hJ:UnJ w.b k) (h:w.b.length<=140737488355328) (h1:2*(k:Int)<w.b.length):((accP w.b k).length+[x].length)*1<=140737488355328:=by
 have:=hJ.le
 rw [pF,List.length_singleton]; omega
theorem B_ {a b:Int}:0<=yn a b:=Int.natCast_nonneg _
theorem CB {c:UInt8}:I64 (gg c*2 ^ 4):=by have:=yu c; constructor <;> omega
theorem FF {c:UInt8} (h:0<=gg c):0<=gg c*2 ^ 4:=by omega
theorem Ab (h:w=⟨[45]⟩):(⟨[]⟩:Str)=aS w:=by rw [aS,if_pos h]
theorem vh (h:w=⟨[45]⟩):true=aY w:=by rw [aY,if_pos h]
theorem ka (h:¬ w=⟨[45]⟩) (hu:unwL w.b=none):(⟨[]⟩:Str)=aS w/\false=aY w:=by
 rw [aS,if_neg h,aY,if_neg h,hu]; exact ⟨rfl,rfl⟩
theorem vP (hJ:UnJ w.b k) (h:2*(k:Int)+1=w.b.length):unwL w.b=none:=by
 rw [hJ.eq]
 have hl:(w.b.drop (2*k)).length=1:=by rw [List.length_drop]; omega
 match hd:w.b.drop (2*k),hl with
 | [x],_=>rfl
theorem uO (hJ:UnJ w.b k) (h:2*(k:Int)<w.b.length) (h1:¬ 2*(k:Int)+1=w.b.length):w.b.drop (2*k)=w.b.getD (2*k) 0 :: w.b.getD (2*k+1) 0 :: w.b.drop (2*(k+1)):=by
 have:=hJ.le
 rw [List.drop_eq_getElem_cons (show 2*k<w.b.length by omega),List.drop_eq_getElem_cons (show 2*k+1<w.b.length by omega),List.getD_eq_getElem?_getD,List.getD_eq_getElem?_getD,List.getElem?_eq_getElem (show 2*k<w.b.length by omega),List.getElem?_eq_getElem (show 2*k+1<w.b.length by omega)]
 rfl
theorem xo (hJ:UnJ w.b k) (h:2*(k:Int)<w.b.length) (h1:¬ 2*(k:Int)+1=w.b.length) (hb:gg (w.b.getD (2*(k:Int)).toNat 0)<0\/gg (w.b.getD (2*(k:Int)+1).toNat 0)<0):unwL w.b=none:=by
 rw [Hp,GQ] at hb
 rw [hJ.eq,uO hJ h h1,unwL,if_pos hb]; rfl
theorem zJ (hJ:UnJ w.b k) (h:2*(k:Int)<w.b.length) (h1:¬ 2*(k:Int)+1=w.b.length) (ha:0<=gg (w.b.getD (2*(k:Int)).toNat 0)) (hb:0<=gg (w.b.getD (2*(k:Int)+1).toNat 0)):UnJ w.b (k+1):=by
 rw [Hp] at ha
 rw [GQ] at hb
 refine ⟨by have:=hJ.le; omega,?_⟩
 rw [hJ.eq,uO hJ h h1,unwL,if_neg (by omega),Option.map_map]
 congr 1
 funext x
 simp [accP]
theorem vd (hJ:UnJ w.b k) (hd:¬ w=⟨[45]⟩) (h:(w.b.length:Int)<=2*k):(⟨accP w.b k⟩:Str)=aS w/\true=aY w:=by
 have h2:unwL w.b=some (accP w.b k):=by
  rw [hJ.eq,List.drop_eq_nil_of_le (by omega)]; simp [unwL]
 rw [aS,if_neg hd,aY,if_neg hd,h2]; exact ⟨rfl,rfl⟩
end
def sF (w:Str):List (Nat × LI):=[(5,{ σ:=Nat,F:=fun k=>([(0,one (.str (w))),(4,one (.own 0)),(5,one (.int (2*(k:Int))))],[.row 5 .u8 ((accP w.b k))]),J:=fun k=>UnJ w.b k,μ:=fun k=>w.b.length - k })]
theorem Cy (s:Str) (xs:List UInt8) (r0:Int) (r1:Bool) (r2:List UInt8):AX aP oM [] Tryd.f37 [.c (.ptr 0 0),.c (.str (s))] [.box 62 ([.xx .bp [(0,0)],.own 1]),.row 5 .u8 (xs)] [.c (.int (r0)),.c (.xx (.er (r1)) [])] [.box 62 ([.xx .bp [(0,0)],.own 1]),.row 5 .u8 (r2)]=(s.b.length<=(140737488355328:Nat)->(xs.length+s.b.length)*(1:Nat)<=(140737488355328:Nat)/\(↑s.b.length:Int)=r0/\true=r1/\xs++s.b=r2):=by kernel_rfl
theorem CZ (s:Str) (xs:List UInt8) (h0:(xs.length+s.b.length)*1<=140737488355328):Sat Tryd.prog (aj aP) 37 [.c (.ptr 0 0),.c (.str (s))] [.box 62 ([.xx .bp [(0,0)],.own 1]),.row 5 .u8 (xs)] ⟨[(xs.length+s.b.length)*1<=140737488355328],[.c (.int ((s.b.length))),.c (.xx (.er ((true))) [])],some ([.box 62 ([.xx .bp [(0,0)],.own 1]),.row 5 .u8 ((xs++s.b))]),false⟩:=by
 refine kL gT [] Tryd.func37 (by decide) (by kernel_rfl) ?_
 rw [Cy]
 (repeat' (first | with_reducible apply dW | with_reducible refine dY ?_ | intro))
 all_goals exact ga
theorem Ax (c:UInt8) (xs:List UInt8) (r0:Bool) (r1:List UInt8):AX aP oM [] Tryd.f38 [.c (.ptr 0 0),.c (.u8 (c))] [.box 62 ([.xx .bp [(0,0)],.own 1]),.row 5 .u8 (xs)] [.c (.xx (.er (r0)) [])] [.box 62 ([.xx .bp [(0,0)],.own 1]),.row 5 .u8 (r1)]=((xs.length+[c].length)*(1:Nat)<=(140737488355328:Nat)/\true=r0/\xs++[c]=r1):=by kernel_rfl
theorem Af (c:UInt8) (xs:List UInt8) (h0:(xs.length+1)*1<=140737488355328):Sat Tryd.prog (aj aP) 38 [.c (.ptr 0 0),.c (.u8 (c))] [.box 62 ([.xx .bp [(0,0)],.own 1]),.row 5 .u8 (xs)] ⟨[(xs.length+1)*1<=140737488355328],[.c (.xx (.er ((true))) [])],some ([.box 62 ([.xx .bp [(0,0)],.own 1]),.row 5 .u8 ((xs++[c]))]),false⟩:=by
 refine kL gT [] Tryd.func38 (by decide) (by kernel_rfl) ?_
 rw [Ax]
 (repeat' (first | with_reducible apply dW | with_reducible refine dY ?_ | intro))
 all_goals exact ga
theorem wV (w:Str) (r0:Str) (r1:Bool):fW aP oM (sF w) Tryd.f47 [.c (.str (w))] [] [.c (.str (r0)),.c (.bool (.atom (r1)))]=((fun (q7:List UInt8)=>(fun (q6:Nat)=>(fun (q5:Int)=>(fun (q4:Nat)=>(fun (q3:Int)=>(fun (q2:UInt8)=>(fun (q1:Int)=>(fun (q0:List UInt8)=>q4<=(140737488355328:Nat)->(w=Str.mk [(45:UInt8)]->Str.mk []=r0/\true=r1)/\(¬w=Str.mk [(45:UInt8)]->∃ (s0:Nat),(fun (q8:Int)=>(w=w/\q5=q1*(↑s0:Int)/\accP q7 s0=[])/\UnJ q7 s0/\∀ (s:Nat),(fun (q9:Int)=>UnJ q7 s->(q9<(↑q4:Int)->I64 (q9+q3)/\(q9+q3=(↑q4:Int)->Str.mk []=r0/\false=r1)/\(¬q9+q3=(↑q4:Int)->q5<=q9/\q9<(↑q4:Int)/\I64 (q9+q3)/\q5<=q9+q3/\q9+q3<(↑q4:Int)/\(I64 (Lib.indexByte q0 (q7.getD q9.toNat q2))->I64 (Lib.indexByte q0 (q7.getD (q9+q3).toNat q2))->(Lib.indexByte q0 (q7.getD q9.toNat q2)<q5\/Lib.indexByte q0 (q7.getD (q9+q3).toNat q2)<q5->Str.mk []=r0/\false=r1)/\(q5<=Lib.indexByte q0 (q7.getD q9.toNat q2)/\q5<=Lib.indexByte q0 (q7.getD (q9+q3).toNat q2)->q6<(64:Nat)/\I64 (Lib.indexByte q0 (q7.getD q9.toNat q2)*q8)/\q5<=Lib.indexByte q0 (q7.getD q9.toNat q2)*q8/\q5<=Lib.indexByte q0 (q7.getD (q9+q3).toNat q2)/\q5<=yn (Lib.indexByte q0 (q7.getD q9.toNat q2)*q8) (Lib.indexByte q0 (q7.getD (q9+q3).toNat q2))/\((accP q7 s).length+[UInt8.ofNat (yn (Lib.indexByte q0 (q7.getD q9.toNat q2)*q8) (Lib.indexByte q0 (q7.getD (q9+q3).toNat q2))).toNat].length)*(1:Nat)<=(140737488355328:Nat)/\I64 (q9+q1)/\∃ (s':Nat),(w=w/\q9+q1=q1*(↑s':Int)/\accP q7 s++[UInt8.ofNat (yn (Lib.indexByte q0 (q7.getD q9.toNat q2)*q8) (Lib.indexByte q0 (q7.getD (q9+q3).toNat q2))).toNat]=accP q7 s')/\UnJ q7 s' /\ q4 - s' < q4 - s))))/\((↑q4:Int)<=q9->Str.mk (accP q7 s)=r0/\true=r1)) (q1*(↑s:Int))) (q1 ^ q6))) [(48:UInt8),(49:UInt8),(50:UInt8),(51:UInt8),(52:UInt8),(53:UInt8),(54:UInt8),(55:UInt8),(56:UInt8),(57:UInt8),(97:UInt8),(98:UInt8),(99:UInt8),(100:UInt8),(101:UInt8),(102:UInt8)]) (2:Int)) (0:UInt8)) (1:Int)) q7.length) (0:Int)) (4:Nat)) w.b):=by kernel_rfl
theorem wj (w:Str):Sat Tryd.prog (aj aP) 47 [.c (.str (w))] [] ⟨[],[.c (.str ((aS w))),.c (.bool (.atom ((aY w))))],none,false⟩:=by
 refine bB gT (sF w) Tryd.func47 (by decide) (by kernel_rfl) ?_
 rw [wV]
 iterate 3 ((all_goals (repeat' (first | with_reducible apply dW | with_reducible refine dY ?_ | intro))); (all_goals try (first | exact ga | exact rfl | exact (Ab ab) | exact (vh ab) | exact Gy | exact (ka ab (vP ab ab)).1 | exact (ka ab (vP ab ab)).2 | exact (ka ab (xo ab ab ab ab)).1 | exact (ka ab (xo ab ab ab ab)).2 | exact (vd ab ab ab).1 | exact (vd ab ab ab).2 | exact CB | exact (FF ab) | exact B_ | exact (Cj ab ab ab) | exact Dk | exact (zJ ab ab ab ab ab))); all_goals try first | refine ⟨‹Nat› + 1,?_⟩ | refine ⟨0,?_⟩)
def lZ:cG:=(dr 47 (cV (aA (kC cS) br) bt fun (w,_) (_)=>⟨[],[.c (.str ((aS w))),.c (.bool (.atom ((aY w))))],none,false⟩) (dr 38 (cV (aA (kC (fv 0 0)) (aA (kC cY) br)) (bM (dV 62 (aG (Fw 0 0) (aG (pP 1) ea))) (bM (pL 5 .u8) bt)) fun (_,c,_) ((_,_,_),xs,_)=>⟨[(xs.length+1)*1<=140737488355328],[.c (.xx (.er ((true))) [])],some ([.box 62 ([.xx .bp [(0,0)],.own 1]),.row 5 .u8 ((xs++[c]))]),false⟩) (dr 37 (cV (aA (kC (fv 0 0)) (aA (kC cS) br)) (bM (dV 62 (aG (Fw 0 0) (aG (pP 1) ea))) (bM (pL 5 .u8) bt)) fun (_,s,_) ((_,_,_),xs,_)=>⟨[(xs.length+s.b.length)*1<=140737488355328],[.c (.int ((s.b.length))),.c (.xx (.er ((true))) [])],some ([.box 62 ([.xx .bp [(0,0)],.own 1]),.row 5 .u8 ((xs++s.b))]),false⟩) oM)))
theorem fy:aZ Tryd.prog (aj aP) lZ:=(aD (aE (ae (aH cq) aq) au fun (w,_) (_) _=>wj w ) (aD (aE (ae (aH bQ) (ae (aH xt) aq)) (aM (bk (ah od (ah fI bm))) (aM fR au)) fun (_,c,_) ((_,_,_),xs,_) hp=>Af c xs (ot hp)) (aD (aE (ae (aH bQ) (ae (aH cq) aq)) (aM (bk (ah od (ah fI bm))) (aM fR au)) fun (_,s,_) ((_,_,_),xs,_) hp=>CZ s xs (ot hp)) gT)))
def tk (ws:List Str) (x:Int):Int:=match ws with
 | []=>x
 | w :: _=>aN w
def cw (ws:List Str) (ok:Bool):Bool:=match ws with
 | []=>false
 | w :: _=>ok && bZ w
section
variable {ws:List Str} {ok:Bool} {x:Int} {w:Str}
end
def xn (x:Int) (ws:List Str) (ok:Bool):List (Nat × LI):=[(1,{ σ:=Nat,F:=fun k=>([],[]),J:=fun k=>True,μ:=fun k=>0,un:=some (2,[1,2,8,9,10]) })]
def xc (k:Int) (a:Int) (b:Int) (c0:Int) (c1:Int) (c2:Int) (c3:Int) (c4:Int) (c5:Int) (tx:Str) (ws:List Str) (ok:Bool):List (Nat × LI):=[(1,{ σ:=Nat,F:=fun k=>([],[]),J:=fun k=>True,μ:=fun k=>0,un:=some (2,[1,2,8,9,10]) })]
def vE (k:Int) (a:Int) (b:Int) (c0:Int) (c1:Int) (c2:Int) (c3:Int) (c4:Int) (c5:Int) (tx:Str) (ws:List Str) (ok:Bool):List (Nat × LI):=[(1,{ σ:=Nat,F:=fun k=>([],[]),J:=fun k=>True,μ:=fun k=>0,un:=some (2,[1,2,8,9,10]) })]
def wF (k:Int) (a:Int) (b:Int) (c0:Int) (c1:Int) (c2:Int) (c3:Int) (c4:Int) (c5:Int) (tx:Str) (ws:List Str) (ok:Bool):List (Nat × LI):=[(1,{ σ:=Nat,F:=fun k=>([],[]),J:=fun k=>True,μ:=fun k=>0,un:=some (7,[1,2,8,9,10]) })]
theorem zk (x:Int) (ws:List Str) (ok:Bool) (r0:Int) (r1:List Str) (r2:Bool):AX aP lZ (xn x ws ok) Tryd.f45 [.c (.xx .pl [(0,0)]),.c (.ptr 1 0),.c (.ptr 2 0)] [.box 3 ([.int (x)]),.box 46 ([.fz .str (ws)]),.box 4 ([.bool (.atom (ok))])] [] [.box 3 ([.int (r0)]),.box 46 ([.fz .str (r1)]),.box 4 ([.bool (.atom (r2))])]=((fun (q2:Int)=>(fun (q1:Int)=>(fun (q0:Int)=>(q1<q0->q1<=q1/\q1<q0/\(q2=q1->x=r0/\ws=r1/\false=r2)/\(¬q2=q1->q1<=q1/\q1<q2/\∀ (x:Str),(fun (q3:Int)=>ws[(0:Nat)]? = some x->x.b.length<=(140737488355328:Nat)->I64 (aN x)->(q1<=(1:Int)/\(1:Int)<=q2)/\I64 q3/\(q3<q0->False)/\(q0<=q3->aN x=r0/\List.drop (1:Nat) ws=r1/\(ok && bZ x)=r2)) (q1+(1:Int))))/\(q0<=q1->x=r0/\ws=r1/\ok=r2)) (↑[((0:Nat),(0:Nat))].length:Int)) (0:Int)) (↑ws.length:Int)):=by kernel_rfl
theorem zu (x:Int) (ws:List Str) (ok:Bool):Sat Tryd.prog (aj aP) 45 [.c (.xx .pl [(0,0)]),.c (.ptr 1 0),.c (.ptr 2 0)] [.box 3 ([.int (x)]),.box 46 ([.fz .str (ws)]),.box 4 ([.bool (.atom (ok))])] ⟨[],[],some ([.box 3 ([.int ((tk ws x))]),.box 46 ([.fz .str (((ws.drop 1)))]),.box 4 ([.bool (.atom (((cw ws ok))))])]),false⟩:=by
 refine kL fy (xn x ws ok) Tryd.func45 (by decide) (by kernel_rfl) ?_
 rw [zk]
 (repeat' (first | with_reducible apply dW | with_reducible refine dY ?_ | intro))
 all_goals (first | exact ga | (simp only [List.length_cons,List.length_nil] at *; omega) | (rcases ws with _ | ⟨w0,ws⟩ <;> simp_all [tk,cw] <;> omega))
theorem zA (k:Int) (a:Int) (b:Int) (c0:Int) (c1:Int) (c2:Int) (c3:Int) (c4:Int) (c5:Int) (tx:Str) (ws:List Str) (ok:Bool) (r0:Int) (r1:Int) (r2:Int) (r3:Int) (r4:Int) (r5:Int) (r6:Int) (r7:Int) (r8:Int) (r9:Str) (r10:List Str) (r11:Bool):AX aP lZ (xc k a b c0 c1 c2 c3 c4 c5 tx ws ok) Tryd.f45 [.c (.xx .pl [(0,1)]),.c (.ptr 1 0),.c (.ptr 2 0)] [.box 26 ([.int (k),.int (a),.int (b),.int (c0),.int (c1),.int (c2),.int (c3),.int (c4),.int (c5),.em true,.str (tx)]),.box 46 ([.fz .str (ws)]),.box 4 ([.bool (.atom (ok))])] [] [.box 26 ([.int (r0),.int (r1),.int (r2),.int (r3),.int (r4),.int (r5),.int (r6),.int (r7),.int (r8),.em true,.str (r9)]),.box 46 ([.fz .str (r10)]),.box 4 ([.bool (.atom (r11))])]=((fun (q2:Int)=>(fun (q1:Int)=>(fun (q0:Int)=>(q1<q0->q1<=q1/\q1<q0/\(q2=q1->k=r0/\a=r1/\b=r2/\c0=r3/\c1=r4/\c2=r5/\c3=r6/\c4=r7/\c5=r8/\tx=r9/\ws=r10/\false=r11)/\(¬q2=q1->q1<=q1/\q1<q2/\∀ (x:Str),(fun (q3:Int)=>ws[(0:Nat)]? = some x->x.b.length<=(140737488355328:Nat)->I64 (aN x)->(q1<=(1:Int)/\(1:Int)<=q2)/\I64 q3/\(q3<q0->False)/\(q0<=q3->k=r0/\aN x=r1/\b=r2/\c0=r3/\c1=r4/\c2=r5/\c3=r6/\c4=r7/\c5=r8/\tx=r9/\List.drop (1:Nat) ws=r10/\(ok && bZ x)=r11)) (q1+(1:Int))))/\(q0<=q1->k=r0/\a=r1/\b=r2/\c0=r3/\c1=r4/\c2=r5/\c3=r6/\c4=r7/\c5=r8/\tx=r9/\ws=r10/\ok=r11)) (↑[((0:Nat),(1:Nat))].length:Int)) (0:Int)) (↑ws.length:Int)):=by kernel_rfl
theorem zp (k:Int) (a:Int) (b:Int) (c0:Int) (c1:Int) (c2:Int) (c3:Int) (c4:Int) (c5:Int) (tx:Str) (ws:List Str) (ok:Bool):Sat Tryd.prog (aj aP) 45 [.c (.xx .pl [(0,1)]),.c (.ptr 1 0),.c (.ptr 2 0)] [.box 26 ([.int (k),.int (a),.int (b),.int (c0),.int (c1),.int (c2),.int (c3),.int (c4),.int (c5),.em true,.str (tx)]),.box 46 ([.fz .str (ws)]),.box 4 ([.bool (.atom (ok))])] ⟨[],[],some ([.box 26 ([.int ((k)),.int ((tk ws a)),.int ((b)),.int ((c0)),.int ((c1)),.int ((c2)),.int ((c3)),.int ((c4)),.int ((c5)),.em true,.str ((tx))]),.box 46 ([.fz .str (((ws.drop 1)))]),.box 4 ([.bool (.atom (((cw ws ok))))])]),false⟩:=by
 refine kL fy (xc k a b c0 c1 c2 c3 c4 c5 tx ws ok) Tryd.func45 (by decide) (by kernel_rfl) ?_
 rw [zA]
 (repeat' (first | with_reducible apply dW | with_reducible refine dY ?_ | intro))
 all_goals (first | exact ga | (simp only [List.length_cons,List.length_nil] at *; omega) | (rcases ws with _ | ⟨w0,ws⟩ <;> simp_all [tk,cw] <;> omega))
theorem zX (k:Int) (a:Int) (b:Int) (c0:Int) (c1:Int) (c2:Int) (c3:Int) (c4:Int) (c5:Int) (tx:Str) (ws:List Str) (ok:Bool) (r0:Int) (r1:Int) (r2:Int) (r3:Int) (r4:Int) (r5:Int) (r6:Int) (r7:Int) (r8:Int) (r9:Str) (r10:List Str) (r11:Bool):AX aP lZ (vE k a b c0 c1 c2 c3 c4 c5 tx ws ok) Tryd.f45 [.c (.xx .pl [(0,2)]),.c (.ptr 1 0),.c (.ptr 2 0)] [.box 26 ([.int (k),.int (a),.int (b),.int (c0),.int (c1),.int (c2),.int (c3),.int (c4),.int (c5),.em true,.str (tx)]),.box 46 ([.fz .str (ws)]),.box 4 ([.bool (.atom (ok))])] [] [.box 26 ([.int (r0),.int (r1),.int (r2),.int (r3),.int (r4),.int (r5),.int (r6),.int (r7),.int (r8),.em true,.str (r9)]),.box 46 ([.fz .str (r10)]),.box 4 ([.bool (.atom (r11))])]=((fun (q2:Int)=>(fun (q1:Int)=>(fun (q0:Int)=>(q1<q0->q1<=q1/\q1<q0/\(q2=q1->k=r0/\a=r1/\b=r2/\c0=r3/\c1=r4/\c2=r5/\c3=r6/\c4=r7/\c5=r8/\tx=r9/\ws=r10/\false=r11)/\(¬q2=q1->q1<=q1/\q1<q2/\∀ (x:Str),(fun (q3:Int)=>ws[(0:Nat)]? = some x->x.b.length<=(140737488355328:Nat)->I64 (aN x)->(q1<=(1:Int)/\(1:Int)<=q2)/\I64 q3/\(q3<q0->False)/\(q0<=q3->k=r0/\a=r1/\aN x=r2/\c0=r3/\c1=r4/\c2=r5/\c3=r6/\c4=r7/\c5=r8/\tx=r9/\List.drop (1:Nat) ws=r10/\(ok && bZ x)=r11)) (q1+(1:Int))))/\(q0<=q1->k=r0/\a=r1/\b=r2/\c0=r3/\c1=r4/\c2=r5/\c3=r6/\c4=r7/\c5=r8/\tx=r9/\ws=r10/\ok=r11)) (↑[((0:Nat),(2:Nat))].length:Int)) (0:Int)) (↑ws.length:Int)):=by kernel_rfl
theorem zR (k:Int) (a:Int) (b:Int) (c0:Int) (c1:Int) (c2:Int) (c3:Int) (c4:Int) (c5:Int) (tx:Str) (ws:List Str) (ok:Bool):Sat Tryd.prog (aj aP) 45 [.c (.xx .pl [(0,2)]),.c (.ptr 1 0),.c (.ptr 2 0)] [.box 26 ([.int (k),.int (a),.int (b),.int (c0),.int (c1),.int (c2),.int (c3),.int (c4),.int (c5),.em true,.str (tx)]),.box 46 ([.fz .str (ws)]),.box 4 ([.bool (.atom (ok))])] ⟨[],[],some ([.box 26 ([.int ((k)),.int ((a)),.int ((tk ws b)),.int ((c0)),.int ((c1)),.int ((c2)),.int ((c3)),.int ((c4)),.int ((c5)),.em true,.str ((tx))]),.box 46 ([.fz .str (((ws.drop 1)))]),.box 4 ([.bool (.atom (((cw ws ok))))])]),false⟩:=by
 refine kL fy (vE k a b c0 c1 c2 c3 c4 c5 tx ws ok) Tryd.func45 (by decide) (by kernel_rfl) ?_
 rw [zX]
 (repeat' (first | with_reducible apply dW | with_reducible refine dY ?_ | intro))
 all_goals (first | exact ga | (simp only [List.length_cons,List.length_nil] at *; omega) | (rcases ws with _ | ⟨w0,ws⟩ <;> simp_all [tk,cw] <;> omega))
theorem zN (k:Int) (a:Int) (b:Int) (c0:Int) (c1:Int) (c2:Int) (c3:Int) (c4:Int) (c5:Int) (tx:Str) (ws:List Str) (ok:Bool) (r0:Int) (r1:Int) (r2:Int) (r3:Int) (r4:Int) (r5:Int) (r6:Int) (r7:Int) (r8:Int) (r9:Str) (r10:List Str) (r11:Bool):AX aP lZ (wF k a b c0 c1 c2 c3 c4 c5 tx ws ok) Tryd.f45 [.c (.xx .pl [(0,3),(0,4),(0,5),(0,6),(0,7),(0,8)]),.c (.ptr 1 0),.c (.ptr 2 0)] [.box 26 ([.int (k),.int (a),.int (b),.int (c0),.int (c1),.int (c2),.int (c3),.int (c4),.int (c5),.em true,.str (tx)]),.box 46 ([.fz .str (ws)]),.box 4 ([.bool (.atom (ok))])] [] [.box 26 ([.int (r0),.int (r1),.int (r2),.int (r3),.int (r4),.int (r5),.int (r6),.int (r7),.int (r8),.em true,.str (r9)]),.box 46 ([.fz .str (r10)]),.box 4 ([.bool (.atom (r11))])]=((fun (q17:Prop)=>(fun (db:Nat)=>(fun (q15:Int)=>(fun (q14:Prop)=>(fun (q13:Prop)=>(fun (q12:Prop)=>(fun (q11:Prop)=>(fun (q10:Prop)=>(fun (q9:Prop)=>(fun (q8:Prop)=>(fun (q7:Nat)=>(fun (q6:Prop)=>(fun (q5:Nat)=>(fun (q4:Int)=>(fun (q3:Int)=>(fun (q2:Int)=>(fun (q1:List (den Sh.str))=>(fun (q0:Int)=>(q3<q0->q3<=q3/\q3<q0/\(q15=q3->q9/\q10/\q11/\c0=r3/\c1=r4/\q17/\q14/\q12/\q8/\q6/\ws=r10/\q13)/\(¬q15=q3->q3<=q3/\q3<q15/\∀ (x:Str),(fun (q26:Prop)=>(fun (q25:Int)=>(fun (q24:Int)=>(fun (q23:Bool)=>(fun (q22:Int)=>(fun (q21:List (den Sh.str))=>(fun (q20:List (den Sh.str))=>(fun (q19:Prop)=>(fun (q18:Int)=>ws[q7]? = some x->x.b.length<=db->I64 (aN x)->(q26/\q4<=q15)/\I64 q22/\(q22<q0->q3<=q22/\q22<q0/\((↑q21.length:Int)=q3->q9/\q10/\q11/\q19/\c1=r4/\q17/\q14/\q12/\q8/\q6/\q21=r10/\q13)/\(¬(↑q21.length:Int)=q3->q3<=q3/\q3<(↑q21.length:Int)/\∀ (x:Str),(fun (q32:Int)=>(fun (q31:Int)=>(fun (q30:Bool)=>(fun (q29:Int)=>(fun (q28:Int)=>(fun (q27:Prop)=>q21[q7]? = some x->x.b.length<=db->I64 (aN x)->(q26/\q4<=(↑q21.length:Int))/\I64 q32/\(q32<q0->q3<=q32/\q32<q0/\(q28=q3->q9/\q10/\q11/\q19/\q27/\q17/\q14/\q12/\q8/\q6/\List.drop q5 q21=r10/\q13)/\(¬q28=q3->q3<=q3/\q3<q28/\∀ (x:Str),(fun (q34:Bool)=>(fun (q33:Prop)=>(List.drop q5 q21)[q7]? = some x->x.b.length<=db->I64 (aN x)->(q26/\q4<=q28)/\I64 q2/\(q2<q0->q3<=q2/\q2<q0/\(q25=q3->q9/\q10/\q11/\q19/\q27/\q33/\q14/\q12/\q8/\q6/\q1=r10/\q13)/\(¬q25=q3->q3<=q3/\q3<q25/\∀ (x:Str),(fun (q35:Prop)=>q1[q7]? = some x->x.b.length<=db->I64 (aN x)->(q26/\q4<=q25)/\I64 q24/\(q24<q0->q3<=q24/\q24<q0/\(q31=q3->q9/\q10/\q11/\q19/\q27/\q33/\q35/\q12/\q8/\q6/\q20=r10/\q13)/\(¬q31=q3->q3<=q3/\q3<q31/\∀ (x_1:Str),q20[q7]? = some x_1->x_1.b.length<=db->I64 (aN x_1)->(q26/\q4<=q31)/\I64 q18/\(q18<q0->q3<=q18/\q18<q0/\(q29=q3->q9/\q10/\q11/\q19/\q27/\q33/\q35/\aN x_1=r7/\q8/\q6/\List.drop q5 q20=r10/\q13)/\(¬q29=q3->q3<=q3/\q3<q29/\∀ (x_2:Str),(List.drop q5 q20)[q7]? = some x_2->x_2.b.length<=db->I64 (aN x_2)->(q26/\q4<=q29)/\I64 (q18+q4)/\(q18+q4<q0->False)/\(q0<=q18+q4->q9/\q10/\q11/\q19/\q27/\q33/\q35/\aN x_1=r7/\aN x_2=r8/\q6/\List.drop q5 (List.drop q5 q20)=r10/\(q34 && bZ x && bZ x_1 && bZ x_2)=r11)))/\(q0<=q18->q9/\q10/\q11/\q19/\q27/\q33/\q35/\aN x_1=r7/\q8/\q6/\List.drop q5 q20=r10/\(q34 && bZ x && bZ x_1)=r11)))/\(q0<=q24->q9/\q10/\q11/\q19/\q27/\q33/\q35/\q12/\q8/\q6/\q20=r10/\(q34 && bZ x)=r11)) (aN x=r6)))/\(q0<=q2->q9/\q10/\q11/\q19/\q27/\q33/\q14/\q12/\q8/\q6/\q1=r10/\q34=r11)) (aN x=r5)) (q30 && bZ x)))/\(q0<=q32->q9/\q10/\q11/\q19/\q27/\q17/\q14/\q12/\q8/\q6/\List.drop q5 q21=r10/\q30=r11)) (aN x=r4)) (↑(List.drop q5 q21).length:Int)) (↑(List.drop q5 q20).length:Int)) (q23 && bZ x)) (↑q20.length:Int)) (q22+q4)))/\(q0<=q22->q9/\q10/\q11/\q19/\c1=r4/\q17/\q14/\q12/\q8/\q6/\q21=r10/\q23=r11)) (q24+q4)) (aN x=r3)) (List.drop q5 q1)) (List.drop q5 ws)) (q3+q4)) (ok && bZ x)) (q2+q4)) (↑q1.length:Int)) (q3<=q4)))/\(q0<=q3->q9/\q10/\q11/\c0=r3/\c1=r4/\q17/\q14/\q12/\q8/\q6/\ws=r10/\ok=r11)) (↑[(q7,(3:Nat)),(q7,(4:Nat)),(q7,(5:Nat)),(q7,(6:Nat)),(q7,(7:Nat)),(q7,(8:Nat))].length:Int)) (List.drop q5 (List.drop q5 (List.drop q5 ws)))) (q3+q4+q4+q4)) (0:Int)) (1:Int)) (1:Nat)) (tx=r9)) (0:Nat)) (c5=r8)) (k=r0)) (a=r1)) (b=r2)) (c4=r7)) (false=r11)) (c3=r6)) (↑ws.length:Int)) (140737488355328:Nat)) (c2=r5)):=by kernel_rfl
theorem zb (k:Int) (a:Int) (b:Int) (c0:Int) (c1:Int) (c2:Int) (c3:Int) (c4:Int) (c5:Int) (tx:Str) (ws:List Str) (ok:Bool):Sat Tryd.prog (aj aP) 45 [.c (.xx .pl [(0,3),(0,4),(0,5),(0,6),(0,7),(0,8)]),.c (.ptr 1 0),.c (.ptr 2 0)] [.box 26 ([.int (k),.int (a),.int (b),.int (c0),.int (c1),.int (c2),.int (c3),.int (c4),.int (c5),.em true,.str (tx)]),.box 46 ([.fz .str (ws)]),.box 4 ([.bool (.atom (ok))])] ⟨[],[],some ([.box 26 ([.int ((k)),.int ((a)),.int ((b)),.int ((tk ws c0)),.int ((tk (ws.drop 1) c1)),.int ((tk ((ws.drop 1).drop 1) c2)),.int ((tk (((ws.drop 1).drop 1).drop 1) c3)),.int ((tk ((((ws.drop 1).drop 1).drop 1).drop 1) c4)),.int ((tk (((((ws.drop 1).drop 1).drop 1).drop 1).drop 1) c5)),.em true,.str ((tx))]),.box 46 ([.fz .str ((((((((ws.drop 1).drop 1).drop 1).drop 1).drop 1).drop 1)))]),.box 4 ([.bool (.atom (((cw (((((ws.drop 1).drop 1).drop 1).drop 1).drop 1) (cw ((((ws.drop 1).drop 1).drop 1).drop 1) (cw (((ws.drop 1).drop 1).drop 1) (cw ((ws.drop 1).drop 1) (cw (ws.drop 1) (cw ws ok)))))))))])]),false⟩:=by
 refine kL fy (wF k a b c0 c1 c2 c3 c4 c5 tx ws ok) Tryd.func45 (by decide) (by kernel_rfl) ?_
 rw [zN]
 (repeat' (first | with_reducible apply dW | with_reducible refine dY ?_ | intro))
 all_goals (first | exact ga | (simp only [List.length_cons,List.length_nil] at *; omega) | (rcases ws with _ | ⟨w0,_ | ⟨w4,_ | ⟨w5,_ | ⟨w6,_ | ⟨w7,_ | ⟨w8,ws⟩⟩⟩⟩⟩⟩ <;> simp_all [tk,cw] <;> omega))
def xk:cG:=(dr 45 (cV (aA (kC (Fj [(0,3),(0,4),(0,5),(0,6),(0,7),(0,8)])) (aA (kC (fv 1 0)) (aA (kC (fv 2 0)) br))) (bM (dV 26 (aG cI (aG cI (aG cI (aG cI (aG cI (aG cI (aG cI (aG cI (aG cI (aG (DA true) (aG cS ea)))))))))))) (bM (dV 46 (aG (cL .str) ea)) (bM (dV 4 (aG cB ea)) bt))) fun (_,_,_,_) ((k,a,b,c0,c1,c2,c3,c4,c5,_,tx,_),(ws,_),(ok,_),_)=>⟨[],[],some ([.box 26 ([.int ((k)),.int ((a)),.int ((b)),.int ((tk ws c0)),.int ((tk (ws.drop 1) c1)),.int ((tk ((ws.drop 1).drop 1) c2)),.int ((tk (((ws.drop 1).drop 1).drop 1) c3)),.int ((tk ((((ws.drop 1).drop 1).drop 1).drop 1) c4)),.int ((tk (((((ws.drop 1).drop 1).drop 1).drop 1).drop 1) c5)),.em true,.str ((tx))]),.box 46 ([.fz .str ((((((((ws.drop 1).drop 1).drop 1).drop 1).drop 1).drop 1)))]),.box 4 ([.bool (.atom (((cw (((((ws.drop 1).drop 1).drop 1).drop 1).drop 1) (cw ((((ws.drop 1).drop 1).drop 1).drop 1) (cw (((ws.drop 1).drop 1).drop 1) (cw ((ws.drop 1).drop 1) (cw (ws.drop 1) (cw ws ok)))))))))])]),false⟩) (dr 45 (cV (aA (kC (Fj [(0,2)])) (aA (kC (fv 1 0)) (aA (kC (fv 2 0)) br))) (bM (dV 26 (aG cI (aG cI (aG cI (aG cI (aG cI (aG cI (aG cI (aG cI (aG cI (aG (DA true) (aG cS ea)))))))))))) (bM (dV 46 (aG (cL .str) ea)) (bM (dV 4 (aG cB ea)) bt))) fun (_,_,_,_) ((k,a,b,c0,c1,c2,c3,c4,c5,_,tx,_),(ws,_),(ok,_),_)=>⟨[],[],some ([.box 26 ([.int ((k)),.int ((a)),.int ((tk ws b)),.int ((c0)),.int ((c1)),.int ((c2)),.int ((c3)),.int ((c4)),.int ((c5)),.em true,.str ((tx))]),.box 46 ([.fz .str (((ws.drop 1)))]),.box 4 ([.bool (.atom (((cw ws ok))))])]),false⟩) (dr 45 (cV (aA (kC (Fj [(0,1)])) (aA (kC (fv 1 0)) (aA (kC (fv 2 0)) br))) (bM (dV 26 (aG cI (aG cI (aG cI (aG cI (aG cI (aG cI (aG cI (aG cI (aG cI (aG (DA true) (aG cS ea)))))))))))) (bM (dV 46 (aG (cL .str) ea)) (bM (dV 4 (aG cB ea)) bt))) fun (_,_,_,_) ((k,a,b,c0,c1,c2,c3,c4,c5,_,tx,_),(ws,_),(ok,_),_)=>⟨[],[],some ([.box 26 ([.int ((k)),.int ((tk ws a)),.int ((b)),.int ((c0)),.int ((c1)),.int ((c2)),.int ((c3)),.int ((c4)),.int ((c5)),.em true,.str ((tx))]),.box 46 ([.fz .str (((ws.drop 1)))]),.box 4 ([.bool (.atom (((cw ws ok))))])]),false⟩) (dr 45 (cV (aA (kC (Fj [(0,0)])) (aA (kC (fv 1 0)) (aA (kC (fv 2 0)) br))) (bM (dV 3 (aG cI ea)) (bM (dV 46 (aG (cL .str) ea)) (bM (dV 4 (aG cB ea)) bt))) fun (_,_,_,_) ((x,_),(ws,_),(ok,_),_)=>⟨[],[],some ([.box 3 ([.int ((tk ws x))]),.box 46 ([.fz .str (((ws.drop 1)))]),.box 4 ([.bool (.atom (((cw ws ok))))])]),false⟩) lZ))))
theorem qb:aZ Tryd.prog (aj aP) xk:=(aD (aE (ae (aH nO) (ae (aH bQ) (ae (aH bQ) aq))) (aM (bk (ah bn (ah bn (ah bn (ah bn (ah bn (ah bn (ah bn (ah bn (ah bn (ah nX (ah cq bm)))))))))))) (aM (bk (ah dx bm)) (aM (bk (ah qy bm)) au))) fun (_,_,_,_) ((k,a,b,c0,c1,c2,c3,c4,c5,_,tx,_),(ws,_),(ok,_),_) _=>zb k a b c0 c1 c2 c3 c4 c5 tx ws ok ) (aD (aE (ae (aH nO) (ae (aH bQ) (ae (aH bQ) aq))) (aM (bk (ah bn (ah bn (ah bn (ah bn (ah bn (ah bn (ah bn (ah bn (ah bn (ah nX (ah cq bm)))))))))))) (aM (bk (ah dx bm)) (aM (bk (ah qy bm)) au))) fun (_,_,_,_) ((k,a,b,c0,c1,c2,c3,c4,c5,_,tx,_),(ws,_),(ok,_),_) _=>zR k a b c0 c1 c2 c3 c4 c5 tx ws ok ) (aD (aE (ae (aH nO) (ae (aH bQ) (ae (aH bQ) aq))) (aM (bk (ah bn (ah bn (ah bn (ah bn (ah bn (ah bn (ah bn (ah bn (ah bn (ah nX (ah cq bm)))))))))))) (aM (bk (ah dx bm)) (aM (bk (ah qy bm)) au))) fun (_,_,_,_) ((k,a,b,c0,c1,c2,c3,c4,c5,_,tx,_),(ws,_),(ok,_),_) _=>zp k a b c0 c1 c2 c3 c4 c5 tx ws ok ) (aD (aE (ae (aH nO) (ae (aH bQ) (ae (aH bQ) aq))) (aM (bk (ah bn bm)) (aM (bk (ah dx bm)) (aM (bk (ah qy bm)) au))) fun (_,_,_,_) ((x,_),(ws,_),(ok,_),_) _=>zu x ws ok ) fy))))
abbrev cD:Command:=⟨0,0,0,0,0,0,[],⟨[]⟩⟩
abbrev gq:Event:=⟨0,0,0,cD⟩
abbrev pk (ws:List Str):Int:=(jF (ws.getD 0 (az .str))).getD 0
def qI (o:Bool) (l:List Str):Bool:=o && l.all bZ
def bz (ws:List Str):Event:=
 if bl (pk ws)=true then ⟨pk ws,tk (ws.drop 1) 0,tk ((ws.drop 1).drop 1) 0,cD⟩
 else if ¬ pk ws=6 then ⟨pk ws,tk (ws.drop 1) 0,0,cD⟩
 else if (((((((((ws.drop 1).drop 1).drop 1).drop 1).drop 1).drop 1).drop 1).drop 1).length:Int)=0\/17<(((((((((ws.drop 1).drop 1).drop 1).drop 1).drop 1).drop 1).drop 1).drop 1).length:Int) then gq
 else ⟨pk ws,tk (ws.drop 1) 0,0,⟨tk ((ws.drop 1).drop 1) 0,tk (((ws.drop 1).drop 1).drop 1) 0,tk ((((ws.drop 1).drop 1).drop 1).drop 1) 0,tk (((((ws.drop 1).drop 1).drop 1).drop 1).drop 1) 0,tk ((((((ws.drop 1).drop 1).drop 1).drop 1).drop 1).drop 1) 0,tk (((((((ws.drop 1).drop 1).drop 1).drop 1).drop 1).drop 1).drop 1) 0,(((((((((ws.drop 1).drop 1).drop 1).drop 1).drop 1).drop 1).drop 1).drop 1).drop 1).map aN,aS (((((((((ws.drop 1).drop 1).drop 1).drop 1).drop 1).drop 1).drop 1).drop 1).getD 0 ⟨[]⟩)⟩⟩
abbrev lu (ws:List Str):Bool:=cw (((((((ws.drop 1).drop 1).drop 1).drop 1).drop 1).drop 1).drop 1) (cw ((((((ws.drop 1).drop 1).drop 1).drop 1).drop 1).drop 1) (cw (((((ws.drop 1).drop 1).drop 1).drop 1).drop 1) (cw ((((ws.drop 1).drop 1).drop 1).drop 1) (cw (((ws.drop 1).drop 1).drop 1) (cw ((ws.drop 1).drop 1) (cw (ws.drop 1) true))))))
def bP (ws:List Str):Bool:=
 if bl (pk ws)=true then cw ((ws.drop 1).drop 1) (cw (ws.drop 1) true)
 else if ¬ pk ws=6 then cw (ws.drop 1) true
 else if (((((((((ws.drop 1).drop 1).drop 1).drop 1).drop 1).drop 1).drop 1).drop 1).length:Int)=0\/17<(((((((((ws.drop 1).drop 1).drop 1).drop 1).drop 1).drop 1).drop 1).drop 1).length:Int) then false
 else qI (lu ws) (((((((((ws.drop 1).drop 1).drop 1).drop 1).drop 1).drop 1).drop 1).drop 1).drop 1) && aY (((((((((ws.drop 1).drop 1).drop 1).drop 1).drop 1).drop 1).drop 1).drop 1).getD 0 ⟨[]⟩)
theorem wi {ws:List Str} (h:ws≠[]):(0:Int)<ws.length:=by
 cases ws with
 | nil=>exact absurd rfl h
 | cons a r=>rw [List.length_cons]; omega
theorem zy {ws:List Str} (h:ws≠[]):(1:Int)<=ws.length:=wi h
theorem Gc {p:Prop} {k:Int} (h:bl k=true) (h6:k=6):p:=by subst h6; exact absurd h (by decide)
section
variable {ws:List Str} {s:Nat} {x:Str}
theorem Fo (h:bl (pk ws)=true):bz ws=⟨pk ws,tk (ws.drop 1) 0,tk ((ws.drop 1).drop 1) 0,cD⟩/\bP ws=cw ((ws.drop 1).drop 1) (cw (ws.drop 1) true):=by
 rw [bz,if_pos h,bP,if_pos h]; exact ⟨rfl,rfl⟩
theorem Eg (h:bl (pk ws)=false) (h6:¬ pk ws=6):bz ws=⟨pk ws,tk (ws.drop 1) 0,0,cD⟩/\bP ws=cw (ws.drop 1) true:=by
 rw [bz,if_neg (by rw [h]; decide),if_pos h6,bP,if_neg (by rw [h]; decide),if_pos h6]; exact ⟨rfl,rfl⟩
theorem Fm (h6:pk ws=6) (h:(((((((((ws.drop 1).drop 1).drop 1).drop 1).drop 1).drop 1).drop 1).drop 1).length:Int)=0\/17<(((((((((ws.drop 1).drop 1).drop 1).drop 1).drop 1).drop 1).drop 1).drop 1).length:Int)):bz ws=gq/\bP ws=false:=by
 have hs:¬ bl (pk ws)=true:=by rw [h6]; decide
 rw [bz,if_neg hs,if_neg (fun hn=>hn h6),if_pos h,bP,if_neg hs,if_neg (fun hn=>hn h6),if_pos h]; exact ⟨rfl,rfl⟩
theorem DT (h6:pk ws=6) (h0:¬ (((((((((ws.drop 1).drop 1).drop 1).drop 1).drop 1).drop 1).drop 1).drop 1).length:Int)=0) (h17:(((((((((ws.drop 1).drop 1).drop 1).drop 1).drop 1).drop 1).drop 1).drop 1).length:Int)<=17) (hs:((((((((((ws.drop 1).drop 1).drop 1).drop 1).drop 1).drop 1).drop 1).drop 1).drop 1).length:Int)<=s):bz ws=⟨pk ws,tk (ws.drop 1) 0,0,⟨tk ((ws.drop 1).drop 1) 0,tk (((ws.drop 1).drop 1).drop 1) 0,tk ((((ws.drop 1).drop 1).drop 1).drop 1) 0,tk (((((ws.drop 1).drop 1).drop 1).drop 1).drop 1) 0,tk ((((((ws.drop 1).drop 1).drop 1).drop 1).drop 1).drop 1) 0,tk (((((((ws.drop 1).drop 1).drop 1).drop 1).drop 1).drop 1).drop 1) 0,((((((((((ws.drop 1).drop 1).drop 1).drop 1).drop 1).drop 1).drop 1).drop 1).drop 1).take s).map aN,aS (((((((((ws.drop 1).drop 1).drop 1).drop 1).drop 1).drop 1).drop 1).drop 1).getD 0 ⟨[]⟩)⟩⟩/\bP ws=(qI (lu ws) ((((((((((ws.drop 1).drop 1).drop 1).drop 1).drop 1).drop 1).drop 1).drop 1).drop 1).take s) && aY (((((((((ws.drop 1).drop 1).drop 1).drop 1).drop 1).drop 1).drop 1).drop 1).getD 0 ⟨[]⟩)):=by
 have hs':¬ bl (pk ws)=true:=by rw [h6]; decide
 have hn:¬ ((((((((((ws.drop 1).drop 1).drop 1).drop 1).drop 1).drop 1).drop 1).drop 1).length:Int)=0\/17<(((((((((ws.drop 1).drop 1).drop 1).drop 1).drop 1).drop 1).drop 1).drop 1).length:Int)):=by omega
 rw [List.take_of_length_le (show (((((((((ws.drop 1).drop 1).drop 1).drop 1).drop 1).drop 1).drop 1).drop 1).drop 1).length<=s by omega),bz,if_neg hs',if_neg (fun hn=>hn h6),if_neg hn,bP,if_neg hs',if_neg (fun hn=>hn h6),if_neg hn]; exact ⟨rfl,rfl⟩
theorem gx {l:List Str} (h:l[0]? = some x):x=l.getD 0 ⟨[]⟩:=by rw [List.getD_eq_getElem?_getD,h]; rfl
theorem D_ {o:Bool} {l:List Str}:o=qI o (l.take 0):=by simp [qI]
theorem Bm {l:List Str} (h:(s:Int)<l.length):∃ y,l.drop s=y :: l.drop (s+1)/\l.take (s+1)=l.take s++[y]:=by
 have hs:s<l.length:=by omega
 exact ⟨l[s],List.drop_eq_getElem_cons hs,by rw [List.take_add_one,List.getElem?_eq_getElem hs]; rfl⟩
theorem Fy {o:Bool} {l:List Str} (h:(s:Int)<l.length):cw (l.drop s) (qI o (l.take s))=qI o (l.take (s+1)):=by
 obtain ⟨y,h1,h2⟩:=Bm h
 rw [h1,h2]; simp [cw,qI,Bool.and_assoc]
theorem Ia {l:List Str} (h:(s:Int)<l.length):(l.take s).map aN++[tk (l.drop s) 0]=(l.take (s+1)).map aN:=by
 obtain ⟨y,h1,h2⟩:=Bm h
 rw [h1,h2]; simp [tk]
theorem HA {l:List Str}:(l.drop s).drop 1=l.drop (s+1):=by rw [List.drop_drop]
theorem CM {l:List Str} {y:Int} (h17:(l.length:Int)<=17):(((l.drop 1).take s).map aN).length*1<=17/\((((l.drop 1).take s).map aN).length+[y].length)*8<=140737488355328:=by
 rw [List.length_map,List.length_take,List.length_drop,List.length_singleton]; omega
theorem Ey {l:List Str} (h17:(l.length:Int)<=17) (h:(s:Int)<(l.drop 1).length):I64 ((s:Int)+1):=by
 rw [List.length_drop] at h; constructor <;> omega
end
def uV (ws:List Str):List (Nat × LI):=[(18,{ σ:=Nat,F:=fun k=>([(2,one (.ptr 1 0)),(4,one (.ptr 2 0)),(5,one (.ptr 3 0)),(6,one (.fn 45 [] [(0,0),(3,0)])),(7,one (.ptr 2 3)),(9,one (.bool (.atom (aY (((((((((ws.drop 1).drop 1).drop 1).drop 1).drop 1).drop 1).drop 1).drop 1).getD 0 ⟨[]⟩))))),(81,one (.int (((((((((ws.drop 1).drop 1).drop 1).drop 1).drop 1).drop 1).drop 1).drop 1).drop 1).length)),(82,one (.int k))],[.box 46 ([.fz .str (((((((((((ws.drop 1).drop 1).drop 1).drop 1).drop 1).drop 1).drop 1).drop 1).drop 1).drop k))]),.box 26 ([.int ((0)),.int ((0)),.int ((0)),.int ((0)),.int ((0)),.int ((0)),.int ((0)),.int ((0)),.int ((0)),.em true,.str ((⟨[]⟩))]),.box 26 ([.int ((pk ws)),.int ((tk (ws.drop 1) 0)),.int ((0)),.int ((tk ((ws.drop 1).drop 1) 0)),.int ((tk (((ws.drop 1).drop 1).drop 1) 0)),.int ((tk ((((ws.drop 1).drop 1).drop 1).drop 1) 0)),.int ((tk (((((ws.drop 1).drop 1).drop 1).drop 1).drop 1) 0)),.int ((tk ((((((ws.drop 1).drop 1).drop 1).drop 1).drop 1).drop 1) 0)),.int ((tk (((((((ws.drop 1).drop 1).drop 1).drop 1).drop 1).drop 1).drop 1) 0)),.own 4,.str ((aS (((((((((ws.drop 1).drop 1).drop 1).drop 1).drop 1).drop 1).drop 1).drop 1).getD 0 ⟨[]⟩)))]),.box 4 ([.bool (.atom ((qI (lu ws) ((((((((((ws.drop 1).drop 1).drop 1).drop 1).drop 1).drop 1).drop 1).drop 1).drop 1).take k))))]),.row 3 .int ((((((((((((ws.drop 1).drop 1).drop 1).drop 1).drop 1).drop 1).drop 1).drop 1).drop 1).take k).map aN))]),J:=fun k=>k<=(((((((((ws.drop 1).drop 1).drop 1).drop 1).drop 1).drop 1).drop 1).drop 1).drop 1).length,μ:=fun k=>(((((((((ws.drop 1).drop 1).drop 1).drop 1).drop 1).drop 1).drop 1).drop 1).drop 1).length - k })]
theorem Aa (ws:List Str) (r0:Event) (r1:Bool):fW aP xk (uV ws) Tryd.f32 [.c (.fz .str (ws))] [] [.agg (cellsOf (.nm .event) r0),.c (.bool (.atom (r1)))]=((fun (q9:Bool)=>(fun (q8:Nat)=>(fun (q7:Int)=>(fun (q6:Str)=>(fun (q5:Command)=>(fun (q4:Nat)=>(fun (q3:Option Int)=>(fun (q2:Int)=>(fun (q1:Nat)=>(fun (q0:List Str)=>ws.length*(16:Nat)<=q8->q2<=q2/\q2<(↑ws.length:Int)/\((ws.getD q4 (az Sh.str)).b.length<=q8->q2<=q7/\q7<=(↑ws.length:Int)/\(bl (q3.getD q2)=true->(¬q3.getD q2=(6:Int)->q3.getD q2=r0.kind/\tk (List.drop q1 ws) q2=r0.a/\tk (List.drop q1 (List.drop q1 ws)) q2=r0.b/\q2=q5.kind/\q2=q5.client/\q2=q5.seq/\q2=q5.set/\q2=q5.id/\q2=q5.n/\q5.chunks=[]/\q6=q5.text/\cw (List.drop q1 (List.drop q1 ws)) (cw (List.drop q1 ws) true)=r1)/\(q3.getD q2=(6:Int)->((↑(List.drop q1 (List.drop q1 (List.drop q1 (List.drop q1 (List.drop q1 (List.drop q1 (List.drop q1 (List.drop q1 (List.drop q1 ws))))))))).length:Int)=q2\/(17:Int)<(↑(List.drop q1 (List.drop q1 (List.drop q1 (List.drop q1 (List.drop q1 (List.drop q1 (List.drop q1 (List.drop q1 (List.drop q1 ws))))))))).length:Int)->q2=r0.kind/\q2=r0.a/\q2=r0.b/\q2=q5.kind/\q2=q5.client/\q2=q5.seq/\q2=q5.set/\q2=q5.id/\q2=q5.n/\q5.chunks=[]/\q6=q5.text/\false=r1)/\(¬(↑(List.drop q1 (List.drop q1 (List.drop q1 (List.drop q1 (List.drop q1 (List.drop q1 (List.drop q1 (List.drop q1 (List.drop q1 ws))))))))).length:Int)=q2/\(↑(List.drop q1 (List.drop q1 (List.drop q1 (List.drop q1 (List.drop q1 (List.drop q1 (List.drop q1 (List.drop q1 (List.drop q1 ws))))))))).length:Int)<=(17:Int)->q2<=q2/\q2<(↑(List.drop q1 (List.drop q1 (List.drop q1 (List.drop q1 (List.drop q1 (List.drop q1 (List.drop q1 (List.drop q1 (List.drop q1 ws))))))))).length:Int)/\∀ (x:Str),(fun (db:Int)=>(fun (q15:Str)=>(fun (q14:Prop)=>(fun (q13:List Str)=>(fun (q12:List Str)=>(fun (q11:List (den Sh.str))=>(fun (q10:List Str)=>(List.drop q1 (List.drop q1 (List.drop q1 (List.drop q1 (List.drop q1 (List.drop q1 q11))))))[q4]? = some x->x.b.length<=q8->(aS x).b.length<=q8->(q2<=q7/\q7<=(↑(List.drop q1 (List.drop q1 (List.drop q1 (List.drop q1 (List.drop q1 (List.drop q1 q11)))))).length:Int))/\∃ (s0:Nat),(fun (q21:Int)=>(fun (q20:Int)=>(fun (q19:Nat)=>(fun (q18:List Str)=>(fun (q17:List (den Sh.str))=>(aY x=aY q15/\(↑(List.drop q1 (List.drop q1 (List.drop q1 (List.drop q1 q17)))).length:Int)=(↑q19:Int)/\q2=(↑s0:Int)/\List.drop q1 (List.drop q1 (List.drop q1 (List.drop q1 q17)))=List.drop s0 q12/\q14/\q14/\q14/\q14/\q14/\q14/\q14/\q14/\q14/\q6=q6/\q3.getD q2=pk ws/\tk (List.drop q1 ws) q2=db/\tk (List.drop q1 (List.drop q1 ws)) q2=q2/\tk q11 q2=tk q13 q2/\tk (List.drop q1 q11) q2=q20/\tk (List.drop q1 (List.drop q1 q11)) q2=tk q10 q2/\tk (List.drop q1 (List.drop q1 (List.drop q1 q11))) q2=q21/\tk (List.drop q1 q17) q2=tk q18 q2/\tk (List.drop q1 (List.drop q1 q17)) q2=tk (List.drop q1 q18) q2/\aS x=aS q15/\cw (List.drop q1 (List.drop q1 q17)) (cw (List.drop q1 q17) (cw (List.drop q1 (List.drop q1 (List.drop q1 q11))) (cw (List.drop q1 (List.drop q1 q11)) (cw (List.drop q1 q11) (cw q11 (cw (List.drop q1 (List.drop q1 ws)) (cw (List.drop q1 ws) true)))))))=qI q9 (List.take s0 q12)/\List.map aN (List.take s0 q12)=[])/\s0<=q19/\∀ (s:Nat),(fun (q22:Int)=>s<=q19->((↑s:Int)<(↑q19:Int)->((List.map aN (List.take s q12)).length+[tk (List.drop s q12) q2].length)*(8:Nat)<=q8/\I64 ((↑s:Int)+q7)/\∃ (s':Nat),(aY q15=aY q15/\(↑q19:Int)=(↑q19:Int)/\(↑s:Int)+q7=(↑s':Int)/\List.drop q1 (List.drop s q12)=List.drop s' q12/\q14/\q14/\q14/\q14/\q14/\q14/\q14/\q14/\q14/\q6=q6/\pk ws=pk ws/\db=db/\q14/\tk q13 q2=tk q13 q2/\q20=q20/\tk q10 q2=tk q10 q2/\q21=q21/\tk q18 q2=tk q18 q2/\q22=q22/\aS q15=aS q15/\cw (List.drop s q12) (qI q9 (List.take s q12))=qI q9 (List.take s' q12)/\List.map aN (List.take s q12)++[tk (List.drop s q12) q2]=List.map aN (List.take s' q12))/\s' <= q19/\q19 - s' < q19 - s)/\((↑q19:Int)<=(↑s:Int)->pk ws=r0.kind/\db=r0.a/\q2=r0.b/\tk q13 q2=q5.kind/\q20=q5.client/\tk q10 q2=q5.seq/\q21=q5.set/\tk q18 q2=q5.id/\q22=q5.n/\List.map aN (List.take s q12)=q5.chunks/\aS q15=q5.text/\(qI q9 (List.take s q12) && aY q15)=r1)) (tk (List.drop q1 q18) q2)) (List.drop q1 (List.drop q1 (List.drop q1 q11)))) (List.drop q1 (List.drop q1 q10))) q12.length) (tk (List.drop q1 q13) q2)) (tk (List.drop q1 q10) q2)) (List.drop q1 (List.drop q1 q13))) (List.drop q1 (List.drop q1 (List.drop q1 ws)))) (List.drop q1 q0)) (List.drop q1 (List.drop q1 ws))) (q2=q2)) (q0.getD q4 q6)) (tk (List.drop q1 ws) q2))))/\(bl (q3.getD q2)=false->(¬q3.getD q2=(6:Int)->q3.getD q2=r0.kind/\tk (List.drop q1 ws) q2=r0.a/\q2=r0.b/\q2=q5.kind/\q2=q5.client/\q2=q5.seq/\q2=q5.set/\q2=q5.id/\q2=q5.n/\q5.chunks=[]/\q6=q5.text/\cw (List.drop q1 ws) true=r1)/\(q3.getD q2=(6:Int)->((↑(List.drop q1 (List.drop q1 (List.drop q1 (List.drop q1 (List.drop q1 (List.drop q1 (List.drop q1 (List.drop q1 ws)))))))).length:Int)=q2\/(17:Int)<(↑(List.drop q1 (List.drop q1 (List.drop q1 (List.drop q1 (List.drop q1 (List.drop q1 (List.drop q1 (List.drop q1 ws)))))))).length:Int)->q2=r0.kind/\q2=r0.a/\q2=r0.b/\q2=q5.kind/\q2=q5.client/\q2=q5.seq/\q2=q5.set/\q2=q5.id/\q2=q5.n/\q5.chunks=[]/\q6=q5.text/\false=r1)/\(¬(↑(List.drop q1 (List.drop q1 (List.drop q1 (List.drop q1 (List.drop q1 (List.drop q1 (List.drop q1 (List.drop q1 ws)))))))).length:Int)=q2/\(↑(List.drop q1 (List.drop q1 (List.drop q1 (List.drop q1 (List.drop q1 (List.drop q1 (List.drop q1 (List.drop q1 ws)))))))).length:Int)<=(17:Int)->q2<=q2/\q2<(↑(List.drop q1 (List.drop q1 (List.drop q1 (List.drop q1 (List.drop q1 (List.drop q1 (List.drop q1 (List.drop q1 ws)))))))).length:Int)/\∀ (x:Str),(fun (q30:Int)=>(fun (q29:Str)=>(fun (q28:List (den Sh.str))=>(fun (q27:Prop)=>(fun (q26:List Str)=>(fun (q25:List Str)=>(fun (q24:List (den Sh.str))=>(fun (q23:List Str)=>(List.drop q1 (List.drop q1 (List.drop q1 (List.drop q1 q24))))[q4]? = some x->x.b.length<=q8->(aS x).b.length<=q8->(q2<=q7/\q7<=(↑(List.drop q1 (List.drop q1 (List.drop q1 (List.drop q1 q24)))).length:Int))/\∃ (s0:Nat),(fun (q35:List (den Sh.str))=>(fun (q34:Int)=>(fun (q33:Int)=>(fun (q32:Nat)=>(fun (q31:List Str)=>(aY x=aY q29/\(↑(List.drop q1 (List.drop q1 (List.drop q1 q35))).length:Int)=(↑q32:Int)/\q2=(↑s0:Int)/\List.drop q1 (List.drop q1 (List.drop q1 q35))=List.drop s0 q25/\q27/\q27/\q27/\q27/\q27/\q27/\q27/\q27/\q27/\q6=q6/\q3.getD q2=pk ws/\tk (List.drop q1 ws) q2=q30/\q27/\tk q28 q2=tk q26 q2/\tk (List.drop q1 q28) q2=q33/\tk (List.drop q1 (List.drop q1 q28)) q2=tk q23 q2/\tk (List.drop q1 q24) q2=q34/\tk (List.drop q1 (List.drop q1 q24)) q2=tk q31 q2/\tk (List.drop q1 q35) q2=tk (List.drop q1 q31) q2/\aS x=aS q29/\cw (List.drop q1 q35) (cw (List.drop q1 (List.drop q1 q24)) (cw (List.drop q1 q24) (cw (List.drop q1 (List.drop q1 q28)) (cw (List.drop q1 q28) (cw q28 (cw (List.drop q1 ws) true))))))=qI q9 (List.take s0 q25)/\List.map aN (List.take s0 q25)=[])/\s0<=q32/\∀ (s:Nat),(fun (q36:Int)=>s<=q32->((↑s:Int)<(↑q32:Int)->((List.map aN (List.take s q25)).length+[tk (List.drop s q25) q2].length)*(8:Nat)<=q8/\I64 ((↑s:Int)+q7)/\∃ (s':Nat),(aY q29=aY q29/\(↑q32:Int)=(↑q32:Int)/\(↑s:Int)+q7=(↑s':Int)/\List.drop q1 (List.drop s q25)=List.drop s' q25/\q27/\q27/\q27/\q27/\q27/\q27/\q27/\q27/\q27/\q6=q6/\pk ws=pk ws/\q30=q30/\q27/\tk q26 q2=tk q26 q2/\q33=q33/\tk q23 q2=tk q23 q2/\q34=q34/\tk q31 q2=tk q31 q2/\q36=q36/\aS q29=aS q29/\cw (List.drop s q25) (qI q9 (List.take s q25))=qI q9 (List.take s' q25)/\List.map aN (List.take s q25)++[tk (List.drop s q25) q2]=List.map aN (List.take s' q25))/\s' <= q32/\q32 - s' < q32 - s)/\((↑q32:Int)<=(↑s:Int)->pk ws=r0.kind/\q30=r0.a/\q2=r0.b/\tk q26 q2=q5.kind/\q33=q5.client/\tk q23 q2=q5.seq/\q34=q5.set/\tk q31 q2=q5.id/\q36=q5.n/\List.map aN (List.take s q25)=q5.chunks/\aS q29=q5.text/\(qI q9 (List.take s q25) && aY q29)=r1)) (tk (List.drop q1 q31) q2)) (List.drop q1 (List.drop q1 q23))) q25.length) (tk (List.drop q1 q26) q2)) (tk (List.drop q1 q23) q2)) (List.drop q1 (List.drop q1 q24))) (List.drop q1 (List.drop q1 q26))) (List.drop q1 (List.drop q1 q28))) (List.drop q1 q0)) (List.drop q1 (List.drop q1 ws))) (q2=q2)) (List.drop q1 (List.drop q1 ws))) (q0.getD q4 q6)) (tk (List.drop q1 ws) q2)))))) (List.drop q1 (List.drop q1 (List.drop q1 (List.drop q1 (List.drop q1 (List.drop q1 (List.drop q1 (List.drop q1 ws))))))))) (1:Nat)) (0:Int)) (jF (ws.getD q4 (az Sh.str)))) (0:Nat)) r0.c) (Str.mk [])) (1:Int)) (140737488355328:Nat)) (lu ws)):=by kernel_rfl
theorem zT (ws:List Str) (h0:ws≠[]):Sat Tryd.prog (aj aP) 32 [.c (.fz .str (ws))] [] ⟨[ws≠[]],[.agg (cellsOf (.nm .event) (bz ws)),.c (.bool (.atom ((bP ws))))],none,false⟩:=by
 refine bB qb (uV ws) Tryd.func32 (by decide) (by kernel_rfl) ?_
 rw [Aa]
 iterate 3 ((all_goals (repeat' (first | with_reducible apply dW | with_reducible refine dY ?_ | intro))); (all_goals try (first | exact ga | exact rfl | exact (wi (by assumption)) | exact (zy (by assumption)) | exact (Gc ab ab) | (rw [(Fo ab).1]) | (rw [(Fo ab).2]) | (rw [(Eg ab ab).1]) | (rw [(Eg ab ab).2]) | (rw [(Fm ab ab).1]) | (rw [(Fm ab ab).2]) | (rw [(DT ab ab ab ab).1]) | (rw [(DT ab ab ab ab).2]) | exact (congrArg aS (gx ab)) | exact (congrArg aY (gx ab)) | exact D_ | exact (Fy ab) | exact (Ia ab) | exact HA | exact (CM ab).2 | exact (Ey ab ab))); all_goals try first | refine ⟨‹Nat› + 1,?_⟩ | refine ⟨0,?_⟩)
def vp:cG:=(dr 32 (cV (aA (kC (cL .str)) br) bt fun (ws,_) (_)=>⟨[ws≠[]],[.agg (cellsOf (.nm .event) (bz ws)),.c (.bool (.atom ((bP ws))))],none,false⟩) xk)
theorem qD:aZ Tryd.prog (aj aP) vp:=(aD (aE (ae (aH dx) aq) au fun (ws,_) (_) hp=>zT ws (ot hp)) qb)
abbrev bS (s:Str):List Str:=bd s ⟨[32]⟩
def yD (s:Str):Bool:=bP (bS s) && decide (ax (bz (bS s))=0) && decide (ao (bz (bS s))=s)
def aV (s:Str):Event:=if yD s=true then bz (bS s) else gq
def bN (s:Str):Int:=if yD s=true then 0 else 240
theorem mK {s sep:Str}:bd s sep≠[]:=by
 unfold bd
 intro h
 exact (bF _ s.b).2 (List.map_eq_nil_iff.1 h)
section
variable {s:Str}
theorem Ed (h1:bP (bS s)=true) (h2:ax (bz (bS s))=0) (h3:ao (bz (bS s))=s):aV s=bz (bS s)/\bN s=0:=by
 have h:yD s=true:=by rw [yD,h1,decide_eq_true h2,decide_eq_true h3]; rfl
 rw [aV,bN,if_pos h,if_pos h]; exact ⟨rfl,rfl⟩
theorem zH (h:bP (bS s)=false\/¬ ax (bz (bS s))=0\/¬ ao (bz (bS s))=s):aV s=gq/\bN s=240:=by
 have h:¬ yD s=true:=by
  rw [yD,Bool.and_eq_true,Bool.and_eq_true,decide_eq_true_eq,decide_eq_true_eq]
  rintro ⟨⟨h1,h2⟩,h3⟩
  rcases h with h | h | h
  ·rw [h] at h1; cases h1
  ·exact h h2
  ·exact h h3
 rw [aV,bN,if_neg h,if_neg h]; exact ⟨rfl,rfl⟩
end
theorem zj (s:Str) (r0:Event) (r1:Int):fW aP vp [] Tryd.f13 [.c (.str (s))] [] [.agg (cellsOf (.nm .event) r0),.c (.int (r1))]=((fun (q4:Command)=>(fun (q3:Int)=>(fun (q2:List Str)=>(fun (q1:Prop)=>(fun (q0:Event)=>s.b.length<=(140737488355328:Nat)->s.b.length<(4294967281:Nat)/\[(32:UInt8)].length=(1:Nat)/\(q2.length*(16:Nat)<=(140737488355328:Nat)->¬q2=[]/\(I64 q0.kind->I64 q0.a->I64 q0.b->I64 q0.c.kind->I64 q0.c.client->I64 q0.c.seq->I64 q0.c.set->I64 q0.c.id->I64 q0.c.n->q0.c.chunks.length*(8:Nat)<=(140737488355328:Nat)->q0.c.text.b.length<=(140737488355328:Nat)->(bP q2=false->q1)/\(bP q2=true->(ao q0).b.length<=(140737488355328:Nat)->I64 (ax q0)->(¬ax q0=q3\/¬ao q0=s->q1)/\(ax q0=q3/\ao q0=s->q0.kind=r0.kind/\q0.a=r0.a/\q0.b=r0.b/\q0.c.kind=q4.kind/\q0.c.client=q4.client/\q0.c.seq=q4.seq/\q0.c.set=q4.set/\q0.c.id=q4.id/\q0.c.n=q4.n/\q0.c.chunks=q4.chunks/\q0.c.text=q4.text/\q3=r1))))) (bz q2)) (q3=r0.kind/\q3=r0.a/\q3=r0.b/\q3=q4.kind/\q3=q4.client/\q3=q4.seq/\q3=q4.set/\q3=q4.id/\q3=q4.n/\q4.chunks=[]/\Str.mk []=q4.text/\(240:Int)=r1)) (bd s (Str.mk [(32:UInt8)]))) (0:Int)) r0.c):=by kernel_rfl
theorem yB (s:Str) (h0:s.b.length<4294967281):Sat Tryd.prog (aj aP) 13 [.c (.str (s))] [] ⟨[s.b.length<4294967281],[.agg (cellsOf (.nm .event) (aV s)),.c (.int ((bN s)))],none,false⟩:=by
 refine bB qD [] Tryd.func13 (by decide) (by kernel_rfl) ?_
 rw [zj]
 (repeat' (first | with_reducible apply dW | with_reducible refine dY ?_ | intro))
 all_goals (first | exact ga | exact h0 | exact rfl | exact (mK ab) | (rw [(Ed ab ab ab).1]) | (rw [(Ed ab ab ab).2]) | (rw [(zH (.inl ab)).1]) | (rw [(zH (.inl ab)).2]) | (rw [(zH (.inr ab)).1]) | (rw [(zH (.inr ab)).2]))
def jG:cG:=(dr 13 (cV (aA (kC cS) br) bt fun (s,_) (_)=>⟨[s.b.length<4294967281],[.agg (cellsOf (.nm .event) (aV s)),.c (.int ((bN s)))],none,false⟩) vp)
theorem dB:aZ Tryd.prog (aj aP) jG:=(aD (aE (ae (aH cq) aq) au fun (s,_) (_) hp=>yB s (ot hp)) qD)
def bb (k:Int):Str:=if k<0\/10<=k then ⟨[]⟩ else cA k
theorem GO {k:Int} (h:k<0\/10<=k):(⟨[]⟩:Str)=bb k:=by rw [bb,if_pos h]
theorem Gw {k:Int} (h1:0<=k) (h2:k<10):cA k=bb k:=by rw [bb,if_neg (by omega)]
theorem Hg:∀ n:Fin 16,(aQ.drop n.1).take ((((n.1:Nat):Int)+1).toNat - n.1)=[eU n.1]:=by decide
theorem Ik {n:Nat} (h:n<16):(aQ.drop n).take (((n:Int)+1).toNat - n)=[eU n]:=Hg ⟨n,h⟩
section
variable {s:Str} {k:Nat} {c:UInt8} {A B:List UInt8}
theorem db:(c / UInt8.ofNat 16).toNat=c.toNat / 16:=by rw [UInt8.toNat_div]; rfl
theorem Ie:(c % UInt8.ofNat 16).toNat=c.toNat % 16:=by rw [UInt8.toNat_mod]; rfl
theorem qP:(c / UInt8.ofNat 16).toNat<16:=by have:=c.toNat_lt; rw [db]; omega
theorem qO:(c % UInt8.ofNat 16).toNat<16:=by rw [Ie]; omega
theorem GH:I64 ((((c / UInt8.ofNat 16).toNat:Nat):Int)+1):=by have:=qP (c:=c); constructor <;> omega
theorem Gn:I64 ((((c % UInt8.ofNat 16).toNat:Nat):Int)+1):=by have:=qO (c:=c); constructor <;> omega
theorem GZ:(((c / UInt8.ofNat 16).toNat:Nat):Int)+1<=(aQ.length:Int):=by have:=qP (c:=c); show _<=(16:Int); omega
theorem Gk:(((c % UInt8.ofNat 16).toNat:Nat):Int)+1<=(aQ.length:Int):=by have:=qO (c:=c); show _<=(16:Int); omega
theorem Ir:0<(UInt8.ofNat 16).toNat:=by decide
theorem sR {m n:Nat} {l:List UInt8}:((l.drop n).take m).length<=l.length:=by rw [List.length_take,List.length_drop]; omega
theorem FZ {m n:Nat} (h:s.b.length<=1000):((s.b.take k).flatMap bW).length+((aQ.drop n).take m).length<=140737488355328:=by
 have:=sR (m:=m) (n:=n) (l:=aQ)
 rw [show aQ.length=16 from rfl] at this
 rw [eO,List.length_take]; omega
theorem GG {m n m' n':Nat} (h:s.b.length<=1000):((s.b.take k).flatMap bW++(aQ.drop n').take m').length+((aQ.drop n).take m).length<=140737488355328:=by
 have:=sR (m:=m) (n:=n) (l:=aQ)
 have h2:=sR (m:=m') (n:=n') (l:=aQ)
 rw [show aQ.length=16 from rfl] at this h2
 rw [List.length_append,eO,List.length_take]; omega
theorem Gp (h:(k:Int)<(s.b.length:Int)):Str.mk ((s.b.take k).flatMap bW++(aQ.drop (s.b.getD k 0 / UInt8.ofNat 16).toNat).take (((((s.b.getD k 0 / UInt8.ofNat 16).toNat:Nat):Int)+1).toNat - (s.b.getD k 0 / UInt8.ofNat 16).toNat)++(aQ.drop (s.b.getD k 0 % UInt8.ofNat 16).toNat).take (((((s.b.getD k 0 % UInt8.ofNat 16).toNat:Nat):Int)+1).toNat - (s.b.getD k 0 % UInt8.ofNat 16).toNat))=Str.mk ((s.b.take (k+1)).flatMap bW):=by
 rw [Ik qP,Ik qO,lO (bg (d:=(0:UInt8)) (show k<s.b.length by omega)),List.flatMap_append,db,Ie,List.append_assoc]; rfl
end
def cW (c:UInt8):Int:=if (97:Int)<=c.toNat then (c.toNat:Int) - 97+10 else (c.toNat:Int) - 48
theorem Ic {c:UInt8} (h:(((UInt8.ofNat 97).toNat:Nat):Int)<=c.toNat):(c.toNat:Int) - 97+10=cW c:=by
 have h:(97:Int)<=c.toNat:=h
 rw [cW,if_pos h]
theorem H_ {c:UInt8} (h:(c.toNat:Int)<(((UInt8.ofNat 97).toNat:Nat):Int)):(c.toNat:Int) - 48=cW c:=by
 have h:(c.toNat:Int)<97:=h
 rw [cW,if_neg (by omega)]
def dc (l:List UInt8):Nat->Int
 | 0=>0
 | k+1=>10*dc l k+((l.getD k 0).toNat:Int) - 48
def aC (s:Str):Int:=dc s.b (min s.b.length 9)
def pw:Nat->Int
 | 0=>1
 | k+1=>10*pw k+300
theorem td (l:List UInt8):∀ k,-pw k<=dc l k/\dc l k<=pw k
 | 0=>⟨by simp [pw,dc],by simp [pw,dc]⟩
 | k+1=>by
  have:=td l k
  have h:=(l.getD k 0).toNat_lt
  simp only [dc,pw]; omega
theorem EU:∀ k,k<=9->0<=pw k/\pw k<=1000000000000:=by decide
theorem n_ {l:List UInt8} {k:Nat} (h:k<=9):-1000000000000<=dc l k/\dc l k<=1000000000000:=by
 have:=td l k
 have:=EU k h
 omega
section
variable {s:Str} {k:Nat}
theorem Gg (h:k<=9):I64 (10*dc s.b k):=by have:=n_ (l:=s.b) h; constructor <;> omega
theorem Hv (h:k<=9):I64 (10*dc s.b k+((s.b.getD k 0).toNat:Int)):=by have:=n_ (l:=s.b) h; have:=(s.b.getD k 0).toNat_lt; constructor <;> omega
theorem GJ (h:k<=9):I64 (10*dc s.b k+((s.b.getD k 0).toNat:Int) - 48):=by have:=n_ (l:=s.b) h; have:=(s.b.getD k 0).toNat_lt; constructor <;> omega
theorem Gj (h:k<=9) (hl:k<=s.b.length) (he:(s.b.length:Int)<=k\/9<=(k:Int)):dc s.b k=aC s:=by
 rw [aC,show min s.b.length 9=k by omega]
end
def ri (b:UInt8):List (List UInt8)->List (List UInt8)
 | []=>[[b]]
 | [x]=>[x++[b]]
 | x :: y :: r=>x :: ri b (y :: r)
theorem dw {c:UInt8}:∀ {x:List UInt8},ak c (x++[c])=ak c x++[[]]
 | []=>by simp [ak]
 | b :: x=>by
  rw [List.cons_append,ak,ak,dw]
  split
  ·rfl
  ·cases h:ak c x with
   | nil=>exact absurd h (bF c x).2
   | cons y r=>rfl
theorem dE {c b:UInt8} (hb:¬ b=c):∀ {x:List UInt8},ak c (x++[b])=ri b (ak c x)
 | []=>by simp [ak,hb,pR,ri]
 | d :: x=>by
  rw [List.cons_append,ak,ak,dE hb]
  split
  ·cases h:ak c x with
   | nil=>exact absurd h (bF c x).2
   | cons y r=>rfl
  ·cases h:ak c x with
   | nil=>exact absurd h (bF c x).2
   | cons y r=>cases r <;> rfl
theorem o_ {b:UInt8}:∀ {l:List (List UInt8)},l≠[]->ri b l=l.set (l.length - 1) (l.getD (l.length - 1) []++[b])
 | [],h=>absurd rfl h
 | [x],_=>rfl
 | x :: y :: r,_=>by
  have e1:(y :: r).length - 1=r.length:=by simp
  have e2:(x :: y :: r).length - 1=r.length+1:=by simp
  rw [ri,o_ (by simp),e1,e2]; rfl
section
variable {s:Str} {k:Nat}
theorem set_mk {x:List UInt8}:∀ {l:List (List UInt8)} {n:Nat},(l.map Str.mk).set n ⟨x⟩=(l.set n x).map Str.mk
 | [],n=>by simp
 | a :: l,0=>rfl
 | a :: l,n+1=>by rw [List.map_cons,List.set_cons_succ,List.set_cons_succ,List.map_cons,set_mk]
theorem nM:∀ {l:List (List UInt8)} {n:Nat},((l.map Str.mk).getD n (az .str)).b=l.getD n []
 | [],n=>by simp [az]
 | a :: l,0=>rfl
 | a :: l,n+1=>by simpa using nM (l:=l) (n:=n)
theorem yN {a b:UInt8} (h:(a.toNat:Int)=(b.toNat:Int)):a=b:=UInt8.toNat_inj.1 (by omega)
theorem FX:[(⟨[]⟩:Str)]=(ak 32 (s.b.take 0)).map Str.mk:=rfl
theorem HR (h:(k:Int)<(s.b.length:Int)) (hc:((s.b.getD k 0).toNat:Int)=(((UInt8.ofNat 32).toNat:Nat):Int)):(ak 32 (s.b.take k)).map Str.mk++[⟨[]⟩]=(ak 32 (s.b.take (k+1))).map Str.mk:=by
 rw [lO (bg (d:=(0:UInt8)) (show k<s.b.length by omega)),yN hc,show UInt8.ofNat 32=32 from rfl,dw,List.map_append]; rfl
theorem HW (h:(k:Int)<(s.b.length:Int)) (hc:¬ ((s.b.getD k 0).toNat:Int)=(((UInt8.ofNat 32).toNat:Nat):Int)):((ak 32 (s.b.take k)).map Str.mk).set ((((ak 32 (s.b.take k)).map Str.mk).length:Int) - 1).toNat ⟨(((ak 32 (s.b.take k)).map Str.mk).getD ((((ak 32 (s.b.take k)).map Str.mk).length:Int) - 1).toNat (az .str)).b++(s.b.drop k).take (((k:Int)+1).toNat - k)⟩=(ak 32 (s.b.take (k+1))).map Str.mk:=by
 have hne:=(bF 32 (s.b.take k)).2
 have hb:¬ s.b.getD k 0=32:=fun e=>hc (by rw [e]; rfl)
 have h1:(s.b.drop k).take (((k:Int)+1).toNat - k)=[s.b.getD k 0]:=by
  rw [show ((k:Int)+1).toNat - k=1 by omega,List.drop_eq_getElem_cons (show k<s.b.length by omega),List.getD_eq_getElem?_getD,List.getElem?_eq_getElem (show k<s.b.length by omega)]; rfl
 rw [h1,nM,set_mk,lO (bg (d:=(0:UInt8)) (show k<s.b.length by omega)),dE hb,o_ hne,List.length_map,show (((ak 32 (s.b.take k)).length:Int) - 1).toNat=(ak 32 (s.b.take k)).length - 1 by omega]
theorem BF {x:Str} (h:s.b.length<=1000000):(((ak 32 (s.b.take k)).map Str.mk).length+[x].length)*16<=140737488355328:=by
 have:=(bF 32 (s.b.take k)).1
 rw [List.length_take] at this
 rw [List.length_map,List.length_singleton]; omega
theorem yh:(0:Int)<=(((ak 32 (s.b.take k)).map Str.mk).length:Int) - 1:=by
 have:=(bF 32 (s.b.take k)).2
 rw [List.length_map]
 cases h:ak 32 (s.b.take k) with
 | nil=>exact absurd h this
 | cons _ _=>simp
theorem CQ (h:s.b.length<=1000000):I64 ((((ak 32 (s.b.take k)).map Str.mk).length:Int) - 1):=by
 have h1:=yh (s:=s) (k:=k)
 have:=(bF 32 (s.b.take k)).1
 rw [List.length_take] at this
 rw [List.length_map] at h1 ⊢
 constructor <;> omega
theorem BK {m:Nat} {n:Nat} (h:s.b.length<=1000000):(((ak 32 (s.b.take k)).map Str.mk).getD n (az .str)).b.length+((s.b.drop k).take m).length<=140737488355328:=by
 rw [nM]
 have h1:((ak 32 (s.b.take k)).getD n []).length<=(s.b.take k).length:=by
  rw [List.getD_eq_getElem?_getD]
  cases hq:(ak 32 (s.b.take k))[n]? with
  | none=>simp
  | some x=>exact dI 32 (s.b.take k) x (List.mem_of_getElem? hq)
 rw [List.length_take] at h1
 have:=sR (m:=m) (n:=k) (l:=s.b)
 omega
theorem CP (h:(s.b.length:Int)<=k):(ak 32 (s.b.take k)).map Str.mk=bd s ⟨[32]⟩:=by rw [List.take_of_length_le (by omega)]; rfl
end
def AS (s:Str):List (Nat × LI):=[(6,{ σ:=Nat,F:=fun k=>([(0,one (.str (s))),(3,one (.str ⟨aQ⟩)),(4,one (.str ⟨(s.b.take k).flatMap bW⟩)),(5,one (.int k))],[]),J:=fun k=>k<=s.b.length,μ:=fun k=>s.b.length - k })]
def rQ (s:Str):List (Nat × LI):=[(3,{ σ:=Nat,F:=fun k=>([(0,one (.str (s))),(3,one (.int (dc s.b k))),(4,one (.int k))],[]),J:=fun k=>k<=s.b.length/\k<=9,μ:=fun k=>9 - k })]
def te (s:Str):List (Nat × LI):=[(3,{ σ:=Nat,F:=fun k=>([(0,one (.str (s))),(3,one (.own 0)),(4,one (.int k))],[.row 9 .str (((ak 32 (s.b.take k)).map Str.mk))]),J:=fun k=>k<=s.b.length,μ:=fun k=>s.b.length - k })]
theorem BI (k:Int) (r0:Str):fW aP jG [] Tryd.f29 [.c (.int (k))] [] [.c (.str (r0))]=((fun (q1:UInt8)=>(fun (q0:List (den Sh.str))=>I64 k->(k<(0:Int)\/(↑q0.length:Int)<=k->Str.mk []=r0)/\((0:Int)<=k/\k<(↑q0.length:Int)->(0:Int)<=k/\k<(↑q0.length:Int)/\((q0.getD k.toNat (az Sh.str)).b.length<=(140737488355328:Nat)->q0.getD k.toNat (az Sh.str)=r0))) [Str.mk [],Str.mk [q1,(105:UInt8),(109:UInt8),(101:UInt8),(111:UInt8),(117:UInt8),q1],Str.mk [(98:UInt8),(101:UInt8),(97:UInt8),q1],Str.mk [q1,(97:UInt8),(107:UInt8),(101:UInt8)],Str.mk [(100:UInt8),(114:UInt8),(111:UInt8),(112:UInt8)],Str.mk [q1,(119:UInt8),(105:UInt8),(99:UInt8),(101:UInt8)],Str.mk [(99:UInt8),(97:UInt8),(108:UInt8),(108:UInt8)],Str.mk [(100:UInt8),(111:UInt8),(111:UInt8),(109:UInt8)],Str.mk [(99:UInt8),(114:UInt8),(97:UInt8),(115:UInt8),(104:UInt8)],Str.mk [(115:UInt8),q1,(97:UInt8),(114:UInt8),q1]]) (116:UInt8)):=by kernel_rfl
theorem CD (k:Int):Sat Tryd.prog (aj aP) 29 [.c (.int (k))] [] ⟨[],[.c (.str ((bb k)))],none,false⟩:=by
 refine bB dB [] Tryd.func29 (by decide) (by kernel_rfl) ?_
 rw [BI]
 (repeat' (first | with_reducible apply dW | with_reducible refine dY ?_ | intro))
 all_goals (try simp only [List.length_cons,List.length_nil] at *)
 all_goals (first | exact ga | exact (GO bY) | exact (Gw bY bY))
theorem EI (k:Int) (r0:Bool):fW aP jG [] Tryd.f30 [.c (.int (k))] [] [.c (.bool (.atom (r0)))]=(I64 k->(decide (k=(7:Int)) || decide (k=(8:Int)) || decide (k=(9:Int)))=r0):=by kernel_rfl
theorem ET (k:Int):Sat Tryd.prog (aj aP) 30 [.c (.int (k))] [] ⟨[],[.c (.bool (.atom ((bl k))))],none,false⟩:=by
 refine bB dB [] Tryd.func30 (by decide) (by kernel_rfl) ?_
 rw [EI]
 grind [bl]
theorem CE (s:Str) (r0:Str):fW aP jG (AS s) Tryd.f31 [.c (.str (s))] [] [.c (.str (r0))]=((fun (q4:List UInt8)=>(fun (q3:Nat)=>(fun (q2:Int)=>(fun (q1:UInt8)=>(fun (q0:UInt8)=>q3<=(140737488355328:Nat)->(s=Str.mk []->Str.mk [(45:UInt8)]=r0)/\(¬s=Str.mk []->∃ (s0:Nat),(s=s/\Str.mk [(48:UInt8),(49:UInt8),(50:UInt8),(51:UInt8),(52:UInt8),(53:UInt8),(54:UInt8),(55:UInt8),(56:UInt8),(57:UInt8),(97:UInt8),(98:UInt8),(99:UInt8),(100:UInt8),(101:UInt8),(102:UInt8)]=Str.mk aQ/\Str.mk []=Str.mk (List.flatMap bW (List.take s0 q4))/\(0:Int)=(↑s0:Int))/\s0<=q3/\∀ (s_1:Nat),(fun (q8:Prop)=>(fun (q7:List UInt8)=>(fun (q6:Nat)=>(fun (q5:Nat)=>s_1<=q3->(q8->(0:Int)<=(↑s_1:Int)/\q8/\(0:Nat)<q0.toNat/\(0:Int)<=(↑s_1:Int)/\q8/\(0:Nat)<q0.toNat/\I64 ((↑q5:Int)+q2)/\((0:Int)<=(↑q5:Int)/\(↑q5:Int)<=(↑q5:Int)+q2/\(↑q5:Int)+q2<=(↑aQ.length:Int))/\q7.length+(List.take (((↑q5:Int)+q2).toNat - q5) (List.drop q5 aQ)).length<=(140737488355328:Nat)/\I64 ((↑q6:Int)+q2)/\((0:Int)<=(↑q6:Int)/\(↑q6:Int)<=(↑q6:Int)+q2/\(↑q6:Int)+q2<=(↑aQ.length:Int))/\(q7++List.take (((↑q5:Int)+q2).toNat - q5) (List.drop q5 aQ)).length+(List.take (((↑q6:Int)+q2).toNat - q6) (List.drop q6 aQ)).length<=(140737488355328:Nat)/\I64 ((↑s_1:Int)+q2)/\∃ (s':Nat),(s=s/\Str.mk aQ=Str.mk aQ/\Str.mk (q7++List.take (((↑q5:Int)+q2).toNat - q5) (List.drop q5 aQ)++List.take (((↑q6:Int)+q2).toNat - q6) (List.drop q6 aQ))=Str.mk (List.flatMap bW (List.take s' q4))/\(↑s_1:Int)+q2=(↑s':Int))/\s' <= q3/\q3 - s' < q3 - s_1)/\((↑q3:Int)<=(↑s_1:Int)->Str.mk q7=r0)) (q4.getD s_1 q1 / q0).toNat) (q4.getD s_1 q1 % q0).toNat) (List.flatMap bW (List.take s_1 q4))) ((↑s_1:Int)<(↑q3:Int)))) (UInt8.ofNat (16:Nat))) (0:UInt8)) (1:Int)) q4.length) s.b):=by kernel_rfl
theorem Cm (s:Str) (h0:s.b.length<=1000):Sat Tryd.prog (aj aP) 31 [.c (.str (s))] [] ⟨[s.b.length<=1000],[.c (.str ((⟨aJ s.b⟩)))],none,false⟩:=by
 refine bB dB (AS s) Tryd.func31 (by decide) (by kernel_rfl) ?_
 rw [CE]
 iterate 3 ((all_goals (repeat' (first | with_reducible apply dW | with_reducible refine dY ?_ | intro))); (all_goals try (first | exact ga | exact rfl | exact (Io ab) | exact Ir | with_reducible exact GH | with_reducible exact Gn | with_reducible exact GZ | with_reducible exact Gk | with_reducible exact (FZ h0) | with_reducible exact (GG h0) | exact (Gp ab) | exact (Ii ab ab))); all_goals try first | refine ⟨‹Nat› + 1,?_⟩ | refine ⟨0,?_⟩)
theorem zW (c:UInt8) (r0:Int):fW aP jG [] Tryd.f36 [.c (.u8 (c))] [] [.c (.int (r0))]=((fun (q0:Int)=>((↑(UInt8.ofNat (97:Nat)).toNat:Int)<=q0->I64 (q0 - (97:Int))/\I64 (q0 - (97:Int)+(10:Int))/\q0 - (97:Int)+(10:Int)=r0)/\(q0<(↑(UInt8.ofNat (97:Nat)).toNat:Int)->I64 (q0 - (48:Int))/\q0 - (48:Int)=r0)) (↑c.toNat:Int)):=by kernel_rfl
theorem zl (c:UInt8):Sat Tryd.prog (aj aP) 36 [.c (.u8 (c))] [] ⟨[],[.c (.int ((cW c)))],none,false⟩:=by
 refine bB dB [] Tryd.func36 (by decide) (by kernel_rfl) ?_
 rw [zW]
 (repeat' (first | with_reducible apply dW | with_reducible refine dY ?_ | intro))
 all_goals (first | exact ga | exact (Ic ab) | exact (H_ ab) | (have:=c.toNat_lt; constructor <;> omega))
theorem vq (s:Str) (r0:Int):fW aP jG (rQ s) Tryd.f35 [.c (.str (s))] [] [.c (.int (r0))]=((fun (q0:Nat)=>q0<=(140737488355328:Nat)->∃ (s0:Nat),(s=s/\(0:Int)=dc s.b s0/\(0:Int)=(↑s0:Int))/\(s0<=q0/\s0<=(9:Nat))/\∀ (s_1:Nat),(fun (q1:Int)=>s_1<=q0/\s_1<=(9:Nat)->((↑s_1:Int)<(↑q0:Int)/\(↑s_1:Int)<(9:Int)->I64 ((10:Int)*dc s.b s_1)/\(0:Int)<=(↑s_1:Int)/\(↑s_1:Int)<(↑q0:Int)/\I64 q1/\I64 (q1 - (48:Int))/\I64 ((↑s_1:Int)+(1:Int))/\∃ (s':Nat),(s=s/\q1 - (48:Int)=dc s.b s' /\ (↑s_1:Int)+(1:Int)=(↑s':Int))/\(s' <= q0/\s' <= (9:Nat))/\(9:Nat) - s' < (9:Nat) - s_1)/\((↑q0:Int)<=(↑s_1:Int)\/(9:Int)<=(↑s_1:Int)->dc s.b s_1=r0)) ((10:Int)*dc s.b s_1+(↑(s.b.getD s_1 (0:UInt8)).toNat:Int))) s.b.length):=by kernel_rfl
theorem vM (s:Str):Sat Tryd.prog (aj aP) 35 [.c (.str (s))] [] ⟨[],[.c (.int ((aC s)))],none,false⟩:=by
 refine bB dB (rQ s) Tryd.func35 (by decide) (by kernel_rfl) ?_
 rw [vq]
 iterate 3 ((all_goals (repeat' (first | with_reducible apply dW | with_reducible refine dY ?_ | intro))); (all_goals try (first | exact ga | exact rfl | exact (Gg bY) | exact (Hv bY) | exact (GJ bY) | exact (Gj bY bY ab))); all_goals try first | refine ⟨‹Nat› + 1,?_⟩ | refine ⟨0,?_⟩)
theorem wm (s:Str) (r0:List Str):fW aP jG (te s) Tryd.f34 [.c (.str (s))] [] [.c (.fz .str (r0))]=((fun (q3:List UInt8)=>(fun (q2:Nat)=>(fun (q1:Int)=>(fun (q0:UInt8)=>q2<=(140737488355328:Nat)->∃ (s0:Nat),(s=s/\(0:Int)=(↑s0:Int)/\[Str.mk []]=List.map Str.mk (ak q0 (List.take s0 q3)))/\s0<=q2/\∀ (s_1:Nat),(fun (q6:Prop)=>(fun (q5:Int)=>(fun (q4:List (den Sh.str))=>s_1<=q2->((↑s_1:Int)<(↑q2:Int)->(0:Int)<=(↑s_1:Int)/\(↑s_1:Int)<(↑q2:Int)/\(q6->(q4.length+[Str.mk []].length)*(16:Nat)<=(140737488355328:Nat)/\I64 q5/\∃ (s':Nat),(s=s/\q5=(↑s':Int)/\q4++[Str.mk []]=List.map Str.mk (ak q0 (List.take s' q3)))/\s' <= q2/\q2 - s' < q2 - s_1)/\(¬q6->I64 ((↑q4.length:Int) - q1)/\I64 ((↑q4.length:Int) - q1)/\(0:Int)<=(↑q4.length:Int) - q1/\(↑q4.length:Int) - q1<(↑q4.length:Int)/\I64 q5/\(0:Int)<=(↑s_1:Int)/\(↑s_1:Int)<=q5/\q5<=(↑q2:Int)/\(q4.getD ((↑q4.length:Int) - q1).toNat (az Sh.str)).b.length+(List.take (q5.toNat - s_1) (List.drop s_1 q3)).length<=(140737488355328:Nat)/\(0:Int)<=(↑q4.length:Int) - q1/\(↑q4.length:Int) - q1<(↑q4.length:Int)/\((q4.getD ((↑q4.length:Int) - q1).toNat (az Sh.str)).b.length<=(140737488355328:Nat)->(q4.getD ((↑q4.length:Int) - q1).toNat (az Sh.str)).b.length<=(140737488355328:Nat)->I64 q5/\∃ (s':Nat),(s=s/\q5=(↑s':Int)/\q4.set ((↑q4.length:Int) - q1).toNat (Str.mk ((q4.getD ((↑q4.length:Int) - q1).toNat (az Sh.str)).b++List.take (q5.toNat - s_1) (List.drop s_1 q3)))=List.map Str.mk (ak q0 (List.take s' q3)))/\s' <= q2/\q2 - s' < q2 - s_1)))/\((↑q2:Int)<=(↑s_1:Int)->q4=r0)) (List.map Str.mk (ak q0 (List.take s_1 q3)))) ((↑s_1:Int)+q1)) ((↑(q3.getD s_1 (0:UInt8)).toNat:Int)=(↑(UInt8.ofNat (32:Nat)).toNat:Int))) (32:UInt8)) (1:Int)) q3.length) s.b):=by kernel_rfl
theorem vX (s:Str) (h0:s.b.length<=1000000):Sat Tryd.prog (aj aP) 34 [.c (.str (s))] [] ⟨[s.b.length<=1000000],[.c (.fz .str ((bd s ⟨[32]⟩)))],none,false⟩:=by
 refine bB dB (te s) Tryd.func34 (by decide) (by kernel_rfl) ?_
 rw [wm]
 iterate 3 ((all_goals (repeat' (first | with_reducible apply dW | with_reducible refine dY ?_ | intro))); (all_goals try (first | exact ga | exact rfl | exact FX | exact (HR ab ab) | exact (HW ab ab) | with_reducible exact (BF h0) | with_reducible exact yh | with_reducible exact (CQ h0) | with_reducible exact (BK h0) | exact (CP ab))); all_goals try first | refine ⟨‹Nat› + 1,?_⟩ | refine ⟨0,?_⟩)
def wY:cG:=(dr 34 (cV (aA (kC cS) br) bt fun (s,_) (_)=>⟨[s.b.length<=1000000],[.c (.fz .str ((bd s ⟨[32]⟩)))],none,false⟩) (dr 35 (cV (aA (kC cS) br) bt fun (s,_) (_)=>⟨[],[.c (.int ((aC s)))],none,false⟩) (dr 36 (cV (aA (kC cY) br) bt fun (c,_) (_)=>⟨[],[.c (.int ((cW c)))],none,false⟩) (dr 31 (cV (aA (kC cS) br) bt fun (s,_) (_)=>⟨[s.b.length<=1000],[.c (.str ((⟨aJ s.b⟩)))],none,false⟩) (dr 30 (cV (aA (kC cI) br) bt fun (k,_) (_)=>⟨[],[.c (.bool (.atom ((bl k))))],none,false⟩) (dr 29 (cV (aA (kC cI) br) bt fun (k,_) (_)=>⟨[],[.c (.str ((bb k)))],none,false⟩) jG))))))
theorem oS:aZ Tryd.prog (aj aP) wY:=(aD (aE (ae (aH cq) aq) au fun (s,_) (_) hp=>vX s (ot hp)) (aD (aE (ae (aH cq) aq) au fun (s,_) (_) _=>vM s ) (aD (aE (ae (aH xt) aq) au fun (c,_) (_) _=>zl c ) (aD (aE (ae (aH cq) aq) au fun (s,_) (_) hp=>Cm s (ot hp)) (aD (aE (ae (aH bn) aq) au fun (k,_) (_) _=>ET k ) (aD (aE (ae (aH bn) aq) au fun (k,_) (_) _=>CD k ) dB))))))
def nmL (e:Event):List Int:=[e.a]++(if bl e.kind=true then [e.b] else [])++(if e.kind=6 then fb e.c else [])
def okH (e:Event):Bool:=!decide (bb e.kind=⟨[]⟩) && (if bl e.kind=true then true else decide (e.b=0)) && (if e.kind=6 then decide ((e.c.text.b.length:Int)<=16) && decide ((e.c.chunks.length:Int)<=16) else decide (e.c=cD))
def uB (v:List UInt8) (ws:List (List UInt8)):List UInt8:=v++ws.flatMap fun w=>32 :: w
def fk (e:Event) (k:Nat):List UInt8:=uB (bb e.kind).b (((nmL e).take k).map Lib.itoa)
def eV (e:Event) (k:Nat):List UInt8:=uB (bb e.kind).b ((nmL e).map Lib.itoa++[aJ e.c.text.b]++(e.c.chunks.take k).map Lib.itoa)
structure LcJ (e:Event) (k:Nat):Prop where
 le:k<=e.c.chunks.length
 k6:e.kind=6
 ok:addO (nmL e) (okH e)=true
 al:(e.c.chunks.take k).all okN=true
theorem Gf {e:Event} (h1:I64 e.a) (h2:I64 e.b) (h3:I64 e.c.kind) (h4:I64 e.c.client) (h5:I64 e.c.seq) (h6:I64 e.c.set) (h7:I64 e.c.id) (h8:I64 e.c.n):∀ n ∈ nmL e,I64 n:=by
 intro n hn
 simp only [nmL,List.mem_append] at hn
 rcases hn with (hn | hn) | hn
 ·rw [List.mem_singleton] at hn; rw [hn]; exact h1
 ·split at hn
  ·rw [List.mem_singleton] at hn; rw [hn]; exact h2
  ·cases hn
 ·split at hn
  ·simp only [fb,List.mem_cons,List.not_mem_nil,or_false] at hn
   rcases hn with rfl | rfl | rfl | rfl | rfl | rfl <;> assumption
  ·cases hn
theorem nR (e:Event):(nmL e).length<=8:=by
 unfold nmL
 split <;> split <;> simp [fb]
theorem qU (k:Int):(bb k).b.length<=40:=by
 unfold bb
 split
 ·simp
 ·rename_i h; exact qx ⟨k.toNat,by omega⟩
theorem gR {v:List UInt8} {m:Nat}:∀ {ws:List (List UInt8)},(∀ w ∈ ws,w.length<=m)->(uB v ws).length<=v.length+(m+1)*ws.length
 | [],_=>by simp [uB]
 | x :: ws,h=>by
  have h1:=h x (by simp)
  have h2:=gR (v:=v) (ws:=ws) fun y hy=>h y (by simp [hy])
  simp only [uB,List.length_append,List.flatMap_cons,List.length_cons] at h2 ⊢
  rw [Nat.mul_succ]; omega
theorem xw {n:Int} (h:I64 n):(Lib.itoa n).length<=1000:=Nat.le_trans (Lib.itoa_length_le n h.1 h.2) (by omega)
theorem kH {v w:List UInt8} {ws:List (List UInt8)}:uB v ws++[32]++w=uB v (ws++[w]):=by
 simp [uB,List.append_assoc]
section
variable {e:Event} {s:Nat} {x:Int}
theorem rm (h:∀ n ∈ nmL e,I64 n):(fk e s).length<=10000:=by
 have h1:=gR (v:=(bb e.kind).b) (m:=1000) (ws:=((nmL e).take s).map Lib.itoa) fun w hw=>by
  rw [List.mem_map] at hw
  obtain ⟨n,hn,rfl⟩:=hw
  exact xw (h n (List.mem_of_mem_take hn))
 have h2:=qU e.kind
 have h3:=nR e
 have h4:(((nmL e).take s).map Lib.itoa).length<=8:=by rw [List.length_map,List.length_take]; omega
 unfold fk; omega
theorem HU (h:∀ n ∈ nmL e,I64 n):(fk e s).length+[(32:UInt8)].length<=140737488355328:=by
 have:=rm (s:=s) h
 rw [List.length_singleton]; omega
theorem Gs (h:∀ n ∈ nmL e,I64 n) (hs:(s:Int)<((nmL e).length:Int)):(fk e s++[32]).length+(ag ((nmL e).getD s (az .int))).b.length<=140737488355328:=by
 have h1:=rm (s:=s) h
 have h2:=xw (h _ (List.mem_of_getElem? (bg (d:=az .int) (show s<(nmL e).length by omega))))
 rw [List.length_append,List.length_singleton]
 show _+(Lib.itoa _).length<=_
 omega
theorem nW {e:Event}:addO (nmL e) (okH e)=true↔okH e=true/\(nmL e).all okN=true:=vC
theorem HK (h:addO ((nmL e).take s) (okH e)=true) (hs:((nmL e).length:Int)<=s):addO (nmL e) (okH e)=true:=by rwa [List.take_of_length_le (by omega)] at h
theorem AY (h:okH e=true) (h6:e.kind=6):(e.c.text.b.length:Int)<=16/\(e.c.chunks.length:Int)<=16:=by
 simp only [okH,Bool.and_eq_true,if_pos h6,decide_eq_true_eq] at h
 exact h.2
theorem IC (h:addO ((nmL e).take s) (okH e)=true) (hs:((nmL e).length:Int)<=s) (h6:decide (e.kind=6)=true):(e.c.text.b.length:Int)<=16/\(e.c.chunks.length:Int)<=16:=
 AY (nW.1 (HK h hs)).1 (of_decide_eq_true h6)
theorem xC (h:addO ((nmL e).take s) (okH e)=true) (hs:((nmL e).length:Int)<=s) (h6:decide (e.kind=6)=true):e.c.text.b.length<=1000:=by have:=(IC h hs h6).1; omega
theorem AN {l:List UInt8} (h:l.length<=1000):(aJ l).length<=3000:=by
 unfold aJ
 split
 ·decide
 ·rw [eO]; omega
theorem GY (hI:∀ n ∈ nmL e,I64 n) (h:addO ((nmL e).take s) (okH e)=true) (hs:((nmL e).length:Int)<=s) (h6:decide (e.kind=6)=true):(fk e s++[32]).length+(aJ e.c.text.b).length<=140737488355328:=by
 have h1:=rm (s:=s) hI
 have h2:=AN (xC h hs h6)
 rw [List.length_append,List.length_singleton]; omega
theorem xE (hJ:LcJ e s):(eV e s).length<=1000000:=by
 have h0:=nW.1 hJ.ok
 have h16:=AY h0.1 hJ.k6
 have h1:=gR (v:=(bb e.kind).b) (m:=3000) (ws:=(nmL e).map Lib.itoa++[aJ e.c.text.b]++(e.c.chunks.take s).map Lib.itoa) fun w hw=>by
  simp only [List.mem_append,List.mem_map,List.mem_singleton] at hw
  rcases hw with (⟨n,hn,rfl⟩ | rfl) | ⟨n,hn,rfl⟩
  ·have:=gk (List.all_eq_true.1 h0.2 n hn)
   have this:(Lib.itoa n).length<=40:=this
   omega
  ·exact AN bY
  ·have:=gk (List.all_eq_true.1 hJ.al n hn)
   have this:(Lib.itoa n).length<=40:=this
   omega
 have h2:=qU e.kind
 have h3:=nR e
 have h4:((nmL e).map Lib.itoa++[aJ e.c.text.b]++(e.c.chunks.take s).map Lib.itoa).length<=25:=by
  simp only [List.length_append,List.length_map,List.length_take,List.length_singleton]; omega
 unfold eV; omega
theorem GM (hJ:LcJ e s):(eV e s).length+[(32:UInt8)].length<=140737488355328:=by
 have:=xE hJ
 rw [List.length_singleton]; omega
theorem GW (hJ:LcJ e s) (hi:I64 x):(eV e s++[32]).length+(ag x).b.length<=140737488355328:=by
 have h1:=xE hJ
 have h2:=xw hi
 rw [List.length_append,List.length_singleton]
 show _+(Lib.itoa x).length<=_
 omega
theorem Et {o:Bool} {l:List Int} (h:(s:Int)<(l.length:Int)):(addO (l.take s) o && decide (0<=l.getD s (az .int)) && decide (l.getD s (az .int)<=1048576))=addO (l.take (s+1)) o:=by
 rw [lO (bg (d:=az .int) (show s<l.length by omega)),addO,addO,List.all_append]; simp [okN,Bool.and_assoc]
theorem ED (h:(s:Int)<((nmL e).length:Int)):Str.mk (fk e s++[32]++(ag ((nmL e).getD s (az .int))).b)=Str.mk (fk e (s+1)):=by
 unfold fk
 rw [kH,lO (bg (d:=az .int) (show s<(nmL e).length by omega)),List.map_append]; rfl
theorem Ei (hs:((nmL e).length:Int)<=s):Str.mk (fk e s++[32]++aJ e.c.text.b)=Str.mk (eV e 0):=by
 unfold fk eV
 rw [kH,List.take_of_length_le (by omega)]; simp
theorem Hi (h:addO ((nmL e).take s) (okH e)=true) (hs:((nmL e).length:Int)<=s) (h6:decide (e.kind=6)=true):LcJ e 0:=⟨by omega,of_decide_eq_true h6,HK h hs,by simp⟩
theorem EH (hx:e.c.chunks[s]? = some x):Str.mk (eV e s++[32]++(ag x).b)=Str.mk (eV e (s+1)):=by
 unfold eV
 rw [kH,lO hx,List.map_append,List.append_assoc]; rfl
theorem FR {y:Int} (hJ:LcJ e s) (h:(s:Int)<(e.c.chunks.length:Int)) (h0:0<=y) (hx:e.c.chunks[s]? = some y) (h1:e.c.chunks.getD s (az .int)<=1048576):LcJ e (s+1):=by
 refine ⟨by have:=hJ.le; omega,hJ.k6,hJ.ok,?_⟩
 have:e.c.chunks.getD s (az .int)=y:=by rw [List.getD_eq_getElem?_getD,hx]; rfl
 rw [this] at h1
 rw [lO hx,List.all_append,hJ.al]; simp [okN,h0,h1]
theorem zC {e:Event}:okH e=true↔1<=e.kind/\e.kind<10/\(bl e.kind=false->e.b=0)/\(e.kind=6->(e.c.text.b.length:Int)<=16/\(e.c.chunks.length:Int)<=16)/\(¬ e.kind=6->cj e.c=true):=by
 have hv:(!decide (bb e.kind=⟨[]⟩))=true↔1<=e.kind/\e.kind<10:=by
  rw [Bool.not_eq_true',decide_eq_false_iff_not]
  have key:∀ k:Fin 10,cb.getD k.1 ⟨[]⟩=⟨[]⟩↔k.1=0:=by decide
  unfold bb
  split
  ·rename_i h; constructor
   ·intro h2; exact absurd rfl h2
   ·intro h2; omega
  ·rename_i h
   have:=key ⟨e.kind.toNat,by omega⟩
   unfold cA
   rw [show (az Sh.str)=(⟨[]⟩:Str) from rfl,this]
   simp only; omega
 have hc:decide (e.c=cD)=true↔cj e.c=true:=by
  rw [decide_eq_true_eq]
  constructor
  ·intro h; rw [h]; decide
  ·intro h; exact empty_eq h (by decide)
 simp only [okH,Bool.and_eq_true,hv]
 cases hs:bl e.kind <;> by_cases h6:e.kind=6 <;> (first | rw [if_pos h6] | rw [if_neg h6]) <;> simp only [Bool.and_eq_true,decide_eq_true_eq,hc,if_true,if_false,Bool.false_eq_true] <;> constructor <;> intro h <;> simp_all <;> omega
theorem fu {e:Event}:lineOk e=true↔addO (nmL e) (okH e)=true/\(e.kind=6->e.c.chunks.all okN=true):=by
 rw [bw,nW,zC]
 cases hs:bl e.kind <;> by_cases h6:e.kind=6 <;> simp only [nmL,hs,h6,if_true,if_false,Bool.false_eq_true,List.all_append,List.all_cons,List.all_nil,Bool.and_eq_true,Bool.and_true] <;> constructor <;> intro h <;> simp_all [okN]
theorem wS (h:addO ((nmL e).take s) (okH e)=false) (hs:((nmL e).length:Int)<=s):Str.mk []=ao e/\1=ax e:=by
 have hn:¬ lineOk e=true:=by
  rw [fu]; rintro ⟨h1,_⟩
  rw [List.take_of_length_le (by omega)] at h
  rw [h] at h1; cases h1
 exact ⟨xU hn,qT hn⟩
theorem Bo {y:Int} (hJ:LcJ e s) (hx:e.c.chunks[s]? = some y) (h:y<0\/1048576<e.c.chunks.getD s (az .int)):Str.mk []=ao e/\1=ax e:=by
 have hn:¬ lineOk e=true:=by
  rw [fu]; rintro ⟨_,h1⟩
  have:=List.all_eq_true.1 (h1 hJ.k6) y (List.mem_of_getElem? hx)
  have e1:e.c.chunks.getD s (az .int)=y:=by rw [List.getD_eq_getElem?_getD,hx]; rfl
  rw [e1] at h
  simp only [okN,Bool.and_eq_true,decide_eq_true_eq] at this
  omega
 exact ⟨xU hn,qT hn⟩
theorem mb:∀ ws:List (List UInt8),Lib.joinTail [32] ws=ws.flatMap fun w=>32 :: w
 | []=>rfl
 | x :: ws=>by rw [tail_cons,List.flatMap_cons,mb ws]; rfl
theorem lg (h:lineOk e=true):ao e=⟨uB (bb e.kind).b ((nmL e).map Lib.itoa++(if e.kind=6 then [aJ e.c.text.b]++e.c.chunks.map Lib.itoa else []))⟩:=by
 obtain ⟨h1,h2,_⟩:=bw.1 h
 have hv:bb e.kind=cA e.kind:=by rw [bb,if_neg (by omega)]
 rw [ao,if_pos h,AP,hv]
 have hw:(aF e).map (·.b)=(cA e.kind).b :: ((nmL e).map Lib.itoa++(if e.kind=6 then [aJ e.c.text.b]++e.c.chunks.map Lib.itoa else [])):=by
  have hm:∀ l:List Int,(l.map ag).map (·.b)=l.map Lib.itoa:=fun l=>by rw [List.map_map]; rfl
  unfold aF nmL
  cases hs:bl e.kind <;> by_cases h6:e.kind=6 <;> simp [h6,ag,Function.comp_def]
 rw [hw,jn,Lib.join_cons,mb]; rfl
theorem wz (hJ:LcJ e s) (h:(e.c.chunks.length:Int)<=s):Str.mk (eV e s)=ao e/\0=ax e:=by
 have hal:=hJ.al
 rw [List.take_of_length_le (by omega)] at hal
 have hk:lineOk e=true:=fu.2 ⟨hJ.ok,fun _=>hal⟩
 refine ⟨?_,mX hk⟩
 rw [lg hk,if_pos hJ.k6,eV,List.take_of_length_le (by omega),List.append_assoc]
theorem Bi (h:addO ((nmL e).take s) (okH e)=true) (hs:((nmL e).length:Int)<=s) (h6:decide (e.kind=6)=false):Str.mk (fk e s)=ao e/\0=ax e:=by
 have h6:¬ e.kind=6:=of_decide_eq_false h6
 have hk:lineOk e=true:=fu.2 ⟨HK h hs,fun h=>absurd h h6⟩
 refine ⟨?_,mX hk⟩
 rw [lg hk,if_neg h6,fk,List.take_of_length_le (by omega),List.append_nil]
theorem FU {p:Prop} (h:bl e.kind=true) (h6:e.kind=6):p:=by rw [h6] at h; cases h
theorem IA:bb e.kind=Str.mk (fk e 0):=by simp [fk,uB]
theorem Hc (h6:e.kind=6):(!decide (bb e.kind=Str.mk []) && decide (e.b=0) && decide ((e.c.text.b.length:Int)<=16) && decide ((e.c.chunks.length:Int)<=16))=addO ((nmL e).take 0) (okH e):=by
 simp [addO,okH,h6,show bl 6=false by decide,Bool.and_assoc]
theorem Gt (hs:bl e.kind=true) (h6:¬ e.kind=6):(!decide (bb e.kind=Str.mk []) && decide (e.c=⟨0,0,0,0,0,0,[],⟨[]⟩⟩))=addO ((nmL e).take 0) (okH e):=by
 simp [addO,okH,hs,h6]
theorem HS (hs:bl e.kind=false) (h6:¬ e.kind=6):(!decide (bb e.kind=Str.mk []) && decide (e.b=0) && decide (e.c=⟨0,0,0,0,0,0,[],⟨[]⟩⟩))=addO ((nmL e).take 0) (okH e):=by
 simp [addO,okH,hs,h6]
theorem HB (h6:e.kind=6):[e.a]++[e.c.kind,e.c.client,e.c.seq,e.c.set,e.c.id,e.c.n]=nmL e:=by simp [nmL,h6,show bl 6=false by decide,fb]
theorem HH (hs:bl e.kind=true) (h6:¬ e.kind=6):[e.a]++[e.b]=nmL e:=by simp [nmL,hs,h6]
theorem Hw (hs:bl e.kind=false) (h6:¬ e.kind=6):[e.a]=nmL e:=by simp [nmL,hs,h6]
end
def xA (e:Event):List (Nat × LI):=[(15,{ σ:=Nat,F:=fun k=>([(1,one (.ptr 0 0)),(5,one (.own 1)),(6,one (.bool (.atom (addO ((nmL e).take k) (okH e))))),(7,one (.bool (.atom (decide (e.kind=6))))),(9,one (.str ⟨fk e k⟩)),(10,one (.int k))],[.box 26 (cellsOf (.nm .event) ((e))),.row 3 .int ((nmL e))]),J:=fun k=>k<=(nmL e).length,μ:=fun k=>(nmL e).length - k }),(24,{ σ:=Nat,F:=fun k=>([(1,one (.ptr 0 0)),(9,one (.str ⟨eV e k⟩)),(11,one (.int k))],[.box 26 (cellsOf (.nm .event) ((e)))]),J:=fun k=>LcJ e k,μ:=fun k=>e.c.chunks.length - k })]
theorem zQ (e:Event) (r0:Str) (r1:Int):fW aP wY (xA e) Tryd.f12 [.agg (cellsOf (.nm .event) e)] [] [.c (.str (r0)),.c (.int (r1))]=((fun (q19:Prop)=>(fun (q18:Prop)=>(fun (q17:List (den Sh.int))=>(fun (db:Int)=>(fun (q15:Int)=>(fun (q14:Bool)=>(fun (q13:Int)=>(fun (q12:Command)=>(fun (q11:Str)=>(fun (q10:Prop)=>(fun (q9:List (den Sh.int))=>(fun (q8:Nat)=>(fun (q7:den Sh.int)=>(fun (q6:List Int)=>(fun (q5:List Int)=>(fun (q4:Int)=>(fun (q3:List UInt8)=>(fun (q2:Bool)=>(fun (q1:Prop)=>(fun (q0:Prop)=>I64 q13->I64 e.a->I64 e.b->I64 q12.kind->I64 q12.client->I64 q12.seq->I64 q12.set->I64 q12.id->I64 q12.n->q5.length*(8:Nat)<=q8->q11.b.length<=q8->(bb q13).b.length<=q8->(bl q13=true->(q17.length+[e.b].length)*(8:Nat)<=q8/\(q13=(6:Int)->((q17++[e.b]).length+q9.length)*(8:Nat)<=q8/\∃ (s0:Nat),(fun (q21:Int)=>(fun (q20:Int)=>((!decide (bb q13=Str.mk []) && decide ((↑q11.b.length:Int)<=(16:Int)) && decide (q20<=(16:Int)))=addO (List.take s0 q6) q14/\q2=q2/\bb q13=Str.mk (fk e s0)/\q4=(↑s0:Int)/\q13=q13/\q18/\q19/\q12.kind=q12.kind/\q12.client=q12.client/\q12.seq=q12.seq/\q12.set=q12.set/\q12.id=q12.id/\q12.n=q12.n/\q5=q5/\q11=q11/\q17++[e.b]++q9=q6)/\s0<=q6.length/\∀ (s:Nat),(fun (q26:Prop)=>(fun (q25:Int)=>(fun (q24:List UInt8)=>(fun (q23:den Sh.int)=>(fun (q22:Bool)=>s<=q6.length->(q25<q21->(q22=true->q4<=q25/\q25<q21)/\((q22=true->I64 q23)->(q22=true/\q4<=q23->q4<=q25/\q25<q21)/\((q22=true/\q4<=q23->I64 q23)->q26/\q4<=q25/\q25<q21/\(I64 q23->(ag q23).b.length<=q8->q24.length+(ag q23).b.length<=q8/\I64 (q25+q15)/\∃ (s':Nat),((q22 && decide (q4<=q23) && decide (q23<=db))=addO (List.take s' q6) q14/\q2=q2/\Str.mk (q24++(ag q23).b)=Str.mk (fk e s')/\q25+q15=(↑s':Int)/\q1)/\s' <= q6.length/\q6.length - s' < q6.length - s))))/\(q21<=q25->(q22=false->q10)/\(q22=true->(q2=true->q26/\q11.b.length<=(1000:Nat)/\((aJ q11.b).length<=q8->q24.length+(aJ q11.b).length<=q8/\∃ (s0:Nat),(Str.mk (q24++aJ q11.b)=Str.mk (eV e s0)/\q4=(↑s0:Int)/\q0)/\LcJ e s0/\∀ (s:Nat),(fun (q27:Int)=>LcJ e s->(q27<q20->q4<=q27/\q27<q20/\∀ (x:Int),q5[s]? = some x->I64 x->(q4<=x->q4<=q27/\q27<q20)/\((q4<=x->I64 (q5.getD s q7))->(x<q4\/db<q5.getD s q7->q10)/\(q4<=x/\q5.getD s q7<=db->(eV e s).length+q3.length<=q8/\q4<=q27/\q27<q20/\∀ (x:Int),q5[s]? = some x->I64 x->(ag x).b.length<=q8->(eV e s++q3).length+(ag x).b.length<=q8/\I64 (q27+q15)/\∃ (s':Nat),(Str.mk (eV e s++q3++(ag x).b)=Str.mk (eV e s')/\q27+q15=(↑s':Int)/\q0)/\LcJ e s' /\ q5.length - s' < q5.length - s)))/\(q20<=q27->Str.mk (eV e s)=r0/\q4=r1)) (↑s:Int)))/\(q2=false->Str.mk (fk e s)=r0/\q4=r1)))) (addO (List.take s q6) q14)) (q6.getD s q7)) (fk e s++q3)) (↑s:Int)) ((fk e s).length+q3.length<=q8)) (↑q5.length:Int)) (↑q6.length:Int))/\(¬q13=(6:Int)->∃ (s0:Nat),(fun (q29:Int)=>(fun (q28:Int)=>((!decide (bb q13=Str.mk []) && decide (q12=Command.mk q4 q4 q4 q4 q4 q4 [] (Str.mk [])))=addO (List.take s0 q6) q14/\q2=q2/\bb q13=Str.mk (fk e s0)/\q4=(↑s0:Int)/\q13=q13/\q18/\q19/\q12.kind=q12.kind/\q12.client=q12.client/\q12.seq=q12.seq/\q12.set=q12.set/\q12.id=q12.id/\q12.n=q12.n/\q5=q5/\q11=q11/\q17++[e.b]=q6)/\s0<=q6.length/\∀ (s:Nat),(fun (q34:Prop)=>(fun (q33:Int)=>(fun (q32:List UInt8)=>(fun (q31:den Sh.int)=>(fun (q30:Bool)=>s<=q6.length->(q33<q28->(q30=true->q4<=q33/\q33<q28)/\((q30=true->I64 q31)->(q30=true/\q4<=q31->q4<=q33/\q33<q28)/\((q30=true/\q4<=q31->I64 q31)->q34/\q4<=q33/\q33<q28/\(I64 q31->(ag q31).b.length<=q8->q32.length+(ag q31).b.length<=q8/\I64 (q33+q15)/\∃ (s':Nat),((q30 && decide (q4<=q31) && decide (q31<=db))=addO (List.take s' q6) q14/\q2=q2/\Str.mk (q32++(ag q31).b)=Str.mk (fk e s')/\q33+q15=(↑s':Int)/\q1)/\s' <= q6.length/\q6.length - s' < q6.length - s))))/\(q28<=q33->(q30=false->q10)/\(q30=true->(q2=true->q34/\q11.b.length<=(1000:Nat)/\((aJ q11.b).length<=q8->q32.length+(aJ q11.b).length<=q8/\∃ (s0:Nat),(Str.mk (q32++aJ q11.b)=Str.mk (eV e s0)/\q4=(↑s0:Int)/\q0)/\LcJ e s0/\∀ (s:Nat),(fun (q35:Int)=>LcJ e s->(q35<q29->q4<=q35/\q35<q29/\∀ (x:Int),q5[s]? = some x->I64 x->(q4<=x->q4<=q35/\q35<q29)/\((q4<=x->I64 (q5.getD s q7))->(x<q4\/db<q5.getD s q7->q10)/\(q4<=x/\q5.getD s q7<=db->(eV e s).length+q3.length<=q8/\q4<=q35/\q35<q29/\∀ (x:Int),q5[s]? = some x->I64 x->(ag x).b.length<=q8->(eV e s++q3).length+(ag x).b.length<=q8/\I64 (q35+q15)/\∃ (s':Nat),(Str.mk (eV e s++q3++(ag x).b)=Str.mk (eV e s')/\q35+q15=(↑s':Int)/\q0)/\LcJ e s' /\ q5.length - s' < q5.length - s)))/\(q29<=q35->Str.mk (eV e s)=r0/\q4=r1)) (↑s:Int)))/\(q2=false->Str.mk (fk e s)=r0/\q4=r1)))) (addO (List.take s q6) q14)) (q6.getD s q7)) (fk e s++q3)) (↑s:Int)) ((fk e s).length+q3.length<=q8)) (↑q6.length:Int)) (↑q5.length:Int)))/\(bl q13=false->(q13=(6:Int)->(q17.length+q9.length)*(8:Nat)<=q8/\∃ (s0:Nat),(fun (q37:Int)=>(fun (q36:Int)=>((!decide (bb q13=Str.mk []) && decide (e.b=q4) && decide ((↑q11.b.length:Int)<=(16:Int)) && decide (q36<=(16:Int)))=addO (List.take s0 q6) q14/\q2=q2/\bb q13=Str.mk (fk e s0)/\q4=(↑s0:Int)/\q13=q13/\q18/\q19/\q12.kind=q12.kind/\q12.client=q12.client/\q12.seq=q12.seq/\q12.set=q12.set/\q12.id=q12.id/\q12.n=q12.n/\q5=q5/\q11=q11/\q17++q9=q6)/\s0<=q6.length/\∀ (s:Nat),(fun (q42:Prop)=>(fun (q41:Int)=>(fun (q40:List UInt8)=>(fun (q39:den Sh.int)=>(fun (q38:Bool)=>s<=q6.length->(q41<q37->(q38=true->q4<=q41/\q41<q37)/\((q38=true->I64 q39)->(q38=true/\q4<=q39->q4<=q41/\q41<q37)/\((q38=true/\q4<=q39->I64 q39)->q42/\q4<=q41/\q41<q37/\(I64 q39->(ag q39).b.length<=q8->q40.length+(ag q39).b.length<=q8/\I64 (q41+q15)/\∃ (s':Nat),((q38 && decide (q4<=q39) && decide (q39<=db))=addO (List.take s' q6) q14/\q2=q2/\Str.mk (q40++(ag q39).b)=Str.mk (fk e s')/\q41+q15=(↑s':Int)/\q1)/\s' <= q6.length/\q6.length - s' < q6.length - s))))/\(q37<=q41->(q38=false->q10)/\(q38=true->(q2=true->q42/\q11.b.length<=(1000:Nat)/\((aJ q11.b).length<=q8->q40.length+(aJ q11.b).length<=q8/\∃ (s0:Nat),(Str.mk (q40++aJ q11.b)=Str.mk (eV e s0)/\q4=(↑s0:Int)/\q0)/\LcJ e s0/\∀ (s:Nat),(fun (q43:Int)=>LcJ e s->(q43<q36->q4<=q43/\q43<q36/\∀ (x:Int),q5[s]? = some x->I64 x->(q4<=x->q4<=q43/\q43<q36)/\((q4<=x->I64 (q5.getD s q7))->(x<q4\/db<q5.getD s q7->q10)/\(q4<=x/\q5.getD s q7<=db->(eV e s).length+q3.length<=q8/\q4<=q43/\q43<q36/\∀ (x:Int),q5[s]? = some x->I64 x->(ag x).b.length<=q8->(eV e s++q3).length+(ag x).b.length<=q8/\I64 (q43+q15)/\∃ (s':Nat),(Str.mk (eV e s++q3++(ag x).b)=Str.mk (eV e s')/\q43+q15=(↑s':Int)/\q0)/\LcJ e s' /\ q5.length - s' < q5.length - s)))/\(q36<=q43->Str.mk (eV e s)=r0/\q4=r1)) (↑s:Int)))/\(q2=false->Str.mk (fk e s)=r0/\q4=r1)))) (addO (List.take s q6) q14)) (q6.getD s q7)) (fk e s++q3)) (↑s:Int)) ((fk e s).length+q3.length<=q8)) (↑q5.length:Int)) (↑q6.length:Int))/\(¬q13=(6:Int)->∃ (s0:Nat),(fun (q45:Int)=>(fun (q44:Int)=>((!decide (bb q13=Str.mk []) && decide (e.b=q4) && decide (q12=Command.mk q4 q4 q4 q4 q4 q4 [] (Str.mk [])))=addO (List.take s0 q6) q14/\q2=q2/\bb q13=Str.mk (fk e s0)/\q4=(↑s0:Int)/\q13=q13/\q18/\q19/\q12.kind=q12.kind/\q12.client=q12.client/\q12.seq=q12.seq/\q12.set=q12.set/\q12.id=q12.id/\q12.n=q12.n/\q5=q5/\q11=q11/\q17=q6)/\s0<=q6.length/\∀ (s:Nat),(fun (q50:Prop)=>(fun (q49:Int)=>(fun (q48:List UInt8)=>(fun (q47:den Sh.int)=>(fun (q46:Bool)=>s<=q6.length->(q49<q44->(q46=true->q4<=q49/\q49<q44)/\((q46=true->I64 q47)->(q46=true/\q4<=q47->q4<=q49/\q49<q44)/\((q46=true/\q4<=q47->I64 q47)->q50/\q4<=q49/\q49<q44/\(I64 q47->(ag q47).b.length<=q8->q48.length+(ag q47).b.length<=q8/\I64 (q49+q15)/\∃ (s':Nat),((q46 && decide (q4<=q47) && decide (q47<=db))=addO (List.take s' q6) q14/\q2=q2/\Str.mk (q48++(ag q47).b)=Str.mk (fk e s')/\q49+q15=(↑s':Int)/\q1)/\s' <= q6.length/\q6.length - s' < q6.length - s))))/\(q44<=q49->(q46=false->q10)/\(q46=true->(q2=true->q50/\q11.b.length<=(1000:Nat)/\((aJ q11.b).length<=q8->q48.length+(aJ q11.b).length<=q8/\∃ (s0:Nat),(Str.mk (q48++aJ q11.b)=Str.mk (eV e s0)/\q4=(↑s0:Int)/\q0)/\LcJ e s0/\∀ (s:Nat),(fun (q51:Int)=>LcJ e s->(q51<q45->q4<=q51/\q51<q45/\∀ (x:Int),q5[s]? = some x->I64 x->(q4<=x->q4<=q51/\q51<q45)/\((q4<=x->I64 (q5.getD s q7))->(x<q4\/db<q5.getD s q7->q10)/\(q4<=x/\q5.getD s q7<=db->(eV e s).length+q3.length<=q8/\q4<=q51/\q51<q45/\∀ (x:Int),q5[s]? = some x->I64 x->(ag x).b.length<=q8->(eV e s++q3).length+(ag x).b.length<=q8/\I64 (q51+q15)/\∃ (s':Nat),(Str.mk (eV e s++q3++(ag x).b)=Str.mk (eV e s')/\q51+q15=(↑s':Int)/\q0)/\LcJ e s' /\ q5.length - s' < q5.length - s)))/\(q45<=q51->Str.mk (eV e s)=r0/\q4=r1)) (↑s:Int)))/\(q2=false->Str.mk (fk e s)=r0/\q4=r1)))) (addO (List.take s q6) q14)) (q6.getD s q7)) (fk e s++q3)) (↑s:Int)) ((fk e s).length+q3.length<=q8)) (↑q6.length:Int)) (↑q5.length:Int)))) (q13=q13/\q18/\q19/\q12.kind=q12.kind/\q12.client=q12.client/\q12.seq=q12.seq/\q12.set=q12.set/\q12.id=q12.id/\q12.n=q12.n/\q5=q5/\q11=q11)) (q13=q13/\q18/\q19/\q12.kind=q12.kind/\q12.client=q12.client/\q12.seq=q12.seq/\q12.set=q12.set/\q12.id=q12.id/\q12.n=q12.n/\q5=q5/\q11=q11/\q6=q6)) (decide (q13=(6:Int)))) [(32:UInt8)]) (0:Int)) q12.chunks) (nmL e)) (az Sh.int)) (140737488355328:Nat)) [q12.kind,q12.client,q12.seq,q12.set,q12.id,q12.n]) (Str.mk []=r0/\q15=r1)) q12.text) e.c) e.kind) (okH e)) (1:Int)) (1048576:Int)) [e.a]) (e.a=e.a)) (e.b=e.b)):=by kernel_rfl
set_option maxHeartbeats 1000000 in
theorem yE (e:Event):Sat Tryd.prog (aj aP) 12 [.agg (cellsOf (.nm .event) e)] [] ⟨[],[.c (.str ((ao e))),.c (.int ((ax e)))],none,false⟩:=by
 refine bB oS (xA e) Tryd.func12 (by decide) (by kernel_rfl) ?_
 rw [zQ]
 (repeat' (first | with_reducible apply dW | with_reducible refine dY ?_ | intro))
 all_goals try (refine ⟨0,?_⟩; (repeat' (first | with_reducible apply dW | with_reducible refine dY ?_ | intro)))
 all_goals try (have hg:(‹Nat›:Int)<((nmL e).length:Int):=bY; clear hg; refine ⟨‹Nat› + 1,?_⟩; (repeat' (first | with_reducible apply dW | with_reducible refine dY ?_ | intro)))
 all_goals try (have hg:(((nmL e).length:Nat):Int)<=(‹Nat›:Int):=bY; clear hg; refine ⟨0,?_⟩; (repeat' (first | with_reducible apply dW | with_reducible refine dY ?_ | intro)))
 all_goals try (refine ⟨‹Nat› + 1,?_⟩; (repeat' (first | with_reducible apply dW | with_reducible refine dY ?_ | intro)))
 all_goals (first | exact ga | exact (FU (e:=e) ab ab) | (have:=nR e; refine Cd ?_ ?_ <;> omega) | (simp only [List.length_append,List.length_cons,List.length_nil]; omega) | with_reducible exact (HU (Gf ab ab ab ab ab ab ab ab)) | with_reducible exact (Gs (Gf ab ab ab ab ab ab ab ab) ab) | with_reducible exact (GY (Gf ab ab ab ab ab ab ab ab) ab ab ab) | with_reducible exact (xC ab ab ab) | with_reducible exact (GM ab) | with_reducible exact (GW ab ab) | exact (Et ab) | exact (ED ab) | exact (Ei ab) | exact (Hi ab ab ab) | exact (EH ab) | exact (FR ab ab ab ab ab) | exact (wS ab ab).1 | exact (wS ab ab).2 | exact (Bo ab ab bY).1 | exact (Bo ab ab bY).2 | exact (wz ab ab).1 | exact (wz ab ab).2 | exact (Bi ab ab ab).1 | exact (Bi ab ab ab).2 | exact IA | exact (Hc ab) | exact (Gt ab ab) | exact (HS ab ab) | exact (HB ab) | exact (HH ab ab) | exact (Hw ab ab))
def wZ:cG:=(dr 12 (cV (aA (kT (.nm .event)) br) bt fun (e,_) (_)=>⟨[],[.c (.str ((ao e))),.c (.int ((ax e)))],none,false⟩) wY)
theorem oK:aZ Tryd.prog (aj aP) wZ:=(aD (aE (ae jw aq) au fun (e,_) (_) _=>yE e ) oS)
end Go.Proofs.YtagpmhlokhoanaaDoor
