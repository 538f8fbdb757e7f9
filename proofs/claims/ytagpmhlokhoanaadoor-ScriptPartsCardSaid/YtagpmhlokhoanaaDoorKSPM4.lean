/- What leads to the law, part 4. Conditions: each lemma's own. -/
import Derived.LaidLaws
import Derived.LaidMore
import Derived.Lib.ItoaLen
import Derived.Lib.ItoaMem
import Derived.Lib.Join
import Derived.Lib.LaidTab
import Derived.Lib.SplitLaws
import Derived.MakeChecks
import Derived.OpenShut
import Derived.ProofKit
import Derived.Shelf.LaysC
import Derived.Shelf.LaysM
import Derived.Shelf.Small.Strs
import Derived.Shelf.Strconv.AtoiAll
import Derived.Shelf.Strconv.Itoa3
import Derived.Shelf.Strings.BuilderK
import Derived.Shelf.Strings.OnBuilder
import Derived.Shelf.Strings.Split
import Derived.Shelf.Vars
import Derived.SizedLaws
import Derived.Stop.Joined
import Derived.Stop.LaidErr
import Derived.Test.YtagpmhlokhoanaaDoorRows
import Derived.Test.YtagpmhlokhoanaaDoorKSPM3
set_option linter.unusedVariables false
set_option linter.unusedSimpArgs false
namespace Go.Proofs.YtagpmhlokhoanaaDoor
open Go.RowKit
theorem tB {u:Nat} (h:u<10):(UInt8.ofNat (48+u)).toNat=48+u:=by
 rw [UInt8.toNat_ofNat']; exact Nat.mod_eq_of_lt (by omega)
theorem rm:∀ (u:Nat) (c:UInt8),c ∈ Lib.decDigits u->48<=c.toNat/\c.toNat<=57:=fun u=>by
 induction u using Nat.strongRecOn with
 | _ u ih=>
  intro c hc
  by_cases h:u<10
  ·rw [Lib.decDigits,dif_pos h,List.mem_singleton] at hc
   subst hc; rw [tB h]; omega
  ·rw [Lib.decDigits,dif_neg h,List.mem_append,List.mem_singleton] at hc
   rcases hc with hc | rfl
   ·exact ih (u / 10) cQ c hc
   ·rw [tB (by omega)]; omega
def okW (l:List UInt8):Prop:=∀ c ∈ l,c≠32/\c≠10
theorem rz (u:Nat):okW (Lib.decDigits u):=fun c hc=>by
 have:=rm u c hc
 constructor <;> (rintro rfl; revert this; decide)
theorem gO (n:Int):okW (Lib.itoa n):=by
 unfold Lib.itoa
 split
 ·intro c hc
  rcases List.mem_cons.1 hc with rfl | hc
  ·decide
  ·exact rz _ c hc
 ·exact rz _
theorem tail_cons (x:List UInt8) (r:List (List UInt8)):Lib.joinTail [32] (x :: r)=32 :: (x++Lib.joinTail [32] r):=by simp [Lib.joinTail]
def jn (l:List (List UInt8)):List UInt8:=Lib.join l [32]
theorem rh:∀ {r:List (List UInt8)},(∀ x ∈ r,okW x)->∀ c ∈ Lib.joinTail [32] r,c≠10
 | [],_,c,hc=>by cases hc
 | x :: r,hr,c,hc=>by
  rw [tail_cons,List.mem_cons,List.mem_append] at hc
  rcases hc with rfl | hc | hc
  ·decide
  ·exact (hr x (by simp) c hc).2
  ·exact rh (fun z hz=>hr z (by simp [hz])) c hc
theorem DX {l:List (List UInt8)} (hl:∀ x ∈ l,okW x):∀ c ∈ jn l,c≠10:=by
 cases l with
 | nil=>intro c hc; cases hc
 | cons x r=>
  intro c hc
  unfold jn at hc
  rw [Lib.join_cons,List.mem_append] at hc
  rcases hc with hc | hc
  ·exact (hl x (by simp) c hc).2
  ·exact rh (fun z hz=>hl z (by simp [hz])) c hc
def xQ:List UInt8:=[48,49,50,51,52,53,54,55,56,57,97,98,99,100,101,102]
def fE (k:Nat):UInt8:=xQ.getD k 0
theorem uo:∀ j k:Fin 16,fE j=fE k->j=k:=by decide
theorem rG:∀ j:Fin 16,fE j≠32/\fE j≠10/\fE j≠45:=by decide
def cm (c:UInt8):List UInt8:=[fE (c.toNat / 16),fE (c.toNat % 16)]
def bh (l:List UInt8):List UInt8:=if l=[] then [45] else l.flatMap cm
theorem mu {j k:Nat} (hj:j<16) (hk:k<16) (h:fE j=fE k):j=k:=by
 have:=uo ⟨j,hj⟩ ⟨k,hk⟩ h
 simpa using this
theorem wP {c d:UInt8} {r s:List UInt8} (h:cm c++r=cm d++s):c=d/\r=s:=by
 simp only [cm,List.cons_append,List.nil_append,List.cons.injEq] at h
 have hc:=c.toNat_lt; have hd:=d.toNat_lt
 have h1:=mu (by omega) (by omega) h.1
 have h2:=mu (by omega) (by omega) h.2.1
 exact ⟨UInt8.toNat_inj.1 cQ,h.2.2⟩
theorem pL:∀ {l m:List UInt8},l.flatMap cm=m.flatMap cm->l=m
 | [],[],_=>rfl
 | [],d :: m,h=>by simp [List.flatMap_cons,cm] at h
 | c :: l,[],h=>by simp [List.flatMap_cons,cm] at h
 | c :: l,d :: m,h=>by
  rw [List.flatMap_cons,List.flatMap_cons] at h
  obtain ⟨h1,h2⟩:=wP h
  rw [h1,pL h2]
theorem tJ {l m:List UInt8} (h:bh l=bh m):l=m:=by
 unfold bh at h
 split at h <;> split at h
 ·simp_all
 ·rename_i h1 h2
  cases m with
  | nil=>exact absurd rfl h2
  | cons d m=>have:=congrArg List.length h; simp [cm] at this
 ·rename_i h1 h2
  cases l with
  | nil=>exact absurd rfl h1
  | cons d m=>have:=congrArg List.length h; simp [cm] at this
 ·exact pL h
theorem uz (l:List UInt8):okW (bh l):=by
 unfold bh
 split
 ·intro c hc; rw [List.mem_singleton] at hc; subst hc; decide
 ·intro c hc
  rw [List.mem_flatMap] at hc
  obtain ⟨d,_,hd⟩:=hc
  have hl:=d.toNat_lt
  simp only [cm,List.mem_cons,List.not_mem_nil,or_false] at hd
  rcases hd with rfl | rfl
  ·have:=rG ⟨d.toNat / 16,by omega⟩; exact ⟨this.1,this.2.1⟩
  ·have:=rG ⟨d.toNat % 16,by omega⟩; exact ⟨this.1,this.2.1⟩
def cw (k:Int):Str:=bU.getD k.toNat (aY .str)
def okN (n:Int):Bool:=decide (0<=n) && decide (n<=1048576)
def ca (k:Int):Bool:=decide (k=7) || decide (k=8) || decide (k=9)
def bZ (c:Command):Bool:=decide (c.kind=0) && decide (c.client=0) && decide (c.seq=0) && decide (c.set=0) && decide (c.id=0) && decide (c.n=0) && decide (c.chunks=[]) && decide (c.text=⟨[]⟩)
def ah (n:Int):Str:=⟨Lib.itoa n⟩
def fK (c:Command):List Int:=[c.kind,c.client,c.seq,c.set,c.id,c.n]
def lineOk (e:Event):Bool:=decide (1<=e.kind) && decide (e.kind<10) && okN e.a && (if ca e.kind then okN e.b else decide (e.b=0)) && (if e.kind=6 then decide (e.c.text.b.length<=16) && decide (e.c.chunks.length<=16) && (fK e.c).all okN && e.c.chunks.all okN else bZ e.c)
def aA (e:Event):List Str:=[cw e.kind,ah e.a]++(if ca e.kind then [ah e.b] else [])++(if e.kind=6 then (fK e.c).map ah++[⟨bh e.c.text.b⟩]++e.c.chunks.map ah else [])
def Af (l:List Str):Str:=⟨jn (l.map (·.b))⟩
def aw (e:Event):Str:=if lineOk e then Af (aA e) else ⟨[]⟩
def ba (e:Event):Int:=if lineOk e then 0 else 1
theorem yw:∀ k:Fin 10,okW (bU.getD k.1 ⟨[]⟩).b:=by unfold okW; decide
theorem jP {e:Event} (h:lineOk e=true):∀ x ∈ (aA e).map (·.b),okW x:=by
 intro x hx
 rw [List.mem_map] at hx
 obtain ⟨s,hs,rfl⟩:=hx
 simp only [lineOk,Bool.and_eq_true,decide_eq_true_eq] at h
 simp only [aA,List.mem_append,List.mem_cons,List.not_mem_nil,or_false] at hs
 rcases hs with ((rfl | rfl) | hs) | hs
 ·exact yw ⟨e.kind.toNat,by omega⟩
 ·exact gO _
 ·split at hs
  ·rw [List.mem_singleton] at hs; subst hs; exact gO _
  ·cases hs
 ·split at hs
  ·simp only [List.mem_append,List.mem_map,List.mem_singleton] at hs
   rcases hs with (⟨_,_,rfl⟩ | rfl) | ⟨_,_,rfl⟩
   ·exact gO _
   ·exact uz _
   ·exact gO _
  ·cases hs
theorem oa (e:Event):∃ x r,(aA e).map (·.b)=x :: r:=⟨_,_,rfl⟩
theorem empty_eq {c d:Command} (h:bZ c=true) (k:bZ d=true):c=d:=by
 simp only [bZ,Bool.and_eq_true,decide_eq_true_eq] at h k
 obtain ⟨⟨⟨⟨⟨⟨⟨h1,h2⟩,h3⟩,h4⟩,h5⟩,h6⟩,h7⟩,h8⟩:=h
 obtain ⟨⟨⟨⟨⟨⟨⟨k1,k2⟩,k3⟩,k4⟩,k5⟩,k6⟩,k7⟩,k8⟩:=k
 cases c; cases d; simp only at *; subst_vars; rfl
theorem nx {e:Event}:∀ c ∈ (aw e).b,c≠10:=by
 unfold aw
 split
 ·exact DX (jP ‹_›)
 ·intro c hc; cases hc
end Go.Proofs.YtagpmhlokhoanaaDoor
namespace Go.Proofs.YtagpmhlokhoanaaDoor
open Go.Shelf Go.Proofs
def dJ:Go.Shelf.Ren:=⟨fun | 156=>27 | 165=>42 | 166=>37 | 169=>39 | 240=>49 | 241=>51 | 276=>58 | 277=>63 | n=>n,fun | 31=>46 | 9=>9 | 3=>3 | 4=>4 | 0=>0 | 20=>20 | 72=>62 | 76=>65 | 70=>60 | 37=>58 | 75=>64 | 127=>81 | 164=>87 | 5=>5 | 80=>68 | n=>n,fun | n=>n⟩
theorem iP:Lays.n156 Tryd.prog dJ:={
 mixed:=by kernel_rfl
 f156:=Tryd.func27.trans (congrArg some (by kernel_rfl))
 f165:=Tryd.func42.trans (congrArg some (by kernel_rfl))
 f166:=Tryd.func37.trans (congrArg some (by kernel_rfl))
 f169:=Tryd.func39.trans (congrArg some (by kernel_rfl))
 f240:=Tryd.func49.trans (congrArg some (by kernel_rfl))
 f241:=Tryd.func51.trans (congrArg some (by kernel_rfl))
 f276:=Tryd.func58.trans (congrArg some (by kernel_rfl))
 f277:=Tryd.func63.trans (congrArg some (by kernel_rfl))
 t0:=Tryd.underlying0
 a0:=Tryd.isAgg0
 z0:=Tryd.sizeOf0
 v0:=Tryd.zeroValue0
 t3:=Tryd.underlying3
 a3:=Tryd.isAgg3
 z3:=Tryd.sizeOf3
 v3:=Tryd.zeroValue3
 t4:=Tryd.underlying4
 a4:=Tryd.isAgg4
 z4:=Tryd.sizeOf4
 v4:=Tryd.zeroValue4
 t9:=Tryd.underlying9
 a9:=Tryd.isAgg9
 z9:=Tryd.sizeOf9
 v9:=Tryd.zeroValue9
 t20:=Tryd.underlying20
 a20:=Tryd.isAgg20
 z20:=Tryd.sizeOf20
 v20:=Tryd.zeroValue20
 t31:=Tryd.underlying46
 a31:=Tryd.isAgg46
 z31:=Tryd.sizeOf46
 v31:=Tryd.zeroValue46
 t37:=Tryd.underlying58
 a37:=Tryd.isAgg58
 z37:=Tryd.sizeOf58
 v37:=Tryd.zeroValue58
 t70:=Tryd.underlying60
 a70:=Tryd.isAgg60
 z70:=Tryd.sizeOf60
 v70:=Tryd.zeroValue60
 t72:=Tryd.underlying62
 a72:=Tryd.isAgg62
 z72:=Tryd.sizeOf62
 v72:=Tryd.zeroValue62
 t75:=Tryd.underlying64
 a75:=Tryd.isAgg64
 z75:=Tryd.sizeOf64
 v75:=Tryd.zeroValue64
 t76:=Tryd.underlying65
 a76:=Tryd.isAgg65
 z76:=Tryd.sizeOf65
 v76:=Tryd.zeroValue65
 t127:=Tryd.underlying81
 a127:=Tryd.isAgg81
 z127:=Tryd.sizeOf81
 v127:=Tryd.zeroValue81
 t164:=Tryd.underlying87
 a164:=Tryd.isAgg87
 z164:=Tryd.sizeOf87
 v164:=Tryd.zeroValue87 }
theorem bN:Builder.Extra Tryd.prog dJ:={
 sizeBuilder:=by kernel_rfl
 liesBuilder:=by kernel_rfl
 t5:=Tryd.underlying5
 a5:=Tryd.isAgg5
 z5:=Tryd.sizeOf5
 v5:=Tryd.zeroValue5
 infoByte:=by kernel_rfl
 cellsByte:=by kernel_rfl
 sizeByte:=by kernel_rfl
 neB5:=by decide }
def kV:Go.Shelf.Ren:=⟨fun | 171=>23 | 243=>41 | 246=>50 | 283=>59 | 284=>60 | 285=>61 | 286=>62 | 129=>75 | 317=>74 | 318=>76 | 319=>77 | 320=>78 | 337=>87 | 338=>88 | n=>n,fun | 3=>3 | 9=>9 | 2=>2 | 4=>4 | 171=>89 | 0=>0 | 53=>90 | 37=>58 | 5=>5 | 173=>93 | 212=>106 | 51=>107 | 20=>20 | 213=>108 | 46=>69 | 232=>127 | 233=>128 | n=>n,fun | 17=>1 | 18=>7 | 19=>8 | n=>n⟩
theorem qL:LaysM.n171 Tryd.prog kV:={
 mixed:=by kernel_rfl
 f129:=Tryd.func75.trans (congrArg some (by kernel_rfl))
 f171:=Tryd.func23.trans (congrArg some (by kernel_rfl))
 f243:=Tryd.func41.trans (congrArg some (by kernel_rfl))
 f246:=Tryd.func50.trans (congrArg some (by kernel_rfl))
 f283:=Tryd.func59.trans (congrArg some (by kernel_rfl))
 f284:=Tryd.func60.trans (congrArg some (by kernel_rfl))
 f285:=Tryd.func61.trans (congrArg some (by kernel_rfl))
 f286:=Tryd.func62.trans (congrArg some (by kernel_rfl))
 f317:=Tryd.func74.trans (congrArg some (by kernel_rfl))
 f318:=Tryd.func76.trans (congrArg some (by kernel_rfl))
 f319:=Tryd.func77.trans (congrArg some (by kernel_rfl))
 f320:=Tryd.func78.trans (congrArg some (by kernel_rfl))
 f337:=Tryd.func87.trans (congrArg some (by kernel_rfl))
 f338:=Tryd.func88.trans (congrArg some (by kernel_rfl))
 t0:=Tryd.underlying0
 a0:=Tryd.isAgg0
 z0:=Tryd.sizeOf0
 v0:=Tryd.zeroValue0
 t2:=Tryd.underlying2
 a2:=Tryd.isAgg2
 z2:=Tryd.sizeOf2
 v2:=Tryd.zeroValue2
 t3:=Tryd.underlying3
 a3:=Tryd.isAgg3
 z3:=Tryd.sizeOf3
 v3:=Tryd.zeroValue3
 t4:=Tryd.underlying4
 a4:=Tryd.isAgg4
 z4:=Tryd.sizeOf4
 v4:=Tryd.zeroValue4
 t5:=Tryd.underlying5
 a5:=Tryd.isAgg5
 z5:=Tryd.sizeOf5
 v5:=Tryd.zeroValue5
 t9:=Tryd.underlying9
 a9:=Tryd.isAgg9
 z9:=Tryd.sizeOf9
 v9:=Tryd.zeroValue9
 t20:=Tryd.underlying20
 a20:=Tryd.isAgg20
 z20:=Tryd.sizeOf20
 v20:=Tryd.zeroValue20
 t37:=Tryd.underlying58
 a37:=Tryd.isAgg58
 z37:=Tryd.sizeOf58
 v37:=Tryd.zeroValue58
 t46:=Tryd.underlying69
 a46:=Tryd.isAgg69
 z46:=Tryd.sizeOf69
 v46:=Tryd.zeroValue69
 t51:=Tryd.underlying107
 a51:=Tryd.isAgg107
 z51:=Tryd.sizeOf107
 v51:=Tryd.zeroValue107
 t53:=Tryd.underlying90
 a53:=Tryd.isAgg90
 z53:=Tryd.sizeOf90
 v53:=Tryd.zeroValue90
 t171:=Tryd.underlying89
 a171:=Tryd.isAgg89
 z171:=Tryd.sizeOf89
 v171:=Tryd.zeroValue89
 t173:=Tryd.underlying93
 a173:=Tryd.isAgg93
 z173:=Tryd.sizeOf93
 v173:=Tryd.zeroValue93
 t212:=Tryd.underlying106
 a212:=Tryd.isAgg106
 z212:=Tryd.sizeOf106
 v212:=Tryd.zeroValue106
 t213:=Tryd.underlying108
 a213:=Tryd.isAgg108
 z213:=Tryd.sizeOf108
 t232:=Tryd.underlying127
 a232:=Tryd.isAgg127
 z232:=Tryd.sizeOf127
 v232:=Tryd.zeroValue127
 t233:=Tryd.underlying128
 a233:=Tryd.isAgg128
 z233:=Tryd.sizeOf128
 v233:=Tryd.zeroValue128
 g17:=by kernel_rfl
 g18:=by kernel_rfl
 g19:=by kernel_rfl
 i0:=by kernel_rfl
 i2:=by kernel_rfl
 i3:=by kernel_rfl
 i4:=by kernel_rfl
 i5:=by kernel_rfl
 i9:=by kernel_rfl
 i20:=by kernel_rfl
 i37:=by kernel_rfl
 i46:=by kernel_rfl
 i51:=by kernel_rfl
 i53:=by kernel_rfl
 i171:=by kernel_rfl
 i173:=by kernel_rfl
 i212:=by kernel_rfl
 i232:=by kernel_rfl
 i233:=by kernel_rfl
 m17:=by kernel_rfl
 m18:=by kernel_rfl
 m19:=by kernel_rfl }
end Go.Proofs.YtagpmhlokhoanaaDoor
namespace Go.Proofs.YtagpmhlokhoanaaDoor
open Go.RowKit Go.Proofs
theorem jT {c:Cx}:∀ {l:List U64} {cells:List Value},Pds c (l.flatMap (cellsOf .u64)) cells->cells=l.map fun x=>.int .u64 (x.n:Int)
 | [],_,h=>by cases h; rfl
 | x :: l,_,h=>by
  have h':Pds c (.u64 x.n :: l.flatMap (cellsOf .u64)) _:=h
  cases h' with | cons h1 h2=>?_
  cases h1
  rw [jT h2]; rfl
theorem Br {G:Gl} {ρ:List RE} {H:AH} {w:World} (hR:Rep G ρ H w):Lib.TabIs Tryd.prog w "internal/strconv.uint64pow10" .u64 Lib.pow10Tab:=by
 obtain ⟨_,_,_,_,cells,t,fr,h5,h6⟩:=hR.tb.2 ⟨1,.u64,qB⟩ (by simp [qP])
 have hc:cells=(Lib.pow10Tab.map fun z=>Value.int .u64 z):=by
  exact (jT h6).trans rfl
 unfold Lib.TabIs World.var?
 rw [show Tryd.prog.globalNamed _=some 1 by kernel_rfl]
 show (match w.heap[1]? with
  | some (.cells cs _ _)=>some cs
  | _=>none)=_
 rw [show w.heap[1]? = some (.cells (List.toArray cells) t fr) from h5,hc]
theorem Kp.zh {w:World} {k:Nat} {os:Array Obj}:Kp [] w (Go.Sort.grow (w.drewN k) os):=by
 refine ⟨rfl,rfl,rfl,?_,fun b hb _=>?_⟩
 ·show w.heap.size<=(w.heap++os).size
  rw [Array.size_append]; omega
 ·show (w.heap++os)[b]? = w.heap[b]?
  exact Array.getElem?_append_left hb
theorem fQ {c:Cx}:∀ {l:List Str} {cells:List Value},Pds c (l.flatMap (cellsOf .str)) cells->cells=l.map Str.val
 | [],_,h=>by cases h; rfl
 | x :: l,_,h=>by
  have h':Pds c (.str x :: l.flatMap (cellsOf .str)) _:=h
  cases h' with | cons h1 h2=>?_
  cases h1
  rw [fQ h2]; rfl
theorem wx (n:Int):Sat Tryd.prog (ai aX) 23 [.c (.int n)] [] ⟨[],[.c (.str (ah n))],none,false⟩:=by
 refine ⟨⟨_,Tryd.func23,by decide,by kernel_rfl⟩,fun G ρ w vs hG hR hvs=>?_⟩
 cases hvs with | cons h1 hvs=>?_
 cases hvs
 have h2:Rd (cx G ρ w) ρ (.int n) _:=h1
 cases h2 with | int hi=>?_
 refine (Any.strconv_Itoa qL n hi.1 hi.2 w (Br hR)).mono fun e w' ⟨he,k,os,hw⟩=>⟨_,he,[_],rfl,?_,.cons (show bt (cx G ρ w') ρ (.c (.str (ah n))) _ from (Pd.str ?_:Pd (cx G ρ w') (.str (ah n)) (ah n).val)) .nil⟩
 ·rw [hw]; exact Kp.zh
 ·have:=Lib.itoa_length_le n hi.1 hi.2; show (Lib.itoa n).length<=_; omega
theorem uX (l:List Str) (sep:Str) (hl:(Lib.join (l.map (·.b)) sep.b).length<=140737488355328):Sat Tryd.prog (ai aX) 27 [.c (.own 0),.c (.str sep)] [.row 9 .str l] ⟨[],[.c (.str ⟨Lib.join (l.map (·.b)) sep.b⟩)],some [.row 9 .str l],true⟩:=by
 refine ⟨⟨_,Tryd.func27,by decide,by kernel_rfl⟩,fun G ρ w vs hG hR hvs=>?_⟩
 cases hvs with | cons h1 hvs=>?_
 cases hvs with | cons h2 hvs=>?_
 cases hvs
 have h3:Rd (cx G ρ w) ρ (.own 0) _:=h1
 have h4:Rd (cx G ρ w) ρ (.str sep) _:=h2
 cases h4 with | str hs=>?_
 have hfin:∀ {e:Ending} {w':World},e = .returned (.string ⟨(Lib.join (l.map (·.b)) sep.b).toArray⟩)->Kp [] w w' -> ∃ v,e = .returned v/\∃ us,v=pH us/\∃ ρ',Rep G ρ' [.row 9 .str l] w' /\ Ext ρ w ρ' w' /\ (∀ (i g:Nat),ρ[i]? = some (.blk g)->ρ'[i]? = some (.blk g))/\All2 (bt (cx G ρ' w') ρ') [.c (.str ⟨Lib.join (l.map (·.b)) sep.b⟩)] us/\(true=true->Kp [] w w' /\ ∀ (i:Nat) (rr:RE),ρ[i]? = some rr->ρ'[i]? = some rr):=fun {e w'} he hk=>
  ⟨_,he,[_],rfl,ρ,hR.kp hk,Ext.kp hk,fun _ _ h=>h,.cons (show bt (cx G ρ w') ρ (.c (.str ⟨Lib.join (l.map (·.b)) sep.b⟩)) _ from (Pd.str hl:Pd (cx G ρ w') (.str ⟨Lib.join (l.map (·.b)) sep.b⟩) (Str.val ⟨Lib.join (l.map (·.b)) sep.b⟩))) .nil,fun _=>⟨hk,fun _ _ h=>h⟩⟩
 have hH:getO [AO.row 9 .str l] 0 = .row 9 .str l:=rfl
 rcases bb hR hH with ⟨h0,h5⟩ | ⟨g,cap,cells,sp,h5,h6,h7,h8,h9,h10⟩
 ·rcases h3 with ⟨_,_,_,_,h3,_⟩ | ⟨_,a,rfl⟩
  ·rw [h0] at h3; cases h3
  ·exact (Any.strings_Join_none iP bN a 0 ⟨sep.b.toArray⟩ w).mono fun e w' ⟨he,hw⟩=>hfin (by rw [he,h5]; rfl) (by rw [hw]; exact Kp.refl _)
 ·rcases h3 with ⟨_,_,_,_,h3,rfl⟩ | ⟨h3,_⟩
  ·rw [h5] at h3; cases h3
   have hc:cells=l.map Str.val:=fQ h7
   have hcs:=a_ h6
   have:=Any.strings_Join iP bN g 0 cap (l.map fun s=>(⟨s.b.toArray⟩:ByteArray)) ⟨sep.b.toArray⟩ w (fun j x hx=>?_) ((hR.bnd _ _ g h5 rfl).2.1) (by rw [List.length_map]; have:=(cc hR hH).2; simp [Sh.bytes] at this; omega) (by rw [List.length_map]; exact h9) (by simpa [Function.comp_def] using hl)
   ·rw [List.length_map] at this
    exact this.mono fun e w' ⟨he,hw⟩=>hfin (by rw [he]; simp [Function.comp_def]) (Kp.gp hw)
   ·have:=hcs j (.string x) (by rw [hc,List.getElem?_map]; rw [List.getElem?_map] at hx; cases hq:l[j]? <;> rw [hq] at hx <;> simp_all [Str.val])
    rw [add_lit] at this
    exact this
  ·rw [h5] at h3; cases h3
end Go.Proofs.YtagpmhlokhoanaaDoor
namespace Go.Proofs.YtagpmhlokhoanaaDoor
open Go.Shelf Go.Proofs
def aj:Go.Shelf.Ren:=⟨fun | 169=>39 | n=>n,fun | 70=>60 | 9=>9 | 0=>0 | 72=>62 | 37=>58 | 127=>81 | 3=>3 | 5=>5 | n=>n,fun | n=>n⟩
theorem lS:Lays.n169 Tryd.prog aj:={
 mixed:=by kernel_rfl
 f169:=Tryd.func39.trans (congrArg some (by kernel_rfl))
 t0:=Tryd.underlying0
 a0:=Tryd.isAgg0
 z0:=Tryd.sizeOf0
 v0:=Tryd.zeroValue0
 t3:=Tryd.underlying3
 a3:=Tryd.isAgg3
 z3:=Tryd.sizeOf3
 v3:=Tryd.zeroValue3
 t9:=Tryd.underlying9
 a9:=Tryd.isAgg9
 z9:=Tryd.sizeOf9
 v9:=Tryd.zeroValue9
 t37:=Tryd.underlying58
 a37:=Tryd.isAgg58
 z37:=Tryd.sizeOf58
 v37:=Tryd.zeroValue58
 t70:=Tryd.underlying60
 a70:=Tryd.isAgg60
 z70:=Tryd.sizeOf60
 v70:=Tryd.zeroValue60
 t72:=Tryd.underlying62
 a72:=Tryd.isAgg62
 z72:=Tryd.sizeOf62
 v72:=Tryd.zeroValue62
 t127:=Tryd.underlying81
 a127:=Tryd.isAgg81
 z127:=Tryd.sizeOf81
 v127:=Tryd.zeroValue81 }
theorem dE:Builder.Extra Tryd.prog aj:={
 sizeBuilder:=by kernel_rfl
 liesBuilder:=by kernel_rfl
 t5:=Tryd.underlying5
 a5:=Tryd.isAgg5
 z5:=Tryd.sizeOf5
 v5:=Tryd.zeroValue5
 infoByte:=by kernel_rfl
 cellsByte:=by kernel_rfl
 sizeByte:=by kernel_rfl
 neB5:=by decide }
def lA:Go.Shelf.Ren:=⟨fun | 137=>54 | 217=>69 | 266=>82 | n=>n,fun | 9=>9 | 5=>5 | 3=>3 | n=>n,fun | n=>n⟩
theorem sV:Lays.n137 Tryd.prog lA:={
 mixed:=by kernel_rfl
 f137:=Tryd.func54.trans (congrArg some (by kernel_rfl))
 f217:=Tryd.func69.trans (congrArg some (by kernel_rfl))
 f266:=Tryd.func82.trans (congrArg some (by kernel_rfl))
 t3:=Tryd.underlying3
 a3:=Tryd.isAgg3
 z3:=Tryd.sizeOf3
 v3:=Tryd.zeroValue3
 t5:=Tryd.underlying5
 a5:=Tryd.isAgg5
 z5:=Tryd.sizeOf5
 v5:=Tryd.zeroValue5
 t9:=Tryd.underlying9
 a9:=Tryd.isAgg9
 z9:=Tryd.sizeOf9
 v9:=Tryd.zeroValue9 }
def ly:Go.Shelf.Ren:=⟨fun | 146=>33 | 221=>48 | 268=>55 | 138=>56 | 143=>57 | 195=>70 | 197=>71 | 218=>72 | 219=>73 | 260=>83 | 217=>69 | 225=>84 | 224=>85 | 267=>86 | 266=>82 | 314=>91 | n=>n,fun | 9=>9 | 31=>46 | 3=>3 | 4=>4 | 0=>0 | 105=>102 | 21=>21 | 5=>5 | 46=>69 | 119=>121 | 139=>124 | 138=>123 | 146=>125 | 51=>107 | n=>n,fun | 1=>2 | 3=>5 | 4=>6 | n=>n⟩
theorem tr:Lays.n146 Tryd.prog ly:={
 mixed:=by kernel_rfl
 f138:=Tryd.func56.trans (congrArg some (by kernel_rfl))
 f143:=Tryd.func57.trans (congrArg some (by kernel_rfl))
 f146:=Tryd.func33.trans (congrArg some (by kernel_rfl))
 f195:=Tryd.func70.trans (congrArg some (by kernel_rfl))
 f197:=Tryd.func71.trans (congrArg some (by kernel_rfl))
 f217:=Tryd.func69.trans (congrArg some (by kernel_rfl))
 f218:=Tryd.func72.trans (congrArg some (by kernel_rfl))
 f219:=Tryd.func73.trans (congrArg some (by kernel_rfl))
 f221:=Tryd.func48.trans (congrArg some (by kernel_rfl))
 f224:=Tryd.func85.trans (congrArg some (by kernel_rfl))
 f225:=Tryd.func84.trans (congrArg some (by kernel_rfl))
 f260:=Tryd.func83.trans (congrArg some (by kernel_rfl))
 f266:=Tryd.func82.trans (congrArg some (by kernel_rfl))
 f267:=Tryd.func86.trans (congrArg some (by kernel_rfl))
 f268:=Tryd.func55.trans (congrArg some (by kernel_rfl))
 f314:=Tryd.func91.trans (congrArg some (by kernel_rfl))
 t0:=Tryd.underlying0
 a0:=Tryd.isAgg0
 z0:=Tryd.sizeOf0
 v0:=Tryd.zeroValue0
 t3:=Tryd.underlying3
 a3:=Tryd.isAgg3
 z3:=Tryd.sizeOf3
 v3:=Tryd.zeroValue3
 t4:=Tryd.underlying4
 a4:=Tryd.isAgg4
 z4:=Tryd.sizeOf4
 v4:=Tryd.zeroValue4
 t5:=Tryd.underlying5
 a5:=Tryd.isAgg5
 z5:=Tryd.sizeOf5
 v5:=Tryd.zeroValue5
 t9:=Tryd.underlying9
 a9:=Tryd.isAgg9
 z9:=Tryd.sizeOf9
 v9:=Tryd.zeroValue9
 t21:=Tryd.underlying21
 a21:=Tryd.isAgg21
 z21:=Tryd.sizeOf21
 v21:=Tryd.zeroValue21
 t31:=Tryd.underlying46
 a31:=Tryd.isAgg46
 z31:=Tryd.sizeOf46
 v31:=Tryd.zeroValue46
 t46:=Tryd.underlying69
 a46:=Tryd.isAgg69
 z46:=Tryd.sizeOf69
 v46:=Tryd.zeroValue69
 t51:=Tryd.underlying107
 a51:=Tryd.isAgg107
 z51:=Tryd.sizeOf107
 v51:=Tryd.zeroValue107
 t105:=Tryd.underlying102
 a105:=Tryd.isAgg102
 z105:=Tryd.sizeOf102
 v105:=Tryd.zeroValue102
 t119:=Tryd.underlying121
 a119:=Tryd.isAgg121
 z119:=Tryd.sizeOf121
 t138:=Tryd.underlying123
 a138:=Tryd.isAgg123
 z138:=Tryd.sizeOf123
 v138:=Tryd.zeroValue123
 t139:=Tryd.underlying124
 a139:=Tryd.isAgg124
 z139:=Tryd.sizeOf124
 v139:=Tryd.zeroValue124
 t146:=Tryd.underlying125
 a146:=Tryd.isAgg125
 z146:=Tryd.sizeOf125
 v146:=Tryd.zeroValue125
 g1:=by kernel_rfl
 g3:=by kernel_rfl
 g4:=by kernel_rfl }
def jQ:Go.Shelf.Ren:=⟨fun | 172=>46 | 244=>52 | 245=>53 | 247=>64 | 279=>65 | 280=>66 | 281=>67 | 282=>68 | 287=>79 | 316=>80 | 171=>23 | 205=>81 | 321=>89 | 322=>90 | 243=>41 | 246=>50 | 283=>59 | 284=>60 | 285=>61 | 286=>62 | 129=>75 | 317=>74 | 318=>76 | 319=>77 | 320=>78 | 337=>87 | 338=>88 | n=>n,fun | 9=>9 | 3=>3 | 75=>64 | 76=>65 | 4=>4 | 5=>5 | 167=>96 | 37=>58 | 0=>0 | 85=>97 | 2=>2 | 168=>99 | 53=>90 | 175=>110 | 46=>69 | 210=>113 | 127=>81 | 145=>120 | 143=>118 | 21=>21 | 171=>89 | 173=>93 | 212=>106 | 51=>107 | 20=>20 | 213=>108 | 232=>127 | 233=>128 | 80=>68 | n=>n,fun | 15=>3 | 16=>4 | 17=>1 | 18=>7 | 19=>8 | n=>n⟩
theorem f_:LaysC.n172 Tryd.prog jQ:={
 mixed:=by kernel_rfl
 f129:=Tryd.func75.trans (congrArg some (by kernel_rfl))
 f171:=Tryd.func23.trans (congrArg some (by kernel_rfl))
 f172:=Tryd.func46.trans (congrArg some (by kernel_rfl))
 f205:=Tryd.func81.trans (congrArg some (by kernel_rfl))
 f243:=Tryd.func41.trans (congrArg some (by kernel_rfl))
 f244:=Tryd.func52.trans (congrArg some (by kernel_rfl))
 f245:=Tryd.func53.trans (congrArg some (by kernel_rfl))
 f246:=Tryd.func50.trans (congrArg some (by kernel_rfl))
 f247:=Tryd.func64.trans (congrArg some (by kernel_rfl))
 f279:=Tryd.func65.trans (congrArg some (by kernel_rfl))
 f280:=Tryd.func66.trans (congrArg some (by kernel_rfl))
 f281:=Tryd.func67.trans (congrArg some (by kernel_rfl))
 f282:=Tryd.func68.trans (congrArg some (by kernel_rfl))
 f283:=Tryd.func59.trans (congrArg some (by kernel_rfl))
 f284:=Tryd.func60.trans (congrArg some (by kernel_rfl))
 f285:=Tryd.func61.trans (congrArg some (by kernel_rfl))
 f286:=Tryd.func62.trans (congrArg some (by kernel_rfl))
 f287:=Tryd.func79.trans (congrArg some (by kernel_rfl))
 f316:=Tryd.func80.trans (congrArg some (by kernel_rfl))
 f317:=Tryd.func74.trans (congrArg some (by kernel_rfl))
 f318:=Tryd.func76.trans (congrArg some (by kernel_rfl))
 f319:=Tryd.func77.trans (congrArg some (by kernel_rfl))
 f320:=Tryd.func78.trans (congrArg some (by kernel_rfl))
 f321:=Tryd.func89.trans (congrArg some (by kernel_rfl))
 f322:=Tryd.func90.trans (congrArg some (by kernel_rfl))
 f337:=Tryd.func87.trans (congrArg some (by kernel_rfl))
 f338:=Tryd.func88.trans (congrArg some (by kernel_rfl))
 t0:=Tryd.underlying0
 a0:=Tryd.isAgg0
 z0:=Tryd.sizeOf0
 v0:=Tryd.zeroValue0
 t2:=Tryd.underlying2
 a2:=Tryd.isAgg2
 z2:=Tryd.sizeOf2
 v2:=Tryd.zeroValue2
 t3:=Tryd.underlying3
 a3:=Tryd.isAgg3
 z3:=Tryd.sizeOf3
 v3:=Tryd.zeroValue3
 t4:=Tryd.underlying4
 a4:=Tryd.isAgg4
 z4:=Tryd.sizeOf4
 v4:=Tryd.zeroValue4
 t5:=Tryd.underlying5
 a5:=Tryd.isAgg5
 z5:=Tryd.sizeOf5
 v5:=Tryd.zeroValue5
 t9:=Tryd.underlying9
 a9:=Tryd.isAgg9
 z9:=Tryd.sizeOf9
 v9:=Tryd.zeroValue9
 t20:=Tryd.underlying20
 a20:=Tryd.isAgg20
 z20:=Tryd.sizeOf20
 v20:=Tryd.zeroValue20
 t21:=Tryd.underlying21
 a21:=Tryd.isAgg21
 z21:=Tryd.sizeOf21
 v21:=Tryd.zeroValue21
 t37:=Tryd.underlying58
 a37:=Tryd.isAgg58
 z37:=Tryd.sizeOf58
 v37:=Tryd.zeroValue58
 t46:=Tryd.underlying69
 a46:=Tryd.isAgg69
 z46:=Tryd.sizeOf69
 v46:=Tryd.zeroValue69
 t51:=Tryd.underlying107
 a51:=Tryd.isAgg107
 z51:=Tryd.sizeOf107
 v51:=Tryd.zeroValue107
 t53:=Tryd.underlying90
 a53:=Tryd.isAgg90
 z53:=Tryd.sizeOf90
 v53:=Tryd.zeroValue90
 t75:=Tryd.underlying64
 a75:=Tryd.isAgg64
 z75:=Tryd.sizeOf64
 v75:=Tryd.zeroValue64
 t76:=Tryd.underlying65
 a76:=Tryd.isAgg65
 z76:=Tryd.sizeOf65
 v76:=Tryd.zeroValue65
 t85:=Tryd.underlying97
 a85:=Tryd.isAgg97
 z85:=Tryd.sizeOf97
 v85:=Tryd.zeroValue97
 t127:=Tryd.underlying81
 a127:=Tryd.isAgg81
 z127:=Tryd.sizeOf81
 v127:=Tryd.zeroValue81
 t143:=Tryd.underlying118
 a143:=Tryd.isAgg118
 z143:=Tryd.sizeOf118
 v143:=Tryd.zeroValue118
 t145:=Tryd.underlying120
 a145:=Tryd.isAgg120
 z145:=Tryd.sizeOf120
 v145:=Tryd.zeroValue120
 t167:=Tryd.underlying96
 a167:=Tryd.isAgg96
 z167:=Tryd.sizeOf96
 v167:=Tryd.zeroValue96
 t168:=Tryd.underlying99
 a168:=Tryd.isAgg99
 z168:=Tryd.sizeOf99
 v168:=Tryd.zeroValue99
 t171:=Tryd.underlying89
 a171:=Tryd.isAgg89
 z171:=Tryd.sizeOf89
 v171:=Tryd.zeroValue89
 t173:=Tryd.underlying93
 a173:=Tryd.isAgg93
 z173:=Tryd.sizeOf93
 v173:=Tryd.zeroValue93
 t175:=Tryd.underlying110
 a175:=Tryd.isAgg110
 z175:=Tryd.sizeOf110
 v175:=Tryd.zeroValue110
 t210:=Tryd.underlying113
 a210:=Tryd.isAgg113
 z210:=Tryd.sizeOf113
 v210:=Tryd.zeroValue113
 t212:=Tryd.underlying106
 a212:=Tryd.isAgg106
 z212:=Tryd.sizeOf106
 v212:=Tryd.zeroValue106
 t213:=Tryd.underlying108
 a213:=Tryd.isAgg108
 z213:=Tryd.sizeOf108
 t232:=Tryd.underlying127
 a232:=Tryd.isAgg127
 z232:=Tryd.sizeOf127
 v232:=Tryd.zeroValue127
 t233:=Tryd.underlying128
 a233:=Tryd.isAgg128
 z233:=Tryd.sizeOf128
 v233:=Tryd.zeroValue128
 g15:=by kernel_rfl
 g16:=by kernel_rfl
 g17:=by kernel_rfl
 g18:=by kernel_rfl
 g19:=by kernel_rfl
 t80:=Tryd.underlying68
 a80:=Tryd.isAgg68
 z80:=Tryd.sizeOf68
 v80:=Tryd.zeroValue68
 i0:=by kernel_rfl
 i2:=by kernel_rfl
 i3:=by kernel_rfl
 i4:=by kernel_rfl
 i5:=by kernel_rfl
 i9:=by kernel_rfl
 i20:=by kernel_rfl
 i21:=by kernel_rfl
 i37:=by kernel_rfl
 i46:=by kernel_rfl
 i51:=by kernel_rfl
 i53:=by kernel_rfl
 i75:=by kernel_rfl
 i76:=by kernel_rfl
 i80:=by kernel_rfl
 i85:=by kernel_rfl
 i127:=by kernel_rfl
 i143:=by kernel_rfl
 i145:=by kernel_rfl
 i167:=by kernel_rfl
 i168:=by kernel_rfl
 i171:=by kernel_rfl
 i173:=by kernel_rfl
 i175:=by kernel_rfl
 i210:=by kernel_rfl
 i212:=by kernel_rfl
 i232:=by kernel_rfl
 i233:=by kernel_rfl
 m15:=by kernel_rfl
 m16:=by kernel_rfl
 m17:=by kernel_rfl
 m18:=by kernel_rfl
 m19:=by kernel_rfl
 c0:=by kernel_rfl
 c2:=by kernel_rfl
 c3:=by kernel_rfl
 c4:=by kernel_rfl
 c5:=by kernel_rfl
 c9:=by kernel_rfl
 c20:=by kernel_rfl
 c21:=by kernel_rfl
 c37:=by kernel_rfl
 c46:=by kernel_rfl
 c51:=by kernel_rfl
 c53:=by kernel_rfl
 c75:=by kernel_rfl
 c76:=by kernel_rfl
 c80:=by kernel_rfl
 c85:=by kernel_rfl
 c127:=by kernel_rfl
 c143:=by kernel_rfl
 c145:=by kernel_rfl
 c167:=by kernel_rfl
 c168:=by kernel_rfl
 c171:=by kernel_rfl
 c173:=by kernel_rfl
 c175:=by kernel_rfl
 c210:=by kernel_rfl
 c212:=by kernel_rfl
 c213:=by kernel_rfl
 c232:=by kernel_rfl
 c233:=by kernel_rfl }
end Go.Proofs.YtagpmhlokhoanaaDoor
namespace Go.Proofs.YtagpmhlokhoanaaDoor
open Go.RowKit Go.Proofs
def pT (b:UInt8):List (List UInt8)->List (List UInt8)
 | []=>[[b]]
 | x :: r=>(b :: x) :: r
def av (c:UInt8):List UInt8->List (List UInt8)
 | []=>[[]]
 | b :: l=>if b=c then [] :: av c l else pT b (av c l)
theorem ew {c:UInt8} {r:List UInt8}:∀ {x:List UInt8},c ∉ x->av c (x++c :: r)=x :: av c r
 | [],_=>by simp [av]
 | b :: x,h=>by
  have hb:b≠c:=fun e=>h (by simp [e])
  rw [List.cons_append,av,if_neg hb,ew fun hc=>h (by simp [hc])]; rfl
theorem h_ {c:UInt8}:∀ {x:List UInt8},c ∉ x->av c x=[x]
 | [],_=>rfl
 | b :: x,h=>by
  have hb:b≠c:=fun e=>h (by simp [e])
  rw [av,if_neg hb,h_ fun hc=>h (by simp [hc])]; rfl
theorem vx (c:UInt8):∀ l:List UInt8,c ∉ l\/∃ x r,l=x++c :: r/\c ∉ x
 | []=>.inl (by simp)
 | b :: l=>by
  by_cases hb:b=c
  ·exact .inr ⟨[],l,by rw [hb]; rfl,by simp⟩
  ·rcases vx c l with h | ⟨x,r,rfl,h⟩
   ·exact .inl (by simp [h,Ne.symm hb])
   ·exact .inr ⟨b :: x,r,rfl,by simp [h,Ne.symm hb]⟩
theorem pO {c:UInt8}:∀ {l:List UInt8},c ∉ l->Lib.index l [c] = -1
 | [],_=>rfl
 | b :: l,h=>by
  have hb:¬ b=c:=fun e=>h (by simp [e])
  have hp:([c]:List UInt8).isPrefixOf (b :: l)=false:=by simp [List.isPrefixOf,Ne.symm hb]
  rw [Lib.index,hp,pO fun hc=>h (by simp [hc])]; rfl
theorem mB {c:UInt8} {r:List UInt8}:∀ {x:List UInt8},c ∉ x->Lib.index (x++c :: r) [c]=x.length
 | [],_=>by simp [Lib.index,List.isPrefixOf]
 | b :: x,h=>by
  have hb:¬ b=c:=fun e=>h (by simp [e])
  have hp:([c]:List UInt8).isPrefixOf (b :: (x++c :: r))=false:=by simp [List.isPrefixOf,Ne.symm hb]
  rw [List.cons_append,Lib.index,hp,mB fun hc=>h (by simp [hc])]
  simp only [Bool.false_eq_true,if_false,List.length_cons]
  rw [if_neg (by simp <;> omega)]; omega
theorem sP {c:UInt8}:∀ (n:Nat) (l:List UInt8),l.length<=n->Lib.splitK [c] 0 (Lib.count l [c]) l=av c l:=fun n=>by
 induction n with
 | zero=>
  intro l h
  obtain rfl:l=[]:=List.eq_nil_of_length_eq_zero (by omega)
  rw [Lib.count_one]; rfl
 | succ n ih=>
  intro l h
  rcases vx c l with hn | ⟨x,r,rfl,hx⟩
  ·rw [Lib.count_miss (pO hn),h_ hn]; rfl
  ·have hi:=mB (r:=r) hx
   rw [Lib.count_hit (by simp) hi,ew hx,Nat.add_comm,Lib.splitK,if_neg (by rw [hi]; simp <;> omega),hi]
   have e:(x++c :: r).drop (x.length+1)=r:=by
    rw [List.drop_append]; simp
   simp only [Int.toNat_natCast,Nat.add_zero,List.length_cons,List.length_nil,Nat.zero_add,e]
   rw [ih r (by simp at h; omega),List.take_left]
def bG (s sep:Str):List Str:=(av (sep.b.getD 0 0) s.b).map Str.mk
theorem cG (c:UInt8):∀ l:List UInt8,(av c l).length<=l.length+1/\av c l≠[]
 | []=>by simp [av]
 | b :: l=>by
  have:=cG c l
  unfold av
  split
  ·simp; omega
  ·cases h:av c l with
   | nil=>exact absurd h this.2
   | cons x r=>rw [h] at this; simp [pT] at this ⊢; omega
theorem fW (c:UInt8):∀ (l:List UInt8),∀ x ∈ av c l,x.length<=l.length
 | [],x,h=>by simp [av] at h; simp [h]
 | b :: l,x,h=>by
  unfold av at h
  have ih:=fW c l
  split at h
  ·rcases List.mem_cons.1 h with rfl | h
   ·simp
   ·have:=ih x h; simp; omega
  ·cases hs:av c l with
   | nil=>rw [hs] at h; simp [pT] at h; subst h; simp
   | cons y r=>
    rw [hs] at h ih
    simp only [pT,List.mem_cons] at h
    rcases h with rfl | h
    ·have:=ih y (by simp); simp; omega
    ·have:=ih x (by simp [h]); simp; omega
theorem ow {c:Cx}:∀ {l:List Str},(∀ s ∈ l,s.b.length<=140737488355328)->Pds c (l.flatMap (cellsOf .str)) (l.map Str.val)
 | [],_=>.nil
 | s :: l,h=>.cons (.str (h s (by simp))) (ow fun x hx=>h x (by simp [hx]))
theorem uE {G:Gl} {ρ:List RE} {H:AH} {w:World} (hR:Rep G ρ H w) (hG:G.shp=ai aX) {l:List Str} (hl:∀ x ∈ l,x.b.length<=140737488355328) (hn:l.length<=4294967296):bt (cx G ρ (w.alloc (.cells (List.toArray (l.map Str.val)) 9))) ρ (.c (.fz .str l)) (.slice (some ⟨w.heap.size,0,none⟩) l.length l.length):=
 (Pd.fz (c:=cx G ρ (w.alloc (.cells (List.toArray (l.map Str.val)) 9))) (s:=.str) (xs:=l) (Nat.le_refl _) (by simp only [maxLen]; omega) (by simp only [Sh.bytes]; omega) (ow hl) (.inr ⟨_,rfl,⟨⟨by simp,fun ⟨i,r,e1,e2⟩=>by have:=(hR.bnd i r _ e1 e2).2.1; simp at this,fun hz=>by have:=hR.z _ hz; simp at this⟩,.inr ⟨_,_,_,heap_alloc_new w _,by rw [show (cx G ρ (w.alloc (.cells (List.toArray (l.map Str.val)) 9))).shp=ai aX from hG]; kernel_rfl⟩⟩,a_ (cells:=l.map Str.val) (sp:=[]) (by rw [List.append_nil]; exact heap_alloc_new w _)⟩):Pd _ (.fz .str l) _)
theorem sM (s sep:Str) (h0:s.b.length<4294967281) (h1:sep.b.length=1):Sat Tryd.prog (ai aX) 33 [.c (.str s),.c (.str sep)] [] ⟨[],[.c (.fz .str (bG s sep))],none,false⟩:=by
 refine ⟨⟨_,Tryd.func33,by decide,by kernel_rfl⟩,fun G ρ w vs hG hR hvs=>?_⟩
 cases hvs with | cons h2 hvs=>?_
 cases hvs with | cons h3 hvs=>?_
 cases hvs
 have h2:Pd (cx G ρ w) (.str s) _:=h2
 have h3:Pd (cx G ρ w) (.str sep) _:=h3
 cases h2 with | str hs=>?_
 cases h3 with | str hsep=>?_
 obtain ⟨c,hc⟩:∃ c,sep.b=[c]:=by
  cases hq:sep.b with
  | nil=>rw [hq] at h1; simp at h1
  | cons c r=>cases r with
   | nil=>exact ⟨c,rfl⟩
   | cons _ _=>rw [hq] at h1; simp at h1
 obtain ⟨hgS,v,t,fr,hg,m,rfl⟩:=hR.tb.1 (2,true) (by simp [tN])
 have hg:w.heap[2]? = some (.cells #[.int .i64 m] t fr):=hg
 have hcell:w.cell? ⟨2,0,none⟩=some (.int .i64 m):=by rw [Lib.cell_of_heap hg]; rfl
 refine (Any.strings_Split tr (by kernel_rfl) ⟨s.b.toArray⟩ ⟨sep.b.toArray⟩ m w (by simpa [ByteArray.size] using h0) hcell (by simp [ByteArray.size]; omega)).mono fun e w' ⟨he,hw⟩=>?_
 have hmap:(Lib.splitB ⟨sep.b.toArray⟩ 0 (Lib.countB ⟨s.b.toArray⟩ ⟨sep.b.toArray⟩) ⟨s.b.toArray⟩).map (·.data.toList)=av c s.b:=by
  rw [Lib.splitB_data]
  have:Lib.countB ⟨s.b.toArray⟩ ⟨sep.b.toArray⟩=Lib.count s.b sep.b:=rfl
  rw [this,hc]
  exact sP _ _ (Nat.le_refl _)
 have hlen:Lib.countB ⟨s.b.toArray⟩ ⟨sep.b.toArray⟩+1=(av c s.b).length:=by
  rw [<- hmap,List.length_map,Lib.splitB_all _ (by simp [ByteArray.size]; omega) 0 _ _ rfl]
 have hvals:(Lib.splitB ⟨sep.b.toArray⟩ 0 (Lib.countB ⟨s.b.toArray⟩ ⟨sep.b.toArray⟩) ⟨s.b.toArray⟩).map Value.string=(bG s sep).map Str.val:=by
  have e:bG s sep=(av c s.b).map Str.mk:=by unfold bG; rw [hc]; rfl
  rw [e,<- hmap,List.map_map,List.map_map]
  refine List.map_congr_left fun x _=>?_
  simp [Str.val]
 have hl:(bG s sep).length=(av c s.b).length:=by unfold bG; rw [hc]; simp
 have hle:=(cG c s.b).1
 rw [hvals] at hw
 rw [hlen,<- hl] at he
 subst hw
 exact ⟨_,he,[_],rfl,Kp.alloc w _,.cons (uE (l:=bG s sep) hR hG (fun x hx=>by
  unfold bG at hx
  rw [hc,List.mem_map] at hx
  obtain ⟨y,hy,rfl⟩:=hx
  have:=fW c s.b y hy
  show y.length<=_
  omega) (by omega)) .nil⟩
theorem dc (c:UInt8):∀ l:List UInt8,-1<=Lib.indexByte l c/\Lib.indexByte l c<=l.length
 | []=>by simp [Lib.indexByte]
 | b :: l=>by
  have:=dc c l
  simp only [Lib.indexByte,List.length_cons]
  split
  ·omega
  ·split <;> omega
theorem tK (s:Str) (c:UInt8):Sat Tryd.prog (ai aX) 54 [.c (.str s),.c (.u8 c)] [] ⟨[],[.c (.int (Lib.indexByte s.b c))],none,false⟩:=by
 refine ⟨⟨_,Tryd.func54,by decide,by kernel_rfl⟩,fun G ρ w vs hG hR hvs=>?_⟩
 cases hvs with | cons h2 hvs=>?_
 cases hvs with | cons h3 hvs=>?_
 cases hvs
 have h2:Pd (cx G ρ w) (.str s) _:=h2
 have h3:Pd (cx G ρ w) (.u8 c) _:=h3
 cases h2 with | str hs=>?_
 cases h3
 refine (Any.strings_IndexByte sV ⟨s.b.toArray⟩ (c.toNat:Int) w).mono fun e w' ⟨he,hw⟩=>?_
 subst hw
 have hb:=dc c s.b
 refine ⟨_,he,[_],rfl,Kp.refl _,.cons ?_ .nil⟩
 have e2:((c.toNat:Int).toNat.toUInt8)=c:=by rw [Int.toNat_natCast]; exact UInt8.ofNat_toNat
 rw [e2]
 exact (Pd.int ⟨by omega,by omega⟩:Pd _ (.int (Lib.indexByte s.b c)) _)
def aH (s:Str):Int:=match Lib.atoiAll s.b with
 | .ok v=>v
 | .range=>Lib.atoiSat s.b
 | _=>0
def bS (s:Str):Bool:=match Lib.atoiAll s.b with
 | .ok _=>true
 | _=>false
theorem vc (s:Str):Sat Tryd.prog (ai aX) 46 [.c (.str s)] [] ⟨[],[.c (.int (aH s)),.c (.xx (.er (bS s)) [])],none,false⟩:=by
 refine ⟨⟨_,Tryd.func46,by decide,by kernel_rfl⟩,fun G ρ w vs hG hR hvs=>?_⟩
 cases hvs with | cons h2 hvs=>?_
 cases hvs
 have h2:Pd (cx G ρ w) (.str s) _:=h2
 cases h2 with | str hs=>?_
 have hsz:(ByteArray.mk s.b.toArray).size=s.b.length:=by simp [ByteArray.size]
 obtain ⟨_,v3,t3,f3,hg3,tp3,p3,rfl⟩:=hR.tb.1 (3,false) (by simp [tN])
 obtain ⟨_,v4,t4,f4,hg4,tp4,p4,rfl⟩:=hR.tb.1 (4,false) (by simp [tN])
 have hg3:w.heap[3]? = some (.cells #[.iface tp3 p3] t3 f3):=hg3
 have hg4:w.heap[4]? = some (.cells #[.iface tp4 p4] t4 f4):=hg4
 have hc3:w.cell? ⟨3,0,none⟩=some (.iface tp3 p3):=by rw [Lib.cell_of_heap hg3]; rfl
 have hc4:w.cell? ⟨4,0,none⟩=some (.iface tp4 p4):=by rw [Lib.cell_of_heap hg4]; rfl
 rcases h:Lib.atoiAll s.b with v | _ | _
 ·have hb:=Lib.atoiAll_bounds h
  refine (Any.strconv_Atoi_ok f_ ⟨s.b.toArray⟩ (by omega) v h w).mono fun e w' ⟨he,hw⟩=>?_
  have hk:Kp [] w w':=by
   rcases hw with rfl | ⟨t,rfl⟩
   ·exact Kp.refl _
   ·exact Kp.gp (Lib.bytesWorld_below _ _ _)
  refine ⟨_,he,[_,_],rfl,hk,.cons ?_ (.cons ⟨[],.nil,rfl,.inl ⟨by simp [bS,h],rfl⟩⟩ .nil)⟩
  rw [show aH s=v by simp [aH,h]]
  exact (Pd.int hb:Pd _ (.int v) _)
 ·refine (Any.strconv_Atoi_syntax f_ ⟨s.b.toArray⟩ (by omega) h _ w hc3 (.inr ⟨_,_,rfl⟩)).mono fun e w' ⟨N,he,_,_,hb⟩=>?_
  refine ⟨_,he,[_,_],rfl,Kp.gp hb,.cons ?_ (.cons ⟨[],.nil,rfl,.inr ⟨by simp [bS,h],_,_,rfl⟩⟩ .nil)⟩
  rw [show aH s=0 by simp [aH,h]]
  exact (Pd.int ⟨by omega,by omega⟩:Pd _ (.int 0) _)
 ·have hb:=Lib.atoiSat_bounds s.b
  refine (Any.strconv_Atoi_range f_ ⟨s.b.toArray⟩ (by omega) h _ w hc4 (.inr ⟨_,_,rfl⟩)).mono fun e w' ⟨N,he,_,_,hb⟩=>?_
  refine ⟨_,he,[_,_],rfl,Kp.gp hb,.cons ?_ (.cons ⟨[],.nil,rfl,.inr ⟨by simp [bS,h],_,_,rfl⟩⟩ .nil)⟩
  rw [show aH s=Lib.atoiSat s.b by simp [aH,h]]
  exact (Pd.int (Lib.atoiSat_bounds s.b):Pd _ (.int (Lib.atoiSat s.b)) _)
end Go.Proofs.YtagpmhlokhoanaaDoor
namespace Go.Proofs.YtagpmhlokhoanaaDoor
open Go.RowKit Go.Proofs Go.Shelf
def tq (xs:List UInt8):AH:=[.box 62 [.xx .bp [(0,0)],.own 1],.row 5 .u8 xs]
theorem px {G:Gl} {ρ:List RE} {w:World} {xs:List UInt8} (hR:Rep G ρ (tq xs) w):∃ g p v,ρ[0]? = some (.blk g)/\w.heap[g]? = some (.cells #[p,v] 62 (0,0))/\(p = .pointer none\/p = .pointer (some ⟨g,0,none⟩))/\Rd (cx G ρ w) ρ (.own 1) v:=by
 obtain ⟨r,hr,g,vs,rfl,h1,h2⟩:=hR.at_ (show (tq xs)[0]? = some _ from rfl)
 cases h2 with | cons h2 h3=>?_
 cases h3 with | cons h3 h4=>?_
 cases h4
 obtain ⟨us,h5,h6,h7⟩:=h2
 cases h5 with | cons h5 h8=>?_
 cases h8
 obtain ⟨g',h9,rfl⟩:=h5
 rw [hr] at h9; cases h9
 refine ⟨g,_,_,hr,h1,?_,h3⟩
 rcases h7 with h7 | h7
 ·exact .inl h7
 ·exact .inr (List.cons.inj h7).1.symm
theorem lG (xs:List UInt8):Sat Tryd.prog (ai aX) 49 [.c (.ptr 0 0)] (tq xs) ⟨[],[],some (tq xs),false⟩:=by
 refine ⟨⟨_,Tryd.func49,by decide,by kernel_rfl⟩,fun G ρ w vs hG hR hvs=>?_⟩
 cases hvs with | cons h1 hvs=>?_
 cases hvs
 obtain ⟨g0,h0,rfl⟩:=h1
 obtain ⟨g,p,v,h1,hb,hp,hv⟩:=px hR
 obtain rfl:g=g0:=by rw [h1] at h0; cases h0; rfl
 clear h0
 have L:Lays.n240 Tryd.prog dJ:={ iP with }
 rcases hp with rfl | rfl
 ·refine (Any.Builder_copyCheck_fresh L bN.toX72 g w (by rw [Lib.cell_of_heap hb]; rfl) (by simp [World.shape?,hb]; rfl) (Lib.frozen_of_heap hb 0)).mono fun e w' ⟨he,hw⟩=>?_
  have hk:Kp [g] w w':=by
   subst hw
   refine ⟨rfl,rfl,rfl,by simp [World.setCell],fun b hb hn=>?_⟩
   simp only [World.setCell,Array.getElem?_modify]
   rw [if_neg (by simpa using fun h=>hn (by simp [h]))]
  have hb':w'.heap[g]? = some (.cells #[.pointer (some ⟨g,0,none⟩),v] 62 (0,0)):=by
   subst hw
   simp [World.setCell,Array.getElem?_modify,hb]
  obtain ⟨k1,k2⟩:=hR.put (o:=.box 62 [.xx .bp [(0,0)],.own 1]) (o':=.box 62 [.xx .bp [(0,0)],.own 1]) rfl h1 rfl hk ⟨g,[_,v],rfl,hb',.cons ⟨[.pointer (some ⟨g,0,none⟩)],.cons ⟨g,h1,rfl⟩ .nil,rfl,.inr rfl⟩ (.cons hv .nil)⟩
  exact ⟨_,he,[],rfl,ρ,k1,k2,fun _ _ h=>h,.nil,fun h=>by cases h⟩
 ·refine (Any.Builder_copyCheck_used L bN.toX72 g w (by rw [Lib.cell_of_heap hb]; rfl)).mono fun e w' ⟨he,hw⟩=>?_
  subst hw
  exact ⟨_,he,[],rfl,ρ,hR,Ext.refl _ _,fun _ _ h=>h,.nil,fun h=>by cases h⟩
set_option maxHeartbeats 1000000 in
set_option maxRecDepth 100000 in
theorem qt (g gb cap:Nat) (p:Value) (l:List UInt8) (sp:List Value) (w:World) (h0:l≠[]) (hb:w.heap[g]? = some (.cells #[p,.slice (some ⟨gb,0,none⟩) l.length cap] 62 (0,0))) (hg:w.heap[gb]? = some (.cells (List.toArray (Lib.byteCells l++sp)) 5 (0,0))) (hcap:(Lib.byteCells l++sp).length=cap) (hmax:cap<=maxLen) :
  Calls Tryd.prog 39 #[.pointer (some ⟨g,0,none⟩)] w fun e w'=>e = .returned (.string ⟨l.toArray⟩)/\w' = w.drew.freeze ⟨gb,0,none⟩ l.length:=by
 have L:=lS
 have X:=dE
 have hl0:l.length≠0:=by simpa using h0
 have hlen:(Lib.byteCells l).length=l.length:=Lib.byteCells_length l
 have hlc:l.length<=cap:=by rw [<- hcap,List.length_append,hlen]; omega
 have c1:w.drew.cell? ⟨g,1,none⟩=some (.slice (some ⟨gb,0,none⟩) l.length cap):=by
  have:w.drew.heap[g]? = some (.cells #[p,.slice (some ⟨gb,0,none⟩) l.length cap] 62 (0,0)):=hb
  rw [Lib.cell_of_heap this]; rfl
 have hSD:(Builtin.unsafeSliceData_ #[(aj.t 37)] (aj.t 127) #[.slice (some ⟨gb,0,none⟩) l.length cap]).run Tryd.prog w.drew = .ok (.pointer (some ⟨gb,0,none⟩)) w.drew:=
  Lib.run_unsafeSliceData_row _ _ _ _ _ _ (by omega)
 have hUS:(Builtin.unsafeString_ #[(aj.t 127),(aj.t 3)] (aj.t 9) #[.pointer (some ⟨gb,0,none⟩),.int .i64 l.length]).run Tryd.prog w.drew = .ok (.string ⟨l.toArray⟩) (w.drew.freeze ⟨gb,0,none⟩ l.length):=by
  refine Lib.run_unsafeString_row w.drew (aj.t 127) (aj.t 3) (aj.t 9) (aj.t 5) L.t127 X.cellsByte gb cap (by have hg':w.drew.heap[gb]? = some (.cells (List.toArray (Lib.byteCells l++sp)) 5 (0,0)):=hg; simp only [World.shape?,hg',List.size_toArray,hcap]; rfl) l h0 (by omega) (by unfold maxLen at hmax; omega) ?_
  intro j x hx
  have hg':w.drew.heap[gb]? = some (.cells (List.toArray (Lib.byteCells l++sp)) 5 (0,0)):=hg
  have:=a_ hg' j (.int .u8 x.toNat) (by simp [Lib.byteCells,hx])
  rw [add_lit,Nat.zero_add] at this
  first | exact this | (rw [add_lit,Nat.zero_add]; exact this)
 have mixed:=L.mixed
 have t72:=L.t72; have a72:=L.a72; have z72:=L.z72; have v72:=L.v72; have u72:=run_underlying L.t72
 have t70:=L.t70; have a70:=L.a70; have z70:=L.z70; have v70:=L.v70; have u70:=run_underlying L.t70
 have t37:=L.t37; have a37:=L.a37; have z37:=L.z37; have v37:=L.v37; have u37:=run_underlying L.t37
 have t127:=L.t127; have a127:=L.a127; have z127:=L.z127; have v127:=L.v127; have u127:=run_underlying L.t127
 have t3:=L.t3; have a3:=L.a3; have z3:=L.z3; have v3:=L.v3; have u3:=run_underlying L.t3
 have t9:=L.t9; have a9:=L.a9; have z9:=L.z9; have v9:=L.v9; have u9:=run_underlying L.t9
 have t5:=X.t5; have a5:=X.a5; have z5:=X.z5; have v5:=X.v5; have u5:=run_underlying X.t5
 show Calls Tryd.prog (aj.f 169) _ _ _
 go_enter L.f169,Body.n169_ntmps aj
 go_wp2
 go_region_o
 all_goals (go_wp2; go_ret; exact ⟨rfl,rfl⟩)
theorem iW {c:Cx}:∀ {l:List UInt8} {cells:List Value},Pds c (l.flatMap (cellsOf .u8)) cells->cells=Lib.byteCells l
 | [],_,h=>by cases h; rfl
 | x :: l,_,h=>by
  have h':Pds c (.u8 x :: l.flatMap (cellsOf .u8)) _:=h
  cases h' with | cons h1 h2=>?_
  cases h1
  rw [iW h2]; rfl
theorem qA (xs:List UInt8) (h0:xs≠[]):Sat Tryd.prog (ai aX) 39 [.c (.ptr 0 0)] (tq xs) ⟨[],[.c (.str ⟨xs⟩)],some [.box 62 [.xx .bp [(0,0)],.dead],.gone],false⟩:=by
 refine ⟨⟨_,Tryd.func39,by decide,by kernel_rfl⟩,fun G ρ w vs hG hR hvs=>?_⟩
 cases hvs with | cons h1 hvs=>?_
 cases hvs
 obtain ⟨g0,hg0,rfl⟩:=h1
 obtain ⟨g,p,v,h1,hb,hp,hv⟩:=px hR
 obtain rfl:g=g0:=by rw [h1] at hg0; cases hg0; rfl
 clear hg0
 have hH:getO (tq xs) 1 = .row 5 .u8 xs:=rfl
 have hxl:xs.length<=140737488355328:=by have:=(cc hR hH).2; simpa [Sh.bytes] using this
 rcases bb hR hH with ⟨_,h5⟩ | ⟨gb,cap,cells,sp,h5,h6,h7,h8,h9,h10⟩
 ·exact absurd h5 h0
 have hv2:v = .slice (some ⟨gb,0,none⟩) xs.length cap:=by
  rcases hv with ⟨_,_,_,_,h11,rfl⟩ | ⟨h11,_⟩
  ·rw [h5] at h11; cases h11; rfl
  ·rw [h5] at h11; cases h11
 subst hv2
 obtain rfl:=iW h7
 have hne:g≠gb:=by
  rintro rfl
  have:=hR.inj 0 1 _ _ g h1 h5 rfl rfl
  omega
 refine (qt g gb cap p xs sp w h0 hb h6 (by simpa [Sh.size] using h8) h10).mono fun e w' ⟨he,hw⟩=>?_
 have hk:Kp [gb] w w':=by
  subst hw
  unfold World.freeze
  split
  ·exact ⟨rfl,rfl,rfl,Nat.le_refl _,fun _ _ _=>rfl⟩
  ·refine ⟨rfl,rfl,rfl,by simp,fun b hb hn=>?_⟩
   simp only [Array.getElem?_modify]
   rw [if_neg (by simpa using fun h=>hn (by simp [h]))]
   rfl
 have hρl:ρ.length=2:=hR.obj.length.symm
 have hb':w'.heap[g]? = some (.cells #[p,.slice (some ⟨gb,0,none⟩) xs.length cap] 62 (0,0)):=(hk.block g (Array.getElem?_eq_some_iff.1 hb).1 (by simpa using hne)).trans hb
 have hlive:∀ b,live [RE.blk g,RE.no] b->b=g:=by
  rintro b ⟨i,r,e1,e2⟩
  cases i with
  | zero=>simp at e1; subst e1; simpa [RE.g?] using e2.symm
  | succ i=>cases i with
   | zero=>simp at e1; subst e1; cases e2
   | succ i=>simp at e1
 have hbg:=hR.bnd 0 _ g h1 rfl
 have hsz:w.heap.size<=w'.heap.size:=hk.size
 have hle:(cx G ρ w).le (cx G [.blk g,.no] w'):=by
  refine ⟨rfl,rfl,fun b hS=>⟨⟨Nat.lt_of_lt_of_le hS.1 hsz,fun hl=>hS.2.1 ⟨0,_,h1,by rw [hlive b hl]; rfl⟩,hS.2.2⟩,hk.block b hS.1 ?_⟩⟩
  simp only [List.mem_singleton]
  rintro rfl
  exact hS.2.1 ⟨1,_,h5,rfl⟩
 have hpd:Rd (cx G [.blk g,.no] w') [.blk g,.no] (.xx .bp [(0,0)]) p:=⟨[.pointer (some ⟨g,0,none⟩)],.cons ⟨g,rfl,rfl⟩ .nil,rfl,hp.imp id fun h=>by rw [h]⟩
 refine ⟨_,he,[_],rfl,[.blk g,.no],⟨.cons ⟨g,[p,_],rfl,hb',.cons hpd (.cons rfl .nil)⟩ (.cons rfl .nil),fun i j r r' b e1 e2 e3 e4=>?_,fun i r b e1 e2=>?_,fun b hb=>Nat.lt_of_lt_of_le (hR.z b hb) hsz,Nat.le_trans hR.b0 hsz,hR.tb.carry hle⟩,⟨hk.os,hk.tape,hk.output,hsz,fun b hb hl=>⟨fun h=>hl ⟨0,_,h1,by rw [hlive b h]; rfl⟩,hk.block b hb ?_⟩⟩,fun i b h=>?_,.cons (show Pd _ (.str ⟨xs⟩) _ from (Pd.str hxl:Pd _ (.str ⟨xs⟩) (Str.val ⟨xs⟩))) .nil,fun h=>by cases h⟩
 ·have a1:∀ (i:Nat) (r:RE),[RE.blk g,RE.no][i]? = some r->r.g? = some b->i=0:=fun i r e1 e2=>by
   cases i with
   | zero=>rfl
   | succ i=>cases i with
    | zero=>simp at e1; subst e1; cases e2
    | succ i=>simp at e1
  rw [a1 i r e1 e3,a1 j r' e2 e4]
 ·obtain rfl:=hlive b ⟨i,r,e1,e2⟩
  exact ⟨hbg.1,Nat.lt_of_lt_of_le hbg.2.1 hsz,hbg.2.2⟩
 ·simp only [List.mem_singleton]
  rintro rfl
  exact hl ⟨1,_,h5,rfl⟩
 ·cases i with
  | zero=>rw [h1] at h; cases h; rfl
  | succ i=>cases i with
   | zero=>rw [h5] at h; cases h
   | succ i=>
    have:=(List.getElem?_eq_some_iff.1 h).1
    omega
end Go.Proofs.YtagpmhlokhoanaaDoor
namespace Go.Proofs.YtagpmhlokhoanaaDoor
open Go.RowKit Go.Proofs
open Go.MapKept (run_checkKey run_findKey run_setObj_map heap_set run_keyThatStays)
theorem rO {k:Str}:∀ {l:List MapEntry} {i:Nat},(∀ e ∈ l,∃ s,e.key = .string s) ->
  (∃ j e,l[j]? = some e/\e.key=k.val/\Instr.findNow .string k.val l i=some (some (i+j,e.val)) /\
   ∀ v q,getS q (l.modify j fun e=>{ e with key:=k.val,val:=v })=if q=k then some v else getS q l) \/
  (Instr.findNow .string k.val l i=some none/\∀ v q b,getS q (l++[{ key:=k.val,val:=v,born:=b }])=if q=k then some v else getS q l)
 | [],i,_=>.inr ⟨rfl,fun v q b=>by
   have hs:nd k.val=some k:=by simp [nd,Str.val]
   by_cases hq:q=k
   ·subst hq; simp [getS,hs]
   ·have:¬ (k=q):=fun h=>hq h.symm
    simp [getS,hs,hq,this]⟩
 | e :: l,i,h=>by
  have hs:nd k.val=some k:=by simp [nd,Str.val]
  obtain ⟨s,hk⟩:=h e (by simp)
  have hr:=fun x hx=>h x (List.mem_cons_of_mem _ hx)
  have hse:nd e.key=some ⟨s.data.toList⟩:=by rw [hk]; rfl
  have hb:((⟨k.b.toArray⟩:ByteArray) == s)=decide ((⟨s.data.toList⟩:Str)=k):=by
   rw [Bool.eq_iff_iff,MapKept.bytes_beq,decide_eq_true_eq]
   constructor
   ·rintro rfl; simp
   ·intro e; rw [<- e]
  by_cases hkk:(⟨s.data.toList⟩:Str)=k
  ·have he:e.key=k.val:=by rw [hk,<- hkk]; simp [Str.val]
   refine .inl ⟨0,e,rfl,he,?_,fun v q=>?_⟩
   ·simp only [Instr.findNow,hk,Instr.sameNow,Str.val,hb,hkk,decide_true]; rfl
   ·by_cases hq:q=k
    ·subst hq; simp [getS,hs]
    ·have hq2:¬ (k=q):=fun h=>hq h.symm
     simp [getS,hs,hse,hkk,hq,hq2]
  ·rcases rO (k:=k) (i:=i+1) hr with ⟨j,e',h1,h2,h3,h4⟩ | ⟨h1,h3⟩
   ·refine .inl ⟨j+1,e',h1,h2,?_,fun v q=>?_⟩
    ·simp only [Instr.findNow,hk,Instr.sameNow,Str.val,hb,hkk,decide_false]
     have:=h3
     simp only [Str.val] at this
     rw [this]; congr 3; omega
    ·by_cases hq:q=(⟨s.data.toList⟩:Str)
     ·subst hq
      simp [getS,hse,hkk]
     ·have hq2:¬ ((⟨s.data.toList⟩:Str)=q):=fun h=>hq h.symm
      have:=h4 v q
      simp [getS,hse,hq2]
      simpa using this
   ·refine .inr ⟨?_,fun v q b=>?_⟩
    ·simp only [Instr.findNow,hk,Instr.sameNow,Str.val,hb,hkk,decide_false]
     exact h1
    ·by_cases hq:q=(⟨s.data.toList⟩:Str)
     ·subst hq
      simp [getS,hse,hkk]
     ·have hq2:¬ ((⟨s.data.toList⟩:Str)=q):=fun h=>hq h.symm
      have:=h3 v q b
      simp [getS,hse,hq2]
      simpa using this
section
variable {P:Program} {n:Nat} {F:Fr} {w:World} {x y z':Operand} {t ty kt et:TypeId} {g c:Nat} {k:Str} {a:Array MapEntry}
theorem Bz {v:Value} (hx:ev F x=some (.map (some g))) (hy:ev F y=some k.val) (hv:ev F z' = some v) (hm:P.underlying t=some (.map kt et)) (hk:P.underlying kt=some .string) (hg:w.heap[g]? = some (.map a c)) (hl:∀ e ∈ a.toList,∃ s,e.key = .string s) :
  ∃ w' a' c',cT P n F w (.mapUpdate t x y z') ty w' /\ Kp [g] w w' /\ w'.heap[g]? = some (.map a' c')/\(∀ e ∈ a'.toList,∃ s,e.key = .string s)/\∀ q,getS q a'.toList=if q=k then some v else getS q a.toList:=by
 have hik:MapKept.IsKey .string k.val:=trivial
 have fin:∀ a' c',(Instr.mapUpdate t (.map (some g)) k.val v).run P w = .ok () { w with heap:=w.heap.setIfInBounds g (.map a' c') }->(∀ e ∈ a'.toList,∃ s,e.key = .string s)->(∀ q,getS q a'.toList=if q=k then some v else getS q a.toList) ->
   ∃ w' a' c',cT P n F w (.mapUpdate t x y z') ty w' /\ Kp [g] w w' /\ w'.heap[g]? = some (.map a' c')/\(∀ e ∈ a'.toList,∃ s,e.key = .string s)/\∀ q,getS q a'.toList=if q=k then some v else getS q a.toList:=by
  intro a' c' e h1 h2
  have hs:=heap_set (o':=.map a' c') hg
  refine ⟨{ w with heap:=w.heap.setIfInBounds g (.map a' c') },a',c',fun a'' _ _ _ _ ha=>?_,⟨rfl,rfl,rfl,by simp,fun i hi hn=>hs.2 i (by simpa using hn)⟩,by simpa using hs.1,h1,h2⟩
  simp [execOp,ha.ev hx,ha.ev hy,ha.ev hv,e]
 rcases rO (k:=k) (i:=0) hl with ⟨j,e0,hj,he,h1,h2⟩ | ⟨h1,h3⟩
 ·have hj':a[j]? = some e0:=by simpa using hj
  refine fin (a.modify j fun e=>{ e with key:=k.val,val:=v }) c ?_ ?_ ?_
  ·rw [Nat.zero_add] at h1
   simp [Instr.mapUpdate,run_underlying hm,MapKept.run_getObj_map hg,run_checkKey hk hik,run_findKey hk h1,hj',he,run_keyThatStays hik,run_setObj_map _ hg,Result.andThen]
  ·intro e hem
   rcases MapFrom.mem_modify hem with h | ⟨e',_,rfl⟩
   ·exact hl e h
   ·exact ⟨_,rfl⟩
  ·intro q
   rw [Array.toList_modify,h2 v q]
 ·refine fin (a.push { key:=k.val,val:=v,born:=c }) (c+1) ?_ ?_ ?_
  ·simp [Instr.mapUpdate,run_underlying hm,MapKept.run_getObj_map hg,run_checkKey hk hik,run_findKey hk h1,run_setObj_map _ hg,Result.andThen]
  ·intro e hem
   simp only [Array.toList_push,List.mem_append,List.mem_singleton] at hem
   rcases hem with hem | rfl
   ·exact hl e hem
   ·exact ⟨_,rfl⟩
  ·intro q
   rw [Array.toList_push,h3 v q c]
theorem WO.Bz {Q:Exit->Act->World->Prop} {l rest:List Oper} {pos:String} {af:Array Edge} {v:Value} (hx:ev F x=some (.map (some g))) (hy:ev F y=some k.val) (hv:ev F z' = some v) (hm:P.underlying t=some (.map kt et)) (hk:P.underlying kt=some .string) (hg:w.heap[g]? = some (.map a c)) (hl:∀ e ∈ a.toList,∃ s,e.key = .string s)
  (kk:∀ w' a' c',Kp [g] w w' -> w'.heap[g]? = some (.map a' c')->(∀ e ∈ a'.toList,∃ s,e.key = .string s)->(∀ q,getS q a'.toList=if q=k then some v else getS q a.toList)->WO P Q n l rest F w'):WO P Q n l (⟨none,.mapUpdate t x y z',ty,pos,af,none⟩ :: rest) F w:=by
 obtain ⟨w',a',c',h1,h2,h3,h4,h5⟩:=_root_.Go.Proofs.YtagpmhlokhoanaaDoor.Bz (P:=P) (n:=n) (F:=F) (w:=w) (ty:=ty) hx hy hv hm hk hg hl
 exact WO.s h1 (kk w' a' c' h2 h3 h4 h5)
end
def kindK:Nat->Str->Option Int
 | 0,_=>none
 | k+1,s=>if s=bU.getD k ⟨[]⟩/\¬ bU.getD k ⟨[]⟩=⟨[]⟩ then some k else kindK k s
def i_:Str->Option Int:=kindK 10
theorem oE:∀ (k:Nat) (s:Str) (n:Int),k<=10->kindK k s=some n->0<=n/\n<k
 | 0,_,_,_,h=>by cases h
 | k+1,s,n,hk,h=>by
  unfold kindK at h
  split at h
  ·cases h; omega
  ·have:=oE k s n (by omega) h; omega
def lL:List Value:=bU.map Str.val
structure KJ (w:World) (k:Nat) (w':World):Prop where
 le:k<=10
 kp:Kp [] w w'
 mp:∃ a c,w'.heap[w.heap.size]? = some (.map a c)/\(∀ e ∈ a.toList,∃ s,e.key = .string s)/\∀ s,getS s a.toList=(kindK k s).map (.int .i64)
theorem uZ {i:Nat} (w:World) (o:Obj) (h:i<w.heap.size):(w.alloc o).heap[i]? = w.heap[i]?:=(Kp.alloc w o).block i h (by simp)
set_option maxRecDepth 100000 in
theorem tg {w:World} {t:TypeId} {fr:Nat × Nat} (h0:w.heap[0]? = some (.cells (List.toArray lL) t fr)):lY Tryd.prog 44 #[] w fun r w'=>r = .map (some w.heap.size)/\KJ w 10 w':=by
 refine lY.enter (args:=[]) Tryd.func44 rfl Tryd.ntmps44 rfl rfl ?_
 refine WC.seq (WC.region (WO.v (R.assign rfl) rfl (WO.nil (WX.next ?_))))
 refine WC.seq (WC.region (WO.v R.kE rfl (WO.v (R.assign rfl) rfl (WO.nil (WX.next ?_)))))
 refine WC.seq (WC.seq (WC.region (WO.v (R.tZ (a:=⟨0,0,none⟩) rfl Tryd.underlying45 rfl (by kernel_rfl) (a_ (cells:=lL) (sp:=[]) (by rw [List.append_nil]; exact (uZ w _ (Array.getElem?_eq_some_iff.1 h0).1).trans h0))) rfl (WO.v (R.move rfl) rfl (WO.nil (WX.next (WC.block ?_)))))))
 refine WC.Dg (fun k:Nat=>[(1,.map (some w.heap.size)),(5,.agg (List.toArray lL)),(6,.int .i64 (k:Int))]) (fun k w'=>KJ w k w') (fun k=>10 - k) 0 (Has.look ⟨⟨_,rfl,rfl⟩,⟨_,rfl,rfl⟩,⟨_,rfl,rfl⟩,trivial⟩) ⟨by omega,Kp.alloc w _,#[],0,heap_alloc_new w _,by simp,fun s=>rfl⟩ fun k w' hJ=>?_
 refine WC.seq (WC.region (WO.v (R.lss rfl rfl) rfl (WO.nil (WX.next ?_))))
 refine WC.seq (WC.cond (b:=decide ((k:Int)<10)) rfl (fun hk=>WC.skip (WX.next ?_)) (fun hk=>WC.exit (WX.ux (WX.wM (WX.AA (WX.next ?_))))))
 ·have hk:(k:Int)<10:=of_decide_eq_true hk
  obtain ⟨a,c,hm,hkeys,hval⟩:=hJ.mp
  have hx:lL[k]? = some (bU.getD k ⟨[]⟩).val:=by
   have:k<bU.length:=by show k<10; omega
   rw [lL,List.getElem?_map,List.getD_eq_getElem?_getD,List.getElem?_eq_getElem this]; rfl
  refine WC.seq (WC.block ?_)
  refine WC.seq (WC.region (WO.v (R.move rfl) rfl (WO.v (R.dT rfl rfl Tryd.underlying45 Tryd.underlying9 rfl (by kernel_rfl) (by omega) hx) rfl (WO.v (R.assign rfl) rfl (WO.v (R.assign rfl) rfl (WO.nil (WX.next ?_)))))))
  refine WC.seq (WC.region (WO.v (R.move rfl) rfl (WO.v (R.DC (b:=⟨[]⟩) rfl rfl) rfl (WO.nil (WX.next ?_)))))
  refine WC.cond (b:=!decide (bU.getD k ⟨[]⟩=⟨[]⟩)) rfl (fun hv=>?_) (fun hv=>WC.skip (WX.mj (WX.next ?_)))
  ·have hv:¬ bU.getD k ⟨[]⟩=⟨[]⟩:=by simpa using hv
   refine WC.region (WO.v (R.move rfl) rfl (WO.v (R.move rfl) rfl (WO.v (R.move rfl) rfl (WO.Bz rfl (k:=bU.getD k ⟨[]⟩) rfl rfl Tryd.underlying72 Tryd.underlying9 hm hkeys fun w2 a2 c2 h2 h3 h4 h5=>WO.nil (WX.mj (WX.next ?_))))))
   refine WC.region (WO.v (R.Dw (b:=1) rfl rfl (by omega)) rfl (WO.v (R.move rfl) rfl (WO.nil (WX.pb (k+1) ⟨⟨_,rfl,rfl⟩,⟨_,rfl,rfl⟩,⟨_,rfl,rfl⟩,trivial⟩ ⟨by omega,?_,a2,c2,h3,h4,fun q=>?_⟩ (by omega)))))
   ·exact ⟨h2.os.trans hJ.kp.os,h2.tape.trans hJ.kp.tape,h2.output.trans hJ.kp.output,Nat.le_trans hJ.kp.size h2.size,fun b hb _=>(h2.block b (Nat.lt_of_lt_of_le hb hJ.kp.size) (by simp; omega)).trans (hJ.kp.block b hb (by simp))⟩
   ·rw [h5 q,hval q,kindK]
    by_cases hq:q=bU.getD k ⟨[]⟩
    ·rw [if_pos hq,if_pos ⟨hq,hv⟩]; rfl
    ·rw [if_neg hq,if_neg fun h=>hq h.1]
  ·have hv:bU.getD k ⟨[]⟩=⟨[]⟩:=by simpa using hv
   refine WC.region (WO.v (R.Dw (b:=1) rfl rfl (by omega)) rfl (WO.v (R.move rfl) rfl (WO.nil (WX.pb (k+1) ⟨⟨_,rfl,rfl⟩,⟨_,rfl,rfl⟩,⟨_,rfl,rfl⟩,trivial⟩ ⟨by omega,hJ.kp,a,c,hm,hkeys,fun q=>?_⟩ (by omega)))))
   rw [hval q,kindK,if_neg fun h=>h.2 hv]
 ·have hk':k=10:=by have:=hJ.le; simp at hk; omega
  subst hk'
  refine WC.seq (WC.region (WO.v (R.move rfl) rfl (WO.v (R.assign rfl) rfl (WO.nil (WX.next ?_)))))
  exact WC.ret (WX.ET Tryd.results44 rfl ⟨rfl,hJ⟩)
theorem tw:Sat Tryd.prog (ai aX) 44 [] [] ⟨[],[.c (.xx (.fm i_) [])],none,false⟩:=by
 refine ⟨⟨_,Tryd.func44,by decide,by kernel_rfl⟩,fun G ρ w vs hG hR hvs=>?_⟩
 cases hvs
 obtain ⟨_,_,_,_,cells,t,fr,h5,h6⟩:=hR.tb.2 ⟨0,.str,bU⟩ (by simp [qP])
 have hc:cells=lL:=fQ h6
 subst hc
 refine (tg h5).mono fun r w' ⟨hr,hJ⟩=>⟨[r],rfl,hJ.kp,.cons ?_ .nil⟩
 obtain ⟨a,c,hm,hk,hv⟩:=hJ.mp
 subst hr
 have hlt:=(Array.getElem?_eq_some_iff.1 hm).1
 refine ⟨[],.nil,rfl,w.heap.size,a,c,rfl,⟨hlt,fun ⟨i,r,e1,e2⟩=>by have:=(hR.bnd i r _ e1 e2).2.1; omega,fun hz=>by have:=hR.z _ hz; omega⟩,hm,hk,fun s=>⟨hv s,fun n hn=>?_⟩⟩
 have:=oE 10 s n (by omega) hn
 exact ⟨by omega,by omega⟩
end Go.Proofs.YtagpmhlokhoanaaDoor
namespace Go.Proofs.YtagpmhlokhoanaaDoor
open Go.RowKit
theorem FF {n:Int} (h1:-9223372036854775808<=n) (h2:n<=9223372036854775807):I64 n:=⟨h1,h2⟩
theorem cF {α:Type} {l:List α} {k:Nat} {d:α} (h:k<l.length):l[k]? = some (l.getD k d):=by
 rw [List.getD_eq_getElem?_getD,List.getElem?_eq_getElem h]; rfl
theorem qU {α:Type} {l:List α} {k:Nat} {x:α} (hx:l[k]? = some x):l.take (k+1)=l.take k++[x]:=by
 rw [List.take_add_one,hx]; rfl
theorem Bv {a b:List Int} {k:Nat} {d:Int} (h:a.take k=b.take k) (ha:(k:Int)<a.length) (hb:a.length=b.length) (e:a.getD k d=b.getD k d):a.take (k+1)=b.take (k+1):=by
 have h1:=cF (l:=a) (k:=k) (d:=d) (by omega)
 have h2:=cF (l:=b) (k:=k) (d:=d) (by omega)
 rw [qU h1,qU h2,h,e]
theorem A_ {a b:List Int} {k:Nat} {d:Int} (_:a.take k=b.take k) (ha:(k:Int)<a.length) (hb:a.length=b.length) (e:¬ a.getD k d=b.getD k d):false=decide (a=b):=by
 symm; rw [decide_eq_false_iff_not]; rintro rfl; exact e rfl
theorem AM {a b:List Int} {k:Nat} (h:a.take k=b.take k) (ha:(a.length:Int)<=k) (hb:a.length=b.length):true=decide (a=b):=by
 symm; rw [decide_eq_true_eq,<- List.take_of_length_le (show a.length<=k by omega),<- List.take_of_length_le (show b.length<=k by omega)]; exact h
theorem BX {a b:List Int} (h:¬ (a.length:Int)=b.length):false=decide (a=b):=by
 symm; rw [decide_eq_false_iff_not]; rintro rfl; exact h rfl
def dz (e:Event):Event:={ e with c:={ e.c with chunks:=e.c.chunks.take 20,text:=⟨e.c.text.b.take 40⟩ } }
def addO (l:List Int) (ok:Bool):Bool:=ok && l.all okN
theorem Al {c:Command}:(decide (c.kind=0) && decide (c.client=0) && decide (c.seq=0) && decide (c.set=0) && decide (c.id=0) && decide (c.n=0) && decide ((c.chunks.length:Int)=0) && decide (c.text=⟨[]⟩))=bZ c:=by
 have h:(decide ((c.chunks.length:Int)=0))=decide (c.chunks=[]):=by
  rw [decide_eq_decide]
  constructor
  ·intro h; exact List.eq_nil_of_length_eq_zero (by omega)
  ·intro h; rw [h]; rfl
 rw [h]; rfl
section
variable {l:List Int} {wds:List Str} {ok:Bool} {k:Nat} {x:Int}
theorem EY:ok=addO (l.take 0) ok:=by simp [addO]
theorem Ex:wds=wds++(l.take 0).map ah:=by simp
theorem Fp (h:wds.length+l.length<=1000):((wds++(l.take k).map ah).length+[ah x].length)*16<=140737488355328:=by
 rw [List.length_append,List.length_map,List.length_take,List.length_singleton]; omega
theorem FL (hx:l[k]? = some x):(addO (l.take k) ok && decide (0<=x) && decide (x<=1048576))=addO (l.take (k+1)) ok:=by
 rw [qU hx,addO,addO,List.all_append]; simp [okN,Bool.and_assoc]
theorem FC (hx:l[k]? = some x):wds++(l.take k).map ah++[ah x]=wds++(l.take (k+1)).map ah:=by
 rw [qU hx,List.map_append,List.append_assoc]; rfl
theorem Fc (h:(l.length:Int)<=k):addO (l.take k) ok=addO l ok:=by rw [List.take_of_length_le (by omega)]
theorem EP (h:(l.length:Int)<=k):wds++(l.take k).map ah=wds++l.map ah:=by rw [List.take_of_length_le (by omega)]
end
theorem wm {s:Str} {n:Nat} (h:(s.b.length:Int)<=n):s=⟨s.b.take n⟩:=by
 cases s; rw [List.take_of_length_le (by simpa using h)]
theorem wv {l:List Int} {n:Nat} (h:(l.length:Int)<=n):l=l.take n:=by rw [List.take_of_length_le (by omega)]
theorem CL {c:UInt8}:(UInt8.ofNat (c.toNat / 2 ^ 4)).toNat=c.toNat / 16:=by
 have:=c.toNat_lt
 rw [UInt8.toNat_ofNat',Nat.mod_eq_of_lt (by omega)]
theorem zS {c:UInt8}:(c &&& 15).toNat=c.toNat % 16:=by
 rw [UInt8.toNat_and,show (15:UInt8).toNat=2 ^ 4 - 1 from rfl,Nat.and_two_pow_sub_one_eq_mod]
section
variable {s:Str} {k:Nat} {c:UInt8}
theorem FY (h:s=⟨[]⟩):Str.mk [45]=⟨bh s.b⟩:=by rw [h]; rfl
theorem Gf:((UInt8.ofNat (c.toNat / 2 ^ 4)).toNat:Int)<(([48,49,50,51,52,53,54,55,56,57,97,98,99,100,101,102]:List UInt8).length:Int):=by
 have:=c.toNat_lt
 rw [CL]; show _<(16:Int); omega
theorem Ge:((c &&& UInt8.ofNat 15).toNat:Int)<(([48,49,50,51,52,53,54,55,56,57,97,98,99,100,101,102]:List UInt8).length:Int):=by
 rw [show (UInt8.ofNat 15)=15 from rfl,zS]; show _<(16:Int); omega
theorem jD:∀ (l:List UInt8),(l.flatMap cm).length=2*l.length
 | []=>rfl
 | c :: l=>by rw [List.flatMap_cons,List.length_append,jD l]; simp [cm]; omega
theorem FV {x y:UInt8} (h:s.b.length<=1000):(((s.b.take k).flatMap cm).length+[x,y].length)*1<=140737488355328:=by
 rw [jD,List.length_take]; simp; omega
theorem FZ (h:(k:Int)<(s.b.length:Int)):(s.b.take k).flatMap cm++[([48,49,50,51,52,53,54,55,56,57,97,98,99,100,101,102]:List UInt8).getD (UInt8.ofNat ((s.b.getD k 0).toNat / 2 ^ 4)).toNat 0,([48,49,50,51,52,53,54,55,56,57,97,98,99,100,101,102]:List UInt8).getD (s.b.getD k 0 &&& UInt8.ofNat 15).toNat 0]=(s.b.take (k+1)).flatMap cm:=by
 rw [qU (cF (d:=(0:UInt8)) (show k<s.b.length by omega)),List.flatMap_append,CL,show (UInt8.ofNat 15)=15 from rfl,zS]
 rfl
theorem Gd:(s.b.take 0).flatMap cm=[]:=rfl
theorem Gc (h:¬ s=⟨[]⟩) (hk:(s.b.length:Int)<=k):Str.mk ((s.b.take k).flatMap cm)=⟨bh s.b⟩:=by
 rw [List.take_of_length_le (by omega),bh,if_neg]
 intro h2; apply h; cases s; simp only at h2; rw [h2]
end
theorem Aq (n:Int):Sat Tryd.prog (ai aX) 23 [.c (.int (n))] [] ⟨[],[.c (.str ((ah n)))],none,false⟩:=wx n
theorem Bs (sep:Str) (l:List Str) (h0:(Lib.join (l.map (·.b)) sep.b).length<=140737488355328):Sat Tryd.prog (ai aX) 27 [.c (.own 0),.c (.str (sep))] [.row 9 .str (l)] ⟨[(Lib.join (l.map (·.b)) sep.b).length<=140737488355328],[.c (.str ((⟨Lib.join (l.map (·.b)) sep.b⟩)))],some ([.row 9 .str ((l))]),true⟩:=uX l sep h0
def oO:cC:=(eG 27 (dY (aC (kC (pN 0)) (aC (kC cS) bP)) (bE (n_ 9 .str) bO) fun (_,sep,_) (l,_)=>⟨[(Lib.join (l.map (·.b)) sep.b).length<=140737488355328],[.c (.str ((⟨Lib.join (l.map (·.b)) sep.b⟩)))],some ([.row 9 .str ((l))]),true⟩) (eG 23 (dY (aC (kC cI) bP) bO fun (n,_) (_)=>⟨[],[.c (.str ((ah n)))],none,false⟩) Ea))
theorem eh:aW Tryd.prog (ai aX) oO:=(aK (aJ (ag (aL fp) (ag (aL ea) ay)) (aG fw az) fun (_,sep,_) (l,_) hp=>Bs sep l (sB hp)) (aK (aJ (ag (aL bn) ay) az fun (n,_) (_) _=>Aq n ) zi))
def Ak (s:Str):List (Nat × LI):=[(5,{ σ:=Nat,F:=fun k=>([(0,one (.str (s))),(3,one (.own 0)),(8,one (.int s.b.length)),(9,one (.int k))],[.row 5 .u8 (((s.b.take k).flatMap cm))]),J:=fun k=>k<=s.b.length,μ:=fun k=>s.b.length - k })]
def CA (l:List Int) (ok:Bool) (wds:List Str):List (Nat × LI):=[(1,{ σ:=Nat,F:=fun k=>([(1,one (.ptr 0 0)),(2,one (.ptr 1 0)),(6,one (.fz .int (l))),(7,one (.int (l).length)),(8,one (.int k))],[.box 4 ([.bool (.atom ((addO (l.take k) ok)))]),.box 46 ([.own 2]),.row 9 .str ((wds++(l.take k).map ah))]),J:=fun k=>k<=l.length,μ:=fun k=>(l).length - k })]
def zY (a:List Int) (b:List Int):List (Nat × LI):=[(4,{ σ:=Nat,F:=fun k=>([(0,one (.fz .int (a))),(1,one (.fz .int (b))),(5,one (.int k))],[]),J:=fun k=>k<=a.length/\a.length=b.length/\a.take k=b.take k,μ:=fun k=>a.length - k })]
theorem wo (k:Int) (r0:Bool):lF aX oO [] Tryd.f24 [.c (.int (k))] [] [.c (.bool (.atom (r0)))]=(I64 k->(decide (k=(7:Int)) || decide (k=(8:Int)) || decide (k=(9:Int)))=r0):=by kernel_rfl
theorem vo (k:Int):Sat Tryd.prog (ai aX) 24 [.c (.int (k))] [] ⟨[],[.c (.bool (.atom ((ca k))))],none,false⟩:=by
 refine cz eh [] Tryd.func24 (by decide) (by kernel_rfl) ?_
 rw [wo]
 grind [ca]
theorem xH (c:Command) (r0:Bool):lF aX oO [] Tryd.f25 [.agg (cellsOf (.nm .command) c)] [] [.c (.bool (.atom (r0)))]=((fun (q0:Int)=>I64 c.kind->I64 c.client->I64 c.seq->I64 c.set->I64 c.id->I64 c.n->c.chunks.length*(8:Nat)<=(140737488355328:Nat)->c.text.b.length<=(140737488355328:Nat)->(decide (c.kind=q0) && decide (c.client=q0) && decide (c.seq=q0) && decide (c.set=q0) && decide (c.id=q0) && decide (c.n=q0) && decide ((↑c.chunks.length:Int)=q0) && decide (c.text=Str.mk []))=r0) (0:Int)):=by kernel_rfl
theorem xT (c:Command):Sat Tryd.prog (ai aX) 25 [.agg (cellsOf (.nm .command) c)] [] ⟨[],[.c (.bool (.atom ((bZ c))))],none,false⟩:=by
 refine cz eh [] Tryd.func25 (by decide) (by kernel_rfl) ?_
 rw [xH]
 (repeat' (first | with_reducible apply lu | with_reducible refine lx ?_ | intro))
 all_goals (first | exact lD | exact Al)
theorem AF (s:Str) (r0:Str):lF aX oO (Ak s) Tryd.f26 [.c (.str (s))] [] [.c (.str (r0))]=((fun (q4:UInt8)=>(fun (q3:Nat)=>(fun (q2:UInt8)=>(fun (q1:Nat)=>(fun (q0:List UInt8)=>q1<=(140737488355328:Nat)->(s=Str.mk []->Str.mk [(45:UInt8)]=r0)/\(¬s=Str.mk []->∃ (s0:Nat),(fun (q5:Int)=>(s=s/\q5=q5/\(0:Int)=(↑s0:Int)/\List.flatMap cm (List.take s0 s.b)=[])/\s0<=q1/\∀ (s_1:Nat),(fun (q9:List (den Sh.u8))=>(fun (q8:Prop)=>(fun (q7:Nat)=>(fun (q6:Nat)=>s_1<=q1->((↑s_1:Int)<q5->q8/\(4:Nat)<(8:Nat)/\((0:Int)<=(↑q6:Int)/\(↑q6:Int)<(↑q0.length:Int))/\q8/\((0:Int)<=(↑q7:Int)/\(↑q7:Int)<(↑q0.length:Int))/\(q9.length+[q0.getD q6 q2,q0.getD q7 q2].length)*(1:Nat)<=(140737488355328:Nat)/\I64 ((↑s_1:Int)+(1:Int))/\∃ (s':Nat),(s=s/\q5=q5/\(↑s_1:Int)+(1:Int)=(↑s':Int)/\q9++[q0.getD q6 q2,q0.getD q7 q2]=List.flatMap cm (List.take s' s.b))/\s' <= q1/\q1 - s' < q1 - s_1)/\(q5<=(↑s_1:Int)->Str.mk q9=r0)) (UInt8.ofNat ((s.b.getD s_1 q2).toNat / q3)).toNat) (s.b.getD s_1 q2 &&& q4).toNat) ((0:Int)<=(↑s_1:Int)/\(↑s_1:Int)<q5)) (List.flatMap cm (List.take s_1 s.b))) (↑q1:Int))) [(48:UInt8),(49:UInt8),(50:UInt8),(51:UInt8),(52:UInt8),(53:UInt8),(54:UInt8),(55:UInt8),(56:UInt8),(57:UInt8),(97:UInt8),(98:UInt8),(99:UInt8),(100:UInt8),(101:UInt8),(102:UInt8)]) s.b.length) (0:UInt8)) ((2:Nat) ^ (4:Nat))) (UInt8.ofNat (15:Nat))):=by kernel_rfl
theorem BA (s:Str) (h0:s.b.length<=1000):Sat Tryd.prog (ai aX) 26 [.c (.str (s))] [] ⟨[s.b.length<=1000],[.c (.str ((⟨bh s.b⟩)))],none,false⟩:=by
 refine cz eh (Ak s) Tryd.func26 (by decide) (by kernel_rfl) ?_
 rw [AF]
 iterate 3 ((all_goals (repeat' (first | with_reducible apply lu | with_reducible refine lx ?_ | intro))); (all_goals try (first | exact lD | exact Gd | exact (FY ak) | with_reducible exact Gf | with_reducible exact Ge | with_reducible exact (FV h0) | with_reducible exact (FZ ak) | with_reducible exact (Gc ak ak))); all_goals try first | refine ⟨‹Nat› + 1,?_⟩ | refine ⟨0,?_⟩)
theorem Dq (l:List Int) (ok:Bool) (wds:List Str) (r0:Bool) (r1:List Str):zA aX oO (CA l ok wds) Tryd.f22 [.c (.fz .int (l)),.c (.ptr 0 0),.c (.ptr 1 0)] [.box 4 ([.bool (.atom (ok))]),.box 46 ([.own 2]),.row 9 .str (wds)] [] [.box 4 ([.bool (.atom (r0))]),.box 46 ([.own 2]),.row 9 .str (r1)]=((fun (q0:Nat)=>l.length*(8:Nat)<=(140737488355328:Nat)->∃ (s0:Nat),(l=l/\(↑l.length:Int)=(↑q0:Int)/\(0:Int)=(↑s0:Int)/\ok=addO (List.take s0 l) ok/\wds=wds++List.map ah (List.take s0 l))/\s0<=q0/\∀ (s:Nat),(fun (q1:List Str)=>s<=q0->((↑s:Int)<(↑q0:Int)->(0:Int)<=(↑s:Int)/\(↑s:Int)<(↑l.length:Int)/\∀ (x:Int),l[s]? = some x->I64 x->((ah x).b.length<=(140737488355328:Nat)->(q1.length+[ah x].length)*(16:Nat)<=(140737488355328:Nat))/\((ah x).b.length<=(140737488355328:Nat)->I64 ((↑s:Int)+(1:Int))/\∃ (s':Nat),(l=l/\(↑q0:Int)=(↑q0:Int)/\(↑s:Int)+(1:Int)=(↑s':Int)/\(addO (List.take s l) ok && decide ((0:Int)<=x) && decide (x<=(1048576:Int)))=addO (List.take s' l) ok/\q1++[ah x]=wds++List.map ah (List.take s' l))/\s' <= q0/\q0 - s' < q0 - s))/\((↑q0:Int)<=(↑s:Int)->addO (List.take s l) ok=r0/\q1=r1)) (wds++List.map ah (List.take s l))) l.length):=by kernel_rfl
theorem Da (l:List Int) (ok:Bool) (wds:List Str) (h0:wds.length+l.length<=1000):Sat Tryd.prog (ai aX) 22 [.c (.fz .int (l)),.c (.ptr 0 0),.c (.ptr 1 0)] [.box 4 ([.bool (.atom (ok))]),.box 46 ([.own 2]),.row 9 .str (wds)] ⟨[wds.length+l.length<=1000],[],some ([.box 4 ([.bool (.atom ((addO l ok)))]),.box 46 ([.own 2]),.row 9 .str ((wds++l.map ah))]),false⟩:=by
 refine kQ eh (CA l ok wds) Tryd.func22 (by decide) (by kernel_rfl) ?_
 rw [Dq]
 iterate 3 ((all_goals (repeat' (first | with_reducible apply lu | with_reducible refine lx ?_ | intro))); (all_goals try (first | exact lD | exact rfl | exact EY | exact Ex | exact (Fp (by assumption)) | exact (FL ak) | exact (FC ak) | exact (Fc ak) | exact (EP ak))); all_goals try first | refine ⟨‹Nat› + 1,?_⟩ | refine ⟨0,?_⟩)
theorem Am (a:List Int) (b:List Int) (r0:Bool):lF aX oO (zY a b) Tryd.f43 [.c (.fz .int (a)),.c (.fz .int (b))] [] [.c (.bool (.atom (r0)))]=((fun (q1:Nat)=>(fun (q0:Int)=>a.length*(8:Nat)<=(140737488355328:Nat)->b.length*(8:Nat)<=(140737488355328:Nat)->(¬q0=(↑b.length:Int)->false=r0)/\(q0=(↑b.length:Int)->∃ (s0:Nat),(a=a/\b=b/\(0:Int)=(↑s0:Int))/\(s0<=q1/\q1=b.length/\List.take s0 a=List.take s0 b)/\∀ (s:Nat),(fun (q2:Prop)=>s<=q1/\q1=b.length/\List.take s a=List.take s b->((↑s:Int)<q0->(0:Int)<=(↑s:Int)/\(↑s:Int)<q0/\(0:Int)<=(↑s:Int)/\(↑s:Int)<(↑b.length:Int)/\(I64 (a.getD s (aY Sh.int))->I64 (b.getD s (aY Sh.int))->(¬q2->false=r0)/\(q2->I64 ((↑s:Int)+(1:Int))/\∃ (s':Nat),(a=a/\b=b/\(↑s:Int)+(1:Int)=(↑s':Int))/\(s' <= q1/\q1=b.length/\List.take s' a=List.take s' b)/\q1 - s' < q1 - s)))/\(q0<=(↑s:Int)->true=r0)) (a.getD s (aY Sh.int)=b.getD s (aY Sh.int)))) (↑a.length:Int)) a.length):=by kernel_rfl
theorem AB (a:List Int) (b:List Int):Sat Tryd.prog (ai aX) 43 [.c (.fz .int (a)),.c (.fz .int (b))] [] ⟨[],[.c (.bool (.atom ((decide (a=b)))))],none,false⟩:=by
 refine cz eh (zY a b) Tryd.func43 (by decide) (by kernel_rfl) ?_
 rw [Am]
 iterate 3 ((all_goals (repeat' (first | with_reducible apply lu | with_reducible refine lx ?_ | intro))); (all_goals try (first | exact lD | exact rfl | exact (Bv ak ak ak ak) | exact (A_ ak ak ak ak) | exact (AM ak ak ak) | exact (BX ak))); all_goals try first | refine ⟨‹Nat› + 1,?_⟩ | refine ⟨0,?_⟩)
theorem zw (e:Event) (r0:Event):lF aX oO [] Tryd.f9 [.agg (cellsOf (.nm .event) e)] [] [.agg (cellsOf (.nm .event) r0)]=((fun (q6:Prop)=>(fun (q5:Prop)=>(fun (q4:Int)=>(fun (q3:Prop)=>(fun (q2:Command)=>(fun (q1:Command)=>(fun (q0:Int)=>I64 e.kind->I64 e.a->I64 e.b->I64 q2.kind->I64 q2.client->I64 q2.seq->I64 q2.set->I64 q2.id->I64 q2.n->q2.chunks.length*(8:Nat)<=(140737488355328:Nat)->q2.text.b.length<=(140737488355328:Nat)->((20:Int)<(↑q2.chunks.length:Int)->(0:Int)<=(20:Int)/\(20:Int)<=(↑q2.chunks.length:Int)/\(q4<q0->(0:Int)<=q4/\q4<=q0/\q3/\q5/\q6/\q2.kind=q1.kind/\q2.client=q1.client/\q2.seq=q1.seq/\q2.set=q1.set/\q2.id=q1.id/\q2.n=q1.n/\List.take (20:Nat) q2.chunks=q1.chunks/\Str.mk (List.take (40:Nat) q2.text.b)=q1.text)/\(q0<=q4->q3/\q5/\q6/\q2.kind=q1.kind/\q2.client=q1.client/\q2.seq=q1.seq/\q2.set=q1.set/\q2.id=q1.id/\q2.n=q1.n/\List.take (20:Nat) q2.chunks=q1.chunks/\q2.text=q1.text))/\((↑q2.chunks.length:Int)<=(20:Int)->(q4<q0->(0:Int)<=q4/\q4<=q0/\q3/\q5/\q6/\q2.kind=q1.kind/\q2.client=q1.client/\q2.seq=q1.seq/\q2.set=q1.set/\q2.id=q1.id/\q2.n=q1.n/\q2.chunks=q1.chunks/\Str.mk (List.take (40:Nat) q2.text.b)=q1.text)/\(q0<=q4->q3/\q5/\q6/\q2.kind=q1.kind/\q2.client=q1.client/\q2.seq=q1.seq/\q2.set=q1.set/\q2.id=q1.id/\q2.n=q1.n/\q2.chunks=q1.chunks/\q2.text=q1.text))) (↑q2.text.b.length:Int)) r0.c) e.c) (e.kind=r0.kind)) (40:Int)) (e.a=r0.a)) (e.b=r0.b)):=by kernel_rfl
theorem zd (e:Event):Sat Tryd.prog (ai aX) 9 [.agg (cellsOf (.nm .event) e)] [] ⟨[],[.agg (cellsOf (.nm .event) (dz e))],none,false⟩:=by
 refine cz eh [] Tryd.func9 (by decide) (by kernel_rfl) ?_
 rw [zw]
 (repeat' (first | with_reducible apply lu | with_reducible refine lx ?_ | intro))
 all_goals (first | exact lD | exact rfl | exact (wm cQ) | exact (wv cQ) | exact (wm cQ).symm | exact (wv cQ).symm)
def yR:cC:=(eG 9 (dY (aC (kT (.nm .event)) bP) bO fun (e,_) (_)=>⟨[],[.agg (cellsOf (.nm .event) (dz e))],none,false⟩) (eG 43 (dY (aC (kC (cL .int)) (aC (kC (cL .int)) bP)) bO fun (a,b,_) (_)=>⟨[],[.c (.bool (.atom ((decide (a=b)))))],none,false⟩) (eG 22 (dY (aC (kC (cL .int)) (aC (kC (ff 0 0)) (aC (kC (ff 1 0)) bP))) (bE (dL 4 (aB cB dK)) (bE (dL 46 (aB (pN 2) dK)) (bE (n_ 9 .str) bO))) fun (l,_,_,_) ((ok,_),(_,_),wds,_)=>⟨[wds.length+l.length<=1000],[],some ([.box 4 ([.bool (.atom ((addO l ok)))]),.box 46 ([.own 2]),.row 9 .str ((wds++l.map ah))]),false⟩) (eG 26 (dY (aC (kC cS) bP) bO fun (s,_) (_)=>⟨[s.b.length<=1000],[.c (.str ((⟨bh s.b⟩)))],none,false⟩) (eG 25 (dY (aC (kT (.nm .command)) bP) bO fun (c,_) (_)=>⟨[],[.c (.bool (.atom ((bZ c))))],none,false⟩) (eG 24 (dY (aC (kC cI) bP) bO fun (k,_) (_)=>⟨[],[.c (.bool (.atom ((ca k))))],none,false⟩) oO))))))
theorem mO:aW Tryd.prog (ai aX) yR:=(aK (aJ (ag kU ay) az fun (e,_) (_) _=>zd e ) (aK (aJ (ag (aL dG) (ag (aL dG) ay)) az fun (a,b,_) (_) _=>AB a b ) (aK (aJ (ag (aL dG) (ag (aL bH) (ag (aL bH) ay))) (aG (bd (ab po bc)) (aG (bd (ab fp bc)) (aG fw az))) fun (l,_,_,_) ((ok,_),(_,_),wds,_) hp=>Da l ok wds (sB hp)) (aK (aJ (ag (aL ea) ay) az fun (s,_) (_) hp=>BA s (sB hp)) (aK (aJ (ag kU ay) az fun (c,_) (_) _=>xT c ) (aK (aJ (ag (aL bn) ay) az fun (k,_) (_) _=>vo k ) eh))))))
theorem wQ {l:List Int} {ok:Bool}:addO l ok=true↔ok=true/\l.all okN=true:=by simp [addO]
theorem bj {e:Event}:lineOk e=true↔1<=e.kind/\e.kind<10/\okN e.a=true/\(ca e.kind=true->okN e.b=true)/\(ca e.kind=false->e.b=0)/\(e.kind=6->(e.c.text.b.length:Int)<=16/\(e.c.chunks.length:Int)<=16/\(fK e.c).all okN=true/\e.c.chunks.all okN=true)/\(¬ e.kind=6->bZ e.c=true):=by
 unfold lineOk
 rw [Bool.and_eq_true,Bool.and_eq_true,Bool.and_eq_true,Bool.and_eq_true,decide_eq_true_eq,decide_eq_true_eq]
 cases hs:ca e.kind <;> by_cases h6:e.kind=6 <;> (first | rw [if_pos h6] | rw [if_neg h6]) <;> simp only [Bool.and_eq_true,decide_eq_true_eq,if_true,if_false,Bool.false_eq_true] <;> constructor <;> intro h <;> simp_all <;> omega
section
variable {e:Event}
theorem Dn (h:¬ lineOk e=true):Str.mk []=aw e:=by rw [aw,if_neg h]
theorem AW (h:¬ lineOk e=true):(1:Int)=ba e:=by rw [ba,if_neg h]
theorem AG {ws:List Str} (h:lineOk e=true) (hw:aA e=ws):Str.mk (Lib.join (ws.map fun (x:den Sh.str)=>x.b) [32])=aw e:=by rw [aw,if_pos h,<- hw]; rfl
theorem yP (h:lineOk e=true):(0:Int)=ba e:=by rw [ba,if_pos h]
theorem pe:∀ {l:List (List UInt8)} {m:Nat},(∀ x ∈ l,x.length<=m)->(Lib.joinTail [32] l).length<=(m+1)*l.length
 | [],_,_=>Nat.le_refl _
 | x :: l,m,h=>by
  have h1:=h x (by simp)
  have h2:=pe (l:=l) (m:=m) fun y hy=>h y (by simp [hy])
  rw [tail_cons,List.length_cons,List.length_append,List.length_cons,Nat.mul_succ]; omega
theorem Bu {l:List (List UInt8)} {m:Nat} (h:∀ x ∈ l,x.length<=m):(Lib.join l [32]).length<=(m+1)*l.length:=by
 cases l with
 | nil=>exact Nat.zero_le _
 | cons x l=>
  have h1:=h x (by simp)
  have h2:=pe (l:=l) (m:=m) fun y hy=>h y (by simp [hy])
  rw [Lib.join_cons,List.length_append,List.length_cons,Nat.mul_succ]; omega
theorem nW:∀ k:Fin 10,(bU.getD k.1 ⟨[]⟩).b.length<=40:=by decide
theorem oi {l:List UInt8} (h:l.length<=16):(bh l).length<=40:=by
 unfold bh
 split
 ·decide
 ·rw [jD]; omega
theorem kf {n:Int} (h:okN n=true):(ah n).b.length<=40:=by
 simp only [okN,Bool.and_eq_true,decide_eq_true_eq] at h
 have:=Lib.itoa_length_le n (by omega) (by omega)
 show (Lib.itoa n).length<=40; omega
theorem AS {ws:List Str} (h:lineOk e=true) (hw:aA e=ws):(Lib.join (ws.map fun (x:den Sh.str)=>x.b) [32]).length<=140737488355328:=by
 subst hw
 obtain ⟨h1,h2,h3,h4,h5,h6,h7⟩:=bj.1 h
 have hl:(aA e).length<=40:=by
  unfold aA
  by_cases hk:e.kind=6
  ·have:=(h6 hk).2.1
   rw [if_pos hk]; simp only [List.length_append,List.length_map,fK]; split <;> simp <;> omega
  ·rw [if_neg hk]; split <;> simp
 have hx:∀ x ∈ (aA e).map (fun (x:den Sh.str)=>x.b),x.length<=40:=by
  intro x hx
  rw [List.mem_map] at hx
  obtain ⟨s,hs,rfl⟩:=hx
  simp only [aA,List.mem_append,List.mem_cons,List.not_mem_nil,or_false] at hs
  rcases hs with ((rfl | rfl) | hs) | hs
  ·exact nW ⟨e.kind.toNat,by omega⟩
  ·exact kf h3
  ·split at hs
   ·rw [List.mem_singleton] at hs; subst hs; exact kf (h4 (by assumption))
   ·cases hs
  ·split at hs
   ·obtain ⟨k1,k2,k3,k4⟩:=h6 (by assumption)
    simp only [List.mem_append,List.mem_map,List.mem_singleton] at hs
    rcases hs with (⟨n,hn,rfl⟩ | rfl) | ⟨n,hn,rfl⟩
    ·exact kf (List.all_eq_true.1 k3 n hn)
    ·exact oi cQ
    ·exact kf (List.all_eq_true.1 k4 n hn)
   ·cases hs
 have:=Bu hx
 rw [List.length_map] at this
 have:(40+1)*(aA e).length<=(40+1)*40:=Nat.mul_le_mul_left _ hl
 omega
end
theorem yI (a:Command) (b:Command) (r0:Bool):lF aX yR [] Tryd.f28 [.agg (cellsOf (.nm .command) a),.agg (cellsOf (.nm .command) b)] [] [.c (.bool (.atom (r0)))]=(I64 a.kind->I64 a.client->I64 a.seq->I64 a.set->I64 a.id->I64 a.n->a.chunks.length*(8:Nat)<=(140737488355328:Nat)->a.text.b.length<=(140737488355328:Nat)->I64 b.kind->I64 b.client->I64 b.seq->I64 b.set->I64 b.id->I64 b.n->b.chunks.length*(8:Nat)<=(140737488355328:Nat)->b.text.b.length<=(140737488355328:Nat)->(decide (a.chunks=b.chunks) && decide (a.kind=b.kind) && decide (a.client=b.client) && decide (a.seq=b.seq) && decide (a.set=b.set) && decide (a.id=b.id) && decide (a.n=b.n) && decide (a.text=b.text))=r0):=by kernel_rfl
theorem yc (a:Command) (b:Command):Sat Tryd.prog (ai aX) 28 [.agg (cellsOf (.nm .command) a),.agg (cellsOf (.nm .command) b)] [] ⟨[],[.c (.bool (.atom ((decide (a=b)))))],none,false⟩:=by
 refine cz mO [] Tryd.func28 (by decide) (by kernel_rfl) ?_
 rw [yI]
 intros; cases a; cases b; simp only [Command.mk.injEq]; grind
theorem An (e:Event) (r0:Str) (r1:Int):lF aX yR [] Tryd.f10 [.agg (cellsOf (.nm .event) e)] [] [.c (.str (r0)),.c (.int (r1))]=((fun (q18:Bool)=>(fun (q17:Int)=>(fun (jt:List (den Sh.int))=>(fun (q15:den Sh.str)=>(fun (q14:Prop)=>(fun (q13:Nat)=>(fun (q12:Int)=>(fun (q11:Prop)=>(fun (q10:Nat)=>(fun (q9:Nat)=>(fun (q8:Bool)=>(fun (q7:List Str)=>(fun (q6:Prop)=>(fun (q5:List Int)=>(fun (q4:List UInt8)=>(fun (q3:Prop)=>(fun (q2:List (den Sh.str))=>(fun (q1:List (den Sh.str))=>(fun (q0:List (den Sh.int))=>I64 q17->I64 e.a->I64 e.b->I64 e.c.kind->I64 e.c.client->I64 e.c.seq->I64 e.c.set->I64 e.c.id->I64 e.c.n->q5.length*(8:Nat)<=q10->q9<=q10->(q17<(1:Int)\/(10:Int)<=q17->q3)/\((1:Int)<=q17/\q17<(10:Int)->(0:Int)<=q17/\q17<(↑(10:Nat):Int)/\(q15.b.length<=q10->[q15].length+[e.a].length<=q13/\(ca q17=true->q1.length+jt.length<=q13/\(¬q11->(addO jt q8=false\/q18=false->q3)/\(addO jt q8=true/\q18=true->(Lib.join (List.map (fun (x:den Sh.str)=>x.b) (q1++q7)) q4).length<=q10/\((Lib.join (List.map (fun (x:den Sh.str)=>x.b) (q1++q7)) q4).length<=q10->Str.mk (Lib.join (List.map (fun (x:den Sh.str)=>x.b) (q1++q7)) q4)=r0/\q14)))/\(q11->(q12<(↑q9:Int)\/q12<(↑q5.length:Int)->q3)/\((↑q9:Int)<=q12/\(↑q5.length:Int)<=q12->(q1++q7).length+q0.length<=q13/\q9<=q13/\(q6->((q1++q7++List.map ah q0).length+q2.length)*(16:Nat)<=q10)/\(q6->(q1++q7++List.map ah q0++q2).length+q5.length<=q13/\(addO q5 (addO q0 (addO jt q8))=false->q3)/\(addO q5 (addO q0 (addO jt q8))=true->(Lib.join (List.map (fun (x:den Sh.str)=>x.b) (q1++q7++List.map ah q0++q2++List.map ah q5)) q4).length<=q10/\((Lib.join (List.map (fun (x:den Sh.str)=>x.b) (q1++q7++List.map ah q0++q2++List.map ah q5)) q4).length<=q10->Str.mk (Lib.join (List.map (fun (x:den Sh.str)=>x.b) (q1++q7++List.map ah q0++q2++List.map ah q5)) q4)=r0/\q14))))))/\(ca q17=false->(¬e.b=(0:Int)->(¬q11->(false=false\/q18=false->q3)/\(false=true/\q18=true->(Lib.join (List.map (fun (x:den Sh.str)=>x.b) q1) q4).length<=q10/\((Lib.join (List.map (fun (x:den Sh.str)=>x.b) q1) q4).length<=q10->Str.mk (Lib.join (List.map (fun (x:den Sh.str)=>x.b) q1) q4)=r0/\q14)))/\(q11->(q12<(↑q9:Int)\/q12<(↑q5.length:Int)->q3)/\((↑q9:Int)<=q12/\(↑q5.length:Int)<=q12->q1.length+q0.length<=q13/\q9<=q13/\(q6->((q1++List.map ah q0).length+q2.length)*(16:Nat)<=q10)/\(q6->(q1++List.map ah q0++q2).length+q5.length<=q13/\(addO q5 (addO q0 false)=false->q3)/\(addO q5 (addO q0 false)=true->(Lib.join (List.map (fun (x:den Sh.str)=>x.b) (q1++List.map ah q0++q2++List.map ah q5)) q4).length<=q10/\((Lib.join (List.map (fun (x:den Sh.str)=>x.b) (q1++List.map ah q0++q2++List.map ah q5)) q4).length<=q10->Str.mk (Lib.join (List.map (fun (x:den Sh.str)=>x.b) (q1++List.map ah q0++q2++List.map ah q5)) q4)=r0/\q14))))))/\(e.b=(0:Int)->(¬q11->(q8=false\/q18=false->q3)/\(q8=true/\q18=true->(Lib.join (List.map (fun (x:den Sh.str)=>x.b) q1) q4).length<=q10/\((Lib.join (List.map (fun (x:den Sh.str)=>x.b) q1) q4).length<=q10->Str.mk (Lib.join (List.map (fun (x:den Sh.str)=>x.b) q1) q4)=r0/\q14)))/\(q11->(q12<(↑q9:Int)\/q12<(↑q5.length:Int)->q3)/\((↑q9:Int)<=q12/\(↑q5.length:Int)<=q12->q1.length+q0.length<=q13/\q9<=q13/\(q6->((q1++List.map ah q0).length+q2.length)*(16:Nat)<=q10)/\(q6->(q1++List.map ah q0++q2).length+q5.length<=q13/\(addO q5 (addO q0 q8)=false->q3)/\(addO q5 (addO q0 q8)=true->(Lib.join (List.map (fun (x:den Sh.str)=>x.b) (q1++List.map ah q0++q2++List.map ah q5)) q4).length<=q10/\((Lib.join (List.map (fun (x:den Sh.str)=>x.b) (q1++List.map ah q0++q2++List.map ah q5)) q4).length<=q10->Str.mk (Lib.join (List.map (fun (x:den Sh.str)=>x.b) (q1++List.map ah q0++q2++List.map ah q5)) q4)=r0/\q14)))))))))) [e.c.kind,e.c.client,e.c.seq,e.c.set,e.c.id,e.c.n]) ([q15]++List.map ah [e.a])) [Str.mk (bh e.c.text.b)]) (Str.mk []=r0/\(1:Int)=r1)) [(32:UInt8)]) e.c.chunks) ((bh e.c.text.b).length<=q10)) (List.map ah jt)) (addO [e.a] true)) e.c.text.b.length) (140737488355328:Nat)) (q17=(6:Int))) (16:Int)) (1000:Nat)) ((0:Int)=r1)) (bU.getD q17.toNat (aY Sh.str))) [e.b]) e.kind) (bZ e.c)):=by kernel_rfl
theorem Bo (e:Event):Sat Tryd.prog (ai aX) 10 [.agg (cellsOf (.nm .event) e)] [] ⟨[],[.c (.str ((aw e))),.c (.int ((ba e)))],none,false⟩:=by
 refine cz mO [] Tryd.func10 (by decide) (by kernel_rfl) ?_
 rw [An]
 (repeat' (first | with_reducible apply lu | with_reducible refine lx ?_ | intro))
 all_goals (first | exact lD | (simp only [List.length_append,List.length_map,List.length_cons,List.length_nil]; omega) | exact (Dn (fun hl=>by have hl:=bj.1 hl; simp_all [addO,fK,List.all_cons,List.all_nil] <;> omega)) | exact (AW (fun hl=>by have hl:=bj.1 hl; simp_all [addO,fK,List.all_cons,List.all_nil] <;> omega)) | exact (yP (bj.2 (by simp_all [addO,fK,List.all_cons,List.all_nil]))) | exact (AG (bj.2 (by simp_all [addO,fK,List.all_cons,List.all_nil])) (by simp_all [aA,cw,fK])) | exact (AS (e:=e) (bj.2 (by simp_all [addO,fK,List.all_cons,List.all_nil])) (by simp_all [aA,cw,fK])))
def yt:cC:=(eG 10 (dY (aC (kT (.nm .event)) bP) bO fun (e,_) (_)=>⟨[],[.c (.str ((aw e))),.c (.int ((ba e)))],none,false⟩) (eG 28 (dY (aC (kT (.nm .command)) (aC (kT (.nm .command)) bP)) bO fun (a,b,_) (_)=>⟨[],[.c (.bool (.atom ((decide (a=b)))))],none,false⟩) yR))
theorem nE:aW Tryd.prog (ai aX) yt:=(aK (aJ (ag kU ay) az fun (e,_) (_) _=>Bo e ) (aK (aJ (ag kU (ag kU ay)) az fun (a,b,_) (_) _=>yc a b ) mO))
theorem DE {n:Nat} (h:n<10):ah (n:Int)=⟨[UInt8.ofNat (48+n)]⟩:=by
 show Str.mk (Lib.itoa n)=_
 rw [Lib.itoa_nonneg,Lib.decDigits,dif_pos h]
theorem EB:aw (Event.mk 9 1 3 (Command.mk 0 0 0 0 0 0 [] ⟨[]⟩))=⟨[115,116,97,114,116,32,49,32,51]⟩:=by
 have h:aA (Event.mk 9 1 3 (Command.mk 0 0 0 0 0 0 [] ⟨[]⟩))=[⟨[115,116,97,114,116]⟩,⟨[49]⟩,⟨[51]⟩]:=by
  show [cw 9,ah ((1:Nat):Int)]++[ah ((3:Nat):Int)]++[]=_
  rw [DE (by decide),DE (by decide)]; rfl
 rw [aw,if_pos (by decide),h]; rfl
theorem EL:aw (Event.mk 6 0 0 (Command.mk 1 2 0 0 0 0 [] ⟨[]⟩))=⟨[99,97,108,108,32,48,32,49,32,50,32,48,32,48,32,48,32,48,32,45]⟩:=by
 have h:aA (Event.mk 6 0 0 (Command.mk 1 2 0 0 0 0 [] ⟨[]⟩))=[⟨[99,97,108,108]⟩,⟨[48]⟩,⟨[49]⟩,⟨[50]⟩,⟨[48]⟩,⟨[48]⟩,⟨[48]⟩,⟨[48]⟩,⟨[45]⟩]:=by
  show [cw 6,ah ((0:Nat):Int)]++[]++([ah ((1:Nat):Int),ah ((2:Nat):Int),ah ((0:Nat):Int),ah ((0:Nat):Int),ah ((0:Nat):Int),ah ((0:Nat):Int)]++[⟨bh []⟩]++[])=_
  rw [DE (by decide),DE (by decide),DE (by decide)]; rfl
 rw [aw,if_pos (by decide),h]; rfl
theorem FI:ba (Event.mk 9 1 3 (Command.mk 0 0 0 0 0 0 [] ⟨[]⟩))=0:=by decide
theorem Em:ba (Event.mk 6 0 0 (Command.mk 1 2 0 0 0 0 [] ⟨[]⟩))=0:=by decide
section
variable {a b:Event} {k:Nat}
end
theorem uI (a:Event) (b:Event) (r0:Bool):lF aX yt [] Tryd.f11 [.agg (cellsOf (.nm .event) a),.agg (cellsOf (.nm .event) b)] [] [.c (.bool (.atom (r0)))]=(I64 a.kind->I64 a.a->I64 a.b->I64 a.c.kind->I64 a.c.client->I64 a.c.seq->I64 a.c.set->I64 a.c.id->I64 a.c.n->a.c.chunks.length*(8:Nat)<=(140737488355328:Nat)->a.c.text.b.length<=(140737488355328:Nat)->I64 b.kind->I64 b.a->I64 b.b->I64 b.c.kind->I64 b.c.client->I64 b.c.seq->I64 b.c.set->I64 b.c.id->I64 b.c.n->b.c.chunks.length*(8:Nat)<=(140737488355328:Nat)->b.c.text.b.length<=(140737488355328:Nat)->(decide (a.c=b.c) && decide (a.kind=b.kind) && decide (a.a=b.a) && decide (a.b=b.b))=r0):=by kernel_rfl
theorem xp (a:Event) (b:Event):Sat Tryd.prog (ai aX) 11 [.agg (cellsOf (.nm .event) a),.agg (cellsOf (.nm .event) b)] [] ⟨[],[.c (.bool (.atom ((decide (a=b)))))],none,false⟩:=by
 refine cz nE [] Tryd.func11 (by decide) (by kernel_rfl) ?_
 rw [uI]
 intros; cases a; cases b; simp only [Event.mk.injEq]; grind
theorem yK  (r0:Bool):lF aX yt [] Tryd.f8 [] [] [.c (.bool (.atom (r0)))]=((fun (q2:Int)=>(fun (q1:UInt8)=>(fun (q0:Int)=>(aw (Event.mk (9:Int) q2 (3:Int) (Command.mk q0 q0 q0 q0 q0 q0 [] (Str.mk [])))).b.length<=(140737488355328:Nat)->I64 (ba (Event.mk (9:Int) q2 (3:Int) (Command.mk q0 q0 q0 q0 q0 q0 [] (Str.mk []))))->(aw (Event.mk (6:Int) q0 q0 (Command.mk q2 (2:Int) q0 q0 q0 q0 [] (Str.mk [])))).b.length<=(140737488355328:Nat)->I64 (ba (Event.mk (6:Int) q0 q0 (Command.mk q2 (2:Int) q0 q0 q0 q0 [] (Str.mk []))))->(decide (aw (Event.mk (9:Int) q2 (3:Int) (Command.mk q0 q0 q0 q0 q0 q0 [] (Str.mk [])))=Str.mk [(115:UInt8),(116:UInt8),(97:UInt8),(114:UInt8),(116:UInt8),q1,(49:UInt8),q1,(51:UInt8)]) && decide (ba (Event.mk (9:Int) q2 (3:Int) (Command.mk q0 q0 q0 q0 q0 q0 [] (Str.mk [])))=q0) && decide (aw (Event.mk (6:Int) q0 q0 (Command.mk q2 (2:Int) q0 q0 q0 q0 [] (Str.mk [])))=Str.mk [(99:UInt8),(97:UInt8),(108:UInt8),(108:UInt8),q1,(48:UInt8),q1,(49:UInt8),q1,(50:UInt8),q1,(48:UInt8),q1,(48:UInt8),q1,(48:UInt8),q1,(48:UInt8),q1,(45:UInt8)]) && decide (ba (Event.mk (6:Int) q0 q0 (Command.mk q2 (2:Int) q0 q0 q0 q0 [] (Str.mk [])))=q0))=r0) (0:Int)) (32:UInt8)) (1:Int)):=by kernel_rfl
theorem y_ :Sat Tryd.prog (ai aX) 8 [] [] ⟨[],[.c (.bool (.atom ((true))))],none,false⟩:=by
 refine cz nE [] Tryd.func8 (by decide) (by kernel_rfl) ?_
 rw [yK]
 (repeat' (first | with_reducible apply lu | with_reducible refine lx ?_ | intro))
 rw [EB,EL,FI,Em]; rfl
def CG:cC:=(eG 8 (dY bP bO fun (_) (_)=>⟨[],[.c (.bool (.atom ((true))))],none,false⟩) (eG 11 (dY (aC (kT (.nm .event)) (aC (kT (.nm .event)) bP)) bO fun (a,b,_) (_)=>⟨[],[.c (.bool (.atom ((decide (a=b)))))],none,false⟩) yt))
theorem yY:aW Tryd.prog (ai aX) CG:=(aK (aJ ay az fun (_) (_) _=>y_  ) (aK (aJ (ag kU (ag kU ay)) az fun (a,b,_) (_) _=>xp a b ) nE))
theorem AN (s:Str) (sep:Str) (h0:s.b.length<4294967281) (h1:sep.b.length=1):Sat Tryd.prog (ai aX) 33 [.c (.str (s)),.c (.str (sep))] [] ⟨[s.b.length<4294967281,sep.b.length=1],[.c (.fz .str ((bG s sep)))],none,false⟩:=sM s sep h0 h1
theorem tX (s:Str) (c:UInt8):Sat Tryd.prog (ai aX) 54 [.c (.str (s)),.c (.u8 (c))] [] ⟨[],[.c (.int ((Lib.indexByte s.b c)))],none,false⟩:=tK s c
theorem Ao (s:Str):Sat Tryd.prog (ai aX) 46 [.c (.str (s))] [] ⟨[],[.c (.int ((aH s))),.c (.xx (.er ((bS s))) [])],none,false⟩:=vc s
theorem xD :Sat Tryd.prog (ai aX) 44 [] [] ⟨[],[.c (.xx (.fm i_) [])],none,false⟩:=tw
theorem pX (xs:List UInt8):Sat Tryd.prog (ai aX) 49 [.c (.ptr 0 0)] [.box 62 ([.xx .bp [(0,0)],.own 1]),.row 5 .u8 (xs)] ⟨[],[],some ([.box 62 ([.xx .bp [(0,0)],.own 1]),.row 5 .u8 ((xs))]),false⟩:=lG xs
theorem sD (xs:List UInt8) (h0:xs≠[]):Sat Tryd.prog (ai aX) 39 [.c (.ptr 0 0)] [.box 62 ([.xx .bp [(0,0)],.own 1]),.row 5 .u8 (xs)] ⟨[xs≠[]],[.c (.str ((⟨xs⟩)))],some ([.box 62 ([.xx .bp [(0,0)],.dead]),.gone]),false⟩:=qA xs h0
def qa:cC:=(eG 39 (dY (aC (kC (ff 0 0)) bP) (bE (dL 62 (aB (CC 0 0) (aB (pN 1) dK))) (bE (n_ 5 .u8) bO)) fun (_,_) ((_,_,_),xs,_)=>⟨[xs≠[]],[.c (.str ((⟨xs⟩)))],some ([.box 62 ([.xx .bp [(0,0)],.dead]),.gone]),false⟩) (eG 49 (dY (aC (kC (ff 0 0)) bP) (bE (dL 62 (aB (CC 0 0) (aB (pN 1) dK))) (bE (n_ 5 .u8) bO)) fun (_,_) ((_,_,_),xs,_)=>⟨[],[],some ([.box 62 ([.xx .bp [(0,0)],.own 1]),.row 5 .u8 ((xs))]),false⟩) (eG 44 (dY bP bO fun (_) (_)=>⟨[],[.c (.xx (.fm i_) [])],none,false⟩) (eG 46 (dY (aC (kC cS) bP) bO fun (s,_) (_)=>⟨[],[.c (.int ((aH s))),.c (.xx (.er ((bS s))) [])],none,false⟩) (eG 54 (dY (aC (kC cS) (aC (kC cY) bP)) bO fun (s,c,_) (_)=>⟨[],[.c (.int ((Lib.indexByte s.b c)))],none,false⟩) (eG 33 (dY (aC (kC cS) (aC (kC cS) bP)) bO fun (s,sep,_) (_)=>⟨[s.b.length<4294967281,sep.b.length=1],[.c (.fz .str ((bG s sep)))],none,false⟩) CG))))))
theorem gy:aW Tryd.prog (ai aX) qa:=(aK (aJ (ag (aL bH) ay) (aG (bd (ab mY (ab fp bc))) (aG fw az)) fun (_,_) ((_,_,_),xs,_) hp=>sD xs (sB hp)) (aK (aJ (ag (aL bH) ay) (aG (bd (ab mY (ab fp bc))) (aG fw az)) fun (_,_) ((_,_,_),xs,_) _=>pX xs ) (aK (aJ ay az fun (_) (_) _=>xD  ) (aK (aJ (ag (aL ea) ay) az fun (s,_) (_) _=>Ao s ) (aK (aJ (ag (aL ea) (ag (aL zW) ay)) az fun (s,c,_) (_) _=>tX s c ) (aK (aJ (ag (aL ea) (ag (aL ea) ay)) az fun (s,sep,_) (_) hp=>AN s sep (sB hp) (sB (FX hp))) yY))))))
abbrev fP (c:UInt8):Int:=Lib.indexByte [48,49,50,51,52,53,54,55,56,57,97,98,99,100,101,102] c
abbrev ri (a b:UInt8):UInt8:=UInt8.ofNat (xz (fP a*2 ^ 4) (fP b)).toNat
def unwL:List UInt8->Option (List UInt8)
 | []=>some []
 | [_]=>none
 | a :: b :: r=>if fP a<0\/fP b<0 then none else (unwL r).map (ri a b :: ·)
def aM (s:Str):Str:=if s=⟨[45]⟩ then ⟨[]⟩ else ⟨(unwL s.b).getD []⟩
def aS (s:Str):Bool:=if s=⟨[45]⟩ then true else (unwL s.b).isSome
def accP (l:List UInt8):Nat->List UInt8
 | 0=>[]
 | k+1=>accP l k++[ri (l.getD (2*k) 0) (l.getD (2*k+1) 0)]
structure UnJ (l:List UInt8) (k:Nat):Prop where
 le:2*k<=l.length
 eq:unwL l=(unwL (l.drop (2*k))).map (accP l k ++ ·)
theorem zg (c:UInt8):-1<=fP c/\fP c<16:=by
 unfold fP
 have:∀ l:List UInt8,Lib.indexByte l c<l.length\/Lib.indexByte l c = -1:=fun l=>by
  induction l with
  | nil=>exact .inr rfl
  | cons b l ih=>
   have:=dc c l
   simp only [Lib.indexByte,List.length_cons]
   split
   ·left; omega
   ·split
    ·exact .inr rfl
    ·left; rename_i h; rw [beq_iff_eq] at h; omega
 have h1:=this [48,49,50,51,52,53,54,55,56,57,97,98,99,100,101,102]
 have h2:=dc c [48,49,50,51,52,53,54,55,56,57,97,98,99,100,101,102]
 simp only [List.length_cons,List.length_nil] at h1
 omega
section
variable {w:Str} {k:Nat}
theorem E_:UnJ w.b 0:=⟨by omega,by simp [accP]⟩
theorem FJ:(2*(k:Int)).toNat=2*k:=by omega
theorem Fl:(2*(k:Int)+1).toNat=2*k+1:=by omega
theorem AJ:accP w.b k++[ri (w.b.getD (2*(k:Int)).toNat 0) (w.b.getD (2*(k:Int)+1).toNat 0)]=accP w.b (k+1):=by rw [FJ,Fl]; rfl
theorem nV:∀ k:Nat,(accP w.b k).length=k
 | 0=>rfl
 | k+1=>by rw [accP,List.length_append,nV k]; rfl
theorem AD {x:UInt8} (hJ:UnJ w.b k) (h:w.b.length<=140737488355328) (h1:2*(k:Int)<w.b.length):((accP w.b k).length+[x].length)*1<=140737488355328:=by
 have:=hJ.le
 rw [nV,List.length_singleton]; omega
theorem Bh {a b:Int}:0<=xz a b:=Int.natCast_nonneg _
theorem AX {c:UInt8}:I64 (fP c*2 ^ 4):=by have:=zg c; constructor <;> omega
theorem DR {c:UInt8} (h:0<=fP c):0<=fP c*2 ^ 4:=by omega
theorem yM (h:w=⟨[45]⟩):(⟨[]⟩:Str)=aM w:=by rw [aM,if_pos h]
theorem wO (h:w=⟨[45]⟩):true=aS w:=by rw [aS,if_pos h]
theorem jw (h:¬ w=⟨[45]⟩) (hu:unwL w.b=none):(⟨[]⟩:Str)=aM w/\false=aS w:=by
 rw [aM,if_neg h,aS,if_neg h,hu]; exact ⟨rfl,rfl⟩
theorem wE (hJ:UnJ w.b k) (h:2*(k:Int)+1=w.b.length):unwL w.b=none:=by
 rw [hJ.eq]
 have hl:(w.b.drop (2*k)).length=1:=by rw [List.length_drop]; omega
 match hd:w.b.drop (2*k),hl with
 | [x],_=>rfl
theorem wa (hJ:UnJ w.b k) (h:2*(k:Int)<w.b.length) (h1:¬ 2*(k:Int)+1=w.b.length):w.b.drop (2*k)=w.b.getD (2*k) 0 :: w.b.getD (2*k+1) 0 :: w.b.drop (2*(k+1)):=by
 have:=hJ.le
 rw [List.drop_eq_getElem_cons (show 2*k<w.b.length by omega),List.drop_eq_getElem_cons (show 2*k+1<w.b.length by omega),List.getD_eq_getElem?_getD,List.getD_eq_getElem?_getD,List.getElem?_eq_getElem (show 2*k<w.b.length by omega),List.getElem?_eq_getElem (show 2*k+1<w.b.length by omega)]
 rfl
theorem uM (hJ:UnJ w.b k) (h:2*(k:Int)<w.b.length) (h1:¬ 2*(k:Int)+1=w.b.length) (hb:fP (w.b.getD (2*(k:Int)).toNat 0)<0\/fP (w.b.getD (2*(k:Int)+1).toNat 0)<0):unwL w.b=none:=by
 rw [FJ,Fl] at hb
 rw [hJ.eq,wa hJ h h1,unwL,if_pos hb]; rfl
theorem yG (hJ:UnJ w.b k) (h:2*(k:Int)<w.b.length) (h1:¬ 2*(k:Int)+1=w.b.length) (ha:0<=fP (w.b.getD (2*(k:Int)).toNat 0)) (hb:0<=fP (w.b.getD (2*(k:Int)+1).toNat 0)):UnJ w.b (k+1):=by
 rw [FJ] at ha
 rw [Fl] at hb
 refine ⟨by have:=hJ.le; omega,?_⟩
 rw [hJ.eq,wa hJ h h1,unwL,if_neg (by omega),Option.map_map]
 congr 1
 funext x
 simp [accP]
theorem wR (hJ:UnJ w.b k) (hd:¬ w=⟨[45]⟩) (h:(w.b.length:Int)<=2*k):(⟨accP w.b k⟩:Str)=aM w/\true=aS w:=by
 have h2:unwL w.b=some (accP w.b k):=by
  rw [hJ.eq,List.drop_eq_nil_of_le (by omega)]; simp [unwL]
 rw [aM,if_neg hd,aS,if_neg hd,h2]; exact ⟨rfl,rfl⟩
end
def q_ (w:Str):List (Nat × LI):=[(5,{ σ:=Nat,F:=fun k=>([(0,one (.str (w))),(4,one (.own 0)),(5,one (.int (2*(k:Int))))],[.row 5 .u8 ((accP w.b k))]),J:=fun k=>UnJ w.b k,μ:=fun k=>w.b.length - k })]
theorem AP (s:Str) (xs:List UInt8) (r0:Int) (r1:Bool) (r2:List UInt8):zA aX qa [] Tryd.f37 [.c (.ptr 0 0),.c (.str (s))] [.box 62 ([.xx .bp [(0,0)],.own 1]),.row 5 .u8 (xs)] [.c (.int (r0)),.c (.xx (.er (r1)) [])] [.box 62 ([.xx .bp [(0,0)],.own 1]),.row 5 .u8 (r2)]=(s.b.length<=(140737488355328:Nat)->(xs.length+s.b.length)*(1:Nat)<=(140737488355328:Nat)/\(↑s.b.length:Int)=r0/\true=r1/\xs++s.b=r2):=by kernel_rfl
theorem AQ (s:Str) (xs:List UInt8) (h0:(xs.length+s.b.length)*1<=140737488355328):Sat Tryd.prog (ai aX) 37 [.c (.ptr 0 0),.c (.str (s))] [.box 62 ([.xx .bp [(0,0)],.own 1]),.row 5 .u8 (xs)] ⟨[(xs.length+s.b.length)*1<=140737488355328],[.c (.int ((s.b.length))),.c (.xx (.er ((true))) [])],some ([.box 62 ([.xx .bp [(0,0)],.own 1]),.row 5 .u8 ((xs++s.b))]),false⟩:=by
 refine kQ gy [] Tryd.func37 (by decide) (by kernel_rfl) ?_
 rw [AP]
 (repeat' (first | with_reducible apply lu | with_reducible refine lx ?_ | intro))
 all_goals exact lD
theorem yO (c:UInt8) (xs:List UInt8) (r0:Bool) (r1:List UInt8):zA aX qa [] Tryd.f38 [.c (.ptr 0 0),.c (.u8 (c))] [.box 62 ([.xx .bp [(0,0)],.own 1]),.row 5 .u8 (xs)] [.c (.xx (.er (r0)) [])] [.box 62 ([.xx .bp [(0,0)],.own 1]),.row 5 .u8 (r1)]=((xs.length+[c].length)*(1:Nat)<=(140737488355328:Nat)/\true=r0/\xs++[c]=r1):=by kernel_rfl
theorem yC (c:UInt8) (xs:List UInt8) (h0:(xs.length+1)*1<=140737488355328):Sat Tryd.prog (ai aX) 38 [.c (.ptr 0 0),.c (.u8 (c))] [.box 62 ([.xx .bp [(0,0)],.own 1]),.row 5 .u8 (xs)] ⟨[(xs.length+1)*1<=140737488355328],[.c (.xx (.er ((true))) [])],some ([.box 62 ([.xx .bp [(0,0)],.own 1]),.row 5 .u8 ((xs++[c]))]),false⟩:=by
 refine kQ gy [] Tryd.func38 (by decide) (by kernel_rfl) ?_
 rw [yO]
 (repeat' (first | with_reducible apply lu | with_reducible refine lx ?_ | intro))
 all_goals exact lD
theorem wG (w:Str) (r0:Str) (r1:Bool):lF aX qa (q_ w) Tryd.f47 [.c (.str (w))] [] [.c (.str (r0)),.c (.bool (.atom (r1)))]=((fun (q7:List UInt8)=>(fun (q6:Nat)=>(fun (q5:Int)=>(fun (q4:Nat)=>(fun (q3:Int)=>(fun (q2:UInt8)=>(fun (q1:Int)=>(fun (q0:List UInt8)=>q4<=(140737488355328:Nat)->(w=Str.mk [(45:UInt8)]->Str.mk []=r0/\true=r1)/\(¬w=Str.mk [(45:UInt8)]->∃ (s0:Nat),(fun (q8:Int)=>(w=w/\q5=q1*(↑s0:Int)/\accP q7 s0=[])/\UnJ q7 s0/\∀ (s:Nat),(fun (q9:Int)=>UnJ q7 s->(q9<(↑q4:Int)->I64 (q9+q3)/\(q9+q3=(↑q4:Int)->Str.mk []=r0/\false=r1)/\(¬q9+q3=(↑q4:Int)->q5<=q9/\q9<(↑q4:Int)/\I64 (q9+q3)/\q5<=q9+q3/\q9+q3<(↑q4:Int)/\(I64 (Lib.indexByte q0 (q7.getD q9.toNat q2))->I64 (Lib.indexByte q0 (q7.getD (q9+q3).toNat q2))->(Lib.indexByte q0 (q7.getD q9.toNat q2)<q5\/Lib.indexByte q0 (q7.getD (q9+q3).toNat q2)<q5->Str.mk []=r0/\false=r1)/\(q5<=Lib.indexByte q0 (q7.getD q9.toNat q2)/\q5<=Lib.indexByte q0 (q7.getD (q9+q3).toNat q2)->q6<(64:Nat)/\I64 (Lib.indexByte q0 (q7.getD q9.toNat q2)*q8)/\q5<=Lib.indexByte q0 (q7.getD q9.toNat q2)*q8/\q5<=Lib.indexByte q0 (q7.getD (q9+q3).toNat q2)/\q5<=xz (Lib.indexByte q0 (q7.getD q9.toNat q2)*q8) (Lib.indexByte q0 (q7.getD (q9+q3).toNat q2))/\((accP q7 s).length+[UInt8.ofNat (xz (Lib.indexByte q0 (q7.getD q9.toNat q2)*q8) (Lib.indexByte q0 (q7.getD (q9+q3).toNat q2))).toNat].length)*(1:Nat)<=(140737488355328:Nat)/\I64 (q9+q1)/\∃ (s':Nat),(w=w/\q9+q1=q1*(↑s':Int)/\accP q7 s++[UInt8.ofNat (xz (Lib.indexByte q0 (q7.getD q9.toNat q2)*q8) (Lib.indexByte q0 (q7.getD (q9+q3).toNat q2))).toNat]=accP q7 s')/\UnJ q7 s' /\ q4 - s' < q4 - s))))/\((↑q4:Int)<=q9->Str.mk (accP q7 s)=r0/\true=r1)) (q1*(↑s:Int))) (q1 ^ q6))) [(48:UInt8),(49:UInt8),(50:UInt8),(51:UInt8),(52:UInt8),(53:UInt8),(54:UInt8),(55:UInt8),(56:UInt8),(57:UInt8),(97:UInt8),(98:UInt8),(99:UInt8),(100:UInt8),(101:UInt8),(102:UInt8)]) (2:Int)) (0:UInt8)) (1:Int)) q7.length) (0:Int)) (4:Nat)) w.b):=by kernel_rfl
theorem wZ (w:Str):Sat Tryd.prog (ai aX) 47 [.c (.str (w))] [] ⟨[],[.c (.str ((aM w))),.c (.bool (.atom ((aS w))))],none,false⟩:=by
 refine cz gy (q_ w) Tryd.func47 (by decide) (by kernel_rfl) ?_
 rw [wG]
 iterate 3 ((all_goals (repeat' (first | with_reducible apply lu | with_reducible refine lx ?_ | intro))); (all_goals try (first | exact lD | exact rfl | exact (yM ak) | exact (wO ak) | exact E_ | exact (jw ak (wE ak ak)).1 | exact (jw ak (wE ak ak)).2 | exact (jw ak (uM ak ak ak ak)).1 | exact (jw ak (uM ak ak ak ak)).2 | exact (wR ak ak ak).1 | exact (wR ak ak ak).2 | exact AX | exact (DR ak) | exact Bh | exact (AD ak ak ak) | exact AJ | exact (yG ak ak ak ak ak))); all_goals try first | refine ⟨‹Nat› + 1,?_⟩ | refine ⟨0,?_⟩)
def mc:cC:=(eG 47 (dY (aC (kC cS) bP) bO fun (w,_) (_)=>⟨[],[.c (.str ((aM w))),.c (.bool (.atom ((aS w))))],none,false⟩) (eG 38 (dY (aC (kC (ff 0 0)) (aC (kC cY) bP)) (bE (dL 62 (aB (CC 0 0) (aB (pN 1) dK))) (bE (n_ 5 .u8) bO)) fun (_,c,_) ((_,_,_),xs,_)=>⟨[(xs.length+1)*1<=140737488355328],[.c (.xx (.er ((true))) [])],some ([.box 62 ([.xx .bp [(0,0)],.own 1]),.row 5 .u8 ((xs++[c]))]),false⟩) (eG 37 (dY (aC (kC (ff 0 0)) (aC (kC cS) bP)) (bE (dL 62 (aB (CC 0 0) (aB (pN 1) dK))) (bE (n_ 5 .u8) bO)) fun (_,s,_) ((_,_,_),xs,_)=>⟨[(xs.length+s.b.length)*1<=140737488355328],[.c (.int ((s.b.length))),.c (.xx (.er ((true))) [])],some ([.box 62 ([.xx .bp [(0,0)],.own 1]),.row 5 .u8 ((xs++s.b))]),false⟩) qa)))
theorem eY:aW Tryd.prog (ai aX) mc:=(aK (aJ (ag (aL ea) ay) az fun (w,_) (_) _=>wZ w ) (aK (aJ (ag (aL bH) (ag (aL zW) ay)) (aG (bd (ab mY (ab fp bc))) (aG fw az)) fun (_,c,_) ((_,_,_),xs,_) hp=>yC c xs (sB hp)) (aK (aJ (ag (aL bH) (ag (aL ea) ay)) (aG (bd (ab mY (ab fp bc))) (aG fw az)) fun (_,s,_) ((_,_,_),xs,_) hp=>AQ s xs (sB hp)) gy)))
def tk (ws:List Str) (x:Int):Int:=match ws with
 | []=>x
 | w :: _=>aH w
def cg (ws:List Str) (ok:Bool):Bool:=match ws with
 | []=>false
 | w :: _=>ok && bS w
section
variable {ws:List Str} {ok:Bool} {x:Int} {w:Str}
end
def uw (x:Int) (ws:List Str) (ok:Bool):List (Nat × LI):=[(1,{ σ:=Nat,F:=fun k=>([],[]),J:=fun k=>True,μ:=fun k=>0,un:=some (2,[1,2,8,9,10]) })]
def xo (k:Int) (a:Int) (b:Int) (c0:Int) (c1:Int) (c2:Int) (c3:Int) (c4:Int) (c5:Int) (tx:Str) (ws:List Str) (ok:Bool):List (Nat × LI):=[(1,{ σ:=Nat,F:=fun k=>([],[]),J:=fun k=>True,μ:=fun k=>0,un:=some (2,[1,2,8,9,10]) })]
def wy (k:Int) (a:Int) (b:Int) (c0:Int) (c1:Int) (c2:Int) (c3:Int) (c4:Int) (c5:Int) (tx:Str) (ws:List Str) (ok:Bool):List (Nat × LI):=[(1,{ σ:=Nat,F:=fun k=>([],[]),J:=fun k=>True,μ:=fun k=>0,un:=some (2,[1,2,8,9,10]) })]
def vB (k:Int) (a:Int) (b:Int) (c0:Int) (c1:Int) (c2:Int) (c3:Int) (c4:Int) (c5:Int) (tx:Str) (ws:List Str) (ok:Bool):List (Nat × LI):=[(1,{ σ:=Nat,F:=fun k=>([],[]),J:=fun k=>True,μ:=fun k=>0,un:=some (7,[1,2,8,9,10]) })]
theorem xS (x:Int) (ws:List Str) (ok:Bool) (r0:Int) (r1:List Str) (r2:Bool):zA aX mc (uw x ws ok) Tryd.f45 [.c (.xx .pl [(0,0)]),.c (.ptr 1 0),.c (.ptr 2 0)] [.box 3 ([.int (x)]),.box 46 ([.fz .str (ws)]),.box 4 ([.bool (.atom (ok))])] [] [.box 3 ([.int (r0)]),.box 46 ([.fz .str (r1)]),.box 4 ([.bool (.atom (r2))])]=((fun (q2:Int)=>(fun (q1:Int)=>(fun (q0:Int)=>(q1<q0->q1<=q1/\q1<q0/\(q2=q1->x=r0/\ws=r1/\false=r2)/\(¬q2=q1->q1<=q1/\q1<q2/\∀ (x:Str),(fun (q3:Int)=>ws[(0:Nat)]? = some x->x.b.length<=(140737488355328:Nat)->I64 (aH x)->(q1<=(1:Int)/\(1:Int)<=q2)/\I64 q3/\(q3<q0->False)/\(q0<=q3->aH x=r0/\List.drop (1:Nat) ws=r1/\(ok && bS x)=r2)) (q1+(1:Int))))/\(q0<=q1->x=r0/\ws=r1/\ok=r2)) (↑[((0:Nat),(0:Nat))].length:Int)) (0:Int)) (↑ws.length:Int)):=by kernel_rfl
theorem yJ (x:Int) (ws:List Str) (ok:Bool):Sat Tryd.prog (ai aX) 45 [.c (.xx .pl [(0,0)]),.c (.ptr 1 0),.c (.ptr 2 0)] [.box 3 ([.int (x)]),.box 46 ([.fz .str (ws)]),.box 4 ([.bool (.atom (ok))])] ⟨[],[],some ([.box 3 ([.int ((tk ws x))]),.box 46 ([.fz .str (((ws.drop 1)))]),.box 4 ([.bool (.atom (((cg ws ok))))])]),false⟩:=by
 refine kQ eY (uw x ws ok) Tryd.func45 (by decide) (by kernel_rfl) ?_
 rw [xS]
 (repeat' (first | with_reducible apply lu | with_reducible refine lx ?_ | intro))
 all_goals (first | exact lD | (simp only [List.length_cons,List.length_nil] at *; omega) | (rcases ws with _ | ⟨w0,ws⟩ <;> simp_all [tk,cg] <;> omega))
theorem yi (k:Int) (a:Int) (b:Int) (c0:Int) (c1:Int) (c2:Int) (c3:Int) (c4:Int) (c5:Int) (tx:Str) (ws:List Str) (ok:Bool) (r0:Int) (r1:Int) (r2:Int) (r3:Int) (r4:Int) (r5:Int) (r6:Int) (r7:Int) (r8:Int) (r9:Str) (r10:List Str) (r11:Bool):zA aX mc (xo k a b c0 c1 c2 c3 c4 c5 tx ws ok) Tryd.f45 [.c (.xx .pl [(0,1)]),.c (.ptr 1 0),.c (.ptr 2 0)] [.box 26 ([.int (k),.int (a),.int (b),.int (c0),.int (c1),.int (c2),.int (c3),.int (c4),.int (c5),.em true,.str (tx)]),.box 46 ([.fz .str (ws)]),.box 4 ([.bool (.atom (ok))])] [] [.box 26 ([.int (r0),.int (r1),.int (r2),.int (r3),.int (r4),.int (r5),.int (r6),.int (r7),.int (r8),.em true,.str (r9)]),.box 46 ([.fz .str (r10)]),.box 4 ([.bool (.atom (r11))])]=((fun (q2:Int)=>(fun (q1:Int)=>(fun (q0:Int)=>(q1<q0->q1<=q1/\q1<q0/\(q2=q1->k=r0/\a=r1/\b=r2/\c0=r3/\c1=r4/\c2=r5/\c3=r6/\c4=r7/\c5=r8/\tx=r9/\ws=r10/\false=r11)/\(¬q2=q1->q1<=q1/\q1<q2/\∀ (x:Str),(fun (q3:Int)=>ws[(0:Nat)]? = some x->x.b.length<=(140737488355328:Nat)->I64 (aH x)->(q1<=(1:Int)/\(1:Int)<=q2)/\I64 q3/\(q3<q0->False)/\(q0<=q3->k=r0/\aH x=r1/\b=r2/\c0=r3/\c1=r4/\c2=r5/\c3=r6/\c4=r7/\c5=r8/\tx=r9/\List.drop (1:Nat) ws=r10/\(ok && bS x)=r11)) (q1+(1:Int))))/\(q0<=q1->k=r0/\a=r1/\b=r2/\c0=r3/\c1=r4/\c2=r5/\c3=r6/\c4=r7/\c5=r8/\tx=r9/\ws=r10/\ok=r11)) (↑[((0:Nat),(1:Nat))].length:Int)) (0:Int)) (↑ws.length:Int)):=by kernel_rfl
theorem yV (k:Int) (a:Int) (b:Int) (c0:Int) (c1:Int) (c2:Int) (c3:Int) (c4:Int) (c5:Int) (tx:Str) (ws:List Str) (ok:Bool):Sat Tryd.prog (ai aX) 45 [.c (.xx .pl [(0,1)]),.c (.ptr 1 0),.c (.ptr 2 0)] [.box 26 ([.int (k),.int (a),.int (b),.int (c0),.int (c1),.int (c2),.int (c3),.int (c4),.int (c5),.em true,.str (tx)]),.box 46 ([.fz .str (ws)]),.box 4 ([.bool (.atom (ok))])] ⟨[],[],some ([.box 26 ([.int ((k)),.int ((tk ws a)),.int ((b)),.int ((c0)),.int ((c1)),.int ((c2)),.int ((c3)),.int ((c4)),.int ((c5)),.em true,.str ((tx))]),.box 46 ([.fz .str (((ws.drop 1)))]),.box 4 ([.bool (.atom (((cg ws ok))))])]),false⟩:=by
 refine kQ eY (xo k a b c0 c1 c2 c3 c4 c5 tx ws ok) Tryd.func45 (by decide) (by kernel_rfl) ?_
 rw [yi]
 (repeat' (first | with_reducible apply lu | with_reducible refine lx ?_ | intro))
 all_goals (first | exact lD | (simp only [List.length_cons,List.length_nil] at *; omega) | (rcases ws with _ | ⟨w0,ws⟩ <;> simp_all [tk,cg] <;> omega))
theorem za (k:Int) (a:Int) (b:Int) (c0:Int) (c1:Int) (c2:Int) (c3:Int) (c4:Int) (c5:Int) (tx:Str) (ws:List Str) (ok:Bool) (r0:Int) (r1:Int) (r2:Int) (r3:Int) (r4:Int) (r5:Int) (r6:Int) (r7:Int) (r8:Int) (r9:Str) (r10:List Str) (r11:Bool):zA aX mc (wy k a b c0 c1 c2 c3 c4 c5 tx ws ok) Tryd.f45 [.c (.xx .pl [(0,2)]),.c (.ptr 1 0),.c (.ptr 2 0)] [.box 26 ([.int (k),.int (a),.int (b),.int (c0),.int (c1),.int (c2),.int (c3),.int (c4),.int (c5),.em true,.str (tx)]),.box 46 ([.fz .str (ws)]),.box 4 ([.bool (.atom (ok))])] [] [.box 26 ([.int (r0),.int (r1),.int (r2),.int (r3),.int (r4),.int (r5),.int (r6),.int (r7),.int (r8),.em true,.str (r9)]),.box 46 ([.fz .str (r10)]),.box 4 ([.bool (.atom (r11))])]=((fun (q2:Int)=>(fun (q1:Int)=>(fun (q0:Int)=>(q1<q0->q1<=q1/\q1<q0/\(q2=q1->k=r0/\a=r1/\b=r2/\c0=r3/\c1=r4/\c2=r5/\c3=r6/\c4=r7/\c5=r8/\tx=r9/\ws=r10/\false=r11)/\(¬q2=q1->q1<=q1/\q1<q2/\∀ (x:Str),(fun (q3:Int)=>ws[(0:Nat)]? = some x->x.b.length<=(140737488355328:Nat)->I64 (aH x)->(q1<=(1:Int)/\(1:Int)<=q2)/\I64 q3/\(q3<q0->False)/\(q0<=q3->k=r0/\a=r1/\aH x=r2/\c0=r3/\c1=r4/\c2=r5/\c3=r6/\c4=r7/\c5=r8/\tx=r9/\List.drop (1:Nat) ws=r10/\(ok && bS x)=r11)) (q1+(1:Int))))/\(q0<=q1->k=r0/\a=r1/\b=r2/\c0=r3/\c1=r4/\c2=r5/\c3=r6/\c4=r7/\c5=r8/\tx=r9/\ws=r10/\ok=r11)) (↑[((0:Nat),(2:Nat))].length:Int)) (0:Int)) (↑ws.length:Int)):=by kernel_rfl
theorem yp (k:Int) (a:Int) (b:Int) (c0:Int) (c1:Int) (c2:Int) (c3:Int) (c4:Int) (c5:Int) (tx:Str) (ws:List Str) (ok:Bool):Sat Tryd.prog (ai aX) 45 [.c (.xx .pl [(0,2)]),.c (.ptr 1 0),.c (.ptr 2 0)] [.box 26 ([.int (k),.int (a),.int (b),.int (c0),.int (c1),.int (c2),.int (c3),.int (c4),.int (c5),.em true,.str (tx)]),.box 46 ([.fz .str (ws)]),.box 4 ([.bool (.atom (ok))])] ⟨[],[],some ([.box 26 ([.int ((k)),.int ((a)),.int ((tk ws b)),.int ((c0)),.int ((c1)),.int ((c2)),.int ((c3)),.int ((c4)),.int ((c5)),.em true,.str ((tx))]),.box 46 ([.fz .str (((ws.drop 1)))]),.box 4 ([.bool (.atom (((cg ws ok))))])]),false⟩:=by
 refine kQ eY (wy k a b c0 c1 c2 c3 c4 c5 tx ws ok) Tryd.func45 (by decide) (by kernel_rfl) ?_
 rw [za]
 (repeat' (first | with_reducible apply lu | with_reducible refine lx ?_ | intro))
 all_goals (first | exact lD | (simp only [List.length_cons,List.length_nil] at *; omega) | (rcases ws with _ | ⟨w0,ws⟩ <;> simp_all [tk,cg] <;> omega))
theorem zq (k:Int) (a:Int) (b:Int) (c0:Int) (c1:Int) (c2:Int) (c3:Int) (c4:Int) (c5:Int) (tx:Str) (ws:List Str) (ok:Bool) (r0:Int) (r1:Int) (r2:Int) (r3:Int) (r4:Int) (r5:Int) (r6:Int) (r7:Int) (r8:Int) (r9:Str) (r10:List Str) (r11:Bool):zA aX mc (vB k a b c0 c1 c2 c3 c4 c5 tx ws ok) Tryd.f45 [.c (.xx .pl [(0,3),(0,4),(0,5),(0,6),(0,7),(0,8)]),.c (.ptr 1 0),.c (.ptr 2 0)] [.box 26 ([.int (k),.int (a),.int (b),.int (c0),.int (c1),.int (c2),.int (c3),.int (c4),.int (c5),.em true,.str (tx)]),.box 46 ([.fz .str (ws)]),.box 4 ([.bool (.atom (ok))])] [] [.box 26 ([.int (r0),.int (r1),.int (r2),.int (r3),.int (r4),.int (r5),.int (r6),.int (r7),.int (r8),.em true,.str (r9)]),.box 46 ([.fz .str (r10)]),.box 4 ([.bool (.atom (r11))])]=((fun (q17:Prop)=>(fun (jt:Nat)=>(fun (q15:Int)=>(fun (q14:Prop)=>(fun (q13:Prop)=>(fun (q12:Prop)=>(fun (q11:Prop)=>(fun (q10:Prop)=>(fun (q9:Prop)=>(fun (q8:Prop)=>(fun (q7:Nat)=>(fun (q6:Prop)=>(fun (q5:Nat)=>(fun (q4:Int)=>(fun (q3:Int)=>(fun (q2:Int)=>(fun (q1:List (den Sh.str))=>(fun (q0:Int)=>(q3<q0->q3<=q3/\q3<q0/\(q15=q3->q9/\q10/\q11/\c0=r3/\c1=r4/\q17/\q14/\q12/\q8/\q6/\ws=r10/\q13)/\(¬q15=q3->q3<=q3/\q3<q15/\∀ (x:Str),(fun (q26:Prop)=>(fun (q25:Int)=>(fun (q24:Int)=>(fun (q23:Bool)=>(fun (q22:Int)=>(fun (q21:List (den Sh.str))=>(fun (q20:List (den Sh.str))=>(fun (q19:Prop)=>(fun (q18:Int)=>ws[q7]? = some x->x.b.length<=jt->I64 (aH x)->(q26/\q4<=q15)/\I64 q22/\(q22<q0->q3<=q22/\q22<q0/\((↑q21.length:Int)=q3->q9/\q10/\q11/\q19/\c1=r4/\q17/\q14/\q12/\q8/\q6/\q21=r10/\q13)/\(¬(↑q21.length:Int)=q3->q3<=q3/\q3<(↑q21.length:Int)/\∀ (x:Str),(fun (q32:Int)=>(fun (q31:Int)=>(fun (q30:Bool)=>(fun (q29:Int)=>(fun (q28:Int)=>(fun (q27:Prop)=>q21[q7]? = some x->x.b.length<=jt->I64 (aH x)->(q26/\q4<=(↑q21.length:Int))/\I64 q32/\(q32<q0->q3<=q32/\q32<q0/\(q28=q3->q9/\q10/\q11/\q19/\q27/\q17/\q14/\q12/\q8/\q6/\List.drop q5 q21=r10/\q13)/\(¬q28=q3->q3<=q3/\q3<q28/\∀ (x:Str),(fun (q34:Bool)=>(fun (q33:Prop)=>(List.drop q5 q21)[q7]? = some x->x.b.length<=jt->I64 (aH x)->(q26/\q4<=q28)/\I64 q2/\(q2<q0->q3<=q2/\q2<q0/\(q25=q3->q9/\q10/\q11/\q19/\q27/\q33/\q14/\q12/\q8/\q6/\q1=r10/\q13)/\(¬q25=q3->q3<=q3/\q3<q25/\∀ (x:Str),(fun (q35:Prop)=>q1[q7]? = some x->x.b.length<=jt->I64 (aH x)->(q26/\q4<=q25)/\I64 q24/\(q24<q0->q3<=q24/\q24<q0/\(q31=q3->q9/\q10/\q11/\q19/\q27/\q33/\q35/\q12/\q8/\q6/\q20=r10/\q13)/\(¬q31=q3->q3<=q3/\q3<q31/\∀ (x_1:Str),q20[q7]? = some x_1->x_1.b.length<=jt->I64 (aH x_1)->(q26/\q4<=q31)/\I64 q18/\(q18<q0->q3<=q18/\q18<q0/\(q29=q3->q9/\q10/\q11/\q19/\q27/\q33/\q35/\aH x_1=r7/\q8/\q6/\List.drop q5 q20=r10/\q13)/\(¬q29=q3->q3<=q3/\q3<q29/\∀ (x_2:Str),(List.drop q5 q20)[q7]? = some x_2->x_2.b.length<=jt->I64 (aH x_2)->(q26/\q4<=q29)/\I64 (q18+q4)/\(q18+q4<q0->False)/\(q0<=q18+q4->q9/\q10/\q11/\q19/\q27/\q33/\q35/\aH x_1=r7/\aH x_2=r8/\q6/\List.drop q5 (List.drop q5 q20)=r10/\(q34 && bS x && bS x_1 && bS x_2)=r11)))/\(q0<=q18->q9/\q10/\q11/\q19/\q27/\q33/\q35/\aH x_1=r7/\q8/\q6/\List.drop q5 q20=r10/\(q34 && bS x && bS x_1)=r11)))/\(q0<=q24->q9/\q10/\q11/\q19/\q27/\q33/\q35/\q12/\q8/\q6/\q20=r10/\(q34 && bS x)=r11)) (aH x=r6)))/\(q0<=q2->q9/\q10/\q11/\q19/\q27/\q33/\q14/\q12/\q8/\q6/\q1=r10/\q34=r11)) (aH x=r5)) (q30 && bS x)))/\(q0<=q32->q9/\q10/\q11/\q19/\q27/\q17/\q14/\q12/\q8/\q6/\List.drop q5 q21=r10/\q30=r11)) (aH x=r4)) (↑(List.drop q5 q21).length:Int)) (↑(List.drop q5 q20).length:Int)) (q23 && bS x)) (↑q20.length:Int)) (q22+q4)))/\(q0<=q22->q9/\q10/\q11/\q19/\c1=r4/\q17/\q14/\q12/\q8/\q6/\q21=r10/\q23=r11)) (q24+q4)) (aH x=r3)) (List.drop q5 q1)) (List.drop q5 ws)) (q3+q4)) (ok && bS x)) (q2+q4)) (↑q1.length:Int)) (q3<=q4)))/\(q0<=q3->q9/\q10/\q11/\c0=r3/\c1=r4/\q17/\q14/\q12/\q8/\q6/\ws=r10/\ok=r11)) (↑[(q7,(3:Nat)),(q7,(4:Nat)),(q7,(5:Nat)),(q7,(6:Nat)),(q7,(7:Nat)),(q7,(8:Nat))].length:Int)) (List.drop q5 (List.drop q5 (List.drop q5 ws)))) (q3+q4+q4+q4)) (0:Int)) (1:Int)) (1:Nat)) (tx=r9)) (0:Nat)) (c5=r8)) (k=r0)) (a=r1)) (b=r2)) (c4=r7)) (false=r11)) (c3=r6)) (↑ws.length:Int)) (140737488355328:Nat)) (c2=r5)):=by kernel_rfl
theorem zo (k:Int) (a:Int) (b:Int) (c0:Int) (c1:Int) (c2:Int) (c3:Int) (c4:Int) (c5:Int) (tx:Str) (ws:List Str) (ok:Bool):Sat Tryd.prog (ai aX) 45 [.c (.xx .pl [(0,3),(0,4),(0,5),(0,6),(0,7),(0,8)]),.c (.ptr 1 0),.c (.ptr 2 0)] [.box 26 ([.int (k),.int (a),.int (b),.int (c0),.int (c1),.int (c2),.int (c3),.int (c4),.int (c5),.em true,.str (tx)]),.box 46 ([.fz .str (ws)]),.box 4 ([.bool (.atom (ok))])] ⟨[],[],some ([.box 26 ([.int ((k)),.int ((a)),.int ((b)),.int ((tk ws c0)),.int ((tk (ws.drop 1) c1)),.int ((tk ((ws.drop 1).drop 1) c2)),.int ((tk (((ws.drop 1).drop 1).drop 1) c3)),.int ((tk ((((ws.drop 1).drop 1).drop 1).drop 1) c4)),.int ((tk (((((ws.drop 1).drop 1).drop 1).drop 1).drop 1) c5)),.em true,.str ((tx))]),.box 46 ([.fz .str ((((((((ws.drop 1).drop 1).drop 1).drop 1).drop 1).drop 1)))]),.box 4 ([.bool (.atom (((cg (((((ws.drop 1).drop 1).drop 1).drop 1).drop 1) (cg ((((ws.drop 1).drop 1).drop 1).drop 1) (cg (((ws.drop 1).drop 1).drop 1) (cg ((ws.drop 1).drop 1) (cg (ws.drop 1) (cg ws ok)))))))))])]),false⟩:=by
 refine kQ eY (vB k a b c0 c1 c2 c3 c4 c5 tx ws ok) Tryd.func45 (by decide) (by kernel_rfl) ?_
 rw [zq]
 (repeat' (first | with_reducible apply lu | with_reducible refine lx ?_ | intro))
 all_goals (first | exact lD | (simp only [List.length_cons,List.length_nil] at *; omega) | (rcases ws with _ | ⟨w0,_ | ⟨w4,_ | ⟨w5,_ | ⟨w6,_ | ⟨w7,_ | ⟨w8,ws⟩⟩⟩⟩⟩⟩ <;> simp_all [tk,cg] <;> omega))
def ui:cC:=(eG 45 (dY (aC (kC (Di [(0,3),(0,4),(0,5),(0,6),(0,7),(0,8)])) (aC (kC (ff 1 0)) (aC (kC (ff 2 0)) bP))) (bE (dL 26 (aB cI (aB cI (aB cI (aB cI (aB cI (aB cI (aB cI (aB cI (aB cI (aB (Cl true) (aB cS dK)))))))))))) (bE (dL 46 (aB (cL .str) dK)) (bE (dL 4 (aB cB dK)) bO))) fun (_,_,_,_) ((k,a,b,c0,c1,c2,c3,c4,c5,_,tx,_),(ws,_),(ok,_),_)=>⟨[],[],some ([.box 26 ([.int ((k)),.int ((a)),.int ((b)),.int ((tk ws c0)),.int ((tk (ws.drop 1) c1)),.int ((tk ((ws.drop 1).drop 1) c2)),.int ((tk (((ws.drop 1).drop 1).drop 1) c3)),.int ((tk ((((ws.drop 1).drop 1).drop 1).drop 1) c4)),.int ((tk (((((ws.drop 1).drop 1).drop 1).drop 1).drop 1) c5)),.em true,.str ((tx))]),.box 46 ([.fz .str ((((((((ws.drop 1).drop 1).drop 1).drop 1).drop 1).drop 1)))]),.box 4 ([.bool (.atom (((cg (((((ws.drop 1).drop 1).drop 1).drop 1).drop 1) (cg ((((ws.drop 1).drop 1).drop 1).drop 1) (cg (((ws.drop 1).drop 1).drop 1) (cg ((ws.drop 1).drop 1) (cg (ws.drop 1) (cg ws ok)))))))))])]),false⟩) (eG 45 (dY (aC (kC (Di [(0,2)])) (aC (kC (ff 1 0)) (aC (kC (ff 2 0)) bP))) (bE (dL 26 (aB cI (aB cI (aB cI (aB cI (aB cI (aB cI (aB cI (aB cI (aB cI (aB (Cl true) (aB cS dK)))))))))))) (bE (dL 46 (aB (cL .str) dK)) (bE (dL 4 (aB cB dK)) bO))) fun (_,_,_,_) ((k,a,b,c0,c1,c2,c3,c4,c5,_,tx,_),(ws,_),(ok,_),_)=>⟨[],[],some ([.box 26 ([.int ((k)),.int ((a)),.int ((tk ws b)),.int ((c0)),.int ((c1)),.int ((c2)),.int ((c3)),.int ((c4)),.int ((c5)),.em true,.str ((tx))]),.box 46 ([.fz .str (((ws.drop 1)))]),.box 4 ([.bool (.atom (((cg ws ok))))])]),false⟩) (eG 45 (dY (aC (kC (Di [(0,1)])) (aC (kC (ff 1 0)) (aC (kC (ff 2 0)) bP))) (bE (dL 26 (aB cI (aB cI (aB cI (aB cI (aB cI (aB cI (aB cI (aB cI (aB cI (aB (Cl true) (aB cS dK)))))))))))) (bE (dL 46 (aB (cL .str) dK)) (bE (dL 4 (aB cB dK)) bO))) fun (_,_,_,_) ((k,a,b,c0,c1,c2,c3,c4,c5,_,tx,_),(ws,_),(ok,_),_)=>⟨[],[],some ([.box 26 ([.int ((k)),.int ((tk ws a)),.int ((b)),.int ((c0)),.int ((c1)),.int ((c2)),.int ((c3)),.int ((c4)),.int ((c5)),.em true,.str ((tx))]),.box 46 ([.fz .str (((ws.drop 1)))]),.box 4 ([.bool (.atom (((cg ws ok))))])]),false⟩) (eG 45 (dY (aC (kC (Di [(0,0)])) (aC (kC (ff 1 0)) (aC (kC (ff 2 0)) bP))) (bE (dL 3 (aB cI dK)) (bE (dL 46 (aB (cL .str) dK)) (bE (dL 4 (aB cB dK)) bO))) fun (_,_,_,_) ((x,_),(ws,_),(ok,_),_)=>⟨[],[],some ([.box 3 ([.int ((tk ws x))]),.box 46 ([.fz .str (((ws.drop 1)))]),.box 4 ([.bool (.atom (((cg ws ok))))])]),false⟩) mc))))
theorem oC:aW Tryd.prog (ai aX) ui:=(aK (aJ (ag (aL mN) (ag (aL bH) (ag (aL bH) ay))) (aG (bd (ab bn (ab bn (ab bn (ab bn (ab bn (ab bn (ab bn (ab bn (ab bn (ab mC (ab ea bc)))))))))))) (aG (bd (ab dG bc)) (aG (bd (ab po bc)) az))) fun (_,_,_,_) ((k,a,b,c0,c1,c2,c3,c4,c5,_,tx,_),(ws,_),(ok,_),_) _=>zo k a b c0 c1 c2 c3 c4 c5 tx ws ok ) (aK (aJ (ag (aL mN) (ag (aL bH) (ag (aL bH) ay))) (aG (bd (ab bn (ab bn (ab bn (ab bn (ab bn (ab bn (ab bn (ab bn (ab bn (ab mC (ab ea bc)))))))))))) (aG (bd (ab dG bc)) (aG (bd (ab po bc)) az))) fun (_,_,_,_) ((k,a,b,c0,c1,c2,c3,c4,c5,_,tx,_),(ws,_),(ok,_),_) _=>yp k a b c0 c1 c2 c3 c4 c5 tx ws ok ) (aK (aJ (ag (aL mN) (ag (aL bH) (ag (aL bH) ay))) (aG (bd (ab bn (ab bn (ab bn (ab bn (ab bn (ab bn (ab bn (ab bn (ab bn (ab mC (ab ea bc)))))))))))) (aG (bd (ab dG bc)) (aG (bd (ab po bc)) az))) fun (_,_,_,_) ((k,a,b,c0,c1,c2,c3,c4,c5,_,tx,_),(ws,_),(ok,_),_) _=>yV k a b c0 c1 c2 c3 c4 c5 tx ws ok ) (aK (aJ (ag (aL mN) (ag (aL bH) (ag (aL bH) ay))) (aG (bd (ab bn bc)) (aG (bd (ab dG bc)) (aG (bd (ab po bc)) az))) fun (_,_,_,_) ((x,_),(ws,_),(ok,_),_) _=>yJ x ws ok ) eY))))
abbrev cM:Command:=⟨0,0,0,0,0,0,[],⟨[]⟩⟩
abbrev iQ:Event:=⟨0,0,0,cM⟩
abbrev pk (ws:List Str):Int:=(i_ (ws.getD 0 (aY .str))).getD 0
def pR (o:Bool) (l:List Str):Bool:=o && l.all bS
def bk (ws:List Str):Event:=
 if ca (pk ws)=true then ⟨pk ws,tk (ws.drop 1) 0,tk ((ws.drop 1).drop 1) 0,cM⟩
 else if ¬ pk ws=6 then ⟨pk ws,tk (ws.drop 1) 0,0,cM⟩
 else if (((((((((ws.drop 1).drop 1).drop 1).drop 1).drop 1).drop 1).drop 1).drop 1).length:Int)=0\/17<(((((((((ws.drop 1).drop 1).drop 1).drop 1).drop 1).drop 1).drop 1).drop 1).length:Int) then iQ
 else ⟨pk ws,tk (ws.drop 1) 0,0,⟨tk ((ws.drop 1).drop 1) 0,tk (((ws.drop 1).drop 1).drop 1) 0,tk ((((ws.drop 1).drop 1).drop 1).drop 1) 0,tk (((((ws.drop 1).drop 1).drop 1).drop 1).drop 1) 0,tk ((((((ws.drop 1).drop 1).drop 1).drop 1).drop 1).drop 1) 0,tk (((((((ws.drop 1).drop 1).drop 1).drop 1).drop 1).drop 1).drop 1) 0,(((((((((ws.drop 1).drop 1).drop 1).drop 1).drop 1).drop 1).drop 1).drop 1).drop 1).map aH,aM (((((((((ws.drop 1).drop 1).drop 1).drop 1).drop 1).drop 1).drop 1).drop 1).getD 0 ⟨[]⟩)⟩⟩
abbrev lg (ws:List Str):Bool:=cg (((((((ws.drop 1).drop 1).drop 1).drop 1).drop 1).drop 1).drop 1) (cg ((((((ws.drop 1).drop 1).drop 1).drop 1).drop 1).drop 1) (cg (((((ws.drop 1).drop 1).drop 1).drop 1).drop 1) (cg ((((ws.drop 1).drop 1).drop 1).drop 1) (cg (((ws.drop 1).drop 1).drop 1) (cg ((ws.drop 1).drop 1) (cg (ws.drop 1) true))))))
def bF (ws:List Str):Bool:=
 if ca (pk ws)=true then cg ((ws.drop 1).drop 1) (cg (ws.drop 1) true)
 else if ¬ pk ws=6 then cg (ws.drop 1) true
 else if (((((((((ws.drop 1).drop 1).drop 1).drop 1).drop 1).drop 1).drop 1).drop 1).length:Int)=0\/17<(((((((((ws.drop 1).drop 1).drop 1).drop 1).drop 1).drop 1).drop 1).drop 1).length:Int) then false
 else pR (lg ws) (((((((((ws.drop 1).drop 1).drop 1).drop 1).drop 1).drop 1).drop 1).drop 1).drop 1) && aS (((((((((ws.drop 1).drop 1).drop 1).drop 1).drop 1).drop 1).drop 1).drop 1).getD 0 ⟨[]⟩)
theorem uf {ws:List Str} (h:ws≠[]):(0:Int)<ws.length:=by
 cases ws with
 | nil=>exact absurd rfl h
 | cons a r=>rw [List.length_cons]; omega
theorem xJ {ws:List Str} (h:ws≠[]):(1:Int)<=ws.length:=uf h
theorem EK {p:Prop} {k:Int} (h:ca k=true) (h6:k=6):p:=by subst h6; exact absurd h (by decide)
section
variable {ws:List Str} {s:Nat} {x:Str}
theorem Du (h:ca (pk ws)=true):bk ws=⟨pk ws,tk (ws.drop 1) 0,tk ((ws.drop 1).drop 1) 0,cM⟩/\bF ws=cg ((ws.drop 1).drop 1) (cg (ws.drop 1) true):=by
 rw [bk,if_pos h,bF,if_pos h]; exact ⟨rfl,rfl⟩
theorem Dz (h:ca (pk ws)=false) (h6:¬ pk ws=6):bk ws=⟨pk ws,tk (ws.drop 1) 0,0,cM⟩/\bF ws=cg (ws.drop 1) true:=by
 rw [bk,if_neg (by rw [h]; decide),if_pos h6,bF,if_neg (by rw [h]; decide),if_pos h6]; exact ⟨rfl,rfl⟩
theorem CY (h6:pk ws=6) (h:(((((((((ws.drop 1).drop 1).drop 1).drop 1).drop 1).drop 1).drop 1).drop 1).length:Int)=0\/17<(((((((((ws.drop 1).drop 1).drop 1).drop 1).drop 1).drop 1).drop 1).drop 1).length:Int)):bk ws=iQ/\bF ws=false:=by
 have hs:¬ ca (pk ws)=true:=by rw [h6]; decide
 rw [bk,if_neg hs,if_neg (fun hn=>hn h6),if_pos h,bF,if_neg hs,if_neg (fun hn=>hn h6),if_pos h]; exact ⟨rfl,rfl⟩
theorem DH (h6:pk ws=6) (h0:¬ (((((((((ws.drop 1).drop 1).drop 1).drop 1).drop 1).drop 1).drop 1).drop 1).length:Int)=0) (h17:(((((((((ws.drop 1).drop 1).drop 1).drop 1).drop 1).drop 1).drop 1).drop 1).length:Int)<=17) (hs:((((((((((ws.drop 1).drop 1).drop 1).drop 1).drop 1).drop 1).drop 1).drop 1).drop 1).length:Int)<=s):bk ws=⟨pk ws,tk (ws.drop 1) 0,0,⟨tk ((ws.drop 1).drop 1) 0,tk (((ws.drop 1).drop 1).drop 1) 0,tk ((((ws.drop 1).drop 1).drop 1).drop 1) 0,tk (((((ws.drop 1).drop 1).drop 1).drop 1).drop 1) 0,tk ((((((ws.drop 1).drop 1).drop 1).drop 1).drop 1).drop 1) 0,tk (((((((ws.drop 1).drop 1).drop 1).drop 1).drop 1).drop 1).drop 1) 0,((((((((((ws.drop 1).drop 1).drop 1).drop 1).drop 1).drop 1).drop 1).drop 1).drop 1).take s).map aH,aM (((((((((ws.drop 1).drop 1).drop 1).drop 1).drop 1).drop 1).drop 1).drop 1).getD 0 ⟨[]⟩)⟩⟩/\bF ws=(pR (lg ws) ((((((((((ws.drop 1).drop 1).drop 1).drop 1).drop 1).drop 1).drop 1).drop 1).drop 1).take s) && aS (((((((((ws.drop 1).drop 1).drop 1).drop 1).drop 1).drop 1).drop 1).drop 1).getD 0 ⟨[]⟩)):=by
 have hs':¬ ca (pk ws)=true:=by rw [h6]; decide
 have hn:¬ ((((((((((ws.drop 1).drop 1).drop 1).drop 1).drop 1).drop 1).drop 1).drop 1).length:Int)=0\/17<(((((((((ws.drop 1).drop 1).drop 1).drop 1).drop 1).drop 1).drop 1).drop 1).length:Int)):=by omega
 rw [List.take_of_length_le (show (((((((((ws.drop 1).drop 1).drop 1).drop 1).drop 1).drop 1).drop 1).drop 1).drop 1).length<=s by omega),bk,if_neg hs',if_neg (fun hn=>hn h6),if_neg hn,bF,if_neg hs',if_neg (fun hn=>hn h6),if_neg hn]; exact ⟨rfl,rfl⟩
theorem gx {l:List Str} (h:l[0]? = some x):x=l.getD 0 ⟨[]⟩:=by rw [List.getD_eq_getElem?_getD,h]; rfl
theorem DG {o:Bool} {l:List Str}:o=pR o (l.take 0):=by simp [pR]
theorem zG {l:List Str} (h:(s:Int)<l.length):∃ y,l.drop s=y :: l.drop (s+1)/\l.take (s+1)=l.take s++[y]:=by
 have hs:s<l.length:=by omega
 exact ⟨l[s],List.drop_eq_getElem_cons hs,by rw [List.take_add_one,List.getElem?_eq_getElem hs]; rfl⟩
theorem DY {o:Bool} {l:List Str} (h:(s:Int)<l.length):cg (l.drop s) (pR o (l.take s))=pR o (l.take (s+1)):=by
 obtain ⟨y,h1,h2⟩:=zG h
 rw [h1,h2]; simp [cg,pR,Bool.and_assoc]
theorem Fk {l:List Str} (h:(s:Int)<l.length):(l.take s).map aH++[tk (l.drop s) 0]=(l.take (s+1)).map aH:=by
 obtain ⟨y,h1,h2⟩:=zG h
 rw [h1,h2]; simp [tk]
theorem Fe {l:List Str}:(l.drop s).drop 1=l.drop (s+1):=by rw [List.drop_drop]
theorem As {l:List Str} {y:Int} (h17:(l.length:Int)<=17):(((l.drop 1).take s).map aH).length*1<=17/\((((l.drop 1).take s).map aH).length+[y].length)*8<=140737488355328:=by
 rw [List.length_map,List.length_take,List.length_drop,List.length_singleton]; omega
theorem DL {l:List Str} (h17:(l.length:Int)<=17) (h:(s:Int)<(l.drop 1).length):I64 ((s:Int)+1):=by
 rw [List.length_drop] at h; constructor <;> omega
end
def wL (ws:List Str):List (Nat × LI):=[(18,{ σ:=Nat,F:=fun k=>([(2,one (.ptr 1 0)),(4,one (.ptr 2 0)),(5,one (.ptr 3 0)),(6,one (.fn 45 [] [(0,0),(3,0)])),(7,one (.ptr 2 3)),(9,one (.bool (.atom (aS (((((((((ws.drop 1).drop 1).drop 1).drop 1).drop 1).drop 1).drop 1).drop 1).getD 0 ⟨[]⟩))))),(81,one (.int (((((((((ws.drop 1).drop 1).drop 1).drop 1).drop 1).drop 1).drop 1).drop 1).drop 1).length)),(82,one (.int k))],[.box 46 ([.fz .str (((((((((((ws.drop 1).drop 1).drop 1).drop 1).drop 1).drop 1).drop 1).drop 1).drop 1).drop k))]),.box 26 ([.int ((0)),.int ((0)),.int ((0)),.int ((0)),.int ((0)),.int ((0)),.int ((0)),.int ((0)),.int ((0)),.em true,.str ((⟨[]⟩))]),.box 26 ([.int ((pk ws)),.int ((tk (ws.drop 1) 0)),.int ((0)),.int ((tk ((ws.drop 1).drop 1) 0)),.int ((tk (((ws.drop 1).drop 1).drop 1) 0)),.int ((tk ((((ws.drop 1).drop 1).drop 1).drop 1) 0)),.int ((tk (((((ws.drop 1).drop 1).drop 1).drop 1).drop 1) 0)),.int ((tk ((((((ws.drop 1).drop 1).drop 1).drop 1).drop 1).drop 1) 0)),.int ((tk (((((((ws.drop 1).drop 1).drop 1).drop 1).drop 1).drop 1).drop 1) 0)),.own 4,.str ((aM (((((((((ws.drop 1).drop 1).drop 1).drop 1).drop 1).drop 1).drop 1).drop 1).getD 0 ⟨[]⟩)))]),.box 4 ([.bool (.atom ((pR (lg ws) ((((((((((ws.drop 1).drop 1).drop 1).drop 1).drop 1).drop 1).drop 1).drop 1).drop 1).take k))))]),.row 3 .int ((((((((((((ws.drop 1).drop 1).drop 1).drop 1).drop 1).drop 1).drop 1).drop 1).drop 1).take k).map aH))]),J:=fun k=>k<=(((((((((ws.drop 1).drop 1).drop 1).drop 1).drop 1).drop 1).drop 1).drop 1).drop 1).length,μ:=fun k=>(((((((((ws.drop 1).drop 1).drop 1).drop 1).drop 1).drop 1).drop 1).drop 1).drop 1).length - k })]
theorem ym (ws:List Str) (r0:Event) (r1:Bool):lF aX ui (wL ws) Tryd.f32 [.c (.fz .str (ws))] [] [.agg (cellsOf (.nm .event) r0),.c (.bool (.atom (r1)))]=((fun (q9:Bool)=>(fun (q8:Nat)=>(fun (q7:Int)=>(fun (q6:Str)=>(fun (q5:Command)=>(fun (q4:Nat)=>(fun (q3:Option Int)=>(fun (q2:Int)=>(fun (q1:Nat)=>(fun (q0:List Str)=>ws.length*(16:Nat)<=q8->q2<=q2/\q2<(↑ws.length:Int)/\((ws.getD q4 (aY Sh.str)).b.length<=q8->q2<=q7/\q7<=(↑ws.length:Int)/\(ca (q3.getD q2)=true->(¬q3.getD q2=(6:Int)->q3.getD q2=r0.kind/\tk (List.drop q1 ws) q2=r0.a/\tk (List.drop q1 (List.drop q1 ws)) q2=r0.b/\q2=q5.kind/\q2=q5.client/\q2=q5.seq/\q2=q5.set/\q2=q5.id/\q2=q5.n/\q5.chunks=[]/\q6=q5.text/\cg (List.drop q1 (List.drop q1 ws)) (cg (List.drop q1 ws) true)=r1)/\(q3.getD q2=(6:Int)->((↑(List.drop q1 (List.drop q1 (List.drop q1 (List.drop q1 (List.drop q1 (List.drop q1 (List.drop q1 (List.drop q1 (List.drop q1 ws))))))))).length:Int)=q2\/(17:Int)<(↑(List.drop q1 (List.drop q1 (List.drop q1 (List.drop q1 (List.drop q1 (List.drop q1 (List.drop q1 (List.drop q1 (List.drop q1 ws))))))))).length:Int)->q2=r0.kind/\q2=r0.a/\q2=r0.b/\q2=q5.kind/\q2=q5.client/\q2=q5.seq/\q2=q5.set/\q2=q5.id/\q2=q5.n/\q5.chunks=[]/\q6=q5.text/\false=r1)/\(¬(↑(List.drop q1 (List.drop q1 (List.drop q1 (List.drop q1 (List.drop q1 (List.drop q1 (List.drop q1 (List.drop q1 (List.drop q1 ws))))))))).length:Int)=q2/\(↑(List.drop q1 (List.drop q1 (List.drop q1 (List.drop q1 (List.drop q1 (List.drop q1 (List.drop q1 (List.drop q1 (List.drop q1 ws))))))))).length:Int)<=(17:Int)->q2<=q2/\q2<(↑(List.drop q1 (List.drop q1 (List.drop q1 (List.drop q1 (List.drop q1 (List.drop q1 (List.drop q1 (List.drop q1 (List.drop q1 ws))))))))).length:Int)/\∀ (x:Str),(fun (jt:Int)=>(fun (q15:Str)=>(fun (q14:Prop)=>(fun (q13:List Str)=>(fun (q12:List Str)=>(fun (q11:List (den Sh.str))=>(fun (q10:List Str)=>(List.drop q1 (List.drop q1 (List.drop q1 (List.drop q1 (List.drop q1 (List.drop q1 q11))))))[q4]? = some x->x.b.length<=q8->(aM x).b.length<=q8->(q2<=q7/\q7<=(↑(List.drop q1 (List.drop q1 (List.drop q1 (List.drop q1 (List.drop q1 (List.drop q1 q11)))))).length:Int))/\∃ (s0:Nat),(fun (q21:Int)=>(fun (q20:Int)=>(fun (q19:Nat)=>(fun (q18:List Str)=>(fun (q17:List (den Sh.str))=>(aS x=aS q15/\(↑(List.drop q1 (List.drop q1 (List.drop q1 (List.drop q1 q17)))).length:Int)=(↑q19:Int)/\q2=(↑s0:Int)/\List.drop q1 (List.drop q1 (List.drop q1 (List.drop q1 q17)))=List.drop s0 q12/\q14/\q14/\q14/\q14/\q14/\q14/\q14/\q14/\q14/\q6=q6/\q3.getD q2=pk ws/\tk (List.drop q1 ws) q2=jt/\tk (List.drop q1 (List.drop q1 ws)) q2=q2/\tk q11 q2=tk q13 q2/\tk (List.drop q1 q11) q2=q20/\tk (List.drop q1 (List.drop q1 q11)) q2=tk q10 q2/\tk (List.drop q1 (List.drop q1 (List.drop q1 q11))) q2=q21/\tk (List.drop q1 q17) q2=tk q18 q2/\tk (List.drop q1 (List.drop q1 q17)) q2=tk (List.drop q1 q18) q2/\aM x=aM q15/\cg (List.drop q1 (List.drop q1 q17)) (cg (List.drop q1 q17) (cg (List.drop q1 (List.drop q1 (List.drop q1 q11))) (cg (List.drop q1 (List.drop q1 q11)) (cg (List.drop q1 q11) (cg q11 (cg (List.drop q1 (List.drop q1 ws)) (cg (List.drop q1 ws) true)))))))=pR q9 (List.take s0 q12)/\List.map aH (List.take s0 q12)=[])/\s0<=q19/\∀ (s:Nat),(fun (q22:Int)=>s<=q19->((↑s:Int)<(↑q19:Int)->((List.map aH (List.take s q12)).length+[tk (List.drop s q12) q2].length)*(8:Nat)<=q8/\I64 ((↑s:Int)+q7)/\∃ (s':Nat),(aS q15=aS q15/\(↑q19:Int)=(↑q19:Int)/\(↑s:Int)+q7=(↑s':Int)/\List.drop q1 (List.drop s q12)=List.drop s' q12/\q14/\q14/\q14/\q14/\q14/\q14/\q14/\q14/\q14/\q6=q6/\pk ws=pk ws/\jt=jt/\q14/\tk q13 q2=tk q13 q2/\q20=q20/\tk q10 q2=tk q10 q2/\q21=q21/\tk q18 q2=tk q18 q2/\q22=q22/\aM q15=aM q15/\cg (List.drop s q12) (pR q9 (List.take s q12))=pR q9 (List.take s' q12)/\List.map aH (List.take s q12)++[tk (List.drop s q12) q2]=List.map aH (List.take s' q12))/\s' <= q19/\q19 - s' < q19 - s)/\((↑q19:Int)<=(↑s:Int)->pk ws=r0.kind/\jt=r0.a/\q2=r0.b/\tk q13 q2=q5.kind/\q20=q5.client/\tk q10 q2=q5.seq/\q21=q5.set/\tk q18 q2=q5.id/\q22=q5.n/\List.map aH (List.take s q12)=q5.chunks/\aM q15=q5.text/\(pR q9 (List.take s q12) && aS q15)=r1)) (tk (List.drop q1 q18) q2)) (List.drop q1 (List.drop q1 (List.drop q1 q11)))) (List.drop q1 (List.drop q1 q10))) q12.length) (tk (List.drop q1 q13) q2)) (tk (List.drop q1 q10) q2)) (List.drop q1 (List.drop q1 q13))) (List.drop q1 (List.drop q1 (List.drop q1 ws)))) (List.drop q1 q0)) (List.drop q1 (List.drop q1 ws))) (q2=q2)) (q0.getD q4 q6)) (tk (List.drop q1 ws) q2))))/\(ca (q3.getD q2)=false->(¬q3.getD q2=(6:Int)->q3.getD q2=r0.kind/\tk (List.drop q1 ws) q2=r0.a/\q2=r0.b/\q2=q5.kind/\q2=q5.client/\q2=q5.seq/\q2=q5.set/\q2=q5.id/\q2=q5.n/\q5.chunks=[]/\q6=q5.text/\cg (List.drop q1 ws) true=r1)/\(q3.getD q2=(6:Int)->((↑(List.drop q1 (List.drop q1 (List.drop q1 (List.drop q1 (List.drop q1 (List.drop q1 (List.drop q1 (List.drop q1 ws)))))))).length:Int)=q2\/(17:Int)<(↑(List.drop q1 (List.drop q1 (List.drop q1 (List.drop q1 (List.drop q1 (List.drop q1 (List.drop q1 (List.drop q1 ws)))))))).length:Int)->q2=r0.kind/\q2=r0.a/\q2=r0.b/\q2=q5.kind/\q2=q5.client/\q2=q5.seq/\q2=q5.set/\q2=q5.id/\q2=q5.n/\q5.chunks=[]/\q6=q5.text/\false=r1)/\(¬(↑(List.drop q1 (List.drop q1 (List.drop q1 (List.drop q1 (List.drop q1 (List.drop q1 (List.drop q1 (List.drop q1 ws)))))))).length:Int)=q2/\(↑(List.drop q1 (List.drop q1 (List.drop q1 (List.drop q1 (List.drop q1 (List.drop q1 (List.drop q1 (List.drop q1 ws)))))))).length:Int)<=(17:Int)->q2<=q2/\q2<(↑(List.drop q1 (List.drop q1 (List.drop q1 (List.drop q1 (List.drop q1 (List.drop q1 (List.drop q1 (List.drop q1 ws)))))))).length:Int)/\∀ (x:Str),(fun (q30:Int)=>(fun (q29:Str)=>(fun (q28:List (den Sh.str))=>(fun (q27:Prop)=>(fun (q26:List Str)=>(fun (q25:List Str)=>(fun (q24:List (den Sh.str))=>(fun (q23:List Str)=>(List.drop q1 (List.drop q1 (List.drop q1 (List.drop q1 q24))))[q4]? = some x->x.b.length<=q8->(aM x).b.length<=q8->(q2<=q7/\q7<=(↑(List.drop q1 (List.drop q1 (List.drop q1 (List.drop q1 q24)))).length:Int))/\∃ (s0:Nat),(fun (q35:List (den Sh.str))=>(fun (q34:Int)=>(fun (q33:Int)=>(fun (q32:Nat)=>(fun (q31:List Str)=>(aS x=aS q29/\(↑(List.drop q1 (List.drop q1 (List.drop q1 q35))).length:Int)=(↑q32:Int)/\q2=(↑s0:Int)/\List.drop q1 (List.drop q1 (List.drop q1 q35))=List.drop s0 q25/\q27/\q27/\q27/\q27/\q27/\q27/\q27/\q27/\q27/\q6=q6/\q3.getD q2=pk ws/\tk (List.drop q1 ws) q2=q30/\q27/\tk q28 q2=tk q26 q2/\tk (List.drop q1 q28) q2=q33/\tk (List.drop q1 (List.drop q1 q28)) q2=tk q23 q2/\tk (List.drop q1 q24) q2=q34/\tk (List.drop q1 (List.drop q1 q24)) q2=tk q31 q2/\tk (List.drop q1 q35) q2=tk (List.drop q1 q31) q2/\aM x=aM q29/\cg (List.drop q1 q35) (cg (List.drop q1 (List.drop q1 q24)) (cg (List.drop q1 q24) (cg (List.drop q1 (List.drop q1 q28)) (cg (List.drop q1 q28) (cg q28 (cg (List.drop q1 ws) true))))))=pR q9 (List.take s0 q25)/\List.map aH (List.take s0 q25)=[])/\s0<=q32/\∀ (s:Nat),(fun (q36:Int)=>s<=q32->((↑s:Int)<(↑q32:Int)->((List.map aH (List.take s q25)).length+[tk (List.drop s q25) q2].length)*(8:Nat)<=q8/\I64 ((↑s:Int)+q7)/\∃ (s':Nat),(aS q29=aS q29/\(↑q32:Int)=(↑q32:Int)/\(↑s:Int)+q7=(↑s':Int)/\List.drop q1 (List.drop s q25)=List.drop s' q25/\q27/\q27/\q27/\q27/\q27/\q27/\q27/\q27/\q27/\q6=q6/\pk ws=pk ws/\q30=q30/\q27/\tk q26 q2=tk q26 q2/\q33=q33/\tk q23 q2=tk q23 q2/\q34=q34/\tk q31 q2=tk q31 q2/\q36=q36/\aM q29=aM q29/\cg (List.drop s q25) (pR q9 (List.take s q25))=pR q9 (List.take s' q25)/\List.map aH (List.take s q25)++[tk (List.drop s q25) q2]=List.map aH (List.take s' q25))/\s' <= q32/\q32 - s' < q32 - s)/\((↑q32:Int)<=(↑s:Int)->pk ws=r0.kind/\q30=r0.a/\q2=r0.b/\tk q26 q2=q5.kind/\q33=q5.client/\tk q23 q2=q5.seq/\q34=q5.set/\tk q31 q2=q5.id/\q36=q5.n/\List.map aH (List.take s q25)=q5.chunks/\aM q29=q5.text/\(pR q9 (List.take s q25) && aS q29)=r1)) (tk (List.drop q1 q31) q2)) (List.drop q1 (List.drop q1 q23))) q25.length) (tk (List.drop q1 q26) q2)) (tk (List.drop q1 q23) q2)) (List.drop q1 (List.drop q1 q24))) (List.drop q1 (List.drop q1 q26))) (List.drop q1 (List.drop q1 q28))) (List.drop q1 q0)) (List.drop q1 (List.drop q1 ws))) (q2=q2)) (List.drop q1 (List.drop q1 ws))) (q0.getD q4 q6)) (tk (List.drop q1 ws) q2)))))) (List.drop q1 (List.drop q1 (List.drop q1 (List.drop q1 (List.drop q1 (List.drop q1 (List.drop q1 (List.drop q1 ws))))))))) (1:Nat)) (0:Int)) (i_ (ws.getD q4 (aY Sh.str)))) (0:Nat)) r0.c) (Str.mk [])) (1:Int)) (140737488355328:Nat)) (lg ws)):=by kernel_rfl
theorem xO (ws:List Str) (h0:ws≠[]):Sat Tryd.prog (ai aX) 32 [.c (.fz .str (ws))] [] ⟨[ws≠[]],[.agg (cellsOf (.nm .event) (bk ws)),.c (.bool (.atom ((bF ws))))],none,false⟩:=by
 refine cz oC (wL ws) Tryd.func32 (by decide) (by kernel_rfl) ?_
 rw [ym]
 iterate 3 ((all_goals (repeat' (first | with_reducible apply lu | with_reducible refine lx ?_ | intro))); (all_goals try (first | exact lD | exact rfl | exact (uf (by assumption)) | exact (xJ (by assumption)) | exact (EK ak ak) | (rw [(Du ak).1]) | (rw [(Du ak).2]) | (rw [(Dz ak ak).1]) | (rw [(Dz ak ak).2]) | (rw [(CY ak ak).1]) | (rw [(CY ak ak).2]) | (rw [(DH ak ak ak ak).1]) | (rw [(DH ak ak ak ak).2]) | exact (congrArg aM (gx ak)) | exact (congrArg aS (gx ak)) | exact DG | exact (DY ak) | exact (Fk ak) | exact Fe | exact (As ak).2 | exact (DL ak ak))); all_goals try first | refine ⟨‹Nat› + 1,?_⟩ | refine ⟨0,?_⟩)
def xh:cC:=(eG 32 (dY (aC (kC (cL .str)) bP) bO fun (ws,_) (_)=>⟨[ws≠[]],[.agg (cellsOf (.nm .event) (bk ws)),.c (.bool (.atom ((bF ws))))],none,false⟩) ui)
theorem ou:aW Tryd.prog (ai aX) xh:=(aK (aJ (ag (aL dG) ay) az fun (ws,_) (_) hp=>xO ws (sB hp)) oC)
abbrev lq (s:Str):List Str:=bG s ⟨[32]⟩
def xy (s:Str):Bool:=bF (lq s) && decide (ba (bk (lq s))=0) && decide (aw (bk (lq s))=s)
def aV (s:Str):Event:=if xy s=true then bk (lq s) else iQ
def bu (s:Str):Int:=if xy s=true then 0 else 240
theorem tL {s sep:Str}:bG s sep≠[]:=by
 unfold bG
 intro h
 exact (cG _ s.b).2 (List.map_eq_nil_iff.1 h)
section
variable {s:Str}
theorem Dx (h1:bF (lq s)=true) (h2:ba (bk (lq s))=0) (h3:aw (bk (lq s))=s):aV s=bk (lq s)/\bu s=0:=by
 have h:xy s=true:=by rw [xy,h1,decide_eq_true h2,decide_eq_true h3]; rfl
 rw [aV,bu,if_pos h,if_pos h]; exact ⟨rfl,rfl⟩
theorem yy (h:bF (lq s)=false\/¬ ba (bk (lq s))=0\/¬ aw (bk (lq s))=s):aV s=iQ/\bu s=240:=by
 have h:¬ xy s=true:=by
  rw [xy,Bool.and_eq_true,Bool.and_eq_true,decide_eq_true_eq,decide_eq_true_eq]
  rintro ⟨⟨h1,h2⟩,h3⟩
  rcases h with h | h | h
  ·rw [h] at h1; cases h1
  ·exact h h2
  ·exact h h3
 rw [aV,bu,if_neg h,if_neg h]; exact ⟨rfl,rfl⟩
end
theorem yF (s:Str) (r0:Event) (r1:Int):lF aX xh [] Tryd.f13 [.c (.str (s))] [] [.agg (cellsOf (.nm .event) r0),.c (.int (r1))]=((fun (q4:Command)=>(fun (q3:Int)=>(fun (q2:List Str)=>(fun (q1:Prop)=>(fun (q0:Event)=>s.b.length<=(140737488355328:Nat)->s.b.length<(4294967281:Nat)/\[(32:UInt8)].length=(1:Nat)/\(q2.length*(16:Nat)<=(140737488355328:Nat)->¬q2=[]/\(I64 q0.kind->I64 q0.a->I64 q0.b->I64 q0.c.kind->I64 q0.c.client->I64 q0.c.seq->I64 q0.c.set->I64 q0.c.id->I64 q0.c.n->q0.c.chunks.length*(8:Nat)<=(140737488355328:Nat)->q0.c.text.b.length<=(140737488355328:Nat)->(bF q2=false->q1)/\(bF q2=true->(aw q0).b.length<=(140737488355328:Nat)->I64 (ba q0)->(¬ba q0=q3\/¬aw q0=s->q1)/\(ba q0=q3/\aw q0=s->q0.kind=r0.kind/\q0.a=r0.a/\q0.b=r0.b/\q0.c.kind=q4.kind/\q0.c.client=q4.client/\q0.c.seq=q4.seq/\q0.c.set=q4.set/\q0.c.id=q4.id/\q0.c.n=q4.n/\q0.c.chunks=q4.chunks/\q0.c.text=q4.text/\q3=r1))))) (bk q2)) (q3=r0.kind/\q3=r0.a/\q3=r0.b/\q3=q4.kind/\q3=q4.client/\q3=q4.seq/\q3=q4.set/\q3=q4.id/\q3=q4.n/\q4.chunks=[]/\Str.mk []=q4.text/\(240:Int)=r1)) (bG s (Str.mk [(32:UInt8)]))) (0:Int)) r0.c):=by kernel_rfl
theorem zl (s:Str) (h0:s.b.length<4294967281):Sat Tryd.prog (ai aX) 13 [.c (.str (s))] [] ⟨[s.b.length<4294967281],[.agg (cellsOf (.nm .event) (aV s)),.c (.int ((bu s)))],none,false⟩:=by
 refine cz ou [] Tryd.func13 (by decide) (by kernel_rfl) ?_
 rw [yF]
 (repeat' (first | with_reducible apply lu | with_reducible refine lx ?_ | intro))
 all_goals (first | exact lD | exact h0 | exact rfl | exact (tL ak) | (rw [(Dx ak ak ak).1]) | (rw [(Dx ak ak ak).2]) | (rw [(yy (.inl ak)).1]) | (rw [(yy (.inl ak)).2]) | (rw [(yy (.inr ak)).1]) | (rw [(yy (.inr ak)).2]))
def Ag:cC:=(eG 13 (dY (aC (kC cS) bP) bO fun (s,_) (_)=>⟨[s.b.length<4294967281],[.agg (cellsOf (.nm .event) (aV s)),.c (.int ((bu s)))],none,false⟩) xh)
theorem w_:aW Tryd.prog (ai aX) Ag:=(aK (aJ (ag (aL ea) ay) az fun (s,_) (_) hp=>zl s (sB hp)) ou)
def fa (k:Int):Str:=if k<0\/10<=k then ⟨[]⟩ else cw k
section
variable {s:Str} {k:Nat} {c:UInt8} {A B:List UInt8}
theorem jt:(c / UInt8.ofNat 16).toNat=c.toNat / 16:=by rw [UInt8.toNat_div]; rfl
end
def zb (c:UInt8):Int:=if (97:Int)<=c.toNat then (c.toNat:Int) - 97+10 else (c.toNat:Int) - 48
def oz (l:List UInt8):Nat->Int
 | 0=>0
 | k+1=>10*oz l k+((l.getD k 0).toNat:Int) - 48
def jl (s:Str):Int:=oz s.b (min s.b.length 9)
section
variable {s:Str} {k:Nat}
end
def xj (b:UInt8):List (List UInt8)->List (List UInt8)
 | []=>[[b]]
 | [x]=>[x++[b]]
 | x :: y :: r=>x :: xj b (y :: r)
theorem eS {c:UInt8}:∀ {x:List UInt8},av c (x++[c])=av c x++[[]]
 | []=>by simp [av]
 | b :: x=>by
  rw [List.cons_append,av,av,eS]
  split
  ·rfl
  ·cases h:av c x with
   | nil=>exact absurd h (cG c x).2
   | cons y r=>rfl
theorem eN {c b:UInt8} (hb:¬ b=c):∀ {x:List UInt8},av c (x++[b])=xj b (av c x)
 | []=>by simp [av,hb,pT,xj]
 | d :: x=>by
  rw [List.cons_append,av,av,eN hb]
  split
  ·cases h:av c x with
   | nil=>exact absurd h (cG c x).2
   | cons y r=>rfl
  ·cases h:av c x with
   | nil=>exact absurd h (cG c x).2
   | cons y r=>cases r <;> rfl
section
variable {s:Str} {k:Nat}
end
def zL:cC:=Ag
theorem we:aW Tryd.prog (ai aX) zL:=w_
def nmL (e:Event):List Int:=[e.a]++(if ca e.kind=true then [e.b] else [])++(if e.kind=6 then fK e.c else [])
def okH (e:Event):Bool:=!decide (fa e.kind=⟨[]⟩) && (if ca e.kind=true then true else decide (e.b=0)) && (if e.kind=6 then decide ((e.c.text.b.length:Int)<=16) && decide ((e.c.chunks.length:Int)<=16) else decide (e.c=cM))
def Cg (v:List UInt8) (ws:List (List UInt8)):List UInt8:=v++ws.flatMap fun w=>32 :: w
structure LcJ (e:Event) (k:Nat):Prop where
 le:k<=e.c.chunks.length
 k6:e.kind=6
 ok:addO (nmL e) (okH e)=true
 al:(e.c.chunks.take k).all okN=true
theorem AR (e:Event):(nmL e).length<=8:=by
 unfold nmL
 split <;> split <;> simp [fK]
theorem Bj (k:Int):(fa k).b.length<=40:=by
 unfold fa
 split
 ·simp
 ·rename_i h; exact nW ⟨k.toNat,by omega⟩
theorem nw {v:List UInt8} {m:Nat}:∀ {ws:List (List UInt8)},(∀ w ∈ ws,w.length<=m)->(Cg v ws).length<=v.length+(m+1)*ws.length
 | [],_=>by simp [Cg]
 | x :: ws,h=>by
  have h1:=h x (by simp)
  have h2:=nw (v:=v) (ws:=ws) fun y hy=>h y (by simp [hy])
  simp only [Cg,List.length_append,List.flatMap_cons,List.length_cons] at h2 ⊢
  rw [Nat.mul_succ]; omega
section
variable {e:Event} {s:Nat} {x:Int}
theorem vQ {e:Event}:addO (nmL e) (okH e)=true↔okH e=true/\(nmL e).all okN=true:=wQ
theorem yX {e:Event}:okH e=true↔1<=e.kind/\e.kind<10/\(ca e.kind=false->e.b=0)/\(e.kind=6->(e.c.text.b.length:Int)<=16/\(e.c.chunks.length:Int)<=16)/\(¬ e.kind=6->bZ e.c=true):=by
 have hv:(!decide (fa e.kind=⟨[]⟩))=true↔1<=e.kind/\e.kind<10:=by
  rw [Bool.not_eq_true',decide_eq_false_iff_not]
  have key:∀ k:Fin 10,bU.getD k.1 ⟨[]⟩=⟨[]⟩↔k.1=0:=by decide
  unfold fa
  split
  ·rename_i h; constructor
   ·intro h2; exact absurd rfl h2
   ·intro h2; omega
  ·rename_i h
   have:=key ⟨e.kind.toNat,by omega⟩
   unfold cw
   rw [show (aY Sh.str)=(⟨[]⟩:Str) from rfl,this]
   simp only; omega
 have hc:decide (e.c=cM)=true↔bZ e.c=true:=by
  rw [decide_eq_true_eq]
  constructor
  ·intro h; rw [h]; decide
  ·intro h; exact empty_eq h (by decide)
 simp only [okH,Bool.and_eq_true,hv]
 cases hs:ca e.kind <;> by_cases h6:e.kind=6 <;> (first | rw [if_pos h6] | rw [if_neg h6]) <;> simp only [Bool.and_eq_true,decide_eq_true_eq,hc,if_true,if_false,Bool.false_eq_true] <;> constructor <;> intro h <;> simp_all <;> omega
theorem wJ {e:Event}:lineOk e=true↔addO (nmL e) (okH e)=true/\(e.kind=6->e.c.chunks.all okN=true):=by
 rw [bj,vQ,yX]
 cases hs:ca e.kind <;> by_cases h6:e.kind=6 <;> simp only [nmL,hs,h6,if_true,if_false,Bool.false_eq_true,List.all_append,List.all_cons,List.all_nil,Bool.and_eq_true,Bool.and_true] <;> constructor <;> intro h <;> simp_all [okN]
theorem mi:∀ ws:List (List UInt8),Lib.joinTail [32] ws=ws.flatMap fun w=>32 :: w
 | []=>rfl
 | x :: ws=>by rw [tail_cons,List.flatMap_cons,mi ws]; rfl
theorem uF (h:lineOk e=true):aw e=⟨Cg (fa e.kind).b ((nmL e).map Lib.itoa++(if e.kind=6 then [bh e.c.text.b]++e.c.chunks.map Lib.itoa else []))⟩:=by
 obtain ⟨h1,h2,_⟩:=bj.1 h
 have hv:fa e.kind=cw e.kind:=by rw [fa,if_neg (by omega)]
 rw [aw,if_pos h,Af,hv]
 have hw:(aA e).map (·.b)=(cw e.kind).b :: ((nmL e).map Lib.itoa++(if e.kind=6 then [bh e.c.text.b]++e.c.chunks.map Lib.itoa else [])):=by
  have hm:∀ l:List Int,(l.map ah).map (·.b)=l.map Lib.itoa:=fun l=>by rw [List.map_map]; rfl
  unfold aA nmL
  cases hs:ca e.kind <;> by_cases h6:e.kind=6 <;> simp [h6,ah,Function.comp_def]
 rw [hw,jn,Lib.join_cons,mi]; rfl
end
def zZ:cC:=zL
theorem vu:aW Tryd.prog (ai aX) zZ:=we
def kv (w:Str):Nat->Int
 | 0=>0
 | k+1=>if fa ((k:Int)+1)=w then (k:Int)+1 else kv w k
def Cn (w:Str):Nat->List UInt8
 | 0=>[]
 | k+1=>Cn w k++[Dy (16*zb (w.b.getD (2*k) 0)+zb (w.b.getD (2*k+1) 0))]
abbrev gw (s:Str) (n:Nat):Str:=(lq s).getD n (aY .str)
abbrev Cu (s:Str):Int:=kv (gw s 0) 9
def aR (s:Str):Int:=if 1<(lq s).length then jl (gw s 1) else 0
def bR (s:Str):Int:=if ca (Cu s)=true/\2<(lq s).length then jl (gw s 2) else 0
def cR (s:Str):Command:=if Cu s=6/\8<(lq s).length then ⟨jl (gw s 2),jl (gw s 3),jl (gw s 4),jl (gw s 5),jl (gw s 6),jl (gw s 7),((lq s).drop 9).map jl,⟨Cn (gw s 8) ((gw s 8).b.length / 2)⟩⟩ else cM
def Ab (s:Str):Event:=⟨Cu s,aR s,bR s,cR s⟩
def Ci (s:Str):Bool:=decide (ba (Ab s)=0) && decide (aw (Ab s)=s)
def sX (s:Str):Event:=if Ci s=true then Ab s else iQ
def nU (s:Str):Int:=if Ci s=true then 0 else 240
section
variable {s:Str} {k:Nat} {x:Str} {a b m n:Int} {c:Command} {e:Event}
theorem FG (he:e=Ab s) (h1:ba e=0) (h2:aw e=s):sX s=e/\nU s=0:=by
 subst he
 have h:Ci s=true:=by rw [Ci,decide_eq_true h1,decide_eq_true h2]; rfl
 rw [sX,nU,if_pos h,if_pos h]; exact ⟨rfl,rfl⟩
end
def Aj:cC:=zZ
theorem u_:aW Tryd.prog (ai aX) Aj:=vu
theorem AI:∀ (u:Nat) (r:List UInt8),u<1000000000->Lib.parseUint10 0 (Lib.decDigits u++r)=Lib.parseUint10 u r:=fun u=>by
 induction u using Nat.strongRecOn with
 | _ u ih=>
  intro r hu
  by_cases h:u<10
  ·have hd:=tB h
   rw [Lib.decDigits,dif_pos h,List.singleton_append,Lib.parseUint10,if_pos (by omega),if_neg (by omega),if_neg (by omega),hd]
   congr 1; omega
  ·have hd:=tB (show u % 10<10 by omega)
   rw [Lib.decDigits,dif_neg h,List.append_assoc,ih (u / 10) (by omega) _ (by omega),List.singleton_append,Lib.parseUint10,if_pos (by omega),if_neg (by omega),if_neg (by omega),hd]
   congr 1; omega
theorem uB (u:Nat):Lib.decDigits u≠[]:=by
 rw [Lib.decDigits]; split <;> simp
theorem vZ {u:Nat} (hu:u<1000000000):Lib.atoiAll (Lib.decDigits u) = .ok (u:Int):=by
 have hp:Lib.parseMag (Lib.decDigits u) = .ok u:=by
  have:=AI u [] hu
  rw [List.append_nil] at this
  rw [Lib.parseMag,if_neg (uB u),this]; rfl
 cases h:Lib.decDigits u with
 | nil=>exact absurd h (uB u)
 | cons c r=>
  have hc:=rm u c (by rw [h]; simp)
  rw [Lib.atoiAll_plain c r (by omega) (by omega),<- h,hp,Lib.signless,if_neg (by omega)]
theorem yv {n:Int}:okN n=true↔0<=n/\n<=1048576:=by simp [okN]
theorem pj {n:Int} (h:okN n=true):∃ u:Nat,n=u/\u<1000000000/\ah n=⟨Lib.decDigits u⟩:=by
 have h:=yv.1 h
 refine ⟨n.toNat,by omega,by omega,?_⟩
 rw [ah,Lib.itoa,if_neg (by omega)]
theorem cZ {n:Int} (h:okN n=true):aH (ah n)=n/\bS (ah n)=true:=by
 obtain ⟨u,rfl,hu,e⟩:=pj h
 rw [e,aH,bS]
 have:Lib.atoiAll (Str.mk (Lib.decDigits u)).b = .ok (u:Int):=vZ hu
 rw [this]; exact ⟨rfl,rfl⟩
theorem tY:∀ (k u:Nat),u<10 ^ k->0<k->(Lib.decDigits u).length<=k
 | 0,_,_,h=>absurd h (by omega)
 | k+1,u,hu,_=>by
  by_cases h:u<10
  ·rw [Lib.decDigits,dif_pos h]; simp
  ·have hk:0<k:=by
    rcases Nat.eq_zero_or_pos k with rfl | hk
    ·simp at hu; omega
    ·exact hk
   have:=tY k (u / 10) (by rw [Nat.pow_succ] at hu; omega) hk
   rw [Lib.decDigits,dif_neg h,List.length_append,List.length_singleton]; omega
theorem oq (l r:List UInt8):∀ k,k<=l.length->oz (l++r) k=oz l k
 | 0,_=>rfl
 | k+1,h=>by
  rw [oz,oz,oq l r k (by omega),List.getD_eq_getElem?_getD,List.getElem?_append_left (by omega),List.getD_eq_getElem?_getD]
theorem xm:∀ u:Nat,oz (Lib.decDigits u) (Lib.decDigits u).length=u:=fun u=>by
 induction u using Nat.strongRecOn with
 | _ u ih=>
  by_cases h:u<10
  ·have hd:=tB h
   rw [Lib.decDigits,dif_pos h]
   show 10*0+(((UInt8.ofNat (48+u)).toNat:Nat):Int) - 48=u
   rw [hd]; omega
  ·have hd:=tB (show u % 10<10 by omega)
   rw [Lib.decDigits,dif_neg h,List.length_append,List.length_singleton,oz,oq _ _ _ (Nat.le_refl _),ih (u / 10) (by omega),List.getD_eq_getElem?_getD,List.getElem?_append_right (Nat.le_refl _),Nat.sub_self]
   show 10*((u / 10:Nat):Int)+(((UInt8.ofNat (48+u % 10)).toNat:Nat):Int) - 48=u
   rw [hd]; omega
theorem eg {n:Int} (h:okN n=true):jl (ah n)=n:=by
 obtain ⟨u,rfl,hu,e⟩:=pj h
 rw [e,jl,Nat.min_eq_left (tY 9 u (by omega) (by omega))]; exact xm u
theorem jY:∀ {l:List Int},l.all okN=true->(l.map ah).map aH=l/\(l.map ah).all bS=true/\(l.map ah).map jl=l
 | [],_=>⟨rfl,rfl,rfl⟩
 | a :: l,h=>by
  rw [List.all_cons,Bool.and_eq_true] at h
  obtain ⟨h1,h2,h3⟩:=jY h.2
  obtain ⟨h4,h5⟩:=cZ h.1
  rw [List.map_cons,List.map_cons,List.all_cons,List.map_cons,h1,h2,h3,h4,h5,eg h.1]; exact ⟨rfl,rfl,rfl⟩
theorem kD:∀ {r:List (List UInt8)} {x:List UInt8},(∀ z ∈ x :: r,okW z)->av 32 (x++Lib.joinTail [32] r)=x :: r
 | [],x,h=>by
  show av 32 (x++[])=[x]
  rw [List.append_nil]
  exact h_ fun hc=>(h x (by simp) 32 hc).1 rfl
 | y :: r,x,h=>by
  rw [tail_cons,ew fun hc=>(h x (by simp) 32 hc).1 rfl,kD fun z hz=>h z (List.mem_cons_of_mem _ hz)]
theorem kx:∀ l:List Str,(l.map (·.b)).map Str.mk=l
 | []=>rfl
 | ⟨a⟩ :: l=>by rw [List.map_cons,List.map_cons,kx l]
theorem nB {e:Event} (h:lineOk e=true):lq (aw e)=aA e:=by
 have hw:=jP h
 obtain ⟨x,r,hx⟩:=oa e
 have:av 32 (jn ((aA e).map (·.b)))=(aA e).map (·.b):=by
  rw [hx] at hw ⊢
  rw [jn,Lib.join_cons]; exact kD hw
 rw [lq,bG,aw,if_pos h]
 show (av 32 (jn ((aA e).map (·.b)))).map Str.mk=_
 rw [this,kx]
theorem uT:∀ j:Fin 16,¬ fP (fE j)<0:=by decide
theorem Bd:∀ n:Fin 256,ri (fE (n.1 / 16)) (fE (n.1 % 16))=UInt8.ofNat n.1:=by decide +kernel
theorem Fb:∀ n:Fin 256,Dy (16*zb (fE (n.1 / 16))+zb (fE (n.1 % 16)))=UInt8.ofNat n.1:=by decide +kernel
theorem pA:∀ l:List UInt8,unwL (l.flatMap cm)=some l
 | []=>rfl
 | c :: l=>by
  have hc:=c.toNat_lt
  have h1:=uT ⟨c.toNat / 16,by omega⟩
  have h2:=uT ⟨c.toNat % 16,by omega⟩
  have h3:=Bd ⟨c.toNat,hc⟩
  rw [List.flatMap_cons,cm,List.cons_append,List.cons_append,List.nil_append,unwL,if_neg (fun h=>h.elim h1 h2),pA l,h3]
  simp
theorem tC {l:List UInt8}:Str.mk (bh l)=⟨[45]⟩↔l=[]:=by
 constructor
 ·intro h
  rw [Str.mk.injEq] at h
  exact tJ (h.trans (show [45]=bh [] from rfl))
 ·rintro rfl; rfl
theorem ve (l:List UInt8):aM ⟨bh l⟩=⟨l⟩/\aS ⟨bh l⟩=true:=by
 by_cases h:l=[]
 ·subst h; exact ⟨rfl,rfl⟩
 ·have hd:=fun hh=>h (tC.1 hh)
  rw [aM,aS,if_neg hd,if_neg hd,bh,if_neg h,pA]; exact ⟨rfl,rfl⟩
theorem nY:∀ (l:List UInt8) (k:Nat),k<l.length->(l.flatMap cm).getD (2*k) 0=fE ((l.getD k 0).toNat / 16)/\(l.flatMap cm).getD (2*k+1) 0=fE ((l.getD k 0).toNat % 16)
 | [],k,h=>absurd h (by simp)
 | c :: l,0,_=>⟨rfl,rfl⟩
 | c :: l,k+1,h=>by
  have:=nY l k (by simpa using h)
  rw [List.flatMap_cons,cm,show 2*(k+1)=2*k+1+1 by omega]
  exact this
theorem oe (l:List UInt8):∀ k,k<=l.length->Cn ⟨l.flatMap cm⟩ k=l.take k
 | 0,_=>rfl
 | k+1,h=>by
  have h1:=nY l k (by omega)
  have h2:=Fb ⟨(l.getD k 0).toNat,(l.getD k 0).toNat_lt⟩
  rw [Cn,oe l k (by omega),h1.1,h1.2,qU (cF (d:=(0:UInt8)) (show k<l.length by omega)),h2]
  simp
theorem EV (l:List UInt8):Cn ⟨bh l⟩ ((Str.mk (bh l)).b.length / 2)=l:=by
 by_cases h:l=[]
 ·subst h; rfl
 ·rw [bh,if_neg h]
  show Cn _ ((l.flatMap cm).length / 2)=l
  rw [jD,show 2*l.length / 2=l.length by omega,oe l _ (Nat.le_refl _),List.take_length]
theorem Ep:∀ k:Fin 10,1<=k.1->kv (bU.getD k.1 ⟨[]⟩) 9=(k.1:Int)/\i_ (bU.getD k.1 ⟨[]⟩)=some (k.1:Int):=by decide +kernel
theorem rl {k:Int} (h1:1<=k) (h2:k<10):kv (cw k) 9=k/\i_ (cw k)=some k:=by
 have:=Ep ⟨k.toNat,by omega⟩ (by simp only; omega)
 have e:((k.toNat:Nat):Int)=k:=by omega
 simp only [e] at this
 exact this
section
variable {e:Event}
theorem qF (h:lineOk e=true):bk (aA e)=e/\bF (aA e)=true:=by
 obtain ⟨h1,h2,h3,h4,h5,h6,h7⟩:=bj.1 h
 have hp:pk (aA e)=e.kind:=by
  show (i_ (cw e.kind)).getD 0=_
  rw [(rl h1 h2).2]; rfl
 have ha:=cZ h3
 cases hs:ca e.kind
 ·have hb:=h5 hs
  by_cases hk:e.kind=6
  ·obtain ⟨k1,k2,k3,k4⟩:=h6 hk
   simp only [fK,List.all_cons,List.all_nil,Bool.and_eq_true,Bool.and_true] at k3
   obtain ⟨c1,c2,c3,c4,c5,c6⟩:=k3
   obtain ⟨m1,m2,_⟩:=jY k4
   have hw:=ve e.c.text.b
   have c1:=cZ c1; have c2:=cZ c2; have c3:=cZ c3; have c4:=cZ c4; have c5:=cZ c5; have c6:=cZ c6
   have hws:aA e=cw e.kind :: ah e.a :: ah e.c.kind :: ah e.c.client :: ah e.c.seq :: ah e.c.set :: ah e.c.id :: ah e.c.n :: ⟨bh e.c.text.b⟩ :: e.c.chunks.map ah:=by
    rw [aA,hs,if_pos hk]; rfl
   have h8:¬ (((Str.mk (bh e.c.text.b) :: e.c.chunks.map ah).length:Int)=0\/17<((Str.mk (bh e.c.text.b) :: e.c.chunks.map ah).length:Int)):=by
    rw [List.length_cons,List.length_map]; omega
   have hs2:¬ ca (pk (aA e))=true:=by rw [hp,hs]; decide
   have hk2:¬ ¬ pk (aA e)=6:=fun hn=>hn (by rw [hp,hk])
   rw [bk,if_neg hs2,if_neg hk2,bF,if_neg hs2,if_neg hk2,hp,hws]
   simp only [List.drop_succ_cons,List.drop_zero,List.getD_cons_zero,tk,cg,lg,pR]
   rw [if_neg h8,if_neg h8,ha.1,ha.2,c1.1,c1.2,c2.1,c2.2,c3.1,c3.2,c4.1,c4.2,c5.1,c5.2,c6.1,c6.2,m1,m2,hw.1,hw.2,<- hb]
   exact ⟨rfl,rfl⟩
  ·have hc:=empty_eq (h7 hk) (show bZ cM=true by decide)
   have hws:aA e=[cw e.kind,ah e.a]:=by rw [aA,hs,if_neg hk]; rfl
   have hs2:¬ ca (pk (aA e))=true:=by rw [hp,hs]; decide
   have hk2:¬ pk (aA e)=6:=by rw [hp]; exact hk
   rw [bk,if_neg hs2,if_pos hk2,bF,if_neg hs2,if_pos hk2,hp,hws]
   simp only [List.drop_succ_cons,List.drop_zero,tk,cg]
   rw [ha.1,ha.2,<- hc,<- hb]
   exact ⟨rfl,rfl⟩
 ·have hk:¬ e.kind=6:=by intro hk; rw [hk] at hs; exact absurd hs (by decide)
  have hb:=cZ (h4 hs)
  have hc:=empty_eq (h7 hk) (show bZ cM=true by decide)
  have hws:aA e=[cw e.kind,ah e.a,ah e.b]:=by rw [aA,hs,if_neg hk]; rfl
  have hs2:ca (pk (aA e))=true:=by rw [hp,hs]
  rw [bk,if_pos hs2,bF,if_pos hs2,hp,hws]
  simp only [List.drop_succ_cons,List.drop_zero,tk,cg]
  rw [ha.1,ha.2,hb.1,hb.2,<- hc]
  exact ⟨rfl,rfl⟩
theorem ug (h:lineOk e=true) {s:Str} (hW:lq s=aA e):Ab s=e:=by
 obtain ⟨h1,h2,h3,h4,h5,h6,h7⟩:=bj.1 h
 have hp:Cu s=e.kind:=by
  rw [Cu,gw,hW]
  exact (rl h1 h2).1
 have ha:=eg h3
 cases hs:ca e.kind
 ·have hb:=h5 hs
  by_cases hk:e.kind=6
  ·obtain ⟨k1,k2,k3,k4⟩:=h6 hk
   simp only [fK,List.all_cons,List.all_nil,Bool.and_eq_true,Bool.and_true] at k3
   obtain ⟨c1,c2,c3,c4,c5,c6⟩:=k3
   obtain ⟨_,_,m1⟩:=jY k4
   have hws:aA e=cw e.kind :: ah e.a :: ah e.c.kind :: ah e.c.client :: ah e.c.seq :: ah e.c.set :: ah e.c.id :: ah e.c.n :: ⟨bh e.c.text.b⟩ :: e.c.chunks.map ah:=by
    rw [aA,hs,if_pos hk]; rfl
   have hl:8<(lq s).length:=by rw [hW,hws]; simp only [List.length_cons]; omega
   have e1:aR s=e.a:=by rw [aR,if_pos (by omega),gw,hW,hws]; exact ha
   have e2:bR s=e.b:=by rw [bR,if_neg (by rw [hp,hs]; simp),hb]
   have e3:cR s=e.c:=by
    rw [cR,if_pos ⟨by rw [hp,hk],hl⟩]
    simp only [gw,hW,hws,List.getD_cons_succ,List.getD_cons_zero,List.drop_succ_cons,List.drop_zero]
    rw [eg c1,eg c2,eg c3,eg c4,eg c5,eg c6,m1,EV]
   rw [Ab,hp,e1,e2,e3]
  ·have hc:=empty_eq (h7 hk) (show bZ cM=true by decide)
   have hws:aA e=[cw e.kind,ah e.a]:=by rw [aA,hs,if_neg hk]; rfl
   have hl:1<(lq s).length:=by rw [hW,hws]; simp
   have e1:aR s=e.a:=by rw [aR,if_pos hl,gw,hW,hws]; exact ha
   have e2:bR s=e.b:=by rw [bR,if_neg (by rw [hp,hs]; simp),hb]
   have e3:cR s=e.c:=by rw [cR,if_neg (by rw [hp]; exact fun h=>hk h.1),hc]
   rw [Ab,hp,e1,e2,e3]
 ·have hk:¬ e.kind=6:=by intro hk; rw [hk] at hs; exact absurd hs (by decide)
  have hb:=eg (h4 hs)
  have hc:=empty_eq (h7 hk) (show bZ cM=true by decide)
  have hws:aA e=[cw e.kind,ah e.a,ah e.b]:=by rw [aA,hs,if_neg hk]; rfl
  have hl:2<(lq s).length:=by rw [hW,hws]; simp
  have e1:aR s=e.a:=by rw [aR,if_pos (by omega),gw,hW,hws]; exact ha
  have e2:bR s=e.b:=by rw [bR,if_pos ⟨by rw [hp,hs],hl⟩,gw,hW,hws]; exact hb
  have e3:cR s=e.c:=by rw [cR,if_neg (by rw [hp]; exact fun h=>hk h.1),hc]
  rw [Ab,hp,e1,e2,e3]
theorem cD:ba e=0↔lineOk e=true:=by
 rw [ba]; split <;> simp_all
theorem lZ (h:lineOk e=true):aV (aw e)=e/\bu (aw e)=0:=by
 have hp:=qF h
 have hk:xy (aw e)=true:=by
  rw [xy,nB h,hp.1,hp.2,decide_eq_true (cD.2 h),decide_eq_true rfl]; rfl
 rw [aV,bu,if_pos hk,if_pos hk,nB h,hp.1]; exact ⟨rfl,rfl⟩
theorem xW (h:lineOk e=true):sX (aw e)=e/\nU (aw e)=0:=by
 have hp:=ug h (nB h)
 exact FG hp.symm (cD.2 h) rfl
theorem wb {s:Str} (h:bu s=0):lineOk (aV s)=true/\aw (aV s)=s:=by
 unfold bu at h; unfold aV
 split at h
 ·rename_i hk
  rw [if_pos hk]
  rw [xy,Bool.and_eq_true,Bool.and_eq_true,decide_eq_true_eq,decide_eq_true_eq] at hk
  exact ⟨cD.1 hk.1.2,hk.2⟩
 ·cases h
theorem nZ (s:Str):bu s=0\/(bu s=240/\aV s=iQ):=by
 unfold bu aV; split <;> simp
theorem mJ (s:Str):aV s=sX s/\bu s=nU s:=by
 rcases nZ s with h | ⟨h1,h2⟩
 ·obtain ⟨k1,k2⟩:=wb h
  have:=xW k1
  rw [k2] at this
  rw [h,this.1,this.2]; exact ⟨rfl,rfl⟩
 ·have hn:¬ Ci s=true:=by
   intro hk
   have hk2:=hk
   rw [Ci,Bool.and_eq_true,decide_eq_true_eq,decide_eq_true_eq] at hk2
   have:=lZ (cD.1 hk2.1)
   rw [hk2.2,h1] at this
   cases this.2
  rw [h1,h2,sX,nU,if_neg hn,if_neg hn]; exact ⟨rfl,rfl⟩
end
def vI:cC:=Aj
theorem od:aW Tryd.prog (ai aX) vI:=u_
end Go.Proofs.YtagpmhlokhoanaaDoor
namespace Go.Proofs.YtagpmhlokhoanaaDoor
open Go.RowKit Go.ChangeShapes Go.WideShapes
def iZ (shp:TypeId->Option Sh) (w:World):Cx:=cx ⟨shp,w.heap.size,fun _=>False⟩ [] w
theorem Bw {shp:TypeId->Option Sh} {w:World} {s:Sh} {b:Nat} (h:b<w.heap.size):(iZ shp w).at s b:=⟨⟨h,fun ⟨_,_,h,_⟩=>by simp at h,fun h=>h⟩,.inl h⟩
def Tr (P:Program) (shp:TypeId->Option Sh) (t:TypeId) (s:Sh):Prop:=
 ∀ (H:Type) (enc:TypeId × Value->H) (w:World) (fuel:Nat) (cs:List Value) (x:DataW H × List MemPlace),
  DataW.trod enc P w 0 (fun _=>true) true fuel t cs=some x->(∀ n ∈ x.1.weights P t,n<=140737488351232)->(∀ q ∈ x.2,q.block<w.heap.size)->∃ y:den s,Pds (iZ shp w) (cellsOf s y) cs
def Ce:List Sh->List AV->Prop
 | [],asx=>asx=[]
 | s :: r,asx=>∃ (y:den s) (l:List AV),asx=cellsOf s y++l/\Ce r l
def DD:List Sh->Nat
 | []=>0
 | s :: r=>s.size+DD r
def my (P:Program) (shp:TypeId->Option Sh) (fs:List Go.Field) (o:Nat) (ss:List Sh):Prop:=
 ∀ (H:Type) (enc:TypeId × Value->H) (w:World) (fuel:Nat) (cs:List Value) (xs:List (DataW H × List MemPlace)),
  cs.length=o+DD ss->xs.length=fs.length->(∀ (i:Nat) (f:Go.Field),fs[i]? = some f->DataW.trod enc P w 0 (fun _=>true) true fuel f.type ((cs.drop f.offset).take (P.cellsOf f.type))=xs[i]?) ->
  (∀ n ∈ DataW.weightsEach P (fs.map (·.type)) (xs.map (·.1)),n<=140737488351232)->(∀ q ∈ xs.flatMap (·.2),q.block<w.heap.size)->∃ asx,Ce ss asx/\Pds (iZ shp w) asx (cs.drop o)
section
variable {P:Program} {shp:TypeId->Option Sh} {t:TypeId}
theorem Tr.int (h:P.underlying t=some (.int .i64)):Tr P shp t .int:=fun _ enc w fuel cs x hx _ _=>by
 obtain ⟨n,rfl,_,hw⟩:=DataW.trod_int h hx
 have h1:IntKind.i64.min = -9223372036854775808:=rfl
 have h2:IntKind.i64.max=9223372036854775807:=rfl
 simp only [Lit.wf,Bool.and_eq_true,decide_eq_true_eq] at hw
 exact ⟨n,.cons (.int ⟨by omega,by omega⟩) .nil⟩
theorem Tr.bool (h:P.underlying t=some .bool):Tr P shp t .bool:=fun _ enc w fuel cs x hx _ _=>by
 obtain ⟨n,rfl,_⟩:=DataW.trod_bool h hx
 exact ⟨n,.cons (Pd.bool (e:=.atom n)) .nil⟩
theorem Tr.u8 (h:P.underlying t=some (.int .u8)):Tr P shp t .u8:=fun _ enc w fuel cs x hx _ _=>by
 obtain ⟨n,rfl,_,hw⟩:=DataW.trod_int h hx
 have h1:IntKind.u8.min=0:=rfl
 have h2:IntKind.u8.max=255:=rfl
 simp only [Lit.wf,Bool.and_eq_true,decide_eq_true_eq] at hw
 refine ⟨UInt8.ofNat n.toNat,?_⟩
 have:n=((UInt8.ofNat n.toNat).toNat:Int):=by
  rw [UInt8.toNat_ofNat']; omega
 generalize hg:UInt8.ofNat n.toNat=b at this
 subst this
 exact .cons .u8 .nil
theorem Tr.u64 (h:P.underlying t=some (.int .u64)):Tr P shp t .u64:=fun _ enc w fuel cs x hx _ _=>by
 obtain ⟨n,rfl,_,hw⟩:=DataW.trod_int h hx
 have h1:IntKind.u64.min=0:=rfl
 have h2:IntKind.u64.max=18446744073709551615:=rfl
 simp only [Lit.wf,Bool.and_eq_true,decide_eq_true_eq] at hw
 refine ⟨⟨n.toNat⟩,?_⟩
 have:n=(n.toNat:Int):=by omega
 generalize hg:n.toNat=b at this
 subst this
 exact .cons (.u64 (by show b<_; omega)) .nil
theorem Tr.str (h:P.underlying t=some .string):Tr P shp t .str:=fun _ enc w fuel cs x hx hw _=>by
 obtain ⟨s,rfl,hx,_⟩:=DataW.trod_string h hx
 refine ⟨⟨s.data.toList⟩,?_⟩
 have:=hw s.data.toList.length (by rw [hx]; simp [DataW.weights])
 have e:=Pd.str (c:=iZ shp w) (s:=⟨s.data.toList⟩) (by show s.data.toList.length<=_; omega)
 have e2:(⟨s.data.toList⟩:Str).val = .string s:=by simp [Str.val]
 rw [e2] at e
 exact .cons e .nil
theorem eZ {H:Type} {e:TypeId}:∀ {ds:List (DataW H)} {d:DataW H},d ∈ ds->∀ n ∈ d.weights P e,n ∈ DataW.weightsAll P e ds
 | [],_,h,_,_=>by cases h
 | d0 :: ds,d,h,n,hn=>by
  rw [DataW.weightsAll,List.mem_append]
  rcases List.mem_cons.1 h with rfl | h
  ·exact .inl hn
  ·exact .inr (eZ h n hn)
theorem tD {s:Sh} {xs:List (den s)} {y:den s}:(xs++[y]).flatMap (cellsOf s)=xs.flatMap (cellsOf s)++cellsOf s y:=by simp
theorem Tr.list {e:TypeId} {s:Sh} (ht:P.underlying t=some (.slice e)) (hC:P.cellsOf e=s.size) (hB:P.bytesOf e=s.bytes) (he:Tr P shp e s):Tr P shp t (.lst s):=fun H enc w fuel cs x hx hw hlt=>by
 have hp:=size_pos s
 rcases DataW.trod_slice ht hx with ⟨rfl,_⟩ | ⟨a,len,cap,elems,rest,n,rfl,rfl,rfl,_,hl,hc,hel,hget,hrest,_⟩
 ·exact ⟨([]:List (den s)),.cons (Pd.mG (.em (a:=none) (b:=true) rfl)) .nil⟩
 ·rw [hC] at *
  have step:∀ m,m<=len->∃ (cells:List Value) (xs:List (den s)),Pds (iZ shp w) (xs.flatMap (cellsOf s)) cells/\xs.length=m/\CellsAt w a cells:=by
   intro m
   induction m with
   | zero=>intro _; exact ⟨[],[],.nil,rfl,CellsAt.nil⟩
   | succ m ih=>
    intro hm
    obtain ⟨cells,xs,h1,h2,h3⟩:=ih (by omega)
    have hg:=hget m (by omega)
    have hem:elems[m]? = some (elems[m]'(by omega)):=List.getElem?_eq_getElem (by omega)
    rw [hem,Option.bind_eq_some_iff] at hg
    obtain ⟨cs,hcs,htr⟩:=hg
    have hmem:elems[m]'(by omega) ∈ elems:=List.getElem_mem _
    obtain ⟨y,hy⟩:=he H enc w n cs _ htr
     (fun k hk=>hw k (by
      simp only [DataW.weights,ht,List.mem_cons,List.mem_append]
      exact .inr (.inl (eZ (List.mem_map_of_mem hmem) k hk))))
     (fun q hq=>hlt q (by
      simp only [List.mem_append,List.mem_flatMap]
      exact .inr ⟨_,.inl hmem,hq⟩))
    obtain ⟨_,hcl,hat⟩:=World.cells?_some hcs
    refine ⟨cells++cs,xs++[y],by rw [tD]; exact h1.append hy,by simp [h2],fun j v hv=>?_⟩
    have hfl:cells.length=m*s.size:=by rw [<- h1.length,bf,h2]
    by_cases hj:j<m*s.size
    ·rw [List.getElem?_append_left (by omega)] at hv
     exact h3 j v hv
    ·rw [List.getElem?_append_right (by omega),hfl] at hv
     have hj2:=Cf hv
     have:=hat (j - m*s.size) (by omega)
     rw [hv,add_add,show m*s.size+(j - m*s.size)=j by omega] at this
     exact this
  obtain ⟨cells,xs,h1,h2,h3⟩:=step len (Nat.le_refl _)
  have hwt:(elems.length+rest.length)*P.bytesOf e<=140737488351232:=hw _ (by simp [DataW.weights,ht])
  refine ⟨xs,.cons ?_ .nil⟩
  subst h2
  refine .fz (by omega) hc ?_ h1 ?_
  ·rw [hB] at hwt
   have:xs.length*s.bytes<=(elems.length+rest.length)*s.bytes:=Nat.mul_le_mul_right _ (by omega)
   omega
  ·by_cases h0:xs.length=0
   ·left; exact List.eq_nil_of_length_eq_zero h0
   ·right
    refine ⟨a,rfl,Bw ?_,h3⟩
    have:MemPlace.cell a.block (a.off+0) ∈ MemPlace.row a ((elems.length+rest.length)*s.size):=MemPlace.mem_row.2 ⟨0,Nat.mul_pos (by omega) hp,rfl⟩
    exact hlt _ (List.mem_append_left _ this)
theorem my.nil {o:Nat}:my P shp [] o []:=fun H enc w fuel cs xs hl _ _ _ _=>⟨[],rfl,by rw [List.drop_eq_nil_of_le (by simp only [DD] at hl; omega)]; exact .nil⟩
theorem my.cons {f:Go.Field} {fs:List Go.Field} {o:Nat} {s:Sh} {ss:List Sh} (h:Tr P shp f.type s) (ho:f.offset=o) (hC:P.cellsOf f.type=s.size) (hr:my P shp fs (o+s.size) ss):my P shp (f :: fs) o (s :: ss):=fun H enc w fuel cs xs hl hx hf hw hlt=>by
 match xs,hx with
 | x :: xs,hx=>
  have hl':cs.length=o+(s.size+DD ss):=hl
  have h1:=hf 0 f rfl
  rw [ho,hC] at h1
  obtain ⟨y,hy⟩:=h H enc w fuel _ x h1 (fun n hn=>hw n (by simp [DataW.weightsEach,hn])) (fun q hq=>hlt q (by simp [hq]))
  obtain ⟨z,hz1,hz2⟩:=hr H enc w fuel cs xs (by omega) (by simpa using hx) (fun i f' hi=>by simpa using hf (i+1) f' (by simpa using hi)) (fun n hn=>hw n (by simp only [List.map_cons,DataW.weightsEach,List.mem_append]; exact .inr hn)) (fun q hq=>hlt q (by simp only [List.flatMap_cons,List.mem_append]; exact .inr hq))
  refine ⟨cellsOf s y++z,⟨y,z,rfl,hz1⟩,?_⟩
  have:=hy.append hz2
  rwa [<- List.drop_drop,List.take_append_drop] at this
theorem Tr.struct {s:Sh} {ss:List Sh} {fs:Array Go.Field} (ht:P.underlying t=some (.struct fs)) (hC:P.cellsOf t=DD ss) (hs:∀ asx,Ce ss asx->∃ y:den s,asx=cellsOf s y) (h:my P shp fs.toList 0 ss):Tr P shp t s:=fun H enc w fuel cs x hx hw hlt=>by
 obtain ⟨xs,n,_,rfl,hl,hxl,hf⟩:=DataW.trod_struct ht hx
 obtain ⟨asx,h1,h2⟩:=h H enc w n cs xs (by omega) (by simpa using hxl) (fun i f hi=>hf i f (by simpa using hi)) (fun k hk=>hw k (by simpa [DataW.weights,ht] using hk)) hlt
 obtain ⟨y,rfl⟩:=hs asx h1
 exact ⟨y,by simpa using h2⟩
end
section
variable {H:Type} {enc:TypeId × Value->H} {P:Program} {shp:TypeId->Option Sh}
structure Ar (enc:TypeId × Value->H) (P:Program) (W:World) (t:TypeId) (v:Value):Prop where
 form:∃ base,Value.okWide P W .any base t v
 read:∃ d p fuel,DataW.trod enc P W 0 (fun _=>true) true fuel t v.cells.toList=some (d,p)/\(∀ n ∈ d.weights P t,n<=140737488351232)/\(∀ q ∈ p,q.block<W.heap.size)
variable {W:World} {t:TypeId} {v:Value}
theorem Ar.rp {s:Sh} (h:Ar enc P W t v) (ht:Tr P shp t s):∃ y:den s,Pds (iZ shp W) (cellsOf s y) v.cells.toList:=by
 obtain ⟨d,p,fuel,h1,h2,h3⟩:=h.read
 exact ht H enc W fuel _ _ h1 h2 h3
theorem qj {a:AV} {u:Value} (h:Pds (iZ shp W) [a] [u]):bt (iZ shp W) [] (.c a) u:=by cases h with | cons h1 _=>exact eX h1
theorem Ar.int (h:Ar enc P W t v) (ht:P.underlying t=some (.int .i64)):∃ y:Int,bt (iZ shp W) [] (.c (.int y)) v:=by
 obtain ⟨base,hf⟩:=h.form
 obtain ⟨n,rfl⟩:=okWide_int ht hf
 obtain ⟨y,h1⟩:=h.rp (shp:=shp) (Tr.int ht)
 exact ⟨y,qj (by simpa [Value.cells,cellsOf] using h1)⟩
theorem Ar.u8 (h:Ar enc P W t v) (ht:P.underlying t=some (.int .u8)):∃ y:UInt8,bt (iZ shp W) [] (.c (.u8 y)) v:=by
 obtain ⟨base,hf⟩:=h.form
 obtain ⟨n,rfl⟩:=okWide_int ht hf
 obtain ⟨y,h1⟩:=h.rp (shp:=shp) (Tr.u8 ht)
 exact ⟨y,qj (by simpa [Value.cells,cellsOf] using h1)⟩
theorem Ar.bool (h:Ar enc P W t v) (ht:P.underlying t=some .bool):∃ y:Bool,bt (iZ shp W) [] (.c (.bool (.atom y))) v:=by
 obtain ⟨base,hf⟩:=h.form
 obtain ⟨b,rfl⟩:=okWide_bool ht hf
 exact ⟨b,Pd.bool (e:=.atom b)⟩
theorem Ar.list {e:TypeId} {s:Sh} (h:Ar enc P W t v) (hu:P.underlying t=some (.slice e)) (ht:Tr P shp t (.lst s)):∃ xs:List (den s),bt (iZ shp W) [] (.c (.fz s xs)) v:=by
 obtain ⟨base,hf⟩:=h.form
 obtain ⟨a,len,cap,rfl⟩:=okWide_slice hu hf
 obtain ⟨y,h1⟩:=h.rp ht
 exact ⟨y,qj (by simpa [Value.cells,cellsOf] using h1)⟩
theorem ze {f:Nat} {args:List TV1} {pre:List Prop} {e:BE} {vs:List Value} (h:Sat P shp f args [] ⟨pre,[.c (.bool e)],none,false⟩) (he:e.val=true) (hv:All2 (bt (iZ shp W) []) args vs) (htb:TabsOK (iZ shp W):=by refine ⟨?_,?_⟩ <;> intro e he <;> first | simp [qP] at he | simp [tN] at he):lY P f vs.toArray W fun r W'=>r = .bool true/\Kp [] W W':=by
 refine (h.2 ⟨shp,W.heap.size,fun _=>False⟩ [] W vs rfl ⟨.nil,fun _ _ _ _ _ h=>by simp at h,fun _ _ _ h=>by simp at h,fun _ h=>h.elim,Nat.le_refl _,htb⟩ hv).mono fun v w' ⟨us,h1,h2,h3⟩=>⟨?_,h2⟩
 cases h3 with | cons h4 h5=>
 cases h5
 have h4:Pd _ (.bool e) _:=h4
 cases h4
 rw [h1,he]; rfl
theorem sc {base:Nat} {ts:List TypeId} {args:Array Value} {ds:List (DataW H)} {p:List MemPlace} (hf:∀ (j:Nat) t v,ts[j]? = some t->args[j]? = some v->Value.okWide P W .any base t v)
  (h:DataW.TrodAll enc P W 0 (fun _=>true) true ts args.toList ds p) (hw:∀ n ∈ DataW.weightsEach P ts ds,n<=140737488351232) (hlt:∀ q ∈ p,q.block<W.heap.size) :
  args.size=ts.length/\∀ (j:Nat) t v,ts[j]? = some t->args[j]? = some v->Ar enc P W t v:=by
 have key:∀ (ts:List TypeId) (vs:List Value) (ds:List (DataW H)) (p:List MemPlace),DataW.TrodAll enc P W 0 (fun _=>true) true ts vs ds p->(∀ n ∈ DataW.weightsEach P ts ds,n<=140737488351232)->(∀ q ∈ p,q.block<W.heap.size) ->
   vs.length=ts.length/\∀ (j:Nat) t v,ts[j]? = some t->vs[j]? = some v->∃ d p fuel,DataW.trod enc P W 0 (fun _=>true) true fuel t v.cells.toList=some (d,p)/\(∀ n ∈ d.weights P t,n<=140737488351232)/\(∀ q ∈ p,q.block<W.heap.size):=by
  intro ts
  induction ts with
  | nil=>intro vs ds p h _ _; obtain ⟨rfl,_,_⟩:=trodAll_nil h; exact ⟨rfl,fun j t v h=>by simp at h⟩
  | cons t ts ih=>
   intro vs ds p h hw hlt
   obtain ⟨v,vs,d,ds,p1,p2,rfl,rfl,rfl,h1,h2⟩:=trodAll_cons h
   obtain ⟨k1,k2⟩:=ih vs ds p2 h2 (fun n hn=>hw n (by rw [DataW.weightsEach,List.mem_append]; exact .inr hn)) (fun q hq=>hlt q (List.mem_append_right _ hq))
   refine ⟨by simp [k1],fun j t' v' ht hv=>?_⟩
   cases j with
   | zero=>
    simp at ht hv
    subst ht; subst hv
    obtain ⟨fuel,hf⟩:=h1
    exact ⟨d,p1,fuel,hf,fun n hn=>hw n (by rw [DataW.weightsEach,List.mem_append]; exact .inl hn),fun q hq=>hlt q (List.mem_append_left _ hq)⟩
   | succ j=>exact k2 j t' v' (by simpa using ht) (by simpa using hv)
 obtain ⟨k1,k2⟩:=key ts args.toList ds p h hw hlt
 exact ⟨by simpa using k1,fun j t v ht hv=>⟨⟨base,hf j t v ht hv⟩,k2 j t v ht (by simpa using hv)⟩⟩
theorem sW (hl:laidOutB P=true) {W':World} (hb:Below W.heap.size W W'):∀ (ts:List TypeId) (vs:List Value) (ds:List (DataW H)) (p:List MemPlace),ts.all (fun t=>P.readableRec t && decide (t<P.types.size))=true->DataW.TrodAll enc P W 0 (fun _=>true) true ts vs ds p->(∀ q ∈ p,q.block<W.heap.size) ->
  DataW.TrodAll enc P W' 0 (fun b=>decide (b<W.heap.size)) true ts vs ds p:=by
 intro ts
 induction ts with
 | nil=>intro vs ds p _ h _; obtain ⟨rfl,rfl,rfl⟩:=trodAll_nil h; rfl
 | cons t ts ih=>
  intro vs ds p hr h hlt
  obtain ⟨v,vs,d,ds,p1,p2,rfl,rfl,rfl,h1,h2⟩:=trodAll_cons h
  rw [List.all_cons,Bool.and_eq_true,Bool.and_eq_true,decide_eq_true_eq] at hr
  exact ⟨p1,p2,Below.trod hl hr.1.1 hr.1.2 h1 hb fun q hq=>hlt q (List.mem_append_left _ hq),ih vs ds p2 hr.2 h2 fun q hq=>hlt q (List.mem_append_right _ hq),rfl⟩
theorem pY {fn:Func} {s:ChangeSpec} {tb:TypeId} {W':World} {args:Array Value} {ds:List (DataW H)} {p:List MemPlace} (hl:laidOutB P=true)
  (hrow:fn.params.toList.all (fun t=>P.readableRec t && decide (t<P.types.size))=true) (hr:fn.resultTypes = #[tb]) (hb:P.underlying tb=some .bool) (hv:s.vars=[])
  (hs:s.fn H (ds++[])={ results:=[.lit (.bool true)],args:=ds }) (hW:DataW.Whole enc P fn.params.toList s.vars false W args.toList ds [] p) (hA:DataW.TrodAll enc P W 0 (fun _=>true) true fn.params.toList args.toList ds p) (hlt:∀ q ∈ p,q.block<W.heap.size) (hk:Kp [] W W') :
  s.post enc P fn false true false false W args (.bool true) W':=by
 refine ⟨ds,[],p,[],p,[],hW,?_,?_,?_,hk.below.frame _,fun h=>by cases h⟩
 ·rw [hs,hr]
  exact trodAll_mk1 ⟨1,by simp [DataW.trod,Value.cells,hb]⟩
 ·rw [hs]
  exact sW hl hk.below _ _ _ _ hrow hA hlt
 ·rw [hs,hv]; rfl
end
end Go.Proofs.YtagpmhlokhoanaaDoor
namespace Go.Proofs.YtagpmhlokhoanaaDoor
open Go.RowKit Go.ChangeShapes Go.WideShapes
theorem oT {H:Type} {enc:TypeId × Value->H} {P:Program} {w:World} {base:Nat} {sp:Nat->Bool} {held:Bool} {fuel:Nat} {t e:TypeId} {n:Nat} {cs:List Value} {ls:List (List UInt8)} {p:List MemPlace}
  (ht:P.underlying t=some (.array n e)) (he:P.underlying e=some .string) (hce:P.cellsOf e=1) (hct:P.cellsOf t=n)
  (h:DataW.trod enc P w base sp held fuel t cs=some (.agg (ls.map fun b=>.lit (.string b)),p)):cs=ls.map fun b=>Value.string ⟨b.toArray⟩:=by
 obtain ⟨xs,m,rfl,hx,hl,hn,hel⟩:=DataW.trod_array ht h
 simp only [Prod.mk.injEq,DataW.agg.injEq] at hx
 have hxs:=hx.1
 have hzl:ls.length=n:=by
  have:=congrArg List.length hxs
  simp at this; omega
 rw [hct] at hl
 apply List.ext_getElem?
 intro i
 by_cases hi:i<n
 ·have h1:=hel i hi
  rw [hce,Nat.mul_one] at h1
  have hxi:xs[i]? = some (xs[i]'(by omega)):=List.getElem?_eq_getElem (by omega)
  rw [hxi] at h1
  obtain ⟨s,hc,hq,_⟩:=DataW.trod_string he h1
  have h2:cs[i]? = some (.string s):=by
   have:=congrArg (·[0]?) hc
   simpa [List.getElem?_take,List.getElem?_drop] using this
  have h3:=congrArg (·[i]?) hxs
  simp only [List.getElem?_map,hxi,Option.map_some,hq] at h3
  cases hq2:ls[i]? with
  | none=>rw [hq2] at h3; cases h3
  | some b=>
   rw [hq2] at h3
   simp only [Option.map_some,Option.some.injEq,DataW.lit.injEq,Lit.string.injEq] at h3
   rw [h2,List.getElem?_map,hq2,h3]
   simp
 ·rw [List.getElem?_eq_none (by omega),List.getElem?_eq_none (by simp; omega)]
theorem fh {P:Program} {w:World} {name:String} {g:Nat} {cs:List Value} (hg:P.globalNamed name=some g) (h:w.var? P name=some cs.toArray):∃ t fr,w.heap[g]? = some (.cells (List.toArray cs) t fr):=by
 unfold World.var? at h
 rw [hg] at h
 have h':(match w.heap[g]? with
  | some (.cells cs _ _)=>some cs
  | _=>none)=some cs.toArray:=h
 split at h'
 ·rename_i c t fr hq
  cases h'
  exact ⟨t,fr,hq⟩
 ·cases h'
theorem o_ {c:Cx}:∀ {l:List Str},(∀ s ∈ l,s.b.length<=140737488355328)->Pds c (l.flatMap (cellsOf .str)) (l.map Str.val)
 | [],_=>.nil
 | s :: l,h=>.cons (.str (h s (by simp))) (o_ fun x hx=>h x (by simp [hx]))
theorem qe {c:Cx}:∀ {l:List U64},(∀ s ∈ l,s.n<18446744073709551616)->Pds c (l.flatMap (cellsOf .u64)) (l.map fun x=>.int .u64 (x.n:Int))
 | [],_=>.nil
 | s :: l,h=>.cons (.u64 (h s (by simp))) (qe fun x hx=>h x (by simp [hx]))
section
variable {H:Type} {enc:TypeId × Value->H}
theorem xB {C:Checked} {os:Os} {f:FuncId} {fn:Func} {s:ChangeSpec} {conds:List PathCond} {tb:TypeId} {L:List (String × DataW Unit)} (own:ownKnob C.prog.godebug=none) (started:os.Started) (noInit:C.prog.inits.idxOf? f=none) (hfn:C.prog.funcs[f]? = some fn)
  (witness:∃ (w:World) (tape:Tape) (i:Input),w.os=os/\(w.forCall tape i).Shaped C.prog/\i.vars=[]/\Input.okWide C.prog (w.forCall tape i) .any w.heap.size f i /\
   ((s.pre enc C.prog fn conds false (w.forCall tape i).memory i.args/\laidMetH C.prog L (w.forCall tape i).memory)/\sizedMet enc C.prog fn (OpenSpec.ofChange s) false (w.forCall tape i).memory i.args)/\({}:Assume).holds C.prog (lone (Frame.enter C.prog f i.args .normal) [] (w.forCall tape i)))
  (hl:laidOutB C.prog=true) (hrow:fn.params.toList.all (fun t=>C.prog.readableRec t && decide (t<C.prog.types.size))=true) (hr:fn.resultTypes = #[tb]) (hb:C.prog.underlying tb=some .bool) (hv:s.vars=[])
  (hs:∀ ds:List (DataW H),ds.length=fn.params.size->s.fn H ds={ results:=[.lit (.bool true)],args:=ds })
  (law:∀ (W:World) (args:Array Value),laidMetH C.prog L W->args.size=fn.params.toList.length->(∀ (j:Nat) t v,fn.params.toList[j]? = some t->args[j]? = some v->Ar enc C.prog W t v)->lY C.prog f args W fun r W'=>r = .bool true/\Kp [] W W') :
  ReturnsInHanded {} C os f .any (fun w args=>(s.pre enc C.prog fn conds false w args/\laidMetH C.prog L w)/\sizedMet enc C.prog fn (OpenSpec.ofChange s) false w args) (s.post enc C.prog fn false true false false):=by
 refine returnsInHanded_of_change_and (X:=fun w _=>laidMetH C.prog L w) (fun _ _ _ hh h=>h.of_heap hh) own started noInit hfn witness ?_
 intro W base args ds gs before hval hW _ hsz hL _
 have hW0:=hW
 obtain ⟨p,q,hA,hV,rfl,_,_⟩:=hW
 rw [hv] at hV
 obtain ⟨rfl,rfl⟩:=trodVars_none hV
 simp only [List.append_nil] at hW0 hsz
 have hlt:∀ x ∈ p,x.block<W.heap.size:=fun x hx=>by simpa using hW0.lt x hx
 have hwt:∀ n ∈ DataW.weightsEach C.prog fn.params.toList ds,n<=140737488351232:=fun n hn=>by
  have hmem:n ∈ DataW.weightsEach C.prog (fn.params.toList++s.plain.varTypes C.prog) ds:=by
   have:∀ (ts us:List TypeId) (ds:List (DataW H)),n ∈ DataW.weightsEach C.prog ts ds->n ∈ DataW.weightsEach C.prog (ts++us) ds:=by
    intro ts
    induction ts with
    | nil=>intro us ds h; simp [DataW.weightsEach] at h
    | cons t ts ih=>
     intro us ds h
     cases ds with
     | nil=>simp [DataW.weightsEach] at h
     | cons d ds=>
      rw [DataW.weightsEach,List.mem_append] at h
      rw [List.cons_append,DataW.weightsEach,List.mem_append]
      exact h.imp id (ih us ds)
   exact this _ _ _ hn
  exact of_decide_eq_true (List.all_eq_true.1 hsz n hmem)
 obtain ⟨hsize,har⟩:=sc (fun j t v ht hv=>hval j t v (by simpa using ht) hv) hA hwt hlt
 have hdl:ds.length=fn.params.size:=by
  have:∀ (ts:List TypeId) (vs:List Value) (ds:List (DataW H)) (p:List MemPlace),DataW.TrodAll enc C.prog W 0 (fun _=>true) true ts vs ds p->ds.length=ts.length:=by
   intro ts
   induction ts with
   | nil=>intro vs ds p h; obtain ⟨_,rfl,_⟩:=trodAll_nil h; rfl
   | cons t ts ih=>intro vs ds p h; obtain ⟨v,vs,d,ds,p1,p2,rfl,rfl,rfl,_,h2⟩:=trodAll_cons h; simp [ih vs ds p2 h2]
  simpa using this _ _ _ _ hA
 refine Calls.mono (law W args hL hsize har) fun e W' ⟨v,he,hv',hk⟩=>⟨v,he,?_⟩
 subst hv'
 exact pY hl hrow hr hb hv (by rw [List.append_nil]; exact hs ds hdl) hW0 hA hlt hk
theorem jU {C:Checked} {os:Os} {f:FuncId} {fn:Func} {s:ChangeSpec} {conds:List PathCond} {tb:TypeId} {L:List (String × DataW Unit)} (own:ownKnob C.prog.godebug=none) (started:os.Started) (noInit:C.prog.inits.idxOf? f=none) (hfn:C.prog.funcs[f]? = some fn)
  (witness:∃ (w:World) (tape:Tape) (i:Input),w.os=os/\(w.forCall tape i).Shaped C.prog/\i.vars=[]/\Input.okWide C.prog (w.forCall tape i) .any w.heap.size f i /\
   ((s.pre enc C.prog fn conds false (w.forCall tape i).memory i.args/\laidMetH C.prog L (w.forCall tape i).memory)/\sizedMet enc C.prog fn (OpenSpec.ofChange s) false (w.forCall tape i).memory i.args)/\({}:Assume).holds C.prog (lone (Frame.enter C.prog f i.args .normal) [] (w.forCall tape i)))
  (hl:laidOutB C.prog=true) (hrow:fn.params.toList.all (fun t=>C.prog.readableRec t && decide (t<C.prog.types.size))=true) (hr:fn.resultTypes = #[tb]) (hb:C.prog.underlying tb=some .bool) (hv:s.vars=[])
  (hs:∀ ds:List (DataW H),ds.length=fn.params.size->s.fn H ds={ results:=[.lit (.bool true)],args:=ds })
  (law:∀ (W:World) (args:Array Value),laidMetH C.prog L W->W.ShapedOpen C.prog->args.size=fn.params.toList.length->(∀ (j:Nat) t v,fn.params.toList[j]? = some t->args[j]? = some v->Ar enc C.prog W t v)->lY C.prog f args W fun r W'=>r = .bool true/\Kp [] W W') :
  ReturnsInHanded {} C os f .any (fun w args=>(s.pre enc C.prog fn conds false w args/\laidMetH C.prog L w)/\sizedMet enc C.prog fn (OpenSpec.ofChange s) false w args) (s.post enc C.prog fn false true false false):=by
 refine returnsInHanded_of_calls own started noInit witness ?_
 intro w tape i _ hsh _ hok hpre _
 obtain ⟨_,_,_,fn',hfn',_,_,_,_,hval⟩:=hok
 have e:fn' = fn:=Option.some.inj (hfn'.symm.trans hfn)
 subst e
 obtain ⟨⟨⟨ds,gs,before,hw,hc⟩,hx⟩,hz⟩:=hpre
 have hw':=DataW.Whole.of_heap (w':=w.forCall tape i) (by rfl) hw
 suffices main:∀ (W:World) (base:Nat) (args:Array Value),(∀ (j:Nat) t v,fn'.params[j]? = some t->args[j]? = some v->Value.okWide C.prog W .any base t v)->DataW.Whole enc C.prog fn'.params.toList s.vars false W args.toList ds gs before ->
   (DataW.weightsEach C.prog (fn'.params.toList++s.plain.varTypes C.prog) (ds++gs)).all (· <= reachBytes)=true->laidMetH C.prog L W->W.ShapedOpen C.prog->Calls C.prog f args W fun e W'=>∃ v,e = .returned v/\s.post enc C.prog fn' false true false false W args v W' by
  refine (main (w.forCall tape i) w.heap.size i.args hval hw' (hz.weights hw) (laidMetH.of_heap (by rfl) hx) hsh).mono fun e W' ⟨v,he,hp⟩=>?_
  subst he
  exact ChangeSpec.post_blind hp
 clear hval hw hc hx hz hw' hsh
 intro W base args hval hW hsz hL hsh
 have hW0:=hW
 obtain ⟨p,q,hA,hV,rfl,_,_⟩:=hW
 rw [hv] at hV
 obtain ⟨rfl,rfl⟩:=trodVars_none hV
 simp only [List.append_nil] at hW0 hsz
 have hlt:∀ x ∈ p,x.block<W.heap.size:=fun x hx=>by simpa using hW0.lt x hx
 have hwt:∀ n ∈ DataW.weightsEach C.prog fn'.params.toList ds,n<=140737488351232:=fun n hn=>by
  have hmem:n ∈ DataW.weightsEach C.prog (fn'.params.toList++s.plain.varTypes C.prog) ds:=by
   have:∀ (ts us:List TypeId) (ds:List (DataW H)),n ∈ DataW.weightsEach C.prog ts ds->n ∈ DataW.weightsEach C.prog (ts++us) ds:=by
    intro ts
    induction ts with
    | nil=>intro us ds h; simp [DataW.weightsEach] at h
    | cons t ts ih=>
     intro us ds h
     cases ds with
     | nil=>simp [DataW.weightsEach] at h
     | cons d ds=>
      rw [DataW.weightsEach,List.mem_append] at h
      rw [List.cons_append,DataW.weightsEach,List.mem_append]
      exact h.imp id (ih us ds)
   exact this _ _ _ hn
  exact of_decide_eq_true (List.all_eq_true.1 hsz n hmem)
 obtain ⟨hsize,har⟩:=sc (fun j t v ht hv=>hval j t v (by simpa using ht) hv) hA hwt hlt
 have hdl:ds.length=fn'.params.size:=by
  have:∀ (ts:List TypeId) (vs:List Value) (ds:List (DataW H)) (p:List MemPlace),DataW.TrodAll enc C.prog W 0 (fun _=>true) true ts vs ds p->ds.length=ts.length:=by
   intro ts
   induction ts with
   | nil=>intro vs ds p h; obtain ⟨_,rfl,_⟩:=trodAll_nil h; rfl
   | cons t ts ih=>intro vs ds p h; obtain ⟨v,vs,d,ds,p1,p2,rfl,rfl,rfl,_,h2⟩:=trodAll_cons h; simp [ih vs ds p2 h2]
  simpa using this _ _ _ _ hA
 refine Calls.mono (law W args hL hsh hsize har) fun e W' ⟨v,he,hv',hk⟩=>⟨v,he,?_⟩
 subst hv'
 exact pY hl hrow hr hb hv (by rw [List.append_nil]; exact hs ds hdl) hW0 hA hlt hk
end
end Go.Proofs.YtagpmhlokhoanaaDoor
namespace Go.Proofs.YtagpmhlokhoanaaDoor
open Go.RowKit Go.ChangeShapes Go.WideShapes
theorem xc {c:Array Value} {l:List Value} (h:c.toList=l):c=l.toArray:=by rw [<- h]
theorem fO {W:World} {g:Nat} {o:Obj} (h:W.heap[g]? = some o):(iZ (ai aX) W).S g/\g<(iZ (ai aX) W).B0:=by
 have h1:=(Array.getElem?_eq_some_iff.1 h).1
 refine ⟨⟨h1,?_,fun h=>h⟩,h1⟩
 rintro ⟨i,r,h2,_⟩
 simp at h2
theorem zm {W:World} {g:Nat} {xs:List Str} {t:TypeId} {fr:Nat × Nat} (h:W.heap[g]? = some (.cells (List.toArray (xs.map Str.val)) t fr)) (h1:xs.length<=1000) (h2:∀ s ∈ xs,s.b.length<=140737488355328):(iZ (ai aX) W).S g/\g<(iZ (ai aX) W).B0/\xs.length<=maxLen/\xs.length*Sh.bytes .str<=140737488355328/\∃ cells t fr,(iZ (ai aX) W).w.heap[g]? = some (.cells (List.toArray cells) t fr)/\Pds (iZ (ai aX) W) (xs.flatMap (cellsOf .str)) cells:=
 ⟨(fO h).1,(fO h).2,by simp only [maxLen]; omega,by simp only [Sh.bytes]; omega,_,t,fr,h,o_ h2⟩
theorem xR {W:World} {g:Nat} {xs:List U64} {t:TypeId} {fr:Nat × Nat} (h:W.heap[g]? = some (.cells (List.toArray (xs.map fun x=>Value.int .u64 (x.n:Int))) t fr)) (h1:xs.length<=1000) (h2:∀ s ∈ xs,s.n<18446744073709551616):(iZ (ai aX) W).S g/\g<(iZ (ai aX) W).B0/\xs.length<=maxLen/\xs.length*Sh.bytes .u64<=140737488355328/\∃ cells t fr,(iZ (ai aX) W).w.heap[g]? = some (.cells (List.toArray cells) t fr)/\Pds (iZ (ai aX) W) (xs.flatMap (cellsOf .u64)) cells:=
 ⟨(fO h).1,(fO h).2,by simp only [maxLen]; omega,by simp only [Sh.bytes]; omega,_,t,fr,h,qe h2⟩
theorem yn {W:World} (h0:∃ t fr,W.heap[0]? = some (.cells (List.toArray (bU.map Str.val)) t fr)) (h1:∃ t fr,W.heap[1]? = some (.cells (List.toArray (qB.map fun x=>Value.int .u64 (x.n:Int))) t fr))
  (h2:∃ m t fr,W.heap[2]? = some (.cells #[.int .i64 m] t fr)) (h3:∃ tp p t fr,W.heap[3]? = some (.cells #[.iface tp p] t fr)) (h4:∃ tp p t fr,W.heap[4]? = some (.cells #[.iface tp p] t fr)):TabsOK (iZ (ai aX) W):=by
 obtain ⟨t0,f0,h0⟩:=h0
 obtain ⟨t1,f1,h1⟩:=h1
 obtain ⟨m2,t2,f2,h2⟩:=h2
 obtain ⟨a3,b3,t3,f3,h3⟩:=h3
 obtain ⟨a4,b4,t4,f4,h4⟩:=h4
 refine ⟨fun q hq=>?_,fun e he=>?_⟩
 ·simp only [tN,List.mem_cons,List.not_mem_nil,or_false] at hq
  rcases hq with rfl | rfl | rfl
  ·exact ⟨(fO h2).1,_,_,_,h2,m2,rfl⟩
  ·exact ⟨(fO h3).1,_,_,_,h3,_,_,rfl⟩
  ·exact ⟨(fO h4).1,_,_,_,h4,_,_,rfl⟩
 ·simp only [qP,List.mem_cons,List.not_mem_nil,or_false] at he
  rcases he with rfl | rfl
  ·exact zm h0 (by decide) (by decide)
  ·exact xR h1 (by decide) (by decide)
theorem star:"*" ++ "errors.errorString" = "*errors.errorString":=by decide
theorem En (u:TypeId) (h:Tryd.prog.typeName? 3 u=some "*errors.errorString"):u=118:=
 typeName_ptr_named (nm:="errors.errorString") (by rw [star]; kernel_rfl) (by kernel_rfl) (by decide) u (by rw [star]; exact h)
theorem Ay {W:World} (h:W.ShapedOpen Tryd.prog):∃ m t fr,W.heap[2]? = some (.cells #[.int .i64 m] t fr):=by
 have hlt:2<Tryd.prog.globals.size:=Nat.le_of_ble_eq_true (show Nat.ble 3 Tryd.prog.globals.size=true by kernel_rfl)
 have hb:((begin Tryd.prog (fun _ _=>0) default).world.heap[2]?).bind Obj.row? = some (#[.int .i64 0],3):=by kernel_rfl
 obtain ⟨m,hm⟩:=cell_of_shapedOpen_int h hlt hb rfl (by kernel_rfl) (by kernel_rfl) Tryd.underlying3
 obtain ⟨cs,hh,hs,_⟩:=h.1 2 _ _ hlt hb
 have hcs:cs = #[.int .i64 m]:=by
  obtain ⟨l⟩:=cs
  have hl:l.length=1:=hs
  match l,hl with
  | [x],_=>
   have:W.cell? ⟨2,0,none⟩=some x:=by simp [World.cell?,hh]
   rw [this] at hm
   cases hm; rfl
 rw [hcs] at hh
 exact ⟨m,_,_,hh⟩
theorem vT {W:World} {n:String} {g:Nat} {text:List UInt8} {r:List (String × DataW Unit)} (h:laidMet Tryd.prog ((n,.iface "*errors.errorString" (.ptr (.agg [.lit (.string text)]))) :: r) W)
  (hg:Tryd.prog.globalNamed n=some g) (ht:(Tryd.prog.globals[g]?).map (·.type)=some 64):∃ tp p t fr,W.heap[g]? = some (.cells #[.iface tp p] t fr):=by
 obtain ⟨a,s,hv,-,-,-⟩:=laid_sentinel h hg ht Tryd.underlying64 En Tryd.underlying118 Tryd.underlying120 rfl rfl Tryd.underlying9 (by kernel_rfl) (by kernel_rfl)
 obtain ⟨t,fr,hw⟩:=fh (cs:=[.iface _ _]) hg hv
 exact ⟨_,_,t,fr,hw⟩
theorem sI {W:World} (h:laidMetH Tryd.prog Rows.scriptLinesRow.laid W) (hsh:W.ShapedOpen Tryd.prog):TabsOK (iZ (ai aX) W):=by
 rw [MakeChecks.laidMetH_plain _ _ _ (by kernel_rfl)] at h
 have h2:=h.tail.tail
 have h4:=h2.tail.tail
 have h5:=h4.tail
 have h6:=h5.tail
 obtain ⟨_,⟨g2,t2,c2,_,_,_,hg2,ht2,hv2,hd2,_,_⟩,_,_⟩:=h2
 obtain ⟨_,⟨g3,t3,c3,_,_,_,hg3,ht3,hv3,hd3,_,_⟩,_,_⟩:=h6
 obtain rfl:1=g2:=Option.some.inj ((show some 1=Tryd.prog.globalNamed _ by kernel_rfl).trans hg2)
 obtain rfl:0=g3:=Option.some.inj ((show some 0=Tryd.prog.globalNamed _ by kernel_rfl).trans hg3)
 obtain rfl:106=t2:=Option.some.inj ((show some 106=(Tryd.prog.globals[1]?).map (·.type) by kernel_rfl).trans ht2)
 obtain rfl:45=t3:=Option.some.inj ((show some 45=(Tryd.prog.globals[0]?).map (·.type) by kernel_rfl).trans ht3)
 have e2:=Lib.cells_of_tab (k:=.u64) (zs:=Lib.pow10Tab) Tryd.underlying106 Tryd.underlying90 (by kernel_rfl) (by kernel_rfl) hd2
 have e3:=oT (ls:=bU.map (·.b)) Tryd.underlying45 Tryd.underlying9 (by kernel_rfl) (by kernel_rfl) hd3
 exact yn (fh hg3 (hv3.trans (congrArg some (xc (e3.trans rfl))))) (fh hg2 (hv2.trans (congrArg some (xc (e2.trans rfl))))) (Ay hsh) (vT h5 (by kernel_rfl) (by kernel_rfl)) (vT h4 (by kernel_rfl) (by kernel_rfl))
end Go.Proofs.YtagpmhlokhoanaaDoor
namespace Go.Proofs.YtagpmhlokhoanaaDoor
open Go.RowKit Go.Proofs Go.Shelf
set_option maxHeartbeats 1000000 in
set_option maxRecDepth 100000 in
theorem oY (g:Nat) (p:Value) (w:World) (hb:w.heap[g]? = some (.cells #[p,.slice none 0 0] 62 (0,0))) :
  Calls Tryd.prog 39 #[.pointer (some ⟨g,0,none⟩)] w fun e w'=>e = .returned (.string .empty)/\w' = w.drew:=by
 have L:=lS
 have X:=dE
 have c1:w.drew.cell? ⟨g,1,none⟩=some (.slice none 0 0):=by
  have:w.drew.heap[g]? = some (.cells #[p,.slice none 0 0] 62 (0,0)):=hb
  rw [Lib.cell_of_heap this]; rfl
 have hSD:(Builtin.unsafeSliceData_ #[(aj.t 37)] (aj.t 127) #[.slice none 0 0]).run Tryd.prog w.drew = .ok (.pointer none) w.drew:=
  Lib.run_unsafeSliceData_nil _ _ _ _ _
 have hUS:(Builtin.unsafeString_ #[(aj.t 127),(aj.t 3)] (aj.t 9) #[.pointer none,.int .i64 0]).run Tryd.prog w.drew = .ok (.string .empty) w.drew:=
  Lib.run_unsafeString_none _ _ _ _ _
 have mixed:=L.mixed
 have t72:=L.t72; have a72:=L.a72; have z72:=L.z72; have v72:=L.v72; have u72:=run_underlying L.t72
 have t70:=L.t70; have a70:=L.a70; have z70:=L.z70; have v70:=L.v70; have u70:=run_underlying L.t70
 have t37:=L.t37; have a37:=L.a37; have z37:=L.z37; have v37:=L.v37; have u37:=run_underlying L.t37
 have t127:=L.t127; have a127:=L.a127; have z127:=L.z127; have v127:=L.v127; have u127:=run_underlying L.t127
 have t3:=L.t3; have a3:=L.a3; have z3:=L.z3; have v3:=L.v3; have u3:=run_underlying L.t3
 have t9:=L.t9; have a9:=L.a9; have z9:=L.z9; have v9:=L.v9; have u9:=run_underlying L.t9
 have t5:=X.t5; have a5:=X.a5; have z5:=X.z5; have v5:=X.v5; have u5:=run_underlying X.t5
 show Calls Tryd.prog (aj.f 169) _ _ _
 go_enter L.f169,Body.n169_ntmps aj
 go_wp2
 go_region_o
 all_goals (go_wp2; go_ret; exact ⟨rfl,rfl⟩)
theorem pG:Sat Tryd.prog (ai aX) 39 [.c (.ptr 0 0)] [.box 62 [.np,.em true]] ⟨[],[.c (.str ⟨[]⟩)],some [.box 62 [.np,.em true]],true⟩:=by
 refine ⟨⟨_,Tryd.func39,by decide,by kernel_rfl⟩,fun G ρ w vs hG hR hvs=>?_⟩
 cases hvs with | cons h1 hvs=>?_
 cases hvs
 obtain ⟨g0,hg0,rfl⟩:=h1
 obtain ⟨r,hr,g,vs,rfl,h1,h2⟩:=hR.at_ (show ([.box 62 [.np,.em true]]:AH)[0]? = some _ from rfl)
 obtain rfl:g=g0:=by rw [hr] at hg0; cases hg0; rfl
 cases h2 with | cons h2 h3=>?_
 cases h3 with | cons h3 h4=>?_
 cases h4
 have h3:Rd (cx G ρ w) ρ (.em true) _:=h3
 cases h3 with | em h5=>?_
 rename_i a
 cases a with
 | some a=>cases h5
 | none=>?_
 refine (oY g _ w h1).mono fun e w' ⟨he,hw⟩=>?_
 have hk:Kp [] w w':=by subst hw; exact ⟨rfl,rfl,rfl,Nat.le_refl _,fun _ _ _=>rfl⟩
 exact ⟨_,he,[_],rfl,ρ,hR.kp hk,Ext.kp hk,fun _ _ h=>h,.cons (show bt (cx G ρ w') ρ (.c (.str ⟨[]⟩)) _ from (Pd.str (by simp):Pd (cx G ρ w') (.str ⟨[]⟩) (Str.val ⟨[]⟩))) .nil,fun _=>⟨hk,fun _ _ h=>h⟩⟩
end Go.Proofs.YtagpmhlokhoanaaDoor
namespace Go.Proofs.YtagpmhlokhoanaaDoor
open Go.RowKit
theorem iI (e:Event):(aw e).b.length<=2000:=by
 cases h:lineOk e
 ·rw [aw,if_neg (by rw [h]; decide)]; simp
 ·have hw:=jP h
  obtain ⟨h1,h2,h3,h4,h5,h6,h7⟩:=bj.1 h
  rw [uF h]
  have hn:(nmL e).all okN=true:=(vQ.1 (wJ.1 h).1).2
  have hl:=AR e
  have hv:=Bj e.kind
  have it:∀ l:List Int,l.all okN=true->∀ w ∈ l.map Lib.itoa,w.length<=40:=fun l hl w hw=>by
   rw [List.mem_map] at hw
   obtain ⟨n,hn,rfl⟩:=hw
   exact kf (List.all_eq_true.1 hl n hn)
  by_cases hk:e.kind=6
  ·rw [if_pos hk]
   obtain ⟨k1,k2,k3,k4⟩:=h6 hk
   have:=nw (v:=(fa e.kind).b) (m:=40) (ws:=(nmL e).map Lib.itoa++([bh e.c.text.b]++e.c.chunks.map Lib.itoa)) fun w hw=>by
    simp only [List.mem_append,List.mem_singleton] at hw
    rcases hw with hw | rfl | hw
    ·exact it _ hn w hw
    ·exact oi cQ
    ·exact it _ k4 w hw
   simp only [List.length_append,List.length_map,List.length_singleton] at this
   show (Cg _ _).length<=2000
   omega
  ·rw [if_neg hk]
   have:=nw (v:=(fa e.kind).b) (m:=40) (ws:=(nmL e).map Lib.itoa++[]) fun w hw=>by
    rw [List.append_nil] at hw
    exact it _ hn w hw
   simp only [List.length_append,List.length_map,List.length_nil] at this
   show (Cg _ _).length<=2000
   omega
def cq (l:List Event):List UInt8:=l.flatMap fun e=>(aw e).b++[10]
def ax (l:List Event):Str:=if l.length<=1024/\l.all lineOk=true then ⟨cq l⟩ else ⟨[]⟩
def bJ (l:List Event):Int:=if 1024<l.length then 4 else if l.all lineOk=true then 0 else 1
theorem kL:∀ l:List Event,(cq l).length<=2001*l.length
 | []=>by simp [cq]
 | e :: l=>by
  have h1:=kL l
  have h2:=iI e
  rw [cq,List.flatMap_cons,List.length_append,List.length_append,List.length_singleton]
  unfold cq at h1
  rw [List.length_cons]; omega
section
variable {α:Type} [DecidableEq α] {a b:List α} {k:Nat} {d:α}
theorem Ed (h:a.take k=b.take k) (ha:(k:Int)<a.length) (hb:a.length=b.length) (e:decide (a.getD k d=b.getD k d)=true):a.take (k+1)=b.take (k+1):=by
 have h1:=cF (l:=a) (k:=k) (d:=d) (by omega)
 have h2:=cF (l:=b) (k:=k) (d:=d) (by omega)
 rw [qU h1,qU h2,h,of_decide_eq_true e]
theorem DK (e:decide (a.getD k d=b.getD k d)=false):false=decide (a=b):=by
 symm; rw [decide_eq_false_iff_not]; rintro rfl; exact of_decide_eq_false e rfl
theorem Cr (h:a.take k=b.take k) (ha:(a.length:Int)<=k) (hb:a.length=b.length):true=decide (a=b):=by
 symm; rw [decide_eq_true_eq,<- List.take_of_length_le (show a.length<=k by omega),<- List.take_of_length_le (show b.length<=k by omega)]; exact h
theorem DO (h:¬ (a.length:Int)=b.length):false=decide (a=b):=by
 symm; rw [decide_eq_false_iff_not]; rintro rfl; exact h rfl
end
structure PutJ (l:List Event) (k:Nat):Prop where
 le:k<=l.length
 big:l.length<=1024
 ok:(l.take k).all lineOk=true
section
variable {l:List Event} {k:Nat} {e:Event}
theorem nv (h:1024<(l.length:Int)):(⟨[]⟩:Str)=ax l/\4=bJ l:=by
 rw [ax,bJ,if_neg (by omega),if_pos (by omega)]; exact ⟨rfl,rfl⟩
theorem Fi (h:(l.length:Int)<=1024):PutJ l 0:=⟨by omega,by omega,rfl⟩
theorem DN:([]:List UInt8)=cq (l.take 0):=rfl
theorem Fo (he:l[k]? = some e):cq (l.take k)++(aw e).b++[10]=cq (l.take (k+1)):=by
 rw [qU he,cq,cq,List.flatMap_append,List.append_assoc]; simp
theorem Fv (hJ:PutJ l k) (hx:l[k]? = some e) (h:ba e=0):PutJ l (k+1):=by
 have:=(List.getElem?_eq_some_iff.1 hx).1
 refine ⟨by omega,hJ.big,?_⟩
 rw [qU hx,List.all_append,hJ.ok]; simp [cD.1 h]
theorem vp (hJ:PutJ l k) (hx:l[k]? = some e) (h:¬ ba e=0):(⟨[]⟩:Str)=ax l/\ba e=bJ l:=by
 have h1:¬ l.all lineOk=true:=fun h2=>h (cD.2 (List.all_eq_true.1 h2 e (List.mem_of_getElem? hx)))
 have hb:=hJ.big
 have h3:¬ lineOk e=true:=fun h2=>h (cD.2 h2)
 rw [ax,if_neg (fun h=>h1 h.2),bJ,if_neg (by omega),if_neg h1,ba,if_neg h3]; exact ⟨rfl,rfl⟩
theorem xv (hJ:PutJ l k) (h:(l.length:Int)<=k):Str.mk (cq (l.take k))=ax l/\0=bJ l:=by
 have hk:=hJ.ok
 have hb:=hJ.big
 rw [List.take_of_length_le (by omega)] at hk ⊢
 rw [ax,if_pos ⟨hb,hk⟩,bJ,if_neg (by omega),if_pos hk]; exact ⟨rfl,rfl⟩
theorem uh (hJ:PutJ l k):(cq (l.take k)).length<=3000000:=by
 have h1:=kL (l.take k)
 have h2:=hJ.big
 rw [List.length_take] at h1
 omega
theorem Df (hJ:PutJ l k):(cq (l.take k)).length+(aw e).b.length<=140737488355328:=by
 have:=uh hJ
 have:=iI e
 omega
theorem CE (hJ:PutJ l k):(cq (l.take k)++(aw e).b).length+[(10:UInt8)].length<=140737488355328:=by
 have:=uh hJ
 have:=iI e
 rw [List.length_append,List.length_singleton]; omega
theorem Fw (hJ:PutJ l k):I64 ((k:Int)+1):=by
 have h1:=hJ.le
 have h2:=hJ.big
 constructor <;> omega
theorem De (hJ:PutJ l k) (h:(l.length:Int)<=k) (h0:l≠[]):cq (l.take k)≠[]:=by
 rw [List.take_of_length_le (by omega)]
 cases l with
 | nil=>exact absurd rfl h0
 | cons e l=>simp [cq]
end
def oZ (a:List Event) (b:List Event):List (Nat × LI):=[(4,{ σ:=Nat,F:=fun k=>([(0,one (.fz (.nm .event) (a))),(1,one (.fz (.nm .event) (b))),(5,one (.int k))],[]),J:=fun k=>k<=a.length/\a.length=b.length/\a.take k=b.take k,μ:=fun k=>a.length - k })]
theorem sN (a:List Event) (b:List Event) (r0:Bool):lF aX vI (oZ a b) Tryd.f21 [.c (.fz (.nm .event) (a)),.c (.fz (.nm .event) (b))] [] [.c (.bool (.atom (r0)))]=((fun (q3:Nat)=>(fun (q2:Nat)=>(fun (q1:Int)=>(fun (q0:den (Sh.nm NT.event))=>a.length*(112:Nat)<=q3->b.length*(112:Nat)<=q3->(¬q1=(↑b.length:Int)->false=r0)/\(q1=(↑b.length:Int)->∃ (s0:Nat),(a=a/\b=b/\(0:Int)=(↑s0:Int))/\(s0<=q2/\q2=b.length/\List.take s0 a=List.take s0 b)/\∀ (s:Nat),(fun (q5:den (Sh.nm NT.event))=>(fun (q4:den (Sh.nm NT.event))=>s<=q2/\q2=b.length/\List.take s a=List.take s b->((↑s:Int)<q1->(0:Int)<=(↑s:Int)/\(↑s:Int)<q1/\(0:Int)<=(↑s:Int)/\(↑s:Int)<(↑b.length:Int)/\(I64 q4.kind->I64 q4.a->I64 q4.b->I64 q4.c.kind->I64 q4.c.client->I64 q4.c.seq->I64 q4.c.set->I64 q4.c.id->I64 q4.c.n->q4.c.chunks.length*(8:Nat)<=q3->q4.c.text.b.length<=q3->I64 q5.kind->I64 q5.a->I64 q5.b->I64 q5.c.kind->I64 q5.c.client->I64 q5.c.seq->I64 q5.c.set->I64 q5.c.id->I64 q5.c.n->q5.c.chunks.length*(8:Nat)<=q3->q5.c.text.b.length<=q3->(decide (q4=q5)=false->false=r0)/\(decide (q4=q5)=true->I64 ((↑s:Int)+(1:Int))/\∃ (s':Nat),(a=a/\b=b/\(↑s:Int)+(1:Int)=(↑s':Int))/\(s' <= q2/\q2=b.length/\List.take s' a=List.take s' b)/\q2 - s' < q2 - s)))/\(q1<=(↑s:Int)->true=r0)) (a.getD s q0)) (b.getD s q0))) (aY (Sh.nm NT.event))) (↑a.length:Int)) a.length) (140737488355328:Nat)):=by kernel_rfl
theorem sU (a:List Event) (b:List Event):Sat Tryd.prog (ai aX) 21 [.c (.fz (.nm .event) (a)),.c (.fz (.nm .event) (b))] [] ⟨[],[.c (.bool (.atom ((decide (a=b)))))],none,false⟩:=by
 refine cz od (oZ a b) Tryd.func21 (by decide) (by kernel_rfl) ?_
 rw [sN]
 iterate 3 ((all_goals (repeat' (first | with_reducible apply lu | with_reducible refine lx ?_ | intro))); (all_goals try (first | exact lD | exact rfl | exact (Ed ak ak ak ak) | exact (DK ak) | exact (Cr ak ak ak) | exact (DO ak))); all_goals try first | refine ⟨‹Nat› + 1,?_⟩ | refine ⟨0,?_⟩)
def uR:cC:=(eG 21 (dY (aC (kC (cL (.nm .event))) (aC (kC (cL (.nm .event))) bP)) bO fun (a,b,_) (_)=>⟨[],[.c (.bool (.atom ((decide (a=b)))))],none,false⟩) vI)
theorem p_:aW Tryd.prog (ai aX) uR:=(aK (aJ (ag (aL dG) (ag (aL dG) ay)) az fun (a,b,_) (_) _=>sU a b ) od)
def Bt (i:Nat) (e:Event):Event:=if 40<=i then ⟨(dz e).kind,(dz e).a,(dz e).b,cM⟩ else dz e
def dN (l:List Event):Nat->List Event
 | 0=>[]
 | k+1=>dN l k++[Bt k (l.getD k (aY (.nm .event)))]
def dW (l:List Event):List Event:=dN l (min l.length 1100)
def lr (l:List UInt8):Nat->Nat
 | 0=>0
 | k+1=>if l.getD k 0=10 then k+1 else lr l k
def tQ (l:List UInt8):Nat->List Str
 | 0=>[]
 | k+1=>if l.getD k 0=10 then tQ l k++[⟨(l.drop (lr l k)).take (k - lr l k)⟩] else tQ l k
def qC (s:Str):List Str:=if lr s.b s.b.length<s.b.length then tQ s.b s.b.length++[⟨s.b.drop (lr s.b s.b.length)⟩] else tQ s.b s.b.length
theorem gH (l:List Event):∀ k,(dN l k).length=k
 | 0=>rfl
 | k+1=>by rw [dN,List.length_append,gH l k]; rfl
theorem uH (l:List UInt8):∀ k,lr l k<=k
 | 0=>Nat.le_refl _
 | k+1=>by
  have:=uH l k
  unfold lr; split <;> omega
section
variable {l:List Event} {k:Nat} {x:Event}
theorem ED (h:40<=(k:Int)) (hx:l[k]? = some x):dN l k++[Event.mk (dz x).kind (dz x).a (dz x).b (Command.mk 0 0 0 0 0 0 [] (Str.mk []))]=dN l (k+1):=by
 rw [dN,Bt,if_pos (by omega),List.getD_eq_getElem?_getD,hx]; rfl
theorem EW (h:(k:Int)<40) (hx:l[k]? = some x):dN l k++[dz x]=dN l (k+1):=by
 rw [dN,Bt,if_neg (by omega),List.getD_eq_getElem?_getD,hx]; rfl
theorem AZ (h1:k<=l.length) (h2:k<=1100) (h:(l.length:Int)<=k\/1100<=(k:Int)):dN l k=dW l:=by
 rw [dW,show min l.length 1100=k by omega]
theorem Be {e:Event} (h2:k<=1100):((dN l k).length+[e].length)*112<=140737488355328:=by
 rw [gH,List.length_singleton]; omega
theorem Fh (h2:k<=1100):I64 ((k:Int)+1):=by constructor <;> omega
end
section
variable {l:List UInt8} {k:Nat} {s:Str}
end
def rM (l:List Event):List (Nat × LI):=[(3,{ σ:=Nat,F:=fun k=>([(0,one (.fz (.nm .event) (l))),(3,one (.own 0)),(4,one (.int k))],[.row 26 (.nm .event) ((dN l k))]),J:=fun k=>k<=l.length/\k<=1100,μ:=fun k=>l.length - k })]
theorem xn (l:List Event) (r0:List Event):lF aX uR (rM l) Tryd.f15 [.c (.fz (.nm .event) (l))] [] [.c (.fz (.nm .event) (r0))]=((fun (q2:Nat)=>(fun (q1:Nat)=>(fun (q0:Int)=>l.length*(112:Nat)<=q2->∃ (s0:Nat),(l=l/\q0=(↑s0:Int)/\dN l s0=[])/\(s0<=q1/\s0<=(1100:Nat))/\∀ (s:Nat),(fun (q4:Int)=>(fun (q3:Int)=>s<=q1/\s<=(1100:Nat)->(q4<(↑l.length:Int)/\q4<(1100:Int)->q0<=q4/\q4<(↑l.length:Int)/\∀ (x:Event),(fun (q5:Event)=>l[s]? = some x->I64 x.kind->I64 x.a->I64 x.b->I64 x.c.kind->I64 x.c.client->I64 x.c.seq->I64 x.c.set->I64 x.c.id->I64 x.c.n->x.c.chunks.length*(8:Nat)<=q2->x.c.text.b.length<=q2->I64 q5.kind->I64 q5.a->I64 q5.b->I64 q5.c.kind->I64 q5.c.client->I64 q5.c.seq->I64 q5.c.set->I64 q5.c.id->I64 q5.c.n->q5.c.chunks.length*(8:Nat)<=q2->q5.c.text.b.length<=q2->((40:Int)<=q4->((dN l s).length+[Event.mk q5.kind q5.a q5.b (Command.mk q0 q0 q0 q0 q0 q0 [] (Str.mk []))].length)*(112:Nat)<=q2/\I64 q3/\∃ (s':Nat),(l=l/\q3=(↑s':Int)/\dN l s++[Event.mk q5.kind q5.a q5.b (Command.mk q0 q0 q0 q0 q0 q0 [] (Str.mk []))]=dN l s')/\(s' <= q1/\s' <= (1100:Nat))/\q1 - s' < q1 - s)/\(q4<(40:Int)->((dN l s).length+[q5].length)*(112:Nat)<=q2/\I64 q3/\∃ (s':Nat),(l=l/\q3=(↑s':Int)/\dN l s++[q5]=dN l s')/\(s' <= q1/\s' <= (1100:Nat))/\q1 - s' < q1 - s)) (dz x))/\((↑l.length:Int)<=q4\/(1100:Int)<=q4->dN l s=r0)) (q4+(1:Int))) (↑s:Int)) (0:Int)) l.length) (140737488355328:Nat)):=by kernel_rfl
theorem wB (l:List Event):Sat Tryd.prog (ai aX) 15 [.c (.fz (.nm .event) (l))] [] ⟨[],[.c (.fz (.nm .event) ((dW l)))],none,false⟩:=by
 refine cz p_ (rM l) Tryd.func15 (by decide) (by kernel_rfl) ?_
 rw [xn]
 iterate 3 ((all_goals (repeat' (first | with_reducible apply lu | with_reducible refine lx ?_ | intro))); (all_goals try (first | exact lD | exact rfl | exact (ED ak ak) | exact (EW ak ak) | exact (AZ ak ak ak) | with_reducible exact (Be ak) | exact (Fh ak))); all_goals try first | refine ⟨‹Nat› + 1,?_⟩ | refine ⟨0,?_⟩)
theorem qI :Sat Tryd.prog (ai aX) 39 [.c (.ptr 0 0)] [.box 62 ([.np,.em true])] ⟨[],[.c (.str ((⟨[]⟩)))],some ([.box 62 ([.np,.em true])]),true⟩:=pG
def pC:cC:=(eG 39 (dY (aC (kC (ff 0 0)) bP) (bE (dL 62 (aB ER (aB (Cl true) dK))) bO) fun (_,_) ((_,_,_),_)=>⟨[],[.c (.str ((⟨[]⟩)))],some ([.box 62 ([.np,.em true])]),true⟩) (eG 15 (dY (aC (kC (cL (.nm .event))) bP) bO fun (l,_) (_)=>⟨[],[.c (.fz (.nm .event) ((dW l)))],none,false⟩) uR))
theorem gR:aW Tryd.prog (ai aX) pC:=(aK (aJ (ag (aL bH) ay) (aG (bd (ab B_ (ab mC bc))) az) fun (_,_) ((_,_,_),_) _=>qI  ) (aK (aJ (ag (aL dG) ay) az fun (l,_) (_) _=>wB l ) p_))
end Go.Proofs.YtagpmhlokhoanaaDoor
