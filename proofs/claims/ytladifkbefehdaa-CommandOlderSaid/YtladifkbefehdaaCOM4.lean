/- What leads to the law, part 4. Conditions: each lemma's own. -/
import Derived.Test.YtladifkbefehdaaCOM3
set_option linter.unusedVariables false
set_option linter.unusedSimpArgs false
namespace Go.Proofs.Ytladifkbefehdaa
open Go.RowKit
def bp (f:Field):Bool:=(decide (1<=f.num) && decide (f.num<=1000)) && (if f.wire=0 then decide (((f.b.length:Nat):Int)=0) else if f.wire=2 then decide ((f.n.n:Int)=0) else false)
def db (a f:Field):Bool:=if f.num=a.num then (decide (f.wire=2) && decide (a.wire=2)) else decide (a.num<f.num)
def jr (num wire:Int):Bool:=(decide (1<=num) && decide (num<=1000)) && (decide (wire=0) || decide (wire=2))
def cN (num wire:Int):List UInt8:=if jr num wire then br ((8*num)+wire).toNat else []
def rq (num wire:Int):Int:=if jr num wire then 0 else 1
def aN (f:Field):List UInt8:=if f.wire=0 then cN f.num f.wire++br f.n.n else (cN f.num f.wire++br f.b.length)++f.b
def Fj:Option Field->Field->Bool
 | none,_=>true
 | some q,f=>db q f
def stepT (p:Option Field) (f:Field):Int:=if bp f=false then 1 else if Fj p f=false then 5 else if (16384:Int)<((f.b.length:Nat):Int) then 4 else 0
def bM:Option Field->List Field->Int
 | _,[]=>0
 | p,f :: r=>if stepT p f=0 then bM (some f) r else stepT p f
def dB (l:List Field):Nat:=(l.map fun f=>(aN f).length).sum
def bl (l:List Field):Int:=if bM none l=0 then (if (16384:Int)<((dB l:Nat):Int) then 4 else 0) else bM none l
def dO (l:List Field):List UInt8:=if bl l=0 then (l.map aN).flatten else []
def cb (l:List Field) (k:Nat):Option Field:=if k=0 then none else l[k - 1]?
def mS (l:List Field) (k:Nat) (x:Field):Prop:=(¬ 0<k)\/∃ y,l[k - 1]? = some y/\db y x=true
theorem xb {num wire:Int} (h:(num<1\/1000<num)\/(¬ wire=0/\¬ wire=2)):jr num wire=false:=by
 rw [<- Bool.not_eq_true]; unfold jr; simp only [Bool.and_eq_true,Bool.or_eq_true,decide_eq_true_eq]; omega
theorem rP {num wire:Int} (h:¬ ((num<1\/1000<num)\/(¬ wire=0/\¬ wire=2))):jr num wire=true:=by
 unfold jr; simp only [Bool.and_eq_true,Bool.or_eq_true,decide_eq_true_eq]; omega
theorem r_ {num wire:Int} (h:(num<1\/1000<num)\/(¬ wire=0/\¬ wire=2)):[]=cN num wire:=by rw [cN,xb h]; rfl
theorem ym {num wire:Int} (h:(num<1\/1000<num)\/(¬ wire=0/\¬ wire=2)):1=rq num wire:=by rw [rq,xb h]; rfl
theorem oU {num wire:Int} (h:¬ ((num<1\/1000<num)\/(¬ wire=0/\¬ wire=2))):br ((8*num)+wire).toNat=cN num wire:=by rw [cN,rP h]; rfl
theorem wx {num wire:Int} (h:¬ ((num<1\/1000<num)\/(¬ wire=0/\¬ wire=2))):0=rq num wire:=by rw [rq,rP h]; rfl
theorem jZ (num wire:Int):(cN num wire).length<=10:=by
 unfold cN
 cases h:jr num wire with
 | false=>simp
 | true=>
  unfold jr at h; simp only [Bool.and_eq_true,Bool.or_eq_true,decide_eq_true_eq] at h
  exact cj (by omega)
theorem cO {f:Field} (hb:f.b.length<=16384) (hn:f.n.n<18446744073709551616):(aN f).length<=16404:=by
 have h1:=jZ f.num f.wire
 unfold aN
 split
 ·have:=cj hn; rw [List.length_append]; omega
 ·have:=cj (n:=f.b.length) (by omega); rw [List.length_append,List.length_append]; omega
theorem yZ {f:Field} (h:f.wire=0):cN f.num f.wire++br f.n.n=aN f:=by rw [aN,if_pos h]
theorem yP {f:Field} (h:¬ f.wire=0):(cN f.num f.wire++br f.b.length)++f.b=aN f:=by rw [aN,if_neg h]
theorem j_ {l:List Field} {k:Nat} {x:Field} (hx:l[k]? = some x):dB (l.take k)+(aN x).length=dB (l.take (k+1)):=by
 unfold dB; rw [aj hx,List.map_append,List.sum_append]; simp
theorem rA {l:List Field} {k:Nat} {x:Field} (hp:mS l k x):Fj (cb l k) x=true:=by
 unfold cb
 rcases hp with h | ⟨y,hy,hr⟩
 ·rw [if_pos (by omega)]; rfl
 ·by_cases hk:k=0
  ·rw [if_pos hk]; rfl
  ·rw [if_neg hk,hy]; exact hr
theorem yd {l:List Field} {k:Nat} {x:Field} (hx:l[k]? = some x):bM (cb l k) (l.drop k)=if stepT (cb l k) x=0 then bM (some x) (l.drop (k+1)) else stepT (cb l k) x:=by
 obtain ⟨hk,he⟩:=List.getElem?_eq_some_iff.1 hx
 rw [List.drop_eq_getElem_cons hk,he]; rfl
theorem wL {l:List Field} {k:Nat} {x:Field} {e:Int} (hc:bM none l=bM (cb l k) (l.drop k)) (hx:l[k]? = some x) (he:stepT (cb l k) x=e) (h0:e≠0):e=bl l:=by
 have h1:bM none l=e:=by rw [hc,yd hx,he,if_neg h0]
 rw [bl,h1,if_neg h0]
theorem qh {l:List Field} {k:Nat} {x:Field} (hc:bM none l=bM (cb l k) (l.drop k)) (hx:l[k]? = some x) (ha:bp x=false):1=bl l:=wL hc hx (by rw [stepT,if_pos ha]) (by decide)
theorem qu {l:List Field} {k:Nat} {x y:Field} (hc:bM none l=bM (cb l k) (l.drop k)) (hx:l[k]? = some x) (ha:bp x=true) (h0:0<k) (hy:l[k - 1]? = some y) (hr:db y x=false):5=bl l:=
 wL hc hx (by rw [stepT,if_neg (by rw [ha]; decide),if_pos]; unfold cb; rw [if_neg (by omega),hy]; exact hr) (by decide)
theorem qF {l:List Field} {k:Nat} {x:Field} (hc:bM none l=bM (cb l k) (l.drop k)) (hx:l[k]? = some x) (ha:bp x=true) (hp:mS l k x) (hb:(16384:Int)<((x.b.length:Nat):Int)):4=bl l:=
 wL hc hx (by rw [stepT,if_neg (by rw [ha]; decide),if_neg (by rw [rA hp]; decide),if_pos hb]) (by decide)
theorem kJ {l:List Field} {k:Nat} {x:Field} (hc:bM none l=bM (cb l k) (l.drop k)) (hx:l[k]? = some x) (ha:bp x=true) (hp:mS l k x) (hb:¬ (16384:Int)<((x.b.length:Nat):Int)):bM none l=bM (cb l (k+1)) (l.drop (k+1)):=by
 rw [hc,yd hx,if_pos (by rw [stepT,if_neg (by rw [ha]; decide),if_neg (by rw [rA hp]; decide),if_neg hb])]
 unfold cb; rw [if_neg (by omega),Nat.add_sub_cancel,hx]
theorem rY {l:List Field} {k:Nat} (hc:bM none l=bM (cb l k) (l.drop k)) (hk:l.length<=k):bM none l=0:=by
 rw [hc,List.drop_of_length_le hk]; rfl
theorem k_ {l:List Field} {k:Nat} (hc:bM none l=bM (cb l k) (l.drop k)) (hk:l.length<=k) (hs:(16384:Int)<((dB (l.take k):Nat):Int)):4=bl l:=by
 rw [List.take_of_length_le hk] at hs; rw [bl,if_pos (rY hc hk),if_pos hs]
theorem kP {l:List Field} {k:Nat} (hc:bM none l=bM (cb l k) (l.drop k)) (hk:l.length<=k) (hs:¬ (16384:Int)<((dB (l.take k):Nat):Int)):0=bl l:=by
 rw [List.take_of_length_le hk] at hs; rw [bl,if_pos (rY hc hk),if_neg hs]
theorem yB {l:List Field} (h:bl l=0):dB l<=16384:=by
 unfold bl at h
 split at h
 ·split at h
  ·cases h
  ·omega
 ·rename_i h0; exact absurd h h0
theorem rR {l:List Field} (h:bl l=0):bM none l=0:=by
 unfold bl at h
 split at h
 ·assumption
 ·exact h
theorem sN:∀ {l:List Field} {p:Option Field},bM p l=0->∀ x ∈ l,x.b.length<=16384
 | [],_,_,x,hx=>by cases hx
 | f :: r,p,h,x,hx=>by
  unfold bM at h
  split at h
  ·rename_i hs
   rcases List.mem_cons.1 hx with rfl | hx
   ·unfold stepT at hs
    split at hs
    ·cases hs
    ·split at hs
     ·cases hs
     ·split at hs
      ·cases hs
      ·omega
   ·exact sN h x hx
  ·rename_i hs; exact absurd h hs
theorem eH {l:List Field} (h:bl l=0) {x:Field} (hx:x ∈ l):x.b.length<=16384:=sN (rR h) x hx
theorem iN {l:List Field} {k:Nat} {x:Field} (hx:l[k]? = some x):((l.take k).map aN).flatten++aN x=((l.take (k+1)).map aN).flatten:=by
 rw [aj hx,List.map_append,List.flatten_append]; simp
theorem vu (l:List Field):((l.map aN).flatten).length=dB l:=by
 unfold dB; rw [List.length_flatten,List.map_map]; rfl
theorem wV {l:List Field} {k:Nat}:dB (l.take k)<=dB l:=by
 have:dB l=dB (l.take k)+dB (l.drop k):=by unfold dB; rw [<- List.sum_append,<- List.map_append,List.take_append_drop]
 omega
theorem fD {l:List Field} {k:Nat} (h:bl l=0):((l.take k).map aN).flatten.length<=16384:=by
 have:=yB h; have:=wV (l:=l) (k:=k); rw [vu]; omega
theorem mZ {l:List Field} {k:Nat} (h:bl l=0) (hk:l.length<=k):((l.take k).map aN).flatten=dO l:=by rw [dO,if_pos h,List.take_of_length_le hk]
theorem qw {l:List Field} (h:¬ bl l=0):[]=dO l:=by rw [dO,if_neg h]
theorem wu {f:Field} (h:f.num<1\/1000<f.num):false=bp f:=by
 have:(decide (1<=f.num) && decide (f.num<=1000))=false:=by rw [<- Bool.not_eq_true]; simp only [Bool.and_eq_true,decide_eq_true_eq]; omega
 unfold bp; rw [this]; rfl
theorem wS {f:Field} (h:¬ (f.num<1\/1000<f.num)):bp f=(if f.wire=0 then decide (((f.b.length:Nat):Int)=0) else if f.wire=2 then decide ((f.n.n:Int)=0) else false):=by
 have:(decide (1<=f.num) && decide (f.num<=1000))=true:=by simp only [Bool.and_eq_true,decide_eq_true_eq]; omega
 unfold bp; rw [this]; rfl
end Go.Proofs.Ytladifkbefehdaa
namespace Go.Proofs.Ytladifkbefehdaa
open Go.RowKit
def aO:List Spec:=([⟨1,0,1,true,false⟩,⟨2,0,1,false,false⟩,⟨3,0,1,false,false⟩,⟨4,0,1,false,false⟩,⟨5,0,1,false,false⟩,⟨6,0,1,false,false⟩,⟨7,2,1,false,false⟩,⟨8,2,3,false,false⟩]:List Spec)
def az (v:Int):List Spec:=if v<1\/3<v then [] else aO.filter fun s=>decide (s.since<=v)
def aT (v:Int):Int:=(az v).foldl (fun t s=>max t s.num) 0
theorem kG {v:Int} {k:Nat} {x:Spec} (hx:aO[k]? = some x) (h:x.since<=v):(aO.take k).filter (fun s=>decide (s.since<=v))++[x]=(aO.take (k+1)).filter (fun s=>decide (s.since<=v)):=by
 rw [aj hx,List.filter_append]; simp [h]
theorem nQ {v:Int} {k:Nat} {x:Spec} (hx:aO[k]? = some x) (h:¬ x.since<=v):(aO.take k).filter (fun s=>decide (s.since<=v))=(aO.take (k+1)).filter (fun s=>decide (s.since<=v)):=by
 rw [aj hx,List.filter_append]; simp [h]
theorem iS {v:Int} (h:v<1\/3<v):[]=az v:=by rw [az,if_pos h]
theorem xZ {v:Int} {k:Nat} (h:¬ (v<1\/3<v)) (hk:aO.length<=k):(aO.take k).filter (fun s=>decide (s.since<=v))=az v:=by rw [az,if_neg h,List.take_of_length_le hk]
theorem vi {v:Int} {k:Nat}:((aO.take k).filter (fun s=>decide (s.since<=v))).length<=8:=by
 have h1:=List.length_filter_le (fun s:Spec=>decide (s.since<=v)) (aO.take k)
 have h2:(aO.take k).length<=8:=by rw [List.length_take]; exact Nat.le_trans (Nat.min_le_right _ _) (by decide)
 omega
theorem ki {v:Int} {k:Nat} {x:Spec} (hx:(az v)[k]? = some x):max (((az v).take k).foldl (fun t s=>max t s.num) 0) x.num=((az v).take (k+1)).foldl (fun t s=>max t s.num) 0:=by
 rw [aj hx,List.foldl_append]; rfl
def eD (num n:Int):List Field:=if n=0 then [] else [⟨num,0,⟨n.toNat⟩,[]⟩]
def hY (num:Int) (b:List UInt8):List Field:=if 0<((b.length:Nat):Int) then [⟨num,2,⟨0⟩,b⟩] else []
def bP (c:Command):List Field:=(((((([]++eD 1 c.kind)++eD 2 c.client)++eD 3 c.seq)++eD 4 c.set)++eD 5 c.id)++eD 6 c.n)++hY 7 (bj c.chunks)
def av (c:Command) (v:Int):List Field:=if 3<=v then bP c++hY 8 c.text.b else bP c
theorem de (num n:Int):(eD num n).length<=1:=by unfold eD; split <;> simp
theorem qI (num:Int) (b:List UInt8):(hY num b).length<=1:=by unfold hY; split <;> simp
theorem pt {xs:List Field} {num n:Int} (h:¬ n=0):xs++[⟨num,0,⟨n.toNat⟩,[]⟩]=xs++eD num n:=by rw [eD,if_neg h]
theorem pX {xs:List Field} {num n:Int} (h:n=0):xs=xs++eD num n:=by rw [eD,if_pos h,List.append_nil]
theorem px {xs:List Field} {num:Int} {b:List UInt8} (h:0<((b.length:Nat):Int)):xs++[⟨num,2,⟨0⟩,b⟩]=xs++hY num b:=by rw [hY,if_pos h]
theorem pb {xs:List Field} {num:Int} {b:List UInt8} (h:¬ 0<((b.length:Nat):Int)):xs=xs++hY num b:=by rw [hY,if_neg h,List.append_nil]
theorem gu (c:Command) (v:Int):(av c v).length<=8:=by
 have h1:=de 1 c.kind; have h2:=de 2 c.client; have h3:=de 3 c.seq; have h4:=de 4 c.set; have h5:=de 5 c.id; have h6:=de 6 c.n
 have h7:=qI 7 (bj c.chunks); have h8:=qI 8 c.text.b
 unfold av bP
 split <;> simp only [List.length_append,List.length_nil] <;> omega
end Go.Proofs.Ytladifkbefehdaa
namespace Go.Proofs.Ytladifkbefehdaa
open Go.RowKit
def bG (c:Command) (rest:List Field) (v:Int):Int:=if !(eb v 1 3) then 1 else if (bS c v=false/\¬ cw c v=0) then cw c v else if rest.any (fun f=>decide (f.num<=aT v)) then 6 else 0
def bt (c:Command) (rest:List Field) (v:Int):Int:=if bG c rest v=0 then bl (av c v++rest) else bG c rest v
def aF (c:Command) (rest:List Field) (v:Int):List UInt8:=if bG c rest v=0 then dO (av c v++rest) else []
theorem gm {k:Int} (h:¬ bc k=0):1<=k/\k<=12:=Decidable.byContradiction fun h2=>h (y_ h2)
theorem nU {c:Command} {v:Int} (h:bS c v=true):0<=c.kind/\0<=c.client/\0<=c.seq/\0<=c.set/\0<=c.id/\0<=c.n:=by
 unfold bS ko eb at h
 simp only [Bool.and_eq_true,decide_eq_true_eq] at h
 omega
theorem nH {n m:Int} {b:Bool} (h:gr n m b=true):0<=n:=by
 unfold gr at h; cases b <;> simp at h <;> omega
theorem tc {k:Int} (h:1<=k/\k<=12):0<=(kv k).1:=by
 have:k=1\/k=2\/k=3\/k=4\/k=5\/k=6\/k=7\/k=8\/k=9\/k=10\/k=11\/k=12:=by omega
 rcases this with rfl | rfl | rfl | rfl | rfl | rfl | rfl | rfl | rfl | rfl | rfl | rfl <;> decide
theorem fx {c:Command} {v:Int} (h:cw c v=0):(1<=v/\v<=3)/\¬ bc c.kind=0/\bc c.kind<=v/\eC c=true:=by
 unfold cw at h
 split at h
 ·cases h
 ·rename_i h1
  rw [Bool.or_eq_true,not_or] at h1
  simp only [Bool.not_eq_true',Bool.not_eq_false,decide_eq_true_eq] at h1
  split at h
  ·cases h
  ·split at h
   ·cases h
   ·rename_i h2 h3
    exact ⟨GJ h1.1,h1.2,by omega,by simpa using h3⟩
theorem nJ {c:Command} {v:Int} (h:cw c v=0):0<=c.kind/\0<=c.client/\0<=c.seq/\0<=c.set/\0<=c.id/\0<=c.n:=by
 obtain ⟨_,hn,_,hf⟩:=fx h
 have hr:=gm hn
 have hs:=tc hr
 unfold eC at hf
 simp only [Bool.and_eq_true,decide_eq_true_eq] at hf
 obtain ⟨⟨⟨⟨⟨⟨⟨h1,h2⟩,_⟩,_⟩,h3⟩,h4⟩,h5⟩,h6⟩:=hf
 exact ⟨by omega,nH h3,nH h4,nH h5,nH h6,by omega⟩
theorem Gc {c:Command} {rest:List Field} {v:Int} (h:(!(eb v 1 3))=true):bG c rest v=1:=by rw [bG,if_pos h]
theorem Gn {c:Command} {rest:List Field} {v:Int} (h:(!(eb v 1 3))=false) (h1:bS c v=false) (h2:¬ cw c v=0):bG c rest v=cw c v:=by rw [bG,h,if_neg (by decide),if_pos ⟨h1,h2⟩]
theorem FJ {c:Command} {rest:List Field} {v:Int} {k:Nat} {x:Field} (h:(!(eb v 1 3))=false) (h1:bS c v=true\/cw c v=0) (hx:rest[k]? = some x) (hn:x.num<=aT v):bG c rest v=6:=by
 have:(rest.any fun f=>decide (f.num<=aT v))=true:=List.any_eq_true.2 ⟨x,List.mem_of_getElem? hx,decide_eq_true hn⟩
 rw [bG,h,if_neg (by decide),if_neg (fun hh=>by rcases h1 with h1 | h1; rw [h1] at hh; cases hh.1; exact hh.2 h1),if_pos this]
theorem EU {c:Command} {rest:List Field} {v:Int} {k:Nat} (h:(!(eb v 1 3))=false) (h1:bS c v=true\/cw c v=0) (hall:∀ j y,j<k->rest[j]? = some y->¬ y.num<=aT v) (hk:rest.length<=k):bG c rest v=0:=by
 have:(rest.any fun f=>decide (f.num<=aT v))=false:=by
  rw [List.any_eq_false]
  intro y hy
  obtain ⟨j,hj,rfl⟩:=List.getElem_of_mem hy
  have:=hall j _ (by omega) (List.getElem?_eq_getElem hj)
  simpa using this
 rw [bG,h,if_neg (by decide),if_neg (fun hh=>by rcases h1 with h1 | h1; rw [h1] at hh; cases hh.1; exact hh.2 h1),this,if_neg (by decide)]
theorem eJ {c:Command} {rest:List Field} {v e:Int} (h:bG c rest v=e) (h0:¬ e=0):e=bt c rest v:=by rw [bt,h,if_neg h0]
theorem eM {c:Command} {rest:List Field} {v e:Int} (h:bG c rest v=e) (h0:¬ e=0):[]=aF c rest v:=by rw [aF,h,if_neg h0]
theorem uX {c:Command} {rest:List Field} {v:Int} (h:bG c rest v=0):bl (av c v++rest)=bt c rest v:=by rw [bt,if_pos h]
theorem xo {c:Command} {rest:List Field} {v:Int} (h:bG c rest v=0):dO (av c v++rest)=aF c rest v:=by rw [aF,if_pos h]
theorem tf {rest:List Field} {t:Int} {k:Nat} {z:Field} (h:∀ j y,j<k->rest[j]? = some y->¬ y.num<=t) (hz:rest[k]? = some z) (hn:¬ z.num<=t):∀ j y,j<k+1->rest[j]? = some y->¬ y.num<=t:=by
 intro j y hj hy
 by_cases hjk:j=k
 ·subst hjk; rw [hz] at hy; cases hy; exact hn
 ·exact h j y (by omega) hy
end Go.Proofs.Ytladifkbefehdaa
namespace Go.Proofs.Ytladifkbefehdaa
open Go.RowKit
theorem yb {c:Command}:bQ c 3=c:=by unfold bQ; simp
theorem BM {c:Command} {v:Int} (h1:1<=v/\v<=3) (h2:¬ bc c.kind=0) (h3:bc c.kind<=v):cw c v=if !eC c then 1 else 0:=by
 have e:(!(eb v 1 3) || decide (bc c.kind=0))=false:=by
  rw [show eb v 1 3=true by unfold eb; rw [Bool.and_eq_true,decide_eq_true_eq,decide_eq_true_eq]; exact h1,decide_eq_false h2]; rfl
 unfold cw; rw [e,if_neg (by decide),if_neg (by omega)]
end Go.Proofs.Ytladifkbefehdaa
namespace Go.Proofs.Ytladifkbefehdaa
open Go.RowKit
theorem mQ (n:Nat):br n=((List.range (aE n)).map (gj n)).set (aE n - 1) (gj n (aE n - 1) &&& 127):=by unfold br cn; simp
theorem xK:∀ m:Fin 128,(UInt8.ofNat m.val ||| 128) &&& 127=UInt8.ofNat m.val:=by decide
theorem Da:∀ m:Fin 256,(UInt8.ofNat m.val ||| 128).toNat=m.val % 128+128:=by decide +kernel
theorem kV {n:Nat} (h:n<128):br n=[UInt8.ofNat n]:=by
 rw [mQ,eP h]
 have:=xK ⟨n,h⟩
 simp only [gj,Nat.pow_zero,Nat.div_one,List.range_one,List.map_cons,List.map_nil,Nat.sub_self,List.set_cons_zero] at *
 rw [this]
theorem EM (n:Nat):(gj n 0).toNat=n % 128+128:=by
 have e:UInt8.ofNat n=UInt8.ofNat (n % 256):=UInt8.toNat_inj.1 (by simp [UInt8.toNat_ofNat'])
 have:=Da ⟨n % 256,Nat.mod_lt _ (by decide)⟩
 simp only [gj,Nat.pow_zero,Nat.div_one]
 rw [e,this]; simp only; omega
theorem xd {n:Nat} (h:¬ n<128):br n=gj n 0 :: br (n / 128):=by
 have e:∀ i,gj n (i+1)=gj (n / 128) i:=fun i=>by unfold gj; rw [Nat.pow_succ,Nat.mul_comm,<- Nat.div_div_eq_div_mul]
 have hp:=dr (n / 128)
 obtain ⟨s,hs⟩:∃ s,aE (n / 128)=s+1:=⟨aE (n / 128) - 1,by omega⟩
 rw [mQ,mQ (n / 128),gq h,hs]
 simp only [Nat.add_sub_cancel]
 rw [List.range_succ_eq_map,List.map_cons,List.map_map,List.set_cons_succ,e s,show gj n ∘ Nat.succ=gj (n / 128) from funext e]
theorem fa {f:Field} (h:bp f=true):(1<=f.num/\f.num<=1000)/\((f.wire=0/\f.b=[])\/(f.wire=2/\f.n.n=0)):=by
 unfold bp at h
 rw [Bool.and_eq_true,Bool.and_eq_true,decide_eq_true_eq,decide_eq_true_eq] at h
 refine ⟨h.1,?_⟩
 have h2:=h.2
 split at h2
 ·rename_i hw
  rw [decide_eq_true_eq] at h2
  exact .inl ⟨hw,List.eq_nil_of_length_eq_zero (by omega)⟩
 ·split at h2
  ·rename_i hw
   rw [decide_eq_true_eq] at h2
   exact .inr ⟨hw,by omega⟩
  ·cases h2
theorem mh {f:Field} (h:bp f=true):cN f.num f.wire=br ((8*f.num)+f.wire).toNat:=by
 obtain ⟨h1,h2⟩:=fa h
 exact (oU (by omega)).symm
structure CmdOk (c:Command) (v:Int):Prop where
 nn:0<=c.kind/\0<=c.client/\0<=c.seq/\0<=c.set/\0<=c.id/\0<=c.n
 ch:c.chunks=[]\/rowF c.chunks=true
 tx:c.text.b=[]\/(3<=v/\c.text.b.length<=16)
end Go.Proofs.Ytladifkbefehdaa
namespace Go.Proofs.Ytladifkbefehdaa
open Go.RowKit
end Go.Proofs.Ytladifkbefehdaa
namespace Go.Proofs.Ytladifkbefehdaa
open Go.RowKit
def aW:Nat->Nat->List UInt8->Nat × Nat × Int
 | k,_,[]=>if 10<=k then (0,0,3) else (0,0,2)
 | k,n,x :: r=>if 10<=k then (0,0,3) else if (0<k/\x.toNat=0)\/(k=9/\1<x.toNat) then (0,0,3) else if x.toNat<128 then (n+(x &&& 127).toNat*2 ^ (7*k),k+1,0) else aW (k+1) (n+(x &&& 127).toNat*2 ^ (7*k)) r
termination_by _ _ l=>l.length
def ae (b:List UInt8):Nat × Nat × Int:=aW 0 0 b
theorem iF (x:UInt8):(x &&& 127).toNat=x.toNat % 128:=by rw [UInt8.toNat_and]; exact Nat.and_two_pow_sub_one_eq_mod x.toNat 7
theorem Di {k:Nat} {x:UInt8} (hk:k<=9) (h:k=9->x.toNat<=1):(x &&& 127).toNat*2 ^ (7*k)<18446744073709551616:=by
 rw [iF]
 by_cases h9:k=9
 ·have:=h h9
  subst h9
  have:x.toNat % 128*2 ^ (7*9)<=1*2 ^ (7*9):=Nat.mul_le_mul_right _ (by omega)
  exact Nat.lt_of_le_of_lt this (by decide)
 ·have h1:2 ^ (7*k)<=2 ^ 56:=Nat.pow_le_pow_right (by decide) (by omega)
  have:x.toNat % 128*2 ^ (7*k)<=127*2 ^ 56:=Nat.mul_le_mul (by omega) h1
  exact Nat.lt_of_le_of_lt this (by decide)
theorem Ch {k n m:Nat} (h:n<2 ^ (7*k)):n ||| m*2 ^ (7*k)=n+m*2 ^ (7*k):=by
 have:=Nat.two_pow_add_eq_or_of_lt h m
 rw [Nat.or_comm,Nat.mul_comm m,<- this,Nat.add_comm]
theorem zr {k n:Nat} {x:UInt8} (h:n<2 ^ (7*k)):n+(x &&& 127).toNat*2 ^ (7*k)<2 ^ (7*(k+1)):=by
 rw [iF]
 have e:2 ^ (7*(k+1))=128*2 ^ (7*k):=by rw [show 7*(k+1)=7*k+7 by omega,Nat.pow_add,Nat.mul_comm]
 have:x.toNat % 128*2 ^ (7*k)<=127*2 ^ (7*k):=Nat.mul_le_mul_right _ (by omega)
 rw [e]; omega
theorem Cz {b:List UInt8} {k n:Nat} (hk:k<10) (hb:b.length<=k):aW k n (b.drop k)=(0,0,2):=by
 rw [List.drop_of_length_le hb,aW,if_neg (by omega)]
theorem BH {b:List UInt8} {k n:Nat} (hk:10<=k):aW k n (b.drop k)=(0,0,3):=by
 cases h:b.drop k with
 | nil=>rw [aW,if_pos hk]
 | cons x r=>rw [aW,if_pos hk]
theorem xC {b:List UInt8} {k n:Nat} {x:UInt8} (hk:k<10) (hx:b[k]? = some x):aW k n (b.drop k)=if (0<k/\x.toNat=0)\/(k=9/\1<x.toNat) then (0,0,3) else if x.toNat<128 then (n+(x &&& 127).toNat*2 ^ (7*k),k+1,0) else aW (k+1) (n+(x &&& 127).toNat*2 ^ (7*k)) (b.drop (k+1)):=by
 obtain ⟨hkl,he⟩:=List.getElem?_eq_some_iff.1 hx
 rw [List.drop_eq_getElem_cons hkl,he,aW,if_neg (by omega)]
theorem Av {b:List UInt8} {k n:Nat} {x:UInt8} (h:ae b=aW k n (b.drop k)) (hk:k<10) (hx:b[k]? = some x) (h1:¬ (0<k/\x.toNat=0)) (h2:¬ (k=9/\1<x.toNat)) (h3:¬ x.toNat<128):ae b=aW (k+1) (n+(x &&& 127).toNat*2 ^ (7*k)) (b.drop (k+1)):=by
 rw [h,xC hk hx,if_neg (fun h=>h.elim h1 h2),if_neg h3]
theorem jY:∀ {l:List UInt8} {k n:Nat},k<=10->(aW k n l).2.1<=11/\(aW k n l).2.1<=k+l.length
 | [],k,n,h=>by rw [aW]; split <;> simp
 | x :: r,k,n,h=>by
  rw [aW]
  split
  ·simp
  ·split
   ·simp
   ·split
    ·simp; omega
    ·have:=jY (l:=r) (k:=k+1) (n:=n+(x &&& 127).toNat*2 ^ (7*k)) (by omega)
     simp only [List.length_cons]; omega
theorem vf {b:List UInt8} {k n:Nat} {x:UInt8} (h:ae b=aW k n (b.drop k)) (hk:k<10) (hx:b[k]? = some x) (h1:(0<k/\x.toNat=0)\/(k=9/\1<x.toNat)):ae b=(0,0,3):=by rw [h,xC hk hx,if_pos h1]
theorem Ab {b:List UInt8} {k n:Nat} {x:UInt8} (h:ae b=aW k n (b.drop k)) (hk:k<10) (hx:b[k]? = some x) (h1:¬ (0<k/\x.toNat=0)) (h2:¬ (k=9/\1<x.toNat)) (h3:x.toNat<128):ae b=(n+(x &&& 127).toNat*2 ^ (7*k),k+1,0):=by
 rw [h,xC hk hx,if_neg (fun h=>h.elim h1 h2),if_pos h3]
end Go.Proofs.Ytladifkbefehdaa
namespace Go.Proofs.Ytladifkbefehdaa
open Go.RowKit
theorem uC:∀ {l:List UInt8} {k n:Nat},1<=k->(aW k n l).2.2=0->2 ^ (7*k)<=(aW k n l).1
 | [],k,n,_,h=>by rw [aW] at h; split at h <;> cases h
 | x :: r,k,n,hk,h=>by
  rw [aW] at h ⊢
  split
  ·rename_i h1; rw [if_pos h1] at h; cases h
  ·rename_i h1
   rw [if_neg h1] at h
   split
   ·rename_i h2; rw [if_pos h2] at h; cases h
   ·rename_i h2
    rw [if_neg h2] at h
    split
    ·rename_i h3
     rw [iF]
     have:1<=x.toNat % 128:=by
      have:¬ x.toNat=0:=fun e=>h2 (.inl ⟨by omega,e⟩)
      omega
     have:=Nat.mul_le_mul_right (2 ^ (7*k)) this
     show 2 ^ (7*k)<=n+x.toNat % 128*2 ^ (7*k)
     omega
    ·rename_i h3
     rw [if_neg h3] at h
     exact Nat.le_trans (Nat.pow_le_pow_right (by decide) (by omega)) (uC (by omega) h)
theorem sd (x:UInt8) (r:List UInt8):ae (x :: r)=if x.toNat<128 then (x.toNat,1,0) else aW 1 (x.toNat % 128) r:=by
 unfold ae
 rw [aW,if_neg (by decide),if_neg (by omega),iF]
 split
 ·rename_i h; rw [Nat.mod_eq_of_lt h]; simp
 ·simp
theorem oT {b:List UInt8} {k:Nat} (hk:k<b.length):(b.drop k).take (b.length - k)=b[k] :: b.drop (k+1):=by
 rw [List.take_of_length_le (by simp),List.drop_eq_getElem_cons hk]
theorem G_ {b:List UInt8} {k:Nat} (hk:k<b.length) (he:(ae ((b.drop k).take (b.length - k))).2.2=0) (hn:¬ (64:Int)<(((ae ((b.drop k).take (b.length - k))).1:Nat):Int)) :
  ∃ x,b[k]? = some x/\ae ((b.drop k).take (b.length - k))=(x.toNat,1,0)/\x.toNat<=64:=by
 rw [oT hk,sd] at *
 by_cases h:b[k].toNat<128
 ·rw [if_pos h] at *; exact ⟨_,List.getElem?_eq_getElem hk,rfl,by simp only at hn; omega⟩
 ·rw [if_neg h] at *
  have:=uC (Nat.le_refl 1) he
  omega
theorem GV {b:List UInt8} {k:Nat} (hk:k<b.length) (h:(¬ (ae ((b.drop k).take (b.length - k))).2.2=0)\/(64:Int)<(((ae ((b.drop k).take (b.length - k))).1:Nat):Int)):∃ x,b[k]? = some x/\64<x.toNat:=by
 refine ⟨b[k],List.getElem?_eq_getElem hk,?_⟩
 rw [oT hk,sd] at h
 by_cases h1:b[k].toNat<128
 ·rw [if_pos h1] at h; simp only [not_true_eq_false,false_or] at h; omega
 ·omega
def bd (b:List UInt8):List Int:=b.map fun x=>(x.toNat:Int)
def eT (b:List UInt8):List Int:=if rowF (bd b) then bd b else []
def gH (b:List UInt8):Int:=if rowF (bd b) then 0 else 6
theorem z_ {b:List UInt8} {k:Nat} {x:UInt8} {p:Nat × Nat × Int} (hx:b[k]? = some x) (hp:p=(x.toNat,1,0)):bd (b.take k)++[((p.1:Nat):Int)]=bd (b.take (k+1)):=by
 subst hp; unfold bd; rw [aj hx,List.map_append]; rfl
theorem BR {b:List UInt8} {k:Nat} (hk:k<b.length) (h:(¬ (ae ((b.drop k).take (b.length - k))).2.2=0)\/(64:Int)<(((ae ((b.drop k).take (b.length - k))).1:Nat):Int)):rowF (bd b)=false:=by
 obtain ⟨x,hx,h64⟩:=GV hk h
 rw [<- Bool.not_eq_true]
 intro hr
 have:=(gh hr (x.toNat:Int) (List.mem_map.2 ⟨x,List.mem_of_getElem? hx,rfl⟩)).2
 omega
theorem qV {b:List UInt8} {k:Nat} (hk:b.length<=k):bd (b.take k)=bd b:=by rw [List.take_of_length_le hk]
theorem c_ {b:List UInt8} (h:rowF (bd b)=false):[]=eT b:=by rw [eT,h]; rfl
theorem iT {b:List UInt8} (h:rowF (bd b)=false):6=gH b:=by rw [gH,h]; rfl
theorem na {b:List UInt8} {k:Nat} (hk:b.length<=k) (h:rowF (bd (b.take k))=true):bd (b.take k)=eT b:=by rw [qV hk] at *; rw [eT,h]; rfl
theorem nV {b:List UInt8} {k:Nat} (hk:b.length<=k) (h:rowF (bd (b.take k))=true):0=gH b:=by rw [qV hk] at *; rw [gH,h]; rfl
theorem eL {b:List UInt8} {k:Nat} (hk:b.length<=k) (h:rowF (bd (b.take k))=false):rowF (bd b)=false:=by rw [qV hk] at h; exact h
end Go.Proofs.Ytladifkbefehdaa
namespace Go.Proofs.Ytladifkbefehdaa
open Go.RowKit
theorem vC {l:List Int} (h:∀ x ∈ l,0<x/\x<=64):cX l=l.map fun x=>UInt8.ofNat x.toNat:=by
 induction l with
 | nil=>rfl
 | cons x r ih=>
  have hx:=h x (by simp)
  simp only [cX,List.flatMap_cons,List.map_cons] at *
  rw [kV (by omega),ih fun y hy=>h y (List.mem_cons_of_mem _ hy)]; rfl
theorem ku {l:List Int} (h:∀ x ∈ l,0<x/\x<=64):bd (l.map fun x=>UInt8.ofNat x.toNat)=l:=by
 unfold bd
 rw [List.map_map]
 refine (List.map_congr_left (g:=id) fun x hx=>?_).trans (List.map_id _)
 have:=h x hx
 show (((UInt8.ofNat x.toNat).toNat:Nat):Int)=x
 rw [UInt8.toNat_ofNat']; omega
theorem mz {l:List Int} (h:rowF l=true):bj l=(l.map fun x=>UInt8.ofNat x.toNat)/\dm l=0/\eT (bj l)=l/\gH (bj l)=0:=by
 have e:=vC (gh h)
 have e1:bj l=(l.map fun x=>UInt8.ofNat x.toNat):=by rw [bj,if_pos h,e]
 refine ⟨e1,by rw [dm,if_pos h],?_,?_⟩
 ·rw [e1,eT,ku (gh h),if_pos h]
 ·rw [e1,gH,ku (gh h),if_pos h]
end Go.Proofs.Ytladifkbefehdaa
namespace Go.Proofs.Ytladifkbefehdaa
open Go.RowKit
end Go.Proofs.Ytladifkbefehdaa
namespace Go.Proofs.Ytladifkbefehdaa
open Go.RowKit
end Go.Proofs.Ytladifkbefehdaa
namespace Go.Proofs.Ytladifkbefehdaa
open Go.RowKit
end Go.Proofs.Ytladifkbefehdaa
namespace Go.Proofs.Ytladifkbefehdaa
open Go.RowKit
end Go.Proofs.Ytladifkbefehdaa
namespace Go.Proofs.Ytladifkbefehdaa
open Go.RowKit
theorem ou {l:List Int} (h:l.length=0\/rowF l=true) (h0:0<((l.length:Nat):Int)):0<(((bj l).length:Nat):Int):=by
 rcases h with h | h
 ·omega
 ·rw [(mz h).1,List.length_map]; exact h0
theorem mM {l:List Int} (h0:¬ 0<((l.length:Nat):Int)):¬ 0<(((bj l).length:Nat):Int):=by
 obtain rfl:l=[]:=List.length_eq_zero_iff.1 (by omega)
 decide
end Go.Proofs.Ytladifkbefehdaa
namespace Go.Proofs.Ytladifkbefehdaa
open Go.RowKit
theorem Aj {c:Command} (h:eC c=true):c.chunks.length=0\/rowF c.chunks=true:=by
 unfold eC at h
 simp only [Bool.and_eq_true,decide_eq_true_eq] at h
 have h2:EB c=true:=by obtain ⟨⟨⟨⟨⟨⟨⟨h1,h2⟩,h3⟩,h4⟩,h5⟩,h6⟩,h7⟩,h8⟩:=h; assumption
 unfold EB at h2
 split at h2
 ·exact .inr h2
 ·have:=of_decide_eq_true h2; exact .inl (by omega)
theorem Cl {c:Command} {v:Int} (h:bS c v=true):c.chunks.length=0\/rowF c.chunks=true:=by
 unfold bS at h
 rw [Bool.and_eq_true,Bool.and_eq_true,Bool.or_eq_true,decide_eq_true_eq] at h
 rcases h.1.2 with h | h
 ·exact .inl (by omega)
 ·exact .inr h
theorem At {c:Command} {v:Int} (h:cw c v=0):c.chunks.length=0\/rowF c.chunks=true:=Aj (fx h).2.2.2
end Go.Proofs.Ytladifkbefehdaa
namespace Go.Proofs.Ytladifkbefehdaa
open Go.RowKit
structure TagR where
 num:Int
 wire:Int
 k:Nat
 e:Int
def q_ (n:Nat):Bool:=decide ((n / 8<1\/1000<n / 8)\/(¬ n % 8=0/\¬ n % 8=2))
def ay (b:List UInt8):TagR:=if (ae b).2.2=0 then (if q_ (ae b).1=true then ⟨0,0,0,6⟩ else ⟨(((ae b).1 / 8:Nat):Int),(((ae b).1 % 8:Nat):Int),(ae b).2.1,0⟩) else ⟨0,0,0,(ae b).2.2⟩
theorem vQ {b:List UInt8} (h:¬ (ae b).2.2=0):ay b=⟨0,0,0,(ae b).2.2⟩:=by rw [ay,if_neg h]
theorem wk {b:List UInt8} (h:(ae b).2.2=0) (h2:((ae b).1 / 8<1\/1000<(ae b).1 / 8)\/(¬ (ae b).1 % 8=0/\¬ (ae b).1 % 8=2)):ay b=⟨0,0,0,6⟩:=by rw [ay,if_pos h,if_pos (show q_ _=true from decide_eq_true h2)]
theorem rb {b:List UInt8} (h:(ae b).2.2=0) (h2:¬ (((ae b).1 / 8<1\/1000<(ae b).1 / 8)\/(¬ (ae b).1 % 8=0/\¬ (ae b).1 % 8=2))):ay b=⟨(((ae b).1 / 8:Nat):Int),(((ae b).1 % 8:Nat):Int),(ae b).2.1,0⟩:=by
 rw [ay,if_pos h,if_neg (by unfold q_; simpa using h2)]
theorem jR (b:List UInt8):((ay b).k<=11/\(ay b).k<=b.length)/\(0<=(ay b).num/\(ay b).num<=1000)/\(0<=(ay b).wire/\(ay b).wire<=2):=by
 have hs:(ae b).2.1<=11/\(ae b).2.1<=0+b.length:=jY (l:=b) (k:=0) (n:=0) (by omega)
 by_cases h:(ae b).2.2=0
 ·by_cases h2:((ae b).1 / 8<1\/1000<(ae b).1 / 8)\/(¬ (ae b).1 % 8=0/\¬ (ae b).1 % 8=2)
  ·rw [wk h h2]; simp
  ·rw [rb h h2]; dsimp only; omega
 ·rw [vQ h]; simp
theorem xS:∀ {l:List UInt8} {k n:Nat},(aW k n l).2.2=0->1<=(aW k n l).2.1
 | [],k,n,h=>by rw [aW] at h; split at h <;> cases h
 | x :: r,k,n,h=>by
  rw [aW] at h ⊢
  split
  ·rename_i h1; rw [if_pos h1] at h; cases h
  ·rename_i h1
   rw [if_neg h1] at h
   split
   ·rename_i h2; rw [if_pos h2] at h; cases h
   ·rename_i h2
    rw [if_neg h2] at h
    split
    ·simp
    ·rename_i h3; rw [if_neg h3] at h; exact xS h
def aH (b:List UInt8):Nat × Int:=
  if (ay b).e=0 then
    (if (ae (b.drop (ay b).k)).2.2=0 then
      (if (ay b).wire=0 then ((ay b).k+(ae (b.drop (ay b).k)).2.1,0)
       else if 16384<(ae (b.drop (ay b).k)).1 then (0,4)
       else if ((b.length:Nat):Int) - (((ay b).k+(ae (b.drop (ay b).k)).2.1:Nat):Int)<(((ae (b.drop (ay b).k)).1:Nat):Int) then (0,2)
       else ((ay b).k+(ae (b.drop (ay b).k)).2.1+(ae (b.drop (ay b).k)).1,0))
     else (0,(ae (b.drop (ay b).k)).2.2))
  else (0,(ay b).e)
theorem FE {b:List UInt8} (h:¬ (ay b).e=0):aH b=(0,(ay b).e):=by rw [aH,if_neg h]
theorem FV {b:List UInt8} (h:(ay b).e=0) (h2:¬ (ae (b.drop (ay b).k)).2.2=0):aH b=(0,(ae (b.drop (ay b).k)).2.2):=by rw [aH,if_pos h,if_neg h2]
theorem DQ {b:List UInt8} (h:(ay b).e=0) (h2:(ae (b.drop (ay b).k)).2.2=0) (h3:(ay b).wire=0):aH b=((ay b).k+(ae (b.drop (ay b).k)).2.1,0):=by rw [aH,if_pos h,if_pos h2,if_pos h3]
theorem FD {b:List UInt8} (h:(ay b).e=0) (h2:(ae (b.drop (ay b).k)).2.2=0) (h3:¬ (ay b).wire=0) (h4:16384<(ae (b.drop (ay b).k)).1):aH b=(0,4):=by rw [aH,if_pos h,if_pos h2,if_neg h3,if_pos h4]
theorem GB {b:List UInt8} (h:(ay b).e=0) (h2:(ae (b.drop (ay b).k)).2.2=0) (h3:¬ (ay b).wire=0) (h4:¬ 16384<(ae (b.drop (ay b).k)).1) (h5:((b.length:Nat):Int) - (((ay b).k+(ae (b.drop (ay b).k)).2.1:Nat):Int)<(((ae (b.drop (ay b).k)).1:Nat):Int)):aH b=(0,2):=by rw [aH,if_pos h,if_pos h2,if_neg h3,if_neg h4,if_pos h5]
theorem Et {b:List UInt8} (h:(ay b).e=0) (h2:(ae (b.drop (ay b).k)).2.2=0) (h3:¬ (ay b).wire=0) (h4:¬ 16384<(ae (b.drop (ay b).k)).1) (h5:¬ ((b.length:Nat):Int) - (((ay b).k+(ae (b.drop (ay b).k)).2.1:Nat):Int)<(((ae (b.drop (ay b).k)).1:Nat):Int)):aH b=((ay b).k+(ae (b.drop (ay b).k)).2.1+(ae (b.drop (ay b).k)).1,0):=by rw [aH,if_pos h,if_pos h2,if_neg h3,if_neg h4,if_neg h5]
theorem gT (b:List UInt8) (k:Nat):(ae (b.drop k)).2.1<=11/\(ae (b.drop k)).2.1+k<=max b.length k:=by
 have:=jY (l:=b.drop k) (k:=0) (n:=0) (by omega)
 unfold ae
 rw [List.length_drop] at this
 omega
theorem gV (b:List UInt8):(aH b).1<=b.length:=by
 have h1:=jR b; have h2:=gT b (ay b).k
 unfold aH
 split
 ·split
  ·split
   ·dsimp only; omega
   ·split
    ·simp
    ·split
     ·simp
     ·dsimp only; omega
  ·simp
 ·simp
theorem gS {b:List UInt8} (h:(aH b).2=0):1<=(aH b).1:=by
 unfold aH at h ⊢
 split
 ·rename_i h0
  rw [if_pos h0] at h
  split
  ·rename_i h1
   rw [if_pos h1] at h
   have:=xS (l:=b.drop (ay b).k) (k:=0) (n:=0) h1
   split
   ·dsimp only; unfold ae; omega
   ·rename_i h2
    rw [if_neg h2] at h
    split
    ·rename_i h3; rw [if_pos h3] at h; cases h
    ·rename_i h3
     rw [if_neg h3] at h
     split
     ·rename_i h4; rw [if_pos h4] at h; cases h
     ·dsimp only; unfold ae; omega
  ·rename_i h1; rw [if_neg h1] at h; exact absurd h h1
 ·rename_i h0; rw [if_neg h0] at h; exact absurd h h0
def fu (b:List UInt8):Field:=if (ay b).wire=0 then ⟨(ay b).num,(ay b).wire,⟨(ae (b.drop (ay b).k)).1⟩,[]⟩ else ⟨(ay b).num,(ay b).wire,⟨0⟩,b.drop ((ay b).k+(ae (b.drop (ay b).k)).2.1)⟩
theorem oi {b:List UInt8} (h:(ay b).wire=0):(⟨(ay b).num,(ay b).wire,⟨(ae (b.drop (ay b).k)).1⟩,[]⟩:Field)=fu b:=by rw [fu,if_pos h]
theorem oL {b:List UInt8} (h:¬ (ay b).wire=0):(⟨(ay b).num,(ay b).wire,⟨0⟩,b.drop ((ay b).k+(ae (b.drop (ay b).k)).2.1)⟩:Field)=fu b:=by rw [fu,if_neg h]
end Go.Proofs.Ytladifkbefehdaa
namespace Go.Proofs.Ytladifkbefehdaa
open Go.RowKit
def cz (acc:List Field) (x:Field):Bool:=match acc[acc.length - 1]? with | none=>true | some y=>db y x
def la:Nat->List Field->List UInt8->List Field × Int
 | 0,acc,_=>(acc,0)
 | f+1,acc,b=>if b.length=0 then (acc,0) else if (aH b).2=0 then (if cz acc (fu (b.take (aH b).1))=true then la f (acc++[fu (b.take (aH b).1)]) (b.drop (aH b).1) else ([],5)) else ([],(aH b).2)
def aQ (b:List UInt8):List Field × Int:=if 16384<b.length then ([],4) else la b.length [] b
def eA (b:List UInt8) (i:Nat) (acc:List Field):Prop:=∃ f,b.length - i<=f/\aQ b=la f acc (b.drop i)
theorem CZ {b:List UInt8} (h:16384<b.length):aQ b=([],4):=by rw [aQ,if_pos h]
theorem kx {b:List UInt8} (h:¬ 16384<b.length):eA b 0 []:=⟨b.length,by omega,by rw [aQ,if_neg h]; rfl⟩
theorem vW {b:List UInt8} {i:Nat} {acc:List Field} (h:eA b i acc) (hi:i<b.length):∃ f,b.length - i<=f+1/\aQ b=if (aH (b.drop i)).2=0 then (if cz acc (fu ((b.drop i).take (aH (b.drop i)).1))=true then la f (acc++[fu ((b.drop i).take (aH (b.drop i)).1)]) ((b.drop i).drop (aH (b.drop i)).1) else ([],5)) else ([],(aH (b.drop i)).2):=by
 obtain ⟨f,hf,e⟩:=h
 cases f with
 | zero=>omega
 | succ f=>exact ⟨f,hf,by rw [e,la,if_neg (by rw [List.length_drop]; omega)]⟩
theorem zL {b:List UInt8} {i:Nat} {acc:List Field} (h:eA b i acc) (hi:i<b.length) (hs:¬ (aH (b.drop i)).2=0):aQ b=([],(aH (b.drop i)).2):=by
 obtain ⟨f,_,e⟩:=vW h hi; rw [e,if_neg hs]
theorem BZ {b:List UInt8} {i:Nat} {acc:List Field} (h:eA b i acc) (hi:b.length<=i):aQ b=(acc,0):=by
 obtain ⟨f,_,e⟩:=h
 rw [e,List.drop_of_length_le hi]
 cases f <;> rfl
theorem oE:∀ {f:Nat} {acc:List Field} {b:List UInt8},(la f acc b).1.length<=acc.length+b.length
 | 0,acc,b=>by simp [la]
 | f+1,acc,b=>by
  unfold la
  split
  ·simp
  ·split
   ·rename_i h0 h1
    split
    ·have:=oE (f:=f) (acc:=acc++[fu (b.take (aH b).1)]) (b:=b.drop (aH b).1)
     have h2:=gS h1
     rw [List.length_append,List.length_drop] at this
     simp only [List.length_cons,List.length_nil] at this
     omega
    ·simp
   ·simp
theorem sB (b:List UInt8):(aQ b).1.length<=16384:=by
 unfold aQ
 split
 ·simp
 ·have:=oE (f:=b.length) (acc:=[]) (b:=b)
  simp only [List.length_nil] at this
  omega
end Go.Proofs.Ytladifkbefehdaa
namespace Go.Proofs.Ytladifkbefehdaa
open Go.RowKit
def tn (x:Field) (s:Spec) (n:Int):Bool:=if ¬ x.wire=s.wire\/(1<n/\s.many=false) then false else if x.wire=0 then !decide ((x.n.n:Int)=0) else decide (0<((x.b.length:Nat):Int))
theorem FY {x:Field} {s:Spec} {n:Int} (h:¬ (¬ x.wire=s.wire\/(1<n/\s.many=false))) (h0:x.wire=0):(!decide ((x.n.n:Int)=0))=tn x s n:=by rw [tn,if_neg h,if_pos h0]
theorem EK {x:Field} {s:Spec} {n:Int} (h:¬ (¬ x.wire=s.wire\/(1<n/\s.many=false))) (h0:¬ x.wire=0):decide (0<((x.b.length:Nat):Int))=tn x s n:=by rw [tn,if_neg h,if_neg h0]
def bJ (l:List Field) (q:Int):Nat:=l.countP fun x=>decide (x.num=q)
theorem dR {l:List Field} {k:Nat} (q:Int):bJ (l.take k) q<=k:=Nat.le_trans List.countP_le_length (by rw [List.length_take]; exact Nat.min_le_left _ _)
theorem xg {l:List Field} {k:Nat} {x:Field} (hx:l[k]? = some x) (q:Int):bJ (l.take (k+1)) q=if q=x.num then bJ (l.take k) x.num+1 else bJ (l.take k) q:=by
 unfold bJ
 rw [aj hx,List.countP_append]
 by_cases h:q=x.num
 ·subst h; simp
 ·have:¬ x.num=q:=fun e=>h e.symm
  simp [h,this]
def lN (l:List Field) (ss:List Spec) (k:Nat):Prop:=∀ j x,j<k->l[j]? = some x->∀ s ∈ ss,s.num=x.num->tn x s ((bJ (l.take (j+1)) x.num:Nat):Int)=true
def ur (l:List Field) (ss:List Spec) (m:Nat):Prop:=∀ j y,j<m->ss[j]? = some y->y.need=true->¬ bJ l y.num=0
def xw (ss:List Spec) (x:Field) (n:Int) (m:Nat):Prop:=∀ j y,j<m->ss[j]? = some y->y.num=x.num->tn x y n=true
theorem jC {ss:List Spec} {x:Field} {n:Int}:xw ss x n 0:=fun j y h=>by omega
theorem jt {l:List Field} {ss:List Spec}:lN l ss 0:=fun j y h=>by omega
theorem jB {l:List Field} {ss:List Spec}:ur l ss 0:=fun j y h=>by omega
def pC (l:List Field) (v:Int):Prop:=lN l (az v) l.length/\ur l (az v) (az v).length
open Classical in
noncomputable def du (l:List Field) (v:Int):Int:=if (az v).length=0 then 1 else if bl l=0 then (if pC l v then 0 else 6) else bl l
theorem pF {l:List Field} {v:Int} (h:(az v).length=0):1=du l v:=by rw [du,if_pos h]
theorem oF {l:List Field} {v:Int} (h:¬ (az v).length=0) (h2:¬ bl l=0):bl l=du l v:=by rw [du,if_neg h,if_neg h2]
theorem fR {l:List Field} {v:Int} (h:¬ (az v).length=0) (h2:bl l=0) (h3:¬ pC l v):6=du l v:=by rw [du,if_neg h,if_pos h2,if_neg h3]
theorem mN {l:List Field} {v:Int} (h:¬ (az v).length=0) (h2:bl l=0) (h3:pC l v):0=du l v:=by rw [du,if_neg h,if_pos h2,if_pos h3]
theorem xj {ss:List Spec} {m:Nat} {x:Field} {n:Int} {y:Spec} (h:xw ss x n m) (hy:ss[m]? = some y) (hn:y.num=x.num->tn x y n=true):xw ss x n (m+1):=by
 intro j z hj hz
 by_cases hjm:j=m
 ·subst hjm; rw [hy] at hz; cases hz; exact hn
 ·exact h j z (by omega) hz
theorem xM {l:List Field} {ss:List Spec} {k m:Nat} {x:Field} (h:lN l ss k) (hx:l[k]? = some x) {n:Int} (hi:xw ss x n m) (hm:ss.length<=m) (e:n=((bJ (l.take (k+1)) x.num:Nat):Int)):lN l ss (k+1):=by
 subst e
 intro j z hj hz s hs hn
 by_cases hjk:j=k
 ·subst hjk; rw [hx] at hz; cases hz
  obtain ⟨p,hp,rfl⟩:=List.getElem_of_mem hs
  exact hi p _ (by omega) (List.getElem?_eq_getElem hp) hn
 ·exact h j z (by omega) hz s hs hn
theorem vM {l:List Field} {ss:List Spec} {m:Nat} {y:Spec} (h:ur l ss m) (hy:ss[m]? = some y) (hn:y.need=true->¬ bJ l y.num=0):ur l ss (m+1):=by
 intro j z hj hz
 by_cases hjm:j=m
 ·subst hjm; rw [hy] at hz; cases hz; exact hn
 ·exact h j z (by omega) hz
theorem dV {l:List Field} {v:Int} {k m:Nat} {x:Field} {y:Spec} (hx:l[k]? = some x) (hy:(az v)[m]? = some y) {n:Int} (hn:y.num=x.num/\tn x y n=false) (e:n=((bJ (l.take (k+1)) x.num:Nat):Int)):¬ pC l v:=by
 intro h
 have:=h.1 k x (qW hx) hx y (List.mem_of_getElem? hy) hn.1
 rw [<- e,hn.2] at this; cases this
theorem AM {l:List Field} {v:Int} {m:Nat} {y:Spec} {n:Nat} (hy:(az v)[m]? = some y) (hn:y.need=true/\((n:Nat):Int)=0) (e:n=bJ l y.num):¬ pC l v:=
 fun h=>h.2 m y (qW hy) hy hn.1 (by omega)
theorem zD {l:List Field} {v:Int} {k m:Nat} (h1:lN l (az v) k) (hk:l.length<=k) (h2:ur l (az v) m) (hm:(az v).length<=m):pC l v:=
 ⟨fun j x hj=>h1 j x (by omega),fun j y hj=>h2 j y (by omega)⟩
end Go.Proofs.Ytladifkbefehdaa
namespace Go.Proofs.Ytladifkbefehdaa
open Go.RowKit
theorem yS {l:List Field} {v:Int} {k:Nat} {x:Field} (hx:l[k]? = some x) (h:x.num<=v):(l.take k).filter (fun f=>decide (f.num<=v))++[x]=(l.take (k+1)).filter (fun f=>decide (f.num<=v)):=by
 rw [aj hx,List.filter_append]; simp [h]
theorem Du {l:List Field} {v:Int} {k:Nat} {x:Field} (hx:l[k]? = some x) (h:¬ x.num<=v):(l.take k).filter (fun f=>decide (f.num<=v))=(l.take (k+1)).filter (fun f=>decide (f.num<=v)):=by
 rw [aj hx,List.filter_append]; simp [h]
theorem yE {l:List Field} {v:Int} {k:Nat} {x:Field} (hx:l[k]? = some x) (h:¬ x.num<=v):(l.take k).filter (fun f=>!decide (f.num<=v))++[x]=(l.take (k+1)).filter (fun f=>!decide (f.num<=v)):=by
 rw [aj hx,List.filter_append]; simp [h]
theorem CP {l:List Field} {v:Int} {k:Nat} {x:Field} (hx:l[k]? = some x) (h:x.num<=v):(l.take k).filter (fun f=>!decide (f.num<=v))=(l.take (k+1)).filter (fun f=>!decide (f.num<=v)):=by
 rw [aj hx,List.filter_append]; simp [h]
theorem xB (l:List Field) (p:Field->Bool):(l.filter p).length<=l.length:=List.length_filter_le _ _
def bO (l:List Field) (v:Int):List Field:=l.filter fun f=>decide (f.num<=v)
def bX (l:List Field) (v:Int):List Field:=l.filter fun f=>!decide (f.num<=v)
theorem nM (l:List Field) (v:Int):(bO l v).length<=l.length:=xB _ _
theorem gW (l:List Field) (v:Int):(bX l v).length<=l.length:=xB _ _
theorem tV {l:List Field} {v:Int} {k:Nat} (hk:l.length<=k):(l.take k).filter (fun f=>decide (f.num<=v))=bO l v:=by rw [List.take_of_length_le hk]; rfl
theorem uY {l:List Field} {v:Int} {k:Nat} (hk:l.length<=k):(l.take k).filter (fun f=>!decide (f.num<=v))=bX l v:=by rw [List.take_of_length_le hk]; rfl
end Go.Proofs.Ytladifkbefehdaa
namespace Go.Proofs.Ytladifkbefehdaa
open Go.RowKit
def rQ (f:Field):Int:=IntKind.i64.wrap ((f.n.n:Nat):Int)
def bu (c:Command) (f:Field):Command:=
 if f.num=1 then ⟨rQ f,c.client,c.seq,c.set,c.id,c.n,c.chunks,c.text⟩ else
 if f.num=2 then ⟨c.kind,rQ f,c.seq,c.set,c.id,c.n,c.chunks,c.text⟩ else
 if f.num=3 then ⟨c.kind,c.client,rQ f,c.set,c.id,c.n,c.chunks,c.text⟩ else
 if f.num=4 then ⟨c.kind,c.client,c.seq,rQ f,c.id,c.n,c.chunks,c.text⟩ else
 if f.num=5 then ⟨c.kind,c.client,c.seq,c.set,rQ f,c.n,c.chunks,c.text⟩ else
 if f.num=6 then ⟨c.kind,c.client,c.seq,c.set,c.id,rQ f,c.chunks,c.text⟩ else
 if f.num=7 then ⟨c.kind,c.client,c.seq,c.set,c.id,c.n,eT f.b,c.text⟩ else
 if f.num=8 then ⟨c.kind,c.client,c.seq,c.set,c.id,c.n,c.chunks,⟨f.b⟩⟩ else c
def bT:Command:=⟨0,0,0,0,0,0,[],⟨[]⟩⟩
def bk (l:List Field):Command:=l.foldl bu bT
theorem ax {l:List Field} {k:Nat} {x:Field} (hx:l[k]? = some x):bk (l.take (k+1))=bu (bk (l.take k)) x:=by
 unfold bk; rw [aj hx,List.foldl_append]; rfl
theorem AL {c:Command} {f:Field} (h:f.num=1):(⟨rQ f,c.client,c.seq,c.set,c.id,c.n,c.chunks,c.text⟩:Command)=bu c f:=by rw [bu,if_pos h]
theorem zH {c:Command} {f:Field} (h:f.num=2):(⟨c.kind,rQ f,c.seq,c.set,c.id,c.n,c.chunks,c.text⟩:Command)=bu c f:=by rw [bu,if_neg (by omega),if_pos h]
theorem yu {c:Command} {f:Field} (h:f.num=3):(⟨c.kind,c.client,rQ f,c.set,c.id,c.n,c.chunks,c.text⟩:Command)=bu c f:=by rw [bu,if_neg (by omega),if_neg (by omega),if_pos h]
theorem yK {c:Command} {f:Field} (h:f.num=4):(⟨c.kind,c.client,c.seq,rQ f,c.id,c.n,c.chunks,c.text⟩:Command)=bu c f:=by rw [bu,if_neg (by omega),if_neg (by omega),if_neg (by omega),if_pos h]
theorem Ah {c:Command} {f:Field} (h:f.num=5):(⟨c.kind,c.client,c.seq,c.set,rQ f,c.n,c.chunks,c.text⟩:Command)=bu c f:=by rw [bu,if_neg (by omega),if_neg (by omega),if_neg (by omega),if_neg (by omega),if_pos h]
theorem yC {c:Command} {f:Field} (h:f.num=6):(⟨c.kind,c.client,c.seq,c.set,c.id,rQ f,c.chunks,c.text⟩:Command)=bu c f:=by rw [bu,if_neg (by omega),if_neg (by omega),if_neg (by omega),if_neg (by omega),if_neg (by omega),if_pos h]
theorem zQ {c:Command} {f:Field} (h:f.num=7):(⟨c.kind,c.client,c.seq,c.set,c.id,c.n,eT f.b,c.text⟩:Command)=bu c f:=by rw [bu,if_neg (by omega),if_neg (by omega),if_neg (by omega),if_neg (by omega),if_neg (by omega),if_neg (by omega),if_pos h]
theorem zg {c:Command} {f:Field} (h:f.num=8):(⟨c.kind,c.client,c.seq,c.set,c.id,c.n,c.chunks,⟨f.b⟩⟩:Command)=bu c f:=by rw [bu,if_neg (by omega),if_neg (by omega),if_neg (by omega),if_neg (by omega),if_neg (by omega),if_neg (by omega),if_neg (by omega),if_pos h]
theorem CF {c:Command} {f:Field} (h:¬ (1<=f.num/\f.num<=8)):c=bu c f:=by rw [bu,if_neg (by omega),if_neg (by omega),if_neg (by omega),if_neg (by omega),if_neg (by omega),if_neg (by omega),if_neg (by omega),if_neg (by omega)]
noncomputable def ff (b:List UInt8) (v:Int):Int:=if (aQ b).2=0 then du (aQ b).1 v else (aQ b).2
end Go.Proofs.Ytladifkbefehdaa
namespace Go.Proofs.Ytladifkbefehdaa
open Go.RowKit
structure TkR where
 c:Command
 r:List Field
 e:Int
noncomputable def aI (b:List UInt8) (v:Int):TkR:=
 if 1<=v/\v<=3 then (if ff b v=0 then (if bt (bk (bO (aQ b).1 (aT v))) (bX (aQ b).1 (aT v)) v=0/\aF (bk (bO (aQ b).1 (aT v))) (bX (aQ b).1 (aT v)) v=b then ⟨bk (bO (aQ b).1 (aT v)),bX (aQ b).1 (aT v),0⟩ else ⟨bT,[],6⟩) else ⟨bT,[],ff b v⟩) else ⟨bT,[],1⟩
theorem FL {b:List UInt8} {v:Int} (h:¬ (1<=v/\v<=3)):aI b v=⟨bT,[],1⟩:=by rw [aI,if_neg h]
theorem EY {b:List UInt8} {v:Int} (h:1<=v/\v<=3) (h2:¬ ff b v=0):aI b v=⟨bT,[],ff b v⟩:=by rw [aI,if_pos h,if_neg h2]
theorem Gf {b:List UInt8} {v:Int} (h:1<=v/\v<=3) (h2:ff b v=0) (h3:¬ bt (bk (bO (aQ b).1 (aT v))) (bX (aQ b).1 (aT v)) v=0\/¬ aF (bk (bO (aQ b).1 (aT v))) (bX (aQ b).1 (aT v)) v=b):aI b v=⟨bT,[],6⟩:=by
 rw [aI,if_pos h,if_pos h2,if_neg (fun h=>h3.elim (fun h4=>h4 h.1) (fun h4=>h4 h.2))]
theorem EW {b:List UInt8} {v:Int} (h:1<=v/\v<=3) (h2:ff b v=0) (h3:bt (bk (bO (aQ b).1 (aT v))) (bX (aQ b).1 (aT v)) v=0/\aF (bk (bO (aQ b).1 (aT v))) (bX (aQ b).1 (aT v)) v=b):aI b v=⟨bk (bO (aQ b).1 (aT v)),bX (aQ b).1 (aT v),0⟩:=by
 rw [aI,if_pos h,if_pos h2,if_pos h3]
theorem AF {b:List UInt8} {v:Int} (h:ff b v=0):(aQ b).2=0/\bl (aQ b).1=0:=by
 unfold ff at h
 split at h
 ·rename_i h1
  refine ⟨h1,?_⟩
  unfold du at h
  split at h
  ·cases h
  ·split at h
   ·assumption
   ·exact h
 ·rename_i h1; exact absurd h h1
theorem CD {b:List UInt8} {v:Int} {u:Int} (h:ff b v=0):∀ f ∈ bO (aQ b).1 u,f.b.length<=16384:=
 fun _ hf=>eH (AF h).2 (List.mem_filter.1 hf).1
end Go.Proofs.Ytladifkbefehdaa
namespace Go.Proofs.Ytladifkbefehdaa
open Go.RowKit
theorem th {x:UInt8} (h:x.toNat<128):(x &&& 127).toNat=x.toNat:=by rw [iF]; omega
theorem uj:∀ (n:Nat) {k m:Nat} {r:List UInt8},k<=9->n*2 ^ (7*k)<18446744073709551616->(0<k->n≠0)->aW k m (br n++r)=(m+n*2 ^ (7*k),k+(br n).length,0):=by
 intro n
 induction n using Nat.strongRecOn with
 | _ n ih=>
  intro k m r hk hn h0
  by_cases hs:n<128
  ·rw [kV hs]
   have hx:(UInt8.ofNat n).toNat=n:=by rw [UInt8.toNat_ofNat']; omega
   simp only [List.cons_append,List.nil_append,List.length_cons,List.length_nil]
   have h9:¬ ((0<k/\(UInt8.ofNat n).toNat=0)\/(k=9/\1<(UInt8.ofNat n).toNat)):=by
    rw [hx]
    rintro (⟨h1,h2⟩ | ⟨rfl,h2⟩)
    ·exact h0 h1 h2
    ·have:2*2 ^ (7*9)<=n*2 ^ (7*9):=Nat.mul_le_mul_right _ (by omega)
     have e:(2:Nat)*2 ^ (7*9)=18446744073709551616:=by decide
     omega
   rw [aW,if_neg (by omega),if_neg h9,if_pos (by omega),th (by omega),hx]
  ·rw [xd hs]
   simp only [List.cons_append,List.length_cons]
   have hx:=EM n
   have hk8:k<=8:=by
    rcases Nat.lt_or_ge k 9 with h | h
    ·omega
    ·have hk9:k=9:=by omega
     subst hk9
     have:128*2 ^ (7*9)<=n*2 ^ (7*9):=Nat.mul_le_mul_right _ (by omega)
     have e:(128:Nat)*2 ^ (7*9)=1180591620717411303424:=by decide
     omega
   have e7:(2:Nat) ^ (7*(k+1))=128*2 ^ (7*k):=by rw [show 7*(k+1)=7*k+7 by omega,Nat.pow_add,Nat.mul_comm]
   have hd:n / 128*2 ^ (7*(k+1))<=n*2 ^ (7*k):=by
    rw [e7,<- Nat.mul_assoc]; exact Nat.mul_le_mul_right _ (Nat.div_mul_le_self _ _)
   rw [aW,if_neg (by omega),if_neg (by rw [hx]; rintro (⟨_,h⟩ | ⟨h,_⟩) <;> omega),if_neg (by omega),iF,hx]
   rw [ih (n / 128) (by omega) (k:=k+1) (by omega) (by omega) (fun _=>by omega)]
   have e:(n % 128+128) % 128=n % 128:=by omega
   have e2:n % 128*2 ^ (7*k)+n / 128*2 ^ (7*(k+1))=n*2 ^ (7*k):=by
    rw [e7,<- Nat.mul_assoc,<- Nat.add_mul]; congr 1; omega
   rw [e,Nat.add_assoc,e2]
   congr 2
   omega
theorem eg {n:Nat} (h:n<18446744073709551616) (r:List UInt8):ae (br n++r)=(n,(br n).length,0):=by
 unfold ae
 rw [uj n (by omega) (by simpa using h) (fun h=>absurd h (by omega))]
 simp
def jH (f:Field):Prop:=f.n.n<18446744073709551616
theorem gL {f:Field} (h:bp f=true) (r:List UInt8):ay (cN f.num f.wire++r)=⟨f.num,f.wire,(cN f.num f.wire).length,0⟩:=by
 obtain ⟨h1,h2⟩:=fa h
 rw [mh h]
 have ht:=eg (n:=((8*f.num)+f.wire).toNat) (by omega) r
 have hw:f.wire=0\/f.wire=2:=h2.imp (fun h=>h.1) (fun h=>h.1)
 rw [rb (by rw [ht]) (by rw [ht]; simp only; omega),ht]
 simp only [TagR.mk.injEq,and_true]
 omega
theorem kE {f:Field} (h:f.wire=0):aN f=cN f.num f.wire++br f.n.n:=by rw [aN,if_pos h]
theorem lg {f:Field} (h:¬ f.wire=0):aN f=cN f.num f.wire++(br f.b.length++f.b):=by rw [aN,if_neg h,List.append_assoc]
theorem v_ {f:Field} (h:bp f=true) (hb:f.b.length<=16384) (hu:jH f) (r:List UInt8):aH (aN f++r)=((aN f).length,0):=by
 by_cases hw:f.wire=0
 ·rw [kE hw,List.append_assoc]
  have ht:=gL h (br f.n.n++r)
  have hd:(cN f.num f.wire++(br f.n.n++r)).drop (cN f.num f.wire).length=br f.n.n++r:=List.drop_left
  have hk:=eg hu r
  rw [DQ (by rw [ht]) (by rw [ht]; simp only; rw [hd,hk]) (by rw [ht]; exact hw),ht]
  simp only
  rw [hd,hk,List.length_append]
 ·rw [lg hw,List.append_assoc,List.append_assoc]
  have ht:=gL h (br f.b.length++(f.b++r))
  have hd:(cN f.num f.wire++(br f.b.length++(f.b++r))).drop (cN f.num f.wire).length=br f.b.length++(f.b++r):=List.drop_left
  have hk:=eg (n:=f.b.length) (by omega) (f.b++r)
  rw [Et (by rw [ht]) (by rw [ht]; simp only; rw [hd,hk]) (by rw [ht]; exact hw) (by rw [ht]; simp only; rw [hd,hk]; simp only; omega) (by rw [ht]; simp only; rw [hd,hk]; simp only [List.length_append]; omega),ht]
  simp only
  rw [hd,hk]
  simp only [List.length_append,Nat.add_assoc]
theorem yL {f:Field} (h:bp f=true) (hb:f.b.length<=16384) (hu:jH f):fu (aN f)=f:=by
 obtain ⟨h1,h2⟩:=fa h
 by_cases hw:f.wire=0
 ·rw [kE hw]
  have ht:=gL h (br f.n.n)
  have hd:(cN f.num f.wire++br f.n.n).drop (cN f.num f.wire).length=br f.n.n:=List.drop_left
  have hk:=eg hu []
  rw [List.append_nil] at hk
  rw [<- oi (by rw [ht]; exact hw),ht]
  simp only
  rw [hd,hk]
  have hb0:f.b=[]:=by rcases h2 with h2 | h2; exact h2.2; omega
  cases f; simp_all
 ·rw [lg hw]
  have ht:=gL h (br f.b.length++f.b)
  have hd:(cN f.num f.wire++(br f.b.length++f.b)).drop (cN f.num f.wire).length=br f.b.length++f.b:=List.drop_left
  have hk:=eg (n:=f.b.length) (by omega) f.b
  rw [<- oL (by rw [ht]; exact hw),ht]
  simp only
  rw [hd,hk]
  simp only
  rw [<- List.drop_drop,hd,List.drop_left]
  have hn0:f.n.n=0:=by rcases h2 with h2 | h2; exact absurd h2.1 hw; exact h2.2
  cases f with | mk a b n c=>cases n; simp_all
theorem uT {p:Option Field} {x:Field} {r:List Field} (h:bM p (x :: r)=0):(bp x=true/\Fj p x=true/\x.b.length<=16384)/\bM (some x) r=0:=by
 unfold bM at h
 split at h
 ·rename_i hs
  refine ⟨?_,h⟩
  unfold stepT at hs
  split at hs
  ·cases hs
  ·rename_i h1
   split at hs
   ·cases hs
   ·rename_i h2
    split at hs
    ·cases hs
    ·exact ⟨by simpa using h1,by simpa using h2,by omega⟩
 ·rename_i hs; exact absurd h hs
theorem te (acc:List Field) (x:Field):cz acc x=Fj acc[acc.length - 1]? x:=by
 unfold cz; cases acc[acc.length - 1]? <;> rfl
theorem zP {f:Field} (h:bp f=true):1<=(cN f.num f.wire).length:=by
 rw [mh h,pK]; exact dr _
theorem qN {f:Field} (h:bp f=true):1<=(aN f).length:=by
 have:=zP h
 by_cases hw:f.wire=0
 ·rw [kE hw,List.length_append]; omega
 ·rw [lg hw,List.length_append]; omega
theorem oc:∀ {fs acc:List Field} {n:Nat},bM acc[acc.length - 1]? fs=0->(∀ f ∈ fs,jH f)->((fs.map aN).flatten).length<=n->la n acc ((fs.map aN).flatten)=(acc++fs,0)
 | [],acc,n,_,_,_=>by cases n <;> simp [la]
 | x :: r,acc,n,h,hu,hn=>by
  obtain ⟨⟨h1,h2,h3⟩,h4⟩:=uT h
  have hp:=qN h1
  simp only [List.map_cons,List.flatten_cons,List.length_append] at hn ⊢
  cases n with
  | zero=>omega
  | succ n=>
   have hs:=v_ h1 h3 (hu x (by simp)) ((r.map aN).flatten)
   rw [la,if_neg (by rw [List.length_append]; omega),hs]
   simp only [if_true]
   rw [List.take_left,yL h1 h3 (hu x (by simp)),List.drop_left,te,if_pos h2]
   rw [oc (fs:=r) (acc:=acc++[x]) (by rw [List.length_append]; simpa using h4) (fun f hf=>hu f (List.mem_cons_of_mem _ hf)) (by omega)]
   simp
theorem yi {fs:List Field} (h:bl fs=0) (hu:∀ f ∈ fs,jH f):aQ (dO fs)=(fs,0):=by
 have hl:=fD (k:=fs.length) h
 rw [List.take_length] at hl
 rw [dO,if_pos h,aQ,if_neg (by omega),oc (acc:=[]) (by simpa using rR h) hu (Nat.le_refl _)]
 rfl
end Go.Proofs.Ytladifkbefehdaa
namespace Go.Proofs.Ytladifkbefehdaa
open Go.RowKit
theorem ee {acc:Command} {i n:Int}:(eD i n).foldl bu acc=if n=0 then acc else bu acc ⟨i,0,⟨n.toNat⟩,[]⟩:=by
 unfold eD; split <;> rfl
theorem iU {i n:Int} (hn:0<=n) (hn2:n<=9223372036854775807):rQ ⟨i,0,⟨n.toNat⟩,[]⟩=n:=by
 unfold rQ
 show IntKind.i64.wrap ((n.toNat:Nat):Int)=n
 rw [Int.toNat_of_nonneg hn]
 exact I64.wrap ⟨by omega,by omega⟩
theorem GY {a:Command} {n:Int} (hn:0<=n) (hn2:n<=9223372036854775807) (h0:a.kind=0):(eD 1 n).foldl bu a=⟨n,a.client,a.seq,a.set,a.id,a.n,a.chunks,a.text⟩:=by
 rw [ee]; split
 ·cases a; simp_all
 ·rw [<- AL rfl,iU hn hn2]
theorem Hl {a:Command} {n:Int} (hn:0<=n) (hn2:n<=9223372036854775807) (h0:a.client=0):(eD 2 n).foldl bu a=⟨a.kind,n,a.seq,a.set,a.id,a.n,a.chunks,a.text⟩:=by
 rw [ee]; split
 ·cases a; simp_all
 ·rw [<- zH rfl,iU hn hn2]
theorem GP {a:Command} {n:Int} (hn:0<=n) (hn2:n<=9223372036854775807) (h0:a.seq=0):(eD 3 n).foldl bu a=⟨a.kind,a.client,n,a.set,a.id,a.n,a.chunks,a.text⟩:=by
 rw [ee]; split
 ·cases a; simp_all
 ·rw [<- yu rfl,iU hn hn2]
theorem GW {a:Command} {n:Int} (hn:0<=n) (hn2:n<=9223372036854775807) (h0:a.set=0):(eD 4 n).foldl bu a=⟨a.kind,a.client,a.seq,n,a.id,a.n,a.chunks,a.text⟩:=by
 rw [ee]; split
 ·cases a; simp_all
 ·rw [<- yK rfl,iU hn hn2]
theorem Hi {a:Command} {n:Int} (hn:0<=n) (hn2:n<=9223372036854775807) (h0:a.id=0):(eD 5 n).foldl bu a=⟨a.kind,a.client,a.seq,a.set,n,a.n,a.chunks,a.text⟩:=by
 rw [ee]; split
 ·cases a; simp_all
 ·rw [<- Ah rfl,iU hn hn2]
theorem Hd {a:Command} {n:Int} (hn:0<=n) (hn2:n<=9223372036854775807) (h0:a.n=0):(eD 6 n).foldl bu a=⟨a.kind,a.client,a.seq,a.set,a.id,n,a.chunks,a.text⟩:=by
 rw [ee]; split
 ·cases a; simp_all
 ·rw [<- yC rfl,iU hn hn2]
theorem Hg {a:Command} {l:List Int} (hr:l.length=0\/rowF l=true) (h0:a.chunks=[]):(hY 7 (bj l)).foldl bu a=⟨a.kind,a.client,a.seq,a.set,a.id,a.n,l,a.text⟩:=by
 by_cases hl:0<((l.length:Nat):Int)
 ·rw [hY,if_pos (ou hr hl)]
  rw [List.foldl_cons,List.foldl_nil,<- zQ rfl]
  rcases hr with hr | hr
  ·omega
  ·rw [(mz hr).2.2.1]
 ·obtain rfl:l=[]:=List.eq_nil_of_length_eq_zero (by omega)
  rw [hY,if_neg (mM hl)]
  cases a; simp_all
theorem Hc {a:Command} {b:List UInt8} (h0:a.text=⟨[]⟩):(hY 8 b).foldl bu a=⟨a.kind,a.client,a.seq,a.set,a.id,a.n,a.chunks,⟨b⟩⟩:=by
 by_cases hb:0<((b.length:Nat):Int)
 ·rw [hY,if_pos hb]
  rw [List.foldl_cons,List.foldl_nil,<- zg rfl]
 ·obtain rfl:b=[]:=List.eq_nil_of_length_eq_zero (by omega)
  rw [hY,if_neg hb]
  cases a; simp_all
structure PutOk (c:Command) (v:Int):Prop where
 vr:1<=v/\v<=3
 nn:0<=c.kind/\0<=c.client/\0<=c.seq/\0<=c.set/\0<=c.id/\0<=c.n
 kind:¬ c.kind=0
 row:c.chunks.length=0\/rowF c.chunks=true
 text:v<3->c.text=⟨[]⟩
def I6 (c:Command):Prop:=c.kind<=9223372036854775807/\c.client<=9223372036854775807/\c.seq<=9223372036854775807/\c.set<=9223372036854775807/\c.id<=9223372036854775807/\c.n<=9223372036854775807
theorem wb {c:Command} {v:Int} (h:PutOk c v) (hi:I6 c):(bP c).foldl bu bT=⟨c.kind,c.client,c.seq,c.set,c.id,c.n,c.chunks,⟨[]⟩⟩:=by
 obtain ⟨n1,n2,n3,n4,n5,n6⟩:=h.nn
 obtain ⟨i1,i2,i3,i4,i5,i6⟩:=hi
 unfold bP
 simp only [List.foldl_append,List.foldl_nil]
 rw [GY n1 i1 rfl,Hl n2 i2 rfl,GP n3 i3 rfl,GW n4 i4 rfl,Hi n5 i5 rfl,Hd n6 i6 rfl,Hg h.row rfl]; rfl
theorem xT {c:Command} {v:Int} (h:PutOk c v) (hi:I6 c):bk (av c v)=c:=by
 unfold bk av
 split
 ·rw [List.foldl_append,wb h hi,Hc rfl]
 ·rw [wb h hi,<- h.text (by omega)]
theorem zi {s:Str} (h:((s.b.length:Nat):Int)=0):s=⟨[]⟩:=by
 cases s with | mk b=>simp only at h; rw [List.eq_nil_of_length_eq_zero (show b.length=0 by omega)]
theorem ox {c:Command} {v:Int} (h:cw c v=0) (hv:v<3):c.text=⟨[]⟩:=by
 obtain ⟨_,hn,hl,hf⟩:=fx h
 unfold eC at hf
 simp only [Bool.and_eq_true,decide_eq_true_eq] at hf
 have h2:Fi c=true:=by obtain ⟨⟨⟨⟨⟨⟨⟨h1,h2⟩,h3⟩,h4⟩,h5⟩,h6⟩,h7⟩,h8⟩:=hf; assumption
 unfold Fi at h2
 split at h2
 ·rename_i hk
  have:bc c.kind=3:=by rw [hk]; decide
  omega
 ·exact of_decide_eq_true h2
theorem mn {c:Command} {rest:List Field} {v:Int} (h:bt c rest v=0):((1<=v/\v<=3)/\(bS c v=true\/cw c v=0)/\(∀ f ∈ rest,aT v<f.num))/\bl (av c v++rest)=0/\aF c rest v=dO (av c v++rest):=by
 unfold bt at h
 split at h
 ·rename_i hb
  refine ⟨?_,h,by rw [aF,if_pos hb]⟩
  unfold bG at hb
  split at hb
  ·cases hb
  ·rename_i h1
   split at hb
   ·rename_i h2; exact absurd hb h2.2
   ·rename_i h2
    split at hb
    ·cases hb
    ·rename_i h3
     refine ⟨GJ (by simpa using h1),?_,fun f hf=>?_⟩
     ·by_cases hm:cw c v=0
      ·exact .inr hm
      ·refine .inl ?_
       by_cases hf:bS c v=false
       ·exact absurd ⟨hf,hm⟩ h2
       ·simpa using hf
     ·rw [Bool.not_eq_true,List.any_eq_false] at h3
      have:=h3 f hf
      simpa using this
 ·rename_i hb; exact absurd h hb
theorem tK {c:Command} {v:Int} (h:bS c v=true):1<=c.kind:=by
 unfold bS eb at h
 simp only [Bool.and_eq_true,decide_eq_true_eq] at h
 omega
theorem wM {c:Command} {v:Int} (h:bS c v=true) (hv:v<3):c.text=⟨[]⟩:=by
 unfold bS at h
 simp only [Bool.and_eq_true,Bool.or_eq_true,decide_eq_true_eq] at h
 rcases h.2 with h | h
 ·exact zi h
 ·omega
theorem Dc {c:Command} {v:Int} (hv:1<=v/\v<=3) (h:bS c v=true\/cw c v=0):PutOk c v:=by
 rcases h with h | h
 ·exact ⟨hv,nU h,by have:=tK h; omega,Cl h,wM h⟩
 ·exact ⟨hv,nJ h,by have:=gm (fx h).2.1; omega,At h,ox h⟩
theorem vx {v:Int} (h:1<=v/\v<=3):aT v=if v=3 then 8 else 7:=by
 have:v=1\/v=2\/v=3:=by omega
 rcases this with rfl | rfl | rfl <;> decide
def FX (v:Int) (f:Field):Prop:=(1<=f.num/\f.num<=6/\f.wire=0/\¬ f.n.n=0)\/(f.num=7/\f.wire=2/\0<f.b.length)\/(f.num=8/\f.wire=2/\0<f.b.length/\3<=v)
theorem iA {i n:Int} {f:Field} (hi:1<=i/\i<=6) (hn:0<=n) (v:Int) (h:f ∈ eD i n):FX v f:=by
 unfold eD at h
 split at h
 ·simp at h
 ·simp only [List.mem_singleton] at h
  subst h
  exact .inl ⟨hi.1,hi.2,rfl,by show ¬ n.toNat=0; omega⟩
theorem qo {i:Int} {b:List UInt8} {f:Field} (h:f ∈ hY i b):f.num=i/\f.wire=2/\0<f.b.length:=by
 unfold hY at h
 split at h
 ·rename_i hb
  simp only [List.mem_singleton] at h
  subst h
  exact ⟨rfl,rfl,by show 0<b.length; omega⟩
 ·simp at h
theorem kW {c:Command} {v:Int} {f:Field} (h:PutOk c v) (hf:f ∈ av c v):FX v f:=by
 obtain ⟨n1,n2,n3,n4,n5,n6⟩:=h.nn
 have hN:f ∈ bP c->FX v f:=by
  intro hf
  unfold bP at hf
  simp only [List.mem_append,List.not_mem_nil,false_or] at hf
  rcases hf with ((((((hf | hf) | hf) | hf) | hf) | hf) | hf)
  ·exact iA (by omega) n1 v hf
  ·exact iA (by omega) n2 v hf
  ·exact iA (by omega) n3 v hf
  ·exact iA (by omega) n4 v hf
  ·exact iA (by omega) n5 v hf
  ·exact iA (by omega) n6 v hf
  ·have:=qo hf; exact .inr (.inl this)
 unfold av at hf
 split at hf
 ·rename_i hv
  rcases List.mem_append.1 hf with hf | hf
  ·exact hN hf
  ·have:=qo hf; exact .inr (.inr ⟨this.1,this.2.1,this.2.2,hv⟩)
 ·exact hN hf
theorem nX (a b:List Field) (q:Int):bJ (a++b) q=bJ a q+bJ b q:=List.countP_append
theorem jf (i n q:Int):bJ (eD i n) q<=1/\(¬ i=q->bJ (eD i n) q=0):=by
 unfold eD bJ
 by_cases h:i=q <;> split <;> simp [h]
theorem wc (i q:Int) (b:List UInt8):bJ (hY i b) q<=1/\(¬ i=q->bJ (hY i b) q=0):=by
 unfold hY bJ
 by_cases h:i=q <;> split <;> simp [h]
theorem rv (c:Command) (v q:Int):bJ (av c v) q<=1:=by
 have h1:=jf 1 c.kind q; have h2:=jf 2 c.client q; have h3:=jf 3 c.seq q; have h4:=jf 4 c.set q; have h5:=jf 5 c.id q; have h6:=jf 6 c.n q
 have h7:=wc 7 q (bj c.chunks); have h8:=wc 8 q c.text.b
 have h0:bJ [] q=0:=rfl
 unfold av bP
 split
 ·simp only [nX]; omega
 ·simp only [nX]; omega
theorem vk {l:List Field} {q:Int} (h:∀ f ∈ l,¬ f.num=q):bJ l q=0:=by
 unfold bJ
 rw [List.countP_eq_zero]
 intro f hf; simpa using h f hf
theorem Ad {l:List Field} {q:Int} (k:Nat):bJ (l.take k) q<=bJ l q:=(List.take_sublist k l).countP_le
theorem xv {v:Int} (h:1<=v/\v<=3):∀ s ∈ az v,s.num<=aT v/\((s.num<=6/\s.wire=0)\/(7<=s.num/\s.wire=2))/\(s.need=true->s.num=1):=by
 have:v=1\/v=2\/v=3:=by omega
 rcases this with rfl | rfl | rfl <;> decide
theorem As {v:Int} (h:1<=v/\v<=3):¬ (az v).length=0:=by
 have:v=1\/v=2\/v=3:=by omega
 rcases this with rfl | rfl | rfl <;> decide
theorem yt {c:Command} {rest:List Field} {v:Int} (h:PutOk c v) (hr:∀ f ∈ rest,aT v<f.num) (hm:bl (av c v++rest)=0):du (av c v++rest) v=0:=by
 refine (mN (As h.vr) hm ⟨fun j x hj hx s hs hn=>?_,fun j y hj hy hn=>?_⟩).symm
 ·obtain ⟨h1,h2,h3⟩:=xv h.vr s hs
  have hx2:=List.mem_of_getElem? hx
  rcases List.mem_append.1 hx2 with hx3 | hx3
  ·have hk:=kW h hx3
   have hc:bJ ((av c v++rest).take (j+1)) x.num<=1:=by
    have h4:=Ad (l:=av c v++rest) (q:=x.num) (j+1)
    have h5:=rv c v x.num
    have h6:bJ rest x.num=0:=vk fun f hf=>by have:=hr f hf; omega
    rw [nX] at h4; omega
   have hns:¬ (¬ x.wire=s.wire\/(1<((bJ ((av c v++rest).take (j+1)) x.num:Nat):Int)/\s.many=false)):=by
    rintro (h | ⟨h,_⟩)
    ·rcases hk with hk | hk | hk <;> omega
    ·omega
   rcases hk with hk | hk | hk
   ·rw [<- FY hns hk.2.2.1]; simp only [Bool.not_eq_true',decide_eq_false_iff_not]; omega
   ·rw [<- EK hns (by omega)]; simp only [decide_eq_true_eq]; omega
   ·rw [<- EK hns (by omega)]; simp only [decide_eq_true_eq]; omega
  ·have:=hr x hx3; omega
 ·obtain ⟨h1,h2,h3⟩:=xv h.vr y (List.mem_of_getElem? hy)
  rw [h3 hn]
  intro h0
  unfold bJ at h0
  rw [List.countP_eq_zero] at h0
  have hmem:(⟨1,0,⟨c.kind.toNat⟩,[]⟩:Field) ∈ av c v++rest:=by
   refine List.mem_append_left _ ?_
   have:(⟨1,0,⟨c.kind.toNat⟩,[]⟩:Field) ∈ bP c:=by
    unfold bP
    simp only [List.mem_append]
    refine .inl (.inl (.inl (.inl (.inl (.inl (.inr ?_))))))
    rw [eD,if_neg h.kind]; simp
   unfold av; split
   ·exact List.mem_append_left _ this
   ·exact this
  exact h0 _ hmem (by simp)
theorem pD {c:Command} {v:Int} (h:PutOk c v) {f:Field} (hf:f ∈ av c v):f.num<=aT v:=by
 have hk:=kW h hf
 rw [vx h.vr]
 have:=h.vr
 split <;> rcases hk with hk | hk | hk <;> omega
theorem xL {c:Command} {rest:List Field} {v:Int} (h:PutOk c v) (hr:∀ f ∈ rest,aT v<f.num):bO (av c v++rest) (aT v)=av c v/\bX (av c v++rest) (aT v)=rest:=by
 constructor
 ·unfold bO
  rw [List.filter_append,List.filter_eq_self.2 (fun f hf=>by simpa using pD h hf),List.filter_eq_nil_iff.2 (fun f hf=>by have:=hr f hf; simp; omega),List.append_nil]
 ·unfold bX
  rw [List.filter_append,List.filter_eq_nil_iff.2 (fun f hf=>by have:=pD h hf; simp; omega),List.filter_eq_self.2 (fun f hf=>by have:=hr f hf; simp; omega),List.nil_append]
theorem iV {i n:Int} (hn:n<=9223372036854775807):∀ f ∈ eD i n,jH f:=by
 intro f hf; unfold eD at hf
 split at hf
 ·simp at hf
 ·simp only [List.mem_singleton] at hf; subst hf; show n.toNat<_; omega
theorem qq {i:Int} {b:List UInt8}:∀ f ∈ hY i b,jH f:=by
 intro f hf; unfold hY at hf
 split at hf
 ·simp only [List.mem_singleton] at hf; subst hf; show 0<_; omega
 ·simp at hf
theorem qH {c:Command} {v:Int} (hi:I6 c):∀ f ∈ av c v,jH f:=by
 obtain ⟨i1,i2,i3,i4,i5,i6⟩:=hi
 have hN:∀ f ∈ bP c,jH f:=by
  intro f hf
  unfold bP at hf
  simp only [List.mem_append,List.not_mem_nil,false_or] at hf
  rcases hf with ((((((hf | hf) | hf) | hf) | hf) | hf) | hf)
  ·exact iV i1 f hf
  ·exact iV i2 f hf
  ·exact iV i3 f hf
  ·exact iV i4 f hf
  ·exact iV i5 f hf
  ·exact iV i6 f hf
  ·exact qq f hf
 intro f hf
 unfold av at hf
 split at hf
 ·rcases List.mem_append.1 hf with hf | hf
  ·exact hN f hf
  ·exact qq f hf
 ·exact hN f hf
theorem pU {c:Command} {rest:List Field} {v:Int} (h:bt c rest v=0) (hi:I6 c) (hu:∀ f ∈ rest,jH f):aI (aF c rest v) v=⟨c,rest,0⟩:=by
 obtain ⟨⟨hv,hfm,hr⟩,hm,hb⟩:=mn h
 have hok:=Dc hv hfm
 have htl:aQ (aF c rest v)=(av c v++rest,0):=by
  rw [hb]; exact yi hm fun f hf=>(List.mem_append.1 hf).elim (qH hi f) (hu f)
 have he:ff (aF c rest v) v=0:=by rw [ff,htl]; simp only [if_true]; exact yt hok hr hm
 obtain ⟨hk,hs⟩:=xL hok hr
 have hrd:=xT hok hi
 rw [EW hv he (by rw [htl]; simp only; rw [hk,hs,hrd]; exact ⟨h,rfl⟩),htl]
 simp only
 rw [hk,hs,hrd]
end Go.Proofs.Ytladifkbefehdaa
namespace Go.Proofs.Ytladifkbefehdaa
open Go.RowKit
theorem yO {x y:Field} (h:((x.num=y.num/\x.wire=y.wire)/\(x.n.n:Int)=(y.n.n:Int))/\x.b=y.b):x=y:=by
 obtain ⟨⟨⟨h1,h2⟩,h3⟩,h4⟩:=h
 cases x with | mk a b c d=>cases c; cases y with | mk e f g k=>cases g; simp_all; omega
theorem Aq {a b:List Field} {k:Nat} {x y:Field} (hx:a[k]? = some x) (hy:b[k]? = some y) (h:¬ x=y):false=decide (a=b):=by
 symm; apply decide_eq_false; rintro rfl; rw [hx] at hy; cases hy; exact h rfl
theorem ka {a b:List Field} (h:¬ ((a.length:Nat):Int)=((b.length:Nat):Int)):false=decide (a=b):=by
 symm; apply decide_eq_false; rintro rfl; exact h rfl
theorem tT {a b:List Field} {k:Nat} {x y:Field} (h:a.take k=b.take k) (hx:a[k]? = some x) (hy:b[k]? = some y) (e:x=y):a.take (k+1)=b.take (k+1):=by
 rw [aj hx,aj hy,h,e]
theorem kQ {a b:List Field} {k:Nat} (h:a.take k=b.take k) (ha:a.length<=k) (hb:b.length<=k):true=decide (a=b):=by
 rw [List.take_of_length_le ha,List.take_of_length_le hb] at h
 exact (decide_eq_true h).symm
end Go.Proofs.Ytladifkbefehdaa
namespace Go.Proofs.Ytladifkbefehdaa
open Go.RowKit
end Go.Proofs.Ytladifkbefehdaa
namespace Go.Proofs.Ytladifkbefehdaa
open Go.RowKit
theorem Fo {b:List UInt8} {k:Nat} {x:UInt8} (hx:b[k]? = some x):b.getD k (aC .u8)=x:=by rw [List.getD_eq_getElem?_getD,hx]; rfl
theorem GU {b:List UInt8} {k n:Nat} (h:ae b=aW k n (b.drop k)) (hk:(k:Int)<10) (hb:(k:Int)=(b.length:Int)):ae b=(0,0,2):=h.trans (Cz (by omega) (by omega))
theorem GQ {b:List UInt8} {k n:Nat} (h:ae b=aW k n (b.drop k)) (hk:10<=(k:Int)):ae b=(0,0,3):=h.trans (BH (by omega))
theorem GK {b:List UInt8} {k:Nat} (h1:k<=b.length) (h2:¬ (k:Int)=(b.length:Int)):∃ x,b[k]? = some x:=⟨_,List.getElem?_eq_getElem (by omega)⟩
theorem He {b:List UInt8} {k n:Nat} (h:ae b=aW k n (b.drop k)) (hk:(k:Int)<10) (hl:k<=b.length) (hb:¬ (k:Int)=(b.length:Int)) (h0:0<(k:Int)) (h1:((b.getD k (aC .u8)).toNat:Int)=((UInt8.ofNat 0).toNat:Int)):ae b=(0,0,3):=by
 obtain ⟨x,hx⟩:=GK hl hb
 rw [Fo hx,show (UInt8.ofNat 0).toNat=0 from rfl] at h1
 exact vf h (by omega) hx (.inl ⟨by omega,by omega⟩)
theorem Hb {b:List UInt8} {k n:Nat} (h:ae b=aW k n (b.drop k)) (_hk:(k:Int)<10) (hl:k<=b.length) (hb:¬ (k:Int)=(b.length:Int)) (h0:(k:Int)=9) (h1:((UInt8.ofNat 1).toNat:Int)<((b.getD k (aC .u8)).toNat:Int)):ae b=(0,0,3):=by
 obtain ⟨x,hx⟩:=GK hl hb
 rw [Fo hx,show (UInt8.ofNat 1).toNat=1 from rfl] at h1
 exact vf h (by omega) hx (.inr ⟨by omega,by omega⟩)
def Dk (n k:Nat) (x:UInt8):Nat:=n ||| (x &&& UInt8.ofNat 127).toNat*2 ^ (7*(k:Int)).toNat % 18446744073709551616
theorem GN {k n:Nat} {x:UInt8} (hn:n<2 ^ (7*k)) (hk:k<=9) (h9:k=9->x.toNat<=1):Dk n k x=n+(x &&& 127).toNat*2 ^ (7*k):=by
 unfold Dk
 rw [show (UInt8.ofNat 127)=127 from rfl,show (7*(k:Int)).toNat=7*k by omega,Nat.mod_eq_of_lt (Di hk h9)]
 exact Ch hn
theorem GD {b:List UInt8} {k:Nat} {x:UInt8} (hx:b[k]? = some x) (h1:(k:Int)<=0\/¬ ((b.getD k (aC .u8)).toNat:Int)=((UInt8.ofNat 0).toNat:Int)) (h2:¬ (k:Int)=9\/((b.getD k (aC .u8)).toNat:Int)<=((UInt8.ofNat 1).toNat:Int)):(¬ (0<k/\x.toNat=0))/\¬ (k=9/\1<x.toNat):=by
 rw [Fo hx,show (UInt8.ofNat 0).toNat=0 from rfl] at h1
 rw [Fo hx,show (UInt8.ofNat 1).toNat=1 from rfl] at h2
 omega
theorem FW {b:List UInt8} {k n:Nat} {x y:UInt8} (h:ae b=aW k n (b.drop k)) (hn:n<2 ^ (7*k)) (hk:(k:Int)<10) (hx:b[k]? = some x) (hy:b[k]? = some y) (h1:(k:Int)<=0\/¬ ((b.getD k (aC .u8)).toNat:Int)=((UInt8.ofNat 0).toNat:Int)) (h2:¬ (k:Int)=9\/((b.getD k (aC .u8)).toNat:Int)<=((UInt8.ofNat 1).toNat:Int)) (h3:(y.toNat:Int)<((UInt8.ofNat 128).toNat:Int)):ae b=(Dk n k x,k+1,0):=by
 have hz:=GD hx h1 h2
 rw [show (UInt8.ofNat 128).toNat=128 from rfl] at h3
 rw [hx] at hy; cases hy
 rw [GN hn (by omega) (by omega)]
 exact Ab h (by omega) hx hz.1 hz.2 (by omega)
theorem FT {b:List UInt8} {k n:Nat} {x y:UInt8} (h:ae b=aW k n (b.drop k)) (hn:n<2 ^ (7*k)) (hn2:n<18446744073709551616) (hk:(k:Int)<10) (hx:b[k]? = some x) (hy:b[k]? = some y) (h1:(k:Int)<=0\/¬ ((b.getD k (aC .u8)).toNat:Int)=((UInt8.ofNat 0).toNat:Int)) (h2:¬ (k:Int)=9\/((b.getD k (aC .u8)).toNat:Int)<=((UInt8.ofNat 1).toNat:Int)) (h3:((UInt8.ofNat 128).toNat:Int)<=(y.toNat:Int)):Dk n k x<2 ^ (7*(k+1))/\Dk n k x<18446744073709551616/\ae b=aW (k+1) (Dk n k x) (b.drop (k+1)):=by
 have hz:=GD hx h1 h2
 rw [show (UInt8.ofNat 128).toNat=128 from rfl] at h3
 rw [hx] at hy; cases hy
 have e:=GN hn (show k<=9 by omega) (show k=9->x.toNat<=1 by omega)
 refine ⟨by rw [e]; exact zr hn,?_,by rw [e]; exact Av h (by omega) hx hz.1 hz.2 (by omega)⟩
 unfold Dk
 exact Nat.or_lt_two_pow (n:=64) hn2 (Nat.mod_lt _ (by decide))
theorem xD {c:Command} {v:Int} {k:Nat} {x:Int} (hx:[c.client,c.seq,c.set,c.id,c.n][k]? = some x) (h:x<0\/1048576<x):false=bS c v:=by
 refine zI ?_
 match k,hx with
 | 0,hx=>cases hx; exact .inl h
 | 1,hx=>cases hx; exact .inr (.inl h)
 | 2,hx=>cases hx; exact .inr (.inr (.inl h))
 | 3,hx=>cases hx; exact .inr (.inr (.inr (.inl h)))
 | 4,hx=>cases hx; exact .inr (.inr (.inr (.inr h)))
theorem tz {c:Command} {k:Nat} (h:(k:Int)<5):[c.client,c.seq,c.set,c.id,c.n][k]? = some ([c.client,c.seq,c.set,c.id,c.n].getD k (aC .int)):=by
 rw [List.getD_eq_getElem?_getD,List.getElem?_eq_getElem (by simp only [List.length_cons,List.length_nil]; omega)]; rfl
theorem uk {n:Int} {p:Prop} (h:n<=0\/p):(¬ 0<n)\/p:=h.imp_left (by omega)
theorem Cn {l:List Int} {k:Nat} {x:Int} (h:((l.take k).all fun n=>eb n 0 1048576)=true) (hx:l[k]? = some x) (h0:0<=x) (h1:x<=1048576):((l.take (k+1)).all fun n=>eb n 0 1048576)=true:=by
 rw [aj hx,List.all_append,h]; simp [eb]; omega
theorem tq {c:Command} {k:Nat} (h:(([c.client,c.seq,c.set,c.id,c.n].take k).all fun n=>eb n 0 1048576)=true) (hk:5<=(k:Int)):¬ ((c.client<0\/1048576<c.client)\/(c.seq<0\/1048576<c.seq)\/(c.set<0\/1048576<c.set)\/(c.id<0\/1048576<c.id)\/(c.n<0\/1048576<c.n)):=by
 rw [List.take_of_length_le (by simp only [List.length_cons,List.length_nil]; omega)] at h
 simp only [List.all_cons,List.all_nil,eb,Bool.and_eq_true,decide_eq_true_eq] at h
 omega
def uV (b:List UInt8):List (Nat × LI):=[(3,{ σ:=Nat × Nat,F:=fun s=>([(0,one (.fz .u8 (b))),(5,one (.u64 s.2)),(6,one (.int 0)),(7,one (.int 3)),(9,one (.int s.1))],[]),J:=fun s=>s.1<=10/\s.2<2 ^ (7*s.1)/\s.2<18446744073709551616/\ae b=aW s.1 s.2 (b.drop s.1)/\s.1<=b.length,μ:=fun s=>10 - s.1 })]
def mL (c:Command) (v:Int):List (Nat × LI):=[(5,{ σ:=Nat,F:=fun k=>([(1,one (.int (v))),(2,one (.ptr 0 0)),(38,.one (.agg [.int c.client,.int c.seq,.int c.set,.int c.id,.int c.n])),(39,one (.int k))],[.box 27 (cellsOf (.nm .command) ((c)))]),J:=fun k=>k<=5/\([c.client,c.seq,c.set,c.id,c.n].take k).all (fun n=>eb n 0 1048576)=true,μ:=fun k=>5 - k })]
theorem zM (b:List UInt8) (r0:U64) (r1:Int) (r2:Int):dh aK dg (uV b) Try.f65 [.c (.fz .u8 (b))] [] [.c (.u64 (r0).n),.c (.int (r1)),.c (.int (r2))]=((fun (q11:UInt8)=>(fun (q10:Nat)=>(fun (q9:Nat)=>(fun (q8:Nat)=>(fun (q7:Int)=>(fun (q6:Int)=>(fun (q5:Int)=>(fun (q4:Int)=>(fun (q3:Int)=>(fun (q2:Prop)=>(fun (q1:Int)=>(fun (q0:Int)=>b.length*(1:Nat)<=(140737488355328:Nat)->∃ (s0:Nat × Nat),(fun (q15:Prop)=>(fun (q14:Prop)=>(fun (q13:Prop)=>(fun (q12:Prop)=>(b=b/\(0:Nat)=s0.snd/\q14/\q1=q1/\q0=(↑s0.fst:Int))/\(s0.fst<=q9/\s0.snd<q8 ^ ((7:Nat)*s0.fst)/\s0.snd<q10/\ae b=aW s0.fst s0.snd (List.drop s0.fst b)/\s0.fst<=b.length)/\∀ (s:Nat × Nat),(fun (q20:Nat)=>(fun (q19:Int)=>(fun (q18:Prop)=>(fun (q17:Int)=>(fun (q16:Prop)=>q20<=q9/\s.snd<q8 ^ ((7:Nat)*q20)/\s.snd<q10/\ae b=aW q20 s.snd (List.drop q20 b)/\q20<=b.length->(q17<(10:Int)->(q17=q3->(¬(2:Int)=q0->q2/\q0=r1/\(2:Int)=r2)/\((2:Int)=q0->s.snd=r0.n/\q12))/\(¬q17=q3->(q0<q17->q0<=q17/\q17<q3)/\(q0<q17/\q19=q4->(q0<q17/\q19=q4->q18)/\(q17<=q0\/¬q19=q4->q16))/\(q17<=q0\/¬q19=q4->(q17=(9:Int)->q0<=q17/\q17<q3)/\(q17=(9:Int)/\(↑(UInt8.ofNat (1:Nat)).toNat:Int)<q19->q18)/\(¬q17=(9:Int)\/q19<=(↑(UInt8.ofNat (1:Nat)).toNat:Int)->q16))))/\((10:Int)<=q17->q18)) (q0<=q17/\q17<q3/\∀ (x:UInt8),b[q20]? = some x->I64 (q6*q17)/\q0<=q6*q17/\q6*q17<(64:Int)/\q0<=q17/\q17<q3/\∀ (x_1:UInt8),b[q20]? = some x_1->((↑x_1.toNat:Int)<q5->I64 (q17+q7)/\(¬q14->q2/\q12)/\(q14->s.snd ||| (x &&& q11).toNat*q8 ^ (q6*q17).toNat % q10=r0.n/\q17+q7=r1/\q0=r2))/\(q5<=(↑x_1.toNat:Int)->I64 (q17+q7)/\∃ (s':Nat × Nat),(b=b/\s.snd ||| (x &&& q11).toNat*q8 ^ (q6*q17).toNat % q10=s'.snd/\q14/\q1=q1/\q17+q7=(↑s'.fst:Int))/\(s'.fst<=q9/\s'.snd<q8 ^ ((7:Nat)*s'.fst)/\s'.snd<q10/\ae b=aW s'.fst s'.snd (List.drop s'.fst b)/\s'.fst<=b.length)/\q9 - s'.fst<q9 - q20))) (↑q20:Int)) ((¬q15->q13)/\(q15->s.snd=r0.n/\q12))) (↑(UInt8.toNat (b.getD q20 (aC Sh.u8))):Int)) s.fst) (q0=r1/\q0=r2)) (q2/\q0=r1/\q1=r2)) (q0=q0)) (q1=q0)) (0:Int)) (3:Int)) ((0:Nat)=r0.n)) (↑b.length:Int)) (↑(UInt8.ofNat (0:Nat)).toNat:Int)) (↑(UInt8.ofNat (128:Nat)).toNat:Int)) (7:Int)) (1:Int)) (2:Nat)) (10:Nat)) (18446744073709551616:Nat)) (UInt8.ofNat (127:Nat))):=by kernel_rfl
theorem Ai (b:List UInt8):Sat Try.prog (ah aK) 65 [.c (.fz .u8 (b))] [] ⟨[],[.c (.u64 ((U64.mk (ae b).1)).n),.c (.int ((((ae b).2.1:Nat)))),.c (.int (((ae b).2.2)))],none,false⟩:=by
 refine aP bq (uV b) Try.func65 (by decide) (by kernel_rfl) ?_
 rw [zM]
 (repeat' (first | with_reducible refine And.intro ?_ ?_ | with_reducible refine and_imp.2 ?_ | intro))
 all_goals try (first | (first | with_reducible rfl | with_reducible assumption | omega | (refine ag ?_ ?_ <;> omega)) | decide)
 all_goals (refine ⟨(0,0),⟨rfl,rfl,?_,?_,?_⟩,⟨by omega,by decide,by decide,rfl,by omega⟩,?_⟩)
 all_goals try (first | trivial | rfl)
 (repeat' (first | with_reducible refine And.intro ?_ ?_ | with_reducible refine and_imp.2 ?_ | intro))
 all_goals try (first | (first | with_reducible rfl | with_reducible assumption | omega | (refine ag ?_ ?_ <;> omega)) | (rw [GU (by with_reducible assumption) (by with_reducible assumption) (by with_reducible assumption)] <;> rfl) | (rw [GQ (by with_reducible assumption) (by with_reducible assumption)] <;> rfl) | (rw [He (by with_reducible assumption) (by with_reducible assumption) (by with_reducible assumption) (by with_reducible assumption) (by with_reducible assumption) (by with_reducible assumption)] <;> rfl) | (rw [Hb (by with_reducible assumption) (by with_reducible assumption) (by with_reducible assumption) (by with_reducible assumption) (by with_reducible assumption) (by with_reducible assumption)] <;> rfl) | exact (congrArg Prod.fst (FW (by with_reducible assumption) (by with_reducible assumption) (by with_reducible assumption) (by with_reducible assumption) (by with_reducible assumption) (by with_reducible assumption) (by with_reducible assumption) (by with_reducible assumption))).symm | exact (congrArg (fun t=>((t.2.1:Nat):Int)) (FW (by with_reducible assumption) (by with_reducible assumption) (by with_reducible assumption) (by with_reducible assumption) (by with_reducible assumption) (by with_reducible assumption) (by with_reducible assumption) (by with_reducible assumption))).symm | exact (congrArg (fun t=>t.2.2) (FW (by with_reducible assumption) (by with_reducible assumption) (by with_reducible assumption) (by with_reducible assumption) (by with_reducible assumption) (by with_reducible assumption) (by with_reducible assumption) (by with_reducible assumption))).symm)
 all_goals (refine ⟨(‹Nat × Nat›.1+1,_),⟨rfl,rfl,?_⟩,?_⟩; (repeat' (first | with_reducible refine And.intro ?_ ?_ | with_reducible refine and_imp.2 ?_ | intro)))
 all_goals (first | (first | with_reducible rfl | with_reducible assumption | omega | (refine ag ?_ ?_ <;> omega)) | exact (FT (by with_reducible assumption) (by with_reducible assumption) (by with_reducible assumption) (by with_reducible assumption) (by with_reducible assumption) (by with_reducible assumption) (by with_reducible assumption) (by with_reducible assumption) (by with_reducible assumption)).1 | exact (FT (by with_reducible assumption) (by with_reducible assumption) (by with_reducible assumption) (by with_reducible assumption) (by with_reducible assumption) (by with_reducible assumption) (by with_reducible assumption) (by with_reducible assumption) (by with_reducible assumption)).2.1 | exact (FT (by with_reducible assumption) (by with_reducible assumption) (by with_reducible assumption) (by with_reducible assumption) (by with_reducible assumption) (by with_reducible assumption) (by with_reducible assumption) (by with_reducible assumption) (by with_reducible assumption)).2.2)
theorem uZ (x:Field) (y:Field) (r0:Bool):dh aK dg [] Try.f38 [.agg (cellsOf (.nm .field) x),.agg (cellsOf (.nm .field) y)] [] [.c (.bool (.atom (r0)))]=(I64 x.num->I64 x.wire->x.n.n<(18446744073709551616:Nat)->x.b.length*(1:Nat)<=(140737488355328:Nat)->I64 y.num->I64 y.wire->y.n.n<(18446744073709551616:Nat)->y.b.length*(1:Nat)<=(140737488355328:Nat)->(y.num=x.num->(decide (y.wire=(2:Int)) && decide (x.wire=(2:Int)))=r0)/\(¬y.num=x.num->decide (x.num<y.num)=r0)):=by kernel_rfl
theorem xf (x:Field) (y:Field):Sat Try.prog (ah aK) 38 [.agg (cellsOf (.nm .field) x),.agg (cellsOf (.nm .field) y)] [] ⟨[],[.c (.bool (.atom ((db x y))))],none,false⟩:=by
 refine aP bq [] Try.func38 (by decide) (by kernel_rfl) ?_
 rw [uZ]
 grind [db]
theorem we (x:Field) (r0:Bool):dh aK dg [] Try.f67 [.agg (cellsOf (.nm .field) x)] [] [.c (.bool (.atom (r0)))]=(I64 x.num->I64 x.wire->x.n.n<(18446744073709551616:Nat)->x.b.length*(1:Nat)<=(140737488355328:Nat)->(x.num<(1:Int)\/(1000:Int)<x.num->false=r0)/\((1:Int)<=x.num/\x.num<=(1000:Int)->(x.wire=(0:Int)->decide ((↑x.b.length:Int)=(0:Int))=r0)/\(¬x.wire=(0:Int)->(x.wire=(2:Int)->decide ((↑x.n.n:Int)=(↑(0:Nat):Int))=r0)/\(¬x.wire=(2:Int)->false=r0)))):=by kernel_rfl
theorem xc (x:Field):Sat Try.prog (ah aK) 67 [.agg (cellsOf (.nm .field) x)] [] ⟨[],[.c (.bool (.atom ((bp x))))],none,false⟩:=by
 refine aP bq [] Try.func67 (by decide) (by kernel_rfl) ?_
 rw [we]
 grind [bp,wu,wS]
theorem uN (x:List UInt8) (y:List UInt8) (r0:Bool):dh aK dg [] Try.f23 [.c (.fz .u8 (x)),.c (.fz .u8 (y))] [] [.c (.bool (.atom (r0)))]=(x.length*(1:Nat)<=(140737488355328:Nat)->y.length*(1:Nat)<=(140737488355328:Nat)->decide (Str.mk x=Str.mk y)=r0):=by kernel_rfl
theorem vZ (x:List UInt8) (y:List UInt8):Sat Try.prog (ah aK) 23 [.c (.fz .u8 (x)),.c (.fz .u8 (y))] [] ⟨[],[.c (.bool (.atom ((decide (x=y)))))],none,false⟩:=by
 refine aP bq [] Try.func23 (by decide) (by kernel_rfl) ?_
 rw [uN]
 grind
theorem wH (x:List UInt8) (r0:List UInt8):dh aK dg [] Try.f44 [.c (.fz .u8 (x))] [] [.c (.fz .u8 (r0))]=((fun (q0:Prop)=>q0->∀ (b:Bool),(b=true->x=[])->(b=true->r0=[])/\(b=false->q0/\x=r0)) (x.length*(1:Nat)<=(140737488355328:Nat))):=by kernel_rfl
theorem xi (x:List UInt8):Sat Try.prog (ah aK) 44 [.c (.fz .u8 (x))] [] ⟨[],[.c (.fz .u8 ((x)))],none,false⟩:=by
 refine aP bq [] Try.func44 (by decide) (by kernel_rfl) ?_
 rw [wH]
 grind
theorem ET (k:Int) (l:Int) (r0:Spec):dh aK dg [] Try.f81 [.c (.int (k)),.c (.int (l))] [] [.agg (cellsOf (.nm .spec) r0)]=(I64 k->I64 l->k=r0.num/\(0:Int)=r0.wire/\l=r0.since/\false=r0.need/\false=r0.many):=by kernel_rfl
theorem EZ (k:Int) (l:Int):Sat Try.prog (ah aK) 81 [.c (.int (k)),.c (.int (l))] [] ⟨[],[.agg (cellsOf (.nm .spec) (⟨k,0,l,false,false⟩))],none,false⟩:=by
 refine aP bq [] Try.func81 (by decide) (by kernel_rfl) ?_
 rw [ET]
 grind
theorem Es (k:Int) (l:Int) (r0:Spec):dh aK dg [] Try.f82 [.c (.int (k)),.c (.int (l))] [] [.agg (cellsOf (.nm .spec) r0)]=(I64 k->I64 l->k=r0.num/\(2:Int)=r0.wire/\l=r0.since/\false=r0.need/\false=r0.many):=by kernel_rfl
theorem Eg (k:Int) (l:Int):Sat Try.prog (ah aK) 82 [.c (.int (k)),.c (.int (l))] [] ⟨[],[.agg (cellsOf (.nm .spec) (⟨k,2,l,false,false⟩))],none,false⟩:=by
 refine aP bq [] Try.func82 (by decide) (by kernel_rfl) ?_
 rw [Es]
 grind
theorem ES (x:Spec) (r0:Spec):dh aK dg [] Try.f83 [.agg (cellsOf (.nm .spec) x)] [] [.agg (cellsOf (.nm .spec) r0)]=(I64 x.num->I64 x.wire->I64 x.since->x.num=r0.num/\x.wire=r0.wire/\x.since=r0.since/\true=r0.need/\x.many=r0.many):=by kernel_rfl
theorem EL (x:Spec):Sat Try.prog (ah aK) 83 [.agg (cellsOf (.nm .spec) x)] [] ⟨[],[.agg (cellsOf (.nm .spec) ({ x with need:=true }))],none,false⟩:=by
 refine aP bq [] Try.func83 (by decide) (by kernel_rfl) ?_
 rw [ES]
 grind
theorem Fa (x:Spec) (r0:Spec):dh aK dg [] Try.f84 [.agg (cellsOf (.nm .spec) x)] [] [.agg (cellsOf (.nm .spec) r0)]=(I64 x.num->I64 x.wire->I64 x.since->x.num=r0.num/\x.wire=r0.wire/\x.since=r0.since/\x.need=r0.need/\true=r0.many):=by kernel_rfl
theorem Ez (x:Spec):Sat Try.prog (ah aK) 84 [.agg (cellsOf (.nm .spec) x)] [] ⟨[],[.agg (cellsOf (.nm .spec) ({ x with many:=true }))],none,false⟩:=by
 refine aP bq [] Try.func84 (by decide) (by kernel_rfl) ?_
 rw [Fa]
 grind
theorem CS (x:Field) (s:Spec) (n:Int) (r0:Bool):dh aK dg [] Try.f43 [.agg (cellsOf (.nm .field) x),.agg (cellsOf (.nm .spec) s),.c (.int (n))] [] [.c (.bool (.atom (r0)))]=(I64 x.num->I64 x.wire->x.n.n<(18446744073709551616:Nat)->x.b.length*(1:Nat)<=(140737488355328:Nat)->I64 s.num->I64 s.wire->I64 s.since->I64 n->(¬x.wire=s.wire\/(1:Int)<n/\s.many=false->false=r0)/\(x.wire=s.wire/\(n<=(1:Int)\/s.many=true)->(x.wire=(0:Int)->(!decide ((↑x.n.n:Int)=(↑(0:Nat):Int)))=r0)/\(¬x.wire=(0:Int)->decide ((0:Int)<(↑x.b.length:Int))=r0))):=by kernel_rfl
theorem CU (x:Field) (s:Spec) (n:Int):Sat Try.prog (ah aK) 43 [.agg (cellsOf (.nm .field) x),.agg (cellsOf (.nm .spec) s),.c (.int (n))] [] ⟨[],[.c (.bool (.atom ((tn x s n))))],none,false⟩:=by
 refine aP bq [] Try.func43 (by decide) (by kernel_rfl) ?_
 rw [CS]
 grind [tn]
theorem Db (num:Int) (wire:Int) (r0:Int) (r1:List UInt8):B_ aK dg [] Try.f79 [.c (.int (num)),.c (.int (wire))] [] [.c (.own 0),.c (.int (r0))] [.row 5 .u8 (r1)]=((fun (q0:Int)=>I64 num->I64 wire->((num<(1:Int)\/(1000:Int)<num)\/¬wire=(0:Int)/\¬wire=(2:Int)->(1:Int)=r0/\r1=[])/\(((1:Int)<=num/\num<=(1000:Int))/\(wire=(0:Int)\/wire=(2:Int))->I64 ((8:Int)*num)/\I64 q0/\(0:Int)<=q0/\(0:Int)=r0/\br q0.toNat=r1)) ((8:Int)*num+wire)):=by kernel_rfl
theorem Dw (num:Int) (wire:Int):Sat Try.prog (ah aK) 79 [.c (.int (num)),.c (.int (wire))] [] ⟨[],[.c (.own 0),.c (.int ((rq num wire)))],some ([.row 5 .u8 ((cN num wire))]),true⟩:=by
 refine mj bq [] Try.func79 (by decide) (by kernel_rfl) ?_
 rw [Db]
 (repeat' (first | with_reducible refine And.intro ?_ ?_ | with_reducible refine and_imp.2 ?_ | intro))
 all_goals (first | (first | with_reducible rfl | with_reducible assumption | omega | (refine ag ?_ ?_ <;> omega)) | exact (ym (by omega)) | exact (wx (by omega)) | exact (r_ (by omega)).symm | exact (r_ (by omega)) | exact (oU (by omega)))
theorem qB (c:Command) (v:Int) (r0:Bool):dh aK dg (mL c v) Try.f32 [.agg (cellsOf (.nm .command) c),.c (.int (v))] [] [.c (.bool (.atom (r0)))]=((fun (q7:List Int)=>(fun (q6:Nat)=>(fun (q5:Int)=>(fun (q4:Int)=>(fun (q3:Int)=>(fun (q2:List Int)=>(fun (q1:Prop)=>(fun (q0:List (den Sh.int))=>I64 q5->I64 q4->I64 c.seq->I64 c.set->I64 c.id->I64 c.n->q7.length*(8:Nat)<=(140737488355328:Nat)->c.text.b.length<=(140737488355328:Nat)->I64 v->I64 (bc q5)->((q5<(1:Int)\/(99:Int)<q5)\/¬bc q5=q3/\bc q5<=v->false=r0)/\(((1:Int)<=q5/\q5<=(99:Int))/\(bc q5=q3\/v<bc q5)->∃ (s0:Nat),(v=v/\q4=q4/\c.seq=c.seq/\c.set=c.set/\c.id=c.id/\c.n=c.n/\q3=(↑s0:Int)/\q1)/\(s0<=q6/\((List.take s0 q2).all fun (n:Int)=>eb n q3 (1048576:Int))=true)/\∀ (s:Nat),(fun (q8:den Sh.int)=>s<=q6/\((List.take s q2).all fun (n:Int)=>eb n q3 (1048576:Int))=true->((↑s:Int)<(5:Int)->q3<=(↑s:Int)/\(↑s:Int)<(↑q6:Int)/\(I64 q8->(q8<q3\/(1048576:Int)<q8->false=r0)/\(q3<=q8/\q8<=(1048576:Int)->I64 ((↑s:Int)+(1:Int))/\∃ (s':Nat),(v=v/\q4=q4/\c.seq=c.seq/\c.set=c.set/\c.id=c.id/\c.n=c.n/\(↑s:Int)+(1:Int)=(↑s':Int)/\q1)/\(s' <= q6/\((List.take s' q2).all fun (n:Int)=>eb n q3 (1048576:Int))=true)/\q6 - s' < q6 - s)))/\((5:Int)<=(↑s:Int)->(q3<(↑q7.length:Int)/\rowF q7=false->false=r0)/\((↑q7.length:Int)<=q3\/rowF q7=true->(v<(3:Int)->decide (c.text=Str.mk [])=r0)/\((3:Int)<=v->decide ((↑c.text.b.length:Int)<=(16:Int))=r0)))) (q0.getD s (aC Sh.int)))) [q4,c.seq,c.set,c.id,c.n]) (q5=q5/\q4=q4/\c.seq=c.seq/\c.set=c.set/\c.id=c.id/\c.n=c.n/\q7=q7/\c.text=c.text)) [q4,c.seq,c.set,c.id,c.n]) (0:Int)) c.client) c.kind) (5:Nat)) c.chunks):=by kernel_rfl
theorem qR (c:Command) (v:Int):Sat Try.prog (ah aK) 32 [.agg (cellsOf (.nm .command) c),.c (.int (v))] [] ⟨[],[.c (.bool (.atom ((bS c v))))],none,false⟩:=by
 refine aP bq (mL c v) Try.func32 (by decide) (by kernel_rfl) ?_
 rw [qB]
 (repeat' (first | with_reducible refine And.intro ?_ ?_ | with_reducible refine and_imp.2 ?_ | intro))
 all_goals try (first | (first | with_reducible rfl | with_reducible assumption | omega | (refine ag ?_ ?_ <;> omega)) | exact rfl | exact (kS (by omega)) | exact (xD (tz (by omega)) (by with_reducible assumption)) | exact (Cn (by with_reducible assumption) (tz (by omega)) (by with_reducible assumption) (by with_reducible assumption)) | exact (nz (And.intro (by with_reducible assumption) (by with_reducible assumption))) | exact (ql (by omega) (tq (by with_reducible assumption) (by omega)) (uk (by assumption)) (by omega)) | exact (qL (by omega) (tq (by with_reducible assumption) (by omega)) (uk (by assumption)) (by omega)))
 all_goals try (refine ⟨0,?_⟩; (repeat' (first | with_reducible refine And.intro ?_ ?_ | with_reducible refine and_imp.2 ?_ | intro)))
 all_goals try (first | (first | with_reducible rfl | with_reducible assumption | omega | (refine ag ?_ ?_ <;> omega)) | exact rfl | exact (kS (by omega)) | exact (xD (tz (by omega)) (by with_reducible assumption)) | exact (Cn (by with_reducible assumption) (tz (by omega)) (by with_reducible assumption) (by with_reducible assumption)) | exact (nz (And.intro (by with_reducible assumption) (by with_reducible assumption))) | exact (ql (by omega) (tq (by with_reducible assumption) (by omega)) (uk (by assumption)) (by omega)) | exact (qL (by omega) (tq (by with_reducible assumption) (by omega)) (uk (by assumption)) (by omega)))
 all_goals try (refine ⟨‹Nat› + 1,?_⟩; (repeat' (first | with_reducible refine And.intro ?_ ?_ | with_reducible refine and_imp.2 ?_ | intro)))
 all_goals (first | (first | with_reducible rfl | with_reducible assumption | omega | (refine ag ?_ ?_ <;> omega)) | exact rfl | exact (kS (by omega)) | exact (xD (tz (by omega)) (by with_reducible assumption)) | exact (Cn (by with_reducible assumption) (tz (by omega)) (by with_reducible assumption) (by with_reducible assumption)) | exact (nz (And.intro (by with_reducible assumption) (by with_reducible assumption))) | exact (ql (by omega) (tq (by with_reducible assumption) (by omega)) (uk (by assumption)) (by omega)) | exact (qL (by omega) (tq (by with_reducible assumption) (by omega)) (uk (by assumption)) (by omega)))
theorem qm (c:Command) (v:Int) (r0:Command):dh aK dg [] Try.f15 [.agg (cellsOf (.nm .command) c),.c (.int (v))] [] [.agg (cellsOf (.nm .command) r0)]=((fun (q0:Prop)=>I64 c.kind->I64 c.client->I64 c.seq->I64 c.set->I64 c.id->I64 c.n->q0->c.text.b.length<=(140737488355328:Nat)->I64 v->q0->(v<(3:Int)->c.kind=r0.kind/\c.client=r0.client/\c.seq=r0.seq/\c.set=r0.set/\c.id=r0.id/\c.n=r0.n/\c.chunks=r0.chunks/\Str.mk []=r0.text)/\((3:Int)<=v->c.kind=r0.kind/\c.client=r0.client/\c.seq=r0.seq/\c.set=r0.set/\c.id=r0.id/\c.n=r0.n/\c.chunks=r0.chunks/\c.text=r0.text)) (c.chunks.length*(8:Nat)<=(140737488355328:Nat))):=by kernel_rfl
theorem qA (c:Command) (v:Int):Sat Try.prog (ah aK) 15 [.agg (cellsOf (.nm .command) c),.c (.int (v))] [] ⟨[],[.agg (cellsOf (.nm .command) (bQ c v))],none,false⟩:=by
 refine aP bq [] Try.func15 (by decide) (by kernel_rfl) ?_
 rw [qm]
 (repeat' (first | with_reducible refine And.intro ?_ ?_ | with_reducible refine and_imp.2 ?_ | intro))
 all_goals (first | (first | with_reducible rfl | with_reducible assumption | omega | (refine ag ?_ ?_ <;> omega)) | exact rfl | (simp only [bQ]; split <;> first | rfl | omega))
theorem Af (a:Command) (b:Command) (r0:Bool):dh aK dg [] Try.f10 [.agg (cellsOf (.nm .command) a),.agg (cellsOf (.nm .command) b)] [] [.c (.bool (.atom (r0)))]=(I64 a.kind->I64 a.client->I64 a.seq->I64 a.set->I64 a.id->I64 a.n->a.chunks.length*(8:Nat)<=(140737488355328:Nat)->a.text.b.length<=(140737488355328:Nat)->I64 b.kind->I64 b.client->I64 b.seq->I64 b.set->I64 b.id->I64 b.n->b.chunks.length*(8:Nat)<=(140737488355328:Nat)->b.text.b.length<=(140737488355328:Nat)->(decide (a.chunks=b.chunks) && decide (a.kind=b.kind) && decide (a.client=b.client) && decide (a.seq=b.seq) && decide (a.set=b.set) && decide (a.id=b.id) && decide (a.n=b.n) && decide (a.text=b.text))=r0):=by kernel_rfl
theorem yQ (a:Command) (b:Command):Sat Try.prog (ah aK) 10 [.agg (cellsOf (.nm .command) a),.agg (cellsOf (.nm .command) b)] [] ⟨[],[.c (.bool (.atom ((decide (a=b)))))],none,false⟩:=by
 refine aP bq [] Try.func10 (by decide) (by kernel_rfl) ?_
 rw [Af]
 intros; cases a; cases b; simp only [Command.mk.injEq]; grind
def uh:cA:=(cH 10 (ck (ai (kT (.nm .command)) (ai (kT (.nm .command)) ba)) bb fun (a,b,_) (_)=>⟨[],[.c (.bool (.atom ((decide (a=b)))))],none,false⟩) (cH 15 (ck (ai (kT (.nm .command)) (ai (kC cI) ba)) bb fun (c,v,_) (_)=>⟨[],[.agg (cellsOf (.nm .command) (bQ c v))],none,false⟩) (cH 32 (ck (ai (kT (.nm .command)) (ai (kC cI) ba)) bb fun (c,v,_) (_)=>⟨[],[.c (.bool (.atom ((bS c v))))],none,false⟩) (cH 79 (ck (ai (kC cI) (ai (kC cI) ba)) bb fun (num,wire,_) (_)=>⟨[],[.c (.own 0),.c (.int ((rq num wire)))],some ([.row 5 .u8 ((cN num wire))]),true⟩) (cH 43 (ck (ai (kT (.nm .field)) (ai (kT (.nm .spec)) (ai (kC cI) ba))) bb fun (x,s,n,_) (_)=>⟨[],[.c (.bool (.atom ((tn x s n))))],none,false⟩) (cH 84 (ck (ai (kT (.nm .spec)) ba) bb fun (x,_) (_)=>⟨[],[.agg (cellsOf (.nm .spec) ({ x with many:=true }))],none,false⟩) (cH 83 (ck (ai (kT (.nm .spec)) ba) bb fun (x,_) (_)=>⟨[],[.agg (cellsOf (.nm .spec) ({ x with need:=true }))],none,false⟩) (cH 82 (ck (ai (kC cI) (ai (kC cI) ba)) bb fun (k,l,_) (_)=>⟨[],[.agg (cellsOf (.nm .spec) (⟨k,2,l,false,false⟩))],none,false⟩) (cH 81 (ck (ai (kC cI) (ai (kC cI) ba)) bb fun (k,l,_) (_)=>⟨[],[.agg (cellsOf (.nm .spec) (⟨k,0,l,false,false⟩))],none,false⟩) (cH 44 (ck (ai (kC (cL .u8)) ba) bb fun (x,_) (_)=>⟨[],[.c (.fz .u8 ((x)))],none,false⟩) (cH 23 (ck (ai (kC (cL .u8)) (ai (kC (cL .u8)) ba)) bb fun (x,y,_) (_)=>⟨[],[.c (.bool (.atom ((decide (x=y)))))],none,false⟩) (cH 67 (ck (ai (kT (.nm .field)) ba) bb fun (x,_) (_)=>⟨[],[.c (.bool (.atom ((bp x))))],none,false⟩) (cH 38 (ck (ai (kT (.nm .field)) (ai (kT (.nm .field)) ba)) bb fun (x,y,_) (_)=>⟨[],[.c (.bool (.atom ((db x y))))],none,false⟩) (cH 65 (ck (ai (kC (cL .u8)) ba) bb fun (b,_) (_)=>⟨[],[.c (.u64 ((U64.mk (ae b).1)).n),.c (.int ((((ae b).2.1:Nat)))),.c (.int (((ae b).2.2)))],none,false⟩) dg))))))))))))))
theorem hP:aS Try.prog (ah aK) uh:=(aq (au (ab cE (ab cE al)) ak fun (a,b,_) (_) _=>yQ a b ) (aq (au (ab cE (ab (aw bh) al)) ak fun (c,v,_) (_) _=>qA c v ) (aq (au (ab cE (ab (aw bh) al)) ak fun (c,v,_) (_) _=>qR c v ) (aq (au (ab (aw bh) (ab (aw bh) al)) ak fun (num,wire,_) (_) _=>Dw num wire ) (aq (au (ab cE (ab cE (ab (aw bh) al))) ak fun (x,s,n,_) (_) _=>CU x s n ) (aq (au (ab cE al) ak fun (x,_) (_) _=>Ez x ) (aq (au (ab cE al) ak fun (x,_) (_) _=>EL x ) (aq (au (ab (aw bh) (ab (aw bh) al)) ak fun (k,l,_) (_) _=>Eg k l ) (aq (au (ab (aw bh) (ab (aw bh) al)) ak fun (k,l,_) (_) _=>EZ k l ) (aq (au (ab (aw bA) al) ak fun (x,_) (_) _=>xi x ) (aq (au (ab (aw bA) (ab (aw bA) al)) ak fun (x,y,_) (_) _=>vZ x y ) (aq (au (ab cE al) ak fun (x,_) (_) _=>xc x ) (aq (au (ab cE (ab cE al)) ak fun (x,y,_) (_) _=>xf x y ) (aq (au (ab (aw bA) al) ak fun (b,_) (_) _=>Ai b ) bq))))))))))))))
end Go.Proofs.Ytladifkbefehdaa
namespace Go.Proofs.Ytladifkbefehdaa
open Go.RowKit
theorem g_ {m:Nat} (h:m<9223372036854775808):eB m=(m:Int):=by rw [eB,if_pos h]
theorem rE {b:List UInt8} {k:Nat}:(b.drop k).take (b.length - k)=b.drop k:=List.take_of_length_le (by rw [List.length_drop]; exact Nat.le_refl _)
theorem Hk {b:List UInt8} {k:Nat} (hk:(k:Int)<(b.length:Int)) (he:(ae (b.drop k)).2.2=0) (hn:(((ae (b.drop k)).1:Nat):Int)<=((64:Nat):Int)):∃ x,b[k]? = some x/\ae (b.drop k)=(x.toNat,1,0)/\x.toNat<=64:=by
 have h:=G_ (b:=b) (k:=k) (by omega) (by rw [rE]; exact he) (by rw [rE]; omega)
 rw [rE] at h; exact h
theorem yp {b:List UInt8} {k:Nat} (hk:(k:Int)<(b.length:Int)) (he:(ae (b.drop k)).2.2=0) (hn:(((ae (b.drop k)).1:Nat):Int)<=((64:Nat):Int)):(k:Int)+((ae (b.drop k)).2.1:Nat)=((k+1:Nat):Int)/\bd (b.take k)++[eB (ae (b.drop k)).1]=bd (b.take (k+1)):=by
 obtain ⟨x,hx,hp,h64⟩:=Hk hk he hn
 have h:=z_ hx hp
 rw [hp] at h ⊢
 exact ⟨rfl,by rw [<- h,g_ (by show x.toNat<_; omega)]⟩
theorem yI {b:List UInt8} {k:Nat} (hk:(k:Int)<(b.length:Int)) (h:(¬ (ae (b.drop k)).2.2=0)\/((64:Nat):Int)<(((ae (b.drop k)).1:Nat):Int)):rowF (bd b)=false:=BR (k:=k) (by omega) (by rw [rE]; exact h)
theorem qt {b:List UInt8} {k:Nat} (h:k<=b.length) (hb:b.length<=100000):((bd (b.take k)).length+1)*8<=140737488355328:=by
 unfold bd; rw [List.length_map,List.length_take]; omega
def BA (b:List UInt8):List (Nat × LI):=[(3,{ σ:=Nat,F:=fun k=>([(0,one (.fz .u8 (b))),(4,one (.own 0)),(5,one (.int k))],[.row 3 .int ((bd (b.take k)))]),J:=fun k=>k<=b.length,μ:=fun k=>b.length - k })]
theorem DD (b:List UInt8) (r0:Int) (r1:Int) (r2:Int) (r3:Int):dh aK uh [] Try.f63 [.c (.fz .u8 (b))] [] [.c (.int (r0)),.c (.int (r1)),.c (.int (r2)),.c (.int (r3))]=((fun (q5:Int)=>(fun (q4:Int)=>(fun (q3:Int)=>(fun (q2:Prop)=>(fun (q1:Nat)=>(fun (q0:Int)=>b.length*(1:Nat)<=(140737488355328:Nat)->(ae b).fst<(18446744073709551616:Nat)->I64 (↑(ae b).snd.fst:Int)->I64 q4->(¬q4=q3->q3=r0/\q3=r1/\q3=r2/\q4=r3)/\(q4=q3->q2/\(q5<=q0->q2)/\(q5<=q0/\q0<=(↑(1000:Nat):Int)->q2/\(¬(↑q1:Int)=(↑(0:Nat):Int)->q2))/\((q0<q5\/(↑(1000:Nat):Int)<q0)\/¬(↑q1:Int)=(↑(0:Nat):Int)/\¬(↑q1:Int)=(↑(2:Nat):Int)->q3=r0/\q3=r1/\q3=r2/\(6:Int)=r3)/\((q5<=q0/\q0<=(↑(1000:Nat):Int))/\((↑q1:Int)=(↑(0:Nat):Int)\/(↑q1:Int)=(↑(2:Nat):Int))->q2/\q2/\eB ((ae b).fst / (8:Nat))=r0/\eB q1=r1/\(↑(ae b).snd.fst:Int)=r2/\q3=r3))) (↑((ae b).fst / (8:Nat)):Int)) ((ae b).fst % (8:Nat))) ((0:Nat)<(8:Nat))) (0:Int)) (ae b).snd.snd) (↑(1:Nat):Int)):=by kernel_rfl
theorem Cb (b:List UInt8):Sat Try.prog (ah aK) 63 [.c (.fz .u8 (b))] [] ⟨[],[.c (.int (((ay b).num))),.c (.int (((ay b).wire))),.c (.int ((((ay b).k:Nat)))),.c (.int (((ay b).e)))],none,false⟩:=by
 refine aP hP [] Try.func63 (by decide) (by kernel_rfl) ?_
 rw [DD]
 (repeat' (first | with_reducible refine And.intro ?_ ?_ | with_reducible refine and_imp.2 ?_ | intro))
 all_goals (first | (first | with_reducible rfl | with_reducible assumption | omega | (refine ag ?_ ?_ <;> omega)) | (rw [vQ (by with_reducible assumption)] <;> rfl) | (rw [wk (by with_reducible assumption) (by omega)] <;> rfl) | (rw [rb (by with_reducible assumption) (by omega)] <;> first | rfl | exact g_ (by omega)) | (have:=(jY (l:=b) (k:=0) (n:=0) (by omega)).1; change (ae b).2.1<=11 at this; omega))
theorem Dz (f:Field) (r0:List UInt8):B_ aK uh [] Try.f59 [.agg (cellsOf (.nm .field) f)] [] [.c (.own 0)] [.row 5 .u8 (r0)]=((fun (q1:Nat)=>(fun (q0:List UInt8)=>I64 f.num->I64 f.wire->f.n.n<(18446744073709551616:Nat)->q1*(1:Nat)<=(140737488355328:Nat)->I64 (rq f.num f.wire)->(f.wire=(0:Int)->(q0.length+(br f.n.n).length)*(1:Nat)<=(140737488355328:Nat)/\q0++br f.n.n=r0)/\(¬f.wire=(0:Int)->(0:Int)<=(↑q1:Int)/\(q0.length+(br q1).length)*(1:Nat)<=(140737488355328:Nat)/\((q0++br q1).length+q1)*(1:Nat)<=(140737488355328:Nat)/\q0++br q1++f.b=r0)) (cN f.num f.wire)) f.b.length):=by kernel_rfl
theorem CT (f:Field) (h0:f.b.length<=16384):Sat Try.prog (ah aK) 59 [.agg (cellsOf (.nm .field) f)] [] ⟨[f.b.length<=16384],[.c (.own 0)],some ([.row 5 .u8 ((aN f))]),true⟩:=by
 refine mj hP [] Try.func59 (by decide) (by kernel_rfl) ?_
 rw [Dz]
 (repeat' (first | with_reducible refine And.intro ?_ ?_ | with_reducible refine and_imp.2 ?_ | intro))
 all_goals (first | (first | with_reducible rfl | with_reducible assumption | omega | (refine ag ?_ ?_ <;> omega)) | exact (yZ (by with_reducible assumption)) | exact (yP (by with_reducible assumption)) | (have:=jZ f.num f.wire; have:=cj (n:=f.n.n) (by with_reducible assumption); omega) | (have:=jZ f.num f.wire; have:=cj (n:=f.b.length) (by omega); (try simp only [List.length_append]); omega))
theorem CN (q:Int) (r0:List Spec):dh aK uh [] Try.f66 [.c (.int (q))] [] [.c (.fz (.nm .spec) (r0))]=((fun (q7:Int)=>(fun (q6:Int)=>(fun (q5:Int)=>(fun (q4:Int)=>(fun (q3:Int)=>(fun (q2:Int)=>(fun (q1:Int)=>(fun (q0:Int)=>I64 q->I64 q0->I64 q1->I64 q0->I64 q0->I64 q1->I64 q0->I64 q2->I64 q1->I64 q0->I64 q3->I64 q1->I64 q0->I64 q4->I64 q1->I64 q0->I64 q5->I64 q1->I64 q0->I64 q6->I64 q1->I64 q0->I64 q7->I64 q2->I64 q0->I64 (8:Int)->I64 q2->I64 q3->I64 q0->I64 q1->I64 q0->I64 q0->I64 q1->I64 q0->I64 q2->I64 q1->I64 q0->I64 q2->I64 q1->I64 q0->I64 q3->I64 q2->I64 q0->I64 q3->I64 q2->I64 q0->I64 q4->I64 q1->I64 q2->I64 q5->I64 q2->I64 q3->I64 q0->I64 q1->I64 q0->I64 q0->I64 q1->I64 q0->I64 q2->I64 q1->I64 q0->I64 q2->I64 q1->I64 q0->I64 q0->I64 q1->I64 q0->I64 q0->I64 q1->I64 q0->I64 q2->I64 q1->I64 q0->I64 q3->I64 q1->I64 q0->I64 q4->I64 q1->I64 q0->I64 q0->I64 q1->I64 q0->I64 q0->I64 q1->I64 q0->I64 q2->I64 q1->I64 q0->I64 q2->I64 q1->I64 q0->I64 q3->I64 q1->I64 q0->I64 q4->I64 q2->I64 q0->I64 q4->I64 q2->I64 q0->I64 q5->I64 q2->I64 q0->I64 q5->I64 q2->I64 q0->I64 q6->I64 q2->I64 q0->I64 q6->I64 q2->I64 q0->I64 q7->I64 q1->I64 q3->I64 q0->I64 q1->I64 q0->I64 q0->I64 q1->I64 q0->I64 q2->I64 q1->I64 q0->I64 q2->I64 q1->I64 q0->I64 q3->I64 q1->I64 q0->I64 q3->I64 q1->I64 q0->I64 q4->I64 q1->I64 q0->I64 q4->I64 q1->I64 q0->I64 q5->I64 q1->I64 q0->I64 q6->I64 q1->I64 q0->I64 q7->I64 q1->I64 q0->I64 (8:Int)->I64 q1->I64 q0->I64 (9:Int)->I64 q1->I64 q0->I64 (10:Int)->I64 q2->I64 q0->I64 (10:Int)->I64 q2->I64 q0->I64 q0->I64 q1->I64 q0->I64 q0->I64 q1->I64 q0->I64 q2->I64 q2->I64 q0->((fun (j:Int)=>if j=q7 then some [Spec.mk q0 q1 q0 true false,Spec.mk q2 q2 q0 false false] else (fun (j:Int)=>if j=q6 then some [Spec.mk q0 q1 q0 true false,Spec.mk q2 q1 q0 true false,Spec.mk q3 q1 q0 true false,Spec.mk q4 q1 q0 true false,Spec.mk q5 q1 q0 false false,Spec.mk q6 q1 q0 false false,Spec.mk q7 q1 q0 false false,Spec.mk (8:Int) q1 q0 false false,Spec.mk (9:Int) q1 q0 false false,Spec.mk (10:Int) q2 q0 false true] else (fun (j:Int)=>if j=q5 then some [Spec.mk q0 q1 q0 true false,Spec.mk q2 q1 q0 true false,Spec.mk q3 q1 q0 false false,Spec.mk q4 q2 q0 false true,Spec.mk q5 q2 q0 false true,Spec.mk q6 q2 q0 false true,Spec.mk q7 q1 q3 false false] else (fun (j:Int)=>if j=q4 then some [Spec.mk q0 q1 q0 true false,Spec.mk q2 q1 q0 false false,Spec.mk q3 q1 q0 false false,Spec.mk q4 q1 q0 false false] else (fun (j:Int)=>if j=q3 then some [Spec.mk q0 q1 q0 true false,Spec.mk q2 q1 q0 true false] else (fun (j:Int)=>if j=q2 then some [Spec.mk q0 q1 q0 true false,Spec.mk q2 q1 q0 true false,Spec.mk q3 q2 q0 true false,Spec.mk q4 q1 q2 false false,Spec.mk q5 q2 q3 false false] else (fun (j:Int)=>if j=q0 then some [Spec.mk q0 q1 q0 true false,Spec.mk q2 q1 q0 false false,Spec.mk q3 q1 q0 false false,Spec.mk q4 q1 q0 false false,Spec.mk q5 q1 q0 false false,Spec.mk q6 q1 q0 false false,Spec.mk q7 q2 q0 false false,Spec.mk (8:Int) q2 q3 false false] else (fun (_:Int)=>none) j) j) j) j) j) j) j) q).getD (aC (Sh.nm NT.spec).lst)=r0) (1:Int)) (0:Int)) (2:Int)) (3:Int)) (4:Int)) (5:Int)) (6:Int)) (7:Int)):=by kernel_rfl
theorem CJ (q:Int) (h0:q=1):Sat Try.prog (ah aK) 66 [.c (.int (q))] [] ⟨[q=1],[.c (.fz (.nm .spec) ((aO)))],none,false⟩:=by
 refine aP hP [] Try.func66 (by decide) (by kernel_rfl) ?_
 rw [CN]
 subst h0; (repeat' (first | with_reducible refine And.intro ?_ ?_ | with_reducible refine and_imp.2 ?_ | intro))
 all_goals (first | (first | with_reducible rfl | with_reducible assumption | omega | (refine ag ?_ ?_ <;> omega)) | exact rfl)
theorem Dt (b:List UInt8) (r0:List Int) (r1:Int):dh aK uh (BA b) Try.f45 [.c (.fz .u8 (b))] [] [.c (.fz .int (r0)),.c (.int (r1))]=(b.length*(1:Nat)<=(140737488355328:Nat)->∃ (s0:Nat),(b=b/\(0:Int)=(↑s0:Int)/\bd (List.take s0 b)=[])/\s0<=b.length/\∀ (s:Nat),(fun (q1:List Int)=>(fun (q0:Nat × Nat × Int)=>s<=b.length->((↑s:Int)<(↑b.length:Int)->(0:Int)<=(↑s:Int)/\(↑s:Int)<=(↑b.length:Int)/\(q0.fst<(18446744073709551616:Nat)->I64 (↑q0.snd.fst:Int)->I64 q0.snd.snd->(¬q0.snd.snd=(0:Int)\/(↑(64:Nat):Int)<(↑q0.fst:Int)->r0=[]/\(6:Int)=r1)/\(q0.snd.snd=(0:Int)/\(↑q0.fst:Int)<=(↑(64:Nat):Int)->(q1.length+[eB q0.fst].length)*(8:Nat)<=(140737488355328:Nat)/\I64 ((↑s:Int)+(↑q0.snd.fst:Int))/\∃ (s':Nat),(b=b/\(↑s:Int)+(↑q0.snd.fst:Int)=(↑s':Int)/\q1++[eB q0.fst]=bd (List.take s' b))/\s' <= b.length/\b.length - s' < b.length - s)))/\((↑b.length:Int)<=(↑s:Int)->(rowF q1=false->r0=[]/\(6:Int)=r1)/\(rowF q1=true->q1=r0/\(0:Int)=r1))) (ae (List.drop s b))) (bd (List.take s b))):=by kernel_rfl
theorem Cm (b:List UInt8) (h0:b.length<=100000):Sat Try.prog (ah aK) 45 [.c (.fz .u8 (b))] [] ⟨[b.length<=100000],[.c (.fz .int ((eT b))),.c (.int ((gH b)))],none,false⟩:=by
 refine aP hP (BA b) Try.func45 (by decide) (by kernel_rfl) ?_
 rw [Dt]
 (repeat' (first | with_reducible refine And.intro ?_ ?_ | with_reducible refine and_imp.2 ?_ | intro))
 all_goals try (first | (first | with_reducible rfl | with_reducible assumption | omega | (refine ag ?_ ?_ <;> omega)) | exact rfl | exact (c_ (yI (by with_reducible assumption) (by assumption))) | exact (iT (yI (by with_reducible assumption) (by assumption))) | exact (c_ (yI (by with_reducible assumption) (by assumption))).symm | exact (c_ (eL (k:=‹Nat›) (by omega) (by with_reducible assumption))).symm | exact (c_ (eL (k:=‹Nat›) (by omega) (by with_reducible assumption))) | exact (iT (eL (k:=‹Nat›) (by omega) (by with_reducible assumption))) | exact (na (by omega) (by with_reducible assumption)) | exact (nV (k:=‹Nat›) (by omega) (by with_reducible assumption)) | exact (yp (by with_reducible assumption) (by with_reducible assumption) (by with_reducible assumption)).1 | exact (yp (by with_reducible assumption) (by with_reducible assumption) (by with_reducible assumption)).2 | exact (qt (by omega) (by omega)) | (have:=(yp (by with_reducible assumption) (by with_reducible assumption) (by with_reducible assumption)).1; refine ag ?_ ?_ <;> omega))
 all_goals try (refine ⟨0,?_⟩; (repeat' (first | with_reducible refine And.intro ?_ ?_ | with_reducible refine and_imp.2 ?_ | intro)))
 all_goals try (first | (first | with_reducible rfl | with_reducible assumption | omega | (refine ag ?_ ?_ <;> omega)) | exact rfl | exact (c_ (yI (by with_reducible assumption) (by assumption))) | exact (iT (yI (by with_reducible assumption) (by assumption))) | exact (c_ (yI (by with_reducible assumption) (by assumption))).symm | exact (c_ (eL (k:=‹Nat›) (by omega) (by with_reducible assumption))).symm | exact (c_ (eL (k:=‹Nat›) (by omega) (by with_reducible assumption))) | exact (iT (eL (k:=‹Nat›) (by omega) (by with_reducible assumption))) | exact (na (by omega) (by with_reducible assumption)) | exact (nV (k:=‹Nat›) (by omega) (by with_reducible assumption)) | exact (yp (by with_reducible assumption) (by with_reducible assumption) (by with_reducible assumption)).1 | exact (yp (by with_reducible assumption) (by with_reducible assumption) (by with_reducible assumption)).2 | exact (qt (by omega) (by omega)) | (have:=(yp (by with_reducible assumption) (by with_reducible assumption) (by with_reducible assumption)).1; refine ag ?_ ?_ <;> omega))
 all_goals try (refine ⟨‹Nat› + 1,?_⟩; (repeat' (first | with_reducible refine And.intro ?_ ?_ | with_reducible refine and_imp.2 ?_ | intro)))
 all_goals (first | (first | with_reducible rfl | with_reducible assumption | omega | (refine ag ?_ ?_ <;> omega)) | exact rfl | exact (c_ (yI (by with_reducible assumption) (by assumption))) | exact (iT (yI (by with_reducible assumption) (by assumption))) | exact (c_ (yI (by with_reducible assumption) (by assumption))).symm | exact (c_ (eL (k:=‹Nat›) (by omega) (by with_reducible assumption))).symm | exact (c_ (eL (k:=‹Nat›) (by omega) (by with_reducible assumption))) | exact (iT (eL (k:=‹Nat›) (by omega) (by with_reducible assumption))) | exact (na (by omega) (by with_reducible assumption)) | exact (nV (k:=‹Nat›) (by omega) (by with_reducible assumption)) | exact (yp (by with_reducible assumption) (by with_reducible assumption) (by with_reducible assumption)).1 | exact (yp (by with_reducible assumption) (by with_reducible assumption) (by with_reducible assumption)).2 | exact (qt (by omega) (by omega)) | (have:=(yp (by with_reducible assumption) (by with_reducible assumption) (by with_reducible assumption)).1; refine ag ?_ ?_ <;> omega))
def pM:cA:=(cH 45 (ck (ai (kC (cL .u8)) ba) bb fun (b,_) (_)=>⟨[b.length<=100000],[.c (.fz .int ((eT b))),.c (.int ((gH b)))],none,false⟩) (cH 66 (ck (ai (kC cI) ba) bb fun (q,_) (_)=>⟨[q=1],[.c (.fz (.nm .spec) ((aO)))],none,false⟩) (cH 59 (ck (ai (kT (.nm .field)) ba) bb fun (f,_) (_)=>⟨[f.b.length<=16384],[.c (.own 0)],some ([.row 5 .u8 ((aN f))]),true⟩) (cH 63 (ck (ai (kC (cL .u8)) ba) bb fun (b,_) (_)=>⟨[],[.c (.int (((ay b).num))),.c (.int (((ay b).wire))),.c (.int ((((ay b).k:Nat)))),.c (.int (((ay b).e)))],none,false⟩) uh))))
theorem eK:aS Try.prog (ah aK) pM:=(aq (au (ab (aw bA) al) ak fun (b,_) (_) hp=>Cm b (lM hp)) (aq (au (ab (aw bh) al) ak fun (q,_) (_) hp=>CJ q (lM hp)) (aq (au (ab cE al) ak fun (f,_) (_) hp=>CT f (lM hp)) (aq (au (ab (aw bA) al) ak fun (b,_) (_) _=>Cb b ) hP))))
end Go.Proofs.Ytladifkbefehdaa
namespace Go.Proofs.Ytladifkbefehdaa
open Go.RowKit
theorem zb {l:List Field} {k:Nat} (hk:k<=l.length) (h0:0<(k:Int)):l[k - 1]? = some (l.getD ((k:Int) - 1).toNat (aC (.nm .field))):=by
 rw [show ((k:Int) - 1).toNat=k - 1 by omega,List.getD_eq_getElem?_getD,List.getElem?_eq_getElem (by omega)]; rfl
theorem mC {l:List Field} {k:Nat} {x:Field} (h:(k:Int)<=0\/db (l.getD ((k:Int) - 1).toNat (aC (.nm .field))) x=true) (hk:k<=l.length):mS l k x:=by
 by_cases h0:0<(k:Int)
 ·exact .inr ⟨_,zb hk h0,h.resolve_left (by omega)⟩
 ·exact .inl (by omega)
theorem uw {v:Int} {k:Nat}:(((aO.take k).filter (fun s=>decide (s.since<=v))).length+1)*32<=140737488355328:=by
 have:=vi (v:=v) (k:=k); omega
theorem wJ {v:Int} {k:Nat} (h1:1<=v) (h3:v<=3) (hk:8<=(k:Int)):(aO.take k).filter (fun s=>decide (s.since<=v))=az v:=xZ (by omega) (by show 8<=k; omega)
theorem CX {l:List Field} {v:Int}:bO (l.take 0) v=[]:=rfl
theorem Dm {l:List Field} {v:Int}:bX (l.take 0) v=[]:=rfl
theorem Dr {l:List Field} {v:Int} {k:Nat} {x:Field} (hx:l[k]? = some x) (h:x.num<=v):bO (l.take k) v++[x]=bO (l.take (k+1)) v:=yS hx h
theorem CV {l:List Field} {v:Int} {k:Nat} {x:Field} (hx:l[k]? = some x) (h:¬ x.num<=v):bO (l.take k) v=bO (l.take (k+1)) v:=Du hx h
theorem Cj {l:List Field} {v:Int} {k:Nat} {x:Field} (hx:l[k]? = some x) (h:¬ x.num<=v):bX (l.take k) v++[x]=bX (l.take (k+1)) v:=yE hx h
theorem CK {l:List Field} {v:Int} {k:Nat} {x:Field} (hx:l[k]? = some x) (h:x.num<=v):bX (l.take k) v=bX (l.take (k+1)) v:=CP hx h
theorem Dy {l:List Field} {v:Int} {k:Nat} (hk:l.length<=k):bO (l.take k) v=bO l v:=tV hk
theorem Cs {l:List Field} {v:Int} {k:Nat} (hk:l.length<=k):bX (l.take k) v=bX l v:=uY hk
attribute [local irreducible] bO bX
def xp (l:List Field):List (Nat × LI):=[(3,{ σ:=Nat,F:=fun k=>([(0,one (.fz (.nm .field) (l))),(3,one (.int (dB (l.take k):Nat))),(6,one (.fz (.nm .field) (l))),(7,one (.int (l).length)),(8,one (.int k))],[]),J:=fun k=>k<=l.length/\bM none l=bM (cb l k) (l.drop k)/\dB (l.take k)<=k*16404,μ:=fun k=>(l).length - k })]
def wY (q:Int) (v:Int):List (Nat × LI):=[(5,{ σ:=Nat,F:=fun k=>([(1,one (.int (v))),(5,one (.own 0)),(15,one (.fz (.nm .spec) aO)),(16,one (.int 8)),(17,one (.int k))],[.row 77 (.nm .spec) (((aO.take k).filter (fun (s:Spec)=>decide (s.since<=v))))]),J:=fun k=>k<=8,μ:=fun k=>8 - k })]
def rB (l:List Field) (v:Int):List (Nat × LI):=[(2,{ σ:=Nat,F:=fun k=>([(1,one (.int (v))),(4,one (.own 0)),(5,one (.own 1)),(8,one (.fz (.nm .field) (l))),(9,one (.int (l).length)),(10,one (.int k))],[.row 58 (.nm .field) ((bO (l.take k) v)),.row 58 (.nm .field) ((bX (l.take k) v))]),J:=fun k=>k<=l.length,μ:=fun k=>(l).length - k })]
def vB (l:List Field):List (Nat × LI):=[(3,{ σ:=Nat,F:=fun k=>([(2,one (.ptr 0 0)),(3,one (.ptr 1 0)),(6,one (.fz (.nm .field) (l))),(7,one (.int (l).length)),(8,one (.int k))],[.box 27 (cellsOf (.nm .command) ((bT))),.box 27 (cellsOf (.nm .command) (((bk (l.take k)))))]),J:=fun k=>k<=l.length,μ:=fun k=>(l).length - k })]
theorem yM (b:List UInt8) (s:Int) (r0:U64) (r1:Int) (r2:List UInt8) (r3:Int):DH aK pM [] Try.f64 [.c (.ptr 0 0),.c (.ptr 1 0)] [.box 22 ([.fz .u8 (b)]),.box 3 ([.int (s)])] [.c (.u64 (r0).n),.c (.int (r1))] [.box 22 ([.fz .u8 (r2)]),.box 3 ([.int (r3)])]=((fun (q0:Nat × Nat × Int)=>(0:Int)<=s/\s<=(↑b.length:Int)/\(q0.fst<(18446744073709551616:Nat)->I64 (↑q0.snd.fst:Int)->I64 q0.snd.snd->I64 (s+(↑q0.snd.fst:Int))/\q0.fst=r0.n/\q0.snd.snd=r1/\b=r2/\s+(↑q0.snd.fst:Int)=r3)) (ae (List.drop s.toNat b))):=by kernel_rfl
theorem Aw (b:List UInt8) (s:Int) (h0:0<=s) (h1:s<=(b.length:Int)) (h2:b.length*1<=140737488355328):Sat Try.prog (ah aK) 64 [.c (.ptr 0 0),.c (.ptr 1 0)] [.box 22 ([.fz .u8 (b)]),.box 3 ([.int (s)])] ⟨[0<=s,s<=(b.length:Int),b.length*1<=140737488355328],[.c (.u64 ((U64.mk (ae (b.drop s.toNat)).1)).n),.c (.int (((ae (b.drop s.toNat)).2.2)))],some ([.box 22 ([.fz .u8 ((b))]),.box 3 ([.int ((s+((ae (b.drop s.toNat)).2.1:Nat)))])]),false⟩:=by
 refine oB eK [] Try.func64 (by decide) (by kernel_rfl) ?_
 rw [yM]
 (repeat' (first | with_reducible refine And.intro ?_ ?_ | with_reducible refine and_imp.2 ?_ | intro))
 all_goals (first | (first | with_reducible rfl | with_reducible assumption | omega | (refine ag ?_ ?_ <;> omega)) | (have:=(gT b s.toNat).1; refine ag ?_ ?_ <;> omega))
theorem wT (b:List UInt8) (r0:Field):dh aK pM [] Try.f40 [.c (.fz .u8 (b))] [] [.agg (cellsOf (.nm .field) r0)]=((fun (q1:TagR)=>(fun (q0:Int)=>b.length*(1:Nat)<=(140737488355328:Nat)->I64 q1.num->I64 q1.wire->I64 (↑q1.k:Int)->I64 q1.e->(0:Int)<=(↑q1.k:Int)/\(↑q1.k:Int)<=(↑b.length:Int)/\((ae (List.drop q1.k b)).fst<(18446744073709551616:Nat)->I64 (↑(ae (List.drop q1.k b)).snd.fst:Int)->I64 (ae (List.drop q1.k b)).snd.snd->(q1.wire=(0:Int)->q1.num=r0.num/\q1.wire=r0.wire/\(ae (List.drop q1.k b)).fst=r0.n.n/\r0.b=[])/\(¬q1.wire=(0:Int)->I64 q0/\(0:Int)<=q0/\q0<=(↑b.length:Int)/\(List.drop q0.toNat b).length*(1:Nat)<=(140737488355328:Nat)/\q1.num=r0.num/\q1.wire=r0.wire/\(0:Nat)=r0.n.n/\List.drop q0.toNat b=r0.b))) ((↑q1.k:Int)+(↑(ae (List.drop q1.k b)).snd.fst:Int))) (ay b)):=by kernel_rfl
theorem ye (b:List UInt8):Sat Try.prog (ah aK) 40 [.c (.fz .u8 (b))] [] ⟨[],[.agg (cellsOf (.nm .field) (fu b))],none,false⟩:=by
 refine aP eK [] Try.func40 (by decide) (by kernel_rfl) ?_
 rw [wT]
 (repeat' (first | with_reducible refine And.intro ?_ ?_ | with_reducible refine and_imp.2 ?_ | intro))
 all_goals (first | (first | with_reducible rfl | with_reducible assumption | omega | (refine ag ?_ ?_ <;> omega)) | exact (congrArg Field.num (oi (by with_reducible assumption))) | exact (congrArg Field.wire (oi (by with_reducible assumption))) | exact (congrArg (fun f=>f.n.n) (oi (by with_reducible assumption))) | exact (congrArg Field.b (oi (by with_reducible assumption))).symm | exact (congrArg Field.num (oL (by with_reducible assumption))) | exact (congrArg Field.wire (oL (by with_reducible assumption))) | exact (congrArg (fun f=>f.n.n) (oL (by with_reducible assumption))) | exact (congrArg Field.b (oL (by with_reducible assumption))) | (have h1:=jR b; have h2:=gT b (ay b).k; first | omega | (refine ag ?_ ?_ <;> omega) | (rw [List.length_drop]; omega)))
theorem zm (l:List Field) (r0:Int):dh aK pM (xp l) Try.f42 [.c (.fz (.nm .field) (l))] [] [.c (.int (r0))]=((fun (q3:den (Sh.nm NT.field))=>(fun (q2:Nat)=>(fun (q1:Int)=>(fun (q0:Int)=>l.length*(48:Nat)<=(140737488355328:Nat)->∃ (s0:Nat),(l=l/\q1=(↑(dB (List.take s0 l)):Int)/\l=l/\(↑l.length:Int)=(↑q2:Int)/\q1=(↑s0:Int))/\(s0<=q2/\bM none l=bM (cb l s0) (List.drop s0 l)/\dB (List.take s0 l)<=s0*(16404:Nat))/\∀ (s:Nat),(fun (q6:Int)=>(fun (q5:Int)=>(fun (q4:den (Sh.nm NT.field))=>s<=q2/\bM none l=bM (cb l s) (List.drop s l)/\dB (List.take s l)<=s*(16404:Nat)->(q5<(↑q2:Int)->q1<=q5/\q5<(↑l.length:Int)/\∀ (x:Field),l[s]? = some x->I64 x.num->I64 x.wire->x.n.n<(18446744073709551616:Nat)->x.b.length*(1:Nat)<=(140737488355328:Nat)->(bp x=false->q0=r0)/\(bp x=true->(q1<q5->I64 (q5 - q0))/\(q1<q5->q1<=q5 - q0/\q5 - q0<(↑l.length:Int))/\((q1<q5->I64 q4.num/\I64 q4.wire/\q4.n.n<(18446744073709551616:Nat)/\q4.b.length*(1:Nat)<=(140737488355328:Nat))->(q1<q5/\db q4 x=false->(5:Int)=r0)/\(q5<=q1\/db q4 x=true->((16384:Int)<(↑x.b.length:Int)->(4:Int)=r0)/\((↑x.b.length:Int)<=(16384:Int)->x.b.length<=(16384:Nat)/\I64 (q6+(↑(aN x).length:Int))/\I64 (q5+q0)/\∃ (s':Nat),(l=l/\q6+(↑(aN x).length:Int)=(↑(dB (List.take s' l)):Int)/\l=l/\(↑q2:Int)=(↑q2:Int)/\q5+q0=(↑s':Int))/\(s' <= q2/\bM none l=bM (cb l s') (List.drop s' l)/\dB (List.take s' l)<=s' * (16404:Nat))/\q2 - s' < q2 - s)))))/\((↑q2:Int)<=q5->((16384:Int)<q6->(4:Int)=r0)/\(q6<=(16384:Int)->q1=r0))) (l.getD (q5 - q0).toNat q3)) (↑s:Int)) (↑(dB (List.take s l)):Int)) (1:Int)) (0:Int)) l.length) (aC (Sh.nm NT.field))):=by kernel_rfl
theorem AK (l:List Field):Sat Try.prog (ah aK) 42 [.c (.fz (.nm .field) (l))] [] ⟨[],[.c (.int ((bl l)))],none,false⟩:=by
 refine aP eK (xp l) Try.func42 (by decide) (by kernel_rfl) ?_
 rw [zm]
 (repeat' (first | with_reducible refine And.intro ?_ ?_ | with_reducible refine and_imp.2 ?_ | intro))
 all_goals try (first | (first | with_reducible rfl | with_reducible assumption | omega | (refine ag ?_ ?_ <;> omega)) | exact rfl | exact (Nat.le_refl 0) | exact (qh (by with_reducible assumption) (by with_reducible assumption) (by with_reducible assumption)) | exact (qu (by with_reducible assumption) (by with_reducible assumption) (by with_reducible assumption) (by omega) (zb (by omega) (by with_reducible assumption)) (by with_reducible assumption)) | exact (qF (by with_reducible assumption) (by with_reducible assumption) (by with_reducible assumption) (mC (by assumption) (by omega)) (by with_reducible assumption)) | exact (kJ (by with_reducible assumption) (by with_reducible assumption) (by with_reducible assumption) (mC (by assumption) (by omega)) (by omega)) | exact (k_ (by with_reducible assumption) (by omega) (by with_reducible assumption)) | exact (kP (by with_reducible assumption) (by omega) (by omega)) | (have h1:=cO (f:=‹Field›) (by omega) (by with_reducible assumption); have h2:=j_ (show l[_]? = some ‹Field› by with_reducible assumption); first | omega | (refine ag ?_ ?_ <;> omega)))
 all_goals try (refine ⟨0,?_⟩; (repeat' (first | with_reducible refine And.intro ?_ ?_ | with_reducible refine and_imp.2 ?_ | intro)))
 all_goals try (first | (first | with_reducible rfl | with_reducible assumption | omega | (refine ag ?_ ?_ <;> omega)) | exact rfl | exact (Nat.le_refl 0) | exact (qh (by with_reducible assumption) (by with_reducible assumption) (by with_reducible assumption)) | exact (qu (by with_reducible assumption) (by with_reducible assumption) (by with_reducible assumption) (by omega) (zb (by omega) (by with_reducible assumption)) (by with_reducible assumption)) | exact (qF (by with_reducible assumption) (by with_reducible assumption) (by with_reducible assumption) (mC (by assumption) (by omega)) (by with_reducible assumption)) | exact (kJ (by with_reducible assumption) (by with_reducible assumption) (by with_reducible assumption) (mC (by assumption) (by omega)) (by omega)) | exact (k_ (by with_reducible assumption) (by omega) (by with_reducible assumption)) | exact (kP (by with_reducible assumption) (by omega) (by omega)) | (have h1:=cO (f:=‹Field›) (by omega) (by with_reducible assumption); have h2:=j_ (show l[_]? = some ‹Field› by with_reducible assumption); first | omega | (refine ag ?_ ?_ <;> omega)))
 all_goals try (refine ⟨‹Nat› + 1,?_⟩; (repeat' (first | with_reducible refine And.intro ?_ ?_ | with_reducible refine and_imp.2 ?_ | intro)))
 all_goals (first | (first | with_reducible rfl | with_reducible assumption | omega | (refine ag ?_ ?_ <;> omega)) | exact rfl | exact (Nat.le_refl 0) | exact (qh (by with_reducible assumption) (by with_reducible assumption) (by with_reducible assumption)) | exact (qu (by with_reducible assumption) (by with_reducible assumption) (by with_reducible assumption) (by omega) (zb (by omega) (by with_reducible assumption)) (by with_reducible assumption)) | exact (qF (by with_reducible assumption) (by with_reducible assumption) (by with_reducible assumption) (mC (by assumption) (by omega)) (by with_reducible assumption)) | exact (kJ (by with_reducible assumption) (by with_reducible assumption) (by with_reducible assumption) (mC (by assumption) (by omega)) (by omega)) | exact (k_ (by with_reducible assumption) (by omega) (by with_reducible assumption)) | exact (kP (by with_reducible assumption) (by omega) (by omega)) | (have h1:=cO (f:=‹Field›) (by omega) (by with_reducible assumption); have h2:=j_ (show l[_]? = some ‹Field› by with_reducible assumption); first | omega | (refine ag ?_ ?_ <;> omega)))
theorem Am (q:Int) (v:Int) (r0:List Spec):dh aK pM (wY q v) Try.f41 [.c (.int (q)),.c (.int (v))] [] [.c (.fz (.nm .spec) (r0))]=((fun (q2:Int)=>(fun (q1:Int)=>(fun (q0:Nat)=>I64 q->I64 v->(v<q1\/(3:Int)<v->r0=[])/\(q1<=v/\v<=(3:Int)->q=q1/\(aO.length*(32:Nat)<=(140737488355328:Nat)->∃ (s0:Nat),(v=v/\aO=aO/\(↑aO.length:Int)=q2/\(0:Int)=(↑s0:Int)/\List.filter (fun (s:Spec)=>decide (s.since<=v)) (List.take s0 aO)=[])/\s0<=q0/\∀ (s:Nat),(fun (q4:Int)=>(fun (q3:List (den (Sh.nm NT.spec)))=>s<=q0->((↑s:Int)<q2->(0:Int)<=(↑s:Int)/\(↑s:Int)<(↑aO.length:Int)/\∀ (x:Spec),aO[s]? = some x->I64 x.num->I64 x.wire->I64 x.since->(x.since<=v->(q3.length+[x].length)*(32:Nat)<=(140737488355328:Nat)/\I64 q4/\∃ (s':Nat),(v=v/\aO=aO/\q2=q2/\q4=(↑s':Int)/\q3++[x]=List.filter (fun (s:Spec)=>decide (s.since<=v)) (List.take s' aO))/\s' <= q0/\q0 - s' < q0 - s)/\(v<x.since->I64 q4/\∃ (s':Nat),(v=v/\aO=aO/\q2=q2/\q4=(↑s':Int)/\q3=List.filter (fun (s:Spec)=>decide (s.since<=v)) (List.take s' aO))/\s' <= q0/\q0 - s' < q0 - s))/\(q2<=(↑s:Int)->q3=r0)) (List.filter (fun (s:Spec)=>decide (s.since<=v)) (List.take s aO))) ((↑s:Int)+q1)))) (8:Nat)) (1:Int)) (8:Int)):=by kernel_rfl
theorem A_ (q:Int) (v:Int) (h0:q=1):Sat Try.prog (ah aK) 41 [.c (.int (q)),.c (.int (v))] [] ⟨[q=1],[.c (.fz (.nm .spec) ((az v)))],none,false⟩:=by
 refine aP eK (wY q v) Try.func41 (by decide) (by kernel_rfl) ?_
 rw [Am]
 (repeat' (first | with_reducible refine And.intro ?_ ?_ | with_reducible refine and_imp.2 ?_ | intro))
 all_goals try (first | (first | with_reducible rfl | with_reducible assumption | omega | (refine ag ?_ ?_ <;> omega)) | exact rfl | exact (iS (by with_reducible assumption)).symm | exact (kG (by with_reducible assumption) (by with_reducible assumption)) | exact (nQ (by with_reducible assumption) (by omega)) | exact uw | exact (wJ (by omega) (by omega) (by omega)) | (have hl:aO.length=8:=rfl; omega))
 all_goals try (refine ⟨0,?_⟩; (repeat' (first | with_reducible refine And.intro ?_ ?_ | with_reducible refine and_imp.2 ?_ | intro)))
 all_goals try (first | (first | with_reducible rfl | with_reducible assumption | omega | (refine ag ?_ ?_ <;> omega)) | exact rfl | exact (iS (by with_reducible assumption)).symm | exact (kG (by with_reducible assumption) (by with_reducible assumption)) | exact (nQ (by with_reducible assumption) (by omega)) | exact uw | exact (wJ (by omega) (by omega) (by omega)) | (have hl:aO.length=8:=rfl; omega))
 all_goals try (refine ⟨‹Nat› + 1,?_⟩; (repeat' (first | with_reducible refine And.intro ?_ ?_ | with_reducible refine and_imp.2 ?_ | intro)))
 all_goals (first | (first | with_reducible rfl | with_reducible assumption | omega | (refine ag ?_ ?_ <;> omega)) | exact rfl | exact (iS (by with_reducible assumption)).symm | exact (kG (by with_reducible assumption) (by with_reducible assumption)) | exact (nQ (by with_reducible assumption) (by omega)) | exact uw | exact (wJ (by omega) (by omega) (by omega)) | (have hl:aO.length=8:=rfl; omega))
theorem xu (l:List Field) (v:Int) (r0:List Field) (r1:List Field):dh aK pM (rB l v) Try.f20 [.c (.fz (.nm .field) (l)),.c (.int (v))] [] [.c (.fz (.nm .field) (r0)),.c (.fz (.nm .field) (r1))]=((fun (q0:Nat)=>l.length*(48:Nat)<=(140737488355328:Nat)->I64 v->∃ (s0:Nat),(fun (q1:Int)=>(v=v/\l=l/\(↑l.length:Int)=q1/\(0:Int)=(↑s0:Int)/\bO (List.take s0 l) v=[]/\bX (List.take s0 l) v=[])/\s0<=q0/\∀ (s:Nat),(fun (q3:List Field)=>(fun (q2:Int)=>s<=q0->((↑s:Int)<q1->(0:Int)<=(↑s:Int)/\(↑s:Int)<(↑l.length:Int)/\∀ (x:Field),(fun (q4:Prop)=>l[s]? = some x->I64 x.num->I64 x.wire->x.n.n<(18446744073709551616:Nat)->q4->q4->(x.num<=v->((bO q3 v).length+[x].length)*(48:Nat)<=(140737488355328:Nat)/\I64 q2/\∃ (s':Nat),(v=v/\l=l/\q1=q1/\q2=(↑s':Int)/\bO q3 v++[x]=bO (List.take s' l) v/\bX q3 v=bX (List.take s' l) v)/\s' <= q0/\q0 - s' < q0 - s)/\(v<x.num->((bX q3 v).length+[x].length)*(48:Nat)<=(140737488355328:Nat)/\I64 q2/\∃ (s':Nat),(v=v/\l=l/\q1=q1/\q2=(↑s':Int)/\bO q3 v=bO (List.take s' l) v/\bX q3 v++[x]=bX (List.take s' l) v)/\s' <= q0/\q0 - s' < q0 - s)) (x.b.length*(1:Nat)<=(140737488355328:Nat)))/\(q1<=(↑s:Int)->bO q3 v=r0/\bX q3 v=r1)) ((↑s:Int)+(1:Int))) (List.take s l)) (↑q0:Int)) l.length):=by kernel_rfl
theorem xa (l:List Field) (v:Int):Sat Try.prog (ah aK) 20 [.c (.fz (.nm .field) (l)),.c (.int (v))] [] ⟨[],[.c (.fz (.nm .field) ((bO l v))),.c (.fz (.nm .field) ((bX l v)))],none,false⟩:=by
 refine aP eK (rB l v) Try.func20 (by decide) (by kernel_rfl) ?_
 rw [xu]
 (repeat' (first | with_reducible refine And.intro ?_ ?_ | with_reducible refine and_imp.2 ?_ | intro))
 all_goals try (first | (first | with_reducible rfl | with_reducible assumption | omega | (refine ag ?_ ?_ <;> omega)) | exact CX | exact Dm | exact (Dr (by with_reducible assumption) (by with_reducible assumption)) | exact (CV (by with_reducible assumption) (by omega)) | exact (Cj (by with_reducible assumption) (by omega)) | exact (CK (by with_reducible assumption) (by with_reducible assumption)) | exact (Dy (by omega)) | exact (Cs (by omega)) | (have h1:=nM (l.take ‹Nat›) v; have h2:=gW (l.take ‹Nat›) v; rw [List.length_take] at h1 h2; simp only [List.length_cons,List.length_nil]; omega))
 all_goals try (refine ⟨0,?_⟩; (repeat' (first | with_reducible refine And.intro ?_ ?_ | with_reducible refine and_imp.2 ?_ | intro)))
 all_goals try (first | (first | with_reducible rfl | with_reducible assumption | omega | (refine ag ?_ ?_ <;> omega)) | exact CX | exact Dm | exact (Dr (by with_reducible assumption) (by with_reducible assumption)) | exact (CV (by with_reducible assumption) (by omega)) | exact (Cj (by with_reducible assumption) (by omega)) | exact (CK (by with_reducible assumption) (by with_reducible assumption)) | exact (Dy (by omega)) | exact (Cs (by omega)) | (have h1:=nM (l.take ‹Nat›) v; have h2:=gW (l.take ‹Nat›) v; rw [List.length_take] at h1 h2; simp only [List.length_cons,List.length_nil]; omega))
 all_goals try (refine ⟨‹Nat› + 1,?_⟩; (repeat' (first | with_reducible refine And.intro ?_ ?_ | with_reducible refine and_imp.2 ?_ | intro)))
 all_goals (first | (first | with_reducible rfl | with_reducible assumption | omega | (refine ag ?_ ?_ <;> omega)) | exact CX | exact Dm | exact (Dr (by with_reducible assumption) (by with_reducible assumption)) | exact (CV (by with_reducible assumption) (by omega)) | exact (Cj (by with_reducible assumption) (by omega)) | exact (CK (by with_reducible assumption) (by with_reducible assumption)) | exact (Dy (by omega)) | exact (Cs (by omega)) | (have h1:=nM (l.take ‹Nat›) v; have h2:=gW (l.take ‹Nat›) v; rw [List.length_take] at h1 h2; simp only [List.length_cons,List.length_nil]; omega))
theorem zZ (l:List Field) (r0:Command):dh aK pM (vB l) Try.f22 [.c (.fz (.nm .field) (l))] [] [.agg (cellsOf (.nm .command) r0)]=((fun (q11:Prop)=>(fun (q10:Int)=>(fun (q9:Prop)=>(fun (q8:Int)=>(fun (q7:Prop)=>(fun (q6:Prop)=>(fun (q5:Prop)=>(fun (q4:Prop)=>(fun (q3:Prop)=>(fun (q2:Prop)=>(fun (q1:Prop)=>(fun (q0:Nat)=>l.length*(48:Nat)<=(140737488355328:Nat)->∃ (s0:Nat),(fun (q13:Command)=>(fun (q12:Prop)=>(q11/\(↑l.length:Int)=(↑q0:Int)/\q10=(↑s0:Int)/\q10=bT.kind/\q10=bT.client/\q10=bT.seq/\q10=bT.set/\q10=bT.id/\q10=bT.n/\bT.chunks=[]/\Str.mk []=bT.text/\q10=q13.kind/\q10=q13.client/\q10=q13.seq/\q10=q13.set/\q10=q13.id/\q10=q13.n/\q13.chunks=[]/\Str.mk []=q13.text)/\s0<=q0/\∀ (s:Nat),(fun (q16:Nat)=>(fun (q15:Int)=>(fun (q14:Command)=>s<=q0->((↑s:Int)<(↑q0:Int)->q10<=(↑s:Int)/\(↑s:Int)<(↑l.length:Int)/\∀ (x:Field),(fun (q25:Int)=>(fun (q24:Int)=>(fun (q23:Prop)=>(fun (q22:Str)=>(fun (q21:Int)=>(fun (q20:Int)=>(fun (q19:List Int)=>(fun (q18:Int)=>(fun (q17:Int)=>l[s]? = some x->I64 q17->I64 x.wire->x.n.n<(18446744073709551616:Nat)->x.b.length*(1:Nat)<=(140737488355328:Nat)->(q17=q8->q23/\∃ (s':Nat),(fun (q26:Command)=>(q11/\q12/\q15=(↑s':Int)/\q4/\q1/\q5/\q6/\q7/\q9/\q2/\q3/\q20=q26.kind/\q18=q26.client/\q24=q26.seq/\q25=q26.set/\q14.id=q26.id/\q14.n=q26.n/\q19=q26.chunks/\q22=q26.text)/\s' <= q0/\q0 - s' < q16) (bk (List.take s' l)))/\(¬q17=q8->(q17=(2:Int)->q23/\∃ (s':Nat),(fun (q27:Command)=>(q11/\q12/\q15=(↑s':Int)/\q4/\q1/\q5/\q6/\q7/\q9/\q2/\q3/\q21=q27.kind/\q20=q27.client/\q24=q27.seq/\q25=q27.set/\q14.id=q27.id/\q14.n=q27.n/\q19=q27.chunks/\q22=q27.text)/\s' <= q0/\q0 - s' < q16) (bk (List.take s' l)))/\(¬q17=(2:Int)->(q17=(3:Int)->q23/\∃ (s':Nat),(fun (q28:Command)=>(q11/\q12/\q15=(↑s':Int)/\q4/\q1/\q5/\q6/\q7/\q9/\q2/\q3/\q21=q28.kind/\q18=q28.client/\q20=q28.seq/\q25=q28.set/\q14.id=q28.id/\q14.n=q28.n/\q19=q28.chunks/\q22=q28.text)/\s' <= q0/\q0 - s' < q16) (bk (List.take s' l)))/\(¬q17=(3:Int)->(q17=(4:Int)->q23/\∃ (s':Nat),(fun (q29:Command)=>(q11/\q12/\q15=(↑s':Int)/\q4/\q1/\q5/\q6/\q7/\q9/\q2/\q3/\q21=q29.kind/\q18=q29.client/\q24=q29.seq/\q20=q29.set/\q14.id=q29.id/\q14.n=q29.n/\q19=q29.chunks/\q22=q29.text)/\s' <= q0/\q0 - s' < q16) (bk (List.take s' l)))/\(¬q17=(4:Int)->(q17=(5:Int)->q23/\∃ (s':Nat),(fun (q30:Command)=>(q11/\q12/\q15=(↑s':Int)/\q4/\q1/\q5/\q6/\q7/\q9/\q2/\q3/\q21=q30.kind/\q18=q30.client/\q24=q30.seq/\q25=q30.set/\q20=q30.id/\q14.n=q30.n/\q19=q30.chunks/\q22=q30.text)/\s' <= q0/\q0 - s' < q16) (bk (List.take s' l)))/\(¬q17=(5:Int)->(q17=(6:Int)->q23/\∃ (s':Nat),(fun (q31:Command)=>(q11/\q12/\q15=(↑s':Int)/\q4/\q1/\q5/\q6/\q7/\q9/\q2/\q3/\q21=q31.kind/\q18=q31.client/\q24=q31.seq/\q25=q31.set/\q14.id=q31.id/\q20=q31.n/\q19=q31.chunks/\q22=q31.text)/\s' <= q0/\q0 - s' < q16) (bk (List.take s' l)))/\(¬q17=(6:Int)->(q17=(7:Int)->x.b.length<=(100000:Nat)/\((eT x.b).length*(8:Nat)<=(140737488355328:Nat)->I64 (gH x.b)->q23/\∃ (s':Nat),(fun (q32:Command)=>(q11/\q12/\q15=(↑s':Int)/\q4/\q1/\q5/\q6/\q7/\q9/\q2/\q3/\q21=q32.kind/\q18=q32.client/\q24=q32.seq/\q25=q32.set/\q14.id=q32.id/\q14.n=q32.n/\eT x.b=q32.chunks/\q22=q32.text)/\s' <= q0/\q0 - s' < q16) (bk (List.take s' l))))/\(¬q17=(7:Int)->(q17=(8:Int)->q23/\∃ (s':Nat),(fun (q33:Command)=>(q11/\q12/\q15=(↑s':Int)/\q4/\q1/\q5/\q6/\q7/\q9/\q2/\q3/\q21=q33.kind/\q18=q33.client/\q24=q33.seq/\q25=q33.set/\q14.id=q33.id/\q14.n=q33.n/\q19=q33.chunks/\Str.mk x.b=q33.text)/\s' <= q0/\q0 - s' < q16) (bk (List.take s' l)))/\(¬q17=(8:Int)->q23/\∃ (s':Nat),(fun (q34:Command)=>(q11/\q12/\q15=(↑s':Int)/\q4/\q1/\q5/\q6/\q7/\q9/\q2/\q3/\q21=q34.kind/\q18=q34.client/\q24=q34.seq/\q25=q34.set/\q14.id=q34.id/\q14.n=q34.n/\q19=q34.chunks/\q22=q34.text)/\s' <= q0/\q0 - s' < q16) (bk (List.take s' l))))))))))) x.num) q14.client) q14.chunks) (eB x.n.n)) q14.kind) q14.text) (I64 q15)) q14.seq) q14.set)/\((↑q0:Int)<=(↑s:Int)->q14.kind=r0.kind/\q14.client=r0.client/\q14.seq=r0.seq/\q14.set=r0.set/\q14.id=r0.id/\q14.n=r0.n/\q14.chunks=r0.chunks/\q14.text=r0.text)) (bk (List.take s l))) ((↑s:Int)+q8)) (q0 - s)) ((↑q0:Int)=(↑q0:Int))) (bk (List.take s0 l))) l.length) (bT.client=bT.client)) (bT.chunks=bT.chunks)) (bT.text=bT.text)) (bT.kind=bT.kind)) (bT.seq=bT.seq)) (bT.set=bT.set)) (bT.id=bT.id)) (1:Int)) (bT.n=bT.n)) (0:Int)) (l=l)):=by kernel_rfl
theorem zO (l:List Field) (h0:∀ f ∈ l,f.b.length<=16384):Sat Try.prog (ah aK) 22 [.c (.fz (.nm .field) (l))] [] ⟨[∀ f ∈ l,f.b.length<=16384],[.agg (cellsOf (.nm .command) (bk l))],none,false⟩:=by
 refine aP eK (vB l) Try.func22 (by decide) (by kernel_rfl) ?_
 rw [zZ]
 (repeat' (first | with_reducible refine And.intro ?_ ?_ | with_reducible refine and_imp.2 ?_ | intro))
 all_goals try (first | (first | with_reducible rfl | with_reducible assumption | omega | (refine ag ?_ ?_ <;> omega)) | exact rfl | (have:=h0 _ (List.mem_of_getElem? (by with_reducible assumption)); omega) | (rw [ax (by with_reducible assumption),<- AL (by with_reducible assumption)] <;> first | rfl | exact (aB (by with_reducible assumption)).symm) | (rw [ax (by with_reducible assumption),<- zH (by with_reducible assumption)] <;> first | rfl | exact (aB (by with_reducible assumption)).symm) | (rw [ax (by with_reducible assumption),<- yu (by with_reducible assumption)] <;> first | rfl | exact (aB (by with_reducible assumption)).symm) | (rw [ax (by with_reducible assumption),<- yK (by with_reducible assumption)] <;> first | rfl | exact (aB (by with_reducible assumption)).symm) | (rw [ax (by with_reducible assumption),<- Ah (by with_reducible assumption)] <;> first | rfl | exact (aB (by with_reducible assumption)).symm) | (rw [ax (by with_reducible assumption),<- yC (by with_reducible assumption)] <;> first | rfl | exact (aB (by with_reducible assumption)).symm) | (rw [ax (by with_reducible assumption),<- zQ (by with_reducible assumption)] <;> first | rfl | exact (aB (by with_reducible assumption)).symm) | (rw [ax (by with_reducible assumption),<- zg (by with_reducible assumption)] <;> first | rfl | exact (aB (by with_reducible assumption)).symm) | (rw [ax (by with_reducible assumption),<- CF (by omega)] <;> first | rfl | exact (aB (by with_reducible assumption)).symm) | (rw [List.take_of_length_le (by omega)]))
 all_goals try (refine ⟨0,?_⟩; (repeat' (first | with_reducible refine And.intro ?_ ?_ | with_reducible refine and_imp.2 ?_ | intro)))
 all_goals try (first | (first | with_reducible rfl | with_reducible assumption | omega | (refine ag ?_ ?_ <;> omega)) | exact rfl | (have:=h0 _ (List.mem_of_getElem? (by with_reducible assumption)); omega) | (rw [ax (by with_reducible assumption),<- AL (by with_reducible assumption)] <;> first | rfl | exact (aB (by with_reducible assumption)).symm) | (rw [ax (by with_reducible assumption),<- zH (by with_reducible assumption)] <;> first | rfl | exact (aB (by with_reducible assumption)).symm) | (rw [ax (by with_reducible assumption),<- yu (by with_reducible assumption)] <;> first | rfl | exact (aB (by with_reducible assumption)).symm) | (rw [ax (by with_reducible assumption),<- yK (by with_reducible assumption)] <;> first | rfl | exact (aB (by with_reducible assumption)).symm) | (rw [ax (by with_reducible assumption),<- Ah (by with_reducible assumption)] <;> first | rfl | exact (aB (by with_reducible assumption)).symm) | (rw [ax (by with_reducible assumption),<- yC (by with_reducible assumption)] <;> first | rfl | exact (aB (by with_reducible assumption)).symm) | (rw [ax (by with_reducible assumption),<- zQ (by with_reducible assumption)] <;> first | rfl | exact (aB (by with_reducible assumption)).symm) | (rw [ax (by with_reducible assumption),<- zg (by with_reducible assumption)] <;> first | rfl | exact (aB (by with_reducible assumption)).symm) | (rw [ax (by with_reducible assumption),<- CF (by omega)] <;> first | rfl | exact (aB (by with_reducible assumption)).symm) | (rw [List.take_of_length_le (by omega)]))
 all_goals try (refine ⟨‹Nat› + 1,?_⟩; (repeat' (first | with_reducible refine And.intro ?_ ?_ | with_reducible refine and_imp.2 ?_ | intro)))
 all_goals (first | (first | with_reducible rfl | with_reducible assumption | omega | (refine ag ?_ ?_ <;> omega)) | exact rfl | (have:=h0 _ (List.mem_of_getElem? (by with_reducible assumption)); omega) | (rw [ax (by with_reducible assumption),<- AL (by with_reducible assumption)] <;> first | rfl | exact (aB (by with_reducible assumption)).symm) | (rw [ax (by with_reducible assumption),<- zH (by with_reducible assumption)] <;> first | rfl | exact (aB (by with_reducible assumption)).symm) | (rw [ax (by with_reducible assumption),<- yu (by with_reducible assumption)] <;> first | rfl | exact (aB (by with_reducible assumption)).symm) | (rw [ax (by with_reducible assumption),<- yK (by with_reducible assumption)] <;> first | rfl | exact (aB (by with_reducible assumption)).symm) | (rw [ax (by with_reducible assumption),<- Ah (by with_reducible assumption)] <;> first | rfl | exact (aB (by with_reducible assumption)).symm) | (rw [ax (by with_reducible assumption),<- yC (by with_reducible assumption)] <;> first | rfl | exact (aB (by with_reducible assumption)).symm) | (rw [ax (by with_reducible assumption),<- zQ (by with_reducible assumption)] <;> first | rfl | exact (aB (by with_reducible assumption)).symm) | (rw [ax (by with_reducible assumption),<- zg (by with_reducible assumption)] <;> first | rfl | exact (aB (by with_reducible assumption)).symm) | (rw [ax (by with_reducible assumption),<- CF (by omega)] <;> first | rfl | exact (aB (by with_reducible assumption)).symm) | (rw [List.take_of_length_le (by omega)]))
def tG:cA:=(cH 22 (ck (ai (kC (cL (.nm .field))) ba) bb fun (l,_) (_)=>⟨[∀ f ∈ l,f.b.length<=16384],[.agg (cellsOf (.nm .command) (bk l))],none,false⟩) (cH 20 (ck (ai (kC (cL (.nm .field))) (ai (kC cI) ba)) bb fun (l,v,_) (_)=>⟨[],[.c (.fz (.nm .field) ((bO l v))),.c (.fz (.nm .field) ((bX l v)))],none,false⟩) (cH 41 (ck (ai (kC cI) (ai (kC cI) ba)) bb fun (q,v,_) (_)=>⟨[q=1],[.c (.fz (.nm .spec) ((az v)))],none,false⟩) (cH 42 (ck (ai (kC (cL (.nm .field))) ba) bb fun (l,_) (_)=>⟨[],[.c (.int ((bl l)))],none,false⟩) (cH 40 (ck (ai (kC (cL .u8)) ba) bb fun (b,_) (_)=>⟨[],[.agg (cellsOf (.nm .field) (fu b))],none,false⟩) (cH 64 (ck (ai (kC (lS 0 0)) (ai (kC (lS 1 0)) ba)) (ec (lP 22 (gD (cL .u8) lQ)) (ec (lP 3 (gD cI lQ)) bb)) fun (_,_,_) ((b,_),(s,_),_)=>⟨[0<=s,s<=(b.length:Int),b.length*1<=140737488355328],[.c (.u64 ((U64.mk (ae (b.drop s.toNat)).1)).n),.c (.int (((ae (b.drop s.toNat)).2.2)))],some ([.box 22 ([.fz .u8 ((b))]),.box 3 ([.int ((s+((ae (b.drop s.toNat)).2.1:Nat)))])]),false⟩) pM))))))
theorem ig:aS Try.prog (ah aK) tG:=(aq (au (ab (aw bA) al) ak fun (l,_) (_) hp=>zO l (lM hp)) (aq (au (ab (aw bA) (ab (aw bh) al)) ak fun (l,v,_) (_) _=>xa l v ) (aq (au (ab (aw bh) (ab (aw bh) al)) ak fun (q,v,_) (_) hp=>A_ q v (lM hp)) (aq (au (ab (aw bA) al) ak fun (l,_) (_) _=>AK l ) (aq (au (ab (aw bA) al) ak fun (b,_) (_) _=>ye b ) (aq (au (ab (aw dM) (ab (aw dM) al)) (bY (dX (dL bA dW)) (bY (dX (dL bh dW)) ak)) fun (_,_,_) ((b,_),(s,_),_) hp=>Aw b s (lM hp) (lM (ni hp)) (lM (ni (ni hp)))) eK))))))
end Go.Proofs.Ytladifkbefehdaa
namespace Go.Proofs.Ytladifkbefehdaa
open Go.RowKit
theorem Ak (k:Int) (n:Int) (r0:List Field):DH aK tG [] Try.f60 [.c (.int (k)),.c (.int (n)),.c (.ptr 0 0)] [.box 28 ([.em true])] [] [.box 28 ([.own 1]),.row 58 (.nm .field) (r0)]=(I64 k->I64 n->(¬n=(0:Int)->(0:Int)<=n/\[Field.mk k (0:Int) (U64.mk n.toNat) []].length*(48:Nat)<=(140737488355328:Nat)/\[Field.mk k (0:Int) (U64.mk n.toNat) []]=r0)/\(n=(0:Int)->r0=[])):=by kernel_rfl
theorem yo (k:Int) (n:Int) (h0:0<=n):Sat Try.prog (ah aK) 60 [.c (.int (k)),.c (.int (n)),.c (.ptr 0 0)] [.box 28 ([.em true])] ⟨[0<=n],[],some ([.box 28 ([.own 1]),.row 58 (.nm .field) ((eD k n))]),false⟩:=by
 refine oB ig [] Try.func60 (by decide) (by kernel_rfl) ?_
 rw [Ak]
 (repeat' (first | with_reducible refine And.intro ?_ ?_ | with_reducible refine and_imp.2 ?_ | intro))
 all_goals (first | (first | with_reducible rfl | with_reducible assumption | omega | (refine ag ?_ ?_ <;> omega)) | exact (pt (by with_reducible assumption)) | exact (pX (by with_reducible assumption)) | exact (px (by with_reducible assumption)) | exact (pb (by omega)) | exact (pt (xs:=[]) (by with_reducible assumption)) | exact (pX (xs:=[]) (by with_reducible assumption)).symm | exact (px (xs:=[]) (by with_reducible assumption)) | exact (pb (xs:=[]) (by omega)).symm | (simp only [List.length_cons,List.length_nil]; omega) | decide)
theorem AI (k:Int) (n:Int) (xs:List Field) (r0:List Field):DH aK tG [] Try.f60 [.c (.int (k)),.c (.int (n)),.c (.ptr 0 0)] [.box 28 ([.own 1]),.row 58 (.nm .field) (xs)] [] [.box 28 ([.own 1]),.row 58 (.nm .field) (r0)]=(I64 k->I64 n->(¬n=(0:Int)->(0:Int)<=n/\(xs.length+[Field.mk k (0:Int) (U64.mk n.toNat) []].length)*(48:Nat)<=(140737488355328:Nat)/\xs++[Field.mk k (0:Int) (U64.mk n.toNat) []]=r0)/\(n=(0:Int)->xs=r0)):=by kernel_rfl
theorem zT (k:Int) (n:Int) (xs:List Field) (h0:0<=n) (h1:xs.length<=1000):Sat Try.prog (ah aK) 60 [.c (.int (k)),.c (.int (n)),.c (.ptr 0 0)] [.box 28 ([.own 1]),.row 58 (.nm .field) (xs)] ⟨[0<=n,xs.length<=1000],[],some ([.box 28 ([.own 1]),.row 58 (.nm .field) ((xs++eD k n))]),false⟩:=by
 refine oB ig [] Try.func60 (by decide) (by kernel_rfl) ?_
 rw [AI]
 (repeat' (first | with_reducible refine And.intro ?_ ?_ | with_reducible refine and_imp.2 ?_ | intro))
 all_goals (first | (first | with_reducible rfl | with_reducible assumption | omega | (refine ag ?_ ?_ <;> omega)) | exact (pt (by with_reducible assumption)) | exact (pX (by with_reducible assumption)) | exact (px (by with_reducible assumption)) | exact (pb (by omega)) | exact (pt (xs:=[]) (by with_reducible assumption)) | exact (pX (xs:=[]) (by with_reducible assumption)).symm | exact (px (xs:=[]) (by with_reducible assumption)) | exact (pb (xs:=[]) (by omega)).symm | (simp only [List.length_cons,List.length_nil]; omega) | decide)
theorem yv (k:Int) (b:List UInt8) (r0:List Field):DH aK tG [] Try.f61 [.c (.int (k)),.c (.fz .u8 (b)),.c (.ptr 0 0)] [.box 28 ([.em true])] [] [.box 28 ([.own 1]),.row 58 (.nm .field) (r0)]=(I64 k->b.length*(1:Nat)<=(140737488355328:Nat)->((0:Int)<(↑b.length:Int)->[Field.mk k (2:Int) (U64.mk (0:Nat)) b].length*(48:Nat)<=(140737488355328:Nat)/\[Field.mk k (2:Int) (U64.mk (0:Nat)) b]=r0)/\((↑b.length:Int)<=(0:Int)->r0=[])):=by kernel_rfl
theorem yT (k:Int) (b:List UInt8):Sat Try.prog (ah aK) 61 [.c (.int (k)),.c (.fz .u8 (b)),.c (.ptr 0 0)] [.box 28 ([.em true])] ⟨[],[],some ([.box 28 ([.own 1]),.row 58 (.nm .field) ((hY k b))]),false⟩:=by
 refine oB ig [] Try.func61 (by decide) (by kernel_rfl) ?_
 rw [yv]
 (repeat' (first | with_reducible refine And.intro ?_ ?_ | with_reducible refine and_imp.2 ?_ | intro))
 all_goals (first | (first | with_reducible rfl | with_reducible assumption | omega | (refine ag ?_ ?_ <;> omega)) | exact (pt (by with_reducible assumption)) | exact (pX (by with_reducible assumption)) | exact (px (by with_reducible assumption)) | exact (pb (by omega)) | exact (pt (xs:=[]) (by with_reducible assumption)) | exact (pX (xs:=[]) (by with_reducible assumption)).symm | exact (px (xs:=[]) (by with_reducible assumption)) | exact (pb (xs:=[]) (by omega)).symm | (simp only [List.length_cons,List.length_nil]; omega) | decide)
theorem zo (k:Int) (b:List UInt8) (xs:List Field) (r0:List Field):DH aK tG [] Try.f61 [.c (.int (k)),.c (.fz .u8 (b)),.c (.ptr 0 0)] [.box 28 ([.own 1]),.row 58 (.nm .field) (xs)] [] [.box 28 ([.own 1]),.row 58 (.nm .field) (r0)]=(I64 k->b.length*(1:Nat)<=(140737488355328:Nat)->((0:Int)<(↑b.length:Int)->(xs.length+[Field.mk k (2:Int) (U64.mk (0:Nat)) b].length)*(48:Nat)<=(140737488355328:Nat)/\xs++[Field.mk k (2:Int) (U64.mk (0:Nat)) b]=r0)/\((↑b.length:Int)<=(0:Int)->xs=r0)):=by kernel_rfl
theorem zj (k:Int) (b:List UInt8) (xs:List Field) (h0:xs.length<=1000):Sat Try.prog (ah aK) 61 [.c (.int (k)),.c (.fz .u8 (b)),.c (.ptr 0 0)] [.box 28 ([.own 1]),.row 58 (.nm .field) (xs)] ⟨[xs.length<=1000],[],some ([.box 28 ([.own 1]),.row 58 (.nm .field) ((xs++hY k b))]),false⟩:=by
 refine oB ig [] Try.func61 (by decide) (by kernel_rfl) ?_
 rw [zo]
 (repeat' (first | with_reducible refine And.intro ?_ ?_ | with_reducible refine and_imp.2 ?_ | intro))
 all_goals (first | (first | with_reducible rfl | with_reducible assumption | omega | (refine ag ?_ ?_ <;> omega)) | exact (pt (by with_reducible assumption)) | exact (pX (by with_reducible assumption)) | exact (px (by with_reducible assumption)) | exact (pb (by omega)) | exact (pt (xs:=[]) (by with_reducible assumption)) | exact (pX (xs:=[]) (by with_reducible assumption)).symm | exact (px (xs:=[]) (by with_reducible assumption)) | exact (pb (xs:=[]) (by omega)).symm | (simp only [List.length_cons,List.length_nil]; omega) | decide)
def wD:cA:=(cH 61 (ck (ai (kC cI) (ai (kC (cL .u8)) (ai (kC (lS 0 0)) ba))) (ec (lP 28 (gD (vS 1) lQ)) (ec (uA 58 (.nm .field)) bb)) fun (k,b,_,_) ((_,_),xs,_)=>⟨[xs.length<=1000],[],some ([.box 28 ([.own 1]),.row 58 (.nm .field) ((xs++hY k b))]),false⟩) (cH 61 (ck (ai (kC cI) (ai (kC (cL .u8)) (ai (kC (lS 0 0)) ba))) (ec (lP 28 (gD (Ff true) lQ)) bb) fun (k,b,_,_) ((_,_),_)=>⟨[],[],some ([.box 28 ([.own 1]),.row 58 (.nm .field) ((hY k b))]),false⟩) (cH 60 (ck (ai (kC cI) (ai (kC cI) (ai (kC (lS 0 0)) ba))) (ec (lP 28 (gD (vS 1) lQ)) (ec (uA 58 (.nm .field)) bb)) fun (k,n,_,_) ((_,_),xs,_)=>⟨[0<=n,xs.length<=1000],[],some ([.box 28 ([.own 1]),.row 58 (.nm .field) ((xs++eD k n))]),false⟩) (cH 60 (ck (ai (kC cI) (ai (kC cI) (ai (kC (lS 0 0)) ba))) (ec (lP 28 (gD (Ff true) lQ)) bb) fun (k,n,_,_) ((_,_),_)=>⟨[0<=n],[],some ([.box 28 ([.own 1]),.row 58 (.nm .field) ((eD k n))]),false⟩) tG))))
theorem pV:aS Try.prog (ah aK) wD:=(aq (au (ab (aw bh) (ab (aw bA) (ab (aw dM) al))) (bY (dX (dL nj dW)) (bY nD ak)) fun (k,b,_,_) ((_,_),xs,_) hp=>zj k b xs (lM hp)) (aq (au (ab (aw bh) (ab (aw bA) (ab (aw dM) al))) (bY (dX (dL vh dW)) ak) fun (k,b,_,_) ((_,_),_) _=>yT k b ) (aq (au (ab (aw bh) (ab (aw bh) (ab (aw dM) al))) (bY (dX (dL nj dW)) (bY nD ak)) fun (k,n,_,_) ((_,_),xs,_) hp=>zT k n xs (lM hp) (lM (ni hp))) (aq (au (ab (aw bh) (ab (aw bh) (ab (aw dM) al))) (bY (dX (dL vh dW)) ak) fun (k,n,_,_) ((_,_),_) hp=>yo k n (lM hp)) ig))))
end Go.Proofs.Ytladifkbefehdaa
namespace Go.Proofs.Ytladifkbefehdaa
open Go.RowKit
theorem tg (c:Command) (v:Int) (r0:List Field):B_ aK wD [] Try.f35 [.agg (cellsOf (.nm .command) c),.c (.int (v))] [] [.c (.own 0)] [.row 58 (.nm .field) (r0)]=((fun (q6:Int)=>(fun (q5:List (den (Sh.nm NT.field)))=>(fun (q4:Nat)=>(fun (q3:List Field)=>(fun (q2:List Field)=>(fun (q1:List (den (Sh.nm NT.field)))=>(fun (q0:List (den (Sh.nm NT.field)))=>I64 c.kind->I64 c.client->I64 c.seq->I64 c.set->I64 c.id->I64 c.n->c.chunks.length*(8:Nat)<=(140737488355328:Nat)->c.text.b.length<=(140737488355328:Nat)->I64 v->q6<=c.kind/\q6<=c.client/\(eD (1:Int) c.kind).length<=q4/\q6<=c.seq/\q5.length<=q4/\q6<=c.set/\q1.length<=q4/\q6<=c.id/\(q1++eD (4:Int) c.set).length<=q4/\q6<=c.n/\q0.length<=q4/\((bj c.chunks).length*(1:Nat)<=(140737488355328:Nat)->I64 (dm c.chunks)->(q0++q3).length<=q4/\((3:Int)<=v->(q0++q3++q2).length<=q4/\q0++q3++q2++hY (8:Int) c.text.b=r0)/\(v<(3:Int)->q0++q3++q2=r0))) (q1++eD (4:Int) c.set++eD (5:Int) c.id)) (q5++eD (3:Int) c.seq)) (hY (7:Int) (bj c.chunks))) (eD (6:Int) c.n)) (1000:Nat)) (eD (1:Int) c.kind++eD (2:Int) c.client)) (0:Int)):=by kernel_rfl
theorem t_ (c:Command) (v:Int) (h0:0<=c.kind) (h1:0<=c.client) (h2:0<=c.seq) (h3:0<=c.set) (h4:0<=c.id) (h5:0<=c.n):Sat Try.prog (ah aK) 35 [.agg (cellsOf (.nm .command) c),.c (.int (v))] [] ⟨[0<=c.kind,0<=c.client,0<=c.seq,0<=c.set,0<=c.id,0<=c.n],[.c (.own 0)],some ([.row 58 (.nm .field) ((av c v))]),true⟩:=by
 refine mj pV [] Try.func35 (by decide) (by kernel_rfl) ?_
 rw [tg]
 (repeat' (first | with_reducible refine And.intro ?_ ?_ | with_reducible refine and_imp.2 ?_ | intro))
 all_goals (first | (first | with_reducible rfl | with_reducible assumption | omega | (refine ag ?_ ?_ <;> omega)) | (rw [av,if_pos (by omega)]; rfl) | (rw [av,if_neg (by omega)]; rfl) | (have h1:=de 1 c.kind; have h2:=de 2 c.client; have h3:=de 3 c.seq; have h4:=de 4 c.set; have h5:=de 5 c.id; have h6:=de 6 c.n; have h7:=qI 7 (bj c.chunks); (try simp only [List.length_append]); omega))
def oG:cA:=(cH 35 (ck (ai (kT (.nm .command)) (ai (kC cI) ba)) bb fun (c,v,_) (_)=>⟨[0<=c.kind,0<=c.client,0<=c.seq,0<=c.set,0<=c.id,0<=c.n],[.c (.own 0)],some ([.row 58 (.nm .field) ((av c v))]),true⟩) wD)
theorem hL:aS Try.prog (ah aK) oG:=(aq (au (ab cE (ab (aw bh) al)) ak fun (c,v,_) (_) hp=>t_ c v (lM hp) (lM (ni hp)) (lM (ni (ni hp))) (lM (ni (ni (ni hp)))) (lM (ni (ni (ni (ni hp))))) (lM (ni (ni (ni (ni (ni hp))))))) pV)
end Go.Proofs.Ytladifkbefehdaa
namespace Go.Proofs.Ytladifkbefehdaa
open Go.RowKit
theorem DZ {b:List UInt8} (h:(ay b).e=0) (h2:(ae (b.drop (ay b).k)).2.2=0) (h3:¬ (ay b).wire=0) (h4:(ae (b.drop (ay b).k)).1<=16384) (h5:((b.length:Nat):Int) - (((ay b).k:Int)+((ae (b.drop (ay b).k)).2.1:Nat))<eB (ae (b.drop (ay b).k)).1):(0:Int)=((aH b).1:Nat)/\2=(aH b).2:=by
 rw [g_ (by omega)] at h5
 rw [GB h h2 h3 (by omega) (by omega)]; exact ⟨rfl,rfl⟩
theorem Ej {b:List UInt8} (h:(ay b).e=0) (h2:(ae (b.drop (ay b).k)).2.2=0) (h3:¬ (ay b).wire=0) (h4:(ae (b.drop (ay b).k)).1<=16384) (h5:eB (ae (b.drop (ay b).k)).1<=((b.length:Nat):Int) - (((ay b).k:Int)+((ae (b.drop (ay b).k)).2.1:Nat))):((ay b).k:Int)+((ae (b.drop (ay b).k)).2.1:Nat)+eB (ae (b.drop (ay b).k)).1=((aH b).1:Nat)/\0=(aH b).2:=by
 rw [g_ (by omega)] at h5 ⊢
 rw [Et h h2 h3 (by omega) (by omega)]; exact ⟨rfl,rfl⟩
def Bw (l:List Field):List (Nat × LI):=[(6,{ σ:=Nat,F:=fun k=>([(5,one (.own 0)),(13,one (.fz (.nm .field) (l))),(14,one (.int (l).length)),(15,one (.int k))],[.row 5 .u8 ((((l.take k).map aN).flatten))]),J:=fun k=>k<=l.length,μ:=fun k=>l.length - k })]
def Bd (q:Int) (v:Int):List (Nat × LI):=[(3,{ σ:=Nat,F:=fun k=>([(5,one (.int (((az v).take k).foldl (fun t s=>max t s.num) 0))),(10,one (.fz (.nm .spec) (az v))),(11,one (.int (az v).length)),(12,one (.int k))],[]),J:=fun k=>k<=(az v).length,μ:=fun k=>(az v).length - k })]
theorem zp (b:List UInt8) (r0:Int) (r1:Int):dh aK oG [] Try.f39 [.c (.fz .u8 (b))] [] [.c (.int (r0)),.c (.int (r1))]=((fun (q5:Int)=>(fun (q4:Prop)=>(fun (q3:TagR)=>(fun (q2:Int)=>(fun (q1:Int)=>(fun (q0:Nat × Nat × Int)=>q4->I64 q3.num->I64 q3.wire->I64 q1->I64 q3.e->(¬q3.e=q2->q2=r0/\q3.e=r1)/\(q3.e=q2->q2<=q1/\q1<=q5/\q4/\(q0.fst<(18446744073709551616:Nat)->I64 q0.snd.snd->(¬q0.snd.snd=q2->q2=r0/\q0.snd.snd=r1)/\(q0.snd.snd=q2->(q3.wire=q2->q1+(↑q0.snd.fst:Int)=r0/\q2=r1)/\(¬q3.wire=q2->((↑(16384:Nat):Int)<(↑q0.fst:Int)->q2=r0/\(4:Int)=r1)/\((↑q0.fst:Int)<=(↑(16384:Nat):Int)->I64 (q5 - (q1+(↑q0.snd.fst:Int)))/\(q5 - (q1+(↑q0.snd.fst:Int))<eB q0.fst->q2=r0/\(2:Int)=r1)/\(eB q0.fst<=q5 - (q1+(↑q0.snd.fst:Int))->I64 (q1+(↑q0.snd.fst:Int)+eB q0.fst)/\q1+(↑q0.snd.fst:Int)+eB q0.fst=r0/\q2=r1))))))) (ae (List.drop q3.k b))) (↑q3.k:Int)) (0:Int)) (ay b)) (b.length*(1:Nat)<=(140737488355328:Nat))) (↑b.length:Int)):=by kernel_rfl
theorem yr (b:List UInt8):Sat Try.prog (ah aK) 39 [.c (.fz .u8 (b))] [] ⟨[],[.c (.int ((((aH b).1:Nat)))),.c (.int (((aH b).2)))],none,false⟩:=by
 refine aP hL [] Try.func39 (by decide) (by kernel_rfl) ?_
 rw [zp]
 (repeat' (first | with_reducible refine And.intro ?_ ?_ | with_reducible refine and_imp.2 ?_ | intro))
 all_goals (first | (first | with_reducible rfl | with_reducible assumption | omega | (refine ag ?_ ?_ <;> omega)) | (rw [FE (by with_reducible assumption)] <;> rfl) | (rw [FV (by with_reducible assumption) (by with_reducible assumption)] <;> rfl) | (rw [DQ (by with_reducible assumption) (by with_reducible assumption) (by with_reducible assumption)] <;> rfl) | (rw [FD (by with_reducible assumption) (by with_reducible assumption) (by with_reducible assumption) (by omega)] <;> rfl) | exact (DZ (by with_reducible assumption) (by with_reducible assumption) (by with_reducible assumption) (by omega) (by with_reducible assumption)).1 | exact (DZ (by with_reducible assumption) (by with_reducible assumption) (by with_reducible assumption) (by omega) (by with_reducible assumption)).2 | exact (Ej (by with_reducible assumption) (by with_reducible assumption) (by with_reducible assumption) (by omega) (by with_reducible assumption)).1 | exact (Ej (by with_reducible assumption) (by with_reducible assumption) (by with_reducible assumption) (by omega) (by with_reducible assumption)).2 | (have h1:=jR b; have h2:=gT b (ay b).k; first | omega | (refine ag ?_ ?_ <;> omega)) | (have h1:=jR b; have h2:=gT b (ay b).k; have h3:=g_ (m:=(ae (b.drop (ay b).k)).1) (by omega); first | omega | (refine ag ?_ ?_ <;> omega)))
theorem CY (l:List Field) (r0:Int) (r1:List UInt8):B_ aK oG (Bw l) Try.f34 [.c (.fz (.nm .field) (l))] [] [.c (.own 0),.c (.int (r0))] [.row 5 .u8 (r1)]=((fun (q0:Nat)=>l.length*(48:Nat)<=(140737488355328:Nat)->I64 (bl l)->(¬bl l=(0:Int)->bl l=r0/\r1=[])/\(bl l=(0:Int)->∃ (s0:Nat),(l=l/\(↑l.length:Int)=(↑q0:Int)/\(0:Int)=(↑s0:Int)/\(List.map aN (List.take s0 l)).flatten=[])/\s0<=q0/\∀ (s:Nat),(fun (q1:List UInt8)=>s<=q0->((↑s:Int)<(↑q0:Int)->(0:Int)<=(↑s:Int)/\(↑s:Int)<(↑l.length:Int)/\∀ (x:Field),l[s]? = some x->I64 x.num->I64 x.wire->x.n.n<(18446744073709551616:Nat)->x.b.length*(1:Nat)<=(140737488355328:Nat)->x.b.length<=(16384:Nat)/\(q1.length+(aN x).length)*(1:Nat)<=(140737488355328:Nat)/\I64 ((↑s:Int)+(1:Int))/\∃ (s':Nat),(l=l/\(↑q0:Int)=(↑q0:Int)/\(↑s:Int)+(1:Int)=(↑s':Int)/\q1++aN x=(List.map aN (List.take s' l)).flatten)/\s' <= q0/\q0 - s' < q0 - s)/\((↑q0:Int)<=(↑s:Int)->(0:Int)=r0/\q1=r1)) (List.map aN (List.take s l)).flatten)) l.length):=by kernel_rfl
theorem Cy (l:List Field):Sat Try.prog (ah aK) 34 [.c (.fz (.nm .field) (l))] [] ⟨[],[.c (.own 0),.c (.int ((bl l)))],some ([.row 5 .u8 ((dO l))]),true⟩:=by
 refine mj hL (Bw l) Try.func34 (by decide) (by kernel_rfl) ?_
 rw [CY]
 (repeat' (first | with_reducible refine And.intro ?_ ?_ | with_reducible refine and_imp.2 ?_ | intro))
 all_goals try (first | (first | with_reducible rfl | with_reducible assumption | omega | (refine ag ?_ ?_ <;> omega)) | exact rfl | exact (qw (by with_reducible assumption)).symm | exact (Eq.symm (by with_reducible assumption)) | exact (iN (by with_reducible assumption)) | exact (eH (by with_reducible assumption) (List.mem_of_getElem? (by with_reducible assumption))) | exact (mZ (by with_reducible assumption) (by omega)) | (have h1:=fD (k:=‹Nat›) (show bl l=0 by with_reducible assumption); have h2:=cO (f:=‹Field›) (eH (show bl l=0 by with_reducible assumption) (List.mem_of_getElem? (by with_reducible assumption))) (by with_reducible assumption); omega))
 all_goals try (refine ⟨0,?_⟩; (repeat' (first | with_reducible refine And.intro ?_ ?_ | with_reducible refine and_imp.2 ?_ | intro)))
 all_goals try (first | (first | with_reducible rfl | with_reducible assumption | omega | (refine ag ?_ ?_ <;> omega)) | exact rfl | exact (qw (by with_reducible assumption)).symm | exact (Eq.symm (by with_reducible assumption)) | exact (iN (by with_reducible assumption)) | exact (eH (by with_reducible assumption) (List.mem_of_getElem? (by with_reducible assumption))) | exact (mZ (by with_reducible assumption) (by omega)) | (have h1:=fD (k:=‹Nat›) (show bl l=0 by with_reducible assumption); have h2:=cO (f:=‹Field›) (eH (show bl l=0 by with_reducible assumption) (List.mem_of_getElem? (by with_reducible assumption))) (by with_reducible assumption); omega))
 all_goals try (refine ⟨‹Nat› + 1,?_⟩; (repeat' (first | with_reducible refine And.intro ?_ ?_ | with_reducible refine and_imp.2 ?_ | intro)))
 all_goals (first | (first | with_reducible rfl | with_reducible assumption | omega | (refine ag ?_ ?_ <;> omega)) | exact rfl | exact (qw (by with_reducible assumption)).symm | exact (Eq.symm (by with_reducible assumption)) | exact (iN (by with_reducible assumption)) | exact (eH (by with_reducible assumption) (List.mem_of_getElem? (by with_reducible assumption))) | exact (mZ (by with_reducible assumption) (by omega)) | (have h1:=fD (k:=‹Nat›) (show bl l=0 by with_reducible assumption); have h2:=cO (f:=‹Field›) (eH (show bl l=0 by with_reducible assumption) (List.mem_of_getElem? (by with_reducible assumption))) (by with_reducible assumption); omega))
theorem BQ (q:Int) (v:Int) (r0:Int):dh aK oG (Bd q v) Try.f21 [.c (.int (q)),.c (.int (v))] [] [.c (.int (r0))]=((fun (q1:Int)=>(fun (q0:List Spec)=>I64 q->I64 v->q=(1:Int)/\(q0.length*(32:Nat)<=(140737488355328:Nat)->∃ (s0:Nat),(fun (q2:Nat)=>(q1=List.foldl (fun (t:Int) (s:Spec)=>max t s.num) q1 (List.take s0 q0)/\q0=q0/\(↑q0.length:Int)=(↑q2:Int)/\q1=(↑s0:Int))/\s0<=q2/\∀ (s:Nat),(fun (q3:Int)=>s<=q2->((↑s:Int)<(↑q2:Int)->q1<=(↑s:Int)/\(↑s:Int)<(↑q0.length:Int)/\∀ (x:Spec),q0[s]? = some x->I64 x.num->I64 x.wire->I64 x.since->I64 ((↑s:Int)+(1:Int))/\∃ (s':Nat),(max q3 x.num=List.foldl (fun (t:Int) (s:Spec)=>max t s.num) q1 (List.take s' q0)/\q0=q0/\(↑q2:Int)=(↑q2:Int)/\(↑s:Int)+(1:Int)=(↑s':Int))/\s' <= q2/\q2 - s' < q2 - s)/\((↑q2:Int)<=(↑s:Int)->q3=r0)) (List.foldl (fun (t:Int) (s:Spec)=>max t s.num) q1 (List.take s q0))) q0.length)) (az v)) (0:Int)):=by kernel_rfl
theorem Dj (q:Int) (v:Int) (h0:q=1):Sat Try.prog (ah aK) 21 [.c (.int (q)),.c (.int (v))] [] ⟨[q=1],[.c (.int ((aT v)))],none,false⟩:=by
 refine aP hL (Bd q v) Try.func21 (by decide) (by kernel_rfl) ?_
 rw [BQ]
 (repeat' (first | with_reducible refine And.intro ?_ ?_ | with_reducible refine and_imp.2 ?_ | intro))
 all_goals try (first | (first | with_reducible rfl | with_reducible assumption | omega | (refine ag ?_ ?_ <;> omega)) | exact rfl | exact (ki (by with_reducible assumption)) | (rw [aT,List.take_of_length_le (by omega)]))
 all_goals try (refine ⟨0,?_⟩; (repeat' (first | with_reducible refine And.intro ?_ ?_ | with_reducible refine and_imp.2 ?_ | intro)))
 all_goals try (first | (first | with_reducible rfl | with_reducible assumption | omega | (refine ag ?_ ?_ <;> omega)) | exact rfl | exact (ki (by with_reducible assumption)) | (rw [aT,List.take_of_length_le (by omega)]))
 all_goals try (refine ⟨‹Nat› + 1,?_⟩; (repeat' (first | with_reducible refine And.intro ?_ ?_ | with_reducible refine and_imp.2 ?_ | intro)))
 all_goals (first | (first | with_reducible rfl | with_reducible assumption | omega | (refine ag ?_ ?_ <;> omega)) | exact rfl | exact (ki (by with_reducible assumption)) | (rw [aT,List.take_of_length_le (by omega)]))
def wC:cA:=(cH 21 (ck (ai (kC cI) (ai (kC cI) ba)) bb fun (q,v,_) (_)=>⟨[q=1],[.c (.int ((aT v)))],none,false⟩) (cH 34 (ck (ai (kC (cL (.nm .field))) ba) bb fun (l,_) (_)=>⟨[],[.c (.own 0),.c (.int ((bl l)))],some ([.row 5 .u8 ((dO l))]),true⟩) (cH 39 (ck (ai (kC (cL .u8)) ba) bb fun (b,_) (_)=>⟨[],[.c (.int ((((aH b).1:Nat)))),.c (.int (((aH b).2)))],none,false⟩) oG)))
theorem jX:aS Try.prog (ah aK) wC:=(aq (au (ab (aw bh) (ab (aw bh) al)) ak fun (q,v,_) (_) hp=>Dj q v (lM hp)) (aq (au (ab (aw bA) al) ak fun (l,_) (_) _=>Cy l ) (aq (au (ab (aw bA) al) ak fun (b,_) (_) _=>yr b ) hL)))
end Go.Proofs.Ytladifkbefehdaa
namespace Go.Proofs.Ytladifkbefehdaa
open Go.RowKit
structure Wq (p:Prop):Prop where
 h:p
def cu (l:List Field):Int->Option Int:=fun q=>if bJ l q=0 then none else some ((bJ l q:Nat):Int)
def om (rest:List Field) (v:Int) (k:Nat):Prop:=∀ j y,j<k->rest[j]? = some y->¬ y.num<=aT v
theorem BN {xs:List Field} {f:Field} (h:(xs.length:Int)=0):true=cz xs f:=by
 unfold cz; rw [List.getElem?_eq_none (by omega)]
theorem BL {xs:List Field} {f:Field} (h:¬ (xs.length:Int)=0):db (xs.getD ((xs.length:Int) - 1).toNat (aC (.nm .field))) f=cz xs f:=by
 unfold cz
 rw [show ((xs.length:Int) - 1).toNat=xs.length - 1 by omega,List.getD_eq_getElem?_getD,List.getElem?_eq_getElem (by omega)]; rfl
theorem eh (l:List Field) (q:Int):(cu l q).getD (aC .int)=((bJ l q:Nat):Int):=by
 unfold cu
 by_cases h:bJ l q=0
 ·rw [if_pos h,h]; rfl
 ·rw [if_neg h]; rfl
theorem fB {l:List Field}:(fun _=>none)=cu (l.take 0):=rfl
theorem fk {l:List Field} {k:Nat} (h:l.length<=k):cu (l.take k)=cu l:=by rw [List.take_of_length_le h]
theorem dN {l:List Field} {k:Nat} {x:Field} (hx:l[k]? = some x):(fun j=>if j=x.num then some ((cu (l.take k) x.num).getD (aC .int)+1) else cu (l.take k) j)=cu (l.take (k+1)):=by
 funext j
 have h:=xg hx j
 by_cases hj:j=x.num
 ·rw [if_pos hj] at h ⊢
  rw [eh]; unfold cu; rw [h,if_neg (by omega)]; rfl
 ·rw [if_neg hj] at h ⊢
  unfold cu; rw [h]
theorem fV {l:List Field} {k:Nat} {x:Field} (hx:l[k]? = some x):x=l.getD k (aC (.nm .field)):=by rw [List.getD_eq_getElem?_getD,hx]; rfl
theorem tA {l:List Field} {k:Nat} (h:k<l.length):l[k]? = some (l.getD k (aC (.nm .field))):=by
 rw [List.getD_eq_getElem?_getD,List.getElem?_eq_getElem h]; rfl
theorem pB {l:List Field} {ss:List Spec} {x:Field} {y:Spec} {m:Nat} (h:Wq (xw ss x ((bJ l x.num:Nat):Int) m)) (hy:ss[m]? = some y) (hn:¬ y.num=x.num\/tn x y ((cu l x.num).getD (aC .int))=true):Wq (xw ss x ((bJ l x.num:Nat):Int) (m+1)):=
 ⟨xj h.h hy fun e=>by rw [eh] at hn; exact hn.resolve_left (fun h=>h e)⟩
theorem pS {l:List Field} {ss:List Spec} {k m:Nat} (h:Wq (lN l ss k)) (hk:k<l.length) (hi:Wq (xw ss (l.getD k (aC (.nm .field))) ((bJ (l.take (k+1)) (l.getD k (aC (.nm .field))).num:Nat):Int) m)) (hm:(ss.length:Int)<=(m:Int)):Wq (lN l ss (k+1)):=
 ⟨xM h.h (tA hk) hi.h (by omega) rfl⟩
theorem pQ {l:List Field} {ss:List Spec} {k:Nat} (h:Wq (lN l ss k)) (hk:l.length<=k):Wq (lN l ss l.length):=⟨fun j x hj=>h.h j x (by omega)⟩
theorem pw {l:List Field} {v:Int} {m:Nat} {y:Spec} (hy:(az v)[m]? = some y) (hn:y.need=true) (h0:(cu l y.num).getD (aC .int)=0):¬ pC l v:=AM hy ⟨hn,by rw [eh] at h0; exact h0⟩ rfl
theorem pE {l:List Field} {ss:List Spec} {m:Nat} {y:Spec} (h:Wq (ur l ss m)) (hy:ss[m]? = some y) (hn:y.need=false\/¬ (cu l y.num).getD (aC .int)=0):Wq (ur l ss (m+1)):=
 ⟨vM h.h hy fun ha=>by
  rw [eh] at hn
  rcases hn with hn | hn
  ·rw [ha] at hn; cases hn
  ·omega⟩
theorem pL {l:List Field} {v:Int} {k:Nat} (hA:Wq (lN l (az v) l.length)) (hB:Wq (ur l (az v) k)) (hk:(az v).length<=k):pC l v:=zD hA.h (Nat.le_refl _) hB.h hk
theorem vo {rest:List Field} {v:Int}:om rest v 0:=fun j y h=>by omega
theorem uK {rest:List Field} {v:Int} {k:Nat} {x:Field} (h:Wq (om rest v k)) (hx:rest[k]? = some x) (hn:¬ x.num<=aT v):Wq (om rest v (k+1)):=⟨tf h.h hx hn⟩
theorem DM {c:Command} {rest:List Field} {v:Int} (h:bf v=false):bG c rest v=1:=Gc (by show (!(bf v))=true; rw [h]; rfl)
theorem DN {c:Command} {rest:List Field} {v:Int} (h:bf v=true) (h1:bS c v=false) (h2:¬ cw c v=0):bG c rest v=cw c v:=Gn (by show (!(bf v))=false; rw [h]; rfl) h1 h2
theorem DK {c:Command} {rest:List Field} {v:Int} {k:Nat} {x:Field} (h:bf v=true) (h1:bS c v=true\/cw c v=0) (hx:rest[k]? = some x) (hn:x.num<=aT v):bG c rest v=6:=FJ (by show (!(bf v))=false; rw [h]; rfl) h1 hx hn
theorem DG {c:Command} {rest:List Field} {v:Int} {k:Nat} (h:bf v=true) (h1:bS c v=true\/cw c v=0) (ht:Wq (om rest v k)) (hk:rest.length<=k):bG c rest v=0:=EU (by show (!(bf v))=false; rw [h]; rfl) h1 ht.h hk
def sc (q:Int) (v:Int) (l:List Field):List (Nat × LI):=[(9,{ σ:=Nat,F:=fun k=>([(7,one (.fz (.nm .spec) (az v))),(9,one (.mq 0)),(28,one (.fz (.nm .field) (l))),(29,one (.int (l).length)),(30,one (.int k))],[.mapo .int (cu (l.take k))]),J:=fun k=>k<=l.length/\Wq (lN l (az v) k),μ:=fun k=>(l).length - k }),(13,{ σ:=Nat × Nat,F:=fun q=>([(7,one (.fz (.nm .spec) (az v))),(9,one (.mq 0)),(11,one (.ptr 1 0)),(28,one (.fz (.nm .field) (l))),(29,one (.int (l).length)),(30,one (.int q.1)),(39,one (.fz (.nm .spec) (az v))),(40,one (.int (az v).length)),(41,one (.int q.2))],[.mapo .int (cu (l.take (q.1+1))),.box 58 (cellsOf (.nm .field) (((l.getD q.1 (aC (.nm .field))))))]),J:=fun q=>q.1<l.length/\q.2<=(az v).length/\Wq (lN l (az v) q.1)/\Wq (xw (az v) (l.getD q.1 (aC (.nm .field))) ((bJ (l.take (q.1+1)) (l.getD q.1 (aC (.nm .field))).num:Nat):Int) q.2),μ:=fun q=>(az v).length - q.2,R:=some fun q0 q=>q.1=q0.1 }),(20,{ σ:=Nat,F:=fun k=>([(9,one (.mq 0)),(62,one (.fz (.nm .spec) (az v))),(63,one (.int (az v).length)),(64,one (.int k))],[.mapo .int (cu l)]),J:=fun k=>k<=(az v).length/\Wq (lN l (az v) l.length)/\Wq (ur l (az v) k),μ:=fun k=>(az v).length - k })]
def Bi (c:Command) (rest:List Field) (v:Int):List (Nat × LI):=[(9,{ σ:=Nat,F:=fun k=>([(1,one (.fz (.nm .field) (rest))),(2,one (.int (v))),(3,one (.ptr 0 0)),(9,one (.int (aT v))),(27,one (.fz (.nm .field) (rest))),(28,one (.int (rest).length)),(29,one (.int k))],[.box 27 (cellsOf (.nm .command) ((c)))]),J:=fun k=>k<=rest.length/\Wq (om rest v k),μ:=fun k=>rest.length - k })]
theorem Ap (f:Field) (xs:List Field) (r0:Bool):dh aK wC [] Try.f37 [.agg (cellsOf (.nm .field) f),.c (.ptr 0 0)] [.box 28 ([.own 1]),.row 58 (.nm .field) (xs)] [.c (.bool (.atom (r0)))]=((fun (q2:Int)=>(fun (q1:Int)=>(fun (q0:den (Sh.nm NT.field))=>I64 f.num->I64 f.wire->f.n.n<(18446744073709551616:Nat)->f.b.length*(1:Nat)<=(140737488355328:Nat)->(q2=(0:Int)->true=r0)/\(¬q2=(0:Int)->I64 q1/\((0:Int)<=q1/\q1<q2)/\(I64 q0.num->I64 q0.wire->q0.n.n<(18446744073709551616:Nat)->q0.b.length*(1:Nat)<=(140737488355328:Nat)->db q0 f=r0))) (xs.getD q1.toNat (aC (Sh.nm NT.field)))) (q2 - (1:Int))) (↑xs.length:Int)):=by kernel_rfl
theorem zd (f:Field) (xs:List Field) (h0:xs.length<=20000):Sat Try.prog (ah aK) 37 [.agg (cellsOf (.nm .field) f),.c (.ptr 0 0)] [.box 28 ([.own 1]),.row 58 (.nm .field) (xs)] ⟨[xs.length<=20000],[.c (.bool (.atom ((cz xs f))))],none,false⟩:=by
 refine aP jX [] Try.func37 (by decide) (by kernel_rfl) ?_
 rw [Ap]
 (repeat' (first | with_reducible refine And.intro ?_ ?_ | with_reducible refine and_imp.2 ?_ | intro))
 all_goals (first | (first | with_reducible rfl | with_reducible assumption | omega | (refine ag ?_ ?_ <;> omega)) | exact (BN (by with_reducible assumption)) | exact (BL (by with_reducible assumption)))
theorem wz (q:Int) (v:Int) (l:List Field) (r0:Int):dh aK wC (sc q v l) Try.f19 [.c (.int (q)),.c (.int (v)),.c (.fz (.nm .field) (l))] [] [.c (.int (r0))]=((fun (q5:Nat)=>(fun (q4:Int)=>(fun (q3:Int)=>(fun (q2:Nat)=>(fun (q1:den (Sh.nm NT.field))=>(fun (q0:List Spec)=>I64 q->I64 v->l.length*(48:Nat)<=(140737488355328:Nat)->q=q4/\(q0.length*(32:Nat)<=(140737488355328:Nat)->((↑q0.length:Int)=q3->q4=r0)/\(¬(↑q0.length:Int)=q3->I64 (bl l)->(¬bl l=q3->bl l=r0)/\(bl l=q3->∃ (s0:Nat),(fun (q9:Int)=>(fun (q8:Int)=>(fun (q7:Prop)=>(fun (q6:Nat)=>(q7/\l=l/\(↑l.length:Int)=q8/\q3=(↑s0:Int)/\(fun (_:Int)=>none)=cu (List.take s0 l))/\(s0<=q2/\Wq (lN l q0 s0))/\∀ (s:Nat),(fun (q10:Int)=>s<=q2/\Wq (lN l q0 s)->((↑s:Int)<q8->q3<=(↑s:Int)/\(↑s:Int)<(↑l.length:Int)/\∀ (x:Field),(fun (q11:Int)=>l[s]? = some x->I64 x.num->I64 x.wire->x.n.n<(18446744073709551616:Nat)->x.b.length*q5<=(140737488355328:Nat)->I64 q11/\∃ (s0:Nat × Nat),(fun (q13:Nat)=>(fun (q12:Field)=>(q7/\l=l/\q8=q8/\(↑s:Int)=(↑q13:Int)/\q7/\q9=q10/\q3=(↑s0.snd:Int)/\(fun (j:Int)=>if j=x.num then some q11 else cu (List.take s l) j)=cu (List.take (q13+q5) l)/\x.num=q12.num/\x.wire=q12.wire/\x.n.n=q12.n.n/\x.b=q12.b)/\(q13<q2/\s0.snd<=q6/\Wq (lN l q0 q13)/\Wq (xw q0 q12 (↑(bJ (List.take (q13+q5) l) q12.num):Int) s0.snd))/\q13=q13/\∀ (s_1:Nat × Nat),(fun (q16:Int)=>(fun (q15:List Field)=>(fun (q14:Field)=>s_1.fst<q2/\s_1.snd<=q6/\Wq (lN l q0 s_1.fst)/\Wq (xw q0 q14 (↑(bJ q15 q14.num):Int) s_1.snd)->s_1.fst=q13->(q16<q10->q3<=q16/\q16<q9/\∀ (x:Spec),(fun (q17:Bool)=>q0[s_1.snd]? = some x->I64 x.num->I64 x.wire->I64 x.since->(x.num=q14.num/\q17=false->(6:Int)=r0)/\(¬x.num=q14.num\/q17=true->I64 (q16+q4)/\∃ (s':Nat × Nat),(fun (q18:Field)=>(q7/\l=l/\q8=q8/\(↑s_1.fst:Int)=(↑s'.fst:Int)/\q7/\q10=q10/\q16+q4=(↑s'.snd:Int)/\cu q15=cu (List.take (s'.fst+q5) l)/\q14.num=q18.num/\q14.wire=q18.wire/\q14.n.n=q18.n.n/\q14.b=q18.b)/\(s'.fst<q2/\s'.snd<=q6/\Wq (lN l q0 s'.fst)/\Wq (xw q0 q18 (↑(bJ (List.take (s'.fst+q5) l) q18.num):Int) s'.snd))/\s'.fst=q13/\q6 - s'.snd<q6 - s_1.snd) (l.getD s'.fst q1))) (tn q14 x ((cu q15 q14.num).getD (aC Sh.int))))/\(q10<=q16->I64 ((↑s_1.fst:Int)+q4)/\∃ (s':Nat),(q7/\l=l/\q8=q8/\(↑s_1.fst:Int)+q4=(↑s':Int)/\cu q15=cu (List.take s' l))/\(s' <= q2/\Wq (lN l q0 s'))/\q2 - s' < q2 - s)) (l.getD s_1.fst q1)) (List.take (s_1.fst+q5) l)) (↑s_1.snd:Int)) (l.getD q13 q1)) s0.fst) ((cu (List.take s l) x.num).getD (aC Sh.int)+q4))/\(q8<=(↑s:Int)->∃ (s0:Nat),(q7/\q9=q10/\q3=(↑s0:Int)/\cu (List.take s l)=cu l)/\(s0<=q6/\Wq (lN l q0 q2)/\Wq (ur l q0 s0))/\∀ (s:Nat),s<=q6/\Wq (lN l q0 q2)/\Wq (ur l q0 s)->((↑s:Int)<q10->q3<=(↑s:Int)/\(↑s:Int)<q9/\∀ (x:Spec),(fun (q19:Prop)=>q0[s]? = some x->I64 x.num->I64 x.wire->I64 x.since->(x.need=true/\q19->(6:Int)=r0)/\(x.need=false\/¬q19->I64 ((↑s:Int)+q4)/\∃ (s':Nat),(q7/\q10=q10/\(↑s:Int)+q4=(↑s':Int)/\cu l=cu l)/\(s' <= q6/\Wq (lN l q0 q2)/\Wq (ur l q0 s'))/\q6 - s' < q6 - s)) ((cu l x.num).getD (aC Sh.int)=q3))/\(q10<=(↑s:Int)->q3=r0))) (↑q6:Int)) q0.length) (q0=q0)) (↑q2:Int)) (↑q0.length:Int))))) (az v)) (aC (Sh.nm NT.field))) l.length) (0:Int)) (1:Int)) (1:Nat)):=by kernel_rfl
theorem wF (q:Int) (v:Int) (l:List Field) (h0:q=1):Sat Try.prog (ah aK) 19 [.c (.int (q)),.c (.int (v)),.c (.fz (.nm .field) (l))] [] ⟨[q=1],[.c (.int ((du l v)))],none,false⟩:=by
 refine aP jX (sc q v l) Try.func19 (by decide) (by kernel_rfl) ?_
 rw [wz]
 (repeat' (first | with_reducible refine And.intro ?_ ?_ | with_reducible refine and_imp.2 ?_ | intro))
 all_goals try (first | (first | with_reducible rfl | with_reducible assumption | omega | (refine ag ?_ ?_ <;> omega)) | exact rfl | exact (pF (by omega)) | exact (oF (by omega) (by with_reducible assumption)) | exact fB | exact ⟨jt⟩ | exact ⟨jC⟩ | exact ⟨jB⟩ | exact (dN (by with_reducible assumption)) | exact (congrArg Field.num (fV (by with_reducible assumption))) | exact (congrArg Field.wire (fV (by with_reducible assumption))) | exact (congrArg (fun f=>f.n.n) (fV (by with_reducible assumption))) | exact (congrArg Field.b (fV (by with_reducible assumption))) | exact (fR (by omega) (by with_reducible assumption) (dV (tA (by with_reducible assumption)) (by with_reducible assumption) (And.intro (by with_reducible assumption) (by with_reducible assumption)) (eh _ _))) | exact (pB (by with_reducible assumption) (by with_reducible assumption) (by assumption)) | exact (pS (by with_reducible assumption) (by with_reducible assumption) (by with_reducible assumption) (by with_reducible assumption)) | exact (pQ (by with_reducible assumption) (by omega)) | exact (fk (by omega)) | exact (fR (by omega) (by with_reducible assumption) (pw (by with_reducible assumption) (by with_reducible assumption) (by with_reducible assumption))) | exact (pE (by with_reducible assumption) (by with_reducible assumption) (by assumption)) | exact (mN (by omega) (by with_reducible assumption) (pL (by with_reducible assumption) (by with_reducible assumption) (by omega))) | (have h1:=dR (l:=l) (k:=‹Nat›) ‹Field›.num; have h2:=eh (l.take ‹Nat›) ‹Field›.num; refine ag ?_ ?_ <;> omega))
 all_goals try (refine ⟨0,?_⟩; (repeat' (first | with_reducible refine And.intro ?_ ?_ | with_reducible refine and_imp.2 ?_ | intro)))
 all_goals try (first | (first | with_reducible rfl | with_reducible assumption | omega | (refine ag ?_ ?_ <;> omega)) | exact rfl | exact (pF (by omega)) | exact (oF (by omega) (by with_reducible assumption)) | exact fB | exact ⟨jt⟩ | exact ⟨jC⟩ | exact ⟨jB⟩ | exact (dN (by with_reducible assumption)) | exact (congrArg Field.num (fV (by with_reducible assumption))) | exact (congrArg Field.wire (fV (by with_reducible assumption))) | exact (congrArg (fun f=>f.n.n) (fV (by with_reducible assumption))) | exact (congrArg Field.b (fV (by with_reducible assumption))) | exact (fR (by omega) (by with_reducible assumption) (dV (tA (by with_reducible assumption)) (by with_reducible assumption) (And.intro (by with_reducible assumption) (by with_reducible assumption)) (eh _ _))) | exact (pB (by with_reducible assumption) (by with_reducible assumption) (by assumption)) | exact (pS (by with_reducible assumption) (by with_reducible assumption) (by with_reducible assumption) (by with_reducible assumption)) | exact (pQ (by with_reducible assumption) (by omega)) | exact (fk (by omega)) | exact (fR (by omega) (by with_reducible assumption) (pw (by with_reducible assumption) (by with_reducible assumption) (by with_reducible assumption))) | exact (pE (by with_reducible assumption) (by with_reducible assumption) (by assumption)) | exact (mN (by omega) (by with_reducible assumption) (pL (by with_reducible assumption) (by with_reducible assumption) (by omega))) | (have h1:=dR (l:=l) (k:=‹Nat›) ‹Field›.num; have h2:=eh (l.take ‹Nat›) ‹Field›.num; refine ag ?_ ?_ <;> omega))
 all_goals try (refine ⟨(‹Nat›,0),?_⟩; (repeat' (first | with_reducible refine And.intro ?_ ?_ | with_reducible refine and_imp.2 ?_ | intro)))
 all_goals try (first | (first | with_reducible rfl | with_reducible assumption | omega | (refine ag ?_ ?_ <;> omega)) | exact rfl | exact (pF (by omega)) | exact (oF (by omega) (by with_reducible assumption)) | exact fB | exact ⟨jt⟩ | exact ⟨jC⟩ | exact ⟨jB⟩ | exact (dN (by with_reducible assumption)) | exact (congrArg Field.num (fV (by with_reducible assumption))) | exact (congrArg Field.wire (fV (by with_reducible assumption))) | exact (congrArg (fun f=>f.n.n) (fV (by with_reducible assumption))) | exact (congrArg Field.b (fV (by with_reducible assumption))) | exact (fR (by omega) (by with_reducible assumption) (dV (tA (by with_reducible assumption)) (by with_reducible assumption) (And.intro (by with_reducible assumption) (by with_reducible assumption)) (eh _ _))) | exact (pB (by with_reducible assumption) (by with_reducible assumption) (by assumption)) | exact (pS (by with_reducible assumption) (by with_reducible assumption) (by with_reducible assumption) (by with_reducible assumption)) | exact (pQ (by with_reducible assumption) (by omega)) | exact (fk (by omega)) | exact (fR (by omega) (by with_reducible assumption) (pw (by with_reducible assumption) (by with_reducible assumption) (by with_reducible assumption))) | exact (pE (by with_reducible assumption) (by with_reducible assumption) (by assumption)) | exact (mN (by omega) (by with_reducible assumption) (pL (by with_reducible assumption) (by with_reducible assumption) (by omega))) | (have h1:=dR (l:=l) (k:=‹Nat›) ‹Field›.num; have h2:=eh (l.take ‹Nat›) ‹Field›.num; refine ag ?_ ?_ <;> omega))
 all_goals try (refine ⟨(‹Nat × Nat›.1,‹Nat × Nat›.2+1),?_⟩; (repeat' (first | with_reducible refine And.intro ?_ ?_ | with_reducible refine and_imp.2 ?_ | intro)))
 all_goals try (first | (first | with_reducible rfl | with_reducible assumption | omega | (refine ag ?_ ?_ <;> omega)) | exact rfl | exact (pF (by omega)) | exact (oF (by omega) (by with_reducible assumption)) | exact fB | exact ⟨jt⟩ | exact ⟨jC⟩ | exact ⟨jB⟩ | exact (dN (by with_reducible assumption)) | exact (congrArg Field.num (fV (by with_reducible assumption))) | exact (congrArg Field.wire (fV (by with_reducible assumption))) | exact (congrArg (fun f=>f.n.n) (fV (by with_reducible assumption))) | exact (congrArg Field.b (fV (by with_reducible assumption))) | exact (fR (by omega) (by with_reducible assumption) (dV (tA (by with_reducible assumption)) (by with_reducible assumption) (And.intro (by with_reducible assumption) (by with_reducible assumption)) (eh _ _))) | exact (pB (by with_reducible assumption) (by with_reducible assumption) (by assumption)) | exact (pS (by with_reducible assumption) (by with_reducible assumption) (by with_reducible assumption) (by with_reducible assumption)) | exact (pQ (by with_reducible assumption) (by omega)) | exact (fk (by omega)) | exact (fR (by omega) (by with_reducible assumption) (pw (by with_reducible assumption) (by with_reducible assumption) (by with_reducible assumption))) | exact (pE (by with_reducible assumption) (by with_reducible assumption) (by assumption)) | exact (mN (by omega) (by with_reducible assumption) (pL (by with_reducible assumption) (by with_reducible assumption) (by omega))) | (have h1:=dR (l:=l) (k:=‹Nat›) ‹Field›.num; have h2:=eh (l.take ‹Nat›) ‹Field›.num; refine ag ?_ ?_ <;> omega))
 all_goals try (refine ⟨‹Nat × Nat›.1+1,?_⟩; (repeat' (first | with_reducible refine And.intro ?_ ?_ | with_reducible refine and_imp.2 ?_ | intro)))
 all_goals try (first | (first | with_reducible rfl | with_reducible assumption | omega | (refine ag ?_ ?_ <;> omega)) | exact rfl | exact (pF (by omega)) | exact (oF (by omega) (by with_reducible assumption)) | exact fB | exact ⟨jt⟩ | exact ⟨jC⟩ | exact ⟨jB⟩ | exact (dN (by with_reducible assumption)) | exact (congrArg Field.num (fV (by with_reducible assumption))) | exact (congrArg Field.wire (fV (by with_reducible assumption))) | exact (congrArg (fun f=>f.n.n) (fV (by with_reducible assumption))) | exact (congrArg Field.b (fV (by with_reducible assumption))) | exact (fR (by omega) (by with_reducible assumption) (dV (tA (by with_reducible assumption)) (by with_reducible assumption) (And.intro (by with_reducible assumption) (by with_reducible assumption)) (eh _ _))) | exact (pB (by with_reducible assumption) (by with_reducible assumption) (by assumption)) | exact (pS (by with_reducible assumption) (by with_reducible assumption) (by with_reducible assumption) (by with_reducible assumption)) | exact (pQ (by with_reducible assumption) (by omega)) | exact (fk (by omega)) | exact (fR (by omega) (by with_reducible assumption) (pw (by with_reducible assumption) (by with_reducible assumption) (by with_reducible assumption))) | exact (pE (by with_reducible assumption) (by with_reducible assumption) (by assumption)) | exact (mN (by omega) (by with_reducible assumption) (pL (by with_reducible assumption) (by with_reducible assumption) (by omega))) | (have h1:=dR (l:=l) (k:=‹Nat›) ‹Field›.num; have h2:=eh (l.take ‹Nat›) ‹Field›.num; refine ag ?_ ?_ <;> omega))
 all_goals try (refine ⟨0,?_⟩; (repeat' (first | with_reducible refine And.intro ?_ ?_ | with_reducible refine and_imp.2 ?_ | intro)))
 all_goals try (first | (first | with_reducible rfl | with_reducible assumption | omega | (refine ag ?_ ?_ <;> omega)) | exact rfl | exact (pF (by omega)) | exact (oF (by omega) (by with_reducible assumption)) | exact fB | exact ⟨jt⟩ | exact ⟨jC⟩ | exact ⟨jB⟩ | exact (dN (by with_reducible assumption)) | exact (congrArg Field.num (fV (by with_reducible assumption))) | exact (congrArg Field.wire (fV (by with_reducible assumption))) | exact (congrArg (fun f=>f.n.n) (fV (by with_reducible assumption))) | exact (congrArg Field.b (fV (by with_reducible assumption))) | exact (fR (by omega) (by with_reducible assumption) (dV (tA (by with_reducible assumption)) (by with_reducible assumption) (And.intro (by with_reducible assumption) (by with_reducible assumption)) (eh _ _))) | exact (pB (by with_reducible assumption) (by with_reducible assumption) (by assumption)) | exact (pS (by with_reducible assumption) (by with_reducible assumption) (by with_reducible assumption) (by with_reducible assumption)) | exact (pQ (by with_reducible assumption) (by omega)) | exact (fk (by omega)) | exact (fR (by omega) (by with_reducible assumption) (pw (by with_reducible assumption) (by with_reducible assumption) (by with_reducible assumption))) | exact (pE (by with_reducible assumption) (by with_reducible assumption) (by assumption)) | exact (mN (by omega) (by with_reducible assumption) (pL (by with_reducible assumption) (by with_reducible assumption) (by omega))) | (have h1:=dR (l:=l) (k:=‹Nat›) ‹Field›.num; have h2:=eh (l.take ‹Nat›) ‹Field›.num; refine ag ?_ ?_ <;> omega))
 all_goals try (refine ⟨‹Nat› + 1,?_⟩; (repeat' (first | with_reducible refine And.intro ?_ ?_ | with_reducible refine and_imp.2 ?_ | intro)))
 all_goals try (first | (first | with_reducible rfl | with_reducible assumption | omega | (refine ag ?_ ?_ <;> omega)) | exact rfl | exact (pF (by omega)) | exact (oF (by omega) (by with_reducible assumption)) | exact fB | exact ⟨jt⟩ | exact ⟨jC⟩ | exact ⟨jB⟩ | exact (dN (by with_reducible assumption)) | exact (congrArg Field.num (fV (by with_reducible assumption))) | exact (congrArg Field.wire (fV (by with_reducible assumption))) | exact (congrArg (fun f=>f.n.n) (fV (by with_reducible assumption))) | exact (congrArg Field.b (fV (by with_reducible assumption))) | exact (fR (by omega) (by with_reducible assumption) (dV (tA (by with_reducible assumption)) (by with_reducible assumption) (And.intro (by with_reducible assumption) (by with_reducible assumption)) (eh _ _))) | exact (pB (by with_reducible assumption) (by with_reducible assumption) (by assumption)) | exact (pS (by with_reducible assumption) (by with_reducible assumption) (by with_reducible assumption) (by with_reducible assumption)) | exact (pQ (by with_reducible assumption) (by omega)) | exact (fk (by omega)) | exact (fR (by omega) (by with_reducible assumption) (pw (by with_reducible assumption) (by with_reducible assumption) (by with_reducible assumption))) | exact (pE (by with_reducible assumption) (by with_reducible assumption) (by assumption)) | exact (mN (by omega) (by with_reducible assumption) (pL (by with_reducible assumption) (by with_reducible assumption) (by omega))) | (have h1:=dR (l:=l) (k:=‹Nat›) ‹Field›.num; have h2:=eh (l.take ‹Nat›) ‹Field›.num; refine ag ?_ ?_ <;> omega))
 all_goals (first | (first | with_reducible rfl | with_reducible assumption | omega | (refine ag ?_ ?_ <;> omega)) | exact rfl | exact (pF (by omega)) | exact (oF (by omega) (by with_reducible assumption)) | exact fB | exact ⟨jt⟩ | exact ⟨jC⟩ | exact ⟨jB⟩ | exact (dN (by with_reducible assumption)) | exact (congrArg Field.num (fV (by with_reducible assumption))) | exact (congrArg Field.wire (fV (by with_reducible assumption))) | exact (congrArg (fun f=>f.n.n) (fV (by with_reducible assumption))) | exact (congrArg Field.b (fV (by with_reducible assumption))) | exact (fR (by omega) (by with_reducible assumption) (dV (tA (by with_reducible assumption)) (by with_reducible assumption) (And.intro (by with_reducible assumption) (by with_reducible assumption)) (eh _ _))) | exact (pB (by with_reducible assumption) (by with_reducible assumption) (by assumption)) | exact (pS (by with_reducible assumption) (by with_reducible assumption) (by with_reducible assumption) (by with_reducible assumption)) | exact (pQ (by with_reducible assumption) (by omega)) | exact (fk (by omega)) | exact (fR (by omega) (by with_reducible assumption) (pw (by with_reducible assumption) (by with_reducible assumption) (by with_reducible assumption))) | exact (pE (by with_reducible assumption) (by with_reducible assumption) (by assumption)) | exact (mN (by omega) (by with_reducible assumption) (pL (by with_reducible assumption) (by with_reducible assumption) (by omega))) | (have h1:=dR (l:=l) (k:=‹Nat›) ‹Field›.num; have h2:=eh (l.take ‹Nat›) ‹Field›.num; refine ag ?_ ?_ <;> omega))
theorem BX (c:Command) (rest:List Field) (v:Int) (r0:Int) (r1:List UInt8):B_ aK wC (Bi c rest v) Try.f14 [.agg (cellsOf (.nm .command) c),.c (.fz (.nm .field) (rest)),.c (.int (v))] [] [.c (.own 0),.c (.int (r0))] [.row 5 .u8 (r1)]=((fun (q3:Int)=>(fun (q2:Nat)=>(fun (q1:Prop)=>(fun (q0:Prop)=>I64 c.kind->I64 c.client->I64 c.seq->I64 c.set->I64 c.id->I64 c.n->c.chunks.length*(8:Nat)<=(140737488355328:Nat)->c.text.b.length<=(140737488355328:Nat)->rest.length*(48:Nat)<=(140737488355328:Nat)->I64 v->(bf v=false->(1:Int)=r0/\r1=[])/\(bf v=true->(bS c v=false->I64 (cw c v)->(¬cw c v=q3->cw c v=r0/\r1=[])/\(cw c v=q3->q0))/\(bS c v=true->q0))) ((1:Int)=(1:Int)/\(I64 (aT v)->∃ (s0:Nat),(rest=rest/\v=v/\aT v=aT v/\rest=rest/\(↑rest.length:Int)=(↑q2:Int)/\q3=(↑s0:Int)/\q1)/\(s0<=q2/\Wq (om rest v s0))/\∀ (s:Nat),s<=q2/\Wq (om rest v s)->((↑s:Int)<(↑q2:Int)->q3<=(↑s:Int)/\(↑s:Int)<(↑rest.length:Int)/\∀ (x:Field),rest[s]? = some x->I64 x.num->I64 x.wire->x.n.n<(18446744073709551616:Nat)->x.b.length*(1:Nat)<=(140737488355328:Nat)->(x.num<=aT v->(6:Int)=r0/\r1=[])/\(aT v<x.num->I64 ((↑s:Int)+(1:Int))/\∃ (s':Nat),(rest=rest/\v=v/\aT v=aT v/\rest=rest/\(↑q2:Int)=(↑q2:Int)/\(↑s:Int)+(1:Int)=(↑s':Int)/\q1)/\(s' <= q2/\Wq (om rest v s'))/\q2 - s' < q2 - s))/\((↑q2:Int)<=(↑s:Int)->q3<=c.kind/\q3<=c.client/\q3<=c.seq/\q3<=c.set/\q3<=c.id/\q3<=c.n/\((av c v).length+rest.length)*(48:Nat)<=(140737488355328:Nat)/\(I64 (bl (av c v++rest))->bl (av c v++rest)=r0/\dO (av c v++rest)=r1))))) (c.kind=c.kind/\c.client=c.client/\c.seq=c.seq/\c.set=c.set/\c.id=c.id/\c.n=c.n/\c.chunks=c.chunks/\c.text=c.text)) rest.length) (0:Int)):=by kernel_rfl
theorem CH (c:Command) (rest:List Field) (v:Int) (h0:rest.length<=20000):Sat Try.prog (ah aK) 14 [.agg (cellsOf (.nm .command) c),.c (.fz (.nm .field) (rest)),.c (.int (v))] [] ⟨[rest.length<=20000],[.c (.own 0),.c (.int ((bt c rest v)))],some ([.row 5 .u8 ((aF c rest v))]),true⟩:=by
 refine mj jX (Bi c rest v) Try.func14 (by decide) (by kernel_rfl) ?_
 rw [BX]
 (repeat' (first | with_reducible refine And.intro ?_ ?_ | with_reducible refine and_imp.2 ?_ | intro))
 all_goals try (first | (first | with_reducible rfl | with_reducible assumption | omega | (refine ag ?_ ?_ <;> omega)) | exact rfl | exact ⟨vo⟩ | exact (uK (by with_reducible assumption) (by with_reducible assumption) (by omega)) | exact (eJ (DM (by with_reducible assumption)) (by decide)) | exact (eM (DM (by with_reducible assumption)) (by decide)).symm | exact (eJ (DN (by with_reducible assumption) (by with_reducible assumption) (by with_reducible assumption)) (by with_reducible assumption)) | exact (eM (DN (by with_reducible assumption) (by with_reducible assumption) (by with_reducible assumption)) (by with_reducible assumption)).symm | exact (eJ (DK (by with_reducible assumption) (by first | exact .inl (by with_reducible assumption) | exact .inr (by with_reducible assumption)) (by with_reducible assumption) (by with_reducible assumption)) (by decide)) | exact (eM (DK (by with_reducible assumption) (by first | exact .inl (by with_reducible assumption) | exact .inr (by with_reducible assumption)) (by with_reducible assumption) (by with_reducible assumption)) (by decide)).symm | exact (uX (DG (by with_reducible assumption) (by first | exact .inl (by with_reducible assumption) | exact .inr (by with_reducible assumption)) (by with_reducible assumption) (by omega))) | exact (xo (DG (by with_reducible assumption) (by first | exact .inl (by with_reducible assumption) | exact .inr (by with_reducible assumption)) (by with_reducible assumption) (by omega))) | (have h:0<=c.kind/\0<=c.client/\0<=c.seq/\0<=c.set/\0<=c.id/\0<=c.n:=(by first | exact nU (by with_reducible assumption) | exact nJ (by with_reducible assumption)); omega) | (have h:=gu c v; omega))
 all_goals try (refine ⟨0,?_⟩; (repeat' (first | with_reducible refine And.intro ?_ ?_ | with_reducible refine and_imp.2 ?_ | intro)))
 all_goals try (first | (first | with_reducible rfl | with_reducible assumption | omega | (refine ag ?_ ?_ <;> omega)) | exact rfl | exact ⟨vo⟩ | exact (uK (by with_reducible assumption) (by with_reducible assumption) (by omega)) | exact (eJ (DM (by with_reducible assumption)) (by decide)) | exact (eM (DM (by with_reducible assumption)) (by decide)).symm | exact (eJ (DN (by with_reducible assumption) (by with_reducible assumption) (by with_reducible assumption)) (by with_reducible assumption)) | exact (eM (DN (by with_reducible assumption) (by with_reducible assumption) (by with_reducible assumption)) (by with_reducible assumption)).symm | exact (eJ (DK (by with_reducible assumption) (by first | exact .inl (by with_reducible assumption) | exact .inr (by with_reducible assumption)) (by with_reducible assumption) (by with_reducible assumption)) (by decide)) | exact (eM (DK (by with_reducible assumption) (by first | exact .inl (by with_reducible assumption) | exact .inr (by with_reducible assumption)) (by with_reducible assumption) (by with_reducible assumption)) (by decide)).symm | exact (uX (DG (by with_reducible assumption) (by first | exact .inl (by with_reducible assumption) | exact .inr (by with_reducible assumption)) (by with_reducible assumption) (by omega))) | exact (xo (DG (by with_reducible assumption) (by first | exact .inl (by with_reducible assumption) | exact .inr (by with_reducible assumption)) (by with_reducible assumption) (by omega))) | (have h:0<=c.kind/\0<=c.client/\0<=c.seq/\0<=c.set/\0<=c.id/\0<=c.n:=(by first | exact nU (by with_reducible assumption) | exact nJ (by with_reducible assumption)); omega) | (have h:=gu c v; omega))
 all_goals try (refine ⟨‹Nat› + 1,?_⟩; (repeat' (first | with_reducible refine And.intro ?_ ?_ | with_reducible refine and_imp.2 ?_ | intro)))
 all_goals (first | (first | with_reducible rfl | with_reducible assumption | omega | (refine ag ?_ ?_ <;> omega)) | exact rfl | exact ⟨vo⟩ | exact (uK (by with_reducible assumption) (by with_reducible assumption) (by omega)) | exact (eJ (DM (by with_reducible assumption)) (by decide)) | exact (eM (DM (by with_reducible assumption)) (by decide)).symm | exact (eJ (DN (by with_reducible assumption) (by with_reducible assumption) (by with_reducible assumption)) (by with_reducible assumption)) | exact (eM (DN (by with_reducible assumption) (by with_reducible assumption) (by with_reducible assumption)) (by with_reducible assumption)).symm | exact (eJ (DK (by with_reducible assumption) (by first | exact .inl (by with_reducible assumption) | exact .inr (by with_reducible assumption)) (by with_reducible assumption) (by with_reducible assumption)) (by decide)) | exact (eM (DK (by with_reducible assumption) (by first | exact .inl (by with_reducible assumption) | exact .inr (by with_reducible assumption)) (by with_reducible assumption) (by with_reducible assumption)) (by decide)).symm | exact (uX (DG (by with_reducible assumption) (by first | exact .inl (by with_reducible assumption) | exact .inr (by with_reducible assumption)) (by with_reducible assumption) (by omega))) | exact (xo (DG (by with_reducible assumption) (by first | exact .inl (by with_reducible assumption) | exact .inr (by with_reducible assumption)) (by with_reducible assumption) (by omega))) | (have h:0<=c.kind/\0<=c.client/\0<=c.seq/\0<=c.set/\0<=c.id/\0<=c.n:=(by first | exact nU (by with_reducible assumption) | exact nJ (by with_reducible assumption)); omega) | (have h:=gu c v; omega))
noncomputable def Ct:cA:=(cH 14 (ck (ai (kT (.nm .command)) (ai (kC (cL (.nm .field))) (ai (kC cI) ba))) bb fun (c,rest,v,_) (_)=>⟨[rest.length<=20000],[.c (.own 0),.c (.int ((bt c rest v)))],some ([.row 5 .u8 ((aF c rest v))]),true⟩) (cH 19 (ck (ai (kC cI) (ai (kC cI) (ai (kC (cL (.nm .field))) ba))) bb fun (q,v,l,_) (_)=>⟨[q=1],[.c (.int ((du l v)))],none,false⟩) (cH 37 (ck (ai (kT (.nm .field)) (ai (kC (lS 0 0)) ba)) (ec (lP 28 (gD (vS 1) lQ)) (ec (uA 58 (.nm .field)) bb)) fun (f,_,_) ((_,_),xs,_)=>⟨[xs.length<=20000],[.c (.bool (.atom ((cz xs f))))],none,false⟩) wC)))
theorem sr:aS Try.prog (ah aK) Ct:=(aq (au (ab cE (ab (aw bA) (ab (aw bh) al))) ak fun (c,rest,v,_) (_) hp=>CH c rest v (lM hp)) (aq (au (ab (aw bh) (ab (aw bh) (ab (aw bA) al))) ak fun (q,v,l,_) (_) hp=>wF q v l (lM hp)) (aq (au (ab cE (ab (aw dM) al)) (bY (dX (dL nj dW)) (bY nD ak)) fun (f,_,_) ((_,_),xs,_) hp=>zd f xs (lM hp)) jX)))
end Go.Proofs.Ytladifkbefehdaa
namespace Go.Proofs.Ytladifkbefehdaa
open Go.RowKit
def AR (b:List UInt8) (s:Nat × List Field):Nat × List Field:=(s.1+(aH (b.drop s.1)).1,s.2++[fu ((b.drop s.1).take (((s.1:Int)+((aH (b.drop s.1)).1:Nat)).toNat - s.1))])
theorem Bm {b:List UInt8} {s:Nat × List Field}:(AR b s).2=s.2++[fu ((b.drop s.1).take (aH (b.drop s.1)).1)]:=by
 unfold AR; rw [show ((s.1:Int)+((aH (b.drop s.1)).1:Nat)).toNat - s.1=(aH (b.drop s.1)).1 by omega]
theorem GA {b:List UInt8} (h:16384<(b.length:Int)):aQ b=([],4):=CZ (by omega)
theorem Gd {b:List UInt8} {s:Nat × List Field} (h:Wq (eA b s.1 s.2)) (hi:(s.1:Int)<(b.length:Int)) (hs:¬ (aH (b.drop s.1)).2=0):aQ b=([],(aH (b.drop s.1)).2):=zL h.h (by omega) hs
theorem Fw {b:List UInt8} {s:Nat × List Field} (h:Wq (eA b s.1 s.2)) (hi:(s.1:Int)<(b.length:Int)) (hs:(aH (b.drop s.1)).2=0) (hr:cz s.2 (fu ((b.drop s.1).take (((s.1:Int)+((aH (b.drop s.1)).1:Nat)).toNat - s.1)))=false):aQ b=([],5):=by
 rw [show ((s.1:Int)+((aH (b.drop s.1)).1:Nat)).toNat - s.1=(aH (b.drop s.1)).1 by omega] at hr
 obtain ⟨f,_,e⟩:=vW h.h (show s.1<b.length by omega)
 rw [e,if_pos hs,hr,if_neg (by decide)]
theorem FH {b:List UInt8} {s:Nat × List Field} (h:Wq (eA b s.1 s.2)) (hi:(s.1:Int)<(b.length:Int)) (hs:(aH (b.drop s.1)).2=0) (hr:cz s.2 (fu ((b.drop s.1).take (((s.1:Int)+((aH (b.drop s.1)).1:Nat)).toNat - s.1)))=true):Wq (eA b (AR b s).1 (AR b s).2):=by
 rw [show ((s.1:Int)+((aH (b.drop s.1)).1:Nat)).toNat - s.1=(aH (b.drop s.1)).1 by omega] at hr
 obtain ⟨f,hf,e⟩:=vW h.h (show s.1<b.length by omega)
 have hp:=gS hs
 rw [Bm]
 refine ⟨f,by show b.length - (s.1+(aH (b.drop s.1)).1)<=f; omega,?_⟩
 rw [e,if_pos hs,hr,if_pos rfl,List.drop_drop]; rfl
theorem Ga {b:List UInt8} {s:Nat × List Field} (h:Wq (eA b s.1 s.2)) (hi:(b.length:Int)<=(s.1:Int)):aQ b=(s.2,0):=BZ h.h (by omega)
theorem Gb {b:List UInt8} {s:Nat × List Field} (hi:s.1<=b.length):(AR b s).1<=b.length:=by
 have:=gV (b.drop s.1); rw [List.length_drop] at this; show s.1+_<=_; omega
theorem FR {b:List UInt8} {s:Nat × List Field} (hl:s.2.length<=s.1) (hs:(aH (b.drop s.1)).2=0):(AR b s).2.length<=(AR b s).1:=by
 have hp:=gS hs
 rw [Bm,List.length_append]; simp only [List.length_cons,List.length_nil]; show _<=s.1+_; omega
theorem Gx {b:List UInt8} {s:Nat × List Field} (hi:(s.1:Int)<(b.length:Int)) (hs:(aH (b.drop s.1)).2=0):b.length - (AR b s).1<b.length - s.1:=by
 have hp:=gS hs; show b.length - (s.1+_)<_; omega
def xq (b:List UInt8):List (Nat × LI):=[(6,{ σ:=Nat × List Field,F:=fun s=>([(0,one (.fz .u8 (b))),(4,one (.ptr 0 0)),(5,one (.fn 37 [] [(0,0)])),(6,one (.int s.1))],[.box 28 ([.own 1]),.row 58 (.nm .field) ((s.2))]),J:=fun s=>Wq (eA b s.1 s.2)/\s.1<=b.length/\s.2.length<=s.1,μ:=fun s=>b.length - s.1 })]
theorem AD (b:List UInt8) (r0:List Field) (r1:Int):dh aK Ct (xq b) Try.f18 [.c (.fz .u8 (b))] [] [.c (.fz (.nm .field) (r0)),.c (.int (r1))]=((fun (q1:Int)=>(fun (q0:Int)=>b.length*(1:Nat)<=(140737488355328:Nat)->((16384:Int)<q0->r0=[]/\(4:Int)=r1)/\(q0<=(16384:Int)->∃ (s0:Nat × List Field),(b=b/\q1=(↑s0.fst:Int)/\s0.snd=[])/\(Wq (eA b s0.fst s0.snd)/\s0.fst<=b.length/\s0.snd.length<=s0.fst)/\∀ (s:Nat × List Field),(fun (q5:Int)=>(fun (q4:Nat × Int)=>(fun (q3:Int)=>(fun (q2:Field)=>Wq (eA b s.fst s.snd)/\s.fst<=b.length/\s.snd.length<=s.fst->(q5<q0->q1<=q5/\q5<=q0/\(I64 (↑q4.fst:Int)->I64 q4.snd->(¬q4.snd=q1->r0=[]/\q4.snd=r1)/\(q4.snd=q1->I64 q3/\q1<=q5/\q5<=q3/\q3<=q0/\(I64 q2.num->I64 q2.wire->q2.n.n<(18446744073709551616:Nat)->q2.b.length*(1:Nat)<=(140737488355328:Nat)->s.snd.length<=(20000:Nat)/\(cz s.snd q2=false->r0=[]/\(5:Int)=r1)/\(cz s.snd q2=true->(s.snd.length+[q2].length)*(48:Nat)<=(140737488355328:Nat)/\I64 q3/\∃ (s':Nat × List Field),(b=b/\q3=(↑s'.fst:Int)/\s.snd++[q2]=s'.snd)/\(Wq (eA b s'.fst s'.snd)/\s'.fst<=b.length/\s'.snd.length<=s'.fst)/\b.length - s'.fst<b.length - s.fst)))))/\(q0<=q5->s.snd=r0/\q1=r1)) (fu (List.take (q3.toNat - s.fst) (List.drop s.fst b)))) (q5+(↑q4.fst:Int))) (aH (List.drop s.fst b))) (↑s.fst:Int))) (↑b.length:Int)) (0:Int)):=by kernel_rfl
theorem zf (b:List UInt8):Sat Try.prog (ah aK) 18 [.c (.fz .u8 (b))] [] ⟨[],[.c (.fz (.nm .field) (((aQ b).1))),.c (.int (((aQ b).2)))],none,false⟩:=by
 refine aP sr (xq b) Try.func18 (by decide) (by kernel_rfl) ?_
 rw [AD]
 (repeat' (first | with_reducible refine And.intro ?_ ?_ | with_reducible refine and_imp.2 ?_ | intro))
 all_goals try (first | (first | with_reducible rfl | with_reducible assumption | omega | (refine ag ?_ ?_ <;> omega)) | exact rfl | exact ⟨kx (by omega)⟩ | (rw [GA (by with_reducible assumption)] <;> rfl) | (rw [Gd (by with_reducible assumption) (by with_reducible assumption) (by with_reducible assumption)] <;> rfl) | (rw [Fw (by with_reducible assumption) (by with_reducible assumption) (by with_reducible assumption) (by with_reducible assumption)] <;> rfl) | (rw [Ga (by with_reducible assumption) (by with_reducible assumption)] <;> rfl) | exact (FH (by with_reducible assumption) (by with_reducible assumption) (by with_reducible assumption) (by with_reducible assumption)) | exact (Gb (by with_reducible assumption)) | exact (FR (by with_reducible assumption) (by with_reducible assumption)) | exact (Gx (by with_reducible assumption) (by with_reducible assumption)) | (have h:=gV (b.drop ‹Nat × List Field›.1); rw [List.length_drop] at h; first | omega | (refine ag ?_ ?_ <;> omega)) | (simp only [List.length_cons,List.length_nil]; omega))
 all_goals try (refine ⟨(0,[]),?_⟩; (repeat' (first | with_reducible refine And.intro ?_ ?_ | with_reducible refine and_imp.2 ?_ | intro)))
 all_goals try (first | (first | with_reducible rfl | with_reducible assumption | omega | (refine ag ?_ ?_ <;> omega)) | exact rfl | exact ⟨kx (by omega)⟩ | (rw [GA (by with_reducible assumption)] <;> rfl) | (rw [Gd (by with_reducible assumption) (by with_reducible assumption) (by with_reducible assumption)] <;> rfl) | (rw [Fw (by with_reducible assumption) (by with_reducible assumption) (by with_reducible assumption) (by with_reducible assumption)] <;> rfl) | (rw [Ga (by with_reducible assumption) (by with_reducible assumption)] <;> rfl) | exact (FH (by with_reducible assumption) (by with_reducible assumption) (by with_reducible assumption) (by with_reducible assumption)) | exact (Gb (by with_reducible assumption)) | exact (FR (by with_reducible assumption) (by with_reducible assumption)) | exact (Gx (by with_reducible assumption) (by with_reducible assumption)) | (have h:=gV (b.drop ‹Nat × List Field›.1); rw [List.length_drop] at h; first | omega | (refine ag ?_ ?_ <;> omega)) | (simp only [List.length_cons,List.length_nil]; omega))
 all_goals try (refine ⟨AR b ‹Nat × List Field›,?_⟩; (repeat' (first | with_reducible refine And.intro ?_ ?_ | with_reducible refine and_imp.2 ?_ | intro)))
 all_goals (first | (first | with_reducible rfl | with_reducible assumption | omega | (refine ag ?_ ?_ <;> omega)) | exact rfl | exact ⟨kx (by omega)⟩ | (rw [GA (by with_reducible assumption)] <;> rfl) | (rw [Gd (by with_reducible assumption) (by with_reducible assumption) (by with_reducible assumption)] <;> rfl) | (rw [Fw (by with_reducible assumption) (by with_reducible assumption) (by with_reducible assumption) (by with_reducible assumption)] <;> rfl) | (rw [Ga (by with_reducible assumption) (by with_reducible assumption)] <;> rfl) | exact (FH (by with_reducible assumption) (by with_reducible assumption) (by with_reducible assumption) (by with_reducible assumption)) | exact (Gb (by with_reducible assumption)) | exact (FR (by with_reducible assumption) (by with_reducible assumption)) | exact (Gx (by with_reducible assumption) (by with_reducible assumption)) | (have h:=gV (b.drop ‹Nat × List Field›.1); rw [List.length_drop] at h; first | omega | (refine ag ?_ ?_ <;> omega)) | (simp only [List.length_cons,List.length_nil]; omega))
noncomputable def qi:cA:=(cH 18 (ck (ai (kC (cL .u8)) ba) bb fun (b,_) (_)=>⟨[],[.c (.fz (.nm .field) (((aQ b).1))),.c (.int (((aQ b).2)))],none,false⟩) Ct)
theorem fJ:aS Try.prog (ah aK) qi:=(aq (au (ab (aw bA) al) ak fun (b,_) (_) _=>zf b ) sr)
end Go.Proofs.Ytladifkbefehdaa
namespace Go.Proofs.Ytladifkbefehdaa
open Go.RowKit
theorem Fk {v:Int} (h:bf v=true):1<=v/\v<=3:=by
 unfold bf at h; simpa using h
theorem Gm {b:List UInt8} {v:Int} (h1:(aQ b).2=0) (h2:du (aQ b).1 v=0):ff b v=0:=by rw [ff,if_pos h1,h2]
theorem GX {b:List UInt8} {v:Int} (h:bf v=false):aI b v=⟨bT,[],1⟩:=FL (fun h2=>by unfold bf at h; simp only [h2,decide_true,Bool.and_self] at h; cases h)
theorem GZ {b:List UInt8} {v:Int} (h:bf v=true) (h1:(aQ b).2=0) (h2:¬ du (aQ b).1 v=0):aI b v=⟨bT,[],du (aQ b).1 v⟩:=by
 have e:ff b v=du (aQ b).1 v:=by rw [ff,if_pos h1]
 rw [EY (Fk h) (by rw [e]; exact h2),e]
theorem Hf {b:List UInt8} {v:Int} (h:bf v=true) (h1:¬ (aQ b).2=0):aI b v=⟨bT,[],(aQ b).2⟩:=by
 have e:ff b v=(aQ b).2:=by rw [ff,if_neg h1]
 rw [EY (Fk h) (by rw [e]; exact h1),e]
theorem Hh {b:List UInt8} {v:Int} (h:bf v=true) (h1:(aQ b).2=0) (h2:du (aQ b).1 v=0) (h3:¬ bt (bk (bO (aQ b).1 (aT v))) (bX (aQ b).1 (aT v)) v=0\/decide (aF (bk (bO (aQ b).1 (aT v))) (bX (aQ b).1 (aT v)) v=b)=false):aI b v=⟨bT,[],6⟩:=
 Gf (Fk h) (Gm h1 h2) (h3.imp_right fun h=>by simpa using h)
theorem Ha {b:List UInt8} {v:Int} (h:bf v=true) (h1:(aQ b).2=0) (h2:du (aQ b).1 v=0) (h3:bt (bk (bO (aQ b).1 (aT v))) (bX (aQ b).1 (aT v)) v=0) (h4:decide (aF (bk (bO (aQ b).1 (aT v))) (bX (aQ b).1 (aT v)) v=b)=true):aI b v=⟨bk (bO (aQ b).1 (aT v)),bX (aQ b).1 (aT v),0⟩:=
 EW (Fk h) (Gm h1 h2) ⟨h3,of_decide_eq_true h4⟩
def dc (x:Field):Field:=⟨x.num,x.wire,⟨x.n.n % 18446744073709551616⟩,x.b.take 100⟩
def bH (l:List Field):List Field:=(l.take 20).map dc
theorem sZ {l:List Field} {k:Nat} {x:Field} (hx:l[k]? = some x) (hn:x.n.n<18446744073709551616):(l.take k).map dc++[⟨x.num,x.wire,x.n,x.b.take 100⟩]=(l.take (k+1)).map dc:=by
 rw [aj hx,List.map_append]; unfold dc; simp only [List.map_cons,List.map_nil,Nat.mod_eq_of_lt hn]
theorem vm {l:List Field} {k:Nat} {x:Field} (hx:l[k]? = some x) (hn:x.n.n<18446744073709551616) (h:x.b.length<=100):(l.take k).map dc++[x]=(l.take (k+1)).map dc:=by
 have:=sZ hx hn
 rw [List.take_of_length_le h] at this; exact this
theorem wG {l:List Field} {k:Nat} (h:(k<=l.length/\k<=20)/\(l.length<=k\/20<=k)):(l.take k).map dc=bH l:=by
 unfold bH
 obtain ⟨⟨h1,h2⟩,h | h⟩:=h
 ·rw [List.take_of_length_le h,List.take_of_length_le (by omega)]
 ·rw [show k=20 by omega]
theorem tB (l:List Field):(bH l).length<=20:=by unfold bH; rw [List.length_map,List.length_take]; exact Nat.min_le_left _ _
theorem rC (l:List Field):∀ f ∈ bH l,jH f:=by
 intro f hf
 obtain ⟨x,_,rfl⟩:=List.mem_map.1 hf
 exact Nat.mod_lt _ (by decide)
theorem BJ {a b:List Field} {k:Nat} (ha:k<a.length) (hb:k<b.length) (h:(((¬ (a.getD k (aC (.nm .field))).num=(b.getD k (aC (.nm .field))).num\/¬ (a.getD k (aC (.nm .field))).wire=(b.getD k (aC (.nm .field))).wire)\/¬ ((a.getD k (aC (.nm .field))).n.n:Int)=((b.getD k (aC (.nm .field))).n.n:Int))\/¬ Str.mk (a.getD k (aC (.nm .field))).b=Str.mk (b.getD k (aC (.nm .field))).b)):false=decide (a=b):=
 Aq (tA ha) (tA hb) fun e=>by rw [e] at h; simp at h
theorem CR {a b:List Field} {k:Nat} (h:a.take k=b.take k) (ha:k<a.length) (hb:k<b.length) (h1:(a.getD k (aC (.nm .field))).num=(b.getD k (aC (.nm .field))).num) (h2:(a.getD k (aC (.nm .field))).wire=(b.getD k (aC (.nm .field))).wire) (h3:((a.getD k (aC (.nm .field))).n.n:Int)=((b.getD k (aC (.nm .field))).n.n:Int)) (h4:Str.mk (a.getD k (aC (.nm .field))).b=Str.mk (b.getD k (aC (.nm .field))).b):a.take (k+1)=b.take (k+1):=
 tT h (tA ha) (tA hb) (yO ⟨⟨⟨h1,h2⟩,h3⟩,congrArg Str.b h4⟩)
def vc (l:List Field):List (Nat × LI):=[(3,{ σ:=Nat,F:=fun k=>([(0,one (.fz (.nm .field) (l))),(3,one (.own 0)),(4,one (.int k))],[.row 58 (.nm .field) (((l.take k).map dc))]),J:=fun k=>k<=l.length/\k<=20,μ:=fun k=>20 - k })]
def vG (a:List Field) (b:List Field):List (Nat × LI):=[(4,{ σ:=Nat,F:=fun k=>([(0,one (.fz (.nm .field) (a))),(1,one (.fz (.nm .field) (b))),(5,one (.int k))],[]),J:=fun k=>k<=a.length/\a.take k=b.take k,μ:=fun k=>a.length - k })]
theorem zG (b:List UInt8) (v:Int) (r0:Command) (r1:List Field) (r2:Int):dh aK qi [] Try.f8 [.c (.fz .u8 (b)),.c (.int (v))] [] [.agg (cellsOf (.nm .command) r0),.c (.fz (.nm .field) (r1)),.c (.int (r2))]=((fun (q8:Nat)=>(fun (q7:Int)=>(fun (q6:Prop)=>(fun (q5:Prop)=>(fun (q4:List Field)=>(fun (q3:List Field)=>(fun (q2:Int)=>(fun (q1:Command)=>(fun (q0:Prop)=>b.length*(1:Nat)<=q8->I64 v->(bf v=false->q2=r0.kind/\q2=r0.client/\q2=r0.seq/\q2=r0.set/\q2=r0.id/\q2=r0.n/\q6/\q5/\r1=[]/\(1:Int)=r2)/\(bf v=true->q4.length*(48:Nat)<=q8->I64 q7->(q7=q2->(1:Int)=(1:Int)/\(I64 (du q4 v)->(¬du q4 v=q2->q2=r0.kind/\q2=r0.client/\q2=r0.seq/\q2=r0.set/\q2=r0.id/\q2=r0.n/\q6/\q5/\r1=[]/\du q4 v=r2)/\(du q4 v=q2->q0)))/\(¬q7=q2->(¬q7=q2->q2=r0.kind/\q2=r0.client/\q2=r0.seq/\q2=r0.set/\q2=r0.id/\q2=r0.n/\q6/\q5/\r1=[]/\q7=r2)/\(q7=q2->q0)))) ((1:Int)=(1:Int)/\(I64 (aT v)->(bO q4 (aT v)).length*(48:Nat)<=q8->q3.length*(48:Nat)<=q8->(∀ (f:Field),List.Mem f (bO q4 (aT v))->f.b.length<=(16384:Nat))/\(I64 q1.kind->I64 q1.client->I64 q1.seq->I64 q1.set->I64 q1.id->I64 q1.n->q1.chunks.length*(8:Nat)<=q8->q1.text.b.length<=q8->q3.length<=(20000:Nat)/\(I64 (bt q1 q3 v)->(¬bt q1 q3 v=q2\/decide (aF q1 q3 v=b)=false->q2=r0.kind/\q2=r0.client/\q2=r0.seq/\q2=r0.set/\q2=r0.id/\q2=r0.n/\q6/\q5/\r1=[]/\(6:Int)=r2)/\(bt q1 q3 v=q2/\decide (aF q1 q3 v=b)=true->q1.kind=r0.kind/\q1.client=r0.client/\q1.seq=r0.seq/\q1.set=r0.set/\q1.id=r0.id/\q1.n=r0.n/\q1.chunks=r0.chunks/\q1.text=r0.text/\q3=r1/\q2=r2)))))) (bk (bO q4 (aT v)))) (0:Int)) (bX q4 (aT v))) (aQ b).fst) (Str.mk []=r0.text)) (r0.chunks=[])) (aQ b).snd) (140737488355328:Nat)):=by kernel_rfl
theorem zX (b:List UInt8) (v:Int):Sat Try.prog (ah aK) 8 [.c (.fz .u8 (b)),.c (.int (v))] [] ⟨[],[.agg (cellsOf (.nm .command) ((aI b v).c)),.c (.fz (.nm .field) (((aI b v).r))),.c (.int (((aI b v).e)))],none,false⟩:=by
 refine aP fJ [] Try.func8 (by decide) (by kernel_rfl) ?_
 rw [zG]
 (repeat' (first | with_reducible refine And.intro ?_ ?_ | with_reducible refine and_imp.2 ?_ | intro))
 all_goals (first | (first | with_reducible rfl | with_reducible assumption | omega | (refine ag ?_ ?_ <;> omega)) | (rw [GX (by with_reducible assumption)] <;> rfl) | (rw [GZ (by with_reducible assumption) (by with_reducible assumption) (by with_reducible assumption)] <;> rfl) | (rw [Hf (by with_reducible assumption) (by with_reducible assumption)] <;> rfl) | (rw [Hh (by with_reducible assumption) (by with_reducible assumption) (by with_reducible assumption) (by assumption)] <;> rfl) | (rw [Ha (by with_reducible assumption) (by with_reducible assumption) (by with_reducible assumption) (by with_reducible assumption) (by with_reducible assumption)] <;> rfl) | exact (CD (Gm (by with_reducible assumption) (by with_reducible assumption)) _ (by assumption)) | (have h1:=gW (aQ b).1 (aT v); have h2:=sB b; omega))
theorem zu (l:List Field) (r0:List Field):dh aK qi (vc l) Try.f13 [.c (.fz (.nm .field) (l))] [] [.c (.fz (.nm .field) (r0))]=((fun (q0:Nat)=>l.length*(48:Nat)<=(140737488355328:Nat)->∃ (s0:Nat),(l=l/\(0:Int)=(↑s0:Int)/\List.map dc (List.take s0 l)=[])/\(s0<=l.length/\s0<=q0)/\∀ (s:Nat),(fun (q2:List (den (Sh.nm NT.field)))=>(fun (q1:Int)=>s<=l.length/\s<=q0->((↑s:Int)<(↑l.length:Int)/\(↑s:Int)<(20:Int)->(0:Int)<=(↑s:Int)/\(↑s:Int)<(↑l.length:Int)/\∀ (x:Field),(fun (q3:Field)=>l[s]? = some x->I64 x.num->I64 x.wire->x.n.n<(18446744073709551616:Nat)->x.b.length*(1:Nat)<=(140737488355328:Nat)->((100:Int)<(↑x.b.length:Int)->(0:Int)<=(100:Int)/\(100:Int)<=(↑x.b.length:Int)/\(q2.length+[q3].length)*(48:Nat)<=(140737488355328:Nat)/\I64 q1/\∃ (s':Nat),(l=l/\q1=(↑s':Int)/\q2++[q3]=List.map dc (List.take s' l))/\(s' <= l.length/\s' <= q0)/\q0 - s' < q0 - s)/\((↑x.b.length:Int)<=(100:Int)->(q2.length+[x].length)*(48:Nat)<=(140737488355328:Nat)/\I64 q1/\∃ (s':Nat),(l=l/\q1=(↑s':Int)/\q2++[x]=List.map dc (List.take s' l))/\(s' <= l.length/\s' <= q0)/\q0 - s' < q0 - s)) (Field.mk x.num x.wire x.n (List.take (100:Nat) x.b)))/\((↑l.length:Int)<=(↑s:Int)\/(20:Int)<=(↑s:Int)->q2=r0)) ((↑s:Int)+(1:Int))) (List.map dc (List.take s l))) (20:Nat)):=by kernel_rfl
theorem Aa (l:List Field):Sat Try.prog (ah aK) 13 [.c (.fz (.nm .field) (l))] [] ⟨[],[.c (.fz (.nm .field) ((bH l)))],none,false⟩:=by
 refine aP fJ (vc l) Try.func13 (by decide) (by kernel_rfl) ?_
 rw [zu]
 (repeat' (first | with_reducible refine And.intro ?_ ?_ | with_reducible refine and_imp.2 ?_ | intro))
 all_goals try (first | (first | with_reducible rfl | with_reducible assumption | omega | (refine ag ?_ ?_ <;> omega)) | exact rfl | exact (sZ (by with_reducible assumption) (by with_reducible assumption)) | exact (vm (by with_reducible assumption) (by with_reducible assumption) (by omega)) | exact (wG (by omega)) | (rw [List.length_map,List.length_take]; simp only [List.length_cons,List.length_nil]; omega))
 all_goals try (refine ⟨0,?_⟩; (repeat' (first | with_reducible refine And.intro ?_ ?_ | with_reducible refine and_imp.2 ?_ | intro)))
 all_goals try (first | (first | with_reducible rfl | with_reducible assumption | omega | (refine ag ?_ ?_ <;> omega)) | exact rfl | exact (sZ (by with_reducible assumption) (by with_reducible assumption)) | exact (vm (by with_reducible assumption) (by with_reducible assumption) (by omega)) | exact (wG (by omega)) | (rw [List.length_map,List.length_take]; simp only [List.length_cons,List.length_nil]; omega))
 all_goals try (refine ⟨‹Nat› + 1,?_⟩; (repeat' (first | with_reducible refine And.intro ?_ ?_ | with_reducible refine and_imp.2 ?_ | intro)))
 all_goals (first | (first | with_reducible rfl | with_reducible assumption | omega | (refine ag ?_ ?_ <;> omega)) | exact rfl | exact (sZ (by with_reducible assumption) (by with_reducible assumption)) | exact (vm (by with_reducible assumption) (by with_reducible assumption) (by omega)) | exact (wG (by omega)) | (rw [List.length_map,List.length_take]; simp only [List.length_cons,List.length_nil]; omega))
theorem yz (a:List Field) (b:List Field) (r0:Bool):dh aK qi (vG a b) Try.f11 [.c (.fz (.nm .field) (a)),.c (.fz (.nm .field) (b))] [] [.c (.bool (.atom (r0)))]=((fun (q6:Nat)=>(fun (q5:Nat)=>(fun (q4:Int)=>(fun (q3:Int)=>(fun (q2:Nat)=>(fun (q1:Int)=>(fun (q0:den (Sh.nm NT.field))=>a.length*(48:Nat)<=q2->b.length*(48:Nat)<=q2->(¬q1=q3->false=r0)/\(q1=q3->∃ (s0:Nat),(a=a/\b=b/\q4=(↑s0:Int))/\(s0<=a.length/\List.take s0 a=List.take s0 b)/\∀ (s:Nat),(fun (q10:Int)=>(fun (q9:den (Sh.nm NT.field))=>(fun (q8:den (Sh.nm NT.field))=>(fun (q7:Prop)=>s<=a.length/\List.take s a=List.take s b->(q10<q1->q4<=q10/\q10<q1/\q4<=q10/\q10<q3/\(q8.num=q9.num->q4<=q10/\q10<q1)/\(q8.num=q9.num->q4<=q10/\q10<q3)/\(q7->q4<=q10/\q10<q1)/\(q7->q4<=q10/\q10<q3)/\(q7/\(↑q8.n.n:Int)=(↑q9.n.n:Int)->q4<=q10/\q10<q1)/\(q7/\(↑q8.n.n:Int)=(↑q9.n.n:Int)->q4<=q10/\q10<q3)/\(I64 q8.num->I64 q8.wire->q8.n.n<q6->q8.b.length*q5<=q2->I64 q9.num->I64 q9.wire->q9.n.n<q6->q9.b.length*q5<=q2->(q8.num=q9.num->I64 q8.num/\I64 q8.wire/\q8.n.n<q6/\q8.b.length*q5<=q2)->(q8.num=q9.num->I64 q9.num/\I64 q9.wire/\q9.n.n<q6/\q9.b.length*q5<=q2)->(q7->I64 q8.num/\I64 q8.wire/\q8.n.n<q6/\q8.b.length*q5<=q2)->(q7->I64 q9.num/\I64 q9.wire/\q9.n.n<q6/\q9.b.length*q5<=q2)->(q7/\(↑q8.n.n:Int)=(↑q9.n.n:Int)->I64 q8.num/\I64 q8.wire/\q8.n.n<q6/\q8.b.length*q5<=q2)->(q7/\(↑q8.n.n:Int)=(↑q9.n.n:Int)->I64 q9.num/\I64 q9.wire/\q9.n.n<q6/\q9.b.length*q5<=q2)->(((¬q8.num=q9.num\/¬q8.wire=q9.wire)\/¬(↑q8.n.n:Int)=(↑q9.n.n:Int))\/¬Str.mk q8.b=Str.mk q9.b->false=r0)/\((q7/\(↑q8.n.n:Int)=(↑q9.n.n:Int))/\Str.mk q8.b=Str.mk q9.b->I64 (q10+(1:Int))/\∃ (s':Nat),(a=a/\b=b/\q10+(1:Int)=(↑s':Int))/\(s' <= a.length/\List.take s' a=List.take s' b)/\a.length - s' < a.length - s)))/\(q1<=q10->true=r0)) (q8.num=q9.num/\q8.wire=q9.wire)) (a.getD s q0)) (b.getD s q0)) (↑s:Int))) (aC (Sh.nm NT.field))) (↑a.length:Int)) (140737488355328:Nat)) (↑b.length:Int)) (0:Int)) (1:Nat)) (18446744073709551616:Nat)):=by kernel_rfl
theorem AP (a:List Field) (b:List Field):Sat Try.prog (ah aK) 11 [.c (.fz (.nm .field) (a)),.c (.fz (.nm .field) (b))] [] ⟨[],[.c (.bool (.atom ((decide (a=b)))))],none,false⟩:=by
 refine aP fJ (vG a b) Try.func11 (by decide) (by kernel_rfl) ?_
 rw [yz]
 (repeat' (first | with_reducible refine And.intro ?_ ?_ | with_reducible refine and_imp.2 ?_ | intro))
 all_goals try (first | (first | with_reducible rfl | with_reducible assumption | omega | (refine ag ?_ ?_ <;> omega)) | exact rfl | exact (ka (by with_reducible assumption)) | exact (BJ (k:=‹Nat›) (by omega) (by omega) (by assumption)) | exact (CR (by with_reducible assumption) (by omega) (by omega) (by with_reducible assumption) (by with_reducible assumption) (by with_reducible assumption) (by with_reducible assumption)) | exact (kQ (by with_reducible assumption) (by omega) (by omega)))
 all_goals try (refine ⟨0,?_⟩; (repeat' (first | with_reducible refine And.intro ?_ ?_ | with_reducible refine and_imp.2 ?_ | intro)))
 all_goals try (first | (first | with_reducible rfl | with_reducible assumption | omega | (refine ag ?_ ?_ <;> omega)) | exact rfl | exact (ka (by with_reducible assumption)) | exact (BJ (k:=‹Nat›) (by omega) (by omega) (by assumption)) | exact (CR (by with_reducible assumption) (by omega) (by omega) (by with_reducible assumption) (by with_reducible assumption) (by with_reducible assumption) (by with_reducible assumption)) | exact (kQ (by with_reducible assumption) (by omega) (by omega)))
 all_goals try (refine ⟨‹Nat› + 1,?_⟩; (repeat' (first | with_reducible refine And.intro ?_ ?_ | with_reducible refine and_imp.2 ?_ | intro)))
 all_goals (first | (first | with_reducible rfl | with_reducible assumption | omega | (refine ag ?_ ?_ <;> omega)) | exact rfl | exact (ka (by with_reducible assumption)) | exact (BJ (k:=‹Nat›) (by omega) (by omega) (by assumption)) | exact (CR (by with_reducible assumption) (by omega) (by omega) (by with_reducible assumption) (by with_reducible assumption) (by with_reducible assumption) (by with_reducible assumption)) | exact (kQ (by with_reducible assumption) (by omega) (by omega)))
theorem CC (c:Command) (r0:Command):dh aK qi [] Try.f12 [.agg (cellsOf (.nm .command) c)] [] [.agg (cellsOf (.nm .command) r0)]=((fun (q10:Prop)=>(fun (q9:Prop)=>(fun (q8:Prop)=>(fun (q7:Prop)=>(fun (q6:Nat)=>(fun (q5:Prop)=>(fun (q4:Prop)=>(fun (q3:Int)=>(fun (q2:Prop)=>(fun (q1:Prop)=>(fun (q0:Int)=>I64 c.kind->I64 c.client->I64 c.seq->I64 c.set->I64 c.id->I64 c.n->q6*(8:Nat)<=(140737488355328:Nat)->c.text.b.length<=(140737488355328:Nat)->((12:Int)<(↑q6:Int)->(0:Int)<=(12:Int)/\(12:Int)<=(↑q6:Int)/\(q3<q0->(0:Int)<=q3/\q3<=q0/\q2/\q1/\q4/\q5/\q7/\q10/\q9/\q8)/\(q0<=q3->q2/\q1/\q4/\q5/\q7/\q10/\q9/\c.text=r0.text))/\((↑q6:Int)<=(12:Int)->(q3<q0->(0:Int)<=q3/\q3<=q0/\q2/\q1/\q4/\q5/\q7/\q10/\c.chunks=r0.chunks/\q8)/\(q0<=q3->q2/\q1/\q4/\q5/\q7/\q10/\c.chunks=r0.chunks/\c.text=r0.text))) (↑c.text.b.length:Int)) (c.client=r0.client)) (c.kind=r0.kind)) (40:Int)) (c.seq=r0.seq)) (c.set=r0.set)) c.chunks.length) (c.id=r0.id)) (Str.mk (List.take (40:Nat) c.text.b)=r0.text)) (List.take (12:Nat) c.chunks=r0.chunks)) (c.n=r0.n)):=by kernel_rfl
theorem BT (c:Command):Sat Try.prog (ah aK) 12 [.agg (cellsOf (.nm .command) c)] [] ⟨[],[.agg (cellsOf (.nm .command) (cG c))],none,false⟩:=by
 refine aP fJ [] Try.func12 (by decide) (by kernel_rfl) ?_
 rw [CC]
 simp only [cG,Str.cut]; (repeat' (first | refine And.intro ?_ ?_ | intro)) <;> first | trivial | rfl | omega | (symm; exact List.take_of_length_le (by omega)) | exact yc (by omega)
theorem xz  (r0:Bool):dh aK qi [] Try.f6 [] [] [.c (.bool (.atom (r0)))]=((fun (q2:Int)=>(fun (q1:Str)=>(fun (q0:Command)=>(0:Nat)<=(20000:Nat)/\(I64 (bt q0 [] (1:Int))->(Str.mk (aF q0 [] (1:Int))=q1/\bt q0 [] (1:Int)=q2->I64 (bc (11:Int)))->(decide (Str.mk (aF q0 [] (1:Int))=q1) && decide (bt q0 [] (1:Int)=q2) && decide (bc (11:Int)=(3:Int)))=r0)) (Command.mk (8:Int) q2 q2 q2 q2 (2:Int) [] (Str.mk []))) (Str.mk [UInt8.ofNat (8:Nat),UInt8.ofNat (8:Nat),UInt8.ofNat (48:Nat),UInt8.ofNat (2:Nat)])) (0:Int)):=by kernel_rfl
theorem vn :Sat Try.prog (ah aK) 6 [] [] ⟨[],[.c (.bool (.atom ((true))))],none,false⟩:=by
 refine aP fJ [] Try.func6 (by decide) (by kernel_rfl) ?_
 rw [xz]
 (repeat' (first | with_reducible refine And.intro ?_ ?_ | with_reducible refine and_imp.2 ?_ | intro))
 all_goals (first | (first | with_reducible rfl | with_reducible assumption | omega | (refine ag ?_ ?_ <;> omega)) | decide +kernel)
noncomputable def EC:cA:=(cH 6 (ck ba bb fun (_) (_)=>⟨[],[.c (.bool (.atom ((true))))],none,false⟩) (cH 12 (ck (ai (kT (.nm .command)) ba) bb fun (c,_) (_)=>⟨[],[.agg (cellsOf (.nm .command) (cG c))],none,false⟩) (cH 11 (ck (ai (kC (cL (.nm .field))) (ai (kC (cL (.nm .field))) ba)) bb fun (a,b,_) (_)=>⟨[],[.c (.bool (.atom ((decide (a=b)))))],none,false⟩) (cH 13 (ck (ai (kC (cL (.nm .field))) ba) bb fun (l,_) (_)=>⟨[],[.c (.fz (.nm .field) ((bH l)))],none,false⟩) (cH 8 (ck (ai (kC (cL .u8)) (ai (kC cI) ba)) bb fun (b,v,_) (_)=>⟨[],[.agg (cellsOf (.nm .command) ((aI b v).c)),.c (.fz (.nm .field) (((aI b v).r))),.c (.int (((aI b v).e)))],none,false⟩) qi)))))
theorem zx:aS Try.prog (ah aK) EC:=(aq (au al ak fun (_) (_) _=>vn  ) (aq (au (ab cE al) ak fun (c,_) (_) _=>BT c ) (aq (au (ab (aw bA) (ab (aw bA) al)) ak fun (a,b,_) (_) _=>AP a b ) (aq (au (ab (aw bA) al) ak fun (l,_) (_) _=>Aa l ) (aq (au (ab (aw bA) (ab (aw bh) al)) ak fun (b,v,_) (_) _=>zX b v ) fJ)))))
end Go.Proofs.Ytladifkbefehdaa
namespace Go.Proofs.Ytladifkbefehdaa
open Go.RowKit
theorem tR (l:List Field):(dO l).length<=16384:=by
 unfold dO
 split
 ·rename_i h; have:=fD (k:=l.length) h; rw [List.take_length] at this; exact this
 ·exact Nat.zero_le _
theorem ue (c:Command) (r:List Field) (v:Int):(aF c r v).length<=16384:=by
 unfold aF
 split
 ·exact tR _
 ·exact Nat.zero_le _
theorem rU (k:UInt8):0<=((k.toNat:Nat):Int).tmod 3/\((k.toNat:Nat):Int).tmod 3<=2:=by
 rw [Int.tmod_eq_emod_of_nonneg (by omega)]; omega
theorem Df {c:Command} (h1:I64 c.kind) (h2:I64 c.client) (h3:I64 c.seq) (h4:I64 c.set) (h5:I64 c.id) (h6:I64 c.n):I6 (cG c):=⟨h1.2,h2.2,h3.2,h4.2,h5.2,h6.2⟩
theorem GG {b:List UInt8} {v:Int}:(aI b v).r.length<=16384:=by
 have h1:=gW (aQ b).1 (aT v)
 have h2:=sB b
 unfold aI
 split
 ·split
  ·split
   ·exact Nat.le_trans h1 h2
   ·exact Nat.zero_le _
  ·exact Nat.zero_le _
 ·exact Nat.zero_le _
end Go.Proofs.Ytladifkbefehdaa
namespace Go.Proofs.Ytladifkbefehdaa
open Go.RowKit
def jE (c:Command) (l:List Field) (w v:Int):List Field:=(if w=3/\v<3 then hY 8 c.text.b else [])++l
theorem rk {c:Command} {l:List Field} {w v:Int} (hw:1<=w/\w<=3) (hvw:v<=w):av (bQ c v) v++jE c l w v=av c w++l:=by
 by_cases h3:3<=v
 ·have e1:v=3:=by omega
  have e2:w=3:=by omega
  subst e1; subst e2
  rw [yb]; unfold jE; rw [if_neg (by omega)]; rfl
 ·unfold jE
  rw [show av (bQ c v) v=bP c by unfold av; rw [if_neg h3]; rfl]
  by_cases h33:w=3
  ·rw [if_pos ⟨h33,by omega⟩,<- List.append_assoc,show av c w=bP c++hY 8 c.text.b by unfold av; rw [if_pos (by omega)]]
  ·rw [if_neg (fun h=>h33 h.1),show av c w=bP c by unfold av; rw [if_neg (by omega)]]; rfl
theorem nc {n m:Int} {b:Bool} (h:gr n m b=true) (hm:0<=m):0<=n/\n<=m:=by
 unfold gr at h; cases b <;> simp at h <;> omega
theorem zh {k:Int} (h:1<=k/\k<=12):(kv k).2<=64:=by
 have:k=1\/k=2\/k=3\/k=4\/k=5\/k=6\/k=7\/k=8\/k=9\/k=10\/k=11\/k=12:=by omega
 rcases this with rfl | rfl | rfl | rfl | rfl | rfl | rfl | rfl | rfl | rfl | rfl | rfl <;> decide
theorem Dn {c:Command} {w v:Int} (hw:1<=w/\w<=3) (hv:1<=v) (hvw:v<=w) (h:bS c w=true\/cw c w=0):bS (bQ c v) v=true\/cw (bQ c v) v=0:=by
 by_cases h3:v=3
 ·have e:w=3:=by omega
  subst h3; subst e; rw [yb]; exact h
 ·have hn:bQ c v=Command.mk c.kind c.client c.seq c.set c.id c.n c.chunks ⟨[]⟩:=by unfold bQ; rw [if_pos (by omega)]
  rcases h with h | h
  ·left
   rw [hn]
   unfold bS at h ⊢
   simp only [Bool.and_eq_true,Bool.or_eq_true,decide_eq_true_eq] at h ⊢
   obtain ⟨⟨⟨⟨h1,h2⟩,h4⟩,h5⟩,_⟩:=h
   exact ⟨⟨⟨⟨h1,h2.imp_right (fun h=>by omega)⟩,h4⟩,h5⟩,.inl rfl⟩
  ·obtain ⟨_,hn0,hl,hf⟩:=fx h
   have hr:=gm hn0
   by_cases hk:bc c.kind<=v
   ·right
    have hm:cw c v=0:=by rw [BM ⟨hv,by omega⟩ hn0 hk,hf]; rfl
    have ht:=ox hm (by omega)
    rw [hn,<- ht]; exact hm
   ·left
    have hs:=tc hr
    have hs2:=zh hr
    unfold eC at hf
    simp only [Bool.and_eq_true,decide_eq_true_eq] at hf
    obtain ⟨⟨⟨⟨⟨⟨⟨a1,a2⟩,a3⟩,_⟩,a4⟩,a5⟩,a6⟩,a7⟩:=hf
    have b4:=nc a4 (by decide)
    have b5:=nc a5 (by decide)
    have b6:=nc a6 (by decide)
    have b7:=nc a7 (by decide)
    have hc:((c.chunks.length:Nat):Int)=0\/rowF c.chunks=true:=by
     unfold EB at a3
     split at a3
     ·exact .inr a3
     ·exact .inl (of_decide_eq_true a3)
    rw [hn]
    unfold bS ko eb
    simp only [Bool.and_eq_true,Bool.or_eq_true,decide_eq_true_eq]
    exact ⟨⟨⟨⟨by omega,by omega⟩,⟨⟨⟨⟨by omega,by omega⟩,by omega⟩,by omega⟩,by omega⟩⟩,hc⟩,.inl rfl⟩
theorem Ao {c:Command} {l:List Field} {w v:Int} (hw:1<=w/\w<=3) (hv:1<=v) (hvw:v<=w) (hr:∀ f ∈ l,aT w<f.num):∀ f ∈ jE c l w v,aT v<f.num:=by
 have htv:=vx (v:=v) ⟨hv,by omega⟩
 have htw:=vx (v:=w) hw
 have hle:aT v<=aT w:=by rw [htv,htw]; split <;> split <;> omega
 intro f hf
 unfold jE at hf
 rcases List.mem_append.1 hf with hf | hf
 ·split at hf
  ·have:=(qo hf).1
   rw [htv,if_neg (by omega)]; omega
  ·cases hf
 ·have:=hr f hf; omega
theorem sH {c:Command} {l:List Field} {w v:Int} (h:bt c l w=0) (hv:1<=v) (hvw:v<=w):bt (bQ c v) (jE c l w v) v=0/\aF (bQ c v) (jE c l w v) v=aF c l w:=by
 obtain ⟨⟨hw,ho,hr⟩,hm,hb⟩:=mn h
 have e:=rk (c:=c) (l:=l) hw hvw
 have hall:=Ao (c:=c) hw hv hvw hr
 have hbad:bG (bQ c v) (jE c l w v) v=0:=EU (k:=(jE c l w v).length) (by unfold eb; rw [decide_eq_true hv,decide_eq_true (show v<=3 by omega)]; rfl) (Dn hw hv hvw ho) (fun j y _ hy=>by have:=hall y (List.mem_of_getElem? hy); omega) (Nat.le_refl _)
 exact ⟨by rw [bt,if_pos hbad,e,hm],by rw [aF,if_pos hbad,e,hb]⟩
theorem Ea {c:Command} {l:List Field} {w v:Int} (hu:∀ f ∈ l,jH f):∀ f ∈ jE c l w v,jH f:=by
 intro f hf
 unfold jE at hf
 rcases List.mem_append.1 hf with hf | hf
 ·split at hf
  ·exact qq f hf
  ·cases hf
 ·exact hu f hf
theorem EJ {c:Command} {l:List Field} {w v:Int} (hi:I6 (cG c)) (h:bt (cG c) (bH l) w=0) (hv:1<=v) (hvw:v<=w):aI (aF (cG c) (bH l) w) v=⟨bQ (cG c) v,jE (cG c) (bH l) w v,0⟩:=by
 obtain ⟨h1,h2⟩:=sH h hv hvw
 rw [<- h2]
 exact pU h1 hi (Ea (rC l))
theorem Hj {c:Command} {l:List Field} {w v:Int} (hi:I6 (cG c)) (h:bt (cG c) (bH l) w=0) (hv:1<=v) (hvw:v<=w):(true && decide ((aI (aF (cG c) (bH l) w) v).e=0) && decide ((aI (aF (cG c) (bH l) w) v).c=bQ (cG c) v) && decide (bt (aI (aF (cG c) (bH l) w) v).c (aI (aF (cG c) (bH l) w) v).r v=0) && decide (Str.mk (aF (aI (aF (cG c) (bH l) w) v).c (aI (aF (cG c) (bH l) w) v).r v)=Str.mk (aF (cG c) (bH l) w)) && decide ((aI (aF (aI (aF (cG c) (bH l) w) v).c (aI (aF (cG c) (bH l) w) v).r v) w).e=0) && decide ((aI (aF (aI (aF (cG c) (bH l) w) v).c (aI (aF (cG c) (bH l) w) v).r v) w).c=cG c) && decide ((aI (aF (aI (aF (cG c) (bH l) w) v).c (aI (aF (cG c) (bH l) w) v).r v) w).r=bH l))=true:=by
 obtain ⟨h1,h2⟩:=sH h hv hvw
 rw [EJ hi h hv hvw]
 dsimp only
 rw [h1,h2,pU h hi (rC l)]
 simp
theorem yW (c:Command) (y:Rest) (old:UInt8) (r0:Bool):dh aK EC [] Try.f5 [.agg (cellsOf (.nm .command) c),.agg (cellsOf (.nm .rest) y),.c (.u8 (old))] [] [.c (.bool (.atom (r0)))]=((fun (q6:Int)=>(fun (q5:List Field)=>(fun (q4:Command)=>(fun (q3:Nat)=>(fun (q2:Int)=>(fun (q1:Int)=>(fun (q0:TkR)=>I64 c.kind->I64 c.client->I64 c.seq->I64 c.set->I64 c.id->I64 c.n->c.chunks.length*(8:Nat)<=q3->c.text.b.length<=q3->y.fields.length*(48:Nat)<=q3->I64 q4.kind->I64 q4.client->I64 q4.seq->I64 q4.set->I64 q4.id->I64 q4.n->q4.chunks.length*(8:Nat)<=q3->q4.text.b.length<=q3->q5.length*(48:Nat)<=q3->q6<=(↑y.at_.toNat:Int)/\q6<(3:Int)/\I64 q2/\q6<=(↑old.toNat:Int)/\q6<(3:Int)/\I64 q1/\q5.length<=(20000:Nat)/\(I64 (bt q4 q5 q2)->(¬bt q4 q5 q2=q6\/q2<q1->true=r0)/\(bt q4 q5 q2=q6/\q1<=q2->(aF q4 q5 q2).length*(1:Nat)<=q3/\(I64 q0.c.kind->I64 q0.c.client->I64 q0.c.seq->I64 q0.c.set->I64 q0.c.id->I64 q0.c.n->q0.c.chunks.length*(8:Nat)<=q3->q0.c.text.b.length<=q3->q0.r.length*(48:Nat)<=q3->I64 q0.e->I64 (bQ q4 q1).kind->I64 (bQ q4 q1).client->I64 (bQ q4 q1).seq->I64 (bQ q4 q1).set->I64 (bQ q4 q1).id->I64 (bQ q4 q1).n->(bQ q4 q1).chunks.length*(8:Nat)<=q3->(bQ q4 q1).text.b.length<=q3->q0.r.length<=(20000:Nat)/\(I64 (bt q0.c q0.r q1)->I64 (aI (aF q0.c q0.r q1) q2).c.kind->I64 (aI (aF q0.c q0.r q1) q2).c.client->I64 (aI (aF q0.c q0.r q1) q2).c.seq->I64 (aI (aF q0.c q0.r q1) q2).c.set->I64 (aI (aF q0.c q0.r q1) q2).c.id->I64 (aI (aF q0.c q0.r q1) q2).c.n->(aI (aF q0.c q0.r q1) q2).c.chunks.length*(8:Nat)<=q3->(aI (aF q0.c q0.r q1) q2).c.text.b.length<=q3->(aI (aF q0.c q0.r q1) q2).r.length*(48:Nat)<=q3->I64 (aI (aF q0.c q0.r q1) q2).e->(true && decide (q0.e=q6) && decide (q0.c=bQ q4 q1) && decide (bt q0.c q0.r q1=q6) && decide (Str.mk (aF q0.c q0.r q1)=Str.mk (aF q4 q5 q2)) && decide ((aI (aF q0.c q0.r q1) q2).e=q6) && decide ((aI (aF q0.c q0.r q1) q2).c=q4) && decide ((aI (aF q0.c q0.r q1) q2).r=q5))=r0))))) (aI (aF q4 q5 q2) q1)) ((1:Int)+(↑old.toNat:Int).tmod (3:Int))) ((1:Int)+(↑y.at_.toNat:Int).tmod (3:Int))) (140737488355328:Nat)) (cG c)) (bH y.fields)) (0:Int)):=by kernel_rfl
theorem zR (c:Command) (y:Rest) (old:UInt8):Sat Try.prog (ah aK) 5 [.agg (cellsOf (.nm .command) c),.agg (cellsOf (.nm .rest) y),.c (.u8 (old))] [] ⟨[],[.c (.bool (.atom ((true))))],none,false⟩:=by
 refine aP zx [] Try.func5 (by decide) (by kernel_rfl) ?_
 rw [yW]
 (repeat' (first | with_reducible refine And.intro ?_ ?_ | with_reducible refine and_imp.2 ?_ | intro))
 all_goals (first | (first | with_reducible rfl | with_reducible assumption | omega | (refine ag ?_ ?_ <;> omega)) | exact (Hj (c:=c) (l:=y.fields) (Df (c:=c) (by with_reducible assumption) (by with_reducible assumption) (by with_reducible assumption) (by with_reducible assumption) (by with_reducible assumption) (by with_reducible assumption)) (by with_reducible assumption) (by have:=rU y.at_; have:=rU old; omega) (by with_reducible assumption)) | exact GG | (have h1:=rU y.at_; have h6:=rU old; have h2:=ue (cG c) (bH y.fields) (1+((y.at_.toNat:Nat):Int).tmod 3); have h3:=tB y.fields; first | omega | (refine ag ?_ ?_ <;> omega)) | (have h4:=GG (b:=aF (cG c) (bH y.fields) (1+((y.at_.toNat:Nat):Int).tmod 3)) (v:=1+((old.toNat:Nat):Int).tmod 3); omega))
end Go.Proofs.Ytladifkbefehdaa
