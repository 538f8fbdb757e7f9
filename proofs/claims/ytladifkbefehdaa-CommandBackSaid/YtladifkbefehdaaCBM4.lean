/- What leads to the law, part 4. Conditions: each lemma's own. -/
import Derived.Test.YtladifkbefehdaaCBM3
set_option linter.unusedVariables false
set_option linter.unusedSimpArgs false
namespace Go.Proofs.Ytladifkbefehdaa
open Go.RowKit
def bt (f:Field):Bool:=(decide (1<=f.num) && decide (f.num<=1000)) && (if f.wire=0 then decide (((f.b.length:Nat):Int)=0) else if f.wire=2 then decide ((f.n.n:Int)=0) else false)
def cW (a f:Field):Bool:=if f.num=a.num then (decide (f.wire=2) && decide (a.wire=2)) else decide (a.num<f.num)
def js (num wire:Int):Bool:=(decide (1<=num) && decide (num<=1000)) && (decide (wire=0) || decide (wire=2))
def cK (num wire:Int):List UInt8:=if js num wire then br ((8*num)+wire).toNat else []
def ql (num wire:Int):Int:=if js num wire then 0 else 1
def aN (f:Field):List UInt8:=if f.wire=0 then cK f.num f.wire++br f.n.n else (cK f.num f.wire++br f.b.length)++f.b
def EX:Option Field->Field->Bool
 | none,_=>true
 | some q,f=>cW q f
def stepT (p:Option Field) (f:Field):Int:=if bt f=false then 1 else if EX p f=false then 5 else if (16384:Int)<((f.b.length:Nat):Int) then 4 else 0
def bM:Option Field->List Field->Int
 | _,[]=>0
 | p,f :: r=>if stepT p f=0 then bM (some f) r else stepT p f
def dq (l:List Field):Nat:=(l.map fun f=>(aN f).length).sum
def bk (l:List Field):Int:=if bM none l=0 then (if (16384:Int)<((dq l:Nat):Int) then 4 else 0) else bM none l
def dR (l:List Field):List UInt8:=if bk l=0 then (l.map aN).flatten else []
def b_ (l:List Field) (k:Nat):Option Field:=if k=0 then none else l[k - 1]?
def nM (l:List Field) (k:Nat) (x:Field):Prop:=(¬ 0<k)\/∃ y,l[k - 1]? = some y/\cW y x=true
theorem wB {num wire:Int} (h:(num<1\/1000<num)\/(¬ wire=0/\¬ wire=2)):js num wire=false:=by
 rw [<- Bool.not_eq_true]; unfold js; simp only [Bool.and_eq_true,Bool.or_eq_true,decide_eq_true_eq]; omega
theorem rV {num wire:Int} (h:¬ ((num<1\/1000<num)\/(¬ wire=0/\¬ wire=2))):js num wire=true:=by
 unfold js; simp only [Bool.and_eq_true,Bool.or_eq_true,decide_eq_true_eq]; omega
theorem rR {num wire:Int} (h:(num<1\/1000<num)\/(¬ wire=0/\¬ wire=2)):[]=cK num wire:=by rw [cK,wB h]; rfl
theorem Au {num wire:Int} (h:(num<1\/1000<num)\/(¬ wire=0/\¬ wire=2)):1=ql num wire:=by rw [ql,wB h]; rfl
theorem oY {num wire:Int} (h:¬ ((num<1\/1000<num)\/(¬ wire=0/\¬ wire=2))):br ((8*num)+wire).toNat=cK num wire:=by rw [cK,rV h]; rfl
theorem ve {num wire:Int} (h:¬ ((num<1\/1000<num)\/(¬ wire=0/\¬ wire=2))):0=ql num wire:=by rw [ql,rV h]; rfl
theorem kx (num wire:Int):(cK num wire).length<=10:=by
 unfold cK
 cases h:js num wire with
 | false=>simp
 | true=>
  unfold js at h; simp only [Bool.and_eq_true,Bool.or_eq_true,decide_eq_true_eq] at h
  exact cf (by omega)
theorem cN {f:Field} (hb:f.b.length<=16384) (hn:f.n.n<18446744073709551616):(aN f).length<=16404:=by
 have h1:=kx f.num f.wire
 unfold aN
 split
 ·have:=cf hn; rw [List.length_append]; omega
 ·have:=cf (n:=f.b.length) (by omega); rw [List.length_append,List.length_append]; omega
theorem zH {f:Field} (h:f.wire=0):cK f.num f.wire++br f.n.n=aN f:=by rw [aN,if_pos h]
theorem yU {f:Field} (h:¬ f.wire=0):(cK f.num f.wire++br f.b.length)++f.b=aN f:=by rw [aN,if_neg h]
theorem jW {l:List Field} {k:Nat} {x:Field} (hx:l[k]? = some x):dq (l.take k)+(aN x).length=dq (l.take (k+1)):=by
 unfold dq; rw [aj hx,List.map_append,List.sum_append]; simp
theorem su {l:List Field} {k:Nat} {x:Field} (hp:nM l k x):EX (b_ l k) x=true:=by
 unfold b_
 rcases hp with h | ⟨y,hy,hr⟩
 ·rw [if_pos (by omega)]; rfl
 ·by_cases hk:k=0
  ·rw [if_pos hk]; rfl
  ·rw [if_neg hk,hy]; exact hr
theorem xF {l:List Field} {k:Nat} {x:Field} (hx:l[k]? = some x):bM (b_ l k) (l.drop k)=if stepT (b_ l k) x=0 then bM (some x) (l.drop (k+1)) else stepT (b_ l k) x:=by
 obtain ⟨hk,he⟩:=List.getElem?_eq_some_iff.1 hx
 rw [List.drop_eq_getElem_cons hk,he]; rfl
theorem uQ {l:List Field} {k:Nat} {x:Field} {e:Int} (hc:bM none l=bM (b_ l k) (l.drop k)) (hx:l[k]? = some x) (he:stepT (b_ l k) x=e) (h0:e≠0):e=bk l:=by
 have h1:bM none l=e:=by rw [hc,xF hx,he,if_neg h0]
 rw [bk,h1,if_neg h0]
theorem qQ {l:List Field} {k:Nat} {x:Field} (hc:bM none l=bM (b_ l k) (l.drop k)) (hx:l[k]? = some x) (ha:bt x=false):1=bk l:=uQ hc hx (by rw [stepT,if_pos ha]) (by decide)
theorem q_ {l:List Field} {k:Nat} {x y:Field} (hc:bM none l=bM (b_ l k) (l.drop k)) (hx:l[k]? = some x) (ha:bt x=true) (h0:0<k) (hy:l[k - 1]? = some y) (hr:cW y x=false):5=bk l:=
 uQ hc hx (by rw [stepT,if_neg (by rw [ha]; decide),if_pos]; unfold b_; rw [if_neg (by omega),hy]; exact hr) (by decide)
theorem qG {l:List Field} {k:Nat} {x:Field} (hc:bM none l=bM (b_ l k) (l.drop k)) (hx:l[k]? = some x) (ha:bt x=true) (hp:nM l k x) (hb:(16384:Int)<((x.b.length:Nat):Int)):4=bk l:=
 uQ hc hx (by rw [stepT,if_neg (by rw [ha]; decide),if_neg (by rw [su hp]; decide),if_pos hb]) (by decide)
theorem ke {l:List Field} {k:Nat} {x:Field} (hc:bM none l=bM (b_ l k) (l.drop k)) (hx:l[k]? = some x) (ha:bt x=true) (hp:nM l k x) (hb:¬ (16384:Int)<((x.b.length:Nat):Int)):bM none l=bM (b_ l (k+1)) (l.drop (k+1)):=by
 rw [hc,xF hx,if_pos (by rw [stepT,if_neg (by rw [ha]; decide),if_neg (by rw [su hp]; decide),if_neg hb])]
 unfold b_; rw [if_neg (by omega),Nat.add_sub_cancel,hx]
theorem sq {l:List Field} {k:Nat} (hc:bM none l=bM (b_ l k) (l.drop k)) (hk:l.length<=k):bM none l=0:=by
 rw [hc,List.drop_of_length_le hk]; rfl
theorem lB {l:List Field} {k:Nat} (hc:bM none l=bM (b_ l k) (l.drop k)) (hk:l.length<=k) (hs:(16384:Int)<((dq (l.take k):Nat):Int)):4=bk l:=by
 rw [List.take_of_length_le hk] at hs; rw [bk,if_pos (sq hc hk),if_pos hs]
theorem lp {l:List Field} {k:Nat} (hc:bM none l=bM (b_ l k) (l.drop k)) (hk:l.length<=k) (hs:¬ (16384:Int)<((dq (l.take k):Nat):Int)):0=bk l:=by
 rw [List.take_of_length_le hk] at hs; rw [bk,if_pos (sq hc hk),if_neg hs]
theorem zq {l:List Field} (h:bk l=0):dq l<=16384:=by
 unfold bk at h
 split at h
 ·split at h
  ·cases h
  ·omega
 ·rename_i h0; exact absurd h h0
theorem rl {l:List Field} (h:bk l=0):bM none l=0:=by
 unfold bk at h
 split at h
 ·assumption
 ·exact h
theorem sB:∀ {l:List Field} {p:Option Field},bM p l=0->∀ x ∈ l,x.b.length<=16384
 | [],_,_,x,hx=>by cases hx
 | f :: r,p,h,x,hx=>by
  unfold bM at h
  split at h
  ·rename_i hs
   rcases List.mem_cons.1 hx with rfl | hx
   ·unfold stepT at hs
    split at hs
    ·cases hs
    ·split at hs
     ·cases hs
     ·split at hs
      ·cases hs
      ·omega
   ·exact sB h x hx
  ·rename_i hs; exact absurd h hs
theorem eE {l:List Field} (h:bk l=0) {x:Field} (hx:x ∈ l):x.b.length<=16384:=sB (rl h) x hx
theorem iO {l:List Field} {k:Nat} {x:Field} (hx:l[k]? = some x):((l.take k).map aN).flatten++aN x=((l.take (k+1)).map aN).flatten:=by
 rw [aj hx,List.map_append,List.flatten_append]; simp
theorem xS (l:List Field):((l.map aN).flatten).length=dq l:=by
 unfold dq; rw [List.length_flatten,List.map_map]; rfl
theorem xm {l:List Field} {k:Nat}:dq (l.take k)<=dq l:=by
 have:dq l=dq (l.take k)+dq (l.drop k):=by unfold dq; rw [<- List.sum_append,<- List.map_append,List.take_append_drop]
 omega
theorem fu {l:List Field} {k:Nat} (h:bk l=0):((l.take k).map aN).flatten.length<=16384:=by
 have:=zq h; have:=xm (l:=l) (k:=k); rw [xS]; omega
theorem nv {l:List Field} {k:Nat} (h:bk l=0) (hk:l.length<=k):((l.take k).map aN).flatten=dR l:=by rw [dR,if_pos h,List.take_of_length_le hk]
theorem qU {l:List Field} (h:¬ bk l=0):[]=dR l:=by rw [dR,if_neg h]
theorem wW {f:Field} (h:f.num<1\/1000<f.num):false=bt f:=by
 have:(decide (1<=f.num) && decide (f.num<=1000))=false:=by rw [<- Bool.not_eq_true]; simp only [Bool.and_eq_true,decide_eq_true_eq]; omega
 unfold bt; rw [this]; rfl
theorem uu {f:Field} (h:¬ (f.num<1\/1000<f.num)):bt f=(if f.wire=0 then decide (((f.b.length:Nat):Int)=0) else if f.wire=2 then decide ((f.n.n:Int)=0) else false):=by
 have:(decide (1<=f.num) && decide (f.num<=1000))=true:=by simp only [Bool.and_eq_true,decide_eq_true_eq]; omega
 unfold bt; rw [this]; rfl
end Go.Proofs.Ytladifkbefehdaa
namespace Go.Proofs.Ytladifkbefehdaa
open Go.RowKit
def aO:List Spec:=([⟨1,0,1,true,false⟩,⟨2,0,1,false,false⟩,⟨3,0,1,false,false⟩,⟨4,0,1,false,false⟩,⟨5,0,1,false,false⟩,⟨6,0,1,false,false⟩,⟨7,2,1,false,false⟩,⟨8,2,3,false,false⟩]:List Spec)
def az (v:Int):List Spec:=if v<1\/3<v then [] else aO.filter fun s=>decide (s.since<=v)
def aQ (v:Int):Int:=(az v).foldl (fun t s=>max t s.num) 0
theorem kR {v:Int} {k:Nat} {x:Spec} (hx:aO[k]? = some x) (h:x.since<=v):(aO.take k).filter (fun s=>decide (s.since<=v))++[x]=(aO.take (k+1)).filter (fun s=>decide (s.since<=v)):=by
 rw [aj hx,List.filter_append]; simp [h]
theorem mK {v:Int} {k:Nat} {x:Spec} (hx:aO[k]? = some x) (h:¬ x.since<=v):(aO.take k).filter (fun s=>decide (s.since<=v))=(aO.take (k+1)).filter (fun s=>decide (s.since<=v)):=by
 rw [aj hx,List.filter_append]; simp [h]
theorem iE {v:Int} (h:v<1\/3<v):[]=az v:=by rw [az,if_pos h]
theorem vU {v:Int} {k:Nat} (h:¬ (v<1\/3<v)) (hk:aO.length<=k):(aO.take k).filter (fun s=>decide (s.since<=v))=az v:=by rw [az,if_neg h,List.take_of_length_le hk]
theorem vK {v:Int} {k:Nat}:((aO.take k).filter (fun s=>decide (s.since<=v))).length<=8:=by
 have h1:=List.length_filter_le (fun s:Spec=>decide (s.since<=v)) (aO.take k)
 have h2:(aO.take k).length<=8:=by rw [List.length_take]; exact Nat.le_trans (Nat.min_le_right _ _) (by decide)
 omega
theorem lr {v:Int} {k:Nat} {x:Spec} (hx:(az v)[k]? = some x):max (((az v).take k).foldl (fun t s=>max t s.num) 0) x.num=((az v).take (k+1)).foldl (fun t s=>max t s.num) 0:=by
 rw [aj hx,List.foldl_append]; rfl
def ez (num n:Int):List Field:=if n=0 then [] else [⟨num,0,⟨n.toNat⟩,[]⟩]
def jd (num:Int) (b:List UInt8):List Field:=if 0<((b.length:Nat):Int) then [⟨num,2,⟨0⟩,b⟩] else []
def cc (c:Command):List Field:=(((((([]++ez 1 c.kind)++ez 2 c.client)++ez 3 c.seq)++ez 4 c.set)++ez 5 c.id)++ez 6 c.n)++jd 7 (bj c.chunks)
def aF (c:Command) (v:Int):List Field:=if 3<=v then cc c++jd 8 c.text.b else cc c
theorem cY (num n:Int):(ez num n).length<=1:=by unfold ez; split <;> simp
theorem qv (num:Int) (b:List UInt8):(jd num b).length<=1:=by unfold jd; split <;> simp
theorem oZ {xs:List Field} {num n:Int} (h:¬ n=0):xs++[⟨num,0,⟨n.toNat⟩,[]⟩]=xs++ez num n:=by rw [ez,if_neg h]
theorem pI {xs:List Field} {num n:Int} (h:n=0):xs=xs++ez num n:=by rw [ez,if_pos h,List.append_nil]
theorem pE {xs:List Field} {num:Int} {b:List UInt8} (h:0<((b.length:Nat):Int)):xs++[⟨num,2,⟨0⟩,b⟩]=xs++jd num b:=by rw [jd,if_pos h]
theorem oF {xs:List Field} {num:Int} {b:List UInt8} (h:¬ 0<((b.length:Nat):Int)):xs=xs++jd num b:=by rw [jd,if_neg h,List.append_nil]
theorem gq (c:Command) (v:Int):(aF c v).length<=8:=by
 have h1:=cY 1 c.kind; have h2:=cY 2 c.client; have h3:=cY 3 c.seq; have h4:=cY 4 c.set; have h5:=cY 5 c.id; have h6:=cY 6 c.n
 have h7:=qv 7 (bj c.chunks); have h8:=qv 8 c.text.b
 unfold aF cc
 split <;> simp only [List.length_append,List.length_nil] <;> omega
end Go.Proofs.Ytladifkbefehdaa
namespace Go.Proofs.Ytladifkbefehdaa
open Go.RowKit
def bL (c:Command) (rest:List Field) (v:Int):Int:=if !(eR v 1 3) then 1 else if (bX c v=false/\¬ cZ c v=0) then cZ c v else if rest.any (fun f=>decide (f.num<=aQ v)) then 6 else 0
def bm (c:Command) (rest:List Field) (v:Int):Int:=if bL c rest v=0 then bk (aF c v++rest) else bL c rest v
def aP (c:Command) (rest:List Field) (v:Int):List UInt8:=if bL c rest v=0 then dR (aF c v++rest) else []
theorem kj {k:Int} (h:¬ bl k=0):1<=k/\k<=12:=Decidable.byContradiction fun h2=>h (yC h2)
theorem nS {c:Command} {v:Int} (h:bX c v=true):0<=c.kind/\0<=c.client/\0<=c.seq/\0<=c.set/\0<=c.id/\0<=c.n:=by
 unfold bX mn eR at h
 simp only [Bool.and_eq_true,decide_eq_true_eq] at h
 omega
theorem nL {n m:Int} {b:Bool} (h:jf n m b=true):0<=n:=by
 unfold jf at h; cases b <;> simp at h <;> omega
theorem Aq {k:Int} (h:1<=k/\k<=12):0<=(lX k).1:=by
 have:k=1\/k=2\/k=3\/k=4\/k=5\/k=6\/k=7\/k=8\/k=9\/k=10\/k=11\/k=12:=by omega
 rcases this with rfl | rfl | rfl | rfl | rfl | rfl | rfl | rfl | rfl | rfl | rfl | rfl <;> decide
theorem gK {c:Command} {v:Int} (h:cZ c v=0):(1<=v/\v<=3)/\¬ bl c.kind=0/\bl c.kind<=v/\fw c=true:=by
 unfold cZ at h
 split at h
 ·cases h
 ·rename_i h1
  rw [Bool.or_eq_true,not_or] at h1
  simp only [Bool.not_eq_true',Bool.not_eq_false,decide_eq_true_eq] at h1
  split at h
  ·cases h
  ·split at h
   ·cases h
   ·rename_i h2 h3
    exact ⟨Gv h1.1,h1.2,by omega,by simpa using h3⟩
theorem nw {c:Command} {v:Int} (h:cZ c v=0):0<=c.kind/\0<=c.client/\0<=c.seq/\0<=c.set/\0<=c.id/\0<=c.n:=by
 obtain ⟨_,hn,_,hf⟩:=gK h
 have hr:=kj hn
 have hs:=Aq hr
 unfold fw at hf
 simp only [Bool.and_eq_true,decide_eq_true_eq] at hf
 obtain ⟨⟨⟨⟨⟨⟨⟨h1,h2⟩,_⟩,_⟩,h3⟩,h4⟩,h5⟩,h6⟩:=hf
 exact ⟨by omega,nL h3,nL h4,nL h5,nL h6,by omega⟩
theorem Gf {c:Command} {rest:List Field} {v:Int} (h:(!(eR v 1 3))=true):bL c rest v=1:=by rw [bL,if_pos h]
theorem Fv {c:Command} {rest:List Field} {v:Int} (h:(!(eR v 1 3))=false) (h1:bX c v=false) (h2:¬ cZ c v=0):bL c rest v=cZ c v:=by rw [bL,h,if_neg (by decide),if_pos ⟨h1,h2⟩]
theorem Gh {c:Command} {rest:List Field} {v:Int} {k:Nat} {x:Field} (h:(!(eR v 1 3))=false) (h1:bX c v=true\/cZ c v=0) (hx:rest[k]? = some x) (hn:x.num<=aQ v):bL c rest v=6:=by
 have:(rest.any fun f=>decide (f.num<=aQ v))=true:=List.any_eq_true.2 ⟨x,List.mem_of_getElem? hx,decide_eq_true hn⟩
 rw [bL,h,if_neg (by decide),if_neg (fun hh=>by rcases h1 with h1 | h1; rw [h1] at hh; cases hh.1; exact hh.2 h1),if_pos this]
theorem Fu {c:Command} {rest:List Field} {v:Int} {k:Nat} (h:(!(eR v 1 3))=false) (h1:bX c v=true\/cZ c v=0) (hall:∀ j y,j<k->rest[j]? = some y->¬ y.num<=aQ v) (hk:rest.length<=k):bL c rest v=0:=by
 have:(rest.any fun f=>decide (f.num<=aQ v))=false:=by
  rw [List.any_eq_false]
  intro y hy
  obtain ⟨j,hj,rfl⟩:=List.getElem_of_mem hy
  have:=hall j _ (by omega) (List.getElem?_eq_getElem hj)
  simpa using this
 rw [bL,h,if_neg (by decide),if_neg (fun hh=>by rcases h1 with h1 | h1; rw [h1] at hh; cases hh.1; exact hh.2 h1),this,if_neg (by decide)]
theorem eK {c:Command} {rest:List Field} {v e:Int} (h:bL c rest v=e) (h0:¬ e=0):e=bm c rest v:=by rw [bm,h,if_neg h0]
theorem eG {c:Command} {rest:List Field} {v e:Int} (h:bL c rest v=e) (h0:¬ e=0):[]=aP c rest v:=by rw [aP,h,if_neg h0]
theorem vd {c:Command} {rest:List Field} {v:Int} (h:bL c rest v=0):bk (aF c v++rest)=bm c rest v:=by rw [bm,if_pos h]
theorem xR {c:Command} {rest:List Field} {v:Int} (h:bL c rest v=0):dR (aF c v++rest)=aP c rest v:=by rw [aP,if_pos h]
theorem sT {rest:List Field} {t:Int} {k:Nat} {z:Field} (h:∀ j y,j<k->rest[j]? = some y->¬ y.num<=t) (hz:rest[k]? = some z) (hn:¬ z.num<=t):∀ j y,j<k+1->rest[j]? = some y->¬ y.num<=t:=by
 intro j y hj hy
 by_cases hjk:j=k
 ·subst hjk; rw [hz] at hy; cases hy; exact hn
 ·exact h j y (by omega) hy
end Go.Proofs.Ytladifkbefehdaa
namespace Go.Proofs.Ytladifkbefehdaa
open Go.RowKit
end Go.Proofs.Ytladifkbefehdaa
namespace Go.Proofs.Ytladifkbefehdaa
open Go.RowKit
theorem mN (n:Nat):br n=((List.range (aE n)).map (gv n)).set (aE n - 1) (gv n (aE n - 1) &&& 127):=by unfold br ck; simp
theorem vY:∀ m:Fin 128,(UInt8.ofNat m.val ||| 128) &&& 127=UInt8.ofNat m.val:=by decide
theorem Cn:∀ m:Fin 256,(UInt8.ofNat m.val ||| 128).toNat=m.val % 128+128:=by decide +kernel
theorem kM {n:Nat} (h:n<128):br n=[UInt8.ofNat n]:=by
 rw [mN,eD h]
 have:=vY ⟨n,h⟩
 simp only [gv,Nat.pow_zero,Nat.div_one,List.range_one,List.map_cons,List.map_nil,Nat.sub_self,List.set_cons_zero] at *
 rw [this]
theorem DF (n:Nat):(gv n 0).toNat=n % 128+128:=by
 have e:UInt8.ofNat n=UInt8.ofNat (n % 256):=UInt8.toNat_inj.1 (by simp [UInt8.toNat_ofNat'])
 have:=Cn ⟨n % 256,Nat.mod_lt _ (by decide)⟩
 simp only [gv,Nat.pow_zero,Nat.div_one]
 rw [e,this]; simp only; omega
theorem uK {n:Nat} (h:¬ n<128):br n=gv n 0 :: br (n / 128):=by
 have e:∀ i,gv n (i+1)=gv (n / 128) i:=fun i=>by unfold gv; rw [Nat.pow_succ,Nat.mul_comm,<- Nat.div_div_eq_div_mul]
 have hp:=dk (n / 128)
 obtain ⟨s,hs⟩:∃ s,aE (n / 128)=s+1:=⟨aE (n / 128) - 1,by omega⟩
 rw [mN,mN (n / 128),gp h,hs]
 simp only [Nat.add_sub_cancel]
 rw [List.range_succ_eq_map,List.map_cons,List.map_map,List.set_cons_succ,e s,show gv n ∘ Nat.succ=gv (n / 128) from funext e]
theorem eV {f:Field} (h:bt f=true):(1<=f.num/\f.num<=1000)/\((f.wire=0/\f.b=[])\/(f.wire=2/\f.n.n=0)):=by
 unfold bt at h
 rw [Bool.and_eq_true,Bool.and_eq_true,decide_eq_true_eq,decide_eq_true_eq] at h
 refine ⟨h.1,?_⟩
 have h2:=h.2
 split at h2
 ·rename_i hw
  rw [decide_eq_true_eq] at h2
  exact .inl ⟨hw,List.eq_nil_of_length_eq_zero (by omega)⟩
 ·split at h2
  ·rename_i hw
   rw [decide_eq_true_eq] at h2
   exact .inr ⟨hw,by omega⟩
  ·cases h2
theorem lW {f:Field} (h:bt f=true):cK f.num f.wire=br ((8*f.num)+f.wire).toNat:=by
 obtain ⟨h1,h2⟩:=eV h
 exact (oY (by omega)).symm
structure CmdOk (c:Command) (v:Int):Prop where
 nn:0<=c.kind/\0<=c.client/\0<=c.seq/\0<=c.set/\0<=c.id/\0<=c.n
 ch:c.chunks=[]\/rowF c.chunks=true
 tx:c.text.b=[]\/(3<=v/\c.text.b.length<=16)
end Go.Proofs.Ytladifkbefehdaa
namespace Go.Proofs.Ytladifkbefehdaa
open Go.RowKit
end Go.Proofs.Ytladifkbefehdaa
namespace Go.Proofs.Ytladifkbefehdaa
open Go.RowKit
def aV:Nat->Nat->List UInt8->Nat × Nat × Int
 | k,_,[]=>if 10<=k then (0,0,3) else (0,0,2)
 | k,n,x :: r=>if 10<=k then (0,0,3) else if (0<k/\x.toNat=0)\/(k=9/\1<x.toNat) then (0,0,3) else if x.toNat<128 then (n+(x &&& 127).toNat*2 ^ (7*k),k+1,0) else aV (k+1) (n+(x &&& 127).toNat*2 ^ (7*k)) r
termination_by _ _ l=>l.length
def ae (b:List UInt8):Nat × Nat × Int:=aV 0 0 b
theorem iI (x:UInt8):(x &&& 127).toNat=x.toNat % 128:=by rw [UInt8.toNat_and]; exact Nat.and_two_pow_sub_one_eq_mod x.toNat 7
theorem Dn {k:Nat} {x:UInt8} (hk:k<=9) (h:k=9->x.toNat<=1):(x &&& 127).toNat*2 ^ (7*k)<18446744073709551616:=by
 rw [iI]
 by_cases h9:k=9
 ·have:=h h9
  subst h9
  have:x.toNat % 128*2 ^ (7*9)<=1*2 ^ (7*9):=Nat.mul_le_mul_right _ (by omega)
  exact Nat.lt_of_le_of_lt this (by decide)
 ·have h1:2 ^ (7*k)<=2 ^ 56:=Nat.pow_le_pow_right (by decide) (by omega)
  have:x.toNat % 128*2 ^ (7*k)<=127*2 ^ 56:=Nat.mul_le_mul (by omega) h1
  exact Nat.lt_of_le_of_lt this (by decide)
theorem CE {k n m:Nat} (h:n<2 ^ (7*k)):n ||| m*2 ^ (7*k)=n+m*2 ^ (7*k):=by
 have:=Nat.two_pow_add_eq_or_of_lt h m
 rw [Nat.or_comm,Nat.mul_comm m,<- this,Nat.add_comm]
theorem Ai {k n:Nat} {x:UInt8} (h:n<2 ^ (7*k)):n+(x &&& 127).toNat*2 ^ (7*k)<2 ^ (7*(k+1)):=by
 rw [iI]
 have e:2 ^ (7*(k+1))=128*2 ^ (7*k):=by rw [show 7*(k+1)=7*k+7 by omega,Nat.pow_add,Nat.mul_comm]
 have:x.toNat % 128*2 ^ (7*k)<=127*2 ^ (7*k):=Nat.mul_le_mul_right _ (by omega)
 rw [e]; omega
theorem CF {b:List UInt8} {k n:Nat} (hk:k<10) (hb:b.length<=k):aV k n (b.drop k)=(0,0,2):=by
 rw [List.drop_of_length_le hb,aV,if_neg (by omega)]
theorem CQ {b:List UInt8} {k n:Nat} (hk:10<=k):aV k n (b.drop k)=(0,0,3):=by
 cases h:b.drop k with
 | nil=>rw [aV,if_pos hk]
 | cons x r=>rw [aV,if_pos hk]
theorem uO {b:List UInt8} {k n:Nat} {x:UInt8} (hk:k<10) (hx:b[k]? = some x):aV k n (b.drop k)=if (0<k/\x.toNat=0)\/(k=9/\1<x.toNat) then (0,0,3) else if x.toNat<128 then (n+(x &&& 127).toNat*2 ^ (7*k),k+1,0) else aV (k+1) (n+(x &&& 127).toNat*2 ^ (7*k)) (b.drop (k+1)):=by
 obtain ⟨hkl,he⟩:=List.getElem?_eq_some_iff.1 hx
 rw [List.drop_eq_getElem_cons hkl,he,aV,if_neg (by omega)]
theorem zS {b:List UInt8} {k n:Nat} {x:UInt8} (h:ae b=aV k n (b.drop k)) (hk:k<10) (hx:b[k]? = some x) (h1:¬ (0<k/\x.toNat=0)) (h2:¬ (k=9/\1<x.toNat)) (h3:¬ x.toNat<128):ae b=aV (k+1) (n+(x &&& 127).toNat*2 ^ (7*k)) (b.drop (k+1)):=by
 rw [h,uO hk hx,if_neg (fun h=>h.elim h1 h2),if_neg h3]
theorem jL:∀ {l:List UInt8} {k n:Nat},k<=10->(aV k n l).2.1<=11/\(aV k n l).2.1<=k+l.length
 | [],k,n,h=>by rw [aV]; split <;> simp
 | x :: r,k,n,h=>by
  rw [aV]
  split
  ·simp
  ·split
   ·simp
   ·split
    ·simp; omega
    ·have:=jL (l:=r) (k:=k+1) (n:=n+(x &&& 127).toNat*2 ^ (7*k)) (by omega)
     simp only [List.length_cons]; omega
theorem u_ {b:List UInt8} {k n:Nat} {x:UInt8} (h:ae b=aV k n (b.drop k)) (hk:k<10) (hx:b[k]? = some x) (h1:(0<k/\x.toNat=0)\/(k=9/\1<x.toNat)):ae b=(0,0,3):=by rw [h,uO hk hx,if_pos h1]
theorem Ao {b:List UInt8} {k n:Nat} {x:UInt8} (h:ae b=aV k n (b.drop k)) (hk:k<10) (hx:b[k]? = some x) (h1:¬ (0<k/\x.toNat=0)) (h2:¬ (k=9/\1<x.toNat)) (h3:x.toNat<128):ae b=(n+(x &&& 127).toNat*2 ^ (7*k),k+1,0):=by
 rw [h,uO hk hx,if_neg (fun h=>h.elim h1 h2),if_pos h3]
end Go.Proofs.Ytladifkbefehdaa
namespace Go.Proofs.Ytladifkbefehdaa
open Go.RowKit
theorem uo:∀ {l:List UInt8} {k n:Nat},1<=k->(aV k n l).2.2=0->2 ^ (7*k)<=(aV k n l).1
 | [],k,n,_,h=>by rw [aV] at h; split at h <;> cases h
 | x :: r,k,n,hk,h=>by
  rw [aV] at h ⊢
  split
  ·rename_i h1; rw [if_pos h1] at h; cases h
  ·rename_i h1
   rw [if_neg h1] at h
   split
   ·rename_i h2; rw [if_pos h2] at h; cases h
   ·rename_i h2
    rw [if_neg h2] at h
    split
    ·rename_i h3
     rw [iI]
     have:1<=x.toNat % 128:=by
      have:¬ x.toNat=0:=fun e=>h2 (.inl ⟨by omega,e⟩)
      omega
     have:=Nat.mul_le_mul_right (2 ^ (7*k)) this
     show 2 ^ (7*k)<=n+x.toNat % 128*2 ^ (7*k)
     omega
    ·rename_i h3
     rw [if_neg h3] at h
     exact Nat.le_trans (Nat.pow_le_pow_right (by decide) (by omega)) (uo (by omega) h)
theorem rF (x:UInt8) (r:List UInt8):ae (x :: r)=if x.toNat<128 then (x.toNat,1,0) else aV 1 (x.toNat % 128) r:=by
 unfold ae
 rw [aV,if_neg (by decide),if_neg (by omega),iI]
 split
 ·rename_i h; rw [Nat.mod_eq_of_lt h]; simp
 ·simp
theorem o_ {b:List UInt8} {k:Nat} (hk:k<b.length):(b.drop k).take (b.length - k)=b[k] :: b.drop (k+1):=by
 rw [List.take_of_length_le (by simp),List.drop_eq_getElem_cons hk]
theorem Gx {b:List UInt8} {k:Nat} (hk:k<b.length) (he:(ae ((b.drop k).take (b.length - k))).2.2=0) (hn:¬ (64:Int)<(((ae ((b.drop k).take (b.length - k))).1:Nat):Int)) :
  ∃ x,b[k]? = some x/\ae ((b.drop k).take (b.length - k))=(x.toNat,1,0)/\x.toNat<=64:=by
 rw [o_ hk,rF] at *
 by_cases h:b[k].toNat<128
 ·rw [if_pos h] at *; exact ⟨_,List.getElem?_eq_getElem hk,rfl,by simp only at hn; omega⟩
 ·rw [if_neg h] at *
  have:=uo (Nat.le_refl 1) he
  omega
theorem GF {b:List UInt8} {k:Nat} (hk:k<b.length) (h:(¬ (ae ((b.drop k).take (b.length - k))).2.2=0)\/(64:Int)<(((ae ((b.drop k).take (b.length - k))).1:Nat):Int)):∃ x,b[k]? = some x/\64<x.toNat:=by
 refine ⟨b[k],List.getElem?_eq_getElem hk,?_⟩
 rw [o_ hk,rF] at h
 by_cases h1:b[k].toNat<128
 ·rw [if_pos h1] at h; simp only [not_true_eq_false,false_or] at h; omega
 ·omega
def bd (b:List UInt8):List Int:=b.map fun x=>(x.toNat:Int)
def eO (b:List UInt8):List Int:=if rowF (bd b) then bd b else []
def gI (b:List UInt8):Int:=if rowF (bd b) then 0 else 6
theorem zI {b:List UInt8} {k:Nat} {x:UInt8} {p:Nat × Nat × Int} (hx:b[k]? = some x) (hp:p=(x.toNat,1,0)):bd (b.take k)++[((p.1:Nat):Int)]=bd (b.take (k+1)):=by
 subst hp; unfold bd; rw [aj hx,List.map_append]; rfl
theorem Dp {b:List UInt8} {k:Nat} (hk:k<b.length) (h:(¬ (ae ((b.drop k).take (b.length - k))).2.2=0)\/(64:Int)<(((ae ((b.drop k).take (b.length - k))).1:Nat):Int)):rowF (bd b)=false:=by
 obtain ⟨x,hx,h64⟩:=GF hk h
 rw [<- Bool.not_eq_true]
 intro hr
 have:=(gh hr (x.toNat:Int) (List.mem_map.2 ⟨x,List.mem_of_getElem? hx,rfl⟩)).2
 omega
theorem qa {b:List UInt8} {k:Nat} (hk:b.length<=k):bd (b.take k)=bd b:=by rw [List.take_of_length_le hk]
theorem cX {b:List UInt8} (h:rowF (bd b)=false):[]=eO b:=by rw [eO,h]; rfl
theorem iR {b:List UInt8} (h:rowF (bd b)=false):6=gI b:=by rw [gI,h]; rfl
theorem nA {b:List UInt8} {k:Nat} (hk:b.length<=k) (h:rowF (bd (b.take k))=true):bd (b.take k)=eO b:=by rw [qa hk] at *; rw [eO,h]; rfl
theorem mW {b:List UInt8} {k:Nat} (hk:b.length<=k) (h:rowF (bd (b.take k))=true):0=gI b:=by rw [qa hk] at *; rw [gI,h]; rfl
theorem eA {b:List UInt8} {k:Nat} (hk:b.length<=k) (h:rowF (bd (b.take k))=false):rowF (bd b)=false:=by rw [qa hk] at h; exact h
end Go.Proofs.Ytladifkbefehdaa
namespace Go.Proofs.Ytladifkbefehdaa
open Go.RowKit
theorem vp {l:List Int} (h:∀ x ∈ l,0<x/\x<=64):cR l=l.map fun x=>UInt8.ofNat x.toNat:=by
 induction l with
 | nil=>rfl
 | cons x r ih=>
  have hx:=h x (by simp)
  simp only [cR,List.flatMap_cons,List.map_cons] at *
  rw [kM (by omega),ih fun y hy=>h y (List.mem_cons_of_mem _ hy)]; rfl
theorem kW {l:List Int} (h:∀ x ∈ l,0<x/\x<=64):bd (l.map fun x=>UInt8.ofNat x.toNat)=l:=by
 unfold bd
 rw [List.map_map]
 refine (List.map_congr_left (g:=id) fun x hx=>?_).trans (List.map_id _)
 have:=h x hx
 show (((UInt8.ofNat x.toNat).toNat:Nat):Int)=x
 rw [UInt8.toNat_ofNat']; omega
theorem mB {l:List Int} (h:rowF l=true):bj l=(l.map fun x=>UInt8.ofNat x.toNat)/\de l=0/\eO (bj l)=l/\gI (bj l)=0:=by
 have e:=vp (gh h)
 have e1:bj l=(l.map fun x=>UInt8.ofNat x.toNat):=by rw [bj,if_pos h,e]
 refine ⟨e1,by rw [de,if_pos h],?_,?_⟩
 ·rw [e1,eO,kW (gh h),if_pos h]
 ·rw [e1,gI,kW (gh h),if_pos h]
end Go.Proofs.Ytladifkbefehdaa
namespace Go.Proofs.Ytladifkbefehdaa
open Go.RowKit
end Go.Proofs.Ytladifkbefehdaa
namespace Go.Proofs.Ytladifkbefehdaa
open Go.RowKit
end Go.Proofs.Ytladifkbefehdaa
namespace Go.Proofs.Ytladifkbefehdaa
open Go.RowKit
end Go.Proofs.Ytladifkbefehdaa
namespace Go.Proofs.Ytladifkbefehdaa
open Go.RowKit
end Go.Proofs.Ytladifkbefehdaa
namespace Go.Proofs.Ytladifkbefehdaa
open Go.RowKit
theorem oe {l:List Int} (h:l.length=0\/rowF l=true) (h0:0<((l.length:Nat):Int)):0<(((bj l).length:Nat):Int):=by
 rcases h with h | h
 ·omega
 ·rw [(mB h).1,List.length_map]; exact h0
theorem nT {l:List Int} (h0:¬ 0<((l.length:Nat):Int)):¬ 0<(((bj l).length:Nat):Int):=by
 obtain rfl:l=[]:=List.length_eq_zero_iff.1 (by omega)
 decide
end Go.Proofs.Ytladifkbefehdaa
namespace Go.Proofs.Ytladifkbefehdaa
open Go.RowKit
theorem yn {c:Command} (h:fw c=true):c.chunks.length=0\/rowF c.chunks=true:=by
 unfold fw at h
 simp only [Bool.and_eq_true,decide_eq_true_eq] at h
 have h2:EY c=true:=by obtain ⟨⟨⟨⟨⟨⟨⟨h1,h2⟩,h3⟩,h4⟩,h5⟩,h6⟩,h7⟩,h8⟩:=h; assumption
 unfold EY at h2
 split at h2
 ·exact .inr h2
 ·have:=of_decide_eq_true h2; exact .inl (by omega)
theorem Cz {c:Command} {v:Int} (h:bX c v=true):c.chunks.length=0\/rowF c.chunks=true:=by
 unfold bX at h
 rw [Bool.and_eq_true,Bool.and_eq_true,Bool.or_eq_true,decide_eq_true_eq] at h
 rcases h.1.2 with h | h
 ·exact .inl (by omega)
 ·exact .inr h
theorem Ah {c:Command} {v:Int} (h:cZ c v=0):c.chunks.length=0\/rowF c.chunks=true:=yn (gK h).2.2.2
end Go.Proofs.Ytladifkbefehdaa
namespace Go.Proofs.Ytladifkbefehdaa
open Go.RowKit
structure TagR where
 num:Int
 wire:Int
 k:Nat
 e:Int
def qg (n:Nat):Bool:=decide ((n / 8<1\/1000<n / 8)\/(¬ n % 8=0/\¬ n % 8=2))
def ay (b:List UInt8):TagR:=if (ae b).2.2=0 then (if qg (ae b).1=true then ⟨0,0,0,6⟩ else ⟨(((ae b).1 / 8:Nat):Int),(((ae b).1 % 8:Nat):Int),(ae b).2.1,0⟩) else ⟨0,0,0,(ae b).2.2⟩
theorem uC {b:List UInt8} (h:¬ (ae b).2.2=0):ay b=⟨0,0,0,(ae b).2.2⟩:=by rw [ay,if_neg h]
theorem wK {b:List UInt8} (h:(ae b).2.2=0) (h2:((ae b).1 / 8<1\/1000<(ae b).1 / 8)\/(¬ (ae b).1 % 8=0/\¬ (ae b).1 % 8=2)):ay b=⟨0,0,0,6⟩:=by rw [ay,if_pos h,if_pos (show qg _=true from decide_eq_true h2)]
theorem qP {b:List UInt8} (h:(ae b).2.2=0) (h2:¬ (((ae b).1 / 8<1\/1000<(ae b).1 / 8)\/(¬ (ae b).1 % 8=0/\¬ (ae b).1 % 8=2))):ay b=⟨(((ae b).1 / 8:Nat):Int),(((ae b).1 % 8:Nat):Int),(ae b).2.1,0⟩:=by
 rw [ay,if_pos h,if_neg (by unfold qg; simpa using h2)]
theorem jN (b:List UInt8):((ay b).k<=11/\(ay b).k<=b.length)/\(0<=(ay b).num/\(ay b).num<=1000)/\(0<=(ay b).wire/\(ay b).wire<=2):=by
 have hs:(ae b).2.1<=11/\(ae b).2.1<=0+b.length:=jL (l:=b) (k:=0) (n:=0) (by omega)
 by_cases h:(ae b).2.2=0
 ·by_cases h2:((ae b).1 / 8<1\/1000<(ae b).1 / 8)\/(¬ (ae b).1 % 8=0/\¬ (ae b).1 % 8=2)
  ·rw [wK h h2]; simp
  ·rw [qP h h2]; dsimp only; omega
 ·rw [uC h]; simp
theorem uy:∀ {l:List UInt8} {k n:Nat},(aV k n l).2.2=0->1<=(aV k n l).2.1
 | [],k,n,h=>by rw [aV] at h; split at h <;> cases h
 | x :: r,k,n,h=>by
  rw [aV] at h ⊢
  split
  ·rename_i h1; rw [if_pos h1] at h; cases h
  ·rename_i h1
   rw [if_neg h1] at h
   split
   ·rename_i h2; rw [if_pos h2] at h; cases h
   ·rename_i h2
    rw [if_neg h2] at h
    split
    ·simp
    ·rename_i h3; rw [if_neg h3] at h; exact uy h
def aH (b:List UInt8):Nat × Int:=
  if (ay b).e=0 then
    (if (ae (b.drop (ay b).k)).2.2=0 then
      (if (ay b).wire=0 then ((ay b).k+(ae (b.drop (ay b).k)).2.1,0)
       else if 16384<(ae (b.drop (ay b).k)).1 then (0,4)
       else if ((b.length:Nat):Int) - (((ay b).k+(ae (b.drop (ay b).k)).2.1:Nat):Int)<(((ae (b.drop (ay b).k)).1:Nat):Int) then (0,2)
       else ((ay b).k+(ae (b.drop (ay b).k)).2.1+(ae (b.drop (ay b).k)).1,0))
     else (0,(ae (b.drop (ay b).k)).2.2))
  else (0,(ay b).e)
theorem Gi {b:List UInt8} (h:¬ (ay b).e=0):aH b=(0,(ay b).e):=by rw [aH,if_neg h]
theorem Ff {b:List UInt8} (h:(ay b).e=0) (h2:¬ (ae (b.drop (ay b).k)).2.2=0):aH b=(0,(ae (b.drop (ay b).k)).2.2):=by rw [aH,if_pos h,if_neg h2]
theorem Ec {b:List UInt8} (h:(ay b).e=0) (h2:(ae (b.drop (ay b).k)).2.2=0) (h3:(ay b).wire=0):aH b=((ay b).k+(ae (b.drop (ay b).k)).2.1,0):=by rw [aH,if_pos h,if_pos h2,if_pos h3]
theorem FJ {b:List UInt8} (h:(ay b).e=0) (h2:(ae (b.drop (ay b).k)).2.2=0) (h3:¬ (ay b).wire=0) (h4:16384<(ae (b.drop (ay b).k)).1):aH b=(0,4):=by rw [aH,if_pos h,if_pos h2,if_neg h3,if_pos h4]
theorem Ga {b:List UInt8} (h:(ay b).e=0) (h2:(ae (b.drop (ay b).k)).2.2=0) (h3:¬ (ay b).wire=0) (h4:¬ 16384<(ae (b.drop (ay b).k)).1) (h5:((b.length:Nat):Int) - (((ay b).k+(ae (b.drop (ay b).k)).2.1:Nat):Int)<(((ae (b.drop (ay b).k)).1:Nat):Int)):aH b=(0,2):=by rw [aH,if_pos h,if_pos h2,if_neg h3,if_neg h4,if_pos h5]
theorem EB {b:List UInt8} (h:(ay b).e=0) (h2:(ae (b.drop (ay b).k)).2.2=0) (h3:¬ (ay b).wire=0) (h4:¬ 16384<(ae (b.drop (ay b).k)).1) (h5:¬ ((b.length:Nat):Int) - (((ay b).k+(ae (b.drop (ay b).k)).2.1:Nat):Int)<(((ae (b.drop (ay b).k)).1:Nat):Int)):aH b=((ay b).k+(ae (b.drop (ay b).k)).2.1+(ae (b.drop (ay b).k)).1,0):=by rw [aH,if_pos h,if_pos h2,if_neg h3,if_neg h4,if_neg h5]
theorem hU (b:List UInt8) (k:Nat):(ae (b.drop k)).2.1<=11/\(ae (b.drop k)).2.1+k<=max b.length k:=by
 have:=jL (l:=b.drop k) (k:=0) (n:=0) (by omega)
 unfold ae
 rw [List.length_drop] at this
 omega
theorem gV (b:List UInt8):(aH b).1<=b.length:=by
 have h1:=jN b; have h2:=hU b (ay b).k
 unfold aH
 split
 ·split
  ·split
   ·dsimp only; omega
   ·split
    ·simp
    ·split
     ·simp
     ·dsimp only; omega
  ·simp
 ·simp
theorem hP {b:List UInt8} (h:(aH b).2=0):1<=(aH b).1:=by
 unfold aH at h ⊢
 split
 ·rename_i h0
  rw [if_pos h0] at h
  split
  ·rename_i h1
   rw [if_pos h1] at h
   have:=uy (l:=b.drop (ay b).k) (k:=0) (n:=0) h1
   split
   ·dsimp only; unfold ae; omega
   ·rename_i h2
    rw [if_neg h2] at h
    split
    ·rename_i h3; rw [if_pos h3] at h; cases h
    ·rename_i h3
     rw [if_neg h3] at h
     split
     ·rename_i h4; rw [if_pos h4] at h; cases h
     ·dsimp only; unfold ae; omega
  ·rename_i h1; rw [if_neg h1] at h; exact absurd h h1
 ·rename_i h0; rw [if_neg h0] at h; exact absurd h h0
def fk (b:List UInt8):Field:=if (ay b).wire=0 then ⟨(ay b).num,(ay b).wire,⟨(ae (b.drop (ay b).k)).1⟩,[]⟩ else ⟨(ay b).num,(ay b).wire,⟨0⟩,b.drop ((ay b).k+(ae (b.drop (ay b).k)).2.1)⟩
theorem oK {b:List UInt8} (h:(ay b).wire=0):(⟨(ay b).num,(ay b).wire,⟨(ae (b.drop (ay b).k)).1⟩,[]⟩:Field)=fk b:=by rw [fk,if_pos h]
theorem pd {b:List UInt8} (h:¬ (ay b).wire=0):(⟨(ay b).num,(ay b).wire,⟨0⟩,b.drop ((ay b).k+(ae (b.drop (ay b).k)).2.1)⟩:Field)=fk b:=by rw [fk,if_neg h]
end Go.Proofs.Ytladifkbefehdaa
namespace Go.Proofs.Ytladifkbefehdaa
open Go.RowKit
def cw (acc:List Field) (x:Field):Bool:=match acc[acc.length - 1]? with | none=>true | some y=>cW y x
def lx:Nat->List Field->List UInt8->List Field × Int
 | 0,acc,_=>(acc,0)
 | f+1,acc,b=>if b.length=0 then (acc,0) else if (aH b).2=0 then (if cw acc (fk (b.take (aH b).1))=true then lx f (acc++[fk (b.take (aH b).1)]) (b.drop (aH b).1) else ([],5)) else ([],(aH b).2)
def aI (b:List UInt8):List Field × Int:=if 16384<b.length then ([],4) else lx b.length [] b
def eo (b:List UInt8) (i:Nat) (acc:List Field):Prop:=∃ f,b.length - i<=f/\aI b=lx f acc (b.drop i)
theorem CA {b:List UInt8} (h:16384<b.length):aI b=([],4):=by rw [aI,if_pos h]
theorem lb {b:List UInt8} (h:¬ 16384<b.length):eo b 0 []:=⟨b.length,by omega,by rw [aI,if_neg h]; rfl⟩
theorem uP {b:List UInt8} {i:Nat} {acc:List Field} (h:eo b i acc) (hi:i<b.length):∃ f,b.length - i<=f+1/\aI b=if (aH (b.drop i)).2=0 then (if cw acc (fk ((b.drop i).take (aH (b.drop i)).1))=true then lx f (acc++[fk ((b.drop i).take (aH (b.drop i)).1)]) ((b.drop i).drop (aH (b.drop i)).1) else ([],5)) else ([],(aH (b.drop i)).2):=by
 obtain ⟨f,hf,e⟩:=h
 cases f with
 | zero=>omega
 | succ f=>exact ⟨f,hf,by rw [e,lx,if_neg (by rw [List.length_drop]; omega)]⟩
theorem zl {b:List UInt8} {i:Nat} {acc:List Field} (h:eo b i acc) (hi:i<b.length) (hs:¬ (aH (b.drop i)).2=0):aI b=([],(aH (b.drop i)).2):=by
 obtain ⟨f,_,e⟩:=uP h hi; rw [e,if_neg hs]
theorem Cd {b:List UInt8} {i:Nat} {acc:List Field} (h:eo b i acc) (hi:b.length<=i):aI b=(acc,0):=by
 obtain ⟨f,_,e⟩:=h
 rw [e,List.drop_of_length_le hi]
 cases f <;> rfl
theorem oL:∀ {f:Nat} {acc:List Field} {b:List UInt8},(lx f acc b).1.length<=acc.length+b.length
 | 0,acc,b=>by simp [lx]
 | f+1,acc,b=>by
  unfold lx
  split
  ·simp
  ·split
   ·rename_i h0 h1
    split
    ·have:=oL (f:=f) (acc:=acc++[fk (b.take (aH b).1)]) (b:=b.drop (aH b).1)
     have h2:=hP h1
     rw [List.length_append,List.length_drop] at this
     simp only [List.length_cons,List.length_nil] at this
     omega
    ·simp
   ·simp
theorem sf (b:List UInt8):(aI b).1.length<=16384:=by
 unfold aI
 split
 ·simp
 ·have:=oL (f:=b.length) (acc:=[]) (b:=b)
  simp only [List.length_nil] at this
  omega
end Go.Proofs.Ytladifkbefehdaa
namespace Go.Proofs.Ytladifkbefehdaa
open Go.RowKit
def sY (x:Field) (s:Spec) (n:Int):Bool:=if ¬ x.wire=s.wire\/(1<n/\s.many=false) then false else if x.wire=0 then !decide ((x.n.n:Int)=0) else decide (0<((x.b.length:Nat):Int))
theorem FC {x:Field} {s:Spec} {n:Int} (h:¬ (¬ x.wire=s.wire\/(1<n/\s.many=false))) (h0:x.wire=0):(!decide ((x.n.n:Int)=0))=sY x s n:=by rw [sY,if_neg h,if_pos h0]
theorem DN {x:Field} {s:Spec} {n:Int} (h:¬ (¬ x.wire=s.wire\/(1<n/\s.many=false))) (h0:¬ x.wire=0):decide (0<((x.b.length:Nat):Int))=sY x s n:=by rw [sY,if_neg h,if_neg h0]
def bJ (l:List Field) (q:Int):Nat:=l.countP fun x=>decide (x.num=q)
theorem dS {l:List Field} {k:Nat} (q:Int):bJ (l.take k) q<=k:=Nat.le_trans List.countP_le_length (by rw [List.length_take]; exact Nat.min_le_left _ _)
theorem vk {l:List Field} {k:Nat} {x:Field} (hx:l[k]? = some x) (q:Int):bJ (l.take (k+1)) q=if q=x.num then bJ (l.take k) x.num+1 else bJ (l.take k) q:=by
 unfold bJ
 rw [aj hx,List.countP_append]
 by_cases h:q=x.num
 ·subst h; simp
 ·have:¬ x.num=q:=fun e=>h e.symm
  simp [h,this]
def lI (l:List Field) (ss:List Spec) (k:Nat):Prop:=∀ j x,j<k->l[j]? = some x->∀ s ∈ ss,s.num=x.num->sY x s ((bJ (l.take (j+1)) x.num:Nat):Int)=true
def tZ (l:List Field) (ss:List Spec) (m:Nat):Prop:=∀ j y,j<m->ss[j]? = some y->y.need=true->¬ bJ l y.num=0
def xH (ss:List Spec) (x:Field) (n:Int) (m:Nat):Prop:=∀ j y,j<m->ss[j]? = some y->y.num=x.num->sY x y n=true
theorem jt {ss:List Spec} {x:Field} {n:Int}:xH ss x n 0:=fun j y h=>by omega
theorem jy {l:List Field} {ss:List Spec}:lI l ss 0:=fun j y h=>by omega
theorem jq {l:List Field} {ss:List Spec}:tZ l ss 0:=fun j y h=>by omega
def pN (l:List Field) (v:Int):Prop:=lI l (az v) l.length/\tZ l (az v) (az v).length
open Classical in
noncomputable def dB (l:List Field) (v:Int):Int:=if (az v).length=0 then 1 else if bk l=0 then (if pN l v then 0 else 6) else bk l
theorem pt {l:List Field} {v:Int} (h:(az v).length=0):1=dB l v:=by rw [dB,if_pos h]
theorem pV {l:List Field} {v:Int} (h:¬ (az v).length=0) (h2:¬ bk l=0):bk l=dB l v:=by rw [dB,if_neg h,if_neg h2]
theorem fO {l:List Field} {v:Int} (h:¬ (az v).length=0) (h2:bk l=0) (h3:¬ pN l v):6=dB l v:=by rw [dB,if_neg h,if_pos h2,if_neg h3]
theorem mL {l:List Field} {v:Int} (h:¬ (az v).length=0) (h2:bk l=0) (h3:pN l v):0=dB l v:=by rw [dB,if_neg h,if_pos h2,if_pos h3]
theorem xi {ss:List Spec} {m:Nat} {x:Field} {n:Int} {y:Spec} (h:xH ss x n m) (hy:ss[m]? = some y) (hn:y.num=x.num->sY x y n=true):xH ss x n (m+1):=by
 intro j z hj hz
 by_cases hjm:j=m
 ·subst hjm; rw [hy] at hz; cases hz; exact hn
 ·exact h j z (by omega) hz
theorem wm {l:List Field} {ss:List Spec} {k m:Nat} {x:Field} (h:lI l ss k) (hx:l[k]? = some x) {n:Int} (hi:xH ss x n m) (hm:ss.length<=m) (e:n=((bJ (l.take (k+1)) x.num:Nat):Int)):lI l ss (k+1):=by
 subst e
 intro j z hj hz s hs hn
 by_cases hjk:j=k
 ·subst hjk; rw [hx] at hz; cases hz
  obtain ⟨p,hp,rfl⟩:=List.getElem_of_mem hs
  exact hi p _ (by omega) (List.getElem?_eq_getElem hp) hn
 ·exact h j z (by omega) hz s hs hn
theorem w_ {l:List Field} {ss:List Spec} {m:Nat} {y:Spec} (h:tZ l ss m) (hy:ss[m]? = some y) (hn:y.need=true->¬ bJ l y.num=0):tZ l ss (m+1):=by
 intro j z hj hz
 by_cases hjm:j=m
 ·subst hjm; rw [hy] at hz; cases hz; exact hn
 ·exact h j z (by omega) hz
theorem dT {l:List Field} {v:Int} {k m:Nat} {x:Field} {y:Spec} (hx:l[k]? = some x) (hy:(az v)[m]? = some y) {n:Int} (hn:y.num=x.num/\sY x y n=false) (e:n=((bJ (l.take (k+1)) x.num:Nat):Int)):¬ pN l v:=by
 intro h
 have:=h.1 k x (qc hx) hx y (List.mem_of_getElem? hy) hn.1
 rw [<- e,hn.2] at this; cases this
theorem yy {l:List Field} {v:Int} {m:Nat} {y:Spec} {n:Nat} (hy:(az v)[m]? = some y) (hn:y.need=true/\((n:Nat):Int)=0) (e:n=bJ l y.num):¬ pN l v:=
 fun h=>h.2 m y (qc hy) hy hn.1 (by omega)
theorem AD {l:List Field} {v:Int} {k m:Nat} (h1:lI l (az v) k) (hk:l.length<=k) (h2:tZ l (az v) m) (hm:(az v).length<=m):pN l v:=
 ⟨fun j x hj=>h1 j x (by omega),fun j y hj=>h2 j y (by omega)⟩
end Go.Proofs.Ytladifkbefehdaa
namespace Go.Proofs.Ytladifkbefehdaa
open Go.RowKit
theorem zQ {l:List Field} {v:Int} {k:Nat} {x:Field} (hx:l[k]? = some x) (h:x.num<=v):(l.take k).filter (fun f=>decide (f.num<=v))++[x]=(l.take (k+1)).filter (fun f=>decide (f.num<=v)):=by
 rw [aj hx,List.filter_append]; simp [h]
theorem Dk {l:List Field} {v:Int} {k:Nat} {x:Field} (hx:l[k]? = some x) (h:¬ x.num<=v):(l.take k).filter (fun f=>decide (f.num<=v))=(l.take (k+1)).filter (fun f=>decide (f.num<=v)):=by
 rw [aj hx,List.filter_append]; simp [h]
theorem yP {l:List Field} {v:Int} {k:Nat} {x:Field} (hx:l[k]? = some x) (h:¬ x.num<=v):(l.take k).filter (fun f=>!decide (f.num<=v))++[x]=(l.take (k+1)).filter (fun f=>!decide (f.num<=v)):=by
 rw [aj hx,List.filter_append]; simp [h]
theorem Cg {l:List Field} {v:Int} {k:Nat} {x:Field} (hx:l[k]? = some x) (h:x.num<=v):(l.take k).filter (fun f=>!decide (f.num<=v))=(l.take (k+1)).filter (fun f=>!decide (f.num<=v)):=by
 rw [aj hx,List.filter_append]; simp [h]
theorem wi (l:List Field) (p:Field->Bool):(l.filter p).length<=l.length:=List.length_filter_le _ _
def bG (l:List Field) (v:Int):List Field:=l.filter fun f=>decide (f.num<=v)
def bN (l:List Field) (v:Int):List Field:=l.filter fun f=>!decide (f.num<=v)
theorem nx (l:List Field) (v:Int):(bG l v).length<=l.length:=wi _ _
theorem hL (l:List Field) (v:Int):(bN l v).length<=l.length:=wi _ _
theorem tQ {l:List Field} {v:Int} {k:Nat} (hk:l.length<=k):(l.take k).filter (fun f=>decide (f.num<=v))=bG l v:=by rw [List.take_of_length_le hk]; rfl
theorem wJ {l:List Field} {v:Int} {k:Nat} (hk:l.length<=k):(l.take k).filter (fun f=>!decide (f.num<=v))=bN l v:=by rw [List.take_of_length_le hk]; rfl
end Go.Proofs.Ytladifkbefehdaa
namespace Go.Proofs.Ytladifkbefehdaa
open Go.RowKit
def sy (f:Field):Int:=IntKind.i64.wrap ((f.n.n:Nat):Int)
def bw (c:Command) (f:Field):Command:=
 if f.num=1 then ⟨sy f,c.client,c.seq,c.set,c.id,c.n,c.chunks,c.text⟩ else
 if f.num=2 then ⟨c.kind,sy f,c.seq,c.set,c.id,c.n,c.chunks,c.text⟩ else
 if f.num=3 then ⟨c.kind,c.client,sy f,c.set,c.id,c.n,c.chunks,c.text⟩ else
 if f.num=4 then ⟨c.kind,c.client,c.seq,sy f,c.id,c.n,c.chunks,c.text⟩ else
 if f.num=5 then ⟨c.kind,c.client,c.seq,c.set,sy f,c.n,c.chunks,c.text⟩ else
 if f.num=6 then ⟨c.kind,c.client,c.seq,c.set,c.id,sy f,c.chunks,c.text⟩ else
 if f.num=7 then ⟨c.kind,c.client,c.seq,c.set,c.id,c.n,eO f.b,c.text⟩ else
 if f.num=8 then ⟨c.kind,c.client,c.seq,c.set,c.id,c.n,c.chunks,⟨f.b⟩⟩ else c
def bQ:Command:=⟨0,0,0,0,0,0,[],⟨[]⟩⟩
def bc (l:List Field):Command:=l.foldl bw bQ
theorem au {l:List Field} {k:Nat} {x:Field} (hx:l[k]? = some x):bc (l.take (k+1))=bw (bc (l.take k)) x:=by
 unfold bc; rw [aj hx,List.foldl_append]; rfl
theorem yh {c:Command} {f:Field} (h:f.num=1):(⟨sy f,c.client,c.seq,c.set,c.id,c.n,c.chunks,c.text⟩:Command)=bw c f:=by rw [bw,if_pos h]
theorem ya {c:Command} {f:Field} (h:f.num=2):(⟨c.kind,sy f,c.seq,c.set,c.id,c.n,c.chunks,c.text⟩:Command)=bw c f:=by rw [bw,if_neg (by omega),if_pos h]
theorem yL {c:Command} {f:Field} (h:f.num=3):(⟨c.kind,c.client,sy f,c.set,c.id,c.n,c.chunks,c.text⟩:Command)=bw c f:=by rw [bw,if_neg (by omega),if_neg (by omega),if_pos h]
theorem yf {c:Command} {f:Field} (h:f.num=4):(⟨c.kind,c.client,c.seq,sy f,c.id,c.n,c.chunks,c.text⟩:Command)=bw c f:=by rw [bw,if_neg (by omega),if_neg (by omega),if_neg (by omega),if_pos h]
theorem As {c:Command} {f:Field} (h:f.num=5):(⟨c.kind,c.client,c.seq,c.set,sy f,c.n,c.chunks,c.text⟩:Command)=bw c f:=by rw [bw,if_neg (by omega),if_neg (by omega),if_neg (by omega),if_neg (by omega),if_pos h]
theorem yx {c:Command} {f:Field} (h:f.num=6):(⟨c.kind,c.client,c.seq,c.set,c.id,sy f,c.chunks,c.text⟩:Command)=bw c f:=by rw [bw,if_neg (by omega),if_neg (by omega),if_neg (by omega),if_neg (by omega),if_neg (by omega),if_pos h]
theorem ym {c:Command} {f:Field} (h:f.num=7):(⟨c.kind,c.client,c.seq,c.set,c.id,c.n,eO f.b,c.text⟩:Command)=bw c f:=by rw [bw,if_neg (by omega),if_neg (by omega),if_neg (by omega),if_neg (by omega),if_neg (by omega),if_neg (by omega),if_pos h]
theorem Aw {c:Command} {f:Field} (h:f.num=8):(⟨c.kind,c.client,c.seq,c.set,c.id,c.n,c.chunks,⟨f.b⟩⟩:Command)=bw c f:=by rw [bw,if_neg (by omega),if_neg (by omega),if_neg (by omega),if_neg (by omega),if_neg (by omega),if_neg (by omega),if_neg (by omega),if_pos h]
theorem CV {c:Command} {f:Field} (h:¬ (1<=f.num/\f.num<=8)):c=bw c f:=by rw [bw,if_neg (by omega),if_neg (by omega),if_neg (by omega),if_neg (by omega),if_neg (by omega),if_neg (by omega),if_neg (by omega),if_neg (by omega)]
noncomputable def eT (b:List UInt8) (v:Int):Int:=if (aI b).2=0 then dB (aI b).1 v else (aI b).2
end Go.Proofs.Ytladifkbefehdaa
namespace Go.Proofs.Ytladifkbefehdaa
open Go.RowKit
structure TkR where
 c:Command
 r:List Field
 e:Int
noncomputable def ah (b:List UInt8) (v:Int):TkR:=
 if 1<=v/\v<=3 then (if eT b v=0 then (if bm (bc (bG (aI b).1 (aQ v))) (bN (aI b).1 (aQ v)) v=0/\aP (bc (bG (aI b).1 (aQ v))) (bN (aI b).1 (aQ v)) v=b then ⟨bc (bG (aI b).1 (aQ v)),bN (aI b).1 (aQ v),0⟩ else ⟨bQ,[],6⟩) else ⟨bQ,[],eT b v⟩) else ⟨bQ,[],1⟩
theorem DO {b:List UInt8} {v:Int} (h:¬ (1<=v/\v<=3)):ah b v=⟨bQ,[],1⟩:=by rw [ah,if_neg h]
theorem CY {b:List UInt8} {v:Int} (h:1<=v/\v<=3) (h2:¬ eT b v=0):ah b v=⟨bQ,[],eT b v⟩:=by rw [ah,if_pos h,if_neg h2]
theorem DI {b:List UInt8} {v:Int} (h:1<=v/\v<=3) (h2:eT b v=0) (h3:¬ bm (bc (bG (aI b).1 (aQ v))) (bN (aI b).1 (aQ v)) v=0\/¬ aP (bc (bG (aI b).1 (aQ v))) (bN (aI b).1 (aQ v)) v=b):ah b v=⟨bQ,[],6⟩:=by
 rw [ah,if_pos h,if_pos h2,if_neg (fun h=>h3.elim (fun h4=>h4 h.1) (fun h4=>h4 h.2))]
theorem BR {b:List UInt8} {v:Int} (h:1<=v/\v<=3) (h2:eT b v=0) (h3:bm (bc (bG (aI b).1 (aQ v))) (bN (aI b).1 (aQ v)) v=0/\aP (bc (bG (aI b).1 (aQ v))) (bN (aI b).1 (aQ v)) v=b):ah b v=⟨bc (bG (aI b).1 (aQ v)),bN (aI b).1 (aQ v),0⟩:=by
 rw [ah,if_pos h,if_pos h2,if_pos h3]
theorem zN {b:List UInt8} {v:Int} (h:eT b v=0):(aI b).2=0/\bk (aI b).1=0:=by
 unfold eT at h
 split at h
 ·rename_i h1
  refine ⟨h1,?_⟩
  unfold dB at h
  split at h
  ·cases h
  ·split at h
   ·assumption
   ·exact h
 ·rename_i h1; exact absurd h h1
theorem Dc {b:List UInt8} {v:Int} {u:Int} (h:eT b v=0):∀ f ∈ bG (aI b).1 u,f.b.length<=16384:=
 fun _ hf=>eE (zN h).2 (List.mem_filter.1 hf).1
end Go.Proofs.Ytladifkbefehdaa
namespace Go.Proofs.Ytladifkbefehdaa
open Go.RowKit
theorem td {x:UInt8} (h:x.toNat<128):(x &&& 127).toNat=x.toNat:=by rw [iI]; omega
theorem tf:∀ (n:Nat) {k m:Nat} {r:List UInt8},k<=9->n*2 ^ (7*k)<18446744073709551616->(0<k->n≠0)->aV k m (br n++r)=(m+n*2 ^ (7*k),k+(br n).length,0):=by
 intro n
 induction n using Nat.strongRecOn with
 | _ n ih=>
  intro k m r hk hn h0
  by_cases hs:n<128
  ·rw [kM hs]
   have hx:(UInt8.ofNat n).toNat=n:=by rw [UInt8.toNat_ofNat']; omega
   simp only [List.cons_append,List.nil_append,List.length_cons,List.length_nil]
   have h9:¬ ((0<k/\(UInt8.ofNat n).toNat=0)\/(k=9/\1<(UInt8.ofNat n).toNat)):=by
    rw [hx]
    rintro (⟨h1,h2⟩ | ⟨rfl,h2⟩)
    ·exact h0 h1 h2
    ·have:2*2 ^ (7*9)<=n*2 ^ (7*9):=Nat.mul_le_mul_right _ (by omega)
     have e:(2:Nat)*2 ^ (7*9)=18446744073709551616:=by decide
     omega
   rw [aV,if_neg (by omega),if_neg h9,if_pos (by omega),td (by omega),hx]
  ·rw [uK hs]
   simp only [List.cons_append,List.length_cons]
   have hx:=DF n
   have hk8:k<=8:=by
    rcases Nat.lt_or_ge k 9 with h | h
    ·omega
    ·have hk9:k=9:=by omega
     subst hk9
     have:128*2 ^ (7*9)<=n*2 ^ (7*9):=Nat.mul_le_mul_right _ (by omega)
     have e:(128:Nat)*2 ^ (7*9)=1180591620717411303424:=by decide
     omega
   have e7:(2:Nat) ^ (7*(k+1))=128*2 ^ (7*k):=by rw [show 7*(k+1)=7*k+7 by omega,Nat.pow_add,Nat.mul_comm]
   have hd:n / 128*2 ^ (7*(k+1))<=n*2 ^ (7*k):=by
    rw [e7,<- Nat.mul_assoc]; exact Nat.mul_le_mul_right _ (Nat.div_mul_le_self _ _)
   rw [aV,if_neg (by omega),if_neg (by rw [hx]; rintro (⟨_,h⟩ | ⟨h,_⟩) <;> omega),if_neg (by omega),iI,hx]
   rw [ih (n / 128) (by omega) (k:=k+1) (by omega) (by omega) (fun _=>by omega)]
   have e:(n % 128+128) % 128=n % 128:=by omega
   have e2:n % 128*2 ^ (7*k)+n / 128*2 ^ (7*(k+1))=n*2 ^ (7*k):=by
    rw [e7,<- Nat.mul_assoc,<- Nat.add_mul]; congr 1; omega
   rw [e,Nat.add_assoc,e2]
   congr 2
   omega
theorem eu {n:Nat} (h:n<18446744073709551616) (r:List UInt8):ae (br n++r)=(n,(br n).length,0):=by
 unfold ae
 rw [tf n (by omega) (by simpa using h) (fun h=>absurd h (by omega))]
 simp
def lO (f:Field):Prop:=f.n.n<18446744073709551616
theorem gR {f:Field} (h:bt f=true) (r:List UInt8):ay (cK f.num f.wire++r)=⟨f.num,f.wire,(cK f.num f.wire).length,0⟩:=by
 obtain ⟨h1,h2⟩:=eV h
 rw [lW h]
 have ht:=eu (n:=((8*f.num)+f.wire).toNat) (by omega) r
 have hw:f.wire=0\/f.wire=2:=h2.imp (fun h=>h.1) (fun h=>h.1)
 rw [qP (by rw [ht]) (by rw [ht]; simp only; omega),ht]
 simp only [TagR.mk.injEq,and_true]
 omega
theorem kX {f:Field} (h:f.wire=0):aN f=cK f.num f.wire++br f.n.n:=by rw [aN,if_pos h]
theorem lA {f:Field} (h:¬ f.wire=0):aN f=cK f.num f.wire++(br f.b.length++f.b):=by rw [aN,if_neg h,List.append_assoc]
theorem xt {f:Field} (h:bt f=true) (hb:f.b.length<=16384) (hu:lO f) (r:List UInt8):aH (aN f++r)=((aN f).length,0):=by
 by_cases hw:f.wire=0
 ·rw [kX hw,List.append_assoc]
  have ht:=gR h (br f.n.n++r)
  have hd:(cK f.num f.wire++(br f.n.n++r)).drop (cK f.num f.wire).length=br f.n.n++r:=List.drop_left
  have hk:=eu hu r
  rw [Ec (by rw [ht]) (by rw [ht]; simp only; rw [hd,hk]) (by rw [ht]; exact hw),ht]
  simp only
  rw [hd,hk,List.length_append]
 ·rw [lA hw,List.append_assoc,List.append_assoc]
  have ht:=gR h (br f.b.length++(f.b++r))
  have hd:(cK f.num f.wire++(br f.b.length++(f.b++r))).drop (cK f.num f.wire).length=br f.b.length++(f.b++r):=List.drop_left
  have hk:=eu (n:=f.b.length) (by omega) (f.b++r)
  rw [EB (by rw [ht]) (by rw [ht]; simp only; rw [hd,hk]) (by rw [ht]; exact hw) (by rw [ht]; simp only; rw [hd,hk]; simp only; omega) (by rw [ht]; simp only; rw [hd,hk]; simp only [List.length_append]; omega),ht]
  simp only
  rw [hd,hk]
  simp only [List.length_append,Nat.add_assoc]
theorem yu {f:Field} (h:bt f=true) (hb:f.b.length<=16384) (hu:lO f):fk (aN f)=f:=by
 obtain ⟨h1,h2⟩:=eV h
 by_cases hw:f.wire=0
 ·rw [kX hw]
  have ht:=gR h (br f.n.n)
  have hd:(cK f.num f.wire++br f.n.n).drop (cK f.num f.wire).length=br f.n.n:=List.drop_left
  have hk:=eu hu []
  rw [List.append_nil] at hk
  rw [<- oK (by rw [ht]; exact hw),ht]
  simp only
  rw [hd,hk]
  have hb0:f.b=[]:=by rcases h2 with h2 | h2; exact h2.2; omega
  cases f; simp_all
 ·rw [lA hw]
  have ht:=gR h (br f.b.length++f.b)
  have hd:(cK f.num f.wire++(br f.b.length++f.b)).drop (cK f.num f.wire).length=br f.b.length++f.b:=List.drop_left
  have hk:=eu (n:=f.b.length) (by omega) f.b
  rw [<- pd (by rw [ht]; exact hw),ht]
  simp only
  rw [hd,hk]
  simp only
  rw [<- List.drop_drop,hd,List.drop_left]
  have hn0:f.n.n=0:=by rcases h2 with h2 | h2; exact absurd h2.1 hw; exact h2.2
  cases f with | mk a b n c=>cases n; simp_all
theorem vi {p:Option Field} {x:Field} {r:List Field} (h:bM p (x :: r)=0):(bt x=true/\EX p x=true/\x.b.length<=16384)/\bM (some x) r=0:=by
 unfold bM at h
 split at h
 ·rename_i hs
  refine ⟨?_,h⟩
  unfold stepT at hs
  split at hs
  ·cases hs
  ·rename_i h1
   split at hs
   ·cases hs
   ·rename_i h2
    split at hs
    ·cases hs
    ·exact ⟨by simpa using h1,by simpa using h2,by omega⟩
 ·rename_i hs; exact absurd h hs
theorem tD (acc:List Field) (x:Field):cw acc x=EX acc[acc.length - 1]? x:=by
 unfold cw; cases acc[acc.length - 1]? <;> rfl
theorem yK {f:Field} (h:bt f=true):1<=(cK f.num f.wire).length:=by
 rw [lW h,pf]; exact dk _
theorem qz {f:Field} (h:bt f=true):1<=(aN f).length:=by
 have:=yK h
 by_cases hw:f.wire=0
 ·rw [kX hw,List.length_append]; omega
 ·rw [lA hw,List.length_append]; omega
theorem oq:∀ {fs acc:List Field} {n:Nat},bM acc[acc.length - 1]? fs=0->(∀ f ∈ fs,lO f)->((fs.map aN).flatten).length<=n->lx n acc ((fs.map aN).flatten)=(acc++fs,0)
 | [],acc,n,_,_,_=>by cases n <;> simp [lx]
 | x :: r,acc,n,h,hu,hn=>by
  obtain ⟨⟨h1,h2,h3⟩,h4⟩:=vi h
  have hp:=qz h1
  simp only [List.map_cons,List.flatten_cons,List.length_append] at hn ⊢
  cases n with
  | zero=>omega
  | succ n=>
   have hs:=xt h1 h3 (hu x (by simp)) ((r.map aN).flatten)
   rw [lx,if_neg (by rw [List.length_append]; omega),hs]
   simp only [if_true]
   rw [List.take_left,yu h1 h3 (hu x (by simp)),List.drop_left,tD,if_pos h2]
   rw [oq (fs:=r) (acc:=acc++[x]) (by rw [List.length_append]; simpa using h4) (fun f hf=>hu f (List.mem_cons_of_mem _ hf)) (by omega)]
   simp
theorem AE {fs:List Field} (h:bk fs=0) (hu:∀ f ∈ fs,lO f):aI (dR fs)=(fs,0):=by
 have hl:=fu (k:=fs.length) h
 rw [List.take_length] at hl
 rw [dR,if_pos h,aI,if_neg (by omega),oq (acc:=[]) (by simpa using rl h) hu (Nat.le_refl _)]
 rfl
end Go.Proofs.Ytladifkbefehdaa
namespace Go.Proofs.Ytladifkbefehdaa
open Go.RowKit
theorem er {acc:Command} {i n:Int}:(ez i n).foldl bw acc=if n=0 then acc else bw acc ⟨i,0,⟨n.toNat⟩,[]⟩:=by
 unfold ez; split <;> rfl
theorem iW {i n:Int} (hn:0<=n) (hn2:n<=9223372036854775807):sy ⟨i,0,⟨n.toNat⟩,[]⟩=n:=by
 unfold sy
 show IntKind.i64.wrap ((n.toNat:Nat):Int)=n
 rw [Int.toNat_of_nonneg hn]
 exact I64.wrap ⟨by omega,by omega⟩
theorem GI {a:Command} {n:Int} (hn:0<=n) (hn2:n<=9223372036854775807) (h0:a.kind=0):(ez 1 n).foldl bw a=⟨n,a.client,a.seq,a.set,a.id,a.n,a.chunks,a.text⟩:=by
 rw [er]; split
 ·cases a; simp_all
 ·rw [<- yh rfl,iW hn hn2]
theorem GY {a:Command} {n:Int} (hn:0<=n) (hn2:n<=9223372036854775807) (h0:a.client=0):(ez 2 n).foldl bw a=⟨a.kind,n,a.seq,a.set,a.id,a.n,a.chunks,a.text⟩:=by
 rw [er]; split
 ·cases a; simp_all
 ·rw [<- ya rfl,iW hn hn2]
theorem GB {a:Command} {n:Int} (hn:0<=n) (hn2:n<=9223372036854775807) (h0:a.seq=0):(ez 3 n).foldl bw a=⟨a.kind,a.client,n,a.set,a.id,a.n,a.chunks,a.text⟩:=by
 rw [er]; split
 ·cases a; simp_all
 ·rw [<- yL rfl,iW hn hn2]
theorem GH {a:Command} {n:Int} (hn:0<=n) (hn2:n<=9223372036854775807) (h0:a.set=0):(ez 4 n).foldl bw a=⟨a.kind,a.client,a.seq,n,a.id,a.n,a.chunks,a.text⟩:=by
 rw [er]; split
 ·cases a; simp_all
 ·rw [<- yf rfl,iW hn hn2]
theorem GM {a:Command} {n:Int} (hn:0<=n) (hn2:n<=9223372036854775807) (h0:a.id=0):(ez 5 n).foldl bw a=⟨a.kind,a.client,a.seq,a.set,n,a.n,a.chunks,a.text⟩:=by
 rw [er]; split
 ·cases a; simp_all
 ·rw [<- As rfl,iW hn hn2]
theorem Hb {a:Command} {n:Int} (hn:0<=n) (hn2:n<=9223372036854775807) (h0:a.n=0):(ez 6 n).foldl bw a=⟨a.kind,a.client,a.seq,a.set,a.id,n,a.chunks,a.text⟩:=by
 rw [er]; split
 ·cases a; simp_all
 ·rw [<- yx rfl,iW hn hn2]
theorem GD {a:Command} {l:List Int} (hr:l.length=0\/rowF l=true) (h0:a.chunks=[]):(jd 7 (bj l)).foldl bw a=⟨a.kind,a.client,a.seq,a.set,a.id,a.n,l,a.text⟩:=by
 by_cases hl:0<((l.length:Nat):Int)
 ·rw [jd,if_pos (oe hr hl)]
  rw [List.foldl_cons,List.foldl_nil,<- ym rfl]
  rcases hr with hr | hr
  ·omega
  ·rw [(mB hr).2.2.1]
 ·obtain rfl:l=[]:=List.eq_nil_of_length_eq_zero (by omega)
  rw [jd,if_neg (nT hl)]
  cases a; simp_all
theorem GP {a:Command} {b:List UInt8} (h0:a.text=⟨[]⟩):(jd 8 b).foldl bw a=⟨a.kind,a.client,a.seq,a.set,a.id,a.n,a.chunks,⟨b⟩⟩:=by
 by_cases hb:0<((b.length:Nat):Int)
 ·rw [jd,if_pos hb]
  rw [List.foldl_cons,List.foldl_nil,<- Aw rfl]
 ·obtain rfl:b=[]:=List.eq_nil_of_length_eq_zero (by omega)
  rw [jd,if_neg hb]
  cases a; simp_all
structure PutOk (c:Command) (v:Int):Prop where
 vr:1<=v/\v<=3
 nn:0<=c.kind/\0<=c.client/\0<=c.seq/\0<=c.set/\0<=c.id/\0<=c.n
 kind:¬ c.kind=0
 row:c.chunks.length=0\/rowF c.chunks=true
 text:v<3->c.text=⟨[]⟩
def I6 (c:Command):Prop:=c.kind<=9223372036854775807/\c.client<=9223372036854775807/\c.seq<=9223372036854775807/\c.set<=9223372036854775807/\c.id<=9223372036854775807/\c.n<=9223372036854775807
theorem wZ {c:Command} {v:Int} (h:PutOk c v) (hi:I6 c):(cc c).foldl bw bQ=⟨c.kind,c.client,c.seq,c.set,c.id,c.n,c.chunks,⟨[]⟩⟩:=by
 obtain ⟨n1,n2,n3,n4,n5,n6⟩:=h.nn
 obtain ⟨i1,i2,i3,i4,i5,i6⟩:=hi
 unfold cc
 simp only [List.foldl_append,List.foldl_nil]
 rw [GI n1 i1 rfl,GY n2 i2 rfl,GB n3 i3 rfl,GH n4 i4 rfl,GM n5 i5 rfl,Hb n6 i6 rfl,GD h.row rfl]; rfl
theorem ud {c:Command} {v:Int} (h:PutOk c v) (hi:I6 c):bc (aF c v)=c:=by
 unfold bc aF
 split
 ·rw [List.foldl_append,wZ h hi,GP rfl]
 ·rw [wZ h hi,<- h.text (by omega)]
theorem zr {s:Str} (h:((s.b.length:Nat):Int)=0):s=⟨[]⟩:=by
 cases s with | mk b=>simp only at h; rw [List.eq_nil_of_length_eq_zero (show b.length=0 by omega)]
theorem xq {c:Command} {v:Int} (h:cZ c v=0) (hv:v<3):c.text=⟨[]⟩:=by
 obtain ⟨_,hn,hl,hf⟩:=gK h
 unfold fw at hf
 simp only [Bool.and_eq_true,decide_eq_true_eq] at hf
 have h2:Fb c=true:=by obtain ⟨⟨⟨⟨⟨⟨⟨h1,h2⟩,h3⟩,h4⟩,h5⟩,h6⟩,h7⟩,h8⟩:=hf; assumption
 unfold Fb at h2
 split at h2
 ·rename_i hk
  have:bl c.kind=3:=by rw [hk]; decide
  omega
 ·exact of_decide_eq_true h2
theorem tG {c:Command} {rest:List Field} {v:Int} (h:bm c rest v=0):((1<=v/\v<=3)/\(bX c v=true\/cZ c v=0)/\(∀ f ∈ rest,aQ v<f.num))/\bk (aF c v++rest)=0/\aP c rest v=dR (aF c v++rest):=by
 unfold bm at h
 split at h
 ·rename_i hb
  refine ⟨?_,h,by rw [aP,if_pos hb]⟩
  unfold bL at hb
  split at hb
  ·cases hb
  ·rename_i h1
   split at hb
   ·rename_i h2; exact absurd hb h2.2
   ·rename_i h2
    split at hb
    ·cases hb
    ·rename_i h3
     refine ⟨Gv (by simpa using h1),?_,fun f hf=>?_⟩
     ·by_cases hm:cZ c v=0
      ·exact .inr hm
      ·refine .inl ?_
       by_cases hf:bX c v=false
       ·exact absurd ⟨hf,hm⟩ h2
       ·simpa using hf
     ·rw [Bool.not_eq_true,List.any_eq_false] at h3
      have:=h3 f hf
      simpa using this
 ·rename_i hb; exact absurd h hb
theorem tO {c:Command} {v:Int} (h:bX c v=true):1<=c.kind:=by
 unfold bX eR at h
 simp only [Bool.and_eq_true,decide_eq_true_eq] at h
 omega
theorem we {c:Command} {v:Int} (h:bX c v=true) (hv:v<3):c.text=⟨[]⟩:=by
 unfold bX at h
 simp only [Bool.and_eq_true,Bool.or_eq_true,decide_eq_true_eq] at h
 rcases h.2 with h | h
 ·exact zr h
 ·omega
theorem Dg {c:Command} {v:Int} (hv:1<=v/\v<=3) (h:bX c v=true\/cZ c v=0):PutOk c v:=by
 rcases h with h | h
 ·exact ⟨hv,nS h,by have:=tO h; omega,Cz h,we h⟩
 ·exact ⟨hv,nw h,by have:=kj (gK h).2.1; omega,Ah h,xq h⟩
theorem Eh {v:Int} (h:1<=v/\v<=3):aQ v=if v=3 then 8 else 7:=by
 have:v=1\/v=2\/v=3:=by omega
 rcases this with rfl | rfl | rfl <;> decide
def Fz (v:Int) (f:Field):Prop:=(1<=f.num/\f.num<=6/\f.wire=0/\¬ f.n.n=0)\/(f.num=7/\f.wire=2/\0<f.b.length)\/(f.num=8/\f.wire=2/\0<f.b.length/\3<=v)
theorem iG {i n:Int} {f:Field} (hi:1<=i/\i<=6) (hn:0<=n) (v:Int) (h:f ∈ ez i n):Fz v f:=by
 unfold ez at h
 split at h
 ·simp at h
 ·simp only [List.mem_singleton] at h
  subst h
  exact .inl ⟨hi.1,hi.2,rfl,by show ¬ n.toNat=0; omega⟩
theorem wh {i:Int} {b:List UInt8} {f:Field} (h:f ∈ jd i b):f.num=i/\f.wire=2/\0<f.b.length:=by
 unfold jd at h
 split at h
 ·rename_i hb
  simp only [List.mem_singleton] at h
  subst h
  exact ⟨rfl,rfl,by show 0<b.length; omega⟩
 ·simp at h
theorem jY {c:Command} {v:Int} {f:Field} (h:PutOk c v) (hf:f ∈ aF c v):Fz v f:=by
 obtain ⟨n1,n2,n3,n4,n5,n6⟩:=h.nn
 have hN:f ∈ cc c->Fz v f:=by
  intro hf
  unfold cc at hf
  simp only [List.mem_append,List.not_mem_nil,false_or] at hf
  rcases hf with ((((((hf | hf) | hf) | hf) | hf) | hf) | hf)
  ·exact iG (by omega) n1 v hf
  ·exact iG (by omega) n2 v hf
  ·exact iG (by omega) n3 v hf
  ·exact iG (by omega) n4 v hf
  ·exact iG (by omega) n5 v hf
  ·exact iG (by omega) n6 v hf
  ·have:=wh hf; exact .inr (.inl this)
 unfold aF at hf
 split at hf
 ·rename_i hv
  rcases List.mem_append.1 hf with hf | hf
  ·exact hN hf
  ·have:=wh hf; exact .inr (.inr ⟨this.1,this.2.1,this.2.2,hv⟩)
 ·exact hN hf
theorem nq (a b:List Field) (q:Int):bJ (a++b) q=bJ a q+bJ b q:=List.countP_append
theorem iP (i n q:Int):bJ (ez i n) q<=1/\(¬ i=q->bJ (ez i n) q=0):=by
 unfold ez bJ
 by_cases h:i=q <;> split <;> simp [h]
theorem vI (i q:Int) (b:List UInt8):bJ (jd i b) q<=1/\(¬ i=q->bJ (jd i b) q=0):=by
 unfold jd bJ
 by_cases h:i=q <;> split <;> simp [h]
theorem qX (c:Command) (v q:Int):bJ (aF c v) q<=1:=by
 have h1:=iP 1 c.kind q; have h2:=iP 2 c.client q; have h3:=iP 3 c.seq q; have h4:=iP 4 c.set q; have h5:=iP 5 c.id q; have h6:=iP 6 c.n q
 have h7:=vI 7 q (bj c.chunks); have h8:=vI 8 q c.text.b
 have h0:bJ [] q=0:=rfl
 unfold aF cc
 split
 ·simp only [nq]; omega
 ·simp only [nq]; omega
theorem uf {l:List Field} {q:Int} (h:∀ f ∈ l,¬ f.num=q):bJ l q=0:=by
 unfold bJ
 rw [List.countP_eq_zero]
 intro f hf; simpa using h f hf
theorem zj {l:List Field} {q:Int} (k:Nat):bJ (l.take k) q<=bJ l q:=(List.take_sublist k l).countP_le
theorem vP {v:Int} (h:1<=v/\v<=3):∀ s ∈ az v,s.num<=aQ v/\((s.num<=6/\s.wire=0)\/(7<=s.num/\s.wire=2))/\(s.need=true->s.num=1):=by
 have:v=1\/v=2\/v=3:=by omega
 rcases this with rfl | rfl | rfl <;> decide
theorem At {v:Int} (h:1<=v/\v<=3):¬ (az v).length=0:=by
 have:v=1\/v=2\/v=3:=by omega
 rcases this with rfl | rfl | rfl <;> decide
theorem yc {c:Command} {rest:List Field} {v:Int} (h:PutOk c v) (hr:∀ f ∈ rest,aQ v<f.num) (hm:bk (aF c v++rest)=0):dB (aF c v++rest) v=0:=by
 refine (mL (At h.vr) hm ⟨fun j x hj hx s hs hn=>?_,fun j y hj hy hn=>?_⟩).symm
 ·obtain ⟨h1,h2,h3⟩:=vP h.vr s hs
  have hx2:=List.mem_of_getElem? hx
  rcases List.mem_append.1 hx2 with hx3 | hx3
  ·have hk:=jY h hx3
   have hc:bJ ((aF c v++rest).take (j+1)) x.num<=1:=by
    have h4:=zj (l:=aF c v++rest) (q:=x.num) (j+1)
    have h5:=qX c v x.num
    have h6:bJ rest x.num=0:=uf fun f hf=>by have:=hr f hf; omega
    rw [nq] at h4; omega
   have hns:¬ (¬ x.wire=s.wire\/(1<((bJ ((aF c v++rest).take (j+1)) x.num:Nat):Int)/\s.many=false)):=by
    rintro (h | ⟨h,_⟩)
    ·rcases hk with hk | hk | hk <;> omega
    ·omega
   rcases hk with hk | hk | hk
   ·rw [<- FC hns hk.2.2.1]; simp only [Bool.not_eq_true',decide_eq_false_iff_not]; omega
   ·rw [<- DN hns (by omega)]; simp only [decide_eq_true_eq]; omega
   ·rw [<- DN hns (by omega)]; simp only [decide_eq_true_eq]; omega
  ·have:=hr x hx3; omega
 ·obtain ⟨h1,h2,h3⟩:=vP h.vr y (List.mem_of_getElem? hy)
  rw [h3 hn]
  intro h0
  unfold bJ at h0
  rw [List.countP_eq_zero] at h0
  have hmem:(⟨1,0,⟨c.kind.toNat⟩,[]⟩:Field) ∈ aF c v++rest:=by
   refine List.mem_append_left _ ?_
   have:(⟨1,0,⟨c.kind.toNat⟩,[]⟩:Field) ∈ cc c:=by
    unfold cc
    simp only [List.mem_append]
    refine .inl (.inl (.inl (.inl (.inl (.inl (.inr ?_))))))
    rw [ez,if_neg h.kind]; simp
   unfold aF; split
   ·exact List.mem_append_left _ this
   ·exact this
  exact h0 _ hmem (by simp)
theorem pw {c:Command} {v:Int} (h:PutOk c v) {f:Field} (hf:f ∈ aF c v):f.num<=aQ v:=by
 have hk:=jY h hf
 rw [Eh h.vr]
 have:=h.vr
 split <;> rcases hk with hk | hk | hk <;> omega
theorem um {c:Command} {rest:List Field} {v:Int} (h:PutOk c v) (hr:∀ f ∈ rest,aQ v<f.num):bG (aF c v++rest) (aQ v)=aF c v/\bN (aF c v++rest) (aQ v)=rest:=by
 constructor
 ·unfold bG
  rw [List.filter_append,List.filter_eq_self.2 (fun f hf=>by simpa using pw h hf),List.filter_eq_nil_iff.2 (fun f hf=>by have:=hr f hf; simp; omega),List.append_nil]
 ·unfold bN
  rw [List.filter_append,List.filter_eq_nil_iff.2 (fun f hf=>by have:=pw h hf; simp; omega),List.filter_eq_self.2 (fun f hf=>by have:=hr f hf; simp; omega),List.nil_append]
theorem je {i n:Int} (hn:n<=9223372036854775807):∀ f ∈ ez i n,lO f:=by
 intro f hf; unfold ez at hf
 split at hf
 ·simp at hf
 ·simp only [List.mem_singleton] at hf; subst hf; show n.toNat<_; omega
theorem vD {i:Int} {b:List UInt8}:∀ f ∈ jd i b,lO f:=by
 intro f hf; unfold jd at hf
 split at hf
 ·simp only [List.mem_singleton] at hf; subst hf; show 0<_; omega
 ·simp at hf
theorem qn {c:Command} {v:Int} (hi:I6 c):∀ f ∈ aF c v,lO f:=by
 obtain ⟨i1,i2,i3,i4,i5,i6⟩:=hi
 have hN:∀ f ∈ cc c,lO f:=by
  intro f hf
  unfold cc at hf
  simp only [List.mem_append,List.not_mem_nil,false_or] at hf
  rcases hf with ((((((hf | hf) | hf) | hf) | hf) | hf) | hf)
  ·exact je i1 f hf
  ·exact je i2 f hf
  ·exact je i3 f hf
  ·exact je i4 f hf
  ·exact je i5 f hf
  ·exact je i6 f hf
  ·exact vD f hf
 intro f hf
 unfold aF at hf
 split at hf
 ·rcases List.mem_append.1 hf with hf | hf
  ·exact hN f hf
  ·exact vD f hf
 ·exact hN f hf
theorem vB {c:Command} {rest:List Field} {v:Int} (h:bm c rest v=0) (hi:I6 c) (hu:∀ f ∈ rest,lO f):ah (aP c rest v) v=⟨c,rest,0⟩:=by
 obtain ⟨⟨hv,hfm,hr⟩,hm,hb⟩:=tG h
 have hok:=Dg hv hfm
 have htl:aI (aP c rest v)=(aF c v++rest,0):=by
  rw [hb]; exact AE hm fun f hf=>(List.mem_append.1 hf).elim (qn hi f) (hu f)
 have he:eT (aP c rest v) v=0:=by rw [eT,htl]; simp only [if_true]; exact yc hok hr hm
 obtain ⟨hk,hs⟩:=um hok hr
 have hrd:=ud hok hi
 rw [BR hv he (by rw [htl]; simp only; rw [hk,hs,hrd]; exact ⟨h,rfl⟩),htl]
 simp only
 rw [hk,hs,hrd]
end Go.Proofs.Ytladifkbefehdaa
namespace Go.Proofs.Ytladifkbefehdaa
open Go.RowKit
theorem yI {x y:Field} (h:((x.num=y.num/\x.wire=y.wire)/\(x.n.n:Int)=(y.n.n:Int))/\x.b=y.b):x=y:=by
 obtain ⟨⟨⟨h1,h2⟩,h3⟩,h4⟩:=h
 cases x with | mk a b c d=>cases c; cases y with | mk e f g k=>cases g; simp_all; omega
theorem Aj {a b:List Field} {k:Nat} {x y:Field} (hx:a[k]? = some x) (hy:b[k]? = some y) (h:¬ x=y):false=decide (a=b):=by
 symm; apply decide_eq_false; rintro rfl; rw [hx] at hy; cases hy; exact h rfl
theorem kK {a b:List Field} (h:¬ ((a.length:Nat):Int)=((b.length:Nat):Int)):false=decide (a=b):=by
 symm; apply decide_eq_false; rintro rfl; exact h rfl
theorem sP {a b:List Field} {k:Nat} {x y:Field} (h:a.take k=b.take k) (hx:a[k]? = some x) (hy:b[k]? = some y) (e:x=y):a.take (k+1)=b.take (k+1):=by
 rw [aj hx,aj hy,h,e]
theorem k_ {a b:List Field} {k:Nat} (h:a.take k=b.take k) (ha:a.length<=k) (hb:b.length<=k):true=decide (a=b):=by
 rw [List.take_of_length_le ha,List.take_of_length_le hb] at h
 exact (decide_eq_true h).symm
end Go.Proofs.Ytladifkbefehdaa
namespace Go.Proofs.Ytladifkbefehdaa
open Go.RowKit
end Go.Proofs.Ytladifkbefehdaa
namespace Go.Proofs.Ytladifkbefehdaa
open Go.RowKit
theorem ER {b:List UInt8} {k:Nat} {x:UInt8} (hx:b[k]? = some x):b.getD k (aC .u8)=x:=by rw [List.getD_eq_getElem?_getD,hx]; rfl
theorem GO {b:List UInt8} {k n:Nat} (h:ae b=aV k n (b.drop k)) (hk:(k:Int)<10) (hb:(k:Int)=(b.length:Int)):ae b=(0,0,2):=h.trans (CF (by omega) (by omega))
theorem GW {b:List UInt8} {k n:Nat} (h:ae b=aV k n (b.drop k)) (hk:10<=(k:Int)):ae b=(0,0,3):=h.trans (CQ (by omega))
theorem Gt {b:List UInt8} {k:Nat} (h1:k<=b.length) (h2:¬ (k:Int)=(b.length:Int)):∃ x,b[k]? = some x:=⟨_,List.getElem?_eq_getElem (by omega)⟩
theorem GV {b:List UInt8} {k n:Nat} (h:ae b=aV k n (b.drop k)) (hk:(k:Int)<10) (hl:k<=b.length) (hb:¬ (k:Int)=(b.length:Int)) (h0:0<(k:Int)) (h1:((b.getD k (aC .u8)).toNat:Int)=((UInt8.ofNat 0).toNat:Int)):ae b=(0,0,3):=by
 obtain ⟨x,hx⟩:=Gt hl hb
 rw [ER hx,show (UInt8.ofNat 0).toNat=0 from rfl] at h1
 exact u_ h (by omega) hx (.inl ⟨by omega,by omega⟩)
theorem GQ {b:List UInt8} {k n:Nat} (h:ae b=aV k n (b.drop k)) (_hk:(k:Int)<10) (hl:k<=b.length) (hb:¬ (k:Int)=(b.length:Int)) (h0:(k:Int)=9) (h1:((UInt8.ofNat 1).toNat:Int)<((b.getD k (aC .u8)).toNat:Int)):ae b=(0,0,3):=by
 obtain ⟨x,hx⟩:=Gt hl hb
 rw [ER hx,show (UInt8.ofNat 1).toNat=1 from rfl] at h1
 exact u_ h (by omega) hx (.inr ⟨by omega,by omega⟩)
def CW (n k:Nat) (x:UInt8):Nat:=n ||| (x &&& UInt8.ofNat 127).toNat*2 ^ (7*(k:Int)).toNat % 18446744073709551616
theorem Gp {k n:Nat} {x:UInt8} (hn:n<2 ^ (7*k)) (hk:k<=9) (h9:k=9->x.toNat<=1):CW n k x=n+(x &&& 127).toNat*2 ^ (7*k):=by
 unfold CW
 rw [show (UInt8.ofNat 127)=127 from rfl,show (7*(k:Int)).toNat=7*k by omega,Nat.mod_eq_of_lt (Dn hk h9)]
 exact CE hn
theorem Gq {b:List UInt8} {k:Nat} {x:UInt8} (hx:b[k]? = some x) (h1:(k:Int)<=0\/¬ ((b.getD k (aC .u8)).toNat:Int)=((UInt8.ofNat 0).toNat:Int)) (h2:¬ (k:Int)=9\/((b.getD k (aC .u8)).toNat:Int)<=((UInt8.ofNat 1).toNat:Int)):(¬ (0<k/\x.toNat=0))/\¬ (k=9/\1<x.toNat):=by
 rw [ER hx,show (UInt8.ofNat 0).toNat=0 from rfl] at h1
 rw [ER hx,show (UInt8.ofNat 1).toNat=1 from rfl] at h2
 omega
theorem FN {b:List UInt8} {k n:Nat} {x y:UInt8} (h:ae b=aV k n (b.drop k)) (hn:n<2 ^ (7*k)) (hk:(k:Int)<10) (hx:b[k]? = some x) (hy:b[k]? = some y) (h1:(k:Int)<=0\/¬ ((b.getD k (aC .u8)).toNat:Int)=((UInt8.ofNat 0).toNat:Int)) (h2:¬ (k:Int)=9\/((b.getD k (aC .u8)).toNat:Int)<=((UInt8.ofNat 1).toNat:Int)) (h3:(y.toNat:Int)<((UInt8.ofNat 128).toNat:Int)):ae b=(CW n k x,k+1,0):=by
 have hz:=Gq hx h1 h2
 rw [show (UInt8.ofNat 128).toNat=128 from rfl] at h3
 rw [hx] at hy; cases hy
 rw [Gp hn (by omega) (by omega)]
 exact Ao h (by omega) hx hz.1 hz.2 (by omega)
theorem FL {b:List UInt8} {k n:Nat} {x y:UInt8} (h:ae b=aV k n (b.drop k)) (hn:n<2 ^ (7*k)) (hn2:n<18446744073709551616) (hk:(k:Int)<10) (hx:b[k]? = some x) (hy:b[k]? = some y) (h1:(k:Int)<=0\/¬ ((b.getD k (aC .u8)).toNat:Int)=((UInt8.ofNat 0).toNat:Int)) (h2:¬ (k:Int)=9\/((b.getD k (aC .u8)).toNat:Int)<=((UInt8.ofNat 1).toNat:Int)) (h3:((UInt8.ofNat 128).toNat:Int)<=(y.toNat:Int)):CW n k x<2 ^ (7*(k+1))/\CW n k x<18446744073709551616/\ae b=aV (k+1) (CW n k x) (b.drop (k+1)):=by
 have hz:=Gq hx h1 h2
 rw [show (UInt8.ofNat 128).toNat=128 from rfl] at h3
 rw [hx] at hy; cases hy
 have e:=Gp hn (show k<=9 by omega) (show k=9->x.toNat<=1 by omega)
 refine ⟨by rw [e]; exact Ai hn,?_,by rw [e]; exact zS h (by omega) hx hz.1 hz.2 (by omega)⟩
 unfold CW
 exact Nat.or_lt_two_pow (n:=64) hn2 (Nat.mod_lt _ (by decide))
theorem uS {c:Command} {v:Int} {k:Nat} {x:Int} (hx:[c.client,c.seq,c.set,c.id,c.n][k]? = some x) (h:x<0\/1048576<x):false=bX c v:=by
 refine yN ?_
 match k,hx with
 | 0,hx=>cases hx; exact .inl h
 | 1,hx=>cases hx; exact .inr (.inl h)
 | 2,hx=>cases hx; exact .inr (.inr (.inl h))
 | 3,hx=>cases hx; exact .inr (.inr (.inr (.inl h)))
 | 4,hx=>cases hx; exact .inr (.inr (.inr (.inr h)))
theorem sX {c:Command} {k:Nat} (h:(k:Int)<5):[c.client,c.seq,c.set,c.id,c.n][k]? = some ([c.client,c.seq,c.set,c.id,c.n].getD k (aC .int)):=by
 rw [List.getD_eq_getElem?_getD,List.getElem?_eq_getElem (by simp only [List.length_cons,List.length_nil]; omega)]; rfl
theorem sR {n:Int} {p:Prop} (h:n<=0\/p):(¬ 0<n)\/p:=h.imp_left (by omega)
theorem Ci {l:List Int} {k:Nat} {x:Int} (h:((l.take k).all fun n=>eR n 0 1048576)=true) (hx:l[k]? = some x) (h0:0<=x) (h1:x<=1048576):((l.take (k+1)).all fun n=>eR n 0 1048576)=true:=by
 rw [aj hx,List.all_append,h]; simp [eR]; omega
theorem tH {c:Command} {k:Nat} (h:(([c.client,c.seq,c.set,c.id,c.n].take k).all fun n=>eR n 0 1048576)=true) (hk:5<=(k:Int)):¬ ((c.client<0\/1048576<c.client)\/(c.seq<0\/1048576<c.seq)\/(c.set<0\/1048576<c.set)\/(c.id<0\/1048576<c.id)\/(c.n<0\/1048576<c.n)):=by
 rw [List.take_of_length_le (by simp only [List.length_cons,List.length_nil]; omega)] at h
 simp only [List.all_cons,List.all_nil,eR,Bool.and_eq_true,decide_eq_true_eq] at h
 omega
def xK (b:List UInt8):List (Nat × LI):=[(3,{ σ:=Nat × Nat,F:=fun s=>([(0,one (.fz .u8 (b))),(5,one (.u64 s.2)),(6,one (.int 0)),(7,one (.int 3)),(9,one (.int s.1))],[]),J:=fun s=>s.1<=10/\s.2<2 ^ (7*s.1)/\s.2<18446744073709551616/\ae b=aV s.1 s.2 (b.drop s.1)/\s.1<=b.length,μ:=fun s=>10 - s.1 })]
def lZ (c:Command) (v:Int):List (Nat × LI):=[(5,{ σ:=Nat,F:=fun k=>([(1,one (.int (v))),(2,one (.ptr 0 0)),(38,.one (.agg [.int c.client,.int c.seq,.int c.set,.int c.id,.int c.n])),(39,one (.int k))],[.box 27 (cellsOf (.nm .command) ((c)))]),J:=fun k=>k<=5/\([c.client,c.seq,c.set,c.id,c.n].take k).all (fun n=>eR n 0 1048576)=true,μ:=fun k=>5 - k })]
theorem zm (b:List UInt8) (r0:U64) (r1:Int) (r2:Int):dp aK dc (xK b) Try.f65 [.c (.fz .u8 (b))] [] [.c (.u64 (r0).n),.c (.int (r1)),.c (.int (r2))]=((fun (q11:UInt8)=>(fun (q10:Nat)=>(fun (q9:Nat)=>(fun (q8:Nat)=>(fun (q7:Int)=>(fun (q6:Int)=>(fun (q5:Int)=>(fun (q4:Int)=>(fun (q3:Int)=>(fun (q2:Prop)=>(fun (q1:Int)=>(fun (q0:Int)=>b.length*(1:Nat)<=(140737488355328:Nat)->∃ (s0:Nat × Nat),(fun (q15:Prop)=>(fun (q14:Prop)=>(fun (q13:Prop)=>(fun (q12:Prop)=>(b=b/\(0:Nat)=s0.snd/\q14/\q1=q1/\q0=(↑s0.fst:Int))/\(s0.fst<=q9/\s0.snd<q8 ^ ((7:Nat)*s0.fst)/\s0.snd<q10/\ae b=aV s0.fst s0.snd (List.drop s0.fst b)/\s0.fst<=b.length)/\∀ (s:Nat × Nat),(fun (q20:Nat)=>(fun (q19:Int)=>(fun (q18:Prop)=>(fun (q17:Int)=>(fun (q16:Prop)=>q20<=q9/\s.snd<q8 ^ ((7:Nat)*q20)/\s.snd<q10/\ae b=aV q20 s.snd (List.drop q20 b)/\q20<=b.length->(q17<(10:Int)->(q17=q3->(¬(2:Int)=q0->q2/\q0=r1/\(2:Int)=r2)/\((2:Int)=q0->s.snd=r0.n/\q12))/\(¬q17=q3->(q0<q17->q0<=q17/\q17<q3)/\(q0<q17/\q19=q4->(q0<q17/\q19=q4->q18)/\(q17<=q0\/¬q19=q4->q16))/\(q17<=q0\/¬q19=q4->(q17=(9:Int)->q0<=q17/\q17<q3)/\(q17=(9:Int)/\(↑(UInt8.ofNat (1:Nat)).toNat:Int)<q19->q18)/\(¬q17=(9:Int)\/q19<=(↑(UInt8.ofNat (1:Nat)).toNat:Int)->q16))))/\((10:Int)<=q17->q18)) (q0<=q17/\q17<q3/\∀ (x:UInt8),b[q20]? = some x->I64 (q6*q17)/\q0<=q6*q17/\q6*q17<(64:Int)/\q0<=q17/\q17<q3/\∀ (x_1:UInt8),b[q20]? = some x_1->((↑x_1.toNat:Int)<q5->I64 (q17+q7)/\(¬q14->q2/\q12)/\(q14->s.snd ||| (x &&& q11).toNat*q8 ^ (q6*q17).toNat % q10=r0.n/\q17+q7=r1/\q0=r2))/\(q5<=(↑x_1.toNat:Int)->I64 (q17+q7)/\∃ (s':Nat × Nat),(b=b/\s.snd ||| (x &&& q11).toNat*q8 ^ (q6*q17).toNat % q10=s'.snd/\q14/\q1=q1/\q17+q7=(↑s'.fst:Int))/\(s'.fst<=q9/\s'.snd<q8 ^ ((7:Nat)*s'.fst)/\s'.snd<q10/\ae b=aV s'.fst s'.snd (List.drop s'.fst b)/\s'.fst<=b.length)/\q9 - s'.fst<q9 - q20))) (↑q20:Int)) ((¬q15->q13)/\(q15->s.snd=r0.n/\q12))) (↑(UInt8.toNat (b.getD q20 (aC Sh.u8))):Int)) s.fst) (q0=r1/\q0=r2)) (q2/\q0=r1/\q1=r2)) (q0=q0)) (q1=q0)) (0:Int)) (3:Int)) ((0:Nat)=r0.n)) (↑b.length:Int)) (↑(UInt8.ofNat (0:Nat)).toNat:Int)) (↑(UInt8.ofNat (128:Nat)).toNat:Int)) (7:Int)) (1:Int)) (2:Nat)) (10:Nat)) (18446744073709551616:Nat)) (UInt8.ofNat (127:Nat))):=by kernel_rfl
theorem yk (b:List UInt8):Sat Try.prog (ai aK) 65 [.c (.fz .u8 (b))] [] ⟨[],[.c (.u64 ((U64.mk (ae b).1)).n),.c (.int ((((ae b).2.1:Nat)))),.c (.int (((ae b).2.2)))],none,false⟩:=by
 refine aS bp (xK b) Try.func65 (by decide) (by kernel_rfl) ?_
 rw [zm]
 (repeat' (first | with_reducible refine And.intro ?_ ?_ | with_reducible refine and_imp.2 ?_ | intro))
 all_goals try (first | (first | with_reducible rfl | with_reducible assumption | omega | (refine ag ?_ ?_ <;> omega)) | decide)
 all_goals (refine ⟨(0,0),⟨rfl,rfl,?_,?_,?_⟩,⟨by omega,by decide,by decide,rfl,by omega⟩,?_⟩)
 all_goals try (first | trivial | rfl)
 (repeat' (first | with_reducible refine And.intro ?_ ?_ | with_reducible refine and_imp.2 ?_ | intro))
 all_goals try (first | (first | with_reducible rfl | with_reducible assumption | omega | (refine ag ?_ ?_ <;> omega)) | (rw [GO (by with_reducible assumption) (by with_reducible assumption) (by with_reducible assumption)] <;> rfl) | (rw [GW (by with_reducible assumption) (by with_reducible assumption)] <;> rfl) | (rw [GV (by with_reducible assumption) (by with_reducible assumption) (by with_reducible assumption) (by with_reducible assumption) (by with_reducible assumption) (by with_reducible assumption)] <;> rfl) | (rw [GQ (by with_reducible assumption) (by with_reducible assumption) (by with_reducible assumption) (by with_reducible assumption) (by with_reducible assumption) (by with_reducible assumption)] <;> rfl) | exact (congrArg Prod.fst (FN (by with_reducible assumption) (by with_reducible assumption) (by with_reducible assumption) (by with_reducible assumption) (by with_reducible assumption) (by with_reducible assumption) (by with_reducible assumption) (by with_reducible assumption))).symm | exact (congrArg (fun t=>((t.2.1:Nat):Int)) (FN (by with_reducible assumption) (by with_reducible assumption) (by with_reducible assumption) (by with_reducible assumption) (by with_reducible assumption) (by with_reducible assumption) (by with_reducible assumption) (by with_reducible assumption))).symm | exact (congrArg (fun t=>t.2.2) (FN (by with_reducible assumption) (by with_reducible assumption) (by with_reducible assumption) (by with_reducible assumption) (by with_reducible assumption) (by with_reducible assumption) (by with_reducible assumption) (by with_reducible assumption))).symm)
 all_goals (refine ⟨(‹Nat × Nat›.1+1,_),⟨rfl,rfl,?_⟩,?_⟩; (repeat' (first | with_reducible refine And.intro ?_ ?_ | with_reducible refine and_imp.2 ?_ | intro)))
 all_goals (first | (first | with_reducible rfl | with_reducible assumption | omega | (refine ag ?_ ?_ <;> omega)) | exact (FL (by with_reducible assumption) (by with_reducible assumption) (by with_reducible assumption) (by with_reducible assumption) (by with_reducible assumption) (by with_reducible assumption) (by with_reducible assumption) (by with_reducible assumption) (by with_reducible assumption)).1 | exact (FL (by with_reducible assumption) (by with_reducible assumption) (by with_reducible assumption) (by with_reducible assumption) (by with_reducible assumption) (by with_reducible assumption) (by with_reducible assumption) (by with_reducible assumption) (by with_reducible assumption)).2.1 | exact (FL (by with_reducible assumption) (by with_reducible assumption) (by with_reducible assumption) (by with_reducible assumption) (by with_reducible assumption) (by with_reducible assumption) (by with_reducible assumption) (by with_reducible assumption) (by with_reducible assumption)).2.2)
theorem xe (x:Field) (y:Field) (r0:Bool):dp aK dc [] Try.f38 [.agg (cellsOf (.nm .field) x),.agg (cellsOf (.nm .field) y)] [] [.c (.bool (.atom (r0)))]=(I64 x.num->I64 x.wire->x.n.n<(18446744073709551616:Nat)->x.b.length*(1:Nat)<=(140737488355328:Nat)->I64 y.num->I64 y.wire->y.n.n<(18446744073709551616:Nat)->y.b.length*(1:Nat)<=(140737488355328:Nat)->(y.num=x.num->(decide (y.wire=(2:Int)) && decide (x.wire=(2:Int)))=r0)/\(¬y.num=x.num->decide (x.num<y.num)=r0)):=by kernel_rfl
theorem wO (x:Field) (y:Field):Sat Try.prog (ai aK) 38 [.agg (cellsOf (.nm .field) x),.agg (cellsOf (.nm .field) y)] [] ⟨[],[.c (.bool (.atom ((cW x y))))],none,false⟩:=by
 refine aS bp [] Try.func38 (by decide) (by kernel_rfl) ?_
 rw [xe]
 grind [cW]
theorem vy (x:Field) (r0:Bool):dp aK dc [] Try.f67 [.agg (cellsOf (.nm .field) x)] [] [.c (.bool (.atom (r0)))]=(I64 x.num->I64 x.wire->x.n.n<(18446744073709551616:Nat)->x.b.length*(1:Nat)<=(140737488355328:Nat)->(x.num<(1:Int)\/(1000:Int)<x.num->false=r0)/\((1:Int)<=x.num/\x.num<=(1000:Int)->(x.wire=(0:Int)->decide ((↑x.b.length:Int)=(0:Int))=r0)/\(¬x.wire=(0:Int)->(x.wire=(2:Int)->decide ((↑x.n.n:Int)=(↑(0:Nat):Int))=r0)/\(¬x.wire=(2:Int)->false=r0)))):=by kernel_rfl
theorem uX (x:Field):Sat Try.prog (ai aK) 67 [.agg (cellsOf (.nm .field) x)] [] ⟨[],[.c (.bool (.atom ((bt x))))],none,false⟩:=by
 refine aS bp [] Try.func67 (by decide) (by kernel_rfl) ?_
 rw [vy]
 grind [bt,wW,uu]
theorem uz (x:List UInt8) (y:List UInt8) (r0:Bool):dp aK dc [] Try.f23 [.c (.fz .u8 (x)),.c (.fz .u8 (y))] [] [.c (.bool (.atom (r0)))]=(x.length*(1:Nat)<=(140737488355328:Nat)->y.length*(1:Nat)<=(140737488355328:Nat)->decide (Str.mk x=Str.mk y)=r0):=by kernel_rfl
theorem uq (x:List UInt8) (y:List UInt8):Sat Try.prog (ai aK) 23 [.c (.fz .u8 (x)),.c (.fz .u8 (y))] [] ⟨[],[.c (.bool (.atom ((decide (x=y)))))],none,false⟩:=by
 refine aS bp [] Try.func23 (by decide) (by kernel_rfl) ?_
 rw [uz]
 grind
theorem wz (x:List UInt8) (r0:List UInt8):dp aK dc [] Try.f44 [.c (.fz .u8 (x))] [] [.c (.fz .u8 (r0))]=((fun (q0:Prop)=>q0->∀ (b:Bool),(b=true->x=[])->(b=true->r0=[])/\(b=false->q0/\x=r0)) (x.length*(1:Nat)<=(140737488355328:Nat))):=by kernel_rfl
theorem uj (x:List UInt8):Sat Try.prog (ai aK) 44 [.c (.fz .u8 (x))] [] ⟨[],[.c (.fz .u8 ((x)))],none,false⟩:=by
 refine aS bp [] Try.func44 (by decide) (by kernel_rfl) ?_
 rw [wz]
 grind
theorem EG (k:Int) (l:Int) (r0:Spec):dp aK dc [] Try.f81 [.c (.int (k)),.c (.int (l))] [] [.agg (cellsOf (.nm .spec) r0)]=(I64 k->I64 l->k=r0.num/\(0:Int)=r0.wire/\l=r0.since/\false=r0.need/\false=r0.many):=by kernel_rfl
theorem DE (k:Int) (l:Int):Sat Try.prog (ai aK) 81 [.c (.int (k)),.c (.int (l))] [] ⟨[],[.agg (cellsOf (.nm .spec) (⟨k,0,l,false,false⟩))],none,false⟩:=by
 refine aS bp [] Try.func81 (by decide) (by kernel_rfl) ?_
 rw [EG]
 grind
theorem Ep (k:Int) (l:Int) (r0:Spec):dp aK dc [] Try.f82 [.c (.int (k)),.c (.int (l))] [] [.agg (cellsOf (.nm .spec) r0)]=(I64 k->I64 l->k=r0.num/\(2:Int)=r0.wire/\l=r0.since/\false=r0.need/\false=r0.many):=by kernel_rfl
theorem DZ (k:Int) (l:Int):Sat Try.prog (ai aK) 82 [.c (.int (k)),.c (.int (l))] [] ⟨[],[.agg (cellsOf (.nm .spec) (⟨k,2,l,false,false⟩))],none,false⟩:=by
 refine aS bp [] Try.func82 (by decide) (by kernel_rfl) ?_
 rw [Ep]
 grind
theorem Eu (x:Spec) (r0:Spec):dp aK dc [] Try.f83 [.agg (cellsOf (.nm .spec) x)] [] [.agg (cellsOf (.nm .spec) r0)]=(I64 x.num->I64 x.wire->I64 x.since->x.num=r0.num/\x.wire=r0.wire/\x.since=r0.since/\true=r0.need/\x.many=r0.many):=by kernel_rfl
theorem ED (x:Spec):Sat Try.prog (ai aK) 83 [.agg (cellsOf (.nm .spec) x)] [] ⟨[],[.agg (cellsOf (.nm .spec) ({ x with need:=true }))],none,false⟩:=by
 refine aS bp [] Try.func83 (by decide) (by kernel_rfl) ?_
 rw [Eu]
 grind
theorem Ek (x:Spec) (r0:Spec):dp aK dc [] Try.f84 [.agg (cellsOf (.nm .spec) x)] [] [.agg (cellsOf (.nm .spec) r0)]=(I64 x.num->I64 x.wire->I64 x.since->x.num=r0.num/\x.wire=r0.wire/\x.since=r0.since/\x.need=r0.need/\true=r0.many):=by kernel_rfl
theorem DP (x:Spec):Sat Try.prog (ai aK) 84 [.agg (cellsOf (.nm .spec) x)] [] ⟨[],[.agg (cellsOf (.nm .spec) ({ x with many:=true }))],none,false⟩:=by
 refine aS bp [] Try.func84 (by decide) (by kernel_rfl) ?_
 rw [Ek]
 grind
theorem Bx (x:Field) (s:Spec) (n:Int) (r0:Bool):dp aK dc [] Try.f43 [.agg (cellsOf (.nm .field) x),.agg (cellsOf (.nm .spec) s),.c (.int (n))] [] [.c (.bool (.atom (r0)))]=(I64 x.num->I64 x.wire->x.n.n<(18446744073709551616:Nat)->x.b.length*(1:Nat)<=(140737488355328:Nat)->I64 s.num->I64 s.wire->I64 s.since->I64 n->(¬x.wire=s.wire\/(1:Int)<n/\s.many=false->false=r0)/\(x.wire=s.wire/\(n<=(1:Int)\/s.many=true)->(x.wire=(0:Int)->(!decide ((↑x.n.n:Int)=(↑(0:Nat):Int)))=r0)/\(¬x.wire=(0:Int)->decide ((0:Int)<(↑x.b.length:Int))=r0))):=by kernel_rfl
theorem BL (x:Field) (s:Spec) (n:Int):Sat Try.prog (ai aK) 43 [.agg (cellsOf (.nm .field) x),.agg (cellsOf (.nm .spec) s),.c (.int (n))] [] ⟨[],[.c (.bool (.atom ((sY x s n))))],none,false⟩:=by
 refine aS bp [] Try.func43 (by decide) (by kernel_rfl) ?_
 rw [Bx]
 grind [sY]
theorem Df (num:Int) (wire:Int) (r0:Int) (r1:List UInt8):Dd aK dc [] Try.f79 [.c (.int (num)),.c (.int (wire))] [] [.c (.own 0),.c (.int (r0))] [.row 5 .u8 (r1)]=((fun (q0:Int)=>I64 num->I64 wire->((num<(1:Int)\/(1000:Int)<num)\/¬wire=(0:Int)/\¬wire=(2:Int)->(1:Int)=r0/\r1=[])/\(((1:Int)<=num/\num<=(1000:Int))/\(wire=(0:Int)\/wire=(2:Int))->I64 ((8:Int)*num)/\I64 q0/\(0:Int)<=q0/\(0:Int)=r0/\br q0.toNat=r1)) ((8:Int)*num+wire)):=by kernel_rfl
theorem Cq (num:Int) (wire:Int):Sat Try.prog (ai aK) 79 [.c (.int (num)),.c (.int (wire))] [] ⟨[],[.c (.own 0),.c (.int ((ql num wire)))],some ([.row 5 .u8 ((cK num wire))]),true⟩:=by
 refine mz bp [] Try.func79 (by decide) (by kernel_rfl) ?_
 rw [Df]
 (repeat' (first | with_reducible refine And.intro ?_ ?_ | with_reducible refine and_imp.2 ?_ | intro))
 all_goals (first | (first | with_reducible rfl | with_reducible assumption | omega | (refine ag ?_ ?_ <;> omega)) | exact (Au (by omega)) | exact (ve (by omega)) | exact (rR (by omega)).symm | exact (rR (by omega)) | exact (oY (by omega)))
theorem qA (c:Command) (v:Int) (r0:Bool):dp aK dc (lZ c v) Try.f32 [.agg (cellsOf (.nm .command) c),.c (.int (v))] [] [.c (.bool (.atom (r0)))]=((fun (q7:List Int)=>(fun (q6:Nat)=>(fun (q5:Int)=>(fun (q4:Int)=>(fun (q3:Int)=>(fun (q2:List Int)=>(fun (q1:Prop)=>(fun (q0:List (den Sh.int))=>I64 q5->I64 q4->I64 c.seq->I64 c.set->I64 c.id->I64 c.n->q7.length*(8:Nat)<=(140737488355328:Nat)->c.text.b.length<=(140737488355328:Nat)->I64 v->I64 (bl q5)->((q5<(1:Int)\/(99:Int)<q5)\/¬bl q5=q3/\bl q5<=v->false=r0)/\(((1:Int)<=q5/\q5<=(99:Int))/\(bl q5=q3\/v<bl q5)->∃ (s0:Nat),(v=v/\q4=q4/\c.seq=c.seq/\c.set=c.set/\c.id=c.id/\c.n=c.n/\q3=(↑s0:Int)/\q1)/\(s0<=q6/\((List.take s0 q2).all fun (n:Int)=>eR n q3 (1048576:Int))=true)/\∀ (s:Nat),(fun (q8:den Sh.int)=>s<=q6/\((List.take s q2).all fun (n:Int)=>eR n q3 (1048576:Int))=true->((↑s:Int)<(5:Int)->q3<=(↑s:Int)/\(↑s:Int)<(↑q6:Int)/\(I64 q8->(q8<q3\/(1048576:Int)<q8->false=r0)/\(q3<=q8/\q8<=(1048576:Int)->I64 ((↑s:Int)+(1:Int))/\∃ (s':Nat),(v=v/\q4=q4/\c.seq=c.seq/\c.set=c.set/\c.id=c.id/\c.n=c.n/\(↑s:Int)+(1:Int)=(↑s':Int)/\q1)/\(s' <= q6/\((List.take s' q2).all fun (n:Int)=>eR n q3 (1048576:Int))=true)/\q6 - s' < q6 - s)))/\((5:Int)<=(↑s:Int)->(q3<(↑q7.length:Int)/\rowF q7=false->false=r0)/\((↑q7.length:Int)<=q3\/rowF q7=true->(v<(3:Int)->decide (c.text=Str.mk [])=r0)/\((3:Int)<=v->decide ((↑c.text.b.length:Int)<=(16:Int))=r0)))) (q0.getD s (aC Sh.int)))) [q4,c.seq,c.set,c.id,c.n]) (q5=q5/\q4=q4/\c.seq=c.seq/\c.set=c.set/\c.id=c.id/\c.n=c.n/\q7=q7/\c.text=c.text)) [q4,c.seq,c.set,c.id,c.n]) (0:Int)) c.client) c.kind) (5:Nat)) c.chunks):=by kernel_rfl
theorem qi (c:Command) (v:Int):Sat Try.prog (ai aK) 32 [.agg (cellsOf (.nm .command) c),.c (.int (v))] [] ⟨[],[.c (.bool (.atom ((bX c v))))],none,false⟩:=by
 refine aS bp (lZ c v) Try.func32 (by decide) (by kernel_rfl) ?_
 rw [qA]
 (repeat' (first | with_reducible refine And.intro ?_ ?_ | with_reducible refine and_imp.2 ?_ | intro))
 all_goals try (first | (first | with_reducible rfl | with_reducible assumption | omega | (refine ag ?_ ?_ <;> omega)) | exact rfl | exact (kN (by omega)) | exact (uS (sX (by omega)) (by with_reducible assumption)) | exact (Ci (by with_reducible assumption) (sX (by omega)) (by with_reducible assumption) (by with_reducible assumption)) | exact (mY (And.intro (by with_reducible assumption) (by with_reducible assumption))) | exact (qC (by omega) (tH (by with_reducible assumption) (by omega)) (sR (by assumption)) (by omega)) | exact (qR (by omega) (tH (by with_reducible assumption) (by omega)) (sR (by assumption)) (by omega)))
 all_goals try (refine ⟨0,?_⟩; (repeat' (first | with_reducible refine And.intro ?_ ?_ | with_reducible refine and_imp.2 ?_ | intro)))
 all_goals try (first | (first | with_reducible rfl | with_reducible assumption | omega | (refine ag ?_ ?_ <;> omega)) | exact rfl | exact (kN (by omega)) | exact (uS (sX (by omega)) (by with_reducible assumption)) | exact (Ci (by with_reducible assumption) (sX (by omega)) (by with_reducible assumption) (by with_reducible assumption)) | exact (mY (And.intro (by with_reducible assumption) (by with_reducible assumption))) | exact (qC (by omega) (tH (by with_reducible assumption) (by omega)) (sR (by assumption)) (by omega)) | exact (qR (by omega) (tH (by with_reducible assumption) (by omega)) (sR (by assumption)) (by omega)))
 all_goals try (refine ⟨‹Nat› + 1,?_⟩; (repeat' (first | with_reducible refine And.intro ?_ ?_ | with_reducible refine and_imp.2 ?_ | intro)))
 all_goals (first | (first | with_reducible rfl | with_reducible assumption | omega | (refine ag ?_ ?_ <;> omega)) | exact rfl | exact (kN (by omega)) | exact (uS (sX (by omega)) (by with_reducible assumption)) | exact (Ci (by with_reducible assumption) (sX (by omega)) (by with_reducible assumption) (by with_reducible assumption)) | exact (mY (And.intro (by with_reducible assumption) (by with_reducible assumption))) | exact (qC (by omega) (tH (by with_reducible assumption) (by omega)) (sR (by assumption)) (by omega)) | exact (qR (by omega) (tH (by with_reducible assumption) (by omega)) (sR (by assumption)) (by omega)))
theorem zX (a:Command) (b:Command) (r0:Bool):dp aK dc [] Try.f10 [.agg (cellsOf (.nm .command) a),.agg (cellsOf (.nm .command) b)] [] [.c (.bool (.atom (r0)))]=(I64 a.kind->I64 a.client->I64 a.seq->I64 a.set->I64 a.id->I64 a.n->a.chunks.length*(8:Nat)<=(140737488355328:Nat)->a.text.b.length<=(140737488355328:Nat)->I64 b.kind->I64 b.client->I64 b.seq->I64 b.set->I64 b.id->I64 b.n->b.chunks.length*(8:Nat)<=(140737488355328:Nat)->b.text.b.length<=(140737488355328:Nat)->(decide (a.chunks=b.chunks) && decide (a.kind=b.kind) && decide (a.client=b.client) && decide (a.seq=b.seq) && decide (a.set=b.set) && decide (a.id=b.id) && decide (a.n=b.n) && decide (a.text=b.text))=r0):=by kernel_rfl
theorem yJ (a:Command) (b:Command):Sat Try.prog (ai aK) 10 [.agg (cellsOf (.nm .command) a),.agg (cellsOf (.nm .command) b)] [] ⟨[],[.c (.bool (.atom ((decide (a=b)))))],none,false⟩:=by
 refine aS bp [] Try.func10 (by decide) (by kernel_rfl) ?_
 rw [zX]
 intros; cases a; cases b; simp only [Command.mk.injEq]; grind
theorem vx (l:List UInt8) (r0:List UInt8):dp aK dc [] Try.f7 [.c (.fz .u8 (l))] [] [.c (.fz .u8 (r0))]=(l.length*(1:Nat)<=(140737488355328:Nat)->((3000:Int)<(↑l.length:Int)->(0:Int)<=(3000:Int)/\(3000:Int)<=(↑l.length:Int)/\List.take (3000:Nat) l=r0)/\((↑l.length:Int)<=(3000:Int)->l=r0)):=by kernel_rfl
theorem uY (l:List UInt8):Sat Try.prog (ai aK) 7 [.c (.fz .u8 (l))] [] ⟨[],[.c (.fz .u8 ((l.take 3000)))],none,false⟩:=by
 refine aS bp [] Try.func7 (by decide) (by kernel_rfl) ?_
 rw [vx]
 grind [List.take_of_length_le]
def tX:cz:=(cD 7 (cj (ak (kC (cL .u8)) ba) bb fun (l,_) (_)=>⟨[],[.c (.fz .u8 ((l.take 3000)))],none,false⟩) (cD 10 (cj (ak (kT (.nm .command)) (ak (kT (.nm .command)) ba)) bb fun (a,b,_) (_)=>⟨[],[.c (.bool (.atom ((decide (a=b)))))],none,false⟩) (cD 32 (cj (ak (kT (.nm .command)) (ak (kC cI) ba)) bb fun (c,v,_) (_)=>⟨[],[.c (.bool (.atom ((bX c v))))],none,false⟩) (cD 79 (cj (ak (kC cI) (ak (kC cI) ba)) bb fun (num,wire,_) (_)=>⟨[],[.c (.own 0),.c (.int ((ql num wire)))],some ([.row 5 .u8 ((cK num wire))]),true⟩) (cD 43 (cj (ak (kT (.nm .field)) (ak (kT (.nm .spec)) (ak (kC cI) ba))) bb fun (x,s,n,_) (_)=>⟨[],[.c (.bool (.atom ((sY x s n))))],none,false⟩) (cD 84 (cj (ak (kT (.nm .spec)) ba) bb fun (x,_) (_)=>⟨[],[.agg (cellsOf (.nm .spec) ({ x with many:=true }))],none,false⟩) (cD 83 (cj (ak (kT (.nm .spec)) ba) bb fun (x,_) (_)=>⟨[],[.agg (cellsOf (.nm .spec) ({ x with need:=true }))],none,false⟩) (cD 82 (cj (ak (kC cI) (ak (kC cI) ba)) bb fun (k,l,_) (_)=>⟨[],[.agg (cellsOf (.nm .spec) (⟨k,2,l,false,false⟩))],none,false⟩) (cD 81 (cj (ak (kC cI) (ak (kC cI) ba)) bb fun (k,l,_) (_)=>⟨[],[.agg (cellsOf (.nm .spec) (⟨k,0,l,false,false⟩))],none,false⟩) (cD 44 (cj (ak (kC (cL .u8)) ba) bb fun (x,_) (_)=>⟨[],[.c (.fz .u8 ((x)))],none,false⟩) (cD 23 (cj (ak (kC (cL .u8)) (ak (kC (cL .u8)) ba)) bb fun (x,y,_) (_)=>⟨[],[.c (.bool (.atom ((decide (x=y)))))],none,false⟩) (cD 67 (cj (ak (kT (.nm .field)) ba) bb fun (x,_) (_)=>⟨[],[.c (.bool (.atom ((bt x))))],none,false⟩) (cD 38 (cj (ak (kT (.nm .field)) (ak (kT (.nm .field)) ba)) bb fun (x,y,_) (_)=>⟨[],[.c (.bool (.atom ((cW x y))))],none,false⟩) (cD 65 (cj (ak (kC (cL .u8)) ba) bb fun (b,_) (_)=>⟨[],[.c (.u64 ((U64.mk (ae b).1)).n),.c (.int ((((ae b).2.1:Nat)))),.c (.int (((ae b).2.2)))],none,false⟩) dc))))))))))))))
theorem gS:aT Try.prog (ai aK) tX:=(aw (av (ab (ax bA) ao) al fun (l,_) (_) _=>uY l ) (aw (av (ab cF (ab cF ao)) al fun (a,b,_) (_) _=>yJ a b ) (aw (av (ab cF (ab (ax bh) ao)) al fun (c,v,_) (_) _=>qi c v ) (aw (av (ab (ax bh) (ab (ax bh) ao)) al fun (num,wire,_) (_) _=>Cq num wire ) (aw (av (ab cF (ab cF (ab (ax bh) ao))) al fun (x,s,n,_) (_) _=>BL x s n ) (aw (av (ab cF ao) al fun (x,_) (_) _=>DP x ) (aw (av (ab cF ao) al fun (x,_) (_) _=>ED x ) (aw (av (ab (ax bh) (ab (ax bh) ao)) al fun (k,l,_) (_) _=>DZ k l ) (aw (av (ab (ax bh) (ab (ax bh) ao)) al fun (k,l,_) (_) _=>DE k l ) (aw (av (ab (ax bA) ao) al fun (x,_) (_) _=>uj x ) (aw (av (ab (ax bA) (ab (ax bA) ao)) al fun (x,y,_) (_) _=>uq x y ) (aw (av (ab cF ao) al fun (x,_) (_) _=>uX x ) (aw (av (ab cF (ab cF ao)) al fun (x,y,_) (_) _=>wO x y ) (aw (av (ab (ax bA) ao) al fun (b,_) (_) _=>yk b ) bp))))))))))))))
end Go.Proofs.Ytladifkbefehdaa
namespace Go.Proofs.Ytladifkbefehdaa
open Go.RowKit
theorem gO {m:Nat} (h:m<9223372036854775808):ep m=(m:Int):=by rw [ep,if_pos h]
theorem ra {b:List UInt8} {k:Nat}:(b.drop k).take (b.length - k)=b.drop k:=List.take_of_length_le (by rw [List.length_drop]; exact Nat.le_refl _)
theorem G_ {b:List UInt8} {k:Nat} (hk:(k:Int)<(b.length:Int)) (he:(ae (b.drop k)).2.2=0) (hn:(((ae (b.drop k)).1:Nat):Int)<=((64:Nat):Int)):∃ x,b[k]? = some x/\ae (b.drop k)=(x.toNat,1,0)/\x.toNat<=64:=by
 have h:=Gx (b:=b) (k:=k) (by omega) (by rw [ra]; exact he) (by rw [ra]; omega)
 rw [ra] at h; exact h
theorem zw {b:List UInt8} {k:Nat} (hk:(k:Int)<(b.length:Int)) (he:(ae (b.drop k)).2.2=0) (hn:(((ae (b.drop k)).1:Nat):Int)<=((64:Nat):Int)):(k:Int)+((ae (b.drop k)).2.1:Nat)=((k+1:Nat):Int)/\bd (b.take k)++[ep (ae (b.drop k)).1]=bd (b.take (k+1)):=by
 obtain ⟨x,hx,hp,h64⟩:=G_ hk he hn
 have h:=zI hx hp
 rw [hp] at h ⊢
 exact ⟨rfl,by rw [<- h,gO (by show x.toNat<_; omega)]⟩
theorem z_ {b:List UInt8} {k:Nat} (hk:(k:Int)<(b.length:Int)) (h:(¬ (ae (b.drop k)).2.2=0)\/((64:Nat):Int)<(((ae (b.drop k)).1:Nat):Int)):rowF (bd b)=false:=Dp (k:=k) (by omega) (by rw [ra]; exact h)
theorem qb {b:List UInt8} {k:Nat} (h:k<=b.length) (hb:b.length<=100000):((bd (b.take k)).length+1)*8<=140737488355328:=by
 unfold bd; rw [List.length_map,List.length_take]; omega
def AS (b:List UInt8):List (Nat × LI):=[(3,{ σ:=Nat,F:=fun k=>([(0,one (.fz .u8 (b))),(4,one (.own 0)),(5,one (.int k))],[.row 3 .int ((bd (b.take k)))]),J:=fun k=>k<=b.length,μ:=fun k=>b.length - k })]
theorem By (b:List UInt8) (r0:Int) (r1:Int) (r2:Int) (r3:Int):dp aK tX [] Try.f63 [.c (.fz .u8 (b))] [] [.c (.int (r0)),.c (.int (r1)),.c (.int (r2)),.c (.int (r3))]=((fun (q5:Int)=>(fun (q4:Int)=>(fun (q3:Int)=>(fun (q2:Prop)=>(fun (q1:Nat)=>(fun (q0:Int)=>b.length*(1:Nat)<=(140737488355328:Nat)->(ae b).fst<(18446744073709551616:Nat)->I64 (↑(ae b).snd.fst:Int)->I64 q4->(¬q4=q3->q3=r0/\q3=r1/\q3=r2/\q4=r3)/\(q4=q3->q2/\(q5<=q0->q2)/\(q5<=q0/\q0<=(↑(1000:Nat):Int)->q2/\(¬(↑q1:Int)=(↑(0:Nat):Int)->q2))/\((q0<q5\/(↑(1000:Nat):Int)<q0)\/¬(↑q1:Int)=(↑(0:Nat):Int)/\¬(↑q1:Int)=(↑(2:Nat):Int)->q3=r0/\q3=r1/\q3=r2/\(6:Int)=r3)/\((q5<=q0/\q0<=(↑(1000:Nat):Int))/\((↑q1:Int)=(↑(0:Nat):Int)\/(↑q1:Int)=(↑(2:Nat):Int))->q2/\q2/\ep ((ae b).fst / (8:Nat))=r0/\ep q1=r1/\(↑(ae b).snd.fst:Int)=r2/\q3=r3))) (↑((ae b).fst / (8:Nat)):Int)) ((ae b).fst % (8:Nat))) ((0:Nat)<(8:Nat))) (0:Int)) (ae b).snd.snd) (↑(1:Nat):Int)):=by kernel_rfl
theorem Db (b:List UInt8):Sat Try.prog (ai aK) 63 [.c (.fz .u8 (b))] [] ⟨[],[.c (.int (((ay b).num))),.c (.int (((ay b).wire))),.c (.int ((((ay b).k:Nat)))),.c (.int (((ay b).e)))],none,false⟩:=by
 refine aS gS [] Try.func63 (by decide) (by kernel_rfl) ?_
 rw [By]
 (repeat' (first | with_reducible refine And.intro ?_ ?_ | with_reducible refine and_imp.2 ?_ | intro))
 all_goals (first | (first | with_reducible rfl | with_reducible assumption | omega | (refine ag ?_ ?_ <;> omega)) | (rw [uC (by with_reducible assumption)] <;> rfl) | (rw [wK (by with_reducible assumption) (by omega)] <;> rfl) | (rw [qP (by with_reducible assumption) (by omega)] <;> first | rfl | exact gO (by omega)) | (have:=(jL (l:=b) (k:=0) (n:=0) (by omega)).1; change (ae b).2.1<=11 at this; omega))
theorem CG (f:Field) (r0:List UInt8):Dd aK tX [] Try.f59 [.agg (cellsOf (.nm .field) f)] [] [.c (.own 0)] [.row 5 .u8 (r0)]=((fun (q1:Nat)=>(fun (q0:List UInt8)=>I64 f.num->I64 f.wire->f.n.n<(18446744073709551616:Nat)->q1*(1:Nat)<=(140737488355328:Nat)->I64 (ql f.num f.wire)->(f.wire=(0:Int)->(q0.length+(br f.n.n).length)*(1:Nat)<=(140737488355328:Nat)/\q0++br f.n.n=r0)/\(¬f.wire=(0:Int)->(0:Int)<=(↑q1:Int)/\(q0.length+(br q1).length)*(1:Nat)<=(140737488355328:Nat)/\((q0++br q1).length+q1)*(1:Nat)<=(140737488355328:Nat)/\q0++br q1++f.b=r0)) (cK f.num f.wire)) f.b.length):=by kernel_rfl
theorem CC (f:Field) (h0:f.b.length<=16384):Sat Try.prog (ai aK) 59 [.agg (cellsOf (.nm .field) f)] [] ⟨[f.b.length<=16384],[.c (.own 0)],some ([.row 5 .u8 ((aN f))]),true⟩:=by
 refine mz gS [] Try.func59 (by decide) (by kernel_rfl) ?_
 rw [CG]
 (repeat' (first | with_reducible refine And.intro ?_ ?_ | with_reducible refine and_imp.2 ?_ | intro))
 all_goals (first | (first | with_reducible rfl | with_reducible assumption | omega | (refine ag ?_ ?_ <;> omega)) | exact (zH (by with_reducible assumption)) | exact (yU (by with_reducible assumption)) | (have:=kx f.num f.wire; have:=cf (n:=f.n.n) (by with_reducible assumption); omega) | (have:=kx f.num f.wire; have:=cf (n:=f.b.length) (by omega); (try simp only [List.length_append]); omega))
theorem CN (q:Int) (r0:List Spec):dp aK tX [] Try.f66 [.c (.int (q))] [] [.c (.fz (.nm .spec) (r0))]=((fun (q7:Int)=>(fun (q6:Int)=>(fun (q5:Int)=>(fun (q4:Int)=>(fun (q3:Int)=>(fun (q2:Int)=>(fun (q1:Int)=>(fun (q0:Int)=>I64 q->I64 q0->I64 q1->I64 q0->I64 q0->I64 q1->I64 q0->I64 q2->I64 q1->I64 q0->I64 q3->I64 q1->I64 q0->I64 q4->I64 q1->I64 q0->I64 q5->I64 q1->I64 q0->I64 q6->I64 q1->I64 q0->I64 q7->I64 q2->I64 q0->I64 (8:Int)->I64 q2->I64 q3->I64 q0->I64 q1->I64 q0->I64 q0->I64 q1->I64 q0->I64 q2->I64 q1->I64 q0->I64 q2->I64 q1->I64 q0->I64 q3->I64 q2->I64 q0->I64 q3->I64 q2->I64 q0->I64 q4->I64 q1->I64 q2->I64 q5->I64 q2->I64 q3->I64 q0->I64 q1->I64 q0->I64 q0->I64 q1->I64 q0->I64 q2->I64 q1->I64 q0->I64 q2->I64 q1->I64 q0->I64 q0->I64 q1->I64 q0->I64 q0->I64 q1->I64 q0->I64 q2->I64 q1->I64 q0->I64 q3->I64 q1->I64 q0->I64 q4->I64 q1->I64 q0->I64 q0->I64 q1->I64 q0->I64 q0->I64 q1->I64 q0->I64 q2->I64 q1->I64 q0->I64 q2->I64 q1->I64 q0->I64 q3->I64 q1->I64 q0->I64 q4->I64 q2->I64 q0->I64 q4->I64 q2->I64 q0->I64 q5->I64 q2->I64 q0->I64 q5->I64 q2->I64 q0->I64 q6->I64 q2->I64 q0->I64 q6->I64 q2->I64 q0->I64 q7->I64 q1->I64 q3->I64 q0->I64 q1->I64 q0->I64 q0->I64 q1->I64 q0->I64 q2->I64 q1->I64 q0->I64 q2->I64 q1->I64 q0->I64 q3->I64 q1->I64 q0->I64 q3->I64 q1->I64 q0->I64 q4->I64 q1->I64 q0->I64 q4->I64 q1->I64 q0->I64 q5->I64 q1->I64 q0->I64 q6->I64 q1->I64 q0->I64 q7->I64 q1->I64 q0->I64 (8:Int)->I64 q1->I64 q0->I64 (9:Int)->I64 q1->I64 q0->I64 (10:Int)->I64 q2->I64 q0->I64 (10:Int)->I64 q2->I64 q0->I64 q0->I64 q1->I64 q0->I64 q0->I64 q1->I64 q0->I64 q2->I64 q2->I64 q0->((fun (j:Int)=>if j=q7 then some [Spec.mk q0 q1 q0 true false,Spec.mk q2 q2 q0 false false] else (fun (j:Int)=>if j=q6 then some [Spec.mk q0 q1 q0 true false,Spec.mk q2 q1 q0 true false,Spec.mk q3 q1 q0 true false,Spec.mk q4 q1 q0 true false,Spec.mk q5 q1 q0 false false,Spec.mk q6 q1 q0 false false,Spec.mk q7 q1 q0 false false,Spec.mk (8:Int) q1 q0 false false,Spec.mk (9:Int) q1 q0 false false,Spec.mk (10:Int) q2 q0 false true] else (fun (j:Int)=>if j=q5 then some [Spec.mk q0 q1 q0 true false,Spec.mk q2 q1 q0 true false,Spec.mk q3 q1 q0 false false,Spec.mk q4 q2 q0 false true,Spec.mk q5 q2 q0 false true,Spec.mk q6 q2 q0 false true,Spec.mk q7 q1 q3 false false] else (fun (j:Int)=>if j=q4 then some [Spec.mk q0 q1 q0 true false,Spec.mk q2 q1 q0 false false,Spec.mk q3 q1 q0 false false,Spec.mk q4 q1 q0 false false] else (fun (j:Int)=>if j=q3 then some [Spec.mk q0 q1 q0 true false,Spec.mk q2 q1 q0 true false] else (fun (j:Int)=>if j=q2 then some [Spec.mk q0 q1 q0 true false,Spec.mk q2 q1 q0 true false,Spec.mk q3 q2 q0 true false,Spec.mk q4 q1 q2 false false,Spec.mk q5 q2 q3 false false] else (fun (j:Int)=>if j=q0 then some [Spec.mk q0 q1 q0 true false,Spec.mk q2 q1 q0 false false,Spec.mk q3 q1 q0 false false,Spec.mk q4 q1 q0 false false,Spec.mk q5 q1 q0 false false,Spec.mk q6 q1 q0 false false,Spec.mk q7 q2 q0 false false,Spec.mk (8:Int) q2 q3 false false] else (fun (_:Int)=>none) j) j) j) j) j) j) j) q).getD (aC (Sh.nm NT.spec).lst)=r0) (1:Int)) (0:Int)) (2:Int)) (3:Int)) (4:Int)) (5:Int)) (6:Int)) (7:Int)):=by kernel_rfl
theorem Cl (q:Int) (h0:q=1):Sat Try.prog (ai aK) 66 [.c (.int (q))] [] ⟨[q=1],[.c (.fz (.nm .spec) ((aO)))],none,false⟩:=by
 refine aS gS [] Try.func66 (by decide) (by kernel_rfl) ?_
 rw [CN]
 subst h0; (repeat' (first | with_reducible refine And.intro ?_ ?_ | with_reducible refine and_imp.2 ?_ | intro))
 all_goals (first | (first | with_reducible rfl | with_reducible assumption | omega | (refine ag ?_ ?_ <;> omega)) | exact rfl)
theorem Cm (b:List UInt8) (r0:List Int) (r1:Int):dp aK tX (AS b) Try.f45 [.c (.fz .u8 (b))] [] [.c (.fz .int (r0)),.c (.int (r1))]=(b.length*(1:Nat)<=(140737488355328:Nat)->∃ (s0:Nat),(b=b/\(0:Int)=(↑s0:Int)/\bd (List.take s0 b)=[])/\s0<=b.length/\∀ (s:Nat),(fun (q1:List Int)=>(fun (q0:Nat × Nat × Int)=>s<=b.length->((↑s:Int)<(↑b.length:Int)->(0:Int)<=(↑s:Int)/\(↑s:Int)<=(↑b.length:Int)/\(q0.fst<(18446744073709551616:Nat)->I64 (↑q0.snd.fst:Int)->I64 q0.snd.snd->(¬q0.snd.snd=(0:Int)\/(↑(64:Nat):Int)<(↑q0.fst:Int)->r0=[]/\(6:Int)=r1)/\(q0.snd.snd=(0:Int)/\(↑q0.fst:Int)<=(↑(64:Nat):Int)->(q1.length+[ep q0.fst].length)*(8:Nat)<=(140737488355328:Nat)/\I64 ((↑s:Int)+(↑q0.snd.fst:Int))/\∃ (s':Nat),(b=b/\(↑s:Int)+(↑q0.snd.fst:Int)=(↑s':Int)/\q1++[ep q0.fst]=bd (List.take s' b))/\s' <= b.length/\b.length - s' < b.length - s)))/\((↑b.length:Int)<=(↑s:Int)->(rowF q1=false->r0=[]/\(6:Int)=r1)/\(rowF q1=true->q1=r0/\(0:Int)=r1))) (ae (List.drop s b))) (bd (List.take s b))):=by kernel_rfl
theorem Co (b:List UInt8) (h0:b.length<=100000):Sat Try.prog (ai aK) 45 [.c (.fz .u8 (b))] [] ⟨[b.length<=100000],[.c (.fz .int ((eO b))),.c (.int ((gI b)))],none,false⟩:=by
 refine aS gS (AS b) Try.func45 (by decide) (by kernel_rfl) ?_
 rw [Cm]
 (repeat' (first | with_reducible refine And.intro ?_ ?_ | with_reducible refine and_imp.2 ?_ | intro))
 all_goals try (first | (first | with_reducible rfl | with_reducible assumption | omega | (refine ag ?_ ?_ <;> omega)) | exact rfl | exact (cX (z_ (by with_reducible assumption) (by assumption))) | exact (iR (z_ (by with_reducible assumption) (by assumption))) | exact (cX (z_ (by with_reducible assumption) (by assumption))).symm | exact (cX (eA (k:=‹Nat›) (by omega) (by with_reducible assumption))).symm | exact (cX (eA (k:=‹Nat›) (by omega) (by with_reducible assumption))) | exact (iR (eA (k:=‹Nat›) (by omega) (by with_reducible assumption))) | exact (nA (by omega) (by with_reducible assumption)) | exact (mW (k:=‹Nat›) (by omega) (by with_reducible assumption)) | exact (zw (by with_reducible assumption) (by with_reducible assumption) (by with_reducible assumption)).1 | exact (zw (by with_reducible assumption) (by with_reducible assumption) (by with_reducible assumption)).2 | exact (qb (by omega) (by omega)) | (have:=(zw (by with_reducible assumption) (by with_reducible assumption) (by with_reducible assumption)).1; refine ag ?_ ?_ <;> omega))
 all_goals try (refine ⟨0,?_⟩; (repeat' (first | with_reducible refine And.intro ?_ ?_ | with_reducible refine and_imp.2 ?_ | intro)))
 all_goals try (first | (first | with_reducible rfl | with_reducible assumption | omega | (refine ag ?_ ?_ <;> omega)) | exact rfl | exact (cX (z_ (by with_reducible assumption) (by assumption))) | exact (iR (z_ (by with_reducible assumption) (by assumption))) | exact (cX (z_ (by with_reducible assumption) (by assumption))).symm | exact (cX (eA (k:=‹Nat›) (by omega) (by with_reducible assumption))).symm | exact (cX (eA (k:=‹Nat›) (by omega) (by with_reducible assumption))) | exact (iR (eA (k:=‹Nat›) (by omega) (by with_reducible assumption))) | exact (nA (by omega) (by with_reducible assumption)) | exact (mW (k:=‹Nat›) (by omega) (by with_reducible assumption)) | exact (zw (by with_reducible assumption) (by with_reducible assumption) (by with_reducible assumption)).1 | exact (zw (by with_reducible assumption) (by with_reducible assumption) (by with_reducible assumption)).2 | exact (qb (by omega) (by omega)) | (have:=(zw (by with_reducible assumption) (by with_reducible assumption) (by with_reducible assumption)).1; refine ag ?_ ?_ <;> omega))
 all_goals try (refine ⟨‹Nat› + 1,?_⟩; (repeat' (first | with_reducible refine And.intro ?_ ?_ | with_reducible refine and_imp.2 ?_ | intro)))
 all_goals (first | (first | with_reducible rfl | with_reducible assumption | omega | (refine ag ?_ ?_ <;> omega)) | exact rfl | exact (cX (z_ (by with_reducible assumption) (by assumption))) | exact (iR (z_ (by with_reducible assumption) (by assumption))) | exact (cX (z_ (by with_reducible assumption) (by assumption))).symm | exact (cX (eA (k:=‹Nat›) (by omega) (by with_reducible assumption))).symm | exact (cX (eA (k:=‹Nat›) (by omega) (by with_reducible assumption))) | exact (iR (eA (k:=‹Nat›) (by omega) (by with_reducible assumption))) | exact (nA (by omega) (by with_reducible assumption)) | exact (mW (k:=‹Nat›) (by omega) (by with_reducible assumption)) | exact (zw (by with_reducible assumption) (by with_reducible assumption) (by with_reducible assumption)).1 | exact (zw (by with_reducible assumption) (by with_reducible assumption) (by with_reducible assumption)).2 | exact (qb (by omega) (by omega)) | (have:=(zw (by with_reducible assumption) (by with_reducible assumption) (by with_reducible assumption)).1; refine ag ?_ ?_ <;> omega))
def pq:cz:=(cD 45 (cj (ak (kC (cL .u8)) ba) bb fun (b,_) (_)=>⟨[b.length<=100000],[.c (.fz .int ((eO b))),.c (.int ((gI b)))],none,false⟩) (cD 66 (cj (ak (kC cI) ba) bb fun (q,_) (_)=>⟨[q=1],[.c (.fz (.nm .spec) ((aO)))],none,false⟩) (cD 59 (cj (ak (kT (.nm .field)) ba) bb fun (f,_) (_)=>⟨[f.b.length<=16384],[.c (.own 0)],some ([.row 5 .u8 ((aN f))]),true⟩) (cD 63 (cj (ak (kC (cL .u8)) ba) bb fun (b,_) (_)=>⟨[],[.c (.int (((ay b).num))),.c (.int (((ay b).wire))),.c (.int ((((ay b).k:Nat)))),.c (.int (((ay b).e)))],none,false⟩) tX))))
theorem eC:aT Try.prog (ai aK) pq:=(aw (av (ab (ax bA) ao) al fun (b,_) (_) hp=>Co b (lH hp)) (aw (av (ab (ax bh) ao) al fun (q,_) (_) hp=>Cl q (lH hp)) (aw (av (ab cF ao) al fun (f,_) (_) hp=>CC f (lH hp)) (aw (av (ab (ax bA) ao) al fun (b,_) (_) _=>Db b ) gS))))
end Go.Proofs.Ytladifkbefehdaa
namespace Go.Proofs.Ytladifkbefehdaa
open Go.RowKit
theorem yr {l:List Field} {k:Nat} (hk:k<=l.length) (h0:0<(k:Int)):l[k - 1]? = some (l.getD ((k:Int) - 1).toNat (aC (.nm .field))):=by
 rw [show ((k:Int) - 1).toNat=k - 1 by omega,List.getD_eq_getElem?_getD,List.getElem?_eq_getElem (by omega)]; rfl
theorem ma {l:List Field} {k:Nat} {x:Field} (h:(k:Int)<=0\/cW (l.getD ((k:Int) - 1).toNat (aC (.nm .field))) x=true) (hk:k<=l.length):nM l k x:=by
 by_cases h0:0<(k:Int)
 ·exact .inr ⟨_,yr hk h0,h.resolve_left (by omega)⟩
 ·exact .inl (by omega)
theorem xB {v:Int} {k:Nat}:(((aO.take k).filter (fun s=>decide (s.since<=v))).length+1)*32<=140737488355328:=by
 have:=vK (v:=v) (k:=k); omega
theorem xl {v:Int} {k:Nat} (h1:1<=v) (h3:v<=3) (hk:8<=(k:Int)):(aO.take k).filter (fun s=>decide (s.since<=v))=az v:=vU (by omega) (by show 8<=k; omega)
theorem C_ {l:List Field} {v:Int}:bG (l.take 0) v=[]:=rfl
theorem CB {l:List Field} {v:Int}:bN (l.take 0) v=[]:=rfl
theorem BP {l:List Field} {v:Int} {k:Nat} {x:Field} (hx:l[k]? = some x) (h:x.num<=v):bG (l.take k) v++[x]=bG (l.take (k+1)) v:=zQ hx h
theorem BG {l:List Field} {v:Int} {k:Nat} {x:Field} (hx:l[k]? = some x) (h:¬ x.num<=v):bG (l.take k) v=bG (l.take (k+1)) v:=Dk hx h
theorem Ce {l:List Field} {v:Int} {k:Nat} {x:Field} (hx:l[k]? = some x) (h:¬ x.num<=v):bN (l.take k) v++[x]=bN (l.take (k+1)) v:=yP hx h
theorem Bw {l:List Field} {v:Int} {k:Nat} {x:Field} (hx:l[k]? = some x) (h:x.num<=v):bN (l.take k) v=bN (l.take (k+1)) v:=Cg hx h
theorem BZ {l:List Field} {v:Int} {k:Nat} (hk:l.length<=k):bG (l.take k) v=bG l v:=tQ hk
theorem BK {l:List Field} {v:Int} {k:Nat} (hk:l.length<=k):bN (l.take k) v=bN l v:=wJ hk
attribute [local irreducible] bG bN
def uR (l:List Field):List (Nat × LI):=[(3,{ σ:=Nat,F:=fun k=>([(0,one (.fz (.nm .field) (l))),(3,one (.int (dq (l.take k):Nat))),(6,one (.fz (.nm .field) (l))),(7,one (.int (l).length)),(8,one (.int k))],[]),J:=fun k=>k<=l.length/\bM none l=bM (b_ l k) (l.drop k)/\dq (l.take k)<=k*16404,μ:=fun k=>(l).length - k })]
def vX (q:Int) (v:Int):List (Nat × LI):=[(5,{ σ:=Nat,F:=fun k=>([(1,one (.int (v))),(5,one (.own 0)),(15,one (.fz (.nm .spec) aO)),(16,one (.int 8)),(17,one (.int k))],[.row 77 (.nm .spec) (((aO.take k).filter (fun (s:Spec)=>decide (s.since<=v))))]),J:=fun k=>k<=8,μ:=fun k=>8 - k })]
def rQ (l:List Field) (v:Int):List (Nat × LI):=[(2,{ σ:=Nat,F:=fun k=>([(1,one (.int (v))),(4,one (.own 0)),(5,one (.own 1)),(8,one (.fz (.nm .field) (l))),(9,one (.int (l).length)),(10,one (.int k))],[.row 58 (.nm .field) ((bG (l.take k) v)),.row 58 (.nm .field) ((bN (l.take k) v))]),J:=fun k=>k<=l.length,μ:=fun k=>(l).length - k })]
def xA (l:List Field):List (Nat × LI):=[(3,{ σ:=Nat,F:=fun k=>([(2,one (.ptr 0 0)),(3,one (.ptr 1 0)),(6,one (.fz (.nm .field) (l))),(7,one (.int (l).length)),(8,one (.int k))],[.box 27 (cellsOf (.nm .command) ((bQ))),.box 27 (cellsOf (.nm .command) (((bc (l.take k)))))]),J:=fun k=>k<=l.length,μ:=fun k=>(l).length - k })]
theorem yE (b:List UInt8) (s:Int) (r0:U64) (r1:Int) (r2:List UInt8) (r3:Int):Dy aK pq [] Try.f64 [.c (.ptr 0 0),.c (.ptr 1 0)] [.box 22 ([.fz .u8 (b)]),.box 3 ([.int (s)])] [.c (.u64 (r0).n),.c (.int (r1))] [.box 22 ([.fz .u8 (r2)]),.box 3 ([.int (r3)])]=((fun (q0:Nat × Nat × Int)=>(0:Int)<=s/\s<=(↑b.length:Int)/\(q0.fst<(18446744073709551616:Nat)->I64 (↑q0.snd.fst:Int)->I64 q0.snd.snd->I64 (s+(↑q0.snd.fst:Int))/\q0.fst=r0.n/\q0.snd.snd=r1/\b=r2/\s+(↑q0.snd.fst:Int)=r3)) (ae (List.drop s.toNat b))):=by kernel_rfl
theorem xX (b:List UInt8) (s:Int) (h0:0<=s) (h1:s<=(b.length:Int)) (h2:b.length*1<=140737488355328):Sat Try.prog (ai aK) 64 [.c (.ptr 0 0),.c (.ptr 1 0)] [.box 22 ([.fz .u8 (b)]),.box 3 ([.int (s)])] ⟨[0<=s,s<=(b.length:Int),b.length*1<=140737488355328],[.c (.u64 ((U64.mk (ae (b.drop s.toNat)).1)).n),.c (.int (((ae (b.drop s.toNat)).2.2)))],some ([.box 22 ([.fz .u8 ((b))]),.box 3 ([.int ((s+((ae (b.drop s.toNat)).2.1:Nat)))])]),false⟩:=by
 refine pG eC [] Try.func64 (by decide) (by kernel_rfl) ?_
 rw [yE]
 (repeat' (first | with_reducible refine And.intro ?_ ?_ | with_reducible refine and_imp.2 ?_ | intro))
 all_goals (first | (first | with_reducible rfl | with_reducible assumption | omega | (refine ag ?_ ?_ <;> omega)) | (have:=(hU b s.toNat).1; refine ag ?_ ?_ <;> omega))
theorem vR (b:List UInt8) (r0:Field):dp aK pq [] Try.f40 [.c (.fz .u8 (b))] [] [.agg (cellsOf (.nm .field) r0)]=((fun (q1:TagR)=>(fun (q0:Int)=>b.length*(1:Nat)<=(140737488355328:Nat)->I64 q1.num->I64 q1.wire->I64 (↑q1.k:Int)->I64 q1.e->(0:Int)<=(↑q1.k:Int)/\(↑q1.k:Int)<=(↑b.length:Int)/\((ae (List.drop q1.k b)).fst<(18446744073709551616:Nat)->I64 (↑(ae (List.drop q1.k b)).snd.fst:Int)->I64 (ae (List.drop q1.k b)).snd.snd->(q1.wire=(0:Int)->q1.num=r0.num/\q1.wire=r0.wire/\(ae (List.drop q1.k b)).fst=r0.n.n/\r0.b=[])/\(¬q1.wire=(0:Int)->I64 q0/\(0:Int)<=q0/\q0<=(↑b.length:Int)/\(List.drop q0.toNat b).length*(1:Nat)<=(140737488355328:Nat)/\q1.num=r0.num/\q1.wire=r0.wire/\(0:Nat)=r0.n.n/\List.drop q0.toNat b=r0.b))) ((↑q1.k:Int)+(↑(ae (List.drop q1.k b)).snd.fst:Int))) (ay b)):=by kernel_rfl
theorem vl (b:List UInt8):Sat Try.prog (ai aK) 40 [.c (.fz .u8 (b))] [] ⟨[],[.agg (cellsOf (.nm .field) (fk b))],none,false⟩:=by
 refine aS eC [] Try.func40 (by decide) (by kernel_rfl) ?_
 rw [vR]
 (repeat' (first | with_reducible refine And.intro ?_ ?_ | with_reducible refine and_imp.2 ?_ | intro))
 all_goals (first | (first | with_reducible rfl | with_reducible assumption | omega | (refine ag ?_ ?_ <;> omega)) | exact (congrArg Field.num (oK (by with_reducible assumption))) | exact (congrArg Field.wire (oK (by with_reducible assumption))) | exact (congrArg (fun f=>f.n.n) (oK (by with_reducible assumption))) | exact (congrArg Field.b (oK (by with_reducible assumption))).symm | exact (congrArg Field.num (pd (by with_reducible assumption))) | exact (congrArg Field.wire (pd (by with_reducible assumption))) | exact (congrArg (fun f=>f.n.n) (pd (by with_reducible assumption))) | exact (congrArg Field.b (pd (by with_reducible assumption))) | (have h1:=jN b; have h2:=hU b (ay b).k; first | omega | (refine ag ?_ ?_ <;> omega) | (rw [List.length_drop]; omega)))
theorem yO (l:List Field) (r0:Int):dp aK pq (uR l) Try.f42 [.c (.fz (.nm .field) (l))] [] [.c (.int (r0))]=((fun (q3:den (Sh.nm NT.field))=>(fun (q2:Nat)=>(fun (q1:Int)=>(fun (q0:Int)=>l.length*(48:Nat)<=(140737488355328:Nat)->∃ (s0:Nat),(l=l/\q1=(↑(dq (List.take s0 l)):Int)/\l=l/\(↑l.length:Int)=(↑q2:Int)/\q1=(↑s0:Int))/\(s0<=q2/\bM none l=bM (b_ l s0) (List.drop s0 l)/\dq (List.take s0 l)<=s0*(16404:Nat))/\∀ (s:Nat),(fun (q6:Int)=>(fun (q5:Int)=>(fun (q4:den (Sh.nm NT.field))=>s<=q2/\bM none l=bM (b_ l s) (List.drop s l)/\dq (List.take s l)<=s*(16404:Nat)->(q5<(↑q2:Int)->q1<=q5/\q5<(↑l.length:Int)/\∀ (x:Field),l[s]? = some x->I64 x.num->I64 x.wire->x.n.n<(18446744073709551616:Nat)->x.b.length*(1:Nat)<=(140737488355328:Nat)->(bt x=false->q0=r0)/\(bt x=true->(q1<q5->I64 (q5 - q0))/\(q1<q5->q1<=q5 - q0/\q5 - q0<(↑l.length:Int))/\((q1<q5->I64 q4.num/\I64 q4.wire/\q4.n.n<(18446744073709551616:Nat)/\q4.b.length*(1:Nat)<=(140737488355328:Nat))->(q1<q5/\cW q4 x=false->(5:Int)=r0)/\(q5<=q1\/cW q4 x=true->((16384:Int)<(↑x.b.length:Int)->(4:Int)=r0)/\((↑x.b.length:Int)<=(16384:Int)->x.b.length<=(16384:Nat)/\I64 (q6+(↑(aN x).length:Int))/\I64 (q5+q0)/\∃ (s':Nat),(l=l/\q6+(↑(aN x).length:Int)=(↑(dq (List.take s' l)):Int)/\l=l/\(↑q2:Int)=(↑q2:Int)/\q5+q0=(↑s':Int))/\(s' <= q2/\bM none l=bM (b_ l s') (List.drop s' l)/\dq (List.take s' l)<=s' * (16404:Nat))/\q2 - s' < q2 - s)))))/\((↑q2:Int)<=q5->((16384:Int)<q6->(4:Int)=r0)/\(q6<=(16384:Int)->q1=r0))) (l.getD (q5 - q0).toNat q3)) (↑s:Int)) (↑(dq (List.take s l)):Int)) (1:Int)) (0:Int)) l.length) (aC (Sh.nm NT.field))):=by kernel_rfl
theorem zO (l:List Field):Sat Try.prog (ai aK) 42 [.c (.fz (.nm .field) (l))] [] ⟨[],[.c (.int ((bk l)))],none,false⟩:=by
 refine aS eC (uR l) Try.func42 (by decide) (by kernel_rfl) ?_
 rw [yO]
 (repeat' (first | with_reducible refine And.intro ?_ ?_ | with_reducible refine and_imp.2 ?_ | intro))
 all_goals try (first | (first | with_reducible rfl | with_reducible assumption | omega | (refine ag ?_ ?_ <;> omega)) | exact rfl | exact (Nat.le_refl 0) | exact (qQ (by with_reducible assumption) (by with_reducible assumption) (by with_reducible assumption)) | exact (q_ (by with_reducible assumption) (by with_reducible assumption) (by with_reducible assumption) (by omega) (yr (by omega) (by with_reducible assumption)) (by with_reducible assumption)) | exact (qG (by with_reducible assumption) (by with_reducible assumption) (by with_reducible assumption) (ma (by assumption) (by omega)) (by with_reducible assumption)) | exact (ke (by with_reducible assumption) (by with_reducible assumption) (by with_reducible assumption) (ma (by assumption) (by omega)) (by omega)) | exact (lB (by with_reducible assumption) (by omega) (by with_reducible assumption)) | exact (lp (by with_reducible assumption) (by omega) (by omega)) | (have h1:=cN (f:=‹Field›) (by omega) (by with_reducible assumption); have h2:=jW (show l[_]? = some ‹Field› by with_reducible assumption); first | omega | (refine ag ?_ ?_ <;> omega)))
 all_goals try (refine ⟨0,?_⟩; (repeat' (first | with_reducible refine And.intro ?_ ?_ | with_reducible refine and_imp.2 ?_ | intro)))
 all_goals try (first | (first | with_reducible rfl | with_reducible assumption | omega | (refine ag ?_ ?_ <;> omega)) | exact rfl | exact (Nat.le_refl 0) | exact (qQ (by with_reducible assumption) (by with_reducible assumption) (by with_reducible assumption)) | exact (q_ (by with_reducible assumption) (by with_reducible assumption) (by with_reducible assumption) (by omega) (yr (by omega) (by with_reducible assumption)) (by with_reducible assumption)) | exact (qG (by with_reducible assumption) (by with_reducible assumption) (by with_reducible assumption) (ma (by assumption) (by omega)) (by with_reducible assumption)) | exact (ke (by with_reducible assumption) (by with_reducible assumption) (by with_reducible assumption) (ma (by assumption) (by omega)) (by omega)) | exact (lB (by with_reducible assumption) (by omega) (by with_reducible assumption)) | exact (lp (by with_reducible assumption) (by omega) (by omega)) | (have h1:=cN (f:=‹Field›) (by omega) (by with_reducible assumption); have h2:=jW (show l[_]? = some ‹Field› by with_reducible assumption); first | omega | (refine ag ?_ ?_ <;> omega)))
 all_goals try (refine ⟨‹Nat› + 1,?_⟩; (repeat' (first | with_reducible refine And.intro ?_ ?_ | with_reducible refine and_imp.2 ?_ | intro)))
 all_goals (first | (first | with_reducible rfl | with_reducible assumption | omega | (refine ag ?_ ?_ <;> omega)) | exact rfl | exact (Nat.le_refl 0) | exact (qQ (by with_reducible assumption) (by with_reducible assumption) (by with_reducible assumption)) | exact (q_ (by with_reducible assumption) (by with_reducible assumption) (by with_reducible assumption) (by omega) (yr (by omega) (by with_reducible assumption)) (by with_reducible assumption)) | exact (qG (by with_reducible assumption) (by with_reducible assumption) (by with_reducible assumption) (ma (by assumption) (by omega)) (by with_reducible assumption)) | exact (ke (by with_reducible assumption) (by with_reducible assumption) (by with_reducible assumption) (ma (by assumption) (by omega)) (by omega)) | exact (lB (by with_reducible assumption) (by omega) (by with_reducible assumption)) | exact (lp (by with_reducible assumption) (by omega) (by omega)) | (have h1:=cN (f:=‹Field›) (by omega) (by with_reducible assumption); have h2:=jW (show l[_]? = some ‹Field› by with_reducible assumption); first | omega | (refine ag ?_ ?_ <;> omega)))
theorem zg (q:Int) (v:Int) (r0:List Spec):dp aK pq (vX q v) Try.f41 [.c (.int (q)),.c (.int (v))] [] [.c (.fz (.nm .spec) (r0))]=((fun (q2:Int)=>(fun (q1:Int)=>(fun (q0:Nat)=>I64 q->I64 v->(v<q1\/(3:Int)<v->r0=[])/\(q1<=v/\v<=(3:Int)->q=q1/\(aO.length*(32:Nat)<=(140737488355328:Nat)->∃ (s0:Nat),(v=v/\aO=aO/\(↑aO.length:Int)=q2/\(0:Int)=(↑s0:Int)/\List.filter (fun (s:Spec)=>decide (s.since<=v)) (List.take s0 aO)=[])/\s0<=q0/\∀ (s:Nat),(fun (q4:Int)=>(fun (q3:List (den (Sh.nm NT.spec)))=>s<=q0->((↑s:Int)<q2->(0:Int)<=(↑s:Int)/\(↑s:Int)<(↑aO.length:Int)/\∀ (x:Spec),aO[s]? = some x->I64 x.num->I64 x.wire->I64 x.since->(x.since<=v->(q3.length+[x].length)*(32:Nat)<=(140737488355328:Nat)/\I64 q4/\∃ (s':Nat),(v=v/\aO=aO/\q2=q2/\q4=(↑s':Int)/\q3++[x]=List.filter (fun (s:Spec)=>decide (s.since<=v)) (List.take s' aO))/\s' <= q0/\q0 - s' < q0 - s)/\(v<x.since->I64 q4/\∃ (s':Nat),(v=v/\aO=aO/\q2=q2/\q4=(↑s':Int)/\q3=List.filter (fun (s:Spec)=>decide (s.since<=v)) (List.take s' aO))/\s' <= q0/\q0 - s' < q0 - s))/\(q2<=(↑s:Int)->q3=r0)) (List.filter (fun (s:Spec)=>decide (s.since<=v)) (List.take s aO))) ((↑s:Int)+q1)))) (8:Nat)) (1:Int)) (8:Int)):=by kernel_rfl
theorem yQ (q:Int) (v:Int) (h0:q=1):Sat Try.prog (ai aK) 41 [.c (.int (q)),.c (.int (v))] [] ⟨[q=1],[.c (.fz (.nm .spec) ((az v)))],none,false⟩:=by
 refine aS eC (vX q v) Try.func41 (by decide) (by kernel_rfl) ?_
 rw [zg]
 (repeat' (first | with_reducible refine And.intro ?_ ?_ | with_reducible refine and_imp.2 ?_ | intro))
 all_goals try (first | (first | with_reducible rfl | with_reducible assumption | omega | (refine ag ?_ ?_ <;> omega)) | exact rfl | exact (iE (by with_reducible assumption)).symm | exact (kR (by with_reducible assumption) (by with_reducible assumption)) | exact (mK (by with_reducible assumption) (by omega)) | exact xB | exact (xl (by omega) (by omega) (by omega)) | (have hl:aO.length=8:=rfl; omega))
 all_goals try (refine ⟨0,?_⟩; (repeat' (first | with_reducible refine And.intro ?_ ?_ | with_reducible refine and_imp.2 ?_ | intro)))
 all_goals try (first | (first | with_reducible rfl | with_reducible assumption | omega | (refine ag ?_ ?_ <;> omega)) | exact rfl | exact (iE (by with_reducible assumption)).symm | exact (kR (by with_reducible assumption) (by with_reducible assumption)) | exact (mK (by with_reducible assumption) (by omega)) | exact xB | exact (xl (by omega) (by omega) (by omega)) | (have hl:aO.length=8:=rfl; omega))
 all_goals try (refine ⟨‹Nat› + 1,?_⟩; (repeat' (first | with_reducible refine And.intro ?_ ?_ | with_reducible refine and_imp.2 ?_ | intro)))
 all_goals (first | (first | with_reducible rfl | with_reducible assumption | omega | (refine ag ?_ ?_ <;> omega)) | exact rfl | exact (iE (by with_reducible assumption)).symm | exact (kR (by with_reducible assumption) (by with_reducible assumption)) | exact (mK (by with_reducible assumption) (by omega)) | exact xB | exact (xl (by omega) (by omega) (by omega)) | (have hl:aO.length=8:=rfl; omega))
theorem uw (l:List Field) (v:Int) (r0:List Field) (r1:List Field):dp aK pq (rQ l v) Try.f20 [.c (.fz (.nm .field) (l)),.c (.int (v))] [] [.c (.fz (.nm .field) (r0)),.c (.fz (.nm .field) (r1))]=((fun (q0:Nat)=>l.length*(48:Nat)<=(140737488355328:Nat)->I64 v->∃ (s0:Nat),(fun (q1:Int)=>(v=v/\l=l/\(↑l.length:Int)=q1/\(0:Int)=(↑s0:Int)/\bG (List.take s0 l) v=[]/\bN (List.take s0 l) v=[])/\s0<=q0/\∀ (s:Nat),(fun (q3:List Field)=>(fun (q2:Int)=>s<=q0->((↑s:Int)<q1->(0:Int)<=(↑s:Int)/\(↑s:Int)<(↑l.length:Int)/\∀ (x:Field),(fun (q4:Prop)=>l[s]? = some x->I64 x.num->I64 x.wire->x.n.n<(18446744073709551616:Nat)->q4->q4->(x.num<=v->((bG q3 v).length+[x].length)*(48:Nat)<=(140737488355328:Nat)/\I64 q2/\∃ (s':Nat),(v=v/\l=l/\q1=q1/\q2=(↑s':Int)/\bG q3 v++[x]=bG (List.take s' l) v/\bN q3 v=bN (List.take s' l) v)/\s' <= q0/\q0 - s' < q0 - s)/\(v<x.num->((bN q3 v).length+[x].length)*(48:Nat)<=(140737488355328:Nat)/\I64 q2/\∃ (s':Nat),(v=v/\l=l/\q1=q1/\q2=(↑s':Int)/\bG q3 v=bG (List.take s' l) v/\bN q3 v++[x]=bN (List.take s' l) v)/\s' <= q0/\q0 - s' < q0 - s)) (x.b.length*(1:Nat)<=(140737488355328:Nat)))/\(q1<=(↑s:Int)->bG q3 v=r0/\bN q3 v=r1)) ((↑s:Int)+(1:Int))) (List.take s l)) (↑q0:Int)) l.length):=by kernel_rfl
theorem uk (l:List Field) (v:Int):Sat Try.prog (ai aK) 20 [.c (.fz (.nm .field) (l)),.c (.int (v))] [] ⟨[],[.c (.fz (.nm .field) ((bG l v))),.c (.fz (.nm .field) ((bN l v)))],none,false⟩:=by
 refine aS eC (rQ l v) Try.func20 (by decide) (by kernel_rfl) ?_
 rw [uw]
 (repeat' (first | with_reducible refine And.intro ?_ ?_ | with_reducible refine and_imp.2 ?_ | intro))
 all_goals try (first | (first | with_reducible rfl | with_reducible assumption | omega | (refine ag ?_ ?_ <;> omega)) | exact C_ | exact CB | exact (BP (by with_reducible assumption) (by with_reducible assumption)) | exact (BG (by with_reducible assumption) (by omega)) | exact (Ce (by with_reducible assumption) (by omega)) | exact (Bw (by with_reducible assumption) (by with_reducible assumption)) | exact (BZ (by omega)) | exact (BK (by omega)) | (have h1:=nx (l.take ‹Nat›) v; have h2:=hL (l.take ‹Nat›) v; rw [List.length_take] at h1 h2; simp only [List.length_cons,List.length_nil]; omega))
 all_goals try (refine ⟨0,?_⟩; (repeat' (first | with_reducible refine And.intro ?_ ?_ | with_reducible refine and_imp.2 ?_ | intro)))
 all_goals try (first | (first | with_reducible rfl | with_reducible assumption | omega | (refine ag ?_ ?_ <;> omega)) | exact C_ | exact CB | exact (BP (by with_reducible assumption) (by with_reducible assumption)) | exact (BG (by with_reducible assumption) (by omega)) | exact (Ce (by with_reducible assumption) (by omega)) | exact (Bw (by with_reducible assumption) (by with_reducible assumption)) | exact (BZ (by omega)) | exact (BK (by omega)) | (have h1:=nx (l.take ‹Nat›) v; have h2:=hL (l.take ‹Nat›) v; rw [List.length_take] at h1 h2; simp only [List.length_cons,List.length_nil]; omega))
 all_goals try (refine ⟨‹Nat› + 1,?_⟩; (repeat' (first | with_reducible refine And.intro ?_ ?_ | with_reducible refine and_imp.2 ?_ | intro)))
 all_goals (first | (first | with_reducible rfl | with_reducible assumption | omega | (refine ag ?_ ?_ <;> omega)) | exact C_ | exact CB | exact (BP (by with_reducible assumption) (by with_reducible assumption)) | exact (BG (by with_reducible assumption) (by omega)) | exact (Ce (by with_reducible assumption) (by omega)) | exact (Bw (by with_reducible assumption) (by with_reducible assumption)) | exact (BZ (by omega)) | exact (BK (by omega)) | (have h1:=nx (l.take ‹Nat›) v; have h2:=hL (l.take ‹Nat›) v; rw [List.length_take] at h1 h2; simp only [List.length_cons,List.length_nil]; omega))
theorem yA (l:List Field) (r0:Command):dp aK pq (xA l) Try.f22 [.c (.fz (.nm .field) (l))] [] [.agg (cellsOf (.nm .command) r0)]=((fun (q11:Prop)=>(fun (q10:Int)=>(fun (q9:Prop)=>(fun (q8:Int)=>(fun (q7:Prop)=>(fun (q6:Prop)=>(fun (q5:Prop)=>(fun (q4:Prop)=>(fun (q3:Prop)=>(fun (q2:Prop)=>(fun (q1:Prop)=>(fun (q0:Nat)=>l.length*(48:Nat)<=(140737488355328:Nat)->∃ (s0:Nat),(fun (q13:Command)=>(fun (q12:Prop)=>(q11/\(↑l.length:Int)=(↑q0:Int)/\q10=(↑s0:Int)/\q10=bQ.kind/\q10=bQ.client/\q10=bQ.seq/\q10=bQ.set/\q10=bQ.id/\q10=bQ.n/\bQ.chunks=[]/\Str.mk []=bQ.text/\q10=q13.kind/\q10=q13.client/\q10=q13.seq/\q10=q13.set/\q10=q13.id/\q10=q13.n/\q13.chunks=[]/\Str.mk []=q13.text)/\s0<=q0/\∀ (s:Nat),(fun (q16:Nat)=>(fun (q15:Int)=>(fun (q14:Command)=>s<=q0->((↑s:Int)<(↑q0:Int)->q10<=(↑s:Int)/\(↑s:Int)<(↑l.length:Int)/\∀ (x:Field),(fun (q25:Int)=>(fun (q24:Int)=>(fun (q23:Prop)=>(fun (q22:Str)=>(fun (q21:Int)=>(fun (q20:Int)=>(fun (q19:List Int)=>(fun (q18:Int)=>(fun (q17:Int)=>l[s]? = some x->I64 q17->I64 x.wire->x.n.n<(18446744073709551616:Nat)->x.b.length*(1:Nat)<=(140737488355328:Nat)->(q17=q8->q23/\∃ (s':Nat),(fun (q26:Command)=>(q11/\q12/\q15=(↑s':Int)/\q4/\q1/\q5/\q6/\q7/\q9/\q2/\q3/\q20=q26.kind/\q18=q26.client/\q24=q26.seq/\q25=q26.set/\q14.id=q26.id/\q14.n=q26.n/\q19=q26.chunks/\q22=q26.text)/\s' <= q0/\q0 - s' < q16) (bc (List.take s' l)))/\(¬q17=q8->(q17=(2:Int)->q23/\∃ (s':Nat),(fun (q27:Command)=>(q11/\q12/\q15=(↑s':Int)/\q4/\q1/\q5/\q6/\q7/\q9/\q2/\q3/\q21=q27.kind/\q20=q27.client/\q24=q27.seq/\q25=q27.set/\q14.id=q27.id/\q14.n=q27.n/\q19=q27.chunks/\q22=q27.text)/\s' <= q0/\q0 - s' < q16) (bc (List.take s' l)))/\(¬q17=(2:Int)->(q17=(3:Int)->q23/\∃ (s':Nat),(fun (q28:Command)=>(q11/\q12/\q15=(↑s':Int)/\q4/\q1/\q5/\q6/\q7/\q9/\q2/\q3/\q21=q28.kind/\q18=q28.client/\q20=q28.seq/\q25=q28.set/\q14.id=q28.id/\q14.n=q28.n/\q19=q28.chunks/\q22=q28.text)/\s' <= q0/\q0 - s' < q16) (bc (List.take s' l)))/\(¬q17=(3:Int)->(q17=(4:Int)->q23/\∃ (s':Nat),(fun (q29:Command)=>(q11/\q12/\q15=(↑s':Int)/\q4/\q1/\q5/\q6/\q7/\q9/\q2/\q3/\q21=q29.kind/\q18=q29.client/\q24=q29.seq/\q20=q29.set/\q14.id=q29.id/\q14.n=q29.n/\q19=q29.chunks/\q22=q29.text)/\s' <= q0/\q0 - s' < q16) (bc (List.take s' l)))/\(¬q17=(4:Int)->(q17=(5:Int)->q23/\∃ (s':Nat),(fun (q30:Command)=>(q11/\q12/\q15=(↑s':Int)/\q4/\q1/\q5/\q6/\q7/\q9/\q2/\q3/\q21=q30.kind/\q18=q30.client/\q24=q30.seq/\q25=q30.set/\q20=q30.id/\q14.n=q30.n/\q19=q30.chunks/\q22=q30.text)/\s' <= q0/\q0 - s' < q16) (bc (List.take s' l)))/\(¬q17=(5:Int)->(q17=(6:Int)->q23/\∃ (s':Nat),(fun (q31:Command)=>(q11/\q12/\q15=(↑s':Int)/\q4/\q1/\q5/\q6/\q7/\q9/\q2/\q3/\q21=q31.kind/\q18=q31.client/\q24=q31.seq/\q25=q31.set/\q14.id=q31.id/\q20=q31.n/\q19=q31.chunks/\q22=q31.text)/\s' <= q0/\q0 - s' < q16) (bc (List.take s' l)))/\(¬q17=(6:Int)->(q17=(7:Int)->x.b.length<=(100000:Nat)/\((eO x.b).length*(8:Nat)<=(140737488355328:Nat)->I64 (gI x.b)->q23/\∃ (s':Nat),(fun (q32:Command)=>(q11/\q12/\q15=(↑s':Int)/\q4/\q1/\q5/\q6/\q7/\q9/\q2/\q3/\q21=q32.kind/\q18=q32.client/\q24=q32.seq/\q25=q32.set/\q14.id=q32.id/\q14.n=q32.n/\eO x.b=q32.chunks/\q22=q32.text)/\s' <= q0/\q0 - s' < q16) (bc (List.take s' l))))/\(¬q17=(7:Int)->(q17=(8:Int)->q23/\∃ (s':Nat),(fun (q33:Command)=>(q11/\q12/\q15=(↑s':Int)/\q4/\q1/\q5/\q6/\q7/\q9/\q2/\q3/\q21=q33.kind/\q18=q33.client/\q24=q33.seq/\q25=q33.set/\q14.id=q33.id/\q14.n=q33.n/\q19=q33.chunks/\Str.mk x.b=q33.text)/\s' <= q0/\q0 - s' < q16) (bc (List.take s' l)))/\(¬q17=(8:Int)->q23/\∃ (s':Nat),(fun (q34:Command)=>(q11/\q12/\q15=(↑s':Int)/\q4/\q1/\q5/\q6/\q7/\q9/\q2/\q3/\q21=q34.kind/\q18=q34.client/\q24=q34.seq/\q25=q34.set/\q14.id=q34.id/\q14.n=q34.n/\q19=q34.chunks/\q22=q34.text)/\s' <= q0/\q0 - s' < q16) (bc (List.take s' l))))))))))) x.num) q14.client) q14.chunks) (ep x.n.n)) q14.kind) q14.text) (I64 q15)) q14.seq) q14.set)/\((↑q0:Int)<=(↑s:Int)->q14.kind=r0.kind/\q14.client=r0.client/\q14.seq=r0.seq/\q14.set=r0.set/\q14.id=r0.id/\q14.n=r0.n/\q14.chunks=r0.chunks/\q14.text=r0.text)) (bc (List.take s l))) ((↑s:Int)+q8)) (q0 - s)) ((↑q0:Int)=(↑q0:Int))) (bc (List.take s0 l))) l.length) (bQ.client=bQ.client)) (bQ.chunks=bQ.chunks)) (bQ.text=bQ.text)) (bQ.kind=bQ.kind)) (bQ.seq=bQ.seq)) (bQ.set=bQ.set)) (bQ.id=bQ.id)) (1:Int)) (bQ.n=bQ.n)) (0:Int)) (l=l)):=by kernel_rfl
theorem An (l:List Field) (h0:∀ f ∈ l,f.b.length<=16384):Sat Try.prog (ai aK) 22 [.c (.fz (.nm .field) (l))] [] ⟨[∀ f ∈ l,f.b.length<=16384],[.agg (cellsOf (.nm .command) (bc l))],none,false⟩:=by
 refine aS eC (xA l) Try.func22 (by decide) (by kernel_rfl) ?_
 rw [yA]
 (repeat' (first | with_reducible refine And.intro ?_ ?_ | with_reducible refine and_imp.2 ?_ | intro))
 all_goals try (first | (first | with_reducible rfl | with_reducible assumption | omega | (refine ag ?_ ?_ <;> omega)) | exact rfl | (have:=h0 _ (List.mem_of_getElem? (by with_reducible assumption)); omega) | (rw [au (by with_reducible assumption),<- yh (by with_reducible assumption)] <;> first | rfl | exact (aB (by with_reducible assumption)).symm) | (rw [au (by with_reducible assumption),<- ya (by with_reducible assumption)] <;> first | rfl | exact (aB (by with_reducible assumption)).symm) | (rw [au (by with_reducible assumption),<- yL (by with_reducible assumption)] <;> first | rfl | exact (aB (by with_reducible assumption)).symm) | (rw [au (by with_reducible assumption),<- yf (by with_reducible assumption)] <;> first | rfl | exact (aB (by with_reducible assumption)).symm) | (rw [au (by with_reducible assumption),<- As (by with_reducible assumption)] <;> first | rfl | exact (aB (by with_reducible assumption)).symm) | (rw [au (by with_reducible assumption),<- yx (by with_reducible assumption)] <;> first | rfl | exact (aB (by with_reducible assumption)).symm) | (rw [au (by with_reducible assumption),<- ym (by with_reducible assumption)] <;> first | rfl | exact (aB (by with_reducible assumption)).symm) | (rw [au (by with_reducible assumption),<- Aw (by with_reducible assumption)] <;> first | rfl | exact (aB (by with_reducible assumption)).symm) | (rw [au (by with_reducible assumption),<- CV (by omega)] <;> first | rfl | exact (aB (by with_reducible assumption)).symm) | (rw [List.take_of_length_le (by omega)]))
 all_goals try (refine ⟨0,?_⟩; (repeat' (first | with_reducible refine And.intro ?_ ?_ | with_reducible refine and_imp.2 ?_ | intro)))
 all_goals try (first | (first | with_reducible rfl | with_reducible assumption | omega | (refine ag ?_ ?_ <;> omega)) | exact rfl | (have:=h0 _ (List.mem_of_getElem? (by with_reducible assumption)); omega) | (rw [au (by with_reducible assumption),<- yh (by with_reducible assumption)] <;> first | rfl | exact (aB (by with_reducible assumption)).symm) | (rw [au (by with_reducible assumption),<- ya (by with_reducible assumption)] <;> first | rfl | exact (aB (by with_reducible assumption)).symm) | (rw [au (by with_reducible assumption),<- yL (by with_reducible assumption)] <;> first | rfl | exact (aB (by with_reducible assumption)).symm) | (rw [au (by with_reducible assumption),<- yf (by with_reducible assumption)] <;> first | rfl | exact (aB (by with_reducible assumption)).symm) | (rw [au (by with_reducible assumption),<- As (by with_reducible assumption)] <;> first | rfl | exact (aB (by with_reducible assumption)).symm) | (rw [au (by with_reducible assumption),<- yx (by with_reducible assumption)] <;> first | rfl | exact (aB (by with_reducible assumption)).symm) | (rw [au (by with_reducible assumption),<- ym (by with_reducible assumption)] <;> first | rfl | exact (aB (by with_reducible assumption)).symm) | (rw [au (by with_reducible assumption),<- Aw (by with_reducible assumption)] <;> first | rfl | exact (aB (by with_reducible assumption)).symm) | (rw [au (by with_reducible assumption),<- CV (by omega)] <;> first | rfl | exact (aB (by with_reducible assumption)).symm) | (rw [List.take_of_length_le (by omega)]))
 all_goals try (refine ⟨‹Nat› + 1,?_⟩; (repeat' (first | with_reducible refine And.intro ?_ ?_ | with_reducible refine and_imp.2 ?_ | intro)))
 all_goals (first | (first | with_reducible rfl | with_reducible assumption | omega | (refine ag ?_ ?_ <;> omega)) | exact rfl | (have:=h0 _ (List.mem_of_getElem? (by with_reducible assumption)); omega) | (rw [au (by with_reducible assumption),<- yh (by with_reducible assumption)] <;> first | rfl | exact (aB (by with_reducible assumption)).symm) | (rw [au (by with_reducible assumption),<- ya (by with_reducible assumption)] <;> first | rfl | exact (aB (by with_reducible assumption)).symm) | (rw [au (by with_reducible assumption),<- yL (by with_reducible assumption)] <;> first | rfl | exact (aB (by with_reducible assumption)).symm) | (rw [au (by with_reducible assumption),<- yf (by with_reducible assumption)] <;> first | rfl | exact (aB (by with_reducible assumption)).symm) | (rw [au (by with_reducible assumption),<- As (by with_reducible assumption)] <;> first | rfl | exact (aB (by with_reducible assumption)).symm) | (rw [au (by with_reducible assumption),<- yx (by with_reducible assumption)] <;> first | rfl | exact (aB (by with_reducible assumption)).symm) | (rw [au (by with_reducible assumption),<- ym (by with_reducible assumption)] <;> first | rfl | exact (aB (by with_reducible assumption)).symm) | (rw [au (by with_reducible assumption),<- Aw (by with_reducible assumption)] <;> first | rfl | exact (aB (by with_reducible assumption)).symm) | (rw [au (by with_reducible assumption),<- CV (by omega)] <;> first | rfl | exact (aB (by with_reducible assumption)).symm) | (rw [List.take_of_length_le (by omega)]))
def tw:cz:=(cD 22 (cj (ak (kC (cL (.nm .field))) ba) bb fun (l,_) (_)=>⟨[∀ f ∈ l,f.b.length<=16384],[.agg (cellsOf (.nm .command) (bc l))],none,false⟩) (cD 20 (cj (ak (kC (cL (.nm .field))) (ak (kC cI) ba)) bb fun (l,v,_) (_)=>⟨[],[.c (.fz (.nm .field) ((bG l v))),.c (.fz (.nm .field) ((bN l v)))],none,false⟩) (cD 41 (cj (ak (kC cI) (ak (kC cI) ba)) bb fun (q,v,_) (_)=>⟨[q=1],[.c (.fz (.nm .spec) ((az v)))],none,false⟩) (cD 42 (cj (ak (kC (cL (.nm .field))) ba) bb fun (l,_) (_)=>⟨[],[.c (.int ((bk l)))],none,false⟩) (cD 40 (cj (ak (kC (cL .u8)) ba) bb fun (b,_) (_)=>⟨[],[.agg (cellsOf (.nm .field) (fk b))],none,false⟩) (cD 64 (cj (ak (kC (lK 0 0)) (ak (kC (lK 1 0)) ba)) (eb (lN 22 (gH (cL .u8) lP)) (eb (lN 3 (gH cI lP)) bb)) fun (_,_,_) ((b,_),(s,_),_)=>⟨[0<=s,s<=(b.length:Int),b.length*1<=140737488355328],[.c (.u64 ((U64.mk (ae (b.drop s.toNat)).1)).n),.c (.int (((ae (b.drop s.toNat)).2.2)))],some ([.box 22 ([.fz .u8 ((b))]),.box 3 ([.int ((s+((ae (b.drop s.toNat)).2.1:Nat)))])]),false⟩) pq))))))
theorem gQ:aT Try.prog (ai aK) tw:=(aw (av (ab (ax bA) ao) al fun (l,_) (_) hp=>An l (lH hp)) (aw (av (ab (ax bA) (ab (ax bh) ao)) al fun (l,v,_) (_) _=>uk l v ) (aw (av (ab (ax bh) (ab (ax bh) ao)) al fun (q,v,_) (_) hp=>yQ q v (lH hp)) (aw (av (ab (ax bA) ao) al fun (l,_) (_) _=>zO l ) (aw (av (ab (ax bA) ao) al fun (b,_) (_) _=>vl b ) (aw (av (ab (ax dM) (ab (ax dM) ao)) (bV (dQ (dG bA dN)) (bV (dQ (dG bh dN)) al)) fun (_,_,_) ((b,_),(s,_),_) hp=>xX b s (lH hp) (lH (nb hp)) (lH (nb (nb hp)))) eC))))))
end Go.Proofs.Ytladifkbefehdaa
namespace Go.Proofs.Ytladifkbefehdaa
open Go.RowKit
theorem za (k:Int) (n:Int) (r0:List Field):Dy aK tw [] Try.f60 [.c (.int (k)),.c (.int (n)),.c (.ptr 0 0)] [.box 28 ([.em true])] [] [.box 28 ([.own 1]),.row 58 (.nm .field) (r0)]=(I64 k->I64 n->(¬n=(0:Int)->(0:Int)<=n/\[Field.mk k (0:Int) (U64.mk n.toNat) []].length*(48:Nat)<=(140737488355328:Nat)/\[Field.mk k (0:Int) (U64.mk n.toNat) []]=r0)/\(n=(0:Int)->r0=[])):=by kernel_rfl
theorem yq (k:Int) (n:Int) (h0:0<=n):Sat Try.prog (ai aK) 60 [.c (.int (k)),.c (.int (n)),.c (.ptr 0 0)] [.box 28 ([.em true])] ⟨[0<=n],[],some ([.box 28 ([.own 1]),.row 58 (.nm .field) ((ez k n))]),false⟩:=by
 refine pG gQ [] Try.func60 (by decide) (by kernel_rfl) ?_
 rw [za]
 (repeat' (first | with_reducible refine And.intro ?_ ?_ | with_reducible refine and_imp.2 ?_ | intro))
 all_goals (first | (first | with_reducible rfl | with_reducible assumption | omega | (refine ag ?_ ?_ <;> omega)) | exact (oZ (by with_reducible assumption)) | exact (pI (by with_reducible assumption)) | exact (pE (by with_reducible assumption)) | exact (oF (by omega)) | exact (oZ (xs:=[]) (by with_reducible assumption)) | exact (pI (xs:=[]) (by with_reducible assumption)).symm | exact (pE (xs:=[]) (by with_reducible assumption)) | exact (oF (xs:=[]) (by omega)).symm | (simp only [List.length_cons,List.length_nil]; omega) | decide)
theorem AK (k:Int) (n:Int) (xs:List Field) (r0:List Field):Dy aK tw [] Try.f60 [.c (.int (k)),.c (.int (n)),.c (.ptr 0 0)] [.box 28 ([.own 1]),.row 58 (.nm .field) (xs)] [] [.box 28 ([.own 1]),.row 58 (.nm .field) (r0)]=(I64 k->I64 n->(¬n=(0:Int)->(0:Int)<=n/\(xs.length+[Field.mk k (0:Int) (U64.mk n.toNat) []].length)*(48:Nat)<=(140737488355328:Nat)/\xs++[Field.mk k (0:Int) (U64.mk n.toNat) []]=r0)/\(n=(0:Int)->xs=r0)):=by kernel_rfl
theorem AF (k:Int) (n:Int) (xs:List Field) (h0:0<=n) (h1:xs.length<=1000):Sat Try.prog (ai aK) 60 [.c (.int (k)),.c (.int (n)),.c (.ptr 0 0)] [.box 28 ([.own 1]),.row 58 (.nm .field) (xs)] ⟨[0<=n,xs.length<=1000],[],some ([.box 28 ([.own 1]),.row 58 (.nm .field) ((xs++ez k n))]),false⟩:=by
 refine pG gQ [] Try.func60 (by decide) (by kernel_rfl) ?_
 rw [AK]
 (repeat' (first | with_reducible refine And.intro ?_ ?_ | with_reducible refine and_imp.2 ?_ | intro))
 all_goals (first | (first | with_reducible rfl | with_reducible assumption | omega | (refine ag ?_ ?_ <;> omega)) | exact (oZ (by with_reducible assumption)) | exact (pI (by with_reducible assumption)) | exact (pE (by with_reducible assumption)) | exact (oF (by omega)) | exact (oZ (xs:=[]) (by with_reducible assumption)) | exact (pI (xs:=[]) (by with_reducible assumption)).symm | exact (pE (xs:=[]) (by with_reducible assumption)) | exact (oF (xs:=[]) (by omega)).symm | (simp only [List.length_cons,List.length_nil]; omega) | decide)
theorem zb (k:Int) (b:List UInt8) (r0:List Field):Dy aK tw [] Try.f61 [.c (.int (k)),.c (.fz .u8 (b)),.c (.ptr 0 0)] [.box 28 ([.em true])] [] [.box 28 ([.own 1]),.row 58 (.nm .field) (r0)]=(I64 k->b.length*(1:Nat)<=(140737488355328:Nat)->((0:Int)<(↑b.length:Int)->[Field.mk k (2:Int) (U64.mk (0:Nat)) b].length*(48:Nat)<=(140737488355328:Nat)/\[Field.mk k (2:Int) (U64.mk (0:Nat)) b]=r0)/\((↑b.length:Int)<=(0:Int)->r0=[])):=by kernel_rfl
theorem zR (k:Int) (b:List UInt8):Sat Try.prog (ai aK) 61 [.c (.int (k)),.c (.fz .u8 (b)),.c (.ptr 0 0)] [.box 28 ([.em true])] ⟨[],[],some ([.box 28 ([.own 1]),.row 58 (.nm .field) ((jd k b))]),false⟩:=by
 refine pG gQ [] Try.func61 (by decide) (by kernel_rfl) ?_
 rw [zb]
 (repeat' (first | with_reducible refine And.intro ?_ ?_ | with_reducible refine and_imp.2 ?_ | intro))
 all_goals (first | (first | with_reducible rfl | with_reducible assumption | omega | (refine ag ?_ ?_ <;> omega)) | exact (oZ (by with_reducible assumption)) | exact (pI (by with_reducible assumption)) | exact (pE (by with_reducible assumption)) | exact (oF (by omega)) | exact (oZ (xs:=[]) (by with_reducible assumption)) | exact (pI (xs:=[]) (by with_reducible assumption)).symm | exact (pE (xs:=[]) (by with_reducible assumption)) | exact (oF (xs:=[]) (by omega)).symm | (simp only [List.length_cons,List.length_nil]; omega) | decide)
theorem yd (k:Int) (b:List UInt8) (xs:List Field) (r0:List Field):Dy aK tw [] Try.f61 [.c (.int (k)),.c (.fz .u8 (b)),.c (.ptr 0 0)] [.box 28 ([.own 1]),.row 58 (.nm .field) (xs)] [] [.box 28 ([.own 1]),.row 58 (.nm .field) (r0)]=(I64 k->b.length*(1:Nat)<=(140737488355328:Nat)->((0:Int)<(↑b.length:Int)->(xs.length+[Field.mk k (2:Int) (U64.mk (0:Nat)) b].length)*(48:Nat)<=(140737488355328:Nat)/\xs++[Field.mk k (2:Int) (U64.mk (0:Nat)) b]=r0)/\((↑b.length:Int)<=(0:Int)->xs=r0)):=by kernel_rfl
theorem zP (k:Int) (b:List UInt8) (xs:List Field) (h0:xs.length<=1000):Sat Try.prog (ai aK) 61 [.c (.int (k)),.c (.fz .u8 (b)),.c (.ptr 0 0)] [.box 28 ([.own 1]),.row 58 (.nm .field) (xs)] ⟨[xs.length<=1000],[],some ([.box 28 ([.own 1]),.row 58 (.nm .field) ((xs++jd k b))]),false⟩:=by
 refine pG gQ [] Try.func61 (by decide) (by kernel_rfl) ?_
 rw [yd]
 (repeat' (first | with_reducible refine And.intro ?_ ?_ | with_reducible refine and_imp.2 ?_ | intro))
 all_goals (first | (first | with_reducible rfl | with_reducible assumption | omega | (refine ag ?_ ?_ <;> omega)) | exact (oZ (by with_reducible assumption)) | exact (pI (by with_reducible assumption)) | exact (pE (by with_reducible assumption)) | exact (oF (by omega)) | exact (oZ (xs:=[]) (by with_reducible assumption)) | exact (pI (xs:=[]) (by with_reducible assumption)).symm | exact (pE (xs:=[]) (by with_reducible assumption)) | exact (oF (xs:=[]) (by omega)).symm | (simp only [List.length_cons,List.length_nil]; omega) | decide)
def uL:cz:=(cD 61 (cj (ak (kC cI) (ak (kC (cL .u8)) (ak (kC (lK 0 0)) ba))) (eb (lN 28 (gH (uF 1) lP)) (eb (wM 58 (.nm .field)) bb)) fun (k,b,_,_) ((_,_),xs,_)=>⟨[xs.length<=1000],[],some ([.box 28 ([.own 1]),.row 58 (.nm .field) ((xs++jd k b))]),false⟩) (cD 61 (cj (ak (kC cI) (ak (kC (cL .u8)) (ak (kC (lK 0 0)) ba))) (eb (lN 28 (gH (EV true) lP)) bb) fun (k,b,_,_) ((_,_),_)=>⟨[],[],some ([.box 28 ([.own 1]),.row 58 (.nm .field) ((jd k b))]),false⟩) (cD 60 (cj (ak (kC cI) (ak (kC cI) (ak (kC (lK 0 0)) ba))) (eb (lN 28 (gH (uF 1) lP)) (eb (wM 58 (.nm .field)) bb)) fun (k,n,_,_) ((_,_),xs,_)=>⟨[0<=n,xs.length<=1000],[],some ([.box 28 ([.own 1]),.row 58 (.nm .field) ((xs++ez k n))]),false⟩) (cD 60 (cj (ak (kC cI) (ak (kC cI) (ak (kC (lK 0 0)) ba))) (eb (lN 28 (gH (EV true) lP)) bb) fun (k,n,_,_) ((_,_),_)=>⟨[0<=n],[],some ([.box 28 ([.own 1]),.row 58 (.nm .field) ((ez k n))]),false⟩) tw))))
theorem ou:aT Try.prog (ai aK) uL:=(aw (av (ab (ax bh) (ab (ax bA) (ab (ax dM) ao))) (bV (dQ (dG mM dN)) (bV nV al)) fun (k,b,_,_) ((_,_),xs,_) hp=>zP k b xs (lH hp)) (aw (av (ab (ax bh) (ab (ax bA) (ab (ax dM) ao))) (bV (dQ (dG xw dN)) al) fun (k,b,_,_) ((_,_),_) _=>zR k b ) (aw (av (ab (ax bh) (ab (ax bh) (ab (ax dM) ao))) (bV (dQ (dG mM dN)) (bV nV al)) fun (k,n,_,_) ((_,_),xs,_) hp=>AF k n xs (lH hp) (lH (nb hp))) (aw (av (ab (ax bh) (ab (ax bh) (ab (ax dM) ao))) (bV (dQ (dG xw dN)) al) fun (k,n,_,_) ((_,_),_) hp=>yq k n (lH hp)) gQ))))
end Go.Proofs.Ytladifkbefehdaa
namespace Go.Proofs.Ytladifkbefehdaa
open Go.RowKit
theorem tC (c:Command) (v:Int) (r0:List Field):Dd aK uL [] Try.f35 [.agg (cellsOf (.nm .command) c),.c (.int (v))] [] [.c (.own 0)] [.row 58 (.nm .field) (r0)]=((fun (q6:Int)=>(fun (q5:List (den (Sh.nm NT.field)))=>(fun (q4:Nat)=>(fun (q3:List Field)=>(fun (q2:List Field)=>(fun (q1:List (den (Sh.nm NT.field)))=>(fun (q0:List (den (Sh.nm NT.field)))=>I64 c.kind->I64 c.client->I64 c.seq->I64 c.set->I64 c.id->I64 c.n->c.chunks.length*(8:Nat)<=(140737488355328:Nat)->c.text.b.length<=(140737488355328:Nat)->I64 v->q6<=c.kind/\q6<=c.client/\(ez (1:Int) c.kind).length<=q4/\q6<=c.seq/\q5.length<=q4/\q6<=c.set/\q1.length<=q4/\q6<=c.id/\(q1++ez (4:Int) c.set).length<=q4/\q6<=c.n/\q0.length<=q4/\((bj c.chunks).length*(1:Nat)<=(140737488355328:Nat)->I64 (de c.chunks)->(q0++q3).length<=q4/\((3:Int)<=v->(q0++q3++q2).length<=q4/\q0++q3++q2++jd (8:Int) c.text.b=r0)/\(v<(3:Int)->q0++q3++q2=r0))) (q1++ez (4:Int) c.set++ez (5:Int) c.id)) (q5++ez (3:Int) c.seq)) (jd (7:Int) (bj c.chunks))) (ez (6:Int) c.n)) (1000:Nat)) (ez (1:Int) c.kind++ez (2:Int) c.client)) (0:Int)):=by kernel_rfl
theorem tY (c:Command) (v:Int) (h0:0<=c.kind) (h1:0<=c.client) (h2:0<=c.seq) (h3:0<=c.set) (h4:0<=c.id) (h5:0<=c.n):Sat Try.prog (ai aK) 35 [.agg (cellsOf (.nm .command) c),.c (.int (v))] [] ⟨[0<=c.kind,0<=c.client,0<=c.seq,0<=c.set,0<=c.id,0<=c.n],[.c (.own 0)],some ([.row 58 (.nm .field) ((aF c v))]),true⟩:=by
 refine mz ou [] Try.func35 (by decide) (by kernel_rfl) ?_
 rw [tC]
 (repeat' (first | with_reducible refine And.intro ?_ ?_ | with_reducible refine and_imp.2 ?_ | intro))
 all_goals (first | (first | with_reducible rfl | with_reducible assumption | omega | (refine ag ?_ ?_ <;> omega)) | (rw [aF,if_pos (by omega)]; rfl) | (rw [aF,if_neg (by omega)]; rfl) | (have h1:=cY 1 c.kind; have h2:=cY 2 c.client; have h3:=cY 3 c.seq; have h4:=cY 4 c.set; have h5:=cY 5 c.id; have h6:=cY 6 c.n; have h7:=qv 7 (bj c.chunks); (try simp only [List.length_append]); omega))
def px:cz:=(cD 35 (cj (ak (kT (.nm .command)) (ak (kC cI) ba)) bb fun (c,v,_) (_)=>⟨[0<=c.kind,0<=c.client,0<=c.seq,0<=c.set,0<=c.id,0<=c.n],[.c (.own 0)],some ([.row 58 (.nm .field) ((aF c v))]),true⟩) uL)
theorem gZ:aT Try.prog (ai aK) px:=(aw (av (ab cF (ab (ax bh) ao)) al fun (c,v,_) (_) hp=>tY c v (lH hp) (lH (nb hp)) (lH (nb (nb hp))) (lH (nb (nb (nb hp)))) (lH (nb (nb (nb (nb hp))))) (lH (nb (nb (nb (nb (nb hp))))))) ou)
end Go.Proofs.Ytladifkbefehdaa
namespace Go.Proofs.Ytladifkbefehdaa
open Go.RowKit
theorem Ev {b:List UInt8} (h:(ay b).e=0) (h2:(ae (b.drop (ay b).k)).2.2=0) (h3:¬ (ay b).wire=0) (h4:(ae (b.drop (ay b).k)).1<=16384) (h5:((b.length:Nat):Int) - (((ay b).k:Int)+((ae (b.drop (ay b).k)).2.1:Nat))<ep (ae (b.drop (ay b).k)).1):(0:Int)=((aH b).1:Nat)/\2=(aH b).2:=by
 rw [gO (by omega)] at h5
 rw [Ga h h2 h3 (by omega) (by omega)]; exact ⟨rfl,rfl⟩
theorem Ea {b:List UInt8} (h:(ay b).e=0) (h2:(ae (b.drop (ay b).k)).2.2=0) (h3:¬ (ay b).wire=0) (h4:(ae (b.drop (ay b).k)).1<=16384) (h5:ep (ae (b.drop (ay b).k)).1<=((b.length:Nat):Int) - (((ay b).k:Int)+((ae (b.drop (ay b).k)).2.1:Nat))):((ay b).k:Int)+((ae (b.drop (ay b).k)).2.1:Nat)+ep (ae (b.drop (ay b).k)).1=((aH b).1:Nat)/\0=(aH b).2:=by
 rw [gO (by omega)] at h5 ⊢
 rw [EB h h2 h3 (by omega) (by omega)]; exact ⟨rfl,rfl⟩
def Bb (l:List Field):List (Nat × LI):=[(6,{ σ:=Nat,F:=fun k=>([(5,one (.own 0)),(13,one (.fz (.nm .field) (l))),(14,one (.int (l).length)),(15,one (.int k))],[.row 5 .u8 ((((l.take k).map aN).flatten))]),J:=fun k=>k<=l.length,μ:=fun k=>l.length - k })]
def Bf (q:Int) (v:Int):List (Nat × LI):=[(3,{ σ:=Nat,F:=fun k=>([(5,one (.int (((az v).take k).foldl (fun t s=>max t s.num) 0))),(10,one (.fz (.nm .spec) (az v))),(11,one (.int (az v).length)),(12,one (.int k))],[]),J:=fun k=>k<=(az v).length,μ:=fun k=>(az v).length - k })]
theorem x_ (b:List UInt8) (r0:Int) (r1:Int):dp aK px [] Try.f39 [.c (.fz .u8 (b))] [] [.c (.int (r0)),.c (.int (r1))]=((fun (q5:Int)=>(fun (q4:Prop)=>(fun (q3:TagR)=>(fun (q2:Int)=>(fun (q1:Int)=>(fun (q0:Nat × Nat × Int)=>q4->I64 q3.num->I64 q3.wire->I64 q1->I64 q3.e->(¬q3.e=q2->q2=r0/\q3.e=r1)/\(q3.e=q2->q2<=q1/\q1<=q5/\q4/\(q0.fst<(18446744073709551616:Nat)->I64 q0.snd.snd->(¬q0.snd.snd=q2->q2=r0/\q0.snd.snd=r1)/\(q0.snd.snd=q2->(q3.wire=q2->q1+(↑q0.snd.fst:Int)=r0/\q2=r1)/\(¬q3.wire=q2->((↑(16384:Nat):Int)<(↑q0.fst:Int)->q2=r0/\(4:Int)=r1)/\((↑q0.fst:Int)<=(↑(16384:Nat):Int)->I64 (q5 - (q1+(↑q0.snd.fst:Int)))/\(q5 - (q1+(↑q0.snd.fst:Int))<ep q0.fst->q2=r0/\(2:Int)=r1)/\(ep q0.fst<=q5 - (q1+(↑q0.snd.fst:Int))->I64 (q1+(↑q0.snd.fst:Int)+ep q0.fst)/\q1+(↑q0.snd.fst:Int)+ep q0.fst=r0/\q2=r1))))))) (ae (List.drop q3.k b))) (↑q3.k:Int)) (0:Int)) (ay b)) (b.length*(1:Nat)<=(140737488355328:Nat))) (↑b.length:Int)):=by kernel_rfl
theorem yg (b:List UInt8):Sat Try.prog (ai aK) 39 [.c (.fz .u8 (b))] [] ⟨[],[.c (.int ((((aH b).1:Nat)))),.c (.int (((aH b).2)))],none,false⟩:=by
 refine aS gZ [] Try.func39 (by decide) (by kernel_rfl) ?_
 rw [x_]
 (repeat' (first | with_reducible refine And.intro ?_ ?_ | with_reducible refine and_imp.2 ?_ | intro))
 all_goals (first | (first | with_reducible rfl | with_reducible assumption | omega | (refine ag ?_ ?_ <;> omega)) | (rw [Gi (by with_reducible assumption)] <;> rfl) | (rw [Ff (by with_reducible assumption) (by with_reducible assumption)] <;> rfl) | (rw [Ec (by with_reducible assumption) (by with_reducible assumption) (by with_reducible assumption)] <;> rfl) | (rw [FJ (by with_reducible assumption) (by with_reducible assumption) (by with_reducible assumption) (by omega)] <;> rfl) | exact (Ev (by with_reducible assumption) (by with_reducible assumption) (by with_reducible assumption) (by omega) (by with_reducible assumption)).1 | exact (Ev (by with_reducible assumption) (by with_reducible assumption) (by with_reducible assumption) (by omega) (by with_reducible assumption)).2 | exact (Ea (by with_reducible assumption) (by with_reducible assumption) (by with_reducible assumption) (by omega) (by with_reducible assumption)).1 | exact (Ea (by with_reducible assumption) (by with_reducible assumption) (by with_reducible assumption) (by omega) (by with_reducible assumption)).2 | (have h1:=jN b; have h2:=hU b (ay b).k; first | omega | (refine ag ?_ ?_ <;> omega)) | (have h1:=jN b; have h2:=hU b (ay b).k; have h3:=gO (m:=(ae (b.drop (ay b).k)).1) (by omega); first | omega | (refine ag ?_ ?_ <;> omega)))
theorem Cc (l:List Field) (r0:Int) (r1:List UInt8):Dd aK px (Bb l) Try.f34 [.c (.fz (.nm .field) (l))] [] [.c (.own 0),.c (.int (r0))] [.row 5 .u8 (r1)]=((fun (q0:Nat)=>l.length*(48:Nat)<=(140737488355328:Nat)->I64 (bk l)->(¬bk l=(0:Int)->bk l=r0/\r1=[])/\(bk l=(0:Int)->∃ (s0:Nat),(l=l/\(↑l.length:Int)=(↑q0:Int)/\(0:Int)=(↑s0:Int)/\(List.map aN (List.take s0 l)).flatten=[])/\s0<=q0/\∀ (s:Nat),(fun (q1:List UInt8)=>s<=q0->((↑s:Int)<(↑q0:Int)->(0:Int)<=(↑s:Int)/\(↑s:Int)<(↑l.length:Int)/\∀ (x:Field),l[s]? = some x->I64 x.num->I64 x.wire->x.n.n<(18446744073709551616:Nat)->x.b.length*(1:Nat)<=(140737488355328:Nat)->x.b.length<=(16384:Nat)/\(q1.length+(aN x).length)*(1:Nat)<=(140737488355328:Nat)/\I64 ((↑s:Int)+(1:Int))/\∃ (s':Nat),(l=l/\(↑q0:Int)=(↑q0:Int)/\(↑s:Int)+(1:Int)=(↑s':Int)/\q1++aN x=(List.map aN (List.take s' l)).flatten)/\s' <= q0/\q0 - s' < q0 - s)/\((↑q0:Int)<=(↑s:Int)->(0:Int)=r0/\q1=r1)) (List.map aN (List.take s l)).flatten)) l.length):=by kernel_rfl
theorem CH (l:List Field):Sat Try.prog (ai aK) 34 [.c (.fz (.nm .field) (l))] [] ⟨[],[.c (.own 0),.c (.int ((bk l)))],some ([.row 5 .u8 ((dR l))]),true⟩:=by
 refine mz gZ (Bb l) Try.func34 (by decide) (by kernel_rfl) ?_
 rw [Cc]
 (repeat' (first | with_reducible refine And.intro ?_ ?_ | with_reducible refine and_imp.2 ?_ | intro))
 all_goals try (first | (first | with_reducible rfl | with_reducible assumption | omega | (refine ag ?_ ?_ <;> omega)) | exact rfl | exact (qU (by with_reducible assumption)).symm | exact (Eq.symm (by with_reducible assumption)) | exact (iO (by with_reducible assumption)) | exact (eE (by with_reducible assumption) (List.mem_of_getElem? (by with_reducible assumption))) | exact (nv (by with_reducible assumption) (by omega)) | (have h1:=fu (k:=‹Nat›) (show bk l=0 by with_reducible assumption); have h2:=cN (f:=‹Field›) (eE (show bk l=0 by with_reducible assumption) (List.mem_of_getElem? (by with_reducible assumption))) (by with_reducible assumption); omega))
 all_goals try (refine ⟨0,?_⟩; (repeat' (first | with_reducible refine And.intro ?_ ?_ | with_reducible refine and_imp.2 ?_ | intro)))
 all_goals try (first | (first | with_reducible rfl | with_reducible assumption | omega | (refine ag ?_ ?_ <;> omega)) | exact rfl | exact (qU (by with_reducible assumption)).symm | exact (Eq.symm (by with_reducible assumption)) | exact (iO (by with_reducible assumption)) | exact (eE (by with_reducible assumption) (List.mem_of_getElem? (by with_reducible assumption))) | exact (nv (by with_reducible assumption) (by omega)) | (have h1:=fu (k:=‹Nat›) (show bk l=0 by with_reducible assumption); have h2:=cN (f:=‹Field›) (eE (show bk l=0 by with_reducible assumption) (List.mem_of_getElem? (by with_reducible assumption))) (by with_reducible assumption); omega))
 all_goals try (refine ⟨‹Nat› + 1,?_⟩; (repeat' (first | with_reducible refine And.intro ?_ ?_ | with_reducible refine and_imp.2 ?_ | intro)))
 all_goals (first | (first | with_reducible rfl | with_reducible assumption | omega | (refine ag ?_ ?_ <;> omega)) | exact rfl | exact (qU (by with_reducible assumption)).symm | exact (Eq.symm (by with_reducible assumption)) | exact (iO (by with_reducible assumption)) | exact (eE (by with_reducible assumption) (List.mem_of_getElem? (by with_reducible assumption))) | exact (nv (by with_reducible assumption) (by omega)) | (have h1:=fu (k:=‹Nat›) (show bk l=0 by with_reducible assumption); have h2:=cN (f:=‹Field›) (eE (show bk l=0 by with_reducible assumption) (List.mem_of_getElem? (by with_reducible assumption))) (by with_reducible assumption); omega))
theorem Bt (q:Int) (v:Int) (r0:Int):dp aK px (Bf q v) Try.f21 [.c (.int (q)),.c (.int (v))] [] [.c (.int (r0))]=((fun (q1:Int)=>(fun (q0:List Spec)=>I64 q->I64 v->q=(1:Int)/\(q0.length*(32:Nat)<=(140737488355328:Nat)->∃ (s0:Nat),(fun (q2:Nat)=>(q1=List.foldl (fun (t:Int) (s:Spec)=>max t s.num) q1 (List.take s0 q0)/\q0=q0/\(↑q0.length:Int)=(↑q2:Int)/\q1=(↑s0:Int))/\s0<=q2/\∀ (s:Nat),(fun (q3:Int)=>s<=q2->((↑s:Int)<(↑q2:Int)->q1<=(↑s:Int)/\(↑s:Int)<(↑q0.length:Int)/\∀ (x:Spec),q0[s]? = some x->I64 x.num->I64 x.wire->I64 x.since->I64 ((↑s:Int)+(1:Int))/\∃ (s':Nat),(max q3 x.num=List.foldl (fun (t:Int) (s:Spec)=>max t s.num) q1 (List.take s' q0)/\q0=q0/\(↑q2:Int)=(↑q2:Int)/\(↑s:Int)+(1:Int)=(↑s':Int))/\s' <= q2/\q2 - s' < q2 - s)/\((↑q2:Int)<=(↑s:Int)->q3=r0)) (List.foldl (fun (t:Int) (s:Spec)=>max t s.num) q1 (List.take s q0))) q0.length)) (az v)) (0:Int)):=by kernel_rfl
theorem BY (q:Int) (v:Int) (h0:q=1):Sat Try.prog (ai aK) 21 [.c (.int (q)),.c (.int (v))] [] ⟨[q=1],[.c (.int ((aQ v)))],none,false⟩:=by
 refine aS gZ (Bf q v) Try.func21 (by decide) (by kernel_rfl) ?_
 rw [Bt]
 (repeat' (first | with_reducible refine And.intro ?_ ?_ | with_reducible refine and_imp.2 ?_ | intro))
 all_goals try (first | (first | with_reducible rfl | with_reducible assumption | omega | (refine ag ?_ ?_ <;> omega)) | exact rfl | exact (lr (by with_reducible assumption)) | (rw [aQ,List.take_of_length_le (by omega)]))
 all_goals try (refine ⟨0,?_⟩; (repeat' (first | with_reducible refine And.intro ?_ ?_ | with_reducible refine and_imp.2 ?_ | intro)))
 all_goals try (first | (first | with_reducible rfl | with_reducible assumption | omega | (refine ag ?_ ?_ <;> omega)) | exact rfl | exact (lr (by with_reducible assumption)) | (rw [aQ,List.take_of_length_le (by omega)]))
 all_goals try (refine ⟨‹Nat› + 1,?_⟩; (repeat' (first | with_reducible refine And.intro ?_ ?_ | with_reducible refine and_imp.2 ?_ | intro)))
 all_goals (first | (first | with_reducible rfl | with_reducible assumption | omega | (refine ag ?_ ?_ <;> omega)) | exact rfl | exact (lr (by with_reducible assumption)) | (rw [aQ,List.take_of_length_le (by omega)]))
def uA:cz:=(cD 21 (cj (ak (kC cI) (ak (kC cI) ba)) bb fun (q,v,_) (_)=>⟨[q=1],[.c (.int ((aQ v)))],none,false⟩) (cD 34 (cj (ak (kC (cL (.nm .field))) ba) bb fun (l,_) (_)=>⟨[],[.c (.own 0),.c (.int ((bk l)))],some ([.row 5 .u8 ((dR l))]),true⟩) (cD 39 (cj (ak (kC (cL .u8)) ba) bb fun (b,_) (_)=>⟨[],[.c (.int ((((aH b).1:Nat)))),.c (.int (((aH b).2)))],none,false⟩) px)))
theorem jH:aT Try.prog (ai aK) uA:=(aw (av (ab (ax bh) (ab (ax bh) ao)) al fun (q,v,_) (_) hp=>BY q v (lH hp)) (aw (av (ab (ax bA) ao) al fun (l,_) (_) _=>CH l ) (aw (av (ab (ax bA) ao) al fun (b,_) (_) _=>yg b ) gZ)))
end Go.Proofs.Ytladifkbefehdaa
namespace Go.Proofs.Ytladifkbefehdaa
open Go.RowKit
structure Wq (p:Prop):Prop where
 h:p
def cr (l:List Field):Int->Option Int:=fun q=>if bJ l q=0 then none else some ((bJ l q:Nat):Int)
def ph (rest:List Field) (v:Int) (k:Nat):Prop:=∀ j y,j<k->rest[j]? = some y->¬ y.num<=aQ v
theorem BM {xs:List Field} {f:Field} (h:(xs.length:Int)=0):true=cw xs f:=by
 unfold cw; rw [List.getElem?_eq_none (by omega)]
theorem CX {xs:List Field} {f:Field} (h:¬ (xs.length:Int)=0):cW (xs.getD ((xs.length:Int) - 1).toNat (aC (.nm .field))) f=cw xs f:=by
 unfold cw
 rw [show ((xs.length:Int) - 1).toNat=xs.length - 1 by omega,List.getD_eq_getElem?_getD,List.getElem?_eq_getElem (by omega)]; rfl
theorem ey (l:List Field) (q:Int):(cr l q).getD (aC .int)=((bJ l q:Nat):Int):=by
 unfold cr
 by_cases h:bJ l q=0
 ·rw [if_pos h,h]; rfl
 ·rw [if_neg h]; rfl
theorem fp {l:List Field}:(fun _=>none)=cr (l.take 0):=rfl
theorem ff {l:List Field} {k:Nat} (h:l.length<=k):cr (l.take k)=cr l:=by rw [List.take_of_length_le h]
theorem dV {l:List Field} {k:Nat} {x:Field} (hx:l[k]? = some x):(fun j=>if j=x.num then some ((cr (l.take k) x.num).getD (aC .int)+1) else cr (l.take k) j)=cr (l.take (k+1)):=by
 funext j
 have h:=vk hx j
 by_cases hj:j=x.num
 ·rw [if_pos hj] at h ⊢
  rw [ey]; unfold cr; rw [h,if_neg (by omega)]; rfl
 ·rw [if_neg hj] at h ⊢
  unfold cr; rw [h]
theorem fQ {l:List Field} {k:Nat} {x:Field} (hx:l[k]? = some x):x=l.getD k (aC (.nm .field)):=by rw [List.getD_eq_getElem?_getD,hx]; rfl
theorem sN {l:List Field} {k:Nat} (h:k<l.length):l[k]? = some (l.getD k (aC (.nm .field))):=by
 rw [List.getD_eq_getElem?_getD,List.getElem?_eq_getElem h]; rfl
theorem pB {l:List Field} {ss:List Spec} {x:Field} {y:Spec} {m:Nat} (h:Wq (xH ss x ((bJ l x.num:Nat):Int) m)) (hy:ss[m]? = some y) (hn:¬ y.num=x.num\/sY x y ((cr l x.num).getD (aC .int))=true):Wq (xH ss x ((bJ l x.num:Nat):Int) (m+1)):=
 ⟨xi h.h hy fun e=>by rw [ey] at hn; exact hn.resolve_left (fun h=>h e)⟩
theorem nX {l:List Field} {ss:List Spec} {k m:Nat} (h:Wq (lI l ss k)) (hk:k<l.length) (hi:Wq (xH ss (l.getD k (aC (.nm .field))) ((bJ (l.take (k+1)) (l.getD k (aC (.nm .field))).num:Nat):Int) m)) (hm:(ss.length:Int)<=(m:Int)):Wq (lI l ss (k+1)):=
 ⟨wm h.h (sN hk) hi.h (by omega) rfl⟩
theorem oH {l:List Field} {ss:List Spec} {k:Nat} (h:Wq (lI l ss k)) (hk:l.length<=k):Wq (lI l ss l.length):=⟨fun j x hj=>h.h j x (by omega)⟩
theorem oG {l:List Field} {v:Int} {m:Nat} {y:Spec} (hy:(az v)[m]? = some y) (hn:y.need=true) (h0:(cr l y.num).getD (aC .int)=0):¬ pN l v:=yy hy ⟨hn,by rw [ey] at h0; exact h0⟩ rfl
theorem oR {l:List Field} {ss:List Spec} {m:Nat} {y:Spec} (h:Wq (tZ l ss m)) (hy:ss[m]? = some y) (hn:y.need=false\/¬ (cr l y.num).getD (aC .int)=0):Wq (tZ l ss (m+1)):=
 ⟨w_ h.h hy fun ha=>by
  rw [ey] at hn
  rcases hn with hn | hn
  ·rw [ha] at hn; cases hn
  ·omega⟩
theorem oi {l:List Field} {v:Int} {k:Nat} (hA:Wq (lI l (az v) l.length)) (hB:Wq (tZ l (az v) k)) (hk:(az v).length<=k):pN l v:=AD hA.h (Nat.le_refl _) hB.h hk
theorem uB {rest:List Field} {v:Int}:ph rest v 0:=fun j y h=>by omega
theorem vH {rest:List Field} {v:Int} {k:Nat} {x:Field} (h:Wq (ph rest v k)) (hx:rest[k]? = some x) (hn:¬ x.num<=aQ v):Wq (ph rest v (k+1)):=⟨sT h.h hx hn⟩
theorem Ds {c:Command} {rest:List Field} {v:Int} (h:bf v=false):bL c rest v=1:=Gf (by show (!(bf v))=true; rw [h]; rfl)
theorem Du {c:Command} {rest:List Field} {v:Int} (h:bf v=true) (h1:bX c v=false) (h2:¬ cZ c v=0):bL c rest v=cZ c v:=Fv (by show (!(bf v))=false; rw [h]; rfl) h1 h2
theorem Dw {c:Command} {rest:List Field} {v:Int} {k:Nat} {x:Field} (h:bf v=true) (h1:bX c v=true\/cZ c v=0) (hx:rest[k]? = some x) (hn:x.num<=aQ v):bL c rest v=6:=Gh (by show (!(bf v))=false; rw [h]; rfl) h1 hx hn
theorem Dt {c:Command} {rest:List Field} {v:Int} {k:Nat} (h:bf v=true) (h1:bX c v=true\/cZ c v=0) (ht:Wq (ph rest v k)) (hk:rest.length<=k):bL c rest v=0:=Fu (by show (!(bf v))=false; rw [h]; rfl) h1 ht.h hk
def rP (q:Int) (v:Int) (l:List Field):List (Nat × LI):=[(9,{ σ:=Nat,F:=fun k=>([(7,one (.fz (.nm .spec) (az v))),(9,one (.mq 0)),(28,one (.fz (.nm .field) (l))),(29,one (.int (l).length)),(30,one (.int k))],[.mapo .int (cr (l.take k))]),J:=fun k=>k<=l.length/\Wq (lI l (az v) k),μ:=fun k=>(l).length - k }),(13,{ σ:=Nat × Nat,F:=fun q=>([(7,one (.fz (.nm .spec) (az v))),(9,one (.mq 0)),(11,one (.ptr 1 0)),(28,one (.fz (.nm .field) (l))),(29,one (.int (l).length)),(30,one (.int q.1)),(39,one (.fz (.nm .spec) (az v))),(40,one (.int (az v).length)),(41,one (.int q.2))],[.mapo .int (cr (l.take (q.1+1))),.box 58 (cellsOf (.nm .field) (((l.getD q.1 (aC (.nm .field))))))]),J:=fun q=>q.1<l.length/\q.2<=(az v).length/\Wq (lI l (az v) q.1)/\Wq (xH (az v) (l.getD q.1 (aC (.nm .field))) ((bJ (l.take (q.1+1)) (l.getD q.1 (aC (.nm .field))).num:Nat):Int) q.2),μ:=fun q=>(az v).length - q.2,R:=some fun q0 q=>q.1=q0.1 }),(20,{ σ:=Nat,F:=fun k=>([(9,one (.mq 0)),(62,one (.fz (.nm .spec) (az v))),(63,one (.int (az v).length)),(64,one (.int k))],[.mapo .int (cr l)]),J:=fun k=>k<=(az v).length/\Wq (lI l (az v) l.length)/\Wq (tZ l (az v) k),μ:=fun k=>(az v).length - k })]
def Bj (c:Command) (rest:List Field) (v:Int):List (Nat × LI):=[(9,{ σ:=Nat,F:=fun k=>([(1,one (.fz (.nm .field) (rest))),(2,one (.int (v))),(3,one (.ptr 0 0)),(9,one (.int (aQ v))),(27,one (.fz (.nm .field) (rest))),(28,one (.int (rest).length)),(29,one (.int k))],[.box 27 (cellsOf (.nm .command) ((c)))]),J:=fun k=>k<=rest.length/\Wq (ph rest v k),μ:=fun k=>rest.length - k })]
theorem Ae (f:Field) (xs:List Field) (r0:Bool):dp aK uA [] Try.f37 [.agg (cellsOf (.nm .field) f),.c (.ptr 0 0)] [.box 28 ([.own 1]),.row 58 (.nm .field) (xs)] [.c (.bool (.atom (r0)))]=((fun (q2:Int)=>(fun (q1:Int)=>(fun (q0:den (Sh.nm NT.field))=>I64 f.num->I64 f.wire->f.n.n<(18446744073709551616:Nat)->f.b.length*(1:Nat)<=(140737488355328:Nat)->(q2=(0:Int)->true=r0)/\(¬q2=(0:Int)->I64 q1/\((0:Int)<=q1/\q1<q2)/\(I64 q0.num->I64 q0.wire->q0.n.n<(18446744073709551616:Nat)->q0.b.length*(1:Nat)<=(140737488355328:Nat)->cW q0 f=r0))) (xs.getD q1.toNat (aC (Sh.nm NT.field)))) (q2 - (1:Int))) (↑xs.length:Int)):=by kernel_rfl
theorem Ab (f:Field) (xs:List Field) (h0:xs.length<=20000):Sat Try.prog (ai aK) 37 [.agg (cellsOf (.nm .field) f),.c (.ptr 0 0)] [.box 28 ([.own 1]),.row 58 (.nm .field) (xs)] ⟨[xs.length<=20000],[.c (.bool (.atom ((cw xs f))))],none,false⟩:=by
 refine aS jH [] Try.func37 (by decide) (by kernel_rfl) ?_
 rw [Ae]
 (repeat' (first | with_reducible refine And.intro ?_ ?_ | with_reducible refine and_imp.2 ?_ | intro))
 all_goals (first | (first | with_reducible rfl | with_reducible assumption | omega | (refine ag ?_ ?_ <;> omega)) | exact (BM (by with_reducible assumption)) | exact (CX (by with_reducible assumption)))
theorem xJ (q:Int) (v:Int) (l:List Field) (r0:Int):dp aK uA (rP q v l) Try.f19 [.c (.int (q)),.c (.int (v)),.c (.fz (.nm .field) (l))] [] [.c (.int (r0))]=((fun (q5:Nat)=>(fun (q4:Int)=>(fun (q3:Int)=>(fun (q2:Nat)=>(fun (q1:den (Sh.nm NT.field))=>(fun (q0:List Spec)=>I64 q->I64 v->l.length*(48:Nat)<=(140737488355328:Nat)->q=q4/\(q0.length*(32:Nat)<=(140737488355328:Nat)->((↑q0.length:Int)=q3->q4=r0)/\(¬(↑q0.length:Int)=q3->I64 (bk l)->(¬bk l=q3->bk l=r0)/\(bk l=q3->∃ (s0:Nat),(fun (q9:Int)=>(fun (q8:Int)=>(fun (q7:Prop)=>(fun (q6:Nat)=>(q7/\l=l/\(↑l.length:Int)=q8/\q3=(↑s0:Int)/\(fun (_:Int)=>none)=cr (List.take s0 l))/\(s0<=q2/\Wq (lI l q0 s0))/\∀ (s:Nat),(fun (q10:Int)=>s<=q2/\Wq (lI l q0 s)->((↑s:Int)<q8->q3<=(↑s:Int)/\(↑s:Int)<(↑l.length:Int)/\∀ (x:Field),(fun (q11:Int)=>l[s]? = some x->I64 x.num->I64 x.wire->x.n.n<(18446744073709551616:Nat)->x.b.length*q5<=(140737488355328:Nat)->I64 q11/\∃ (s0:Nat × Nat),(fun (q13:Nat)=>(fun (q12:Field)=>(q7/\l=l/\q8=q8/\(↑s:Int)=(↑q13:Int)/\q7/\q9=q10/\q3=(↑s0.snd:Int)/\(fun (j:Int)=>if j=x.num then some q11 else cr (List.take s l) j)=cr (List.take (q13+q5) l)/\x.num=q12.num/\x.wire=q12.wire/\x.n.n=q12.n.n/\x.b=q12.b)/\(q13<q2/\s0.snd<=q6/\Wq (lI l q0 q13)/\Wq (xH q0 q12 (↑(bJ (List.take (q13+q5) l) q12.num):Int) s0.snd))/\q13=q13/\∀ (s_1:Nat × Nat),(fun (q16:Int)=>(fun (q15:List Field)=>(fun (q14:Field)=>s_1.fst<q2/\s_1.snd<=q6/\Wq (lI l q0 s_1.fst)/\Wq (xH q0 q14 (↑(bJ q15 q14.num):Int) s_1.snd)->s_1.fst=q13->(q16<q10->q3<=q16/\q16<q9/\∀ (x:Spec),(fun (q17:Bool)=>q0[s_1.snd]? = some x->I64 x.num->I64 x.wire->I64 x.since->(x.num=q14.num/\q17=false->(6:Int)=r0)/\(¬x.num=q14.num\/q17=true->I64 (q16+q4)/\∃ (s':Nat × Nat),(fun (q18:Field)=>(q7/\l=l/\q8=q8/\(↑s_1.fst:Int)=(↑s'.fst:Int)/\q7/\q10=q10/\q16+q4=(↑s'.snd:Int)/\cr q15=cr (List.take (s'.fst+q5) l)/\q14.num=q18.num/\q14.wire=q18.wire/\q14.n.n=q18.n.n/\q14.b=q18.b)/\(s'.fst<q2/\s'.snd<=q6/\Wq (lI l q0 s'.fst)/\Wq (xH q0 q18 (↑(bJ (List.take (s'.fst+q5) l) q18.num):Int) s'.snd))/\s'.fst=q13/\q6 - s'.snd<q6 - s_1.snd) (l.getD s'.fst q1))) (sY q14 x ((cr q15 q14.num).getD (aC Sh.int))))/\(q10<=q16->I64 ((↑s_1.fst:Int)+q4)/\∃ (s':Nat),(q7/\l=l/\q8=q8/\(↑s_1.fst:Int)+q4=(↑s':Int)/\cr q15=cr (List.take s' l))/\(s' <= q2/\Wq (lI l q0 s'))/\q2 - s' < q2 - s)) (l.getD s_1.fst q1)) (List.take (s_1.fst+q5) l)) (↑s_1.snd:Int)) (l.getD q13 q1)) s0.fst) ((cr (List.take s l) x.num).getD (aC Sh.int)+q4))/\(q8<=(↑s:Int)->∃ (s0:Nat),(q7/\q9=q10/\q3=(↑s0:Int)/\cr (List.take s l)=cr l)/\(s0<=q6/\Wq (lI l q0 q2)/\Wq (tZ l q0 s0))/\∀ (s:Nat),s<=q6/\Wq (lI l q0 q2)/\Wq (tZ l q0 s)->((↑s:Int)<q10->q3<=(↑s:Int)/\(↑s:Int)<q9/\∀ (x:Spec),(fun (q19:Prop)=>q0[s]? = some x->I64 x.num->I64 x.wire->I64 x.since->(x.need=true/\q19->(6:Int)=r0)/\(x.need=false\/¬q19->I64 ((↑s:Int)+q4)/\∃ (s':Nat),(q7/\q10=q10/\(↑s:Int)+q4=(↑s':Int)/\cr l=cr l)/\(s' <= q6/\Wq (lI l q0 q2)/\Wq (tZ l q0 s'))/\q6 - s' < q6 - s)) ((cr l x.num).getD (aC Sh.int)=q3))/\(q10<=(↑s:Int)->q3=r0))) (↑q6:Int)) q0.length) (q0=q0)) (↑q2:Int)) (↑q0.length:Int))))) (az v)) (aC (Sh.nm NT.field))) l.length) (0:Int)) (1:Int)) (1:Nat)):=by kernel_rfl
theorem xM (q:Int) (v:Int) (l:List Field) (h0:q=1):Sat Try.prog (ai aK) 19 [.c (.int (q)),.c (.int (v)),.c (.fz (.nm .field) (l))] [] ⟨[q=1],[.c (.int ((dB l v)))],none,false⟩:=by
 refine aS jH (rP q v l) Try.func19 (by decide) (by kernel_rfl) ?_
 rw [xJ]
 (repeat' (first | with_reducible refine And.intro ?_ ?_ | with_reducible refine and_imp.2 ?_ | intro))
 all_goals try (first | (first | with_reducible rfl | with_reducible assumption | omega | (refine ag ?_ ?_ <;> omega)) | exact rfl | exact (pt (by omega)) | exact (pV (by omega) (by with_reducible assumption)) | exact fp | exact ⟨jy⟩ | exact ⟨jt⟩ | exact ⟨jq⟩ | exact (dV (by with_reducible assumption)) | exact (congrArg Field.num (fQ (by with_reducible assumption))) | exact (congrArg Field.wire (fQ (by with_reducible assumption))) | exact (congrArg (fun f=>f.n.n) (fQ (by with_reducible assumption))) | exact (congrArg Field.b (fQ (by with_reducible assumption))) | exact (fO (by omega) (by with_reducible assumption) (dT (sN (by with_reducible assumption)) (by with_reducible assumption) (And.intro (by with_reducible assumption) (by with_reducible assumption)) (ey _ _))) | exact (pB (by with_reducible assumption) (by with_reducible assumption) (by assumption)) | exact (nX (by with_reducible assumption) (by with_reducible assumption) (by with_reducible assumption) (by with_reducible assumption)) | exact (oH (by with_reducible assumption) (by omega)) | exact (ff (by omega)) | exact (fO (by omega) (by with_reducible assumption) (oG (by with_reducible assumption) (by with_reducible assumption) (by with_reducible assumption))) | exact (oR (by with_reducible assumption) (by with_reducible assumption) (by assumption)) | exact (mL (by omega) (by with_reducible assumption) (oi (by with_reducible assumption) (by with_reducible assumption) (by omega))) | (have h1:=dS (l:=l) (k:=‹Nat›) ‹Field›.num; have h2:=ey (l.take ‹Nat›) ‹Field›.num; refine ag ?_ ?_ <;> omega))
 all_goals try (refine ⟨0,?_⟩; (repeat' (first | with_reducible refine And.intro ?_ ?_ | with_reducible refine and_imp.2 ?_ | intro)))
 all_goals try (first | (first | with_reducible rfl | with_reducible assumption | omega | (refine ag ?_ ?_ <;> omega)) | exact rfl | exact (pt (by omega)) | exact (pV (by omega) (by with_reducible assumption)) | exact fp | exact ⟨jy⟩ | exact ⟨jt⟩ | exact ⟨jq⟩ | exact (dV (by with_reducible assumption)) | exact (congrArg Field.num (fQ (by with_reducible assumption))) | exact (congrArg Field.wire (fQ (by with_reducible assumption))) | exact (congrArg (fun f=>f.n.n) (fQ (by with_reducible assumption))) | exact (congrArg Field.b (fQ (by with_reducible assumption))) | exact (fO (by omega) (by with_reducible assumption) (dT (sN (by with_reducible assumption)) (by with_reducible assumption) (And.intro (by with_reducible assumption) (by with_reducible assumption)) (ey _ _))) | exact (pB (by with_reducible assumption) (by with_reducible assumption) (by assumption)) | exact (nX (by with_reducible assumption) (by with_reducible assumption) (by with_reducible assumption) (by with_reducible assumption)) | exact (oH (by with_reducible assumption) (by omega)) | exact (ff (by omega)) | exact (fO (by omega) (by with_reducible assumption) (oG (by with_reducible assumption) (by with_reducible assumption) (by with_reducible assumption))) | exact (oR (by with_reducible assumption) (by with_reducible assumption) (by assumption)) | exact (mL (by omega) (by with_reducible assumption) (oi (by with_reducible assumption) (by with_reducible assumption) (by omega))) | (have h1:=dS (l:=l) (k:=‹Nat›) ‹Field›.num; have h2:=ey (l.take ‹Nat›) ‹Field›.num; refine ag ?_ ?_ <;> omega))
 all_goals try (refine ⟨(‹Nat›,0),?_⟩; (repeat' (first | with_reducible refine And.intro ?_ ?_ | with_reducible refine and_imp.2 ?_ | intro)))
 all_goals try (first | (first | with_reducible rfl | with_reducible assumption | omega | (refine ag ?_ ?_ <;> omega)) | exact rfl | exact (pt (by omega)) | exact (pV (by omega) (by with_reducible assumption)) | exact fp | exact ⟨jy⟩ | exact ⟨jt⟩ | exact ⟨jq⟩ | exact (dV (by with_reducible assumption)) | exact (congrArg Field.num (fQ (by with_reducible assumption))) | exact (congrArg Field.wire (fQ (by with_reducible assumption))) | exact (congrArg (fun f=>f.n.n) (fQ (by with_reducible assumption))) | exact (congrArg Field.b (fQ (by with_reducible assumption))) | exact (fO (by omega) (by with_reducible assumption) (dT (sN (by with_reducible assumption)) (by with_reducible assumption) (And.intro (by with_reducible assumption) (by with_reducible assumption)) (ey _ _))) | exact (pB (by with_reducible assumption) (by with_reducible assumption) (by assumption)) | exact (nX (by with_reducible assumption) (by with_reducible assumption) (by with_reducible assumption) (by with_reducible assumption)) | exact (oH (by with_reducible assumption) (by omega)) | exact (ff (by omega)) | exact (fO (by omega) (by with_reducible assumption) (oG (by with_reducible assumption) (by with_reducible assumption) (by with_reducible assumption))) | exact (oR (by with_reducible assumption) (by with_reducible assumption) (by assumption)) | exact (mL (by omega) (by with_reducible assumption) (oi (by with_reducible assumption) (by with_reducible assumption) (by omega))) | (have h1:=dS (l:=l) (k:=‹Nat›) ‹Field›.num; have h2:=ey (l.take ‹Nat›) ‹Field›.num; refine ag ?_ ?_ <;> omega))
 all_goals try (refine ⟨(‹Nat × Nat›.1,‹Nat × Nat›.2+1),?_⟩; (repeat' (first | with_reducible refine And.intro ?_ ?_ | with_reducible refine and_imp.2 ?_ | intro)))
 all_goals try (first | (first | with_reducible rfl | with_reducible assumption | omega | (refine ag ?_ ?_ <;> omega)) | exact rfl | exact (pt (by omega)) | exact (pV (by omega) (by with_reducible assumption)) | exact fp | exact ⟨jy⟩ | exact ⟨jt⟩ | exact ⟨jq⟩ | exact (dV (by with_reducible assumption)) | exact (congrArg Field.num (fQ (by with_reducible assumption))) | exact (congrArg Field.wire (fQ (by with_reducible assumption))) | exact (congrArg (fun f=>f.n.n) (fQ (by with_reducible assumption))) | exact (congrArg Field.b (fQ (by with_reducible assumption))) | exact (fO (by omega) (by with_reducible assumption) (dT (sN (by with_reducible assumption)) (by with_reducible assumption) (And.intro (by with_reducible assumption) (by with_reducible assumption)) (ey _ _))) | exact (pB (by with_reducible assumption) (by with_reducible assumption) (by assumption)) | exact (nX (by with_reducible assumption) (by with_reducible assumption) (by with_reducible assumption) (by with_reducible assumption)) | exact (oH (by with_reducible assumption) (by omega)) | exact (ff (by omega)) | exact (fO (by omega) (by with_reducible assumption) (oG (by with_reducible assumption) (by with_reducible assumption) (by with_reducible assumption))) | exact (oR (by with_reducible assumption) (by with_reducible assumption) (by assumption)) | exact (mL (by omega) (by with_reducible assumption) (oi (by with_reducible assumption) (by with_reducible assumption) (by omega))) | (have h1:=dS (l:=l) (k:=‹Nat›) ‹Field›.num; have h2:=ey (l.take ‹Nat›) ‹Field›.num; refine ag ?_ ?_ <;> omega))
 all_goals try (refine ⟨‹Nat × Nat›.1+1,?_⟩; (repeat' (first | with_reducible refine And.intro ?_ ?_ | with_reducible refine and_imp.2 ?_ | intro)))
 all_goals try (first | (first | with_reducible rfl | with_reducible assumption | omega | (refine ag ?_ ?_ <;> omega)) | exact rfl | exact (pt (by omega)) | exact (pV (by omega) (by with_reducible assumption)) | exact fp | exact ⟨jy⟩ | exact ⟨jt⟩ | exact ⟨jq⟩ | exact (dV (by with_reducible assumption)) | exact (congrArg Field.num (fQ (by with_reducible assumption))) | exact (congrArg Field.wire (fQ (by with_reducible assumption))) | exact (congrArg (fun f=>f.n.n) (fQ (by with_reducible assumption))) | exact (congrArg Field.b (fQ (by with_reducible assumption))) | exact (fO (by omega) (by with_reducible assumption) (dT (sN (by with_reducible assumption)) (by with_reducible assumption) (And.intro (by with_reducible assumption) (by with_reducible assumption)) (ey _ _))) | exact (pB (by with_reducible assumption) (by with_reducible assumption) (by assumption)) | exact (nX (by with_reducible assumption) (by with_reducible assumption) (by with_reducible assumption) (by with_reducible assumption)) | exact (oH (by with_reducible assumption) (by omega)) | exact (ff (by omega)) | exact (fO (by omega) (by with_reducible assumption) (oG (by with_reducible assumption) (by with_reducible assumption) (by with_reducible assumption))) | exact (oR (by with_reducible assumption) (by with_reducible assumption) (by assumption)) | exact (mL (by omega) (by with_reducible assumption) (oi (by with_reducible assumption) (by with_reducible assumption) (by omega))) | (have h1:=dS (l:=l) (k:=‹Nat›) ‹Field›.num; have h2:=ey (l.take ‹Nat›) ‹Field›.num; refine ag ?_ ?_ <;> omega))
 all_goals try (refine ⟨0,?_⟩; (repeat' (first | with_reducible refine And.intro ?_ ?_ | with_reducible refine and_imp.2 ?_ | intro)))
 all_goals try (first | (first | with_reducible rfl | with_reducible assumption | omega | (refine ag ?_ ?_ <;> omega)) | exact rfl | exact (pt (by omega)) | exact (pV (by omega) (by with_reducible assumption)) | exact fp | exact ⟨jy⟩ | exact ⟨jt⟩ | exact ⟨jq⟩ | exact (dV (by with_reducible assumption)) | exact (congrArg Field.num (fQ (by with_reducible assumption))) | exact (congrArg Field.wire (fQ (by with_reducible assumption))) | exact (congrArg (fun f=>f.n.n) (fQ (by with_reducible assumption))) | exact (congrArg Field.b (fQ (by with_reducible assumption))) | exact (fO (by omega) (by with_reducible assumption) (dT (sN (by with_reducible assumption)) (by with_reducible assumption) (And.intro (by with_reducible assumption) (by with_reducible assumption)) (ey _ _))) | exact (pB (by with_reducible assumption) (by with_reducible assumption) (by assumption)) | exact (nX (by with_reducible assumption) (by with_reducible assumption) (by with_reducible assumption) (by with_reducible assumption)) | exact (oH (by with_reducible assumption) (by omega)) | exact (ff (by omega)) | exact (fO (by omega) (by with_reducible assumption) (oG (by with_reducible assumption) (by with_reducible assumption) (by with_reducible assumption))) | exact (oR (by with_reducible assumption) (by with_reducible assumption) (by assumption)) | exact (mL (by omega) (by with_reducible assumption) (oi (by with_reducible assumption) (by with_reducible assumption) (by omega))) | (have h1:=dS (l:=l) (k:=‹Nat›) ‹Field›.num; have h2:=ey (l.take ‹Nat›) ‹Field›.num; refine ag ?_ ?_ <;> omega))
 all_goals try (refine ⟨‹Nat› + 1,?_⟩; (repeat' (first | with_reducible refine And.intro ?_ ?_ | with_reducible refine and_imp.2 ?_ | intro)))
 all_goals try (first | (first | with_reducible rfl | with_reducible assumption | omega | (refine ag ?_ ?_ <;> omega)) | exact rfl | exact (pt (by omega)) | exact (pV (by omega) (by with_reducible assumption)) | exact fp | exact ⟨jy⟩ | exact ⟨jt⟩ | exact ⟨jq⟩ | exact (dV (by with_reducible assumption)) | exact (congrArg Field.num (fQ (by with_reducible assumption))) | exact (congrArg Field.wire (fQ (by with_reducible assumption))) | exact (congrArg (fun f=>f.n.n) (fQ (by with_reducible assumption))) | exact (congrArg Field.b (fQ (by with_reducible assumption))) | exact (fO (by omega) (by with_reducible assumption) (dT (sN (by with_reducible assumption)) (by with_reducible assumption) (And.intro (by with_reducible assumption) (by with_reducible assumption)) (ey _ _))) | exact (pB (by with_reducible assumption) (by with_reducible assumption) (by assumption)) | exact (nX (by with_reducible assumption) (by with_reducible assumption) (by with_reducible assumption) (by with_reducible assumption)) | exact (oH (by with_reducible assumption) (by omega)) | exact (ff (by omega)) | exact (fO (by omega) (by with_reducible assumption) (oG (by with_reducible assumption) (by with_reducible assumption) (by with_reducible assumption))) | exact (oR (by with_reducible assumption) (by with_reducible assumption) (by assumption)) | exact (mL (by omega) (by with_reducible assumption) (oi (by with_reducible assumption) (by with_reducible assumption) (by omega))) | (have h1:=dS (l:=l) (k:=‹Nat›) ‹Field›.num; have h2:=ey (l.take ‹Nat›) ‹Field›.num; refine ag ?_ ?_ <;> omega))
 all_goals (first | (first | with_reducible rfl | with_reducible assumption | omega | (refine ag ?_ ?_ <;> omega)) | exact rfl | exact (pt (by omega)) | exact (pV (by omega) (by with_reducible assumption)) | exact fp | exact ⟨jy⟩ | exact ⟨jt⟩ | exact ⟨jq⟩ | exact (dV (by with_reducible assumption)) | exact (congrArg Field.num (fQ (by with_reducible assumption))) | exact (congrArg Field.wire (fQ (by with_reducible assumption))) | exact (congrArg (fun f=>f.n.n) (fQ (by with_reducible assumption))) | exact (congrArg Field.b (fQ (by with_reducible assumption))) | exact (fO (by omega) (by with_reducible assumption) (dT (sN (by with_reducible assumption)) (by with_reducible assumption) (And.intro (by with_reducible assumption) (by with_reducible assumption)) (ey _ _))) | exact (pB (by with_reducible assumption) (by with_reducible assumption) (by assumption)) | exact (nX (by with_reducible assumption) (by with_reducible assumption) (by with_reducible assumption) (by with_reducible assumption)) | exact (oH (by with_reducible assumption) (by omega)) | exact (ff (by omega)) | exact (fO (by omega) (by with_reducible assumption) (oG (by with_reducible assumption) (by with_reducible assumption) (by with_reducible assumption))) | exact (oR (by with_reducible assumption) (by with_reducible assumption) (by assumption)) | exact (mL (by omega) (by with_reducible assumption) (oi (by with_reducible assumption) (by with_reducible assumption) (by omega))) | (have h1:=dS (l:=l) (k:=‹Nat›) ‹Field›.num; have h2:=ey (l.take ‹Nat›) ‹Field›.num; refine ag ?_ ?_ <;> omega))
theorem BF (c:Command) (rest:List Field) (v:Int) (r0:Int) (r1:List UInt8):Dd aK uA (Bj c rest v) Try.f14 [.agg (cellsOf (.nm .command) c),.c (.fz (.nm .field) (rest)),.c (.int (v))] [] [.c (.own 0),.c (.int (r0))] [.row 5 .u8 (r1)]=((fun (q3:Int)=>(fun (q2:Nat)=>(fun (q1:Prop)=>(fun (q0:Prop)=>I64 c.kind->I64 c.client->I64 c.seq->I64 c.set->I64 c.id->I64 c.n->c.chunks.length*(8:Nat)<=(140737488355328:Nat)->c.text.b.length<=(140737488355328:Nat)->rest.length*(48:Nat)<=(140737488355328:Nat)->I64 v->(bf v=false->(1:Int)=r0/\r1=[])/\(bf v=true->(bX c v=false->I64 (cZ c v)->(¬cZ c v=q3->cZ c v=r0/\r1=[])/\(cZ c v=q3->q0))/\(bX c v=true->q0))) ((1:Int)=(1:Int)/\(I64 (aQ v)->∃ (s0:Nat),(rest=rest/\v=v/\aQ v=aQ v/\rest=rest/\(↑rest.length:Int)=(↑q2:Int)/\q3=(↑s0:Int)/\q1)/\(s0<=q2/\Wq (ph rest v s0))/\∀ (s:Nat),s<=q2/\Wq (ph rest v s)->((↑s:Int)<(↑q2:Int)->q3<=(↑s:Int)/\(↑s:Int)<(↑rest.length:Int)/\∀ (x:Field),rest[s]? = some x->I64 x.num->I64 x.wire->x.n.n<(18446744073709551616:Nat)->x.b.length*(1:Nat)<=(140737488355328:Nat)->(x.num<=aQ v->(6:Int)=r0/\r1=[])/\(aQ v<x.num->I64 ((↑s:Int)+(1:Int))/\∃ (s':Nat),(rest=rest/\v=v/\aQ v=aQ v/\rest=rest/\(↑q2:Int)=(↑q2:Int)/\(↑s:Int)+(1:Int)=(↑s':Int)/\q1)/\(s' <= q2/\Wq (ph rest v s'))/\q2 - s' < q2 - s))/\((↑q2:Int)<=(↑s:Int)->q3<=c.kind/\q3<=c.client/\q3<=c.seq/\q3<=c.set/\q3<=c.id/\q3<=c.n/\((aF c v).length+rest.length)*(48:Nat)<=(140737488355328:Nat)/\(I64 (bk (aF c v++rest))->bk (aF c v++rest)=r0/\dR (aF c v++rest)=r1))))) (c.kind=c.kind/\c.client=c.client/\c.seq=c.seq/\c.set=c.set/\c.id=c.id/\c.n=c.n/\c.chunks=c.chunks/\c.text=c.text)) rest.length) (0:Int)):=by kernel_rfl
theorem Br (c:Command) (rest:List Field) (v:Int) (h0:rest.length<=20000):Sat Try.prog (ai aK) 14 [.agg (cellsOf (.nm .command) c),.c (.fz (.nm .field) (rest)),.c (.int (v))] [] ⟨[rest.length<=20000],[.c (.own 0),.c (.int ((bm c rest v)))],some ([.row 5 .u8 ((aP c rest v))]),true⟩:=by
 refine mz jH (Bj c rest v) Try.func14 (by decide) (by kernel_rfl) ?_
 rw [BF]
 (repeat' (first | with_reducible refine And.intro ?_ ?_ | with_reducible refine and_imp.2 ?_ | intro))
 all_goals try (first | (first | with_reducible rfl | with_reducible assumption | omega | (refine ag ?_ ?_ <;> omega)) | exact rfl | exact ⟨uB⟩ | exact (vH (by with_reducible assumption) (by with_reducible assumption) (by omega)) | exact (eK (Ds (by with_reducible assumption)) (by decide)) | exact (eG (Ds (by with_reducible assumption)) (by decide)).symm | exact (eK (Du (by with_reducible assumption) (by with_reducible assumption) (by with_reducible assumption)) (by with_reducible assumption)) | exact (eG (Du (by with_reducible assumption) (by with_reducible assumption) (by with_reducible assumption)) (by with_reducible assumption)).symm | exact (eK (Dw (by with_reducible assumption) (by first | exact .inl (by with_reducible assumption) | exact .inr (by with_reducible assumption)) (by with_reducible assumption) (by with_reducible assumption)) (by decide)) | exact (eG (Dw (by with_reducible assumption) (by first | exact .inl (by with_reducible assumption) | exact .inr (by with_reducible assumption)) (by with_reducible assumption) (by with_reducible assumption)) (by decide)).symm | exact (vd (Dt (by with_reducible assumption) (by first | exact .inl (by with_reducible assumption) | exact .inr (by with_reducible assumption)) (by with_reducible assumption) (by omega))) | exact (xR (Dt (by with_reducible assumption) (by first | exact .inl (by with_reducible assumption) | exact .inr (by with_reducible assumption)) (by with_reducible assumption) (by omega))) | (have h:0<=c.kind/\0<=c.client/\0<=c.seq/\0<=c.set/\0<=c.id/\0<=c.n:=(by first | exact nS (by with_reducible assumption) | exact nw (by with_reducible assumption)); omega) | (have h:=gq c v; omega))
 all_goals try (refine ⟨0,?_⟩; (repeat' (first | with_reducible refine And.intro ?_ ?_ | with_reducible refine and_imp.2 ?_ | intro)))
 all_goals try (first | (first | with_reducible rfl | with_reducible assumption | omega | (refine ag ?_ ?_ <;> omega)) | exact rfl | exact ⟨uB⟩ | exact (vH (by with_reducible assumption) (by with_reducible assumption) (by omega)) | exact (eK (Ds (by with_reducible assumption)) (by decide)) | exact (eG (Ds (by with_reducible assumption)) (by decide)).symm | exact (eK (Du (by with_reducible assumption) (by with_reducible assumption) (by with_reducible assumption)) (by with_reducible assumption)) | exact (eG (Du (by with_reducible assumption) (by with_reducible assumption) (by with_reducible assumption)) (by with_reducible assumption)).symm | exact (eK (Dw (by with_reducible assumption) (by first | exact .inl (by with_reducible assumption) | exact .inr (by with_reducible assumption)) (by with_reducible assumption) (by with_reducible assumption)) (by decide)) | exact (eG (Dw (by with_reducible assumption) (by first | exact .inl (by with_reducible assumption) | exact .inr (by with_reducible assumption)) (by with_reducible assumption) (by with_reducible assumption)) (by decide)).symm | exact (vd (Dt (by with_reducible assumption) (by first | exact .inl (by with_reducible assumption) | exact .inr (by with_reducible assumption)) (by with_reducible assumption) (by omega))) | exact (xR (Dt (by with_reducible assumption) (by first | exact .inl (by with_reducible assumption) | exact .inr (by with_reducible assumption)) (by with_reducible assumption) (by omega))) | (have h:0<=c.kind/\0<=c.client/\0<=c.seq/\0<=c.set/\0<=c.id/\0<=c.n:=(by first | exact nS (by with_reducible assumption) | exact nw (by with_reducible assumption)); omega) | (have h:=gq c v; omega))
 all_goals try (refine ⟨‹Nat› + 1,?_⟩; (repeat' (first | with_reducible refine And.intro ?_ ?_ | with_reducible refine and_imp.2 ?_ | intro)))
 all_goals (first | (first | with_reducible rfl | with_reducible assumption | omega | (refine ag ?_ ?_ <;> omega)) | exact rfl | exact ⟨uB⟩ | exact (vH (by with_reducible assumption) (by with_reducible assumption) (by omega)) | exact (eK (Ds (by with_reducible assumption)) (by decide)) | exact (eG (Ds (by with_reducible assumption)) (by decide)).symm | exact (eK (Du (by with_reducible assumption) (by with_reducible assumption) (by with_reducible assumption)) (by with_reducible assumption)) | exact (eG (Du (by with_reducible assumption) (by with_reducible assumption) (by with_reducible assumption)) (by with_reducible assumption)).symm | exact (eK (Dw (by with_reducible assumption) (by first | exact .inl (by with_reducible assumption) | exact .inr (by with_reducible assumption)) (by with_reducible assumption) (by with_reducible assumption)) (by decide)) | exact (eG (Dw (by with_reducible assumption) (by first | exact .inl (by with_reducible assumption) | exact .inr (by with_reducible assumption)) (by with_reducible assumption) (by with_reducible assumption)) (by decide)).symm | exact (vd (Dt (by with_reducible assumption) (by first | exact .inl (by with_reducible assumption) | exact .inr (by with_reducible assumption)) (by with_reducible assumption) (by omega))) | exact (xR (Dt (by with_reducible assumption) (by first | exact .inl (by with_reducible assumption) | exact .inr (by with_reducible assumption)) (by with_reducible assumption) (by omega))) | (have h:0<=c.kind/\0<=c.client/\0<=c.seq/\0<=c.set/\0<=c.id/\0<=c.n:=(by first | exact nS (by with_reducible assumption) | exact nw (by with_reducible assumption)); omega) | (have h:=gq c v; omega))
noncomputable def Bz:cz:=(cD 14 (cj (ak (kT (.nm .command)) (ak (kC (cL (.nm .field))) (ak (kC cI) ba))) bb fun (c,rest,v,_) (_)=>⟨[rest.length<=20000],[.c (.own 0),.c (.int ((bm c rest v)))],some ([.row 5 .u8 ((aP c rest v))]),true⟩) (cD 19 (cj (ak (kC cI) (ak (kC cI) (ak (kC (cL (.nm .field))) ba))) bb fun (q,v,l,_) (_)=>⟨[q=1],[.c (.int ((dB l v)))],none,false⟩) (cD 37 (cj (ak (kT (.nm .field)) (ak (kC (lK 0 0)) ba)) (eb (lN 28 (gH (uF 1) lP)) (eb (wM 58 (.nm .field)) bb)) fun (f,_,_) ((_,_),xs,_)=>⟨[xs.length<=20000],[.c (.bool (.atom ((cw xs f))))],none,false⟩) uA)))
theorem sm:aT Try.prog (ai aK) Bz:=(aw (av (ab cF (ab (ax bA) (ab (ax bh) ao))) al fun (c,rest,v,_) (_) hp=>Br c rest v (lH hp)) (aw (av (ab (ax bh) (ab (ax bh) (ab (ax bA) ao))) al fun (q,v,l,_) (_) hp=>xM q v l (lH hp)) (aw (av (ab cF (ab (ax dM) ao)) (bV (dQ (dG mM dN)) (bV nV al)) fun (f,_,_) ((_,_),xs,_) hp=>Ab f xs (lH hp)) jH)))
end Go.Proofs.Ytladifkbefehdaa
namespace Go.Proofs.Ytladifkbefehdaa
open Go.RowKit
def yZ (b:List UInt8) (s:Nat × List Field):Nat × List Field:=(s.1+(aH (b.drop s.1)).1,s.2++[fk ((b.drop s.1).take (((s.1:Int)+((aH (b.drop s.1)).1:Nat)).toNat - s.1))])
theorem Bo {b:List UInt8} {s:Nat × List Field}:(yZ b s).2=s.2++[fk ((b.drop s.1).take (aH (b.drop s.1)).1)]:=by
 unfold yZ; rw [show ((s.1:Int)+((aH (b.drop s.1)).1:Nat)).toNat - s.1=(aH (b.drop s.1)).1 by omega]
theorem Fl {b:List UInt8} (h:16384<(b.length:Int)):aI b=([],4):=CA (by omega)
theorem FQ {b:List UInt8} {s:Nat × List Field} (h:Wq (eo b s.1 s.2)) (hi:(s.1:Int)<(b.length:Int)) (hs:¬ (aH (b.drop s.1)).2=0):aI b=([],(aH (b.drop s.1)).2):=zl h.h (by omega) hs
theorem FE {b:List UInt8} {s:Nat × List Field} (h:Wq (eo b s.1 s.2)) (hi:(s.1:Int)<(b.length:Int)) (hs:(aH (b.drop s.1)).2=0) (hr:cw s.2 (fk ((b.drop s.1).take (((s.1:Int)+((aH (b.drop s.1)).1:Nat)).toNat - s.1)))=false):aI b=([],5):=by
 rw [show ((s.1:Int)+((aH (b.drop s.1)).1:Nat)).toNat - s.1=(aH (b.drop s.1)).1 by omega] at hr
 obtain ⟨f,_,e⟩:=uP h.h (show s.1<b.length by omega)
 rw [e,if_pos hs,hr,if_neg (by decide)]
theorem FV {b:List UInt8} {s:Nat × List Field} (h:Wq (eo b s.1 s.2)) (hi:(s.1:Int)<(b.length:Int)) (hs:(aH (b.drop s.1)).2=0) (hr:cw s.2 (fk ((b.drop s.1).take (((s.1:Int)+((aH (b.drop s.1)).1:Nat)).toNat - s.1)))=true):Wq (eo b (yZ b s).1 (yZ b s).2):=by
 rw [show ((s.1:Int)+((aH (b.drop s.1)).1:Nat)).toNat - s.1=(aH (b.drop s.1)).1 by omega] at hr
 obtain ⟨f,hf,e⟩:=uP h.h (show s.1<b.length by omega)
 have hp:=hP hs
 rw [Bo]
 refine ⟨f,by show b.length - (s.1+(aH (b.drop s.1)).1)<=f; omega,?_⟩
 rw [e,if_pos hs,hr,if_pos rfl,List.drop_drop]; rfl
theorem Fy {b:List UInt8} {s:Nat × List Field} (h:Wq (eo b s.1 s.2)) (hi:(b.length:Int)<=(s.1:Int)):aI b=(s.2,0):=Cd h.h (by omega)
theorem Fo {b:List UInt8} {s:Nat × List Field} (hi:s.1<=b.length):(yZ b s).1<=b.length:=by
 have:=gV (b.drop s.1); rw [List.length_drop] at this; show s.1+_<=_; omega
theorem Gg {b:List UInt8} {s:Nat × List Field} (hl:s.2.length<=s.1) (hs:(aH (b.drop s.1)).2=0):(yZ b s).2.length<=(yZ b s).1:=by
 have hp:=hP hs
 rw [Bo,List.length_append]; simp only [List.length_cons,List.length_nil]; show _<=s.1+_; omega
theorem FT {b:List UInt8} {s:Nat × List Field} (hi:(s.1:Int)<(b.length:Int)) (hs:(aH (b.drop s.1)).2=0):b.length - (yZ b s).1<b.length - s.1:=by
 have hp:=hP hs; show b.length - (s.1+_)<_; omega
def wS (b:List UInt8):List (Nat × LI):=[(6,{ σ:=Nat × List Field,F:=fun s=>([(0,one (.fz .u8 (b))),(4,one (.ptr 0 0)),(5,one (.fn 37 [] [(0,0)])),(6,one (.int s.1))],[.box 28 ([.own 1]),.row 58 (.nm .field) ((s.2))]),J:=fun s=>Wq (eo b s.1 s.2)/\s.1<=b.length/\s.2.length<=s.1,μ:=fun s=>b.length - s.1 })]
theorem zi (b:List UInt8) (r0:List Field) (r1:Int):dp aK Bz (wS b) Try.f18 [.c (.fz .u8 (b))] [] [.c (.fz (.nm .field) (r0)),.c (.int (r1))]=((fun (q1:Int)=>(fun (q0:Int)=>b.length*(1:Nat)<=(140737488355328:Nat)->((16384:Int)<q0->r0=[]/\(4:Int)=r1)/\(q0<=(16384:Int)->∃ (s0:Nat × List Field),(b=b/\q1=(↑s0.fst:Int)/\s0.snd=[])/\(Wq (eo b s0.fst s0.snd)/\s0.fst<=b.length/\s0.snd.length<=s0.fst)/\∀ (s:Nat × List Field),(fun (q5:Int)=>(fun (q4:Nat × Int)=>(fun (q3:Int)=>(fun (q2:Field)=>Wq (eo b s.fst s.snd)/\s.fst<=b.length/\s.snd.length<=s.fst->(q5<q0->q1<=q5/\q5<=q0/\(I64 (↑q4.fst:Int)->I64 q4.snd->(¬q4.snd=q1->r0=[]/\q4.snd=r1)/\(q4.snd=q1->I64 q3/\q1<=q5/\q5<=q3/\q3<=q0/\(I64 q2.num->I64 q2.wire->q2.n.n<(18446744073709551616:Nat)->q2.b.length*(1:Nat)<=(140737488355328:Nat)->s.snd.length<=(20000:Nat)/\(cw s.snd q2=false->r0=[]/\(5:Int)=r1)/\(cw s.snd q2=true->(s.snd.length+[q2].length)*(48:Nat)<=(140737488355328:Nat)/\I64 q3/\∃ (s':Nat × List Field),(b=b/\q3=(↑s'.fst:Int)/\s.snd++[q2]=s'.snd)/\(Wq (eo b s'.fst s'.snd)/\s'.fst<=b.length/\s'.snd.length<=s'.fst)/\b.length - s'.fst<b.length - s.fst)))))/\(q0<=q5->s.snd=r0/\q1=r1)) (fk (List.take (q3.toNat - s.fst) (List.drop s.fst b)))) (q5+(↑q4.fst:Int))) (aH (List.drop s.fst b))) (↑s.fst:Int))) (↑b.length:Int)) (0:Int)):=by kernel_rfl
theorem zY (b:List UInt8):Sat Try.prog (ai aK) 18 [.c (.fz .u8 (b))] [] ⟨[],[.c (.fz (.nm .field) (((aI b).1))),.c (.int (((aI b).2)))],none,false⟩:=by
 refine aS sm (wS b) Try.func18 (by decide) (by kernel_rfl) ?_
 rw [zi]
 (repeat' (first | with_reducible refine And.intro ?_ ?_ | with_reducible refine and_imp.2 ?_ | intro))
 all_goals try (first | (first | with_reducible rfl | with_reducible assumption | omega | (refine ag ?_ ?_ <;> omega)) | exact rfl | exact ⟨lb (by omega)⟩ | (rw [Fl (by with_reducible assumption)] <;> rfl) | (rw [FQ (by with_reducible assumption) (by with_reducible assumption) (by with_reducible assumption)] <;> rfl) | (rw [FE (by with_reducible assumption) (by with_reducible assumption) (by with_reducible assumption) (by with_reducible assumption)] <;> rfl) | (rw [Fy (by with_reducible assumption) (by with_reducible assumption)] <;> rfl) | exact (FV (by with_reducible assumption) (by with_reducible assumption) (by with_reducible assumption) (by with_reducible assumption)) | exact (Fo (by with_reducible assumption)) | exact (Gg (by with_reducible assumption) (by with_reducible assumption)) | exact (FT (by with_reducible assumption) (by with_reducible assumption)) | (have h:=gV (b.drop ‹Nat × List Field›.1); rw [List.length_drop] at h; first | omega | (refine ag ?_ ?_ <;> omega)) | (simp only [List.length_cons,List.length_nil]; omega))
 all_goals try (refine ⟨(0,[]),?_⟩; (repeat' (first | with_reducible refine And.intro ?_ ?_ | with_reducible refine and_imp.2 ?_ | intro)))
 all_goals try (first | (first | with_reducible rfl | with_reducible assumption | omega | (refine ag ?_ ?_ <;> omega)) | exact rfl | exact ⟨lb (by omega)⟩ | (rw [Fl (by with_reducible assumption)] <;> rfl) | (rw [FQ (by with_reducible assumption) (by with_reducible assumption) (by with_reducible assumption)] <;> rfl) | (rw [FE (by with_reducible assumption) (by with_reducible assumption) (by with_reducible assumption) (by with_reducible assumption)] <;> rfl) | (rw [Fy (by with_reducible assumption) (by with_reducible assumption)] <;> rfl) | exact (FV (by with_reducible assumption) (by with_reducible assumption) (by with_reducible assumption) (by with_reducible assumption)) | exact (Fo (by with_reducible assumption)) | exact (Gg (by with_reducible assumption) (by with_reducible assumption)) | exact (FT (by with_reducible assumption) (by with_reducible assumption)) | (have h:=gV (b.drop ‹Nat × List Field›.1); rw [List.length_drop] at h; first | omega | (refine ag ?_ ?_ <;> omega)) | (simp only [List.length_cons,List.length_nil]; omega))
 all_goals try (refine ⟨yZ b ‹Nat × List Field›,?_⟩; (repeat' (first | with_reducible refine And.intro ?_ ?_ | with_reducible refine and_imp.2 ?_ | intro)))
 all_goals (first | (first | with_reducible rfl | with_reducible assumption | omega | (refine ag ?_ ?_ <;> omega)) | exact rfl | exact ⟨lb (by omega)⟩ | (rw [Fl (by with_reducible assumption)] <;> rfl) | (rw [FQ (by with_reducible assumption) (by with_reducible assumption) (by with_reducible assumption)] <;> rfl) | (rw [FE (by with_reducible assumption) (by with_reducible assumption) (by with_reducible assumption) (by with_reducible assumption)] <;> rfl) | (rw [Fy (by with_reducible assumption) (by with_reducible assumption)] <;> rfl) | exact (FV (by with_reducible assumption) (by with_reducible assumption) (by with_reducible assumption) (by with_reducible assumption)) | exact (Fo (by with_reducible assumption)) | exact (Gg (by with_reducible assumption) (by with_reducible assumption)) | exact (FT (by with_reducible assumption) (by with_reducible assumption)) | (have h:=gV (b.drop ‹Nat × List Field›.1); rw [List.length_drop] at h; first | omega | (refine ag ?_ ?_ <;> omega)) | (simp only [List.length_cons,List.length_nil]; omega))
noncomputable def qS:cz:=(cD 18 (cj (ak (kC (cL .u8)) ba) bb fun (b,_) (_)=>⟨[],[.c (.fz (.nm .field) (((aI b).1))),.c (.int (((aI b).2)))],none,false⟩) Bz)
theorem fH:aT Try.prog (ai aK) qS:=(aw (av (ab (ax bA) ao) al fun (b,_) (_) _=>zY b ) sm)
end Go.Proofs.Ytladifkbefehdaa
namespace Go.Proofs.Ytladifkbefehdaa
open Go.RowKit
theorem ES {v:Int} (h:bf v=true):1<=v/\v<=3:=by
 unfold bf at h; simpa using h
theorem Gb {b:List UInt8} {v:Int} (h1:(aI b).2=0) (h2:dB (aI b).1 v=0):eT b v=0:=by rw [eT,if_pos h1,h2]
theorem GJ {b:List UInt8} {v:Int} (h:bf v=false):ah b v=⟨bQ,[],1⟩:=DO (fun h2=>by unfold bf at h; simp only [h2,decide_true,Bool.and_self] at h; cases h)
theorem GL {b:List UInt8} {v:Int} (h:bf v=true) (h1:(aI b).2=0) (h2:¬ dB (aI b).1 v=0):ah b v=⟨bQ,[],dB (aI b).1 v⟩:=by
 have e:eT b v=dB (aI b).1 v:=by rw [eT,if_pos h1]
 rw [CY (ES h) (by rw [e]; exact h2),e]
theorem GX {b:List UInt8} {v:Int} (h:bf v=true) (h1:¬ (aI b).2=0):ah b v=⟨bQ,[],(aI b).2⟩:=by
 have e:eT b v=(aI b).2:=by rw [eT,if_neg h1]
 rw [CY (ES h) (by rw [e]; exact h1),e]
theorem Ha {b:List UInt8} {v:Int} (h:bf v=true) (h1:(aI b).2=0) (h2:dB (aI b).1 v=0) (h3:¬ bm (bc (bG (aI b).1 (aQ v))) (bN (aI b).1 (aQ v)) v=0\/decide (aP (bc (bG (aI b).1 (aQ v))) (bN (aI b).1 (aQ v)) v=b)=false):ah b v=⟨bQ,[],6⟩:=
 DI (ES h) (Gb h1 h2) (h3.imp_right fun h=>by simpa using h)
theorem GZ {b:List UInt8} {v:Int} (h:bf v=true) (h1:(aI b).2=0) (h2:dB (aI b).1 v=0) (h3:bm (bc (bG (aI b).1 (aQ v))) (bN (aI b).1 (aQ v)) v=0) (h4:decide (aP (bc (bG (aI b).1 (aQ v))) (bN (aI b).1 (aQ v)) v=b)=true):ah b v=⟨bc (bG (aI b).1 (aQ v)),bN (aI b).1 (aQ v),0⟩:=
 BR (ES h) (Gb h1 h2) ⟨h3,of_decide_eq_true h4⟩
def c_ (x:Field):Field:=⟨x.num,x.wire,⟨x.n.n % 18446744073709551616⟩,x.b.take 100⟩
def dO (l:List Field):List Field:=(l.take 20).map c_
theorem rN {l:List Field} {k:Nat} {x:Field} (hx:l[k]? = some x) (hn:x.n.n<18446744073709551616):(l.take k).map c_++[⟨x.num,x.wire,x.n,x.b.take 100⟩]=(l.take (k+1)).map c_:=by
 rw [aj hx,List.map_append]; unfold c_; simp only [List.map_cons,List.map_nil,Nat.mod_eq_of_lt hn]
theorem wF {l:List Field} {k:Nat} {x:Field} (hx:l[k]? = some x) (hn:x.n.n<18446744073709551616) (h:x.b.length<=100):(l.take k).map c_++[x]=(l.take (k+1)).map c_:=by
 have:=rN hx hn
 rw [List.take_of_length_le h] at this; exact this
theorem uD {l:List Field} {k:Nat} (h:(k<=l.length/\k<=20)/\(l.length<=k\/20<=k)):(l.take k).map c_=dO l:=by
 unfold dO
 obtain ⟨⟨h1,h2⟩,h | h⟩:=h
 ·rw [List.take_of_length_le h,List.take_of_length_le (by omega)]
 ·rw [show k=20 by omega]
theorem tU (l:List Field):(dO l).length<=20:=by unfold dO; rw [List.length_map,List.length_take]; exact Nat.min_le_left _ _
theorem AA (l:List Field):∀ f ∈ dO l,lO f:=by
 intro f hf
 obtain ⟨x,_,rfl⟩:=List.mem_map.1 hf
 exact Nat.mod_lt _ (by decide)
theorem BB {a b:List Field} {k:Nat} (ha:k<a.length) (hb:k<b.length) (h:(((¬ (a.getD k (aC (.nm .field))).num=(b.getD k (aC (.nm .field))).num\/¬ (a.getD k (aC (.nm .field))).wire=(b.getD k (aC (.nm .field))).wire)\/¬ ((a.getD k (aC (.nm .field))).n.n:Int)=((b.getD k (aC (.nm .field))).n.n:Int))\/¬ Str.mk (a.getD k (aC (.nm .field))).b=Str.mk (b.getD k (aC (.nm .field))).b)):false=decide (a=b):=
 Aj (sN ha) (sN hb) fun e=>by rw [e] at h; simp at h
theorem CS {a b:List Field} {k:Nat} (h:a.take k=b.take k) (ha:k<a.length) (hb:k<b.length) (h1:(a.getD k (aC (.nm .field))).num=(b.getD k (aC (.nm .field))).num) (h2:(a.getD k (aC (.nm .field))).wire=(b.getD k (aC (.nm .field))).wire) (h3:((a.getD k (aC (.nm .field))).n.n:Int)=((b.getD k (aC (.nm .field))).n.n:Int)) (h4:Str.mk (a.getD k (aC (.nm .field))).b=Str.mk (b.getD k (aC (.nm .field))).b):a.take (k+1)=b.take (k+1):=
 sP h (sN ha) (sN hb) (yI ⟨⟨⟨h1,h2⟩,h3⟩,congrArg Str.b h4⟩)
def xc (l:List Field):List (Nat × LI):=[(3,{ σ:=Nat,F:=fun k=>([(0,one (.fz (.nm .field) (l))),(3,one (.own 0)),(4,one (.int k))],[.row 58 (.nm .field) (((l.take k).map c_))]),J:=fun k=>k<=l.length/\k<=20,μ:=fun k=>20 - k })]
def vT (a:List Field) (b:List Field):List (Nat × LI):=[(4,{ σ:=Nat,F:=fun k=>([(0,one (.fz (.nm .field) (a))),(1,one (.fz (.nm .field) (b))),(5,one (.int k))],[]),J:=fun k=>k<=a.length/\a.take k=b.take k,μ:=fun k=>a.length - k })]
theorem zF (b:List UInt8) (v:Int) (r0:Command) (r1:List Field) (r2:Int):dp aK qS [] Try.f8 [.c (.fz .u8 (b)),.c (.int (v))] [] [.agg (cellsOf (.nm .command) r0),.c (.fz (.nm .field) (r1)),.c (.int (r2))]=((fun (q8:Nat)=>(fun (q7:Int)=>(fun (q6:Prop)=>(fun (q5:Prop)=>(fun (q4:List Field)=>(fun (q3:List Field)=>(fun (q2:Int)=>(fun (q1:Command)=>(fun (q0:Prop)=>b.length*(1:Nat)<=q8->I64 v->(bf v=false->q2=r0.kind/\q2=r0.client/\q2=r0.seq/\q2=r0.set/\q2=r0.id/\q2=r0.n/\q6/\q5/\r1=[]/\(1:Int)=r2)/\(bf v=true->q4.length*(48:Nat)<=q8->I64 q7->(q7=q2->(1:Int)=(1:Int)/\(I64 (dB q4 v)->(¬dB q4 v=q2->q2=r0.kind/\q2=r0.client/\q2=r0.seq/\q2=r0.set/\q2=r0.id/\q2=r0.n/\q6/\q5/\r1=[]/\dB q4 v=r2)/\(dB q4 v=q2->q0)))/\(¬q7=q2->(¬q7=q2->q2=r0.kind/\q2=r0.client/\q2=r0.seq/\q2=r0.set/\q2=r0.id/\q2=r0.n/\q6/\q5/\r1=[]/\q7=r2)/\(q7=q2->q0)))) ((1:Int)=(1:Int)/\(I64 (aQ v)->(bG q4 (aQ v)).length*(48:Nat)<=q8->q3.length*(48:Nat)<=q8->(∀ (f:Field),List.Mem f (bG q4 (aQ v))->f.b.length<=(16384:Nat))/\(I64 q1.kind->I64 q1.client->I64 q1.seq->I64 q1.set->I64 q1.id->I64 q1.n->q1.chunks.length*(8:Nat)<=q8->q1.text.b.length<=q8->q3.length<=(20000:Nat)/\(I64 (bm q1 q3 v)->(¬bm q1 q3 v=q2\/decide (aP q1 q3 v=b)=false->q2=r0.kind/\q2=r0.client/\q2=r0.seq/\q2=r0.set/\q2=r0.id/\q2=r0.n/\q6/\q5/\r1=[]/\(6:Int)=r2)/\(bm q1 q3 v=q2/\decide (aP q1 q3 v=b)=true->q1.kind=r0.kind/\q1.client=r0.client/\q1.seq=r0.seq/\q1.set=r0.set/\q1.id=r0.id/\q1.n=r0.n/\q1.chunks=r0.chunks/\q1.text=r0.text/\q3=r1/\q2=r2)))))) (bc (bG q4 (aQ v)))) (0:Int)) (bN q4 (aQ v))) (aI b).fst) (Str.mk []=r0.text)) (r0.chunks=[])) (aI b).snd) (140737488355328:Nat)):=by kernel_rfl
theorem zC (b:List UInt8) (v:Int):Sat Try.prog (ai aK) 8 [.c (.fz .u8 (b)),.c (.int (v))] [] ⟨[],[.agg (cellsOf (.nm .command) ((ah b v).c)),.c (.fz (.nm .field) (((ah b v).r))),.c (.int (((ah b v).e)))],none,false⟩:=by
 refine aS fH [] Try.func8 (by decide) (by kernel_rfl) ?_
 rw [zF]
 (repeat' (first | with_reducible refine And.intro ?_ ?_ | with_reducible refine and_imp.2 ?_ | intro))
 all_goals (first | (first | with_reducible rfl | with_reducible assumption | omega | (refine ag ?_ ?_ <;> omega)) | (rw [GJ (by with_reducible assumption)] <;> rfl) | (rw [GL (by with_reducible assumption) (by with_reducible assumption) (by with_reducible assumption)] <;> rfl) | (rw [GX (by with_reducible assumption) (by with_reducible assumption)] <;> rfl) | (rw [Ha (by with_reducible assumption) (by with_reducible assumption) (by with_reducible assumption) (by assumption)] <;> rfl) | (rw [GZ (by with_reducible assumption) (by with_reducible assumption) (by with_reducible assumption) (by with_reducible assumption) (by with_reducible assumption)] <;> rfl) | exact (Dc (Gb (by with_reducible assumption) (by with_reducible assumption)) _ (by assumption)) | (have h1:=hL (aI b).1 (aQ v); have h2:=sf b; omega))
theorem yB (l:List Field) (r0:List Field):dp aK qS (xc l) Try.f13 [.c (.fz (.nm .field) (l))] [] [.c (.fz (.nm .field) (r0))]=((fun (q0:Nat)=>l.length*(48:Nat)<=(140737488355328:Nat)->∃ (s0:Nat),(l=l/\(0:Int)=(↑s0:Int)/\List.map c_ (List.take s0 l)=[])/\(s0<=l.length/\s0<=q0)/\∀ (s:Nat),(fun (q2:List (den (Sh.nm NT.field)))=>(fun (q1:Int)=>s<=l.length/\s<=q0->((↑s:Int)<(↑l.length:Int)/\(↑s:Int)<(20:Int)->(0:Int)<=(↑s:Int)/\(↑s:Int)<(↑l.length:Int)/\∀ (x:Field),(fun (q3:Field)=>l[s]? = some x->I64 x.num->I64 x.wire->x.n.n<(18446744073709551616:Nat)->x.b.length*(1:Nat)<=(140737488355328:Nat)->((100:Int)<(↑x.b.length:Int)->(0:Int)<=(100:Int)/\(100:Int)<=(↑x.b.length:Int)/\(q2.length+[q3].length)*(48:Nat)<=(140737488355328:Nat)/\I64 q1/\∃ (s':Nat),(l=l/\q1=(↑s':Int)/\q2++[q3]=List.map c_ (List.take s' l))/\(s' <= l.length/\s' <= q0)/\q0 - s' < q0 - s)/\((↑x.b.length:Int)<=(100:Int)->(q2.length+[x].length)*(48:Nat)<=(140737488355328:Nat)/\I64 q1/\∃ (s':Nat),(l=l/\q1=(↑s':Int)/\q2++[x]=List.map c_ (List.take s' l))/\(s' <= l.length/\s' <= q0)/\q0 - s' < q0 - s)) (Field.mk x.num x.wire x.n (List.take (100:Nat) x.b)))/\((↑l.length:Int)<=(↑s:Int)\/(20:Int)<=(↑s:Int)->q2=r0)) ((↑s:Int)+(1:Int))) (List.map c_ (List.take s l))) (20:Nat)):=by kernel_rfl
theorem Az (l:List Field):Sat Try.prog (ai aK) 13 [.c (.fz (.nm .field) (l))] [] ⟨[],[.c (.fz (.nm .field) ((dO l)))],none,false⟩:=by
 refine aS fH (xc l) Try.func13 (by decide) (by kernel_rfl) ?_
 rw [yB]
 (repeat' (first | with_reducible refine And.intro ?_ ?_ | with_reducible refine and_imp.2 ?_ | intro))
 all_goals try (first | (first | with_reducible rfl | with_reducible assumption | omega | (refine ag ?_ ?_ <;> omega)) | exact rfl | exact (rN (by with_reducible assumption) (by with_reducible assumption)) | exact (wF (by with_reducible assumption) (by with_reducible assumption) (by omega)) | exact (uD (by omega)) | (rw [List.length_map,List.length_take]; simp only [List.length_cons,List.length_nil]; omega))
 all_goals try (refine ⟨0,?_⟩; (repeat' (first | with_reducible refine And.intro ?_ ?_ | with_reducible refine and_imp.2 ?_ | intro)))
 all_goals try (first | (first | with_reducible rfl | with_reducible assumption | omega | (refine ag ?_ ?_ <;> omega)) | exact rfl | exact (rN (by with_reducible assumption) (by with_reducible assumption)) | exact (wF (by with_reducible assumption) (by with_reducible assumption) (by omega)) | exact (uD (by omega)) | (rw [List.length_map,List.length_take]; simp only [List.length_cons,List.length_nil]; omega))
 all_goals try (refine ⟨‹Nat› + 1,?_⟩; (repeat' (first | with_reducible refine And.intro ?_ ?_ | with_reducible refine and_imp.2 ?_ | intro)))
 all_goals (first | (first | with_reducible rfl | with_reducible assumption | omega | (refine ag ?_ ?_ <;> omega)) | exact rfl | exact (rN (by with_reducible assumption) (by with_reducible assumption)) | exact (wF (by with_reducible assumption) (by with_reducible assumption) (by omega)) | exact (uD (by omega)) | (rw [List.length_map,List.length_take]; simp only [List.length_cons,List.length_nil]; omega))
theorem zu (a:List Field) (b:List Field) (r0:Bool):dp aK qS (vT a b) Try.f11 [.c (.fz (.nm .field) (a)),.c (.fz (.nm .field) (b))] [] [.c (.bool (.atom (r0)))]=((fun (q6:Nat)=>(fun (q5:Nat)=>(fun (q4:Int)=>(fun (q3:Int)=>(fun (q2:Nat)=>(fun (q1:Int)=>(fun (q0:den (Sh.nm NT.field))=>a.length*(48:Nat)<=q2->b.length*(48:Nat)<=q2->(¬q1=q3->false=r0)/\(q1=q3->∃ (s0:Nat),(a=a/\b=b/\q4=(↑s0:Int))/\(s0<=a.length/\List.take s0 a=List.take s0 b)/\∀ (s:Nat),(fun (q10:Int)=>(fun (q9:den (Sh.nm NT.field))=>(fun (q8:den (Sh.nm NT.field))=>(fun (q7:Prop)=>s<=a.length/\List.take s a=List.take s b->(q10<q1->q4<=q10/\q10<q1/\q4<=q10/\q10<q3/\(q8.num=q9.num->q4<=q10/\q10<q1)/\(q8.num=q9.num->q4<=q10/\q10<q3)/\(q7->q4<=q10/\q10<q1)/\(q7->q4<=q10/\q10<q3)/\(q7/\(↑q8.n.n:Int)=(↑q9.n.n:Int)->q4<=q10/\q10<q1)/\(q7/\(↑q8.n.n:Int)=(↑q9.n.n:Int)->q4<=q10/\q10<q3)/\(I64 q8.num->I64 q8.wire->q8.n.n<q6->q8.b.length*q5<=q2->I64 q9.num->I64 q9.wire->q9.n.n<q6->q9.b.length*q5<=q2->(q8.num=q9.num->I64 q8.num/\I64 q8.wire/\q8.n.n<q6/\q8.b.length*q5<=q2)->(q8.num=q9.num->I64 q9.num/\I64 q9.wire/\q9.n.n<q6/\q9.b.length*q5<=q2)->(q7->I64 q8.num/\I64 q8.wire/\q8.n.n<q6/\q8.b.length*q5<=q2)->(q7->I64 q9.num/\I64 q9.wire/\q9.n.n<q6/\q9.b.length*q5<=q2)->(q7/\(↑q8.n.n:Int)=(↑q9.n.n:Int)->I64 q8.num/\I64 q8.wire/\q8.n.n<q6/\q8.b.length*q5<=q2)->(q7/\(↑q8.n.n:Int)=(↑q9.n.n:Int)->I64 q9.num/\I64 q9.wire/\q9.n.n<q6/\q9.b.length*q5<=q2)->(((¬q8.num=q9.num\/¬q8.wire=q9.wire)\/¬(↑q8.n.n:Int)=(↑q9.n.n:Int))\/¬Str.mk q8.b=Str.mk q9.b->false=r0)/\((q7/\(↑q8.n.n:Int)=(↑q9.n.n:Int))/\Str.mk q8.b=Str.mk q9.b->I64 (q10+(1:Int))/\∃ (s':Nat),(a=a/\b=b/\q10+(1:Int)=(↑s':Int))/\(s' <= a.length/\List.take s' a=List.take s' b)/\a.length - s' < a.length - s)))/\(q1<=q10->true=r0)) (q8.num=q9.num/\q8.wire=q9.wire)) (a.getD s q0)) (b.getD s q0)) (↑s:Int))) (aC (Sh.nm NT.field))) (↑a.length:Int)) (140737488355328:Nat)) (↑b.length:Int)) (0:Int)) (1:Nat)) (18446744073709551616:Nat)):=by kernel_rfl
theorem Av (a:List Field) (b:List Field):Sat Try.prog (ai aK) 11 [.c (.fz (.nm .field) (a)),.c (.fz (.nm .field) (b))] [] ⟨[],[.c (.bool (.atom ((decide (a=b)))))],none,false⟩:=by
 refine aS fH (vT a b) Try.func11 (by decide) (by kernel_rfl) ?_
 rw [zu]
 (repeat' (first | with_reducible refine And.intro ?_ ?_ | with_reducible refine and_imp.2 ?_ | intro))
 all_goals try (first | (first | with_reducible rfl | with_reducible assumption | omega | (refine ag ?_ ?_ <;> omega)) | exact rfl | exact (kK (by with_reducible assumption)) | exact (BB (k:=‹Nat›) (by omega) (by omega) (by assumption)) | exact (CS (by with_reducible assumption) (by omega) (by omega) (by with_reducible assumption) (by with_reducible assumption) (by with_reducible assumption) (by with_reducible assumption)) | exact (k_ (by with_reducible assumption) (by omega) (by omega)))
 all_goals try (refine ⟨0,?_⟩; (repeat' (first | with_reducible refine And.intro ?_ ?_ | with_reducible refine and_imp.2 ?_ | intro)))
 all_goals try (first | (first | with_reducible rfl | with_reducible assumption | omega | (refine ag ?_ ?_ <;> omega)) | exact rfl | exact (kK (by with_reducible assumption)) | exact (BB (k:=‹Nat›) (by omega) (by omega) (by assumption)) | exact (CS (by with_reducible assumption) (by omega) (by omega) (by with_reducible assumption) (by with_reducible assumption) (by with_reducible assumption) (by with_reducible assumption)) | exact (k_ (by with_reducible assumption) (by omega) (by omega)))
 all_goals try (refine ⟨‹Nat› + 1,?_⟩; (repeat' (first | with_reducible refine And.intro ?_ ?_ | with_reducible refine and_imp.2 ?_ | intro)))
 all_goals (first | (first | with_reducible rfl | with_reducible assumption | omega | (refine ag ?_ ?_ <;> omega)) | exact rfl | exact (kK (by with_reducible assumption)) | exact (BB (k:=‹Nat›) (by omega) (by omega) (by assumption)) | exact (CS (by with_reducible assumption) (by omega) (by omega) (by with_reducible assumption) (by with_reducible assumption) (by with_reducible assumption) (by with_reducible assumption)) | exact (k_ (by with_reducible assumption) (by omega) (by omega)))
theorem BO (c:Command) (r0:Command):dp aK qS [] Try.f12 [.agg (cellsOf (.nm .command) c)] [] [.agg (cellsOf (.nm .command) r0)]=((fun (q10:Prop)=>(fun (q9:Prop)=>(fun (q8:Prop)=>(fun (q7:Prop)=>(fun (q6:Nat)=>(fun (q5:Prop)=>(fun (q4:Prop)=>(fun (q3:Int)=>(fun (q2:Prop)=>(fun (q1:Prop)=>(fun (q0:Int)=>I64 c.kind->I64 c.client->I64 c.seq->I64 c.set->I64 c.id->I64 c.n->q6*(8:Nat)<=(140737488355328:Nat)->c.text.b.length<=(140737488355328:Nat)->((12:Int)<(↑q6:Int)->(0:Int)<=(12:Int)/\(12:Int)<=(↑q6:Int)/\(q3<q0->(0:Int)<=q3/\q3<=q0/\q2/\q1/\q4/\q5/\q7/\q10/\q9/\q8)/\(q0<=q3->q2/\q1/\q4/\q5/\q7/\q10/\q9/\c.text=r0.text))/\((↑q6:Int)<=(12:Int)->(q3<q0->(0:Int)<=q3/\q3<=q0/\q2/\q1/\q4/\q5/\q7/\q10/\c.chunks=r0.chunks/\q8)/\(q0<=q3->q2/\q1/\q4/\q5/\q7/\q10/\c.chunks=r0.chunks/\c.text=r0.text))) (↑c.text.b.length:Int)) (c.client=r0.client)) (c.kind=r0.kind)) (40:Int)) (c.seq=r0.seq)) (c.set=r0.set)) c.chunks.length) (c.id=r0.id)) (Str.mk (List.take (40:Nat) c.text.b)=r0.text)) (List.take (12:Nat) c.chunks=r0.chunks)) (c.n=r0.n)):=by kernel_rfl
theorem BU (c:Command):Sat Try.prog (ai aK) 12 [.agg (cellsOf (.nm .command) c)] [] ⟨[],[.agg (cellsOf (.nm .command) (jB c))],none,false⟩:=by
 refine aS fH [] Try.func12 (by decide) (by kernel_rfl) ?_
 rw [BO]
 simp only [jB,Str.cut]; (repeat' (first | refine And.intro ?_ ?_ | intro)) <;> first | trivial | rfl | omega | (symm; exact List.take_of_length_le (by omega)) | exact wC (by omega)
theorem xy  (r0:Bool):dp aK qS [] Try.f6 [] [] [.c (.bool (.atom (r0)))]=((fun (q2:Int)=>(fun (q1:Str)=>(fun (q0:Command)=>(0:Nat)<=(20000:Nat)/\(I64 (bm q0 [] (1:Int))->(Str.mk (aP q0 [] (1:Int))=q1/\bm q0 [] (1:Int)=q2->I64 (bl (11:Int)))->(decide (Str.mk (aP q0 [] (1:Int))=q1) && decide (bm q0 [] (1:Int)=q2) && decide (bl (11:Int)=(3:Int)))=r0)) (Command.mk (8:Int) q2 q2 q2 q2 (2:Int) [] (Str.mk []))) (Str.mk [UInt8.ofNat (8:Nat),UInt8.ofNat (8:Nat),UInt8.ofNat (48:Nat),UInt8.ofNat (2:Nat)])) (0:Int)):=by kernel_rfl
theorem vF :Sat Try.prog (ai aK) 6 [] [] ⟨[],[.c (.bool (.atom ((true))))],none,false⟩:=by
 refine aS fH [] Try.func6 (by decide) (by kernel_rfl) ?_
 rw [xy]
 (repeat' (first | with_reducible refine And.intro ?_ ?_ | with_reducible refine and_imp.2 ?_ | intro))
 all_goals (first | (first | with_reducible rfl | with_reducible assumption | omega | (refine ag ?_ ?_ <;> omega)) | decide +kernel)
noncomputable def DY:cz:=(cD 6 (cj ba bb fun (_) (_)=>⟨[],[.c (.bool (.atom ((true))))],none,false⟩) (cD 12 (cj (ak (kT (.nm .command)) ba) bb fun (c,_) (_)=>⟨[],[.agg (cellsOf (.nm .command) (jB c))],none,false⟩) (cD 11 (cj (ak (kC (cL (.nm .field))) (ak (kC (cL (.nm .field))) ba)) bb fun (a,b,_) (_)=>⟨[],[.c (.bool (.atom ((decide (a=b)))))],none,false⟩) (cD 13 (cj (ak (kC (cL (.nm .field))) ba) bb fun (l,_) (_)=>⟨[],[.c (.fz (.nm .field) ((dO l)))],none,false⟩) (cD 8 (cj (ak (kC (cL .u8)) (ak (kC cI) ba)) bb fun (b,v,_) (_)=>⟨[],[.agg (cellsOf (.nm .command) ((ah b v).c)),.c (.fz (.nm .field) (((ah b v).r))),.c (.int (((ah b v).e)))],none,false⟩) qS)))))
theorem yj:aT Try.prog (ai aK) DY:=(aw (av ao al fun (_) (_) _=>vF  ) (aw (av (ab cF ao) al fun (c,_) (_) _=>BU c ) (aw (av (ab (ax bA) (ab (ax bA) ao)) al fun (a,b,_) (_) _=>Av a b ) (aw (av (ab (ax bA) ao) al fun (l,_) (_) _=>Az l ) (aw (av (ab (ax bA) (ab (ax bh) ao)) al fun (b,v,_) (_) _=>zC b v ) fH)))))
end Go.Proofs.Ytladifkbefehdaa
namespace Go.Proofs.Ytladifkbefehdaa
open Go.RowKit
theorem tV (l:List Field):(dR l).length<=16384:=by
 unfold dR
 split
 ·rename_i h; have:=fu (k:=l.length) h; rw [List.take_length] at this; exact this
 ·exact Nat.zero_le _
theorem tN (c:Command) (r:List Field) (v:Int):(aP c r v).length<=16384:=by
 unfold aP
 split
 ·exact tV _
 ·exact Nat.zero_le _
theorem EK (k:UInt8):0<=((k.toNat:Nat):Int).tmod 3/\((k.toNat:Nat):Int).tmod 3<=2:=by
 rw [Int.tmod_eq_emod_of_nonneg (by omega)]; omega
theorem BQ {c:Command} (h1:I64 c.kind) (h2:I64 c.client) (h3:I64 c.seq) (h4:I64 c.set) (h5:I64 c.id) (h6:I64 c.n):I6 (jB c):=⟨h1.2,h2.2,h3.2,h4.2,h5.2,h6.2⟩
theorem Gy {c:Command} {l:List Field} {v:Int} (hi:I6 (jB c)) (h:bm (jB c) (dO l) v=0) (h2:(¬ (ah (aP (jB c) (dO l) v) v).e=0\/decide (jB c=(ah (aP (jB c) (dO l) v) v).c)=false)\/decide (dO l=(ah (aP (jB c) (dO l) v) v).r)=false):false=true:=by
 rw [vB h hi (AA l)] at h2; simp at h2
theorem GN {b:List UInt8} {v:Int} (h:¬ (ah b v).e=0):(true && decide ((ah b v).c.kind=0) && decide (((ah b v).r.length:Int)=0))=true:=by
 unfold ah at h ⊢
 split
 ·rename_i h1; rw [if_pos h1] at h
  split
  ·rename_i h2; rw [if_pos h2] at h
   split
   ·rename_i h3; rw [if_pos h3] at h; exact absurd rfl h
   ·rfl
  ·rfl
 ·rfl
theorem GA {b:List UInt8} {v:Int} (h:(ah b v).e=0):ah b v=⟨bc (bG (aI b).1 (aQ v)),bN (aI b).1 (aQ v),0⟩/\bm (ah b v).c (ah b v).r v=0/\aP (ah b v).c (ah b v).r v=b:=by
 by_cases h1:1<=v/\v<=3
 ·by_cases h2:eT b v=0
  ·by_cases h3:bm (bc (bG (aI b).1 (aQ v))) (bN (aI b).1 (aQ v)) v=0/\aP (bc (bG (aI b).1 (aQ v))) (bN (aI b).1 (aQ v)) v=b
   ·rw [BR h1 h2 h3]; exact ⟨rfl,h3.1,h3.2⟩
   ·rw [DI h1 h2 (by by_cases h4:bm (bc (bG (aI b).1 (aQ v))) (bN (aI b).1 (aQ v)) v=0; exact .inr fun h5=>h3 ⟨h4,h5⟩; exact .inl h4)] at h; cases h
  ·rw [CY h1 h2] at h; exact absurd h h2
 ·rw [DO h1] at h; cases h
theorem GG {b:List UInt8} {v:Int}:(ah b v).r.length<=16384:=by
 have h1:=hL (aI b).1 (aQ v)
 have h2:=sf b
 unfold ah
 split
 ·split
  ·split
   ·exact Nat.le_trans h1 h2
   ·exact Nat.zero_le _
  ·exact Nat.zero_le _
 ·exact Nat.zero_le _
theorem GC {b:List UInt8} {v:Int} (h:(ah b v).e=0):(true && decide (bm (ah b v).c (ah b v).r v=0) && decide (Str.mk (aP (ah b v).c (ah b v).r v)=Str.mk b))=true:=by
 obtain ⟨_,h2,h3⟩:=GA h
 rw [h2,h3]; simp
theorem Al (c:Command) (y:Rest) (l:List UInt8) (r0:Bool):dp aK DY [] Try.f4 [.agg (cellsOf (.nm .command) c),.agg (cellsOf (.nm .rest) y),.c (.fz .u8 (l))] [] [.c (.bool (.atom (r0)))]=((fun (q5:Int)=>(fun (q4:Command)=>(fun (q3:Nat)=>(fun (q2:List Field)=>(fun (q1:List (den Sh.u8))=>(fun (q0:Int)=>I64 c.kind->I64 c.client->I64 c.seq->I64 c.set->I64 c.id->I64 c.n->c.chunks.length*(8:Nat)<=q3->c.text.b.length<=q3->y.fields.length*(48:Nat)<=q3->l.length*(1:Nat)<=q3->I64 q4.kind->I64 q4.client->I64 q4.seq->I64 q4.set->I64 q4.id->I64 q4.n->q4.chunks.length*(8:Nat)<=q3->q4.text.b.length<=q3->q5<=(↑y.at_.toNat:Int)/\q5<(3:Int)/\I64 q0/\(q2.length*(48:Nat)<=q3->q1.length*(1:Nat)<=q3->q2.length<=(20000:Nat)/\(I64 (bm q4 q2 q0)->(bm q4 q2 q0=q5->(aP q4 q2 q0).length*(1:Nat)<=q3/\(I64 (ah (aP q4 q2 q0) q0).c.kind->I64 (ah (aP q4 q2 q0) q0).c.client->I64 (ah (aP q4 q2 q0) q0).c.seq->I64 (ah (aP q4 q2 q0) q0).c.set->I64 (ah (aP q4 q2 q0) q0).c.id->I64 (ah (aP q4 q2 q0) q0).c.n->(ah (aP q4 q2 q0) q0).c.chunks.length*(8:Nat)<=q3->(ah (aP q4 q2 q0) q0).c.text.b.length<=q3->(ah (aP q4 q2 q0) q0).r.length*(48:Nat)<=q3->I64 (ah (aP q4 q2 q0) q0).e->((¬(ah (aP q4 q2 q0) q0).e=q5\/decide (q4=(ah (aP q4 q2 q0) q0).c)=false)\/decide (q2=(ah (aP q4 q2 q0) q0).r)=false->false=r0)/\(((ah (aP q4 q2 q0) q0).e=q5/\decide (q4=(ah (aP q4 q2 q0) q0).c)=true)/\decide (q2=(ah (aP q4 q2 q0) q0).r)=true->q1.length*(1:Nat)<=q3/\(I64 (ah q1 q0).c.kind->I64 (ah q1 q0).c.client->I64 (ah q1 q0).c.seq->I64 (ah q1 q0).c.set->I64 (ah q1 q0).c.id->I64 (ah q1 q0).c.n->(ah q1 q0).c.chunks.length*(8:Nat)<=q3->(ah q1 q0).c.text.b.length<=q3->(ah q1 q0).r.length*(48:Nat)<=q3->I64 (ah q1 q0).e->(¬(ah q1 q0).e=q5->(true && decide ((ah q1 q0).c.kind=q5) && decide ((↑(ah q1 q0).r.length:Int)=q5))=r0)/\((ah q1 q0).e=q5->(ah q1 q0).r.length<=(20000:Nat)/\(I64 (bm (ah q1 q0).c (ah q1 q0).r q0)->(true && decide (bm (ah q1 q0).c (ah q1 q0).r q0=q5) && decide (Str.mk (aP (ah q1 q0).c (ah q1 q0).r q0)=Str.mk q1))=r0))))))/\(¬bm q4 q2 q0=q5->q1.length*(1:Nat)<=q3/\(I64 (ah q1 q0).c.kind->I64 (ah q1 q0).c.client->I64 (ah q1 q0).c.seq->I64 (ah q1 q0).c.set->I64 (ah q1 q0).c.id->I64 (ah q1 q0).c.n->(ah q1 q0).c.chunks.length*(8:Nat)<=q3->(ah q1 q0).c.text.b.length<=q3->(ah q1 q0).r.length*(48:Nat)<=q3->I64 (ah q1 q0).e->(¬(ah q1 q0).e=q5->(true && decide ((ah q1 q0).c.kind=q5) && decide ((↑(ah q1 q0).r.length:Int)=q5))=r0)/\((ah q1 q0).e=q5->(ah q1 q0).r.length<=(20000:Nat)/\(I64 (bm (ah q1 q0).c (ah q1 q0).r q0)->(true && decide (bm (ah q1 q0).c (ah q1 q0).r q0=q5) && decide (Str.mk (aP (ah q1 q0).c (ah q1 q0).r q0)=Str.mk q1))=r0))))))) ((1:Int)+(↑y.at_.toNat:Int).tmod (3:Int))) (List.take (3000:Nat) l)) (dO y.fields)) (140737488355328:Nat)) (jB c)) (0:Int)):=by kernel_rfl
theorem zM (c:Command) (y:Rest) (l:List UInt8):Sat Try.prog (ai aK) 4 [.agg (cellsOf (.nm .command) c),.agg (cellsOf (.nm .rest) y),.c (.fz .u8 (l))] [] ⟨[],[.c (.bool (.atom ((true))))],none,false⟩:=by
 refine aS yj [] Try.func4 (by decide) (by kernel_rfl) ?_
 rw [Al]
 (repeat' (first | with_reducible refine And.intro ?_ ?_ | with_reducible refine and_imp.2 ?_ | intro))
 all_goals (first | (first | with_reducible rfl | with_reducible assumption | omega | (refine ag ?_ ?_ <;> omega)) | exact (Gy (c:=c) (l:=y.fields) (BQ (c:=c) (by with_reducible assumption) (by with_reducible assumption) (by with_reducible assumption) (by with_reducible assumption) (by with_reducible assumption) (by with_reducible assumption)) (by with_reducible assumption) (by assumption)) | exact (GN (by with_reducible assumption)) | exact (GC (by with_reducible assumption)) | (have h1:=EK y.at_; have h2:=tN (jB c) (dO y.fields) (1+((y.at_.toNat:Nat):Int).tmod 3); have h3:=tU y.fields; have h4:=GG (b:=l.take 3000) (v:=1+((y.at_.toNat:Nat):Int).tmod 3); have h5:=List.length_take_le 3000 l; first | omega | (refine ag ?_ ?_ <;> omega)))
end Go.Proofs.Ytladifkbefehdaa
