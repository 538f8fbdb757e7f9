/- The law: for every input it returns true, and each argument reads behind the call as it read before; and what leads there. Conditions: each lemma's own. -/
import Derived.ProofKit
import Derived.SizedLaws
import Derived.Test.YtdggohppeeaipaaGreatChecked
import Derived.Test.YtdggohppeeaipaaGreatRows
import Derived.Test.YtdggohppeeaipaaGreatKMM5
set_option linter.unusedVariables false
set_option linter.unusedSimpArgs false
namespace Go.Proofs.YtdggohppeeaipaaGreat
open Go.RowKit
section
variable {α:Type} {key:α->Int} {most:Int}
theorem zU {l:List α} {i:Nat} {x y:α} (h:y ∈ l):y ∈ fG l i x:=by
 unfold fG
 rw [<- List.take_append_drop i l] at h
 rcases List.mem_append.1 h with h | h
 ·exact List.mem_append.2 (.inl h)
 ·exact List.mem_append.2 (.inr (List.mem_cons_of_mem _ h))
theorem Ch {l:List α} {i:Nat} {x:α}:l.length<=(fG l i x).length:=by
 unfold fG; rw [List.length_append,List.length_cons,List.length_take,List.length_drop]; omega
end
structure DoOk (s:State) (c:Command) (r:State × Reply):Prop where
 may:mayF r.1 r.1.version=0
 ver:r.1.version=if c.kind=8/\r.2.code=0 then s.version+1 else s.version
 nxt:s.next<=r.1.next/\r.1.next<=s.next+1
 len:s.sess.length<=r.1.sess.length
 seq:∀ x ∈ s.sess,∃ y ∈ r.1.sess,y.client=x.client/\x.seq<=y.seq/\y.seq<=x.seq+1
theorem lu {s:State} (c:Command) {r:Reply} (M:mayF s s.version=0) (h:c.kind=8->¬ r.code=0):DoOk s c (s,r):=
 ⟨M,(if_neg fun hc=>h hc.1 hc.2).symm,⟨Int.le_refl _,by dsimp only; omega⟩,Nat.le_refl _,fun x hx=>⟨x,hx,rfl,Int.le_refl _,by omega⟩⟩
theorem Ij {s:State} {c:Command} (M:mayF s s.version=0):DoOk s c (cY s c):=by
 by_cases h:bh c s.version=0
 ·by_cases k8:c.kind=8
  ·by_cases hn:c.n=s.version+1
   ·have e:cY s c=(State.mk c.n s.next s.keep s.quota s.sess s.opens s.snaps,⟨0,c.n⟩):=CC (nG M h) k8 hn
    rw [e]
    exact ⟨By M h k8 hn,(hn.trans (if_pos ⟨k8,rfl⟩).symm:_),⟨Int.le_refl _,by dsimp only; omega⟩,Nat.le_refl _,fun x hx=>⟨x,hx,rfl,Int.le_refl _,by omega⟩⟩
   ·rw [DI (nG M h) k8 hn]; exact lu c M fun _=>by decide
  ·by_cases k1:c.kind=1
   ·by_cases hp:0<=ai Sess.client c.client s.sess
    ·rw [wa (nG M h) k1 hp]; exact lu c M fun k=>absurd k k8
    ·have hp:ai Sess.client c.client s.sess<0:=by omega
     rw [xd (nG M h) k1 hp]
     exact ⟨Dx M h k1 hp,(if_neg fun hc=>k8 hc.1).symm,⟨Int.le_refl _,by dsimp only; omega⟩,Ch,fun x hx=>⟨x,zU hx,rfl,Int.le_refl _,by omega⟩⟩
   ·by_cases hq:0<=ai Sess.client c.client s.sess/\c.seq=(s.sess.getD (ai Sess.client c.client s.sess).toNat (dflt (.nm .sess))).seq+1
    ·obtain ⟨hk,hq⟩:=hq
     rw [pZ M h k8 k1 hk hq]
     obtain ⟨a1,a2,a3,a4,a5⟩:=AB (c:=c) M
     have hl:=bI hk
     have hn:(ai Sess.client c.client s.sess).toNat<s.sess.length:=by omega
     refine ⟨AT M h k8 k1 hk,a2.trans (if_neg fun hc=>k8 hc.1).symm,a3,by dsimp only; rw [List.length_set]; exact Nat.le_refl _,fun x hx=>?_⟩
     dsimp only
     generalize (ai Sess.client c.client s.sess).toNat=n at *
     obtain ⟨j,hj,rfl⟩:=List.getElem_of_mem hx
     by_cases hjn:j=n
     ·refine ⟨_,List.mem_set hn _,?_⟩
      rw [List.getD_eq_getElem?_getD,List.getElem?_eq_getElem hn,Option.getD_some] at hq ⊢
      subst hjn
      exact ⟨rfl,by dsimp only; omega,by dsimp only; omega⟩
     ·exact ⟨s.sess[j],List.mem_of_getElem? (i:=j) (by rw [List.getElem?_set_ne (fun hc=>hjn hc.symm),List.getElem?_eq_getElem hj]),rfl,Int.le_refl _,by omega⟩
    ·have e:=DZ M h k8 k1 (by
      by_cases hk:ai Sess.client c.client s.sess<0
      ·exact .inl hk
      ·exact .inr fun hc=>hq ⟨by omega,hc⟩)
     have e2:cY s c=(s,(cY s c).2):=Prod.ext e rfl
     rw [e2]; exact lu c M fun k=>absurd k k8
 ·rw [Je M h]; exact lu c M fun _=>h
end Go.Proofs.YtdggohppeeaipaaGreat
namespace Go.Proofs.YtdggohppeeaipaaGreat
open Go.RowKit
section
variable {s:State} {c:Command}
end
end Go.Proofs.YtdggohppeeaipaaGreat
namespace Go.Proofs.YtdggohppeeaipaaGreat
open Go.RowKit
section
variable {α:Type} {key:α->Int} {most:Int}
end
section
variable {s:State} {x:Snap} {i:Nat}
end
section
variable {s:State} {x:Snap} {i:Nat}
end
section
variable {s:State} {x:Snap} {i:Nat}
end
end Go.Proofs.YtdggohppeeaipaaGreat
namespace Go.Proofs.YtdggohppeeaipaaGreat
open Go.RowKit
def keepsX (s:State) (c:Command) (r:State × Reply) (i:Nat) (x:Snap):Prop:=
 (ai Snap.id x.id r.1.snaps<0/\c.kind=5/\c.id=x.id/\x.held=false/\fY s i=false/\r.2.code=0) \/
 (0<=ai Snap.id x.id r.1.snaps/\∃ y,r.1.snaps.getD (ai Snap.id x.id r.1.snaps).toNat (dflt (.nm .snap))=y/\y.chunks=x.chunks/\y.set=x.set/\(y.held=x.held\/c.kind=9\/c.kind=10)/\(y.tag=x.tag\/c.kind=11))
structure KeepOk (s:State) (c:Command) (r:State × Reply):Prop where
 x:∀ i x,s.snaps[i]? = some x->keepsX s c r i x
 more:r.1.snaps.length<=s.snaps.length\/(r.1.snaps.length=s.snaps.length+1/\c.kind=3/\r.2.code=0/\(r.1.snaps.getD s.snaps.length (dflt (.nm .snap))).id=r.2.n/\(s.quota=0\/(distF r.1.snaps:Int)<=s.quota))
section
variable {s:State} {c:Command} {k:Nat}
end
end Go.Proofs.YtdggohppeeaipaaGreat
namespace Go.Proofs.YtdggohppeeaipaaGreat
open Go.RowKit
section
variable {α:Type} {key:α->Int} {most:Int}
end
section
variable {s:State} {c:Command}
end
end Go.Proofs.YtdggohppeeaipaaGreat
namespace Go.Proofs.YtdggohppeeaipaaGreat
open Go.RowKit
def cz (s:State) (v:Int):State × Int:=if aQ v 1 3=false\/¬ mayF s s.version=0 then (⟨0,0,0,0,[],[],[]⟩,1) else if v<s.version then (⟨0,0,0,0,[],[],[]⟩,32) else (State.mk v s.next s.keep s.quota s.sess s.opens s.snaps,0)
def fp (s:State) (v:Int):State:=State.mk v s.next s.keep s.quota s.sess s.opens s.snaps
theorem oL {s:State} {v:Int} (M:mayF s s.version=0) (h1:s.version<=v) (h2:v<=3):mayF (fp s v) v=0:=by
 obtain ⟨k1,k2,k3,k4,k5⟩:=bM M
 obtain ⟨n1,n2,n3,n4⟩:=eV k2
 obtain ⟨s1,s2,s3⟩:=eN M
 have v1:=lf n1
 have hq:=lf n4
 refine jY (sX (by omega) h2) (lJ (sX (by show 1<=v; omega) h2) n2 n3 ?_) k3 k4 (jR s1 s2 fun x hx=>?_)
 ·show aQ s.quota 0 (if v<3 then 0 else 64)=true
  refine sX hq.1 ?_
  have:=hq.2
  split at this <;> split <;> omega
 ·obtain ⟨p1,p2,p3,p4⟩:=fJ (s3 x hx)
  refine jq p1 p2 (p3.imp id fun h=>by omega) (Int.le_trans p4 ?_)
  unfold cG; split <;> split <;> omega
theorem uY {c:Command} {u v:Int} (h:bh c u=0) (h1:u<=v) (h2:v<=3):bh c v=0:=by
 obtain ⟨⟨v1,v2⟩,n0,nv,F⟩:=dL h
 have e:(!(aQ v 1 3) || decide (bC c.kind=0))=false:=by rw [sX (n:=v) (a:=1) (b:=3) (by omega) h2,decide_eq_false n0]; rfl
 unfold bh
 rw [e,if_neg (by decide),if_neg (by omega),F]; rfl
theorem Fo {s:State} {v:Int} (h:(cz s v).2=0):(1<=v/\v<=3)/\mayF s s.version=0/\s.version<=v/\(cz s v).1=fp s v:=by
 unfold cz at h ⊢
 split at h
 ·cases h
 ·rename_i h1
  split at h
  ·cases h
  ·rename_i h2
   have h3:aQ v 1 3=true:=by
    rcases hb:aQ v 1 3 with _ | _
    ·exact absurd (.inl hb) h1
    ·rfl
   have h4:mayF s s.version=0:=Classical.not_not.1 fun h=>h1 (.inr h)
   rw [if_neg h1,if_neg h2]
   exact ⟨lf h3,h4,by omega,rfl⟩
theorem GI {s:State} {v:Int} (M:mayF s s.version=0) (h1:s.version<=v) (h2:v<=3):cz s v=(fp s v,0):=by
 have v1:=lf (bM M).1
 have h3:aQ v 1 3=true:=sX (by omega) h2
 unfold cz
 rw [if_neg (fun h=>by rcases h with h | h; rw [h3] at h; cases h; exact h M),if_neg (by omega)]; rfl
theorem FZ {s:State} {c:Command} (v:Int):nB (fp s v) c=(fp (nB s c).1 v,(nB s c).2):=by
 have sd:∀ {f:State->Nat->State × Reply},(∀ n,f (fp s v) n=(fp (f s n).1 v,(f s n).2))->ax f c (fp s v)=(fp (ax f c s).1 v,(ax f c s).2):=fun {f} h=>by
  unfold ax
  rw [show (fp s v).snaps=s.snaps from rfl]
  split
  ·rfl
  ·exact h _
 unfold nB
 split
 ·exact sd fun n=>rfl
 split
 ·exact sd fun n=>by unfold bq; rw [show (fp s v).snaps=s.snaps from rfl]; split <;> rfl
 split
 ·exact sd fun n=>by unfold bq; rw [show (fp s v).snaps=s.snaps from rfl]; split <;> rfl
 split
 ·exact sd fun n=>rfl
 split
 ·exact sd fun n=>by
   unfold aK; rw [show (fp s v).snaps=s.snaps from rfl,show fY (fp s v) n=fY s n from rfl]; split
   ·rfl
   ·split <;> rfl
 split
 ·rfl
 split
 ·rfl
 split
 ·unfold a_; rw [show bp (fp s v) c=bp s c from rfl]; split <;> rfl
 split
 ·unfold aS; rw [show bp (fp s v) c=bp s c from rfl]; split
  ·rfl
  ·rw [show (fp s v).snaps=s.snaps from rfl,show (fp s v).next=s.next from rfl,show (fp s v).quota=s.quota from rfl]
   split
   ·rfl
   ·split <;> rfl
 split
 ·unfold aW; rw [show (fp s v).opens=s.opens from rfl]; split <;> rfl
 ·rfl
theorem Fv {s:State} {c:Command} {v:Int} (M:mayF s s.version=0) (h:bh c s.version=0) (h1:s.version<=v) (h2:v<=3):bz (fp s v) c=(fp (bz s c).1 v,(bz s c).2):=by
 rw [DR (nG M h),DR (s:=fp s v) (nG (s:=fp s v) (oL M h1 h2) (uY h h1 h2))]
 exact FZ v
theorem Hx {s:State} {c:Command} {v:Int} (M:mayF s s.version=0) (h:bh c s.version=0) (h1:s.version<=v) (h2:v<=3) (k8:¬ c.kind=8):cY (fp s v) c=(fp (cY s c).1 v,(cY s c).2):=by
 have m1:=nG M h
 have M2:mayF (fp s v) (fp s v).version=0:=oL M h1 h2
 have C2:bh c (fp s v).version=0:=uY h h1 h2
 have m2:=nG M2 C2
 by_cases k1:c.kind=1
 ·by_cases hp:0<=ai Sess.client c.client s.sess
  ·rw [wa m1 k1 hp,wa (s:=fp s v) m2 k1 hp]
  ·rw [xd m1 k1 (by omega),xd (s:=fp s v) m2 k1 (by show ai Sess.client c.client s.sess<0; omega)]; rfl
 ·by_cases hk:0<=ai Sess.client c.client s.sess
  ·by_cases e1:c.seq=(s.sess.getD (ai Sess.client c.client s.sess).toNat (dflt (.nm .sess))).seq
   ·rw [xA m1 k8 k1,xA (s:=fp s v) m2 k8 k1]
    have a:=IH (v:=s.version) (nx:=s.next) (kp:=s.keep) (qt:=s.quota) (op:=s.opens) (sn:=s.snaps) hk e1
    have b:=IH (v:=v) (nx:=s.next) (kp:=s.keep) (qt:=s.quota) (op:=s.opens) (sn:=s.snaps) hk e1
    exact b.trans (congrArg (fun r:State × Reply=>(fp r.1 v,r.2)) a).symm
   ·by_cases e2:c.seq<(s.sess.getD (ai Sess.client c.client s.sess).toNat (dflt (.nm .sess))).seq
    ·rw [xA m1 k8 k1,xA (s:=fp s v) m2 k8 k1]
     have a:=IU (v:=s.version) (nx:=s.next) (kp:=s.keep) (qt:=s.quota) (op:=s.opens) (sn:=s.snaps) hk e1 e2
     have b:=IU (v:=v) (nx:=s.next) (kp:=s.keep) (qt:=s.quota) (op:=s.opens) (sn:=s.snaps) hk e1 e2
     exact b.trans (congrArg (fun r:State × Reply=>(fp r.1 v,r.2)) a).symm
    ·by_cases e3:(s.sess.getD (ai Sess.client c.client s.sess).toNat (dflt (.nm .sess))).seq+1<c.seq
     ·rw [xA m1 k8 k1,xA (s:=fp s v) m2 k8 k1]
      have a:=II (v:=s.version) (nx:=s.next) (kp:=s.keep) (qt:=s.quota) (op:=s.opens) (sn:=s.snaps) hk e1 (by omega) e3
      have b:=II (v:=v) (nx:=s.next) (kp:=s.keep) (qt:=s.quota) (op:=s.opens) (sn:=s.snaps) hk e1 (by omega) e3
      exact b.trans (congrArg (fun r:State × Reply=>(fp r.1 v,r.2)) a).symm
     ·have a:=pZ M h k8 k1 hk (by omega)
      have b:=pZ (s:=fp s v) M2 C2 k8 k1 hk (by show c.seq=(s.sess.getD (ai Sess.client c.client s.sess).toNat (dflt (.nm .sess))).seq+1; omega)
      rw [Fv M h h1 h2] at b
      rw [a,b]; rfl
  ·rw [xA m1 k8 k1,xA (s:=fp s v) m2 k8 k1]
   have a:=IX (v:=s.version) (nx:=s.next) (kp:=s.keep) (qt:=s.quota) (op:=s.opens) (sn:=s.snaps) (c:=c) (se:=s.sess) (by omega)
   have b:=IX (v:=v) (nx:=s.next) (kp:=s.keep) (qt:=s.quota) (op:=s.opens) (sn:=s.snaps) (c:=c) (se:=s.sess) (by omega)
   exact b.trans (congrArg (fun r:State × Reply=>(fp r.1 v,r.2)) a).symm
theorem Ap {s:State} {c:Command} {v:Int} (hu:(cz s v).2=0) (k8:¬ c.kind=8) (h:bh c s.version=0) :
  (cz (cY s c).1 v).2=0/\(cY (cz s v).1 c).2=(cY s c).2/\(cY (cz s v).1 c).1=(cz (cY s c).1 v).1/\mayF (cz s v).1 v=0/\mayF (cz (cY s c).1 v).1 v=0:=by
 obtain ⟨⟨v1,v2⟩,M,h1,e⟩:=Fo hu
 have D:=Ij (c:=c) M
 have hv:(cY s c).1.version=s.version:=by rw [D.ver,if_neg (fun h=>k8 h.1)]
 have e2:=GI (s:=(cY s c).1) (v:=v) D.may (by omega) v2
 rw [e,Hx M h h1 v2 k8,e2]
 exact ⟨rfl,rfl,rfl,oL M h1 v2,oL D.may (by omega) v2⟩
end Go.Proofs.YtdggohppeeaipaaGreat
namespace Go.Proofs.YtdggohppeeaipaaGreat
open Go.RowKit
section
variable {α:Type} {key:α->Int} {x y d:α}
variable {l:List α} {k:Nat}
end
def Eh:cC:=Ez
theorem BM:aX Tryz.prog (au aF) Eh:=zO
end Go.Proofs.YtdggohppeeaipaaGreat
namespace Go.Proofs.YtdggohppeeaipaaGreat
open Go.RowKit
section
variable {st:State} {c:Command}
variable {i:Int} {x:Snap}
end
def EL:cC:=Eh
theorem yy:aX Tryz.prog (au aF) EL:=BM
end Go.Proofs.YtdggohppeeaipaaGreat
namespace Go.Proofs.YtdggohppeeaipaaGreat
open Go.RowKit
section
variable {st:State} {c:Command}
end
def EI:cC:=EL
theorem ya:aX Tryz.prog (au aF) EI:=yy
end Go.Proofs.YtdggohppeeaipaaGreat
namespace Go.Proofs.YtdggohppeeaipaaGreat
open Go.RowKit
section
variable {st:State} {c:Command}
end
def yD:cC:=EI
theorem rP:aX Tryz.prog (au aF) yD:=ya
end Go.Proofs.YtdggohppeeaipaaGreat
namespace Go.Proofs.YtdggohppeeaipaaGreat
open Go.RowKit
def pa (l:List Int):Int:=match l.findIdx? (fun x=>!bc x) with
 | some i=>(i:Int)
 | none=>-1
section
variable {l:List Int} {k:Nat} {x:Int}
theorem ov:pa l=ai (fun x=>if bc x=true then 0 else 1) 1 l:=by
 have e:(fun x=>!bc x)=fun x:Int=>decide ((if bc x=true then (0:Int) else 1)=1):=by
  funext x
  cases bc x <;> rfl
 unfold pa ai; rw [e]; rfl
theorem uq (h:pa (l.take k) = -1) (hx:l[k]? = some x) (hn:(!bc x)=false):pa (l.take (k+1)) = -1:=by
 rw [Bool.not_eq_false'] at hn
 rw [ov] at h ⊢
 exact db h hx (by rw [if_pos hn]; decide)
theorem oK (h:pa (l.take k) = -1) (hx:l[k]? = some x) (hn:(!bc x)=true):(k:Int)=pa l:=by
 rw [Bool.not_eq_true'] at hn
 rw [ov] at h ⊢
 exact cD h hx (by rw [hn]; rfl)
theorem tQ (h:pa (l.take k) = -1) (hk:l.length<=k):-1=pa l:=by rw [List.take_of_length_le hk] at h; exact h.symm
theorem Dd:decide (0<=pa l) = !l.all bc:=by
 cases e:l.findIdx? (fun x=>!bc x) with
 | none=>
  have h:=List.findIdx?_eq_none_iff.1 e
  have:l.all bc=true:=List.all_eq_true.2 fun x hx=>by simpa using h x hx
  unfold pa; rw [e,this]; rfl
 | some i=>
  obtain ⟨hi,hp,_⟩:=List.findIdx?_eq_some_iff_getElem.1 e
  have:l.all bc=false:=by
   rw [List.all_eq_false]
   exact ⟨l[i],List.getElem_mem hi,by simpa using hp⟩
  unfold pa; rw [e,this]
  show decide (0<=(i:Int))=true
  rw [decide_eq_true_eq]; omega
end
theorem Bb (k:Int) (r0:Bool):cM aF yD [] Tryz.f76 [.c (.int (k))] [] [.c (.bool (.atom (r0)))]=(I64 k->(decide ((1:Int)<=k) && decide (k<=(3:Int)))=r0):=by kernel_rfl
theorem Ai (k:Int):Sat Tryz.prog (au aF) 76 [.c (.int (k))] [] ⟨[],[.c (.bool (.atom ((bc k))))],none,false⟩:=by
 refine aR rP [] Tryz.func76 (by decide) (by kernel_rfl) ?_
 rw [Bb]
 grind [bc]
def sD:cC:=(bR 76 (bJ (ah (kC cI) aO) aP fun (k,_) (_)=>⟨[],[.c (.bool (.atom ((bc k))))],none,false⟩) yD)
theorem iR:aX Tryz.prog (au aF) sD:=(az (ay (ab (av aw) al) ao fun (k,_) (_) _=>Ai k ) rP)
end Go.Proofs.YtdggohppeeaipaaGreat
namespace Go.Proofs.YtdggohppeeaipaaGreat
open Go.RowKit
section
variable {st:State} {v:Int}
theorem JN (o:bc v=false\/¬ mayF st st.version=0):cz st v=(⟨0,0,0,0,[],[],[]⟩,1):=if_pos o
theorem Ju (k:bc v=true) (m:mayF st st.version=0) (l:v<st.version):cz st v=(⟨0,0,0,0,[],[],[]⟩,32):=(if_neg fun o=>by rcases o with o | o; rw [show aQ v 1 3=true from k] at o; cases o; exact o m).trans (if_pos l)
theorem IY (k:bc v=true) (m:mayF st st.version=0) (l:st.version<=v):cz st v=(State.mk v st.next st.keep st.quota st.sess st.opens st.snaps,0):=(if_neg fun o=>by rcases o with o | o; rw [show aQ v 1 3=true from k] at o; cases o; exact o m).trans (if_neg (by omega))
end
theorem wy (a:Int) (b:Int) (r0:Int):cM aF sD [] Tryz.f75 [.c (.int (a)),.c (.int (b))] [] [.c (.int (r0))]=(I64 a->I64 b->(bc a=false\/bc b=false->(1:Int)=r0)/\(bc a=true/\bc b=true->(a<b->(32:Int)=r0)/\(b<=a->(0:Int)=r0))):=by kernel_rfl
theorem xe (a:Int) (b:Int):Sat Tryz.prog (au aF) 75 [.c (.int (a)),.c (.int (b))] [] ⟨[],[.c (.int ((jk a b)))],none,false⟩:=by
 refine aR iR [] Tryz.func75 (by decide) (by kernel_rfl) ?_
 rw [wy]
 grind [jk,bc]
theorem yz (n:Int) (r0:Bool):cM aF sD [] Tryz.f107 [.c (.int (n))] [] [.c (.bool (.atom (r0)))]=(I64 n->(!bc n)=r0):=by kernel_rfl
theorem An (n:Int):Sat Tryz.prog (au aF) 107 [.c (.int (n))] [] ⟨[],[.c (.bool (.atom ((!bc n))))],none,false⟩:=by
 refine aR iR [] Tryz.func107 (by decide) (by kernel_rfl) ?_
 rw [yz]
 grind
theorem Hp (st:State) (v:Int) (r0:Int) (r1:Int) (r2:Int) (r3:Int) (r4:Int) (r5:List Sess) (r6:List Opn) (r7:List Snap):tu aF sD [] Tryz.f24 [.agg (cellsOf (.nm .state) st),.c (.int (v))] [] [.agg ([.int (r0),.int (r1),.int (r2),.int (r3),.own 0,.own 1,.own 2]),.c (.int (r4))] [.row 44 (.nm .sess) (r5),.row 77 (.nm .opn) (r6),.row 59 (.nm .snap) (r7)]=((fun (q2:Prop)=>(fun (q1:Int)=>(fun (q0:Int)=>I64 q1->I64 st.next->I64 st.keep->I64 st.quota->st.sess.length*(32:Nat)<=(140737488355328:Nat)->st.opens.length*(16:Nat)<=(140737488355328:Nat)->st.snaps.length*(64:Nat)<=(140737488355328:Nat)->I64 v->(bc v=true->I64 (mayF st q1))->(bc v=false\/¬mayF st q1=q0->q0=r0/\q0=r1/\q0=r2/\q0=r3/\(1:Int)=r4/\q2)/\(bc v=true/\mayF st q1=q0->(v<q1->q0=r0/\q0=r1/\q0=r2/\q0=r3/\(32:Int)=r4/\q2)/\(q1<=v->I64 q1->I64 st.next->I64 st.keep->I64 st.quota->v=r0/\st.next=r1/\st.keep=r2/\st.quota=r3/\q0=r4/\st.sess=r5/\st.opens=r6/\st.snaps=r7))) (0:Int)) st.version) (r5=[]/\r6=[]/\r7=[])):=by kernel_rfl
theorem Hs (st:State) (v:Int):Sat Tryz.prog (au aF) 24 [.agg (cellsOf (.nm .state) st),.c (.int (v))] [] ⟨[],[.agg ([.int (((cz st v).1.version)),.int (((cz st v).1.next)),.int (((cz st v).1.keep)),.int (((cz st v).1.quota)),.own 0,.own 1,.own 2]),.c (.int (((cz st v).2)))],some ([.row 44 (.nm .sess) (((cz st v).1.sess)),.row 77 (.nm .opn) (((cz st v).1.opens)),.row 59 (.nm .snap) (((cz st v).1.snaps))]),true⟩:=by
 refine eA iR [] Tryz.func24 (by decide) (by kernel_rfl) ?_
 rw [Hp]
 (repeat' (first | with_reducible refine And.intro ?_ ?_ | with_reducible refine and_imp.2 ?_ | intro))
 all_goals (first | (first | with_reducible rfl | with_reducible assumption | omega | (refine aq ?_ ?_ <;> omega)) | (rw [JN (by assumption)]; done) | (rw [Ju (by with_reducible assumption) (by with_reducible assumption) (by with_reducible assumption)]; done) | (rw [IY (by with_reducible assumption) (by with_reducible assumption) (by with_reducible assumption)]; done))
def vG:cC:=(bR 24 (bJ (ah (kT (.nm .state)) (ah (kC cI) aO)) aP fun (st,v,_) (_)=>⟨[],[.agg ([.int (((cz st v).1.version)),.int (((cz st v).1.next)),.int (((cz st v).1.keep)),.int (((cz st v).1.quota)),.own 0,.own 1,.own 2]),.c (.int (((cz st v).2)))],some ([.row 44 (.nm .sess) (((cz st v).1.sess)),.row 77 (.nm .opn) (((cz st v).1.opens)),.row 59 (.nm .snap) (((cz st v).1.snaps))]),true⟩) (bR 107 (bJ (ah (kC cI) aO) aP fun (n,_) (_)=>⟨[],[.c (.bool (.atom ((!bc n))))],none,false⟩) (bR 75 (bJ (ah (kC cI) (ah (kC cI) aO)) aP fun (a,b,_) (_)=>⟨[],[.c (.int ((jk a b)))],none,false⟩) sD)))
theorem nc:aX Tryz.prog (au aF) vG:=(az (ay (ab bK (ab (av aw) al)) ao fun (st,v,_) (_) _=>Hs st v ) (az (ay (ab (av aw) al) ao fun (n,_) (_) _=>An n ) (az (ay (ab (av aw) (ab (av aw) al)) ao fun (a,b,_) (_) _=>xe a b ) iR)))
end Go.Proofs.YtdggohppeeaipaaGreat
namespace Go.Proofs.YtdggohppeeaipaaGreat
open Go.RowKit
theorem pO {l:List Int} {s:Nat} {x:Int} (hx:l[((s:Int)+1).toNat]? = some x):min (eF l (s+1)) x=eF l (s+1+1):=ug (by omega) (by rwa [show ((s:Int)+1).toNat=s+1 by omega] at hx)
def vg (l:List Int):List (Nat × LI):=[(2,{ σ:=Nat,F:=fun k=>([(0,one (.fz .int (l))),(1,one (.fn 107 [] [])),(7,one (.int (l).length)),(8,one (.int k))],[]),J:=fun k=>k<=l.length/\pa (l.take k) = -1,μ:=fun k=>(l).length - k })]
def EE (l:List Int):List (Nat × LI):=[(5,{ σ:=Nat,F:=fun k=>([(0,one (.fz .int (l))),(3,one (.int (eF l (k+1)))),(4,one (.int (k+1)))],[]),J:=fun k=>k+1<=l.length,μ:=fun k=>l.length - k })]
theorem y_ (l:List Int) (r0:Int):cM aF vG (vg l) Tryz.f131 [.c (.fz .int (l)),.c (.fn 107 [] [])] [] [.c (.int (r0))]=((fun (q1:Int)=>(fun (q0:Nat)=>l.length*(8:Nat)<=(140737488355328:Nat)->∃ (s0:Nat),(l=l/\(↑l.length:Int)=(↑q0:Int)/\(0:Int)=(↑s0:Int))/\(s0<=q0/\pa (List.take s0 l) = -q1)/\∀ (s:Nat),s<=q0/\pa (List.take s l) = -q1->((↑s:Int)<(↑q0:Int)->(0:Int)<=(↑s:Int)/\(↑s:Int)<(↑l.length:Int)/\∀ (x:Int),l[s]? = some x->I64 x->((!bc x)=true->(↑s:Int)=r0)/\((!bc x)=false->I64 ((↑s:Int)+q1)/\∃ (s':Nat),(l=l/\(↑q0:Int)=(↑q0:Int)/\(↑s:Int)+q1=(↑s':Int))/\(s' <= q0/\pa (List.take s' l) = -q1)/\q0 - s' < q0 - s))/\((↑q0:Int)<=(↑s:Int) -> -q1=r0)) l.length) (1:Int)):=by kernel_rfl
theorem BA (l:List Int):Sat Tryz.prog (au aF) 131 [.c (.fz .int (l)),.c (.fn 107 [] [])] [] ⟨[],[.c (.int ((pa l)))],none,false⟩:=by
 refine aR nc (vg l) Tryz.func131 (by decide) (by kernel_rfl) ?_
 rw [y_]
 (repeat' (first | with_reducible refine And.intro ?_ ?_ | with_reducible refine and_imp.2 ?_ | intro))
 all_goals try (first | (first | with_reducible rfl | with_reducible assumption | omega | (refine aq ?_ ?_ <;> omega)) | exact rfl | exact (uq (by with_reducible assumption) (by with_reducible assumption) (by with_reducible assumption)) | exact (oK (by with_reducible assumption) (by with_reducible assumption) (by with_reducible assumption)) | exact (tQ (by with_reducible assumption) (by omega)))
 all_goals try (refine ⟨0,?_⟩; (repeat' (first | with_reducible refine And.intro ?_ ?_ | with_reducible refine and_imp.2 ?_ | intro)))
 all_goals try (first | (first | with_reducible rfl | with_reducible assumption | omega | (refine aq ?_ ?_ <;> omega)) | exact rfl | exact (uq (by with_reducible assumption) (by with_reducible assumption) (by with_reducible assumption)) | exact (oK (by with_reducible assumption) (by with_reducible assumption) (by with_reducible assumption)) | exact (tQ (by with_reducible assumption) (by omega)))
 all_goals try (refine ⟨‹Nat› + 1,?_⟩; (repeat' (first | with_reducible refine And.intro ?_ ?_ | with_reducible refine and_imp.2 ?_ | intro)))
 all_goals (first | (first | with_reducible rfl | with_reducible assumption | omega | (refine aq ?_ ?_ <;> omega)) | exact rfl | exact (uq (by with_reducible assumption) (by with_reducible assumption) (by with_reducible assumption)) | exact (oK (by with_reducible assumption) (by with_reducible assumption) (by with_reducible assumption)) | exact (tQ (by with_reducible assumption) (by omega)))
theorem Gb (l:List Int) (r0:Int):cM aF vG (EE l) Tryz.f109 [.c (.fz .int (l))] [] [.c (.int (r0))]=((fun (q2:Nat)=>(fun (q1:Int)=>(fun (q0:Int)=>l.length*(8:Nat)<=(140737488355328:Nat)->(q1<q0->False)/\(q0<=q1->(0:Int)<=(0:Int)/\(0:Int)<q1/\∀ (x:Int),l[(0:Nat)]? = some x->I64 x->∃ (s0:Nat),(l=l/\x=eF l (s0+q2)/\q0=(↑s0:Int)+q0)/\s0+q2<=l.length/\∀ (s:Nat),(fun (q3:Int)=>s+q2<=l.length->(q3<q1->(0:Int)<=q3/\q3<q1/\∀ (x:Int),l[q3.toNat]? = some x->I64 x->I64 (q3+q0)/\∃ (s':Nat),(l=l/\min (eF l (s+q2)) x=eF l (s' + q2)/\q3+q0=(↑s':Int)+q0)/\s' + q2<=l.length/\l.length - s' < l.length - s)/\(q1<=q3->eF l (s+q2)=r0)) ((↑s:Int)+q0))) (1:Int)) (↑l.length:Int)) (1:Nat)):=by kernel_rfl
theorem Fw (l:List Int) (h0:0<l.length):Sat Tryz.prog (au aF) 109 [.c (.fz .int (l))] [] ⟨[0<l.length],[.c (.int ((qW l)))],none,false⟩:=by
 refine aR nc (EE l) Tryz.func109 (by decide) (by kernel_rfl) ?_
 rw [Gb]
 (repeat' (first | with_reducible refine And.intro ?_ ?_ | with_reducible refine and_imp.2 ?_ | intro))
 all_goals try (first | (first | with_reducible rfl | with_reducible assumption | omega | (refine aq ?_ ?_ <;> omega)) | exact (kq (by with_reducible assumption)) | exact (pO (by with_reducible assumption)) | exact (jG (by omega)))
 all_goals try (refine ⟨0,?_⟩; (repeat' (first | with_reducible refine And.intro ?_ ?_ | with_reducible refine and_imp.2 ?_ | intro)))
 all_goals try (first | (first | with_reducible rfl | with_reducible assumption | omega | (refine aq ?_ ?_ <;> omega)) | exact (kq (by with_reducible assumption)) | exact (pO (by with_reducible assumption)) | exact (jG (by omega)))
 all_goals try (refine ⟨‹Nat› + 1,?_⟩; (repeat' (first | with_reducible refine And.intro ?_ ?_ | with_reducible refine and_imp.2 ?_ | intro)))
 all_goals (first | (first | with_reducible rfl | with_reducible assumption | omega | (refine aq ?_ ?_ <;> omega)) | exact (kq (by with_reducible assumption)) | exact (pO (by with_reducible assumption)) | exact (jG (by omega)))
def yT:cC:=(bR 109 (bJ (ah (kC (cL .int)) aO) aP fun (l,_) (_)=>⟨[0<l.length],[.c (.int ((qW l)))],none,false⟩) (bR 131 (bJ (ah (kC (cL .int)) (ah (kC (lH 107 [] [])) aO)) aP fun (l,_,_) (_)=>⟨[],[.c (.int ((pa l)))],none,false⟩) vG))
theorem q_:aX Tryz.prog (au aF) yT:=(az (ay (ab (av bO) al) ao fun (l,_) (_) hp=>Fw l (eP hp)) (az (ay (ab (av bO) (ab (av b_) al)) ao fun (l,_,_) (_) _=>BA l ) nc))
end Go.Proofs.YtdggohppeeaipaaGreat
namespace Go.Proofs.YtdggohppeeaipaaGreat
open Go.RowKit
theorem BZ (l:List Int) (r0:Bool):cM aF yT [] Tryz.f108 [.c (.fz .int (l)),.c (.fn 107 [] [])] [] [.c (.bool (.atom (r0)))]=(l.length*(8:Nat)<=(140737488355328:Nat)->I64 (pa l)->decide ((0:Int)<=pa l)=r0):=by kernel_rfl
theorem DL (l:List Int):Sat Tryz.prog (au aF) 108 [.c (.fz .int (l)),.c (.fn 107 [] [])] [] ⟨[],[.c (.bool (.atom ((!l.all bc))))],none,false⟩:=by
 refine aR q_ [] Tryz.func108 (by decide) (by kernel_rfl) ?_
 rw [BZ]
 (repeat' (first | with_reducible refine And.intro ?_ ?_ | with_reducible refine and_imp.2 ?_ | intro))
 all_goals (first | (first | with_reducible rfl | with_reducible assumption | omega | (refine aq ?_ ?_ <;> omega)) | exact (Dd))
def z_:cC:=(bR 108 (bJ (ah (kC (cL .int)) (ah (kC (lH 107 [] [])) aO)) aP fun (l,_,_) (_)=>⟨[],[.c (.bool (.atom ((!l.all bc))))],none,false⟩) yT)
theorem rU:aX Tryz.prog (au aF) z_:=(az (ay (ab (av bO) (ab (av b_) al)) ao fun (l,_,_) (_) _=>DL l ) q_)
end Go.Proofs.YtdggohppeeaipaaGreat
namespace Go.Proofs.YtdggohppeeaipaaGreat
open Go.RowKit
theorem Jn {l:List Int} (o:(l.length:Int)=0\/(!l.all bc)=true):0=dS l:=by
 have h:(decide (l.length=0) || !l.all bc)=true:=by
  rcases o with o | o
  ·rw [decide_eq_true (by omega)]; rfl
  ·rw [o,Bool.or_true]
 unfold dS; rw [if_pos h]
theorem IZ {l:List Int} (o:¬ (l.length:Int)=0) (h:(!l.all bc)=false):qW l=dS l:=by
 have h:¬ (decide (l.length=0) || !l.all bc)=true:=by
  rw [h,decide_eq_false (by omega)]; decide
 unfold dS; rw [if_neg h]
theorem yN (l:List Int) (r0:Int):cM aF z_ [] Tryz.f73 [.c (.fz .int (l))] [] [.c (.int (r0))]=(l.length*(8:Nat)<=(140737488355328:Nat)->((↑l.length:Int)=(0:Int)\/(!l.all bc)=true->(0:Int)=r0)/\(¬(↑l.length:Int)=(0:Int)/\(!l.all bc)=false->(0:Nat)<l.length/\(I64 (qW l)->qW l=r0))):=by kernel_rfl
theorem yl (l:List Int):Sat Tryz.prog (au aF) 73 [.c (.fz .int (l))] [] ⟨[],[.c (.int ((dS l)))],none,false⟩:=by
 refine aR rU [] Tryz.func73 (by decide) (by kernel_rfl) ?_
 rw [yN]
 (repeat' (first | with_reducible refine And.intro ?_ ?_ | with_reducible refine and_imp.2 ?_ | intro))
 all_goals (first | (first | with_reducible rfl | with_reducible assumption | omega | (refine aq ?_ ?_ <;> omega)) | exact (Jn (by assumption)) | exact (IZ (by with_reducible assumption) (by with_reducible assumption)))
def Bx:cC:=(bR 73 (bJ (ah (kC (cL .int)) aO) aP fun (l,_) (_)=>⟨[],[.c (.int ((dS l)))],none,false⟩) z_)
theorem sA:aX Tryz.prog (au aF) Bx:=(az (ay (ab (av bO) al) ao fun (l,_) (_) _=>yl l ) rU)
end Go.Proofs.YtdggohppeeaipaaGreat
namespace Go.Proofs.YtdggohppeeaipaaGreat
open Go.RowKit
theorem zh (v:Int) (l:List Int) (r0:Bool):cM aF Bx [] Tryz.f74 [.c (.int (v)),.c (.fz .int (l))] [] [.c (.bool (.atom (r0)))]=(I64 v->l.length*(8:Nat)<=(140737488355328:Nat)->((1:Int)<=v/\v<(3:Int)->I64 (dS l))->(decide ((1:Int)<=v) && decide (v<(3:Int)) && decide (v<dS l))=r0):=by kernel_rfl
theorem Bo (v:Int) (l:List Int):Sat Tryz.prog (au aF) 74 [.c (.int (v)),.c (.fz .int (l))] [] ⟨[],[.c (.bool (.atom ((ir v l))))],none,false⟩:=by
 refine aR sA [] Tryz.func74 (by decide) (by kernel_rfl) ?_
 rw [zh]
 (repeat' (first | with_reducible refine And.intro ?_ ?_ | with_reducible refine and_imp.2 ?_ | intro))
 all_goals (first | (first | with_reducible rfl | with_reducible assumption | omega | (refine aq ?_ ?_ <;> omega)) | rfl | grind [ir])
def ru:cC:=(bR 74 (bJ (ah (kC cI) (ah (kC (cL .int)) aO)) aP fun (v,l,_) (_)=>⟨[],[.c (.bool (.atom ((ir v l))))],none,false⟩) Bx)
theorem iL:aX Tryz.prog (au aF) ru:=(az (ay (ab (av aw) (ab (av bO) al)) ao fun (v,l,_) (_) _=>Bo v l ) sA)
end Go.Proofs.YtdggohppeeaipaaGreat
namespace Go.Proofs.YtdggohppeeaipaaGreat
open Go.RowKit
def Bc (st:State):List (Nat × LI):=[(7,{ σ:=Nat,F:=fun k=>([(1,one (.ptr 0 0)),(2,one (.ptr 1 0)),(3,one (.own 2)),(4,one (.int k))],[.box 26 ([.int ((st.version)),.int ((st.next)),.int ((st.keep)),.int ((st.quota)),.fz (.nm .sess) ((st.sess.take 20)),.fz (.nm .opn) ((st.opens.take 20)),.fz (.nm .snap) ((st.snaps))]),.box 26 ([.int ((0)),.int ((0)),.int ((0)),.int ((0)),.em true,.em true,.em true]),.row 59 (.nm .snap) (((dx st).snaps.take k))]),J:=fun k=>k<=(dx st).snaps.length,μ:=fun k=>st.snaps.length - k })]
theorem Al  (r0:Bool):cM aF ru [] Tryz.f21 [] [] [.c (.bool (.atom (r0)))]=((fun (q1:Int)=>(fun (q0:List (den Sh.int))=>I64 (dS q0)->((dS q0=q1/\ir (1:Int) q0=true)/\ir q1 q0=false->I64 (jk q1 (3:Int)))->(decide (dS q0=q1) && ir (1:Int) q0 && !ir q1 q0 && decide (jk q1 (3:Int)=(32:Int)))=r0) [(3:Int),q1,(3:Int)]) (2:Int)):=by kernel_rfl
theorem zj :Sat Tryz.prog (au aF) 21 [] [] ⟨[],[.c (.bool (.atom ((true))))],none,false⟩:=by
 refine aR iL [] Tryz.func21 (by decide) (by kernel_rfl) ?_
 rw [Al]
 (repeat' (first | with_reducible refine And.intro ?_ ?_ | with_reducible refine and_imp.2 ?_ | intro))
 all_goals (first | (first | with_reducible rfl | with_reducible assumption | omega | (refine aq ?_ ?_ <;> omega)) | decide | rfl)
theorem CE (st:State) (r0:State):cM aF ru (Bc st) Tryz.f22 [.agg (cellsOf (.nm .state) st)] [] [.agg (cellsOf (.nm .state) r0)]=((fun (q23:Nat)=>(fun (q22:Prop)=>(fun (q21:Prop)=>(fun (q20:Prop)=>(fun (q19:Prop)=>(fun (q18:Int)=>(fun (q17:Nat)=>(fun (q16:Nat)=>(fun (q15:Int)=>(fun (q14:Nat)=>(fun (q13:Int)=>(fun (q12:Int)=>(fun (q11:Nat)=>(fun (q10:Int)=>(fun (q9:Int)=>(fun (q8:Prop)=>(fun (q7:Prop)=>(fun (q6:Prop)=>(fun (q5:Prop)=>(fun (q4:List Snap)=>(fun (q3:List (den (Sh.nm NT.sess)))=>(fun (q2:List (den (Sh.nm NT.opn)))=>(fun (q1:List Snap)=>(fun (q0:Prop)=>I64 st.version->I64 st.next->I64 st.keep->I64 st.quota->q23*(32:Nat)<=q11->st.opens.length*(16:Nat)<=q11->q4.length*q14<=q11->(q13<(↑q23:Int)->q12<=q13/\q13<=(↑q23:Int)/\(q13<q18->q12<=q13/\q13<=q18/\∃ (s0:Nat),(fun (q25:Nat)=>(fun (q24:Nat)=>(q12=(↑s0:Int)/\q5/\q8/\q7/\q6/\q3=q3/\q2=q2/\q4=q4/\q0/\q0/\q0/\q0/\List.take s0 q1=[])/\s0<=q25/\∀ (s:Nat),(fun (q27:List (den (Sh.nm NT.snap)))=>(fun (q26:Int)=>s<=q25->((↑s:Int)<(↑q4.length:Int)/\(↑s:Int)<q13->q12<=(↑s:Int)/\(↑s:Int)<(↑q4.length:Int)/\∀ (x:Snap),(fun (q32:Nat)=>(fun (q31:Snap)=>(fun (q30:Snap)=>(fun (q29:Snap)=>(fun (q28:Int)=>q4[s]? = some x->I64 x.id->I64 x.set->q32*(8:Nat)<=q11->x.tag.b.length<=q11->(q15<(↑q32:Int)->q12<=q15/\q15<=(↑q32:Int)/\(q10<q28->q12<=q10/\q10<=q28/\(q27.length+[q29].length)*q14<=q11/\I64 q26/\∃ (s':Nat),(q26=(↑s':Int)/\q5/\q8/\q7/\q6/\q3=q3/\q2=q2/\q4=q4/\q0/\q0/\q0/\q0/\q27++[q29]=List.take s' q1)/\s' <= q25/\q24 - s' < q24 - s)/\(q28<=q10->(q27.length+[q31].length)*q14<=q11/\I64 q26/\∃ (s':Nat),(q26=(↑s':Int)/\q5/\q8/\q7/\q6/\q3=q3/\q2=q2/\q4=q4/\q0/\q0/\q0/\q0/\q27++[q31]=List.take s' q1)/\s' <= q25/\q24 - s' < q24 - s))/\((↑q32:Int)<=q15->(q10<q28->q12<=q10/\q10<=q28/\(q27.length+[q30].length)*q14<=q11/\I64 q26/\∃ (s':Nat),(q26=(↑s':Int)/\q5/\q8/\q7/\q6/\q3=q3/\q2=q2/\q4=q4/\q0/\q0/\q0/\q0/\q27++[q30]=List.take s' q1)/\s' <= q25/\q24 - s' < q24 - s)/\(q28<=q10->(q27.length+[x].length)*q14<=q11/\I64 q26/\∃ (s':Nat),(q26=(↑s':Int)/\q5/\q8/\q7/\q6/\q3=q3/\q2=q2/\q4=q4/\q0/\q0/\q0/\q0/\q27++[x]=List.take s' q1)/\s' <= q25/\q24 - s' < q24 - s))) (↑x.tag.b.length:Int)) (Snap.mk x.id x.set (List.take q16 x.chunks) x.held (Str.mk (List.take q17 x.tag.b)))) (Snap.mk x.id x.set x.chunks x.held (Str.mk (List.take q17 x.tag.b)))) (Snap.mk x.id x.set (List.take q16 x.chunks) x.held x.tag)) x.chunks.length)/\((↑q4.length:Int)<=(↑s:Int)\/q13<=(↑s:Int)->q19/\q22/\q21/\q20/\q3=r0.sess/\q2=r0.opens/\q27=r0.snaps)) ((↑s:Int)+q9)) (List.take s q1)) q4.length) q1.length)/\(q18<=q13->∃ (s0:Nat),(fun (q34:Nat)=>(fun (q33:Nat)=>(q12=(↑s0:Int)/\q5/\q8/\q7/\q6/\q3=q3/\st.opens=q2/\q4=q4/\q0/\q0/\q0/\q0/\List.take s0 q1=[])/\s0<=q34/\∀ (s:Nat),(fun (q36:List (den (Sh.nm NT.snap)))=>(fun (q35:Int)=>s<=q34->((↑s:Int)<(↑q4.length:Int)/\(↑s:Int)<q13->q12<=(↑s:Int)/\(↑s:Int)<(↑q4.length:Int)/\∀ (x:Snap),(fun (q41:Nat)=>(fun (q40:Snap)=>(fun (q39:Snap)=>(fun (q38:Snap)=>(fun (q37:Int)=>q4[s]? = some x->I64 x.id->I64 x.set->q41*(8:Nat)<=q11->x.tag.b.length<=q11->(q15<(↑q41:Int)->q12<=q15/\q15<=(↑q41:Int)/\(q10<q37->q12<=q10/\q10<=q37/\(q36.length+[q38].length)*q14<=q11/\I64 q35/\∃ (s':Nat),(q35=(↑s':Int)/\q5/\q8/\q7/\q6/\q3=q3/\q2=q2/\q4=q4/\q0/\q0/\q0/\q0/\q36++[q38]=List.take s' q1)/\s' <= q34/\q33 - s' < q33 - s)/\(q37<=q10->(q36.length+[q40].length)*q14<=q11/\I64 q35/\∃ (s':Nat),(q35=(↑s':Int)/\q5/\q8/\q7/\q6/\q3=q3/\q2=q2/\q4=q4/\q0/\q0/\q0/\q0/\q36++[q40]=List.take s' q1)/\s' <= q34/\q33 - s' < q33 - s))/\((↑q41:Int)<=q15->(q10<q37->q12<=q10/\q10<=q37/\(q36.length+[q39].length)*q14<=q11/\I64 q35/\∃ (s':Nat),(q35=(↑s':Int)/\q5/\q8/\q7/\q6/\q3=q3/\q2=q2/\q4=q4/\q0/\q0/\q0/\q0/\q36++[q39]=List.take s' q1)/\s' <= q34/\q33 - s' < q33 - s)/\(q37<=q10->(q36.length+[x].length)*q14<=q11/\I64 q35/\∃ (s':Nat),(q35=(↑s':Int)/\q5/\q8/\q7/\q6/\q3=q3/\q2=q2/\q4=q4/\q0/\q0/\q0/\q0/\q36++[x]=List.take s' q1)/\s' <= q34/\q33 - s' < q33 - s))) (↑x.tag.b.length:Int)) (Snap.mk x.id x.set (List.take q16 x.chunks) x.held (Str.mk (List.take q17 x.tag.b)))) (Snap.mk x.id x.set x.chunks x.held (Str.mk (List.take q17 x.tag.b)))) (Snap.mk x.id x.set (List.take q16 x.chunks) x.held x.tag)) x.chunks.length)/\((↑q4.length:Int)<=(↑s:Int)\/q13<=(↑s:Int)->q19/\q22/\q21/\q20/\q3=r0.sess/\q2=r0.opens/\q36=r0.snaps)) ((↑s:Int)+q9)) (List.take s q1)) q4.length) q1.length))/\((↑q23:Int)<=q13->(q13<q18->q12<=q13/\q13<=q18/\∃ (s0:Nat),(fun (q43:Nat)=>(fun (q42:Nat)=>(q12=(↑s0:Int)/\q5/\q8/\q7/\q6/\st.sess=q3/\q2=q2/\q4=q4/\q0/\q0/\q0/\q0/\List.take s0 q1=[])/\s0<=q43/\∀ (s:Nat),(fun (q45:List (den (Sh.nm NT.snap)))=>(fun (q44:Int)=>s<=q43->((↑s:Int)<(↑q4.length:Int)/\(↑s:Int)<q13->q12<=(↑s:Int)/\(↑s:Int)<(↑q4.length:Int)/\∀ (x:Snap),(fun (q50:Nat)=>(fun (q49:Snap)=>(fun (q48:Snap)=>(fun (q47:Snap)=>(fun (q46:Int)=>q4[s]? = some x->I64 x.id->I64 x.set->q50*(8:Nat)<=q11->x.tag.b.length<=q11->(q15<(↑q50:Int)->q12<=q15/\q15<=(↑q50:Int)/\(q10<q46->q12<=q10/\q10<=q46/\(q45.length+[q47].length)*q14<=q11/\I64 q44/\∃ (s':Nat),(q44=(↑s':Int)/\q5/\q8/\q7/\q6/\q3=q3/\q2=q2/\q4=q4/\q0/\q0/\q0/\q0/\q45++[q47]=List.take s' q1)/\s' <= q43/\q42 - s' < q42 - s)/\(q46<=q10->(q45.length+[q49].length)*q14<=q11/\I64 q44/\∃ (s':Nat),(q44=(↑s':Int)/\q5/\q8/\q7/\q6/\q3=q3/\q2=q2/\q4=q4/\q0/\q0/\q0/\q0/\q45++[q49]=List.take s' q1)/\s' <= q43/\q42 - s' < q42 - s))/\((↑q50:Int)<=q15->(q10<q46->q12<=q10/\q10<=q46/\(q45.length+[q48].length)*q14<=q11/\I64 q44/\∃ (s':Nat),(q44=(↑s':Int)/\q5/\q8/\q7/\q6/\q3=q3/\q2=q2/\q4=q4/\q0/\q0/\q0/\q0/\q45++[q48]=List.take s' q1)/\s' <= q43/\q42 - s' < q42 - s)/\(q46<=q10->(q45.length+[x].length)*q14<=q11/\I64 q44/\∃ (s':Nat),(q44=(↑s':Int)/\q5/\q8/\q7/\q6/\q3=q3/\q2=q2/\q4=q4/\q0/\q0/\q0/\q0/\q45++[x]=List.take s' q1)/\s' <= q43/\q42 - s' < q42 - s))) (↑x.tag.b.length:Int)) (Snap.mk x.id x.set (List.take q16 x.chunks) x.held (Str.mk (List.take q17 x.tag.b)))) (Snap.mk x.id x.set x.chunks x.held (Str.mk (List.take q17 x.tag.b)))) (Snap.mk x.id x.set (List.take q16 x.chunks) x.held x.tag)) x.chunks.length)/\((↑q4.length:Int)<=(↑s:Int)\/q13<=(↑s:Int)->q19/\q22/\q21/\q20/\q3=r0.sess/\q2=r0.opens/\q45=r0.snaps)) ((↑s:Int)+q9)) (List.take s q1)) q4.length) q1.length)/\(q18<=q13->∃ (s0:Nat),(fun (q52:Nat)=>(fun (q51:Nat)=>(q12=(↑s0:Int)/\q5/\q8/\q7/\q6/\st.sess=q3/\st.opens=q2/\q4=q4/\q0/\q0/\q0/\q0/\List.take s0 q1=[])/\s0<=q52/\∀ (s:Nat),(fun (q54:List (den (Sh.nm NT.snap)))=>(fun (q53:Int)=>s<=q52->((↑s:Int)<(↑q4.length:Int)/\(↑s:Int)<q13->q12<=(↑s:Int)/\(↑s:Int)<(↑q4.length:Int)/\∀ (x:Snap),(fun (q59:Nat)=>(fun (q58:Snap)=>(fun (q57:Snap)=>(fun (q56:Snap)=>(fun (q55:Int)=>q4[s]? = some x->I64 x.id->I64 x.set->q59*(8:Nat)<=q11->x.tag.b.length<=q11->(q15<(↑q59:Int)->q12<=q15/\q15<=(↑q59:Int)/\(q10<q55->q12<=q10/\q10<=q55/\(q54.length+[q56].length)*q14<=q11/\I64 q53/\∃ (s':Nat),(q53=(↑s':Int)/\q5/\q8/\q7/\q6/\q3=q3/\q2=q2/\q4=q4/\q0/\q0/\q0/\q0/\q54++[q56]=List.take s' q1)/\s' <= q52/\q51 - s' < q51 - s)/\(q55<=q10->(q54.length+[q58].length)*q14<=q11/\I64 q53/\∃ (s':Nat),(q53=(↑s':Int)/\q5/\q8/\q7/\q6/\q3=q3/\q2=q2/\q4=q4/\q0/\q0/\q0/\q0/\q54++[q58]=List.take s' q1)/\s' <= q52/\q51 - s' < q51 - s))/\((↑q59:Int)<=q15->(q10<q55->q12<=q10/\q10<=q55/\(q54.length+[q57].length)*q14<=q11/\I64 q53/\∃ (s':Nat),(q53=(↑s':Int)/\q5/\q8/\q7/\q6/\q3=q3/\q2=q2/\q4=q4/\q0/\q0/\q0/\q0/\q54++[q57]=List.take s' q1)/\s' <= q52/\q51 - s' < q51 - s)/\(q55<=q10->(q54.length+[x].length)*q14<=q11/\I64 q53/\∃ (s':Nat),(q53=(↑s':Int)/\q5/\q8/\q7/\q6/\q3=q3/\q2=q2/\q4=q4/\q0/\q0/\q0/\q0/\q54++[x]=List.take s' q1)/\s' <= q52/\q51 - s' < q51 - s))) (↑x.tag.b.length:Int)) (Snap.mk x.id x.set (List.take q16 x.chunks) x.held (Str.mk (List.take q17 x.tag.b)))) (Snap.mk x.id x.set x.chunks x.held (Str.mk (List.take q17 x.tag.b)))) (Snap.mk x.id x.set (List.take q16 x.chunks) x.held x.tag)) x.chunks.length)/\((↑q4.length:Int)<=(↑s:Int)\/q13<=(↑s:Int)->q19/\q22/\q21/\q20/\q3=r0.sess/\q2=r0.opens/\q54=r0.snaps)) ((↑s:Int)+q9)) (List.take s q1)) q4.length) q1.length))) (q12=q12)) (dx st).snaps) (List.take (20:Nat) st.opens)) (List.take (20:Nat) st.sess)) st.snaps) (st.version=st.version)) (st.quota=st.quota)) (st.keep=st.keep)) (st.next=st.next)) (1:Int)) (40:Int)) (140737488355328:Nat)) (0:Int)) (20:Int)) (64:Nat)) (12:Int)) (12:Nat)) (40:Nat)) (↑st.opens.length:Int)) (st.version=r0.version)) (st.quota=r0.quota)) (st.keep=r0.keep)) (st.next=r0.next)) st.sess.length):=by kernel_rfl
theorem Cb (st:State):Sat Tryz.prog (au aF) 22 [.agg (cellsOf (.nm .state) st)] [] ⟨[],[.agg (cellsOf (.nm .state) (dx st))],none,false⟩:=by
 refine aR iL (Bc st) Tryz.func22 (by decide) (by kernel_rfl) ?_
 rw [CE]
 (repeat' (first | with_reducible refine And.intro ?_ ?_ | with_reducible refine and_imp.2 ?_ | intro))
 all_goals try (first | (first | with_reducible rfl | with_reducible assumption | omega | (refine aq ?_ ?_ <;> omega)) | exact rfl | exact (List.take_of_length_le (by omega)).symm | exact (EU (by with_reducible assumption) (by omega) (by omega) (by omega)) | exact (GD (by with_reducible assumption) (by omega) (by omega) (by omega)) | exact (Fp (by with_reducible assumption) (by omega) (by omega) (by omega)) | exact (Fm (by with_reducible assumption) (by omega) (by omega) (by omega)) | exact (tZ (by omega)) | exact (Ab (by omega) (by omega)) | exact (List.take_of_length_le (zy (by omega))))
 all_goals try (refine ⟨0,?_⟩; (repeat' (first | with_reducible refine And.intro ?_ ?_ | with_reducible refine and_imp.2 ?_ | intro)))
 all_goals try (first | (first | with_reducible rfl | with_reducible assumption | omega | (refine aq ?_ ?_ <;> omega)) | exact rfl | exact (List.take_of_length_le (by omega)).symm | exact (EU (by with_reducible assumption) (by omega) (by omega) (by omega)) | exact (GD (by with_reducible assumption) (by omega) (by omega) (by omega)) | exact (Fp (by with_reducible assumption) (by omega) (by omega) (by omega)) | exact (Fm (by with_reducible assumption) (by omega) (by omega) (by omega)) | exact (tZ (by omega)) | exact (Ab (by omega) (by omega)) | exact (List.take_of_length_le (zy (by omega))))
 all_goals try (refine ⟨‹Nat› + 1,?_⟩; (repeat' (first | with_reducible refine And.intro ?_ ?_ | with_reducible refine and_imp.2 ?_ | intro)))
 all_goals (first | (first | with_reducible rfl | with_reducible assumption | omega | (refine aq ?_ ?_ <;> omega)) | exact rfl | exact (List.take_of_length_le (by omega)).symm | exact (EU (by with_reducible assumption) (by omega) (by omega) (by omega)) | exact (GD (by with_reducible assumption) (by omega) (by omega) (by omega)) | exact (Fp (by with_reducible assumption) (by omega) (by omega) (by omega)) | exact (Fm (by with_reducible assumption) (by omega) (by omega) (by omega)) | exact (tZ (by omega)) | exact (Ab (by omega) (by omega)) | exact (List.take_of_length_le (zy (by omega))))
theorem Gk (c:Command) (r0:Command):cM aF ru [] Tryz.f23 [.agg (cellsOf (.nm .command) c)] [] [.agg (cellsOf (.nm .command) r0)]=((fun (q10:Prop)=>(fun (q9:Prop)=>(fun (q8:Prop)=>(fun (q7:Prop)=>(fun (q6:Nat)=>(fun (q5:Prop)=>(fun (q4:Prop)=>(fun (q3:Int)=>(fun (q2:Prop)=>(fun (q1:Prop)=>(fun (q0:Int)=>I64 c.kind->I64 c.client->I64 c.seq->I64 c.set->I64 c.id->I64 c.n->q6*(8:Nat)<=(140737488355328:Nat)->c.text.b.length<=(140737488355328:Nat)->((12:Int)<(↑q6:Int)->(0:Int)<=(12:Int)/\(12:Int)<=(↑q6:Int)/\(q3<q0->(0:Int)<=q3/\q3<=q0/\q2/\q1/\q4/\q5/\q7/\q10/\q9/\q8)/\(q0<=q3->q2/\q1/\q4/\q5/\q7/\q10/\q9/\c.text=r0.text))/\((↑q6:Int)<=(12:Int)->(q3<q0->(0:Int)<=q3/\q3<=q0/\q2/\q1/\q4/\q5/\q7/\q10/\c.chunks=r0.chunks/\q8)/\(q0<=q3->q2/\q1/\q4/\q5/\q7/\q10/\c.chunks=r0.chunks/\c.text=r0.text))) (↑c.text.b.length:Int)) (c.client=r0.client)) (c.kind=r0.kind)) (40:Int)) (c.seq=r0.seq)) (c.set=r0.set)) c.chunks.length) (c.id=r0.id)) (Str.mk (List.take (40:Nat) c.text.b)=r0.text)) (List.take (12:Nat) c.chunks=r0.chunks)) (c.n=r0.n)):=by kernel_rfl
theorem E_ (c:Command):Sat Tryz.prog (au aF) 23 [.agg (cellsOf (.nm .command) c)] [] ⟨[],[.agg (cellsOf (.nm .command) (Dj c))],none,false⟩:=by
 refine aR iL [] Tryz.func23 (by decide) (by kernel_rfl) ?_
 rw [Gk]
 simp only [Dj,Str.cut]; (repeat' (first | refine And.intro ?_ ?_ | intro)) <;> first | trivial | rfl | omega | (symm; exact List.take_of_length_le (by omega)) | exact na (by omega)
def Ep:cC:=(bR 23 (bJ (ah (kT (.nm .command)) aO) aP fun (c,_) (_)=>⟨[],[.agg (cellsOf (.nm .command) (Dj c))],none,false⟩) (bR 22 (bJ (ah (kT (.nm .state)) aO) aP fun (st,_) (_)=>⟨[],[.agg (cellsOf (.nm .state) (dx st))],none,false⟩) (bR 21 (bJ aO aP fun (_) (_)=>⟨[],[.c (.bool (.atom ((true))))],none,false⟩) ru)))
theorem yS:aX Tryz.prog (au aF) Ep:=(az (ay (ab bK al) ao fun (c,_) (_) _=>E_ c ) (az (ay (ab bK al) ao fun (st,_) (_) _=>Cb st ) (az (ay al ao fun (_) (_) _=>zj  ) iL)))
end Go.Proofs.YtdggohppeeaipaaGreat
namespace Go.Proofs.YtdggohppeeaipaaGreat
open Go.RowKit
theorem JK {b:UInt8}:I64 (1+(b.toNat:Int).tmod 3):=by
 have h1:=Int.tmod_nonneg (a:=(b.toNat:Int)) 3 (by omega)
 have h2:=Int.tmod_lt_of_pos (b.toNat:Int) (b:=3) (by decide)
 constructor <;> omega
theorem GJ {s:State} {c:Command} {v:Int} (hu:(cz s v).2=0) (k8:¬ c.kind=8) (h:bh c s.version=0):(true && decide ((cz (cY s c).1 v).2=0) && (decide ((cY (cz s v).1 c).2.code=(cY s c).2.code) && decide ((cY (cz s v).1 c).2.n=(cY s c).2.n)) && decide ((cY (cz s v).1 c).1=(cz (cY s c).1 v).1) && decide (mayF (cz s v).1 v=0) && decide (mayF (cz (cY s c).1 v).1 v=0))=true:=by
 obtain ⟨a,b,d,e,f⟩:=Ap hu k8 h
 rw [a,b,d,e,f]
 simp only [decide_true,Bool.and_self]
theorem CH (st:State) (c:Command) (b:UInt8) (r0:Bool):cM aF Ep [] Tryz.f5 [.agg (cellsOf (.nm .state) st),.agg (cellsOf (.nm .command) c),.c (.u8 (b))] [] [.c (.bool (.atom (r0)))]=((fun (q5:Nat)=>(fun (q4:Int)=>(fun (q3:Command)=>(fun (q2:State)=>(fun (q1:State × Reply)=>(fun (q0:Int)=>I64 st.version->I64 st.next->I64 st.keep->I64 st.quota->st.sess.length*(32:Nat)<=q5->st.opens.length*(16:Nat)<=q5->st.snaps.length*(64:Nat)<=q5->I64 c.kind->I64 c.client->I64 c.seq->I64 c.set->I64 c.id->I64 c.n->c.chunks.length*(8:Nat)<=q5->c.text.b.length<=q5->I64 q2.version->I64 q2.next->I64 q2.keep->I64 q2.quota->q2.sess.length*(32:Nat)<=q5->q2.opens.length*(16:Nat)<=q5->q2.snaps.length*(64:Nat)<=q5->I64 q3.kind->I64 q3.client->I64 q3.seq->I64 q3.set->I64 q3.id->I64 q3.n->q3.chunks.length*(8:Nat)<=q5->q3.text.b.length<=q5->q4<=(↑b.toNat:Int)/\q4<(3:Int)/\I64 q0/\(I64 (cz q2 q0).fst.version->I64 (cz q2 q0).fst.next->I64 (cz q2 q0).fst.keep->I64 (cz q2 q0).fst.quota->I64 (cz q2 q0).snd->((cz q2 q0).snd=q4/\¬q3.kind=(8:Int)->I64 (bh q3 q2.version))->((¬(cz q2 q0).snd=q4\/q3.kind=(8:Int))\/¬bh q3 q2.version=q4->true=r0)/\(((cz q2 q0).snd=q4/\¬q3.kind=(8:Int))/\bh q3 q2.version=q4->I64 (cY (cz q2 q0).fst q3).fst.version->I64 (cY (cz q2 q0).fst q3).fst.next->I64 (cY (cz q2 q0).fst q3).fst.keep->I64 (cY (cz q2 q0).fst q3).fst.quota->I64 (cY (cz q2 q0).fst q3).snd.code->I64 (cY (cz q2 q0).fst q3).snd.n->I64 q1.fst.version->I64 q1.fst.next->I64 q1.fst.keep->I64 q1.fst.quota->I64 q1.snd.code->I64 q1.snd.n->I64 (cz q1.fst q0).fst.version->I64 (cz q1.fst q0).fst.next->I64 (cz q1.fst q0).fst.keep->I64 (cz q1.fst q0).fst.quota->I64 (cz q1.fst q0).snd->(((true=true/\(cz q1.fst q0).snd=q4)/\(cY (cz q2 q0).fst q3).snd.code=q1.snd.code/\(cY (cz q2 q0).fst q3).snd.n=q1.snd.n)/\decide ((cY (cz q2 q0).fst q3).fst=(cz q1.fst q0).fst)=true->I64 (mayF (cz q2 q0).fst q0))->((((true=true/\(cz q1.fst q0).snd=q4)/\(cY (cz q2 q0).fst q3).snd.code=q1.snd.code/\(cY (cz q2 q0).fst q3).snd.n=q1.snd.n)/\decide ((cY (cz q2 q0).fst q3).fst=(cz q1.fst q0).fst)=true)/\mayF (cz q2 q0).fst q0=q4->I64 (mayF (cz q1.fst q0).fst q0))->(true && decide ((cz q1.fst q0).snd=q4) && (decide ((cY (cz q2 q0).fst q3).snd.code=q1.snd.code) && decide ((cY (cz q2 q0).fst q3).snd.n=q1.snd.n)) && decide ((cY (cz q2 q0).fst q3).fst=(cz q1.fst q0).fst) && decide (mayF (cz q2 q0).fst q0=q4) && decide (mayF (cz q1.fst q0).fst q0=q4))=r0))) ((1:Int)+(↑b.toNat:Int).tmod (3:Int))) (cY q2 q3)) (dx st)) (Dj c)) (0:Int)) (140737488355328:Nat)):=by kernel_rfl
theorem Cs (st:State) (c:Command) (b:UInt8):Sat Tryz.prog (au aF) 5 [.agg (cellsOf (.nm .state) st),.agg (cellsOf (.nm .command) c),.c (.u8 (b))] [] ⟨[],[.c (.bool (.atom ((true))))],none,false⟩:=by
 refine aR yS [] Tryz.func5 (by decide) (by kernel_rfl) ?_
 rw [CH]
 (repeat' (first | with_reducible refine And.intro ?_ ?_ | with_reducible refine and_imp.2 ?_ | intro))
 all_goals (first | (first | with_reducible rfl | with_reducible assumption | omega | (refine aq ?_ ?_ <;> omega)) | exact JK | exact (GJ (by with_reducible assumption) (by with_reducible assumption) (by with_reducible assumption)))
end Go.Proofs.YtdggohppeeaipaaGreat
namespace Go.Proofs.YtdggohppeeaipaaGreat
open Go.RowKit Go.ChangeShapes Go.WideShapes
def wU (shp:TypeId->Option Sh) (w:World):Cx:=cx ⟨shp,w.heap.size,fun _=>False⟩ [] w
theorem Fh {shp:TypeId->Option Sh} {w:World} {s:Sh} {b:Nat} (h:b<w.heap.size):(wU shp w).at s b:=⟨⟨h,fun ⟨_,_,h,_⟩=>by simp at h,fun h=>h⟩,.inl h⟩
def Tr (P:Program) (shp:TypeId->Option Sh) (t:TypeId) (s:Sh):Prop:=
 ∀ (H:Type) (enc:TypeId × Value->H) (w:World) (fuel:Nat) (cs:List Value) (x:DataW H × List MemPlace),
  DataW.trod enc P w 0 (fun _=>true) true fuel t cs=some x->(∀ n ∈ x.1.weights P t,n<=140737488351232)->(∀ q ∈ x.2,q.block<w.heap.size)->∃ y:den s,Pds (wU shp w) (cellsOf s y) cs
def Gx:List Sh->List AV->Prop
 | [],asx=>asx=[]
 | s :: r,asx=>∃ (y:den s) (l:List AV),asx=cellsOf s y++l/\Gx r l
def Ir:List Sh->Nat
 | []=>0
 | s :: r=>s.size+Ir r
def fE (P:Program) (shp:TypeId->Option Sh) (fs:List Go.Field) (o:Nat) (ss:List Sh):Prop:=
 ∀ (H:Type) (enc:TypeId × Value->H) (w:World) (fuel:Nat) (cs:List Value) (xs:List (DataW H × List MemPlace)),
  cs.length=o+Ir ss->xs.length=fs.length->(∀ (i:Nat) (f:Go.Field),fs[i]? = some f->DataW.trod enc P w 0 (fun _=>true) true fuel f.type ((cs.drop f.offset).take (P.cellsOf f.type))=xs[i]?) ->
  (∀ n ∈ DataW.weightsEach P (fs.map (·.type)) (xs.map (·.1)),n<=140737488351232)->(∀ q ∈ xs.flatMap (·.2),q.block<w.heap.size)->∃ asx,Gx ss asx/\Pds (wU shp w) asx (cs.drop o)
section
variable {P:Program} {shp:TypeId->Option Sh} {t:TypeId}
theorem Tr.int (h:P.underlying t=some (.int .i64)):Tr P shp t .int:=fun _ enc w fuel cs x hx _ _=>by
 obtain ⟨n,rfl,_,hw⟩:=DataW.trod_int h hx
 have h1:IntKind.i64.min = -9223372036854775808:=rfl
 have h2:IntKind.i64.max=9223372036854775807:=rfl
 simp only [Lit.wf,Bool.and_eq_true,decide_eq_true_eq] at hw
 exact ⟨n,.cons (.int ⟨by omega,by omega⟩) .nil⟩
theorem Tr.bool (h:P.underlying t=some .bool):Tr P shp t .bool:=fun _ enc w fuel cs x hx _ _=>by
 obtain ⟨n,rfl,_⟩:=DataW.trod_bool h hx
 exact ⟨n,.cons (Pd.bool (e:=.atom n)) .nil⟩
theorem Tr.u8 (h:P.underlying t=some (.int .u8)):Tr P shp t .u8:=fun _ enc w fuel cs x hx _ _=>by
 obtain ⟨n,rfl,_,hw⟩:=DataW.trod_int h hx
 have h1:IntKind.u8.min=0:=rfl
 have h2:IntKind.u8.max=255:=rfl
 simp only [Lit.wf,Bool.and_eq_true,decide_eq_true_eq] at hw
 refine ⟨UInt8.ofNat n.toNat,?_⟩
 have:n=((UInt8.ofNat n.toNat).toNat:Int):=by
  rw [UInt8.toNat_ofNat']; omega
 generalize hg:UInt8.ofNat n.toNat=b at this
 subst this
 exact .cons .u8 .nil
theorem Tr.u64 (h:P.underlying t=some (.int .u64)):Tr P shp t .u64:=fun _ enc w fuel cs x hx _ _=>by
 obtain ⟨n,rfl,_,hw⟩:=DataW.trod_int h hx
 have h1:IntKind.u64.min=0:=rfl
 have h2:IntKind.u64.max=18446744073709551615:=rfl
 simp only [Lit.wf,Bool.and_eq_true,decide_eq_true_eq] at hw
 refine ⟨⟨n.toNat⟩,?_⟩
 have:n=(n.toNat:Int):=by omega
 generalize hg:n.toNat=b at this
 subst this
 exact .cons (.u64 (by show b<_; omega)) .nil
theorem Tr.str (h:P.underlying t=some .string):Tr P shp t .str:=fun _ enc w fuel cs x hx hw _=>by
 obtain ⟨s,rfl,hx,_⟩:=DataW.trod_string h hx
 refine ⟨⟨s.data.toList⟩,?_⟩
 have:=hw s.data.toList.length (by rw [hx]; simp [DataW.weights])
 have e:=Pd.str (c:=wU shp w) (s:=⟨s.data.toList⟩) (by show s.data.toList.length<=_; omega)
 have e2:(⟨s.data.toList⟩:Str).val = .string s:=by simp [Str.val]
 rw [e2] at e
 exact .cons e .nil
theorem gj {H:Type} {e:TypeId}:∀ {ds:List (DataW H)} {d:DataW H},d ∈ ds->∀ n ∈ d.weights P e,n ∈ DataW.weightsAll P e ds
 | [],_,h,_,_=>by cases h
 | d0 :: ds,d,h,n,hn=>by
  rw [DataW.weightsAll,List.mem_append]
  rcases List.mem_cons.1 h with rfl | h
  ·exact .inl hn
  ·exact .inr (gj h n hn)
theorem xl {s:Sh} {xs:List (den s)} {y:den s}:(xs++[y]).flatMap (cellsOf s)=xs.flatMap (cellsOf s)++cellsOf s y:=by simp
theorem Tr.list {e:TypeId} {s:Sh} (ht:P.underlying t=some (.slice e)) (hC:P.cellsOf e=s.size) (hB:P.bytesOf e=s.bytes) (he:Tr P shp e s):Tr P shp t (.lst s):=fun H enc w fuel cs x hx hw hlt=>by
 have hp:=size_pos s
 rcases DataW.trod_slice ht hx with ⟨rfl,_⟩ | ⟨a,len,cap,elems,rest,n,rfl,rfl,rfl,_,hl,hc,hel,hget,hrest,_⟩
 ·exact ⟨([]:List (den s)),.cons (Pd.p_ (.em (a:=none) (b:=true) rfl)) .nil⟩
 ·rw [hC] at *
  have step:∀ m,m<=len->∃ (cells:List Value) (xs:List (den s)),Pds (wU shp w) (xs.flatMap (cellsOf s)) cells/\xs.length=m/\CellsAt w a cells:=by
   intro m
   induction m with
   | zero=>intro _; exact ⟨[],[],.nil,rfl,CellsAt.nil⟩
   | succ m ih=>
    intro hm
    obtain ⟨cells,xs,h1,h2,h3⟩:=ih (by omega)
    have hg:=hget m (by omega)
    have hem:elems[m]? = some (elems[m]'(by omega)):=List.getElem?_eq_getElem (by omega)
    rw [hem,Option.bind_eq_some_iff] at hg
    obtain ⟨cs,hcs,htr⟩:=hg
    have hmem:elems[m]'(by omega) ∈ elems:=List.getElem_mem _
    obtain ⟨y,hy⟩:=he H enc w n cs _ htr
     (fun k hk=>hw k (by
      simp only [DataW.weights,ht,List.mem_cons,List.mem_append]
      exact .inr (.inl (gj (List.mem_map_of_mem hmem) k hk))))
     (fun q hq=>hlt q (by
      simp only [List.mem_append,List.mem_flatMap]
      exact .inr ⟨_,.inl hmem,hq⟩))
    obtain ⟨_,hcl,hat⟩:=World.cells?_some hcs
    refine ⟨cells++cs,xs++[y],by rw [xl]; exact h1.append hy,by simp [h2],fun j v hv=>?_⟩
    have hfl:cells.length=m*s.size:=by rw [<- h1.length,bH,h2]
    by_cases hj:j<m*s.size
    ·rw [List.getElem?_append_left (by omega)] at hv
     exact h3 j v hv
    ·rw [List.getElem?_append_right (by omega),hfl] at hv
     have hj2:=tw hv
     have:=hat (j - m*s.size) (by omega)
     rw [hv,add_add,show m*s.size+(j - m*s.size)=j by omega] at this
     exact this
  obtain ⟨cells,xs,h1,h2,h3⟩:=step len (Nat.le_refl _)
  have hwt:(elems.length+rest.length)*P.bytesOf e<=140737488351232:=hw _ (by simp [DataW.weights,ht])
  refine ⟨xs,.cons ?_ .nil⟩
  subst h2
  refine .fz (by omega) hc ?_ h1 ?_
  ·rw [hB] at hwt
   have:xs.length*s.bytes<=(elems.length+rest.length)*s.bytes:=Nat.mul_le_mul_right _ (by omega)
   omega
  ·by_cases h0:xs.length=0
   ·left; exact List.eq_nil_of_length_eq_zero h0
   ·right
    refine ⟨a,rfl,Fh ?_,h3⟩
    have:MemPlace.cell a.block (a.off+0) ∈ MemPlace.row a ((elems.length+rest.length)*s.size):=MemPlace.mem_row.2 ⟨0,Nat.mul_pos (by omega) hp,rfl⟩
    exact hlt _ (List.mem_append_left _ this)
theorem fE.nil {o:Nat}:fE P shp [] o []:=fun H enc w fuel cs xs hl _ _ _ _=>⟨[],rfl,by rw [List.drop_eq_nil_of_le (by simp only [Ir] at hl; omega)]; exact .nil⟩
theorem fE.cons {f:Go.Field} {fs:List Go.Field} {o:Nat} {s:Sh} {ss:List Sh} (h:Tr P shp f.type s) (ho:f.offset=o) (hC:P.cellsOf f.type=s.size) (hr:fE P shp fs (o+s.size) ss):fE P shp (f :: fs) o (s :: ss):=fun H enc w fuel cs xs hl hx hf hw hlt=>by
 match xs,hx with
 | x :: xs,hx=>
  have hl':cs.length=o+(s.size+Ir ss):=hl
  have h1:=hf 0 f rfl
  rw [ho,hC] at h1
  obtain ⟨y,hy⟩:=h H enc w fuel _ x h1 (fun n hn=>hw n (by simp [DataW.weightsEach,hn])) (fun q hq=>hlt q (by simp [hq]))
  obtain ⟨z,hz1,hz2⟩:=hr H enc w fuel cs xs (by omega) (by simpa using hx) (fun i f' hi=>by simpa using hf (i+1) f' (by simpa using hi)) (fun n hn=>hw n (by simp only [List.map_cons,DataW.weightsEach,List.mem_append]; exact .inr hn)) (fun q hq=>hlt q (by simp only [List.flatMap_cons,List.mem_append]; exact .inr hq))
  refine ⟨cellsOf s y++z,⟨y,z,rfl,hz1⟩,?_⟩
  have:=hy.append hz2
  rwa [<- List.drop_drop,List.take_append_drop] at this
theorem Tr.struct {s:Sh} {ss:List Sh} {fs:Array Go.Field} (ht:P.underlying t=some (.struct fs)) (hC:P.cellsOf t=Ir ss) (hs:∀ asx,Gx ss asx->∃ y:den s,asx=cellsOf s y) (h:fE P shp fs.toList 0 ss):Tr P shp t s:=fun H enc w fuel cs x hx hw hlt=>by
 obtain ⟨xs,n,_,rfl,hl,hxl,hf⟩:=DataW.trod_struct ht hx
 obtain ⟨asx,h1,h2⟩:=h H enc w n cs xs (by omega) (by simpa using hxl) (fun i f hi=>hf i f (by simpa using hi)) (fun k hk=>hw k (by simpa [DataW.weights,ht] using hk)) hlt
 obtain ⟨y,rfl⟩:=hs asx h1
 exact ⟨y,by simpa using h2⟩
end
section
variable {H:Type} {enc:TypeId × Value->H} {P:Program} {shp:TypeId->Option Sh}
structure Ar (enc:TypeId × Value->H) (P:Program) (W:World) (t:TypeId) (v:Value):Prop where
 form:∃ base,Value.okWide P W .any base t v
 read:∃ d p fuel,DataW.trod enc P W 0 (fun _=>true) true fuel t v.cells.toList=some (d,p)/\(∀ n ∈ d.weights P t,n<=140737488351232)/\(∀ q ∈ p,q.block<W.heap.size)
variable {W:World} {t:TypeId} {v:Value}
theorem Ar.rp {s:Sh} (h:Ar enc P W t v) (ht:Tr P shp t s):∃ y:den s,Pds (wU shp W) (cellsOf s y) v.cells.toList:=by
 obtain ⟨d,p,fuel,h1,h2,h3⟩:=h.read
 exact ht H enc W fuel _ _ h1 h2 h3
theorem zf {a:AV} {u:Value} (h:Pds (wU shp W) [a] [u]):ct (wU shp W) [] (.c a) u:=by cases h with | cons h1 _=>exact f_ h1
theorem Ar.int (h:Ar enc P W t v) (ht:P.underlying t=some (.int .i64)):∃ y:Int,ct (wU shp W) [] (.c (.int y)) v:=by
 obtain ⟨base,hf⟩:=h.form
 obtain ⟨n,rfl⟩:=okWide_int ht hf
 obtain ⟨y,h1⟩:=h.rp (shp:=shp) (Tr.int ht)
 exact ⟨y,zf (by simpa [Value.cells,cellsOf] using h1)⟩
theorem Ar.u8 (h:Ar enc P W t v) (ht:P.underlying t=some (.int .u8)):∃ y:UInt8,ct (wU shp W) [] (.c (.u8 y)) v:=by
 obtain ⟨base,hf⟩:=h.form
 obtain ⟨n,rfl⟩:=okWide_int ht hf
 obtain ⟨y,h1⟩:=h.rp (shp:=shp) (Tr.u8 ht)
 exact ⟨y,zf (by simpa [Value.cells,cellsOf] using h1)⟩
theorem Ar.bool (h:Ar enc P W t v) (ht:P.underlying t=some .bool):∃ y:Bool,ct (wU shp W) [] (.c (.bool (.atom y))) v:=by
 obtain ⟨base,hf⟩:=h.form
 obtain ⟨b,rfl⟩:=okWide_bool ht hf
 exact ⟨b,Pd.bool (e:=.atom b)⟩
theorem Ar.struct {s:Sh} {fs:Array Go.Field} (h:Ar enc P W t v) (hu:P.underlying t=some (.struct fs)) (ht:Tr P shp t s):∃ x:den s,ct (wU shp W) [] (.agg (cellsOf s x)) v:=by
 obtain ⟨base,hf⟩:=h.form
 obtain ⟨cs,rfl,_⟩:=okWide_struct hu hf
 obtain ⟨y,h1⟩:=h.rp ht
 exact ⟨y,cs.toList,by simp,dK (by simpa [Value.cells] using h1)⟩
theorem Da {f:Nat} {args:List TV1} {pre:List Prop} {e:BE} {vs:List Value} (h:Sat P shp f args [] ⟨pre,[.c (.bool e)],none,false⟩) (he:e.val=true) (hv:All2 (ct (wU shp W) []) args vs):gQ P f vs.toArray W fun r W'=>r = .bool true/\Kp [] W W':=by
 refine (h.2 ⟨shp,W.heap.size,fun _=>False⟩ [] W vs rfl ⟨.nil,fun _ _ _ _ _ h=>by simp at h,fun _ _ _ h=>by simp at h,fun _ h=>h.elim,Nat.le_refl _⟩ hv).mono fun v w' ⟨us,h1,h2,h3⟩=>⟨?_,h2⟩
 cases h3 with | cons h4 h5=>
 cases h5
 have h4:Pd _ (.bool e) _:=h4
 cases h4
 rw [h1,he]; rfl
theorem Ea {base:Nat} {ts:List TypeId} {args:Array Value} {ds:List (DataW H)} {p:List MemPlace} (hf:∀ (j:Nat) t v,ts[j]? = some t->args[j]? = some v->Value.okWide P W .any base t v)
  (h:DataW.TrodAll enc P W 0 (fun _=>true) true ts args.toList ds p) (hw:∀ n ∈ DataW.weightsEach P ts ds,n<=140737488351232) (hlt:∀ q ∈ p,q.block<W.heap.size) :
  args.size=ts.length/\∀ (j:Nat) t v,ts[j]? = some t->args[j]? = some v->Ar enc P W t v:=by
 have key:∀ (ts:List TypeId) (vs:List Value) (ds:List (DataW H)) (p:List MemPlace),DataW.TrodAll enc P W 0 (fun _=>true) true ts vs ds p->(∀ n ∈ DataW.weightsEach P ts ds,n<=140737488351232)->(∀ q ∈ p,q.block<W.heap.size) ->
   vs.length=ts.length/\∀ (j:Nat) t v,ts[j]? = some t->vs[j]? = some v->∃ d p fuel,DataW.trod enc P W 0 (fun _=>true) true fuel t v.cells.toList=some (d,p)/\(∀ n ∈ d.weights P t,n<=140737488351232)/\(∀ q ∈ p,q.block<W.heap.size):=by
  intro ts
  induction ts with
  | nil=>intro vs ds p h _ _; obtain ⟨rfl,_,_⟩:=trodAll_nil h; exact ⟨rfl,fun j t v h=>by simp at h⟩
  | cons t ts ih=>
   intro vs ds p h hw hlt
   obtain ⟨v,vs,d,ds,p1,p2,rfl,rfl,rfl,h1,h2⟩:=trodAll_cons h
   obtain ⟨k1,k2⟩:=ih vs ds p2 h2 (fun n hn=>hw n (by rw [DataW.weightsEach,List.mem_append]; exact .inr hn)) (fun q hq=>hlt q (List.mem_append_right _ hq))
   refine ⟨by simp [k1],fun j t' v' ht hv=>?_⟩
   cases j with
   | zero=>
    simp at ht hv
    subst ht; subst hv
    obtain ⟨fuel,hf⟩:=h1
    exact ⟨d,p1,fuel,hf,fun n hn=>hw n (by rw [DataW.weightsEach,List.mem_append]; exact .inl hn),fun q hq=>hlt q (List.mem_append_left _ hq)⟩
   | succ j=>exact k2 j t' v' (by simpa using ht) (by simpa using hv)
 obtain ⟨k1,k2⟩:=key ts args.toList ds p h hw hlt
 exact ⟨by simpa using k1,fun j t v ht hv=>⟨⟨base,hf j t v ht hv⟩,k2 j t v ht (by simpa using hv)⟩⟩
theorem xq (hl:laidOutB P=true) {W':World} (hb:Below W.heap.size W W'):∀ (ts:List TypeId) (vs:List Value) (ds:List (DataW H)) (p:List MemPlace),ts.all (fun t=>P.readableRec t && decide (t<P.types.size))=true->DataW.TrodAll enc P W 0 (fun _=>true) true ts vs ds p->(∀ q ∈ p,q.block<W.heap.size) ->
  DataW.TrodAll enc P W' 0 (fun b=>decide (b<W.heap.size)) true ts vs ds p:=by
 intro ts
 induction ts with
 | nil=>intro vs ds p _ h _; obtain ⟨rfl,rfl,rfl⟩:=trodAll_nil h; rfl
 | cons t ts ih=>
  intro vs ds p hr h hlt
  obtain ⟨v,vs,d,ds,p1,p2,rfl,rfl,rfl,h1,h2⟩:=trodAll_cons h
  rw [List.all_cons,Bool.and_eq_true,Bool.and_eq_true,decide_eq_true_eq] at hr
  exact ⟨p1,p2,Below.trod hl hr.1.1 hr.1.2 h1 hb fun q hq=>hlt q (List.mem_append_left _ hq),ih vs ds p2 hr.2 h2 fun q hq=>hlt q (List.mem_append_right _ hq),rfl⟩
theorem zD {fn:Func} {s:ChangeSpec} {tb:TypeId} {W':World} {args:Array Value} {ds:List (DataW H)} {p:List MemPlace} (hl:laidOutB P=true)
  (hrow:fn.params.toList.all (fun t=>P.readableRec t && decide (t<P.types.size))=true) (hr:fn.resultTypes = #[tb]) (hb:P.underlying tb=some .bool) (hv:s.vars=[])
  (hs:s.fn H (ds++[])={ results:=[.lit (.bool true)],args:=ds }) (hW:DataW.Whole enc P fn.params.toList s.vars false W args.toList ds [] p) (hA:DataW.TrodAll enc P W 0 (fun _=>true) true fn.params.toList args.toList ds p) (hlt:∀ q ∈ p,q.block<W.heap.size) (hk:Kp [] W W') :
  s.post enc P fn false true false false W args (.bool true) W':=by
 refine ⟨ds,[],p,[],p,[],hW,?_,?_,?_,hk.below.frame _,fun h=>by cases h⟩
 ·rw [hs,hr]
  exact trodAll_mk1 ⟨1,by simp [DataW.trod,Value.cells,hb]⟩
 ·rw [hs]
  exact xq hl hk.below _ _ _ _ hrow hA hlt
 ·rw [hs,hv]; rfl
theorem Bp {C:Checked} {os:Os} {f:FuncId} {fn:Func} {s:ChangeSpec} {conds:List PathCond} {tb:TypeId} (own:ownKnob C.prog.godebug=none) (started:os.Started) (noInit:C.prog.inits.idxOf? f=none) (hfn:C.prog.funcs[f]? = some fn)
  (witness:∃ (w:World) (tape:Tape) (i:Input),w.os=os/\(w.forCall tape i).Shaped C.prog/\i.vars=[]/\Input.okWide C.prog (w.forCall tape i) .any w.heap.size f i /\
   s.pre6 enc C.prog fn conds false (w.forCall tape i).memory i.args/\({}:Assume).holds C.prog (lone (Frame.enter C.prog f i.args .normal) [] (w.forCall tape i)))
  (hl:laidOutB C.prog=true) (hrow:fn.params.toList.all (fun t=>C.prog.readableRec t && decide (t<C.prog.types.size))=true) (hr:fn.resultTypes = #[tb]) (hb:C.prog.underlying tb=some .bool) (hv:s.vars=[])
  (hs:∀ ds:List (DataW H),ds.length=fn.params.size->s.fn H ds={ results:=[.lit (.bool true)],args:=ds })
  (law:∀ (W:World) (args:Array Value),args.size=fn.params.toList.length->(∀ (j:Nat) t v,fn.params.toList[j]? = some t->args[j]? = some v->Ar enc C.prog W t v)->gQ C.prog f args W fun r W'=>r = .bool true/\Kp [] W W') :
  ReturnsInHanded {} C os f .any (s.pre6 enc C.prog fn conds false) (s.post enc C.prog fn false true false false):=by
 refine returnsInHanded_of_change_sized own started noInit hfn witness ?_
 intro W base args ds gs before hval hW _ hsz _
 have hW0:=hW
 obtain ⟨p,q,hA,hV,rfl,_,_⟩:=hW
 rw [hv] at hV
 obtain ⟨rfl,rfl⟩:=trodVars_none hV
 simp only [List.append_nil] at hW0 hsz
 have hlt:∀ x ∈ p,x.block<W.heap.size:=fun x hx=>by simpa using hW0.lt x hx
 have hwt:∀ n ∈ DataW.weightsEach C.prog fn.params.toList ds,n<=140737488351232:=fun n hn=>by
  have hmem:n ∈ DataW.weightsEach C.prog (fn.params.toList++s.plain.varTypes C.prog) ds:=by
   have:∀ (ts us:List TypeId) (ds:List (DataW H)),n ∈ DataW.weightsEach C.prog ts ds->n ∈ DataW.weightsEach C.prog (ts++us) ds:=by
    intro ts
    induction ts with
    | nil=>intro us ds h; simp [DataW.weightsEach] at h
    | cons t ts ih=>
     intro us ds h
     cases ds with
     | nil=>simp [DataW.weightsEach] at h
     | cons d ds=>
      rw [DataW.weightsEach,List.mem_append] at h
      rw [List.cons_append,DataW.weightsEach,List.mem_append]
      exact h.imp id (ih us ds)
   exact this _ _ _ hn
  exact of_decide_eq_true (List.all_eq_true.1 hsz n hmem)
 obtain ⟨hsize,har⟩:=Ea (fun j t v ht hv=>hval j t v (by simpa using ht) hv) hA hwt hlt
 have hdl:ds.length=fn.params.size:=by
  have:∀ (ts:List TypeId) (vs:List Value) (ds:List (DataW H)) (p:List MemPlace),DataW.TrodAll enc C.prog W 0 (fun _=>true) true ts vs ds p->ds.length=ts.length:=by
   intro ts
   induction ts with
   | nil=>intro vs ds p h; obtain ⟨_,rfl,_⟩:=trodAll_nil h; rfl
   | cons t ts ih=>intro vs ds p h; obtain ⟨v,vs,d,ds,p1,p2,rfl,rfl,rfl,_,h2⟩:=trodAll_cons h; simp [ih vs ds p2 h2]
  simpa using this _ _ _ _ hA
 refine Calls.mono (law W args hsize har) fun e W' ⟨v,he,hv',hk⟩=>⟨v,he,?_⟩
 subst hv'
 exact zD hl hrow hr hb hv (by rw [List.append_nil]; exact hs ds hdl) hW0 hA hlt hk
end
end Go.Proofs.YtdggohppeeaipaaGreat
namespace Go.Proofs.YtdggohppeeaipaaGreat
open Go.RowKit Go.ChangeShapes Go.WideShapes
theorem AA:ownKnob Tryz.prog.godebug=none:=by kernel_rfl
theorem zM:laidOutB Tryz.prog=true:=by kernel_rfl
theorem JC:Tr Tryz.prog (au aF) 59 (.nm .snap):=Tr.struct (ss:=[.int,.int,(.lst .int),.bool,.str]) Tryz.underlying59 (by kernel_rfl) (fun cells h=>by
 obtain ⟨y0,l0,rfl,y1,l1,rfl,y2,l2,rfl,y3,l3,rfl,y4,l4,rfl,rfl⟩:=h
 exact ⟨⟨y0,y1,y2,y3,y4⟩,rfl⟩) (fE.cons (Tr.int Tryz.underlying3) rfl (by kernel_rfl) (fE.cons (Tr.int Tryz.underlying3) rfl (by kernel_rfl) (fE.cons (Tr.list Tryz.underlying27 (by kernel_rfl) (by kernel_rfl) (Tr.int Tryz.underlying3)) rfl (by kernel_rfl) (fE.cons (Tr.bool Tryz.underlying4) rfl (by kernel_rfl) (fE.cons (Tr.str Tryz.underlying9) rfl (by kernel_rfl) (fE.nil))))))
theorem JD:Tr Tryz.prog (au aF) 77 (.nm .opn):=Tr.struct (ss:=[.int,.int]) Tryz.underlying77 (by kernel_rfl) (fun cells h=>by
 obtain ⟨y0,l0,rfl,y1,l1,rfl,rfl⟩:=h
 exact ⟨⟨y0,y1⟩,rfl⟩) (fE.cons (Tr.int Tryz.underlying3) rfl (by kernel_rfl) (fE.cons (Tr.int Tryz.underlying3) rfl (by kernel_rfl) (fE.nil)))
theorem JJ:Tr Tryz.prog (au aF) 35 (.nm .reply):=Tr.struct (ss:=[.int,.int]) Tryz.underlying35 (by kernel_rfl) (fun cells h=>by
 obtain ⟨y0,l0,rfl,y1,l1,rfl,rfl⟩:=h
 exact ⟨⟨y0,y1⟩,rfl⟩) (fE.cons (Tr.int Tryz.underlying33) rfl (by kernel_rfl) (fE.cons (Tr.int Tryz.underlying3) rfl (by kernel_rfl) (fE.nil)))
theorem JM:Tr Tryz.prog (au aF) 44 (.nm .sess):=Tr.struct (ss:=[.int,.int,(.nm .reply)]) Tryz.underlying44 (by kernel_rfl) (fun cells h=>by
 obtain ⟨y0,l0,rfl,y1,l1,rfl,y2,l2,rfl,rfl⟩:=h
 exact ⟨⟨y0,y1,y2⟩,rfl⟩) (fE.cons (Tr.int Tryz.underlying3) rfl (by kernel_rfl) (fE.cons (Tr.int Tryz.underlying3) rfl (by kernel_rfl) (fE.cons (JJ) rfl (by kernel_rfl) (fE.nil))))
theorem Jz:Tr Tryz.prog (au aF) 26 (.nm .state):=Tr.struct (ss:=[.int,.int,.int,.int,(.lst (.nm .sess)),(.lst (.nm .opn)),(.lst (.nm .snap))]) Tryz.underlying26 (by kernel_rfl) (fun cells h=>by
 obtain ⟨y0,l0,rfl,y1,l1,rfl,y2,l2,rfl,y3,l3,rfl,y4,l4,rfl,y5,l5,rfl,y6,l6,rfl,rfl⟩:=h
 exact ⟨⟨y0,y1,y2,y3,y4,y5,y6⟩,rfl⟩) (fE.cons (Tr.int Tryz.underlying3) rfl (by kernel_rfl) (fE.cons (Tr.int Tryz.underlying3) rfl (by kernel_rfl) (fE.cons (Tr.int Tryz.underlying3) rfl (by kernel_rfl) (fE.cons (Tr.int Tryz.underlying3) rfl (by kernel_rfl) (fE.cons (Tr.list Tryz.underlying22 (by kernel_rfl) (by kernel_rfl) (JM)) rfl (by kernel_rfl) (fE.cons (Tr.list Tryz.underlying23 (by kernel_rfl) (by kernel_rfl) (JD)) rfl (by kernel_rfl) (fE.cons (Tr.list Tryz.underlying24 (by kernel_rfl) (by kernel_rfl) (JC)) rfl (by kernel_rfl) (fE.nil))))))))
theorem I_:Tr Tryz.prog (au aF) 29 (.nm .command):=Tr.struct (ss:=[.int,.int,.int,.int,.int,.int,(.lst .int),.str]) Tryz.underlying29 (by kernel_rfl) (fun cells h=>by
 obtain ⟨y0,l0,rfl,y1,l1,rfl,y2,l2,rfl,y3,l3,rfl,y4,l4,rfl,y5,l5,rfl,y6,l6,rfl,y7,l7,rfl,rfl⟩:=h
 exact ⟨⟨y0,y1,y2,y3,y4,y5,y6,y7⟩,rfl⟩) (fE.cons (Tr.int Tryz.underlying3) rfl (by kernel_rfl) (fE.cons (Tr.int Tryz.underlying3) rfl (by kernel_rfl) (fE.cons (Tr.int Tryz.underlying3) rfl (by kernel_rfl) (fE.cons (Tr.int Tryz.underlying3) rfl (by kernel_rfl) (fE.cons (Tr.int Tryz.underlying3) rfl (by kernel_rfl) (fE.cons (Tr.int Tryz.underlying3) rfl (by kernel_rfl) (fE.cons (Tr.list Tryz.underlying27 (by kernel_rfl) (by kernel_rfl) (Tr.int Tryz.underlying3)) rfl (by kernel_rfl) (fE.cons (Tr.str Tryz.underlying9) rfl (by kernel_rfl) (fE.nil)))))))))
set_option maxRecDepth 100000 in
theorem ky (os:Os) (started:os.Started) (H:Type) (enc:TypeId × Value->H) :
  ReturnsInHanded {} Tryz.checked os 5 .any (Rows.migrateDoesSpec.pre6 enc Tryz.prog Tryz.f5 Rows.migrateDoesRow.domain false) (Rows.migrateDoesSpec.post enc Tryz.prog Tryz.f5 false true false false):=by
 refine Bp (C:=Tryz.checked) AA started (by kernel_rfl) Tryz.func5 (ChangeSpec.witness6 (enc:=enc) (C:=Tryz.checked) false ⟨#[],#[.agg #[.int .i64 0,.int .i64 0,.int .i64 0,.int .i64 0,.slice none 0 0,.slice none 0 0,.slice none 0 0],.agg #[.int .i64 0,.int .i64 0,.int .i64 0,.int .i64 0,.int .i64 0,.int .i64 0,.slice none 0 0,.string ⟨#[]⟩],.int .u8 0],[]⟩ 8 (by kernel_rfl) (by kernel_rfl) (by kernel_rfl) (by kernel_rfl)) zM (by kernel_rfl) (by kernel_rfl) Tryz.underlying4 rfl (fun ds h=>?_) ?_
 ·match ds,h with
  | [d0,d1,d2],_=>rfl
 ·intro W args hs ha
  obtain ⟨l⟩:=args
  match l,hs with
  | [v0,v1,v2],_=>
   obtain ⟨x0,h0⟩:=Ar.struct (shp:=au aF) (ha 0 26 _ rfl rfl) Tryz.underlying26 Jz
   obtain ⟨x1,h1⟩:=Ar.struct (shp:=au aF) (ha 1 29 _ rfl rfl) Tryz.underlying29 I_
   obtain ⟨x2,h2⟩:=Ar.u8 (shp:=au aF) (ha 2 5 _ rfl rfl) Tryz.underlying5
   exact Da (Cs x0 x1 x2) rfl (.cons h0 (.cons h1 (.cons h2 .nil)))
theorem migrateDoes_holds:Rows.MigrateDoesSaid:=
 OpenClaim.holds_of_wide 5 Tryz.f5 rfl rfl rfl rfl rfl rfl rfl ⟨rfl,rfl,rfl,rfl,rfl⟩ rfl rfl rfl rfl rfl (by kernel_rfl) Tryz.func5 (by kernel_rfl)
  (of_decide_eq_true (by kernel_rfl)) (by unfold Func.isWrapper; first | (rw [if_pos (by decide +kernel)]; kernel_rfl) | (rw [if_neg (by decide +kernel)]; exact ⟨rfl,rfl⟩))
  (fun os started H enc _=>ky os started H enc)
end Go.Proofs.YtdggohppeeaipaaGreat
