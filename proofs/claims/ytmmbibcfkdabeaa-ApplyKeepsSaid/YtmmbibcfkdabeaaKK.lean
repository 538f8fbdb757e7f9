/- The law: for every input it returns true, and each argument reads behind the call as it read before; and what leads there. Conditions: each lemma's own. -/
import Derived.ProofKit
import Derived.SizedLaws
import Derived.Test.YtmmbibcfkdabeaaChecked
import Derived.Test.YtmmbibcfkdabeaaRows
import Derived.Test.YtmmbibcfkdabeaaKKM5
set_option linter.unusedVariables false
set_option linter.unusedSimpArgs false
namespace Go.Proofs.Ytmmbibcfkdabeaa
open Go.RowKit
theorem qg {s:State} {v:Int} (a:ba s.version 1 3=true) (b:ba s.next 1 1048576=true) (c:ba s.keep 0 8=true) (d:ba s.quota 0 (if v<3 then 0 else 64)=true):bY s v=true:=by
 unfold bY; rw [a,b,c,d]; rfl
theorem gR {s:State} {v:Int} (h:bY s v=true):ba s.version 1 3=true/\ba s.next 1 1048576=true/\ba s.keep 0 8=true/\ba s.quota 0 (if v<3 then 0 else 64)=true:=by
 unfold bY at h; simp only [Bool.and_eq_true] at h; exact ⟨h.1.1.1,h.1.1.2,h.1.2,h.2⟩
theorem xD {n a b:Int} (h1:a<=n) (h2:n<=b):ba n a b=true:=by unfold ba; rw [decide_eq_true h1,decide_eq_true h2]; rfl
theorem eV {s:State} (M:mayF s s.version=0) {nx:Int} {op:List Opn} {sn:List Snap} (hn:1<=nx/\nx<=1048576) (ho:ai Opn.set 8 0 op=true/\∀ x ∈ op,aM x=true) (h1:sn.length<=16) (h2:ai Snap.id (nx - 1) 0 sn=true) (h3:∀ x ∈ sn,bl s.version (cW s.version) x=true):mayF (State.mk s.version nx s.keep s.quota s.sess op sn) s.version=0:=by
 obtain ⟨k1,k2,k3,k4,k5⟩:=bQ M
 obtain ⟨n1,n2,n3,n4⟩:=gR k2
 refine mR k1 (qg n1 (xD hn.1 hn.2) n3 n4) k3 ?_ (oC h1 h2 h3)
 show (ai Opn.set 8 0 op && op.all aM)=true
 rw [ho.1,List.all_eq_true.2 ho.2]; rfl
theorem cZ {s:State} (M:mayF s s.version=0):ai Opn.set 8 0 s.opens=true/\∀ x ∈ s.opens,aM x=true:=by
 have h:=(bQ M).2.2.2.1
 simp only [fK,Bool.and_eq_true,List.all_eq_true] at h
 exact h
theorem jk {s:State} {v:Int} (M:mayF s v=0):ai Sess.client 8 0 s.sess=true/\∀ x ∈ s.sess,aN x=true:=by
 have h:=(bQ M).2.2.1
 simp only [gV,Bool.and_eq_true,List.all_eq_true] at h
 exact h
theorem hY {v t:Int} {x:Snap} (h:bl v t x=true):cQ x.chunks=0/\ba x.set 1 8=true/\(x.held=false\/2<=v)/\((x.tag.b.length:Nat):Int)<=t:=by
 simp only [bl,Bool.and_eq_true,decide_eq_true_eq,Bool.or_eq_true,Bool.not_eq_true'] at h
 exact ⟨h.1.1.1,h.1.1.2,h.1.2,h.2⟩
theorem lF {v t:Int} {x:Snap} (h1:cQ x.chunks=0) (h2:ba x.set 1 8=true) (h3:x.held=false\/2<=v) (h4:((x.tag.b.length:Nat):Int)<=t):bl v t x=true:=by
 simp only [bl,Bool.and_eq_true,decide_eq_true_eq,Bool.or_eq_true,Bool.not_eq_true']
 exact ⟨⟨⟨h1,h2⟩,h3⟩,h4⟩
theorem mF {s:State} (M:mayF s s.version=0) {n:Nat} (h:n<s.snaps.length):bl s.version (cW s.version) (s.snaps.getD n (dflt (.nm .snap)))=true:=
 (eN M).2.2 _ (List.mem_of_getElem? (gd (d:=dflt (.nm .snap)) (by omega)))
theorem uK {s:State} (M:mayF s s.version=0) {n:Nat} (h:n<s.snaps.length) {x:Snap} (hi:x.id=(s.snaps.getD n (dflt (.nm .snap))).id) (hx:bl s.version (cW s.version) x=true):mayF (State.mk s.version s.next s.keep s.quota s.sess s.opens (s.snaps.set n x)) s.version=0:=by
 obtain ⟨k1,k2,k3⟩:=eN M
 refine eV M (jV M) (cZ M) (by rw [List.length_set]; exact k1) ?_ fun y hy=>?_
 ·rw [fM,fD (d:=dflt (.nm .snap)) h hi,<- fM]; exact k2
 ·rcases List.mem_or_eq_of_mem_set hy with hy | rfl
  ·exact k3 y hy
  ·exact hx
structure ActOk (s:State) (r:State × Reply):Prop where
 may:mayF r.1 r.1.version=0
 ver:r.1.version=s.version
 nxt:s.next<=r.1.next/\r.1.next<=s.next+1
 code:0<=r.2.code/\r.2.code<=99
 n:0<=r.2.n/\r.2.n<=1048576
theorem ActOk.refl {s:State} (M:mayF s s.version=0) {e n:Int} (h1:0<=e/\e<=99) (h2:0<=n/\n<=1048576):ActOk s (s,⟨e,n⟩):=⟨M,rfl,⟨Int.le_refl _,by show s.next<=s.next+1; omega⟩,h1,h2⟩
theorem sg {Q:State × Reply->Prop} {s:State} {c:Command} (h0:∀ e:Int,¬ e=0->0<=e->e<=99->Q (s,⟨e,0⟩))
  (ht:bJ s c=0->c.kind=11->Q (ax (cM c) c s)) (hh:∀ b,bJ s c=0->(b=true->c.kind=9)->(c.kind=9\/c.kind=10)->Q (ax (bq b) c s)) (hl:bJ s c=0->c.kind=7->Q (ax bh c s)) (hp:bJ s c=0->c.kind=5->Q (ax aK c s))
  (hq:bJ s c=0->c.kind=12->Q (cr c s)) (hk:bJ s c=0->c.kind=6->Q (dj c s)) (ha:bJ s c=0->c.kind=4->Q (aY s c)) (hc:bJ s c=0->c.kind=3->Q (aO s c)) (hb:bJ s c=0->c.kind=2->Q (aW s c)):Q (bC s c):=by
 unfold bC
 split
 ·exact h0 _ (by assumption) n_.1 n_.2
 ·rename_i h
  have h:bJ s c=0:=Classical.not_not.1 h
  unfold xd
  split
  ·exact ht h (by assumption)
  split
  ·rename_i _ k; exact hh _ h (fun e=>by cases e) (.inr k)
  split
  ·rename_i _ _ k; exact hh _ h (fun _=>k) (.inl k)
  split
  ·exact hl h (by assumption)
  split
  ·exact hp h (by assumption)
  split
  ·exact hq h (by assumption)
  split
  ·exact hk h (by assumption)
  split
  ·exact ha h (by assumption)
  split
  ·exact hc h (by assumption)
  split
  ·exact hb h (by assumption)
  ·exact h0 1 (by decide) (by decide) (by decide)
theorem cV {Q:State × Reply->Prop} {f:State->Nat->State × Reply} {s:State} {c:Command} (h0:Q (s,⟨15,0⟩)) (h:∀ n:Nat,(n:Int)=ah Snap.id c.id s.snaps->n<s.snaps.length->Q (f s n)):Q (ax f c s):=by
 unfold ax
 split
 ·exact h0
 ·rename_i hp
  have:=bp (key:=Snap.id) (want:=c.id) (l:=s.snaps) (by omega)
  exact h _ (by omega) (by omega)
theorem tN {s:State} {c:Command} (M:mayF s s.version=0):ActOk s (bC s c):=by
 have mk:∀ {e:Int},0<=e->e<=99->ActOk s (s,⟨e,0⟩):=fun h1 h2=>ActOk.refl M ⟨h1,h2⟩ ⟨Int.le_refl _,by decide⟩
 have one:s.next<=s.next+1:=by omega
 have z:(0:Int)<=0/\(0:Int)<=99:=by decide
 have zn:(0:Int)<=0/\(0:Int)<=1048576:=by decide
 have z1:(0:Int)<=1/\(1:Int)<=1048576:=by decide
 refine sg (fun e _ h1 h2=>mk h1 h2) (fun A k=>?_) (fun b A kb k=>?_) (fun A k=>?_) (fun A k=>?_) (fun A k=>?_) (fun A k=>?_) (fun A k=>?_) (fun A k=>?_) (fun A k=>?_)
 ·-- a tag
  obtain ⟨⟨v1,v2⟩,_,nv,F⟩:=dU (eX A).2
  refine cV (Q:=ActOk s) (mk (by decide) (by decide)) fun n hn hl=>?_
  obtain ⟨p1,p2,p3,p4⟩:=hY (mF M hl)
  rw [k,show fR 11=3 from rfl] at nv
  have tm:cW s.version=16:=by unfold cW; rw [if_neg (by omega)]
  refine ⟨uK M hl rfl (lF p1 p2 p3 ?_),rfl,⟨Int.le_refl _,one⟩,z,zn⟩
  rw [tm]; exact Cf F k
 ·-- a hold
  obtain ⟨⟨v1,v2⟩,_,nv,F⟩:=dU (eX A).2
  refine cV (Q:=ActOk s) (mk (by decide) (by decide)) fun n hn hl=>?_
  obtain ⟨p1,p2,p3,p4⟩:=hY (mF M hl)
  unfold bq
  split
  ·exact mk (by decide) (by decide)
  ·refine ⟨uK M hl rfl (lF p1 p2 (.inr ?_) p4),rfl,⟨Int.le_refl _,one⟩,z,z1⟩
   rcases k with k | k
   ·rw [k,show fR 9=2 from rfl] at nv; exact nv
   ·rw [k,show fR 10=2 from rfl] at nv; exact nv
 ·-- a look
  refine cV (Q:=ActOk s) (mk (by decide) (by decide)) fun n hn hl=>?_
  have h1:=pQ (yj (mF M hl))
  exact ActOk.refl M ⟨by decide,by decide⟩ ⟨by omega,by omega⟩
 ·-- a prune
  refine cV (Q:=ActOk s) (mk (by decide) (by decide)) fun n hn hl=>?_
  unfold aK
  split
  ·exact mk (by decide) (by decide)
  split
  ·exact mk (by decide) (by decide)
  ·obtain ⟨k1,k2,k3⟩:=eN M
   have hs:(aQ (s.snaps.getD n (dflt (.nm .snap))).id s.snaps).Sublist s.snaps:=List.filter_sublist
   have hf:=Ae (l:=s.snaps) (id:=(s.snaps.getD n (dflt (.nm .snap))).id)
   exact ⟨eV M (jV M) (cZ M) (Nat.le_trans hs.length_le k1) (lq hs k2) fun x hx=>k3 x (hs.subset hx),rfl,⟨Int.le_refl _,one⟩,z,⟨by dsimp only; omega,by dsimp only; omega⟩⟩
 ·-- a quota
  obtain ⟨⟨v1,v2⟩,_,nv,F⟩:=dU (eX A).2
  rw [k,show fR 12=3 from rfl] at nv
  obtain ⟨k1,k2,k3,k4,k5⟩:=bQ M
  obtain ⟨n1,n2,n3,n4⟩:=gR k2
  have hn:=(yb F).2.2 k
  have hd:=wc (l:=s.snaps)
  refine ⟨mR k1 (qg n1 n2 n3 ?_) k3 k4 k5,rfl,⟨Int.le_refl _,one⟩,z,⟨by show (0:Int)<=(distF s.snaps:Int); omega,by show (distF s.snaps:Int)<=1048576; omega⟩⟩
  show ba c.n 0 (if s.version<3 then 0 else 64)=true
  rw [if_neg (by omega)]; exact xD hn.1 hn.2
 ·-- a keep
  obtain ⟨_,_,_,F⟩:=dU (eX A).2
  obtain ⟨k1,k2,k3,k4,k5⟩:=bQ M
  obtain ⟨n1,n2,n3,n4⟩:=gR k2
  have hn:=(yb F).2.1 k
  exact ⟨mR k1 (qg n1 n2 (xD hn.1 hn.2) n4) k3 k4 k5,rfl,⟨Int.le_refl _,one⟩,z,zn⟩
 ·-- an abort
  unfold aY
  split
  ·exact mk (by decide) (by decide)
  ·obtain ⟨k1,k2,k3⟩:=eN M
   have hs:=uL (l:=s.opens) (i:=bF s c) (by omega)
   exact ⟨eV M (jV M) ⟨lq hs (cZ M).1,fun x hx=>(cZ M).2 x (hs.subset hx)⟩ k1 k2 k3,rfl,⟨Int.le_refl _,one⟩,z,zn⟩
 ·-- a commit
  obtain ⟨⟨v1,v2⟩,_,nv,F⟩:=dU (eX A).2
  unfold aO
  split
  ·exact mk (by decide) (by decide)
  split
  ·exact mk (by decide) (by decide)
  split
  ·exact mk (by decide) (by decide)
  ·rename_i o1 o2 o3
   obtain ⟨k1,k2,k3⟩:=eN M
   have hnx:=jV M
   have hs:=uL (l:=s.opens) (i:=bF s c) (by omega)
   have hset:=uy F (.inr (.inl k))
   refine ⟨eV M ⟨by omega,by omega⟩ ⟨lq hs (cZ M).1,fun x hx=>(cZ M).2 x (hs.subset hx)⟩ (by rw [List.length_append]; simp only [List.length_cons,List.length_nil]; omega) ?_ fun x hx=>?_,rfl,⟨by dsimp only; omega,by dsimp only; omega⟩,z,⟨by dsimp only; omega,by dsimp only; omega⟩⟩
   ·exact uj (most:=s.next - 1) (by dsimp only; omega) (by dsimp only; omega) (by omega) k2
   ·rcases List.mem_append.1 hx with hx | hx
    ·exact k3 x hx
    ·rw [List.mem_singleton] at hx; subst hx
     refine lF (tf F k) (xD hset.1 hset.2) (.inl rfl) ?_
     show (0:Int)<=cW s.version
     unfold cW; split <;> decide
 ·-- a begin
  obtain ⟨⟨v1,v2⟩,_,nv,F⟩:=dU (eX A).2
  have hset:=uy F (.inl k)
  have hcl:=l_ F (by omega)
  unfold aW
  split
  ·rename_i hp
   have hl:=bp hp
   have ho:=(cZ M).2 _ (List.mem_of_getElem? (gd (d:=dflt (.nm .opn)) (k:=(ah Opn.set c.set s.opens).toNat) (l:=s.opens) (by omega)))
   have:=oI (show ba _ 1 8=true from ho)
   exact ActOk.refl M ⟨by decide,by decide⟩ ⟨by omega,by omega⟩
  ·rename_i hp
   obtain ⟨k1,k2,k3⟩:=eN M
   refine ⟨eV M (jV M) ⟨pt (x:=Opn.mk c.set c.client) (cZ M).1 (by dsimp only; omega) (by dsimp only; omega) fun y hy=>ns (key:=Opn.set) (want:=c.set) (l:=s.opens) (by omega) y hy,fun x hx=>?_⟩ k1 k2 k3,rfl,⟨Int.le_refl _,one⟩,z,zn⟩
   rcases vy hx with rfl | hx
   ·exact xD hcl.1 hcl.2
   ·exact (cZ M).2 x hx
end Go.Proofs.Ytmmbibcfkdabeaa
namespace Go.Proofs.Ytmmbibcfkdabeaa
open Go.RowKit
theorem ox {s:State} {v:Int} (M:mayF s v=0) {se:List Sess} (h:ai Sess.client 8 0 se=true/\∀ x ∈ se,aN x=true):mayF (State.mk s.version s.next s.keep s.quota se s.opens s.snaps) v=0:=by
 obtain ⟨k1,k2,k3,k4,k5⟩:=bQ M
 refine mR k1 k2 ?_ k4 k5
 show (ai Sess.client 8 0 se && se.all aN)=true
 rw [h.1,List.all_eq_true.2 h.2]; rfl
theorem AL {s:State} {c:Command} (M:mayF s s.version=0) (h:bO c s.version=0) (k:c.kind=8) (hn:c.n=s.version+1):mayF (State.mk c.n s.next s.keep s.quota s.sess s.opens s.snaps) c.n=0:=by
 obtain ⟨⟨v1,v2⟩,_,nv,F⟩:=dU h
 have hr:=(yb F).1 k
 obtain ⟨k1,k2,k3,k4,k5⟩:=bQ M
 obtain ⟨n1,n2,n3,n4⟩:=gR k2
 obtain ⟨s1,s2,s3⟩:=eN M
 have hq:=oI n4
 refine mR (xD (by omega) hr.2) (qg (xD (by dsimp only; omega) hr.2) n2 n3 ?_) k3 k4 (oC s1 s2 fun x hx=>?_)
 ·show ba s.quota 0 (if c.n<3 then 0 else 64)=true
  refine xD hq.1 ?_
  have:=hq.2
  split at this <;> split <;> omega
 ·obtain ⟨p1,p2,p3,p4⟩:=hY (s3 x hx)
  refine lF p1 p2 (p3.imp id fun h=>by omega) (Int.le_trans p4 ?_)
  unfold cW; split <;> split <;> omega
theorem CX {s:State} {c:Command} (M:mayF s s.version=0) (h:bO c s.version=0) (k:c.kind=1) (hp:ah Sess.client c.client s.sess<0):mayF (State.mk s.version s.next s.keep s.quota (fJ s.sess (s.sess.takeWhile fun y=>decide (y.client<c.client)).length ⟨c.client,0,⟨0,0⟩⟩) s.opens s.snaps) s.version=0:=by
 obtain ⟨_,_,_,F⟩:=dU h
 have hc:=l_ F (by omega)
 refine ox M ⟨pt (x:=Sess.mk c.client 0 (Reply.mk 0 0)) (jk M).1 (by dsimp only; omega) (by dsimp only; omega) fun y hy=>ns (key:=Sess.client) (want:=c.client) (l:=s.sess) hp y hy,fun x hx=>?_⟩
 rcases vy hx with rfl | hx
 ·rfl
 ·exact (jk M).2 x hx
theorem yt {s:State} {c:Command} (M:mayF s s.version=0) (h:bO c s.version=0) (h3:¬ c.kind=8) (h4:¬ c.kind=1) (hk:0<=ah Sess.client c.client s.sess):mayF (State.mk (bC s c).1.version (bC s c).1.next (bC s c).1.keep (bC s c).1.quota (s.sess.set (ah Sess.client c.client s.sess).toNat (Sess.mk (s.sess.getD (ah Sess.client c.client s.sess).toNat (dflt (.nm .sess))).client c.seq (bC s c).2)) (bC s c).1.opens (bC s c).1.snaps) (bC s c).1.version=0:=by
 obtain ⟨a1,a2,a3,a4,a5⟩:=tN (c:=c) M
 obtain ⟨_,_,_,F⟩:=dU h
 have hq:=BB F h3 h4
 have hl:=bp hk
 have hn:(ah Sess.client c.client s.sess).toNat<s.sess.length:=by omega
 refine ox a1 ⟨?_,fun x hx=>?_⟩
 ·rw [fM,fD (d:=dflt (.nm .sess)) (x:=Sess.mk (s.sess.getD (ah Sess.client c.client s.sess).toNat (dflt (.nm .sess))).client c.seq (bC s c).2) hn rfl,<- fM]; exact (jk M).1
 ·rcases List.mem_or_eq_of_mem_set hx with hx | rfl
  ·exact (jk M).2 x hx
  ·show ((ba c.seq 0 1048576 && ba (bC s c).2.code 0 99) && ba (bC s c).2.n 0 1048576)=true
   rw [xD (n:=c.seq) (a:=0) (b:=1048576) (by omega) hq.2,xD a4.1 a4.2,xD a5.1 a5.2]; rfl
end Go.Proofs.Ytmmbibcfkdabeaa
namespace Go.Proofs.Ytmmbibcfkdabeaa
open Go.RowKit
section
variable {α:Type} {key:α->Int} {most:Int}
theorem oJ:∀ {l:List α} {a:Int},ai key most a l=true->∀ x ∈ l,a<key x
 | [],_,_,_,h=>by cases h
 | y :: l,a,k,x,h=>by
  simp only [ai,Bool.and_eq_true] at k
  have h3:=oI k.1
  rcases List.mem_cons.1 h with rfl | h
  ·omega
  ·have:=oJ k.2 x h; omega
theorem uq:∀ {l:List α} {a:Int},ai key most a l=true->∀ x ∈ l,∀ y ∈ l,key x=key y->x=y
 | [],_,_,_,h,_,_,_=>by cases h
 | z :: l,a,k,x,hx,y,hy,e=>by
  simp only [ai,Bool.and_eq_true] at k
  rcases List.mem_cons.1 hx with rfl | hx2
  ·rcases List.mem_cons.1 hy with rfl | hy2
   ·rfl
   ·have:=oJ k.2 y hy2; omega
  ·rcases List.mem_cons.1 hy with rfl | hy2
   ·have:=oJ k.2 x hx2; omega
   ·exact uq k.2 x hx2 y hy2 e
theorem wy {want:Int} {l:List α} {d:α} (h:0<=ah key want l):key (l.getD (ah key want l).toNat d)=want/\l.getD (ah key want l).toNat d ∈ l:=by
 unfold ah at *
 cases hf:l.findIdx? (fun x=>decide (key x=want)) with
 | none=>rw [hf] at h; dsimp only at h; omega
 | some i=>
  obtain ⟨hi,hp,_⟩:=List.findIdx?_eq_some_iff_getElem.1 hf
  have e:l.getD ((i:Int)).toNat d=l[i]:=by rw [Int.toNat_natCast,List.getD_eq_getElem?_getD,List.getElem?_eq_getElem hi,Option.getD_some]
  dsimp only
  rw [e]
  exact ⟨of_decide_eq_true hp,List.getElem_mem hi⟩
theorem xC {l:List α} {i:Nat} {x y:α} (h:y ∈ l):y ∈ fJ l i x:=by
 unfold fJ
 rw [<- List.take_append_drop i l] at h
 rcases List.mem_append.1 h with h | h
 ·exact List.mem_append.2 (.inl h)
 ·exact List.mem_append.2 (.inr (List.mem_cons_of_mem _ h))
theorem BA {l:List α} {i:Nat} {x:α}:l.length<=(fJ l i x).length:=by
 unfold fJ; rw [List.length_append,List.length_cons,List.length_take,List.length_drop]; omega
end
structure DoOk (s:State) (c:Command) (r:State × Reply):Prop where
 may:mayF r.1 r.1.version=0
 ver:r.1.version=if c.kind=8/\r.2.code=0 then s.version+1 else s.version
 nxt:s.next<=r.1.next/\r.1.next<=s.next+1
 len:s.sess.length<=r.1.sess.length
 seq:∀ x ∈ s.sess,∃ y ∈ r.1.sess,y.client=x.client/\x.seq<=y.seq/\y.seq<=x.seq+1
theorem lp {s:State} (c:Command) {r:Reply} (M:mayF s s.version=0) (h:c.kind=8->¬ r.code=0):DoOk s c (s,r):=
 ⟨M,(if_neg fun hc=>h hc.1 hc.2).symm,⟨Int.le_refl _,by dsimp only; omega⟩,Nat.le_refl _,fun x hx=>⟨x,hx,rfl,Int.le_refl _,by omega⟩⟩
theorem Dn {s:State} {c:Command} (M:mayF s s.version=0):DoOk s c (cR s c):=by
 by_cases h:bO c s.version=0
 ·by_cases k8:c.kind=8
  ·by_cases hn:c.n=s.version+1
   ·have e:cR s c=(State.mk c.n s.next s.keep s.quota s.sess s.opens s.snaps,⟨0,c.n⟩):=zU (nu M h) k8 hn
    rw [e]
    exact ⟨AL M h k8 hn,(hn.trans (if_pos ⟨k8,rfl⟩).symm:_),⟨Int.le_refl _,by dsimp only; omega⟩,Nat.le_refl _,fun x hx=>⟨x,hx,rfl,Int.le_refl _,by omega⟩⟩
   ·rw [AE (nu M h) k8 hn]; exact lp c M fun _=>by decide
  ·by_cases k1:c.kind=1
   ·by_cases hp:0<=ah Sess.client c.client s.sess
    ·rw [zk (nu M h) k1 hp]; exact lp c M fun k=>absurd k k8
    ·have hp:ah Sess.client c.client s.sess<0:=by omega
     rw [xB (nu M h) k1 hp]
     exact ⟨CX M h k1 hp,(if_neg fun hc=>k8 hc.1).symm,⟨Int.le_refl _,by dsimp only; omega⟩,BA,fun x hx=>⟨x,xC hx,rfl,Int.le_refl _,by omega⟩⟩
   ·by_cases hq:0<=ah Sess.client c.client s.sess/\c.seq=(s.sess.getD (ah Sess.client c.client s.sess).toNat (dflt (.nm .sess))).seq+1
    ·obtain ⟨hk,hq⟩:=hq
     rw [vj M h k8 k1 hk hq]
     obtain ⟨a1,a2,a3,a4,a5⟩:=tN (c:=c) M
     have hl:=bp hk
     have hn:(ah Sess.client c.client s.sess).toNat<s.sess.length:=by omega
     refine ⟨yt M h k8 k1 hk,a2.trans (if_neg fun hc=>k8 hc.1).symm,a3,by dsimp only; rw [List.length_set]; exact Nat.le_refl _,fun x hx=>?_⟩
     dsimp only
     generalize (ah Sess.client c.client s.sess).toNat=n at *
     obtain ⟨j,hj,rfl⟩:=List.getElem_of_mem hx
     by_cases hjn:j=n
     ·refine ⟨_,List.mem_set hn _,?_⟩
      rw [List.getD_eq_getElem?_getD,List.getElem?_eq_getElem hn,Option.getD_some] at hq ⊢
      subst hjn
      exact ⟨rfl,by dsimp only; omega,by dsimp only; omega⟩
     ·exact ⟨s.sess[j],List.mem_of_getElem? (i:=j) (by rw [List.getElem?_set_ne (fun hc=>hjn hc.symm),List.getElem?_eq_getElem hj]),rfl,Int.le_refl _,by omega⟩
    ·have e:=vg M h k8 k1 (by
      by_cases hk:ah Sess.client c.client s.sess<0
      ·exact .inl hk
      ·exact .inr fun hc=>hq ⟨by omega,hc⟩)
     have e2:cR s c=(s,(cR s c).2):=Prod.ext e rfl
     rw [e2]; exact lp c M fun k=>absurd k k8
 ·rw [Gb M h]; exact lp c M fun _=>h
end Go.Proofs.Ytmmbibcfkdabeaa
namespace Go.Proofs.Ytmmbibcfkdabeaa
open Go.RowKit
section
variable {s:State} {c:Command}
end
end Go.Proofs.Ytmmbibcfkdabeaa
namespace Go.Proofs.Ytmmbibcfkdabeaa
open Go.RowKit
section
variable {α:Type} {key:α->Int} {most:Int}
theorem yM:∀ {l:List α} {a:Int} {i:Nat} {x:α},ai key most a l=true->l[i]? = some x->∀ y ∈ l.take i,key y<key x
 | [],_,_,_,_,h,_,_=>by simp at h
 | z :: l,a,0,x,_,_,y,hy=>by simp at hy
 | z :: l,a,i+1,x,k,h,y,hy=>by
  simp only [ai,Bool.and_eq_true] at k
  rw [List.getElem?_cons_succ] at h
  rw [List.take_succ_cons] at hy
  rcases List.mem_cons.1 hy with rfl | hy
  ·exact oJ k.2 x (List.mem_of_getElem? h)
  ·exact yM k.2 h y hy
theorem qG {l:List α} {a:Int} {i:Nat} {x:α} (k:ai key most a l=true) (h:l[i]? = some x):ah key (key x) l=(i:Int):=
 (bW (eg.2 fun y hy e=>by have:=yM k h y hy; omega) h rfl).symm
end
theorem Cg {l:List Snap} {id:Int}:ah Snap.id id (aQ id l)<0:=by
 have:ah Snap.id id (aQ id l) = -1:=eg.2 fun y hy=>by
  have:=(List.mem_filter.1 hy).2
  simpa using this
 omega
section
variable {s:State} {x:Snap} {i:Nat}
theorem d_ {v:Int} (M:mayF s v=0):ai Snap.id (s.next - 1) 0 s.snaps=true:=by
 have h:=(bQ M).2.2.2.2
 simp only [cH,Bool.and_eq_true,Bool.not_eq_true',Bool.or_eq_false_iff,Bool.not_eq_false'] at h
 exact h.1.2
end
section
variable {s:State} {x:Snap} {i:Nat}
theorem uU (hx:s.snaps[i]? = some x):s.snaps.getD i (dflt (.nm .snap))=x:=by rw [List.getD_eq_getElem?_getD,hx]; rfl
end
section
variable {s:State} {x:Snap} {i:Nat}
end
end Go.Proofs.Ytmmbibcfkdabeaa
namespace Go.Proofs.Ytmmbibcfkdabeaa
open Go.RowKit
theorem sD {l l':List Snap} (h:l.map Snap.chunks=l'.map Snap.chunks):distF l=distF l':=by
 have c:∀ n:Int,bT n l=bT n l':=fun n=>by
  unfold bT; rw [List.flatMap_def,List.flatMap_def,h]
 unfold distF cJ
 simp only [c]
def keepsX (s:State) (c:Command) (r:State × Reply) (i:Nat) (x:Snap):Prop:=
 (ah Snap.id x.id r.1.snaps<0/\c.kind=5/\c.id=x.id/\x.held=false/\eH s i=false/\r.2.code=0) \/
 (0<=ah Snap.id x.id r.1.snaps/\∃ y,r.1.snaps.getD (ah Snap.id x.id r.1.snaps).toNat (dflt (.nm .snap))=y/\y.chunks=x.chunks/\y.set=x.set/\(y.held=x.held\/c.kind=9\/c.kind=10)/\(y.tag=x.tag\/c.kind=11))
structure KeepOk (s:State) (c:Command) (r:State × Reply):Prop where
 x:∀ i x,s.snaps[i]? = some x->keepsX s c r i x
 more:r.1.snaps.length<=s.snaps.length\/(r.1.snaps.length=s.snaps.length+1/\c.kind=3/\r.2.code=0/\(r.1.snaps.getD s.snaps.length (dflt (.nm .snap))).id=r.2.n/\(s.quota=0\/(distF r.1.snaps:Int)<=s.quota))
theorem sL {s:State} {c:Command} {r:State × Reply} {i j:Nat} {x y:Snap} {m:Int} (k:ai Snap.id m 0 r.1.snaps=true) (h:r.1.snaps[j]? = some y) (e:y.id=x.id) (h1:y.chunks=x.chunks) (h2:y.set=x.set) (h3:y.held=x.held\/c.kind=9\/c.kind=10) (h4:y.tag=x.tag\/c.kind=11):keepsX s c r i x:=by
 have p:=qG k h
 rw [e] at p
 refine .inr ⟨by omega,y,?_,h1,h2,h3,h4⟩
 rw [p,Int.toNat_natCast,List.getD_eq_getElem?_getD,h]; rfl
theorem bc {s:State} {c:Command} {r:State × Reply} (M:mayF s s.version=0) (e:r.1.snaps=s.snaps):KeepOk s c r:=
 ⟨fun i x hx=>sL (by rw [e]; exact d_ M) (by rw [e]; exact hx) rfl rfl rfl (.inl rfl) (.inl rfl),.inl (by rw [e]; exact Nat.le_refl _)⟩
theorem rT {s:State} {c:Command} {r:State × Reply} {n:Nat} {y:Snap} (M:mayF s s.version=0) (hn:n<s.snaps.length) (e:r.1.snaps=s.snaps.set n y) (e0:y.id=(s.snaps.getD n (dflt (.nm .snap))).id) (h1:y.chunks=(s.snaps.getD n (dflt (.nm .snap))).chunks) (h2:y.set=(s.snaps.getD n (dflt (.nm .snap))).set) (h3:y.held=(s.snaps.getD n (dflt (.nm .snap))).held\/c.kind=9\/c.kind=10) (h4:y.tag=(s.snaps.getD n (dflt (.nm .snap))).tag\/c.kind=11):KeepOk s c r:=by
 have k:ai Snap.id (s.next - 1) 0 r.1.snaps=true:=by
  rw [e,fM,fD (d:=dflt (.nm .snap)) hn e0,<- fM]; exact d_ M
 refine ⟨fun i x hx=>?_,.inl (by rw [e,List.length_set]; exact Nat.le_refl _)⟩
 by_cases hi:n=i
 ·subst hi
  have g:=uU hx
  rw [g] at e0 h1 h2 h3 h4
  exact sL (j:=n) (y:=y) k (by rw [e,List.getElem?_set_self hn]) e0 h1 h2 h3 h4
 ·exact sL (j:=i) (y:=x) k (by rw [e,List.getElem?_set_ne hi]; exact hx) rfl rfl rfl (.inl rfl) (.inl rfl)
theorem xn {s:State} {c:Command} (M:mayF s s.version=0):KeepOk s c (bC s c):=by
 have A:=tN (c:=c) M
 revert A
 refine sg (Q:=fun r=>ActOk s r->KeepOk s c r) (fun _ _ _ _ _=>bc M rfl) (fun _ k _=>?_) (fun b _ _ k _=>?_) (fun _ _ _=>?_) (fun _ k _=>?_) (fun _ _ _=>bc M rfl) (fun _ _ _=>bc M rfl) (fun _ _ _=>?_) (fun _ k A=>?_) (fun _ _ _=>?_)
 ·exact cV (Q:=KeepOk s c) (bc M rfl) fun n _ hn=>rT M hn rfl rfl rfl rfl (.inl rfl) (.inr k)
 ·refine cV (Q:=KeepOk s c) (bc M rfl) fun n _ hn=>?_
  unfold bq; split
  ·exact bc M rfl
  ·exact rT M hn rfl rfl rfl rfl (.inr k) (.inl rfl)
 ·exact cV (Q:=KeepOk s c) (bc M rfl) fun n _ hn=>bc M rfl
 ·refine cV (Q:=KeepOk s c) (bc M rfl) fun n hp hn=>?_
  unfold aK; split
  ·exact bc M rfl
  ·rename_i hh
   split
   ·exact bc M rfl
   ·rename_i hk
    have pk:=wy (key:=Snap.id) (want:=c.id) (l:=s.snaps) (d:=dflt (.nm .snap)) (by omega)
    rw [show (ah Snap.id c.id s.snaps).toNat=n by omega] at pk
    have R:=lq (l:=s.snaps) (l':=aQ (s.snaps.getD n (dflt (.nm .snap))).id s.snaps) List.filter_sublist (d_ M)
    refine ⟨fun i x hx=>?_,.inl (List.length_filter_le _ _)⟩
    by_cases e:x.id=(s.snaps.getD n (dflt (.nm .snap))).id
    ·have hx2:=uq (d_ M) _ (List.mem_of_getElem? hx) _ pk.2 e
     have hi:i=n:=by
      have:=qG (d_ M) hx
      rw [e,pk.1] at this; omega
     subst hi
     refine .inl ⟨by rw [e]; exact Cg,k,by rw [e,pk.1],?_,Bool.not_eq_true _ ▸ hk,rfl⟩
     rw [hx2]; exact Bool.not_eq_true _ ▸ hh
    ·have hm:x ∈ aQ (s.snaps.getD n (dflt (.nm .snap))).id s.snaps:=List.mem_filter.2 ⟨List.mem_of_getElem? hx,by simp only [decide_eq_false e,Bool.not_false]⟩
     obtain ⟨j,hj,he⟩:=List.mem_iff_getElem.1 hm
     exact sL (j:=j) (y:=x) R (by show (aQ _ s.snaps)[j]? = some x; rw [List.getElem?_eq_getElem hj,he]) rfl rfl rfl (.inl rfl) (.inl rfl)
 ·unfold aY; split <;> exact bc M rfl
 ·revert A
  unfold aO; split
  ·exact fun _=>bc M rfl
  split
  ·exact fun _=>bc M rfl
  split
  ·exact fun _=>bc M rfl
  rename_i hq
  intro A
  refine ⟨fun i x hx=>?_,.inr ⟨by simp,k,rfl,by simp [List.getD_eq_getElem?_getD],?_⟩⟩
  ·refine sL (j:=i) (y:=x) (d_ A.may) ?_ rfl rfl rfl (.inl rfl) (.inl rfl)
   obtain ⟨hi,rfl⟩:=List.getElem?_eq_some_iff.1 hx
   dsimp only
   rw [List.getElem?_append_left hi,List.getElem?_eq_getElem hi]
  ·by_cases h0:s.quota=0
   ·exact .inl h0
   ·right
    have e:distF (s.snaps++[Snap.mk s.next c.set c.chunks false (Str.mk [])])=distF (s.snaps++[Snap.mk 0 0 c.chunks false (Str.mk [])]):=sD (by simp)
    show (distF (s.snaps++[Snap.mk s.next c.set c.chunks false (Str.mk [])]):Int)<=s.quota
    rw [e]
    have:=fun h=>hq ⟨h0,h⟩
    omega
 ·unfold aW; split <;> exact bc M rfl
theorem CV {s:State} {c:Command} {r r':State × Reply} (K:KeepOk s c r) (h1:r'.1.snaps=r.1.snaps) (h2:r'.2=r.2):KeepOk s c r':=by
 obtain ⟨a,b⟩:=K
 refine ⟨fun i x hx=>?_,?_⟩
 ·have:=a i x hx
  unfold keepsX at this ⊢
  rwa [h1,h2]
 ·rwa [h1,h2]
theorem iZ {s:State} {c:Command} (M:mayF s s.version=0):KeepOk s c (cR s c):=by
 by_cases h:bO c s.version=0
 ·by_cases k8:c.kind=8
  ·by_cases hn:c.n=s.version+1
   ·rw [zU (nu M h) k8 hn]; exact bc M rfl
   ·rw [AE (nu M h) k8 hn]; exact bc M rfl
  ·by_cases k1:c.kind=1
   ·by_cases hp:0<=ah Sess.client c.client s.sess
    ·rw [zk (nu M h) k1 hp]; exact bc M rfl
    ·rw [xB (nu M h) k1 (by omega)]; exact bc M rfl
   ·by_cases hq:0<=ah Sess.client c.client s.sess/\c.seq=(s.sess.getD (ah Sess.client c.client s.sess).toNat (dflt (.nm .sess))).seq+1
    ·rw [vj M h k8 k1 hq.1 hq.2]
     exact CV (xn M) rfl rfl
    ·refine bc M ?_
     rw [vg M h k8 k1]
     by_cases hk:ah Sess.client c.client s.sess<0
     ·exact .inl hk
     ·exact .inr fun hc=>hq ⟨by omega,hc⟩
 ·rw [Gb M h]; exact bc M rfl
section
variable {s:State} {c:Command} {k:Nat}
theorem GZ (h:(k:Int)<s.snaps.length):s.snaps[k]? = some (s.snaps.getD k (dflt (.nm .snap))):=gd h
theorem ED (M:mayF s s.version=0) (h:(k:Int)<s.snaps.length) (hp:ah Snap.id (s.snaps.getD k (dflt (.nm .snap))).id (cR s c).1.snaps<0) (hd:(((¬c.kind=5\/¬c.id=(s.snaps.getD k (dflt (.nm .snap))).id)\/(s.snaps.getD k (dflt (.nm .snap))).held=true)\/eH s (k:Int)=true)\/¬(cR s c).2.code=0):False:=by
 rcases (iZ (c:=c) M).x k _ (GZ h) with ⟨_,h1,h2,h3,h4,h5⟩ | ⟨h1,_⟩
 ·rcases hd with (((h | h) | h) | h) | h
  ·exact h h1
  ·exact h h2
  ·rw [h3] at h; cases h
  ·rw [h4] at h; cases h
  ·exact h h5
 ·omega
theorem DG {x:Snap} (M:mayF s s.version=0) (hx:s.snaps[k]? = some x) (hp:0<=ah Snap.id (s.snaps.getD k (dflt (.nm .snap))).id (cR s c).1.snaps) (hd:((decide (x.chunks=((cR s c).1.snaps.getD (ah Snap.id (s.snaps.getD k (dflt (.nm .snap))).id (cR s c).1.snaps).toNat (dflt (.nm .snap))).chunks)=false\/¬x.set=((cR s c).1.snaps.getD (ah Snap.id (s.snaps.getD k (dflt (.nm .snap))).id (cR s c).1.snaps).toNat (dflt (.nm .snap))).set)\/((x.held == ((cR s c).1.snaps.getD (ah Snap.id (s.snaps.getD k (dflt (.nm .snap))).id (cR s c).1.snaps).toNat (dflt (.nm .snap))).held)=false/\¬c.kind=9)/\¬c.kind=10)\/¬x.tag=((cR s c).1.snaps.getD (ah Snap.id (s.snaps.getD k (dflt (.nm .snap))).id (cR s c).1.snaps).toNat (dflt (.nm .snap))).tag/\¬c.kind=11):False:=by
 have K:=(iZ (c:=c) M).x k _ hx
 rw [uU hx] at hp hd
 rcases K with ⟨h1,_⟩ | ⟨_,y,e,h1,h2,h3,h4⟩
 ·omega
 ·rw [e] at hd
  rcases hd with ((h | h) | ⟨⟨h,h9⟩,h10⟩) | ⟨h,h11⟩
  ·rw [decide_eq_true h1.symm] at h; cases h
  ·exact h h2.symm
  ·rcases h3 with h3 | h3 | h3
   ·rw [h3] at h; simp at h
   ·exact h9 h3
   ·exact h10 h3
  ·rcases h4 with h4 | h4
   ·exact h h4.symm
   ·exact h11 h4
theorem Fa (M:mayF s s.version=0) (h:(s.snaps.length:Int)<(cR s c).1.snaps.length) (hd:((¬c.kind=3\/¬(cR s c).2.code=0)\/¬((cR s c).1.snaps.getD (((cR s c).1.snaps.length:Int) - 1).toNat (dflt (.nm .snap))).id=(cR s c).2.n)\/¬s.quota=0/\s.quota<(distF (cR s c).1.snaps:Int)):False:=by
 rcases (iZ (c:=c) M).more with h1 | ⟨h1,h2,h3,h4,h5⟩
 ·omega
 ·rw [show (((cR s c).1.snaps.length:Int) - 1).toNat=s.snaps.length by omega] at hd
  rcases hd with ((h | h) | h) | ⟨h,h6⟩
  ·exact h h2
  ·exact h h3
  ·exact h h4
  ·rcases h5 with h5 | h5
   ·exact h h5
   ·omega
theorem Fj (M:mayF s s.version=0):(true && decide (((cR s c).1.snaps.length:Int)<=(s.snaps.length:Int)+1))=true:=by
 rw [Bool.true_and,decide_eq_true_eq]
 rcases (iZ (c:=c) M).more with h1 | h1 <;> omega
theorem Ey (M:mayF s s.version=0):nch (cR s c).1.snaps<=1048576:=by
 have:=vi (Dn (c:=c) M).may; omega
theorem Fc (M:mayF s s.version=0):I64 (((cR s c).1.snaps.length:Int) - 1):=by
 have:=(eN (Dn (c:=c) M).may).1
 constructor <;> omega
end
def De (st:State) (c:Command):List (Nat × LI):=[(8,{ σ:=Nat,F:=fun k=>([(2,one (.ptr 0 0)),(3,one (.ptr 1 0)),(5,one (.bool (.atom true))),(6,one (.ptr 5 0)),(7,one (.ptr 6 0)),(8,one (.int k))],[.box 26 (cellsOf (.nm .state) ((bj st))),.box 29 (cellsOf (.nm .command) ((df c))),.row 42 (.nm .sess) (((cR (bj st) (df c)).1.sess)),.row 51 (.nm .opn) (((cR (bj st) (df c)).1.opens)),.row 46 (.nm .snap) (((cR (bj st) (df c)).1.snaps)),.box 26 ([.int (((cR (bj st) (df c)).1.version)),.int (((cR (bj st) (df c)).1.next)),.int (((cR (bj st) (df c)).1.keep)),.int (((cR (bj st) (df c)).1.quota)),.own 2,.own 3,.own 4]),.box 35 ([.int (((cR (bj st) (df c)).2.code)),.int (((cR (bj st) (df c)).2.n))])]),J:=fun k=>k<=(bj st).snaps.length,μ:=fun k=>(bj st).snaps.length - k })]
theorem EG (st:State) (c:Command) (r0:Bool):di aJ Dq (De st c) Try.f6 [.agg (cellsOf (.nm .state) st),.agg (cellsOf (.nm .command) c)] [] [.c (.bool (.atom (r0)))]=((fun (q10:Int)=>(fun (q9:Int)=>(fun (q8:Nat)=>(fun (q7:Int)=>(fun (q6:Nat)=>(fun (q5:Int)=>(fun (q4:Command)=>(fun (q3:State)=>(fun (q2:den (Sh.nm NT.snap))=>(fun (q1:List Snap)=>(fun (q0:State × Reply)=>I64 st.version->I64 st.next->I64 st.keep->I64 st.quota->st.sess.length*(32:Nat)<=q6->st.opens.length*(16:Nat)<=q6->st.snaps.length*(64:Nat)<=q6->I64 c.kind->I64 c.client->I64 c.seq->I64 c.set->I64 c.id->I64 c.n->c.chunks.length*q8<=q6->c.text.b.length<=q6->I64 q3.version->I64 q3.next->I64 q3.keep->I64 q3.quota->q3.sess.length*(32:Nat)<=q6->q3.opens.length*(16:Nat)<=q6->q1.length*(64:Nat)<=q6->I64 q4.kind->I64 q4.client->I64 q4.seq->I64 q4.set->I64 q4.id->I64 q4.n->q4.chunks.length*q8<=q6->q4.text.b.length<=q6->I64 q0.fst.version->I64 q0.fst.next->I64 q0.fst.keep->I64 q0.fst.quota->I64 q0.snd.code->I64 q0.snd.n->I64 (mayF q3 q3.version)->(¬mayF q3 q3.version=q5->true=r0)/\(mayF q3 q3.version=q5->∃ (s0:Nat),(fun (q20:Int)=>(fun (q19:Int)=>(fun (q18:Prop)=>(fun (q17:Nat)=>(fun (q16:State)=>(fun (q15:Int)=>(fun (q14:Int)=>(fun (q13:Prop)=>(fun (q12:List Snap)=>(fun (q11:Prop)=>(true=true/\q5=(↑s0:Int)/\q11)/\s0<=q17/\∀ (s:Nat),(fun (q27:Prop)=>(fun (q26:Int)=>(fun (q25:Prop)=>(fun (q24:Int)=>(fun (q23:den (Sh.nm NT.snap))=>(fun (q22:den (Sh.nm NT.snap))=>(fun (q21:den (Sh.nm NT.snap))=>s<=q17->(q26<q14->q5<=q26/\q26<q14/\(I64 q23.id->I64 q23.set->q23.chunks.length*q8<=q6->q23.tag.b.length<=q6->I64 (ah Snap.id q23.id q12)->(ah Snap.id q23.id q12<q5->(q27->q5<=q26/\q26<q14)/\(q27/\q4.id=q23.id->q5<=q26/\q26<q14)/\((q27->I64 q23.id/\I64 q23.set/\q23.chunks.length*q8<=q6/\q23.tag.b.length<=q6)->(q27/\q4.id=q23.id->I64 q23.id/\I64 q23.set/\q23.chunks.length*q8<=q6/\q23.tag.b.length<=q6)->((((¬q27\/¬q4.id=q23.id)\/q23.held=true)\/eH q3 q26=true)\/¬q18->false=r0)/\((((q27/\q4.id=q23.id)/\q23.held=false)/\eH q3 q26=false)/\q18->q25)))/\(q5<=ah Snap.id q23.id q12->q5<=q26/\q26<q14/\∀ (x:Snap),q1[s]? = some x->I64 x.id->I64 x.set->x.chunks.length*q8<=q6->x.tag.b.length<=q6->q5<=ah Snap.id q23.id q12/\ah Snap.id q23.id q12<q24/\(I64 q21.id->I64 q21.set->q21.chunks.length*q8<=q6->q21.tag.b.length<=q6->(((decide (x.chunks=q21.chunks)=false\/¬x.set=q21.set)\/((x.held == q21.held)=false/\¬q15=(9:Int))/\¬q15=(10:Int))\/¬x.tag=q21.tag/\¬q15=(11:Int)->false=r0)/\(((decide (x.chunks=q21.chunks)=true/\x.set=q21.set)/\(((x.held == q21.held)=true\/q15=(9:Int))\/q15=(10:Int)))/\(x.tag=q21.tag\/q15=(11:Int))->q25)))))/\(q14<=q26->(q14<q24/\q13->I64 (q24 - q7))/\(q14<q24/\q13->q5<=q24 - q7/\q24 - q7<q24)/\(q14<q24/\(q13/\q22.id=q20)/\¬q19=q5->nch q12<=(1048576:Nat))/\((q14<q24/\q13->I64 q22.id/\I64 q22.set/\q22.chunks.length*q8<=q6/\q22.tag.b.length<=q6)->(q14<q24/\(q13/\q22.id=q20)/\¬q19=q5->I64 (↑(distF q12):Int))->(q14<q24/\(((¬q15=q9\/¬q18)\/¬q22.id=q20)\/¬q19=q5/\q19<(↑(distF q12):Int))->false=r0)/\(q24<=q14\/(q13/\q22.id=q20)/\(q19=q5\/(↑(distF q12):Int)<=q19)->(true=true->I64 (q14+q7))/\(true && decide (q24<=q14+q7))=r0)))) (q12.getD (ah Snap.id q23.id q12).toNat q2)) (q12.getD (q24 - q7).toNat q2)) (q1.getD s q2)) (↑q12.length:Int)) (I64 (q26+q7)/\∃ (s':Nat),(true=true/\q26+q7=(↑s':Int)/\q11)/\s' <= q17/\q17 - s' < q17 - s)) (↑s:Int)) (q15=q10)) (q3.version=q3.version/\q3.next=q3.next/\q3.keep=q3.keep/\q19=q19/\q3.sess=q3.sess/\q3.opens=q3.opens/\q1=q1/\q15=q15/\q4.client=q4.client/\q4.seq=q4.seq/\q4.set=q4.set/\q4.id=q4.id/\q4.n=q4.n/\q4.chunks=q4.chunks/\q4.text=q4.text/\q16.sess=q16.sess/\q16.opens=q16.opens/\q12=q12/\q16.version=q16.version/\q16.next=q16.next/\q16.keep=q16.keep/\q16.quota=q16.quota/\q0.snd.code=q0.snd.code/\q20=q20)) q16.snaps) (q15=q9/\q18)) (↑q1.length:Int)) q4.kind) q0.fst) q1.length) (q0.snd.code=q5)) q3.quota) q0.snd.n)) (cR q3 q4)) q3.snaps) (dflt (Sh.nm NT.snap))) (bj st)) (df c)) (0:Int)) (140737488355328:Nat)) (1:Int)) (8:Nat)) (3:Int)) (5:Int)):=by kernel_rfl
theorem Ef (st:State) (c:Command):Sat Try.prog (aw aJ) 6 [.agg (cellsOf (.nm .state) st),.agg (cellsOf (.nm .command) c)] [] ⟨[],[.c (.bool (.atom ((true))))],none,false⟩:=by
 refine aV Be (De st c) Try.func6 (by decide) (by kernel_rfl) ?_
 rw [EG]
 (repeat' (first | with_reducible refine And.intro ?_ ?_ | with_reducible refine and_imp.2 ?_ | intro))
 all_goals try (first | (first | with_reducible rfl | with_reducible assumption | omega | (refine al ?_ ?_ <;> omega)) | exact (ED (s:=bj st) (c:=df c) (by with_reducible assumption) (by assumption) (by assumption) (by assumption)).elim | exact (DG (s:=bj st) (c:=df c) (by with_reducible assumption) (by assumption) (by assumption) (by assumption)).elim | exact (Fa (s:=bj st) (c:=df c) (by with_reducible assumption) (by assumption) (by assumption)).elim | exact Fj (s:=bj st) (c:=df c) (by with_reducible assumption) | exact Ey (s:=bj st) (c:=df c) (by with_reducible assumption) | exact bp (by assumption) | exact Fc (s:=bj st) (c:=df c) (by with_reducible assumption) | (constructor <;> omega))
 all_goals try (refine ⟨0,?_⟩; (repeat' (first | with_reducible refine And.intro ?_ ?_ | with_reducible refine and_imp.2 ?_ | intro)))
 all_goals try (first | (first | with_reducible rfl | with_reducible assumption | omega | (refine al ?_ ?_ <;> omega)) | exact (ED (s:=bj st) (c:=df c) (by with_reducible assumption) (by assumption) (by assumption) (by assumption)).elim | exact (DG (s:=bj st) (c:=df c) (by with_reducible assumption) (by assumption) (by assumption) (by assumption)).elim | exact (Fa (s:=bj st) (c:=df c) (by with_reducible assumption) (by assumption) (by assumption)).elim | exact Fj (s:=bj st) (c:=df c) (by with_reducible assumption) | exact Ey (s:=bj st) (c:=df c) (by with_reducible assumption) | exact bp (by assumption) | exact Fc (s:=bj st) (c:=df c) (by with_reducible assumption) | (constructor <;> omega))
 all_goals try (refine ⟨‹Nat› + 1,?_⟩; (repeat' (first | with_reducible refine And.intro ?_ ?_ | with_reducible refine and_imp.2 ?_ | intro)))
 all_goals (first | (first | with_reducible rfl | with_reducible assumption | omega | (refine al ?_ ?_ <;> omega)) | exact (ED (s:=bj st) (c:=df c) (by with_reducible assumption) (by assumption) (by assumption) (by assumption)).elim | exact (DG (s:=bj st) (c:=df c) (by with_reducible assumption) (by assumption) (by assumption) (by assumption)).elim | exact (Fa (s:=bj st) (c:=df c) (by with_reducible assumption) (by assumption) (by assumption)).elim | exact Fj (s:=bj st) (c:=df c) (by with_reducible assumption) | exact Ey (s:=bj st) (c:=df c) (by with_reducible assumption) | exact bp (by assumption) | exact Fc (s:=bj st) (c:=df c) (by with_reducible assumption) | (constructor <;> omega))
end Go.Proofs.Ytmmbibcfkdabeaa
namespace Go.Proofs.Ytmmbibcfkdabeaa
open Go.RowKit Go.ChangeShapes Go.WideShapes
def xf (shp:TypeId->Option Sh) (w:World):Cx:=cx ⟨shp,w.heap.size,fun _=>False⟩ [] w
theorem DU {shp:TypeId->Option Sh} {w:World} {s:Sh} {b:Nat} (h:b<w.heap.size):(xf shp w).at s b:=⟨⟨h,fun ⟨_,_,h,_⟩=>by simp at h,fun h=>h⟩,.inl h⟩
def Tr (P:Program) (shp:TypeId->Option Sh) (t:TypeId) (s:Sh):Prop:=
 ∀ (H:Type) (enc:TypeId × Value->H) (w:World) (fuel:Nat) (cs:List Value) (x:DataW H × List MemPlace),
  DataW.trod enc P w 0 (fun _=>true) true fuel t cs=some x->(∀ n ∈ x.1.weights P t,n<=140737488351232)->(∀ q ∈ x.2,q.block<w.heap.size)->∃ y:den s,Pds (xf shp w) (cellsOf s y) cs
def DX:List Sh->List AV->Prop
 | [],asx=>asx=[]
 | s :: r,asx=>∃ (y:den s) (l:List AV),asx=cellsOf s y++l/\DX r l
def Hg:List Sh->Nat
 | []=>0
 | s :: r=>s.size+Hg r
def fx (P:Program) (shp:TypeId->Option Sh) (fs:List Go.Field) (o:Nat) (ss:List Sh):Prop:=
 ∀ (H:Type) (enc:TypeId × Value->H) (w:World) (fuel:Nat) (cs:List Value) (xs:List (DataW H × List MemPlace)),
  cs.length=o+Hg ss->xs.length=fs.length->(∀ (i:Nat) (f:Go.Field),fs[i]? = some f->DataW.trod enc P w 0 (fun _=>true) true fuel f.type ((cs.drop f.offset).take (P.cellsOf f.type))=xs[i]?) ->
  (∀ n ∈ DataW.weightsEach P (fs.map (·.type)) (xs.map (·.1)),n<=140737488351232)->(∀ q ∈ xs.flatMap (·.2),q.block<w.heap.size)->∃ asx,DX ss asx/\Pds (xf shp w) asx (cs.drop o)
section
variable {P:Program} {shp:TypeId->Option Sh} {t:TypeId}
theorem Tr.int (h:P.underlying t=some (.int .i64)):Tr P shp t .int:=fun _ enc w fuel cs x hx _ _=>by
 obtain ⟨n,rfl,_,hw⟩:=DataW.trod_int h hx
 have h1:IntKind.i64.min = -9223372036854775808:=rfl
 have h2:IntKind.i64.max=9223372036854775807:=rfl
 simp only [Lit.wf,Bool.and_eq_true,decide_eq_true_eq] at hw
 exact ⟨n,.cons (.int ⟨by omega,by omega⟩) .nil⟩
theorem Tr.bool (h:P.underlying t=some .bool):Tr P shp t .bool:=fun _ enc w fuel cs x hx _ _=>by
 obtain ⟨n,rfl,_⟩:=DataW.trod_bool h hx
 exact ⟨n,.cons (Pd.bool (e:=.atom n)) .nil⟩
theorem Tr.u8 (h:P.underlying t=some (.int .u8)):Tr P shp t .u8:=fun _ enc w fuel cs x hx _ _=>by
 obtain ⟨n,rfl,_,hw⟩:=DataW.trod_int h hx
 have h1:IntKind.u8.min=0:=rfl
 have h2:IntKind.u8.max=255:=rfl
 simp only [Lit.wf,Bool.and_eq_true,decide_eq_true_eq] at hw
 refine ⟨UInt8.ofNat n.toNat,?_⟩
 have:n=((UInt8.ofNat n.toNat).toNat:Int):=by
  rw [UInt8.toNat_ofNat']; omega
 generalize hg:UInt8.ofNat n.toNat=b at this
 subst this
 exact .cons .u8 .nil
theorem Tr.u64 (h:P.underlying t=some (.int .u64)):Tr P shp t .u64:=fun _ enc w fuel cs x hx _ _=>by
 obtain ⟨n,rfl,_,hw⟩:=DataW.trod_int h hx
 have h1:IntKind.u64.min=0:=rfl
 have h2:IntKind.u64.max=18446744073709551615:=rfl
 simp only [Lit.wf,Bool.and_eq_true,decide_eq_true_eq] at hw
 refine ⟨⟨n.toNat⟩,?_⟩
 have:n=(n.toNat:Int):=by omega
 generalize hg:n.toNat=b at this
 subst this
 exact .cons (.u64 (by show b<_; omega)) .nil
theorem Tr.str (h:P.underlying t=some .string):Tr P shp t .str:=fun _ enc w fuel cs x hx hw _=>by
 obtain ⟨s,rfl,hx,_⟩:=DataW.trod_string h hx
 refine ⟨⟨s.data.toList⟩,?_⟩
 have:=hw s.data.toList.length (by rw [hx]; simp [DataW.weights])
 have e:=Pd.str (c:=xf shp w) (s:=⟨s.data.toList⟩) (by show s.data.toList.length<=_; omega)
 have e2:(⟨s.data.toList⟩:Str).val = .string s:=by simp [Str.val]
 rw [e2] at e
 exact .cons e .nil
theorem fX {H:Type} {e:TypeId}:∀ {ds:List (DataW H)} {d:DataW H},d ∈ ds->∀ n ∈ d.weights P e,n ∈ DataW.weightsAll P e ds
 | [],_,h,_,_=>by cases h
 | d0 :: ds,d,h,n,hn=>by
  rw [DataW.weightsAll,List.mem_append]
  rcases List.mem_cons.1 h with rfl | h
  ·exact .inl hn
  ·exact .inr (fX h n hn)
theorem vO {s:Sh} {xs:List (den s)} {y:den s}:(xs++[y]).flatMap (cellsOf s)=xs.flatMap (cellsOf s)++cellsOf s y:=by simp
theorem Tr.list {e:TypeId} {s:Sh} (ht:P.underlying t=some (.slice e)) (hC:P.cellsOf e=s.size) (hB:P.bytesOf e=s.bytes) (he:Tr P shp e s):Tr P shp t (.lst s):=fun H enc w fuel cs x hx hw hlt=>by
 have hp:=size_pos s
 rcases DataW.trod_slice ht hx with ⟨rfl,_⟩ | ⟨a,len,cap,elems,rest,n,rfl,rfl,rfl,_,hl,hc,hel,hget,hrest,_⟩
 ·exact ⟨([]:List (den s)),.cons (Pd.pE (.em (a:=none) (b:=true) rfl)) .nil⟩
 ·rw [hC] at *
  have step:∀ m,m<=len->∃ (cells:List Value) (xs:List (den s)),Pds (xf shp w) (xs.flatMap (cellsOf s)) cells/\xs.length=m/\CellsAt w a cells:=by
   intro m
   induction m with
   | zero=>intro _; exact ⟨[],[],.nil,rfl,CellsAt.nil⟩
   | succ m ih=>
    intro hm
    obtain ⟨cells,xs,h1,h2,h3⟩:=ih (by omega)
    have hg:=hget m (by omega)
    have hem:elems[m]? = some (elems[m]'(by omega)):=List.getElem?_eq_getElem (by omega)
    rw [hem,Option.bind_eq_some_iff] at hg
    obtain ⟨cs,hcs,htr⟩:=hg
    have hmem:elems[m]'(by omega) ∈ elems:=List.getElem_mem _
    obtain ⟨y,hy⟩:=he H enc w n cs _ htr
     (fun k hk=>hw k (by
      simp only [DataW.weights,ht,List.mem_cons,List.mem_append]
      exact .inr (.inl (fX (List.mem_map_of_mem hmem) k hk))))
     (fun q hq=>hlt q (by
      simp only [List.mem_append,List.mem_flatMap]
      exact .inr ⟨_,.inl hmem,hq⟩))
    obtain ⟨_,hcl,hat⟩:=World.cells?_some hcs
    refine ⟨cells++cs,xs++[y],by rw [vO]; exact h1.append hy,by simp [h2],fun j v hv=>?_⟩
    have hfl:cells.length=m*s.size:=by rw [<- h1.length,bH,h2]
    by_cases hj:j<m*s.size
    ·rw [List.getElem?_append_left (by omega)] at hv
     exact h3 j v hv
    ·rw [List.getElem?_append_right (by omega),hfl] at hv
     have hj2:=yf hv
     have:=hat (j - m*s.size) (by omega)
     rw [hv,add_add,show m*s.size+(j - m*s.size)=j by omega] at this
     exact this
  obtain ⟨cells,xs,h1,h2,h3⟩:=step len (Nat.le_refl _)
  have hwt:(elems.length+rest.length)*P.bytesOf e<=140737488351232:=hw _ (by simp [DataW.weights,ht])
  refine ⟨xs,.cons ?_ .nil⟩
  subst h2
  refine .fz (by omega) hc ?_ h1 ?_
  ·rw [hB] at hwt
   have:xs.length*s.bytes<=(elems.length+rest.length)*s.bytes:=Nat.mul_le_mul_right _ (by omega)
   omega
  ·by_cases h0:xs.length=0
   ·left; exact List.eq_nil_of_length_eq_zero h0
   ·right
    refine ⟨a,rfl,DU ?_,h3⟩
    have:MemPlace.cell a.block (a.off+0) ∈ MemPlace.row a ((elems.length+rest.length)*s.size):=MemPlace.mem_row.2 ⟨0,Nat.mul_pos (by omega) hp,rfl⟩
    exact hlt _ (List.mem_append_left _ this)
theorem fx.nil {o:Nat}:fx P shp [] o []:=fun H enc w fuel cs xs hl _ _ _ _=>⟨[],rfl,by rw [List.drop_eq_nil_of_le (by simp only [Hg] at hl; omega)]; exact .nil⟩
theorem fx.cons {f:Go.Field} {fs:List Go.Field} {o:Nat} {s:Sh} {ss:List Sh} (h:Tr P shp f.type s) (ho:f.offset=o) (hC:P.cellsOf f.type=s.size) (hr:fx P shp fs (o+s.size) ss):fx P shp (f :: fs) o (s :: ss):=fun H enc w fuel cs xs hl hx hf hw hlt=>by
 match xs,hx with
 | x :: xs,hx=>
  have hl':cs.length=o+(s.size+Hg ss):=hl
  have h1:=hf 0 f rfl
  rw [ho,hC] at h1
  obtain ⟨y,hy⟩:=h H enc w fuel _ x h1 (fun n hn=>hw n (by simp [DataW.weightsEach,hn])) (fun q hq=>hlt q (by simp [hq]))
  obtain ⟨z,hz1,hz2⟩:=hr H enc w fuel cs xs (by omega) (by simpa using hx) (fun i f' hi=>by simpa using hf (i+1) f' (by simpa using hi)) (fun n hn=>hw n (by simp only [List.map_cons,DataW.weightsEach,List.mem_append]; exact .inr hn)) (fun q hq=>hlt q (by simp only [List.flatMap_cons,List.mem_append]; exact .inr hq))
  refine ⟨cellsOf s y++z,⟨y,z,rfl,hz1⟩,?_⟩
  have:=hy.append hz2
  rwa [<- List.drop_drop,List.take_append_drop] at this
theorem Tr.struct {s:Sh} {ss:List Sh} {fs:Array Go.Field} (ht:P.underlying t=some (.struct fs)) (hC:P.cellsOf t=Hg ss) (hs:∀ asx,DX ss asx->∃ y:den s,asx=cellsOf s y) (h:fx P shp fs.toList 0 ss):Tr P shp t s:=fun H enc w fuel cs x hx hw hlt=>by
 obtain ⟨xs,n,_,rfl,hl,hxl,hf⟩:=DataW.trod_struct ht hx
 obtain ⟨asx,h1,h2⟩:=h H enc w n cs xs (by omega) (by simpa using hxl) (fun i f hi=>hf i f (by simpa using hi)) (fun k hk=>hw k (by simpa [DataW.weights,ht] using hk)) hlt
 obtain ⟨y,rfl⟩:=hs asx h1
 exact ⟨y,by simpa using h2⟩
end
section
variable {H:Type} {enc:TypeId × Value->H} {P:Program} {shp:TypeId->Option Sh}
structure Ar (enc:TypeId × Value->H) (P:Program) (W:World) (t:TypeId) (v:Value):Prop where
 form:∃ base,Value.okWide P W .any base t v
 read:∃ d p fuel,DataW.trod enc P W 0 (fun _=>true) true fuel t v.cells.toList=some (d,p)/\(∀ n ∈ d.weights P t,n<=140737488351232)/\(∀ q ∈ p,q.block<W.heap.size)
variable {W:World} {t:TypeId} {v:Value}
theorem Ar.rp {s:Sh} (h:Ar enc P W t v) (ht:Tr P shp t s):∃ y:den s,Pds (xf shp W) (cellsOf s y) v.cells.toList:=by
 obtain ⟨d,p,fuel,h1,h2,h3⟩:=h.read
 exact ht H enc W fuel _ _ h1 h2 h3
theorem zS {a:AV} {u:Value} (h:Pds (xf shp W) [a] [u]):cw (xf shp W) [] (.c a) u:=by cases h with | cons h1 _=>exact gk h1
theorem Ar.int (h:Ar enc P W t v) (ht:P.underlying t=some (.int .i64)):∃ y:Int,cw (xf shp W) [] (.c (.int y)) v:=by
 obtain ⟨base,hf⟩:=h.form
 obtain ⟨n,rfl⟩:=okWide_int ht hf
 obtain ⟨y,h1⟩:=h.rp (shp:=shp) (Tr.int ht)
 exact ⟨y,zS (by simpa [Value.cells,cellsOf] using h1)⟩
theorem Ar.u8 (h:Ar enc P W t v) (ht:P.underlying t=some (.int .u8)):∃ y:UInt8,cw (xf shp W) [] (.c (.u8 y)) v:=by
 obtain ⟨base,hf⟩:=h.form
 obtain ⟨n,rfl⟩:=okWide_int ht hf
 obtain ⟨y,h1⟩:=h.rp (shp:=shp) (Tr.u8 ht)
 exact ⟨y,zS (by simpa [Value.cells,cellsOf] using h1)⟩
theorem Ar.bool (h:Ar enc P W t v) (ht:P.underlying t=some .bool):∃ y:Bool,cw (xf shp W) [] (.c (.bool (.atom y))) v:=by
 obtain ⟨base,hf⟩:=h.form
 obtain ⟨b,rfl⟩:=okWide_bool ht hf
 exact ⟨b,Pd.bool (e:=.atom b)⟩
theorem Ar.struct {s:Sh} {fs:Array Go.Field} (h:Ar enc P W t v) (hu:P.underlying t=some (.struct fs)) (ht:Tr P shp t s):∃ x:den s,cw (xf shp W) [] (.agg (cellsOf s x)) v:=by
 obtain ⟨base,hf⟩:=h.form
 obtain ⟨cs,rfl,_⟩:=okWide_struct hu hf
 obtain ⟨y,h1⟩:=h.rp ht
 exact ⟨y,cs.toList,by simp,dM (by simpa [Value.cells] using h1)⟩
theorem Ck {f:Nat} {args:List TV1} {pre:List Prop} {e:BE} {vs:List Value} (h:Sat P shp f args [] ⟨pre,[.c (.bool e)],none,false⟩) (he:e.val=true) (hv:All2 (cw (xf shp W) []) args vs):gU P f vs.toArray W fun r W'=>r = .bool true/\Kp [] W W':=by
 refine (h.2 ⟨shp,W.heap.size,fun _=>False⟩ [] W vs rfl ⟨.nil,fun _ _ _ _ _ h=>by simp at h,fun _ _ _ h=>by simp at h,fun _ h=>h.elim,Nat.le_refl _⟩ hv).mono fun v w' ⟨us,h1,h2,h3⟩=>⟨?_,h2⟩
 cases h3 with | cons h4 h5=>
 cases h5
 have h4:Pd _ (.bool e) _:=h4
 cases h4
 rw [h1,he]; rfl
theorem Cm {base:Nat} {ts:List TypeId} {args:Array Value} {ds:List (DataW H)} {p:List MemPlace} (hf:∀ (j:Nat) t v,ts[j]? = some t->args[j]? = some v->Value.okWide P W .any base t v)
  (h:DataW.TrodAll enc P W 0 (fun _=>true) true ts args.toList ds p) (hw:∀ n ∈ DataW.weightsEach P ts ds,n<=140737488351232) (hlt:∀ q ∈ p,q.block<W.heap.size) :
  args.size=ts.length/\∀ (j:Nat) t v,ts[j]? = some t->args[j]? = some v->Ar enc P W t v:=by
 have key:∀ (ts:List TypeId) (vs:List Value) (ds:List (DataW H)) (p:List MemPlace),DataW.TrodAll enc P W 0 (fun _=>true) true ts vs ds p->(∀ n ∈ DataW.weightsEach P ts ds,n<=140737488351232)->(∀ q ∈ p,q.block<W.heap.size) ->
   vs.length=ts.length/\∀ (j:Nat) t v,ts[j]? = some t->vs[j]? = some v->∃ d p fuel,DataW.trod enc P W 0 (fun _=>true) true fuel t v.cells.toList=some (d,p)/\(∀ n ∈ d.weights P t,n<=140737488351232)/\(∀ q ∈ p,q.block<W.heap.size):=by
  intro ts
  induction ts with
  | nil=>intro vs ds p h _ _; obtain ⟨rfl,_,_⟩:=trodAll_nil h; exact ⟨rfl,fun j t v h=>by simp at h⟩
  | cons t ts ih=>
   intro vs ds p h hw hlt
   obtain ⟨v,vs,d,ds,p1,p2,rfl,rfl,rfl,h1,h2⟩:=trodAll_cons h
   obtain ⟨k1,k2⟩:=ih vs ds p2 h2 (fun n hn=>hw n (by rw [DataW.weightsEach,List.mem_append]; exact .inr hn)) (fun q hq=>hlt q (List.mem_append_right _ hq))
   refine ⟨by simp [k1],fun j t' v' ht hv=>?_⟩
   cases j with
   | zero=>
    simp at ht hv
    subst ht; subst hv
    obtain ⟨fuel,hf⟩:=h1
    exact ⟨d,p1,fuel,hf,fun n hn=>hw n (by rw [DataW.weightsEach,List.mem_append]; exact .inl hn),fun q hq=>hlt q (List.mem_append_left _ hq)⟩
   | succ j=>exact k2 j t' v' (by simpa using ht) (by simpa using hv)
 obtain ⟨k1,k2⟩:=key ts args.toList ds p h hw hlt
 exact ⟨by simpa using k1,fun j t v ht hv=>⟨⟨base,hf j t v ht hv⟩,k2 j t v ht (by simpa using hv)⟩⟩
theorem wL (hl:laidOutB P=true) {W':World} (hb:Below W.heap.size W W'):∀ (ts:List TypeId) (vs:List Value) (ds:List (DataW H)) (p:List MemPlace),ts.all (fun t=>P.readableRec t && decide (t<P.types.size))=true->DataW.TrodAll enc P W 0 (fun _=>true) true ts vs ds p->(∀ q ∈ p,q.block<W.heap.size) ->
  DataW.TrodAll enc P W' 0 (fun b=>decide (b<W.heap.size)) true ts vs ds p:=by
 intro ts
 induction ts with
 | nil=>intro vs ds p _ h _; obtain ⟨rfl,rfl,rfl⟩:=trodAll_nil h; rfl
 | cons t ts ih=>
  intro vs ds p hr h hlt
  obtain ⟨v,vs,d,ds,p1,p2,rfl,rfl,rfl,h1,h2⟩:=trodAll_cons h
  rw [List.all_cons,Bool.and_eq_true,Bool.and_eq_true,decide_eq_true_eq] at hr
  exact ⟨p1,p2,Below.trod hl hr.1.1 hr.1.2 h1 hb fun q hq=>hlt q (List.mem_append_left _ hq),ih vs ds p2 hr.2 h2 fun q hq=>hlt q (List.mem_append_right _ hq),rfl⟩
theorem zl {fn:Func} {s:ChangeSpec} {tb:TypeId} {W':World} {args:Array Value} {ds:List (DataW H)} {p:List MemPlace} (hl:laidOutB P=true)
  (hrow:fn.params.toList.all (fun t=>P.readableRec t && decide (t<P.types.size))=true) (hr:fn.resultTypes = #[tb]) (hb:P.underlying tb=some .bool) (hv:s.vars=[])
  (hs:s.fn H (ds++[])={ results:=[.lit (.bool true)],args:=ds }) (hW:DataW.Whole enc P fn.params.toList s.vars false W args.toList ds [] p) (hA:DataW.TrodAll enc P W 0 (fun _=>true) true fn.params.toList args.toList ds p) (hlt:∀ q ∈ p,q.block<W.heap.size) (hk:Kp [] W W') :
  s.post enc P fn false true false false W args (.bool true) W':=by
 refine ⟨ds,[],p,[],p,[],hW,?_,?_,?_,hk.below.frame _,fun h=>by cases h⟩
 ·rw [hs,hr]
  exact trodAll_mk1 ⟨1,by simp [DataW.trod,Value.cells,hb]⟩
 ·rw [hs]
  exact wL hl hk.below _ _ _ _ hrow hA hlt
 ·rw [hs,hv]; rfl
theorem AX {C:Checked} {os:Os} {f:FuncId} {fn:Func} {s:ChangeSpec} {conds:List PathCond} {tb:TypeId} (own:ownKnob C.prog.godebug=none) (started:os.Started) (noInit:C.prog.inits.idxOf? f=none) (hfn:C.prog.funcs[f]? = some fn)
  (witness:∃ (w:World) (tape:Tape) (i:Input),w.os=os/\(w.forCall tape i).Shaped C.prog/\i.vars=[]/\Input.okWide C.prog (w.forCall tape i) .any w.heap.size f i /\
   s.pre6 enc C.prog fn conds false (w.forCall tape i).memory i.args/\({}:Assume).holds C.prog (lone (Frame.enter C.prog f i.args .normal) [] (w.forCall tape i)))
  (hl:laidOutB C.prog=true) (hrow:fn.params.toList.all (fun t=>C.prog.readableRec t && decide (t<C.prog.types.size))=true) (hr:fn.resultTypes = #[tb]) (hb:C.prog.underlying tb=some .bool) (hv:s.vars=[])
  (hs:∀ ds:List (DataW H),ds.length=fn.params.size->s.fn H ds={ results:=[.lit (.bool true)],args:=ds })
  (law:∀ (W:World) (args:Array Value),args.size=fn.params.toList.length->(∀ (j:Nat) t v,fn.params.toList[j]? = some t->args[j]? = some v->Ar enc C.prog W t v)->gU C.prog f args W fun r W'=>r = .bool true/\Kp [] W W') :
  ReturnsInHanded {} C os f .any (s.pre6 enc C.prog fn conds false) (s.post enc C.prog fn false true false false):=by
 refine returnsInHanded_of_change_sized own started noInit hfn witness ?_
 intro W base args ds gs before hval hW _ hsz _
 have hW0:=hW
 obtain ⟨p,q,hA,hV,rfl,_,_⟩:=hW
 rw [hv] at hV
 obtain ⟨rfl,rfl⟩:=trodVars_none hV
 simp only [List.append_nil] at hW0 hsz
 have hlt:∀ x ∈ p,x.block<W.heap.size:=fun x hx=>by simpa using hW0.lt x hx
 have hwt:∀ n ∈ DataW.weightsEach C.prog fn.params.toList ds,n<=140737488351232:=fun n hn=>by
  have hmem:n ∈ DataW.weightsEach C.prog (fn.params.toList++s.plain.varTypes C.prog) ds:=by
   have:∀ (ts us:List TypeId) (ds:List (DataW H)),n ∈ DataW.weightsEach C.prog ts ds->n ∈ DataW.weightsEach C.prog (ts++us) ds:=by
    intro ts
    induction ts with
    | nil=>intro us ds h; simp [DataW.weightsEach] at h
    | cons t ts ih=>
     intro us ds h
     cases ds with
     | nil=>simp [DataW.weightsEach] at h
     | cons d ds=>
      rw [DataW.weightsEach,List.mem_append] at h
      rw [List.cons_append,DataW.weightsEach,List.mem_append]
      exact h.imp id (ih us ds)
   exact this _ _ _ hn
  exact of_decide_eq_true (List.all_eq_true.1 hsz n hmem)
 obtain ⟨hsize,har⟩:=Cm (fun j t v ht hv=>hval j t v (by simpa using ht) hv) hA hwt hlt
 have hdl:ds.length=fn.params.size:=by
  have:∀ (ts:List TypeId) (vs:List Value) (ds:List (DataW H)) (p:List MemPlace),DataW.TrodAll enc C.prog W 0 (fun _=>true) true ts vs ds p->ds.length=ts.length:=by
   intro ts
   induction ts with
   | nil=>intro vs ds p h; obtain ⟨_,rfl,_⟩:=trodAll_nil h; rfl
   | cons t ts ih=>intro vs ds p h; obtain ⟨v,vs,d,ds,p1,p2,rfl,rfl,rfl,_,h2⟩:=trodAll_cons h; simp [ih vs ds p2 h2]
  simpa using this _ _ _ _ hA
 refine Calls.mono (law W args hsize har) fun e W' ⟨v,he,hv',hk⟩=>⟨v,he,?_⟩
 subst hv'
 exact zl hl hrow hr hb hv (by rw [List.append_nil]; exact hs ds hdl) hW0 hA hlt hk
end
end Go.Proofs.Ytmmbibcfkdabeaa
namespace Go.Proofs.Ytmmbibcfkdabeaa
open Go.RowKit Go.ChangeShapes Go.WideShapes
theorem Ao:ownKnob Try.prog.godebug=none:=by kernel_rfl
theorem yZ:laidOutB Try.prog=true:=by kernel_rfl
theorem Iq:Tr Try.prog (aw aJ) 46 (.nm .snap):=Tr.struct (ss:=[.int,.int,(.lst .int),.bool,.str]) Try.underlying46 (by kernel_rfl) (fun cells h=>by
 obtain ⟨y0,l0,rfl,y1,l1,rfl,y2,l2,rfl,y3,l3,rfl,y4,l4,rfl,rfl⟩:=h
 exact ⟨⟨y0,y1,y2,y3,y4⟩,rfl⟩) (fx.cons (Tr.int Try.underlying3) rfl (by kernel_rfl) (fx.cons (Tr.int Try.underlying3) rfl (by kernel_rfl) (fx.cons (Tr.list Try.underlying27 (by kernel_rfl) (by kernel_rfl) (Tr.int Try.underlying3)) rfl (by kernel_rfl) (fx.cons (Tr.bool Try.underlying4) rfl (by kernel_rfl) (fx.cons (Tr.str Try.underlying9) rfl (by kernel_rfl) (fx.nil))))))
theorem Is:Tr Try.prog (aw aJ) 51 (.nm .opn):=Tr.struct (ss:=[.int,.int]) Try.underlying51 (by kernel_rfl) (fun cells h=>by
 obtain ⟨y0,l0,rfl,y1,l1,rfl,rfl⟩:=h
 exact ⟨⟨y0,y1⟩,rfl⟩) (fx.cons (Tr.int Try.underlying3) rfl (by kernel_rfl) (fx.cons (Tr.int Try.underlying3) rfl (by kernel_rfl) (fx.nil)))
theorem HX:Tr Try.prog (aw aJ) 35 (.nm .reply):=Tr.struct (ss:=[.int,.int]) Try.underlying35 (by kernel_rfl) (fun cells h=>by
 obtain ⟨y0,l0,rfl,y1,l1,rfl,rfl⟩:=h
 exact ⟨⟨y0,y1⟩,rfl⟩) (fx.cons (Tr.int Try.underlying33) rfl (by kernel_rfl) (fx.cons (Tr.int Try.underlying3) rfl (by kernel_rfl) (fx.nil)))
theorem Ig:Tr Try.prog (aw aJ) 42 (.nm .sess):=Tr.struct (ss:=[.int,.int,(.nm .reply)]) Try.underlying42 (by kernel_rfl) (fun cells h=>by
 obtain ⟨y0,l0,rfl,y1,l1,rfl,y2,l2,rfl,rfl⟩:=h
 exact ⟨⟨y0,y1,y2⟩,rfl⟩) (fx.cons (Tr.int Try.underlying3) rfl (by kernel_rfl) (fx.cons (Tr.int Try.underlying3) rfl (by kernel_rfl) (fx.cons (HX) rfl (by kernel_rfl) (fx.nil))))
theorem HS:Tr Try.prog (aw aJ) 26 (.nm .state):=Tr.struct (ss:=[.int,.int,.int,.int,(.lst (.nm .sess)),(.lst (.nm .opn)),(.lst (.nm .snap))]) Try.underlying26 (by kernel_rfl) (fun cells h=>by
 obtain ⟨y0,l0,rfl,y1,l1,rfl,y2,l2,rfl,y3,l3,rfl,y4,l4,rfl,y5,l5,rfl,y6,l6,rfl,rfl⟩:=h
 exact ⟨⟨y0,y1,y2,y3,y4,y5,y6⟩,rfl⟩) (fx.cons (Tr.int Try.underlying3) rfl (by kernel_rfl) (fx.cons (Tr.int Try.underlying3) rfl (by kernel_rfl) (fx.cons (Tr.int Try.underlying3) rfl (by kernel_rfl) (fx.cons (Tr.int Try.underlying3) rfl (by kernel_rfl) (fx.cons (Tr.list Try.underlying22 (by kernel_rfl) (by kernel_rfl) (Ig)) rfl (by kernel_rfl) (fx.cons (Tr.list Try.underlying23 (by kernel_rfl) (by kernel_rfl) (Is)) rfl (by kernel_rfl) (fx.cons (Tr.list Try.underlying24 (by kernel_rfl) (by kernel_rfl) (Iq)) rfl (by kernel_rfl) (fx.nil))))))))
theorem HM:Tr Try.prog (aw aJ) 29 (.nm .command):=Tr.struct (ss:=[.int,.int,.int,.int,.int,.int,(.lst .int),.str]) Try.underlying29 (by kernel_rfl) (fun cells h=>by
 obtain ⟨y0,l0,rfl,y1,l1,rfl,y2,l2,rfl,y3,l3,rfl,y4,l4,rfl,y5,l5,rfl,y6,l6,rfl,y7,l7,rfl,rfl⟩:=h
 exact ⟨⟨y0,y1,y2,y3,y4,y5,y6,y7⟩,rfl⟩) (fx.cons (Tr.int Try.underlying3) rfl (by kernel_rfl) (fx.cons (Tr.int Try.underlying3) rfl (by kernel_rfl) (fx.cons (Tr.int Try.underlying3) rfl (by kernel_rfl) (fx.cons (Tr.int Try.underlying3) rfl (by kernel_rfl) (fx.cons (Tr.int Try.underlying3) rfl (by kernel_rfl) (fx.cons (Tr.int Try.underlying3) rfl (by kernel_rfl) (fx.cons (Tr.list Try.underlying27 (by kernel_rfl) (by kernel_rfl) (Tr.int Try.underlying3)) rfl (by kernel_rfl) (fx.cons (Tr.str Try.underlying9) rfl (by kernel_rfl) (fx.nil)))))))))
set_option maxRecDepth 100000 in
theorem kZ (os:Os) (started:os.Started) (H:Type) (enc:TypeId × Value->H) :
  ReturnsInHanded {} Try.checked os 6 .any (Rows.applyKeepsSpec.pre6 enc Try.prog Try.f6 Rows.applyKeepsRow.domain false) (Rows.applyKeepsSpec.post enc Try.prog Try.f6 false true false false):=by
 refine AX (C:=Try.checked) Ao started (by kernel_rfl) Try.func6 (ChangeSpec.witness6 (enc:=enc) (C:=Try.checked) false ⟨#[],#[.agg #[.int .i64 0,.int .i64 0,.int .i64 0,.int .i64 0,.slice none 0 0,.slice none 0 0,.slice none 0 0],.agg #[.int .i64 0,.int .i64 0,.int .i64 0,.int .i64 0,.int .i64 0,.int .i64 0,.slice none 0 0,.string ⟨#[]⟩]],[]⟩ 8 (by kernel_rfl) (by kernel_rfl) (by kernel_rfl) (by kernel_rfl)) yZ (by kernel_rfl) (by kernel_rfl) Try.underlying4 rfl (fun ds h=>?_) ?_
 ·match ds,h with
  | [d0,d1],_=>rfl
 ·intro W args hs ha
  obtain ⟨l⟩:=args
  match l,hs with
  | [v0,v1],_=>
   obtain ⟨x0,h0⟩:=Ar.struct (shp:=aw aJ) (ha 0 26 _ rfl rfl) Try.underlying26 HS
   obtain ⟨x1,h1⟩:=Ar.struct (shp:=aw aJ) (ha 1 29 _ rfl rfl) Try.underlying29 HM
   exact Ck (Ef x0 x1) rfl (.cons h0 (.cons h1 .nil))
theorem applyKeeps_holds:Rows.ApplyKeepsSaid:=
 OpenClaim.holds_of_wide 6 Try.f6 rfl rfl rfl rfl rfl rfl rfl ⟨rfl,rfl,rfl,rfl,rfl⟩ rfl rfl rfl rfl rfl (by kernel_rfl) Try.func6 (by kernel_rfl)
  (of_decide_eq_true (by kernel_rfl)) (by unfold Func.isWrapper; first | (rw [if_pos (by decide +kernel)]; kernel_rfl) | (rw [if_neg (by decide +kernel)]; exact ⟨rfl,rfl⟩))
  (fun os started H enc _=>kZ os started H enc)
end Go.Proofs.Ytmmbibcfkdabeaa
