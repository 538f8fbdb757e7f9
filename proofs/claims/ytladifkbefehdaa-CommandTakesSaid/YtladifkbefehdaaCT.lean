/- The law: for every input it returns true, and each argument reads behind the call as it read before; and what leads there. Conditions: each lemma's own. -/
import Derived.ProofKit
import Derived.SizedLaws
import Derived.Test.YtladifkbefehdaaChecked
import Derived.Test.YtladifkbefehdaaRows
import Derived.Test.YtladifkbefehdaaCTM4
set_option linter.unusedVariables false
set_option linter.unusedSimpArgs false
namespace Go.Proofs.Ytladifkbefehdaa
open Go.RowKit
def pn (c:Command) (k:Nat):List Field:=((List.range k).map fun j=>ji (j+1:Nat) ([c.kind,c.client,c.seq,c.set,c.id,c.n].getD j 0)).flatten
theorem iW {c:Command} {k:Nat}:pn c (k+1)=pn c k++ji ((k:Int)+1) ([c.kind,c.client,c.seq,c.set,c.id,c.n].getD k (dflt .int)):=by
 unfold pn; rw [List.range_succ,List.map_append,List.flatten_append]; simp; rfl
theorem zL {c:Command} {k:Nat} (h:¬ [c.kind,c.client,c.seq,c.set,c.id,c.n].getD k (dflt .int)=0):pn c k++[Field.mk ((k:Int)+1) 0 (U64.mk ([c.kind,c.client,c.seq,c.set,c.id,c.n].getD k (dflt .int)).toNat) []]=pn c (k+1):=by rw [iW,ji,if_neg h]
theorem wL {c:Command} {k:Nat} (h:[c.kind,c.client,c.seq,c.set,c.id,c.n].getD k (dflt .int)=0):pn c k=pn c (k+1):=by rw [iW,ji,if_pos h,List.append_nil]
theorem lf (c:Command):∀ k,(pn c k).length<=k
 | 0=>Nat.le_refl _
 | k+1=>by
  have:=lf c k
  have:=dr ((k:Int)+1) ([c.kind,c.client,c.seq,c.set,c.id,c.n].getD k (dflt .int))
  rw [iW,List.length_append]; omega
theorem wF {c:Command} {k:Nat} (h0:0<=c.kind) (h1:0<=c.client) (h2:0<=c.seq) (h3:0<=c.set) (h4:0<=c.id) (h5:0<=c.n):0<=[c.kind,c.client,c.seq,c.set,c.id,c.n].getD k (dflt .int):=by
 match k with
 | 0=>exact h0
 | 1=>exact h1
 | 2=>exact h2
 | 3=>exact h3
 | 4=>exact h4
 | 5=>exact h5
 | k+6=>exact Int.le_refl 0
theorem pC {c:Command} {k:Nat} (hk:k<=6) (h:(([c.kind,c.client,c.seq,c.set,c.id,c.n].length:Nat):Int)<=(k:Int)):pn c k++mN 7 (aW c.chunks)=kZ c:=by
 have h6:6<=k:=Int.ofNat_le.1 h
 have e:k=6:=by omega
 subst e
 rw [iW,iW,iW,iW,iW,iW]; rfl
theorem JJ {c:Command} (hr:c.chunks.length=0\/rowF c.chunks=true) (hc:0<(c.chunks.length:Int)):[Field.mk 7 2 (U64.mk 0) (aW c.chunks)]=mN 7 (aW c.chunks):=by
 have hr:=hr.resolve_left (by omega)
 rw [mN,if_pos]
 rw [(jq hr).1,List.length_map]; exact hc
theorem I_ {c:Command} (hc:(c.chunks.length:Int)<=0):mN 7 (aW c.chunks)=[]:=by
 rw [List.eq_nil_of_length_eq_zero (l:=c.chunks) (by omega)]; rfl
theorem xI {c:Command} {v:Int} {k:Nat} (hk:k<=6) (h:(([c.kind,c.client,c.seq,c.set,c.id,c.n].length:Nat):Int)<=(k:Int)) (hr:c.chunks.length=0\/rowF c.chunks=true) (hc:0<(c.chunks.length:Int)) (ht:0<(c.text.b.length:Int)) (hv:3<=v):pn c k++[Field.mk 7 2 (U64.mk 0) (aW c.chunks)]++[Field.mk 8 2 (U64.mk 0) c.text.b]=aV c v:=by
 rw [JJ hr hc,pC hk h,aV,if_pos hv,mN,if_pos ht]
theorem zC {c:Command} {v:Int} {k:Nat} (hk:k<=6) (h:(([c.kind,c.client,c.seq,c.set,c.id,c.n].length:Nat):Int)<=(k:Int)) (hr:c.chunks.length=0\/rowF c.chunks=true) (hc:0<(c.chunks.length:Int)) (ht:(c.text.b.length:Int)<=0\/v<3):pn c k++[Field.mk 7 2 (U64.mk 0) (aW c.chunks)]=aV c v:=by
 rw [JJ hr hc,pC hk h,aV]
 split
 ·rw [mN,if_neg (by omega),List.append_nil]
 ·rfl
theorem wK {c:Command} {v:Int} {k:Nat} (hk:k<=6) (h:(([c.kind,c.client,c.seq,c.set,c.id,c.n].length:Nat):Int)<=(k:Int)) (hc:(c.chunks.length:Int)<=0) (ht:0<(c.text.b.length:Int)) (hv:3<=v):pn c k++[Field.mk 8 2 (U64.mk 0) c.text.b]=aV c v:=by
 rw [aV,if_pos hv,mN,if_pos ht,<- pC hk h,I_ hc,List.append_nil]
theorem zq {c:Command} {v:Int} {k:Nat} (hk:k<=6) (h:(([c.kind,c.client,c.seq,c.set,c.id,c.n].length:Nat):Int)<=(k:Int)) (hc:(c.chunks.length:Int)<=0) (ht:(c.text.b.length:Int)<=0\/v<3):pn c k=aV c v:=by
 rw [aV]
 split
 ·rw [mN,if_neg (by omega),List.append_nil,<- pC hk h,I_ hc,List.append_nil]
 ·rw [<- pC hk h,I_ hc,List.append_nil]
theorem Kf {b:List UInt8} (h:(ae b).2.2=0) (hx:(ae b).1<8008) (h0:¬ fF (bV ((ae b).1 / 8)) (bV ((ae b).1 % 8))=0):ah b=⟨0,0,0,6⟩:=by
 rw [dc (by omega),dc (by omega)] at h0
 by_cases hc:(((((ae b).1 / 8:Nat):Int))<1\/1000<(((ae b).1 / 8:Nat):Int))\/(¬ (((ae b).1 % 8:Nat):Int)=0/\¬ (((ae b).1 % 8:Nat):Int)=2)
 ·exact pa h (by omega)
 ·exact absurd (fI hc).symm h0
theorem Ka {b:List UInt8} (h:(ae b).2.2=0) (hx:8008<=(ae b).1):ah b=⟨0,0,0,6⟩:=pa h (by omega)
theorem Iw {b:List UInt8} (h:(ae b).2.2=0) (hx:(ae b).1<8008) (h0:fF (bV ((ae b).1 / 8)) (bV ((ae b).1 % 8))=0):bV ((ae b).1 / 8)=(ah b).num/\bV ((ae b).1 % 8)=(ah b).wire/\(((ae b).2.1:Nat):Int)=((ah b).k:Nat)/\0=(ah b).e:=by
 rw [dc (by omega),dc (by omega)] at h0 ⊢
 by_cases hc:(((((ae b).1 / 8:Nat):Int))<1\/1000<(((ae b).1 / 8:Nat):Int))\/(¬ (((ae b).1 % 8:Nat):Int)=0/\¬ (((ae b).1 % 8:Nat):Int)=2)
 ·have:=iY hc; omega
 ·rw [rK h (by omega)]; exact ⟨rfl,rfl,rfl,rfl⟩
theorem Gd {l:List Field} {v:Int} {k:Nat} {x y:Field} (h:y.num<=v) (hy:l[k]? = some y) (hx:l[k]? = some x):aQ (l.take k) v++[x]=aQ (l.take (k+1)) v:=by rw [hy] at hx; cases hx; exact At hy h
theorem Dw {l:List Field} {v:Int} {k:Nat} {y:Field} (h:v<y.num) (hy:l[k]? = some y):aQ (l.take k) v=aQ (l.take (k+1)) v:=Cn hy (by omega)
theorem Dp {l:List Field} {v:Int} {k:Nat} {x y:Field} (h:v<y.num) (hy:l[k]? = some y) (hx:l[k]? = some x):bp (l.take k) v++[x]=bp (l.take (k+1)) v:=by rw [hy] at hx; cases hx; exact Bn hy (by omega)
theorem EA {l:List Field} {v:Int} {k:Nat} {y:Field} (h:y.num<=v) (hy:l[k]? = some y):bp (l.take k) v=bp (l.take (k+1)) v:=Bx hy h
def nG (v:Int) (k:Nat):List Spec:=if 1<=v/\v<=3 then (aA.take k).filter (fun s=>decide (s.since<=v)) else []
theorem yg {v:Int}:nG v 0=[]:=by unfold nG; split <;> rfl
theorem zQ {v:Int} {k:Nat} {x:Spec} (h1:1<=v) (h3:v<=3) (h:(aA.getD k (dflt (.nm .spec))).since<=v) (hx:aA[k]? = some x):nG v k++[x]=nG v (k+1):=by
 rw [List.getD_eq_getElem?_getD,hx] at h
 unfold nG; rw [if_pos ⟨h1,h3⟩,if_pos ⟨h1,h3⟩]; exact ja hx h
theorem zi {v:Int} {k:Nat} (h:(v<1\/3<v)\/v<(aA.getD k (dflt (.nm .spec))).since) (hk:k<8):nG v k=nG v (k+1):=by
 unfold nG
 have hy:aA[k]? = some (aA.getD k (dflt (.nm .spec))):=by rw [List.getD_eq_getElem?_getD,List.getElem?_eq_getElem (show k<aA.length from hk)]; rfl
 by_cases hv:1<=v/\v<=3
 ·rw [if_pos hv,if_pos hv]; exact lg hy (by omega)
 ·rw [if_neg hv,if_neg hv]
theorem vS {v:Int} {k:Nat} {x:Spec}:((nG v k).length+[x].length)*32<=140737488355328:=by
 unfold nG
 split
 ·have:=qP (v:=v) (k:=k); rw [List.length_singleton]; omega
 ·rw [List.length_singleton]; exact (by decide:(0+1)*32<=140737488355328)
theorem wV {v:Int} {k:Nat} (hk:8<=(k:Int)):nG v k=ao v:=by
 unfold nG
 by_cases hv:1<=v/\v<=3
 ·rw [if_pos hv]; exact sB hv.1 hv.2 hk
 ·rw [if_neg hv,ao,if_pos (by omega)]
attribute [local irreducible] aQ bp
def td (q:Int) (v:Int):List (Nat × LI):=[(4,{ σ:=Nat,F:=fun k=>([(1,one (.int (v))),(5,one (.own 0)),(6,one (.fz (.nm .spec) aA)),(7,one (.int k))],[.row 77 (.nm .spec) ((nG v k))]),J:=fun k=>k<=8,μ:=fun k=>8 - k })]
def xj (b:List UInt8):List (Nat × LI):=[(3,{ σ:=Nat,F:=fun k=>([(0,one (.fz .u8 (b))),(4,one (.own 0)),(5,one (.int k))],[.row 3 .int ((aN (b.take k)))]),J:=fun k=>k<=b.length,μ:=fun k=>b.length - k })]
def tn (l:List Field) (v:Int):List (Nat × LI):=[(4,{ σ:=Nat,F:=fun k=>([(0,one (.fz (.nm .field) (l))),(1,one (.int (v))),(6,one (.own 0)),(7,one (.own 1)),(8,one (.int k))],[.row 58 (.nm .field) ((aQ (l.take k) v)),.row 58 (.nm .field) ((bp (l.take k) v))]),J:=fun k=>k<=l.length,μ:=fun k=>l.length - k })]
def pt (c:Command) (v:Int):List (Nat × LI):=[(4,{ σ:=Nat,F:=fun k=>([(1,one (.int (v))),(2,one (.ptr 0 0)),(5,one (.own 2)),(6,one (.own 1)),(7,one (.int k))],[.box 27 (cellsOf (.nm .command) ((c))),.row 3 .int (([c.kind,c.client,c.seq,c.set,c.id,c.n])),.row 58 (.nm .field) (((pn c k)))]),J:=fun k=>k<=6,μ:=fun k=>6 - k })]
theorem wH (b:List UInt8) (r0:Int) (r1:Int) (r2:Int) (r3:Int):cD aF oH [] Try.f47 [.c (.fz .u8 (b))] [] [.c (.int (r0)),.c (.int (r1)),.c (.int (r2)),.c (.int (r3))]=((fun (q4:Nat)=>(fun (q3:Int)=>(fun (q2:Nat)=>(fun (q1:Int)=>(fun (q0:Int)=>b.length*(1:Nat)<=(140737488355328:Nat)->q2<(18446744073709551616:Nat)->I64 (↑(ae b).snd.fst:Int)->I64 q3->(¬q3=q1->q1=r0/\q1=r1/\q1=r2/\q3=r3)/\(q3=q1->((↑(8008:Nat):Int)<=(↑q2:Int)->q1=r0/\q1=r1/\q1=r2/\(6:Int)=r3)/\((↑q2:Int)<(↑(8008:Nat):Int)->(0:Nat)<q4/\(0:Nat)<q4/\(I64 q0->(¬q0=q1->q1=r0/\q1=r1/\q1=r2/\(6:Int)=r3)/\(q0=q1->bV (q2 / q4)=r0/\bV (q2 % q4)=r1/\(↑(ae b).snd.fst:Int)=r2/\q1=r3))))) (fF (bV (q2 / q4)) (bV (q2 % q4)))) (0:Int)) (ae b).fst) (ae b).snd.snd) (8:Nat)):=by kernel_rfl
theorem wD (b:List UInt8):Sat Try.prog (al aF) 47 [.c (.fz .u8 (b))] [] ⟨[],[.c (.int (((ah b).num))),.c (.int (((ah b).wire))),.c (.int ((((ah b).k:Nat)))),.c (.int (((ah b).e)))],none,false⟩:=by
 refine aI eu [] Try.func47 (by decide) (by kernel_rfl) ?_
 rw [wH]
 (repeat' (first | with_reducible refine And.intro ?_ ?_ | with_reducible refine and_imp.2 ?_ | intro))
 all_goals (first | (first | with_reducible rfl | with_reducible assumption | omega | (refine ag ?_ ?_ <;> omega)) | (rw [oF (by with_reducible assumption)] <;> rfl) | (rw [Kf (by with_reducible assumption) (by omega) (by with_reducible assumption)] <;> rfl) | (rw [Ka (by with_reducible assumption) (by omega)] <;> rfl) | exact (Iw (by with_reducible assumption) (by omega) (by with_reducible assumption)).1 | exact (Iw (by with_reducible assumption) (by omega) (by with_reducible assumption)).2.1 | exact (Iw (by with_reducible assumption) (by omega) (by with_reducible assumption)).2.2.1 | exact (Iw (by with_reducible assumption) (by omega) (by with_reducible assumption)).2.2.2 | (have:=(gq (l:=b) (k:=0) (n:=0) (by omega)).1; change (ae b).2.1<=11 at this; omega) | decide)
theorem Dx (f:Field) (r0:List UInt8):tg aF oH [] Try.f71 [.agg (cellsOf (.nm .field) f)] [] [.c (.own 0)] [.row 5 .u8 (r0)]=((fun (q1:Nat)=>(fun (q0:List UInt8)=>I64 f.num->I64 f.wire->f.n.n<(18446744073709551616:Nat)->q1*(1:Nat)<=(140737488355328:Nat)->I64 (fF f.num f.wire)->(f.wire=(0:Int)->(q0.length+(bb f.n.n).length)*(1:Nat)<=(140737488355328:Nat)/\q0++bb f.n.n=r0)/\(¬f.wire=(0:Int)->(0:Int)<=(↑q1:Int)/\(q0.length+(bb q1).length)*(1:Nat)<=(140737488355328:Nat)/\((q0++bb q1).length+q1)*(1:Nat)<=(140737488355328:Nat)/\q0++bb q1++f.b=r0)) (gE f.num f.wire)) f.b.length):=by kernel_rfl
theorem Fc (f:Field) (h0:f.b.length<=16384):Sat Try.prog (al aF) 71 [.agg (cellsOf (.nm .field) f)] [] ⟨[f.b.length<=16384],[.c (.own 0)],some ([.row 5 .u8 ((ba f))]),true⟩:=by
 refine eR eu [] Try.func71 (by decide) (by kernel_rfl) ?_
 rw [Dx]
 (repeat' (first | with_reducible refine And.intro ?_ ?_ | with_reducible refine and_imp.2 ?_ | intro))
 all_goals (first | (first | with_reducible rfl | with_reducible assumption | omega | (refine ag ?_ ?_ <;> omega)) | exact (sn (by with_reducible assumption)) | exact (tW (by with_reducible assumption)) | (have:=fV f.num f.wire; have:=bN (n:=f.n.n) (by with_reducible assumption); omega) | (have:=fV f.num f.wire; have:=bN (n:=f.b.length) (by omega); (try simp only [List.length_append]); omega))
theorem zK (q:Int) (v:Int) (r0:List Spec):cD aF oH (td q v) Try.f50 [.c (.int (q)),.c (.int (v))] [] [.c (.fz (.nm .spec) (r0))]=((fun (q4:den (Sh.nm NT.spec))=>(fun (q3:Int)=>(fun (q2:Int)=>(fun (q1:Nat)=>(fun (q0:Prop)=>I64 q->I64 v->q=q3/\(aA.length*(32:Nat)<=(140737488355328:Nat)->∃ (s0:Nat),(v=v/\aA=aA/\(0:Int)=(↑s0:Int)/\nG v s0=[])/\s0<=q1/\∀ (s:Nat),(fun (q6:Int)=>(fun (q5:den (Sh.nm NT.spec))=>s<=q1->(q6<q2->(q0->(0:Int)<=q6/\q6<q2)/\((q0->I64 q5.num/\I64 q5.wire/\I64 q5.since)->(q0/\q5.since<=v->(0:Int)<=q6/\q6<q2/\∀ (x:Spec),aA[s]? = some x->I64 x.num->I64 x.wire->I64 x.since->((nG v s).length+[x].length)*(32:Nat)<=(140737488355328:Nat)/\I64 (q6+q3)/\∃ (s':Nat),(v=v/\aA=aA/\q6+q3=(↑s':Int)/\nG v s++[x]=nG v s')/\s' <= q1/\q1 - s' < q1 - s)/\((v<q3\/(3:Int)<v)\/v<q5.since->I64 (q6+q3)/\∃ (s':Nat),(v=v/\aA=aA/\q6+q3=(↑s':Int)/\nG v s=nG v s')/\s' <= q1/\q1 - s' < q1 - s)))/\(q2<=q6->nG v s=r0)) (aA.getD s q4)) (↑s:Int))) (q3<=v/\v<=(3:Int))) (8:Nat)) (↑aA.length:Int)) (1:Int)) (dflt (Sh.nm NT.spec))):=by kernel_rfl
theorem xf (q:Int) (v:Int) (h0:q=1):Sat Try.prog (al aF) 50 [.c (.int (q)),.c (.int (v))] [] ⟨[q=1],[.c (.fz (.nm .spec) ((ao v)))],none,false⟩:=by
 refine aI eu (td q v) Try.func50 (by decide) (by kernel_rfl) ?_
 rw [zK]
 (repeat' (first | with_reducible refine And.intro ?_ ?_ | with_reducible refine and_imp.2 ?_ | intro))
 all_goals try (first | (first | with_reducible rfl | with_reducible assumption | omega | (refine ag ?_ ?_ <;> omega)) | exact yg | exact (zQ (by with_reducible assumption) (by with_reducible assumption) (by with_reducible assumption) (by with_reducible assumption)) | exact (zi (by assumption) (by have hl:aA.length=8:=rfl; omega)) | exact vS | exact (wV (by have hl:aA.length=8:=rfl; omega)) | (have hl:aA.length=8:=rfl; omega))
 all_goals try (refine ⟨0,?_⟩; (repeat' (first | with_reducible refine And.intro ?_ ?_ | with_reducible refine and_imp.2 ?_ | intro)))
 all_goals try (first | (first | with_reducible rfl | with_reducible assumption | omega | (refine ag ?_ ?_ <;> omega)) | exact yg | exact (zQ (by with_reducible assumption) (by with_reducible assumption) (by with_reducible assumption) (by with_reducible assumption)) | exact (zi (by assumption) (by have hl:aA.length=8:=rfl; omega)) | exact vS | exact (wV (by have hl:aA.length=8:=rfl; omega)) | (have hl:aA.length=8:=rfl; omega))
 all_goals try (refine ⟨‹Nat› + 1,?_⟩; (repeat' (first | with_reducible refine And.intro ?_ ?_ | with_reducible refine and_imp.2 ?_ | intro)))
 all_goals (first | (first | with_reducible rfl | with_reducible assumption | omega | (refine ag ?_ ?_ <;> omega)) | exact yg | exact (zQ (by with_reducible assumption) (by with_reducible assumption) (by with_reducible assumption) (by with_reducible assumption)) | exact (zi (by assumption) (by have hl:aA.length=8:=rfl; omega)) | exact vS | exact (wV (by have hl:aA.length=8:=rfl; omega)) | (have hl:aA.length=8:=rfl; omega))
theorem AA (b:List UInt8) (r0:List Int) (r1:Int):cD aF oH (xj b) Try.f29 [.c (.fz .u8 (b))] [] [.c (.fz .int (r0)),.c (.int (r1))]=(b.length*(1:Nat)<=(140737488355328:Nat)->∃ (s0:Nat),(b=b/\(0:Int)=(↑s0:Int)/\aN (List.take s0 b)=[])/\s0<=b.length/\∀ (s:Nat),(fun (q0:List Int)=>s<=b.length->((↑s:Int)<(↑b.length:Int)->(0:Int)<=(↑s:Int)/\(↑s:Int)<(↑b.length:Int)/\∀ (x:UInt8),b[s]? = some x->(q0.length+[(↑x.toNat:Int)].length)*(8:Nat)<=(140737488355328:Nat)/\I64 ((↑s:Int)+(1:Int))/\∃ (s':Nat),(b=b/\(↑s:Int)+(1:Int)=(↑s':Int)/\q0++[(↑x.toNat:Int)]=aN (List.take s' b))/\s' <= b.length/\b.length - s' < b.length - s)/\((↑b.length:Int)<=(↑s:Int)->I64 (bH q0)->(¬bH q0=(0:Int)\/¬Str.mk (aW q0)=Str.mk b->r0=[]/\(6:Int)=r1)/\(bH q0=(0:Int)/\Str.mk (aW q0)=Str.mk b->q0=r0/\(0:Int)=r1))) (aN (List.take s b))):=by kernel_rfl
theorem Cu (b:List UInt8) (h0:b.length<=100000):Sat Try.prog (al aF) 29 [.c (.fz .u8 (b))] [] ⟨[b.length<=100000],[.c (.fz .int ((cK b))),.c (.int ((eZ b)))],none,false⟩:=by
 refine aI eu (xj b) Try.func29 (by decide) (by kernel_rfl) ?_
 rw [AA]
 (repeat' (first | with_reducible refine And.intro ?_ ?_ | with_reducible refine and_imp.2 ?_ | intro))
 all_goals try (first | (first | with_reducible rfl | with_reducible assumption | omega | (refine ag ?_ ?_ <;> omega)) | exact rfl | exact (cd (dG (k:=‹Nat›) (by omega) (by assumption))).symm | exact (cd (dG (k:=‹Nat›) (by omega) (by assumption))) | exact (fy (dG (k:=‹Nat›) (by omega) (by assumption))) | exact (gw (by omega) (jK (by with_reducible assumption))) | exact (gv (k:=‹Nat›) (by omega) (jK (by with_reducible assumption))) | exact (ly (by with_reducible assumption)) | exact (ki (by omega) (by omega)))
 all_goals try (refine ⟨0,?_⟩; (repeat' (first | with_reducible refine And.intro ?_ ?_ | with_reducible refine and_imp.2 ?_ | intro)))
 all_goals try (first | (first | with_reducible rfl | with_reducible assumption | omega | (refine ag ?_ ?_ <;> omega)) | exact rfl | exact (cd (dG (k:=‹Nat›) (by omega) (by assumption))).symm | exact (cd (dG (k:=‹Nat›) (by omega) (by assumption))) | exact (fy (dG (k:=‹Nat›) (by omega) (by assumption))) | exact (gw (by omega) (jK (by with_reducible assumption))) | exact (gv (k:=‹Nat›) (by omega) (jK (by with_reducible assumption))) | exact (ly (by with_reducible assumption)) | exact (ki (by omega) (by omega)))
 all_goals try (refine ⟨‹Nat› + 1,?_⟩; (repeat' (first | with_reducible refine And.intro ?_ ?_ | with_reducible refine and_imp.2 ?_ | intro)))
 all_goals (first | (first | with_reducible rfl | with_reducible assumption | omega | (refine ag ?_ ?_ <;> omega)) | exact rfl | exact (cd (dG (k:=‹Nat›) (by omega) (by assumption))).symm | exact (cd (dG (k:=‹Nat›) (by omega) (by assumption))) | exact (fy (dG (k:=‹Nat›) (by omega) (by assumption))) | exact (gw (by omega) (jK (by with_reducible assumption))) | exact (gv (k:=‹Nat›) (by omega) (jK (by with_reducible assumption))) | exact (ly (by with_reducible assumption)) | exact (ki (by omega) (by omega)))
theorem FN (c:Command) (v:Int) (r0:Bool):cD aF oH [] Try.f53 [.agg (cellsOf (.nm .command) c),.c (.int (v))] [] [.c (.bool (.atom (r0)))]=((fun (q0:Int)=>I64 c.kind->I64 c.client->I64 c.seq->I64 c.set->I64 c.id->I64 c.n->c.chunks.length*(8:Nat)<=(140737488355328:Nat)->c.text.b.length<=(140737488355328:Nat)->I64 v->I64 (aL c.kind)->(bt c.kind (1:Int) (99:Int) && (decide (aL c.kind=q0) || decide (v<aL c.kind)) && (bt c.client q0 (1048576:Int) && bt c.seq q0 (1048576:Int) && bt c.set q0 (1048576:Int) && bt c.id q0 (1048576:Int) && bt c.n q0 (1048576:Int)) && (decide ((↑c.chunks.length:Int)=q0) || rowF c.chunks) && (decide ((↑c.text.b.length:Int)=q0) || decide ((3:Int)<=v) && decide ((↑c.text.b.length:Int)<=(16:Int))))=r0) (0:Int)):=by kernel_rfl
theorem FT (c:Command) (v:Int):Sat Try.prog (al aF) 53 [.agg (cellsOf (.nm .command) c),.c (.int (v))] [] ⟨[],[.c (.bool (.atom ((b_ c v))))],none,false⟩:=by
 refine aI eu [] Try.func53 (by decide) (by kernel_rfl) ?_
 rw [FN]
 (repeat' (first | with_reducible refine And.intro ?_ ?_ | with_reducible refine and_imp.2 ?_ | intro))
 all_goals (first | (first | with_reducible rfl | with_reducible assumption | omega | (refine ag ?_ ?_ <;> omega)) | (unfold b_ km; rfl))
theorem wk (l:List Field) (v:Int) (r0:List Field) (r1:List Field):cD aF oH (tn l v) Try.f27 [.c (.fz (.nm .field) (l)),.c (.int (v))] [] [.c (.fz (.nm .field) (r0)),.c (.fz (.nm .field) (r1))]=((fun (q2:Nat)=>(fun (q1:Nat)=>(fun (q0:Int)=>l.length*(48:Nat)<=q2->I64 v->∃ (s0:Nat),(l=l/\v=v/\(0:Int)=(↑s0:Int)/\aQ (List.take s0 l) v=[]/\bp (List.take s0 l) v=[])/\s0<=q1/\∀ (s:Nat),(fun (q6:Prop)=>(fun (q5:Prop)=>(fun (q4:List Field)=>(fun (q3:Int)=>s<=q1->(q6->q5/\q6/\∀ (x:Field),l[s]? = some x->I64 x.num->I64 x.wire->x.n.n<(18446744073709551616:Nat)->x.b.length*(1:Nat)<=q2->(x.num<=v->q5/\q6/\∀ (x:Field),l[s]? = some x->I64 x.num->I64 x.wire->x.n.n<(18446744073709551616:Nat)->x.b.length*(1:Nat)<=q2->((aQ q4 v).length+[x].length)*(48:Nat)<=q2/\I64 q3/\∃ (s':Nat),(l=l/\v=v/\q3=(↑s':Int)/\aQ q4 v++[x]=aQ (List.take s' l) v/\bp q4 v=bp (List.take s' l) v)/\s' <= q1/\q1 - s' < q1 - s)/\(v<x.num->q5/\q6/\∀ (x:Field),l[s]? = some x->I64 x.num->I64 x.wire->x.n.n<(18446744073709551616:Nat)->x.b.length*(1:Nat)<=q2->((bp q4 v).length+[x].length)*(48:Nat)<=q2/\I64 q3/\∃ (s':Nat),(l=l/\v=v/\q3=(↑s':Int)/\aQ q4 v=aQ (List.take s' l) v/\bp q4 v++[x]=bp (List.take s' l) v)/\s' <= q1/\q1 - s' < q1 - s))/\(q0<=(↑s:Int)->aQ q4 v=r0/\bp q4 v=r1)) ((↑s:Int)+(1:Int))) (List.take s l)) ((0:Int)<=(↑s:Int))) ((↑s:Int)<q0)) (↑l.length:Int)) l.length) (140737488355328:Nat)):=by kernel_rfl
theorem xn (l:List Field) (v:Int):Sat Try.prog (al aF) 27 [.c (.fz (.nm .field) (l)),.c (.int (v))] [] ⟨[],[.c (.fz (.nm .field) ((aQ l v))),.c (.fz (.nm .field) ((bp l v)))],none,false⟩:=by
 refine aI eu (tn l v) Try.func27 (by decide) (by kernel_rfl) ?_
 rw [wk]
 (repeat' (first | with_reducible refine And.intro ?_ ?_ | with_reducible refine and_imp.2 ?_ | intro))
 all_goals try (first | (first | with_reducible rfl | with_reducible assumption | omega | (refine ag ?_ ?_ <;> omega)) | exact vf | exact uI | exact (Gd (by with_reducible assumption) (by with_reducible assumption) (by with_reducible assumption)) | exact (Dw (by with_reducible assumption) (by with_reducible assumption)) | exact (Dp (by with_reducible assumption) (by with_reducible assumption) (by with_reducible assumption)) | exact (EA (by with_reducible assumption) (by with_reducible assumption)) | exact (uO (by omega)) | exact (uK (by omega)) | (have h1:=gm (l.take ‹Nat›) v; have h2:=dz (l.take ‹Nat›) v; rw [List.length_take] at h1 h2; simp only [List.length_cons,List.length_nil]; omega))
 all_goals try (refine ⟨0,?_⟩; (repeat' (first | with_reducible refine And.intro ?_ ?_ | with_reducible refine and_imp.2 ?_ | intro)))
 all_goals try (first | (first | with_reducible rfl | with_reducible assumption | omega | (refine ag ?_ ?_ <;> omega)) | exact vf | exact uI | exact (Gd (by with_reducible assumption) (by with_reducible assumption) (by with_reducible assumption)) | exact (Dw (by with_reducible assumption) (by with_reducible assumption)) | exact (Dp (by with_reducible assumption) (by with_reducible assumption) (by with_reducible assumption)) | exact (EA (by with_reducible assumption) (by with_reducible assumption)) | exact (uO (by omega)) | exact (uK (by omega)) | (have h1:=gm (l.take ‹Nat›) v; have h2:=dz (l.take ‹Nat›) v; rw [List.length_take] at h1 h2; simp only [List.length_cons,List.length_nil]; omega))
 all_goals try (refine ⟨‹Nat› + 1,?_⟩; (repeat' (first | with_reducible refine And.intro ?_ ?_ | with_reducible refine and_imp.2 ?_ | intro)))
 all_goals (first | (first | with_reducible rfl | with_reducible assumption | omega | (refine ag ?_ ?_ <;> omega)) | exact vf | exact uI | exact (Gd (by with_reducible assumption) (by with_reducible assumption) (by with_reducible assumption)) | exact (Dw (by with_reducible assumption) (by with_reducible assumption)) | exact (Dp (by with_reducible assumption) (by with_reducible assumption) (by with_reducible assumption)) | exact (EA (by with_reducible assumption) (by with_reducible assumption)) | exact (uO (by omega)) | exact (uK (by omega)) | (have h1:=gm (l.take ‹Nat›) v; have h2:=dz (l.take ‹Nat›) v; rw [List.length_take] at h1 h2; simp only [List.length_cons,List.length_nil]; omega))
theorem uW (c:Command) (v:Int) (r0:List Field):tg aF oH (pt c v) Try.f56 [.agg (cellsOf (.nm .command) c),.c (.int (v))] [] [.c (.own 0)] [.row 58 (.nm .field) (r0)]=((fun (q11:den Sh.int)=>(fun (q10:Nat)=>(fun (q9:Str)=>(fun (q8:Int)=>(fun (q7:Int)=>(fun (q6:Nat)=>(fun (q5:List Int)=>(fun (q4:Int)=>(fun (q3:Int)=>(fun (q2:List (den (Sh.nm NT.field)))=>(fun (q1:List (den (Sh.nm NT.field)))=>(fun (q0:List (den Sh.int))=>I64 c.kind->I64 q7->I64 c.seq->I64 c.set->I64 c.id->I64 c.n->q5.length*(8:Nat)<=q10->q9.b.length<=q10->I64 v->∃ (s0:Nat),(fun (q12:Int)=>(v=v/\q3=(↑s0:Int)/\c.kind=c.kind/\q7=q7/\c.seq=c.seq/\c.set=c.set/\c.id=c.id/\c.n=c.n/\q5=q5/\q9=q9/\q0=q0/\pn c s0=[])/\s0<=q6/\∀ (s:Nat),(fun (q15:List Field)=>(fun (q14:den Sh.int)=>(fun (q13:Int)=>s<=q6->((↑s:Int)<q12->q3<=(↑s:Int)/\(↑s:Int)<q12/\(I64 q14->(¬q14=q3->I64 q13/\q3<=(↑s:Int)/\(↑s:Int)<q12/\(I64 q14->q3<=q14/\(q15.length+[Field.mk q13 q3 (U64.mk (Int.toNat q14)) []].length)*(48:Nat)<=q10/\I64 q13/\∃ (s':Nat),(v=v/\q13=(↑s':Int)/\c.kind=c.kind/\q7=q7/\c.seq=c.seq/\c.set=c.set/\c.id=c.id/\c.n=c.n/\q5=q5/\q9=q9/\q0=q0/\q15++[Field.mk q13 q3 (U64.mk (Int.toNat q14)) []]=pn c s')/\s' <= q6/\q6 - s' < q6 - s))/\(q14=q3->I64 q13/\∃ (s':Nat),(v=v/\q13=(↑s':Int)/\c.kind=c.kind/\q7=q7/\c.seq=c.seq/\c.set=c.set/\c.id=c.id/\c.n=c.n/\q5=q5/\q9=q9/\q0=q0/\q15=pn c s')/\s' <= q6/\q6 - s' < q6 - s)))/\(q12<=(↑s:Int)->(q3<(↑q5.length:Int)->I64 (bH q5)->(q15.length+q1.length)*(48:Nat)<=q10/\(q3<q4/\(3:Int)<=v->((q15++q1).length+q2.length)*(48:Nat)<=q10/\q15++q1++q2=r0)/\(q4<=q3\/v<(3:Int)->q15++q1=r0))/\((↑q5.length:Int)<=q3->(q3<q4/\(3:Int)<=v->(q15.length+q2.length)*(48:Nat)<=q10/\q15++q2=r0)/\(q4<=q3\/v<(3:Int)->q15=r0)))) ((↑s:Int)+q8)) (q0.getD s q11)) (pn c s)) (↑q0.length:Int)) [c.kind,q7,c.seq,c.set,c.id,c.n]) [Field.mk (7:Int) (2:Int) (U64.mk (0:Nat)) (aW q5)]) [Field.mk (8:Int) (2:Int) (U64.mk (0:Nat)) q9.b]) (0:Int)) (↑q9.b.length:Int)) c.chunks) (6:Nat)) c.client) (1:Int)) c.text) (140737488355328:Nat)) (dflt Sh.int)):=by kernel_rfl
theorem uV (c:Command) (v:Int) (h0:0<=c.kind) (h1:0<=c.client) (h2:0<=c.seq) (h3:0<=c.set) (h4:0<=c.id) (h5:0<=c.n) (h6:c.chunks.length=0\/rowF c.chunks=true):Sat Try.prog (al aF) 56 [.agg (cellsOf (.nm .command) c),.c (.int (v))] [] ⟨[0<=c.kind,0<=c.client,0<=c.seq,0<=c.set,0<=c.id,0<=c.n,c.chunks.length=0\/rowF c.chunks=true],[.c (.own 0)],some ([.row 58 (.nm .field) ((aV c v))]),true⟩:=by
 refine eR eu (pt c v) Try.func56 (by decide) (by kernel_rfl) ?_
 rw [uW]
 (repeat' (first | with_reducible refine And.intro ?_ ?_ | with_reducible refine and_imp.2 ?_ | intro))
 all_goals try (first | (first | with_reducible rfl | with_reducible assumption | omega | (refine ag ?_ ?_ <;> omega)) | exact rfl | exact (zL (by with_reducible assumption)) | exact (wL (by with_reducible assumption)) | exact (wF (by with_reducible assumption) (by with_reducible assumption) (by with_reducible assumption) (by with_reducible assumption) (by with_reducible assumption) (by with_reducible assumption)) | exact (xI (by with_reducible assumption) (by with_reducible assumption) (by with_reducible assumption) (by with_reducible assumption) (by with_reducible assumption) (by with_reducible assumption)) | exact (zC (by with_reducible assumption) (by with_reducible assumption) (by with_reducible assumption) (by with_reducible assumption) (by assumption)) | exact (wK (by with_reducible assumption) (by with_reducible assumption) (by with_reducible assumption) (by with_reducible assumption) (by with_reducible assumption)) | exact (zq (by with_reducible assumption) (by with_reducible assumption) (by with_reducible assumption) (by assumption)) | (have hq:((‹Nat›:Nat):Int)<(([c.kind,c.client,c.seq,c.set,c.id,c.n].length:Nat):Int):=(by with_reducible assumption); simp only [List.length_cons,List.length_nil] at hq; omega) | (have:=lf c ‹Nat›; (try simp only [List.length_append]); simp only [List.length_cons,List.length_nil]; omega))
 all_goals try (refine ⟨0,?_⟩; (repeat' (first | with_reducible refine And.intro ?_ ?_ | with_reducible refine and_imp.2 ?_ | intro)))
 all_goals try (first | (first | with_reducible rfl | with_reducible assumption | omega | (refine ag ?_ ?_ <;> omega)) | exact rfl | exact (zL (by with_reducible assumption)) | exact (wL (by with_reducible assumption)) | exact (wF (by with_reducible assumption) (by with_reducible assumption) (by with_reducible assumption) (by with_reducible assumption) (by with_reducible assumption) (by with_reducible assumption)) | exact (xI (by with_reducible assumption) (by with_reducible assumption) (by with_reducible assumption) (by with_reducible assumption) (by with_reducible assumption) (by with_reducible assumption)) | exact (zC (by with_reducible assumption) (by with_reducible assumption) (by with_reducible assumption) (by with_reducible assumption) (by assumption)) | exact (wK (by with_reducible assumption) (by with_reducible assumption) (by with_reducible assumption) (by with_reducible assumption) (by with_reducible assumption)) | exact (zq (by with_reducible assumption) (by with_reducible assumption) (by with_reducible assumption) (by assumption)) | (have hq:((‹Nat›:Nat):Int)<(([c.kind,c.client,c.seq,c.set,c.id,c.n].length:Nat):Int):=(by with_reducible assumption); simp only [List.length_cons,List.length_nil] at hq; omega) | (have:=lf c ‹Nat›; (try simp only [List.length_append]); simp only [List.length_cons,List.length_nil]; omega))
 all_goals try (refine ⟨‹Nat› + 1,?_⟩; (repeat' (first | with_reducible refine And.intro ?_ ?_ | with_reducible refine and_imp.2 ?_ | intro)))
 all_goals (first | (first | with_reducible rfl | with_reducible assumption | omega | (refine ag ?_ ?_ <;> omega)) | exact rfl | exact (zL (by with_reducible assumption)) | exact (wL (by with_reducible assumption)) | exact (wF (by with_reducible assumption) (by with_reducible assumption) (by with_reducible assumption) (by with_reducible assumption) (by with_reducible assumption) (by with_reducible assumption)) | exact (xI (by with_reducible assumption) (by with_reducible assumption) (by with_reducible assumption) (by with_reducible assumption) (by with_reducible assumption) (by with_reducible assumption)) | exact (zC (by with_reducible assumption) (by with_reducible assumption) (by with_reducible assumption) (by with_reducible assumption) (by assumption)) | exact (wK (by with_reducible assumption) (by with_reducible assumption) (by with_reducible assumption) (by with_reducible assumption) (by with_reducible assumption)) | exact (zq (by with_reducible assumption) (by with_reducible assumption) (by with_reducible assumption) (by assumption)) | (have hq:((‹Nat›:Nat):Int)<(([c.kind,c.client,c.seq,c.set,c.id,c.n].length:Nat):Int):=(by with_reducible assumption); simp only [List.length_cons,List.length_nil] at hq; omega) | (have:=lf c ‹Nat›; (try simp only [List.length_append]); simp only [List.length_cons,List.length_nil]; omega))
noncomputable def wu:cH:=(bT 56 (bM (ai (kT (.nm .command)) (ai (kC cI) aO)) aP fun (c,v,_) (_)=>⟨[0<=c.kind,0<=c.client,0<=c.seq,0<=c.set,0<=c.id,0<=c.n,c.chunks.length=0\/rowF c.chunks=true],[.c (.own 0)],some ([.row 58 (.nm .field) ((aV c v))]),true⟩) (bT 27 (bM (ai (kC (cL (.nm .field))) (ai (kC cI) aO)) aP fun (l,v,_) (_)=>⟨[],[.c (.fz (.nm .field) ((aQ l v))),.c (.fz (.nm .field) ((bp l v)))],none,false⟩) (bT 53 (bM (ai (kT (.nm .command)) (ai (kC cI) aO)) aP fun (c,v,_) (_)=>⟨[],[.c (.bool (.atom ((b_ c v))))],none,false⟩) (bT 29 (bM (ai (kC (cL .u8)) aO) aP fun (b,_) (_)=>⟨[b.length<=100000],[.c (.fz .int ((cK b))),.c (.int ((eZ b)))],none,false⟩) (bT 50 (bM (ai (kC cI) (ai (kC cI) aO)) aP fun (q,v,_) (_)=>⟨[q=1],[.c (.fz (.nm .spec) ((ao v)))],none,false⟩) (bT 71 (bM (ai (kT (.nm .field)) aO) aP fun (f,_) (_)=>⟨[f.b.length<=16384],[.c (.own 0)],some ([.row 5 .u8 ((ba f))]),true⟩) (bT 47 (bM (ai (kC (cL .u8)) aO) aP fun (b,_) (_)=>⟨[],[.c (.int (((ah b).num))),.c (.int (((ah b).wire))),.c (.int ((((ah b).k:Nat)))),.c (.int (((ah b).e)))],none,false⟩) oH)))))))
theorem kS:aT Try.prog (al aF) wu:=(av (au (ab ck (ab (aq aK) aj)) ak fun (c,v,_) (_) hp=>uV c v (fH hp) (fH (fb hp)) (fH (fb (fb hp))) (fH (fb (fb (fb hp)))) (fH (fb (fb (fb (fb hp))))) (fH (fb (fb (fb (fb (fb hp)))))) (fH (fb (fb (fb (fb (fb (fb hp)))))))) (av (au (ab (aq bf) (ab (aq aK) aj)) ak fun (l,v,_) (_) _=>xn l v ) (av (au (ab ck (ab (aq aK) aj)) ak fun (c,v,_) (_) _=>FT c v ) (av (au (ab (aq bf) aj) ak fun (b,_) (_) hp=>Cu b (fH hp)) (av (au (ab (aq aK) (ab (aq aK) aj)) ak fun (q,v,_) (_) hp=>xf q v (fH hp)) (av (au (ab ck aj) ak fun (f,_) (_) hp=>Fc f (fH hp)) (av (au (ab (aq bf) aj) ak fun (b,_) (_) _=>wD b ) eu)))))))
end Go.Proofs.Ytladifkbefehdaa
namespace Go.Proofs.Ytladifkbefehdaa
open Go.RowKit
def iJ (l:List Field) (k:Nat):Prop:=∀ j y,j<k->l[j]? = some y->y.b.length<=16384
theorem uv {l:List Field}:iJ l 0:=fun j y h=>by omega
theorem vc {l:List Field} {k:Nat} {x:Field} (h:Wq (iJ l k)) (hx:l[k]? = some x) (hn:(x.b.length:Int)<=16384):Wq (iJ l (k+1)):=⟨fun j y hj hy=>by
 by_cases hjk:j=k
 ·subst hjk; rw [hy] at hx; cases hx; omega
 ·exact h.h j y (by omega) hy⟩
theorem uM {l:List Field} {k:Nat} (h:Wq (iJ l k)) (hk:l.length<=k):Wq (iJ l l.length):=⟨fun j y hj=>h.h j y (by omega)⟩
theorem kF {l:List Field} {k:Nat} {x:Field} (h:Wq (iJ l l.length)) (hx:l[k]? = some x):x.b.length<=16384:=h.h k x (jo hx) hx
theorem JO (x:Field):((¬ fF x.num x.wire=0\/x.wire=0/\0<((x.b.length:Nat):Int))\/x.wire=2/\¬ ((x.n.n:Nat):Int)=0)↔bI x=false:=by
 have e:=zE (f:=x)
 rw [Bool.eq_iff_iff] at e
 simpa only [Bool.or_eq_true,Bool.and_eq_true,Bool.not_eq_true',decide_eq_true_eq,decide_eq_false_iff_not] using e
theorem Gx {x:Field} (h:(¬ fF x.num x.wire=0\/x.wire=0/\0<((x.b.length:Nat):Int))\/x.wire=2/\¬ ((x.n.n:Nat):Int)=((0:Nat):Int)):bI x=false:=(JO x).1 h
theorem pj {x:Field} (h1:fF x.num x.wire=0) (h2:¬ x.wire=0\/((x.b.length:Nat):Int)<=0) (h3:¬ x.wire=2\/((x.n.n:Nat):Int)=((0:Nat):Int)):bI x=true:=by
 rw [<- Bool.not_eq_false,<- JO]; omega
theorem GY {b:Bool} (h:(!b)=true):b=false:=by simpa using h
theorem vL {n:Int} {b:Bool} (h:n<=0\/(!b)=false):n<=0\/b=true:=h.imp_right (by simp)
theorem ur {l:List Field} {k:Nat} (h:bB none l=0) (hk:l.length<=k) (hs:(16384:Int)<((cE (l.take k):Nat):Int)):4=aZ l:=by
 rw [List.take_of_length_le hk] at hs; rw [aZ,if_pos h,if_pos hs]
theorem um {l:List Field} {k:Nat} (h:bB none l=0) (hk:l.length<=k) (hs:¬ (16384:Int)<((cE (l.take k):Nat):Int)):0=aZ l:=by
 rw [List.take_of_length_le hk] at hs; rw [aZ,if_pos h,if_neg hs]
theorem Hp {b:List UInt8} (h:(ah b).e=0) (h2:(ae (b.drop (ah b).k)).2.2=0) (h3:¬ (ah b).wire=0) (h4:(ae (b.drop (ah b).k)).1<=16384) (h5:((b.length:Nat):Int) - ((ah b).k:Int) - ((ae (b.drop (ah b).k)).2.1:Nat)<bV (ae (b.drop (ah b).k)).1):(0:Int)=((aw b).1:Nat)/\2=(aw b).2:=Gt h h2 h3 h4 (by omega)
theorem Hi {b:List UInt8} (h:(ah b).e=0) (h2:(ae (b.drop (ah b).k)).2.2=0) (h3:¬ (ah b).wire=0) (h4:(ae (b.drop (ah b).k)).1<=16384) (h5:bV (ae (b.drop (ah b).k)).1<=((b.length:Nat):Int) - ((ah b).k:Int) - ((ae (b.drop (ah b).k)).2.1:Nat)):((ah b).k:Int)+((ae (b.drop (ah b).k)).2.1:Nat)+bV (ae (b.drop (ah b).k)).1=((aw b).1:Nat)/\0=(aw b).2:=Fm h h2 h3 h4 (by omega)
def C_ (l:List Field):List (Nat × LI):=[(2,{ σ:=Nat,F:=fun k=>([(0,one (.fz (.nm .field) (l))),(3,one (.int k))],[]),J:=fun k=>k<=l.length/\bB none l=bB (bY l k) (l.drop k)/\Wq (iJ l k),μ:=fun k=>l.length - k }),(14,{ σ:=Nat,F:=fun k=>([(0,one (.fz (.nm .field) (l))),(7,one (.int (cE (l.take k):Nat))),(8,one (.int k))],[]),J:=fun k=>k<=l.length/\bB none l=0/\cE (l.take k)<=k*16404/\Wq (iJ l l.length),μ:=fun k=>l.length - k })]
def CC (q:Int) (v:Int):List (Nat × LI):=[(4,{ σ:=Nat,F:=fun k=>([(5,one (.int (((ao v).take k).foldl (fun t s=>max t s.num) 0))),(6,one (.fz (.nm .spec) (ao v))),(7,one (.int k))],[]),J:=fun k=>k<=(ao v).length,μ:=fun k=>(ao v).length - k })]
theorem AL (b:List UInt8) (r0:Int) (r1:Int):cD aF wu [] Try.f46 [.c (.fz .u8 (b))] [] [.c (.int (r0)),.c (.int (r1))]=((fun (q4:TagR)=>(fun (q3:Int)=>(fun (q2:Int)=>(fun (q1:Int)=>(fun (q0:Nat × Nat × Int)=>b.length*(1:Nat)<=(140737488355328:Nat)->I64 q4.num->I64 q4.wire->I64 q1->I64 q4.e->(¬q4.e=q2->q2=r0/\q4.e=r1)/\(q4.e=q2->q2<=q1/\q1<=q3/\(q0.fst<(18446744073709551616:Nat)->I64 (↑q0.snd.fst:Int)->I64 q0.snd.snd->(¬q0.snd.snd=q2->q2=r0/\q0.snd.snd=r1)/\(q0.snd.snd=q2->(q4.wire=q2->I64 (q1+(↑q0.snd.fst:Int))/\q1+(↑q0.snd.fst:Int)=r0/\q2=r1)/\(¬q4.wire=q2->((↑(16384:Nat):Int)<(↑q0.fst:Int)->q2=r0/\(4:Int)=r1)/\((↑q0.fst:Int)<=(↑(16384:Nat):Int)->I64 (q3 - q1)/\I64 (q3 - q1 - (↑q0.snd.fst:Int))/\(q3 - q1 - (↑q0.snd.fst:Int)<bV q0.fst->q2=r0/\(2:Int)=r1)/\(bV q0.fst<=q3 - q1 - (↑q0.snd.fst:Int)->I64 (q1+(↑q0.snd.fst:Int))/\I64 (q1+(↑q0.snd.fst:Int)+bV q0.fst)/\q1+(↑q0.snd.fst:Int)+bV q0.fst=r0/\q2=r1))))))) (ae (List.drop q4.k b))) (↑q4.k:Int)) (0:Int)) (↑b.length:Int)) (ah b)):=by kernel_rfl
theorem Be (b:List UInt8):Sat Try.prog (al aF) 46 [.c (.fz .u8 (b))] [] ⟨[],[.c (.int ((((aw b).1:Nat)))),.c (.int (((aw b).2)))],none,false⟩:=by
 refine aI kS [] Try.func46 (by decide) (by kernel_rfl) ?_
 rw [AL]
 (repeat' (first | with_reducible refine And.intro ?_ ?_ | with_reducible refine and_imp.2 ?_ | intro))
 all_goals (first | (first | with_reducible rfl | with_reducible assumption | omega | (refine ag ?_ ?_ <;> omega)) | (rw [FK (by with_reducible assumption)] <;> rfl) | (rw [DI (by with_reducible assumption) (by with_reducible assumption)] <;> rfl) | (rw [Dl (by with_reducible assumption) (by with_reducible assumption) (by with_reducible assumption)] <;> rfl) | (rw [EO (by with_reducible assumption) (by with_reducible assumption) (by with_reducible assumption) (by omega)] <;> rfl) | exact (Hp (by with_reducible assumption) (by with_reducible assumption) (by with_reducible assumption) (by omega) (by with_reducible assumption)).1 | exact (Hp (by with_reducible assumption) (by with_reducible assumption) (by with_reducible assumption) (by omega) (by with_reducible assumption)).2 | exact (Hi (by with_reducible assumption) (by with_reducible assumption) (by with_reducible assumption) (by omega) (by with_reducible assumption)).1 | exact (Hi (by with_reducible assumption) (by with_reducible assumption) (by with_reducible assumption) (by omega) (by with_reducible assumption)).2 | (have h1:=dH b; have h2:=dy b (ah b).k; first | omega | (refine ag ?_ ?_ <;> omega)) | (have h1:=dH b; have h2:=dy b (ah b).k; have h3:=dc (m:=(ae (b.drop (ah b).k)).1) (by omega); first | omega | (refine ag ?_ ?_ <;> omega)))
theorem EI (l:List Field) (r0:Int):cD aF wu (C_ l) Try.f51 [.c (.fz (.nm .field) (l))] [] [.c (.int (r0))]=((fun (q5:den (Sh.nm NT.field))=>(fun (q4:Int)=>(fun (q3:Int)=>(fun (q2:Nat)=>(fun (q1:Int)=>(fun (q0:Int)=>l.length*(48:Nat)<=(140737488355328:Nat)->∃ (s0:Nat),(l=l/\q0=(↑s0:Int))/\(s0<=q2/\q4=bB (bY l s0) (List.drop s0 l)/\Wq (iJ l s0))/\∀ (s:Nat),(fun (q7:Int)=>(fun (q6:den (Sh.nm NT.field))=>s<=q2/\q4=bB (bY l s) (List.drop s l)/\Wq (iJ l s)->(q7<q3->q0<=q7/\q7<q3/\∀ (x:Field),(fun (q9:Int)=>(fun (q8:Int)=>l[s]? = some x->I64 x.num->I64 x.wire->x.n.n<(18446744073709551616:Nat)->x.b.length*(1:Nat)<=(140737488355328:Nat)->I64 q9->((¬q9=q0\/x.wire=q0/\q0<q8)\/x.wire=(2:Int)/\¬(↑x.n.n:Int)=(↑(0:Nat):Int)->q1=r0)/\((q9=q0/\(¬x.wire=q0\/q8<=q0))/\(¬x.wire=(2:Int)\/(↑x.n.n:Int)=(↑(0:Nat):Int))->(q0<q7->I64 (q7 - q1))/\(q0<q7->q0<=q7 - q1/\q7 - q1<q3)/\((q0<q7->I64 q6.num/\I64 q6.wire/\q6.n.n<(18446744073709551616:Nat)/\q6.b.length*(1:Nat)<=(140737488355328:Nat))->(q0<q7/\(!bD q6 x)=true->(5:Int)=r0)/\(q7<=q0\/(!bD q6 x)=false->((16384:Int)<q8->(4:Int)=r0)/\(q8<=(16384:Int)->I64 (q7+q1)/\∃ (s':Nat),(l=l/\q7+q1=(↑s':Int))/\(s' <= q2/\q4=bB (bY l s') (List.drop s' l)/\Wq (iJ l s'))/\q2 - s' < q2 - s))))) (↑x.b.length:Int)) (fF x.num x.wire))/\(q3<=q7->∃ (s0:Nat),(l=l/\q0=(↑(cE (List.take s0 l)):Int)/\q0=(↑s0:Int))/\(s0<=q2/\q4=q0/\cE (List.take s0 l)<=s0*(16404:Nat)/\Wq (iJ l q2))/\∀ (s:Nat),(fun (q10:Int)=>s<=q2/\q4=q0/\cE (List.take s l)<=s*(16404:Nat)/\Wq (iJ l q2)->((↑s:Int)<q3->q0<=(↑s:Int)/\(↑s:Int)<q3/\∀ (x:Field),l[s]? = some x->I64 x.num->I64 x.wire->x.n.n<(18446744073709551616:Nat)->x.b.length*(1:Nat)<=(140737488355328:Nat)->x.b.length<=(16384:Nat)/\I64 (q10+(↑(ba x).length:Int))/\I64 ((↑s:Int)+q1)/\∃ (s':Nat),(l=l/\q10+(↑(ba x).length:Int)=(↑(cE (List.take s' l)):Int)/\(↑s:Int)+q1=(↑s':Int))/\(s' <= q2/\q4=q0/\cE (List.take s' l)<=s' * (16404:Nat)/\Wq (iJ l q2))/\q2 - s' < q2 - s)/\(q3<=(↑s:Int)->((16384:Int)<q10->(4:Int)=r0)/\(q10<=(16384:Int)->q0=r0))) (↑(cE (List.take s l)):Int))) (l.getD (q7 - q1).toNat q5)) (↑s:Int)) (0:Int)) (1:Int)) l.length) (↑l.length:Int)) (bB none l)) (dflt (Sh.nm NT.field))):=by kernel_rfl
theorem Fa (l:List Field):Sat Try.prog (al aF) 51 [.c (.fz (.nm .field) (l))] [] ⟨[],[.c (.int ((aZ l)))],none,false⟩:=by
 refine aI kS (C_ l) Try.func51 (by decide) (by kernel_rfl) ?_
 rw [EI]
 (repeat' (first | with_reducible refine And.intro ?_ ?_ | with_reducible refine and_imp.2 ?_ | intro))
 all_goals try (first | (first | with_reducible rfl | with_reducible assumption | omega | (refine ag ?_ ?_ <;> omega)) | exact rfl | exact (Nat.le_refl 0) | exact ⟨uv⟩ | exact (fC (by with_reducible assumption) (by with_reducible assumption) (Gx (by assumption))) | exact (fA (by with_reducible assumption) (by with_reducible assumption) (pj (by with_reducible assumption) (by assumption) (by assumption)) (by omega) (mS (by omega) (by with_reducible assumption)) (GY (by with_reducible assumption))) | exact (ff (by with_reducible assumption) (by with_reducible assumption) (pj (by with_reducible assumption) (by assumption) (by assumption)) (di (vL (by assumption)) (by omega)) (by with_reducible assumption)) | exact (de (by with_reducible assumption) (by with_reducible assumption) (pj (by with_reducible assumption) (by assumption) (by assumption)) (di (vL (by assumption)) (by omega)) (by omega)) | exact (vc (by with_reducible assumption) (by with_reducible assumption) (by with_reducible assumption)) | exact (uM (by with_reducible assumption) (by omega)) | exact (kF (by with_reducible assumption) (by with_reducible assumption)) | exact (eg (by with_reducible assumption) (by omega)) | exact (ur (k:=‹Nat›) (by with_reducible assumption) (by omega) (by omega)) | exact (um (k:=‹Nat›) (by with_reducible assumption) (by omega) (by omega)) | (have h1:=bj (f:=‹Field›) (kF (by with_reducible assumption) (by with_reducible assumption)) (by with_reducible assumption); have h2:=db (show l[_]? = some ‹Field› by with_reducible assumption); first | omega | (refine ag ?_ ?_ <;> omega)))
 all_goals try (refine ⟨0,?_⟩; (repeat' (first | with_reducible refine And.intro ?_ ?_ | with_reducible refine and_imp.2 ?_ | intro)))
 all_goals try (first | (first | with_reducible rfl | with_reducible assumption | omega | (refine ag ?_ ?_ <;> omega)) | exact rfl | exact (Nat.le_refl 0) | exact ⟨uv⟩ | exact (fC (by with_reducible assumption) (by with_reducible assumption) (Gx (by assumption))) | exact (fA (by with_reducible assumption) (by with_reducible assumption) (pj (by with_reducible assumption) (by assumption) (by assumption)) (by omega) (mS (by omega) (by with_reducible assumption)) (GY (by with_reducible assumption))) | exact (ff (by with_reducible assumption) (by with_reducible assumption) (pj (by with_reducible assumption) (by assumption) (by assumption)) (di (vL (by assumption)) (by omega)) (by with_reducible assumption)) | exact (de (by with_reducible assumption) (by with_reducible assumption) (pj (by with_reducible assumption) (by assumption) (by assumption)) (di (vL (by assumption)) (by omega)) (by omega)) | exact (vc (by with_reducible assumption) (by with_reducible assumption) (by with_reducible assumption)) | exact (uM (by with_reducible assumption) (by omega)) | exact (kF (by with_reducible assumption) (by with_reducible assumption)) | exact (eg (by with_reducible assumption) (by omega)) | exact (ur (k:=‹Nat›) (by with_reducible assumption) (by omega) (by omega)) | exact (um (k:=‹Nat›) (by with_reducible assumption) (by omega) (by omega)) | (have h1:=bj (f:=‹Field›) (kF (by with_reducible assumption) (by with_reducible assumption)) (by with_reducible assumption); have h2:=db (show l[_]? = some ‹Field› by with_reducible assumption); first | omega | (refine ag ?_ ?_ <;> omega)))
 all_goals try (have hg:((‹Nat›:Nat):Int)<(l.length:Int):=(by omega); clear hg; refine ⟨‹Nat› + 1,?_⟩; (repeat' (first | with_reducible refine And.intro ?_ ?_ | with_reducible refine and_imp.2 ?_ | intro)))
 all_goals try (first | (first | with_reducible rfl | with_reducible assumption | omega | (refine ag ?_ ?_ <;> omega)) | exact rfl | exact (Nat.le_refl 0) | exact ⟨uv⟩ | exact (fC (by with_reducible assumption) (by with_reducible assumption) (Gx (by assumption))) | exact (fA (by with_reducible assumption) (by with_reducible assumption) (pj (by with_reducible assumption) (by assumption) (by assumption)) (by omega) (mS (by omega) (by with_reducible assumption)) (GY (by with_reducible assumption))) | exact (ff (by with_reducible assumption) (by with_reducible assumption) (pj (by with_reducible assumption) (by assumption) (by assumption)) (di (vL (by assumption)) (by omega)) (by with_reducible assumption)) | exact (de (by with_reducible assumption) (by with_reducible assumption) (pj (by with_reducible assumption) (by assumption) (by assumption)) (di (vL (by assumption)) (by omega)) (by omega)) | exact (vc (by with_reducible assumption) (by with_reducible assumption) (by with_reducible assumption)) | exact (uM (by with_reducible assumption) (by omega)) | exact (kF (by with_reducible assumption) (by with_reducible assumption)) | exact (eg (by with_reducible assumption) (by omega)) | exact (ur (k:=‹Nat›) (by with_reducible assumption) (by omega) (by omega)) | exact (um (k:=‹Nat›) (by with_reducible assumption) (by omega) (by omega)) | (have h1:=bj (f:=‹Field›) (kF (by with_reducible assumption) (by with_reducible assumption)) (by with_reducible assumption); have h2:=db (show l[_]? = some ‹Field› by with_reducible assumption); first | omega | (refine ag ?_ ?_ <;> omega)))
 all_goals try (refine ⟨0,?_⟩; (repeat' (first | with_reducible refine And.intro ?_ ?_ | with_reducible refine and_imp.2 ?_ | intro)))
 all_goals try (first | (first | with_reducible rfl | with_reducible assumption | omega | (refine ag ?_ ?_ <;> omega)) | exact rfl | exact (Nat.le_refl 0) | exact ⟨uv⟩ | exact (fC (by with_reducible assumption) (by with_reducible assumption) (Gx (by assumption))) | exact (fA (by with_reducible assumption) (by with_reducible assumption) (pj (by with_reducible assumption) (by assumption) (by assumption)) (by omega) (mS (by omega) (by with_reducible assumption)) (GY (by with_reducible assumption))) | exact (ff (by with_reducible assumption) (by with_reducible assumption) (pj (by with_reducible assumption) (by assumption) (by assumption)) (di (vL (by assumption)) (by omega)) (by with_reducible assumption)) | exact (de (by with_reducible assumption) (by with_reducible assumption) (pj (by with_reducible assumption) (by assumption) (by assumption)) (di (vL (by assumption)) (by omega)) (by omega)) | exact (vc (by with_reducible assumption) (by with_reducible assumption) (by with_reducible assumption)) | exact (uM (by with_reducible assumption) (by omega)) | exact (kF (by with_reducible assumption) (by with_reducible assumption)) | exact (eg (by with_reducible assumption) (by omega)) | exact (ur (k:=‹Nat›) (by with_reducible assumption) (by omega) (by omega)) | exact (um (k:=‹Nat›) (by with_reducible assumption) (by omega) (by omega)) | (have h1:=bj (f:=‹Field›) (kF (by with_reducible assumption) (by with_reducible assumption)) (by with_reducible assumption); have h2:=db (show l[_]? = some ‹Field› by with_reducible assumption); first | omega | (refine ag ?_ ?_ <;> omega)))
 all_goals try (refine ⟨‹Nat› + 1,?_⟩; (repeat' (first | with_reducible refine And.intro ?_ ?_ | with_reducible refine and_imp.2 ?_ | intro)))
 all_goals try (first | (first | with_reducible rfl | with_reducible assumption | omega | (refine ag ?_ ?_ <;> omega)) | exact rfl | exact (Nat.le_refl 0) | exact ⟨uv⟩ | exact (fC (by with_reducible assumption) (by with_reducible assumption) (Gx (by assumption))) | exact (fA (by with_reducible assumption) (by with_reducible assumption) (pj (by with_reducible assumption) (by assumption) (by assumption)) (by omega) (mS (by omega) (by with_reducible assumption)) (GY (by with_reducible assumption))) | exact (ff (by with_reducible assumption) (by with_reducible assumption) (pj (by with_reducible assumption) (by assumption) (by assumption)) (di (vL (by assumption)) (by omega)) (by with_reducible assumption)) | exact (de (by with_reducible assumption) (by with_reducible assumption) (pj (by with_reducible assumption) (by assumption) (by assumption)) (di (vL (by assumption)) (by omega)) (by omega)) | exact (vc (by with_reducible assumption) (by with_reducible assumption) (by with_reducible assumption)) | exact (uM (by with_reducible assumption) (by omega)) | exact (kF (by with_reducible assumption) (by with_reducible assumption)) | exact (eg (by with_reducible assumption) (by omega)) | exact (ur (k:=‹Nat›) (by with_reducible assumption) (by omega) (by omega)) | exact (um (k:=‹Nat›) (by with_reducible assumption) (by omega) (by omega)) | (have h1:=bj (f:=‹Field›) (kF (by with_reducible assumption) (by with_reducible assumption)) (by with_reducible assumption); have h2:=db (show l[_]? = some ‹Field› by with_reducible assumption); first | omega | (refine ag ?_ ?_ <;> omega)))
 all_goals (first | (first | with_reducible rfl | with_reducible assumption | omega | (refine ag ?_ ?_ <;> omega)) | exact rfl | exact (Nat.le_refl 0) | exact ⟨uv⟩ | exact (fC (by with_reducible assumption) (by with_reducible assumption) (Gx (by assumption))) | exact (fA (by with_reducible assumption) (by with_reducible assumption) (pj (by with_reducible assumption) (by assumption) (by assumption)) (by omega) (mS (by omega) (by with_reducible assumption)) (GY (by with_reducible assumption))) | exact (ff (by with_reducible assumption) (by with_reducible assumption) (pj (by with_reducible assumption) (by assumption) (by assumption)) (di (vL (by assumption)) (by omega)) (by with_reducible assumption)) | exact (de (by with_reducible assumption) (by with_reducible assumption) (pj (by with_reducible assumption) (by assumption) (by assumption)) (di (vL (by assumption)) (by omega)) (by omega)) | exact (vc (by with_reducible assumption) (by with_reducible assumption) (by with_reducible assumption)) | exact (uM (by with_reducible assumption) (by omega)) | exact (kF (by with_reducible assumption) (by with_reducible assumption)) | exact (eg (by with_reducible assumption) (by omega)) | exact (ur (k:=‹Nat›) (by with_reducible assumption) (by omega) (by omega)) | exact (um (k:=‹Nat›) (by with_reducible assumption) (by omega) (by omega)) | (have h1:=bj (f:=‹Field›) (kF (by with_reducible assumption) (by with_reducible assumption)) (by with_reducible assumption); have h2:=db (show l[_]? = some ‹Field› by with_reducible assumption); first | omega | (refine ag ?_ ?_ <;> omega)))
theorem ES (q:Int) (v:Int) (r0:Int):cD aF wu (CC q v) Try.f28 [.c (.int (q)),.c (.int (v))] [] [.c (.int (r0))]=((fun (q1:Int)=>(fun (q0:List Spec)=>I64 q->I64 v->q=(1:Int)/\(q0.length*(32:Nat)<=(140737488355328:Nat)->∃ (s0:Nat),(q1=List.foldl (fun (t:Int) (s:Spec)=>max t s.num) q1 (List.take s0 q0)/\q0=q0/\q1=(↑s0:Int))/\s0<=q0.length/\∀ (s:Nat),(fun (q2:Int)=>s<=q0.length->((↑s:Int)<(↑q0.length:Int)->q1<=(↑s:Int)/\(↑s:Int)<(↑q0.length:Int)/\∀ (x:Spec),q0[s]? = some x->I64 x.num->I64 x.wire->I64 x.since->I64 ((↑s:Int)+(1:Int))/\∃ (s':Nat),(max q2 x.num=List.foldl (fun (t:Int) (s:Spec)=>max t s.num) q1 (List.take s' q0)/\q0=q0/\(↑s:Int)+(1:Int)=(↑s':Int))/\s' <= q0.length/\q0.length - s' < q0.length - s)/\((↑q0.length:Int)<=(↑s:Int)->q2=r0)) (List.foldl (fun (t:Int) (s:Spec)=>max t s.num) q1 (List.take s q0)))) (ao v)) (0:Int)):=by kernel_rfl
theorem Gc (q:Int) (v:Int) (h0:q=1):Sat Try.prog (al aF) 28 [.c (.int (q)),.c (.int (v))] [] ⟨[q=1],[.c (.int ((aC v)))],none,false⟩:=by
 refine aI kS (CC q v) Try.func28 (by decide) (by kernel_rfl) ?_
 rw [ES]
 (repeat' (first | with_reducible refine And.intro ?_ ?_ | with_reducible refine and_imp.2 ?_ | intro))
 all_goals try (first | (first | with_reducible rfl | with_reducible assumption | omega | (refine ag ?_ ?_ <;> omega)) | exact rfl | exact (eJ (by with_reducible assumption)) | (rw [aC,List.take_of_length_le (by omega)]))
 all_goals try (refine ⟨0,?_⟩; (repeat' (first | with_reducible refine And.intro ?_ ?_ | with_reducible refine and_imp.2 ?_ | intro)))
 all_goals try (first | (first | with_reducible rfl | with_reducible assumption | omega | (refine ag ?_ ?_ <;> omega)) | exact rfl | exact (eJ (by with_reducible assumption)) | (rw [aC,List.take_of_length_le (by omega)]))
 all_goals try (refine ⟨‹Nat› + 1,?_⟩; (repeat' (first | with_reducible refine And.intro ?_ ?_ | with_reducible refine and_imp.2 ?_ | intro)))
 all_goals (first | (first | with_reducible rfl | with_reducible assumption | omega | (refine ag ?_ ?_ <;> omega)) | exact rfl | exact (eJ (by with_reducible assumption)) | (rw [aC,List.take_of_length_le (by omega)]))
noncomputable def vX:cH:=(bT 28 (bM (ai (kC cI) (ai (kC cI) aO)) aP fun (q,v,_) (_)=>⟨[q=1],[.c (.int ((aC v)))],none,false⟩) (bT 51 (bM (ai (kC (cL (.nm .field))) aO) aP fun (l,_) (_)=>⟨[],[.c (.int ((aZ l)))],none,false⟩) (bT 46 (bM (ai (kC (cL .u8)) aO) aP fun (b,_) (_)=>⟨[],[.c (.int ((((aw b).1:Nat)))),.c (.int (((aw b).2)))],none,false⟩) wu)))
theorem kW:aT Try.prog (al aF) vX:=(av (au (ab (aq aK) (ab (aq aK) aj)) ak fun (q,v,_) (_) hp=>Gc q v (fH hp)) (av (au (ab (aq bf) aj) ak fun (l,_) (_) _=>Fa l ) (av (au (ab (aq bf) aj) ak fun (b,_) (_) _=>Be b ) kS)))
end Go.Proofs.Ytladifkbefehdaa
namespace Go.Proofs.Ytladifkbefehdaa
open Go.RowKit
theorem jt {b:List UInt8} {n:Nat} (h:(ae b).2.2=0) (hn:(ae b).2.1<=n):ae (b.take n)=ae b:=by
 have he:ae b=((ae b).1,(ae b).2.1,0):=by rw [<- h]
 have hv:(ae b).1<18446744073709551616:=Dc (l:=b) (k:=0) (n:=0) (by decide) (by decide) (by decide)
 obtain ⟨u,j,h3,h4,h5,_⟩:=canon (k:=0) (n:=0) he
 have h6:u=(ae b).1:=by simpa using h3.symm
 have h7:j=(ae b).2.1:=by omega
 rw [h6,h7] at h5
 have h8:(ae b).2.1<=b.length:=by have:=(gq (l:=b) (k:=0) (n:=0) (by decide)).2; rw [Nat.zero_add] at this; exact this
 have e:b.take n=bb (ae b).1++(b.take n).drop (ae b).2.1:=by
  rw [h5,show b.take (ae b).2.1=(b.take n).take (ae b).2.1 by rw [List.take_take,Nat.min_eq_left hn],List.take_append_drop]
 rw [e,nJ hv,h5,List.length_take,Nat.min_eq_left h8,<- he]
theorem DS {b:List UInt8} (h:(ah b).e=0):(ae b).2.2=0/\(ah b).k=(ae b).2.1:=by
 by_cases h1:(ae b).2.2=0
 ·refine ⟨h1,?_⟩
  unfold ah at h ⊢
  rw [if_pos h1] at h ⊢
  split
  ·rename_i h2; rw [if_pos h2] at h; cases h
  ·rfl
 ·rw [oF h1] at h; exact absurd h h1
theorem pV {b:List UInt8} {n:Nat} (h:(ah b).e=0) (hn:(ah b).k<=n):ah (b.take n)=ah b:=by
 obtain ⟨h1,h2⟩:=DS h
 unfold ah; rw [jt h1 (by omega)]
theorem zG {b:List UInt8} (h:(aw b).2=0):(ah b).e=0/\(ae (b.drop (ah b).k)).2.2=0/\(ah b).k+(ae (b.drop (ah b).k)).2.1<=(aw b).1:=by
 by_cases h1:(ah b).e=0
 ·by_cases h2:(ae (b.drop (ah b).k)).2.2=0
  ·refine ⟨h1,h2,?_⟩
   by_cases h3:(ah b).wire=0
   ·rw [Dl h1 h2 h3]; exact Nat.le_refl _
   ·by_cases h4:16384<(ae (b.drop (ah b).k)).1
    ·rw [EO h1 h2 h3 h4] at h; cases h
    ·by_cases h5:((b.length:Nat):Int) - (((ah b).k+(ae (b.drop (ah b).k)).2.1:Nat):Int)<(((ae (b.drop (ah b).k)).1:Nat):Int)
     ·rw [Ie h1 h2 h3 h4 h5] at h; cases h
     ·rw [HP h1 h2 h3 h4 h5]; exact Nat.le_add_right _ _
  ·rw [DI h1 h2] at h; exact absurd h h2
 ·rw [FK h1] at h; exact absurd h h1
theorem fp {b:List UInt8} (hs:(aw b).2=0) (hw:(ah b).wire=0):Field.mk (ah b).num (ah b).wire (U64.mk (ae (b.drop (ah b).k)).1) []=dR (b.take (aw b).1):=by
 obtain ⟨h1,h2,h3⟩:=zG hs
 unfold dR
 rw [pV h1 (by omega),if_pos hw,List.drop_take,jt h2 (by omega)]
theorem fw {b:List UInt8} (hs:(aw b).2=0) (hw:¬ (ah b).wire=0):Field.mk (ah b).num (ah b).wire (U64.mk 0) ((b.drop (((ah b).k:Int)+((ae (b.drop (ah b).k)).2.1:Nat)).toNat).take ((aw b).1 - (((ah b).k:Int)+((ae (b.drop (ah b).k)).2.1:Nat)).toNat))=dR (b.take (aw b).1):=by
 obtain ⟨h1,h2,h3⟩:=zG hs
 have e:ae ((b.take (aw b).1).drop (ah b).k)=ae (b.drop (ah b).k):=by rw [List.drop_take,jt h2 (by omega)]
 unfold dR
 rw [pV h1 (by omega),if_neg hw,e,List.drop_take,show (((ah b).k:Int)+((ae (b.drop (ah b).k)).2.1:Nat)).toNat=(ah b).k+(ae (b.drop (ah b).k)).2.1 by omega]
theorem GU {b:List UInt8} {i:Nat} (h:0<(((b.drop i).length:Nat):Int)):(i:Int)<(b.length:Int):=by rw [List.length_drop] at h; omega
theorem IZ {b:List UInt8} {s:Nat × List Field} (h:Wq (ct b s.1 s.2)) (hi:0<(((b.drop s.1).length:Nat):Int)) (hs:¬ (aw (b.drop s.1)).2=0):az b=([],(aw (b.drop s.1)).2):=Iz h (GU hi) hs
theorem JT {b:List UInt8} {i:Nat}:((i:Int)+((aw (b.drop i)).1:Nat)).toNat - i=(aw (b.drop i)).1:=by omega
theorem GZ {b:List UInt8} {s:Nat × List Field} (h:Wq (ct b s.1 s.2)) (hi:0<(((b.drop s.1).length:Nat):Int)) (hs:(aw (b.drop s.1)).2=0) (hr:cF s.2 (dR ((b.drop s.1).take (aw (b.drop s.1)).1))=false):az b=([],5):=IB h (GU hi) hs (by rw [JT]; exact hr)
theorem GO {b:List UInt8} {s:Nat × List Field} (h:Wq (ct b s.1 s.2)) (hi:0<(((b.drop s.1).length:Nat):Int)) (hs:(aw (b.drop s.1)).2=0) (hr:cF s.2 (dR ((b.drop s.1).take (aw (b.drop s.1)).1))=true):Wq (ct b (tH b s).1 (tH b s).2):=Iy h (GU hi) hs (by rw [JT]; exact hr)
theorem JD {b:List UInt8} {s:Nat × List Field} (h:Wq (ct b s.1 s.2)) (hi:(((b.drop s.1).length:Nat):Int)<=0):az b=(s.2,0):=IJ h (by rw [List.length_drop] at hi; omega)
theorem GA {xs:List Field} {f g:Field} (h0:0<(xs.length:Int)) (h:(!bD (xs.getD ((xs.length:Int) - 1).toNat (dflt (.nm .field))) f)=true) (e:f=g):cF xs g=false:=by
 rw [<- e,<- rR (by omega)]; simpa using h
theorem GM {xs:List Field} {f g:Field} (h:(xs.length:Int)<=0\/(!bD (xs.getD ((xs.length:Int) - 1).toNat (dflt (.nm .field))) f)=false) (e:f=g):cF xs g=true:=by
 rw [<- e]
 by_cases h0:(xs.length:Int)=0
 ·exact (yX h0).symm
 ·rw [<- rR h0]; have:=h.resolve_left (by omega); simpa using this
theorem GP {b:List UInt8} {s:Nat × List Field} {f:Field} (e:f=dR ((b.drop s.1).take (aw (b.drop s.1)).1)):s.2++[f]=(tH b s).2:=by rw [yW,e]
theorem IL {b:List UInt8} {s:Nat × List Field}:(b.drop s.1).drop (aw (b.drop s.1)).1=b.drop (tH b s).1:=by rw [List.drop_drop]; rfl
def JY (x:Field) (y:Spec):Prop:=x.num=y.num->x.wire=y.wire/\(¬ x.wire=0\/¬ ((x.n.n:Nat):Int)=((0:Nat):Int))/\(¬ x.wire=2\/¬ ((x.b.length:Nat):Int)=0)
def zV (l:List Field) (y:Spec) (k:Nat):Prop:=∀ j x,j<k->l[j]? = some x->JY x y
def Kk (l:List Field) (y:Spec):Prop:=zV l y l.length/\(((bw l y.num:Nat):Int)<=1\/y.many=true)/\(¬ ((bw l y.num:Nat):Int)=0\/y.need=false)
def uh (l:List Field) (ss:List Spec) (k:Nat):Prop:=∀ j y,j<k->ss[j]? = some y->Kk l y
theorem uo {l:List Field} {ss:List Spec}:uh l ss 0:=fun j y h=>by omega
theorem vj {l:List Field} {y:Spec}:zV l y 0:=fun j y h=>by omega
theorem IG {ss:List Spec} {k:Nat} (h:k<ss.length):ss[k]? = some (ss.getD k (dflt (.nm .spec))):=by
 rw [List.getD_eq_getElem?_getD,List.getElem?_eq_getElem h]; rfl
theorem ig {ss:List Spec} {k:Nat} {x:Spec} (hx:ss[k]? = some x):x=ss.getD k (dflt (.nm .spec)):=by rw [List.getD_eq_getElem?_getD,hx]; rfl
theorem vK {l:List Field} {y:Spec} {k:Nat} (h:Wq (zV l y k)) (hk:k<l.length) (hg:JY (l.getD k (dflt (.nm .field))) y):Wq (zV l y (k+1)):=⟨fun j x hj hx=>by
 by_cases hjk:j=k
 ·subst hjk; rw [oi hk] at hx; cases hx; exact hg
 ·exact h.h j x (by omega) hx⟩
theorem G_ {l:List Field} {y:Spec} {k:Nat} (hk:k<l.length) (h:¬ (l.getD k (dflt (.nm .field))).num=y.num):bw (l.take (k+1)) y.num=bw (l.take k) y.num:=by
 rw [jb (oi hk),if_neg (fun e=>h e.symm)]
theorem GW {l:List Field} {y:Spec} {k:Nat} (hk:k<l.length) (h:(l.getD k (dflt (.nm .field))).num=y.num):bw (l.take (k+1)) y.num=bw (l.take k) y.num+1:=by
 rw [jb (oi hk),if_pos h.symm,h]
theorem GF {l:List Field} {ss:List Spec} {k m:Nat} (h:Wq (uh l ss k)) (hk:k<ss.length) (hf:Wq (zV l (ss.getD k (dflt (.nm .spec))) m)) (hm:l.length<=m) (h1:((bw (l.take m) (ss.getD k (dflt (.nm .spec))).num:Nat):Int)<=1\/(ss.getD k (dflt (.nm .spec))).many=true) (h2:¬ ((bw (l.take m) (ss.getD k (dflt (.nm .spec))).num:Nat):Int)=0\/(ss.getD k (dflt (.nm .spec))).need=false):Wq (uh l ss (k+1)):=⟨fun j y hj hy=>by
 by_cases hjk:j=k
 ·subst hjk; rw [IG hk] at hy; cases hy
  rw [List.take_of_length_le hm] at h1 h2
  exact ⟨fun j x hj=>hf.h j x (by omega),h1,h2⟩
 ·exact h.h j y (by omega) hy⟩
theorem Bo {x:Field} (h:bI x=true):x.wire=0\/x.wire=2:=by
 unfold bI at h
 by_cases h0:x.wire=0
 ·exact .inl h0
 ·by_cases h2:x.wire=2
  ·exact .inr h2
  ·rw [if_neg h0,if_neg h2,Bool.and_false] at h; cases h
theorem pQ {l:List Field} {q:Int}:∀ {k:Nat},k<=l.length->1<=bw (l.take k) q->∃ j x,l[j]? = some x/\x.num=q/\bw (l.take (j+1)) q=bw (l.take k) q
 | 0,_,h=>by simp [bw] at h
 | k+1,hk,h=>by
  have hx:l[k]? = some l[k]:=List.getElem?_eq_getElem (by omega)
  by_cases e:q=l[k].num
  ·exact ⟨k,_,hx,e.symm,rfl⟩
  ·have hn:=jb hx q
   rw [if_neg e] at hn
   rw [hn] at h ⊢
   exact pQ (by omega) h
theorem jr {l:List Field} {v:Int} {k m:Nat} (h:(¬ (l.getD m (dflt (.nm .field))).wire=((ao v).getD k (dflt (.nm .spec))).wire\/(l.getD m (dflt (.nm .field))).wire=0/\(((l.getD m (dflt (.nm .field))).n.n:Nat):Int)=((0:Nat):Int))\/(l.getD m (dflt (.nm .field))).wire=2/\(((l.getD m (dflt (.nm .field))).b.length:Nat):Int)=0) (hk:k<(ao v).length) (hm:m<l.length) (hn:(l.getD m (dflt (.nm .field))).num=((ao v).getD k (dflt (.nm .spec))).num):¬ lL l v:=by
 intro hc
 have h1:=hc.1 m _ hm (oi hm) _ (List.mem_of_getElem? (IG hk)) hn.symm
 unfold vH at h1
 split at h1
 ·cases h1
 ·rename_i h2
  split at h1
  ·rename_i h3; simp only [Bool.not_eq_true',decide_eq_false_iff_not] at h1; omega
  ·rename_i h3; simp only [decide_eq_true_eq] at h1; omega
theorem ka {l:List Field} {v:Int} {k m:Nat} (h:(1<((bw (l.take m) ((ao v).getD k (dflt (.nm .spec))).num:Nat):Int)/\((ao v).getD k (dflt (.nm .spec))).many=false)\/(((bw (l.take m) ((ao v).getD k (dflt (.nm .spec))).num:Nat):Int)=0/\((ao v).getD k (dflt (.nm .spec))).need=true)) (hk:k<(ao v).length) (hm:l.length<=m):¬ lL l v:=by
 intro hc
 rw [List.take_of_length_le hm] at h
 rcases h with ⟨h1,h2⟩ | ⟨h1,h2⟩
 ·obtain ⟨j,x,hx,hn,hcn⟩:=pQ (l:=l) (q:=((ao v).getD k (dflt (.nm .spec))).num) (Nat.le_refl _) (by rw [List.take_length]; omega)
  rw [List.take_length] at hcn
  have h3:=hc.1 j x (jo hx) hx _ (List.mem_of_getElem? (IG hk)) hn.symm
  rw [hn,hcn] at h3
  unfold vH at h3
  rw [if_pos (.inr ⟨h1,h2⟩)] at h3; cases h3
 ·exact hc.2 k _ hk (IG hk) h2 (by omega)
theorem nI {l:List Field} {v:Int} {k:Nat} (h:Wq (uh l (ao v) k)) (hk:(ao v).length<=k) (hm:aZ l=0):lL l v:=by
 have ha:=jB (od hm)
 refine ⟨fun j x hj hx s hs hn=>?_,fun j y hj hy hn=>?_⟩
 ·obtain ⟨i,hi,rfl⟩:=List.getElem_of_mem hs
  obtain ⟨h1,h2,_⟩:=h.h i _ (by omega) (List.getElem?_eq_getElem hi)
  obtain ⟨g1,g2,g3⟩:=h1 j x hj hx hn.symm
  have hw:=Bo (ha x (List.mem_of_getElem? hx))
  have hc:=BB (l:=l) (q:=x.num) (j+1)
  unfold vH
  rw [if_neg]
  ·split
   ·simp; omega
   ·simp; omega
  ·rintro (h3 | ⟨h3,h4⟩)
   ·exact h3 g1
   ·rw [hn,h4] at h2; simp at h2; omega
 ·obtain ⟨_,_,h3⟩:=h.h j y (by omega) hy
  rw [hn] at h3; simp at h3; exact h3
theorem Js {b:List UInt8}:(((aw b).1:Nat):Int)<=((b.length:Nat):Int):=by have:=dA b; omega
theorem Jx {b:List UInt8} (hs:(aw b).2=0):((ah b).k:Int)+((ae (b.drop (ah b).k)).2.1:Nat)<=(((aw b).1:Nat):Int):=by have:=(zG hs).2.2; omega
def Dj (l:List Field):List (Nat × LI):=[(6,{ σ:=Nat,F:=fun k=>([(0,one (.fz (.nm .field) (l))),(5,one (.own 0)),(6,one (.int k))],[.row 5 .u8 ((((l.take k).map ba).flatten))]),J:=fun k=>k<=l.length,μ:=fun k=>l.length - k })]
def zD (b:List UInt8):List (Nat × LI):=[(4,{ σ:=Nat × List Field,F:=fun s=>([(0,one (.fz .u8 (b.drop s.1))),(4,one (.own 0))],[.row 58 (.nm .field) ((s.2))]),J:=fun s=>Wq (ct b s.1 s.2)/\s.1<=b.length/\s.2.length<=s.1,μ:=fun s=>b.length - s.1 })]
def sk (q:Int) (v:Int) (l:List Field):List (Nat × LI):=[(8,{ σ:=Nat,F:=fun k=>([(2,one (.fz (.nm .field) (l))),(7,one (.fz (.nm .spec) (ao v))),(9,one (.int k))],[]),J:=fun k=>k<=(ao v).length/\Wq (uh l (ao v) k),μ:=fun k=>(ao v).length - k }),(13,{ σ:=Nat × Nat,F:=fun q=>([(2,one (.fz (.nm .field) (l))),(7,one (.fz (.nm .spec) (ao v))),(9,one (.int q.1)),(10,one (.ptr 0 0)),(11,one (.int (bw (l.take q.2) ((ao v).getD q.1 (dflt (.nm .spec))).num:Nat))),(12,one (.int q.2))],[.box 77 (cellsOf (.nm .spec) ((((ao v).getD q.1 (dflt (.nm .spec))))))]),J:=fun q=>q.1<(ao v).length/\q.2<=l.length/\Wq (uh l (ao v) q.1)/\Wq (zV l ((ao v).getD q.1 (dflt (.nm .spec))) q.2),μ:=fun q=>l.length - q.2,R:=some fun q0 q=>q.1=q0.1 })]
theorem Gs (l:List Field) (r0:Int) (r1:List UInt8):tg aF vX (Dj l) Try.f55 [.c (.fz (.nm .field) (l))] [] [.c (.own 0),.c (.int (r0))] [.row 5 .u8 (r1)]=(l.length*(48:Nat)<=(140737488355328:Nat)->I64 (aZ l)->(¬aZ l=(0:Int)->aZ l=r0/\r1=[])/\(aZ l=(0:Int)->∃ (s0:Nat),(l=l/\(0:Int)=(↑s0:Int)/\(List.map ba (List.take s0 l)).flatten=[])/\s0<=l.length/\∀ (s:Nat),(fun (q0:List UInt8)=>s<=l.length->((↑s:Int)<(↑l.length:Int)->(0:Int)<=(↑s:Int)/\(↑s:Int)<(↑l.length:Int)/\∀ (x:Field),l[s]? = some x->I64 x.num->I64 x.wire->x.n.n<(18446744073709551616:Nat)->x.b.length*(1:Nat)<=(140737488355328:Nat)->x.b.length<=(16384:Nat)/\(q0.length+(ba x).length)*(1:Nat)<=(140737488355328:Nat)/\I64 ((↑s:Int)+(1:Int))/\∃ (s':Nat),(l=l/\(↑s:Int)+(1:Int)=(↑s':Int)/\q0++ba x=(List.map ba (List.take s' l)).flatten)/\s' <= l.length/\l.length - s' < l.length - s)/\((↑l.length:Int)<=(↑s:Int)->(0:Int)=r0/\q0=r1)) (List.map ba (List.take s l)).flatten)):=by kernel_rfl
theorem Fe (l:List Field):Sat Try.prog (al aF) 55 [.c (.fz (.nm .field) (l))] [] ⟨[],[.c (.own 0),.c (.int ((aZ l)))],some ([.row 5 .u8 ((eH l))]),true⟩:=by
 refine eR kW (Dj l) Try.func55 (by decide) (by kernel_rfl) ?_
 rw [Gs]
 (repeat' (first | with_reducible refine And.intro ?_ ?_ | with_reducible refine and_imp.2 ?_ | intro))
 all_goals try (first | (first | with_reducible rfl | with_reducible assumption | omega | (refine ag ?_ ?_ <;> omega)) | exact rfl | exact (j_ (by with_reducible assumption)).symm | exact (Eq.symm (by with_reducible assumption)) | exact (dL (by with_reducible assumption)) | exact (cz (by with_reducible assumption) (List.mem_of_getElem? (by with_reducible assumption))) | exact (gi (by with_reducible assumption) (by omega)) | (have h1:=eL (k:=‹Nat›) (show aZ l=0 by with_reducible assumption); have h2:=bj (f:=‹Field›) (cz (show aZ l=0 by with_reducible assumption) (List.mem_of_getElem? (by with_reducible assumption))) (by with_reducible assumption); omega))
 all_goals try (refine ⟨0,?_⟩; (repeat' (first | with_reducible refine And.intro ?_ ?_ | with_reducible refine and_imp.2 ?_ | intro)))
 all_goals try (first | (first | with_reducible rfl | with_reducible assumption | omega | (refine ag ?_ ?_ <;> omega)) | exact rfl | exact (j_ (by with_reducible assumption)).symm | exact (Eq.symm (by with_reducible assumption)) | exact (dL (by with_reducible assumption)) | exact (cz (by with_reducible assumption) (List.mem_of_getElem? (by with_reducible assumption))) | exact (gi (by with_reducible assumption) (by omega)) | (have h1:=eL (k:=‹Nat›) (show aZ l=0 by with_reducible assumption); have h2:=bj (f:=‹Field›) (cz (show aZ l=0 by with_reducible assumption) (List.mem_of_getElem? (by with_reducible assumption))) (by with_reducible assumption); omega))
 all_goals try (refine ⟨‹Nat› + 1,?_⟩; (repeat' (first | with_reducible refine And.intro ?_ ?_ | with_reducible refine and_imp.2 ?_ | intro)))
 all_goals (first | (first | with_reducible rfl | with_reducible assumption | omega | (refine ag ?_ ?_ <;> omega)) | exact rfl | exact (j_ (by with_reducible assumption)).symm | exact (Eq.symm (by with_reducible assumption)) | exact (dL (by with_reducible assumption)) | exact (cz (by with_reducible assumption) (List.mem_of_getElem? (by with_reducible assumption))) | exact (gi (by with_reducible assumption) (by omega)) | (have h1:=eL (k:=‹Nat›) (show aZ l=0 by with_reducible assumption); have h2:=bj (f:=‹Field›) (cz (show aZ l=0 by with_reducible assumption) (List.mem_of_getElem? (by with_reducible assumption))) (by with_reducible assumption); omega))
theorem AW (b:List UInt8) (r0:List Field) (r1:Int):cD aF vX (zD b) Try.f25 [.c (.fz .u8 (b))] [] [.c (.fz (.nm .field) (r0)),.c (.int (r1))]=((fun (q5:U64)=>(fun (q4:Nat)=>(fun (q3:Nat)=>(fun (q2:den (Sh.nm NT.field))=>(fun (q1:Int)=>(fun (q0:Int)=>b.length*(1:Nat)<=q4->((16384:Int)<(↑b.length:Int)->r0=[]/\(4:Int)=r1)/\((↑b.length:Int)<=(16384:Int)->∃ (s0:Nat × List Field),(b=List.drop s0.fst b/\s0.snd=[])/\(Wq (ct b s0.fst s0.snd)/\s0.fst<=q3/\s0.snd.length<=s0.fst)/\∀ (s:Nat × List Field),(fun (q8:Int)=>(fun (q7:den (Sh.nm NT.field))=>(fun (q6:List (den Sh.u8))=>Wq (ct b s.fst s.snd)/\s.fst<=q3/\s.snd.length<=s.fst->(q0<(↑q6.length:Int)->I64 (↑(aw q6).fst:Int)->I64 (aw q6).snd->(¬(aw q6).snd=q0->r0=[]/\(aw q6).snd=r1)/\((aw q6).snd=q0->I64 (ah q6).num->I64 (ah q6).wire->I64 (↑(ah q6).k:Int)->I64 (ah q6).e->q0<=(↑(ah q6).k:Int)/\(↑(ah q6).k:Int)<=(↑q6.length:Int)/\((ae (List.drop (ah q6).k q6)).fst<(18446744073709551616:Nat)->I64 (↑(ae (List.drop (ah q6).k q6)).snd.fst:Int)->I64 (ae (List.drop (ah q6).k q6)).snd.snd->((ah q6).wire=q0->(q0<q8->I64 (q8 - q1))/\(q0<q8->q0<=q8 - q1/\q8 - q1<q8)/\((q0<q8->I64 q7.num/\I64 q7.wire/\q7.n.n<(18446744073709551616:Nat)/\q7.b.length*(1:Nat)<=q4)->(q0<q8/\(!bD q7 (Field.mk (ah q6).num (ah q6).wire (U64.mk (ae (List.drop (ah q6).k q6)).fst) []))=true->r0=[]/\(5:Int)=r1)/\(q8<=q0\/(!bD q7 (Field.mk (ah q6).num (ah q6).wire (U64.mk (ae (List.drop (ah q6).k q6)).fst) []))=false->(s.snd.length+[Field.mk (ah q6).num (ah q6).wire (U64.mk (ae (List.drop (ah q6).k q6)).fst) []].length)*(48:Nat)<=q4/\q0<=(↑(aw q6).fst:Int)/\(↑(aw q6).fst:Int)<=(↑q6.length:Int)/\∃ (s':Nat × List Field),(List.drop (aw q6).fst q6=List.drop s'.fst b/\s.snd++[Field.mk (ah q6).num (ah q6).wire (U64.mk (ae (List.drop (ah q6).k q6)).fst) []]=s'.snd)/\(Wq (ct b s'.fst s'.snd)/\s'.fst<=q3/\s'.snd.length<=s'.fst)/\q3 - s'.fst<q3 - s.fst)))/\(¬(ah q6).wire=q0->I64 ((↑(ah q6).k:Int)+(↑(ae (List.drop (ah q6).k q6)).snd.fst:Int))/\q0<=(↑(ah q6).k:Int)+(↑(ae (List.drop (ah q6).k q6)).snd.fst:Int)/\(↑(ah q6).k:Int)+(↑(ae (List.drop (ah q6).k q6)).snd.fst:Int)<=(↑(aw q6).fst:Int)/\(↑(aw q6).fst:Int)<=(↑q6.length:Int)/\(List.take ((aw q6).fst - ((↑(ah q6).k:Int)+(↑(ae (List.drop (ah q6).k q6)).snd.fst:Int)).toNat) (List.drop ((↑(ah q6).k:Int)+(↑(ae (List.drop (ah q6).k q6)).snd.fst:Int)).toNat q6)).length*(1:Nat)<=q4/\(q0<q8->I64 (q8 - q1))/\(q0<q8->q0<=q8 - q1/\q8 - q1<q8)/\((q0<q8->I64 q7.num/\I64 q7.wire/\q7.n.n<(18446744073709551616:Nat)/\q7.b.length*(1:Nat)<=q4)->(q0<q8/\(!bD q7 (Field.mk (ah q6).num (ah q6).wire q5 (List.take ((aw q6).fst - ((↑(ah q6).k:Int)+(↑(ae (List.drop (ah q6).k q6)).snd.fst:Int)).toNat) (List.drop ((↑(ah q6).k:Int)+(↑(ae (List.drop (ah q6).k q6)).snd.fst:Int)).toNat q6))))=true->r0=[]/\(5:Int)=r1)/\(q8<=q0\/(!bD q7 (Field.mk (ah q6).num (ah q6).wire q5 (List.take ((aw q6).fst - ((↑(ah q6).k:Int)+(↑(ae (List.drop (ah q6).k q6)).snd.fst:Int)).toNat) (List.drop ((↑(ah q6).k:Int)+(↑(ae (List.drop (ah q6).k q6)).snd.fst:Int)).toNat q6))))=false->(s.snd.length+[Field.mk (ah q6).num (ah q6).wire q5 (List.take ((aw q6).fst - ((↑(ah q6).k:Int)+(↑(ae (List.drop (ah q6).k q6)).snd.fst:Int)).toNat) (List.drop ((↑(ah q6).k:Int)+(↑(ae (List.drop (ah q6).k q6)).snd.fst:Int)).toNat q6))].length)*(48:Nat)<=q4/\q0<=(↑(aw q6).fst:Int)/\(↑(aw q6).fst:Int)<=(↑q6.length:Int)/\∃ (s':Nat × List Field),(fun (q9:Nat)=>(List.drop (aw q6).fst q6=List.drop s'.fst b/\s.snd++[Field.mk (ah q6).num (ah q6).wire q5 (List.take ((aw q6).fst - q9) (List.drop q9 q6))]=s'.snd)/\(Wq (ct b s'.fst s'.snd)/\s'.fst<=q3/\s'.snd.length<=s'.fst)/\q3 - s'.fst<q3 - s.fst) ((↑(ah q6).k:Int)+(↑(ae (List.drop (ah q6).k q6)).snd.fst:Int)).toNat))))))/\((↑q6.length:Int)<=q0->s.snd=r0/\q0=r1)) (List.drop s.fst b)) (s.snd.getD (q8 - q1).toNat q2)) (↑s.snd.length:Int))) (0:Int)) (1:Int)) (dflt (Sh.nm NT.field))) b.length) (140737488355328:Nat)) (U64.mk (0:Nat))):=by kernel_rfl
theorem Cc (b:List UInt8):Sat Try.prog (al aF) 25 [.c (.fz .u8 (b))] [] ⟨[],[.c (.fz (.nm .field) (((az b).1))),.c (.int (((az b).2)))],none,false⟩:=by
 refine aI kW (zD b) Try.func25 (by decide) (by kernel_rfl) ?_
 rw [AW]
 (repeat' (first | with_reducible refine And.intro ?_ ?_ | with_reducible refine and_imp.2 ?_ | intro))
 all_goals try (first | (first | with_reducible rfl | with_reducible assumption | omega | (refine ag ?_ ?_ <;> omega)) | exact rfl | exact ⟨fa (by omega)⟩ | (rw [GJ (by with_reducible assumption)] <;> rfl) | (rw [IZ (by with_reducible assumption) (by with_reducible assumption) (by with_reducible assumption)] <;> rfl) | (rw [GZ (by with_reducible assumption) (by with_reducible assumption) (by with_reducible assumption) (GA (by with_reducible assumption) (by with_reducible assumption) (fp (by with_reducible assumption) (by with_reducible assumption)))] <;> rfl) | (rw [GZ (by with_reducible assumption) (by with_reducible assumption) (by with_reducible assumption) (GA (by with_reducible assumption) (by with_reducible assumption) (fw (by with_reducible assumption) (by with_reducible assumption)))] <;> rfl) | (rw [JD (by with_reducible assumption) (by with_reducible assumption)] <;> rfl) | exact (GO (by with_reducible assumption) (by with_reducible assumption) (by with_reducible assumption) (GM (by assumption) (fp (by with_reducible assumption) (by with_reducible assumption)))) | exact (GO (by with_reducible assumption) (by with_reducible assumption) (by with_reducible assumption) (GM (by assumption) (fw (by with_reducible assumption) (by with_reducible assumption)))) | exact (GP (fp (by with_reducible assumption) (by with_reducible assumption))) | exact (GP (fw (by with_reducible assumption) (by with_reducible assumption))) | exact IL | exact (GC (by with_reducible assumption)) | exact (GB (by with_reducible assumption) (by with_reducible assumption)) | exact (Gy (GU (by with_reducible assumption)) (by with_reducible assumption)) | exact (Js (b:=b.drop ‹Nat × List Field›.1)) | exact (Jx (by with_reducible assumption)) | (have h:=dA (b.drop ‹Nat × List Field›.1); have h1:=dH (b.drop ‹Nat × List Field›.1); have h2:=dy (b.drop ‹Nat × List Field›.1) (ah (b.drop ‹Nat × List Field›.1)).k; rw [List.length_drop] at *; first | omega | (refine ag ?_ ?_ <;> omega)) | (rw [List.length_take,List.length_drop,List.length_drop]; omega) | (simp only [List.length_cons,List.length_nil]; omega))
 all_goals try (refine ⟨(0,[]),?_⟩; (repeat' (first | with_reducible refine And.intro ?_ ?_ | with_reducible refine and_imp.2 ?_ | intro)))
 all_goals try (first | (first | with_reducible rfl | with_reducible assumption | omega | (refine ag ?_ ?_ <;> omega)) | exact rfl | exact ⟨fa (by omega)⟩ | (rw [GJ (by with_reducible assumption)] <;> rfl) | (rw [IZ (by with_reducible assumption) (by with_reducible assumption) (by with_reducible assumption)] <;> rfl) | (rw [GZ (by with_reducible assumption) (by with_reducible assumption) (by with_reducible assumption) (GA (by with_reducible assumption) (by with_reducible assumption) (fp (by with_reducible assumption) (by with_reducible assumption)))] <;> rfl) | (rw [GZ (by with_reducible assumption) (by with_reducible assumption) (by with_reducible assumption) (GA (by with_reducible assumption) (by with_reducible assumption) (fw (by with_reducible assumption) (by with_reducible assumption)))] <;> rfl) | (rw [JD (by with_reducible assumption) (by with_reducible assumption)] <;> rfl) | exact (GO (by with_reducible assumption) (by with_reducible assumption) (by with_reducible assumption) (GM (by assumption) (fp (by with_reducible assumption) (by with_reducible assumption)))) | exact (GO (by with_reducible assumption) (by with_reducible assumption) (by with_reducible assumption) (GM (by assumption) (fw (by with_reducible assumption) (by with_reducible assumption)))) | exact (GP (fp (by with_reducible assumption) (by with_reducible assumption))) | exact (GP (fw (by with_reducible assumption) (by with_reducible assumption))) | exact IL | exact (GC (by with_reducible assumption)) | exact (GB (by with_reducible assumption) (by with_reducible assumption)) | exact (Gy (GU (by with_reducible assumption)) (by with_reducible assumption)) | exact (Js (b:=b.drop ‹Nat × List Field›.1)) | exact (Jx (by with_reducible assumption)) | (have h:=dA (b.drop ‹Nat × List Field›.1); have h1:=dH (b.drop ‹Nat × List Field›.1); have h2:=dy (b.drop ‹Nat × List Field›.1) (ah (b.drop ‹Nat × List Field›.1)).k; rw [List.length_drop] at *; first | omega | (refine ag ?_ ?_ <;> omega)) | (rw [List.length_take,List.length_drop,List.length_drop]; omega) | (simp only [List.length_cons,List.length_nil]; omega))
 all_goals try (refine ⟨tH b ‹Nat × List Field›,?_⟩; (repeat' (first | with_reducible refine And.intro ?_ ?_ | with_reducible refine and_imp.2 ?_ | intro)))
 all_goals (first | (first | with_reducible rfl | with_reducible assumption | omega | (refine ag ?_ ?_ <;> omega)) | exact rfl | exact ⟨fa (by omega)⟩ | (rw [GJ (by with_reducible assumption)] <;> rfl) | (rw [IZ (by with_reducible assumption) (by with_reducible assumption) (by with_reducible assumption)] <;> rfl) | (rw [GZ (by with_reducible assumption) (by with_reducible assumption) (by with_reducible assumption) (GA (by with_reducible assumption) (by with_reducible assumption) (fp (by with_reducible assumption) (by with_reducible assumption)))] <;> rfl) | (rw [GZ (by with_reducible assumption) (by with_reducible assumption) (by with_reducible assumption) (GA (by with_reducible assumption) (by with_reducible assumption) (fw (by with_reducible assumption) (by with_reducible assumption)))] <;> rfl) | (rw [JD (by with_reducible assumption) (by with_reducible assumption)] <;> rfl) | exact (GO (by with_reducible assumption) (by with_reducible assumption) (by with_reducible assumption) (GM (by assumption) (fp (by with_reducible assumption) (by with_reducible assumption)))) | exact (GO (by with_reducible assumption) (by with_reducible assumption) (by with_reducible assumption) (GM (by assumption) (fw (by with_reducible assumption) (by with_reducible assumption)))) | exact (GP (fp (by with_reducible assumption) (by with_reducible assumption))) | exact (GP (fw (by with_reducible assumption) (by with_reducible assumption))) | exact IL | exact (GC (by with_reducible assumption)) | exact (GB (by with_reducible assumption) (by with_reducible assumption)) | exact (Gy (GU (by with_reducible assumption)) (by with_reducible assumption)) | exact (Js (b:=b.drop ‹Nat × List Field›.1)) | exact (Jx (by with_reducible assumption)) | (have h:=dA (b.drop ‹Nat × List Field›.1); have h1:=dH (b.drop ‹Nat × List Field›.1); have h2:=dy (b.drop ‹Nat × List Field›.1) (ah (b.drop ‹Nat × List Field›.1)).k; rw [List.length_drop] at *; first | omega | (refine ag ?_ ?_ <;> omega)) | (rw [List.length_take,List.length_drop,List.length_drop]; omega) | (simp only [List.length_cons,List.length_nil]; omega))
theorem xg (q:Int) (v:Int) (l:List Field) (r0:Int):cD aF vX (sk q v l) Try.f26 [.c (.int (q)),.c (.int (v)),.c (.fz (.nm .field) (l))] [] [.c (.int (r0))]=((fun (q10:Nat)=>(fun (q9:Nat)=>(fun (q8:Nat)=>(fun (q7:Nat)=>(fun (q6:Int)=>(fun (q5:Int)=>(fun (q4:Int)=>(fun (q3:Int)=>(fun (q2:List Spec)=>(fun (q1:den (Sh.nm NT.spec))=>(fun (q0:den (Sh.nm NT.field))=>I64 q->I64 v->l.length*(48:Nat)<=q7->q=q5/\(q2.length*(32:Nat)<=q7->((↑q2.length:Int)=q3->q5=r0)/\(¬(↑q2.length:Int)=q3->I64 (aZ l)->(¬aZ l=q3->aZ l=r0)/\(aZ l=q3->∃ (s0:Nat),(fun (q11:Nat)=>(l=l/\q2=q2/\q3=(↑s0:Int))/\(s0<=q11/\Wq (uh l q2 s0))/\∀ (s:Nat),s<=q11/\Wq (uh l q2 s)->((↑s:Int)<(↑q2.length:Int)->q3<=(↑s:Int)/\(↑s:Int)<(↑q2.length:Int)/\∀ (x:Spec),q2[s]? = some x->I64 x.num->I64 x.wire->I64 x.since->∃ (s0:Nat × Nat),(fun (q13:Nat)=>(fun (q12:Spec)=>(l=l/\q2=q2/\(↑s:Int)=(↑q13:Int)/\q3=(↑(bw (List.take s0.snd l) q12.num):Int)/\q3=(↑s0.snd:Int)/\x.num=q12.num/\x.wire=q12.wire/\x.since=q12.since/\x.need=q12.need/\x.many=q12.many)/\(q13<q11/\s0.snd<=q8/\Wq (uh l q2 q13)/\Wq (zV l q12 s0.snd))/\q13=q13/\∀ (s_1:Nat × Nat),(fun (q17:List Field)=>(fun (q16:Int)=>(fun (q15:Spec)=>(fun (q14:den (Sh.nm NT.field))=>s_1.fst<q11/\s_1.snd<=q8/\Wq (uh l q2 s_1.fst)/\Wq (zV l q15 s_1.snd)->s_1.fst=q13->(q16<q4->q3<=q16/\q16<q4/\(I64 q14.num->I64 q14.wire->q14.n.n<q10->q14.b.length*q9<=q7->(¬q14.num=q15.num->I64 (q16+q5)/\∃ (s':Nat × Nat),(fun (q18:Spec)=>(l=l/\q2=q2/\(↑s_1.fst:Int)=(↑s'.fst:Int)/\(↑(bw q17 q15.num):Int)=(↑(bw (List.take s'.snd l) q18.num):Int)/\q16+q5=(↑s'.snd:Int)/\q15.num=q18.num/\q15.wire=q18.wire/\q15.since=q18.since/\q15.need=q18.need/\q15.many=q18.many)/\(s'.fst<q11/\s'.snd<=q8/\Wq (uh l q2 s'.fst)/\Wq (zV l q18 s'.snd))/\s'.fst=q13/\q8 - s'.snd<q8 - s_1.snd) (q2.getD s'.fst q1))/\(q14.num=q15.num->I64 ((↑(bw q17 q15.num):Int)+q5)/\q3<=q16/\q16<q4/\(q14.wire=q15.wire->q3<=q16/\q16<q4)/\(q14.wire=q15.wire/\q14.wire=q3->q3<=q16/\q16<q4)/\(q14.wire=q15.wire/\(¬q14.wire=q3\/¬(↑q14.n.n:Int)=q6)->q3<=q16/\q16<q4)/\((q14.wire=q15.wire/\(¬q14.wire=q3\/¬(↑q14.n.n:Int)=q6))/\q14.wire=(2:Int)->q3<=q16/\q16<q4)/\(I64 q14.num->I64 q14.wire->q14.n.n<q10->q14.b.length*q9<=q7->(q14.wire=q15.wire->I64 q14.num/\I64 q14.wire/\q14.n.n<q10/\q14.b.length*q9<=q7)->(q14.wire=q15.wire/\q14.wire=q3->I64 q14.num/\I64 q14.wire/\q14.n.n<q10/\q14.b.length*q9<=q7)->(q14.wire=q15.wire/\(¬q14.wire=q3\/¬(↑q14.n.n:Int)=q6)->I64 q14.num/\I64 q14.wire/\q14.n.n<q10/\q14.b.length*q9<=q7)->((q14.wire=q15.wire/\(¬q14.wire=q3\/¬(↑q14.n.n:Int)=q6))/\q14.wire=(2:Int)->I64 q14.num/\I64 q14.wire/\q14.n.n<q10/\q14.b.length*q9<=q7)->((¬q14.wire=q15.wire\/q14.wire=q3/\(↑q14.n.n:Int)=q6)\/q14.wire=(2:Int)/\(↑q14.b.length:Int)=q3->(6:Int)=r0)/\((q14.wire=q15.wire/\(¬q14.wire=q3\/¬(↑q14.n.n:Int)=q6))/\(¬q14.wire=(2:Int)\/¬(↑q14.b.length:Int)=q3)->I64 (q16+q5)/\∃ (s':Nat × Nat),(fun (q19:Spec)=>(l=l/\q2=q2/\(↑s_1.fst:Int)=(↑s'.fst:Int)/\(↑(bw q17 q15.num):Int)+q5=(↑(bw (List.take s'.snd l) q19.num):Int)/\q16+q5=(↑s'.snd:Int)/\q15.num=q19.num/\q15.wire=q19.wire/\q15.since=q19.since/\q15.need=q19.need/\q15.many=q19.many)/\(s'.fst<q11/\s'.snd<=q8/\Wq (uh l q2 s'.fst)/\Wq (zV l q19 s'.snd))/\s'.fst=q13/\q8 - s'.snd<q8 - s_1.snd) (q2.getD s'.fst q1))))))/\(q4<=q16->(q5<(↑(bw q17 q15.num):Int)/\q15.many=false\/(↑(bw q17 q15.num):Int)=q3/\q15.need=true->(6:Int)=r0)/\(((↑(bw q17 q15.num):Int)<=q5\/q15.many=true)/\(¬(↑(bw q17 q15.num):Int)=q3\/q15.need=false)->I64 ((↑s_1.fst:Int)+q5)/\∃ (s':Nat),(l=l/\q2=q2/\(↑s_1.fst:Int)+q5=(↑s':Int))/\(s' <= q11/\Wq (uh l q2 s'))/\q11 - s' < q11 - s))) (l.getD s_1.snd q0)) (q2.getD s_1.fst q1)) (↑s_1.snd:Int)) (List.take s_1.snd l)) (q2.getD q13 q1)) s0.fst)/\((↑q2.length:Int)<=(↑s:Int)->q3=r0)) q2.length)))) (dflt (Sh.nm NT.field))) (dflt (Sh.nm NT.spec))) (ao v)) (0:Int)) (↑l.length:Int)) (1:Int)) (↑(0:Nat):Int)) (140737488355328:Nat)) l.length) (1:Nat)) (18446744073709551616:Nat)):=by kernel_rfl
theorem zg (q:Int) (v:Int) (l:List Field) (h0:q=1):Sat Try.prog (al aF) 26 [.c (.int (q)),.c (.int (v)),.c (.fz (.nm .field) (l))] [] ⟨[q=1],[.c (.int ((cC l v)))],none,false⟩:=by
 refine aI kW (sk q v l) Try.func26 (by decide) (by kernel_rfl) ?_
 rw [xg]
 (repeat' (first | with_reducible refine And.intro ?_ ?_ | with_reducible refine and_imp.2 ?_ | intro))
 all_goals try (first | (first | with_reducible rfl | with_reducible assumption | omega | (refine ag ?_ ?_ <;> omega)) | exact rfl | exact (i_ (by omega)) | exact (je (by omega) (by with_reducible assumption)) | exact ⟨uo⟩ | exact ⟨vj⟩ | exact (congrArg Spec.num (ig (by with_reducible assumption))) | exact (congrArg Spec.wire (ig (by with_reducible assumption))) | exact (congrArg Spec.since (ig (by with_reducible assumption))) | exact (congrArg Spec.need (ig (by with_reducible assumption))) | exact (congrArg Spec.many (ig (by with_reducible assumption))) | exact (dh (by omega) (by with_reducible assumption) (jr (by assumption) (by with_reducible assumption) (by omega) (by with_reducible assumption))) | exact (dh (by omega) (by with_reducible assumption) (ka (by assumption) (by with_reducible assumption) (by omega))) | exact (iV (by omega) (by with_reducible assumption) (nI (by with_reducible assumption) (by omega) (by with_reducible assumption))) | exact (vK (by with_reducible assumption) (by omega) (fun h=>absurd h (by with_reducible assumption))) | exact (vK (by with_reducible assumption) (by omega) (fun _=>And.intro (by with_reducible assumption) (And.intro (by assumption) (by assumption)))) | exact (GF (by with_reducible assumption) (by with_reducible assumption) (by with_reducible assumption) (by omega) (by assumption) (by assumption)) | (rw [G_ (by omega) (by with_reducible assumption)]) | (rw [GW (by omega) (by with_reducible assumption)]; rfl) | (have hc:=cf (l:=l) (k:=‹Nat × Nat›.2) ((ao v).getD ‹Nat × Nat›.1 (dflt (.nm .spec))).num; refine ag ?_ ?_ <;> omega))
 all_goals try (refine ⟨0,?_⟩; (repeat' (first | with_reducible refine And.intro ?_ ?_ | with_reducible refine and_imp.2 ?_ | intro)))
 all_goals try (first | (first | with_reducible rfl | with_reducible assumption | omega | (refine ag ?_ ?_ <;> omega)) | exact rfl | exact (i_ (by omega)) | exact (je (by omega) (by with_reducible assumption)) | exact ⟨uo⟩ | exact ⟨vj⟩ | exact (congrArg Spec.num (ig (by with_reducible assumption))) | exact (congrArg Spec.wire (ig (by with_reducible assumption))) | exact (congrArg Spec.since (ig (by with_reducible assumption))) | exact (congrArg Spec.need (ig (by with_reducible assumption))) | exact (congrArg Spec.many (ig (by with_reducible assumption))) | exact (dh (by omega) (by with_reducible assumption) (jr (by assumption) (by with_reducible assumption) (by omega) (by with_reducible assumption))) | exact (dh (by omega) (by with_reducible assumption) (ka (by assumption) (by with_reducible assumption) (by omega))) | exact (iV (by omega) (by with_reducible assumption) (nI (by with_reducible assumption) (by omega) (by with_reducible assumption))) | exact (vK (by with_reducible assumption) (by omega) (fun h=>absurd h (by with_reducible assumption))) | exact (vK (by with_reducible assumption) (by omega) (fun _=>And.intro (by with_reducible assumption) (And.intro (by assumption) (by assumption)))) | exact (GF (by with_reducible assumption) (by with_reducible assumption) (by with_reducible assumption) (by omega) (by assumption) (by assumption)) | (rw [G_ (by omega) (by with_reducible assumption)]) | (rw [GW (by omega) (by with_reducible assumption)]; rfl) | (have hc:=cf (l:=l) (k:=‹Nat × Nat›.2) ((ao v).getD ‹Nat × Nat›.1 (dflt (.nm .spec))).num; refine ag ?_ ?_ <;> omega))
 all_goals try (refine ⟨(‹Nat›,0),?_⟩; (repeat' (first | with_reducible refine And.intro ?_ ?_ | with_reducible refine and_imp.2 ?_ | intro)))
 all_goals try (first | (first | with_reducible rfl | with_reducible assumption | omega | (refine ag ?_ ?_ <;> omega)) | exact rfl | exact (i_ (by omega)) | exact (je (by omega) (by with_reducible assumption)) | exact ⟨uo⟩ | exact ⟨vj⟩ | exact (congrArg Spec.num (ig (by with_reducible assumption))) | exact (congrArg Spec.wire (ig (by with_reducible assumption))) | exact (congrArg Spec.since (ig (by with_reducible assumption))) | exact (congrArg Spec.need (ig (by with_reducible assumption))) | exact (congrArg Spec.many (ig (by with_reducible assumption))) | exact (dh (by omega) (by with_reducible assumption) (jr (by assumption) (by with_reducible assumption) (by omega) (by with_reducible assumption))) | exact (dh (by omega) (by with_reducible assumption) (ka (by assumption) (by with_reducible assumption) (by omega))) | exact (iV (by omega) (by with_reducible assumption) (nI (by with_reducible assumption) (by omega) (by with_reducible assumption))) | exact (vK (by with_reducible assumption) (by omega) (fun h=>absurd h (by with_reducible assumption))) | exact (vK (by with_reducible assumption) (by omega) (fun _=>And.intro (by with_reducible assumption) (And.intro (by assumption) (by assumption)))) | exact (GF (by with_reducible assumption) (by with_reducible assumption) (by with_reducible assumption) (by omega) (by assumption) (by assumption)) | (rw [G_ (by omega) (by with_reducible assumption)]) | (rw [GW (by omega) (by with_reducible assumption)]; rfl) | (have hc:=cf (l:=l) (k:=‹Nat × Nat›.2) ((ao v).getD ‹Nat × Nat›.1 (dflt (.nm .spec))).num; refine ag ?_ ?_ <;> omega))
 all_goals try (refine ⟨(‹Nat × Nat›.1,‹Nat × Nat›.2+1),?_⟩; (repeat' (first | with_reducible refine And.intro ?_ ?_ | with_reducible refine and_imp.2 ?_ | intro)))
 all_goals try (first | (first | with_reducible rfl | with_reducible assumption | omega | (refine ag ?_ ?_ <;> omega)) | exact rfl | exact (i_ (by omega)) | exact (je (by omega) (by with_reducible assumption)) | exact ⟨uo⟩ | exact ⟨vj⟩ | exact (congrArg Spec.num (ig (by with_reducible assumption))) | exact (congrArg Spec.wire (ig (by with_reducible assumption))) | exact (congrArg Spec.since (ig (by with_reducible assumption))) | exact (congrArg Spec.need (ig (by with_reducible assumption))) | exact (congrArg Spec.many (ig (by with_reducible assumption))) | exact (dh (by omega) (by with_reducible assumption) (jr (by assumption) (by with_reducible assumption) (by omega) (by with_reducible assumption))) | exact (dh (by omega) (by with_reducible assumption) (ka (by assumption) (by with_reducible assumption) (by omega))) | exact (iV (by omega) (by with_reducible assumption) (nI (by with_reducible assumption) (by omega) (by with_reducible assumption))) | exact (vK (by with_reducible assumption) (by omega) (fun h=>absurd h (by with_reducible assumption))) | exact (vK (by with_reducible assumption) (by omega) (fun _=>And.intro (by with_reducible assumption) (And.intro (by assumption) (by assumption)))) | exact (GF (by with_reducible assumption) (by with_reducible assumption) (by with_reducible assumption) (by omega) (by assumption) (by assumption)) | (rw [G_ (by omega) (by with_reducible assumption)]) | (rw [GW (by omega) (by with_reducible assumption)]; rfl) | (have hc:=cf (l:=l) (k:=‹Nat × Nat›.2) ((ao v).getD ‹Nat × Nat›.1 (dflt (.nm .spec))).num; refine ag ?_ ?_ <;> omega))
 all_goals try (refine ⟨‹Nat × Nat›.1+1,?_⟩; (repeat' (first | with_reducible refine And.intro ?_ ?_ | with_reducible refine and_imp.2 ?_ | intro)))
 all_goals try (first | (first | with_reducible rfl | with_reducible assumption | omega | (refine ag ?_ ?_ <;> omega)) | exact rfl | exact (i_ (by omega)) | exact (je (by omega) (by with_reducible assumption)) | exact ⟨uo⟩ | exact ⟨vj⟩ | exact (congrArg Spec.num (ig (by with_reducible assumption))) | exact (congrArg Spec.wire (ig (by with_reducible assumption))) | exact (congrArg Spec.since (ig (by with_reducible assumption))) | exact (congrArg Spec.need (ig (by with_reducible assumption))) | exact (congrArg Spec.many (ig (by with_reducible assumption))) | exact (dh (by omega) (by with_reducible assumption) (jr (by assumption) (by with_reducible assumption) (by omega) (by with_reducible assumption))) | exact (dh (by omega) (by with_reducible assumption) (ka (by assumption) (by with_reducible assumption) (by omega))) | exact (iV (by omega) (by with_reducible assumption) (nI (by with_reducible assumption) (by omega) (by with_reducible assumption))) | exact (vK (by with_reducible assumption) (by omega) (fun h=>absurd h (by with_reducible assumption))) | exact (vK (by with_reducible assumption) (by omega) (fun _=>And.intro (by with_reducible assumption) (And.intro (by assumption) (by assumption)))) | exact (GF (by with_reducible assumption) (by with_reducible assumption) (by with_reducible assumption) (by omega) (by assumption) (by assumption)) | (rw [G_ (by omega) (by with_reducible assumption)]) | (rw [GW (by omega) (by with_reducible assumption)]; rfl) | (have hc:=cf (l:=l) (k:=‹Nat × Nat›.2) ((ao v).getD ‹Nat × Nat›.1 (dflt (.nm .spec))).num; refine ag ?_ ?_ <;> omega))
 all_goals (first | (first | with_reducible rfl | with_reducible assumption | omega | (refine ag ?_ ?_ <;> omega)) | exact rfl | exact (i_ (by omega)) | exact (je (by omega) (by with_reducible assumption)) | exact ⟨uo⟩ | exact ⟨vj⟩ | exact (congrArg Spec.num (ig (by with_reducible assumption))) | exact (congrArg Spec.wire (ig (by with_reducible assumption))) | exact (congrArg Spec.since (ig (by with_reducible assumption))) | exact (congrArg Spec.need (ig (by with_reducible assumption))) | exact (congrArg Spec.many (ig (by with_reducible assumption))) | exact (dh (by omega) (by with_reducible assumption) (jr (by assumption) (by with_reducible assumption) (by omega) (by with_reducible assumption))) | exact (dh (by omega) (by with_reducible assumption) (ka (by assumption) (by with_reducible assumption) (by omega))) | exact (iV (by omega) (by with_reducible assumption) (nI (by with_reducible assumption) (by omega) (by with_reducible assumption))) | exact (vK (by with_reducible assumption) (by omega) (fun h=>absurd h (by with_reducible assumption))) | exact (vK (by with_reducible assumption) (by omega) (fun _=>And.intro (by with_reducible assumption) (And.intro (by assumption) (by assumption)))) | exact (GF (by with_reducible assumption) (by with_reducible assumption) (by with_reducible assumption) (by omega) (by assumption) (by assumption)) | (rw [G_ (by omega) (by with_reducible assumption)]) | (rw [GW (by omega) (by with_reducible assumption)]; rfl) | (have hc:=cf (l:=l) (k:=‹Nat × Nat›.2) ((ao v).getD ‹Nat × Nat›.1 (dflt (.nm .spec))).num; refine ag ?_ ?_ <;> omega))
noncomputable def Fl:cH:=(bT 26 (bM (ai (kC cI) (ai (kC cI) (ai (kC (cL (.nm .field))) aO))) aP fun (q,v,l,_) (_)=>⟨[q=1],[.c (.int ((cC l v)))],none,false⟩) (bT 25 (bM (ai (kC (cL .u8)) aO) aP fun (b,_) (_)=>⟨[],[.c (.fz (.nm .field) (((az b).1))),.c (.int (((az b).2)))],none,false⟩) (bT 55 (bM (ai (kC (cL (.nm .field))) aO) aP fun (l,_) (_)=>⟨[],[.c (.own 0),.c (.int ((aZ l)))],some ([.row 5 .u8 ((eH l))]),true⟩) vX)))
theorem sD:aT Try.prog (al aF) Fl:=(av (au (ab (aq aK) (ab (aq aK) (ab (aq bf) aj))) ak fun (q,v,l,_) (_) hp=>zg q v l (fH hp)) (av (au (ab (aq bf) aj) ak fun (b,_) (_) _=>Cc b ) (av (au (ab (aq bf) aj) ak fun (l,_) (_) _=>Fe l ) kW)))
end Go.Proofs.Ytladifkbefehdaa
namespace Go.Proofs.Ytladifkbefehdaa
open Go.RowKit
theorem GI {c:Command} {rest:List Field} {v:Int} (h:bt v 1 3=false):bu c rest v=1:=Fz h
theorem GL {c:Command} {rest:List Field} {v:Int} (h:bt v 1 3=true) (h1:b_ c v=false) (h2:¬ bJ c v=0):bu c rest v=bJ c v:=Fb h h1 h2
theorem GS {c:Command} {rest:List Field} {v:Int} {k:Nat} (hn:(rest.getD k (dflt (.nm .field))).num<=aC v) (h:bt v 1 3=true) (h1:b_ c v=true\/bJ c v=0) (hk:k<rest.length):bu c rest v=6:=DU h h1 (oi hk) hn
theorem GN {c:Command} {rest:List Field} {v:Int} {k:Nat} (h:bt v 1 3=true) (h1:b_ c v=true\/bJ c v=0) (ht:Wq (gO rest v k)) (hk:rest.length<=k):bu c rest v=0:=E_ h h1 ht hk
theorem yd {rest:List Field} {v:Int} {k:Nat} (h:Wq (gO rest v k)) (hn:aC v<(rest.getD k (dflt (.nm .field))).num) (hk:k<rest.length):Wq (gO rest v (k+1)):=tf h (oi hk) (by omega)
def wE (c:Command) (rest:List Field) (v:Int):List (Nat × LI):=[(8,{ σ:=Nat,F:=fun k=>([(1,one (.fz (.nm .field) (rest))),(2,one (.int (v))),(3,one (.ptr 0 0)),(9,one (.int k))],[.box 27 (cellsOf (.nm .command) ((c)))]),J:=fun k=>k<=rest.length/\Wq (gO rest v k),μ:=fun k=>rest.length - k })]
theorem AS (c:Command) (rest:List Field) (v:Int) (r0:Int) (r1:List UInt8):tg aF Fl (wE c rest v) Try.f30 [.agg (cellsOf (.nm .command) c),.c (.fz (.nm .field) (rest)),.c (.int (v))] [] [.c (.own 0),.c (.int (r0))] [.row 5 .u8 (r1)]=((fun (q6:Nat)=>(fun (q5:Nat)=>(fun (q4:Int)=>(fun (q3:den (Sh.nm NT.field))=>(fun (q2:Int)=>(fun (q1:Prop)=>(fun (q0:Prop)=>I64 c.kind->I64 c.client->I64 c.seq->I64 c.set->I64 c.id->I64 c.n->c.chunks.length*(8:Nat)<=(140737488355328:Nat)->c.text.b.length<=(140737488355328:Nat)->q6*(48:Nat)<=(140737488355328:Nat)->I64 v->(bt v q4 (3:Int)=false->q4=r0/\r1=[])/\(bt v q4 (3:Int)=true->(b_ c v=false->I64 (bJ c v)->(¬bJ c v=q2->bJ c v=r0/\r1=[])/\(bJ c v=q2->q0))/\(b_ c v=true->q0))) (∃ (s0:Nat),(rest=rest/\v=v/\q2=(↑s0:Int)/\q1)/\(s0<=q5/\Wq (gO rest v s0))/\∀ (s:Nat),s<=q5/\Wq (gO rest v s)->((↑s:Int)<(↑q6:Int)->q2<=(↑s:Int)/\(↑s:Int)<(↑q6:Int)/\q4=q4/\(I64 (rest.getD s q3).num->I64 (rest.getD s q3).wire->(rest.getD s q3).n.n<(18446744073709551616:Nat)->(rest.getD s q3).b.length*(1:Nat)<=(140737488355328:Nat)->I64 (aC v)->((rest.getD s q3).num<=aC v->(6:Int)=r0/\r1=[])/\(aC v<(rest.getD s q3).num->I64 ((↑s:Int)+q4)/\∃ (s':Nat),(rest=rest/\v=v/\(↑s:Int)+q4=(↑s':Int)/\q1)/\(s' <= q5/\Wq (gO rest v s'))/\q5 - s' < q5 - s)))/\((↑q6:Int)<=(↑s:Int)->q2<=c.kind/\q2<=c.client/\q2<=c.seq/\q2<=c.set/\q2<=c.id/\q2<=c.n/\(c.chunks.length=(0:Nat)\/rowF c.chunks=true)/\((aV c v).length+q6)*(48:Nat)<=(140737488355328:Nat)/\(I64 (aZ (aV c v++rest))->aZ (aV c v++rest)=r0/\eH (aV c v++rest)=r1)))) (c.kind=c.kind/\c.client=c.client/\c.seq=c.seq/\c.set=c.set/\c.id=c.id/\c.n=c.n/\c.chunks=c.chunks/\c.text=c.text)) (0:Int)) (dflt (Sh.nm NT.field))) (1:Int)) rest.length) rest.length):=by kernel_rfl
theorem Bm (c:Command) (rest:List Field) (v:Int) (h0:rest.length<=20000):Sat Try.prog (al aF) 30 [.agg (cellsOf (.nm .command) c),.c (.fz (.nm .field) (rest)),.c (.int (v))] [] ⟨[rest.length<=20000],[.c (.own 0),.c (.int ((bS c rest v)))],some ([.row 5 .u8 ((cq c rest v))]),true⟩:=by
 refine eR sD (wE c rest v) Try.func30 (by decide) (by kernel_rfl) ?_
 rw [AS]
 (repeat' (first | with_reducible refine And.intro ?_ ?_ | with_reducible refine and_imp.2 ?_ | intro))
 all_goals try (first | (first | with_reducible rfl | with_reducible assumption | omega | (refine ag ?_ ?_ <;> omega)) | exact rfl | exact ⟨nL⟩ | exact (yd (by with_reducible assumption) (by with_reducible assumption) (by omega)) | exact (cb (GI (by with_reducible assumption)) (by decide)) | exact (ca (GI (by with_reducible assumption)) (by decide)).symm | exact (cb (GL (by with_reducible assumption) (by with_reducible assumption) (by with_reducible assumption)) (by with_reducible assumption)) | exact (ca (GL (by with_reducible assumption) (by with_reducible assumption) (by with_reducible assumption)) (by with_reducible assumption)).symm | exact (cb (GS (by with_reducible assumption) (by with_reducible assumption) (by first | exact .inl (by with_reducible assumption) | exact .inr (by with_reducible assumption)) (by omega)) (by decide)) | exact (ca (GS (by with_reducible assumption) (by with_reducible assumption) (by first | exact .inl (by with_reducible assumption) | exact .inr (by with_reducible assumption)) (by omega)) (by decide)).symm | exact (nz (GN (by with_reducible assumption) (by first | exact .inl (by with_reducible assumption) | exact .inr (by with_reducible assumption)) (by with_reducible assumption) (by omega))) | exact (nF (GN (by with_reducible assumption) (by first | exact .inl (by with_reducible assumption) | exact .inr (by with_reducible assumption)) (by with_reducible assumption) (by omega))) | exact (rP (by with_reducible assumption)) | exact (nQ (by with_reducible assumption)) | (have h:0<=c.kind/\0<=c.client/\0<=c.seq/\0<=c.set/\0<=c.id/\0<=c.n:=(by first | exact jL (by with_reducible assumption) | exact jS (by with_reducible assumption)); omega) | (have h:=dv c v; omega))
 all_goals try (refine ⟨0,?_⟩; (repeat' (first | with_reducible refine And.intro ?_ ?_ | with_reducible refine and_imp.2 ?_ | intro)))
 all_goals try (first | (first | with_reducible rfl | with_reducible assumption | omega | (refine ag ?_ ?_ <;> omega)) | exact rfl | exact ⟨nL⟩ | exact (yd (by with_reducible assumption) (by with_reducible assumption) (by omega)) | exact (cb (GI (by with_reducible assumption)) (by decide)) | exact (ca (GI (by with_reducible assumption)) (by decide)).symm | exact (cb (GL (by with_reducible assumption) (by with_reducible assumption) (by with_reducible assumption)) (by with_reducible assumption)) | exact (ca (GL (by with_reducible assumption) (by with_reducible assumption) (by with_reducible assumption)) (by with_reducible assumption)).symm | exact (cb (GS (by with_reducible assumption) (by with_reducible assumption) (by first | exact .inl (by with_reducible assumption) | exact .inr (by with_reducible assumption)) (by omega)) (by decide)) | exact (ca (GS (by with_reducible assumption) (by with_reducible assumption) (by first | exact .inl (by with_reducible assumption) | exact .inr (by with_reducible assumption)) (by omega)) (by decide)).symm | exact (nz (GN (by with_reducible assumption) (by first | exact .inl (by with_reducible assumption) | exact .inr (by with_reducible assumption)) (by with_reducible assumption) (by omega))) | exact (nF (GN (by with_reducible assumption) (by first | exact .inl (by with_reducible assumption) | exact .inr (by with_reducible assumption)) (by with_reducible assumption) (by omega))) | exact (rP (by with_reducible assumption)) | exact (nQ (by with_reducible assumption)) | (have h:0<=c.kind/\0<=c.client/\0<=c.seq/\0<=c.set/\0<=c.id/\0<=c.n:=(by first | exact jL (by with_reducible assumption) | exact jS (by with_reducible assumption)); omega) | (have h:=dv c v; omega))
 all_goals try (refine ⟨‹Nat› + 1,?_⟩; (repeat' (first | with_reducible refine And.intro ?_ ?_ | with_reducible refine and_imp.2 ?_ | intro)))
 all_goals (first | (first | with_reducible rfl | with_reducible assumption | omega | (refine ag ?_ ?_ <;> omega)) | exact rfl | exact ⟨nL⟩ | exact (yd (by with_reducible assumption) (by with_reducible assumption) (by omega)) | exact (cb (GI (by with_reducible assumption)) (by decide)) | exact (ca (GI (by with_reducible assumption)) (by decide)).symm | exact (cb (GL (by with_reducible assumption) (by with_reducible assumption) (by with_reducible assumption)) (by with_reducible assumption)) | exact (ca (GL (by with_reducible assumption) (by with_reducible assumption) (by with_reducible assumption)) (by with_reducible assumption)).symm | exact (cb (GS (by with_reducible assumption) (by with_reducible assumption) (by first | exact .inl (by with_reducible assumption) | exact .inr (by with_reducible assumption)) (by omega)) (by decide)) | exact (ca (GS (by with_reducible assumption) (by with_reducible assumption) (by first | exact .inl (by with_reducible assumption) | exact .inr (by with_reducible assumption)) (by omega)) (by decide)).symm | exact (nz (GN (by with_reducible assumption) (by first | exact .inl (by with_reducible assumption) | exact .inr (by with_reducible assumption)) (by with_reducible assumption) (by omega))) | exact (nF (GN (by with_reducible assumption) (by first | exact .inl (by with_reducible assumption) | exact .inr (by with_reducible assumption)) (by with_reducible assumption) (by omega))) | exact (rP (by with_reducible assumption)) | exact (nQ (by with_reducible assumption)) | (have h:0<=c.kind/\0<=c.client/\0<=c.seq/\0<=c.set/\0<=c.id/\0<=c.n:=(by first | exact jL (by with_reducible assumption) | exact jS (by with_reducible assumption)); omega) | (have h:=dv c v; omega))
noncomputable def Ew:cH:=(bT 30 (bM (ai (kT (.nm .command)) (ai (kC (cL (.nm .field))) (ai (kC cI) aO))) aP fun (c,rest,v,_) (_)=>⟨[rest.length<=20000],[.c (.own 0),.c (.int ((bS c rest v)))],some ([.row 5 .u8 ((cq c rest v))]),true⟩) Fl)
theorem sN:aT Try.prog (al aF) Ew:=(av (au (ab ck (ab (aq bf) (ab (aq aK) aj))) ak fun (c,rest,v,_) (_) hp=>Bm c rest v (fH hp)) sD)
end Go.Proofs.Ytladifkbefehdaa
namespace Go.Proofs.Ytladifkbefehdaa
open Go.RowKit
def DQ (f:Field):Int:=((min f.n.n 1048577:Nat):Int)
def aS (a:List Int) (f:Field):List Int:=if f.num<=6 then a.set f.num.toNat (DQ f) else a
def aR (l:List Field):List Int:=l.foldl aS [0,0,0,0,0,0,0]
def DO (c:Command) (f:Field):Command:=if f.num=7 then ⟨c.kind,c.client,c.seq,c.set,c.id,c.n,cK f.b,c.text⟩ else if f.num=8 then ⟨c.kind,c.client,c.seq,c.set,c.id,c.n,c.chunks,⟨f.b⟩⟩ else c
def cR (l:List Field):Command:=l.foldl DO bd
theorem zj {l:List Field} {k:Nat} {x:Field} (hx:l[k]? = some x):aR (l.take (k+1))=aS (aR (l.take k)) x:=by
 unfold aR; rw [ax hx,List.foldl_append]; rfl
theorem ue {l:List Field} {k:Nat} {x:Field} (hx:l[k]? = some x):cR (l.take (k+1))=DO (cR (l.take k)) x:=by
 unfold cR; rw [ax hx,List.foldl_append]; rfl
theorem DE {l:List Field} {k:Nat} {x:Field} (hx:l[k]? = some x) (h:x.num<=6):(aR (l.take k)).set x.num.toNat (bV (min x.n.n 1048577))=aR (l.take (k+1)):=by
 rw [zj hx,aS,if_pos h,DQ,dc (by omega)]
theorem Dy {l:List Field} {k:Nat} {x:Field} (hx:l[k]? = some x) (h:6<x.num):aR (l.take k)=aR (l.take (k+1)):=by
 rw [zj hx,aS,if_neg (by omega)]
theorem Er {l:List Field} {k:Nat} {x:Field} (hx:l[k]? = some x) (h:x.num=7):cR (l.take (k+1))=⟨(cR (l.take k)).kind,(cR (l.take k)).client,(cR (l.take k)).seq,(cR (l.take k)).set,(cR (l.take k)).id,(cR (l.take k)).n,cK x.b,(cR (l.take k)).text⟩:=by
 rw [ue hx,DO,if_pos h]
theorem Gg {l:List Field} {k:Nat} {x:Field} (hx:l[k]? = some x) (h:x.num=8):cR (l.take (k+1))=⟨(cR (l.take k)).kind,(cR (l.take k)).client,(cR (l.take k)).seq,(cR (l.take k)).set,(cR (l.take k)).id,(cR (l.take k)).n,(cR (l.take k)).chunks,⟨x.b⟩⟩:=by
 rw [ue hx,DO,if_neg (by omega),if_pos h]
theorem El {l:List Field} {k:Nat} {x:Field} (hx:l[k]? = some x) (h:¬ x.num=7) (h2:¬ x.num=8):cR (l.take (k+1))=cR (l.take k):=by
 rw [ue hx,DO,if_neg h,if_neg h2]
def numR (x y:Int):Prop:=∃ n:Nat,n<18446744073709551616/\x=((min n 1048577:Nat):Int)/\y=bV n
structure RelQ (a:List Int) (c r:Command):Prop where
 len:a.length=7
 n1:numR (a.getD 1 (dflt .int)) r.kind
 n2:numR (a.getD 2 (dflt .int)) r.client
 n3:numR (a.getD 3 (dflt .int)) r.seq
 n4:numR (a.getD 4 (dflt .int)) r.set
 n5:numR (a.getD 5 (dflt .int)) r.id
 n6:numR (a.getD 6 (dflt .int)) r.n
 ch:c.chunks=r.chunks
 tx:c.text=r.text
theorem Gp:RelQ [0,0,0,0,0,0,0] bd bd:=⟨rfl,⟨0,by decide,rfl,rfl⟩,⟨0,by decide,rfl,rfl⟩,⟨0,by decide,rfl,rfl⟩,⟨0,by decide,rfl,rfl⟩,⟨0,by decide,rfl,rfl⟩,⟨0,by decide,rfl,rfl⟩,rfl,rfl⟩
theorem JB {f:Field} (h:f.n.n<18446744073709551616):numR (DQ f) (uY f):=⟨f.n.n,h,rfl,aE h⟩
theorem IS {a:List Int} {c r:Command} {f:Field} (h:RelQ a c r) (hn:f.n.n<18446744073709551616) (h1:1<=f.num):RelQ (aS a f) (DO c f) (cA r f):=by
 obtain ⟨h0,g1,g2,g3,g4,g5,g6,g7,g8⟩:=h
 have hf:=JB hn
 match a,h0 with
 | [a0,a1,a2,a3,a4,a5,a6],_=>
  have:f.num=1\/f.num=2\/f.num=3\/f.num=4\/f.num=5\/f.num=6\/f.num=7\/f.num=8\/8<f.num:=by omega
  unfold aS DO cA
  rcases this with e | e | e | e | e | e | e | e | e
  ·simp only [e]; exact ⟨rfl,hf,g2,g3,g4,g5,g6,g7,g8⟩
  ·simp only [e]; exact ⟨rfl,g1,hf,g3,g4,g5,g6,g7,g8⟩
  ·simp only [e]; exact ⟨rfl,g1,g2,hf,g4,g5,g6,g7,g8⟩
  ·simp only [e]; exact ⟨rfl,g1,g2,g3,hf,g5,g6,g7,g8⟩
  ·simp only [e]; exact ⟨rfl,g1,g2,g3,g4,hf,g6,g7,g8⟩
  ·simp only [e]; exact ⟨rfl,g1,g2,g3,g4,g5,hf,g7,g8⟩
  ·simp only [e]; exact ⟨rfl,g1,g2,g3,g4,g5,g6,rfl,g8⟩
  ·simp only [e]; exact ⟨rfl,g1,g2,g3,g4,g5,g6,g7,rfl⟩
  ·rw [if_neg (by omega),if_neg (by omega),if_neg (by omega),if_neg (by omega),if_neg (by omega),if_neg (by omega),if_neg (by omega),if_neg (by omega),if_neg (by omega),if_neg (by omega),if_neg (by omega)]
   exact ⟨rfl,g1,g2,g3,g4,g5,g6,g7,g8⟩
theorem DD {l:List Field} {k:Nat} {x:Field} (h:Wq (RelQ (aR (l.take k)) (cR (l.take k)) (a_ (l.take k)))) (hx:l[k]? = some x) (hn:x.n.n<18446744073709551616) (h1:1<=x.num):Wq (RelQ (aR (l.take (k+1))) (cR (l.take (k+1))) (a_ (l.take (k+1)))):=by
 rw [zj hx,ue hx,aB hx]; exact ⟨IS h.h hn h1⟩
theorem nA {b:List UInt8} {v u:Int} {k:Nat} {x:Field} (h1:(az b).2=0) (h2:cC (az b).1 v=0) (hx:(aQ (az b).1 u)[k]? = some x):1<=x.num/\x.b.length<=16384:=by
 have hm:=tD (DK h1 h2)
 have hx2:=List.mem_of_getElem? hx
 refine ⟨?_,yI (DK h1 h2) x hx2⟩
 have ha:=jB (od hm.2) x (by unfold aQ at hx2; exact (List.mem_filter.1 hx2).1)
 unfold bI at ha
 simp only [Bool.and_eq_true,decide_eq_true_eq] at ha
 exact ha.1.1
def Dd (a:List Int) (c:Command):Command:=⟨a.getD 1 (dflt .int),a.getD 2 (dflt .int),a.getD 3 (dflt .int),a.getD 4 (dflt .int),a.getD 5 (dflt .int),a.getD 6 (dflt .int),c.chunks,c.text⟩
def HD (c:Command):Prop:=(0<=c.kind/\c.kind<=1048576)/\(0<=c.client/\c.client<=1048576)/\(0<=c.seq/\c.seq<=1048576)/\(0<=c.set/\c.set<=1048576)/\(0<=c.id/\c.id<=1048576)/\(0<=c.n/\c.n<=1048576)
theorem tC {n m:Int} {b:Bool} (h:gC n m b=true) (hm:0<=m):0<=n/\n<=m:=by
 unfold gC at h; cases b <;> simp at h <;> omega
theorem EZ {k:Int} (h:1<=k/\k<=12):(fP k).2<=64:=by
 have:k=1\/k=2\/k=3\/k=4\/k=5\/k=6\/k=7\/k=8\/k=9\/k=10\/k=11\/k=12:=by omega
 rcases this with rfl | rfl | rfl | rfl | rfl | rfl | rfl | rfl | rfl | rfl | rfl | rfl <;> decide
theorem zI {c:Command} {rest:List Field} {v:Int} (h:bS c rest v=0):HD c:=by
 obtain ⟨⟨_,ho,_⟩,_⟩:=vi h
 rcases ho with h | h
 ·unfold b_ km bt at h
  simp only [Bool.and_eq_true,Bool.or_eq_true,decide_eq_true_eq] at h
  unfold HD; omega
 ·obtain ⟨_,hn0,hl,hf⟩:=ml h
  have hr:=lM hn0
  have hs:=sX hr
  have hs2:=EZ hr
  unfold dE at hf
  simp only [Bool.and_eq_true,decide_eq_true_eq] at hf
  obtain ⟨⟨⟨⟨⟨⟨⟨a1,a2⟩,a3⟩,_⟩,a4⟩,a5⟩,a6⟩,a7⟩:=hf
  have b4:=tC a4 (by decide)
  have b5:=tC a5 (by decide)
  have b6:=tC a6 (by decide)
  have b7:=tC a7 (by decide)
  unfold HD; omega
theorem vg {x y:Int} (h:numR x y) (hb:(0<=x/\x<=1048576)\/(0<=y/\y<=1048576)):x=y:=by
 obtain ⟨n,hn,rfl,rfl⟩:=h
 unfold bV at hb ⊢
 split at hb <;> split <;> omega
theorem Ii {a:List Int} {c r:Command} (h:RelQ a c r) (hb:HD (Dd a c)\/HD r):Dd a c=r:=by
 have e1:=vg h.n1 (hb.imp (·.1) (·.1))
 have e2:=vg h.n2 (hb.imp (·.2.1) (·.2.1))
 have e3:=vg h.n3 (hb.imp (·.2.2.1) (·.2.2.1))
 have e4:=vg h.n4 (hb.imp (·.2.2.2.1) (·.2.2.2.1))
 have e5:=vg h.n5 (hb.imp (·.2.2.2.2.1) (·.2.2.2.2.1))
 have e6:=vg h.n6 (hb.imp (·.2.2.2.2.2) (·.2.2.2.2.2))
 unfold Dd; rw [e1,e2,e3,e4,e5,e6,h.ch,h.tx]
theorem EC {b:List UInt8} {v:Int} {k:Nat} (h:bt v 1 3=true) (h1:(az b).2=0) (h2:cC (az b).1 v=0) (hr:Wq (RelQ (aR ((aQ (az b).1 (aC v)).take k)) (cR ((aQ (az b).1 (aC v)).take k)) (a_ ((aQ (az b).1 (aC v)).take k)))) (hk:(aQ (az b).1 (aC v)).length<=k) (h3:¬ bS (Dd (aR ((aQ (az b).1 (aC v)).take k)) (cR ((aQ (az b).1 (aC v)).take k))) (bp (az b).1 (aC v)) v=0\/¬ Str.mk (cq (Dd (aR ((aQ (az b).1 (aC v)).take k)) (cR ((aQ (az b).1 (aC v)).take k))) (bp (az b).1 (aC v)) v)=Str.mk b):bF b v=⟨bd,[],6⟩:=by
 refine Hv (CQ h) (DK h1 h2) ?_
 rw [List.take_of_length_le hk] at hr h3
 by_cases hp:bS (a_ (aQ (az b).1 (aC v))) (bp (az b).1 (aC v)) v=0
 ·right
  rw [Ii hr.h (.inr (zI hp))] at h3
  intro e
  rw [hp,e] at h3; simp at h3
 ·exact .inl hp
theorem zt {b:List UInt8} {v:Int} {k:Nat} (h:bt v 1 3=true) (h1:(az b).2=0) (h2:cC (az b).1 v=0) (hr:Wq (RelQ (aR ((aQ (az b).1 (aC v)).take k)) (cR ((aQ (az b).1 (aC v)).take k)) (a_ ((aQ (az b).1 (aC v)).take k)))) (hk:(aQ (az b).1 (aC v)).length<=k) (h3:bS (Dd (aR ((aQ (az b).1 (aC v)).take k)) (cR ((aQ (az b).1 (aC v)).take k))) (bp (az b).1 (aC v)) v=0) (h4:Str.mk (cq (Dd (aR ((aQ (az b).1 (aC v)).take k)) (cR ((aQ (az b).1 (aC v)).take k))) (bp (az b).1 (aC v)) v)=Str.mk b):bF b v=⟨Dd (aR ((aQ (az b).1 (aC v)).take k)) (cR ((aQ (az b).1 (aC v)).take k)),bp (az b).1 (aC v),0⟩:=by
 have e:=Ii hr.h (.inl (zI h3))
 rw [e] at h3 h4 ⊢
 rw [List.take_of_length_le hk] at h3 h4 ⊢
 exact Hz (CQ h) (DK h1 h2) ⟨h3,congrArg Str.b h4⟩
theorem Dq {b:List UInt8} {v:Int} (h:bt v 1 3=false):bF b v=⟨bd,[],1⟩:=JR h
theorem DT {b:List UInt8} {v:Int} (h:bt v 1 3=true) (h1:(az b).2=0) (h2:¬ cC (az b).1 v=0):bF b v=⟨bd,[],cC (az b).1 v⟩:=JL h h1 h2
theorem DZ {b:List UInt8} {v:Int} (h:bt v 1 3=true) (h1:¬ (az b).2=0):bF b v=⟨bd,[],(az b).2⟩:=J_ h h1
def wC (b:List UInt8) (v:Int):List (Nat × LI):=[(13,{ σ:=Nat,F:=fun k=>([(0,one (.fz .u8 (b))),(1,one (.int (v))),(4,one (.ptr 0 0)),(9,one (.fz (.nm .field) (aQ (az b).1 (aC v)))),(10,one (.fz (.nm .field) (bp (az b).1 (aC v)))),(11,one (.ptr 1 0)),(12,one (.ptr 2 0)),(13,one (.int k))],[.box 27 (cellsOf (.nm .command) ((bd))),.arr 55 .int 7 ((aR ((aQ (az b).1 (aC v)).take k))),.box 27 (cellsOf (.nm .command) (((cR ((aQ (az b).1 (aC v)).take k)))))]),J:=fun k=>k<=(aQ (az b).1 (aC v)).length/\Wq (RelQ (aR ((aQ (az b).1 (aC v)).take k)) (cR ((aQ (az b).1 (aC v)).take k)) (a_ ((aQ (az b).1 (aC v)).take k))),μ:=fun k=>(aQ (az b).1 (aC v)).length - k })]
theorem Cp (b:List UInt8) (v:Int) (r0:Command) (r1:List Field) (r2:Int):cD aF Ew (wC b v) Try.f9 [.c (.fz .u8 (b)),.c (.int (v))] [] [.agg (cellsOf (.nm .command) r0),.c (.fz (.nm .field) (r1)),.c (.int (r2))]=((fun (q26:Prop)=>(fun (q25:Prop)=>(fun (q24:Nat)=>(fun (q23:Prop)=>(fun (q22:Nat)=>(fun (q21:Nat)=>(fun (q20:Nat)=>(fun (q19:Nat)=>(fun (q18:Nat)=>(fun (q17:Int)=>(fun (q16:Prop)=>(fun (q15:Int)=>(fun (q14:Nat)=>(fun (q13:Nat)=>(fun (q12:Prop)=>(fun (q11:Prop)=>(fun (q10:Prop)=>(fun (q9:Prop)=>(fun (q8:Prop)=>(fun (q7:Prop)=>(fun (q6:Int)=>(fun (q5:Prop)=>(fun (q4:Prop)=>(fun (q3:den Sh.int)=>(fun (q2:Int)=>(fun (q1:List Field)=>(fun (q0:List Field)=>b.length*q14<=q24->I64 v->(bt v q6 (3:Int)=false->q2=r0.kind/\q2=r0.client/\q2=r0.seq/\q2=r0.set/\q2=r0.id/\q2=r0.n/\q23/\q16/\r1=[]/\q6=r2)/\(bt v q6 (3:Int)=true->(az b).fst.length*(48:Nat)<=q24->I64 (az b).snd->(¬(az b).snd=q2->q2=r0.kind/\q2=r0.client/\q2=r0.seq/\q2=r0.set/\q2=r0.id/\q2=r0.n/\q23/\q16/\r1=[]/\(az b).snd=r2)/\((az b).snd=q2->q6=q6/\(I64 q15->(¬q15=q2->q2=r0.kind/\q2=r0.client/\q2=r0.seq/\q2=r0.set/\q2=r0.id/\q2=r0.n/\q23/\q16/\r1=[]/\q15=r2)/\(q15=q2->q6=q6/\(I64 (aC v)->q0.length*(48:Nat)<=q24->q1.length*(48:Nat)<=q24->∃ (s0:Nat),(fun (q31:Int)=>(fun (q30:Prop)=>(fun (q29:Prop)=>(fun (q28:Command)=>(fun (q27:Nat)=>(q26/\q25/\q30/\q29/\q2=(↑s0:Int)/\q2=bd.kind/\q2=bd.client/\q2=bd.seq/\q2=bd.set/\q2=bd.id/\q2=bd.n/\bd.chunks=[]/\Str.mk []=bd.text/\[q2,q2,q2,q2,q2,q2,q2]=aR (List.take s0 q0)/\q2=q28.kind/\q2=q28.client/\q2=q28.seq/\q2=q28.set/\q2=q28.id/\q2=q28.n/\q28.chunks=[]/\Str.mk []=q28.text)/\(s0<=q27/\Wq (RelQ (aR (List.take s0 q0)) q28 (a_ (List.take s0 q0))))/\∀ (s:Nat),(fun (q34:Nat)=>(fun (q33:Int)=>(fun (q32:List Field)=>s<=q27/\Wq (RelQ (aR q32) (cR q32) (a_ q32))->((↑s:Int)<(↑q0.length:Int)->q2<=(↑s:Int)/\(↑s:Int)<(↑q0.length:Int)/\∀ (x:Field),(fun (q40:Prop)=>(fun (q39:Prop)=>(fun (q38:Prop)=>(fun (q37:Prop)=>(fun (q36:List (den Sh.int))=>(fun (q35:Command)=>q0[s]? = some x->I64 x.num->I64 x.wire->x.n.n<(18446744073709551616:Nat)->x.b.length*q14<=q24->(x.num<=(6:Int)->q2<=x.num/\x.num<q31/\x.num.toNat<q13/\(q38->x.b.length<=(100000:Nat)/\(q39->I64 (eZ x.b)->(q37->q40/\∃ (s':Nat),(fun (q41:Command)=>(q26/\q25/\q30/\q29/\q33=(↑s':Int)/\q8/\q4/\q9/\q10/\q11/\q12/\q5/\q7/\q36=aR (List.take s' q0)/\q35.kind=q41.kind/\q35.client=q41.client/\q35.seq=q41.seq/\q35.set=q41.set/\q35.id=q41.id/\q35.n=q41.n/\cK x.b=q41.chunks/\Str.mk x.b=q41.text)/\(s' <= q27/\Wq (RelQ (aR (List.take s' q0)) q41 (a_ (List.take s' q0))))/\q27 - s' < q34) (cR (List.take s' q0)))/\(¬q37->q40/\∃ (s':Nat),(fun (q42:Command)=>(q26/\q25/\q30/\q29/\q33=(↑s':Int)/\q8/\q4/\q9/\q10/\q11/\q12/\q5/\q7/\q36=aR (List.take s' q0)/\q35.kind=q42.kind/\q35.client=q42.client/\q35.seq=q42.seq/\q35.set=q42.set/\q35.id=q42.id/\q35.n=q42.n/\cK x.b=q42.chunks/\q35.text=q42.text)/\(s' <= q27/\Wq (RelQ (aR (List.take s' q0)) q42 (a_ (List.take s' q0))))/\q27 - s' < q34) (cR (List.take s' q0)))))/\(¬q38->(q37->q40/\∃ (s':Nat),(fun (q43:Command)=>(q26/\q25/\q30/\q29/\q33=(↑s':Int)/\q8/\q4/\q9/\q10/\q11/\q12/\q5/\q7/\q36=aR (List.take s' q0)/\q35.kind=q43.kind/\q35.client=q43.client/\q35.seq=q43.seq/\q35.set=q43.set/\q35.id=q43.id/\q35.n=q43.n/\q35.chunks=q43.chunks/\Str.mk x.b=q43.text)/\(s' <= q27/\Wq (RelQ (aR (List.take s' q0)) q43 (a_ (List.take s' q0))))/\q27 - s' < q34) (cR (List.take s' q0)))/\(¬q37->q40/\∃ (s':Nat),(fun (q44:Command)=>(q26/\q25/\q30/\q29/\q33=(↑s':Int)/\q8/\q4/\q9/\q10/\q11/\q12/\q5/\q7/\q36=aR (List.take s' q0)/\q35.kind=q44.kind/\q35.client=q44.client/\q35.seq=q44.seq/\q35.set=q44.set/\q35.id=q44.id/\q35.n=q44.n/\q35.chunks=q44.chunks/\q35.text=q44.text)/\(s' <= q27/\Wq (RelQ (aR (List.take s' q0)) q44 (a_ (List.take s' q0))))/\q27 - s' < q34) (cR (List.take s' q0)))))/\((6:Int)<x.num->(q38->x.b.length<=(100000:Nat)/\(q39->I64 (eZ x.b)->(q37->q40/\∃ (s':Nat),(fun (q45:Command)=>(q26/\q25/\q30/\q29/\q33=(↑s':Int)/\q8/\q4/\q9/\q10/\q11/\q12/\q5/\q7/\aR q32=aR (List.take s' q0)/\q35.kind=q45.kind/\q35.client=q45.client/\q35.seq=q45.seq/\q35.set=q45.set/\q35.id=q45.id/\q35.n=q45.n/\cK x.b=q45.chunks/\Str.mk x.b=q45.text)/\(s' <= q27/\Wq (RelQ (aR (List.take s' q0)) q45 (a_ (List.take s' q0))))/\q27 - s' < q34) (cR (List.take s' q0)))/\(¬q37->q40/\∃ (s':Nat),(fun (q46:Command)=>(q26/\q25/\q30/\q29/\q33=(↑s':Int)/\q8/\q4/\q9/\q10/\q11/\q12/\q5/\q7/\aR q32=aR (List.take s' q0)/\q35.kind=q46.kind/\q35.client=q46.client/\q35.seq=q46.seq/\q35.set=q46.set/\q35.id=q46.id/\q35.n=q46.n/\cK x.b=q46.chunks/\q35.text=q46.text)/\(s' <= q27/\Wq (RelQ (aR (List.take s' q0)) q46 (a_ (List.take s' q0))))/\q27 - s' < q34) (cR (List.take s' q0)))))/\(¬q38->(q37->q40/\∃ (s':Nat),(fun (q47:Command)=>(q26/\q25/\q30/\q29/\q33=(↑s':Int)/\q8/\q4/\q9/\q10/\q11/\q12/\q5/\q7/\aR q32=aR (List.take s' q0)/\q35.kind=q47.kind/\q35.client=q47.client/\q35.seq=q47.seq/\q35.set=q47.set/\q35.id=q47.id/\q35.n=q47.n/\q35.chunks=q47.chunks/\Str.mk x.b=q47.text)/\(s' <= q27/\Wq (RelQ (aR (List.take s' q0)) q47 (a_ (List.take s' q0))))/\q27 - s' < q34) (cR (List.take s' q0)))/\(¬q37->q40/\∃ (s':Nat),(fun (q48:Command)=>(q26/\q25/\q30/\q29/\q33=(↑s':Int)/\q8/\q4/\q9/\q10/\q11/\q12/\q5/\q7/\aR q32=aR (List.take s' q0)/\q35.kind=q48.kind/\q35.client=q48.client/\q35.seq=q48.seq/\q35.set=q48.set/\q35.id=q48.id/\q35.n=q48.n/\q35.chunks=q48.chunks/\q35.text=q48.text)/\(s' <= q27/\Wq (RelQ (aR (List.take s' q0)) q48 (a_ (List.take s' q0))))/\q27 - s' < q34) (cR (List.take s' q0)))))) (cR q32)) ((aR q32).set x.num.toNat (bV (min x.n.n (1048577:Nat))))) (x.num=q17)) (x.num=(7:Int))) ((cK x.b).length*(8:Nat)<=q24)) (I64 q33))/\((↑q0.length:Int)<=(↑s:Int)->q2<=q6/\q6<q31/\q14<q13/\(I64 ((aR q32).getD q14 q3)->q2<=(2:Int)/\(2:Int)<q31/\q18<q13/\(I64 ((aR q32).getD q18 q3)->q2<=(3:Int)/\(3:Int)<q31/\q19<q13/\(I64 ((aR q32).getD q19 q3)->q2<=(4:Int)/\(4:Int)<q31/\q20<q13/\(I64 ((aR q32).getD q20 q3)->q2<=(5:Int)/\(5:Int)<q31/\q21<q13/\(I64 ((aR q32).getD q21 q3)->q2<=(6:Int)/\(6:Int)<q31/\q22<q13/\(I64 ((aR q32).getD q22 q3)->q1.length<=(20000:Nat)/\(I64 (bS (Command.mk ((aR q32).getD q14 q3) ((aR q32).getD q18 q3) ((aR q32).getD q19 q3) ((aR q32).getD q20 q3) ((aR q32).getD q21 q3) ((aR q32).getD q22 q3) (cR q32).chunks (cR q32).text) q1 v)->(¬bS (Command.mk ((aR q32).getD q14 q3) ((aR q32).getD q18 q3) ((aR q32).getD q19 q3) ((aR q32).getD q20 q3) ((aR q32).getD q21 q3) ((aR q32).getD q22 q3) (cR q32).chunks (cR q32).text) q1 v=q2\/¬Str.mk (cq (Command.mk ((aR q32).getD q14 q3) ((aR q32).getD q18 q3) ((aR q32).getD q19 q3) ((aR q32).getD q20 q3) ((aR q32).getD q21 q3) ((aR q32).getD q22 q3) (cR q32).chunks (cR q32).text) q1 v)=Str.mk b->q2=r0.kind/\q2=r0.client/\q2=r0.seq/\q2=r0.set/\q2=r0.id/\q2=r0.n/\q23/\q16/\r1=[]/\(6:Int)=r2)/\(bS (Command.mk ((aR q32).getD q14 q3) ((aR q32).getD q18 q3) ((aR q32).getD q19 q3) ((aR q32).getD q20 q3) ((aR q32).getD q21 q3) ((aR q32).getD q22 q3) (cR q32).chunks (cR q32).text) q1 v=q2/\Str.mk (cq (Command.mk ((aR q32).getD q14 q3) ((aR q32).getD q18 q3) ((aR q32).getD q19 q3) ((aR q32).getD q20 q3) ((aR q32).getD q21 q3) ((aR q32).getD q22 q3) (cR q32).chunks (cR q32).text) q1 v)=Str.mk b->(aR q32).getD q14 q3=r0.kind/\(aR q32).getD q18 q3=r0.client/\(aR q32).getD q19 q3=r0.seq/\(aR q32).getD q20 q3=r0.set/\(aR q32).getD q21 q3=r0.id/\(aR q32).getD q22 q3=r0.n/\(cR q32).chunks=r0.chunks/\(cR q32).text=r0.text/\q1=r1/\q2=r2)))))))))) (List.take s q0)) ((↑s:Int)+q6)) (q27 - s)) q0.length) (cR (List.take s0 q0))) (q1=q1)) (q0=q0)) (↑q13:Int))))))) (aQ (az b).fst (aC v))) (bp (az b).fst (aC v))) (0:Int)) (dflt Sh.int)) (bd.client=bd.client)) (bd.chunks=bd.chunks)) (1:Int)) (bd.text=bd.text)) (bd.kind=bd.kind)) (bd.seq=bd.seq)) (bd.set=bd.set)) (bd.id=bd.id)) (bd.n=bd.n)) (7:Nat)) (1:Nat)) (cC (az b).fst v)) (Str.mk []=r0.text)) (8:Int)) (2:Nat)) (3:Nat)) (4:Nat)) (5:Nat)) (6:Nat)) (r0.chunks=[])) (140737488355328:Nat)) (v=v)) (b=b)):=by kernel_rfl
theorem Cz (b:List UInt8) (v:Int):Sat Try.prog (al aF) 9 [.c (.fz .u8 (b)),.c (.int (v))] [] ⟨[],[.agg (cellsOf (.nm .command) ((bF b v).c)),.c (.fz (.nm .field) (((bF b v).r))),.c (.int (((bF b v).e)))],none,false⟩:=by
 refine aI sN (wC b v) Try.func9 (by decide) (by kernel_rfl) ?_
 rw [Cp]
 (repeat' (first | with_reducible refine And.intro ?_ ?_ | with_reducible refine and_imp.2 ?_ | intro))
 all_goals try (first | (first | with_reducible rfl | with_reducible assumption | omega | (refine ag ?_ ?_ <;> omega)) | exact rfl | exact ⟨Gp⟩ | (rw [Dq (by with_reducible assumption)] <;> rfl) | (rw [DT (by with_reducible assumption) (by with_reducible assumption) (by with_reducible assumption)] <;> rfl) | (rw [DZ (by with_reducible assumption) (by with_reducible assumption)] <;> rfl) | (rw [EC (by with_reducible assumption) (by with_reducible assumption) (by with_reducible assumption) (by with_reducible assumption) (by omega) (by assumption)] <;> rfl) | (rw [zt (by with_reducible assumption) (by with_reducible assumption) (by with_reducible assumption) (by with_reducible assumption) (by omega) (by assumption) (by assumption)] <;> rfl) | exact (DD (by with_reducible assumption) (by with_reducible assumption) (by with_reducible assumption) (nA (by with_reducible assumption) (by with_reducible assumption) (by with_reducible assumption)).1) | exact (DE (by with_reducible assumption) (by with_reducible assumption)) | exact (Dy (by with_reducible assumption) (by with_reducible assumption)) | (rw [Er (by with_reducible assumption) (by with_reducible assumption)] <;> rfl) | (rw [Gg (by with_reducible assumption) (by with_reducible assumption)] <;> rfl) | (rw [El (by with_reducible assumption) (by omega) (by omega)] <;> rfl) | (have h:=nA (u:=aC v) (k:=‹Nat›) (show (az b).2=0 by with_reducible assumption) (show cC (az b).1 v=0 by with_reducible assumption) (by with_reducible assumption); omega) | (have h1:=dz (az b).1 (aC v); have h2:=kK b; omega))
 all_goals try (refine ⟨0,?_⟩; (repeat' (first | with_reducible refine And.intro ?_ ?_ | with_reducible refine and_imp.2 ?_ | intro)))
 all_goals try (first | (first | with_reducible rfl | with_reducible assumption | omega | (refine ag ?_ ?_ <;> omega)) | exact rfl | exact ⟨Gp⟩ | (rw [Dq (by with_reducible assumption)] <;> rfl) | (rw [DT (by with_reducible assumption) (by with_reducible assumption) (by with_reducible assumption)] <;> rfl) | (rw [DZ (by with_reducible assumption) (by with_reducible assumption)] <;> rfl) | (rw [EC (by with_reducible assumption) (by with_reducible assumption) (by with_reducible assumption) (by with_reducible assumption) (by omega) (by assumption)] <;> rfl) | (rw [zt (by with_reducible assumption) (by with_reducible assumption) (by with_reducible assumption) (by with_reducible assumption) (by omega) (by assumption) (by assumption)] <;> rfl) | exact (DD (by with_reducible assumption) (by with_reducible assumption) (by with_reducible assumption) (nA (by with_reducible assumption) (by with_reducible assumption) (by with_reducible assumption)).1) | exact (DE (by with_reducible assumption) (by with_reducible assumption)) | exact (Dy (by with_reducible assumption) (by with_reducible assumption)) | (rw [Er (by with_reducible assumption) (by with_reducible assumption)] <;> rfl) | (rw [Gg (by with_reducible assumption) (by with_reducible assumption)] <;> rfl) | (rw [El (by with_reducible assumption) (by omega) (by omega)] <;> rfl) | (have h:=nA (u:=aC v) (k:=‹Nat›) (show (az b).2=0 by with_reducible assumption) (show cC (az b).1 v=0 by with_reducible assumption) (by with_reducible assumption); omega) | (have h1:=dz (az b).1 (aC v); have h2:=kK b; omega))
 all_goals try (refine ⟨‹Nat› + 1,?_⟩; (repeat' (first | with_reducible refine And.intro ?_ ?_ | with_reducible refine and_imp.2 ?_ | intro)))
 all_goals (first | (first | with_reducible rfl | with_reducible assumption | omega | (refine ag ?_ ?_ <;> omega)) | exact rfl | exact ⟨Gp⟩ | (rw [Dq (by with_reducible assumption)] <;> rfl) | (rw [DT (by with_reducible assumption) (by with_reducible assumption) (by with_reducible assumption)] <;> rfl) | (rw [DZ (by with_reducible assumption) (by with_reducible assumption)] <;> rfl) | (rw [EC (by with_reducible assumption) (by with_reducible assumption) (by with_reducible assumption) (by with_reducible assumption) (by omega) (by assumption)] <;> rfl) | (rw [zt (by with_reducible assumption) (by with_reducible assumption) (by with_reducible assumption) (by with_reducible assumption) (by omega) (by assumption) (by assumption)] <;> rfl) | exact (DD (by with_reducible assumption) (by with_reducible assumption) (by with_reducible assumption) (nA (by with_reducible assumption) (by with_reducible assumption) (by with_reducible assumption)).1) | exact (DE (by with_reducible assumption) (by with_reducible assumption)) | exact (Dy (by with_reducible assumption) (by with_reducible assumption)) | (rw [Er (by with_reducible assumption) (by with_reducible assumption)] <;> rfl) | (rw [Gg (by with_reducible assumption) (by with_reducible assumption)] <;> rfl) | (rw [El (by with_reducible assumption) (by omega) (by omega)] <;> rfl) | (have h:=nA (u:=aC v) (k:=‹Nat›) (show (az b).2=0 by with_reducible assumption) (show cC (az b).1 v=0 by with_reducible assumption) (by with_reducible assumption); omega) | (have h1:=dz (az b).1 (aC v); have h2:=kK b; omega))
noncomputable def Ir:cH:=(bT 9 (bM (ai (kC (cL .u8)) (ai (kC cI) aO)) aP fun (b,v,_) (_)=>⟨[],[.agg (cellsOf (.nm .command) ((bF b v).c)),.c (.fz (.nm .field) (((bF b v).r))),.c (.int (((bF b v).e)))],none,false⟩) Ew)
theorem AI:aT Try.prog (al aF) Ir:=(av (au (ab (aq bf) (ab (aq aK) aj)) ak fun (b,v,_) (_) _=>Cz b v ) sN)
end Go.Proofs.Ytladifkbefehdaa
namespace Go.Proofs.Ytladifkbefehdaa
open Go.RowKit
theorem Bl (b:List UInt8) (v:Int) (r0:Bool):cD aF Ir [] Try.f3 [.c (.fz .u8 (b)),.c (.int (v))] [] [.c (.bool (.atom (r0)))]=((fun (q2:Nat)=>(fun (q1:Nat)=>(fun (q0:TkR)=>b.length*(1:Nat)<=q1->I64 v->q2<=q1->q2<=q1/\(I64 q0.c.kind->I64 q0.c.client->I64 q0.c.seq->I64 q0.c.set->I64 q0.c.id->I64 q0.c.n->q0.c.chunks.length*(8:Nat)<=q1->q0.c.text.b.length<=q1->q0.r.length*(48:Nat)<=q1->I64 q0.e->I64 q0.c.kind->I64 q0.c.client->I64 q0.c.seq->I64 q0.c.set->I64 q0.c.id->I64 q0.c.n->q0.c.chunks.length*(8:Nat)<=q1->q0.c.text.b.length<=q1->q0.r.length*(48:Nat)<=q1->I64 q0.e->(true && decide (q0.c=q0.c) && decide (q0.r=q0.r) && decide (q0.e=q0.e))=r0)) (bF (List.take (3000:Nat) b) v)) (140737488355328:Nat)) ((List.take (3000:Nat) b).length*(1:Nat))):=by kernel_rfl
theorem BM (b:List UInt8) (v:Int):Sat Try.prog (al aF) 3 [.c (.fz .u8 (b)),.c (.int (v))] [] ⟨[],[.c (.bool (.atom ((true))))],none,false⟩:=by
 refine aI AI [] Try.func3 (by decide) (by kernel_rfl) ?_
 rw [Bl]
 (repeat' (first | with_reducible refine And.intro ?_ ?_ | with_reducible refine and_imp.2 ?_ | intro))
 all_goals (first | (first | with_reducible rfl | with_reducible assumption | omega | (refine ag ?_ ?_ <;> omega)) | (simp; done) | (have h:=List.length_take_le 3000 b; omega))
end Go.Proofs.Ytladifkbefehdaa
namespace Go.Proofs.Ytladifkbefehdaa
open Go.RowKit Go.ChangeShapes Go.WideShapes
def vG (shp:TypeId->Option Sh) (w:World):Cx:=cx ⟨shp,w.heap.size,fun _=>False⟩ [] w
theorem ER {shp:TypeId->Option Sh} {w:World} {s:Sh} {b:Nat} (h:b<w.heap.size):(vG shp w).at s b:=⟨⟨h,fun ⟨_,_,h,_⟩=>by simp at h,fun h=>h⟩,.inl h⟩
def Tr (P:Program) (shp:TypeId->Option Sh) (t:TypeId) (s:Sh):Prop:=
 ∀ (H:Type) (enc:TypeId × Value->H) (w:World) (fuel:Nat) (cs:List Value) (x:DataW H × List MemPlace),
  DataW.trod enc P w 0 (fun _=>true) true fuel t cs=some x->(∀ n ∈ x.1.weights P t,n<=140737488351232)->(∀ q ∈ x.2,q.block<w.heap.size)->∃ y:den s,Pds (vG shp w) (cellsOf s y) cs
def HV:List Sh->List AV->Prop
 | [],asx=>asx=[]
 | s :: r,asx=>∃ (y:den s) (l:List AV),asx=cellsOf s y++l/\HV r l
def JV:List Sh->Nat
 | []=>0
 | s :: r=>s.size+JV r
def Kr (P:Program) (shp:TypeId->Option Sh) (fs:List Go.Field) (o:Nat) (ss:List Sh):Prop:=
 ∀ (H:Type) (enc:TypeId × Value->H) (w:World) (fuel:Nat) (cs:List Value) (xs:List (DataW H × List MemPlace)),
  cs.length=o+JV ss->xs.length=fs.length->(∀ (i:Nat) (f:Go.Field),fs[i]? = some f->DataW.trod enc P w 0 (fun _=>true) true fuel f.type ((cs.drop f.offset).take (P.cellsOf f.type))=xs[i]?) ->
  (∀ n ∈ DataW.weightsEach P (fs.map (·.type)) (xs.map (·.1)),n<=140737488351232)->(∀ q ∈ xs.flatMap (·.2),q.block<w.heap.size)->∃ asx,HV ss asx/\Pds (vG shp w) asx (cs.drop o)
section
variable {P:Program} {shp:TypeId->Option Sh} {t:TypeId}
theorem Tr.int (h:P.underlying t=some (.int .i64)):Tr P shp t .int:=fun _ enc w fuel cs x hx _ _=>by
 obtain ⟨n,rfl,_,hw⟩:=DataW.trod_int h hx
 have h1:IntKind.i64.min = -9223372036854775808:=rfl
 have h2:IntKind.i64.max=9223372036854775807:=rfl
 simp only [Lit.wf,Bool.and_eq_true,decide_eq_true_eq] at hw
 exact ⟨n,.cons (.int ⟨by omega,by omega⟩) .nil⟩
theorem Tr.bool (h:P.underlying t=some .bool):Tr P shp t .bool:=fun _ enc w fuel cs x hx _ _=>by
 obtain ⟨n,rfl,_⟩:=DataW.trod_bool h hx
 exact ⟨n,.cons (Pd.bool (e:=.atom n)) .nil⟩
theorem Tr.u8 (h:P.underlying t=some (.int .u8)):Tr P shp t .u8:=fun _ enc w fuel cs x hx _ _=>by
 obtain ⟨n,rfl,_,hw⟩:=DataW.trod_int h hx
 have h1:IntKind.u8.min=0:=rfl
 have h2:IntKind.u8.max=255:=rfl
 simp only [Lit.wf,Bool.and_eq_true,decide_eq_true_eq] at hw
 refine ⟨UInt8.ofNat n.toNat,?_⟩
 have:n=((UInt8.ofNat n.toNat).toNat:Int):=by
  rw [UInt8.toNat_ofNat']; omega
 generalize hg:UInt8.ofNat n.toNat=b at this
 subst this
 exact .cons .u8 .nil
theorem Tr.u64 (h:P.underlying t=some (.int .u64)):Tr P shp t .u64:=fun _ enc w fuel cs x hx _ _=>by
 obtain ⟨n,rfl,_,hw⟩:=DataW.trod_int h hx
 have h1:IntKind.u64.min=0:=rfl
 have h2:IntKind.u64.max=18446744073709551615:=rfl
 simp only [Lit.wf,Bool.and_eq_true,decide_eq_true_eq] at hw
 refine ⟨⟨n.toNat⟩,?_⟩
 have:n=(n.toNat:Int):=by omega
 generalize hg:n.toNat=b at this
 subst this
 exact .cons (.u64 (by show b<_; omega)) .nil
theorem ga {H:Type} {e:TypeId}:∀ {ds:List (DataW H)} {d:DataW H},d ∈ ds->∀ n ∈ d.weights P e,n ∈ DataW.weightsAll P e ds
 | [],_,h,_,_=>by cases h
 | d0 :: ds,d,h,n,hn=>by
  rw [DataW.weightsAll,List.mem_append]
  rcases List.mem_cons.1 h with rfl | h
  ·exact .inl hn
  ·exact .inr (ga h n hn)
theorem uX {s:Sh} {xs:List (den s)} {y:den s}:(xs++[y]).flatMap (cellsOf s)=xs.flatMap (cellsOf s)++cellsOf s y:=by simp
theorem Tr.list {e:TypeId} {s:Sh} (ht:P.underlying t=some (.slice e)) (hC:P.cellsOf e=s.size) (hB:P.bytesOf e=s.bytes) (he:Tr P shp e s):Tr P shp t (.lst s):=fun H enc w fuel cs x hx hw hlt=>by
 have hp:=size_pos s
 rcases DataW.trod_slice ht hx with ⟨rfl,_⟩ | ⟨a,len,cap,elems,rest,n,rfl,rfl,rfl,_,hl,hc,hel,hget,hrest,_⟩
 ·exact ⟨([]:List (den s)),.cons (Pd.nT (.em (a:=none) (b:=true) rfl)) .nil⟩
 ·rw [hC] at *
  have step:∀ m,m<=len->∃ (cells:List Value) (xs:List (den s)),Pds (vG shp w) (xs.flatMap (cellsOf s)) cells/\xs.length=m/\CellsAt w a cells:=by
   intro m
   induction m with
   | zero=>intro _; exact ⟨[],[],.nil,rfl,CellsAt.nil⟩
   | succ m ih=>
    intro hm
    obtain ⟨cells,xs,h1,h2,h3⟩:=ih (by omega)
    have hg:=hget m (by omega)
    have hem:elems[m]? = some (elems[m]'(by omega)):=List.getElem?_eq_getElem (by omega)
    rw [hem,Option.bind_eq_some_iff] at hg
    obtain ⟨cs,hcs,htr⟩:=hg
    have hmem:elems[m]'(by omega) ∈ elems:=List.getElem_mem _
    obtain ⟨y,hy⟩:=he H enc w n cs _ htr
     (fun k hk=>hw k (by
      simp only [DataW.weights,ht,List.mem_cons,List.mem_append]
      exact .inr (.inl (ga (List.mem_map_of_mem hmem) k hk))))
     (fun q hq=>hlt q (by
      simp only [List.mem_append,List.mem_flatMap]
      exact .inr ⟨_,.inl hmem,hq⟩))
    obtain ⟨_,hcl,hat⟩:=World.cells?_some hcs
    refine ⟨cells++cs,xs++[y],by rw [uX]; exact h1.append hy,by simp [h2],fun j v hv=>?_⟩
    have hfl:cells.length=m*s.size:=by rw [<- h1.length,bz,h2]
    by_cases hj:j<m*s.size
    ·rw [List.getElem?_append_left (by omega)] at hv
     exact h3 j v hv
    ·rw [List.getElem?_append_right (by omega),hfl] at hv
     have hj2:=jo hv
     have:=hat (j - m*s.size) (by omega)
     rw [hv,add_add,show m*s.size+(j - m*s.size)=j by omega] at this
     exact this
  obtain ⟨cells,xs,h1,h2,h3⟩:=step len (Nat.le_refl _)
  have hwt:(elems.length+rest.length)*P.bytesOf e<=140737488351232:=hw _ (by simp [DataW.weights,ht])
  refine ⟨xs,.cons ?_ .nil⟩
  subst h2
  refine .fz (by omega) hc ?_ h1 ?_
  ·rw [hB] at hwt
   have:xs.length*s.bytes<=(elems.length+rest.length)*s.bytes:=Nat.mul_le_mul_right _ (by omega)
   omega
  ·by_cases h0:xs.length=0
   ·left; exact List.eq_nil_of_length_eq_zero h0
   ·right
    refine ⟨a,rfl,ER ?_,h3⟩
    have:MemPlace.cell a.block (a.off+0) ∈ MemPlace.row a ((elems.length+rest.length)*s.size):=MemPlace.mem_row.2 ⟨0,Nat.mul_pos (by omega) hp,rfl⟩
    exact hlt _ (List.mem_append_left _ this)
end
section
variable {H:Type} {enc:TypeId × Value->H} {P:Program} {shp:TypeId->Option Sh}
structure Ar (enc:TypeId × Value->H) (P:Program) (W:World) (t:TypeId) (v:Value):Prop where
 form:∃ base,Value.okWide P W .any base t v
 read:∃ d p fuel,DataW.trod enc P W 0 (fun _=>true) true fuel t v.cells.toList=some (d,p)/\(∀ n ∈ d.weights P t,n<=140737488351232)/\(∀ q ∈ p,q.block<W.heap.size)
variable {W:World} {t:TypeId} {v:Value}
theorem Ar.rp {s:Sh} (h:Ar enc P W t v) (ht:Tr P shp t s):∃ y:den s,Pds (vG shp W) (cellsOf s y) v.cells.toList:=by
 obtain ⟨d,p,fuel,h1,h2,h3⟩:=h.read
 exact ht H enc W fuel _ _ h1 h2 h3
theorem ru {a:AV} {u:Value} (h:Pds (vG shp W) [a] [u]):bW (vG shp W) [] (.c a) u:=by cases h with | cons h1 _=>exact fW h1
theorem Ar.int (h:Ar enc P W t v) (ht:P.underlying t=some (.int .i64)):∃ y:Int,bW (vG shp W) [] (.c (.int y)) v:=by
 obtain ⟨base,hf⟩:=h.form
 obtain ⟨n,rfl⟩:=okWide_int ht hf
 obtain ⟨y,h1⟩:=h.rp (shp:=shp) (Tr.int ht)
 exact ⟨y,ru (by simpa [Value.cells,cellsOf] using h1)⟩
theorem Ar.u8 (h:Ar enc P W t v) (ht:P.underlying t=some (.int .u8)):∃ y:UInt8,bW (vG shp W) [] (.c (.u8 y)) v:=by
 obtain ⟨base,hf⟩:=h.form
 obtain ⟨n,rfl⟩:=okWide_int ht hf
 obtain ⟨y,h1⟩:=h.rp (shp:=shp) (Tr.u8 ht)
 exact ⟨y,ru (by simpa [Value.cells,cellsOf] using h1)⟩
theorem Ar.bool (h:Ar enc P W t v) (ht:P.underlying t=some .bool):∃ y:Bool,bW (vG shp W) [] (.c (.bool (.atom y))) v:=by
 obtain ⟨base,hf⟩:=h.form
 obtain ⟨b,rfl⟩:=okWide_bool ht hf
 exact ⟨b,Pd.bool (e:=.atom b)⟩
theorem Ar.list {e:TypeId} {s:Sh} (h:Ar enc P W t v) (hu:P.underlying t=some (.slice e)) (ht:Tr P shp t (.lst s)):∃ xs:List (den s),bW (vG shp W) [] (.c (.fz s xs)) v:=by
 obtain ⟨base,hf⟩:=h.form
 obtain ⟨a,len,cap,rfl⟩:=okWide_slice hu hf
 obtain ⟨y,h1⟩:=h.rp ht
 exact ⟨y,ru (by simpa [Value.cells,cellsOf] using h1)⟩
theorem Cq {f:Nat} {args:List TV1} {pre:List Prop} {e:BE} {vs:List Value} (h:Sat P shp f args [] ⟨pre,[.c (.bool e)],none,false⟩) (he:e.val=true) (hv:All2 (bW (vG shp W) []) args vs):pZ P f vs.toArray W fun r W'=>r = .bool true/\Kp [] W W':=by
 refine (h.2 ⟨shp,W.heap.size,fun _=>False⟩ [] W vs rfl ⟨.nil,fun _ _ _ _ _ h=>by simp at h,fun _ _ _ h=>by simp at h,fun _ h=>h.elim,Nat.le_refl _⟩ hv).mono fun v w' ⟨us,h1,h2,h3⟩=>⟨?_,h2⟩
 cases h3 with | cons h4 h5=>
 cases h5
 have h4:Pd _ (.bool e) _:=h4
 cases h4
 rw [h1,he]; rfl
theorem BH {base:Nat} {ts:List TypeId} {args:Array Value} {ds:List (DataW H)} {p:List MemPlace} (hf:∀ (j:Nat) t v,ts[j]? = some t->args[j]? = some v->Value.okWide P W .any base t v)
  (h:DataW.TrodAll enc P W 0 (fun _=>true) true ts args.toList ds p) (hw:∀ n ∈ DataW.weightsEach P ts ds,n<=140737488351232) (hlt:∀ q ∈ p,q.block<W.heap.size) :
  args.size=ts.length/\∀ (j:Nat) t v,ts[j]? = some t->args[j]? = some v->Ar enc P W t v:=by
 have key:∀ (ts:List TypeId) (vs:List Value) (ds:List (DataW H)) (p:List MemPlace),DataW.TrodAll enc P W 0 (fun _=>true) true ts vs ds p->(∀ n ∈ DataW.weightsEach P ts ds,n<=140737488351232)->(∀ q ∈ p,q.block<W.heap.size) ->
   vs.length=ts.length/\∀ (j:Nat) t v,ts[j]? = some t->vs[j]? = some v->∃ d p fuel,DataW.trod enc P W 0 (fun _=>true) true fuel t v.cells.toList=some (d,p)/\(∀ n ∈ d.weights P t,n<=140737488351232)/\(∀ q ∈ p,q.block<W.heap.size):=by
  intro ts
  induction ts with
  | nil=>intro vs ds p h _ _; obtain ⟨rfl,_,_⟩:=trodAll_nil h; exact ⟨rfl,fun j t v h=>by simp at h⟩
  | cons t ts ih=>
   intro vs ds p h hw hlt
   obtain ⟨v,vs,d,ds,p1,p2,rfl,rfl,rfl,h1,h2⟩:=trodAll_cons h
   obtain ⟨k1,k2⟩:=ih vs ds p2 h2 (fun n hn=>hw n (by rw [DataW.weightsEach,List.mem_append]; exact .inr hn)) (fun q hq=>hlt q (List.mem_append_right _ hq))
   refine ⟨by simp [k1],fun j t' v' ht hv=>?_⟩
   cases j with
   | zero=>
    simp at ht hv
    subst ht; subst hv
    obtain ⟨fuel,hf⟩:=h1
    exact ⟨d,p1,fuel,hf,fun n hn=>hw n (by rw [DataW.weightsEach,List.mem_append]; exact .inl hn),fun q hq=>hlt q (List.mem_append_left _ hq)⟩
   | succ j=>exact k2 j t' v' (by simpa using ht) (by simpa using hv)
 obtain ⟨k1,k2⟩:=key ts args.toList ds p h hw hlt
 exact ⟨by simpa using k1,fun j t v ht hv=>⟨⟨base,hf j t v ht hv⟩,k2 j t v ht (by simpa using hv)⟩⟩
theorem vl (hl:laidOutB P=true) {W':World} (hb:Below W.heap.size W W'):∀ (ts:List TypeId) (vs:List Value) (ds:List (DataW H)) (p:List MemPlace),ts.all (fun t=>P.readableRec t && decide (t<P.types.size))=true->DataW.TrodAll enc P W 0 (fun _=>true) true ts vs ds p->(∀ q ∈ p,q.block<W.heap.size) ->
  DataW.TrodAll enc P W' 0 (fun b=>decide (b<W.heap.size)) true ts vs ds p:=by
 intro ts
 induction ts with
 | nil=>intro vs ds p _ h _; obtain ⟨rfl,rfl,rfl⟩:=trodAll_nil h; rfl
 | cons t ts ih=>
  intro vs ds p hr h hlt
  obtain ⟨v,vs,d,ds,p1,p2,rfl,rfl,rfl,h1,h2⟩:=trodAll_cons h
  rw [List.all_cons,Bool.and_eq_true,Bool.and_eq_true,decide_eq_true_eq] at hr
  exact ⟨p1,p2,Below.trod hl hr.1.1 hr.1.2 h1 hb fun q hq=>hlt q (List.mem_append_left _ hq),ih vs ds p2 hr.2 h2 fun q hq=>hlt q (List.mem_append_right _ hq),rfl⟩
theorem zR {fn:Func} {s:ChangeSpec} {tb:TypeId} {W':World} {args:Array Value} {ds:List (DataW H)} {p:List MemPlace} (hl:laidOutB P=true)
  (hrow:fn.params.toList.all (fun t=>P.readableRec t && decide (t<P.types.size))=true) (hr:fn.resultTypes = #[tb]) (hb:P.underlying tb=some .bool) (hv:s.vars=[])
  (hs:s.fn H (ds++[])={ results:=[.lit (.bool true)],args:=ds }) (hW:DataW.Whole enc P fn.params.toList s.vars false W args.toList ds [] p) (hA:DataW.TrodAll enc P W 0 (fun _=>true) true fn.params.toList args.toList ds p) (hlt:∀ q ∈ p,q.block<W.heap.size) (hk:Kp [] W W') :
  s.post enc P fn false true false false W args (.bool true) W':=by
 refine ⟨ds,[],p,[],p,[],hW,?_,?_,?_,hk.below.frame _,fun h=>by cases h⟩
 ·rw [hs,hr]
  exact trodAll_mk1 ⟨1,by simp [DataW.trod,Value.cells,hb]⟩
 ·rw [hs]
  exact vl hl hk.below _ _ _ _ hrow hA hlt
 ·rw [hs,hv]; rfl
theorem wh {C:Checked} {os:Os} {f:FuncId} {fn:Func} {s:ChangeSpec} {conds:List PathCond} {tb:TypeId} (own:ownKnob C.prog.godebug=none) (started:os.Started) (noInit:C.prog.inits.idxOf? f=none) (hfn:C.prog.funcs[f]? = some fn)
  (witness:∃ (w:World) (tape:Tape) (i:Input),w.os=os/\(w.forCall tape i).Shaped C.prog/\i.vars=[]/\Input.okWide C.prog (w.forCall tape i) .any w.heap.size f i /\
   s.pre6 enc C.prog fn conds false (w.forCall tape i).memory i.args/\({}:Assume).holds C.prog (lone (Frame.enter C.prog f i.args .normal) [] (w.forCall tape i)))
  (hl:laidOutB C.prog=true) (hrow:fn.params.toList.all (fun t=>C.prog.readableRec t && decide (t<C.prog.types.size))=true) (hr:fn.resultTypes = #[tb]) (hb:C.prog.underlying tb=some .bool) (hv:s.vars=[])
  (hs:∀ ds:List (DataW H),ds.length=fn.params.size->s.fn H ds={ results:=[.lit (.bool true)],args:=ds })
  (law:∀ (W:World) (args:Array Value),args.size=fn.params.toList.length->(∀ (j:Nat) t v,fn.params.toList[j]? = some t->args[j]? = some v->Ar enc C.prog W t v)->pZ C.prog f args W fun r W'=>r = .bool true/\Kp [] W W') :
  ReturnsInHanded {} C os f .any (s.pre6 enc C.prog fn conds false) (s.post enc C.prog fn false true false false):=by
 refine returnsInHanded_of_change_sized own started noInit hfn witness ?_
 intro W base args ds gs before hval hW _ hsz _
 have hW0:=hW
 obtain ⟨p,q,hA,hV,rfl,_,_⟩:=hW
 rw [hv] at hV
 obtain ⟨rfl,rfl⟩:=trodVars_none hV
 simp only [List.append_nil] at hW0 hsz
 have hlt:∀ x ∈ p,x.block<W.heap.size:=fun x hx=>by simpa using hW0.lt x hx
 have hwt:∀ n ∈ DataW.weightsEach C.prog fn.params.toList ds,n<=140737488351232:=fun n hn=>by
  have hmem:n ∈ DataW.weightsEach C.prog (fn.params.toList++s.plain.varTypes C.prog) ds:=by
   have:∀ (ts us:List TypeId) (ds:List (DataW H)),n ∈ DataW.weightsEach C.prog ts ds->n ∈ DataW.weightsEach C.prog (ts++us) ds:=by
    intro ts
    induction ts with
    | nil=>intro us ds h; simp [DataW.weightsEach] at h
    | cons t ts ih=>
     intro us ds h
     cases ds with
     | nil=>simp [DataW.weightsEach] at h
     | cons d ds=>
      rw [DataW.weightsEach,List.mem_append] at h
      rw [List.cons_append,DataW.weightsEach,List.mem_append]
      exact h.imp id (ih us ds)
   exact this _ _ _ hn
  exact of_decide_eq_true (List.all_eq_true.1 hsz n hmem)
 obtain ⟨hsize,har⟩:=BH (fun j t v ht hv=>hval j t v (by simpa using ht) hv) hA hwt hlt
 have hdl:ds.length=fn.params.size:=by
  have:∀ (ts:List TypeId) (vs:List Value) (ds:List (DataW H)) (p:List MemPlace),DataW.TrodAll enc C.prog W 0 (fun _=>true) true ts vs ds p->ds.length=ts.length:=by
   intro ts
   induction ts with
   | nil=>intro vs ds p h; obtain ⟨_,rfl,_⟩:=trodAll_nil h; rfl
   | cons t ts ih=>intro vs ds p h; obtain ⟨v,vs,d,ds,p1,p2,rfl,rfl,rfl,_,h2⟩:=trodAll_cons h; simp [ih vs ds p2 h2]
  simpa using this _ _ _ _ hA
 refine Calls.mono (law W args hsize har) fun e W' ⟨v,he,hv',hk⟩=>⟨v,he,?_⟩
 subst hv'
 exact zR hl hrow hr hb hv (by rw [List.append_nil]; exact hs ds hdl) hW0 hA hlt hk
end
end Go.Proofs.Ytladifkbefehdaa
namespace Go.Proofs.Ytladifkbefehdaa
open Go.RowKit Go.ChangeShapes Go.WideShapes
theorem yr:ownKnob Try.prog.godebug=none:=by kernel_rfl
theorem yQ:laidOutB Try.prog=true:=by kernel_rfl
set_option maxRecDepth 100000 in
theorem iu (os:Os) (started:os.Started) (H:Type) (enc:TypeId × Value->H) :
  ReturnsInHanded {} Try.checked os 3 .any (Rows.commandTakesSpec.pre6 enc Try.prog Try.f3 Rows.commandTakesRow.domain false) (Rows.commandTakesSpec.post enc Try.prog Try.f3 false true false false):=by
 refine wh (C:=Try.checked) yr started (by kernel_rfl) Try.func3 (ChangeSpec.witness6 (enc:=enc) (C:=Try.checked) false ⟨#[],#[.slice none 0 0,.int .i64 0],[]⟩ 8 (by kernel_rfl) (by kernel_rfl) (by kernel_rfl) (by kernel_rfl)) yQ (by kernel_rfl) (by kernel_rfl) Try.underlying4 rfl (fun ds h=>?_) ?_
 ·match ds,h with
  | [d0,d1],_=>rfl
 ·intro W args hs ha
  obtain ⟨l⟩:=args
  match l,hs with
  | [v0,v1],_=>
   obtain ⟨x0,h0⟩:=Ar.list (shp:=al aF) (ha 0 22 _ rfl rfl) Try.underlying22 (Tr.list Try.underlying22 (by kernel_rfl) (by kernel_rfl) (Tr.u8 Try.underlying5))
   obtain ⟨x1,h1⟩:=Ar.int (shp:=al aF) (ha 1 3 _ rfl rfl) Try.underlying3
   exact Cq (BM x0 x1) rfl (.cons h0 (.cons h1 .nil))
theorem commandTakes_holds:Rows.CommandTakesSaid:=
 OpenClaim.holds_of_wide 3 Try.f3 rfl rfl rfl rfl rfl rfl rfl ⟨rfl,rfl,rfl,rfl,rfl⟩ rfl rfl rfl rfl rfl (by kernel_rfl) Try.func3 (by kernel_rfl)
  (of_decide_eq_true (by kernel_rfl)) (by unfold Func.isWrapper; first | (rw [if_pos (by decide +kernel)]; kernel_rfl) | (rw [if_neg (by decide +kernel)]; exact ⟨rfl,rfl⟩))
  (fun os started H enc _=>iu os started H enc)
end Go.Proofs.Ytladifkbefehdaa
