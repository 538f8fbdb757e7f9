/- What leads to the law, part 5. Conditions: each lemma's own. -/
import Derived.Test.YtdggohppeeaipaaGreatKGM4
set_option linter.unusedVariables false
set_option linter.unusedSimpArgs false
namespace Go.Proofs.YtdggohppeeaipaaGreat
open Go.RowKit
def df (xs:List Int) (c:Int):Bool:=decide (0<xs.getD c.toNat (dflt .int))
def c_ (xs ys:List Int) (c:Int):Bool:=decide (0<xs.getD c.toNat (dflt .int)) && decide (ys.getD c.toNat (dflt .int)=0)
def fN (p:Int->Bool) (k:Nat):List Int:=((List.range k).map fun (i:Nat)=>(i:Int)+1).filter p
theorem vP {p:Int->Bool} {k:Nat} (h:p ((k:Int)+1)=true):fN p k++[(k:Int)+1]=fN p (k+1):=by
 unfold fN; rw [List.range_succ,List.map_append,List.filter_append]; simp [h]
theorem wR {p:Int->Bool} {k:Nat} (h:p ((k:Int)+1)=false):fN p k=fN p (k+1):=by
 unfold fN; rw [List.range_succ,List.map_append,List.filter_append]; simp [h]
theorem vo {p:Int->Bool} {k:Nat} (h:k<=64) (h2:64<(k:Int)+1):fN p k=fN p 64:=by rw [show k=64 by omega]
theorem jY {p:Int->Bool} {k:Nat} {n:Int} (h:k<=64):((fN p k).length+[n].length)*8<=140737488355328:=by
 have:=List.length_filter_le p ((List.range k).map fun (i:Nat)=>(i:Int)+1)
 rw [List.length_map,List.length_range] at this
 unfold fN; simp only [List.length_cons,List.length_nil]; omega
def bB (l:List Snap):List Int:=l.foldl (fun t x=>cA t x.chunks) (List.replicate 65 0)
theorem mH:∀ (l xs:List Int),(cA xs l).length=xs.length
 | [],_=>rfl
 | n :: l,xs=>by
  show (cA (if 1<=n/\n<=64 then xs.set n.toNat (xs.getD n.toNat 0+1) else xs) l).length=_
  rw [mH l]; split
  ·rw [List.length_set]
  ·rfl
theorem gf {l:List Snap} {x:Snap}:bB (l++[x])=cA (bB l) x.chunks:=by unfold bB; rw [List.foldl_append]; rfl
theorem tz {l:List Snap} {k:Nat} {x:Snap} (hx:l[k]? = some x):cA (bB (l.take k)) x.chunks=bB (l.take (k+1)):=by rw [aD hx,gf]
theorem oe {p:List Snap->Prop} (h0:p []) (hs:∀ l x,p l->p (l++[x])) (l:List Snap):p l:=by
 have:∀ r:List Snap,p r.reverse:=fun r=>by
  induction r with
  | nil=>exact h0
  | cons x r ih=>rw [List.reverse_cons]; exact hs _ _ ih
 have h:=this l.reverse
 rwa [List.reverse_reverse] at h
theorem dQ (l:List Snap):(bB l).length=65:=by
 refine oe (p:=fun l=>(bB l).length=65) rfl (fun l x h=>?_) l
 rw [gf,mH,h]
theorem qI {l:List Snap} {x:Snap}:nch (l++[x])=nch l+x.chunks.length:=by unfold nch; simp
theorem xL (l:List Snap) (i:Nat):0<=(bB l).getD i 0/\(bB l).getD i 0<=nch l:=by
 refine oe (p:=fun l=>0<=(bB l).getD i 0/\(bB l).getD i 0<=nch l) ?_ (fun l x h=>?_) l
 ·show 0<=(List.replicate 65 (0:Int)).getD i 0/\(List.replicate 65 (0:Int)).getD i 0<=_
  rw [List.getD_eq_getElem?_getD,List.getElem?_replicate]; split <;> simp
 ·have:=tc x.chunks (bB l) i
  rw [gf,qI]; omega
theorem gF {l:List Snap} {k:Nat} {x:Snap} (hx:l[k]? = some x) (h:nch l<=1048576):nr (bB (l.take k)) x.chunks:=fun i=>by
 have h1:=xL (l.take k) i
 have h2:nch (l.take (k+1))<=nch l:=by
  unfold nch; rw [<- List.take_append_drop (k+1) l,List.flatMap_append,List.length_append,List.take_append_drop]; omega
 rw [aD hx,qI] at h2
 omega
theorem uo {l:List Snap} {m:List Int} {s:Sh} (h:nch l<=1048576) (hm:m.length*8<=140737488355328):nr (lL .int (bB l) 0 65) m:=fun i=>by
 rw [dZ (dQ l)]
 have h1:=xL l i
 omega
theorem tQ:∀ (l xs:List Int) (c:Int),1<=c->c<=64->xs.length=65->(cA xs l).getD c.toNat 0=xs.getD c.toNat 0+(l.count c:Nat)
 | [],_,_,_,_,_=>by simp [cA]
 | n :: l,xs,c,h1,h2,h3=>by
  show (cA (if 1<=n/\n<=64 then xs.set n.toNat (xs.getD n.toNat 0+1) else xs) l).getD c.toNat 0=_
  rw [tQ l _ c h1 h2 (by split; rw [List.length_set,h3]; exact h3),List.count_cons]
  split
  ·rw [pU]
   by_cases e:n=c
   ·subst e; rw [if_pos ⟨rfl,by omega⟩]; simp; omega
   ·rw [if_neg (by omega)]; simp [e]
  ·by_cases e:n=c
   ·omega
   ·simp [e]
theorem si (l:List Snap) (c:Int) (h1:1<=c) (h2:c<=64):(bB l).getD c.toNat 0=(o_ c l:Nat):=by
 refine oe (p:=fun l=>(bB l).getD c.toNat 0=(o_ c l:Nat)) ?_ (fun l x h=>?_) l
 ·show (List.replicate 65 (0:Int)).getD c.toNat 0=_
  rw [List.getD_eq_getElem?_getD,List.getElem?_replicate]; split <;> simp [o_]
 ·rw [gf,tQ _ _ _ h1 h2 (dQ l),h]
  unfold o_; simp
theorem uU (l:List Snap):((fN (df (bB l)) 64).length:Int)=(distF l:Int):=by
 unfold fN distF pP
 rw [List.filter_map,List.length_map]
 congr 2
 apply List.filter_congr
 intro i hi
 rw [List.mem_range] at hi
 have:=si l ((i:Int)+1) (by omega) (by omega)
 simp only [Function.comp,df]
 rw [show (dflt .int)=(0:Int) from rfl,this]
 rw [decide_eq_decide]; omega
theorem xv (l m:List Snap) (id:Int) (e:m=aX id l):fN (c_ (bB l) (bB m)) 64=ft l id:=by
 subst e
 unfold fN ft iW
 rw [List.filter_map]
 congr 1
 apply List.filter_congr
 intro i hi
 rw [List.mem_range] at hi
 have h1:=si l ((i:Int)+1) (by omega) (by omega)
 have h2:=si (aX id l) ((i:Int)+1) (by omega) (by omega)
 simp only [Function.comp,c_]
 rw [show (dflt .int)=(0:Int) from rfl,h1,h2]
 congr 1 <;> (rw [decide_eq_decide]; omega)
def xK (l:List Snap):List (Nat × LI):=[(3,{ σ:=Nat,F:=fun k=>([(2,one (.ptr 0 0)),(3,one (.ptr 1 0)),(6,one (.fz (.nm .snap) (l))),(7,one (.int (l).length)),(8,one (.int k))],[.arr 108 .int 65 ((List.replicate 65 0)),.arr 108 .int 65 ((bB (l.take k)))]),J:=fun k=>k<=l.length,μ:=fun k=>l.length - k })]
def qf (l:List Snap) (id:Int):List (Nat × LI):=[(3,{ σ:=Nat,F:=fun k=>([(1,one (.int (id))),(5,one (.own 0)),(8,one (.fz (.nm .snap) (l))),(9,one (.int (l).length)),(10,one (.int k))],[.row 59 (.nm .snap) ((aX id (l.take k)))]),J:=fun k=>k<=l.length,μ:=fun k=>l.length - k })]
theorem BT (n:Int) (xs:List Int) (r0:Bool):cP aF nB [] Tryz.f128 [.c (.int (n)),.c (.ptr 0 0)] [.arr 108 .int 65 (xs)] [.c (.bool (.atom (r0)))]=(I64 n->(0:Int)<=n/\n<(↑(65:Nat):Int)/\n.toNat<(65:Nat)/\(I64 (xs.getD n.toNat (dflt Sh.int))->decide ((0:Int)<xs.getD n.toNat (dflt Sh.int))=r0)):=by kernel_rfl
theorem Ce (n:Int) (xs:List Int) (h0:0<=n/\n<65):Sat Tryz.prog (au aF) 128 [.c (.int (n)),.c (.ptr 0 0)] [.arr 108 .int 65 (xs)] ⟨[0<=n/\n<65],[.c (.bool (.atom ((df xs n))))],none,false⟩:=by
 refine aQ fU [] Tryz.func128 (by decide) (by kernel_rfl) ?_
 rw [BT]
 (repeat' (first | with_reducible refine And.intro ?_ ?_ | with_reducible refine and_imp.2 ?_ | intro)) <;> first | (first | with_reducible rfl | with_reducible assumption | omega | (refine al ?_ ?_ <;> omega)) | rfl
theorem AW (n:Int) (xs:List Int) (ys:List Int) (r0:Bool):cP aF nB [] Tryz.f129 [.c (.int (n)),.c (.ptr 0 0),.c (.ptr 1 0)] [.arr 108 .int 65 (xs),.arr 108 .int 65 (ys)] [.c (.bool (.atom (r0)))]=((fun (q1:Int)=>(fun (q0:den Sh.int)=>I64 n->q1<=n/\n<(↑(65:Nat):Int)/\n.toNat<(65:Nat)/\(I64 q0->(q1<q0->q1<=n/\n<(↑(65:Nat):Int)/\n.toNat<(65:Nat))/\((q1<q0->I64 (ys.getD n.toNat (dflt Sh.int)))->(decide (q1<q0) && decide (ys.getD n.toNat (dflt Sh.int)=q1))=r0))) (xs.getD n.toNat (dflt Sh.int))) (0:Int)):=by kernel_rfl
theorem xw (n:Int) (xs:List Int) (ys:List Int) (h0:0<=n/\n<65):Sat Tryz.prog (au aF) 129 [.c (.int (n)),.c (.ptr 0 0),.c (.ptr 1 0)] [.arr 108 .int 65 (xs),.arr 108 .int 65 (ys)] ⟨[0<=n/\n<65],[.c (.bool (.atom ((c_ xs ys n))))],none,false⟩:=by
 refine aQ fU [] Tryz.func129 (by decide) (by kernel_rfl) ?_
 rw [AW]
 (repeat' (first | with_reducible refine And.intro ?_ ?_ | with_reducible refine and_imp.2 ?_ | intro)) <;> first | (first | with_reducible rfl | with_reducible assumption | omega | (refine al ?_ ?_ <;> omega)) | rfl
theorem CO (l:List Snap) (r0:List Int):cP aF nB (xK l) Tryz.f97 [.c (.fz (.nm .snap) (l))] [] [.agg (jA .int (r0) 0 65)]=((fun (q5:Nat)=>(fun (q4:Nat)=>(fun (q3:Nat)=>(fun (q2:Int)=>(fun (q1:den Sh.int)=>(fun (q0:List (den Sh.int))=>l.length*(64:Nat)<=(140737488355328:Nat)->∃ (s0:Nat),(l=l/\(↑l.length:Int)=(↑q5:Int)/\q2=(↑s0:Int)/\q0=List.replicate q3 (0:den Sh.int)/\q0=bB (List.take s0 l))/\s0<=q5/\∀ (s:Nat),(fun (q7:List Int)=>(fun (q6:List (den Sh.int))=>s<=q5->((↑s:Int)<(↑q5:Int)->q2<=(↑s:Int)/\(↑s:Int)<(↑l.length:Int)/\∀ (x:Snap),l[s]? = some x->I64 x.id->I64 x.set->x.chunks.length*(8:Nat)<=(140737488355328:Nat)->x.tag.b.length<=(140737488355328:Nat)->(∀ (i:Nat),q2<=q7.getD i q2/\q7.getD i q2+(↑x.chunks.length:Int)<=(4611686018427387904:Int))/\I64 ((↑s:Int)+(1:Int))/\∃ (s':Nat),(l=l/\(↑q5:Int)=(↑q5:Int)/\(↑s:Int)+(1:Int)=(↑s':Int)/\List.replicate q3 (0:den Sh.int)=List.replicate q3 (0:den Sh.int)/\cA q7 x.chunks=bB (List.take s' l))/\s' <= q5/\q5 - s' < q5 - s)/\((↑q5:Int)<=(↑s:Int)->q6.getD q4 q1=r0.getD q4 q1/\q6.getD (1:Nat) q1=r0.getD (1:Nat) q1/\q6.getD (2:Nat) q1=r0.getD (2:Nat) q1/\q6.getD (3:Nat) q1=r0.getD (3:Nat) q1/\q6.getD (4:Nat) q1=r0.getD (4:Nat) q1/\q6.getD (5:Nat) q1=r0.getD (5:Nat) q1/\q6.getD (6:Nat) q1=r0.getD (6:Nat) q1/\q6.getD (7:Nat) q1=r0.getD (7:Nat) q1/\q6.getD (8:Nat) q1=r0.getD (8:Nat) q1/\q6.getD (9:Nat) q1=r0.getD (9:Nat) q1/\q6.getD (10:Nat) q1=r0.getD (10:Nat) q1/\q6.getD (11:Nat) q1=r0.getD (11:Nat) q1/\q6.getD (12:Nat) q1=r0.getD (12:Nat) q1/\q6.getD (13:Nat) q1=r0.getD (13:Nat) q1/\q6.getD (14:Nat) q1=r0.getD (14:Nat) q1/\q6.getD (15:Nat) q1=r0.getD (15:Nat) q1/\q6.getD (16:Nat) q1=r0.getD (16:Nat) q1/\q6.getD (17:Nat) q1=r0.getD (17:Nat) q1/\q6.getD (18:Nat) q1=r0.getD (18:Nat) q1/\q6.getD (19:Nat) q1=r0.getD (19:Nat) q1/\q6.getD (20:Nat) q1=r0.getD (20:Nat) q1/\q6.getD (21:Nat) q1=r0.getD (21:Nat) q1/\q6.getD (22:Nat) q1=r0.getD (22:Nat) q1/\q6.getD (23:Nat) q1=r0.getD (23:Nat) q1/\q6.getD (24:Nat) q1=r0.getD (24:Nat) q1/\q6.getD (25:Nat) q1=r0.getD (25:Nat) q1/\q6.getD (26:Nat) q1=r0.getD (26:Nat) q1/\q6.getD (27:Nat) q1=r0.getD (27:Nat) q1/\q6.getD (28:Nat) q1=r0.getD (28:Nat) q1/\q6.getD (29:Nat) q1=r0.getD (29:Nat) q1/\q6.getD (30:Nat) q1=r0.getD (30:Nat) q1/\q6.getD (31:Nat) q1=r0.getD (31:Nat) q1/\q6.getD (32:Nat) q1=r0.getD (32:Nat) q1/\q6.getD (33:Nat) q1=r0.getD (33:Nat) q1/\q6.getD (34:Nat) q1=r0.getD (34:Nat) q1/\q6.getD (35:Nat) q1=r0.getD (35:Nat) q1/\q6.getD (36:Nat) q1=r0.getD (36:Nat) q1/\q6.getD (37:Nat) q1=r0.getD (37:Nat) q1/\q6.getD (38:Nat) q1=r0.getD (38:Nat) q1/\q6.getD (39:Nat) q1=r0.getD (39:Nat) q1/\q6.getD (40:Nat) q1=r0.getD (40:Nat) q1/\q6.getD (41:Nat) q1=r0.getD (41:Nat) q1/\q6.getD (42:Nat) q1=r0.getD (42:Nat) q1/\q6.getD (43:Nat) q1=r0.getD (43:Nat) q1/\q6.getD (44:Nat) q1=r0.getD (44:Nat) q1/\q6.getD (45:Nat) q1=r0.getD (45:Nat) q1/\q6.getD (46:Nat) q1=r0.getD (46:Nat) q1/\q6.getD (47:Nat) q1=r0.getD (47:Nat) q1/\q6.getD (48:Nat) q1=r0.getD (48:Nat) q1/\q6.getD (49:Nat) q1=r0.getD (49:Nat) q1/\q6.getD (50:Nat) q1=r0.getD (50:Nat) q1/\q6.getD (51:Nat) q1=r0.getD (51:Nat) q1/\q6.getD (52:Nat) q1=r0.getD (52:Nat) q1/\q6.getD (53:Nat) q1=r0.getD (53:Nat) q1/\q6.getD (54:Nat) q1=r0.getD (54:Nat) q1/\q6.getD (55:Nat) q1=r0.getD (55:Nat) q1/\q6.getD (56:Nat) q1=r0.getD (56:Nat) q1/\q6.getD (57:Nat) q1=r0.getD (57:Nat) q1/\q6.getD (58:Nat) q1=r0.getD (58:Nat) q1/\q6.getD (59:Nat) q1=r0.getD (59:Nat) q1/\q6.getD (60:Nat) q1=r0.getD (60:Nat) q1/\q6.getD (61:Nat) q1=r0.getD (61:Nat) q1/\q6.getD (62:Nat) q1=r0.getD (62:Nat) q1/\q6.getD (63:Nat) q1=r0.getD (63:Nat) q1/\q6.getD (64:Nat) q1=r0.getD (64:Nat) q1)) (lL Sh.int q7 q4 q3)) (bB (List.take s l))) [q2,q2,q2,q2,q2,q2,q2,q2,q2,q2,q2,q2,q2,q2,q2,q2,q2,q2,q2,q2,q2,q2,q2,q2,q2,q2,q2,q2,q2,q2,q2,q2,q2,q2,q2,q2,q2,q2,q2,q2,q2,q2,q2,q2,q2,q2,q2,q2,q2,q2,q2,q2,q2,q2,q2,q2,q2,q2,q2,q2,q2,q2,q2,q2,q2]) (dflt Sh.int)) (0:Int)) (65:Nat)) (0:Nat)) l.length):=by kernel_rfl
theorem Db (l:List Snap) (h0:nch l<=1048576):Sat Tryz.prog (au aF) 97 [.c (.fz (.nm .snap) (l))] [] ⟨[nch l<=1048576],[.agg (jA .int ((bB l)) 0 65)],none,false⟩:=by
 refine aQ fU (xK l) Tryz.func97 (by decide) (by kernel_rfl) ?_
 rw [CO]
 (repeat' (first | with_reducible refine And.intro ?_ ?_ | with_reducible refine and_imp.2 ?_ | intro))
 all_goals try (first | (first | with_reducible rfl | with_reducible assumption | omega | (refine al ?_ ?_ <;> omega)) | exact rfl | exact (tz (by with_reducible assumption)) | exact (gF (by with_reducible assumption) (by with_reducible assumption) _).1 | exact (gF (by with_reducible assumption) (by with_reducible assumption) _).2 | exact (by rw [dZ (dQ _),List.take_of_length_le (by omega)]))
 all_goals try (refine ⟨0,?_⟩; (repeat' (first | with_reducible refine And.intro ?_ ?_ | with_reducible refine and_imp.2 ?_ | intro)))
 all_goals try (first | (first | with_reducible rfl | with_reducible assumption | omega | (refine al ?_ ?_ <;> omega)) | exact rfl | exact (tz (by with_reducible assumption)) | exact (gF (by with_reducible assumption) (by with_reducible assumption) _).1 | exact (gF (by with_reducible assumption) (by with_reducible assumption) _).2 | exact (by rw [dZ (dQ _),List.take_of_length_le (by omega)]))
 all_goals try (refine ⟨‹Nat› + 1,?_⟩; (repeat' (first | with_reducible refine And.intro ?_ ?_ | with_reducible refine and_imp.2 ?_ | intro)))
 all_goals (first | (first | with_reducible rfl | with_reducible assumption | omega | (refine al ?_ ?_ <;> omega)) | exact rfl | exact (tz (by with_reducible assumption)) | exact (gF (by with_reducible assumption) (by with_reducible assumption) _).1 | exact (gF (by with_reducible assumption) (by with_reducible assumption) _).2 | exact (by rw [dZ (dQ _),List.take_of_length_le (by omega)]))
theorem wh (l:List Snap) (id:Int) (r0:List Snap):sa aF nB (qf l id) Tryz.f100 [.c (.fz (.nm .snap) (l)),.c (.int (id))] [] [.c (.own 0)] [.row 59 (.nm .snap) (r0)]=((fun (q0:Nat)=>l.length*(64:Nat)<=(140737488355328:Nat)->I64 id->∃ (s0:Nat),(fun (q1:Int)=>(id=id/\l=l/\(↑l.length:Int)=q1/\(0:Int)=(↑s0:Int)/\aX id (List.take s0 l)=[])/\s0<=q0/\∀ (s:Nat),(fun (q3:List Snap)=>(fun (q2:Int)=>s<=q0->((↑s:Int)<q1->(0:Int)<=(↑s:Int)/\(↑s:Int)<(↑l.length:Int)/\∀ (x:Snap),(fun (q4:Prop)=>l[s]? = some x->I64 x.id->I64 x.set->q4->x.tag.b.length<=(140737488355328:Nat)->(¬x.id=id->q4->(q3.length+[x].length)*(64:Nat)<=(140737488355328:Nat)/\I64 q2/\∃ (s':Nat),(id=id/\l=l/\q1=q1/\q2=(↑s':Int)/\q3++[x]=aX id (List.take s' l))/\s' <= q0/\q0 - s' < q0 - s)/\(x.id=id->I64 q2/\∃ (s':Nat),(id=id/\l=l/\q1=q1/\q2=(↑s':Int)/\q3=aX id (List.take s' l))/\s' <= q0/\q0 - s' < q0 - s)) (x.chunks.length*(8:Nat)<=(140737488355328:Nat)))/\(q1<=(↑s:Int)->q3=r0)) ((↑s:Int)+(1:Int))) (aX id (List.take s l))) (↑q0:Int)) l.length):=by kernel_rfl
theorem v_ (l:List Snap) (id:Int):Sat Tryz.prog (au aF) 100 [.c (.fz (.nm .snap) (l)),.c (.int (id))] [] ⟨[],[.c (.own 0)],some ([.row 59 (.nm .snap) ((aX id l))]),true⟩:=by
 refine eg fU (qf l id) Tryz.func100 (by decide) (by kernel_rfl) ?_
 rw [wh]
 (repeat' (first | with_reducible refine And.intro ?_ ?_ | with_reducible refine and_imp.2 ?_ | intro))
 all_goals try (first | (first | with_reducible rfl | with_reducible assumption | omega | (refine al ?_ ?_ <;> omega)) | exact rfl | exact (Ab (by with_reducible assumption) (by with_reducible assumption) (by with_reducible assumption)) | exact (xa (by with_reducible assumption) (by with_reducible assumption)) | exact (sW (by omega)) | exact (sX (by omega) (by omega)))
 all_goals try (refine ⟨0,?_⟩; (repeat' (first | with_reducible refine And.intro ?_ ?_ | with_reducible refine and_imp.2 ?_ | intro)))
 all_goals try (first | (first | with_reducible rfl | with_reducible assumption | omega | (refine al ?_ ?_ <;> omega)) | exact rfl | exact (Ab (by with_reducible assumption) (by with_reducible assumption) (by with_reducible assumption)) | exact (xa (by with_reducible assumption) (by with_reducible assumption)) | exact (sW (by omega)) | exact (sX (by omega) (by omega)))
 all_goals try (refine ⟨‹Nat› + 1,?_⟩; (repeat' (first | with_reducible refine And.intro ?_ ?_ | with_reducible refine and_imp.2 ?_ | intro)))
 all_goals (first | (first | with_reducible rfl | with_reducible assumption | omega | (refine al ?_ ?_ <;> omega)) | exact rfl | exact (Ab (by with_reducible assumption) (by with_reducible assumption) (by with_reducible assumption)) | exact (xa (by with_reducible assumption) (by with_reducible assumption)) | exact (sW (by omega)) | exact (sX (by omega) (by omega)))
def uH:cw:=(bS 100 (bL (ai (kC (cL (.nm .snap))) (ai (kC cI) aO)) aN fun (l,id,_) (_)=>⟨[],[.c (.own 0)],some ([.row 59 (.nm .snap) ((aX id l))]),true⟩) (bS 97 (bL (ai (kC (cL (.nm .snap))) aO) aN fun (l,_) (_)=>⟨[nch l<=1048576],[.agg (jA .int ((bB l)) 0 65)],none,false⟩) (bS 129 (bL (ai (kC cI) (ai (kC (bQ 0 0)) (ai (kC (bQ 1 0)) aO))) (ay (pB 108 .int 65) (ay (pB 108 .int 65) aN)) fun (n,_,_,_) (xs,ys,_)=>⟨[0<=n/\n<65],[.c (.bool (.atom ((c_ xs ys n))))],none,false⟩) (bS 128 (bL (ai (kC cI) (ai (kC (bQ 0 0)) aO)) (ay (pB 108 .int 65) aN) fun (n,_,_) (xs,_)=>⟨[0<=n/\n<65],[.c (.bool (.atom ((df xs n))))],none,false⟩) nB))))
theorem lM:aT Tryz.prog (au aF) uH:=(aA (az (ab (av bN) (ab (av ax) ao)) aq fun (l,id,_) (_) _=>v_ l id ) (aA (az (ab (av bN) ao) aq fun (l,_) (_) hp=>Db l (fb hp)) (aA (az (ab (av ax) (ab (av aJ) (ab (av aJ) ao))) (ag fl (ag fl aq)) fun (n,_,_,_) (xs,ys,_) hp=>xw n xs ys (fb hp)) (aA (az (ab (av ax) (ab (av aJ) ao)) (ag fl aq) fun (n,_,_) (xs,_) hp=>Ce n xs (fb hp)) fU))))
end Go.Proofs.YtdggohppeeaipaaGreat
namespace Go.Proofs.YtdggohppeeaipaaGreat
open Go.RowKit
def rl (xs:List Int):List (Nat × LI):=[(3,{ σ:=Nat,F:=fun k=>([(0,one (.fn 128 [] [(0,0)])),(3,one (.own 1)),(4,one (.int (k+1)))],[.arr 108 .int 65 ((xs)),.row 3 .int ((fN (df xs) k))]),J:=fun k=>k<=64,μ:=fun k=>64 - k })]
def rq (xs:List Int) (ys:List Int):List (Nat × LI):=[(3,{ σ:=Nat,F:=fun k=>([(0,one (.fn 129 [] [(0,0),(1,0)])),(3,one (.own 2)),(4,one (.int (k+1)))],[.arr 108 .int 65 ((xs)),.arr 108 .int 65 ((ys)),.row 3 .int ((fN (c_ xs ys) k))]),J:=fun k=>k<=64,μ:=fun k=>64 - k })]
theorem wD (xs:List Int) (r0:List Int):cP aF uH (rl xs) Tryz.f127 [.c (.fn 128 [] [(0,0)])] [.arr 108 .int 65 (xs)] [.c (.fz .int (r0))]=((fun (q1:Nat)=>(fun (q0:Int)=>∃ (s0:Nat),(q0=(↑s0:Int)+q0/\xs=xs/\fN (df xs) s0=[])/\s0<=q1/\∀ (s:Nat),(fun (q3:List Int)=>(fun (q2:Int)=>s<=q1->(q2<=(64:Int)->((0:Int)<=q2/\q2<(65:Int))/\(df xs q2=true->(q3.length+[q2].length)*(8:Nat)<=(140737488355328:Nat)/\I64 (q2+q0)/\∃ (s':Nat),(q2+q0=(↑s':Int)+q0/\xs=xs/\q3++[q2]=fN (df xs) s')/\s' <= q1/\q1 - s' < q1 - s)/\(df xs q2=false->I64 (q2+q0)/\∃ (s':Nat),(q2+q0=(↑s':Int)+q0/\xs=xs/\q3=fN (df xs) s')/\s' <= q1/\q1 - s' < q1 - s))/\((64:Int)<q2->q3=r0)) ((↑s:Int)+q0)) (fN (df xs) s)) (1:Int)) (64:Nat)):=by kernel_rfl
theorem wM (xs:List Int):Sat Tryz.prog (au aF) 127 [.c (.fn 128 [] [(0,0)])] [.arr 108 .int 65 (xs)] ⟨[],[.c (.fz .int ((fN (df xs) 64)))],none,false⟩:=by
 refine aQ lM (rl xs) Tryz.func127 (by decide) (by kernel_rfl) ?_
 rw [wD]
 (repeat' (first | with_reducible refine And.intro ?_ ?_ | with_reducible refine and_imp.2 ?_ | intro))
 all_goals try (first | (first | with_reducible rfl | with_reducible assumption | omega | (refine al ?_ ?_ <;> omega)) | exact rfl | exact (vP (by with_reducible assumption)) | exact (wR (by with_reducible assumption)) | exact (vo (by omega) (by omega)) | exact (jY (by omega)) | exact (And.intro (by omega) (by omega)))
 all_goals try (refine ⟨0,?_⟩; (repeat' (first | with_reducible refine And.intro ?_ ?_ | with_reducible refine and_imp.2 ?_ | intro)))
 all_goals try (first | (first | with_reducible rfl | with_reducible assumption | omega | (refine al ?_ ?_ <;> omega)) | exact rfl | exact (vP (by with_reducible assumption)) | exact (wR (by with_reducible assumption)) | exact (vo (by omega) (by omega)) | exact (jY (by omega)) | exact (And.intro (by omega) (by omega)))
 all_goals try (refine ⟨‹Nat› + 1,?_⟩; (repeat' (first | with_reducible refine And.intro ?_ ?_ | with_reducible refine and_imp.2 ?_ | intro)))
 all_goals (first | (first | with_reducible rfl | with_reducible assumption | omega | (refine al ?_ ?_ <;> omega)) | exact rfl | exact (vP (by with_reducible assumption)) | exact (wR (by with_reducible assumption)) | exact (vo (by omega) (by omega)) | exact (jY (by omega)) | exact (And.intro (by omega) (by omega)))
theorem wL (xs:List Int) (ys:List Int) (r0:List Int):cP aF uH (rq xs ys) Tryz.f127 [.c (.fn 129 [] [(0,0),(1,0)])] [.arr 108 .int 65 (xs),.arr 108 .int 65 (ys)] [.c (.fz .int (r0))]=((fun (q1:Nat)=>(fun (q0:Int)=>∃ (s0:Nat),(q0=(↑s0:Int)+q0/\xs=xs/\ys=ys/\fN (c_ xs ys) s0=[])/\s0<=q1/\∀ (s:Nat),(fun (q3:List Int)=>(fun (q2:Int)=>s<=q1->(q2<=(64:Int)->((0:Int)<=q2/\q2<(65:Int))/\(c_ xs ys q2=true->(q3.length+[q2].length)*(8:Nat)<=(140737488355328:Nat)/\I64 (q2+q0)/\∃ (s':Nat),(q2+q0=(↑s':Int)+q0/\xs=xs/\ys=ys/\q3++[q2]=fN (c_ xs ys) s')/\s' <= q1/\q1 - s' < q1 - s)/\(c_ xs ys q2=false->I64 (q2+q0)/\∃ (s':Nat),(q2+q0=(↑s':Int)+q0/\xs=xs/\ys=ys/\q3=fN (c_ xs ys) s')/\s' <= q1/\q1 - s' < q1 - s))/\((64:Int)<q2->q3=r0)) ((↑s:Int)+q0)) (fN (c_ xs ys) s)) (1:Int)) (64:Nat)):=by kernel_rfl
theorem wi (xs:List Int) (ys:List Int):Sat Tryz.prog (au aF) 127 [.c (.fn 129 [] [(0,0),(1,0)])] [.arr 108 .int 65 (xs),.arr 108 .int 65 (ys)] ⟨[],[.c (.fz .int ((fN (c_ xs ys) 64)))],none,false⟩:=by
 refine aQ lM (rq xs ys) Tryz.func127 (by decide) (by kernel_rfl) ?_
 rw [wL]
 (repeat' (first | with_reducible refine And.intro ?_ ?_ | with_reducible refine and_imp.2 ?_ | intro))
 all_goals try (first | (first | with_reducible rfl | with_reducible assumption | omega | (refine al ?_ ?_ <;> omega)) | exact rfl | exact (vP (by with_reducible assumption)) | exact (wR (by with_reducible assumption)) | exact (vo (by omega) (by omega)) | exact (jY (by omega)) | exact (And.intro (by omega) (by omega)))
 all_goals try (refine ⟨0,?_⟩; (repeat' (first | with_reducible refine And.intro ?_ ?_ | with_reducible refine and_imp.2 ?_ | intro)))
 all_goals try (first | (first | with_reducible rfl | with_reducible assumption | omega | (refine al ?_ ?_ <;> omega)) | exact rfl | exact (vP (by with_reducible assumption)) | exact (wR (by with_reducible assumption)) | exact (vo (by omega) (by omega)) | exact (jY (by omega)) | exact (And.intro (by omega) (by omega)))
 all_goals try (refine ⟨‹Nat› + 1,?_⟩; (repeat' (first | with_reducible refine And.intro ?_ ?_ | with_reducible refine and_imp.2 ?_ | intro)))
 all_goals (first | (first | with_reducible rfl | with_reducible assumption | omega | (refine al ?_ ?_ <;> omega)) | exact rfl | exact (vP (by with_reducible assumption)) | exact (wR (by with_reducible assumption)) | exact (vo (by omega) (by omega)) | exact (jY (by omega)) | exact (And.intro (by omega) (by omega)))
def uF:cw:=(bS 127 (bL (ai (kC (mY 129 [] [(0,0),(1,0)])) aO) (ay (pB 108 .int 65) (ay (pB 108 .int 65) aN)) fun (_,_) (xs,ys,_)=>⟨[],[.c (.fz .int ((fN (c_ xs ys) 64)))],none,false⟩) (bS 127 (bL (ai (kC (mY 128 [] [(0,0)])) aO) (ay (pB 108 .int 65) aN) fun (_,_) (xs,_)=>⟨[],[.c (.fz .int ((fN (df xs) 64)))],none,false⟩) uH))
theorem lW:aT Tryz.prog (au aF) uF:=(aA (az (ab (av cm) ao) (ag fl (ag fl aq)) fun (_,_) (xs,ys,_) _=>wi xs ys ) (aA (az (ab (av cm) ao) (ag fl aq) fun (_,_) (xs,_) _=>wM xs ) lM))
end Go.Proofs.YtdggohppeeaipaaGreat
namespace Go.Proofs.YtdggohppeeaipaaGreat
open Go.RowKit
theorem Ej (xs:List Int) (r0:List Int):cP aF uF [] Tryz.f96 [.agg (jA .int (xs) 0 65)] [] [.c (.fz .int (r0))]=((fun (q1:List Int)=>(fun (q0:den Sh.int)=>I64 (xs.getD (0:Nat) q0)->I64 (xs.getD (1:Nat) q0)->I64 (xs.getD (2:Nat) q0)->I64 (xs.getD (3:Nat) q0)->I64 (xs.getD (4:Nat) q0)->I64 (xs.getD (5:Nat) q0)->I64 (xs.getD (6:Nat) q0)->I64 (xs.getD (7:Nat) q0)->I64 (xs.getD (8:Nat) q0)->I64 (xs.getD (9:Nat) q0)->I64 (xs.getD (10:Nat) q0)->I64 (xs.getD (11:Nat) q0)->I64 (xs.getD (12:Nat) q0)->I64 (xs.getD (13:Nat) q0)->I64 (xs.getD (14:Nat) q0)->I64 (xs.getD (15:Nat) q0)->I64 (xs.getD (16:Nat) q0)->I64 (xs.getD (17:Nat) q0)->I64 (xs.getD (18:Nat) q0)->I64 (xs.getD (19:Nat) q0)->I64 (xs.getD (20:Nat) q0)->I64 (xs.getD (21:Nat) q0)->I64 (xs.getD (22:Nat) q0)->I64 (xs.getD (23:Nat) q0)->I64 (xs.getD (24:Nat) q0)->I64 (xs.getD (25:Nat) q0)->I64 (xs.getD (26:Nat) q0)->I64 (xs.getD (27:Nat) q0)->I64 (xs.getD (28:Nat) q0)->I64 (xs.getD (29:Nat) q0)->I64 (xs.getD (30:Nat) q0)->I64 (xs.getD (31:Nat) q0)->I64 (xs.getD (32:Nat) q0)->I64 (xs.getD (33:Nat) q0)->I64 (xs.getD (34:Nat) q0)->I64 (xs.getD (35:Nat) q0)->I64 (xs.getD (36:Nat) q0)->I64 (xs.getD (37:Nat) q0)->I64 (xs.getD (38:Nat) q0)->I64 (xs.getD (39:Nat) q0)->I64 (xs.getD (40:Nat) q0)->I64 (xs.getD (41:Nat) q0)->I64 (xs.getD (42:Nat) q0)->I64 (xs.getD (43:Nat) q0)->I64 (xs.getD (44:Nat) q0)->I64 (xs.getD (45:Nat) q0)->I64 (xs.getD (46:Nat) q0)->I64 (xs.getD (47:Nat) q0)->I64 (xs.getD (48:Nat) q0)->I64 (xs.getD (49:Nat) q0)->I64 (xs.getD (50:Nat) q0)->I64 (xs.getD (51:Nat) q0)->I64 (xs.getD (52:Nat) q0)->I64 (xs.getD (53:Nat) q0)->I64 (xs.getD (54:Nat) q0)->I64 (xs.getD (55:Nat) q0)->I64 (xs.getD (56:Nat) q0)->I64 (xs.getD (57:Nat) q0)->I64 (xs.getD (58:Nat) q0)->I64 (xs.getD (59:Nat) q0)->I64 (xs.getD (60:Nat) q0)->I64 (xs.getD (61:Nat) q0)->I64 (xs.getD (62:Nat) q0)->I64 (xs.getD (63:Nat) q0)->I64 (xs.getD (64:Nat) q0)->q1.length*(8:Nat)<=(140737488355328:Nat)->q1=r0) (dflt Sh.int)) (fN (df (lL Sh.int xs (0:Nat) (65:Nat))) (64:Nat))):=by kernel_rfl
theorem Fx (xs:List Int) (h0:xs.length=65):Sat Tryz.prog (au aF) 96 [.agg (jA .int (xs) 0 65)] [] ⟨[xs.length=65],[.c (.fz .int ((fN (df xs) 64)))],none,false⟩:=by
 refine aQ lW [] Tryz.func96 (by decide) (by kernel_rfl) ?_
 rw [Ej]
 (repeat' (first | with_reducible refine And.intro ?_ ?_ | with_reducible refine and_imp.2 ?_ | intro))
 all_goals (first | (first | with_reducible rfl | with_reducible assumption | omega | (refine al ?_ ?_ <;> omega)) | exact (by rw [dZ h0]) | exact (by rw [dZ h0]; assumption))
theorem zu (l:List Snap) (id:Int) (r0:List Int):cP aF uF [] Tryz.f99 [.c (.fz (.nm .snap) (l)),.c (.int (id))] [] [.c (.fz .int (r0))]=((fun (q3:Nat)=>(fun (q2:List Int)=>(fun (q1:den Sh.int)=>(fun (q0:List Int)=>l.length*(64:Nat)<=(140737488355328:Nat)->I64 id->nch l<=(1048576:Nat)/\(I64 (q2.getD q3 q1)->I64 (q2.getD (1:Nat) q1)->I64 (q2.getD (2:Nat) q1)->I64 (q2.getD (3:Nat) q1)->I64 (q2.getD (4:Nat) q1)->I64 (q2.getD (5:Nat) q1)->I64 (q2.getD (6:Nat) q1)->I64 (q2.getD (7:Nat) q1)->I64 (q2.getD (8:Nat) q1)->I64 (q2.getD (9:Nat) q1)->I64 (q2.getD (10:Nat) q1)->I64 (q2.getD (11:Nat) q1)->I64 (q2.getD (12:Nat) q1)->I64 (q2.getD (13:Nat) q1)->I64 (q2.getD (14:Nat) q1)->I64 (q2.getD (15:Nat) q1)->I64 (q2.getD (16:Nat) q1)->I64 (q2.getD (17:Nat) q1)->I64 (q2.getD (18:Nat) q1)->I64 (q2.getD (19:Nat) q1)->I64 (q2.getD (20:Nat) q1)->I64 (q2.getD (21:Nat) q1)->I64 (q2.getD (22:Nat) q1)->I64 (q2.getD (23:Nat) q1)->I64 (q2.getD (24:Nat) q1)->I64 (q2.getD (25:Nat) q1)->I64 (q2.getD (26:Nat) q1)->I64 (q2.getD (27:Nat) q1)->I64 (q2.getD (28:Nat) q1)->I64 (q2.getD (29:Nat) q1)->I64 (q2.getD (30:Nat) q1)->I64 (q2.getD (31:Nat) q1)->I64 (q2.getD (32:Nat) q1)->I64 (q2.getD (33:Nat) q1)->I64 (q2.getD (34:Nat) q1)->I64 (q2.getD (35:Nat) q1)->I64 (q2.getD (36:Nat) q1)->I64 (q2.getD (37:Nat) q1)->I64 (q2.getD (38:Nat) q1)->I64 (q2.getD (39:Nat) q1)->I64 (q2.getD (40:Nat) q1)->I64 (q2.getD (41:Nat) q1)->I64 (q2.getD (42:Nat) q1)->I64 (q2.getD (43:Nat) q1)->I64 (q2.getD (44:Nat) q1)->I64 (q2.getD (45:Nat) q1)->I64 (q2.getD (46:Nat) q1)->I64 (q2.getD (47:Nat) q1)->I64 (q2.getD (48:Nat) q1)->I64 (q2.getD (49:Nat) q1)->I64 (q2.getD (50:Nat) q1)->I64 (q2.getD (51:Nat) q1)->I64 (q2.getD (52:Nat) q1)->I64 (q2.getD (53:Nat) q1)->I64 (q2.getD (54:Nat) q1)->I64 (q2.getD (55:Nat) q1)->I64 (q2.getD (56:Nat) q1)->I64 (q2.getD (57:Nat) q1)->I64 (q2.getD (58:Nat) q1)->I64 (q2.getD (59:Nat) q1)->I64 (q2.getD (60:Nat) q1)->I64 (q2.getD (61:Nat) q1)->I64 (q2.getD (62:Nat) q1)->I64 (q2.getD (63:Nat) q1)->I64 (q2.getD (64:Nat) q1)->nch (aX id l)<=(1048576:Nat)/\(I64 (q0.getD q3 q1)->I64 (q0.getD (1:Nat) q1)->I64 (q0.getD (2:Nat) q1)->I64 (q0.getD (3:Nat) q1)->I64 (q0.getD (4:Nat) q1)->I64 (q0.getD (5:Nat) q1)->I64 (q0.getD (6:Nat) q1)->I64 (q0.getD (7:Nat) q1)->I64 (q0.getD (8:Nat) q1)->I64 (q0.getD (9:Nat) q1)->I64 (q0.getD (10:Nat) q1)->I64 (q0.getD (11:Nat) q1)->I64 (q0.getD (12:Nat) q1)->I64 (q0.getD (13:Nat) q1)->I64 (q0.getD (14:Nat) q1)->I64 (q0.getD (15:Nat) q1)->I64 (q0.getD (16:Nat) q1)->I64 (q0.getD (17:Nat) q1)->I64 (q0.getD (18:Nat) q1)->I64 (q0.getD (19:Nat) q1)->I64 (q0.getD (20:Nat) q1)->I64 (q0.getD (21:Nat) q1)->I64 (q0.getD (22:Nat) q1)->I64 (q0.getD (23:Nat) q1)->I64 (q0.getD (24:Nat) q1)->I64 (q0.getD (25:Nat) q1)->I64 (q0.getD (26:Nat) q1)->I64 (q0.getD (27:Nat) q1)->I64 (q0.getD (28:Nat) q1)->I64 (q0.getD (29:Nat) q1)->I64 (q0.getD (30:Nat) q1)->I64 (q0.getD (31:Nat) q1)->I64 (q0.getD (32:Nat) q1)->I64 (q0.getD (33:Nat) q1)->I64 (q0.getD (34:Nat) q1)->I64 (q0.getD (35:Nat) q1)->I64 (q0.getD (36:Nat) q1)->I64 (q0.getD (37:Nat) q1)->I64 (q0.getD (38:Nat) q1)->I64 (q0.getD (39:Nat) q1)->I64 (q0.getD (40:Nat) q1)->I64 (q0.getD (41:Nat) q1)->I64 (q0.getD (42:Nat) q1)->I64 (q0.getD (43:Nat) q1)->I64 (q0.getD (44:Nat) q1)->I64 (q0.getD (45:Nat) q1)->I64 (q0.getD (46:Nat) q1)->I64 (q0.getD (47:Nat) q1)->I64 (q0.getD (48:Nat) q1)->I64 (q0.getD (49:Nat) q1)->I64 (q0.getD (50:Nat) q1)->I64 (q0.getD (51:Nat) q1)->I64 (q0.getD (52:Nat) q1)->I64 (q0.getD (53:Nat) q1)->I64 (q0.getD (54:Nat) q1)->I64 (q0.getD (55:Nat) q1)->I64 (q0.getD (56:Nat) q1)->I64 (q0.getD (57:Nat) q1)->I64 (q0.getD (58:Nat) q1)->I64 (q0.getD (59:Nat) q1)->I64 (q0.getD (60:Nat) q1)->I64 (q0.getD (61:Nat) q1)->I64 (q0.getD (62:Nat) q1)->I64 (q0.getD (63:Nat) q1)->I64 (q0.getD (64:Nat) q1)->(fN (c_ (lL Sh.int q2 q3 (65:Nat)) (lL Sh.int q0 q3 (65:Nat))) (64:Nat)).length*(8:Nat)<=(140737488355328:Nat)->fN (c_ (lL Sh.int q2 q3 (65:Nat)) (lL Sh.int q0 q3 (65:Nat))) (64:Nat)=r0))) (bB (aX id l))) (dflt Sh.int)) (bB l)) (0:Nat)):=by kernel_rfl
theorem AY (l:List Snap) (id:Int) (h0:nch l<=1048576):Sat Tryz.prog (au aF) 99 [.c (.fz (.nm .snap) (l)),.c (.int (id))] [] ⟨[nch l<=1048576],[.c (.fz .int ((ft l id)))],none,false⟩:=by
 refine aQ lW [] Tryz.func99 (by decide) (by kernel_rfl) ?_
 rw [zu]
 (repeat' (first | with_reducible refine And.intro ?_ ?_ | with_reducible refine and_imp.2 ?_ | intro))
 all_goals (first | (first | with_reducible rfl | with_reducible assumption | omega | (refine al ?_ ?_ <;> omega)) | exact (Eu (by assumption)) | exact (by rw [dZ (dQ _),dZ (dQ _)]; exact xv _ _ _ rfl))
def uI:cw:=(bS 99 (bL (ai (kC (cL (.nm .snap))) (ai (kC cI) aO)) aN fun (l,id,_) (_)=>⟨[nch l<=1048576],[.c (.fz .int ((ft l id)))],none,false⟩) (bS 96 (bL (ai (kA .int 65) aO) aN fun (xs,_) (_)=>⟨[xs.length=65],[.c (.fz .int ((fN (df xs) 64)))],none,false⟩) uF))
theorem mE:aT Tryz.prog (au aF) uI:=(aA (az (ab (av bN) (ab (av ax) ao)) aq fun (l,id,_) (_) hp=>AY l id (fb hp)) (aA (az (ab GN ao) aq fun (xs,_) (_) hp=>Fx xs (fb hp)) lW))
end Go.Proofs.YtdggohppeeaipaaGreat
namespace Go.Proofs.YtdggohppeeaipaaGreat
open Go.RowKit
theorem qO (l:List Snap) (r0:Int):cP aF uI [] Tryz.f54 [.c (.fz (.nm .snap) (l))] [] [.c (.int (r0))]=((fun (q1:den Sh.int)=>(fun (q0:List Int)=>l.length*(64:Nat)<=(140737488355328:Nat)->nch l<=(1048576:Nat)/\(I64 (q0.getD (0:Nat) q1)->I64 (q0.getD (1:Nat) q1)->I64 (q0.getD (2:Nat) q1)->I64 (q0.getD (3:Nat) q1)->I64 (q0.getD (4:Nat) q1)->I64 (q0.getD (5:Nat) q1)->I64 (q0.getD (6:Nat) q1)->I64 (q0.getD (7:Nat) q1)->I64 (q0.getD (8:Nat) q1)->I64 (q0.getD (9:Nat) q1)->I64 (q0.getD (10:Nat) q1)->I64 (q0.getD (11:Nat) q1)->I64 (q0.getD (12:Nat) q1)->I64 (q0.getD (13:Nat) q1)->I64 (q0.getD (14:Nat) q1)->I64 (q0.getD (15:Nat) q1)->I64 (q0.getD (16:Nat) q1)->I64 (q0.getD (17:Nat) q1)->I64 (q0.getD (18:Nat) q1)->I64 (q0.getD (19:Nat) q1)->I64 (q0.getD (20:Nat) q1)->I64 (q0.getD (21:Nat) q1)->I64 (q0.getD (22:Nat) q1)->I64 (q0.getD (23:Nat) q1)->I64 (q0.getD (24:Nat) q1)->I64 (q0.getD (25:Nat) q1)->I64 (q0.getD (26:Nat) q1)->I64 (q0.getD (27:Nat) q1)->I64 (q0.getD (28:Nat) q1)->I64 (q0.getD (29:Nat) q1)->I64 (q0.getD (30:Nat) q1)->I64 (q0.getD (31:Nat) q1)->I64 (q0.getD (32:Nat) q1)->I64 (q0.getD (33:Nat) q1)->I64 (q0.getD (34:Nat) q1)->I64 (q0.getD (35:Nat) q1)->I64 (q0.getD (36:Nat) q1)->I64 (q0.getD (37:Nat) q1)->I64 (q0.getD (38:Nat) q1)->I64 (q0.getD (39:Nat) q1)->I64 (q0.getD (40:Nat) q1)->I64 (q0.getD (41:Nat) q1)->I64 (q0.getD (42:Nat) q1)->I64 (q0.getD (43:Nat) q1)->I64 (q0.getD (44:Nat) q1)->I64 (q0.getD (45:Nat) q1)->I64 (q0.getD (46:Nat) q1)->I64 (q0.getD (47:Nat) q1)->I64 (q0.getD (48:Nat) q1)->I64 (q0.getD (49:Nat) q1)->I64 (q0.getD (50:Nat) q1)->I64 (q0.getD (51:Nat) q1)->I64 (q0.getD (52:Nat) q1)->I64 (q0.getD (53:Nat) q1)->I64 (q0.getD (54:Nat) q1)->I64 (q0.getD (55:Nat) q1)->I64 (q0.getD (56:Nat) q1)->I64 (q0.getD (57:Nat) q1)->I64 (q0.getD (58:Nat) q1)->I64 (q0.getD (59:Nat) q1)->I64 (q0.getD (60:Nat) q1)->I64 (q0.getD (61:Nat) q1)->I64 (q0.getD (62:Nat) q1)->I64 (q0.getD (63:Nat) q1)->I64 (q0.getD (64:Nat) q1)->(lL Sh.int q0 (0:Nat) (65:Nat)).length=(65:Nat)/\((fN (df (lL Sh.int q0 (0:Nat) (65:Nat))) (64:Nat)).length*(8:Nat)<=(140737488355328:Nat)->(↑(fN (df (lL Sh.int q0 (0:Nat) (65:Nat))) (64:Nat)).length:Int)=r0))) (bB l)) (dflt Sh.int)):=by kernel_rfl
theorem qa (l:List Snap) (h0:nch l<=1048576):Sat Tryz.prog (au aF) 54 [.c (.fz (.nm .snap) (l))] [] ⟨[nch l<=1048576],[.c (.int (((distF l:Int))))],none,false⟩:=by
 refine aQ mE [] Tryz.func54 (by decide) (by kernel_rfl) ?_
 rw [qO]
 (repeat' (first | with_reducible refine And.intro ?_ ?_ | with_reducible refine and_imp.2 ?_ | intro))
 all_goals (first | (first | with_reducible rfl | with_reducible assumption | omega | (refine al ?_ ?_ <;> omega)) | exact (kW 65 0) | exact (by rw [dZ (dQ _)]; exact uU _))
theorem CF (l:List Snap) (m:List Int) (r0:Int):cP aF uI [] Tryz.f94 [.c (.fz (.nm .snap) (l)),.c (.fz .int (m))] [] [.c (.int (r0))]=((fun (q3:Nat)=>(fun (q2:Nat)=>(fun (q1:den Sh.int)=>(fun (q0:List Int)=>l.length*(64:Nat)<=(140737488355328:Nat)->m.length*(8:Nat)<=(140737488355328:Nat)->nch l<=(1048576:Nat)/\(I64 (q0.getD q2 q1)->I64 (q0.getD (1:Nat) q1)->I64 (q0.getD (2:Nat) q1)->I64 (q0.getD (3:Nat) q1)->I64 (q0.getD (4:Nat) q1)->I64 (q0.getD (5:Nat) q1)->I64 (q0.getD (6:Nat) q1)->I64 (q0.getD (7:Nat) q1)->I64 (q0.getD (8:Nat) q1)->I64 (q0.getD (9:Nat) q1)->I64 (q0.getD (10:Nat) q1)->I64 (q0.getD (11:Nat) q1)->I64 (q0.getD (12:Nat) q1)->I64 (q0.getD (13:Nat) q1)->I64 (q0.getD (14:Nat) q1)->I64 (q0.getD (15:Nat) q1)->I64 (q0.getD (16:Nat) q1)->I64 (q0.getD (17:Nat) q1)->I64 (q0.getD (18:Nat) q1)->I64 (q0.getD (19:Nat) q1)->I64 (q0.getD (20:Nat) q1)->I64 (q0.getD (21:Nat) q1)->I64 (q0.getD (22:Nat) q1)->I64 (q0.getD (23:Nat) q1)->I64 (q0.getD (24:Nat) q1)->I64 (q0.getD (25:Nat) q1)->I64 (q0.getD (26:Nat) q1)->I64 (q0.getD (27:Nat) q1)->I64 (q0.getD (28:Nat) q1)->I64 (q0.getD (29:Nat) q1)->I64 (q0.getD (30:Nat) q1)->I64 (q0.getD (31:Nat) q1)->I64 (q0.getD (32:Nat) q1)->I64 (q0.getD (33:Nat) q1)->I64 (q0.getD (34:Nat) q1)->I64 (q0.getD (35:Nat) q1)->I64 (q0.getD (36:Nat) q1)->I64 (q0.getD (37:Nat) q1)->I64 (q0.getD (38:Nat) q1)->I64 (q0.getD (39:Nat) q1)->I64 (q0.getD (40:Nat) q1)->I64 (q0.getD (41:Nat) q1)->I64 (q0.getD (42:Nat) q1)->I64 (q0.getD (43:Nat) q1)->I64 (q0.getD (44:Nat) q1)->I64 (q0.getD (45:Nat) q1)->I64 (q0.getD (46:Nat) q1)->I64 (q0.getD (47:Nat) q1)->I64 (q0.getD (48:Nat) q1)->I64 (q0.getD (49:Nat) q1)->I64 (q0.getD (50:Nat) q1)->I64 (q0.getD (51:Nat) q1)->I64 (q0.getD (52:Nat) q1)->I64 (q0.getD (53:Nat) q1)->I64 (q0.getD (54:Nat) q1)->I64 (q0.getD (55:Nat) q1)->I64 (q0.getD (56:Nat) q1)->I64 (q0.getD (57:Nat) q1)->I64 (q0.getD (58:Nat) q1)->I64 (q0.getD (59:Nat) q1)->I64 (q0.getD (60:Nat) q1)->I64 (q0.getD (61:Nat) q1)->I64 (q0.getD (62:Nat) q1)->I64 (q0.getD (63:Nat) q1)->I64 (q0.getD (64:Nat) q1)->(∀ (i:Nat),(fun (q4:Int)=>(0:Int)<=q4/\q4+(↑m.length:Int)<=(4611686018427387904:Int)) ((lL Sh.int q0 q2 q3).getD i (0:Int)))/\(lL Sh.int (cA (lL Sh.int q0 q2 q3) m) q2 q3).length=q3/\((fN (df (lL Sh.int (cA (lL Sh.int q0 q2 q3) m) q2 q3)) (64:Nat)).length*(8:Nat)<=(140737488355328:Nat)->(↑(fN (df (lL Sh.int (cA (lL Sh.int q0 q2 q3) m) q2 q3)) (64:Nat)).length:Int)=r0))) (bB l)) (dflt Sh.int)) (0:Nat)) (65:Nat)):=by kernel_rfl
theorem Cn (l:List Snap) (m:List Int) (h0:nch l<=1048576):Sat Tryz.prog (au aF) 94 [.c (.fz (.nm .snap) (l)),.c (.fz .int (m))] [] ⟨[nch l<=1048576],[.c (.int (((distF (l++[⟨0,0,m,false,⟨[]⟩⟩]):Int))))],none,false⟩:=by
 refine aQ mE [] Tryz.func94 (by decide) (by kernel_rfl) ?_
 rw [CF]
 (repeat' (first | with_reducible refine And.intro ?_ ?_ | with_reducible refine and_imp.2 ?_ | intro))
 all_goals (first | (first | with_reducible rfl | with_reducible assumption | omega | (refine al ?_ ?_ <;> omega)) | exact (kW 65 0) | exact (uo (s:=.int) (by assumption) (by assumption) _).1 | exact (uo (s:=.int) (by assumption) (by assumption) _).2 | exact (by rw [dZ (s:=.int) (xs:=cA _ _) (by rw [mH,kW]),dZ (dQ l)]; have:=uU (l++[Snap.mk 0 0 m false ⟨[]⟩]); rw [gf] at this; exact this))
def ja:cw:=(bS 94 (bL (ai (kC (cL (.nm .snap))) (ai (kC (cL .int)) aO)) aN fun (l,m,_) (_)=>⟨[nch l<=1048576],[.c (.int (((distF (l++[⟨0,0,m,false,⟨[]⟩⟩]):Int))))],none,false⟩) (bS 54 (bL (ai (kC (cL (.nm .snap))) aO) aN fun (l,_) (_)=>⟨[nch l<=1048576],[.c (.int (((distF l:Int))))],none,false⟩) uI))
theorem dL:aT Tryz.prog (au aF) ja:=(aA (az (ab (av bN) (ab (av bN) ao)) aq fun (l,m,_) (_) hp=>Cn l m (fb hp)) (aA (az (ab (av bN) ao) aq fun (l,_) (_) hp=>qa l (fb hp)) mE))
end Go.Proofs.YtdggohppeeaipaaGreat
namespace Go.Proofs.YtdggohppeeaipaaGreat
open Go.RowKit
def fB {α:Type} (l:List α) (i:Nat) (x:α):List α:=l.take i++x :: l.drop i
def wo {α:Type} (l:List α) (i:Int):List α:=l.take i.toNat++l.drop (i+1).toNat
def bh (s:State) (c:Command):Int:=if 0<=ah Opn.set c.set s.opens/\¬ (s.opens.getD (ah Opn.set c.set s.opens).toNat (dflt (.nm .opn))).client=c.client then -1 else ah Opn.set c.set s.opens
def aS (s:State) (c:Command):State × Reply:=if 0<=ah Opn.set c.set s.opens then (s,⟨16,(s.opens.getD (ah Opn.set c.set s.opens).toNat (dflt (.nm .opn))).client⟩)
 else ({ s with opens:=fB s.opens (s.opens.takeWhile fun y=>decide (y.set<c.set)).length ⟨c.set,c.client⟩ },⟨0,0⟩)
def aU (s:State) (c:Command):State × Reply:=if bh s c<0 then (s,⟨15,0⟩) else ({ s with opens:=wo s.opens (bh s c) },⟨0,0⟩)
def aM (s:State) (c:Command):State × Reply:=
 if bh s c<0 then (s,⟨15,0⟩)
 else if 16<=(s.snaps.length:Int)\/1048576<=s.next then (s,⟨20,0⟩)
 else if ¬ s.quota=0/\s.quota<(distF (s.snaps++[⟨0,0,c.chunks,false,⟨[]⟩⟩]):Int) then (s,⟨19,0⟩)
 else ({ s with next:=s.next+1,opens:=wo s.opens (bh s c),snaps:=s.snaps++[⟨s.next,c.set,c.chunks,false,⟨[]⟩⟩] },⟨0,s.next⟩)
def aK (s:State) (at_:Nat):State × Reply:=
 if (s.snaps.getD at_ (dflt (.nm .snap))).held=true then (s,⟨17,0⟩)
 else if fZ s at_=true then (s,⟨18,0⟩)
 else ({ s with snaps:=aX (s.snaps.getD at_ (dflt (.nm .snap))).id s.snaps },⟨0,(ft s.snaps (s.snaps.getD at_ (dflt (.nm .snap))).id).length⟩)
def bb (s:State) (at_:Nat):State × Reply:=(s,⟨0,(s.snaps.getD at_ (dflt (.nm .snap))).chunks.length⟩)
def bj (b:Bool) (s:State) (at_:Nat):State × Reply:=
 if (s.snaps.getD at_ (dflt (.nm .snap))).held=b then (s,⟨0,0⟩)
 else ({ s with snaps:=s.snaps.set at_ { s.snaps.getD at_ (dflt (.nm .snap)) with held:=b } },⟨0,1⟩)
def cz (c:Command) (s:State) (at_:Nat):State × Reply:=({ s with snaps:=s.snaps.set at_ { s.snaps.getD at_ (dflt (.nm .snap)) with tag:=c.text } },⟨0,0⟩)
def cT (c:Command) (s:State):State × Reply:=({ s with keep:=c.n },⟨0,0⟩)
def cq (c:Command) (s:State):State × Reply:=({ s with quota:=c.n },⟨0,distF s.snaps⟩)
theorem bD {α:Type} {key:α->Int} {want:Int} {l:List α} (h:0<=ah key want l):ah key want l<(l.length:Int):=by
 unfold ah at *
 split
 ·rename_i i hi
  have:=(List.findIdx?_eq_some_iff_getElem.1 hi).1
  omega
 ·omega
theorem ya {s:State} {c:Command} (h:0<=bh s c):bh s c+1<=(s.opens.length:Int):=by
 unfold bh at *
 split
 ·rename_i h1; rw [if_pos h1] at h; omega
 ·rename_i h1; rw [if_neg h1] at h
  have:=bD h
  omega
theorem vR (i:Int) (m:List Opn) (l:List Opn) (h0:0<=i/\i<=(l.length:Int)) (h1:l.length<1048576) (h2:m.length=1):Sat Tryz.prog (au aF) 92 [.c (.own 0),.c (.int (i)),.c (.fz (.nm .opn) (m))] [.row 77 (.nm .opn) (l)] ⟨[0<=i/\i<=(l.length:Int),l.length<1048576,m.length=1],[.c (.own 0)],some ([.row 77 (.nm .opn) ((l.take i.toNat++m++l.drop i.toNat))]),false⟩:=oK i l m h0 h1 h2
theorem th (i:Int) (l:List Sess) (m:List Sess) (h0:0<=i/\i<=(l.length:Int)) (h1:l.length<1048576) (h2:m.length=1):Sat Tryz.prog (au aF) 36 [.c (.own 0),.c (.int (i)),.c (.own 1)] [.row 44 (.nm .sess) (l),.row 44 (.nm .sess) (m)] ⟨[0<=i/\i<=(l.length:Int),l.length<1048576,m.length=1],[.c (.own 0)],some ([.row 44 (.nm .sess) ((l.take i.toNat++m++l.drop i.toNat)),.row 44 (.nm .sess) ((m))]),false⟩:=oJ i l m h0 h1 h2
theorem vB (i:Int) (j:Int) (l:List Opn) (h0:0<=i/\i<(l.length:Int)/\j=i+1):Sat Tryz.prog (au aF) 95 [.c (.own 0),.c (.int (i)),.c (.int (j))] [.row 77 (.nm .opn) (l)] ⟨[0<=i/\i<(l.length:Int)/\j=i+1],[.c (.own 0)],some ([.row 77 (.nm .opn) ((l.take i.toNat++l.drop j.toNat))]),false⟩:=ry i j l h0
theorem we (c:Command) (v:Int) (nx:Int) (kp:Int) (qt:Int) (se:List Sess) (op:List Opn) (sn:List Snap) (r0:Int):cP aF ja [] Tryz.f93 [.c (.ptr 0 0),.agg (cellsOf (.nm .command) c)] [.box 26 ([.int (v),.int (nx),.int (kp),.int (qt),.own 1,.own 2,.own 3]),.row 44 (.nm .sess) (se),.row 77 (.nm .opn) (op),.row 59 (.nm .snap) (sn)] [.c (.int (r0))]=((fun (q0:Int)=>I64 c.kind->I64 c.client->I64 c.seq->I64 c.set->I64 c.id->I64 c.n->c.chunks.length*(8:Nat)<=(140737488355328:Nat)->c.text.b.length<=(140737488355328:Nat)->I64 q0->((0:Int)<=q0->(0:Int)<=q0/\q0<(↑op.length:Int))/\(((0:Int)<=q0->I64 (op.getD q0.toNat (dflt (Sh.nm NT.opn))).set/\I64 (op.getD q0.toNat (dflt (Sh.nm NT.opn))).client)->((0:Int)<=q0/\¬(op.getD q0.toNat (dflt (Sh.nm NT.opn))).client=c.client->(-1:Int)=r0)/\(q0<(0:Int)\/(op.getD q0.toNat (dflt (Sh.nm NT.opn))).client=c.client->q0=r0))) (ah Opn.set c.set op)):=by kernel_rfl
theorem wB (c:Command) (v:Int) (nx:Int) (kp:Int) (qt:Int) (se:List Sess) (op:List Opn) (sn:List Snap):Sat Tryz.prog (au aF) 93 [.c (.ptr 0 0),.agg (cellsOf (.nm .command) c)] [.box 26 ([.int (v),.int (nx),.int (kp),.int (qt),.own 1,.own 2,.own 3]),.row 44 (.nm .sess) (se),.row 77 (.nm .opn) (op),.row 59 (.nm .snap) (sn)] ⟨[],[.c (.int ((bh (State.mk v nx kp qt se op sn) c)))],none,false⟩:=by
 refine aQ dL [] Tryz.func93 (by decide) (by kernel_rfl) ?_
 rw [we]
 (repeat' (first | with_reducible refine And.intro ?_ ?_ | with_reducible refine and_imp.2 ?_ | intro))
 all_goals (first | (first | with_reducible rfl | with_reducible assumption | omega | (refine al ?_ ?_ <;> omega)) | exact bD (by with_reducible assumption) | (unfold bh; grind))
theorem FT (c:Command) (v:Int) (nx:Int) (kp:Int) (qt:Int) (se:List Sess) (op:List Opn) (sn:List Snap) (r0:Reply) (r1:Command) (r2:Int) (r3:Int) (r4:Int) (r5:Int) (r6:List Sess) (r7:List Opn) (r8:List Snap):n_ aF ja [] Tryz.f52 [.c (.ptr 0 0),.c (.ptr 1 0)] [.box 29 (cellsOf (.nm .command) (c)),.box 26 ([.int (v),.int (nx),.int (kp),.int (qt),.own 2,.own 3,.own 4]),.row 44 (.nm .sess) (se),.row 77 (.nm .opn) (op),.row 59 (.nm .snap) (sn)] [.agg (cellsOf (.nm .reply) r0)] [.box 29 (cellsOf (.nm .command) (r1)),.box 26 ([.int (r2),.int (r3),.int (r4),.int (r5),.own 2,.own 3,.own 4]),.row 44 (.nm .sess) (r6),.row 77 (.nm .opn) (r7),.row 59 (.nm .snap) (r8)]=((0:Int)=r0.code/\(0:Int)=r0.n/\c.kind=r1.kind/\c.client=r1.client/\c.seq=r1.seq/\c.set=r1.set/\c.id=r1.id/\c.n=r1.n/\c.chunks=r1.chunks/\c.text=r1.text/\v=r2/\nx=r3/\c.n=r4/\qt=r5/\se=r6/\op=r7/\sn=r8):=by kernel_rfl
theorem Fe (c:Command) (v:Int) (nx:Int) (kp:Int) (qt:Int) (se:List Sess) (op:List Opn) (sn:List Snap):Sat Tryz.prog (au aF) 52 [.c (.ptr 0 0),.c (.ptr 1 0)] [.box 29 (cellsOf (.nm .command) (c)),.box 26 ([.int (v),.int (nx),.int (kp),.int (qt),.own 2,.own 3,.own 4]),.row 44 (.nm .sess) (se),.row 77 (.nm .opn) (op),.row 59 (.nm .snap) (sn)] ⟨[],[.agg (cellsOf (.nm .reply) ((cT c (State.mk v nx kp qt se op sn)).2))],some ([.box 29 (cellsOf (.nm .command) ((c))),.box 26 ([.int ((((cT c (State.mk v nx kp qt se op sn)).1).version)),.int ((((cT c (State.mk v nx kp qt se op sn)).1).next)),.int ((((cT c (State.mk v nx kp qt se op sn)).1).keep)),.int ((((cT c (State.mk v nx kp qt se op sn)).1).quota)),.own 2,.own 3,.own 4]),.row 44 (.nm .sess) ((((cT c (State.mk v nx kp qt se op sn)).1).sess)),.row 77 (.nm .opn) ((((cT c (State.mk v nx kp qt se op sn)).1).opens)),.row 59 (.nm .snap) ((((cT c (State.mk v nx kp qt se op sn)).1).snaps))]),false⟩:=by
 refine dt dL [] Tryz.func52 (by decide) (by kernel_rfl) ?_
 rw [FT]
 (repeat' (first | with_reducible refine And.intro ?_ ?_ | with_reducible refine and_imp.2 ?_ | intro))
 all_goals (first | (first | with_reducible rfl | with_reducible assumption | omega | (refine al ?_ ?_ <;> omega)) | exact rfl)
theorem Ex (c:Command) (v:Int) (nx:Int) (kp:Int) (qt:Int) (se:List Sess) (op:List Opn) (sn:List Snap) (r0:Reply) (r1:Command) (r2:Int) (r3:Int) (r4:Int) (r5:Int) (r6:List Sess) (r7:List Opn) (r8:List Snap):n_ aF ja [] Tryz.f53 [.c (.ptr 0 0),.c (.ptr 1 0)] [.box 29 (cellsOf (.nm .command) (c)),.box 26 ([.int (v),.int (nx),.int (kp),.int (qt),.own 2,.own 3,.own 4]),.row 44 (.nm .sess) (se),.row 77 (.nm .opn) (op),.row 59 (.nm .snap) (sn)] [.agg (cellsOf (.nm .reply) r0)] [.box 29 (cellsOf (.nm .command) (r1)),.box 26 ([.int (r2),.int (r3),.int (r4),.int (r5),.own 2,.own 3,.own 4]),.row 44 (.nm .sess) (r6),.row 77 (.nm .opn) (r7),.row 59 (.nm .snap) (r8)]=(nch sn<=(1048576:Nat)/\(I64 (↑(distF sn):Int)->(0:Int)=r0.code/\(↑(distF sn):Int)=r0.n/\c.kind=r1.kind/\c.client=r1.client/\c.seq=r1.seq/\c.set=r1.set/\c.id=r1.id/\c.n=r1.n/\c.chunks=r1.chunks/\c.text=r1.text/\v=r2/\nx=r3/\kp=r4/\c.n=r5/\se=r6/\op=r7/\sn=r8)):=by kernel_rfl
theorem FF (c:Command) (v:Int) (nx:Int) (kp:Int) (qt:Int) (se:List Sess) (op:List Opn) (sn:List Snap) (h0:nch sn<=1048576):Sat Tryz.prog (au aF) 53 [.c (.ptr 0 0),.c (.ptr 1 0)] [.box 29 (cellsOf (.nm .command) (c)),.box 26 ([.int (v),.int (nx),.int (kp),.int (qt),.own 2,.own 3,.own 4]),.row 44 (.nm .sess) (se),.row 77 (.nm .opn) (op),.row 59 (.nm .snap) (sn)] ⟨[nch sn<=1048576],[.agg (cellsOf (.nm .reply) ((cq c (State.mk v nx kp qt se op sn)).2))],some ([.box 29 (cellsOf (.nm .command) ((c))),.box 26 ([.int ((((cq c (State.mk v nx kp qt se op sn)).1).version)),.int ((((cq c (State.mk v nx kp qt se op sn)).1).next)),.int ((((cq c (State.mk v nx kp qt se op sn)).1).keep)),.int ((((cq c (State.mk v nx kp qt se op sn)).1).quota)),.own 2,.own 3,.own 4]),.row 44 (.nm .sess) ((((cq c (State.mk v nx kp qt se op sn)).1).sess)),.row 77 (.nm .opn) ((((cq c (State.mk v nx kp qt se op sn)).1).opens)),.row 59 (.nm .snap) ((((cq c (State.mk v nx kp qt se op sn)).1).snaps))]),false⟩:=by
 refine dt dL [] Tryz.func53 (by decide) (by kernel_rfl) ?_
 rw [Ex]
 (repeat' (first | with_reducible refine And.intro ?_ ?_ | with_reducible refine and_imp.2 ?_ | intro))
 all_goals (first | (first | with_reducible rfl | with_reducible assumption | omega | (refine al ?_ ?_ <;> omega)) | exact rfl)
theorem CE (i:Int) (v:Int) (nx:Int) (kp:Int) (qt:Int) (se:List Sess) (op:List Opn) (sn:List Snap) (r0:Reply) (r1:Int) (r2:Int) (r3:Int) (r4:Int) (r5:List Sess) (r6:List Opn) (r7:List Snap):n_ aF ja [] Tryz.f56 [.c (.ptr 0 0),.c (.int (i))] [.box 26 ([.int (v),.int (nx),.int (kp),.int (qt),.own 1,.own 2,.own 3]),.row 44 (.nm .sess) (se),.row 77 (.nm .opn) (op),.row 59 (.nm .snap) (sn)] [.agg (cellsOf (.nm .reply) r0)] [.box 26 ([.int (r1),.int (r2),.int (r3),.int (r4),.own 1,.own 2,.own 3]),.row 44 (.nm .sess) (r5),.row 77 (.nm .opn) (r6),.row 59 (.nm .snap) (r7)]=((fun (q2:Bool)=>(fun (q1:Prop)=>(fun (q0:den (Sh.nm NT.snap))=>I64 i->(0:Int)<=i/\i<(↑sn.length:Int)/\(I64 q0.id->I64 q0.set->q0.chunks.length*(8:Nat)<=(140737488355328:Nat)->q0.tag.b.length<=(140737488355328:Nat)->(q0.held=true->I64 (17:Int)->I64 (0:Int)->(17:Int)=r0.code/\q1)/\(q0.held=false->(q2=true->I64 (18:Int)->I64 (0:Int)->(18:Int)=r0.code/\q1)/\(q2=false->nch sn<=(1048576:Nat)/\((ft sn q0.id).length*(8:Nat)<=(140737488355328:Nat)->(0:Int)=r0.code/\(↑(ft sn q0.id).length:Int)=r0.n/\v=r1/\nx=r2/\kp=r3/\qt=r4/\se=r5/\op=r6/\aX q0.id sn=r7))))) (sn.getD i.toNat (dflt (Sh.nm NT.snap)))) ((0:Int)=r0.n/\v=r1/\nx=r2/\kp=r3/\qt=r4/\se=r5/\op=r6/\sn=r7)) (fZ (State.mk v nx kp qt se op sn) i)):=by kernel_rfl
theorem CW (i:Int) (v:Int) (nx:Int) (kp:Int) (qt:Int) (se:List Sess) (op:List Opn) (sn:List Snap) (h0:0<=i/\i<(sn.length:Int)) (h1:nch sn<=1048576):Sat Tryz.prog (au aF) 56 [.c (.ptr 0 0),.c (.int (i))] [.box 26 ([.int (v),.int (nx),.int (kp),.int (qt),.own 1,.own 2,.own 3]),.row 44 (.nm .sess) (se),.row 77 (.nm .opn) (op),.row 59 (.nm .snap) (sn)] ⟨[0<=i/\i<(sn.length:Int),nch sn<=1048576],[.agg (cellsOf (.nm .reply) ((aK (State.mk v nx kp qt se op sn) i.toNat).2))],some ([.box 26 ([.int ((((aK (State.mk v nx kp qt se op sn) i.toNat).1).version)),.int ((((aK (State.mk v nx kp qt se op sn) i.toNat).1).next)),.int ((((aK (State.mk v nx kp qt se op sn) i.toNat).1).keep)),.int ((((aK (State.mk v nx kp qt se op sn) i.toNat).1).quota)),.own 1,.own 2,.own 3]),.row 44 (.nm .sess) ((((aK (State.mk v nx kp qt se op sn) i.toNat).1).sess)),.row 77 (.nm .opn) ((((aK (State.mk v nx kp qt se op sn) i.toNat).1).opens)),.row 59 (.nm .snap) ((((aK (State.mk v nx kp qt se op sn) i.toNat).1).snaps))]),false⟩:=by
 refine dt dL [] Tryz.func56 (by decide) (by kernel_rfl) ?_
 rw [CE]
 have hi:((i.toNat:Nat):Int)=i:=by omega
 (repeat' (first | with_reducible refine And.intro ?_ ?_ | with_reducible refine and_imp.2 ?_ | intro))
 all_goals (first | (first | with_reducible rfl | with_reducible assumption | omega | (refine al ?_ ?_ <;> omega)) | ((simp only [aK,hi]; simp_all) <;> (intros; omega)) | (simp only [aK,hi]; grind))
theorem FQ (i:Int) (v:Int) (nx:Int) (kp:Int) (qt:Int) (se:List Sess) (op:List Opn) (sn:List Snap) (r0:Reply) (r1:Int) (r2:Int) (r3:Int) (r4:Int) (r5:List Sess) (r6:List Opn) (r7:List Snap):n_ aF ja [] Tryz.f57 [.c (.int (i)),.c (.ptr 0 0)] [.box 26 ([.int (v),.int (nx),.int (kp),.int (qt),.own 1,.own 2,.own 3]),.row 44 (.nm .sess) (se),.row 77 (.nm .opn) (op),.row 59 (.nm .snap) (sn)] [.agg (cellsOf (.nm .reply) r0)] [.box 26 ([.int (r1),.int (r2),.int (r3),.int (r4),.own 1,.own 2,.own 3]),.row 44 (.nm .sess) (r5),.row 77 (.nm .opn) (r6),.row 59 (.nm .snap) (r7)]=((fun (q0:den (Sh.nm NT.snap))=>I64 i->(0:Int)<=i/\i<(↑sn.length:Int)/\(I64 q0.id->I64 q0.set->q0.chunks.length*(8:Nat)<=(140737488355328:Nat)->q0.tag.b.length<=(140737488355328:Nat)->(0:Int)=r0.code/\(↑q0.chunks.length:Int)=r0.n/\v=r1/\nx=r2/\kp=r3/\qt=r4/\se=r5/\op=r6/\sn=r7)) (sn.getD i.toNat (dflt (Sh.nm NT.snap)))):=by kernel_rfl
theorem EC (i:Int) (v:Int) (nx:Int) (kp:Int) (qt:Int) (se:List Sess) (op:List Opn) (sn:List Snap) (h0:0<=i/\i<(sn.length:Int)):Sat Tryz.prog (au aF) 57 [.c (.int (i)),.c (.ptr 0 0)] [.box 26 ([.int (v),.int (nx),.int (kp),.int (qt),.own 1,.own 2,.own 3]),.row 44 (.nm .sess) (se),.row 77 (.nm .opn) (op),.row 59 (.nm .snap) (sn)] ⟨[0<=i/\i<(sn.length:Int)],[.agg (cellsOf (.nm .reply) ((bb (State.mk v nx kp qt se op sn) i.toNat).2))],some ([.box 26 ([.int ((((bb (State.mk v nx kp qt se op sn) i.toNat).1).version)),.int ((((bb (State.mk v nx kp qt se op sn) i.toNat).1).next)),.int ((((bb (State.mk v nx kp qt se op sn) i.toNat).1).keep)),.int ((((bb (State.mk v nx kp qt se op sn) i.toNat).1).quota)),.own 1,.own 2,.own 3]),.row 44 (.nm .sess) ((((bb (State.mk v nx kp qt se op sn) i.toNat).1).sess)),.row 77 (.nm .opn) ((((bb (State.mk v nx kp qt se op sn) i.toNat).1).opens)),.row 59 (.nm .snap) ((((bb (State.mk v nx kp qt se op sn) i.toNat).1).snaps))]),false⟩:=by
 refine dt dL [] Tryz.func57 (by decide) (by kernel_rfl) ?_
 rw [FQ]
 (repeat' (first | with_reducible refine And.intro ?_ ?_ | with_reducible refine and_imp.2 ?_ | intro))
 all_goals (first | (first | with_reducible rfl | with_reducible assumption | omega | (refine al ?_ ?_ <;> omega)) | rfl)
theorem Bm (i:Int) (c:Command) (v:Int) (nx:Int) (kp:Int) (qt:Int) (se:List Sess) (op:List Opn) (sn:List Snap) (r0:Reply) (r1:Command) (r2:Int) (r3:Int) (r4:Int) (r5:Int) (r6:List Sess) (r7:List Opn) (r8:List Snap):n_ aF ja [] Tryz.f58 [.c (.int (i)),.c (.ptr 0 0),.c (.ptr 1 0)] [.box 29 (cellsOf (.nm .command) (c)),.box 26 ([.int (v),.int (nx),.int (kp),.int (qt),.own 2,.own 3,.own 4]),.row 44 (.nm .sess) (se),.row 77 (.nm .opn) (op),.row 59 (.nm .snap) (sn)] [.agg (cellsOf (.nm .reply) r0)] [.box 29 (cellsOf (.nm .command) (r1)),.box 26 ([.int (r2),.int (r3),.int (r4),.int (r5),.own 2,.own 3,.own 4]),.row 44 (.nm .sess) (r6),.row 77 (.nm .opn) (r7),.row 59 (.nm .snap) (r8)]=((fun (q0:den (Sh.nm NT.snap))=>I64 i->(0:Int)<=i/\i<(↑sn.length:Int)/\(I64 q0.id->I64 q0.set->q0.chunks.length*(8:Nat)<=(140737488355328:Nat)->q0.tag.b.length<=(140737488355328:Nat)->(0:Int)=r0.code/\(0:Int)=r0.n/\c.kind=r1.kind/\c.client=r1.client/\c.seq=r1.seq/\c.set=r1.set/\c.id=r1.id/\c.n=r1.n/\c.chunks=r1.chunks/\c.text=r1.text/\v=r2/\nx=r3/\kp=r4/\qt=r5/\se=r6/\op=r7/\sn.set i.toNat (Snap.mk q0.id q0.set q0.chunks q0.held c.text)=r8)) (sn.getD i.toNat (dflt (Sh.nm NT.snap)))):=by kernel_rfl
theorem BO (i:Int) (c:Command) (v:Int) (nx:Int) (kp:Int) (qt:Int) (se:List Sess) (op:List Opn) (sn:List Snap) (h0:0<=i/\i<(sn.length:Int)):Sat Tryz.prog (au aF) 58 [.c (.int (i)),.c (.ptr 0 0),.c (.ptr 1 0)] [.box 29 (cellsOf (.nm .command) (c)),.box 26 ([.int (v),.int (nx),.int (kp),.int (qt),.own 2,.own 3,.own 4]),.row 44 (.nm .sess) (se),.row 77 (.nm .opn) (op),.row 59 (.nm .snap) (sn)] ⟨[0<=i/\i<(sn.length:Int)],[.agg (cellsOf (.nm .reply) ((cz c (State.mk v nx kp qt se op sn) i.toNat).2))],some ([.box 29 (cellsOf (.nm .command) ((c))),.box 26 ([.int ((((cz c (State.mk v nx kp qt se op sn) i.toNat).1).version)),.int ((((cz c (State.mk v nx kp qt se op sn) i.toNat).1).next)),.int ((((cz c (State.mk v nx kp qt se op sn) i.toNat).1).keep)),.int ((((cz c (State.mk v nx kp qt se op sn) i.toNat).1).quota)),.own 2,.own 3,.own 4]),.row 44 (.nm .sess) ((((cz c (State.mk v nx kp qt se op sn) i.toNat).1).sess)),.row 77 (.nm .opn) ((((cz c (State.mk v nx kp qt se op sn) i.toNat).1).opens)),.row 59 (.nm .snap) ((((cz c (State.mk v nx kp qt se op sn) i.toNat).1).snaps))]),false⟩:=by
 refine dt dL [] Tryz.func58 (by decide) (by kernel_rfl) ?_
 rw [Bm]
 (repeat' (first | with_reducible refine And.intro ?_ ?_ | with_reducible refine and_imp.2 ?_ | intro))
 all_goals (first | (first | with_reducible rfl | with_reducible assumption | omega | (refine al ?_ ?_ <;> omega)) | exact rfl)
theorem yC (i:Int) (v:Int) (nx:Int) (kp:Int) (qt:Int) (se:List Sess) (op:List Opn) (sn:List Snap) (b:Bool) (r0:Reply) (r1:Int) (r2:Int) (r3:Int) (r4:Int) (r5:List Sess) (r6:List Opn) (r7:List Snap) (r8:Bool):n_ aF ja [] Tryz.f45 [.c (.int (i)),.c (.ptr 0 0),.c (.ptr 4 0)] [.box 26 ([.int (v),.int (nx),.int (kp),.int (qt),.own 1,.own 2,.own 3]),.row 44 (.nm .sess) (se),.row 77 (.nm .opn) (op),.row 59 (.nm .snap) (sn),.box 4 ([.bool (.atom (b))])] [.agg (cellsOf (.nm .reply) r0)] [.box 26 ([.int (r1),.int (r2),.int (r3),.int (r4),.own 1,.own 2,.own 3]),.row 44 (.nm .sess) (r5),.row 77 (.nm .opn) (r6),.row 59 (.nm .snap) (r7),.box 4 ([.bool (.atom (r8))])]=((fun (q0:den (Sh.nm NT.snap))=>I64 i->(0:Int)<=i/\i<(↑sn.length:Int)/\(I64 q0.id->I64 q0.set->q0.chunks.length*(8:Nat)<=(140737488355328:Nat)->q0.tag.b.length<=(140737488355328:Nat)->((q0.held == b)=true->(0:Int)=r0.code/\(0:Int)=r0.n/\v=r1/\nx=r2/\kp=r3/\qt=r4/\se=r5/\op=r6/\sn=r7/\b=r8)/\((q0.held == b)=false->(0:Int)=r0.code/\(1:Int)=r0.n/\v=r1/\nx=r2/\kp=r3/\qt=r4/\se=r5/\op=r6/\sn.set i.toNat (Snap.mk q0.id q0.set q0.chunks b q0.tag)=r7/\b=r8))) (sn.getD i.toNat (dflt (Sh.nm NT.snap)))):=by kernel_rfl
theorem AT (i:Int) (v:Int) (nx:Int) (kp:Int) (qt:Int) (se:List Sess) (op:List Opn) (sn:List Snap) (b:Bool) (h0:0<=i/\i<(sn.length:Int)):Sat Tryz.prog (au aF) 45 [.c (.int (i)),.c (.ptr 0 0),.c (.ptr 4 0)] [.box 26 ([.int (v),.int (nx),.int (kp),.int (qt),.own 1,.own 2,.own 3]),.row 44 (.nm .sess) (se),.row 77 (.nm .opn) (op),.row 59 (.nm .snap) (sn),.box 4 ([.bool (.atom (b))])] ⟨[0<=i/\i<(sn.length:Int)],[.agg (cellsOf (.nm .reply) ((bj b (State.mk v nx kp qt se op sn) i.toNat).2))],some ([.box 26 ([.int ((((bj b (State.mk v nx kp qt se op sn) i.toNat).1).version)),.int ((((bj b (State.mk v nx kp qt se op sn) i.toNat).1).next)),.int ((((bj b (State.mk v nx kp qt se op sn) i.toNat).1).keep)),.int ((((bj b (State.mk v nx kp qt se op sn) i.toNat).1).quota)),.own 1,.own 2,.own 3]),.row 44 (.nm .sess) ((((bj b (State.mk v nx kp qt se op sn) i.toNat).1).sess)),.row 77 (.nm .opn) ((((bj b (State.mk v nx kp qt se op sn) i.toNat).1).opens)),.row 59 (.nm .snap) ((((bj b (State.mk v nx kp qt se op sn) i.toNat).1).snaps)),.box 4 ([.bool (.atom ((b)))])]),false⟩:=by
 refine dt dL [] Tryz.func45 (by decide) (by kernel_rfl) ?_
 rw [yC]
 (repeat' (first | with_reducible refine And.intro ?_ ?_ | with_reducible refine and_imp.2 ?_ | intro))
 all_goals (first | (first | with_reducible rfl | with_reducible assumption | omega | (refine al ?_ ?_ <;> omega)) | ((simp only [bj]; simp_all) <;> (intros; omega)) | (simp only [bj]; grind))
def nF:cw:=(bS 45 (bL (ai (kC cI) (ai (kC (bQ 0 0)) (ai (kC (bQ 4 0)) aO))) (ay (bP 26 (aj cI (aj cI (aj cI (aj cI (aj (a_ 1) (aj (a_ 2) (aj (a_ 3) bK)))))))) (ay (aZ 44 (.nm .sess)) (ay (aZ 77 (.nm .opn)) (ay (aZ 59 (.nm .snap)) (ay (bP 4 (aj cB bK)) aN))))) fun (i,_,_,_) ((v,nx,kp,qt,_,_,_,_),se,op,sn,(b,_),_)=>⟨[0<=i/\i<(sn.length:Int)],[.agg (cellsOf (.nm .reply) ((bj b (State.mk v nx kp qt se op sn) i.toNat).2))],some ([.box 26 ([.int ((((bj b (State.mk v nx kp qt se op sn) i.toNat).1).version)),.int ((((bj b (State.mk v nx kp qt se op sn) i.toNat).1).next)),.int ((((bj b (State.mk v nx kp qt se op sn) i.toNat).1).keep)),.int ((((bj b (State.mk v nx kp qt se op sn) i.toNat).1).quota)),.own 1,.own 2,.own 3]),.row 44 (.nm .sess) ((((bj b (State.mk v nx kp qt se op sn) i.toNat).1).sess)),.row 77 (.nm .opn) ((((bj b (State.mk v nx kp qt se op sn) i.toNat).1).opens)),.row 59 (.nm .snap) ((((bj b (State.mk v nx kp qt se op sn) i.toNat).1).snaps)),.box 4 ([.bool (.atom ((b)))])]),false⟩) (bS 58 (bL (ai (kC cI) (ai (kC (bQ 0 0)) (ai (kC (bQ 1 0)) aO))) (ay (bP 29 (pQ (.nm .command) bK)) (ay (bP 26 (aj cI (aj cI (aj cI (aj cI (aj (a_ 2) (aj (a_ 3) (aj (a_ 4) bK)))))))) (ay (aZ 44 (.nm .sess)) (ay (aZ 77 (.nm .opn)) (ay (aZ 59 (.nm .snap)) aN))))) fun (i,_,_,_) ((c,_),(v,nx,kp,qt,_,_,_,_),se,op,sn,_)=>⟨[0<=i/\i<(sn.length:Int)],[.agg (cellsOf (.nm .reply) ((cz c (State.mk v nx kp qt se op sn) i.toNat).2))],some ([.box 29 (cellsOf (.nm .command) ((c))),.box 26 ([.int ((((cz c (State.mk v nx kp qt se op sn) i.toNat).1).version)),.int ((((cz c (State.mk v nx kp qt se op sn) i.toNat).1).next)),.int ((((cz c (State.mk v nx kp qt se op sn) i.toNat).1).keep)),.int ((((cz c (State.mk v nx kp qt se op sn) i.toNat).1).quota)),.own 2,.own 3,.own 4]),.row 44 (.nm .sess) ((((cz c (State.mk v nx kp qt se op sn) i.toNat).1).sess)),.row 77 (.nm .opn) ((((cz c (State.mk v nx kp qt se op sn) i.toNat).1).opens)),.row 59 (.nm .snap) ((((cz c (State.mk v nx kp qt se op sn) i.toNat).1).snaps))]),false⟩) (bS 57 (bL (ai (kC cI) (ai (kC (bQ 0 0)) aO)) (ay (bP 26 (aj cI (aj cI (aj cI (aj cI (aj (a_ 1) (aj (a_ 2) (aj (a_ 3) bK)))))))) (ay (aZ 44 (.nm .sess)) (ay (aZ 77 (.nm .opn)) (ay (aZ 59 (.nm .snap)) aN)))) fun (i,_,_) ((v,nx,kp,qt,_,_,_,_),se,op,sn,_)=>⟨[0<=i/\i<(sn.length:Int)],[.agg (cellsOf (.nm .reply) ((bb (State.mk v nx kp qt se op sn) i.toNat).2))],some ([.box 26 ([.int ((((bb (State.mk v nx kp qt se op sn) i.toNat).1).version)),.int ((((bb (State.mk v nx kp qt se op sn) i.toNat).1).next)),.int ((((bb (State.mk v nx kp qt se op sn) i.toNat).1).keep)),.int ((((bb (State.mk v nx kp qt se op sn) i.toNat).1).quota)),.own 1,.own 2,.own 3]),.row 44 (.nm .sess) ((((bb (State.mk v nx kp qt se op sn) i.toNat).1).sess)),.row 77 (.nm .opn) ((((bb (State.mk v nx kp qt se op sn) i.toNat).1).opens)),.row 59 (.nm .snap) ((((bb (State.mk v nx kp qt se op sn) i.toNat).1).snaps))]),false⟩) (bS 56 (bL (ai (kC (bQ 0 0)) (ai (kC cI) aO)) (ay (bP 26 (aj cI (aj cI (aj cI (aj cI (aj (a_ 1) (aj (a_ 2) (aj (a_ 3) bK)))))))) (ay (aZ 44 (.nm .sess)) (ay (aZ 77 (.nm .opn)) (ay (aZ 59 (.nm .snap)) aN)))) fun (_,i,_) ((v,nx,kp,qt,_,_,_,_),se,op,sn,_)=>⟨[0<=i/\i<(sn.length:Int),nch sn<=1048576],[.agg (cellsOf (.nm .reply) ((aK (State.mk v nx kp qt se op sn) i.toNat).2))],some ([.box 26 ([.int ((((aK (State.mk v nx kp qt se op sn) i.toNat).1).version)),.int ((((aK (State.mk v nx kp qt se op sn) i.toNat).1).next)),.int ((((aK (State.mk v nx kp qt se op sn) i.toNat).1).keep)),.int ((((aK (State.mk v nx kp qt se op sn) i.toNat).1).quota)),.own 1,.own 2,.own 3]),.row 44 (.nm .sess) ((((aK (State.mk v nx kp qt se op sn) i.toNat).1).sess)),.row 77 (.nm .opn) ((((aK (State.mk v nx kp qt se op sn) i.toNat).1).opens)),.row 59 (.nm .snap) ((((aK (State.mk v nx kp qt se op sn) i.toNat).1).snaps))]),false⟩) (bS 53 (bL (ai (kC (bQ 0 0)) (ai (kC (bQ 1 0)) aO)) (ay (bP 29 (pQ (.nm .command) bK)) (ay (bP 26 (aj cI (aj cI (aj cI (aj cI (aj (a_ 2) (aj (a_ 3) (aj (a_ 4) bK)))))))) (ay (aZ 44 (.nm .sess)) (ay (aZ 77 (.nm .opn)) (ay (aZ 59 (.nm .snap)) aN))))) fun (_,_,_) ((c,_),(v,nx,kp,qt,_,_,_,_),se,op,sn,_)=>⟨[nch sn<=1048576],[.agg (cellsOf (.nm .reply) ((cq c (State.mk v nx kp qt se op sn)).2))],some ([.box 29 (cellsOf (.nm .command) ((c))),.box 26 ([.int ((((cq c (State.mk v nx kp qt se op sn)).1).version)),.int ((((cq c (State.mk v nx kp qt se op sn)).1).next)),.int ((((cq c (State.mk v nx kp qt se op sn)).1).keep)),.int ((((cq c (State.mk v nx kp qt se op sn)).1).quota)),.own 2,.own 3,.own 4]),.row 44 (.nm .sess) ((((cq c (State.mk v nx kp qt se op sn)).1).sess)),.row 77 (.nm .opn) ((((cq c (State.mk v nx kp qt se op sn)).1).opens)),.row 59 (.nm .snap) ((((cq c (State.mk v nx kp qt se op sn)).1).snaps))]),false⟩) (bS 52 (bL (ai (kC (bQ 0 0)) (ai (kC (bQ 1 0)) aO)) (ay (bP 29 (pQ (.nm .command) bK)) (ay (bP 26 (aj cI (aj cI (aj cI (aj cI (aj (a_ 2) (aj (a_ 3) (aj (a_ 4) bK)))))))) (ay (aZ 44 (.nm .sess)) (ay (aZ 77 (.nm .opn)) (ay (aZ 59 (.nm .snap)) aN))))) fun (_,_,_) ((c,_),(v,nx,kp,qt,_,_,_,_),se,op,sn,_)=>⟨[],[.agg (cellsOf (.nm .reply) ((cT c (State.mk v nx kp qt se op sn)).2))],some ([.box 29 (cellsOf (.nm .command) ((c))),.box 26 ([.int ((((cT c (State.mk v nx kp qt se op sn)).1).version)),.int ((((cT c (State.mk v nx kp qt se op sn)).1).next)),.int ((((cT c (State.mk v nx kp qt se op sn)).1).keep)),.int ((((cT c (State.mk v nx kp qt se op sn)).1).quota)),.own 2,.own 3,.own 4]),.row 44 (.nm .sess) ((((cT c (State.mk v nx kp qt se op sn)).1).sess)),.row 77 (.nm .opn) ((((cT c (State.mk v nx kp qt se op sn)).1).opens)),.row 59 (.nm .snap) ((((cT c (State.mk v nx kp qt se op sn)).1).snaps))]),false⟩) (bS 93 (bL (ai (kC (bQ 0 0)) (ai (kT (.nm .command)) aO)) (ay (bP 26 (aj cI (aj cI (aj cI (aj cI (aj (a_ 1) (aj (a_ 2) (aj (a_ 3) bK)))))))) (ay (aZ 44 (.nm .sess)) (ay (aZ 77 (.nm .opn)) (ay (aZ 59 (.nm .snap)) aN)))) fun (_,c,_) ((v,nx,kp,qt,_,_,_,_),se,op,sn,_)=>⟨[],[.c (.int ((bh (State.mk v nx kp qt se op sn) c)))],none,false⟩) (bS 95 (bL (ai (kC (a_ 0)) (ai (kC cI) (ai (kC cI) aO))) (ay (aZ 77 (.nm .opn)) aN) fun (_,i,j,_) (l,_)=>⟨[0<=i/\i<(l.length:Int)/\j=i+1],[.c (.own 0)],some ([.row 77 (.nm .opn) ((l.take i.toNat++l.drop j.toNat))]),false⟩) (bS 36 (bL (ai (kC (a_ 0)) (ai (kC cI) (ai (kC (a_ 1)) aO))) (ay (aZ 44 (.nm .sess)) (ay (aZ 44 (.nm .sess)) aN)) fun (_,i,_,_) (l,m,_)=>⟨[0<=i/\i<=(l.length:Int),l.length<1048576,m.length=1],[.c (.own 0)],some ([.row 44 (.nm .sess) ((l.take i.toNat++m++l.drop i.toNat)),.row 44 (.nm .sess) ((m))]),false⟩) (bS 92 (bL (ai (kC (a_ 0)) (ai (kC cI) (ai (kC (cL (.nm .opn))) aO))) (ay (aZ 77 (.nm .opn)) aN) fun (_,i,m,_) (l,_)=>⟨[0<=i/\i<=(l.length:Int),l.length<1048576,m.length=1],[.c (.own 0)],some ([.row 77 (.nm .opn) ((l.take i.toNat++m++l.drop i.toNat))]),false⟩) ja))))))))))
theorem f_:aT Tryz.prog (au aF) nF:=(aA (az (ab (av ax) (ab (av aJ) (ab (av aJ) ao))) (ag (aH (ae ax (ae ax (ae ax (ae ax (ae aC (ae aC (ae aC aG)))))))) (ag aB (ag aB (ag aB (ag (aH (ae oa aG)) aq))))) fun (i,_,_,_) ((v,nx,kp,qt,_,_,_,_),se,op,sn,(b,_),_) hp=>AT i v nx kp qt se op sn b (fb hp)) (aA (az (ab (av ax) (ab (av aJ) (ab (av aJ) ao))) (ag (aH (cQ aG)) (ag (aH (ae ax (ae ax (ae ax (ae ax (ae aC (ae aC (ae aC aG)))))))) (ag aB (ag aB (ag aB aq))))) fun (i,_,_,_) ((c,_),(v,nx,kp,qt,_,_,_,_),se,op,sn,_) hp=>BO i c v nx kp qt se op sn (fb hp)) (aA (az (ab (av ax) (ab (av aJ) ao)) (ag (aH (ae ax (ae ax (ae ax (ae ax (ae aC (ae aC (ae aC aG)))))))) (ag aB (ag aB (ag aB aq)))) fun (i,_,_) ((v,nx,kp,qt,_,_,_,_),se,op,sn,_) hp=>EC i v nx kp qt se op sn (fb hp)) (aA (az (ab (av aJ) (ab (av ax) ao)) (ag (aH (ae ax (ae ax (ae ax (ae ax (ae aC (ae aC (ae aC aG)))))))) (ag aB (ag aB (ag aB aq)))) fun (_,i,_) ((v,nx,kp,qt,_,_,_,_),se,op,sn,_) hp=>CW i v nx kp qt se op sn (fb hp) (fb (nY hp))) (aA (az (ab (av aJ) (ab (av aJ) ao)) (ag (aH (cQ aG)) (ag (aH (ae ax (ae ax (ae ax (ae ax (ae aC (ae aC (ae aC aG)))))))) (ag aB (ag aB (ag aB aq))))) fun (_,_,_) ((c,_),(v,nx,kp,qt,_,_,_,_),se,op,sn,_) hp=>FF c v nx kp qt se op sn (fb hp)) (aA (az (ab (av aJ) (ab (av aJ) ao)) (ag (aH (cQ aG)) (ag (aH (ae ax (ae ax (ae ax (ae ax (ae aC (ae aC (ae aC aG)))))))) (ag aB (ag aB (ag aB aq))))) fun (_,_,_) ((c,_),(v,nx,kp,qt,_,_,_,_),se,op,sn,_) _=>Fe c v nx kp qt se op sn ) (aA (az (ab (av aJ) (ab bI ao)) (ag (aH (ae ax (ae ax (ae ax (ae ax (ae aC (ae aC (ae aC aG)))))))) (ag aB (ag aB (ag aB aq)))) fun (_,c,_) ((v,nx,kp,qt,_,_,_,_),se,op,sn,_) _=>wB c v nx kp qt se op sn ) (aA (az (ab (av aC) (ab (av ax) (ab (av ax) ao))) (ag aB aq) fun (_,i,j,_) (l,_) hp=>vB i j l (fb hp)) (aA (az (ab (av aC) (ab (av ax) (ab (av aC) ao))) (ag aB (ag aB aq)) fun (_,i,_,_) (l,m,_) hp=>th i l m (fb hp) (fb (nY hp)) (fb (nY (nY hp)))) (aA (az (ab (av aC) (ab (av ax) (ab (av bN) ao))) (ag aB aq) fun (_,i,m,_) (l,_) hp=>vR i m l (fb hp) (fb (nY hp)) (fb (nY (nY hp)))) dL))))))))))
end Go.Proofs.YtdggohppeeaipaaGreat
namespace Go.Proofs.YtdggohppeeaipaaGreat
open Go.RowKit
theorem AL {α:Type} {p:α->Bool} {l:List α} {k:Nat} (h:(l.take k).all p=true) (hk:k<=l.length) (h2:(l.length:Int)<=k\/(k:Int)<l.length/\∃ x,l[k]? = some x/\p x=false):k=(l.takeWhile p).length:=by
 induction l generalizing k with
 | nil=>simp at hk; simp [hk]
 | cons a l ih=>
  cases k with
  | zero=>
   rcases h2 with h2 | ⟨_,x,hx,hp⟩
   ·simp at h2; omega
   ·simp at hx; subst hx; simp [hp]
  | succ k=>
   simp only [List.take_succ_cons,List.all_cons,Bool.and_eq_true] at h
   rw [List.takeWhile_cons,h.1,if_pos rfl,List.length_cons]
   congr 1
   refine ih h.2 (by simpa using hk) ?_
   rcases h2 with h2 | ⟨h3,x,hx,hp⟩
   ·left; simp at h2; omega
   ·right; refine ⟨by simp at h3; omega,x,by simpa using hx,hp⟩
theorem ym {v nx kp qt:Int} {se:List Sess} {op:List Opn} {sn:List Snap} {c:Command} {s:Nat} (h:ah Opn.set c.set op<0) (hs:s<=op.length) (ha:(op.take s).all (fun y=>decide (y.set<c.set))=true) (hb:(op.length:Int)<=s\/c.set<=(op.getD s (dflt (.nm .opn))).set):op.take s++[Opn.mk c.set c.client]++op.drop s=(aS (State.mk v nx kp qt se op sn) c).1.opens:=by
 have h1:¬ 0<=ah Opn.set c.set op:=by omega
 simp only [aS,if_neg h1]
 have:s=(op.takeWhile fun y=>decide (y.set<c.set)).length:=by
  refine AL ha hs ?_
  by_cases hl:(op.length:Int)<=s
  ·exact .inl hl
  ·refine .inr ⟨by omega,_,gd (d:=dflt (.nm .opn)) (by omega),?_⟩
   rcases hb with hb | hb
   ·omega
   ·exact decide_eq_false (by omega)
 rw [<- this]; simp [fB]
theorem yE {op:List Opn} {c:Command} {s:Nat} (ha:(op.take s).all (fun y=>decide (y.set<c.set))=true) (h:(s:Int)<op.length) (hb:(op.getD s (dflt (.nm .opn))).set<c.set):(op.take (s+1)).all (fun y=>decide (y.set<c.set))=true:=by
 rw [aD (gd (d:=dflt (.nm .opn)) h),List.all_append,ha]; simp only [List.all_cons,List.all_nil,decide_eq_true hb]; rfl
section
variable {v nx kp qt:Int} {se:List Sess} {op:List Opn} {sn:List Snap} {c:Command}
theorem IX (h:ah Opn.set c.set op<0):aS (State.mk v nx kp qt se op sn) c=(State.mk v nx kp qt se (fB op (op.takeWhile fun y=>decide (y.set<c.set)).length ⟨c.set,c.client⟩) sn,⟨0,0⟩):=by
 have h1:¬ 0<=ah Opn.set c.set op:=by omega
 simp only [aS,if_neg h1]
theorem IV (h:0<=ah Opn.set c.set op):aS (State.mk v nx kp qt se op sn) c=(State.mk v nx kp qt se op sn,⟨16,(op.getD (ah Opn.set c.set op).toNat (dflt (.nm .opn))).client⟩):=by
 simp only [aS,if_pos h]
theorem Jo (h:bh (State.mk v nx kp qt se op sn) c<0):aU (State.mk v nx kp qt se op sn) c=(State.mk v nx kp qt se op sn,⟨15,0⟩):=by
 simp only [aU,if_pos h]
theorem Jr (h:0<=bh (State.mk v nx kp qt se op sn) c):aU (State.mk v nx kp qt se op sn) c=(State.mk v nx kp qt se (op.take (bh (State.mk v nx kp qt se op sn) c).toNat++op.drop (bh (State.mk v nx kp qt se op sn) c+1).toNat) sn,⟨0,0⟩):=by
 have h1:¬ bh (State.mk v nx kp qt se op sn) c<0:=by omega
 simp only [aU,if_neg h1,wo]
end
def tT (c:Command) (v:Int) (nx:Int) (kp:Int) (qt:Int) (se:List Sess) (op:List Opn) (sn:List Snap):List (Nat × LI):=[(5,{ σ:=Nat,F:=fun k=>([(0,one (.ptr 0 0)),(3,one (.ptr 4 0)),(4,one (.ptr 5 0)),(6,one (.int k))],[.box 26 ([.int ((v)),.int ((nx)),.int ((kp)),.int ((qt)),.own 1,.own 2,.own 3]),.row 44 (.nm .sess) ((se)),.row 77 (.nm .opn) ((op)),.row 59 (.nm .snap) ((sn)),.box 29 (cellsOf (.nm .command) ((c))),.box 35 ([.int ((0)),.int ((0))])]),J:=fun k=>k<=op.length/\(op.take k).all (fun y=>decide (y.set<c.set))=true,μ:=fun k=>op.length - k })]
theorem xA (c:Command) (v:Int) (nx:Int) (kp:Int) (qt:Int) (se:List Sess) (op:List Opn) (sn:List Snap) (r0:Reply) (r1:Int) (r2:Int) (r3:Int) (r4:Int) (r5:List Sess) (r6:List Opn) (r7:List Snap):n_ aF nF (tT c v nx kp qt se op sn) Tryz.f47 [.c (.ptr 0 0),.agg (cellsOf (.nm .command) c)] [.box 26 ([.int (v),.int (nx),.int (kp),.int (qt),.own 1,.own 2,.own 3]),.row 44 (.nm .sess) (se),.row 77 (.nm .opn) (op),.row 59 (.nm .snap) (sn)] [.agg (cellsOf (.nm .reply) r0)] [.box 26 ([.int (r1),.int (r2),.int (r3),.int (r4),.own 1,.own 2,.own 3]),.row 44 (.nm .sess) (r5),.row 77 (.nm .opn) (r6),.row 59 (.nm .snap) (r7)]=((fun (q5:Int)=>(fun (q4:den (Sh.nm NT.opn))=>(fun (q3:Int)=>(fun (q2:Int)=>(fun (q1:Int)=>(fun (q0:Prop)=>I64 c.kind->I64 c.client->I64 c.seq->I64 q5->I64 c.id->I64 c.n->c.chunks.length*(8:Nat)<=(140737488355328:Nat)->c.text.b.length<=(140737488355328:Nat)->I64 q1->(q2<=q1->q2<=q1/\q1<q3/\(I64 (op.getD q1.toNat q4).set->I64 (op.getD q1.toNat q4).client->(16:Int)=r0.code/\(op.getD q1.toNat q4).client=r0.n/\v=r1/\nx=r2/\kp=r3/\qt=r4/\se=r5/\op=r6/\sn=r7))/\(q1<q2->∃ (s0:Nat),(q2=(↑s0:Int)/\q0)/\(s0<=op.length/\((List.take s0 op).all fun (y:Opn)=>decide (y.set<q5))=true)/\∀ (s:Nat),(fun (q7:Int)=>(fun (q6:Int)=>s<=op.length/\((List.take s op).all fun (y:Opn)=>decide (y.set<q5))=true->(q6<q3->q2<=q6/\q6<q3)/\((q6<q3->I64 q7/\I64 (op.getD s q4).client)->(q6<q3/\q7<q5->I64 (q6+(1:Int))/\∃ (s':Nat),(q6+(1:Int)=(↑s':Int)/\q0)/\(s' <= op.length/\((List.take s' op).all fun (y:Opn)=>decide (y.set<q5))=true)/\op.length - s' < op.length - s)/\(q3<=q6\/q5<=q7->((q2<=q6/\q6<=q3)/\op.length<(1048576:Nat)/\[Opn.mk q5 c.client].length=(1:Nat))/\q2=r0.code/\q2=r0.n/\v=r1/\nx=r2/\kp=r3/\qt=r4/\se=r5/\List.take s op++[Opn.mk q5 c.client]++List.drop s op=r6/\sn=r7))) (↑s:Int)) (op.getD s q4).set)) (v=v/\nx=nx/\kp=kp/\qt=qt/\se=se/\op=op/\sn=sn/\c.kind=c.kind/\c.client=c.client/\c.seq=c.seq/\q5=q5/\c.id=c.id/\c.n=c.n/\c.chunks=c.chunks/\c.text=c.text/\q2=q2/\q2=q2)) (ah Opn.set q5 op)) (0:Int)) (↑op.length:Int)) (dflt (Sh.nm NT.opn))) c.set):=by kernel_rfl
theorem xb (c:Command) (v:Int) (nx:Int) (kp:Int) (qt:Int) (se:List Sess) (op:List Opn) (sn:List Snap) (h0:op.length<1048576):Sat Tryz.prog (au aF) 47 [.c (.ptr 0 0),.agg (cellsOf (.nm .command) c)] [.box 26 ([.int (v),.int (nx),.int (kp),.int (qt),.own 1,.own 2,.own 3]),.row 44 (.nm .sess) (se),.row 77 (.nm .opn) (op),.row 59 (.nm .snap) (sn)] ⟨[op.length<1048576],[.agg (cellsOf (.nm .reply) ((aS (State.mk v nx kp qt se op sn) c).2))],some ([.box 26 ([.int ((((aS (State.mk v nx kp qt se op sn) c).1).version)),.int ((((aS (State.mk v nx kp qt se op sn) c).1).next)),.int ((((aS (State.mk v nx kp qt se op sn) c).1).keep)),.int ((((aS (State.mk v nx kp qt se op sn) c).1).quota)),.own 1,.own 2,.own 3]),.row 44 (.nm .sess) ((((aS (State.mk v nx kp qt se op sn) c).1).sess)),.row 77 (.nm .opn) ((((aS (State.mk v nx kp qt se op sn) c).1).opens)),.row 59 (.nm .snap) ((((aS (State.mk v nx kp qt se op sn) c).1).snaps))]),false⟩:=by
 refine dt f_ (tT c v nx kp qt se op sn) Tryz.func47 (by decide) (by kernel_rfl) ?_
 rw [xA]
 (repeat' (first | with_reducible refine And.intro ?_ ?_ | with_reducible refine and_imp.2 ?_ | intro))
 all_goals try (first | (first | with_reducible rfl | with_reducible assumption | omega | (refine al ?_ ?_ <;> omega)) | exact rfl | exact bD (by with_reducible assumption) | exact (yE (by with_reducible assumption) (by with_reducible assumption) (by with_reducible assumption)) | exact (ym (by with_reducible assumption) (by omega) (by with_reducible assumption) (by assumption)) | (rw [IX]; omega) | (rw [IV]; omega))
 all_goals try (refine ⟨0,?_⟩; (repeat' (first | with_reducible refine And.intro ?_ ?_ | with_reducible refine and_imp.2 ?_ | intro)))
 all_goals try (first | (first | with_reducible rfl | with_reducible assumption | omega | (refine al ?_ ?_ <;> omega)) | exact rfl | exact bD (by with_reducible assumption) | exact (yE (by with_reducible assumption) (by with_reducible assumption) (by with_reducible assumption)) | exact (ym (by with_reducible assumption) (by omega) (by with_reducible assumption) (by assumption)) | (rw [IX]; omega) | (rw [IV]; omega))
 all_goals try (refine ⟨‹Nat› + 1,?_⟩; (repeat' (first | with_reducible refine And.intro ?_ ?_ | with_reducible refine and_imp.2 ?_ | intro)))
 all_goals (first | (first | with_reducible rfl | with_reducible assumption | omega | (refine al ?_ ?_ <;> omega)) | exact rfl | exact bD (by with_reducible assumption) | exact (yE (by with_reducible assumption) (by with_reducible assumption) (by with_reducible assumption)) | exact (ym (by with_reducible assumption) (by omega) (by with_reducible assumption) (by assumption)) | (rw [IX]; omega) | (rw [IV]; omega))
theorem yD (c:Command) (v:Int) (nx:Int) (kp:Int) (qt:Int) (se:List Sess) (op:List Opn) (sn:List Snap) (r0:Reply) (r1:Int) (r2:Int) (r3:Int) (r4:Int) (r5:List Sess) (r6:List Opn) (r7:List Snap):n_ aF nF [] Tryz.f51 [.c (.ptr 0 0),.agg (cellsOf (.nm .command) c)] [.box 26 ([.int (v),.int (nx),.int (kp),.int (qt),.own 1,.own 2,.own 3]),.row 44 (.nm .sess) (se),.row 77 (.nm .opn) (op),.row 59 (.nm .snap) (sn)] [.agg (cellsOf (.nm .reply) r0)] [.box 26 ([.int (r1),.int (r2),.int (r3),.int (r4),.own 1,.own 2,.own 3]),.row 44 (.nm .sess) (r5),.row 77 (.nm .opn) (r6),.row 59 (.nm .snap) (r7)]=((fun (q1:Int)=>(fun (q0:Int)=>I64 c.kind->I64 c.client->I64 c.seq->I64 c.set->I64 c.id->I64 c.n->c.chunks.length*(8:Nat)<=(140737488355328:Nat)->c.text.b.length<=(140737488355328:Nat)->I64 q0->(q0<q1->I64 (15:Int)->I64 q1->(15:Int)=r0.code/\q1=r0.n/\v=r1/\nx=r2/\kp=r3/\qt=r4/\se=r5/\op=r6/\sn=r7)/\(q1<=q0->I64 (q0+(1:Int))/\(q1<=q0/\q0<(↑op.length:Int)/\q0+(1:Int)=q0+(1:Int))/\q1=r0.code/\q1=r0.n/\v=r1/\nx=r2/\kp=r3/\qt=r4/\se=r5/\List.take q0.toNat op++List.drop (q0+(1:Int)).toNat op=r6/\sn=r7)) (bh (State.mk v nx kp qt se op sn) c)) (0:Int)):=by kernel_rfl
theorem xm (c:Command) (v:Int) (nx:Int) (kp:Int) (qt:Int) (se:List Sess) (op:List Opn) (sn:List Snap) (h0:op.length<1048576):Sat Tryz.prog (au aF) 51 [.c (.ptr 0 0),.agg (cellsOf (.nm .command) c)] [.box 26 ([.int (v),.int (nx),.int (kp),.int (qt),.own 1,.own 2,.own 3]),.row 44 (.nm .sess) (se),.row 77 (.nm .opn) (op),.row 59 (.nm .snap) (sn)] ⟨[op.length<1048576],[.agg (cellsOf (.nm .reply) ((aU (State.mk v nx kp qt se op sn) c).2))],some ([.box 26 ([.int ((((aU (State.mk v nx kp qt se op sn) c).1).version)),.int ((((aU (State.mk v nx kp qt se op sn) c).1).next)),.int ((((aU (State.mk v nx kp qt se op sn) c).1).keep)),.int ((((aU (State.mk v nx kp qt se op sn) c).1).quota)),.own 1,.own 2,.own 3]),.row 44 (.nm .sess) ((((aU (State.mk v nx kp qt se op sn) c).1).sess)),.row 77 (.nm .opn) ((((aU (State.mk v nx kp qt se op sn) c).1).opens)),.row 59 (.nm .snap) ((((aU (State.mk v nx kp qt se op sn) c).1).snaps))]),false⟩:=by
 refine dt f_ [] Tryz.func51 (by decide) (by kernel_rfl) ?_
 rw [yD]
 have hl:0<=bh (State.mk v nx kp qt se op sn) c->bh (State.mk v nx kp qt se op sn) c+1<=(op.length:Int):=fun h=>ya h
 (repeat' (first | with_reducible refine And.intro ?_ ?_ | with_reducible refine and_imp.2 ?_ | intro))
 all_goals (first | (first | with_reducible rfl | with_reducible assumption | omega | (refine al ?_ ?_ <;> omega)) | (rw [Jr]; omega) | (rw [Jo]; omega))
theorem wx (c:Command) (v:Int) (nx:Int) (kp:Int) (qt:Int) (se:List Sess) (op:List Opn) (sn:List Snap) (r0:Reply) (r1:Int) (r2:Int) (r3:Int) (r4:Int) (r5:List Sess) (r6:List Opn) (r7:List Snap):n_ aF nF [] Tryz.f49 [.c (.ptr 0 0),.agg (cellsOf (.nm .command) c)] [.box 26 ([.int (v),.int (nx),.int (kp),.int (qt),.own 1,.own 2,.own 3]),.row 44 (.nm .sess) (se),.row 77 (.nm .opn) (op),.row 59 (.nm .snap) (sn)] [.agg (cellsOf (.nm .reply) r0)] [.box 26 ([.int (r1),.int (r2),.int (r3),.int (r4),.own 1,.own 2,.own 3]),.row 44 (.nm .sess) (r5),.row 77 (.nm .opn) (r6),.row 59 (.nm .snap) (r7)]=((fun (q6:Snap)=>(fun (q5:Int)=>(fun (q4:Prop)=>(fun (q3:Int)=>(fun (q2:Int)=>(fun (q1:Prop)=>(fun (q0:Int)=>I64 c.kind->I64 c.client->I64 c.seq->I64 c.set->I64 c.id->I64 c.n->q4->c.text.b.length<=(140737488355328:Nat)->I64 q0->(q0<q3->I64 (15:Int)->I64 q3->(15:Int)=r0.code/\q1)/\(q3<=q0->((16:Int)<=(↑sn.length:Int)\/(1048576:Int)<=nx->I64 (20:Int)->I64 q3->(20:Int)=r0.code/\q1)/\((↑sn.length:Int)<(16:Int)/\nx<(1048576:Int)->(¬qt=q3->nch sn<=(1048576:Nat))/\((¬qt=q3->I64 q2)->(¬qt=q3/\qt<q2->I64 (19:Int)->I64 q3->(19:Int)=r0.code/\q1)/\(qt=q3\/q2<=qt->q4->(sn.length+[q6].length)*(64:Nat)<=(140737488355328:Nat)/\I64 (nx+q5)/\I64 (q0+q5)/\(q3<=q0/\q0<(↑op.length:Int)/\q0+q5=q0+q5)/\q3=r0.code/\nx=r0.n/\v=r1/\nx+q5=r2/\kp=r3/\qt=r4/\se=r5/\List.take q0.toNat op++List.drop (q0+q5).toNat op=r6/\sn++[q6]=r7))))) (bh (State.mk v nx kp qt se op sn) c)) (q3=r0.n/\v=r1/\nx=r2/\kp=r3/\qt=r4/\se=r5/\op=r6/\sn=r7)) (↑(distF (sn++[Snap.mk q3 q3 c.chunks false (Str.mk [])])):Int)) (0:Int)) (c.chunks.length*(8:Nat)<=(140737488355328:Nat))) (1:Int)) (Snap.mk nx c.set c.chunks false (Str.mk []))):=by kernel_rfl
theorem wK (c:Command) (v:Int) (nx:Int) (kp:Int) (qt:Int) (se:List Sess) (op:List Opn) (sn:List Snap) (h0:nch sn<=1048576) (h1:sn.length<1048576) (h2:op.length<1048576) (h3:0<=nx):Sat Tryz.prog (au aF) 49 [.c (.ptr 0 0),.agg (cellsOf (.nm .command) c)] [.box 26 ([.int (v),.int (nx),.int (kp),.int (qt),.own 1,.own 2,.own 3]),.row 44 (.nm .sess) (se),.row 77 (.nm .opn) (op),.row 59 (.nm .snap) (sn)] ⟨[nch sn<=1048576,sn.length<1048576,op.length<1048576,0<=nx],[.agg (cellsOf (.nm .reply) ((aM (State.mk v nx kp qt se op sn) c).2))],some ([.box 26 ([.int ((((aM (State.mk v nx kp qt se op sn) c).1).version)),.int ((((aM (State.mk v nx kp qt se op sn) c).1).next)),.int ((((aM (State.mk v nx kp qt se op sn) c).1).keep)),.int ((((aM (State.mk v nx kp qt se op sn) c).1).quota)),.own 1,.own 2,.own 3]),.row 44 (.nm .sess) ((((aM (State.mk v nx kp qt se op sn) c).1).sess)),.row 77 (.nm .opn) ((((aM (State.mk v nx kp qt se op sn) c).1).opens)),.row 59 (.nm .snap) ((((aM (State.mk v nx kp qt se op sn) c).1).snaps))]),false⟩:=by
 refine dt f_ [] Tryz.func49 (by decide) (by kernel_rfl) ?_
 rw [wx]
 have hl:0<=bh (State.mk v nx kp qt se op sn) c->bh (State.mk v nx kp qt se op sn) c+1<=(op.length:Int):=fun h=>ya h
 (repeat' (first | with_reducible refine And.intro ?_ ?_ | with_reducible refine and_imp.2 ?_ | intro))
 all_goals (first | (first | with_reducible rfl | with_reducible assumption | omega | (refine al ?_ ?_ <;> omega)) | (simp only [aM,wo]; grind) | (simp only [List.length_cons,List.length_nil]; omega))
theorem Eg (i:Int) (v:Int) (nx:Int) (kp:Int) (qt:Int) (se:List Sess) (op:List Opn) (sn:List Snap) (r0:Reply) (r1:Int) (r2:Int) (r3:Int) (r4:Int) (r5:List Sess) (r6:List Opn) (r7:List Snap):n_ aF nF [] Tryz.f55 [.c (.int (i)),.c (.ptr 0 0)] [.box 26 ([.int (v),.int (nx),.int (kp),.int (qt),.own 1,.own 2,.own 3]),.row 44 (.nm .sess) (se),.row 77 (.nm .opn) (op),.row 59 (.nm .snap) (sn)] [.agg (cellsOf (.nm .reply) r0)] [.box 26 ([.int (r1),.int (r2),.int (r3),.int (r4),.own 1,.own 2,.own 3]),.row 44 (.nm .sess) (r5),.row 77 (.nm .opn) (r6),.row 59 (.nm .snap) (r7)]=((fun (q0:State × Reply)=>I64 i->((0:Int)<=i/\i<(↑sn.length:Int))/\nch sn<=(1048576:Nat)/\(I64 q0.snd.code->I64 q0.snd.n->q0.snd.code=r0.code/\q0.snd.n=r0.n/\q0.fst.version=r1/\q0.fst.next=r2/\q0.fst.keep=r3/\q0.fst.quota=r4/\q0.fst.sess=r5/\q0.fst.opens=r6/\q0.fst.snaps=r7)) (aK (State.mk v nx kp qt se op sn) i.toNat)):=by kernel_rfl
theorem Ev (i:Int) (v:Int) (nx:Int) (kp:Int) (qt:Int) (se:List Sess) (op:List Opn) (sn:List Snap) (h0:0<=i/\i<(sn.length:Int)) (h1:nch sn<=1048576):Sat Tryz.prog (au aF) 55 [.c (.int (i)),.c (.ptr 0 0)] [.box 26 ([.int (v),.int (nx),.int (kp),.int (qt),.own 1,.own 2,.own 3]),.row 44 (.nm .sess) (se),.row 77 (.nm .opn) (op),.row 59 (.nm .snap) (sn)] ⟨[0<=i/\i<(sn.length:Int),nch sn<=1048576],[.agg (cellsOf (.nm .reply) ((aK (State.mk v nx kp qt se op sn) i.toNat).2))],some ([.box 26 ([.int ((((aK (State.mk v nx kp qt se op sn) i.toNat).1).version)),.int ((((aK (State.mk v nx kp qt se op sn) i.toNat).1).next)),.int ((((aK (State.mk v nx kp qt se op sn) i.toNat).1).keep)),.int ((((aK (State.mk v nx kp qt se op sn) i.toNat).1).quota)),.own 1,.own 2,.own 3]),.row 44 (.nm .sess) ((((aK (State.mk v nx kp qt se op sn) i.toNat).1).sess)),.row 77 (.nm .opn) ((((aK (State.mk v nx kp qt se op sn) i.toNat).1).opens)),.row 59 (.nm .snap) ((((aK (State.mk v nx kp qt se op sn) i.toNat).1).snaps))]),false⟩:=by
 refine dt f_ [] Tryz.func55 (by decide) (by kernel_rfl) ?_
 rw [Eg]
 (repeat' (first | with_reducible refine And.intro ?_ ?_ | with_reducible refine and_imp.2 ?_ | intro))
 all_goals (first | (first | with_reducible rfl | with_reducible assumption | omega | (refine al ?_ ?_ <;> omega)) | exact rfl)
def iK:cw:=(bS 55 (bL (ai (kC cI) (ai (kC (bQ 0 0)) aO)) (ay (bP 26 (aj cI (aj cI (aj cI (aj cI (aj (a_ 1) (aj (a_ 2) (aj (a_ 3) bK)))))))) (ay (aZ 44 (.nm .sess)) (ay (aZ 77 (.nm .opn)) (ay (aZ 59 (.nm .snap)) aN)))) fun (i,_,_) ((v,nx,kp,qt,_,_,_,_),se,op,sn,_)=>⟨[0<=i/\i<(sn.length:Int),nch sn<=1048576],[.agg (cellsOf (.nm .reply) ((aK (State.mk v nx kp qt se op sn) i.toNat).2))],some ([.box 26 ([.int ((((aK (State.mk v nx kp qt se op sn) i.toNat).1).version)),.int ((((aK (State.mk v nx kp qt se op sn) i.toNat).1).next)),.int ((((aK (State.mk v nx kp qt se op sn) i.toNat).1).keep)),.int ((((aK (State.mk v nx kp qt se op sn) i.toNat).1).quota)),.own 1,.own 2,.own 3]),.row 44 (.nm .sess) ((((aK (State.mk v nx kp qt se op sn) i.toNat).1).sess)),.row 77 (.nm .opn) ((((aK (State.mk v nx kp qt se op sn) i.toNat).1).opens)),.row 59 (.nm .snap) ((((aK (State.mk v nx kp qt se op sn) i.toNat).1).snaps))]),false⟩) (bS 49 (bL (ai (kC (bQ 0 0)) (ai (kT (.nm .command)) aO)) (ay (bP 26 (aj cI (aj cI (aj cI (aj cI (aj (a_ 1) (aj (a_ 2) (aj (a_ 3) bK)))))))) (ay (aZ 44 (.nm .sess)) (ay (aZ 77 (.nm .opn)) (ay (aZ 59 (.nm .snap)) aN)))) fun (_,c,_) ((v,nx,kp,qt,_,_,_,_),se,op,sn,_)=>⟨[nch sn<=1048576,sn.length<1048576,op.length<1048576,0<=nx],[.agg (cellsOf (.nm .reply) ((aM (State.mk v nx kp qt se op sn) c).2))],some ([.box 26 ([.int ((((aM (State.mk v nx kp qt se op sn) c).1).version)),.int ((((aM (State.mk v nx kp qt se op sn) c).1).next)),.int ((((aM (State.mk v nx kp qt se op sn) c).1).keep)),.int ((((aM (State.mk v nx kp qt se op sn) c).1).quota)),.own 1,.own 2,.own 3]),.row 44 (.nm .sess) ((((aM (State.mk v nx kp qt se op sn) c).1).sess)),.row 77 (.nm .opn) ((((aM (State.mk v nx kp qt se op sn) c).1).opens)),.row 59 (.nm .snap) ((((aM (State.mk v nx kp qt se op sn) c).1).snaps))]),false⟩) (bS 51 (bL (ai (kC (bQ 0 0)) (ai (kT (.nm .command)) aO)) (ay (bP 26 (aj cI (aj cI (aj cI (aj cI (aj (a_ 1) (aj (a_ 2) (aj (a_ 3) bK)))))))) (ay (aZ 44 (.nm .sess)) (ay (aZ 77 (.nm .opn)) (ay (aZ 59 (.nm .snap)) aN)))) fun (_,c,_) ((v,nx,kp,qt,_,_,_,_),se,op,sn,_)=>⟨[op.length<1048576],[.agg (cellsOf (.nm .reply) ((aU (State.mk v nx kp qt se op sn) c).2))],some ([.box 26 ([.int ((((aU (State.mk v nx kp qt se op sn) c).1).version)),.int ((((aU (State.mk v nx kp qt se op sn) c).1).next)),.int ((((aU (State.mk v nx kp qt se op sn) c).1).keep)),.int ((((aU (State.mk v nx kp qt se op sn) c).1).quota)),.own 1,.own 2,.own 3]),.row 44 (.nm .sess) ((((aU (State.mk v nx kp qt se op sn) c).1).sess)),.row 77 (.nm .opn) ((((aU (State.mk v nx kp qt se op sn) c).1).opens)),.row 59 (.nm .snap) ((((aU (State.mk v nx kp qt se op sn) c).1).snaps))]),false⟩) (bS 47 (bL (ai (kC (bQ 0 0)) (ai (kT (.nm .command)) aO)) (ay (bP 26 (aj cI (aj cI (aj cI (aj cI (aj (a_ 1) (aj (a_ 2) (aj (a_ 3) bK)))))))) (ay (aZ 44 (.nm .sess)) (ay (aZ 77 (.nm .opn)) (ay (aZ 59 (.nm .snap)) aN)))) fun (_,c,_) ((v,nx,kp,qt,_,_,_,_),se,op,sn,_)=>⟨[op.length<1048576],[.agg (cellsOf (.nm .reply) ((aS (State.mk v nx kp qt se op sn) c).2))],some ([.box 26 ([.int ((((aS (State.mk v nx kp qt se op sn) c).1).version)),.int ((((aS (State.mk v nx kp qt se op sn) c).1).next)),.int ((((aS (State.mk v nx kp qt se op sn) c).1).keep)),.int ((((aS (State.mk v nx kp qt se op sn) c).1).quota)),.own 1,.own 2,.own 3]),.row 44 (.nm .sess) ((((aS (State.mk v nx kp qt se op sn) c).1).sess)),.row 77 (.nm .opn) ((((aS (State.mk v nx kp qt se op sn) c).1).opens)),.row 59 (.nm .snap) ((((aS (State.mk v nx kp qt se op sn) c).1).snaps))]),false⟩) nF))))
theorem dM:aT Tryz.prog (au aF) iK:=(aA (az (ab (av ax) (ab (av aJ) ao)) (ag (aH (ae ax (ae ax (ae ax (ae ax (ae aC (ae aC (ae aC aG)))))))) (ag aB (ag aB (ag aB aq)))) fun (i,_,_) ((v,nx,kp,qt,_,_,_,_),se,op,sn,_) hp=>Ev i v nx kp qt se op sn (fb hp) (fb (nY hp))) (aA (az (ab (av aJ) (ab bI ao)) (ag (aH (ae ax (ae ax (ae ax (ae ax (ae aC (ae aC (ae aC aG)))))))) (ag aB (ag aB (ag aB aq)))) fun (_,c,_) ((v,nx,kp,qt,_,_,_,_),se,op,sn,_) hp=>wK c v nx kp qt se op sn (fb hp) (fb (nY hp)) (fb (nY (nY hp))) (fb (nY (nY (nY hp))))) (aA (az (ab (av aJ) (ab bI ao)) (ag (aH (ae ax (ae ax (ae ax (ae ax (ae aC (ae aC (ae aC aG)))))))) (ag aB (ag aB (ag aB aq)))) fun (_,c,_) ((v,nx,kp,qt,_,_,_,_),se,op,sn,_) hp=>xm c v nx kp qt se op sn (fb hp)) (aA (az (ab (av aJ) (ab bI ao)) (ag (aH (ae ax (ae ax (ae ax (ae ax (ae aC (ae aC (ae aC aG)))))))) (ag aB (ag aB (ag aB aq)))) fun (_,c,_) ((v,nx,kp,qt,_,_,_,_),se,op,sn,_) hp=>xb c v nx kp qt se op sn (fb hp)) f_))))
end Go.Proofs.YtdggohppeeaipaaGreat
namespace Go.Proofs.YtdggohppeeaipaaGreat
open Go.RowKit
def aw (f:State->Nat->State × Reply) (c:Command) (s:State):State × Reply:=if ah Snap.id c.id s.snaps<0 then (s,⟨15,0⟩) else f s (ah Snap.id c.id s.snaps).toNat
section
variable {v nx kp qt:Int} {se:List Sess} {op:List Opn} {sn:List Snap} {c:Command} {f:State->Nat->State × Reply}
theorem Ic (h:ah Snap.id c.id sn<0):aw f c (State.mk v nx kp qt se op sn)=(State.mk v nx kp qt se op sn,⟨15,0⟩):=by
 simp only [aw,if_pos h]
theorem HX (h:0<=ah Snap.id c.id sn):aw f c (State.mk v nx kp qt se op sn)=f (State.mk v nx kp qt se op sn) (ah Snap.id c.id sn).toNat:=by
 have h1:¬ ah Snap.id c.id sn<0:=by omega
 simp only [aw,if_neg h1]
end
theorem En (v:Int) (nx:Int) (kp:Int) (qt:Int) (se:List Sess) (op:List Opn) (sn:List Snap) (c:Command) (r0:Reply) (r1:Int) (r2:Int) (r3:Int) (r4:Int) (r5:List Sess) (r6:List Opn) (r7:List Snap) (r8:Command):n_ aF iK [] Tryz.f46 [.c (.ptr 0 0),.c (.ptr 4 0)] [.box 26 ([.int (v),.int (nx),.int (kp),.int (qt),.own 1,.own 2,.own 3]),.row 44 (.nm .sess) (se),.row 77 (.nm .opn) (op),.row 59 (.nm .snap) (sn),.box 29 (cellsOf (.nm .command) (c))] [.agg (cellsOf (.nm .reply) r0)] [.box 26 ([.int (r1),.int (r2),.int (r3),.int (r4),.own 1,.own 2,.own 3]),.row 44 (.nm .sess) (r5),.row 77 (.nm .opn) (r6),.row 59 (.nm .snap) (r7),.box 29 (cellsOf (.nm .command) (r8))]=((fun (q0:State × Reply)=>op.length<(1048576:Nat)/\(I64 q0.snd.code->I64 q0.snd.n->q0.snd.code=r0.code/\q0.snd.n=r0.n/\q0.fst.version=r1/\q0.fst.next=r2/\q0.fst.keep=r3/\q0.fst.quota=r4/\q0.fst.sess=r5/\q0.fst.opens=r6/\q0.fst.snaps=r7/\c.kind=r8.kind/\c.client=r8.client/\c.seq=r8.seq/\c.set=r8.set/\c.id=r8.id/\c.n=r8.n/\c.chunks=r8.chunks/\c.text=r8.text)) (aS (State.mk v nx kp qt se op sn) c)):=by kernel_rfl
theorem Gn (v:Int) (nx:Int) (kp:Int) (qt:Int) (se:List Sess) (op:List Opn) (sn:List Snap) (c:Command) (h0:op.length<1048576):Sat Tryz.prog (au aF) 46 [.c (.ptr 0 0),.c (.ptr 4 0)] [.box 26 ([.int (v),.int (nx),.int (kp),.int (qt),.own 1,.own 2,.own 3]),.row 44 (.nm .sess) (se),.row 77 (.nm .opn) (op),.row 59 (.nm .snap) (sn),.box 29 (cellsOf (.nm .command) (c))] ⟨[op.length<1048576],[.agg (cellsOf (.nm .reply) ((aS (State.mk v nx kp qt se op sn) c).2))],some ([.box 26 ([.int ((((aS (State.mk v nx kp qt se op sn) c).1).version)),.int ((((aS (State.mk v nx kp qt se op sn) c).1).next)),.int ((((aS (State.mk v nx kp qt se op sn) c).1).keep)),.int ((((aS (State.mk v nx kp qt se op sn) c).1).quota)),.own 1,.own 2,.own 3]),.row 44 (.nm .sess) ((((aS (State.mk v nx kp qt se op sn) c).1).sess)),.row 77 (.nm .opn) ((((aS (State.mk v nx kp qt se op sn) c).1).opens)),.row 59 (.nm .snap) ((((aS (State.mk v nx kp qt se op sn) c).1).snaps)),.box 29 (cellsOf (.nm .command) ((c)))]),false⟩:=by
 refine dt dM [] Tryz.func46 (by decide) (by kernel_rfl) ?_
 rw [En]
 (repeat' (first | with_reducible refine And.intro ?_ ?_ | with_reducible refine and_imp.2 ?_ | intro))
 all_goals (first | (first | with_reducible rfl | with_reducible assumption | omega | (refine al ?_ ?_ <;> omega)) | exact rfl)
theorem Ee (v:Int) (nx:Int) (kp:Int) (qt:Int) (se:List Sess) (op:List Opn) (sn:List Snap) (c:Command) (r0:Reply) (r1:Int) (r2:Int) (r3:Int) (r4:Int) (r5:List Sess) (r6:List Opn) (r7:List Snap) (r8:Command):n_ aF iK [] Tryz.f48 [.c (.ptr 0 0),.c (.ptr 4 0)] [.box 26 ([.int (v),.int (nx),.int (kp),.int (qt),.own 1,.own 2,.own 3]),.row 44 (.nm .sess) (se),.row 77 (.nm .opn) (op),.row 59 (.nm .snap) (sn),.box 29 (cellsOf (.nm .command) (c))] [.agg (cellsOf (.nm .reply) r0)] [.box 26 ([.int (r1),.int (r2),.int (r3),.int (r4),.own 1,.own 2,.own 3]),.row 44 (.nm .sess) (r5),.row 77 (.nm .opn) (r6),.row 59 (.nm .snap) (r7),.box 29 (cellsOf (.nm .command) (r8))]=((fun (q0:State × Reply)=>nch sn<=(1048576:Nat)/\sn.length<(1048576:Nat)/\op.length<(1048576:Nat)/\(0:Int)<=nx/\(I64 q0.snd.code->I64 q0.snd.n->q0.snd.code=r0.code/\q0.snd.n=r0.n/\q0.fst.version=r1/\q0.fst.next=r2/\q0.fst.keep=r3/\q0.fst.quota=r4/\q0.fst.sess=r5/\q0.fst.opens=r6/\q0.fst.snaps=r7/\c.kind=r8.kind/\c.client=r8.client/\c.seq=r8.seq/\c.set=r8.set/\c.id=r8.id/\c.n=r8.n/\c.chunks=r8.chunks/\c.text=r8.text)) (aM (State.mk v nx kp qt se op sn) c)):=by kernel_rfl
theorem Ec (v:Int) (nx:Int) (kp:Int) (qt:Int) (se:List Sess) (op:List Opn) (sn:List Snap) (c:Command) (h0:nch sn<=1048576) (h1:sn.length<1048576) (h2:op.length<1048576) (h3:0<=nx):Sat Tryz.prog (au aF) 48 [.c (.ptr 0 0),.c (.ptr 4 0)] [.box 26 ([.int (v),.int (nx),.int (kp),.int (qt),.own 1,.own 2,.own 3]),.row 44 (.nm .sess) (se),.row 77 (.nm .opn) (op),.row 59 (.nm .snap) (sn),.box 29 (cellsOf (.nm .command) (c))] ⟨[nch sn<=1048576,sn.length<1048576,op.length<1048576,0<=nx],[.agg (cellsOf (.nm .reply) ((aM (State.mk v nx kp qt se op sn) c).2))],some ([.box 26 ([.int ((((aM (State.mk v nx kp qt se op sn) c).1).version)),.int ((((aM (State.mk v nx kp qt se op sn) c).1).next)),.int ((((aM (State.mk v nx kp qt se op sn) c).1).keep)),.int ((((aM (State.mk v nx kp qt se op sn) c).1).quota)),.own 1,.own 2,.own 3]),.row 44 (.nm .sess) ((((aM (State.mk v nx kp qt se op sn) c).1).sess)),.row 77 (.nm .opn) ((((aM (State.mk v nx kp qt se op sn) c).1).opens)),.row 59 (.nm .snap) ((((aM (State.mk v nx kp qt se op sn) c).1).snaps)),.box 29 (cellsOf (.nm .command) ((c)))]),false⟩:=by
 refine dt dM [] Tryz.func48 (by decide) (by kernel_rfl) ?_
 rw [Ee]
 (repeat' (first | with_reducible refine And.intro ?_ ?_ | with_reducible refine and_imp.2 ?_ | intro))
 all_goals (first | (first | with_reducible rfl | with_reducible assumption | omega | (refine al ?_ ?_ <;> omega)) | exact rfl)
theorem FN (v:Int) (nx:Int) (kp:Int) (qt:Int) (se:List Sess) (op:List Opn) (sn:List Snap) (c:Command) (r0:Reply) (r1:Int) (r2:Int) (r3:Int) (r4:Int) (r5:List Sess) (r6:List Opn) (r7:List Snap) (r8:Command):n_ aF iK [] Tryz.f50 [.c (.ptr 0 0),.c (.ptr 4 0)] [.box 26 ([.int (v),.int (nx),.int (kp),.int (qt),.own 1,.own 2,.own 3]),.row 44 (.nm .sess) (se),.row 77 (.nm .opn) (op),.row 59 (.nm .snap) (sn),.box 29 (cellsOf (.nm .command) (c))] [.agg (cellsOf (.nm .reply) r0)] [.box 26 ([.int (r1),.int (r2),.int (r3),.int (r4),.own 1,.own 2,.own 3]),.row 44 (.nm .sess) (r5),.row 77 (.nm .opn) (r6),.row 59 (.nm .snap) (r7),.box 29 (cellsOf (.nm .command) (r8))]=((fun (q0:State × Reply)=>op.length<(1048576:Nat)/\(I64 q0.snd.code->I64 q0.snd.n->q0.snd.code=r0.code/\q0.snd.n=r0.n/\q0.fst.version=r1/\q0.fst.next=r2/\q0.fst.keep=r3/\q0.fst.quota=r4/\q0.fst.sess=r5/\q0.fst.opens=r6/\q0.fst.snaps=r7/\c.kind=r8.kind/\c.client=r8.client/\c.seq=r8.seq/\c.set=r8.set/\c.id=r8.id/\c.n=r8.n/\c.chunks=r8.chunks/\c.text=r8.text)) (aU (State.mk v nx kp qt se op sn) c)):=by kernel_rfl
theorem FK (v:Int) (nx:Int) (kp:Int) (qt:Int) (se:List Sess) (op:List Opn) (sn:List Snap) (c:Command) (h0:op.length<1048576):Sat Tryz.prog (au aF) 50 [.c (.ptr 0 0),.c (.ptr 4 0)] [.box 26 ([.int (v),.int (nx),.int (kp),.int (qt),.own 1,.own 2,.own 3]),.row 44 (.nm .sess) (se),.row 77 (.nm .opn) (op),.row 59 (.nm .snap) (sn),.box 29 (cellsOf (.nm .command) (c))] ⟨[op.length<1048576],[.agg (cellsOf (.nm .reply) ((aU (State.mk v nx kp qt se op sn) c).2))],some ([.box 26 ([.int ((((aU (State.mk v nx kp qt se op sn) c).1).version)),.int ((((aU (State.mk v nx kp qt se op sn) c).1).next)),.int ((((aU (State.mk v nx kp qt se op sn) c).1).keep)),.int ((((aU (State.mk v nx kp qt se op sn) c).1).quota)),.own 1,.own 2,.own 3]),.row 44 (.nm .sess) ((((aU (State.mk v nx kp qt se op sn) c).1).sess)),.row 77 (.nm .opn) ((((aU (State.mk v nx kp qt se op sn) c).1).opens)),.row 59 (.nm .snap) ((((aU (State.mk v nx kp qt se op sn) c).1).snaps)),.box 29 (cellsOf (.nm .command) ((c)))]),false⟩:=by
 refine dt dM [] Tryz.func50 (by decide) (by kernel_rfl) ?_
 rw [FN]
 (repeat' (first | with_reducible refine And.intro ?_ ?_ | with_reducible refine and_imp.2 ?_ | intro))
 all_goals (first | (first | with_reducible rfl | with_reducible assumption | omega | (refine al ?_ ?_ <;> omega)) | exact rfl)
theorem ph (v:Int) (nx:Int) (kp:Int) (qt:Int) (se:List Sess) (op:List Opn) (sn:List Snap) (c:Command) (r0:Int) (r1:Int) (r2:Int) (r3:Int) (r4:List Sess) (r5:List Opn) (r6:List Snap) (r7:Command):sa aF iK [] Tryz.f41 [.c (.fn 55 [] [(0,0)]),.c (.ptr 0 0),.c (.ptr 4 0)] [.box 26 ([.int (v),.int (nx),.int (kp),.int (qt),.own 1,.own 2,.own 3]),.row 44 (.nm .sess) (se),.row 77 (.nm .opn) (op),.row 59 (.nm .snap) (sn),.box 29 (cellsOf (.nm .command) (c))] [.c (.fn 42 [] [(0,0),(4,0),(5,0)])] [.box 26 ([.int (r0),.int (r1),.int (r2),.int (r3),.own 1,.own 2,.own 3]),.row 44 (.nm .sess) (r4),.row 77 (.nm .opn) (r5),.row 59 (.nm .snap) (r6),.box 29 (cellsOf (.nm .command) (r7)),.box 65 ([.fn 55 [] [(0,0)]])]=(v=r0/\nx=r1/\kp=r2/\qt=r3/\se=r4/\op=r5/\sn=r6/\c.kind=r7.kind/\c.client=r7.client/\c.seq=r7.seq/\c.set=r7.set/\c.id=r7.id/\c.n=r7.n/\c.chunks=r7.chunks/\c.text=r7.text):=by kernel_rfl
theorem pw (v:Int) (nx:Int) (kp:Int) (qt:Int) (se:List Sess) (op:List Opn) (sn:List Snap) (c:Command):Sat Tryz.prog (au aF) 41 [.c (.fn 55 [] [(0,0)]),.c (.ptr 0 0),.c (.ptr 4 0)] [.box 26 ([.int (v),.int (nx),.int (kp),.int (qt),.own 1,.own 2,.own 3]),.row 44 (.nm .sess) (se),.row 77 (.nm .opn) (op),.row 59 (.nm .snap) (sn),.box 29 (cellsOf (.nm .command) (c))] ⟨[],[.c (.fn 42 [] [(0,0),(4,0),(5,0)])],some ([.box 26 ([.int ((v)),.int ((nx)),.int ((kp)),.int ((qt)),.own 1,.own 2,.own 3]),.row 44 (.nm .sess) ((se)),.row 77 (.nm .opn) ((op)),.row 59 (.nm .snap) ((sn)),.box 29 (cellsOf (.nm .command) ((c))),.box 65 ([.fn 55 [] [(0,0)]])]),true⟩:=by
 refine eg dM [] Tryz.func41 (by decide) (by kernel_rfl) ?_
 rw [ph]
 (repeat' (first | with_reducible refine And.intro ?_ ?_ | with_reducible refine and_imp.2 ?_ | intro))
 all_goals (first | (first | with_reducible rfl | with_reducible assumption | omega | (refine al ?_ ?_ <;> omega)) | exact rfl)
theorem rA (v:Int) (nx:Int) (kp:Int) (qt:Int) (se:List Sess) (op:List Opn) (sn:List Snap) (c:Command) (r0:Int) (r1:Int) (r2:Int) (r3:Int) (r4:List Sess) (r5:List Opn) (r6:List Snap) (r7:Command):sa aF iK [] Tryz.f41 [.c (.fn 57 [] [(0,0)]),.c (.ptr 0 0),.c (.ptr 4 0)] [.box 26 ([.int (v),.int (nx),.int (kp),.int (qt),.own 1,.own 2,.own 3]),.row 44 (.nm .sess) (se),.row 77 (.nm .opn) (op),.row 59 (.nm .snap) (sn),.box 29 (cellsOf (.nm .command) (c))] [.c (.fn 42 [] [(0,0),(4,0),(5,0)])] [.box 26 ([.int (r0),.int (r1),.int (r2),.int (r3),.own 1,.own 2,.own 3]),.row 44 (.nm .sess) (r4),.row 77 (.nm .opn) (r5),.row 59 (.nm .snap) (r6),.box 29 (cellsOf (.nm .command) (r7)),.box 65 ([.fn 57 [] [(0,0)]])]=(v=r0/\nx=r1/\kp=r2/\qt=r3/\se=r4/\op=r5/\sn=r6/\c.kind=r7.kind/\c.client=r7.client/\c.seq=r7.seq/\c.set=r7.set/\c.id=r7.id/\c.n=r7.n/\c.chunks=r7.chunks/\c.text=r7.text):=by kernel_rfl
theorem qZ (v:Int) (nx:Int) (kp:Int) (qt:Int) (se:List Sess) (op:List Opn) (sn:List Snap) (c:Command):Sat Tryz.prog (au aF) 41 [.c (.fn 57 [] [(0,0)]),.c (.ptr 0 0),.c (.ptr 4 0)] [.box 26 ([.int (v),.int (nx),.int (kp),.int (qt),.own 1,.own 2,.own 3]),.row 44 (.nm .sess) (se),.row 77 (.nm .opn) (op),.row 59 (.nm .snap) (sn),.box 29 (cellsOf (.nm .command) (c))] ⟨[],[.c (.fn 42 [] [(0,0),(4,0),(5,0)])],some ([.box 26 ([.int ((v)),.int ((nx)),.int ((kp)),.int ((qt)),.own 1,.own 2,.own 3]),.row 44 (.nm .sess) ((se)),.row 77 (.nm .opn) ((op)),.row 59 (.nm .snap) ((sn)),.box 29 (cellsOf (.nm .command) ((c))),.box 65 ([.fn 57 [] [(0,0)]])]),true⟩:=by
 refine eg dM [] Tryz.func41 (by decide) (by kernel_rfl) ?_
 rw [rA]
 (repeat' (first | with_reducible refine And.intro ?_ ?_ | with_reducible refine and_imp.2 ?_ | intro))
 all_goals (first | (first | with_reducible rfl | with_reducible assumption | omega | (refine al ?_ ?_ <;> omega)) | exact rfl)
theorem s_ (c:Command) (v:Int) (nx:Int) (kp:Int) (qt:Int) (se:List Sess) (op:List Opn) (sn:List Snap) (r0:Command) (r1:Int) (r2:Int) (r3:Int) (r4:Int) (r5:List Sess) (r6:List Opn) (r7:List Snap):sa aF iK [] Tryz.f41 [.c (.fn 58 [] [(0,0),(1,0)]),.c (.ptr 1 0),.c (.ptr 0 0)] [.box 29 (cellsOf (.nm .command) (c)),.box 26 ([.int (v),.int (nx),.int (kp),.int (qt),.own 2,.own 3,.own 4]),.row 44 (.nm .sess) (se),.row 77 (.nm .opn) (op),.row 59 (.nm .snap) (sn)] [.c (.fn 42 [] [(1,0),(0,0),(5,0)])] [.box 29 (cellsOf (.nm .command) (r0)),.box 26 ([.int (r1),.int (r2),.int (r3),.int (r4),.own 2,.own 3,.own 4]),.row 44 (.nm .sess) (r5),.row 77 (.nm .opn) (r6),.row 59 (.nm .snap) (r7),.box 65 ([.fn 58 [] [(0,0),(1,0)]])]=(c.kind=r0.kind/\c.client=r0.client/\c.seq=r0.seq/\c.set=r0.set/\c.id=r0.id/\c.n=r0.n/\c.chunks=r0.chunks/\c.text=r0.text/\v=r1/\nx=r2/\kp=r3/\qt=r4/\se=r5/\op=r6/\sn=r7):=by kernel_rfl
theorem tF (c:Command) (v:Int) (nx:Int) (kp:Int) (qt:Int) (se:List Sess) (op:List Opn) (sn:List Snap):Sat Tryz.prog (au aF) 41 [.c (.fn 58 [] [(0,0),(1,0)]),.c (.ptr 1 0),.c (.ptr 0 0)] [.box 29 (cellsOf (.nm .command) (c)),.box 26 ([.int (v),.int (nx),.int (kp),.int (qt),.own 2,.own 3,.own 4]),.row 44 (.nm .sess) (se),.row 77 (.nm .opn) (op),.row 59 (.nm .snap) (sn)] ⟨[],[.c (.fn 42 [] [(1,0),(0,0),(5,0)])],some ([.box 29 (cellsOf (.nm .command) ((c))),.box 26 ([.int ((v)),.int ((nx)),.int ((kp)),.int ((qt)),.own 2,.own 3,.own 4]),.row 44 (.nm .sess) ((se)),.row 77 (.nm .opn) ((op)),.row 59 (.nm .snap) ((sn)),.box 65 ([.fn 58 [] [(0,0),(1,0)]])]),true⟩:=by
 refine eg dM [] Tryz.func41 (by decide) (by kernel_rfl) ?_
 rw [s_]
 (repeat' (first | with_reducible refine And.intro ?_ ?_ | with_reducible refine and_imp.2 ?_ | intro))
 all_goals (first | (first | with_reducible rfl | with_reducible assumption | omega | (refine al ?_ ?_ <;> omega)) | exact rfl)
theorem qX (v:Int) (nx:Int) (kp:Int) (qt:Int) (se:List Sess) (op:List Opn) (sn:List Snap) (b:Bool) (c:Command) (r0:Int) (r1:Int) (r2:Int) (r3:Int) (r4:List Sess) (r5:List Opn) (r6:List Snap) (r7:Bool) (r8:Command):sa aF iK [] Tryz.f41 [.c (.fn 45 [] [(0,0),(4,0)]),.c (.ptr 0 0),.c (.ptr 5 0)] [.box 26 ([.int (v),.int (nx),.int (kp),.int (qt),.own 1,.own 2,.own 3]),.row 44 (.nm .sess) (se),.row 77 (.nm .opn) (op),.row 59 (.nm .snap) (sn),.box 4 ([.bool (.atom (b))]),.box 29 (cellsOf (.nm .command) (c))] [.c (.fn 42 [] [(0,0),(5,0),(6,0)])] [.box 26 ([.int (r0),.int (r1),.int (r2),.int (r3),.own 1,.own 2,.own 3]),.row 44 (.nm .sess) (r4),.row 77 (.nm .opn) (r5),.row 59 (.nm .snap) (r6),.box 4 ([.bool (.atom (r7))]),.box 29 (cellsOf (.nm .command) (r8)),.box 65 ([.fn 45 [] [(0,0),(4,0)]])]=(v=r0/\nx=r1/\kp=r2/\qt=r3/\se=r4/\op=r5/\sn=r6/\b=r7/\c.kind=r8.kind/\c.client=r8.client/\c.seq=r8.seq/\c.set=r8.set/\c.id=r8.id/\c.n=r8.n/\c.chunks=r8.chunks/\c.text=r8.text):=by kernel_rfl
theorem qN (v:Int) (nx:Int) (kp:Int) (qt:Int) (se:List Sess) (op:List Opn) (sn:List Snap) (b:Bool) (c:Command):Sat Tryz.prog (au aF) 41 [.c (.fn 45 [] [(0,0),(4,0)]),.c (.ptr 0 0),.c (.ptr 5 0)] [.box 26 ([.int (v),.int (nx),.int (kp),.int (qt),.own 1,.own 2,.own 3]),.row 44 (.nm .sess) (se),.row 77 (.nm .opn) (op),.row 59 (.nm .snap) (sn),.box 4 ([.bool (.atom (b))]),.box 29 (cellsOf (.nm .command) (c))] ⟨[],[.c (.fn 42 [] [(0,0),(5,0),(6,0)])],some ([.box 26 ([.int ((v)),.int ((nx)),.int ((kp)),.int ((qt)),.own 1,.own 2,.own 3]),.row 44 (.nm .sess) ((se)),.row 77 (.nm .opn) ((op)),.row 59 (.nm .snap) ((sn)),.box 4 ([.bool (.atom ((b)))]),.box 29 (cellsOf (.nm .command) ((c))),.box 65 ([.fn 45 [] [(0,0),(4,0)]])]),true⟩:=by
 refine eg dM [] Tryz.func41 (by decide) (by kernel_rfl) ?_
 rw [qX]
 (repeat' (first | with_reducible refine And.intro ?_ ?_ | with_reducible refine and_imp.2 ?_ | intro))
 all_goals (first | (first | with_reducible rfl | with_reducible assumption | omega | (refine al ?_ ?_ <;> omega)) | exact rfl)
def ln:cw:=(bS 41 (bL (ai (kC (mY 45 [] [(0,0),(4,0)])) (ai (kC (bQ 0 0)) (ai (kC (bQ 5 0)) aO))) (ay (bP 26 (aj cI (aj cI (aj cI (aj cI (aj (a_ 1) (aj (a_ 2) (aj (a_ 3) bK)))))))) (ay (aZ 44 (.nm .sess)) (ay (aZ 77 (.nm .opn)) (ay (aZ 59 (.nm .snap)) (ay (bP 4 (aj cB bK)) (ay (bP 29 (pQ (.nm .command) bK)) aN)))))) fun (_,_,_,_) ((v,nx,kp,qt,_,_,_,_),se,op,sn,(b,_),(c,_),_)=>⟨[],[.c (.fn 42 [] [(0,0),(5,0),(6,0)])],some ([.box 26 ([.int ((v)),.int ((nx)),.int ((kp)),.int ((qt)),.own 1,.own 2,.own 3]),.row 44 (.nm .sess) ((se)),.row 77 (.nm .opn) ((op)),.row 59 (.nm .snap) ((sn)),.box 4 ([.bool (.atom ((b)))]),.box 29 (cellsOf (.nm .command) ((c))),.box 65 ([.fn 45 [] [(0,0),(4,0)]])]),true⟩) (bS 41 (bL (ai (kC (mY 58 [] [(0,0),(1,0)])) (ai (kC (bQ 1 0)) (ai (kC (bQ 0 0)) aO))) (ay (bP 29 (pQ (.nm .command) bK)) (ay (bP 26 (aj cI (aj cI (aj cI (aj cI (aj (a_ 2) (aj (a_ 3) (aj (a_ 4) bK)))))))) (ay (aZ 44 (.nm .sess)) (ay (aZ 77 (.nm .opn)) (ay (aZ 59 (.nm .snap)) aN))))) fun (_,_,_,_) ((c,_),(v,nx,kp,qt,_,_,_,_),se,op,sn,_)=>⟨[],[.c (.fn 42 [] [(1,0),(0,0),(5,0)])],some ([.box 29 (cellsOf (.nm .command) ((c))),.box 26 ([.int ((v)),.int ((nx)),.int ((kp)),.int ((qt)),.own 2,.own 3,.own 4]),.row 44 (.nm .sess) ((se)),.row 77 (.nm .opn) ((op)),.row 59 (.nm .snap) ((sn)),.box 65 ([.fn 58 [] [(0,0),(1,0)]])]),true⟩) (bS 41 (bL (ai (kC (mY 57 [] [(0,0)])) (ai (kC (bQ 0 0)) (ai (kC (bQ 4 0)) aO))) (ay (bP 26 (aj cI (aj cI (aj cI (aj cI (aj (a_ 1) (aj (a_ 2) (aj (a_ 3) bK)))))))) (ay (aZ 44 (.nm .sess)) (ay (aZ 77 (.nm .opn)) (ay (aZ 59 (.nm .snap)) (ay (bP 29 (pQ (.nm .command) bK)) aN))))) fun (_,_,_,_) ((v,nx,kp,qt,_,_,_,_),se,op,sn,(c,_),_)=>⟨[],[.c (.fn 42 [] [(0,0),(4,0),(5,0)])],some ([.box 26 ([.int ((v)),.int ((nx)),.int ((kp)),.int ((qt)),.own 1,.own 2,.own 3]),.row 44 (.nm .sess) ((se)),.row 77 (.nm .opn) ((op)),.row 59 (.nm .snap) ((sn)),.box 29 (cellsOf (.nm .command) ((c))),.box 65 ([.fn 57 [] [(0,0)]])]),true⟩) (bS 41 (bL (ai (kC (mY 55 [] [(0,0)])) (ai (kC (bQ 0 0)) (ai (kC (bQ 4 0)) aO))) (ay (bP 26 (aj cI (aj cI (aj cI (aj cI (aj (a_ 1) (aj (a_ 2) (aj (a_ 3) bK)))))))) (ay (aZ 44 (.nm .sess)) (ay (aZ 77 (.nm .opn)) (ay (aZ 59 (.nm .snap)) (ay (bP 29 (pQ (.nm .command) bK)) aN))))) fun (_,_,_,_) ((v,nx,kp,qt,_,_,_,_),se,op,sn,(c,_),_)=>⟨[],[.c (.fn 42 [] [(0,0),(4,0),(5,0)])],some ([.box 26 ([.int ((v)),.int ((nx)),.int ((kp)),.int ((qt)),.own 1,.own 2,.own 3]),.row 44 (.nm .sess) ((se)),.row 77 (.nm .opn) ((op)),.row 59 (.nm .snap) ((sn)),.box 29 (cellsOf (.nm .command) ((c))),.box 65 ([.fn 55 [] [(0,0)]])]),true⟩) (bS 50 (bL (ai (kC (bQ 0 0)) (ai (kC (bQ 4 0)) aO)) (ay (bP 26 (aj cI (aj cI (aj cI (aj cI (aj (a_ 1) (aj (a_ 2) (aj (a_ 3) bK)))))))) (ay (aZ 44 (.nm .sess)) (ay (aZ 77 (.nm .opn)) (ay (aZ 59 (.nm .snap)) (ay (bP 29 (pQ (.nm .command) bK)) aN))))) fun (_,_,_) ((v,nx,kp,qt,_,_,_,_),se,op,sn,(c,_),_)=>⟨[op.length<1048576],[.agg (cellsOf (.nm .reply) ((aU (State.mk v nx kp qt se op sn) c).2))],some ([.box 26 ([.int ((((aU (State.mk v nx kp qt se op sn) c).1).version)),.int ((((aU (State.mk v nx kp qt se op sn) c).1).next)),.int ((((aU (State.mk v nx kp qt se op sn) c).1).keep)),.int ((((aU (State.mk v nx kp qt se op sn) c).1).quota)),.own 1,.own 2,.own 3]),.row 44 (.nm .sess) ((((aU (State.mk v nx kp qt se op sn) c).1).sess)),.row 77 (.nm .opn) ((((aU (State.mk v nx kp qt se op sn) c).1).opens)),.row 59 (.nm .snap) ((((aU (State.mk v nx kp qt se op sn) c).1).snaps)),.box 29 (cellsOf (.nm .command) ((c)))]),false⟩) (bS 48 (bL (ai (kC (bQ 0 0)) (ai (kC (bQ 4 0)) aO)) (ay (bP 26 (aj cI (aj cI (aj cI (aj cI (aj (a_ 1) (aj (a_ 2) (aj (a_ 3) bK)))))))) (ay (aZ 44 (.nm .sess)) (ay (aZ 77 (.nm .opn)) (ay (aZ 59 (.nm .snap)) (ay (bP 29 (pQ (.nm .command) bK)) aN))))) fun (_,_,_) ((v,nx,kp,qt,_,_,_,_),se,op,sn,(c,_),_)=>⟨[nch sn<=1048576,sn.length<1048576,op.length<1048576,0<=nx],[.agg (cellsOf (.nm .reply) ((aM (State.mk v nx kp qt se op sn) c).2))],some ([.box 26 ([.int ((((aM (State.mk v nx kp qt se op sn) c).1).version)),.int ((((aM (State.mk v nx kp qt se op sn) c).1).next)),.int ((((aM (State.mk v nx kp qt se op sn) c).1).keep)),.int ((((aM (State.mk v nx kp qt se op sn) c).1).quota)),.own 1,.own 2,.own 3]),.row 44 (.nm .sess) ((((aM (State.mk v nx kp qt se op sn) c).1).sess)),.row 77 (.nm .opn) ((((aM (State.mk v nx kp qt se op sn) c).1).opens)),.row 59 (.nm .snap) ((((aM (State.mk v nx kp qt se op sn) c).1).snaps)),.box 29 (cellsOf (.nm .command) ((c)))]),false⟩) (bS 46 (bL (ai (kC (bQ 0 0)) (ai (kC (bQ 4 0)) aO)) (ay (bP 26 (aj cI (aj cI (aj cI (aj cI (aj (a_ 1) (aj (a_ 2) (aj (a_ 3) bK)))))))) (ay (aZ 44 (.nm .sess)) (ay (aZ 77 (.nm .opn)) (ay (aZ 59 (.nm .snap)) (ay (bP 29 (pQ (.nm .command) bK)) aN))))) fun (_,_,_) ((v,nx,kp,qt,_,_,_,_),se,op,sn,(c,_),_)=>⟨[op.length<1048576],[.agg (cellsOf (.nm .reply) ((aS (State.mk v nx kp qt se op sn) c).2))],some ([.box 26 ([.int ((((aS (State.mk v nx kp qt se op sn) c).1).version)),.int ((((aS (State.mk v nx kp qt se op sn) c).1).next)),.int ((((aS (State.mk v nx kp qt se op sn) c).1).keep)),.int ((((aS (State.mk v nx kp qt se op sn) c).1).quota)),.own 1,.own 2,.own 3]),.row 44 (.nm .sess) ((((aS (State.mk v nx kp qt se op sn) c).1).sess)),.row 77 (.nm .opn) ((((aS (State.mk v nx kp qt se op sn) c).1).opens)),.row 59 (.nm .snap) ((((aS (State.mk v nx kp qt se op sn) c).1).snaps)),.box 29 (cellsOf (.nm .command) ((c)))]),false⟩) iK)))))))
theorem eX:aT Tryz.prog (au aF) ln:=(aA (az (ab (av cm) (ab (av aJ) (ab (av aJ) ao))) (ag (aH (ae ax (ae ax (ae ax (ae ax (ae aC (ae aC (ae aC aG)))))))) (ag aB (ag aB (ag aB (ag (aH (ae oa aG)) (ag (aH (cQ aG)) aq)))))) fun (_,_,_,_) ((v,nx,kp,qt,_,_,_,_),se,op,sn,(b,_),(c,_),_) _=>qN v nx kp qt se op sn b c ) (aA (az (ab (av cm) (ab (av aJ) (ab (av aJ) ao))) (ag (aH (cQ aG)) (ag (aH (ae ax (ae ax (ae ax (ae ax (ae aC (ae aC (ae aC aG)))))))) (ag aB (ag aB (ag aB aq))))) fun (_,_,_,_) ((c,_),(v,nx,kp,qt,_,_,_,_),se,op,sn,_) _=>tF c v nx kp qt se op sn ) (aA (az (ab (av cm) (ab (av aJ) (ab (av aJ) ao))) (ag (aH (ae ax (ae ax (ae ax (ae ax (ae aC (ae aC (ae aC aG)))))))) (ag aB (ag aB (ag aB (ag (aH (cQ aG)) aq))))) fun (_,_,_,_) ((v,nx,kp,qt,_,_,_,_),se,op,sn,(c,_),_) _=>qZ v nx kp qt se op sn c ) (aA (az (ab (av cm) (ab (av aJ) (ab (av aJ) ao))) (ag (aH (ae ax (ae ax (ae ax (ae ax (ae aC (ae aC (ae aC aG)))))))) (ag aB (ag aB (ag aB (ag (aH (cQ aG)) aq))))) fun (_,_,_,_) ((v,nx,kp,qt,_,_,_,_),se,op,sn,(c,_),_) _=>pw v nx kp qt se op sn c ) (aA (az (ab (av aJ) (ab (av aJ) ao)) (ag (aH (ae ax (ae ax (ae ax (ae ax (ae aC (ae aC (ae aC aG)))))))) (ag aB (ag aB (ag aB (ag (aH (cQ aG)) aq))))) fun (_,_,_) ((v,nx,kp,qt,_,_,_,_),se,op,sn,(c,_),_) hp=>FK v nx kp qt se op sn c (fb hp)) (aA (az (ab (av aJ) (ab (av aJ) ao)) (ag (aH (ae ax (ae ax (ae ax (ae ax (ae aC (ae aC (ae aC aG)))))))) (ag aB (ag aB (ag aB (ag (aH (cQ aG)) aq))))) fun (_,_,_) ((v,nx,kp,qt,_,_,_,_),se,op,sn,(c,_),_) hp=>Ec v nx kp qt se op sn c (fb hp) (fb (nY hp)) (fb (nY (nY hp))) (fb (nY (nY (nY hp))))) (aA (az (ab (av aJ) (ab (av aJ) ao)) (ag (aH (ae ax (ae ax (ae ax (ae ax (ae aC (ae aC (ae aC aG)))))))) (ag aB (ag aB (ag aB (ag (aH (cQ aG)) aq))))) fun (_,_,_) ((v,nx,kp,qt,_,_,_,_),se,op,sn,(c,_),_) hp=>Gn v nx kp qt se op sn c (fb hp)) dM)))))))
end Go.Proofs.YtdggohppeeaipaaGreat
namespace Go.Proofs.YtdggohppeeaipaaGreat
open Go.RowKit
theorem Eh (b:Bool) (v:Int) (nx:Int) (kp:Int) (qt:Int) (se:List Sess) (op:List Opn) (sn:List Snap) (c:Command) (r0:Int) (r1:Int) (r2:Int) (r3:Int) (r4:List Sess) (r5:List Opn) (r6:List Snap) (r7:Command) (r8:Bool):sa aF ln [] Tryz.f44 [.c (.bool (.atom (b))),.c (.ptr 0 0),.c (.ptr 1 0)] [.box 67 ([.fn 41 [] [(1,0),(5,0)]]),.box 26 ([.int (v),.int (nx),.int (kp),.int (qt),.own 2,.own 3,.own 4]),.row 44 (.nm .sess) (se),.row 77 (.nm .opn) (op),.row 59 (.nm .snap) (sn),.box 29 (cellsOf (.nm .command) (c))] [.c (.fn 42 [] [(1,0),(5,0),(7,0)])] [.box 67 ([.fn 41 [] [(1,0),(5,0)]]),.box 26 ([.int (r0),.int (r1),.int (r2),.int (r3),.own 2,.own 3,.own 4]),.row 44 (.nm .sess) (r4),.row 77 (.nm .opn) (r5),.row 59 (.nm .snap) (r6),.box 29 (cellsOf (.nm .command) (r7)),.box 4 ([.bool (.atom (r8))]),.box 65 ([.fn 45 [] [(1,0),(6,0)]])]=(v=r0/\nx=r1/\kp=r2/\qt=r3/\se=r4/\op=r5/\sn=r6/\c.kind=r7.kind/\c.client=r7.client/\c.seq=r7.seq/\c.set=r7.set/\c.id=r7.id/\c.n=r7.n/\c.chunks=r7.chunks/\c.text=r7.text/\b=r8):=by kernel_rfl
theorem Gf (b:Bool) (v:Int) (nx:Int) (kp:Int) (qt:Int) (se:List Sess) (op:List Opn) (sn:List Snap) (c:Command):Sat Tryz.prog (au aF) 44 [.c (.bool (.atom (b))),.c (.ptr 0 0),.c (.ptr 1 0)] [.box 67 ([.fn 41 [] [(1,0),(5,0)]]),.box 26 ([.int (v),.int (nx),.int (kp),.int (qt),.own 2,.own 3,.own 4]),.row 44 (.nm .sess) (se),.row 77 (.nm .opn) (op),.row 59 (.nm .snap) (sn),.box 29 (cellsOf (.nm .command) (c))] ⟨[],[.c (.fn 42 [] [(1,0),(5,0),(7,0)])],some ([.box 67 ([.fn 41 [] [(1,0),(5,0)]]),.box 26 ([.int ((v)),.int ((nx)),.int ((kp)),.int ((qt)),.own 2,.own 3,.own 4]),.row 44 (.nm .sess) ((se)),.row 77 (.nm .opn) ((op)),.row 59 (.nm .snap) ((sn)),.box 29 (cellsOf (.nm .command) ((c))),.box 4 ([.bool (.atom ((b)))]),.box 65 ([.fn 45 [] [(1,0),(6,0)]])]),true⟩:=by
 refine eg eX [] Tryz.func44 (by decide) (by kernel_rfl) ?_
 rw [Eh]
 (repeat' (first | with_reducible refine And.intro ?_ ?_ | with_reducible refine and_imp.2 ?_ | intro))
 all_goals (first | (first | with_reducible rfl | with_reducible assumption | omega | (refine al ?_ ?_ <;> omega)) | exact rfl)
theorem tE (v:Int) (nx:Int) (kp:Int) (qt:Int) (se:List Sess) (op:List Opn) (sn:List Snap) (c:Command) (r0:Reply) (r1:Int) (r2:Int) (r3:Int) (r4:Int) (r5:List Sess) (r6:List Opn) (r7:List Snap) (r8:Command):n_ aF ln [] Tryz.f42 [.c (.ptr 0 0),.c (.ptr 4 0),.c (.ptr 5 0)] [.box 26 ([.int (v),.int (nx),.int (kp),.int (qt),.own 1,.own 2,.own 3]),.row 44 (.nm .sess) (se),.row 77 (.nm .opn) (op),.row 59 (.nm .snap) (sn),.box 29 (cellsOf (.nm .command) (c)),.box 65 ([.fn 55 [] [(0,0)]])] [.agg (cellsOf (.nm .reply) r0)] [.box 26 ([.int (r1),.int (r2),.int (r3),.int (r4),.own 1,.own 2,.own 3]),.row 44 (.nm .sess) (r5),.row 77 (.nm .opn) (r6),.row 59 (.nm .snap) (r7),.box 29 (cellsOf (.nm .command) (r8)),.box 65 ([.fn 55 [] [(0,0)]])]=((fun (q2:Int)=>(fun (q1:Prop)=>(fun (q0:State × Reply)=>I64 q2->(q2<(0:Int)->I64 (15:Int)->I64 (0:Int)->(15:Int)=r0.code/\(0:Int)=r0.n/\v=r1/\nx=r2/\kp=r3/\qt=r4/\se=r5/\op=r6/\sn=r7/\q1)/\((0:Int)<=q2->((0:Int)<=q2/\q2<(↑sn.length:Int))/\nch sn<=(1048576:Nat)/\(I64 q0.snd.code->I64 q0.snd.n->q0.snd.code=r0.code/\q0.snd.n=r0.n/\q0.fst.version=r1/\q0.fst.next=r2/\q0.fst.keep=r3/\q0.fst.quota=r4/\q0.fst.sess=r5/\q0.fst.opens=r6/\q0.fst.snaps=r7/\q1))) (aK (State.mk v nx kp qt se op sn) q2.toNat)) (c.kind=r8.kind/\c.client=r8.client/\c.seq=r8.seq/\c.set=r8.set/\c.id=r8.id/\c.n=r8.n/\c.chunks=r8.chunks/\c.text=r8.text)) (ah Snap.id c.id sn)):=by kernel_rfl
theorem sZ (v:Int) (nx:Int) (kp:Int) (qt:Int) (se:List Sess) (op:List Opn) (sn:List Snap) (c:Command) (h0:nch sn<=1048576):Sat Tryz.prog (au aF) 42 [.c (.ptr 0 0),.c (.ptr 4 0),.c (.ptr 5 0)] [.box 26 ([.int (v),.int (nx),.int (kp),.int (qt),.own 1,.own 2,.own 3]),.row 44 (.nm .sess) (se),.row 77 (.nm .opn) (op),.row 59 (.nm .snap) (sn),.box 29 (cellsOf (.nm .command) (c)),.box 65 ([.fn 55 [] [(0,0)]])] ⟨[nch sn<=1048576],[.agg (cellsOf (.nm .reply) ((aw aK c (State.mk v nx kp qt se op sn)).2))],some ([.box 26 ([.int ((((aw aK c (State.mk v nx kp qt se op sn)).1).version)),.int ((((aw aK c (State.mk v nx kp qt se op sn)).1).next)),.int ((((aw aK c (State.mk v nx kp qt se op sn)).1).keep)),.int ((((aw aK c (State.mk v nx kp qt se op sn)).1).quota)),.own 1,.own 2,.own 3]),.row 44 (.nm .sess) ((((aw aK c (State.mk v nx kp qt se op sn)).1).sess)),.row 77 (.nm .opn) ((((aw aK c (State.mk v nx kp qt se op sn)).1).opens)),.row 59 (.nm .snap) ((((aw aK c (State.mk v nx kp qt se op sn)).1).snaps)),.box 29 (cellsOf (.nm .command) ((c))),.box 65 ([.fn 55 [] [(0,0)]])]),false⟩:=by
 refine dt eX [] Tryz.func42 (by decide) (by kernel_rfl) ?_
 rw [tE]
 (repeat' (first | with_reducible refine And.intro ?_ ?_ | with_reducible refine and_imp.2 ?_ | intro))
 all_goals (first | (first | with_reducible rfl | with_reducible assumption | omega | (refine al ?_ ?_ <;> omega)) | exact bD (by with_reducible assumption) | (rw [Ic] <;> first | rfl | omega) | (rw [HX] <;> first | rfl | omega))
theorem vq (v:Int) (nx:Int) (kp:Int) (qt:Int) (se:List Sess) (op:List Opn) (sn:List Snap) (c:Command) (r0:Reply) (r1:Int) (r2:Int) (r3:Int) (r4:Int) (r5:List Sess) (r6:List Opn) (r7:List Snap) (r8:Command):n_ aF ln [] Tryz.f42 [.c (.ptr 0 0),.c (.ptr 4 0),.c (.ptr 5 0)] [.box 26 ([.int (v),.int (nx),.int (kp),.int (qt),.own 1,.own 2,.own 3]),.row 44 (.nm .sess) (se),.row 77 (.nm .opn) (op),.row 59 (.nm .snap) (sn),.box 29 (cellsOf (.nm .command) (c)),.box 65 ([.fn 57 [] [(0,0)]])] [.agg (cellsOf (.nm .reply) r0)] [.box 26 ([.int (r1),.int (r2),.int (r3),.int (r4),.own 1,.own 2,.own 3]),.row 44 (.nm .sess) (r5),.row 77 (.nm .opn) (r6),.row 59 (.nm .snap) (r7),.box 29 (cellsOf (.nm .command) (r8)),.box 65 ([.fn 57 [] [(0,0)]])]=((fun (q2:Int)=>(fun (q1:Prop)=>(fun (q0:State × Reply)=>I64 q2->(q2<(0:Int)->I64 (15:Int)->I64 (0:Int)->(15:Int)=r0.code/\(0:Int)=r0.n/\v=r1/\nx=r2/\kp=r3/\qt=r4/\se=r5/\op=r6/\sn=r7/\q1)/\((0:Int)<=q2->((0:Int)<=q2/\q2<(↑sn.length:Int))/\(I64 q0.snd.code->I64 q0.snd.n->q0.snd.code=r0.code/\q0.snd.n=r0.n/\q0.fst.version=r1/\q0.fst.next=r2/\q0.fst.keep=r3/\q0.fst.quota=r4/\q0.fst.sess=r5/\q0.fst.opens=r6/\q0.fst.snaps=r7/\q1))) (bb (State.mk v nx kp qt se op sn) q2.toNat)) (c.kind=r8.kind/\c.client=r8.client/\c.seq=r8.seq/\c.set=r8.set/\c.id=r8.id/\c.n=r8.n/\c.chunks=r8.chunks/\c.text=r8.text)) (ah Snap.id c.id sn)):=by kernel_rfl
theorem vY (v:Int) (nx:Int) (kp:Int) (qt:Int) (se:List Sess) (op:List Opn) (sn:List Snap) (c:Command):Sat Tryz.prog (au aF) 42 [.c (.ptr 0 0),.c (.ptr 4 0),.c (.ptr 5 0)] [.box 26 ([.int (v),.int (nx),.int (kp),.int (qt),.own 1,.own 2,.own 3]),.row 44 (.nm .sess) (se),.row 77 (.nm .opn) (op),.row 59 (.nm .snap) (sn),.box 29 (cellsOf (.nm .command) (c)),.box 65 ([.fn 57 [] [(0,0)]])] ⟨[],[.agg (cellsOf (.nm .reply) ((aw bb c (State.mk v nx kp qt se op sn)).2))],some ([.box 26 ([.int ((((aw bb c (State.mk v nx kp qt se op sn)).1).version)),.int ((((aw bb c (State.mk v nx kp qt se op sn)).1).next)),.int ((((aw bb c (State.mk v nx kp qt se op sn)).1).keep)),.int ((((aw bb c (State.mk v nx kp qt se op sn)).1).quota)),.own 1,.own 2,.own 3]),.row 44 (.nm .sess) ((((aw bb c (State.mk v nx kp qt se op sn)).1).sess)),.row 77 (.nm .opn) ((((aw bb c (State.mk v nx kp qt se op sn)).1).opens)),.row 59 (.nm .snap) ((((aw bb c (State.mk v nx kp qt se op sn)).1).snaps)),.box 29 (cellsOf (.nm .command) ((c))),.box 65 ([.fn 57 [] [(0,0)]])]),false⟩:=by
 refine dt eX [] Tryz.func42 (by decide) (by kernel_rfl) ?_
 rw [vq]
 (repeat' (first | with_reducible refine And.intro ?_ ?_ | with_reducible refine and_imp.2 ?_ | intro))
 all_goals (first | (first | with_reducible rfl | with_reducible assumption | omega | (refine al ?_ ?_ <;> omega)) | exact bD (by with_reducible assumption) | (rw [Ic] <;> first | rfl | omega) | (rw [HX] <;> first | rfl | omega))
theorem wZ (v:Int) (nx:Int) (kp:Int) (qt:Int) (se:List Sess) (op:List Opn) (sn:List Snap) (c:Command) (r0:Reply) (r1:Int) (r2:Int) (r3:Int) (r4:Int) (r5:List Sess) (r6:List Opn) (r7:List Snap) (r8:Command):n_ aF ln [] Tryz.f42 [.c (.ptr 0 0),.c (.ptr 4 0),.c (.ptr 5 0)] [.box 26 ([.int (v),.int (nx),.int (kp),.int (qt),.own 1,.own 2,.own 3]),.row 44 (.nm .sess) (se),.row 77 (.nm .opn) (op),.row 59 (.nm .snap) (sn),.box 29 (cellsOf (.nm .command) (c)),.box 65 ([.fn 58 [] [(4,0),(0,0)]])] [.agg (cellsOf (.nm .reply) r0)] [.box 26 ([.int (r1),.int (r2),.int (r3),.int (r4),.own 1,.own 2,.own 3]),.row 44 (.nm .sess) (r5),.row 77 (.nm .opn) (r6),.row 59 (.nm .snap) (r7),.box 29 (cellsOf (.nm .command) (r8)),.box 65 ([.fn 58 [] [(4,0),(0,0)]])]=((fun (q2:Int)=>(fun (q1:Prop)=>(fun (q0:State × Reply)=>I64 q2->(q2<(0:Int)->I64 (15:Int)->I64 (0:Int)->(15:Int)=r0.code/\(0:Int)=r0.n/\v=r1/\nx=r2/\kp=r3/\qt=r4/\se=r5/\op=r6/\sn=r7/\q1)/\((0:Int)<=q2->((0:Int)<=q2/\q2<(↑sn.length:Int))/\(I64 q0.snd.code->I64 q0.snd.n->q0.snd.code=r0.code/\q0.snd.n=r0.n/\q0.fst.version=r1/\q0.fst.next=r2/\q0.fst.keep=r3/\q0.fst.quota=r4/\q0.fst.sess=r5/\q0.fst.opens=r6/\q0.fst.snaps=r7/\q1))) (cz c (State.mk v nx kp qt se op sn) q2.toNat)) (c.kind=r8.kind/\c.client=r8.client/\c.seq=r8.seq/\c.set=r8.set/\c.id=r8.id/\c.n=r8.n/\c.chunks=r8.chunks/\c.text=r8.text)) (ah Snap.id c.id sn)):=by kernel_rfl
theorem yZ (v:Int) (nx:Int) (kp:Int) (qt:Int) (se:List Sess) (op:List Opn) (sn:List Snap) (c:Command):Sat Tryz.prog (au aF) 42 [.c (.ptr 0 0),.c (.ptr 4 0),.c (.ptr 5 0)] [.box 26 ([.int (v),.int (nx),.int (kp),.int (qt),.own 1,.own 2,.own 3]),.row 44 (.nm .sess) (se),.row 77 (.nm .opn) (op),.row 59 (.nm .snap) (sn),.box 29 (cellsOf (.nm .command) (c)),.box 65 ([.fn 58 [] [(4,0),(0,0)]])] ⟨[],[.agg (cellsOf (.nm .reply) ((aw (cz c) c (State.mk v nx kp qt se op sn)).2))],some ([.box 26 ([.int ((((aw (cz c) c (State.mk v nx kp qt se op sn)).1).version)),.int ((((aw (cz c) c (State.mk v nx kp qt se op sn)).1).next)),.int ((((aw (cz c) c (State.mk v nx kp qt se op sn)).1).keep)),.int ((((aw (cz c) c (State.mk v nx kp qt se op sn)).1).quota)),.own 1,.own 2,.own 3]),.row 44 (.nm .sess) ((((aw (cz c) c (State.mk v nx kp qt se op sn)).1).sess)),.row 77 (.nm .opn) ((((aw (cz c) c (State.mk v nx kp qt se op sn)).1).opens)),.row 59 (.nm .snap) ((((aw (cz c) c (State.mk v nx kp qt se op sn)).1).snaps)),.box 29 (cellsOf (.nm .command) ((c))),.box 65 ([.fn 58 [] [(4,0),(0,0)]])]),false⟩:=by
 refine dt eX [] Tryz.func42 (by decide) (by kernel_rfl) ?_
 rw [wZ]
 (repeat' (first | with_reducible refine And.intro ?_ ?_ | with_reducible refine and_imp.2 ?_ | intro))
 all_goals (first | (first | with_reducible rfl | with_reducible assumption | omega | (refine al ?_ ?_ <;> omega)) | exact bD (by with_reducible assumption) | (rw [Ic] <;> first | rfl | omega) | (rw [HX] <;> first | rfl | omega))
theorem vp (v:Int) (nx:Int) (kp:Int) (qt:Int) (se:List Sess) (op:List Opn) (sn:List Snap) (c:Command) (b:Bool) (r0:Reply) (r1:Int) (r2:Int) (r3:Int) (r4:Int) (r5:List Sess) (r6:List Opn) (r7:List Snap) (r8:Command) (r9:Bool):n_ aF ln [] Tryz.f42 [.c (.ptr 0 0),.c (.ptr 4 0),.c (.ptr 5 0)] [.box 26 ([.int (v),.int (nx),.int (kp),.int (qt),.own 1,.own 2,.own 3]),.row 44 (.nm .sess) (se),.row 77 (.nm .opn) (op),.row 59 (.nm .snap) (sn),.box 29 (cellsOf (.nm .command) (c)),.box 65 ([.fn 45 [] [(0,0),(6,0)]]),.box 4 ([.bool (.atom (b))])] [.agg (cellsOf (.nm .reply) r0)] [.box 26 ([.int (r1),.int (r2),.int (r3),.int (r4),.own 1,.own 2,.own 3]),.row 44 (.nm .sess) (r5),.row 77 (.nm .opn) (r6),.row 59 (.nm .snap) (r7),.box 29 (cellsOf (.nm .command) (r8)),.box 65 ([.fn 45 [] [(0,0),(6,0)]]),.box 4 ([.bool (.atom (r9))])]=((fun (q2:Int)=>(fun (q1:Prop)=>(fun (q0:State × Reply)=>I64 q2->(q2<(0:Int)->I64 (15:Int)->I64 (0:Int)->(15:Int)=r0.code/\(0:Int)=r0.n/\v=r1/\nx=r2/\kp=r3/\qt=r4/\se=r5/\op=r6/\sn=r7/\q1)/\((0:Int)<=q2->((0:Int)<=q2/\q2<(↑sn.length:Int))/\(I64 q0.snd.code->I64 q0.snd.n->q0.snd.code=r0.code/\q0.snd.n=r0.n/\q0.fst.version=r1/\q0.fst.next=r2/\q0.fst.keep=r3/\q0.fst.quota=r4/\q0.fst.sess=r5/\q0.fst.opens=r6/\q0.fst.snaps=r7/\q1))) (bj b (State.mk v nx kp qt se op sn) q2.toNat)) (c.kind=r8.kind/\c.client=r8.client/\c.seq=r8.seq/\c.set=r8.set/\c.id=r8.id/\c.n=r8.n/\c.chunks=r8.chunks/\c.text=r8.text/\b=r9)) (ah Snap.id c.id sn)):=by kernel_rfl
theorem wV (v:Int) (nx:Int) (kp:Int) (qt:Int) (se:List Sess) (op:List Opn) (sn:List Snap) (c:Command) (b:Bool):Sat Tryz.prog (au aF) 42 [.c (.ptr 0 0),.c (.ptr 4 0),.c (.ptr 5 0)] [.box 26 ([.int (v),.int (nx),.int (kp),.int (qt),.own 1,.own 2,.own 3]),.row 44 (.nm .sess) (se),.row 77 (.nm .opn) (op),.row 59 (.nm .snap) (sn),.box 29 (cellsOf (.nm .command) (c)),.box 65 ([.fn 45 [] [(0,0),(6,0)]]),.box 4 ([.bool (.atom (b))])] ⟨[],[.agg (cellsOf (.nm .reply) ((aw (bj b) c (State.mk v nx kp qt se op sn)).2))],some ([.box 26 ([.int ((((aw (bj b) c (State.mk v nx kp qt se op sn)).1).version)),.int ((((aw (bj b) c (State.mk v nx kp qt se op sn)).1).next)),.int ((((aw (bj b) c (State.mk v nx kp qt se op sn)).1).keep)),.int ((((aw (bj b) c (State.mk v nx kp qt se op sn)).1).quota)),.own 1,.own 2,.own 3]),.row 44 (.nm .sess) ((((aw (bj b) c (State.mk v nx kp qt se op sn)).1).sess)),.row 77 (.nm .opn) ((((aw (bj b) c (State.mk v nx kp qt se op sn)).1).opens)),.row 59 (.nm .snap) ((((aw (bj b) c (State.mk v nx kp qt se op sn)).1).snaps)),.box 29 (cellsOf (.nm .command) ((c))),.box 65 ([.fn 45 [] [(0,0),(6,0)]]),.box 4 ([.bool (.atom ((b)))])]),false⟩:=by
 refine dt eX [] Tryz.func42 (by decide) (by kernel_rfl) ?_
 rw [vp]
 (repeat' (first | with_reducible refine And.intro ?_ ?_ | with_reducible refine and_imp.2 ?_ | intro))
 all_goals (first | (first | with_reducible rfl | with_reducible assumption | omega | (refine al ?_ ?_ <;> omega)) | exact bD (by with_reducible assumption) | (rw [Ic] <;> first | rfl | omega) | (rw [HX] <;> first | rfl | omega))
def Ax:cw:=(bS 42 (bL (ai (kC (bQ 0 0)) (ai (kC (bQ 4 0)) (ai (kC (bQ 5 0)) aO))) (ay (bP 26 (aj cI (aj cI (aj cI (aj cI (aj (a_ 1) (aj (a_ 2) (aj (a_ 3) bK)))))))) (ay (aZ 44 (.nm .sess)) (ay (aZ 77 (.nm .opn)) (ay (aZ 59 (.nm .snap)) (ay (bP 29 (pQ (.nm .command) bK)) (ay (bP 65 (aj (mY 45 [] [(0,0),(6,0)]) bK)) (ay (bP 4 (aj cB bK)) aN))))))) fun (_,_,_,_) ((v,nx,kp,qt,_,_,_,_),se,op,sn,(c,_),(_,_),(b,_),_)=>⟨[],[.agg (cellsOf (.nm .reply) ((aw (bj b) c (State.mk v nx kp qt se op sn)).2))],some ([.box 26 ([.int ((((aw (bj b) c (State.mk v nx kp qt se op sn)).1).version)),.int ((((aw (bj b) c (State.mk v nx kp qt se op sn)).1).next)),.int ((((aw (bj b) c (State.mk v nx kp qt se op sn)).1).keep)),.int ((((aw (bj b) c (State.mk v nx kp qt se op sn)).1).quota)),.own 1,.own 2,.own 3]),.row 44 (.nm .sess) ((((aw (bj b) c (State.mk v nx kp qt se op sn)).1).sess)),.row 77 (.nm .opn) ((((aw (bj b) c (State.mk v nx kp qt se op sn)).1).opens)),.row 59 (.nm .snap) ((((aw (bj b) c (State.mk v nx kp qt se op sn)).1).snaps)),.box 29 (cellsOf (.nm .command) ((c))),.box 65 ([.fn 45 [] [(0,0),(6,0)]]),.box 4 ([.bool (.atom ((b)))])]),false⟩) (bS 42 (bL (ai (kC (bQ 0 0)) (ai (kC (bQ 4 0)) (ai (kC (bQ 5 0)) aO))) (ay (bP 26 (aj cI (aj cI (aj cI (aj cI (aj (a_ 1) (aj (a_ 2) (aj (a_ 3) bK)))))))) (ay (aZ 44 (.nm .sess)) (ay (aZ 77 (.nm .opn)) (ay (aZ 59 (.nm .snap)) (ay (bP 29 (pQ (.nm .command) bK)) (ay (bP 65 (aj (mY 58 [] [(4,0),(0,0)]) bK)) aN)))))) fun (_,_,_,_) ((v,nx,kp,qt,_,_,_,_),se,op,sn,(c,_),(_,_),_)=>⟨[],[.agg (cellsOf (.nm .reply) ((aw (cz c) c (State.mk v nx kp qt se op sn)).2))],some ([.box 26 ([.int ((((aw (cz c) c (State.mk v nx kp qt se op sn)).1).version)),.int ((((aw (cz c) c (State.mk v nx kp qt se op sn)).1).next)),.int ((((aw (cz c) c (State.mk v nx kp qt se op sn)).1).keep)),.int ((((aw (cz c) c (State.mk v nx kp qt se op sn)).1).quota)),.own 1,.own 2,.own 3]),.row 44 (.nm .sess) ((((aw (cz c) c (State.mk v nx kp qt se op sn)).1).sess)),.row 77 (.nm .opn) ((((aw (cz c) c (State.mk v nx kp qt se op sn)).1).opens)),.row 59 (.nm .snap) ((((aw (cz c) c (State.mk v nx kp qt se op sn)).1).snaps)),.box 29 (cellsOf (.nm .command) ((c))),.box 65 ([.fn 58 [] [(4,0),(0,0)]])]),false⟩) (bS 42 (bL (ai (kC (bQ 0 0)) (ai (kC (bQ 4 0)) (ai (kC (bQ 5 0)) aO))) (ay (bP 26 (aj cI (aj cI (aj cI (aj cI (aj (a_ 1) (aj (a_ 2) (aj (a_ 3) bK)))))))) (ay (aZ 44 (.nm .sess)) (ay (aZ 77 (.nm .opn)) (ay (aZ 59 (.nm .snap)) (ay (bP 29 (pQ (.nm .command) bK)) (ay (bP 65 (aj (mY 57 [] [(0,0)]) bK)) aN)))))) fun (_,_,_,_) ((v,nx,kp,qt,_,_,_,_),se,op,sn,(c,_),(_,_),_)=>⟨[],[.agg (cellsOf (.nm .reply) ((aw bb c (State.mk v nx kp qt se op sn)).2))],some ([.box 26 ([.int ((((aw bb c (State.mk v nx kp qt se op sn)).1).version)),.int ((((aw bb c (State.mk v nx kp qt se op sn)).1).next)),.int ((((aw bb c (State.mk v nx kp qt se op sn)).1).keep)),.int ((((aw bb c (State.mk v nx kp qt se op sn)).1).quota)),.own 1,.own 2,.own 3]),.row 44 (.nm .sess) ((((aw bb c (State.mk v nx kp qt se op sn)).1).sess)),.row 77 (.nm .opn) ((((aw bb c (State.mk v nx kp qt se op sn)).1).opens)),.row 59 (.nm .snap) ((((aw bb c (State.mk v nx kp qt se op sn)).1).snaps)),.box 29 (cellsOf (.nm .command) ((c))),.box 65 ([.fn 57 [] [(0,0)]])]),false⟩) (bS 42 (bL (ai (kC (bQ 0 0)) (ai (kC (bQ 4 0)) (ai (kC (bQ 5 0)) aO))) (ay (bP 26 (aj cI (aj cI (aj cI (aj cI (aj (a_ 1) (aj (a_ 2) (aj (a_ 3) bK)))))))) (ay (aZ 44 (.nm .sess)) (ay (aZ 77 (.nm .opn)) (ay (aZ 59 (.nm .snap)) (ay (bP 29 (pQ (.nm .command) bK)) (ay (bP 65 (aj (mY 55 [] [(0,0)]) bK)) aN)))))) fun (_,_,_,_) ((v,nx,kp,qt,_,_,_,_),se,op,sn,(c,_),(_,_),_)=>⟨[nch sn<=1048576],[.agg (cellsOf (.nm .reply) ((aw aK c (State.mk v nx kp qt se op sn)).2))],some ([.box 26 ([.int ((((aw aK c (State.mk v nx kp qt se op sn)).1).version)),.int ((((aw aK c (State.mk v nx kp qt se op sn)).1).next)),.int ((((aw aK c (State.mk v nx kp qt se op sn)).1).keep)),.int ((((aw aK c (State.mk v nx kp qt se op sn)).1).quota)),.own 1,.own 2,.own 3]),.row 44 (.nm .sess) ((((aw aK c (State.mk v nx kp qt se op sn)).1).sess)),.row 77 (.nm .opn) ((((aw aK c (State.mk v nx kp qt se op sn)).1).opens)),.row 59 (.nm .snap) ((((aw aK c (State.mk v nx kp qt se op sn)).1).snaps)),.box 29 (cellsOf (.nm .command) ((c))),.box 65 ([.fn 55 [] [(0,0)]])]),false⟩) (bS 44 (bL (ai (kC cB) (ai (kC (bQ 0 0)) (ai (kC (bQ 1 0)) aO))) (ay (bP 67 (aj (mY 41 [] [(1,0),(5,0)]) bK)) (ay (bP 26 (aj cI (aj cI (aj cI (aj cI (aj (a_ 2) (aj (a_ 3) (aj (a_ 4) bK)))))))) (ay (aZ 44 (.nm .sess)) (ay (aZ 77 (.nm .opn)) (ay (aZ 59 (.nm .snap)) (ay (bP 29 (pQ (.nm .command) bK)) aN)))))) fun (b,_,_,_) ((_,_),(v,nx,kp,qt,_,_,_,_),se,op,sn,(c,_),_)=>⟨[],[.c (.fn 42 [] [(1,0),(5,0),(7,0)])],some ([.box 67 ([.fn 41 [] [(1,0),(5,0)]]),.box 26 ([.int ((v)),.int ((nx)),.int ((kp)),.int ((qt)),.own 2,.own 3,.own 4]),.row 44 (.nm .sess) ((se)),.row 77 (.nm .opn) ((op)),.row 59 (.nm .snap) ((sn)),.box 29 (cellsOf (.nm .command) ((c))),.box 4 ([.bool (.atom ((b)))]),.box 65 ([.fn 45 [] [(1,0),(6,0)]])]),true⟩) ln)))))
theorem rM:aT Tryz.prog (au aF) Ax:=(aA (az (ab (av aJ) (ab (av aJ) (ab (av aJ) ao))) (ag (aH (ae ax (ae ax (ae ax (ae ax (ae aC (ae aC (ae aC aG)))))))) (ag aB (ag aB (ag aB (ag (aH (cQ aG)) (ag (aH (ae cm aG)) (ag (aH (ae oa aG)) aq))))))) fun (_,_,_,_) ((v,nx,kp,qt,_,_,_,_),se,op,sn,(c,_),(_,_),(b,_),_) _=>wV v nx kp qt se op sn c b ) (aA (az (ab (av aJ) (ab (av aJ) (ab (av aJ) ao))) (ag (aH (ae ax (ae ax (ae ax (ae ax (ae aC (ae aC (ae aC aG)))))))) (ag aB (ag aB (ag aB (ag (aH (cQ aG)) (ag (aH (ae cm aG)) aq)))))) fun (_,_,_,_) ((v,nx,kp,qt,_,_,_,_),se,op,sn,(c,_),(_,_),_) _=>yZ v nx kp qt se op sn c ) (aA (az (ab (av aJ) (ab (av aJ) (ab (av aJ) ao))) (ag (aH (ae ax (ae ax (ae ax (ae ax (ae aC (ae aC (ae aC aG)))))))) (ag aB (ag aB (ag aB (ag (aH (cQ aG)) (ag (aH (ae cm aG)) aq)))))) fun (_,_,_,_) ((v,nx,kp,qt,_,_,_,_),se,op,sn,(c,_),(_,_),_) _=>vY v nx kp qt se op sn c ) (aA (az (ab (av aJ) (ab (av aJ) (ab (av aJ) ao))) (ag (aH (ae ax (ae ax (ae ax (ae ax (ae aC (ae aC (ae aC aG)))))))) (ag aB (ag aB (ag aB (ag (aH (cQ aG)) (ag (aH (ae cm aG)) aq)))))) fun (_,_,_,_) ((v,nx,kp,qt,_,_,_,_),se,op,sn,(c,_),(_,_),_) hp=>sZ v nx kp qt se op sn c (fb hp)) (aA (az (ab (av oa) (ab (av aJ) (ab (av aJ) ao))) (ag (aH (ae cm aG)) (ag (aH (ae ax (ae ax (ae ax (ae ax (ae aC (ae aC (ae aC aG)))))))) (ag aB (ag aB (ag aB (ag (aH (cQ aG)) aq)))))) fun (b,_,_,_) ((_,_),(v,nx,kp,qt,_,_,_,_),se,op,sn,(c,_),_) _=>Gf b v nx kp qt se op sn c ) eX)))))
end Go.Proofs.YtdggohppeeaipaaGreat
namespace Go.Proofs.YtdggohppeeaipaaGreat
open Go.RowKit
def bH (s:State) (c:Command):Int:=if mayF s s.version=0 then aY c s.version else 1
def m_ (s:State) (c:Command):State × Reply:=
 if c.kind=11 then aw (cz c) c s
 else if c.kind=10 then aw (bj false) c s
 else if c.kind=9 then aw (bj true) c s
 else if c.kind=7 then aw bb c s
 else if c.kind=5 then aw aK c s
 else if c.kind=12 then cq c s
 else if c.kind=6 then cT c s
 else if c.kind=4 then aU s c
 else if c.kind=3 then aM s c
 else if c.kind=2 then aS s c
 else (s,⟨1,0⟩)
def bt (s:State) (c:Command):State × Reply:=if ¬ bH s c=0 then (s,⟨bH s c,0⟩) else m_ s c
theorem pG {α:Type} {key:α->Int} {most:Int}:∀ {l:List α} {a:Int},ak key most a l=true->l=[]\/a+(l.length:Int)<=most
 | [],_,_=>.inl rfl
 | x :: l,a,h=>by
  simp only [ak,Bool.and_eq_true] at h
  have h1:=kD h.1
  rcases pG h.2 with h2 | h2
  ·subst h2; right; simp only [List.length_cons,List.length_nil]; omega
  ·right; simp only [List.length_cons]; omega
theorem bF {s:State} {v:Int} (h:mayF s v=0):bl v 1 3=true/\cW s v=true/\lG s=true/\jG s=true/\dx s v=true:=by
 unfold mayF at h
 split at h
 ·omega
 ·rename_i h1
  split at h
  ·omega
  ·rename_i h2
   simp at h1 h2
   exact ⟨h1,h2.1.1.1,h2.1.1.2,h2.1.2,h2.2⟩
theorem FE {s:State} {v:Int} (h:mayF s v=0):s.opens.length<=8:=by
 have h1:=(bF h).2.2.2.1
 simp only [jG,Bool.and_eq_true] at h1
 rcases pG h1.1 with h2 | h2
 ·rw [h2]; simp
 ·omega
theorem Ei {s:State} {v:Int} (h:mayF s v=0):s.sess.length<=8:=by
 have h1:=(bF h).2.2.1
 simp only [lG,Bool.and_eq_true] at h1
 rcases pG h1.1 with h2 | h2
 ·rw [h2]; simp
 ·omega
theorem eH {s:State} {v:Int} (h:mayF s v=0):s.snaps.length<=16/\ak Snap.id (s.next - 1) 0 s.snaps=true/\∀ x ∈ s.snaps,bk v (du v) x=true:=by
 have h1:=(bF h).2.2.2.2
 simp only [dx,Bool.and_eq_true,Bool.not_eq_true',Bool.or_eq_false_iff,decide_eq_false_iff_not,Bool.not_eq_false',List.all_eq_true] at h1
 exact ⟨by omega,h1.1.2,h1.2⟩
theorem zk {x:Snap} {v t:Int} (h:bk v t x=true):cF x.chunks=true:=by
 simp only [bk,Bool.and_eq_true,decide_eq_true_eq] at h
 cases hr:cF x.chunks with
 | true=>rfl
 | false=>have:=fJ (l:=x.chunks) hr; omega
theorem yL:∀ {l:List Snap},(∀ x ∈ l,cF x.chunks=true)->nch l<=8*l.length
 | [],_=>Nat.le_refl _
 | x :: l,h=>by
  have h1:=yL (l:=l) fun y hy=>h y (List.mem_cons_of_mem _ hy)
  have h2:=(ow (h x (List.mem_cons_self))).2
  have e:nch (x :: l)=x.chunks.length+nch l:=by simp [nch]
  rw [e,List.length_cons]; omega
theorem CB {s:State} {v:Int} (h:mayF s v=0):nch s.snaps<=128:=by
 have h1:=eH h
 have:=yL (l:=s.snaps) fun x hx=>zk (h1.2.2 x hx)
 omega
theorem js {s:State} {v:Int} (h:mayF s v=0):1<=s.next/\s.next<=1048576:=by
 have h1:=(bF h).2.1
 simp only [cW,Bool.and_eq_true] at h1
 exact kD h1.1.1.2
theorem qc {s:State} {c:Command} (h:(if mayF s s.version=0 then aY c s.version else 1)=0):mayF s s.version=0:=by
 split at h
 ·assumption
 ·omega
theorem Fu {s:State} {c:Command} (h:(if mayF s s.version=0 then aY c s.version else 1)=0):nch s.snaps<=1048576:=by have:=CB (qc h); omega
theorem Hj {s:State} {c:Command} (h:(if mayF s s.version=0 then aY c s.version else 1)=0):s.opens.length<1048576:=by have:=FE (qc h); omega
theorem tM {s:State} {c:Command} (h:(if mayF s s.version=0 then aY c s.version else 1)=0):s.sess.length<1048576:=by have:=Ei (qc h); omega
theorem GI {s:State} {c:Command} (h:(if mayF s s.version=0 then aY c s.version else 1)=0):s.snaps.length<1048576:=by have:=(eH (qc h)).1; omega
theorem Gy {s:State} {c:Command} (h:(if mayF s s.version=0 then aY c s.version else 1)=0):0<=s.next:=by have:=js (qc h); omega
theorem Cf {s:State} {c:Command} (h:(if mayF s s.version=0 then aY c s.version else 1)=0):bt s c=m_ s c:=by
 have h:bH s c=0:=h
 rw [bt,h]; rfl
theorem Iz {s:State} {c:Command} (h:¬ (if mayF s s.version=0 then aY c s.version else 1)=0):bt s c=(s,⟨(if mayF s s.version=0 then aY c s.version else 1),0⟩):=by
 have h:¬ bH s c=0:=h
 rw [bt,if_pos h]; rfl
theorem Fy (st:State) (c:Command) (r0:Int) (r1:Int) (r2:Int) (r3:Int) (r4:Reply) (r5:List Sess) (r6:List Opn) (r7:List Snap):sa aF Ax [] Tryz.f14 [.agg (cellsOf (.nm .state) st),.agg (cellsOf (.nm .command) c)] [] [.agg ([.int (r0),.int (r1),.int (r2),.int (r3),.own 0,.own 1,.own 2]),.agg (cellsOf (.nm .reply) r4)] [.row 44 (.nm .sess) (r5),.row 77 (.nm .opn) (r6),.row 59 (.nm .snap) (r7)]=((fun (q18:Reply)=>(fun (q17:Int)=>(fun (q16:Int)=>(fun (q15:Prop)=>(fun (q14:Prop)=>(fun (q13:Int)=>(fun (q12:State)=>(fun (q11:Prop)=>(fun (q10:State × Reply)=>(fun (q9:State × Reply)=>(fun (q8:State × Reply)=>(fun (q7:Int)=>(fun (q6:State × Reply)=>(fun (q5:State × Reply)=>(fun (q4:State × Reply)=>(fun (q3:State × Reply)=>(fun (q2:State × Reply)=>(fun (q1:State × Reply)=>(fun (q0:Int)=>I64 q17->I64 st.next->I64 st.keep->I64 st.quota->st.sess.length*(32:Nat)<=(140737488355328:Nat)->st.opens.length*(16:Nat)<=(140737488355328:Nat)->st.snaps.length*(64:Nat)<=(140737488355328:Nat)->I64 q7->I64 c.client->I64 c.seq->I64 c.set->I64 c.id->I64 c.n->c.chunks.length*(8:Nat)<=(140737488355328:Nat)->c.text.b.length<=(140737488355328:Nat)->I64 q17->I64 st.next->I64 st.keep->I64 st.quota->I64 q0->(¬q0=q16->I64 q0->I64 q16->q17=r0/\st.next=r1/\st.keep=r2/\st.quota=r3/\q0=q13/\q11)/\(q0=q16->(q7=(11:Int)->I64 q3.snd.code->I64 q3.snd.n->q3.fst.version=r0/\q3.fst.next=r1/\q3.fst.keep=r2/\q3.fst.quota=r3/\q3.snd.code=q13/\q3.snd.n=r4.n/\q3.fst.sess=r5/\q3.fst.opens=r6/\q3.fst.snaps=r7)/\(¬q7=(11:Int)->(q7=(10:Int)->I64 q1.snd.code->I64 q1.snd.n->q1.fst.version=r0/\q1.fst.next=r1/\q1.fst.keep=r2/\q1.fst.quota=r3/\q1.snd.code=q13/\q1.snd.n=r4.n/\q1.fst.sess=r5/\q1.fst.opens=r6/\q1.fst.snaps=r7)/\(¬q7=(10:Int)->(q7=(9:Int)->I64 q2.snd.code->I64 q2.snd.n->q2.fst.version=r0/\q2.fst.next=r1/\q2.fst.keep=r2/\q2.fst.quota=r3/\q2.snd.code=q13/\q2.snd.n=r4.n/\q2.fst.sess=r5/\q2.fst.opens=r6/\q2.fst.snaps=r7)/\(¬q7=(9:Int)->(q7=(7:Int)->I64 q4.snd.code->I64 q4.snd.n->q4.fst.version=r0/\q4.fst.next=r1/\q4.fst.keep=r2/\q4.fst.quota=r3/\q4.snd.code=q13/\q4.snd.n=r4.n/\q4.fst.sess=r5/\q4.fst.opens=r6/\q4.fst.snaps=r7)/\(¬q7=(7:Int)->(q7=(5:Int)->q15/\(I64 q5.snd.code->I64 q5.snd.n->q5.fst.version=r0/\q5.fst.next=r1/\q5.fst.keep=r2/\q5.fst.quota=r3/\q5.snd.code=q13/\q5.snd.n=r4.n/\q5.fst.sess=r5/\q5.fst.opens=r6/\q5.fst.snaps=r7))/\(¬q7=(5:Int)->(q7=(12:Int)->q15/\(I64 q10.snd.code->I64 q10.snd.n->q10.fst.version=r0/\q10.fst.next=r1/\q10.fst.keep=r2/\q10.fst.quota=r3/\q10.snd.code=q13/\q10.snd.n=r4.n/\q10.fst.sess=r5/\q10.fst.opens=r6/\q10.fst.snaps=r7))/\(¬q7=(12:Int)->(q7=(6:Int)->I64 q18.code->I64 q18.n->q12.version=r0/\q12.next=r1/\q12.keep=r2/\q12.quota=r3/\q18.code=q13/\q18.n=r4.n/\q12.sess=r5/\q12.opens=r6/\q12.snaps=r7)/\(¬q7=(6:Int)->(q7=(4:Int)->q14/\(I64 q8.snd.code->I64 q8.snd.n->q8.fst.version=r0/\q8.fst.next=r1/\q8.fst.keep=r2/\q8.fst.quota=r3/\q8.snd.code=q13/\q8.snd.n=r4.n/\q8.fst.sess=r5/\q8.fst.opens=r6/\q8.fst.snaps=r7))/\(¬q7=(4:Int)->(q7=(3:Int)->q15/\st.snaps.length<(1048576:Nat)/\q14/\q16<=st.next/\(I64 q6.snd.code->I64 q6.snd.n->q6.fst.version=r0/\q6.fst.next=r1/\q6.fst.keep=r2/\q6.fst.quota=r3/\q6.snd.code=q13/\q6.snd.n=r4.n/\q6.fst.sess=r5/\q6.fst.opens=r6/\q6.fst.snaps=r7))/\(¬q7=(3:Int)->(q7=(2:Int)->q14/\(I64 q9.snd.code->I64 q9.snd.n->q9.fst.version=r0/\q9.fst.next=r1/\q9.fst.keep=r2/\q9.fst.quota=r3/\q9.snd.code=q13/\q9.snd.n=r4.n/\q9.fst.sess=r5/\q9.fst.opens=r6/\q9.fst.snaps=r7))/\(¬q7=(2:Int)->I64 (1:Int)->I64 q16->q17=r0/\st.next=r1/\st.keep=r2/\st.quota=r3/\(1:Int)=q13/\q11)))))))))))) (if mayF st q17=q16 then aY c q17 else (1:Int))) (aw (bj false) c st)) (aw (bj true) c st)) (aw (cz c) c st)) (aw bb c st)) (aw aK c st)) (aM st c)) c.kind) (aU st c)) (aS st c)) (cq c st)) (q16=r4.n/\st.sess=r5/\st.opens=r6/\st.snaps=r7)) (cT c st).fst) r4.code) (st.opens.length<(1048576:Nat))) (nch st.snaps<=(1048576:Nat))) (0:Int)) st.version) (cT c st).snd):=by kernel_rfl
theorem Ga (st:State) (c:Command):Sat Tryz.prog (au aF) 14 [.agg (cellsOf (.nm .state) st),.agg (cellsOf (.nm .command) c)] [] ⟨[],[.agg ([.int (((bt st c).1.version)),.int (((bt st c).1.next)),.int (((bt st c).1.keep)),.int (((bt st c).1.quota)),.own 0,.own 1,.own 2]),.agg (cellsOf (.nm .reply) ((bt st c).2))],some ([.row 44 (.nm .sess) (((bt st c).1.sess)),.row 77 (.nm .opn) (((bt st c).1.opens)),.row 59 (.nm .snap) (((bt st c).1.snaps))]),true⟩:=by
 refine eg rM [] Tryz.func14 (by decide) (by kernel_rfl) ?_
 rw [Fy]
 (repeat' (first | with_reducible refine And.intro ?_ ?_ | with_reducible refine and_imp.2 ?_ | intro))
 all_goals (first | (first | with_reducible rfl | with_reducible assumption | omega | (refine al ?_ ?_ <;> omega)) | exact (Fu (by with_reducible assumption)) | exact (Hj (by with_reducible assumption)) | exact (tM (by with_reducible assumption)) | exact (GI (by with_reducible assumption)) | exact (Gy (by with_reducible assumption)) | (rw [Iz (by with_reducible assumption)]; done) | (rw [Cf (by with_reducible assumption)]; simp only [m_, *]; done) | (rw [Cf (by with_reducible assumption)]; simp [m_, *]; done))
def xC:cw:=(bS 14 (bL (ai (kT (.nm .state)) (ai (kT (.nm .command)) aO)) aN fun (st,c,_) (_)=>⟨[],[.agg ([.int (((bt st c).1.version)),.int (((bt st c).1.next)),.int (((bt st c).1.keep)),.int (((bt st c).1.quota)),.own 0,.own 1,.own 2]),.agg (cellsOf (.nm .reply) ((bt st c).2))],some ([.row 44 (.nm .sess) (((bt st c).1.sess)),.row 77 (.nm .opn) (((bt st c).1.opens)),.row 59 (.nm .snap) (((bt st c).1.snaps))]),true⟩) Ax)
theorem rf:aT Tryz.prog (au aF) xC:=(aA (az (ab bI (ab bI ao)) aq fun (st,c,_) (_) _=>Ga st c ) rM)
end Go.Proofs.YtdggohppeeaipaaGreat
namespace Go.Proofs.YtdggohppeeaipaaGreat
open Go.RowKit
def bd (s:State) (c:Command):State × Reply:=
 if ah Sess.client c.client s.sess<0 then (s,⟨11,0⟩)
 else if c.seq=(s.sess.getD (ah Sess.client c.client s.sess).toNat (dflt (.nm .sess))).seq then (s,(s.sess.getD (ah Sess.client c.client s.sess).toNat (dflt (.nm .sess))).last)
 else if c.seq<(s.sess.getD (ah Sess.client c.client s.sess).toNat (dflt (.nm .sess))).seq then (s,⟨13,0⟩)
 else if (s.sess.getD (ah Sess.client c.client s.sess).toNat (dflt (.nm .sess))).seq+1<c.seq then (s,⟨14,0⟩)
 else ({ (bt s c).1 with sess:=(bt s c).1.sess.set (ah Sess.client c.client s.sess).toNat { (bt s c).1.sess.getD (ah Sess.client c.client s.sess).toNat (dflt (.nm .sess)) with seq:=c.seq,last:=(bt s c).2 } },(bt s c).2)
def dA (s:State) (c:Command):State × Reply:=
 if ¬ bH s c=0 then (s,⟨bH s c,0⟩)
 else if c.kind=8 then (if ¬ c.n=s.version+1 then (s,⟨1,0⟩) else ({ s with version:=c.n },⟨0,c.n⟩))
 else if c.kind=1 then (if 0<=ah Sess.client c.client s.sess then (s,⟨12,0⟩) else ({ s with sess:=fB s.sess (s.sess.takeWhile fun y=>decide (y.client<c.client)).length ⟨c.client,0,⟨0,0⟩⟩ },⟨0,0⟩))
 else bd s c
theorem CZ {Q:State × Reply->Prop} {s:State} {c:Command} (h0:∀ e:Int,¬ e=0->Q (s,⟨e,0⟩))
  (hs:∀ f:State->Nat->State × Reply,bH s c=0->(f=cz c\/(∃ b,f=bj b)\/f=bb\/f=aK)->Q (aw f c s))
  (hq:bH s c=0->Q (cq c s)) (hk:bH s c=0->Q (cT c s)) (ha:bH s c=0->Q (aU s c)) (hc:bH s c=0->Q (aM s c)) (hb:bH s c=0->Q (aS s c)):Q (bt s c):=by
 unfold bt
 split
 ·exact h0 _ (by assumption)
 ·rename_i h
  have h:bH s c=0:=Classical.not_not.1 h
  unfold m_
  split
  ·exact hs _ h (.inl rfl)
  split
  ·exact hs _ h (.inr (.inl ⟨_,rfl⟩))
  split
  ·exact hs _ h (.inr (.inl ⟨_,rfl⟩))
  split
  ·exact hs _ h (.inr (.inr (.inl rfl)))
  split
  ·exact hs _ h (.inr (.inr (.inr rfl)))
  split
  ·exact hq h
  split
  ·exact hk h
  split
  ·exact ha h
  split
  ·exact hc h
  split
  ·exact hb h
  ·exact h0 1 (by decide)
theorem wy {Q:State × Reply->Prop} {f:State->Nat->State × Reply} {s:State} {c:Command} (h0:∀ e:Int,¬ e=0->Q (s,⟨e,0⟩)) (h:∀ n:Nat,(n:Int)=ah Snap.id c.id s.snaps->Q (f s n)):Q (aw f c s):=by
 unfold aw
 split
 ·exact h0 15 (by decide)
 ·exact h _ (by omega)
theorem nI {s:State} {c:Command}:(bt s c).1.sess=s.sess:=by
 refine CZ (Q:=fun r=>r.1.sess=s.sess) (fun _ _=>rfl) (fun f _ hf=>?_) (fun _=>rfl) (fun _=>rfl) (fun _=>?_) (fun _=>?_) (fun _=>?_)
 ·refine wy (Q:=fun r=>r.1.sess=s.sess) (fun _ _=>rfl) fun n _=>?_
  rcases hf with rfl | ⟨b,rfl⟩ | rfl | rfl
  ·rfl
  ·unfold bj; split <;> rfl
  ·rfl
  ·unfold aK; split; rfl; split <;> rfl
 ·unfold aU; split <;> rfl
 ·unfold aM; split; rfl; split; rfl; split <;> rfl
 ·unfold aS; split <;> rfl
theorem rh {l:List Sess} {k:Nat} {q:Int} {R:Reply} (h:k<l.length):(l.set k (Sess.mk (l.getD k (dflt (.nm .sess))).client q (l.getD k (dflt (.nm .sess))).last)).set k (Sess.mk ((l.set k (Sess.mk (l.getD k (dflt (.nm .sess))).client q (l.getD k (dflt (.nm .sess))).last)).getD k (dflt (.nm .sess))).client ((l.set k (Sess.mk (l.getD k (dflt (.nm .sess))).client q (l.getD k (dflt (.nm .sess))).last)).getD k (dflt (.nm .sess))).seq R)=l.set k { l.getD k (dflt (.nm .sess)) with seq:=q,last:=R }:=by
 have e:∀ x:Sess,(l.set k x).getD k (dflt (.nm .sess))=x:=fun x=>by
  rw [List.getD_eq_getElem?_getD,List.getElem?_set_self h]; rfl
 rw [e,List.set_set]
section
variable {v nx kp qt:Int} {se:List Sess} {op:List Opn} {sn:List Snap} {c:Command}
theorem HP (h:ah Sess.client c.client se<0):bd (State.mk v nx kp qt se op sn) c=(State.mk v nx kp qt se op sn,⟨11,0⟩):=by
 simp only [bd,if_pos h]
theorem HR (h:0<=ah Sess.client c.client se) (e:c.seq=(se.getD (ah Sess.client c.client se).toNat (dflt (.nm .sess))).seq):bd (State.mk v nx kp qt se op sn) c=(State.mk v nx kp qt se op sn,(se.getD (ah Sess.client c.client se).toNat (dflt (.nm .sess))).last):=by
 have h1:¬ ah Sess.client c.client se<0:=by omega
 simp only [bd,if_neg h1,if_pos e]
theorem HU (h:0<=ah Sess.client c.client se) (e:¬ c.seq=(se.getD (ah Sess.client c.client se).toNat (dflt (.nm .sess))).seq) (l:c.seq<(se.getD (ah Sess.client c.client se).toNat (dflt (.nm .sess))).seq):bd (State.mk v nx kp qt se op sn) c=(State.mk v nx kp qt se op sn,⟨13,0⟩):=by
 have h1:¬ ah Sess.client c.client se<0:=by omega
 simp only [bd,if_neg h1,if_neg e,if_pos l]
theorem HY (h:0<=ah Sess.client c.client se) (e:¬ c.seq=(se.getD (ah Sess.client c.client se).toNat (dflt (.nm .sess))).seq) (l:(se.getD (ah Sess.client c.client se).toNat (dflt (.nm .sess))).seq<=c.seq) (g:(se.getD (ah Sess.client c.client se).toNat (dflt (.nm .sess))).seq+1<c.seq):bd (State.mk v nx kp qt se op sn) c=(State.mk v nx kp qt se op sn,⟨14,0⟩):=by
 have h1:¬ ah Sess.client c.client se<0:=by omega
 have h2:¬ c.seq<(se.getD (ah Sess.client c.client se).toNat (dflt (.nm .sess))).seq:=by omega
 simp only [bd,if_neg h1,if_neg e,if_neg h2,if_pos g]
theorem Jf (h:0<=ah Sess.client c.client se) (e:¬ c.seq=(se.getD (ah Sess.client c.client se).toNat (dflt (.nm .sess))).seq) (l:(se.getD (ah Sess.client c.client se).toNat (dflt (.nm .sess))).seq<=c.seq) (g:c.seq<=(se.getD (ah Sess.client c.client se).toNat (dflt (.nm .sess))).seq+1):bd (State.mk v nx kp qt se op sn) c=({ (bt (State.mk v nx kp qt se op sn) c).1 with sess:=(bt (State.mk v nx kp qt se op sn) c).1.sess.set (ah Sess.client c.client se).toNat { (bt (State.mk v nx kp qt se op sn) c).1.sess.getD (ah Sess.client c.client se).toNat (dflt (.nm .sess)) with seq:=c.seq,last:=(bt (State.mk v nx kp qt se op sn) c).2 } },(bt (State.mk v nx kp qt se op sn) c).2):=by
 have h1:¬ ah Sess.client c.client se<0:=by omega
 have h2:¬ c.seq<(se.getD (ah Sess.client c.client se).toNat (dflt (.nm .sess))).seq:=by omega
 have h3:¬ (se.getD (ah Sess.client c.client se).toNat (dflt (.nm .sess))).seq+1<c.seq:=by omega
 simp only [bd,if_neg h1,if_neg e,if_neg h2,if_neg h3]
theorem yp (h:0<=ah Sess.client c.client se):ah Sess.client c.client se<((bt (State.mk v nx kp qt se op sn) c).1.sess.length:Int):=by rw [nI]; exact bD h
theorem qu (h:0<=ah Sess.client c.client se):(ah Sess.client c.client se).toNat<(bt (State.mk v nx kp qt se op sn) c).1.sess.length:=by have:=yp (v:=v) (nx:=nx) (kp:=kp) (qt:=qt) (op:=op) (sn:=sn) h; omega
theorem Hf {x:Sess} (h:0<=ah Sess.client c.client se):ah Sess.client c.client se<(((bt (State.mk v nx kp qt se op sn) c).1.sess.set (ah Sess.client c.client se).toNat x).length:Int):=by rw [List.length_set]; exact yp h
theorem Ja (h:bH (State.mk v nx kp qt se op sn) c=0) (h0:0<=ah Sess.client c.client se):I64 ((se.getD (ah Sess.client c.client se).toNat (dflt (.nm .sess))).seq+1):=by
 have h1:=(bF (qc h)).2.2.1
 simp only [lG,Bool.and_eq_true,List.all_eq_true] at h1
 have h2:=h1.2 _ (List.mem_of_getElem? (gd (d:=dflt (.nm .sess)) (k:=(ah Sess.client c.client se).toNat) (l:=se) (by have:=bD h0; omega)))
 simp only [bM,Bool.and_eq_true] at h2
 have h3:=kD h2.1.1
 constructor <;> omega
end
theorem zV (v:Int) (nx:Int) (kp:Int) (qt:Int) (c:Command) (se:List Sess) (op:List Opn) (sn:List Snap) (r0:Int) (r1:Int) (r2:Int) (r3:Int) (r4:Reply) (r5:List Sess) (r6:List Opn) (r7:List Snap):n_ aF xC [] Tryz.f37 [.agg ([.int (v),.int (nx),.int (kp),.int (qt),.own 0,.own 1,.own 2]),.agg (cellsOf (.nm .command) c)] [.row 44 (.nm .sess) (se),.row 77 (.nm .opn) (op),.row 59 (.nm .snap) (sn)] [.agg ([.int (r0),.int (r1),.int (r2),.int (r3),.own 0,.own 1,.own 2]),.agg (cellsOf (.nm .reply) r4)] [.row 44 (.nm .sess) (r5),.row 77 (.nm .opn) (r6),.row 59 (.nm .snap) (r7)]=((fun (q7:Prop)=>(fun (q6:Int)=>(fun (q5:Int)=>(fun (q4:Prop)=>(fun (q3:den (Sh.nm NT.sess))=>(fun (q2:State × Reply)=>(fun (q1:Int)=>(fun (q0:den (Sh.nm NT.sess))=>I64 v->I64 nx->I64 kp->I64 qt->I64 c.kind->I64 c.client->I64 q6->I64 c.set->I64 c.id->I64 c.n->c.chunks.length*(8:Nat)<=(140737488355328:Nat)->c.text.b.length<=(140737488355328:Nat)->I64 q1->(q1<q5->I64 (11:Int)->I64 q5->v=r0/\nx=r1/\kp=r2/\qt=r3/\(11:Int)=r4.code/\q4)/\(q5<=q1->q5<=q1/\q1<(↑se.length:Int)/\(I64 (se.getD q1.toNat q3).client->I64 (se.getD q1.toNat q3).seq->I64 (se.getD q1.toNat q3).last.code->I64 (se.getD q1.toNat q3).last.n->(q6=(se.getD q1.toNat q3).seq->v=r0/\nx=r1/\kp=r2/\qt=r3/\(se.getD q1.toNat q3).last.code=r4.code/\(se.getD q1.toNat q3).last.n=r4.n/\q7)/\(¬q6=(se.getD q1.toNat q3).seq->(q6<(se.getD q1.toNat q3).seq->I64 (13:Int)->I64 q5->v=r0/\nx=r1/\kp=r2/\qt=r3/\(13:Int)=r4.code/\q4)/\((se.getD q1.toNat q3).seq<=q6->I64 ((se.getD q1.toNat q3).seq+(1:Int))/\((se.getD q1.toNat q3).seq+(1:Int)<q6->I64 (14:Int)->I64 q5->v=r0/\nx=r1/\kp=r2/\qt=r3/\(14:Int)=r4.code/\q4)/\(q6<=(se.getD q1.toNat q3).seq+(1:Int)->I64 q2.fst.version->I64 q2.fst.next->I64 q2.fst.keep->I64 q2.fst.quota->I64 q2.snd.code->I64 q2.snd.n->(q5<=q1/\q1<(↑q2.fst.sess.length:Int))/\(I64 q0.client->I64 q0.seq->I64 q0.last.code->I64 q0.last.n->q5<=q1/\q1<(↑(q2.fst.sess.set q1.toNat (Sess.mk q0.client q6 q0.last)).length:Int))/\(I64 q0.client->I64 q0.seq->I64 q0.last.code->I64 q0.last.n->I64 ((q2.fst.sess.set q1.toNat (Sess.mk q0.client q6 q0.last)).getD q1.toNat q3).client->I64 ((q2.fst.sess.set q1.toNat (Sess.mk q0.client q6 q0.last)).getD q1.toNat q3).seq->I64 ((q2.fst.sess.set q1.toNat (Sess.mk q0.client q6 q0.last)).getD q1.toNat q3).last.code->I64 ((q2.fst.sess.set q1.toNat (Sess.mk q0.client q6 q0.last)).getD q1.toNat q3).last.n->q2.fst.version=r0/\q2.fst.next=r1/\q2.fst.keep=r2/\q2.fst.quota=r3/\q2.snd.code=r4.code/\q2.snd.n=r4.n/\(q2.fst.sess.set q1.toNat (Sess.mk q0.client q6 q0.last)).set q1.toNat (Sess.mk ((q2.fst.sess.set q1.toNat (Sess.mk q0.client q6 q0.last)).getD q1.toNat q3).client ((q2.fst.sess.set q1.toNat (Sess.mk q0.client q6 q0.last)).getD q1.toNat q3).seq q2.snd)=r5/\q2.fst.opens=r6/\q2.fst.snaps=r7))))))) (q2.fst.sess.getD q1.toNat q3)) (ah Sess.client c.client se)) (bt (State.mk v nx kp qt se op sn) c)) (dflt (Sh.nm NT.sess))) (q5=r4.n/\q7)) (0:Int)) c.seq) (se=r5/\op=r6/\sn=r7)):=by kernel_rfl
theorem xN (v:Int) (nx:Int) (kp:Int) (qt:Int) (c:Command) (se:List Sess) (op:List Opn) (sn:List Snap) (h0:bH (State.mk v nx kp qt se op sn) c=0):Sat Tryz.prog (au aF) 37 [.agg ([.int (v),.int (nx),.int (kp),.int (qt),.own 0,.own 1,.own 2]),.agg (cellsOf (.nm .command) c)] [.row 44 (.nm .sess) (se),.row 77 (.nm .opn) (op),.row 59 (.nm .snap) (sn)] ⟨[bH (State.mk v nx kp qt se op sn) c=0],[.agg ([.int (((bd (State.mk v nx kp qt se op sn) c).1.version)),.int (((bd (State.mk v nx kp qt se op sn) c).1.next)),.int (((bd (State.mk v nx kp qt se op sn) c).1.keep)),.int (((bd (State.mk v nx kp qt se op sn) c).1.quota)),.own 0,.own 1,.own 2]),.agg (cellsOf (.nm .reply) ((bd (State.mk v nx kp qt se op sn) c).2))],some ([.row 44 (.nm .sess) (((bd (State.mk v nx kp qt se op sn) c).1.sess)),.row 77 (.nm .opn) (((bd (State.mk v nx kp qt se op sn) c).1.opens)),.row 59 (.nm .snap) (((bd (State.mk v nx kp qt se op sn) c).1.snaps))]),false⟩:=by
 refine dt rf [] Tryz.func37 (by decide) (by kernel_rfl) ?_
 rw [zV]
 (repeat' (first | with_reducible refine And.intro ?_ ?_ | with_reducible refine and_imp.2 ?_ | intro))
 all_goals (first | (first | with_reducible rfl | with_reducible assumption | omega | (refine al ?_ ?_ <;> omega)) | exact bD (by with_reducible assumption) | exact yp (by with_reducible assumption) | exact Hf (by with_reducible assumption) | exact Ja (by with_reducible assumption) (by with_reducible assumption) | (rw [HP] <;> first | rfl | with_reducible assumption | exact rh (qu (by with_reducible assumption))) | (rw [HR] <;> first | rfl | with_reducible assumption | exact rh (qu (by with_reducible assumption))) | (rw [HU] <;> first | rfl | with_reducible assumption | exact rh (qu (by with_reducible assumption))) | (rw [HY] <;> first | rfl | with_reducible assumption | exact rh (qu (by with_reducible assumption))) | (rw [Jf] <;> first | rfl | with_reducible assumption | exact rh (qu (by with_reducible assumption))))
def xq:cw:=(bS 37 (bL (ai (kG (aj cI (aj cI (aj cI (aj cI (aj (a_ 0) (aj (a_ 1) (aj (a_ 2) bK)))))))) (ai (kT (.nm .command)) aO)) (ay (aZ 44 (.nm .sess)) (ay (aZ 77 (.nm .opn)) (ay (aZ 59 (.nm .snap)) aN))) fun ((v,nx,kp,qt,_,_,_,_),c,_) (se,op,sn,_)=>⟨[bH (State.mk v nx kp qt se op sn) c=0],[.agg ([.int (((bd (State.mk v nx kp qt se op sn) c).1.version)),.int (((bd (State.mk v nx kp qt se op sn) c).1.next)),.int (((bd (State.mk v nx kp qt se op sn) c).1.keep)),.int (((bd (State.mk v nx kp qt se op sn) c).1.quota)),.own 0,.own 1,.own 2]),.agg (cellsOf (.nm .reply) ((bd (State.mk v nx kp qt se op sn) c).2))],some ([.row 44 (.nm .sess) (((bd (State.mk v nx kp qt se op sn) c).1.sess)),.row 77 (.nm .opn) (((bd (State.mk v nx kp qt se op sn) c).1.opens)),.row 59 (.nm .snap) (((bd (State.mk v nx kp qt se op sn) c).1.snaps))]),false⟩) xC)
theorem re:aT Tryz.prog (au aF) xq:=(aA (az (ab (Hu (ae ax (ae ax (ae ax (ae ax (ae aC (ae aC (ae aC aG)))))))) (ab bI ao)) (ag aB (ag aB (ag aB aq))) fun ((v,nx,kp,qt,_,_,_,_),c,_) (se,op,sn,_) hp=>xN v nx kp qt c se op sn (fb hp)) rf)
end Go.Proofs.YtdggohppeeaipaaGreat
namespace Go.Proofs.YtdggohppeeaipaaGreat
open Go.RowKit
section
variable {s:State} {c:Command}
theorem EN (h:(if mayF s s.version=0 then aY c s.version else 1)=0):bH s c=0:=h
theorem FY (h:(if mayF s s.version=0 then aY c s.version else 1)=0):I64 (s.version+1):=by
 have h1:=(bF (qc h)).2.1
 simp only [cW,Bool.and_eq_true] at h1
 have:=kD h1.1.1.1
 constructor <;> omega
theorem Ia (h:¬ (if mayF s s.version=0 then aY c s.version else 1)=0):dA s c=(s,⟨(if mayF s s.version=0 then aY c s.version else 1),0⟩):=by
 have h:¬ bH s c=0:=h
 rw [dA,if_pos h]; rfl
theorem HB (h:(if mayF s s.version=0 then aY c s.version else 1)=0):dA s c=if c.kind=8 then (if ¬ c.n=s.version+1 then (s,⟨1,0⟩) else ({ s with version:=c.n },⟨0,c.n⟩))
 else if c.kind=1 then (if 0<=ah Sess.client c.client s.sess then (s,⟨12,0⟩) else ({ s with sess:=fB s.sess (s.sess.takeWhile fun y=>decide (y.client<c.client)).length ⟨c.client,0,⟨0,0⟩⟩ },⟨0,0⟩))
 else bd s c:=by
 have h:¬ ¬ bH s c=0:=fun k=>k h
 rw [dA,if_neg h]
theorem Ch (h:(if mayF s s.version=0 then aY c s.version else 1)=0) (k:c.kind=8) (n:¬ c.n=s.version+1):dA s c=(s,⟨1,0⟩):=by rw [HB h,if_pos k,if_pos n]
theorem Bf (h:(if mayF s s.version=0 then aY c s.version else 1)=0) (k:c.kind=8) (n:c.n=s.version+1):dA s c=({ s with version:=c.n },⟨0,c.n⟩):=by rw [HB h,if_pos k,if_neg (fun h=>h n)]
theorem wW (h:(if mayF s s.version=0 then aY c s.version else 1)=0) (k:c.kind=1) (n:0<=ah Sess.client c.client s.sess):dA s c=(s,⟨12,0⟩):=by rw [HB h,if_neg (by omega),if_pos k,if_pos n]
theorem vF (h:(if mayF s s.version=0 then aY c s.version else 1)=0) (k:c.kind=1) (n:ah Sess.client c.client s.sess<0):dA s c=({ s with sess:=fB s.sess (s.sess.takeWhile fun y=>decide (y.client<c.client)).length ⟨c.client,0,⟨0,0⟩⟩ },⟨0,0⟩):=by rw [HB h,if_neg (by omega),if_pos k,if_neg (by omega)]
theorem vA (h:(if mayF s s.version=0 then aY c s.version else 1)=0) (k:¬ c.kind=8) (n:¬ c.kind=1):dA s c=bd s c:=by rw [HB h,if_neg k,if_neg n]
theorem cC {l:List Sess} {k:Nat} {x:Sess} (hs:k<=l.length) (ha:(l.take k).all (fun y=>decide (y.client<c.client))=true) (hb:(l.length:Int)<=k\/c.client<=(l.getD k (dflt (.nm .sess))).client):l.take k++[x]++l.drop k=fB l (l.takeWhile fun y=>decide (y.client<c.client)).length x:=by
 have:k=(l.takeWhile fun y=>decide (y.client<c.client)).length:=by
  refine AL ha hs ?_
  by_cases hl:(l.length:Int)<=k
  ·exact .inl hl
  ·refine .inr ⟨by omega,_,gd (d:=dflt (.nm .sess)) (by omega),?_⟩
   rcases hb with hb | hb
   ·omega
   ·exact decide_eq_false (by omega)
 rw [<- this]; simp [fB]
theorem xr {l:List Sess} {k:Nat} (ha:(l.take k).all (fun y=>decide (y.client<c.client))=true) (h:(k:Int)<l.length) (hb:(l.getD k (dflt (.nm .sess))).client<c.client):(l.take (k+1)).all (fun y=>decide (y.client<c.client))=true:=by
 rw [aD (gd (d:=dflt (.nm .sess)) h),List.all_append,ha]; simp only [List.all_cons,List.all_nil,decide_eq_true hb]; rfl
end
def GM (st:State) (c:Command):List (Nat × LI):=[(15,{ σ:=Nat,F:=fun k=>([(2,one (.ptr 0 0)),(3,one (.ptr 1 0)),(4,one (.ptr 2 0)),(5,one (.ptr 3 0)),(7,one (.int k))],[.box 26 ([.int ((st.version)),.int ((st.next)),.int ((st.keep)),.int ((st.quota)),.own 4,.own 5,.own 6]),.box 29 (cellsOf (.nm .command) ((c))),.box 26 ([.int ((0)),.int ((0)),.int ((0)),.int ((0)),.em true,.em true,.em true]),.box 35 ([.int ((0)),.int ((0))]),.row 44 (.nm .sess) ((st.sess)),.row 77 (.nm .opn) ((st.opens)),.row 59 (.nm .snap) ((st.snaps))]),J:=fun k=>k<=st.sess.length/\(st.sess.take k).all (fun y=>decide (y.client<c.client))=true,μ:=fun k=>st.sess.length - k })]
theorem Ha (st:State) (c:Command) (r0:Int) (r1:Int) (r2:Int) (r3:Int) (r4:Reply) (r5:List Sess) (r6:List Opn) (r7:List Snap):sa aF xq (GM st c) Tryz.f12 [.agg (cellsOf (.nm .state) st),.agg (cellsOf (.nm .command) c)] [] [.agg ([.int (r0),.int (r1),.int (r2),.int (r3),.own 0,.own 1,.own 2]),.agg (cellsOf (.nm .reply) r4)] [.row 44 (.nm .sess) (r5),.row 77 (.nm .opn) (r6),.row 59 (.nm .snap) (r7)]=((fun (q12:Reply)=>(fun (q11:den (Sh.nm NT.sess))=>(fun (q10:Prop)=>(fun (q9:Prop)=>(fun (q8:Prop)=>(fun (q7:Int)=>(fun (q6:Int)=>(fun (q5:Prop)=>(fun (q4:State)=>(fun (q3:Int)=>(fun (q2:List Sess)=>(fun (q1:Int)=>(fun (q0:Prop)=>I64 q3->I64 st.next->I64 st.keep->I64 st.quota->q2.length*(32:Nat)<=(140737488355328:Nat)->st.opens.length*(16:Nat)<=(140737488355328:Nat)->st.snaps.length*(64:Nat)<=(140737488355328:Nat)->I64 c.kind->I64 q7->I64 c.seq->I64 c.set->I64 c.id->I64 c.n->c.chunks.length*(8:Nat)<=(140737488355328:Nat)->c.text.b.length<=(140737488355328:Nat)->I64 q3->I64 st.next->I64 st.keep->I64 st.quota->I64 (if mayF st q3=q1 then aY c q3 else q6)->(¬(if mayF st q3=q1 then aY c q3 else q6)=q1->I64 (if mayF st q3=q1 then aY c q3 else q6)->I64 q1->q3=r0/\q10/\q9/\q8/\(if mayF st q3=q1 then aY c q3 else q6)=r4.code/\q1=r4.n/\q2=r5/\q5)/\((if mayF st q3=q1 then aY c q3 else q6)=q1->(c.kind=(8:Int)->I64 (q3+q6)/\(¬c.n=q3+q6->I64 q6->I64 q1->q3=r0/\q10/\q9/\q8/\q6=r4.code/\q1=r4.n/\q2=r5/\q5)/\(c.n=q3+q6->c.n=r0/\q10/\q9/\q8/\q1=r4.code/\c.n=r4.n/\q2=r5/\q5))/\(¬c.kind=(8:Int)->(c.kind=q6->I64 (ah Sess.client q7 q2)->(q1<=ah Sess.client q7 q2->I64 (12:Int)->I64 q1->q3=r0/\q10/\q9/\q8/\(12:Int)=r4.code/\q1=r4.n/\q2=r5/\q5)/\(ah Sess.client q7 q2<q1->∃ (s0:Nat),(fun (q13:Int)=>(q1=(↑s0:Int)/\q0)/\(s0<=q2.length/\((List.take s0 q2).all fun (y:Sess)=>decide (y.client<q7))=true)/\∀ (s:Nat),(fun (q15:Int)=>(fun (q14:den (Sh.nm NT.sess))=>s<=q2.length/\((List.take s q2).all fun (y:Sess)=>decide (y.client<q7))=true->(q15<q13->q1<=q15/\q15<q13)/\((q15<q13->I64 q14.client/\I64 q14.seq/\I64 q14.last.code/\I64 q14.last.n)->(q15<q13/\q14.client<q7->I64 (q15+q6)/\∃ (s':Nat),(q15+q6=(↑s':Int)/\q0)/\(s' <= q2.length/\((List.take s' q2).all fun (y:Sess)=>decide (y.client<q7))=true)/\q2.length - s' < q2.length - s)/\(q13<=q15\/q7<=q14.client->(q1<=q15/\q15<=q13)/\q2.length<(1048576:Nat)/\[Sess.mk q7 q1 (Reply.mk q1 q1)].length=(1:Nat)/\q3=r0/\q10/\q9/\q8/\q1=r4.code/\q1=r4.n/\List.take s q2++[Sess.mk q7 q1 (Reply.mk q1 q1)]++List.drop s q2=r5/\q5))) (q2.getD s q11)) (↑s:Int)) (↑q2.length:Int)))/\(¬c.kind=q6->bH st c=q1/\(I64 q4.version->I64 q4.next->I64 q4.keep->I64 q4.quota->I64 q12.code->I64 q12.n->q4.version=r0/\q4.next=r1/\q4.keep=r2/\q4.quota=r3/\q12.code=r4.code/\q12.n=r4.n/\q4.sess=r5/\q4.opens=r6/\q4.snaps=r7))))) (q3=q3/\st.next=st.next/\st.keep=st.keep/\st.quota=st.quota/\c.kind=c.kind/\q7=q7/\c.seq=c.seq/\c.set=c.set/\c.id=c.id/\c.n=c.n/\c.chunks=c.chunks/\c.text=c.text/\q1=q1/\q1=q1/\q1=q1/\q1=q1/\q1=q1/\q1=q1/\q2=q2/\st.opens=st.opens/\st.snaps=st.snaps)) (0:Int)) st.sess) st.version) (bd st c).fst) (st.opens=r6/\st.snaps=r7)) (1:Int)) c.client) (st.quota=r3)) (st.keep=r2)) (st.next=r1)) (dflt (Sh.nm NT.sess))) (bd st c).snd):=by kernel_rfl
theorem Hx (st:State) (c:Command):Sat Tryz.prog (au aF) 12 [.agg (cellsOf (.nm .state) st),.agg (cellsOf (.nm .command) c)] [] ⟨[],[.agg ([.int (((dA st c).1.version)),.int (((dA st c).1.next)),.int (((dA st c).1.keep)),.int (((dA st c).1.quota)),.own 0,.own 1,.own 2]),.agg (cellsOf (.nm .reply) ((dA st c).2))],some ([.row 44 (.nm .sess) (((dA st c).1.sess)),.row 77 (.nm .opn) (((dA st c).1.opens)),.row 59 (.nm .snap) (((dA st c).1.snaps))]),true⟩:=by
 refine eg re (GM st c) Tryz.func12 (by decide) (by kernel_rfl) ?_
 rw [Ha]
 (repeat' (first | with_reducible refine And.intro ?_ ?_ | with_reducible refine and_imp.2 ?_ | intro))
 all_goals try (first | (first | with_reducible rfl | with_reducible assumption | omega | (refine al ?_ ?_ <;> omega)) | exact rfl | exact EN (by with_reducible assumption) | exact FY (by with_reducible assumption) | exact tM (by with_reducible assumption) | exact xr (by with_reducible assumption) (by with_reducible assumption) (by with_reducible assumption) | (rw [Ia] <;> first | rfl | with_reducible assumption | exact cC (by omega) (by with_reducible assumption) (by assumption)) | (rw [Ch] <;> first | rfl | with_reducible assumption | exact cC (by omega) (by with_reducible assumption) (by assumption)) | (rw [Bf] <;> first | rfl | with_reducible assumption | exact cC (by omega) (by with_reducible assumption) (by assumption)) | (rw [wW] <;> first | rfl | with_reducible assumption | exact cC (by omega) (by with_reducible assumption) (by assumption)) | (rw [vF] <;> first | rfl | with_reducible assumption | exact cC (by omega) (by with_reducible assumption) (by assumption)) | (rw [vA] <;> first | rfl | with_reducible assumption | exact cC (by omega) (by with_reducible assumption) (by assumption)))
 all_goals try (refine ⟨0,?_⟩; (repeat' (first | with_reducible refine And.intro ?_ ?_ | with_reducible refine and_imp.2 ?_ | intro)))
 all_goals try (first | (first | with_reducible rfl | with_reducible assumption | omega | (refine al ?_ ?_ <;> omega)) | exact rfl | exact EN (by with_reducible assumption) | exact FY (by with_reducible assumption) | exact tM (by with_reducible assumption) | exact xr (by with_reducible assumption) (by with_reducible assumption) (by with_reducible assumption) | (rw [Ia] <;> first | rfl | with_reducible assumption | exact cC (by omega) (by with_reducible assumption) (by assumption)) | (rw [Ch] <;> first | rfl | with_reducible assumption | exact cC (by omega) (by with_reducible assumption) (by assumption)) | (rw [Bf] <;> first | rfl | with_reducible assumption | exact cC (by omega) (by with_reducible assumption) (by assumption)) | (rw [wW] <;> first | rfl | with_reducible assumption | exact cC (by omega) (by with_reducible assumption) (by assumption)) | (rw [vF] <;> first | rfl | with_reducible assumption | exact cC (by omega) (by with_reducible assumption) (by assumption)) | (rw [vA] <;> first | rfl | with_reducible assumption | exact cC (by omega) (by with_reducible assumption) (by assumption)))
 all_goals try (refine ⟨‹Nat› + 1,?_⟩; (repeat' (first | with_reducible refine And.intro ?_ ?_ | with_reducible refine and_imp.2 ?_ | intro)))
 all_goals (first | (first | with_reducible rfl | with_reducible assumption | omega | (refine al ?_ ?_ <;> omega)) | exact rfl | exact EN (by with_reducible assumption) | exact FY (by with_reducible assumption) | exact tM (by with_reducible assumption) | exact xr (by with_reducible assumption) (by with_reducible assumption) (by with_reducible assumption) | (rw [Ia] <;> first | rfl | with_reducible assumption | exact cC (by omega) (by with_reducible assumption) (by assumption)) | (rw [Ch] <;> first | rfl | with_reducible assumption | exact cC (by omega) (by with_reducible assumption) (by assumption)) | (rw [Bf] <;> first | rfl | with_reducible assumption | exact cC (by omega) (by with_reducible assumption) (by assumption)) | (rw [wW] <;> first | rfl | with_reducible assumption | exact cC (by omega) (by with_reducible assumption) (by assumption)) | (rw [vF] <;> first | rfl | with_reducible assumption | exact cC (by omega) (by with_reducible assumption) (by assumption)) | (rw [vA] <;> first | rfl | with_reducible assumption | exact cC (by omega) (by with_reducible assumption) (by assumption)))
def zp:cw:=(bS 12 (bL (ai (kT (.nm .state)) (ai (kT (.nm .command)) aO)) aN fun (st,c,_) (_)=>⟨[],[.agg ([.int (((dA st c).1.version)),.int (((dA st c).1.next)),.int (((dA st c).1.keep)),.int (((dA st c).1.quota)),.own 0,.own 1,.own 2]),.agg (cellsOf (.nm .reply) ((dA st c).2))],some ([.row 44 (.nm .sess) (((dA st c).1.sess)),.row 77 (.nm .opn) (((dA st c).1.opens)),.row 59 (.nm .snap) (((dA st c).1.snaps))]),true⟩) xq)
theorem qW:aT Tryz.prog (au aF) zp:=(aA (az (ab bI (ab bI ao)) aq fun (st,c,_) (_) _=>Hx st c ) re)
end Go.Proofs.YtdggohppeeaipaaGreat
namespace Go.Proofs.YtdggohppeeaipaaGreat
open Go.RowKit
theorem zU  (r0:State):cP aF zp [] Tryz.f31 [] [] [.agg (cellsOf (.nm .state) r0)]=((1:Int)=r0.version/\(1:Int)=r0.next/\(0:Int)=r0.keep/\(0:Int)=r0.quota/\r0.sess=[]/\r0.opens=[]/\r0.snaps=[]):=by kernel_rfl
theorem As :Sat Tryz.prog (au aF) 31 [] [] ⟨[],[.agg (cellsOf (.nm .state) (⟨1,1,0,0,[],[],[]⟩))],none,false⟩:=by
 refine aQ qW [] Tryz.func31 (by decide) (by kernel_rfl) ?_
 rw [zU]
 (repeat' (first | with_reducible refine And.intro ?_ ?_ | with_reducible refine and_imp.2 ?_ | intro))
 all_goals (first | (first | with_reducible rfl | with_reducible assumption | omega | (refine al ?_ ?_ <;> omega)) | exact rfl)
def Dk:cw:=(bS 31 (bL aO aN fun (_) (_)=>⟨[],[.agg (cellsOf (.nm .state) (⟨1,1,0,0,[],[],[]⟩))],none,false⟩) zp)
theorem xW:aT Tryz.prog (au aF) Dk:=(aA (az ao aq fun (_) (_) _=>As  ) qW)
end Go.Proofs.YtdggohppeeaipaaGreat
namespace Go.Proofs.YtdggohppeeaipaaGreat
open Go.RowKit
def DN:cw:=Dk
theorem AP:aT Tryz.prog (au aF) DN:=xW
end Go.Proofs.YtdggohppeeaipaaGreat
namespace Go.Proofs.YtdggohppeeaipaaGreat
open Go.RowKit
section
variable {s:State} {c:Command}
theorem ir {α:Type} {key:α->Int} {l:List α} {k:Nat} {x d:α} (hk:k<l.length) (h:key x=key (l.getD k d)):(l.set k x).map key=l.map key:=by
 rw [List.map_set,h,List.getD_eq_getElem?_getD,List.getElem?_eq_getElem hk,Option.getD_some]
 have:key l[k]=(l.map key)[k]'(by rw [List.length_map]; exact hk):=by rw [List.getElem_map]
 rw [this,List.set_getElem_self]
theorem IH (h0:mayF s s.version=0) (h:¬ aY c s.version=0):dA s c=(s,⟨aY c s.version,0⟩):=by
 have e:(if mayF s s.version=0 then aY c s.version else 1)=aY c s.version:=if_pos h0
 have:=Ia (s:=s) (c:=c) (by rw [e]; exact h)
 rwa [e] at this
theorem nd (h0:mayF s s.version=0) (h:aY c s.version=0):(if mayF s s.version=0 then aY c s.version else 1)=0:=by rw [if_pos h0]; exact h
theorem oP (h0:mayF s s.version=0) (h1:aY c s.version=0) (h3:¬ c.kind=8) (h4:¬ c.kind=1) (hk:0<=ah Sess.client c.client s.sess) (hq:c.seq=(s.sess.getD (ah Sess.client c.client s.sess).toNat (dflt (.nm .sess))).seq+1) :
  dA s c=(State.mk (bt s c).1.version (bt s c).1.next (bt s c).1.keep (bt s c).1.quota (s.sess.set (ah Sess.client c.client s.sess).toNat (Sess.mk (s.sess.getD (ah Sess.client c.client s.sess).toNat (dflt (.nm .sess))).client c.seq (bt s c).2)) (bt s c).1.opens (bt s c).1.snaps,(bt s c).2):=by
 rw [vA (nd h0 h1) h3 h4]
 obtain ⟨v,nx,kp,qt,se,op,sn⟩:=s
 rw [Jf hk (by dsimp only at *; omega) (by dsimp only at *; omega) (by dsimp only at *; omega)]
 simp only [nI]
theorem BF (h0:mayF s s.version=0) (h1:aY c s.version=0) (h3:¬ c.kind=8) (h4:¬ c.kind=1) (h:ah Sess.client c.client s.sess<0\/¬ c.seq=(s.sess.getD (ah Sess.client c.client s.sess).toNat (dflt (.nm .sess))).seq+1):(dA s c).1=s:=by
 rw [vA (nd h0 h1) h3 h4]
 by_cases hk:ah Sess.client c.client s.sess<0
 ·rw [show bd s c=_ from HP hk]
 ·have hk:0<=ah Sess.client c.client s.sess:=by omega
  have h:=h.resolve_left (by omega)
  by_cases e:c.seq=(s.sess.getD (ah Sess.client c.client s.sess).toNat (dflt (.nm .sess))).seq
  ·rw [show bd s c=_ from HR hk e]
  ·by_cases l:c.seq<(s.sess.getD (ah Sess.client c.client s.sess).toNat (dflt (.nm .sess))).seq
   ·rw [show bd s c=_ from HU hk e l]
   ·rw [show bd s c=_ from HY hk e (by omega) (by omega)]
end
end Go.Proofs.YtdggohppeeaipaaGreat
namespace Go.Proofs.YtdggohppeeaipaaGreat
open Go.RowKit
theorem dI {c:Command} {v:Int} (h:aY c v=0):(1<=v/\v<=3)/\¬ bw c.kind=0/\bw c.kind<=v/\di c=true:=by
 unfold aY at h
 split at h
 ·cases h
 ·rename_i h1
  rw [Bool.or_eq_true,not_or] at h1
  simp only [Bool.not_eq_true',Bool.not_eq_false,decide_eq_true_eq] at h1
  split at h
  ·cases h
  ·split at h
   ·cases h
   ·rename_i h2 h3
    exact ⟨kD h1.1,h1.2,by omega,by simpa using h3⟩
theorem yx {c:Command} {v:Int}:0<=aY c v/\aY c v<=99:=by
 unfold aY; (repeat' split) <;> omega
theorem nE {s:State} {c:Command}:0<=bH s c/\bH s c<=99:=by
 unfold bH; split
 ·exact yx
 ·omega
theorem eP {s:State} {c:Command} (h:bH s c=0):mayF s s.version=0/\aY c s.version=0:=by
 have h1:=qc (s:=s) (c:=c) h
 refine ⟨h1,?_⟩
 unfold bH at h; rwa [if_pos h1] at h
theorem jR {s:State} {v:Int} (h1:bl v 1 3=true) (h2:cW s v=true) (h3:lG s=true) (h4:jG s=true) (h5:dx s v=true):mayF s v=0:=by
 unfold mayF; simp [h1,h2,h3,h4,h5]
theorem j_ {s:State} {v:Int} (h1:s.snaps.length<=16) (h2:ak Snap.id (s.next - 1) 0 s.snaps=true) (h3:∀ x ∈ s.snaps,bk v (du v) x=true):dx s v=true:=by
 unfold dx
 rw [h2,decide_eq_false (by omega),List.all_eq_true.2 h3]; rfl
section
variable {α:Type} {key:α->Int} {most:Int}
theorem xT:∀ {l:List α} {a b:Int},a<=b->ak key most b l=true->ak key most a l=true
 | [],_,_,_,_=>rfl
 | x :: l,a,b,h,k=>by
  simp only [ak,Bool.and_eq_true] at k ⊢
  have:=kD k.1
  exact ⟨by unfold bl; rw [Bool.and_eq_true,decide_eq_true_eq,decide_eq_true_eq]; omega,k.2⟩
theorem pf {l l':List α} (h:l'.Sublist l):∀ {a:Int},ak key most a l=true->ak key most a l' = true:=by
 induction h with
 | slnil=>intro a _; rfl
 | cons x _ ih=>
  intro a k
  simp only [ak,Bool.and_eq_true] at k
  have:=kD k.1
  exact ih (xT (by omega) k.2)
 | cons_cons x _ ih=>
  intro a k
  simp only [ak,Bool.and_eq_true] at k ⊢
  exact ⟨k.1,ih k.2⟩
theorem iR:∀ {l:List α} {a:Int},ak key most a l=ak id most a (l.map key)
 | [],_=>rfl
 | x :: l,a=>by
  show (bl (key x) (a+1) most && ak key most (key x) l)=(bl (key x) (a+1) most && ak id most (key x) (l.map key))
  rw [iR (l:=l)]
theorem vd {x:α} {m2:Int} (hx:most<key x) (hm:key x<=m2):∀ {l:List α} {a:Int},a<=most->ak key most a l=true->ak key m2 a (l++[x])=true
 | [],a,ha,_=>by
  simp only [List.nil_append,ak,Bool.and_true]
  unfold bl; rw [Bool.and_eq_true,decide_eq_true_eq,decide_eq_true_eq]; omega
 | y :: l,a,_,k=>by
  simp only [List.cons_append,ak,Bool.and_eq_true] at k ⊢
  have:=kD k.1
  exact ⟨by unfold bl; rw [Bool.and_eq_true,decide_eq_true_eq,decide_eq_true_eq]; omega,vd hx hm (by omega) k.2⟩
theorem ou {x:α}:∀ {l:List α} {a:Int},ak key most a l=true->a<key x->key x<=most->(∀ y ∈ l,¬ key y=key x)->ak key most a (fB l (l.takeWhile fun y=>decide (key y<key x)).length x)=true
 | [],a,_,h1,h2,_=>by
  show (bl (key x) (a+1) most && true)=true
  unfold bl; simp; omega
 | y :: l,a,k,h1,h2,hn=>by
  simp only [ak,Bool.and_eq_true] at k
  have h3:=kD k.1
  have h4:=hn y (List.mem_cons_self)
  by_cases h:key y<key x
  ·have e:fB (y :: l) ((y :: l).takeWhile fun y=>decide (key y<key x)).length x=y :: fB l (l.takeWhile fun y=>decide (key y<key x)).length x:=by
    rw [List.takeWhile_cons,decide_eq_true h,if_pos rfl]; rfl
   rw [e]
   simp only [ak,Bool.and_eq_true]
   exact ⟨k.1,ou k.2 h h2 fun z hz=>hn z (List.mem_cons_of_mem _ hz)⟩
  ·have e:fB (y :: l) ((y :: l).takeWhile fun y=>decide (key y<key x)).length x=x :: y :: l:=by
    rw [List.takeWhile_cons,decide_eq_false h]; rfl
   rw [e]
   simp only [ak,Bool.and_eq_true]
   refine ⟨?_,?_,k.2⟩
   ·unfold bl; rw [Bool.and_eq_true,decide_eq_true_eq,decide_eq_true_eq]; omega
   ·unfold bl; rw [Bool.and_eq_true,decide_eq_true_eq,decide_eq_true_eq]; omega
theorem ui {l:List α} {i:Nat} {x y:α} (h:y ∈ fB l i x):y=x\/y ∈ l:=by
 unfold fB at h
 rcases List.mem_append.1 h with h | h
 ·exact .inr (List.mem_of_mem_take h)
 ·rcases List.mem_cons.1 h with h | h
  ·exact .inl h
  ·exact .inr (List.mem_of_mem_drop h)
theorem uc {l:List α} {i:Int} (h:0<=i):(wo l i).Sublist l:=by
 unfold wo
 rw [show (i+1).toNat=i.toNat+1 by omega]
 have h1:(l.drop (i.toNat+1)).Sublist (l.drop i.toNat):=by
  rw [<- List.drop_drop]; exact List.drop_sublist 1 _
 have h2:=(List.Sublist.refl (l.take i.toNat)).append h1
 rwa [List.take_append_drop] at h2
theorem mI {want:Int} {l:List α} (h:ah key want l<0):∀ x ∈ l,¬ key x=want:=by
 refine hP.1 ?_
 unfold ah at *
 split
 ·rename_i i hi; rw [hi] at h; dsimp only at h; omega
 ·rfl
end
theorem gE {c:Command} (h:di c=true):(fT c.kind).1<=c.n/\c.n<=(fT c.kind).2/\uO c=true/\Gr c=true/\fO c.client 8 (!([(8:Int)].contains c.kind))=true/\fO c.seq 1048576 (!([(1:Int),8].contains c.kind))=true/\fO c.set 8 ([(2:Int),3,4].contains c.kind)=true:=by
 unfold di at h
 simp only [Bool.and_eq_true,decide_eq_true_eq] at h
 obtain ⟨⟨⟨⟨⟨⟨⟨h1,h2⟩,h3⟩,h4⟩,h5⟩,h6⟩,h7⟩,h8⟩:=h
 exact ⟨h1,h2,h3,h4,h5,h6,h7⟩
theorem lY {c:Command} (h:di c=true) (k:¬ c.kind=8):1<=c.client/\c.client<=8:=by
 have h1:=(gE h).2.2.2.2.1
 have e:(!([(8:Int)].contains c.kind))=true:=by simp [k]
 rw [e] at h1; unfold fO at h1; simpa using h1
theorem Cg {c:Command} (h:di c=true) (k:¬ c.kind=8) (k1:¬ c.kind=1):1<=c.seq/\c.seq<=1048576:=by
 have h1:=(gE h).2.2.2.2.2.1
 have e:(!([(1:Int),8].contains c.kind))=true:=by simp [k,k1]
 rw [e] at h1; unfold fO at h1; simpa using h1
theorem uq {c:Command} (h:di c=true) (k:c.kind=2\/c.kind=3\/c.kind=4):1<=c.set/\c.set<=8:=by
 have h1:=(gE h).2.2.2.2.2.2
 have e:([(2:Int),3,4].contains c.kind)=true:=by rcases k with k | k | k <;> rw [k] <;> decide
 rw [e] at h1; unfold fO at h1; simpa using h1
theorem yU {c:Command} (h:di c=true):(c.kind=8->2<=c.n/\c.n<=3)/\(c.kind=6->0<=c.n/\c.n<=8)/\(c.kind=12->0<=c.n/\c.n<=64):=by
 obtain ⟨h1,h2,_⟩:=gE h
 refine ⟨fun k=>?_,fun k=>?_,fun k=>?_⟩ <;> (rw [k] at h1 h2; exact ⟨h1,h2⟩)
theorem Ck {c:Command} (h:di c=true) (k:c.kind=11):(c.text.b.length:Int)<=16:=by
 have h1:=(gE h).2.2.2.1
 unfold Gr at h1; rw [if_pos k] at h1; simpa using h1
theorem tD {c:Command} (h:di c=true) (k:c.kind=3):cY c.chunks=0:=by
 have h1:=(gE h).2.2.1
 unfold uO at h1; rw [if_pos k] at h1; exact (ez h1).symm
theorem vG {l:List Snap}:distF l<=64:=Cl
theorem xi {l:List Snap} {id:Int}:(ft l id).length<=64:=by
 have:=Ek (l:=l) (id:=id) (k:=64) (n:=0) (Nat.le_refl _)
 unfold ft iW
 rw [List.length_map]
 refine Nat.le_trans (List.length_filter_le _ _) ?_
 simp
end Go.Proofs.YtdggohppeeaipaaGreat
namespace Go.Proofs.YtdggohppeeaipaaGreat
open Go.RowKit
theorem l_ {s:State} {v:Int} (a:bl s.version 1 3=true) (b:bl s.next 1 1048576=true) (c:bl s.keep 0 8=true) (d:bl s.quota 0 (if v<3 then 0 else 64)=true):cW s v=true:=by
 unfold cW; rw [a,b,c,d]; rfl
theorem fg {s:State} {v:Int} (h:cW s v=true):bl s.version 1 3=true/\bl s.next 1 1048576=true/\bl s.keep 0 8=true/\bl s.quota 0 (if v<3 then 0 else 64)=true:=by
 unfold cW at h; simp only [Bool.and_eq_true] at h; exact ⟨h.1.1.1,h.1.1.2,h.1.2,h.2⟩
theorem r_ {n a b:Int} (h1:a<=n) (h2:n<=b):bl n a b=true:=by unfold bl; rw [decide_eq_true h1,decide_eq_true h2]; rfl
theorem fk {s:State} (M:mayF s s.version=0) {nx:Int} {op:List Opn} {sn:List Snap} (hn:1<=nx/\nx<=1048576) (ho:ak Opn.set 8 0 op=true/\∀ x ∈ op,bR x=true) (h1:sn.length<=16) (h2:ak Snap.id (nx - 1) 0 sn=true) (h3:∀ x ∈ sn,bk s.version (du s.version) x=true):mayF (State.mk s.version nx s.keep s.quota s.sess op sn) s.version=0:=by
 obtain ⟨k1,k2,k3,k4,k5⟩:=bF M
 obtain ⟨n1,n2,n3,n4⟩:=fg k2
 refine jR k1 (l_ n1 (r_ hn.1 hn.2) n3 n4) k3 ?_ (j_ h1 h2 h3)
 show (ak Opn.set 8 0 op && op.all bR)=true
 rw [ho.1,List.all_eq_true.2 ho.2]; rfl
theorem cN {s:State} (M:mayF s s.version=0):ak Opn.set 8 0 s.opens=true/\∀ x ∈ s.opens,bR x=true:=by
 have h:=(bF M).2.2.2.1
 simp only [jG,Bool.and_eq_true,List.all_eq_true] at h
 exact h
theorem iH {s:State} {v:Int} (M:mayF s v=0):ak Sess.client 8 0 s.sess=true/\∀ x ∈ s.sess,bM x=true:=by
 have h:=(bF M).2.2.1
 simp only [lG,Bool.and_eq_true,List.all_eq_true] at h
 exact h
theorem fq {v t:Int} {x:Snap} (h:bk v t x=true):cY x.chunks=0/\bl x.set 1 8=true/\(x.held=false\/2<=v)/\((x.tag.b.length:Nat):Int)<=t:=by
 simp only [bk,Bool.and_eq_true,decide_eq_true_eq,Bool.or_eq_true,Bool.not_eq_true'] at h
 exact ⟨h.1.1.1,h.1.1.2,h.1.2,h.2⟩
theorem iJ {v t:Int} {x:Snap} (h1:cY x.chunks=0) (h2:bl x.set 1 8=true) (h3:x.held=false\/2<=v) (h4:((x.tag.b.length:Nat):Int)<=t):bk v t x=true:=by
 simp only [bk,Bool.and_eq_true,decide_eq_true_eq,Bool.or_eq_true,Bool.not_eq_true']
 exact ⟨⟨⟨h1,h2⟩,h3⟩,h4⟩
theorem mO {s:State} (M:mayF s s.version=0) {n:Nat} (h:n<s.snaps.length):bk s.version (du s.version) (s.snaps.getD n (dflt (.nm .snap)))=true:=
 (eH M).2.2 _ (List.mem_of_getElem? (gd (d:=dflt (.nm .snap)) (by omega)))
theorem uK {s:State} (M:mayF s s.version=0) {n:Nat} (h:n<s.snaps.length) {x:Snap} (hi:x.id=(s.snaps.getD n (dflt (.nm .snap))).id) (hx:bk s.version (du s.version) x=true):mayF (State.mk s.version s.next s.keep s.quota s.sess s.opens (s.snaps.set n x)) s.version=0:=by
 obtain ⟨k1,k2,k3⟩:=eH M
 refine fk M (js M) (cN M) (by rw [List.length_set]; exact k1) ?_ fun y hy=>?_
 ·rw [iR,ir (d:=dflt (.nm .snap)) h hi,<- iR]; exact k2
 ·rcases List.mem_or_eq_of_mem_set hy with hy | rfl
  ·exact k3 y hy
  ·exact hx
structure ActOk (s:State) (r:State × Reply):Prop where
 may:mayF r.1 r.1.version=0
 ver:r.1.version=s.version
 nxt:s.next<=r.1.next/\r.1.next<=s.next+1
 code:0<=r.2.code/\r.2.code<=99
 n:0<=r.2.n/\r.2.n<=1048576
theorem ActOk.refl {s:State} (M:mayF s s.version=0) {e n:Int} (h1:0<=e/\e<=99) (h2:0<=n/\n<=1048576):ActOk s (s,⟨e,n⟩):=⟨M,rfl,⟨Int.le_refl _,by show s.next<=s.next+1; omega⟩,h1,h2⟩
theorem xl {Q:State × Reply->Prop} {s:State} {c:Command} (h0:∀ e:Int,¬ e=0->0<=e->e<=99->Q (s,⟨e,0⟩))
  (ht:bH s c=0->c.kind=11->Q (aw (cz c) c s)) (hh:∀ b,bH s c=0->(b=true->c.kind=9)->(c.kind=9\/c.kind=10)->Q (aw (bj b) c s)) (hl:bH s c=0->c.kind=7->Q (aw bb c s)) (hp:bH s c=0->c.kind=5->Q (aw aK c s))
  (hq:bH s c=0->c.kind=12->Q (cq c s)) (hk:bH s c=0->c.kind=6->Q (cT c s)) (ha:bH s c=0->c.kind=4->Q (aU s c)) (hc:bH s c=0->c.kind=3->Q (aM s c)) (hb:bH s c=0->c.kind=2->Q (aS s c)):Q (bt s c):=by
 unfold bt
 split
 ·exact h0 _ (by assumption) nE.1 nE.2
 ·rename_i h
  have h:bH s c=0:=Classical.not_not.1 h
  unfold m_
  split
  ·exact ht h (by assumption)
  split
  ·rename_i _ k; exact hh _ h (fun e=>by cases e) (.inr k)
  split
  ·rename_i _ _ k; exact hh _ h (fun _=>k) (.inl k)
  split
  ·exact hl h (by assumption)
  split
  ·exact hp h (by assumption)
  split
  ·exact hq h (by assumption)
  split
  ·exact hk h (by assumption)
  split
  ·exact ha h (by assumption)
  split
  ·exact hc h (by assumption)
  split
  ·exact hb h (by assumption)
  ·exact h0 1 (by decide) (by decide) (by decide)
theorem fp {Q:State × Reply->Prop} {f:State->Nat->State × Reply} {s:State} {c:Command} (h0:Q (s,⟨15,0⟩)) (h:∀ n:Nat,(n:Int)=ah Snap.id c.id s.snaps->n<s.snaps.length->Q (f s n)):Q (aw f c s):=by
 unfold aw
 split
 ·exact h0
 ·rename_i hp
  have:=bD (key:=Snap.id) (want:=c.id) (l:=s.snaps) (by omega)
  exact h _ (by omega) (by omega)
theorem yN {s:State} {c:Command} (M:mayF s s.version=0):ActOk s (bt s c):=by
 have mk:∀ {e:Int},0<=e->e<=99->ActOk s (s,⟨e,0⟩):=fun h1 h2=>ActOk.refl M ⟨h1,h2⟩ ⟨Int.le_refl _,by decide⟩
 have one:s.next<=s.next+1:=by omega
 have z:(0:Int)<=0/\(0:Int)<=99:=by decide
 have zn:(0:Int)<=0/\(0:Int)<=1048576:=by decide
 have z1:(0:Int)<=1/\(1:Int)<=1048576:=by decide
 refine xl (fun e _ h1 h2=>mk h1 h2) (fun A k=>?_) (fun b A kb k=>?_) (fun A k=>?_) (fun A k=>?_) (fun A k=>?_) (fun A k=>?_) (fun A k=>?_) (fun A k=>?_) (fun A k=>?_)
 ·-- a tag
  obtain ⟨⟨v1,v2⟩,_,nv,F⟩:=dI (eP A).2
  refine fp (Q:=ActOk s) (mk (by decide) (by decide)) fun n hn hl=>?_
  obtain ⟨p1,p2,p3,p4⟩:=fq (mO M hl)
  rw [k,show bw 11=3 from rfl] at nv
  have tm:du s.version=16:=by unfold du; rw [if_neg (by omega)]
  refine ⟨uK M hl rfl (iJ p1 p2 p3 ?_),rfl,⟨Int.le_refl _,one⟩,z,zn⟩
  rw [tm]; exact Ck F k
 ·-- a hold
  obtain ⟨⟨v1,v2⟩,_,nv,F⟩:=dI (eP A).2
  refine fp (Q:=ActOk s) (mk (by decide) (by decide)) fun n hn hl=>?_
  obtain ⟨p1,p2,p3,p4⟩:=fq (mO M hl)
  unfold bj
  split
  ·exact mk (by decide) (by decide)
  ·refine ⟨uK M hl rfl (iJ p1 p2 (.inr ?_) p4),rfl,⟨Int.le_refl _,one⟩,z,z1⟩
   rcases k with k | k
   ·rw [k,show bw 9=2 from rfl] at nv; exact nv
   ·rw [k,show bw 10=2 from rfl] at nv; exact nv
 ·-- a look
  refine fp (Q:=ActOk s) (mk (by decide) (by decide)) fun n hn hl=>?_
  have h1:=ow (zk (mO M hl))
  exact ActOk.refl M ⟨by decide,by decide⟩ ⟨by omega,by omega⟩
 ·-- a prune
  refine fp (Q:=ActOk s) (mk (by decide) (by decide)) fun n hn hl=>?_
  unfold aK
  split
  ·exact mk (by decide) (by decide)
  split
  ·exact mk (by decide) (by decide)
  ·obtain ⟨k1,k2,k3⟩:=eH M
   have hs:(aX (s.snaps.getD n (dflt (.nm .snap))).id s.snaps).Sublist s.snaps:=List.filter_sublist
   have hf:=xi (l:=s.snaps) (id:=(s.snaps.getD n (dflt (.nm .snap))).id)
   exact ⟨fk M (js M) (cN M) (Nat.le_trans hs.length_le k1) (pf hs k2) fun x hx=>k3 x (hs.subset hx),rfl,⟨Int.le_refl _,one⟩,z,⟨by dsimp only; omega,by dsimp only; omega⟩⟩
 ·-- a quota
  obtain ⟨⟨v1,v2⟩,_,nv,F⟩:=dI (eP A).2
  rw [k,show bw 12=3 from rfl] at nv
  obtain ⟨k1,k2,k3,k4,k5⟩:=bF M
  obtain ⟨n1,n2,n3,n4⟩:=fg k2
  have hn:=(yU F).2.2 k
  have hd:=vG (l:=s.snaps)
  refine ⟨jR k1 (l_ n1 n2 n3 ?_) k3 k4 k5,rfl,⟨Int.le_refl _,one⟩,z,⟨by show (0:Int)<=(distF s.snaps:Int); omega,by show (distF s.snaps:Int)<=1048576; omega⟩⟩
  show bl c.n 0 (if s.version<3 then 0 else 64)=true
  rw [if_neg (by omega)]; exact r_ hn.1 hn.2
 ·-- a keep
  obtain ⟨_,_,_,F⟩:=dI (eP A).2
  obtain ⟨k1,k2,k3,k4,k5⟩:=bF M
  obtain ⟨n1,n2,n3,n4⟩:=fg k2
  have hn:=(yU F).2.1 k
  exact ⟨jR k1 (l_ n1 n2 (r_ hn.1 hn.2) n4) k3 k4 k5,rfl,⟨Int.le_refl _,one⟩,z,zn⟩
 ·-- an abort
  unfold aU
  split
  ·exact mk (by decide) (by decide)
  ·obtain ⟨k1,k2,k3⟩:=eH M
   have hs:=uc (l:=s.opens) (i:=bh s c) (by omega)
   exact ⟨fk M (js M) ⟨pf hs (cN M).1,fun x hx=>(cN M).2 x (hs.subset hx)⟩ k1 k2 k3,rfl,⟨Int.le_refl _,one⟩,z,zn⟩
 ·-- a commit
  obtain ⟨⟨v1,v2⟩,_,nv,F⟩:=dI (eP A).2
  unfold aM
  split
  ·exact mk (by decide) (by decide)
  split
  ·exact mk (by decide) (by decide)
  split
  ·exact mk (by decide) (by decide)
  ·rename_i o1 o2 o3
   obtain ⟨k1,k2,k3⟩:=eH M
   have hnx:=js M
   have hs:=uc (l:=s.opens) (i:=bh s c) (by omega)
   have hset:=uq F (.inr (.inl k))
   refine ⟨fk M ⟨by omega,by omega⟩ ⟨pf hs (cN M).1,fun x hx=>(cN M).2 x (hs.subset hx)⟩ (by rw [List.length_append]; simp only [List.length_cons,List.length_nil]; omega) ?_ fun x hx=>?_,rfl,⟨by dsimp only; omega,by dsimp only; omega⟩,z,⟨by dsimp only; omega,by dsimp only; omega⟩⟩
   ·exact vd (most:=s.next - 1) (by dsimp only; omega) (by dsimp only; omega) (by omega) k2
   ·rcases List.mem_append.1 hx with hx | hx
    ·exact k3 x hx
    ·rw [List.mem_singleton] at hx; subst hx
     refine iJ (tD F k) (r_ hset.1 hset.2) (.inl rfl) ?_
     show (0:Int)<=du s.version
     unfold du; split <;> decide
 ·-- a begin
  obtain ⟨⟨v1,v2⟩,_,nv,F⟩:=dI (eP A).2
  have hset:=uq F (.inl k)
  have hcl:=lY F (by omega)
  unfold aS
  split
  ·rename_i hp
   have hl:=bD hp
   have ho:=(cN M).2 _ (List.mem_of_getElem? (gd (d:=dflt (.nm .opn)) (k:=(ah Opn.set c.set s.opens).toNat) (l:=s.opens) (by omega)))
   have:=kD (show bl _ 1 8=true from ho)
   exact ActOk.refl M ⟨by decide,by decide⟩ ⟨by omega,by omega⟩
  ·rename_i hp
   obtain ⟨k1,k2,k3⟩:=eH M
   refine ⟨fk M (js M) ⟨ou (x:=Opn.mk c.set c.client) (cN M).1 (by dsimp only; omega) (by dsimp only; omega) fun y hy=>mI (key:=Opn.set) (want:=c.set) (l:=s.opens) (by omega) y hy,fun x hx=>?_⟩ k1 k2 k3,rfl,⟨Int.le_refl _,one⟩,z,zn⟩
   rcases ui hx with rfl | hx
   ·exact r_ hcl.1 hcl.2
   ·exact (cN M).2 x hx
end Go.Proofs.YtdggohppeeaipaaGreat
namespace Go.Proofs.YtdggohppeeaipaaGreat
open Go.RowKit
theorem nM {s:State} {v:Int} (M:mayF s v=0) {se:List Sess} (h:ak Sess.client 8 0 se=true/\∀ x ∈ se,bM x=true):mayF (State.mk s.version s.next s.keep s.quota se s.opens s.snaps) v=0:=by
 obtain ⟨k1,k2,k3,k4,k5⟩:=bF M
 refine jR k1 k2 ?_ k4 k5
 show (ak Sess.client 8 0 se && se.all bM)=true
 rw [h.1,List.all_eq_true.2 h.2]; rfl
theorem yW {s:State} {c:Command} (M:mayF s s.version=0) (h:aY c s.version=0) (k:c.kind=8) (hn:c.n=s.version+1):mayF (State.mk c.n s.next s.keep s.quota s.sess s.opens s.snaps) c.n=0:=by
 obtain ⟨⟨v1,v2⟩,_,nv,F⟩:=dI h
 have hr:=(yU F).1 k
 obtain ⟨k1,k2,k3,k4,k5⟩:=bF M
 obtain ⟨n1,n2,n3,n4⟩:=fg k2
 obtain ⟨s1,s2,s3⟩:=eH M
 have hq:=kD n4
 refine jR (r_ (by omega) hr.2) (l_ (r_ (by dsimp only; omega) hr.2) n2 n3 ?_) k3 k4 (j_ s1 s2 fun x hx=>?_)
 ·show bl s.quota 0 (if c.n<3 then 0 else 64)=true
  refine r_ hq.1 ?_
  have:=hq.2
  split at this <;> split <;> omega
 ·obtain ⟨p1,p2,p3,p4⟩:=fq (s3 x hx)
  refine iJ p1 p2 (p3.imp id fun h=>by omega) (Int.le_trans p4 ?_)
  unfold du; split <;> split <;> omega
theorem CV {s:State} {c:Command} (M:mayF s s.version=0) (h:aY c s.version=0) (k:c.kind=1) (hp:ah Sess.client c.client s.sess<0):mayF (State.mk s.version s.next s.keep s.quota (fB s.sess (s.sess.takeWhile fun y=>decide (y.client<c.client)).length ⟨c.client,0,⟨0,0⟩⟩) s.opens s.snaps) s.version=0:=by
 obtain ⟨_,_,_,F⟩:=dI h
 have hc:=lY F (by omega)
 refine nM M ⟨ou (x:=Sess.mk c.client 0 (Reply.mk 0 0)) (iH M).1 (by dsimp only; omega) (by dsimp only; omega) fun y hy=>mI (key:=Sess.client) (want:=c.client) (l:=s.sess) hp y hy,fun x hx=>?_⟩
 rcases ui hx with rfl | hx
 ·rfl
 ·exact (iH M).2 x hx
theorem Aw {s:State} {c:Command} (M:mayF s s.version=0) (h:aY c s.version=0) (h3:¬ c.kind=8) (h4:¬ c.kind=1) (hk:0<=ah Sess.client c.client s.sess):mayF (State.mk (bt s c).1.version (bt s c).1.next (bt s c).1.keep (bt s c).1.quota (s.sess.set (ah Sess.client c.client s.sess).toNat (Sess.mk (s.sess.getD (ah Sess.client c.client s.sess).toNat (dflt (.nm .sess))).client c.seq (bt s c).2)) (bt s c).1.opens (bt s c).1.snaps) (bt s c).1.version=0:=by
 obtain ⟨a1,a2,a3,a4,a5⟩:=yN (c:=c) M
 obtain ⟨_,_,_,F⟩:=dI h
 have hq:=Cg F h3 h4
 have hl:=bD hk
 have hn:(ah Sess.client c.client s.sess).toNat<s.sess.length:=by omega
 refine nM a1 ⟨?_,fun x hx=>?_⟩
 ·rw [iR,ir (d:=dflt (.nm .sess)) (x:=Sess.mk (s.sess.getD (ah Sess.client c.client s.sess).toNat (dflt (.nm .sess))).client c.seq (bt s c).2) hn rfl,<- iR]; exact (iH M).1
 ·rcases List.mem_or_eq_of_mem_set hx with hx | rfl
  ·exact (iH M).2 x hx
  ·show ((bl c.seq 0 1048576 && bl (bt s c).2.code 0 99) && bl (bt s c).2.n 0 1048576)=true
   rw [r_ (n:=c.seq) (a:=0) (b:=1048576) (by omega) hq.2,r_ a4.1 a4.2,r_ a5.1 a5.2]; rfl
end Go.Proofs.YtdggohppeeaipaaGreat
namespace Go.Proofs.YtdggohppeeaipaaGreat
open Go.RowKit
section
variable {α:Type} {key:α->Int} {most:Int}
theorem xH {l:List α} {i:Nat} {x y:α} (h:y ∈ l):y ∈ fB l i x:=by
 unfold fB
 rw [<- List.take_append_drop i l] at h
 rcases List.mem_append.1 h with h | h
 ·exact List.mem_append.2 (.inl h)
 ·exact List.mem_append.2 (.inr (List.mem_cons_of_mem _ h))
theorem Cv {l:List α} {i:Nat} {x:α}:l.length<=(fB l i x).length:=by
 unfold fB; rw [List.length_append,List.length_cons,List.length_take,List.length_drop]; omega
end
structure DoOk (s:State) (c:Command) (r:State × Reply):Prop where
 may:mayF r.1 r.1.version=0
 ver:r.1.version=if c.kind=8/\r.2.code=0 then s.version+1 else s.version
 nxt:s.next<=r.1.next/\r.1.next<=s.next+1
 len:s.sess.length<=r.1.sess.length
 seq:∀ x ∈ s.sess,∃ y ∈ r.1.sess,y.client=x.client/\x.seq<=y.seq/\y.seq<=x.seq+1
theorem kJ {s:State} (c:Command) {r:Reply} (M:mayF s s.version=0) (h:c.kind=8->¬ r.code=0):DoOk s c (s,r):=
 ⟨M,(if_neg fun hc=>h hc.1 hc.2).symm,⟨Int.le_refl _,by dsimp only; omega⟩,Nat.le_refl _,fun x hx=>⟨x,hx,rfl,Int.le_refl _,by omega⟩⟩
theorem He {s:State} {c:Command} (M:mayF s s.version=0):DoOk s c (dA s c):=by
 by_cases h:aY c s.version=0
 ·by_cases k8:c.kind=8
  ·by_cases hn:c.n=s.version+1
   ·have e:dA s c=(State.mk c.n s.next s.keep s.quota s.sess s.opens s.snaps,⟨0,c.n⟩):=Bf (nd M h) k8 hn
    rw [e]
    exact ⟨yW M h k8 hn,(hn.trans (if_pos ⟨k8,rfl⟩).symm:_),⟨Int.le_refl _,by dsimp only; omega⟩,Nat.le_refl _,fun x hx=>⟨x,hx,rfl,Int.le_refl _,by omega⟩⟩
   ·rw [Ch (nd M h) k8 hn]; exact kJ c M fun _=>by decide
  ·by_cases k1:c.kind=1
   ·by_cases hp:0<=ah Sess.client c.client s.sess
    ·rw [wW (nd M h) k1 hp]; exact kJ c M fun k=>absurd k k8
    ·have hp:ah Sess.client c.client s.sess<0:=by omega
     rw [vF (nd M h) k1 hp]
     exact ⟨CV M h k1 hp,(if_neg fun hc=>k8 hc.1).symm,⟨Int.le_refl _,by dsimp only; omega⟩,Cv,fun x hx=>⟨x,xH hx,rfl,Int.le_refl _,by omega⟩⟩
   ·by_cases hq:0<=ah Sess.client c.client s.sess/\c.seq=(s.sess.getD (ah Sess.client c.client s.sess).toNat (dflt (.nm .sess))).seq+1
    ·obtain ⟨hk,hq⟩:=hq
     rw [oP M h k8 k1 hk hq]
     obtain ⟨a1,a2,a3,a4,a5⟩:=yN (c:=c) M
     have hl:=bD hk
     have hn:(ah Sess.client c.client s.sess).toNat<s.sess.length:=by omega
     refine ⟨Aw M h k8 k1 hk,a2.trans (if_neg fun hc=>k8 hc.1).symm,a3,by dsimp only; rw [List.length_set]; exact Nat.le_refl _,fun x hx=>?_⟩
     dsimp only
     generalize (ah Sess.client c.client s.sess).toNat=n at *
     obtain ⟨j,hj,rfl⟩:=List.getElem_of_mem hx
     by_cases hjn:j=n
     ·refine ⟨_,List.mem_set hn _,?_⟩
      rw [List.getD_eq_getElem?_getD,List.getElem?_eq_getElem hn,Option.getD_some] at hq ⊢
      subst hjn
      exact ⟨rfl,by dsimp only; omega,by dsimp only; omega⟩
     ·exact ⟨s.sess[j],List.mem_of_getElem? (i:=j) (by rw [List.getElem?_set_ne (fun hc=>hjn hc.symm),List.getElem?_eq_getElem hj]),rfl,Int.le_refl _,by omega⟩
    ·have e:=BF M h k8 k1 (by
      by_cases hk:ah Sess.client c.client s.sess<0
      ·exact .inl hk
      ·exact .inr fun hc=>hq ⟨by omega,hc⟩)
     have e2:dA s c=(s,(dA s c).2):=Prod.ext e rfl
     rw [e2]; exact kJ c M fun k=>absurd k k8
 ·rw [IH M h]; exact kJ c M fun _=>h
end Go.Proofs.YtdggohppeeaipaaGreat
namespace Go.Proofs.YtdggohppeeaipaaGreat
open Go.RowKit
section
variable {s:State} {c:Command}
end
end Go.Proofs.YtdggohppeeaipaaGreat
namespace Go.Proofs.YtdggohppeeaipaaGreat
open Go.RowKit
section
variable {α:Type} {key:α->Int} {most:Int}
end
section
variable {s:State} {x:Snap} {i:Nat}
end
section
variable {s:State} {x:Snap} {i:Nat}
end
section
variable {s:State} {x:Snap} {i:Nat}
end
end Go.Proofs.YtdggohppeeaipaaGreat
namespace Go.Proofs.YtdggohppeeaipaaGreat
open Go.RowKit
def keepsX (s:State) (c:Command) (r:State × Reply) (i:Nat) (x:Snap):Prop:=
 (ah Snap.id x.id r.1.snaps<0/\c.kind=5/\c.id=x.id/\x.held=false/\fZ s i=false/\r.2.code=0) \/
 (0<=ah Snap.id x.id r.1.snaps/\∃ y,r.1.snaps.getD (ah Snap.id x.id r.1.snaps).toNat (dflt (.nm .snap))=y/\y.chunks=x.chunks/\y.set=x.set/\(y.held=x.held\/c.kind=9\/c.kind=10)/\(y.tag=x.tag\/c.kind=11))
structure KeepOk (s:State) (c:Command) (r:State × Reply):Prop where
 x:∀ i x,s.snaps[i]? = some x->keepsX s c r i x
 more:r.1.snaps.length<=s.snaps.length\/(r.1.snaps.length=s.snaps.length+1/\c.kind=3/\r.2.code=0/\(r.1.snaps.getD s.snaps.length (dflt (.nm .snap))).id=r.2.n/\(s.quota=0\/(distF r.1.snaps:Int)<=s.quota))
section
variable {s:State} {c:Command} {k:Nat}
end
end Go.Proofs.YtdggohppeeaipaaGreat
namespace Go.Proofs.YtdggohppeeaipaaGreat
open Go.RowKit
section
variable {α:Type} {key:α->Int} {most:Int}
end
section
variable {s:State} {c:Command}
end
end Go.Proofs.YtdggohppeeaipaaGreat
namespace Go.Proofs.YtdggohppeeaipaaGreat
open Go.RowKit
def ew (s:State) (v:Int):State × Int:=if bl v 1 3=false\/¬ mayF s s.version=0 then (⟨0,0,0,0,[],[],[]⟩,1) else if v<s.version then (⟨0,0,0,0,[],[],[]⟩,32) else (State.mk v s.next s.keep s.quota s.sess s.opens s.snaps,0)
def er (s:State) (v:Int):State:=State.mk v s.next s.keep s.quota s.sess s.opens s.snaps
theorem AU {s:State} {v:Int} (M:mayF s s.version=0) (h1:s.version<=v) (h2:v<=3):mayF (er s v) v=0:=by
 obtain ⟨k1,k2,k3,k4,k5⟩:=bF M
 obtain ⟨n1,n2,n3,n4⟩:=fg k2
 obtain ⟨s1,s2,s3⟩:=eH M
 have v1:=kD n1
 have hq:=kD n4
 refine jR (r_ (by omega) h2) (l_ (r_ (by show 1<=v; omega) h2) n2 n3 ?_) k3 k4 (j_ s1 s2 fun x hx=>?_)
 ·show bl s.quota 0 (if v<3 then 0 else 64)=true
  refine r_ hq.1 ?_
  have:=hq.2
  split at this <;> split <;> omega
 ·obtain ⟨p1,p2,p3,p4⟩:=fq (s3 x hx)
  refine iJ p1 p2 (p3.imp id fun h=>by omega) (Int.le_trans p4 ?_)
  unfold du; split <;> split <;> omega
theorem tW {c:Command} {u v:Int} (h:aY c u=0) (h1:u<=v) (h2:v<=3):aY c v=0:=by
 obtain ⟨⟨v1,v2⟩,n0,nv,F⟩:=dI h
 have e:(!(bl v 1 3) || decide (bw c.kind=0))=false:=by rw [r_ (n:=v) (a:=1) (b:=3) (by omega) h2,decide_eq_false n0]; rfl
 unfold aY
 rw [e,if_neg (by decide),if_neg (by omega),F]; rfl
theorem EX {s:State} {v:Int} (h:(ew s v).2=0):(1<=v/\v<=3)/\mayF s s.version=0/\s.version<=v/\(ew s v).1=er s v:=by
 unfold ew at h ⊢
 split at h
 ·cases h
 ·rename_i h1
  split at h
  ·cases h
  ·rename_i h2
   have h3:bl v 1 3=true:=by
    rcases hb:bl v 1 3 with _ | _
    ·exact absurd (.inl hb) h1
    ·rfl
   have h4:mayF s s.version=0:=Classical.not_not.1 fun h=>h1 (.inr h)
   rw [if_neg h1,if_neg h2]
   exact ⟨kD h3,h4,by omega,rfl⟩
theorem Fw {s:State} {v:Int} (M:mayF s s.version=0) (h1:s.version<=v) (h2:v<=3):ew s v=(er s v,0):=by
 have v1:=kD (bF M).1
 have h3:bl v 1 3=true:=r_ (by omega) h2
 unfold ew
 rw [if_neg (fun h=>by rcases h with h | h; rw [h3] at h; cases h; exact h M),if_neg (by omega)]; rfl
theorem FP {s:State} {c:Command} (v:Int):m_ (er s v) c=(er (m_ s c).1 v,(m_ s c).2):=by
 have sd:∀ {f:State->Nat->State × Reply},(∀ n,f (er s v) n=(er (f s n).1 v,(f s n).2))->aw f c (er s v)=(er (aw f c s).1 v,(aw f c s).2):=fun {f} h=>by
  unfold aw
  rw [show (er s v).snaps=s.snaps from rfl]
  split
  ·rfl
  ·exact h _
 unfold m_
 split
 ·exact sd fun n=>rfl
 split
 ·exact sd fun n=>by unfold bj; rw [show (er s v).snaps=s.snaps from rfl]; split <;> rfl
 split
 ·exact sd fun n=>by unfold bj; rw [show (er s v).snaps=s.snaps from rfl]; split <;> rfl
 split
 ·exact sd fun n=>rfl
 split
 ·exact sd fun n=>by
   unfold aK; rw [show (er s v).snaps=s.snaps from rfl,show fZ (er s v) n=fZ s n from rfl]; split
   ·rfl
   ·split <;> rfl
 split
 ·rfl
 split
 ·rfl
 split
 ·unfold aU; rw [show bh (er s v) c=bh s c from rfl]; split <;> rfl
 split
 ·unfold aM; rw [show bh (er s v) c=bh s c from rfl]; split
  ·rfl
  ·rw [show (er s v).snaps=s.snaps from rfl,show (er s v).next=s.next from rfl,show (er s v).quota=s.quota from rfl]
   split
   ·rfl
   ·split <;> rfl
 split
 ·unfold aS; rw [show (er s v).opens=s.opens from rfl]; split <;> rfl
 ·rfl
theorem Gh {s:State} {c:Command} {v:Int} (M:mayF s s.version=0) (h:aY c s.version=0) (h1:s.version<=v) (h2:v<=3):bt (er s v) c=(er (bt s c).1 v,(bt s c).2):=by
 rw [Cf (nd M h),Cf (s:=er s v) (nd (s:=er s v) (AU M h1 h2) (tW h h1 h2))]
 exact FP v
theorem GD {s:State} {c:Command} {v:Int} (M:mayF s s.version=0) (h:aY c s.version=0) (h1:s.version<=v) (h2:v<=3) (k8:¬ c.kind=8):dA (er s v) c=(er (dA s c).1 v,(dA s c).2):=by
 have m1:=nd M h
 have M2:mayF (er s v) (er s v).version=0:=AU M h1 h2
 have C2:aY c (er s v).version=0:=tW h h1 h2
 have m2:=nd M2 C2
 by_cases k1:c.kind=1
 ·by_cases hp:0<=ah Sess.client c.client s.sess
  ·rw [wW m1 k1 hp,wW (s:=er s v) m2 k1 hp]
  ·rw [vF m1 k1 (by omega),vF (s:=er s v) m2 k1 (by show ah Sess.client c.client s.sess<0; omega)]; rfl
 ·by_cases hk:0<=ah Sess.client c.client s.sess
  ·by_cases e1:c.seq=(s.sess.getD (ah Sess.client c.client s.sess).toNat (dflt (.nm .sess))).seq
   ·rw [vA m1 k8 k1,vA (s:=er s v) m2 k8 k1]
    have a:=HR (v:=s.version) (nx:=s.next) (kp:=s.keep) (qt:=s.quota) (op:=s.opens) (sn:=s.snaps) hk e1
    have b:=HR (v:=v) (nx:=s.next) (kp:=s.keep) (qt:=s.quota) (op:=s.opens) (sn:=s.snaps) hk e1
    exact b.trans (congrArg (fun r:State × Reply=>(er r.1 v,r.2)) a).symm
   ·by_cases e2:c.seq<(s.sess.getD (ah Sess.client c.client s.sess).toNat (dflt (.nm .sess))).seq
    ·rw [vA m1 k8 k1,vA (s:=er s v) m2 k8 k1]
     have a:=HU (v:=s.version) (nx:=s.next) (kp:=s.keep) (qt:=s.quota) (op:=s.opens) (sn:=s.snaps) hk e1 e2
     have b:=HU (v:=v) (nx:=s.next) (kp:=s.keep) (qt:=s.quota) (op:=s.opens) (sn:=s.snaps) hk e1 e2
     exact b.trans (congrArg (fun r:State × Reply=>(er r.1 v,r.2)) a).symm
    ·by_cases e3:(s.sess.getD (ah Sess.client c.client s.sess).toNat (dflt (.nm .sess))).seq+1<c.seq
     ·rw [vA m1 k8 k1,vA (s:=er s v) m2 k8 k1]
      have a:=HY (v:=s.version) (nx:=s.next) (kp:=s.keep) (qt:=s.quota) (op:=s.opens) (sn:=s.snaps) hk e1 (by omega) e3
      have b:=HY (v:=v) (nx:=s.next) (kp:=s.keep) (qt:=s.quota) (op:=s.opens) (sn:=s.snaps) hk e1 (by omega) e3
      exact b.trans (congrArg (fun r:State × Reply=>(er r.1 v,r.2)) a).symm
     ·have a:=oP M h k8 k1 hk (by omega)
      have b:=oP (s:=er s v) M2 C2 k8 k1 hk (by show c.seq=(s.sess.getD (ah Sess.client c.client s.sess).toNat (dflt (.nm .sess))).seq+1; omega)
      rw [Gh M h h1 h2] at b
      rw [a,b]; rfl
  ·rw [vA m1 k8 k1,vA (s:=er s v) m2 k8 k1]
   have a:=HP (v:=s.version) (nx:=s.next) (kp:=s.keep) (qt:=s.quota) (op:=s.opens) (sn:=s.snaps) (c:=c) (se:=s.sess) (by omega)
   have b:=HP (v:=v) (nx:=s.next) (kp:=s.keep) (qt:=s.quota) (op:=s.opens) (sn:=s.snaps) (c:=c) (se:=s.sess) (by omega)
   exact b.trans (congrArg (fun r:State × Reply=>(er r.1 v,r.2)) a).symm
end Go.Proofs.YtdggohppeeaipaaGreat
namespace Go.Proofs.YtdggohppeeaipaaGreat
open Go.RowKit
section
variable {α:Type} {key:α->Int} {x y d:α}
variable {l:List α} {k:Nat}
end
def DH:cw:=DN
theorem yR:aT Tryz.prog (au aF) DH:=AP
end Go.Proofs.YtdggohppeeaipaaGreat
namespace Go.Proofs.YtdggohppeeaipaaGreat
open Go.RowKit
section
variable {st:State} {c:Command}
variable {i:Int} {x:Snap}
end
def DY:cw:=DH
theorem zd:aT Tryz.prog (au aF) DY:=yR
end Go.Proofs.YtdggohppeeaipaaGreat
namespace Go.Proofs.YtdggohppeeaipaaGreat
open Go.RowKit
section
variable {st:State} {c:Command}
end
def Dn:cw:=DY
theorem AQ:aT Tryz.prog (au aF) Dn:=zd
end Go.Proofs.YtdggohppeeaipaaGreat
namespace Go.Proofs.YtdggohppeeaipaaGreat
open Go.RowKit
section
variable {st:State} {c:Command}
end
def zy:cw:=Dn
theorem qR:aT Tryz.prog (au aF) zy:=AQ
end Go.Proofs.YtdggohppeeaipaaGreat
namespace Go.Proofs.YtdggohppeeaipaaGreat
open Go.RowKit
section
variable {l:List Int} {k:Nat} {x:Int}
end
theorem zg (k:Int) (r0:Bool):cP aF zy [] Tryz.f76 [.c (.int (k))] [] [.c (.bool (.atom (r0)))]=(I64 k->(decide ((1:Int)<=k) && decide (k<=(3:Int)))=r0):=by kernel_rfl
theorem x_ (k:Int):Sat Tryz.prog (au aF) 76 [.c (.int (k))] [] ⟨[],[.c (.bool (.atom ((fv k))))],none,false⟩:=by
 refine aQ qR [] Tryz.func76 (by decide) (by kernel_rfl) ?_
 rw [zg]
 grind [fv]
def zW:cw:=(bS 76 (bL (ai (kC cI) aO) aN fun (k,_) (_)=>⟨[],[.c (.bool (.atom ((fv k))))],none,false⟩) zy)
theorem rC:aT Tryz.prog (au aF) zW:=(aA (az (ab (av ax) ao) aq fun (k,_) (_) _=>x_ k ) qR)
end Go.Proofs.YtdggohppeeaipaaGreat
namespace Go.Proofs.YtdggohppeeaipaaGreat
open Go.RowKit
section
variable {st:State} {v:Int}
theorem Is (o:fv v=false\/¬ mayF st st.version=0):ew st v=(⟨0,0,0,0,[],[],[]⟩,1):=if_pos o
theorem Ik (k:fv v=true) (m:mayF st st.version=0) (l:v<st.version):ew st v=(⟨0,0,0,0,[],[],[]⟩,32):=(if_neg fun o=>by rcases o with o | o; rw [show bl v 1 3=true from k] at o; cases o; exact o m).trans (if_pos l)
theorem Iq (k:fv v=true) (m:mayF st st.version=0) (l:st.version<=v):ew st v=(State.mk v st.next st.keep st.quota st.sess st.opens st.snaps,0):=(if_neg fun o=>by rcases o with o | o; rw [show bl v 1 3=true from k] at o; cases o; exact o m).trans (if_neg (by omega))
end
theorem HI (st:State) (v:Int) (r0:Int) (r1:Int) (r2:Int) (r3:Int) (r4:Int) (r5:List Sess) (r6:List Opn) (r7:List Snap):sa aF zW [] Tryz.f24 [.agg (cellsOf (.nm .state) st),.c (.int (v))] [] [.agg ([.int (r0),.int (r1),.int (r2),.int (r3),.own 0,.own 1,.own 2]),.c (.int (r4))] [.row 44 (.nm .sess) (r5),.row 77 (.nm .opn) (r6),.row 59 (.nm .snap) (r7)]=((fun (q2:Prop)=>(fun (q1:Int)=>(fun (q0:Int)=>I64 q1->I64 st.next->I64 st.keep->I64 st.quota->st.sess.length*(32:Nat)<=(140737488355328:Nat)->st.opens.length*(16:Nat)<=(140737488355328:Nat)->st.snaps.length*(64:Nat)<=(140737488355328:Nat)->I64 v->(fv v=true->I64 (mayF st q1))->(fv v=false\/¬mayF st q1=q0->q0=r0/\q0=r1/\q0=r2/\q0=r3/\(1:Int)=r4/\q2)/\(fv v=true/\mayF st q1=q0->(v<q1->q0=r0/\q0=r1/\q0=r2/\q0=r3/\(32:Int)=r4/\q2)/\(q1<=v->I64 q1->I64 st.next->I64 st.keep->I64 st.quota->v=r0/\st.next=r1/\st.keep=r2/\st.quota=r3/\q0=r4/\st.sess=r5/\st.opens=r6/\st.snaps=r7))) (0:Int)) st.version) (r5=[]/\r6=[]/\r7=[])):=by kernel_rfl
theorem GU (st:State) (v:Int):Sat Tryz.prog (au aF) 24 [.agg (cellsOf (.nm .state) st),.c (.int (v))] [] ⟨[],[.agg ([.int (((ew st v).1.version)),.int (((ew st v).1.next)),.int (((ew st v).1.keep)),.int (((ew st v).1.quota)),.own 0,.own 1,.own 2]),.c (.int (((ew st v).2)))],some ([.row 44 (.nm .sess) (((ew st v).1.sess)),.row 77 (.nm .opn) (((ew st v).1.opens)),.row 59 (.nm .snap) (((ew st v).1.snaps))]),true⟩:=by
 refine eg rC [] Tryz.func24 (by decide) (by kernel_rfl) ?_
 rw [HI]
 (repeat' (first | with_reducible refine And.intro ?_ ?_ | with_reducible refine and_imp.2 ?_ | intro))
 all_goals (first | (first | with_reducible rfl | with_reducible assumption | omega | (refine al ?_ ?_ <;> omega)) | (rw [Is (by assumption)]; done) | (rw [Ik (by with_reducible assumption) (by with_reducible assumption) (by with_reducible assumption)]; done) | (rw [Iq (by with_reducible assumption) (by with_reducible assumption) (by with_reducible assumption)]; done))
def Dp:cw:=(bS 24 (bL (ai (kT (.nm .state)) (ai (kC cI) aO)) aN fun (st,v,_) (_)=>⟨[],[.agg ([.int (((ew st v).1.version)),.int (((ew st v).1.next)),.int (((ew st v).1.keep)),.int (((ew st v).1.quota)),.own 0,.own 1,.own 2]),.c (.int (((ew st v).2)))],some ([.row 44 (.nm .sess) (((ew st v).1.sess)),.row 77 (.nm .opn) (((ew st v).1.opens)),.row 59 (.nm .snap) (((ew st v).1.snaps))]),true⟩) zW)
theorem An:aT Tryz.prog (au aF) Dp:=(aA (az (ab bI (ab (av ax) ao)) aq fun (st,v,_) (_) _=>GU st v ) rC)
end Go.Proofs.YtdggohppeeaipaaGreat
namespace Go.Proofs.YtdggohppeeaipaaGreat
open Go.RowKit
def DP:cw:=Dp
theorem AG:aT Tryz.prog (au aF) DP:=An
end Go.Proofs.YtdggohppeeaipaaGreat
namespace Go.Proofs.YtdggohppeeaipaaGreat
open Go.RowKit
def DM:cw:=DP
theorem xP:aT Tryz.prog (au aF) DM:=AG
end Go.Proofs.YtdggohppeeaipaaGreat
namespace Go.Proofs.YtdggohppeeaipaaGreat
open Go.RowKit
def DX:cw:=DM
theorem xz:aT Tryz.prog (au aF) DX:=xP
end Go.Proofs.YtdggohppeeaipaaGreat
namespace Go.Proofs.YtdggohppeeaipaaGreat
open Go.RowKit
def DT:cw:=DX
theorem zt:aT Tryz.prog (au aF) DT:=xz
end Go.Proofs.YtdggohppeeaipaaGreat
namespace Go.Proofs.YtdggohppeeaipaaGreat
open Go.RowKit
def mJ:cw:=DT
theorem fa:aT Tryz.prog (au aF) mJ:=zt
end Go.Proofs.YtdggohppeeaipaaGreat
namespace Go.Proofs.YtdggohppeeaipaaGreat
open Go.RowKit
theorem D_ {b:UInt8}:I64 (1+(b.toNat:Int).tmod 3):=by
 have h1:=Int.tmod_nonneg (a:=(b.toNat:Int)) 3 (by omega)
 have h2:=Int.tmod_lt_of_pos (b.toNat:Int) (b:=3) (by decide)
 constructor <;> omega
end Go.Proofs.YtdggohppeeaipaaGreat
namespace Go.Proofs.YtdggohppeeaipaaGreat
open Go.RowKit
def cO (s:State) (l:List Command):State:=l.foldl (fun s c=>(dA s c).1) s
def dB (s:State):List Command->List Reply
 | []=>[]
 | c :: l=>(dA s c).2 :: dB (dA s c).1 l
def oQ (l:List Command):List Command:=(l.take 40).map g_
section
variable {s:State} {l:List Command} {x:Command} {k:Nat}
theorem qY:∀ {l:List Command} {s:State},dB s (l++[x])=dB s l++[(dA (cO s l) x).2]
 | [],_=>rfl
 | c :: l,s=>by
  show (dA s c).2 :: dB (dA s c).1 (l++[x])=(dA s c).2 :: (dB (dA s c).1 l++[(dA (cO (dA s c).1 l) x).2])
  rw [qY]
theorem cg (hx:l[k]? = some x):(dA (cO s (l.take k)) x).1=cO s (l.take (k+1)):=by
 rw [aD hx]; unfold cO; rw [List.foldl_append]; rfl
theorem sP (hx:l[k]? = some x):dB s (l.take k)++[(dA (cO s (l.take k)) x).2]=dB s (l.take (k+1)):=by
 rw [aD hx,qY]
theorem uN:∀ {l:List Command} {s:State},(dB s l).length=l.length
 | [],_=>rfl
 | c :: l,s=>by
  show (dB (dA s c).1 l).length+1=l.length+1
  rw [uN]
end
theorem tH {v:Int} (v2:v<=3):∀ {l:List Command} {s:State},mayF s s.version=0->s.version<=v->(∀ c ∈ l,aY c s.version=0/\¬ c.kind=8) ->
  mayF (cO s l) (cO s l).version=0/\(cO s l).version=s.version/\cO (er s v) l=er (cO s l) v/\dB (er s v) l=dB s l
 | [],s,M,h1,_=>⟨M,rfl,rfl,rfl⟩
 | c :: l,s,M,h1,h=>by
  obtain ⟨hc,k8⟩:=h c List.mem_cons_self
  have D:=He (c:=c) M
  have hv:(dA s c).1.version=s.version:=by rw [D.ver,if_neg (fun h=>k8 h.1)]
  have e:=GD M hc h1 v2 k8
  obtain ⟨a1,a2,a3,a4⟩:=tH v2 (l:=l) D.may (by omega) fun d hd=>by rw [hv]; exact h d (List.mem_cons_of_mem _ hd)
  refine ⟨a1,a2.trans hv,?_,?_⟩
  ·show cO (dA (er s v) c).1 l=_
   rw [e]; exact a3
  ·show (dA (er s v) c).2 :: dB (dA (er s v) c).1 l=(dA s c).2 :: dB (dA s c).1 l
   rw [e]; dsimp only; rw [a4]
section
variable {s:State} {l:List Command} {x:Command} {k:Nat} {d:Command}
theorem tn {y:Reply} (h:(k:Int)<l.length) (hl:l.length*88<=140737488355328):((dB s (l.take k)).length+[y].length)*16<=140737488355328:=by
 rw [uN,List.length_take]; simp only [List.length_cons,List.length_nil]; omega
theorem FJ (h:(l.length:Int)<=k):l.take k=l:=List.take_of_length_le (by omega)
end
theorem yk {a b:List Reply} {k:Nat} (h:a.take k=b.take k) (e:(a.getD k (dflt (.nm .reply))).code=(b.getD k (dflt (.nm .reply))).code) (e2:(a.getD k (dflt (.nm .reply))).n=(b.getD k (dflt (.nm .reply))).n) (hk:(k:Int)<a.length) (hb:(k:Int)<b.length):a.take (k+1)=b.take (k+1):=qw (d:=dflt (.nm .reply)) h (by omega) (by omega) (by
 cases ha:a.getD k (dflt (.nm .reply)); cases hc:b.getD k (dflt (.nm .reply)); rw [ha,hc] at e e2; cases e; cases e2; rfl)
theorem Ag {a b:List Reply} {k:Nat} (e:¬ (a.getD k (dflt (.nm .reply))).code=(b.getD k (dflt (.nm .reply))).code\/¬ (a.getD k (dflt (.nm .reply))).n=(b.getD k (dflt (.nm .reply))).n):false=decide (a=b):=by
 symm; apply decide_eq_false; rintro rfl; simp at e
def bY:List Command:=[Command.mk 1 1 0 0 0 0 [] (Str.mk []),Command.mk 2 1 1 2 0 0 [] (Str.mk []),Command.mk 2 1 1 2 0 0 [] (Str.mk [])]
theorem Am {l:List Command} {x:Command} {k:Nat} (hx:l[k]? = some x):(l.take k).map g_++[g_ x]=(l.take (k+1)).map g_:=by
 rw [aD hx,List.map_append]; rfl
theorem F_ {l:List Command} {k:Nat} (h:k<=40) (h2:(l.length:Int)<=k\/40<=(k:Int)):(l.take k).map g_=oQ l:=by
 unfold oQ
 by_cases e:k=40
 ·rw [e]
 ·rw [List.take_of_length_le (by omega),List.take_of_length_le (by omega)]
end Go.Proofs.YtdggohppeeaipaaGreat
namespace Go.Proofs.YtdggohppeeaipaaGreat
open Go.RowKit
def uj (st:State):List (Nat × LI):=[(7,{ σ:=Nat,F:=fun k=>([(1,one (.ptr 0 0)),(2,one (.ptr 1 0)),(3,one (.own 2)),(4,one (.int k))],[.box 26 ([.int ((st.version)),.int ((st.next)),.int ((st.keep)),.int ((st.quota)),.fz (.nm .sess) ((st.sess.take 20)),.fz (.nm .opn) ((st.opens.take 20)),.fz (.nm .snap) ((st.snaps))]),.box 26 ([.int ((0)),.int ((0)),.int ((0)),.int ((0)),.em true,.em true,.em true]),.row 59 (.nm .snap) (((ck st).snaps.take k))]),J:=fun k=>k<=(ck st).snaps.length,μ:=fun k=>st.snaps.length - k })]
def DK (st:State) (l:List Command):List (Nat × LI):=[(4,{ σ:=Nat,F:=fun k=>([(2,one (.ptr 0 0)),(4,one (.ptr 1 0)),(6,one (.own 5)),(12,one (.fz (.nm .command) (l))),(13,one (.int (l).length)),(14,one (.int k))],[.box 26 ([.int ((((cO st (l.take k))).version)),.int ((((cO st (l.take k))).next)),.int ((((cO st (l.take k))).keep)),.int ((((cO st (l.take k))).quota)),.own 2,.own 3,.own 4]),.box 26 ([.int ((0)),.int ((0)),.int ((0)),.int ((0)),.em true,.em true,.em true]),.row 44 (.nm .sess) (((cO st (l.take k)).sess)),.row 77 (.nm .opn) (((cO st (l.take k)).opens)),.row 59 (.nm .snap) (((cO st (l.take k)).snaps)),.row 35 (.nm .reply) ((dB st (l.take k)))]),J:=fun k=>k<=l.length,μ:=fun k=>l.length - k })]
def uC (a:List Reply) (b:List Reply):List (Nat × LI):=[(4,{ σ:=Nat,F:=fun k=>([(0,one (.fz (.nm .reply) (a))),(1,one (.fz (.nm .reply) (b))),(5,one (.int k))],[]),J:=fun k=>k<=a.length/\a.length=b.length/\a.take k=b.take k,μ:=fun k=>a.length - k })]
theorem Bs (c:Command) (r0:Command):cP aF mJ [] Tryz.f79 [.agg (cellsOf (.nm .command) c)] [] [.agg (cellsOf (.nm .command) r0)]=((fun (q10:Prop)=>(fun (q9:Prop)=>(fun (q8:Prop)=>(fun (q7:Prop)=>(fun (q6:Nat)=>(fun (q5:Prop)=>(fun (q4:Prop)=>(fun (q3:Int)=>(fun (q2:Prop)=>(fun (q1:Prop)=>(fun (q0:Int)=>I64 c.kind->I64 c.client->I64 c.seq->I64 c.set->I64 c.id->I64 c.n->q6*(8:Nat)<=(140737488355328:Nat)->c.text.b.length<=(140737488355328:Nat)->((12:Int)<(↑q6:Int)->(0:Int)<=(12:Int)/\(12:Int)<=(↑q6:Int)/\(q3<q0->(0:Int)<=q3/\q3<=q0/\q2/\q1/\q4/\q5/\q7/\q10/\q9/\q8)/\(q0<=q3->q2/\q1/\q4/\q5/\q7/\q10/\q9/\c.text=r0.text))/\((↑q6:Int)<=(12:Int)->(q3<q0->(0:Int)<=q3/\q3<=q0/\q2/\q1/\q4/\q5/\q7/\q10/\c.chunks=r0.chunks/\q8)/\(q0<=q3->q2/\q1/\q4/\q5/\q7/\q10/\c.chunks=r0.chunks/\c.text=r0.text))) (↑c.text.b.length:Int)) (c.client=r0.client)) (c.kind=r0.kind)) (40:Int)) (c.seq=r0.seq)) (c.set=r0.set)) c.chunks.length) (c.id=r0.id)) (Str.mk (List.take (40:Nat) c.text.b)=r0.text)) (List.take (12:Nat) c.chunks=r0.chunks)) (c.n=r0.n)):=by kernel_rfl
theorem Bn (c:Command):Sat Tryz.prog (au aF) 79 [.agg (cellsOf (.nm .command) c)] [] ⟨[],[.agg (cellsOf (.nm .command) (g_ c))],none,false⟩:=by
 refine aQ fa [] Tryz.func79 (by decide) (by kernel_rfl) ?_
 rw [Bs]
 simp only [g_,Str.cut]; (repeat' (first | refine And.intro ?_ ?_ | intro)) <;> first | trivial | rfl | omega | (symm; exact List.take_of_length_le (by omega)) | exact lR (by omega)
theorem yy (st:State) (r0:State):cP aF mJ (uj st) Tryz.f26 [.agg (cellsOf (.nm .state) st)] [] [.agg (cellsOf (.nm .state) r0)]=((fun (q23:Nat)=>(fun (q22:Prop)=>(fun (q21:Prop)=>(fun (q20:Prop)=>(fun (q19:Prop)=>(fun (q18:Int)=>(fun (q17:Nat)=>(fun (q16:Nat)=>(fun (q15:Int)=>(fun (q14:Nat)=>(fun (q13:Int)=>(fun (q12:Int)=>(fun (q11:Nat)=>(fun (q10:Int)=>(fun (q9:Int)=>(fun (q8:Prop)=>(fun (q7:Prop)=>(fun (q6:Prop)=>(fun (q5:Prop)=>(fun (q4:List Snap)=>(fun (q3:List (den (Sh.nm NT.sess)))=>(fun (q2:List (den (Sh.nm NT.opn)))=>(fun (q1:List Snap)=>(fun (q0:Prop)=>I64 st.version->I64 st.next->I64 st.keep->I64 st.quota->q23*(32:Nat)<=q11->st.opens.length*(16:Nat)<=q11->q4.length*q14<=q11->(q13<(↑q23:Int)->q12<=q13/\q13<=(↑q23:Int)/\(q13<q18->q12<=q13/\q13<=q18/\∃ (s0:Nat),(fun (q25:Nat)=>(fun (q24:Nat)=>(q12=(↑s0:Int)/\q5/\q8/\q7/\q6/\q3=q3/\q2=q2/\q4=q4/\q0/\q0/\q0/\q0/\List.take s0 q1=[])/\s0<=q25/\∀ (s:Nat),(fun (q27:List (den (Sh.nm NT.snap)))=>(fun (q26:Int)=>s<=q25->((↑s:Int)<(↑q4.length:Int)/\(↑s:Int)<q13->q12<=(↑s:Int)/\(↑s:Int)<(↑q4.length:Int)/\∀ (x:Snap),(fun (q32:Nat)=>(fun (q31:Snap)=>(fun (q30:Snap)=>(fun (q29:Snap)=>(fun (q28:Int)=>q4[s]? = some x->I64 x.id->I64 x.set->q32*(8:Nat)<=q11->x.tag.b.length<=q11->(q15<(↑q32:Int)->q12<=q15/\q15<=(↑q32:Int)/\(q10<q28->q12<=q10/\q10<=q28/\(q27.length+[q29].length)*q14<=q11/\I64 q26/\∃ (s':Nat),(q26=(↑s':Int)/\q5/\q8/\q7/\q6/\q3=q3/\q2=q2/\q4=q4/\q0/\q0/\q0/\q0/\q27++[q29]=List.take s' q1)/\s' <= q25/\q24 - s' < q24 - s)/\(q28<=q10->(q27.length+[q31].length)*q14<=q11/\I64 q26/\∃ (s':Nat),(q26=(↑s':Int)/\q5/\q8/\q7/\q6/\q3=q3/\q2=q2/\q4=q4/\q0/\q0/\q0/\q0/\q27++[q31]=List.take s' q1)/\s' <= q25/\q24 - s' < q24 - s))/\((↑q32:Int)<=q15->(q10<q28->q12<=q10/\q10<=q28/\(q27.length+[q30].length)*q14<=q11/\I64 q26/\∃ (s':Nat),(q26=(↑s':Int)/\q5/\q8/\q7/\q6/\q3=q3/\q2=q2/\q4=q4/\q0/\q0/\q0/\q0/\q27++[q30]=List.take s' q1)/\s' <= q25/\q24 - s' < q24 - s)/\(q28<=q10->(q27.length+[x].length)*q14<=q11/\I64 q26/\∃ (s':Nat),(q26=(↑s':Int)/\q5/\q8/\q7/\q6/\q3=q3/\q2=q2/\q4=q4/\q0/\q0/\q0/\q0/\q27++[x]=List.take s' q1)/\s' <= q25/\q24 - s' < q24 - s))) (↑x.tag.b.length:Int)) (Snap.mk x.id x.set (List.take q16 x.chunks) x.held (Str.mk (List.take q17 x.tag.b)))) (Snap.mk x.id x.set x.chunks x.held (Str.mk (List.take q17 x.tag.b)))) (Snap.mk x.id x.set (List.take q16 x.chunks) x.held x.tag)) x.chunks.length)/\((↑q4.length:Int)<=(↑s:Int)\/q13<=(↑s:Int)->q19/\q22/\q21/\q20/\q3=r0.sess/\q2=r0.opens/\q27=r0.snaps)) ((↑s:Int)+q9)) (List.take s q1)) q4.length) q1.length)/\(q18<=q13->∃ (s0:Nat),(fun (q34:Nat)=>(fun (q33:Nat)=>(q12=(↑s0:Int)/\q5/\q8/\q7/\q6/\q3=q3/\st.opens=q2/\q4=q4/\q0/\q0/\q0/\q0/\List.take s0 q1=[])/\s0<=q34/\∀ (s:Nat),(fun (q36:List (den (Sh.nm NT.snap)))=>(fun (q35:Int)=>s<=q34->((↑s:Int)<(↑q4.length:Int)/\(↑s:Int)<q13->q12<=(↑s:Int)/\(↑s:Int)<(↑q4.length:Int)/\∀ (x:Snap),(fun (q41:Nat)=>(fun (q40:Snap)=>(fun (q39:Snap)=>(fun (q38:Snap)=>(fun (q37:Int)=>q4[s]? = some x->I64 x.id->I64 x.set->q41*(8:Nat)<=q11->x.tag.b.length<=q11->(q15<(↑q41:Int)->q12<=q15/\q15<=(↑q41:Int)/\(q10<q37->q12<=q10/\q10<=q37/\(q36.length+[q38].length)*q14<=q11/\I64 q35/\∃ (s':Nat),(q35=(↑s':Int)/\q5/\q8/\q7/\q6/\q3=q3/\q2=q2/\q4=q4/\q0/\q0/\q0/\q0/\q36++[q38]=List.take s' q1)/\s' <= q34/\q33 - s' < q33 - s)/\(q37<=q10->(q36.length+[q40].length)*q14<=q11/\I64 q35/\∃ (s':Nat),(q35=(↑s':Int)/\q5/\q8/\q7/\q6/\q3=q3/\q2=q2/\q4=q4/\q0/\q0/\q0/\q0/\q36++[q40]=List.take s' q1)/\s' <= q34/\q33 - s' < q33 - s))/\((↑q41:Int)<=q15->(q10<q37->q12<=q10/\q10<=q37/\(q36.length+[q39].length)*q14<=q11/\I64 q35/\∃ (s':Nat),(q35=(↑s':Int)/\q5/\q8/\q7/\q6/\q3=q3/\q2=q2/\q4=q4/\q0/\q0/\q0/\q0/\q36++[q39]=List.take s' q1)/\s' <= q34/\q33 - s' < q33 - s)/\(q37<=q10->(q36.length+[x].length)*q14<=q11/\I64 q35/\∃ (s':Nat),(q35=(↑s':Int)/\q5/\q8/\q7/\q6/\q3=q3/\q2=q2/\q4=q4/\q0/\q0/\q0/\q0/\q36++[x]=List.take s' q1)/\s' <= q34/\q33 - s' < q33 - s))) (↑x.tag.b.length:Int)) (Snap.mk x.id x.set (List.take q16 x.chunks) x.held (Str.mk (List.take q17 x.tag.b)))) (Snap.mk x.id x.set x.chunks x.held (Str.mk (List.take q17 x.tag.b)))) (Snap.mk x.id x.set (List.take q16 x.chunks) x.held x.tag)) x.chunks.length)/\((↑q4.length:Int)<=(↑s:Int)\/q13<=(↑s:Int)->q19/\q22/\q21/\q20/\q3=r0.sess/\q2=r0.opens/\q36=r0.snaps)) ((↑s:Int)+q9)) (List.take s q1)) q4.length) q1.length))/\((↑q23:Int)<=q13->(q13<q18->q12<=q13/\q13<=q18/\∃ (s0:Nat),(fun (q43:Nat)=>(fun (q42:Nat)=>(q12=(↑s0:Int)/\q5/\q8/\q7/\q6/\st.sess=q3/\q2=q2/\q4=q4/\q0/\q0/\q0/\q0/\List.take s0 q1=[])/\s0<=q43/\∀ (s:Nat),(fun (q45:List (den (Sh.nm NT.snap)))=>(fun (q44:Int)=>s<=q43->((↑s:Int)<(↑q4.length:Int)/\(↑s:Int)<q13->q12<=(↑s:Int)/\(↑s:Int)<(↑q4.length:Int)/\∀ (x:Snap),(fun (q50:Nat)=>(fun (q49:Snap)=>(fun (q48:Snap)=>(fun (q47:Snap)=>(fun (q46:Int)=>q4[s]? = some x->I64 x.id->I64 x.set->q50*(8:Nat)<=q11->x.tag.b.length<=q11->(q15<(↑q50:Int)->q12<=q15/\q15<=(↑q50:Int)/\(q10<q46->q12<=q10/\q10<=q46/\(q45.length+[q47].length)*q14<=q11/\I64 q44/\∃ (s':Nat),(q44=(↑s':Int)/\q5/\q8/\q7/\q6/\q3=q3/\q2=q2/\q4=q4/\q0/\q0/\q0/\q0/\q45++[q47]=List.take s' q1)/\s' <= q43/\q42 - s' < q42 - s)/\(q46<=q10->(q45.length+[q49].length)*q14<=q11/\I64 q44/\∃ (s':Nat),(q44=(↑s':Int)/\q5/\q8/\q7/\q6/\q3=q3/\q2=q2/\q4=q4/\q0/\q0/\q0/\q0/\q45++[q49]=List.take s' q1)/\s' <= q43/\q42 - s' < q42 - s))/\((↑q50:Int)<=q15->(q10<q46->q12<=q10/\q10<=q46/\(q45.length+[q48].length)*q14<=q11/\I64 q44/\∃ (s':Nat),(q44=(↑s':Int)/\q5/\q8/\q7/\q6/\q3=q3/\q2=q2/\q4=q4/\q0/\q0/\q0/\q0/\q45++[q48]=List.take s' q1)/\s' <= q43/\q42 - s' < q42 - s)/\(q46<=q10->(q45.length+[x].length)*q14<=q11/\I64 q44/\∃ (s':Nat),(q44=(↑s':Int)/\q5/\q8/\q7/\q6/\q3=q3/\q2=q2/\q4=q4/\q0/\q0/\q0/\q0/\q45++[x]=List.take s' q1)/\s' <= q43/\q42 - s' < q42 - s))) (↑x.tag.b.length:Int)) (Snap.mk x.id x.set (List.take q16 x.chunks) x.held (Str.mk (List.take q17 x.tag.b)))) (Snap.mk x.id x.set x.chunks x.held (Str.mk (List.take q17 x.tag.b)))) (Snap.mk x.id x.set (List.take q16 x.chunks) x.held x.tag)) x.chunks.length)/\((↑q4.length:Int)<=(↑s:Int)\/q13<=(↑s:Int)->q19/\q22/\q21/\q20/\q3=r0.sess/\q2=r0.opens/\q45=r0.snaps)) ((↑s:Int)+q9)) (List.take s q1)) q4.length) q1.length)/\(q18<=q13->∃ (s0:Nat),(fun (q52:Nat)=>(fun (q51:Nat)=>(q12=(↑s0:Int)/\q5/\q8/\q7/\q6/\st.sess=q3/\st.opens=q2/\q4=q4/\q0/\q0/\q0/\q0/\List.take s0 q1=[])/\s0<=q52/\∀ (s:Nat),(fun (q54:List (den (Sh.nm NT.snap)))=>(fun (q53:Int)=>s<=q52->((↑s:Int)<(↑q4.length:Int)/\(↑s:Int)<q13->q12<=(↑s:Int)/\(↑s:Int)<(↑q4.length:Int)/\∀ (x:Snap),(fun (q59:Nat)=>(fun (q58:Snap)=>(fun (q57:Snap)=>(fun (q56:Snap)=>(fun (q55:Int)=>q4[s]? = some x->I64 x.id->I64 x.set->q59*(8:Nat)<=q11->x.tag.b.length<=q11->(q15<(↑q59:Int)->q12<=q15/\q15<=(↑q59:Int)/\(q10<q55->q12<=q10/\q10<=q55/\(q54.length+[q56].length)*q14<=q11/\I64 q53/\∃ (s':Nat),(q53=(↑s':Int)/\q5/\q8/\q7/\q6/\q3=q3/\q2=q2/\q4=q4/\q0/\q0/\q0/\q0/\q54++[q56]=List.take s' q1)/\s' <= q52/\q51 - s' < q51 - s)/\(q55<=q10->(q54.length+[q58].length)*q14<=q11/\I64 q53/\∃ (s':Nat),(q53=(↑s':Int)/\q5/\q8/\q7/\q6/\q3=q3/\q2=q2/\q4=q4/\q0/\q0/\q0/\q0/\q54++[q58]=List.take s' q1)/\s' <= q52/\q51 - s' < q51 - s))/\((↑q59:Int)<=q15->(q10<q55->q12<=q10/\q10<=q55/\(q54.length+[q57].length)*q14<=q11/\I64 q53/\∃ (s':Nat),(q53=(↑s':Int)/\q5/\q8/\q7/\q6/\q3=q3/\q2=q2/\q4=q4/\q0/\q0/\q0/\q0/\q54++[q57]=List.take s' q1)/\s' <= q52/\q51 - s' < q51 - s)/\(q55<=q10->(q54.length+[x].length)*q14<=q11/\I64 q53/\∃ (s':Nat),(q53=(↑s':Int)/\q5/\q8/\q7/\q6/\q3=q3/\q2=q2/\q4=q4/\q0/\q0/\q0/\q0/\q54++[x]=List.take s' q1)/\s' <= q52/\q51 - s' < q51 - s))) (↑x.tag.b.length:Int)) (Snap.mk x.id x.set (List.take q16 x.chunks) x.held (Str.mk (List.take q17 x.tag.b)))) (Snap.mk x.id x.set x.chunks x.held (Str.mk (List.take q17 x.tag.b)))) (Snap.mk x.id x.set (List.take q16 x.chunks) x.held x.tag)) x.chunks.length)/\((↑q4.length:Int)<=(↑s:Int)\/q13<=(↑s:Int)->q19/\q22/\q21/\q20/\q3=r0.sess/\q2=r0.opens/\q54=r0.snaps)) ((↑s:Int)+q9)) (List.take s q1)) q4.length) q1.length))) (q12=q12)) (ck st).snaps) (List.take (20:Nat) st.opens)) (List.take (20:Nat) st.sess)) st.snaps) (st.version=st.version)) (st.quota=st.quota)) (st.keep=st.keep)) (st.next=st.next)) (1:Int)) (40:Int)) (140737488355328:Nat)) (0:Int)) (20:Int)) (64:Nat)) (12:Int)) (12:Nat)) (40:Nat)) (↑st.opens.length:Int)) (st.version=r0.version)) (st.quota=r0.quota)) (st.keep=r0.keep)) (st.next=r0.next)) st.sess.length):=by kernel_rfl
theorem xJ (st:State):Sat Tryz.prog (au aF) 26 [.agg (cellsOf (.nm .state) st)] [] ⟨[],[.agg (cellsOf (.nm .state) (ck st))],none,false⟩:=by
 refine aQ fa (uj st) Tryz.func26 (by decide) (by kernel_rfl) ?_
 rw [yy]
 (repeat' (first | with_reducible refine And.intro ?_ ?_ | with_reducible refine and_imp.2 ?_ | intro))
 all_goals try (first | (first | with_reducible rfl | with_reducible assumption | omega | (refine al ?_ ?_ <;> omega)) | exact rfl | exact (List.take_of_length_le (by omega)).symm | exact (EF (by with_reducible assumption) (by omega) (by omega) (by omega)) | exact (Gp (by with_reducible assumption) (by omega) (by omega) (by omega)) | exact (Ge (by with_reducible assumption) (by omega) (by omega) (by omega)) | exact (FU (by with_reducible assumption) (by omega) (by omega) (by omega)) | exact (te (by omega)) | exact (AR (by omega) (by omega)) | exact (List.take_of_length_le (zj (by omega))))
 all_goals try (refine ⟨0,?_⟩; (repeat' (first | with_reducible refine And.intro ?_ ?_ | with_reducible refine and_imp.2 ?_ | intro)))
 all_goals try (first | (first | with_reducible rfl | with_reducible assumption | omega | (refine al ?_ ?_ <;> omega)) | exact rfl | exact (List.take_of_length_le (by omega)).symm | exact (EF (by with_reducible assumption) (by omega) (by omega) (by omega)) | exact (Gp (by with_reducible assumption) (by omega) (by omega) (by omega)) | exact (Ge (by with_reducible assumption) (by omega) (by omega) (by omega)) | exact (FU (by with_reducible assumption) (by omega) (by omega) (by omega)) | exact (te (by omega)) | exact (AR (by omega) (by omega)) | exact (List.take_of_length_le (zj (by omega))))
 all_goals try (refine ⟨‹Nat› + 1,?_⟩; (repeat' (first | with_reducible refine And.intro ?_ ?_ | with_reducible refine and_imp.2 ?_ | intro)))
 all_goals (first | (first | with_reducible rfl | with_reducible assumption | omega | (refine al ?_ ?_ <;> omega)) | exact rfl | exact (List.take_of_length_le (by omega)).symm | exact (EF (by with_reducible assumption) (by omega) (by omega) (by omega)) | exact (Gp (by with_reducible assumption) (by omega) (by omega) (by omega)) | exact (Ge (by with_reducible assumption) (by omega) (by omega) (by omega)) | exact (FU (by with_reducible assumption) (by omega) (by omega) (by omega)) | exact (te (by omega)) | exact (AR (by omega) (by omega)) | exact (List.take_of_length_le (zj (by omega))))
theorem CN  (r0:List Command):cP aF mJ [] Tryz.f78 [] [] [.c (.fz (.nm .command) (r0))]=((fun (q1:Int)=>(fun (q0:Command)=>[Command.mk (1:Int) (1:Int) q1 q1 q1 q1 [] (Str.mk []),q0,q0]=r0) (Command.mk (2:Int) (1:Int) (1:Int) (2:Int) q1 q1 [] (Str.mk []))) (0:Int)):=by kernel_rfl
theorem Cr :Sat Tryz.prog (au aF) 78 [] [] ⟨[],[.c (.fz (.nm .command) ((bY)))],none,false⟩:=by
 refine aQ fa [] Tryz.func78 (by decide) (by kernel_rfl) ?_
 rw [CN]
 (repeat' (first | with_reducible refine And.intro ?_ ?_ | with_reducible refine and_imp.2 ?_ | intro))
 all_goals (first | (first | with_reducible rfl | with_reducible assumption | omega | (refine al ?_ ?_ <;> omega)) | rfl)
theorem Gm (st:State) (l:List Command) (r0:Int) (r1:Int) (r2:Int) (r3:Int) (r4:List Sess) (r5:List Opn) (r6:List Snap) (r7:List Reply):sa aF mJ (DK st l) Tryz.f28 [.agg (cellsOf (.nm .state) st),.c (.fz (.nm .command) (l))] [] [.agg ([.int (r0),.int (r1),.int (r2),.int (r3),.own 0,.own 1,.own 2]),.c (.own 3)] [.row 44 (.nm .sess) (r4),.row 77 (.nm .opn) (r5),.row 59 (.nm .snap) (r6),.row 35 (.nm .reply) (r7)]=((fun (q2:Nat)=>(fun (q1:Nat)=>(fun (q0:Prop)=>I64 st.version->I64 st.next->I64 st.keep->I64 st.quota->st.sess.length*(32:Nat)<=q2->st.opens.length*(16:Nat)<=q2->st.snaps.length*(64:Nat)<=q2->l.length*(88:Nat)<=q2->I64 st.version->I64 st.next->I64 st.keep->I64 st.quota->∃ (s0:Nat),(fun (q3:State)=>(l=l/\(↑l.length:Int)=(↑q1:Int)/\(0:Int)=(↑s0:Int)/\st.version=q3.version/\st.next=q3.next/\st.keep=q3.keep/\st.quota=q3.quota/\q0/\q0/\q0/\q0/\st.sess=q3.sess/\st.opens=q3.opens/\st.snaps=q3.snaps/\dB st (List.take s0 l)=[])/\s0<=q1/\∀ (s:Nat),(fun (q4:State)=>s<=q1->((↑s:Int)<(↑q1:Int)->(0:Int)<=(↑s:Int)/\(↑s:Int)<(↑l.length:Int)/\∀ (x:Command),(fun (q6:Reply)=>(fun (q5:State)=>l[s]? = some x->I64 x.kind->I64 x.client->I64 x.seq->I64 x.set->I64 x.id->I64 x.n->x.chunks.length*(8:Nat)<=q2->x.text.b.length<=q2->I64 q5.version->I64 q5.next->I64 q5.keep->I64 q5.quota->I64 q6.code->I64 q6.n->((dB st (List.take s l)).length+[q6].length)*(16:Nat)<=q2/\I64 ((↑s:Int)+(1:Int))/\∃ (s':Nat),(fun (q7:State)=>(l=l/\(↑q1:Int)=(↑q1:Int)/\(↑s:Int)+(1:Int)=(↑s':Int)/\q5.version=q7.version/\q5.next=q7.next/\q5.keep=q7.keep/\q5.quota=q7.quota/\q0/\q0/\q0/\q0/\q5.sess=q7.sess/\q5.opens=q7.opens/\q5.snaps=q7.snaps/\dB st (List.take s l)++[q6]=dB st (List.take s' l))/\s' <= q1/\q1 - s' < q1 - s) (cO st (List.take s' l))) (dA q4 x).fst) (dA q4 x).snd)/\((↑q1:Int)<=(↑s:Int)->q4.version=r0/\q4.next=r1/\q4.keep=r2/\q4.quota=r3/\q4.sess=r4/\q4.opens=r5/\q4.snaps=r6/\dB st (List.take s l)=r7)) (cO st (List.take s l))) (cO st (List.take s0 l))) ((0:Int)=(0:Int))) l.length) (140737488355328:Nat)):=by kernel_rfl
theorem Gi (st:State) (l:List Command):Sat Tryz.prog (au aF) 28 [.agg (cellsOf (.nm .state) st),.c (.fz (.nm .command) (l))] [] ⟨[],[.agg ([.int (((cO st l).version)),.int (((cO st l).next)),.int (((cO st l).keep)),.int (((cO st l).quota)),.own 0,.own 1,.own 2]),.c (.own 3)],some ([.row 44 (.nm .sess) (((cO st l).sess)),.row 77 (.nm .opn) (((cO st l).opens)),.row 59 (.nm .snap) (((cO st l).snaps)),.row 35 (.nm .reply) ((dB st l))]),true⟩:=by
 refine eg fa (DK st l) Tryz.func28 (by decide) (by kernel_rfl) ?_
 rw [Gm]
 (repeat' (first | with_reducible refine And.intro ?_ ?_ | with_reducible refine and_imp.2 ?_ | intro))
 all_goals try (first | (first | with_reducible rfl | with_reducible assumption | omega | (refine al ?_ ?_ <;> omega)) | exact rfl | exact (congrArg State.version (cg (by with_reducible assumption))) | exact (congrArg State.next (cg (by with_reducible assumption))) | exact (congrArg State.keep (cg (by with_reducible assumption))) | exact (congrArg State.quota (cg (by with_reducible assumption))) | exact (congrArg State.sess (cg (by with_reducible assumption))) | exact (congrArg State.opens (cg (by with_reducible assumption))) | exact (congrArg State.snaps (cg (by with_reducible assumption))) | exact (sP (by with_reducible assumption)) | exact (tn (by with_reducible assumption) (by with_reducible assumption)) | (rw [FJ (by omega)]; done))
 all_goals try (refine ⟨0,?_⟩; (repeat' (first | with_reducible refine And.intro ?_ ?_ | with_reducible refine and_imp.2 ?_ | intro)))
 all_goals try (first | (first | with_reducible rfl | with_reducible assumption | omega | (refine al ?_ ?_ <;> omega)) | exact rfl | exact (congrArg State.version (cg (by with_reducible assumption))) | exact (congrArg State.next (cg (by with_reducible assumption))) | exact (congrArg State.keep (cg (by with_reducible assumption))) | exact (congrArg State.quota (cg (by with_reducible assumption))) | exact (congrArg State.sess (cg (by with_reducible assumption))) | exact (congrArg State.opens (cg (by with_reducible assumption))) | exact (congrArg State.snaps (cg (by with_reducible assumption))) | exact (sP (by with_reducible assumption)) | exact (tn (by with_reducible assumption) (by with_reducible assumption)) | (rw [FJ (by omega)]; done))
 all_goals try (refine ⟨‹Nat› + 1,?_⟩; (repeat' (first | with_reducible refine And.intro ?_ ?_ | with_reducible refine and_imp.2 ?_ | intro)))
 all_goals (first | (first | with_reducible rfl | with_reducible assumption | omega | (refine al ?_ ?_ <;> omega)) | exact rfl | exact (congrArg State.version (cg (by with_reducible assumption))) | exact (congrArg State.next (cg (by with_reducible assumption))) | exact (congrArg State.keep (cg (by with_reducible assumption))) | exact (congrArg State.quota (cg (by with_reducible assumption))) | exact (congrArg State.sess (cg (by with_reducible assumption))) | exact (congrArg State.opens (cg (by with_reducible assumption))) | exact (congrArg State.snaps (cg (by with_reducible assumption))) | exact (sP (by with_reducible assumption)) | exact (tn (by with_reducible assumption) (by with_reducible assumption)) | (rw [FJ (by omega)]; done))
theorem zJ (a:List Reply) (b:List Reply) (r0:Bool):cP aF mJ (uC a b) Tryz.f30 [.c (.fz (.nm .reply) (a)),.c (.fz (.nm .reply) (b))] [] [.c (.bool (.atom (r0)))]=((fun (q2:Nat)=>(fun (q1:Int)=>(fun (q0:den (Sh.nm NT.reply))=>a.length*(16:Nat)<=(140737488355328:Nat)->b.length*(16:Nat)<=(140737488355328:Nat)->(¬q1=(↑b.length:Int)->false=r0)/\(q1=(↑b.length:Int)->∃ (s0:Nat),(a=a/\b=b/\(0:Int)=(↑s0:Int))/\(s0<=q2/\q2=b.length/\List.take s0 a=List.take s0 b)/\∀ (s:Nat),(fun (q4:den (Sh.nm NT.reply))=>(fun (q3:den (Sh.nm NT.reply))=>s<=q2/\q2=b.length/\List.take s a=List.take s b->((↑s:Int)<q1->(0:Int)<=(↑s:Int)/\(↑s:Int)<q1/\(0:Int)<=(↑s:Int)/\(↑s:Int)<(↑b.length:Int)/\(I64 q3.code->I64 q3.n->I64 q4.code->I64 q4.n->(¬q3.code=q4.code\/¬q3.n=q4.n->false=r0)/\(q3.code=q4.code/\q3.n=q4.n->I64 ((↑s:Int)+(1:Int))/\∃ (s':Nat),(a=a/\b=b/\(↑s:Int)+(1:Int)=(↑s':Int))/\(s' <= q2/\q2=b.length/\List.take s' a=List.take s' b)/\q2 - s' < q2 - s)))/\(q1<=(↑s:Int)->true=r0)) (a.getD s q0)) (b.getD s q0))) (dflt (Sh.nm NT.reply))) (↑a.length:Int)) a.length):=by kernel_rfl
theorem AX (a:List Reply) (b:List Reply):Sat Tryz.prog (au aF) 30 [.c (.fz (.nm .reply) (a)),.c (.fz (.nm .reply) (b))] [] ⟨[],[.c (.bool (.atom ((decide (a=b)))))],none,false⟩:=by
 refine aQ fa (uC a b) Tryz.func30 (by decide) (by kernel_rfl) ?_
 rw [zJ]
 (repeat' (first | with_reducible refine And.intro ?_ ?_ | with_reducible refine and_imp.2 ?_ | intro))
 all_goals try (first | (first | with_reducible rfl | with_reducible assumption | omega | (refine al ?_ ?_ <;> omega)) | exact rfl | exact (jV (by with_reducible assumption)) | exact (yk (by with_reducible assumption) (by with_reducible assumption) (by with_reducible assumption) (by omega) (by omega)) | exact (Ag (by assumption)) | exact (eU (by omega) (by with_reducible assumption) (by omega)))
 all_goals try (refine ⟨0,?_⟩; (repeat' (first | with_reducible refine And.intro ?_ ?_ | with_reducible refine and_imp.2 ?_ | intro)))
 all_goals try (first | (first | with_reducible rfl | with_reducible assumption | omega | (refine al ?_ ?_ <;> omega)) | exact rfl | exact (jV (by with_reducible assumption)) | exact (yk (by with_reducible assumption) (by with_reducible assumption) (by with_reducible assumption) (by omega) (by omega)) | exact (Ag (by assumption)) | exact (eU (by omega) (by with_reducible assumption) (by omega)))
 all_goals try (refine ⟨‹Nat› + 1,?_⟩; (repeat' (first | with_reducible refine And.intro ?_ ?_ | with_reducible refine and_imp.2 ?_ | intro)))
 all_goals (first | (first | with_reducible rfl | with_reducible assumption | omega | (refine al ?_ ?_ <;> omega)) | exact rfl | exact (jV (by with_reducible assumption)) | exact (yk (by with_reducible assumption) (by with_reducible assumption) (by with_reducible assumption) (by omega) (by omega)) | exact (Ag (by assumption)) | exact (eU (by omega) (by with_reducible assumption) (by omega)))
def uz:cw:=(bS 30 (bL (ai (kC (cL (.nm .reply))) (ai (kC (cL (.nm .reply))) aO)) aN fun (a,b,_) (_)=>⟨[],[.c (.bool (.atom ((decide (a=b)))))],none,false⟩) (bS 28 (bL (ai (kT (.nm .state)) (ai (kC (cL (.nm .command))) aO)) aN fun (st,l,_) (_)=>⟨[],[.agg ([.int (((cO st l).version)),.int (((cO st l).next)),.int (((cO st l).keep)),.int (((cO st l).quota)),.own 0,.own 1,.own 2]),.c (.own 3)],some ([.row 44 (.nm .sess) (((cO st l).sess)),.row 77 (.nm .opn) (((cO st l).opens)),.row 59 (.nm .snap) (((cO st l).snaps)),.row 35 (.nm .reply) ((dB st l))]),true⟩) (bS 78 (bL aO aN fun (_) (_)=>⟨[],[.c (.fz (.nm .command) ((bY)))],none,false⟩) (bS 26 (bL (ai (kT (.nm .state)) aO) aN fun (st,_) (_)=>⟨[],[.agg (cellsOf (.nm .state) (ck st))],none,false⟩) (bS 79 (bL (ai (kT (.nm .command)) aO) aN fun (c,_) (_)=>⟨[],[.agg (cellsOf (.nm .command) (g_ c))],none,false⟩) mJ)))))
theorem mM:aT Tryz.prog (au aF) uz:=(aA (az (ab (av bN) (ab (av bN) ao)) aq fun (a,b,_) (_) _=>AX a b ) (aA (az (ab bI (ab (av bN) ao)) aq fun (st,l,_) (_) _=>Gi st l ) (aA (az ao aq fun (_) (_) _=>Cr  ) (aA (az (ab bI ao) aq fun (st,_) (_) _=>xJ st ) (aA (az (ab bI ao) aq fun (c,_) (_) _=>Bn c ) fa)))))
end Go.Proofs.YtdggohppeeaipaaGreat
