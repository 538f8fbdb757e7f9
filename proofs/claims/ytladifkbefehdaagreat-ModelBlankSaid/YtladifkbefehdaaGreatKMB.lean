/- The law: for every input it returns true, and each argument reads behind the call as it read before; and what leads there. Conditions: each lemma's own. -/
import Derived.ProofKit
import Derived.SizedLaws
import Derived.Test.YtladifkbefehdaaGreatChecked
import Derived.Test.YtladifkbefehdaaGreatRows
import Derived.Test.YtladifkbefehdaaGreatKMBM5
set_option linter.unusedVariables false
set_option linter.unusedSimpArgs false
namespace Go.Proofs.YtladifkbefehdaaGreat
open Go.RowKit
theorem jT {m:Nat} (h:m<9223372036854775808):fN m=(m:Int):=by rw [fN,if_pos h]
theorem yB {b:List UInt8} {k:Nat}:(b.drop k).take (b.length - k)=b.drop k:=List.take_of_length_le (by rw [List.length_drop]; exact Nat.le_refl _)
theorem Te {b:List UInt8} {k:Nat} (hk:(k:Int)<(b.length:Int)) (he:(aA (b.drop k)).2.2=0) (hn:(((aA (b.drop k)).1:Nat):Int)<=((64:Nat):Int)):∃ x,b[k]? = some x/\aA (b.drop k)=(x.toNat,1,0)/\x.toNat<=64:=by
 have h:=SW (b:=b) (k:=k) (by omega) (by rw [yB]; exact he) (by rw [yB]; omega)
 rw [yB] at h; exact h
theorem Ji {b:List UInt8} {k:Nat} (hk:(k:Int)<(b.length:Int)) (he:(aA (b.drop k)).2.2=0) (hn:(((aA (b.drop k)).1:Nat):Int)<=((64:Nat):Int)):(k:Int)+((aA (b.drop k)).2.1:Nat)=((k+1:Nat):Int)/\b_ (b.take k)++[fN (aA (b.drop k)).1]=b_ (b.take (k+1)):=by
 obtain ⟨x,hx,hp,h64⟩:=Te hk he hn
 have h:=GN hx hp
 rw [hp] at h ⊢
 exact ⟨rfl,by rw [<- h,jT (by show x.toNat<_; omega)]⟩
theorem Iq {b:List UInt8} {k:Nat} (hk:(k:Int)<(b.length:Int)) (h:(¬ (aA (b.drop k)).2.2=0)\/((64:Nat):Int)<(((aA (b.drop k)).1:Nat):Int)):rowF (b_ b)=false:=MH (k:=k) (by omega) (by rw [yB]; exact h)
theorem vY {b:List UInt8} {k:Nat} (h:k<=b.length) (hb:b.length<=100000):((b_ (b.take k)).length+1)*8<=140737488355328:=by
 unfold b_; rw [List.length_map,List.length_take]; omega
def JN (b:List UInt8):List (Nat × LI):=[(3,{ σ:=Nat,F:=fun k=>([(0,one (.fz .u8 (b))),(4,one (.own 0)),(5,one (.int k))],[.row 3 .int ((b_ (b.take k)))]),J:=fun k=>k<=b.length,μ:=fun k=>b.length - k })]
theorem Lo (b:List UInt8) (r0:Int) (r1:Int) (r2:Int) (r3:Int):cF tyT zR [] Tryz.f124 [.c (.fz .u8 (b))] [] [.c (.int (r0)),.c (.int (r1)),.c (.int (r2)),.c (.int (r3))]=((fun (q5:Int)=>(fun (q4:Int)=>(fun (q3:Int)=>(fun (q2:Prop)=>(fun (q1:Nat)=>(fun (q0:Int)=>b.length*(1:Nat)<=(140737488355328:Nat)->(aA b).fst<(18446744073709551616:Nat)->I64 (↑(aA b).snd.fst:Int)->I64 q4->(¬q4=q3->q3=r0/\q3=r1/\q3=r2/\q4=r3)/\(q4=q3->q2/\(q5<=q0->q2)/\(q5<=q0/\q0<=(↑(1000:Nat):Int)->q2/\(¬(↑q1:Int)=(↑(0:Nat):Int)->q2))/\((q0<q5\/(↑(1000:Nat):Int)<q0)\/¬(↑q1:Int)=(↑(0:Nat):Int)/\¬(↑q1:Int)=(↑(2:Nat):Int)->q3=r0/\q3=r1/\q3=r2/\(6:Int)=r3)/\((q5<=q0/\q0<=(↑(1000:Nat):Int))/\((↑q1:Int)=(↑(0:Nat):Int)\/(↑q1:Int)=(↑(2:Nat):Int))->q2/\q2/\fN ((aA b).fst / (8:Nat))=r0/\fN q1=r1/\(↑(aA b).snd.fst:Int)=r2/\q3=r3))) (↑((aA b).fst / (8:Nat)):Int)) ((aA b).fst % (8:Nat))) ((0:Nat)<(8:Nat))) (0:Int)) (aA b).snd.snd) (↑(1:Nat):Int)):=by kernel_rfl
theorem KX (b:List UInt8):Sat Tryz.prog (aj tyT) 124 [.c (.fz .u8 (b))] [] ⟨[],[.c (.int (((aS b).num))),.c (.int (((aS b).wire))),.c (.int ((((aS b).k:Nat)))),.c (.int (((aS b).e)))],none,false⟩:=by
 refine aM kR [] Tryz.func124 (by decide) (by kernel_rfl) ?_
 rw [Lo]
 (repeat' (first | with_reducible refine And.intro ?_ ?_ | with_reducible refine and_imp.2 ?_ | intro))
 all_goals (first | (first | with_reducible rfl | with_reducible assumption | omega | (refine ah ?_ ?_ <;> omega)) | (rw [Ek (by with_reducible assumption)] <;> rfl) | (rw [Dg (by with_reducible assumption) (by omega)] <;> rfl) | (rw [EE (by with_reducible assumption) (by omega)] <;> first | rfl | exact jT (by omega)) | (have:=(mW (l:=b) (k:=0) (n:=0) (by omega)).1; change (aA b).2.1<=11 at this; omega))
theorem LS (f:Field) (r0:List UInt8):po tyT zR [] Tryz.f83 [.agg (cellsOf (.nm .field) f)] [] [.c (.own 0)] [.row 5 .u8 (r0)]=((fun (q1:Nat)=>(fun (q0:List UInt8)=>I64 f.num->I64 f.wire->f.n.n<(18446744073709551616:Nat)->q1*(1:Nat)<=(140737488355328:Nat)->I64 (vk f.num f.wire)->(f.wire=(0:Int)->(q0.length+(eZ f.n.n).length)*(1:Nat)<=(140737488355328:Nat)/\q0++eZ f.n.n=r0)/\(¬f.wire=(0:Int)->(0:Int)<=(↑q1:Int)/\(q0.length+(eZ q1).length)*(1:Nat)<=(140737488355328:Nat)/\((q0++eZ q1).length+q1)*(1:Nat)<=(140737488355328:Nat)/\q0++eZ q1++f.b=r0)) (lq f.num f.wire)) f.b.length):=by kernel_rfl
theorem Ni (f:Field) (h0:f.b.length<=16384):Sat Tryz.prog (aj tyT) 83 [.agg (cellsOf (.nm .field) f)] [] ⟨[f.b.length<=16384],[.c (.own 0)],some ([.row 5 .u8 ((bX f))]),true⟩:=by
 refine dQ kR [] Tryz.func83 (by decide) (by kernel_rfl) ?_
 rw [LS]
 (repeat' (first | with_reducible refine And.intro ?_ ?_ | with_reducible refine and_imp.2 ?_ | intro))
 all_goals (first | (first | with_reducible rfl | with_reducible assumption | omega | (refine ah ?_ ?_ <;> omega)) | exact (GV (by with_reducible assumption)) | exact (Hd (by with_reducible assumption)) | (have:=om f.num f.wire; have:=dH (n:=f.n.n) (by with_reducible assumption); omega) | (have:=om f.num f.wire; have:=dH (n:=f.b.length) (by omega); (try simp only [List.length_append]); omega))
theorem Nj (q:Int) (r0:List Spec):cF tyT zR [] Tryz.f117 [.c (.int (q))] [] [.c (.fz (.nm .spec) (r0))]=((fun (q7:Int)=>(fun (q6:Int)=>(fun (q5:Int)=>(fun (q4:Int)=>(fun (q3:Int)=>(fun (q2:Int)=>(fun (q1:Int)=>(fun (q0:Int)=>I64 q->I64 q0->I64 q1->I64 q0->I64 q0->I64 q1->I64 q0->I64 q2->I64 q1->I64 q0->I64 q3->I64 q1->I64 q0->I64 q4->I64 q1->I64 q0->I64 q5->I64 q1->I64 q0->I64 q6->I64 q1->I64 q0->I64 q7->I64 q2->I64 q0->I64 (8:Int)->I64 q2->I64 q3->I64 q0->I64 q1->I64 q0->I64 q0->I64 q1->I64 q0->I64 q2->I64 q1->I64 q0->I64 q2->I64 q1->I64 q0->I64 q3->I64 q2->I64 q0->I64 q3->I64 q2->I64 q0->I64 q4->I64 q1->I64 q2->I64 q5->I64 q2->I64 q3->I64 q0->I64 q1->I64 q0->I64 q0->I64 q1->I64 q0->I64 q2->I64 q1->I64 q0->I64 q2->I64 q1->I64 q0->I64 q0->I64 q1->I64 q0->I64 q0->I64 q1->I64 q0->I64 q2->I64 q1->I64 q0->I64 q3->I64 q1->I64 q0->I64 q4->I64 q1->I64 q0->I64 q0->I64 q1->I64 q0->I64 q0->I64 q1->I64 q0->I64 q2->I64 q1->I64 q0->I64 q2->I64 q1->I64 q0->I64 q3->I64 q1->I64 q0->I64 q4->I64 q2->I64 q0->I64 q4->I64 q2->I64 q0->I64 q5->I64 q2->I64 q0->I64 q5->I64 q2->I64 q0->I64 q6->I64 q2->I64 q0->I64 q6->I64 q2->I64 q0->I64 q7->I64 q1->I64 q3->I64 q0->I64 q1->I64 q0->I64 q0->I64 q1->I64 q0->I64 q2->I64 q1->I64 q0->I64 q2->I64 q1->I64 q0->I64 q3->I64 q1->I64 q0->I64 q3->I64 q1->I64 q0->I64 q4->I64 q1->I64 q0->I64 q4->I64 q1->I64 q0->I64 q5->I64 q1->I64 q0->I64 q6->I64 q1->I64 q0->I64 q7->I64 q1->I64 q0->I64 (8:Int)->I64 q1->I64 q0->I64 (9:Int)->I64 q1->I64 q0->I64 (10:Int)->I64 q2->I64 q0->I64 (10:Int)->I64 q2->I64 q0->I64 q0->I64 q1->I64 q0->I64 q0->I64 q1->I64 q0->I64 q2->I64 q2->I64 q0->((fun (j:Int)=>if j=q7 then some [Spec.mk q0 q1 q0 true false,Spec.mk q2 q2 q0 false false] else (fun (j:Int)=>if j=q6 then some [Spec.mk q0 q1 q0 true false,Spec.mk q2 q1 q0 true false,Spec.mk q3 q1 q0 true false,Spec.mk q4 q1 q0 true false,Spec.mk q5 q1 q0 false false,Spec.mk q6 q1 q0 false false,Spec.mk q7 q1 q0 false false,Spec.mk (8:Int) q1 q0 false false,Spec.mk (9:Int) q1 q0 false false,Spec.mk (10:Int) q2 q0 false true] else (fun (j:Int)=>if j=q5 then some [Spec.mk q0 q1 q0 true false,Spec.mk q2 q1 q0 true false,Spec.mk q3 q1 q0 false false,Spec.mk q4 q2 q0 false true,Spec.mk q5 q2 q0 false true,Spec.mk q6 q2 q0 false true,Spec.mk q7 q1 q3 false false] else (fun (j:Int)=>if j=q4 then some [Spec.mk q0 q1 q0 true false,Spec.mk q2 q1 q0 false false,Spec.mk q3 q1 q0 false false,Spec.mk q4 q1 q0 false false] else (fun (j:Int)=>if j=q3 then some [Spec.mk q0 q1 q0 true false,Spec.mk q2 q1 q0 true false] else (fun (j:Int)=>if j=q2 then some [Spec.mk q0 q1 q0 true false,Spec.mk q2 q1 q0 true false,Spec.mk q3 q2 q0 true false,Spec.mk q4 q1 q2 false false,Spec.mk q5 q2 q3 false false] else (fun (j:Int)=>if j=q0 then some [Spec.mk q0 q1 q0 true false,Spec.mk q2 q1 q0 false false,Spec.mk q3 q1 q0 false false,Spec.mk q4 q1 q0 false false,Spec.mk q5 q1 q0 false false,Spec.mk q6 q1 q0 false false,Spec.mk q7 q2 q0 false false,Spec.mk (8:Int) q2 q3 false false] else (fun (_:Int)=>none) j) j) j) j) j) j) j) q).getD (dflt (Sh.nm NT.spec).lst)=r0) (1:Int)) (0:Int)) (2:Int)) (3:Int)) (4:Int)) (5:Int)) (6:Int)) (7:Int)):=by kernel_rfl
theorem LV (q:Int) (h0:q=1):Sat Tryz.prog (aj tyT) 117 [.c (.int (q))] [] ⟨[q=1],[.c (.fz (.nm .spec) ((bm)))],none,false⟩:=by
 refine aM kR [] Tryz.func117 (by decide) (by kernel_rfl) ?_
 rw [Nj]
 subst h0; (repeat' (first | with_reducible refine And.intro ?_ ?_ | with_reducible refine and_imp.2 ?_ | intro))
 all_goals (first | (first | with_reducible rfl | with_reducible assumption | omega | (refine ah ?_ ?_ <;> omega)) | exact rfl)
theorem ND (b:List UInt8) (r0:List Int) (r1:Int):cF tyT zR (JN b) Tryz.f97 [.c (.fz .u8 (b))] [] [.c (.fz .int (r0)),.c (.int (r1))]=(b.length*(1:Nat)<=(140737488355328:Nat)->∃ (s0:Nat),(b=b/\(0:Int)=(↑s0:Int)/\b_ (List.take s0 b)=[])/\s0<=b.length/\∀ (s:Nat),(fun (q1:List Int)=>(fun (q0:Nat × Nat × Int)=>s<=b.length->((↑s:Int)<(↑b.length:Int)->(0:Int)<=(↑s:Int)/\(↑s:Int)<=(↑b.length:Int)/\(q0.fst<(18446744073709551616:Nat)->I64 (↑q0.snd.fst:Int)->I64 q0.snd.snd->(¬q0.snd.snd=(0:Int)\/(↑(64:Nat):Int)<(↑q0.fst:Int)->r0=[]/\(6:Int)=r1)/\(q0.snd.snd=(0:Int)/\(↑q0.fst:Int)<=(↑(64:Nat):Int)->(q1.length+[fN q0.fst].length)*(8:Nat)<=(140737488355328:Nat)/\I64 ((↑s:Int)+(↑q0.snd.fst:Int))/\∃ (s':Nat),(b=b/\(↑s:Int)+(↑q0.snd.fst:Int)=(↑s':Int)/\q1++[fN q0.fst]=b_ (List.take s' b))/\s' <= b.length/\b.length - s' < b.length - s)))/\((↑b.length:Int)<=(↑s:Int)->(rowF q1=false->r0=[]/\(6:Int)=r1)/\(rowF q1=true->q1=r0/\(0:Int)=r1))) (aA (List.drop s b))) (b_ (List.take s b))):=by kernel_rfl
theorem Mw (b:List UInt8) (h0:b.length<=100000):Sat Tryz.prog (aj tyT) 97 [.c (.fz .u8 (b))] [] ⟨[b.length<=100000],[.c (.fz .int ((jk b))),.c (.int ((nT b)))],none,false⟩:=by
 refine aM kR (JN b) Tryz.func97 (by decide) (by kernel_rfl) ?_
 rw [ND]
 (repeat' (first | with_reducible refine And.intro ?_ ?_ | with_reducible refine and_imp.2 ?_ | intro))
 all_goals try (first | (first | with_reducible rfl | with_reducible assumption | omega | (refine ah ?_ ?_ <;> omega)) | exact rfl | exact (eC (Iq (by with_reducible assumption) (by assumption))) | exact (kX (Iq (by with_reducible assumption) (by assumption))) | exact (eC (Iq (by with_reducible assumption) (by assumption))).symm | exact (eC (gI (k:=‹Nat›) (by omega) (by with_reducible assumption))).symm | exact (eC (gI (k:=‹Nat›) (by omega) (by with_reducible assumption))) | exact (kX (gI (k:=‹Nat›) (by omega) (by with_reducible assumption))) | exact (rz (by omega) (by with_reducible assumption)) | exact (qQ (k:=‹Nat›) (by omega) (by with_reducible assumption)) | exact (Ji (by with_reducible assumption) (by with_reducible assumption) (by with_reducible assumption)).1 | exact (Ji (by with_reducible assumption) (by with_reducible assumption) (by with_reducible assumption)).2 | exact (vY (by omega) (by omega)) | (have:=(Ji (by with_reducible assumption) (by with_reducible assumption) (by with_reducible assumption)).1; refine ah ?_ ?_ <;> omega))
 all_goals try (refine ⟨0,?_⟩; (repeat' (first | with_reducible refine And.intro ?_ ?_ | with_reducible refine and_imp.2 ?_ | intro)))
 all_goals try (first | (first | with_reducible rfl | with_reducible assumption | omega | (refine ah ?_ ?_ <;> omega)) | exact rfl | exact (eC (Iq (by with_reducible assumption) (by assumption))) | exact (kX (Iq (by with_reducible assumption) (by assumption))) | exact (eC (Iq (by with_reducible assumption) (by assumption))).symm | exact (eC (gI (k:=‹Nat›) (by omega) (by with_reducible assumption))).symm | exact (eC (gI (k:=‹Nat›) (by omega) (by with_reducible assumption))) | exact (kX (gI (k:=‹Nat›) (by omega) (by with_reducible assumption))) | exact (rz (by omega) (by with_reducible assumption)) | exact (qQ (k:=‹Nat›) (by omega) (by with_reducible assumption)) | exact (Ji (by with_reducible assumption) (by with_reducible assumption) (by with_reducible assumption)).1 | exact (Ji (by with_reducible assumption) (by with_reducible assumption) (by with_reducible assumption)).2 | exact (vY (by omega) (by omega)) | (have:=(Ji (by with_reducible assumption) (by with_reducible assumption) (by with_reducible assumption)).1; refine ah ?_ ?_ <;> omega))
 all_goals try (refine ⟨‹Nat› + 1,?_⟩; (repeat' (first | with_reducible refine And.intro ?_ ?_ | with_reducible refine and_imp.2 ?_ | intro)))
 all_goals (first | (first | with_reducible rfl | with_reducible assumption | omega | (refine ah ?_ ?_ <;> omega)) | exact rfl | exact (eC (Iq (by with_reducible assumption) (by assumption))) | exact (kX (Iq (by with_reducible assumption) (by assumption))) | exact (eC (Iq (by with_reducible assumption) (by assumption))).symm | exact (eC (gI (k:=‹Nat›) (by omega) (by with_reducible assumption))).symm | exact (eC (gI (k:=‹Nat›) (by omega) (by with_reducible assumption))) | exact (kX (gI (k:=‹Nat›) (by omega) (by with_reducible assumption))) | exact (rz (by omega) (by with_reducible assumption)) | exact (qQ (k:=‹Nat›) (by omega) (by with_reducible assumption)) | exact (Ji (by with_reducible assumption) (by with_reducible assumption) (by with_reducible assumption)).1 | exact (Ji (by with_reducible assumption) (by with_reducible assumption) (by with_reducible assumption)).2 | exact (vY (by omega) (by omega)) | (have:=(Ji (by with_reducible assumption) (by with_reducible assumption) (by with_reducible assumption)).1; refine ah ?_ ?_ <;> omega))
def uW:cj:=(br 97 (bp (ai (kC (cL .u8)) aK) aJ fun (b,_) (_)=>⟨[b.length<=100000],[.c (.fz .int ((jk b))),.c (.int ((nT b)))],none,false⟩) (br 117 (bp (ai (kC cI) aK) aJ fun (q,_) (_)=>⟨[q=1],[.c (.fz (.nm .spec) ((bm)))],none,false⟩) (br 83 (bp (ai (kT (.nm .field)) aK) aJ fun (f,_) (_)=>⟨[f.b.length<=16384],[.c (.own 0)],some ([.row 5 .u8 ((bX f))]),true⟩) (br 124 (bp (ai (kC (cL .u8)) aK) aJ fun (b,_) (_)=>⟨[],[.c (.int (((aS b).num))),.c (.int (((aS b).wire))),.c (.int ((((aS b).k:Nat)))),.c (.int (((aS b).e)))],none,false⟩) zR))))
theorem gH:aN Tryz.prog (aj tyT) uW:=(av (au (ab (ao bb) ak) al fun (b,_) (_) hp=>Mw b (dC hp)) (av (au (ab (ao aw) ak) al fun (q,_) (_) hp=>LV q (dC hp)) (av (au (ab bn ak) al fun (f,_) (_) hp=>Ni f (dC hp)) (av (au (ab (ao bb) ak) al fun (b,_) (_) _=>KX b ) kR))))
end Go.Proofs.YtladifkbefehdaaGreat
namespace Go.Proofs.YtladifkbefehdaaGreat
open Go.RowKit
theorem Ib {l:List Field} {k:Nat} (hk:k<=l.length) (h0:0<(k:Int)):l[k - 1]? = some (l.getD ((k:Int) - 1).toNat (dflt (.nm .field))):=by
 rw [show ((k:Int) - 1).toNat=k - 1 by omega,List.getD_eq_getElem?_getD,List.getElem?_eq_getElem (by omega)]; rfl
theorem ql {l:List Field} {k:Nat} {x:Field} (h:(k:Int)<=0\/eF (l.getD ((k:Int) - 1).toNat (dflt (.nm .field))) x=true) (hk:k<=l.length):rm l k x:=by
 by_cases h0:0<(k:Int)
 ·exact .inr ⟨_,Ib hk h0,h.resolve_left (by omega)⟩
 ·exact .inl (by omega)
theorem Bk {v:Int} {k:Nat}:(((bm.take k).filter (fun s=>decide (s.since<=v))).length+1)*32<=140737488355328:=by
 have:=BW (v:=v) (k:=k); omega
theorem BU {v:Int} {k:Nat} (h1:1<=v) (h3:v<=3) (hk:8<=(k:Int)):(bm.take k).filter (fun s=>decide (s.since<=v))=aU v:=Dj (by omega) (by show 8<=k; omega)
theorem Lz {l:List Field} {v:Int}:cV (l.take 0) v=[]:=rfl
theorem NC {l:List Field} {v:Int}:dh (l.take 0) v=[]:=rfl
theorem Ld {l:List Field} {v:Int} {k:Nat} {x:Field} (hx:l[k]? = some x) (h:x.num<=v):cV (l.take k) v++[x]=cV (l.take (k+1)) v:=II hx h
theorem NF {l:List Field} {v:Int} {k:Nat} {x:Field} (hx:l[k]? = some x) (h:¬ x.num<=v):cV (l.take k) v=cV (l.take (k+1)) v:=Nq hx h
theorem Km {l:List Field} {v:Int} {k:Nat} {x:Field} (hx:l[k]? = some x) (h:¬ x.num<=v):dh (l.take k) v++[x]=dh (l.take (k+1)) v:=Jn hx h
theorem Nn {l:List Field} {v:Int} {k:Nat} {x:Field} (hx:l[k]? = some x) (h:x.num<=v):dh (l.take k) v=dh (l.take (k+1)) v:=KC hx h
theorem LM {l:List Field} {v:Int} {k:Nat} (hk:l.length<=k):cV (l.take k) v=cV l v:=zQ hk
theorem NG {l:List Field} {v:Int} {k:Nat} (hk:l.length<=k):dh (l.take k) v=dh l v:=ES hk
attribute [local irreducible] cV dh
def AU (l:List Field):List (Nat × LI):=[(3,{ σ:=Nat,F:=fun k=>([(0,one (.fz (.nm .field) (l))),(3,one (.int (ff (l.take k):Nat))),(6,one (.fz (.nm .field) (l))),(7,one (.int (l).length)),(8,one (.int k))],[]),J:=fun k=>k<=l.length/\df none l=df (du l k) (l.drop k)/\ff (l.take k)<=k*16404,μ:=fun k=>(l).length - k })]
def BV (q:Int) (v:Int):List (Nat × LI):=[(5,{ σ:=Nat,F:=fun k=>([(1,one (.int (v))),(5,one (.own 0)),(15,one (.fz (.nm .spec) bm)),(16,one (.int 8)),(17,one (.int k))],[.row 128 (.nm .spec) (((bm.take k).filter (fun (s:Spec)=>decide (s.since<=v))))]),J:=fun k=>k<=8,μ:=fun k=>8 - k })]
def yf (l:List Field) (v:Int):List (Nat × LI):=[(2,{ σ:=Nat,F:=fun k=>([(1,one (.int (v))),(4,one (.own 0)),(5,one (.own 1)),(8,one (.fz (.nm .field) (l))),(9,one (.int (l).length)),(10,one (.int k))],[.row 90 (.nm .field) ((cV (l.take k) v)),.row 90 (.nm .field) ((dh (l.take k) v))]),J:=fun k=>k<=l.length,μ:=fun k=>(l).length - k })]
def En (l:List Field):List (Nat × LI):=[(3,{ σ:=Nat,F:=fun k=>([(2,one (.ptr 0 0)),(3,one (.ptr 1 0)),(6,one (.fz (.nm .field) (l))),(7,one (.int (l).length)),(8,one (.int k))],[.box 24 (cellsOf (.nm .command) ((cd))),.box 24 (cellsOf (.nm .command) (((cn (l.take k)))))]),J:=fun k=>k<=l.length,μ:=fun k=>(l).length - k })]
theorem HN (b:List UInt8) (s:Int) (r0:U64) (r1:Int) (r2:List UInt8) (r3:Int):mK tyT uW [] Tryz.f125 [.c (.ptr 0 0),.c (.ptr 1 0)] [.box 28 ([.fz .u8 (b)]),.box 3 ([.int (s)])] [.c (.u64 (r0).n),.c (.int (r1))] [.box 28 ([.fz .u8 (r2)]),.box 3 ([.int (r3)])]=((fun (q0:Nat × Nat × Int)=>(0:Int)<=s/\s<=(↑b.length:Int)/\(q0.fst<(18446744073709551616:Nat)->I64 (↑q0.snd.fst:Int)->I64 q0.snd.snd->I64 (s+(↑q0.snd.fst:Int))/\q0.fst=r0.n/\q0.snd.snd=r1/\b=r2/\s+(↑q0.snd.fst:Int)=r3)) (aA (List.drop s.toNat b))):=by kernel_rfl
theorem Ix (b:List UInt8) (s:Int) (h0:0<=s) (h1:s<=(b.length:Int)) (h2:b.length*1<=140737488355328):Sat Tryz.prog (aj tyT) 125 [.c (.ptr 0 0),.c (.ptr 1 0)] [.box 28 ([.fz .u8 (b)]),.box 3 ([.int (s)])] ⟨[0<=s,s<=(b.length:Int),b.length*1<=140737488355328],[.c (.u64 ((U64.mk (aA (b.drop s.toNat)).1)).n),.c (.int (((aA (b.drop s.toNat)).2.2)))],some ([.box 28 ([.fz .u8 ((b))]),.box 3 ([.int ((s+((aA (b.drop s.toNat)).2.1:Nat)))])]),false⟩:=by
 refine db gH [] Tryz.func125 (by decide) (by kernel_rfl) ?_
 rw [HN]
 (repeat' (first | with_reducible refine And.intro ?_ ?_ | with_reducible refine and_imp.2 ?_ | intro))
 all_goals (first | (first | with_reducible rfl | with_reducible assumption | omega | (refine ah ?_ ?_ <;> omega)) | (have:=(kU b s.toNat).1; refine ah ?_ ?_ <;> omega))
theorem DL (b:List UInt8) (r0:Field):cF tyT uW [] Tryz.f94 [.c (.fz .u8 (b))] [] [.agg (cellsOf (.nm .field) r0)]=((fun (q1:TagR)=>(fun (q0:Int)=>b.length*(1:Nat)<=(140737488355328:Nat)->I64 q1.num->I64 q1.wire->I64 (↑q1.k:Int)->I64 q1.e->(0:Int)<=(↑q1.k:Int)/\(↑q1.k:Int)<=(↑b.length:Int)/\((aA (List.drop q1.k b)).fst<(18446744073709551616:Nat)->I64 (↑(aA (List.drop q1.k b)).snd.fst:Int)->I64 (aA (List.drop q1.k b)).snd.snd->(q1.wire=(0:Int)->q1.num=r0.num/\q1.wire=r0.wire/\(aA (List.drop q1.k b)).fst=r0.n.n/\r0.b=[])/\(¬q1.wire=(0:Int)->I64 q0/\(0:Int)<=q0/\q0<=(↑b.length:Int)/\(List.drop q0.toNat b).length*(1:Nat)<=(140737488355328:Nat)/\q1.num=r0.num/\q1.wire=r0.wire/\(0:Nat)=r0.n.n/\List.drop q0.toNat b=r0.b))) ((↑q1.k:Int)+(↑(aA (List.drop q1.k b)).snd.fst:Int))) (aS b)):=by kernel_rfl
theorem Fx (b:List UInt8):Sat Tryz.prog (aj tyT) 94 [.c (.fz .u8 (b))] [] ⟨[],[.agg (cellsOf (.nm .field) (jf b))],none,false⟩:=by
 refine aM gH [] Tryz.func94 (by decide) (by kernel_rfl) ?_
 rw [DL]
 (repeat' (first | with_reducible refine And.intro ?_ ?_ | with_reducible refine and_imp.2 ?_ | intro))
 all_goals (first | (first | with_reducible rfl | with_reducible assumption | omega | (refine ah ?_ ?_ <;> omega)) | exact (congrArg Field.num (yK (by with_reducible assumption))) | exact (congrArg Field.wire (yK (by with_reducible assumption))) | exact (congrArg (fun f=>f.n.n) (yK (by with_reducible assumption))) | exact (congrArg Field.b (yK (by with_reducible assumption))).symm | exact (congrArg Field.num (yt (by with_reducible assumption))) | exact (congrArg Field.wire (yt (by with_reducible assumption))) | exact (congrArg (fun f=>f.n.n) (yt (by with_reducible assumption))) | exact (congrArg Field.b (yt (by with_reducible assumption))) | (have h1:=m_ b; have h2:=kU b (aS b).k; first | omega | (refine ah ?_ ?_ <;> omega) | (rw [List.length_drop]; omega)))
theorem Gj (l:List Field) (r0:Int):cF tyT uW (AU l) Tryz.f82 [.c (.fz (.nm .field) (l))] [] [.c (.int (r0))]=((fun (q3:den (Sh.nm NT.field))=>(fun (q2:Nat)=>(fun (q1:Int)=>(fun (q0:Int)=>l.length*(48:Nat)<=(140737488355328:Nat)->∃ (s0:Nat),(l=l/\q1=(↑(ff (List.take s0 l)):Int)/\l=l/\(↑l.length:Int)=(↑q2:Int)/\q1=(↑s0:Int))/\(s0<=q2/\df none l=df (du l s0) (List.drop s0 l)/\ff (List.take s0 l)<=s0*(16404:Nat))/\∀ (s:Nat),(fun (q6:Int)=>(fun (q5:Int)=>(fun (q4:den (Sh.nm NT.field))=>s<=q2/\df none l=df (du l s) (List.drop s l)/\ff (List.take s l)<=s*(16404:Nat)->(q5<(↑q2:Int)->q1<=q5/\q5<(↑l.length:Int)/\∀ (x:Field),l[s]? = some x->I64 x.num->I64 x.wire->x.n.n<(18446744073709551616:Nat)->x.b.length*(1:Nat)<=(140737488355328:Nat)->(dY x=false->q0=r0)/\(dY x=true->(q1<q5->I64 (q5 - q0))/\(q1<q5->q1<=q5 - q0/\q5 - q0<(↑l.length:Int))/\((q1<q5->I64 q4.num/\I64 q4.wire/\q4.n.n<(18446744073709551616:Nat)/\q4.b.length*(1:Nat)<=(140737488355328:Nat))->(q1<q5/\eF q4 x=false->(5:Int)=r0)/\(q5<=q1\/eF q4 x=true->((16384:Int)<(↑x.b.length:Int)->(4:Int)=r0)/\((↑x.b.length:Int)<=(16384:Int)->x.b.length<=(16384:Nat)/\I64 (q6+(↑(bX x).length:Int))/\I64 (q5+q0)/\∃ (s':Nat),(l=l/\q6+(↑(bX x).length:Int)=(↑(ff (List.take s' l)):Int)/\l=l/\(↑q2:Int)=(↑q2:Int)/\q5+q0=(↑s':Int))/\(s' <= q2/\df none l=df (du l s') (List.drop s' l)/\ff (List.take s' l)<=s' * (16404:Nat))/\q2 - s' < q2 - s)))))/\((↑q2:Int)<=q5->((16384:Int)<q6->(4:Int)=r0)/\(q6<=(16384:Int)->q1=r0))) (l.getD (q5 - q0).toNat q3)) (↑s:Int)) (↑(ff (List.take s l)):Int)) (1:Int)) (0:Int)) l.length) (dflt (Sh.nm NT.field))):=by kernel_rfl
theorem Gd (l:List Field):Sat Tryz.prog (aj tyT) 82 [.c (.fz (.nm .field) (l))] [] ⟨[],[.c (.int ((cm l)))],none,false⟩:=by
 refine aM gH (AU l) Tryz.func82 (by decide) (by kernel_rfl) ?_
 rw [Gj]
 (repeat' (first | with_reducible refine And.intro ?_ ?_ | with_reducible refine and_imp.2 ?_ | intro))
 all_goals try (first | (first | with_reducible rfl | with_reducible assumption | omega | (refine ah ?_ ?_ <;> omega)) | exact rfl | exact (Nat.le_refl 0) | exact (vC (by with_reducible assumption) (by with_reducible assumption) (by with_reducible assumption)) | exact (wL (by with_reducible assumption) (by with_reducible assumption) (by with_reducible assumption) (by omega) (Ib (by omega) (by with_reducible assumption)) (by with_reducible assumption)) | exact (wx (by with_reducible assumption) (by with_reducible assumption) (by with_reducible assumption) (ql (by assumption) (by omega)) (by with_reducible assumption)) | exact (oc (by with_reducible assumption) (by with_reducible assumption) (by with_reducible assumption) (ql (by assumption) (by omega)) (by omega)) | exact (oS (by with_reducible assumption) (by omega) (by with_reducible assumption)) | exact (ot (by with_reducible assumption) (by omega) (by omega)) | (have h1:=ec (f:=‹Field›) (by omega) (by with_reducible assumption); have h2:=nk (show l[_]? = some ‹Field› by with_reducible assumption); first | omega | (refine ah ?_ ?_ <;> omega)))
 all_goals try (refine ⟨0,?_⟩; (repeat' (first | with_reducible refine And.intro ?_ ?_ | with_reducible refine and_imp.2 ?_ | intro)))
 all_goals try (first | (first | with_reducible rfl | with_reducible assumption | omega | (refine ah ?_ ?_ <;> omega)) | exact rfl | exact (Nat.le_refl 0) | exact (vC (by with_reducible assumption) (by with_reducible assumption) (by with_reducible assumption)) | exact (wL (by with_reducible assumption) (by with_reducible assumption) (by with_reducible assumption) (by omega) (Ib (by omega) (by with_reducible assumption)) (by with_reducible assumption)) | exact (wx (by with_reducible assumption) (by with_reducible assumption) (by with_reducible assumption) (ql (by assumption) (by omega)) (by with_reducible assumption)) | exact (oc (by with_reducible assumption) (by with_reducible assumption) (by with_reducible assumption) (ql (by assumption) (by omega)) (by omega)) | exact (oS (by with_reducible assumption) (by omega) (by with_reducible assumption)) | exact (ot (by with_reducible assumption) (by omega) (by omega)) | (have h1:=ec (f:=‹Field›) (by omega) (by with_reducible assumption); have h2:=nk (show l[_]? = some ‹Field› by with_reducible assumption); first | omega | (refine ah ?_ ?_ <;> omega)))
 all_goals try (refine ⟨‹Nat› + 1,?_⟩; (repeat' (first | with_reducible refine And.intro ?_ ?_ | with_reducible refine and_imp.2 ?_ | intro)))
 all_goals (first | (first | with_reducible rfl | with_reducible assumption | omega | (refine ah ?_ ?_ <;> omega)) | exact rfl | exact (Nat.le_refl 0) | exact (vC (by with_reducible assumption) (by with_reducible assumption) (by with_reducible assumption)) | exact (wL (by with_reducible assumption) (by with_reducible assumption) (by with_reducible assumption) (by omega) (Ib (by omega) (by with_reducible assumption)) (by with_reducible assumption)) | exact (wx (by with_reducible assumption) (by with_reducible assumption) (by with_reducible assumption) (ql (by assumption) (by omega)) (by with_reducible assumption)) | exact (oc (by with_reducible assumption) (by with_reducible assumption) (by with_reducible assumption) (ql (by assumption) (by omega)) (by omega)) | exact (oS (by with_reducible assumption) (by omega) (by with_reducible assumption)) | exact (ot (by with_reducible assumption) (by omega) (by omega)) | (have h1:=ec (f:=‹Field›) (by omega) (by with_reducible assumption); have h2:=nk (show l[_]? = some ‹Field› by with_reducible assumption); first | omega | (refine ah ?_ ?_ <;> omega)))
theorem HM (q:Int) (v:Int) (r0:List Spec):cF tyT uW (BV q v) Tryz.f81 [.c (.int (q)),.c (.int (v))] [] [.c (.fz (.nm .spec) (r0))]=((fun (q2:Int)=>(fun (q1:Int)=>(fun (q0:Nat)=>I64 q->I64 v->(v<q1\/(3:Int)<v->r0=[])/\(q1<=v/\v<=(3:Int)->q=q1/\(bm.length*(32:Nat)<=(140737488355328:Nat)->∃ (s0:Nat),(v=v/\bm=bm/\(↑bm.length:Int)=q2/\(0:Int)=(↑s0:Int)/\List.filter (fun (s:Spec)=>decide (s.since<=v)) (List.take s0 bm)=[])/\s0<=q0/\∀ (s:Nat),(fun (q4:Int)=>(fun (q3:List (den (Sh.nm NT.spec)))=>s<=q0->((↑s:Int)<q2->(0:Int)<=(↑s:Int)/\(↑s:Int)<(↑bm.length:Int)/\∀ (x:Spec),bm[s]? = some x->I64 x.num->I64 x.wire->I64 x.since->(x.since<=v->(q3.length+[x].length)*(32:Nat)<=(140737488355328:Nat)/\I64 q4/\∃ (s':Nat),(v=v/\bm=bm/\q2=q2/\q4=(↑s':Int)/\q3++[x]=List.filter (fun (s:Spec)=>decide (s.since<=v)) (List.take s' bm))/\s' <= q0/\q0 - s' < q0 - s)/\(v<x.since->I64 q4/\∃ (s':Nat),(v=v/\bm=bm/\q2=q2/\q4=(↑s':Int)/\q3=List.filter (fun (s:Spec)=>decide (s.since<=v)) (List.take s' bm))/\s' <= q0/\q0 - s' < q0 - s))/\(q2<=(↑s:Int)->q3=r0)) (List.filter (fun (s:Spec)=>decide (s.since<=v)) (List.take s bm))) ((↑s:Int)+q1)))) (8:Nat)) (1:Int)) (8:Int)):=by kernel_rfl
theorem GL (q:Int) (v:Int) (h0:q=1):Sat Tryz.prog (aj tyT) 81 [.c (.int (q)),.c (.int (v))] [] ⟨[q=1],[.c (.fz (.nm .spec) ((aU v)))],none,false⟩:=by
 refine aM gH (BV q v) Tryz.func81 (by decide) (by kernel_rfl) ?_
 rw [HM]
 (repeat' (first | with_reducible refine And.intro ?_ ?_ | with_reducible refine and_imp.2 ?_ | intro))
 all_goals try (first | (first | with_reducible rfl | with_reducible assumption | omega | (refine ah ?_ ?_ <;> omega)) | exact rfl | exact (lU (by with_reducible assumption)).symm | exact (oI (by with_reducible assumption) (by with_reducible assumption)) | exact (rf (by with_reducible assumption) (by omega)) | exact Bk | exact (BU (by omega) (by omega) (by omega)) | (have hl:bm.length=8:=rfl; omega))
 all_goals try (refine ⟨0,?_⟩; (repeat' (first | with_reducible refine And.intro ?_ ?_ | with_reducible refine and_imp.2 ?_ | intro)))
 all_goals try (first | (first | with_reducible rfl | with_reducible assumption | omega | (refine ah ?_ ?_ <;> omega)) | exact rfl | exact (lU (by with_reducible assumption)).symm | exact (oI (by with_reducible assumption) (by with_reducible assumption)) | exact (rf (by with_reducible assumption) (by omega)) | exact Bk | exact (BU (by omega) (by omega) (by omega)) | (have hl:bm.length=8:=rfl; omega))
 all_goals try (refine ⟨‹Nat› + 1,?_⟩; (repeat' (first | with_reducible refine And.intro ?_ ?_ | with_reducible refine and_imp.2 ?_ | intro)))
 all_goals (first | (first | with_reducible rfl | with_reducible assumption | omega | (refine ah ?_ ?_ <;> omega)) | exact rfl | exact (lU (by with_reducible assumption)).symm | exact (oI (by with_reducible assumption) (by with_reducible assumption)) | exact (rf (by with_reducible assumption) (by omega)) | exact Bk | exact (BU (by omega) (by omega) (by omega)) | (have hl:bm.length=8:=rfl; omega))
theorem Cz (l:List Field) (v:Int) (r0:List Field) (r1:List Field):cF tyT uW (yf l v) Tryz.f53 [.c (.fz (.nm .field) (l)),.c (.int (v))] [] [.c (.fz (.nm .field) (r0)),.c (.fz (.nm .field) (r1))]=((fun (q0:Nat)=>l.length*(48:Nat)<=(140737488355328:Nat)->I64 v->∃ (s0:Nat),(fun (q1:Int)=>(v=v/\l=l/\(↑l.length:Int)=q1/\(0:Int)=(↑s0:Int)/\cV (List.take s0 l) v=[]/\dh (List.take s0 l) v=[])/\s0<=q0/\∀ (s:Nat),(fun (q3:List Field)=>(fun (q2:Int)=>s<=q0->((↑s:Int)<q1->(0:Int)<=(↑s:Int)/\(↑s:Int)<(↑l.length:Int)/\∀ (x:Field),(fun (q4:Prop)=>l[s]? = some x->I64 x.num->I64 x.wire->x.n.n<(18446744073709551616:Nat)->q4->q4->(x.num<=v->((cV q3 v).length+[x].length)*(48:Nat)<=(140737488355328:Nat)/\I64 q2/\∃ (s':Nat),(v=v/\l=l/\q1=q1/\q2=(↑s':Int)/\cV q3 v++[x]=cV (List.take s' l) v/\dh q3 v=dh (List.take s' l) v)/\s' <= q0/\q0 - s' < q0 - s)/\(v<x.num->((dh q3 v).length+[x].length)*(48:Nat)<=(140737488355328:Nat)/\I64 q2/\∃ (s':Nat),(v=v/\l=l/\q1=q1/\q2=(↑s':Int)/\cV q3 v=cV (List.take s' l) v/\dh q3 v++[x]=dh (List.take s' l) v)/\s' <= q0/\q0 - s' < q0 - s)) (x.b.length*(1:Nat)<=(140737488355328:Nat)))/\(q1<=(↑s:Int)->cV q3 v=r0/\dh q3 v=r1)) ((↑s:Int)+(1:Int))) (List.take s l)) (↑q0:Int)) l.length):=by kernel_rfl
theorem BH (l:List Field) (v:Int):Sat Tryz.prog (aj tyT) 53 [.c (.fz (.nm .field) (l)),.c (.int (v))] [] ⟨[],[.c (.fz (.nm .field) ((cV l v))),.c (.fz (.nm .field) ((dh l v)))],none,false⟩:=by
 refine aM gH (yf l v) Tryz.func53 (by decide) (by kernel_rfl) ?_
 rw [Cz]
 (repeat' (first | with_reducible refine And.intro ?_ ?_ | with_reducible refine and_imp.2 ?_ | intro))
 all_goals try (first | (first | with_reducible rfl | with_reducible assumption | omega | (refine ah ?_ ?_ <;> omega)) | exact Lz | exact NC | exact (Ld (by with_reducible assumption) (by with_reducible assumption)) | exact (NF (by with_reducible assumption) (by omega)) | exact (Km (by with_reducible assumption) (by omega)) | exact (Nn (by with_reducible assumption) (by with_reducible assumption)) | exact (LM (by omega)) | exact (NG (by omega)) | (have h1:=qC (l.take ‹Nat›) v; have h2:=nd (l.take ‹Nat›) v; rw [List.length_take] at h1 h2; simp only [List.length_cons,List.length_nil]; omega))
 all_goals try (refine ⟨0,?_⟩; (repeat' (first | with_reducible refine And.intro ?_ ?_ | with_reducible refine and_imp.2 ?_ | intro)))
 all_goals try (first | (first | with_reducible rfl | with_reducible assumption | omega | (refine ah ?_ ?_ <;> omega)) | exact Lz | exact NC | exact (Ld (by with_reducible assumption) (by with_reducible assumption)) | exact (NF (by with_reducible assumption) (by omega)) | exact (Km (by with_reducible assumption) (by omega)) | exact (Nn (by with_reducible assumption) (by with_reducible assumption)) | exact (LM (by omega)) | exact (NG (by omega)) | (have h1:=qC (l.take ‹Nat›) v; have h2:=nd (l.take ‹Nat›) v; rw [List.length_take] at h1 h2; simp only [List.length_cons,List.length_nil]; omega))
 all_goals try (refine ⟨‹Nat› + 1,?_⟩; (repeat' (first | with_reducible refine And.intro ?_ ?_ | with_reducible refine and_imp.2 ?_ | intro)))
 all_goals (first | (first | with_reducible rfl | with_reducible assumption | omega | (refine ah ?_ ?_ <;> omega)) | exact Lz | exact NC | exact (Ld (by with_reducible assumption) (by with_reducible assumption)) | exact (NF (by with_reducible assumption) (by omega)) | exact (Km (by with_reducible assumption) (by omega)) | exact (Nn (by with_reducible assumption) (by with_reducible assumption)) | exact (LM (by omega)) | exact (NG (by omega)) | (have h1:=qC (l.take ‹Nat›) v; have h2:=nd (l.take ‹Nat›) v; rw [List.length_take] at h1 h2; simp only [List.length_cons,List.length_nil]; omega))
theorem Gu (l:List Field) (r0:Command):cF tyT uW (En l) Tryz.f54 [.c (.fz (.nm .field) (l))] [] [.agg (cellsOf (.nm .command) r0)]=((fun (q11:Prop)=>(fun (q10:Int)=>(fun (q9:Prop)=>(fun (q8:Int)=>(fun (q7:Prop)=>(fun (q6:Prop)=>(fun (q5:Prop)=>(fun (q4:Prop)=>(fun (q3:Prop)=>(fun (q2:Prop)=>(fun (q1:Prop)=>(fun (q0:Nat)=>l.length*(48:Nat)<=(140737488355328:Nat)->∃ (s0:Nat),(fun (q13:Command)=>(fun (q12:Prop)=>(q11/\(↑l.length:Int)=(↑q0:Int)/\q10=(↑s0:Int)/\q10=cd.kind/\q10=cd.client/\q10=cd.seq/\q10=cd.set/\q10=cd.id/\q10=cd.n/\cd.chunks=[]/\Str.mk []=cd.text/\q10=q13.kind/\q10=q13.client/\q10=q13.seq/\q10=q13.set/\q10=q13.id/\q10=q13.n/\q13.chunks=[]/\Str.mk []=q13.text)/\s0<=q0/\∀ (s:Nat),(fun (q16:Nat)=>(fun (q15:Int)=>(fun (q14:Command)=>s<=q0->((↑s:Int)<(↑q0:Int)->q10<=(↑s:Int)/\(↑s:Int)<(↑l.length:Int)/\∀ (x:Field),(fun (q25:Int)=>(fun (q24:Int)=>(fun (q23:Prop)=>(fun (q22:Str)=>(fun (q21:Int)=>(fun (q20:Int)=>(fun (q19:List Int)=>(fun (q18:Int)=>(fun (q17:Int)=>l[s]? = some x->I64 q17->I64 x.wire->x.n.n<(18446744073709551616:Nat)->x.b.length*(1:Nat)<=(140737488355328:Nat)->(q17=q8->q23/\∃ (s':Nat),(fun (q26:Command)=>(q11/\q12/\q15=(↑s':Int)/\q4/\q1/\q5/\q6/\q7/\q9/\q2/\q3/\q20=q26.kind/\q18=q26.client/\q24=q26.seq/\q25=q26.set/\q14.id=q26.id/\q14.n=q26.n/\q19=q26.chunks/\q22=q26.text)/\s' <= q0/\q0 - s' < q16) (cn (List.take s' l)))/\(¬q17=q8->(q17=(2:Int)->q23/\∃ (s':Nat),(fun (q27:Command)=>(q11/\q12/\q15=(↑s':Int)/\q4/\q1/\q5/\q6/\q7/\q9/\q2/\q3/\q21=q27.kind/\q20=q27.client/\q24=q27.seq/\q25=q27.set/\q14.id=q27.id/\q14.n=q27.n/\q19=q27.chunks/\q22=q27.text)/\s' <= q0/\q0 - s' < q16) (cn (List.take s' l)))/\(¬q17=(2:Int)->(q17=(3:Int)->q23/\∃ (s':Nat),(fun (q28:Command)=>(q11/\q12/\q15=(↑s':Int)/\q4/\q1/\q5/\q6/\q7/\q9/\q2/\q3/\q21=q28.kind/\q18=q28.client/\q20=q28.seq/\q25=q28.set/\q14.id=q28.id/\q14.n=q28.n/\q19=q28.chunks/\q22=q28.text)/\s' <= q0/\q0 - s' < q16) (cn (List.take s' l)))/\(¬q17=(3:Int)->(q17=(4:Int)->q23/\∃ (s':Nat),(fun (q29:Command)=>(q11/\q12/\q15=(↑s':Int)/\q4/\q1/\q5/\q6/\q7/\q9/\q2/\q3/\q21=q29.kind/\q18=q29.client/\q24=q29.seq/\q20=q29.set/\q14.id=q29.id/\q14.n=q29.n/\q19=q29.chunks/\q22=q29.text)/\s' <= q0/\q0 - s' < q16) (cn (List.take s' l)))/\(¬q17=(4:Int)->(q17=(5:Int)->q23/\∃ (s':Nat),(fun (q30:Command)=>(q11/\q12/\q15=(↑s':Int)/\q4/\q1/\q5/\q6/\q7/\q9/\q2/\q3/\q21=q30.kind/\q18=q30.client/\q24=q30.seq/\q25=q30.set/\q20=q30.id/\q14.n=q30.n/\q19=q30.chunks/\q22=q30.text)/\s' <= q0/\q0 - s' < q16) (cn (List.take s' l)))/\(¬q17=(5:Int)->(q17=(6:Int)->q23/\∃ (s':Nat),(fun (q31:Command)=>(q11/\q12/\q15=(↑s':Int)/\q4/\q1/\q5/\q6/\q7/\q9/\q2/\q3/\q21=q31.kind/\q18=q31.client/\q24=q31.seq/\q25=q31.set/\q14.id=q31.id/\q20=q31.n/\q19=q31.chunks/\q22=q31.text)/\s' <= q0/\q0 - s' < q16) (cn (List.take s' l)))/\(¬q17=(6:Int)->(q17=(7:Int)->x.b.length<=(100000:Nat)/\((jk x.b).length*(8:Nat)<=(140737488355328:Nat)->I64 (nT x.b)->q23/\∃ (s':Nat),(fun (q32:Command)=>(q11/\q12/\q15=(↑s':Int)/\q4/\q1/\q5/\q6/\q7/\q9/\q2/\q3/\q21=q32.kind/\q18=q32.client/\q24=q32.seq/\q25=q32.set/\q14.id=q32.id/\q14.n=q32.n/\jk x.b=q32.chunks/\q22=q32.text)/\s' <= q0/\q0 - s' < q16) (cn (List.take s' l))))/\(¬q17=(7:Int)->(q17=(8:Int)->q23/\∃ (s':Nat),(fun (q33:Command)=>(q11/\q12/\q15=(↑s':Int)/\q4/\q1/\q5/\q6/\q7/\q9/\q2/\q3/\q21=q33.kind/\q18=q33.client/\q24=q33.seq/\q25=q33.set/\q14.id=q33.id/\q14.n=q33.n/\q19=q33.chunks/\Str.mk x.b=q33.text)/\s' <= q0/\q0 - s' < q16) (cn (List.take s' l)))/\(¬q17=(8:Int)->q23/\∃ (s':Nat),(fun (q34:Command)=>(q11/\q12/\q15=(↑s':Int)/\q4/\q1/\q5/\q6/\q7/\q9/\q2/\q3/\q21=q34.kind/\q18=q34.client/\q24=q34.seq/\q25=q34.set/\q14.id=q34.id/\q14.n=q34.n/\q19=q34.chunks/\q22=q34.text)/\s' <= q0/\q0 - s' < q16) (cn (List.take s' l))))))))))) x.num) q14.client) q14.chunks) (fN x.n.n)) q14.kind) q14.text) (I64 q15)) q14.seq) q14.set)/\((↑q0:Int)<=(↑s:Int)->q14.kind=r0.kind/\q14.client=r0.client/\q14.seq=r0.seq/\q14.set=r0.set/\q14.id=r0.id/\q14.n=r0.n/\q14.chunks=r0.chunks/\q14.text=r0.text)) (cn (List.take s l))) ((↑s:Int)+q8)) (q0 - s)) ((↑q0:Int)=(↑q0:Int))) (cn (List.take s0 l))) l.length) (cd.client=cd.client)) (cd.chunks=cd.chunks)) (cd.text=cd.text)) (cd.kind=cd.kind)) (cd.seq=cd.seq)) (cd.set=cd.set)) (cd.id=cd.id)) (1:Int)) (cd.n=cd.n)) (0:Int)) (l=l)):=by kernel_rfl
theorem IT (l:List Field) (h0:∀ f ∈ l,f.b.length<=16384):Sat Tryz.prog (aj tyT) 54 [.c (.fz (.nm .field) (l))] [] ⟨[∀ f ∈ l,f.b.length<=16384],[.agg (cellsOf (.nm .command) (cn l))],none,false⟩:=by
 refine aM gH (En l) Tryz.func54 (by decide) (by kernel_rfl) ?_
 rw [Gu]
 (repeat' (first | with_reducible refine And.intro ?_ ?_ | with_reducible refine and_imp.2 ?_ | intro))
 all_goals try (first | (first | with_reducible rfl | with_reducible assumption | omega | (refine ah ?_ ?_ <;> omega)) | exact rfl | (have:=h0 _ (List.mem_of_getElem? (by with_reducible assumption)); omega) | (rw [aR (by with_reducible assumption),<- ML (by with_reducible assumption)] <;> first | rfl | exact (aV (by with_reducible assumption)).symm) | (rw [aR (by with_reducible assumption),<- Mn (by with_reducible assumption)] <;> first | rfl | exact (aV (by with_reducible assumption)).symm) | (rw [aR (by with_reducible assumption),<- Lr (by with_reducible assumption)] <;> first | rfl | exact (aV (by with_reducible assumption)).symm) | (rw [aR (by with_reducible assumption),<- MY (by with_reducible assumption)] <;> first | rfl | exact (aV (by with_reducible assumption)).symm) | (rw [aR (by with_reducible assumption),<- Ll (by with_reducible assumption)] <;> first | rfl | exact (aV (by with_reducible assumption)).symm) | (rw [aR (by with_reducible assumption),<- Ky (by with_reducible assumption)] <;> first | rfl | exact (aV (by with_reducible assumption)).symm) | (rw [aR (by with_reducible assumption),<- Ny (by with_reducible assumption)] <;> first | rfl | exact (aV (by with_reducible assumption)).symm) | (rw [aR (by with_reducible assumption),<- Mv (by with_reducible assumption)] <;> first | rfl | exact (aV (by with_reducible assumption)).symm) | (rw [aR (by with_reducible assumption),<- MN (by omega)] <;> first | rfl | exact (aV (by with_reducible assumption)).symm) | (rw [List.take_of_length_le (by omega)]))
 all_goals try (refine ⟨0,?_⟩; (repeat' (first | with_reducible refine And.intro ?_ ?_ | with_reducible refine and_imp.2 ?_ | intro)))
 all_goals try (first | (first | with_reducible rfl | with_reducible assumption | omega | (refine ah ?_ ?_ <;> omega)) | exact rfl | (have:=h0 _ (List.mem_of_getElem? (by with_reducible assumption)); omega) | (rw [aR (by with_reducible assumption),<- ML (by with_reducible assumption)] <;> first | rfl | exact (aV (by with_reducible assumption)).symm) | (rw [aR (by with_reducible assumption),<- Mn (by with_reducible assumption)] <;> first | rfl | exact (aV (by with_reducible assumption)).symm) | (rw [aR (by with_reducible assumption),<- Lr (by with_reducible assumption)] <;> first | rfl | exact (aV (by with_reducible assumption)).symm) | (rw [aR (by with_reducible assumption),<- MY (by with_reducible assumption)] <;> first | rfl | exact (aV (by with_reducible assumption)).symm) | (rw [aR (by with_reducible assumption),<- Ll (by with_reducible assumption)] <;> first | rfl | exact (aV (by with_reducible assumption)).symm) | (rw [aR (by with_reducible assumption),<- Ky (by with_reducible assumption)] <;> first | rfl | exact (aV (by with_reducible assumption)).symm) | (rw [aR (by with_reducible assumption),<- Ny (by with_reducible assumption)] <;> first | rfl | exact (aV (by with_reducible assumption)).symm) | (rw [aR (by with_reducible assumption),<- Mv (by with_reducible assumption)] <;> first | rfl | exact (aV (by with_reducible assumption)).symm) | (rw [aR (by with_reducible assumption),<- MN (by omega)] <;> first | rfl | exact (aV (by with_reducible assumption)).symm) | (rw [List.take_of_length_le (by omega)]))
 all_goals try (refine ⟨‹Nat› + 1,?_⟩; (repeat' (first | with_reducible refine And.intro ?_ ?_ | with_reducible refine and_imp.2 ?_ | intro)))
 all_goals (first | (first | with_reducible rfl | with_reducible assumption | omega | (refine ah ?_ ?_ <;> omega)) | exact rfl | (have:=h0 _ (List.mem_of_getElem? (by with_reducible assumption)); omega) | (rw [aR (by with_reducible assumption),<- ML (by with_reducible assumption)] <;> first | rfl | exact (aV (by with_reducible assumption)).symm) | (rw [aR (by with_reducible assumption),<- Mn (by with_reducible assumption)] <;> first | rfl | exact (aV (by with_reducible assumption)).symm) | (rw [aR (by with_reducible assumption),<- Lr (by with_reducible assumption)] <;> first | rfl | exact (aV (by with_reducible assumption)).symm) | (rw [aR (by with_reducible assumption),<- MY (by with_reducible assumption)] <;> first | rfl | exact (aV (by with_reducible assumption)).symm) | (rw [aR (by with_reducible assumption),<- Ll (by with_reducible assumption)] <;> first | rfl | exact (aV (by with_reducible assumption)).symm) | (rw [aR (by with_reducible assumption),<- Ky (by with_reducible assumption)] <;> first | rfl | exact (aV (by with_reducible assumption)).symm) | (rw [aR (by with_reducible assumption),<- Ny (by with_reducible assumption)] <;> first | rfl | exact (aV (by with_reducible assumption)).symm) | (rw [aR (by with_reducible assumption),<- Mv (by with_reducible assumption)] <;> first | rfl | exact (aV (by with_reducible assumption)).symm) | (rw [aR (by with_reducible assumption),<- MN (by omega)] <;> first | rfl | exact (aV (by with_reducible assumption)).symm) | (rw [List.take_of_length_le (by omega)]))
def zx:cj:=(br 54 (bp (ai (kC (cL (.nm .field))) aK) aJ fun (l,_) (_)=>⟨[∀ f ∈ l,f.b.length<=16384],[.agg (cellsOf (.nm .command) (cn l))],none,false⟩) (br 53 (bp (ai (kC (cL (.nm .field))) (ai (kC cI) aK)) aJ fun (l,v,_) (_)=>⟨[],[.c (.fz (.nm .field) ((cV l v))),.c (.fz (.nm .field) ((dh l v)))],none,false⟩) (br 81 (bp (ai (kC cI) (ai (kC cI) aK)) aJ fun (q,v,_) (_)=>⟨[q=1],[.c (.fz (.nm .spec) ((aU v)))],none,false⟩) (br 82 (bp (ai (kC (cL (.nm .field))) aK) aJ fun (l,_) (_)=>⟨[],[.c (.int ((cm l)))],none,false⟩) (br 94 (bp (ai (kC (cL .u8)) aK) aJ fun (b,_) (_)=>⟨[],[.agg (cellsOf (.nm .field) (jf b))],none,false⟩) (br 125 (bp (ai (kC (bN 0 0)) (ai (kC (bN 1 0)) aK)) (az (bI 28 (aq (cL .u8) bG)) (az (bI 3 (aq cI bG)) aJ)) fun (_,_,_) ((b,_),(s,_),_)=>⟨[0<=s,s<=(b.length:Int),b.length*1<=140737488355328],[.c (.u64 ((U64.mk (aA (b.drop s.toNat)).1)).n),.c (.int (((aA (b.drop s.toNat)).2.2)))],some ([.box 28 ([.fz .u8 ((b))]),.box 3 ([.int ((s+((aA (b.drop s.toNat)).2.1:Nat)))])]),false⟩) uW))))))
theorem kz:aN Tryz.prog (aj tyT) zx:=(av (au (ab (ao bb) ak) al fun (l,_) (_) hp=>IT l (dC hp)) (av (au (ab (ao bb) (ab (ao aw) ak)) al fun (l,v,_) (_) _=>BH l v ) (av (au (ab (ao aw) (ab (ao aw) ak)) al fun (q,v,_) (_) hp=>GL q v (dC hp)) (av (au (ab (ao bb) ak) al fun (l,_) (_) _=>Gd l ) (av (au (ab (ao bb) ak) al fun (b,_) (_) _=>Fx b ) (av (au (ab (ao aI) (ab (ao aI) ak)) (ag (aG (ae bb aF)) (ag (aG (ae aw aF)) al)) fun (_,_,_) ((b,_),(s,_),_) hp=>Ix b s (dC hp) (dC (gE hp)) (dC (gE (gE hp)))) gH))))))
end Go.Proofs.YtladifkbefehdaaGreat
namespace Go.Proofs.YtladifkbefehdaaGreat
open Go.RowKit
theorem GS (k:Int) (n:Int) (r0:List Field):mK tyT zx [] Tryz.f84 [.c (.int (k)),.c (.int (n)),.c (.ptr 0 0)] [.box 67 ([.em true])] [] [.box 67 ([.own 1]),.row 90 (.nm .field) (r0)]=(I64 k->I64 n->(¬n=(0:Int)->(0:Int)<=n/\[Field.mk k (0:Int) (U64.mk n.toNat) []].length*(48:Nat)<=(140737488355328:Nat)/\[Field.mk k (0:Int) (U64.mk n.toNat) []]=r0)/\(n=(0:Int)->r0=[])):=by kernel_rfl
theorem Gw (k:Int) (n:Int) (h0:0<=n):Sat Tryz.prog (aj tyT) 84 [.c (.int (k)),.c (.int (n)),.c (.ptr 0 0)] [.box 67 ([.em true])] ⟨[0<=n],[],some ([.box 67 ([.own 1]),.row 90 (.nm .field) ((mN k n))]),false⟩:=by
 refine db kz [] Tryz.func84 (by decide) (by kernel_rfl) ?_
 rw [GS]
 (repeat' (first | with_reducible refine And.intro ?_ ?_ | with_reducible refine and_imp.2 ?_ | intro))
 all_goals (first | (first | with_reducible rfl | with_reducible assumption | omega | (refine ah ?_ ?_ <;> omega)) | exact (u_ (by with_reducible assumption)) | exact (sR (by with_reducible assumption)) | exact (tQ (by with_reducible assumption)) | exact (sU (by omega)) | exact (u_ (xs:=[]) (by with_reducible assumption)) | exact (sR (xs:=[]) (by with_reducible assumption)).symm | exact (tQ (xs:=[]) (by with_reducible assumption)) | exact (sU (xs:=[]) (by omega)).symm | (simp only [List.length_cons,List.length_nil]; omega) | decide)
theorem Hw (k:Int) (n:Int) (xs:List Field) (r0:List Field):mK tyT zx [] Tryz.f84 [.c (.int (k)),.c (.int (n)),.c (.ptr 0 0)] [.box 67 ([.own 1]),.row 90 (.nm .field) (xs)] [] [.box 67 ([.own 1]),.row 90 (.nm .field) (r0)]=(I64 k->I64 n->(¬n=(0:Int)->(0:Int)<=n/\(xs.length+[Field.mk k (0:Int) (U64.mk n.toNat) []].length)*(48:Nat)<=(140737488355328:Nat)/\xs++[Field.mk k (0:Int) (U64.mk n.toNat) []]=r0)/\(n=(0:Int)->xs=r0)):=by kernel_rfl
theorem Ge (k:Int) (n:Int) (xs:List Field) (h0:0<=n) (h1:xs.length<=1000):Sat Tryz.prog (aj tyT) 84 [.c (.int (k)),.c (.int (n)),.c (.ptr 0 0)] [.box 67 ([.own 1]),.row 90 (.nm .field) (xs)] ⟨[0<=n,xs.length<=1000],[],some ([.box 67 ([.own 1]),.row 90 (.nm .field) ((xs++mN k n))]),false⟩:=by
 refine db kz [] Tryz.func84 (by decide) (by kernel_rfl) ?_
 rw [Hw]
 (repeat' (first | with_reducible refine And.intro ?_ ?_ | with_reducible refine and_imp.2 ?_ | intro))
 all_goals (first | (first | with_reducible rfl | with_reducible assumption | omega | (refine ah ?_ ?_ <;> omega)) | exact (u_ (by with_reducible assumption)) | exact (sR (by with_reducible assumption)) | exact (tQ (by with_reducible assumption)) | exact (sU (by omega)) | exact (u_ (xs:=[]) (by with_reducible assumption)) | exact (sR (xs:=[]) (by with_reducible assumption)).symm | exact (tQ (xs:=[]) (by with_reducible assumption)) | exact (sU (xs:=[]) (by omega)).symm | (simp only [List.length_cons,List.length_nil]; omega) | decide)
theorem Hz (k:Int) (b:List UInt8) (r0:List Field):mK tyT zx [] Tryz.f85 [.c (.int (k)),.c (.fz .u8 (b)),.c (.ptr 0 0)] [.box 67 ([.em true])] [] [.box 67 ([.own 1]),.row 90 (.nm .field) (r0)]=(I64 k->b.length*(1:Nat)<=(140737488355328:Nat)->((0:Int)<(↑b.length:Int)->[Field.mk k (2:Int) (U64.mk (0:Nat)) b].length*(48:Nat)<=(140737488355328:Nat)/\[Field.mk k (2:Int) (U64.mk (0:Nat)) b]=r0)/\((↑b.length:Int)<=(0:Int)->r0=[])):=by kernel_rfl
theorem HY (k:Int) (b:List UInt8):Sat Tryz.prog (aj tyT) 85 [.c (.int (k)),.c (.fz .u8 (b)),.c (.ptr 0 0)] [.box 67 ([.em true])] ⟨[],[],some ([.box 67 ([.own 1]),.row 90 (.nm .field) ((xU k b))]),false⟩:=by
 refine db kz [] Tryz.func85 (by decide) (by kernel_rfl) ?_
 rw [Hz]
 (repeat' (first | with_reducible refine And.intro ?_ ?_ | with_reducible refine and_imp.2 ?_ | intro))
 all_goals (first | (first | with_reducible rfl | with_reducible assumption | omega | (refine ah ?_ ?_ <;> omega)) | exact (u_ (by with_reducible assumption)) | exact (sR (by with_reducible assumption)) | exact (tQ (by with_reducible assumption)) | exact (sU (by omega)) | exact (u_ (xs:=[]) (by with_reducible assumption)) | exact (sR (xs:=[]) (by with_reducible assumption)).symm | exact (tQ (xs:=[]) (by with_reducible assumption)) | exact (sU (xs:=[]) (by omega)).symm | (simp only [List.length_cons,List.length_nil]; omega) | decide)
theorem Hj (k:Int) (b:List UInt8) (xs:List Field) (r0:List Field):mK tyT zx [] Tryz.f85 [.c (.int (k)),.c (.fz .u8 (b)),.c (.ptr 0 0)] [.box 67 ([.own 1]),.row 90 (.nm .field) (xs)] [] [.box 67 ([.own 1]),.row 90 (.nm .field) (r0)]=(I64 k->b.length*(1:Nat)<=(140737488355328:Nat)->((0:Int)<(↑b.length:Int)->(xs.length+[Field.mk k (2:Int) (U64.mk (0:Nat)) b].length)*(48:Nat)<=(140737488355328:Nat)/\xs++[Field.mk k (2:Int) (U64.mk (0:Nat)) b]=r0)/\((↑b.length:Int)<=(0:Int)->xs=r0)):=by kernel_rfl
theorem Hh (k:Int) (b:List UInt8) (xs:List Field) (h0:xs.length<=1000):Sat Tryz.prog (aj tyT) 85 [.c (.int (k)),.c (.fz .u8 (b)),.c (.ptr 0 0)] [.box 67 ([.own 1]),.row 90 (.nm .field) (xs)] ⟨[xs.length<=1000],[],some ([.box 67 ([.own 1]),.row 90 (.nm .field) ((xs++xU k b))]),false⟩:=by
 refine db kz [] Tryz.func85 (by decide) (by kernel_rfl) ?_
 rw [Hj]
 (repeat' (first | with_reducible refine And.intro ?_ ?_ | with_reducible refine and_imp.2 ?_ | intro))
 all_goals (first | (first | with_reducible rfl | with_reducible assumption | omega | (refine ah ?_ ?_ <;> omega)) | exact (u_ (by with_reducible assumption)) | exact (sR (by with_reducible assumption)) | exact (tQ (by with_reducible assumption)) | exact (sU (by omega)) | exact (u_ (xs:=[]) (by with_reducible assumption)) | exact (sR (xs:=[]) (by with_reducible assumption)).symm | exact (tQ (xs:=[]) (by with_reducible assumption)) | exact (sU (xs:=[]) (by omega)).symm | (simp only [List.length_cons,List.length_nil]; omega) | decide)
def BY:cj:=(br 85 (bp (ai (kC cI) (ai (kC (cL .u8)) (ai (kC (bN 0 0)) aK))) (az (bI 67 (aq (bf 1) bG)) (az (bd 90 (.nm .field)) aJ)) fun (k,b,_,_) ((_,_),xs,_)=>⟨[xs.length<=1000],[],some ([.box 67 ([.own 1]),.row 90 (.nm .field) ((xs++xU k b))]),false⟩) (br 85 (bp (ai (kC cI) (ai (kC (cL .u8)) (ai (kC (bN 0 0)) aK))) (az (bI 67 (aq (Qc true) bG)) aJ) fun (k,b,_,_) ((_,_),_)=>⟨[],[],some ([.box 67 ([.own 1]),.row 90 (.nm .field) ((xU k b))]),false⟩) (br 84 (bp (ai (kC cI) (ai (kC cI) (ai (kC (bN 0 0)) aK))) (az (bI 67 (aq (bf 1) bG)) (az (bd 90 (.nm .field)) aJ)) fun (k,n,_,_) ((_,_),xs,_)=>⟨[0<=n,xs.length<=1000],[],some ([.box 67 ([.own 1]),.row 90 (.nm .field) ((xs++mN k n))]),false⟩) (br 84 (bp (ai (kC cI) (ai (kC cI) (ai (kC (bN 0 0)) aK))) (az (bI 67 (aq (Qc true) bG)) aJ) fun (k,n,_,_) ((_,_),_)=>⟨[0<=n],[],some ([.box 67 ([.own 1]),.row 90 (.nm .field) ((mN k n))]),false⟩) zx))))
theorem sm:aN Tryz.prog (aj tyT) BY:=(av (au (ab (ao aw) (ab (ao bb) (ab (ao aI) ak))) (ag (aG (ae aD aF)) (ag aC al)) fun (k,b,_,_) ((_,_),xs,_) hp=>Hh k b xs (dC hp)) (av (au (ab (ao aw) (ab (ao bb) (ab (ao aI) ak))) (ag (aG (ae Bd aF)) al) fun (k,b,_,_) ((_,_),_) _=>HY k b ) (av (au (ab (ao aw) (ab (ao aw) (ab (ao aI) ak))) (ag (aG (ae aD aF)) (ag aC al)) fun (k,n,_,_) ((_,_),xs,_) hp=>Ge k n xs (dC hp) (dC (gE hp))) (av (au (ab (ao aw) (ab (ao aw) (ab (ao aI) ak))) (ag (aG (ae Bd aF)) al) fun (k,n,_,_) ((_,_),_) hp=>Gw k n (dC hp)) kz))))
end Go.Proofs.YtladifkbefehdaaGreat
namespace Go.Proofs.YtladifkbefehdaaGreat
open Go.RowKit
theorem za (c:Command) (v:Int) (r0:List Field):po tyT BY [] Tryz.f44 [.agg (cellsOf (.nm .command) c),.c (.int (v))] [] [.c (.own 0)] [.row 90 (.nm .field) (r0)]=((fun (q6:Int)=>(fun (q5:List (den (Sh.nm NT.field)))=>(fun (q4:Nat)=>(fun (q3:List Field)=>(fun (q2:List Field)=>(fun (q1:List (den (Sh.nm NT.field)))=>(fun (q0:List (den (Sh.nm NT.field)))=>I64 c.kind->I64 c.client->I64 c.seq->I64 c.set->I64 c.id->I64 c.n->c.chunks.length*(8:Nat)<=(140737488355328:Nat)->c.text.b.length<=(140737488355328:Nat)->I64 v->q6<=c.kind/\q6<=c.client/\(mN (1:Int) c.kind).length<=q4/\q6<=c.seq/\q5.length<=q4/\q6<=c.set/\q1.length<=q4/\q6<=c.id/\(q1++mN (4:Int) c.set).length<=q4/\q6<=c.n/\q0.length<=q4/\((dA c.chunks).length*(1:Nat)<=(140737488355328:Nat)->I64 (eh c.chunks)->(q0++q3).length<=q4/\((3:Int)<=v->(q0++q3++q2).length<=q4/\q0++q3++q2++xU (8:Int) c.text.b=r0)/\(v<(3:Int)->q0++q3++q2=r0))) (q1++mN (4:Int) c.set++mN (5:Int) c.id)) (q5++mN (3:Int) c.seq)) (xU (7:Int) (dA c.chunks))) (mN (6:Int) c.n)) (1000:Nat)) (mN (1:Int) c.kind++mN (2:Int) c.client)) (0:Int)):=by kernel_rfl
theorem zT (c:Command) (v:Int) (h0:0<=c.kind) (h1:0<=c.client) (h2:0<=c.seq) (h3:0<=c.set) (h4:0<=c.id) (h5:0<=c.n):Sat Tryz.prog (aj tyT) 44 [.agg (cellsOf (.nm .command) c),.c (.int (v))] [] ⟨[0<=c.kind,0<=c.client,0<=c.seq,0<=c.set,0<=c.id,0<=c.n],[.c (.own 0)],some ([.row 90 (.nm .field) ((c_ c v))]),true⟩:=by
 refine dQ sm [] Tryz.func44 (by decide) (by kernel_rfl) ?_
 rw [za]
 (repeat' (first | with_reducible refine And.intro ?_ ?_ | with_reducible refine and_imp.2 ?_ | intro))
 all_goals (first | (first | with_reducible rfl | with_reducible assumption | omega | (refine ah ?_ ?_ <;> omega)) | (rw [c_,if_pos (by omega)]; rfl) | (rw [c_,if_neg (by omega)]; rfl) | (have h1:=eD 1 c.kind; have h2:=eD 2 c.client; have h3:=eD 3 c.seq; have h4:=eD 4 c.set; have h5:=eD 5 c.id; have h6:=eD 6 c.n; have h7:=wk 7 (dA c.chunks); (try simp only [List.length_append]); omega))
def sL:cj:=(br 44 (bp (ai (kT (.nm .command)) (ai (kC cI) aK)) aJ fun (c,v,_) (_)=>⟨[0<=c.kind,0<=c.client,0<=c.seq,0<=c.set,0<=c.id,0<=c.n],[.c (.own 0)],some ([.row 90 (.nm .field) ((c_ c v))]),true⟩) BY)
theorem ky:aN Tryz.prog (aj tyT) sL:=(av (au (ab bn (ab (ao aw) ak)) al fun (c,v,_) (_) hp=>zT c v (dC hp) (dC (gE hp)) (dC (gE (gE hp))) (dC (gE (gE (gE hp)))) (dC (gE (gE (gE (gE hp))))) (dC (gE (gE (gE (gE (gE hp))))))) sm)
end Go.Proofs.YtladifkbefehdaaGreat
namespace Go.Proofs.YtladifkbefehdaaGreat
open Go.RowKit
theorem OA {b:List UInt8} (h:(aS b).e=0) (h2:(aA (b.drop (aS b).k)).2.2=0) (h3:¬ (aS b).wire=0) (h4:(aA (b.drop (aS b).k)).1<=16384) (h5:((b.length:Nat):Int) - (((aS b).k:Int)+((aA (b.drop (aS b).k)).2.1:Nat))<fN (aA (b.drop (aS b).k)).1):(0:Int)=((aZ b).1:Nat)/\2=(aZ b).2:=by
 rw [jT (by omega)] at h5
 rw [Qn h h2 h3 (by omega) (by omega)]; exact ⟨rfl,rfl⟩
theorem OX {b:List UInt8} (h:(aS b).e=0) (h2:(aA (b.drop (aS b).k)).2.2=0) (h3:¬ (aS b).wire=0) (h4:(aA (b.drop (aS b).k)).1<=16384) (h5:fN (aA (b.drop (aS b).k)).1<=((b.length:Nat):Int) - (((aS b).k:Int)+((aA (b.drop (aS b).k)).2.1:Nat))):((aS b).k:Int)+((aA (b.drop (aS b).k)).2.1:Nat)+fN (aA (b.drop (aS b).k)).1=((aZ b).1:Nat)/\0=(aZ b).2:=by
 rw [jT (by omega)] at h5 ⊢
 rw [QD h h2 h3 (by omega) (by omega)]; exact ⟨rfl,rfl⟩
def JO (l:List Field):List (Nat × LI):=[(6,{ σ:=Nat,F:=fun k=>([(5,one (.own 0)),(13,one (.fz (.nm .field) (l))),(14,one (.int (l).length)),(15,one (.int k))],[.row 5 .u8 ((((l.take k).map bX).flatten))]),J:=fun k=>k<=l.length,μ:=fun k=>l.length - k })]
def Kc (q:Int) (v:Int):List (Nat × LI):=[(3,{ σ:=Nat,F:=fun k=>([(5,one (.int (((aU v).take k).foldl (fun t s=>max t s.num) 0))),(10,one (.fz (.nm .spec) (aU v))),(11,one (.int (aU v).length)),(12,one (.int k))],[]),J:=fun k=>k<=(aU v).length,μ:=fun k=>(aU v).length - k })]
theorem GB (b:List UInt8) (r0:Int) (r1:Int):cF tyT sL [] Tryz.f93 [.c (.fz .u8 (b))] [] [.c (.int (r0)),.c (.int (r1))]=((fun (q5:Int)=>(fun (q4:Prop)=>(fun (q3:TagR)=>(fun (q2:Int)=>(fun (q1:Int)=>(fun (q0:Nat × Nat × Int)=>q4->I64 q3.num->I64 q3.wire->I64 q1->I64 q3.e->(¬q3.e=q2->q2=r0/\q3.e=r1)/\(q3.e=q2->q2<=q1/\q1<=q5/\q4/\(q0.fst<(18446744073709551616:Nat)->I64 q0.snd.snd->(¬q0.snd.snd=q2->q2=r0/\q0.snd.snd=r1)/\(q0.snd.snd=q2->(q3.wire=q2->q1+(↑q0.snd.fst:Int)=r0/\q2=r1)/\(¬q3.wire=q2->((↑(16384:Nat):Int)<(↑q0.fst:Int)->q2=r0/\(4:Int)=r1)/\((↑q0.fst:Int)<=(↑(16384:Nat):Int)->I64 (q5 - (q1+(↑q0.snd.fst:Int)))/\(q5 - (q1+(↑q0.snd.fst:Int))<fN q0.fst->q2=r0/\(2:Int)=r1)/\(fN q0.fst<=q5 - (q1+(↑q0.snd.fst:Int))->I64 (q1+(↑q0.snd.fst:Int)+fN q0.fst)/\q1+(↑q0.snd.fst:Int)+fN q0.fst=r0/\q2=r1))))))) (aA (List.drop q3.k b))) (↑q3.k:Int)) (0:Int)) (aS b)) (b.length*(1:Nat)<=(140737488355328:Nat))) (↑b.length:Int)):=by kernel_rfl
theorem GF (b:List UInt8):Sat Tryz.prog (aj tyT) 93 [.c (.fz .u8 (b))] [] ⟨[],[.c (.int ((((aZ b).1:Nat)))),.c (.int (((aZ b).2)))],none,false⟩:=by
 refine aM ky [] Tryz.func93 (by decide) (by kernel_rfl) ?_
 rw [GB]
 (repeat' (first | with_reducible refine And.intro ?_ ?_ | with_reducible refine and_imp.2 ?_ | intro))
 all_goals (first | (first | with_reducible rfl | with_reducible assumption | omega | (refine ah ?_ ?_ <;> omega)) | (rw [QH (by with_reducible assumption)] <;> rfl) | (rw [Sb (by with_reducible assumption) (by with_reducible assumption)] <;> rfl) | (rw [Rx (by with_reducible assumption) (by with_reducible assumption) (by with_reducible assumption)] <;> rfl) | (rw [RQ (by with_reducible assumption) (by with_reducible assumption) (by with_reducible assumption) (by omega)] <;> rfl) | exact (OA (by with_reducible assumption) (by with_reducible assumption) (by with_reducible assumption) (by omega) (by with_reducible assumption)).1 | exact (OA (by with_reducible assumption) (by with_reducible assumption) (by with_reducible assumption) (by omega) (by with_reducible assumption)).2 | exact (OX (by with_reducible assumption) (by with_reducible assumption) (by with_reducible assumption) (by omega) (by with_reducible assumption)).1 | exact (OX (by with_reducible assumption) (by with_reducible assumption) (by with_reducible assumption) (by omega) (by with_reducible assumption)).2 | (have h1:=m_ b; have h2:=kU b (aS b).k; first | omega | (refine ah ?_ ?_ <;> omega)) | (have h1:=m_ b; have h2:=kU b (aS b).k; have h3:=jT (m:=(aA (b.drop (aS b).k)).1) (by omega); first | omega | (refine ah ?_ ?_ <;> omega)))
theorem KA (l:List Field) (r0:Int) (r1:List UInt8):po tyT sL (JO l) Tryz.f43 [.c (.fz (.nm .field) (l))] [] [.c (.own 0),.c (.int (r0))] [.row 5 .u8 (r1)]=((fun (q0:Nat)=>l.length*(48:Nat)<=(140737488355328:Nat)->I64 (cm l)->(¬cm l=(0:Int)->cm l=r0/\r1=[])/\(cm l=(0:Int)->∃ (s0:Nat),(l=l/\(↑l.length:Int)=(↑q0:Int)/\(0:Int)=(↑s0:Int)/\(List.map bX (List.take s0 l)).flatten=[])/\s0<=q0/\∀ (s:Nat),(fun (q1:List UInt8)=>s<=q0->((↑s:Int)<(↑q0:Int)->(0:Int)<=(↑s:Int)/\(↑s:Int)<(↑l.length:Int)/\∀ (x:Field),l[s]? = some x->I64 x.num->I64 x.wire->x.n.n<(18446744073709551616:Nat)->x.b.length*(1:Nat)<=(140737488355328:Nat)->x.b.length<=(16384:Nat)/\(q1.length+(bX x).length)*(1:Nat)<=(140737488355328:Nat)/\I64 ((↑s:Int)+(1:Int))/\∃ (s':Nat),(l=l/\(↑q0:Int)=(↑q0:Int)/\(↑s:Int)+(1:Int)=(↑s':Int)/\q1++bX x=(List.map bX (List.take s' l)).flatten)/\s' <= q0/\q0 - s' < q0 - s)/\((↑q0:Int)<=(↑s:Int)->(0:Int)=r0/\q1=r1)) (List.map bX (List.take s l)).flatten)) l.length):=by kernel_rfl
theorem Lt (l:List Field):Sat Tryz.prog (aj tyT) 43 [.c (.fz (.nm .field) (l))] [] ⟨[],[.c (.own 0),.c (.int ((cm l)))],some ([.row 5 .u8 ((kW l))]),true⟩:=by
 refine dQ ky (JO l) Tryz.func43 (by decide) (by kernel_rfl) ?_
 rw [KA]
 (repeat' (first | with_reducible refine And.intro ?_ ?_ | with_reducible refine and_imp.2 ?_ | intro))
 all_goals try (first | (first | with_reducible rfl | with_reducible assumption | omega | (refine ah ?_ ?_ <;> omega)) | exact rfl | exact (vE (by with_reducible assumption)).symm | exact (Eq.symm (by with_reducible assumption)) | exact (lX (by with_reducible assumption)) | exact (gM (by with_reducible assumption) (List.mem_of_getElem? (by with_reducible assumption))) | exact (rF (by with_reducible assumption) (by omega)) | (have h1:=oo (k:=‹Nat›) (show cm l=0 by with_reducible assumption); have h2:=ec (f:=‹Field›) (gM (show cm l=0 by with_reducible assumption) (List.mem_of_getElem? (by with_reducible assumption))) (by with_reducible assumption); omega))
 all_goals try (refine ⟨0,?_⟩; (repeat' (first | with_reducible refine And.intro ?_ ?_ | with_reducible refine and_imp.2 ?_ | intro)))
 all_goals try (first | (first | with_reducible rfl | with_reducible assumption | omega | (refine ah ?_ ?_ <;> omega)) | exact rfl | exact (vE (by with_reducible assumption)).symm | exact (Eq.symm (by with_reducible assumption)) | exact (lX (by with_reducible assumption)) | exact (gM (by with_reducible assumption) (List.mem_of_getElem? (by with_reducible assumption))) | exact (rF (by with_reducible assumption) (by omega)) | (have h1:=oo (k:=‹Nat›) (show cm l=0 by with_reducible assumption); have h2:=ec (f:=‹Field›) (gM (show cm l=0 by with_reducible assumption) (List.mem_of_getElem? (by with_reducible assumption))) (by with_reducible assumption); omega))
 all_goals try (refine ⟨‹Nat› + 1,?_⟩; (repeat' (first | with_reducible refine And.intro ?_ ?_ | with_reducible refine and_imp.2 ?_ | intro)))
 all_goals (first | (first | with_reducible rfl | with_reducible assumption | omega | (refine ah ?_ ?_ <;> omega)) | exact rfl | exact (vE (by with_reducible assumption)).symm | exact (Eq.symm (by with_reducible assumption)) | exact (lX (by with_reducible assumption)) | exact (gM (by with_reducible assumption) (List.mem_of_getElem? (by with_reducible assumption))) | exact (rF (by with_reducible assumption) (by omega)) | (have h1:=oo (k:=‹Nat›) (show cm l=0 by with_reducible assumption); have h2:=ec (f:=‹Field›) (gM (show cm l=0 by with_reducible assumption) (List.mem_of_getElem? (by with_reducible assumption))) (by with_reducible assumption); omega))
theorem Mq (q:Int) (v:Int) (r0:Int):cF tyT sL (Kc q v) Tryz.f42 [.c (.int (q)),.c (.int (v))] [] [.c (.int (r0))]=((fun (q1:Int)=>(fun (q0:List Spec)=>I64 q->I64 v->q=(1:Int)/\(q0.length*(32:Nat)<=(140737488355328:Nat)->∃ (s0:Nat),(fun (q2:Nat)=>(q1=List.foldl (fun (t:Int) (s:Spec)=>max t s.num) q1 (List.take s0 q0)/\q0=q0/\(↑q0.length:Int)=(↑q2:Int)/\q1=(↑s0:Int))/\s0<=q2/\∀ (s:Nat),(fun (q3:Int)=>s<=q2->((↑s:Int)<(↑q2:Int)->q1<=(↑s:Int)/\(↑s:Int)<(↑q0.length:Int)/\∀ (x:Spec),q0[s]? = some x->I64 x.num->I64 x.wire->I64 x.since->I64 ((↑s:Int)+(1:Int))/\∃ (s':Nat),(max q3 x.num=List.foldl (fun (t:Int) (s:Spec)=>max t s.num) q1 (List.take s' q0)/\q0=q0/\(↑q2:Int)=(↑q2:Int)/\(↑s:Int)+(1:Int)=(↑s':Int))/\s' <= q2/\q2 - s' < q2 - s)/\((↑q2:Int)<=(↑s:Int)->q3=r0)) (List.foldl (fun (t:Int) (s:Spec)=>max t s.num) q1 (List.take s q0))) q0.length)) (aU v)) (0:Int)):=by kernel_rfl
theorem MG (q:Int) (v:Int) (h0:q=1):Sat Tryz.prog (aj tyT) 42 [.c (.int (q)),.c (.int (v))] [] ⟨[q=1],[.c (.int ((bW v)))],none,false⟩:=by
 refine aM ky (Kc q v) Tryz.func42 (by decide) (by kernel_rfl) ?_
 rw [Mq]
 (repeat' (first | with_reducible refine And.intro ?_ ?_ | with_reducible refine and_imp.2 ?_ | intro))
 all_goals try (first | (first | with_reducible rfl | with_reducible assumption | omega | (refine ah ?_ ?_ <;> omega)) | exact rfl | exact (oL (by with_reducible assumption)) | (rw [bW,List.take_of_length_le (by omega)]))
 all_goals try (refine ⟨0,?_⟩; (repeat' (first | with_reducible refine And.intro ?_ ?_ | with_reducible refine and_imp.2 ?_ | intro)))
 all_goals try (first | (first | with_reducible rfl | with_reducible assumption | omega | (refine ah ?_ ?_ <;> omega)) | exact rfl | exact (oL (by with_reducible assumption)) | (rw [bW,List.take_of_length_le (by omega)]))
 all_goals try (refine ⟨‹Nat› + 1,?_⟩; (repeat' (first | with_reducible refine And.intro ?_ ?_ | with_reducible refine and_imp.2 ?_ | intro)))
 all_goals (first | (first | with_reducible rfl | with_reducible assumption | omega | (refine ah ?_ ?_ <;> omega)) | exact rfl | exact (oL (by with_reducible assumption)) | (rw [bW,List.take_of_length_le (by omega)]))
def BB:cj:=(br 42 (bp (ai (kC cI) (ai (kC cI) aK)) aJ fun (q,v,_) (_)=>⟨[q=1],[.c (.int ((bW v)))],none,false⟩) (br 43 (bp (ai (kC (cL (.nm .field))) aK) aJ fun (l,_) (_)=>⟨[],[.c (.own 0),.c (.int ((cm l)))],some ([.row 5 .u8 ((kW l))]),true⟩) (br 93 (bp (ai (kC (cL .u8)) aK) aJ fun (b,_) (_)=>⟨[],[.c (.int ((((aZ b).1:Nat)))),.c (.int (((aZ b).2)))],none,false⟩) sL)))
theorem mY:aN Tryz.prog (aj tyT) BB:=(av (au (ab (ao aw) (ab (ao aw) ak)) al fun (q,v,_) (_) hp=>MG q v (dC hp)) (av (au (ab (ao bb) ak) al fun (l,_) (_) _=>Lt l ) (av (au (ab (ao bb) ak) al fun (b,_) (_) _=>GF b ) ky)))
end Go.Proofs.YtladifkbefehdaaGreat
namespace Go.Proofs.YtladifkbefehdaaGreat
open Go.RowKit
structure Wq (p:Prop):Prop where
 h:p
def dR (l:List Field):Int->Option Int:=fun q=>if fu l q=0 then none else some ((fu l q:Nat):Int)
def uB (rest:List Field) (v:Int) (k:Nat):Prop:=∀ j y,j<k->rest[j]? = some y->¬ y.num<=bW v
theorem Kx {xs:List Field} {f:Field} (h:(xs.length:Int)=0):true=eE xs f:=by
 unfold eE; rw [List.getElem?_eq_none (by omega)]
theorem Ml {xs:List Field} {f:Field} (h:¬ (xs.length:Int)=0):eF (xs.getD ((xs.length:Int) - 1).toNat (dflt (.nm .field))) f=eE xs f:=by
 unfold eE
 rw [show ((xs.length:Int) - 1).toNat=xs.length - 1 by omega,List.getD_eq_getElem?_getD,List.getElem?_eq_getElem (by omega)]; rfl
theorem fY (l:List Field) (q:Int):(dR l q).getD (dflt .int)=((fu l q:Nat):Int):=by
 unfold dR
 by_cases h:fu l q=0
 ·rw [if_pos h,h]; rfl
 ·rw [if_neg h]; rfl
theorem iI {l:List Field}:(fun _=>none)=dR (l.take 0):=rfl
theorem il {l:List Field} {k:Nat} (h:l.length<=k):dR (l.take k)=dR l:=by rw [List.take_of_length_le h]
theorem fH {l:List Field} {k:Nat} {x:Field} (hx:l[k]? = some x):(fun j=>if j=x.num then some ((dR (l.take k) x.num).getD (dflt .int)+1) else dR (l.take k) j)=dR (l.take (k+1)):=by
 funext j
 have h:=Cl hx j
 by_cases hj:j=x.num
 ·rw [if_pos hj] at h ⊢
  rw [fY]; unfold dR; rw [h,if_neg (by omega)]; rfl
 ·rw [if_neg hj] at h ⊢
  unfold dR; rw [h]
theorem jh {l:List Field} {k:Nat} {x:Field} (hx:l[k]? = some x):x=l.getD k (dflt (.nm .field)):=by rw [List.getD_eq_getElem?_getD,hx]; rfl
theorem GQ {l:List Field} {k:Nat} (h:k<l.length):l[k]? = some (l.getD k (dflt (.nm .field))):=by
 rw [List.getD_eq_getElem?_getD,List.getElem?_eq_getElem h]; rfl
theorem sQ {l:List Field} {ss:List Spec} {x:Field} {y:Spec} {m:Nat} (h:Wq (Dc ss x ((fu l x.num:Nat):Int) m)) (hy:ss[m]? = some y) (hn:¬ y.num=x.num\/HD x y ((dR l x.num).getD (dflt .int))=true):Wq (Dc ss x ((fu l x.num:Nat):Int) (m+1)):=
 ⟨Ci h.h hy fun e=>by rw [fY] at hn; exact hn.resolve_left (fun h=>h e)⟩
theorem tn {l:List Field} {ss:List Spec} {k m:Nat} (h:Wq (pc l ss k)) (hk:k<l.length) (hi:Wq (Dc ss (l.getD k (dflt (.nm .field))) ((fu (l.take (k+1)) (l.getD k (dflt (.nm .field))).num:Nat):Int) m)) (hm:(ss.length:Int)<=(m:Int)):Wq (pc l ss (k+1)):=
 ⟨CD h.h (GQ hk) hi.h (by omega) rfl⟩
theorem tW {l:List Field} {ss:List Spec} {k:Nat} (h:Wq (pc l ss k)) (hk:l.length<=k):Wq (pc l ss l.length):=⟨fun j x hj=>h.h j x (by omega)⟩
theorem sx {l:List Field} {v:Int} {m:Nat} {y:Spec} (hy:(aU v)[m]? = some y) (hn:y.need=true) (h0:(dR l y.num).getD (dflt .int)=0):¬ um l v:=Hr hy ⟨hn,by rw [fY] at h0; exact h0⟩ rfl
theorem uq {l:List Field} {ss:List Spec} {m:Nat} {y:Spec} (h:Wq (AK l ss m)) (hy:ss[m]? = some y) (hn:y.need=false\/¬ (dR l y.num).getD (dflt .int)=0):Wq (AK l ss (m+1)):=
 ⟨Bs h.h hy fun ha=>by
  rw [fY] at hn
  rcases hn with hn | hn
  ·rw [ha] at hn; cases hn
  ·omega⟩
theorem tg {l:List Field} {v:Int} {k:Nat} (hA:Wq (pc l (aU v) l.length)) (hB:Wq (AK l (aU v) k)) (hk:(aU v).length<=k):um l v:=Hk hA.h (Nat.le_refl _) hB.h hk
theorem CO {rest:List Field} {v:Int}:uB rest v 0:=fun j y h=>by omega
theorem Cy {rest:List Field} {v:Int} {k:Nat} {x:Field} (h:Wq (uB rest v k)) (hx:rest[k]? = some x) (hn:¬ x.num<=bW v):Wq (uB rest v (k+1)):=⟨zl h.h hx hn⟩
theorem NY {c:Command} {rest:List Field} {v:Int} (h:bU v=false):cP c rest v=1:=Rv (by show (!(bU v))=true; rw [h]; rfl)
theorem NO {c:Command} {rest:List Field} {v:Int} (h:bU v=true) (h1:eI c v=false) (h2:¬ cc c v=0):cP c rest v=cc c v:=Sc (by show (!(bU v))=false; rw [h]; rfl) h1 h2
theorem NX {c:Command} {rest:List Field} {v:Int} {k:Nat} {x:Field} (h:bU v=true) (h1:eI c v=true\/cc c v=0) (hx:rest[k]? = some x) (hn:x.num<=bW v):cP c rest v=6:=Ro (by show (!(bU v))=false; rw [h]; rfl) h1 hx hn
theorem NP {c:Command} {rest:List Field} {v:Int} {k:Nat} (h:bU v=true) (h1:eI c v=true\/cc c v=0) (ht:Wq (uB rest v k)) (hk:rest.length<=k):cP c rest v=0:=RF (by show (!(bU v))=false; rw [h]; rfl) h1 ht.h hk
def xq (q:Int) (v:Int) (l:List Field):List (Nat × LI):=[(9,{ σ:=Nat,F:=fun k=>([(7,one (.fz (.nm .spec) (aU v))),(9,one (.mq 0)),(28,one (.fz (.nm .field) (l))),(29,one (.int (l).length)),(30,one (.int k))],[.mapo .int (dR (l.take k))]),J:=fun k=>k<=l.length/\Wq (pc l (aU v) k),μ:=fun k=>(l).length - k }),(13,{ σ:=Nat × Nat,F:=fun q=>([(7,one (.fz (.nm .spec) (aU v))),(9,one (.mq 0)),(11,one (.ptr 1 0)),(28,one (.fz (.nm .field) (l))),(29,one (.int (l).length)),(30,one (.int q.1)),(39,one (.fz (.nm .spec) (aU v))),(40,one (.int (aU v).length)),(41,one (.int q.2))],[.mapo .int (dR (l.take (q.1+1))),.box 90 (cellsOf (.nm .field) (((l.getD q.1 (dflt (.nm .field))))))]),J:=fun q=>q.1<l.length/\q.2<=(aU v).length/\Wq (pc l (aU v) q.1)/\Wq (Dc (aU v) (l.getD q.1 (dflt (.nm .field))) ((fu (l.take (q.1+1)) (l.getD q.1 (dflt (.nm .field))).num:Nat):Int) q.2),μ:=fun q=>(aU v).length - q.2,R:=some fun q0 q=>q.1=q0.1 }),(20,{ σ:=Nat,F:=fun k=>([(9,one (.mq 0)),(62,one (.fz (.nm .spec) (aU v))),(63,one (.int (aU v).length)),(64,one (.int k))],[.mapo .int (dR l)]),J:=fun k=>k<=(aU v).length/\Wq (pc l (aU v) l.length)/\Wq (AK l (aU v) k),μ:=fun k=>(aU v).length - k })]
def JK (c:Command) (rest:List Field) (v:Int):List (Nat × LI):=[(9,{ σ:=Nat,F:=fun k=>([(1,one (.fz (.nm .field) (rest))),(2,one (.int (v))),(3,one (.ptr 0 0)),(9,one (.int (bW v))),(27,one (.fz (.nm .field) (rest))),(28,one (.int (rest).length)),(29,one (.int k))],[.box 24 (cellsOf (.nm .command) ((c)))]),J:=fun k=>k<=rest.length/\Wq (uB rest v k),μ:=fun k=>rest.length - k })]
theorem ID (f:Field) (xs:List Field) (r0:Bool):cF tyT BB [] Tryz.f91 [.agg (cellsOf (.nm .field) f),.c (.ptr 0 0)] [.box 67 ([.own 1]),.row 90 (.nm .field) (xs)] [.c (.bool (.atom (r0)))]=((fun (q2:Int)=>(fun (q1:Int)=>(fun (q0:den (Sh.nm NT.field))=>I64 f.num->I64 f.wire->f.n.n<(18446744073709551616:Nat)->f.b.length*(1:Nat)<=(140737488355328:Nat)->(q2=(0:Int)->true=r0)/\(¬q2=(0:Int)->I64 q1/\((0:Int)<=q1/\q1<q2)/\(I64 q0.num->I64 q0.wire->q0.n.n<(18446744073709551616:Nat)->q0.b.length*(1:Nat)<=(140737488355328:Nat)->eF q0 f=r0))) (xs.getD q1.toNat (dflt (Sh.nm NT.field)))) (q2 - (1:Int))) (↑xs.length:Int)):=by kernel_rfl
theorem GG (f:Field) (xs:List Field) (h0:xs.length<=20000):Sat Tryz.prog (aj tyT) 91 [.agg (cellsOf (.nm .field) f),.c (.ptr 0 0)] [.box 67 ([.own 1]),.row 90 (.nm .field) (xs)] ⟨[xs.length<=20000],[.c (.bool (.atom ((eE xs f))))],none,false⟩:=by
 refine aM mY [] Tryz.func91 (by decide) (by kernel_rfl) ?_
 rw [ID]
 (repeat' (first | with_reducible refine And.intro ?_ ?_ | with_reducible refine and_imp.2 ?_ | intro))
 all_goals (first | (first | with_reducible rfl | with_reducible assumption | omega | (refine ah ?_ ?_ <;> omega)) | exact (Kx (by with_reducible assumption)) | exact (Ml (by with_reducible assumption)))
theorem Er (q:Int) (v:Int) (l:List Field) (r0:Int):cF tyT BB (xq q v l) Tryz.f52 [.c (.int (q)),.c (.int (v)),.c (.fz (.nm .field) (l))] [] [.c (.int (r0))]=((fun (q5:Nat)=>(fun (q4:Int)=>(fun (q3:Int)=>(fun (q2:Nat)=>(fun (q1:den (Sh.nm NT.field))=>(fun (q0:List Spec)=>I64 q->I64 v->l.length*(48:Nat)<=(140737488355328:Nat)->q=q4/\(q0.length*(32:Nat)<=(140737488355328:Nat)->((↑q0.length:Int)=q3->q4=r0)/\(¬(↑q0.length:Int)=q3->I64 (cm l)->(¬cm l=q3->cm l=r0)/\(cm l=q3->∃ (s0:Nat),(fun (q9:Int)=>(fun (q8:Int)=>(fun (q7:Prop)=>(fun (q6:Nat)=>(q7/\l=l/\(↑l.length:Int)=q8/\q3=(↑s0:Int)/\(fun (_:Int)=>none)=dR (List.take s0 l))/\(s0<=q2/\Wq (pc l q0 s0))/\∀ (s:Nat),(fun (q10:Int)=>s<=q2/\Wq (pc l q0 s)->((↑s:Int)<q8->q3<=(↑s:Int)/\(↑s:Int)<(↑l.length:Int)/\∀ (x:Field),(fun (q11:Int)=>l[s]? = some x->I64 x.num->I64 x.wire->x.n.n<(18446744073709551616:Nat)->x.b.length*q5<=(140737488355328:Nat)->I64 q11/\∃ (s0:Nat × Nat),(fun (q13:Nat)=>(fun (q12:Field)=>(q7/\l=l/\q8=q8/\(↑s:Int)=(↑q13:Int)/\q7/\q9=q10/\q3=(↑s0.snd:Int)/\(fun (j:Int)=>if j=x.num then some q11 else dR (List.take s l) j)=dR (List.take (q13+q5) l)/\x.num=q12.num/\x.wire=q12.wire/\x.n.n=q12.n.n/\x.b=q12.b)/\(q13<q2/\s0.snd<=q6/\Wq (pc l q0 q13)/\Wq (Dc q0 q12 (↑(fu (List.take (q13+q5) l) q12.num):Int) s0.snd))/\q13=q13/\∀ (s_1:Nat × Nat),(fun (q16:Int)=>(fun (q15:List Field)=>(fun (q14:Field)=>s_1.fst<q2/\s_1.snd<=q6/\Wq (pc l q0 s_1.fst)/\Wq (Dc q0 q14 (↑(fu q15 q14.num):Int) s_1.snd)->s_1.fst=q13->(q16<q10->q3<=q16/\q16<q9/\∀ (x:Spec),(fun (q17:Bool)=>q0[s_1.snd]? = some x->I64 x.num->I64 x.wire->I64 x.since->(x.num=q14.num/\q17=false->(6:Int)=r0)/\(¬x.num=q14.num\/q17=true->I64 (q16+q4)/\∃ (s':Nat × Nat),(fun (q18:Field)=>(q7/\l=l/\q8=q8/\(↑s_1.fst:Int)=(↑s'.fst:Int)/\q7/\q10=q10/\q16+q4=(↑s'.snd:Int)/\dR q15=dR (List.take (s'.fst+q5) l)/\q14.num=q18.num/\q14.wire=q18.wire/\q14.n.n=q18.n.n/\q14.b=q18.b)/\(s'.fst<q2/\s'.snd<=q6/\Wq (pc l q0 s'.fst)/\Wq (Dc q0 q18 (↑(fu (List.take (s'.fst+q5) l) q18.num):Int) s'.snd))/\s'.fst=q13/\q6 - s'.snd<q6 - s_1.snd) (l.getD s'.fst q1))) (HD q14 x ((dR q15 q14.num).getD (dflt Sh.int))))/\(q10<=q16->I64 ((↑s_1.fst:Int)+q4)/\∃ (s':Nat),(q7/\l=l/\q8=q8/\(↑s_1.fst:Int)+q4=(↑s':Int)/\dR q15=dR (List.take s' l))/\(s' <= q2/\Wq (pc l q0 s'))/\q2 - s' < q2 - s)) (l.getD s_1.fst q1)) (List.take (s_1.fst+q5) l)) (↑s_1.snd:Int)) (l.getD q13 q1)) s0.fst) ((dR (List.take s l) x.num).getD (dflt Sh.int)+q4))/\(q8<=(↑s:Int)->∃ (s0:Nat),(q7/\q9=q10/\q3=(↑s0:Int)/\dR (List.take s l)=dR l)/\(s0<=q6/\Wq (pc l q0 q2)/\Wq (AK l q0 s0))/\∀ (s:Nat),s<=q6/\Wq (pc l q0 q2)/\Wq (AK l q0 s)->((↑s:Int)<q10->q3<=(↑s:Int)/\(↑s:Int)<q9/\∀ (x:Spec),(fun (q19:Prop)=>q0[s]? = some x->I64 x.num->I64 x.wire->I64 x.since->(x.need=true/\q19->(6:Int)=r0)/\(x.need=false\/¬q19->I64 ((↑s:Int)+q4)/\∃ (s':Nat),(q7/\q10=q10/\(↑s:Int)+q4=(↑s':Int)/\dR l=dR l)/\(s' <= q6/\Wq (pc l q0 q2)/\Wq (AK l q0 s'))/\q6 - s' < q6 - s)) ((dR l x.num).getD (dflt Sh.int)=q3))/\(q10<=(↑s:Int)->q3=r0))) (↑q6:Int)) q0.length) (q0=q0)) (↑q2:Int)) (↑q0.length:Int))))) (aU v)) (dflt (Sh.nm NT.field))) l.length) (0:Int)) (1:Int)) (1:Nat)):=by kernel_rfl
theorem De (q:Int) (v:Int) (l:List Field) (h0:q=1):Sat Tryz.prog (aj tyT) 52 [.c (.int (q)),.c (.int (v)),.c (.fz (.nm .field) (l))] [] ⟨[q=1],[.c (.int ((fv l v)))],none,false⟩:=by
 refine aM mY (xq q v l) Tryz.func52 (by decide) (by kernel_rfl) ?_
 rw [Er]
 (repeat' (first | with_reducible refine And.intro ?_ ?_ | with_reducible refine and_imp.2 ?_ | intro))
 all_goals try (first | (first | with_reducible rfl | with_reducible assumption | omega | (refine ah ?_ ?_ <;> omega)) | exact rfl | exact (sY (by omega)) | exact (uS (by omega) (by with_reducible assumption)) | exact iI | exact ⟨mh⟩ | exact ⟨mm⟩ | exact ⟨mc⟩ | exact (fH (by with_reducible assumption)) | exact (congrArg Field.num (jh (by with_reducible assumption))) | exact (congrArg Field.wire (jh (by with_reducible assumption))) | exact (congrArg (fun f=>f.n.n) (jh (by with_reducible assumption))) | exact (congrArg Field.b (jh (by with_reducible assumption))) | exact (jb (by omega) (by with_reducible assumption) (fy (GQ (by with_reducible assumption)) (by with_reducible assumption) (And.intro (by with_reducible assumption) (by with_reducible assumption)) (fY _ _))) | exact (sQ (by with_reducible assumption) (by with_reducible assumption) (by assumption)) | exact (tn (by with_reducible assumption) (by with_reducible assumption) (by with_reducible assumption) (by with_reducible assumption)) | exact (tW (by with_reducible assumption) (by omega)) | exact (il (by omega)) | exact (jb (by omega) (by with_reducible assumption) (sx (by with_reducible assumption) (by with_reducible assumption) (by with_reducible assumption))) | exact (uq (by with_reducible assumption) (by with_reducible assumption) (by assumption)) | exact (td (by omega) (by with_reducible assumption) (tg (by with_reducible assumption) (by with_reducible assumption) (by omega))) | (have h1:=fC (l:=l) (k:=‹Nat›) ‹Field›.num; have h2:=fY (l.take ‹Nat›) ‹Field›.num; refine ah ?_ ?_ <;> omega))
 all_goals try (refine ⟨0,?_⟩; (repeat' (first | with_reducible refine And.intro ?_ ?_ | with_reducible refine and_imp.2 ?_ | intro)))
 all_goals try (first | (first | with_reducible rfl | with_reducible assumption | omega | (refine ah ?_ ?_ <;> omega)) | exact rfl | exact (sY (by omega)) | exact (uS (by omega) (by with_reducible assumption)) | exact iI | exact ⟨mh⟩ | exact ⟨mm⟩ | exact ⟨mc⟩ | exact (fH (by with_reducible assumption)) | exact (congrArg Field.num (jh (by with_reducible assumption))) | exact (congrArg Field.wire (jh (by with_reducible assumption))) | exact (congrArg (fun f=>f.n.n) (jh (by with_reducible assumption))) | exact (congrArg Field.b (jh (by with_reducible assumption))) | exact (jb (by omega) (by with_reducible assumption) (fy (GQ (by with_reducible assumption)) (by with_reducible assumption) (And.intro (by with_reducible assumption) (by with_reducible assumption)) (fY _ _))) | exact (sQ (by with_reducible assumption) (by with_reducible assumption) (by assumption)) | exact (tn (by with_reducible assumption) (by with_reducible assumption) (by with_reducible assumption) (by with_reducible assumption)) | exact (tW (by with_reducible assumption) (by omega)) | exact (il (by omega)) | exact (jb (by omega) (by with_reducible assumption) (sx (by with_reducible assumption) (by with_reducible assumption) (by with_reducible assumption))) | exact (uq (by with_reducible assumption) (by with_reducible assumption) (by assumption)) | exact (td (by omega) (by with_reducible assumption) (tg (by with_reducible assumption) (by with_reducible assumption) (by omega))) | (have h1:=fC (l:=l) (k:=‹Nat›) ‹Field›.num; have h2:=fY (l.take ‹Nat›) ‹Field›.num; refine ah ?_ ?_ <;> omega))
 all_goals try (refine ⟨(‹Nat›,0),?_⟩; (repeat' (first | with_reducible refine And.intro ?_ ?_ | with_reducible refine and_imp.2 ?_ | intro)))
 all_goals try (first | (first | with_reducible rfl | with_reducible assumption | omega | (refine ah ?_ ?_ <;> omega)) | exact rfl | exact (sY (by omega)) | exact (uS (by omega) (by with_reducible assumption)) | exact iI | exact ⟨mh⟩ | exact ⟨mm⟩ | exact ⟨mc⟩ | exact (fH (by with_reducible assumption)) | exact (congrArg Field.num (jh (by with_reducible assumption))) | exact (congrArg Field.wire (jh (by with_reducible assumption))) | exact (congrArg (fun f=>f.n.n) (jh (by with_reducible assumption))) | exact (congrArg Field.b (jh (by with_reducible assumption))) | exact (jb (by omega) (by with_reducible assumption) (fy (GQ (by with_reducible assumption)) (by with_reducible assumption) (And.intro (by with_reducible assumption) (by with_reducible assumption)) (fY _ _))) | exact (sQ (by with_reducible assumption) (by with_reducible assumption) (by assumption)) | exact (tn (by with_reducible assumption) (by with_reducible assumption) (by with_reducible assumption) (by with_reducible assumption)) | exact (tW (by with_reducible assumption) (by omega)) | exact (il (by omega)) | exact (jb (by omega) (by with_reducible assumption) (sx (by with_reducible assumption) (by with_reducible assumption) (by with_reducible assumption))) | exact (uq (by with_reducible assumption) (by with_reducible assumption) (by assumption)) | exact (td (by omega) (by with_reducible assumption) (tg (by with_reducible assumption) (by with_reducible assumption) (by omega))) | (have h1:=fC (l:=l) (k:=‹Nat›) ‹Field›.num; have h2:=fY (l.take ‹Nat›) ‹Field›.num; refine ah ?_ ?_ <;> omega))
 all_goals try (refine ⟨(‹Nat × Nat›.1,‹Nat × Nat›.2+1),?_⟩; (repeat' (first | with_reducible refine And.intro ?_ ?_ | with_reducible refine and_imp.2 ?_ | intro)))
 all_goals try (first | (first | with_reducible rfl | with_reducible assumption | omega | (refine ah ?_ ?_ <;> omega)) | exact rfl | exact (sY (by omega)) | exact (uS (by omega) (by with_reducible assumption)) | exact iI | exact ⟨mh⟩ | exact ⟨mm⟩ | exact ⟨mc⟩ | exact (fH (by with_reducible assumption)) | exact (congrArg Field.num (jh (by with_reducible assumption))) | exact (congrArg Field.wire (jh (by with_reducible assumption))) | exact (congrArg (fun f=>f.n.n) (jh (by with_reducible assumption))) | exact (congrArg Field.b (jh (by with_reducible assumption))) | exact (jb (by omega) (by with_reducible assumption) (fy (GQ (by with_reducible assumption)) (by with_reducible assumption) (And.intro (by with_reducible assumption) (by with_reducible assumption)) (fY _ _))) | exact (sQ (by with_reducible assumption) (by with_reducible assumption) (by assumption)) | exact (tn (by with_reducible assumption) (by with_reducible assumption) (by with_reducible assumption) (by with_reducible assumption)) | exact (tW (by with_reducible assumption) (by omega)) | exact (il (by omega)) | exact (jb (by omega) (by with_reducible assumption) (sx (by with_reducible assumption) (by with_reducible assumption) (by with_reducible assumption))) | exact (uq (by with_reducible assumption) (by with_reducible assumption) (by assumption)) | exact (td (by omega) (by with_reducible assumption) (tg (by with_reducible assumption) (by with_reducible assumption) (by omega))) | (have h1:=fC (l:=l) (k:=‹Nat›) ‹Field›.num; have h2:=fY (l.take ‹Nat›) ‹Field›.num; refine ah ?_ ?_ <;> omega))
 all_goals try (refine ⟨‹Nat × Nat›.1+1,?_⟩; (repeat' (first | with_reducible refine And.intro ?_ ?_ | with_reducible refine and_imp.2 ?_ | intro)))
 all_goals try (first | (first | with_reducible rfl | with_reducible assumption | omega | (refine ah ?_ ?_ <;> omega)) | exact rfl | exact (sY (by omega)) | exact (uS (by omega) (by with_reducible assumption)) | exact iI | exact ⟨mh⟩ | exact ⟨mm⟩ | exact ⟨mc⟩ | exact (fH (by with_reducible assumption)) | exact (congrArg Field.num (jh (by with_reducible assumption))) | exact (congrArg Field.wire (jh (by with_reducible assumption))) | exact (congrArg (fun f=>f.n.n) (jh (by with_reducible assumption))) | exact (congrArg Field.b (jh (by with_reducible assumption))) | exact (jb (by omega) (by with_reducible assumption) (fy (GQ (by with_reducible assumption)) (by with_reducible assumption) (And.intro (by with_reducible assumption) (by with_reducible assumption)) (fY _ _))) | exact (sQ (by with_reducible assumption) (by with_reducible assumption) (by assumption)) | exact (tn (by with_reducible assumption) (by with_reducible assumption) (by with_reducible assumption) (by with_reducible assumption)) | exact (tW (by with_reducible assumption) (by omega)) | exact (il (by omega)) | exact (jb (by omega) (by with_reducible assumption) (sx (by with_reducible assumption) (by with_reducible assumption) (by with_reducible assumption))) | exact (uq (by with_reducible assumption) (by with_reducible assumption) (by assumption)) | exact (td (by omega) (by with_reducible assumption) (tg (by with_reducible assumption) (by with_reducible assumption) (by omega))) | (have h1:=fC (l:=l) (k:=‹Nat›) ‹Field›.num; have h2:=fY (l.take ‹Nat›) ‹Field›.num; refine ah ?_ ?_ <;> omega))
 all_goals try (refine ⟨0,?_⟩; (repeat' (first | with_reducible refine And.intro ?_ ?_ | with_reducible refine and_imp.2 ?_ | intro)))
 all_goals try (first | (first | with_reducible rfl | with_reducible assumption | omega | (refine ah ?_ ?_ <;> omega)) | exact rfl | exact (sY (by omega)) | exact (uS (by omega) (by with_reducible assumption)) | exact iI | exact ⟨mh⟩ | exact ⟨mm⟩ | exact ⟨mc⟩ | exact (fH (by with_reducible assumption)) | exact (congrArg Field.num (jh (by with_reducible assumption))) | exact (congrArg Field.wire (jh (by with_reducible assumption))) | exact (congrArg (fun f=>f.n.n) (jh (by with_reducible assumption))) | exact (congrArg Field.b (jh (by with_reducible assumption))) | exact (jb (by omega) (by with_reducible assumption) (fy (GQ (by with_reducible assumption)) (by with_reducible assumption) (And.intro (by with_reducible assumption) (by with_reducible assumption)) (fY _ _))) | exact (sQ (by with_reducible assumption) (by with_reducible assumption) (by assumption)) | exact (tn (by with_reducible assumption) (by with_reducible assumption) (by with_reducible assumption) (by with_reducible assumption)) | exact (tW (by with_reducible assumption) (by omega)) | exact (il (by omega)) | exact (jb (by omega) (by with_reducible assumption) (sx (by with_reducible assumption) (by with_reducible assumption) (by with_reducible assumption))) | exact (uq (by with_reducible assumption) (by with_reducible assumption) (by assumption)) | exact (td (by omega) (by with_reducible assumption) (tg (by with_reducible assumption) (by with_reducible assumption) (by omega))) | (have h1:=fC (l:=l) (k:=‹Nat›) ‹Field›.num; have h2:=fY (l.take ‹Nat›) ‹Field›.num; refine ah ?_ ?_ <;> omega))
 all_goals try (refine ⟨‹Nat› + 1,?_⟩; (repeat' (first | with_reducible refine And.intro ?_ ?_ | with_reducible refine and_imp.2 ?_ | intro)))
 all_goals try (first | (first | with_reducible rfl | with_reducible assumption | omega | (refine ah ?_ ?_ <;> omega)) | exact rfl | exact (sY (by omega)) | exact (uS (by omega) (by with_reducible assumption)) | exact iI | exact ⟨mh⟩ | exact ⟨mm⟩ | exact ⟨mc⟩ | exact (fH (by with_reducible assumption)) | exact (congrArg Field.num (jh (by with_reducible assumption))) | exact (congrArg Field.wire (jh (by with_reducible assumption))) | exact (congrArg (fun f=>f.n.n) (jh (by with_reducible assumption))) | exact (congrArg Field.b (jh (by with_reducible assumption))) | exact (jb (by omega) (by with_reducible assumption) (fy (GQ (by with_reducible assumption)) (by with_reducible assumption) (And.intro (by with_reducible assumption) (by with_reducible assumption)) (fY _ _))) | exact (sQ (by with_reducible assumption) (by with_reducible assumption) (by assumption)) | exact (tn (by with_reducible assumption) (by with_reducible assumption) (by with_reducible assumption) (by with_reducible assumption)) | exact (tW (by with_reducible assumption) (by omega)) | exact (il (by omega)) | exact (jb (by omega) (by with_reducible assumption) (sx (by with_reducible assumption) (by with_reducible assumption) (by with_reducible assumption))) | exact (uq (by with_reducible assumption) (by with_reducible assumption) (by assumption)) | exact (td (by omega) (by with_reducible assumption) (tg (by with_reducible assumption) (by with_reducible assumption) (by omega))) | (have h1:=fC (l:=l) (k:=‹Nat›) ‹Field›.num; have h2:=fY (l.take ‹Nat›) ‹Field›.num; refine ah ?_ ?_ <;> omega))
 all_goals (first | (first | with_reducible rfl | with_reducible assumption | omega | (refine ah ?_ ?_ <;> omega)) | exact rfl | exact (sY (by omega)) | exact (uS (by omega) (by with_reducible assumption)) | exact iI | exact ⟨mh⟩ | exact ⟨mm⟩ | exact ⟨mc⟩ | exact (fH (by with_reducible assumption)) | exact (congrArg Field.num (jh (by with_reducible assumption))) | exact (congrArg Field.wire (jh (by with_reducible assumption))) | exact (congrArg (fun f=>f.n.n) (jh (by with_reducible assumption))) | exact (congrArg Field.b (jh (by with_reducible assumption))) | exact (jb (by omega) (by with_reducible assumption) (fy (GQ (by with_reducible assumption)) (by with_reducible assumption) (And.intro (by with_reducible assumption) (by with_reducible assumption)) (fY _ _))) | exact (sQ (by with_reducible assumption) (by with_reducible assumption) (by assumption)) | exact (tn (by with_reducible assumption) (by with_reducible assumption) (by with_reducible assumption) (by with_reducible assumption)) | exact (tW (by with_reducible assumption) (by omega)) | exact (il (by omega)) | exact (jb (by omega) (by with_reducible assumption) (sx (by with_reducible assumption) (by with_reducible assumption) (by with_reducible assumption))) | exact (uq (by with_reducible assumption) (by with_reducible assumption) (by assumption)) | exact (td (by omega) (by with_reducible assumption) (tg (by with_reducible assumption) (by with_reducible assumption) (by omega))) | (have h1:=fC (l:=l) (k:=‹Nat›) ‹Field›.num; have h2:=fY (l.take ‹Nat›) ‹Field›.num; refine ah ?_ ?_ <;> omega))
theorem Nr (c:Command) (rest:List Field) (v:Int) (r0:Int) (r1:List UInt8):po tyT BB (JK c rest v) Tryz.f25 [.agg (cellsOf (.nm .command) c),.c (.fz (.nm .field) (rest)),.c (.int (v))] [] [.c (.own 0),.c (.int (r0))] [.row 5 .u8 (r1)]=((fun (q3:Int)=>(fun (q2:Nat)=>(fun (q1:Prop)=>(fun (q0:Prop)=>I64 c.kind->I64 c.client->I64 c.seq->I64 c.set->I64 c.id->I64 c.n->c.chunks.length*(8:Nat)<=(140737488355328:Nat)->c.text.b.length<=(140737488355328:Nat)->rest.length*(48:Nat)<=(140737488355328:Nat)->I64 v->(bU v=false->(1:Int)=r0/\r1=[])/\(bU v=true->(eI c v=false->I64 (cc c v)->(¬cc c v=q3->cc c v=r0/\r1=[])/\(cc c v=q3->q0))/\(eI c v=true->q0))) ((1:Int)=(1:Int)/\(I64 (bW v)->∃ (s0:Nat),(rest=rest/\v=v/\bW v=bW v/\rest=rest/\(↑rest.length:Int)=(↑q2:Int)/\q3=(↑s0:Int)/\q1)/\(s0<=q2/\Wq (uB rest v s0))/\∀ (s:Nat),s<=q2/\Wq (uB rest v s)->((↑s:Int)<(↑q2:Int)->q3<=(↑s:Int)/\(↑s:Int)<(↑rest.length:Int)/\∀ (x:Field),rest[s]? = some x->I64 x.num->I64 x.wire->x.n.n<(18446744073709551616:Nat)->x.b.length*(1:Nat)<=(140737488355328:Nat)->(x.num<=bW v->(6:Int)=r0/\r1=[])/\(bW v<x.num->I64 ((↑s:Int)+(1:Int))/\∃ (s':Nat),(rest=rest/\v=v/\bW v=bW v/\rest=rest/\(↑q2:Int)=(↑q2:Int)/\(↑s:Int)+(1:Int)=(↑s':Int)/\q1)/\(s' <= q2/\Wq (uB rest v s'))/\q2 - s' < q2 - s))/\((↑q2:Int)<=(↑s:Int)->q3<=c.kind/\q3<=c.client/\q3<=c.seq/\q3<=c.set/\q3<=c.id/\q3<=c.n/\((c_ c v).length+rest.length)*(48:Nat)<=(140737488355328:Nat)/\(I64 (cm (c_ c v++rest))->cm (c_ c v++rest)=r0/\kW (c_ c v++rest)=r1))))) (c.kind=c.kind/\c.client=c.client/\c.seq=c.seq/\c.set=c.set/\c.id=c.id/\c.n=c.n/\c.chunks=c.chunks/\c.text=c.text)) rest.length) (0:Int)):=by kernel_rfl
theorem LO (c:Command) (rest:List Field) (v:Int) (h0:rest.length<=20000):Sat Tryz.prog (aj tyT) 25 [.agg (cellsOf (.nm .command) c),.c (.fz (.nm .field) (rest)),.c (.int (v))] [] ⟨[rest.length<=20000],[.c (.own 0),.c (.int ((fF c rest v)))],some ([.row 5 .u8 ((fT c rest v))]),true⟩:=by
 refine dQ mY (JK c rest v) Tryz.func25 (by decide) (by kernel_rfl) ?_
 rw [Nr]
 (repeat' (first | with_reducible refine And.intro ?_ ?_ | with_reducible refine and_imp.2 ?_ | intro))
 all_goals try (first | (first | with_reducible rfl | with_reducible assumption | omega | (refine ah ?_ ?_ <;> omega)) | exact rfl | exact ⟨CO⟩ | exact (Cy (by with_reducible assumption) (by with_reducible assumption) (by omega)) | exact (gJ (NY (by with_reducible assumption)) (by decide)) | exact (gD (NY (by with_reducible assumption)) (by decide)).symm | exact (gJ (NO (by with_reducible assumption) (by with_reducible assumption) (by with_reducible assumption)) (by with_reducible assumption)) | exact (gD (NO (by with_reducible assumption) (by with_reducible assumption) (by with_reducible assumption)) (by with_reducible assumption)).symm | exact (gJ (NX (by with_reducible assumption) (by first | exact .inl (by with_reducible assumption) | exact .inr (by with_reducible assumption)) (by with_reducible assumption) (by with_reducible assumption)) (by decide)) | exact (gD (NX (by with_reducible assumption) (by first | exact .inl (by with_reducible assumption) | exact .inr (by with_reducible assumption)) (by with_reducible assumption) (by with_reducible assumption)) (by decide)).symm | exact (FN (NP (by with_reducible assumption) (by first | exact .inl (by with_reducible assumption) | exact .inr (by with_reducible assumption)) (by with_reducible assumption) (by omega))) | exact (AM (NP (by with_reducible assumption) (by first | exact .inl (by with_reducible assumption) | exact .inr (by with_reducible assumption)) (by with_reducible assumption) (by omega))) | (have h:0<=c.kind/\0<=c.client/\0<=c.seq/\0<=c.set/\0<=c.id/\0<=c.n:=(by first | exact vq (by with_reducible assumption) | exact vl (by with_reducible assumption)); omega) | (have h:=jm c v; omega))
 all_goals try (refine ⟨0,?_⟩; (repeat' (first | with_reducible refine And.intro ?_ ?_ | with_reducible refine and_imp.2 ?_ | intro)))
 all_goals try (first | (first | with_reducible rfl | with_reducible assumption | omega | (refine ah ?_ ?_ <;> omega)) | exact rfl | exact ⟨CO⟩ | exact (Cy (by with_reducible assumption) (by with_reducible assumption) (by omega)) | exact (gJ (NY (by with_reducible assumption)) (by decide)) | exact (gD (NY (by with_reducible assumption)) (by decide)).symm | exact (gJ (NO (by with_reducible assumption) (by with_reducible assumption) (by with_reducible assumption)) (by with_reducible assumption)) | exact (gD (NO (by with_reducible assumption) (by with_reducible assumption) (by with_reducible assumption)) (by with_reducible assumption)).symm | exact (gJ (NX (by with_reducible assumption) (by first | exact .inl (by with_reducible assumption) | exact .inr (by with_reducible assumption)) (by with_reducible assumption) (by with_reducible assumption)) (by decide)) | exact (gD (NX (by with_reducible assumption) (by first | exact .inl (by with_reducible assumption) | exact .inr (by with_reducible assumption)) (by with_reducible assumption) (by with_reducible assumption)) (by decide)).symm | exact (FN (NP (by with_reducible assumption) (by first | exact .inl (by with_reducible assumption) | exact .inr (by with_reducible assumption)) (by with_reducible assumption) (by omega))) | exact (AM (NP (by with_reducible assumption) (by first | exact .inl (by with_reducible assumption) | exact .inr (by with_reducible assumption)) (by with_reducible assumption) (by omega))) | (have h:0<=c.kind/\0<=c.client/\0<=c.seq/\0<=c.set/\0<=c.id/\0<=c.n:=(by first | exact vq (by with_reducible assumption) | exact vl (by with_reducible assumption)); omega) | (have h:=jm c v; omega))
 all_goals try (refine ⟨‹Nat› + 1,?_⟩; (repeat' (first | with_reducible refine And.intro ?_ ?_ | with_reducible refine and_imp.2 ?_ | intro)))
 all_goals (first | (first | with_reducible rfl | with_reducible assumption | omega | (refine ah ?_ ?_ <;> omega)) | exact rfl | exact ⟨CO⟩ | exact (Cy (by with_reducible assumption) (by with_reducible assumption) (by omega)) | exact (gJ (NY (by with_reducible assumption)) (by decide)) | exact (gD (NY (by with_reducible assumption)) (by decide)).symm | exact (gJ (NO (by with_reducible assumption) (by with_reducible assumption) (by with_reducible assumption)) (by with_reducible assumption)) | exact (gD (NO (by with_reducible assumption) (by with_reducible assumption) (by with_reducible assumption)) (by with_reducible assumption)).symm | exact (gJ (NX (by with_reducible assumption) (by first | exact .inl (by with_reducible assumption) | exact .inr (by with_reducible assumption)) (by with_reducible assumption) (by with_reducible assumption)) (by decide)) | exact (gD (NX (by with_reducible assumption) (by first | exact .inl (by with_reducible assumption) | exact .inr (by with_reducible assumption)) (by with_reducible assumption) (by with_reducible assumption)) (by decide)).symm | exact (FN (NP (by with_reducible assumption) (by first | exact .inl (by with_reducible assumption) | exact .inr (by with_reducible assumption)) (by with_reducible assumption) (by omega))) | exact (AM (NP (by with_reducible assumption) (by first | exact .inl (by with_reducible assumption) | exact .inr (by with_reducible assumption)) (by with_reducible assumption) (by omega))) | (have h:0<=c.kind/\0<=c.client/\0<=c.seq/\0<=c.set/\0<=c.id/\0<=c.n:=(by first | exact vq (by with_reducible assumption) | exact vl (by with_reducible assumption)); omega) | (have h:=jm c v; omega))
noncomputable def MA:cj:=(br 25 (bp (ai (kT (.nm .command)) (ai (kC (cL (.nm .field))) (ai (kC cI) aK))) aJ fun (c,rest,v,_) (_)=>⟨[rest.length<=20000],[.c (.own 0),.c (.int ((fF c rest v)))],some ([.row 5 .u8 ((fT c rest v))]),true⟩) (br 52 (bp (ai (kC cI) (ai (kC cI) (ai (kC (cL (.nm .field))) aK))) aJ fun (q,v,l,_) (_)=>⟨[q=1],[.c (.int ((fv l v)))],none,false⟩) (br 91 (bp (ai (kT (.nm .field)) (ai (kC (bN 0 0)) aK)) (az (bI 67 (aq (bf 1) bG)) (az (bd 90 (.nm .field)) aJ)) fun (f,_,_) ((_,_),xs,_)=>⟨[xs.length<=20000],[.c (.bool (.atom ((eE xs f))))],none,false⟩) BB)))
theorem yg:aN Tryz.prog (aj tyT) MA:=(av (au (ab bn (ab (ao bb) (ab (ao aw) ak))) al fun (c,rest,v,_) (_) hp=>LO c rest v (dC hp)) (av (au (ab (ao aw) (ab (ao aw) (ab (ao bb) ak))) al fun (q,v,l,_) (_) hp=>De q v l (dC hp)) (av (au (ab bn (ab (ao aI) ak)) (ag (aG (ae aD aF)) (ag aC al)) fun (f,_,_) ((_,_),xs,_) hp=>GG f xs (dC hp)) mY)))
end Go.Proofs.YtladifkbefehdaaGreat
namespace Go.Proofs.YtladifkbefehdaaGreat
open Go.RowKit
def Jp (b:List UInt8) (s:Nat × List Field):Nat × List Field:=(s.1+(aZ (b.drop s.1)).1,s.2++[jf ((b.drop s.1).take (((s.1:Int)+((aZ (b.drop s.1)).1:Nat)).toNat - s.1))])
theorem J_ {b:List UInt8} {s:Nat × List Field}:(Jp b s).2=s.2++[jf ((b.drop s.1).take (aZ (b.drop s.1)).1)]:=by
 unfold Jp; rw [show ((s.1:Int)+((aZ (b.drop s.1)).1:Nat)).toNat - s.1=(aZ (b.drop s.1)).1 by omega]
theorem RD {b:List UInt8} (h:16384<(b.length:Int)):bu b=([],4):=Nv (by omega)
theorem Rq {b:List UInt8} {s:Nat × List Field} (h:Wq (fW b s.1 s.2)) (hi:(s.1:Int)<(b.length:Int)) (hs:¬ (aZ (b.drop s.1)).2=0):bu b=([],(aZ (b.drop s.1)).2):=IM h.h (by omega) hs
theorem Ru {b:List UInt8} {s:Nat × List Field} (h:Wq (fW b s.1 s.2)) (hi:(s.1:Int)<(b.length:Int)) (hs:(aZ (b.drop s.1)).2=0) (hr:eE s.2 (jf ((b.drop s.1).take (((s.1:Int)+((aZ (b.drop s.1)).1:Nat)).toNat - s.1)))=false):bu b=([],5):=by
 rw [show ((s.1:Int)+((aZ (b.drop s.1)).1:Nat)).toNat - s.1=(aZ (b.drop s.1)).1 by omega] at hr
 obtain ⟨f,_,e⟩:=AY h.h (show s.1<b.length by omega)
 rw [e,if_pos hs,hr,if_neg (by decide)]
theorem RV {b:List UInt8} {s:Nat × List Field} (h:Wq (fW b s.1 s.2)) (hi:(s.1:Int)<(b.length:Int)) (hs:(aZ (b.drop s.1)).2=0) (hr:eE s.2 (jf ((b.drop s.1).take (((s.1:Int)+((aZ (b.drop s.1)).1:Nat)).toNat - s.1)))=true):Wq (fW b (Jp b s).1 (Jp b s).2):=by
 rw [show ((s.1:Int)+((aZ (b.drop s.1)).1:Nat)).toNat - s.1=(aZ (b.drop s.1)).1 by omega] at hr
 obtain ⟨f,hf,e⟩:=AY h.h (show s.1<b.length by omega)
 have hp:=kv hs
 rw [J_]
 refine ⟨f,by show b.length - (s.1+(aZ (b.drop s.1)).1)<=f; omega,?_⟩
 rw [e,if_pos hs,hr,if_pos rfl,List.drop_drop]; rfl
theorem QP {b:List UInt8} {s:Nat × List Field} (h:Wq (fW b s.1 s.2)) (hi:(b.length:Int)<=(s.1:Int)):bu b=(s.2,0):=Lh h.h (by omega)
theorem QN {b:List UInt8} {s:Nat × List Field} (hi:s.1<=b.length):(Jp b s).1<=b.length:=by
 have:=kQ (b.drop s.1); rw [List.length_drop] at this; show s.1+_<=_; omega
theorem RK {b:List UInt8} {s:Nat × List Field} (hl:s.2.length<=s.1) (hs:(aZ (b.drop s.1)).2=0):(Jp b s).2.length<=(Jp b s).1:=by
 have hp:=kv hs
 rw [J_,List.length_append]; simp only [List.length_cons,List.length_nil]; show _<=s.1+_; omega
theorem RY {b:List UInt8} {s:Nat × List Field} (hi:(s.1:Int)<(b.length:Int)) (hs:(aZ (b.drop s.1)).2=0):b.length - (Jp b s).1<b.length - s.1:=by
 have hp:=kv hs; show b.length - (s.1+_)<_; omega
def DC (b:List UInt8):List (Nat × LI):=[(6,{ σ:=Nat × List Field,F:=fun s=>([(0,one (.fz .u8 (b))),(4,one (.ptr 0 0)),(5,one (.fn 91 [] [(0,0)])),(6,one (.int s.1))],[.box 67 ([.own 1]),.row 90 (.nm .field) ((s.2))]),J:=fun s=>Wq (fW b s.1 s.2)/\s.1<=b.length/\s.2.length<=s.1,μ:=fun s=>b.length - s.1 })]
theorem Ip (b:List UInt8) (r0:List Field) (r1:Int):cF tyT MA (DC b) Tryz.f51 [.c (.fz .u8 (b))] [] [.c (.fz (.nm .field) (r0)),.c (.int (r1))]=((fun (q1:Int)=>(fun (q0:Int)=>b.length*(1:Nat)<=(140737488355328:Nat)->((16384:Int)<q0->r0=[]/\(4:Int)=r1)/\(q0<=(16384:Int)->∃ (s0:Nat × List Field),(b=b/\q1=(↑s0.fst:Int)/\s0.snd=[])/\(Wq (fW b s0.fst s0.snd)/\s0.fst<=b.length/\s0.snd.length<=s0.fst)/\∀ (s:Nat × List Field),(fun (q5:Int)=>(fun (q4:Nat × Int)=>(fun (q3:Int)=>(fun (q2:Field)=>Wq (fW b s.fst s.snd)/\s.fst<=b.length/\s.snd.length<=s.fst->(q5<q0->q1<=q5/\q5<=q0/\(I64 (↑q4.fst:Int)->I64 q4.snd->(¬q4.snd=q1->r0=[]/\q4.snd=r1)/\(q4.snd=q1->I64 q3/\q1<=q5/\q5<=q3/\q3<=q0/\(I64 q2.num->I64 q2.wire->q2.n.n<(18446744073709551616:Nat)->q2.b.length*(1:Nat)<=(140737488355328:Nat)->s.snd.length<=(20000:Nat)/\(eE s.snd q2=false->r0=[]/\(5:Int)=r1)/\(eE s.snd q2=true->(s.snd.length+[q2].length)*(48:Nat)<=(140737488355328:Nat)/\I64 q3/\∃ (s':Nat × List Field),(b=b/\q3=(↑s'.fst:Int)/\s.snd++[q2]=s'.snd)/\(Wq (fW b s'.fst s'.snd)/\s'.fst<=b.length/\s'.snd.length<=s'.fst)/\b.length - s'.fst<b.length - s.fst)))))/\(q0<=q5->s.snd=r0/\q1=r1)) (jf (List.take (q3.toNat - s.fst) (List.drop s.fst b)))) (q5+(↑q4.fst:Int))) (aZ (List.drop s.fst b))) (↑s.fst:Int))) (↑b.length:Int)) (0:Int)):=by kernel_rfl
theorem GP (b:List UInt8):Sat Tryz.prog (aj tyT) 51 [.c (.fz .u8 (b))] [] ⟨[],[.c (.fz (.nm .field) (((bu b).1))),.c (.int (((bu b).2)))],none,false⟩:=by
 refine aM yg (DC b) Tryz.func51 (by decide) (by kernel_rfl) ?_
 rw [Ip]
 (repeat' (first | with_reducible refine And.intro ?_ ?_ | with_reducible refine and_imp.2 ?_ | intro))
 all_goals try (first | (first | with_reducible rfl | with_reducible assumption | omega | (refine ah ?_ ?_ <;> omega)) | exact rfl | exact ⟨oU (by omega)⟩ | (rw [RD (by with_reducible assumption)] <;> rfl) | (rw [Rq (by with_reducible assumption) (by with_reducible assumption) (by with_reducible assumption)] <;> rfl) | (rw [Ru (by with_reducible assumption) (by with_reducible assumption) (by with_reducible assumption) (by with_reducible assumption)] <;> rfl) | (rw [QP (by with_reducible assumption) (by with_reducible assumption)] <;> rfl) | exact (RV (by with_reducible assumption) (by with_reducible assumption) (by with_reducible assumption) (by with_reducible assumption)) | exact (QN (by with_reducible assumption)) | exact (RK (by with_reducible assumption) (by with_reducible assumption)) | exact (RY (by with_reducible assumption) (by with_reducible assumption)) | (have h:=kQ (b.drop ‹Nat × List Field›.1); rw [List.length_drop] at h; first | omega | (refine ah ?_ ?_ <;> omega)) | (simp only [List.length_cons,List.length_nil]; omega))
 all_goals try (refine ⟨(0,[]),?_⟩; (repeat' (first | with_reducible refine And.intro ?_ ?_ | with_reducible refine and_imp.2 ?_ | intro)))
 all_goals try (first | (first | with_reducible rfl | with_reducible assumption | omega | (refine ah ?_ ?_ <;> omega)) | exact rfl | exact ⟨oU (by omega)⟩ | (rw [RD (by with_reducible assumption)] <;> rfl) | (rw [Rq (by with_reducible assumption) (by with_reducible assumption) (by with_reducible assumption)] <;> rfl) | (rw [Ru (by with_reducible assumption) (by with_reducible assumption) (by with_reducible assumption) (by with_reducible assumption)] <;> rfl) | (rw [QP (by with_reducible assumption) (by with_reducible assumption)] <;> rfl) | exact (RV (by with_reducible assumption) (by with_reducible assumption) (by with_reducible assumption) (by with_reducible assumption)) | exact (QN (by with_reducible assumption)) | exact (RK (by with_reducible assumption) (by with_reducible assumption)) | exact (RY (by with_reducible assumption) (by with_reducible assumption)) | (have h:=kQ (b.drop ‹Nat × List Field›.1); rw [List.length_drop] at h; first | omega | (refine ah ?_ ?_ <;> omega)) | (simp only [List.length_cons,List.length_nil]; omega))
 all_goals try (refine ⟨Jp b ‹Nat × List Field›,?_⟩; (repeat' (first | with_reducible refine And.intro ?_ ?_ | with_reducible refine and_imp.2 ?_ | intro)))
 all_goals (first | (first | with_reducible rfl | with_reducible assumption | omega | (refine ah ?_ ?_ <;> omega)) | exact rfl | exact ⟨oU (by omega)⟩ | (rw [RD (by with_reducible assumption)] <;> rfl) | (rw [Rq (by with_reducible assumption) (by with_reducible assumption) (by with_reducible assumption)] <;> rfl) | (rw [Ru (by with_reducible assumption) (by with_reducible assumption) (by with_reducible assumption) (by with_reducible assumption)] <;> rfl) | (rw [QP (by with_reducible assumption) (by with_reducible assumption)] <;> rfl) | exact (RV (by with_reducible assumption) (by with_reducible assumption) (by with_reducible assumption) (by with_reducible assumption)) | exact (QN (by with_reducible assumption)) | exact (RK (by with_reducible assumption) (by with_reducible assumption)) | exact (RY (by with_reducible assumption) (by with_reducible assumption)) | (have h:=kQ (b.drop ‹Nat × List Field›.1); rw [List.length_drop] at h; first | omega | (refine ah ?_ ?_ <;> omega)) | (simp only [List.length_cons,List.length_nil]; omega))
noncomputable def ME:cj:=(br 51 (bp (ai (kC (cL .u8)) aK) aJ fun (b,_) (_)=>⟨[],[.c (.fz (.nm .field) (((bu b).1))),.c (.int (((bu b).2)))],none,false⟩) MA)
theorem yC:aN Tryz.prog (aj tyT) ME:=(av (au (ab (ao bb) ak) al fun (b,_) (_) _=>GP b ) yg)
end Go.Proofs.YtladifkbefehdaaGreat
namespace Go.Proofs.YtladifkbefehdaaGreat
open Go.RowKit
theorem PZ {v:Int} (h:bU v=true):1<=v/\v<=3:=by
 unfold bU at h; simpa using h
theorem QB {b:List UInt8} {v:Int} (h1:(bu b).2=0) (h2:fv (bu b).1 v=0):jC b v=0:=by rw [jC,if_pos h1,h2]
theorem SD {b:List UInt8} {v:Int} (h:bU v=false):bQ b v=⟨cd,[],1⟩:=Qw (fun h2=>by unfold bU at h; simp only [h2,decide_true,Bool.and_self] at h; cases h)
theorem SX {b:List UInt8} {v:Int} (h:bU v=true) (h1:(bu b).2=0) (h2:¬ fv (bu b).1 v=0):bQ b v=⟨cd,[],fv (bu b).1 v⟩:=by
 have e:jC b v=fv (bu b).1 v:=by rw [jC,if_pos h1]
 rw [OT (PZ h) (by rw [e]; exact h2),e]
theorem SG {b:List UInt8} {v:Int} (h:bU v=true) (h1:¬ (bu b).2=0):bQ b v=⟨cd,[],(bu b).2⟩:=by
 have e:jC b v=(bu b).2:=by rw [jC,if_neg h1]
 rw [OT (PZ h) (by rw [e]; exact h1),e]
theorem SY {b:List UInt8} {v:Int} (h:bU v=true) (h1:(bu b).2=0) (h2:fv (bu b).1 v=0) (h3:¬ fF (cn (cV (bu b).1 (bW v))) (dh (bu b).1 (bW v)) v=0\/decide (fT (cn (cV (bu b).1 (bW v))) (dh (bu b).1 (bW v)) v=b)=false):bQ b v=⟨cd,[],6⟩:=
 QC (PZ h) (QB h1 h2) (h3.imp_right fun h=>by simpa using h)
theorem SO {b:List UInt8} {v:Int} (h:bU v=true) (h1:(bu b).2=0) (h2:fv (bu b).1 v=0) (h3:fF (cn (cV (bu b).1 (bW v))) (dh (bu b).1 (bW v)) v=0) (h4:decide (fT (cn (cV (bu b).1 (bW v))) (dh (bu b).1 (bW v)) v=b)=true):bQ b v=⟨cn (cV (bu b).1 (bW v)),dh (bu b).1 (bW v),0⟩:=
 Rb (PZ h) (QB h1 h2) ⟨h3,of_decide_eq_true h4⟩
theorem IW (b:List UInt8) (v:Int) (r0:Command) (r1:List Field) (r2:Int):cF tyT ME [] Tryz.f28 [.c (.fz .u8 (b)),.c (.int (v))] [] [.agg (cellsOf (.nm .command) r0),.c (.fz (.nm .field) (r1)),.c (.int (r2))]=((fun (q8:Nat)=>(fun (q7:Int)=>(fun (q6:Prop)=>(fun (q5:Prop)=>(fun (q4:List Field)=>(fun (q3:List Field)=>(fun (q2:Int)=>(fun (q1:Command)=>(fun (q0:Prop)=>b.length*(1:Nat)<=q8->I64 v->(bU v=false->q2=r0.kind/\q2=r0.client/\q2=r0.seq/\q2=r0.set/\q2=r0.id/\q2=r0.n/\q6/\q5/\r1=[]/\(1:Int)=r2)/\(bU v=true->q4.length*(48:Nat)<=q8->I64 q7->(q7=q2->(1:Int)=(1:Int)/\(I64 (fv q4 v)->(¬fv q4 v=q2->q2=r0.kind/\q2=r0.client/\q2=r0.seq/\q2=r0.set/\q2=r0.id/\q2=r0.n/\q6/\q5/\r1=[]/\fv q4 v=r2)/\(fv q4 v=q2->q0)))/\(¬q7=q2->(¬q7=q2->q2=r0.kind/\q2=r0.client/\q2=r0.seq/\q2=r0.set/\q2=r0.id/\q2=r0.n/\q6/\q5/\r1=[]/\q7=r2)/\(q7=q2->q0)))) ((1:Int)=(1:Int)/\(I64 (bW v)->(cV q4 (bW v)).length*(48:Nat)<=q8->q3.length*(48:Nat)<=q8->(∀ (f:Field),List.Mem f (cV q4 (bW v))->f.b.length<=(16384:Nat))/\(I64 q1.kind->I64 q1.client->I64 q1.seq->I64 q1.set->I64 q1.id->I64 q1.n->q1.chunks.length*(8:Nat)<=q8->q1.text.b.length<=q8->q3.length<=(20000:Nat)/\(I64 (fF q1 q3 v)->(¬fF q1 q3 v=q2\/decide (fT q1 q3 v=b)=false->q2=r0.kind/\q2=r0.client/\q2=r0.seq/\q2=r0.set/\q2=r0.id/\q2=r0.n/\q6/\q5/\r1=[]/\(6:Int)=r2)/\(fF q1 q3 v=q2/\decide (fT q1 q3 v=b)=true->q1.kind=r0.kind/\q1.client=r0.client/\q1.seq=r0.seq/\q1.set=r0.set/\q1.id=r0.id/\q1.n=r0.n/\q1.chunks=r0.chunks/\q1.text=r0.text/\q3=r1/\q2=r2)))))) (cn (cV q4 (bW v)))) (0:Int)) (dh q4 (bW v))) (bu b).fst) (Str.mk []=r0.text)) (r0.chunks=[])) (bu b).snd) (140737488355328:Nat)):=by kernel_rfl
theorem Hc (b:List UInt8) (v:Int):Sat Tryz.prog (aj tyT) 28 [.c (.fz .u8 (b)),.c (.int (v))] [] ⟨[],[.agg (cellsOf (.nm .command) ((bQ b v).c)),.c (.fz (.nm .field) (((bQ b v).r))),.c (.int (((bQ b v).e)))],none,false⟩:=by
 refine aM yC [] Tryz.func28 (by decide) (by kernel_rfl) ?_
 rw [IW]
 (repeat' (first | with_reducible refine And.intro ?_ ?_ | with_reducible refine and_imp.2 ?_ | intro))
 all_goals (first | (first | with_reducible rfl | with_reducible assumption | omega | (refine ah ?_ ?_ <;> omega)) | (rw [SD (by with_reducible assumption)] <;> rfl) | (rw [SX (by with_reducible assumption) (by with_reducible assumption) (by with_reducible assumption)] <;> rfl) | (rw [SG (by with_reducible assumption) (by with_reducible assumption)] <;> rfl) | (rw [SY (by with_reducible assumption) (by with_reducible assumption) (by with_reducible assumption) (by assumption)] <;> rfl) | (rw [SO (by with_reducible assumption) (by with_reducible assumption) (by with_reducible assumption) (by with_reducible assumption) (by with_reducible assumption)] <;> rfl) | exact (NN (QB (by with_reducible assumption) (by with_reducible assumption)) _ (by assumption)) | (have h1:=nd (bu b).1 (bW v); have h2:=HR b; omega))
noncomputable def PE:cj:=(br 28 (bp (ai (kC (cL .u8)) (ai (kC cI) aK)) aJ fun (b,v,_) (_)=>⟨[],[.agg (cellsOf (.nm .command) ((bQ b v).c)),.c (.fz (.nm .field) (((bQ b v).r))),.c (.int (((bQ b v).e)))],none,false⟩) ME)
theorem HQ:aN Tryz.prog (aj tyT) PE:=(av (au (ab (ao bb) (ab (ao aw) ak)) al fun (b,v,_) (_) _=>Hc b v ) yC)
end Go.Proofs.YtladifkbefehdaaGreat
namespace Go.Proofs.YtladifkbefehdaaGreat
open Go.RowKit
end Go.Proofs.YtladifkbefehdaaGreat
namespace Go.Proofs.YtladifkbefehdaaGreat
open Go.RowKit
end Go.Proofs.YtladifkbefehdaaGreat
namespace Go.Proofs.YtladifkbefehdaaGreat
open Go.RowKit
noncomputable def OW:cj:=PE
theorem Ht:aN Tryz.prog (aj tyT) OW:=HQ
end Go.Proofs.YtladifkbefehdaaGreat
namespace Go.Proofs.YtladifkbefehdaaGreat
open Go.RowKit
noncomputable def OZ:cj:=OW
theorem GJ:aN Tryz.prog (aj tyT) OZ:=Ht
end Go.Proofs.YtladifkbefehdaaGreat
namespace Go.Proofs.YtladifkbefehdaaGreat
open Go.RowKit
attribute [local irreducible] cV dh
noncomputable def Pf:cj:=OZ
theorem Hp:aN Tryz.prog (aj tyT) Pf:=GJ
end Go.Proofs.YtladifkbefehdaaGreat
namespace Go.Proofs.YtladifkbefehdaaGreat
open Go.RowKit
noncomputable def OQ:cj:=Pf
theorem HJ:aN Tryz.prog (aj tyT) OQ:=Hp
end Go.Proofs.YtladifkbefehdaaGreat
namespace Go.Proofs.YtladifkbefehdaaGreat
open Go.RowKit
noncomputable def Po:cj:=OQ
theorem IF:aN Tryz.prog (aj tyT) Po:=HJ
end Go.Proofs.YtladifkbefehdaaGreat
namespace Go.Proofs.YtladifkbefehdaaGreat
open Go.RowKit
noncomputable def Oo:cj:=Po
theorem HB:aN Tryz.prog (aj tyT) Oo:=IF
end Go.Proofs.YtladifkbefehdaaGreat
namespace Go.Proofs.YtladifkbefehdaaGreat
open Go.RowKit
def numR (x y:Int):Prop:=∃ n:Nat,n<18446744073709551616/\x=((min n 1048577:Nat):Int)/\y=fN n
structure RelQ (a:List Int) (c r:Command):Prop where
 len:a.length=7
 n1:numR (a.getD 1 (dflt .int)) r.kind
 n2:numR (a.getD 2 (dflt .int)) r.client
 n3:numR (a.getD 3 (dflt .int)) r.seq
 n4:numR (a.getD 4 (dflt .int)) r.set
 n5:numR (a.getD 5 (dflt .int)) r.id
 n6:numR (a.getD 6 (dflt .int)) r.n
 ch:c.chunks=r.chunks
 tx:c.text=r.text
theorem RM {b:List UInt8} {v:Int} (h:cJ v 1 3=false):bQ b v=⟨cd,[],1⟩:=SD h
noncomputable def LA:cj:=Oo
theorem xr:aN Tryz.prog (aj tyT) LA:=HB
end Go.Proofs.YtladifkbefehdaaGreat
namespace Go.Proofs.YtladifkbefehdaaGreat
open Go.RowKit
end Go.Proofs.YtladifkbefehdaaGreat
namespace Go.Proofs.YtladifkbefehdaaGreat
open Go.RowKit
structure RdM where
 c:Command
 some:Bool
 e:Int
noncomputable def aP (x:Entry) (v:Int):RdM:=
 if x.b.length=0 then (if v<1\/3<v then ⟨cd,false,1⟩ else ⟨cd,false,0⟩)
 else if ¬ (bQ x.b v).e=0 then ⟨cd,false,(bQ x.b v).e⟩
 else if bD (bQ x.b v).c.kind=0\/v<bD (bQ x.b v).c.kind then ⟨cd,false,10⟩
 else ⟨(bQ x.b v).c,true,0⟩
theorem QO {term r:Int} (hr1:1<=r) (hr3:r<=3):aP ⟨term,[]⟩ r=⟨cd,false,0⟩:=by
 unfold aP; rw [if_pos (show (Entry.mk term []).b.length=0 from rfl),if_neg (by omega)]
section
variable {x:Entry} {v:Int}
theorem SJ (h:((x.b.length:Nat):Int)=0) (h2:v<1\/3<v):aP x v=⟨cd,false,1⟩:=by unfold aP; rw [if_pos (by omega),if_pos h2]
theorem SU (h:((x.b.length:Nat):Int)=0) (h1:1<=v) (h2:v<=3):aP x v=⟨cd,false,0⟩:=by unfold aP; rw [if_pos (by omega),if_neg (by omega)]
theorem SE (h:¬ ((x.b.length:Nat):Int)=0) (h2:¬ (bQ x.b v).e=0):aP x v=⟨cd,false,(bQ x.b v).e⟩:=by unfold aP; rw [if_neg (by omega),if_pos h2]
theorem SS (h:¬ ((x.b.length:Nat):Int)=0) (h2:(bQ x.b v).e=0) (h3:bD (bQ x.b v).c.kind=0\/v<bD (bQ x.b v).c.kind):aP x v=⟨cd,false,10⟩:=by unfold aP; rw [if_neg (by omega),if_neg (by rw [h2]; simp),if_pos h3]
theorem SN (h:¬ ((x.b.length:Nat):Int)=0) (h2:(bQ x.b v).e=0) (h3:¬ bD (bQ x.b v).c.kind=0) (h4:bD (bQ x.b v).c.kind<=v):aP x v=⟨(bQ x.b v).c,true,0⟩:=by unfold aP; rw [if_neg (by omega),if_neg (by rw [h2]; simp),if_neg (by omega)]
theorem SI (h2:v<1\/3<v):aP x v=⟨cd,false,1⟩:=by
 by_cases h:((x.b.length:Nat):Int)=0
 ·exact SJ h h2
 ·have e:bQ x.b v=⟨cd,[],1⟩:=RM (by unfold cJ; rcases h2 with h2 | h2 <;> simp <;> omega)
  rw [SE h (by rw [e]; decide),e]
end
theorem EG (x:Entry) (v:Int) (r0:Command) (r1:Bool) (r2:Int):cF tyT LA [] Tryz.f11 [.agg (cellsOf (.nm .entry) x),.c (.int (v))] [] [.agg (cellsOf (.nm .command) r0),.c (.bool (.atom (r1))),.c (.int (r2))]=((fun (q3:Prop)=>(fun (q2:Prop)=>(fun (q1:Int)=>(fun (q0:TkR)=>I64 x.term->x.b.length*(1:Nat)<=(140737488355328:Nat)->I64 v->((↑x.b.length:Int)=q1->(v<(1:Int)\/(3:Int)<v->q1=r0.kind/\q1=r0.client/\q1=r0.seq/\q1=r0.set/\q1=r0.id/\q1=r0.n/\q3/\q2/\false=r1/\(1:Int)=r2)/\((1:Int)<=v/\v<=(3:Int)->q1=r0.kind/\q1=r0.client/\q1=r0.seq/\q1=r0.set/\q1=r0.id/\q1=r0.n/\q3/\q2/\false=r1/\q1=r2))/\(¬(↑x.b.length:Int)=q1->I64 q0.c.kind->I64 q0.c.client->I64 q0.c.seq->I64 q0.c.set->I64 q0.c.id->I64 q0.c.n->q0.c.chunks.length*(8:Nat)<=(140737488355328:Nat)->q0.c.text.b.length<=(140737488355328:Nat)->q0.r.length*(48:Nat)<=(140737488355328:Nat)->I64 q0.e->(¬q0.e=q1->q1=r0.kind/\q1=r0.client/\q1=r0.seq/\q1=r0.set/\q1=r0.id/\q1=r0.n/\q3/\q2/\false=r1/\q0.e=r2)/\(q0.e=q1->I64 (bD q0.c.kind)->(bD q0.c.kind=q1\/v<bD q0.c.kind->q1=r0.kind/\q1=r0.client/\q1=r0.seq/\q1=r0.set/\q1=r0.id/\q1=r0.n/\q3/\q2/\false=r1/\(10:Int)=r2)/\(¬bD q0.c.kind=q1/\bD q0.c.kind<=v->q0.c.kind=r0.kind/\q0.c.client=r0.client/\q0.c.seq=r0.seq/\q0.c.set=r0.set/\q0.c.id=r0.id/\q0.c.n=r0.n/\q0.c.chunks=r0.chunks/\q0.c.text=r0.text/\true=r1/\q1=r2)))) (bQ x.b v)) (0:Int)) (Str.mk []=r0.text)) (r0.chunks=[])):=by kernel_rfl
theorem BD (x:Entry) (v:Int):Sat Tryz.prog (aj tyT) 11 [.agg (cellsOf (.nm .entry) x),.c (.int (v))] [] ⟨[],[.agg (cellsOf (.nm .command) ((aP x v).c)),.c (.bool (.atom (((aP x v).some)))),.c (.int (((aP x v).e)))],none,false⟩:=by
 refine aM xr [] Tryz.func11 (by decide) (by kernel_rfl) ?_
 rw [EG]
 (repeat' (first | with_reducible refine And.intro ?_ ?_ | with_reducible refine and_imp.2 ?_ | intro))
 all_goals (first | (first | with_reducible rfl | with_reducible assumption | omega | (refine ah ?_ ?_ <;> omega)) | (rw [SI (by assumption)] <;> rfl) | (rw [SU (by with_reducible assumption) (by with_reducible assumption) (by with_reducible assumption)] <;> rfl) | (rw [SE (by with_reducible assumption) (by with_reducible assumption)] <;> rfl) | (rw [SS (by with_reducible assumption) (by with_reducible assumption) (by assumption)] <;> rfl) | (rw [SN (by with_reducible assumption) (by with_reducible assumption) (by with_reducible assumption) (by with_reducible assumption)] <;> rfl))
noncomputable def Lp:cj:=(br 11 (bp (ai (kT (.nm .entry)) (ai (kC cI) aK)) aJ fun (x,v,_) (_)=>⟨[],[.agg (cellsOf (.nm .command) ((aP x v).c)),.c (.bool (.atom (((aP x v).some)))),.c (.int (((aP x v).e)))],none,false⟩) LA)
theorem yb:aN Tryz.prog (aj tyT) Lp:=(av (au (ab bn (ab (ao aw) ak)) al fun (x,v,_) (_) _=>BD x v ) xr)
end Go.Proofs.YtladifkbefehdaaGreat
namespace Go.Proofs.YtladifkbefehdaaGreat
open Go.RowKit
noncomputable def ep (v:Int) (s:State) (x:Entry):State:=if (aP x v).some=true then (ft s (aP x v).c).1 else s
noncomputable def jU (v:Int) (s:State) (x:Entry):Reply:=if (aP x v).some=true then (ft s (aP x v).c).2 else ⟨0,0⟩
noncomputable def pS (v:Int) (s:State) (l:List Entry):State:=l.foldl (ep v) s
noncomputable def pR (v:Int):State->List Entry->List Reply
 | _,[]=>[]
 | s,x :: l=>jU v s x :: pR v (ep v s x) l
noncomputable def pN (v:Int):List Entry->Nat
 | []=>0
 | x :: l=>if (aP x v).e=0 then pN v l+1 else 0
noncomputable def pE (v:Int):List Entry->Int
 | []=>0
 | x :: l=>if (aP x v).e=0 then pE v l else (aP x v).e
noncomputable def plS (v:Int) (s:State) (l:List Entry):State:=pS v s (l.take (pN v l))
noncomputable def plR (v:Int) (s:State) (l:List Entry):List Reply:=pR v s (l.take (pN v l))
section
variable {v:Int} {s:State} {l:List Entry} {x:Entry} {k:Nat}
theorem Od (hx:l[k]? = some x):ep v (pS v s (l.take k)) x=pS v s (l.take (k+1)):=by
 rw [ax hx]; unfold pS; rw [List.foldl_append]; rfl
theorem xP:∀ {l:List Entry} {s:State},pR v s (l++[x])=pR v s l++[jU v (pS v s l) x]
 | [],_=>rfl
 | y :: l,s=>by
  show jU v s y :: pR v (ep v s y) (l++[x])=jU v s y :: (pR v (ep v s y) l++[jU v (pS v (ep v s y) l) x])
  rw [xP]
theorem Oc (hx:l[k]? = some x):pR v s (l.take k)++[jU v (pS v s (l.take k)) x]=pR v s (l.take (k+1)):=by
 rw [ax hx,xP]
theorem wN:∀ {l:List Entry} {s:State},(pR v s l).length=l.length
 | [],_=>rfl
 | y :: l,s=>by
  show (pR v (ep v s y) l).length+1=l.length+1
  rw [wN]
def okPl (v:Int) (l:List Entry):Prop:=∀ x ∈ l,(aP x v).e=0
theorem IY (h:okPl v (l.take k)) (hx:l[k]? = some x) (he:(aP x v).e=0):okPl v (l.take (k+1)):=by
 rw [ax hx]
 intro y hy
 rcases List.mem_append.1 hy with hy | hy
 ·exact h y hy
 ·rw [List.mem_singleton.1 hy]; exact he
theorem Dr:∀ {l:List Entry},okPl v l->pN v l=l.length/\pE v l=0
 | [],_=>⟨rfl,rfl⟩
 | y :: l,h=>by
  obtain ⟨h1,h2⟩:=Dr (l:=l) fun z hz=>h z (List.mem_cons_of_mem _ hz)
  have h0:=h y List.mem_cons_self
  unfold pN pE
  rw [if_pos h0,if_pos h0,h1,h2]; exact ⟨rfl,rfl⟩
theorem yp:∀ {l:List Entry} {k:Nat},okPl v (l.take k)->l[k]? = some x->¬ (aP x v).e=0->pN v l=k/\pE v l=(aP x v).e
 | [],k,_,hx,_=>by simp at hx
 | y :: l,0,_,hx,he=>by
  simp at hx; subst hx
  unfold pN pE
  rw [if_neg he,if_neg he]; exact ⟨rfl,rfl⟩
 | y :: l,k+1,h,hx,he=>by
  have h0:=h y (by simp)
  obtain ⟨h1,h2⟩:=yp (l:=l) (k:=k) (fun z hz=>h z (by rw [List.take_succ_cons]; exact List.mem_cons_of_mem _ hz)) (by simpa using hx) he
  unfold pN pE
  rw [if_pos h0,if_pos h0,h1,h2]; exact ⟨rfl,rfl⟩
theorem Hn (h:okPl v (l.take k)) (hx:l[k]? = some x) (he:¬ (aP x v).e=0):pS v s (l.take k)=plS v s l/\pR v s (l.take k)=plR v s l/\(aP x v).e=pE v l:=by
 obtain ⟨h1,h2⟩:=yp h hx he
 unfold plS plR; rw [h1,h2]; exact ⟨rfl,rfl,rfl⟩
theorem MD (h:okPl v (l.take k)) (hk:l.length<=k):pS v s (l.take k)=plS v s l/\pR v s (l.take k)=plR v s l/\0=pE v l:=by
 rw [List.take_of_length_le hk] at h ⊢
 obtain ⟨h1,h2⟩:=Dr h
 unfold plS plR; rw [h1,h2,List.take_length]; exact ⟨rfl,rfl,rfl⟩
end
def lD:Code->Code
 | .seq x _=>x
 | c=>c
def eb:Code->Code
 | .seq _ y=>y
 | c=>c
def Qe:Code->Code
 | .block _ c=>c
 | .loop c=>c
 | c=>c
def Re:Code->Code
 | .rangeFunc _ _ a _=>a
 | c=>c
def Sa:Code->Code
 | .rangeFunc _ _ _ b=>b
 | c=>c
def gQ:Code->List Oper
 | .region _ ops _=>ops.toList
 | _=>[]
def JF (f:Func):Code:=f.body.getD .skip
theorem KH (l:List Entry) (v:Int) (r0:List Entry) (r1:Int):po tyT Lp [] Tryz.f33 [.c (.fz (.nm .entry) (l)),.c (.int (v))] [] [.c (.fn 60 [] [(0,0),(1,0)])] [.box 44 ([.fz (.nm .entry) (r0)]),.box 3 ([.int (r1)])]=(l.length*(32:Nat)<=(140737488355328:Nat)->I64 v->l=r0/\v=r1):=by kernel_rfl
theorem Nx (l:List Entry) (v:Int):Sat Tryz.prog (aj tyT) 33 [.c (.fz (.nm .entry) (l)),.c (.int (v))] [] ⟨[],[.c (.fn 60 [] [(0,0),(1,0)])],some ([.box 44 ([.fz (.nm .entry) ((l))]),.box 3 ([.int ((v))])]),true⟩:=by
 refine dQ yb [] Tryz.func33 (by decide) (by kernel_rfl) ?_
 rw [KH]
 grind
noncomputable def dD:cj:=(br 33 (bp (ai (kC (cL (.nm .entry))) (ai (kC cI) aK)) aJ fun (l,v,_) (_)=>⟨[],[.c (.fn 60 [] [(0,0),(1,0)])],some ([.box 44 ([.fz (.nm .entry) ((l))]),.box 3 ([.int ((v))])]),true⟩) Lp)
theorem mT:aN Tryz.prog (aj tyT) dD:=(av (au (ab (ao bb) (ab (ao aw) ak)) al fun (l,v,_) (_) _=>Nx l v ) yb)
end Go.Proofs.YtladifkbefehdaaGreat
namespace Go.Proofs.YtladifkbefehdaaGreat
open Go.RowKit
noncomputable abbrev NR:Code:=JF Tryz.f16
noncomputable abbrev Sj:Code:=JF Tryz.f60
noncomputable abbrev Pe:Code:=lD NR
noncomputable abbrev OH:Code:=lD (eb NR)
noncomputable abbrev Oe:Code:=lD (eb (eb NR))
noncomputable abbrev OV:Code:=lD (lD (eb (eb (eb NR))))
noncomputable abbrev Sv:Code:=Qe (eb (lD (eb (eb (eb NR)))))
noncomputable abbrev Ic:Code:=eb (eb (eb (eb NR)))
noncomputable abbrev Bu:Code:=Re Sv
noncomputable abbrev FM:Code:=Sa Sv
noncomputable abbrev Rn:Code:=lD Sj
noncomputable abbrev iB:Code:=Qe (Qe (eb Sj))
noncomputable abbrev RX:Code:=lD iB
noncomputable abbrev Sk:Code:=lD (eb iB)
noncomputable abbrev Qa:Code:=Qe (lD (eb (eb iB)))
noncomputable abbrev Sm:Code:=lD Qa
noncomputable abbrev Sx:Code:=lD (eb Qa)
noncomputable abbrev xw:Code:=lD (eb (eb Qa))
noncomputable abbrev LG:Code:=eb (eb (eb Qa))
noncomputable abbrev SA:Code:=eb (eb (eb iB))
def hK (s:State) (r:List Reply) (l:List Entry) (v:Int):AH:=[.box 43 ([.int ((s.version)),.int ((s.next)),.int ((s.keep)),.int ((s.quota)),.own 7,.own 8,.own 9]),.box 43 ([.int ((0)),.int ((0)),.int ((0)),.int ((0)),.em true,.em true,.em true]),.box 47 ([.em true]),.box 31 ([.int ((0))]),.box 47 ([.own 10]),.box 44 ([.fz (.nm .entry) ((l))]),.box 3 ([.int ((v))]),.row 82 (.nm .sess) ((s.sess)),.row 63 (.nm .opn) ((s.opens)),.row 73 (.nm .snap) ((s.snaps)),.row 56 (.nm .reply) ((r))]
def hE (s:State) (r:List Reply):AH:=[.row 82 (.nm .sess) ((s.sess)),.row 63 (.nm .opn) ((s.opens)),.row 73 (.nm .snap) ((s.snaps)),.row 56 (.nm .reply) ((r))]
def rE (s:State) (e:Int):List TV1:=[.agg [.int s.version,.int s.next,.int s.keep,.int s.quota,.own 0,.own 1,.own 2],.c (.own 3),.c (.int e)]
def frP:AFr:=[(3,one (.ptr 0 0)),(6,one (.ptr 1 0)),(7,one (.ptr 2 0)),(8,one (.ptr 3 0)),(9,one (.ptr 4 0)),(16,one (.fn 60 [] [(5,0),(6,0)]))]
def As (L:Nat):Option TV->Prop
 | some (.one (.c (.yl a)))=>a=L
 | _=>False
def Jv (l:List Entry) (k:Nat):AFr:=[(1,one (.ptr 5 0)),(2,one (.ptr 6 0)),(9,one (.fz (.nm .entry) l)),(10,one (.int l.length)),(11,one (.int k))]
def Ed (c:Command) (b:Bool) (e:Int):TV1:=.agg (cellsOf (.nm .command) ((c))++[.bool (.atom ((b))),.int ((e))])
def QW (l:List Entry) (k:Nat) (c:Command) (b:Bool) (e:Int):AFr:=(26,.one (Ed c b e)) :: Jv l k
def hT (c:Command) (b:Bool) (e:Int):AO:=.box 78 (cellsOf (.nm .command) ((c))++[.bool (.atom ((b))),.int ((e))])
def NS (k0:Nat) (q:AFr × AH):Exit->AFr->AH->Prop
 | .normal,fr,K=>gq (uV tyT k0 fr K q)
 | _,_,_=>False
def Rh (L:Nat) (q:AFr × AH):Exit->AFr->AH->Prop
 | .normal,fr,K=>As L (lookA fr 0)/\gq (uV tyT 11 fr K q)
 | _,_,_=>False
noncomputable def Qp (L:Nat) (s:State) (r:List Reply) (l:List Entry) (v:Int) (k:Nat) (fr:AFr) (K:AH):Prop:=
 ∃ x,l[k]? = some x/\As L (lookA fr 0)/\As L (lookA fr 22)/\gq (uV tyT 11 fr K (QW l k (aP x v).c (aP x v).some (aP x v).e,hK s r l v))
noncomputable def Qy (L:Nat) (s:State) (r:List Reply) (l:List Entry) (v:Int) (k:Nat):Exit->AFr->AH->Prop
 | .normal,fr,K=>wpOps tyT dD (eG 0) (gQ xw) (Qp L s r l v k) 6 ((gQ xw).take 5) fr K
 | _,_,_=>False
noncomputable def RO (L:Nat) (s:State) (r:List Reply) (l:List Entry) (v:Int) (k:Nat):Exit->AFr->AH->Prop
 | .exit j,fr,K=>j=0/\l.length<=k/\As L (lookA fr 0)/\gq (uV tyT 11 fr K (Jv l k,hK s r l v))
 | .normal,fr,K=>ga tyT dD (eG 0) 11 [] (.seq Sm Sx) (Qy L s r l v k) fr K
 | _,_,_=>False
noncomputable def Oq (L:Nat) (s:State) (r:List Reply) (l:List Entry) (v:Int) (k:Nat):Exit->AFr->AH->Prop
 | .normal,fr,K=>ga tyT dD (eG 0) 11 [] Sk (RO L s r l v k) fr K
 | _,_,_=>False
noncomputable def Sz (L:Nat) (s:State) (r:List Reply) (l:List Entry) (v:Int) (k:Nat) (fr:AFr) (K:AH):Prop:=ga tyT dD (eG 0) 11 [] (.seq LG SA) (Rh L (Jv l (k+1),hK s r l v)) fr K
noncomputable def SF (s:State) (r:List Reply) (l:List Entry) (v:Int) (x:Entry):Exit->AFr->AH->Prop
 | .normal,_,K=>(aP x v).e=0/\gq (LH tyT (hK s r l v) 11 (hK (ep v s x) (r++[jU v s x]) l v) K)
 | .ret,_,K=>¬ (aP x v).e=0/\endE tyT [] 0 Tryz.f16 (rE s (aP x v).e) (hE s r) frP K
 | _,_,_=>False
def Sg (s:State) (r:List Reply):Exit->AFr->AH->Prop
 | .ret,fr,K=>endE tyT [] 0 Tryz.f16 (rE s 0) (hE s r) fr K
 | _,_,_=>False
theorem QQ (s:State) (l:List Entry) (v:Int):hP (yP [.agg (cellsOf (.nm .state) s),.c (.fz (.nm .entry) l),.c (.int v)]) (ga tyT dD (eG 0) 0 [] (.seq Pe (.seq OH (.seq Oe OV))) (NS 0 (frP,hK s [] l v)) (mA 0 [.agg (cellsOf (.nm .state) s),.c (.fz (.nm .entry) l),.c (.int v)]) [])=((fun (q0:Prop)=>I64 s.version->I64 s.next->I64 s.keep->I64 s.quota->s.sess.length*(32:Nat)<=(140737488355328:Nat)->s.opens.length*(16:Nat)<=(140737488355328:Nat)->s.snaps.length*(64:Nat)<=(140737488355328:Nat)->l.length*(32:Nat)<=(140737488355328:Nat)->I64 v->I64 s.version->I64 s.next->I64 s.keep->I64 s.quota->s.version=s.version/\s.next=s.next/\s.keep=s.keep/\s.quota=s.quota/\q0/\q0/\q0/\q0/\q0/\l=l/\v=v/\s.sess=s.sess/\s.opens=s.opens/\s.snaps=s.snaps/\([]:List Reply)=[]) ((0:Int)=(0:Int))):=by kernel_rfl
theorem Qr (L:Nat) (s:State) (r:List Reply) (l:List Entry) (v:Int):ga tyT dD (eG 0) 11 [] Rn (Rh L (Jv l 0,hK s r l v)) [(0,one (.yl L)),(1,one (.ptr 5 0)),(2,one (.ptr 6 0))] (hK s r l v)=((fun (q0:Prop)=>L=L/\l=l/\(↑l.length:Int)=(↑l.length:Int)/\(0:Int)=(↑(0:Nat):Int)/\s.version=s.version/\s.next=s.next/\s.keep=s.keep/\s.quota=s.quota/\q0/\q0/\q0/\q0/\q0/\l=l/\v=v/\s.sess=s.sess/\s.opens=s.opens/\s.snaps=s.snaps/\r=r) ((0:Int)=(0:Int))):=by kernel_rfl
theorem Qu (L:Nat) (s:State) (r:List Reply) (l:List Entry) (v:Int) (k:Nat):ga tyT dD (eG 0) 11 [] RX (Oq L s r l v k) ((0,one (.yl L)) :: Jv l k) (hK s r l v)=((fun (q2:Int)=>(fun (q1:Prop)=>(fun (q0:Prop)=>((↑k:Int)<q2->(0:Int)<=(↑k:Int)/\(↑k:Int)<(↑l.length:Int)/\∀ (x:Entry),(fun (q3:Command)=>l[k]? = some x->I64 x.term->x.b.length*(1:Nat)<=(140737488355328:Nat)->I64 q3.kind->I64 q3.client->I64 q3.seq->I64 q3.set->I64 q3.id->I64 q3.n->q3.chunks.length*(8:Nat)<=(140737488355328:Nat)->q3.text.b.length<=(140737488355328:Nat)->I64 (aP x v).e->∃ (x_1:Entry),(fun (q4:RdM)=>l[k]? = some x_1/\L=L/\L=L/\q3.kind=q4.c.kind/\q3.client=q4.c.client/\q3.seq=q4.c.seq/\q3.set=q4.c.set/\q3.id=q4.c.id/\q3.n=q4.c.n/\q3.chunks=q4.c.chunks/\q3.text=q4.c.text/\(aP x v).some=q4.some/\(aP x v).e=q4.e/\q0) (aP x_1 v)) (aP x v).c)/\(q2<=(↑k:Int)->(0:Nat)=(0:Nat)/\l.length<=k/\L=L/\q0)) (l=l/\q2=q2/\(↑k:Int)=(↑k:Int)/\s.version=s.version/\s.next=s.next/\s.keep=s.keep/\s.quota=s.quota/\q1/\q1/\q1/\q1/\q1/\l=l/\v=v/\s.sess=s.sess/\s.opens=s.opens/\s.snaps=s.snaps/\r=r)) ((0:Int)=(0:Int))) (↑l.length:Int)):=by kernel_rfl
theorem Sd (L:Nat) (s:State) (r:List Reply) (l:List Entry) (v:Int) (k:Nat) (c:Command) (b:Bool) (er:Int):wpOps tyT dD (eG 0) (gQ xw) (Sz L s r l v k) 2 ((gQ xw).drop 6) ((27,one (.bool (.lit true))) :: (0,one (.yl L)) :: QW l k c b er) (hK s r l v)=((fun (q0:Prop)=>I64 ((↑k:Int)+(1:Int))/\L=L/\l=l/\(↑l.length:Int)=(↑l.length:Int)/\(↑k:Int)+(1:Int)=(↑(k+(1:Nat)):Int)/\s.version=s.version/\s.next=s.next/\s.keep=s.keep/\s.quota=s.quota/\q0/\q0/\q0/\q0/\q0/\l=l/\v=v/\s.sess=s.sess/\s.opens=s.opens/\s.snaps=s.snaps/\r=r) ((0:Int)=(0:Int))):=by kernel_rfl
theorem RW (s:State) (r:List Reply) (l:List Entry) (v:Int) (c:Command) (b:Bool) (er:Int):ga tyT dD (eG 0) 11 [] Bu (NS 11 ((10,one (.ptr 11 0)) :: frP,hK s r l v++[hT c b er])) ((17,.one (Ed c b er)) :: frP) (hK s r l v)=((fun (q0:Prop)=>s.version=s.version/\s.next=s.next/\s.keep=s.keep/\s.quota=s.quota/\q0/\q0/\q0/\q0/\q0/\l=l/\v=v/\s.sess=s.sess/\s.opens=s.opens/\s.snaps=s.snaps/\r=r/\c.kind=c.kind/\c.client=c.client/\c.seq=c.seq/\c.set=c.set/\c.id=c.id/\c.n=c.n/\c.chunks=c.chunks/\c.text=c.text/\b=b/\er=er) ((0:Int)=(0:Int))):=by kernel_rfl
theorem RZ (s:State) (r:List Reply) (l:List Entry) (v:Int) (x:Entry):ga tyT dD (eG 0) 12 [] FM (SF s r l v x) ((10,one (.ptr 11 0)) :: frP) (hK s r l v++[hT (aP x v).c (aP x v).some (aP x v).e])=((fun (q3:RdM)=>(fun (q2:State)=>(fun (q1:Int)=>(fun (q0:State × Reply)=>(¬q3.e=q1->¬q3.e=q1/\s.version=s.version/\s.next=s.next/\s.keep=s.keep/\s.quota=s.quota/\q3.e=q3.e/\s.sess=s.sess/\s.opens=s.opens/\s.snaps=s.snaps/\r=r)/\(q3.e=q1->(q3.some=true->I64 q0.fst.version->I64 q0.fst.next->I64 q0.fst.keep->I64 q0.fst.quota->I64 q0.snd.code->I64 q0.snd.n->(r.length+[q0.snd].length)*(16:Nat)<=(140737488355328:Nat)/\q3.e=q1/\q0.fst.version=q2.version/\q0.fst.next=q2.next/\q0.fst.keep=q2.keep/\q0.fst.quota=q2.quota/\q1=q1/\q1=q1/\q1=q1/\q1=q1/\q1=q1/\l=l/\v=v/\q0.fst.sess=q2.sess/\q0.fst.opens=q2.opens/\q0.fst.snaps=q2.snaps/\r++[q0.snd]=r++[jU v s x])/\(q3.some=false->(r.length+[Reply.mk q1 q1].length)*(16:Nat)<=(140737488355328:Nat)/\q3.e=q1/\s.version=q2.version/\s.next=q2.next/\s.keep=q2.keep/\s.quota=q2.quota/\q1=q1/\q1=q1/\q1=q1/\q1=q1/\q1=q1/\l=l/\v=v/\s.sess=q2.sess/\s.opens=q2.opens/\s.snaps=q2.snaps/\r++[Reply.mk q1 q1]=r++[jU v s x]))) (ft s q3.c)) (0:Int)) (ep v s x)) (aP x v)):=by kernel_rfl
theorem RS (s:State) (r:List Reply) (l:List Entry) (v:Int):ga tyT dD (eG 0) 11 [] Ic (Sg s r) frP (hK s r l v)=(s.version=s.version/\s.next=s.next/\s.keep=s.keep/\s.quota=s.quota/\(0:Int)=(0:Int)/\s.sess=s.sess/\s.opens=s.opens/\s.snaps=s.snaps/\r=r):=by kernel_rfl
noncomputable def Mb:cj:=dD
theorem xF:aN Tryz.prog (aj tyT) Mb:=mT
end Go.Proofs.YtladifkbefehdaaGreat
namespace Go.Proofs.YtladifkbefehdaaGreat
open Go.RowKit
theorem x_ {n k0:Nat} {G:Gl} {c:Code} {K:Exit->AFr->AH->Prop} {fr:AFr} {H:AH} {ρ0:List RE} {w0 w:World} {F:Fr} {Q:Exit->Act->World->Prop} (hG:G.shp=aj tyT) (hk:ρ0.length<=k0) (hc:di n c=true) (h:ga tyT dD (eG 0) k0 [] c K fr H)
  (hs:St G (eG 0) ρ0 w0 fr H F w) (hK:∀ e fr H F w,K e fr H->St G (eG 0) ρ0 w0 fr H F w->WX Q n e F w):WC Tryz.prog Q n c F w:=
 qU (by rw [hG]; exact cN) (by rw [hG]; exact mT) (jW cN mT gA G n (eG 0) ρ0 w0 hG (fun i h=>by simp [eG,Nat.ble] at h)) hk c Q K fr H F w hc h hs hK
theorem On {n m:Nat} {G:Gl} {l ops:List Oper} {K:AFr->AH->Prop} {fr:AFr} {H:AH} {ρ0:List RE} {w0 w:World} {F:Fr} {Q:Exit->Act->World->Prop} (hG:G.shp=aj tyT) (hd:gW n ops=true) (h:wpOps tyT dD (eG 0) l K m ops fr H)
  (hs:St G (eG 0) ρ0 w0 fr H F w) (hK:∀ fr H F w,K fr H->St G (eG 0) ρ0 w0 fr H F w->WX Q n .normal F w):WO Tryz.prog Q n l ops F w:=
 iW (by rw [hG]; exact cN) (by rw [hG]; exact mT) hK m ops fr H F w hd h hs
abbrev yV (L:Nat):Value:=.func (.yield L) #[] #[]
theorem i_ {c:Cx} {ρ:List RE} {fr:AFr} {F:Fr} {L t:Nat} (hf:FrR c ρ fr F) (h:As L (lookA fr t)):look F t=some (yV L):=by
 unfold As at h
 split at h
 ·rename_i a hl
  subst h
  obtain ⟨v,h1,h2⟩:=dz hf hl
  have h2:v=yV a:=h2
  rw [h1,h2]
 ·exact h.elim
theorem rB {F F':Fr} {t:Nat} {v:Value} (h:look F t=some v) (k:∀ i u,look F' i=some u->look F i=some u):∀ i u,look ((t,v) :: F') i=some u->look F i=some u:=fun i u hu=>by
 rw [aW] at hu
 by_cases hi:t=i
 ·subst hi; rw [if_pos rfl] at hu; cases hu; exact h
 ·rw [if_neg hi] at hu; exact k i u hu
theorem FrR.uX {c:Cx} {ρ:List RE} {fr:AFr} {F:Fr} {t:Nat} {a:TV1} {v:Value} (h:cA c ρ a v) (k:FrR c ρ fr F):FrR c ρ ((t,.one a) :: fr) ((t,v) :: F):=.cons ⟨rfl,h⟩ k
theorem Rep.gO {G:Gl} {ρ:List RE} {H:AH} {w:World} {b:Nat} (h:Rep G ρ H w) (hz:G.Z b):¬ live ρ b:=fun ⟨i,r,h1,h2⟩=>(h.bnd i r b h1 h2).2.2 hz
theorem dv {w:World} {b:Nat} {o:Obj} (h:w.heap[b]? = some o):b<w.heap.size:=(Array.getElem?_eq_some_iff.1 h).1
structure PX where
 G:Gl
 D:Nat
 L:Nat
 fn:Nat
 tm:Array Value
 FP:Fr
 s:State
 l:List Entry
 v:Int
def PX.g (X:PX):Gl:=GZ X.G X.D X.L
noncomputable def PX.rc (X:PX) (st:LoopState) (pe:Option Code):Loop:={ state:=st,pending:=pe,fn:=X.fn,tmps:=X.tm,params:=#[17],assign:=Bu,body:=FM,defers:=X.D }
noncomputable def PX.hk (X:PX) (k:Nat):AH:=hK (pS X.v X.s (X.l.take k)) (pR X.v X.s (X.l.take k)) X.l X.v
abbrev PX.Z (X:PX):Nat->Prop:=fun b=>b=X.D\/b=X.L
structure Mid (X:PX) (k:Nat) (ρ:List RE) (W:World):Prop where
 rep:Rep X.g ρ (X.hk k) W
 fr:FrR (cx X.g ρ W) ρ frP X.FP
 ok:okPl X.v (X.l.take k)
 loop:W.heap[X.L]? = some (.loop (X.rc .ready none))
 dfr:W.heap[X.D]? = some (.deferred (some []))
structure Stopd (X:PX) (ρ:List RE) (W:World):Prop where
 rep:∃ H,Rep X.g ρ H W/\endE tyT [] 0 Tryz.f16 (rE (plS X.v X.s X.l) (pE X.v X.l)) (hE (plS X.v X.s X.l) (plR X.v X.s X.l)) frP H
 fr:FrR (cx X.g ρ W) ρ frP X.FP
 loop:W.heap[X.L]? = some (.loop (X.rc .done (some .ret)))
 dfr:W.heap[X.D]? = some (.deferred (some []))
theorem wO:yz frP=true:=by decide
section
variable {X:PX} {k:Nat} {ρ ρ':List RE} {W W':World}
theorem Mid.step {ro:Lv} (h:Mid X k ρ W) (hs:Stp ro ρ W ρ' W') (hr:Rep X.g ρ' (X.hk k) W'):Mid X k ρ' W' /\ Adv X.Z ρ W ρ' W':=by
 have ha:Adv X.Z ρ W ρ' W':=.qE hs.ext hs.bx
 have hle:=ha.le (G:=X.g) (fun b hb=>.inr hb)
 exact ⟨⟨hr,h.fr.dE wO hle hs.bx,h.ok,(hs.ext.old _ (dv h.loop) (h.rep.gO (.inr (.inr rfl)))).2.trans h.loop,(hs.ext.old _ (dv h.dfr) (h.rep.gO (.inr (.inl rfl)))).2.trans h.dfr⟩,ha⟩
section
variable {s:State} {r:List Reply} {l:List Entry} {v:Int} {x:Entry}
theorem Rz (h:(aP x v).some=true):ep v s x=(ft s (aP x v).c).1:=by unfold ep; rw [if_pos h]
theorem PA (h:(aP x v).some=false):ep v s x=s:=by unfold ep; rw [if_neg (by rw [h]; decide)]
theorem QF (h:(aP x v).some=true):jU v s x=(ft s (aP x v).c).2:=by unfold jU; rw [if_pos h]
theorem OJ (h:(aP x v).some=false):jU v s x=⟨0,0⟩:=by unfold jU; rw [if_neg (by rw [h]; decide)]
theorem LB (hr:(r.length+1)*16<=140737488355328):ga tyT dD (eG 0) 12 [] FM (SF s r l v x) ((10,one (.ptr 11 0)) :: frP) (hK s r l v++[hT (aP x v).c (aP x v).some (aP x v).e]):=by
 rw [RZ]
 repeat' (first | with_reducible refine And.intro ?_ ?_ | with_reducible refine and_imp.2 ?_ | intro)
 all_goals first | with_reducible rfl | with_reducible assumption | contradiction | (simp only [List.length_cons,List.length_nil]; omega) | (rw [Rz (by with_reducible assumption)]; done) | (rw [PA (by with_reducible assumption)]; done) | (rw [QF (by with_reducible assumption)]; done) | (rw [OJ (by with_reducible assumption)]; done)
theorem Mx {c:Command} {b:Bool} {er:Int}:ga tyT dD (eG 0) 11 [] Bu (NS 11 ((10,one (.ptr 11 0)) :: frP,hK s r l v++[hT c b er])) ((17,.one (Ed c b er)) :: frP) (hK s r l v):=by
 rw [RW]
 repeat' (first | with_reducible refine And.intro ?_ ?_ | with_reducible refine and_imp.2 ?_ | intro)
 all_goals with_reducible rfl
end
theorem zp (hG:X.G.shp=aj tyT) (hsz:X.l.length*32<=140737488355328) (hM:M 40 X.FP { tmps:=X.tm,defers:=[] }) (hDL:X.D≠X.L) (h:Mid X k ρ W) {x:Entry} (hx:X.l[k]? = some x) {u:Value}
  (hu:cA (cx X.g ρ W) ρ (Ed (aP x X.v).c (aP x X.v).some (aP x X.v).e) u) (ro:Option Nat) (m:Nat) :
  RoundIn (eH ro) m Tryz.prog X.L X.fn (X.tm.setIfInBounds 17 u) Bu FM W fun e w'=>∃ b,e = .returned b/\((b = .bool true/\∃ ρ',Mid X (k+1) ρ' w' /\ Adv X.Z ρ W ρ' w')\/(b = .bool false/\∃ ρ',Stopd X ρ' w' /\ Adv X.Z ρ W ρ' w')):=by
 refine Bi ?_
 have hGg:X.g.shp=aj tyT:=hG
 have hM1:M 40 ((17,u) :: X.FP) { tmps:=X.tm.setIfInBounds 17 u,defers:=[] }:=hM.put (d:=17) (v:=u) (by decide)
 have hlen:ρ.length=11:=h.rep.obj.length.symm
 have hkl:k<X.l.length:=(List.getElem?_eq_some_iff.1 hx).1
 refine x_ hGg (Nat.le_of_eq hlen) (c:=Bu) (n:=40) (by kernel_rfl) (Mx (s:=pS X.v X.s (X.l.take k)) (r:=pR X.v X.s (X.l.take k)) (l:=X.l) (v:=X.v) (c:=(aP x X.v).c) (b:=(aP x X.v).some) (er:=(aP x X.v).e)) (⟨ρ,Stp.refl _ _ _,h.rep,FrR.uX hu h.fr⟩) (fun e fr H F w1 hK hs=>?_) _ hM1
 cases e with
 | normal=>
  obtain ⟨F1,⟨ρ1,hs1,hr1,hf1⟩,hlk⟩:=eA (P:=Tryz.prog) (by rw [hGg]; exact cN) (Nat.le_of_eq hlen) hs hK
  intro a ha
  have hl1:w1.heap[X.L]? = some (.loop (X.rc .ready none)):=(hs1.ext.old _ (dv h.loop) (h.rep.gO (.inr (.inr rfl)))).2.trans h.loop
  have hd1:w1.heap[X.D]? = some (.deferred (some [])):=(hs1.ext.old _ (dv h.dfr) (h.rep.gO (.inr (.inl rfl)))).2.trans h.dfr
  refine ⟨_,run_beginRound (P:=Tryz.prog) hl1 rfl,?_,ha.1⟩
  have A1:Adv X.Z ρ W ρ1 (w1.putObj X.L (.loop { X.rc .ready none with state:=.busy })):=(Adv.qE hs1.ext hs1.bx).trans (.put _ (.inr rfl))
  have hr2:Rep X.g ρ1 (X.hk k++[hT (aP x X.v).c (aP x X.v).some (aP x X.v).e]) (w1.putObj X.L (.loop { X.rc .ready none with state:=.busy })):=hr1.zM _ (.inr (.inr rfl))
  have hl2:(w1.putObj X.L (.loop { X.rc .ready none with state:=.busy })).heap[X.L]? = some (.loop { X.rc .ready none with state:=.busy }):=World.putObj_heap_same (dv hl1)
  have hd2:(w1.putObj X.L (.loop { X.rc .ready none with state:=.busy })).heap[X.D]? = some (.deferred (some [])):=(World.putObj_heap_other hDL).trans hd1
  have hf2:FrR (cx X.g ρ1 (w1.putObj X.L (.loop { X.rc .ready none with state:=.busy }))) ρ1 ((10,one (.ptr 11 0)) :: frP) F1:=hf1.carry ((Adv.put (Z:=X.Z) _ (.inr rfl)).le (fun b hb=>.inr hb)) (gV.refl _)
  revert A1 hr2 hl2 hd2 hf2
  generalize w1.putObj X.L (.loop { X.rc .ready none with state:=.busy })=w2
  intro A1 hr2 hl2 hd2 hf2
  have hlen1:ρ1.length=12:=hr2.obj.length.symm
  refine x_ hGg (Nat.le_of_eq hlen1) (c:=FM) (n:=40) (by kernel_rfl) (LB (s:=pS X.v X.s (X.l.take k)) (r:=pR X.v X.s (X.l.take k)) (l:=X.l) (v:=X.v) (x:=x) (by rw [wN,List.length_take]; omega)) (⟨ρ1,Stp.refl _ _ _,hr2,hf2⟩) (fun e fr H F w3 hK hs=>?_) _ (ha.sub hlk)
  obtain ⟨ρ3,hs3,hr3,_⟩:=hs
  have hl3:w3.heap[X.L]? = _:=(hs3.ext.old _ (dv hl2) (hr2.gO (.inr (.inr rfl)))).2.trans hl2
  have hd3:w3.heap[X.D]? = _:=(hs3.ext.old _ (dv hd2) (hr2.gO (.inr (.inl rfl)))).2.trans hd2
  cases e with
  | normal=>
   obtain ⟨he,hend⟩:=hK
   obtain ⟨ρ',hr',hE',hb'⟩:=Db (P:=Tryz.prog) (ρ0:=ρ1) (w0:=w2) (by rw [hGg]; exact cN) hr3 hs3.ext hs3.bx (fun i g hi hg=>by
    have hn:=JP (b:=false) hr2 hg
    have:i=0\/i=1\/i=2\/i=3\/i=4\/i=5\/i=6\/i=7\/i=8\/i=9\/i=10:=by omega
    rcases this with rfl | rfl | rfl | rfl | rfl | rfl | rfl | rfl | rfl | rfl | rfl <;> exact hn) hend
   refine fun _ _=>⟨_,_,run_endRound (P:=Tryz.prog) none hl3,_,rfl,.inl ⟨rfl,ρ',?_⟩⟩
   have A3:Adv X.Z ρ W ρ' (w3.putObj X.L (.loop (X.rc .ready none))):=by
    have A2:Adv X.Z ρ W ρ' w3:=⟨hE'.os.trans A1.os,hE'.tape.trans A1.tape,hE'.output.trans A1.output,Nat.le_trans A1.size hE'.size,fun b hb hl=>by
     obtain ⟨h1,h2⟩:=A1.old b hb hl
     obtain ⟨h3,h4⟩:=hE'.old b (Nat.lt_of_lt_of_le hb A1.size) h1
     exact ⟨h3,fun hz=>h4.trans (h2 hz)⟩,fun i g hg=>hb' i g (by rw [<- hlen]; exact (List.getElem?_eq_some_iff.1 hg).1) (A1.bx i g hg)⟩
    exact A2.trans (.put _ (.inr rfl))
   refine ⟨⟨?_,h.fr.dE wO (A3.le fun b hb=>.inr hb) A3.bx,IY h.ok hx he,World.putObj_heap_same (dv hl3),(World.putObj_heap_other hDL).trans hd3⟩,A3⟩
   have:=hr'.zM (l:=X.L) (.loop (X.rc .ready none)) (.inr (.inr rfl))
   rw [Od hx,Oc hx] at this
   exact this
  | ret=>
   obtain ⟨he,hend⟩:=hK
   refine fun _ _=>⟨_,_,run_endRound (P:=Tryz.prog) (some .ret) hl3,_,rfl,.inr ⟨rfl,ρ3,?_⟩⟩
   have A3:Adv X.Z ρ W ρ3 (w3.putObj X.L (.loop (X.rc .done (some .ret)))):=(A1.trans (.qE hs3.ext hs3.bx)).trans (.put _ (.inr rfl))
   obtain ⟨p1,p2,p3⟩:=Hn (s:=X.s) h.ok hx he
   rw [p1,p2,p3] at hend
   exact ⟨⟨⟨_,hr3.zM _ (.inr (.inr rfl)),hend⟩,h.fr.dE wO (A3.le fun b hb=>.inr hb) A3.bx,World.putObj_heap_same (dv hl3),(World.putObj_heap_other hDL).trans hd3⟩,A3⟩
  | _=>exact hK.elim
 | _=>exact hK.elim
theorem Lc:Tryz.f60.body=some (.seq Rn (.block 0 (.loop (.seq RX (.seq Sk (.seq (.block 1 (.seq Sm (.seq Sx (.seq xw LG)))) SA)))))):=by kernel_rfl
theorem MK:xw = .region 4 (gQ xw).toArray false:=by kernel_rfl
theorem HG:LG = .cond (.tmp 28) .ret .skip:=by kernel_rfl
noncomputable def JQ (k:Nat):Oper:=(gQ xw).getD k ⟨none,.move (.tmp 0),0,"",#[],none⟩
noncomputable def RN:Array TypeId:=match (JQ 5).op with
 | .call c=>c.argTypes
 | _=>#[]
noncomputable def Tf:TypeId:=match (JQ 6).op with
 | .unOp _ t _=>t
 | _=>0
theorem QM:gQ xw=(gQ xw).take 5++(⟨some 27,.call ⟨.value (.tmp 22),#[.tmp 26],RN⟩,(JQ 5).type,(JQ 5).pos,(JQ 5).after,none⟩ :: (gQ xw).drop 6):=by kernel_rfl
theorem RA:(gQ xw).drop 6=[⟨some 28,.unOp .not Tf (.tmp 27),(JQ 6).type,(JQ 6).pos,(JQ 6).after,none⟩]:=by kernel_rfl
theorem wm {P:Program} {n:Nat} {F:Fr} {w:World} {L:Nat} {rl:Loop} {u:Value} {tys:Array TypeId} {ty:TypeId} (h22:look F 22=some (yV L)) (h26:look F 26=some u) (hl:w.heap[L]? = some (.loop rl)) (hp:rl.params = #[17]) (a:Act) (d:Option Tmp) (pos:String) (af:Array Edge) (g:Option (Nat × Bool)) (ha:M n F a) :
  (execOp a.eval ⟨d,.call ⟨.value (.tmp 22),#[.tmp 26],tys⟩,ty,pos,af,g⟩).run P w = .ok (.round L rl.fn (rl.tmps.setIfInBounds 17 u) rl.assign rl.body) w:=by
 have e1:a.eval (.tmp 22)=yV L:=ha.ev (x:=.tmp 22) h22
 have e2:a.eval (.tmp 26)=u:=ha.ev (x:=.tmp 26) h26
 have hy:=run_yield (P:=P) (args:=#[u]) hl (by rw [hp]; rfl)
 simp [execOp,resolve,e1,e2,Deferred.ofValue,invoke,hy,hp]
theorem GW {F F':Fr} {t:Nat} {v:Value} (k:∀ i u,look F' i=some u->look F i=some u):∀ i u,look ((t,v) :: F') i=some u->look ((t,v) :: F) i=some u:=fun i u hu=>by
 rw [aW] at hu ⊢
 split
 ·rename_i h; rw [if_pos h] at hu; exact hu
 ·rename_i h; rw [if_neg h] at hu; exact k i u hu
section
variable {s:State} {r:List Reply} {l:List Entry} {v:Int} {L:Nat}
theorem KB:ga tyT dD (eG 0) 11 [] Rn (Rh L (Jv l 0,hK s r l v)) [(0,one (.yl L)),(1,one (.ptr 5 0)),(2,one (.ptr 6 0))] (hK s r l v):=by
 rw [Qr]
 repeat' (first | with_reducible refine And.intro ?_ ?_ | with_reducible refine and_imp.2 ?_ | intro)
 all_goals first | with_reducible rfl | rfl
theorem KF {k:Nat}:ga tyT dD (eG 0) 11 [] RX (Oq L s r l v k) ((0,one (.yl L)) :: Jv l k) (hK s r l v):=by
 rw [Qu]
 repeat' (first | with_reducible refine And.intro ?_ ?_ | with_reducible refine and_imp.2 ?_ | intro)
 all_goals try (refine ⟨_,by with_reducible assumption,?_⟩)
 repeat' (first | with_reducible refine And.intro ?_ ?_ | with_reducible refine and_imp.2 ?_ | intro)
 all_goals first | with_reducible rfl | omega | rfl
theorem Nk {k:Nat} {c:Command} {b:Bool} {er:Int} (hk:k<4611686018427387904):wpOps tyT dD (eG 0) (gQ xw) (Sz L s r l v k) 2 ((gQ xw).drop 6) ((27,one (.bool (.lit true))) :: (0,one (.yl L)) :: QW l k c b er) (hK s r l v):=by
 rw [Sd]
 repeat' (first | with_reducible refine And.intro ?_ ?_ | with_reducible refine and_imp.2 ?_ | intro)
 all_goals first | with_reducible rfl | omega | (refine ah ?_ ?_ <;> omega) | rfl
end
def No (y:Code) (k0:Nat) (K:Exit->AFr->AH->Prop):Exit->AFr->AH->Prop
 | .normal,fr,H=>ga tyT dD (eG 0) k0 [] y K fr H
 | e,fr,H=>K e fr H
theorem kE {x y:Code} {k0:Nat} {K:Exit->AFr->AH->Prop} {fr:AFr} {H:AH} (h:ga tyT dD (eG 0) k0 [] (.seq x y) K fr H):ga tyT dD (eG 0) k0 [] x (No y k0 K) fr H:=by
 have e:No y k0 K=fun e fr H=>(match e with | .normal=>ga tyT dD (eG 0) k0 [] y K fr H | e=>K e fr H):=by funext e fr H; cases e <;> rfl
 rw [e]; exact h
def PX.Out (X:PX) (ρ:List RE) (W:World) (_:Value) (w':World):Prop:=∃ ρ',Adv X.Z ρ W ρ' w' /\ ((∃ k,X.l.length<=k/\Mid X k ρ' w')\/Stopd X ρ' w')
theorem WO.of_eq {P:Program} {Q:Exit->Act->World->Prop} {n:Nat} {l r r':List Oper} {F:Fr} {w:World} (e:r=r') (h:WO P Q n l r' F w):WO P Q n l r F w:=e ▸ h
theorem Ep (hG:X.G.shp=aj tyT) (hsz:X.l.length*32<=140737488355328) (hM:M 40 X.FP { tmps:=X.tm,defers:=[] }) (hDL:X.D≠X.L) (h:Mid X 0 ρ W) {p8 p9:Value} (h8:dG ρ (5,0) p8) (h9:dG ρ (6,0) p9) :
  gX Tryz.prog 60 #[yV X.L,p8,p9] W (X.Out ρ W):=by
 have hGg:X.g.shp=aj tyT:=hG
 have hlen:ρ.length=11:=h.rep.obj.length.symm
 refine gX.enter (args:=[yV X.L,p8,p9]) (n:=30) Tryz.func60 Lc rfl rfl rfl ?_
 refine WC.seq (x_ hGg (Nat.le_of_eq hlen) (by kernel_rfl) KB (⟨ρ,Stp.refl _ _ _,h.rep,FrR.uX (a:=.c (.yl X.L)) rfl (FrR.uX (a:=.c (.ptr 5 0)) h8 (FrR.uX (a:=.c (.ptr 6 0)) h9 .nil))⟩) fun e fr H F w hK hs=>?_)
 cases e with
 | normal=>
  obtain ⟨hy,he⟩:=hK
  have hy0:look F 0=some (yV X.L):=by obtain ⟨_,_,_,hf⟩:=hs; exact i_ hf hy
  obtain ⟨F1,⟨ρ1,hs1,hr1,hf1⟩,hlk⟩:=eA (P:=Tryz.prog) (by rw [hGg]; exact cN) (Nat.le_of_eq hlen) hs he
  refine WX.next (WC.block fun a ha=>?_)
  refine t_ (fun a w k=>∃ ρ' F',M 30 F' a/\Mid X k ρ' w/\FrR (cx X.g ρ' w) ρ' ((0,one (.yl X.L)) :: Jv X.l k) F' /\ k<=X.l.length/\Adv X.Z ρ W ρ' w) (fun k=>X.l.length - k) 0 ⟨ρ1,(0,yV X.L) :: F1,ha.sub (rB hy0 hlk),(h.step hs1 hr1).1,FrR.uX (a:=.c (.yl X.L)) rfl hf1,Nat.zero_le _,(h.step hs1 hr1).2⟩ fun k a w hD=>?_
  obtain ⟨ρ',F',hM',hmid,hfr,hk,hadv⟩:=hD
  have hlen':ρ'.length=11:=hmid.rep.obj.length.symm
  refine (WC.seq (x_ hGg (Nat.le_of_eq hlen') (by kernel_rfl) (KF (L:=X.L) (k:=k)) (⟨ρ',Stp.refl _ _ _,hmid.rep,hfr⟩) fun e fr H F w2 hK hs=>?_)) a hM'
  cases e with
  | normal=>
   refine WX.next (WC.seq (x_ hGg (Nat.le_of_eq hlen') (by kernel_rfl) hK hs fun e fr H F w2 hK hs=>?_))
   cases e with
   | exit j=>
    obtain ⟨rfl,hle,hy,he⟩:=hK
    obtain ⟨F2,⟨ρ2,hs2,hr2,hf2⟩,hlk2⟩:=eA (P:=Tryz.prog) (by rw [hGg]; exact cN) (Nat.le_of_eq hlen') hs he
    obtain ⟨hm2,ha2⟩:=hmid.step hs2 hr2
    have hφ:X.Out ρ W (.tuple #[]) w2:=⟨ρ2,hadv.trans ha2,.inl ⟨k,hle,hm2⟩⟩
    have hh:=WX.My (id:=0) (WX.Ls (WX.Pv (n:=30) (fr:=F) (P:=Tryz.prog) (fn:=Tryz.f60) (φ:=X.Out ρ W) rfl hφ))
    exact fun a ha=>hh a ha
   | normal=>
    refine WX.next (WC.seq (WC.block (WC.seq (x_ hGg (Nat.le_of_eq hlen') (by kernel_rfl) (kE hK) hs fun e fr H F w2 hK hs=>?_))))
    cases e with
    | normal=>
     refine WX.next (WC.seq (x_ hGg (Nat.le_of_eq hlen') (by kernel_rfl) hK hs fun e fr H F w2 hK hs=>?_))
     cases e with
     | normal=>
      refine WX.next (WC.seq ?_)
      rw [MK]
      refine WC.region ?_
      refine WO.of_eq QM (WO.app (On hGg (by kernel_rfl) hK hs fun fr H F w3 hK hs=>?_))
      intro a ha
      obtain ⟨x,hx,hy,hy22,he⟩:=hK
      have hy0:look F 0=some (yV X.L):=by obtain ⟨_,_,_,hf⟩:=hs; exact i_ hf hy
      have h22:look F 22=some (yV X.L):=by obtain ⟨_,_,_,hf⟩:=hs; exact i_ hf hy22
      obtain ⟨F2,⟨ρ2,hs2,hr2,hf2⟩,hlk2⟩:=eA (P:=Tryz.prog) (by rw [hGg]; exact cN) (Nat.le_of_eq hlen') hs he
      obtain ⟨hm2,ha2⟩:=hmid.step hs2 hr2
      obtain ⟨u,hu26,hu⟩:=dz (i:=26) (tv:=.one (Ed (aP x X.v).c (aP x X.v).some (aP x X.v).e)) hf2 rfl
      have hkl:k<X.l.length:=(List.getElem?_eq_some_iff.1 hx).1
      refine WO.yield (L:=X.L) (f:=X.fn) (tmps:=X.tm.setIfInBounds 17 u) (assign:=Bu) (body:=FM) (fun a d pos af g ha=>wm h22 (hlk2 _ _ hu26) hm2.loop rfl a d pos af g ha) rfl (fun ro m=>zp hG hsz hM hDL hm2 hx hu ro m) (fun b w4 hb=>?_) a ha
      rcases hb with ⟨rfl,ρ4,hm4,ha4⟩ | ⟨rfl,ρ4,hst4,ha4⟩
      ·intro a ha
       have hf4:=FrR.uX (t:=0) (a:=.c (.yl X.L)) (v:=yV X.L) rfl (hf2.dE rfl (ha4.le fun b hb=>.inr hb) ha4.bx)
       have hlen4:ρ4.length=11:=hm4.rep.obj.length.symm
       refine (On hGg (by kernel_rfl) (Nk (L:=X.L) (k:=k) (by omega)) (⟨ρ4,Stp.refl _ _ _,hm4.rep,FrR.uX (t:=27) (a:=.c (.bool (.lit true))) (Pd.bool (e:=.lit true)) hf4⟩) fun fr H F w5 hK hs=>?_) a (ha.sub (GW (rB hy0 hlk2)))
       refine WX.next (x_ hGg (Nat.le_of_eq hlen4) (by kernel_rfl) (kE hK) hs fun e fr H F w6 hK hs=>?_)
       cases e with
       | normal=>
        refine WX.zF (WX.next (x_ hGg (Nat.le_of_eq hlen4) (by kernel_rfl) hK hs fun e fr H F w7 hK hs=>?_))
        cases e with
        | normal=>
         obtain ⟨hy,he⟩:=hK
         have hy0:look F 0=some (yV X.L):=by obtain ⟨_,_,_,hf⟩:=hs; exact i_ hf hy
         obtain ⟨F7,⟨ρ7,hs7,hr7,hf7⟩,hlk7⟩:=eA (P:=Tryz.prog) (by rw [hGg]; exact cN) (Nat.le_of_eq hlen4) hs he
         obtain ⟨hm7,ha7⟩:=hm4.step hs7 hr7
         exact fun a ha=>⟨k+1,⟨ρ7,(0,yV X.L) :: F7,ha.sub (rB hy0 hlk7),hm7,FrR.uX (a:=.c (.yl X.L)) rfl hf7,hkl,((hadv.trans ha2).trans ha4).trans ha7⟩,by omega⟩
        | _=>exact hK.elim
       | _=>exact hK.elim
      ·have hφ:X.Out ρ W (.tuple #[]) w4:=⟨ρ4,(hadv.trans ha2).trans ha4,.inr hst4⟩
       refine WO.of_eq RA (WO.v (R.not (b:=false) rfl) rfl (WO.nil (WX.next ?_)))
       rw [HG]
       exact WC.xy rfl (WC.ret (WX.Pv (P:=Tryz.prog) (fn:=Tryz.f60) (φ:=X.Out ρ W) rfl hφ))
     | _=>exact hK.elim
    | _=>exact hK.elim
   | _=>exact hK.elim
  | _=>exact hK.elim
 | _=>exact hK.elim
end
theorem Lx:Tryz.f16.body=some (.seq Pe (.seq OH (.seq Oe (.seq (.seq OV (.block 0 (.rangeFunc (.tmp 16) #[17] Bu FM))) Ic)))):=by kernel_rfl
theorem L_ {n:Nat} {args:List Value} (hle:args.length<=n):M n (pK 0 args) { tmps:=args.toArray++Array.replicate (n - args.toArray.size) undef,defers:=[] }:=by
 refine ⟨rfl,?_,fun i v hv=>?_⟩
 ·simp; omega
 ·rw [ni] at hv
  obtain ⟨_,h2⟩:=oe args 0 i v hv
  rw [Nat.sub_zero] at h2
  have hi:i<args.length:=(List.getElem?_eq_some_iff.1 h2).1
  refine ⟨by omega,?_⟩
  have h3:args[i]=v:=by rw [List.getElem?_eq_getElem hi] at h2; exact Option.some.inj h2
  simp [Array.getD,hi,h3]
  omega
def xN (G:Gl) (w0:World) (s:State) (l:List Entry) (v:Int) (u:Value) (w':World):Prop:=
 ∃ us,u=th us/\∃ ρ',Rep G ρ' (hE (plS v s l) (plR v s l)) w' /\ Ext [] w0 ρ' w' /\ All2 (cA (cx G ρ' w') ρ') (rE (plS v s l) (pE v l)) us/\Kp [] w0 w'
section
variable {X:PX} {ρ1 ρ':List RE} {w0 W1 w4:World} {H:AH} {a:Act}
theorem DH {fr:AFr} {F:Fr} (hG:X.G.shp=aj tyT) (hz:∀ x,X.G.Z x->x<w0.heap.size) (hD:w0.heap.size<=X.D) (hDL:X.D<X.L) (hR:Rep X.g ρ' H w4) (hf:FrR (cx X.g ρ' w4) ρ' fr F) (hM:M 40 F a)
  (hend:endE tyT [] 0 Tryz.f16 (rE (plS X.v X.s X.l) (pE X.v X.l)) (hE (plS X.v X.s X.l) (plR X.v X.s X.l)) fr H) (hd:w4.heap[X.D]? = some (.deferred (some []))) (hE:Ext [] w0 ρ1 W1) (hA:Adv X.Z ρ1 W1 ρ' w4) :
  ∃ w',(Instr.takeDeferred X.D).run Tryz.prog w4 = .ok [] w' /\ ∃ u,(results Tryz.f16 a.tmps).run Tryz.prog w' = .ok u w' /\ xN X.G w0 X.s X.l X.v u w':=by
 refine ⟨_,run_takeDeferred (P:=Tryz.prog) hd,?_⟩
 have hR5:=hR.zM (l:=X.D) (.deferred none) (.inr (.inl rfl))
 have hsz:(w4.putObj X.D (.deferred none)).heap.size=w4.heap.size:=by simp
 have h04:w0.heap.size<=w4.heap.size:=Nat.le_trans hE.size hA.size
 obtain ⟨hR6,hle⟩:=hR5.leave (fun x hx=>Nat.lt_of_lt_of_le (hz x hx) (by rw [hsz]; exact h04))
 have hle2:(cx X.g ρ' w4).le (cx X.G ρ' (w4.putObj X.D (.deferred none))):=((Adv.put (Z:=X.Z) (ρ:=ρ') (w:=w4) (.deferred none) (.inl rfl)).le (G:=X.g) (fun b hb=>.inr hb)).trans hle
 have hf6:=hf.carry hle2 (gV.refl _)
 have hE6:Ext [] w0 ρ' (w4.putObj X.D (.deferred none)):=⟨hA.os.trans hE.os,hA.tape.trans hE.tape,hA.output.trans hE.output,by rw [hsz]; exact h04,fun b hb hl=>by
  obtain ⟨h1,h2⟩:=hE.old b hb hl
  obtain ⟨h3,h4⟩:=hA.old b (Nat.lt_of_lt_of_le hb hE.size) h1
  have hbD:b≠X.D:=by omega
  exact ⟨h3,(World.putObj_heap_other hbD).trans ((h4 (fun hz=>by rcases hz with hz | hz <;> omega)).trans h2)⟩⟩
 unfold endE KY at hend
 split at hend
 ·rename_i l hl
  obtain ⟨us,h1,h2⟩:=iH (by rw [hG]; exact cN) hR6 hf6 hM hl
  replace hend:=dm.1 hend
  refine ⟨_,h2,us,rfl,_,kK (P:=Tryz.prog) (by rw [hG]; exact cN) hR6 rfl (bP.1 fun p hp=>hend p (List.mem_append_left _ (List.mem_append_left _ hp))) fun p hp=>hend p (List.mem_append_right _ hp),kM hE6,kI hR6 rfl h1 fun p hp=>hend p (List.mem_append_left _ (List.mem_append_right _ hp)),?_⟩
  exact ⟨hE6.os,hE6.tape,hE6.output,hE6.size,fun b hb _=>(hE6.old b hb (fun ⟨i,r,h,_⟩=>by simp at h)).2⟩
 ·exact (show False from hend).elim
end
theorem KQ {s:State} {r:List Reply} {l:List Entry} {v:Int}:ga tyT dD (eG 0) 11 [] Ic (Sg s r) frP (hK s r l v):=by
 rw [RS]
 repeat' (first | with_reducible refine And.intro ?_ ?_ | with_reducible refine and_imp.2 ?_ | intro)
 all_goals with_reducible rfl
theorem Wq.go {l:List Prop} {R:Prop} (k:∀ p ∈ l,p) (h:Wq (hP l R)):Wq R:=⟨dk.1 h.h k⟩
theorem Wq.seq {x y:Code} {k0:Nat} {K:Exit->AFr->AH->Prop} {fr:AFr} {H:AH} (h:Wq (ga tyT dD (eG 0) k0 [] (.seq x y) K fr H)):Wq (ga tyT dD (eG 0) k0 [] x (No y k0 K) fr H):=⟨kE h.h⟩
theorem Rl {n k0:Nat} {G:Gl} {c:Code} {K:Exit->AFr->AH->Prop} {fr:AFr} {H:AH} {ρ0:List RE} {w0 w:World} {F:Fr} {Q:Exit->Act->World->Prop} (hG:G.shp=aj tyT) (hk:ρ0.length<=k0) (hc:di n c=true) (h:Wq (ga tyT dD (eG 0) k0 [] c K fr H))
  (hs:St G (eG 0) ρ0 w0 fr H F w) (hK:∀ e fr H F w,K e fr H->St G (eG 0) ρ0 w0 fr H F w->WX Q n e F w):WC Tryz.prog Q n c F w:=x_ hG hk hc h.h hs hK
theorem Nc {s:State} {l:List Entry} {v:Int}:Wq (hP (yP [.agg (cellsOf (.nm .state) s),.c (.fz (.nm .entry) l),.c (.int v)]) (ga tyT dD (eG 0) 0 [] (.seq Pe (.seq OH (.seq Oe OV))) (NS 0 (frP,hK s [] l v)) (mA 0 [.agg (cellsOf (.nm .state) s),.c (.fz (.nm .entry) l),.c (.int v)]) [])):=by
 refine ⟨?_⟩
 rw [QQ]
 repeat' (first | with_reducible refine And.intro ?_ ?_ | with_reducible refine and_imp.2 ?_ | intro)
 all_goals with_reducible rfl
theorem NL {s:State} {l:List Entry} {v:Int} (h:∀ p ∈ yP [.agg (cellsOf (.nm .state) s),.c (.fz (.nm .entry) l),.c (.int v)],p):Wq (ga tyT dD (eG 0) 0 [] (.seq Pe (.seq OH (.seq Oe OV))) (NS 0 (frP,hK s [] l v)) (mA 0 [.agg (cellsOf (.nm .state) s),.c (.fz (.nm .entry) l),.c (.int v)]) []):=by
 have h1:=@Nc s l v
 revert h1 h
 generalize yP [.agg (cellsOf (.nm .state) s),.c (.fz (.nm .entry) l),.c (.int v)]=L
 generalize ga tyT dD (eG 0) 0 [] (.seq Pe (.seq OH (.seq Oe OV))) (NS 0 (frP,hK s [] l v)) (mA 0 [.agg (cellsOf (.nm .state) s),.c (.fz (.nm .entry) l),.c (.int v)]) []=R
 intro h h1
 exact Wq.go h h1
theorem Fe {G:Gl} {ρ:List RE} {w:World} {vs:List Value} {s:State} {l:List Entry} {v:Int} (hG:G.shp=aj tyT) (hR:Rep G ρ [] w) (hvs:All2 (cA (cx G ρ w) ρ) [.agg (cellsOf (.nm .state) s),.c (.fz (.nm .entry) l),.c (.int v)] vs) :
  gX Tryz.prog 16 vs.toArray w (xN G w s l v):=by
 have hok:=HC.jS hvs
 have hsz:l.length*32<=140737488355328:=by
  have:l.length*Sh.bytes (.nm .entry)<=140737488355328:=hok _ (by simp [yP,TV1.ok,AV.ok])
  exact this
 have hρ:ρ=[]:=List.eq_nil_of_length_eq_zero hR.obj.length.symm
 subst hρ
 have hl3:vs.length=3:=hvs.length.symm
 refine (callsIn_wide (n:=0)).1 (callsIn_of_wp_marks (F:=eH none) (n:=0) Tryz.func16 Lx trivial ?_)
 have hM0:=L_ (n:=40) (args:=vs) (by omega)
 have h0:([]:List RE).length<=0:=Nat.le_refl 0
 refine wpIn_seq (gY.NZ rfl ((Rl (n:=40) hG h0 (by kernel_rfl) (Wq.seq (NL hok)) (⟨[],Stp.refl _ _ _,hR,ko hvs⟩) fun e fr H F w1 hK hs=>?_) _ hM0))
 cases e with
 | normal=>
  intro a ha
  refine wpIn_seq (gY.NZ ha.1 ((x_ (n:=40) hG h0 (by kernel_rfl) (kE hK) hs fun e fr H F w1 hK hs=>?_) _ ha))
  cases e with
  | normal=>
   intro a ha
   refine wpIn_seq (gY.NZ ha.1 ((x_ (n:=40) hG h0 (by kernel_rfl) (kE hK) hs fun e fr H F w1 hK hs=>?_) _ ha))
   cases e with
   | normal=>
    intro a ha
    refine wpIn_seq (wpIn_seq (gY.NZ ha.1 ((x_ (n:=40) hG h0 (by kernel_rfl) hK hs fun e fr H F w1 hK hs=>?_) _ ha)))
    cases e with
    | normal=>
     obtain ⟨F1,⟨ρ1,hs1,hr1,hf1⟩,hlk⟩:=eA (P:=Tryz.prog) (by rw [hG]; exact cN) h0 hs hK
     intro a ha0
     have ha:=ha0.sub hlk
     refine wpIn_block (wpIn_rangeFunc fun fn hfn=>?_)
     have hae:a={ tmps:=a.tmps,defers:=[] }:=by rw [<- ha.1]
     obtain ⟨vg,hg1,hg2⟩:=dz (i:=16) (tv:=one (.fn 60 [] [(5,0),(6,0)])) hf1 rfl
     obtain ⟨bs,us,hb,hu,rfl⟩:=hg2
     cases hb
     cases hu with | cons h8 hu=>
     cases hu with | cons h9 hu=>
     cases hu
     rename_i p8 p9
     have hg:a.eval (.tmp 16) = .func (.func 60) #[] #[p8,p9]:=ha.ev (x:=.tmp 16) hg1
     obtain ⟨X,hX⟩:∃ X:PX,X=⟨G,w1.heap.size,w1.heap.size+1,fn,a.tmps,F1,s,l,v⟩:=⟨_,rfl⟩
     have hXD:X.D=w1.heap.size:=by rw [hX]
     have hXL:X.L=w1.heap.size+1:=by rw [hX]
     obtain ⟨hre,hle,hk⟩:=hr1.enter (.deferred (some [])) (.loop (X.rc .ready none))
     have hsz2:((w1.alloc (.deferred (some []))).alloc (.loop (X.rc .ready none))).heap.size=w1.heap.size+1+1:=by simp
     have hmid:Mid X 0 ρ1 ((w1.alloc (.deferred (some []))).alloc (.loop (X.rc .ready none))):=by
      refine ⟨?_,?_,fun x hx=>by simp at hx,?_,?_⟩
      ·have:Rep (GZ G w1.heap.size (w1.heap.size+1)) ρ1 (Go.Proofs.YtladifkbefehdaaGreat.hK s [] l v) ((w1.alloc (.deferred (some []))).alloc (.loop (X.rc .ready none))):=hre
       rw [hX] at this ⊢; exact this
      ·have:=hf1.carry hle (gV.refl _)
       rw [hX] at this ⊢; exact this
      ·rw [hXL]
       have:=World.alloc_heap_new (w1.alloc (.deferred (some []))) (.loop (X.rc .ready none))
       rwa [World.size_alloc] at this
      ·rw [hXD]
       exact (Below.heap_alloc _ _ _ (by simp)).trans (World.alloc_heap_new w1 _)
     have hGX:X.G.shp=aj tyT:=by rw [hX]; exact hG
     have hGgX:X.g.shp=aj tyT:=hGX
     have hlX:X.l=l:=by rw [hX]
     have hMX:M 40 X.FP { tmps:=X.tm,defers:=[] }:=by rw [hX]; rw [hae] at ha; exact ha
     have hMa:M 40 X.FP a:=by rw [hX]; exact ha
     have h8':dG ρ1 (5,0) p8:=h8
     have h9':dG ρ1 (6,0) p9:=h9
     have hit:=Ep hGX (by rw [hlX]; exact hsz) hMX (by rw [hXD,hXL]; omega) hmid h8' h9'
     have hE1:Ext [] w ρ1 ((w1.alloc (.deferred (some []))).alloc (.loop (X.rc .ready none))):=hs1.ext.trans (Ext.kp hk)
     have hfin:∀ {ρ':List RE} {w4:World} {H:AH} {b:Act} {fr:AFr} {F:Fr},Rep X.g ρ' H w4->FrR (cx X.g ρ' w4) ρ' fr F->M 40 F b->endE tyT [] 0 Tryz.f16 (rE (plS X.v X.s X.l) (pE X.v X.l)) (hE (plS X.v X.s X.l) (plR X.v X.s X.l)) fr H->w4.heap[X.D]? = some (.deferred (some [])) ->
       Adv X.Z ρ1 ((w1.alloc (.deferred (some []))).alloc (.loop (X.rc .ready none))) ρ' w4->bodyPostM (eH none) 0 Tryz.prog Tryz.f16 (fun e w'=>∃ u,e = .returned u/\xN G w s l v u w') .ret (fK b [{ target:=.collected X.D,args:=#[] }]) w4:=fun hR4 hf4 hMb hend hd4 hA4=>by
      obtain ⟨w',ht,u,hu,ho⟩:=DH (w0:=w) hGX (by rw [hX]; exact hR.z) (by rw [hXD]; exact hs1.ext.size) (by rw [hXD,hXL]; omega) hR4 hf4 hMb hend hd4 hE1 hA4
      rw [hX] at ho
      exact ⟨by simp,.inl ⟨_,w',rfl,ht,u,hu,u,rfl,ho⟩⟩
     refine ⟨w1.heap.size+1,[{ target:=.collected w1.heap.size,args:=#[] }],(w1.alloc (.deferred (some []))).alloc (.loop { state:=.ready,pending:=none,fn:=fn,tmps:=a.tmps,params:=#[17],assign:=Bu,body:=FM,defers:=w1.heap.size }),{ target:=.fn (.func 60) #[p8,p9],args:=#[yV (w1.heap.size+1)] },(w1.alloc (.deferred (some []))).alloc (.loop { state:=.ready,pending:=none,fn:=fn,tmps:=a.tmps,params:=#[17],assign:=Bu,body:=FM,defers:=w1.heap.size }),60,#[yV (w1.heap.size+1)] ++ #[p8,p9],(w1.alloc (.deferred (some []))).alloc (.loop { state:=.ready,pending:=none,fn:=fn,tmps:=a.tmps,params:=#[17],assign:=Bu,body:=FM,defers:=w1.heap.size }),run_enterLoop_outer _ _ _ _ _,?_,fun _ _=>trivial,?_,fun h=>(by cases h),?_⟩
     ·simp only [resolve,hg]
      simp [go_sem]
     ·simp [invoke,go_sem]
     ·have hrc:({ state:=.ready,pending:=none,fn:=fn,tmps:=a.tmps,params:=#[17],assign:=Bu,body:=FM,defers:=w1.heap.size }:Loop)=X.rc .ready none:=by rw [hX]; rfl
      rw [hrc,<- hXL]
      refine CP (Calls.mono hit fun e w2 ⟨v0,he,ρ2,hA2,hc⟩=>?_)
      subst he
      rcases hc with ⟨k,hk,hm⟩ | hst
      ·refine ⟨none,_,run_endLoop (P:=Tryz.prog) hm.loop (by simp [PX.rc]),?_⟩
       obtain ⟨p1,p2,p3⟩:=MD (s:=X.s) hm.ok hk
       have hRm:=hm.rep.zM (l:=X.L) (.loop { X.rc .ready none with state:=.exhausted }) (.inr (.inr rfl))
       have A2:Adv X.Z ρ1 _ ρ2 (w2.putObj X.L (.loop { X.rc .ready none with state:=.exhausted })):=hA2.trans (.put _ (.inr rfl))
       have hfm:FrR (cx X.g ρ2 (w2.putObj X.L (.loop { X.rc .ready none with state:=.exhausted }))) ρ2 frP X.FP:=hm.fr.carry ((Adv.put (Z:=X.Z) (ρ:=ρ2) (w:=w2) _ (.inr rfl)).le (G:=X.g) (fun b hb=>.inr hb)) (gV.refl _)
       have hdm:(w2.putObj X.L (.loop { X.rc .ready none with state:=.exhausted })).heap[X.D]? = some (.deferred (some [])):=(World.putObj_heap_other (by rw [hXD,hXL]; omega)).trans hm.dfr
       have hlen2:ρ2.length=11:=hm.rep.obj.length.symm
       revert hRm A2 hfm hdm
       generalize w2.putObj X.L (.loop { X.rc .ready none with state:=.exhausted })=w4
       intro hRm A2 hfm hdm
       have hwc:WC Tryz.prog (fun e b w5=>e = .ret/\bodyPostM (eH none) 0 Tryz.prog Tryz.f16 (fun e w'=>∃ u,e = .returned u/\xN G w s l v u w') .ret (fK b [{ target:=.collected X.D,args:=#[] }]) w5) 40 Ic X.FP w4:=by
        refine x_ hGgX (Nat.le_of_eq hlen2) (by kernel_rfl) (KQ (s:=pS X.v X.s (X.l.take k)) (r:=pR X.v X.s (X.l.take k)) (l:=X.l) (v:=X.v)) (⟨ρ2,Stp.refl _ _ _,hRm,hfm⟩) fun e fr H F w5 hK hs=>?_
        cases e with
        | ret=>
         obtain ⟨ρ5,hs5,hr5,hf5⟩:=hs
         have hd5:w5.heap[X.D]? = some (.deferred (some [])):=(hs5.ext.old _ (dv hdm) (hRm.gO (.inr (.inl rfl)))).2.trans hdm
         have hend:endE tyT [] 0 Tryz.f16 (rE (pS X.v X.s (X.l.take k)) 0) (hE (pS X.v X.s (X.l.take k)) (pR X.v X.s (X.l.take k))) fr H:=hK
         rw [p1,p2,p3] at hend
         exact fun b hb=>⟨rfl,hfin hr5 hf5 hb hend hd5 (A2.trans (.qE hs5.ext hs5.bx))⟩
        | _=>exact hK.elim
       have hwi:=Cc (m:=0) (hwc a hMa none [{ target:=.collected X.D,args:=#[] }])
       rw [hXD] at hwi
       have hadf:({ a with defers:=[{ target:=.collected w1.heap.size,args:=#[] }]++a.defers }:Act)=fK a [{ target:=.collected w1.heap.size,args:=#[] }]:=by rw [ha.1]; rfl
       show Exit.inBlock 0 _ .normal _ w4
       rw [hadf]
       refine wpIn_mono hwi fun e b w5 ⟨b0,hb0,hbe,hbr,hpost⟩=>?_
       subst hbr; subst hbe
       exact hpost
      ·refine ⟨some .ret,_,run_endLoop (P:=Tryz.prog) hst.loop (by simp [PX.rc]),?_⟩
       obtain ⟨H,hR,hend⟩:=hst.rep
       have A2:Adv X.Z ρ1 _ ρ2 (w2.putObj X.L (.loop { X.rc .done (some .ret) with state:=.exhausted })):=hA2.trans (.put _ (.inr rfl))
       have hfm:FrR (cx X.g ρ2 (w2.putObj X.L (.loop { X.rc .done (some .ret) with state:=.exhausted }))) ρ2 frP X.FP:=hst.fr.carry ((Adv.put (Z:=X.Z) (ρ:=ρ2) (w:=w2) _ (.inr rfl)).le (G:=X.g) (fun b hb=>.inr hb)) (gV.refl _)
       have hdm:(w2.putObj X.L (.loop { X.rc .done (some .ret) with state:=.exhausted })).heap[X.D]? = some (.deferred (some [])):=(World.putObj_heap_other (by rw [hXD,hXL]; omega)).trans hst.dfr
       have hp:=hfin (hR.zM _ (.inr (.inr rfl))) hfm hMa hend hdm A2
       have hadf:({ a with defers:=[{ target:=.collected w1.heap.size,args:=#[] }]++a.defers }:Act)=fK a [{ target:=.collected w1.heap.size,args:=#[] }]:=by rw [ha.1]; rfl
       rw [hXD] at hp
       show Code.ret.wpIn _ _ _ _ _ _
       rw [hadf]
       exact wpIn_ret hp
    | _=>exact hK.elim
   | _=>exact hK.elim
  | _=>exact hK.elim
 | _=>exact hK.elim
theorem BG (s:State) (l:List Entry) (v:Int):Sat Tryz.prog (aj tyT) 16 [.agg (cellsOf (.nm .state) s),.c (.fz (.nm .entry) l),.c (.int v)] [] ⟨[],rE (plS v s l) (pE v l),some (hE (plS v s l) (plR v s l)),true⟩:=by
 refine ⟨⟨_,Tryz.func16,by decide,by kernel_rfl⟩,fun G ρ w vs hG hR hvs=>?_⟩
 have hρ:ρ=[]:=List.eq_nil_of_length_eq_zero hR.obj.length.symm
 subst hρ
 refine (Fe hG hR hvs).mono fun u w' ⟨us,e,ρ',h1,h2,h3,h4⟩=>⟨us,e,ρ',h1,h2,fun i g h=>by simp at h,h3,fun _=>⟨h4,fun i r h=>by simp at h⟩⟩
end Go.Proofs.YtladifkbefehdaaGreat
namespace Go.Proofs.YtladifkbefehdaaGreat
open Go.RowKit
section
variable {v:Int} {s:State} {l:List Entry} {k:Nat} {x:Entry}
end
def ld (x:Entry):Entry:=⟨x.term,x.b.take 100⟩
def tK (l:List Entry):List Entry:=(l.take 40).map ld
theorem KD {l:List Entry} {k:Nat} {x:Entry} (hx:l[k]? = some x) (_:100<x.b.length):(l.take k).map ld++[Entry.mk x.term (x.b.take 100)]=(l.take (k+1)).map ld:=by
 rw [ax hx,List.map_append]; rfl
theorem Nb {l:List Entry} {k:Nat} {x:Entry} (hx:l[k]? = some x) (h:x.b.length<=100):(l.take k).map ld++[x]=(l.take (k+1)).map ld:=by
 have e:ld x=x:=by unfold ld; rw [List.take_of_length_le h]
 rw [ax hx,List.map_append,List.map_singleton,e]
theorem Mo {l:List Entry} {k:Nat} (h:k<=40) (h2:(l.length:Int)<=k\/40<=(k:Int)):(l.take k).map ld=tK l:=by
 unfold tK
 by_cases e:k=40
 ·rw [e]
 ·rw [List.take_of_length_le (by omega),List.take_of_length_le (by omega)]
def Dp (l:List Entry):List (Nat × LI):=[(3,{ σ:=Nat,F:=fun k=>([(0,one (.fz (.nm .entry) (l))),(3,one (.own 0)),(4,one (.int k))],[.row 30 (.nm .entry) (((l.take k).map ld))]),J:=fun k=>k<=l.length/\k<=40,μ:=fun k=>l.length - k })]
theorem Jd (st:State) (l:List Entry) (v:Int):Sat Tryz.prog (aj tyT) 16 [.agg (cellsOf (.nm .state) st),.c (.fz (.nm .entry) (l)),.c (.int (v))] [] ⟨[],[.agg ([.int (((plS v st l).version)),.int (((plS v st l).next)),.int (((plS v st l).keep)),.int (((plS v st l).quota)),.own 0,.own 1,.own 2]),.c (.own 3),.c (.int ((pE v l)))],some ([.row 82 (.nm .sess) (((plS v st l).sess)),.row 63 (.nm .opn) (((plS v st l).opens)),.row 73 (.nm .snap) (((plS v st l).snaps)),.row 56 (.nm .reply) ((plR v st l))]),true⟩:=BG st l v
theorem IV (l:List Entry) (r0:List Entry):cF tyT Mb (Dp l) Tryz.f15 [.c (.fz (.nm .entry) (l))] [] [.c (.fz (.nm .entry) (r0))]=((fun (q0:Nat)=>l.length*(32:Nat)<=(140737488355328:Nat)->∃ (s0:Nat),(l=l/\(0:Int)=(↑s0:Int)/\List.map ld (List.take s0 l)=[])/\(s0<=q0/\s0<=(40:Nat))/\∀ (s:Nat),(fun (q2:List (den (Sh.nm NT.entry)))=>(fun (q1:Int)=>s<=q0/\s<=(40:Nat)->((↑s:Int)<(↑l.length:Int)/\(↑s:Int)<(40:Int)->(0:Int)<=(↑s:Int)/\(↑s:Int)<(↑l.length:Int)/\∀ (x:Entry),l[s]? = some x->I64 x.term->x.b.length*(1:Nat)<=(140737488355328:Nat)->((100:Int)<(↑x.b.length:Int)->(0:Int)<=(100:Int)/\(100:Int)<=(↑x.b.length:Int)/\(q2.length+[Entry.mk x.term (List.take (100:Nat) x.b)].length)*(32:Nat)<=(140737488355328:Nat)/\I64 q1/\∃ (s':Nat),(l=l/\q1=(↑s':Int)/\q2++[Entry.mk x.term (List.take (100:Nat) x.b)]=List.map ld (List.take s' l))/\(s' <= q0/\s' <= (40:Nat))/\q0 - s' < q0 - s)/\((↑x.b.length:Int)<=(100:Int)->(q2.length+[x].length)*(32:Nat)<=(140737488355328:Nat)/\I64 q1/\∃ (s':Nat),(l=l/\q1=(↑s':Int)/\q2++[x]=List.map ld (List.take s' l))/\(s' <= q0/\s' <= (40:Nat))/\q0 - s' < q0 - s))/\((↑l.length:Int)<=(↑s:Int)\/(40:Int)<=(↑s:Int)->q2=r0)) ((↑s:Int)+(1:Int))) (List.map ld (List.take s l))) l.length):=by kernel_rfl
theorem Jh (l:List Entry):Sat Tryz.prog (aj tyT) 15 [.c (.fz (.nm .entry) (l))] [] ⟨[],[.c (.fz (.nm .entry) ((tK l)))],none,false⟩:=by
 refine aM xF (Dp l) Tryz.func15 (by decide) (by kernel_rfl) ?_
 rw [IV]
 (repeat' (first | with_reducible refine And.intro ?_ ?_ | with_reducible refine and_imp.2 ?_ | intro))
 all_goals try (first | (first | with_reducible rfl | with_reducible assumption | omega | (refine ah ?_ ?_ <;> omega)) | exact rfl | exact (KD (by with_reducible assumption) (by omega)) | exact (Nb (by with_reducible assumption) (by omega)) | exact (Mo (by omega) (by omega)) | (simp only [List.length_map,List.length_take,List.length_cons,List.length_nil]; omega))
 all_goals try (refine ⟨0,?_⟩; (repeat' (first | with_reducible refine And.intro ?_ ?_ | with_reducible refine and_imp.2 ?_ | intro)))
 all_goals try (first | (first | with_reducible rfl | with_reducible assumption | omega | (refine ah ?_ ?_ <;> omega)) | exact rfl | exact (KD (by with_reducible assumption) (by omega)) | exact (Nb (by with_reducible assumption) (by omega)) | exact (Mo (by omega) (by omega)) | (simp only [List.length_map,List.length_take,List.length_cons,List.length_nil]; omega))
 all_goals try (refine ⟨‹Nat› + 1,?_⟩; (repeat' (first | with_reducible refine And.intro ?_ ?_ | with_reducible refine and_imp.2 ?_ | intro)))
 all_goals (first | (first | with_reducible rfl | with_reducible assumption | omega | (refine ah ?_ ?_ <;> omega)) | exact rfl | exact (KD (by with_reducible assumption) (by omega)) | exact (Nb (by with_reducible assumption) (by omega)) | exact (Mo (by omega) (by omega)) | (simp only [List.length_map,List.length_take,List.length_cons,List.length_nil]; omega))
noncomputable def OM:cj:=(br 15 (bp (ai (kC (cL (.nm .entry))) aK) aJ fun (l,_) (_)=>⟨[],[.c (.fz (.nm .entry) ((tK l)))],none,false⟩) (br 16 (bp (ai (kT (.nm .state)) (ai (kC (cL (.nm .entry))) (ai (kC cI) aK))) aJ fun (st,l,v,_) (_)=>⟨[],[.agg ([.int (((plS v st l).version)),.int (((plS v st l).next)),.int (((plS v st l).keep)),.int (((plS v st l).quota)),.own 0,.own 1,.own 2]),.c (.own 3),.c (.int ((pE v l)))],some ([.row 82 (.nm .sess) (((plS v st l).sess)),.row 63 (.nm .opn) (((plS v st l).opens)),.row 73 (.nm .snap) (((plS v st l).snaps)),.row 56 (.nm .reply) ((plR v st l))]),true⟩) Mb))
theorem IP:aN Tryz.prog (aj tyT) OM:=(av (au (ab (ao bb) ak) al fun (l,_) (_) _=>Jh l ) (av (au (ab bn (ab (ao bb) (ab (ao aw) ak))) al fun (st,l,v,_) (_) _=>Jd st l v ) xF))
end Go.Proofs.YtladifkbefehdaaGreat
namespace Go.Proofs.YtladifkbefehdaaGreat
open Go.RowKit
section
variable {v:Int} {s:State} {l:List Entry} {x:Entry}
theorem xR:pN v (x :: l)=if (aP x v).e=0 then pN v l+1 else 0:=rfl
theorem nM:plS v s (x :: l)=if (aP x v).e=0 then plS v (ep v s x) l else s:=by
 unfold plS
 rw [xR]
 split
 ·rfl
 ·rfl
theorem kj:plR v s (x :: l)=if (aP x v).e=0 then jU v s x :: plR v (ep v s x) l else []:=by
 unfold plR
 rw [xR]
 split
 ·rfl
 ·rfl
theorem mQ:pE v (x :: l)=if (aP x v).e=0 then pE v l else (aP x v).e:=rfl
theorem qL {b:List Entry}:∀ {l:List Entry} {s:State},pE v (l++b)=(if pE v l=0 then pE v b else pE v l)/\plS v s (l++b)=(if pE v l=0 then plS v (plS v s l) b else plS v s l)/\plR v s (l++b)=(if pE v l=0 then plR v s l++plR v (plS v s l) b else plR v s l)
 | [],s=>⟨rfl,rfl,rfl⟩
 | x :: l,s=>by
  rw [List.cons_append,mQ,mQ,nM,nM,kj,kj]
  by_cases h:(aP x v).e=0
  ·obtain ⟨h1,h2,h3⟩:=qL (b:=b) (l:=l) (s:=ep v s x)
   rw [if_pos h,if_pos h,if_pos h,if_pos h,if_pos h,if_pos h,h1,h2,h3]
   refine ⟨rfl,rfl,?_⟩
   split <;> rfl
  ·simp [h]
theorem Ce:∀ {l:List Entry} {s:State},(pE v l=0->(plR v s l).length=l.length)/\(¬ pE v l=0->(plR v s l).length<l.length)
 | [],s=>⟨fun _=>rfl,fun h=>absurd rfl h⟩
 | x :: l,s=>by
  rw [mQ,kj]
  by_cases h:(aP x v).e=0
  ·obtain ⟨h1,h2⟩:=Ce (l:=l) (s:=ep v s x)
   rw [if_pos h,if_pos h]
   exact ⟨fun e=>congrArg (· + 1) (h1 e),fun e=>Nat.succ_lt_succ (h2 e)⟩
  ·rw [if_neg h,if_neg h]
   exact ⟨fun e=>absurd e h,fun _=>Nat.succ_pos _⟩
theorem KU (k:Nat):pE v l=(if pE v (l.take k)=0 then pE v (l.drop k) else pE v (l.take k))/\plS v s l=(if pE v (l.take k)=0 then plS v (plS v s (l.take k)) (l.drop k) else plS v s (l.take k))/\plR v s l=(if pE v (l.take k)=0 then plR v s (l.take k)++plR v (plS v s (l.take k)) (l.drop k) else plR v s (l.take k)):=by
 have h:=qL (v:=v) (b:=l.drop k) (l:=l.take k) (s:=s)
 rwa [List.take_append_drop] at h
theorem GI (l:List Entry):(tK l).length<=40:=by unfold tK; rw [List.length_map,List.length_take]; omega
theorem NI:(plR v s l).length<=l.length:=by
 unfold plR; rw [wN,List.length_take]; omega
theorem DE {t:Int}:aP (Entry.mk t []) 3=⟨cd,false,0⟩:=QO (by decide) (by decide)
theorem QL {t:Int}:pE 3 [Entry.mk t []]=0/\plS 3 s [Entry.mk t []]=s/\plR 3 s [Entry.mk t []]=[Reply.mk 0 0]:=by
 refine ⟨?_,?_,?_⟩
 ·rw [mQ,DE]; rfl
 ·rw [nM,DE,PA (by rw [DE])]; rfl
 ·rw [kj,DE,OJ (by rw [DE])]; rfl
theorem Fj {K:Int} {t:Int} (hK:K<=(l.length:Int)):(¬ pE 3 (l.take K.toNat)=0->((plR 3 s l).length:Int)<K/\plS 3 s l=plS 3 s (l.take K.toNat++[Entry.mk t []]++l.drop K.toNat)/\pE 3 l=pE 3 (l.take K.toNat++[Entry.mk t []]++l.drop K.toNat)/\plR 3 s l=plR 3 s (l.take K.toNat++[Entry.mk t []]++l.drop K.toNat)) /\
  (pE 3 (l.take K.toNat)=0->(0<=K->K<=((plR 3 s l).length:Int))/\plS 3 s l=plS 3 s (l.take K.toNat++[Entry.mk t []]++l.drop K.toNat)/\pE 3 l=pE 3 (l.take K.toNat++[Entry.mk t []]++l.drop K.toNat)/\plR 3 s (l.take K.toNat++[Entry.mk t []]++l.drop K.toNat)=(plR 3 s l).take K.toNat++[Reply.mk 0 0]++(plR 3 s l).drop K.toNat):=by
 obtain ⟨h1,h2,h3⟩:=KU (v:=3) (s:=s) (l:=l) K.toNat
 obtain ⟨g1,g2,g3⟩:=qL (v:=3) (s:=s) (b:=[Entry.mk t []]++l.drop K.toNat) (l:=l.take K.toNat)
 obtain ⟨b1,b2,b3⟩:=QL (s:=plS 3 s (l.take K.toNat)) (t:=t)
 obtain ⟨c1,c2,c3⟩:=qL (v:=3) (s:=plS 3 s (l.take K.toNat)) (b:=l.drop K.toNat) (l:=[Entry.mk t []])
 rw [if_pos b1] at c1 c2 c3
 rw [b2] at c2 c3
 rw [b3] at c3
 have hl:=Ce (v:=3) (l:=l.take K.toNat) (s:=s)
 have hlt:(l.take K.toNat).length=K.toNat:=by rw [List.length_take]; omega
 rw [List.append_assoc]
 refine ⟨fun h=>?_,fun h=>?_⟩
 ·rw [if_neg h] at h1 h2 h3 g1 g2 g3
  have:=hl.2 h
  rw [h2,h1,h3,g1,g2,g3]
  exact ⟨by omega,rfl,rfl,rfl⟩
 ·rw [if_pos h] at h1 h2 h3 g1 g2 g3
  have hle:=hl.1 h
  rw [hlt] at hle
  rw [g1,g2,g3,c1,c2,c3,h1,h2,h3]
  refine ⟨fun h0=>?_,rfl,rfl,?_⟩
  ·rw [List.length_append,hle]; omega
  ·rw [List.take_left' hle,List.drop_left' hle,List.append_assoc]
theorem QK {K:Int} (hK:0<=K/\K<=(l.length:Int)) (h:((plR 3 s l).length:Int)<K):(true && decide (plS 3 s l=plS 3 s (l.take K.toNat++[Entry.mk 7 []]++l.drop K.toNat)) && decide (pE 3 l=pE 3 (l.take K.toNat++[Entry.mk 7 []]++l.drop K.toNat)) && decide (plR 3 s l=plR 3 s (l.take K.toNat++[Entry.mk 7 []]++l.drop K.toNat)))=true:=by
 obtain ⟨h1,h2⟩:=Fj (s:=s) (t:=7) hK.2
 by_cases e:pE 3 (l.take K.toNat)=0
 ·have:=(h2 e).1 hK.1; omega
 ·obtain ⟨_,a,b,c⟩:=h1 e
  rw [decide_eq_true a,decide_eq_true b,decide_eq_true c]; rfl
theorem Qm {K:Int} (hK:0<=K/\K<=(l.length:Int)) (h:K<=((plR 3 s l).length:Int)):(true && decide (plS 3 s l=plS 3 s (l.take K.toNat++[Entry.mk 7 []]++l.drop K.toNat)) && decide (pE 3 l=pE 3 (l.take K.toNat++[Entry.mk 7 []]++l.drop K.toNat)) && decide (plR 3 s (l.take K.toNat++[Entry.mk 7 []]++l.drop K.toNat)=(plR 3 s l).take K.toNat++[Reply.mk 0 0]++(plR 3 s l).drop K.toNat))=true:=by
 obtain ⟨h1,h2⟩:=Fj (s:=s) (t:=7) hK.2
 by_cases e:pE 3 (l.take K.toNat)=0
 ·obtain ⟨_,a,b,c⟩:=h2 e
  rw [decide_eq_true a,decide_eq_true b,decide_eq_true c]; rfl
 ·have:=(h1 e).1; omega
end
theorem Hx (st:State) (l:List Entry) (q:Int) (r0:Bool):cF tyT OM [] Tryz.f6 [.agg (cellsOf (.nm .state) st),.c (.fz (.nm .entry) (l)),.c (.int (q))] [] [.c (.bool (.atom (r0)))]=((fun (q10:List (den (Sh.nm NT.entry)))=>(fun (q9:Nat)=>(fun (q8:List Entry)=>(fun (q7:Int)=>(fun (q6:Nat)=>(fun (q5:State)=>(fun (q4:Int)=>(fun (q3:State)=>(fun (q2:List Reply)=>(fun (q1:Int)=>(fun (q0:List (den (Sh.nm NT.entry)))=>I64 st.version->I64 st.next->I64 st.keep->I64 st.quota->st.sess.length*q9<=q6->st.opens.length*(16:Nat)<=q6->st.snaps.length*(64:Nat)<=q6->l.length*q9<=q6->I64 q->I64 q5.version->I64 q5.next->I64 q5.keep->I64 q5.quota->q5.sess.length*q9<=q6->q5.opens.length*(16:Nat)<=q6->q5.snaps.length*(64:Nat)<=q6->q8.length*q9<=q6->q7<=q1/\q1<=(↑q8.length:Int)/\(List.take q1.toNat q8).length*q9<=q6/\((List.take q1.toNat q8).length+q10.length)*q9<=q6/\q7<=q1/\q1<=(↑q8.length:Int)/\((List.take q1.toNat q8++q10).length+(List.drop q1.toNat q8).length)*q9<=q6/\(I64 q3.version->I64 q3.next->I64 q3.keep->I64 q3.quota->I64 (pE q4 q8)->I64 (plS q4 q5 q0).version->I64 (plS q4 q5 q0).next->I64 (plS q4 q5 q0).keep->I64 (plS q4 q5 q0).quota->I64 (pE q4 q0)->((↑q2.length:Int)<q1->(true && decide (q3=plS q4 q5 q0) && decide (pE q4 q8=pE q4 q0) && decide (q2=plR q4 q5 q0))=r0)/\(q1<=(↑q2.length:Int)->q7<=q1/\q1<=(↑q2.length:Int)/\(List.take q1.toNat q2).length*(16:Nat)<=q6/\((List.take q1.toNat q2).length+[Reply.mk q7 q7].length)*(16:Nat)<=q6/\q7<=q1/\q1<=(↑q2.length:Int)/\((List.take q1.toNat q2++[Reply.mk q7 q7]).length+(List.drop q1.toNat q2).length)*(16:Nat)<=q6/\(true && decide (q3=plS q4 q5 q0) && decide (pE q4 q8=pE q4 q0) && decide (plR q4 q5 q0=List.take q1.toNat q2++[Reply.mk q7 q7]++List.drop q1.toNat q2))=r0))) (List.take q1.toNat q8++q10++List.drop q1.toNat q8)) (min (max q q7) (↑q8.length:Int))) (plR q4 q5 q8)) (plS q4 q5 q8)) (3:Int)) (dL st)) (140737488355328:Nat)) (0:Int)) (tK l)) (32:Nat)) [Entry.mk (7:Int) []]):=by kernel_rfl
theorem Hl (st:State) (l:List Entry) (q:Int):Sat Tryz.prog (aj tyT) 6 [.agg (cellsOf (.nm .state) st),.c (.fz (.nm .entry) (l)),.c (.int (q))] [] ⟨[],[.c (.bool (.atom ((true))))],none,false⟩:=by
 refine aM IP [] Tryz.func6 (by decide) (by kernel_rfl) ?_
 rw [Hx]
 (repeat' (first | with_reducible refine And.intro ?_ ?_ | with_reducible refine and_imp.2 ?_ | intro))
 all_goals (first | (first | with_reducible rfl | with_reducible assumption | omega | (refine ah ?_ ?_ <;> omega)) | exact (QK (by omega) (by with_reducible assumption)) | exact (Qm (by omega) (by with_reducible assumption)) | (have hh:=NI (v:=3) (s:=dL st) (l:=tK l); have h40:=GI l; simp only [List.length_append,List.length_take,List.length_drop,List.length_cons,List.length_nil]; omega))
end Go.Proofs.YtladifkbefehdaaGreat
namespace Go.Proofs.YtladifkbefehdaaGreat
open Go.RowKit Go.ChangeShapes Go.WideShapes
def yE (shp:TypeId->Option Sh) (w:World):Cx:=cx ⟨shp,w.heap.size,fun _=>False⟩ [] w
theorem Ng {shp:TypeId->Option Sh} {w:World} {s:Sh} {b:Nat} (h:b<w.heap.size):(yE shp w).at s b:=⟨⟨h,fun ⟨_,_,h,_⟩=>by simp at h,fun h=>h⟩,.inl h⟩
def Tr (P:Program) (shp:TypeId->Option Sh) (t:TypeId) (s:Sh):Prop:=
 ∀ (H:Type) (enc:TypeId × Value->H) (w:World) (fuel:Nat) (cs:List Value) (x:DataW H × List MemPlace),
  DataW.trod enc P w 0 (fun _=>true) true fuel t cs=some x->(∀ n ∈ x.1.weights P t,n<=140737488351232)->(∀ q ∈ x.2,q.block<w.heap.size)->∃ y:den s,Pds (yE shp w) (cellsOf s y) cs
def Nw:List Sh->List AV->Prop
 | [],asx=>asx=[]
 | s :: r,asx=>∃ (y:den s) (l:List AV),asx=cellsOf s y++l/\Nw r l
def Pl:List Sh->Nat
 | []=>0
 | s :: r=>s.size+Pl r
def jd (P:Program) (shp:TypeId->Option Sh) (fs:List Go.Field) (o:Nat) (ss:List Sh):Prop:=
 ∀ (H:Type) (enc:TypeId × Value->H) (w:World) (fuel:Nat) (cs:List Value) (xs:List (DataW H × List MemPlace)),
  cs.length=o+Pl ss->xs.length=fs.length->(∀ (i:Nat) (f:Go.Field),fs[i]? = some f->DataW.trod enc P w 0 (fun _=>true) true fuel f.type ((cs.drop f.offset).take (P.cellsOf f.type))=xs[i]?) ->
  (∀ n ∈ DataW.weightsEach P (fs.map (·.type)) (xs.map (·.1)),n<=140737488351232)->(∀ q ∈ xs.flatMap (·.2),q.block<w.heap.size)->∃ asx,Nw ss asx/\Pds (yE shp w) asx (cs.drop o)
section
variable {P:Program} {shp:TypeId->Option Sh} {t:TypeId}
theorem Tr.int (h:P.underlying t=some (.int .i64)):Tr P shp t .int:=fun _ enc w fuel cs x hx _ _=>by
 obtain ⟨n,rfl,_,hw⟩:=DataW.trod_int h hx
 have h1:IntKind.i64.min = -9223372036854775808:=rfl
 have h2:IntKind.i64.max=9223372036854775807:=rfl
 simp only [Lit.wf,Bool.and_eq_true,decide_eq_true_eq] at hw
 exact ⟨n,.cons (.int ⟨by omega,by omega⟩) .nil⟩
theorem Tr.bool (h:P.underlying t=some .bool):Tr P shp t .bool:=fun _ enc w fuel cs x hx _ _=>by
 obtain ⟨n,rfl,_⟩:=DataW.trod_bool h hx
 exact ⟨n,.cons (Pd.bool (e:=.atom n)) .nil⟩
theorem Tr.u8 (h:P.underlying t=some (.int .u8)):Tr P shp t .u8:=fun _ enc w fuel cs x hx _ _=>by
 obtain ⟨n,rfl,_,hw⟩:=DataW.trod_int h hx
 have h1:IntKind.u8.min=0:=rfl
 have h2:IntKind.u8.max=255:=rfl
 simp only [Lit.wf,Bool.and_eq_true,decide_eq_true_eq] at hw
 refine ⟨UInt8.ofNat n.toNat,?_⟩
 have:n=((UInt8.ofNat n.toNat).toNat:Int):=by
  rw [UInt8.toNat_ofNat']; omega
 generalize hg:UInt8.ofNat n.toNat=b at this
 subst this
 exact .cons .u8 .nil
theorem Tr.u64 (h:P.underlying t=some (.int .u64)):Tr P shp t .u64:=fun _ enc w fuel cs x hx _ _=>by
 obtain ⟨n,rfl,_,hw⟩:=DataW.trod_int h hx
 have h1:IntKind.u64.min=0:=rfl
 have h2:IntKind.u64.max=18446744073709551615:=rfl
 simp only [Lit.wf,Bool.and_eq_true,decide_eq_true_eq] at hw
 refine ⟨⟨n.toNat⟩,?_⟩
 have:n=(n.toNat:Int):=by omega
 generalize hg:n.toNat=b at this
 subst this
 exact .cons (.u64 (by show b<_; omega)) .nil
theorem Tr.str (h:P.underlying t=some .string):Tr P shp t .str:=fun _ enc w fuel cs x hx hw _=>by
 obtain ⟨s,rfl,hx,_⟩:=DataW.trod_string h hx
 refine ⟨⟨s.data.toList⟩,?_⟩
 have:=hw s.data.toList.length (by rw [hx]; simp [DataW.weights])
 have e:=Pd.str (c:=yE shp w) (s:=⟨s.data.toList⟩) (by show s.data.toList.length<=_; omega)
 have e2:(⟨s.data.toList⟩:Str).val = .string s:=by simp [Str.val]
 rw [e2] at e
 exact .cons e .nil
theorem ic {H:Type} {e:TypeId}:∀ {ds:List (DataW H)} {d:DataW H},d ∈ ds->∀ n ∈ d.weights P e,n ∈ DataW.weightsAll P e ds
 | [],_,h,_,_=>by cases h
 | d0 :: ds,d,h,n,hn=>by
  rw [DataW.weightsAll,List.mem_append]
  rcases List.mem_cons.1 h with rfl | h
  ·exact .inl hn
  ·exact .inr (ic h n hn)
theorem zn {s:Sh} {xs:List (den s)} {y:den s}:(xs++[y]).flatMap (cellsOf s)=xs.flatMap (cellsOf s)++cellsOf s y:=by simp
theorem Tr.list {e:TypeId} {s:Sh} (ht:P.underlying t=some (.slice e)) (hC:P.cellsOf e=s.size) (hB:P.bytesOf e=s.bytes) (he:Tr P shp e s):Tr P shp t (.lst s):=fun H enc w fuel cs x hx hw hlt=>by
 have hp:=size_pos s
 rcases DataW.trod_slice ht hx with ⟨rfl,_⟩ | ⟨a,len,cap,elems,rest,n,rfl,rfl,rfl,_,hl,hc,hel,hget,hrest,_⟩
 ·exact ⟨([]:List (den s)),.cons (Pd.qW (.em (a:=none) (b:=true) rfl)) .nil⟩
 ·rw [hC] at *
  have step:∀ m,m<=len->∃ (cells:List Value) (xs:List (den s)),Pds (yE shp w) (xs.flatMap (cellsOf s)) cells/\xs.length=m/\CellsAt w a cells:=by
   intro m
   induction m with
   | zero=>intro _; exact ⟨[],[],.nil,rfl,CellsAt.nil⟩
   | succ m ih=>
    intro hm
    obtain ⟨cells,xs,h1,h2,h3⟩:=ih (by omega)
    have hg:=hget m (by omega)
    have hem:elems[m]? = some (elems[m]'(by omega)):=List.getElem?_eq_getElem (by omega)
    rw [hem,Option.bind_eq_some_iff] at hg
    obtain ⟨cs,hcs,htr⟩:=hg
    have hmem:elems[m]'(by omega) ∈ elems:=List.getElem_mem _
    obtain ⟨y,hy⟩:=he H enc w n cs _ htr
     (fun k hk=>hw k (by
      simp only [DataW.weights,ht,List.mem_cons,List.mem_append]
      exact .inr (.inl (ic (List.mem_map_of_mem hmem) k hk))))
     (fun q hq=>hlt q (by
      simp only [List.mem_append,List.mem_flatMap]
      exact .inr ⟨_,.inl hmem,hq⟩))
    obtain ⟨_,hcl,hat⟩:=World.cells?_some hcs
    refine ⟨cells++cs,xs++[y],by rw [zn]; exact h1.append hy,by simp [h2],fun j v hv=>?_⟩
    have hfl:cells.length=m*s.size:=by rw [<- h1.length,bO,h2]
    by_cases hj:j<m*s.size
    ·rw [List.getElem?_append_left (by omega)] at hv
     exact h3 j v hv
    ·rw [List.getElem?_append_right (by omega),hfl] at hv
     have hj2:=wF hv
     have:=hat (j - m*s.size) (by omega)
     rw [hv,add_add,show m*s.size+(j - m*s.size)=j by omega] at this
     exact this
  obtain ⟨cells,xs,h1,h2,h3⟩:=step len (Nat.le_refl _)
  have hwt:(elems.length+rest.length)*P.bytesOf e<=140737488351232:=hw _ (by simp [DataW.weights,ht])
  refine ⟨xs,.cons ?_ .nil⟩
  subst h2
  refine .fz (by omega) hc ?_ h1 ?_
  ·rw [hB] at hwt
   have:xs.length*s.bytes<=(elems.length+rest.length)*s.bytes:=Nat.mul_le_mul_right _ (by omega)
   omega
  ·by_cases h0:xs.length=0
   ·left; exact List.eq_nil_of_length_eq_zero h0
   ·right
    refine ⟨a,rfl,Ng ?_,h3⟩
    have:MemPlace.cell a.block (a.off+0) ∈ MemPlace.row a ((elems.length+rest.length)*s.size):=MemPlace.mem_row.2 ⟨0,Nat.mul_pos (by omega) hp,rfl⟩
    exact hlt _ (List.mem_append_left _ this)
theorem jd.nil {o:Nat}:jd P shp [] o []:=fun H enc w fuel cs xs hl _ _ _ _=>⟨[],rfl,by rw [List.drop_eq_nil_of_le (by simp only [Pl] at hl; omega)]; exact .nil⟩
theorem jd.cons {f:Go.Field} {fs:List Go.Field} {o:Nat} {s:Sh} {ss:List Sh} (h:Tr P shp f.type s) (ho:f.offset=o) (hC:P.cellsOf f.type=s.size) (hr:jd P shp fs (o+s.size) ss):jd P shp (f :: fs) o (s :: ss):=fun H enc w fuel cs xs hl hx hf hw hlt=>by
 match xs,hx with
 | x :: xs,hx=>
  have hl':cs.length=o+(s.size+Pl ss):=hl
  have h1:=hf 0 f rfl
  rw [ho,hC] at h1
  obtain ⟨y,hy⟩:=h H enc w fuel _ x h1 (fun n hn=>hw n (by simp [DataW.weightsEach,hn])) (fun q hq=>hlt q (by simp [hq]))
  obtain ⟨z,hz1,hz2⟩:=hr H enc w fuel cs xs (by omega) (by simpa using hx) (fun i f' hi=>by simpa using hf (i+1) f' (by simpa using hi)) (fun n hn=>hw n (by simp only [List.map_cons,DataW.weightsEach,List.mem_append]; exact .inr hn)) (fun q hq=>hlt q (by simp only [List.flatMap_cons,List.mem_append]; exact .inr hq))
  refine ⟨cellsOf s y++z,⟨y,z,rfl,hz1⟩,?_⟩
  have:=hy.append hz2
  rwa [<- List.drop_drop,List.take_append_drop] at this
theorem Tr.struct {s:Sh} {ss:List Sh} {fs:Array Go.Field} (ht:P.underlying t=some (.struct fs)) (hC:P.cellsOf t=Pl ss) (hs:∀ asx,Nw ss asx->∃ y:den s,asx=cellsOf s y) (h:jd P shp fs.toList 0 ss):Tr P shp t s:=fun H enc w fuel cs x hx hw hlt=>by
 obtain ⟨xs,n,_,rfl,hl,hxl,hf⟩:=DataW.trod_struct ht hx
 obtain ⟨asx,h1,h2⟩:=h H enc w n cs xs (by omega) (by simpa using hxl) (fun i f hi=>hf i f (by simpa using hi)) (fun k hk=>hw k (by simpa [DataW.weights,ht] using hk)) hlt
 obtain ⟨y,rfl⟩:=hs asx h1
 exact ⟨y,by simpa using h2⟩
end
section
variable {H:Type} {enc:TypeId × Value->H} {P:Program} {shp:TypeId->Option Sh}
structure Ar (enc:TypeId × Value->H) (P:Program) (W:World) (t:TypeId) (v:Value):Prop where
 form:∃ base,Value.okWide P W .any base t v
 read:∃ d p fuel,DataW.trod enc P W 0 (fun _=>true) true fuel t v.cells.toList=some (d,p)/\(∀ n ∈ d.weights P t,n<=140737488351232)/\(∀ q ∈ p,q.block<W.heap.size)
variable {W:World} {t:TypeId} {v:Value}
theorem Ar.rp {s:Sh} (h:Ar enc P W t v) (ht:Tr P shp t s):∃ y:den s,Pds (yE shp W) (cellsOf s y) v.cells.toList:=by
 obtain ⟨d,p,fuel,h1,h2,h3⟩:=h.read
 exact ht H enc W fuel _ _ h1 h2 h3
theorem vW {a:AV} {u:Value} (h:Pds (yE shp W) [a] [u]):cA (yE shp W) [] (.c a) u:=by cases h with | cons h1 _=>exact iL h1
theorem Ar.int (h:Ar enc P W t v) (ht:P.underlying t=some (.int .i64)):∃ y:Int,cA (yE shp W) [] (.c (.int y)) v:=by
 obtain ⟨base,hf⟩:=h.form
 obtain ⟨n,rfl⟩:=okWide_int ht hf
 obtain ⟨y,h1⟩:=h.rp (shp:=shp) (Tr.int ht)
 exact ⟨y,vW (by simpa [Value.cells,cellsOf] using h1)⟩
theorem Ar.u8 (h:Ar enc P W t v) (ht:P.underlying t=some (.int .u8)):∃ y:UInt8,cA (yE shp W) [] (.c (.u8 y)) v:=by
 obtain ⟨base,hf⟩:=h.form
 obtain ⟨n,rfl⟩:=okWide_int ht hf
 obtain ⟨y,h1⟩:=h.rp (shp:=shp) (Tr.u8 ht)
 exact ⟨y,vW (by simpa [Value.cells,cellsOf] using h1)⟩
theorem Ar.bool (h:Ar enc P W t v) (ht:P.underlying t=some .bool):∃ y:Bool,cA (yE shp W) [] (.c (.bool (.atom y))) v:=by
 obtain ⟨base,hf⟩:=h.form
 obtain ⟨b,rfl⟩:=okWide_bool ht hf
 exact ⟨b,Pd.bool (e:=.atom b)⟩
theorem Ar.list {e:TypeId} {s:Sh} (h:Ar enc P W t v) (hu:P.underlying t=some (.slice e)) (ht:Tr P shp t (.lst s)):∃ xs:List (den s),cA (yE shp W) [] (.c (.fz s xs)) v:=by
 obtain ⟨base,hf⟩:=h.form
 obtain ⟨a,len,cap,rfl⟩:=okWide_slice hu hf
 obtain ⟨y,h1⟩:=h.rp ht
 exact ⟨y,vW (by simpa [Value.cells,cellsOf] using h1)⟩
theorem Ar.struct {s:Sh} {fs:Array Go.Field} (h:Ar enc P W t v) (hu:P.underlying t=some (.struct fs)) (ht:Tr P shp t s):∃ x:den s,cA (yE shp W) [] (.agg (cellsOf s x)) v:=by
 obtain ⟨base,hf⟩:=h.form
 obtain ⟨cs,rfl,_⟩:=okWide_struct hu hf
 obtain ⟨y,h1⟩:=h.rp ht
 exact ⟨y,cs.toList,by simp,ei (by simpa [Value.cells] using h1)⟩
theorem Jo {f:Nat} {args:List TV1} {pre:List Prop} {e:BE} {vs:List Value} (h:Sat P shp f args [] ⟨pre,[.c (.bool e)],none,false⟩) (he:e.val=true) (hv:All2 (cA (yE shp W) []) args vs):gX P f vs.toArray W fun r W'=>r = .bool true/\Kp [] W W':=by
 refine (h.2 ⟨shp,W.heap.size,fun _=>False⟩ [] W vs rfl ⟨.nil,fun _ _ _ _ _ h=>by simp at h,fun _ _ _ h=>by simp at h,fun _ h=>h.elim,Nat.le_refl _⟩ hv).mono fun v w' ⟨us,h1,h2,h3⟩=>⟨?_,h2⟩
 cases h3 with | cons h4 h5=>
 cases h5
 have h4:Pd _ (.bool e) _:=h4
 cases h4
 rw [h1,he]; rfl
theorem Ir {base:Nat} {ts:List TypeId} {args:Array Value} {ds:List (DataW H)} {p:List MemPlace} (hf:∀ (j:Nat) t v,ts[j]? = some t->args[j]? = some v->Value.okWide P W .any base t v)
  (h:DataW.TrodAll enc P W 0 (fun _=>true) true ts args.toList ds p) (hw:∀ n ∈ DataW.weightsEach P ts ds,n<=140737488351232) (hlt:∀ q ∈ p,q.block<W.heap.size) :
  args.size=ts.length/\∀ (j:Nat) t v,ts[j]? = some t->args[j]? = some v->Ar enc P W t v:=by
 have key:∀ (ts:List TypeId) (vs:List Value) (ds:List (DataW H)) (p:List MemPlace),DataW.TrodAll enc P W 0 (fun _=>true) true ts vs ds p->(∀ n ∈ DataW.weightsEach P ts ds,n<=140737488351232)->(∀ q ∈ p,q.block<W.heap.size) ->
   vs.length=ts.length/\∀ (j:Nat) t v,ts[j]? = some t->vs[j]? = some v->∃ d p fuel,DataW.trod enc P W 0 (fun _=>true) true fuel t v.cells.toList=some (d,p)/\(∀ n ∈ d.weights P t,n<=140737488351232)/\(∀ q ∈ p,q.block<W.heap.size):=by
  intro ts
  induction ts with
  | nil=>intro vs ds p h _ _; obtain ⟨rfl,_,_⟩:=trodAll_nil h; exact ⟨rfl,fun j t v h=>by simp at h⟩
  | cons t ts ih=>
   intro vs ds p h hw hlt
   obtain ⟨v,vs,d,ds,p1,p2,rfl,rfl,rfl,h1,h2⟩:=trodAll_cons h
   obtain ⟨k1,k2⟩:=ih vs ds p2 h2 (fun n hn=>hw n (by rw [DataW.weightsEach,List.mem_append]; exact .inr hn)) (fun q hq=>hlt q (List.mem_append_right _ hq))
   refine ⟨by simp [k1],fun j t' v' ht hv=>?_⟩
   cases j with
   | zero=>
    simp at ht hv
    subst ht; subst hv
    obtain ⟨fuel,hf⟩:=h1
    exact ⟨d,p1,fuel,hf,fun n hn=>hw n (by rw [DataW.weightsEach,List.mem_append]; exact .inl hn),fun q hq=>hlt q (List.mem_append_left _ hq)⟩
   | succ j=>exact k2 j t' v' (by simpa using ht) (by simpa using hv)
 obtain ⟨k1,k2⟩:=key ts args.toList ds p h hw hlt
 exact ⟨by simpa using k1,fun j t v ht hv=>⟨⟨base,hf j t v ht hv⟩,k2 j t v ht (by simpa using hv)⟩⟩
theorem zk (hl:laidOutB P=true) {W':World} (hb:Below W.heap.size W W'):∀ (ts:List TypeId) (vs:List Value) (ds:List (DataW H)) (p:List MemPlace),ts.all (fun t=>P.readableRec t && decide (t<P.types.size))=true->DataW.TrodAll enc P W 0 (fun _=>true) true ts vs ds p->(∀ q ∈ p,q.block<W.heap.size) ->
  DataW.TrodAll enc P W' 0 (fun b=>decide (b<W.heap.size)) true ts vs ds p:=by
 intro ts
 induction ts with
 | nil=>intro vs ds p _ h _; obtain ⟨rfl,rfl,rfl⟩:=trodAll_nil h; rfl
 | cons t ts ih=>
  intro vs ds p hr h hlt
  obtain ⟨v,vs,d,ds,p1,p2,rfl,rfl,rfl,h1,h2⟩:=trodAll_cons h
  rw [List.all_cons,Bool.and_eq_true,Bool.and_eq_true,decide_eq_true_eq] at hr
  exact ⟨p1,p2,Below.trod hl hr.1.1 hr.1.2 h1 hb fun q hq=>hlt q (List.mem_append_left _ hq),ih vs ds p2 hr.2 h2 fun q hq=>hlt q (List.mem_append_right _ hq),rfl⟩
theorem DJ {fn:Func} {s:ChangeSpec} {tb:TypeId} {W':World} {args:Array Value} {ds:List (DataW H)} {p:List MemPlace} (hl:laidOutB P=true)
  (hrow:fn.params.toList.all (fun t=>P.readableRec t && decide (t<P.types.size))=true) (hr:fn.resultTypes = #[tb]) (hb:P.underlying tb=some .bool) (hv:s.vars=[])
  (hs:s.fn H (ds++[])={ results:=[.lit (.bool true)],args:=ds }) (hW:DataW.Whole enc P fn.params.toList s.vars false W args.toList ds [] p) (hA:DataW.TrodAll enc P W 0 (fun _=>true) true fn.params.toList args.toList ds p) (hlt:∀ q ∈ p,q.block<W.heap.size) (hk:Kp [] W W') :
  s.post enc P fn false true false false W args (.bool true) W':=by
 refine ⟨ds,[],p,[],p,[],hW,?_,?_,?_,hk.below.frame _,fun h=>by cases h⟩
 ·rw [hs,hr]
  exact trodAll_mk1 ⟨1,by simp [DataW.trod,Value.cells,hb]⟩
 ·rw [hs]
  exact zk hl hk.below _ _ _ _ hrow hA hlt
 ·rw [hs,hv]; rfl
theorem DG {C:Checked} {os:Os} {f:FuncId} {fn:Func} {s:ChangeSpec} {conds:List PathCond} {tb:TypeId} (own:ownKnob C.prog.godebug=none) (started:os.Started) (noInit:C.prog.inits.idxOf? f=none) (hfn:C.prog.funcs[f]? = some fn)
  (witness:∃ (w:World) (tape:Tape) (i:Input),w.os=os/\(w.forCall tape i).Shaped C.prog/\i.vars=[]/\Input.okWide C.prog (w.forCall tape i) .any w.heap.size f i /\
   s.pre6 enc C.prog fn conds false (w.forCall tape i).memory i.args/\({}:Assume).holds C.prog (lone (Frame.enter C.prog f i.args .normal) [] (w.forCall tape i)))
  (hl:laidOutB C.prog=true) (hrow:fn.params.toList.all (fun t=>C.prog.readableRec t && decide (t<C.prog.types.size))=true) (hr:fn.resultTypes = #[tb]) (hb:C.prog.underlying tb=some .bool) (hv:s.vars=[])
  (hs:∀ ds:List (DataW H),ds.length=fn.params.size->s.fn H ds={ results:=[.lit (.bool true)],args:=ds })
  (law:∀ (W:World) (args:Array Value),args.size=fn.params.toList.length->(∀ (j:Nat) t v,fn.params.toList[j]? = some t->args[j]? = some v->Ar enc C.prog W t v)->gX C.prog f args W fun r W'=>r = .bool true/\Kp [] W W') :
  ReturnsInHanded {} C os f .any (s.pre6 enc C.prog fn conds false) (s.post enc C.prog fn false true false false):=by
 refine returnsInHanded_of_change_sized own started noInit hfn witness ?_
 intro W base args ds gs before hval hW _ hsz _
 have hW0:=hW
 obtain ⟨p,q,hA,hV,rfl,_,_⟩:=hW
 rw [hv] at hV
 obtain ⟨rfl,rfl⟩:=trodVars_none hV
 simp only [List.append_nil] at hW0 hsz
 have hlt:∀ x ∈ p,x.block<W.heap.size:=fun x hx=>by simpa using hW0.lt x hx
 have hwt:∀ n ∈ DataW.weightsEach C.prog fn.params.toList ds,n<=140737488351232:=fun n hn=>by
  have hmem:n ∈ DataW.weightsEach C.prog (fn.params.toList++s.plain.varTypes C.prog) ds:=by
   have:∀ (ts us:List TypeId) (ds:List (DataW H)),n ∈ DataW.weightsEach C.prog ts ds->n ∈ DataW.weightsEach C.prog (ts++us) ds:=by
    intro ts
    induction ts with
    | nil=>intro us ds h; simp [DataW.weightsEach] at h
    | cons t ts ih=>
     intro us ds h
     cases ds with
     | nil=>simp [DataW.weightsEach] at h
     | cons d ds=>
      rw [DataW.weightsEach,List.mem_append] at h
      rw [List.cons_append,DataW.weightsEach,List.mem_append]
      exact h.imp id (ih us ds)
   exact this _ _ _ hn
  exact of_decide_eq_true (List.all_eq_true.1 hsz n hmem)
 obtain ⟨hsize,har⟩:=Ir (fun j t v ht hv=>hval j t v (by simpa using ht) hv) hA hwt hlt
 have hdl:ds.length=fn.params.size:=by
  have:∀ (ts:List TypeId) (vs:List Value) (ds:List (DataW H)) (p:List MemPlace),DataW.TrodAll enc C.prog W 0 (fun _=>true) true ts vs ds p->ds.length=ts.length:=by
   intro ts
   induction ts with
   | nil=>intro vs ds p h; obtain ⟨_,rfl,_⟩:=trodAll_nil h; rfl
   | cons t ts ih=>intro vs ds p h; obtain ⟨v,vs,d,ds,p1,p2,rfl,rfl,rfl,_,h2⟩:=trodAll_cons h; simp [ih vs ds p2 h2]
  simpa using this _ _ _ _ hA
 refine Calls.mono (law W args hsize har) fun e W' ⟨v,he,hv',hk⟩=>⟨v,he,?_⟩
 subst hv'
 exact DJ hl hrow hr hb hv (by rw [List.append_nil]; exact hs ds hdl) hW0 hA hlt hk
end
end Go.Proofs.YtladifkbefehdaaGreat
namespace Go.Proofs.YtladifkbefehdaaGreat
open Go.RowKit Go.ChangeShapes Go.WideShapes
theorem Ea:ownKnob Tryz.prog.godebug=none:=by kernel_rfl
theorem FF:laidOutB Tryz.prog=true:=by kernel_rfl
theorem Qx:Tr Tryz.prog (aj tyT) 73 (.nm .snap):=Tr.struct (ss:=[.int,.int,(.lst .int),.bool,.str]) Tryz.underlying73 (by kernel_rfl) (fun cells h=>by
 obtain ⟨y0,l0,rfl,y1,l1,rfl,y2,l2,rfl,y3,l3,rfl,y4,l4,rfl,rfl⟩:=h
 exact ⟨⟨y0,y1,y2,y3,y4⟩,rfl⟩) (jd.cons (Tr.int Tryz.underlying3) rfl (by kernel_rfl) (jd.cons (Tr.int Tryz.underlying3) rfl (by kernel_rfl) (jd.cons (Tr.list Tryz.underlying22 (by kernel_rfl) (by kernel_rfl) (Tr.int Tryz.underlying3)) rfl (by kernel_rfl) (jd.cons (Tr.bool Tryz.underlying4) rfl (by kernel_rfl) (jd.cons (Tr.str Tryz.underlying9) rfl (by kernel_rfl) (jd.nil))))))
theorem RL:Tr Tryz.prog (aj tyT) 63 (.nm .opn):=Tr.struct (ss:=[.int,.int]) Tryz.underlying63 (by kernel_rfl) (fun cells h=>by
 obtain ⟨y0,l0,rfl,y1,l1,rfl,rfl⟩:=h
 exact ⟨⟨y0,y1⟩,rfl⟩) (jd.cons (Tr.int Tryz.underlying3) rfl (by kernel_rfl) (jd.cons (Tr.int Tryz.underlying3) rfl (by kernel_rfl) (jd.nil)))
theorem QI:Tr Tryz.prog (aj tyT) 56 (.nm .reply):=Tr.struct (ss:=[.int,.int]) Tryz.underlying56 (by kernel_rfl) (fun cells h=>by
 obtain ⟨y0,l0,rfl,y1,l1,rfl,rfl⟩:=h
 exact ⟨⟨y0,y1⟩,rfl⟩) (jd.cons (Tr.int Tryz.underlying31) rfl (by kernel_rfl) (jd.cons (Tr.int Tryz.underlying3) rfl (by kernel_rfl) (jd.nil)))
theorem Rr:Tr Tryz.prog (aj tyT) 82 (.nm .sess):=Tr.struct (ss:=[.int,.int,(.nm .reply)]) Tryz.underlying82 (by kernel_rfl) (fun cells h=>by
 obtain ⟨y0,l0,rfl,y1,l1,rfl,y2,l2,rfl,rfl⟩:=h
 exact ⟨⟨y0,y1,y2⟩,rfl⟩) (jd.cons (Tr.int Tryz.underlying3) rfl (by kernel_rfl) (jd.cons (Tr.int Tryz.underlying3) rfl (by kernel_rfl) (jd.cons (QI) rfl (by kernel_rfl) (jd.nil))))
theorem QR:Tr Tryz.prog (aj tyT) 43 (.nm .state):=Tr.struct (ss:=[.int,.int,.int,.int,(.lst (.nm .sess)),(.lst (.nm .opn)),(.lst (.nm .snap))]) Tryz.underlying43 (by kernel_rfl) (fun cells h=>by
 obtain ⟨y0,l0,rfl,y1,l1,rfl,y2,l2,rfl,y3,l3,rfl,y4,l4,rfl,y5,l5,rfl,y6,l6,rfl,rfl⟩:=h
 exact ⟨⟨y0,y1,y2,y3,y4,y5,y6⟩,rfl⟩) (jd.cons (Tr.int Tryz.underlying3) rfl (by kernel_rfl) (jd.cons (Tr.int Tryz.underlying3) rfl (by kernel_rfl) (jd.cons (Tr.int Tryz.underlying3) rfl (by kernel_rfl) (jd.cons (Tr.int Tryz.underlying3) rfl (by kernel_rfl) (jd.cons (Tr.list Tryz.underlying39 (by kernel_rfl) (by kernel_rfl) (Rr)) rfl (by kernel_rfl) (jd.cons (Tr.list Tryz.underlying40 (by kernel_rfl) (by kernel_rfl) (RL)) rfl (by kernel_rfl) (jd.cons (Tr.list Tryz.underlying41 (by kernel_rfl) (by kernel_rfl) (Qx)) rfl (by kernel_rfl) (jd.nil))))))))
theorem QG:Tr Tryz.prog (aj tyT) 30 (.nm .entry):=Tr.struct (ss:=[.int,(.lst .u8)]) Tryz.underlying30 (by kernel_rfl) (fun cells h=>by
 obtain ⟨y0,l0,rfl,y1,l1,rfl,rfl⟩:=h
 exact ⟨⟨y0,y1⟩,rfl⟩) (jd.cons (Tr.int Tryz.underlying3) rfl (by kernel_rfl) (jd.cons (Tr.list Tryz.underlying28 (by kernel_rfl) (by kernel_rfl) (Tr.u8 Tryz.underlying5)) rfl (by kernel_rfl) (jd.nil)))
set_option maxRecDepth 100000 in
theorem mG (os:Os) (started:os.Started) (H:Type) (enc:TypeId × Value->H) :
  ReturnsInHanded {} Tryz.checked os 6 .any (Rows.modelBlankSpec.pre6 enc Tryz.prog Tryz.f6 Rows.modelBlankRow.domain false) (Rows.modelBlankSpec.post enc Tryz.prog Tryz.f6 false true false false):=by
 refine DG (C:=Tryz.checked) Ea started (by kernel_rfl) Tryz.func6 (ChangeSpec.witness6 (enc:=enc) (C:=Tryz.checked) false ⟨#[],#[.agg #[.int .i64 0,.int .i64 0,.int .i64 0,.int .i64 0,.slice none 0 0,.slice none 0 0,.slice none 0 0],.slice none 0 0,.int .i64 0],[]⟩ 8 (by kernel_rfl) (by kernel_rfl) (by kernel_rfl) (by kernel_rfl)) FF (by kernel_rfl) (by kernel_rfl) Tryz.underlying4 rfl (fun ds h=>?_) ?_
 ·match ds,h with
  | [d0,d1,d2],_=>rfl
 ·intro W args hs ha
  obtain ⟨l⟩:=args
  match l,hs with
  | [v0,v1,v2],_=>
   obtain ⟨x0,h0⟩:=Ar.struct (shp:=aj tyT) (ha 0 43 _ rfl rfl) Tryz.underlying43 QR
   obtain ⟨x1,h1⟩:=Ar.list (shp:=aj tyT) (ha 1 44 _ rfl rfl) Tryz.underlying44 (Tr.list Tryz.underlying44 (by kernel_rfl) (by kernel_rfl) (QG))
   obtain ⟨x2,h2⟩:=Ar.int (shp:=aj tyT) (ha 2 3 _ rfl rfl) Tryz.underlying3
   exact Jo (Hl x0 x1 x2) rfl (.cons h0 (.cons h1 (.cons h2 .nil)))
theorem modelBlank_holds:Rows.ModelBlankSaid:=
 OpenClaim.holds_of_wide 6 Tryz.f6 rfl rfl rfl rfl rfl rfl rfl ⟨rfl,rfl,rfl,rfl,rfl⟩ rfl rfl rfl rfl rfl (by kernel_rfl) Tryz.func6 (by kernel_rfl)
  (of_decide_eq_true (by kernel_rfl)) (by unfold Func.isWrapper; first | (rw [if_pos (by decide +kernel)]; kernel_rfl) | (rw [if_neg (by decide +kernel)]; exact ⟨rfl,rfl⟩))
  (fun os started H enc _=>mG os started H enc)
end Go.Proofs.YtladifkbefehdaaGreat
