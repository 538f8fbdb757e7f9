/- What leads to the law, part 6. Conditions: each lemma's own. -/
import Derived.Shelf.Lay
import Derived.Shelf.SlSortCmp.Small
import Derived.Shelf.Small.Bits
import Derived.Sort.LotA
import Derived.Test.YticbaadnibdbkaaGreatNLM5
set_option linter.unusedVariables false
set_option linter.unusedSimpArgs false
set_option maxHeartbeats 2000000
set_option linter.defProp false
namespace Go.Proofs.YticbaadnibdbkaaGreat
open Go.RowKit
def afk:=@Nat.le_of_eq
variable {b:List UInt8}
theorem aaE (h:(aO b).e=0) (h2:(aj (b.drop (aO b).k)).2.2=0) (h3:¬ (aO b).wire=0) (h4:(aj (b.drop (aO b).k)).1<=16384) (h5:((b.length:Nat):Int) - (((aO b).k:Int)+((aj (b.drop (aO b).k)).2.1:Nat))<eE (aj (b.drop (aO b).k)).1):(0:Int)=((ba b).1:Nat)/\2=(ba b).2:=by
 rw [nA (by omega)] at h5;rw [adP h h2 h3 (by omega) (by omega)]; exact ⟨rfl,rfl⟩
theorem acs (h:(aO b).e=0) (h2:(aj (b.drop (aO b).k)).2.2=0) (h3:¬ (aO b).wire=0) (h4:(aj (b.drop (aO b).k)).1<=16384) (h5:eE (aj (b.drop (aO b).k)).1<=((b.length:Nat):Int) - (((aO b).k:Int)+((aj (b.drop (aO b).k)).2.1:Nat))):((aO b).k:Int)+((aj (b.drop (aO b).k)).2.1:Nat)+eE (aj (b.drop (aO b).k)).1=((ba b).1:Nat)/\0=(ba b).2:=by
 rw [nA (by omega)] at h5 ⊢;rw [ae2 h h2 h3 (by omega) (by omega)]; exact ⟨rfl,rfl⟩
def ab8 (l:List Field):List (Nat × LI):=[(6,{ σ:=Nat,F:=fun k=>([(5,one (.own 0)),(13,one (.fz (.nm .field) (l))),(14,one (.int (l).length)),(15,one (.int k))],[.row 5 .u8 ((((l.take k).map cj).flatten))]),J:=fun k=>k<=l.length,μ:=fun k=>l.length - k })]
def abA (q:Int) (v:Int):List (Nat × LI):=[(3,{ σ:=Nat,F:=fun k=>([(5,one (.int (((aP v).take k).foldl (fun t s=>max t s.num) 0))),(10,one (.fz (.nm .spec) (aP v))),(11,one (.int (aP v).length)),(12,one (.int k))],[]),J:=fun k=>k<=(aP v).length,μ:=fun k=>(aP v).length - k })]
def EK:Kn:=aJ (ae (kC (cL .u8)) au) aw fun (b,_) _=>⟨[],[.c (.int ((((ba b).1:Nat)))),.c (.int (((ba b).2)))],none,false⟩
theorem Qs:CK 329 EK:=ah fun (b,_) _ _=>by
 refine av nF [] Tryz.func329 (?_:(fun q7=>(fun q6=>(fun q5=>(fun q4=>(fun q3=>(fun q2=>(fun q1=>(fun q0=>(fun q8=>q6->I64 q5.num->I64 q5.wire->I64 q1->I64 q5.e->(¬q5.e=q3->q2/\q5.e=q4)/\(q5.e=q3->q3<=q1/\q1<=q7/\q6/\(q0.fst<(18446744073709551616:Nat)->I64 q0.snd.snd->(¬q0.snd.snd=q3->q2/\q0.snd.snd=q4)/\(q0.snd.snd=q3->(q5.wire=q3->q8=(↑(ba b).fst:Int)/\q3=q4)/\(¬q5.wire=q3->((↑(16384:Nat):Int)<(↑q0.fst:Int)->q2/\(4:Int)=q4)/\((↑q0.fst:Int)<=(↑(16384:Nat):Int)->I64 (q7 - q8)/\(q7 - q8<eE q0.fst->q2/\(2:Int)=q4)/\(eE q0.fst<=q7 - q8->I64 (q8+eE q0.fst)/\q8+eE q0.fst=(↑(ba b).fst:Int)/\q3=q4))))))) (q1+(↑q0.snd.fst:Int))) (aj (List.drop q5.k b))) (↑q5.k:Int)) (q3=(↑(ba b).fst:Int))) (0:Int)) (ba b).snd) (aO b)) (b.length*(1:Nat)<=(140737488355328:Nat))) (↑b.length:Int));(repeat' with_reducible first|apply bd|refine bf ?_|intro)
 all_goals (first | exact bq | (rw [agW ab] <;> rfl) | (rw [ae6 ab ab] <;> rfl) | (rw [afD ab ab ab] <;> rfl) | (rw [agR ab ab ab aK] <;> rfl) | exact (aaE ab ab ab aK ab).1 | exact (aaE ab ab ab aK ab).2 | exact (acs ab ab ab aK ab).1 | exact (acs ab ab ab aK ab).2 | (have h1:=pX b; have h2:=my b (aO b).k; first | omega | (refine bK ?_ ?_ <;> omega)) | (have h1:=pX b; have h2:=my b (aO b).k; have h3:=nA (m:=(aj (b.drop (aO b).k)).1) aK; first | omega | (refine bK ?_ ?_ <;> omega)))
def M_:Kn:=aJ (ae (kC (cL (.nm .field))) au) aw fun (l,_) _=>⟨[],[.c (.own 0),.c (.int ((cE l)))],some ([.row 5 .u8 ((lK l))]),true⟩
theorem VA:CK 162 M_:=ah fun (l,_) _ _=>by
 refine dr nF (ab8 l) Tryz.func162 (?_:(fun (q0:Nat)=>l.length*48<=140737488355328->I64 (cE l)->(¬cE l=0->cE l=cE l/\lK l=[])/\(cE l=0->∃ (s0:Nat),(l=l/\(↑l.length:Int)=(↑q0:Int)/\0=(↑s0:Int)/\(List.map cj (List.take s0 l)).flatten=[])/\s0<=q0/\∀ (s:Nat),(fun (q1:List UInt8)=>s<=q0->((↑s:Int)<(↑q0:Int)->0<=(↑s:Int)/\(↑s:Int)<(↑l.length:Int)/\∀ (x:Field),l[s]? = some x->I64 x.num->I64 x.wire->x.n.n<18446744073709551616->x.b.length*1<=140737488355328->x.b.length<=16384/\(q1.length+(cj x).length)*1<=140737488355328/\I64 ((↑s:Int)+1)/\∃ (s':Nat),(l=l/\(↑q0:Int)=(↑q0:Int)/\(↑s:Int)+1=(↑s':Int)/\q1++cj x=(List.map cj (List.take s' l)).flatten)/\s' <= q0/\q0 - s' < q0 - s)/\((↑q0:Int)<=(↑s:Int)->0=cE l/\q1=lK l)) (List.map cj (List.take s l)).flatten)) l.length);iterate 3 ((all_goals (repeat' with_reducible first|apply bd|refine bf ?_|intro)); (all_goals try (first | exact bq | exact rfl | exact (Ya ab).symm | exact (Eq.symm ab) | exact (Hk ab) | exact (xn ab (ada ab)) | exact (QD ab aK) | (have h1:=MC (k:=‹Nat›) (show cE l=0 by with_reducible assumption); have h2:=si (f:=‹Field›) (xn (show cE l=0 by with_reducible assumption) (ada ab)) ab; omega))); all_goals try first | refine ⟨‹Nat› + 1,?_⟩ | refine ⟨0,?_⟩)
def KK:Kn:=aJ (ae (kC cI) (ae (kC cI) au)) aw fun (q,v,_) _=>⟨[q=1],[.c (.int ((cH v)))],none,false⟩
theorem YF:CK 161 KK:=ah fun (q,v,_) _ hp=>by
 have h0:=bW hp;refine av nF (abA q v) Tryz.func161 (?_:(fun (q1:Int)=>(fun (q0:List Spec)=>(fun (q2:Nat)=>I64 q->I64 v->q=1/\(q0.length*32<=140737488355328->∃ (s0:Nat),(q1=List.foldl (fun (t:Int) (s:Spec)=>max t s.num) q1 (List.take s0 q0)/\q0=q0/\(↑q0.length:Int)=(↑q2:Int)/\q1=(↑s0:Int))/\s0<=q2/\∀ (s:Nat),(fun (q3:Int)=>s<=q2->((↑s:Int)<(↑q2:Int)->q1<=(↑s:Int)/\(↑s:Int)<(↑q0.length:Int)/\∀ (x:Spec),q0[s]? = some x->lW x (I64 ((↑s:Int)+1)/\∃ (s':Nat),(max q3 x.num=List.foldl (fun (t:Int) (s:Spec)=>max t s.num) q1 (List.take s' q0)/\q0=q0/\(↑q2:Int)=(↑q2:Int)/\(↑s:Int)+1=(↑s':Int))/\s' <= q2/\q2 - s' < q2 - s))/\((↑q2:Int)<=(↑s:Int)->q3=cH v)) (List.foldl (fun (t:Int) (s:Spec)=>max t s.num) q1 (List.take s q0)))) q0.length) (aP v)) 0);iterate 3 ((all_goals (repeat' with_reducible first|apply bd|refine bf ?_|intro)); (all_goals try (first | exact bq | exact rfl | exact (Ko ab) | (rw [cH,List.take_of_length_le aK]))); all_goals try first | refine ⟨‹Nat› + 1,?_⟩ | refine ⟨0,?_⟩)
def aaz:bD:=(aL 161 KK (aL 162 M_ (aL 329 EK TF)))
theorem qp:ay Tryz.prog (al tyT) aaz:=(ag YF (ag VA (ag Qs nF)))
structure Wq (p:Prop):Prop where
 h:p
def fi (l:List Field):Int->Option Int:=fun q=>if ig l q=0 then none else some ((ig l q:Nat):Int)
def yT (rest:List Field) (v:Int) (k:Nat):Prop:=∀ j y,j<k->rest[j]? = some y->¬ y.num<=cH v
variable {f:Field} {xs:List Field}
theorem XW (h:(xs.length:Int)=0):true=fF xs f:=by
 unfold fF; rw [List.getElem?_eq_none (by omega)]
theorem VY (h:¬ (xs.length:Int)=0):fP (xs.getD ((xs.length:Int) - 1).toNat (ao (.nm .field))) f=fF xs f:=by
 unfold fF;rw [show ((xs.length:Int) - 1).toNat=xs.length - 1 by omega,List.getD_eq_getElem?_getD,List.getElem?_eq_getElem (by omega)]; rfl
theorem Gd (l:List Field) (q:Int):(fi l q).getD (ao .int)=((ig l q:Nat):Int):=by
 unfold fi;by_cases h:ig l q=0
 ·rw [if_pos h,h]; rfl
 grind
variable {l:List Field}
theorem Xq:(fun _=>none)=fi (l.take 0):=rfl
variable {k:Nat}
theorem VW (h:l.length<=k):fi (l.take k)=fi l:=by rw [List.take_of_length_le h]
variable {x:Field}
theorem OD (hx:l[k]? = some x):(fun j=>if j=x.num then some ((fi (l.take k) x.num).getD (ao .int)+1) else fi (l.take k) j)=fi (l.take (k+1)):=by
 funext j;have h:=JX hx j;by_cases hj:j=x.num
 ·rw [if_pos hj] at h ⊢;rw [Gd]; unfold fi; rw [h,if_neg (by omega)]; rfl
 rw [if_neg hj] at h ⊢;unfold fi; rw [h]
theorem gdX (hx:l[k]? = some x):x=l.getD k (ao (.nm .field)):=by rw [List.getD_eq_getElem?_getD,hx]; rfl
theorem gdY (h:k<l.length):l[k]? = some (l.getD k (ao (.nm .field))):=by
 rw [List.getD_eq_getElem?_getD,List.getElem?_eq_getElem h]; rfl
variable {ss:List Spec} {m:Nat}
theorem afd {y:Spec} (h:Wq (LU ss x ((ig l x.num:Nat):Int) m)) (hy:ss[m]? = some y) (hn:¬ y.num=x.num\/J_ x y ((fi l x.num).getD (ao .int))=true):Wq (LU ss x ((ig l x.num:Nat):Int) (m+1)):=
 ⟨KI h.h hy fun e=>by rw [Gd] at hn; exact hn.resolve_left (fun h=>h e)⟩
theorem afO (h:Wq (tf l ss k)) (hk:k<l.length) (hi:Wq (LU ss (l.getD k (ao (.nm .field))) ((ig (l.take (k+1)) (l.getD k (ao (.nm .field))).num:Nat):Int) m)) (hm:(ss.length:Int)<=(m:Int)):Wq (tf l ss (k+1)):=
 ⟨L_ h.h (gdY hk) hi.h (by omega) rfl⟩
theorem ag9 (h:Wq (tf l ss k)) (hk:l.length<=k):Wq (tf l ss l.length):=⟨fun j x hj=>h.h j x (by omega)⟩
theorem adw {v:Int} {y:Spec} (hy:(aP v)[m]? = some y) (hn:y.need=true) (h0:(fi l y.num).getD (ao .int)=0):¬ AX l v:=Qj hy ⟨hn,by rw [Gd] at h0; exact h0⟩ rfl
theorem ag1 {y:Spec} (h:Wq (HL l ss m)) (hy:ss[m]? = some y) (hn:y.need=false\/¬ (fi l y.num).getD (ao .int)=0):Wq (HL l ss (m+1)):=
 ⟨Mb h.h hy fun ha=>by
  rw [Gd] at hn;rcases hn with hn | hn
  ·grind
  omega⟩
theorem af2 {v:Int} (hA:Wq (tf l (aP v) l.length)) (hB:Wq (HL l (aP v) k)) (hk:(aP v).length<=k):AX l v:=OF hA.h (ac5 _) hB.h hk
variable {rest:List Field}
theorem acS {v:Int}:yT rest v 0:=fun j y h=>by omega
theorem ab7 {v:Int} (h:Wq (yT rest v k)) (hx:rest[k]? = some x) (hn:¬ x.num<=cH v):Wq (yT rest v (k+1)):=⟨Hl h.h hx hn⟩
theorem pb1 {c:Command} {v:Int} (h:cm v=false):dD c rest v=1:=aec (by show (!(cm v))=true; rw [h]; rfl)
theorem pb2 {c:Command} {v:Int} (h:cm v=true) (h1:fY c v=false) (h2:¬ bC c v=0):dD c rest v=bC c v:=agq (by show (!(cm v))=false; rw [h]; rfl) h1 h2
theorem pb3 {c:Command} {v:Int} (h:cm v=true) (h1:fY c v=true\/bC c v=0) (hx:rest[k]? = some x) (hn:x.num<=cH v):dD c rest v=6:=af4 (by show (!(cm v))=false; rw [h]; rfl) h1 hx hn
theorem pb0 {c:Command} {v:Int} (h:cm v=true) (h1:fY c v=true\/bC c v=0) (ht:Wq (yT rest v k)) (hk:rest.length<=k):dD c rest v=0:=afL (by show (!(cm v))=false; rw [h]; rfl) h1 ht.h hk
def Px (q:Int) (v:Int) (l:List Field):List (Nat × LI):=[(9,{ σ:=Nat,F:=fun k=>([(7,one (.fz (.nm .spec) (aP v))),(9,one (.mq 0)),(28,one (.fz (.nm .field) (l))),(29,one (.int (l).length)),(30,one (.int k))],[.mapo .int (fi (l.take k))]),J:=fun k=>k<=l.length/\Wq (tf l (aP v) k),μ:=fun k=>(l).length - k }),(13,{ σ:=Nat × Nat,F:=fun q=>([(7,one (.fz (.nm .spec) (aP v))),(9,one (.mq 0)),(11,one (.ptr 1 0)),(28,one (.fz (.nm .field) (l))),(29,one (.int (l).length)),(30,one (.int q.1)),(39,one (.fz (.nm .spec) (aP v))),(40,one (.int (aP v).length)),(41,one (.int q.2))],[.mapo .int (fi (l.take (q.1+1))),.box 219 (cellsOf (.nm .field) ((l.getD q.1 (ao (.nm .field)))))]),J:=fun q=>q.1<l.length/\q.2<=(aP v).length/\Wq (tf l (aP v) q.1)/\Wq (LU (aP v) (l.getD q.1 (ao (.nm .field))) ((ig (l.take (q.1+1)) (l.getD q.1 (ao (.nm .field))).num:Nat):Int) q.2),μ:=fun q=>(aP v).length - q.2,R:=some fun q0 q=>q.1=q0.1 }),(20,{ σ:=Nat,F:=fun k=>([(9,one (.mq 0)),(62,one (.fz (.nm .spec) (aP v))),(63,one (.int (aP v).length)),(64,one (.int k))],[.mapo .int (fi l)]),J:=fun k=>k<=(aP v).length/\Wq (tf l (aP v) l.length)/\Wq (HL l (aP v) k),μ:=fun k=>(aP v).length - k })]
def abp (c:Command) (rest:List Field) (v:Int):List (Nat × LI):=[(9,{ σ:=Nat,F:=fun k=>([(1,one (.fz (.nm .field) (rest))),(2,one (.int (v))),(3,one (.ptr 0 0)),(9,one (.int (cH v))),(27,one (.fz (.nm .field) (rest))),(28,one (.int (rest).length)),(29,one (.int k))],[.box 35 (cellsOf (.nm .command) (c))]),J:=fun k=>k<=rest.length/\Wq (yT rest v k),μ:=fun k=>rest.length - k })]
noncomputable def Di:Kn:=aJ (ae (kT (.nm .field)) (ae (kC (aW 0 0)) au)) (aB (dx 177 (ax (eN 1) du)) (aB (eS 219 (.nm .field)) aw)) fun (f,_,_) ((_,_),xs,_)=>⟨[xs.length<=20000],[.c (.bool (.atom ((fF xs f))))],none,false⟩
theorem QE:CK 328 Di:=ah fun (f,_,_) ((_,_),xs,_) hp=>by
 have h0:=bW hp;refine av qp [] Tryz.func328 (?_:(fun q2=>(fun q1=>(fun q0=>I64 f.num->I64 f.wire->f.n.n<18446744073709551616->f.b.length*1<=140737488355328->(q2=0->true=fF xs f)/\(¬q2=0->I64 q1/\(0<=q1/\q1<q2)/\(I64 q0.num->I64 q0.wire->q0.n.n<18446744073709551616->q0.b.length*1<=140737488355328->fP q0 f=fF xs f))) (xs.getD q1.toNat (ao (Sh.nm NT.field)))) (q2 - 1)) (↑xs.length:Int));(repeat' with_reducible first|apply bd|refine bf ?_|intro)
 all_goals (first | exact bq | exact (XW ab) | exact (VY ab))
noncomputable def xT:Kn:=aJ (ae (kC cI) (ae (kC cI) (ae (kC (cL (.nm .field))) au))) aw fun (q,v,l,_) _=>⟨[q=1],[.c (.int ((gh l v)))],none,false⟩
theorem Jy:CK 287 xT:=ah fun (q,v,l,_) _ hp=>by
 have h0:=bW hp;refine av qp (Px q v l) Tryz.func287 (?_:(fun (q5:Nat)=>(fun (q4:Int)=>(fun (q3:Int)=>(fun (q2:Nat)=>(fun (q6:Int)=>(fun (q1:den (Sh.nm NT.field))=>(fun (q0:List Spec)=>(fun (q9:Prop)=>(fun (q8:Int)=>(fun (q7:Nat)=>(fun (q10:Int)=>I64 q->I64 v->l.length*48<=140737488355328->q=q4/\(q0.length*32<=140737488355328->(q8=q3->q4=gh l v)/\(¬q8=q3->I64 (cE l)->(¬cE l=q3->cE l=gh l v)/\(cE l=q3->∃ (s0:Nat),(q9/\l=l/\(↑l.length:Int)=q6/\q3=(↑s0:Int)/\(fun (_:Int)=>none)=fi (List.take s0 l))/\(s0<=q2/\Wq (tf l q0 s0))/\∀ (s:Nat),s<=q2/\Wq (tf l q0 s)->((↑s:Int)<q6->q3<=(↑s:Int)/\(↑s:Int)<(↑l.length:Int)/\∀ (x:Field),(fun (q11:Int)=>l[s]? = some x->I64 x.num->I64 x.wire->x.n.n<18446744073709551616->x.b.length*q5<=140737488355328->I64 q11/\∃ (s0:Nat × Nat),(fun (q13:Nat)=>(fun (q12:Field)=>(q9/\l=l/\q6=q6/\(↑s:Int)=(↑q13:Int)/\q9/\q8=q10/\q3=(↑s0.snd:Int)/\(fun (j:Int)=>if j=x.num then some q11 else fi (List.take s l) j)=fi (List.take (q13+q5) l)/\x.num=q12.num/\x.wire=q12.wire/\x.n.n=q12.n.n/\x.b=q12.b)/\(q13<q2/\s0.snd<=q7/\Wq (tf l q0 q13)/\Wq (LU q0 q12 (↑(ig (List.take (q13+q5) l) q12.num):Int) s0.snd))/\q13=q13/\∀ (s_1:Nat × Nat),(fun (q16:Int)=>(fun (q15:List Field)=>(fun (q14:Field)=>s_1.fst<q2/\s_1.snd<=q7/\Wq (tf l q0 s_1.fst)/\Wq (LU q0 q14 (↑(ig q15 q14.num):Int) s_1.snd)->s_1.fst=q13->(q16<q10->q3<=q16/\q16<q8/\∀ (x:Spec),(fun (q17:Bool)=>q0[s_1.snd]? = some x->lW x ((x.num=q14.num/\q17=false->6=gh l v)/\(¬x.num=q14.num\/q17=true->I64 (q16+q4)/\∃ (s':Nat × Nat),(fun (q18:Field)=>(q9/\l=l/\q6=q6/\(↑s_1.fst:Int)=(↑s'.fst:Int)/\q9/\q10=q10/\q16+q4=(↑s'.snd:Int)/\fi q15=fi (List.take (s'.fst+q5) l)/\q14.num=q18.num/\q14.wire=q18.wire/\q14.n.n=q18.n.n/\q14.b=q18.b)/\(s'.fst<q2/\s'.snd<=q7/\Wq (tf l q0 s'.fst)/\Wq (LU q0 q18 (↑(ig (List.take (s'.fst+q5) l) q18.num):Int) s'.snd))/\s'.fst=q13/\q7 - s'.snd<q7 - s_1.snd) (l.getD s'.fst q1)))) (J_ q14 x ((fi q15 q14.num).getD (ao Sh.int))))/\(q10<=q16->I64 ((↑s_1.fst:Int)+q4)/\∃ (s':Nat),(q9/\l=l/\q6=q6/\(↑s_1.fst:Int)+q4=(↑s':Int)/\fi q15=fi (List.take s' l))/\(s' <= q2/\Wq (tf l q0 s'))/\q2 - s' < q2 - s)) (l.getD s_1.fst q1)) (List.take (s_1.fst+q5) l)) (↑s_1.snd:Int)) (l.getD q13 q1)) s0.fst) ((fi (List.take s l) x.num).getD (ao Sh.int)+q4))/\(q6<=(↑s:Int)->∃ (s0:Nat),(q9/\q8=q10/\q3=(↑s0:Int)/\fi (List.take s l)=fi l)/\(s0<=q7/\Wq (tf l q0 q2)/\Wq (HL l q0 s0))/\∀ (s:Nat),s<=q7/\Wq (tf l q0 q2)/\Wq (HL l q0 s)->((↑s:Int)<q10->q3<=(↑s:Int)/\(↑s:Int)<q8/\∀ (x:Spec),(fun (q19:Prop)=>q0[s]? = some x->lW x ((x.need=true/\q19->6=gh l v)/\(x.need=false\/¬q19->I64 ((↑s:Int)+q4)/\∃ (s':Nat),(q9/\q10=q10/\(↑s:Int)+q4=(↑s':Int)/\fi l=fi l)/\(s' <= q7/\Wq (tf l q0 q2)/\Wq (HL l q0 s'))/\q7 - s' < q7 - s))) ((fi l x.num).getD (ao Sh.int)=q3))/\(q10<=(↑s:Int)->q3=gh l v)))))) (↑q7:Int)) q0.length) (↑q0.length:Int)) (q0=q0)) (aP v)) (ao (Sh.nm NT.field))) (↑q2:Int)) l.length) 0) 1) 1);(repeat' with_reducible first|apply bd|refine bf ?_|intro)
 all_goals try (refine ⟨0,?_⟩; (repeat' with_reducible first|apply bd|refine bf ?_|intro))
 all_goals try (refine ⟨(‹Nat›,0),?_⟩; (repeat' with_reducible first|apply bd|refine bf ?_|intro))
 all_goals try (refine ⟨(‹Nat × Nat›.1,‹Nat × Nat›.2+1),?_⟩; (repeat' with_reducible first|apply bd|refine bf ?_|intro))
 all_goals try (refine ⟨‹Nat × Nat›.1+1,?_⟩; (repeat' with_reducible first|apply bd|refine bf ?_|intro))
 all_goals try (refine ⟨0,?_⟩; (repeat' with_reducible first|apply bd|refine bf ?_|intro))
 all_goals try (refine ⟨‹Nat› + 1,?_⟩; (repeat' with_reducible first|apply bd|refine bf ?_|intro))
 all_goals (first | exact bq | exact rfl | exact (agk aK) | exact (agT aK ab) | exact Xq | exact ⟨ZM⟩ | exact ⟨abR⟩ | exact ⟨aar⟩ | exact (OD ab) | exact (congrArg Field.num (gdX ab)) | exact (congrArg Field.wire (gdX ab)) | exact (congrArg (fun f=>f.n.n) (gdX ab)) | exact (congrArg Field.b (gdX ab)) | exact (aa0 aK ab (Sr (gdY ab) ab (And.intro ab ab) (Gd _ _))) | exact (afd ab ab (by assumption)) | exact (afO ab ab ab ab) | exact (ag9 ab aK) | exact (VW aK) | exact (aa0 aK ab (adw ab ab ab)) | exact (ag1 ab ab (by assumption)) | exact (adB aK ab (af2 ab ab aK)) | (have h1:=QY (l:=l) (k:=‹Nat›) ‹Field›.num; have h2:=Gd (l.take ‹Nat›) ‹Field›.num; refine bK ?_ ?_ <;> omega))
noncomputable def La:Kn:=aJ (ae (kT (.nm .command)) (ae (kC (cL (.nm .field))) (ae (kC cI) au))) aw fun (c,rest,v,_) _=>⟨[rest.length<=20000],[.c (.own 0),.c (.int ((e_ c rest v)))],some ([.row 5 .u8 ((fZ c rest v))]),true⟩
theorem Wr:CK 93 La:=ah fun (c,rest,v,_) _ hp=>by
 have h0:=bW hp;refine dr qp (abp c rest v) Tryz.func93 (?_:(fun (q4:Int)=>(fun (q3:Prop)=>(fun (q2:Int)=>(fun (q1:Nat)=>(fun (q0:Prop)=>bI c (rest.length*48<=140737488355328->I64 v->(cm v=false->1=q4/\q3)/\(cm v=true->(fY c v=false->I64 (bC c v)->(¬bC c v=q2->bC c v=q4/\q3)/\(bC c v=q2->q0))/\(fY c v=true->q0)))) ((1:Int)=1/\(I64 (cH v)->∃ (s0:Nat),(rest=rest/\v=v/\cH v=cH v/\rest=rest/\(↑rest.length:Int)=(↑q1:Int)/\q2=(↑s0:Int)/\aT c c)/\(s0<=q1/\Wq (yT rest v s0))/\∀ (s:Nat),s<=q1/\Wq (yT rest v s)->((↑s:Int)<(↑q1:Int)->q2<=(↑s:Int)/\(↑s:Int)<(↑rest.length:Int)/\∀ (x:Field),rest[s]? = some x->I64 x.num->I64 x.wire->x.n.n<18446744073709551616->x.b.length*1<=140737488355328->(x.num<=cH v->6=q4/\q3)/\(cH v<x.num->I64 ((↑s:Int)+1)/\∃ (s':Nat),(rest=rest/\v=v/\cH v=cH v/\rest=rest/\(↑q1:Int)=(↑q1:Int)/\(↑s:Int)+1=(↑s':Int)/\aT c c)/\(s' <= q1/\Wq (yT rest v s'))/\q1 - s' < q1 - s))/\((↑q1:Int)<=(↑s:Int)->q2<=c.kind/\q2<=c.client/\q2<=c.seq/\q2<=c.set/\q2<=c.id/\q2<=c.n/\((dE c v).length+rest.length)*48<=140737488355328/\(I64 (cE (dE c v++rest))->cE (dE c v++rest)=q4/\lK (dE c v++rest)=fZ c rest v))))) rest.length) 0) (fZ c rest v=[])) (e_ c rest v));iterate 3 ((all_goals (repeat' with_reducible first|apply bd|refine bf ?_|intro)); (all_goals try (first | exact bq | exact rfl | exact ⟨acS⟩ | exact (ab7 ab ab aK) | exact (Cj (pb1 ab) (by decide)) | exact (BP (pb1 ab) (by decide)).symm | exact (Cj (pb2 ab ab ab) ab) | exact (BP (pb2 ab ab ab) ab).symm | exact (Cj (pb3 ab (by first | exact .inl ab | exact .inr ab) ab ab) (by decide)) | exact (BP (pb3 ab (by first | exact .inl ab | exact .inr ab) ab ab) (by decide)).symm | exact (aaM (pb0 ab (by first | exact .inl ab | exact .inr ab) ab aK)) | exact (ab4 (pb0 ab (by first | exact .inl ab | exact .inr ab) ab aK)) | (have h:0<=c.kind/\0<=c.client/\0<=c.seq/\0<=c.set/\0<=c.id/\0<=c.n:=(by first | exact We ab | exact Vw ab); omega) | (have h:=Cd c v; omega))); all_goals try first | refine ⟨‹Nat› + 1,?_⟩ | refine ⟨0,?_⟩)
noncomputable def aag:bD:=(aL 93 La (aL 287 xT (aL 328 Di aaz)))
theorem DZ:ay Tryz.prog (al tyT) aag:=(ag Wr (ag Jy (ag QE qp)))
def QB (b:List UInt8) (s:Nat × List Field):Nat × List Field:=(s.1+(ba (b.drop s.1)).1,s.2++[gU ((b.drop s.1).take (((s.1:Int)+((ba (b.drop s.1)).1:Nat)).toNat - s.1))])
theorem Tq {s:Nat × List Field}:(QB b s).2=s.2++[gU ((b.drop s.1).take (ba (b.drop s.1)).1)]:=by
 unfold QB; rw [show ((s.1:Int)+((ba (b.drop s.1)).1:Nat)).toNat - s.1=(ba (b.drop s.1)).1 by omega]
theorem tlB (h:16384<(b.length:Int)):bA b=([],4):=Vt (by omega)
theorem tlS {s:Nat × List Field} (h:Wq (iM b s.1 s.2)) (hi:(s.1:Int)<(b.length:Int)) (hs:¬ (ba (b.drop s.1)).2=0):bA b=([],(ba (b.drop s.1)).2):=RX h.h (by omega) hs
theorem tlL {s:Nat × List Field} (h:Wq (iM b s.1 s.2)) (hi:(s.1:Int)<(b.length:Int)) (hs:(ba (b.drop s.1)).2=0) (hr:fF s.2 (gU ((b.drop s.1).take (((s.1:Int)+((ba (b.drop s.1)).1:Nat)).toNat - s.1)))=false):bA b=([],5):=by
 obtain ⟨f,_,e⟩:=NB h.h (show s.1<b.length by omega);grind
theorem tlN {s:Nat × List Field} (h:Wq (iM b s.1 s.2)) (hi:(s.1:Int)<(b.length:Int)) (hs:(ba (b.drop s.1)).2=0) (hr:fF s.2 (gU ((b.drop s.1).take (((s.1:Int)+((ba (b.drop s.1)).1:Nat)).toNat - s.1)))=true):Wq (iM b (QB b s).1 (QB b s).2):=by
 rw [show ((s.1:Int)+((ba (b.drop s.1)).1:Nat)).toNat - s.1=(ba (b.drop s.1)).1 by omega] at hr;obtain ⟨f,hf,e⟩:=NB h.h (show s.1<b.length by omega);have hp:=m_ hs;rw [Tq];refine ⟨f,by show b.length - (s.1+(ba (b.drop s.1)).1)<=f; omega,?_⟩;rw [e,if_pos hs,hr,if_pos rfl,agl]; rfl
theorem tlE {s:Nat × List Field} (h:Wq (iM b s.1 s.2)) (hi:(b.length:Int)<=(s.1:Int)):bA b=(s.2,0):=Yq h.h (by omega)
theorem nx1 {s:Nat × List Field} (hi:s.1<=b.length):(QB b s).1<=b.length:=by
 have:=yn (b.drop s.1); rw [List.length_drop] at this; show s.1+_<=_; omega
theorem nx2 {s:Nat × List Field} (hl:s.2.length<=s.1) (hs:(ba (b.drop s.1)).2=0):(QB b s).2.length<=(QB b s).1:=by
 have hp:=m_ hs;rw [Tq,List.length_append]; simp only [List.length_cons,List.length_nil]; show _<=s.1+_; omega
theorem nx3 {s:Nat × List Field} (hi:(s.1:Int)<(b.length:Int)) (hs:(ba (b.drop s.1)).2=0):b.length - (QB b s).1<b.length - s.1:=by
 have hp:=m_ hs; show b.length - (s.1+_)<_; omega
def Wh (b:List UInt8):List (Nat × LI):=[(6,{ σ:=Nat × List Field,F:=fun s=>([(0,one (.fz .u8 (b))),(4,one (.ptr 0 0)),(5,one (.fn 328 [] [(0,0)])),(6,one (.int s.1))],[.box 177 ([.own 1]),.row 219 (.nm .field) ((s.2))]),J:=fun s=>Wq (iM b s.1 s.2)/\s.1<=b.length/\s.2.length<=s.1,μ:=fun s=>b.length - s.1 })]
noncomputable def DW:Kn:=aJ (ae (kC (cL .u8)) au) aw fun (b,_) _=>⟨[],[.c (.fz (.nm .field) (((bA b).1))),.c (.int (((bA b).2)))],none,false⟩
theorem QX:CK 286 DW:=ah fun (b,_) _ _=>by
 refine av DZ (Wh b) Tryz.func286 (?_:(fun (q2:Prop)=>(fun (q1:Int)=>(fun (q0:Int)=>b.length*1<=140737488355328->(16384<q0->q2/\4=(bA b).snd)/\(q0<=16384->∃ (s0:Nat × List Field),(b=b/\q1=(↑s0.fst:Int)/\s0.snd=[])/\(Wq (iM b s0.fst s0.snd)/\s0.fst<=b.length/\s0.snd.length<=s0.fst)/\∀ (s:Nat × List Field),(fun (q6:Int)=>(fun (q5:Nat × Int)=>(fun (q4:Int)=>(fun (q3:Field)=>Wq (iM b s.fst s.snd)/\s.fst<=b.length/\s.snd.length<=s.fst->(q6<q0->q1<=q6/\q6<=q0/\(I64 (↑q5.fst:Int)->I64 q5.snd->(¬q5.snd=q1->q2/\q5.snd=(bA b).snd)/\(q5.snd=q1->I64 q4/\q1<=q6/\q6<=q4/\q4<=q0/\(I64 q3.num->I64 q3.wire->q3.n.n<18446744073709551616->q3.b.length*1<=140737488355328->s.snd.length<=20000/\(fF s.snd q3=false->q2/\5=(bA b).snd)/\(fF s.snd q3=true->(s.snd.length+[q3].length)*48<=140737488355328/\I64 q4/\∃ (s':Nat × List Field),(b=b/\q4=(↑s'.fst:Int)/\s.snd++[q3]=s'.snd)/\(Wq (iM b s'.fst s'.snd)/\s'.fst<=b.length/\s'.snd.length<=s'.fst)/\b.length - s'.fst<b.length - s.fst)))))/\(q0<=q6->s.snd=(bA b).fst/\q1=(bA b).snd)) (gU (List.take (q4.toNat - s.fst) (List.drop s.fst b)))) (q6+(↑q5.fst:Int))) (ba (List.drop s.fst b))) (↑s.fst:Int))) (↑b.length:Int)) 0) ((bA b).fst=[]));iterate 3 ((all_goals (repeat' with_reducible first|apply bd|refine bf ?_|intro)); (all_goals try (first | exact bq | exact rfl | exact ⟨Mm aK⟩ | (rw [tlB ab] <;> rfl) | (rw [tlS ab ab ab] <;> rfl) | (rw [tlL ab ab ab ab] <;> rfl) | (rw [tlE ab ab] <;> rfl) | exact (tlN ab ab ab ab) | exact (nx1 ab) | exact (nx2 ab ab) | exact (nx3 ab ab) | (have h:=yn (b.drop ‹Nat × List Field›.1); rw [List.length_drop] at h; first | omega | (refine bK ?_ ?_ <;> omega)) | (simp only [List.length_cons,List.length_nil]; omega))); all_goals try first | refine ⟨QB b ‹Nat × List Field›,?_⟩ | refine ⟨(0,[]),?_⟩)
noncomputable def aaf:bD:=(aL 286 DW aag)
theorem Da:ay Tryz.prog (al tyT) aaf:=(ag QX DZ)
theorem tin {v:Int} (h:cm v=true):1<=v/\v<=3:=by
 unfold cm at h; simpa using h
theorem tqe {v:Int} (h1:(bA b).2=0) (h2:gh (bA b).1 v=0):lY b v=0:=by rw [lY,if_pos h1,h2]
theorem tq1 {v:Int} (h:cm v=false):ct b v=⟨cA,[],1⟩:=aeW (fun h2=>by unfold cm at h; simp only [h2,decide_true,Bool.and_self] at h; cases h)
theorem tq2 {v:Int} (h:cm v=true) (h1:(bA b).2=0) (h2:¬ gh (bA b).1 v=0):ct b v=⟨cA,[],gh (bA b).1 v⟩:=by
 have e:lY b v=gh (bA b).1 v:=by rw [lY,if_pos h1]
 rw [acm (tin h) (by rw [e]; exact h2),e]
theorem tq3 {v:Int} (h:cm v=true) (h1:¬ (bA b).2=0):ct b v=⟨cA,[],(bA b).2⟩:=by
 have e:lY b v=(bA b).2:=by rw [lY,if_neg h1]
 rw [acm (tin h) (by rw [e]; exact h1),e]
theorem tq4 {v:Int} (h:cm v=true) (h1:(bA b).2=0) (h2:gh (bA b).1 v=0) (h3:¬ e_ (cN (dG (bA b).1 (cH v))) (ek (bA b).1 (cH v)) v=0\/decide (fZ (cN (dG (bA b).1 (cH v))) (ek (bA b).1 (cH v)) v=b)=false):ct b v=⟨cA,[],6⟩:=
 aeK (tin h) (tqe h1 h2) (h3.imp_right fun h=>by simpa using h)
theorem tq5 {v:Int} (h:cm v=true) (h1:(bA b).2=0) (h2:gh (bA b).1 v=0) (h3:e_ (cN (dG (bA b).1 (cH v))) (ek (bA b).1 (cH v)) v=0) (h4:decide (fZ (cN (dG (bA b).1 (cH v))) (ek (bA b).1 (cH v)) v=b)=true):ct b v=⟨cN (dG (bA b).1 (cH v)),ek (bA b).1 (cH v),0⟩:=
 ae5 (tin h) (tqe h1 h2) ⟨h3,ac6 h4⟩
noncomputable def Dq:Kn:=aJ (ae (kC (cL .u8)) (ae (kC cI) au)) aw fun (b,v,_) _=>⟨[],[.agg (cellsOf (.nm .command) ((ct b v).c)),.c (.fz (.nm .field) (((ct b v).r))),.c (.int (((ct b v).e)))],none,false⟩
theorem QA:CK 275 Dq:=ah fun (b,v,_) _ _=>by
 refine av Da [] Tryz.func275 (?_:(fun q6=>(fun q5=>(fun q4=>(fun q3=>(fun q8=>(fun q7=>(fun q2=>(fun q1=>(fun q14=>(fun q13=>(fun q12=>(fun q11=>(fun q10=>(fun q9=>(fun q0=>b.length*1<=140737488355328->I64 v->(cm v=false->q12/\q11/\q13/\q14/\q2=q1.id/\q2=q1.n/\q10/\q9/\q4.r=[]/\1=q4.e)/\(cm v=true->q3.length*48<=140737488355328->I64 q6->(q6=q2->(1:Int)=1/\(I64 (gh q3 v)->(¬gh q3 v=q2->q12/\q11/\q13/\q14/\q2=q1.id/\q2=q1.n/\q10/\q9/\q4.r=[]/\gh q3 v=q4.e)/\(gh q3 v=q2->q0)))/\(¬q6=q2->(¬q6=q2->q12/\q11/\q13/\q14/\q2=q1.id/\q2=q1.n/\q10/\q9/\q4.r=[]/\q6=q4.e)/\(q6=q2->q0)))) ((1:Int)=1/\(I64 q5->(dG q3 q5).length*48<=140737488355328->q8.length*48<=140737488355328->(∀ (f:Field),List.Mem f (dG q3 q5)->f.b.length<=16384)/\bI q7 (q8.length<=20000/\(I64 (e_ q7 q8 v)->(¬e_ q7 q8 v=q2\/decide (fZ q7 q8 v=b)=false->q12/\q11/\q13/\q14/\q2=q1.id/\q2=q1.n/\q10/\q9/\q4.r=[]/\6=q4.e)/\(e_ q7 q8 v=q2/\decide (fZ q7 q8 v=b)=true->bh q7 q1 (q8=q4.r/\q2=q4.e))))))) (Str.mk []=q1.text)) (q1.chunks=[])) (q2=q1.client)) (q2=q1.kind)) (q2=q1.seq)) (q2=q1.set)) q4.c) (0:Int)) (cN (dG q3 q5))) (ek q3 q5)) (bA b).fst) (ct b v)) (cH v)) (bA b).snd);(repeat' with_reducible first|apply bd|refine bf ?_|intro)
 all_goals (first | exact bq | (rw [tq1 ab] <;> rfl) | (rw [tq2 ab ab ab] <;> rfl) | (rw [tq3 ab ab] <;> rfl) | (rw [tq4 ab ab ab (by assumption)] <;> rfl) | (rw [tq5 ab ab ab ab ab] <;> rfl) | exact (WB (tqe ab ab) _ (by assumption)) | (have h1:=CT (bA b).1 (cH v); have h2:=SC b; omega))
noncomputable def abj:bD:=(aL 275 Dq aaf)
theorem QH:ay Tryz.prog (al tyT) abj:=(ag QA Da)
noncomputable def aaF:bD:=abj
theorem RY:ay Tryz.prog (al tyT) aaF:=QH
noncomputable def abK:bD:=aaF
theorem SE:ay Tryz.prog (al tyT) abK:=RY
attribute [local irreducible] dG ek
noncomputable def abB:bD:=abK
theorem OV:ay Tryz.prog (al tyT) abB:=SE
noncomputable def abv:bD:=abB
theorem Tk:ay Tryz.prog (al tyT) abv:=OV
noncomputable def acg:bD:=abv
theorem Ru:ay Tryz.prog (al tyT) acg:=Tk
noncomputable def acd:bD:=acg
theorem OJ:ay Tryz.prog (al tyT) acd:=Ru
theorem afQ {v:Int} (h:bX v 1 3=false):ct b v=⟨cA,[],1⟩:=tq1 h
noncomputable def acn:bD:=acd
theorem wT:ay Tryz.prog (al tyT) acn:=OJ
def eJ (c:Command) (term v:Int):Entry × Int:=if bC c v=0 then (if e_ c [] v=0 then (⟨term,fZ c [] v⟩,0) else (⟨0,[]⟩,e_ c [] v)) else (⟨0,[]⟩,bC c v)
structure RdM where
 c:Command
 some:Bool
 e:Int
noncomputable def aX (x:Entry) (v:Int):RdM:=
 if x.b.length=0 then (if v<1\/3<v then ⟨cA,false,1⟩ else ⟨cA,false,0⟩)
 else if ¬ (ct x.b v).e=0 then ⟨cA,false,(ct x.b v).e⟩
 else if ck (ct x.b v).c.kind=0\/v<ck (ct x.b v).c.kind then ⟨cA,false,10⟩
 else ⟨(ct x.b v).c,true,0⟩
variable {term:Int}
theorem en1 {c:Command} {v:Int} (h:¬ bC c v=0):eJ c term v=(⟨0,[]⟩,bC c v):=by unfold eJ; rw [if_neg h]
theorem en2 {c:Command} {v:Int} (h:bC c v=0) (h2:¬ e_ c [] v=0):eJ c term v=(⟨0,[]⟩,e_ c [] v):=by unfold eJ; rw [if_pos h,if_neg h2]
theorem en3 {c:Command} {v:Int} (h:bC c v=0) (h2:e_ c [] v=0):eJ c term v=(⟨term,fZ c [] v⟩,0):=by unfold eJ; rw [if_pos h,if_pos h2]
section
variable {x:Entry} {v:Int}
theorem rdA (h:((x.b.length:Nat):Int)=0) (h2:v<1\/3<v):aX x v=⟨cA,false,1⟩:=by unfold aX; rw [if_pos (by omega),if_pos h2]
theorem rdB (h:((x.b.length:Nat):Int)=0) (h1:1<=v) (h2:v<=3):aX x v=⟨cA,false,0⟩:=by unfold aX; rw [if_pos (by omega),if_neg (by omega)]
theorem rdC (h:¬ ((x.b.length:Nat):Int)=0) (h2:¬ (ct x.b v).e=0):aX x v=⟨cA,false,(ct x.b v).e⟩:=by unfold aX; rw [if_neg (by omega),if_pos h2]
theorem rdD (h:¬ ((x.b.length:Nat):Int)=0) (h2:(ct x.b v).e=0) (h3:ck (ct x.b v).c.kind=0\/v<ck (ct x.b v).c.kind):aX x v=⟨cA,false,10⟩:=by unfold aX; rw [if_neg (by omega),if_neg (by rw [h2]; simp),if_pos h3]
theorem rdE (h:¬ ((x.b.length:Nat):Int)=0) (h2:(ct x.b v).e=0) (h3:¬ ck (ct x.b v).c.kind=0) (h4:ck (ct x.b v).c.kind<=v):aX x v=⟨(ct x.b v).c,true,0⟩:=by unfold aX; rw [if_neg (by omega),if_neg (by rw [h2]; simp),if_neg (by omega)]
theorem rdF (h2:v<1\/3<v):aX x v=⟨cA,false,1⟩:=by
 by_cases h:((x.b.length:Nat):Int)=0
 ·exact rdA h h2
 have e:ct x.b v=⟨cA,[],1⟩:=afQ (by unfold bX; rcases h2 with h2 | h2 <;> simp <;> omega);rw [rdC h (by rw [e]; decide),e]
end
noncomputable def NJ:Kn:=aJ (ae (kT (.nm .command)) (ae (kC cI) (ae (kC cI) au))) aw fun (c,term,v,_) _=>⟨[],[.agg (cellsOf (.nm .entry) ((eJ c term v).1)),.c (.int (((eJ c term v).2)))],none,false⟩
theorem Ze:CK 54 NJ:=ah fun (c,term,v,_) _ _=>by
 refine av wT [] Tryz.func54 (?_:(fun (q2:Int)=>(fun (q1:Int)=>(fun (q0:Entry × Int)=>bI c (I64 term->I64 v->I64 (bC c v)->(¬bC c v=q1->q1=q0.fst.term/\q0.fst.b=[]/\bC c v=q0.snd)/\(bC c v=q1->(0:Nat)<=(20000:Nat)/\(I64 q2->(¬q2=q1->q1=q0.fst.term/\q0.fst.b=[]/\q2=q0.snd)/\(q2=q1->term=q0.fst.term/\fZ c [] v=q0.fst.b/\q1=q0.snd))))) (eJ c term v)) (0:Int)) (e_ c [] v));(repeat' with_reducible first|apply bd|refine bf ?_|intro)
 all_goals (first | exact bq | (rw [en1 ab] <;> rfl) | (rw [en2 ab ab] <;> rfl) | (rw [en3 ab ab] <;> rfl))
noncomputable def yN:Kn:=aJ (ae (kT (.nm .entry)) (ae (kC cI) au)) aw fun (x,v,_) _=>⟨[],[.agg (cellsOf (.nm .command) ((aX x v).c)),.c (.bool (.atom (((aX x v).some)))),.c (.int (((aX x v).e)))],none,false⟩
theorem Jz:CK 259 yN:=ah fun (x,v,_) _ _=>by
 refine av wT [] Tryz.func259 (?_:(fun q3=>(fun q4=>(fun q2=>(fun q5=>(fun q1=>(fun q0=>(fun q11=>(fun q10=>(fun q9=>(fun q8=>(fun q7=>(fun q6=>I64 x.term->x.b.length*1<=140737488355328->I64 v->((↑x.b.length:Int)=q1->(v<1\/3<v->q9/\q8/\q10/\q11/\q1=q0.id/\q1=q0.n/\q7/\q6/\q4/\1=q3.e)/\(1<=v/\v<=3->q9/\q8/\q10/\q11/\q1=q0.id/\q1=q0.n/\q7/\q6/\q4/\q1=q3.e))/\(¬(↑x.b.length:Int)=q1->bI q2.c (q2.r.length*48<=140737488355328->I64 q2.e->(¬q2.e=q1->q9/\q8/\q10/\q11/\q1=q0.id/\q1=q0.n/\q7/\q6/\q4/\q2.e=q3.e)/\(q2.e=q1->I64 q5->(q5=q1\/v<q5->q9/\q8/\q10/\q11/\q1=q0.id/\q1=q0.n/\q7/\q6/\q4/\10=q3.e)/\(¬q5=q1/\q5<=v->bh q2.c q0 (true=q3.some/\q1=q3.e)))))) (Str.mk []=q0.text)) (q0.chunks=[])) (q1=q0.client)) (q1=q0.kind)) (q1=q0.seq)) (q1=q0.set)) q3.c) (0:Int)) (ck q2.c.kind)) (ct x.b v)) (false=q3.some)) (aX x v));(repeat' with_reducible first|apply bd|refine bf ?_|intro)
 all_goals (first | exact bq | (rw [rdF (by assumption)] <;> rfl) | (rw [rdB ab ab ab] <;> rfl) | (rw [rdC ab ab] <;> rfl) | (rw [rdD ab ab (by assumption)] <;> rfl) | (rw [rdE ab ab ab ab] <;> rfl))
noncomputable def abE:bD:=(aL 259 yN (aL 54 NJ acn))
theorem Es:ay Tryz.prog (al tyT) abE:=(ag Jz (ag Ze wT))
noncomputable def i_ (v:Int) (s:State) (x:Entry):State:=if (aX x v).some=true then (qc s (aX x v).c).1 else s
noncomputable def ov (v:Int) (s:State) (x:Entry):Reply:=if (aX x v).some=true then (qc s (aX x v).c).2 else ⟨0,0⟩
noncomputable def pS (v:Int) (s:State) (l:List Entry):State:=l.foldl (i_ v) s
noncomputable def pR (v:Int):State->List Entry->List Reply
 | _,[]=>[]
 | s,x :: l=>ov v s x :: pR v (i_ v s x) l
noncomputable def pN (v:Int):List Entry->Nat
 | []=>0
 | x :: l=>if (aX x v).e=0 then pN v l+1 else 0
noncomputable def pE (v:Int):List Entry->Int
 | []=>0
 | x :: l=>if (aX x v).e=0 then pE v l else (aX x v).e
noncomputable def plS (v:Int) (s:State) (l:List Entry):State:=pS v s (l.take (pN v l))
noncomputable def plR (v:Int) (s:State) (l:List Entry):List Reply:=pR v s (l.take (pN v l))
section
variable {v:Int} {s:State} {l:List Entry} {x:Entry} {k:Nat}
theorem acV (hx:l[k]? = some x):i_ v (pS v s (l.take k)) x=pS v s (l.take (k+1)):=by
 rw [ai hx]; unfold pS; rw [List.foldl_append]; rfl
theorem Dg:∀ {l:List Entry} {s:State},pR v s (l++[x])=pR v s l++[ov v (pS v s l) x]
 | [],_=>rfl
 | y :: l,s=>by
  show ov v s y :: pR v (i_ v s y) (l++[x])=ov v s y :: (pR v (i_ v s y) l++[ov v (pS v (i_ v s y) l) x]);rw [Dg]
theorem aad (hx:l[k]? = some x):pR v s (l.take k)++[ov v (pS v s (l.take k)) x]=pR v s (l.take (k+1)):=by
 rw [ai hx,Dg]
theorem B_:∀ {l:List Entry} {s:State},(pR v s l).length=l.length
 | [],_=>rfl
 | y :: l,s=>by
  show (pR v (i_ v s y) l).length+1=l.length+1;rw [B_]
def okPl (v:Int) (l:List Entry):Prop:=∀ x ∈ l,(aX x v).e=0
theorem Pp (h:okPl v (l.take k)) (hx:l[k]? = some x) (he:(aX x v).e=0):okPl v (l.take (k+1)):=by
 rw [ai hx];intro y hy;rcases ac1.1 hy with hy | hy
 ·exact h y hy
 grind
theorem Ig:∀ {l:List Entry},okPl v l->pN v l=l.length/\pE v l=0
 | [],_=>⟨rfl,rfl⟩
 | y :: l,h=>by
  obtain ⟨h1,h2⟩:=Ig (l:=l) fun z hz=>h z (acb _ hz);have h0:=h y ac7;unfold pN pE;grind
theorem Fg:∀ {l:List Entry} {k:Nat},okPl v (l.take k)->l[k]? = some x->¬ (aX x v).e=0->pN v l=k/\pE v l=(aX x v).e
 | [],k,_,hx,_=>by simp at hx
 | y :: l,0,_,hx,he=>by
  simp at hx; subst hx;unfold pN pE;grind
 | y :: l,k+1,h,hx,he=>by
  have h0:=h y (by simp);obtain ⟨h1,h2⟩:=Fg (l:=l) (k:=k) (fun z hz=>h z (by rw [agn]; exact acb _ hz)) (by simpa using hx) he;unfold pN pE;rw [if_pos h0,if_pos h0,h1,h2]; exact ⟨rfl,rfl⟩
theorem Qq (h:okPl v (l.take k)) (hx:l[k]? = some x) (he:¬ (aX x v).e=0):pS v s (l.take k)=plS v s l/\pR v s (l.take k)=plR v s l/\(aX x v).e=pE v l:=by
 obtain ⟨h1,h2⟩:=Fg h hx he;unfold plS plR; rw [h1,h2]; exact ⟨rfl,rfl,rfl⟩
theorem Yz (h:okPl v (l.take k)) (hk:l.length<=k):pS v s (l.take k)=plS v s l/\pR v s (l.take k)=plR v s l/\0=pE v l:=by
 rw [List.take_of_length_le hk] at h ⊢;obtain ⟨h1,h2⟩:=Ig h;unfold plS plR; rw [h1,h2,List.take_length]; exact ⟨rfl,rfl,rfl⟩
end
def nO:Code->Code
 | .seq x _=>x
 | c=>c
def fG:Code->Code
 | .seq _ y=>y
 | c=>c
def cdB:Code->Code
 | .block _ c=>c
 | .loop c=>c
 | c=>c
def agA:Code->Code
 | .rangeFunc _ _ a _=>a
 | c=>c
def afA:Code->Code
 | .rangeFunc _ _ _ b=>b
 | c=>c
def jN:Code->List Oper
 | .region _ ops _=>ops.toList
 | _=>[]
def TU (f:Func):Code:=f.body.getD .skip
noncomputable def Ni:Kn:=aJ (ae (kC (cL (.nm .entry))) (ae (kC cI) au)) aw fun (l,v,_) _=>⟨[],[.c (.fn 258 [] [(0,0),(1,0)])],some ([.box 38 ([.fz (.nm .entry) ((l))]),.box 3 ([.int ((v))])]),true⟩
theorem Xv:CK 226 Ni:=ah fun (l,v,_) _ _=>by
 refine dr Es [] Tryz.func226 (?_:l.length*32<=140737488355328->I64 v->l=l/\v=v);grind
noncomputable def fj:bD:=(aL 226 Ni abE)
theorem qa:ay Tryz.prog (al tyT) fj:=(ag Xv Es)
end Go.Proofs.YticbaadnibdbkaaGreat
namespace Go.Proofs.YticbaadnibdbkaaGreat
open Go.RowKit
open Go.MapKept (IsKey run_checkKey run_findKey run_setObj_map heap_set heap_alloc)
def Rm (k:Int):List (Int × Value)->Bool
 | []=>false
 | p :: r=>decide (k=p.1) || Rm k r
def Xc (w:World) (g:Nat) (L:List (Int × Value)):Prop:=
 ∃ a,w.heap[g]? = some (.map a L.length)/\a.toList.map (fun e=>(e.key,e.val))=L.map (fun p=>(Value.int .i64 p.1,p.2))
theorem uZ {k:Int}:∀ {l:List MapEntry} {L:List (Int × Value)} {i:Nat},l.map (fun e=>(e.key,e.val))=L.map (fun p=>(Value.int .i64 p.1,p.2))->Rm k L=false->Instr.findNow (.int .i64) (.int .i64 k) l i=some none
 | [],[],i,_,_=>rfl
 | e :: l,p :: L,i,h,hn=>by
  simp only [ae9,List.cons.injEq,ahy] at h;obtain ⟨⟨hk,hv⟩,hr⟩:=h;simp only [Rm,Bool.or_eq_false_iff] at hn;have hb:(k == p.1)=false:=by simpa using hn.1
  simp [Instr.findNow,hk,Instr.sameNow,hb,uZ (i:=i+1) hr hn.2]
section
variable {P:Program} {Q:Exit->Act->World->Prop} {n:Nat} {l rest:List Oper} {fr:Fr} {w:World} {x y z':Operand} {t ty kt et:TypeId} {pos:String} {af:Array Edge} {g:Nat} {L:List (Int × Value)} {k:Int}
theorem WO.insert {v:Value} (hx:ev fr x=some (.map (some g))) (hy:ev fr y=some (.int .i64 k)) (hv:ev fr z' = some v) (h:Xc w g L) (hn:Rm k L=false) (hm:P.underlying t=some (.map kt et)) (hk:P.underlying kt=some (.int .i64))
  (kk:∀ w',Xc w' g (L++[(k,v)])->Kp [g] w w' -> WO P Q n l rest fr w') :
  WO P Q n l (⟨none,.insert t x y z',ty,pos,af,none⟩ :: rest) fr w:=by
 obtain ⟨a,hg,hl⟩:=h;have h1:=uZ (k:=k) (i:=0) hl hn;have hik:IsKey (.int .i64) (.int .i64 k):=rfl;have hs:=heap_set (o':=.map (a.push { key:=.int .i64 k,val:=v,born:=L.length }) (L.length+1)) hg;refine WO.s (w':={ w with heap:=w.heap.setIfInBounds g (.map (a.push { key:=.int .i64 k,val:=v,born:=L.length }) (L.length+1)) }) (fun a' _ _ _ _ ha=>?_) (kk _ ⟨_,by simpa using hs.1,by simp [hl]⟩ ⟨rfl,rfl,rfl,by simp,fun i hi hn=>hs.2 i (by simpa using hn)⟩);have e:(Instr.mapUpdate t (.map (some g)) (.int .i64 k) v).run P w = .ok () { w with heap:=w.heap.setIfInBounds g (.map (a.push { key:=.int .i64 k,val:=v,born:=L.length }) (L.length+1)) }:=by
  unfold Instr.mapUpdate;simp only [Sem.run_bind,run_underlying hm];simp only [Sem.run_bind,MapKept.run_getObj_map hg,Result.andThen,run_checkKey hk hik,run_findKey hk h1,run_setObj_map _ hg]
 simp [execOp,ha.ev hx,ha.ev hy,ha.ev hv,e]
end
def bE:List (Int × List KC):=[(1,[.i 1,.i 3,.b false,.i 0,.i 0,.f 214]),(2,[.i 0,.i 1048576,.b true,.i 5,.i 0,.f 215]),(3,[.i 1,.i 64,.b true,.i 1048576,.i 200,.f 216]),(4,[.i 1,.i 64,.b false,.i 0,.i 0,.f 217])]
def Yn:List (Int × Value):=bE.map fun p=>(p.1,.agg (p.2.map KC.val).toArray)
theorem sY {k:Int}:∀ {a:List MapEntry} {l:List (Int × List KC)},a.map (fun e=>(e.key,e.val))=(l.map fun p=>(p.1,Value.agg (p.2.map KC.val).toArray)).map (fun p=>(Value.int .i64 p.1,p.2))->getM k a=(dA l k).map fun cs=>.agg (cs.map KC.val).toArray
 | [],[],_=>rfl
 | e :: l,p :: L,h=>by
  simp only [ae9,List.cons.injEq,ahy] at h;obtain ⟨⟨hk,hv⟩,hr⟩:=h;simp only [getM,dA,hk,oE];by_cases h:k=p.1
  ·grind
  rw [if_neg (by simpa using fun e=>h e.symm),if_neg h]; exact sY hr
set_option maxRecDepth 100000 in
theorem GJ {w:World}:jI Tryz.prog 148 #[] w fun r w'=>r = .map (some w.heap.size)/\Kp [] w w' /\ Xc w' w.heap.size Yn:=by
 refine jI.enter (args:=[]) Tryz.func148 rfl Tryz.ntmps148 rfl rfl ?_;refine WC.seq (WC.region (WO.v (R.assign rfl) rfl (WO.nil (WX.next ?_))));have hu:=Tryz.underlying202;have hk:=Tryz.underlying3;refine WC.seq (WC.region (WO.v R.sF rfl ?_));refine WO.v (R.ox (cells:=(((bE.getD 0 (0,[])).2).map KC.val).toArray) rfl cd) rfl (WO.insert (L:=[]) rfl rfl rfl ⟨#[],agi w _,rfl⟩ rfl hu hk fun w1 m1 k1=>?_);refine WO.v (R.ox (cells:=(((bE.getD 1 (0,[])).2).map KC.val).toArray) rfl cd) rfl (WO.insert rfl rfl rfl m1 rfl hu hk fun w2 m2 k2=>?_);refine WO.v (R.ox (cells:=(((bE.getD 2 (0,[])).2).map KC.val).toArray) rfl cd) rfl (WO.insert rfl rfl rfl m2 rfl hu hk fun w3 m3 k3=>?_);refine WO.v (R.ox (cells:=(((bE.getD 3 (0,[])).2).map KC.val).toArray) rfl cd) rfl (WO.insert rfl rfl rfl m3 rfl hu hk fun w4 m4 k4=>?_);refine WO.v (R.move rfl) rfl (WO.v (R.assign rfl) rfl (WO.nil (WX.next ?_)));have hkp:∀ {wa wb:World},Kp [] w wa->Kp [w.heap.size] wa wb->Kp [] w wb:=fun h k=>⟨k.os.trans h.os,k.tape.trans h.tape,k.output.trans h.output,Nat.le_trans h.size k.size,fun b hb _=>(k.block b (ac3 hb h.size) (by simp; omega)).trans (h.block b hb (by simp))⟩;exact WC.ret (WX.AN Tryz.results148 rfl ⟨rfl,hkp (hkp (hkp (hkp (Kp.alloc w _) k1) k2) k3) k4,m4⟩)
theorem FQ:Sat Tryz.prog (al tyT) 148 [] [] ⟨[],[.c (.xx (.km bE) [])],none,false⟩:=by
 refine ⟨⟨_,Tryz.func148,by decide,by kernel_rfl⟩,fun G ρ w vs hG hR hvs=>?_⟩;cases hvs;refine GJ.mono fun r w' ⟨hr,hk,a,hm,hl⟩=>⟨[r],rfl,hk,.cons ?_ .nil⟩;subst hr;have hlt:=(afC.1 hm).1;refine ⟨[],.nil,rfl,w.heap.size,a,_,rfl,⟨hlt,fun ⟨i,r,e1,e2⟩=>by have:=(hR.bnd i r _ e1 e2).2.1; omega,fun hz=>by have:=hR.z _ hz; omega⟩,hm,fun e he=>?_,fun k=>sY hl⟩;have:(e.key,e.val) ∈ a.toList.map (fun e=>(e.key,e.val)):=aho.2 ⟨e,he,rfl⟩;grind
end Go.Proofs.YticbaadnibdbkaaGreat
namespace Go.Proofs.YticbaadnibdbkaaGreat
open Go.RowKit
def MO (q:Nat × Nat) (x:UInt8):Nat × Nat:=((q.1+x.toNat) % 65521,(q.2+(q.1+x.toNat) % 65521) % 65521)
def gP (q:Nat × Nat) (l:List UInt8):Nat × Nat:=l.foldl MO q
def dI (s:Nat) (l:List UInt8):Nat:=65536*(gP (s % 65536 % 65521,s / 65536 % 65521) l).2+(gP (s % 65536 % 65521,s / 65536 % 65521) l).1
theorem Qi {q:Nat × Nat} (h1:q.1<65521) (h2:q.2<65521):∀ l:List UInt8,(gP q l).1<65521/\(gP q l).2<65521:=fun l=>by
 induction l generalizing q with
 | nil=>exact ⟨h1,h2⟩
 | cons x l ih=>exact ih (q:=MO q x) (agh _ (by decide)) (agh _ (by decide))
theorem pY {s:Nat} (l:List UInt8):(gP (s % 65536 % 65521,s / 65536 % 65521) l).1<65521/\(gP (s % 65536 % 65521,s / 65536 % 65521) l).2<65521:=Qi (agh _ (by decide)) (agh _ (by decide)) l
theorem Mn {s:Nat} (l:List UInt8):dI s l<4294967296:=by
 have:=pY (s:=s) l;unfold dI; omega
def Dx (l:List UInt8):Nat:=l.foldl (fun w x=>(w*256) % 4294967296 ||| x.toNat) 0
abbrev dU (b:List UInt8):Int:=To (((b.getD 0 (ao .u8):UInt8).toNat:Int)*2 ^ 8) ((b.getD 1 (ao .u8):UInt8).toNat:Int)
def a_ (b:List UInt8):List UInt8 × Int × Int:=
 if b.length<2 then ([],0,2) else if dU b=0\/4096<dU b then ([],0,3) else if (b.length:Int)<2+dU b+4 then ([],0,2)
 else if dI 1 (b.take (2+dU b).toNat)=Dx ((b.drop (2+dU b).toNat).take 4) then ((b.drop 2).take ((2+dU b).toNat - 2),2+dU b+4,0) else ([],0,3)
def jd (x:List UInt8):List UInt8:=[UInt8.ofNat (x.length / 256),UInt8.ofNat x.length]++x
def xh (s:Nat):List UInt8:=[UInt8.ofNat (s / 2 ^ 24),UInt8.ofNat (s / 2 ^ 16),UInt8.ofNat (s / 2 ^ 8),UInt8.ofNat s]
def eF (x:List UInt8):List UInt8:=jd x++xh (dI 1 (jd x))
def ow (x:List UInt8):List UInt8 × Int:=if x.length=0\/4096<x.length then ([],4) else (eF x,0)
theorem zQ {a b:Nat} (hb:b<256):a*256 ||| b=a*256+b:=by
 have:=Nat.two_pow_add_eq_or_of_lt (i:=8) (b:=b) hb a;grind
theorem ofNat_toNat (n:Nat):(UInt8.ofNat n).toNat=n % 256:=UInt8.toNat_ofNat'
theorem Rx {s:Nat} (h:s<4294967296):Dx (xh s)=s:=by
 simp only [Dx,xh,List.foldl_cons,List.foldl_nil,ofNat_toNat];rw [show (0*256) % 4294967296=0*256 from rfl,zQ (a:=0) (agh _ (by decide)),ahx,ac_];have e1:s / 2 ^ 24 % 256=s / 16777216:=by omega
 rw [e1,Nat.mod_eq_of_lt (a:=s / 16777216*256) (by omega),zQ (agh _ (by decide)),Nat.mod_eq_of_lt (a:=(s / 16777216*256+s / 2 ^ 16 % 256)*256) (by omega),zQ (agh _ (by decide)),Nat.mod_eq_of_lt (a:=((s / 16777216*256+s / 2 ^ 16 % 256)*256+s / 2 ^ 8 % 256)*256) (by omega),zQ (agh _ (by decide))];omega
variable {x r:List UInt8}
theorem x_ (h:x.length<=4096):dU (eF x++r)=x.length:=by
 have e:eF x++r=UInt8.ofNat (x.length / 256) :: UInt8.ofNat x.length :: (x++(xh (dI 1 (jd x))++r)):=by simp [eF,jd]
 have e1:((UInt8.ofNat (x.length / 256)).toNat:Int)*2 ^ 8=((x.length / 256*256:Nat):Int):=by rw [ofNat_toNat]; omega
 rw [e,dU,List.getD_cons_zero,List.getD_cons_succ,List.getD_cons_zero,e1,To,adm,adm,ofNat_toNat,zQ (agh _ (by decide))];omega
theorem mn:(eF x).length=x.length+6:=by simp [eF,jd,xh]
theorem HG (h0:x≠[]) (h:x.length<=4096):a_ (eF x++r)=(x,(x.length:Int)+6,0):=by
 have h1:0<x.length:=List.length_pos_iff.2 h0;have hl:(eF x++r).length=x.length+6+r.length:=by rw [List.length_append,mn]
 have e2:(2+(x.length:Int)).toNat=(jd x).length:=by simp [jd]; omega
 have e3:eF x++r=jd x++(xh (dI 1 (jd x))++r):=by simp [eF]
 unfold a_;rw [x_ h,if_neg (by omega),if_neg (by omega),if_neg (by omega),e2,e3,List.take_left,List.drop_left,show List.take 4 (xh (dI 1 (jd x))++r)=xh (dI 1 (jd x)) from List.take_left' rfl,Rx (Mn _),if_pos rfl];refine Prod.ext ?_ (Prod.ext (by dsimp only; omega) rfl);simp [jd]
variable {k:Nat}
theorem xS (h:x.length<=4096) (hk:k<x.length+6):(a_ ((eF x).take k)).2.2≠0:=by
 by_cases h2:k<2
 ·unfold a_; rw [if_pos (by rw [List.length_take]; omega)]; decide
 have e:dU ((eF x).take k)=x.length:=by
  have:=x_ (r:=[]) h;grind
 unfold a_;grind
theorem PV (b:List UInt8):0<=dU b:=Int.natCast_nonneg _
abbrev kz:List KC:=[.i 0,.i 0,.b false,.i 0,.i 0,.nf]
def UW (k:Int):List KC:=(dA bE k).getD kz
def recOk (r:Record):Bool:=(dA bE r.kind).isSome && decide (((UW r.kind).getD 0 .nf).int<=r.a) && decide (r.a<=((UW r.kind).getD 1 .nf).int) && decide (0<=r.b) && decide (r.b<=((UW r.kind).getD 3 .nf).int) && decide ((r.x.length:Int)<=((UW r.kind).getD 4 .nf).int)
def tj (k:Int):Bool:=((UW k).getD 2 .nf).bool
def di (r:Record):List UInt8:=([UInt8.ofNat r.kind.toNat]++cJ r.a.toNat)++(if tj r.kind=true then cJ r.b.toNat else [])++r.x
def aH (r:Record):List UInt8 × Int:=if recOk r=true then (di r,0) else ([],1)
abbrev tL:Record:=⟨0,0,0,[]⟩
def bz (b:List UInt8):Record × Bool:=
 if b.length=0 then (tL,false) else if (aj (b.drop 1)).2.2≠0 then (tL,false)
 else if tj ((b.getD 0 (ao .u8):UInt8).toNat:Int)=true then
  if (aj ((b.drop 1).drop (aj (b.drop 1)).2.1)).2.2≠0 then (tL,false)
  else (⟨((b.getD 0 (ao .u8):UInt8).toNat:Int),eE (aj (b.drop 1)).1,eE (aj ((b.drop 1).drop (aj (b.drop 1)).2.1)).1,((b.drop 1).drop (aj (b.drop 1)).2.1).drop (aj ((b.drop 1).drop (aj (b.drop 1)).2.1)).2.1⟩,true)
 else (⟨((b.getD 0 (ao .u8):UInt8).toNat:Int),eE (aj (b.drop 1)).1,0,(b.drop 1).drop (aj (b.drop 1)).2.1⟩,true)
def bO (b:List UInt8):Record × Int:=if (bz b).2=false then (tL,3) else if (aH (bz b).1).2≠0\/(aH (bz b).1).1≠b then (tL,3) else ((bz b).1,0)
def dQ (s:Stable) (r:Record):Option Stable:=if r.a<s.floor then none else some { s with floor:=r.a }
def fw (s:Stable) (r:Record):Option Stable:=if r.a<s.term\/(r.a=s.term/\¬ s.vote=0)/\¬ s.vote=r.b then none else some { s with term:=r.a,vote:=r.b }
def dN (s:Stable) (r:Record):Option Stable:=if ¬ r.a=(s.log.length:Int)+1 then none else some { s with log:=s.log++[⟨r.b,r.x⟩] }
def fE (s:Stable) (r:Record):Option Stable:=if (s.log.length:Int)<r.a then none else some { s with log:=s.log.take (r.a - 1).toNat }
def fB (s:Stable) (r:Record):Option Stable:=if r.kind=1 then dQ s r else if r.kind=2 then fw s r else if r.kind=3 then dN s r else fE s r
def aI (s:Stable) (r:Record):Stable × Int:=if recOk r=false then (s,1) else match fB s r with
 | some t=>(t,0)
 | none=>(s,5)
def playB:Nat->Stable->List UInt8->Stable × Int
 | 0,s,_=>(s,0)
 | n+1,s,b=>if (a_ b).2.2≠0 then (s,0) else if (bO (a_ b).1).2≠0 then (s,0) else if (aI s (bO (a_ b).1).1).2≠0 then (s,0)
  else ((playB n (aI s (bO (a_ b).1).1).1 (b.drop (a_ b).2.1.toNat)).1,(a_ b).2.1+(playB n (aI s (bO (a_ b).1).1).1 (b.drop (a_ b).2.1.toNat)).2)
abbrev sta0:Stable:=⟨0,0,0,[]⟩
def replayF (b:List UInt8):Stable × Int:=playB (b.length+1) sta0 b
theorem Xr {k:Int} (h:(dA bE k).isSome=true):k=1\/k=2\/k=3\/k=4:=by
 simp only [bE,dA] at h;grind
variable {r:Record}
theorem bH:recOk r=true↔(r.kind=1/\1<=r.a/\r.a<=3/\r.b=0/\r.x=[])\/(r.kind=2/\0<=r.a/\r.a<=1048576/\0<=r.b/\r.b<=5/\r.x=[])\/(r.kind=3/\1<=r.a/\r.a<=64/\0<=r.b/\r.b<=1048576/\r.x.length<=200)\/(r.kind=4/\1<=r.a/\r.a<=64/\r.b=0/\r.x=[]):=by
 have e:∀ l:List UInt8,((l.length:Int)<=0)↔l=[]:=fun l=>by
  simp_all
 constructor
 ·intro h;simp only [recOk,Bool.and_eq_true] at h;obtain ⟨⟨⟨⟨⟨h0,h1⟩,h2⟩,h3⟩,h4⟩,h5⟩:=h;rcases Xr h0 with hk | hk | hk | hk <;> rw [hk] at h1 h2 h4 h5 <;> simp [UW,bE,dA,KC.int] at h1 h2 h4 h5
  ·grind
  ·grind
  ·grind
  grind
 rintro (⟨hk,h⟩ | ⟨hk,h⟩ | ⟨hk,h⟩ | ⟨hk,h⟩) <;> simp only [recOk,UW,bE,dA,hk] <;> simp [KC.int] <;> simp_all <;> omega
theorem iZ (h:recOk r=true):1<=(di r).length/\(di r).length<=221:=by
 have h1:=cK (n:=r.a.toNat) (by rcases bH.1 h with h | h | h | h <;> omega);have h2:=cK (n:=r.b.toNat) (by rcases bH.1 h with h | h | h | h <;> omega);have h3:r.x.length<=200:=by rcases bH.1 h with h | h | h | h <;> first | omega | simp [h]
 simp only [di];grind
variable {n:Nat}
theorem rq (h:n<9223372036854775808):eE n=n:=by
 rw [eE,if_pos h]
theorem FX (h:recOk r=true):bz (di r)=(r,true):=by
 have hk:=bH.1 h;have ha:0<=r.a/\r.a<=1048576:=by rcases hk with h | h | h | h <;> omega
 have hb:0<=r.b/\r.b<=1048576:=by rcases hk with h | h | h | h <;> omega
 have hk1:1<=r.kind/\r.kind<=4:=by rcases hk with h | h | h | h <;> omega
 have e0:di r=UInt8.ofNat r.kind.toNat :: (cJ r.a.toNat++((if tj r.kind=true then cJ r.b.toNat else [])++r.x)):=by simp [di]
 have e1:((UInt8.ofNat r.kind.toNat).toNat:Int)=r.kind:=by rw [ofNat_toNat]; omega
 have t1:=uM (n:=r.a.toNat) (by omega) ((if tj r.kind=true then cJ r.b.toNat else [])++r.x);have w1:eE r.a.toNat=r.a:=by rw [rq (by omega)]; omega
 have w2:eE r.b.toNat=r.b:=by rw [rq (by omega)]; omega
 unfold bz;rw [e0,if_neg (by simp),List.drop_one,List.tail_cons,t1,List.getD_cons_zero,e1];dsimp only;rw [if_neg (by decide),w1,List.drop_left];by_cases h2:tj r.kind=true
 ·rw [if_pos h2,if_pos h2,uM (by omega)];dsimp only;rw [if_neg (by decide),w2,List.drop_left]
 rw [if_neg h2,if_neg h2,ahp];have:r.b=0:=by
  rcases hk with h | h | h | h
  ·grind
  ·exact absurd (by rw [h.1]; rfl) h2
  ·exact absurd (by rw [h.1]; rfl) h2
  exact h.2.2.2.1
 cases r; simp_all
theorem Ij (h:recOk r=true):bO (di r)=(r,0):=by
 unfold bO;rw [FX h];simp [aH,h]
def jh (r:Record):List UInt8:=eF (di r)
def encL (l:List Record):List UInt8:=l.flatMap jh
def stepsF:Stable->List Record->Stable × Int
 | s,[]=>(s,0)
 | s,r :: l=>if (aI s r).2=0 then stepsF (aI s r).1 l else (s,(aI s r).2)
theorem rb {s:Stable} (h:(aI s r).2=0):recOk r=true:=by
 unfold aI at h;grind
variable {b:List UInt8}
theorem gK (h:(a_ b).2.2=0):7<=(a_ b).2.1/\(a_ b).2.1<=b.length:=by
 have h0:0<=dU b:=Int.natCast_nonneg _;revert h;unfold a_;grind
theorem mf:∀ {n m:Nat} {s:Stable} {b:List UInt8},b.length<n->b.length<m->playB n s b=playB m s b
 | n+1,m+1,s,b,h1,h2=>by
  simp only [playB];by_cases h0:(a_ b).2.2=0
  ·have hs:=gK h0;have hl:(b.drop (a_ b).2.1.toNat).length<b.length:=by rw [List.length_drop]; omega
   rw [mf (n:=n) (m:=m) (by omega) (by omega)]
  grind
theorem kq (r:Record):(jh r).length=(di r).length+6:=mn
theorem BY {s:Stable} {t:List UInt8} (h:(aI s r).2=0):playB (n+1) s (jh r++t)=((playB n (aI s r).1 t).1,(jh r).length+(playB n (aI s r).1 t).2):=by
 have hr:=rb h;have hl:=iZ hr;have ht:a_ (jh r++t)=(di r,((di r).length:Int)+6,0):=HG (by intro e; rw [e] at hl; simp at hl) (by omega);have ed:(jh r++t).drop (((di r).length:Int)+6).toNat=t:=by
  rw [show (((di r).length:Int)+6).toNat=(jh r).length by rw [kq]; omega];grind
 simp only [playB,ht,Ij hr,h,ed,kq];simp
theorem mi {s:Stable} (h:(a_ b).2.2≠0):playB n s b=(s,0):=by
 cases n
 ·rfl
 rw [playB,if_pos h]
theorem Gr:(a_ []).2.2≠0:=by decide
theorem vE:∀ {l:List Record} {n k:Nat} {s:Stable},(stepsF s l).2=0->(encL l).length<n->∃ j,j<=l.length/\playB n s ((encL l).take k)=((stepsF s (l.take j)).1,((encL (l.take j)).length:Int))/\(stepsF s (l.take j)).2=0/\(encL (l.take j)).length<=k/\(∀ i,i<=l.length->(encL (l.take i)).length<=k->i<=j)
 | [],n,k,s,_,_=>⟨0,ac5 _,by simp only [encL,List.flatMap_nil,List.take_nil]; rw [mi Gr]; rfl,rfl,by simp [encL],fun i hi _=>hi⟩
 | r :: l,0,_,_,_,hn=>by omega
 | r :: l,n+1,k,s,h,hn=>by
  have hs:(aI s r).2=0:=by
   unfold stepsF at h;split at h
   ·assumption
   rename_i h1; exact absurd h h1
  have h':(stepsF (aI s r).1 l).2=0:=by
   unfold stepsF at h;rwa [if_pos hs] at h
  have hr:=rb hs;have hl:=iZ hr;have ee:encL (r :: l)=jh r++encL l:=by simp [encL]
  rw [ee] at hn ⊢;rw [List.length_append] at hn;by_cases hk:k<(jh r).length
  ·refine ⟨0,afV _,?_,rfl,by simp [encL],fun i hi hk'=>?_⟩
   ·have e1:(jh r++encL l).take k=(jh r).take k:=ado (by omega);rw [e1,mi (b:=(jh r).take k) (xS (x:=di r) (by omega) (by rw [kq] at hk; omega))];rfl
   cases i with
   | zero=>exact ac5 _
   | succ i=>
    rw [agn] at hk';simp only [encL,List.flatMap_cons,List.length_append] at hk';omega
  obtain ⟨j,h1,h2,h3,h4,h5⟩:=vE (l:=l) (n:=n) (k:=k - (jh r).length) h' (by have:=kq r; omega);have e1:(jh r++encL l).take k=jh r++(encL l).take (k - (jh r).length):=by
   rw [List.take_append,List.take_of_length_le (by omega)]
  refine ⟨j+1,by simp; omega,?_,?_,?_,fun i hi hk'=>?_⟩
  ·rw [e1,BY hs,h2,agn,stepsF,if_pos hs];simp [encL]
  ·rw [agn,stepsF,if_pos hs]; exact h3
  ·rw [agn];simp only [encL,List.flatMap_cons,List.length_append];have:(encL (l.take j)).length=(List.flatMap jh (l.take j)).length:=rfl;omega
  cases i with
  | zero=>omega
  | succ i=>
   rw [agn] at hk';simp only [encL,List.flatMap_cons,List.length_append] at hk';have:=h5 i (by simpa using hi) (by simp only [encL]; omega);omega
theorem ej:∀ {l m:List Record} {s:Stable},(stepsF s l).2=0->stepsF s (l++m)=stepsF (stepsF s l).1 m
 | [],_,_,_=>rfl
 | r :: l,m,s,h=>by
  rw [List.cons_append,stepsF];simp only [stepsF] at h ⊢;split
  ·rename_i h1;rw [if_pos h1] at h;rw [ej h]
  grind
theorem ra (l m:List Record):encL (l++m)=encL l++encL m:=by simp [encL]
structure Dsk where
 b:List UInt8
 synced:Int
 down:Bool
 doomed:Bool
 keep:Int
deriving DecidableEq
def Dsk.OK (d:Dsk):Prop:=0<=d.synced/\d.synced<=d.b.length/\d.b.length<=65536
def Dsk.at_ (d:Dsk) (k:Int):Int:=d.synced+min (max k 0) (d.b.length - d.synced)
def Dsk.dk (d:Dsk) (k:Int):Dsk:=⟨d.b.take (d.at_ k).toNat,d.at_ k,true,false,0⟩
def Dsk.up (d:Dsk):Dsk:=⟨d.b,d.synced,false,false,0⟩
def Dsk.cut (d:Dsk) (n:Int):Dsk:=if d.down=true\/n<0\/(d.b.length:Int)<n then d else ⟨d.b.take n.toNat,n,d.down,d.doomed,d.keep⟩
def Dsk.kQ (d:Dsk) (n:Int):Int:=if d.down=true then 30 else if n<0\/(d.b.length:Int)<n then 1 else 0
def Dsk.app (d:Dsk) (x:List UInt8):Dsk:=if d.down=true\/65536 - (d.b.length:Int)<x.length then d else ⟨d.b++x,d.synced,d.down,d.doomed,d.keep⟩
def Dsk.jJ (d:Dsk) (x:List UInt8):Int:=if d.down=true then 30 else if 65536 - (d.b.length:Int)<x.length then 20 else 0
def Dsk.sync (d:Dsk):Dsk:=if d.down=true then d else if d.doomed=true then d.dk d.keep else ⟨d.b,d.b.length,d.down,d.doomed,d.keep⟩
def Dsk.eX (d:Dsk):Int:=if d.down=true\/d.doomed=true then 30 else 0
def saveF (d:Dsk) (s:Stable) (l:List Record):Dsk × Stable × Int:=
 if l.all recOk=false then (d,s,1) else if (stepsF s l).2≠0 then (d,s,(stepsF s l).2) else if l.length=0 then (d,s,0)
 else if d.jJ (encL l)≠0 then (d,s,d.jJ (encL l)) else if (d.app (encL l)).eX≠0 then ((d.app (encL l)).sync,s,(d.app (encL l)).eX)
 else ((d.app (encL l)).sync,(stepsF s l).1,0)
def gY (l:List Entry):Int:=(l.getD (l.length - 1) ⟨0,[]⟩).term
def cD (l:List Entry) (k:Int):Int:=if k=0 then 0 else if k<0\/(l.length:Int)<k then -1 else (l.getD (k - 1).toNat ⟨0,[]⟩).term
def jy (l:List Entry) (n t:Int):Bool:=decide (gY l<t) || decide (t=gY l) && decide ((l.length:Int)<=n)
def gX:List Entry->List Entry->Nat
 | x :: h,y :: a=>if x.term=y.term then gX h a+1 else 0
 | _,_=>0
def aZ (l:List Entry) (k:Int) (m:List Entry):Int × List Entry:=
 if k<0\/(l.length:Int)<k then (0,[]) else if m.length<=gX (l.drop k.toNat) m then (0,[]) else if (l.drop k.toNat).length<=gX (l.drop k.toNat) m then (0,m.drop (gX (l.drop k.toNat) m)) else (k+gX (l.drop k.toNat) m+1,m.drop (gX (l.drop k.toNat) m))
def fu (l:List Entry) (k m:Int):List Entry:=if (k<0\/(l.length:Int)<k)\/m<1 then [] else (l.drop k.toNat).take (min m ((l.drop k.toNat).length:Int)).toNat
def gj (l:List Int):Int:=if l.length=0 then 0 else (l.mergeSort (fun a b=>decide (b<=a))).getD (l.length / 2) 0
theorem nz:∀ {h a:List Entry},gX h a<=h.length/\gX h a<=a.length
 | [],_=>⟨ac5 _,afV _⟩
 | _ :: _,[]=>⟨afV _,ac5 _⟩
 | x :: h,y :: a=>by
  have:=nz (h:=h) (a:=a);simp only [gX];grind
theorem ou:∀ {h a:List Entry} {j:Nat} {x y:Entry},j<=gX h a->h[j]? = some x->a[j]? = some y->(x.term=y.term↔j+1<=gX h a)
 | u :: h,v :: a,0,x,y,_,hx,hy=>by
  simp at hx hy;simp only [gX];grind
 | u :: h,v :: a,j+1,x,y,hj,hx,hy=>by
  simp only [agO] at hx hy;simp only [gX] at hj ⊢;split at hj
  ·rename_i e;rw [if_pos e];rw [ou (by omega) hx hy]; omega
  omega
def dJ (n m:Int) (b:Bool):Bool:=bX n 0 (if b=true then m else 0)
def od (x:Letter):Bool:=(decide (x.kind=1) || decide (x.kind=2) || decide (x.kind=3) || decide (x.kind=4)) && bX x.frm 0 4 && bX x.to 0 4 && !decide (x.frm=x.to) && bX x.term 1 1048576 && bX x.bin 1 3 &&
 dJ x.a 64 (decide (x.kind=1) || decide (x.kind=3) || decide (x.kind=4)) && dJ x.b 1048576 (decide (x.kind=1) || decide (x.kind=3)) && dJ x.c 64 (decide (x.kind=3)) && (!x.ok || decide (x.kind=2) || decide (x.kind=4)) && dJ (x.l.length:Int) 4 (decide (x.kind=3))
def eR (y:Entry):Bool:=bX y.term 1 1048576 && decide ((y.b.length:Int)<=200)
def mayL (x:Letter):Int:=if od x=true/\x.l.all eR=true then 0 else 1
def aC (s:Stable) (t:Int):List Record:=if t<=s.term then [] else [⟨2,t,0,[]⟩]
def aU (s:Stable) (me:Int):List Record × Int:=if me<0\/5<=me then ([],1) else if 1048576<=s.term then ([],4) else ([⟨2,s.term+1,me+1,[]⟩],0)
def Ux (s:Stable) (x:Letter):Bool:=decide (s.term<x.term) || decide (s.vote=0) || decide (s.vote=x.frm+1)
def bc (s:Stable) (x:Letter):List Record × Bool × Int:=
 if ¬ mayL x=0\/¬ x.kind=1 then ([],false,1) else if (x.term<s.term\/Ux s x=false)\/jy s.log x.a x.b=false then (aC s x.term,false,0)
 else if x.term=s.term/\s.vote=x.frm+1 then ([],true,0) else ([⟨2,x.term,x.frm+1,[]⟩],true,0)
def ph (l:List Bool):Bool:=decide ((l.length:Int).tdiv 2<(l.countP id:Nat))
abbrev na:Letter:=⟨0,0,0,0,0,0,0,0,false,[]⟩
def rW (s:Stable) (r:Route):Letter:=⟨3,r.frm,r.to,s.term,r.next - 1,cD s.log (r.next - 1),r.commit,r.bin,false,fu s.log (r.next - 1) 4⟩
def gl (s:Stable) (r:Route):Letter × Int:=if r.next<1\/(s.log.length:Int)+1<r.next then (na,1) else if ¬ mayL (rW s r)=0 then (na,mayL (rW s r)) else (rW s r,0)
def fb:Int->List Entry->List Record
 | _,[]=>[]
 | n,y :: l=>⟨3,n,y.term,y.b⟩ :: fb (n+1) l
def jL (s:Stable) (x:Letter):List Record:=
 aC s x.term++(if (aZ s.log x.a x.l).1=0 then [] else [⟨4,(aZ s.log x.a x.l).1,0,[]⟩])++fb (x.a+x.l.length - (aZ s.log x.a x.l).2.length+1) (aZ s.log x.a x.l).2
def aA (s:Stable) (x:Letter):List Record × Bool × Int × Int:=
 if (¬ mayL x=0\/¬ x.kind=3)\/64<x.a+x.l.length then ([],false,0,1) else if x.term<s.term then ([],false,0,0)
 else if cD s.log x.a=x.b then (jL s x,true,x.a+x.l.length,0) else (aC s x.term,false,0,0)
def lI (n:Int) (x:Letter):Int:=if x.ok=true then x.a+1 else if 1<n then min (n - 1) (x.a+1) else 1
def pM (s:Stable) (l:List Int) (k:Int):Int:=if k<min (gj l) s.log.length/\cD s.log (min (gj l) s.log.length)=s.term then min (gj l) s.log.length else k
variable {x:Letter}
theorem jg (h:mayL x=0):0<=x.frm/\x.frm<=4/\0<=x.to/\x.to<=4/\1<=x.term/\x.term<=1048576/\1<=x.bin/\x.bin<=3/\0<=x.a/\x.a<=64/\0<=x.c/\x.c<=64/\x.l.length<=4/\1<=x.kind/\x.kind<=4:=by
 unfold mayL at h;split at h
 ·rename_i h1;simp only [od,bX,dJ] at h1;grind
 cases h
theorem qv:∀ {l:List Record},l.all recOk=true->(encL l).length<=227*l.length
 | [],_=>ac5 _
 | r :: l,h=>by
  simp only [agy,Bool.and_eq_true] at h;have h1:=iZ h.1;have h2:=qv h.2;have e:encL (r :: l)=jh r++encL l:=by simp [encL]
  rw [e,List.length_append,kq,List.length_cons]; omega
structure NdC where
 me:Int
 many:Int
 bin:Int
 st:Stable
 role:Int
 commit:Int
 applied:Int
 s:State
def XS (k:Nat) (n:NdC):List AV:=[.int n.me,.int n.many,.ptr (k+1) 0,.int n.bin]++(cellsOf (.nm .stable) n.st++([.int n.role,.int n.commit,.int n.applied]++cellsOf (.nm .state) n.s))
def lNd {β:Type} (k:Nat) (R:PL β):PL (NdC × β):=PL.Yr (ax cI (ax cI (ax (aW (k+1) 0) (ax cI (lSt (.nm .stable) (ax cI (ax cI (ax cI (lSt (.nm .state) R))))))))) (fun q=>(⟨q.1,q.2.1,q.2.2.2.1,q.2.2.2.2.1,q.2.2.2.2.2.1,q.2.2.2.2.2.2.1,q.2.2.2.2.2.2.2.1,q.2.2.2.2.2.2.2.2.1⟩,q.2.2.2.2.2.2.2.2.2)) (fun q=>(q.1.me,q.1.many,(),q.1.bin,q.1.st,q.1.role,q.1.commit,q.1.applied,q.1.s,q.2))
structure Nd where
 c:NdC
 d:Dsk
 rp:List Reply
 vs:List Bool
 bn:List Int
 nx:List Int
 mt:List Int
def ndO (k:Nat) (n:Nd):AH:=[.box 103 (XS k n.c++[.own (k+3),.own (k+4),.own (k+5),.own (k+6),.own (k+7)]),.box 147 [.own (k+2),.int n.d.synced,.bool (.atom n.d.down),.bool (.atom n.d.doomed),.int n.d.keep],.row 5 .u8 n.d.b,.row 78 (.nm .reply) n.rp,.row 4 .bool n.vs,.row 3 .int n.bn,.row 3 .int n.nx,.row 3 .int n.mt]
def abd {β:Type} (k:Nat) (R:PH β):PH (Nd × β):=PH.Yr (aB (dx 103 (lNd k (ax (eN (k+3)) (ax (eN (k+4)) (ax (eN (k+5)) (ax (eN (k+6)) (ax (eN (k+7)) du))))))) (aB (dx 147 (ax (eN (k+2)) (ax cI (ax cB (ax cB (ax cI du)))))) (aB (eS 5 .u8) (aB (eS 78 (.nm .reply)) (aB (eS 4 .bool) (aB (eS 3 .int) (aB (eS 3 .int) (aB (eS 3 .int) R))))))))
 (fun q=>(⟨q.1.1,⟨q.2.2.1,q.2.1.2.1,q.2.1.2.2.1,q.2.1.2.2.2.1,q.2.1.2.2.2.2.1⟩,q.2.2.2.1,q.2.2.2.2.1,q.2.2.2.2.2.1,q.2.2.2.2.2.2.1,q.2.2.2.2.2.2.2.1⟩,q.2.2.2.2.2.2.2.2))
 (fun q=>((q.1.c,(),(),(),(),(),()),((),q.1.d.synced,q.1.d.down,q.1.d.doomed,q.1.d.keep,()),q.1.d.b,q.1.rp,q.1.vs,q.1.bn,q.1.nx,q.1.mt,q.2))
def nq (n:Nd):AH:=ndO 0 n
def wN:PH Nd:=PH.Yr (abd 0 aw) (·.1) (fun n=>(n,()))
structure NdR where
 n:Nd
 l:List Letter
 e:Int
abbrev Nd.save (n:Nd) (l:List Record):Nd:={ n with d:=(saveF n.d n.c.st l).1,c:={ n.c with st:=(saveF n.d n.c.st l).2.1 } }
abbrev Nd.aN (n:Nd) (l:List Record):Int:=(saveF n.d n.c.st l).2.2
def jw (n:NdC) (k:Nat):List Int:=((List.range k).map fun i:Nat=>(i:Int)).filter (fun i=>decide (i≠n.me))
def cz (n:NdC):List Int:=jw n n.many.toNat
def pU (n:NdC) (kd to:Int):Letter:=⟨kd,n.me,to,n.st.term,0,0,0,n.bin,false,[]⟩
def ln (n:Nd) (to:Int):Letter × Int:=gl n.c.st ⟨n.c.me,to,n.nx.getD to.toNat 0,n.c.commit,n.c.bin⟩
def cq (n:Nd):List Int->List Letter × Int
 | []=>([],0)
 | to :: l=>if (ln n to).2=0 then (if (cq n l).2=0 then ((ln n to).1 :: (cq n l).1,0) else ([],(cq n l).2)) else ([],(ln n to).2)
def cG (n:Nd):List Letter × Int:=if n.d.down=true then ([],30) else if n.c.role=2 then cq n (cz n.c) else ([],33)
noncomputable def Nd.iF:Nat->Nd->Nd
 | 0,n=>n
 | k+1,n=>if n.c.applied<n.c.commit then
   (if pE n.c.bin ((n.c.st.log.drop n.c.applied.toNat).take 1)=0 then Nd.iF k { n with c:={ n.c with s:=plS n.c.bin n.c.s ((n.c.st.log.drop n.c.applied.toNat).take 1),applied:=n.c.applied+1 },rp:=n.rp++plR n.c.bin n.c.s ((n.c.st.log.drop n.c.applied.toNat).take 1) } else n)
  else n
noncomputable def Nd.apply (n:Nd):Nd:=n.iF (n.c.commit - n.c.applied).toNat
def Nd.dX (n:Nd):Nd:={ n with c:={ n.c with role:=1 },vs:=(List.replicate n.c.many.toNat false).set n.c.me.toNat true,bn:=(List.replicate n.c.many.toNat (0:Int)).set n.c.me.toNat n.c.bin,nx:=List.replicate n.c.many.toNat 0,mt:=List.replicate n.c.many.toNat 0 }
def gm (n:NdC):List Letter:=(cz n).map fun to=>{ pU n 1 to with a:=n.st.log.length,b:=gY n.st.log }
def timeoutF (n:Nd):NdR:=if n.d.down=true then ⟨n,[],30⟩ else if n.c.role=2 then ⟨n,[],0⟩ else if ¬ (aU n.c.st n.c.me).2=0 then ⟨n,[],(aU n.c.st n.c.me).2⟩
 else if ¬ n.aN (aU n.c.st n.c.me).1=0 then ⟨n.save (aU n.c.st n.c.me).1,[],n.aN (aU n.c.st n.c.me).1⟩ else ⟨(n.save (aU n.c.st n.c.me).1).dX,gm (n.save (aU n.c.st n.c.me).1).dX.c,0⟩
def db (n:NdC) (x:Letter):Bool:=if (¬ mayL x=0\/¬ x.to=n.me)\/n.many<=x.frm then false else if ¬ x.kind=3 then true else if ¬ (aA n.st x).2.2.2=0 then false
 else !(aA n.st x).1.any (fun r=>decide (r.kind=4) && decide (r.a<=n.commit))
def df (n:Nd) (x:Letter):NdR:=if ¬ (bc n.c.st x).2.2=0 then ⟨n,[],(bc n.c.st x).2.2⟩ else if ¬ n.aN (bc n.c.st x).1=0 then ⟨n.save (bc n.c.st x).1,[],n.aN (bc n.c.st x).1⟩
 else ⟨n.save (bc n.c.st x).1,[{ pU (n.save (bc n.c.st x).1).c 2 x.frm with ok:=(bc n.c.st x).2.1 }],0⟩
def Nd.follow (n:Nd):Nd:={ n with c:={ n.c with role:=0 } }
noncomputable def bZ (n:Nd) (x:Letter):NdR:=if ¬ (aA n.c.st x).2.2.2=0 then ⟨n,[],(aA n.c.st x).2.2.2⟩ else if ¬ n.aN (aA n.c.st x).1=0 then ⟨n.save (aA n.c.st x).1,[],n.aN (aA n.c.st x).1⟩
 else let m:=n.save (aA n.c.st x).1
  let f:=if x.term=m.c.st.term then m.follow else m
  if (aA n.c.st x).2.1=true then (let g:=({ f with c:={ f.c with commit:=max f.c.commit (min x.c (aA n.c.st x).2.2.1) } }:Nd).apply; ⟨g,[{ pU f.c 4 x.frm with ok:=true,a:=(aA n.c.st x).2.2.1 }],0⟩)
  else ⟨f,[{ pU f.c 4 x.frm with a:=if x.term=f.c.st.term then min 64 (f.c.st.log.length:Int) else 0 }],0⟩
def gO (n:Nd):NdR:=
 let m:Nd:={ n with c:={ n.c with role:=2 },nx:=List.replicate n.nx.length ((n.c.st.log.length:Int)+1),mt:=List.replicate n.mt.length 0 }
 if (n.c.st.log.length:Int)+1<=64 then (let l:=[⟨3,(n.c.st.log.length:Int)+1,n.c.st.term,[]⟩]; if m.aN l=0 then ⟨m.save l,(cG (m.save l)).1,(cG (m.save l)).2⟩ else ⟨m.save l,[],m.aN l⟩)
 else ⟨m,(cG m).1,(cG m).2⟩
def Nd.Vn (n:Nd) (x:Letter):Nd:=
 let e:Int:=n.c.st.log.length
 let nx:=n.nx.set x.frm.toNat (min (lI (n.nx.getD x.frm.toNat 0) x) (e+1))
 let mt:=if x.ok=true then n.mt.set x.frm.toNat (max (n.mt.getD x.frm.toNat 0) (min x.a e)) else n.mt
 { n with nx:=nx,mt:=mt,c:={ n.c with commit:=pM n.c.st (mt.set n.c.me.toNat e) n.c.commit } }
noncomputable def iq (n:Nd) (x:Letter):NdR:=
 let m:=(n.Vn x).apply
 if (n.c.st.log.length:Int)<m.nx.getD x.frm.toNat 0 then ⟨m,[],0⟩ else if (ln m x.frm).2=0 then ⟨m,[(ln m x.frm).1],0⟩ else ⟨m,[],(ln m x.frm).2⟩
noncomputable def br (n:Nd) (x:Letter):NdR:=
 let l:=aC n.c.st x.term
 if ¬ n.aN l=0 then ⟨n.save l,[],n.aN l⟩ else
 let m:=n.save l
 if ¬ x.term=m.c.st.term\/m.c.role=0 then ⟨m,[],0⟩ else
 let m2:Nd:={ m with bn:=m.bn.set x.frm.toNat x.bin }
 if (x.kind=2/\x.ok=true)/\m.c.role=1 then (let m3:Nd:={ m2 with vs:=m2.vs.set x.frm.toNat true }; if ph m3.vs=true then gO m3 else ⟨m3,[],0⟩)
 else if x.kind=4/\m.c.role=2 then iq m2 x else ⟨m2,[],0⟩
noncomputable def receiveF (n:Nd) (x:Letter):NdR:=if n.d.down=true then ⟨n,[],30⟩ else if db n.c x=false then ⟨n,[],1⟩ else
 let m:=if n.c.st.term<x.term then n.follow else n
 if x.kind=1 then df m x else if x.kind=3 then bZ m x else br m x
def Nd.fresh (n:Nd) (b:Int):Nd:={ c:=⟨n.c.me,n.c.many,b,(replayF n.d.b).1,0,0,0,State.mk 1 1 0 0 [] [] []⟩,d:=n.d.up.cut (replayF n.d.b).2,rp:=[],vs:=[],bn:=[],nx:=[],mt:=[] }
def startF (n:Nd) (b:Int):NdR:=if n.d.down=false then ⟨n,[],31⟩ else if ¬ bS b (max (replayF n.d.b).1.floor 1)=0 then ⟨n,[],bS b (max (replayF n.d.b).1.floor 1)⟩
 else let m:=n.fresh b
  if m.c.st.floor<b then (let l:=[⟨1,b,0,[]⟩]; if m.aN l=0 then ⟨m.save l,[],0⟩ else ⟨{ m.save l with d:=(m.save l).d.dk 0 },[],m.aN l⟩) else ⟨m,[],0⟩
structure NdC3 where
 n:Nd
 a:Int
 b:Int
 e:Int
def callF (n:Nd) (c:Command):NdC3:=if n.d.down=true then ⟨n,0,0,30⟩ else if ¬ n.c.role=2 then ⟨n,0,0,33⟩ else if ¬ bC c n.c.s.version=0 then ⟨n,0,0,bC c n.c.s.version⟩
 else if c.kind=8/\¬ c.n=n.c.s.version+1 then ⟨n,0,0,1⟩ else if c.kind=8/\kg n.c.s.version n.bn=false then ⟨n,0,0,34⟩
 else if 64<(n.c.st.log.length:Int)+1 then ⟨n,0,0,20⟩ else if ¬ (eJ c n.c.st.term n.c.s.version).2=0 then ⟨n,0,0,(eJ c n.c.st.term n.c.s.version).2⟩
 else let l:=[⟨3,(n.c.st.log.length:Int)+1,(eJ c n.c.st.term n.c.s.version).1.term,(eJ c n.c.st.term n.c.s.version).1.b⟩]
  if n.aN l=0 then ⟨n.save l,(n.c.st.log.length:Int)+1,n.c.st.term,0⟩ else ⟨n.save l,0,0,n.aN l⟩
abbrev b_ (a b:Nd):Prop:=a.c.me=b.c.me/\a.c.many=b.c.many/\a.c.bin=b.c.bin/\a.c.st.floor=b.c.st.floor/\a.c.st.term=b.c.st.term/\a.c.st.vote=b.c.st.vote/\a.c.st.log=b.c.st.log/\a.c.role=b.c.role/\a.c.commit=b.c.commit/\a.c.applied=b.c.applied/\a.c.s.version=b.c.s.version/\a.c.s.next=b.c.s.next/\a.c.s.keep=b.c.s.keep/\a.c.s.quota=b.c.s.quota/\a.c.s.sess=b.c.s.sess/\a.c.s.opens=b.c.s.opens/\a.c.s.snaps=b.c.s.snaps/\a.d.synced=b.d.synced/\a.d.down=b.d.down/\a.d.doomed=b.d.doomed/\a.d.keep=b.d.keep/\a.d.b=b.d.b/\a.rp=b.rp/\a.vs=b.vs/\a.bn=b.bn/\a.nx=b.nx/\a.mt=b.mt
abbrev tH (a b:Nd) (p:Prop):Prop:=a.c.me=b.c.me/\a.c.many=b.c.many/\a.c.bin=b.c.bin/\a.c.st.floor=b.c.st.floor/\a.c.st.term=b.c.st.term/\a.c.st.vote=b.c.st.vote/\a.c.st.log=b.c.st.log/\a.c.role=b.c.role/\a.c.commit=b.c.commit/\a.c.applied=b.c.applied/\a.c.s.version=b.c.s.version/\a.c.s.next=b.c.s.next/\a.c.s.keep=b.c.s.keep/\a.c.s.quota=b.c.s.quota/\a.c.s.sess=b.c.s.sess/\a.c.s.opens=b.c.s.opens/\a.c.s.snaps=b.c.s.snaps/\a.d.synced=b.d.synced/\a.d.down=b.d.down/\a.d.doomed=b.d.doomed/\a.d.keep=b.d.keep/\a.d.b=b.d.b/\a.rp=b.rp/\a.vs=b.vs/\a.bn=b.bn/\a.nx=b.nx/\a.mt=b.mt/\p
structure DkI (d:Dsk) (L:List Record):Prop where
 st:(stepsF sta0 L).2=0
 rep:replayF d.b=((stepsF sta0 L).1,((encL L).length:Int))
 pre:∃ t,d.b=encL L++t
 syn:d.synced=d.b.length
 up:d.down=false->d.b=encL L
variable {L:List Record}
theorem pt (h:(stepsF sta0 L).2=0):∃ j,j<=L.length/\replayF ((encL L).take k)=((stepsF sta0 (L.take j)).1,((encL (L.take j)).length:Int))/\(stepsF sta0 (L.take j)).2=0/\(encL (L.take j)).length<=k/\∀ i,i<=L.length->(encL (L.take i)).length<=k->i<=j:=by
 obtain ⟨j,h1,h2,h3⟩:=vE (n:=(encL L).length+1) (k:=k) h (by omega);refine ⟨j,h1,?_,h3⟩;rw [replayF,<- h2];exact mf (by omega) (by rw [List.length_take]; omega)
theorem rD (h:(stepsF sta0 L).2=0):replayF (encL L)=((stepsF sta0 L).1,((encL L).length:Int)):=by
 obtain ⟨j,h1,h2,h3,h4,h5⟩:=pt (k:=(encL L).length) h;have:=h5 L.length (by omega) (by rw [List.take_length]; omega);grind
variable {l:List Record}
theorem DkI.aeb {d':Dsk} (hs:(stepsF sta0 (L++l)).2=0) (hk:(encL L).length<=k) (hb:d'.b=(encL (L++l)).take k) (hy:d'.synced=d'.b.length) (hd:d'.down=true):∃ i,i<=l.length/\DkI d' (L++l.take i):=by
 obtain ⟨j,h1,h2,h3,h4,h5⟩:=pt (k:=k) hs;have hj:=h5 L.length (by simp) (by rw [List.take_left]; exact hk);have e:(L++l).take j=L++l.take (j - L.length):=by rw [List.take_append,List.take_of_length_le (by omega)]
 rw [e] at h2 h3 h4;rw [List.length_append] at h1;refine ⟨j - L.length,by omega,h3,by rw [hb]; exact h2,?_,hy,fun h=>by rw [hd] at h; cases h⟩;refine ⟨(encL (l.drop (j - L.length))).take (k - (encL (L++l.take (j - L.length))).length),?_⟩;have e2:encL (L++l)=encL (L++l.take (j - L.length))++encL (l.drop (j - L.length)):=by
  rw [<- ra,List.append_assoc,List.take_append_drop]
 rw [hb,e2,List.take_append,List.take_of_length_le h4]
theorem DkI.enc {dm:Bool} {sy kp:Int} (hs:(stepsF sta0 L).2=0) (hb:b=encL L) (hy:sy=b.length) {dn:Bool}:DkI ⟨b,sy,dn,dm,kp⟩ L:=
 ⟨hs,by rw [hb]; exact rD hs,⟨[],by rw [ade]; exact hb⟩,hy,fun _=>hb⟩
theorem Oy {i:Nat}:L <+: L++l.take i:=⟨_,rfl⟩
structure SaveR (d:Dsk) (s:Stable) (l L:List Record):Prop where
 ok:(saveF d s l).2.2=0->(saveF d s l).1.down=false/\DkI (saveF d s l).1 (L++l)/\(saveF d s l).2.1=(stepsF s l).1/\(stepsF s l).2=0/\l.all recOk=true/\(saveF d s l).1.doomed=d.doomed/\(saveF d s l).1.keep=d.keep/\(l=[]->saveF d s l=(d,s,0))
 no:(saveF d s l).2.2≠0->(saveF d s l).2.1=s/\l≠[]/\(((saveF d s l).1=d/\(saveF d s l).2.2≠30)\/(d.doomed=true/\(saveF d s l).2.2=30/\(saveF d s l).1.down=true/\(saveF d s l).1.doomed=false/\∃ i,i<=l.length/\DkI (saveF d s l).1 (L++l.take i)))
 len:(saveF d s l).1.b.length<=d.b.length+(encL l).length
 le:d.b.length<=65536->(saveF d s l).1.b.length<=65536
theorem sR:∀ {l:List Record} {s:Stable},(stepsF s l).2=0\/(stepsF s l).2=1\/(stepsF s l).2=5
 | [],_=>.inl rfl
 | r :: l,s=>by
  rw [stepsF];split
  ·exact sR
  dsimp only;unfold aI;grind
variable {d:Dsk}
theorem Zv {s:Stable} (h:DkI d L) (hu:d.down=false) (hs:s=(stepsF sta0 L).1):SaveR d s l L:=by
 have he:=h.up hu;have hy:=h.syn;by_cases h1:l.all recOk=false
 ·have hne:l≠[]:=by rintro rfl; cases h1
  constructor <;> rw [saveF,if_pos h1]
  ·intro e; cases e
  ·exact fun _=>⟨rfl,hne,.inl ⟨rfl,(by decide:(1:Int)≠30)⟩⟩
  ·dsimp only; omega
  exact id
 by_cases h2:(stepsF s l).2≠0
 ·have hne:l≠[]:=by rintro rfl; exact h2 rfl
  constructor <;> rw [saveF,if_neg h1,if_pos h2]
  ·intro e; exact absurd e h2
  ·exact fun _=>⟨rfl,hne,.inl ⟨rfl,by rcases sR (l:=l) (s:=s) with e | e | e <;> rw [e] <;> decide⟩⟩
  ·dsimp only; omega
  exact id
 have h2':(stepsF s l).2=0:=adi.1 h2;have h1':l.all recOk=true:=by simpa using h1
 by_cases h3:l.length=0
 ·obtain rfl:=acr h3;constructor <;> rw [saveF,if_neg h1,if_neg h2,if_pos h3]
  ·exact fun _=>⟨hu,by rw [ade]; exact h,rfl,rfl,rfl,rfl,rfl,fun _=>rfl⟩
  ·intro e; exact absurd rfl e
  ·dsimp only; omega
  exact id
 have hne:l≠[]:=by rintro rfl; exact h3 rfl
 by_cases h4:d.jJ (encL l)≠0
 ·have h5:d.jJ (encL l)=20:=by
   unfold Dsk.jJ at h4 ⊢;rw [hu] at h4 ⊢;simp only [Bool.false_eq_true,if_false] at h4 ⊢;split at h4
   ·rename_i q; rw [if_pos q]
   exact absurd rfl h4
  constructor <;> rw [saveF,if_neg h1,if_neg h2,if_neg h3,if_pos h4]
  ·intro e; exact absurd e h4
  ·exact fun _=>⟨rfl,hne,.inl ⟨rfl,by dsimp only; rw [h5]; decide⟩⟩
  ·dsimp only; omega
  exact id
 have h6:¬ 65536 - (d.b.length:Int)<(encL l).length:=by
  intro q;unfold Dsk.jJ at h4;rw [hu,if_neg (by decide),if_pos q] at h4;exact h4 (by decide)
 have ea:d.app (encL l)=⟨d.b++encL l,d.synced,false,d.doomed,d.keep⟩:=by
  rw [Dsk.app,if_neg (by rw [hu]; simpa using h6),hu]
 have eb:d.b++encL l=encL (L++l):=by rw [he,ra]
 have es:(stepsF sta0 (L++l)).2=0:=by rw [ej h.st,<- hs]; exact h2'
 by_cases h7:d.doomed=true
 ·have h8:(d.app (encL l)).eX=30:=by rw [ea,Dsk.eX,if_pos (.inr h7)]
  have h9:(d.app (encL l)).sync=(d.app (encL l)).dk d.keep:=by rw [ea,Dsk.sync,if_neg Bool.false_ne_true,if_pos h7]
  constructor <;> rw [saveF,if_neg h1,if_neg h2,if_neg h3,if_neg h4,if_pos (by rw [h8]; decide)]
  ·intro e; rw [h8] at e; cases e
  ·refine fun _=>⟨rfl,hne,.inr ⟨h7,h8,by rw [h9]; rfl,by rw [h9]; rfl,?_⟩⟩;dsimp only;rw [h9,ea];refine DkI.aeb (k:=((⟨d.b++encL l,d.synced,false,d.doomed,d.keep⟩:Dsk).at_ d.keep).toNat) es ?_ (by show List.take _ (d.b++encL l)=_; rw [eb]) ?_ rfl
   ·rw [<- he];simp only [Dsk.at_,List.length_append]; omega
   simp only [Dsk.dk,Dsk.at_,List.length_take,List.length_append]; omega
  ·rw [h9,ea];simp only [Dsk.dk,List.length_take,List.length_append]; omega
  intro _;rw [h9,ea];simp only [Dsk.dk,List.length_take,List.length_append]; omega
 have h8:(d.app (encL l)).eX=0:=by rw [ea,Dsk.eX,if_neg (by simpa using h7)]
 have h9:(d.app (encL l)).sync=⟨d.b++encL l,(d.b++encL l).length,false,d.doomed,d.keep⟩:=by rw [ea,Dsk.sync,if_neg Bool.false_ne_true,if_neg h7]
 constructor <;> rw [saveF,if_neg h1,if_neg h2,if_neg h3,if_neg h4,if_neg (by rw [h8]; decide)]
 ·refine fun _=>⟨by rw [h9],?_,rfl,h2',h1',by rw [h9],by rw [h9],fun e=>absurd e hne⟩;dsimp only;rw [h9];exact DkI.enc es eb rfl
 ·intro e; exact absurd rfl e
 ·rw [h9]; dsimp only; rw [List.length_append]; omega
 intro _; rw [h9]; dsimp only; rw [List.length_append]; omega
theorem agf (h:r.kind=1/\1<=r.a/\r.a<=3/\r.b=0/\r.x=[]):recOk r=true:=bH.2 (.inl h)
theorem ZI (h:r.kind=2/\0<=r.a/\r.a<=1048576/\0<=r.b/\r.b<=5/\r.x=[]):recOk r=true:=bH.2 (.inr (.inl h))
theorem ady (h:r.kind=3/\1<=r.a/\r.a<=64/\0<=r.b/\r.b<=1048576/\r.x.length<=200):recOk r=true:=bH.2 (.inr (.inr (.inl h)))
theorem agw (h:r.kind=4/\1<=r.a/\r.a<=64/\r.b=0/\r.x=[]):recOk r=true:=bH.2 (.inr (.inr (.inr h)))
theorem mU {s t:Stable} (h:recOk r=true) (e:fB s r=some t):aI s r=(t,0):=by
 rw [aI,if_neg (by rw [h]; decide),e]
theorem lQ {s:Stable} (h:(aI s r).2=0):stepsF s [r]=((aI s r).1,0):=by
 rw [stepsF,if_pos h,stepsF]
variable {t:Int}
theorem QP {s:Stable} {v:Int} (h0:0<=t) (h1:t<=1048576) (h2:0<=v) (h3:v<=5) (h:s.term<t\/(s.term=t/\(s.vote=0\/s.vote=v))):stepsF s [⟨2,t,v,[]⟩]=({ s with term:=t,vote:=v },0):=by
 have e:aI s ⟨2,t,v,[]⟩=({ s with term:=t,vote:=v },0):=by
  refine mU (ZI ⟨rfl,h0,h1,h2,h3,rfl⟩) ?_;rw [fB,if_neg (show ¬ (2:Int)=1 by decide),if_pos rfl,fw,if_neg];grind
 rw [lQ (by rw [e]),e]
theorem NC {s:Stable} (h0:0<=t) (h1:t<=1048576):stepsF s (aC s t)=({ s with term:=max s.term t,vote:=if s.term<t then 0 else s.vote },0)/\(aC s t).all recOk=true:=by
 unfold aC;split
 ·rename_i h;rw [show max s.term t=s.term by omega,if_neg (by omega)];exact ⟨rfl,rfl⟩
 rename_i h;rw [QP h0 h1 (by omega) (by omega) (.inl (by omega)),show max s.term t=t by omega,if_pos (by omega)];refine ⟨rfl,?_⟩;rw [agy,ZI ⟨rfl,h0,h1,by dsimp only; omega,by dsimp only; omega,rfl⟩]; rfl
theorem Hh {y:Entry}:eR y=true↔1<=y.term/\y.term<=1048576/\y.b.length<=200:=by
 simp only [eR,bX,Bool.and_eq_true,decide_eq_true_eq]; omega
theorem wS:∀ {m:List Entry} {s:Stable},m.all eR=true->s.log.length+m.length<=64->stepsF s (fb ((s.log.length:Int)+1) m)=({ s with log:=s.log++m },0)/\(fb ((s.log.length:Int)+1) m).all recOk=true
 | [],s,_,_=>⟨by rw [fb,stepsF,ade],rfl⟩
 | y :: m,s,h,hl=>by
  rw [agy,Bool.and_eq_true,Hh] at h;rw [List.length_cons] at hl;have hr:recOk ⟨3,(s.log.length:Int)+1,y.term,y.b⟩=true:=ady ⟨rfl,by dsimp only; omega,by dsimp only; omega,by dsimp only; omega,by dsimp only; omega,by dsimp only; omega⟩;have e:aI s ⟨3,(s.log.length:Int)+1,y.term,y.b⟩=({ s with log:=s.log++[y] },0):=by
   refine mU hr ?_;rw [fB,if_neg (show ¬ (3:Int)=1 by decide),if_neg (show ¬ (3:Int)=2 by decide),if_pos rfl,dN,if_neg (by dsimp only; omega)]
  obtain ⟨h1,h2⟩:=wS (m:=m) (s:={ s with log:=s.log++[y] }) h.2 (by dsimp only; rw [List.length_append,List.length_singleton]; omega);have e2:(((s.log++[y]).length:Nat):Int)+1=(s.log.length:Int)+1+1:=by rw [List.length_append,List.length_singleton]; omega
  rw [e2] at h1 h2;refine ⟨?_,?_⟩
  ·rw [fb,stepsF,if_pos (by rw [e]),e,h1]; simp
  rw [fb,agy,hr,h2]; rfl
theorem JI (h:mayL x=0):x.l.all eR=true:=by
 unfold mayL at h;grind
theorem Is (h:mayL x=0):0<=x.b:=by
 unfold mayL at h;split at h
 ·rename_i h1;simp only [od,bX,dJ] at h1;grind
 cases h
def eQ (s:Stable) (x:Letter):Nat:=gX (s.log.drop x.a.toNat) x.l
def dF (s:Stable) (x:Letter):List Entry:=if x.l.length<=eQ s x then s.log else s.log.take (x.a.toNat+eQ s x)++x.l.drop (eQ s x)
variable {k:Int}
theorem zZ {l:List Entry} (h:cD l k=t) (ht:0<=t) (hk:0<=k):k.toNat<=l.length:=by
 unfold cD at h;grind
theorem AZ {s:Stable} (ha:x.a.toNat<=s.log.length):x.a.toNat+x.l.length<=(dF s x).length/\(dF s x).length<=max s.log.length (x.a.toNat+x.l.length):=by
 have h:=nz (h:=s.log.drop x.a.toNat) (a:=x.l);unfold dF eQ;grind
theorem pw {m:List Entry} {k:Nat} (h:m.all eR=true):(m.drop k).all eR=true:=
 afi.2 fun y hy=>afi.1 h y (ahu hy)
theorem Pv {s:Stable} (h:mayL x=0) (hl:s.log.length<=64) (h64:x.a+x.l.length<=64) (ht:s.term<=x.term) (hm:cD s.log x.a=x.b) (ha:0<=x.a) (hx1:1<=x.term) (hx2:x.term<=1048576) :
  stepsF s (jL s x)=({ s with term:=x.term,vote:=if s.term<x.term then 0 else s.vote,log:=dF s x },0)/\(jL s x).all recOk=true:=by
 have hb:=Is h;have hal:=zZ hm hb ha;have he:=JI h;obtain ⟨n1,n2⟩:=NC (s:=s) (t:=x.term) (by omega) hx2;have n1:stepsF s (aC s x.term)=({ s with term:=x.term,vote:=if s.term<x.term then 0 else s.vote },0):=by rw [n1,show max s.term x.term=x.term by omega]
 have hc:=nz (h:=s.log.drop x.a.toNat) (a:=x.l);rw [List.length_drop] at hc;unfold jL;by_cases q1:x.l.length<=eQ s x
 ·have e:aZ s.log x.a x.l=(0,[]):=by rw [aZ,if_neg (by omega)]; exact if_pos q1
  rw [e,if_pos rfl,fb,ade,ade,dF,if_pos q1];grind
 by_cases q2:(s.log.drop x.a.toNat).length<=eQ s x
 ·have q3:eQ s x=s.log.length - x.a.toNat:=by rw [List.length_drop] at q2; unfold eQ at q2 ⊢; omega
  have e:aZ s.log x.a x.l=(0,x.l.drop (eQ s x)):=by rw [aZ,if_neg (by omega)]; exact (if_neg q1).trans (if_pos q2)
  have e2:x.a+(x.l.length:Int) - ((x.l.drop (eQ s x)).length:Int)+1=(s.log.length:Int)+1:=by rw [List.length_drop]; omega
  rw [e,if_pos rfl,ade];dsimp only;rw [e2];obtain ⟨k1,k2⟩:=wS (m:=x.l.drop (eQ s x)) (s:={ s with term:=x.term,vote:=if s.term<x.term then 0 else s.vote }) (pw he) (by dsimp only; rw [List.length_drop]; omega);dsimp only at k1 k2;refine ⟨?_,by rw [agr,n2,k2]; rfl⟩;rw [ej (by rw [n1]),n1];dsimp only;rw [k1,dF,if_neg q1,List.take_of_length_le (l:=s.log) (by omega)]
 have q3:x.a.toNat+eQ s x<s.log.length:=by rw [List.length_drop] at q2; omega
 have e:aZ s.log x.a x.l=(x.a+eQ s x+1,x.l.drop (eQ s x)):=by rw [aZ,if_neg (by omega)]; exact (if_neg q1).trans (if_neg q2)
 have hr:recOk ⟨4,x.a+eQ s x+1,0,[]⟩=true:=agw ⟨rfl,by dsimp only; omega,by dsimp only; omega,rfl,rfl⟩;have c1:aI { s with term:=x.term,vote:=if s.term<x.term then 0 else s.vote } ⟨4,x.a+eQ s x+1,0,[]⟩=({ s with term:=x.term,vote:=if s.term<x.term then 0 else s.vote,log:=s.log.take (x.a.toNat+eQ s x) },0):=by
  refine mU hr ?_;rw [fB,if_neg (show ¬ (4:Int)=1 by decide),if_neg (show ¬ (4:Int)=2 by decide),if_neg (show ¬ (4:Int)=3 by decide),fE,if_neg (by dsimp only; omega)];dsimp only;rw [show (x.a+(eQ s x:Int)+1 - 1).toNat=x.a.toNat+eQ s x by omega]
 have e2:x.a+(x.l.length:Int) - ((x.l.drop (eQ s x)).length:Int)+1=(((s.log.take (x.a.toNat+eQ s x)).length:Nat):Int)+1:=by rw [List.length_drop,List.length_take]; omega
 rw [e];dsimp only;rw [if_neg (by omega),e2];obtain ⟨k1,k2⟩:=wS (m:=x.l.drop (eQ s x)) (s:={ s with term:=x.term,vote:=if s.term<x.term then 0 else s.vote,log:=s.log.take (x.a.toNat+eQ s x) }) (pw he) (by dsimp only; rw [List.length_drop,List.length_take]; omega);dsimp only at k1 k2;refine ⟨?_,by rw [agr,agr,n2,k2]; simp [hr]⟩;have n3:stepsF s (aC s x.term++[⟨4,x.a+eQ s x+1,0,[]⟩])=({ s with term:=x.term,vote:=if s.term<x.term then 0 else s.vote,log:=s.log.take (x.a.toNat+eQ s x) },0):=by
  rw [ej (by rw [n1]),n1,lQ (by dsimp only; rw [c1])];dsimp only;rw [c1]
 rw [ej (by rw [n3]),n3];dsimp only;rw [k1,dF,if_neg q1]
structure NdOK (n:Nd):Prop where
 d:n.d.OK
 many:3<=n.c.many/\n.c.many<=5
 me:0<=n.c.me/\n.c.me<n.c.many
 log:n.c.st.log.length<=64
 term:0<=n.c.st.term/\n.c.st.term<=1048576
 com:0<=n.c.applied/\n.c.applied<=n.c.commit/\n.c.commit<=n.c.st.log.length
 len:n.c.role=0\/((n.vs.length:Int)=n.c.many/\(n.bn.length:Int)=n.c.many/\(n.nx.length:Int)=n.c.many/\(n.mt.length:Int)=n.c.many)
 rp:(n.rp.length:Int)=n.c.applied
abbrev fr0:State:=State.mk 1 1 0 0 [] [] []
structure UpI (n:Nd) (L:List Record):Prop where
 st:n.c.st=(stepsF sta0 L).1
 bin:1<=n.c.bin/\n.c.bin<=3/\n.c.st.floor=n.c.bin
 role:0<=n.c.role/\n.c.role<=2
 vote:n.c.role≠0->n.c.st.vote=n.c.me+1/\1<=n.c.st.term
 nx:n.c.role=2->∀ i:Nat,(i:Int)<n.c.many->1<=n.nx.getD i 0/\n.nx.getD i 0<=n.c.st.log.length+1
 pl:okPl n.c.bin (n.c.st.log.take n.c.applied.toNat)/\n.c.s=pS n.c.bin fr0 (n.c.st.log.take n.c.applied.toNat)/\n.rp=pR n.c.bin fr0 (n.c.st.log.take n.c.applied.toNat)
structure NInv (n:Nd) (L:List Record):Prop where
 ok:NdOK n
 d:DkI n.d L
 le:∀ r ∈ L,r.kind=3->1<=r.b
 up:n.d.down=false->UpI n L
structure LetI (n:Nd) (x:Letter):Prop where
 up:n.d.down=false
 frm:x.frm=n.c.me
 to:x.to≠n.c.me/\0<=x.to/\x.to<n.c.many
 term:x.term=n.c.st.term
 bin:x.bin=n.c.bin
 ask:x.kind=1->n.c.st.vote=n.c.me+1
 vote:x.kind=2->x.ok=true->n.c.st.vote=x.to+1
 copy:x.kind=3->n.c.role=2
structure StepR (n:Nd) (L:List Record) (n':Nd) (l:List Letter) (L':List Record):Prop where
 inv:NInv n' L'
 pre:L <+: L'
 me:n'.c.me=n.c.me/\n'.c.many=n.c.many
 len:n'.d.b.length<=n.d.b.length+1400
 lets:∀ x ∈ l,LetI n' x
 mono:n.d.down=false->n'.d.down=false->n.c.commit<=n'.c.commit/\n'.c.st.log.take n.c.commit.toNat=n.c.st.log.take n.c.commit.toNat/\n'.c.bin=n.c.bin
variable {n:Nd}
theorem StepR.refl (h:NInv n L):StepR n L n [] L:=
 ⟨h,List.prefix_refl _,⟨rfl,rfl⟩,by omega,fun _ hx=>(by cases hx),fun _ _=>⟨aee _,rfl,rfl⟩⟩
theorem Ic {s:Stable} (h:SaveR d s l L) (hl:l.length<=6):(saveF d s l).1.b.length<=d.b.length+1400:=by
 cases hq:l.all recOk
 ·have e:saveF d s l=(d,s,1):=by rw [saveF,if_pos hq]
  grind
 have:=h.len;have:=qv hq;omega
theorem Vu (n:Nd) (l:List Record):(n.save l).c={ n.c with st:=(saveF n.d n.c.st l).2.1 }:=rfl
theorem Zo (n:Nd) (l:List Record):(n.save l).d=(saveF n.d n.c.st l).1:=rfl
theorem py {s t:Stable} (hr:recOk r=true) (h:fB s r=some t) (hl:s.log.length<=64) (ht:0<=s.term/\s.term<=1048576):t.log.length<=64/\0<=t.term/\t.term<=1048576:=by
 have hk:=bH.1 hr;unfold fB at h;split at h
 ·unfold dQ at h;grind
 split at h
 ·unfold fw at h;grind
 split at h
 ·unfold dN at h;grind
 unfold fE at h;grind
theorem vk {s:Stable} (h:(aI s r).2=0):recOk r=true/\fB s r=some (aI s r).1:=by
 have hr:=rb h;unfold aI at h ⊢;grind
theorem rJ:∀ {l:List Record} {s:Stable},s.log.length<=64->0<=s.term/\s.term<=1048576->(stepsF s l).1.log.length<=64/\0<=(stepsF s l).1.term/\(stepsF s l).1.term<=1048576
 | [],_,h1,h2=>⟨h1,h2⟩
 | r :: l,s,h1,h2=>by
  rw [stepsF];split
  ·rename_i h;obtain ⟨hr,hb⟩:=vk h;obtain ⟨k1,k2⟩:=py hr hb h1 h2;exact rJ k1 k2
  grind
theorem Qr {n:NdC} {i:Int} (h:i ∈ cz n):i≠n.me/\0<=i/\i<n.many:=by
 unfold cz jw at h;grind
theorem ld {s:Stable}:(aC s t).length<=1:=by
 unfold aC;split <;> simp
structure ForMe (n:Nd) (x:Letter):Prop where
 may:mayL x=0
 to:x.to=n.c.me
 frm:x.frm<n.c.many
theorem Oc (h:db n.c x=true):ForMe n x/\(x.kind=3->(aA n.c.st x).2.2.2=0/\(aA n.c.st x).1.any (fun r=>decide (r.kind=4) && decide (r.a<=n.c.commit))=false):=by
 unfold db at h;split at h
 ·cases h
 rename_i h1;refine ⟨⟨by omega,by omega,by omega⟩,fun hk=>?_⟩;grind
theorem sa {s:Stable} (h:(aA s x).2.2.2=0):(mayL x=0/\x.kind=3/\x.a+x.l.length<=64)/\((x.term<s.term/\aA s x=([],false,0,0))\/(s.term<=x.term/\cD s.log x.a=x.b/\aA s x=(jL s x,true,x.a+x.l.length,0))\/(s.term<=x.term/\¬ cD s.log x.a=x.b/\aA s x=(aC s x.term,false,0,0))):=by
 unfold aA at h ⊢;split at h
 ·cases h
 grind
theorem Fu {s:Stable} (h:mayL x=0):(jL s x).length<=6:=by
 have hb:=jg h;have h1:=ld (s:=s) (t:=x.term);have h2:∀ (m:List Entry) (k:Int),(fb k m).length=m.length:=fun m=>by
  induction m with
  | nil=>intro _; rfl
  | cons y m ih=>intro k; rw [fb,List.length_cons,List.length_cons,ih]
 have h3:(aZ s.log x.a x.l).2.length<=x.l.length:=by
  unfold aZ;grind
 unfold jL;grind
theorem vV {s:Stable} (hm:mayL x=0) (ha:x.a.toNat<=s.log.length) (hc:(jL s x).any (fun r=>decide (r.kind=4) && decide (r.a<=k))=false) (h0:0<=k) (hk:k<=s.log.length):(dF s x).take k.toNat=s.log.take k.toNat/\k<=((dF s x).length:Int):=by
 have hb:=jg hm;have hq:=nz (h:=s.log.drop x.a.toNat) (a:=x.l);rw [List.length_drop] at hq;unfold dF;split
 ·grind
 rename_i h1;have h2:k.toNat<=x.a.toNat+eQ s x\/s.log.length<=x.a.toNat+eQ s x:=by
  by_cases q2:(s.log.drop x.a.toNat).length<=eQ s x
  ·grind
  left;have e:aZ s.log x.a x.l=(x.a+eQ s x+1,x.l.drop (eQ s x)):=by rw [aZ,if_neg (by omega)]; exact (if_neg h1).trans (if_neg q2)
  have h3:Record.mk 4 (x.a+eQ s x+1) 0 [] ∈ jL s x:=by
   unfold jL;rw [e];dsimp only;rw [if_neg (by omega)];simp
  have h4:=List.any_eq_false.1 hc _ h3;simp only [decide_true,Bool.true_and,decide_eq_true_eq] at h4;omega
 have hl:k.toNat<=(s.log.take (x.a.toNat+eQ s x)).length:=by rw [List.length_take]; omega
 refine ⟨?_,by rw [List.length_append]; omega⟩;rw [ado hl,ahH];rcases h2 with h2 | h2
 ·grind
 grind
theorem Em {s:Stable} (h:(saveF d s l).2.2=0):(saveF d s l).2.1=(stepsF s l).1/\(stepsF s l).2=0:=by
 unfold saveF at h ⊢;split at h
 ·cases h
 rename_i h1;split at h
 ·grind
 rename_i h2;have h2:=adi.1 h2;split at h
 ·rename_i h3;obtain rfl:=acr h3;exact ⟨rfl,rfl⟩
 grind
theorem Co (h0:NdOK n) (hm:db n.c x=true) (hk:x.kind=3) (hy:(aA n.c.st x).2.1=true) :
  (aA n.c.st x)=(jL n.c.st x,true,x.a+x.l.length,0)/\n.c.st.term<=x.term/\(stepsF n.c.st (jL n.c.st x))=({ n.c.st with term:=x.term,vote:=if n.c.st.term<x.term then 0 else n.c.st.vote,log:=dF n.c.st x },0) /\
  (dF n.c.st x).take n.c.commit.toNat=n.c.st.log.take n.c.commit.toNat/\n.c.commit<=((dF n.c.st x).length:Int)/\x.a+x.l.length<=((dF n.c.st x).length:Int)/\mayL x=0/\cD n.c.st.log x.a=x.b:=by
 obtain ⟨h1,h2⟩:=Oc hm;obtain ⟨h3,h4⟩:=h2 hk;have hb:=jg h1.may;obtain ⟨⟨_,_,h64⟩,hc⟩:=sa h3;rcases hc with ⟨_,e⟩ | ⟨e1,e2,e⟩ | ⟨_,_,e⟩
 ·rw [e] at hy; cases hy
 ·rw [e] at h4;have h5:=(Pv h1.may h0.log h64 e1 e2 (by omega) (by omega) (by omega)).1;have ha:=zZ e2 (Is h1.may) (by omega);obtain ⟨h6,h7⟩:=vV h1.may ha h4 (by have:=h0.com; omega) h0.com.2.2;have h8:=AZ (x:=x) ha;exact ⟨e,e1,h5,h6,h7,by omega,h1.may,e2⟩
 rw [e] at hy; cases hy
theorem Ey (h0:NdOK n) (hm:db n.c x=true) (hk:x.kind=3) (he:n.aN (aA n.c.st x).1=0) (hy:(aA n.c.st x).2.1=true) :
  (0<=(n.save (aA n.c.st x).1).c.applied/\max (n.save (aA n.c.st x).1).c.commit (min x.c (aA n.c.st x).2.2.1)<=((n.save (aA n.c.st x).1).c.st.log.length:Int))/\((n.save (aA n.c.st x).1).rp.length:Int)<=(n.save (aA n.c.st x).1).c.applied/\(n.save (aA n.c.st x).1).c.st.log.length<=10000:=by
 obtain ⟨e,e1,e2,e3,e4,e5,_⟩:=Co h0 hm hk hy;have h1:(n.save (aA n.c.st x).1).c.st=(stepsF n.c.st (aA n.c.st x).1).1:=(Em he).1;have h2:=rJ (l:=(aA n.c.st x).1) h0.log h0.term;rw [<- h1] at h2;have h3:(n.save (aA n.c.st x).1).c.st.log=dF n.c.st x:=by
  rw [h1,e];dsimp only;rw [e2]
 have h4:=h0.com;have h5:=h0.rp;have h6:(aA n.c.st x).2.2.1=x.a+x.l.length:=by rw [e]
 refine ⟨⟨h4.1,?_⟩,?_,by omega⟩
 ·show max n.c.commit (min x.c (aA n.c.st x).2.2.1)<=_;rw [h3,h6]; omega
 show ((n.rp.length:Nat):Int)<=n.c.applied;omega
theorem xL:∀ {n:Nat} {s:Stable} {b:List UInt8},s.log.length<=64->0<=s.term/\s.term<=1048576->((playB n s b).1.log.length<=64/\0<=(playB n s b).1.term/\(playB n s b).1.term<=1048576)/\0<=(playB n s b).2/\(playB n s b).2<=(b.length:Int)
 | 0,_,_,h,k=>⟨⟨h,k⟩,aee _,Int.natCast_nonneg _⟩
 | n+1,s,b,h,k=>by
  unfold playB;split
  ·grind
  rename_i h1;split
  ·grind
  split
  ·grind
  rename_i h3;have hs:=gK (adi.1 h1);obtain ⟨hr,hb⟩:=vk (adi.1 h3);obtain ⟨k1,k2⟩:=py hr hb h k;obtain ⟨k3,k4,k5⟩:=xL (n:=n) (b:=b.drop (a_ b).2.1.toNat) k1 k2;grind
theorem lZ (b:List UInt8):((replayF b).1.log.length<=64/\0<=(replayF b).1.term/\(replayF b).1.term<=1048576)/\0<=(replayF b).2/\(replayF b).2<=(b.length:Int):=
 xL (by simp) ⟨by decide,by decide⟩
theorem UK (h:d.OK):d.up.OK:=h
theorem Yj (h:d.OK) (h1:d.down=false) (h2:0<=k) (h3:k<=(d.b.length:Int)):(d.cut k).OK/\d.kQ k=0/\d.cut k=⟨d.b.take k.toNat,k,false,d.doomed,d.keep⟩:=by
 have hn:¬ (d.down=true\/k<0\/(d.b.length:Int)<k):=by rw [h1]; rintro (h | h | h) <;> first | cases h | omega
 have e:d.cut k=⟨d.b.take k.toNat,k,false,d.doomed,d.keep⟩:=by rw [Dsk.cut,if_neg hn,h1]
 refine ⟨?_,?_,e⟩
 ·rw [e];refine ⟨h2,?_,?_⟩ <;> dsimp only <;> rw [List.length_take]
  ·omega
  have:=h.2.2; omega
 rw [Dsk.kQ,if_neg (by rw [h1]; decide),if_neg (by omega)]
theorem AD (h:d.OK):(d.dk k).OK:=by
 obtain ⟨h1,h2,h3⟩:=h;refine ⟨?_,?_,?_⟩ <;> simp only [Dsk.dk,Dsk.at_]
 ·omega
 ·grind
 rw [List.length_take]; omega
theorem Rh (h:d.OK):d.sync.OK:=by
 unfold Dsk.sync;split
 ·exact h
 split
 ·exact AD h
 exact ⟨Int.natCast_nonneg _,aee _,h.2.2⟩
theorem aca {x:List UInt8} (h:d.OK):(d.app x).OK:=by
 obtain ⟨h1,h2,h3⟩:=h;unfold Dsk.app;split
 ·exact ⟨h1,h2,h3⟩
 refine ⟨h1,?_,?_⟩ <;> dsimp only <;> rw [List.length_append] <;> omega
theorem qn {s:Stable} (h:d.OK):(saveF d s l).1.OK:=by
 unfold saveF;repeat' split
 all_goals first | exact h | exact Rh (aca h)
abbrev Nd.fr (n:Nd) (b:Int):Nd:=⟨⟨n.c.me,n.c.many,b,(replayF n.d.b).1,0,0,0,State.mk 1 1 0 0 [] [] []⟩,(if n.d.down=true then n.d.up else n.d).cut (replayF n.d.b).2,[],[],[],[],[]⟩
section
variable {n:Nd} {b:Int}
theorem ZQ (h:n.d.down=false):startF n b=⟨n,[],31⟩:=if_pos h
variable (h:n.d.down=true)
include h
theorem KL:n.fresh b=n.fr b:=by
 rw [Nd.fresh,Nd.fr,if_pos h]
theorem abb (h1:¬ bS b (max (replayF n.d.b).1.floor 1)=0):startF n b=⟨n,[],bS b (max (replayF n.d.b).1.floor 1)⟩:=by rw [startF,if_neg (by rw [h]; decide),if_pos h1]
theorem xg (h0:n.d.OK):((if n.d.down=true then n.d.up else n.d).cut (replayF n.d.b).2).OK/\(if n.d.down=true then n.d.up else n.d).kQ (replayF n.d.b).2=0/\(if n.d.down=true then n.d.up else n.d).cut (replayF n.d.b).2=⟨n.d.b.take (replayF n.d.b).2.toNat,(replayF n.d.b).2,false,false,0⟩:=by
 rw [if_pos h];have:=lZ n.d.b;exact Yj (d:=n.d.up) (UK h0) rfl this.2.1 this.2.2
variable (h1:bS b (max (replayF n.d.b).1.floor 1)=0)
include h1
theorem VH (h2:(replayF n.d.b).1.floor<b) (h3:(n.fr b).aN [⟨1,b,0,[]⟩]=0):startF n b=⟨(n.fr b).save [⟨1,b,0,[]⟩],[],0⟩:=by
 rw [startF,if_neg (by rw [h]; decide),if_neg (by omega),KL h];grind
theorem WV (h2:(replayF n.d.b).1.floor<b) (h3:¬ (n.fr b).aN [⟨1,b,0,[]⟩]=0):startF n b=⟨{ (n.fr b).save [⟨1,b,0,[]⟩] with d:=((n.fr b).save [⟨1,b,0,[]⟩]).d.dk 0 },[],(n.fr b).aN [⟨1,b,0,[]⟩]⟩:=by
 rw [startF,if_neg (by rw [h]; decide),if_neg (by omega),KL h];grind
theorem Yu (h2:b<=(replayF n.d.b).1.floor):startF n b=⟨n.fr b,[],0⟩:=by
 rw [startF,if_neg (by rw [h]; decide),if_neg (by omega),KL h];grind
theorem ad7:(startF n b).n.rp=[]/\(startF n b).n.vs=[]/\(startF n b).n.bn=[]/\(startF n b).n.nx=[]/\(startF n b).n.mt=[]:=by
 by_cases h2:(replayF n.d.b).1.floor<b
 ·by_cases h3:(n.fr b).aN [⟨1,b,0,[]⟩]=0
  ·rw [VH h h1 h2 h3]; exact ⟨rfl,rfl,rfl,rfl,rfl⟩
  rw [WV h h1 h2 h3]; exact ⟨rfl,rfl,rfl,rfl,rfl⟩
 rw [Yu h h1 (by omega)]; exact ⟨rfl,rfl,rfl,rfl,rfl⟩
end
end Go.Proofs.YticbaadnibdbkaaGreat
namespace Go.Proofs.YticbaadnibdbkaaGreat
open Go.Shelf Go.Proofs
def tM:Go.Shelf.Ren:=⟨fun | 125=>283 | 128=>326 | 129=>327 | n=>n,fun | 46=>192 | 3=>3 | 51=>193 | 53=>173 | 4=>4 | 5=>5 | 9=>9 | n=>n,fun | n=>n⟩
theorem GG:Lays.n125 Tryz.prog tM:={
 mixed:=cd
 f125:=Tryz.func283.trans (congrArg some cd)
 f128:=Tryz.func326.trans (congrArg some cd)
 f129:=Tryz.func327.trans (congrArg some cd)
 t3:=Tryz.underlying3
 a3:=Tryz.isAgg3
 z3:=Tryz.sizeOf3
 v3:=Tryz.zeroValue3
 t4:=Tryz.underlying4
 a4:=Tryz.isAgg4
 z4:=Tryz.sizeOf4
 v4:=Tryz.zeroValue4
 t5:=Tryz.underlying5
 a5:=Tryz.isAgg5
 z5:=Tryz.sizeOf5
 v5:=Tryz.zeroValue5
 t9:=Tryz.underlying9
 a9:=Tryz.isAgg9
 z9:=Tryz.sizeOf9
 v9:=Tryz.zeroValue9
 t46:=Tryz.underlying192
 a46:=Tryz.isAgg192
 z46:=Tryz.sizeOf192
 v46:=Tryz.zeroValue192
 t51:=Tryz.underlying193
 a51:=Tryz.isAgg193
 z51:=Tryz.sizeOf193
 v51:=Tryz.zeroValue193
 t53:=Tryz.underlying173
 a53:=Tryz.isAgg173
 z53:=Tryz.sizeOf173
 v53:=Tryz.zeroValue173 }
def gF:Go.Shelf.Ren:=⟨fun | 6=>265 | 15=>283 | 14=>282 | 28=>326 | 29=>327 | 20=>318 | 21=>319 | 22=>320 | 23=>321 | 24=>322 | 25=>323 | 26=>324 | 27=>325 | 46=>350 | 47=>351 | 48=>352 | 49=>353 | 50=>354 | 57=>364 | n=>n,fun | 22=>33 | 24=>3 | 25=>217 | 3=>3 | 39=>192 | 0=>0 | 53=>193 | 55=>173 | 4=>4 | 46=>318 | 45=>317 | 50=>322 | 5=>5 | 9=>9 | 66=>340 | 70=>344 | 76=>353 | 77=>112 | n=>n,fun | n=>n⟩
theorem rI:Go.Proofs.SlLaysF.n6 Tryz.prog gF:={
 mixed:=cd
 f6:=⟨Tryz.f265.name,by decide,Tryz.func265.trans (congrArg some cd)⟩
 f14:=⟨Tryz.f282.name,by decide,Tryz.func282.trans (congrArg some cd)⟩
 f15:=Tryz.func283.trans (congrArg some cd)
 f20:=⟨Tryz.f318.name,by decide,Tryz.func318.trans (congrArg some cd)⟩
 f21:=⟨Tryz.f319.name,by decide,Tryz.func319.trans (congrArg some cd)⟩
 f22:=⟨Tryz.f320.name,by decide,Tryz.func320.trans (congrArg some cd)⟩
 f23:=⟨Tryz.f321.name,by decide,Tryz.func321.trans (congrArg some cd)⟩
 f24:=⟨Tryz.f322.name,by decide,Tryz.func322.trans (congrArg some cd)⟩
 f25:=⟨Tryz.f323.name,by decide,Tryz.func323.trans (congrArg some cd)⟩
 f26:=⟨Tryz.f324.name,by decide,Tryz.func324.trans (congrArg some cd)⟩
 f27:=⟨Tryz.f325.name,by decide,Tryz.func325.trans (congrArg some cd)⟩
 f28:=Tryz.func326.trans (congrArg some cd)
 f29:=Tryz.func327.trans (congrArg some cd)
 f46:=⟨Tryz.f350.name,by decide,Tryz.func350.trans (congrArg some cd)⟩
 f47:=Tryz.func351.trans (congrArg some cd)
 f48:=Tryz.func352.trans (congrArg some cd)
 f49:=⟨Tryz.f353.name,by decide,Tryz.func353.trans (congrArg some cd)⟩
 f50:=⟨Tryz.f354.name,by decide,Tryz.func354.trans (congrArg some cd)⟩
 f57:=⟨Tryz.f364.name,by decide,Tryz.func364.trans (congrArg some cd)⟩
 t0:=Tryz.underlying0
 a0:=Tryz.isAgg0
 z0:=Tryz.sizeOf0
 v0:=Tryz.zeroValue0
 t3:=Tryz.underlying3
 a3:=Tryz.isAgg3
 z3:=Tryz.sizeOf3
 v3:=Tryz.zeroValue3
 t4:=Tryz.underlying4
 a4:=Tryz.isAgg4
 z4:=Tryz.sizeOf4
 v4:=Tryz.zeroValue4
 t5:=Tryz.underlying5
 a5:=Tryz.isAgg5
 z5:=Tryz.sizeOf5
 v5:=Tryz.zeroValue5
 t9:=Tryz.underlying9
 a9:=Tryz.isAgg9
 z9:=Tryz.sizeOf9
 v9:=Tryz.zeroValue9
 t22:=Tryz.underlying33
 a22:=Tryz.isAgg33
 z22:=Tryz.sizeOf33
 v22:=Tryz.zeroValue33
 a24:=Tryz.isAgg3
 z24:=Tryz.sizeOf3
 t25:=Tryz.underlying217
 a25:=Tryz.isAgg217
 z25:=Tryz.sizeOf217
 v25:=Tryz.zeroValue217
 t39:=Tryz.underlying192
 a39:=Tryz.isAgg192
 z39:=Tryz.sizeOf192
 v39:=Tryz.zeroValue192
 t45:=Tryz.underlying317
 a45:=Tryz.isAgg317
 z45:=Tryz.sizeOf317
 v45:=Tryz.zeroValue317
 t46:=Tryz.underlying318
 a46:=Tryz.isAgg318
 z46:=Tryz.sizeOf318
 v46:=Tryz.zeroValue318
 t50:=Tryz.underlying322
 a50:=Tryz.isAgg322
 z50:=Tryz.sizeOf322
 v50:=Tryz.zeroValue322
 t53:=Tryz.underlying193
 a53:=Tryz.isAgg193
 z53:=Tryz.sizeOf193
 v53:=Tryz.zeroValue193
 t55:=Tryz.underlying173
 a55:=Tryz.isAgg173
 z55:=Tryz.sizeOf173
 v55:=Tryz.zeroValue173
 t66:=Tryz.underlying340
 a66:=Tryz.isAgg340
 z66:=Tryz.sizeOf340
 v66:=Tryz.zeroValue340
 t70:=Tryz.underlying344
 a70:=Tryz.isAgg344
 z70:=Tryz.sizeOf344
 v70:=Tryz.zeroValue344
 t76:=Tryz.underlying353
 a76:=Tryz.isAgg353
 z76:=Tryz.sizeOf353
 v76:=Tryz.zeroValue353
 t77:=Tryz.underlying112
 a77:=Tryz.isAgg112
 z77:=Tryz.sizeOf112
 v77:=Tryz.zeroValue112 }
end Go.Proofs.YticbaadnibdbkaaGreat
namespace Go.Proofs.YticbaadnibdbkaaGreat
open Go.RowKit Go.Proofs Go.Shelf Go.Sort
def lG (a b:Int):Int:=if b<a then -1 else if a<b then 1 else 0
theorem nC (a b:Int):ltOf lG a b=decide (b<a):=by
 unfold ltOf lG;grind
theorem Au:SWO (ltOf lG):=⟨fun x=>by rw [nC]; simp,fun x y z h1 h2=>by rw [nC] at *; simp at *; omega,fun x y z h1 h2=>by rw [nC] at *; simp at *; omega⟩
def nr (l:List Int):List Int:=l.mergeSort (fun a b=>decide (b<=a))
theorem nN (l:List Int):(nr l).length=l.length:=(List.mergeSort_perm l _).length_eq
theorem yc {d d':Array Int} (h:PermIn 0 d.size d d') (h2:SortedIn (ltOf lG) 0 d.size d'):d'.toList=nr d.toList:=by
 rw [sorted_unique_holds Au (fun x y h1 h2=>by rw [nC] at *; simp at *; omega) d d' h h2,nr];congr 1;funext x y;rw [nC];grind
theorem JN (x y:Int) (W:World):Calls Tryz.prog 266 #[.int .i64 x,.int .i64 y] W fun e w'=>e = .returned (.int .i64 (lG x y))/\∃ q,w' = W.drewN q:=by
 by_cases h1:y<x
 ·have h2:¬ x<y:=by omega
  go_wp2
  go_ret
  exact ⟨by simp [lG,h1],0,rfl⟩
 by_cases h2:x<y
 ·go_wp2
  go_ret
  exact ⟨by simp [lG,h1,h2],0,rfl⟩
 go_wp2
 go_ret
 refine ⟨?_,0,rfl⟩;rw [show lG x y=0 from by unfold lG; rw [if_neg (by omega),if_neg (by omega)]]; rfl
theorem lX {c:Cx}:∀ {l:List Int} {cells:List Value},Pds c (l.flatMap (cellsOf .int)) cells->cells=l.map (Value.int .i64)/\∀ n ∈ l,I64 n
 | [],_,h=>by cases h; exact ⟨rfl,by simp⟩
 | x :: l,_,h=>by
  have h':Pds c (.int x :: l.flatMap (cellsOf .int)) _:=h;cases h' with | cons h1 h2=>?_
  cases h1 with | int hi=>?_
  obtain ⟨e,k⟩:=lX h2;grind
variable {sp:List Value}
theorem Np {l l':List Int} (h:l'.length=l.length):putCells (Value.int .i64) 0 l'.toArray (List.toArray (l.map (Value.int .i64)++sp))=List.toArray (l'.map (Value.int .i64)++sp):=by
 apply Array.ext_getElem?;unfold putCells;grind
theorem JQ {w:World} {xs:List Int} {g cap:Nat} (h0:xs.length<=12) (h6:w.heap[g]? = some (.cells (List.toArray (xs.map (Value.int .i64)++sp)) 3 (0,0))) :
  Calls Tryz.prog 265 #[.slice (some ⟨g,0,none⟩) xs.length cap,.func (.func 266) #[] #[]] w fun e w'=>e = .returned (.tuple #[])/\Kp [g] w w' /\ w'.heap[g]? = some (.cells (List.toArray ((nr xs).map (Value.int .i64)++sp)) 3 (0,0)):=by
 have eg:∀ args w,(callFunc 266 args).run Tryz.prog w = .ok (.enter 266 args) w:=enters_of Tryz.func266 cd rfl;have hlen:∀ (n:Nat) (W:World),n<=12->Calls Tryz.prog (gF.f 15) #[.int .u64 n] W fun e w'=>(∃ l:Int,e = .returned (.int .i64 l))/\w' = W:=fun n W hn=>
  (Any.bits_Len GG n W (by omega) (by omega)).mono fun _ _ ⟨he,hw⟩=>⟨⟨_,he⟩,hw⟩
 have hH0:Holds (Value.int .i64) w g 0 xs.toArray:=fun j hj=>by
  rw [ac_,Lib.frozen_of_heap h6,Lib.cell_of_heap h6];grind
 have hs:=Any.slices_SortFunc_small_sorted rI (Value.int .i64) (fun _=>rfl) lG Au 266 #[] g 0 cap xs.toArray w eg (fun _ _ _ _ x y=>JN x y _) hH0 (by simpa using h0) hlen;refine hs.mono fun e w' ⟨he,d',n,hp,hd,hw⟩=>?_;have hd':=yc hp hd;have hle:d'.toList.length=xs.length:=by rw [hd']; exact nN _
 refine ⟨he,?_,?_⟩
 ·rw [hw];refine ⟨rfl,rfl,rfl,?_,fun b _ hn=>?_⟩
  ·simp_all
  show (w.heap.modify g (onCells (putCells (Value.int .i64) 0 d')))[b]? = _;grind
 rw [hw];show (w.heap.modify g (onCells (putCells (Value.int .i64) 0 d')))[g]? = _;rw [Array.getElem?_modify,if_pos rfl,h6];simp only [Option.map_some,onCells];have e2:d' = d'.toList.toArray:=rfl;rw [e2,Np hle,hd']
end Go.Proofs.YticbaadnibdbkaaGreat
namespace Go.Proofs.YticbaadnibdbkaaGreat
open Go.RowKit
noncomputable abbrev ZB:Code:=TU Tryz.f171
noncomputable abbrev c60:Code:=TU Tryz.f258
noncomputable abbrev pR0:Code:=nO ZB
noncomputable abbrev pR1:Code:=nO (fG ZB)
noncomputable abbrev pR2:Code:=nO (fG (fG ZB))
noncomputable abbrev pR3:Code:=nO (nO (fG (fG (fG ZB))))
noncomputable abbrev pRf:Code:=cdB (fG (nO (fG (fG (fG ZB)))))
noncomputable abbrev Qu:Code:=fG (fG (fG (fG ZB)))
noncomputable abbrev JM:Code:=agA pRf
noncomputable abbrev Md:Code:=afA pRf
noncomputable abbrev iR0:Code:=nO c60
noncomputable abbrev iB:Code:=cdB (cdB (fG c60))
noncomputable abbrev iR1:Code:=nO iB
noncomputable abbrev iCo:Code:=nO (fG iB)
noncomputable abbrev iBl:Code:=cdB (nO (fG (fG iB)))
noncomputable abbrev iR2:Code:=nO iBl
noncomputable abbrev iR3:Code:=nO (fG iBl)
noncomputable abbrev Df:Code:=nO (fG (fG iBl))
noncomputable abbrev VU:Code:=fG (fG (fG iBl))
noncomputable abbrev iR5:Code:=fG (fG (fG iB))
def hK (s:State) (r:List Reply) (l:List Entry) (v:Int):AH:=[.box 46 ([.int ((s.version)),.int ((s.next)),.int ((s.keep)),.int ((s.quota)),.own 7,.own 8,.own 9]),.box 46 ([.int ((0)),.int ((0)),.int ((0)),.int ((0)),.em true,.em true,.em true]),.box 72 ([.em true]),.box 26 ([.int ((0))]),.box 72 ([.own 10]),.box 38 ([.fz (.nm .entry) ((l))]),.box 3 ([.int ((v))]),.row 137 (.nm .sess) ((s.sess)),.row 139 (.nm .opn) ((s.opens)),.row 172 (.nm .snap) ((s.snaps)),.row 78 (.nm .reply) ((r))]
def hE (s:State) (r:List Reply):AH:=[.row 137 (.nm .sess) ((s.sess)),.row 139 (.nm .opn) ((s.opens)),.row 172 (.nm .snap) ((s.snaps)),.row 78 (.nm .reply) ((r))]
def rE (s:State) (e:Int):List TV1:=[.agg [.int s.version,.int s.next,.int s.keep,.int s.quota,.own 0,.own 1,.own 2],.c (.own 3),.c (.int e)]
def frP:AFr:=[(3,one (.ptr 0 0)),(6,one (.ptr 1 0)),(7,one (.ptr 2 0)),(8,one (.ptr 3 0)),(9,one (.ptr 4 0)),(16,one (.fn 258 [] [(5,0),(6,0)]))]
def Gk (L:Nat):Option TV->Prop
 | some (.one (.c (.yl a)))=>a=L
 | _=>False
def Vi (l:List Entry) (k:Nat):AFr:=[(1,one (.ptr 5 0)),(2,one (.ptr 6 0)),(9,one (.fz (.nm .entry) l)),(10,one (.int l.length)),(11,one (.int k))]
def My (c:Command) (b:Bool) (e:Int):TV1:=.agg (cellsOf (.nm .command) ((c))++[.bool (.atom ((b))),.int ((e))])
def frY (l:List Entry) (k:Nat) (c:Command) (b:Bool) (e:Int):AFr:=(26,.one (My c b e)) :: Vi l k
def hT (c:Command) (b:Bool) (e:Int):AO:=.box 265 (cellsOf (.nm .command) ((c))++[.bool (.atom ((b))),.int ((e))])
def koN (k0:Nat) (q:AFr × AH):Exit->AFr->AH->Prop
 | .normal,fr,K=>iQ (Bt tyT k0 fr K q)
 | _,_,_=>False
def koY (L:Nat) (q:AFr × AH):Exit->AFr->AH->Prop
 | .normal,fr,K=>Gk L (lookA fr 0)/\iQ (Bt tyT 11 fr K q)
 | _,_,_=>False
noncomputable def aeX (L:Nat) (s:State) (r:List Reply) (l:List Entry) (v:Int) (k:Nat) (fr:AFr) (K:AH):Prop:=
 ∃ x,l[k]? = some x/\Gk L (lookA fr 0)/\Gk L (lookA fr 22)/\iQ (Bt tyT 11 fr K (frY l k (aX x v).c (aX x v).some (aX x v).e,hK s r l v))
noncomputable def aeI (L:Nat) (s:State) (r:List Reply) (l:List Entry) (v:Int) (k:Nat):Exit->AFr->AH->Prop
 | .normal,fr,K=>wpOps tyT fj (gz 0) (jN Df) (aeX L s r l v k) 6 ((jN Df).take 5) fr K
 | _,_,_=>False
noncomputable def ad_ (L:Nat) (s:State) (r:List Reply) (l:List Entry) (v:Int) (k:Nat):Exit->AFr->AH->Prop
 | .exit j,fr,K=>j=0/\l.length<=k/\Gk L (lookA fr 0)/\iQ (Bt tyT 11 fr K (Vi l k,hK s r l v))
 | .normal,fr,K=>iL tyT fj (gz 0) 11 [] (.seq iR2 iR3) (aeI L s r l v k) fr K
 | _,_,_=>False
noncomputable def acq (L:Nat) (s:State) (r:List Reply) (l:List Entry) (v:Int) (k:Nat):Exit->AFr->AH->Prop
 | .normal,fr,K=>iL tyT fj (gz 0) 11 [] iCo (ad_ L s r l v k) fr K
 | _,_,_=>False
noncomputable def koD (L:Nat) (s:State) (r:List Reply) (l:List Entry) (v:Int) (k:Nat) (fr:AFr) (K:AH):Prop:=iL tyT fj (gz 0) 11 [] (.seq VU iR5) (koY L (Vi l (k+1),hK s r l v)) fr K
noncomputable def koH (s:State) (r:List Reply) (l:List Entry) (v:Int) (x:Entry):Exit->AFr->AH->Prop
 | .normal,_,K=>(aX x v).e=0/\iQ (ach tyT (hK s r l v) 11 (hK (i_ v s x) (r++[ov v s x]) l v) K)
 | .ret,_,K=>¬ (aX x v).e=0/\endE tyT [] 0 Tryz.f171 (rE s (aX x v).e) (hE s r) frP K
 | _,_,_=>False
def koI (s:State) (r:List Reply):Exit->AFr->AH->Prop
 | .ret,fr,K=>endE tyT [] 0 Tryz.f171 (rE s 0) (hE s r) fr K
 | _,_,_=>False
theorem agm (s:State) (l:List Entry) (v:Int):ku (Ho [.agg (cellsOf (.nm .state) s),.c (.fz (.nm .entry) l),.c (.int v)]) (iL tyT fj (gz 0) 0 [] (.seq pR0 (.seq pR1 (.seq pR2 pR3))) (koN 0 (frP,hK s [] l v)) (qG 0 [.agg (cellsOf (.nm .state) s),.c (.fz (.nm .entry) l),.c (.int v)]) [])=((fun q0=>fo s (l.length*32<=140737488355328->I64 v->I64 s.version->I64 s.next->I64 s.keep->I64 s.quota->s.version=s.version/\s.next=s.next/\s.keep=s.keep/\s.quota=s.quota/\q0/\q0/\q0/\q0/\q0/\l=l/\v=v/\s.sess=s.sess/\s.opens=s.opens/\s.snaps=s.snaps /\ @Eq (List (den (Sh.nm NT.reply))) [] [])) ((0:Int)=0)):=cd
theorem aeo (L:Nat) (s:State) (r:List Reply) (l:List Entry) (v:Int):iL tyT fj (gz 0) 11 [] iR0 (koY L (Vi l 0,hK s r l v)) [(0,one (.yl L)),(1,one (.ptr 5 0)),(2,one (.ptr 6 0))] (hK s r l v)=((fun q0=>L=L/\l=l/\(↑l.length:Int)=(↑l.length:Int)/\(0:Int)=(↑(0:Nat):Int)/\s.version=s.version/\s.next=s.next/\s.keep=s.keep/\s.quota=s.quota/\q0/\q0/\q0/\q0/\q0/\l=l/\v=v/\s.sess=s.sess/\s.opens=s.opens/\s.snaps=s.snaps/\r=r) ((0:Int)=(0:Int))):=cd
theorem afe (L:Nat) (s:State) (r:List Reply) (l:List Entry) (v:Int) (k:Nat):iL tyT fj (gz 0) 11 [] iR1 (acq L s r l v k) ((0,one (.yl L)) :: Vi l k) (hK s r l v)=((fun q2=>(fun q1=>(fun q0=>((↑k:Int)<q2->0<=(↑k:Int)/\(↑k:Int)<(↑l.length:Int)/\∀ (x:Entry),(fun q3=>l[k]? = some x->I64 x.term->x.b.length*1<=140737488355328->bI q3.c (I64 q3.e->∃ x,l[k]? = some x/\L=L/\L=L/\bh q3.c (aX x v).c (q3.some=(aX x v).some/\q3.e=(aX x v).e/\q0))) (aX x v))/\(q2<=(↑k:Int)->(0:Nat)=0/\l.length<=k/\L=L/\q0)) (l=l/\q2=q2/\(↑k:Int)=(↑k:Int)/\s.version=s.version/\s.next=s.next/\s.keep=s.keep/\s.quota=s.quota/\q1/\q1/\q1/\q1/\q1/\l=l/\v=v/\s.sess=s.sess/\s.opens=s.opens/\s.snaps=s.snaps/\r=r)) ((0:Int)=0)) (↑l.length:Int)):=cd
theorem adZ (L:Nat) (s:State) (r:List Reply) (l:List Entry) (v:Int) (k:Nat) (c:Command) (b:Bool) (er:Int):wpOps tyT fj (gz 0) (jN Df) (koD L s r l v k) 2 ((jN Df).drop 6) ((27,one (.bool (.lit true))) :: (0,one (.yl L)) :: frY l k c b er) (hK s r l v)=((fun q0=>I64 ((↑k:Int)+1)/\L=L/\l=l/\(↑l.length:Int)=(↑l.length:Int)/\(↑k:Int)+1=(↑(k+1):Int)/\s.version=s.version/\s.next=s.next/\s.keep=s.keep/\s.quota=s.quota/\q0/\q0/\q0/\q0/\q0/\l=l/\v=v/\s.sess=s.sess/\s.opens=s.opens/\s.snaps=s.snaps/\r=r) ((0:Int)=0)):=cd
theorem aeL (s:State) (r:List Reply) (l:List Entry) (v:Int) (c:Command) (b:Bool) (er:Int):iL tyT fj (gz 0) 11 [] JM (koN 11 ((10,one (.ptr 11 0)) :: frP,hK s r l v++[hT c b er])) ((17,.one (My c b er)) :: frP) (hK s r l v)=((fun q0=>s.version=s.version/\s.next=s.next/\s.keep=s.keep/\s.quota=s.quota/\q0/\q0/\q0/\q0/\q0/\l=l/\v=v/\s.sess=s.sess/\s.opens=s.opens/\s.snaps=s.snaps/\r=r/\bh c c (b=b/\er=er)) ((0:Int)=0)):=cd
theorem ad8 (s:State) (r:List Reply) (l:List Entry) (v:Int) (x:Entry):iL tyT fj (gz 0) 12 [] Md (koH s r l v x) ((10,one (.ptr 11 0)) :: frP) (hK s r l v++[hT (aX x v).c (aX x v).some (aX x v).e])=((fun q3=>(fun q2=>(fun q1=>(fun q5=>(fun q4=>(fun q0=>(fun q6=>(¬q5->¬q5/\s.version=s.version/\s.next=s.next/\s.keep=s.keep/\s.quota=s.quota/\q3.e=q3.e/\s.sess=s.sess/\s.opens=s.opens/\s.snaps=s.snaps/\r=r)/\(q5->(q3.some=true->I64 q6.version->I64 q6.next->I64 q6.keep->I64 q6.quota->I64 q0.snd.code->I64 q0.snd.n->(r.length+[q0.snd].length)*16<=140737488355328/\q5/\q6.version=q2.version/\q6.next=q2.next/\q6.keep=q2.keep/\q6.quota=q2.quota/\q4/\q4/\q4/\q4/\q4/\l=l/\v=v/\q6.sess=q2.sess/\q6.opens=q2.opens/\q6.snaps=q2.snaps/\r++[q0.snd]=r++[ov v s x])/\(q3.some=false->(r.length+[Reply.mk q1 q1].length)*16<=140737488355328/\q5/\s.version=q2.version/\s.next=q2.next/\s.keep=q2.keep/\s.quota=q2.quota/\q4/\q4/\q4/\q4/\q4/\l=l/\v=v/\s.sess=q2.sess/\s.opens=q2.opens/\s.snaps=q2.snaps/\r++[Reply.mk q1 q1]=r++[ov v s x]))) q0.fst) (qc s q3.c)) (q1=q1)) (q3.e=q1)) (0:Int)) (i_ v s x)) (aX x v)):=cd
theorem aeA (s:State) (r:List Reply) (l:List Entry) (v:Int):iL tyT fj (gz 0) 11 [] Qu (koI s r) frP (hK s r l v)=(s.version=s.version/\s.next=s.next/\s.keep=s.keep/\s.quota=s.quota/\(0:Int)=0/\s.sess=s.sess/\s.opens=s.opens/\s.snaps=s.snaps/\r=r):=cd
noncomputable def acU:bD:=fj
theorem Po:ay Tryz.prog (al tyT) acU:=qa
variable {k0 n:Nat} {Q:Exit->Act->World->Prop} {K:Exit->AFr->AH->Prop} {w w0:World} {ρ0:List RE} {F:Fr} {G:Gl} {H:AH}
theorem CH {c:Code} {fr:AFr} (hG:G.shp=al tyT) (hk:ρ0.length<=k0) (hc:eu n c=true) (h:iL tyT fj (gz 0) k0 [] c K fr H)
  (hs:St G (gz 0) ρ0 w0 fr H F w) (hK:∀ e fr H F w,K e fr H->St G (gz 0) ρ0 w0 fr H F w->WX Q n e F w):WC Tryz.prog Q n c F w:=
 xj (by rw [hG]; exact dh) (by rw [hG]; exact qa) (mN dh qa js G n (gz 0) ρ0 w0 hG (fun i h=>by simp [gz,Nat.ble] at h)) hk c Q K fr H F w hc h hs hK
theorem aas {m:Nat} {l ops:List Oper} {K:AFr->AH->Prop} {fr:AFr} (hG:G.shp=al tyT) (hd:jR n ops=true) (h:wpOps tyT fj (gz 0) l K m ops fr H)
  (hs:St G (gz 0) ρ0 w0 fr H F w) (hK:∀ fr H F w,K fr H->St G (gz 0) ρ0 w0 fr H F w->WX Q n .normal F w):WO Tryz.prog Q n l ops F w:=
 k_ (by rw [hG]; exact dh) (by rw [hG]; exact qa) hK m ops fr H F w hd h hs
abbrev yV (L:Nat):Value:=.func (.yield L) #[] #[]
variable {t:Nat} {ρ:List RE}
theorem lu {c:Cx} {fr:AFr} {L:Nat} (hf:FrR c ρ fr F) (h:Gk L (lookA fr t)):look F t=some (yV L):=by
 unfold Gk at h;split at h
 ·rename_i a hl;subst h;obtain ⟨v,h1,h2⟩:=ew hf hl;rw [h1,h2]
 grind
theorem wY {F':Fr} {v:Value} (h:look F t=some v) (k:∀ i u,look F' i=some u->look F i=some u):∀ i u,look ((t,v) :: F') i=some u->look F i=some u:=fun i u hu=>by
 rw [aM] at hu;grind
theorem FrR.yC {c:Cx} {fr:AFr} {a:TV1} {v:Value} (h:cO c ρ a v) (k:FrR c ρ fr F):FrR c ρ ((t,.one a) :: fr) ((t,v) :: F):=.cons ⟨rfl,h⟩ k
variable {b:Nat}
theorem Rep.jm (h:Rep G ρ H w) (hz:G.Z b):¬ live ρ b:=fun ⟨i,r,h1,h2⟩=>(h.bnd i r b h1 h2).2.2 hz
theorem eM {o:Obj} (h:w.heap[b]? = some o):b<w.heap.size:=(afC.1 h).1
structure PX where
 G:Gl
 D:Nat
 L:Nat
 fn:Nat
 tm:Array Value
 FP:Fr
 s:State
 l:List Entry
 v:Int
 hD:G.B0<=D
 hL:G.B0<=L
def PX.g (X:PX):Gl:=GZ X.G X.D X.L
noncomputable def PX.rc (X:PX) (st:LoopState) (pe:Option Code):Loop:={ state:=st,pending:=pe,fn:=X.fn,tmps:=X.tm,params:=#[17],assign:=JM,body:=Md,defers:=X.D }
noncomputable def PX.hk (X:PX) (k:Nat):AH:=hK (pS X.v X.s (X.l.take k)) (pR X.v X.s (X.l.take k)) X.l X.v
abbrev PX.Z (X:PX):Nat->Prop:=fun b=>b=X.D\/b=X.L
theorem PX.hB (X:PX):∀ b,X.Z b->X.g.B0<=b:=fun b hb=>by
 rcases hb with rfl | rfl
 ·exact X.hD
 exact X.hL
structure Mid (X:PX) (k:Nat) (ρ:List RE) (W:World):Prop where
 rep:Rep X.g ρ (X.hk k) W
 fr:FrR (cx X.g ρ W) ρ frP X.FP
 ok:okPl X.v (X.l.take k)
 loop:W.heap[X.L]? = some (.loop (X.rc .ready none))
 dfr:W.heap[X.D]? = some (.deferred (some []))
structure Stopd (X:PX) (ρ:List RE) (W:World):Prop where
 rep:∃ H,Rep X.g ρ H W/\endE tyT [] 0 Tryz.f171 (rE (plS X.v X.s X.l) (pE X.v X.l)) (hE (plS X.v X.s X.l) (plR X.v X.s X.l)) frP H
 fr:FrR (cx X.g ρ W) ρ frP X.FP
 loop:W.heap[X.L]? = some (.loop (X.rc .done (some .ret)))
 dfr:W.heap[X.D]? = some (.deferred (some []))
theorem Cf:CJ frP=true:=by decide
section
variable {X:PX} {k:Nat} {ρ ρ':List RE} {W W':World}
theorem Mid.step {ro:Lv} (h:Mid X k ρ W) (hs:Stp ro ρ W ρ' W') (hr:Rep X.g ρ' (X.hk k) W'):Mid X k ρ' W' /\ Adv X.Z ρ W ρ' W':=by
 have ha:Adv X.Z ρ W ρ' W':=.wH hs.ext hs.bx;have hle:=ha.le (G:=X.g) (fun b hb=>.inr hb) h.rep.lo X.hB;exact ⟨⟨hr,h.fr.eD Cf hle hs.bx,h.ok,(hs.ext.old _ (eM h.loop) (h.rep.jm (.inr (.inr rfl)))).2.trans h.loop,(hs.ext.old _ (eM h.dfr) (h.rep.jm (.inr (.inl rfl)))).2.trans h.dfr⟩,ha⟩
section
variable {s:State} {r:List Reply} {l:List Entry} {v:Int} {x:Entry}
theorem aeF (h:(aX x v).some=true):i_ v s x=(qc s (aX x v).c).1:=by unfold i_; rw [if_pos h]
theorem ad0 (h:(aX x v).some=false):i_ v s x=s:=by unfold i_; rw [if_neg (by rw [h]; decide)]
theorem adx (h:(aX x v).some=true):ov v s x=(qc s (aX x v).c).2:=by unfold ov; rw [if_pos h]
theorem agd (h:(aX x v).some=false):ov v s x=⟨0,0⟩:=by unfold ov; rw [if_neg (by rw [h]; decide)]
theorem Zj (hr:(r.length+1)*16<=140737488355328):iL tyT fj (gz 0) 12 [] Md (koH s r l v x) ((10,one (.ptr 11 0)) :: frP) (hK s r l v++[hT (aX x v).c (aX x v).some (aX x v).e]):=by
 rw [ad8];repeat' (first | with_reducible apply bd | with_reducible refine bf ?_ | intro)
 all_goals first | with_reducible rfl | with_reducible assumption | contradiction | (simp only [List.length_cons]; omega) | (rw [aeF ab]; done) | (rw [ad0 ab]; done) | (rw [adx ab]; done) | (rw [agd ab]; done)
theorem Xm {c:Command} {b:Bool} {er:Int}:iL tyT fj (gz 0) 11 [] JM (koN 11 ((10,one (.ptr 11 0)) :: frP,hK s r l v++[hT c b er])) ((17,.one (My c b er)) :: frP) (hK s r l v):=by
 rw [aeL];grind
end
variable {u:Value}
theorem Gw (hG:X.G.shp=al tyT) (hsz:X.l.length*32<=140737488355328) (hM:M 40 X.FP { tmps:=X.tm,defers:=[] }) (hDL:X.D≠X.L) (h:Mid X k ρ W) {x:Entry} (hx:X.l[k]? = some x) 
  (hu:cO (cx X.g ρ W) ρ (My (aX x X.v).c (aX x X.v).some (aX x X.v).e) u) (ro:Option Nat) (m:Nat) :
  RoundIn (gr ro) m Tryz.prog X.L X.fn (X.tm.setIfInBounds 17 u) JM Md W fun e w'=>∃ b,e = .returned b/\((b = .bool true/\∃ ρ',Mid X (k+1) ρ' w' /\ Adv X.Z ρ W ρ' w')\/(b = .bool false/\∃ ρ',Stopd X ρ' w' /\ Adv X.Z ρ W ρ' w')):=by
 refine Jn ?_;have hGg:X.g.shp=al tyT:=hG;have hM1:M 40 ((17,u) :: X.FP) { tmps:=X.tm.setIfInBounds 17 u,defers:=[] }:=hM.put (d:=17) (v:=u) (by decide);have hlen:ρ.length=11:=h.rep.obj.length.symm;have hkl:k<X.l.length:=(aam.1 hx).1;refine CH hGg (afk hlen) (c:=JM) (n:=40) cd (Xm (s:=pS X.v X.s (X.l.take k)) (r:=pR X.v X.s (X.l.take k)) (l:=X.l) (v:=X.v) (c:=(aX x X.v).c) (b:=(aX x X.v).some) (er:=(aX x X.v).e)) (⟨ρ,Stp.refl _ _ _,h.rep,FrR.yC hu h.fr⟩) (fun e fr H F w1 hK hs=>?_) _ hM1;cases e with
 | normal=>
  obtain ⟨F1,⟨ρ1,hs1,hr1,hf1⟩,hlk⟩:=gg (P:=Tryz.prog) (by rw [hGg]; exact dh) (afk hlen) hs hK;intro a ha;have hl1:w1.heap[X.L]? = some (.loop (X.rc .ready none)):=(hs1.ext.old _ (eM h.loop) (h.rep.jm (.inr (.inr rfl)))).2.trans h.loop;have hd1:w1.heap[X.D]? = some (.deferred (some [])):=(hs1.ext.old _ (eM h.dfr) (h.rep.jm (.inr (.inl rfl)))).2.trans h.dfr;refine ⟨_,run_beginRound (P:=Tryz.prog) hl1 rfl,?_,ha.1⟩;have A1:Adv X.Z ρ W ρ1 (w1.putObj X.L (.loop { X.rc .ready none with state:=.busy })):=(Adv.wH hs1.ext hs1.bx).trans (.put _ (.inr rfl));have hr2:Rep X.g ρ1 (X.hk k++[hT (aX x X.v).c (aX x X.v).some (aX x X.v).e]) (w1.putObj X.L (.loop { X.rc .ready none with state:=.busy })):=hr1.Hn _ (.inr (.inr rfl)) X.hL;have hl2:(w1.putObj X.L (.loop { X.rc .ready none with state:=.busy })).heap[X.L]? = some (.loop { X.rc .ready none with state:=.busy }):=World.putObj_heap_same (eM hl1);have hd2:(w1.putObj X.L (.loop { X.rc .ready none with state:=.busy })).heap[X.D]? = some (.deferred (some [])):=(aet hDL).trans hd1;have hf2:FrR (cx X.g ρ1 (w1.putObj X.L (.loop { X.rc .ready none with state:=.busy }))) ρ1 ((10,one (.ptr 11 0)) :: frP) F1:=hf1.carry ((Adv.put (Z:=X.Z) _ (.inr rfl)).le (fun b hb=>.inr hb) hr1.lo X.hB) (jP.refl _);revert A1 hr2 hl2 hd2 hf2;generalize w1.putObj X.L (.loop { X.rc .ready none with state:=.busy })=w2;intro A1 hr2 hl2 hd2 hf2;have hlen1:ρ1.length=12:=hr2.obj.length.symm;refine CH hGg (afk hlen1) (c:=Md) (n:=40) cd (Zj (s:=pS X.v X.s (X.l.take k)) (r:=pR X.v X.s (X.l.take k)) (l:=X.l) (v:=X.v) (x:=x) (by rw [B_,List.length_take]; omega)) (⟨ρ1,Stp.refl _ _ _,hr2,hf2⟩) (fun e fr H F w3 hK hs=>?_) _ (ha.sub hlk);obtain ⟨ρ3,hs3,hr3,_⟩:=hs;have hl3:w3.heap[X.L]? = _:=(hs3.ext.old _ (eM hl2) (hr2.jm (.inr (.inr rfl)))).2.trans hl2;have hd3:w3.heap[X.D]? = _:=(hs3.ext.old _ (eM hd2) (hr2.jm (.inr (.inl rfl)))).2.trans hd2;cases e with
  | normal=>
   obtain ⟨he,hend⟩:=hK;obtain ⟨ρ',hr',hE',hb'⟩:=KW (P:=Tryz.prog) (ρ0:=ρ1) (w0:=w2) (by rw [hGg]; exact dh) hr3 hs3.ext hs3.bx (fun i g hi hg=>by
    have hn:=TO (b:=false) hr2 hg;have:i=0\/i=1\/i=2\/i=3\/i=4\/i=5\/i=6\/i=7\/i=8\/i=9\/i=10:=by omega
    rcases this with rfl | rfl | rfl | rfl | rfl | rfl | rfl | rfl | rfl | rfl | rfl <;> exact hn) hend
   refine fun _ _=>⟨_,_,run_endRound (P:=Tryz.prog) none hl3,_,rfl,.inl ⟨rfl,ρ',?_⟩⟩;have A3:Adv X.Z ρ W ρ' (w3.putObj X.L (.loop (X.rc .ready none))):=by
    have A2:Adv X.Z ρ W ρ' w3:=⟨hE'.os.trans A1.os,hE'.tape.trans A1.tape,hE'.output.trans A1.output,Nat.le_trans A1.size hE'.size,fun b hb hl=>by
     obtain ⟨h1,h2⟩:=A1.old b hb hl;obtain ⟨h3,h4⟩:=hE'.old b (ac3 hb A1.size) h1;exact ⟨h3,fun hz=>h4.trans (h2 hz)⟩,fun i g hg=>hb' i g (by rw [<- hlen]; exact (aam.1 hg).1) (A1.bx i g hg)⟩
    exact A2.trans (.put _ (.inr rfl))
   refine ⟨⟨?_,h.fr.eD Cf (A3.le (fun b hb=>.inr hb) h.rep.lo X.hB) A3.bx,Pp h.ok hx he,World.putObj_heap_same (eM hl3),(aet hDL).trans hd3⟩,A3⟩;have:=hr'.Hn (l:=X.L) (.loop (X.rc .ready none)) (.inr (.inr rfl)) X.hL;rw [acV hx,aad hx] at this;exact this
  | ret=>
   obtain ⟨he,hend⟩:=hK;refine fun _ _=>⟨_,_,run_endRound (P:=Tryz.prog) (some .ret) hl3,_,rfl,.inr ⟨rfl,ρ3,?_⟩⟩;have A3:Adv X.Z ρ W ρ3 (w3.putObj X.L (.loop (X.rc .done (some .ret)))):=(A1.trans (.wH hs3.ext hs3.bx)).trans (.put _ (.inr rfl));obtain ⟨p1,p2,p3⟩:=Qq (s:=X.s) h.ok hx he;rw [p1,p2,p3] at hend;exact ⟨⟨⟨_,hr3.Hn _ (.inr (.inr rfl)) X.hL,hend⟩,h.fr.eD Cf (A3.le (fun b hb=>.inr hb) h.rep.lo X.hB) A3.bx,World.putObj_heap_same (eM hl3),(aet hDL).trans hd3⟩,A3⟩
  | _=>exact hK.elim
 | _=>exact hK.elim
theorem VJ:Tryz.f258.body=some (.seq iR0 (.block 0 (.loop (.seq iR1 (.seq iCo (.seq (.block 1 (.seq iR2 (.seq iR3 (.seq Df VU)))) iR5)))))):=cd
theorem Wa:Df = .region 4 (jN Df).toArray false:=cd
theorem QR:VU = .cond (.tmp 28) .ret .skip:=cd
noncomputable def TL (k:Nat):Oper:=(jN Df).getD k ⟨none,.move (.tmp 0),0,"",#[],none⟩
noncomputable def adD:Array TypeId:=match (TL 5).op with
 | .call c=>c.argTypes
 | _=>#[]
noncomputable def ty6:TypeId:=match (TL 6).op with
 | .unOp _ t _=>t
 | _=>0
theorem afN:jN Df=(jN Df).take 5++(⟨some 27,.call ⟨.value (.tmp 22),#[.tmp 26],adD⟩,(TL 5).type,(TL 5).pos,(TL 5).after,none⟩ :: (jN Df).drop 6):=cd
theorem agX:(jN Df).drop 6=[⟨some 28,.unOp .not ty6 (.tmp 27),(TL 6).type,(TL 6).pos,(TL 6).after,none⟩]:=cd
variable {P:Program}
theorem Bz {L:Nat} {rl:Loop} {tys:Array TypeId} {ty:TypeId} (h22:look F 22=some (yV L)) (h26:look F 26=some u) (hl:w.heap[L]? = some (.loop rl)) (hp:rl.params = #[17]) (a:Act) (d:Option Tmp) (pos:String) (af:Array Edge) (g:Option (Nat × Bool)) (ha:M n F a) :
  (execOp a.eval ⟨d,.call ⟨.value (.tmp 22),#[.tmp 26],tys⟩,ty,pos,af,g⟩).run P w = .ok (.round L rl.fn (rl.tmps.setIfInBounds 17 u) rl.assign rl.body) w:=by
 have e1:a.eval (.tmp 22)=yV L:=ha.ev (x:=.tmp 22) h22;have e2:a.eval (.tmp 26)=u:=ha.ev (x:=.tmp 26) h26;have hy:=run_yield (P:=P) (args:=#[u]) hl (by rw [hp]; rfl);simp [execOp,resolve,e1,e2,Deferred.ofValue,invoke,hy,hp]
theorem SB {F':Fr} {v:Value} (k:∀ i u,look F' i=some u->look F i=some u):∀ i u,look ((t,v) :: F') i=some u->look ((t,v) :: F) i=some u:=fun i u hu=>by
 rw [aM] at hu ⊢;grind
section
variable {s:State} {r:List Reply} {l:List Entry} {v:Int} {L:Nat}
theorem Zm:iL tyT fj (gz 0) 11 [] iR0 (koY L (Vi l 0,hK s r l v)) [(0,one (.yl L)),(1,one (.ptr 5 0)),(2,one (.ptr 6 0))] (hK s r l v):=by
 rw [aeo];grind
theorem VX:iL tyT fj (gz 0) 11 [] iR1 (acq L s r l v k) ((0,one (.yl L)) :: Vi l k) (hK s r l v):=by
 rw [afe];grind
theorem YB {c:Command} {b:Bool} {er:Int} (hk:k<4611686018427387904):wpOps tyT fj (gz 0) (jN Df) (koD L s r l v k) 2 ((jN Df).drop 6) ((27,one (.bool (.lit true))) :: (0,one (.yl L)) :: frY l k c b er) (hK s r l v):=by
 rw [adZ];repeat' (first | with_reducible apply bd | with_reducible refine bf ?_ | intro)
 all_goals first | with_reducible rfl | omega | (refine bK ?_ ?_ <;> omega) | rfl
end
def YG (y:Code) (k0:Nat) (K:Exit->AFr->AH->Prop):Exit->AFr->AH->Prop
 | .normal,fr,H=>iL tyT fj (gz 0) k0 [] y K fr H
 | e,fr,H=>K e fr H
theorem nJ {x y:Code} {fr:AFr} (h:iL tyT fj (gz 0) k0 [] (.seq x y) K fr H):iL tyT fj (gz 0) k0 [] x (YG y k0 K) fr H:=by
 have e:YG y k0 K=fun e fr H=>(match e with | .normal=>iL tyT fj (gz 0) k0 [] y K fr H | e=>K e fr H):=by funext e fr H; cases e <;> rfl
 rw [e]; exact h
def PX.Out (X:PX) (ρ:List RE) (W:World) (_:Value) (w':World):Prop:=∃ ρ',Adv X.Z ρ W ρ' w' /\ ((∃ k,X.l.length<=k/\Mid X k ρ' w')\/Stopd X ρ' w')
theorem WO.of_eq {l r r':List Oper} (e:r=r') (h:WO P Q n l r' F w):WO P Q n l r F w:=e ▸ h
theorem IJ (hG:X.G.shp=al tyT) (hsz:X.l.length*32<=140737488355328) (hM:M 40 X.FP { tmps:=X.tm,defers:=[] }) (hDL:X.D≠X.L) (h:Mid X 0 ρ W) {p8 p9:Value} (h8:dP ρ (5,0) p8) (h9:dP ρ (6,0) p9) :
  jI Tryz.prog 258 #[yV X.L,p8,p9] W (X.Out ρ W):=by
 have hGg:X.g.shp=al tyT:=hG;have hlen:ρ.length=11:=h.rep.obj.length.symm;refine jI.enter (args:=[yV X.L,p8,p9]) (n:=30) Tryz.func258 VJ rfl rfl rfl ?_;refine WC.seq (CH hGg (afk hlen) cd Zm (⟨ρ,Stp.refl _ _ _,h.rep,FrR.yC (a:=.c (.yl X.L)) rfl (FrR.yC (a:=.c (.ptr 5 0)) h8 (FrR.yC (a:=.c (.ptr 6 0)) h9 .nil))⟩) fun e fr H F w hK hs=>?_);cases e with
 | normal=>
  obtain ⟨hy,he⟩:=hK;have hy0:look F 0=some (yV X.L):=by obtain ⟨_,_,_,hf⟩:=hs; exact lu hf hy
  obtain ⟨F1,⟨ρ1,hs1,hr1,hf1⟩,hlk⟩:=gg (P:=Tryz.prog) (by rw [hGg]; exact dh) (afk hlen) hs he;refine WX.next (WC.block fun a ha=>?_)
  refine qJ (fun a w k=>∃ ρ' F',M 30 F' a/\Mid X k ρ' w/\FrR (cx X.g ρ' w) ρ' ((0,one (.yl X.L)) :: Vi X.l k) F' /\ k<=X.l.length/\Adv X.Z ρ W ρ' w) (fun k=>X.l.length - k) 0 ⟨ρ1,(0,yV X.L) :: F1,ha.sub (wY hy0 hlk),(h.step hs1 hr1).1,FrR.yC (a:=.c (.yl X.L)) rfl hf1,afV _,(h.step hs1 hr1).2⟩ fun k a w hD=>?_;obtain ⟨ρ',F',hM',hmid,hfr,hk,hadv⟩:=hD;have hlen':ρ'.length=11:=hmid.rep.obj.length.symm;refine (WC.seq (CH hGg (afk hlen') cd (VX (L:=X.L) (k:=k)) (⟨ρ',Stp.refl _ _ _,hmid.rep,hfr⟩) fun e fr H F w2 hK hs=>?_)) a hM';cases e with
  | normal=>
   refine WX.next (WC.seq (CH hGg (afk hlen') cd hK hs fun e fr H F w2 hK hs=>?_))
   cases e with
   | exit j=>
    obtain ⟨rfl,hle,hy,he⟩:=hK;obtain ⟨F2,⟨ρ2,hs2,hr2,hf2⟩,hlk2⟩:=gg (P:=Tryz.prog) (by rw [hGg]; exact dh) (afk hlen') hs he;obtain ⟨hm2,ha2⟩:=hmid.step hs2 hr2;have hφ:X.Out ρ W (.tuple #[]) w2:=⟨ρ2,hadv.trans ha2,.inl ⟨k,hle,hm2⟩⟩;have hh:=WX.Xw (id:=0) (WX.XC (WX.abg (n:=30) (fr:=F) (P:=Tryz.prog) (fn:=Tryz.f258) (φ:=X.Out ρ W) rfl hφ));exact fun a ha=>hh a ha
   | normal=>
    refine WX.next (WC.seq (WC.block (WC.seq (CH hGg (afk hlen') cd (nJ hK) hs fun e fr H F w2 hK hs=>?_))))
    cases e with
    | normal=>
     refine WX.next (WC.seq (CH hGg (afk hlen') cd hK hs fun e fr H F w2 hK hs=>?_))
     cases e with
     | normal=>
      refine WX.next (WC.seq ?_)
      rw [Wa];refine WC.region ?_;refine WO.of_eq afN (WO.app (aas hGg cd hK hs fun fr H F w3 hK hs=>?_));intro a ha;obtain ⟨x,hx,hy,hy22,he⟩:=hK;have hy0:look F 0=some (yV X.L):=by obtain ⟨_,_,_,hf⟩:=hs; exact lu hf hy
      have h22:look F 22=some (yV X.L):=by obtain ⟨_,_,_,hf⟩:=hs; exact lu hf hy22
      obtain ⟨F2,⟨ρ2,hs2,hr2,hf2⟩,hlk2⟩:=gg (P:=Tryz.prog) (by rw [hGg]; exact dh) (afk hlen') hs he;obtain ⟨hm2,ha2⟩:=hmid.step hs2 hr2;obtain ⟨u,hu26,hu⟩:=ew (i:=26) (tv:=.one (My (aX x X.v).c (aX x X.v).some (aX x X.v).e)) hf2 rfl;have hkl:k<X.l.length:=(aam.1 hx).1;refine WO.yield (L:=X.L) (f:=X.fn) (tmps:=X.tm.setIfInBounds 17 u) (assign:=JM) (body:=Md) (fun a d pos af g ha=>Bz h22 (hlk2 _ _ hu26) hm2.loop rfl a d pos af g ha) rfl (fun ro m=>Gw hG hsz hM hDL hm2 hx hu ro m) (fun b w4 hb=>?_) a ha;rcases hb with ⟨rfl,ρ4,hm4,ha4⟩ | ⟨rfl,ρ4,hst4,ha4⟩
      ·intro a ha;have hf4:=FrR.yC (t:=0) (a:=.c (.yl X.L)) (v:=yV X.L) rfl (hf2.eD rfl (ha4.le (fun b hb=>.inr hb) hr2.lo X.hB) ha4.bx);have hlen4:ρ4.length=11:=hm4.rep.obj.length.symm;refine (aas hGg cd (YB (L:=X.L) (k:=k) (by omega)) (⟨ρ4,Stp.refl _ _ _,hm4.rep,FrR.yC (t:=27) (a:=.c (.bool (.lit true))) (Pd.bool (e:=.lit true)) hf4⟩) fun fr H F w5 hK hs=>?_) a (ha.sub (SB (wY hy0 hlk2)));refine WX.next (CH hGg (afk hlen4) cd (nJ hK) hs fun e fr H F w6 hK hs=>?_)
       cases e with
       | normal=>
        refine WX.FN (WX.next (CH hGg (afk hlen4) cd hK hs fun e fr H F w7 hK hs=>?_));cases e with
        | normal=>
         obtain ⟨hy,he⟩:=hK;have hy0:look F 0=some (yV X.L):=by obtain ⟨_,_,_,hf⟩:=hs; exact lu hf hy
         obtain ⟨F7,⟨ρ7,hs7,hr7,hf7⟩,hlk7⟩:=gg (P:=Tryz.prog) (by rw [hGg]; exact dh) (afk hlen4) hs he;obtain ⟨hm7,ha7⟩:=hm4.step hs7 hr7;exact fun a ha=>⟨k+1,⟨ρ7,(0,yV X.L) :: F7,ha.sub (wY hy0 hlk7),hm7,FrR.yC (a:=.c (.yl X.L)) rfl hf7,hkl,((hadv.trans ha2).trans ha4).trans ha7⟩,by omega⟩
        | _=>exact hK.elim
       | _=>exact hK.elim
      have hφ:X.Out ρ W (.tuple #[]) w4:=⟨ρ4,(hadv.trans ha2).trans ha4,.inr hst4⟩;refine WO.of_eq agX (WO.v (R.not (b:=false) rfl) rfl (WO.nil (WX.next ?_)));rw [QR];exact WC.Db rfl (WC.ret (WX.abg (P:=Tryz.prog) (fn:=Tryz.f258) (φ:=X.Out ρ W) rfl hφ))
     | _=>exact hK.elim
    | _=>exact hK.elim
   | _=>exact hK.elim
  | _=>exact hK.elim
 | _=>exact hK.elim
end
theorem YW:Tryz.f171.body=some (.seq pR0 (.seq pR1 (.seq pR2 (.seq (.seq pR3 (.block 0 (.rangeFunc (.tmp 16) #[17] JM Md))) Qu)))):=cd
theorem XZ {args:List Value} (hle:args.length<=n):M n (vj 0 args) { tmps:=args.toArray++Array.replicate (n - args.toArray.size) undef,defers:=[] }:=by
 refine ⟨rfl,?_,fun i v hv=>?_⟩
 ·simp; omega
 rw [sw] at hv;obtain ⟨_,h2⟩:=qz args 0 i v hv;rw [ahw] at h2;have hi:i<args.length:=(aam.1 h2).1;have h3:args[i]=v:=by rw [List.getElem?_eq_getElem hi] at h2; exact adb h2
 simp [Array.getD,hi,h3];omega
def EU (G:Gl) (w0:World) (s:State) (l:List Entry) (v:Int) (u:Value) (w':World):Prop:=
 ∃ us,u=zw us/\∃ ρ',Rep G ρ' (hE (plS v s l) (plR v s l)) w' /\ Ext [] w0 ρ' w' /\ All2 (cO (cx G ρ' w') ρ') (rE (plS v s l) (pE v l)) us/\Kp [] w0 w'
section
variable {X:PX} {ρ1 ρ':List RE} {w0 W1 w4:World} {H:AH} {a:Act}
theorem NV {fr:AFr} (hG:X.G.shp=al tyT) (hz:∀ x,X.G.Z x->x<w0.heap.size) (hD:w0.heap.size<=X.D) (hDL:X.D<X.L) (hR:Rep X.g ρ' H w4) (hf:FrR (cx X.g ρ' w4) ρ' fr F) (hM:M 40 F a)
  (hend:endE tyT [] 0 Tryz.f171 (rE (plS X.v X.s X.l) (pE X.v X.l)) (hE (plS X.v X.s X.l) (plR X.v X.s X.l)) fr H) (hd:w4.heap[X.D]? = some (.deferred (some []))) (hE:Ext [] w0 ρ1 W1) (hA:Adv X.Z ρ1 W1 ρ' w4) :
  ∃ w',(Instr.takeDeferred X.D).run Tryz.prog w4 = .ok [] w' /\ ∃ u,(results Tryz.f171 a.tmps).run Tryz.prog w' = .ok u w' /\ EU X.G w0 X.s X.l X.v u w':=by
 refine ⟨_,run_takeDeferred (P:=Tryz.prog) hd,?_⟩;have hR5:=hR.Hn (l:=X.D) (.deferred none) (.inr (.inl rfl)) X.hD;have hsz:(w4.putObj X.D (.deferred none)).heap.size=w4.heap.size:=by simp
 have h04:w0.heap.size<=w4.heap.size:=Nat.le_trans hE.size hA.size;obtain ⟨hR6,hle⟩:=hR5.leave (fun x hx=>ac3 (hz x hx) (by rw [hsz]; exact h04));have hle2:(cx X.g ρ' w4).le (cx X.G ρ' (w4.putObj X.D (.deferred none))):=((Adv.put (Z:=X.Z) (ρ:=ρ') (w:=w4) (.deferred none) (.inl rfl)).le (G:=X.g) (fun b hb=>.inr hb) hR.lo X.hB).trans hle;have hf6:=hf.carry hle2 (jP.refl _);have hE6:Ext [] w0 ρ' (w4.putObj X.D (.deferred none)):=⟨hA.os.trans hE.os,hA.tape.trans hE.tape,hA.output.trans hE.output,by rw [hsz]; exact h04,fun b hb hl=>by
  obtain ⟨h1,h2⟩:=hE.old b hb hl;obtain ⟨h3,h4⟩:=hA.old b (ac3 hb hE.size) h1;have hbD:b≠X.D:=by omega
  exact ⟨h3,(aet hbD).trans ((h4 (fun hz=>by rcases hz with hz | hz <;> omega)).trans h2)⟩⟩
 unfold endE Zk at hend;split at hend
 ·rename_i l hl;obtain ⟨us,h1,h2⟩:=kO (by rw [hG]; exact dh) hR6 hf6 hM hl;replace hend:=dZ.1 hend;refine ⟨_,h2,us,rfl,_,nj (P:=Tryz.prog) (by rw [hG]; exact dh) hR6 rfl (bu.1 fun p hp=>hend p (ac8 _ (ac8 _ hp))) fun p hp=>hend p (ac9 _ hp),nG hE6,mu hR6 rfl h1 fun p hp=>hend p (ac8 _ (ac9 _ hp)),?_⟩;exact ⟨hE6.os,hE6.tape,hE6.output,hE6.size,fun b hb _=>(hE6.old b hb (fun ⟨i,r,h,_⟩=>by simp at h)).2⟩
 exact (show False from hend).elim
end
variable {l:List Entry}
theorem Xl {s:State} {r:List Reply} {v:Int}:iL tyT fj (gz 0) 11 [] Qu (koI s r) frP (hK s r l v):=by
 rw [aeA];grind
theorem Wq.go {l:List Prop} {R:Prop} (k:∀ p ∈ l,p) (h:Wq (ku l R)):Wq R:=⟨ef.1 h.h k⟩
theorem Wq.seq {x y:Code} {k0:Nat} {K:Exit->AFr->AH->Prop} {fr:AFr} {H:AH} (h:Wq (iL tyT fj (gz 0) k0 [] (.seq x y) K fr H)):Wq (iL tyT fj (gz 0) k0 [] x (YG y k0 K) fr H):=⟨nJ h.h⟩
theorem aes {c:Code} {fr:AFr} (hG:G.shp=al tyT) (hk:ρ0.length<=k0) (hc:eu n c=true) (h:Wq (iL tyT fj (gz 0) k0 [] c K fr H))
  (hs:St G (gz 0) ρ0 w0 fr H F w) (hK:∀ e fr H F w,K e fr H->St G (gz 0) ρ0 w0 fr H F w->WX Q n e F w):WC Tryz.prog Q n c F w:=CH hG hk hc h.h hs hK
theorem VV {s:State} {l:List Entry} {v:Int}:Wq (ku (Ho [.agg (cellsOf (.nm .state) s),.c (.fz (.nm .entry) l),.c (.int v)]) (iL tyT fj (gz 0) 0 [] (.seq pR0 (.seq pR1 (.seq pR2 pR3))) (koN 0 (frP,hK s [] l v)) (qG 0 [.agg (cellsOf (.nm .state) s),.c (.fz (.nm .entry) l),.c (.int v)]) [])):=by
 refine ⟨?_⟩;rw [agm];grind
theorem Xa {s:State} {v:Int} (h:∀ p ∈ Ho [.agg (cellsOf (.nm .state) s),.c (.fz (.nm .entry) l),.c (.int v)],p):Wq (iL tyT fj (gz 0) 0 [] (.seq pR0 (.seq pR1 (.seq pR2 pR3))) (koN 0 (frP,hK s [] l v)) (qG 0 [.agg (cellsOf (.nm .state) s),.c (.fz (.nm .entry) l),.c (.int v)]) []):=by
 have h1:=@VV s l v;revert h1 h;intro h h1;exact Wq.go h h1
theorem Nz {vs:List Value} {s:State} {v:Int} (hG:G.shp=al tyT) (hR:Rep G ρ [] w) (hvs:All2 (cO (cx G ρ w) ρ) [.agg (cellsOf (.nm .state) s),.c (.fz (.nm .entry) l),.c (.int v)] vs) :
  jI Tryz.prog 171 vs.toArray w (EU G w s l v):=by
 have hok:=RL.oK hvs;have hsz:l.length*32<=140737488355328:=by
  have:l.length*Sh.bytes (.nm .entry)<=140737488355328:=hok _ (by simp [Ho,TV1.ok,AV.ok]);exact this
 have hρ:ρ=[]:=acr hR.obj.length.symm;subst hρ;have hl3:vs.length=3:=hvs.length.symm;refine (callsIn_wide (n:=0)).1 (callsIn_of_wp_marks (F:=gr none) (n:=0) Tryz.func171 YW trivial ?_);have hM0:=XZ (n:=40) (args:=vs) (by omega);have h0:([]:List RE).length<=0:=ac5 0;refine wpIn_seq (jS.ZC rfl ((aes (n:=40) hG h0 cd (Wq.seq (Xa hok)) (⟨[],Stp.refl _ _ _,hR,mQ hvs⟩) fun e fr H F w1 hK hs=>?_) _ hM0));cases e with
 | normal=>
  intro a ha;refine wpIn_seq (jS.ZC ha.1 ((CH (n:=40) hG h0 cd (nJ hK) hs fun e fr H F w1 hK hs=>?_) _ ha));cases e with
  | normal=>
   intro a ha;refine wpIn_seq (jS.ZC ha.1 ((CH (n:=40) hG h0 cd (nJ hK) hs fun e fr H F w1 hK hs=>?_) _ ha));cases e with
   | normal=>
    intro a ha;refine wpIn_seq (wpIn_seq (jS.ZC ha.1 ((CH (n:=40) hG h0 cd hK hs fun e fr H F w1 hK hs=>?_) _ ha)));cases e with
    | normal=>
     obtain ⟨F1,⟨ρ1,hs1,hr1,hf1⟩,hlk⟩:=gg (P:=Tryz.prog) (by rw [hG]; exact dh) h0 hs hK;intro a ha0;have ha:=ha0.sub hlk;refine wpIn_block (wpIn_rangeFunc fun fn hfn=>?_);have hae:a={ tmps:=a.tmps,defers:=[] }:=by rw [<- ha.1]
     obtain ⟨vg,hg1,hg2⟩:=ew (i:=16) (tv:=one (.fn 258 [] [(5,0),(6,0)])) hf1 rfl;obtain ⟨bs,us,hb,hu,rfl⟩:=hg2;cases hb;cases hu with | cons h8 hu=>
     cases hu with | cons h9 hu=>
     cases hu;rename_i p8 p9;have hg:a.eval (.tmp 16) = .func (.func 258) #[] #[p8,p9]:=ha.ev (x:=.tmp 16) hg1;obtain ⟨X,hX⟩:∃ X:PX,X=⟨G,w1.heap.size,w1.heap.size+1,fn,a.tmps,F1,s,l,v,hr1.b0,Nat.le_succ_of_le hr1.b0⟩:=⟨_,rfl⟩;have hXD:X.D=w1.heap.size:=by rw [hX]
     have hXL:X.L=w1.heap.size+1:=by rw [hX]
     obtain ⟨hre,hle,hk⟩:=hr1.enter (.deferred (some [])) (.loop (X.rc .ready none));have hsz2:((w1.alloc (.deferred (some []))).alloc (.loop (X.rc .ready none))).heap.size=w1.heap.size+1+1:=by simp
     have hmid:Mid X 0 ρ1 ((w1.alloc (.deferred (some []))).alloc (.loop (X.rc .ready none))):=by
      refine ⟨?_,?_,fun x hx=>by simp at hx,?_,?_⟩
      ·have:Rep (GZ G w1.heap.size (w1.heap.size+1)) ρ1 (Go.Proofs.YticbaadnibdbkaaGreat.hK s [] l v) ((w1.alloc (.deferred (some []))).alloc (.loop (X.rc .ready none))):=hre;rw [hX] at this ⊢; exact this
      ·have:=hf1.carry hle (jP.refl _);rw [hX] at this ⊢; exact this
      ·rw [hXL];have:=World.alloc_heap_new (w1.alloc (.deferred (some []))) (.loop (X.rc .ready none));rwa [World.size_alloc] at this
      rw [hXD];exact (Below.heap_alloc _ _ _ (by simp)).trans (World.alloc_heap_new w1 _)
     have hGX:X.G.shp=al tyT:=by rw [hX]; exact hG
     have hGgX:X.g.shp=al tyT:=hGX;have hlX:X.l=l:=by rw [hX]
     have hMX:M 40 X.FP { tmps:=X.tm,defers:=[] }:=by rw [hX]; rw [hae] at ha; exact ha
     have hMa:M 40 X.FP a:=by rw [hX]; exact ha
     have h8':dP ρ1 (5,0) p8:=h8;have h9':dP ρ1 (6,0) p9:=h9;have hit:=IJ hGX (by rw [hlX]; exact hsz) hMX (by rw [hXD,hXL]; omega) hmid h8' h9';have hE1:Ext [] w ρ1 ((w1.alloc (.deferred (some []))).alloc (.loop (X.rc .ready none))):=hs1.ext.trans (Ext.kp hk);have hfin:∀ {ρ':List RE} {w4:World} {H:AH} {b:Act} {fr:AFr} {F:Fr},Rep X.g ρ' H w4->FrR (cx X.g ρ' w4) ρ' fr F->M 40 F b->endE tyT [] 0 Tryz.f171 (rE (plS X.v X.s X.l) (pE X.v X.l)) (hE (plS X.v X.s X.l) (plR X.v X.s X.l)) fr H->w4.heap[X.D]? = some (.deferred (some [])) ->
       Adv X.Z ρ1 ((w1.alloc (.deferred (some []))).alloc (.loop (X.rc .ready none))) ρ' w4->bodyPostM (gr none) 0 Tryz.prog Tryz.f171 (fun e w'=>∃ u,e = .returned u/\EU G w s l v u w') .ret (iH b [{ target:=.collected X.D,args:=#[] }]) w4:=fun hR4 hf4 hMb hend hd4 hA4=>by
      obtain ⟨w',ht,u,hu,ho⟩:=NV (w0:=w) hGX (by rw [hX]; exact hR.z) (by rw [hXD]; exact hs1.ext.size) (by rw [hXD,hXL]; omega) hR4 hf4 hMb hend hd4 hE1 hA4;rw [hX] at ho;exact ⟨by simp,.inl ⟨_,w',rfl,ht,u,hu,u,rfl,ho⟩⟩
     refine ⟨w1.heap.size+1,[{ target:=.collected w1.heap.size,args:=#[] }],(w1.alloc (.deferred (some []))).alloc (.loop { state:=.ready,pending:=none,fn:=fn,tmps:=a.tmps,params:=#[17],assign:=JM,body:=Md,defers:=w1.heap.size }),{ target:=.fn (.func 258) #[p8,p9],args:=#[yV (w1.heap.size+1)] },(w1.alloc (.deferred (some []))).alloc (.loop { state:=.ready,pending:=none,fn:=fn,tmps:=a.tmps,params:=#[17],assign:=JM,body:=Md,defers:=w1.heap.size }),258,#[yV (w1.heap.size+1)] ++ #[p8,p9],(w1.alloc (.deferred (some []))).alloc (.loop { state:=.ready,pending:=none,fn:=fn,tmps:=a.tmps,params:=#[17],assign:=JM,body:=Md,defers:=w1.heap.size }),run_enterLoop_outer _ _ _ _ _,?_,fun _ _=>trivial,?_,fun h=>(by cases h),?_⟩
     ·simp only [resolve,hg];simp [go_sem]
     ·simp [invoke,go_sem]
     have hrc:({ state:=.ready,pending:=none,fn:=fn,tmps:=a.tmps,params:=#[17],assign:=JM,body:=Md,defers:=w1.heap.size }:Loop)=X.rc .ready none:=by rw [hX]; rfl
     rw [hrc,<- hXL];refine Oj (ahB hit fun e w2 ⟨v0,he,ρ2,hA2,hc⟩=>?_);subst he;rcases hc with ⟨k,hk,hm⟩ | hst
     ·refine ⟨none,_,run_endLoop (P:=Tryz.prog) hm.loop (by simp [PX.rc]),?_⟩;obtain ⟨p1,p2,p3⟩:=Yz (s:=X.s) hm.ok hk;have hRm:=hm.rep.Hn (l:=X.L) (.loop { X.rc .ready none with state:=.exhausted }) (.inr (.inr rfl)) X.hL;have A2:Adv X.Z ρ1 _ ρ2 (w2.putObj X.L (.loop { X.rc .ready none with state:=.exhausted })):=hA2.trans (.put _ (.inr rfl));have hfm:FrR (cx X.g ρ2 (w2.putObj X.L (.loop { X.rc .ready none with state:=.exhausted }))) ρ2 frP X.FP:=hm.fr.carry ((Adv.put (Z:=X.Z) (ρ:=ρ2) (w:=w2) _ (.inr rfl)).le (G:=X.g) (fun b hb=>.inr hb) hm.rep.lo X.hB) (jP.refl _);have hdm:(w2.putObj X.L (.loop { X.rc .ready none with state:=.exhausted })).heap[X.D]? = some (.deferred (some [])):=(aet (by rw [hXD,hXL]; omega)).trans hm.dfr;have hlen2:ρ2.length=11:=hm.rep.obj.length.symm;revert hRm A2 hfm hdm;generalize w2.putObj X.L (.loop { X.rc .ready none with state:=.exhausted })=w4;intro hRm A2 hfm hdm;have hwc:WC Tryz.prog (fun e b w5=>e = .ret/\bodyPostM (gr none) 0 Tryz.prog Tryz.f171 (fun e w'=>∃ u,e = .returned u/\EU G w s l v u w') .ret (iH b [{ target:=.collected X.D,args:=#[] }]) w5) 40 Qu X.FP w4:=by
       refine CH hGgX (afk hlen2) cd (Xl (s:=pS X.v X.s (X.l.take k)) (r:=pR X.v X.s (X.l.take k)) (l:=X.l) (v:=X.v)) (⟨ρ2,Stp.refl _ _ _,hRm,hfm⟩) fun e fr H F w5 hK hs=>?_;cases e with
       | ret=>
        obtain ⟨ρ5,hs5,hr5,hf5⟩:=hs;have hd5:w5.heap[X.D]? = some (.deferred (some [])):=(hs5.ext.old _ (eM hdm) (hRm.jm (.inr (.inl rfl)))).2.trans hdm;have hend:endE tyT [] 0 Tryz.f171 (rE (pS X.v X.s (X.l.take k)) 0) (hE (pS X.v X.s (X.l.take k)) (pR X.v X.s (X.l.take k))) fr H:=hK;rw [p1,p2,p3] at hend;exact fun b hb=>⟨rfl,hfin hr5 hf5 hb hend hd5 (A2.trans (.wH hs5.ext hs5.bx))⟩
       | _=>exact hK.elim
      have hwi:=Kw (m:=0) (hwc a hMa none [{ target:=.collected X.D,args:=#[] }]);rw [hXD] at hwi;have hadf:({ a with defers:=[{ target:=.collected w1.heap.size,args:=#[] }]++a.defers }:Act)=iH a [{ target:=.collected w1.heap.size,args:=#[] }]:=by rw [ha.1]; rfl
      show Exit.inBlock 0 _ .normal _ w4;rw [hadf];refine wpIn_mono hwi fun e b w5 ⟨b0,hb0,hbe,hbr,hpost⟩=>?_;subst hbr; subst hbe;exact hpost
     refine ⟨some .ret,_,run_endLoop (P:=Tryz.prog) hst.loop (by simp [PX.rc]),?_⟩;obtain ⟨H,hR,hend⟩:=hst.rep;have A2:Adv X.Z ρ1 _ ρ2 (w2.putObj X.L (.loop { X.rc .done (some .ret) with state:=.exhausted })):=hA2.trans (.put _ (.inr rfl));have hfm:FrR (cx X.g ρ2 (w2.putObj X.L (.loop { X.rc .done (some .ret) with state:=.exhausted }))) ρ2 frP X.FP:=hst.fr.carry ((Adv.put (Z:=X.Z) (ρ:=ρ2) (w:=w2) _ (.inr rfl)).le (G:=X.g) (fun b hb=>.inr hb) hR.lo X.hB) (jP.refl _);have hdm:(w2.putObj X.L (.loop { X.rc .done (some .ret) with state:=.exhausted })).heap[X.D]? = some (.deferred (some [])):=(aet (by rw [hXD,hXL]; omega)).trans hst.dfr;have hp:=hfin (hR.Hn _ (.inr (.inr rfl)) X.hL) hfm hMa hend hdm A2;have hadf:({ a with defers:=[{ target:=.collected w1.heap.size,args:=#[] }]++a.defers }:Act)=iH a [{ target:=.collected w1.heap.size,args:=#[] }]:=by rw [ha.1]; rfl
     rw [hXD] at hp;show Code.ret.wpIn _ _ _ _ _ _;rw [hadf];exact wpIn_ret hp
    | _=>exact hK.elim
   | _=>exact hK.elim
  | _=>exact hK.elim
 | _=>exact hK.elim
theorem It (s:State) (l:List Entry) (v:Int):Sat Tryz.prog (al tyT) 171 [.agg (cellsOf (.nm .state) s),.c (.fz (.nm .entry) l),.c (.int v)] [] ⟨[],rE (plS v s l) (pE v l),some (hE (plS v s l) (plR v s l)),true⟩:=by
 refine ⟨⟨_,Tryz.func171,by decide,by kernel_rfl⟩,fun G ρ w vs hG hR hvs=>?_⟩;have hρ:ρ=[]:=acr hR.obj.length.symm;subst hρ;refine (Nz hG hR hvs).mono fun u w' ⟨us,e,ρ',h1,h2,h3,h4⟩=>⟨us,e,ρ',h1,h2,fun i g h=>by simp at h,h3,fun _=>⟨h4,fun i r h=>by simp at h⟩⟩
section
variable {v:Int} {s:State} {l:List Entry} {k:Nat} {x:Entry}
end
theorem Su (st:State) (l:List Entry) (v:Int):Sat Tryz.prog (al tyT) 171 [.agg (cellsOf (.nm .state) st),.c (.fz (.nm .entry) (l)),.c (.int (v))] [] ⟨[],[.agg ([.int (((plS v st l).version)),.int (((plS v st l).next)),.int (((plS v st l).keep)),.int (((plS v st l).quota)),.own 0,.own 1,.own 2]),.c (.own 3),.c (.int ((pE v l)))],some ([.row 137 (.nm .sess) (((plS v st l).sess)),.row 139 (.nm .opn) (((plS v st l).opens)),.row 172 (.nm .snap) (((plS v st l).snaps)),.row 78 (.nm .reply) ((plR v st l))]),true⟩:=It st l v
noncomputable def EV:Kn:=aJ (ae (kT (.nm .state)) (ae (kC (cL (.nm .entry))) (ae (kC cI) au))) aw fun (st,l,v,_) _=>⟨[],[.agg ([.int (((plS v st l).version)),.int (((plS v st l).next)),.int (((plS v st l).keep)),.int (((plS v st l).quota)),.own 0,.own 1,.own 2]),.c (.own 3),.c (.int ((pE v l)))],some ([.row 137 (.nm .sess) (((plS v st l).sess)),.row 139 (.nm .opn) (((plS v st l).opens)),.row 172 (.nm .snap) (((plS v st l).snaps)),.row 78 (.nm .reply) ((plR v st l))]),true⟩
theorem Pz:CK 171 EV:=ah fun (st,l,v,_) _ _=>Su st l v
noncomputable def abe:bD:=(aL 171 EV acU)
theorem ij:ay Tryz.prog (al tyT) abe:=(ag Pz Po)
def ab6 (O:bD):bD:=fun g a H=>bif Nat.beq g 1000000003 then some ⟨[False],[],none,false⟩ else O g a H
variable {P:Program} {shp:TypeId->Option Sh}
theorem vZ {O:bD} (hO:ay P shp O):ay P shp (ab6 O):=fun g args H r h hp=>by
 unfold ab6 at h;cases hb:Nat.beq g 1000000003 <;> rw [hb] at h
 ·exact hO g args H r h hp
 cases h; exact (hp False (by simp)).elim
def cWp:AV->Option Nat
 | .xx (.w n) []=>some n
 | _=>none
def cW:PC Nat:=⟨cWp,fun n=>.xx (.w n) [],fun a y h c ρ v hv=>by
 unfold cWp at h
 split at h
 ·cases h; exact hv
 ·cases h⟩
theorem Sat.Mq {f:Nat} {args rs:List TV1} {H1:AH} {pre:List Prop} {keep b:Bool} (i k:Nat) (e:TypeId) (s:Sh) {t:TypeId} {cs:List AV} {H2:AH} (hs:shp e=some s) (hi:H1[i]? = some (.box t cs)) (hk:cs[k]? = some (.em b)) (h:Sat P shp f args H ⟨pre,rs,some H1,keep⟩) (ho:H2=H1.set i (.box t (cs.set k (.own H1.length)))++[.row e s []]):Sat P shp f args H ⟨pre,rs,some H2,keep⟩:=by
 subst ho;refine ⟨h.1,fun G ρ w vs hg hR hv=>(h.2 G ρ w vs hg hR hv).mono ?_⟩;rintro v w' ⟨us,e1,ρ',k1,k2,k3,k4,k5⟩;have hle:=(Ext.app (ρ:=ρ') (r:=.emp) (Kp.refl w') fun g hg=>by cases hg).le k1.lo;have hlen:=k1.obj.length;have k6:=k1.app (r:=.emp) (o:=.row e s []) (Kp.refl w') (fun g hg=>by cases hg) ⟨by show G.shp e=some s; rw [hg]; exact hs,by simp,.inl ⟨rfl,rfl⟩⟩;have hlt:=(aam.1 hi).1;refine ⟨us,e1,ρ' ++ [.emp],⟨?_,k6.inj,k6.bnd,k6.z,k6.b0,k6.tb⟩,k2.trans (Ext.app (Kp.refl w') fun g hg=>by cases hg),fun i g hi=>by
  rw [List.getElem?_append_left]
  ·grind
  ·exact (aam.1 (k3 i g hi)).1,k4.imp fun _ _ h=>h.carry hle (fR _ _),fun hk=>⟨(k5 hk).1,fun i rr hi=>by
  rw [List.getElem?_append_left]
  ·grind
  exact (aam.1 ((k5 hk).2 i rr hi)).1⟩⟩
 obtain ⟨r,hr,g,ws,rfl,h1,h2⟩:=k6.at_ (i:=i) (o:=.box t cs) (by rw [List.getElem?_append_left hlt]; exact hi);have k7:=k6.obj.set i (a:=.box t (cs.set k (.own H1.length))) (b:=.blk g) ⟨g,ws,rfl,h1,?_⟩
 ·rw [List.set_append_left _ _ hlt] at k7;have:(ρ' ++ [RE.emp]).set i (.blk g)=ρ' ++ [RE.emp]:=by
   obtain ⟨hj,he⟩:=aam.1 hr;rw [<- he,List.set_getElem_self]
  rwa [this] at k7
 obtain ⟨u,hu,hp⟩:=dC h2 k _ hk;have k8:=h2.set k (a:=.own H1.length) (b:=u) (.inr ⟨by rw [hlen]; simp,?_⟩)
 ·have:ws.set k u=ws:=by
   obtain ⟨hj,he⟩:=aam.1 hu;rw [<- he,List.set_getElem_self]
  rwa [this] at k8
 have hp:Pd _ _ _:=hp;cases hp with | em _=>exact ⟨_,rfl⟩
noncomputable def zS:Kn:=aJ (ae (kC (aW 0 0)) au) (aB (dx 147 (ax (eN 1) (ax cI (ax cB (ax cB (ax cI du)))))) (aB (eS 5 .u8) aw)) fun _ ((_,sy,dn,dm,kp,_),bs,_)=>⟨[],[.c (.bool (.atom ((dn))))],none,false⟩
theorem JC:CK 40 zS:=ah fun _ ((_,sy,dn,dm,kp,_),bs,_) _=>by
 refine av ij [] Tryz.func40 (?_:dn=dn);try rfl
noncomputable def KS:Kn:=aJ (ae (kC (aW 0 0)) au) (aB (dx 147 (ax (eN 1) (ax cI (ax cB (ax cB (ax cI du)))))) (aB (eS 5 .u8) aw)) fun _ ((_,sy,dn,dm,kp,_),bs,_)=>⟨[],[.c (.int ((if dn=true then 0 else 31)))],some ([.box 147 ([.own 1,.int (((if dn=true then (Dsk.mk bs sy dn dm kp).up else (Dsk.mk bs sy dn dm kp)).synced)),.bool (.atom (((if dn=true then (Dsk.mk bs sy dn dm kp).up else (Dsk.mk bs sy dn dm kp)).down))),.bool (.atom (((if dn=true then (Dsk.mk bs sy dn dm kp).up else (Dsk.mk bs sy dn dm kp)).doomed))),.int (((if dn=true then (Dsk.mk bs sy dn dm kp).up else (Dsk.mk bs sy dn dm kp)).keep))]),.row 5 .u8 (((if dn=true then (Dsk.mk bs sy dn dm kp).up else (Dsk.mk bs sy dn dm kp)).b))]),false⟩
theorem VN:CK 44 KS:=ah fun _ ((_,sy,dn,dm,kp,_),bs,_) _=>by
 refine bw ij [] Tryz.func44 (?_:(fun q1=>(fun q0=>(dn=false->31=q1/\sy=q0.synced/\dn=q0.down/\dm=q0.doomed/\kp=q0.keep/\bs=q0.b)/\(dn=true->0=q1/\sy=q0.synced/\false=q0.down/\false=q0.doomed/\0=q0.keep/\bs=q0.b)) (if dn=true then (Dsk.mk bs sy dn dm kp).up else Dsk.mk bs sy dn dm kp)) (if dn=true then (0:Int) else (31:Int)));(repeat' with_reducible first|apply bd|refine bf ?_|intro) <;> grind [Dsk.up]
noncomputable def uq:Kn:=aJ (ae (kC (aW 0 0)) (ae (kC cI) au)) (aB (dx 147 (ax (eN 1) (ax cI (ax cB (ax cB (ax cI du)))))) (aB (eS 5 .u8) aw)) fun (_,k,_) ((_,sy,dn,dm,kp,_),bs,_)=>⟨[(Dsk.mk bs sy dn dm kp).OK],[],some ([.box 147 ([.own 1,.int ((((Dsk.mk bs sy dn dm kp).dk k).synced)),.bool (.atom ((((Dsk.mk bs sy dn dm kp).dk k).down))),.bool (.atom ((((Dsk.mk bs sy dn dm kp).dk k).doomed))),.int ((((Dsk.mk bs sy dn dm kp).dk k).keep))]),.row 5 .u8 ((((Dsk.mk bs sy dn dm kp).dk k).b))]),false⟩
theorem GB:CK 39 uq:=ah fun (_,k,_) ((_,sy,dn,dm,kp,_),bs,_) hp=>by
 have h0:=bW hp;refine bw (vZ ij) [] Tryz.func39 (?_:(fun q1=>(fun q0=>I64 k->I64 ((↑bs.length:Int) - sy)/\I64 q0/\(0<=q0/\q0<=(↑bs.length:Int))/\(↑(List.take q0.toNat bs).length:Int)=q1.synced/\true=q1.down/\false=q1.doomed/\0=q1.keep/\List.take q0.toNat bs=q1.b) (sy+min (max k 0) ((↑bs.length:Int) - sy))) ((Dsk.mk bs sy dn dm kp).dk k));obtain ⟨o1,o2,o3⟩:=h0;dsimp only at o1 o2 o3;(repeat' with_reducible first|apply bd|refine bf ?_|intro) <;> first | (first | with_reducible rfl | with_reducible assumption | omega | (refine bK ?_ ?_ <;> omega)) | (simp only [Dsk.dk,Dsk.at_]; first | done | (first | with_reducible rfl | with_reducible assumption | omega | (refine bK ?_ ?_ <;> omega)) | (rw [List.length_take]; omega))
noncomputable def Ef:Kn:=aJ (ae (kC (aW 0 0)) (ae (kC cI) au)) (aB (dx 147 (ax (eN 1) (ax cI (ax cB (ax cB (ax cI du)))))) (aB (eS 5 .u8) aw)) fun (_,k,_) ((_,sy,dn,dm,kp,_),bs,_)=>⟨[(Dsk.mk bs sy dn dm kp).OK],[.c (.int (((Dsk.mk bs sy dn dm kp).kQ k)))],some ([.box 147 ([.own 1,.int ((((Dsk.mk bs sy dn dm kp).cut k).synced)),.bool (.atom ((((Dsk.mk bs sy dn dm kp).cut k).down))),.bool (.atom ((((Dsk.mk bs sy dn dm kp).cut k).doomed))),.int ((((Dsk.mk bs sy dn dm kp).cut k).keep))]),.row 5 .u8 ((((Dsk.mk bs sy dn dm kp).cut k).b))]),false⟩
theorem Rw:CK 45 Ef:=ah fun (_,k,_) ((_,sy,dn,dm,kp,_),bs,_) hp=>by
 have h0:=bW hp;refine bw (vZ ij) [] Tryz.func45 (?_:(fun q1=>(fun q0=>(fun q2=>I64 k->(dn=true->30=q1.kQ k/\q2)/\(dn=false->(k<0\/(↑bs.length:Int)<k->1=q1.kQ k/\q2)/\(0<=k/\k<=(↑bs.length:Int)->0<=k/\k<=(↑bs.length:Int)/\0=q1.kQ k/\k=q0.synced/\dn=q0.down/\dm=q0.doomed/\kp=q0.keep/\List.take k.toNat bs=q0.b))) (sy=q0.synced/\dn=q0.down/\dm=q0.doomed/\kp=q0.keep/\bs=q0.b)) (q1.cut k)) (Dsk.mk bs sy dn dm kp));obtain ⟨o1,o2,o3⟩:=h0;dsimp only at o1 o2 o3;(repeat' with_reducible first|apply bd|refine bf ?_|intro) <;> first | (first | with_reducible rfl | with_reducible assumption | omega | (refine bK ?_ ?_ <;> omega)) | grind [Dsk.cut,Dsk.kQ]
noncomputable def EO:Kn:=aJ (ae (kC (aW 0 0)) (ae (kC (cL .u8)) au)) (aB (dx 147 (ax (eN 1) (ax cI (ax cB (ax cB (ax cI du)))))) (aB (eS 5 .u8) aw)) fun (_,x,_) ((_,sy,dn,dm,kp,_),bs,_)=>⟨[(Dsk.mk bs sy dn dm kp).OK],[.c (.int (((Dsk.mk bs sy dn dm kp).jJ x)))],some ([.box 147 ([.own 1,.int ((((Dsk.mk bs sy dn dm kp).app x).synced)),.bool (.atom ((((Dsk.mk bs sy dn dm kp).app x).down))),.bool (.atom ((((Dsk.mk bs sy dn dm kp).app x).doomed))),.int ((((Dsk.mk bs sy dn dm kp).app x).keep))]),.row 5 .u8 ((((Dsk.mk bs sy dn dm kp).app x).b))]),false⟩
theorem RV:CK 150 EO:=ah fun (_,x,_) ((_,sy,dn,dm,kp,_),bs,_) hp=>by
 have h0:=bW hp;refine bw ij [] Tryz.func150 (?_:(fun q2=>(fun q1=>(fun q0=>(fun q3=>x.length*1<=140737488355328->(dn=true->30=q2.jJ x/\q3)/\(dn=false->I64 q1/\(q1<(↑x.length:Int)->20=q2.jJ x/\q3)/\((↑x.length:Int)<=q1->(bs.length+x.length)*1<=140737488355328/\0=q2.jJ x/\sy=q0.synced/\dn=q0.down/\dm=q0.doomed/\kp=q0.keep/\bs++x=q0.b))) (sy=q0.synced/\dn=q0.down/\dm=q0.doomed/\kp=q0.keep/\bs=q0.b)) (q2.app x)) (65536 - (↑bs.length:Int))) (Dsk.mk bs sy dn dm kp));obtain ⟨o1,o2,o3⟩:=h0;dsimp only at o1 o2 o3;(repeat' with_reducible first|apply bd|refine bf ?_|intro) <;> first | (first | with_reducible rfl | with_reducible assumption | omega | (refine bK ?_ ?_ <;> omega)) | grind [Dsk.app,Dsk.jJ]
noncomputable def uX:Kn:=aJ (ae (kC (aW 0 0)) au) (aB (dx 147 (ax (eN 1) (ax cI (ax cB (ax cB (ax cI du)))))) (aB (eS 5 .u8) aw)) fun _ ((_,sy,dn,dm,kp,_),bs,_)=>⟨[(Dsk.mk bs sy dn dm kp).OK],[.c (.own 2)],some ([.box 147 ([.own 1,.int ((sy)),.bool (.atom ((dn))),.bool (.atom ((dm))),.int ((kp))]),.row 5 .u8 ((bs)),.row 5 .u8 ((bs))]),true⟩
theorem Gt:CK 42 uX:=ah fun _ ((_,sy,dn,dm,kp,_),bs,_) hp=>by
 have h0:=bW hp;refine dr ij [] Tryz.func42 (?_:(fun (q0:Nat)=>(0:Int)<=(↑q0:Int)/\(↑q0:Int)*(↑(1:Nat):Int)<=(140737488355328:Int)/\(↑q0:Int)=(↑q0:Int)/\sy=sy/\dn=dn/\dm=dm/\kp=kp/\bs=bs/\List.take (List.replicate q0 (ao Sh.u8)).length bs++List.drop q0 (List.replicate q0 (ao Sh.u8))=bs) bs.length);obtain ⟨o1,o2,o3⟩:=h0;dsimp only at o1 o2 o3;(repeat' with_reducible first|apply bd|refine bf ?_|intro) <;> first | (first | with_reducible rfl | with_reducible assumption | omega | (refine bK ?_ ?_ <;> omega)) | simp
noncomputable def Ek:Kn:=aJ au aw fun _ _=>⟨[],[.c (.ptr 0 0)],some ([.box 147 ([.em true,.int ((0)),.bool (.atom ((false))),.bool (.atom ((false))),.int ((0))])]),true⟩
theorem Cz:CK 38 Ek:=ah fun _ _ _=>by
 refine dr ij [] Tryz.func38 (?_:(0:Int)=0/\false=false/\false=false/\(0:Int)=0);(repeat' with_reducible first|apply bd|refine bf ?_|intro) <;> (first | with_reducible rfl | with_reducible assumption | omega | (refine bK ?_ ?_ <;> omega))
theorem RA :Sat Tryz.prog (al tyT) 38 [] [] ⟨[],[.c (.ptr 0 0)],some ([.box 147 ([.em true,.int ((0)),.bool (.atom ((false))),.bool (.atom ((false))),.int ((0))])]),true⟩:=Cz _ _ _ rfl (by simp)
noncomputable def aaP:bD:=(aL 38 Ek (aL 42 uX (aL 150 EO (aL 45 Ef (aL 39 uq (aL 44 KS (aL 40 zS abe)))))))
theorem fS:ay Tryz.prog (al tyT) aaP:=(ag Cz (ag Gt (ag RV (ag Rw (ag GB (ag VN (ag JC ij)))))))
variable {x:UInt8} {k:Nat}
theorem uC {q:Nat × Nat} {l:List UInt8} (h:l[k]? = some x):gP q (l.take (k+1))=MO (gP q (l.take k)) x:=by
 rw [ai h,gP,List.foldl_append]; rfl
variable {b:List UInt8}
theorem Vv {s:Nat} (h:b[k]? = some x):((gP (s % 65536 % 65521,s / 65536 % 65521) (b.take k)).1+x.toNat) % 4294967296 % 65521=(gP (s % 65536 % 65521,s / 65536 % 65521) (b.take (k+1))).1:=by
 have:=(pY (s:=s) (b.take k)).1;have:=x.toNat_lt;rw [uC h,MO];omega
theorem Ww {s:Nat} (h:b[k]? = some x):((gP (s % 65536 % 65521,s / 65536 % 65521) (b.take k)).2+((gP (s % 65536 % 65521,s / 65536 % 65521) (b.take k)).1+x.toNat) % 4294967296 % 65521) % 4294967296 % 65521=(gP (s % 65536 % 65521,s / 65536 % 65521) (b.take (k+1))).2:=by
 have:=(pY (s:=s) (b.take k));have:=x.toNat_lt;rw [uC h,MO];omega
theorem Yb {s:Nat} (h:(b.length:Int)<=k):(65536*(gP (s % 65536 % 65521,s / 65536 % 65521) (b.take k)).2 % 4294967296+(gP (s % 65536 % 65521,s / 65536 % 65521) (b.take k)).1) % 4294967296=dI s b:=by
 have:=(pY (s:=s) b);rw [List.take_of_length_le (by omega),dI];omega
variable {l:List Bool} {x:Bool}
theorem aeT (h:l[k]? = some x) (hx:x=true):(((l.take k).countP id:Nat):Int)+1=((l.take (k+1)).countP id:Nat):=by
 rw [ai h,List.countP_append,hx]; simp
theorem aeq (h:l[k]? = some x) (hx:x=false):(((l.take k).countP id:Nat):Int)=((l.take (k+1)).countP id:Nat):=by
 rw [ai h,List.countP_append,hx]; simp
theorem adS (h:(l.length:Int)<=k):decide ((l.length:Int).tdiv 2<((l.take k).countP id:Nat))=decide ((l.length:Int).tdiv 2<(l.countP id:Nat)):=by
 rw [List.take_of_length_le (by omega)]
theorem ae8 (h:l.length*1<=140737488355328):I64 (((l.take k).countP id:Nat)+1):=by
 have h1:(l.take k).countP id<=(l.take k).length:=List.countP_le_length;rw [List.length_take] at h1;exact bK aK aK
variable {l:List Entry}
theorem Sn (h:(l.length:Int)=0):(0:Int)=gY l:=by
 rw [acr (l:=l) (by omega)]; rfl
theorem Pf (h:¬ (l.length:Int)=0):(l.getD ((l.length:Int) - 1).toNat (ao (Sh.nm NT.entry))).term=gY l:=by
 rw [show ((l.length:Int) - 1).toNat=l.length - 1 by omega]; rfl
variable {k:Int}
theorem SS {x:Entry} (h0:¬ k=0) (h1:0<=k) (h2:k<=(l.length:Int)) (h:l[(k - 1).toNat]? = some x):x.term=cD l k:=by
 rw [cD,if_neg h0,if_neg (by omega),List.getD_eq_getElem?_getD,h]; rfl
def Vy (s:Nat) (b:List UInt8):List (Nat × LI):=[(3,{ σ:=Nat,F:=fun k=>([(5,one (.ptr 0 0)),(15,one (.fz .u8 (b))),(16,one (.int (b).length)),(17,one (.int k))],[.box 286 ([.xx (.w (((gP (s % 65536 % 65521,s / 65536 % 65521) (b.take k)).1))) [],.xx (.w (((gP (s % 65536 % 65521,s / 65536 % 65521) (b.take k)).2))) []])]),J:=fun k=>k<=b.length,μ:=fun k=>(b).length - k })]
def Wn (l:List Bool):List (Nat × LI):=[(3,{ σ:=Nat,F:=fun k=>([(0,one (.fz .bool (l))),(3,one (.int ((l.take k).countP id))),(6,one (.fz .bool (l))),(7,one (.int (l).length)),(8,one (.int k))],[]),J:=fun k=>k<=l.length,μ:=fun k=>(l).length - k })]
noncomputable def zN:Kn:=aJ (ae (kC (aW 0 0)) au) (aB (dx 147 (ax (eN 1) (ax cI (ax cB (ax cB (ax cI du)))))) (aB (eS 5 .u8) aw)) fun _ ((_,sy,dn,dm,kp,_),bs,_)=>⟨[(Dsk.mk bs sy dn dm kp).OK],[.c (.int (((Dsk.mk bs sy dn dm kp).eX)))],some ([.box 147 ([.own 1,.int ((((Dsk.mk bs sy dn dm kp).sync).synced)),.bool (.atom ((((Dsk.mk bs sy dn dm kp).sync).down))),.bool (.atom ((((Dsk.mk bs sy dn dm kp).sync).doomed))),.int ((((Dsk.mk bs sy dn dm kp).sync).keep))]),.row 5 .u8 ((((Dsk.mk bs sy dn dm kp).sync).b))]),false⟩
theorem LC:CK 151 zN:=ah fun _ ((_,sy,dn,dm,kp,_),bs,_) hp=>by
 have h0:=bW hp;refine bw fS [] Tryz.func151 (?_:(fun q0=>(fun q3=>(fun q2=>(fun q1=>(dn=true->30=q0.eX/\sy=q2.synced/\q1)/\(dn=false->(dm=true->(0<=sy/\sy<=(↑bs.length:Int)/\bs.length<=65536)/\30=q0.eX/\q3.synced=q2.synced/\q3.down=q2.down/\q3.doomed=q2.doomed/\q3.keep=q2.keep/\q3.b=q2.b)/\(dm=false->0=q0.eX/\(↑bs.length:Int)=q2.synced/\q1))) (dn=q2.down/\dm=q2.doomed/\kp=q2.keep/\bs=q2.b)) q0.sync) (q0.dk kp)) (Dsk.mk bs sy dn dm kp));obtain ⟨o1,o2,o3⟩:=h0;dsimp only at o1 o2 o3;(repeat' with_reducible first|apply bd|refine bf ?_|intro) <;> first | (first | with_reducible rfl | with_reducible assumption | omega | (refine bK ?_ ?_ <;> omega)) | grind [Dsk.sync,Dsk.eX]
theorem Od :Sat Tryz.prog (al tyT) 38 [] [] ⟨[],[.c (.ptr 0 0)],some ([.box 147 ([.own 1,.int ((0)),.bool (.atom ((false))),.bool (.atom ((false))),.int ((0))]),.row 5 .u8 (([]))]),true⟩:=Sat.Mq 0 0 5 .u8 cd rfl rfl RA rfl
noncomputable def xZ:Kn:=aJ au aw fun _ _=>⟨[],[.c (.ptr 0 0)],some ([.box 147 ([.own 1,.int ((0)),.bool (.atom ((false))),.bool (.atom ((false))),.int ((0))]),.row 5 .u8 (([]))]),true⟩
theorem NN:CK 38 xZ:=ah fun _ _ _=>Od
noncomputable def C_:Kn:=aJ (ae (kC cW) (ae (kC (cL .u8)) au)) aw fun (s,b,_) _=>⟨[],[.c (.xx (.w ((dI s b))) [])],none,false⟩
theorem SM:CK 252 C_:=ah fun (s,b,_) _ _=>by
 refine av fS (Vy s b) Tryz.func252 (?_:(fun (q7:Nat)=>(fun (q6:Nat)=>(fun (q5:Int)=>(fun (q4:Nat)=>(fun (q3:Nat)=>(fun (q2:Int)=>(fun (q1:Int)=>(fun (q0:Nat × Nat)=>b.length*(1:Nat)<=(140737488355328:Nat)->q7<q6/\q7<q3/\q7<q6/\q7<q3/\∃ (s0:Nat),(b=b/\(↑b.length:Int)=(↑q4:Int)/\q1=(↑s0:Int)/\s % q6 % q3=(gP q0 (List.take s0 b)).fst/\s / q6 % q3=(gP q0 (List.take s0 b)).snd)/\s0<=q4/\∀ (s_1:Nat),(fun (q8:Nat × Nat)=>s_1<=q4->((↑s_1:Int)<(↑q4:Int)->q1<=(↑s_1:Int)/\(↑s_1:Int)<(↑b.length:Int)/\∀ (x:UInt8),(fun (q9:Nat)=>b[s_1]? = some x->q1<=q1/\q1<q2/\q7<q3/\q1<=q1/\q1<q2/\q1<=q5/\q5<q2/\q1<=q1/\q1<q2/\q7<q3/\q1<=q5/\q5<q2/\I64 ((↑s_1:Int)+q5)/\∃ (s':Nat),(b=b/\(↑q4:Int)=(↑q4:Int)/\(↑s_1:Int)+q5=(↑s':Int)/\q9=(gP q0 (List.take s' b)).fst/\(q8.snd+q9) % (4294967296:Nat) % q3=(gP q0 (List.take s' b)).snd)/\s' <= q4/\q4 - s' < q4 - s_1) ((q8.fst+x.toNat) % (4294967296:Nat) % q3))/\((↑q4:Int)<=(↑s_1:Int)->q1<=q5/\q5<q2/\q1<=q1/\q1<q2/\(q6*q8.snd % (4294967296:Nat)+q8.fst) % (4294967296:Nat)=dI s b)) (gP q0 (List.take s_1 b))) (s % q6 % q3,s / q6 % q3)) (0:Int)) (↑(2:Nat):Int)) (65521:Nat)) b.length) (1:Int)) (65536:Nat)) (0:Nat));(repeat' with_reducible first|apply bd|refine bf ?_|intro)
 all_goals try ( refine ⟨0,?_⟩; (repeat' with_reducible first|apply bd|refine bf ?_|intro))
 all_goals try ( refine ⟨‹Nat› + 1,?_⟩; (repeat' with_reducible first|apply bd|refine bf ?_|intro))
 all_goals (first | exact bq | exact rfl | exact (Vv ab) | exact (Ww ab) | exact (Yb ab))
noncomputable def oT:Kn:=aJ (ae (kC (cL .u8)) au) aw fun (l,_) _=>⟨[],[.c (.fz .u8 ((l)))],none,false⟩
theorem yj:CK 104 oT:=ah fun (l,_) _ _=>by
 refine av fS [] Tryz.func104 (?_:(fun q0=>q0->∀ (b:Bool),(b=true->l=[])->(b=true->l=[])/\(b=false->q0/\l=l)) (l.length*1<=140737488355328));grind
noncomputable def Fe:Kn:=aJ (ae (kC (cL (.nm .entry))) au) aw fun (l,_) _=>⟨[],[.c (.int (((l.length:Int)))),.c (.int ((gY l)))],none,false⟩
theorem Sa:CK 49 Fe:=ah fun (l,_) _ _=>by
 refine av fS [] Tryz.func49 (?_:(fun q1=>(fun q0=>(fun q2=>l.length*32<=140737488355328->(q1=0->0=(↑l.length:Int)/\0=gY l)/\(¬q1=0->I64 q0/\(0<=q0/\q0<q1)/\(I64 q2.term->q2.b.length*1<=140737488355328->q1=(↑l.length:Int)/\q2.term=gY l))) (l.getD q0.toNat (ao (Sh.nm NT.entry)))) (q1 - 1)) (↑l.length:Int));(repeat' with_reducible first|apply bd|refine bf ?_|intro)
 all_goals (first | exact bq | exact (Sn ab) | exact (Pf ab))
noncomputable def Dw:Kn:=aJ (ae (kC (cL (.nm .entry))) (ae (kC cI) au)) aw fun (l,k,_) _=>⟨[],[.c (.int ((cD l k)))],none,false⟩
theorem Qb:CK 193 Dw:=ah fun (l,k,_) _ _=>by
 refine av fS [] Tryz.func193 (?_:(fun q1=>(fun q0=>l.length*32<=140737488355328->I64 k->(k=q1->q1=cD l k)/\(¬k=q1->(k<q1\/(↑l.length:Int)<k -> -1=cD l k)/\(q1<=k/\k<=(↑l.length:Int)->I64 q0/\q1<=q0/\q0<(↑l.length:Int)/\∀ (x:Entry),l[q0.toNat]? = some x->I64 x.term->x.b.length*1<=140737488355328->x.term=cD l k))) (k - 1)) (0:Int));(repeat' with_reducible first|apply bd|refine bf ?_|intro)
 all_goals (first | exact bq | exact (SS ab ab ab ab) | (rw [cD,if_pos ab]) | (rw [cD,if_neg ab,if_pos ab]))
noncomputable def Dh:Kn:=aJ (ae (kC cI) (ae (kT (.nm .letter)) au)) aw fun (n,x,_) _=>⟨[0<=x.a/\x.a<=64],[.c (.int ((lI n x)))],none,false⟩
theorem QQ:CK 172 Dh:=ah fun (n,x,_) _ hp=>by
 have h0:=bW hp;refine av fS [] Tryz.func172 (?_:(fun q0=>(fun q1=>I64 n->aS x ((x.ok=true->I64 q1/\q1=lI n x)/\(x.ok=false->(q0<n->I64 (n - q0)/\I64 q1/\min (n - q0) q1=lI n x)/\(n<=q0->q0=lI n x)))) (x.a+q0)) (1:Int));(repeat' with_reducible first|apply bd|refine bf ?_|intro)
 all_goals first | exact bq | (simp only [lI]; grind) | (have q:=(by with_reducible assumption:I64 n); exact bK (by have:=q.1; omega) (by have:=q.2; omega))
noncomputable def DD:Kn:=aJ (ae (kC cI) (ae (kC cI) au)) aw fun (t,v,_) _=>⟨[],[.c (.own 0)],some ([.row 108 (.nm .record) (([⟨2,t,v,[]⟩]))]),true⟩
theorem Qv:CK 88 DD:=ah fun (t,v,_) _ _=>by
 refine dr fS [] Tryz.func88 (?_:I64 t->I64 v->[Record.mk 2 t v []]=[Record.mk 2 t v []]);intros; rfl
noncomputable def En:Kn:=aJ (ae (kC (cL .bool)) au) aw fun (l,_) _=>⟨[],[.c (.bool (.atom ((ph l))))],none,false⟩
theorem Pr:CK 101 En:=ah fun (l,_) _ _=>by
 refine av fS (Wn l) Tryz.func101 (?_:(fun q2=>(fun q1=>(fun q0=>(fun q3=>l.length*(1:Nat)<=(140737488355328:Nat)->∃ s0,(l=l/\(0:Int)=(↑(List.countP id (List.take s0 l)):Int)/\l=l/\q2=q3/\(0:Int)=(↑s0:Int))/\s0<=q0/\∀ (s:Nat),(fun q5=>(fun q4=>s<=q0->((↑s:Int)<q3->(0:Int)<=(↑s:Int)/\(↑s:Int)<q2/\∀ (x:Bool),l[s]? = some x->(x=true->I64 (q4+q1)/\I64 q5/\∃ s',(l=l/\q4+q1=(↑(List.countP id (List.take s' l)):Int)/\l=l/\q3=q3/\q5=(↑s':Int))/\s' <= q0/\q0 - s' < q0 - s)/\(x=false->I64 q5/\∃ s',(l=l/\q4=(↑(List.countP id (List.take s' l)):Int)/\l=l/\q3=q3/\q5=(↑s':Int))/\s' <= q0/\q0 - s' < q0 - s))/\(q3<=(↑s:Int)->(0:Int)<=q2/\(0:Int)<(2:Int)/\decide (q2.tdiv (2:Int)<q4)=ph l)) (↑(List.countP id (List.take s l)):Int)) ((↑s:Int)+q1)) (↑q0:Int)) l.length) (1:Int)) (↑l.length:Int));iterate 3 ((all_goals (repeat' with_reducible first|apply bd|refine bf ?_|intro)); (all_goals try (first | exact bq | exact rfl | exact (aeT ab ab) | exact (aeq ab ab) | exact (ae8 ab) | exact (adS ab))); all_goals try first | refine ⟨‹Nat› + 1,?_⟩ | refine ⟨0,?_⟩)
noncomputable def MT:Kn:=aJ (ae (kC cI) (ae (kC cI) (ae (kC cI) au))) aw fun (n,a,b,_) _=>⟨[],[.c (.bool (.atom ((bX n a b))))],none,false⟩
theorem YD:CK 165 MT:=ah fun (n,a,b,_) _ _=>by
 refine av fS [] Tryz.func165 (?_:I64 n->I64 a->I64 b->(decide (a<=n) && decide (n<=b))=bX n a b);grind [bX]
noncomputable def aat:bD:=(aL 165 MT (aL 101 En (aL 88 DD (aL 172 Dh (aL 193 Dw (aL 49 Fe (aL 104 oT (aL 252 C_ (aL 38 xZ (aL 151 zN aaP))))))))))
theorem jG:ay Tryz.prog (al tyT) aat:=(ag YD (ag Pr (ag Qv (ag QQ (ag Qb (ag Sa (ag yj (ag SM (ag NN (ag LC fS))))))))))
noncomputable def zU:Kn:=aJ (ae (kC (cL .u8)) au) aw fun (b,_) _=>⟨[],[.c (.xx (.w ((dI 1 b))) [])],none,false⟩
theorem HP:CK 209 zU:=ah fun (b,_) _ _=>by
 refine av jG [] Tryz.func209 (?_:b.length*1<=140737488355328->dI 1 b=dI 1 b);intros; rfl
noncomputable def Ml:Kn:=aJ (ae (kC (cL .u8)) au) aw fun (b,_) _=>⟨[],[.c (.fz .u8 ((b)))],none,false⟩
theorem XH:CK 211 Ml:=ah fun (b,_) _ _=>by
 refine av jG [] Tryz.func211 (?_:(fun q0=>q0->((↑b.length:Int)=0->b=[])/\(¬(↑b.length:Int)=0->q0->b=b)) (b.length*1<=140737488355328));(repeat' with_reducible first|apply bd|refine bf ?_|intro)
 all_goals (first | exact bq | exact (acr aK).symm | exact (acr aK))
noncomputable def lL:Kn:=aJ (ae (kC (cL (.nm .entry))) au) aw fun (l,_) _=>⟨[],[.c (.own 0)],some ([.row 52 (.nm .entry) ((l))]),true⟩
theorem tF:CK 213 lL:=ah fun (l,_) _ _=>by
 refine dr jG [] Tryz.func213 (?_:(fun q0=>q0->∀ (b:Bool),(b=true->l=[])->(b=true->l=[])/\(b=false->q0/\l=l)) (l.length*32<=140737488355328));exact fun h b hb=>⟨hb,fun _=>⟨h,rfl⟩⟩
noncomputable def zj:Kn:=aJ (ae (kC (cL (.nm .entry))) (ae (kC cI) (ae (kC cI) au))) aw fun (l,k,m,_) _=>⟨[],[.c (.bool (.atom ((decide (cD l k=m)))))],none,false⟩
theorem Le:CK 166 zj:=ah fun (l,k,m,_) _ _=>by
 refine av jG [] Tryz.func166 (?_:l.length*32<=140737488355328->I64 k->I64 m->I64 (cD l k)->decide (cD l k=m)=decide (cD l k=m));intros; rfl
noncomputable def zp:Kn:=aJ (ae (kC (cL (.nm .entry))) (ae (kC cI) (ae (kC cI) au))) aw fun (l,k,m,_) _=>⟨[],[.c (.bool (.atom ((jy l k m))))],none,false⟩
theorem Js:CK 170 zp:=ah fun (l,k,m,_) _ _=>by
 refine av jG [] Tryz.func170 (?_:l.length*32<=140737488355328->I64 k->I64 m->I64 (↑l.length:Int)->I64 (gY l)->(decide (gY l<m) || decide (m=gY l) && decide ((↑l.length:Int)<=k))=jy l k m);intros; rfl
noncomputable def zY:Kn:=aJ (ae (kC cI) (ae (kC cI) (ae (kC cB) au))) aw fun (n,m,bb,_) _=>⟨[],[.c (.bool (.atom ((dJ n m bb))))],none,false⟩
theorem Ka:CK 164 zY:=ah fun (n,m,bb,_) _ _=>by
 refine av jG [] Tryz.func164 (?_:I64 n->I64 m->(bb=false->bX n 0 0=dJ n m bb)/\(bb=true->bX n 0 m=dJ n m bb));(repeat' with_reducible first|apply bd|refine bf ?_|intro)
 all_goals first | exact bq | (simp only [dJ]; grind)
noncomputable def aci:bD:=(aL 164 zY (aL 170 zp (aL 166 zj (aL 213 lL (aL 211 Ml (aL 209 zU aat))))))
theorem il:ay Tryz.prog (al tyT) aci:=(ag Ka (ag Js (ag Le (ag tF (ag XH (ag HP jG))))))
theorem Rj (n:Nat):Zs (n:Int)=UInt8.ofNat n:=by
 apply UInt8.toNat_inj.1;rw [Zs,ofNat_toNat,ofNat_toNat]; omega
variable {m:Int}
theorem Kx (h:(k<0\/(l.length:Int)<k)\/m<1):fu l k m=[]:=if_pos h
theorem NI (h1:0<=k) (h2:k<=(l.length:Int)) (h3:1<=m):(l.drop k.toNat).take (min m ((l.drop k.toNat).length:Int)).toNat=fu l k m:=by
 rw [fu,if_neg (by omega)]
variable {m:List Entry}
theorem VP (h:k<0\/(l.length:Int)<k):aZ l k m=(0,[]):=if_pos h
variable {j:Nat}
theorem Ut (h4:j<=gX (l.drop k.toNat) m) (h1:0<=k) (h2:k<=(l.length:Int)) (h3:j<m.length) (h5:(((l.drop k.toNat).length:Nat):Int)<=j):aZ l k m=(0,m.drop j):=by
 have:=nz (h:=l.drop k.toNat) (a:=m);have e:gX (l.drop k.toNat) m=j:=by omega
 rw [aZ,if_neg (by omega),e,if_neg (by omega),if_pos (by omega)]
theorem UQ {y:Entry} (h4:j<=gX (l.drop k.toNat) m) (h1:0<=k) (h2:k<=(l.length:Int)) (h5:(j:Int)<((l.drop k.toNat).length:Nat)) (hy:m[j]? = some y) (hn:¬ ((l.drop k.toNat).getD j (ao (Sh.nm NT.entry))).term=y.term):aZ l k m=(k+j+1,m.drop j):=by
 have hx:(l.drop k.toNat)[j]? = some ((l.drop k.toNat).getD j (ao (Sh.nm NT.entry))):=by
  grind
 have:=ou h4 hx hy;have hm:=(aam.1 hy).1;have e:gX (l.drop k.toNat) m=j:=by
  grind
 rw [aZ,if_neg (by omega),e,if_neg (by omega),if_neg (by omega)]
theorem aaC {y:Entry} (h4:j<=gX (l.drop k.toNat) m) (h5:(j:Int)<((l.drop k.toNat).length:Nat)) (hy:m[j]? = some y) (hn:((l.drop k.toNat).getD j (ao (Sh.nm NT.entry))).term=y.term):j+1<=gX (l.drop k.toNat) m:=by
 have hx:(l.drop k.toNat)[j]? = some ((l.drop k.toNat).getD j (ao (Sh.nm NT.entry))):=by
  grind
 exact (ou h4 hx hy).1 hn
theorem YN (h4:j<=gX (l.drop k.toNat) m) (h1:0<=k) (h2:k<=(l.length:Int)) (h5:(m.length:Int)<=j):aZ l k m=(0,[]):=by
 rw [aZ,if_neg (by omega),if_pos (by omega)]
variable {x:Letter}
theorem Zl (h:((((((((((((¬x.kind=1/\¬x.kind=2)/\¬x.kind=3)/\¬x.kind=4)\/bX x.frm 0 4=false)\/bX x.to 0 4=false)\/x.frm=x.to)\/bX x.term 1 1048576=false)\/bX x.bin 1 3=false)\/dJ x.a 64 (decide (x.kind=1) || decide (x.kind=3) || decide (x.kind=4))=false)\/dJ x.b 1048576 (decide (x.kind=1) || decide (x.kind=3))=false)\/dJ x.c 64 (decide (x.kind=3))=false)\/(x.ok=true/\¬x.kind=2)/\¬x.kind=4)\/dJ (x.l.length:Int) 4 (decide (x.kind=3))=false):od x=false:=by
 unfold od;grind
theorem VK (h0:((x.kind=1\/x.kind=2)\/x.kind=3)\/x.kind=4) (h1:bX x.frm 0 4=true) (h2:bX x.to 0 4=true) (h3:¬x.frm=x.to) (h4:bX x.term 1 1048576=true) (h5:bX x.bin 1 3=true) (h6:dJ x.a 64 (decide (x.kind=1) || decide (x.kind=3) || decide (x.kind=4))=true) (h7:dJ x.b 1048576 (decide (x.kind=1) || decide (x.kind=3))=true) (h8:dJ x.c 64 (decide (x.kind=3))=true) (h9:(x.ok=false\/x.kind=2)\/x.kind=4) (h10:dJ (x.l.length:Int) 4 (decide (x.kind=3))=true):od x=true:=by
 unfold od;grind
theorem Re {y:Entry} (h:bX y.term 1 1048576=false\/200<(y.b.length:Int)):eR y=false:=by
 unfold eR;grind
theorem Qh {y:Entry} (h:bX y.term 1 1048576=true) (h2:(y.b.length:Int)<=200):eR y=true:=by
 unfold eR; rw [h,decide_eq_true h2]; rfl
variable {k:Nat}
theorem abT (h:od x=true) (h2:(x.l.length:Int)<=k) (h3:(x.l.take k).all eR=true):0=mayL x:=by
 rw [List.take_of_length_le (by omega)] at h3;rw [mayL,if_pos ⟨h,h3⟩]
theorem XN {y:Entry} (hy:x.l[k]? = some y) (h:eR y=false):1=mayL x:=by
 rw [mayL,if_neg];grind
theorem acf {y:Entry} (hy:x.l[k]? = some y) (h:eR y=true) (h3:(x.l.take k).all eR=true):(x.l.take (k+1)).all eR=true:=by
 rw [ai hy,agr,h3]; simp [h]
theorem ag0:(x.l.take 0).all eR=true:=rfl
theorem aaQ (h:od x=false):1=mayL x:=by
 rw [mayL,if_neg (by rintro ⟨h1,_⟩; rw [h] at h1; cases h1)]
def Yt (x:Letter):List (Nat × LI):=[(7,{ σ:=Nat,F:=fun k=>([(112,one (.fz (.nm .entry) x.l)),(113,one (.int x.l.length)),(114,one (.int k))],[]),J:=fun k=>k<=x.l.length/\od x=true/\(x.l.take k).all eR=true,μ:=fun k=>x.l.length - k })]
def Si (l:List Entry) (k:Int) (m:List Entry):List (Nat × LI):=[(5,{ σ:=Nat,F:=fun j=>([(1,one (.int (k))),(2,one (.fz (.nm .entry) (m))),(8,one (.fz (.nm .entry) (l.drop k.toNat))),(22,one (.fz (.nm .entry) (m))),(23,one (.int (m).length)),(24,one (.int j))],[]),J:=fun j=>j<=m.length/\j<=gX (l.drop k.toNat) m,μ:=fun j=>(m).length - j })]
noncomputable def DM:Kn:=aJ (ae (kC (cL .u8)) (ae (kC cW) au)) aw fun (b,s,_) _=>⟨[],[.c (.bool (.atom ((decide (dI 1 b=s)))))],none,false⟩
theorem R_:CK 143 DM:=ah fun (b,s,_) _ _=>by
 refine av il [] Tryz.func143 (?_:b.length*1<=140737488355328->decide ((↑(dI 1 b):Int)=(↑s:Int))=decide (dI 1 b=s));(repeat' with_reducible first|apply bd|refine bf ?_|intro) <;> first | (first | with_reducible rfl | with_reducible assumption | omega | (refine bK ?_ ?_ <;> omega)) | (simp only [decide_eq_decide]; omega)
noncomputable def KQ:Kn:=aJ (ae (kC (cL .u8)) au) aw fun (x,_) _=>⟨[],[.c (.fz .u8 (((ow x).1))),.c (.int (((ow x).2)))],none,false⟩
theorem Wo:CK 149 KQ:=ah fun (x,_) _ _=>by
 refine av (RN il) [] Tryz.func149 (?_:(fun (q4:Nat)=>(fun (q3:Nat)=>(fun (q2:Int)=>(fun (q5:Int)=>(fun (q1:List (den Sh.u8))=>(fun (q0:List (den Sh.u8))=>(fun (q6:List (den Sh.u8))=>x.length*q3<=(140737488355328:Nat)->(q2=(0:Int)\/(4096:Int)<q2->(ow x).fst=[]/\(4:Int)=(ow x).snd)/\(¬q2=(0:Int)/\q2<=(4096:Int)->I64 ((2:Int)+q2)/\I64 q5/\(0:Int)<=q5/\q5*(↑q3:Int)<=(140737488355328:Int)/\(0:Int)<=q2/\(8:Nat)<(64:Nat)/\((0:Nat)+q1.length)*q3<=(140737488355328:Nat)/\(([]++q1).length+x.length)*q3<=(140737488355328:Nat)/\(24:Nat)<(32:Nat)/\(16:Nat)<(32:Nat)/\(8:Nat)<(32:Nat)/\(q0.length+q6.length)*q3<=(140737488355328:Nat)/\q0++q6=(ow x).fst/\(0:Int)=(ow x).snd)) [UInt8.ofNat (dI q3 q0 / (2:Nat) ^ (24:Nat)),UInt8.ofNat (dI q3 q0 / (2:Nat) ^ (16:Nat)),UInt8.ofNat (dI q3 q0 / q4),UInt8.ofNat (dI q3 q0)]) ([]++q1++x)) [Zs (↑(x.length / q4):Int),Zs q2]) ((2:Int)+q2+(4:Int))) (↑x.length:Int)) (1:Nat)) ((2:Nat) ^ (8:Nat)));(repeat' with_reducible first|apply bd|refine bf ?_|intro)
 all_goals first | exact bq | (simp only [ow,eF,jd,xh,Rj,ahp] at *; grind)
noncomputable def tO:Kn:=aJ (ae (kC (cL (.nm .entry))) (ae (kC cI) (ae (kC cI) au))) aw fun (l,k,m,_) _=>⟨[],[.c (.fz (.nm .entry) ((fu l k m)))],none,false⟩
theorem F_:CK 194 tO:=ah fun (l,k,m,_) _ _=>by
 refine av il [] Tryz.func194 (?_:(fun q0=>l.length*32<=140737488355328->I64 k->I64 m->((k<0\/(↑l.length:Int)<k)\/m<1->fu l k m=[])/\((0<=k/\k<=(↑l.length:Int))/\1<=m->0<=k/\k<=(↑l.length:Int)/\0<=min m q0/\min m q0<=q0/\List.take (min m q0).toNat (List.drop k.toNat l)=fu l k m)) (↑(List.drop k.toNat l).length:Int));(repeat' with_reducible first|apply bd|refine bf ?_|intro)
 all_goals (first | exact bq | exact (Kx ab) | exact (NI ab ab ab))
noncomputable def Dk:Kn:=aJ (ae (kT (.nm .stable)) au) aw fun (s,_) _=>⟨[],[.agg ([.int ((s.floor)),.int ((s.term)),.int ((s.vote)),.own 0])],some ([.row 52 (.nm .entry) ((s.log))]),true⟩
theorem SQ:CK 147 Dk:=ah fun (s,_) _ _=>by
 refine dr il [] Tryz.func147 (?_:bV s (dH s s));(repeat' with_reducible first|apply bd|refine bf ?_|intro)
 all_goals (first | exact bq | exact rfl)
noncomputable def xW:Kn:=aJ (ae (kT (.nm .stable)) (ae (kC cI) au)) aw fun (s,t,_) _=>⟨[],[.c (.own 0)],some ([.row 108 (.nm .record) ((aC s t))]),true⟩
theorem Ln:CK 100 xW:=ah fun (s,t,_) _ _=>by
 refine dr il [] Tryz.func100 (?_:bV s (I64 t->(t<=s.term->aC s t=[])/\(s.term<t->[Record.mk 2 t 0 []]=aC s t)));(repeat' with_reducible first|apply bd|refine bf ?_|intro)
 all_goals (first | exact bq | (rw [aC,if_pos ab]) | (rw [aC,if_neg aK]) | (simp; done))
noncomputable def CX:Kn:=aJ (ae (kT (.nm .letter)) au) aw fun (x,_) _=>⟨[],[.c (.int ((mayL x)))],none,false⟩
theorem SV:CK 94 CX:=ah fun (x,_) _ _=>by
 refine av il (Yt x) Tryz.func94 (?_:(fun (q7:Int)=>(fun (q6:Int)=>(fun (q5:Int)=>(fun (q4:Int)=>(fun (q3:Nat)=>(fun (q2:Int)=>(fun (q8:Prop)=>(fun (q1:Int)=>(fun (q9:Bool)=>(fun (q0:Bool)=>(fun (q10:Bool)=>aS x (((((((((((((¬q2=q1/\¬q8)/\¬q2=3)/\¬q2=q4\/bX x.frm q6 q4=false)\/bX x.to q6 q4=false)\/x.frm=x.to)\/bX x.term q1 q7=false)\/bX x.bin q1 3=false)\/q10=false)\/dJ x.b q7 (q9 || q0)=false)\/dJ x.c 64 q0=false)\/(x.ok=true/\¬q8)/\¬q2=q4)\/dJ q5 q4 q0=false->q1=mayL x)/\(((((((((((((q2=q1\/q8)\/q2=3)\/q2=q4)/\bX x.frm q6 q4=true)/\bX x.to q6 q4=true)/\¬x.frm=x.to)/\bX x.term q1 q7=true)/\bX x.bin q1 3=true)/\q10=true)/\dJ x.b q7 (q9 || q0)=true)/\dJ x.c 64 q0=true)/\((x.ok=false\/q8)\/q2=q4))/\dJ q5 q4 q0=true->∃ (s0:Nat),(x.l=x.l/\q5=(↑q3:Int)/\q6=(↑s0:Int))/\(s0<=q3/\od x=true/\(List.take s0 x.l).all eR=true)/\∀ (s:Nat),s<=q3/\od x=true/\(List.take s x.l).all eR=true->((↑s:Int)<(↑q3:Int)->q6<=(↑s:Int)/\(↑s:Int)<q5/\∀ (x_1:Entry),x.l[s]? = some x_1->I64 x_1.term->x_1.b.length*1<=140737488355328->(bX x_1.term q1 q7=false\/200<(↑x_1.b.length:Int)->q1=mayL x)/\(bX x_1.term q1 q7=true/\(↑x_1.b.length:Int)<=200->I64 ((↑s:Int)+q1)/\∃ (s':Nat),(x.l=x.l/\(↑q3:Int)=(↑q3:Int)/\(↑s:Int)+q1=(↑s':Int))/\(s' <= q3/\od x=true/\(List.take s' x.l).all eR=true)/\q3 - s' < q3 - s))/\((↑q3:Int)<=(↑s:Int)->q6=mayL x)))) (dJ x.a 64 (q9 || q0 || decide (q2=q4)))) (decide (q2=3))) (decide (q2=q1))) 1) (q2=2)) x.kind) x.l.length) 4) (↑x.l.length:Int)) 0) 1048576);iterate 3 ((all_goals (repeat' with_reducible first|apply bd|refine bf ?_|intro)); (all_goals try (first | exact bq | exact ag0 | exact (abT ab ab ab) | exact (aaQ (Zl ab)) | exact (VK ab ab ab ab ab ab ab ab ab ab ab) | exact (acf ab (Qh ab ab) ab) | exact (XN ab (Re ab)))); all_goals try first | refine ⟨‹Nat› + 1,?_⟩ | refine ⟨0,?_⟩)
noncomputable def zd:Kn:=aJ (ae (kC (cL (.nm .entry))) (ae (kC cI) (ae (kC (cL (.nm .entry))) au))) aw fun (l,k,m,_) _=>⟨[],[.c (.int (((aZ l k m).1))),.c (.fz (.nm .entry) (((aZ l k m).2)))],none,false⟩
theorem Mk:CK 167 zd:=ah fun (l,k,m,_) _ _=>by
 refine av il (Si l k m) Tryz.func167 (?_:(fun (q5:Int)=>(fun (q4:Nat)=>(fun (q3:Nat)=>(fun (q2:Int × List Entry)=>(fun (q1:Int)=>(fun (q0:List (den (Sh.nm NT.entry)))=>l.length*32<=140737488355328->I64 k->m.length*32<=140737488355328->(k<q1\/(↑l.length:Int)<k->q1=q2.fst/\q2.snd=[])/\(q1<=k/\k<=(↑l.length:Int)->q1<=k/\k<=(↑l.length:Int)/\∃ (s0:Nat),(k=k/\m=m/\q0=q0/\m=m/\q5=(↑q3:Int)/\q1=(↑s0:Int))/\(s0<=q3/\s0<=q4)/\∀ (s:Nat),(fun (q7:den (Sh.nm NT.entry))=>(fun (q6:Int)=>s<=q3/\s<=q4->(q6<(↑q3:Int)->q1<=q6/\q6<q5/\∀ (x:Entry),m[s]? = some x->I64 x.term->x.b.length*1<=140737488355328->((↑q0.length:Int)<=q6->q1<=q6/\q6<=q5/\q1=q2.fst/\List.drop s m=q2.snd)/\(q6<(↑q0.length:Int)->q1<=q6/\q6<(↑q0.length:Int)/\(I64 q7.term->q7.b.length*1<=140737488355328->(¬q7.term=x.term->I64 (k+q6)/\I64 (k+q6+1)/\q1<=q6/\q6<=q5/\k+q6+1=q2.fst/\List.drop s m=q2.snd)/\(q7.term=x.term->I64 (q6+1)/\∃ (s':Nat),(k=k/\m=m/\q0=q0/\m=m/\(↑q3:Int)=(↑q3:Int)/\q6+1=(↑s':Int))/\(s' <= q3/\s' <= q4)/\q3 - s' < q3 - s))))/\((↑q3:Int)<=q6->q1=q2.fst/\q2.snd=[])) (↑s:Int)) (q0.getD s (ao (Sh.nm NT.entry))))) (List.drop k.toNat l)) 0) (aZ l k m)) m.length) (gX (List.drop k.toNat l) m)) (↑m.length:Int));iterate 3 ((all_goals (repeat' with_reducible first|apply bd|refine bf ?_|intro)); (all_goals try (first | exact bq | exact (congrArg Prod.fst (VP ab)).symm | exact (congrArg Prod.fst (Ut ab ab ab aK ab)).symm | exact (congrArg Prod.fst (UQ ab ab ab ab ab ab)).symm | exact (congrArg Prod.fst (YN ab ab ab ab)).symm | exact (congrArg Prod.snd (VP ab)).symm | exact (congrArg Prod.snd (Ut ab ab ab aK ab)).symm | exact (congrArg Prod.snd (UQ ab ab ab ab ab ab)).symm | exact (congrArg Prod.snd (YN ab ab ab ab)).symm | exact (congrArg Prod.snd (VP ab)) | exact (congrArg Prod.snd (YN ab ab ab ab)) | exact (aaC ab ab ab ab))); all_goals try first | refine ⟨‹Nat› + 1,?_⟩ | refine ⟨0,?_⟩)
noncomputable def aav:bD:=(aL 167 zd (aL 94 CX (aL 100 xW (aL 147 Dk (aL 194 tO (aL 149 KQ (aL 143 DM aci)))))))
theorem gq:ay Tryz.prog (al tyT) aav:=(ag Mk (ag SV (ag Ln (ag SQ (ag F_ (ag Wo (ag R_ il)))))))
end Go.Proofs.YticbaadnibdbkaaGreat
