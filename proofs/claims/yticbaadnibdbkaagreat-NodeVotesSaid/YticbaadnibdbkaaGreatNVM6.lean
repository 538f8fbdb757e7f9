/- What leads to the law, part 6. Conditions: each lemma's own. -/
import Derived.Shelf.Lay
import Derived.Shelf.SlSortCmp.Small
import Derived.Shelf.Small.Bits
import Derived.Sort.LotA
import Derived.Test.YticbaadnibdbkaaGreatNVM5
set_option linter.unusedVariables false
set_option linter.unusedSimpArgs false
set_option linter.defProp false
namespace Go.Proofs.YticbaadnibdbkaaGreat
open Go.RowKit
def aiV:=@List.getElem?_take_of_lt
def aeZ:=@Nat.le_of_eq
def DB:Kn:=aK (ae (kC cI) (ae (kC cI) (ae (kC (aX 0 0)) ao))) (aC (dG 177 (ax (Yc true) dC)) aw) fun (k,n,_,_) ((_,_),_)=>⟨[0<=n],[],some ([.box 177 ([.own 1]),.row 219 (.nm .field) ((pY k n))]),false⟩
theorem SD:CK 223 DB:=ag fun (k,n,_,_) ((_,_),_) hp=>by
 have h0:=cc hp;refine br nB [] Tryz.func223 (?_:I64 k->I64 n->(¬n=0->0<=n/\[Field.mk k 0 (U64.mk n.toNat) []].length*48<=140737488355328/\[Field.mk k 0 (U64.mk n.toNat) []]=pY k n)/\(n=0->pY k n=[]));(repeat' with_reducible first|apply aZ|refine aY ?_|intro)
 all_goals (first | exact bt | exact (zt ab) | exact (A_ ab) | exact (yy ab) | exact (zE aL) | exact (zt (xs:=[]) ab) | exact (A_ (xs:=[]) ab).symm | exact (yy (xs:=[]) ab) | exact (zE (xs:=[]) aL).symm | (simp only [List.length_cons,List.length_nil]; omega) | decide)
def DW:Kn:=aK (ae (kC cI) (ae (kC cI) (ae (kC (aX 0 0)) ao))) (aC (dG 177 (ax (eV 1) dC)) (aC (eW 219 (.nm .field)) aw)) fun (k,n,_,_) ((_,_),xs,_)=>⟨[0<=n,xs.length<=1000],[],some ([.box 177 ([.own 1]),.row 219 (.nm .field) ((xs++pY k n))]),false⟩
theorem Qk:CK 223 DW:=ag fun (k,n,_,_) ((_,_),xs,_) hp=>by
 have h0:=cc hp;have h1:=cc (eT hp);refine br nB [] Tryz.func223 (?_:I64 k->I64 n->(¬n=0->0<=n/\(xs.length+[Field.mk k 0 (U64.mk n.toNat) []].length)*48<=140737488355328/\xs++[Field.mk k 0 (U64.mk n.toNat) []]=xs++pY k n)/\(n=0->xs=xs++pY k n));(repeat' with_reducible first|apply aZ|refine aY ?_|intro)
 all_goals (first | exact bt | exact (zt ab) | exact (A_ ab) | exact (yy ab) | exact (zE aL) | exact (zt (xs:=[]) ab) | exact (A_ (xs:=[]) ab).symm | exact (yy (xs:=[]) ab) | exact (zE (xs:=[]) aL).symm | (simp only [List.length_cons,List.length_nil]; omega) | decide)
def EH:Kn:=aK (ae (kC cI) (ae (kC (cL .u8)) (ae (kC (aX 0 0)) ao))) (aC (dG 177 (ax (Yc true) dC)) aw) fun (k,b,_,_) ((_,_),_)=>⟨[],[],some ([.box 177 ([.own 1]),.row 219 (.nm .field) ((BX k b))]),false⟩
theorem Ub:CK 224 EH:=ag fun (k,b,_,_) ((_,_),_) _=>by
 refine br nB [] Tryz.func224 (?_:I64 k->b.length*1<=140737488355328->(0<(↑b.length:Int)->[Field.mk k 2 (U64.mk 0) b].length*48<=140737488355328/\[Field.mk k 2 (U64.mk 0) b]=BX k b)/\((↑b.length:Int)<=0->BX k b=[]));(repeat' with_reducible first|apply aZ|refine aY ?_|intro)
 all_goals (first | exact bt | exact (zt ab) | exact (A_ ab) | exact (yy ab) | exact (zE aL) | exact (zt (xs:=[]) ab) | exact (A_ (xs:=[]) ab).symm | exact (yy (xs:=[]) ab) | exact (zE (xs:=[]) aL).symm | (simp only [List.length_cons,List.length_nil]; omega) | decide)
def F_:Kn:=aK (ae (kC cI) (ae (kC (cL .u8)) (ae (kC (aX 0 0)) ao))) (aC (dG 177 (ax (eV 1) dC)) (aC (eW 219 (.nm .field)) aw)) fun (k,b,_,_) ((_,_),xs,_)=>⟨[xs.length<=1000],[],some ([.box 177 ([.own 1]),.row 219 (.nm .field) ((xs++BX k b))]),false⟩
theorem QO:CK 224 F_:=ag fun (k,b,_,_) ((_,_),xs,_) hp=>by
 have h0:=cc hp;refine br nB [] Tryz.func224 (?_:I64 k->b.length*1<=140737488355328->(0<(↑b.length:Int)->(xs.length+[Field.mk k 2 (U64.mk 0) b].length)*48<=140737488355328/\xs++[Field.mk k 2 (U64.mk 0) b]=xs++BX k b)/\((↑b.length:Int)<=0->xs=xs++BX k b));(repeat' with_reducible first|apply aZ|refine aY ?_|intro)
 all_goals (first | exact bt | exact (zt ab) | exact (A_ ab) | exact (yy ab) | exact (zE aL) | exact (zt (xs:=[]) ab) | exact (A_ (xs:=[]) ab).symm | exact (yy (xs:=[]) ab) | exact (zE (xs:=[]) aL).symm | (simp only [List.length_cons,List.length_nil]; omega) | decide)
def VE:bN:=(aO 224 F_ (aO 224 EH (aO 223 DW (aO 223 DB abr))))
theorem zT:ay Tryz.prog (al tyT) VE:=(ah QO (ah Ub (ah Qk (ah SD nB))))
def uB:Kn:=aK (ae (kT (.nm .command)) (ae (kC cI) ao)) aw fun (c,v,_) _=>⟨[0<=c.kind,0<=c.client,0<=c.seq,0<=c.set,0<=c.id,0<=c.n],[.c (.own 0)],some ([.row 219 (.nm .field) ((dP c v))]),true⟩
theorem Im:CK 163 uB:=ag fun (c,v,_) _ hp=>by
 have h0:=cc hp;have h1:=cc (eT hp);have h2:=cc (eT (eT hp));have h3:=cc (eT (eT (eT hp)));have h4:=cc (eT (eT (eT (eT hp))));have h5:=cc (eT (eT (eT (eT (eT hp)))));refine dD zT [] Tryz.func163 (?_:(fun q6=>(fun q5=>(fun q4=>(fun q3=>(fun q2=>(fun q1=>(fun q0=>bB c (I64 v->q6<=c.kind/\q6<=c.client/\(pY 1 c.kind).length<=q4/\q6<=c.seq/\q5.length<=q4/\q6<=c.set/\q1.length<=q4/\q6<=c.id/\(q1++pY 4 c.set).length<=q4/\q6<=c.n/\q0.length<=q4/\((eI c.chunks).length*1<=140737488355328->I64 (fJ c.chunks)->(q0++q3).length<=q4/\(3<=v->(q0++q3++q2).length<=q4/\q0++q3++q2++BX 8 c.text.b=dP c v)/\(v<3->q0++q3++q2=dP c v)))) (q1++pY 4 c.set++pY 5 c.id)) (q5++pY 3 c.seq)) (BX 7 (eI c.chunks))) (pY 6 c.n)) (1000:Nat)) (pY 1 c.kind++pY 2 c.client)) (0:Int));(repeat' with_reducible first|apply aZ|refine aY ?_|intro)
 all_goals (first | exact bt | (rw [dP,if_pos aL]; rfl) | (rw [dP,if_neg aL]; rfl) | (have h1:=gF 1 c.kind; have h2:=gF 2 c.client; have h3:=gF 3 c.seq; have h4:=gF 4 c.set; have h5:=gF 5 c.id; have h6:=gF 6 c.n; have h7:=Ck 7 (eI c.chunks); (try simp only [List.length_append]); omega))
def VR:bN:=(aO 163 uB VE)
theorem oe:ay Tryz.prog (al tyT) VR:=(ah Im zT)
variable {b:List UInt8}
theorem adM (h:(aR b).e=0) (h2:(aj (b.drop (aR b).k)).2.2=0) (h3:¬ (aR b).wire=0) (h4:(aj (b.drop (aR b).k)).1<=16384) (h5:((b.length:Nat):Int) - (((aR b).k:Int)+((aj (b.drop (aR b).k)).2.1:Nat))<eU (aj (b.drop (aR b).k)).1):(0:Int)=((bf b).1:Nat)/\2=(bf b).2:=by
 rw [ng (by omega)] at h5;rw [agy h h2 h3 (by omega) (by omega)]; exact ⟨rfl,rfl⟩
theorem acu (h:(aR b).e=0) (h2:(aj (b.drop (aR b).k)).2.2=0) (h3:¬ (aR b).wire=0) (h4:(aj (b.drop (aR b).k)).1<=16384) (h5:eU (aj (b.drop (aR b).k)).1<=((b.length:Nat):Int) - (((aR b).k:Int)+((aj (b.drop (aR b).k)).2.1:Nat))):((aR b).k:Int)+((aj (b.drop (aR b).k)).2.1:Nat)+eU (aj (b.drop (aR b).k)).1=((bf b).1:Nat)/\0=(bf b).2:=by
 rw [ng (by omega)] at h5 ⊢;rw [agT h h2 h3 (by omega) (by omega)]; exact ⟨rfl,rfl⟩
def abq (l:List Field):List (Nat × LI):=[(6,{ σ:=Nat,F:=fun k=>([(5,one (.own 0)),(13,one (.fz (.nm .field) (l))),(14,one (.int (l).length)),(15,one (.int k))],[.row 5 .u8 ((((l.take k).map cz).flatten))]),J:=fun k=>k<=l.length,μ:=fun k=>l.length - k })]
def ad6 (q:Int) (v:Int):List (Nat × LI):=[(3,{ σ:=Nat,F:=fun k=>([(5,one (.int (((aS v).take k).foldl (fun t s=>max t s.num) 0))),(10,one (.fz (.nm .spec) (aS v))),(11,one (.int (aS v).length)),(12,one (.int k))],[]),J:=fun k=>k<=(aS v).length,μ:=fun k=>(aS v).length - k })]
def Fl:Kn:=aK (ae (kC (cL .u8)) ao) aw fun (b,_) _=>⟨[],[.c (.int ((((bf b).1:Nat)))),.c (.int (((bf b).2)))],none,false⟩
theorem RQ:CK 329 Fl:=ag fun (b,_) _ _=>by
 refine av oe [] Tryz.func329 (?_:(fun q7=>(fun q6=>(fun q5=>(fun q4=>(fun q3=>(fun q2=>(fun q1=>(fun q0=>(fun q8=>q6->I64 q5.num->I64 q5.wire->I64 q1->I64 q5.e->(¬q5.e=q3->q2/\q5.e=q4)/\(q5.e=q3->q3<=q1/\q1<=q7/\q6/\(q0.fst<(18446744073709551616:Nat)->I64 q0.snd.snd->(¬q0.snd.snd=q3->q2/\q0.snd.snd=q4)/\(q0.snd.snd=q3->(q5.wire=q3->q8=(↑(bf b).fst:Int)/\q3=q4)/\(¬q5.wire=q3->((↑(16384:Nat):Int)<(↑q0.fst:Int)->q2/\(4:Int)=q4)/\((↑q0.fst:Int)<=(↑(16384:Nat):Int)->I64 (q7 - q8)/\(q7 - q8<eU q0.fst->q2/\(2:Int)=q4)/\(eU q0.fst<=q7 - q8->I64 (q8+eU q0.fst)/\q8+eU q0.fst=(↑(bf b).fst:Int)/\q3=q4))))))) (q1+(↑q0.snd.fst:Int))) (aj (List.drop q5.k b))) (↑q5.k:Int)) (q3=(↑(bf b).fst:Int))) (0:Int)) (bf b).snd) (aR b)) (b.length*(1:Nat)<=(140737488355328:Nat))) (↑b.length:Int));(repeat' with_reducible first|apply aZ|refine aY ?_|intro)
 all_goals (first | exact bt | (rw [aip ab] <;> rfl) | (rw [aeP ab ab] <;> rfl) | (rw [agH ab ab ab] <;> rfl) | (rw [agC ab ab ab aL] <;> rfl) | exact (adM ab ab ab aL ab).1 | exact (adM ab ab ab aL ab).2 | exact (acu ab ab ab aL ab).1 | exact (acu ab ab ab aL ab).2 | (have h1:=qR b; have h2:=oy b (aR b).k; first | omega | (refine bT ?_ ?_ <;> omega)) | (have h1:=qR b; have h2:=oy b (aR b).k; have h3:=ng (m:=(aj (b.drop (aR b).k)).1) aL; first | omega | (refine bT ?_ ?_ <;> omega)))
def KI:Kn:=aK (ae (kC (cL (.nm .field))) ao) aw fun (l,_) _=>⟨[],[.c (.own 0),.c (.int ((cO l)))],some ([.row 5 .u8 ((mo l))]),true⟩
theorem aaC:CK 162 KI:=ag fun (l,_) _ _=>by
 refine dD oe (abq l) Tryz.func162 (?_:(fun (q0:Nat)=>l.length*48<=140737488355328->I64 (cO l)->(¬cO l=0->cO l=cO l/\mo l=[])/\(cO l=0->∃ (s0:Nat),(l=l/\(↑l.length:Int)=(↑q0:Int)/\0=(↑s0:Int)/\(List.map cz (List.take s0 l)).flatten=[])/\s0<=q0/\∀ (s:Nat),(fun (q1:List UInt8)=>s<=q0->((↑s:Int)<(↑q0:Int)->0<=(↑s:Int)/\(↑s:Int)<(↑l.length:Int)/\∀ (x:Field),l[s]? = some x->I64 x.num->I64 x.wire->x.n.n<18446744073709551616->x.b.length*1<=140737488355328->x.b.length<=16384/\(q1.length+(cz x).length)*1<=140737488355328/\I64 ((↑s:Int)+1)/\∃ (s':Nat),(l=l/\(↑q0:Int)=(↑q0:Int)/\(↑s:Int)+1=(↑s':Int)/\q1++cz x=(List.map cz (List.take s' l)).flatten)/\s' <= q0/\q0 - s' < q0 - s)/\((↑q0:Int)<=(↑s:Int)->0=cO l/\q1=mo l)) (List.map cz (List.take s l)).flatten)) l.length);iterate 3 ((all_goals (repeat' with_reducible first|apply aZ|refine aY ?_|intro)); (all_goals try (first | exact bt | exact rfl | exact (Yz ab).symm | exact (Eq.symm ab) | exact (GX ab) | exact (xb ab (abl ab)) | exact (RX ab aL) | (have h1:=MY (k:=‹Nat›) (show cO l=0 by with_reducible assumption); have h2:=rT (f:=‹Field›) (xb (show cO l=0 by with_reducible assumption) (abl ab)) ab; omega))); all_goals try first | refine ⟨‹Nat› + 1,?_⟩ | refine ⟨0,?_⟩)
def NM:Kn:=aK (ae (kC cI) (ae (kC cI) ao)) aw fun (q,v,_) _=>⟨[q=1],[.c (.int ((cS v)))],none,false⟩
theorem aaf:CK 161 NM:=ag fun (q,v,_) _ hp=>by
 have h0:=cc hp;refine av oe (ad6 q v) Tryz.func161 (?_:(fun (q1:Int)=>(fun (q0:List Spec)=>(fun (q2:Nat)=>I64 q->I64 v->q=1/\(q0.length*32<=140737488355328->∃ (s0:Nat),(q1=List.foldl (fun (t:Int) (s:Spec)=>max t s.num) q1 (List.take s0 q0)/\q0=q0/\(↑q0.length:Int)=(↑q2:Int)/\q1=(↑s0:Int))/\s0<=q2/\∀ (s:Nat),(fun (q3:Int)=>s<=q2->((↑s:Int)<(↑q2:Int)->q1<=(↑s:Int)/\(↑s:Int)<(↑q0.length:Int)/\∀ (x:Spec),q0[s]? = some x->mP x (I64 ((↑s:Int)+1)/\∃ (s':Nat),(max q3 x.num=List.foldl (fun (t:Int) (s:Spec)=>max t s.num) q1 (List.take s' q0)/\q0=q0/\(↑q2:Int)=(↑q2:Int)/\(↑s:Int)+1=(↑s':Int))/\s' <= q2/\q2 - s' < q2 - s))/\((↑q2:Int)<=(↑s:Int)->q3=cS v)) (List.foldl (fun (t:Int) (s:Spec)=>max t s.num) q1 (List.take s q0)))) q0.length) (aS v)) 0);iterate 3 ((all_goals (repeat' with_reducible first|apply aZ|refine aY ?_|intro)); (all_goals try (first | exact bt | exact rfl | exact (Kb ab) | (rw [cS,List.take_of_length_le aL]))); all_goals try first | refine ⟨‹Nat› + 1,?_⟩ | refine ⟨0,?_⟩)
def abJ:bN:=(aO 161 NM (aO 162 KI (aO 329 Fl VR)))
theorem qS:ay Tryz.prog (al tyT) abJ:=(ah aaf (ah aaC (ah RQ oe)))
structure Wq (p:Prop):Prop where
 h:p
def fD (l:List Field):Int->Option Int:=fun q=>if iI l q=0 then none else some ((iI l q:Nat):Int)
def yF (rest:List Field) (v:Int) (k:Nat):Prop:=∀ j y,j<k->rest[j]? = some y->¬ y.num<=cS v
variable {f:Field} {xs:List Field}
theorem Xt (h:(xs.length:Int)=0):true=gf xs f:=by
 unfold gf; rw [List.getElem?_eq_none (by omega)]
theorem aaK (h:¬ (xs.length:Int)=0):f_ (xs.getD ((xs.length:Int) - 1).toNat (au (.nm .field))) f=gf xs f:=by
 unfold gf;rw [show ((xs.length:Int) - 1).toNat=xs.length - 1 by omega,List.getD_eq_getElem?_getD,List.getElem?_eq_getElem (by omega)]; rfl
theorem GW (l:List Field) (q:Int):(fD l q).getD (au .int)=((iI l q:Nat):Int):=by
 unfold fD;by_cases h:iI l q=0
 ·rw [if_pos h,h]; rfl
 rw [if_neg h]; rfl
variable {l:List Field}
theorem aaR:(fun _=>none)=fD (l.take 0):=rfl
variable {k:Nat}
theorem ZT (h:l.length<=k):fD (l.take k)=fD l:=by rw [List.take_of_length_le h]
variable {x:Field}
theorem Si (hx:l[k]? = some x):(fun j=>if j=x.num then some ((fD (l.take k) x.num).getD (au .int)+1) else fD (l.take k) j)=fD (l.take (k+1)):=by
 funext j;have h:=LQ hx j;by_cases hj:j=x.num
 ·rw [if_pos hj] at h ⊢;rw [GW]; unfold fD; rw [h,if_neg (by omega)]; rfl
 rw [if_neg hj] at h ⊢;unfold fD; rw [h]
theorem gdX (hx:l[k]? = some x):x=l.getD k (au (.nm .field)):=by rw [List.getD_eq_getElem?_getD,hx]; rfl
theorem gdY (h:k<l.length):l[k]? = some (l.getD k (au (.nm .field))):=by
 rw [List.getD_eq_getElem?_getD,List.getElem?_eq_getElem h]; rfl
variable {ss:List Spec} {m:Nat}
theorem af8 {y:Spec} (h:Wq (Ma ss x ((iI l x.num:Nat):Int) m)) (hy:ss[m]? = some y) (hn:¬ y.num=x.num\/Nk x y ((fD l x.num).getD (au .int))=true):Wq (Ma ss x ((iI l x.num:Nat):Int) (m+1)):=
 ⟨Oj h.h hy fun e=>by rw [GW] at hn; exact hn.resolve_left (fun h=>h e)⟩
theorem agh (h:Wq (t_ l ss k)) (hk:k<l.length) (hi:Wq (Ma ss (l.getD k (au (.nm .field))) ((iI (l.take (k+1)) (l.getD k (au (.nm .field))).num:Nat):Int) m)) (hm:(ss.length:Int)<=(m:Int)):Wq (t_ l ss (k+1)):=
 ⟨Pa h.h (gdY hk) hi.h (by omega) rfl⟩
theorem ahJ (h:Wq (t_ l ss k)) (hk:l.length<=k):Wq (t_ l ss l.length):=⟨fun j x hj=>h.h j x (by omega)⟩
theorem ae3 {v:Int} {y:Spec} (hy:(aS v)[m]? = some y) (hn:y.need=true) (h0:(fD l y.num).getD (au .int)=0):¬ AI l v:=RZ hy ⟨hn,by rw [GW] at h0; exact h0⟩ rfl
theorem aiy {y:Spec} (h:Wq (Jj l ss m)) (hy:ss[m]? = some y) (hn:y.need=false\/¬ (fD l y.num).getD (au .int)=0):Wq (Jj l ss (m+1)):=
 ⟨Lx h.h hy fun ha=>by
  rw [GW] at hn;rcases hn with hn | hn
  ·rw [ha] at hn; cases hn
  omega⟩
theorem agU {v:Int} (hA:Wq (t_ l (aS v) l.length)) (hB:Wq (Jj l (aS v) k)) (hk:(aS v).length<=k):AI l v:=Tq hA.h (Nat.le_refl _) hB.h hk
variable {rest:List Field}
theorem acO {v:Int}:yF rest v 0:=fun j y h=>by omega
theorem ac2 {v:Int} (h:Wq (yF rest v k)) (hx:rest[k]? = some x) (hn:¬ x.num<=cS v):Wq (yF rest v (k+1)):=⟨Iz h.h hx hn⟩
theorem pb1 {c:Command} {v:Int} (h:cw v=false):dO c rest v=1:=aeL (by show (!(cw v))=true; rw [h]; rfl)
theorem pb2 {c:Command} {v:Int} (h:cw v=true) (h1:gq c v=false) (h2:¬ bF c v=0):dO c rest v=bF c v:=ahZ (by show (!(cw v))=false; rw [h]; rfl) h1 h2
theorem pb3 {c:Command} {v:Int} (h:cw v=true) (h1:gq c v=true\/bF c v=0) (hx:rest[k]? = some x) (hn:x.num<=cS v):dO c rest v=6:=ah5 (by show (!(cw v))=false; rw [h]; rfl) h1 hx hn
theorem pb0 {c:Command} {v:Int} (h:cw v=true) (h1:gq c v=true\/bF c v=0) (ht:Wq (yF rest v k)) (hk:rest.length<=k):dO c rest v=0:=ahI (by show (!(cw v))=false; rw [h]; rfl) h1 ht.h hk
def SY (q:Int) (v:Int) (l:List Field):List (Nat × LI):=[(9,{ σ:=Nat,F:=fun k=>([(7,one (.fz (.nm .spec) (aS v))),(9,one (.mq 0)),(28,one (.fz (.nm .field) (l))),(29,one (.int (l).length)),(30,one (.int k))],[.mapo .int (fD (l.take k))]),J:=fun k=>k<=l.length/\Wq (t_ l (aS v) k),μ:=fun k=>(l).length - k }),(13,{ σ:=Nat × Nat,F:=fun q=>([(7,one (.fz (.nm .spec) (aS v))),(9,one (.mq 0)),(11,one (.ptr 1 0)),(28,one (.fz (.nm .field) (l))),(29,one (.int (l).length)),(30,one (.int q.1)),(39,one (.fz (.nm .spec) (aS v))),(40,one (.int (aS v).length)),(41,one (.int q.2))],[.mapo .int (fD (l.take (q.1+1))),.box 219 (cellsOf (.nm .field) ((l.getD q.1 (au (.nm .field)))))]),J:=fun q=>q.1<l.length/\q.2<=(aS v).length/\Wq (t_ l (aS v) q.1)/\Wq (Ma (aS v) (l.getD q.1 (au (.nm .field))) ((iI (l.take (q.1+1)) (l.getD q.1 (au (.nm .field))).num:Nat):Int) q.2),μ:=fun q=>(aS v).length - q.2,R:=some fun q0 q=>q.1=q0.1 }),(20,{ σ:=Nat,F:=fun k=>([(9,one (.mq 0)),(62,one (.fz (.nm .spec) (aS v))),(63,one (.int (aS v).length)),(64,one (.int k))],[.mapo .int (fD l)]),J:=fun k=>k<=(aS v).length/\Wq (t_ l (aS v) l.length)/\Wq (Jj l (aS v) k),μ:=fun k=>(aS v).length - k })]
def ad7 (c:Command) (rest:List Field) (v:Int):List (Nat × LI):=[(9,{ σ:=Nat,F:=fun k=>([(1,one (.fz (.nm .field) (rest))),(2,one (.int (v))),(3,one (.ptr 0 0)),(9,one (.int (cS v))),(27,one (.fz (.nm .field) (rest))),(28,one (.int (rest).length)),(29,one (.int k))],[.box 35 (cellsOf (.nm .command) (c))]),J:=fun k=>k<=rest.length/\Wq (yF rest v k),μ:=fun k=>rest.length - k })]
noncomputable def FX:Kn:=aK (ae (kT (.nm .field)) (ae (kC (aX 0 0)) ao)) (aC (dG 177 (ax (eV 1) dC)) (aC (eW 219 (.nm .field)) aw)) fun (f,_,_) ((_,_),xs,_)=>⟨[xs.length<=20000],[.c (.bool (.atom ((gf xs f))))],none,false⟩
theorem TX:CK 328 FX:=ag fun (f,_,_) ((_,_),xs,_) hp=>by
 have h0:=cc hp;refine av qS [] Tryz.func328 (?_:(fun q2=>(fun q1=>(fun q0=>I64 f.num->I64 f.wire->f.n.n<18446744073709551616->f.b.length*1<=140737488355328->(q2=0->true=gf xs f)/\(¬q2=0->I64 q1/\(0<=q1/\q1<q2)/\(I64 q0.num->I64 q0.wire->q0.n.n<18446744073709551616->q0.b.length*1<=140737488355328->f_ q0 f=gf xs f))) (xs.getD q1.toNat (au (Sh.nm NT.field)))) (q2 - 1)) (↑xs.length:Int));(repeat' with_reducible first|apply aZ|refine aY ?_|intro)
 all_goals (first | exact bt | exact (Xt ab) | exact (aaK ab))
noncomputable def BD:Kn:=aK (ae (kC cI) (ae (kC cI) (ae (kC (cL (.nm .field))) ao))) aw fun (q,v,l,_) _=>⟨[q=1],[.c (.int ((gz l v)))],none,false⟩
theorem OG:CK 287 BD:=ag fun (q,v,l,_) _ hp=>by
 have h0:=cc hp;refine av qS (SY q v l) Tryz.func287 (?_:(fun (q5:Nat)=>(fun (q4:Int)=>(fun (q3:Int)=>(fun (q2:Nat)=>(fun (q6:Int)=>(fun (q1:den (Sh.nm NT.field))=>(fun (q0:List Spec)=>(fun (q9:Prop)=>(fun (q8:Int)=>(fun (q7:Nat)=>(fun (q10:Int)=>I64 q->I64 v->l.length*48<=140737488355328->q=q4/\(q0.length*32<=140737488355328->(q8=q3->q4=gz l v)/\(¬q8=q3->I64 (cO l)->(¬cO l=q3->cO l=gz l v)/\(cO l=q3->∃ (s0:Nat),(q9/\l=l/\(↑l.length:Int)=q6/\q3=(↑s0:Int)/\(fun (_:Int)=>none)=fD (List.take s0 l))/\(s0<=q2/\Wq (t_ l q0 s0))/\∀ (s:Nat),s<=q2/\Wq (t_ l q0 s)->((↑s:Int)<q6->q3<=(↑s:Int)/\(↑s:Int)<(↑l.length:Int)/\∀ (x:Field),(fun (q11:Int)=>l[s]? = some x->I64 x.num->I64 x.wire->x.n.n<18446744073709551616->x.b.length*q5<=140737488355328->I64 q11/\∃ (s0:Nat × Nat),(fun (q13:Nat)=>(fun (q12:Field)=>(q9/\l=l/\q6=q6/\(↑s:Int)=(↑q13:Int)/\q9/\q8=q10/\q3=(↑s0.snd:Int)/\(fun (j:Int)=>if j=x.num then some q11 else fD (List.take s l) j)=fD (List.take (q13+q5) l)/\x.num=q12.num/\x.wire=q12.wire/\x.n.n=q12.n.n/\x.b=q12.b)/\(q13<q2/\s0.snd<=q7/\Wq (t_ l q0 q13)/\Wq (Ma q0 q12 (↑(iI (List.take (q13+q5) l) q12.num):Int) s0.snd))/\q13=q13/\∀ (s_1:Nat × Nat),(fun (q16:Int)=>(fun (q15:List Field)=>(fun (q14:Field)=>s_1.fst<q2/\s_1.snd<=q7/\Wq (t_ l q0 s_1.fst)/\Wq (Ma q0 q14 (↑(iI q15 q14.num):Int) s_1.snd)->s_1.fst=q13->(q16<q10->q3<=q16/\q16<q8/\∀ (x:Spec),(fun (q17:Bool)=>q0[s_1.snd]? = some x->mP x ((x.num=q14.num/\q17=false->6=gz l v)/\(¬x.num=q14.num\/q17=true->I64 (q16+q4)/\∃ (s':Nat × Nat),(fun (q18:Field)=>(q9/\l=l/\q6=q6/\(↑s_1.fst:Int)=(↑s'.fst:Int)/\q9/\q10=q10/\q16+q4=(↑s'.snd:Int)/\fD q15=fD (List.take (s'.fst+q5) l)/\q14.num=q18.num/\q14.wire=q18.wire/\q14.n.n=q18.n.n/\q14.b=q18.b)/\(s'.fst<q2/\s'.snd<=q7/\Wq (t_ l q0 s'.fst)/\Wq (Ma q0 q18 (↑(iI (List.take (s'.fst+q5) l) q18.num):Int) s'.snd))/\s'.fst=q13/\q7 - s'.snd<q7 - s_1.snd) (l.getD s'.fst q1)))) (Nk q14 x ((fD q15 q14.num).getD (au Sh.int))))/\(q10<=q16->I64 ((↑s_1.fst:Int)+q4)/\∃ (s':Nat),(q9/\l=l/\q6=q6/\(↑s_1.fst:Int)+q4=(↑s':Int)/\fD q15=fD (List.take s' l))/\(s' <= q2/\Wq (t_ l q0 s'))/\q2 - s' < q2 - s)) (l.getD s_1.fst q1)) (List.take (s_1.fst+q5) l)) (↑s_1.snd:Int)) (l.getD q13 q1)) s0.fst) ((fD (List.take s l) x.num).getD (au Sh.int)+q4))/\(q6<=(↑s:Int)->∃ (s0:Nat),(q9/\q8=q10/\q3=(↑s0:Int)/\fD (List.take s l)=fD l)/\(s0<=q7/\Wq (t_ l q0 q2)/\Wq (Jj l q0 s0))/\∀ (s:Nat),s<=q7/\Wq (t_ l q0 q2)/\Wq (Jj l q0 s)->((↑s:Int)<q10->q3<=(↑s:Int)/\(↑s:Int)<q8/\∀ (x:Spec),(fun (q19:Prop)=>q0[s]? = some x->mP x ((x.need=true/\q19->6=gz l v)/\(x.need=false\/¬q19->I64 ((↑s:Int)+q4)/\∃ (s':Nat),(q9/\q10=q10/\(↑s:Int)+q4=(↑s':Int)/\fD l=fD l)/\(s' <= q7/\Wq (t_ l q0 q2)/\Wq (Jj l q0 s'))/\q7 - s' < q7 - s))) ((fD l x.num).getD (au Sh.int)=q3))/\(q10<=(↑s:Int)->q3=gz l v)))))) (↑q7:Int)) q0.length) (↑q0.length:Int)) (q0=q0)) (aS v)) (au (Sh.nm NT.field))) (↑q2:Int)) l.length) 0) 1) 1);(repeat' with_reducible first|apply aZ|refine aY ?_|intro)
 all_goals try (refine ⟨0,?_⟩; (repeat' with_reducible first|apply aZ|refine aY ?_|intro))
 all_goals try (refine ⟨(‹Nat›,0),?_⟩; (repeat' with_reducible first|apply aZ|refine aY ?_|intro))
 all_goals try (refine ⟨(‹Nat × Nat›.1,‹Nat × Nat›.2+1),?_⟩; (repeat' with_reducible first|apply aZ|refine aY ?_|intro))
 all_goals try (refine ⟨‹Nat × Nat›.1+1,?_⟩; (repeat' with_reducible first|apply aZ|refine aY ?_|intro))
 all_goals try (refine ⟨0,?_⟩; (repeat' with_reducible first|apply aZ|refine aY ?_|intro))
 all_goals try (refine ⟨‹Nat› + 1,?_⟩; (repeat' with_reducible first|apply aZ|refine aY ?_|intro))
 all_goals (first | exact bt | exact rfl | exact (afF aL) | exact (agm aL ab) | exact aaR | exact ⟨adk⟩ | exact ⟨abf⟩ | exact ⟨ab4⟩ | exact (Si ab) | exact (congrArg Field.num (gdX ab)) | exact (congrArg Field.wire (gdX ab)) | exact (congrArg (fun f=>f.n.n) (gdX ab)) | exact (congrArg Field.b (gdX ab)) | exact (ack aL ab (Um (gdY ab) ab (And.intro ab ab) (GW _ _))) | exact (af8 ab ab (by assumption)) | exact (agh ab ab ab ab) | exact (ahJ ab aL) | exact (ZT aL) | exact (ack aL ab (ae3 ab ab ab)) | exact (aiy ab ab (by assumption)) | exact (aeO aL ab (agU ab ab aL)) | (have h1:=Rv (l:=l) (k:=‹Nat›) ‹Field›.num; have h2:=GW (l.take ‹Nat›) ‹Field›.num; refine bT ?_ ?_ <;> omega))
noncomputable def PB:Kn:=aK (ae (kT (.nm .command)) (ae (kC (cL (.nm .field))) (ae (kC cI) ao))) aw fun (c,rest,v,_) _=>⟨[rest.length<=20000],[.c (.own 0),.c (.int ((fx c rest v)))],some ([.row 5 .u8 ((gp c rest v))]),true⟩
theorem aaW:CK 93 PB:=ag fun (c,rest,v,_) _ hp=>by
 have h0:=cc hp;refine dD qS (ad7 c rest v) Tryz.func93 (?_:(fun (q4:Int)=>(fun (q3:Prop)=>(fun (q2:Int)=>(fun (q1:Nat)=>(fun (q0:Prop)=>bB c (rest.length*48<=140737488355328->I64 v->(cw v=false->1=q4/\q3)/\(cw v=true->(gq c v=false->I64 (bF c v)->(¬bF c v=q2->bF c v=q4/\q3)/\(bF c v=q2->q0))/\(gq c v=true->q0)))) ((1:Int)=1/\(I64 (cS v)->∃ (s0:Nat),(rest=rest/\v=v/\cS v=cS v/\rest=rest/\(↑rest.length:Int)=(↑q1:Int)/\q2=(↑s0:Int)/\aP c c)/\(s0<=q1/\Wq (yF rest v s0))/\∀ (s:Nat),s<=q1/\Wq (yF rest v s)->((↑s:Int)<(↑q1:Int)->q2<=(↑s:Int)/\(↑s:Int)<(↑rest.length:Int)/\∀ (x:Field),rest[s]? = some x->I64 x.num->I64 x.wire->x.n.n<18446744073709551616->x.b.length*1<=140737488355328->(x.num<=cS v->6=q4/\q3)/\(cS v<x.num->I64 ((↑s:Int)+1)/\∃ (s':Nat),(rest=rest/\v=v/\cS v=cS v/\rest=rest/\(↑q1:Int)=(↑q1:Int)/\(↑s:Int)+1=(↑s':Int)/\aP c c)/\(s' <= q1/\Wq (yF rest v s'))/\q1 - s' < q1 - s))/\((↑q1:Int)<=(↑s:Int)->q2<=c.kind/\q2<=c.client/\q2<=c.seq/\q2<=c.set/\q2<=c.id/\q2<=c.n/\((dP c v).length+rest.length)*48<=140737488355328/\(I64 (cO (dP c v++rest))->cO (dP c v++rest)=q4/\mo (dP c v++rest)=gp c rest v))))) rest.length) 0) (gp c rest v=[])) (fx c rest v));iterate 3 ((all_goals (repeat' with_reducible first|apply aZ|refine aY ?_|intro)); (all_goals try (first | exact bt | exact rfl | exact ⟨acO⟩ | exact (ac2 ab ab aL) | exact (Cm (pb1 ab) (by decide)) | exact (Cs (pb1 ab) (by decide)).symm | exact (Cm (pb2 ab ab ab) ab) | exact (Cs (pb2 ab ab ab) ab).symm | exact (Cm (pb3 ab (by first | exact .inl ab | exact .inr ab) ab ab) (by decide)) | exact (Cs (pb3 ab (by first | exact .inl ab | exact .inr ab) ab ab) (by decide)).symm | exact (acs (pb0 ab (by first | exact .inl ab | exact .inr ab) ab aL)) | exact (acn (pb0 ab (by first | exact .inl ab | exact .inr ab) ab aL)) | (have h:0<=c.kind/\0<=c.client/\0<=c.seq/\0<=c.set/\0<=c.id/\0<=c.n:=(by first | exact ZL ab | exact XW ab); omega) | (have h:=Cu c v; omega))); all_goals try first | refine ⟨‹Nat› + 1,?_⟩ | refine ⟨0,?_⟩)
noncomputable def ada:bN:=(aO 93 PB (aO 287 BD (aO 328 FX abJ)))
theorem Fq:ay Tryz.prog (al tyT) ada:=(ah aaW (ah OG (ah TX qS)))
def Tl (b:List UInt8) (s:Nat × List Field):Nat × List Field:=(s.1+(bf (b.drop s.1)).1,s.2++[im ((b.drop s.1).take (((s.1:Int)+((bf (b.drop s.1)).1:Nat)).toNat - s.1))])
theorem Vt {s:Nat × List Field}:(Tl b s).2=s.2++[im ((b.drop s.1).take (bf (b.drop s.1)).1)]:=by
 unfold Tl; rw [show ((s.1:Int)+((bf (b.drop s.1)).1:Nat)).toNat - s.1=(bf (b.drop s.1)).1 by omega]
theorem tlB (h:16384<(b.length:Int)):bD b=([],4):=WY (by omega)
theorem tlS {s:Nat × List Field} (h:Wq (jv b s.1 s.2)) (hi:(s.1:Int)<(b.length:Int)) (hs:¬ (bf (b.drop s.1)).2=0):bD b=([],(bf (b.drop s.1)).2):=SS h.h (by omega) hs
theorem tlL {s:Nat × List Field} (h:Wq (jv b s.1 s.2)) (hi:(s.1:Int)<(b.length:Int)) (hs:(bf (b.drop s.1)).2=0) (hr:gf s.2 (im ((b.drop s.1).take (((s.1:Int)+((bf (b.drop s.1)).1:Nat)).toNat - s.1)))=false):bD b=([],5):=by
 rw [show ((s.1:Int)+((bf (b.drop s.1)).1:Nat)).toNat - s.1=(bf (b.drop s.1)).1 by omega] at hr;obtain ⟨f,_,e⟩:=Ol h.h (show s.1<b.length by omega);rw [e,if_pos hs,hr,if_neg (by decide)]
theorem tlN {s:Nat × List Field} (h:Wq (jv b s.1 s.2)) (hi:(s.1:Int)<(b.length:Int)) (hs:(bf (b.drop s.1)).2=0) (hr:gf s.2 (im ((b.drop s.1).take (((s.1:Int)+((bf (b.drop s.1)).1:Nat)).toNat - s.1)))=true):Wq (jv b (Tl b s).1 (Tl b s).2):=by
 rw [show ((s.1:Int)+((bf (b.drop s.1)).1:Nat)).toNat - s.1=(bf (b.drop s.1)).1 by omega] at hr;obtain ⟨f,hf,e⟩:=Ol h.h (show s.1<b.length by omega);have hp:=nz hs;rw [Vt];refine ⟨f,by show b.length - (s.1+(bf (b.drop s.1)).1)<=f; omega,?_⟩;rw [e,if_pos hs,hr,if_pos rfl,afp]; rfl
theorem tlE {s:Nat × List Field} (h:Wq (jv b s.1 s.2)) (hi:(b.length:Int)<=(s.1:Int)):bD b=(s.2,0):=ZK h.h (by omega)
theorem nx1 {s:Nat × List Field} (hi:s.1<=b.length):(Tl b s).1<=b.length:=by
 have:=yH (b.drop s.1); rw [List.length_drop] at this; show s.1+_<=_; omega
theorem nx2 {s:Nat × List Field} (hl:s.2.length<=s.1) (hs:(bf (b.drop s.1)).2=0):(Tl b s).2.length<=(Tl b s).1:=by
 have hp:=nz hs;rw [Vt,List.length_append]; simp only [List.length_cons,List.length_nil]; show _<=s.1+_; omega
theorem nx3 {s:Nat × List Field} (hi:(s.1:Int)<(b.length:Int)) (hs:(bf (b.drop s.1)).2=0):b.length - (Tl b s).1<b.length - s.1:=by
 have hp:=nz hs; show b.length - (s.1+_)<_; omega
def aa2 (b:List UInt8):List (Nat × LI):=[(6,{ σ:=Nat × List Field,F:=fun s=>([(0,one (.fz .u8 (b))),(4,one (.ptr 0 0)),(5,one (.fn 328 [] [(0,0)])),(6,one (.int s.1))],[.box 177 ([.own 1]),.row 219 (.nm .field) ((s.2))]),J:=fun s=>Wq (jv b s.1 s.2)/\s.1<=b.length/\s.2.length<=s.1,μ:=fun s=>b.length - s.1 })]
noncomputable def D_:Kn:=aK (ae (kC (cL .u8)) ao) aw fun (b,_) _=>⟨[],[.c (.fz (.nm .field) (((bD b).1))),.c (.int (((bD b).2)))],none,false⟩
theorem Rf:CK 286 D_:=ag fun (b,_) _ _=>by
 refine av Fq (aa2 b) Tryz.func286 (?_:(fun (q2:Prop)=>(fun (q1:Int)=>(fun (q0:Int)=>b.length*1<=140737488355328->(16384<q0->q2/\4=(bD b).snd)/\(q0<=16384->∃ (s0:Nat × List Field),(b=b/\q1=(↑s0.fst:Int)/\s0.snd=[])/\(Wq (jv b s0.fst s0.snd)/\s0.fst<=b.length/\s0.snd.length<=s0.fst)/\∀ (s:Nat × List Field),(fun (q6:Int)=>(fun (q5:Nat × Int)=>(fun (q4:Int)=>(fun (q3:Field)=>Wq (jv b s.fst s.snd)/\s.fst<=b.length/\s.snd.length<=s.fst->(q6<q0->q1<=q6/\q6<=q0/\(I64 (↑q5.fst:Int)->I64 q5.snd->(¬q5.snd=q1->q2/\q5.snd=(bD b).snd)/\(q5.snd=q1->I64 q4/\q1<=q6/\q6<=q4/\q4<=q0/\(I64 q3.num->I64 q3.wire->q3.n.n<18446744073709551616->q3.b.length*1<=140737488355328->s.snd.length<=20000/\(gf s.snd q3=false->q2/\5=(bD b).snd)/\(gf s.snd q3=true->(s.snd.length+[q3].length)*48<=140737488355328/\I64 q4/\∃ (s':Nat × List Field),(b=b/\q4=(↑s'.fst:Int)/\s.snd++[q3]=s'.snd)/\(Wq (jv b s'.fst s'.snd)/\s'.fst<=b.length/\s'.snd.length<=s'.fst)/\b.length - s'.fst<b.length - s.fst)))))/\(q0<=q6->s.snd=(bD b).fst/\q1=(bD b).snd)) (im (List.take (q4.toNat - s.fst) (List.drop s.fst b)))) (q6+(↑q5.fst:Int))) (bf (List.drop s.fst b))) (↑s.fst:Int))) (↑b.length:Int)) 0) ((bD b).fst=[]));iterate 3 ((all_goals (repeat' with_reducible first|apply aZ|refine aY ?_|intro)); (all_goals try (first | exact bt | exact rfl | exact ⟨KZ aL⟩ | (rw [tlB ab] <;> rfl) | (rw [tlS ab ab ab] <;> rfl) | (rw [tlL ab ab ab ab] <;> rfl) | (rw [tlE ab ab] <;> rfl) | exact (tlN ab ab ab ab) | exact (nx1 ab) | exact (nx2 ab ab) | exact (nx3 ab ab) | (have h:=yH (b.drop ‹Nat × List Field›.1); rw [List.length_drop] at h; first | omega | (refine bT ?_ ?_ <;> omega)) | (simp only [List.length_cons,List.length_nil]; omega))); all_goals try first | refine ⟨Tl b ‹Nat × List Field›,?_⟩ | refine ⟨(0,[]),?_⟩)
noncomputable def adt:bN:=(aO 286 D_ ada)
theorem Gj:ay Tryz.prog (al tyT) adt:=(ah Rf Fq)
theorem tin {v:Int} (h:cw v=true):1<=v/\v<=3:=by
 unfold cw at h; simpa using h
theorem tqe {v:Int} (h1:(bD b).2=0) (h2:gz (bD b).1 v=0):mV b v=0:=by rw [mV,if_pos h1,h2]
theorem tq1 {v:Int} (h:cw v=false):cE b v=⟨cM,[],1⟩:=agA (fun h2=>by unfold cw at h; simp only [h2,decide_true,Bool.and_self] at h; cases h)
theorem tq2 {v:Int} (h:cw v=true) (h1:(bD b).2=0) (h2:¬ gz (bD b).1 v=0):cE b v=⟨cM,[],gz (bD b).1 v⟩:=by
 have e:mV b v=gz (bD b).1 v:=by rw [mV,if_pos h1]
 rw [ad8 (tin h) (by rw [e]; exact h2),e]
theorem tq3 {v:Int} (h:cw v=true) (h1:¬ (bD b).2=0):cE b v=⟨cM,[],(bD b).2⟩:=by
 have e:mV b v=(bD b).2:=by rw [mV,if_neg h1]
 rw [ad8 (tin h) (by rw [e]; exact h1),e]
theorem tq4 {v:Int} (h:cw v=true) (h1:(bD b).2=0) (h2:gz (bD b).1 v=0) (h3:¬ fx (cR (dQ (bD b).1 (cS v))) (ey (bD b).1 (cS v)) v=0\/decide (gp (cR (dQ (bD b).1 (cS v))) (ey (bD b).1 (cS v)) v=b)=false):cE b v=⟨cM,[],6⟩:=
 ah6 (tin h) (tqe h1 h2) (h3.imp_right fun h=>by simpa using h)
theorem tq5 {v:Int} (h:cw v=true) (h1:(bD b).2=0) (h2:gz (bD b).1 v=0) (h3:fx (cR (dQ (bD b).1 (cS v))) (ey (bD b).1 (cS v)) v=0) (h4:decide (gp (cR (dQ (bD b).1 (cS v))) (ey (bD b).1 (cS v)) v=b)=true):cE b v=⟨cR (dQ (bD b).1 (cS v)),ey (bD b).1 (cS v),0⟩:=
 afN (tin h) (tqe h1 h2) ⟨h3,of_decide_eq_true h4⟩
noncomputable def DY:Kn:=aK (ae (kC (cL .u8)) (ae (kC cI) ao)) aw fun (b,v,_) _=>⟨[],[.agg (cellsOf (.nm .command) ((cE b v).c)),.c (.fz (.nm .field) (((cE b v).r))),.c (.int (((cE b v).e)))],none,false⟩
theorem SF:CK 275 DY:=ag fun (b,v,_) _ _=>by
 refine av Gj [] Tryz.func275 (?_:(fun q6=>(fun q5=>(fun q4=>(fun q3=>(fun q8=>(fun q7=>(fun q2=>(fun q1=>(fun q14=>(fun q13=>(fun q12=>(fun q11=>(fun q10=>(fun q9=>(fun q0=>b.length*1<=140737488355328->I64 v->(cw v=false->q12/\q11/\q13/\q14/\q2=q1.id/\q2=q1.n/\q10/\q9/\q4.r=[]/\1=q4.e)/\(cw v=true->q3.length*48<=140737488355328->I64 q6->(q6=q2->(1:Int)=1/\(I64 (gz q3 v)->(¬gz q3 v=q2->q12/\q11/\q13/\q14/\q2=q1.id/\q2=q1.n/\q10/\q9/\q4.r=[]/\gz q3 v=q4.e)/\(gz q3 v=q2->q0)))/\(¬q6=q2->(¬q6=q2->q12/\q11/\q13/\q14/\q2=q1.id/\q2=q1.n/\q10/\q9/\q4.r=[]/\q6=q4.e)/\(q6=q2->q0)))) ((1:Int)=1/\(I64 q5->(dQ q3 q5).length*48<=140737488355328->q8.length*48<=140737488355328->(∀ (f:Field),List.Mem f (dQ q3 q5)->f.b.length<=16384)/\bB q7 (q8.length<=20000/\(I64 (fx q7 q8 v)->(¬fx q7 q8 v=q2\/decide (gp q7 q8 v=b)=false->q12/\q11/\q13/\q14/\q2=q1.id/\q2=q1.n/\q10/\q9/\q4.r=[]/\6=q4.e)/\(fx q7 q8 v=q2/\decide (gp q7 q8 v=b)=true->bm q7 q1 (q8=q4.r/\q2=q4.e))))))) (Str.mk []=q1.text)) (q1.chunks=[])) (q2=q1.client)) (q2=q1.kind)) (q2=q1.seq)) (q2=q1.set)) q4.c) (0:Int)) (cR (dQ q3 q5))) (ey q3 q5)) (bD b).fst) (cE b v)) (cS v)) (bD b).snd);(repeat' with_reducible first|apply aZ|refine aY ?_|intro)
 all_goals (first | exact bt | (rw [tq1 ab] <;> rfl) | (rw [tq2 ab ab ab] <;> rfl) | (rw [tq3 ab ab] <;> rfl) | (rw [tq4 ab ab ab (by assumption)] <;> rfl) | (rw [tq5 ab ab ab ab ab] <;> rfl) | exact (XS (tqe ab ab) _ (by assumption)) | (have h1:=FZ (bD b).1 (cS v); have h2:=Se b; omega))
noncomputable def acM:bN:=(aO 275 DY adt)
theorem TQ:ay Tryz.prog (al tyT) acM:=(ah SF Gj)
noncomputable def adW:bN:=acM
theorem RW:ay Tryz.prog (al tyT) adW:=TQ
noncomputable def abC:bN:=adW
theorem SZ:ay Tryz.prog (al tyT) abC:=RW
attribute [local irreducible] dQ ey
noncomputable def ad5:bN:=abC
theorem Rs:ay Tryz.prog (al tyT) ad5:=SZ
noncomputable def acz:bN:=ad5
theorem TY:ay Tryz.prog (al tyT) acz:=Rs
noncomputable def abO:bN:=acz
theorem QJ:ay Tryz.prog (al tyT) abO:=TY
noncomputable def aca:bN:=abO
theorem Sz:ay Tryz.prog (al tyT) aca:=QJ
theorem agG {v:Int} (h:cj v 1 3=false):cE b v=⟨cM,[],1⟩:=tq1 h
noncomputable def acb:bN:=aca
theorem xU:ay Tryz.prog (al tyT) acb:=Sz
def ei (c:Command) (term v:Int):Entry × Int:=if bF c v=0 then (if fx c [] v=0 then (⟨term,gp c [] v⟩,0) else (⟨0,[]⟩,fx c [] v)) else (⟨0,[]⟩,bF c v)
structure RdM where
 c:Command
 some:Bool
 e:Int
noncomputable def a_ (x:Entry) (v:Int):RdM:=
 if x.b.length=0 then (if v<1\/3<v then ⟨cM,false,1⟩ else ⟨cM,false,0⟩)
 else if ¬ (cE x.b v).e=0 then ⟨cM,false,(cE x.b v).e⟩
 else if cr (cE x.b v).c.kind=0\/v<cr (cE x.b v).c.kind then ⟨cM,false,10⟩
 else ⟨(cE x.b v).c,true,0⟩
variable {term:Int}
theorem en1 {c:Command} {v:Int} (h:¬ bF c v=0):ei c term v=(⟨0,[]⟩,bF c v):=by unfold ei; rw [if_neg h]
theorem en2 {c:Command} {v:Int} (h:bF c v=0) (h2:¬ fx c [] v=0):ei c term v=(⟨0,[]⟩,fx c [] v):=by unfold ei; rw [if_pos h,if_neg h2]
theorem en3 {c:Command} {v:Int} (h:bF c v=0) (h2:fx c [] v=0):ei c term v=(⟨term,gp c [] v⟩,0):=by unfold ei; rw [if_pos h,if_pos h2]
section
variable {x:Entry} {v:Int}
theorem rdA (h:((x.b.length:Nat):Int)=0) (h2:v<1\/3<v):a_ x v=⟨cM,false,1⟩:=by unfold a_; rw [if_pos (by omega),if_pos h2]
theorem rdB (h:((x.b.length:Nat):Int)=0) (h1:1<=v) (h2:v<=3):a_ x v=⟨cM,false,0⟩:=by unfold a_; rw [if_pos (by omega),if_neg (by omega)]
theorem rdC (h:¬ ((x.b.length:Nat):Int)=0) (h2:¬ (cE x.b v).e=0):a_ x v=⟨cM,false,(cE x.b v).e⟩:=by unfold a_; rw [if_neg (by omega),if_pos h2]
theorem rdD (h:¬ ((x.b.length:Nat):Int)=0) (h2:(cE x.b v).e=0) (h3:cr (cE x.b v).c.kind=0\/v<cr (cE x.b v).c.kind):a_ x v=⟨cM,false,10⟩:=by unfold a_; rw [if_neg (by omega),if_neg (by rw [h2]; simp),if_pos h3]
theorem rdE (h:¬ ((x.b.length:Nat):Int)=0) (h2:(cE x.b v).e=0) (h3:¬ cr (cE x.b v).c.kind=0) (h4:cr (cE x.b v).c.kind<=v):a_ x v=⟨(cE x.b v).c,true,0⟩:=by unfold a_; rw [if_neg (by omega),if_neg (by rw [h2]; simp),if_neg (by omega)]
theorem rdF (h2:v<1\/3<v):a_ x v=⟨cM,false,1⟩:=by
 by_cases h:((x.b.length:Nat):Int)=0
 ·exact rdA h h2
 have e:cE x.b v=⟨cM,[],1⟩:=agG (by unfold cj; rcases h2 with h2 | h2 <;> simp <;> omega);rw [rdC h (by rw [e]; decide),e]
end
noncomputable def Ko:Kn:=aK (ae (kT (.nm .command)) (ae (kC cI) (ae (kC cI) ao))) aw fun (c,term,v,_) _=>⟨[],[.agg (cellsOf (.nm .entry) ((ei c term v).1)),.c (.int (((ei c term v).2)))],none,false⟩
theorem Xw:CK 54 Ko:=ag fun (c,term,v,_) _ _=>by
 refine av xU [] Tryz.func54 (?_:(fun (q2:Int)=>(fun (q1:Int)=>(fun (q0:Entry × Int)=>bB c (I64 term->I64 v->I64 (bF c v)->(¬bF c v=q1->q1=q0.fst.term/\q0.fst.b=[]/\bF c v=q0.snd)/\(bF c v=q1->(0:Nat)<=(20000:Nat)/\(I64 q2->(¬q2=q1->q1=q0.fst.term/\q0.fst.b=[]/\q2=q0.snd)/\(q2=q1->term=q0.fst.term/\gp c [] v=q0.fst.b/\q1=q0.snd))))) (ei c term v)) (0:Int)) (fx c [] v));(repeat' with_reducible first|apply aZ|refine aY ?_|intro)
 all_goals (first | exact bt | (rw [en1 ab] <;> rfl) | (rw [en2 ab ab] <;> rfl) | (rw [en3 ab ab] <;> rfl))
noncomputable def yz:Kn:=aK (ae (kT (.nm .entry)) (ae (kC cI) ao)) aw fun (x,v,_) _=>⟨[],[.agg (cellsOf (.nm .command) ((a_ x v).c)),.c (.bool (.atom (((a_ x v).some)))),.c (.int (((a_ x v).e)))],none,false⟩
theorem Li:CK 259 yz:=ag fun (x,v,_) _ _=>by
 refine av xU [] Tryz.func259 (?_:(fun q3=>(fun q4=>(fun q2=>(fun q5=>(fun q1=>(fun q0=>(fun q11=>(fun q10=>(fun q9=>(fun q8=>(fun q7=>(fun q6=>I64 x.term->x.b.length*1<=140737488355328->I64 v->((↑x.b.length:Int)=q1->(v<1\/3<v->q9/\q8/\q10/\q11/\q1=q0.id/\q1=q0.n/\q7/\q6/\q4/\1=q3.e)/\(1<=v/\v<=3->q9/\q8/\q10/\q11/\q1=q0.id/\q1=q0.n/\q7/\q6/\q4/\q1=q3.e))/\(¬(↑x.b.length:Int)=q1->bB q2.c (q2.r.length*48<=140737488355328->I64 q2.e->(¬q2.e=q1->q9/\q8/\q10/\q11/\q1=q0.id/\q1=q0.n/\q7/\q6/\q4/\q2.e=q3.e)/\(q2.e=q1->I64 q5->(q5=q1\/v<q5->q9/\q8/\q10/\q11/\q1=q0.id/\q1=q0.n/\q7/\q6/\q4/\10=q3.e)/\(¬q5=q1/\q5<=v->bm q2.c q0 (true=q3.some/\q1=q3.e)))))) (Str.mk []=q0.text)) (q0.chunks=[])) (q1=q0.client)) (q1=q0.kind)) (q1=q0.seq)) (q1=q0.set)) q3.c) (0:Int)) (cr q2.c.kind)) (cE x.b v)) (false=q3.some)) (a_ x v));(repeat' with_reducible first|apply aZ|refine aY ?_|intro)
 all_goals (first | exact bt | (rw [rdF (by assumption)] <;> rfl) | (rw [rdB ab ab ab] <;> rfl) | (rw [rdC ab ab] <;> rfl) | (rw [rdD ab ab (by assumption)] <;> rfl) | (rw [rdE ab ab ab ab] <;> rfl))
noncomputable def acR:bN:=(aO 259 yz (aO 54 Ko acb))
theorem EX:ay Tryz.prog (al tyT) acR:=(ah Li (ah Xw xU))
noncomputable def ir (v:Int) (s:State) (x:Entry):State:=if (a_ x v).some=true then (qN s (a_ x v).c).1 else s
noncomputable def mJ (v:Int) (s:State) (x:Entry):Reply:=if (a_ x v).some=true then (qN s (a_ x v).c).2 else ⟨0,0⟩
noncomputable def pS (v:Int) (s:State) (l:List Entry):State:=l.foldl (ir v) s
noncomputable def pR (v:Int):State->List Entry->List Reply
 | _,[]=>[]
 | s,x :: l=>mJ v s x :: pR v (ir v s x) l
noncomputable def pN (v:Int):List Entry->Nat
 | []=>0
 | x :: l=>if (a_ x v).e=0 then pN v l+1 else 0
noncomputable def pE (v:Int):List Entry->Int
 | []=>0
 | x :: l=>if (a_ x v).e=0 then pE v l else (a_ x v).e
noncomputable def plS (v:Int) (s:State) (l:List Entry):State:=pS v s (l.take (pN v l))
noncomputable def plR (v:Int) (s:State) (l:List Entry):List Reply:=pR v s (l.take (pN v l))
section
variable {v:Int} {s:State} {l:List Entry} {x:Entry} {k:Nat}
theorem UM (hx:l[k]? = some x):ir v (pS v s (l.take k)) x=pS v s (l.take (k+1)):=by
 rw [ai hx]; unfold pS; rw [List.foldl_append]; rfl
theorem Ef:∀ {l:List Entry} {s:State},pR v s (l++[x])=pR v s l++[mJ v (pS v s l) x]
 | [],_=>rfl
 | y :: l,s=>by
  show mJ v s y :: pR v (ir v s y) (l++[x])=mJ v s y :: (pR v (ir v s y) l++[mJ v (pS v (ir v s y) l) x]);rw [Ef]
theorem UT (hx:l[k]? = some x):pR v s (l.take k)++[mJ v (pS v s (l.take k)) x]=pR v s (l.take (k+1)):=by
 rw [ai hx,Ef]
theorem De:∀ {l:List Entry} {s:State},(pR v s l).length=l.length
 | [],_=>rfl
 | y :: l,s=>by
  show (pR v (ir v s y) l).length+1=l.length+1;rw [De]
def okPl (v:Int) (l:List Entry):Prop:=∀ x ∈ l,(a_ x v).e=0
theorem EF (h:okPl v (l.take k)) (hx:l[k]? = some x) (he:(a_ x v).e=0):okPl v (l.take (k+1)):=by
 rw [ai hx];intro y hy;rcases List.mem_append.1 hy with hy | hy
 ·exact h y hy
 rw [aa4.1 hy]; exact he
theorem NZ:∀ {l:List Entry},okPl v l->pN v l=l.length/\pE v l=0
 | [],_=>⟨rfl,rfl⟩
 | y :: l,h=>by
  obtain ⟨h1,h2⟩:=NZ (l:=l) fun z hz=>h z (aa5 _ hz);have h0:=h y aa_;unfold pN pE;rw [if_pos h0,if_pos h0,h1,h2]; exact ⟨rfl,rfl⟩
theorem En:∀ {l:List Entry} {k:Nat},okPl v (l.take k)->l[k]? = some x->¬ (a_ x v).e=0->pN v l=k/\pE v l=(a_ x v).e
 | [],k,_,hx,_=>by simp at hx
 | y :: l,0,_,hx,he=>by
  simp at hx; subst hx;unfold pN pE;rw [if_neg he,if_neg he]; exact ⟨rfl,rfl⟩
 | y :: l,k+1,h,hx,he=>by
  have h0:=h y (by simp);obtain ⟨h1,h2⟩:=En (l:=l) (k:=k) (fun z hz=>h z (by rw [agf]; exact aa5 _ hz)) (by simpa using hx) he;unfold pN pE;rw [if_pos h0,if_pos h0,h1,h2]; exact ⟨rfl,rfl⟩
theorem Rl (h:okPl v (l.take k)) (hx:l[k]? = some x) (he:¬ (a_ x v).e=0):pS v s (l.take k)=plS v s l/\pR v s (l.take k)=plR v s l/\(a_ x v).e=pE v l:=by
 obtain ⟨h1,h2⟩:=En h hx he;unfold plS plR; rw [h1,h2]; exact ⟨rfl,rfl,rfl⟩
theorem ZD (h:okPl v (l.take k)) (hk:l.length<=k):pS v s (l.take k)=plS v s l/\pR v s (l.take k)=plR v s l/\0=pE v l:=by
 rw [List.take_of_length_le hk] at h ⊢;obtain ⟨h1,h2⟩:=NZ h;unfold plS plR; rw [h1,h2,List.take_length]; exact ⟨rfl,rfl,rfl⟩
end
def oD:Code->Code
 | .seq x _=>x
 | c=>c
def fX:Code->Code
 | .seq _ y=>y
 | c=>c
def cdB:Code->Code
 | .block _ c=>c
 | .loop c=>c
 | c=>c
def agx:Code->Code
 | .rangeFunc _ _ a _=>a
 | c=>c
def afe:Code->Code
 | .rangeFunc _ _ _ b=>b
 | c=>c
def kj:Code->List Oper
 | .region _ ops _=>ops.toList
 | _=>[]
def Ve (f:Func):Code:=f.body.getD .skip
noncomputable def JA:Kn:=aK (ae (kC (cL (.nm .entry))) (ae (kC cI) ao)) aw fun (l,v,_) _=>⟨[],[.c (.fn 258 [] [(0,0),(1,0)])],some ([.box 38 ([.fz (.nm .entry) ((l))]),.box 3 ([.int ((v))])]),true⟩
theorem XX:CK 226 JA:=ag fun (l,v,_) _ _=>by
 refine dD EX [] Tryz.func226 (?_:l.length*32<=140737488355328->I64 v->l=l/\v=v);grind
noncomputable def fj:bN:=(aO 226 JA acR)
theorem qL:ay Tryz.prog (al tyT) fj:=(ah XX EX)
end Go.Proofs.YticbaadnibdbkaaGreat
namespace Go.Proofs.YticbaadnibdbkaaGreat
open Go.RowKit
open Go.MapKept (IsKey run_checkKey run_findKey run_setObj_map heap_set heap_alloc)
def QF (k:Int):List (Int × Value)->Bool
 | []=>false
 | p :: r=>decide (k=p.1) || QF k r
def Zv (w:World) (g:Nat) (L:List (Int × Value)):Prop:=
 ∃ a,w.heap[g]? = some (.map a L.length)/\a.toList.map (fun e=>(e.key,e.val))=L.map (fun p=>(Value.int .i64 p.1,p.2))
theorem uH {k:Int}:∀ {l:List MapEntry} {L:List (Int × Value)} {i:Nat},l.map (fun e=>(e.key,e.val))=L.map (fun p=>(Value.int .i64 p.1,p.2))->QF k L=false->Instr.findNow (.int .i64) (.int .i64 k) l i=some none
 | [],[],i,_,_=>rfl
 | [],p :: L,i,h,_=>by simp at h
 | e :: l,[],i,h,_=>by simp at h
 | e :: l,p :: L,i,h,hn=>by
  simp only [aeJ,List.cons.injEq,aiH] at h;obtain ⟨⟨hk,hv⟩,hr⟩:=h;simp only [QF,Bool.or_eq_false_iff,aey] at hn;have hb:(k == p.1)=false:=by simpa using hn.1
  simp [Instr.findNow,hk,Instr.sameNow,hb,uH (i:=i+1) hr hn.2]
section
variable {P:Program} {Q:Exit->Act->World->Prop} {n:Nat} {l rest:List Oper} {fr:Fr} {w:World} {x y z':Operand} {t ty kt et:TypeId} {pos:String} {af:Array Edge} {g:Nat} {L:List (Int × Value)} {k:Int}
theorem WO.insert {v:Value} (hx:ev fr x=some (.map (some g))) (hy:ev fr y=some (.int .i64 k)) (hv:ev fr z' = some v) (h:Zv w g L) (hn:QF k L=false) (hm:P.underlying t=some (.map kt et)) (hk:P.underlying kt=some (.int .i64))
  (kk:∀ w',Zv w' g (L++[(k,v)])->Kp [g] w w' -> WO P Q n l rest fr w') :
  WO P Q n l (⟨none,.insert t x y z',ty,pos,af,none⟩ :: rest) fr w:=by
 obtain ⟨a,hg,hl⟩:=h;have h1:=uH (k:=k) (i:=0) hl hn;have hik:IsKey (.int .i64) (.int .i64 k):=rfl;have hs:=heap_set (o':=.map (a.push { key:=.int .i64 k,val:=v,born:=L.length }) (L.length+1)) hg;refine WO.s (w':={ w with heap:=w.heap.setIfInBounds g (.map (a.push { key:=.int .i64 k,val:=v,born:=L.length }) (L.length+1)) }) (fun a' _ _ _ _ ha=>?_) (kk _ ⟨_,by simpa using hs.1,by simp [hl]⟩ ⟨rfl,rfl,rfl,by simp,fun i hi hn=>hs.2 i (by simpa using hn)⟩);have e:(Instr.mapUpdate t (.map (some g)) (.int .i64 k) v).run P w = .ok () { w with heap:=w.heap.setIfInBounds g (.map (a.push { key:=.int .i64 k,val:=v,born:=L.length }) (L.length+1)) }:=by
  unfold Instr.mapUpdate;simp only [Sem.run_bind,run_underlying hm,Result.andThen];simp only [Sem.run_bind,MapKept.run_getObj_map hg,Result.andThen,show (10000:Nat)=9999+1 from rfl,run_checkKey hk hik,run_findKey hk h1,run_setObj_map _ hg]
 simp [execOp,ha.ev hx,ha.ev hy,ha.ev hv,e]
end
def bL:List (Int × List KC):=[(1,[.i 1,.i 3,.b false,.i 0,.i 0,.f 214]),(2,[.i 0,.i 1048576,.b true,.i 5,.i 0,.f 215]),(3,[.i 1,.i 64,.b true,.i 1048576,.i 200,.f 216]),(4,[.i 1,.i 64,.b false,.i 0,.i 0,.f 217])]
def Yt:List (Int × Value):=bL.map fun p=>(p.1,.agg (p.2.map KC.val).toArray)
theorem tT {k:Int}:∀ {a:List MapEntry} {l:List (Int × List KC)},a.map (fun e=>(e.key,e.val))=(l.map fun p=>(p.1,Value.agg (p.2.map KC.val).toArray)).map (fun p=>(Value.int .i64 p.1,p.2))->getM k a=(dM l k).map fun cs=>.agg (cs.map KC.val).toArray
 | [],[],_=>rfl
 | [],p :: L,h=>by simp at h
 | e :: l,[],h=>by simp at h
 | e :: l,p :: L,h=>by
  simp only [aeJ,List.cons.injEq,aiH] at h;obtain ⟨⟨hk,hv⟩,hr⟩:=h;simp only [getM,dM,hk,oZ];by_cases h:k=p.1
  ·subst h; simp [hv]
  rw [if_neg (by simpa using fun e=>h e.symm),if_neg h]; exact tT hr
set_option maxRecDepth 100000 in
theorem IY {w:World}:jU Tryz.prog 148 #[] w fun r w'=>r = .map (some w.heap.size)/\Kp [] w w' /\ Zv w' w.heap.size Yt:=by
 refine jU.enter (args:=[]) Tryz.func148 rfl Tryz.ntmps148 rfl rfl ?_;refine WC.seq (WC.region (WO.v (R.assign rfl) rfl (WO.nil (WX.next ?_))));have hu:=Tryz.underlying202;have hk:=Tryz.underlying3;refine WC.seq (WC.region (WO.v R.tj rfl ?_));refine WO.v (R.pb (cells:=(((bL.getD 0 (0,[])).2).map KC.val).toArray) rfl bG) rfl (WO.insert (L:=[]) rfl rfl rfl ⟨#[],agd w _,rfl⟩ rfl hu hk fun w1 m1 k1=>?_);refine WO.v (R.pb (cells:=(((bL.getD 1 (0,[])).2).map KC.val).toArray) rfl bG) rfl (WO.insert rfl rfl rfl m1 rfl hu hk fun w2 m2 k2=>?_);refine WO.v (R.pb (cells:=(((bL.getD 2 (0,[])).2).map KC.val).toArray) rfl bG) rfl (WO.insert rfl rfl rfl m2 rfl hu hk fun w3 m3 k3=>?_);refine WO.v (R.pb (cells:=(((bL.getD 3 (0,[])).2).map KC.val).toArray) rfl bG) rfl (WO.insert rfl rfl rfl m3 rfl hu hk fun w4 m4 k4=>?_);refine WO.v (R.move rfl) rfl (WO.v (R.assign rfl) rfl (WO.nil (WX.next ?_)));have hkp:∀ {wa wb:World},Kp [] w wa->Kp [w.heap.size] wa wb->Kp [] w wb:=fun h k=>⟨k.os.trans h.os,k.tape.trans h.tape,k.output.trans h.output,Nat.le_trans h.size k.size,fun b hb _=>(k.block b (aa9 hb h.size) (by simp; omega)).trans (h.block b hb (by simp))⟩;exact WC.ret (WX.z_ Tryz.results148 rfl ⟨rfl,hkp (hkp (hkp (hkp (Kp.alloc w _) k1) k2) k3) k4,m4⟩)
theorem GQ:Sat Tryz.prog (al tyT) 148 [] [] ⟨[],[.c (.xx (.km bL) [])],none,false⟩:=by
 refine ⟨⟨_,Tryz.func148,by decide,by kernel_rfl⟩,fun G ρ w vs hG hR hvs=>?_⟩;cases hvs;refine IY.mono fun r w' ⟨hr,hk,a,hm,hl⟩=>⟨[r],rfl,hk,.cons ?_ .nil⟩;subst hr;have hlt:=(aeB.1 hm).1;refine ⟨[],.nil,rfl,w.heap.size,a,_,rfl,⟨hlt,fun ⟨i,r,e1,e2⟩=>by have:=(hR.bnd i r _ e1 e2).2.1; omega,fun hz=>by have:=hR.z _ hz; omega⟩,hm,fun e he=>?_,fun k=>tT hl⟩;have:(e.key,e.val) ∈ a.toList.map (fun e=>(e.key,e.val)):=List.mem_map.2 ⟨e,he,rfl⟩;rw [hl] at this;obtain ⟨p,_,hp⟩:=List.mem_map.1 this;exact ⟨p.1,(congrArg Prod.fst hp).symm⟩
end Go.Proofs.YticbaadnibdbkaaGreat
namespace Go.Proofs.YticbaadnibdbkaaGreat
open Go.RowKit
def Nu (q:Nat × Nat) (x:UInt8):Nat × Nat:=((q.1+x.toNat) % 65521,(q.2+(q.1+x.toNat) % 65521) % 65521)
def iG (q:Nat × Nat) (l:List UInt8):Nat × Nat:=l.foldl Nu q
def dT (s:Nat) (l:List UInt8):Nat:=65536*(iG (s % 65536 % 65521,s / 65536 % 65521) l).2+(iG (s % 65536 % 65521,s / 65536 % 65521) l).1
theorem Qz {q:Nat × Nat} (h1:q.1<65521) (h2:q.2<65521):∀ l:List UInt8,(iG q l).1<65521/\(iG q l).2<65521:=fun l=>by
 induction l generalizing q with
 | nil=>exact ⟨h1,h2⟩
 | cons x l ih=>exact ih (q:=Nu q x) (Nat.mod_lt _ (by decide)) (Nat.mod_lt _ (by decide))
theorem qX {s:Nat} (l:List UInt8):(iG (s % 65536 % 65521,s / 65536 % 65521) l).1<65521/\(iG (s % 65536 % 65521,s / 65536 % 65521) l).2<65521:=Qz (Nat.mod_lt _ (by decide)) (Nat.mod_lt _ (by decide)) l
theorem NJ {s:Nat} (l:List UInt8):dT s l<4294967296:=by
 have:=qX (s:=s) l;unfold dT; omega
def Eo (l:List UInt8):Nat:=l.foldl (fun w x=>(w*256) % 4294967296 ||| x.toNat) 0
abbrev dS (b:List UInt8):Int:=Vw (((b.getD 0 (au .u8):UInt8).toNat:Int)*2 ^ 8) ((b.getD 1 (au .u8):UInt8).toNat:Int)
def bh (b:List UInt8):List UInt8 × Int × Int:=
 if b.length<2 then ([],0,2) else if dS b=0\/4096<dS b then ([],0,3) else if (b.length:Int)<2+dS b+4 then ([],0,2)
 else if dT 1 (b.take (2+dS b).toNat)=Eo ((b.drop (2+dS b).toNat).take 4) then ((b.drop 2).take ((2+dS b).toNat - 2),2+dS b+4,0) else ([],0,3)
def jk (x:List UInt8):List UInt8:=[UInt8.ofNat (x.length / 256),UInt8.ofNat x.length]++x
def xA (s:Nat):List UInt8:=[UInt8.ofNat (s / 2 ^ 24),UInt8.ofNat (s / 2 ^ 16),UInt8.ofNat (s / 2 ^ 8),UInt8.ofNat s]
def eD (x:List UInt8):List UInt8:=jk x++xA (dT 1 (jk x))
def pn (x:List UInt8):List UInt8 × Int:=if x.length=0\/4096<x.length then ([],4) else (eD x,0)
theorem Bc {a b:Nat} (hb:b<256):a*256 ||| b=a*256+b:=by
 have:=Nat.two_pow_add_eq_or_of_lt (i:=8) (b:=b) hb a;rw [Nat.mul_comm a 256]; exact this.symm
theorem ofNat_toNat (n:Nat):(UInt8.ofNat n).toNat=n % 256:=UInt8.toNat_ofNat'
theorem SC {s:Nat} (h:s<4294967296):Eo (xA s)=s:=by
 simp only [Eo,xA,List.foldl_cons,List.foldl_nil,ofNat_toNat];rw [show (0*256) % 4294967296=0*256 from rfl,Bc (a:=0) (Nat.mod_lt _ (by decide)),aiS,Nat.zero_add];have e1:s / 2 ^ 24 % 256=s / 16777216:=by omega
 rw [e1,Nat.mod_eq_of_lt (a:=s / 16777216*256) (by omega),Bc (Nat.mod_lt _ (by decide)),Nat.mod_eq_of_lt (a:=(s / 16777216*256+s / 2 ^ 16 % 256)*256) (by omega),Bc (Nat.mod_lt _ (by decide)),Nat.mod_eq_of_lt (a:=((s / 16777216*256+s / 2 ^ 16 % 256)*256+s / 2 ^ 8 % 256)*256) (by omega),Bc (Nat.mod_lt _ (by decide))];omega
variable {x r:List UInt8}
theorem An (h:x.length<=4096):dS (eD x++r)=x.length:=by
 have e:eD x++r=UInt8.ofNat (x.length / 256) :: UInt8.ofNat x.length :: (x++(xA (dT 1 (jk x))++r)):=by simp [eD,jk]
 have e1:((UInt8.ofNat (x.length / 256)).toNat:Int)*2 ^ 8=((x.length / 256*256:Nat):Int):=by rw [ofNat_toNat]; omega
 rw [e,dS,List.getD_cons_zero,List.getD_cons_succ,List.getD_cons_zero,e1,Vw,acA,acA,ofNat_toNat,Bc (Nat.mod_lt _ (by decide))];omega
theorem kg:(eD x).length=x.length+6:=by simp [eD,jk,xA]
theorem It (h0:x≠[]) (h:x.length<=4096):bh (eD x++r)=(x,(x.length:Int)+6,0):=by
 have h1:0<x.length:=List.length_pos_iff.2 h0;have hl:(eD x++r).length=x.length+6+r.length:=by rw [List.length_append,kg]
 have e2:(2+(x.length:Int)).toNat=(jk x).length:=by simp [jk]; omega
 have e3:eD x++r=jk x++(xA (dT 1 (jk x))++r):=by simp [eD]
 unfold bh;rw [An h,if_neg (by omega),if_neg (by omega),if_neg (by omega),e2,e3,List.take_left,List.drop_left,show List.take 4 (xA (dT 1 (jk x))++r)=xA (dT 1 (jk x)) from List.take_left' rfl,SC (NJ _),if_pos rfl];refine Prod.ext ?_ (Prod.ext (by dsimp only; omega) rfl);simp [jk]
variable {k:Nat}
theorem yv (h:x.length<=4096) (hk:k<x.length+6):(bh ((eD x).take k)).2.2≠0:=by
 by_cases h2:k<2
 ·unfold bh; rw [if_pos (by rw [List.length_take]; omega)]; decide
 have e:dS ((eD x).take k)=x.length:=by
  have:=An (r:=[]) h;rw [acq] at this;rw [<- this,dS,dS,List.getD_eq_getElem?_getD,List.getD_eq_getElem?_getD,List.getD_eq_getElem?_getD,List.getD_eq_getElem?_getD,aiV (by omega),aiV (by omega)]
 have hl:((eD x).take k).length=k:=by rw [List.length_take,kg]; omega
 unfold bh;rw [if_neg (by omega),e,hl];split
 ·decide
 rw [if_pos (by omega)]; decide
theorem UD (b:List UInt8):0<=dS b:=Int.natCast_nonneg _
abbrev kz:List KC:=[.i 0,.i 0,.b false,.i 0,.i 0,.nf]
def VU (k:Int):List KC:=(dM bL k).getD kz
def recOk (r:Record):Bool:=(dM bL r.kind).isSome && decide (((VU r.kind).getD 0 .nf).int<=r.a) && decide (r.a<=((VU r.kind).getD 1 .nf).int) && decide (0<=r.b) && decide (r.b<=((VU r.kind).getD 3 .nf).int) && decide ((r.x.length:Int)<=((VU r.kind).getD 4 .nf).int)
def uv (k:Int):Bool:=((VU k).getD 2 .nf).bool
def dB (r:Record):List UInt8:=([UInt8.ofNat r.kind.toNat]++cT r.a.toNat)++(if uv r.kind=true then cT r.b.toNat else [])++r.x
def aI (r:Record):List UInt8 × Int:=if recOk r=true then (dB r,0) else ([],1)
abbrev ub:Record:=⟨0,0,0,[]⟩
def bE (b:List UInt8):Record × Bool:=
 if b.length=0 then (ub,false) else if (aj (b.drop 1)).2.2≠0 then (ub,false)
 else if uv ((b.getD 0 (au .u8):UInt8).toNat:Int)=true then
  if (aj ((b.drop 1).drop (aj (b.drop 1)).2.1)).2.2≠0 then (ub,false)
  else (⟨((b.getD 0 (au .u8):UInt8).toNat:Int),eU (aj (b.drop 1)).1,eU (aj ((b.drop 1).drop (aj (b.drop 1)).2.1)).1,((b.drop 1).drop (aj (b.drop 1)).2.1).drop (aj ((b.drop 1).drop (aj (b.drop 1)).2.1)).2.1⟩,true)
 else (⟨((b.getD 0 (au .u8):UInt8).toNat:Int),eU (aj (b.drop 1)).1,0,(b.drop 1).drop (aj (b.drop 1)).2.1⟩,true)
def bV (b:List UInt8):Record × Int:=if (bE b).2=false then (ub,3) else if (aI (bE b).1).2≠0\/(aI (bE b).1).1≠b then (ub,3) else ((bE b).1,0)
def dK (s:Stable) (r:Record):Option Stable:=if r.a<s.floor then none else some { s with floor:=r.a }
def fo (s:Stable) (r:Record):Option Stable:=if r.a<s.term\/(r.a=s.term/\¬ s.vote=0)/\¬ s.vote=r.b then none else some { s with term:=r.a,vote:=r.b }
def dx (s:Stable) (r:Record):Option Stable:=if ¬ r.a=(s.log.length:Int)+1 then none else some { s with log:=s.log++[⟨r.b,r.x⟩] }
def fL (s:Stable) (r:Record):Option Stable:=if (s.log.length:Int)<r.a then none else some { s with log:=s.log.take (r.a - 1).toNat }
def eM (s:Stable) (r:Record):Option Stable:=if r.kind=1 then dK s r else if r.kind=2 then fo s r else if r.kind=3 then dx s r else fL s r
def aM (s:Stable) (r:Record):Stable × Int:=if recOk r=false then (s,1) else match eM s r with
 | some t=>(t,0)
 | none=>(s,5)
def playB:Nat->Stable->List UInt8->Stable × Int
 | 0,s,_=>(s,0)
 | n+1,s,b=>if (bh b).2.2≠0 then (s,0) else if (bV (bh b).1).2≠0 then (s,0) else if (aM s (bV (bh b).1).1).2≠0 then (s,0)
  else ((playB n (aM s (bV (bh b).1).1).1 (b.drop (bh b).2.1.toNat)).1,(bh b).2.1+(playB n (aM s (bV (bh b).1).1).1 (b.drop (bh b).2.1.toNat)).2)
abbrev sta0:Stable:=⟨0,0,0,[]⟩
def replayF (b:List UInt8):Stable × Int:=playB (b.length+1) sta0 b
theorem Yv {k:Int} (h:(dM bL k).isSome=true):k=1\/k=2\/k=3\/k=4:=by
 simp only [bL,dM] at h;by_cases h1:k=1
 ·exact .inl h1
 by_cases h2:k=2
 ·exact .inr (.inl h2)
 by_cases h3:k=3
 ·exact .inr (.inr (.inl h3))
 by_cases h4:k=4
 ·exact .inr (.inr (.inr h4))
 simp [h1,h2,h3,h4] at h
variable {r:Record}
theorem bQ:recOk r=true↔(r.kind=1/\1<=r.a/\r.a<=3/\r.b=0/\r.x=[])\/(r.kind=2/\0<=r.a/\r.a<=1048576/\0<=r.b/\r.b<=5/\r.x=[])\/(r.kind=3/\1<=r.a/\r.a<=64/\0<=r.b/\r.b<=1048576/\r.x.length<=200)\/(r.kind=4/\1<=r.a/\r.a<=64/\r.b=0/\r.x=[]):=by
 have e:∀ l:List UInt8,((l.length:Int)<=0)↔l=[]:=fun l=>by
  rw [<- List.length_eq_zero_iff]; omega
 constructor
 ·intro h;simp only [recOk,Bool.and_eq_true,decide_eq_true_eq] at h;obtain ⟨⟨⟨⟨⟨h0,h1⟩,h2⟩,h3⟩,h4⟩,h5⟩:=h;rcases Yv h0 with hk | hk | hk | hk <;> rw [hk] at h1 h2 h4 h5 <;> simp [VU,bL,dM,KC.int] at h1 h2 h4 h5
  ·exact .inl ⟨hk,h1,h2,by omega,h5⟩
  ·exact .inr (.inl ⟨hk,h1,h2,h3,h4,h5⟩)
  ·exact .inr (.inr (.inl ⟨hk,h1,h2,h3,h4,by omega⟩))
  exact .inr (.inr (.inr ⟨hk,h1,h2,by omega,h5⟩))
 rintro (⟨hk,h⟩ | ⟨hk,h⟩ | ⟨hk,h⟩ | ⟨hk,h⟩) <;> simp only [recOk,VU,bL,dM,hk] <;> simp [KC.int] <;> simp_all <;> omega
theorem jr (h:recOk r=true):1<=(dB r).length/\(dB r).length<=221:=by
 have h1:=cV (n:=r.a.toNat) (by rcases bQ.1 h with h | h | h | h <;> omega);have h2:=cV (n:=r.b.toNat) (by rcases bQ.1 h with h | h | h | h <;> omega);have h3:r.x.length<=200:=by rcases bQ.1 h with h | h | h | h <;> first | omega | simp [h]
 simp only [dB,List.length_append,afo];split
 ·omega
 rw [List.length_nil]; omega
variable {n:Nat}
theorem sf (h:n<9223372036854775808):eU n=n:=by
 rw [eU,if_pos h]
theorem Hn (h:recOk r=true):bE (dB r)=(r,true):=by
 have hk:=bQ.1 h;have ha:0<=r.a/\r.a<=1048576:=by rcases hk with h | h | h | h <;> omega
 have hb:0<=r.b/\r.b<=1048576:=by rcases hk with h | h | h | h <;> omega
 have hk1:1<=r.kind/\r.kind<=4:=by rcases hk with h | h | h | h <;> omega
 have e0:dB r=UInt8.ofNat r.kind.toNat :: (cT r.a.toNat++((if uv r.kind=true then cT r.b.toNat else [])++r.x)):=by simp [dB]
 have e1:((UInt8.ofNat r.kind.toNat).toNat:Int)=r.kind:=by rw [ofNat_toNat]; omega
 have t1:=uK (n:=r.a.toNat) (by omega) ((if uv r.kind=true then cT r.b.toNat else [])++r.x);have w1:eU r.a.toNat=r.a:=by rw [sf (by omega)]; omega
 have w2:eU r.b.toNat=r.b:=by rw [sf (by omega)]; omega
 unfold bE;rw [e0,if_neg (by simp),List.drop_one,List.tail_cons,t1,List.getD_cons_zero,e1];dsimp only;rw [if_neg (by decide),w1,List.drop_left];by_cases h2:uv r.kind=true
 ·rw [if_pos h2,if_pos h2,uK (by omega)];dsimp only;rw [if_neg (by decide),w2,List.drop_left]
 rw [if_neg h2,if_neg h2,aid];have:r.b=0:=by
  rcases hk with h | h | h | h
  ·exact h.2.2.2.1
  ·exact absurd (by rw [h.1]; rfl) h2
  ·exact absurd (by rw [h.1]; rfl) h2
  exact h.2.2.2.1
 cases r; simp_all
theorem Np (h:recOk r=true):bV (dB r)=(r,0):=by
 unfold bV;rw [Hn h];simp [aI,h]
def jX (r:Record):List UInt8:=eD (dB r)
def encL (l:List Record):List UInt8:=l.flatMap jX
def stepsF:Stable->List Record->Stable × Int
 | s,[]=>(s,0)
 | s,r :: l=>if (aM s r).2=0 then stepsF (aM s r).1 l else (s,(aM s r).2)
theorem tM {s:Stable} (h:(aM s r).2=0):recOk r=true:=by
 unfold aM at h;split at h
 ·cases h
 rename_i h1; simpa using h1
variable {b:List UInt8}
theorem gZ (h:(bh b).2.2=0):7<=(bh b).2.1/\(bh b).2.1<=b.length:=by
 have h0:0<=dS b:=Int.natCast_nonneg _;revert h;unfold bh;split
 ·intro h; cases h
 split
 ·intro h; cases h
 split
 ·intro h; cases h
 split
 ·intro _; dsimp only; omega
 intro h; cases h
theorem mX:∀ {n m:Nat} {s:Stable} {b:List UInt8},b.length<n->b.length<m->playB n s b=playB m s b
 | 0,_,_,_,h,_=>absurd h (by omega)
 | _,0,_,_,_,h=>absurd h (by omega)
 | n+1,m+1,s,b,h1,h2=>by
  simp only [playB];by_cases h0:(bh b).2.2=0
  ·have hs:=gZ h0;have hl:(b.drop (bh b).2.1.toNat).length<b.length:=by rw [List.length_drop]; omega
   rw [mX (n:=n) (m:=m) (by omega) (by omega)]
  rw [if_pos h0,if_pos h0]
theorem kN (r:Record):(jX r).length=(dB r).length+6:=kg
theorem Dw {s:Stable} {t:List UInt8} (h:(aM s r).2=0):playB (n+1) s (jX r++t)=((playB n (aM s r).1 t).1,(jX r).length+(playB n (aM s r).1 t).2):=by
 have hr:=tM h;have hl:=jr hr;have ht:bh (jX r++t)=(dB r,((dB r).length:Int)+6,0):=It (by intro e; rw [e] at hl; simp at hl) (by omega);have ed:(jX r++t).drop (((dB r).length:Int)+6).toNat=t:=by
  rw [show (((dB r).length:Int)+6).toNat=(jX r).length by rw [kN]; omega];exact List.drop_left
 simp only [playB,ht,Np hr,h,ed,kN];simp
theorem mF {s:Stable} (h:(bh b).2.2≠0):playB n s b=(s,0):=by
 cases n
 ·rfl
 rw [playB,if_pos h]
theorem Ic:(bh []).2.2≠0:=by decide
theorem uY:∀ {l:List Record} {n k:Nat} {s:Stable},(stepsF s l).2=0->(encL l).length<n->∃ j,j<=l.length/\playB n s ((encL l).take k)=((stepsF s (l.take j)).1,((encL (l.take j)).length:Int))/\(stepsF s (l.take j)).2=0/\(encL (l.take j)).length<=k/\(∀ i,i<=l.length->(encL (l.take i)).length<=k->i<=j)
 | [],n,k,s,_,_=>⟨0,Nat.le_refl _,by simp only [encL,List.flatMap_nil,List.take_nil]; rw [mF Ic]; rfl,rfl,by simp [encL],fun i hi _=>hi⟩
 | r :: l,0,_,_,_,hn=>by omega
 | r :: l,n+1,k,s,h,hn=>by
  have hs:(aM s r).2=0:=by
   unfold stepsF at h;split at h
   ·assumption
   rename_i h1; exact absurd h h1
  have h':(stepsF (aM s r).1 l).2=0:=by
   unfold stepsF at h;rwa [if_pos hs] at h
  have hr:=tM hs;have hl:=jr hr;have ee:encL (r :: l)=jX r++encL l:=by simp [encL]
  rw [ee] at hn ⊢;rw [List.length_append] at hn;by_cases hk:k<(jX r).length
  ·refine ⟨0,Nat.zero_le _,?_,rfl,by simp [encL],fun i hi hk'=>?_⟩
   ·have e1:(jX r++encL l).take k=(jX r).take k:=aex (by omega);rw [e1,mF (b:=(jX r).take k) (yv (x:=dB r) (by omega) (by rw [kN] at hk; omega))];rfl
   cases i with
   | zero=>exact Nat.le_refl _
   | succ i=>
    rw [agf] at hk';simp only [encL,List.flatMap_cons,List.length_append] at hk';omega
  obtain ⟨j,h1,h2,h3,h4,h5⟩:=uY (l:=l) (n:=n) (k:=k - (jX r).length) h' (by have:=kN r; omega);have e1:(jX r++encL l).take k=jX r++(encL l).take (k - (jX r).length):=by
   rw [List.take_append,List.take_of_length_le (by omega)]
  refine ⟨j+1,by simp; omega,?_,?_,?_,fun i hi hk'=>?_⟩
  ·rw [e1,Dw hs,h2,agf,stepsF,if_pos hs];simp [encL]
  ·rw [agf,stepsF,if_pos hs]; exact h3
  ·rw [agf];simp only [encL,List.flatMap_cons,List.length_append];have:(encL (l.take j)).length=(List.flatMap jX (l.take j)).length:=rfl;omega
  cases i with
  | zero=>omega
  | succ i=>
   rw [agf] at hk';simp only [encL,List.flatMap_cons,List.length_append] at hk';have:=h5 i (by simpa using hi) (by simp only [encL]; omega);omega
theorem dq:∀ {l m:List Record} {s:Stable},(stepsF s l).2=0->stepsF s (l++m)=stepsF (stepsF s l).1 m
 | [],_,_,_=>rfl
 | r :: l,m,s,h=>by
  rw [List.cons_append,stepsF];simp only [stepsF] at h ⊢;split
  ·rename_i h1;rw [if_pos h1] at h;rw [dq h]
  rename_i h1;rw [if_neg h1] at h;exact absurd h h1
theorem rK (l m:List Record):encL (l++m)=encL l++encL m:=by simp [encL]
structure Dsk where
 b:List UInt8
 synced:Int
 down:Bool
 doomed:Bool
 keep:Int
deriving DecidableEq
def Dsk.OK (d:Dsk):Prop:=0<=d.synced/\d.synced<=d.b.length/\d.b.length<=65536
def Dsk.at_ (d:Dsk) (k:Int):Int:=d.synced+min (max k 0) (d.b.length - d.synced)
def Dsk.cD (d:Dsk) (k:Int):Dsk:=⟨d.b.take (d.at_ k).toNat,d.at_ k,true,false,0⟩
def Dsk.up (d:Dsk):Dsk:=⟨d.b,d.synced,false,false,0⟩
def Dsk.cut (d:Dsk) (n:Int):Dsk:=if d.down=true\/n<0\/(d.b.length:Int)<n then d else ⟨d.b.take n.toNat,n,d.down,d.doomed,d.keep⟩
def Dsk.ln (d:Dsk) (n:Int):Int:=if d.down=true then 30 else if n<0\/(d.b.length:Int)<n then 1 else 0
def Dsk.app (d:Dsk) (x:List UInt8):Dsk:=if d.down=true\/65536 - (d.b.length:Int)<x.length then d else ⟨d.b++x,d.synced,d.down,d.doomed,d.keep⟩
def Dsk.jW (d:Dsk) (x:List UInt8):Int:=if d.down=true then 30 else if 65536 - (d.b.length:Int)<x.length then 20 else 0
def Dsk.sync (d:Dsk):Dsk:=if d.down=true then d else if d.doomed=true then d.cD d.keep else ⟨d.b,d.b.length,d.down,d.doomed,d.keep⟩
def Dsk.fw (d:Dsk):Int:=if d.down=true\/d.doomed=true then 30 else 0
def saveF (d:Dsk) (s:Stable) (l:List Record):Dsk × Stable × Int:=
 if l.all recOk=false then (d,s,1) else if (stepsF s l).2≠0 then (d,s,(stepsF s l).2) else if l.length=0 then (d,s,0)
 else if d.jW (encL l)≠0 then (d,s,d.jW (encL l)) else if (d.app (encL l)).fw≠0 then ((d.app (encL l)).sync,s,(d.app (encL l)).fw)
 else ((d.app (encL l)).sync,(stepsF s l).1,0)
def ig (l:List Entry):Int:=(l.getD (l.length - 1) ⟨0,[]⟩).term
def cK (l:List Entry) (k:Int):Int:=if k=0 then 0 else if k<0\/(l.length:Int)<k then -1 else (l.getD (k - 1).toNat ⟨0,[]⟩).term
def jy (l:List Entry) (n t:Int):Bool:=decide (ig l<t) || decide (t=ig l) && decide ((l.length:Int)<=n)
def gO:List Entry->List Entry->Nat
 | x :: h,y :: a=>if x.term=y.term then gO h a+1 else 0
 | _,_=>0
def bd (l:List Entry) (k:Int) (m:List Entry):Int × List Entry:=
 if k<0\/(l.length:Int)<k then (0,[]) else if m.length<=gO (l.drop k.toNat) m then (0,[]) else if (l.drop k.toNat).length<=gO (l.drop k.toNat) m then (0,m.drop (gO (l.drop k.toNat) m)) else (k+gO (l.drop k.toNat) m+1,m.drop (gO (l.drop k.toNat) m))
def fI (l:List Entry) (k m:Int):List Entry:=if (k<0\/(l.length:Int)<k)\/m<1 then [] else (l.drop k.toNat).take (min m ((l.drop k.toNat).length:Int)).toNat
def gD (l:List Int):Int:=if l.length=0 then 0 else (l.mergeSort (fun a b=>decide (b<=a))).getD (l.length / 2) 0
theorem lK:∀ {h a:List Entry},gO h a<=h.length/\gO h a<=a.length
 | [],_=>⟨Nat.le_refl _,Nat.zero_le _⟩
 | _ :: _,[]=>⟨Nat.zero_le _,Nat.le_refl _⟩
 | x :: h,y :: a=>by
  have:=lK (h:=h) (a:=a);simp only [gO];split <;> simp <;> omega
theorem pc:∀ {h a:List Entry} {j:Nat} {x y:Entry},j<=gO h a->h[j]? = some x->a[j]? = some y->(x.term=y.term↔j+1<=gO h a)
 | [],_,_,_,_,_,h,_=>by simp at h
 | _ :: _,[],_,_,_,_,_,h=>by simp at h
 | u :: h,v :: a,0,x,y,_,hx,hy=>by
  simp at hx hy;subst hx; subst hy;simp only [gO];split
  ·rename_i e; exact ⟨fun _=>by omega,fun _=>e⟩
  rename_i e; exact ⟨fun k=>absurd k e,fun k=>by omega⟩
 | u :: h,v :: a,j+1,x,y,hj,hx,hy=>by
  simp only [ag1] at hx hy;simp only [gO] at hj ⊢;split at hj
  ·rename_i e;rw [if_pos e];rw [pc (by omega) hx hy]; omega
  omega
def dU (n m:Int) (b:Bool):Bool:=cj n 0 (if b=true then m else 0)
def nK (x:Letter):Bool:=(decide (x.kind=1) || decide (x.kind=2) || decide (x.kind=3) || decide (x.kind=4)) && cj x.frm 0 4 && cj x.to 0 4 && !decide (x.frm=x.to) && cj x.term 1 1048576 && cj x.bin 1 3 &&
 dU x.a 64 (decide (x.kind=1) || decide (x.kind=3) || decide (x.kind=4)) && dU x.b 1048576 (decide (x.kind=1) || decide (x.kind=3)) && dU x.c 64 (decide (x.kind=3)) && (!x.ok || decide (x.kind=2) || decide (x.kind=4)) && dU (x.l.length:Int) 4 (decide (x.kind=3))
def eN (y:Entry):Bool:=cj y.term 1 1048576 && decide ((y.b.length:Int)<=200)
def mayL (x:Letter):Int:=if nK x=true/\x.l.all eN=true then 0 else 1
def aA (s:Stable) (t:Int):List Record:=if t<=s.term then [] else [⟨2,t,0,[]⟩]
def aT (s:Stable) (me:Int):List Record × Int:=if me<0\/5<=me then ([],1) else if 1048576<=s.term then ([],4) else ([⟨2,s.term+1,me+1,[]⟩],0)
def GK (s:Stable) (x:Letter):Bool:=decide (s.term<x.term) || decide (s.vote=0) || decide (s.vote=x.frm+1)
def aH (s:Stable) (x:Letter):List Record × Bool × Int:=
 if ¬ mayL x=0\/¬ x.kind=1 then ([],false,1) else if (x.term<s.term\/GK s x=false)\/jy s.log x.a x.b=false then (aA s x.term,false,0)
 else if x.term=s.term/\s.vote=x.frm+1 then ([],true,0) else ([⟨2,x.term,x.frm+1,[]⟩],true,0)
def pO (l:List Bool):Bool:=decide ((l.length:Int).tdiv 2<(l.countP id:Nat))
abbrev cC:Letter:=⟨0,0,0,0,0,0,0,0,false,[]⟩
def ql (s:Stable) (r:Route):Letter:=⟨3,r.frm,r.to,s.term,r.next - 1,cK s.log (r.next - 1),r.commit,r.bin,false,fI s.log (r.next - 1) 4⟩
def gm (s:Stable) (r:Route):Letter × Int:=if r.next<1\/(s.log.length:Int)+1<r.next then (cC,1) else if ¬ mayL (ql s r)=0 then (cC,mayL (ql s r)) else (ql s r,0)
def fb:Int->List Entry->List Record
 | _,[]=>[]
 | n,y :: l=>⟨3,n,y.term,y.b⟩ :: fb (n+1) l
def iO (s:Stable) (x:Letter):List Record:=
 aA s x.term++(if (bd s.log x.a x.l).1=0 then [] else [⟨4,(bd s.log x.a x.l).1,0,[]⟩])++fb (x.a+x.l.length - (bd s.log x.a x.l).2.length+1) (bd s.log x.a x.l).2
def aB (s:Stable) (x:Letter):List Record × Bool × Int × Int:=
 if (¬ mayL x=0\/¬ x.kind=3)\/64<x.a+x.l.length then ([],false,0,1) else if x.term<s.term then ([],false,0,0)
 else if cK s.log x.a=x.b then (iO s x,true,x.a+x.l.length,0) else (aA s x.term,false,0,0)
def jq (n:Int) (x:Letter):Int:=if x.ok=true then x.a+1 else if 1<n then min (n - 1) (x.a+1) else 1
def mh (s:Stable) (l:List Int) (k:Int):Int:=if k<min (gD l) s.log.length/\cK s.log (min (gD l) s.log.length)=s.term then min (gD l) s.log.length else k
variable {x:Letter}
theorem fH (h:mayL x=0):0<=x.frm/\x.frm<=4/\0<=x.to/\x.to<=4/\1<=x.term/\x.term<=1048576/\1<=x.bin/\x.bin<=3/\0<=x.a/\x.a<=64/\0<=x.c/\x.c<=64/\x.l.length<=4/\1<=x.kind/\x.kind<=4:=by
 unfold mayL at h;split at h
 ·rename_i h1;have h1:=h1.1;simp only [nK,cj,dU,Bool.and_eq_true,Bool.or_eq_true,decide_eq_true_eq] at h1;obtain ⟨⟨⟨⟨⟨⟨⟨⟨⟨⟨k0,k1⟩,k2⟩,_⟩,k4⟩,k5⟩,k6⟩,_⟩,k8⟩,_⟩,k10⟩:=h1;have k6':x.a<=64:=by have:=k6.2; split at this <;> omega
  have k8':x.c<=64:=by have:=k8.2; split at this <;> omega
  have k10':(x.l.length:Int)<=4:=by have:=k10.2; split at this <;> omega
  omega
 cases h
theorem sO:∀ {l:List Record},l.all recOk=true->(encL l).length<=227*l.length
 | [],_=>Nat.le_refl _
 | r :: l,h=>by
  simp only [afB,Bool.and_eq_true] at h;have h1:=jr h.1;have h2:=sO h.2;have e:encL (r :: l)=jX r++encL l:=by simp [encL]
  rw [e,List.length_append,kN,List.length_cons]; omega
structure NdC where
 me:Int
 many:Int
 bin:Int
 st:Stable
 role:Int
 commit:Int
 applied:Int
 s:State
def Xx (k:Nat) (n:NdC):List AV:=[.int n.me,.int n.many,.ptr (k+1) 0,.int n.bin]++(cellsOf (.nm .stable) n.st++([.int n.role,.int n.commit,.int n.applied]++cellsOf (.nm .state) n.s))
def lNd {β:Type} (k:Nat) (R:PL β):PL (NdC × β):=PL.ZP (ax cI (ax cI (ax (aX (k+1) 0) (ax cI (lSt (.nm .stable) (ax cI (ax cI (ax cI (lSt (.nm .state) R))))))))) (fun q=>(⟨q.1,q.2.1,q.2.2.2.1,q.2.2.2.2.1,q.2.2.2.2.2.1,q.2.2.2.2.2.2.1,q.2.2.2.2.2.2.2.1,q.2.2.2.2.2.2.2.2.1⟩,q.2.2.2.2.2.2.2.2.2)) (fun q=>(q.1.me,q.1.many,(),q.1.bin,q.1.st,q.1.role,q.1.commit,q.1.applied,q.1.s,q.2))
structure Nd where
 c:NdC
 d:Dsk
 rp:List Reply
 vs:List Bool
 bn:List Int
 nx:List Int
 mt:List Int
def ndO (k:Nat) (n:Nd):AH:=[.box 103 (Xx k n.c++[.own (k+3),.own (k+4),.own (k+5),.own (k+6),.own (k+7)]),.box 147 [.own (k+2),.int n.d.synced,.bool (.atom n.d.down),.bool (.atom n.d.doomed),.int n.d.keep],.row 5 .u8 n.d.b,.row 78 (.nm .reply) n.rp,.row 4 .bool n.vs,.row 3 .int n.bn,.row 3 .int n.nx,.row 3 .int n.mt]
def acL {β:Type} (k:Nat) (R:PH β):PH (Nd × β):=PH.ZP (aC (dG 103 (lNd k (ax (eV (k+3)) (ax (eV (k+4)) (ax (eV (k+5)) (ax (eV (k+6)) (ax (eV (k+7)) dC))))))) (aC (dG 147 (ax (eV (k+2)) (ax cI (ax cB (ax cB (ax cI dC)))))) (aC (eW 5 .u8) (aC (eW 78 (.nm .reply)) (aC (eW 4 .bool) (aC (eW 3 .int) (aC (eW 3 .int) (aC (eW 3 .int) R))))))))
 (fun q=>(⟨q.1.1,⟨q.2.2.1,q.2.1.2.1,q.2.1.2.2.1,q.2.1.2.2.2.1,q.2.1.2.2.2.2.1⟩,q.2.2.2.1,q.2.2.2.2.1,q.2.2.2.2.2.1,q.2.2.2.2.2.2.1,q.2.2.2.2.2.2.2.1⟩,q.2.2.2.2.2.2.2.2))
 (fun q=>((q.1.c,(),(),(),(),(),()),((),q.1.d.synced,q.1.d.down,q.1.d.doomed,q.1.d.keep,()),q.1.d.b,q.1.rp,q.1.vs,q.1.bn,q.1.nx,q.1.mt,q.2))
def kV (n:Nd):AH:=ndO 0 n
def tZ:PH Nd:=PH.ZP (acL 0 aw) (·.1) (fun n=>(n,()))
structure NdR where
 n:Nd
 l:List Letter
 e:Int
abbrev Nd.save (n:Nd) (l:List Record):Nd:={ n with d:=(saveF n.d n.c.st l).1,c:={ n.c with st:=(saveF n.d n.c.st l).2.1 } }
abbrev Nd.aN (n:Nd) (l:List Record):Int:=(saveF n.d n.c.st l).2.2
def jZ (n:NdC) (k:Nat):List Int:=((List.range k).map fun i:Nat=>(i:Int)).filter (fun i=>decide (i≠n.me))
def cJ (n:NdC):List Int:=jZ n n.many.toNat
def qD (n:NdC) (kd to:Int):Letter:=⟨kd,n.me,to,n.st.term,0,0,0,n.bin,false,[]⟩
def jh (n:Nd) (to:Int):Letter × Int:=gm n.c.st ⟨n.c.me,to,n.nx.getD to.toNat 0,n.c.commit,n.c.bin⟩
def ck (n:Nd):List Int->List Letter × Int
 | []=>([],0)
 | to :: l=>if (jh n to).2=0 then (if (ck n l).2=0 then ((jh n to).1 :: (ck n l).1,0) else ([],(ck n l).2)) else ([],(jh n to).2)
def bJ (n:Nd):List Letter × Int:=if n.d.down=true then ([],30) else if n.c.role=2 then ck n (cJ n.c) else ([],33)
noncomputable def Nd.df:Nat->Nd->Nd
 | 0,n=>n
 | k+1,n=>if n.c.applied<n.c.commit then
   (if pE n.c.bin ((n.c.st.log.drop n.c.applied.toNat).take 1)=0 then Nd.df k { n with c:={ n.c with s:=plS n.c.bin n.c.s ((n.c.st.log.drop n.c.applied.toNat).take 1),applied:=n.c.applied+1 },rp:=n.rp++plR n.c.bin n.c.s ((n.c.st.log.drop n.c.applied.toNat).take 1) } else n)
  else n
noncomputable def Nd.apply (n:Nd):Nd:=n.df (n.c.commit - n.c.applied).toNat
def Nd.ej (n:Nd):Nd:={ n with c:={ n.c with role:=1 },vs:=(List.replicate n.c.many.toNat false).set n.c.me.toNat true,bn:=(List.replicate n.c.many.toNat (0:Int)).set n.c.me.toNat n.c.bin,nx:=List.replicate n.c.many.toNat 0,mt:=List.replicate n.c.many.toNat 0 }
def fp (n:NdC):List Letter:=(cJ n).map fun to=>{ qD n 1 to with a:=n.st.log.length,b:=ig n.st.log }
def bj (n:Nd):NdR:=if n.d.down=true then ⟨n,[],30⟩ else if n.c.role=2 then ⟨n,[],0⟩ else if ¬ (aT n.c.st n.c.me).2=0 then ⟨n,[],(aT n.c.st n.c.me).2⟩
 else if ¬ n.aN (aT n.c.st n.c.me).1=0 then ⟨n.save (aT n.c.st n.c.me).1,[],n.aN (aT n.c.st n.c.me).1⟩ else ⟨(n.save (aT n.c.st n.c.me).1).ej,fp (n.save (aT n.c.st n.c.me).1).ej.c,0⟩
def db (n:NdC) (x:Letter):Bool:=if (¬ mayL x=0\/¬ x.to=n.me)\/n.many<=x.frm then false else if ¬ x.kind=3 then true else if ¬ (aB n.st x).2.2.2=0 then false
 else !(aB n.st x).1.any (fun r=>decide (r.kind=4) && decide (r.a<=n.commit))
def cF (n:Nd) (x:Letter):NdR:=if ¬ (aH n.c.st x).2.2=0 then ⟨n,[],(aH n.c.st x).2.2⟩ else if ¬ n.aN (aH n.c.st x).1=0 then ⟨n.save (aH n.c.st x).1,[],n.aN (aH n.c.st x).1⟩
 else ⟨n.save (aH n.c.st x).1,[{ qD (n.save (aH n.c.st x).1).c 2 x.frm with ok:=(aH n.c.st x).2.1 }],0⟩
def Nd.follow (n:Nd):Nd:={ n with c:={ n.c with role:=0 } }
noncomputable def bO (n:Nd) (x:Letter):NdR:=if ¬ (aB n.c.st x).2.2.2=0 then ⟨n,[],(aB n.c.st x).2.2.2⟩ else if ¬ n.aN (aB n.c.st x).1=0 then ⟨n.save (aB n.c.st x).1,[],n.aN (aB n.c.st x).1⟩
 else let m:=n.save (aB n.c.st x).1
  let f:=if x.term=m.c.st.term then m.follow else m
  if (aB n.c.st x).2.1=true then (let g:=({ f with c:={ f.c with commit:=max f.c.commit (min x.c (aB n.c.st x).2.2.1) } }:Nd).apply; ⟨g,[{ qD f.c 4 x.frm with ok:=true,a:=(aB n.c.st x).2.2.1 }],0⟩)
  else ⟨f,[{ qD f.c 4 x.frm with a:=if x.term=f.c.st.term then min 64 (f.c.st.log.length:Int) else 0 }],0⟩
def fK (n:Nd):NdR:=
 let m:Nd:={ n with c:={ n.c with role:=2 },nx:=List.replicate n.nx.length ((n.c.st.log.length:Int)+1),mt:=List.replicate n.mt.length 0 }
 if (n.c.st.log.length:Int)+1<=64 then (let l:=[⟨3,(n.c.st.log.length:Int)+1,n.c.st.term,[]⟩]; if m.aN l=0 then ⟨m.save l,(bJ (m.save l)).1,(bJ (m.save l)).2⟩ else ⟨m.save l,[],m.aN l⟩)
 else ⟨m,(bJ m).1,(bJ m).2⟩
def Nd.Qi (n:Nd) (x:Letter):Nd:=
 let e:Int:=n.c.st.log.length
 let nx:=n.nx.set x.frm.toNat (min (jq (n.nx.getD x.frm.toNat 0) x) (e+1))
 let mt:=if x.ok=true then n.mt.set x.frm.toNat (max (n.mt.getD x.frm.toNat 0) (min x.a e)) else n.mt
 { n with nx:=nx,mt:=mt,c:={ n.c with commit:=mh n.c.st (mt.set n.c.me.toNat e) n.c.commit } }
noncomputable def fQ (n:Nd) (x:Letter):NdR:=
 let m:=(n.Qi x).apply
 if (n.c.st.log.length:Int)<m.nx.getD x.frm.toNat 0 then ⟨m,[],0⟩ else if (jh m x.frm).2=0 then ⟨m,[(jh m x.frm).1],0⟩ else ⟨m,[],(jh m x.frm).2⟩
noncomputable def bk (n:Nd) (x:Letter):NdR:=
 let l:=aA n.c.st x.term
 if ¬ n.aN l=0 then ⟨n.save l,[],n.aN l⟩ else
 let m:=n.save l
 if ¬ x.term=m.c.st.term\/m.c.role=0 then ⟨m,[],0⟩ else
 let m2:Nd:={ m with bn:=m.bn.set x.frm.toNat x.bin }
 if (x.kind=2/\x.ok=true)/\m.c.role=1 then (let m3:Nd:={ m2 with vs:=m2.vs.set x.frm.toNat true }; if pO m3.vs=true then fK m3 else ⟨m3,[],0⟩)
 else if x.kind=4/\m.c.role=2 then fQ m2 x else ⟨m2,[],0⟩
noncomputable def bg (n:Nd) (x:Letter):NdR:=if n.d.down=true then ⟨n,[],30⟩ else if db n.c x=false then ⟨n,[],1⟩ else
 let m:=if n.c.st.term<x.term then n.follow else n
 if x.kind=1 then cF m x else if x.kind=3 then bO m x else bk m x
def Nd.fresh (n:Nd) (b:Int):Nd:={ c:=⟨n.c.me,n.c.many,b,(replayF n.d.b).1,0,0,0,State.mk 1 1 0 0 [] [] []⟩,d:=n.d.up.cut (replayF n.d.b).2,rp:=[],vs:=[],bn:=[],nx:=[],mt:=[] }
def aV (n:Nd) (b:Int):NdR:=if n.d.down=false then ⟨n,[],31⟩ else if ¬ bZ b (max (replayF n.d.b).1.floor 1)=0 then ⟨n,[],bZ b (max (replayF n.d.b).1.floor 1)⟩
 else let m:=n.fresh b
  if m.c.st.floor<b then (let l:=[⟨1,b,0,[]⟩]; if m.aN l=0 then ⟨m.save l,[],0⟩ else ⟨{ m.save l with d:=(m.save l).d.cD 0 },[],m.aN l⟩) else ⟨m,[],0⟩
structure NdC3 where
 n:Nd
 a:Int
 b:Int
 e:Int
def cY (n:Nd) (c:Command):NdC3:=if n.d.down=true then ⟨n,0,0,30⟩ else if ¬ n.c.role=2 then ⟨n,0,0,33⟩ else if ¬ bF c n.c.s.version=0 then ⟨n,0,0,bF c n.c.s.version⟩
 else if c.kind=8/\¬ c.n=n.c.s.version+1 then ⟨n,0,0,1⟩ else if c.kind=8/\kB n.c.s.version n.bn=false then ⟨n,0,0,34⟩
 else if 64<(n.c.st.log.length:Int)+1 then ⟨n,0,0,20⟩ else if ¬ (ei c n.c.st.term n.c.s.version).2=0 then ⟨n,0,0,(ei c n.c.st.term n.c.s.version).2⟩
 else let l:=[⟨3,(n.c.st.log.length:Int)+1,(ei c n.c.st.term n.c.s.version).1.term,(ei c n.c.st.term n.c.s.version).1.b⟩]
  if n.aN l=0 then ⟨n.save l,(n.c.st.log.length:Int)+1,n.c.st.term,0⟩ else ⟨n.save l,0,0,n.aN l⟩
abbrev bX (a b:Nd):Prop:=a.c.me=b.c.me/\a.c.many=b.c.many/\a.c.bin=b.c.bin/\a.c.st.floor=b.c.st.floor/\a.c.st.term=b.c.st.term/\a.c.st.vote=b.c.st.vote/\a.c.st.log=b.c.st.log/\a.c.role=b.c.role/\a.c.commit=b.c.commit/\a.c.applied=b.c.applied/\a.c.s.version=b.c.s.version/\a.c.s.next=b.c.s.next/\a.c.s.keep=b.c.s.keep/\a.c.s.quota=b.c.s.quota/\a.c.s.sess=b.c.s.sess/\a.c.s.opens=b.c.s.opens/\a.c.s.snaps=b.c.s.snaps/\a.d.synced=b.d.synced/\a.d.down=b.d.down/\a.d.doomed=b.d.doomed/\a.d.keep=b.d.keep/\a.d.b=b.d.b/\a.rp=b.rp/\a.vs=b.vs/\a.bn=b.bn/\a.nx=b.nx/\a.mt=b.mt
abbrev qq (a b:Nd) (p:Prop):Prop:=a.c.me=b.c.me/\a.c.many=b.c.many/\a.c.bin=b.c.bin/\a.c.st.floor=b.c.st.floor/\a.c.st.term=b.c.st.term/\a.c.st.vote=b.c.st.vote/\a.c.st.log=b.c.st.log/\a.c.role=b.c.role/\a.c.commit=b.c.commit/\a.c.applied=b.c.applied/\a.c.s.version=b.c.s.version/\a.c.s.next=b.c.s.next/\a.c.s.keep=b.c.s.keep/\a.c.s.quota=b.c.s.quota/\a.c.s.sess=b.c.s.sess/\a.c.s.opens=b.c.s.opens/\a.c.s.snaps=b.c.s.snaps/\a.d.synced=b.d.synced/\a.d.down=b.d.down/\a.d.doomed=b.d.doomed/\a.d.keep=b.d.keep/\a.d.b=b.d.b/\a.rp=b.rp/\a.vs=b.vs/\a.bn=b.bn/\a.nx=b.nx/\a.mt=b.mt/\p
structure DkI (d:Dsk) (L:List Record):Prop where
 st:(stepsF sta0 L).2=0
 rep:replayF d.b=((stepsF sta0 L).1,((encL L).length:Int))
 pre:∃ t,d.b=encL L++t
 syn:d.synced=d.b.length
 up:d.down=false->d.b=encL L
variable {L:List Record}
theorem qi (h:(stepsF sta0 L).2=0):∃ j,j<=L.length/\replayF ((encL L).take k)=((stepsF sta0 (L.take j)).1,((encL (L.take j)).length:Int))/\(stepsF sta0 (L.take j)).2=0/\(encL (L.take j)).length<=k/\∀ i,i<=L.length->(encL (L.take i)).length<=k->i<=j:=by
 obtain ⟨j,h1,h2,h3⟩:=uY (n:=(encL L).length+1) (k:=k) h (by omega);refine ⟨j,h1,?_,h3⟩;rw [replayF,<- h2];exact mX (by omega) (by rw [List.length_take]; omega)
theorem rC (h:(stepsF sta0 L).2=0):replayF (encL L)=((stepsF sta0 L).1,((encL L).length:Int)):=by
 obtain ⟨j,h1,h2,h3,h4,h5⟩:=qi (k:=(encL L).length) h;rw [List.take_length] at h2;have:=h5 L.length (by omega) (by rw [List.take_length]; omega);rw [h2,show j=L.length by omega,List.take_length]
variable {l:List Record}
theorem DkI.afl {d':Dsk} (hs:(stepsF sta0 (L++l)).2=0) (hk:(encL L).length<=k) (hb:d'.b=(encL (L++l)).take k) (hy:d'.synced=d'.b.length) (hd:d'.down=true):∃ i,i<=l.length/\DkI d' (L++l.take i):=by
 obtain ⟨j,h1,h2,h3,h4,h5⟩:=qi (k:=k) hs;have hj:=h5 L.length (by simp) (by rw [List.take_left]; exact hk);have e:(L++l).take j=L++l.take (j - L.length):=by rw [List.take_append,List.take_of_length_le (by omega)]
 rw [e] at h2 h3 h4;rw [List.length_append] at h1;refine ⟨j - L.length,by omega,h3,by rw [hb]; exact h2,?_,hy,fun h=>by rw [hd] at h; cases h⟩;refine ⟨(encL (l.drop (j - L.length))).take (k - (encL (L++l.take (j - L.length))).length),?_⟩;have e2:encL (L++l)=encL (L++l.take (j - L.length))++encL (l.drop (j - L.length)):=by
  rw [<- rK,List.append_assoc,List.take_append_drop]
 rw [hb,e2,List.take_append,List.take_of_length_le h4]
theorem DkI.enc {dm:Bool} {sy kp:Int} (hs:(stepsF sta0 L).2=0) (hb:b=encL L) (hy:sy=b.length) {dn:Bool}:DkI ⟨b,sy,dn,dm,kp⟩ L:=
 ⟨hs,by rw [hb]; exact rC hs,⟨[],by rw [acq]; exact hb⟩,hy,fun _=>hb⟩
theorem zm {i:Nat}:L <+: L++l.take i:=⟨_,rfl⟩
structure SaveR (d:Dsk) (s:Stable) (l L:List Record):Prop where
 ok:(saveF d s l).2.2=0->(saveF d s l).1.down=false/\DkI (saveF d s l).1 (L++l)/\(saveF d s l).2.1=(stepsF s l).1/\(stepsF s l).2=0/\l.all recOk=true/\(saveF d s l).1.doomed=d.doomed/\(saveF d s l).1.keep=d.keep/\(l=[]->saveF d s l=(d,s,0))
 no:(saveF d s l).2.2≠0->(saveF d s l).2.1=s/\l≠[]/\(((saveF d s l).1=d/\(saveF d s l).2.2≠30)\/(d.doomed=true/\(saveF d s l).2.2=30/\(saveF d s l).1.down=true/\(saveF d s l).1.doomed=false/\∃ i,i<=l.length/\DkI (saveF d s l).1 (L++l.take i)))
 len:(saveF d s l).1.b.length<=d.b.length+(encL l).length
 le:d.b.length<=65536->(saveF d s l).1.b.length<=65536
theorem sw:∀ {l:List Record} {s:Stable},(stepsF s l).2=0\/(stepsF s l).2=1\/(stepsF s l).2=5
 | [],_=>.inl rfl
 | r :: l,s=>by
  rw [stepsF];split
  ·exact sw
  dsimp only;unfold aM;split
  ·exact .inr (.inl rfl)
  split
  ·exact .inl rfl
  exact .inr (.inr rfl)
variable {d:Dsk}
theorem Cg {s:Stable} (h:DkI d L) (hu:d.down=false) (hs:s=(stepsF sta0 L).1):SaveR d s l L:=by
 have he:=h.up hu;have hy:=h.syn;by_cases h1:l.all recOk=false
 ·have hne:l≠[]:=by rintro rfl; cases h1
  constructor <;> rw [saveF,if_pos h1]
  ·intro e; cases e
  ·exact fun _=>⟨rfl,hne,.inl ⟨rfl,(by decide:(1:Int)≠30)⟩⟩
  ·dsimp only; omega
  exact id
 by_cases h2:(stepsF s l).2≠0
 ·have hne:l≠[]:=by rintro rfl; exact h2 rfl
  constructor <;> rw [saveF,if_neg h1,if_pos h2]
  ·intro e; exact absurd e h2
  ·exact fun _=>⟨rfl,hne,.inl ⟨rfl,by rcases sw (l:=l) (s:=s) with e | e | e <;> rw [e] <;> decide⟩⟩
  ·dsimp only; omega
  exact id
 have h2':(stepsF s l).2=0:=abc.1 h2;have h1':l.all recOk=true:=by simpa using h1
 by_cases h3:l.length=0
 ·obtain rfl:=aa7 h3;constructor <;> rw [saveF,if_neg h1,if_neg h2,if_pos h3]
  ·exact fun _=>⟨hu,by rw [acq]; exact h,rfl,rfl,rfl,rfl,rfl,fun _=>rfl⟩
  ·intro e; exact absurd rfl e
  ·dsimp only; omega
  exact id
 have hne:l≠[]:=by rintro rfl; exact h3 rfl
 by_cases h4:d.jW (encL l)≠0
 ·have h5:d.jW (encL l)=20:=by
   unfold Dsk.jW at h4 ⊢;rw [hu] at h4 ⊢;simp only [Bool.false_eq_true,if_false] at h4 ⊢;split at h4
   ·rename_i q; rw [if_pos q]
   exact absurd rfl h4
  constructor <;> rw [saveF,if_neg h1,if_neg h2,if_neg h3,if_pos h4]
  ·intro e; exact absurd e h4
  ·exact fun _=>⟨rfl,hne,.inl ⟨rfl,by dsimp only; rw [h5]; decide⟩⟩
  ·dsimp only; omega
  exact id
 have h6:¬ 65536 - (d.b.length:Int)<(encL l).length:=by
  intro q;unfold Dsk.jW at h4;rw [hu,if_neg (by decide),if_pos q] at h4;exact h4 (by decide)
 have ea:d.app (encL l)=⟨d.b++encL l,d.synced,false,d.doomed,d.keep⟩:=by
  rw [Dsk.app,if_neg (by rw [hu]; simpa using h6),hu]
 have eb:d.b++encL l=encL (L++l):=by rw [he,rK]
 have es:(stepsF sta0 (L++l)).2=0:=by rw [dq h.st,<- hs]; exact h2'
 by_cases h7:d.doomed=true
 ·have h8:(d.app (encL l)).fw=30:=by rw [ea,Dsk.fw,if_pos (.inr h7)]
  have h9:(d.app (encL l)).sync=(d.app (encL l)).cD d.keep:=by rw [ea,Dsk.sync,if_neg Bool.false_ne_true,if_pos h7]
  constructor <;> rw [saveF,if_neg h1,if_neg h2,if_neg h3,if_neg h4,if_pos (by rw [h8]; decide)]
  ·intro e; rw [h8] at e; cases e
  ·refine fun _=>⟨rfl,hne,.inr ⟨h7,h8,by rw [h9]; rfl,by rw [h9]; rfl,?_⟩⟩;dsimp only;rw [h9,ea];refine DkI.afl (k:=((⟨d.b++encL l,d.synced,false,d.doomed,d.keep⟩:Dsk).at_ d.keep).toNat) es ?_ (by show List.take _ (d.b++encL l)=_; rw [eb]) ?_ rfl
   ·rw [<- he];simp only [Dsk.at_,List.length_append]; omega
   simp only [Dsk.cD,Dsk.at_,List.length_take,List.length_append]; omega
  ·rw [h9,ea];simp only [Dsk.cD,List.length_take,List.length_append]; omega
  intro _;rw [h9,ea];simp only [Dsk.cD,List.length_take,List.length_append]; omega
 have h8:(d.app (encL l)).fw=0:=by rw [ea,Dsk.fw,if_neg (by simpa using h7)]
 have h9:(d.app (encL l)).sync=⟨d.b++encL l,(d.b++encL l).length,false,d.doomed,d.keep⟩:=by rw [ea,Dsk.sync,if_neg Bool.false_ne_true,if_neg h7]
 constructor <;> rw [saveF,if_neg h1,if_neg h2,if_neg h3,if_neg h4,if_neg (by rw [h8]; decide)]
 ·refine fun _=>⟨by rw [h9],?_,rfl,h2',h1',by rw [h9],by rw [h9],fun e=>absurd e hne⟩;dsimp only;rw [h9];exact DkI.enc es eb rfl
 ·intro e; exact absurd rfl e
 ·rw [h9]; dsimp only; rw [List.length_append]; omega
 intro _; rw [h9]; dsimp only; rw [List.length_append]; omega
theorem agb (h:r.kind=1/\1<=r.a/\r.a<=3/\r.b=0/\r.x=[]):recOk r=true:=bQ.2 (.inl h)
theorem abp (h:r.kind=2/\0<=r.a/\r.a<=1048576/\0<=r.b/\r.b<=5/\r.x=[]):recOk r=true:=bQ.2 (.inr (.inl h))
theorem ae1 (h:r.kind=3/\1<=r.a/\r.a<=64/\0<=r.b/\r.b<=1048576/\r.x.length<=200):recOk r=true:=bQ.2 (.inr (.inr (.inl h)))
theorem ahG (h:r.kind=4/\1<=r.a/\r.a<=64/\r.b=0/\r.x=[]):recOk r=true:=bQ.2 (.inr (.inr (.inr h)))
theorem nN {s t:Stable} (h:recOk r=true) (e:eM s r=some t):aM s r=(t,0):=by
 rw [aM,if_neg (by rw [h]; decide),e]
theorem jN {s:Stable} (h:(aM s r).2=0):stepsF s [r]=((aM s r).1,0):=by
 rw [stepsF,if_pos h,stepsF]
variable {t:Int}
theorem xv {s:Stable} {v:Int} (h0:0<=t) (h1:t<=1048576) (h2:0<=v) (h3:v<=5) (h:s.term<t\/(s.term=t/\(s.vote=0\/s.vote=v))):stepsF s [⟨2,t,v,[]⟩]=({ s with term:=t,vote:=v },0):=by
 have e:aM s ⟨2,t,v,[]⟩=({ s with term:=t,vote:=v },0):=by
  refine nN (abp ⟨rfl,h0,h1,h2,h3,rfl⟩) ?_;rw [eM,if_neg (show ¬ (2:Int)=1 by decide),if_pos rfl,fo,if_neg];dsimp only; omega
 rw [jN (by rw [e]),e]
theorem nc {s:Stable} (h0:0<=t) (h1:t<=1048576):stepsF s (aA s t)=({ s with term:=max s.term t,vote:=if s.term<t then 0 else s.vote },0)/\(aA s t).all recOk=true:=by
 unfold aA;split
 ·rename_i h;rw [show max s.term t=s.term by omega,if_neg (by omega)];exact ⟨rfl,rfl⟩
 rename_i h;rw [xv h0 h1 (by omega) (by omega) (.inl (by omega)),show max s.term t=t by omega,if_pos (by omega)];refine ⟨rfl,?_⟩;rw [afB,abp ⟨rfl,h0,h1,by dsimp only; omega,by dsimp only; omega,rfl⟩]; rfl
theorem vJ {y:Entry}:eN y=true↔1<=y.term/\y.term<=1048576/\y.b.length<=200:=by
 simp only [eN,cj,Bool.and_eq_true,decide_eq_true_eq]; omega
theorem wI:∀ {m:List Entry} {s:Stable},m.all eN=true->s.log.length+m.length<=64->stepsF s (fb ((s.log.length:Int)+1) m)=({ s with log:=s.log++m },0)/\(fb ((s.log.length:Int)+1) m).all recOk=true
 | [],s,_,_=>⟨by rw [fb,stepsF,acq],rfl⟩
 | y :: m,s,h,hl=>by
  rw [afB,Bool.and_eq_true,vJ] at h;rw [List.length_cons] at hl;have hr:recOk ⟨3,(s.log.length:Int)+1,y.term,y.b⟩=true:=ae1 ⟨rfl,by dsimp only; omega,by dsimp only; omega,by dsimp only; omega,by dsimp only; omega,by dsimp only; omega⟩;have e:aM s ⟨3,(s.log.length:Int)+1,y.term,y.b⟩=({ s with log:=s.log++[y] },0):=by
   refine nN hr ?_;rw [eM,if_neg (show ¬ (3:Int)=1 by decide),if_neg (show ¬ (3:Int)=2 by decide),if_pos rfl,dx,if_neg (by dsimp only; omega)]
  obtain ⟨h1,h2⟩:=wI (m:=m) (s:={ s with log:=s.log++[y] }) h.2 (by dsimp only; rw [List.length_append,afo]; omega);have e2:(((s.log++[y]).length:Nat):Int)+1=(s.log.length:Int)+1+1:=by rw [List.length_append,afo]; omega
  dsimp only at h1 h2;rw [e2] at h1 h2;refine ⟨?_,?_⟩
  ·rw [fb,stepsF,if_pos (by rw [e]),e,h1]; simp
  rw [fb,afB,hr,h2]; rfl
theorem zl (h:mayL x=0):x.l.all eN=true:=by
 unfold mayL at h;split at h
 ·rename_i h1; exact h1.2
 cases h
theorem JL (h:mayL x=0):0<=x.b:=by
 unfold mayL at h;split at h
 ·rename_i h1;have h1:=h1.1;simp only [nK,cj,dU,Bool.and_eq_true,Bool.or_eq_true,decide_eq_true_eq] at h1;obtain ⟨⟨⟨⟨_,k6⟩,_⟩,_⟩,_⟩:=h1;exact k6.1
 cases h
def e_ (s:Stable) (x:Letter):Nat:=gO (s.log.drop x.a.toNat) x.l
def dN (s:Stable) (x:Letter):List Entry:=if x.l.length<=e_ s x then s.log else s.log.take (x.a.toNat+e_ s x)++x.l.drop (e_ s x)
theorem yq {l:List Entry} {k:Int} (h:cK l k=t) (ht:0<=t) (hk:0<=k):k.toNat<=l.length:=by
 unfold cK at h;split at h
 ·omega
 split at h
 ·omega
 omega
theorem yo {s:Stable} (ha:x.a.toNat<=s.log.length):x.a.toNat+x.l.length<=(dN s x).length/\(dN s x).length<=max s.log.length (x.a.toNat+x.l.length):=by
 have h:=lK (h:=s.log.drop x.a.toNat) (a:=x.l);rw [List.length_drop] at h;unfold dN e_;split
 ·omega
 rw [List.length_append,List.length_take,List.length_drop]; omega
theorem k_ {m:List Entry} (h:m.all eN=true):(m.drop k).all eN=true:=
 aeD.2 fun y hy=>aeD.1 h y (aiQ hy)
theorem SG {s:Stable} (h:mayL x=0) (hl:s.log.length<=64) (h64:x.a+x.l.length<=64) (ht:s.term<=x.term) (hm:cK s.log x.a=x.b) (ha:0<=x.a) (hx1:1<=x.term) (hx2:x.term<=1048576) :
  stepsF s (iO s x)=({ s with term:=x.term,vote:=if s.term<x.term then 0 else s.vote,log:=dN s x },0)/\(iO s x).all recOk=true:=by
 have hb:=JL h;have hal:=yq hm hb ha;have he:=zl h;obtain ⟨n1,n2⟩:=nc (s:=s) (t:=x.term) (by omega) hx2;have n1:stepsF s (aA s x.term)=({ s with term:=x.term,vote:=if s.term<x.term then 0 else s.vote },0):=by rw [n1,show max s.term x.term=x.term by omega]
 have hc:=lK (h:=s.log.drop x.a.toNat) (a:=x.l);rw [List.length_drop] at hc;unfold iO;by_cases q1:x.l.length<=e_ s x
 ·have e:bd s.log x.a x.l=(0,[]):=by rw [bd,if_neg (by omega)]; exact if_pos q1
  rw [e,if_pos rfl,fb,acq,acq,dN,if_pos q1];exact ⟨n1,n2⟩
 by_cases q2:(s.log.drop x.a.toNat).length<=e_ s x
 ·have q3:e_ s x=s.log.length - x.a.toNat:=by rw [List.length_drop] at q2; unfold e_ at q2 ⊢; omega
  have e:bd s.log x.a x.l=(0,x.l.drop (e_ s x)):=by rw [bd,if_neg (by omega)]; exact (if_neg q1).trans (if_pos q2)
  have e2:x.a+(x.l.length:Int) - ((x.l.drop (e_ s x)).length:Int)+1=(s.log.length:Int)+1:=by rw [List.length_drop]; omega
  rw [e,if_pos rfl,acq];dsimp only;rw [e2];obtain ⟨k1,k2⟩:=wI (m:=x.l.drop (e_ s x)) (s:={ s with term:=x.term,vote:=if s.term<x.term then 0 else s.vote }) (k_ he) (by dsimp only; rw [List.length_drop]; omega);dsimp only at k1 k2;refine ⟨?_,by rw [agr,n2,k2]; rfl⟩;rw [dq (by rw [n1]),n1];dsimp only;rw [k1,dN,if_neg q1,List.take_of_length_le (l:=s.log) (by omega)]
 have q3:x.a.toNat+e_ s x<s.log.length:=by rw [List.length_drop] at q2; omega
 have e:bd s.log x.a x.l=(x.a+e_ s x+1,x.l.drop (e_ s x)):=by rw [bd,if_neg (by omega)]; exact (if_neg q1).trans (if_neg q2)
 have hr:recOk ⟨4,x.a+e_ s x+1,0,[]⟩=true:=ahG ⟨rfl,by dsimp only; omega,by dsimp only; omega,rfl,rfl⟩;have c1:aM { s with term:=x.term,vote:=if s.term<x.term then 0 else s.vote } ⟨4,x.a+e_ s x+1,0,[]⟩=({ s with term:=x.term,vote:=if s.term<x.term then 0 else s.vote,log:=s.log.take (x.a.toNat+e_ s x) },0):=by
  refine nN hr ?_;rw [eM,if_neg (show ¬ (4:Int)=1 by decide),if_neg (show ¬ (4:Int)=2 by decide),if_neg (show ¬ (4:Int)=3 by decide),fL,if_neg (by dsimp only; omega)];dsimp only;rw [show (x.a+(e_ s x:Int)+1 - 1).toNat=x.a.toNat+e_ s x by omega]
 have e2:x.a+(x.l.length:Int) - ((x.l.drop (e_ s x)).length:Int)+1=(((s.log.take (x.a.toNat+e_ s x)).length:Nat):Int)+1:=by rw [List.length_drop,List.length_take]; omega
 rw [e];dsimp only;rw [if_neg (by omega),e2];obtain ⟨k1,k2⟩:=wI (m:=x.l.drop (e_ s x)) (s:={ s with term:=x.term,vote:=if s.term<x.term then 0 else s.vote,log:=s.log.take (x.a.toNat+e_ s x) }) (k_ he) (by dsimp only; rw [List.length_drop,List.length_take]; omega);dsimp only at k1 k2;refine ⟨?_,by rw [agr,agr,n2,k2]; simp [hr]⟩;have n3:stepsF s (aA s x.term++[⟨4,x.a+e_ s x+1,0,[]⟩])=({ s with term:=x.term,vote:=if s.term<x.term then 0 else s.vote,log:=s.log.take (x.a.toNat+e_ s x) },0):=by
  rw [dq (by rw [n1]),n1,jN (by dsimp only; rw [c1])];dsimp only;rw [c1]
 rw [dq (by rw [n3]),n3];dsimp only;rw [k1,dN,if_neg q1]
structure NdOK (n:Nd):Prop where
 d:n.d.OK
 many:3<=n.c.many/\n.c.many<=5
 me:0<=n.c.me/\n.c.me<n.c.many
 log:n.c.st.log.length<=64
 term:0<=n.c.st.term/\n.c.st.term<=1048576
 com:0<=n.c.applied/\n.c.applied<=n.c.commit/\n.c.commit<=n.c.st.log.length
 len:n.c.role=0\/((n.vs.length:Int)=n.c.many/\(n.bn.length:Int)=n.c.many/\(n.nx.length:Int)=n.c.many/\(n.mt.length:Int)=n.c.many)
 rp:(n.rp.length:Int)=n.c.applied
abbrev fr0:State:=State.mk 1 1 0 0 [] [] []
structure UpI (n:Nd) (L:List Record):Prop where
 st:n.c.st=(stepsF sta0 L).1
 bin:1<=n.c.bin/\n.c.bin<=3/\n.c.st.floor=n.c.bin
 role:0<=n.c.role/\n.c.role<=2
 vote:n.c.role≠0->n.c.st.vote=n.c.me+1/\1<=n.c.st.term
 nx:n.c.role=2->∀ i:Nat,(i:Int)<n.c.many->1<=n.nx.getD i 0/\n.nx.getD i 0<=n.c.st.log.length+1
 pl:okPl n.c.bin (n.c.st.log.take n.c.applied.toNat)/\n.c.s=pS n.c.bin fr0 (n.c.st.log.take n.c.applied.toNat)/\n.rp=pR n.c.bin fr0 (n.c.st.log.take n.c.applied.toNat)
structure NInv (n:Nd) (L:List Record):Prop where
 ok:NdOK n
 d:DkI n.d L
 le:∀ r ∈ L,r.kind=3->1<=r.b
 up:n.d.down=false->UpI n L
structure LetI (n:Nd) (x:Letter):Prop where
 up:n.d.down=false
 frm:x.frm=n.c.me
 to:x.to≠n.c.me/\0<=x.to/\x.to<n.c.many
 term:x.term=n.c.st.term
 bin:x.bin=n.c.bin
 ask:x.kind=1->n.c.st.vote=n.c.me+1
 vote:x.kind=2->x.ok=true->n.c.st.vote=x.to+1
 copy:x.kind=3->n.c.role=2
structure StepR (n:Nd) (L:List Record) (n':Nd) (l:List Letter) (L':List Record):Prop where
 inv:NInv n' L'
 pre:L <+: L'
 me:n'.c.me=n.c.me/\n'.c.many=n.c.many
 len:n'.d.b.length<=n.d.b.length+1400
 lets:∀ x ∈ l,LetI n' x
 mono:n.d.down=false->n'.d.down=false->n.c.commit<=n'.c.commit/\n'.c.st.log.take n.c.commit.toNat=n.c.st.log.take n.c.commit.toNat/\n'.c.bin=n.c.bin
variable {n:Nd}
theorem StepR.refl (h:NInv n L):StepR n L n [] L:=
 ⟨h,List.prefix_refl _,⟨rfl,rfl⟩,by omega,fun _ hx=>(by cases hx),fun _ _=>⟨aet _,rfl,rfl⟩⟩
theorem rf {s:Stable} (h:SaveR d s l L) (hl:l.length<=6):(saveF d s l).1.b.length<=d.b.length+1400:=by
 cases hq:l.all recOk
 ·have e:saveF d s l=(d,s,1):=by rw [saveF,if_pos hq]
  rw [e]; dsimp only; omega
 have:=h.len;have:=sO hq;omega
theorem Me (n:Nd) (l:List Record):(n.save l).c={ n.c with st:=(saveF n.d n.c.st l).2.1 }:=rfl
theorem Dn (n:Nd) (l:List Record):(n.save l).d=(saveF n.d n.c.st l).1:=rfl
theorem pV {s t:Stable} (hr:recOk r=true) (h:eM s r=some t) (hl:s.log.length<=64) (ht:0<=s.term/\s.term<=1048576):t.log.length<=64/\0<=t.term/\t.term<=1048576:=by
 have hk:=bQ.1 hr;unfold eM at h;split at h
 ·unfold dK at h;split at h
  ·cases h
  cases h; exact ⟨hl,ht⟩
 split at h
 ·unfold fo at h;split at h
  ·cases h
  cases h; dsimp only; omega
 split at h
 ·unfold dx at h;split at h
  ·cases h
  cases h;dsimp only;rw [List.length_append,afo]; omega
 unfold fL at h;split at h
 ·cases h
 cases h;dsimp only;rw [List.length_take]; omega
theorem lI {s:Stable} (h:(aM s r).2=0):recOk r=true/\eM s r=some (aM s r).1:=by
 have hr:=tM h;refine ⟨hr,?_⟩;unfold aM at h ⊢;rw [if_neg (by rw [hr]; decide)] at h ⊢;cases hb:eM s r with
 | none=>rw [hb] at h; cases h
 | some t=>rfl
theorem nr:∀ {l:List Record} {s:Stable},s.log.length<=64->0<=s.term/\s.term<=1048576->(stepsF s l).1.log.length<=64/\0<=(stepsF s l).1.term/\(stepsF s l).1.term<=1048576
 | [],_,h1,h2=>⟨h1,h2⟩
 | r :: l,s,h1,h2=>by
  rw [stepsF];split
  ·rename_i h;obtain ⟨hr,hb⟩:=lI h;obtain ⟨k1,k2⟩:=pV hr hb h1 h2;exact nr k1 k2
  exact ⟨h1,h2⟩
theorem Af {s:Stable} (h:SaveR d s l L) (hd:d.OK):(saveF d s l).1.OK:=by
 by_cases e:(saveF d s l).2.2=0
 ·have h1:=(h.ok e).2.1.syn;exact ⟨by omega,by omega,h.le hd.2.2⟩
 rcases (h.no e).2.2 with ⟨h1,_⟩ | ⟨_,_,_,_,i,_,h1⟩
 ·rw [h1]; exact hd
 have h2:=h1.syn;exact ⟨by omega,by omega,h.le hd.2.2⟩
theorem lA (h:NInv n L) (hu:n.d.down=false) (hl:l.length<=6) (h3:∀ r ∈ l,r.kind=3->1<=r.b) (he:n.aN l≠0):∃ L',StepR n L (n.save l) [] L':=by
 have hu':=h.up hu;have hs:=Cg (l:=l) h.d hu hu'.st;have hlen:=rf hs hl;have hd:=Af hs h.ok.d;obtain ⟨k1,k2,k3⟩:=hs.no he;have ec:(n.save l).c=n.c:=by rw [Me,k1]
 have hok:NdOK (n.save l):=⟨hd,by rw [ec]; exact h.ok.many,by rw [ec]; exact h.ok.me,by rw [ec]; exact h.ok.log,by rw [ec]; exact h.ok.term,by rw [ec]; exact h.ok.com,by rw [ec]; exact h.ok.len,by rw [ec]; exact h.ok.rp⟩;rcases k3 with ⟨k3,_⟩ | ⟨_,_,k4,_,i,_,k5⟩
 ·have e:n.save l=n:=by
   unfold Nd.save; rw [k1,k3]
  rw [e]; exact ⟨L,StepR.refl h⟩
 refine ⟨L++l.take i,⟨hok,k5,fun r hr=>?_,fun hd=>?_⟩,zm,by rw [ec]; exact ⟨rfl,rfl⟩,hlen,fun _ hx=>(by cases hx),fun _ hd=>?_⟩
 ·rcases List.mem_append.1 hr with hr | hr
  ·exact h.le r hr
  exact h3 r (aiP hr)
 ·rw [Dn,k4] at hd; cases hd
 rw [Dn,k4] at hd; cases hd
structure SaveY (n:Nd) (L l:List Record):Prop where
 d:DkI (n.save l).d (L++l)
 dn:(n.save l).d.down=false
 st:(n.save l).c.st=(stepsF n.c.st l).1
 sts:(n.save l).c.st=(stepsF sta0 (L++l)).1
 le:∀ r ∈ L++l,r.kind=3->1<=r.b
 len:(n.save l).d.b.length<=n.d.b.length+1400
 ok:(n.save l).d.OK
 lt:(n.save l).c.st.log.length<=64/\0<=(n.save l).c.st.term/\(n.save l).c.st.term<=1048576
 no:l=[]->n.save l=n
theorem oB (h:NInv n L) (hu:n.d.down=false) (hl:l.length<=6) (h3:∀ r ∈ l,r.kind=3->1<=r.b) (he:n.aN l=0):SaveY n L l:=by
 have hu':=h.up hu;have hs:=Cg (l:=l) h.d hu hu'.st;obtain ⟨k1,k2,k3,k4,k5,k6,k7,k8⟩:=hs.ok he;have e1:(n.save l).c.st=(stepsF n.c.st l).1:=k3;refine ⟨k2,k1,e1,?_,fun r hr=>?_,rf hs hl,Af hs h.ok.d,?_,fun e=>?_⟩
 ·rw [e1,dq h.d.st,hu'.st]
 ·rcases List.mem_append.1 hr with hr | hr
  ·exact h.le r hr
  exact h3 r hr
 ·rw [e1]; exact nr h.ok.log h.ok.term
 unfold Nd.save; rw [k8 e]
theorem Sj {α:Type} {a b:List α} {j:Nat} (h:a.take k=b.take k) (hj:j<=k):a.take j=b.take j:=by
 have e1:a.take j=(a.take k).take j:=by rw [aiE,aew hj]
 rw [e1,h,aiE,aew hj]
theorem ma (h:NInv n L) (hu:n.d.down=false) (y:SaveY n L l) (hv:n.c.role≠0->(n.save l).c.st.vote=n.c.me+1/\1<=(n.save l).c.st.term) (hf:(n.save l).c.st.floor=n.c.st.floor)
  (hl:(n.save l).c.st.log.take n.c.commit.toNat=n.c.st.log.take n.c.commit.toNat) (hc:n.c.commit<=((n.save l).c.st.log.length:Int)) (hn:n.c.role=2->n.c.st.log.length<=(n.save l).c.st.log.length):StepR n L (n.save l) [] (L++l):=by
 have hi:=h.up hu;have ha:(n.save l).c.st.log.take n.c.applied.toNat=n.c.st.log.take n.c.applied.toNat:=Sj hl (by have:=h.ok.com; omega);refine ⟨⟨⟨y.ok,h.ok.many,h.ok.me,y.lt.1,y.lt.2,⟨h.ok.com.1,h.ok.com.2.1,hc⟩,h.ok.len,h.ok.rp⟩,y.d,y.le,fun _=>⟨y.sts,⟨hi.bin.1,hi.bin.2.1,hf.trans hi.bin.2.2⟩,hi.role,hv,fun hr i hm=>?_,?_⟩⟩,List.prefix_append _ _,⟨rfl,rfl⟩,y.len,fun _ hx=>(by cases hx),fun _ _=>⟨aet _,hl,rfl⟩⟩
 ·have h1:=hi.nx hr i hm;have h2:=hn hr;refine ⟨h1.1,af5 h1.2 ?_⟩;show ((n.c.st.log.length:Nat):Int)+1<=(((n.save l).c.st.log.length:Nat):Int)+1;omega
 show okPl n.c.bin ((n.save l).c.st.log.take n.c.applied.toNat)/\n.c.s=pS n.c.bin fr0 ((n.save l).c.st.log.take n.c.applied.toNat)/\n.rp=pR n.c.bin fr0 ((n.save l).c.st.log.take n.c.applied.toNat);rw [ha]; exact hi.pl
theorem NInv.follow {n:Nd} {L:List Record} (h:NInv n L):NInv n.follow L:=
 ⟨⟨h.ok.d,h.ok.many,h.ok.me,h.ok.log,h.ok.term,h.ok.com,.inl rfl,h.ok.rp⟩,h.d,h.le,fun hu=>by
  have hi:=h.up hu;exact ⟨hi.st,hi.bin,⟨aet 0,(by decide:(0:Int)<=2)⟩,fun hr=>absurd rfl hr,fun hr=>absurd (show (0:Int)=2 from hr) (by decide),hi.pl⟩⟩
variable {L':List Record} {n':Nd}
theorem StepR.lS {l:List Letter} (h:StepR n.follow L n' l L'):StepR n L n' l L':=⟨h.inv,h.pre,h.me,h.len,h.lets,h.mono⟩
theorem xL {n:NdC} {i:Int} (h:i ∈ cJ n):i≠n.me/\0<=i/\i<n.many:=by
 unfold cJ jZ at h;obtain ⟨h1,h2⟩:=List.mem_filter.1 h;obtain ⟨k,h3,rfl⟩:=List.mem_map.1 h1;have:=List.mem_range.1 h3;exact ⟨of_decide_eq_true h2,by omega,by omega⟩
variable {to:Int}
theorem aaj (h:(jh n to).2=0):(jh n to).1=ql n.c.st ⟨n.c.me,to,n.nx.getD to.toNat 0,n.c.commit,n.c.bin⟩:=by
 unfold jh gm at h ⊢;split
 ·rename_i h1; rw [if_pos h1] at h; cases h
 rename_i h1;rw [if_neg h1] at h;split
 ·rename_i h2; rw [if_pos h2] at h; exact absurd h h2
 rfl
theorem DG (hu:n.d.down=false) (hr:n.c.role=2) (h:(jh n to).2=0) (ht:to≠n.c.me/\0<=to/\to<n.c.many):LetI n (jh n to).1:=by
 rw [aaj h];exact ⟨hu,rfl,ht,rfl,rfl,fun e=>absurd (show (3:Int)=1 from e) (by decide),fun e=>absurd (show (3:Int)=2 from e) (by decide),fun _=>hr⟩
theorem Bt {n:Nd}:∀ {l:List Int} {x:Letter},x ∈ (ck n l).1->∃ to ∈ l,(jh n to).2=0/\x=(jh n to).1
 | [],_,h=>by cases h
 | t :: l,x,h=>by
  unfold ck at h;split at h
  ·rename_i h1;split at h
   ·rcases aa8.1 h with rfl | h
    ·exact ⟨t,by simp,h1,rfl⟩
    obtain ⟨u,hu,k⟩:=Bt h;exact ⟨u,by simp [hu],k⟩
   cases h
  cases h
theorem py (hx:x ∈ (bJ n).1):LetI n x:=by
 unfold bJ at hx;split at hx
 ·cases hx
 rename_i hd;split at hx
 ·rename_i hr;obtain ⟨to,h1,h2,rfl⟩:=Bt hx;exact DG (by simpa using hd) hr h2 (xL h1)
 cases hx
theorem StepR.tell {l:List Letter} (h:StepR n L n' [] L') (hl:∀ x ∈ l,LetI n' x):StepR n L n' l L':=⟨h.inv,h.pre,h.me,h.len,hl,h.mono⟩
theorem CT (hu:n.d.down=false) (hv:n.c.st.vote=n.c.me+1) (hx:x ∈ fp n.c):LetI n x:=by
 unfold fp at hx;obtain ⟨to,h1,rfl⟩:=List.mem_map.1 hx;exact ⟨hu,rfl,xL h1,rfl,rfl,fun _=>hv,fun e=>absurd (show (1:Int)=2 from e) (by decide),fun e=>absurd (show (1:Int)=3 from e) (by decide)⟩
theorem Of {s:Stable} {m:Int} (h:(aT s m).2=0) (hm:0<=m) (ht:0<=s.term):aT s m=([⟨2,s.term+1,m+1,[]⟩],0)/\stepsF s [⟨2,s.term+1,m+1,[]⟩]=({ s with term:=s.term+1,vote:=m+1 },0):=by
 unfold aT at h ⊢;split at h
 ·cases h
 rename_i h1;split at h
 ·cases h
 rename_i h2;rw [if_neg h1,if_neg h2];exact ⟨rfl,xv aL aL aL aL (.inl aL)⟩
variable {k:Int}
theorem Hj {a b:Int} (hk:k≠3):∀ r ∈ [Record.mk k a b []],r.kind=3->1<=r.b:=fun r hr e=>by
 rw [aa4.1 hr] at e; exact absurd e hk
theorem Hp (h:NInv n L):∃ L',StepR n L (bj n).n (bj n).l L':=by
 unfold bj;split
 ·exact ⟨L,.refl h⟩
 rename_i hd;have hu:n.d.down=false:=by simpa using hd
 split
 ·exact ⟨L,.refl h⟩
 rename_i hr;split
 ·exact ⟨L,.refl h⟩
 rename_i he;obtain ⟨e1,e2⟩:=Of (abc.1 he) h.ok.me.1 h.ok.term.1;rw [e1];dsimp only;split
 ·rename_i hs;exact lA h hu (by simp) (Hj (by decide)) hs
 rename_i hs;have y:=oB h hu (by simp) (Hj (by decide)) (abc.1 hs);have hi:=h.up hu;have es:=y.st;rw [e2] at es;generalize hl:[Record.mk 2 (n.c.st.term+1) (n.c.me+1) []]=l at *;have hm:=h.ok.me;have hm2:=h.ok.many;refine ⟨L++l,⟨⟨⟨y.ok,h.ok.many,h.ok.me,y.lt.1,y.lt.2,?_,?_,h.ok.rp⟩,y.d,y.le,fun _=>⟨y.sts,⟨hi.bin.1,hi.bin.2.1,?_⟩,⟨(by decide:(0:Int)<=1),(by decide:(1:Int)<=2)⟩,fun _=>?_,fun hr=>absurd (show (1:Int)=2 from hr) (by decide),?_⟩⟩,List.prefix_append _ _,⟨rfl,rfl⟩,y.len,fun x hx=>CT y.dn ?_ hx,fun _ _=>⟨aet _,?_,rfl⟩⟩⟩
 ·show 0<=n.c.applied/\n.c.applied<=n.c.commit/\n.c.commit<=((n.save l).c.st.log.length:Int);rw [es]; exact h.ok.com
 ·refine .inr ⟨?_,?_,?_,?_⟩
  ·show ((((List.replicate n.c.many.toNat false).set n.c.me.toNat true).length:Nat):Int)=n.c.many;rw [aef,aeA]; omega
  ·show ((((List.replicate n.c.many.toNat (0:Int)).set n.c.me.toNat n.c.bin).length:Nat):Int)=n.c.many;rw [aef,aeA]; omega
  ·show (((List.replicate n.c.many.toNat (0:Int)).length:Nat):Int)=n.c.many;rw [aeA]; omega
  show (((List.replicate n.c.many.toNat (0:Int)).length:Nat):Int)=n.c.many;rw [aeA]; omega
 ·show (n.save l).c.st.floor=n.c.bin;rw [es]; exact hi.bin.2.2
 ·show (n.save l).c.st.vote=n.c.me+1/\1<=(n.save l).c.st.term;rw [es]; exact ⟨rfl,by have:=h.ok.term.1; dsimp only; omega⟩
 ·show okPl n.c.bin ((n.save l).c.st.log.take n.c.applied.toNat)/\n.c.s=pS n.c.bin fr0 ((n.save l).c.st.log.take n.c.applied.toNat)/\n.rp=pR n.c.bin fr0 ((n.save l).c.st.log.take n.c.applied.toNat);rw [es]; exact hi.pl
 ·show (n.save l).c.st.vote=n.c.me+1;rw [es]
 show (n.save l).c.st.log.take n.c.commit.toNat=_;rw [es]
theorem yn:∀ {k:Nat} {n:Nd} {L:List Record},NInv n L->n.d.down=false->NInv (n.df k) L/\(n.df k).d=n.d/\(n.df k).c={ n.c with s:=(n.df k).c.s,applied:=(n.df k).c.applied }/\(n.df k).vs=n.vs/\(n.df k).bn=n.bn/\(n.df k).nx=n.nx/\(n.df k).mt=n.mt
 | 0,n,L,h,_=>⟨h,rfl,rfl,rfl,rfl,rfl,rfl⟩
 | k+1,n,L,h,hu=>by
  unfold Nd.df;split
  ·rename_i h1;split
   ·rename_i h2;have hi:=h.up hu;have hc:=h.ok.com;obtain ⟨x,hx⟩:∃ x,n.c.st.log[n.c.applied.toNat]? = some x:=⟨_,List.getElem?_eq_getElem (by omega)⟩;have e:(n.c.st.log.drop n.c.applied.toNat).take 1=[x]:=by
     obtain ⟨hlt,hxe⟩:=aaA.1 hx;rw [aez hlt,hxe]; rfl
    rw [e] at h2 ⊢;have hr:(a_ x n.c.bin).e=0:=by
     unfold pE at h2;split at h2
     ·assumption
     exact h2
    have eS:plS n.c.bin n.c.s [x]=ir n.c.bin n.c.s x:=by
     unfold plS pN pN;rw [if_pos hr]; rfl
    have eR:plR n.c.bin n.c.s [x]=[mJ n.c.bin n.c.s x]:=by
     unfold plR pN pN;rw [if_pos hr]; rfl
    have et:(n.c.applied+1).toNat=n.c.applied.toNat+1:=by omega
    obtain ⟨p1,p2,p3⟩:=hi.pl;rw [eS,eR];have hn:NInv { n with c:={ n.c with s:=ir n.c.bin n.c.s x,applied:=n.c.applied+1 },rp:=n.rp++[mJ n.c.bin n.c.s x] } L:=by
     refine ⟨⟨h.ok.d,h.ok.many,h.ok.me,h.ok.log,h.ok.term,⟨by dsimp only; omega,by dsimp only; omega,hc.2.2⟩,h.ok.len,?_⟩,h.d,h.le,fun _=>⟨hi.st,hi.bin,hi.role,hi.vote,hi.nx,?_⟩⟩
     ·dsimp only;rw [List.length_append,afo];have:=h.ok.rp; omega
     dsimp only;rw [et];refine ⟨EF p1 hx hr,?_,?_⟩
     ·rw [p2]; exact UM hx
     rw [p3,p2]; exact UT hx
    obtain ⟨k1,k2,k3,k4,k5,k6,k7⟩:=yn (k:=k) hn hu;exact ⟨k1,k2,k3,k4,k5,k6,k7⟩
   exact ⟨h,rfl,rfl,rfl,rfl,rfl,rfl⟩
  exact ⟨h,rfl,rfl,rfl,rfl,rfl,rfl⟩
theorem lq {s:Stable}:∀ r ∈ aA s t,r.kind=3->1<=r.b:=fun r hr e=>by
 unfold aA at hr;split at hr
 ·cases hr
 exact Hj (by decide) r hr e
theorem gb {s:Stable}:(aA s t).length<=1:=by
 unfold aA;split <;> simp
theorem oR (h:mayL x=0):x.frm≠x.to:=by
 unfold mayL at h;split at h
 ·rename_i h1;have h1:=h1.1;simp only [nK,Bool.and_eq_true,aeu,aey] at h1;exact h1.1.1.1.1.1.1.1.2
 cases h
structure ForMe (n:Nd) (x:Letter):Prop where
 may:mayL x=0
 to:x.to=n.c.me
 frm:x.frm<n.c.many
theorem wS (h:db n.c x=true):ForMe n x/\(x.kind=3->(aB n.c.st x).2.2.2=0/\(aB n.c.st x).1.any (fun r=>decide (r.kind=4) && decide (r.a<=n.c.commit))=false):=by
 unfold db at h;split at h
 ·cases h
 rename_i h1;refine ⟨⟨by omega,by omega,by omega⟩,fun hk=>?_⟩;rw [if_neg (abc.2 hk)] at h;split at h
 ·cases h
 rename_i h2;exact ⟨abc.1 h2,by simpa using h⟩
theorem aaw {s:Stable} (h:(aH s x).2.2=0) (hm:mayL x=0):(aH s x).1.length<=1/\(∀ r ∈ (aH s x).1,r.kind=3->1<=r.b) /\
  (stepsF s (aH s x).1)=({ s with term:=max s.term x.term,vote:=if (aH s x).2.1=true then x.frm+1 else if s.term<x.term then 0 else s.vote },0) /\
  ((aH s x).2.1=true->s.term<=x.term/\(x.term=s.term->s.vote=0\/s.vote=x.frm+1))/\(x.term<=s.term->(aH s x).2.1=false->(aH s x).1=[])/\(x.term<=s.term->s.vote≠0->(aH s x).1=[]):=by
 have hb:=fH hm;unfold aH at h ⊢;split at h
 ·cases h
 rename_i h1;rw [if_neg h1];split at h
 ·rename_i h2;rw [if_pos h2];have:=(nc (s:=s) (t:=x.term) (by omega) (by omega)).1;refine ⟨gb,lq,?_,fun e=>(by cases e),fun e _=>(by unfold aA; rw [if_pos e]),fun e _=>(by unfold aA; rw [if_pos e])⟩;dsimp only;rw [this]; simp
 rename_i h2;rw [if_neg h2];have h3:s.term<=x.term/\GK s x=true:=by
  rw [not_or,not_or] at h2;exact ⟨by omega,by simpa using h2.1.2⟩
 have h4:x.term=s.term->s.vote=0\/s.vote=x.frm+1:=fun e=>by
  have:=h3.2;simp only [GK,Bool.or_eq_true,decide_eq_true_eq] at this;omega
 split
 ·rename_i h5;refine ⟨by simp,fun _ hr=>(by cases hr),?_,fun _=>⟨h3.1,h4⟩,fun _ _=>rfl,fun _ _=>rfl⟩;dsimp only;rw [stepsF,if_pos rfl,show max s.term x.term=s.term by omega,<- h5.2]
 rename_i h5;refine ⟨by simp,Hj (by decide),?_,fun _=>⟨h3.1,h4⟩,fun _ e=>(by cases e),fun h6 h7=>?_⟩
 ·dsimp only;rw [xv (by omega) (by omega) (by omega) (by omega) (by omega),if_pos rfl,show max s.term x.term=x.term by omega]
 exfalso;have e:x.term=s.term:=by omega
 rcases h4 e with h8 | h8
 ·exact h7 h8
 exact h5 ⟨e,h8⟩
theorem Eu (h:NInv n L) (hu:n.d.down=false) (hx:ForMe n x) (hr:n.c.role≠0->x.term<=n.c.st.term):∃ L',StepR n L (cF n x).n (cF n x).l L':=by
 unfold cF;split
 ·exact ⟨L,.refl h⟩
 rename_i he;obtain ⟨a1,a2,a3,a4,a5,a6⟩:=aaw (abc.1 he) hx.may;split
 ·rename_i hs;exact lA h hu aL a2 hs
 rename_i hs;have y:=oB h hu (by omega) a2 (abc.1 hs);have es:=y.st;rw [a3] at es;have hi:=h.up hu;refine ⟨_,(ma h hu y (fun hr0=>?_) (by rw [es]) (by rw [es]) (by rw [es]; exact h.ok.com.2.2) (fun _=>by rw [es]; exact Nat.le_refl _)).tell fun z hz=>?_⟩
 ·have hv:=hi.vote hr0;have e:=y.no (a6 (hr hr0) (by have:=h.ok.me; omega));rw [e]; exact hv
 rw [aa4.1 hz];have hb:=fH hx.may;have hne:=oR hx.may;refine ⟨y.dn,rfl,⟨by have:=hx.to; show x.frm≠n.c.me; omega,hb.1,hx.frm⟩,rfl,rfl,fun e=>absurd (show (2:Int)=1 from e) (by decide),fun _ e=>?_,fun e=>absurd (show (2:Int)=3 from e) (by decide)⟩;have e:(aH n.c.st x).2.1=true:=e;show (n.save (aH n.c.st x).1).c.st.vote=x.frm+1;rw [es,if_pos e]
theorem FM:∀ {m:List Entry} {k:Int},m.all eN=true->∀ r ∈ fb k m,r.kind=3->1<=r.b
 | [],_,_,_,hr,_=>by cases hr
 | y :: m,k,h,r,hr,e=>by
  rw [afB,Bool.and_eq_true,vJ] at h;rcases aa8.1 hr with rfl | hr
  ·exact h.1.1
  exact FM h.2 r hr e
theorem fZ {s:Stable} (h:(aB s x).2.2.2=0):(mayL x=0/\x.kind=3/\x.a+x.l.length<=64)/\((x.term<s.term/\aB s x=([],false,0,0))\/(s.term<=x.term/\cK s.log x.a=x.b/\aB s x=(iO s x,true,x.a+x.l.length,0))\/(s.term<=x.term/\¬ cK s.log x.a=x.b/\aB s x=(aA s x.term,false,0,0))):=by
 unfold aB at h ⊢;split at h
 ·cases h
 rename_i h1;rw [if_neg h1];refine ⟨by omega,?_⟩;by_cases h2:x.term<s.term
 ·exact .inl ⟨h2,by rw [if_pos h2]⟩
 by_cases h3:cK s.log x.a=x.b
 ·exact .inr (.inl ⟨by omega,h3,by rw [if_neg h2,if_pos h3]⟩)
 exact .inr (.inr ⟨by omega,h3,by rw [if_neg h2,if_neg h3]⟩)
theorem vV {s:Stable} (h:mayL x=0):(iO s x).length<=6:=by
 have hb:=fH h;have h1:=gb (s:=s) (t:=x.term);have h2:∀ (m:List Entry) (k:Int),(fb k m).length=m.length:=fun m=>by
  induction m with
  | nil=>intro _; rfl
  | cons y m ih=>intro k; rw [fb,List.length_cons,List.length_cons,ih]
 have h3:(bd s.log x.a x.l).2.length<=x.l.length:=by
  unfold bd;split
  ·simp
  split
  ·simp
  split <;> simp
 unfold iO;rw [List.length_append,List.length_append,h2];split
 ·rw [List.length_nil]; omega
 rw [afo]; omega
theorem Uh {s:Stable} (h:mayL x=0):∀ r ∈ iO s x,r.kind=3->1<=r.b:=fun r hr e=>by
 unfold iO at hr;rcases List.mem_append.1 hr with hr | hr
 ·rcases List.mem_append.1 hr with hr | hr
  ·exact lq r hr e
  split at hr
  ·cases hr
  exact Hj (by decide) r hr e
 refine FM ?_ r hr e;have:=zl h;unfold bd;split
 ·rfl
 split
 ·rfl
 split <;> exact k_ this
theorem wR {s:Stable} (hm:mayL x=0) (ha:x.a.toNat<=s.log.length) (hc:(iO s x).any (fun r=>decide (r.kind=4) && decide (r.a<=k))=false) (h0:0<=k) (hk:k<=s.log.length):(dN s x).take k.toNat=s.log.take k.toNat/\k<=((dN s x).length:Int):=by
 have hb:=fH hm;have hq:=lK (h:=s.log.drop x.a.toNat) (a:=x.l);rw [List.length_drop] at hq;unfold dN;split
 ·exact ⟨rfl,hk⟩
 rename_i h1;have h2:k.toNat<=x.a.toNat+e_ s x\/s.log.length<=x.a.toNat+e_ s x:=by
  by_cases q2:(s.log.drop x.a.toNat).length<=e_ s x
  ·right; rw [List.length_drop] at q2; omega
  left;have e:bd s.log x.a x.l=(x.a+e_ s x+1,x.l.drop (e_ s x)):=by rw [bd,if_neg (by omega)]; exact (if_neg h1).trans (if_neg q2)
  have h3:Record.mk 4 (x.a+e_ s x+1) 0 [] ∈ iO s x:=by
   unfold iO;rw [e];dsimp only;rw [if_neg (by omega)];simp
  have h4:=List.any_eq_false.1 hc _ h3;simp only [decide_true,Bool.true_and,decide_eq_true_eq] at h4;omega
 have hl:k.toNat<=(s.log.take (x.a.toNat+e_ s x)).length:=by rw [List.length_take]; omega
 refine ⟨?_,by rw [List.length_append]; omega⟩;rw [aex hl,aiE];rcases h2 with h2 | h2
 ·rw [aew h2]
 rw [aew (by omega)]
theorem wC {s:Stable} (h:(saveF d s l).2.2=0):(saveF d s l).2.1=(stepsF s l).1/\(stepsF s l).2=0:=by
 unfold saveF at h ⊢;split at h
 ·cases h
 rename_i h1;split at h
 ·rename_i h2; exact absurd h h2
 rename_i h2;have h2:=abc.1 h2;rw [if_neg h1,if_neg (by rw [h2]; decide)];split at h
 ·rename_i h3;rw [if_pos h3];obtain rfl:=aa7 h3;exact ⟨rfl,rfl⟩
 rename_i h3;rw [if_neg h3];split at h
 ·rename_i h4; exact absurd h h4
 rename_i h4;rw [if_neg h4];split at h
 ·rename_i h5; exact absurd h h5
 rename_i h5;rw [if_neg h5]; exact ⟨rfl,h2⟩
theorem rz (h0:NdOK n) (hm:db n.c x=true) (hk:x.kind=3) (hy:(aB n.c.st x).2.1=true) :
  (aB n.c.st x)=(iO n.c.st x,true,x.a+x.l.length,0)/\n.c.st.term<=x.term/\(stepsF n.c.st (iO n.c.st x))=({ n.c.st with term:=x.term,vote:=if n.c.st.term<x.term then 0 else n.c.st.vote,log:=dN n.c.st x },0) /\
  (dN n.c.st x).take n.c.commit.toNat=n.c.st.log.take n.c.commit.toNat/\n.c.commit<=((dN n.c.st x).length:Int)/\x.a+x.l.length<=((dN n.c.st x).length:Int)/\mayL x=0/\cK n.c.st.log x.a=x.b:=by
 obtain ⟨h1,h2⟩:=wS hm;obtain ⟨h3,h4⟩:=h2 hk;have hb:=fH h1.may;obtain ⟨⟨_,_,h64⟩,hc⟩:=fZ h3;rcases hc with ⟨_,e⟩ | ⟨e1,e2,e⟩ | ⟨_,_,e⟩
 ·rw [e] at hy; cases hy
 ·rw [e] at h4;have h5:=(SG h1.may h0.log h64 e1 e2 (by omega) (by omega) (by omega)).1;have ha:=yq e2 (JL h1.may) (by omega);obtain ⟨h6,h7⟩:=wR h1.may ha h4 (by have:=h0.com; omega) h0.com.2.2;have h8:=yo (x:=x) ha;exact ⟨e,e1,h5,h6,h7,by omega,h1.may,e2⟩
 rw [e] at hy; cases hy
theorem FV (h0:NdOK n) (hm:db n.c x=true) (hk:x.kind=3) (he:n.aN (aB n.c.st x).1=0) (hy:(aB n.c.st x).2.1=true) :
  (0<=(n.save (aB n.c.st x).1).c.applied/\max (n.save (aB n.c.st x).1).c.commit (min x.c (aB n.c.st x).2.2.1)<=((n.save (aB n.c.st x).1).c.st.log.length:Int))/\((n.save (aB n.c.st x).1).rp.length:Int)<=(n.save (aB n.c.st x).1).c.applied/\(n.save (aB n.c.st x).1).c.st.log.length<=10000:=by
 obtain ⟨e,e1,e2,e3,e4,e5,_⟩:=rz h0 hm hk hy;have h1:(n.save (aB n.c.st x).1).c.st=(stepsF n.c.st (aB n.c.st x).1).1:=(wC he).1;have h2:=nr (l:=(aB n.c.st x).1) h0.log h0.term;rw [<- h1] at h2;have h3:(n.save (aB n.c.st x).1).c.st.log=dN n.c.st x:=by
  rw [h1,e];dsimp only;rw [e2]
 have h4:=h0.com;have h5:=h0.rp;have h6:(aB n.c.st x).2.2.1=x.a+x.l.length:=by rw [e]
 refine ⟨⟨h4.1,?_⟩,?_,by omega⟩
 ·show max n.c.commit (min x.c (aB n.c.st x).2.2.1)<=_;rw [h3,h6]; omega
 show ((n.rp.length:Nat):Int)<=n.c.applied;omega
theorem StepR.commit {n n':Nd} {L L':List Record} {c:Int} (h:StepR n L n' [] L') (hu:n'.d.down=false) (hc:n'.c.commit<=c) (hl:c<=(n'.c.st.log.length:Int)):StepR n L ({ n' with c:={ n'.c with commit:=c } }:Nd).apply [] L' /\
  (({ n' with c:={ n'.c with commit:=c } }:Nd).apply.d=n'.d/\({ n' with c:={ n'.c with commit:=c } }:Nd).apply.c.me=n'.c.me/\({ n' with c:={ n'.c with commit:=c } }:Nd).apply.c.many=n'.c.many/\({ n' with c:={ n'.c with commit:=c } }:Nd).apply.c.st=n'.c.st/\({ n' with c:={ n'.c with commit:=c } }:Nd).apply.c.bin=n'.c.bin/\({ n' with c:={ n'.c with commit:=c } }:Nd).apply.c.role=n'.c.role):=by
 have hi:=h.inv.up hu;have hk:=h.inv.ok;have hn:NInv ({ n' with c:={ n'.c with commit:=c } }:Nd) L':=⟨⟨hk.d,hk.many,hk.me,hk.log,hk.term,⟨hk.com.1,af5 hk.com.2.1 hc,hl⟩,hk.len,hk.rp⟩,h.inv.d,h.inv.le,fun _=>⟨hi.st,hi.bin,hi.role,hi.vote,hi.nx,hi.pl⟩⟩;obtain ⟨k1,k2,k3,k4,k5,k6,k7⟩:=yn (k:=(c - n'.c.applied).toNat) hn hu;have e0:({ n' with c:={ n'.c with commit:=c } }:Nd).apply=({ n' with c:={ n'.c with commit:=c } }:Nd).df (c - n'.c.applied).toNat:=rfl;rw [e0];generalize ({ n' with c:={ n'.c with commit:=c } }:Nd).df (c - n'.c.applied).toNat=q at *;have e1:q.c.me=n'.c.me/\q.c.many=n'.c.many/\q.c.st=n'.c.st/\q.c.bin=n'.c.bin/\q.c.role=n'.c.role/\q.c.commit=c:=by rw [k3]; exact ⟨rfl,rfl,rfl,rfl,rfl,rfl⟩
 obtain ⟨e1,e2,e3,e4,e5,e6⟩:=e1;refine ⟨⟨k1,h.pre,by rw [e1,e2]; exact h.me,by rw [k2]; exact h.len,fun _ hx=>(by cases hx),fun h1 h2=>?_⟩,k2,e1,e2,e3,e4,e5⟩;obtain ⟨m1,m2,m3⟩:=h.mono h1 hu;rw [e3,e4,e6];exact ⟨af5 m1 hc,m2,m3⟩
theorem Bo (h:NInv n L) (hu:n.d.down=false) (hm:db n.c x=true) (hk:x.kind=3):∃ L',StepR n L (bO n x).n (bO n x).l L':=by
 obtain ⟨h1,h2⟩:=wS hm;obtain ⟨h3,h4⟩:=h2 hk;have hb:=fH h1.may;have hne:=oR h1.may;have hi:=h.up hu;have hto:x.frm≠n.c.me/\0<=x.frm/\x.frm<n.c.many:=⟨by have:=h1.to; omega,by omega,h1.frm⟩;have hlen:(aB n.c.st x).1.length<=6:=by
  rcases (fZ h3).2 with ⟨_,e⟩ | ⟨_,_,e⟩ | ⟨_,_,e⟩ <;> rw [e]
  ·simp
  ·exact vV h1.may
  have:=gb (s:=n.c.st) (t:=x.term); dsimp only; omega
 have h3k:∀ r ∈ (aB n.c.st x).1,r.kind=3->1<=r.b:=by
  rcases (fZ h3).2 with ⟨_,e⟩ | ⟨_,_,e⟩ | ⟨_,_,e⟩ <;> rw [e]
  ·intro r hr; cases hr
  ·exact Uh h1.may
  exact lq
 unfold bO;rw [if_neg (by omega)];split
 ·rename_i hs;exact lA h hu hlen h3k hs
 rename_i hs;have hs:=abc.1 hs;have y:=oB h hu hlen h3k hs;generalize hl:(aB n.c.st x).1=l at *;have hst:((n.save l).c.st.floor=n.c.st.floor)/\(n.save l).c.st.term=max n.c.st.term x.term/\(n.save l).c.st.vote=(if n.c.st.term<x.term then 0 else n.c.st.vote)/\(n.save l).c.st.log.take n.c.commit.toNat=n.c.st.log.take n.c.commit.toNat/\n.c.commit<=((n.save l).c.st.log.length:Int)/\((aB n.c.st x).2.1=true->n.c.st.term<=x.term/\(aB n.c.st x).2.2.1<=((n.save l).c.st.log.length:Int))/\((aB n.c.st x).2.1=false->(n.save l).c.st.log=n.c.st.log):=by
  have es:=y.st;rw [<- hl] at es ⊢;rcases (fZ h3).2 with ⟨e1,e⟩ | ⟨e0,_,e⟩ | ⟨_,_,e⟩
  ·rw [e] at es ⊢;rw [es];exact ⟨rfl,by show n.c.st.term=_; omega,by rw [if_neg (by omega)]; rfl,rfl,h.ok.com.2.2,fun q=>(by cases q),fun _=>rfl⟩
  ·have hy:(aB n.c.st x).2.1=true:=by rw [e]
   obtain ⟨_,e1,e2,e3,e4,e5,_⟩:=rz h.ok hm hk hy;rw [e] at es ⊢;dsimp only at es ⊢;rw [es,e2];exact ⟨rfl,by dsimp only; omega,rfl,e3,e4,fun _=>⟨e1,e5⟩,fun q=>(by cases q)⟩
  have e2:=(nc (s:=n.c.st) (t:=x.term) (by omega) (by omega)).1;rw [e] at es ⊢;dsimp only at es ⊢;rw [es,e2];exact ⟨rfl,rfl,rfl,rfl,h.ok.com.2.2,fun q=>(by cases q),fun _=>rfl⟩
 obtain ⟨s1,s2,s3,s4,s5,s6,s7⟩:=hst;dsimp only;have hlt:∀ {m:Nd} {z:Letter},m.d=(n.save l).d->m.c.me=n.c.me->m.c.many=n.c.many->m.c.st=(n.save l).c.st->m.c.bin=n.c.bin->z.kind=4->z.frm=n.c.me->z.to=x.frm->z.term=(n.save l).c.st.term->z.bin=n.c.bin->LetI m z:=fun {m z} e1 e2 e3 e4 e5 k1 k2 k3 k4 k5=>
  ⟨by rw [e1]; exact y.dn,by rw [e2,k2],by rw [e2,e3,k3]; exact hto,by rw [e4,k4],by rw [e5,k5],fun e=>absurd (k1.symm.trans e) (by decide),fun e=>absurd (k1.symm.trans e) (by decide),fun e=>absurd (k1.symm.trans e) (by decide)⟩
 by_cases ht:x.term=(n.save l).c.st.term
 ·rw [if_pos ht];have hf:StepR n L (n.save l).follow [] (L++l):=(ma h.follow hu ⟨y.d,y.dn,y.st,y.sts,y.le,y.len,y.ok,y.lt,fun e=>congrArg Nd.follow (y.no e)⟩ (fun hr0=>absurd rfl hr0) s1 s4 s5 (fun hr0=>absurd (show (0:Int)=2 from hr0) (by decide))).lS;by_cases hy:(aB n.c.st x).2.1=true
  ·rw [if_pos hy];have h6:=(s6 hy).2;obtain ⟨k1,k2⟩:=hf.commit y.dn (c:=max n.c.commit (min x.c (aB n.c.st x).2.2.1)) (by show n.c.commit<=_; omega) (by show _<=((n.save l).c.st.log.length:Int); omega);obtain ⟨e1,e2,e3,e4,e5,e6⟩:=k2;refine ⟨L++l,k1.tell fun z hz=>?_⟩;rw [aa4.1 hz];exact hlt e1 e2 e3 e4 e5 rfl rfl rfl rfl rfl
  rw [if_neg hy];refine ⟨L++l,hf.tell fun z hz=>?_⟩;rw [aa4.1 hz];exact hlt rfl rfl rfl rfl rfl rfl rfl rfl rfl rfl
 rw [if_neg ht];have h0:x.term<n.c.st.term:=by omega
 have e:aB n.c.st x=([],false,0,0):=by
  rcases (fZ h3).2 with ⟨_,e⟩ | ⟨_,_,_⟩ | ⟨_,_,_⟩
  ·exact e
  ·omega
  omega
 have el:l=[]:=by rw [<- hl,e]
 rw [e];dsimp only;rw [if_neg (by decide)];have r:StepR n L (n.save l) [] L:=by rw [y.no el]; exact StepR.refl h
 refine ⟨L,r.tell fun z hz=>?_⟩;rw [aa4.1 hz];exact hlt rfl rfl rfl rfl rfl rfl rfl rfl rfl rfl
theorem BB:∀ {n:Nat} {s:Stable} {b:List UInt8},s.log.length<=64->0<=s.term/\s.term<=1048576->((playB n s b).1.log.length<=64/\0<=(playB n s b).1.term/\(playB n s b).1.term<=1048576)/\0<=(playB n s b).2/\(playB n s b).2<=(b.length:Int)
 | 0,_,_,h,k=>⟨⟨h,k⟩,aet _,Int.natCast_nonneg _⟩
 | n+1,s,b,h,k=>by
  unfold playB;split
  ·exact ⟨⟨h,k⟩,aet _,Int.natCast_nonneg _⟩
  rename_i h1;split
  ·exact ⟨⟨h,k⟩,aet _,Int.natCast_nonneg _⟩
  split
  ·exact ⟨⟨h,k⟩,aet _,Int.natCast_nonneg _⟩
  rename_i h3;have hs:=gZ (abc.1 h1);obtain ⟨hr,hb⟩:=lI (abc.1 h3);obtain ⟨k1,k2⟩:=pV hr hb h k;obtain ⟨k3,k4,k5⟩:=BB (n:=n) (b:=b.drop (bh b).2.1.toNat) k1 k2;rw [List.length_drop] at k5;refine ⟨k3,?_,?_⟩ <;> dsimp only <;> omega
theorem mK (b:List UInt8):((replayF b).1.log.length<=64/\0<=(replayF b).1.term/\(replayF b).1.term<=1048576)/\0<=(replayF b).2/\(replayF b).2<=(b.length:Int):=
 BB (by simp) ⟨by decide,by decide⟩
theorem Wg (h:d.OK):d.up.OK:=h
theorem aaD (h:d.OK) (h1:d.down=false) (h2:0<=k) (h3:k<=(d.b.length:Int)):(d.cut k).OK/\d.ln k=0/\d.cut k=⟨d.b.take k.toNat,k,false,d.doomed,d.keep⟩:=by
 have hn:¬ (d.down=true\/k<0\/(d.b.length:Int)<k):=by rw [h1]; rintro (h | h | h) <;> first | cases h | omega
 have e:d.cut k=⟨d.b.take k.toNat,k,false,d.doomed,d.keep⟩:=by rw [Dsk.cut,if_neg hn,h1]
 refine ⟨?_,?_,e⟩
 ·rw [e];refine ⟨h2,?_,?_⟩ <;> dsimp only <;> rw [List.length_take]
  ·omega
  have:=h.2.2; omega
 rw [Dsk.ln,if_neg (by rw [h1]; decide),if_neg (by omega)]
theorem rv (h:d.OK):(d.cD k).OK:=by
 obtain ⟨h1,h2,h3⟩:=h;refine ⟨?_,?_,?_⟩ <;> simp only [Dsk.cD,Dsk.at_]
 ·omega
 ·rw [List.length_take]; omega
 rw [List.length_take]; omega
theorem Ta (h:d.OK):d.sync.OK:=by
 unfold Dsk.sync;split
 ·exact h
 split
 ·exact rv h
 exact ⟨Int.natCast_nonneg _,aet _,h.2.2⟩
theorem ab8 {x:List UInt8} (h:d.OK):(d.app x).OK:=by
 obtain ⟨h1,h2,h3⟩:=h;unfold Dsk.app;split
 ·exact ⟨h1,h2,h3⟩
 refine ⟨h1,?_,?_⟩ <;> dsimp only <;> rw [List.length_append] <;> omega
theorem qU {s:Stable} (h:d.OK):(saveF d s l).1.OK:=by
 unfold saveF;repeat' split
 all_goals first | exact h | exact Ta (ab8 h)
abbrev Nd.fr (n:Nd) (b:Int):Nd:=⟨⟨n.c.me,n.c.many,b,(replayF n.d.b).1,0,0,0,State.mk 1 1 0 0 [] [] []⟩,(if n.d.down=true then n.d.up else n.d).cut (replayF n.d.b).2,[],[],[],[],[]⟩
section
variable {n:Nd} {b:Int}
theorem adv (h:n.d.down=false):aV n b=⟨n,[],31⟩:=if_pos h
variable (h:n.d.down=true)
include h
theorem MS:n.fresh b=n.fr b:=by
 rw [Nd.fresh,Nd.fr,if_pos h]
theorem aeq (h1:¬ bZ b (max (replayF n.d.b).1.floor 1)=0):aV n b=⟨n,[],bZ b (max (replayF n.d.b).1.floor 1)⟩:=by rw [aV,if_neg (by rw [h]; decide),if_pos h1]
theorem xR (h0:n.d.OK):((if n.d.down=true then n.d.up else n.d).cut (replayF n.d.b).2).OK/\(if n.d.down=true then n.d.up else n.d).ln (replayF n.d.b).2=0/\(if n.d.down=true then n.d.up else n.d).cut (replayF n.d.b).2=⟨n.d.b.take (replayF n.d.b).2.toNat,(replayF n.d.b).2,false,false,0⟩:=by
 rw [if_pos h];have:=mK n.d.b;exact aaD (d:=n.d.up) (Wg h0) rfl this.2.1 this.2.2
variable (h1:bZ b (max (replayF n.d.b).1.floor 1)=0)
include h1
theorem aac (h2:(replayF n.d.b).1.floor<b) (h3:(n.fr b).aN [⟨1,b,0,[]⟩]=0):aV n b=⟨(n.fr b).save [⟨1,b,0,[]⟩],[],0⟩:=by
 rw [aV,if_neg (by rw [h]; decide),if_neg (by omega),MS h];dsimp only;rw [if_pos h2];exact if_pos h3
theorem WT (h2:(replayF n.d.b).1.floor<b) (h3:¬ (n.fr b).aN [⟨1,b,0,[]⟩]=0):aV n b=⟨{ (n.fr b).save [⟨1,b,0,[]⟩] with d:=((n.fr b).save [⟨1,b,0,[]⟩]).d.cD 0 },[],(n.fr b).aN [⟨1,b,0,[]⟩]⟩:=by
 rw [aV,if_neg (by rw [h]; decide),if_neg (by omega),MS h];dsimp only;rw [if_pos h2];exact if_neg h3
theorem aai (h2:b<=(replayF n.d.b).1.floor):aV n b=⟨n.fr b,[],0⟩:=by
 rw [aV,if_neg (by rw [h]; decide),if_neg (by omega),MS h];dsimp only;rw [if_neg (by omega)]
theorem agn:(aV n b).n.rp=[]/\(aV n b).n.vs=[]/\(aV n b).n.bn=[]/\(aV n b).n.nx=[]/\(aV n b).n.mt=[]:=by
 by_cases h2:(replayF n.d.b).1.floor<b
 ·by_cases h3:(n.fr b).aN [⟨1,b,0,[]⟩]=0
  ·rw [aac h h1 h2 h3]; exact ⟨rfl,rfl,rfl,rfl,rfl⟩
  rw [WT h h1 h2 h3]; exact ⟨rfl,rfl,rfl,rfl,rfl⟩
 rw [aai h h1 (by omega)]; exact ⟨rfl,rfl,rfl,rfl,rfl⟩
end
end Go.Proofs.YticbaadnibdbkaaGreat
namespace Go.Proofs.YticbaadnibdbkaaGreat
open Go.Shelf Go.Proofs
def uj:Go.Shelf.Ren:=⟨fun | 125=>283 | 128=>326 | 129=>327 | n=>n,fun | 46=>192 | 3=>3 | 51=>193 | 53=>173 | 4=>4 | 5=>5 | 9=>9 | n=>n,fun | n=>n⟩
theorem ID:Lays.n125 Tryz.prog uj:={
 mixed:=bG
 f125:=Tryz.func283.trans (congrArg some bG)
 f128:=Tryz.func326.trans (congrArg some bG)
 f129:=Tryz.func327.trans (congrArg some bG)
 t3:=Tryz.underlying3
 a3:=Tryz.isAgg3
 z3:=Tryz.sizeOf3
 v3:=Tryz.zeroValue3
 t4:=Tryz.underlying4
 a4:=Tryz.isAgg4
 z4:=Tryz.sizeOf4
 v4:=Tryz.zeroValue4
 t5:=Tryz.underlying5
 a5:=Tryz.isAgg5
 z5:=Tryz.sizeOf5
 v5:=Tryz.zeroValue5
 t9:=Tryz.underlying9
 a9:=Tryz.isAgg9
 z9:=Tryz.sizeOf9
 v9:=Tryz.zeroValue9
 t46:=Tryz.underlying192
 a46:=Tryz.isAgg192
 z46:=Tryz.sizeOf192
 v46:=Tryz.zeroValue192
 t51:=Tryz.underlying193
 a51:=Tryz.isAgg193
 z51:=Tryz.sizeOf193
 v51:=Tryz.zeroValue193
 t53:=Tryz.underlying173
 a53:=Tryz.isAgg173
 z53:=Tryz.sizeOf173
 v53:=Tryz.zeroValue173 }
def iA:Go.Shelf.Ren:=⟨fun | 6=>265 | 15=>283 | 14=>282 | 28=>326 | 29=>327 | 20=>318 | 21=>319 | 22=>320 | 23=>321 | 24=>322 | 25=>323 | 26=>324 | 27=>325 | 46=>350 | 47=>351 | 48=>352 | 49=>353 | 50=>354 | 57=>364 | n=>n,fun | 22=>33 | 24=>3 | 25=>217 | 3=>3 | 39=>192 | 0=>0 | 53=>193 | 55=>173 | 4=>4 | 46=>318 | 45=>317 | 50=>322 | 5=>5 | 9=>9 | 66=>340 | 70=>344 | 76=>353 | 77=>112 | n=>n,fun | n=>n⟩
theorem sY:Go.Proofs.SlLaysF.n6 Tryz.prog iA:={
 mixed:=bG
 f6:=⟨Tryz.f265.name,by decide,Tryz.func265.trans (congrArg some bG)⟩
 f14:=⟨Tryz.f282.name,by decide,Tryz.func282.trans (congrArg some bG)⟩
 f15:=Tryz.func283.trans (congrArg some bG)
 f20:=⟨Tryz.f318.name,by decide,Tryz.func318.trans (congrArg some bG)⟩
 f21:=⟨Tryz.f319.name,by decide,Tryz.func319.trans (congrArg some bG)⟩
 f22:=⟨Tryz.f320.name,by decide,Tryz.func320.trans (congrArg some bG)⟩
 f23:=⟨Tryz.f321.name,by decide,Tryz.func321.trans (congrArg some bG)⟩
 f24:=⟨Tryz.f322.name,by decide,Tryz.func322.trans (congrArg some bG)⟩
 f25:=⟨Tryz.f323.name,by decide,Tryz.func323.trans (congrArg some bG)⟩
 f26:=⟨Tryz.f324.name,by decide,Tryz.func324.trans (congrArg some bG)⟩
 f27:=⟨Tryz.f325.name,by decide,Tryz.func325.trans (congrArg some bG)⟩
 f28:=Tryz.func326.trans (congrArg some bG)
 f29:=Tryz.func327.trans (congrArg some bG)
 f46:=⟨Tryz.f350.name,by decide,Tryz.func350.trans (congrArg some bG)⟩
 f47:=Tryz.func351.trans (congrArg some bG)
 f48:=Tryz.func352.trans (congrArg some bG)
 f49:=⟨Tryz.f353.name,by decide,Tryz.func353.trans (congrArg some bG)⟩
 f50:=⟨Tryz.f354.name,by decide,Tryz.func354.trans (congrArg some bG)⟩
 f57:=⟨Tryz.f364.name,by decide,Tryz.func364.trans (congrArg some bG)⟩
 t0:=Tryz.underlying0
 a0:=Tryz.isAgg0
 z0:=Tryz.sizeOf0
 v0:=Tryz.zeroValue0
 t3:=Tryz.underlying3
 a3:=Tryz.isAgg3
 z3:=Tryz.sizeOf3
 v3:=Tryz.zeroValue3
 t4:=Tryz.underlying4
 a4:=Tryz.isAgg4
 z4:=Tryz.sizeOf4
 v4:=Tryz.zeroValue4
 t5:=Tryz.underlying5
 a5:=Tryz.isAgg5
 z5:=Tryz.sizeOf5
 v5:=Tryz.zeroValue5
 t9:=Tryz.underlying9
 a9:=Tryz.isAgg9
 z9:=Tryz.sizeOf9
 v9:=Tryz.zeroValue9
 t22:=Tryz.underlying33
 a22:=Tryz.isAgg33
 z22:=Tryz.sizeOf33
 v22:=Tryz.zeroValue33
 a24:=Tryz.isAgg3
 z24:=Tryz.sizeOf3
 t25:=Tryz.underlying217
 a25:=Tryz.isAgg217
 z25:=Tryz.sizeOf217
 v25:=Tryz.zeroValue217
 t39:=Tryz.underlying192
 a39:=Tryz.isAgg192
 z39:=Tryz.sizeOf192
 v39:=Tryz.zeroValue192
 t45:=Tryz.underlying317
 a45:=Tryz.isAgg317
 z45:=Tryz.sizeOf317
 v45:=Tryz.zeroValue317
 t46:=Tryz.underlying318
 a46:=Tryz.isAgg318
 z46:=Tryz.sizeOf318
 v46:=Tryz.zeroValue318
 t50:=Tryz.underlying322
 a50:=Tryz.isAgg322
 z50:=Tryz.sizeOf322
 v50:=Tryz.zeroValue322
 t53:=Tryz.underlying193
 a53:=Tryz.isAgg193
 z53:=Tryz.sizeOf193
 v53:=Tryz.zeroValue193
 t55:=Tryz.underlying173
 a55:=Tryz.isAgg173
 z55:=Tryz.sizeOf173
 v55:=Tryz.zeroValue173
 t66:=Tryz.underlying340
 a66:=Tryz.isAgg340
 z66:=Tryz.sizeOf340
 v66:=Tryz.zeroValue340
 t70:=Tryz.underlying344
 a70:=Tryz.isAgg344
 z70:=Tryz.sizeOf344
 v70:=Tryz.zeroValue344
 t76:=Tryz.underlying353
 a76:=Tryz.isAgg353
 z76:=Tryz.sizeOf353
 v76:=Tryz.zeroValue353
 t77:=Tryz.underlying112
 a77:=Tryz.isAgg112
 z77:=Tryz.sizeOf112
 v77:=Tryz.zeroValue112 }
end Go.Proofs.YticbaadnibdbkaaGreat
namespace Go.Proofs.YticbaadnibdbkaaGreat
open Go.RowKit Go.Proofs Go.Shelf Go.Sort
def mu (a b:Int):Int:=if b<a then -1 else if a<b then 1 else 0
theorem nQ (a b:Int):ltOf mu a b=decide (b<a):=by
 unfold ltOf mu;split
 ·rename_i h; simp [h]
 rename_i h; split <;> simp [h]
theorem zP:SWO (ltOf mu):=⟨fun x=>by rw [nQ]; simp,fun x y z h1 h2=>by rw [nQ] at *; simp at *; omega,fun x y z h1 h2=>by rw [nQ] at *; simp at *; omega⟩
def nt (l:List Int):List Int:=l.mergeSort (fun a b=>decide (b<=a))
theorem oV (l:List Int):(nt l).length=l.length:=(List.mergeSort_perm l _).length_eq
theorem Bs {d d':Array Int} (h:PermIn 0 d.size d d') (h2:SortedIn (ltOf mu) 0 d.size d'):d'.toList=nt d.toList:=by
 rw [sorted_unique_holds zP (fun x y h1 h2=>by rw [nQ] at *; simp at *; omega) d d' h h2,nt];congr 1;funext x y;rw [nQ];by_cases h:y<=x
 ·simp [h]
 simp [h]; omega
theorem Kz (x y:Int) (W:World):Calls Tryz.prog 266 #[.int .i64 x,.int .i64 y] W fun e w'=>e = .returned (.int .i64 (mu x y))/\∃ q,w' = W.drewN q:=by
 go_enter Tryz.func266,Tryz.ntmps266
 by_cases h1:y<x
 ·have h2:¬ x<y:=by omega
  go_wp2
  go_ret
  exact ⟨by simp [mu,h1],0,rfl⟩
 by_cases h2:x<y
 ·go_wp2
  go_ret
  exact ⟨by simp [mu,h1,h2],0,rfl⟩
 go_wp2
 go_ret
 refine ⟨?_,0,rfl⟩;rw [show mu x y=0 from by unfold mu; rw [if_neg (by omega),if_neg (by omega)]]; rfl
theorem mD {c:Cx}:∀ {l:List Int} {cells:List Value},Pds c (l.flatMap (cellsOf .int)) cells->cells=l.map (Value.int .i64)/\∀ n ∈ l,I64 n
 | [],_,h=>by cases h; exact ⟨rfl,by simp⟩
 | x :: l,_,h=>by
  have h':Pds c (.int x :: l.flatMap (cellsOf .int)) _:=h;cases h' with | cons h1 h2=>?_
  cases h1 with | int hi=>?_
  obtain ⟨e,k⟩:=mD h2;exact ⟨by rw [e]; rfl,by simpa using ⟨hi,k⟩⟩
variable {sp:List Value}
theorem NS {l l':List Int} (h:l'.length=l.length):putCells (Value.int .i64) 0 l'.toArray (List.toArray (l.map (Value.int .i64)++sp))=List.toArray (l'.map (Value.int .i64)++sp):=by
 apply Array.ext_getElem?;intro k;unfold putCells;rw [Array.getElem?_mapIdx];simp only [List.getElem?_toArray,List.size_toArray,Nat.zero_add,Nat.sub_zero,Nat.zero_le,true_and];by_cases hk:k<l'.length
 ·rw [List.getElem?_append_left (by rw [List.length_map]; omega),List.getElem?_append_left (by rw [List.length_map]; omega),List.getElem?_map,List.getElem?_map,List.getElem?_eq_getElem hk,List.getElem?_eq_getElem (by omega)];simp [hk]
 rw [List.getElem?_append_right (by rw [List.length_map]; omega),List.getElem?_append_right (by rw [List.length_map]; omega),List.length_map,List.length_map,h];rw [h] at hk;cases sp[k - l.length]? <;> simp [h,hk]
set_option maxHeartbeats 1000000 in
theorem Oi {w:World} {xs:List Int} {g cap:Nat} (h0:xs.length<=12) (h6:w.heap[g]? = some (.cells (List.toArray (xs.map (Value.int .i64)++sp)) 3 (0,0))) :
  Calls Tryz.prog 265 #[.slice (some ⟨g,0,none⟩) xs.length cap,.func (.func 266) #[] #[]] w fun e w'=>e = .returned (.tuple #[])/\Kp [g] w w' /\ w'.heap[g]? = some (.cells (List.toArray ((nt xs).map (Value.int .i64)++sp)) 3 (0,0)):=by
 have eg:∀ args w,(callFunc 266 args).run Tryz.prog w = .ok (.enter 266 args) w:=enters_of Tryz.func266 bG rfl;have hlen:∀ (n:Nat) (W:World),n<=12->Calls Tryz.prog (iA.f 15) #[.int .u64 n] W fun e w'=>(∃ l:Int,e = .returned (.int .i64 l))/\w' = W:=fun n W hn=>
  (Any.bits_Len ID n W (by omega) (by omega)).mono fun _ _ ⟨he,hw⟩=>⟨⟨_,he⟩,hw⟩
 have hH0:Holds (Value.int .i64) w g 0 xs.toArray:=fun j hj=>by
  rw [Nat.zero_add,Lib.frozen_of_heap h6,Lib.cell_of_heap h6];rw [List.size_toArray] at hj;refine ⟨?_,rfl⟩;rw [List.getElem?_toArray,List.getElem?_append_left (by simpa using hj),List.getElem?_map,List.getElem?_eq_getElem hj];simp [hj]
 have hs:=Any.slices_SortFunc_small_sorted sY (Value.int .i64) (fun _=>rfl) mu zP 266 #[] g 0 cap xs.toArray w eg (fun _ _ _ _ x y=>Kz x y _) hH0 (by simpa using h0) hlen;refine hs.mono fun e w' ⟨he,d',n,hp,hd,hw⟩=>?_;have hd':=Bs hp hd;have hle:d'.toList.length=xs.length:=by rw [hd']; exact oV _
 refine ⟨he,?_,?_⟩
 ·rw [hw];refine ⟨rfl,rfl,rfl,?_,fun b _ hn=>?_⟩
  ·show w.heap.size<=(w.heap.modify g _).size;rw [Array.size_modify]; omega
  show (w.heap.modify g (onCells (putCells (Value.int .i64) 0 d')))[b]? = _;rw [Array.getElem?_modify,if_neg (by simpa using fun h=>hn (by simp [h]))]
 rw [hw];show (w.heap.modify g (onCells (putCells (Value.int .i64) 0 d')))[g]? = _;rw [Array.getElem?_modify,if_pos rfl,h6];simp only [Option.map_some,onCells];have e2:d' = d'.toList.toArray:=rfl;rw [e2,NS hle,hd']
end Go.Proofs.YticbaadnibdbkaaGreat
namespace Go.Proofs.YticbaadnibdbkaaGreat
open Go.RowKit
noncomputable abbrev c16:Code:=Ve Tryz.f171
noncomputable abbrev c60:Code:=Ve Tryz.f258
noncomputable abbrev pR0:Code:=oD c16
noncomputable abbrev pR1:Code:=oD (fX c16)
noncomputable abbrev pR2:Code:=oD (fX (fX c16))
noncomputable abbrev pR3:Code:=oD (oD (fX (fX (fX c16))))
noncomputable abbrev pRf:Code:=cdB (fX (oD (fX (fX (fX c16)))))
noncomputable abbrev QG:Code:=fX (fX (fX (fX c16)))
noncomputable abbrev OA:Code:=agx pRf
noncomputable abbrev PM:Code:=afe pRf
noncomputable abbrev iR0:Code:=oD c60
noncomputable abbrev iB:Code:=cdB (cdB (fX c60))
noncomputable abbrev iR1:Code:=oD iB
noncomputable abbrev iCo:Code:=oD (fX iB)
noncomputable abbrev iBl:Code:=cdB (oD (fX (fX iB)))
noncomputable abbrev iR2:Code:=oD iBl
noncomputable abbrev iR3:Code:=oD (fX iBl)
noncomputable abbrev Gs:Code:=oD (fX (fX iBl))
noncomputable abbrev aa3:Code:=fX (fX (fX iBl))
noncomputable abbrev iR5:Code:=fX (fX (fX iB))
def hK (s:State) (r:List Reply) (l:List Entry) (v:Int):AH:=[.box 46 ([.int ((s.version)),.int ((s.next)),.int ((s.keep)),.int ((s.quota)),.own 7,.own 8,.own 9]),.box 46 ([.int ((0)),.int ((0)),.int ((0)),.int ((0)),.em true,.em true,.em true]),.box 72 ([.em true]),.box 26 ([.int ((0))]),.box 72 ([.own 10]),.box 38 ([.fz (.nm .entry) ((l))]),.box 3 ([.int ((v))]),.row 137 (.nm .sess) ((s.sess)),.row 139 (.nm .opn) ((s.opens)),.row 172 (.nm .snap) ((s.snaps)),.row 78 (.nm .reply) ((r))]
def hE (s:State) (r:List Reply):AH:=[.row 137 (.nm .sess) ((s.sess)),.row 139 (.nm .opn) ((s.opens)),.row 172 (.nm .snap) ((s.snaps)),.row 78 (.nm .reply) ((r))]
def rE (s:State) (e:Int):List TV1:=[.agg [.int s.version,.int s.next,.int s.keep,.int s.quota,.own 0,.own 1,.own 2],.c (.own 3),.c (.int e)]
def frP:AFr:=[(3,one (.ptr 0 0)),(6,one (.ptr 1 0)),(7,one (.ptr 2 0)),(8,one (.ptr 3 0)),(9,one (.ptr 4 0)),(16,one (.fn 258 [] [(5,0),(6,0)]))]
def Jd (L:Nat):Option TV->Prop
 | some (.one (.c (.yl a)))=>a=L
 | _=>False
def VG (l:List Entry) (k:Nat):AFr:=[(1,one (.ptr 5 0)),(2,one (.ptr 6 0)),(9,one (.fz (.nm .entry) l)),(10,one (.int l.length)),(11,one (.int k))]
def Mz (c:Command) (b:Bool) (e:Int):TV1:=.agg (cellsOf (.nm .command) ((c))++[.bool (.atom ((b))),.int ((e))])
def frY (l:List Entry) (k:Nat) (c:Command) (b:Bool) (e:Int):AFr:=(26,.one (Mz c b e)) :: VG l k
def hT (c:Command) (b:Bool) (e:Int):AO:=.box 265 (cellsOf (.nm .command) ((c))++[.bool (.atom ((b))),.int ((e))])
def koN (k0:Nat) (q:AFr × AH):Exit->AFr->AH->Prop
 | .normal,fr,K=>jt (zi tyT k0 fr K q)
 | _,_,_=>False
def koY (L:Nat) (q:AFr × AH):Exit->AFr->AH->Prop
 | .normal,fr,K=>Jd L (lookA fr 0)/\jt (zi tyT 11 fr K q)
 | _,_,_=>False
noncomputable def ahw (L:Nat) (s:State) (r:List Reply) (l:List Entry) (v:Int) (k:Nat) (fr:AFr) (K:AH):Prop:=
 ∃ x,l[k]? = some x/\Jd L (lookA fr 0)/\Jd L (lookA fr 22)/\jt (zi tyT 11 fr K (frY l k (a_ x v).c (a_ x v).some (a_ x v).e,hK s r l v))
noncomputable def agS (L:Nat) (s:State) (r:List Reply) (l:List Entry) (v:Int) (k:Nat):Exit->AFr->AH->Prop
 | .normal,fr,K=>wpOps tyT fj (gH 0) (kj Gs) (ahw L s r l v k) 6 ((kj Gs).take 5) fr K
 | _,_,_=>False
noncomputable def ag5 (L:Nat) (s:State) (r:List Reply) (l:List Entry) (v:Int) (k:Nat):Exit->AFr->AH->Prop
 | .exit j,fr,K=>j=0/\l.length<=k/\Jd L (lookA fr 0)/\jt (zi tyT 11 fr K (VG l k,hK s r l v))
 | .normal,fr,K=>iR tyT fj (gH 0) 11 [] (.seq iR2 iR3) (agS L s r l v k) fr K
 | _,_,_=>False
noncomputable def abx (L:Nat) (s:State) (r:List Reply) (l:List Entry) (v:Int) (k:Nat):Exit->AFr->AH->Prop
 | .normal,fr,K=>iR tyT fj (gH 0) 11 [] iCo (ag5 L s r l v k) fr K
 | _,_,_=>False
noncomputable def koD (L:Nat) (s:State) (r:List Reply) (l:List Entry) (v:Int) (k:Nat) (fr:AFr) (K:AH):Prop:=iR tyT fj (gH 0) 11 [] (.seq aa3 iR5) (koY L (VG l (k+1),hK s r l v)) fr K
noncomputable def koH (s:State) (r:List Reply) (l:List Entry) (v:Int) (x:Entry):Exit->AFr->AH->Prop
 | .normal,_,K=>(a_ x v).e=0/\jt (ZQ tyT (hK s r l v) 11 (hK (ir v s x) (r++[mJ v s x]) l v) K)
 | .ret,_,K=>¬ (a_ x v).e=0/\endE tyT [] 0 Tryz.f171 (rE s (a_ x v).e) (hE s r) frP K
 | _,_,_=>False
def koI (s:State) (r:List Reply):Exit->AFr->AH->Prop
 | .ret,fr,K=>endE tyT [] 0 Tryz.f171 (rE s 0) (hE s r) fr K
 | _,_,_=>False
theorem afh (s:State) (l:List Entry) (v:Int):kS (Ey [.agg (cellsOf (.nm .state) s),.c (.fz (.nm .entry) l),.c (.int v)]) (iR tyT fj (gH 0) 0 [] (.seq pR0 (.seq pR1 (.seq pR2 pR3))) (koN 0 (frP,hK s [] l v)) (qa 0 [.agg (cellsOf (.nm .state) s),.c (.fz (.nm .entry) l),.c (.int v)]) [])=((fun q0=>fN s (l.length*32<=140737488355328->I64 v->I64 s.version->I64 s.next->I64 s.keep->I64 s.quota->s.version=s.version/\s.next=s.next/\s.keep=s.keep/\s.quota=s.quota/\q0/\q0/\q0/\q0/\q0/\l=l/\v=v/\s.sess=s.sess/\s.opens=s.opens/\s.snaps=s.snaps /\ @Eq (List (den (Sh.nm NT.reply))) [] [])) ((0:Int)=0)):=bG
theorem ah7 (L:Nat) (s:State) (r:List Reply) (l:List Entry) (v:Int):iR tyT fj (gH 0) 11 [] iR0 (koY L (VG l 0,hK s r l v)) [(0,one (.yl L)),(1,one (.ptr 5 0)),(2,one (.ptr 6 0))] (hK s r l v)=((fun q0=>L=L/\l=l/\(↑l.length:Int)=(↑l.length:Int)/\(0:Int)=(↑(0:Nat):Int)/\s.version=s.version/\s.next=s.next/\s.keep=s.keep/\s.quota=s.quota/\q0/\q0/\q0/\q0/\q0/\l=l/\v=v/\s.sess=s.sess/\s.opens=s.opens/\s.snaps=s.snaps/\r=r) ((0:Int)=(0:Int))):=bG
theorem agQ (L:Nat) (s:State) (r:List Reply) (l:List Entry) (v:Int) (k:Nat):iR tyT fj (gH 0) 11 [] iR1 (abx L s r l v k) ((0,one (.yl L)) :: VG l k) (hK s r l v)=((fun q2=>(fun q1=>(fun q0=>((↑k:Int)<q2->0<=(↑k:Int)/\(↑k:Int)<(↑l.length:Int)/\∀ (x:Entry),(fun q3=>l[k]? = some x->I64 x.term->x.b.length*1<=140737488355328->bB q3.c (I64 q3.e->∃ x,l[k]? = some x/\L=L/\L=L/\bm q3.c (a_ x v).c (q3.some=(a_ x v).some/\q3.e=(a_ x v).e/\q0))) (a_ x v))/\(q2<=(↑k:Int)->(0:Nat)=0/\l.length<=k/\L=L/\q0)) (l=l/\q2=q2/\(↑k:Int)=(↑k:Int)/\s.version=s.version/\s.next=s.next/\s.keep=s.keep/\s.quota=s.quota/\q1/\q1/\q1/\q1/\q1/\l=l/\v=v/\s.sess=s.sess/\s.opens=s.opens/\s.snaps=s.snaps/\r=r)) ((0:Int)=0)) (↑l.length:Int)):=bG
theorem ag6 (L:Nat) (s:State) (r:List Reply) (l:List Entry) (v:Int) (k:Nat) (c:Command) (b:Bool) (er:Int):wpOps tyT fj (gH 0) (kj Gs) (koD L s r l v k) 2 ((kj Gs).drop 6) ((27,one (.bool (.lit true))) :: (0,one (.yl L)) :: frY l k c b er) (hK s r l v)=((fun q0=>I64 ((↑k:Int)+1)/\L=L/\l=l/\(↑l.length:Int)=(↑l.length:Int)/\(↑k:Int)+1=(↑(k+1):Int)/\s.version=s.version/\s.next=s.next/\s.keep=s.keep/\s.quota=s.quota/\q0/\q0/\q0/\q0/\q0/\l=l/\v=v/\s.sess=s.sess/\s.opens=s.opens/\s.snaps=s.snaps/\r=r) ((0:Int)=0)):=bG
theorem ahR (s:State) (r:List Reply) (l:List Entry) (v:Int) (c:Command) (b:Bool) (er:Int):iR tyT fj (gH 0) 11 [] OA (koN 11 ((10,one (.ptr 11 0)) :: frP,hK s r l v++[hT c b er])) ((17,.one (Mz c b er)) :: frP) (hK s r l v)=((fun q0=>s.version=s.version/\s.next=s.next/\s.keep=s.keep/\s.quota=s.quota/\q0/\q0/\q0/\q0/\q0/\l=l/\v=v/\s.sess=s.sess/\s.opens=s.opens/\s.snaps=s.snaps/\r=r/\bm c c (b=b/\er=er)) ((0:Int)=0)):=bG
theorem aiq (s:State) (r:List Reply) (l:List Entry) (v:Int) (x:Entry):iR tyT fj (gH 0) 12 [] PM (koH s r l v x) ((10,one (.ptr 11 0)) :: frP) (hK s r l v++[hT (a_ x v).c (a_ x v).some (a_ x v).e])=((fun q3=>(fun q2=>(fun q1=>(fun q5=>(fun q4=>(fun q0=>(fun q6=>(¬q5->¬q5/\s.version=s.version/\s.next=s.next/\s.keep=s.keep/\s.quota=s.quota/\q3.e=q3.e/\s.sess=s.sess/\s.opens=s.opens/\s.snaps=s.snaps/\r=r)/\(q5->(q3.some=true->I64 q6.version->I64 q6.next->I64 q6.keep->I64 q6.quota->I64 q0.snd.code->I64 q0.snd.n->(r.length+[q0.snd].length)*16<=140737488355328/\q5/\q6.version=q2.version/\q6.next=q2.next/\q6.keep=q2.keep/\q6.quota=q2.quota/\q4/\q4/\q4/\q4/\q4/\l=l/\v=v/\q6.sess=q2.sess/\q6.opens=q2.opens/\q6.snaps=q2.snaps/\r++[q0.snd]=r++[mJ v s x])/\(q3.some=false->(r.length+[Reply.mk q1 q1].length)*16<=140737488355328/\q5/\s.version=q2.version/\s.next=q2.next/\s.keep=q2.keep/\s.quota=q2.quota/\q4/\q4/\q4/\q4/\q4/\l=l/\v=v/\s.sess=q2.sess/\s.opens=q2.opens/\s.snaps=q2.snaps/\r++[Reply.mk q1 q1]=r++[mJ v s x]))) q0.fst) (qN s q3.c)) (q1=q1)) (q3.e=q1)) (0:Int)) (ir v s x)) (a_ x v)):=bG
theorem af6 (s:State) (r:List Reply) (l:List Entry) (v:Int):iR tyT fj (gH 0) 11 [] QG (koI s r) frP (hK s r l v)=(s.version=s.version/\s.next=s.next/\s.keep=s.keep/\s.quota=s.quota/\(0:Int)=0/\s.sess=s.sess/\s.opens=s.opens/\s.snaps=s.snaps/\r=r):=bG
noncomputable def adw:bN:=fj
theorem QE:ay Tryz.prog (al tyT) adw:=qL
variable {F:Fr} {w w0:World} {H:AH} {Q:Exit->Act->World->Prop} {n k0:Nat} {K:Exit->AFr->AH->Prop} {G:Gl} {ρ0:List RE}
theorem Es {c:Code} {fr:AFr} (hG:G.shp=al tyT) (hk:ρ0.length<=k0) (hc:ek n c=true) (h:iR tyT fj (gH 0) k0 [] c K fr H)
  (hs:St G (gH 0) ρ0 w0 fr H F w) (hK:∀ e fr H F w,K e fr H->St G (gH 0) ρ0 w0 fr H F w->WX Q n e F w):WC Tryz.prog Q n c F w:=
 xc (by rw [hG]; exact dy) (by rw [hG]; exact qL) (oA dy qL jB G n (gH 0) ρ0 w0 hG (fun i h=>by simp [gH,Nat.ble] at h)) hk c Q K fr H F w hc h hs hK
theorem ads {m:Nat} {l ops:List Oper} {K:AFr->AH->Prop} {fr:AFr} (hG:G.shp=al tyT) (hd:kr n ops=true) (h:wpOps tyT fj (gH 0) l K m ops fr H)
  (hs:St G (gH 0) ρ0 w0 fr H F w) (hK:∀ fr H F w,K fr H->St G (gH 0) ρ0 w0 fr H F w->WX Q n .normal F w):WO Tryz.prog Q n l ops F w:=
 lT (by rw [hG]; exact dy) (by rw [hG]; exact qL) hK m ops fr H F w hd h hs
abbrev yV (L:Nat):Value:=.func (.yield L) #[] #[]
variable {ρ:List RE} {t:Nat}
theorem lM {c:Cx} {fr:AFr} {L:Nat} (hf:FrR c ρ fr F) (h:Jd L (lookA fr t)):look F t=some (yV L):=by
 unfold Jd at h;split at h
 ·rename_i a hl;subst h;obtain ⟨v,h1,h2⟩:=eH hf hl;have h2:v=yV a:=h2;rw [h1,h2]
 exact h.elim
theorem xf {F':Fr} {v:Value} (h:look F t=some v) (k:∀ i u,look F' i=some u->look F i=some u):∀ i u,look ((t,v) :: F') i=some u->look F i=some u:=fun i u hu=>by
 rw [aQ] at hu;by_cases hi:t=i
 ·subst hi; rw [if_pos rfl] at hu; cases hu; exact h
 rw [if_neg hi] at hu; exact k i u hu
theorem FrR.Bb {c:Cx} {fr:AFr} {a:TV1} {v:Value} (h:cZ c ρ a v) (k:FrR c ρ fr F):FrR c ρ ((t,.one a) :: fr) ((t,v) :: F):=.cons ⟨rfl,h⟩ k
variable {b:Nat}
theorem Rep.jS (h:Rep G ρ H w) (hz:G.Z b):¬ live ρ b:=fun ⟨i,r,h1,h2⟩=>(h.bnd i r b h1 h2).2.2 hz
theorem eZ {o:Obj} (h:w.heap[b]? = some o):b<w.heap.size:=(aeB.1 h).1
structure PX where
 G:Gl
 D:Nat
 L:Nat
 fn:Nat
 tm:Array Value
 FP:Fr
 s:State
 l:List Entry
 v:Int
 hD:G.B0<=D
 hL:G.B0<=L
def PX.g (X:PX):Gl:=GZ X.G X.D X.L
noncomputable def PX.rc (X:PX) (st:LoopState) (pe:Option Code):Loop:={ state:=st,pending:=pe,fn:=X.fn,tmps:=X.tm,params:=#[17],assign:=OA,body:=PM,defers:=X.D }
noncomputable def PX.hk (X:PX) (k:Nat):AH:=hK (pS X.v X.s (X.l.take k)) (pR X.v X.s (X.l.take k)) X.l X.v
abbrev PX.Z (X:PX):Nat->Prop:=fun b=>b=X.D\/b=X.L
theorem PX.hB (X:PX):∀ b,X.Z b->X.g.B0<=b:=fun b hb=>by
 rcases hb with rfl | rfl
 ·exact X.hD
 exact X.hL
structure Mid (X:PX) (k:Nat) (ρ:List RE) (W:World):Prop where
 rep:Rep X.g ρ (X.hk k) W
 fr:FrR (cx X.g ρ W) ρ frP X.FP
 ok:okPl X.v (X.l.take k)
 loop:W.heap[X.L]? = some (.loop (X.rc .ready none))
 dfr:W.heap[X.D]? = some (.deferred (some []))
structure Stopd (X:PX) (ρ:List RE) (W:World):Prop where
 rep:∃ H,Rep X.g ρ H W/\endE tyT [] 0 Tryz.f171 (rE (plS X.v X.s X.l) (pE X.v X.l)) (hE (plS X.v X.s X.l) (plR X.v X.s X.l)) frP H
 fr:FrR (cx X.g ρ W) ρ frP X.FP
 loop:W.heap[X.L]? = some (.loop (X.rc .done (some .ret)))
 dfr:W.heap[X.D]? = some (.deferred (some []))
theorem Cd:DD frP=true:=by decide
section
variable {X:PX} {k:Nat} {ρ ρ':List RE} {W W':World}
theorem Mid.step {ro:Lv} (h:Mid X k ρ W) (hs:Stp ro ρ W ρ' W') (hr:Rep X.g ρ' (X.hk k) W'):Mid X k ρ' W' /\ Adv X.Z ρ W ρ' W':=by
 have ha:Adv X.Z ρ W ρ' W':=.xt hs.ext hs.bx;have hle:=ha.le (G:=X.g) (fun b hb=>.inr hb) h.rep.lo X.hB;exact ⟨⟨hr,h.fr.eQ Cd hle hs.bx,h.ok,(hs.ext.old _ (eZ h.loop) (h.rep.jS (.inr (.inr rfl)))).2.trans h.loop,(hs.ext.old _ (eZ h.dfr) (h.rep.jS (.inr (.inl rfl)))).2.trans h.dfr⟩,ha⟩
section
variable {s:State} {r:List Reply} {l:List Entry} {v:Int} {x:Entry}
theorem aeQ (h:(a_ x v).some=true):ir v s x=(qN s (a_ x v).c).1:=by unfold ir; rw [if_pos h]
theorem ahv (h:(a_ x v).some=false):ir v s x=s:=by unfold ir; rw [if_neg (by rw [h]; decide)]
theorem afd (h:(a_ x v).some=true):mJ v s x=(qN s (a_ x v).c).2:=by unfold mJ; rw [if_pos h]
theorem af4 (h:(a_ x v).some=false):mJ v s x=⟨0,0⟩:=by unfold mJ; rw [if_neg (by rw [h]; decide)]
theorem ZN (hr:(r.length+1)*16<=140737488355328):iR tyT fj (gH 0) 12 [] PM (koH s r l v x) ((10,one (.ptr 11 0)) :: frP) (hK s r l v++[hT (a_ x v).c (a_ x v).some (a_ x v).e]):=by
 rw [aiq];repeat' (first | with_reducible apply aZ | with_reducible refine aY ?_ | intro)
 all_goals first | with_reducible rfl | with_reducible assumption | contradiction | (simp only [List.length_cons,List.length_nil]; omega) | (rw [aeQ ab]; done) | (rw [ahv ab]; done) | (rw [afd ab]; done) | (rw [af4 ab]; done)
theorem Zk {c:Command} {b:Bool} {er:Int}:iR tyT fj (gH 0) 11 [] OA (koN 11 ((10,one (.ptr 11 0)) :: frP,hK s r l v++[hT c b er])) ((17,.one (Mz c b er)) :: frP) (hK s r l v):=by
 rw [ahR];repeat' (first | with_reducible apply aZ | with_reducible refine aY ?_ | intro)
 all_goals with_reducible rfl
end
variable {u:Value}
theorem IE (hG:X.G.shp=al tyT) (hsz:X.l.length*32<=140737488355328) (hM:M 40 X.FP { tmps:=X.tm,defers:=[] }) (hDL:X.D≠X.L) (h:Mid X k ρ W) {x:Entry} (hx:X.l[k]? = some x) 
  (hu:cZ (cx X.g ρ W) ρ (Mz (a_ x X.v).c (a_ x X.v).some (a_ x X.v).e) u) (ro:Option Nat) (m:Nat) :
  RoundIn (gL ro) m Tryz.prog X.L X.fn (X.tm.setIfInBounds 17 u) OA PM W fun e w'=>∃ b,e = .returned b/\((b = .bool true/\∃ ρ',Mid X (k+1) ρ' w' /\ Adv X.Z ρ W ρ' w')\/(b = .bool false/\∃ ρ',Stopd X ρ' w' /\ Adv X.Z ρ W ρ' w')):=by
 refine KW ?_;have hGg:X.g.shp=al tyT:=hG;have hM1:M 40 ((17,u) :: X.FP) { tmps:=X.tm.setIfInBounds 17 u,defers:=[] }:=hM.put (d:=17) (v:=u) (by decide);have hlen:ρ.length=11:=h.rep.obj.length.symm;have hkl:k<X.l.length:=(aaA.1 hx).1;refine Es hGg (aeZ hlen) (c:=OA) (n:=40) bG (Zk (s:=pS X.v X.s (X.l.take k)) (r:=pR X.v X.s (X.l.take k)) (l:=X.l) (v:=X.v) (c:=(a_ x X.v).c) (b:=(a_ x X.v).some) (er:=(a_ x X.v).e)) (⟨ρ,Stp.refl _ _ _,h.rep,FrR.Bb hu h.fr⟩) (fun e fr H F w1 hK hs=>?_) _ hM1;cases e with
 | normal=>
  obtain ⟨F1,⟨ρ1,hs1,hr1,hf1⟩,hlk⟩:=gw (P:=Tryz.prog) (by rw [hGg]; exact dy) (aeZ hlen) hs hK;intro a ha;have hl1:w1.heap[X.L]? = some (.loop (X.rc .ready none)):=(hs1.ext.old _ (eZ h.loop) (h.rep.jS (.inr (.inr rfl)))).2.trans h.loop;have hd1:w1.heap[X.D]? = some (.deferred (some [])):=(hs1.ext.old _ (eZ h.dfr) (h.rep.jS (.inr (.inl rfl)))).2.trans h.dfr;refine ⟨_,run_beginRound (P:=Tryz.prog) hl1 rfl,?_,ha.1⟩;have A1:Adv X.Z ρ W ρ1 (w1.putObj X.L (.loop { X.rc .ready none with state:=.busy })):=(Adv.xt hs1.ext hs1.bx).trans (.put _ (.inr rfl));have hr2:Rep X.g ρ1 (X.hk k++[hT (a_ x X.v).c (a_ x X.v).some (a_ x X.v).e]) (w1.putObj X.L (.loop { X.rc .ready none with state:=.busy })):=hr1.Ha _ (.inr (.inr rfl)) X.hL;have hl2:(w1.putObj X.L (.loop { X.rc .ready none with state:=.busy })).heap[X.L]? = some (.loop { X.rc .ready none with state:=.busy }):=World.putObj_heap_same (eZ hl1);have hd2:(w1.putObj X.L (.loop { X.rc .ready none with state:=.busy })).heap[X.D]? = some (.deferred (some [])):=(aeI hDL).trans hd1;have hf2:FrR (cx X.g ρ1 (w1.putObj X.L (.loop { X.rc .ready none with state:=.busy }))) ρ1 ((10,one (.ptr 11 0)) :: frP) F1:=hf1.carry ((Adv.put (Z:=X.Z) _ (.inr rfl)).le (fun b hb=>.inr hb) hr1.lo X.hB) (kq.refl _);revert A1 hr2 hl2 hd2 hf2;generalize w1.putObj X.L (.loop { X.rc .ready none with state:=.busy })=w2;intro A1 hr2 hl2 hd2 hf2;have hlen1:ρ1.length=12:=hr2.obj.length.symm;refine Es hGg (aeZ hlen1) (c:=PM) (n:=40) bG (ZN (s:=pS X.v X.s (X.l.take k)) (r:=pR X.v X.s (X.l.take k)) (l:=X.l) (v:=X.v) (x:=x) (by rw [De,List.length_take]; omega)) (⟨ρ1,Stp.refl _ _ _,hr2,hf2⟩) (fun e fr H F w3 hK hs=>?_) _ (ha.sub hlk);obtain ⟨ρ3,hs3,hr3,_⟩:=hs;have hl3:w3.heap[X.L]? = _:=(hs3.ext.old _ (eZ hl2) (hr2.jS (.inr (.inr rfl)))).2.trans hl2;have hd3:w3.heap[X.D]? = _:=(hs3.ext.old _ (eZ hd2) (hr2.jS (.inr (.inl rfl)))).2.trans hd2;cases e with
  | normal=>
   obtain ⟨he,hend⟩:=hK;obtain ⟨ρ',hr',hE',hb'⟩:=LY (P:=Tryz.prog) (ρ0:=ρ1) (w0:=w2) (by rw [hGg]; exact dy) hr3 hs3.ext hs3.bx (fun i g hi hg=>by
    have hn:=Wx (b:=false) hr2 hg;have:i=0\/i=1\/i=2\/i=3\/i=4\/i=5\/i=6\/i=7\/i=8\/i=9\/i=10:=by omega
    rcases this with rfl | rfl | rfl | rfl | rfl | rfl | rfl | rfl | rfl | rfl | rfl <;> exact hn) hend
   refine fun _ _=>⟨_,_,run_endRound (P:=Tryz.prog) none hl3,_,rfl,.inl ⟨rfl,ρ',?_⟩⟩;have A3:Adv X.Z ρ W ρ' (w3.putObj X.L (.loop (X.rc .ready none))):=by
    have A2:Adv X.Z ρ W ρ' w3:=⟨hE'.os.trans A1.os,hE'.tape.trans A1.tape,hE'.output.trans A1.output,Nat.le_trans A1.size hE'.size,fun b hb hl=>by
     obtain ⟨h1,h2⟩:=A1.old b hb hl;obtain ⟨h3,h4⟩:=hE'.old b (aa9 hb A1.size) h1;exact ⟨h3,fun hz=>h4.trans (h2 hz)⟩,fun i g hg=>hb' i g (by rw [<- hlen]; exact (aaA.1 hg).1) (A1.bx i g hg)⟩
    exact A2.trans (.put _ (.inr rfl))
   refine ⟨⟨?_,h.fr.eQ Cd (A3.le (fun b hb=>.inr hb) h.rep.lo X.hB) A3.bx,EF h.ok hx he,World.putObj_heap_same (eZ hl3),(aeI hDL).trans hd3⟩,A3⟩;have:=hr'.Ha (l:=X.L) (.loop (X.rc .ready none)) (.inr (.inr rfl)) X.hL;rw [UM hx,UT hx] at this;exact this
  | ret=>
   obtain ⟨he,hend⟩:=hK;refine fun _ _=>⟨_,_,run_endRound (P:=Tryz.prog) (some .ret) hl3,_,rfl,.inr ⟨rfl,ρ3,?_⟩⟩;have A3:Adv X.Z ρ W ρ3 (w3.putObj X.L (.loop (X.rc .done (some .ret)))):=(A1.trans (.xt hs3.ext hs3.bx)).trans (.put _ (.inr rfl));obtain ⟨p1,p2,p3⟩:=Rl (s:=X.s) h.ok hx he;rw [p1,p2,p3] at hend;exact ⟨⟨⟨_,hr3.Ha _ (.inr (.inr rfl)) X.hL,hend⟩,h.fr.eQ Cd (A3.le (fun b hb=>.inr hb) h.rep.lo X.hB) A3.bx,World.putObj_heap_same (eZ hl3),(aeI hDL).trans hd3⟩,A3⟩
  | _=>exact hK.elim
 | _=>exact hK.elim
theorem Zx:Tryz.f258.body=some (.seq iR0 (.block 0 (.loop (.seq iR1 (.seq iCo (.seq (.block 1 (.seq iR2 (.seq iR3 (.seq Gs aa3)))) iR5)))))):=bG
theorem Zy:Gs = .region 4 (kj Gs).toArray false:=bG
theorem Rm:aa3 = .cond (.tmp 28) .ret .skip:=bG
noncomputable def WD (k:Nat):Oper:=(kj Gs).getD k ⟨none,.move (.tmp 0),0,"",#[],none⟩
noncomputable def ag8:Array TypeId:=match (WD 5).op with
 | .call c=>c.argTypes
 | _=>#[]
noncomputable def ty6:TypeId:=match (WD 6).op with
 | .unOp _ t _=>t
 | _=>0
theorem aiv:kj Gs=(kj Gs).take 5++(⟨some 27,.call ⟨.value (.tmp 22),#[.tmp 26],ag8⟩,(WD 5).type,(WD 5).pos,(WD 5).after,none⟩ :: (kj Gs).drop 6):=bG
theorem aiA:(kj Gs).drop 6=[⟨some 28,.unOp .not ty6 (.tmp 27),(WD 6).type,(WD 6).pos,(WD 6).after,none⟩]:=bG
variable {P:Program}
theorem CX {L:Nat} {rl:Loop} {tys:Array TypeId} {ty:TypeId} (h22:look F 22=some (yV L)) (h26:look F 26=some u) (hl:w.heap[L]? = some (.loop rl)) (hp:rl.params = #[17]) (a:Act) (d:Option Tmp) (pos:String) (af:Array Edge) (g:Option (Nat × Bool)) (ha:M n F a) :
  (execOp a.eval ⟨d,.call ⟨.value (.tmp 22),#[.tmp 26],tys⟩,ty,pos,af,g⟩).run P w = .ok (.round L rl.fn (rl.tmps.setIfInBounds 17 u) rl.assign rl.body) w:=by
 have e1:a.eval (.tmp 22)=yV L:=ha.ev (x:=.tmp 22) h22;have e2:a.eval (.tmp 26)=u:=ha.ev (x:=.tmp 26) h26;have hy:=run_yield (P:=P) (args:=#[u]) hl (by rw [hp]; rfl);simp [execOp,resolve,e1,e2,Deferred.ofValue,invoke,hy,hp]
theorem Sw {F':Fr} {v:Value} (k:∀ i u,look F' i=some u->look F i=some u):∀ i u,look ((t,v) :: F') i=some u->look ((t,v) :: F) i=some u:=fun i u hu=>by
 rw [aQ] at hu ⊢;split
 ·rename_i h; rw [if_pos h] at hu; exact hu
 rename_i h; rw [if_neg h] at hu; exact k i u hu
section
variable {s:State} {r:List Reply} {l:List Entry} {v:Int} {L:Nat}
theorem Z_:iR tyT fj (gH 0) 11 [] iR0 (koY L (VG l 0,hK s r l v)) [(0,one (.yl L)),(1,one (.ptr 5 0)),(2,one (.ptr 6 0))] (hK s r l v):=by
 rw [ah7];repeat' (first | with_reducible apply aZ | with_reducible refine aY ?_ | intro)
 all_goals first | with_reducible rfl | rfl
theorem ZU:iR tyT fj (gH 0) 11 [] iR1 (abx L s r l v k) ((0,one (.yl L)) :: VG l k) (hK s r l v):=by
 rw [agQ];repeat' (first | with_reducible apply aZ | with_reducible refine aY ?_ | intro)
 all_goals try (refine ⟨_,by with_reducible assumption,?_⟩)
 repeat' (first | with_reducible apply aZ | with_reducible refine aY ?_ | intro)
 all_goals first | with_reducible rfl | omega | rfl
theorem aaY {c:Command} {b:Bool} {er:Int} (hk:k<4611686018427387904):wpOps tyT fj (gH 0) (kj Gs) (koD L s r l v k) 2 ((kj Gs).drop 6) ((27,one (.bool (.lit true))) :: (0,one (.yl L)) :: frY l k c b er) (hK s r l v):=by
 rw [ag6];repeat' (first | with_reducible apply aZ | with_reducible refine aY ?_ | intro)
 all_goals first | with_reducible rfl | omega | (refine bT ?_ ?_ <;> omega) | rfl
end
def XQ (y:Code) (k0:Nat) (K:Exit->AFr->AH->Prop):Exit->AFr->AH->Prop
 | .normal,fr,H=>iR tyT fj (gH 0) k0 [] y K fr H
 | e,fr,H=>K e fr H
theorem nY {x y:Code} {fr:AFr} (h:iR tyT fj (gH 0) k0 [] (.seq x y) K fr H):iR tyT fj (gH 0) k0 [] x (XQ y k0 K) fr H:=by
 have e:XQ y k0 K=fun e fr H=>(match e with | .normal=>iR tyT fj (gH 0) k0 [] y K fr H | e=>K e fr H):=by funext e fr H; cases e <;> rfl
 rw [e]; exact h
def PX.Out (X:PX) (ρ:List RE) (W:World) (_:Value) (w':World):Prop:=∃ ρ',Adv X.Z ρ W ρ' w' /\ ((∃ k,X.l.length<=k/\Mid X k ρ' w')\/Stopd X ρ' w')
theorem WO.of_eq {l r r':List Oper} (e:r=r') (h:WO P Q n l r' F w):WO P Q n l r F w:=e ▸ h
theorem JV (hG:X.G.shp=al tyT) (hsz:X.l.length*32<=140737488355328) (hM:M 40 X.FP { tmps:=X.tm,defers:=[] }) (hDL:X.D≠X.L) (h:Mid X 0 ρ W) {p8 p9:Value} (h8:d_ ρ (5,0) p8) (h9:d_ ρ (6,0) p9) :
  jU Tryz.prog 258 #[yV X.L,p8,p9] W (X.Out ρ W):=by
 have hGg:X.g.shp=al tyT:=hG;have hlen:ρ.length=11:=h.rep.obj.length.symm;refine jU.enter (args:=[yV X.L,p8,p9]) (n:=30) Tryz.func258 Zx rfl rfl rfl ?_;refine WC.seq (Es hGg (aeZ hlen) bG Z_ (⟨ρ,Stp.refl _ _ _,h.rep,FrR.Bb (a:=.c (.yl X.L)) rfl (FrR.Bb (a:=.c (.ptr 5 0)) h8 (FrR.Bb (a:=.c (.ptr 6 0)) h9 .nil))⟩) fun e fr H F w hK hs=>?_);cases e with
 | normal=>
  obtain ⟨hy,he⟩:=hK;have hy0:look F 0=some (yV X.L):=by obtain ⟨_,_,_,hf⟩:=hs; exact lM hf hy
  obtain ⟨F1,⟨ρ1,hs1,hr1,hf1⟩,hlk⟩:=gw (P:=Tryz.prog) (by rw [hGg]; exact dy) (aeZ hlen) hs he;refine WX.next (WC.block fun a ha=>?_)
  refine sC (fun a w k=>∃ ρ' F',M 30 F' a/\Mid X k ρ' w/\FrR (cx X.g ρ' w) ρ' ((0,one (.yl X.L)) :: VG X.l k) F' /\ k<=X.l.length/\Adv X.Z ρ W ρ' w) (fun k=>X.l.length - k) 0 ⟨ρ1,(0,yV X.L) :: F1,ha.sub (xf hy0 hlk),(h.step hs1 hr1).1,FrR.Bb (a:=.c (.yl X.L)) rfl hf1,Nat.zero_le _,(h.step hs1 hr1).2⟩ fun k a w hD=>?_;obtain ⟨ρ',F',hM',hmid,hfr,hk,hadv⟩:=hD;have hlen':ρ'.length=11:=hmid.rep.obj.length.symm;refine (WC.seq (Es hGg (aeZ hlen') bG (ZU (L:=X.L) (k:=k)) (⟨ρ',Stp.refl _ _ _,hmid.rep,hfr⟩) fun e fr H F w2 hK hs=>?_)) a hM';cases e with
  | normal=>
   refine WX.next (WC.seq (Es hGg (aeZ hlen') bG hK hs fun e fr H F w2 hK hs=>?_))
   cases e with
   | exit j=>
    obtain ⟨rfl,hle,hy,he⟩:=hK;obtain ⟨F2,⟨ρ2,hs2,hr2,hf2⟩,hlk2⟩:=gw (P:=Tryz.prog) (by rw [hGg]; exact dy) (aeZ hlen') hs he;obtain ⟨hm2,ha2⟩:=hmid.step hs2 hr2;have hφ:X.Out ρ W (.tuple #[]) w2:=⟨ρ2,hadv.trans ha2,.inl ⟨k,hle,hm2⟩⟩;have hh:=WX.Yo (id:=0) (WX.Yn (WX.aeg (n:=30) (fr:=F) (P:=Tryz.prog) (fn:=Tryz.f258) (φ:=X.Out ρ W) rfl hφ));exact fun a ha=>hh a ha
   | normal=>
    refine WX.next (WC.seq (WC.block (WC.seq (Es hGg (aeZ hlen') bG (nY hK) hs fun e fr H F w2 hK hs=>?_))))
    cases e with
    | normal=>
     refine WX.next (WC.seq (Es hGg (aeZ hlen') bG hK hs fun e fr H F w2 hK hs=>?_))
     cases e with
     | normal=>
      refine WX.next (WC.seq ?_)
      rw [Zy];refine WC.region ?_;refine WO.of_eq aiv (WO.app (ads hGg bG hK hs fun fr H F w3 hK hs=>?_));intro a ha;obtain ⟨x,hx,hy,hy22,he⟩:=hK;have hy0:look F 0=some (yV X.L):=by obtain ⟨_,_,_,hf⟩:=hs; exact lM hf hy
      have h22:look F 22=some (yV X.L):=by obtain ⟨_,_,_,hf⟩:=hs; exact lM hf hy22
      obtain ⟨F2,⟨ρ2,hs2,hr2,hf2⟩,hlk2⟩:=gw (P:=Tryz.prog) (by rw [hGg]; exact dy) (aeZ hlen') hs he;obtain ⟨hm2,ha2⟩:=hmid.step hs2 hr2;obtain ⟨u,hu26,hu⟩:=eH (i:=26) (tv:=.one (Mz (a_ x X.v).c (a_ x X.v).some (a_ x X.v).e)) hf2 rfl;have hkl:k<X.l.length:=(aaA.1 hx).1;refine WO.yield (L:=X.L) (f:=X.fn) (tmps:=X.tm.setIfInBounds 17 u) (assign:=OA) (body:=PM) (fun a d pos af g ha=>CX h22 (hlk2 _ _ hu26) hm2.loop rfl a d pos af g ha) rfl (fun ro m=>IE hG hsz hM hDL hm2 hx hu ro m) (fun b w4 hb=>?_) a ha;rcases hb with ⟨rfl,ρ4,hm4,ha4⟩ | ⟨rfl,ρ4,hst4,ha4⟩
      ·intro a ha;have hf4:=FrR.Bb (t:=0) (a:=.c (.yl X.L)) (v:=yV X.L) rfl (hf2.eQ rfl (ha4.le (fun b hb=>.inr hb) hr2.lo X.hB) ha4.bx);have hlen4:ρ4.length=11:=hm4.rep.obj.length.symm;refine (ads hGg bG (aaY (L:=X.L) (k:=k) (by omega)) (⟨ρ4,Stp.refl _ _ _,hm4.rep,FrR.Bb (t:=27) (a:=.c (.bool (.lit true))) (Pd.bool (e:=.lit true)) hf4⟩) fun fr H F w5 hK hs=>?_) a (ha.sub (Sw (xf hy0 hlk2)));refine WX.next (Es hGg (aeZ hlen4) bG (nY hK) hs fun e fr H F w6 hK hs=>?_)
       cases e with
       | normal=>
        refine WX.HB (WX.next (Es hGg (aeZ hlen4) bG hK hs fun e fr H F w7 hK hs=>?_));cases e with
        | normal=>
         obtain ⟨hy,he⟩:=hK;have hy0:look F 0=some (yV X.L):=by obtain ⟨_,_,_,hf⟩:=hs; exact lM hf hy
         obtain ⟨F7,⟨ρ7,hs7,hr7,hf7⟩,hlk7⟩:=gw (P:=Tryz.prog) (by rw [hGg]; exact dy) (aeZ hlen4) hs he;obtain ⟨hm7,ha7⟩:=hm4.step hs7 hr7;exact fun a ha=>⟨k+1,⟨ρ7,(0,yV X.L) :: F7,ha.sub (xf hy0 hlk7),hm7,FrR.Bb (a:=.c (.yl X.L)) rfl hf7,hkl,((hadv.trans ha2).trans ha4).trans ha7⟩,by omega⟩
        | _=>exact hK.elim
       | _=>exact hK.elim
      have hφ:X.Out ρ W (.tuple #[]) w4:=⟨ρ4,(hadv.trans ha2).trans ha4,.inr hst4⟩;refine WO.of_eq aiA (WO.v (R.not (b:=false) rfl) rfl (WO.nil (WX.next ?_)));rw [Rm];exact WC.EM rfl (WC.ret (WX.aeg (P:=Tryz.prog) (fn:=Tryz.f258) (φ:=X.Out ρ W) rfl hφ))
     | _=>exact hK.elim
    | _=>exact hK.elim
   | _=>exact hK.elim
  | _=>exact hK.elim
 | _=>exact hK.elim
end
theorem Y_:Tryz.f171.body=some (.seq pR0 (.seq pR1 (.seq pR2 (.seq (.seq pR3 (.block 0 (.rangeFunc (.tmp 16) #[17] OA PM))) QG)))):=bG
theorem aaz {args:List Value} (hle:args.length<=n):M n (wk 0 args) { tmps:=args.toArray++Array.replicate (n - args.toArray.size) undef,defers:=[] }:=by
 refine ⟨rfl,?_,fun i v hv=>?_⟩
 ·simp; omega
 rw [tI] at hv;obtain ⟨_,h2⟩:=rV args 0 i v hv;rw [Nat.sub_zero] at h2;have hi:i<args.length:=(aaA.1 h2).1;refine ⟨by omega,?_⟩;have h3:args[i]=v:=by rw [List.getElem?_eq_getElem hi] at h2; exact ab_ h2
 simp [Array.getD,hi,h3];omega
def DM (G:Gl) (w0:World) (s:State) (l:List Entry) (v:Int) (u:Value) (w':World):Prop:=
 ∃ us,u=Aw us/\∃ ρ',Rep G ρ' (hE (plS v s l) (plR v s l)) w' /\ Ext [] w0 ρ' w' /\ All2 (cZ (cx G ρ' w') ρ') (rE (plS v s l) (pE v l)) us/\Kp [] w0 w'
section
variable {X:PX} {ρ1 ρ':List RE} {w0 W1 w4:World} {H:AH} {a:Act}
theorem JZ {fr:AFr} (hG:X.G.shp=al tyT) (hz:∀ x,X.G.Z x->x<w0.heap.size) (hD:w0.heap.size<=X.D) (hDL:X.D<X.L) (hR:Rep X.g ρ' H w4) (hf:FrR (cx X.g ρ' w4) ρ' fr F) (hM:M 40 F a)
  (hend:endE tyT [] 0 Tryz.f171 (rE (plS X.v X.s X.l) (pE X.v X.l)) (hE (plS X.v X.s X.l) (plR X.v X.s X.l)) fr H) (hd:w4.heap[X.D]? = some (.deferred (some []))) (hE:Ext [] w0 ρ1 W1) (hA:Adv X.Z ρ1 W1 ρ' w4) :
  ∃ w',(Instr.takeDeferred X.D).run Tryz.prog w4 = .ok [] w' /\ ∃ u,(results Tryz.f171 a.tmps).run Tryz.prog w' = .ok u w' /\ DM X.G w0 X.s X.l X.v u w':=by
 refine ⟨_,run_takeDeferred (P:=Tryz.prog) hd,?_⟩;have hR5:=hR.Ha (l:=X.D) (.deferred none) (.inr (.inl rfl)) X.hD;have hsz:(w4.putObj X.D (.deferred none)).heap.size=w4.heap.size:=by simp
 have h04:w0.heap.size<=w4.heap.size:=Nat.le_trans hE.size hA.size;obtain ⟨hR6,hle⟩:=hR5.leave (fun x hx=>aa9 (hz x hx) (by rw [hsz]; exact h04));have hle2:(cx X.g ρ' w4).le (cx X.G ρ' (w4.putObj X.D (.deferred none))):=((Adv.put (Z:=X.Z) (ρ:=ρ') (w:=w4) (.deferred none) (.inl rfl)).le (G:=X.g) (fun b hb=>.inr hb) hR.lo X.hB).trans hle;have hf6:=hf.carry hle2 (kq.refl _);have hE6:Ext [] w0 ρ' (w4.putObj X.D (.deferred none)):=⟨hA.os.trans hE.os,hA.tape.trans hE.tape,hA.output.trans hE.output,by rw [hsz]; exact h04,fun b hb hl=>by
  obtain ⟨h1,h2⟩:=hE.old b hb hl;obtain ⟨h3,h4⟩:=hA.old b (aa9 hb hE.size) h1;have hbD:b≠X.D:=by omega
  exact ⟨h3,(aeI hbD).trans ((h4 (fun hz=>by rcases hz with hz | hz <;> omega)).trans h2)⟩⟩
 unfold endE ZW at hend;split at hend
 ·rename_i l hl;obtain ⟨us,h1,h2⟩:=kH (by rw [hG]; exact dy) hR6 hf6 hM hl;replace hend:=ez.1 hend;refine ⟨_,h2,us,rfl,_,oz (P:=Tryz.prog) (by rw [hG]; exact dy) hR6 rfl (bC.1 fun p hp=>hend p (aba _ (aba _ hp))) fun p hp=>hend p (abV _ hp),nT hE6,oc hR6 rfl h1 fun p hp=>hend p (aba _ (abV _ hp)),?_⟩;exact ⟨hE6.os,hE6.tape,hE6.output,hE6.size,fun b hb _=>(hE6.old b hb (fun ⟨i,r,h,_⟩=>by simp at h)).2⟩
 exact (show False from hend).elim
end
variable {l:List Entry}
theorem Xp {s:State} {r:List Reply} {v:Int}:iR tyT fj (gH 0) 11 [] QG (koI s r) frP (hK s r l v):=by
 rw [af6];repeat' (first | with_reducible apply aZ | with_reducible refine aY ?_ | intro)
 all_goals with_reducible rfl
theorem Wq.go {l:List Prop} {R:Prop} (k:∀ p ∈ l,p) (h:Wq (kS l R)):Wq R:=⟨eG.1 h.h k⟩
theorem Wq.seq {x y:Code} {k0:Nat} {K:Exit->AFr->AH->Prop} {fr:AFr} {H:AH} (h:Wq (iR tyT fj (gH 0) k0 [] (.seq x y) K fr H)):Wq (iR tyT fj (gH 0) k0 [] x (XQ y k0 K) fr H):=⟨nY h.h⟩
theorem ahE {c:Code} {fr:AFr} (hG:G.shp=al tyT) (hk:ρ0.length<=k0) (hc:ek n c=true) (h:Wq (iR tyT fj (gH 0) k0 [] c K fr H))
  (hs:St G (gH 0) ρ0 w0 fr H F w) (hK:∀ e fr H F w,K e fr H->St G (gH 0) ρ0 w0 fr H F w->WX Q n e F w):WC Tryz.prog Q n c F w:=Es hG hk hc h.h hs hK
theorem Xo {s:State} {l:List Entry} {v:Int}:Wq (kS (Ey [.agg (cellsOf (.nm .state) s),.c (.fz (.nm .entry) l),.c (.int v)]) (iR tyT fj (gH 0) 0 [] (.seq pR0 (.seq pR1 (.seq pR2 pR3))) (koN 0 (frP,hK s [] l v)) (qa 0 [.agg (cellsOf (.nm .state) s),.c (.fz (.nm .entry) l),.c (.int v)]) [])):=by
 refine ⟨?_⟩;rw [afh];repeat' (first | with_reducible apply aZ | with_reducible refine aY ?_ | intro)
 all_goals with_reducible rfl
theorem Zf {s:State} {v:Int} (h:∀ p ∈ Ey [.agg (cellsOf (.nm .state) s),.c (.fz (.nm .entry) l),.c (.int v)],p):Wq (iR tyT fj (gH 0) 0 [] (.seq pR0 (.seq pR1 (.seq pR2 pR3))) (koN 0 (frP,hK s [] l v)) (qa 0 [.agg (cellsOf (.nm .state) s),.c (.fz (.nm .entry) l),.c (.int v)]) []):=by
 have h1:=@Xo s l v;revert h1 h;generalize Ey [.agg (cellsOf (.nm .state) s),.c (.fz (.nm .entry) l),.c (.int v)]=L;generalize iR tyT fj (gH 0) 0 [] (.seq pR0 (.seq pR1 (.seq pR2 pR3))) (koN 0 (frP,hK s [] l v)) (qa 0 [.agg (cellsOf (.nm .state) s),.c (.fz (.nm .entry) l),.c (.int v)]) []=R;intro h h1;exact Wq.go h h1
theorem Ms {vs:List Value} {s:State} {v:Int} (hG:G.shp=al tyT) (hR:Rep G ρ [] w) (hvs:All2 (cZ (cx G ρ w) ρ) [.agg (cellsOf (.nm .state) s),.c (.fz (.nm .entry) l),.c (.int v)] vs) :
  jU Tryz.prog 171 vs.toArray w (DM G w s l v):=by
 have hok:=Up.mY hvs;have hsz:l.length*32<=140737488355328:=by
  have:l.length*Sh.bytes (.nm .entry)<=140737488355328:=hok _ (by simp [Ey,TV1.ok,AV.ok]);exact this
 have hρ:ρ=[]:=aa7 hR.obj.length.symm;subst hρ;have hl3:vs.length=3:=hvs.length.symm;refine (callsIn_wide (n:=0)).1 (callsIn_of_wp_marks (F:=gL none) (n:=0) Tryz.func171 Y_ trivial ?_);have hM0:=aaz (n:=40) (args:=vs) (by omega);have h0:([]:List RE).length<=0:=Nat.le_refl 0;refine wpIn_seq (ku.in0 rfl ((ahE (n:=40) hG h0 bG (Wq.seq (Zf hok)) (⟨[],Stp.refl _ _ _,hR,nA hvs⟩) fun e fr H F w1 hK hs=>?_) _ hM0));cases e with
 | normal=>
  intro a ha;refine wpIn_seq (ku.in0 ha.1 ((Es (n:=40) hG h0 bG (nY hK) hs fun e fr H F w1 hK hs=>?_) _ ha));cases e with
  | normal=>
   intro a ha;refine wpIn_seq (ku.in0 ha.1 ((Es (n:=40) hG h0 bG (nY hK) hs fun e fr H F w1 hK hs=>?_) _ ha));cases e with
   | normal=>
    intro a ha;refine wpIn_seq (wpIn_seq (ku.in0 ha.1 ((Es (n:=40) hG h0 bG hK hs fun e fr H F w1 hK hs=>?_) _ ha)));cases e with
    | normal=>
     obtain ⟨F1,⟨ρ1,hs1,hr1,hf1⟩,hlk⟩:=gw (P:=Tryz.prog) (by rw [hG]; exact dy) h0 hs hK;intro a ha0;have ha:=ha0.sub hlk;refine wpIn_block (wpIn_rangeFunc fun fn hfn=>?_);have hae:a={ tmps:=a.tmps,defers:=[] }:=by rw [<- ha.1]
     obtain ⟨vg,hg1,hg2⟩:=eH (i:=16) (tv:=one (.fn 258 [] [(5,0),(6,0)])) hf1 rfl;obtain ⟨bs,us,hb,hu,rfl⟩:=hg2;cases hb;cases hu with | cons h8 hu=>
     cases hu with | cons h9 hu=>
     cases hu;rename_i p8 p9;have hg:a.eval (.tmp 16) = .func (.func 258) #[] #[p8,p9]:=ha.ev (x:=.tmp 16) hg1;obtain ⟨X,hX⟩:∃ X:PX,X=⟨G,w1.heap.size,w1.heap.size+1,fn,a.tmps,F1,s,l,v,hr1.b0,Nat.le_succ_of_le hr1.b0⟩:=⟨_,rfl⟩;have hXD:X.D=w1.heap.size:=by rw [hX]
     have hXL:X.L=w1.heap.size+1:=by rw [hX]
     obtain ⟨hre,hle,hk⟩:=hr1.enter (.deferred (some [])) (.loop (X.rc .ready none));have hsz2:((w1.alloc (.deferred (some []))).alloc (.loop (X.rc .ready none))).heap.size=w1.heap.size+1+1:=by simp
     have hmid:Mid X 0 ρ1 ((w1.alloc (.deferred (some []))).alloc (.loop (X.rc .ready none))):=by
      refine ⟨?_,?_,fun x hx=>by simp at hx,?_,?_⟩
      ·have:Rep (GZ G w1.heap.size (w1.heap.size+1)) ρ1 (Go.Proofs.YticbaadnibdbkaaGreat.hK s [] l v) ((w1.alloc (.deferred (some []))).alloc (.loop (X.rc .ready none))):=hre;rw [hX] at this ⊢; exact this
      ·have:=hf1.carry hle (kq.refl _);rw [hX] at this ⊢; exact this
      ·rw [hXL];have:=World.alloc_heap_new (w1.alloc (.deferred (some []))) (.loop (X.rc .ready none));rwa [World.size_alloc] at this
      rw [hXD];exact (Below.heap_alloc _ _ _ (by simp)).trans (World.alloc_heap_new w1 _)
     have hGX:X.G.shp=al tyT:=by rw [hX]; exact hG
     have hGgX:X.g.shp=al tyT:=hGX;have hlX:X.l=l:=by rw [hX]
     have hMX:M 40 X.FP { tmps:=X.tm,defers:=[] }:=by rw [hX]; rw [hae] at ha; exact ha
     have hMa:M 40 X.FP a:=by rw [hX]; exact ha
     have h8':d_ ρ1 (5,0) p8:=h8;have h9':d_ ρ1 (6,0) p9:=h9;have hit:=JV hGX (by rw [hlX]; exact hsz) hMX (by rw [hXD,hXL]; omega) hmid h8' h9';have hE1:Ext [] w ρ1 ((w1.alloc (.deferred (some []))).alloc (.loop (X.rc .ready none))):=hs1.ext.trans (Ext.kp hk);have hfin:∀ {ρ':List RE} {w4:World} {H:AH} {b:Act} {fr:AFr} {F:Fr},Rep X.g ρ' H w4->FrR (cx X.g ρ' w4) ρ' fr F->M 40 F b->endE tyT [] 0 Tryz.f171 (rE (plS X.v X.s X.l) (pE X.v X.l)) (hE (plS X.v X.s X.l) (plR X.v X.s X.l)) fr H->w4.heap[X.D]? = some (.deferred (some [])) ->
       Adv X.Z ρ1 ((w1.alloc (.deferred (some []))).alloc (.loop (X.rc .ready none))) ρ' w4->bodyPostM (gL none) 0 Tryz.prog Tryz.f171 (fun e w'=>∃ u,e = .returned u/\DM G w s l v u w') .ret (iV b [{ target:=.collected X.D,args:=#[] }]) w4:=fun hR4 hf4 hMb hend hd4 hA4=>by
      obtain ⟨w',ht,u,hu,ho⟩:=JZ (w0:=w) hGX (by rw [hX]; exact hR.z) (by rw [hXD]; exact hs1.ext.size) (by rw [hXD,hXL]; omega) hR4 hf4 hMb hend hd4 hE1 hA4;rw [hX] at ho;exact ⟨by simp,.inl ⟨_,w',rfl,ht,u,hu,u,rfl,ho⟩⟩
     refine ⟨w1.heap.size+1,[{ target:=.collected w1.heap.size,args:=#[] }],(w1.alloc (.deferred (some []))).alloc (.loop { state:=.ready,pending:=none,fn:=fn,tmps:=a.tmps,params:=#[17],assign:=OA,body:=PM,defers:=w1.heap.size }),{ target:=.fn (.func 258) #[p8,p9],args:=#[yV (w1.heap.size+1)] },(w1.alloc (.deferred (some []))).alloc (.loop { state:=.ready,pending:=none,fn:=fn,tmps:=a.tmps,params:=#[17],assign:=OA,body:=PM,defers:=w1.heap.size }),258,#[yV (w1.heap.size+1)] ++ #[p8,p9],(w1.alloc (.deferred (some []))).alloc (.loop { state:=.ready,pending:=none,fn:=fn,tmps:=a.tmps,params:=#[17],assign:=OA,body:=PM,defers:=w1.heap.size }),run_enterLoop_outer _ _ _ _ _,?_,fun _ _=>trivial,?_,fun h=>(by cases h),?_⟩
     ·simp only [resolve,hg];simp [go_sem]
     ·simp [invoke,go_sem]
     have hrc:({ state:=.ready,pending:=none,fn:=fn,tmps:=a.tmps,params:=#[17],assign:=OA,body:=PM,defers:=w1.heap.size }:Loop)=X.rc .ready none:=by rw [hX]; rfl
     rw [hrc,<- hXL];refine Lz (aiY hit fun e w2 ⟨v0,he,ρ2,hA2,hc⟩=>?_);subst he;rcases hc with ⟨k,hk,hm⟩ | hst
     ·refine ⟨none,_,run_endLoop (P:=Tryz.prog) hm.loop (by simp [PX.rc]),?_⟩;obtain ⟨p1,p2,p3⟩:=ZD (s:=X.s) hm.ok hk;have hRm:=hm.rep.Ha (l:=X.L) (.loop { X.rc .ready none with state:=.exhausted }) (.inr (.inr rfl)) X.hL;have A2:Adv X.Z ρ1 _ ρ2 (w2.putObj X.L (.loop { X.rc .ready none with state:=.exhausted })):=hA2.trans (.put _ (.inr rfl));have hfm:FrR (cx X.g ρ2 (w2.putObj X.L (.loop { X.rc .ready none with state:=.exhausted }))) ρ2 frP X.FP:=hm.fr.carry ((Adv.put (Z:=X.Z) (ρ:=ρ2) (w:=w2) _ (.inr rfl)).le (G:=X.g) (fun b hb=>.inr hb) hm.rep.lo X.hB) (kq.refl _);have hdm:(w2.putObj X.L (.loop { X.rc .ready none with state:=.exhausted })).heap[X.D]? = some (.deferred (some [])):=(aeI (by rw [hXD,hXL]; omega)).trans hm.dfr;have hlen2:ρ2.length=11:=hm.rep.obj.length.symm;revert hRm A2 hfm hdm;generalize w2.putObj X.L (.loop { X.rc .ready none with state:=.exhausted })=w4;intro hRm A2 hfm hdm;have hwc:WC Tryz.prog (fun e b w5=>e = .ret/\bodyPostM (gL none) 0 Tryz.prog Tryz.f171 (fun e w'=>∃ u,e = .returned u/\DM G w s l v u w') .ret (iV b [{ target:=.collected X.D,args:=#[] }]) w5) 40 QG X.FP w4:=by
       refine Es hGgX (aeZ hlen2) bG (Xp (s:=pS X.v X.s (X.l.take k)) (r:=pR X.v X.s (X.l.take k)) (l:=X.l) (v:=X.v)) (⟨ρ2,Stp.refl _ _ _,hRm,hfm⟩) fun e fr H F w5 hK hs=>?_;cases e with
       | ret=>
        obtain ⟨ρ5,hs5,hr5,hf5⟩:=hs;have hd5:w5.heap[X.D]? = some (.deferred (some [])):=(hs5.ext.old _ (eZ hdm) (hRm.jS (.inr (.inl rfl)))).2.trans hdm;have hend:endE tyT [] 0 Tryz.f171 (rE (pS X.v X.s (X.l.take k)) 0) (hE (pS X.v X.s (X.l.take k)) (pR X.v X.s (X.l.take k))) fr H:=hK;rw [p1,p2,p3] at hend;exact fun b hb=>⟨rfl,hfin hr5 hf5 hb hend hd5 (A2.trans (.xt hs5.ext hs5.bx))⟩
       | _=>exact hK.elim
      have hwi:=Lf (m:=0) (hwc a hMa none [{ target:=.collected X.D,args:=#[] }]);rw [hXD] at hwi;have hadf:({ a with defers:=[{ target:=.collected w1.heap.size,args:=#[] }]++a.defers }:Act)=iV a [{ target:=.collected w1.heap.size,args:=#[] }]:=by rw [ha.1]; rfl
      show Exit.inBlock 0 _ .normal _ w4;rw [hadf];refine wpIn_mono hwi fun e b w5 ⟨b0,hb0,hbe,hbr,hpost⟩=>?_;subst hbr; subst hbe;exact hpost
     refine ⟨some .ret,_,run_endLoop (P:=Tryz.prog) hst.loop (by simp [PX.rc]),?_⟩;obtain ⟨H,hR,hend⟩:=hst.rep;have A2:Adv X.Z ρ1 _ ρ2 (w2.putObj X.L (.loop { X.rc .done (some .ret) with state:=.exhausted })):=hA2.trans (.put _ (.inr rfl));have hfm:FrR (cx X.g ρ2 (w2.putObj X.L (.loop { X.rc .done (some .ret) with state:=.exhausted }))) ρ2 frP X.FP:=hst.fr.carry ((Adv.put (Z:=X.Z) (ρ:=ρ2) (w:=w2) _ (.inr rfl)).le (G:=X.g) (fun b hb=>.inr hb) hR.lo X.hB) (kq.refl _);have hdm:(w2.putObj X.L (.loop { X.rc .done (some .ret) with state:=.exhausted })).heap[X.D]? = some (.deferred (some [])):=(aeI (by rw [hXD,hXL]; omega)).trans hst.dfr;have hp:=hfin (hR.Ha _ (.inr (.inr rfl)) X.hL) hfm hMa hend hdm A2;have hadf:({ a with defers:=[{ target:=.collected w1.heap.size,args:=#[] }]++a.defers }:Act)=iV a [{ target:=.collected w1.heap.size,args:=#[] }]:=by rw [ha.1]; rfl
     rw [hXD] at hp;show Code.ret.wpIn _ _ _ _ _ _;rw [hadf];exact wpIn_ret hp
    | _=>exact hK.elim
   | _=>exact hK.elim
  | _=>exact hK.elim
 | _=>exact hK.elim
theorem JC (s:State) (l:List Entry) (v:Int):Sat Tryz.prog (al tyT) 171 [.agg (cellsOf (.nm .state) s),.c (.fz (.nm .entry) l),.c (.int v)] [] ⟨[],rE (plS v s l) (pE v l),some (hE (plS v s l) (plR v s l)),true⟩:=by
 refine ⟨⟨_,Tryz.func171,by decide,by kernel_rfl⟩,fun G ρ w vs hG hR hvs=>?_⟩;have hρ:ρ=[]:=aa7 hR.obj.length.symm;subst hρ;refine (Ms hG hR hvs).mono fun u w' ⟨us,e,ρ',h1,h2,h3,h4⟩=>⟨us,e,ρ',h1,h2,fun i g h=>by simp at h,h3,fun _=>⟨h4,fun i r h=>by simp at h⟩⟩
section
variable {v:Int} {s:State} {l:List Entry} {k:Nat} {x:Entry}
end
theorem Uq (st:State) (l:List Entry) (v:Int):Sat Tryz.prog (al tyT) 171 [.agg (cellsOf (.nm .state) st),.c (.fz (.nm .entry) (l)),.c (.int (v))] [] ⟨[],[.agg ([.int (((plS v st l).version)),.int (((plS v st l).next)),.int (((plS v st l).keep)),.int (((plS v st l).quota)),.own 0,.own 1,.own 2]),.c (.own 3),.c (.int ((pE v l)))],some ([.row 137 (.nm .sess) (((plS v st l).sess)),.row 139 (.nm .opn) (((plS v st l).opens)),.row 172 (.nm .snap) (((plS v st l).snaps)),.row 78 (.nm .reply) ((plR v st l))]),true⟩:=JC st l v
noncomputable def FR:Kn:=aK (ae (kT (.nm .state)) (ae (kC (cL (.nm .entry))) (ae (kC cI) ao))) aw fun (st,l,v,_) _=>⟨[],[.agg ([.int (((plS v st l).version)),.int (((plS v st l).next)),.int (((plS v st l).keep)),.int (((plS v st l).quota)),.own 0,.own 1,.own 2]),.c (.own 3),.c (.int ((pE v l)))],some ([.row 137 (.nm .sess) (((plS v st l).sess)),.row 139 (.nm .opn) (((plS v st l).opens)),.row 172 (.nm .snap) (((plS v st l).snaps)),.row 78 (.nm .reply) ((plR v st l))]),true⟩
theorem SW:CK 171 FR:=ag fun (st,l,v,_) _ _=>Uq st l v
noncomputable def adX:bN:=(aO 171 FR adw)
theorem gM:ay Tryz.prog (al tyT) adX:=(ah SW QE)
def adf (O:bN):bN:=fun g a H=>bif Nat.beq g 1000000003 then some ⟨[False],[],none,false⟩ else O g a H
variable {P:Program} {shp:TypeId->Option Sh}
theorem xo {O:bN} (hO:ay P shp O):ay P shp (adf O):=fun g args H r h hp=>by
 unfold adf at h;cases hb:Nat.beq g 1000000003 <;> rw [hb] at h
 ·exact hO g args H r h hp
 cases h; exact (hp False (by simp)).elim
def cWp:AV->Option Nat
 | .xx (.w n) []=>some n
 | _=>none
def cW:PC Nat:=⟨cWp,fun n=>.xx (.w n) [],fun a y h c ρ v hv=>by
 unfold cWp at h
 split at h
 ·cases h; exact hv
 ·cases h⟩
theorem Sat.Lt {f:Nat} {args rs:List TV1} {H1:AH} {pre:List Prop} {keep b:Bool} (i k:Nat) (e:TypeId) (s:Sh) {t:TypeId} {cs:List AV} {H2:AH} (hs:shp e=some s) (hi:H1[i]? = some (.box t cs)) (hk:cs[k]? = some (.em b)) (h:Sat P shp f args H ⟨pre,rs,some H1,keep⟩) (ho:H2=H1.set i (.box t (cs.set k (.own H1.length)))++[.row e s []]):Sat P shp f args H ⟨pre,rs,some H2,keep⟩:=by
 subst ho;refine ⟨h.1,fun G ρ w vs hg hR hv=>(h.2 G ρ w vs hg hR hv).mono ?_⟩;rintro v w' ⟨us,e1,ρ',k1,k2,k3,k4,k5⟩;have hle:=(Ext.app (ρ:=ρ') (r:=.emp) (Kp.refl w') fun g hg=>by cases hg).le k1.lo;have hlen:=k1.obj.length;have k6:=k1.app (r:=.emp) (o:=.row e s []) (Kp.refl w') (fun g hg=>by cases hg) ⟨by show G.shp e=some s; rw [hg]; exact hs,by simp,.inl ⟨rfl,rfl⟩⟩;have hlt:=(aaA.1 hi).1;refine ⟨us,e1,ρ' ++ [.emp],⟨?_,k6.inj,k6.bnd,k6.z,k6.b0,k6.tb⟩,k2.trans (Ext.app (Kp.refl w') fun g hg=>by cases hg),fun i g hi=>by
  rw [List.getElem?_append_left]
  ·exact k3 i g hi
  ·exact (aaA.1 (k3 i g hi)).1,k4.imp fun _ _ h=>h.carry hle (gl _ _),fun hk=>⟨(k5 hk).1,fun i rr hi=>by
  rw [List.getElem?_append_left]
  ·exact (k5 hk).2 i rr hi
  exact (aaA.1 ((k5 hk).2 i rr hi)).1⟩⟩
 obtain ⟨r,hr,g,ws,rfl,h1,h2⟩:=k6.at_ (i:=i) (o:=.box t cs) (by rw [List.getElem?_append_left hlt]; exact hi);have k7:=k6.obj.set i (a:=.box t (cs.set k (.own H1.length))) (b:=.blk g) ⟨g,ws,rfl,h1,?_⟩
 ·rw [List.set_append_left _ _ hlt] at k7;have:(ρ' ++ [RE.emp]).set i (.blk g)=ρ' ++ [RE.emp]:=by
   obtain ⟨hj,he⟩:=aaA.1 hr;rw [<- he,aiJ]
  rwa [this] at k7
 obtain ⟨u,hu,hp⟩:=dI h2 k _ hk;have k8:=h2.set k (a:=.own H1.length) (b:=u) (.inr ⟨by rw [hlen]; simp,?_⟩)
 ·have:ws.set k u=ws:=by
   obtain ⟨hj,he⟩:=aaA.1 hu;rw [<- he,aiJ]
  rwa [this] at k8
 have hp:Pd _ _ _:=hp;cases hp with | em _=>exact ⟨_,rfl⟩
noncomputable def Bd:Kn:=aK (ae (kC (aX 0 0)) ao) (aC (dG 147 (ax (eV 1) (ax cI (ax cB (ax cB (ax cI dC)))))) (aC (eW 5 .u8) aw)) fun _ ((_,sy,dn,dm,kp,_),bs,_)=>⟨[],[.c (.bool (.atom ((dn))))],none,false⟩
theorem LA:CK 40 Bd:=ag fun _ ((_,sy,dn,dm,kp,_),bs,_) _=>by
 refine av gM [] Tryz.func40 (?_:dn=dn);try rfl
noncomputable def AA:Kn:=aK (ae (kC (aX 0 0)) (ae (kC cI) ao)) (aC (dG 147 (ax (eV 1) (ax cI (ax cB (ax cB (ax cI dC)))))) (aC (eW 5 .u8) aw)) fun (_,k,_) ((_,sy,dn,dm,kp,_),bs,_)=>⟨[],[],some ([.box 147 ([.own 1,.int (((Dsk.mk bs sy dn true k).synced)),.bool (.atom (((Dsk.mk bs sy dn true k).down))),.bool (.atom (((Dsk.mk bs sy dn true k).doomed))),.int (((Dsk.mk bs sy dn true k).keep))]),.row 5 .u8 (((Dsk.mk bs sy dn true k).b))]),false⟩
theorem Mx:CK 108 AA:=ag fun (_,k,_) ((_,sy,dn,dm,kp,_),bs,_) _=>by
 refine br gM [] Tryz.func108 (?_:I64 k->sy=sy/\dn=dn/\true=true/\k=k/\bs=bs);(repeat' with_reducible first|apply aZ|refine aY ?_|intro) <;> (first | with_reducible rfl | with_reducible assumption | omega | (refine bT ?_ ?_ <;> omega))
noncomputable def Jk:Kn:=aK (ae (kC (aX 0 0)) ao) (aC (dG 147 (ax (eV 1) (ax cI (ax cB (ax cB (ax cI dC)))))) (aC (eW 5 .u8) aw)) fun _ ((_,sy,dn,dm,kp,_),bs,_)=>⟨[],[.c (.int ((if dn=true then 0 else 31)))],some ([.box 147 ([.own 1,.int (((if dn=true then (Dsk.mk bs sy dn dm kp).up else (Dsk.mk bs sy dn dm kp)).synced)),.bool (.atom (((if dn=true then (Dsk.mk bs sy dn dm kp).up else (Dsk.mk bs sy dn dm kp)).down))),.bool (.atom (((if dn=true then (Dsk.mk bs sy dn dm kp).up else (Dsk.mk bs sy dn dm kp)).doomed))),.int (((if dn=true then (Dsk.mk bs sy dn dm kp).up else (Dsk.mk bs sy dn dm kp)).keep))]),.row 5 .u8 (((if dn=true then (Dsk.mk bs sy dn dm kp).up else (Dsk.mk bs sy dn dm kp)).b))]),false⟩
theorem Zg:CK 44 Jk:=ag fun _ ((_,sy,dn,dm,kp,_),bs,_) _=>by
 refine br gM [] Tryz.func44 (?_:(fun q1=>(fun q0=>(dn=false->31=q1/\sy=q0.synced/\dn=q0.down/\dm=q0.doomed/\kp=q0.keep/\bs=q0.b)/\(dn=true->0=q1/\sy=q0.synced/\false=q0.down/\false=q0.doomed/\0=q0.keep/\bs=q0.b)) (if dn=true then (Dsk.mk bs sy dn dm kp).up else Dsk.mk bs sy dn dm kp)) (if dn=true then (0:Int) else (31:Int)));(repeat' with_reducible first|apply aZ|refine aY ?_|intro) <;> grind [Dsk.up]
noncomputable def vx:Kn:=aK (ae (kC (aX 0 0)) (ae (kC cI) ao)) (aC (dG 147 (ax (eV 1) (ax cI (ax cB (ax cB (ax cI dC)))))) (aC (eW 5 .u8) aw)) fun (_,k,_) ((_,sy,dn,dm,kp,_),bs,_)=>⟨[(Dsk.mk bs sy dn dm kp).OK],[],some ([.box 147 ([.own 1,.int ((((Dsk.mk bs sy dn dm kp).cD k).synced)),.bool (.atom ((((Dsk.mk bs sy dn dm kp).cD k).down))),.bool (.atom ((((Dsk.mk bs sy dn dm kp).cD k).doomed))),.int ((((Dsk.mk bs sy dn dm kp).cD k).keep))]),.row 5 .u8 ((((Dsk.mk bs sy dn dm kp).cD k).b))]),false⟩
theorem Hv:CK 39 vx:=ag fun (_,k,_) ((_,sy,dn,dm,kp,_),bs,_) hp=>by
 have h0:=cc hp;refine br (xo gM) [] Tryz.func39 (?_:(fun q1=>(fun q0=>I64 k->I64 ((↑bs.length:Int) - sy)/\I64 q0/\(0<=q0/\q0<=(↑bs.length:Int))/\(↑(List.take q0.toNat bs).length:Int)=q1.synced/\true=q1.down/\false=q1.doomed/\0=q1.keep/\List.take q0.toNat bs=q1.b) (sy+min (max k 0) ((↑bs.length:Int) - sy))) ((Dsk.mk bs sy dn dm kp).cD k));obtain ⟨o1,o2,o3⟩:=h0;dsimp only at o1 o2 o3;(repeat' with_reducible first|apply aZ|refine aY ?_|intro) <;> first | (first | with_reducible rfl | with_reducible assumption | omega | (refine bT ?_ ?_ <;> omega)) | (simp only [Dsk.cD,Dsk.at_]; first | done | (first | with_reducible rfl | with_reducible assumption | omega | (refine bT ?_ ?_ <;> omega)) | (rw [List.length_take]; omega))
noncomputable def Gc:Kn:=aK (ae (kC (aX 0 0)) (ae (kC cI) ao)) (aC (dG 147 (ax (eV 1) (ax cI (ax cB (ax cB (ax cI dC)))))) (aC (eW 5 .u8) aw)) fun (_,k,_) ((_,sy,dn,dm,kp,_),bs,_)=>⟨[(Dsk.mk bs sy dn dm kp).OK],[.c (.int (((Dsk.mk bs sy dn dm kp).ln k)))],some ([.box 147 ([.own 1,.int ((((Dsk.mk bs sy dn dm kp).cut k).synced)),.bool (.atom ((((Dsk.mk bs sy dn dm kp).cut k).down))),.bool (.atom ((((Dsk.mk bs sy dn dm kp).cut k).doomed))),.int ((((Dsk.mk bs sy dn dm kp).cut k).keep))]),.row 5 .u8 ((((Dsk.mk bs sy dn dm kp).cut k).b))]),false⟩
theorem TP:CK 45 Gc:=ag fun (_,k,_) ((_,sy,dn,dm,kp,_),bs,_) hp=>by
 have h0:=cc hp;refine br (xo gM) [] Tryz.func45 (?_:(fun q1=>(fun q0=>(fun q2=>I64 k->(dn=true->30=q1.ln k/\q2)/\(dn=false->(k<0\/(↑bs.length:Int)<k->1=q1.ln k/\q2)/\(0<=k/\k<=(↑bs.length:Int)->0<=k/\k<=(↑bs.length:Int)/\0=q1.ln k/\k=q0.synced/\dn=q0.down/\dm=q0.doomed/\kp=q0.keep/\List.take k.toNat bs=q0.b))) (sy=q0.synced/\dn=q0.down/\dm=q0.doomed/\kp=q0.keep/\bs=q0.b)) (q1.cut k)) (Dsk.mk bs sy dn dm kp));obtain ⟨o1,o2,o3⟩:=h0;dsimp only at o1 o2 o3;(repeat' with_reducible first|apply aZ|refine aY ?_|intro) <;> first | (first | with_reducible rfl | with_reducible assumption | omega | (refine bT ?_ ?_ <;> omega)) | grind [Dsk.cut,Dsk.ln]
noncomputable def Ek:Kn:=aK (ae (kC (aX 0 0)) (ae (kC (cL .u8)) ao)) (aC (dG 147 (ax (eV 1) (ax cI (ax cB (ax cB (ax cI dC)))))) (aC (eW 5 .u8) aw)) fun (_,x,_) ((_,sy,dn,dm,kp,_),bs,_)=>⟨[(Dsk.mk bs sy dn dm kp).OK],[.c (.int (((Dsk.mk bs sy dn dm kp).jW x)))],some ([.box 147 ([.own 1,.int ((((Dsk.mk bs sy dn dm kp).app x).synced)),.bool (.atom ((((Dsk.mk bs sy dn dm kp).app x).down))),.bool (.atom ((((Dsk.mk bs sy dn dm kp).app x).doomed))),.int ((((Dsk.mk bs sy dn dm kp).app x).keep))]),.row 5 .u8 ((((Dsk.mk bs sy dn dm kp).app x).b))]),false⟩
theorem Ts:CK 150 Ek:=ag fun (_,x,_) ((_,sy,dn,dm,kp,_),bs,_) hp=>by
 have h0:=cc hp;refine br gM [] Tryz.func150 (?_:(fun q2=>(fun q1=>(fun q0=>(fun q3=>x.length*1<=140737488355328->(dn=true->30=q2.jW x/\q3)/\(dn=false->I64 q1/\(q1<(↑x.length:Int)->20=q2.jW x/\q3)/\((↑x.length:Int)<=q1->(bs.length+x.length)*1<=140737488355328/\0=q2.jW x/\sy=q0.synced/\dn=q0.down/\dm=q0.doomed/\kp=q0.keep/\bs++x=q0.b))) (sy=q0.synced/\dn=q0.down/\dm=q0.doomed/\kp=q0.keep/\bs=q0.b)) (q2.app x)) (65536 - (↑bs.length:Int))) (Dsk.mk bs sy dn dm kp));obtain ⟨o1,o2,o3⟩:=h0;dsimp only at o1 o2 o3;(repeat' with_reducible first|apply aZ|refine aY ?_|intro) <;> first | (first | with_reducible rfl | with_reducible assumption | omega | (refine bT ?_ ?_ <;> omega)) | grind [Dsk.app,Dsk.jW]
noncomputable def vp:Kn:=aK (ae (kC (aX 0 0)) ao) (aC (dG 147 (ax (eV 1) (ax cI (ax cB (ax cB (ax cI dC)))))) (aC (eW 5 .u8) aw)) fun _ ((_,sy,dn,dm,kp,_),bs,_)=>⟨[(Dsk.mk bs sy dn dm kp).OK],[.c (.own 2)],some ([.box 147 ([.own 1,.int ((sy)),.bool (.atom ((dn))),.bool (.atom ((dm))),.int ((kp))]),.row 5 .u8 ((bs)),.row 5 .u8 ((bs))]),true⟩
theorem GU:CK 42 vp:=ag fun _ ((_,sy,dn,dm,kp,_),bs,_) hp=>by
 have h0:=cc hp;refine dD gM [] Tryz.func42 (?_:(fun (q0:Nat)=>(0:Int)<=(↑q0:Int)/\(↑q0:Int)*(↑(1:Nat):Int)<=(140737488355328:Int)/\(↑q0:Int)=(↑q0:Int)/\sy=sy/\dn=dn/\dm=dm/\kp=kp/\bs=bs/\List.take (List.replicate q0 (au Sh.u8)).length bs++List.drop q0 (List.replicate q0 (au Sh.u8))=bs) bs.length);obtain ⟨o1,o2,o3⟩:=h0;dsimp only at o1 o2 o3;(repeat' with_reducible first|apply aZ|refine aY ?_|intro) <;> first | (first | with_reducible rfl | with_reducible assumption | omega | (refine bT ?_ ?_ <;> omega)) | simp
noncomputable def Ex:Kn:=aK ao aw fun _ _=>⟨[],[.c (.ptr 0 0)],some ([.box 147 ([.em true,.int ((0)),.bool (.atom ((false))),.bool (.atom ((false))),.int ((0))])]),true⟩
theorem EK:CK 38 Ex:=ag fun _ _ _=>by
 refine dD gM [] Tryz.func38 (?_:(0:Int)=0/\false=false/\false=false/\(0:Int)=0);(repeat' with_reducible first|apply aZ|refine aY ?_|intro) <;> (first | with_reducible rfl | with_reducible assumption | omega | (refine bT ?_ ?_ <;> omega))
theorem QT :Sat Tryz.prog (al tyT) 38 [] [] ⟨[],[.c (.ptr 0 0)],some ([.box 147 ([.em true,.int ((0)),.bool (.atom ((false))),.bool (.atom ((false))),.int ((0))])]),true⟩:=EK _ _ _ rfl (by simp)
noncomputable def adu:bN:=(aO 38 Ex (aO 42 vp (aO 150 Ek (aO 45 Gc (aO 39 vx (aO 44 Jk (aO 108 AA (aO 40 Bd adX))))))))
theorem gk:ay Tryz.prog (al tyT) adu:=(ah EK (ah GU (ah Ts (ah TP (ah Hv (ah Zg (ah Mx (ah LA gM))))))))
variable {x:UInt8} {k:Nat}
theorem vM {q:Nat × Nat} {l:List UInt8} (h:l[k]? = some x):iG q (l.take (k+1))=Nu (iG q (l.take k)) x:=by
 rw [ai h,iG,List.foldl_append]; rfl
variable {b:List UInt8}
theorem XF {s:Nat} (h:b[k]? = some x):((iG (s % 65536 % 65521,s / 65536 % 65521) (b.take k)).1+x.toNat) % 4294967296 % 65521=(iG (s % 65536 % 65521,s / 65536 % 65521) (b.take (k+1))).1:=by
 have:=(qX (s:=s) (b.take k)).1;have:=x.toNat_lt;rw [vM h,Nu];omega
theorem aaq {s:Nat} (h:b[k]? = some x):((iG (s % 65536 % 65521,s / 65536 % 65521) (b.take k)).2+((iG (s % 65536 % 65521,s / 65536 % 65521) (b.take k)).1+x.toNat) % 4294967296 % 65521) % 4294967296 % 65521=(iG (s % 65536 % 65521,s / 65536 % 65521) (b.take (k+1))).2:=by
 have:=(qX (s:=s) (b.take k));have:=x.toNat_lt;rw [vM h,Nu];omega
theorem Ze {s:Nat} (h:(b.length:Int)<=k):(65536*(iG (s % 65536 % 65521,s / 65536 % 65521) (b.take k)).2 % 4294967296+(iG (s % 65536 % 65521,s / 65536 % 65521) (b.take k)).1) % 4294967296=dT s b:=by
 have:=(qX (s:=s) b);rw [List.take_of_length_le (by omega),dT];omega
variable {l:List Bool} {x:Bool}
theorem agJ (h:l[k]? = some x) (hx:x=true):(((l.take k).countP id:Nat):Int)+1=((l.take (k+1)).countP id:Nat):=by
 rw [ai h,List.countP_append,hx]; simp
theorem afv (h:l[k]? = some x) (hx:x=false):(((l.take k).countP id:Nat):Int)=((l.take (k+1)).countP id:Nat):=by
 rw [ai h,List.countP_append,hx]; simp
theorem aio (h:(l.length:Int)<=k):decide ((l.length:Int).tdiv 2<((l.take k).countP id:Nat))=decide ((l.length:Int).tdiv 2<(l.countP id:Nat)):=by
 rw [List.take_of_length_le (by omega)]
theorem ahC (h:l.length*1<=140737488355328):I64 (((l.take k).countP id:Nat)+1):=by
 have h1:(l.take k).countP id<=(l.take k).length:=List.countP_le_length;rw [List.length_take] at h1;exact bT aL aL
variable {l:List Entry}
theorem Sf (h:(l.length:Int)=0):(0:Int)=ig l:=by
 rw [aa7 (l:=l) (by omega)]; rfl
theorem SJ (h:¬ (l.length:Int)=0):(l.getD ((l.length:Int) - 1).toNat (au (Sh.nm NT.entry))).term=ig l:=by
 rw [show ((l.length:Int) - 1).toNat=l.length - 1 by omega]; rfl
theorem RV {k:Int} {x:Entry} (h0:¬ k=0) (h1:0<=k) (h2:k<=(l.length:Int)) (h:l[(k - 1).toNat]? = some x):x.term=cK l k:=by
 rw [cK,if_neg h0,if_neg (by omega),List.getD_eq_getElem?_getD,h]; rfl
def aah (s:Nat) (b:List UInt8):List (Nat × LI):=[(3,{ σ:=Nat,F:=fun k=>([(5,one (.ptr 0 0)),(15,one (.fz .u8 (b))),(16,one (.int (b).length)),(17,one (.int k))],[.box 286 ([.xx (.w (((iG (s % 65536 % 65521,s / 65536 % 65521) (b.take k)).1))) [],.xx (.w (((iG (s % 65536 % 65521,s / 65536 % 65521) (b.take k)).2))) []])]),J:=fun k=>k<=b.length,μ:=fun k=>(b).length - k })]
def Xr (l:List Bool):List (Nat × LI):=[(3,{ σ:=Nat,F:=fun k=>([(0,one (.fz .bool (l))),(3,one (.int ((l.take k).countP id))),(6,one (.fz .bool (l))),(7,one (.int (l).length)),(8,one (.int k))],[]),J:=fun k=>k<=l.length,μ:=fun k=>(l).length - k })]
noncomputable def BN:Kn:=aK (ae (kC (aX 0 0)) ao) (aC (dG 147 (ax (eV 1) (ax cI (ax cB (ax cB (ax cI dC)))))) (aC (eW 5 .u8) aw)) fun _ ((_,sy,dn,dm,kp,_),bs,_)=>⟨[(Dsk.mk bs sy dn dm kp).OK],[.c (.int (((Dsk.mk bs sy dn dm kp).fw)))],some ([.box 147 ([.own 1,.int ((((Dsk.mk bs sy dn dm kp).sync).synced)),.bool (.atom ((((Dsk.mk bs sy dn dm kp).sync).down))),.bool (.atom ((((Dsk.mk bs sy dn dm kp).sync).doomed))),.int ((((Dsk.mk bs sy dn dm kp).sync).keep))]),.row 5 .u8 ((((Dsk.mk bs sy dn dm kp).sync).b))]),false⟩
theorem Lu:CK 151 BN:=ag fun _ ((_,sy,dn,dm,kp,_),bs,_) hp=>by
 have h0:=cc hp;refine br gk [] Tryz.func151 (?_:(fun q0=>(fun q3=>(fun q2=>(fun q1=>(dn=true->30=q0.fw/\sy=q2.synced/\q1)/\(dn=false->(dm=true->(0<=sy/\sy<=(↑bs.length:Int)/\bs.length<=65536)/\30=q0.fw/\q3.synced=q2.synced/\q3.down=q2.down/\q3.doomed=q2.doomed/\q3.keep=q2.keep/\q3.b=q2.b)/\(dm=false->0=q0.fw/\(↑bs.length:Int)=q2.synced/\q1))) (dn=q2.down/\dm=q2.doomed/\kp=q2.keep/\bs=q2.b)) q0.sync) (q0.cD kp)) (Dsk.mk bs sy dn dm kp));obtain ⟨o1,o2,o3⟩:=h0;dsimp only at o1 o2 o3;(repeat' with_reducible first|apply aZ|refine aY ?_|intro) <;> first | (first | with_reducible rfl | with_reducible assumption | omega | (refine bT ?_ ?_ <;> omega)) | grind [Dsk.sync,Dsk.fw]
theorem JN :Sat Tryz.prog (al tyT) 38 [] [] ⟨[],[.c (.ptr 0 0)],some ([.box 147 ([.own 1,.int ((0)),.bool (.atom ((false))),.bool (.atom ((false))),.int ((0))]),.row 5 .u8 (([]))]),true⟩:=Sat.Lt 0 0 5 .u8 bG rfl rfl QT rfl
noncomputable def zO:Kn:=aK ao aw fun _ _=>⟨[],[.c (.ptr 0 0)],some ([.box 147 ([.own 1,.int ((0)),.bool (.atom ((false))),.bool (.atom ((false))),.int ((0))]),.row 5 .u8 (([]))]),true⟩
theorem Kw:CK 38 zO:=ag fun _ _ _=>JN
noncomputable def DK:Kn:=aK (ae (kC cW) (ae (kC (cL .u8)) ao)) aw fun (s,b,_) _=>⟨[],[.c (.xx (.w ((dT s b))) [])],none,false⟩
theorem SI:CK 252 DK:=ag fun (s,b,_) _ _=>by
 refine av gk (aah s b) Tryz.func252 (?_:(fun (q7:Nat)=>(fun (q6:Nat)=>(fun (q5:Int)=>(fun (q4:Nat)=>(fun (q3:Nat)=>(fun (q2:Int)=>(fun (q1:Int)=>(fun (q0:Nat × Nat)=>b.length*(1:Nat)<=(140737488355328:Nat)->q7<q6/\q7<q3/\q7<q6/\q7<q3/\∃ (s0:Nat),(b=b/\(↑b.length:Int)=(↑q4:Int)/\q1=(↑s0:Int)/\s % q6 % q3=(iG q0 (List.take s0 b)).fst/\s / q6 % q3=(iG q0 (List.take s0 b)).snd)/\s0<=q4/\∀ (s_1:Nat),(fun (q8:Nat × Nat)=>s_1<=q4->((↑s_1:Int)<(↑q4:Int)->q1<=(↑s_1:Int)/\(↑s_1:Int)<(↑b.length:Int)/\∀ (x:UInt8),(fun (q9:Nat)=>b[s_1]? = some x->q1<=q1/\q1<q2/\q7<q3/\q1<=q1/\q1<q2/\q1<=q5/\q5<q2/\q1<=q1/\q1<q2/\q7<q3/\q1<=q5/\q5<q2/\I64 ((↑s_1:Int)+q5)/\∃ (s':Nat),(b=b/\(↑q4:Int)=(↑q4:Int)/\(↑s_1:Int)+q5=(↑s':Int)/\q9=(iG q0 (List.take s' b)).fst/\(q8.snd+q9) % (4294967296:Nat) % q3=(iG q0 (List.take s' b)).snd)/\s' <= q4/\q4 - s' < q4 - s_1) ((q8.fst+x.toNat) % (4294967296:Nat) % q3))/\((↑q4:Int)<=(↑s_1:Int)->q1<=q5/\q5<q2/\q1<=q1/\q1<q2/\(q6*q8.snd % (4294967296:Nat)+q8.fst) % (4294967296:Nat)=dT s b)) (iG q0 (List.take s_1 b))) (s % q6 % q3,s / q6 % q3)) (0:Int)) (↑(2:Nat):Int)) (65521:Nat)) b.length) (1:Int)) (65536:Nat)) (0:Nat));(repeat' with_reducible first|apply aZ|refine aY ?_|intro)
 all_goals try ( refine ⟨0,?_⟩; (repeat' with_reducible first|apply aZ|refine aY ?_|intro))
 all_goals try ( refine ⟨‹Nat› + 1,?_⟩; (repeat' with_reducible first|apply aZ|refine aY ?_|intro))
 all_goals (first | exact bt | exact rfl | exact (XF ab) | exact (aaq ab) | exact (Ze ab))
noncomputable def pP:Kn:=aK (ae (kC (cL .u8)) ao) aw fun (l,_) _=>⟨[],[.c (.fz .u8 ((l)))],none,false⟩
theorem zL:CK 104 pP:=ag fun (l,_) _ _=>by
 refine av gk [] Tryz.func104 (?_:(fun q0=>q0->∀ (b:Bool),(b=true->l=[])->(b=true->l=[])/\(b=false->q0/\l=l)) (l.length*1<=140737488355328));grind
noncomputable def GF:Kn:=aK (ae (kC (cL (.nm .entry))) ao) aw fun (l,_) _=>⟨[],[.c (.int (((l.length:Int)))),.c (.int ((ig l)))],none,false⟩
theorem Qy:CK 49 GF:=ag fun (l,_) _ _=>by
 refine av gk [] Tryz.func49 (?_:(fun q1=>(fun q0=>(fun q2=>l.length*32<=140737488355328->(q1=0->0=(↑l.length:Int)/\0=ig l)/\(¬q1=0->I64 q0/\(0<=q0/\q0<q1)/\(I64 q2.term->q2.b.length*1<=140737488355328->q1=(↑l.length:Int)/\q2.term=ig l))) (l.getD q0.toNat (au (Sh.nm NT.entry)))) (q1 - 1)) (↑l.length:Int));(repeat' with_reducible first|apply aZ|refine aY ?_|intro)
 all_goals (first | exact bt | exact (Sf ab) | exact (SJ ab))
noncomputable def Gy:Kn:=aK (ae (kC (cL (.nm .entry))) (ae (kC cI) ao)) aw fun (l,k,_) _=>⟨[],[.c (.int ((cK l k)))],none,false⟩
theorem TG:CK 193 Gy:=ag fun (l,k,_) _ _=>by
 refine av gk [] Tryz.func193 (?_:(fun q1=>(fun q0=>l.length*32<=140737488355328->I64 k->(k=q1->q1=cK l k)/\(¬k=q1->(k<q1\/(↑l.length:Int)<k -> -1=cK l k)/\(q1<=k/\k<=(↑l.length:Int)->I64 q0/\q1<=q0/\q0<(↑l.length:Int)/\∀ (x:Entry),l[q0.toNat]? = some x->I64 x.term->x.b.length*1<=140737488355328->x.term=cK l k))) (k - 1)) (0:Int));(repeat' with_reducible first|apply aZ|refine aY ?_|intro)
 all_goals (first | exact bt | exact (RV ab ab ab ab) | (rw [cK,if_pos ab]) | (rw [cK,if_neg ab,if_pos ab]))
noncomputable def Ed:Kn:=aK (ae (kC cI) (ae (kT (.nm .letter)) ao)) aw fun (n,x,_) _=>⟨[0<=x.a/\x.a<=64],[.c (.int ((jq n x)))],none,false⟩
theorem RH:CK 172 Ed:=ag fun (n,x,_) _ hp=>by
 have h0:=cc hp;refine av gk [] Tryz.func172 (?_:(fun q0=>(fun q1=>I64 n->aJ x ((x.ok=true->I64 q1/\q1=jq n x)/\(x.ok=false->(q0<n->I64 (n - q0)/\I64 q1/\min (n - q0) q1=jq n x)/\(n<=q0->q0=jq n x)))) (x.a+q0)) (1:Int));(repeat' with_reducible first|apply aZ|refine aY ?_|intro)
 all_goals first | exact bt | (simp only [jq]; grind) | (have q:=(by with_reducible assumption:I64 n); exact bT (by have:=q.1; omega) (by have:=q.2; omega))
noncomputable def Fp:Kn:=aK (ae (kC cI) (ae (kC cI) ao)) aw fun (t,v,_) _=>⟨[],[.c (.own 0)],some ([.row 108 (.nm .record) (([⟨2,t,v,[]⟩]))]),true⟩
theorem QZ:CK 88 Fp:=ag fun (t,v,_) _ _=>by
 refine dD gk [] Tryz.func88 (?_:I64 t->I64 v->[Record.mk 2 t v []]=[Record.mk 2 t v []]);intros; rfl
noncomputable def FL:Kn:=aK (ae (kC (cL .bool)) ao) aw fun (l,_) _=>⟨[],[.c (.bool (.atom ((pO l))))],none,false⟩
theorem QA:CK 101 FL:=ag fun (l,_) _ _=>by
 refine av gk (Xr l) Tryz.func101 (?_:(fun q2=>(fun q1=>(fun q0=>(fun q3=>l.length*(1:Nat)<=(140737488355328:Nat)->∃ s0,(l=l/\(0:Int)=(↑(List.countP id (List.take s0 l)):Int)/\l=l/\q2=q3/\(0:Int)=(↑s0:Int))/\s0<=q0/\∀ (s:Nat),(fun q5=>(fun q4=>s<=q0->((↑s:Int)<q3->(0:Int)<=(↑s:Int)/\(↑s:Int)<q2/\∀ (x:Bool),l[s]? = some x->(x=true->I64 (q4+q1)/\I64 q5/\∃ s',(l=l/\q4+q1=(↑(List.countP id (List.take s' l)):Int)/\l=l/\q3=q3/\q5=(↑s':Int))/\s' <= q0/\q0 - s' < q0 - s)/\(x=false->I64 q5/\∃ s',(l=l/\q4=(↑(List.countP id (List.take s' l)):Int)/\l=l/\q3=q3/\q5=(↑s':Int))/\s' <= q0/\q0 - s' < q0 - s))/\(q3<=(↑s:Int)->(0:Int)<=q2/\(0:Int)<(2:Int)/\decide (q2.tdiv (2:Int)<q4)=pO l)) (↑(List.countP id (List.take s l)):Int)) ((↑s:Int)+q1)) (↑q0:Int)) l.length) (1:Int)) (↑l.length:Int));iterate 3 ((all_goals (repeat' with_reducible first|apply aZ|refine aY ?_|intro)); (all_goals try (first | exact bt | exact rfl | exact (agJ ab ab) | exact (afv ab ab) | exact (ahC ab) | exact (aio ab))); all_goals try first | refine ⟨‹Nat› + 1,?_⟩ | refine ⟨0,?_⟩)
noncomputable def KB:Kn:=aK (ae (kC cI) (ae (kC cI) (ae (kC cI) ao))) aw fun (n,a,b,_) _=>⟨[],[.c (.bool (.atom ((cj n a b))))],none,false⟩
theorem ZV:CK 165 KB:=ag fun (n,a,b,_) _ _=>by
 refine av gk [] Tryz.func165 (?_:I64 n->I64 a->I64 b->(decide (a<=n) && decide (n<=b))=cj n a b);grind [cj]
noncomputable def adj:bN:=(aO 165 KB (aO 101 FL (aO 88 Fp (aO 172 Ed (aO 193 Gy (aO 49 GF (aO 104 pP (aO 252 DK (aO 38 zO (aO 151 BN adu))))))))))
theorem jH:ay Tryz.prog (al tyT) adj:=(ah ZV (ah QA (ah QZ (ah RH (ah TG (ah Qy (ah zL (ah SI (ah Kw (ah Lu gk))))))))))
noncomputable def zS:Kn:=aK (ae (kC (cL .u8)) ao) aw fun (b,_) _=>⟨[],[.c (.xx (.w ((dT 1 b))) [])],none,false⟩
theorem KH:CK 209 zS:=ag fun (b,_) _ _=>by
 refine av jH [] Tryz.func209 (?_:b.length*1<=140737488355328->dT 1 b=dT 1 b);intros; rfl
noncomputable def OJ:Kn:=aK (ae (kC (cL .u8)) ao) aw fun (b,_) _=>⟨[],[.c (.fz .u8 ((b)))],none,false⟩
theorem YJ:CK 211 OJ:=ag fun (b,_) _ _=>by
 refine av jH [] Tryz.func211 (?_:(fun q0=>q0->((↑b.length:Int)=0->b=[])/\(¬(↑b.length:Int)=0->q0->b=b)) (b.length*1<=140737488355328));(repeat' with_reducible first|apply aZ|refine aY ?_|intro)
 all_goals (first | exact bt | exact (aa7 aL).symm | exact (aa7 aL))
noncomputable def mB:Kn:=aK (ae (kC (cL (.nm .entry))) ao) aw fun (l,_) _=>⟨[],[.c (.own 0)],some ([.row 52 (.nm .entry) ((l))]),true⟩
theorem uq:CK 213 mB:=ag fun (l,_) _ _=>by
 refine dD jH [] Tryz.func213 (?_:(fun q0=>q0->∀ (b:Bool),(b=true->l=[])->(b=true->l=[])/\(b=false->q0/\l=l)) (l.length*32<=140737488355328));exact fun h b hb=>⟨hb,fun _=>⟨h,rfl⟩⟩
noncomputable def zY:Kn:=aK (ae (kC (cL (.nm .entry))) (ae (kC cI) (ae (kC cI) ao))) aw fun (l,k,m,_) _=>⟨[],[.c (.bool (.atom ((decide (cK l k=m)))))],none,false⟩
theorem MD:CK 166 zY:=ag fun (l,k,m,_) _ _=>by
 refine av jH [] Tryz.func166 (?_:l.length*32<=140737488355328->I64 k->I64 m->I64 (cK l k)->decide (cK l k=m)=decide (cK l k=m));intros; rfl
noncomputable def yB:Kn:=aK (ae (kC (cL (.nm .entry))) (ae (kC cI) (ae (kC cI) ao))) aw fun (l,k,m,_) _=>⟨[],[.c (.bool (.atom ((jy l k m))))],none,false⟩
theorem Ng:CK 170 yB:=ag fun (l,k,m,_) _ _=>by
 refine av jH [] Tryz.func170 (?_:l.length*32<=140737488355328->I64 k->I64 m->I64 (↑l.length:Int)->I64 (ig l)->(decide (ig l<m) || decide (m=ig l) && decide ((↑l.length:Int)<=k))=jy l k m);intros; rfl
noncomputable def yZ:Kn:=aK (ae (kC cI) (ae (kC cI) (ae (kC cB) ao))) aw fun (n,m,bb,_) _=>⟨[],[.c (.bool (.atom ((dU n m bb))))],none,false⟩
theorem NN:CK 164 yZ:=ag fun (n,m,bb,_) _ _=>by
 refine av jH [] Tryz.func164 (?_:I64 n->I64 m->(bb=false->cj n 0 0=dU n m bb)/\(bb=true->cj n 0 m=dU n m bb));(repeat' with_reducible first|apply aZ|refine aY ?_|intro)
 all_goals first | exact bt | (simp only [dU]; grind)
noncomputable def aen:bN:=(aO 164 yZ (aO 170 yB (aO 166 zY (aO 213 mB (aO 211 OJ (aO 209 zS adj))))))
theorem iL:ay Tryz.prog (al tyT) aen:=(ah NN (ah Ng (ah MD (ah uq (ah YJ (ah KH jH))))))
end Go.Proofs.YticbaadnibdbkaaGreat
