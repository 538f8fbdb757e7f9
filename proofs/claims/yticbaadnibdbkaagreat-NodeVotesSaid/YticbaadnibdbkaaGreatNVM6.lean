/- What leads to the law, part 6. Conditions: each lemma's own. -/
import Derived.Shelf.Lay
import Derived.Shelf.SlSortCmp.Small
import Derived.Shelf.Small.Bits
import Derived.Sort.LotA
import Derived.Test.YticbaadnibdbkaaGreatNVM5
set_option linter.unusedVariables false
set_option linter.unusedSimpArgs false
set_option maxHeartbeats 2000000
set_option linter.defProp false
namespace Go.Proofs.YticbaadnibdbkaaGreat
open Go.RowKit
def aiX:=@List.getElem?_take_of_lt
def afa:=@Nat.le_of_eq
def FU:Kn:=aK (ae (kC cI) (ae (kC cI) (ae (kC (aX 0 0)) ao))) (aC (dH 177 (ax (Yi true) dv)) aw) fun (k,n,_,_) ((_,_),_)=>⟨[0<=n],[],some ([.box 177 ([.own 1]),.row 219 (.nm .field) ((pI k n))]),false⟩
theorem Us:CK 223 FU:=ag fun (k,n,_,_) ((_,_),_) hp=>by
 have h0:=cc hp;refine br nO [] Tryz.func223 (?_:I64 k->I64 n->(¬n=0->0<=n/\[Field.mk k 0 (U64.mk n.toNat) []].length*48<=140737488355328/\[Field.mk k 0 (U64.mk n.toNat) []]=pI k n)/\(n=0->pI k n=[]));(repeat' with_reducible first|apply aZ|refine aY ?_|intro)
 all_goals (first | exact bt | exact (yp ab) | exact (AR ab) | exact (zA ab) | exact (zI aL) | exact (yp (xs:=[]) ab) | exact (AR (xs:=[]) ab).symm | exact (zA (xs:=[]) ab) | exact (zI (xs:=[]) aL).symm | (simp only [List.length_cons,List.length_nil]; omega) | decide)
def DE:Kn:=aK (ae (kC cI) (ae (kC cI) (ae (kC (aX 0 0)) ao))) (aC (dH 177 (ax (eO 1) dv)) (aC (eW 219 (.nm .field)) aw)) fun (k,n,_,_) ((_,_),xs,_)=>⟨[0<=n,xs.length<=1000],[],some ([.box 177 ([.own 1]),.row 219 (.nm .field) ((xs++pI k n))]),false⟩
theorem Qj:CK 223 DE:=ag fun (k,n,_,_) ((_,_),xs,_) hp=>by
 have h0:=cc hp;have h1:=cc (eQ hp);refine br nO [] Tryz.func223 (?_:I64 k->I64 n->(¬n=0->0<=n/\(xs.length+[Field.mk k 0 (U64.mk n.toNat) []].length)*48<=140737488355328/\xs++[Field.mk k 0 (U64.mk n.toNat) []]=xs++pI k n)/\(n=0->xs=xs++pI k n));(repeat' with_reducible first|apply aZ|refine aY ?_|intro)
 all_goals (first | exact bt | exact (yp ab) | exact (AR ab) | exact (zA ab) | exact (zI aL) | exact (yp (xs:=[]) ab) | exact (AR (xs:=[]) ab).symm | exact (zA (xs:=[]) ab) | exact (zI (xs:=[]) aL).symm | (simp only [List.length_cons,List.length_nil]; omega) | decide)
def FC:Kn:=aK (ae (kC cI) (ae (kC (cL .u8)) (ae (kC (aX 0 0)) ao))) (aC (dH 177 (ax (Yi true) dv)) aw) fun (k,b,_,_) ((_,_),_)=>⟨[],[],some ([.box 177 ([.own 1]),.row 219 (.nm .field) ((BX k b))]),false⟩
theorem Sm:CK 224 FC:=ag fun (k,b,_,_) ((_,_),_) _=>by
 refine br nO [] Tryz.func224 (?_:I64 k->b.length*1<=140737488355328->(0<(↑b.length:Int)->[Field.mk k 2 (U64.mk 0) b].length*48<=140737488355328/\[Field.mk k 2 (U64.mk 0) b]=BX k b)/\((↑b.length:Int)<=0->BX k b=[]));(repeat' with_reducible first|apply aZ|refine aY ?_|intro)
 all_goals (first | exact bt | exact (yp ab) | exact (AR ab) | exact (zA ab) | exact (zI aL) | exact (yp (xs:=[]) ab) | exact (AR (xs:=[]) ab).symm | exact (zA (xs:=[]) ab) | exact (zI (xs:=[]) aL).symm | (simp only [List.length_cons,List.length_nil]; omega) | decide)
def FZ:Kn:=aK (ae (kC cI) (ae (kC (cL .u8)) (ae (kC (aX 0 0)) ao))) (aC (dH 177 (ax (eO 1) dv)) (aC (eW 219 (.nm .field)) aw)) fun (k,b,_,_) ((_,_),xs,_)=>⟨[xs.length<=1000],[],some ([.box 177 ([.own 1]),.row 219 (.nm .field) ((xs++BX k b))]),false⟩
theorem Rj:CK 224 FZ:=ag fun (k,b,_,_) ((_,_),xs,_) hp=>by
 have h0:=cc hp;refine br nO [] Tryz.func224 (?_:I64 k->b.length*1<=140737488355328->(0<(↑b.length:Int)->(xs.length+[Field.mk k 2 (U64.mk 0) b].length)*48<=140737488355328/\xs++[Field.mk k 2 (U64.mk 0) b]=xs++BX k b)/\((↑b.length:Int)<=0->xs=xs++BX k b));(repeat' with_reducible first|apply aZ|refine aY ?_|intro)
 all_goals (first | exact bt | exact (yp ab) | exact (AR ab) | exact (zA ab) | exact (zI aL) | exact (yp (xs:=[]) ab) | exact (AR (xs:=[]) ab).symm | exact (zA (xs:=[]) ab) | exact (zI (xs:=[]) aL).symm | (simp only [List.length_cons,List.length_nil]; omega) | decide)
def UK:bN:=(aO 224 FZ (aO 224 FC (aO 223 DE (aO 223 FU aco))))
theorem ze:ay Tryz.prog (al tyT) UK:=(ah Rj (ah Sm (ah Qj (ah Us nO))))
def uQ:Kn:=aK (ae (kT (.nm .command)) (ae (kC cI) ao)) aw fun (c,v,_) _=>⟨[0<=c.kind,0<=c.client,0<=c.seq,0<=c.set,0<=c.id,0<=c.n],[.c (.own 0)],some ([.row 219 (.nm .field) ((dM c v))]),true⟩
theorem Hj:CK 163 uQ:=ag fun (c,v,_) _ hp=>by
 have h0:=cc hp;have h1:=cc (eQ hp);have h2:=cc (eQ (eQ hp));have h3:=cc (eQ (eQ (eQ hp)));have h4:=cc (eQ (eQ (eQ (eQ hp))));have h5:=cc (eQ (eQ (eQ (eQ (eQ hp)))));refine dD ze [] Tryz.func163 (?_:(fun q6=>(fun q5=>(fun q4=>(fun q3=>(fun q2=>(fun q1=>(fun q0=>bB c (I64 v->q6<=c.kind/\q6<=c.client/\(pI 1 c.kind).length<=q4/\q6<=c.seq/\q5.length<=q4/\q6<=c.set/\q1.length<=q4/\q6<=c.id/\(q1++pI 4 c.set).length<=q4/\q6<=c.n/\q0.length<=q4/\((eK c.chunks).length*1<=140737488355328->I64 (fG c.chunks)->(q0++q3).length<=q4/\(3<=v->(q0++q3++q2).length<=q4/\q0++q3++q2++BX 8 c.text.b=dM c v)/\(v<3->q0++q3++q2=dM c v)))) (q1++pI 4 c.set++pI 5 c.id)) (q5++pI 3 c.seq)) (BX 7 (eK c.chunks))) (pI 6 c.n)) (1000:Nat)) (pI 1 c.kind++pI 2 c.client)) (0:Int));(repeat' with_reducible first|apply aZ|refine aY ?_|intro)
 all_goals (first | exact bt | (rw [dM,if_pos aL]; rfl) | (rw [dM,if_neg aL]; rfl) | (have h1:=gD 1 c.kind; have h2:=gD 2 c.client; have h3:=gD 3 c.seq; have h4:=gD 4 c.set; have h5:=gD 5 c.id; have h6:=gD 6 c.n; have h7:=Ct 7 (eK c.chunks); (try simp only [List.length_append]); omega))
def WS:bN:=(aO 163 uQ UK)
theorem ox:ay Tryz.prog (al tyT) WS:=(ah Hj ze)
variable {b:List UInt8}
theorem ael (h:(aQ b).e=0) (h2:(aj (b.drop (aQ b).k)).2.2=0) (h3:¬ (aQ b).wire=0) (h4:(aj (b.drop (aQ b).k)).1<=16384) (h5:((b.length:Nat):Int) - (((aQ b).k:Int)+((aj (b.drop (aQ b).k)).2.1:Nat))<eX (aj (b.drop (aQ b).k)).1):(0:Int)=((bf b).1:Nat)/\2=(bf b).2:=by
 rw [nz (by omega)] at h5;rw [afG h h2 h3 (by omega) (by omega)]; exact ⟨rfl,rfl⟩
theorem aer (h:(aQ b).e=0) (h2:(aj (b.drop (aQ b).k)).2.2=0) (h3:¬ (aQ b).wire=0) (h4:(aj (b.drop (aQ b).k)).1<=16384) (h5:eX (aj (b.drop (aQ b).k)).1<=((b.length:Nat):Int) - (((aQ b).k:Int)+((aj (b.drop (aQ b).k)).2.1:Nat))):((aQ b).k:Int)+((aj (b.drop (aQ b).k)).2.1:Nat)+eX (aj (b.drop (aQ b).k)).1=((bf b).1:Nat)/\0=(bf b).2:=by
 rw [nz (by omega)] at h5 ⊢;rw [aic h h2 h3 (by omega) (by omega)]; exact ⟨rfl,rfl⟩
def abg (l:List Field):List (Nat × LI):=[(6,{ σ:=Nat,F:=fun k=>([(5,one (.own 0)),(13,one (.fz (.nm .field) (l))),(14,one (.int (l).length)),(15,one (.int k))],[.row 5 .u8 ((((l.take k).map cz).flatten))]),J:=fun k=>k<=l.length,μ:=fun k=>l.length - k })]
def adi (q:Int) (v:Int):List (Nat × LI):=[(3,{ σ:=Nat,F:=fun k=>([(5,one (.int (((aS v).take k).foldl (fun t s=>max t s.num) 0))),(10,one (.fz (.nm .spec) (aS v))),(11,one (.int (aS v).length)),(12,one (.int k))],[]),J:=fun k=>k<=(aS v).length,μ:=fun k=>(aS v).length - k })]
def Ge:Kn:=aK (ae (kC (cL .u8)) ao) aw fun (b,_) _=>⟨[],[.c (.int ((((bf b).1:Nat)))),.c (.int (((bf b).2)))],none,false⟩
theorem SM:CK 329 Ge:=ag fun (b,_) _ _=>by
 refine av ox [] Tryz.func329 (?_:(fun q7=>(fun q6=>(fun q5=>(fun q4=>(fun q3=>(fun q2=>(fun q1=>(fun q0=>(fun q8=>q6->I64 q5.num->I64 q5.wire->I64 q1->I64 q5.e->(¬q5.e=q3->q2/\q5.e=q4)/\(q5.e=q3->q3<=q1/\q1<=q7/\q6/\(q0.fst<(18446744073709551616:Nat)->I64 q0.snd.snd->(¬q0.snd.snd=q3->q2/\q0.snd.snd=q4)/\(q0.snd.snd=q3->(q5.wire=q3->q8=(↑(bf b).fst:Int)/\q3=q4)/\(¬q5.wire=q3->((↑(16384:Nat):Int)<(↑q0.fst:Int)->q2/\(4:Int)=q4)/\((↑q0.fst:Int)<=(↑(16384:Nat):Int)->I64 (q7 - q8)/\(q7 - q8<eX q0.fst->q2/\(2:Int)=q4)/\(eX q0.fst<=q7 - q8->I64 (q8+eX q0.fst)/\q8+eX q0.fst=(↑(bf b).fst:Int)/\q3=q4))))))) (q1+(↑q0.snd.fst:Int))) (aj (List.drop q5.k b))) (↑q5.k:Int)) (q3=(↑(bf b).fst:Int))) (0:Int)) (bf b).snd) (aQ b)) (b.length*(1:Nat)<=(140737488355328:Nat))) (↑b.length:Int));(repeat' with_reducible first|apply aZ|refine aY ?_|intro)
 all_goals (first | exact bt | (rw [agb ab] <;> rfl) | (rw [afA ab ab] <;> rfl) | (rw [agG ab ab ab] <;> rfl) | (rw [afQ ab ab ab aL] <;> rfl) | exact (ael ab ab ab aL ab).1 | exact (ael ab ab ab aL ab).2 | exact (aer ab ab ab aL ab).1 | exact (aer ab ab ab aL ab).2 | (have h1:=qY b; have h2:=nL b (aQ b).k; first | omega | (refine bR ?_ ?_ <;> omega)) | (have h1:=qY b; have h2:=nL b (aQ b).k; have h3:=nz (m:=(aj (b.drop (aQ b).k)).1) aL; first | omega | (refine bR ?_ ?_ <;> omega)))
def Oy:Kn:=aK (ae (kC (cL (.nm .field))) ao) aw fun (l,_) _=>⟨[],[.c (.own 0),.c (.int ((cP l)))],some ([.row 5 .u8 ((ml l))]),true⟩
theorem YE:CK 162 Oy:=ag fun (l,_) _ _=>by
 refine dD ox (abg l) Tryz.func162 (?_:(fun (q0:Nat)=>l.length*48<=140737488355328->I64 (cP l)->(¬cP l=0->cP l=cP l/\ml l=[])/\(cP l=0->∃ (s0:Nat),(l=l/\(↑l.length:Int)=(↑q0:Int)/\0=(↑s0:Int)/\(List.map cz (List.take s0 l)).flatten=[])/\s0<=q0/\∀ (s:Nat),(fun (q1:List UInt8)=>s<=q0->((↑s:Int)<(↑q0:Int)->0<=(↑s:Int)/\(↑s:Int)<(↑l.length:Int)/\∀ (x:Field),l[s]? = some x->I64 x.num->I64 x.wire->x.n.n<18446744073709551616->x.b.length*1<=140737488355328->x.b.length<=16384/\(q1.length+(cz x).length)*1<=140737488355328/\I64 ((↑s:Int)+1)/\∃ (s':Nat),(l=l/\(↑q0:Int)=(↑q0:Int)/\(↑s:Int)+1=(↑s':Int)/\q1++cz x=(List.map cz (List.take s' l)).flatten)/\s' <= q0/\q0 - s' < q0 - s)/\((↑q0:Int)<=(↑s:Int)->0=cP l/\q1=ml l)) (List.map cz (List.take s l)).flatten)) l.length);iterate 3 ((all_goals (repeat' with_reducible first|apply aZ|refine aY ?_|intro)); (all_goals try (first | exact bt | exact rfl | exact (aaN ab).symm | exact (Eq.symm ab) | exact (I_ ab) | exact (xw ab (acQ ab)) | exact (Up ab aL) | (have h1:=Mg (k:=‹Nat›) (show cP l=0 by with_reducible assumption); have h2:=rJ (f:=‹Field›) (xw (show cP l=0 by with_reducible assumption) (acQ ab)) ab; omega))); all_goals try first | refine ⟨‹Nat› + 1,?_⟩ | refine ⟨0,?_⟩)
def Lu:Kn:=aK (ae (kC cI) (ae (kC cI) ao)) aw fun (q,v,_) _=>⟨[q=1],[.c (.int ((cT v)))],none,false⟩
theorem YF:CK 161 Lu:=ag fun (q,v,_) _ hp=>by
 have h0:=cc hp;refine av ox (adi q v) Tryz.func161 (?_:(fun (q1:Int)=>(fun (q0:List Spec)=>(fun (q2:Nat)=>I64 q->I64 v->q=1/\(q0.length*32<=140737488355328->∃ (s0:Nat),(q1=List.foldl (fun (t:Int) (s:Spec)=>max t s.num) q1 (List.take s0 q0)/\q0=q0/\(↑q0.length:Int)=(↑q2:Int)/\q1=(↑s0:Int))/\s0<=q2/\∀ (s:Nat),(fun (q3:Int)=>s<=q2->((↑s:Int)<(↑q2:Int)->q1<=(↑s:Int)/\(↑s:Int)<(↑q0.length:Int)/\∀ (x:Spec),q0[s]? = some x->mT x (I64 ((↑s:Int)+1)/\∃ (s':Nat),(max q3 x.num=List.foldl (fun (t:Int) (s:Spec)=>max t s.num) q1 (List.take s' q0)/\q0=q0/\(↑q2:Int)=(↑q2:Int)/\(↑s:Int)+1=(↑s':Int))/\s' <= q2/\q2 - s' < q2 - s))/\((↑q2:Int)<=(↑s:Int)->q3=cT v)) (List.foldl (fun (t:Int) (s:Spec)=>max t s.num) q1 (List.take s q0)))) q0.length) (aS v)) 0);iterate 3 ((all_goals (repeat' with_reducible first|apply aZ|refine aY ?_|intro)); (all_goals try (first | exact bt | exact rfl | exact (Nr ab) | (rw [cT,List.take_of_length_le aL]))); all_goals try first | refine ⟨‹Nat› + 1,?_⟩ | refine ⟨0,?_⟩)
def acf:bN:=(aO 161 Lu (aO 162 Oy (aO 329 Ge WS)))
theorem qH:ay Tryz.prog (al tyT) acf:=(ah YF (ah YE (ah SM ox)))
structure Wq (p:Prop):Prop where
 h:p
def fD (l:List Field):Int->Option Int:=fun q=>if iI l q=0 then none else some ((iI l q:Nat):Int)
def Bz (rest:List Field) (v:Int) (k:Nat):Prop:=∀ j y,j<k->rest[j]? = some y->¬ y.num<=cT v
variable {f:Field} {xs:List Field}
theorem aap (h:(xs.length:Int)=0):true=fU xs f:=by
 unfold fU; rw [List.getElem?_eq_none (by omega)]
theorem XI (h:¬ (xs.length:Int)=0):fX (xs.getD ((xs.length:Int) - 1).toNat (au (.nm .field))) f=fU xs f:=by
 unfold fU;rw [show ((xs.length:Int) - 1).toNat=xs.length - 1 by omega,List.getD_eq_getElem?_getD,List.getElem?_eq_getElem (by omega)]; rfl
theorem IY (l:List Field) (q:Int):(fD l q).getD (au .int)=((iI l q:Nat):Int):=by
 unfold fD;by_cases h:iI l q=0
 ·rw [if_pos h,h]; rfl
 rw [if_neg h]; rfl
variable {l:List Field}
theorem XX:(fun _=>none)=fD (l.take 0):=rfl
variable {k:Nat}
theorem Zj (h:l.length<=k):fD (l.take k)=fD l:=by rw [List.take_of_length_le h]
variable {x:Field}
theorem QW (hx:l[k]? = some x):(fun j=>if j=x.num then some ((fD (l.take k) x.num).getD (au .int)+1) else fD (l.take k) j)=fD (l.take (k+1)):=by
 funext j;have h:=LO hx j;by_cases hj:j=x.num
 ·rw [if_pos hj] at h ⊢;rw [IY]; unfold fD; rw [h,if_neg (by omega)]; rfl
 rw [if_neg hj] at h ⊢;unfold fD; rw [h]
theorem gdX (hx:l[k]? = some x):x=l.getD k (au (.nm .field)):=by rw [List.getD_eq_getElem?_getD,hx]; rfl
theorem gdY (h:k<l.length):l[k]? = some (l.getD k (au (.nm .field))):=by
 rw [List.getD_eq_getElem?_getD,List.getElem?_eq_getElem h]; rfl
variable {ss:List Spec} {m:Nat}
theorem afH {y:Spec} (h:Wq (Oh ss x ((iI l x.num:Nat):Int) m)) (hy:ss[m]? = some y) (hn:¬ y.num=x.num\/KQ x y ((fD l x.num).getD (au .int))=true):Wq (Oh ss x ((iI l x.num:Nat):Int) (m+1)):=
 ⟨LQ h.h hy fun e=>by rw [IY] at hn; exact hn.resolve_left (fun h=>h e)⟩
theorem ago (h:Wq (t_ l ss k)) (hk:k<l.length) (hi:Wq (Oh ss (l.getD k (au (.nm .field))) ((iI (l.take (k+1)) (l.getD k (au (.nm .field))).num:Nat):Int) m)) (hm:(ss.length:Int)<=(m:Int)):Wq (t_ l ss (k+1)):=
 ⟨JM h.h (gdY hk) hi.h (by omega) rfl⟩
theorem afU (h:Wq (t_ l ss k)) (hk:l.length<=k):Wq (t_ l ss l.length):=⟨fun j x hj=>h.h j x (by omega)⟩
theorem afO {v:Int} {y:Spec} (hy:(aS v)[m]? = some y) (hn:y.need=true) (h0:(fD l y.num).getD (au .int)=0):¬ yY l v:=Th hy ⟨hn,by rw [IY] at h0; exact h0⟩ rfl
theorem ag2 {y:Spec} (h:Wq (Je l ss m)) (hy:ss[m]? = some y) (hn:y.need=false\/¬ (fD l y.num).getD (au .int)=0):Wq (Je l ss (m+1)):=
 ⟨LL h.h hy fun ha=>by
  rw [IY] at hn;rcases hn with hn | hn
  ·rw [ha] at hn; cases hn
  omega⟩
theorem aiv {v:Int} (hA:Wq (t_ l (aS v) l.length)) (hB:Wq (Je l (aS v) k)) (hk:(aS v).length<=k):yY l v:=Sf hA.h (Nat.le_refl _) hB.h hk
variable {rest:List Field}
theorem ac9 {v:Int}:Bz rest v 0:=fun j y h=>by omega
theorem ad9 {v:Int} (h:Wq (Bz rest v k)) (hx:rest[k]? = some x) (hn:¬ x.num<=cT v):Wq (Bz rest v (k+1)):=⟨GW h.h hx hn⟩
theorem pb1 {c:Command} {v:Int} (h:ct v=false):dL c rest v=1:=agn (by show (!(ct v))=true; rw [h]; rfl)
theorem pb2 {c:Command} {v:Int} (h:ct v=true) (h1:gv c v=false) (h2:¬ bG c v=0):dL c rest v=bG c v:=afb (by show (!(ct v))=false; rw [h]; rfl) h1 h2
theorem pb3 {c:Command} {v:Int} (h:ct v=true) (h1:gv c v=true\/bG c v=0) (hx:rest[k]? = some x) (hn:x.num<=cT v):dL c rest v=6:=ahB (by show (!(ct v))=false; rw [h]; rfl) h1 hx hn
theorem pb0 {c:Command} {v:Int} (h:ct v=true) (h1:gv c v=true\/bG c v=0) (ht:Wq (Bz rest v k)) (hk:rest.length<=k):dL c rest v=0:=aim (by show (!(ct v))=false; rw [h]; rfl) h1 ht.h hk
def RA (q:Int) (v:Int) (l:List Field):List (Nat × LI):=[(9,{ σ:=Nat,F:=fun k=>([(7,one (.fz (.nm .spec) (aS v))),(9,one (.mq 0)),(28,one (.fz (.nm .field) (l))),(29,one (.int (l).length)),(30,one (.int k))],[.mapo .int (fD (l.take k))]),J:=fun k=>k<=l.length/\Wq (t_ l (aS v) k),μ:=fun k=>(l).length - k }),(13,{ σ:=Nat × Nat,F:=fun q=>([(7,one (.fz (.nm .spec) (aS v))),(9,one (.mq 0)),(11,one (.ptr 1 0)),(28,one (.fz (.nm .field) (l))),(29,one (.int (l).length)),(30,one (.int q.1)),(39,one (.fz (.nm .spec) (aS v))),(40,one (.int (aS v).length)),(41,one (.int q.2))],[.mapo .int (fD (l.take (q.1+1))),.box 219 (cellsOf (.nm .field) ((l.getD q.1 (au (.nm .field)))))]),J:=fun q=>q.1<l.length/\q.2<=(aS v).length/\Wq (t_ l (aS v) q.1)/\Wq (Oh (aS v) (l.getD q.1 (au (.nm .field))) ((iI (l.take (q.1+1)) (l.getD q.1 (au (.nm .field))).num:Nat):Int) q.2),μ:=fun q=>(aS v).length - q.2,R:=some fun q0 q=>q.1=q0.1 }),(20,{ σ:=Nat,F:=fun k=>([(9,one (.mq 0)),(62,one (.fz (.nm .spec) (aS v))),(63,one (.int (aS v).length)),(64,one (.int k))],[.mapo .int (fD l)]),J:=fun k=>k<=(aS v).length/\Wq (t_ l (aS v) l.length)/\Wq (Je l (aS v) k),μ:=fun k=>(aS v).length - k })]
def adU (c:Command) (rest:List Field) (v:Int):List (Nat × LI):=[(9,{ σ:=Nat,F:=fun k=>([(1,one (.fz (.nm .field) (rest))),(2,one (.int (v))),(3,one (.ptr 0 0)),(9,one (.int (cT v))),(27,one (.fz (.nm .field) (rest))),(28,one (.int (rest).length)),(29,one (.int k))],[.box 35 (cellsOf (.nm .command) (c))]),J:=fun k=>k<=rest.length/\Wq (Bz rest v k),μ:=fun k=>rest.length - k })]
noncomputable def GH:Kn:=aK (ae (kT (.nm .field)) (ae (kC (aX 0 0)) ao)) (aC (dH 177 (ax (eO 1) dv)) (aC (eW 219 (.nm .field)) aw)) fun (f,_,_) ((_,_),xs,_)=>⟨[xs.length<=20000],[.c (.bool (.atom ((fU xs f))))],none,false⟩
theorem SH:CK 328 GH:=ag fun (f,_,_) ((_,_),xs,_) hp=>by
 have h0:=cc hp;refine av qH [] Tryz.func328 (?_:(fun q2=>(fun q1=>(fun q0=>I64 f.num->I64 f.wire->f.n.n<18446744073709551616->f.b.length*1<=140737488355328->(q2=0->true=fU xs f)/\(¬q2=0->I64 q1/\(0<=q1/\q1<q2)/\(I64 q0.num->I64 q0.wire->q0.n.n<18446744073709551616->q0.b.length*1<=140737488355328->fX q0 f=fU xs f))) (xs.getD q1.toNat (au (Sh.nm NT.field)))) (q2 - 1)) (↑xs.length:Int));(repeat' with_reducible first|apply aZ|refine aY ?_|intro)
 all_goals (first | exact bt | exact (aap ab) | exact (XI ab))
noncomputable def zj:Kn:=aK (ae (kC cI) (ae (kC cI) (ae (kC (cL (.nm .field))) ao))) aw fun (q,v,l,_) _=>⟨[q=1],[.c (.int ((gm l v)))],none,false⟩
theorem NJ:CK 287 zj:=ag fun (q,v,l,_) _ hp=>by
 have h0:=cc hp;refine av qH (RA q v l) Tryz.func287 (?_:(fun (q5:Nat)=>(fun (q4:Int)=>(fun (q3:Int)=>(fun (q2:Nat)=>(fun (q6:Int)=>(fun (q1:den (Sh.nm NT.field))=>(fun (q0:List Spec)=>(fun (q9:Prop)=>(fun (q8:Int)=>(fun (q7:Nat)=>(fun (q10:Int)=>I64 q->I64 v->l.length*48<=140737488355328->q=q4/\(q0.length*32<=140737488355328->(q8=q3->q4=gm l v)/\(¬q8=q3->I64 (cP l)->(¬cP l=q3->cP l=gm l v)/\(cP l=q3->∃ (s0:Nat),(q9/\l=l/\(↑l.length:Int)=q6/\q3=(↑s0:Int)/\(fun (_:Int)=>none)=fD (List.take s0 l))/\(s0<=q2/\Wq (t_ l q0 s0))/\∀ (s:Nat),s<=q2/\Wq (t_ l q0 s)->((↑s:Int)<q6->q3<=(↑s:Int)/\(↑s:Int)<(↑l.length:Int)/\∀ (x:Field),(fun (q11:Int)=>l[s]? = some x->I64 x.num->I64 x.wire->x.n.n<18446744073709551616->x.b.length*q5<=140737488355328->I64 q11/\∃ (s0:Nat × Nat),(fun (q13:Nat)=>(fun (q12:Field)=>(q9/\l=l/\q6=q6/\(↑s:Int)=(↑q13:Int)/\q9/\q8=q10/\q3=(↑s0.snd:Int)/\(fun (j:Int)=>if j=x.num then some q11 else fD (List.take s l) j)=fD (List.take (q13+q5) l)/\x.num=q12.num/\x.wire=q12.wire/\x.n.n=q12.n.n/\x.b=q12.b)/\(q13<q2/\s0.snd<=q7/\Wq (t_ l q0 q13)/\Wq (Oh q0 q12 (↑(iI (List.take (q13+q5) l) q12.num):Int) s0.snd))/\q13=q13/\∀ (s_1:Nat × Nat),(fun (q16:Int)=>(fun (q15:List Field)=>(fun (q14:Field)=>s_1.fst<q2/\s_1.snd<=q7/\Wq (t_ l q0 s_1.fst)/\Wq (Oh q0 q14 (↑(iI q15 q14.num):Int) s_1.snd)->s_1.fst=q13->(q16<q10->q3<=q16/\q16<q8/\∀ (x:Spec),(fun (q17:Bool)=>q0[s_1.snd]? = some x->mT x ((x.num=q14.num/\q17=false->6=gm l v)/\(¬x.num=q14.num\/q17=true->I64 (q16+q4)/\∃ (s':Nat × Nat),(fun (q18:Field)=>(q9/\l=l/\q6=q6/\(↑s_1.fst:Int)=(↑s'.fst:Int)/\q9/\q10=q10/\q16+q4=(↑s'.snd:Int)/\fD q15=fD (List.take (s'.fst+q5) l)/\q14.num=q18.num/\q14.wire=q18.wire/\q14.n.n=q18.n.n/\q14.b=q18.b)/\(s'.fst<q2/\s'.snd<=q7/\Wq (t_ l q0 s'.fst)/\Wq (Oh q0 q18 (↑(iI (List.take (s'.fst+q5) l) q18.num):Int) s'.snd))/\s'.fst=q13/\q7 - s'.snd<q7 - s_1.snd) (l.getD s'.fst q1)))) (KQ q14 x ((fD q15 q14.num).getD (au Sh.int))))/\(q10<=q16->I64 ((↑s_1.fst:Int)+q4)/\∃ (s':Nat),(q9/\l=l/\q6=q6/\(↑s_1.fst:Int)+q4=(↑s':Int)/\fD q15=fD (List.take s' l))/\(s' <= q2/\Wq (t_ l q0 s'))/\q2 - s' < q2 - s)) (l.getD s_1.fst q1)) (List.take (s_1.fst+q5) l)) (↑s_1.snd:Int)) (l.getD q13 q1)) s0.fst) ((fD (List.take s l) x.num).getD (au Sh.int)+q4))/\(q6<=(↑s:Int)->∃ (s0:Nat),(q9/\q8=q10/\q3=(↑s0:Int)/\fD (List.take s l)=fD l)/\(s0<=q7/\Wq (t_ l q0 q2)/\Wq (Je l q0 s0))/\∀ (s:Nat),s<=q7/\Wq (t_ l q0 q2)/\Wq (Je l q0 s)->((↑s:Int)<q10->q3<=(↑s:Int)/\(↑s:Int)<q8/\∀ (x:Spec),(fun (q19:Prop)=>q0[s]? = some x->mT x ((x.need=true/\q19->6=gm l v)/\(x.need=false\/¬q19->I64 ((↑s:Int)+q4)/\∃ (s':Nat),(q9/\q10=q10/\(↑s:Int)+q4=(↑s':Int)/\fD l=fD l)/\(s' <= q7/\Wq (t_ l q0 q2)/\Wq (Je l q0 s'))/\q7 - s' < q7 - s))) ((fD l x.num).getD (au Sh.int)=q3))/\(q10<=(↑s:Int)->q3=gm l v)))))) (↑q7:Int)) q0.length) (↑q0.length:Int)) (q0=q0)) (aS v)) (au (Sh.nm NT.field))) (↑q2:Int)) l.length) 0) 1) 1);(repeat' with_reducible first|apply aZ|refine aY ?_|intro)
 all_goals try (refine ⟨0,?_⟩; (repeat' with_reducible first|apply aZ|refine aY ?_|intro))
 all_goals try (refine ⟨(‹Nat›,0),?_⟩; (repeat' with_reducible first|apply aZ|refine aY ?_|intro))
 all_goals try (refine ⟨(‹Nat × Nat›.1,‹Nat × Nat›.2+1),?_⟩; (repeat' with_reducible first|apply aZ|refine aY ?_|intro))
 all_goals try (refine ⟨‹Nat × Nat›.1+1,?_⟩; (repeat' with_reducible first|apply aZ|refine aY ?_|intro))
 all_goals try (refine ⟨0,?_⟩; (repeat' with_reducible first|apply aZ|refine aY ?_|intro))
 all_goals try (refine ⟨‹Nat› + 1,?_⟩; (repeat' with_reducible first|apply aZ|refine aY ?_|intro))
 all_goals (first | exact bt | exact rfl | exact (ah3 aL) | exact (ahC aL ab) | exact XX | exact ⟨acw⟩ | exact ⟨abW⟩ | exact ⟨ac_⟩ | exact (QW ab) | exact (congrArg Field.num (gdX ab)) | exact (congrArg Field.wire (gdX ab)) | exact (congrArg (fun f=>f.n.n) (gdX ab)) | exact (congrArg Field.b (gdX ab)) | exact (ad0 aL ab (TQ (gdY ab) ab (And.intro ab ab) (IY _ _))) | exact (afH ab ab (by assumption)) | exact (ago ab ab ab ab) | exact (afU ab aL) | exact (Zj aL) | exact (ad0 aL ab (afO ab ab ab)) | exact (ag2 ab ab (by assumption)) | exact (ah5 aL ab (aiv ab ab aL)) | (have h1:=RP (l:=l) (k:=‹Nat›) ‹Field›.num; have h2:=IY (l.take ‹Nat›) ‹Field›.num; refine bR ?_ ?_ <;> omega))
noncomputable def K_:Kn:=aK (ae (kT (.nm .command)) (ae (kC (cL (.nm .field))) (ae (kC cI) ao))) aw fun (c,rest,v,_) _=>⟨[rest.length<=20000],[.c (.own 0),.c (.int ((fu c rest v)))],some ([.row 5 .u8 ((gB c rest v))]),true⟩
theorem aay:CK 93 K_:=ag fun (c,rest,v,_) _ hp=>by
 have h0:=cc hp;refine dD qH (adU c rest v) Tryz.func93 (?_:(fun (q4:Int)=>(fun (q3:Prop)=>(fun (q2:Int)=>(fun (q1:Nat)=>(fun (q0:Prop)=>bB c (rest.length*48<=140737488355328->I64 v->(ct v=false->1=q4/\q3)/\(ct v=true->(gv c v=false->I64 (bG c v)->(¬bG c v=q2->bG c v=q4/\q3)/\(bG c v=q2->q0))/\(gv c v=true->q0)))) ((1:Int)=1/\(I64 (cT v)->∃ (s0:Nat),(rest=rest/\v=v/\cT v=cT v/\rest=rest/\(↑rest.length:Int)=(↑q1:Int)/\q2=(↑s0:Int)/\aP c c)/\(s0<=q1/\Wq (Bz rest v s0))/\∀ (s:Nat),s<=q1/\Wq (Bz rest v s)->((↑s:Int)<(↑q1:Int)->q2<=(↑s:Int)/\(↑s:Int)<(↑rest.length:Int)/\∀ (x:Field),rest[s]? = some x->I64 x.num->I64 x.wire->x.n.n<18446744073709551616->x.b.length*1<=140737488355328->(x.num<=cT v->6=q4/\q3)/\(cT v<x.num->I64 ((↑s:Int)+1)/\∃ (s':Nat),(rest=rest/\v=v/\cT v=cT v/\rest=rest/\(↑q1:Int)=(↑q1:Int)/\(↑s:Int)+1=(↑s':Int)/\aP c c)/\(s' <= q1/\Wq (Bz rest v s'))/\q1 - s' < q1 - s))/\((↑q1:Int)<=(↑s:Int)->q2<=c.kind/\q2<=c.client/\q2<=c.seq/\q2<=c.set/\q2<=c.id/\q2<=c.n/\((dM c v).length+rest.length)*48<=140737488355328/\(I64 (cP (dM c v++rest))->cP (dM c v++rest)=q4/\ml (dM c v++rest)=gB c rest v))))) rest.length) 0) (gB c rest v=[])) (fu c rest v));iterate 3 ((all_goals (repeat' with_reducible first|apply aZ|refine aY ?_|intro)); (all_goals try (first | exact bt | exact rfl | exact ⟨ac9⟩ | exact (ad9 ab ab aL) | exact (CN (pb1 ab) (by decide)) | exact (Ce (pb1 ab) (by decide)).symm | exact (CN (pb2 ab ab ab) ab) | exact (Ce (pb2 ab ab ab) ab).symm | exact (CN (pb3 ab (by first | exact .inl ab | exact .inr ab) ab ab) (by decide)) | exact (Ce (pb3 ab (by first | exact .inl ab | exact .inr ab) ab ab) (by decide)).symm | exact (adh (pb0 ab (by first | exact .inl ab | exact .inr ab) ab aL)) | exact (ads (pb0 ab (by first | exact .inl ab | exact .inr ab) ab aL)) | (have h:0<=c.kind/\0<=c.client/\0<=c.seq/\0<=c.set/\0<=c.id/\0<=c.n:=(by first | exact YD ab | exact Xi ab); omega) | (have h:=Ci c v; omega))); all_goals try first | refine ⟨‹Nat› + 1,?_⟩ | refine ⟨0,?_⟩)
noncomputable def acU:bN:=(aO 93 K_ (aO 287 zj (aO 328 GH acf)))
theorem DC:ay Tryz.prog (al tyT) acU:=(ah aay (ah NJ (ah SH qH)))
def Ui (b:List UInt8) (s:Nat × List Field):Nat × List Field:=(s.1+(bf (b.drop s.1)).1,s.2++[iF ((b.drop s.1).take (((s.1:Int)+((bf (b.drop s.1)).1:Nat)).toNat - s.1))])
theorem VC {s:Nat × List Field}:(Ui b s).2=s.2++[iF ((b.drop s.1).take (bf (b.drop s.1)).1)]:=by
 unfold Ui; rw [show ((s.1:Int)+((bf (b.drop s.1)).1:Nat)).toNat - s.1=(bf (b.drop s.1)).1 by omega]
theorem tlB (h:16384<(b.length:Int)):bI b=([],4):=Xd (by omega)
theorem tlS {s:Nat × List Field} (h:Wq (jb b s.1 s.2)) (hi:(s.1:Int)<(b.length:Int)) (hs:¬ (bf (b.drop s.1)).2=0):bI b=([],(bf (b.drop s.1)).2):=QF h.h (by omega) hs
theorem tlL {s:Nat × List Field} (h:Wq (jb b s.1 s.2)) (hi:(s.1:Int)<(b.length:Int)) (hs:(bf (b.drop s.1)).2=0) (hr:fU s.2 (iF ((b.drop s.1).take (((s.1:Int)+((bf (b.drop s.1)).1:Nat)).toNat - s.1)))=false):bI b=([],5):=by
 rw [show ((s.1:Int)+((bf (b.drop s.1)).1:Nat)).toNat - s.1=(bf (b.drop s.1)).1 by omega] at hr;obtain ⟨f,_,e⟩:=Pt h.h (show s.1<b.length by omega);rw [e,if_pos hs,hr,if_neg (by decide)]
theorem tlN {s:Nat × List Field} (h:Wq (jb b s.1 s.2)) (hi:(s.1:Int)<(b.length:Int)) (hs:(bf (b.drop s.1)).2=0) (hr:fU s.2 (iF ((b.drop s.1).take (((s.1:Int)+((bf (b.drop s.1)).1:Nat)).toNat - s.1)))=true):Wq (jb b (Ui b s).1 (Ui b s).2):=by
 rw [show ((s.1:Int)+((bf (b.drop s.1)).1:Nat)).toNat - s.1=(bf (b.drop s.1)).1 by omega] at hr;obtain ⟨f,hf,e⟩:=Pt h.h (show s.1<b.length by omega);have hp:=nk hs;rw [VC];refine ⟨f,by show b.length - (s.1+(bf (b.drop s.1)).1)<=f; omega,?_⟩;rw [e,if_pos hs,hr,if_pos rfl,afB]; rfl
theorem tlE {s:Nat × List Field} (h:Wq (jb b s.1 s.2)) (hi:(b.length:Int)<=(s.1:Int)):bI b=(s.2,0):=ZY h.h (by omega)
theorem nx1 {s:Nat × List Field} (hi:s.1<=b.length):(Ui b s).1<=b.length:=by
 have:=Aq (b.drop s.1); rw [List.length_drop] at this; show s.1+_<=_; omega
theorem nx2 {s:Nat × List Field} (hl:s.2.length<=s.1) (hs:(bf (b.drop s.1)).2=0):(Ui b s).2.length<=(Ui b s).1:=by
 have hp:=nk hs;rw [VC,List.length_append]; simp only [List.length_cons,List.length_nil]; show _<=s.1+_; omega
theorem nx3 {s:Nat × List Field} (hi:(s.1:Int)<(b.length:Int)) (hs:(bf (b.drop s.1)).2=0):b.length - (Ui b s).1<b.length - s.1:=by
 have hp:=nk hs; show b.length - (s.1+_)<_; omega
def Xm (b:List UInt8):List (Nat × LI):=[(6,{ σ:=Nat × List Field,F:=fun s=>([(0,one (.fz .u8 (b))),(4,one (.ptr 0 0)),(5,one (.fn 328 [] [(0,0)])),(6,one (.int s.1))],[.box 177 ([.own 1]),.row 219 (.nm .field) ((s.2))]),J:=fun s=>Wq (jb b s.1 s.2)/\s.1<=b.length/\s.2.length<=s.1,μ:=fun s=>b.length - s.1 })]
noncomputable def Fl:Kn:=aK (ae (kC (cL .u8)) ao) aw fun (b,_) _=>⟨[],[.c (.fz (.nm .field) (((bI b).1))),.c (.int (((bI b).2)))],none,false⟩
theorem Uq:CK 286 Fl:=ag fun (b,_) _ _=>by
 refine av DC (Xm b) Tryz.func286 (?_:(fun (q2:Prop)=>(fun (q1:Int)=>(fun (q0:Int)=>b.length*1<=140737488355328->(16384<q0->q2/\4=(bI b).snd)/\(q0<=16384->∃ (s0:Nat × List Field),(b=b/\q1=(↑s0.fst:Int)/\s0.snd=[])/\(Wq (jb b s0.fst s0.snd)/\s0.fst<=b.length/\s0.snd.length<=s0.fst)/\∀ (s:Nat × List Field),(fun (q6:Int)=>(fun (q5:Nat × Int)=>(fun (q4:Int)=>(fun (q3:Field)=>Wq (jb b s.fst s.snd)/\s.fst<=b.length/\s.snd.length<=s.fst->(q6<q0->q1<=q6/\q6<=q0/\(I64 (↑q5.fst:Int)->I64 q5.snd->(¬q5.snd=q1->q2/\q5.snd=(bI b).snd)/\(q5.snd=q1->I64 q4/\q1<=q6/\q6<=q4/\q4<=q0/\(I64 q3.num->I64 q3.wire->q3.n.n<18446744073709551616->q3.b.length*1<=140737488355328->s.snd.length<=20000/\(fU s.snd q3=false->q2/\5=(bI b).snd)/\(fU s.snd q3=true->(s.snd.length+[q3].length)*48<=140737488355328/\I64 q4/\∃ (s':Nat × List Field),(b=b/\q4=(↑s'.fst:Int)/\s.snd++[q3]=s'.snd)/\(Wq (jb b s'.fst s'.snd)/\s'.fst<=b.length/\s'.snd.length<=s'.fst)/\b.length - s'.fst<b.length - s.fst)))))/\(q0<=q6->s.snd=(bI b).fst/\q1=(bI b).snd)) (iF (List.take (q4.toNat - s.fst) (List.drop s.fst b)))) (q6+(↑q5.fst:Int))) (bf (List.drop s.fst b))) (↑s.fst:Int))) (↑b.length:Int)) 0) ((bI b).fst=[]));iterate 3 ((all_goals (repeat' with_reducible first|apply aZ|refine aY ?_|intro)); (all_goals try (first | exact bt | exact rfl | exact ⟨OU aL⟩ | (rw [tlB ab] <;> rfl) | (rw [tlS ab ab ab] <;> rfl) | (rw [tlL ab ab ab ab] <;> rfl) | (rw [tlE ab ab] <;> rfl) | exact (tlN ab ab ab ab) | exact (nx1 ab) | exact (nx2 ab ab) | exact (nx3 ab ab) | (have h:=Aq (b.drop ‹Nat × List Field›.1); rw [List.length_drop] at h; first | omega | (refine bR ?_ ?_ <;> omega)) | (simp only [List.length_cons,List.length_nil]; omega))); all_goals try first | refine ⟨Ui b ‹Nat × List Field›,?_⟩ | refine ⟨(0,[]),?_⟩)
noncomputable def abj:bN:=(aO 286 Fl acU)
theorem Gy:ay Tryz.prog (al tyT) abj:=(ah Uq DC)
theorem tin {v:Int} (h:ct v=true):1<=v/\v<=3:=by
 unfold ct at h; simpa using h
theorem tqe {v:Int} (h1:(bI b).2=0) (h2:gm (bI b).1 v=0):mL b v=0:=by rw [mL,if_pos h1,h2]
theorem tq1 {v:Int} (h:ct v=false):cC b v=⟨cM,[],1⟩:=agB (fun h2=>by unfold ct at h; simp only [h2,decide_true,Bool.and_self] at h; cases h)
theorem tq2 {v:Int} (h:ct v=true) (h1:(bI b).2=0) (h2:¬ gm (bI b).1 v=0):cC b v=⟨cM,[],gm (bI b).1 v⟩:=by
 have e:mL b v=gm (bI b).1 v:=by rw [mL,if_pos h1]
 rw [acz (tin h) (by rw [e]; exact h2),e]
theorem tq3 {v:Int} (h:ct v=true) (h1:¬ (bI b).2=0):cC b v=⟨cM,[],(bI b).2⟩:=by
 have e:mL b v=(bI b).2:=by rw [mL,if_neg h1]
 rw [acz (tin h) (by rw [e]; exact h1),e]
theorem tq4 {v:Int} (h:ct v=true) (h1:(bI b).2=0) (h2:gm (bI b).1 v=0) (h3:¬ fu (cX (dQ (bI b).1 (cT v))) (eD (bI b).1 (cT v)) v=0\/decide (gB (cX (dQ (bI b).1 (cT v))) (eD (bI b).1 (cT v)) v=b)=false):cC b v=⟨cM,[],6⟩:=
 afr (tin h) (tqe h1 h2) (h3.imp_right fun h=>by simpa using h)
theorem tq5 {v:Int} (h:ct v=true) (h1:(bI b).2=0) (h2:gm (bI b).1 v=0) (h3:fu (cX (dQ (bI b).1 (cT v))) (eD (bI b).1 (cT v)) v=0) (h4:decide (gB (cX (dQ (bI b).1 (cT v))) (eD (bI b).1 (cT v)) v=b)=true):cC b v=⟨cX (dQ (bI b).1 (cT v)),eD (bI b).1 (cT v),0⟩:=
 afZ (tin h) (tqe h1 h2) ⟨h3,of_decide_eq_true h4⟩
noncomputable def D_:Kn:=aK (ae (kC (cL .u8)) (ae (kC cI) ao)) aw fun (b,v,_) _=>⟨[],[.agg (cellsOf (.nm .command) ((cC b v).c)),.c (.fz (.nm .field) (((cC b v).r))),.c (.int (((cC b v).e)))],none,false⟩
theorem SZ:CK 275 D_:=ag fun (b,v,_) _ _=>by
 refine av Gy [] Tryz.func275 (?_:(fun q6=>(fun q5=>(fun q4=>(fun q3=>(fun q8=>(fun q7=>(fun q2=>(fun q1=>(fun q14=>(fun q13=>(fun q12=>(fun q11=>(fun q10=>(fun q9=>(fun q0=>b.length*1<=140737488355328->I64 v->(ct v=false->q12/\q11/\q13/\q14/\q2=q1.id/\q2=q1.n/\q10/\q9/\q4.r=[]/\1=q4.e)/\(ct v=true->q3.length*48<=140737488355328->I64 q6->(q6=q2->(1:Int)=1/\(I64 (gm q3 v)->(¬gm q3 v=q2->q12/\q11/\q13/\q14/\q2=q1.id/\q2=q1.n/\q10/\q9/\q4.r=[]/\gm q3 v=q4.e)/\(gm q3 v=q2->q0)))/\(¬q6=q2->(¬q6=q2->q12/\q11/\q13/\q14/\q2=q1.id/\q2=q1.n/\q10/\q9/\q4.r=[]/\q6=q4.e)/\(q6=q2->q0)))) ((1:Int)=1/\(I64 q5->(dQ q3 q5).length*48<=140737488355328->q8.length*48<=140737488355328->(∀ (f:Field),List.Mem f (dQ q3 q5)->f.b.length<=16384)/\bB q7 (q8.length<=20000/\(I64 (fu q7 q8 v)->(¬fu q7 q8 v=q2\/decide (gB q7 q8 v=b)=false->q12/\q11/\q13/\q14/\q2=q1.id/\q2=q1.n/\q10/\q9/\q4.r=[]/\6=q4.e)/\(fu q7 q8 v=q2/\decide (gB q7 q8 v=b)=true->bm q7 q1 (q8=q4.r/\q2=q4.e))))))) (Str.mk []=q1.text)) (q1.chunks=[])) (q2=q1.client)) (q2=q1.kind)) (q2=q1.seq)) (q2=q1.set)) q4.c) (0:Int)) (cX (dQ q3 q5))) (eD q3 q5)) (bI b).fst) (cC b v)) (cT v)) (bI b).snd);(repeat' with_reducible first|apply aZ|refine aY ?_|intro)
 all_goals (first | exact bt | (rw [tq1 ab] <;> rfl) | (rw [tq2 ab ab ab] <;> rfl) | (rw [tq3 ab ab] <;> rfl) | (rw [tq4 ab ab ab (by assumption)] <;> rfl) | (rw [tq5 ab ab ab ab ab] <;> rfl) | exact (aa0 (tqe ab ab) _ (by assumption)) | (have h1:=Ej (bI b).1 (cT v); have h2:=Qm b; omega))
noncomputable def abX:bN:=(aO 275 D_ abj)
theorem Tk:ay Tryz.prog (al tyT) abX:=(ah SZ Gy)
noncomputable def abz:bN:=abX
theorem RX:ay Tryz.prog (al tyT) abz:=Tk
noncomputable def abm:bN:=abz
theorem RU:ay Tryz.prog (al tyT) abm:=RX
attribute [local irreducible] dQ eD
noncomputable def abi:bN:=abm
theorem Rk:ay Tryz.prog (al tyT) abi:=RU
noncomputable def abe:bN:=abi
theorem Ty:ay Tryz.prog (al tyT) abe:=Rk
noncomputable def ad6:bN:=abe
theorem Qr:ay Tryz.prog (al tyT) ad6:=Ty
noncomputable def acn:bN:=ad6
theorem Ux:ay Tryz.prog (al tyT) acn:=Qr
theorem afR {v:Int} (h:cj v 1 3=false):cC b v=⟨cM,[],1⟩:=tq1 h
noncomputable def adO:bN:=acn
theorem x_:ay Tryz.prog (al tyT) adO:=Ux
def ei (c:Command) (term v:Int):Entry × Int:=if bG c v=0 then (if fu c [] v=0 then (⟨term,gB c [] v⟩,0) else (⟨0,[]⟩,fu c [] v)) else (⟨0,[]⟩,bG c v)
structure RdM where
 c:Command
 some:Bool
 e:Int
noncomputable def ba (x:Entry) (v:Int):RdM:=
 if x.b.length=0 then (if v<1\/3<v then ⟨cM,false,1⟩ else ⟨cM,false,0⟩)
 else if ¬ (cC x.b v).e=0 then ⟨cM,false,(cC x.b v).e⟩
 else if cw (cC x.b v).c.kind=0\/v<cw (cC x.b v).c.kind then ⟨cM,false,10⟩
 else ⟨(cC x.b v).c,true,0⟩
variable {term:Int}
theorem en1 {c:Command} {v:Int} (h:¬ bG c v=0):ei c term v=(⟨0,[]⟩,bG c v):=by unfold ei; rw [if_neg h]
theorem en2 {c:Command} {v:Int} (h:bG c v=0) (h2:¬ fu c [] v=0):ei c term v=(⟨0,[]⟩,fu c [] v):=by unfold ei; rw [if_pos h,if_neg h2]
theorem en3 {c:Command} {v:Int} (h:bG c v=0) (h2:fu c [] v=0):ei c term v=(⟨term,gB c [] v⟩,0):=by unfold ei; rw [if_pos h,if_pos h2]
section
variable {x:Entry} {v:Int}
theorem rdA (h:((x.b.length:Nat):Int)=0) (h2:v<1\/3<v):ba x v=⟨cM,false,1⟩:=by unfold ba; rw [if_pos (by omega),if_pos h2]
theorem rdB (h:((x.b.length:Nat):Int)=0) (h1:1<=v) (h2:v<=3):ba x v=⟨cM,false,0⟩:=by unfold ba; rw [if_pos (by omega),if_neg (by omega)]
theorem rdC (h:¬ ((x.b.length:Nat):Int)=0) (h2:¬ (cC x.b v).e=0):ba x v=⟨cM,false,(cC x.b v).e⟩:=by unfold ba; rw [if_neg (by omega),if_pos h2]
theorem rdD (h:¬ ((x.b.length:Nat):Int)=0) (h2:(cC x.b v).e=0) (h3:cw (cC x.b v).c.kind=0\/v<cw (cC x.b v).c.kind):ba x v=⟨cM,false,10⟩:=by unfold ba; rw [if_neg (by omega),if_neg (by rw [h2]; simp),if_pos h3]
theorem rdE (h:¬ ((x.b.length:Nat):Int)=0) (h2:(cC x.b v).e=0) (h3:¬ cw (cC x.b v).c.kind=0) (h4:cw (cC x.b v).c.kind<=v):ba x v=⟨(cC x.b v).c,true,0⟩:=by unfold ba; rw [if_neg (by omega),if_neg (by rw [h2]; simp),if_neg (by omega)]
theorem rdF (h2:v<1\/3<v):ba x v=⟨cM,false,1⟩:=by
 by_cases h:((x.b.length:Nat):Int)=0
 ·exact rdA h h2
 have e:cC x.b v=⟨cM,[],1⟩:=afR (by unfold cj; rcases h2 with h2 | h2 <;> simp <;> omega);rw [rdC h (by rw [e]; decide),e]
end
noncomputable def KB:Kn:=aK (ae (kT (.nm .command)) (ae (kC cI) (ae (kC cI) ao))) aw fun (c,term,v,_) _=>⟨[],[.agg (cellsOf (.nm .entry) ((ei c term v).1)),.c (.int (((ei c term v).2)))],none,false⟩
theorem Zs:CK 54 KB:=ag fun (c,term,v,_) _ _=>by
 refine av x_ [] Tryz.func54 (?_:(fun (q2:Int)=>(fun (q1:Int)=>(fun (q0:Entry × Int)=>bB c (I64 term->I64 v->I64 (bG c v)->(¬bG c v=q1->q1=q0.fst.term/\q0.fst.b=[]/\bG c v=q0.snd)/\(bG c v=q1->(0:Nat)<=(20000:Nat)/\(I64 q2->(¬q2=q1->q1=q0.fst.term/\q0.fst.b=[]/\q2=q0.snd)/\(q2=q1->term=q0.fst.term/\gB c [] v=q0.fst.b/\q1=q0.snd))))) (ei c term v)) (0:Int)) (fu c [] v));(repeat' with_reducible first|apply aZ|refine aY ?_|intro)
 all_goals (first | exact bt | (rw [en1 ab] <;> rfl) | (rw [en2 ab ab] <;> rfl) | (rw [en3 ab ab] <;> rfl))
noncomputable def zV:Kn:=aK (ae (kT (.nm .entry)) (ae (kC cI) ao)) aw fun (x,v,_) _=>⟨[],[.agg (cellsOf (.nm .command) ((ba x v).c)),.c (.bool (.atom (((ba x v).some)))),.c (.int (((ba x v).e)))],none,false⟩
theorem Jm:CK 259 zV:=ag fun (x,v,_) _ _=>by
 refine av x_ [] Tryz.func259 (?_:(fun q3=>(fun q4=>(fun q2=>(fun q5=>(fun q1=>(fun q0=>(fun q11=>(fun q10=>(fun q9=>(fun q8=>(fun q7=>(fun q6=>I64 x.term->x.b.length*1<=140737488355328->I64 v->((↑x.b.length:Int)=q1->(v<1\/3<v->q9/\q8/\q10/\q11/\q1=q0.id/\q1=q0.n/\q7/\q6/\q4/\1=q3.e)/\(1<=v/\v<=3->q9/\q8/\q10/\q11/\q1=q0.id/\q1=q0.n/\q7/\q6/\q4/\q1=q3.e))/\(¬(↑x.b.length:Int)=q1->bB q2.c (q2.r.length*48<=140737488355328->I64 q2.e->(¬q2.e=q1->q9/\q8/\q10/\q11/\q1=q0.id/\q1=q0.n/\q7/\q6/\q4/\q2.e=q3.e)/\(q2.e=q1->I64 q5->(q5=q1\/v<q5->q9/\q8/\q10/\q11/\q1=q0.id/\q1=q0.n/\q7/\q6/\q4/\10=q3.e)/\(¬q5=q1/\q5<=v->bm q2.c q0 (true=q3.some/\q1=q3.e)))))) (Str.mk []=q0.text)) (q0.chunks=[])) (q1=q0.client)) (q1=q0.kind)) (q1=q0.seq)) (q1=q0.set)) q3.c) (0:Int)) (cw q2.c.kind)) (cC x.b v)) (false=q3.some)) (ba x v));(repeat' with_reducible first|apply aZ|refine aY ?_|intro)
 all_goals (first | exact bt | (rw [rdF (by assumption)] <;> rfl) | (rw [rdB ab ab ab] <;> rfl) | (rw [rdC ab ab] <;> rfl) | (rw [rdD ab ab (by assumption)] <;> rfl) | (rw [rdE ab ab ab ab] <;> rfl))
noncomputable def adR:bN:=(aO 259 zV (aO 54 KB adO))
theorem FT:ay Tryz.prog (al tyT) adR:=(ah Jm (ah Zs x_))
noncomputable def iw (v:Int) (s:State) (x:Entry):State:=if (ba x v).some=true then (qW s (ba x v).c).1 else s
noncomputable def mF (v:Int) (s:State) (x:Entry):Reply:=if (ba x v).some=true then (qW s (ba x v).c).2 else ⟨0,0⟩
noncomputable def pS (v:Int) (s:State) (l:List Entry):State:=l.foldl (iw v) s
noncomputable def pR (v:Int):State->List Entry->List Reply
 | _,[]=>[]
 | s,x :: l=>mF v s x :: pR v (iw v s x) l
noncomputable def pN (v:Int):List Entry->Nat
 | []=>0
 | x :: l=>if (ba x v).e=0 then pN v l+1 else 0
noncomputable def pE (v:Int):List Entry->Int
 | []=>0
 | x :: l=>if (ba x v).e=0 then pE v l else (ba x v).e
noncomputable def plS (v:Int) (s:State) (l:List Entry):State:=pS v s (l.take (pN v l))
noncomputable def plR (v:Int) (s:State) (l:List Entry):List Reply:=pR v s (l.take (pN v l))
section
variable {v:Int} {s:State} {l:List Entry} {x:Entry} {k:Nat}
theorem WQ (hx:l[k]? = some x):iw v (pS v s (l.take k)) x=pS v s (l.take (k+1)):=by
 rw [ai hx]; unfold pS; rw [List.foldl_append]; rfl
theorem EF:∀ {l:List Entry} {s:State},pR v s (l++[x])=pR v s l++[mF v (pS v s l) x]
 | [],_=>rfl
 | y :: l,s=>by
  show mF v s y :: pR v (iw v s y) (l++[x])=mF v s y :: (pR v (iw v s y) l++[mF v (pS v (iw v s y) l) x]);rw [EF]
theorem VX (hx:l[k]? = some x):pR v s (l.take k)++[mF v (pS v s (l.take k)) x]=pR v s (l.take (k+1)):=by
 rw [ai hx,EF]
theorem Cf:∀ {l:List Entry} {s:State},(pR v s l).length=l.length
 | [],_=>rfl
 | y :: l,s=>by
  show (pR v (iw v s y) l).length+1=l.length+1;rw [Cf]
def okPl (v:Int) (l:List Entry):Prop:=∀ x ∈ l,(ba x v).e=0
theorem EL (h:okPl v (l.take k)) (hx:l[k]? = some x) (he:(ba x v).e=0):okPl v (l.take (k+1)):=by
 rw [ai hx];intro y hy;rcases List.mem_append.1 hy with hy | hy
 ·exact h y hy
 rw [aa6.1 hy]; exact he
theorem JG:∀ {l:List Entry},okPl v l->pN v l=l.length/\pE v l=0
 | [],_=>⟨rfl,rfl⟩
 | y :: l,h=>by
  obtain ⟨h1,h2⟩:=JG (l:=l) fun z hz=>h z (aa7 _ hz);have h0:=h y abb;unfold pN pE;rw [if_pos h0,if_pos h0,h1,h2]; exact ⟨rfl,rfl⟩
theorem Gp:∀ {l:List Entry} {k:Nat},okPl v (l.take k)->l[k]? = some x->¬ (ba x v).e=0->pN v l=k/\pE v l=(ba x v).e
 | [],k,_,hx,_=>by simp at hx
 | y :: l,0,_,hx,he=>by
  simp at hx; subst hx;unfold pN pE;rw [if_neg he,if_neg he]; exact ⟨rfl,rfl⟩
 | y :: l,k+1,h,hx,he=>by
  have h0:=h y (by simp);obtain ⟨h1,h2⟩:=Gp (l:=l) (k:=k) (fun z hz=>h z (by rw [agJ]; exact aa7 _ hz)) (by simpa using hx) he;unfold pN pE;rw [if_pos h0,if_pos h0,h1,h2]; exact ⟨rfl,rfl⟩
theorem RM (h:okPl v (l.take k)) (hx:l[k]? = some x) (he:¬ (ba x v).e=0):pS v s (l.take k)=plS v s l/\pR v s (l.take k)=plR v s l/\(ba x v).e=pE v l:=by
 obtain ⟨h1,h2⟩:=Gp h hx he;unfold plS plR; rw [h1,h2]; exact ⟨rfl,rfl,rfl⟩
theorem ZV (h:okPl v (l.take k)) (hk:l.length<=k):pS v s (l.take k)=plS v s l/\pR v s (l.take k)=plR v s l/\0=pE v l:=by
 rw [List.take_of_length_le hk] at h ⊢;obtain ⟨h1,h2⟩:=JG h;unfold plS plR; rw [h1,h2,List.take_length]; exact ⟨rfl,rfl,rfl⟩
end
def pz:Code->Code
 | .seq x _=>x
 | c=>c
def gb:Code->Code
 | .seq _ y=>y
 | c=>c
def cdB:Code->Code
 | .block _ c=>c
 | .loop c=>c
 | c=>c
def aeY:Code->Code
 | .rangeFunc _ _ a _=>a
 | c=>c
def afW:Code->Code
 | .rangeFunc _ _ _ b=>b
 | c=>c
def kj:Code->List Oper
 | .region _ ops _=>ops.toList
 | _=>[]
def VY (f:Func):Code:=f.body.getD .skip
noncomputable def P_:Kn:=aK (ae (kC (cL (.nm .entry))) (ae (kC cI) ao)) aw fun (l,v,_) _=>⟨[],[.c (.fn 258 [] [(0,0),(1,0)])],some ([.box 38 ([.fz (.nm .entry) ((l))]),.box 3 ([.int ((v))])]),true⟩
theorem XG:CK 226 P_:=ag fun (l,v,_) _ _=>by
 refine dD FT [] Tryz.func226 (?_:l.length*32<=140737488355328->I64 v->l=l/\v=v);grind
noncomputable def fi:bN:=(aO 226 P_ adR)
theorem qK:ay Tryz.prog (al tyT) fi:=(ah XG FT)
end Go.Proofs.YticbaadnibdbkaaGreat
namespace Go.Proofs.YticbaadnibdbkaaGreat
open Go.RowKit
open Go.MapKept (IsKey run_checkKey run_findKey run_setObj_map heap_set heap_alloc)
def RL (k:Int):List (Int × Value)->Bool
 | []=>false
 | p :: r=>decide (k=p.1) || RL k r
def aaU (w:World) (g:Nat) (L:List (Int × Value)):Prop:=
 ∃ a,w.heap[g]? = some (.map a L.length)/\a.toList.map (fun e=>(e.key,e.val))=L.map (fun p=>(Value.int .i64 p.1,p.2))
theorem uF {k:Int}:∀ {l:List MapEntry} {L:List (Int × Value)} {i:Nat},l.map (fun e=>(e.key,e.val))=L.map (fun p=>(Value.int .i64 p.1,p.2))->RL k L=false->Instr.findNow (.int .i64) (.int .i64 k) l i=some none
 | [],[],i,_,_=>rfl
 | [],p :: L,i,h,_=>by simp at h
 | e :: l,[],i,h,_=>by simp at h
 | e :: l,p :: L,i,h,hn=>by
  simp only [aeV,List.cons.injEq,aiJ] at h;obtain ⟨⟨hk,hv⟩,hr⟩:=h;simp only [RL,Bool.or_eq_false_iff,aeA] at hn;have hb:(k == p.1)=false:=by simpa using hn.1
  simp [Instr.findNow,hk,Instr.sameNow,hb,uF (i:=i+1) hr hn.2]
section
variable {P:Program} {Q:Exit->Act->World->Prop} {n:Nat} {l rest:List Oper} {fr:Fr} {w:World} {x y z':Operand} {t ty kt et:TypeId} {pos:String} {af:Array Edge} {g:Nat} {L:List (Int × Value)} {k:Int}
theorem WO.insert {v:Value} (hx:ev fr x=some (.map (some g))) (hy:ev fr y=some (.int .i64 k)) (hv:ev fr z' = some v) (h:aaU w g L) (hn:RL k L=false) (hm:P.underlying t=some (.map kt et)) (hk:P.underlying kt=some (.int .i64))
  (kk:∀ w',aaU w' g (L++[(k,v)])->Kp [g] w w' -> WO P Q n l rest fr w') :
  WO P Q n l (⟨none,.insert t x y z',ty,pos,af,none⟩ :: rest) fr w:=by
 obtain ⟨a,hg,hl⟩:=h;have h1:=uF (k:=k) (i:=0) hl hn;have hik:IsKey (.int .i64) (.int .i64 k):=rfl;have hs:=heap_set (o':=.map (a.push { key:=.int .i64 k,val:=v,born:=L.length }) (L.length+1)) hg;refine WO.s (w':={ w with heap:=w.heap.setIfInBounds g (.map (a.push { key:=.int .i64 k,val:=v,born:=L.length }) (L.length+1)) }) (fun a' _ _ _ _ ha=>?_) (kk _ ⟨_,by simpa using hs.1,by simp [hl]⟩ ⟨rfl,rfl,rfl,by simp,fun i hi hn=>hs.2 i (by simpa using hn)⟩);have e:(Instr.mapUpdate t (.map (some g)) (.int .i64 k) v).run P w = .ok () { w with heap:=w.heap.setIfInBounds g (.map (a.push { key:=.int .i64 k,val:=v,born:=L.length }) (L.length+1)) }:=by
  unfold Instr.mapUpdate;simp only [Sem.run_bind,run_underlying hm,Result.andThen];simp only [Sem.run_bind,MapKept.run_getObj_map hg,Result.andThen,show (10000:Nat)=9999+1 from rfl,run_checkKey hk hik,run_findKey hk h1,run_setObj_map _ hg]
 simp [execOp,ha.ev hx,ha.ev hy,ha.ev hv,e]
end
def bM:List (Int × List KC):=[(1,[.i 1,.i 3,.b false,.i 0,.i 0,.f 214]),(2,[.i 0,.i 1048576,.b true,.i 5,.i 0,.f 215]),(3,[.i 1,.i 64,.b true,.i 1048576,.i 200,.f 216]),(4,[.i 1,.i 64,.b false,.i 0,.i 0,.f 217])]
def ZL:List (Int × Value):=bM.map fun p=>(p.1,.agg (p.2.map KC.val).toArray)
theorem sg {k:Int}:∀ {a:List MapEntry} {l:List (Int × List KC)},a.map (fun e=>(e.key,e.val))=(l.map fun p=>(p.1,Value.agg (p.2.map KC.val).toArray)).map (fun p=>(Value.int .i64 p.1,p.2))->getM k a=(dK l k).map fun cs=>.agg (cs.map KC.val).toArray
 | [],[],_=>rfl
 | [],p :: L,h=>by simp at h
 | e :: l,[],h=>by simp at h
 | e :: l,p :: L,h=>by
  simp only [aeV,List.cons.injEq,aiJ] at h;obtain ⟨⟨hk,hv⟩,hr⟩:=h;simp only [getM,dK,hk,oI];by_cases h:k=p.1
  ·subst h; simp [hv]
  rw [if_neg (by simpa using fun e=>h e.symm),if_neg h]; exact sg hr
set_option maxRecDepth 100000 in
theorem Hz {w:World}:jE Tryz.prog 148 #[] w fun r w'=>r = .map (some w.heap.size)/\Kp [] w w' /\ aaU w' w.heap.size ZL:=by
 refine jE.enter (args:=[]) Tryz.func148 rfl Tryz.ntmps148 rfl rfl ?_;refine WC.seq (WC.region (WO.v (R.assign rfl) rfl (WO.nil (WX.next ?_))));have hu:=Tryz.underlying202;have hk:=Tryz.underlying3;refine WC.seq (WC.region (WO.v R.tg rfl ?_));refine WO.v (R.pq (cells:=(((bM.getD 0 (0,[])).2).map KC.val).toArray) rfl bE) rfl (WO.insert (L:=[]) rfl rfl rfl ⟨#[],agH w _,rfl⟩ rfl hu hk fun w1 m1 k1=>?_);refine WO.v (R.pq (cells:=(((bM.getD 1 (0,[])).2).map KC.val).toArray) rfl bE) rfl (WO.insert rfl rfl rfl m1 rfl hu hk fun w2 m2 k2=>?_);refine WO.v (R.pq (cells:=(((bM.getD 2 (0,[])).2).map KC.val).toArray) rfl bE) rfl (WO.insert rfl rfl rfl m2 rfl hu hk fun w3 m3 k3=>?_);refine WO.v (R.pq (cells:=(((bM.getD 3 (0,[])).2).map KC.val).toArray) rfl bE) rfl (WO.insert rfl rfl rfl m3 rfl hu hk fun w4 m4 k4=>?_);refine WO.v (R.move rfl) rfl (WO.v (R.assign rfl) rfl (WO.nil (WX.next ?_)));have hkp:∀ {wa wb:World},Kp [] w wa->Kp [w.heap.size] wa wb->Kp [] w wb:=fun h k=>⟨k.os.trans h.os,k.tape.trans h.tape,k.output.trans h.output,Nat.le_trans h.size k.size,fun b hb _=>(k.block b (aba hb h.size) (by simp; omega)).trans (h.block b hb (by simp))⟩;exact WC.ret (WX.zq Tryz.results148 rfl ⟨rfl,hkp (hkp (hkp (hkp (Kp.alloc w _) k1) k2) k3) k4,m4⟩)
theorem HU:Sat Tryz.prog (al tyT) 148 [] [] ⟨[],[.c (.xx (.km bM) [])],none,false⟩:=by
 refine ⟨⟨_,Tryz.func148,by decide,by kernel_rfl⟩,fun G ρ w vs hG hR hvs=>?_⟩;cases hvs;refine Hz.mono fun r w' ⟨hr,hk,a,hm,hl⟩=>⟨[r],rfl,hk,.cons ?_ .nil⟩;subst hr;have hlt:=(aeD.1 hm).1;refine ⟨[],.nil,rfl,w.heap.size,a,_,rfl,⟨hlt,fun ⟨i,r,e1,e2⟩=>by have:=(hR.bnd i r _ e1 e2).2.1; omega,fun hz=>by have:=hR.z _ hz; omega⟩,hm,fun e he=>?_,fun k=>sg hl⟩;have:(e.key,e.val) ∈ a.toList.map (fun e=>(e.key,e.val)):=List.mem_map.2 ⟨e,he,rfl⟩;rw [hl] at this;obtain ⟨p,_,hp⟩:=List.mem_map.1 this;exact ⟨p.1,(congrArg Prod.fst hp).symm⟩
end Go.Proofs.YticbaadnibdbkaaGreat
namespace Go.Proofs.YticbaadnibdbkaaGreat
open Go.RowKit
def Mn (q:Nat × Nat) (x:UInt8):Nat × Nat:=((q.1+x.toNat) % 65521,(q.2+(q.1+x.toNat) % 65521) % 65521)
def ig (q:Nat × Nat) (l:List UInt8):Nat × Nat:=l.foldl Mn q
def dU (s:Nat) (l:List UInt8):Nat:=65536*(ig (s % 65536 % 65521,s / 65536 % 65521) l).2+(ig (s % 65536 % 65521,s / 65536 % 65521) l).1
theorem Qk {q:Nat × Nat} (h1:q.1<65521) (h2:q.2<65521):∀ l:List UInt8,(ig q l).1<65521/\(ig q l).2<65521:=fun l=>by
 induction l generalizing q with
 | nil=>exact ⟨h1,h2⟩
 | cons x l ih=>exact ih (q:=Mn q x) (Nat.mod_lt _ (by decide)) (Nat.mod_lt _ (by decide))
theorem qE {s:Nat} (l:List UInt8):(ig (s % 65536 % 65521,s / 65536 % 65521) l).1<65521/\(ig (s % 65536 % 65521,s / 65536 % 65521) l).2<65521:=Qk (Nat.mod_lt _ (by decide)) (Nat.mod_lt _ (by decide)) l
theorem JJ {s:Nat} (l:List UInt8):dU s l<4294967296:=by
 have:=qE (s:=s) l;unfold dU; omega
def Fz (l:List UInt8):Nat:=l.foldl (fun w x=>(w*256) % 4294967296 ||| x.toNat) 0
abbrev dT (b:List UInt8):Int:=Wn (((b.getD 0 (au .u8):UInt8).toNat:Int)*2 ^ 8) ((b.getD 1 (au .u8):UInt8).toNat:Int)
def bh (b:List UInt8):List UInt8 × Int × Int:=
 if b.length<2 then ([],0,2) else if dT b=0\/4096<dT b then ([],0,3) else if (b.length:Int)<2+dT b+4 then ([],0,2)
 else if dU 1 (b.take (2+dT b).toNat)=Fz ((b.drop (2+dT b).toNat).take 4) then ((b.drop 2).take ((2+dT b).toNat - 2),2+dT b+4,0) else ([],0,3)
def jd (x:List UInt8):List UInt8:=[UInt8.ofNat (x.length / 256),UInt8.ofNat x.length]++x
def wK (s:Nat):List UInt8:=[UInt8.ofNat (s / 2 ^ 24),UInt8.ofNat (s / 2 ^ 16),UInt8.ofNat (s / 2 ^ 8),UInt8.ofNat s]
def eu (x:List UInt8):List UInt8:=jd x++wK (dU 1 (jd x))
def py (x:List UInt8):List UInt8 × Int:=if x.length=0\/4096<x.length then ([],4) else (eu x,0)
theorem ym {a b:Nat} (hb:b<256):a*256 ||| b=a*256+b:=by
 have:=Nat.two_pow_add_eq_or_of_lt (i:=8) (b:=b) hb a;rw [Nat.mul_comm a 256]; exact this.symm
theorem ofNat_toNat (n:Nat):(UInt8.ofNat n).toNat=n % 256:=UInt8.toNat_ofNat'
theorem Si {s:Nat} (h:s<4294967296):Fz (wK s)=s:=by
 simp only [Fz,wK,List.foldl_cons,List.foldl_nil,ofNat_toNat];rw [show (0*256) % 4294967296=0*256 from rfl,ym (a:=0) (Nat.mod_lt _ (by decide)),aiU,Nat.zero_add];have e1:s / 2 ^ 24 % 256=s / 16777216:=by omega
 rw [e1,Nat.mod_eq_of_lt (a:=s / 16777216*256) (by omega),ym (Nat.mod_lt _ (by decide)),Nat.mod_eq_of_lt (a:=(s / 16777216*256+s / 2 ^ 16 % 256)*256) (by omega),ym (Nat.mod_lt _ (by decide)),Nat.mod_eq_of_lt (a:=((s / 16777216*256+s / 2 ^ 16 % 256)*256+s / 2 ^ 8 % 256)*256) (by omega),ym (Nat.mod_lt _ (by decide))];omega
variable {x r:List UInt8}
theorem Be (h:x.length<=4096):dT (eu x++r)=x.length:=by
 have e:eu x++r=UInt8.ofNat (x.length / 256) :: UInt8.ofNat x.length :: (x++(wK (dU 1 (jd x))++r)):=by simp [eu,jd]
 have e1:((UInt8.ofNat (x.length / 256)).toNat:Int)*2 ^ 8=((x.length / 256*256:Nat):Int):=by rw [ofNat_toNat]; omega
 rw [e,dT,List.getD_cons_zero,List.getD_cons_succ,List.getD_cons_zero,e1,Wn,aef,aef,ofNat_toNat,ym (Nat.mod_lt _ (by decide))];omega
theorem jU:(eu x).length=x.length+6:=by simp [eu,jd,wK]
theorem Ir (h0:x≠[]) (h:x.length<=4096):bh (eu x++r)=(x,(x.length:Int)+6,0):=by
 have h1:0<x.length:=List.length_pos_iff.2 h0;have hl:(eu x++r).length=x.length+6+r.length:=by rw [List.length_append,jU]
 have e2:(2+(x.length:Int)).toNat=(jd x).length:=by simp [jd]; omega
 have e3:eu x++r=jd x++(wK (dU 1 (jd x))++r):=by simp [eu]
 unfold bh;rw [Be h,if_neg (by omega),if_neg (by omega),if_neg (by omega),e2,e3,List.take_left,List.drop_left,show List.take 4 (wK (dU 1 (jd x))++r)=wK (dU 1 (jd x)) from List.take_left' rfl,Si (JJ _),if_pos rfl];refine Prod.ext ?_ (Prod.ext (by dsimp only; omega) rfl);simp [jd]
variable {k:Nat}
theorem BI (h:x.length<=4096) (hk:k<x.length+6):(bh ((eu x).take k)).2.2≠0:=by
 by_cases h2:k<2
 ·unfold bh; rw [if_pos (by rw [List.length_take]; omega)]; decide
 have e:dT ((eu x).take k)=x.length:=by
  have:=Be (r:=[]) h;rw [adI] at this;rw [<- this,dT,dT,List.getD_eq_getElem?_getD,List.getD_eq_getElem?_getD,List.getD_eq_getElem?_getD,List.getD_eq_getElem?_getD,aiX (by omega),aiX (by omega)]
 have hl:((eu x).take k).length=k:=by rw [List.length_take,jU]; omega
 unfold bh;rw [if_neg (by omega),e,hl];split
 ·decide
 rw [if_pos (by omega)]; decide
theorem QO (b:List UInt8):0<=dT b:=Int.natCast_nonneg _
abbrev kz:List KC:=[.i 0,.i 0,.b false,.i 0,.i 0,.nf]
def UU (k:Int):List KC:=(dK bM k).getD kz
def recOk (r:Record):Bool:=(dK bM r.kind).isSome && decide (((UU r.kind).getD 0 .nf).int<=r.a) && decide (r.a<=((UU r.kind).getD 1 .nf).int) && decide (0<=r.b) && decide (r.b<=((UU r.kind).getD 3 .nf).int) && decide ((r.x.length:Int)<=((UU r.kind).getD 4 .nf).int)
def uf (k:Int):Bool:=((UU k).getD 2 .nf).bool
def dz (r:Record):List UInt8:=([UInt8.ofNat r.kind.toNat]++cY r.a.toNat)++(if uf r.kind=true then cY r.b.toNat else [])++r.x
def aI (r:Record):List UInt8 × Int:=if recOk r=true then (dz r,0) else ([],1)
abbrev uw:Record:=⟨0,0,0,[]⟩
def bH (b:List UInt8):Record × Bool:=
 if b.length=0 then (uw,false) else if (aj (b.drop 1)).2.2≠0 then (uw,false)
 else if uf ((b.getD 0 (au .u8):UInt8).toNat:Int)=true then
  if (aj ((b.drop 1).drop (aj (b.drop 1)).2.1)).2.2≠0 then (uw,false)
  else (⟨((b.getD 0 (au .u8):UInt8).toNat:Int),eX (aj (b.drop 1)).1,eX (aj ((b.drop 1).drop (aj (b.drop 1)).2.1)).1,((b.drop 1).drop (aj (b.drop 1)).2.1).drop (aj ((b.drop 1).drop (aj (b.drop 1)).2.1)).2.1⟩,true)
 else (⟨((b.getD 0 (au .u8):UInt8).toNat:Int),eX (aj (b.drop 1)).1,0,(b.drop 1).drop (aj (b.drop 1)).2.1⟩,true)
def bV (b:List UInt8):Record × Int:=if (bH b).2=false then (uw,3) else if (aI (bH b).1).2≠0\/(aI (bH b).1).1≠b then (uw,3) else ((bH b).1,0)
def dP (s:Stable) (r:Record):Option Stable:=if r.a<s.floor then none else some { s with floor:=r.a }
def fy (s:Stable) (r:Record):Option Stable:=if r.a<s.term\/(r.a=s.term/\¬ s.vote=0)/\¬ s.vote=r.b then none else some { s with term:=r.a,vote:=r.b }
def dC (s:Stable) (r:Record):Option Stable:=if ¬ r.a=(s.log.length:Int)+1 then none else some { s with log:=s.log++[⟨r.b,r.x⟩] }
def fM (s:Stable) (r:Record):Option Stable:=if (s.log.length:Int)<r.a then none else some { s with log:=s.log.take (r.a - 1).toNat }
def eL (s:Stable) (r:Record):Option Stable:=if r.kind=1 then dP s r else if r.kind=2 then fy s r else if r.kind=3 then dC s r else fM s r
def aM (s:Stable) (r:Record):Stable × Int:=if recOk r=false then (s,1) else match eL s r with
 | some t=>(t,0)
 | none=>(s,5)
def playB:Nat->Stable->List UInt8->Stable × Int
 | 0,s,_=>(s,0)
 | n+1,s,b=>if (bh b).2.2≠0 then (s,0) else if (bV (bh b).1).2≠0 then (s,0) else if (aM s (bV (bh b).1).1).2≠0 then (s,0)
  else ((playB n (aM s (bV (bh b).1).1).1 (b.drop (bh b).2.1.toNat)).1,(bh b).2.1+(playB n (aM s (bV (bh b).1).1).1 (b.drop (bh b).2.1.toNat)).2)
abbrev sta0:Stable:=⟨0,0,0,[]⟩
def replayF (b:List UInt8):Stable × Int:=playB (b.length+1) sta0 b
theorem aaa {k:Int} (h:(dK bM k).isSome=true):k=1\/k=2\/k=3\/k=4:=by
 simp only [bM,dK] at h;by_cases h1:k=1
 ·exact .inl h1
 by_cases h2:k=2
 ·exact .inr (.inl h2)
 by_cases h3:k=3
 ·exact .inr (.inr (.inl h3))
 by_cases h4:k=4
 ·exact .inr (.inr (.inr h4))
 simp [h1,h2,h3,h4] at h
variable {r:Record}
theorem bP:recOk r=true↔(r.kind=1/\1<=r.a/\r.a<=3/\r.b=0/\r.x=[])\/(r.kind=2/\0<=r.a/\r.a<=1048576/\0<=r.b/\r.b<=5/\r.x=[])\/(r.kind=3/\1<=r.a/\r.a<=64/\0<=r.b/\r.b<=1048576/\r.x.length<=200)\/(r.kind=4/\1<=r.a/\r.a<=64/\r.b=0/\r.x=[]):=by
 have e:∀ l:List UInt8,((l.length:Int)<=0)↔l=[]:=fun l=>by
  rw [<- List.length_eq_zero_iff]; omega
 constructor
 ·intro h;simp only [recOk,Bool.and_eq_true,decide_eq_true_eq] at h;obtain ⟨⟨⟨⟨⟨h0,h1⟩,h2⟩,h3⟩,h4⟩,h5⟩:=h;rcases aaa h0 with hk | hk | hk | hk <;> rw [hk] at h1 h2 h4 h5 <;> simp [UU,bM,dK,KC.int] at h1 h2 h4 h5
  ·exact .inl ⟨hk,h1,h2,by omega,h5⟩
  ·exact .inr (.inl ⟨hk,h1,h2,h3,h4,h5⟩)
  ·exact .inr (.inr (.inl ⟨hk,h1,h2,h3,h4,by omega⟩))
  exact .inr (.inr (.inr ⟨hk,h1,h2,by omega,h5⟩))
 rintro (⟨hk,h⟩ | ⟨hk,h⟩ | ⟨hk,h⟩ | ⟨hk,h⟩) <;> simp only [recOk,UU,bM,dK,hk] <;> simp [KC.int] <;> simp_all <;> omega
theorem ji (h:recOk r=true):1<=(dz r).length/\(dz r).length<=221:=by
 have h1:=cS (n:=r.a.toNat) (by rcases bP.1 h with h | h | h | h <;> omega);have h2:=cS (n:=r.b.toNat) (by rcases bP.1 h with h | h | h | h <;> omega);have h3:r.x.length<=200:=by rcases bP.1 h with h | h | h | h <;> first | omega | simp [h]
 simp only [dz,List.length_append,afh];split
 ·omega
 rw [List.length_nil]; omega
variable {n:Nat}
theorem su (h:n<9223372036854775808):eX n=n:=by
 rw [eX,if_pos h]
theorem Iv (h:recOk r=true):bH (dz r)=(r,true):=by
 have hk:=bP.1 h;have ha:0<=r.a/\r.a<=1048576:=by rcases hk with h | h | h | h <;> omega
 have hb:0<=r.b/\r.b<=1048576:=by rcases hk with h | h | h | h <;> omega
 have hk1:1<=r.kind/\r.kind<=4:=by rcases hk with h | h | h | h <;> omega
 have e0:dz r=UInt8.ofNat r.kind.toNat :: (cY r.a.toNat++((if uf r.kind=true then cY r.b.toNat else [])++r.x)):=by simp [dz]
 have e1:((UInt8.ofNat r.kind.toNat).toNat:Int)=r.kind:=by rw [ofNat_toNat]; omega
 have t1:=wj (n:=r.a.toNat) (by omega) ((if uf r.kind=true then cY r.b.toNat else [])++r.x);have w1:eX r.a.toNat=r.a:=by rw [su (by omega)]; omega
 have w2:eX r.b.toNat=r.b:=by rw [su (by omega)]; omega
 unfold bH;rw [e0,if_neg (by simp),List.drop_one,List.tail_cons,t1,List.getD_cons_zero,e1];dsimp only;rw [if_neg (by decide),w1,List.drop_left];by_cases h2:uf r.kind=true
 ·rw [if_pos h2,if_pos h2,wj (by omega)];dsimp only;rw [if_neg (by decide),w2,List.drop_left]
 rw [if_neg h2,if_neg h2,aiD];have:r.b=0:=by
  rcases hk with h | h | h | h
  ·exact h.2.2.2.1
  ·exact absurd (by rw [h.1]; rfl) h2
  ·exact absurd (by rw [h.1]; rfl) h2
  exact h.2.2.2.1
 cases r; simp_all
theorem MK (h:recOk r=true):bV (dz r)=(r,0):=by
 unfold bV;rw [Iv h];simp [aI,h]
def jA (r:Record):List UInt8:=eu (dz r)
def encL (l:List Record):List UInt8:=l.flatMap jA
def stepsF:Stable->List Record->Stable × Int
 | s,[]=>(s,0)
 | s,r :: l=>if (aM s r).2=0 then stepsF (aM s r).1 l else (s,(aM s r).2)
theorem tM {s:Stable} (h:(aM s r).2=0):recOk r=true:=by
 unfold aM at h;split at h
 ·cases h
 rename_i h1; simpa using h1
variable {b:List UInt8}
theorem il (h:(bh b).2.2=0):7<=(bh b).2.1/\(bh b).2.1<=b.length:=by
 have h0:0<=dT b:=Int.natCast_nonneg _;revert h;unfold bh;split
 ·intro h; cases h
 split
 ·intro h; cases h
 split
 ·intro h; cases h
 split
 ·intro _; dsimp only; omega
 intro h; cases h
theorem mD:∀ {n m:Nat} {s:Stable} {b:List UInt8},b.length<n->b.length<m->playB n s b=playB m s b
 | 0,_,_,_,h,_=>absurd h (by omega)
 | _,0,_,_,_,h=>absurd h (by omega)
 | n+1,m+1,s,b,h1,h2=>by
  simp only [playB];by_cases h0:(bh b).2.2=0
  ·have hs:=il h0;have hl:(b.drop (bh b).2.1.toNat).length<b.length:=by rw [List.length_drop]; omega
   rw [mD (n:=n) (m:=m) (by omega) (by omega)]
  rw [if_pos h0,if_pos h0]
theorem kL (r:Record):(jA r).length=(dz r).length+6:=jU
theorem Dm {s:Stable} {t:List UInt8} (h:(aM s r).2=0):playB (n+1) s (jA r++t)=((playB n (aM s r).1 t).1,(jA r).length+(playB n (aM s r).1 t).2):=by
 have hr:=tM h;have hl:=ji hr;have ht:bh (jA r++t)=(dz r,((dz r).length:Int)+6,0):=Ir (by intro e; rw [e] at hl; simp at hl) (by omega);have ed:(jA r++t).drop (((dz r).length:Int)+6).toNat=t:=by
  rw [show (((dz r).length:Int)+6).toNat=(jA r).length by rw [kL]; omega];exact List.drop_left
 simp only [playB,ht,MK hr,h,ed,kL];simp
theorem mI {s:Stable} (h:(bh b).2.2≠0):playB n s b=(s,0):=by
 cases n
 ·rfl
 rw [playB,if_pos h]
theorem Jc:(bh []).2.2≠0:=by decide
theorem uy:∀ {l:List Record} {n k:Nat} {s:Stable},(stepsF s l).2=0->(encL l).length<n->∃ j,j<=l.length/\playB n s ((encL l).take k)=((stepsF s (l.take j)).1,((encL (l.take j)).length:Int))/\(stepsF s (l.take j)).2=0/\(encL (l.take j)).length<=k/\(∀ i,i<=l.length->(encL (l.take i)).length<=k->i<=j)
 | [],n,k,s,_,_=>⟨0,Nat.le_refl _,by simp only [encL,List.flatMap_nil,List.take_nil]; rw [mI Jc]; rfl,rfl,by simp [encL],fun i hi _=>hi⟩
 | r :: l,0,_,_,_,hn=>by omega
 | r :: l,n+1,k,s,h,hn=>by
  have hs:(aM s r).2=0:=by
   unfold stepsF at h;split at h
   ·assumption
   rename_i h1; exact absurd h h1
  have h':(stepsF (aM s r).1 l).2=0:=by
   unfold stepsF at h;rwa [if_pos hs] at h
  have hr:=tM hs;have hl:=ji hr;have ee:encL (r :: l)=jA r++encL l:=by simp [encL]
  rw [ee] at hn ⊢;rw [List.length_append] at hn;by_cases hk:k<(jA r).length
  ·refine ⟨0,Nat.zero_le _,?_,rfl,by simp [encL],fun i hi hk'=>?_⟩
   ·have e1:(jA r++encL l).take k=(jA r).take k:=aez (by omega);rw [e1,mI (b:=(jA r).take k) (BI (x:=dz r) (by omega) (by rw [kL] at hk; omega))];rfl
   cases i with
   | zero=>exact Nat.le_refl _
   | succ i=>
    rw [agJ] at hk';simp only [encL,List.flatMap_cons,List.length_append] at hk';omega
  obtain ⟨j,h1,h2,h3,h4,h5⟩:=uy (l:=l) (n:=n) (k:=k - (jA r).length) h' (by have:=kL r; omega);have e1:(jA r++encL l).take k=jA r++(encL l).take (k - (jA r).length):=by
   rw [List.take_append,List.take_of_length_le (by omega)]
  refine ⟨j+1,by simp; omega,?_,?_,?_,fun i hi hk'=>?_⟩
  ·rw [e1,Dm hs,h2,agJ,stepsF,if_pos hs];simp [encL]
  ·rw [agJ,stepsF,if_pos hs]; exact h3
  ·rw [agJ];simp only [encL,List.flatMap_cons,List.length_append];have:(encL (l.take j)).length=(List.flatMap jA (l.take j)).length:=rfl;omega
  cases i with
  | zero=>omega
  | succ i=>
   rw [agJ] at hk';simp only [encL,List.flatMap_cons,List.length_append] at hk';have:=h5 i (by simpa using hi) (by simp only [encL]; omega);omega
theorem dr:∀ {l m:List Record} {s:Stable},(stepsF s l).2=0->stepsF s (l++m)=stepsF (stepsF s l).1 m
 | [],_,_,_=>rfl
 | r :: l,m,s,h=>by
  rw [List.cons_append,stepsF];simp only [stepsF] at h ⊢;split
  ·rename_i h1;rw [if_pos h1] at h;rw [dr h]
  rename_i h1;rw [if_neg h1] at h;exact absurd h h1
theorem rQ (l m:List Record):encL (l++m)=encL l++encL m:=by simp [encL]
structure Dsk where
 b:List UInt8
 synced:Int
 down:Bool
 doomed:Bool
 keep:Int
deriving DecidableEq
def Dsk.OK (d:Dsk):Prop:=0<=d.synced/\d.synced<=d.b.length/\d.b.length<=65536
def Dsk.at_ (d:Dsk) (k:Int):Int:=d.synced+min (max k 0) (d.b.length - d.synced)
def Dsk.cD (d:Dsk) (k:Int):Dsk:=⟨d.b.take (d.at_ k).toNat,d.at_ k,true,false,0⟩
def Dsk.up (d:Dsk):Dsk:=⟨d.b,d.synced,false,false,0⟩
def Dsk.cut (d:Dsk) (n:Int):Dsk:=if d.down=true\/n<0\/(d.b.length:Int)<n then d else ⟨d.b.take n.toNat,n,d.down,d.doomed,d.keep⟩
def Dsk.kv (d:Dsk) (n:Int):Int:=if d.down=true then 30 else if n<0\/(d.b.length:Int)<n then 1 else 0
def Dsk.app (d:Dsk) (x:List UInt8):Dsk:=if d.down=true\/65536 - (d.b.length:Int)<x.length then d else ⟨d.b++x,d.synced,d.down,d.doomed,d.keep⟩
def Dsk.jW (d:Dsk) (x:List UInt8):Int:=if d.down=true then 30 else if 65536 - (d.b.length:Int)<x.length then 20 else 0
def Dsk.sync (d:Dsk):Dsk:=if d.down=true then d else if d.doomed=true then d.cD d.keep else ⟨d.b,d.b.length,d.down,d.doomed,d.keep⟩
def Dsk.ft (d:Dsk):Int:=if d.down=true\/d.doomed=true then 30 else 0
def saveF (d:Dsk) (s:Stable) (l:List Record):Dsk × Stable × Int:=
 if l.all recOk=false then (d,s,1) else if (stepsF s l).2≠0 then (d,s,(stepsF s l).2) else if l.length=0 then (d,s,0)
 else if d.jW (encL l)≠0 then (d,s,d.jW (encL l)) else if (d.app (encL l)).ft≠0 then ((d.app (encL l)).sync,s,(d.app (encL l)).ft)
 else ((d.app (encL l)).sync,(stepsF s l).1,0)
def gY (l:List Entry):Int:=(l.getD (l.length - 1) ⟨0,[]⟩).term
def cJ (l:List Entry) (k:Int):Int:=if k=0 then 0 else if k<0\/(l.length:Int)<k then -1 else (l.getD (k - 1).toNat ⟨0,[]⟩).term
def ke (l:List Entry) (n t:Int):Bool:=decide (gY l<t) || decide (t=gY l) && decide ((l.length:Int)<=n)
def gQ:List Entry->List Entry->Nat
 | x :: h,y :: a=>if x.term=y.term then gQ h a+1 else 0
 | _,_=>0
def bd (l:List Entry) (k:Int) (m:List Entry):Int × List Entry:=
 if k<0\/(l.length:Int)<k then (0,[]) else if m.length<=gQ (l.drop k.toNat) m then (0,[]) else if (l.drop k.toNat).length<=gQ (l.drop k.toNat) m then (0,m.drop (gQ (l.drop k.toNat) m)) else (k+gQ (l.drop k.toNat) m+1,m.drop (gQ (l.drop k.toNat) m))
def fJ (l:List Entry) (k m:Int):List Entry:=if (k<0\/(l.length:Int)<k)\/m<1 then [] else (l.drop k.toNat).take (min m ((l.drop k.toNat).length:Int)).toNat
def gE (l:List Int):Int:=if l.length=0 then 0 else (l.mergeSort (fun a b=>decide (b<=a))).getD (l.length / 2) 0
theorem lT:∀ {h a:List Entry},gQ h a<=h.length/\gQ h a<=a.length
 | [],_=>⟨Nat.le_refl _,Nat.zero_le _⟩
 | _ :: _,[]=>⟨Nat.zero_le _,Nat.le_refl _⟩
 | x :: h,y :: a=>by
  have:=lT (h:=h) (a:=a);simp only [gQ];split <;> simp <;> omega
theorem o_:∀ {h a:List Entry} {j:Nat} {x y:Entry},j<=gQ h a->h[j]? = some x->a[j]? = some y->(x.term=y.term↔j+1<=gQ h a)
 | [],_,_,_,_,_,h,_=>by simp at h
 | _ :: _,[],_,_,_,_,_,h=>by simp at h
 | u :: h,v :: a,0,x,y,_,hx,hy=>by
  simp at hx hy;subst hx; subst hy;simp only [gQ];split
  ·rename_i e; exact ⟨fun _=>by omega,fun _=>e⟩
  rename_i e; exact ⟨fun k=>absurd k e,fun k=>by omega⟩
 | u :: h,v :: a,j+1,x,y,hj,hx,hy=>by
  simp only [ahx] at hx hy;simp only [gQ] at hj ⊢;split at hj
  ·rename_i e;rw [if_pos e];rw [o_ (by omega) hx hy]; omega
  omega
def dS (n m:Int) (b:Bool):Bool:=cj n 0 (if b=true then m else 0)
def nK (x:Letter):Bool:=(decide (x.kind=1) || decide (x.kind=2) || decide (x.kind=3) || decide (x.kind=4)) && cj x.frm 0 4 && cj x.to 0 4 && !decide (x.frm=x.to) && cj x.term 1 1048576 && cj x.bin 1 3 &&
 dS x.a 64 (decide (x.kind=1) || decide (x.kind=3) || decide (x.kind=4)) && dS x.b 1048576 (decide (x.kind=1) || decide (x.kind=3)) && dS x.c 64 (decide (x.kind=3)) && (!x.ok || decide (x.kind=2) || decide (x.kind=4)) && dS (x.l.length:Int) 4 (decide (x.kind=3))
def eN (y:Entry):Bool:=cj y.term 1 1048576 && decide ((y.b.length:Int)<=200)
def mayL (x:Letter):Int:=if nK x=true/\x.l.all eN=true then 0 else 1
def aA (s:Stable) (t:Int):List Record:=if t<=s.term then [] else [⟨2,t,0,[]⟩]
def aT (s:Stable) (me:Int):List Record × Int:=if me<0\/5<=me then ([],1) else if 1048576<=s.term then ([],4) else ([⟨2,s.term+1,me+1,[]⟩],0)
def EH (s:Stable) (x:Letter):Bool:=decide (s.term<x.term) || decide (s.vote=0) || decide (s.vote=x.frm+1)
def aH (s:Stable) (x:Letter):List Record × Bool × Int:=
 if ¬ mayL x=0\/¬ x.kind=1 then ([],false,1) else if (x.term<s.term\/EH s x=false)\/ke s.log x.a x.b=false then (aA s x.term,false,0)
 else if x.term=s.term/\s.vote=x.frm+1 then ([],true,0) else ([⟨2,x.term,x.frm+1,[]⟩],true,0)
def qm (l:List Bool):Bool:=decide ((l.length:Int).tdiv 2<(l.countP id:Nat))
abbrev cF:Letter:=⟨0,0,0,0,0,0,0,0,false,[]⟩
def pY (s:Stable) (r:Route):Letter:=⟨3,r.frm,r.to,s.term,r.next - 1,cJ s.log (r.next - 1),r.commit,r.bin,false,fJ s.log (r.next - 1) 4⟩
def gp (s:Stable) (r:Route):Letter × Int:=if r.next<1\/(s.log.length:Int)+1<r.next then (cF,1) else if ¬ mayL (pY s r)=0 then (cF,mayL (pY s r)) else (pY s r,0)
def fa:Int->List Entry->List Record
 | _,[]=>[]
 | n,y :: l=>⟨3,n,y.term,y.b⟩ :: fa (n+1) l
def iJ (s:Stable) (x:Letter):List Record:=
 aA s x.term++(if (bd s.log x.a x.l).1=0 then [] else [⟨4,(bd s.log x.a x.l).1,0,[]⟩])++fa (x.a+x.l.length - (bd s.log x.a x.l).2.length+1) (bd s.log x.a x.l).2
def aB (s:Stable) (x:Letter):List Record × Bool × Int × Int:=
 if (¬ mayL x=0\/¬ x.kind=3)\/64<x.a+x.l.length then ([],false,0,1) else if x.term<s.term then ([],false,0,0)
 else if cJ s.log x.a=x.b then (iJ s x,true,x.a+x.l.length,0) else (aA s x.term,false,0,0)
def jv (n:Int) (x:Letter):Int:=if x.ok=true then x.a+1 else if 1<n then min (n - 1) (x.a+1) else 1
def mf (s:Stable) (l:List Int) (k:Int):Int:=if k<min (gE l) s.log.length/\cJ s.log (min (gE l) s.log.length)=s.term then min (gE l) s.log.length else k
variable {x:Letter}
theorem fI (h:mayL x=0):0<=x.frm/\x.frm<=4/\0<=x.to/\x.to<=4/\1<=x.term/\x.term<=1048576/\1<=x.bin/\x.bin<=3/\0<=x.a/\x.a<=64/\0<=x.c/\x.c<=64/\x.l.length<=4/\1<=x.kind/\x.kind<=4:=by
 unfold mayL at h;split at h
 ·rename_i h1;have h1:=h1.1;simp only [nK,cj,dS,Bool.and_eq_true,Bool.or_eq_true,decide_eq_true_eq] at h1;obtain ⟨⟨⟨⟨⟨⟨⟨⟨⟨⟨k0,k1⟩,k2⟩,_⟩,k4⟩,k5⟩,k6⟩,_⟩,k8⟩,_⟩,k10⟩:=h1;have k6':x.a<=64:=by have:=k6.2; split at this <;> omega
  have k8':x.c<=64:=by have:=k8.2; split at this <;> omega
  have k10':(x.l.length:Int)<=4:=by have:=k10.2; split at this <;> omega
  omega
 cases h
theorem tQ:∀ {l:List Record},l.all recOk=true->(encL l).length<=227*l.length
 | [],_=>Nat.le_refl _
 | r :: l,h=>by
  simp only [agr,Bool.and_eq_true] at h;have h1:=ji h.1;have h2:=tQ h.2;have e:encL (r :: l)=jA r++encL l:=by simp [encL]
  rw [e,List.length_append,kL,List.length_cons]; omega
structure NdC where
 me:Int
 many:Int
 bin:Int
 st:Stable
 role:Int
 commit:Int
 applied:Int
 s:State
def noF (k:Nat) (n:NdC):List AV:=[.int n.me,.int n.many,.ptr (k+1) 0,.int n.bin]++(cellsOf (.nm .stable) n.st++([.int n.role,.int n.commit,.int n.applied]++cellsOf (.nm .state) n.s))
def lNd {β:Type} (k:Nat) (R:PL β):PL (NdC × β):=PL.YV (ax cI (ax cI (ax (aX (k+1) 0) (ax cI (lSt (.nm .stable) (ax cI (ax cI (ax cI (lSt (.nm .state) R))))))))) (fun q=>(⟨q.1,q.2.1,q.2.2.2.1,q.2.2.2.2.1,q.2.2.2.2.2.1,q.2.2.2.2.2.2.1,q.2.2.2.2.2.2.2.1,q.2.2.2.2.2.2.2.2.1⟩,q.2.2.2.2.2.2.2.2.2)) (fun q=>(q.1.me,q.1.many,(),q.1.bin,q.1.st,q.1.role,q.1.commit,q.1.applied,q.1.s,q.2))
structure Nd where
 c:NdC
 d:Dsk
 rp:List Reply
 vs:List Bool
 bn:List Int
 nx:List Int
 mt:List Int
def ndO (k:Nat) (n:Nd):AH:=[.box 103 (noF k n.c++[.own (k+3),.own (k+4),.own (k+5),.own (k+6),.own (k+7)]),.box 147 [.own (k+2),.int n.d.synced,.bool (.atom n.d.down),.bool (.atom n.d.doomed),.int n.d.keep],.row 5 .u8 n.d.b,.row 78 (.nm .reply) n.rp,.row 4 .bool n.vs,.row 3 .int n.bn,.row 3 .int n.nx,.row 3 .int n.mt]
def acB {β:Type} (k:Nat) (R:PH β):PH (Nd × β):=PH.YV (aC (dH 103 (lNd k (ax (eO (k+3)) (ax (eO (k+4)) (ax (eO (k+5)) (ax (eO (k+6)) (ax (eO (k+7)) dv))))))) (aC (dH 147 (ax (eO (k+2)) (ax cI (ax cB (ax cB (ax cI dv)))))) (aC (eW 5 .u8) (aC (eW 78 (.nm .reply)) (aC (eW 4 .bool) (aC (eW 3 .int) (aC (eW 3 .int) (aC (eW 3 .int) R))))))))
 (fun q=>(⟨q.1.1,⟨q.2.2.1,q.2.1.2.1,q.2.1.2.2.1,q.2.1.2.2.2.1,q.2.1.2.2.2.2.1⟩,q.2.2.2.1,q.2.2.2.2.1,q.2.2.2.2.2.1,q.2.2.2.2.2.2.1,q.2.2.2.2.2.2.2.1⟩,q.2.2.2.2.2.2.2.2))
 (fun q=>((q.1.c,(),(),(),(),(),()),((),q.1.d.synced,q.1.d.down,q.1.d.doomed,q.1.d.keep,()),q.1.d.b,q.1.rp,q.1.vs,q.1.bn,q.1.nx,q.1.mt,q.2))
def kU (n:Nd):AH:=ndO 0 n
def tY:PH Nd:=PH.YV (acB 0 aw) (·.1) (fun n=>(n,()))
structure NdR where
 n:Nd
 l:List Letter
 e:Int
abbrev Nd.save (n:Nd) (l:List Record):Nd:={ n with d:=(saveF n.d n.c.st l).1,c:={ n.c with st:=(saveF n.d n.c.st l).2.1 } }
abbrev Nd.aN (n:Nd) (l:List Record):Int:=(saveF n.d n.c.st l).2.2
def jB (n:NdC) (k:Nat):List Int:=((List.range k).map fun i:Nat=>(i:Int)).filter (fun i=>decide (i≠n.me))
def cK (n:NdC):List Int:=jB n n.many.toNat
def qJ (n:NdC) (kd to:Int):Letter:=⟨kd,n.me,to,n.st.term,0,0,0,n.bin,false,[]⟩
def je (n:Nd) (to:Int):Letter × Int:=gp n.c.st ⟨n.c.me,to,n.nx.getD to.toNat 0,n.c.commit,n.c.bin⟩
def ck (n:Nd):List Int->List Letter × Int
 | []=>([],0)
 | to :: l=>if (je n to).2=0 then (if (ck n l).2=0 then ((je n to).1 :: (ck n l).1,0) else ([],(ck n l).2)) else ([],(je n to).2)
def bJ (n:Nd):List Letter × Int:=if n.d.down=true then ([],30) else if n.c.role=2 then ck n (cK n.c) else ([],33)
noncomputable def Nd.dg:Nat->Nd->Nd
 | 0,n=>n
 | k+1,n=>if n.c.applied<n.c.commit then
   (if pE n.c.bin ((n.c.st.log.drop n.c.applied.toNat).take 1)=0 then Nd.dg k { n with c:={ n.c with s:=plS n.c.bin n.c.s ((n.c.st.log.drop n.c.applied.toNat).take 1),applied:=n.c.applied+1 },rp:=n.rp++plR n.c.bin n.c.s ((n.c.st.log.drop n.c.applied.toNat).take 1) } else n)
  else n
noncomputable def Nd.apply (n:Nd):Nd:=n.dg (n.c.commit - n.c.applied).toNat
def Nd.ey (n:Nd):Nd:={ n with c:={ n.c with role:=1 },vs:=(List.replicate n.c.many.toNat false).set n.c.me.toNat true,bn:=(List.replicate n.c.many.toNat (0:Int)).set n.c.me.toNat n.c.bin,nx:=List.replicate n.c.many.toNat 0,mt:=List.replicate n.c.many.toNat 0 }
def fp (n:NdC):List Letter:=(cK n).map fun to=>{ qJ n 1 to with a:=n.st.log.length,b:=gY n.st.log }
def bj (n:Nd):NdR:=if n.d.down=true then ⟨n,[],30⟩ else if n.c.role=2 then ⟨n,[],0⟩ else if ¬ (aT n.c.st n.c.me).2=0 then ⟨n,[],(aT n.c.st n.c.me).2⟩
 else if ¬ n.aN (aT n.c.st n.c.me).1=0 then ⟨n.save (aT n.c.st n.c.me).1,[],n.aN (aT n.c.st n.c.me).1⟩ else ⟨(n.save (aT n.c.st n.c.me).1).ey,fp (n.save (aT n.c.st n.c.me).1).ey.c,0⟩
def db (n:NdC) (x:Letter):Bool:=if (¬ mayL x=0\/¬ x.to=n.me)\/n.many<=x.frm then false else if ¬ x.kind=3 then true else if ¬ (aB n.st x).2.2.2=0 then false
 else !(aB n.st x).1.any (fun r=>decide (r.kind=4) && decide (r.a<=n.commit))
def cE (n:Nd) (x:Letter):NdR:=if ¬ (aH n.c.st x).2.2=0 then ⟨n,[],(aH n.c.st x).2.2⟩ else if ¬ n.aN (aH n.c.st x).1=0 then ⟨n.save (aH n.c.st x).1,[],n.aN (aH n.c.st x).1⟩
 else ⟨n.save (aH n.c.st x).1,[{ qJ (n.save (aH n.c.st x).1).c 2 x.frm with ok:=(aH n.c.st x).2.1 }],0⟩
def Nd.follow (n:Nd):Nd:={ n with c:={ n.c with role:=0 } }
noncomputable def bO (n:Nd) (x:Letter):NdR:=if ¬ (aB n.c.st x).2.2.2=0 then ⟨n,[],(aB n.c.st x).2.2.2⟩ else if ¬ n.aN (aB n.c.st x).1=0 then ⟨n.save (aB n.c.st x).1,[],n.aN (aB n.c.st x).1⟩
 else let m:=n.save (aB n.c.st x).1
  let f:=if x.term=m.c.st.term then m.follow else m
  if (aB n.c.st x).2.1=true then (let g:=({ f with c:={ f.c with commit:=max f.c.commit (min x.c (aB n.c.st x).2.2.1) } }:Nd).apply; ⟨g,[{ qJ f.c 4 x.frm with ok:=true,a:=(aB n.c.st x).2.2.1 }],0⟩)
  else ⟨f,[{ qJ f.c 4 x.frm with a:=if x.term=f.c.st.term then min 64 (f.c.st.log.length:Int) else 0 }],0⟩
def fF (n:Nd):NdR:=
 let m:Nd:={ n with c:={ n.c with role:=2 },nx:=List.replicate n.nx.length ((n.c.st.log.length:Int)+1),mt:=List.replicate n.mt.length 0 }
 if (n.c.st.log.length:Int)+1<=64 then (let l:=[⟨3,(n.c.st.log.length:Int)+1,n.c.st.term,[]⟩]; if m.aN l=0 then ⟨m.save l,(bJ (m.save l)).1,(bJ (m.save l)).2⟩ else ⟨m.save l,[],m.aN l⟩)
 else ⟨m,(bJ m).1,(bJ m).2⟩
def Nd.Qi (n:Nd) (x:Letter):Nd:=
 let e:Int:=n.c.st.log.length
 let nx:=n.nx.set x.frm.toNat (min (jv (n.nx.getD x.frm.toNat 0) x) (e+1))
 let mt:=if x.ok=true then n.mt.set x.frm.toNat (max (n.mt.getD x.frm.toNat 0) (min x.a e)) else n.mt
 { n with nx:=nx,mt:=mt,c:={ n.c with commit:=mf n.c.st (mt.set n.c.me.toNat e) n.c.commit } }
noncomputable def fP (n:Nd) (x:Letter):NdR:=
 let m:=(n.Qi x).apply
 if (n.c.st.log.length:Int)<m.nx.getD x.frm.toNat 0 then ⟨m,[],0⟩ else if (je m x.frm).2=0 then ⟨m,[(je m x.frm).1],0⟩ else ⟨m,[],(je m x.frm).2⟩
noncomputable def bk (n:Nd) (x:Letter):NdR:=
 let l:=aA n.c.st x.term
 if ¬ n.aN l=0 then ⟨n.save l,[],n.aN l⟩ else
 let m:=n.save l
 if ¬ x.term=m.c.st.term\/m.c.role=0 then ⟨m,[],0⟩ else
 let m2:Nd:={ m with bn:=m.bn.set x.frm.toNat x.bin }
 if (x.kind=2/\x.ok=true)/\m.c.role=1 then (let m3:Nd:={ m2 with vs:=m2.vs.set x.frm.toNat true }; if qm m3.vs=true then fF m3 else ⟨m3,[],0⟩)
 else if x.kind=4/\m.c.role=2 then fP m2 x else ⟨m2,[],0⟩
noncomputable def bg (n:Nd) (x:Letter):NdR:=if n.d.down=true then ⟨n,[],30⟩ else if db n.c x=false then ⟨n,[],1⟩ else
 let m:=if n.c.st.term<x.term then n.follow else n
 if x.kind=1 then cE m x else if x.kind=3 then bO m x else bk m x
def Nd.fresh (n:Nd) (b:Int):Nd:={ c:=⟨n.c.me,n.c.many,b,(replayF n.d.b).1,0,0,0,State.mk 1 1 0 0 [] [] []⟩,d:=n.d.up.cut (replayF n.d.b).2,rp:=[],vs:=[],bn:=[],nx:=[],mt:=[] }
def aV (n:Nd) (b:Int):NdR:=if n.d.down=false then ⟨n,[],31⟩ else if ¬ bZ b (max (replayF n.d.b).1.floor 1)=0 then ⟨n,[],bZ b (max (replayF n.d.b).1.floor 1)⟩
 else let m:=n.fresh b
  if m.c.st.floor<b then (let l:=[⟨1,b,0,[]⟩]; if m.aN l=0 then ⟨m.save l,[],0⟩ else ⟨{ m.save l with d:=(m.save l).d.cD 0 },[],m.aN l⟩) else ⟨m,[],0⟩
structure NdC3 where
 n:Nd
 a:Int
 b:Int
 e:Int
def cR (n:Nd) (c:Command):NdC3:=if n.d.down=true then ⟨n,0,0,30⟩ else if ¬ n.c.role=2 then ⟨n,0,0,33⟩ else if ¬ bG c n.c.s.version=0 then ⟨n,0,0,bG c n.c.s.version⟩
 else if c.kind=8/\¬ c.n=n.c.s.version+1 then ⟨n,0,0,1⟩ else if c.kind=8/\ll n.c.s.version n.bn=false then ⟨n,0,0,34⟩
 else if 64<(n.c.st.log.length:Int)+1 then ⟨n,0,0,20⟩ else if ¬ (ei c n.c.st.term n.c.s.version).2=0 then ⟨n,0,0,(ei c n.c.st.term n.c.s.version).2⟩
 else let l:=[⟨3,(n.c.st.log.length:Int)+1,(ei c n.c.st.term n.c.s.version).1.term,(ei c n.c.st.term n.c.s.version).1.b⟩]
  if n.aN l=0 then ⟨n.save l,(n.c.st.log.length:Int)+1,n.c.st.term,0⟩ else ⟨n.save l,0,0,n.aN l⟩
abbrev bY (a b:Nd):Prop:=a.c.me=b.c.me/\a.c.many=b.c.many/\a.c.bin=b.c.bin/\a.c.st.floor=b.c.st.floor/\a.c.st.term=b.c.st.term/\a.c.st.vote=b.c.st.vote/\a.c.st.log=b.c.st.log/\a.c.role=b.c.role/\a.c.commit=b.c.commit/\a.c.applied=b.c.applied/\a.c.s.version=b.c.s.version/\a.c.s.next=b.c.s.next/\a.c.s.keep=b.c.s.keep/\a.c.s.quota=b.c.s.quota/\a.c.s.sess=b.c.s.sess/\a.c.s.opens=b.c.s.opens/\a.c.s.snaps=b.c.s.snaps/\a.d.synced=b.d.synced/\a.d.down=b.d.down/\a.d.doomed=b.d.doomed/\a.d.keep=b.d.keep/\a.d.b=b.d.b/\a.rp=b.rp/\a.vs=b.vs/\a.bn=b.bn/\a.nx=b.nx/\a.mt=b.mt
abbrev qu (a b:Nd) (p:Prop):Prop:=a.c.me=b.c.me/\a.c.many=b.c.many/\a.c.bin=b.c.bin/\a.c.st.floor=b.c.st.floor/\a.c.st.term=b.c.st.term/\a.c.st.vote=b.c.st.vote/\a.c.st.log=b.c.st.log/\a.c.role=b.c.role/\a.c.commit=b.c.commit/\a.c.applied=b.c.applied/\a.c.s.version=b.c.s.version/\a.c.s.next=b.c.s.next/\a.c.s.keep=b.c.s.keep/\a.c.s.quota=b.c.s.quota/\a.c.s.sess=b.c.s.sess/\a.c.s.opens=b.c.s.opens/\a.c.s.snaps=b.c.s.snaps/\a.d.synced=b.d.synced/\a.d.down=b.d.down/\a.d.doomed=b.d.doomed/\a.d.keep=b.d.keep/\a.d.b=b.d.b/\a.rp=b.rp/\a.vs=b.vs/\a.bn=b.bn/\a.nx=b.nx/\a.mt=b.mt/\p
structure DkI (d:Dsk) (L:List Record):Prop where
 st:(stepsF sta0 L).2=0
 rep:replayF d.b=((stepsF sta0 L).1,((encL L).length:Int))
 pre:∃ t,d.b=encL L++t
 syn:d.synced=d.b.length
 up:d.down=false->d.b=encL L
variable {L:List Record}
theorem qc (h:(stepsF sta0 L).2=0):∃ j,j<=L.length/\replayF ((encL L).take k)=((stepsF sta0 (L.take j)).1,((encL (L.take j)).length:Int))/\(stepsF sta0 (L.take j)).2=0/\(encL (L.take j)).length<=k/\∀ i,i<=L.length->(encL (L.take i)).length<=k->i<=j:=by
 obtain ⟨j,h1,h2,h3⟩:=uy (n:=(encL L).length+1) (k:=k) h (by omega);refine ⟨j,h1,?_,h3⟩;rw [replayF,<- h2];exact mD (by omega) (by rw [List.length_take]; omega)
theorem sR (h:(stepsF sta0 L).2=0):replayF (encL L)=((stepsF sta0 L).1,((encL L).length:Int)):=by
 obtain ⟨j,h1,h2,h3,h4,h5⟩:=qc (k:=(encL L).length) h;rw [List.take_length] at h2;have:=h5 L.length (by omega) (by rw [List.take_length]; omega);rw [h2,show j=L.length by omega,List.take_length]
variable {l:List Record}
theorem DkI.ahH {d':Dsk} (hs:(stepsF sta0 (L++l)).2=0) (hk:(encL L).length<=k) (hb:d'.b=(encL (L++l)).take k) (hy:d'.synced=d'.b.length) (hd:d'.down=true):∃ i,i<=l.length/\DkI d' (L++l.take i):=by
 obtain ⟨j,h1,h2,h3,h4,h5⟩:=qc (k:=k) hs;have hj:=h5 L.length (by simp) (by rw [List.take_left]; exact hk);have e:(L++l).take j=L++l.take (j - L.length):=by rw [List.take_append,List.take_of_length_le (by omega)]
 rw [e] at h2 h3 h4;rw [List.length_append] at h1;refine ⟨j - L.length,by omega,h3,by rw [hb]; exact h2,?_,hy,fun h=>by rw [hd] at h; cases h⟩;refine ⟨(encL (l.drop (j - L.length))).take (k - (encL (L++l.take (j - L.length))).length),?_⟩;have e2:encL (L++l)=encL (L++l.take (j - L.length))++encL (l.drop (j - L.length)):=by
  rw [<- rQ,List.append_assoc,List.take_append_drop]
 rw [hb,e2,List.take_append,List.take_of_length_le h4]
theorem DkI.enc {dm:Bool} {sy kp:Int} (hs:(stepsF sta0 L).2=0) (hb:b=encL L) (hy:sy=b.length) {dn:Bool}:DkI ⟨b,sy,dn,dm,kp⟩ L:=
 ⟨hs,by rw [hb]; exact sR hs,⟨[],by rw [adI]; exact hb⟩,hy,fun _=>hb⟩
theorem yT {i:Nat}:L <+: L++l.take i:=⟨_,rfl⟩
structure SaveR (d:Dsk) (s:Stable) (l L:List Record):Prop where
 ok:(saveF d s l).2.2=0->(saveF d s l).1.down=false/\DkI (saveF d s l).1 (L++l)/\(saveF d s l).2.1=(stepsF s l).1/\(stepsF s l).2=0/\l.all recOk=true/\(saveF d s l).1.doomed=d.doomed/\(saveF d s l).1.keep=d.keep/\(l=[]->saveF d s l=(d,s,0))
 no:(saveF d s l).2.2≠0->(saveF d s l).2.1=s/\l≠[]/\(((saveF d s l).1=d/\(saveF d s l).2.2≠30)\/(d.doomed=true/\(saveF d s l).2.2=30/\(saveF d s l).1.down=true/\(saveF d s l).1.doomed=false/\∃ i,i<=l.length/\DkI (saveF d s l).1 (L++l.take i)))
 len:(saveF d s l).1.b.length<=d.b.length+(encL l).length
 le:d.b.length<=65536->(saveF d s l).1.b.length<=65536
theorem rZ:∀ {l:List Record} {s:Stable},(stepsF s l).2=0\/(stepsF s l).2=1\/(stepsF s l).2=5
 | [],_=>.inl rfl
 | r :: l,s=>by
  rw [stepsF];split
  ·exact rZ
  dsimp only;unfold aM;split
  ·exact .inr (.inl rfl)
  split
  ·exact .inl rfl
  exact .inr (.inr rfl)
variable {d:Dsk}
theorem Dz {s:Stable} (h:DkI d L) (hu:d.down=false) (hs:s=(stepsF sta0 L).1):SaveR d s l L:=by
 have he:=h.up hu;have hy:=h.syn;by_cases h1:l.all recOk=false
 ·have hne:l≠[]:=by rintro rfl; cases h1
  constructor <;> rw [saveF,if_pos h1]
  ·intro e; cases e
  ·exact fun _=>⟨rfl,hne,.inl ⟨rfl,(by decide:(1:Int)≠30)⟩⟩
  ·dsimp only; omega
  exact id
 by_cases h2:(stepsF s l).2≠0
 ·have hne:l≠[]:=by rintro rfl; exact h2 rfl
  constructor <;> rw [saveF,if_neg h1,if_pos h2]
  ·intro e; exact absurd e h2
  ·exact fun _=>⟨rfl,hne,.inl ⟨rfl,by rcases rZ (l:=l) (s:=s) with e | e | e <;> rw [e] <;> decide⟩⟩
  ·dsimp only; omega
  exact id
 have h2':(stepsF s l).2=0:=acs.1 h2;have h1':l.all recOk=true:=by simpa using h1
 by_cases h3:l.length=0
 ·obtain rfl:=aa9 h3;constructor <;> rw [saveF,if_neg h1,if_neg h2,if_pos h3]
  ·exact fun _=>⟨hu,by rw [adI]; exact h,rfl,rfl,rfl,rfl,rfl,fun _=>rfl⟩
  ·intro e; exact absurd rfl e
  ·dsimp only; omega
  exact id
 have hne:l≠[]:=by rintro rfl; exact h3 rfl
 by_cases h4:d.jW (encL l)≠0
 ·have h5:d.jW (encL l)=20:=by
   unfold Dsk.jW at h4 ⊢;rw [hu] at h4 ⊢;simp only [Bool.false_eq_true,if_false] at h4 ⊢;split at h4
   ·rename_i q; rw [if_pos q]
   exact absurd rfl h4
  constructor <;> rw [saveF,if_neg h1,if_neg h2,if_neg h3,if_pos h4]
  ·intro e; exact absurd e h4
  ·exact fun _=>⟨rfl,hne,.inl ⟨rfl,by dsimp only; rw [h5]; decide⟩⟩
  ·dsimp only; omega
  exact id
 have h6:¬ 65536 - (d.b.length:Int)<(encL l).length:=by
  intro q;unfold Dsk.jW at h4;rw [hu,if_neg (by decide),if_pos q] at h4;exact h4 (by decide)
 have ea:d.app (encL l)=⟨d.b++encL l,d.synced,false,d.doomed,d.keep⟩:=by
  rw [Dsk.app,if_neg (by rw [hu]; simpa using h6),hu]
 have eb:d.b++encL l=encL (L++l):=by rw [he,rQ]
 have es:(stepsF sta0 (L++l)).2=0:=by rw [dr h.st,<- hs]; exact h2'
 by_cases h7:d.doomed=true
 ·have h8:(d.app (encL l)).ft=30:=by rw [ea,Dsk.ft,if_pos (.inr h7)]
  have h9:(d.app (encL l)).sync=(d.app (encL l)).cD d.keep:=by rw [ea,Dsk.sync,if_neg Bool.false_ne_true,if_pos h7]
  constructor <;> rw [saveF,if_neg h1,if_neg h2,if_neg h3,if_neg h4,if_pos (by rw [h8]; decide)]
  ·intro e; rw [h8] at e; cases e
  ·refine fun _=>⟨rfl,hne,.inr ⟨h7,h8,by rw [h9]; rfl,by rw [h9]; rfl,?_⟩⟩;dsimp only;rw [h9,ea];refine DkI.ahH (k:=((⟨d.b++encL l,d.synced,false,d.doomed,d.keep⟩:Dsk).at_ d.keep).toNat) es ?_ (by show List.take _ (d.b++encL l)=_; rw [eb]) ?_ rfl
   ·rw [<- he];simp only [Dsk.at_,List.length_append]; omega
   simp only [Dsk.cD,Dsk.at_,List.length_take,List.length_append]; omega
  ·rw [h9,ea];simp only [Dsk.cD,List.length_take,List.length_append]; omega
  intro _;rw [h9,ea];simp only [Dsk.cD,List.length_take,List.length_append]; omega
 have h8:(d.app (encL l)).ft=0:=by rw [ea,Dsk.ft,if_neg (by simpa using h7)]
 have h9:(d.app (encL l)).sync=⟨d.b++encL l,(d.b++encL l).length,false,d.doomed,d.keep⟩:=by rw [ea,Dsk.sync,if_neg Bool.false_ne_true,if_neg h7]
 constructor <;> rw [saveF,if_neg h1,if_neg h2,if_neg h3,if_neg h4,if_neg (by rw [h8]; decide)]
 ·refine fun _=>⟨by rw [h9],?_,rfl,h2',h1',by rw [h9],by rw [h9],fun e=>absurd e hne⟩;dsimp only;rw [h9];exact DkI.enc es eb rfl
 ·intro e; exact absurd rfl e
 ·rw [h9]; dsimp only; rw [List.length_append]; omega
 intro _; rw [h9]; dsimp only; rw [List.length_append]; omega
theorem afI (h:r.kind=1/\1<=r.a/\r.a<=3/\r.b=0/\r.x=[]):recOk r=true:=bP.2 (.inl h)
theorem adf (h:r.kind=2/\0<=r.a/\r.a<=1048576/\0<=r.b/\r.b<=5/\r.x=[]):recOk r=true:=bP.2 (.inr (.inl h))
theorem ahJ (h:r.kind=3/\1<=r.a/\r.a<=64/\0<=r.b/\r.b<=1048576/\r.x.length<=200):recOk r=true:=bP.2 (.inr (.inr (.inl h)))
theorem ae6 (h:r.kind=4/\1<=r.a/\r.a<=64/\r.b=0/\r.x=[]):recOk r=true:=bP.2 (.inr (.inr (.inr h)))
theorem nq {s t:Stable} (h:recOk r=true) (e:eL s r=some t):aM s r=(t,0):=by
 rw [aM,if_neg (by rw [h]; decide),e]
theorem jI {s:Stable} (h:(aM s r).2=0):stepsF s [r]=((aM s r).1,0):=by
 rw [stepsF,if_pos h,stepsF]
variable {t:Int}
theorem wH {s:Stable} {v:Int} (h0:0<=t) (h1:t<=1048576) (h2:0<=v) (h3:v<=5) (h:s.term<t\/(s.term=t/\(s.vote=0\/s.vote=v))):stepsF s [⟨2,t,v,[]⟩]=({ s with term:=t,vote:=v },0):=by
 have e:aM s ⟨2,t,v,[]⟩=({ s with term:=t,vote:=v },0):=by
  refine nq (adf ⟨rfl,h0,h1,h2,h3,rfl⟩) ?_;rw [eL,if_neg (show ¬ (2:Int)=1 by decide),if_pos rfl,fy,if_neg];dsimp only; omega
 rw [jI (by rw [e]),e]
theorem ow {s:Stable} (h0:0<=t) (h1:t<=1048576):stepsF s (aA s t)=({ s with term:=max s.term t,vote:=if s.term<t then 0 else s.vote },0)/\(aA s t).all recOk=true:=by
 unfold aA;split
 ·rename_i h;rw [show max s.term t=s.term by omega,if_neg (by omega)];exact ⟨rfl,rfl⟩
 rename_i h;rw [wH h0 h1 (by omega) (by omega) (.inl (by omega)),show max s.term t=t by omega,if_pos (by omega)];refine ⟨rfl,?_⟩;rw [agr,adf ⟨rfl,h0,h1,by dsimp only; omega,by dsimp only; omega,rfl⟩]; rfl
theorem vI {y:Entry}:eN y=true↔1<=y.term/\y.term<=1048576/\y.b.length<=200:=by
 simp only [eN,cj,Bool.and_eq_true,decide_eq_true_eq]; omega
theorem xz:∀ {m:List Entry} {s:Stable},m.all eN=true->s.log.length+m.length<=64->stepsF s (fa ((s.log.length:Int)+1) m)=({ s with log:=s.log++m },0)/\(fa ((s.log.length:Int)+1) m).all recOk=true
 | [],s,_,_=>⟨by rw [fa,stepsF,adI],rfl⟩
 | y :: m,s,h,hl=>by
  rw [agr,Bool.and_eq_true,vI] at h;rw [List.length_cons] at hl;have hr:recOk ⟨3,(s.log.length:Int)+1,y.term,y.b⟩=true:=ahJ ⟨rfl,by dsimp only; omega,by dsimp only; omega,by dsimp only; omega,by dsimp only; omega,by dsimp only; omega⟩;have e:aM s ⟨3,(s.log.length:Int)+1,y.term,y.b⟩=({ s with log:=s.log++[y] },0):=by
   refine nq hr ?_;rw [eL,if_neg (show ¬ (3:Int)=1 by decide),if_neg (show ¬ (3:Int)=2 by decide),if_pos rfl,dC,if_neg (by dsimp only; omega)]
  obtain ⟨h1,h2⟩:=xz (m:=m) (s:={ s with log:=s.log++[y] }) h.2 (by dsimp only; rw [List.length_append,afh]; omega);have e2:(((s.log++[y]).length:Nat):Int)+1=(s.log.length:Int)+1+1:=by rw [List.length_append,afh]; omega
  dsimp only at h1 h2;rw [e2] at h1 h2;refine ⟨?_,?_⟩
  ·rw [fa,stepsF,if_pos (by rw [e]),e,h1]; simp
  rw [fa,agr,hr,h2]; rfl
theorem Av (h:mayL x=0):x.l.all eN=true:=by
 unfold mayL at h;split at h
 ·rename_i h1; exact h1.2
 cases h
theorem Oi (h:mayL x=0):0<=x.b:=by
 unfold mayL at h;split at h
 ·rename_i h1;have h1:=h1.1;simp only [nK,cj,dS,Bool.and_eq_true,Bool.or_eq_true,decide_eq_true_eq] at h1;obtain ⟨⟨⟨⟨_,k6⟩,_⟩,_⟩,_⟩:=h1;exact k6.1
 cases h
def e_ (s:Stable) (x:Letter):Nat:=gQ (s.log.drop x.a.toNat) x.l
def dI (s:Stable) (x:Letter):List Entry:=if x.l.length<=e_ s x then s.log else s.log.take (x.a.toNat+e_ s x)++x.l.drop (e_ s x)
theorem yD {l:List Entry} {k:Int} (h:cJ l k=t) (ht:0<=t) (hk:0<=k):k.toNat<=l.length:=by
 unfold cJ at h;split at h
 ·omega
 split at h
 ·omega
 omega
theorem yN {s:Stable} (ha:x.a.toNat<=s.log.length):x.a.toNat+x.l.length<=(dI s x).length/\(dI s x).length<=max s.log.length (x.a.toNat+x.l.length):=by
 have h:=lT (h:=s.log.drop x.a.toNat) (a:=x.l);rw [List.length_drop] at h;unfold dI e_;split
 ·omega
 rw [List.length_append,List.length_take,List.length_drop]; omega
theorem kS {m:List Entry} (h:m.all eN=true):(m.drop k).all eN=true:=
 aeF.2 fun y hy=>aeF.1 h y (aiS hy)
theorem UA {s:Stable} (h:mayL x=0) (hl:s.log.length<=64) (h64:x.a+x.l.length<=64) (ht:s.term<=x.term) (hm:cJ s.log x.a=x.b) (ha:0<=x.a) (hx1:1<=x.term) (hx2:x.term<=1048576) :
  stepsF s (iJ s x)=({ s with term:=x.term,vote:=if s.term<x.term then 0 else s.vote,log:=dI s x },0)/\(iJ s x).all recOk=true:=by
 have hb:=Oi h;have hal:=yD hm hb ha;have he:=Av h;obtain ⟨n1,n2⟩:=ow (s:=s) (t:=x.term) (by omega) hx2;have n1:stepsF s (aA s x.term)=({ s with term:=x.term,vote:=if s.term<x.term then 0 else s.vote },0):=by rw [n1,show max s.term x.term=x.term by omega]
 have hc:=lT (h:=s.log.drop x.a.toNat) (a:=x.l);rw [List.length_drop] at hc;unfold iJ;by_cases q1:x.l.length<=e_ s x
 ·have e:bd s.log x.a x.l=(0,[]):=by rw [bd,if_neg (by omega)]; exact if_pos q1
  rw [e,if_pos rfl,fa,adI,adI,dI,if_pos q1];exact ⟨n1,n2⟩
 by_cases q2:(s.log.drop x.a.toNat).length<=e_ s x
 ·have q3:e_ s x=s.log.length - x.a.toNat:=by rw [List.length_drop] at q2; unfold e_ at q2 ⊢; omega
  have e:bd s.log x.a x.l=(0,x.l.drop (e_ s x)):=by rw [bd,if_neg (by omega)]; exact (if_neg q1).trans (if_pos q2)
  have e2:x.a+(x.l.length:Int) - ((x.l.drop (e_ s x)).length:Int)+1=(s.log.length:Int)+1:=by rw [List.length_drop]; omega
  rw [e,if_pos rfl,adI];dsimp only;rw [e2];obtain ⟨k1,k2⟩:=xz (m:=x.l.drop (e_ s x)) (s:={ s with term:=x.term,vote:=if s.term<x.term then 0 else s.vote }) (kS he) (by dsimp only; rw [List.length_drop]; omega);dsimp only at k1 k2;refine ⟨?_,by rw [agZ,n2,k2]; rfl⟩;rw [dr (by rw [n1]),n1];dsimp only;rw [k1,dI,if_neg q1,List.take_of_length_le (l:=s.log) (by omega)]
 have q3:x.a.toNat+e_ s x<s.log.length:=by rw [List.length_drop] at q2; omega
 have e:bd s.log x.a x.l=(x.a+e_ s x+1,x.l.drop (e_ s x)):=by rw [bd,if_neg (by omega)]; exact (if_neg q1).trans (if_neg q2)
 have hr:recOk ⟨4,x.a+e_ s x+1,0,[]⟩=true:=ae6 ⟨rfl,by dsimp only; omega,by dsimp only; omega,rfl,rfl⟩;have c1:aM { s with term:=x.term,vote:=if s.term<x.term then 0 else s.vote } ⟨4,x.a+e_ s x+1,0,[]⟩=({ s with term:=x.term,vote:=if s.term<x.term then 0 else s.vote,log:=s.log.take (x.a.toNat+e_ s x) },0):=by
  refine nq hr ?_;rw [eL,if_neg (show ¬ (4:Int)=1 by decide),if_neg (show ¬ (4:Int)=2 by decide),if_neg (show ¬ (4:Int)=3 by decide),fM,if_neg (by dsimp only; omega)];dsimp only;rw [show (x.a+(e_ s x:Int)+1 - 1).toNat=x.a.toNat+e_ s x by omega]
 have e2:x.a+(x.l.length:Int) - ((x.l.drop (e_ s x)).length:Int)+1=(((s.log.take (x.a.toNat+e_ s x)).length:Nat):Int)+1:=by rw [List.length_drop,List.length_take]; omega
 rw [e];dsimp only;rw [if_neg (by omega),e2];obtain ⟨k1,k2⟩:=xz (m:=x.l.drop (e_ s x)) (s:={ s with term:=x.term,vote:=if s.term<x.term then 0 else s.vote,log:=s.log.take (x.a.toNat+e_ s x) }) (kS he) (by dsimp only; rw [List.length_drop,List.length_take]; omega);dsimp only at k1 k2;refine ⟨?_,by rw [agZ,agZ,n2,k2]; simp [hr]⟩;have n3:stepsF s (aA s x.term++[⟨4,x.a+e_ s x+1,0,[]⟩])=({ s with term:=x.term,vote:=if s.term<x.term then 0 else s.vote,log:=s.log.take (x.a.toNat+e_ s x) },0):=by
  rw [dr (by rw [n1]),n1,jI (by dsimp only; rw [c1])];dsimp only;rw [c1]
 rw [dr (by rw [n3]),n3];dsimp only;rw [k1,dI,if_neg q1]
structure NdOK (n:Nd):Prop where
 d:n.d.OK
 many:3<=n.c.many/\n.c.many<=5
 me:0<=n.c.me/\n.c.me<n.c.many
 log:n.c.st.log.length<=64
 term:0<=n.c.st.term/\n.c.st.term<=1048576
 com:0<=n.c.applied/\n.c.applied<=n.c.commit/\n.c.commit<=n.c.st.log.length
 len:n.c.role=0\/((n.vs.length:Int)=n.c.many/\(n.bn.length:Int)=n.c.many/\(n.nx.length:Int)=n.c.many/\(n.mt.length:Int)=n.c.many)
 rp:(n.rp.length:Int)=n.c.applied
abbrev fr0:State:=State.mk 1 1 0 0 [] [] []
structure UpI (n:Nd) (L:List Record):Prop where
 st:n.c.st=(stepsF sta0 L).1
 bin:1<=n.c.bin/\n.c.bin<=3/\n.c.st.floor=n.c.bin
 role:0<=n.c.role/\n.c.role<=2
 vote:n.c.role≠0->n.c.st.vote=n.c.me+1/\1<=n.c.st.term
 nx:n.c.role=2->∀ i:Nat,(i:Int)<n.c.many->1<=n.nx.getD i 0/\n.nx.getD i 0<=n.c.st.log.length+1
 pl:okPl n.c.bin (n.c.st.log.take n.c.applied.toNat)/\n.c.s=pS n.c.bin fr0 (n.c.st.log.take n.c.applied.toNat)/\n.rp=pR n.c.bin fr0 (n.c.st.log.take n.c.applied.toNat)
structure NInv (n:Nd) (L:List Record):Prop where
 ok:NdOK n
 d:DkI n.d L
 le:∀ r ∈ L,r.kind=3->1<=r.b
 up:n.d.down=false->UpI n L
structure LetI (n:Nd) (x:Letter):Prop where
 up:n.d.down=false
 frm:x.frm=n.c.me
 to:x.to≠n.c.me/\0<=x.to/\x.to<n.c.many
 term:x.term=n.c.st.term
 bin:x.bin=n.c.bin
 ask:x.kind=1->n.c.st.vote=n.c.me+1
 vote:x.kind=2->x.ok=true->n.c.st.vote=x.to+1
 copy:x.kind=3->n.c.role=2
structure StepR (n:Nd) (L:List Record) (n':Nd) (l:List Letter) (L':List Record):Prop where
 inv:NInv n' L'
 pre:L <+: L'
 me:n'.c.me=n.c.me/\n'.c.many=n.c.many
 len:n'.d.b.length<=n.d.b.length+1400
 lets:∀ x ∈ l,LetI n' x
 mono:n.d.down=false->n'.d.down=false->n.c.commit<=n'.c.commit/\n'.c.st.log.take n.c.commit.toNat=n.c.st.log.take n.c.commit.toNat/\n'.c.bin=n.c.bin
variable {n:Nd}
theorem StepR.refl (h:NInv n L):StepR n L n [] L:=
 ⟨h,List.prefix_refl _,⟨rfl,rfl⟩,by omega,fun _ hx=>(by cases hx),fun _ _=>⟨aev _,rfl,rfl⟩⟩
theorem sG {s:Stable} (h:SaveR d s l L) (hl:l.length<=6):(saveF d s l).1.b.length<=d.b.length+1400:=by
 cases hq:l.all recOk
 ·have e:saveF d s l=(d,s,1):=by rw [saveF,if_pos hq]
  rw [e]; dsimp only; omega
 have:=h.len;have:=tQ hq;omega
theorem Qb (n:Nd) (l:List Record):(n.save l).c={ n.c with st:=(saveF n.d n.c.st l).2.1 }:=rfl
theorem Cs (n:Nd) (l:List Record):(n.save l).d=(saveF n.d n.c.st l).1:=rfl
theorem qa {s t:Stable} (hr:recOk r=true) (h:eL s r=some t) (hl:s.log.length<=64) (ht:0<=s.term/\s.term<=1048576):t.log.length<=64/\0<=t.term/\t.term<=1048576:=by
 have hk:=bP.1 hr;unfold eL at h;split at h
 ·unfold dP at h;split at h
  ·cases h
  cases h; exact ⟨hl,ht⟩
 split at h
 ·unfold fy at h;split at h
  ·cases h
  cases h; dsimp only; omega
 split at h
 ·unfold dC at h;split at h
  ·cases h
  cases h;dsimp only;rw [List.length_append,afh]; omega
 unfold fM at h;split at h
 ·cases h
 cases h;dsimp only;rw [List.length_take]; omega
theorem lS {s:Stable} (h:(aM s r).2=0):recOk r=true/\eL s r=some (aM s r).1:=by
 have hr:=tM h;refine ⟨hr,?_⟩;unfold aM at h ⊢;rw [if_neg (by rw [hr]; decide)] at h ⊢;cases hb:eL s r with
 | none=>rw [hb] at h; cases h
 | some t=>rfl
theorem ni:∀ {l:List Record} {s:Stable},s.log.length<=64->0<=s.term/\s.term<=1048576->(stepsF s l).1.log.length<=64/\0<=(stepsF s l).1.term/\(stepsF s l).1.term<=1048576
 | [],_,h1,h2=>⟨h1,h2⟩
 | r :: l,s,h1,h2=>by
  rw [stepsF];split
  ·rename_i h;obtain ⟨hr,hb⟩:=lS h;obtain ⟨k1,k2⟩:=qa hr hb h1 h2;exact ni k1 k2
  exact ⟨h1,h2⟩
theorem Bo {s:Stable} (h:SaveR d s l L) (hd:d.OK):(saveF d s l).1.OK:=by
 by_cases e:(saveF d s l).2.2=0
 ·have h1:=(h.ok e).2.1.syn;exact ⟨by omega,by omega,h.le hd.2.2⟩
 rcases (h.no e).2.2 with ⟨h1,_⟩ | ⟨_,_,_,_,i,_,h1⟩
 ·rw [h1]; exact hd
 have h2:=h1.syn;exact ⟨by omega,by omega,h.le hd.2.2⟩
theorem kI (h:NInv n L) (hu:n.d.down=false) (hl:l.length<=6) (h3:∀ r ∈ l,r.kind=3->1<=r.b) (he:n.aN l≠0):∃ L',StepR n L (n.save l) [] L':=by
 have hu':=h.up hu;have hs:=Dz (l:=l) h.d hu hu'.st;have hlen:=sG hs hl;have hd:=Bo hs h.ok.d;obtain ⟨k1,k2,k3⟩:=hs.no he;have ec:(n.save l).c=n.c:=by rw [Qb,k1]
 have hok:NdOK (n.save l):=⟨hd,by rw [ec]; exact h.ok.many,by rw [ec]; exact h.ok.me,by rw [ec]; exact h.ok.log,by rw [ec]; exact h.ok.term,by rw [ec]; exact h.ok.com,by rw [ec]; exact h.ok.len,by rw [ec]; exact h.ok.rp⟩;rcases k3 with ⟨k3,_⟩ | ⟨_,_,k4,_,i,_,k5⟩
 ·have e:n.save l=n:=by
   unfold Nd.save; rw [k1,k3]
  rw [e]; exact ⟨L,StepR.refl h⟩
 refine ⟨L++l.take i,⟨hok,k5,fun r hr=>?_,fun hd=>?_⟩,yT,by rw [ec]; exact ⟨rfl,rfl⟩,hlen,fun _ hx=>(by cases hx),fun _ hd=>?_⟩
 ·rcases List.mem_append.1 hr with hr | hr
  ·exact h.le r hr
  exact h3 r (aiR hr)
 ·rw [Cs,k4] at hd; cases hd
 rw [Cs,k4] at hd; cases hd
structure SaveY (n:Nd) (L l:List Record):Prop where
 d:DkI (n.save l).d (L++l)
 dn:(n.save l).d.down=false
 st:(n.save l).c.st=(stepsF n.c.st l).1
 sts:(n.save l).c.st=(stepsF sta0 (L++l)).1
 le:∀ r ∈ L++l,r.kind=3->1<=r.b
 len:(n.save l).d.b.length<=n.d.b.length+1400
 ok:(n.save l).d.OK
 lt:(n.save l).c.st.log.length<=64/\0<=(n.save l).c.st.term/\(n.save l).c.st.term<=1048576
 no:l=[]->n.save l=n
theorem oB (h:NInv n L) (hu:n.d.down=false) (hl:l.length<=6) (h3:∀ r ∈ l,r.kind=3->1<=r.b) (he:n.aN l=0):SaveY n L l:=by
 have hu':=h.up hu;have hs:=Dz (l:=l) h.d hu hu'.st;obtain ⟨k1,k2,k3,k4,k5,k6,k7,k8⟩:=hs.ok he;have e1:(n.save l).c.st=(stepsF n.c.st l).1:=k3;refine ⟨k2,k1,e1,?_,fun r hr=>?_,sG hs hl,Bo hs h.ok.d,?_,fun e=>?_⟩
 ·rw [e1,dr h.d.st,hu'.st]
 ·rcases List.mem_append.1 hr with hr | hr
  ·exact h.le r hr
  exact h3 r hr
 ·rw [e1]; exact ni h.ok.log h.ok.term
 unfold Nd.save; rw [k8 e]
theorem QZ {α:Type} {a b:List α} {j:Nat} (h:a.take k=b.take k) (hj:j<=k):a.take j=b.take j:=by
 have e1:a.take j=(a.take k).take j:=by rw [aiG,aey hj]
 rw [e1,h,aiG,aey hj]
theorem lW (h:NInv n L) (hu:n.d.down=false) (y:SaveY n L l) (hv:n.c.role≠0->(n.save l).c.st.vote=n.c.me+1/\1<=(n.save l).c.st.term) (hf:(n.save l).c.st.floor=n.c.st.floor)
  (hl:(n.save l).c.st.log.take n.c.commit.toNat=n.c.st.log.take n.c.commit.toNat) (hc:n.c.commit<=((n.save l).c.st.log.length:Int)) (hn:n.c.role=2->n.c.st.log.length<=(n.save l).c.st.log.length):StepR n L (n.save l) [] (L++l):=by
 have hi:=h.up hu;have ha:(n.save l).c.st.log.take n.c.applied.toNat=n.c.st.log.take n.c.applied.toNat:=QZ hl (by have:=h.ok.com; omega);refine ⟨⟨⟨y.ok,h.ok.many,h.ok.me,y.lt.1,y.lt.2,⟨h.ok.com.1,h.ok.com.2.1,hc⟩,h.ok.len,h.ok.rp⟩,y.d,y.le,fun _=>⟨y.sts,⟨hi.bin.1,hi.bin.2.1,hf.trans hi.bin.2.2⟩,hi.role,hv,fun hr i hm=>?_,?_⟩⟩,List.prefix_append _ _,⟨rfl,rfl⟩,y.len,fun _ hx=>(by cases hx),fun _ _=>⟨aev _,hl,rfl⟩⟩
 ·have h1:=hi.nx hr i hm;have h2:=hn hr;refine ⟨h1.1,agu h1.2 ?_⟩;show ((n.c.st.log.length:Nat):Int)+1<=(((n.save l).c.st.log.length:Nat):Int)+1;omega
 show okPl n.c.bin ((n.save l).c.st.log.take n.c.applied.toNat)/\n.c.s=pS n.c.bin fr0 ((n.save l).c.st.log.take n.c.applied.toNat)/\n.rp=pR n.c.bin fr0 ((n.save l).c.st.log.take n.c.applied.toNat);rw [ha]; exact hi.pl
theorem NInv.follow {n:Nd} {L:List Record} (h:NInv n L):NInv n.follow L:=
 ⟨⟨h.ok.d,h.ok.many,h.ok.me,h.ok.log,h.ok.term,h.ok.com,.inl rfl,h.ok.rp⟩,h.d,h.le,fun hu=>by
  have hi:=h.up hu;exact ⟨hi.st,hi.bin,⟨aev 0,(by decide:(0:Int)<=2)⟩,fun hr=>absurd rfl hr,fun hr=>absurd (show (0:Int)=2 from hr) (by decide),hi.pl⟩⟩
variable {n':Nd} {L':List Record}
theorem StepR.lM {l:List Letter} (h:StepR n.follow L n' l L'):StepR n L n' l L':=⟨h.inv,h.pre,h.me,h.len,h.lets,h.mono⟩
theorem w_ {n:NdC} {i:Int} (h:i ∈ cK n):i≠n.me/\0<=i/\i<n.many:=by
 unfold cK jB at h;obtain ⟨h1,h2⟩:=List.mem_filter.1 h;obtain ⟨k,h3,rfl⟩:=List.mem_map.1 h1;have:=List.mem_range.1 h3;exact ⟨of_decide_eq_true h2,by omega,by omega⟩
variable {to:Int}
theorem Xo (h:(je n to).2=0):(je n to).1=pY n.c.st ⟨n.c.me,to,n.nx.getD to.toNat 0,n.c.commit,n.c.bin⟩:=by
 unfold je gp at h ⊢;split
 ·rename_i h1; rw [if_pos h1] at h; cases h
 rename_i h1;rw [if_neg h1] at h;split
 ·rename_i h2; rw [if_pos h2] at h; exact absurd h h2
 rfl
theorem EB (hu:n.d.down=false) (hr:n.c.role=2) (h:(je n to).2=0) (ht:to≠n.c.me/\0<=to/\to<n.c.many):LetI n (je n to).1:=by
 rw [Xo h];exact ⟨hu,rfl,ht,rfl,rfl,fun e=>absurd (show (3:Int)=1 from e) (by decide),fun e=>absurd (show (3:Int)=2 from e) (by decide),fun _=>hr⟩
theorem zQ {n:Nd}:∀ {l:List Int} {x:Letter},x ∈ (ck n l).1->∃ to ∈ l,(je n to).2=0/\x=(je n to).1
 | [],_,h=>by cases h
 | t :: l,x,h=>by
  unfold ck at h;split at h
  ·rename_i h1;split at h
   ·rcases aa_.1 h with rfl | h
    ·exact ⟨t,by simp,h1,rfl⟩
    obtain ⟨u,hu,k⟩:=zQ h;exact ⟨u,by simp [hu],k⟩
   cases h
  cases h
theorem oP (hx:x ∈ (bJ n).1):LetI n x:=by
 unfold bJ at hx;split at hx
 ·cases hx
 rename_i hd;split at hx
 ·rename_i hr;obtain ⟨to,h1,h2,rfl⟩:=zQ hx;exact EB (by simpa using hd) hr h2 (w_ h1)
 cases hx
theorem StepR.tell {l:List Letter} (h:StepR n L n' [] L') (hl:∀ x ∈ l,LetI n' x):StepR n L n' l L':=⟨h.inv,h.pre,h.me,h.len,hl,h.mono⟩
theorem Dw (hu:n.d.down=false) (hv:n.c.st.vote=n.c.me+1) (hx:x ∈ fp n.c):LetI n x:=by
 unfold fp at hx;obtain ⟨to,h1,rfl⟩:=List.mem_map.1 hx;exact ⟨hu,rfl,w_ h1,rfl,rfl,fun _=>hv,fun e=>absurd (show (1:Int)=2 from e) (by decide),fun e=>absurd (show (1:Int)=3 from e) (by decide)⟩
theorem Lk {s:Stable} {m:Int} (h:(aT s m).2=0) (hm:0<=m) (ht:0<=s.term):aT s m=([⟨2,s.term+1,m+1,[]⟩],0)/\stepsF s [⟨2,s.term+1,m+1,[]⟩]=({ s with term:=s.term+1,vote:=m+1 },0):=by
 unfold aT at h ⊢;split at h
 ·cases h
 rename_i h1;split at h
 ·cases h
 rename_i h2;rw [if_neg h1,if_neg h2];exact ⟨rfl,wH aL aL aL aL (.inl aL)⟩
variable {k:Int}
theorem IK {a b:Int} (hk:k≠3):∀ r ∈ [Record.mk k a b []],r.kind=3->1<=r.b:=fun r hr e=>by
 rw [aa6.1 hr] at e; exact absurd e hk
theorem HC (h:NInv n L):∃ L',StepR n L (bj n).n (bj n).l L':=by
 unfold bj;split
 ·exact ⟨L,.refl h⟩
 rename_i hd;have hu:n.d.down=false:=by simpa using hd
 split
 ·exact ⟨L,.refl h⟩
 rename_i hr;split
 ·exact ⟨L,.refl h⟩
 rename_i he;obtain ⟨e1,e2⟩:=Lk (acs.1 he) h.ok.me.1 h.ok.term.1;rw [e1];dsimp only;split
 ·rename_i hs;exact kI h hu (by simp) (IK (by decide)) hs
 rename_i hs;have y:=oB h hu (by simp) (IK (by decide)) (acs.1 hs);have hi:=h.up hu;have es:=y.st;rw [e2] at es;generalize hl:[Record.mk 2 (n.c.st.term+1) (n.c.me+1) []]=l at *;have hm:=h.ok.me;have hm2:=h.ok.many;refine ⟨L++l,⟨⟨⟨y.ok,h.ok.many,h.ok.me,y.lt.1,y.lt.2,?_,?_,h.ok.rp⟩,y.d,y.le,fun _=>⟨y.sts,⟨hi.bin.1,hi.bin.2.1,?_⟩,⟨(by decide:(0:Int)<=1),(by decide:(1:Int)<=2)⟩,fun _=>?_,fun hr=>absurd (show (1:Int)=2 from hr) (by decide),?_⟩⟩,List.prefix_append _ _,⟨rfl,rfl⟩,y.len,fun x hx=>Dw y.dn ?_ hx,fun _ _=>⟨aev _,?_,rfl⟩⟩⟩
 ·show 0<=n.c.applied/\n.c.applied<=n.c.commit/\n.c.commit<=((n.save l).c.st.log.length:Int);rw [es]; exact h.ok.com
 ·refine .inr ⟨?_,?_,?_,?_⟩
  ·show ((((List.replicate n.c.many.toNat false).set n.c.me.toNat true).length:Nat):Int)=n.c.many;rw [aet,aeC]; omega
  ·show ((((List.replicate n.c.many.toNat (0:Int)).set n.c.me.toNat n.c.bin).length:Nat):Int)=n.c.many;rw [aet,aeC]; omega
  ·show (((List.replicate n.c.many.toNat (0:Int)).length:Nat):Int)=n.c.many;rw [aeC]; omega
  show (((List.replicate n.c.many.toNat (0:Int)).length:Nat):Int)=n.c.many;rw [aeC]; omega
 ·show (n.save l).c.st.floor=n.c.bin;rw [es]; exact hi.bin.2.2
 ·show (n.save l).c.st.vote=n.c.me+1/\1<=(n.save l).c.st.term;rw [es]; exact ⟨rfl,by have:=h.ok.term.1; dsimp only; omega⟩
 ·show okPl n.c.bin ((n.save l).c.st.log.take n.c.applied.toNat)/\n.c.s=pS n.c.bin fr0 ((n.save l).c.st.log.take n.c.applied.toNat)/\n.rp=pR n.c.bin fr0 ((n.save l).c.st.log.take n.c.applied.toNat);rw [es]; exact hi.pl
 ·show (n.save l).c.st.vote=n.c.me+1;rw [es]
 show (n.save l).c.st.log.take n.c.commit.toNat=_;rw [es]
theorem BQ:∀ {k:Nat} {n:Nd} {L:List Record},NInv n L->n.d.down=false->NInv (n.dg k) L/\(n.dg k).d=n.d/\(n.dg k).c={ n.c with s:=(n.dg k).c.s,applied:=(n.dg k).c.applied }/\(n.dg k).vs=n.vs/\(n.dg k).bn=n.bn/\(n.dg k).nx=n.nx/\(n.dg k).mt=n.mt
 | 0,n,L,h,_=>⟨h,rfl,rfl,rfl,rfl,rfl,rfl⟩
 | k+1,n,L,h,hu=>by
  unfold Nd.dg;split
  ·rename_i h1;split
   ·rename_i h2;have hi:=h.up hu;have hc:=h.ok.com;obtain ⟨x,hx⟩:∃ x,n.c.st.log[n.c.applied.toNat]? = some x:=⟨_,List.getElem?_eq_getElem (by omega)⟩;have e:(n.c.st.log.drop n.c.applied.toNat).take 1=[x]:=by
     obtain ⟨hlt,hxe⟩:=aaj.1 hx;rw [aeB hlt,hxe]; rfl
    rw [e] at h2 ⊢;have hr:(ba x n.c.bin).e=0:=by
     unfold pE at h2;split at h2
     ·assumption
     exact h2
    have eS:plS n.c.bin n.c.s [x]=iw n.c.bin n.c.s x:=by
     unfold plS pN pN;rw [if_pos hr]; rfl
    have eR:plR n.c.bin n.c.s [x]=[mF n.c.bin n.c.s x]:=by
     unfold plR pN pN;rw [if_pos hr]; rfl
    have et:(n.c.applied+1).toNat=n.c.applied.toNat+1:=by omega
    obtain ⟨p1,p2,p3⟩:=hi.pl;rw [eS,eR];have hn:NInv { n with c:={ n.c with s:=iw n.c.bin n.c.s x,applied:=n.c.applied+1 },rp:=n.rp++[mF n.c.bin n.c.s x] } L:=by
     refine ⟨⟨h.ok.d,h.ok.many,h.ok.me,h.ok.log,h.ok.term,⟨by dsimp only; omega,by dsimp only; omega,hc.2.2⟩,h.ok.len,?_⟩,h.d,h.le,fun _=>⟨hi.st,hi.bin,hi.role,hi.vote,hi.nx,?_⟩⟩
     ·dsimp only;rw [List.length_append,afh];have:=h.ok.rp; omega
     dsimp only;rw [et];refine ⟨EL p1 hx hr,?_,?_⟩
     ·rw [p2]; exact WQ hx
     rw [p3,p2]; exact VX hx
    obtain ⟨k1,k2,k3,k4,k5,k6,k7⟩:=BQ (k:=k) hn hu;exact ⟨k1,k2,k3,k4,k5,k6,k7⟩
   exact ⟨h,rfl,rfl,rfl,rfl,rfl,rfl⟩
  exact ⟨h,rfl,rfl,rfl,rfl,rfl,rfl⟩
theorem kM {s:Stable}:∀ r ∈ aA s t,r.kind=3->1<=r.b:=fun r hr e=>by
 unfold aA at hr;split at hr
 ·cases hr
 exact IK (by decide) r hr e
theorem fV {s:Stable}:(aA s t).length<=1:=by
 unfold aA;split <;> simp
theorem pt (h:mayL x=0):x.frm≠x.to:=by
 unfold mayL at h;split at h
 ·rename_i h1;have h1:=h1.1;simp only [nK,Bool.and_eq_true,aew,aeA] at h1;exact h1.1.1.1.1.1.1.1.2
 cases h
structure ForMe (n:Nd) (x:Letter):Prop where
 may:mayL x=0
 to:x.to=n.c.me
 frm:x.frm<n.c.many
theorem xT (h:db n.c x=true):ForMe n x/\(x.kind=3->(aB n.c.st x).2.2.2=0/\(aB n.c.st x).1.any (fun r=>decide (r.kind=4) && decide (r.a<=n.c.commit))=false):=by
 unfold db at h;split at h
 ·cases h
 rename_i h1;refine ⟨⟨by omega,by omega,by omega⟩,fun hk=>?_⟩;rw [if_neg (acs.2 hk)] at h;split at h
 ·cases h
 rename_i h2;exact ⟨acs.1 h2,by simpa using h⟩
theorem aaw {s:Stable} (h:(aH s x).2.2=0) (hm:mayL x=0):(aH s x).1.length<=1/\(∀ r ∈ (aH s x).1,r.kind=3->1<=r.b) /\
  (stepsF s (aH s x).1)=({ s with term:=max s.term x.term,vote:=if (aH s x).2.1=true then x.frm+1 else if s.term<x.term then 0 else s.vote },0) /\
  ((aH s x).2.1=true->s.term<=x.term/\(x.term=s.term->s.vote=0\/s.vote=x.frm+1))/\(x.term<=s.term->(aH s x).2.1=false->(aH s x).1=[])/\(x.term<=s.term->s.vote≠0->(aH s x).1=[]):=by
 have hb:=fI hm;unfold aH at h ⊢;split at h
 ·cases h
 rename_i h1;rw [if_neg h1];split at h
 ·rename_i h2;rw [if_pos h2];have:=(ow (s:=s) (t:=x.term) (by omega) (by omega)).1;refine ⟨fV,kM,?_,fun e=>(by cases e),fun e _=>(by unfold aA; rw [if_pos e]),fun e _=>(by unfold aA; rw [if_pos e])⟩;dsimp only;rw [this]; simp
 rename_i h2;rw [if_neg h2];have h3:s.term<=x.term/\EH s x=true:=by
  rw [not_or,not_or] at h2;exact ⟨by omega,by simpa using h2.1.2⟩
 have h4:x.term=s.term->s.vote=0\/s.vote=x.frm+1:=fun e=>by
  have:=h3.2;simp only [EH,Bool.or_eq_true,decide_eq_true_eq] at this;omega
 split
 ·rename_i h5;refine ⟨by simp,fun _ hr=>(by cases hr),?_,fun _=>⟨h3.1,h4⟩,fun _ _=>rfl,fun _ _=>rfl⟩;dsimp only;rw [stepsF,if_pos rfl,show max s.term x.term=s.term by omega,<- h5.2]
 rename_i h5;refine ⟨by simp,IK (by decide),?_,fun _=>⟨h3.1,h4⟩,fun _ e=>(by cases e),fun h6 h7=>?_⟩
 ·dsimp only;rw [wH (by omega) (by omega) (by omega) (by omega) (by omega),if_pos rfl,show max s.term x.term=x.term by omega]
 exfalso;have e:x.term=s.term:=by omega
 rcases h4 e with h8 | h8
 ·exact h7 h8
 exact h5 ⟨e,h8⟩
theorem FH (h:NInv n L) (hu:n.d.down=false) (hx:ForMe n x) (hr:n.c.role≠0->x.term<=n.c.st.term):∃ L',StepR n L (cE n x).n (cE n x).l L':=by
 unfold cE;split
 ·exact ⟨L,.refl h⟩
 rename_i he;obtain ⟨a1,a2,a3,a4,a5,a6⟩:=aaw (acs.1 he) hx.may;split
 ·rename_i hs;exact kI h hu aL a2 hs
 rename_i hs;have y:=oB h hu (by omega) a2 (acs.1 hs);have es:=y.st;rw [a3] at es;have hi:=h.up hu;refine ⟨_,(lW h hu y (fun hr0=>?_) (by rw [es]) (by rw [es]) (by rw [es]; exact h.ok.com.2.2) (fun _=>by rw [es]; exact Nat.le_refl _)).tell fun z hz=>?_⟩
 ·have hv:=hi.vote hr0;have e:=y.no (a6 (hr hr0) (by have:=h.ok.me; omega));rw [e]; exact hv
 rw [aa6.1 hz];have hb:=fI hx.may;have hne:=pt hx.may;refine ⟨y.dn,rfl,⟨by have:=hx.to; show x.frm≠n.c.me; omega,hb.1,hx.frm⟩,rfl,rfl,fun e=>absurd (show (2:Int)=1 from e) (by decide),fun _ e=>?_,fun e=>absurd (show (2:Int)=3 from e) (by decide)⟩;have e:(aH n.c.st x).2.1=true:=e;show (n.save (aH n.c.st x).1).c.st.vote=x.frm+1;rw [es,if_pos e]
theorem Fx:∀ {m:List Entry} {k:Int},m.all eN=true->∀ r ∈ fa k m,r.kind=3->1<=r.b
 | [],_,_,_,hr,_=>by cases hr
 | y :: m,k,h,r,hr,e=>by
  rw [agr,Bool.and_eq_true,vI] at h;rcases aa_.1 hr with rfl | hr
  ·exact h.1.1
  exact Fx h.2 r hr e
theorem f_ {s:Stable} (h:(aB s x).2.2.2=0):(mayL x=0/\x.kind=3/\x.a+x.l.length<=64)/\((x.term<s.term/\aB s x=([],false,0,0))\/(s.term<=x.term/\cJ s.log x.a=x.b/\aB s x=(iJ s x,true,x.a+x.l.length,0))\/(s.term<=x.term/\¬ cJ s.log x.a=x.b/\aB s x=(aA s x.term,false,0,0))):=by
 unfold aB at h ⊢;split at h
 ·cases h
 rename_i h1;rw [if_neg h1];refine ⟨by omega,?_⟩;by_cases h2:x.term<s.term
 ·exact .inl ⟨h2,by rw [if_pos h2]⟩
 by_cases h3:cJ s.log x.a=x.b
 ·exact .inr (.inl ⟨by omega,h3,by rw [if_neg h2,if_pos h3]⟩)
 exact .inr (.inr ⟨by omega,h3,by rw [if_neg h2,if_neg h3]⟩)
theorem uE {s:Stable} (h:mayL x=0):(iJ s x).length<=6:=by
 have hb:=fI h;have h1:=fV (s:=s) (t:=x.term);have h2:∀ (m:List Entry) (k:Int),(fa k m).length=m.length:=fun m=>by
  induction m with
  | nil=>intro _; rfl
  | cons y m ih=>intro k; rw [fa,List.length_cons,List.length_cons,ih]
 have h3:(bd s.log x.a x.l).2.length<=x.l.length:=by
  unfold bd;split
  ·simp
  split
  ·simp
  split <;> simp
 unfold iJ;rw [List.length_append,List.length_append,h2];split
 ·rw [List.length_nil]; omega
 rw [afh]; omega
theorem Sq {s:Stable} (h:mayL x=0):∀ r ∈ iJ s x,r.kind=3->1<=r.b:=fun r hr e=>by
 unfold iJ at hr;rcases List.mem_append.1 hr with hr | hr
 ·rcases List.mem_append.1 hr with hr | hr
  ·exact kM r hr e
  split at hr
  ·cases hr
  exact IK (by decide) r hr e
 refine Fx ?_ r hr e;have:=Av h;unfold bd;split
 ·rfl
 split
 ·rfl
 split <;> exact kS this
theorem xn {s:Stable} (hm:mayL x=0) (ha:x.a.toNat<=s.log.length) (hc:(iJ s x).any (fun r=>decide (r.kind=4) && decide (r.a<=k))=false) (h0:0<=k) (hk:k<=s.log.length):(dI s x).take k.toNat=s.log.take k.toNat/\k<=((dI s x).length:Int):=by
 have hb:=fI hm;have hq:=lT (h:=s.log.drop x.a.toNat) (a:=x.l);rw [List.length_drop] at hq;unfold dI;split
 ·exact ⟨rfl,hk⟩
 rename_i h1;have h2:k.toNat<=x.a.toNat+e_ s x\/s.log.length<=x.a.toNat+e_ s x:=by
  by_cases q2:(s.log.drop x.a.toNat).length<=e_ s x
  ·right; rw [List.length_drop] at q2; omega
  left;have e:bd s.log x.a x.l=(x.a+e_ s x+1,x.l.drop (e_ s x)):=by rw [bd,if_neg (by omega)]; exact (if_neg h1).trans (if_neg q2)
  have h3:Record.mk 4 (x.a+e_ s x+1) 0 [] ∈ iJ s x:=by
   unfold iJ;rw [e];dsimp only;rw [if_neg (by omega)];simp
  have h4:=List.any_eq_false.1 hc _ h3;simp only [decide_true,Bool.true_and,decide_eq_true_eq] at h4;omega
 have hl:k.toNat<=(s.log.take (x.a.toNat+e_ s x)).length:=by rw [List.length_take]; omega
 refine ⟨?_,by rw [List.length_append]; omega⟩;rw [aez hl,aiG];rcases h2 with h2 | h2
 ·rw [aey h2]
 rw [aey (by omega)]
theorem wG {s:Stable} (h:(saveF d s l).2.2=0):(saveF d s l).2.1=(stepsF s l).1/\(stepsF s l).2=0:=by
 unfold saveF at h ⊢;split at h
 ·cases h
 rename_i h1;split at h
 ·rename_i h2; exact absurd h h2
 rename_i h2;have h2:=acs.1 h2;rw [if_neg h1,if_neg (by rw [h2]; decide)];split at h
 ·rename_i h3;rw [if_pos h3];obtain rfl:=aa9 h3;exact ⟨rfl,rfl⟩
 rename_i h3;rw [if_neg h3];split at h
 ·rename_i h4; exact absurd h h4
 rename_i h4;rw [if_neg h4];split at h
 ·rename_i h5; exact absurd h h5
 rename_i h5;rw [if_neg h5]; exact ⟨rfl,h2⟩
theorem rW (h0:NdOK n) (hm:db n.c x=true) (hk:x.kind=3) (hy:(aB n.c.st x).2.1=true) :
  (aB n.c.st x)=(iJ n.c.st x,true,x.a+x.l.length,0)/\n.c.st.term<=x.term/\(stepsF n.c.st (iJ n.c.st x))=({ n.c.st with term:=x.term,vote:=if n.c.st.term<x.term then 0 else n.c.st.vote,log:=dI n.c.st x },0) /\
  (dI n.c.st x).take n.c.commit.toNat=n.c.st.log.take n.c.commit.toNat/\n.c.commit<=((dI n.c.st x).length:Int)/\x.a+x.l.length<=((dI n.c.st x).length:Int)/\mayL x=0/\cJ n.c.st.log x.a=x.b:=by
 obtain ⟨h1,h2⟩:=xT hm;obtain ⟨h3,h4⟩:=h2 hk;have hb:=fI h1.may;obtain ⟨⟨_,_,h64⟩,hc⟩:=f_ h3;rcases hc with ⟨_,e⟩ | ⟨e1,e2,e⟩ | ⟨_,_,e⟩
 ·rw [e] at hy; cases hy
 ·rw [e] at h4;have h5:=(UA h1.may h0.log h64 e1 e2 (by omega) (by omega) (by omega)).1;have ha:=yD e2 (Oi h1.may) (by omega);obtain ⟨h6,h7⟩:=xn h1.may ha h4 (by have:=h0.com; omega) h0.com.2.2;have h8:=yN (x:=x) ha;exact ⟨e,e1,h5,h6,h7,by omega,h1.may,e2⟩
 rw [e] at hy; cases hy
theorem Gu (h0:NdOK n) (hm:db n.c x=true) (hk:x.kind=3) (he:n.aN (aB n.c.st x).1=0) (hy:(aB n.c.st x).2.1=true) :
  (0<=(n.save (aB n.c.st x).1).c.applied/\max (n.save (aB n.c.st x).1).c.commit (min x.c (aB n.c.st x).2.2.1)<=((n.save (aB n.c.st x).1).c.st.log.length:Int))/\((n.save (aB n.c.st x).1).rp.length:Int)<=(n.save (aB n.c.st x).1).c.applied/\(n.save (aB n.c.st x).1).c.st.log.length<=10000:=by
 obtain ⟨e,e1,e2,e3,e4,e5,_⟩:=rW h0 hm hk hy;have h1:(n.save (aB n.c.st x).1).c.st=(stepsF n.c.st (aB n.c.st x).1).1:=(wG he).1;have h2:=ni (l:=(aB n.c.st x).1) h0.log h0.term;rw [<- h1] at h2;have h3:(n.save (aB n.c.st x).1).c.st.log=dI n.c.st x:=by
  rw [h1,e];dsimp only;rw [e2]
 have h4:=h0.com;have h5:=h0.rp;have h6:(aB n.c.st x).2.2.1=x.a+x.l.length:=by rw [e]
 refine ⟨⟨h4.1,?_⟩,?_,by omega⟩
 ·show max n.c.commit (min x.c (aB n.c.st x).2.2.1)<=_;rw [h3,h6]; omega
 show ((n.rp.length:Nat):Int)<=n.c.applied;omega
theorem StepR.commit {n n':Nd} {L L':List Record} {c:Int} (h:StepR n L n' [] L') (hu:n'.d.down=false) (hc:n'.c.commit<=c) (hl:c<=(n'.c.st.log.length:Int)):StepR n L ({ n' with c:={ n'.c with commit:=c } }:Nd).apply [] L' /\
  (({ n' with c:={ n'.c with commit:=c } }:Nd).apply.d=n'.d/\({ n' with c:={ n'.c with commit:=c } }:Nd).apply.c.me=n'.c.me/\({ n' with c:={ n'.c with commit:=c } }:Nd).apply.c.many=n'.c.many/\({ n' with c:={ n'.c with commit:=c } }:Nd).apply.c.st=n'.c.st/\({ n' with c:={ n'.c with commit:=c } }:Nd).apply.c.bin=n'.c.bin/\({ n' with c:={ n'.c with commit:=c } }:Nd).apply.c.role=n'.c.role):=by
 have hi:=h.inv.up hu;have hk:=h.inv.ok;have hn:NInv ({ n' with c:={ n'.c with commit:=c } }:Nd) L':=⟨⟨hk.d,hk.many,hk.me,hk.log,hk.term,⟨hk.com.1,agu hk.com.2.1 hc,hl⟩,hk.len,hk.rp⟩,h.inv.d,h.inv.le,fun _=>⟨hi.st,hi.bin,hi.role,hi.vote,hi.nx,hi.pl⟩⟩;obtain ⟨k1,k2,k3,k4,k5,k6,k7⟩:=BQ (k:=(c - n'.c.applied).toNat) hn hu;have e0:({ n' with c:={ n'.c with commit:=c } }:Nd).apply=({ n' with c:={ n'.c with commit:=c } }:Nd).dg (c - n'.c.applied).toNat:=rfl;rw [e0];generalize ({ n' with c:={ n'.c with commit:=c } }:Nd).dg (c - n'.c.applied).toNat=q at *;have e1:q.c.me=n'.c.me/\q.c.many=n'.c.many/\q.c.st=n'.c.st/\q.c.bin=n'.c.bin/\q.c.role=n'.c.role/\q.c.commit=c:=by rw [k3]; exact ⟨rfl,rfl,rfl,rfl,rfl,rfl⟩
 obtain ⟨e1,e2,e3,e4,e5,e6⟩:=e1;refine ⟨⟨k1,h.pre,by rw [e1,e2]; exact h.me,by rw [k2]; exact h.len,fun _ hx=>(by cases hx),fun h1 h2=>?_⟩,k2,e1,e2,e3,e4,e5⟩;obtain ⟨m1,m2,m3⟩:=h.mono h1 hu;rw [e3,e4,e6];exact ⟨agu m1 hc,m2,m3⟩
theorem Bq (h:NInv n L) (hu:n.d.down=false) (hm:db n.c x=true) (hk:x.kind=3):∃ L',StepR n L (bO n x).n (bO n x).l L':=by
 obtain ⟨h1,h2⟩:=xT hm;obtain ⟨h3,h4⟩:=h2 hk;have hb:=fI h1.may;have hne:=pt h1.may;have hi:=h.up hu;have hto:x.frm≠n.c.me/\0<=x.frm/\x.frm<n.c.many:=⟨by have:=h1.to; omega,by omega,h1.frm⟩;have hlen:(aB n.c.st x).1.length<=6:=by
  rcases (f_ h3).2 with ⟨_,e⟩ | ⟨_,_,e⟩ | ⟨_,_,e⟩ <;> rw [e]
  ·simp
  ·exact uE h1.may
  have:=fV (s:=n.c.st) (t:=x.term); dsimp only; omega
 have h3k:∀ r ∈ (aB n.c.st x).1,r.kind=3->1<=r.b:=by
  rcases (f_ h3).2 with ⟨_,e⟩ | ⟨_,_,e⟩ | ⟨_,_,e⟩ <;> rw [e]
  ·intro r hr; cases hr
  ·exact Sq h1.may
  exact kM
 unfold bO;rw [if_neg (by omega)];split
 ·rename_i hs;exact kI h hu hlen h3k hs
 rename_i hs;have hs:=acs.1 hs;have y:=oB h hu hlen h3k hs;generalize hl:(aB n.c.st x).1=l at *;have hst:((n.save l).c.st.floor=n.c.st.floor)/\(n.save l).c.st.term=max n.c.st.term x.term/\(n.save l).c.st.vote=(if n.c.st.term<x.term then 0 else n.c.st.vote)/\(n.save l).c.st.log.take n.c.commit.toNat=n.c.st.log.take n.c.commit.toNat/\n.c.commit<=((n.save l).c.st.log.length:Int)/\((aB n.c.st x).2.1=true->n.c.st.term<=x.term/\(aB n.c.st x).2.2.1<=((n.save l).c.st.log.length:Int))/\((aB n.c.st x).2.1=false->(n.save l).c.st.log=n.c.st.log):=by
  have es:=y.st;rw [<- hl] at es ⊢;rcases (f_ h3).2 with ⟨e1,e⟩ | ⟨e0,_,e⟩ | ⟨_,_,e⟩
  ·rw [e] at es ⊢;rw [es];exact ⟨rfl,by show n.c.st.term=_; omega,by rw [if_neg (by omega)]; rfl,rfl,h.ok.com.2.2,fun q=>(by cases q),fun _=>rfl⟩
  ·have hy:(aB n.c.st x).2.1=true:=by rw [e]
   obtain ⟨_,e1,e2,e3,e4,e5,_⟩:=rW h.ok hm hk hy;rw [e] at es ⊢;dsimp only at es ⊢;rw [es,e2];exact ⟨rfl,by dsimp only; omega,rfl,e3,e4,fun _=>⟨e1,e5⟩,fun q=>(by cases q)⟩
  have e2:=(ow (s:=n.c.st) (t:=x.term) (by omega) (by omega)).1;rw [e] at es ⊢;dsimp only at es ⊢;rw [es,e2];exact ⟨rfl,rfl,rfl,rfl,h.ok.com.2.2,fun q=>(by cases q),fun _=>rfl⟩
 obtain ⟨s1,s2,s3,s4,s5,s6,s7⟩:=hst;dsimp only;have hlt:∀ {m:Nd} {z:Letter},m.d=(n.save l).d->m.c.me=n.c.me->m.c.many=n.c.many->m.c.st=(n.save l).c.st->m.c.bin=n.c.bin->z.kind=4->z.frm=n.c.me->z.to=x.frm->z.term=(n.save l).c.st.term->z.bin=n.c.bin->LetI m z:=fun {m z} e1 e2 e3 e4 e5 k1 k2 k3 k4 k5=>
  ⟨by rw [e1]; exact y.dn,by rw [e2,k2],by rw [e2,e3,k3]; exact hto,by rw [e4,k4],by rw [e5,k5],fun e=>absurd (k1.symm.trans e) (by decide),fun e=>absurd (k1.symm.trans e) (by decide),fun e=>absurd (k1.symm.trans e) (by decide)⟩
 by_cases ht:x.term=(n.save l).c.st.term
 ·rw [if_pos ht];have hf:StepR n L (n.save l).follow [] (L++l):=(lW h.follow hu ⟨y.d,y.dn,y.st,y.sts,y.le,y.len,y.ok,y.lt,fun e=>congrArg Nd.follow (y.no e)⟩ (fun hr0=>absurd rfl hr0) s1 s4 s5 (fun hr0=>absurd (show (0:Int)=2 from hr0) (by decide))).lM;by_cases hy:(aB n.c.st x).2.1=true
  ·rw [if_pos hy];have h6:=(s6 hy).2;obtain ⟨k1,k2⟩:=hf.commit y.dn (c:=max n.c.commit (min x.c (aB n.c.st x).2.2.1)) (by show n.c.commit<=_; omega) (by show _<=((n.save l).c.st.log.length:Int); omega);obtain ⟨e1,e2,e3,e4,e5,e6⟩:=k2;refine ⟨L++l,k1.tell fun z hz=>?_⟩;rw [aa6.1 hz];exact hlt e1 e2 e3 e4 e5 rfl rfl rfl rfl rfl
  rw [if_neg hy];refine ⟨L++l,hf.tell fun z hz=>?_⟩;rw [aa6.1 hz];exact hlt rfl rfl rfl rfl rfl rfl rfl rfl rfl rfl
 rw [if_neg ht];have h0:x.term<n.c.st.term:=by omega
 have e:aB n.c.st x=([],false,0,0):=by
  rcases (f_ h3).2 with ⟨_,e⟩ | ⟨_,_,_⟩ | ⟨_,_,_⟩
  ·exact e
  ·omega
  omega
 have el:l=[]:=by rw [<- hl,e]
 rw [e];dsimp only;rw [if_neg (by decide)];have r:StepR n L (n.save l) [] L:=by rw [y.no el]; exact StepR.refl h
 refine ⟨L,r.tell fun z hz=>?_⟩;rw [aa6.1 hz];exact hlt rfl rfl rfl rfl rfl rfl rfl rfl rfl rfl
theorem zn:∀ {n:Nat} {s:Stable} {b:List UInt8},s.log.length<=64->0<=s.term/\s.term<=1048576->((playB n s b).1.log.length<=64/\0<=(playB n s b).1.term/\(playB n s b).1.term<=1048576)/\0<=(playB n s b).2/\(playB n s b).2<=(b.length:Int)
 | 0,_,_,h,k=>⟨⟨h,k⟩,aev _,Int.natCast_nonneg _⟩
 | n+1,s,b,h,k=>by
  unfold playB;split
  ·exact ⟨⟨h,k⟩,aev _,Int.natCast_nonneg _⟩
  rename_i h1;split
  ·exact ⟨⟨h,k⟩,aev _,Int.natCast_nonneg _⟩
  split
  ·exact ⟨⟨h,k⟩,aev _,Int.natCast_nonneg _⟩
  rename_i h3;have hs:=il (acs.1 h1);obtain ⟨hr,hb⟩:=lS (acs.1 h3);obtain ⟨k1,k2⟩:=qa hr hb h k;obtain ⟨k3,k4,k5⟩:=zn (n:=n) (b:=b.drop (bh b).2.1.toNat) k1 k2;rw [List.length_drop] at k5;refine ⟨k3,?_,?_⟩ <;> dsimp only <;> omega
theorem mR (b:List UInt8):((replayF b).1.log.length<=64/\0<=(replayF b).1.term/\(replayF b).1.term<=1048576)/\0<=(replayF b).2/\(replayF b).2<=(b.length:Int):=
 zn (by simp) ⟨by decide,by decide⟩
theorem Wf (h:d.OK):d.up.OK:=h
theorem aaV (h:d.OK) (h1:d.down=false) (h2:0<=k) (h3:k<=(d.b.length:Int)):(d.cut k).OK/\d.kv k=0/\d.cut k=⟨d.b.take k.toNat,k,false,d.doomed,d.keep⟩:=by
 have hn:¬ (d.down=true\/k<0\/(d.b.length:Int)<k):=by rw [h1]; rintro (h | h | h) <;> first | cases h | omega
 have e:d.cut k=⟨d.b.take k.toNat,k,false,d.doomed,d.keep⟩:=by rw [Dsk.cut,if_neg hn,h1]
 refine ⟨?_,?_,e⟩
 ·rw [e];refine ⟨h2,?_,?_⟩ <;> dsimp only <;> rw [List.length_take]
  ·omega
  have:=h.2.2; omega
 rw [Dsk.kv,if_neg (by rw [h1]; decide),if_neg (by omega)]
theorem tO (h:d.OK):(d.cD k).OK:=by
 obtain ⟨h1,h2,h3⟩:=h;refine ⟨?_,?_,?_⟩ <;> simp only [Dsk.cD,Dsk.at_]
 ·omega
 ·rw [List.length_take]; omega
 rw [List.length_take]; omega
theorem Qy (h:d.OK):d.sync.OK:=by
 unfold Dsk.sync;split
 ·exact h
 split
 ·exact tO h
 exact ⟨Int.natCast_nonneg _,aev _,h.2.2⟩
theorem abG {x:List UInt8} (h:d.OK):(d.app x).OK:=by
 obtain ⟨h1,h2,h3⟩:=h;unfold Dsk.app;split
 ·exact ⟨h1,h2,h3⟩
 refine ⟨h1,?_,?_⟩ <;> dsimp only <;> rw [List.length_append] <;> omega
theorem qA {s:Stable} (h:d.OK):(saveF d s l).1.OK:=by
 unfold saveF;repeat' split
 all_goals first | exact h | exact Qy (abG h)
abbrev Nd.fr (n:Nd) (b:Int):Nd:=⟨⟨n.c.me,n.c.many,b,(replayF n.d.b).1,0,0,0,State.mk 1 1 0 0 [] [] []⟩,(if n.d.down=true then n.d.up else n.d).cut (replayF n.d.b).2,[],[],[],[],[]⟩
section
variable {n:Nd} {b:Int}
theorem ad8 (h:n.d.down=false):aV n b=⟨n,[],31⟩:=if_pos h
variable (h:n.d.down=true)
include h
theorem Kj:n.fresh b=n.fr b:=by
 rw [Nd.fresh,Nd.fr,if_pos h]
theorem abk (h1:¬ bZ b (max (replayF n.d.b).1.floor 1)=0):aV n b=⟨n,[],bZ b (max (replayF n.d.b).1.floor 1)⟩:=by rw [aV,if_neg (by rw [h]; decide),if_pos h1]
theorem xr (h0:n.d.OK):((if n.d.down=true then n.d.up else n.d).cut (replayF n.d.b).2).OK/\(if n.d.down=true then n.d.up else n.d).kv (replayF n.d.b).2=0/\(if n.d.down=true then n.d.up else n.d).cut (replayF n.d.b).2=⟨n.d.b.take (replayF n.d.b).2.toNat,(replayF n.d.b).2,false,false,0⟩:=by
 rw [if_pos h];have:=mR n.d.b;exact aaV (d:=n.d.up) (Wf h0) rfl this.2.1 this.2.2
variable (h1:bZ b (max (replayF n.d.b).1.floor 1)=0)
include h1
theorem WT (h2:(replayF n.d.b).1.floor<b) (h3:(n.fr b).aN [⟨1,b,0,[]⟩]=0):aV n b=⟨(n.fr b).save [⟨1,b,0,[]⟩],[],0⟩:=by
 rw [aV,if_neg (by rw [h]; decide),if_neg (by omega),Kj h];dsimp only;rw [if_pos h2];exact if_pos h3
theorem aaD (h2:(replayF n.d.b).1.floor<b) (h3:¬ (n.fr b).aN [⟨1,b,0,[]⟩]=0):aV n b=⟨{ (n.fr b).save [⟨1,b,0,[]⟩] with d:=((n.fr b).save [⟨1,b,0,[]⟩]).d.cD 0 },[],(n.fr b).aN [⟨1,b,0,[]⟩]⟩:=by
 rw [aV,if_neg (by rw [h]; decide),if_neg (by omega),Kj h];dsimp only;rw [if_pos h2];exact if_neg h3
theorem aat (h2:b<=(replayF n.d.b).1.floor):aV n b=⟨n.fr b,[],0⟩:=by
 rw [aV,if_neg (by rw [h]; decide),if_neg (by omega),Kj h];dsimp only;rw [if_neg (by omega)]
theorem agU:(aV n b).n.rp=[]/\(aV n b).n.vs=[]/\(aV n b).n.bn=[]/\(aV n b).n.nx=[]/\(aV n b).n.mt=[]:=by
 by_cases h2:(replayF n.d.b).1.floor<b
 ·by_cases h3:(n.fr b).aN [⟨1,b,0,[]⟩]=0
  ·rw [WT h h1 h2 h3]; exact ⟨rfl,rfl,rfl,rfl,rfl⟩
  rw [aaD h h1 h2 h3]; exact ⟨rfl,rfl,rfl,rfl,rfl⟩
 rw [aat h h1 (by omega)]; exact ⟨rfl,rfl,rfl,rfl,rfl⟩
end
end Go.Proofs.YticbaadnibdbkaaGreat
namespace Go.Proofs.YticbaadnibdbkaaGreat
open Go.Shelf Go.Proofs
def ux:Go.Shelf.Ren:=⟨fun | 125=>283 | 128=>326 | 129=>327 | n=>n,fun | 46=>192 | 3=>3 | 51=>193 | 53=>173 | 4=>4 | 5=>5 | 9=>9 | n=>n,fun | n=>n⟩
theorem HA:Lays.n125 Tryz.prog ux:={
 mixed:=bE
 f125:=Tryz.func283.trans (congrArg some bE)
 f128:=Tryz.func326.trans (congrArg some bE)
 f129:=Tryz.func327.trans (congrArg some bE)
 t3:=Tryz.underlying3
 a3:=Tryz.isAgg3
 z3:=Tryz.sizeOf3
 v3:=Tryz.zeroValue3
 t4:=Tryz.underlying4
 a4:=Tryz.isAgg4
 z4:=Tryz.sizeOf4
 v4:=Tryz.zeroValue4
 t5:=Tryz.underlying5
 a5:=Tryz.isAgg5
 z5:=Tryz.sizeOf5
 v5:=Tryz.zeroValue5
 t9:=Tryz.underlying9
 a9:=Tryz.isAgg9
 z9:=Tryz.sizeOf9
 v9:=Tryz.zeroValue9
 t46:=Tryz.underlying192
 a46:=Tryz.isAgg192
 z46:=Tryz.sizeOf192
 v46:=Tryz.zeroValue192
 t51:=Tryz.underlying193
 a51:=Tryz.isAgg193
 z51:=Tryz.sizeOf193
 v51:=Tryz.zeroValue193
 t53:=Tryz.underlying173
 a53:=Tryz.isAgg173
 z53:=Tryz.sizeOf173
 v53:=Tryz.zeroValue173 }
def iA:Go.Shelf.Ren:=⟨fun | 6=>265 | 15=>283 | 14=>282 | 28=>326 | 29=>327 | 20=>318 | 21=>319 | 22=>320 | 23=>321 | 24=>322 | 25=>323 | 26=>324 | 27=>325 | 46=>350 | 47=>351 | 48=>352 | 49=>353 | 50=>354 | 57=>364 | n=>n,fun | 22=>33 | 24=>3 | 25=>217 | 3=>3 | 39=>192 | 0=>0 | 53=>193 | 55=>173 | 4=>4 | 46=>318 | 45=>317 | 50=>322 | 5=>5 | 9=>9 | 66=>340 | 70=>344 | 76=>353 | 77=>112 | n=>n,fun | n=>n⟩
theorem ri:Go.Proofs.SlLaysF.n6 Tryz.prog iA:={
 mixed:=bE
 f6:=⟨Tryz.f265.name,by decide,Tryz.func265.trans (congrArg some bE)⟩
 f14:=⟨Tryz.f282.name,by decide,Tryz.func282.trans (congrArg some bE)⟩
 f15:=Tryz.func283.trans (congrArg some bE)
 f20:=⟨Tryz.f318.name,by decide,Tryz.func318.trans (congrArg some bE)⟩
 f21:=⟨Tryz.f319.name,by decide,Tryz.func319.trans (congrArg some bE)⟩
 f22:=⟨Tryz.f320.name,by decide,Tryz.func320.trans (congrArg some bE)⟩
 f23:=⟨Tryz.f321.name,by decide,Tryz.func321.trans (congrArg some bE)⟩
 f24:=⟨Tryz.f322.name,by decide,Tryz.func322.trans (congrArg some bE)⟩
 f25:=⟨Tryz.f323.name,by decide,Tryz.func323.trans (congrArg some bE)⟩
 f26:=⟨Tryz.f324.name,by decide,Tryz.func324.trans (congrArg some bE)⟩
 f27:=⟨Tryz.f325.name,by decide,Tryz.func325.trans (congrArg some bE)⟩
 f28:=Tryz.func326.trans (congrArg some bE)
 f29:=Tryz.func327.trans (congrArg some bE)
 f46:=⟨Tryz.f350.name,by decide,Tryz.func350.trans (congrArg some bE)⟩
 f47:=Tryz.func351.trans (congrArg some bE)
 f48:=Tryz.func352.trans (congrArg some bE)
 f49:=⟨Tryz.f353.name,by decide,Tryz.func353.trans (congrArg some bE)⟩
 f50:=⟨Tryz.f354.name,by decide,Tryz.func354.trans (congrArg some bE)⟩
 f57:=⟨Tryz.f364.name,by decide,Tryz.func364.trans (congrArg some bE)⟩
 t0:=Tryz.underlying0
 a0:=Tryz.isAgg0
 z0:=Tryz.sizeOf0
 v0:=Tryz.zeroValue0
 t3:=Tryz.underlying3
 a3:=Tryz.isAgg3
 z3:=Tryz.sizeOf3
 v3:=Tryz.zeroValue3
 t4:=Tryz.underlying4
 a4:=Tryz.isAgg4
 z4:=Tryz.sizeOf4
 v4:=Tryz.zeroValue4
 t5:=Tryz.underlying5
 a5:=Tryz.isAgg5
 z5:=Tryz.sizeOf5
 v5:=Tryz.zeroValue5
 t9:=Tryz.underlying9
 a9:=Tryz.isAgg9
 z9:=Tryz.sizeOf9
 v9:=Tryz.zeroValue9
 t22:=Tryz.underlying33
 a22:=Tryz.isAgg33
 z22:=Tryz.sizeOf33
 v22:=Tryz.zeroValue33
 a24:=Tryz.isAgg3
 z24:=Tryz.sizeOf3
 t25:=Tryz.underlying217
 a25:=Tryz.isAgg217
 z25:=Tryz.sizeOf217
 v25:=Tryz.zeroValue217
 t39:=Tryz.underlying192
 a39:=Tryz.isAgg192
 z39:=Tryz.sizeOf192
 v39:=Tryz.zeroValue192
 t45:=Tryz.underlying317
 a45:=Tryz.isAgg317
 z45:=Tryz.sizeOf317
 v45:=Tryz.zeroValue317
 t46:=Tryz.underlying318
 a46:=Tryz.isAgg318
 z46:=Tryz.sizeOf318
 v46:=Tryz.zeroValue318
 t50:=Tryz.underlying322
 a50:=Tryz.isAgg322
 z50:=Tryz.sizeOf322
 v50:=Tryz.zeroValue322
 t53:=Tryz.underlying193
 a53:=Tryz.isAgg193
 z53:=Tryz.sizeOf193
 v53:=Tryz.zeroValue193
 t55:=Tryz.underlying173
 a55:=Tryz.isAgg173
 z55:=Tryz.sizeOf173
 v55:=Tryz.zeroValue173
 t66:=Tryz.underlying340
 a66:=Tryz.isAgg340
 z66:=Tryz.sizeOf340
 v66:=Tryz.zeroValue340
 t70:=Tryz.underlying344
 a70:=Tryz.isAgg344
 z70:=Tryz.sizeOf344
 v70:=Tryz.zeroValue344
 t76:=Tryz.underlying353
 a76:=Tryz.isAgg353
 z76:=Tryz.sizeOf353
 v76:=Tryz.zeroValue353
 t77:=Tryz.underlying112
 a77:=Tryz.isAgg112
 z77:=Tryz.sizeOf112
 v77:=Tryz.zeroValue112 }
end Go.Proofs.YticbaadnibdbkaaGreat
namespace Go.Proofs.YticbaadnibdbkaaGreat
open Go.RowKit Go.Proofs Go.Shelf Go.Sort
def mj (a b:Int):Int:=if b<a then -1 else if a<b then 1 else 0
theorem nF (a b:Int):ltOf mj a b=decide (b<a):=by
 unfold ltOf mj;split
 ·rename_i h; simp [h]
 rename_i h; split <;> simp [h]
theorem AS:SWO (ltOf mj):=⟨fun x=>by rw [nF]; simp,fun x y z h1 h2=>by rw [nF] at *; simp at *; omega,fun x y z h1 h2=>by rw [nF] at *; simp at *; omega⟩
def oA (l:List Int):List Int:=l.mergeSort (fun a b=>decide (b<=a))
theorem pw (l:List Int):(oA l).length=l.length:=(List.mergeSort_perm l _).length_eq
theorem Al {d d':Array Int} (h:PermIn 0 d.size d d') (h2:SortedIn (ltOf mj) 0 d.size d'):d'.toList=oA d.toList:=by
 rw [sorted_unique_holds AS (fun x y h1 h2=>by rw [nF] at *; simp at *; omega) d d' h h2,oA];congr 1;funext x y;rw [nF];by_cases h:y<=x
 ·simp [h]
 simp [h]; omega
theorem Ou (x y:Int) (W:World):Calls Tryz.prog 266 #[.int .i64 x,.int .i64 y] W fun e w'=>e = .returned (.int .i64 (mj x y))/\∃ q,w' = W.drewN q:=by
 go_enter Tryz.func266,Tryz.ntmps266
 by_cases h1:y<x
 ·have h2:¬ x<y:=by omega
  go_wp2
  go_ret
  exact ⟨by simp [mj,h1],0,rfl⟩
 by_cases h2:x<y
 ·go_wp2
  go_ret
  exact ⟨by simp [mj,h1,h2],0,rfl⟩
 go_wp2
 go_ret
 refine ⟨?_,0,rfl⟩;rw [show mj x y=0 from by unfold mj; rw [if_neg (by omega),if_neg (by omega)]]; rfl
theorem mM {c:Cx}:∀ {l:List Int} {cells:List Value},Pds c (l.flatMap (cellsOf .int)) cells->cells=l.map (Value.int .i64)/\∀ n ∈ l,I64 n
 | [],_,h=>by cases h; exact ⟨rfl,by simp⟩
 | x :: l,_,h=>by
  have h':Pds c (.int x :: l.flatMap (cellsOf .int)) _:=h;cases h' with | cons h1 h2=>?_
  cases h1 with | int hi=>?_
  obtain ⟨e,k⟩:=mM h2;exact ⟨by rw [e]; rfl,by simpa using ⟨hi,k⟩⟩
variable {sp:List Value}
theorem Kr {l l':List Int} (h:l'.length=l.length):putCells (Value.int .i64) 0 l'.toArray (List.toArray (l.map (Value.int .i64)++sp))=List.toArray (l'.map (Value.int .i64)++sp):=by
 apply Array.ext_getElem?;intro k;unfold putCells;rw [Array.getElem?_mapIdx];simp only [List.getElem?_toArray,List.size_toArray,Nat.zero_add,Nat.sub_zero,Nat.zero_le,true_and];by_cases hk:k<l'.length
 ·rw [List.getElem?_append_left (by rw [List.length_map]; omega),List.getElem?_append_left (by rw [List.length_map]; omega),List.getElem?_map,List.getElem?_map,List.getElem?_eq_getElem hk,List.getElem?_eq_getElem (by omega)];simp [hk]
 rw [List.getElem?_append_right (by rw [List.length_map]; omega),List.getElem?_append_right (by rw [List.length_map]; omega),List.length_map,List.length_map,h];rw [h] at hk;cases sp[k - l.length]? <;> simp [h,hk]
theorem Ln {w:World} {xs:List Int} {g cap:Nat} (h0:xs.length<=12) (h6:w.heap[g]? = some (.cells (List.toArray (xs.map (Value.int .i64)++sp)) 3 (0,0))) :
  Calls Tryz.prog 265 #[.slice (some ⟨g,0,none⟩) xs.length cap,.func (.func 266) #[] #[]] w fun e w'=>e = .returned (.tuple #[])/\Kp [g] w w' /\ w'.heap[g]? = some (.cells (List.toArray ((oA xs).map (Value.int .i64)++sp)) 3 (0,0)):=by
 have eg:∀ args w,(callFunc 266 args).run Tryz.prog w = .ok (.enter 266 args) w:=enters_of Tryz.func266 bE rfl;have hlen:∀ (n:Nat) (W:World),n<=12->Calls Tryz.prog (iA.f 15) #[.int .u64 n] W fun e w'=>(∃ l:Int,e = .returned (.int .i64 l))/\w' = W:=fun n W hn=>
  (Any.bits_Len HA n W (by omega) (by omega)).mono fun _ _ ⟨he,hw⟩=>⟨⟨_,he⟩,hw⟩
 have hH0:Holds (Value.int .i64) w g 0 xs.toArray:=fun j hj=>by
  rw [Nat.zero_add,Lib.frozen_of_heap h6,Lib.cell_of_heap h6];rw [List.size_toArray] at hj;refine ⟨?_,rfl⟩;rw [List.getElem?_toArray,List.getElem?_append_left (by simpa using hj),List.getElem?_map,List.getElem?_eq_getElem hj];simp [hj]
 have hs:=Any.slices_SortFunc_small_sorted ri (Value.int .i64) (fun _=>rfl) mj AS 266 #[] g 0 cap xs.toArray w eg (fun _ _ _ _ x y=>Ou x y _) hH0 (by simpa using h0) hlen;refine hs.mono fun e w' ⟨he,d',n,hp,hd,hw⟩=>?_;have hd':=Al hp hd;have hle:d'.toList.length=xs.length:=by rw [hd']; exact pw _
 refine ⟨he,?_,?_⟩
 ·rw [hw];refine ⟨rfl,rfl,rfl,?_,fun b _ hn=>?_⟩
  ·show w.heap.size<=(w.heap.modify g _).size;rw [Array.size_modify]; omega
  show (w.heap.modify g (onCells (putCells (Value.int .i64) 0 d')))[b]? = _;rw [Array.getElem?_modify,if_neg (by simpa using fun h=>hn (by simp [h]))]
 rw [hw];show (w.heap.modify g (onCells (putCells (Value.int .i64) 0 d')))[g]? = _;rw [Array.getElem?_modify,if_pos rfl,h6];simp only [Option.map_some,onCells];have e2:d' = d'.toList.toArray:=rfl;rw [e2,Kr hle,hd']
end Go.Proofs.YticbaadnibdbkaaGreat
namespace Go.Proofs.YticbaadnibdbkaaGreat
open Go.RowKit
noncomputable abbrev c16:Code:=VY Tryz.f171
noncomputable abbrev c60:Code:=VY Tryz.f258
noncomputable abbrev pR0:Code:=pz c16
noncomputable abbrev pR1:Code:=pz (gb c16)
noncomputable abbrev pR2:Code:=pz (gb (gb c16))
noncomputable abbrev pR3:Code:=pz (pz (gb (gb (gb c16))))
noncomputable abbrev pRf:Code:=cdB (gb (pz (gb (gb (gb c16)))))
noncomputable abbrev Rr:Code:=gb (gb (gb (gb c16)))
noncomputable abbrev Kf:Code:=aeY pRf
noncomputable abbrev MM:Code:=afW pRf
noncomputable abbrev iR0:Code:=pz c60
noncomputable abbrev iB:Code:=cdB (cdB (gb c60))
noncomputable abbrev iR1:Code:=pz iB
noncomputable abbrev iCo:Code:=pz (gb iB)
noncomputable abbrev iBl:Code:=cdB (pz (gb (gb iB)))
noncomputable abbrev iR2:Code:=pz iBl
noncomputable abbrev iR3:Code:=pz (gb iBl)
noncomputable abbrev E_:Code:=pz (gb (gb iBl))
noncomputable abbrev Xn:Code:=gb (gb (gb iBl))
noncomputable abbrev iR5:Code:=gb (gb (gb iB))
def hK (s:State) (r:List Reply) (l:List Entry) (v:Int):AH:=[.box 46 ([.int ((s.version)),.int ((s.next)),.int ((s.keep)),.int ((s.quota)),.own 7,.own 8,.own 9]),.box 46 ([.int ((0)),.int ((0)),.int ((0)),.int ((0)),.em true,.em true,.em true]),.box 72 ([.em true]),.box 26 ([.int ((0))]),.box 72 ([.own 10]),.box 38 ([.fz (.nm .entry) ((l))]),.box 3 ([.int ((v))]),.row 137 (.nm .sess) ((s.sess)),.row 139 (.nm .opn) ((s.opens)),.row 172 (.nm .snap) ((s.snaps)),.row 78 (.nm .reply) ((r))]
def hE (s:State) (r:List Reply):AH:=[.row 137 (.nm .sess) ((s.sess)),.row 139 (.nm .opn) ((s.opens)),.row 172 (.nm .snap) ((s.snaps)),.row 78 (.nm .reply) ((r))]
def rE (s:State) (e:Int):List TV1:=[.agg [.int s.version,.int s.next,.int s.keep,.int s.quota,.own 0,.own 1,.own 2],.c (.own 3),.c (.int e)]
def frP:AFr:=[(3,one (.ptr 0 0)),(6,one (.ptr 1 0)),(7,one (.ptr 2 0)),(8,one (.ptr 3 0)),(9,one (.ptr 4 0)),(16,one (.fn 258 [] [(5,0),(6,0)]))]
def Iu (L:Nat):Option TV->Prop
 | some (.one (.c (.yl a)))=>a=L
 | _=>False
def VV (l:List Entry) (k:Nat):AFr:=[(1,one (.ptr 5 0)),(2,one (.ptr 6 0)),(9,one (.fz (.nm .entry) l)),(10,one (.int l.length)),(11,one (.int k))]
def OM (c:Command) (b:Bool) (e:Int):TV1:=.agg (cellsOf (.nm .command) ((c))++[.bool (.atom ((b))),.int ((e))])
def frY (l:List Entry) (k:Nat) (c:Command) (b:Bool) (e:Int):AFr:=(26,.one (OM c b e)) :: VV l k
def hT (c:Command) (b:Bool) (e:Int):AO:=.box 265 (cellsOf (.nm .command) ((c))++[.bool (.atom ((b))),.int ((e))])
def koN (k0:Nat) (q:AFr × AH):Exit->AFr->AH->Prop
 | .normal,fr,K=>ja (AE tyT k0 fr K q)
 | _,_,_=>False
def koY (L:Nat) (q:AFr × AH):Exit->AFr->AH->Prop
 | .normal,fr,K=>Iu L (lookA fr 0)/\ja (AE tyT 11 fr K q)
 | _,_,_=>False
noncomputable def aeS (L:Nat) (s:State) (r:List Reply) (l:List Entry) (v:Int) (k:Nat) (fr:AFr) (K:AH):Prop:=
 ∃ x,l[k]? = some x/\Iu L (lookA fr 0)/\Iu L (lookA fr 22)/\ja (AE tyT 11 fr K (frY l k (ba x v).c (ba x v).some (ba x v).e,hK s r l v))
noncomputable def ahZ (L:Nat) (s:State) (r:List Reply) (l:List Entry) (v:Int) (k:Nat):Exit->AFr->AH->Prop
 | .normal,fr,K=>wpOps tyT fi (gG 0) (kj E_) (aeS L s r l v k) 6 ((kj E_).take 5) fr K
 | _,_,_=>False
noncomputable def ahh (L:Nat) (s:State) (r:List Reply) (l:List Entry) (v:Int) (k:Nat):Exit->AFr->AH->Prop
 | .exit j,fr,K=>j=0/\l.length<=k/\Iu L (lookA fr 0)/\ja (AE tyT 11 fr K (VV l k,hK s r l v))
 | .normal,fr,K=>iR tyT fi (gG 0) 11 [] (.seq iR2 iR3) (ahZ L s r l v k) fr K
 | _,_,_=>False
noncomputable def ac6 (L:Nat) (s:State) (r:List Reply) (l:List Entry) (v:Int) (k:Nat):Exit->AFr->AH->Prop
 | .normal,fr,K=>iR tyT fi (gG 0) 11 [] iCo (ahh L s r l v k) fr K
 | _,_,_=>False
noncomputable def koD (L:Nat) (s:State) (r:List Reply) (l:List Entry) (v:Int) (k:Nat) (fr:AFr) (K:AH):Prop:=iR tyT fi (gG 0) 11 [] (.seq Xn iR5) (koY L (VV l (k+1),hK s r l v)) fr K
noncomputable def koH (s:State) (r:List Reply) (l:List Entry) (v:Int) (x:Entry):Exit->AFr->AH->Prop
 | .normal,_,K=>(ba x v).e=0/\ja (aaR tyT (hK s r l v) 11 (hK (iw v s x) (r++[mF v s x]) l v) K)
 | .ret,_,K=>¬ (ba x v).e=0/\endE tyT [] 0 Tryz.f171 (rE s (ba x v).e) (hE s r) frP K
 | _,_,_=>False
def koI (s:State) (r:List Reply):Exit->AFr->AH->Prop
 | .ret,fr,K=>endE tyT [] 0 Tryz.f171 (rE s 0) (hE s r) fr K
 | _,_,_=>False
theorem ah8 (s:State) (l:List Entry) (v:Int):kV (Gs [.agg (cellsOf (.nm .state) s),.c (.fz (.nm .entry) l),.c (.int v)]) (iR tyT fi (gG 0) 0 [] (.seq pR0 (.seq pR1 (.seq pR2 pR3))) (koN 0 (frP,hK s [] l v)) (pJ 0 [.agg (cellsOf (.nm .state) s),.c (.fz (.nm .entry) l),.c (.int v)]) [])=((fun q0=>fE s (l.length*32<=140737488355328->I64 v->I64 s.version->I64 s.next->I64 s.keep->I64 s.quota->s.version=s.version/\s.next=s.next/\s.keep=s.keep/\s.quota=s.quota/\q0/\q0/\q0/\q0/\q0/\l=l/\v=v/\s.sess=s.sess/\s.opens=s.opens/\s.snaps=s.snaps /\ @Eq (List (den (Sh.nm NT.reply))) [] [])) ((0:Int)=0)):=bE
theorem aeU (L:Nat) (s:State) (r:List Reply) (l:List Entry) (v:Int):iR tyT fi (gG 0) 11 [] iR0 (koY L (VV l 0,hK s r l v)) [(0,one (.yl L)),(1,one (.ptr 5 0)),(2,one (.ptr 6 0))] (hK s r l v)=((fun q0=>L=L/\l=l/\(↑l.length:Int)=(↑l.length:Int)/\(0:Int)=(↑(0:Nat):Int)/\s.version=s.version/\s.next=s.next/\s.keep=s.keep/\s.quota=s.quota/\q0/\q0/\q0/\q0/\q0/\l=l/\v=v/\s.sess=s.sess/\s.opens=s.opens/\s.snaps=s.snaps/\r=r) ((0:Int)=(0:Int))):=bE
theorem ahi (L:Nat) (s:State) (r:List Reply) (l:List Entry) (v:Int) (k:Nat):iR tyT fi (gG 0) 11 [] iR1 (ac6 L s r l v k) ((0,one (.yl L)) :: VV l k) (hK s r l v)=((fun q2=>(fun q1=>(fun q0=>((↑k:Int)<q2->0<=(↑k:Int)/\(↑k:Int)<(↑l.length:Int)/\∀ (x:Entry),(fun q3=>l[k]? = some x->I64 x.term->x.b.length*1<=140737488355328->bB q3.c (I64 q3.e->∃ x,l[k]? = some x/\L=L/\L=L/\bm q3.c (ba x v).c (q3.some=(ba x v).some/\q3.e=(ba x v).e/\q0))) (ba x v))/\(q2<=(↑k:Int)->(0:Nat)=0/\l.length<=k/\L=L/\q0)) (l=l/\q2=q2/\(↑k:Int)=(↑k:Int)/\s.version=s.version/\s.next=s.next/\s.keep=s.keep/\s.quota=s.quota/\q1/\q1/\q1/\q1/\q1/\l=l/\v=v/\s.sess=s.sess/\s.opens=s.opens/\s.snaps=s.snaps/\r=r)) ((0:Int)=0)) (↑l.length:Int)):=bE
theorem af5 (L:Nat) (s:State) (r:List Reply) (l:List Entry) (v:Int) (k:Nat) (c:Command) (b:Bool) (er:Int):wpOps tyT fi (gG 0) (kj E_) (koD L s r l v k) 2 ((kj E_).drop 6) ((27,one (.bool (.lit true))) :: (0,one (.yl L)) :: frY l k c b er) (hK s r l v)=((fun q0=>I64 ((↑k:Int)+1)/\L=L/\l=l/\(↑l.length:Int)=(↑l.length:Int)/\(↑k:Int)+1=(↑(k+1):Int)/\s.version=s.version/\s.next=s.next/\s.keep=s.keep/\s.quota=s.quota/\q0/\q0/\q0/\q0/\q0/\l=l/\v=v/\s.sess=s.sess/\s.opens=s.opens/\s.snaps=s.snaps/\r=r) ((0:Int)=0)):=bE
theorem afn (s:State) (r:List Reply) (l:List Entry) (v:Int) (c:Command) (b:Bool) (er:Int):iR tyT fi (gG 0) 11 [] Kf (koN 11 ((10,one (.ptr 11 0)) :: frP,hK s r l v++[hT c b er])) ((17,.one (OM c b er)) :: frP) (hK s r l v)=((fun q0=>s.version=s.version/\s.next=s.next/\s.keep=s.keep/\s.quota=s.quota/\q0/\q0/\q0/\q0/\q0/\l=l/\v=v/\s.sess=s.sess/\s.opens=s.opens/\s.snaps=s.snaps/\r=r/\bm c c (b=b/\er=er)) ((0:Int)=0)):=bE
theorem ahF (s:State) (r:List Reply) (l:List Entry) (v:Int) (x:Entry):iR tyT fi (gG 0) 12 [] MM (koH s r l v x) ((10,one (.ptr 11 0)) :: frP) (hK s r l v++[hT (ba x v).c (ba x v).some (ba x v).e])=((fun q3=>(fun q2=>(fun q1=>(fun q5=>(fun q4=>(fun q0=>(fun q6=>(¬q5->¬q5/\s.version=s.version/\s.next=s.next/\s.keep=s.keep/\s.quota=s.quota/\q3.e=q3.e/\s.sess=s.sess/\s.opens=s.opens/\s.snaps=s.snaps/\r=r)/\(q5->(q3.some=true->I64 q6.version->I64 q6.next->I64 q6.keep->I64 q6.quota->I64 q0.snd.code->I64 q0.snd.n->(r.length+[q0.snd].length)*16<=140737488355328/\q5/\q6.version=q2.version/\q6.next=q2.next/\q6.keep=q2.keep/\q6.quota=q2.quota/\q4/\q4/\q4/\q4/\q4/\l=l/\v=v/\q6.sess=q2.sess/\q6.opens=q2.opens/\q6.snaps=q2.snaps/\r++[q0.snd]=r++[mF v s x])/\(q3.some=false->(r.length+[Reply.mk q1 q1].length)*16<=140737488355328/\q5/\s.version=q2.version/\s.next=q2.next/\s.keep=q2.keep/\s.quota=q2.quota/\q4/\q4/\q4/\q4/\q4/\l=l/\v=v/\s.sess=q2.sess/\s.opens=q2.opens/\s.snaps=q2.snaps/\r++[Reply.mk q1 q1]=r++[mF v s x]))) q0.fst) (qW s q3.c)) (q1=q1)) (q3.e=q1)) (0:Int)) (iw v s x)) (ba x v)):=bE
theorem ae5 (s:State) (r:List Reply) (l:List Entry) (v:Int):iR tyT fi (gG 0) 11 [] Rr (koI s r) frP (hK s r l v)=(s.version=s.version/\s.next=s.next/\s.keep=s.keep/\s.quota=s.quota/\(0:Int)=0/\s.sess=s.sess/\s.opens=s.opens/\s.snaps=s.snaps/\r=r):=bE
noncomputable def ac8:bN:=fi
theorem QV:ay Tryz.prog (al tyT) ac8:=qK
variable {w0 w:World} {F:Fr} {ρ0:List RE} {K:Exit->AFr->AH->Prop} {Q:Exit->Act->World->Prop} {H:AH} {k0 n:Nat} {G:Gl}
theorem Fq {c:Code} {fr:AFr} (hG:G.shp=al tyT) (hk:ρ0.length<=k0) (hc:ew n c=true) (h:iR tyT fi (gG 0) k0 [] c K fr H)
  (hs:St G (gG 0) ρ0 w0 fr H F w) (hK:∀ e fr H F w,K e fr H->St G (gG 0) ρ0 w0 fr H F w->WX Q n e F w):WC Tryz.prog Q n c F w:=
 xZ (by rw [hG]; exact dB) (by rw [hG]; exact qK) (ot dB qK jY G n (gG 0) ρ0 w0 hG (fun i h=>by simp [gG,Nat.ble] at h)) hk c Q K fr H F w hc h hs hK
theorem acH {m:Nat} {l ops:List Oper} {K:AFr->AH->Prop} {fr:AFr} (hG:G.shp=al tyT) (hd:kr n ops=true) (h:wpOps tyT fi (gG 0) l K m ops fr H)
  (hs:St G (gG 0) ρ0 w0 fr H F w) (hK:∀ fr H F w,K fr H->St G (gG 0) ρ0 w0 fr H F w->WX Q n .normal F w):WO Tryz.prog Q n l ops F w:=
 lY (by rw [hG]; exact dB) (by rw [hG]; exact qK) hK m ops fr H F w hd h hs
abbrev yV (L:Nat):Value:=.func (.yield L) #[] #[]
variable {t:Nat} {ρ:List RE}
theorem lV {c:Cx} {fr:AFr} {L:Nat} (hf:FrR c ρ fr F) (h:Iu L (lookA fr t)):look F t=some (yV L):=by
 unfold Iu at h;split at h
 ·rename_i a hl;subst h;obtain ⟨v,h1,h2⟩:=eH hf hl;have h2:v=yV a:=h2;rw [h1,h2]
 exact h.elim
theorem wz {F':Fr} {v:Value} (h:look F t=some v) (k:∀ i u,look F' i=some u->look F i=some u):∀ i u,look ((t,v) :: F') i=some u->look F i=some u:=fun i u hu=>by
 rw [aR] at hu;by_cases hi:t=i
 ·subst hi; rw [if_pos rfl] at hu; cases hu; exact h
 rw [if_neg hi] at hu; exact k i u hu
theorem FrR.AL {c:Cx} {fr:AFr} {a:TV1} {v:Value} (h:cZ c ρ a v) (k:FrR c ρ fr F):FrR c ρ ((t,.one a) :: fr) ((t,v) :: F):=.cons ⟨rfl,h⟩ k
variable {b:Nat}
theorem Rep.jN (h:Rep G ρ H w) (hz:G.Z b):¬ live ρ b:=fun ⟨i,r,h1,h2⟩=>(h.bnd i r b h1 h2).2.2 hz
theorem fg {o:Obj} (h:w.heap[b]? = some o):b<w.heap.size:=(aeD.1 h).1
structure PX where
 G:Gl
 D:Nat
 L:Nat
 fn:Nat
 tm:Array Value
 FP:Fr
 s:State
 l:List Entry
 v:Int
 hD:G.B0<=D
 hL:G.B0<=L
def PX.g (X:PX):Gl:=GZ X.G X.D X.L
noncomputable def PX.rc (X:PX) (st:LoopState) (pe:Option Code):Loop:={ state:=st,pending:=pe,fn:=X.fn,tmps:=X.tm,params:=#[17],assign:=Kf,body:=MM,defers:=X.D }
noncomputable def PX.hk (X:PX) (k:Nat):AH:=hK (pS X.v X.s (X.l.take k)) (pR X.v X.s (X.l.take k)) X.l X.v
abbrev PX.Z (X:PX):Nat->Prop:=fun b=>b=X.D\/b=X.L
theorem PX.hB (X:PX):∀ b,X.Z b->X.g.B0<=b:=fun b hb=>by
 rcases hb with rfl | rfl
 ·exact X.hD
 exact X.hL
structure Mid (X:PX) (k:Nat) (ρ:List RE) (W:World):Prop where
 rep:Rep X.g ρ (X.hk k) W
 fr:FrR (cx X.g ρ W) ρ frP X.FP
 ok:okPl X.v (X.l.take k)
 loop:W.heap[X.L]? = some (.loop (X.rc .ready none))
 dfr:W.heap[X.D]? = some (.deferred (some []))
structure Stopd (X:PX) (ρ:List RE) (W:World):Prop where
 rep:∃ H,Rep X.g ρ H W/\endE tyT [] 0 Tryz.f171 (rE (plS X.v X.s X.l) (pE X.v X.l)) (hE (plS X.v X.s X.l) (plR X.v X.s X.l)) frP H
 fr:FrR (cx X.g ρ W) ρ frP X.FP
 loop:W.heap[X.L]? = some (.loop (X.rc .done (some .ret)))
 dfr:W.heap[X.D]? = some (.deferred (some []))
theorem Dg:Fj frP=true:=by decide
section
variable {X:PX} {k:Nat} {ρ ρ':List RE} {W W':World}
theorem Mid.step {ro:Lv} (h:Mid X k ρ W) (hs:Stp ro ρ W ρ' W') (hr:Rep X.g ρ' (X.hk k) W'):Mid X k ρ' W' /\ Adv X.Z ρ W ρ' W':=by
 have ha:Adv X.Z ρ W ρ' W':=.xY hs.ext hs.bx;have hle:=ha.le (G:=X.g) (fun b hb=>.inr hb) h.rep.lo X.hB;exact ⟨⟨hr,h.fr.eT Dg hle hs.bx,h.ok,(hs.ext.old _ (fg h.loop) (h.rep.jN (.inr (.inr rfl)))).2.trans h.loop,(hs.ext.old _ (fg h.dfr) (h.rep.jN (.inr (.inl rfl)))).2.trans h.dfr⟩,ha⟩
section
variable {s:State} {r:List Reply} {l:List Entry} {v:Int} {x:Entry}
theorem af2 (h:(ba x v).some=true):iw v s x=(qW s (ba x v).c).1:=by unfold iw; rw [if_pos h]
theorem ahG (h:(ba x v).some=false):iw v s x=s:=by unfold iw; rw [if_neg (by rw [h]; decide)]
theorem agX (h:(ba x v).some=true):mF v s x=(qW s (ba x v).c).2:=by unfold mF; rw [if_pos h]
theorem agT (h:(ba x v).some=false):mF v s x=⟨0,0⟩:=by unfold mF; rw [if_neg (by rw [h]; decide)]
theorem XJ (hr:(r.length+1)*16<=140737488355328):iR tyT fi (gG 0) 12 [] MM (koH s r l v x) ((10,one (.ptr 11 0)) :: frP) (hK s r l v++[hT (ba x v).c (ba x v).some (ba x v).e]):=by
 rw [ahF];repeat' (first | with_reducible apply aZ | with_reducible refine aY ?_ | intro)
 all_goals first | with_reducible rfl | with_reducible assumption | contradiction | (simp only [List.length_cons,List.length_nil]; omega) | (rw [af2 ab]; done) | (rw [ahG ab]; done) | (rw [agX ab]; done) | (rw [agT ab]; done)
theorem XL {c:Command} {b:Bool} {er:Int}:iR tyT fi (gG 0) 11 [] Kf (koN 11 ((10,one (.ptr 11 0)) :: frP,hK s r l v++[hT c b er])) ((17,.one (OM c b er)) :: frP) (hK s r l v):=by
 rw [afn];repeat' (first | with_reducible apply aZ | with_reducible refine aY ?_ | intro)
 all_goals with_reducible rfl
end
variable {u:Value}
theorem Hy (hG:X.G.shp=al tyT) (hsz:X.l.length*32<=140737488355328) (hM:M 40 X.FP { tmps:=X.tm,defers:=[] }) (hDL:X.D≠X.L) (h:Mid X k ρ W) {x:Entry} (hx:X.l[k]? = some x) 
  (hu:cZ (cx X.g ρ W) ρ (OM (ba x X.v).c (ba x X.v).some (ba x X.v).e) u) (ro:Option Nat) (m:Nat) :
  RoundIn (gN ro) m Tryz.prog X.L X.fn (X.tm.setIfInBounds 17 u) Kf MM W fun e w'=>∃ b,e = .returned b/\((b = .bool true/\∃ ρ',Mid X (k+1) ρ' w' /\ Adv X.Z ρ W ρ' w')\/(b = .bool false/\∃ ρ',Stopd X ρ' w' /\ Adv X.Z ρ W ρ' w')):=by
 refine KM ?_;have hGg:X.g.shp=al tyT:=hG;have hM1:M 40 ((17,u) :: X.FP) { tmps:=X.tm.setIfInBounds 17 u,defers:=[] }:=hM.put (d:=17) (v:=u) (by decide);have hlen:ρ.length=11:=h.rep.obj.length.symm;have hkl:k<X.l.length:=(aaj.1 hx).1;refine Fq hGg (afa hlen) (c:=Kf) (n:=40) bE (XL (s:=pS X.v X.s (X.l.take k)) (r:=pR X.v X.s (X.l.take k)) (l:=X.l) (v:=X.v) (c:=(ba x X.v).c) (b:=(ba x X.v).some) (er:=(ba x X.v).e)) (⟨ρ,Stp.refl _ _ _,h.rep,FrR.AL hu h.fr⟩) (fun e fr H F w1 hK hs=>?_) _ hM1;cases e with
 | normal=>
  obtain ⟨F1,⟨ρ1,hs1,hr1,hf1⟩,hlk⟩:=gz (P:=Tryz.prog) (by rw [hGg]; exact dB) (afa hlen) hs hK;intro a ha;have hl1:w1.heap[X.L]? = some (.loop (X.rc .ready none)):=(hs1.ext.old _ (fg h.loop) (h.rep.jN (.inr (.inr rfl)))).2.trans h.loop;have hd1:w1.heap[X.D]? = some (.deferred (some [])):=(hs1.ext.old _ (fg h.dfr) (h.rep.jN (.inr (.inl rfl)))).2.trans h.dfr;refine ⟨_,run_beginRound (P:=Tryz.prog) hl1 rfl,?_,ha.1⟩;have A1:Adv X.Z ρ W ρ1 (w1.putObj X.L (.loop { X.rc .ready none with state:=.busy })):=(Adv.xY hs1.ext hs1.bx).trans (.put _ (.inr rfl));have hr2:Rep X.g ρ1 (X.hk k++[hT (ba x X.v).c (ba x X.v).some (ba x X.v).e]) (w1.putObj X.L (.loop { X.rc .ready none with state:=.busy })):=hr1.Ib _ (.inr (.inr rfl)) X.hL;have hl2:(w1.putObj X.L (.loop { X.rc .ready none with state:=.busy })).heap[X.L]? = some (.loop { X.rc .ready none with state:=.busy }):=World.putObj_heap_same (fg hl1);have hd2:(w1.putObj X.L (.loop { X.rc .ready none with state:=.busy })).heap[X.D]? = some (.deferred (some [])):=(aeL hDL).trans hd1;have hf2:FrR (cx X.g ρ1 (w1.putObj X.L (.loop { X.rc .ready none with state:=.busy }))) ρ1 ((10,one (.ptr 11 0)) :: frP) F1:=hf1.carry ((Adv.put (Z:=X.Z) _ (.inr rfl)).le (fun b hb=>.inr hb) hr1.lo X.hB) (kq.refl _);revert A1 hr2 hl2 hd2 hf2;generalize w1.putObj X.L (.loop { X.rc .ready none with state:=.busy })=w2;intro A1 hr2 hl2 hd2 hf2;have hlen1:ρ1.length=12:=hr2.obj.length.symm;refine Fq hGg (afa hlen1) (c:=MM) (n:=40) bE (XJ (s:=pS X.v X.s (X.l.take k)) (r:=pR X.v X.s (X.l.take k)) (l:=X.l) (v:=X.v) (x:=x) (by rw [Cf,List.length_take]; omega)) (⟨ρ1,Stp.refl _ _ _,hr2,hf2⟩) (fun e fr H F w3 hK hs=>?_) _ (ha.sub hlk);obtain ⟨ρ3,hs3,hr3,_⟩:=hs;have hl3:w3.heap[X.L]? = _:=(hs3.ext.old _ (fg hl2) (hr2.jN (.inr (.inr rfl)))).2.trans hl2;have hd3:w3.heap[X.D]? = _:=(hs3.ext.old _ (fg hd2) (hr2.jN (.inr (.inl rfl)))).2.trans hd2;cases e with
  | normal=>
   obtain ⟨he,hend⟩:=hK;obtain ⟨ρ',hr',hE',hb'⟩:=NA (P:=Tryz.prog) (ρ0:=ρ1) (w0:=w2) (by rw [hGg]; exact dB) hr3 hs3.ext hs3.bx (fun i g hi hg=>by
    have hn:=UX (b:=false) hr2 hg;have:i=0\/i=1\/i=2\/i=3\/i=4\/i=5\/i=6\/i=7\/i=8\/i=9\/i=10:=by omega
    rcases this with rfl | rfl | rfl | rfl | rfl | rfl | rfl | rfl | rfl | rfl | rfl <;> exact hn) hend
   refine fun _ _=>⟨_,_,run_endRound (P:=Tryz.prog) none hl3,_,rfl,.inl ⟨rfl,ρ',?_⟩⟩;have A3:Adv X.Z ρ W ρ' (w3.putObj X.L (.loop (X.rc .ready none))):=by
    have A2:Adv X.Z ρ W ρ' w3:=⟨hE'.os.trans A1.os,hE'.tape.trans A1.tape,hE'.output.trans A1.output,Nat.le_trans A1.size hE'.size,fun b hb hl=>by
     obtain ⟨h1,h2⟩:=A1.old b hb hl;obtain ⟨h3,h4⟩:=hE'.old b (aba hb A1.size) h1;exact ⟨h3,fun hz=>h4.trans (h2 hz)⟩,fun i g hg=>hb' i g (by rw [<- hlen]; exact (aaj.1 hg).1) (A1.bx i g hg)⟩
    exact A2.trans (.put _ (.inr rfl))
   refine ⟨⟨?_,h.fr.eT Dg (A3.le (fun b hb=>.inr hb) h.rep.lo X.hB) A3.bx,EL h.ok hx he,World.putObj_heap_same (fg hl3),(aeL hDL).trans hd3⟩,A3⟩;have:=hr'.Ib (l:=X.L) (.loop (X.rc .ready none)) (.inr (.inr rfl)) X.hL;rw [WQ hx,VX hx] at this;exact this
  | ret=>
   obtain ⟨he,hend⟩:=hK;refine fun _ _=>⟨_,_,run_endRound (P:=Tryz.prog) (some .ret) hl3,_,rfl,.inr ⟨rfl,ρ3,?_⟩⟩;have A3:Adv X.Z ρ W ρ3 (w3.putObj X.L (.loop (X.rc .done (some .ret)))):=(A1.trans (.xY hs3.ext hs3.bx)).trans (.put _ (.inr rfl));obtain ⟨p1,p2,p3⟩:=RM (s:=X.s) h.ok hx he;rw [p1,p2,p3] at hend;exact ⟨⟨⟨_,hr3.Ib _ (.inr (.inr rfl)) X.hL,hend⟩,h.fr.eT Dg (A3.le (fun b hb=>.inr hb) h.rep.lo X.hB) A3.bx,World.putObj_heap_same (fg hl3),(aeL hDL).trans hd3⟩,A3⟩
  | _=>exact hK.elim
 | _=>exact hK.elim
theorem Yw:Tryz.f258.body=some (.seq iR0 (.block 0 (.loop (.seq iR1 (.seq iCo (.seq (.block 1 (.seq iR2 (.seq iR3 (.seq E_ Xn)))) iR5)))))):=bE
theorem Zf:E_ = .region 4 (kj E_).toArray false:=bE
theorem Sk:Xn = .cond (.tmp 28) .ret .skip:=bE
noncomputable def Wk (k:Nat):Oper:=(kj E_).getD k ⟨none,.move (.tmp 0),0,"",#[],none⟩
noncomputable def aeM:Array TypeId:=match (Wk 5).op with
 | .call c=>c.argTypes
 | _=>#[]
noncomputable def ty6:TypeId:=match (Wk 6).op with
 | .unOp _ t _=>t
 | _=>0
theorem agc:kj E_=(kj E_).take 5++(⟨some 27,.call ⟨.value (.tmp 22),#[.tmp 26],aeM⟩,(Wk 5).type,(Wk 5).pos,(Wk 5).after,none⟩ :: (kj E_).drop 6):=bE
theorem ae2:(kj E_).drop 6=[⟨some 28,.unOp .not ty6 (.tmp 27),(Wk 6).type,(Wk 6).pos,(Wk 6).after,none⟩]:=bE
variable {P:Program}
theorem CZ {L:Nat} {rl:Loop} {tys:Array TypeId} {ty:TypeId} (h22:look F 22=some (yV L)) (h26:look F 26=some u) (hl:w.heap[L]? = some (.loop rl)) (hp:rl.params = #[17]) (a:Act) (d:Option Tmp) (pos:String) (af:Array Edge) (g:Option (Nat × Bool)) (ha:M n F a) :
  (execOp a.eval ⟨d,.call ⟨.value (.tmp 22),#[.tmp 26],tys⟩,ty,pos,af,g⟩).run P w = .ok (.round L rl.fn (rl.tmps.setIfInBounds 17 u) rl.assign rl.body) w:=by
 have e1:a.eval (.tmp 22)=yV L:=ha.ev (x:=.tmp 22) h22;have e2:a.eval (.tmp 26)=u:=ha.ev (x:=.tmp 26) h26;have hy:=run_yield (P:=P) (args:=#[u]) hl (by rw [hp]; rfl);simp [execOp,resolve,e1,e2,Deferred.ofValue,invoke,hy,hp]
theorem Ro {F':Fr} {v:Value} (k:∀ i u,look F' i=some u->look F i=some u):∀ i u,look ((t,v) :: F') i=some u->look ((t,v) :: F) i=some u:=fun i u hu=>by
 rw [aR] at hu ⊢;split
 ·rename_i h; rw [if_pos h] at hu; exact hu
 rename_i h; rw [if_neg h] at hu; exact k i u hu
section
variable {s:State} {r:List Reply} {l:List Entry} {v:Int} {L:Nat}
theorem XZ:iR tyT fi (gG 0) 11 [] iR0 (koY L (VV l 0,hK s r l v)) [(0,one (.yl L)),(1,one (.ptr 5 0)),(2,one (.ptr 6 0))] (hK s r l v):=by
 rw [aeU];repeat' (first | with_reducible apply aZ | with_reducible refine aY ?_ | intro)
 all_goals first | with_reducible rfl | rfl
theorem WU:iR tyT fi (gG 0) 11 [] iR1 (ac6 L s r l v k) ((0,one (.yl L)) :: VV l k) (hK s r l v):=by
 rw [ahi];repeat' (first | with_reducible apply aZ | with_reducible refine aY ?_ | intro)
 all_goals try (refine ⟨_,by with_reducible assumption,?_⟩)
 repeat' (first | with_reducible apply aZ | with_reducible refine aY ?_ | intro)
 all_goals first | with_reducible rfl | omega | rfl
theorem Zc {c:Command} {b:Bool} {er:Int} (hk:k<4611686018427387904):wpOps tyT fi (gG 0) (kj E_) (koD L s r l v k) 2 ((kj E_).drop 6) ((27,one (.bool (.lit true))) :: (0,one (.yl L)) :: frY l k c b er) (hK s r l v):=by
 rw [af5];repeat' (first | with_reducible apply aZ | with_reducible refine aY ?_ | intro)
 all_goals first | with_reducible rfl | omega | (refine bR ?_ ?_ <;> omega) | rfl
end
def Xq (y:Code) (k0:Nat) (K:Exit->AFr->AH->Prop):Exit->AFr->AH->Prop
 | .normal,fr,H=>iR tyT fi (gG 0) k0 [] y K fr H
 | e,fr,H=>K e fr H
theorem nV {x y:Code} {fr:AFr} (h:iR tyT fi (gG 0) k0 [] (.seq x y) K fr H):iR tyT fi (gG 0) k0 [] x (Xq y k0 K) fr H:=by
 have e:Xq y k0 K=fun e fr H=>(match e with | .normal=>iR tyT fi (gG 0) k0 [] y K fr H | e=>K e fr H):=by funext e fr H; cases e <;> rfl
 rw [e]; exact h
def PX.Out (X:PX) (ρ:List RE) (W:World) (_:Value) (w':World):Prop:=∃ ρ',Adv X.Z ρ W ρ' w' /\ ((∃ k,X.l.length<=k/\Mid X k ρ' w')\/Stopd X ρ' w')
theorem WO.of_eq {l r r':List Oper} (e:r=r') (h:WO P Q n l r' F w):WO P Q n l r F w:=e ▸ h
theorem MQ (hG:X.G.shp=al tyT) (hsz:X.l.length*32<=140737488355328) (hM:M 40 X.FP { tmps:=X.tm,defers:=[] }) (hDL:X.D≠X.L) (h:Mid X 0 ρ W) {p8 p9:Value} (h8:dZ ρ (5,0) p8) (h9:dZ ρ (6,0) p9) :
  jE Tryz.prog 258 #[yV X.L,p8,p9] W (X.Out ρ W):=by
 have hGg:X.g.shp=al tyT:=hG;have hlen:ρ.length=11:=h.rep.obj.length.symm;refine jE.enter (args:=[yV X.L,p8,p9]) (n:=30) Tryz.func258 Yw rfl rfl rfl ?_;refine WC.seq (Fq hGg (afa hlen) bE XZ (⟨ρ,Stp.refl _ _ _,h.rep,FrR.AL (a:=.c (.yl X.L)) rfl (FrR.AL (a:=.c (.ptr 5 0)) h8 (FrR.AL (a:=.c (.ptr 6 0)) h9 .nil))⟩) fun e fr H F w hK hs=>?_);cases e with
 | normal=>
  obtain ⟨hy,he⟩:=hK;have hy0:look F 0=some (yV X.L):=by obtain ⟨_,_,_,hf⟩:=hs; exact lV hf hy
  obtain ⟨F1,⟨ρ1,hs1,hr1,hf1⟩,hlk⟩:=gz (P:=Tryz.prog) (by rw [hGg]; exact dB) (afa hlen) hs he;refine WX.next (WC.block fun a ha=>?_)
  refine rV (fun a w k=>∃ ρ' F',M 30 F' a/\Mid X k ρ' w/\FrR (cx X.g ρ' w) ρ' ((0,one (.yl X.L)) :: VV X.l k) F' /\ k<=X.l.length/\Adv X.Z ρ W ρ' w) (fun k=>X.l.length - k) 0 ⟨ρ1,(0,yV X.L) :: F1,ha.sub (wz hy0 hlk),(h.step hs1 hr1).1,FrR.AL (a:=.c (.yl X.L)) rfl hf1,Nat.zero_le _,(h.step hs1 hr1).2⟩ fun k a w hD=>?_;obtain ⟨ρ',F',hM',hmid,hfr,hk,hadv⟩:=hD;have hlen':ρ'.length=11:=hmid.rep.obj.length.symm;refine (WC.seq (Fq hGg (afa hlen') bE (WU (L:=X.L) (k:=k)) (⟨ρ',Stp.refl _ _ _,hmid.rep,hfr⟩) fun e fr H F w2 hK hs=>?_)) a hM';cases e with
  | normal=>
   refine WX.next (WC.seq (Fq hGg (afa hlen') bE hK hs fun e fr H F w2 hK hs=>?_))
   cases e with
   | exit j=>
    obtain ⟨rfl,hle,hy,he⟩:=hK;obtain ⟨F2,⟨ρ2,hs2,hr2,hf2⟩,hlk2⟩:=gz (P:=Tryz.prog) (by rw [hGg]; exact dB) (afa hlen') hs he;obtain ⟨hm2,ha2⟩:=hmid.step hs2 hr2;have hφ:X.Out ρ W (.tuple #[]) w2:=⟨ρ2,hadv.trans ha2,.inl ⟨k,hle,hm2⟩⟩;have hh:=WX.aaI (id:=0) (WX.aad (WX.abO (n:=30) (fr:=F) (P:=Tryz.prog) (fn:=Tryz.f258) (φ:=X.Out ρ W) rfl hφ));exact fun a ha=>hh a ha
   | normal=>
    refine WX.next (WC.seq (WC.block (WC.seq (Fq hGg (afa hlen') bE (nV hK) hs fun e fr H F w2 hK hs=>?_))))
    cases e with
    | normal=>
     refine WX.next (WC.seq (Fq hGg (afa hlen') bE hK hs fun e fr H F w2 hK hs=>?_))
     cases e with
     | normal=>
      refine WX.next (WC.seq ?_)
      rw [Zf];refine WC.region ?_;refine WO.of_eq agc (WO.app (acH hGg bE hK hs fun fr H F w3 hK hs=>?_));intro a ha;obtain ⟨x,hx,hy,hy22,he⟩:=hK;have hy0:look F 0=some (yV X.L):=by obtain ⟨_,_,_,hf⟩:=hs; exact lV hf hy
      have h22:look F 22=some (yV X.L):=by obtain ⟨_,_,_,hf⟩:=hs; exact lV hf hy22
      obtain ⟨F2,⟨ρ2,hs2,hr2,hf2⟩,hlk2⟩:=gz (P:=Tryz.prog) (by rw [hGg]; exact dB) (afa hlen') hs he;obtain ⟨hm2,ha2⟩:=hmid.step hs2 hr2;obtain ⟨u,hu26,hu⟩:=eH (i:=26) (tv:=.one (OM (ba x X.v).c (ba x X.v).some (ba x X.v).e)) hf2 rfl;have hkl:k<X.l.length:=(aaj.1 hx).1;refine WO.yield (L:=X.L) (f:=X.fn) (tmps:=X.tm.setIfInBounds 17 u) (assign:=Kf) (body:=MM) (fun a d pos af g ha=>CZ h22 (hlk2 _ _ hu26) hm2.loop rfl a d pos af g ha) rfl (fun ro m=>Hy hG hsz hM hDL hm2 hx hu ro m) (fun b w4 hb=>?_) a ha;rcases hb with ⟨rfl,ρ4,hm4,ha4⟩ | ⟨rfl,ρ4,hst4,ha4⟩
      ·intro a ha;have hf4:=FrR.AL (t:=0) (a:=.c (.yl X.L)) (v:=yV X.L) rfl (hf2.eT rfl (ha4.le (fun b hb=>.inr hb) hr2.lo X.hB) ha4.bx);have hlen4:ρ4.length=11:=hm4.rep.obj.length.symm;refine (acH hGg bE (Zc (L:=X.L) (k:=k) (by omega)) (⟨ρ4,Stp.refl _ _ _,hm4.rep,FrR.AL (t:=27) (a:=.c (.bool (.lit true))) (Pd.bool (e:=.lit true)) hf4⟩) fun fr H F w5 hK hs=>?_) a (ha.sub (Ro (wz hy0 hlk2)));refine WX.next (Fq hGg (afa hlen4) bE (nV hK) hs fun e fr H F w6 hK hs=>?_)
       cases e with
       | normal=>
        refine WX.Hf (WX.next (Fq hGg (afa hlen4) bE hK hs fun e fr H F w7 hK hs=>?_));cases e with
        | normal=>
         obtain ⟨hy,he⟩:=hK;have hy0:look F 0=some (yV X.L):=by obtain ⟨_,_,_,hf⟩:=hs; exact lV hf hy
         obtain ⟨F7,⟨ρ7,hs7,hr7,hf7⟩,hlk7⟩:=gz (P:=Tryz.prog) (by rw [hGg]; exact dB) (afa hlen4) hs he;obtain ⟨hm7,ha7⟩:=hm4.step hs7 hr7;exact fun a ha=>⟨k+1,⟨ρ7,(0,yV X.L) :: F7,ha.sub (wz hy0 hlk7),hm7,FrR.AL (a:=.c (.yl X.L)) rfl hf7,hkl,((hadv.trans ha2).trans ha4).trans ha7⟩,by omega⟩
        | _=>exact hK.elim
       | _=>exact hK.elim
      have hφ:X.Out ρ W (.tuple #[]) w4:=⟨ρ4,(hadv.trans ha2).trans ha4,.inr hst4⟩;refine WO.of_eq ae2 (WO.v (R.not (b:=false) rfl) rfl (WO.nil (WX.next ?_)));rw [Sk];exact WC.EU rfl (WC.ret (WX.abO (P:=Tryz.prog) (fn:=Tryz.f258) (φ:=X.Out ρ W) rfl hφ))
     | _=>exact hK.elim
    | _=>exact hK.elim
   | _=>exact hK.elim
  | _=>exact hK.elim
 | _=>exact hK.elim
end
theorem XD:Tryz.f171.body=some (.seq pR0 (.seq pR1 (.seq pR2 (.seq (.seq pR3 (.block 0 (.rangeFunc (.tmp 16) #[17] Kf MM))) Rr)))):=bE
theorem ZO {args:List Value} (hle:args.length<=n):M n (wo 0 args) { tmps:=args.toArray++Array.replicate (n - args.toArray.size) undef,defers:=[] }:=by
 refine ⟨rfl,?_,fun i v hv=>?_⟩
 ·simp; omega
 rw [tC] at hv;obtain ⟨_,h2⟩:=tw args 0 i v hv;rw [Nat.sub_zero] at h2;have hi:i<args.length:=(aaj.1 h2).1;refine ⟨by omega,?_⟩;have h3:args[i]=v:=by rw [List.getElem?_eq_getElem hi] at h2; exact adt h2
 simp [Array.getD,hi,h3];omega
def DN (G:Gl) (w0:World) (s:State) (l:List Entry) (v:Int) (u:Value) (w':World):Prop:=
 ∃ us,u=zr us/\∃ ρ',Rep G ρ' (hE (plS v s l) (plR v s l)) w' /\ Ext [] w0 ρ' w' /\ All2 (cZ (cx G ρ' w') ρ') (rE (plS v s l) (pE v l)) us/\Kp [] w0 w'
section
variable {X:PX} {ρ1 ρ':List RE} {w0 W1 w4:World} {H:AH} {a:Act}
theorem NQ {fr:AFr} (hG:X.G.shp=al tyT) (hz:∀ x,X.G.Z x->x<w0.heap.size) (hD:w0.heap.size<=X.D) (hDL:X.D<X.L) (hR:Rep X.g ρ' H w4) (hf:FrR (cx X.g ρ' w4) ρ' fr F) (hM:M 40 F a)
  (hend:endE tyT [] 0 Tryz.f171 (rE (plS X.v X.s X.l) (pE X.v X.l)) (hE (plS X.v X.s X.l) (plR X.v X.s X.l)) fr H) (hd:w4.heap[X.D]? = some (.deferred (some []))) (hE:Ext [] w0 ρ1 W1) (hA:Adv X.Z ρ1 W1 ρ' w4) :
  ∃ w',(Instr.takeDeferred X.D).run Tryz.prog w4 = .ok [] w' /\ ∃ u,(results Tryz.f171 a.tmps).run Tryz.prog w' = .ok u w' /\ DN X.G w0 X.s X.l X.v u w':=by
 refine ⟨_,run_takeDeferred (P:=Tryz.prog) hd,?_⟩;have hR5:=hR.Ib (l:=X.D) (.deferred none) (.inr (.inl rfl)) X.hD;have hsz:(w4.putObj X.D (.deferred none)).heap.size=w4.heap.size:=by simp
 have h04:w0.heap.size<=w4.heap.size:=Nat.le_trans hE.size hA.size;obtain ⟨hR6,hle⟩:=hR5.leave (fun x hx=>aba (hz x hx) (by rw [hsz]; exact h04));have hle2:(cx X.g ρ' w4).le (cx X.G ρ' (w4.putObj X.D (.deferred none))):=((Adv.put (Z:=X.Z) (ρ:=ρ') (w:=w4) (.deferred none) (.inl rfl)).le (G:=X.g) (fun b hb=>.inr hb) hR.lo X.hB).trans hle;have hf6:=hf.carry hle2 (kq.refl _);have hE6:Ext [] w0 ρ' (w4.putObj X.D (.deferred none)):=⟨hA.os.trans hE.os,hA.tape.trans hE.tape,hA.output.trans hE.output,by rw [hsz]; exact h04,fun b hb hl=>by
  obtain ⟨h1,h2⟩:=hE.old b hb hl;obtain ⟨h3,h4⟩:=hA.old b (aba hb hE.size) h1;have hbD:b≠X.D:=by omega
  exact ⟨h3,(aeL hbD).trans ((h4 (fun hz=>by rcases hz with hz | hz <;> omega)).trans h2)⟩⟩
 unfold endE aaf at hend;split at hend
 ·rename_i l hl;obtain ⟨us,h1,h2⟩:=ln (by rw [hG]; exact dB) hR6 hf6 hM hl;replace hend:=ek.1 hend;refine ⟨_,h2,us,rfl,_,oC (P:=Tryz.prog) (by rw [hG]; exact dB) hR6 rfl (bC.1 fun p hp=>hend p (abc _ (abc _ hp))) fun p hp=>hend p (acV _ hp),nT hE6,nU hR6 rfl h1 fun p hp=>hend p (abc _ (acV _ hp)),?_⟩;exact ⟨hE6.os,hE6.tape,hE6.output,hE6.size,fun b hb _=>(hE6.old b hb (fun ⟨i,r,h,_⟩=>by simp at h)).2⟩
 exact (show False from hend).elim
end
variable {l:List Entry}
theorem Yz {s:State} {r:List Reply} {v:Int}:iR tyT fi (gG 0) 11 [] Rr (koI s r) frP (hK s r l v):=by
 rw [ae5];repeat' (first | with_reducible apply aZ | with_reducible refine aY ?_ | intro)
 all_goals with_reducible rfl
theorem Wq.go {l:List Prop} {R:Prop} (k:∀ p ∈ l,p) (h:Wq (kV l R)):Wq R:=⟨eE.1 h.h k⟩
theorem Wq.seq {x y:Code} {k0:Nat} {K:Exit->AFr->AH->Prop} {fr:AFr} {H:AH} (h:Wq (iR tyT fi (gG 0) k0 [] (.seq x y) K fr H)):Wq (iR tyT fi (gG 0) k0 [] x (Xq y k0 K) fr H):=⟨nV h.h⟩
theorem ah_ {c:Code} {fr:AFr} (hG:G.shp=al tyT) (hk:ρ0.length<=k0) (hc:ew n c=true) (h:Wq (iR tyT fi (gG 0) k0 [] c K fr H))
  (hs:St G (gG 0) ρ0 w0 fr H F w) (hK:∀ e fr H F w,K e fr H->St G (gG 0) ρ0 w0 fr H F w->WX Q n e F w):WC Tryz.prog Q n c F w:=Fq hG hk hc h.h hs hK
theorem ZZ {s:State} {l:List Entry} {v:Int}:Wq (kV (Gs [.agg (cellsOf (.nm .state) s),.c (.fz (.nm .entry) l),.c (.int v)]) (iR tyT fi (gG 0) 0 [] (.seq pR0 (.seq pR1 (.seq pR2 pR3))) (koN 0 (frP,hK s [] l v)) (pJ 0 [.agg (cellsOf (.nm .state) s),.c (.fz (.nm .entry) l),.c (.int v)]) [])):=by
 refine ⟨?_⟩;rw [ah8];repeat' (first | with_reducible apply aZ | with_reducible refine aY ?_ | intro)
 all_goals with_reducible rfl
theorem Xl {s:State} {v:Int} (h:∀ p ∈ Gs [.agg (cellsOf (.nm .state) s),.c (.fz (.nm .entry) l),.c (.int v)],p):Wq (iR tyT fi (gG 0) 0 [] (.seq pR0 (.seq pR1 (.seq pR2 pR3))) (koN 0 (frP,hK s [] l v)) (pJ 0 [.agg (cellsOf (.nm .state) s),.c (.fz (.nm .entry) l),.c (.int v)]) []):=by
 have h1:=@ZZ s l v;revert h1 h;generalize Gs [.agg (cellsOf (.nm .state) s),.c (.fz (.nm .entry) l),.c (.int v)]=L;generalize iR tyT fi (gG 0) 0 [] (.seq pR0 (.seq pR1 (.seq pR2 pR3))) (koN 0 (frP,hK s [] l v)) (pJ 0 [.agg (cellsOf (.nm .state) s),.c (.fz (.nm .entry) l),.c (.int v)]) []=R;intro h h1;exact Wq.go h h1
theorem Ka {vs:List Value} {s:State} {v:Int} (hG:G.shp=al tyT) (hR:Rep G ρ [] w) (hvs:All2 (cZ (cx G ρ w) ρ) [.agg (cellsOf (.nm .state) s),.c (.fz (.nm .entry) l),.c (.int v)] vs) :
  jE Tryz.prog 171 vs.toArray w (DN G w s l v):=by
 have hok:=Rg.mY hvs;have hsz:l.length*32<=140737488355328:=by
  have:l.length*Sh.bytes (.nm .entry)<=140737488355328:=hok _ (by simp [Gs,TV1.ok,AV.ok]);exact this
 have hρ:ρ=[]:=aa9 hR.obj.length.symm;subst hρ;have hl3:vs.length=3:=hvs.length.symm;refine (callsIn_wide (n:=0)).1 (callsIn_of_wp_marks (F:=gN none) (n:=0) Tryz.func171 XD trivial ?_);have hM0:=ZO (n:=40) (args:=vs) (by omega);have h0:([]:List RE).length<=0:=Nat.le_refl 0;refine wpIn_seq (ku.in0 rfl ((ah_ (n:=40) hG h0 bE (Wq.seq (Xl hok)) (⟨[],Stp.refl _ _ _,hR,nH hvs⟩) fun e fr H F w1 hK hs=>?_) _ hM0));cases e with
 | normal=>
  intro a ha;refine wpIn_seq (ku.in0 ha.1 ((Fq (n:=40) hG h0 bE (nV hK) hs fun e fr H F w1 hK hs=>?_) _ ha));cases e with
  | normal=>
   intro a ha;refine wpIn_seq (ku.in0 ha.1 ((Fq (n:=40) hG h0 bE (nV hK) hs fun e fr H F w1 hK hs=>?_) _ ha));cases e with
   | normal=>
    intro a ha;refine wpIn_seq (wpIn_seq (ku.in0 ha.1 ((Fq (n:=40) hG h0 bE hK hs fun e fr H F w1 hK hs=>?_) _ ha)));cases e with
    | normal=>
     obtain ⟨F1,⟨ρ1,hs1,hr1,hf1⟩,hlk⟩:=gz (P:=Tryz.prog) (by rw [hG]; exact dB) h0 hs hK;intro a ha0;have ha:=ha0.sub hlk;refine wpIn_block (wpIn_rangeFunc fun fn hfn=>?_);have hae:a={ tmps:=a.tmps,defers:=[] }:=by rw [<- ha.1]
     obtain ⟨vg,hg1,hg2⟩:=eH (i:=16) (tv:=one (.fn 258 [] [(5,0),(6,0)])) hf1 rfl;obtain ⟨bs,us,hb,hu,rfl⟩:=hg2;cases hb;cases hu with | cons h8 hu=>
     cases hu with | cons h9 hu=>
     cases hu;rename_i p8 p9;have hg:a.eval (.tmp 16) = .func (.func 258) #[] #[p8,p9]:=ha.ev (x:=.tmp 16) hg1;obtain ⟨X,hX⟩:∃ X:PX,X=⟨G,w1.heap.size,w1.heap.size+1,fn,a.tmps,F1,s,l,v,hr1.b0,Nat.le_succ_of_le hr1.b0⟩:=⟨_,rfl⟩;have hXD:X.D=w1.heap.size:=by rw [hX]
     have hXL:X.L=w1.heap.size+1:=by rw [hX]
     obtain ⟨hre,hle,hk⟩:=hr1.enter (.deferred (some [])) (.loop (X.rc .ready none));have hsz2:((w1.alloc (.deferred (some []))).alloc (.loop (X.rc .ready none))).heap.size=w1.heap.size+1+1:=by simp
     have hmid:Mid X 0 ρ1 ((w1.alloc (.deferred (some []))).alloc (.loop (X.rc .ready none))):=by
      refine ⟨?_,?_,fun x hx=>by simp at hx,?_,?_⟩
      ·have:Rep (GZ G w1.heap.size (w1.heap.size+1)) ρ1 (Go.Proofs.YticbaadnibdbkaaGreat.hK s [] l v) ((w1.alloc (.deferred (some []))).alloc (.loop (X.rc .ready none))):=hre;rw [hX] at this ⊢; exact this
      ·have:=hf1.carry hle (kq.refl _);rw [hX] at this ⊢; exact this
      ·rw [hXL];have:=World.alloc_heap_new (w1.alloc (.deferred (some []))) (.loop (X.rc .ready none));rwa [World.size_alloc] at this
      rw [hXD];exact (Below.heap_alloc _ _ _ (by simp)).trans (World.alloc_heap_new w1 _)
     have hGX:X.G.shp=al tyT:=by rw [hX]; exact hG
     have hGgX:X.g.shp=al tyT:=hGX;have hlX:X.l=l:=by rw [hX]
     have hMX:M 40 X.FP { tmps:=X.tm,defers:=[] }:=by rw [hX]; rw [hae] at ha; exact ha
     have hMa:M 40 X.FP a:=by rw [hX]; exact ha
     have h8':dZ ρ1 (5,0) p8:=h8;have h9':dZ ρ1 (6,0) p9:=h9;have hit:=MQ hGX (by rw [hlX]; exact hsz) hMX (by rw [hXD,hXL]; omega) hmid h8' h9';have hE1:Ext [] w ρ1 ((w1.alloc (.deferred (some []))).alloc (.loop (X.rc .ready none))):=hs1.ext.trans (Ext.kp hk);have hfin:∀ {ρ':List RE} {w4:World} {H:AH} {b:Act} {fr:AFr} {F:Fr},Rep X.g ρ' H w4->FrR (cx X.g ρ' w4) ρ' fr F->M 40 F b->endE tyT [] 0 Tryz.f171 (rE (plS X.v X.s X.l) (pE X.v X.l)) (hE (plS X.v X.s X.l) (plR X.v X.s X.l)) fr H->w4.heap[X.D]? = some (.deferred (some [])) ->
       Adv X.Z ρ1 ((w1.alloc (.deferred (some []))).alloc (.loop (X.rc .ready none))) ρ' w4->bodyPostM (gN none) 0 Tryz.prog Tryz.f171 (fun e w'=>∃ u,e = .returned u/\DN G w s l v u w') .ret (iW b [{ target:=.collected X.D,args:=#[] }]) w4:=fun hR4 hf4 hMb hend hd4 hA4=>by
      obtain ⟨w',ht,u,hu,ho⟩:=NQ (w0:=w) hGX (by rw [hX]; exact hR.z) (by rw [hXD]; exact hs1.ext.size) (by rw [hXD,hXL]; omega) hR4 hf4 hMb hend hd4 hE1 hA4;rw [hX] at ho;exact ⟨by simp,.inl ⟨_,w',rfl,ht,u,hu,u,rfl,ho⟩⟩
     refine ⟨w1.heap.size+1,[{ target:=.collected w1.heap.size,args:=#[] }],(w1.alloc (.deferred (some []))).alloc (.loop { state:=.ready,pending:=none,fn:=fn,tmps:=a.tmps,params:=#[17],assign:=Kf,body:=MM,defers:=w1.heap.size }),{ target:=.fn (.func 258) #[p8,p9],args:=#[yV (w1.heap.size+1)] },(w1.alloc (.deferred (some []))).alloc (.loop { state:=.ready,pending:=none,fn:=fn,tmps:=a.tmps,params:=#[17],assign:=Kf,body:=MM,defers:=w1.heap.size }),258,#[yV (w1.heap.size+1)] ++ #[p8,p9],(w1.alloc (.deferred (some []))).alloc (.loop { state:=.ready,pending:=none,fn:=fn,tmps:=a.tmps,params:=#[17],assign:=Kf,body:=MM,defers:=w1.heap.size }),run_enterLoop_outer _ _ _ _ _,?_,fun _ _=>trivial,?_,fun h=>(by cases h),?_⟩
     ·simp only [resolve,hg];simp [go_sem]
     ·simp [invoke,go_sem]
     have hrc:({ state:=.ready,pending:=none,fn:=fn,tmps:=a.tmps,params:=#[17],assign:=Kf,body:=MM,defers:=w1.heap.size }:Loop)=X.rc .ready none:=by rw [hX]; rfl
     rw [hrc,<- hXL];refine Qa (ai0 hit fun e w2 ⟨v0,he,ρ2,hA2,hc⟩=>?_);subst he;rcases hc with ⟨k,hk,hm⟩ | hst
     ·refine ⟨none,_,run_endLoop (P:=Tryz.prog) hm.loop (by simp [PX.rc]),?_⟩;obtain ⟨p1,p2,p3⟩:=ZV (s:=X.s) hm.ok hk;have hRm:=hm.rep.Ib (l:=X.L) (.loop { X.rc .ready none with state:=.exhausted }) (.inr (.inr rfl)) X.hL;have A2:Adv X.Z ρ1 _ ρ2 (w2.putObj X.L (.loop { X.rc .ready none with state:=.exhausted })):=hA2.trans (.put _ (.inr rfl));have hfm:FrR (cx X.g ρ2 (w2.putObj X.L (.loop { X.rc .ready none with state:=.exhausted }))) ρ2 frP X.FP:=hm.fr.carry ((Adv.put (Z:=X.Z) (ρ:=ρ2) (w:=w2) _ (.inr rfl)).le (G:=X.g) (fun b hb=>.inr hb) hm.rep.lo X.hB) (kq.refl _);have hdm:(w2.putObj X.L (.loop { X.rc .ready none with state:=.exhausted })).heap[X.D]? = some (.deferred (some [])):=(aeL (by rw [hXD,hXL]; omega)).trans hm.dfr;have hlen2:ρ2.length=11:=hm.rep.obj.length.symm;revert hRm A2 hfm hdm;generalize w2.putObj X.L (.loop { X.rc .ready none with state:=.exhausted })=w4;intro hRm A2 hfm hdm;have hwc:WC Tryz.prog (fun e b w5=>e = .ret/\bodyPostM (gN none) 0 Tryz.prog Tryz.f171 (fun e w'=>∃ u,e = .returned u/\DN G w s l v u w') .ret (iW b [{ target:=.collected X.D,args:=#[] }]) w5) 40 Rr X.FP w4:=by
       refine Fq hGgX (afa hlen2) bE (Yz (s:=pS X.v X.s (X.l.take k)) (r:=pR X.v X.s (X.l.take k)) (l:=X.l) (v:=X.v)) (⟨ρ2,Stp.refl _ _ _,hRm,hfm⟩) fun e fr H F w5 hK hs=>?_;cases e with
       | ret=>
        obtain ⟨ρ5,hs5,hr5,hf5⟩:=hs;have hd5:w5.heap[X.D]? = some (.deferred (some [])):=(hs5.ext.old _ (fg hdm) (hRm.jN (.inr (.inl rfl)))).2.trans hdm;have hend:endE tyT [] 0 Tryz.f171 (rE (pS X.v X.s (X.l.take k)) 0) (hE (pS X.v X.s (X.l.take k)) (pR X.v X.s (X.l.take k))) fr H:=hK;rw [p1,p2,p3] at hend;exact fun b hb=>⟨rfl,hfin hr5 hf5 hb hend hd5 (A2.trans (.xY hs5.ext hs5.bx))⟩
       | _=>exact hK.elim
      have hwi:=Jx (m:=0) (hwc a hMa none [{ target:=.collected X.D,args:=#[] }]);rw [hXD] at hwi;have hadf:({ a with defers:=[{ target:=.collected w1.heap.size,args:=#[] }]++a.defers }:Act)=iW a [{ target:=.collected w1.heap.size,args:=#[] }]:=by rw [ha.1]; rfl
      show Exit.inBlock 0 _ .normal _ w4;rw [hadf];refine wpIn_mono hwi fun e b w5 ⟨b0,hb0,hbe,hbr,hpost⟩=>?_;subst hbr; subst hbe;exact hpost
     refine ⟨some .ret,_,run_endLoop (P:=Tryz.prog) hst.loop (by simp [PX.rc]),?_⟩;obtain ⟨H,hR,hend⟩:=hst.rep;have A2:Adv X.Z ρ1 _ ρ2 (w2.putObj X.L (.loop { X.rc .done (some .ret) with state:=.exhausted })):=hA2.trans (.put _ (.inr rfl));have hfm:FrR (cx X.g ρ2 (w2.putObj X.L (.loop { X.rc .done (some .ret) with state:=.exhausted }))) ρ2 frP X.FP:=hst.fr.carry ((Adv.put (Z:=X.Z) (ρ:=ρ2) (w:=w2) _ (.inr rfl)).le (G:=X.g) (fun b hb=>.inr hb) hR.lo X.hB) (kq.refl _);have hdm:(w2.putObj X.L (.loop { X.rc .done (some .ret) with state:=.exhausted })).heap[X.D]? = some (.deferred (some [])):=(aeL (by rw [hXD,hXL]; omega)).trans hst.dfr;have hp:=hfin (hR.Ib _ (.inr (.inr rfl)) X.hL) hfm hMa hend hdm A2;have hadf:({ a with defers:=[{ target:=.collected w1.heap.size,args:=#[] }]++a.defers }:Act)=iW a [{ target:=.collected w1.heap.size,args:=#[] }]:=by rw [ha.1]; rfl
     rw [hXD] at hp;show Code.ret.wpIn _ _ _ _ _ _;rw [hadf];exact wpIn_ret hp
    | _=>exact hK.elim
   | _=>exact hK.elim
  | _=>exact hK.elim
 | _=>exact hK.elim
theorem MY (s:State) (l:List Entry) (v:Int):Sat Tryz.prog (al tyT) 171 [.agg (cellsOf (.nm .state) s),.c (.fz (.nm .entry) l),.c (.int v)] [] ⟨[],rE (plS v s l) (pE v l),some (hE (plS v s l) (plR v s l)),true⟩:=by
 refine ⟨⟨_,Tryz.func171,by decide,by kernel_rfl⟩,fun G ρ w vs hG hR hvs=>?_⟩;have hρ:ρ=[]:=aa9 hR.obj.length.symm;subst hρ;refine (Ka hG hR hvs).mono fun u w' ⟨us,e,ρ',h1,h2,h3,h4⟩=>⟨us,e,ρ',h1,h2,fun i g h=>by simp at h,h3,fun _=>⟨h4,fun i r h=>by simp at h⟩⟩
section
variable {v:Int} {s:State} {l:List Entry} {k:Nat} {x:Entry}
end
theorem Un (st:State) (l:List Entry) (v:Int):Sat Tryz.prog (al tyT) 171 [.agg (cellsOf (.nm .state) st),.c (.fz (.nm .entry) (l)),.c (.int (v))] [] ⟨[],[.agg ([.int (((plS v st l).version)),.int (((plS v st l).next)),.int (((plS v st l).keep)),.int (((plS v st l).quota)),.own 0,.own 1,.own 2]),.c (.own 3),.c (.int ((pE v l)))],some ([.row 137 (.nm .sess) (((plS v st l).sess)),.row 139 (.nm .opn) (((plS v st l).opens)),.row 172 (.nm .snap) (((plS v st l).snaps)),.row 78 (.nm .reply) ((plR v st l))]),true⟩:=MY st l v
noncomputable def EN:Kn:=aK (ae (kT (.nm .state)) (ae (kC (cL (.nm .entry))) (ae (kC cI) ao))) aw fun (st,l,v,_) _=>⟨[],[.agg ([.int (((plS v st l).version)),.int (((plS v st l).next)),.int (((plS v st l).keep)),.int (((plS v st l).quota)),.own 0,.own 1,.own 2]),.c (.own 3),.c (.int ((pE v l)))],some ([.row 137 (.nm .sess) (((plS v st l).sess)),.row 139 (.nm .opn) (((plS v st l).opens)),.row 172 (.nm .snap) (((plS v st l).snaps)),.row 78 (.nm .reply) ((plR v st l))]),true⟩
theorem UI:CK 171 EN:=ag fun (st,l,v,_) _ _=>Un st l v
noncomputable def ac3:bN:=(aO 171 EN ac8)
theorem gM:ay Tryz.prog (al tyT) ac3:=(ah UI QV)
def ab8 (O:bN):bN:=fun g a H=>bif Nat.beq g 1000000003 then some ⟨[False],[],none,false⟩ else O g a H
variable {shp:TypeId->Option Sh} {P:Program}
theorem xE {O:bN} (hO:ay P shp O):ay P shp (ab8 O):=fun g args H r h hp=>by
 unfold ab8 at h;cases hb:Nat.beq g 1000000003 <;> rw [hb] at h
 ·exact hO g args H r h hp
 cases h; exact (hp False (by simp)).elim
def cWp:AV->Option Nat
 | .xx (.w n) []=>some n
 | _=>none
def cW:PC Nat:=⟨cWp,fun n=>.xx (.w n) [],fun a y h c ρ v hv=>by
 unfold cWp at h
 split at h
 ·cases h; exact hv
 ·cases h⟩
theorem Sat.LJ {f:Nat} {args rs:List TV1} {H1:AH} {pre:List Prop} {keep b:Bool} (i k:Nat) (e:TypeId) (s:Sh) {t:TypeId} {cs:List AV} {H2:AH} (hs:shp e=some s) (hi:H1[i]? = some (.box t cs)) (hk:cs[k]? = some (.em b)) (h:Sat P shp f args H ⟨pre,rs,some H1,keep⟩) (ho:H2=H1.set i (.box t (cs.set k (.own H1.length)))++[.row e s []]):Sat P shp f args H ⟨pre,rs,some H2,keep⟩:=by
 subst ho;refine ⟨h.1,fun G ρ w vs hg hR hv=>(h.2 G ρ w vs hg hR hv).mono ?_⟩;rintro v w' ⟨us,e1,ρ',k1,k2,k3,k4,k5⟩;have hle:=(Ext.app (ρ:=ρ') (r:=.emp) (Kp.refl w') fun g hg=>by cases hg).le k1.lo;have hlen:=k1.obj.length;have k6:=k1.app (r:=.emp) (o:=.row e s []) (Kp.refl w') (fun g hg=>by cases hg) ⟨by show G.shp e=some s; rw [hg]; exact hs,by simp,.inl ⟨rfl,rfl⟩⟩;have hlt:=(aaj.1 hi).1;refine ⟨us,e1,ρ' ++ [.emp],⟨?_,k6.inj,k6.bnd,k6.z,k6.b0,k6.tb⟩,k2.trans (Ext.app (Kp.refl w') fun g hg=>by cases hg),fun i g hi=>by
  rw [List.getElem?_append_left]
  ·exact k3 i g hi
  ·exact (aaj.1 (k3 i g hi)).1,k4.imp fun _ _ h=>h.carry hle (gk _ _),fun hk=>⟨(k5 hk).1,fun i rr hi=>by
  rw [List.getElem?_append_left]
  ·exact (k5 hk).2 i rr hi
  exact (aaj.1 ((k5 hk).2 i rr hi)).1⟩⟩
 obtain ⟨r,hr,g,ws,rfl,h1,h2⟩:=k6.at_ (i:=i) (o:=.box t cs) (by rw [List.getElem?_append_left hlt]; exact hi);have k7:=k6.obj.set i (a:=.box t (cs.set k (.own H1.length))) (b:=.blk g) ⟨g,ws,rfl,h1,?_⟩
 ·rw [List.set_append_left _ _ hlt] at k7;have:(ρ' ++ [RE.emp]).set i (.blk g)=ρ' ++ [RE.emp]:=by
   obtain ⟨hj,he⟩:=aaj.1 hr;rw [<- he,aiL]
  rwa [this] at k7
 obtain ⟨u,hu,hp⟩:=dO h2 k _ hk;have k8:=h2.set k (a:=.own H1.length) (b:=u) (.inr ⟨by rw [hlen]; simp,?_⟩)
 ·have:ws.set k u=ws:=by
   obtain ⟨hj,he⟩:=aaj.1 hu;rw [<- he,aiL]
  rwa [this] at k8
 have hp:Pd _ _ _:=hp;cases hp with | em _=>exact ⟨_,rfl⟩
noncomputable def zJ:Kn:=aK (ae (kC (aX 0 0)) ao) (aC (dH 147 (ax (eO 1) (ax cI (ax cB (ax cB (ax cI dv)))))) (aC (eW 5 .u8) aw)) fun _ ((_,sy,dn,dm,kp,_),bs,_)=>⟨[],[.c (.bool (.atom ((dn))))],none,false⟩
theorem MR:CK 40 zJ:=ag fun _ ((_,sy,dn,dm,kp,_),bs,_) _=>by
 refine av gM [] Tryz.func40 (?_:dn=dn);try rfl
noncomputable def yW:Kn:=aK (ae (kC (aX 0 0)) (ae (kC cI) ao)) (aC (dH 147 (ax (eO 1) (ax cI (ax cB (ax cB (ax cI dv)))))) (aC (eW 5 .u8) aw)) fun (_,k,_) ((_,sy,dn,dm,kp,_),bs,_)=>⟨[],[],some ([.box 147 ([.own 1,.int (((Dsk.mk bs sy dn true k).synced)),.bool (.atom (((Dsk.mk bs sy dn true k).down))),.bool (.atom (((Dsk.mk bs sy dn true k).doomed))),.int (((Dsk.mk bs sy dn true k).keep))]),.row 5 .u8 (((Dsk.mk bs sy dn true k).b))]),false⟩
theorem Ol:CK 108 yW:=ag fun (_,k,_) ((_,sy,dn,dm,kp,_),bs,_) _=>by
 refine br gM [] Tryz.func108 (?_:I64 k->sy=sy/\dn=dn/\true=true/\k=k/\bs=bs);(repeat' with_reducible first|apply aZ|refine aY ?_|intro) <;> (first | with_reducible rfl | with_reducible assumption | omega | (refine bR ?_ ?_ <;> omega))
noncomputable def JW:Kn:=aK (ae (kC (aX 0 0)) ao) (aC (dH 147 (ax (eO 1) (ax cI (ax cB (ax cB (ax cI dv)))))) (aC (eW 5 .u8) aw)) fun _ ((_,sy,dn,dm,kp,_),bs,_)=>⟨[],[.c (.int ((if dn=true then 0 else 31)))],some ([.box 147 ([.own 1,.int (((if dn=true then (Dsk.mk bs sy dn dm kp).up else (Dsk.mk bs sy dn dm kp)).synced)),.bool (.atom (((if dn=true then (Dsk.mk bs sy dn dm kp).up else (Dsk.mk bs sy dn dm kp)).down))),.bool (.atom (((if dn=true then (Dsk.mk bs sy dn dm kp).up else (Dsk.mk bs sy dn dm kp)).doomed))),.int (((if dn=true then (Dsk.mk bs sy dn dm kp).up else (Dsk.mk bs sy dn dm kp)).keep))]),.row 5 .u8 (((if dn=true then (Dsk.mk bs sy dn dm kp).up else (Dsk.mk bs sy dn dm kp)).b))]),false⟩
theorem Zm:CK 44 JW:=ag fun _ ((_,sy,dn,dm,kp,_),bs,_) _=>by
 refine br gM [] Tryz.func44 (?_:(fun q1=>(fun q0=>(dn=false->31=q1/\sy=q0.synced/\dn=q0.down/\dm=q0.doomed/\kp=q0.keep/\bs=q0.b)/\(dn=true->0=q1/\sy=q0.synced/\false=q0.down/\false=q0.doomed/\0=q0.keep/\bs=q0.b)) (if dn=true then (Dsk.mk bs sy dn dm kp).up else Dsk.mk bs sy dn dm kp)) (if dn=true then (0:Int) else (31:Int)));(repeat' with_reducible first|apply aZ|refine aY ?_|intro) <;> grind [Dsk.up]
noncomputable def vF:Kn:=aK (ae (kC (aX 0 0)) (ae (kC cI) ao)) (aC (dH 147 (ax (eO 1) (ax cI (ax cB (ax cB (ax cI dv)))))) (aC (eW 5 .u8) aw)) fun (_,k,_) ((_,sy,dn,dm,kp,_),bs,_)=>⟨[(Dsk.mk bs sy dn dm kp).OK],[],some ([.box 147 ([.own 1,.int ((((Dsk.mk bs sy dn dm kp).cD k).synced)),.bool (.atom ((((Dsk.mk bs sy dn dm kp).cD k).down))),.bool (.atom ((((Dsk.mk bs sy dn dm kp).cD k).doomed))),.int ((((Dsk.mk bs sy dn dm kp).cD k).keep))]),.row 5 .u8 ((((Dsk.mk bs sy dn dm kp).cD k).b))]),false⟩
theorem IQ:CK 39 vF:=ag fun (_,k,_) ((_,sy,dn,dm,kp,_),bs,_) hp=>by
 have h0:=cc hp;refine br (xE gM) [] Tryz.func39 (?_:(fun q1=>(fun q0=>I64 k->I64 ((↑bs.length:Int) - sy)/\I64 q0/\(0<=q0/\q0<=(↑bs.length:Int))/\(↑(List.take q0.toNat bs).length:Int)=q1.synced/\true=q1.down/\false=q1.doomed/\0=q1.keep/\List.take q0.toNat bs=q1.b) (sy+min (max k 0) ((↑bs.length:Int) - sy))) ((Dsk.mk bs sy dn dm kp).cD k));obtain ⟨o1,o2,o3⟩:=h0;dsimp only at o1 o2 o3;(repeat' with_reducible first|apply aZ|refine aY ?_|intro) <;> first | (first | with_reducible rfl | with_reducible assumption | omega | (refine bR ?_ ?_ <;> omega)) | (simp only [Dsk.cD,Dsk.at_]; first | done | (first | with_reducible rfl | with_reducible assumption | omega | (refine bR ?_ ?_ <;> omega)) | (rw [List.length_take]; omega))
noncomputable def GK:Kn:=aK (ae (kC (aX 0 0)) (ae (kC cI) ao)) (aC (dH 147 (ax (eO 1) (ax cI (ax cB (ax cB (ax cI dv)))))) (aC (eW 5 .u8) aw)) fun (_,k,_) ((_,sy,dn,dm,kp,_),bs,_)=>⟨[(Dsk.mk bs sy dn dm kp).OK],[.c (.int (((Dsk.mk bs sy dn dm kp).kv k)))],some ([.box 147 ([.own 1,.int ((((Dsk.mk bs sy dn dm kp).cut k).synced)),.bool (.atom ((((Dsk.mk bs sy dn dm kp).cut k).down))),.bool (.atom ((((Dsk.mk bs sy dn dm kp).cut k).doomed))),.int ((((Dsk.mk bs sy dn dm kp).cut k).keep))]),.row 5 .u8 ((((Dsk.mk bs sy dn dm kp).cut k).b))]),false⟩
theorem TG:CK 45 GK:=ag fun (_,k,_) ((_,sy,dn,dm,kp,_),bs,_) hp=>by
 have h0:=cc hp;refine br (xE gM) [] Tryz.func45 (?_:(fun q1=>(fun q0=>(fun q2=>I64 k->(dn=true->30=q1.kv k/\q2)/\(dn=false->(k<0\/(↑bs.length:Int)<k->1=q1.kv k/\q2)/\(0<=k/\k<=(↑bs.length:Int)->0<=k/\k<=(↑bs.length:Int)/\0=q1.kv k/\k=q0.synced/\dn=q0.down/\dm=q0.doomed/\kp=q0.keep/\List.take k.toNat bs=q0.b))) (sy=q0.synced/\dn=q0.down/\dm=q0.doomed/\kp=q0.keep/\bs=q0.b)) (q1.cut k)) (Dsk.mk bs sy dn dm kp));obtain ⟨o1,o2,o3⟩:=h0;dsimp only at o1 o2 o3;(repeat' with_reducible first|apply aZ|refine aY ?_|intro) <;> first | (first | with_reducible rfl | with_reducible assumption | omega | (refine bR ?_ ?_ <;> omega)) | grind [Dsk.cut,Dsk.kv]
noncomputable def GA:Kn:=aK (ae (kC (aX 0 0)) (ae (kC (cL .u8)) ao)) (aC (dH 147 (ax (eO 1) (ax cI (ax cB (ax cB (ax cI dv)))))) (aC (eW 5 .u8) aw)) fun (_,x,_) ((_,sy,dn,dm,kp,_),bs,_)=>⟨[(Dsk.mk bs sy dn dm kp).OK],[.c (.int (((Dsk.mk bs sy dn dm kp).jW x)))],some ([.box 147 ([.own 1,.int ((((Dsk.mk bs sy dn dm kp).app x).synced)),.bool (.atom ((((Dsk.mk bs sy dn dm kp).app x).down))),.bool (.atom ((((Dsk.mk bs sy dn dm kp).app x).doomed))),.int ((((Dsk.mk bs sy dn dm kp).app x).keep))]),.row 5 .u8 ((((Dsk.mk bs sy dn dm kp).app x).b))]),false⟩
theorem RK:CK 150 GA:=ag fun (_,x,_) ((_,sy,dn,dm,kp,_),bs,_) hp=>by
 have h0:=cc hp;refine br gM [] Tryz.func150 (?_:(fun q2=>(fun q1=>(fun q0=>(fun q3=>x.length*1<=140737488355328->(dn=true->30=q2.jW x/\q3)/\(dn=false->I64 q1/\(q1<(↑x.length:Int)->20=q2.jW x/\q3)/\((↑x.length:Int)<=q1->(bs.length+x.length)*1<=140737488355328/\0=q2.jW x/\sy=q0.synced/\dn=q0.down/\dm=q0.doomed/\kp=q0.keep/\bs++x=q0.b))) (sy=q0.synced/\dn=q0.down/\dm=q0.doomed/\kp=q0.keep/\bs=q0.b)) (q2.app x)) (65536 - (↑bs.length:Int))) (Dsk.mk bs sy dn dm kp));obtain ⟨o1,o2,o3⟩:=h0;dsimp only at o1 o2 o3;(repeat' with_reducible first|apply aZ|refine aY ?_|intro) <;> first | (first | with_reducible rfl | with_reducible assumption | omega | (refine bR ?_ ?_ <;> omega)) | grind [Dsk.app,Dsk.jW]
noncomputable def vC:Kn:=aK (ae (kC (aX 0 0)) ao) (aC (dH 147 (ax (eO 1) (ax cI (ax cB (ax cB (ax cI dv)))))) (aC (eW 5 .u8) aw)) fun _ ((_,sy,dn,dm,kp,_),bs,_)=>⟨[(Dsk.mk bs sy dn dm kp).OK],[.c (.own 2)],some ([.box 147 ([.own 1,.int ((sy)),.bool (.atom ((dn))),.bool (.atom ((dm))),.int ((kp))]),.row 5 .u8 ((bs)),.row 5 .u8 ((bs))]),true⟩
theorem Ho:CK 42 vC:=ag fun _ ((_,sy,dn,dm,kp,_),bs,_) hp=>by
 have h0:=cc hp;refine dD gM [] Tryz.func42 (?_:(fun (q0:Nat)=>(0:Int)<=(↑q0:Int)/\(↑q0:Int)*(↑(1:Nat):Int)<=(140737488355328:Int)/\(↑q0:Int)=(↑q0:Int)/\sy=sy/\dn=dn/\dm=dm/\kp=kp/\bs=bs/\List.take (List.replicate q0 (au Sh.u8)).length bs++List.drop q0 (List.replicate q0 (au Sh.u8))=bs) bs.length);obtain ⟨o1,o2,o3⟩:=h0;dsimp only at o1 o2 o3;(repeat' with_reducible first|apply aZ|refine aY ?_|intro) <;> first | (first | with_reducible rfl | with_reducible assumption | omega | (refine bR ?_ ?_ <;> omega)) | simp
noncomputable def ES:Kn:=aK ao aw fun _ _=>⟨[],[.c (.ptr 0 0)],some ([.box 147 ([.em true,.int ((0)),.bool (.atom ((false))),.bool (.atom ((false))),.int ((0))])]),true⟩
theorem GG:CK 38 ES:=ag fun _ _ _=>by
 refine dD gM [] Tryz.func38 (?_:(0:Int)=0/\false=false/\false=false/\(0:Int)=0);(repeat' with_reducible first|apply aZ|refine aY ?_|intro) <;> (first | with_reducible rfl | with_reducible assumption | omega | (refine bR ?_ ?_ <;> omega))
theorem Rz :Sat Tryz.prog (al tyT) 38 [] [] ⟨[],[.c (.ptr 0 0)],some ([.box 147 ([.em true,.int ((0)),.bool (.atom ((false))),.bool (.atom ((false))),.int ((0))])]),true⟩:=GG _ _ _ rfl (by simp)
noncomputable def adE:bN:=(aO 38 ES (aO 42 vC (aO 150 GA (aO 45 GK (aO 39 vF (aO 44 JW (aO 108 yW (aO 40 zJ ac3))))))))
theorem gi:ay Tryz.prog (al tyT) adE:=(ah GG (ah Ho (ah RK (ah TG (ah IQ (ah Zm (ah Ol (ah MR gM))))))))
variable {x:UInt8} {k:Nat}
theorem vP {q:Nat × Nat} {l:List UInt8} (h:l[k]? = some x):ig q (l.take (k+1))=Mn (ig q (l.take k)) x:=by
 rw [ai h,ig,List.foldl_append]; rfl
variable {b:List UInt8}
theorem Xe {s:Nat} (h:b[k]? = some x):((ig (s % 65536 % 65521,s / 65536 % 65521) (b.take k)).1+x.toNat) % 4294967296 % 65521=(ig (s % 65536 % 65521,s / 65536 % 65521) (b.take (k+1))).1:=by
 have:=(qE (s:=s) (b.take k)).1;have:=x.toNat_lt;rw [vP h,Mn];omega
theorem Yy {s:Nat} (h:b[k]? = some x):((ig (s % 65536 % 65521,s / 65536 % 65521) (b.take k)).2+((ig (s % 65536 % 65521,s / 65536 % 65521) (b.take k)).1+x.toNat) % 4294967296 % 65521) % 4294967296 % 65521=(ig (s % 65536 % 65521,s / 65536 % 65521) (b.take (k+1))).2:=by
 have:=(qE (s:=s) (b.take k));have:=x.toNat_lt;rw [vP h,Mn];omega
theorem Za {s:Nat} (h:(b.length:Int)<=k):(65536*(ig (s % 65536 % 65521,s / 65536 % 65521) (b.take k)).2 % 4294967296+(ig (s % 65536 % 65521,s / 65536 % 65521) (b.take k)).1) % 4294967296=dU s b:=by
 have:=(qE (s:=s) b);rw [List.take_of_length_le (by omega),dU];omega
variable {x:Bool} {l:List Bool}
theorem af9 (h:l[k]? = some x) (hx:x=true):(((l.take k).countP id:Nat):Int)+1=((l.take (k+1)).countP id:Nat):=by
 rw [ai h,List.countP_append,hx]; simp
theorem agp (h:l[k]? = some x) (hx:x=false):(((l.take k).countP id:Nat):Int)=((l.take (k+1)).countP id:Nat):=by
 rw [ai h,List.countP_append,hx]; simp
theorem ahT (h:(l.length:Int)<=k):decide ((l.length:Int).tdiv 2<((l.take k).countP id:Nat))=decide ((l.length:Int).tdiv 2<(l.countP id:Nat)):=by
 rw [List.take_of_length_le (by omega)]
theorem ag7 (h:l.length*1<=140737488355328):I64 (((l.take k).countP id:Nat)+1):=by
 have h1:(l.take k).countP id<=(l.take k).length:=List.countP_le_length;rw [List.length_take] at h1;exact bR aL aL
variable {l:List Entry}
theorem Qx (h:(l.length:Int)=0):(0:Int)=gY l:=by
 rw [aa9 (l:=l) (by omega)]; rfl
theorem Tw (h:¬ (l.length:Int)=0):(l.getD ((l.length:Int) - 1).toNat (au (Sh.nm NT.entry))).term=gY l:=by
 rw [show ((l.length:Int) - 1).toNat=l.length - 1 by omega]; rfl
theorem Rs {k:Int} {x:Entry} (h0:¬ k=0) (h1:0<=k) (h2:k<=(l.length:Int)) (h:l[(k - 1).toNat]? = some x):x.term=cJ l k:=by
 rw [cJ,if_neg h0,if_neg (by omega),List.getD_eq_getElem?_getD,h]; rfl
def Ys (s:Nat) (b:List UInt8):List (Nat × LI):=[(3,{ σ:=Nat,F:=fun k=>([(5,one (.ptr 0 0)),(15,one (.fz .u8 (b))),(16,one (.int (b).length)),(17,one (.int k))],[.box 286 ([.xx (.w (((ig (s % 65536 % 65521,s / 65536 % 65521) (b.take k)).1))) [],.xx (.w (((ig (s % 65536 % 65521,s / 65536 % 65521) (b.take k)).2))) []])]),J:=fun k=>k<=b.length,μ:=fun k=>(b).length - k })]
def Zx (l:List Bool):List (Nat × LI):=[(3,{ σ:=Nat,F:=fun k=>([(0,one (.fz .bool (l))),(3,one (.int ((l.take k).countP id))),(6,one (.fz .bool (l))),(7,one (.int (l).length)),(8,one (.int k))],[]),J:=fun k=>k<=l.length,μ:=fun k=>(l).length - k })]
noncomputable def zx:Kn:=aK (ae (kC (aX 0 0)) ao) (aC (dH 147 (ax (eO 1) (ax cI (ax cB (ax cB (ax cI dv)))))) (aC (eW 5 .u8) aw)) fun _ ((_,sy,dn,dm,kp,_),bs,_)=>⟨[(Dsk.mk bs sy dn dm kp).OK],[.c (.int (((Dsk.mk bs sy dn dm kp).ft)))],some ([.box 147 ([.own 1,.int ((((Dsk.mk bs sy dn dm kp).sync).synced)),.bool (.atom ((((Dsk.mk bs sy dn dm kp).sync).down))),.bool (.atom ((((Dsk.mk bs sy dn dm kp).sync).doomed))),.int ((((Dsk.mk bs sy dn dm kp).sync).keep))]),.row 5 .u8 ((((Dsk.mk bs sy dn dm kp).sync).b))]),false⟩
theorem Nh:CK 151 zx:=ag fun _ ((_,sy,dn,dm,kp,_),bs,_) hp=>by
 have h0:=cc hp;refine br gi [] Tryz.func151 (?_:(fun q0=>(fun q3=>(fun q2=>(fun q1=>(dn=true->30=q0.ft/\sy=q2.synced/\q1)/\(dn=false->(dm=true->(0<=sy/\sy<=(↑bs.length:Int)/\bs.length<=65536)/\30=q0.ft/\q3.synced=q2.synced/\q3.down=q2.down/\q3.doomed=q2.doomed/\q3.keep=q2.keep/\q3.b=q2.b)/\(dm=false->0=q0.ft/\(↑bs.length:Int)=q2.synced/\q1))) (dn=q2.down/\dm=q2.doomed/\kp=q2.keep/\bs=q2.b)) q0.sync) (q0.cD kp)) (Dsk.mk bs sy dn dm kp));obtain ⟨o1,o2,o3⟩:=h0;dsimp only at o1 o2 o3;(repeat' with_reducible first|apply aZ|refine aY ?_|intro) <;> first | (first | with_reducible rfl | with_reducible assumption | omega | (refine bR ?_ ?_ <;> omega)) | grind [Dsk.sync,Dsk.ft]
theorem Ot :Sat Tryz.prog (al tyT) 38 [] [] ⟨[],[.c (.ptr 0 0)],some ([.box 147 ([.own 1,.int ((0)),.bool (.atom ((false))),.bool (.atom ((false))),.int ((0))]),.row 5 .u8 (([]))]),true⟩:=Sat.LJ 0 0 5 .u8 bE rfl rfl Rz rfl
noncomputable def yo:Kn:=aK ao aw fun _ _=>⟨[],[.c (.ptr 0 0)],some ([.box 147 ([.own 1,.int ((0)),.bool (.atom ((false))),.bool (.atom ((false))),.int ((0))]),.row 5 .u8 (([]))]),true⟩
theorem NK:CK 38 yo:=ag fun _ _ _=>Ot
noncomputable def Eb:Kn:=aK (ae (kC cW) (ae (kC (cL .u8)) ao)) aw fun (s,b,_) _=>⟨[],[.c (.xx (.w ((dU s b))) [])],none,false⟩
theorem Ry:CK 252 Eb:=ag fun (s,b,_) _ _=>by
 refine av gi (Ys s b) Tryz.func252 (?_:(fun (q7:Nat)=>(fun (q6:Nat)=>(fun (q5:Int)=>(fun (q4:Nat)=>(fun (q3:Nat)=>(fun (q2:Int)=>(fun (q1:Int)=>(fun (q0:Nat × Nat)=>b.length*(1:Nat)<=(140737488355328:Nat)->q7<q6/\q7<q3/\q7<q6/\q7<q3/\∃ (s0:Nat),(b=b/\(↑b.length:Int)=(↑q4:Int)/\q1=(↑s0:Int)/\s % q6 % q3=(ig q0 (List.take s0 b)).fst/\s / q6 % q3=(ig q0 (List.take s0 b)).snd)/\s0<=q4/\∀ (s_1:Nat),(fun (q8:Nat × Nat)=>s_1<=q4->((↑s_1:Int)<(↑q4:Int)->q1<=(↑s_1:Int)/\(↑s_1:Int)<(↑b.length:Int)/\∀ (x:UInt8),(fun (q9:Nat)=>b[s_1]? = some x->q1<=q1/\q1<q2/\q7<q3/\q1<=q1/\q1<q2/\q1<=q5/\q5<q2/\q1<=q1/\q1<q2/\q7<q3/\q1<=q5/\q5<q2/\I64 ((↑s_1:Int)+q5)/\∃ (s':Nat),(b=b/\(↑q4:Int)=(↑q4:Int)/\(↑s_1:Int)+q5=(↑s':Int)/\q9=(ig q0 (List.take s' b)).fst/\(q8.snd+q9) % (4294967296:Nat) % q3=(ig q0 (List.take s' b)).snd)/\s' <= q4/\q4 - s' < q4 - s_1) ((q8.fst+x.toNat) % (4294967296:Nat) % q3))/\((↑q4:Int)<=(↑s_1:Int)->q1<=q5/\q5<q2/\q1<=q1/\q1<q2/\(q6*q8.snd % (4294967296:Nat)+q8.fst) % (4294967296:Nat)=dU s b)) (ig q0 (List.take s_1 b))) (s % q6 % q3,s / q6 % q3)) (0:Int)) (↑(2:Nat):Int)) (65521:Nat)) b.length) (1:Int)) (65536:Nat)) (0:Nat));(repeat' with_reducible first|apply aZ|refine aY ?_|intro)
 all_goals try ( refine ⟨0,?_⟩; (repeat' with_reducible first|apply aZ|refine aY ?_|intro))
 all_goals try ( refine ⟨‹Nat› + 1,?_⟩; (repeat' with_reducible first|apply aZ|refine aY ?_|intro))
 all_goals (first | exact bt | exact rfl | exact (Xe ab) | exact (Yy ab) | exact (Za ab))
noncomputable def qf:Kn:=aK (ae (kC (cL .u8)) ao) aw fun (l,_) _=>⟨[],[.c (.fz .u8 ((l)))],none,false⟩
theorem Bv:CK 104 qf:=ag fun (l,_) _ _=>by
 refine av gi [] Tryz.func104 (?_:(fun q0=>q0->∀ (b:Bool),(b=true->l=[])->(b=true->l=[])/\(b=false->q0/\l=l)) (l.length*1<=140737488355328));grind
noncomputable def Ea:Kn:=aK (ae (kC (cL (.nm .entry))) ao) aw fun (l,_) _=>⟨[],[.c (.int (((l.length:Int)))),.c (.int ((gY l)))],none,false⟩
theorem Sw:CK 49 Ea:=ag fun (l,_) _ _=>by
 refine av gi [] Tryz.func49 (?_:(fun q1=>(fun q0=>(fun q2=>l.length*32<=140737488355328->(q1=0->0=(↑l.length:Int)/\0=gY l)/\(¬q1=0->I64 q0/\(0<=q0/\q0<q1)/\(I64 q2.term->q2.b.length*1<=140737488355328->q1=(↑l.length:Int)/\q2.term=gY l))) (l.getD q0.toNat (au (Sh.nm NT.entry)))) (q1 - 1)) (↑l.length:Int));(repeat' with_reducible first|apply aZ|refine aY ?_|intro)
 all_goals (first | exact bt | exact (Qx ab) | exact (Tw ab))
noncomputable def DT:Kn:=aK (ae (kC (cL (.nm .entry))) (ae (kC cI) ao)) aw fun (l,k,_) _=>⟨[],[.c (.int ((cJ l k)))],none,false⟩
theorem QR:CK 193 DT:=ag fun (l,k,_) _ _=>by
 refine av gi [] Tryz.func193 (?_:(fun q1=>(fun q0=>l.length*32<=140737488355328->I64 k->(k=q1->q1=cJ l k)/\(¬k=q1->(k<q1\/(↑l.length:Int)<k -> -1=cJ l k)/\(q1<=k/\k<=(↑l.length:Int)->I64 q0/\q1<=q0/\q0<(↑l.length:Int)/\∀ (x:Entry),l[q0.toNat]? = some x->I64 x.term->x.b.length*1<=140737488355328->x.term=cJ l k))) (k - 1)) (0:Int));(repeat' with_reducible first|apply aZ|refine aY ?_|intro)
 all_goals (first | exact bt | exact (Rs ab ab ab ab) | (rw [cJ,if_pos ab]) | (rw [cJ,if_neg ab,if_pos ab]))
noncomputable def Eu:Kn:=aK (ae (kC cI) (ae (kT (.nm .letter)) ao)) aw fun (n,x,_) _=>⟨[0<=x.a/\x.a<=64],[.c (.int ((jv n x)))],none,false⟩
theorem TE:CK 172 Eu:=ag fun (n,x,_) _ hp=>by
 have h0:=cc hp;refine av gi [] Tryz.func172 (?_:(fun q0=>(fun q1=>I64 n->aJ x ((x.ok=true->I64 q1/\q1=jv n x)/\(x.ok=false->(q0<n->I64 (n - q0)/\I64 q1/\min (n - q0) q1=jv n x)/\(n<=q0->q0=jv n x)))) (x.a+q0)) (1:Int));(repeat' with_reducible first|apply aZ|refine aY ?_|intro)
 all_goals first | exact bt | (simp only [jv]; grind) | (have q:=(by with_reducible assumption:I64 n); exact bR (by have:=q.1; omega) (by have:=q.2; omega))
noncomputable def EI:Kn:=aK (ae (kC cI) (ae (kC cI) ao)) aw fun (t,v,_) _=>⟨[],[.c (.own 0)],some ([.row 108 (.nm .record) (([⟨2,t,v,[]⟩]))]),true⟩
theorem UE:CK 88 EI:=ag fun (t,v,_) _ _=>by
 refine dD gi [] Tryz.func88 (?_:I64 t->I64 v->[Record.mk 2 t v []]=[Record.mk 2 t v []]);intros; rfl
noncomputable def ET:Kn:=aK (ae (kC (cL .bool)) ao) aw fun (l,_) _=>⟨[],[.c (.bool (.atom ((qm l))))],none,false⟩
theorem RQ:CK 101 ET:=ag fun (l,_) _ _=>by
 refine av gi (Zx l) Tryz.func101 (?_:(fun q2=>(fun q1=>(fun q0=>(fun q3=>l.length*(1:Nat)<=(140737488355328:Nat)->∃ s0,(l=l/\(0:Int)=(↑(List.countP id (List.take s0 l)):Int)/\l=l/\q2=q3/\(0:Int)=(↑s0:Int))/\s0<=q0/\∀ (s:Nat),(fun q5=>(fun q4=>s<=q0->((↑s:Int)<q3->(0:Int)<=(↑s:Int)/\(↑s:Int)<q2/\∀ (x:Bool),l[s]? = some x->(x=true->I64 (q4+q1)/\I64 q5/\∃ s',(l=l/\q4+q1=(↑(List.countP id (List.take s' l)):Int)/\l=l/\q3=q3/\q5=(↑s':Int))/\s' <= q0/\q0 - s' < q0 - s)/\(x=false->I64 q5/\∃ s',(l=l/\q4=(↑(List.countP id (List.take s' l)):Int)/\l=l/\q3=q3/\q5=(↑s':Int))/\s' <= q0/\q0 - s' < q0 - s))/\(q3<=(↑s:Int)->(0:Int)<=q2/\(0:Int)<(2:Int)/\decide (q2.tdiv (2:Int)<q4)=qm l)) (↑(List.countP id (List.take s l)):Int)) ((↑s:Int)+q1)) (↑q0:Int)) l.length) (1:Int)) (↑l.length:Int));iterate 3 ((all_goals (repeat' with_reducible first|apply aZ|refine aY ?_|intro)); (all_goals try (first | exact bt | exact rfl | exact (af9 ab ab) | exact (agp ab ab) | exact (ag7 ab) | exact (ahT ab))); all_goals try first | refine ⟨‹Nat› + 1,?_⟩ | refine ⟨0,?_⟩)
noncomputable def Le:Kn:=aK (ae (kC cI) (ae (kC cI) (ae (kC cI) ao))) aw fun (n,a,b,_) _=>⟨[],[.c (.bool (.atom ((cj n a b))))],none,false⟩
theorem ZT:CK 165 Le:=ag fun (n,a,b,_) _ _=>by
 refine av gi [] Tryz.func165 (?_:I64 n->I64 a->I64 b->(decide (a<=n) && decide (n<=b))=cj n a b);grind [cj]
noncomputable def ab0:bN:=(aO 165 Le (aO 101 ET (aO 88 EI (aO 172 Eu (aO 193 DT (aO 49 Ea (aO 104 qf (aO 252 Eb (aO 38 yo (aO 151 zx adE))))))))))
theorem jQ:ay Tryz.prog (al tyT) ab0:=(ah ZT (ah RQ (ah UE (ah TE (ah QR (ah Sw (ah Bv (ah Ry (ah NK (ah Nh gi))))))))))
noncomputable def Ad:Kn:=aK (ae (kC (cL .u8)) ao) aw fun (b,_) _=>⟨[],[.c (.xx (.w ((dU 1 b))) [])],none,false⟩
theorem KS:CK 209 Ad:=ag fun (b,_) _ _=>by
 refine av jQ [] Tryz.func209 (?_:b.length*1<=140737488355328->dU 1 b=dU 1 b);intros; rfl
noncomputable def LD:Kn:=aK (ae (kC (cL .u8)) ao) aw fun (b,_) _=>⟨[],[.c (.fz .u8 ((b)))],none,false⟩
theorem Xk:CK 211 LD:=ag fun (b,_) _ _=>by
 refine av jQ [] Tryz.func211 (?_:(fun q0=>q0->((↑b.length:Int)=0->b=[])/\(¬(↑b.length:Int)=0->q0->b=b)) (b.length*1<=140737488355328));(repeat' with_reducible first|apply aZ|refine aY ?_|intro)
 all_goals (first | exact bt | exact (aa9 aL).symm | exact (aa9 aL))
noncomputable def mi:Kn:=aK (ae (kC (cL (.nm .entry))) ao) aw fun (l,_) _=>⟨[],[.c (.own 0)],some ([.row 52 (.nm .entry) ((l))]),true⟩
theorem ua:CK 213 mi:=ag fun (l,_) _ _=>by
 refine dD jQ [] Tryz.func213 (?_:(fun q0=>q0->∀ (b:Bool),(b=true->l=[])->(b=true->l=[])/\(b=false->q0/\l=l)) (l.length*32<=140737488355328));exact fun h b hb=>⟨hb,fun _=>⟨h,rfl⟩⟩
noncomputable def AK:Kn:=aK (ae (kC (cL (.nm .entry))) (ae (kC cI) (ae (kC cI) ao))) aw fun (l,k,m,_) _=>⟨[],[.c (.bool (.atom ((decide (cJ l k=m)))))],none,false⟩
theorem KP:CK 166 AK:=ag fun (l,k,m,_) _ _=>by
 refine av jQ [] Tryz.func166 (?_:l.length*32<=140737488355328->I64 k->I64 m->I64 (cJ l k)->decide (cJ l k=m)=decide (cJ l k=m));intros; rfl
noncomputable def AN:Kn:=aK (ae (kC (cL (.nm .entry))) (ae (kC cI) (ae (kC cI) ao))) aw fun (l,k,m,_) _=>⟨[],[.c (.bool (.atom ((ke l k m))))],none,false⟩
theorem Nt:CK 170 AN:=ag fun (l,k,m,_) _ _=>by
 refine av jQ [] Tryz.func170 (?_:l.length*32<=140737488355328->I64 k->I64 m->I64 (↑l.length:Int)->I64 (gY l)->(decide (gY l<m) || decide (m=gY l) && decide ((↑l.length:Int)<=k))=ke l k m);intros; rfl
noncomputable def Ah:Kn:=aK (ae (kC cI) (ae (kC cI) (ae (kC cB) ao))) aw fun (n,m,bb,_) _=>⟨[],[.c (.bool (.atom ((dS n m bb))))],none,false⟩
theorem N_:CK 164 Ah:=ag fun (n,m,bb,_) _ _=>by
 refine av jQ [] Tryz.func164 (?_:I64 n->I64 m->(bb=false->cj n 0 0=dS n m bb)/\(bb=true->cj n 0 m=dS n m bb));(repeat' with_reducible first|apply aZ|refine aY ?_|intro)
 all_goals first | exact bt | (simp only [dS]; grind)
noncomputable def ad2:bN:=(aO 164 Ah (aO 170 AN (aO 166 AK (aO 213 mi (aO 211 LD (aO 209 Ad ab0))))))
theorem iQ:ay Tryz.prog (al tyT) ad2:=(ah N_ (ah Nt (ah KP (ah ua (ah Xk (ah KS jQ))))))
end Go.Proofs.YticbaadnibdbkaaGreat
