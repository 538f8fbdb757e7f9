/- What leads to the law, part 7. Conditions: each lemma's own. -/
import Derived.Test.YtladifkbefehdaaGreatKMPM6
set_option linter.unusedVariables false
set_option linter.unusedSimpArgs false
namespace Go.Proofs.YtladifkbefehdaaGreat
open Go.RowKit
theorem Sr {l:List Field} {k:Nat} (hk:k<=l.length) (h0:0<(k:Int)):l[k - 1]? = some (l.getD ((k:Int) - 1).toNat (dflt (.nm .field))):=by
 rw [show ((k:Int) - 1).toNat=k - 1 by omega,List.getD_eq_getElem?_getD,List.getElem?_eq_getElem (by omega)]; rfl
theorem zO {l:List Field} {k:Nat} {x:Field} (h:(k:Int)<=0\/cS (l.getD ((k:Int) - 1).toNat (dflt (.nm .field))) x=true) (hk:k<=l.length):sE l k x:=by
 by_cases h0:0<(k:Int)
 ·exact .inr ⟨_,Sr hk h0,h.resolve_left aG⟩
 ·exact .inl aG
theorem Uh {v:Int} {k:Nat}:(((bd.take k).filter (fun s=>decide (s.since<=v))).length+1)*32<=140737488355328:=by
 have:=vM (v:=v) (k:=k); omega
theorem Of {v:Int} {k:Nat} (h1:1<=v) (h3:v<=3) (hk:8<=(k:Int)):(bd.take k).filter (fun s=>decide (s.since<=v))=aK v:=Il (by omega) (by show 8<=k; omega)
theorem Tl {l:List Field} {v:Int}:bD (l.take 0) v=[]:=rfl
theorem UF {l:List Field} {v:Int}:cC (l.take 0) v=[]:=rfl
theorem Xo {l:List Field} {v:Int} {k:Nat} {x:Field} (hx:l[k]? = some x) (h:x.num<=v):bD (l.take k) v++[x]=bD (l.take (k+1)) v:=MM hx h
theorem Xh {l:List Field} {v:Int} {k:Nat} {x:Field} (hx:l[k]? = some x) (h:¬ x.num<=v):bD (l.take k) v=bD (l.take (k+1)) v:=PY hx h
theorem WB {l:List Field} {v:Int} {k:Nat} {x:Field} (hx:l[k]? = some x) (h:¬ x.num<=v):cC (l.take k) v++[x]=cC (l.take (k+1)) v:=Lp hx h
theorem Wg {l:List Field} {v:Int} {k:Nat} {x:Field} (hx:l[k]? = some x) (h:x.num<=v):cC (l.take k) v=cC (l.take (k+1)) v:=OY hx h
theorem Vc {l:List Field} {v:Int} {k:Nat} (hk:l.length<=k):bD (l.take k) v=bD l v:=BX hk
theorem WW {l:List Field} {v:Int} {k:Nat} (hk:l.length<=k):cC (l.take k) v=cC l v:=HY hk
attribute [local irreducible] bD cC
def Jt (l:List Field):List (Nat × LI):=[(3,{ σ:=Nat,F:=fun k=>([(0,one (.fz (.nm .field) (l))),(3,one (.int (dX (l.take k):Nat))),(6,one (.fz (.nm .field) (l))),(7,one (.int (l).length)),(8,one (.int k))],[]),J:=fun k=>k<=l.length/\cT none l=cT (dE l k) (l.drop k)/\dX (l.take k)<=k*16404,μ:=fun k=>(l).length - k })]
def Dw (q:Int) (v:Int):List (Nat × LI):=[(5,{ σ:=Nat,F:=fun k=>([(1,one (.int (v))),(5,one (.own 0)),(15,one (.fz (.nm .spec) bd)),(16,one (.int 8)),(17,one (.int k))],[.row 128 (.nm .spec) (((bd.take k).filter (fun (s:Spec)=>decide (s.since<=v))))]),J:=fun k=>k<=8,μ:=fun k=>8 - k })]
def za (l:List Field) (v:Int):List (Nat × LI):=[(2,{ σ:=Nat,F:=fun k=>([(1,one (.int (v))),(4,one (.own 0)),(5,one (.own 1)),(8,one (.fz (.nm .field) (l))),(9,one (.int (l).length)),(10,one (.int k))],[.row 90 (.nm .field) ((bD (l.take k) v)),.row 90 (.nm .field) ((cC (l.take k) v))]),J:=fun k=>k<=l.length,μ:=fun k=>(l).length - k })]
def Hz (l:List Field):List (Nat × LI):=[(3,{ σ:=Nat,F:=fun k=>([(2,one (.ptr 0 0)),(3,one (.ptr 1 0)),(6,one (.fz (.nm .field) (l))),(7,one (.int (l).length)),(8,one (.int k))],[.box 24 (cellsOf (.nm .command) ((bG))),.box 24 (cellsOf (.nm .command) (((bQ (l.take k)))))]),J:=fun k=>k<=l.length,μ:=fun k=>(l).length - k })]
theorem Le (b:List UInt8) (s:Int) (r0:U64) (r1:Int) (r2:List UInt8) (r3:Int):nE tyT uX [] Tryz.f125 [.c (.ptr 0 0),.c (.ptr 1 0)] [.box 28 ([.fz .u8 (b)]),.box 3 ([.int (s)])] [.c (.u64 (r0).n),.c (.int (r1))] [.box 28 ([.fz .u8 (r2)]),.box 3 ([.int (r3)])]=((fun (q0:Nat × Nat × Int)=>(0:Int)<=s/\s<=(↑b.length:Int)/\(q0.fst<(18446744073709551616:Nat)->I64 (↑q0.snd.fst:Int)->I64 q0.snd.snd->I64 (s+(↑q0.snd.fst:Int))/\q0.fst=r0.n/\q0.snd.snd=r1/\b=r2/\s+(↑q0.snd.fst:Int)=r3)) (aw (List.drop s.toNat b))):=by kernel_rfl
theorem Km (b:List UInt8) (s:Int) (h0:0<=s) (h1:s<=(b.length:Int)) (h2:b.length*1<=140737488355328):Sat Tryz.prog (al tyT) 125 [.c (.ptr 0 0),.c (.ptr 1 0)] [.box 28 ([.fz .u8 (b)]),.box 3 ([.int (s)])] ⟨[0<=s,s<=(b.length:Int),b.length*1<=140737488355328],[.c (.u64 ((U64.mk (aw (b.drop s.toNat)).1)).n),.c (.int (((aw (b.drop s.toNat)).2.2)))],some ([.box 28 ([.fz .u8 ((b))]),.box 3 ([.int ((s+((aw (b.drop s.toNat)).2.1:Nat)))])]),false⟩:=by
 refine dI iA [] Tryz.func125 (by decide) (by kernel_rfl) ?_
 rw [Le]
 (repeat' (first | with_reducible apply bu | with_reducible refine bw ?_ | intro))
 all_goals (first | exact bT | (have:=(fY b s.toNat).1; refine dY ?_ ?_ <;> omega))
theorem Gx (b:List UInt8) (r0:Field):ck tyT uX [] Tryz.f94 [.c (.fz .u8 (b))] [] [.agg (cellsOf (.nm .field) r0)]=((fun (q1:TagR)=>(fun (q0:Int)=>b.length*(1:Nat)<=(140737488355328:Nat)->I64 q1.num->I64 q1.wire->I64 (↑q1.k:Int)->I64 q1.e->(0:Int)<=(↑q1.k:Int)/\(↑q1.k:Int)<=(↑b.length:Int)/\((aw (List.drop q1.k b)).fst<(18446744073709551616:Nat)->I64 (↑(aw (List.drop q1.k b)).snd.fst:Int)->I64 (aw (List.drop q1.k b)).snd.snd->(q1.wire=(0:Int)->q1.num=r0.num/\q1.wire=r0.wire/\(aw (List.drop q1.k b)).fst=r0.n.n/\r0.b=[])/\(¬q1.wire=(0:Int)->I64 q0/\(0:Int)<=q0/\q0<=(↑b.length:Int)/\(List.drop q0.toNat b).length*(1:Nat)<=(140737488355328:Nat)/\q1.num=r0.num/\q1.wire=r0.wire/\(0:Nat)=r0.n.n/\List.drop q0.toNat b=r0.b))) ((↑q1.k:Int)+(↑(aw (List.drop q1.k b)).snd.fst:Int))) (aB b)):=by kernel_rfl
theorem HD (b:List UInt8):Sat Tryz.prog (al tyT) 94 [.c (.fz .u8 (b))] [] ⟨[],[.agg (cellsOf (.nm .field) (fC b))],none,false⟩:=by
 refine aJ iA [] Tryz.func94 (by decide) (by kernel_rfl) ?_
 rw [Gx]
 (repeat' (first | with_reducible apply bu | with_reducible refine bw ?_ | intro))
 all_goals (first | exact bT | exact (congrArg Field.num (AX ae)) | exact (congrArg Field.wire (AX ae)) | exact (congrArg (fun f=>f.n.n) (AX ae)) | exact (congrArg Field.b (AX ae)).symm | exact (congrArg Field.num (yX ae)) | exact (congrArg Field.wire (yX ae)) | exact (congrArg (fun f=>f.n.n) (yX ae)) | exact (congrArg Field.b (yX ae)) | (have h1:=gX b; have h2:=fY b (aB b).k; first | omega | (refine dY ?_ ?_ <;> omega) | (rw [List.length_drop]; omega)))
theorem MY (l:List Field) (r0:Int):ck tyT uX (Jt l) Tryz.f82 [.c (.fz (.nm .field) (l))] [] [.c (.int (r0))]=((fun (q3:den (Sh.nm NT.field))=>(fun (q2:Nat)=>(fun (q1:Int)=>(fun (q0:Int)=>l.length*(48:Nat)<=(140737488355328:Nat)->∃ (s0:Nat),(l=l/\q1=(↑(dX (List.take s0 l)):Int)/\l=l/\(↑l.length:Int)=(↑q2:Int)/\q1=(↑s0:Int))/\(s0<=q2/\cT none l=cT (dE l s0) (List.drop s0 l)/\dX (List.take s0 l)<=s0*(16404:Nat))/\∀ (s:Nat),(fun (q6:Int)=>(fun (q5:Int)=>(fun (q4:den (Sh.nm NT.field))=>s<=q2/\cT none l=cT (dE l s) (List.drop s l)/\dX (List.take s l)<=s*(16404:Nat)->(q5<(↑q2:Int)->q1<=q5/\q5<(↑l.length:Int)/\∀ (x:Field),l[s]? = some x->I64 x.num->I64 x.wire->x.n.n<(18446744073709551616:Nat)->x.b.length*(1:Nat)<=(140737488355328:Nat)->(cW x=false->q0=r0)/\(cW x=true->(q1<q5->I64 (q5 - q0))/\(q1<q5->q1<=q5 - q0/\q5 - q0<(↑l.length:Int))/\((q1<q5->I64 q4.num/\I64 q4.wire/\q4.n.n<(18446744073709551616:Nat)/\q4.b.length*(1:Nat)<=(140737488355328:Nat))->(q1<q5/\cS q4 x=false->(5:Int)=r0)/\(q5<=q1\/cS q4 x=true->((16384:Int)<(↑x.b.length:Int)->(4:Int)=r0)/\((↑x.b.length:Int)<=(16384:Int)->x.b.length<=(16384:Nat)/\I64 (q6+(↑(bR x).length:Int))/\I64 (q5+q0)/\∃ (s':Nat),(l=l/\q6+(↑(bR x).length:Int)=(↑(dX (List.take s' l)):Int)/\l=l/\(↑q2:Int)=(↑q2:Int)/\q5+q0=(↑s':Int))/\(s' <= q2/\cT none l=cT (dE l s') (List.drop s' l)/\dX (List.take s' l)<=s' * (16404:Nat))/\q2 - s' < q2 - s)))))/\((↑q2:Int)<=q5->((16384:Int)<q6->(4:Int)=r0)/\(q6<=(16384:Int)->q1=r0))) (l.getD (q5 - q0).toNat q3)) (↑s:Int)) (↑(dX (List.take s l)):Int)) (1:Int)) (0:Int)) l.length) (dflt (Sh.nm NT.field))):=by kernel_rfl
theorem KO (l:List Field):Sat Tryz.prog (al tyT) 82 [.c (.fz (.nm .field) (l))] [] ⟨[],[.c (.int ((bY l)))],none,false⟩:=by
 refine aJ iA (Jt l) Tryz.func82 (by decide) (by kernel_rfl) ?_
 rw [MY]
 iterate 3 ((all_goals (repeat' (first | with_reducible apply bu | with_reducible refine bw ?_ | intro))); (all_goals try (first | exact bT | exact rfl | exact (Nat.le_refl 0) | exact (Dh ae ae ae) | exact (IQ ae ae ae aG (Sr aG ae) ae) | exact (GX ae ae ae (zO (by assumption) aG) ae) | exact (uG ae ae ae (zO (by assumption) aG) aG) | exact (IG ae aG ae) | exact (HS ae aG aG) | (have h1:=iv (f:=‹Field›) aG ae; have h2:=vo (show l[_]? = some ‹Field› by with_reducible assumption); first | omega | (refine dY ?_ ?_ <;> omega)))); all_goals try first | refine ⟨‹Nat› + 1,?_⟩ | refine ⟨0,?_⟩)
theorem ME (q:Int) (v:Int) (r0:List Spec):ck tyT uX (Dw q v) Tryz.f81 [.c (.int (q)),.c (.int (v))] [] [.c (.fz (.nm .spec) (r0))]=((fun (q2:Int)=>(fun (q1:Int)=>(fun (q0:Nat)=>I64 q->I64 v->(v<q1\/(3:Int)<v->r0=[])/\(q1<=v/\v<=(3:Int)->q=q1/\(bd.length*(32:Nat)<=(140737488355328:Nat)->∃ (s0:Nat),(v=v/\bd=bd/\(↑bd.length:Int)=q2/\(0:Int)=(↑s0:Int)/\List.filter (fun (s:Spec)=>decide (s.since<=v)) (List.take s0 bd)=[])/\s0<=q0/\∀ (s:Nat),(fun (q4:Int)=>(fun (q3:List (den (Sh.nm NT.spec)))=>s<=q0->((↑s:Int)<q2->(0:Int)<=(↑s:Int)/\(↑s:Int)<(↑bd.length:Int)/\∀ (x:Spec),bd[s]? = some x->I64 x.num->I64 x.wire->I64 x.since->(x.since<=v->(q3.length+[x].length)*(32:Nat)<=(140737488355328:Nat)/\I64 q4/\∃ (s':Nat),(v=v/\bd=bd/\q2=q2/\q4=(↑s':Int)/\q3++[x]=List.filter (fun (s:Spec)=>decide (s.since<=v)) (List.take s' bd))/\s' <= q0/\q0 - s' < q0 - s)/\(v<x.since->I64 q4/\∃ (s':Nat),(v=v/\bd=bd/\q2=q2/\q4=(↑s':Int)/\q3=List.filter (fun (s:Spec)=>decide (s.since<=v)) (List.take s' bd))/\s' <= q0/\q0 - s' < q0 - s))/\(q2<=(↑s:Int)->q3=r0)) (List.filter (fun (s:Spec)=>decide (s.since<=v)) (List.take s bd))) ((↑s:Int)+q1)))) (8:Nat)) (1:Int)) (8:Int)):=by kernel_rfl
theorem Mg (q:Int) (v:Int) (h0:q=1):Sat Tryz.prog (al tyT) 81 [.c (.int (q)),.c (.int (v))] [] ⟨[q=1],[.c (.fz (.nm .spec) ((aK v)))],none,false⟩:=by
 refine aJ iA (Dw q v) Tryz.func81 (by decide) (by kernel_rfl) ?_
 rw [ME]
 iterate 3 ((all_goals (repeat' (first | with_reducible apply bu | with_reducible refine bw ?_ | intro))); (all_goals try (first | exact bT | exact rfl | exact (Bc ae).symm | exact (wN ae ae) | exact (zq ae aG) | exact Uh | exact (Of aG aG aG) | (have hl:bd.length=8:=rfl; omega))); all_goals try first | refine ⟨‹Nat› + 1,?_⟩ | refine ⟨0,?_⟩)
theorem Im (l:List Field) (v:Int) (r0:List Field) (r1:List Field):ck tyT uX (za l v) Tryz.f53 [.c (.fz (.nm .field) (l)),.c (.int (v))] [] [.c (.fz (.nm .field) (r0)),.c (.fz (.nm .field) (r1))]=((fun (q0:Nat)=>l.length*(48:Nat)<=(140737488355328:Nat)->I64 v->∃ (s0:Nat),(fun (q1:Int)=>(v=v/\l=l/\(↑l.length:Int)=q1/\(0:Int)=(↑s0:Int)/\bD (List.take s0 l) v=[]/\cC (List.take s0 l) v=[])/\s0<=q0/\∀ (s:Nat),(fun (q3:List Field)=>(fun (q2:Int)=>s<=q0->((↑s:Int)<q1->(0:Int)<=(↑s:Int)/\(↑s:Int)<(↑l.length:Int)/\∀ (x:Field),(fun (q4:Prop)=>l[s]? = some x->I64 x.num->I64 x.wire->x.n.n<(18446744073709551616:Nat)->q4->q4->(x.num<=v->((bD q3 v).length+[x].length)*(48:Nat)<=(140737488355328:Nat)/\I64 q2/\∃ (s':Nat),(v=v/\l=l/\q1=q1/\q2=(↑s':Int)/\bD q3 v++[x]=bD (List.take s' l) v/\cC q3 v=cC (List.take s' l) v)/\s' <= q0/\q0 - s' < q0 - s)/\(v<x.num->((cC q3 v).length+[x].length)*(48:Nat)<=(140737488355328:Nat)/\I64 q2/\∃ (s':Nat),(v=v/\l=l/\q1=q1/\q2=(↑s':Int)/\bD q3 v=bD (List.take s' l) v/\cC q3 v++[x]=cC (List.take s' l) v)/\s' <= q0/\q0 - s' < q0 - s)) (x.b.length*(1:Nat)<=(140737488355328:Nat)))/\(q1<=(↑s:Int)->bD q3 v=r0/\cC q3 v=r1)) ((↑s:Int)+(1:Int))) (List.take s l)) (↑q0:Int)) l.length):=by kernel_rfl
theorem Gs (l:List Field) (v:Int):Sat Tryz.prog (al tyT) 53 [.c (.fz (.nm .field) (l)),.c (.int (v))] [] ⟨[],[.c (.fz (.nm .field) ((bD l v))),.c (.fz (.nm .field) ((cC l v)))],none,false⟩:=by
 refine aJ iA (za l v) Tryz.func53 (by decide) (by kernel_rfl) ?_
 rw [Im]
 iterate 3 ((all_goals (repeat' (first | with_reducible apply bu | with_reducible refine bw ?_ | intro))); (all_goals try (first | exact bT | exact Tl | exact UF | exact (Xo ae ae) | exact (Xh ae aG) | exact (WB ae aG) | exact (Wg ae ae) | exact (Vc aG) | exact (WW aG) | (have h1:=yy (l.take ‹Nat›) v; have h2:=nN (l.take ‹Nat›) v; rw [List.length_take] at h1 h2; simp only [List.length_cons,List.length_nil]; omega))); all_goals try first | refine ⟨‹Nat› + 1,?_⟩ | refine ⟨0,?_⟩)
theorem LS (l:List Field) (r0:Command):ck tyT uX (Hz l) Tryz.f54 [.c (.fz (.nm .field) (l))] [] [.agg (cellsOf (.nm .command) r0)]=((fun (q11:Prop)=>(fun (q10:Int)=>(fun (q9:Prop)=>(fun (q8:Int)=>(fun (q7:Prop)=>(fun (q6:Prop)=>(fun (q5:Prop)=>(fun (q4:Prop)=>(fun (q3:Prop)=>(fun (q2:Prop)=>(fun (q1:Prop)=>(fun (q0:Nat)=>l.length*(48:Nat)<=(140737488355328:Nat)->∃ (s0:Nat),(fun (q13:Command)=>(fun (q12:Prop)=>(q11/\(↑l.length:Int)=(↑q0:Int)/\q10=(↑s0:Int)/\q10=bG.kind/\q10=bG.client/\q10=bG.seq/\q10=bG.set/\q10=bG.id/\q10=bG.n/\bG.chunks=[]/\Str.mk []=bG.text/\q10=q13.kind/\q10=q13.client/\q10=q13.seq/\q10=q13.set/\q10=q13.id/\q10=q13.n/\q13.chunks=[]/\Str.mk []=q13.text)/\s0<=q0/\∀ (s:Nat),(fun (q16:Nat)=>(fun (q15:Int)=>(fun (q14:Command)=>s<=q0->((↑s:Int)<(↑q0:Int)->q10<=(↑s:Int)/\(↑s:Int)<(↑l.length:Int)/\∀ (x:Field),(fun (q25:Int)=>(fun (q24:Int)=>(fun (q23:Prop)=>(fun (q22:Str)=>(fun (q21:Int)=>(fun (q20:Int)=>(fun (q19:List Int)=>(fun (q18:Int)=>(fun (q17:Int)=>l[s]? = some x->I64 q17->I64 x.wire->x.n.n<(18446744073709551616:Nat)->x.b.length*(1:Nat)<=(140737488355328:Nat)->(q17=q8->q23/\∃ (s':Nat),(fun (q26:Command)=>(q11/\q12/\q15=(↑s':Int)/\q4/\q1/\q5/\q6/\q7/\q9/\q2/\q3/\q20=q26.kind/\q18=q26.client/\q24=q26.seq/\q25=q26.set/\q14.id=q26.id/\q14.n=q26.n/\q19=q26.chunks/\q22=q26.text)/\s' <= q0/\q0 - s' < q16) (bQ (List.take s' l)))/\(¬q17=q8->(q17=(2:Int)->q23/\∃ (s':Nat),(fun (q27:Command)=>(q11/\q12/\q15=(↑s':Int)/\q4/\q1/\q5/\q6/\q7/\q9/\q2/\q3/\q21=q27.kind/\q20=q27.client/\q24=q27.seq/\q25=q27.set/\q14.id=q27.id/\q14.n=q27.n/\q19=q27.chunks/\q22=q27.text)/\s' <= q0/\q0 - s' < q16) (bQ (List.take s' l)))/\(¬q17=(2:Int)->(q17=(3:Int)->q23/\∃ (s':Nat),(fun (q28:Command)=>(q11/\q12/\q15=(↑s':Int)/\q4/\q1/\q5/\q6/\q7/\q9/\q2/\q3/\q21=q28.kind/\q18=q28.client/\q20=q28.seq/\q25=q28.set/\q14.id=q28.id/\q14.n=q28.n/\q19=q28.chunks/\q22=q28.text)/\s' <= q0/\q0 - s' < q16) (bQ (List.take s' l)))/\(¬q17=(3:Int)->(q17=(4:Int)->q23/\∃ (s':Nat),(fun (q29:Command)=>(q11/\q12/\q15=(↑s':Int)/\q4/\q1/\q5/\q6/\q7/\q9/\q2/\q3/\q21=q29.kind/\q18=q29.client/\q24=q29.seq/\q20=q29.set/\q14.id=q29.id/\q14.n=q29.n/\q19=q29.chunks/\q22=q29.text)/\s' <= q0/\q0 - s' < q16) (bQ (List.take s' l)))/\(¬q17=(4:Int)->(q17=(5:Int)->q23/\∃ (s':Nat),(fun (q30:Command)=>(q11/\q12/\q15=(↑s':Int)/\q4/\q1/\q5/\q6/\q7/\q9/\q2/\q3/\q21=q30.kind/\q18=q30.client/\q24=q30.seq/\q25=q30.set/\q20=q30.id/\q14.n=q30.n/\q19=q30.chunks/\q22=q30.text)/\s' <= q0/\q0 - s' < q16) (bQ (List.take s' l)))/\(¬q17=(5:Int)->(q17=(6:Int)->q23/\∃ (s':Nat),(fun (q31:Command)=>(q11/\q12/\q15=(↑s':Int)/\q4/\q1/\q5/\q6/\q7/\q9/\q2/\q3/\q21=q31.kind/\q18=q31.client/\q24=q31.seq/\q25=q31.set/\q14.id=q31.id/\q20=q31.n/\q19=q31.chunks/\q22=q31.text)/\s' <= q0/\q0 - s' < q16) (bQ (List.take s' l)))/\(¬q17=(6:Int)->(q17=(7:Int)->x.b.length<=(100000:Nat)/\((eb x.b).length*(8:Nat)<=(140737488355328:Nat)->I64 (gB x.b)->q23/\∃ (s':Nat),(fun (q32:Command)=>(q11/\q12/\q15=(↑s':Int)/\q4/\q1/\q5/\q6/\q7/\q9/\q2/\q3/\q21=q32.kind/\q18=q32.client/\q24=q32.seq/\q25=q32.set/\q14.id=q32.id/\q14.n=q32.n/\eb x.b=q32.chunks/\q22=q32.text)/\s' <= q0/\q0 - s' < q16) (bQ (List.take s' l))))/\(¬q17=(7:Int)->(q17=(8:Int)->q23/\∃ (s':Nat),(fun (q33:Command)=>(q11/\q12/\q15=(↑s':Int)/\q4/\q1/\q5/\q6/\q7/\q9/\q2/\q3/\q21=q33.kind/\q18=q33.client/\q24=q33.seq/\q25=q33.set/\q14.id=q33.id/\q14.n=q33.n/\q19=q33.chunks/\Str.mk x.b=q33.text)/\s' <= q0/\q0 - s' < q16) (bQ (List.take s' l)))/\(¬q17=(8:Int)->q23/\∃ (s':Nat),(fun (q34:Command)=>(q11/\q12/\q15=(↑s':Int)/\q4/\q1/\q5/\q6/\q7/\q9/\q2/\q3/\q21=q34.kind/\q18=q34.client/\q24=q34.seq/\q25=q34.set/\q14.id=q34.id/\q14.n=q34.n/\q19=q34.chunks/\q22=q34.text)/\s' <= q0/\q0 - s' < q16) (bQ (List.take s' l))))))))))) x.num) q14.client) q14.chunks) (dv x.n.n)) q14.kind) q14.text) (I64 q15)) q14.seq) q14.set)/\((↑q0:Int)<=(↑s:Int)->q14.kind=r0.kind/\q14.client=r0.client/\q14.seq=r0.seq/\q14.set=r0.set/\q14.id=r0.id/\q14.n=r0.n/\q14.chunks=r0.chunks/\q14.text=r0.text)) (bQ (List.take s l))) ((↑s:Int)+q8)) (q0 - s)) ((↑q0:Int)=(↑q0:Int))) (bQ (List.take s0 l))) l.length) (bG.client=bG.client)) (bG.chunks=bG.chunks)) (bG.text=bG.text)) (bG.kind=bG.kind)) (bG.seq=bG.seq)) (bG.set=bG.set)) (bG.id=bG.id)) (1:Int)) (bG.n=bG.n)) (0:Int)) (l=l)):=by kernel_rfl
theorem Kd (l:List Field) (h0:∀ f ∈ l,f.b.length<=16384):Sat Tryz.prog (al tyT) 54 [.c (.fz (.nm .field) (l))] [] ⟨[∀ f ∈ l,f.b.length<=16384],[.agg (cellsOf (.nm .command) (bQ l))],none,false⟩:=by
 refine aJ iA (Hz l) Tryz.func54 (by decide) (by kernel_rfl) ?_
 rw [LS]
 iterate 3 ((all_goals (repeat' (first | with_reducible apply bu | with_reducible refine bw ?_ | intro))); (all_goals try (first | exact bT | exact rfl | (have:=h0 _ (List.mem_of_getElem? ae); omega) | (rw [dg ae,<- ZX ae] <;> first | rfl | exact (dt ae).symm) | (rw [dg ae,<- YN ae] <;> first | rfl | exact (dt ae).symm) | (rw [dg ae,<- aaA ae] <;> first | rfl | exact (dt ae).symm) | (rw [dg ae,<- aaj ae] <;> first | rfl | exact (dt ae).symm) | (rw [dg ae,<- Zl ae] <;> first | rfl | exact (dt ae).symm) | (rw [dg ae,<- Yx ae] <;> first | rfl | exact (dt ae).symm) | (rw [dg ae,<- XW ae] <;> first | rfl | exact (dt ae).symm) | (rw [dg ae,<- ZB ae] <;> first | rfl | exact (dt ae).symm) | (rw [dg ae,<- YG aG] <;> first | rfl | exact (dt ae).symm) | (rw [List.take_of_length_le aG]))); all_goals try first | refine ⟨‹Nat› + 1,?_⟩ | refine ⟨0,?_⟩)
def BI:cO:=(bq 54 (bm (ah (kC (cL (.nm .field))) aH) aI fun (l,_) (_)=>⟨[∀ f ∈ l,f.b.length<=16384],[.agg (cellsOf (.nm .command) (bQ l))],none,false⟩) (bq 53 (bm (ah (kC (cL (.nm .field))) (ah (kC cI) aH)) aI fun (l,v,_) (_)=>⟨[],[.c (.fz (.nm .field) ((bD l v))),.c (.fz (.nm .field) ((cC l v)))],none,false⟩) (bq 81 (bm (ah (kC cI) (ah (kC cI) aH)) aI fun (q,v,_) (_)=>⟨[q=1],[.c (.fz (.nm .spec) ((aK v)))],none,false⟩) (bq 82 (bm (ah (kC (cL (.nm .field))) aH) aI fun (l,_) (_)=>⟨[],[.c (.int ((bY l)))],none,false⟩) (bq 94 (bm (ah (kC (cL .u8)) aH) aI fun (b,_) (_)=>⟨[],[.agg (cellsOf (.nm .field) (fC b))],none,false⟩) (bq 125 (bm (ah (kC (cw 0 0)) (ah (kC (cw 1 0)) aH)) (aC (cq 28 (aA (cL .u8) cm)) (aC (cq 3 (aA cI cm)) aI)) fun (_,_,_) ((b,_),(s,_),_)=>⟨[0<=s,s<=(b.length:Int),b.length*1<=140737488355328],[.c (.u64 ((U64.mk (aw (b.drop s.toNat)).1)).n),.c (.int (((aw (b.drop s.toNat)).2.2)))],some ([.box 28 ([.fz .u8 ((b))]),.box 3 ([.int ((s+((aw (b.drop s.toNat)).2.1:Nat)))])]),false⟩) uX))))))
theorem kP:aW Tryz.prog (al tyT) BI:=(au (av (ab (aq aY) ai) aj fun (l,_) (_) hp=>Kd l (cY hp)) (au (av (ab (aq aY) (ab (aq ay) ai)) aj fun (l,v,_) (_) _=>Gs l v ) (au (av (ab (aq ay) (ab (aq ay) ai)) aj fun (q,v,_) (_) hp=>Mg q v (cY hp)) (au (av (ab (aq aY) ai) aj fun (l,_) (_) _=>KO l ) (au (av (ab (aq aY) ai) aj fun (b,_) (_) _=>HD b ) (au (av (ab (aq aQ) (ab (aq aQ) ai)) (ak (aN (ag aY aM)) (ak (aN (ag ay aM)) aj)) fun (_,_,_) ((b,_),(s,_),_) hp=>Km b s (cY hp) (cY (dS hp)) (cY (dS (dS hp)))) iA))))))
theorem Kq (k:Int) (n:Int) (r0:List Field):nE tyT BI [] Tryz.f84 [.c (.int (k)),.c (.int (n)),.c (.ptr 0 0)] [.box 67 ([.em true])] [] [.box 67 ([.own 1]),.row 90 (.nm .field) (r0)]=(I64 k->I64 n->(¬n=(0:Int)->(0:Int)<=n/\[Field.mk k (0:Int) (U64.mk n.toNat) []].length*(48:Nat)<=(140737488355328:Nat)/\[Field.mk k (0:Int) (U64.mk n.toNat) []]=r0)/\(n=(0:Int)->r0=[])):=by kernel_rfl
theorem Ka (k:Int) (n:Int) (h0:0<=n):Sat Tryz.prog (al tyT) 84 [.c (.int (k)),.c (.int (n)),.c (.ptr 0 0)] [.box 67 ([.em true])] ⟨[0<=n],[],some ([.box 67 ([.own 1]),.row 90 (.nm .field) ((lW k n))]),false⟩:=by
 refine dI kP [] Tryz.func84 (by decide) (by kernel_rfl) ?_
 rw [Kq]
 (repeat' (first | with_reducible apply bu | with_reducible refine bw ?_ | intro))
 all_goals (first | exact bT | exact (wM ae) | exact (tU ae) | exact (wF ae) | exact (ug aG) | exact (wM (xs:=[]) ae) | exact (tU (xs:=[]) ae).symm | exact (wF (xs:=[]) ae) | exact (ug (xs:=[]) aG).symm | (simp only [List.length_cons,List.length_nil]; omega) | decide)
theorem Lr (k:Int) (n:Int) (xs:List Field) (r0:List Field):nE tyT BI [] Tryz.f84 [.c (.int (k)),.c (.int (n)),.c (.ptr 0 0)] [.box 67 ([.own 1]),.row 90 (.nm .field) (xs)] [] [.box 67 ([.own 1]),.row 90 (.nm .field) (r0)]=(I64 k->I64 n->(¬n=(0:Int)->(0:Int)<=n/\(xs.length+[Field.mk k (0:Int) (U64.mk n.toNat) []].length)*(48:Nat)<=(140737488355328:Nat)/\xs++[Field.mk k (0:Int) (U64.mk n.toNat) []]=r0)/\(n=(0:Int)->xs=r0)):=by kernel_rfl
theorem KY (k:Int) (n:Int) (xs:List Field) (h0:0<=n) (h1:xs.length<=1000):Sat Tryz.prog (al tyT) 84 [.c (.int (k)),.c (.int (n)),.c (.ptr 0 0)] [.box 67 ([.own 1]),.row 90 (.nm .field) (xs)] ⟨[0<=n,xs.length<=1000],[],some ([.box 67 ([.own 1]),.row 90 (.nm .field) ((xs++lW k n))]),false⟩:=by
 refine dI kP [] Tryz.func84 (by decide) (by kernel_rfl) ?_
 rw [Lr]
 (repeat' (first | with_reducible apply bu | with_reducible refine bw ?_ | intro))
 all_goals (first | exact bT | exact (wM ae) | exact (tU ae) | exact (wF ae) | exact (ug aG) | exact (wM (xs:=[]) ae) | exact (tU (xs:=[]) ae).symm | exact (wF (xs:=[]) ae) | exact (ug (xs:=[]) aG).symm | (simp only [List.length_cons,List.length_nil]; omega) | decide)
theorem KP (k:Int) (b:List UInt8) (r0:List Field):nE tyT BI [] Tryz.f85 [.c (.int (k)),.c (.fz .u8 (b)),.c (.ptr 0 0)] [.box 67 ([.em true])] [] [.box 67 ([.own 1]),.row 90 (.nm .field) (r0)]=(I64 k->b.length*(1:Nat)<=(140737488355328:Nat)->((0:Int)<(↑b.length:Int)->[Field.mk k (2:Int) (U64.mk (0:Nat)) b].length*(48:Nat)<=(140737488355328:Nat)/\[Field.mk k (2:Int) (U64.mk (0:Nat)) b]=r0)/\((↑b.length:Int)<=(0:Int)->r0=[])):=by kernel_rfl
theorem JX (k:Int) (b:List UInt8):Sat Tryz.prog (al tyT) 85 [.c (.int (k)),.c (.fz .u8 (b)),.c (.ptr 0 0)] [.box 67 ([.em true])] ⟨[],[],some ([.box 67 ([.own 1]),.row 90 (.nm .field) ((qm k b))]),false⟩:=by
 refine dI kP [] Tryz.func85 (by decide) (by kernel_rfl) ?_
 rw [KP]
 (repeat' (first | with_reducible apply bu | with_reducible refine bw ?_ | intro))
 all_goals (first | exact bT | exact (wM ae) | exact (tU ae) | exact (wF ae) | exact (ug aG) | exact (wM (xs:=[]) ae) | exact (tU (xs:=[]) ae).symm | exact (wF (xs:=[]) ae) | exact (ug (xs:=[]) aG).symm | (simp only [List.length_cons,List.length_nil]; omega) | decide)
theorem Me (k:Int) (b:List UInt8) (xs:List Field) (r0:List Field):nE tyT BI [] Tryz.f85 [.c (.int (k)),.c (.fz .u8 (b)),.c (.ptr 0 0)] [.box 67 ([.own 1]),.row 90 (.nm .field) (xs)] [] [.box 67 ([.own 1]),.row 90 (.nm .field) (r0)]=(I64 k->b.length*(1:Nat)<=(140737488355328:Nat)->((0:Int)<(↑b.length:Int)->(xs.length+[Field.mk k (2:Int) (U64.mk (0:Nat)) b].length)*(48:Nat)<=(140737488355328:Nat)/\xs++[Field.mk k (2:Int) (U64.mk (0:Nat)) b]=r0)/\((↑b.length:Int)<=(0:Int)->xs=r0)):=by kernel_rfl
theorem JK (k:Int) (b:List UInt8) (xs:List Field) (h0:xs.length<=1000):Sat Tryz.prog (al tyT) 85 [.c (.int (k)),.c (.fz .u8 (b)),.c (.ptr 0 0)] [.box 67 ([.own 1]),.row 90 (.nm .field) (xs)] ⟨[xs.length<=1000],[],some ([.box 67 ([.own 1]),.row 90 (.nm .field) ((xs++qm k b))]),false⟩:=by
 refine dI kP [] Tryz.func85 (by decide) (by kernel_rfl) ?_
 rw [Me]
 (repeat' (first | with_reducible apply bu | with_reducible refine bw ?_ | intro))
 all_goals (first | exact bT | exact (wM ae) | exact (tU ae) | exact (wF ae) | exact (ug aG) | exact (wM (xs:=[]) ae) | exact (tU (xs:=[]) ae).symm | exact (wF (xs:=[]) ae) | exact (ug (xs:=[]) aG).symm | (simp only [List.length_cons,List.length_nil]; omega) | decide)
def Ey:cO:=(bq 85 (bm (ah (kC cI) (ah (kC (cL .u8)) (ah (kC (cw 0 0)) aH))) (aC (cq 67 (aA (bF 1) cm)) (aC (bE 90 (.nm .field)) aI)) fun (k,b,_,_) ((_,_),xs,_)=>⟨[xs.length<=1000],[],some ([.box 67 ([.own 1]),.row 90 (.nm .field) ((xs++qm k b))]),false⟩) (bq 85 (bm (ah (kC cI) (ah (kC (cL .u8)) (ah (kC (cw 0 0)) aH))) (aC (cq 67 (aA (Xy true) cm)) aI) fun (k,b,_,_) ((_,_),_)=>⟨[],[],some ([.box 67 ([.own 1]),.row 90 (.nm .field) ((qm k b))]),false⟩) (bq 84 (bm (ah (kC cI) (ah (kC cI) (ah (kC (cw 0 0)) aH))) (aC (cq 67 (aA (bF 1) cm)) (aC (bE 90 (.nm .field)) aI)) fun (k,n,_,_) ((_,_),xs,_)=>⟨[0<=n,xs.length<=1000],[],some ([.box 67 ([.own 1]),.row 90 (.nm .field) ((xs++lW k n))]),false⟩) (bq 84 (bm (ah (kC cI) (ah (kC cI) (ah (kC (cw 0 0)) aH))) (aC (cq 67 (aA (Xy true) cm)) aI) fun (k,n,_,_) ((_,_),_)=>⟨[0<=n],[],some ([.box 67 ([.own 1]),.row 90 (.nm .field) ((lW k n))]),false⟩) BI))))
theorem ui:aW Tryz.prog (al tyT) Ey:=(au (av (ab (aq ay) (ab (aq aY) (ab (aq aQ) ai))) (ak (aN (ag aF aM)) (ak aE aj)) fun (k,b,_,_) ((_,_),xs,_) hp=>JK k b xs (cY hp)) (au (av (ab (aq ay) (ab (aq aY) (ab (aq aQ) ai))) (ak (aN (ag Hn aM)) aj) fun (k,b,_,_) ((_,_),_) _=>JX k b ) (au (av (ab (aq ay) (ab (aq ay) (ab (aq aQ) ai))) (ak (aN (ag aF aM)) (ak aE aj)) fun (k,n,_,_) ((_,_),xs,_) hp=>KY k n xs (cY hp) (cY (dS hp))) (au (av (ab (aq ay) (ab (aq ay) (ab (aq aQ) ai))) (ak (aN (ag Hn aM)) aj) fun (k,n,_,_) ((_,_),_) hp=>Ka k n (cY hp)) kP))))
theorem Cf (c:Command) (v:Int) (r0:List Field):gV tyT Ey [] Tryz.f44 [.agg (cellsOf (.nm .command) c),.c (.int (v))] [] [.c (.own 0)] [.row 90 (.nm .field) (r0)]=((fun (q6:Int)=>(fun (q5:List (den (Sh.nm NT.field)))=>(fun (q4:Nat)=>(fun (q3:List Field)=>(fun (q2:List Field)=>(fun (q1:List (den (Sh.nm NT.field)))=>(fun (q0:List (den (Sh.nm NT.field)))=>I64 c.kind->I64 c.client->I64 c.seq->I64 c.set->I64 c.id->I64 c.n->c.chunks.length*(8:Nat)<=(140737488355328:Nat)->c.text.b.length<=(140737488355328:Nat)->I64 v->q6<=c.kind/\q6<=c.client/\(lW (1:Int) c.kind).length<=q4/\q6<=c.seq/\q5.length<=q4/\q6<=c.set/\q1.length<=q4/\q6<=c.id/\(q1++lW (4:Int) c.set).length<=q4/\q6<=c.n/\q0.length<=q4/\((bK c.chunks).length*(1:Nat)<=(140737488355328:Nat)->I64 (cj c.chunks)->(q0++q3).length<=q4/\((3:Int)<=v->(q0++q3++q2).length<=q4/\q0++q3++q2++qm (8:Int) c.text.b=r0)/\(v<(3:Int)->q0++q3++q2=r0))) (q1++lW (4:Int) c.set++lW (5:Int) c.id)) (q5++lW (3:Int) c.seq)) (qm (7:Int) (bK c.chunks))) (lW (6:Int) c.n)) (1000:Nat)) (lW (1:Int) c.kind++lW (2:Int) c.client)) (0:Int)):=by kernel_rfl
theorem BH (c:Command) (v:Int) (h0:0<=c.kind) (h1:0<=c.client) (h2:0<=c.seq) (h3:0<=c.set) (h4:0<=c.id) (h5:0<=c.n):Sat Tryz.prog (al tyT) 44 [.agg (cellsOf (.nm .command) c),.c (.int (v))] [] ⟨[0<=c.kind,0<=c.client,0<=c.seq,0<=c.set,0<=c.id,0<=c.n],[.c (.own 0)],some ([.row 90 (.nm .field) ((bL c v))]),true⟩:=by
 refine cA ui [] Tryz.func44 (by decide) (by kernel_rfl) ?_
 rw [Cf]
 (repeat' (first | with_reducible apply bu | with_reducible refine bw ?_ | intro))
 all_goals (first | exact bT | (rw [bL,if_pos aG]; rfl) | (rw [bL,if_neg aG]; rfl) | (have h1:=eT 1 c.kind; have h2:=eT 2 c.client; have h3:=eT 3 c.seq; have h4:=eT 4 c.set; have h5:=eT 5 c.id; have h6:=eT 6 c.n; have h7:=wZ 7 (bK c.chunks); (try simp only [List.length_append]); omega))
def uC:cO:=(bq 44 (bm (ah (kT (.nm .command)) (ah (kC cI) aH)) aI fun (c,v,_) (_)=>⟨[0<=c.kind,0<=c.client,0<=c.seq,0<=c.set,0<=c.id,0<=c.n],[.c (.own 0)],some ([.row 90 (.nm .field) ((bL c v))]),true⟩) Ey)
theorem lx:aW Tryz.prog (al tyT) uC:=(au (av (ab aZ (ab (aq ay) ai)) aj fun (c,v,_) (_) hp=>BH c v (cY hp) (cY (dS hp)) (cY (dS (dS hp))) (cY (dS (dS (dS hp)))) (cY (dS (dS (dS (dS hp))))) (cY (dS (dS (dS (dS (dS hp))))))) ui)
theorem PG {b:List UInt8} (h:(aB b).e=0) (h2:(aw (b.drop (aB b).k)).2.2=0) (h3:¬ (aB b).wire=0) (h4:(aw (b.drop (aB b).k)).1<=16384) (h5:((b.length:Nat):Int) - (((aB b).k:Int)+((aw (b.drop (aB b).k)).2.1:Nat))<dv (aw (b.drop (aB b).k)).1):(0:Int)=((aL b).1:Nat)/\2=(aL b).2:=by
 rw [eL (by omega)] at h5
 rw [VC h h2 h3 (by omega) (by omega)]; exact ⟨rfl,rfl⟩
theorem ON {b:List UInt8} (h:(aB b).e=0) (h2:(aw (b.drop (aB b).k)).2.2=0) (h3:¬ (aB b).wire=0) (h4:(aw (b.drop (aB b).k)).1<=16384) (h5:dv (aw (b.drop (aB b).k)).1<=((b.length:Nat):Int) - (((aB b).k:Int)+((aw (b.drop (aB b).k)).2.1:Nat))):((aB b).k:Int)+((aw (b.drop (aB b).k)).2.1:Nat)+dv (aw (b.drop (aB b).k)).1=((aL b).1:Nat)/\0=(aL b).2:=by
 rw [eL (by omega)] at h5 ⊢
 rw [TU h h2 h3 (by omega) (by omega)]; exact ⟨rfl,rfl⟩
def Om (l:List Field):List (Nat × LI):=[(6,{ σ:=Nat,F:=fun k=>([(5,one (.own 0)),(13,one (.fz (.nm .field) (l))),(14,one (.int (l).length)),(15,one (.int k))],[.row 5 .u8 ((((l.take k).map bR).flatten))]),J:=fun k=>k<=l.length,μ:=fun k=>l.length - k })]
def Ns (q:Int) (v:Int):List (Nat × LI):=[(3,{ σ:=Nat,F:=fun k=>([(5,one (.int (((aK v).take k).foldl (fun t s=>max t s.num) 0))),(10,one (.fz (.nm .spec) (aK v))),(11,one (.int (aK v).length)),(12,one (.int k))],[]),J:=fun k=>k<=(aK v).length,μ:=fun k=>(aK v).length - k })]
theorem Mz (b:List UInt8) (r0:Int) (r1:Int):ck tyT uC [] Tryz.f93 [.c (.fz .u8 (b))] [] [.c (.int (r0)),.c (.int (r1))]=((fun (q5:Int)=>(fun (q4:Prop)=>(fun (q3:TagR)=>(fun (q2:Int)=>(fun (q1:Int)=>(fun (q0:Nat × Nat × Int)=>q4->I64 q3.num->I64 q3.wire->I64 q1->I64 q3.e->(¬q3.e=q2->q2=r0/\q3.e=r1)/\(q3.e=q2->q2<=q1/\q1<=q5/\q4/\(q0.fst<(18446744073709551616:Nat)->I64 q0.snd.snd->(¬q0.snd.snd=q2->q2=r0/\q0.snd.snd=r1)/\(q0.snd.snd=q2->(q3.wire=q2->q1+(↑q0.snd.fst:Int)=r0/\q2=r1)/\(¬q3.wire=q2->((↑(16384:Nat):Int)<(↑q0.fst:Int)->q2=r0/\(4:Int)=r1)/\((↑q0.fst:Int)<=(↑(16384:Nat):Int)->I64 (q5 - (q1+(↑q0.snd.fst:Int)))/\(q5 - (q1+(↑q0.snd.fst:Int))<dv q0.fst->q2=r0/\(2:Int)=r1)/\(dv q0.fst<=q5 - (q1+(↑q0.snd.fst:Int))->I64 (q1+(↑q0.snd.fst:Int)+dv q0.fst)/\q1+(↑q0.snd.fst:Int)+dv q0.fst=r0/\q2=r1))))))) (aw (List.drop q3.k b))) (↑q3.k:Int)) (0:Int)) (aB b)) (b.length*(1:Nat)<=(140737488355328:Nat))) (↑b.length:Int)):=by kernel_rfl
theorem MJ (b:List UInt8):Sat Tryz.prog (al tyT) 93 [.c (.fz .u8 (b))] [] ⟨[],[.c (.int ((((aL b).1:Nat)))),.c (.int (((aL b).2)))],none,false⟩:=by
 refine aJ lx [] Tryz.func93 (by decide) (by kernel_rfl) ?_
 rw [Mz]
 (repeat' (first | with_reducible apply bu | with_reducible refine bw ?_ | intro))
 all_goals (first | exact bT | (rw [Sj ae] <;> rfl) | (rw [SE ae ae] <;> rfl) | (rw [Oz ae ae ae] <;> rfl) | (rw [QH ae ae ae aG] <;> rfl) | exact (PG ae ae ae aG ae).1 | exact (PG ae ae ae aG ae).2 | exact (ON ae ae ae aG ae).1 | exact (ON ae ae ae aG ae).2 | (have h1:=gX b; have h2:=fY b (aB b).k; first | omega | (refine dY ?_ ?_ <;> omega)) | (have h1:=gX b; have h2:=fY b (aB b).k; have h3:=eL (m:=(aw (b.drop (aB b).k)).1) aG; first | omega | (refine dY ?_ ?_ <;> omega)))
theorem Pb (l:List Field) (r0:Int) (r1:List UInt8):gV tyT uC (Om l) Tryz.f43 [.c (.fz (.nm .field) (l))] [] [.c (.own 0),.c (.int (r0))] [.row 5 .u8 (r1)]=((fun (q0:Nat)=>l.length*(48:Nat)<=(140737488355328:Nat)->I64 (bY l)->(¬bY l=(0:Int)->bY l=r0/\r1=[])/\(bY l=(0:Int)->∃ (s0:Nat),(l=l/\(↑l.length:Int)=(↑q0:Int)/\(0:Int)=(↑s0:Int)/\(List.map bR (List.take s0 l)).flatten=[])/\s0<=q0/\∀ (s:Nat),(fun (q1:List UInt8)=>s<=q0->((↑s:Int)<(↑q0:Int)->(0:Int)<=(↑s:Int)/\(↑s:Int)<(↑l.length:Int)/\∀ (x:Field),l[s]? = some x->I64 x.num->I64 x.wire->x.n.n<(18446744073709551616:Nat)->x.b.length*(1:Nat)<=(140737488355328:Nat)->x.b.length<=(16384:Nat)/\(q1.length+(bR x).length)*(1:Nat)<=(140737488355328:Nat)/\I64 ((↑s:Int)+(1:Int))/\∃ (s':Nat),(l=l/\(↑q0:Int)=(↑q0:Int)/\(↑s:Int)+(1:Int)=(↑s':Int)/\q1++bR x=(List.map bR (List.take s' l)).flatten)/\s' <= q0/\q0 - s' < q0 - s)/\((↑q0:Int)<=(↑s:Int)->(0:Int)=r0/\q1=r1)) (List.map bR (List.take s l)).flatten)) l.length):=by kernel_rfl
theorem SO (l:List Field):Sat Tryz.prog (al tyT) 43 [.c (.fz (.nm .field) (l))] [] ⟨[],[.c (.own 0),.c (.int ((bY l)))],some ([.row 5 .u8 ((gN l))]),true⟩:=by
 refine cA lx (Om l) Tryz.func43 (by decide) (by kernel_rfl) ?_
 rw [Pb]
 iterate 3 ((all_goals (repeat' (first | with_reducible apply bu | with_reducible refine bw ?_ | intro))); (all_goals try (first | exact bT | exact rfl | exact (EN ae).symm | exact (Eq.symm ae) | exact (qR ae) | exact (lU ae (List.mem_of_getElem? ae)) | exact (yI ae aG) | (have h1:=vG (k:=‹Nat›) (show bY l=0 by with_reducible assumption); have h2:=iv (f:=‹Field›) (lU (show bY l=0 by with_reducible assumption) (List.mem_of_getElem? ae)) ae; omega))); all_goals try first | refine ⟨‹Nat› + 1,?_⟩ | refine ⟨0,?_⟩)
theorem RZ (q:Int) (v:Int) (r0:Int):ck tyT uC (Ns q v) Tryz.f42 [.c (.int (q)),.c (.int (v))] [] [.c (.int (r0))]=((fun (q1:Int)=>(fun (q0:List Spec)=>I64 q->I64 v->q=(1:Int)/\(q0.length*(32:Nat)<=(140737488355328:Nat)->∃ (s0:Nat),(fun (q2:Nat)=>(q1=List.foldl (fun (t:Int) (s:Spec)=>max t s.num) q1 (List.take s0 q0)/\q0=q0/\(↑q0.length:Int)=(↑q2:Int)/\q1=(↑s0:Int))/\s0<=q2/\∀ (s:Nat),(fun (q3:Int)=>s<=q2->((↑s:Int)<(↑q2:Int)->q1<=(↑s:Int)/\(↑s:Int)<(↑q0.length:Int)/\∀ (x:Spec),q0[s]? = some x->I64 x.num->I64 x.wire->I64 x.since->I64 ((↑s:Int)+(1:Int))/\∃ (s':Nat),(max q3 x.num=List.foldl (fun (t:Int) (s:Spec)=>max t s.num) q1 (List.take s' q0)/\q0=q0/\(↑q2:Int)=(↑q2:Int)/\(↑s:Int)+(1:Int)=(↑s':Int))/\s' <= q2/\q2 - s' < q2 - s)/\((↑q2:Int)<=(↑s:Int)->q3=r0)) (List.foldl (fun (t:Int) (s:Spec)=>max t s.num) q1 (List.take s q0))) q0.length)) (aK v)) (0:Int)):=by kernel_rfl
theorem RD (q:Int) (v:Int) (h0:q=1):Sat Tryz.prog (al tyT) 42 [.c (.int (q)),.c (.int (v))] [] ⟨[q=1],[.c (.int ((bj v)))],none,false⟩:=by
 refine aJ lx (Ns q v) Tryz.func42 (by decide) (by kernel_rfl) ?_
 rw [RZ]
 iterate 3 ((all_goals (repeat' (first | with_reducible apply bu | with_reducible refine bw ?_ | intro))); (all_goals try (first | exact bT | exact rfl | exact (vQ ae) | (rw [bj,List.take_of_length_le aG]))); all_goals try first | refine ⟨‹Nat› + 1,?_⟩ | refine ⟨0,?_⟩)
def Eb:cO:=(bq 42 (bm (ah (kC cI) (ah (kC cI) aH)) aI fun (q,v,_) (_)=>⟨[q=1],[.c (.int ((bj v)))],none,false⟩) (bq 43 (bm (ah (kC (cL (.nm .field))) aH) aI fun (l,_) (_)=>⟨[],[.c (.own 0),.c (.int ((bY l)))],some ([.row 5 .u8 ((gN l))]),true⟩) (bq 93 (bm (ah (kC (cL .u8)) aH) aI fun (b,_) (_)=>⟨[],[.c (.int ((((aL b).1:Nat)))),.c (.int (((aL b).2)))],none,false⟩) uC)))
theorem nQ:aW Tryz.prog (al tyT) Eb:=(au (av (ab (aq ay) (ab (aq ay) ai)) aj fun (q,v,_) (_) hp=>RD q v (cY hp)) (au (av (ab (aq aY) ai) aj fun (l,_) (_) _=>SO l ) (au (av (ab (aq aY) ai) aj fun (b,_) (_) _=>MJ b ) lx)))
structure Wq (p:Prop):Prop where
 h:p
def eI (l:List Field):Int->Option Int:=fun q=>if cM l q=0 then none else some ((cM l q:Nat):Int)
def ko (rest:List Field) (v:Int) (k:Nat):Prop:=∀ j y,j<k->rest[j]? = some y->¬ y.num<=bj v
theorem IW {xs:List Field} {f:Field} (h:(xs.length:Int)=0):true=d_ xs f:=by
 unfold d_; rw [List.getElem?_eq_none (by omega)]
theorem yf {xs:List Field} {f:Field} (h:¬ (xs.length:Int)=0):cS (xs.getD ((xs.length:Int) - 1).toNat (dflt (.nm .field))) f=d_ xs f:=by
 unfold d_
 rw [show ((xs.length:Int) - 1).toNat=xs.length - 1 by omega,List.getD_eq_getElem?_getD,List.getElem?_eq_getElem (by omega)]; rfl
theorem Bh (l:List Field) (q:Int):(eI l q).getD (dflt .int)=((cM l q:Nat):Int):=by
 unfold eI
 by_cases h:cM l q=0
 ·rw [if_pos h,h]; rfl
 ·rw [if_neg h]; rfl
theorem Qx {l:List Field}:(fun _=>none)=eI (l.take 0):=rfl
theorem Qs {l:List Field} {k:Nat} (h:l.length<=k):eI (l.take k)=eI l:=by rw [List.take_of_length_le h]
theorem KK {l:List Field} {k:Nat} {x:Field} (hx:l[k]? = some x):(fun j=>if j=x.num then some ((eI (l.take k) x.num).getD (dflt .int)+1) else eI (l.take k) j)=eI (l.take (k+1)):=by
 funext j
 have h:=lL hx j
 by_cases hj:j=x.num
 ·rw [if_pos hj] at h ⊢
  rw [Bh]; unfold eI; rw [h,if_neg (by omega)]; rfl
 ·rw [if_neg hj] at h ⊢
  unfold eI; rw [h]
theorem Xt {l:List Field} {k:Nat} {x:Field} (hx:l[k]? = some x):x=l.getD k (dflt (.nm .field)):=by rw [List.getD_eq_getElem?_getD,hx]; rfl
theorem Ou {l:List Field} {k:Nat} (h:k<l.length):l[k]? = some (l.getD k (dflt (.nm .field))):=by
 rw [List.getD_eq_getElem?_getD,List.getElem?_eq_getElem h]; rfl
theorem ZZ {l:List Field} {ss:List Spec} {x:Field} {y:Spec} {m:Nat} (h:Wq (Dd ss x ((cM l x.num:Nat):Int) m)) (hy:ss[m]? = some y) (hn:¬ y.num=x.num\/CV x y ((eI l x.num).getD (dflt .int))=true):Wq (Dd ss x ((cM l x.num:Nat):Int) (m+1)):=
 ⟨Ih h.h hy fun e=>by rw [Bh] at hn; exact hn.resolve_left (fun h=>h e)⟩
theorem ZP {l:List Field} {ss:List Spec} {k m:Nat} (h:Wq (qj l ss k)) (hk:k<l.length) (hi:Wq (Dd ss (l.getD k (dflt (.nm .field))) ((cM (l.take (k+1)) (l.getD k (dflt (.nm .field))).num:Nat):Int) m)) (hm:(ss.length:Int)<=(m:Int)):Wq (qj l ss (k+1)):=
 ⟨Ek h.h (Ou hk) hi.h (by omega) rfl⟩
theorem ZL {l:List Field} {ss:List Spec} {k:Nat} (h:Wq (qj l ss k)) (hk:l.length<=k):Wq (qj l ss l.length):=⟨fun j x hj=>h.h j x (by omega)⟩
theorem Yd {l:List Field} {v:Int} {m:Nat} {y:Spec} (hy:(aK v)[m]? = some y) (hn:y.need=true) (h0:(eI l y.num).getD (dflt .int)=0):¬ pI l v:=KJ hy ⟨hn,by rw [Bh] at h0; exact h0⟩ rfl
theorem Zr {l:List Field} {ss:List Spec} {m:Nat} {y:Spec} (h:Wq (CY l ss m)) (hy:ss[m]? = some y) (hn:y.need=false\/¬ (eI l y.num).getD (dflt .int)=0):Wq (CY l ss (m+1)):=
 ⟨Da h.h hy fun ha=>by
  rw [Bh] at hn
  rcases hn with hn | hn
  ·rw [ha] at hn; cases hn
  ·omega⟩
theorem aap {l:List Field} {v:Int} {k:Nat} (hA:Wq (qj l (aK v) l.length)) (hB:Wq (CY l (aK v) k)) (hk:(aK v).length<=k):pI l v:=Nc hA.h (Nat.le_refl _) hB.h hk
theorem NM {rest:List Field} {v:Int}:ko rest v 0:=fun j y h=>by omega
theorem Ob {rest:List Field} {v:Int} {k:Nat} {x:Field} (h:Wq (ko rest v k)) (hx:rest[k]? = some x) (hn:¬ x.num<=bj v):Wq (ko rest v (k+1)):=⟨Bp h.h hx hn⟩
theorem ZA {c:Command} {rest:List Field} {v:Int} (h:cH v=false):cN c rest v=1:=Yo (by show (!(cH v))=true; rw [h]; rfl)
theorem YY {c:Command} {rest:List Field} {v:Int} (h:cH v=true) (h1:dG c v=false) (h2:¬ bc c v=0):cN c rest v=bc c v:=ZJ (by show (!(cH v))=false; rw [h]; rfl) h1 h2
theorem XT {c:Command} {rest:List Field} {v:Int} {k:Nat} {x:Field} (h:cH v=true) (h1:dG c v=true\/bc c v=0) (hx:rest[k]? = some x) (hn:x.num<=bj v):cN c rest v=6:=ZO (by show (!(cH v))=false; rw [h]; rfl) h1 hx hn
theorem pb0 {c:Command} {rest:List Field} {v:Int} {k:Nat} (h:cH v=true) (h1:dG c v=true\/bc c v=0) (ht:Wq (ko rest v k)) (hk:rest.length<=k):cN c rest v=0:=Ye (by show (!(cH v))=false; rw [h]; rfl) h1 ht.h hk
def zT (q:Int) (v:Int) (l:List Field):List (Nat × LI):=[(9,{ σ:=Nat,F:=fun k=>([(7,one (.fz (.nm .spec) (aK v))),(9,one (.mq 0)),(28,one (.fz (.nm .field) (l))),(29,one (.int (l).length)),(30,one (.int k))],[.mapo .int (eI (l.take k))]),J:=fun k=>k<=l.length/\Wq (qj l (aK v) k),μ:=fun k=>(l).length - k }),(13,{ σ:=Nat × Nat,F:=fun q=>([(7,one (.fz (.nm .spec) (aK v))),(9,one (.mq 0)),(11,one (.ptr 1 0)),(28,one (.fz (.nm .field) (l))),(29,one (.int (l).length)),(30,one (.int q.1)),(39,one (.fz (.nm .spec) (aK v))),(40,one (.int (aK v).length)),(41,one (.int q.2))],[.mapo .int (eI (l.take (q.1+1))),.box 90 (cellsOf (.nm .field) (((l.getD q.1 (dflt (.nm .field))))))]),J:=fun q=>q.1<l.length/\q.2<=(aK v).length/\Wq (qj l (aK v) q.1)/\Wq (Dd (aK v) (l.getD q.1 (dflt (.nm .field))) ((cM (l.take (q.1+1)) (l.getD q.1 (dflt (.nm .field))).num:Nat):Int) q.2),μ:=fun q=>(aK v).length - q.2,R:=some fun q0 q=>q.1=q0.1 }),(20,{ σ:=Nat,F:=fun k=>([(9,one (.mq 0)),(62,one (.fz (.nm .spec) (aK v))),(63,one (.int (aK v).length)),(64,one (.int k))],[.mapo .int (eI l)]),J:=fun k=>k<=(aK v).length/\Wq (qj l (aK v) l.length)/\Wq (CY l (aK v) k),μ:=fun k=>(aK v).length - k })]
def Oa (c:Command) (rest:List Field) (v:Int):List (Nat × LI):=[(9,{ σ:=Nat,F:=fun k=>([(1,one (.fz (.nm .field) (rest))),(2,one (.int (v))),(3,one (.ptr 0 0)),(9,one (.int (bj v))),(27,one (.fz (.nm .field) (rest))),(28,one (.int (rest).length)),(29,one (.int k))],[.box 24 (cellsOf (.nm .command) ((c)))]),J:=fun k=>k<=rest.length/\Wq (ko rest v k),μ:=fun k=>rest.length - k })]
theorem JH (f:Field) (xs:List Field) (r0:Bool):ck tyT Eb [] Tryz.f91 [.agg (cellsOf (.nm .field) f),.c (.ptr 0 0)] [.box 67 ([.own 1]),.row 90 (.nm .field) (xs)] [.c (.bool (.atom (r0)))]=((fun (q2:Int)=>(fun (q1:Int)=>(fun (q0:den (Sh.nm NT.field))=>I64 f.num->I64 f.wire->f.n.n<(18446744073709551616:Nat)->f.b.length*(1:Nat)<=(140737488355328:Nat)->(q2=(0:Int)->true=r0)/\(¬q2=(0:Int)->I64 q1/\((0:Int)<=q1/\q1<q2)/\(I64 q0.num->I64 q0.wire->q0.n.n<(18446744073709551616:Nat)->q0.b.length*(1:Nat)<=(140737488355328:Nat)->cS q0 f=r0))) (xs.getD q1.toNat (dflt (Sh.nm NT.field)))) (q2 - (1:Int))) (↑xs.length:Int)):=by kernel_rfl
theorem LY (f:Field) (xs:List Field) (h0:xs.length<=20000):Sat Tryz.prog (al tyT) 91 [.agg (cellsOf (.nm .field) f),.c (.ptr 0 0)] [.box 67 ([.own 1]),.row 90 (.nm .field) (xs)] ⟨[xs.length<=20000],[.c (.bool (.atom ((d_ xs f))))],none,false⟩:=by
 refine aJ nQ [] Tryz.func91 (by decide) (by kernel_rfl) ?_
 rw [JH]
 (repeat' (first | with_reducible apply bu | with_reducible refine bw ?_ | intro))
 all_goals (first | exact bT | exact (IW ae) | exact (yf ae))
theorem Gd (q:Int) (v:Int) (l:List Field) (r0:Int):ck tyT Eb (zT q v l) Tryz.f52 [.c (.int (q)),.c (.int (v)),.c (.fz (.nm .field) (l))] [] [.c (.int (r0))]=((fun (q5:Nat)=>(fun (q4:Int)=>(fun (q3:Int)=>(fun (q2:Nat)=>(fun (q1:den (Sh.nm NT.field))=>(fun (q0:List Spec)=>I64 q->I64 v->l.length*(48:Nat)<=(140737488355328:Nat)->q=q4/\(q0.length*(32:Nat)<=(140737488355328:Nat)->((↑q0.length:Int)=q3->q4=r0)/\(¬(↑q0.length:Int)=q3->I64 (bY l)->(¬bY l=q3->bY l=r0)/\(bY l=q3->∃ (s0:Nat),(fun (q9:Int)=>(fun (q8:Int)=>(fun (q7:Prop)=>(fun (q6:Nat)=>(q7/\l=l/\(↑l.length:Int)=q8/\q3=(↑s0:Int)/\(fun (_:Int)=>none)=eI (List.take s0 l))/\(s0<=q2/\Wq (qj l q0 s0))/\∀ (s:Nat),(fun (q10:Int)=>s<=q2/\Wq (qj l q0 s)->((↑s:Int)<q8->q3<=(↑s:Int)/\(↑s:Int)<(↑l.length:Int)/\∀ (x:Field),(fun (q11:Int)=>l[s]? = some x->I64 x.num->I64 x.wire->x.n.n<(18446744073709551616:Nat)->x.b.length*q5<=(140737488355328:Nat)->I64 q11/\∃ (s0:Nat × Nat),(fun (q13:Nat)=>(fun (q12:Field)=>(q7/\l=l/\q8=q8/\(↑s:Int)=(↑q13:Int)/\q7/\q9=q10/\q3=(↑s0.snd:Int)/\(fun (j:Int)=>if j=x.num then some q11 else eI (List.take s l) j)=eI (List.take (q13+q5) l)/\x.num=q12.num/\x.wire=q12.wire/\x.n.n=q12.n.n/\x.b=q12.b)/\(q13<q2/\s0.snd<=q6/\Wq (qj l q0 q13)/\Wq (Dd q0 q12 (↑(cM (List.take (q13+q5) l) q12.num):Int) s0.snd))/\q13=q13/\∀ (s_1:Nat × Nat),(fun (q16:Int)=>(fun (q15:List Field)=>(fun (q14:Field)=>s_1.fst<q2/\s_1.snd<=q6/\Wq (qj l q0 s_1.fst)/\Wq (Dd q0 q14 (↑(cM q15 q14.num):Int) s_1.snd)->s_1.fst=q13->(q16<q10->q3<=q16/\q16<q9/\∀ (x:Spec),(fun (q17:Bool)=>q0[s_1.snd]? = some x->I64 x.num->I64 x.wire->I64 x.since->(x.num=q14.num/\q17=false->(6:Int)=r0)/\(¬x.num=q14.num\/q17=true->I64 (q16+q4)/\∃ (s':Nat × Nat),(fun (q18:Field)=>(q7/\l=l/\q8=q8/\(↑s_1.fst:Int)=(↑s'.fst:Int)/\q7/\q10=q10/\q16+q4=(↑s'.snd:Int)/\eI q15=eI (List.take (s'.fst+q5) l)/\q14.num=q18.num/\q14.wire=q18.wire/\q14.n.n=q18.n.n/\q14.b=q18.b)/\(s'.fst<q2/\s'.snd<=q6/\Wq (qj l q0 s'.fst)/\Wq (Dd q0 q18 (↑(cM (List.take (s'.fst+q5) l) q18.num):Int) s'.snd))/\s'.fst=q13/\q6 - s'.snd<q6 - s_1.snd) (l.getD s'.fst q1))) (CV q14 x ((eI q15 q14.num).getD (dflt Sh.int))))/\(q10<=q16->I64 ((↑s_1.fst:Int)+q4)/\∃ (s':Nat),(q7/\l=l/\q8=q8/\(↑s_1.fst:Int)+q4=(↑s':Int)/\eI q15=eI (List.take s' l))/\(s' <= q2/\Wq (qj l q0 s'))/\q2 - s' < q2 - s)) (l.getD s_1.fst q1)) (List.take (s_1.fst+q5) l)) (↑s_1.snd:Int)) (l.getD q13 q1)) s0.fst) ((eI (List.take s l) x.num).getD (dflt Sh.int)+q4))/\(q8<=(↑s:Int)->∃ (s0:Nat),(q7/\q9=q10/\q3=(↑s0:Int)/\eI (List.take s l)=eI l)/\(s0<=q6/\Wq (qj l q0 q2)/\Wq (CY l q0 s0))/\∀ (s:Nat),s<=q6/\Wq (qj l q0 q2)/\Wq (CY l q0 s)->((↑s:Int)<q10->q3<=(↑s:Int)/\(↑s:Int)<q9/\∀ (x:Spec),(fun (q19:Prop)=>q0[s]? = some x->I64 x.num->I64 x.wire->I64 x.since->(x.need=true/\q19->(6:Int)=r0)/\(x.need=false\/¬q19->I64 ((↑s:Int)+q4)/\∃ (s':Nat),(q7/\q10=q10/\(↑s:Int)+q4=(↑s':Int)/\eI l=eI l)/\(s' <= q6/\Wq (qj l q0 q2)/\Wq (CY l q0 s'))/\q6 - s' < q6 - s)) ((eI l x.num).getD (dflt Sh.int)=q3))/\(q10<=(↑s:Int)->q3=r0))) (↑q6:Int)) q0.length) (q0=q0)) (↑q2:Int)) (↑q0.length:Int))))) (aK v)) (dflt (Sh.nm NT.field))) l.length) (0:Int)) (1:Int)) (1:Nat)):=by kernel_rfl
theorem Jy (q:Int) (v:Int) (l:List Field) (h0:q=1):Sat Tryz.prog (al tyT) 52 [.c (.int (q)),.c (.int (v)),.c (.fz (.nm .field) (l))] [] ⟨[q=1],[.c (.int ((ew l v)))],none,false⟩:=by
 refine aJ nQ (zT q v l) Tryz.func52 (by decide) (by kernel_rfl) ?_
 rw [Gd]
 (repeat' (first | with_reducible apply bu | with_reducible refine bw ?_ | intro))
 all_goals try (refine ⟨0,?_⟩; (repeat' (first | with_reducible apply bu | with_reducible refine bw ?_ | intro)))
 all_goals try (refine ⟨(‹Nat›,0),?_⟩; (repeat' (first | with_reducible apply bu | with_reducible refine bw ?_ | intro)))
 all_goals try (refine ⟨(‹Nat × Nat›.1,‹Nat × Nat›.2+1),?_⟩; (repeat' (first | with_reducible apply bu | with_reducible refine bw ?_ | intro)))
 all_goals try (refine ⟨‹Nat × Nat›.1+1,?_⟩; (repeat' (first | with_reducible apply bu | with_reducible refine bw ?_ | intro)))
 all_goals try (refine ⟨0,?_⟩; (repeat' (first | with_reducible apply bu | with_reducible refine bw ?_ | intro)))
 all_goals try (refine ⟨‹Nat› + 1,?_⟩; (repeat' (first | with_reducible apply bu | with_reducible refine bw ?_ | intro)))
 all_goals (first | exact bT | exact rfl | exact (Vk aG) | exact (Wb aG ae) | exact Qx | exact ⟨WG⟩ | exact ⟨UK⟩ | exact ⟨UZ⟩ | exact (KK ae) | exact (congrArg Field.num (Xt ae)) | exact (congrArg Field.wire (Xt ae)) | exact (congrArg (fun f=>f.n.n) (Xt ae)) | exact (congrArg Field.b (Xt ae)) | exact (Na aG ae (Ll (Ou ae) ae (And.intro ae ae) (Bh _ _))) | exact (ZZ ae ae (by assumption)) | exact (ZP ae ae ae ae) | exact (ZL ae aG) | exact (Qs aG) | exact (Na aG ae (Yd ae ae ae)) | exact (Zr ae ae (by assumption)) | exact (Tm aG ae (aap ae ae aG)) | (have h1:=AI (l:=l) (k:=‹Nat›) ‹Field›.num; have h2:=Bh (l.take ‹Nat›) ‹Field›.num; refine dY ?_ ?_ <;> omega))
theorem Sc (c:Command) (rest:List Field) (v:Int) (r0:Int) (r1:List UInt8):gV tyT Eb (Oa c rest v) Tryz.f25 [.agg (cellsOf (.nm .command) c),.c (.fz (.nm .field) (rest)),.c (.int (v))] [] [.c (.own 0),.c (.int (r0))] [.row 5 .u8 (r1)]=((fun (q3:Int)=>(fun (q2:Nat)=>(fun (q1:Prop)=>(fun (q0:Prop)=>I64 c.kind->I64 c.client->I64 c.seq->I64 c.set->I64 c.id->I64 c.n->c.chunks.length*(8:Nat)<=(140737488355328:Nat)->c.text.b.length<=(140737488355328:Nat)->rest.length*(48:Nat)<=(140737488355328:Nat)->I64 v->(cH v=false->(1:Int)=r0/\r1=[])/\(cH v=true->(dG c v=false->I64 (bc c v)->(¬bc c v=q3->bc c v=r0/\r1=[])/\(bc c v=q3->q0))/\(dG c v=true->q0))) ((1:Int)=(1:Int)/\(I64 (bj v)->∃ (s0:Nat),(rest=rest/\v=v/\bj v=bj v/\rest=rest/\(↑rest.length:Int)=(↑q2:Int)/\q3=(↑s0:Int)/\q1)/\(s0<=q2/\Wq (ko rest v s0))/\∀ (s:Nat),s<=q2/\Wq (ko rest v s)->((↑s:Int)<(↑q2:Int)->q3<=(↑s:Int)/\(↑s:Int)<(↑rest.length:Int)/\∀ (x:Field),rest[s]? = some x->I64 x.num->I64 x.wire->x.n.n<(18446744073709551616:Nat)->x.b.length*(1:Nat)<=(140737488355328:Nat)->(x.num<=bj v->(6:Int)=r0/\r1=[])/\(bj v<x.num->I64 ((↑s:Int)+(1:Int))/\∃ (s':Nat),(rest=rest/\v=v/\bj v=bj v/\rest=rest/\(↑q2:Int)=(↑q2:Int)/\(↑s:Int)+(1:Int)=(↑s':Int)/\q1)/\(s' <= q2/\Wq (ko rest v s'))/\q2 - s' < q2 - s))/\((↑q2:Int)<=(↑s:Int)->q3<=c.kind/\q3<=c.client/\q3<=c.seq/\q3<=c.set/\q3<=c.id/\q3<=c.n/\((bL c v).length+rest.length)*(48:Nat)<=(140737488355328:Nat)/\(I64 (bY (bL c v++rest))->bY (bL c v++rest)=r0/\gN (bL c v++rest)=r1))))) (c.kind=c.kind/\c.client=c.client/\c.seq=c.seq/\c.set=c.set/\c.id=c.id/\c.n=c.n/\c.chunks=c.chunks/\c.text=c.text)) rest.length) (0:Int)):=by kernel_rfl
theorem QI (c:Command) (rest:List Field) (v:Int) (h0:rest.length<=20000):Sat Tryz.prog (al tyT) 25 [.agg (cellsOf (.nm .command) c),.c (.fz (.nm .field) (rest)),.c (.int (v))] [] ⟨[rest.length<=20000],[.c (.own 0),.c (.int ((dB c rest v)))],some ([.row 5 .u8 ((eg c rest v))]),true⟩:=by
 refine cA nQ (Oa c rest v) Tryz.func25 (by decide) (by kernel_rfl) ?_
 rw [Sc]
 iterate 3 ((all_goals (repeat' (first | with_reducible apply bu | with_reducible refine bw ?_ | intro))); (all_goals try (first | exact bT | exact rfl | exact ⟨NM⟩ | exact (Ob ae ae aG) | exact (mf (ZA ae) (by decide)) | exact (lY (ZA ae) (by decide)).symm | exact (mf (YY ae ae ae) ae) | exact (lY (YY ae ae ae) ae).symm | exact (mf (XT ae (by first | exact .inl ae | exact .inr ae) ae ae) (by decide)) | exact (lY (XT ae (by first | exact .inl ae | exact .inr ae) ae ae) (by decide)).symm | exact (ND (pb0 ae (by first | exact .inl ae | exact .inr ae) ae aG)) | exact (NS (pb0 ae (by first | exact .inl ae | exact .inr ae) ae aG)) | (have h:0<=c.kind/\0<=c.client/\0<=c.seq/\0<=c.set/\0<=c.id/\0<=c.n:=(by first | exact Fj ae | exact Fu ae); omega) | (have h:=ox c v; omega))); all_goals try first | refine ⟨‹Nat› + 1,?_⟩ | refine ⟨0,?_⟩)
noncomputable def Qp:cO:=(bq 25 (bm (ah (kT (.nm .command)) (ah (kC (cL (.nm .field))) (ah (kC cI) aH))) aI fun (c,rest,v,_) (_)=>⟨[rest.length<=20000],[.c (.own 0),.c (.int ((dB c rest v)))],some ([.row 5 .u8 ((eg c rest v))]),true⟩) (bq 52 (bm (ah (kC cI) (ah (kC cI) (ah (kC (cL (.nm .field))) aH))) aI fun (q,v,l,_) (_)=>⟨[q=1],[.c (.int ((ew l v)))],none,false⟩) (bq 91 (bm (ah (kT (.nm .field)) (ah (kC (cw 0 0)) aH)) (aC (cq 67 (aA (bF 1) cm)) (aC (bE 90 (.nm .field)) aI)) fun (f,_,_) ((_,_),xs,_)=>⟨[xs.length<=20000],[.c (.bool (.atom ((d_ xs f))))],none,false⟩) Eb)))
theorem Au:aW Tryz.prog (al tyT) Qp:=(au (av (ab aZ (ab (aq aY) (ab (aq ay) ai))) aj fun (c,rest,v,_) (_) hp=>QI c rest v (cY hp)) (au (av (ab (aq ay) (ab (aq ay) (ab (aq aY) ai))) aj fun (q,v,l,_) (_) hp=>Jy q v l (cY hp)) (au (av (ab aZ (ab (aq aQ) ai)) (ak (aN (ag aF aM)) (ak aE aj)) fun (f,_,_) ((_,_),xs,_) hp=>LY f xs (cY hp)) nQ)))
def zL (b:List UInt8) (s:Nat × List Field):Nat × List Field:=(s.1+(aL (b.drop s.1)).1,s.2++[fC ((b.drop s.1).take (((s.1:Int)+((aL (b.drop s.1)).1:Nat)).toNat - s.1))])
theorem HB {b:List UInt8} {s:Nat × List Field}:(zL b s).2=s.2++[fC ((b.drop s.1).take (aL (b.drop s.1)).1)]:=by
 unfold zL; rw [show ((s.1:Int)+((aL (b.drop s.1)).1:Nat)).toNat - s.1=(aL (b.drop s.1)).1 by omega]
theorem tlB {b:List UInt8} (h:16384<(b.length:Int)):aU b=([],4):=OP (by omega)
theorem tlS {b:List UInt8} {s:Nat × List Field} (h:Wq (dM b s.1 s.2)) (hi:(s.1:Int)<(b.length:Int)) (hs:¬ (aL (b.drop s.1)).2=0):aU b=([],(aL (b.drop s.1)).2):=Mt h.h (by omega) hs
theorem tlL {b:List UInt8} {s:Nat × List Field} (h:Wq (dM b s.1 s.2)) (hi:(s.1:Int)<(b.length:Int)) (hs:(aL (b.drop s.1)).2=0) (hr:d_ s.2 (fC ((b.drop s.1).take (((s.1:Int)+((aL (b.drop s.1)).1:Nat)).toNat - s.1)))=false):aU b=([],5):=by
 rw [show ((s.1:Int)+((aL (b.drop s.1)).1:Nat)).toNat - s.1=(aL (b.drop s.1)).1 by omega] at hr
 obtain ⟨f,_,e⟩:=FX h.h (show s.1<b.length by omega)
 rw [e,if_pos hs,hr,if_neg (by decide)]
theorem tlN {b:List UInt8} {s:Nat × List Field} (h:Wq (dM b s.1 s.2)) (hi:(s.1:Int)<(b.length:Int)) (hs:(aL (b.drop s.1)).2=0) (hr:d_ s.2 (fC ((b.drop s.1).take (((s.1:Int)+((aL (b.drop s.1)).1:Nat)).toNat - s.1)))=true):Wq (dM b (zL b s).1 (zL b s).2):=by
 rw [show ((s.1:Int)+((aL (b.drop s.1)).1:Nat)).toNat - s.1=(aL (b.drop s.1)).1 by omega] at hr
 obtain ⟨f,hf,e⟩:=FX h.h (show s.1<b.length by omega)
 have hp:=lJ hs
 rw [HB]
 refine ⟨f,by show b.length - (s.1+(aL (b.drop s.1)).1)<=f; omega,?_⟩
 rw [e,if_pos hs,hr,if_pos rfl,List.drop_drop]; rfl
theorem tlE {b:List UInt8} {s:Nat × List Field} (h:Wq (dM b s.1 s.2)) (hi:(b.length:Int)<=(s.1:Int)):aU b=(s.2,0):=Se h.h (by omega)
theorem nx1 {b:List UInt8} {s:Nat × List Field} (hi:s.1<=b.length):(zL b s).1<=b.length:=by
 have:=lI (b.drop s.1); rw [List.length_drop] at this; show s.1+_<=_; omega
theorem nx2 {b:List UInt8} {s:Nat × List Field} (hl:s.2.length<=s.1) (hs:(aL (b.drop s.1)).2=0):(zL b s).2.length<=(zL b s).1:=by
 have hp:=lJ hs
 rw [HB,List.length_append]; simp only [List.length_cons,List.length_nil]; show _<=s.1+_; omega
theorem nx3 {b:List UInt8} {s:Nat × List Field} (hi:(s.1:Int)<(b.length:Int)) (hs:(aL (b.drop s.1)).2=0):b.length - (zL b s).1<b.length - s.1:=by
 have hp:=lJ hs; show b.length - (s.1+_)<_; omega
def Es (b:List UInt8):List (Nat × LI):=[(6,{ σ:=Nat × List Field,F:=fun s=>([(0,one (.fz .u8 (b))),(4,one (.ptr 0 0)),(5,one (.fn 91 [] [(0,0)])),(6,one (.int s.1))],[.box 67 ([.own 1]),.row 90 (.nm .field) ((s.2))]),J:=fun s=>Wq (dM b s.1 s.2)/\s.1<=b.length/\s.2.length<=s.1,μ:=fun s=>b.length - s.1 })]
theorem KZ (b:List UInt8) (r0:List Field) (r1:Int):ck tyT Qp (Es b) Tryz.f51 [.c (.fz .u8 (b))] [] [.c (.fz (.nm .field) (r0)),.c (.int (r1))]=((fun (q1:Int)=>(fun (q0:Int)=>b.length*(1:Nat)<=(140737488355328:Nat)->((16384:Int)<q0->r0=[]/\(4:Int)=r1)/\(q0<=(16384:Int)->∃ (s0:Nat × List Field),(b=b/\q1=(↑s0.fst:Int)/\s0.snd=[])/\(Wq (dM b s0.fst s0.snd)/\s0.fst<=b.length/\s0.snd.length<=s0.fst)/\∀ (s:Nat × List Field),(fun (q5:Int)=>(fun (q4:Nat × Int)=>(fun (q3:Int)=>(fun (q2:Field)=>Wq (dM b s.fst s.snd)/\s.fst<=b.length/\s.snd.length<=s.fst->(q5<q0->q1<=q5/\q5<=q0/\(I64 (↑q4.fst:Int)->I64 q4.snd->(¬q4.snd=q1->r0=[]/\q4.snd=r1)/\(q4.snd=q1->I64 q3/\q1<=q5/\q5<=q3/\q3<=q0/\(I64 q2.num->I64 q2.wire->q2.n.n<(18446744073709551616:Nat)->q2.b.length*(1:Nat)<=(140737488355328:Nat)->s.snd.length<=(20000:Nat)/\(d_ s.snd q2=false->r0=[]/\(5:Int)=r1)/\(d_ s.snd q2=true->(s.snd.length+[q2].length)*(48:Nat)<=(140737488355328:Nat)/\I64 q3/\∃ (s':Nat × List Field),(b=b/\q3=(↑s'.fst:Int)/\s.snd++[q2]=s'.snd)/\(Wq (dM b s'.fst s'.snd)/\s'.fst<=b.length/\s'.snd.length<=s'.fst)/\b.length - s'.fst<b.length - s.fst)))))/\(q0<=q5->s.snd=r0/\q1=r1)) (fC (List.take (q3.toNat - s.fst) (List.drop s.fst b)))) (q5+(↑q4.fst:Int))) (aL (List.drop s.fst b))) (↑s.fst:Int))) (↑b.length:Int)) (0:Int)):=by kernel_rfl
theorem MR (b:List UInt8):Sat Tryz.prog (al tyT) 51 [.c (.fz .u8 (b))] [] ⟨[],[.c (.fz (.nm .field) (((aU b).1))),.c (.int (((aU b).2)))],none,false⟩:=by
 refine aJ Au (Es b) Tryz.func51 (by decide) (by kernel_rfl) ?_
 rw [KZ]
 iterate 3 ((all_goals (repeat' (first | with_reducible apply bu | with_reducible refine bw ?_ | intro))); (all_goals try (first | exact bT | exact rfl | exact ⟨wU aG⟩ | (rw [tlB ae] <;> rfl) | (rw [tlS ae ae ae] <;> rfl) | (rw [tlL ae ae ae ae] <;> rfl) | (rw [tlE ae ae] <;> rfl) | exact (tlN ae ae ae ae) | exact (nx1 ae) | exact (nx2 ae ae) | exact (nx3 ae ae) | (have h:=lI (b.drop ‹Nat × List Field›.1); rw [List.length_drop] at h; first | omega | (refine dY ?_ ?_ <;> omega)) | (simp only [List.length_cons,List.length_nil]; omega))); all_goals try first | refine ⟨zL b ‹Nat × List Field›,?_⟩ | refine ⟨(0,[]),?_⟩)
noncomputable def OG:cO:=(bq 51 (bm (ah (kC (cL .u8)) aH) aI fun (b,_) (_)=>⟨[],[.c (.fz (.nm .field) (((aU b).1))),.c (.int (((aU b).2)))],none,false⟩) Qp)
theorem zY:aW Tryz.prog (al tyT) OG:=(au (av (ab (aq aY) ai) aj fun (b,_) (_) _=>MR b ) Au)
theorem XC {v:Int} (h:cH v=true):1<=v/\v<=3:=by
 unfold cH at h; simpa using h
theorem Pe {b:List UInt8} {v:Int} (h1:(aU b).2=0) (h2:ew (aU b).1 v=0):kx b v=0:=by rw [kx,if_pos h1,h2]
theorem tq1 {b:List UInt8} {v:Int} (h:cH v=false):bP b v=⟨bG,[],1⟩:=XY (fun h2=>by unfold cH at h; simp only [h2,decide_true,Bool.and_self] at h; cases h)
theorem tq2 {b:List UInt8} {v:Int} (h:cH v=true) (h1:(aU b).2=0) (h2:¬ ew (aU b).1 v=0):bP b v=⟨bG,[],ew (aU b).1 v⟩:=by
 have e:kx b v=ew (aU b).1 v:=by rw [kx,if_pos h1]
 rw [Vs (XC h) (by rw [e]; exact h2),e]
theorem tq3 {b:List UInt8} {v:Int} (h:cH v=true) (h1:¬ (aU b).2=0):bP b v=⟨bG,[],(aU b).2⟩:=by
 have e:kx b v=(aU b).2:=by rw [kx,if_neg h1]
 rw [Vs (XC h) (by rw [e]; exact h1),e]
theorem tq4 {b:List UInt8} {v:Int} (h:cH v=true) (h1:(aU b).2=0) (h2:ew (aU b).1 v=0) (h3:¬ dB (bQ (bD (aU b).1 (bj v))) (cC (aU b).1 (bj v)) v=0\/decide (eg (bQ (bD (aU b).1 (bj v))) (cC (aU b).1 (bj v)) v=b)=false):bP b v=⟨bG,[],6⟩:=
 Un (XC h) (Pe h1 h2) (h3.imp_right fun h=>by simpa using h)
theorem tq5 {b:List UInt8} {v:Int} (h:cH v=true) (h1:(aU b).2=0) (h2:ew (aU b).1 v=0) (h3:dB (bQ (bD (aU b).1 (bj v))) (cC (aU b).1 (bj v)) v=0) (h4:decide (eg (bQ (bD (aU b).1 (bj v))) (cC (aU b).1 (bj v)) v=b)=true):bP b v=⟨bQ (bD (aU b).1 (bj v)),cC (aU b).1 (bj v),0⟩:=
 UE (XC h) (Pe h1 h2) ⟨h3,of_decide_eq_true h4⟩
theorem JJ (b:List UInt8) (v:Int) (r0:Command) (r1:List Field) (r2:Int):ck tyT OG [] Tryz.f28 [.c (.fz .u8 (b)),.c (.int (v))] [] [.agg (cellsOf (.nm .command) r0),.c (.fz (.nm .field) (r1)),.c (.int (r2))]=((fun (q8:Nat)=>(fun (q7:Int)=>(fun (q6:Prop)=>(fun (q5:Prop)=>(fun (q4:List Field)=>(fun (q3:List Field)=>(fun (q2:Int)=>(fun (q1:Command)=>(fun (q0:Prop)=>b.length*(1:Nat)<=q8->I64 v->(cH v=false->q2=r0.kind/\q2=r0.client/\q2=r0.seq/\q2=r0.set/\q2=r0.id/\q2=r0.n/\q6/\q5/\r1=[]/\(1:Int)=r2)/\(cH v=true->q4.length*(48:Nat)<=q8->I64 q7->(q7=q2->(1:Int)=(1:Int)/\(I64 (ew q4 v)->(¬ew q4 v=q2->q2=r0.kind/\q2=r0.client/\q2=r0.seq/\q2=r0.set/\q2=r0.id/\q2=r0.n/\q6/\q5/\r1=[]/\ew q4 v=r2)/\(ew q4 v=q2->q0)))/\(¬q7=q2->(¬q7=q2->q2=r0.kind/\q2=r0.client/\q2=r0.seq/\q2=r0.set/\q2=r0.id/\q2=r0.n/\q6/\q5/\r1=[]/\q7=r2)/\(q7=q2->q0)))) ((1:Int)=(1:Int)/\(I64 (bj v)->(bD q4 (bj v)).length*(48:Nat)<=q8->q3.length*(48:Nat)<=q8->(∀ (f:Field),List.Mem f (bD q4 (bj v))->f.b.length<=(16384:Nat))/\(I64 q1.kind->I64 q1.client->I64 q1.seq->I64 q1.set->I64 q1.id->I64 q1.n->q1.chunks.length*(8:Nat)<=q8->q1.text.b.length<=q8->q3.length<=(20000:Nat)/\(I64 (dB q1 q3 v)->(¬dB q1 q3 v=q2\/decide (eg q1 q3 v=b)=false->q2=r0.kind/\q2=r0.client/\q2=r0.seq/\q2=r0.set/\q2=r0.id/\q2=r0.n/\q6/\q5/\r1=[]/\(6:Int)=r2)/\(dB q1 q3 v=q2/\decide (eg q1 q3 v=b)=true->q1.kind=r0.kind/\q1.client=r0.client/\q1.seq=r0.seq/\q1.set=r0.set/\q1.id=r0.id/\q1.n=r0.n/\q1.chunks=r0.chunks/\q1.text=r0.text/\q3=r1/\q2=r2)))))) (bQ (bD q4 (bj v)))) (0:Int)) (cC q4 (bj v))) (aU b).fst) (Str.mk []=r0.text)) (r0.chunks=[])) (aU b).snd) (140737488355328:Nat)):=by kernel_rfl
theorem Kk (b:List UInt8) (v:Int):Sat Tryz.prog (al tyT) 28 [.c (.fz .u8 (b)),.c (.int (v))] [] ⟨[],[.agg (cellsOf (.nm .command) ((bP b v).c)),.c (.fz (.nm .field) (((bP b v).r))),.c (.int (((bP b v).e)))],none,false⟩:=by
 refine aJ zY [] Tryz.func28 (by decide) (by kernel_rfl) ?_
 rw [JJ]
 (repeat' (first | with_reducible apply bu | with_reducible refine bw ?_ | intro))
 all_goals (first | exact bT | (rw [tq1 ae] <;> rfl) | (rw [tq2 ae ae ae] <;> rfl) | (rw [tq3 ae ae] <;> rfl) | (rw [tq4 ae ae ae (by assumption)] <;> rfl) | (rw [tq5 ae ae ae ae ae] <;> rfl) | exact (EB (Pe ae ae) _ (by assumption)) | (have h1:=nN (aU b).1 (bj v); have h2:=Az b; omega))
noncomputable def BV:cO:=(bq 28 (bm (ah (kC (cL .u8)) (ah (kC cI) aH)) aI fun (b,v,_) (_)=>⟨[],[.agg (cellsOf (.nm .command) ((bP b v).c)),.c (.fz (.nm .field) (((bP b v).r))),.c (.int (((bP b v).e)))],none,false⟩) OG)
theorem lG:aW Tryz.prog (al tyT) BV:=(au (av (ab (aq aY) (ab (aq ay) ai)) aj fun (b,v,_) (_) _=>Kk b v ) zY)
theorem p1n {p:List UInt8} {r n:Nat} (h:p++bS r=bS n) (hr:¬ r<128):(p++[UInt8.ofNat ((r % 128+128) % 18446744073709551616)])++bS (r / 128)=bS n:=by
 rw [Nat.mod_eq_of_lt (show r % 128+128<18446744073709551616 by omega)]; exact Cw h hr
theorem p1l {p:List UInt8} {r n:Nat} {x:UInt8} (h:p++bS r=bS n) (hn:n<18446744073709551616):(p.length+[x].length)*1<=140737488355328:=by
 have:=DI h hn; rw [List.length_singleton]; omega
def NW (n:U64):List (Nat × LI):=[(2,{ σ:=List UInt8 × Nat,F:=fun s=>([(0,one (.u64 s.2)),(3,one (.own 0))],[.row 5 .u8 ((s.1))]),J:=fun s=>s.1++bS s.2=bS n.n/\s.2<18446744073709551616/\n.n<18446744073709551616,μ:=fun s=>s.2 })]
theorem Pa (n:U64) (r0:List UInt8):gV tyT BV (NW n) Tryz.f123 [.c (.u64 (n).n)] [] [.c (.own 0)] [.row 5 .u8 (r0)]=((fun (q1:Nat)=>(fun (q0:Nat)=>n.n<q1->∃ (s0:List UInt8 × Nat),(n.n=s0.snd/\s0.fst=[])/\(s0.fst++bS s0.snd=bS n.n/\s0.snd<q1/\n.n<q1)/\∀ (s:List UInt8 × Nat),(fun (q2:List (den Sh.u8))=>s.fst++bS s.snd=bS n.n/\s.snd<q1/\n.n<q1->((↑q0:Int)<=(↑s.snd:Int)->(0:Nat)<q0/\(s.fst.length+q2.length)*(1:Nat)<=(140737488355328:Nat)/\(0:Nat)<q0/\∃ (s':List UInt8 × Nat),(s.snd / q0=s'.snd/\s.fst++q2=s'.fst)/\(s'.fst++bS s'.snd=bS n.n/\s'.snd<q1/\n.n<q1)/\s'.snd<s.snd)/\((↑s.snd:Int)<(↑q0:Int)->(s.fst.length+[UInt8.ofNat s.snd].length)*(1:Nat)<=(140737488355328:Nat)/\s.fst++[UInt8.ofNat s.snd]=r0)) [UInt8.ofNat ((s.snd % q0+q0) % q1)]) (128:Nat)) (18446744073709551616:Nat)):=by kernel_rfl
theorem Ss (n:U64):Sat Tryz.prog (al tyT) 123 [.c (.u64 (n).n)] [] ⟨[],[.c (.own 0)],some ([.row 5 .u8 ((bS n.n))]),true⟩:=by
 refine cA lG (NW n) Tryz.func123 (by decide) (by kernel_rfl) ?_
 rw [Pa]
 iterate 3 ((all_goals (repeat' (first | with_reducible apply bu | with_reducible refine bw ?_ | intro))); (all_goals try (first | exact bT | exact (p1n ae aG) | exact (Jr ae aG) | exact rfl | exact (p1l ae ae))); all_goals try first | refine ⟨(‹List UInt8 × Nat›.1++[UInt8.ofNat ((‹List UInt8 × Nat›.2 % 128+128) % 18446744073709551616)],‹List UInt8 × Nat›.2 / 128),?_⟩ | refine ⟨([],n.n),?_⟩)
theorem IJ (a:Field) (f:Field) (r0:Bool):ck tyT BV [] Tryz.f115 [.agg (cellsOf (.nm .field) a),.agg (cellsOf (.nm .field) f)] [] [.c (.bool (.atom (r0)))]=(I64 a.num->I64 a.wire->a.n.n<(18446744073709551616:Nat)->a.b.length*(1:Nat)<=(140737488355328:Nat)->I64 f.num->I64 f.wire->f.n.n<(18446744073709551616:Nat)->f.b.length*(1:Nat)<=(140737488355328:Nat)->(decide (f.num<a.num) || decide (f.num=a.num) && (!decide (a.wire=(2:Int)) || !decide (f.wire=(2:Int))))=r0):=by kernel_rfl
theorem Dj (a:Field) (f:Field):Sat Tryz.prog (al tyT) 115 [.agg (cellsOf (.nm .field) a),.agg (cellsOf (.nm .field) f)] [] ⟨[],[.c (.bool (.atom ((!cS a f))))],none,false⟩:=by
 refine aJ lG [] Tryz.func115 (by decide) (by kernel_rfl) ?_
 rw [IJ]
 grind [cS]
theorem QU (a:Int) (b:Int) (n:Bool) (r0:Spec):ck tyT BV [] Tryz.f167 [.c (.int (a)),.c (.int (b)),.c (.bool (.atom (n)))] [] [.agg (cellsOf (.nm .spec) r0)]=(I64 a->I64 b->a=r0.num/\(0:Int)=r0.wire/\b=r0.since/\n=r0.need/\false=r0.many):=by kernel_rfl
theorem RQ (a:Int) (b:Int) (n:Bool):Sat Tryz.prog (al tyT) 167 [.c (.int (a)),.c (.int (b)),.c (.bool (.atom (n)))] [] ⟨[],[.agg (cellsOf (.nm .spec) (⟨a,0,b,n,false⟩))],none,false⟩:=by
 refine aJ lG [] Tryz.func167 (by decide) (by kernel_rfl) ?_
 rw [QU]
 grind
theorem Sw (a:Int) (b:Int) (n:Bool) (m:Bool) (r0:Spec):ck tyT BV [] Tryz.f168 [.c (.int (a)),.c (.int (b)),.c (.bool (.atom (n))),.c (.bool (.atom (m)))] [] [.agg (cellsOf (.nm .spec) r0)]=(I64 a->I64 b->a=r0.num/\(2:Int)=r0.wire/\b=r0.since/\n=r0.need/\m=r0.many):=by kernel_rfl
theorem Qv (a:Int) (b:Int) (n:Bool) (m:Bool):Sat Tryz.prog (al tyT) 168 [.c (.int (a)),.c (.int (b)),.c (.bool (.atom (n))),.c (.bool (.atom (m)))] [] ⟨[],[.agg (cellsOf (.nm .spec) (⟨a,2,b,n,m⟩))],none,false⟩:=by
 refine aJ lG [] Tryz.func168 (by decide) (by kernel_rfl) ?_
 rw [Sw]
 grind
noncomputable def Cq:cO:=(bq 168 (bm (ah (kC cI) (ah (kC cI) (ah (kC cB) (ah (kC cB) aH)))) aI fun (a,b,n,m,_) (_)=>⟨[],[.agg (cellsOf (.nm .spec) (⟨a,2,b,n,m⟩))],none,false⟩) (bq 167 (bm (ah (kC cI) (ah (kC cI) (ah (kC cB) aH))) aI fun (a,b,n,_) (_)=>⟨[],[.agg (cellsOf (.nm .spec) (⟨a,0,b,n,false⟩))],none,false⟩) (bq 115 (bm (ah (kT (.nm .field)) (ah (kT (.nm .field)) aH)) aI fun (a,f,_) (_)=>⟨[],[.c (.bool (.atom ((!cS a f))))],none,false⟩) (bq 123 (bm (ah (kC cU) aH) aI fun (n,_) (_)=>⟨[],[.c (.own 0)],some ([.row 5 .u8 ((bS n.n))]),true⟩) BV))))
theorem lu:aW Tryz.prog (al tyT) Cq:=(au (av (ab (aq ay) (ab (aq ay) (ab (aq lN) (ab (aq lN) ai)))) aj fun (a,b,n,m,_) (_) _=>Qv a b n m ) (au (av (ab (aq ay) (ab (aq ay) (ab (aq lN) ai))) aj fun (a,b,n,_) (_) _=>RQ a b n ) (au (av (ab aZ (ab aZ ai)) aj fun (a,f,_) (_) _=>Dj a f ) (au (av (ab (aq Hp) ai) aj fun (n,_) (_) _=>Ss n ) lG))))
def mF (b:List UInt8):Nat->Nat
 | 0=>0
 | k+1=>(mF b k+(b.getD k 0).toNat % 128*2 ^ (7*k) % 18446744073709551616) % 18446744073709551616
def vN (b:List UInt8) (k:Nat) (x:UInt8):Nat:=(mF b k+(x % UInt8.ofNat 128).toNat*2 ^ (7*(k:Int)).toNat % 18446744073709551616) % 18446744073709551616
theorem canon:∀ {l:List UInt8} {k n v e:Nat},bM k n l=(v,e,0)->∃ u j,v=n+u*2 ^ (7*k)/\e=k+j/\bS u=l.take j/\(0<k->u≠0)
 | [],k,n,v,e,h=>by rw [bM] at h; split at h <;> cases h
 | x :: r,k,n,v,e,h=>by
  rw [bM] at h
  split at h
  ·cases h
  ·split at h
   ·cases h
   ·rename_i h1 h2
    split at h
    ·rename_i h3
     cases h
     refine ⟨x.toNat,1,by rw [ru h3],rfl,?_,fun hk e=>h2 (.inl ⟨hk,e⟩)⟩
     rw [iz h3]; simp
    ·rename_i h3
     obtain ⟨u,j,rfl,rfl,hp,hu⟩:=canon h
     refine ⟨x.toNat % 128+128*u,j+1,?_,by omega,?_,fun _ e=>by have:=hu (by omega); omega⟩
     ·rw [iR,show 7*(k+1)=7*k+7 by omega,Nat.pow_add,Nat.add_mul,Nat.add_assoc,show (2:Nat) ^ 7=128 from rfl,Nat.mul_comm (2 ^ (7*k)) 128,<- Nat.mul_assoc,Nat.mul_comm u 128]
     ·have hu0:=hu (by omega)
      rw [qf (by omega),y_,show (x.toNat % 128+128*u) / 128=u by omega,hp,List.take_succ_cons]
      congr 1
      apply UInt8.toNat_inj.1
      have:=x.toNat_lt
      rw [UInt8.toNat_ofNat']
      omega
def JC (b:List UInt8) (k:Nat):Prop:=(k<=9->aw b=bM k (mF b k) (b.drop k)/\mF b k<2 ^ (7*k))/\(k=10->aw b=(0,0,3))
theorem XP (b:List UInt8):JC b 0:=⟨fun _=>⟨rfl,show (0:Nat)<2 ^ (7*0) by decide⟩,fun h=>by omega⟩
theorem aae {b:List UInt8} {k:Nat} (h:Wq (JC b k)) (hk:(k:Int)<10) (hb:(b.length:Int)<=(k:Int)):aw b=(0,0,2):=(h.h.1 (by omega)).1.trans (Fg (by omega) (by omega))
theorem aaK {b:List UInt8} {k:Nat} (h:Wq (JC b k)) (hk:10<=(k:Int)) (hk2:k<=10):aw b=(0,0,3):=h.h.2 (by omega)
theorem NR {b:List UInt8} {k:Nat} {x:UInt8} (hx:b[k]? = some x):vN b k x=mF b (k+1):=by
 unfold vN
 rw [mF,List.getD_eq_getElem?_getD,hx,show (7*(k:Int)).toNat=7*k by omega,UInt8.toNat_mod]; rfl
theorem Ij {b:List UInt8} {k:Nat} {x:UInt8} (hk:k<=9) (hn:mF b k<2 ^ (7*k)) (h9:k=9->x.toNat<=1):vN b k x=mF b k+(x &&& 127).toNat*2 ^ (7*k):=by
 have hs:=xB hk h9
 have ho:=xR (k:=k) (m:=(x &&& 127).toNat) hn
 have hl:mF b k ||| (x &&& 127).toNat*2 ^ (7*k)<2 ^ 64:=Nat.or_lt_two_pow (Nat.lt_of_lt_of_le hn (Nat.pow_le_pow_right (by decide) (by omega))) hs
 rw [ho] at hl
 unfold vN
 rw [show (7*(k:Int)).toNat=7*k by omega,UInt8.toNat_mod,show (UInt8.ofNat 128).toNat=128 from rfl,<- iR,Nat.mod_eq_of_lt hs,Nat.mod_eq_of_lt hl]
theorem aaz {b:List UInt8} {k:Nat} {x y:UInt8} (h:Wq (JC b k)) (hk:(k:Int)<10) (hx:b[k]? = some x) (hy:b[k]? = some y) (h1:((UInt8.ofNat 128).toNat:Int)<=(y.toNat:Int)):Wq (JC b (k+1)):=by
 rw [hx] at hy; cases hy
 rw [show (UInt8.ofNat 128).toNat=128 from rfl] at h1
 obtain ⟨he,hn⟩:=h.h.1 (by omega)
 refine ⟨fun h9=>?_,fun h9=>sH he (by omega) hx (.inr ⟨by omega,by omega⟩)⟩
 have e:=Ij (x:=x) (by omega) hn (by omega)
 rw [<- NR hx,e]
 exact ⟨Ak he aG hx aG aG aG,rZ hn⟩
theorem PI {b:List UInt8} {k:Nat} {x:UInt8} (h:Str.mk (bS (vN b k x))=Str.mk (b.take ((k:Int)+1).toNat)) (hx:b[k]? = some x):aw b=(vN b k x,k+1,0):=by
 have h2:bS (vN b k x)=b.take (k+1):=by have:=congrArg Str.b h; rw [show ((k:Int)+1).toNat=k+1 by omega] at this; exact this
 have hv:vN b k x<18446744073709551616:=Nat.mod_lt _ (by decide)
 have e:=qI hv (b.drop (k+1))
 rw [h2,List.take_append_drop,List.length_take,Nat.min_eq_left (kj hx)] at e
 exact e
theorem aax {b:List UInt8} {k:Nat} {x y:UInt8} (h2:¬ Str.mk (bS (vN b k x))=Str.mk (b.take ((k:Int)+1).toNat)) (h:Wq (JC b k)) (hk:(k:Int)<10) (hx:b[k]? = some x) (hy:b[k]? = some y) (h1:(y.toNat:Int)<((UInt8.ofNat 128).toNat:Int)):aw b=(0,0,3):=by
 rw [hx] at hy; cases hy
 rw [show (UInt8.ofNat 128).toNat=128 from rfl] at h1
 obtain ⟨he,hn⟩:=h.h.1 (by omega)
 by_cases hz:(0<k/\x.toNat=0)\/(k=9/\1<x.toNat)
 ·exact sH he aG hx hz
 ·exfalso
  have hd:=AJ he (by omega) hx (fun h=>hz (.inl h)) (fun h=>hz (.inr h)) (by omega)
  have e:=Ij (b:=b) (x:=x) (show k<=9 by omega) hn (by omega)
  rw [<- e] at hd
  obtain ⟨u,j,h3,h4,h5,_⟩:=canon (k:=0) (n:=0) hd
  have h6:u=vN b k x:=by simpa using h3.symm
  have h7:j=k+1:=by omega
  rw [h6,h7] at h5
  exact h2 (by rw [show ((k:Int)+1).toNat=k+1 by omega,h5])
def Am (b:List UInt8):List (Nat × LI):=[(3,{ σ:=Nat,F:=fun k=>([(0,one (.fz .u8 (b))),(5,one (.u64 (mF b k))),(6,one (.int k))],[]),J:=fun k=>k<=10/\k<=b.length/\Wq (JC b k),μ:=fun k=>10 - k })]
def On (l:List Int):List (Nat × LI):=[(5,{ σ:=Nat,F:=fun k=>([(0,one (.fz .int (l))),(4,one (.own 0)),(5,one (.int k))],[.row 5 .u8 ((dL (l.take k)))]),J:=fun k=>k<=l.length/\rowF l=true,μ:=fun k=>l.length - k })]
theorem Jb (b:List UInt8) (r0:U64) (r1:Int) (r2:Int):ck tyT Cq (Am b) Tryz.f114 [.c (.fz .u8 (b))] [] [.c (.u64 (r0).n),.c (.int (r1)),.c (.int (r2))]=((fun (q6:Int)=>(fun (q5:Int)=>(fun (q4:Nat)=>(fun (q3:Int)=>(fun (q2:Int)=>(fun (q1:Prop)=>(fun (q0:UInt8)=>b.length*(1:Nat)<=(140737488355328:Nat)->∃ (s0:Nat),(b=b/\(0:Nat)=mF b s0/\q3=(↑s0:Int))/\(s0<=(10:Nat)/\s0<=b.length/\Wq (JC b s0))/\∀ (s:Nat),(fun (q9:Int)=>(fun (q8:Nat)=>(fun (q7:Int)=>s<=(10:Nat)/\s<=b.length/\Wq (JC b s)->(q9<(10:Int)->(q5<=q9->(0:Nat)=r0.n/\q3=r1/\(2:Int)=r2)/\(q9<q5->q3<=q9/\q9<q5/\∀ (x:UInt8),(fun (q10:Nat)=>b[s]? = some x->(0:Nat)<q0.toNat/\I64 (q6*q9)/\q3<=q6*q9/\q6*q9<(64:Int)/\q3<=q9/\q9<q5/\∀ (x:UInt8),(fun (q11:Prop)=>b[s]? = some x->((↑x.toNat:Int)<(↑q0.toNat:Int)->I64 q7/\(q3<=q7/\q7<=q5)/\(¬q11->q1)/\(q11->I64 q7/\q10=r0.n/\q7=r1/\q3=r2))/\((↑q0.toNat:Int)<=(↑x.toNat:Int)->I64 q7/\∃ (s':Nat),(b=b/\q10=mF b s' /\ q7=(↑s':Int))/\(s' <= (10:Nat)/\s' <= b.length/\Wq (JC b s'))/\(10:Nat) - s' < (10:Nat) - s)) (Str.mk (bS q10)=Str.mk (List.take q7.toNat b))) ((mF b s+(x % q0).toNat*q8 % q4) % q4)))/\((10:Int)<=q9->q1)) (q9+q2)) ((2:Nat) ^ (q6*q9).toNat)) (↑s:Int)) (UInt8.ofNat (128:Nat))) ((0:Nat)=r0.n/\q3=r1/\(3:Int)=r2)) (1:Int)) (0:Int)) (18446744073709551616:Nat)) (↑b.length:Int)) (7:Int)):=by kernel_rfl
theorem HE (b:List UInt8):Sat Tryz.prog (al tyT) 114 [.c (.fz .u8 (b))] [] ⟨[],[.c (.u64 ((U64.mk (aw b).1)).n),.c (.int ((((aw b).2.1:Nat)))),.c (.int (((aw b).2.2)))],none,false⟩:=by
 refine aJ lu (Am b) Tryz.func114 (by decide) (by kernel_rfl) ?_
 rw [Jb]
 (repeat' (first | with_reducible apply bu | with_reducible refine bw ?_ | intro))
 all_goals try (refine ⟨0,?_⟩; (repeat' (first | with_reducible apply bu | with_reducible refine bw ?_ | intro)))
 all_goals try (refine ⟨‹Nat› + 1,?_⟩; (repeat' (first | with_reducible apply bu | with_reducible refine bw ?_ | intro)))
 all_goals (first | exact bT | exact rfl | exact ⟨XP b⟩ | (rw [aae ae ae ae] <;> rfl) | (rw [aaK ae ae ae] <;> rfl) | (rw [aax (by assumption) ae ae ae ae ae] <;> rfl) | exact (congrArg Prod.fst (PI (by assumption) ae)).symm | exact (congrArg (fun t=>((t.2.1:Nat):Int)) (PI (by assumption) ae)).symm | exact (congrArg (fun t=>t.2.2) (PI (by assumption) ae)).symm | exact (aaz ae ae ae ae ae) | exact (NR ae) | decide)
theorem O_ (num:Int) (wire:Int) (r0:Int) (r1:List UInt8):gV tyT Cq [] Tryz.f122 [.c (.int (num)),.c (.int (wire))] [] [.c (.own 0),.c (.int (r0))] [.row 5 .u8 (r1)]=((fun (q0:Int)=>I64 num->I64 wire->((num<(1:Int)\/(1000:Int)<num)\/¬wire=(0:Int)/\¬wire=(2:Int)->(1:Int)=r0/\r1=[])/\(((1:Int)<=num/\num<=(1000:Int))/\(wire=(0:Int)\/wire=(2:Int))->I64 ((8:Int)*num)/\I64 q0/\(0:Int)<=q0/\(0:Int)=r0/\bS q0.toNat=r1)) ((8:Int)*num+wire)):=by kernel_rfl
theorem QV (num:Int) (wire:Int):Sat Tryz.prog (al tyT) 122 [.c (.int (num)),.c (.int (wire))] [] ⟨[],[.c (.own 0),.c (.int ((iH num wire)))],some ([.row 5 .u8 ((jR num wire))]),true⟩:=by
 refine cA lu [] Tryz.func122 (by decide) (by kernel_rfl) ?_
 rw [O_]
 (repeat' (first | with_reducible apply bu | with_reducible refine bw ?_ | intro))
 all_goals (first | exact bT | exact (kM aG) | exact (jm aG) | exact (nO aG).symm | exact (nO aG) | exact (wB aG))
theorem Sx (q:Int) (r0:List Spec):ck tyT Cq [] Tryz.f121 [.c (.int (q))] [] [.c (.fz (.nm .spec) (r0))]=((fun (q7:Int)=>(fun (q6:Int)=>(fun (q5:Int)=>(fun (q4:Int)=>(fun (q3:Int)=>(fun (q2:Int)=>(fun (q1:Int)=>(fun (q0:Int)=>I64 q->(q=q0->I64 q0->I64 q1->I64 q0->I64 q2->I64 q1->I64 q0->I64 q3->I64 q1->I64 q0->I64 q4->I64 q1->I64 q0->I64 q5->I64 q1->I64 q0->I64 q6->I64 q1->I64 q0->I64 q7->I64 q2->I64 q0->I64 (8:Int)->I64 q2->I64 q3->[Spec.mk q0 q1 q0 true false,Spec.mk q2 q1 q0 false false,Spec.mk q3 q1 q0 false false,Spec.mk q4 q1 q0 false false,Spec.mk q5 q1 q0 false false,Spec.mk q6 q1 q0 false false,Spec.mk q7 q2 q0 false false,Spec.mk (8:Int) q2 q3 false false]=r0)/\(¬q=q0->(q=q2->I64 q0->I64 q1->I64 q0->I64 q2->I64 q1->I64 q0->I64 q3->I64 q2->I64 q0->I64 q4->I64 q1->I64 q2->I64 q5->I64 q2->I64 q3->[Spec.mk q0 q1 q0 true false,Spec.mk q2 q1 q0 true false,Spec.mk q3 q2 q0 true false,Spec.mk q4 q1 q2 false false,Spec.mk q5 q2 q3 false false]=r0)/\(¬q=q2->(q=q3->I64 q0->I64 q1->I64 q0->I64 q2->I64 q1->I64 q0->[Spec.mk q0 q1 q0 true false,Spec.mk q2 q1 q0 true false]=r0)/\(¬q=q3->(q=q4->I64 q0->I64 q1->I64 q0->I64 q2->I64 q1->I64 q0->I64 q3->I64 q1->I64 q0->I64 q4->I64 q1->I64 q0->[Spec.mk q0 q1 q0 true false,Spec.mk q2 q1 q0 false false,Spec.mk q3 q1 q0 false false,Spec.mk q4 q1 q0 false false]=r0)/\(¬q=q4->(q=q5->I64 q0->I64 q1->I64 q0->I64 q2->I64 q1->I64 q0->I64 q3->I64 q1->I64 q0->I64 q4->I64 q2->I64 q0->I64 q5->I64 q2->I64 q0->I64 q6->I64 q2->I64 q0->I64 q7->I64 q1->I64 q3->[Spec.mk q0 q1 q0 true false,Spec.mk q2 q1 q0 true false,Spec.mk q3 q1 q0 false false,Spec.mk q4 q2 q0 false true,Spec.mk q5 q2 q0 false true,Spec.mk q6 q2 q0 false true,Spec.mk q7 q1 q3 false false]=r0)/\(¬q=q5->(q=q6->I64 q0->I64 q1->I64 q0->I64 q2->I64 q1->I64 q0->I64 q3->I64 q1->I64 q0->I64 q4->I64 q1->I64 q0->I64 q5->I64 q1->I64 q0->I64 q6->I64 q1->I64 q0->I64 q7->I64 q1->I64 q0->I64 (8:Int)->I64 q1->I64 q0->I64 (9:Int)->I64 q1->I64 q0->I64 (10:Int)->I64 q2->I64 q0->[Spec.mk q0 q1 q0 true false,Spec.mk q2 q1 q0 true false,Spec.mk q3 q1 q0 true false,Spec.mk q4 q1 q0 true false,Spec.mk q5 q1 q0 false false,Spec.mk q6 q1 q0 false false,Spec.mk q7 q1 q0 false false,Spec.mk (8:Int) q1 q0 false false,Spec.mk (9:Int) q1 q0 false false,Spec.mk (10:Int) q2 q0 false true]=r0)/\(¬q=q6->(q=q7->I64 q0->I64 q1->I64 q0->I64 q2->I64 q2->I64 q0->[Spec.mk q0 q1 q0 true false,Spec.mk q2 q2 q0 false false]=r0)/\(¬q=q7->r0=[])))))))) (1:Int)) (0:Int)) (2:Int)) (3:Int)) (4:Int)) (5:Int)) (6:Int)) (7:Int)):=by kernel_rfl
theorem Px (q:Int) (h0:q=1):Sat Tryz.prog (al tyT) 121 [.c (.int (q))] [] ⟨[q=1],[.c (.fz (.nm .spec) ((bd)))],none,false⟩:=by
 refine aJ lu [] Tryz.func121 (by decide) (by kernel_rfl) ?_
 rw [Sx]
 subst h0; (repeat' (first | with_reducible apply bu | with_reducible refine bw ?_ | intro))
 all_goals (first | exact bT | exact rfl)
theorem QB (l:List Int) (r0:Int) (r1:List UInt8):gV tyT Cq (On l) Tryz.f90 [.c (.fz .int (l))] [] [.c (.own 0),.c (.int (r0))] [.row 5 .u8 (r1)]=((fun (q0:Prop)=>l.length*(8:Nat)<=(140737488355328:Nat)->(rowF l=false->(1:Int)=r0/\r1=[])/\(q0->∃ (s0:Nat),(l=l/\(0:Int)=(↑s0:Int)/\dL (List.take s0 l)=[])/\(s0<=l.length/\q0)/\∀ (s:Nat),s<=l.length/\q0->((↑s:Int)<(↑l.length:Int)->(0:Int)<=(↑s:Int)/\(↑s:Int)<(↑l.length:Int)/\∀ (x:Int),l[s]? = some x->I64 x->(0:Int)<=x/\((dL (List.take s l)).length+(bS x.toNat).length)*(1:Nat)<=(140737488355328:Nat)/\I64 ((↑s:Int)+(1:Int))/\∃ (s':Nat),(l=l/\(↑s:Int)+(1:Int)=(↑s':Int)/\dL (List.take s l)++bS x.toNat=dL (List.take s' l))/\(s' <= l.length/\q0)/\l.length - s' < l.length - s)/\((↑l.length:Int)<=(↑s:Int)->(0:Int)=r0/\dL (List.take s l)=r1))) (rowF l=true)):=by kernel_rfl
theorem OZ (l:List Int):Sat Tryz.prog (al tyT) 90 [.c (.fz .int (l))] [] ⟨[],[.c (.own 0),.c (.int ((cj l)))],some ([.row 5 .u8 ((bK l))]),true⟩:=by
 refine cA lu (On l) Tryz.func90 (by decide) (by kernel_rfl) ?_
 rw [QB]
 iterate 3 ((all_goals (repeat' (first | with_reducible apply bu | with_reducible refine bw ?_ | intro))); (all_goals try (first | exact bT | exact rfl | exact (l_ ae).symm | exact (l_ ae) | exact (hU ae) | exact (iW ae) | exact (tP ae aG) | exact (qH ae) | exact (TM ae ae) | exact (Ge ae ae))); all_goals try first | refine ⟨‹Nat› + 1,?_⟩ | refine ⟨0,?_⟩)
noncomputable def sZ:cO:=(bq 90 (bm (ah (kC (cL .int)) aH) aI fun (l,_) (_)=>⟨[],[.c (.own 0),.c (.int ((cj l)))],some ([.row 5 .u8 ((bK l))]),true⟩) (bq 121 (bm (ah (kC cI) aH) aI fun (q,_) (_)=>⟨[q=1],[.c (.fz (.nm .spec) ((bd)))],none,false⟩) (bq 122 (bm (ah (kC cI) (ah (kC cI) aH)) aI fun (num,wire,_) (_)=>⟨[],[.c (.own 0),.c (.int ((iH num wire)))],some ([.row 5 .u8 ((jR num wire))]),true⟩) (bq 114 (bm (ah (kC (cL .u8)) aH) aI fun (b,_) (_)=>⟨[],[.c (.u64 ((U64.mk (aw b).1)).n),.c (.int ((((aw b).2.1:Nat)))),.c (.int (((aw b).2.2)))],none,false⟩) Cq))))
theorem fZ:aW Tryz.prog (al tyT) sZ:=(au (av (ab (aq aY) ai) aj fun (l,_) (_) _=>OZ l ) (au (av (ab (aq ay) ai) aj fun (q,_) (_) hp=>Px q (cY hp)) (au (av (ab (aq ay) (ab (aq ay) ai)) aj fun (num,wire,_) (_) _=>QV num wire ) (au (av (ab (aq aY) ai) aj fun (b,_) (_) _=>HE b ) lu))))
def tK (c:Command) (k:Nat):List Field:=((List.range k).map fun j=>lW (j+1:Nat) ([c.kind,c.client,c.seq,c.set,c.id,c.n].getD j 0)).flatten
theorem k_ {c:Command} {k:Nat}:tK c (k+1)=tK c k++lW ((k:Int)+1) ([c.kind,c.client,c.seq,c.set,c.id,c.n].getD k (dflt .int)):=by
 unfold tK; rw [List.range_succ,List.map_append,List.flatten_append]; simp; rfl
theorem Wc {c:Command} {k:Nat} (h:¬ [c.kind,c.client,c.seq,c.set,c.id,c.n].getD k (dflt .int)=0):tK c k++[Field.mk ((k:Int)+1) 0 (U64.mk ([c.kind,c.client,c.seq,c.set,c.id,c.n].getD k (dflt .int)).toNat) []]=tK c (k+1):=by rw [k_,lW,if_neg h]
theorem UD {c:Command} {k:Nat} (h:[c.kind,c.client,c.seq,c.set,c.id,c.n].getD k (dflt .int)=0):tK c k=tK c (k+1):=by rw [k_,lW,if_pos h,List.append_nil]
theorem zh (c:Command):∀ k,(tK c k).length<=k
 | 0=>Nat.le_refl _
 | k+1=>by
  have:=zh c k
  have:=eT ((k:Int)+1) ([c.kind,c.client,c.seq,c.set,c.id,c.n].getD k (dflt .int))
  rw [k_,List.length_append]; omega
theorem Vm {c:Command} {k:Nat} (h0:0<=c.kind) (h1:0<=c.client) (h2:0<=c.seq) (h3:0<=c.set) (h4:0<=c.id) (h5:0<=c.n):0<=[c.kind,c.client,c.seq,c.set,c.id,c.n].getD k (dflt .int):=by
 match k with
 | 0=>exact h0
 | 1=>exact h1
 | 2=>exact h2
 | 3=>exact h3
 | 4=>exact h4
 | 5=>exact h5
 | k+6=>exact Int.le_refl 0
theorem vq {c:Command} {k:Nat} (hk:k<=6) (h:(([c.kind,c.client,c.seq,c.set,c.id,c.n].length:Nat):Int)<=(k:Int)):tK c k++qm 7 (bK c.chunks)=od c:=by
 have h6:6<=k:=Int.ofNat_le.1 h
 have e:k=6:=by omega
 subst e
 rw [k_,k_,k_,k_,k_,k_]; rfl
theorem b7y {c:Command} (hr:c.chunks.length=0\/rowF c.chunks=true) (hc:0<(c.chunks.length:Int)):[Field.mk 7 2 (U64.mk 0) (bK c.chunks)]=qm 7 (bK c.chunks):=by
 have hr:=hr.resolve_left (by omega)
 rw [qm,if_pos]
 rw [(ml hr).1,List.length_map]; exact hc
theorem XJ {c:Command} (hc:(c.chunks.length:Int)<=0):qm 7 (bK c.chunks)=[]:=by
 rw [List.eq_nil_of_length_eq_zero (l:=c.chunks) (by omega)]; rfl
theorem Vg {c:Command} {v:Int} {k:Nat} (hk:k<=6) (h:(([c.kind,c.client,c.seq,c.set,c.id,c.n].length:Nat):Int)<=(k:Int)) (hr:c.chunks.length=0\/rowF c.chunks=true) (hc:0<(c.chunks.length:Int)) (ht:0<(c.text.b.length:Int)) (hv:3<=v):tK c k++[Field.mk 7 2 (U64.mk 0) (bK c.chunks)]++[Field.mk 8 2 (U64.mk 0) c.text.b]=bL c v:=by
 rw [b7y hr hc,vq hk h,bL,if_pos hv,qm,if_pos ht]
theorem Ur {c:Command} {v:Int} {k:Nat} (hk:k<=6) (h:(([c.kind,c.client,c.seq,c.set,c.id,c.n].length:Nat):Int)<=(k:Int)) (hr:c.chunks.length=0\/rowF c.chunks=true) (hc:0<(c.chunks.length:Int)) (ht:(c.text.b.length:Int)<=0\/v<3):tK c k++[Field.mk 7 2 (U64.mk 0) (bK c.chunks)]=bL c v:=by
 rw [b7y hr hc,vq hk h,bL]
 split
 ·rw [qm,if_neg (by omega),List.append_nil]
 ·rfl
theorem Wl {c:Command} {v:Int} {k:Nat} (hk:k<=6) (h:(([c.kind,c.client,c.seq,c.set,c.id,c.n].length:Nat):Int)<=(k:Int)) (hc:(c.chunks.length:Int)<=0) (ht:0<(c.text.b.length:Int)) (hv:3<=v):tK c k++[Field.mk 8 2 (U64.mk 0) c.text.b]=bL c v:=by
 rw [bL,if_pos hv,qm,if_pos ht,<- vq hk h,XJ hc,List.append_nil]
theorem Xd {c:Command} {v:Int} {k:Nat} (hk:k<=6) (h:(([c.kind,c.client,c.seq,c.set,c.id,c.n].length:Nat):Int)<=(k:Int)) (hc:(c.chunks.length:Int)<=0) (ht:(c.text.b.length:Int)<=0\/v<3):tK c k=bL c v:=by
 rw [bL]
 split
 ·rw [qm,if_neg (by omega),List.append_nil,<- vq hk h,XJ hc,List.append_nil]
 ·rw [<- vq hk h,XJ hc,List.append_nil]
theorem t2A {b:List UInt8} (h:(aw b).2.2=0) (hx:(aw b).1<8008) (h0:¬ iH (dv ((aw b).1 / 8)) (dv ((aw b).1 % 8))=0):aB b=⟨0,0,0,6⟩:=by
 rw [eL (by omega),eL (by omega)] at h0
 by_cases hc:(((((aw b).1 / 8:Nat):Int))<1\/1000<(((aw b).1 / 8:Nat):Int))\/(¬ (((aw b).1 % 8:Nat):Int)=0/\¬ (((aw b).1 % 8:Nat):Int)=2)
 ·exact sI h aG
 ·exact absurd (jm hc).symm h0
theorem t2B {b:List UInt8} (h:(aw b).2.2=0) (hx:8008<=(aw b).1):aB b=⟨0,0,0,6⟩:=sI h (by omega)
theorem Xz {b:List UInt8} (h:(aw b).2.2=0) (hx:(aw b).1<8008) (h0:iH (dv ((aw b).1 / 8)) (dv ((aw b).1 % 8))=0):dv ((aw b).1 / 8)=(aB b).num/\dv ((aw b).1 % 8)=(aB b).wire/\(((aw b).2.1:Nat):Int)=((aB b).k:Nat)/\0=(aB b).e:=by
 rw [eL (by omega),eL (by omega)] at h0 ⊢
 by_cases hc:(((((aw b).1 / 8:Nat):Int))<1\/1000<(((aw b).1 / 8:Nat):Int))\/(¬ (((aw b).1 % 8:Nat):Int)=0/\¬ (((aw b).1 % 8:Nat):Int)=2)
 ·have:=kM hc; omega
 ·rw [yo h (by omega)]; exact ⟨rfl,rfl,rfl,rfl⟩
theorem Yw {l:List Field} {v:Int} {k:Nat} {x y:Field} (h:y.num<=v) (hy:l[k]? = some y) (hx:l[k]? = some x):bD (l.take k) v++[x]=bD (l.take (k+1)) v:=by rw [hy] at hx; cases hx; exact Xo hy h
theorem Yg {l:List Field} {v:Int} {k:Nat} {y:Field} (h:v<y.num) (hy:l[k]? = some y):bD (l.take k) v=bD (l.take (k+1)) v:=Xh hy (by omega)
theorem Yi {l:List Field} {v:Int} {k:Nat} {x y:Field} (h:v<y.num) (hy:l[k]? = some y) (hx:l[k]? = some x):cC (l.take k) v++[x]=cC (l.take (k+1)) v:=by rw [hy] at hx; cases hx; exact WB hy (by omega)
theorem aai {l:List Field} {v:Int} {k:Nat} {y:Field} (h:y.num<=v) (hy:l[k]? = some y):cC (l.take k) v=cC (l.take (k+1)) v:=Wg hy h
def rC (v:Int) (k:Nat):List Spec:=if 1<=v/\v<=3 then (bd.take k).filter (fun s=>decide (s.since<=v)) else []
theorem Tn {v:Int}:rC v 0=[]:=by unfold rC; split <;> rfl
theorem To {v:Int} {k:Nat} {x:Spec} (h1:1<=v) (h3:v<=3) (h:(bd.getD k (dflt (.nm .spec))).since<=v) (hx:bd[k]? = some x):rC v k++[x]=rC v (k+1):=by
 rw [List.getD_eq_getElem?_getD,hx] at h
 unfold rC; rw [if_pos ⟨h1,h3⟩,if_pos ⟨h1,h3⟩]; exact wN hx h
theorem Vj {v:Int} {k:Nat} (h:(v<1\/3<v)\/v<(bd.getD k (dflt (.nm .spec))).since) (hk:k<8):rC v k=rC v (k+1):=by
 unfold rC
 have hy:bd[k]? = some (bd.getD k (dflt (.nm .spec))):=by rw [List.getD_eq_getElem?_getD,List.getElem?_eq_getElem (show k<bd.length from hk)]; rfl
 by_cases hv:1<=v/\v<=3
 ·rw [if_pos hv,if_pos hv]; exact zq hy (by omega)
 ·rw [if_neg hv,if_neg hv]
theorem Vx {v:Int} {k:Nat} {x:Spec}:((rC v k).length+[x].length)*32<=140737488355328:=by
 unfold rC
 split
 ·have:=vM (v:=v) (k:=k); rw [List.length_singleton]; omega
 ·rw [List.length_singleton]; exact (by decide:(0+1)*32<=140737488355328)
theorem Xc {v:Int} {k:Nat} (hk:8<=(k:Int)):rC v k=aK v:=by
 unfold rC
 by_cases hv:1<=v/\v<=3
 ·rw [if_pos hv]; exact Of hv.1 hv.2 hk
 ·rw [if_neg hv,aK,if_pos (by omega)]
def zj (q:Int) (v:Int):List (Nat × LI):=[(4,{ σ:=Nat,F:=fun k=>([(1,one (.int (v))),(5,one (.own 0)),(6,one (.fz (.nm .spec) bd)),(7,one (.int k))],[.row 128 (.nm .spec) ((rC v k))]),J:=fun k=>k<=8,μ:=fun k=>8 - k })]
def DW (b:List UInt8):List (Nat × LI):=[(3,{ σ:=Nat,F:=fun k=>([(0,one (.fz .u8 (b))),(4,one (.own 0)),(5,one (.int k))],[.row 3 .int ((bC (b.take k)))]),J:=fun k=>k<=b.length,μ:=fun k=>b.length - k })]
def zr (l:List Field) (v:Int):List (Nat × LI):=[(4,{ σ:=Nat,F:=fun k=>([(0,one (.fz (.nm .field) (l))),(1,one (.int (v))),(6,one (.own 0)),(7,one (.own 1)),(8,one (.int k))],[.row 90 (.nm .field) ((bD (l.take k) v)),.row 90 (.nm .field) ((cC (l.take k) v))]),J:=fun k=>k<=l.length,μ:=fun k=>l.length - k })]
def vf (c:Command) (v:Int):List (Nat × LI):=[(4,{ σ:=Nat,F:=fun k=>([(1,one (.int (v))),(2,one (.ptr 0 0)),(5,one (.own 2)),(6,one (.own 1)),(7,one (.int k))],[.box 24 (cellsOf (.nm .command) ((c))),.row 3 .int (([c.kind,c.client,c.seq,c.set,c.id,c.n])),.row 90 (.nm .field) (((tK c k)))]),J:=fun k=>k<=6,μ:=fun k=>6 - k })]
theorem DO (b:List UInt8) (r0:Int) (r1:Int) (r2:Int) (r3:Int):ck tyT sZ [] Tryz.f113 [.c (.fz .u8 (b))] [] [.c (.int (r0)),.c (.int (r1)),.c (.int (r2)),.c (.int (r3))]=((fun (q4:Nat)=>(fun (q3:Int)=>(fun (q2:Nat)=>(fun (q1:Int)=>(fun (q0:Int)=>b.length*(1:Nat)<=(140737488355328:Nat)->q2<(18446744073709551616:Nat)->I64 (↑(aw b).snd.fst:Int)->I64 q3->(¬q3=q1->q1=r0/\q1=r1/\q1=r2/\q3=r3)/\(q3=q1->((↑(8008:Nat):Int)<=(↑q2:Int)->q1=r0/\q1=r1/\q1=r2/\(6:Int)=r3)/\((↑q2:Int)<(↑(8008:Nat):Int)->(0:Nat)<q4/\(0:Nat)<q4/\(I64 q0->(¬q0=q1->q1=r0/\q1=r1/\q1=r2/\(6:Int)=r3)/\(q0=q1->dv (q2 / q4)=r0/\dv (q2 % q4)=r1/\(↑(aw b).snd.fst:Int)=r2/\q1=r3))))) (iH (dv (q2 / q4)) (dv (q2 % q4)))) (0:Int)) (aw b).fst) (aw b).snd.snd) (8:Nat)):=by kernel_rfl
theorem C_ (b:List UInt8):Sat Tryz.prog (al tyT) 113 [.c (.fz .u8 (b))] [] ⟨[],[.c (.int (((aB b).num))),.c (.int (((aB b).wire))),.c (.int ((((aB b).k:Nat)))),.c (.int (((aB b).e)))],none,false⟩:=by
 refine aJ fZ [] Tryz.func113 (by decide) (by kernel_rfl) ?_
 rw [DO]
 (repeat' (first | with_reducible apply bu | with_reducible refine bw ?_ | intro))
 all_goals (first | exact bT | (rw [rV ae] <;> rfl) | (rw [t2A ae aG ae] <;> rfl) | (rw [t2B ae aG] <;> rfl) | exact (Xz ae aG ae).1 | exact (Xz ae aG ae).2.1 | exact (Xz ae aG ae).2.2.1 | exact (Xz ae aG ae).2.2.2 | (have:=(jP (l:=b) (k:=0) (n:=0) aG).1; change (aw b).2.1<=11 at this; omega) | decide)
theorem Ql (f:Field) (r0:List UInt8):gV tyT sZ [] Tryz.f89 [.agg (cellsOf (.nm .field) f)] [] [.c (.own 0)] [.row 5 .u8 (r0)]=((fun (q1:Nat)=>(fun (q0:List UInt8)=>I64 f.num->I64 f.wire->f.n.n<(18446744073709551616:Nat)->q1*(1:Nat)<=(140737488355328:Nat)->I64 (iH f.num f.wire)->(f.wire=(0:Int)->(q0.length+(bS f.n.n).length)*(1:Nat)<=(140737488355328:Nat)/\q0++bS f.n.n=r0)/\(¬f.wire=(0:Int)->(0:Int)<=(↑q1:Int)/\(q0.length+(bS q1).length)*(1:Nat)<=(140737488355328:Nat)/\((q0++bS q1).length+q1)*(1:Nat)<=(140737488355328:Nat)/\q0++bS q1++f.b=r0)) (jR f.num f.wire)) f.b.length):=by kernel_rfl
theorem Qj (f:Field) (h0:f.b.length<=16384):Sat Tryz.prog (al tyT) 89 [.agg (cellsOf (.nm .field) f)] [] ⟨[f.b.length<=16384],[.c (.own 0)],some ([.row 5 .u8 ((bR f))]),true⟩:=by
 refine cA fZ [] Tryz.func89 (by decide) (by kernel_rfl) ?_
 rw [Ql]
 (repeat' (first | with_reducible apply bu | with_reducible refine bw ?_ | intro))
 all_goals (first | exact bT | exact (zi ae) | exact (yE ae) | (have:=jd f.num f.wire; have:=df (n:=f.n.n) ae; omega) | (have:=jd f.num f.wire; have:=df (n:=f.b.length) aG; (try simp only [List.length_append]); omega))
theorem Fy (q:Int) (v:Int) (r0:List Spec):ck tyT sZ (zj q v) Tryz.f87 [.c (.int (q)),.c (.int (v))] [] [.c (.fz (.nm .spec) (r0))]=((fun (q4:den (Sh.nm NT.spec))=>(fun (q3:Int)=>(fun (q2:Int)=>(fun (q1:Nat)=>(fun (q0:Prop)=>I64 q->I64 v->q=q3/\(bd.length*(32:Nat)<=(140737488355328:Nat)->∃ (s0:Nat),(v=v/\bd=bd/\(0:Int)=(↑s0:Int)/\rC v s0=[])/\s0<=q1/\∀ (s:Nat),(fun (q6:Int)=>(fun (q5:den (Sh.nm NT.spec))=>s<=q1->(q6<q2->(q0->(0:Int)<=q6/\q6<q2)/\((q0->I64 q5.num/\I64 q5.wire/\I64 q5.since)->(q0/\q5.since<=v->(0:Int)<=q6/\q6<q2/\∀ (x:Spec),bd[s]? = some x->I64 x.num->I64 x.wire->I64 x.since->((rC v s).length+[x].length)*(32:Nat)<=(140737488355328:Nat)/\I64 (q6+q3)/\∃ (s':Nat),(v=v/\bd=bd/\q6+q3=(↑s':Int)/\rC v s++[x]=rC v s')/\s' <= q1/\q1 - s' < q1 - s)/\((v<q3\/(3:Int)<v)\/v<q5.since->I64 (q6+q3)/\∃ (s':Nat),(v=v/\bd=bd/\q6+q3=(↑s':Int)/\rC v s=rC v s')/\s' <= q1/\q1 - s' < q1 - s)))/\(q2<=q6->rC v s=r0)) (bd.getD s q4)) (↑s:Int))) (q3<=v/\v<=(3:Int))) (8:Nat)) (↑bd.length:Int)) (1:Int)) (dflt (Sh.nm NT.spec))):=by kernel_rfl
theorem HJ (q:Int) (v:Int) (h0:q=1):Sat Tryz.prog (al tyT) 87 [.c (.int (q)),.c (.int (v))] [] ⟨[q=1],[.c (.fz (.nm .spec) ((aK v)))],none,false⟩:=by
 refine aJ fZ (zj q v) Tryz.func87 (by decide) (by kernel_rfl) ?_
 rw [Fy]
 iterate 3 ((all_goals (repeat' (first | with_reducible apply bu | with_reducible refine bw ?_ | intro))); (all_goals try (first | exact bT | exact Tn | exact (To ae ae ae ae) | exact (Vj (by assumption) (by have hl:bd.length=8:=rfl; omega)) | exact Vx | exact (Xc (by have hl:bd.length=8:=rfl; omega)) | (have hl:bd.length=8:=rfl; omega))); all_goals try first | refine ⟨‹Nat› + 1,?_⟩ | refine ⟨0,?_⟩)
theorem Mm (b:List UInt8) (r0:List Int) (r1:Int):ck tyT sZ (DW b) Tryz.f75 [.c (.fz .u8 (b))] [] [.c (.fz .int (r0)),.c (.int (r1))]=(b.length*(1:Nat)<=(140737488355328:Nat)->∃ (s0:Nat),(b=b/\(0:Int)=(↑s0:Int)/\bC (List.take s0 b)=[])/\s0<=b.length/\∀ (s:Nat),(fun (q0:List Int)=>s<=b.length->((↑s:Int)<(↑b.length:Int)->(0:Int)<=(↑s:Int)/\(↑s:Int)<(↑b.length:Int)/\∀ (x:UInt8),b[s]? = some x->(q0.length+[(↑x.toNat:Int)].length)*(8:Nat)<=(140737488355328:Nat)/\I64 ((↑s:Int)+(1:Int))/\∃ (s':Nat),(b=b/\(↑s:Int)+(1:Int)=(↑s':Int)/\q0++[(↑x.toNat:Int)]=bC (List.take s' b))/\s' <= b.length/\b.length - s' < b.length - s)/\((↑b.length:Int)<=(↑s:Int)->I64 (cj q0)->(¬cj q0=(0:Int)\/¬Str.mk (bK q0)=Str.mk b->r0=[]/\(6:Int)=r1)/\(cj q0=(0:Int)/\Str.mk (bK q0)=Str.mk b->q0=r0/\(0:Int)=r1))) (bC (List.take s b))):=by kernel_rfl
theorem Ls (b:List UInt8) (h0:b.length<=100000):Sat Tryz.prog (al tyT) 75 [.c (.fz .u8 (b))] [] ⟨[b.length<=100000],[.c (.fz .int ((eb b))),.c (.int ((gB b)))],none,false⟩:=by
 refine aJ fZ (DW b) Tryz.func75 (by decide) (by kernel_rfl) ?_
 rw [Mm]
 iterate 3 ((all_goals (repeat' (first | with_reducible apply bu | with_reducible refine bw ?_ | intro))); (all_goals try (first | exact bT | exact rfl | exact (mb (sU (k:=‹Nat›) aG (by assumption))).symm | exact (mb (sU (k:=‹Nat›) aG (by assumption))) | exact (xu (sU (k:=‹Nat›) aG (by assumption))) | exact (zW aG (Ii ae)) | exact (AK (k:=‹Nat›) aG (Ii ae)) | exact (FC ae) | exact (DX aG aG))); all_goals try first | refine ⟨‹Nat› + 1,?_⟩ | refine ⟨0,?_⟩)
theorem PQ (c:Command) (v:Int) (r0:Bool):ck tyT sZ [] Tryz.f47 [.agg (cellsOf (.nm .command) c),.c (.int (v))] [] [.c (.bool (.atom (r0)))]=((fun (q0:Int)=>I64 c.kind->I64 c.client->I64 c.seq->I64 c.set->I64 c.id->I64 c.n->c.chunks.length*(8:Nat)<=(140737488355328:Nat)->c.text.b.length<=(140737488355328:Nat)->I64 v->I64 (a_ c.kind)->(bb c.kind (1:Int) (99:Int) && (decide (a_ c.kind=q0) || decide (v<a_ c.kind)) && (bb c.client q0 (1048576:Int) && bb c.seq q0 (1048576:Int) && bb c.set q0 (1048576:Int) && bb c.id q0 (1048576:Int) && bb c.n q0 (1048576:Int)) && (decide ((↑c.chunks.length:Int)=q0) || rowF c.chunks) && (decide ((↑c.text.b.length:Int)=q0) || decide ((3:Int)<=v) && decide ((↑c.text.b.length:Int)<=(16:Int))))=r0) (0:Int)):=by kernel_rfl
theorem Pr (c:Command) (v:Int):Sat Tryz.prog (al tyT) 47 [.agg (cellsOf (.nm .command) c),.c (.int (v))] [] ⟨[],[.c (.bool (.atom ((dG c v))))],none,false⟩:=by
 refine aJ fZ [] Tryz.func47 (by decide) (by kernel_rfl) ?_
 rw [PQ]
 (repeat' (first | with_reducible apply bu | with_reducible refine bw ?_ | intro))
 all_goals (first | exact bT | (unfold dG nd; rfl))
theorem Iu (l:List Field) (v:Int) (r0:List Field) (r1:List Field):ck tyT sZ (zr l v) Tryz.f74 [.c (.fz (.nm .field) (l)),.c (.int (v))] [] [.c (.fz (.nm .field) (r0)),.c (.fz (.nm .field) (r1))]=((fun (q2:Nat)=>(fun (q1:Nat)=>(fun (q0:Int)=>l.length*(48:Nat)<=q2->I64 v->∃ (s0:Nat),(l=l/\v=v/\(0:Int)=(↑s0:Int)/\bD (List.take s0 l) v=[]/\cC (List.take s0 l) v=[])/\s0<=q1/\∀ (s:Nat),(fun (q6:Prop)=>(fun (q5:Prop)=>(fun (q4:List Field)=>(fun (q3:Int)=>s<=q1->(q6->q5/\q6/\∀ (x:Field),l[s]? = some x->I64 x.num->I64 x.wire->x.n.n<(18446744073709551616:Nat)->x.b.length*(1:Nat)<=q2->(x.num<=v->q5/\q6/\∀ (x:Field),l[s]? = some x->I64 x.num->I64 x.wire->x.n.n<(18446744073709551616:Nat)->x.b.length*(1:Nat)<=q2->((bD q4 v).length+[x].length)*(48:Nat)<=q2/\I64 q3/\∃ (s':Nat),(l=l/\v=v/\q3=(↑s':Int)/\bD q4 v++[x]=bD (List.take s' l) v/\cC q4 v=cC (List.take s' l) v)/\s' <= q1/\q1 - s' < q1 - s)/\(v<x.num->q5/\q6/\∀ (x:Field),l[s]? = some x->I64 x.num->I64 x.wire->x.n.n<(18446744073709551616:Nat)->x.b.length*(1:Nat)<=q2->((cC q4 v).length+[x].length)*(48:Nat)<=q2/\I64 q3/\∃ (s':Nat),(l=l/\v=v/\q3=(↑s':Int)/\bD q4 v=bD (List.take s' l) v/\cC q4 v++[x]=cC (List.take s' l) v)/\s' <= q1/\q1 - s' < q1 - s))/\(q0<=(↑s:Int)->bD q4 v=r0/\cC q4 v=r1)) ((↑s:Int)+(1:Int))) (List.take s l)) ((0:Int)<=(↑s:Int))) ((↑s:Int)<q0)) (↑l.length:Int)) l.length) (140737488355328:Nat)):=by kernel_rfl
theorem Fl (l:List Field) (v:Int):Sat Tryz.prog (al tyT) 74 [.c (.fz (.nm .field) (l)),.c (.int (v))] [] ⟨[],[.c (.fz (.nm .field) ((bD l v))),.c (.fz (.nm .field) ((cC l v)))],none,false⟩:=by
 refine aJ fZ (zr l v) Tryz.func74 (by decide) (by kernel_rfl) ?_
 rw [Iu]
 iterate 3 ((all_goals (repeat' (first | with_reducible apply bu | with_reducible refine bw ?_ | intro))); (all_goals try (first | exact bT | exact Tl | exact UF | exact (Yw ae ae ae) | exact (Yg ae ae) | exact (Yi ae ae ae) | exact (aai ae ae) | exact (Vc aG) | exact (WW aG) | (have h1:=yy (l.take ‹Nat›) v; have h2:=nN (l.take ‹Nat›) v; rw [List.length_take] at h1 h2; simp only [List.length_cons,List.length_nil]; omega))); all_goals try first | refine ⟨‹Nat› + 1,?_⟩ | refine ⟨0,?_⟩)
theorem CN (c:Command) (v:Int) (r0:List Field):gV tyT sZ (vf c v) Tryz.f50 [.agg (cellsOf (.nm .command) c),.c (.int (v))] [] [.c (.own 0)] [.row 90 (.nm .field) (r0)]=((fun (q11:den Sh.int)=>(fun (q10:Nat)=>(fun (q9:Str)=>(fun (q8:Int)=>(fun (q7:Int)=>(fun (q6:Nat)=>(fun (q5:List Int)=>(fun (q4:Int)=>(fun (q3:Int)=>(fun (q2:List (den (Sh.nm NT.field)))=>(fun (q1:List (den (Sh.nm NT.field)))=>(fun (q0:List (den Sh.int))=>I64 c.kind->I64 q7->I64 c.seq->I64 c.set->I64 c.id->I64 c.n->q5.length*(8:Nat)<=q10->q9.b.length<=q10->I64 v->∃ (s0:Nat),(fun (q12:Int)=>(v=v/\q3=(↑s0:Int)/\c.kind=c.kind/\q7=q7/\c.seq=c.seq/\c.set=c.set/\c.id=c.id/\c.n=c.n/\q5=q5/\q9=q9/\q0=q0/\tK c s0=[])/\s0<=q6/\∀ (s:Nat),(fun (q15:List Field)=>(fun (q14:den Sh.int)=>(fun (q13:Int)=>s<=q6->((↑s:Int)<q12->q3<=(↑s:Int)/\(↑s:Int)<q12/\(I64 q14->(¬q14=q3->I64 q13/\q3<=(↑s:Int)/\(↑s:Int)<q12/\(I64 q14->q3<=q14/\(q15.length+[Field.mk q13 q3 (U64.mk (Int.toNat q14)) []].length)*(48:Nat)<=q10/\I64 q13/\∃ (s':Nat),(v=v/\q13=(↑s':Int)/\c.kind=c.kind/\q7=q7/\c.seq=c.seq/\c.set=c.set/\c.id=c.id/\c.n=c.n/\q5=q5/\q9=q9/\q0=q0/\q15++[Field.mk q13 q3 (U64.mk (Int.toNat q14)) []]=tK c s')/\s' <= q6/\q6 - s' < q6 - s))/\(q14=q3->I64 q13/\∃ (s':Nat),(v=v/\q13=(↑s':Int)/\c.kind=c.kind/\q7=q7/\c.seq=c.seq/\c.set=c.set/\c.id=c.id/\c.n=c.n/\q5=q5/\q9=q9/\q0=q0/\q15=tK c s')/\s' <= q6/\q6 - s' < q6 - s)))/\(q12<=(↑s:Int)->(q3<(↑q5.length:Int)->I64 (cj q5)->(q15.length+q1.length)*(48:Nat)<=q10/\(q3<q4/\(3:Int)<=v->((q15++q1).length+q2.length)*(48:Nat)<=q10/\q15++q1++q2=r0)/\(q4<=q3\/v<(3:Int)->q15++q1=r0))/\((↑q5.length:Int)<=q3->(q3<q4/\(3:Int)<=v->(q15.length+q2.length)*(48:Nat)<=q10/\q15++q2=r0)/\(q4<=q3\/v<(3:Int)->q15=r0)))) ((↑s:Int)+q8)) (q0.getD s q11)) (tK c s)) (↑q0.length:Int)) [c.kind,q7,c.seq,c.set,c.id,c.n]) [Field.mk (7:Int) (2:Int) (U64.mk (0:Nat)) (bK q5)]) [Field.mk (8:Int) (2:Int) (U64.mk (0:Nat)) q9.b]) (0:Int)) (↑q9.b.length:Int)) c.chunks) (6:Nat)) c.client) (1:Int)) c.text) (140737488355328:Nat)) (dflt Sh.int)):=by kernel_rfl
theorem BZ (c:Command) (v:Int) (h0:0<=c.kind) (h1:0<=c.client) (h2:0<=c.seq) (h3:0<=c.set) (h4:0<=c.id) (h5:0<=c.n) (h6:c.chunks.length=0\/rowF c.chunks=true):Sat Tryz.prog (al tyT) 50 [.agg (cellsOf (.nm .command) c),.c (.int (v))] [] ⟨[0<=c.kind,0<=c.client,0<=c.seq,0<=c.set,0<=c.id,0<=c.n,c.chunks.length=0\/rowF c.chunks=true],[.c (.own 0)],some ([.row 90 (.nm .field) ((bL c v))]),true⟩:=by
 refine cA fZ (vf c v) Tryz.func50 (by decide) (by kernel_rfl) ?_
 rw [CN]
 iterate 3 ((all_goals (repeat' (first | with_reducible apply bu | with_reducible refine bw ?_ | intro))); (all_goals try (first | exact bT | exact rfl | exact (Wc ae) | exact (UD ae) | exact (Vm ae ae ae ae ae ae) | exact (Vg ae ae ae ae ae ae) | exact (Ur ae ae ae ae (by assumption)) | exact (Wl ae ae ae ae ae) | exact (Xd ae ae ae (by assumption)) | (have hq:((‹Nat›:Nat):Int)<(([c.kind,c.client,c.seq,c.set,c.id,c.n].length:Nat):Int):=ae; simp only [List.length_cons,List.length_nil] at hq; omega) | (have:=zh c ‹Nat›; (try simp only [List.length_append]); simp only [List.length_cons,List.length_nil]; omega))); all_goals try first | refine ⟨‹Nat› + 1,?_⟩ | refine ⟨0,?_⟩)
noncomputable def Gb:cO:=(bq 50 (bm (ah (kT (.nm .command)) (ah (kC cI) aH)) aI fun (c,v,_) (_)=>⟨[0<=c.kind,0<=c.client,0<=c.seq,0<=c.set,0<=c.id,0<=c.n,c.chunks.length=0\/rowF c.chunks=true],[.c (.own 0)],some ([.row 90 (.nm .field) ((bL c v))]),true⟩) (bq 74 (bm (ah (kC (cL (.nm .field))) (ah (kC cI) aH)) aI fun (l,v,_) (_)=>⟨[],[.c (.fz (.nm .field) ((bD l v))),.c (.fz (.nm .field) ((cC l v)))],none,false⟩) (bq 47 (bm (ah (kT (.nm .command)) (ah (kC cI) aH)) aI fun (c,v,_) (_)=>⟨[],[.c (.bool (.atom ((dG c v))))],none,false⟩) (bq 75 (bm (ah (kC (cL .u8)) aH) aI fun (b,_) (_)=>⟨[b.length<=100000],[.c (.fz .int ((eb b))),.c (.int ((gB b)))],none,false⟩) (bq 87 (bm (ah (kC cI) (ah (kC cI) aH)) aI fun (q,v,_) (_)=>⟨[q=1],[.c (.fz (.nm .spec) ((aK v)))],none,false⟩) (bq 89 (bm (ah (kT (.nm .field)) aH) aI fun (f,_) (_)=>⟨[f.b.length<=16384],[.c (.own 0)],some ([.row 5 .u8 ((bR f))]),true⟩) (bq 113 (bm (ah (kC (cL .u8)) aH) aI fun (b,_) (_)=>⟨[],[.c (.int (((aB b).num))),.c (.int (((aB b).wire))),.c (.int ((((aB b).k:Nat)))),.c (.int (((aB b).e)))],none,false⟩) sZ)))))))
theorem nX:aW Tryz.prog (al tyT) Gb:=(au (av (ab aZ (ab (aq ay) ai)) aj fun (c,v,_) (_) hp=>BZ c v (cY hp) (cY (dS hp)) (cY (dS (dS hp))) (cY (dS (dS (dS hp)))) (cY (dS (dS (dS (dS hp))))) (cY (dS (dS (dS (dS (dS hp)))))) (cY (dS (dS (dS (dS (dS (dS hp)))))))) (au (av (ab (aq aY) (ab (aq ay) ai)) aj fun (l,v,_) (_) _=>Fl l v ) (au (av (ab aZ (ab (aq ay) ai)) aj fun (c,v,_) (_) _=>Pr c v ) (au (av (ab (aq aY) ai) aj fun (b,_) (_) hp=>Ls b (cY hp)) (au (av (ab (aq ay) (ab (aq ay) ai)) aj fun (q,v,_) (_) hp=>HJ q v (cY hp)) (au (av (ab aZ ai) aj fun (f,_) (_) hp=>Qj f (cY hp)) (au (av (ab (aq aY) ai) aj fun (b,_) (_) _=>C_ b ) fZ)))))))
def kK (l:List Field) (k:Nat):Prop:=∀ j y,j<k->l[j]? = some y->y.b.length<=16384
theorem YT {l:List Field}:kK l 0:=fun j y h=>by omega
theorem XK {l:List Field} {k:Nat} {x:Field} (h:Wq (kK l k)) (hx:l[k]? = some x) (hn:(x.b.length:Int)<=16384):Wq (kK l (k+1)):=⟨fun j y hj hy=>by
 by_cases hjk:j=k
 ·subst hjk; rw [hy] at hx; cases hx; omega
 ·exact h.h j y aG hy⟩
theorem Yj {l:List Field} {k:Nat} (h:Wq (kK l k)) (hk:l.length<=k):Wq (kK l l.length):=⟨fun j y hj=>h.h j y (by omega)⟩
theorem Xi {l:List Field} {k:Nat} {x:Field} (h:Wq (kK l l.length)) (hx:l[k]? = some x):x.b.length<=16384:=h.h k x (kj hx) hx
theorem m3e (x:Field):((¬ iH x.num x.wire=0\/x.wire=0/\0<((x.b.length:Nat):Int))\/x.wire=2/\¬ ((x.n.n:Nat):Int)=0)↔cW x=false:=by
 have e:=EM (f:=x)
 rw [Bool.eq_iff_iff] at e
 simpa only [Bool.or_eq_true,Bool.and_eq_true,Bool.not_eq_true',decide_eq_true_eq,decide_eq_false_iff_not] using e
theorem m3a {x:Field} (h:(¬ iH x.num x.wire=0\/x.wire=0/\0<((x.b.length:Nat):Int))\/x.wire=2/\¬ ((x.n.n:Nat):Int)=((0:Nat):Int)):cW x=false:=(m3e x).1 h
theorem YP {x:Field} (h1:iH x.num x.wire=0) (h2:¬ x.wire=0\/((x.b.length:Nat):Int)<=0) (h3:¬ x.wire=2\/((x.n.n:Nat):Int)=((0:Nat):Int)):cW x=true:=by
 rw [<- Bool.not_eq_false,<- m3e]; omega
theorem m3r {b:Bool} (h:(!b)=true):b=false:=by simpa using h
theorem m3p {n:Int} {b:Bool} (h:n<=0\/(!b)=false):n<=0\/b=true:=h.imp_right (by simp)
theorem Ym {l:List Field} {k:Nat} (h:cT none l=0) (hk:l.length<=k) (hs:(16384:Int)<((dX (l.take k):Nat):Int)):4=bY l:=by
 rw [List.take_of_length_le hk] at hs; rw [bY,if_pos h,if_pos hs]
theorem ZQ {l:List Field} {k:Nat} (h:cT none l=0) (hk:l.length<=k) (hs:¬ (16384:Int)<((dX (l.take k):Nat):Int)):0=bY l:=by
 rw [List.take_of_length_le hk] at hs; rw [bY,if_pos h,if_neg hs]
theorem W_ {b:List UInt8} (h:(aB b).e=0) (h2:(aw (b.drop (aB b).k)).2.2=0) (h3:¬ (aB b).wire=0) (h4:(aw (b.drop (aB b).k)).1<=16384) (h5:((b.length:Nat):Int) - ((aB b).k:Int) - ((aw (b.drop (aB b).k)).2.1:Nat)<dv (aw (b.drop (aB b).k)).1):(0:Int)=((aL b).1:Nat)/\2=(aL b).2:=PG h h2 h3 h4 (by omega)
theorem Tx {b:List UInt8} (h:(aB b).e=0) (h2:(aw (b.drop (aB b).k)).2.2=0) (h3:¬ (aB b).wire=0) (h4:(aw (b.drop (aB b).k)).1<=16384) (h5:dv (aw (b.drop (aB b).k)).1<=((b.length:Nat):Int) - ((aB b).k:Int) - ((aw (b.drop (aB b).k)).2.1:Nat)):((aB b).k:Int)+((aw (b.drop (aB b).k)).2.1:Nat)+dv (aw (b.drop (aB b).k)).1=((aL b).1:Nat)/\0=(aL b).2:=ON h h2 h3 h4 (by omega)
def NI (l:List Field):List (Nat × LI):=[(2,{ σ:=Nat,F:=fun k=>([(0,one (.fz (.nm .field) (l))),(3,one (.int k))],[]),J:=fun k=>k<=l.length/\cT none l=cT (dE l k) (l.drop k)/\Wq (kK l k),μ:=fun k=>l.length - k }),(14,{ σ:=Nat,F:=fun k=>([(0,one (.fz (.nm .field) (l))),(7,one (.int (dX (l.take k):Nat))),(8,one (.int k))],[]),J:=fun k=>k<=l.length/\cT none l=0/\dX (l.take k)<=k*16404/\Wq (kK l l.length),μ:=fun k=>l.length - k })]
def NO (q:Int) (v:Int):List (Nat × LI):=[(4,{ σ:=Nat,F:=fun k=>([(5,one (.int (((aK v).take k).foldl (fun t s=>max t s.num) 0))),(6,one (.fz (.nm .spec) (aK v))),(7,one (.int k))],[]),J:=fun k=>k<=(aK v).length,μ:=fun k=>(aK v).length - k })]
theorem JO (b:List UInt8) (r0:Int) (r1:Int):ck tyT Gb [] Tryz.f112 [.c (.fz .u8 (b))] [] [.c (.int (r0)),.c (.int (r1))]=((fun (q4:TagR)=>(fun (q3:Int)=>(fun (q2:Int)=>(fun (q1:Int)=>(fun (q0:Nat × Nat × Int)=>b.length*(1:Nat)<=(140737488355328:Nat)->I64 q4.num->I64 q4.wire->I64 q1->I64 q4.e->(¬q4.e=q2->q2=r0/\q4.e=r1)/\(q4.e=q2->q2<=q1/\q1<=q3/\(q0.fst<(18446744073709551616:Nat)->I64 (↑q0.snd.fst:Int)->I64 q0.snd.snd->(¬q0.snd.snd=q2->q2=r0/\q0.snd.snd=r1)/\(q0.snd.snd=q2->(q4.wire=q2->I64 (q1+(↑q0.snd.fst:Int))/\q1+(↑q0.snd.fst:Int)=r0/\q2=r1)/\(¬q4.wire=q2->((↑(16384:Nat):Int)<(↑q0.fst:Int)->q2=r0/\(4:Int)=r1)/\((↑q0.fst:Int)<=(↑(16384:Nat):Int)->I64 (q3 - q1)/\I64 (q3 - q1 - (↑q0.snd.fst:Int))/\(q3 - q1 - (↑q0.snd.fst:Int)<dv q0.fst->q2=r0/\(2:Int)=r1)/\(dv q0.fst<=q3 - q1 - (↑q0.snd.fst:Int)->I64 (q1+(↑q0.snd.fst:Int))/\I64 (q1+(↑q0.snd.fst:Int)+dv q0.fst)/\q1+(↑q0.snd.fst:Int)+dv q0.fst=r0/\q2=r1))))))) (aw (List.drop q4.k b))) (↑q4.k:Int)) (0:Int)) (↑b.length:Int)) (aB b)):=by kernel_rfl
theorem KV (b:List UInt8):Sat Tryz.prog (al tyT) 112 [.c (.fz .u8 (b))] [] ⟨[],[.c (.int ((((aL b).1:Nat)))),.c (.int (((aL b).2)))],none,false⟩:=by
 refine aJ nX [] Tryz.func112 (by decide) (by kernel_rfl) ?_
 rw [JO]
 (repeat' (first | with_reducible apply bu | with_reducible refine bw ?_ | intro))
 all_goals (first | exact bT | (rw [Sj ae] <;> rfl) | (rw [SE ae ae] <;> rfl) | (rw [Oz ae ae ae] <;> rfl) | (rw [QH ae ae ae aG] <;> rfl) | exact (W_ ae ae ae aG ae).1 | exact (W_ ae ae ae aG ae).2 | exact (Tx ae ae ae aG ae).1 | exact (Tx ae ae ae aG ae).2 | (have h1:=gX b; have h2:=fY b (aB b).k; first | omega | (refine dY ?_ ?_ <;> omega)) | (have h1:=gX b; have h2:=fY b (aB b).k; have h3:=eL (m:=(aw (b.drop (aB b).k)).1) aG; first | omega | (refine dY ?_ ?_ <;> omega)))
theorem RY (l:List Field) (r0:Int):ck tyT Gb (NI l) Tryz.f88 [.c (.fz (.nm .field) (l))] [] [.c (.int (r0))]=((fun (q5:den (Sh.nm NT.field))=>(fun (q4:Int)=>(fun (q3:Int)=>(fun (q2:Nat)=>(fun (q1:Int)=>(fun (q0:Int)=>l.length*(48:Nat)<=(140737488355328:Nat)->∃ (s0:Nat),(l=l/\q0=(↑s0:Int))/\(s0<=q2/\q4=cT (dE l s0) (List.drop s0 l)/\Wq (kK l s0))/\∀ (s:Nat),(fun (q7:Int)=>(fun (q6:den (Sh.nm NT.field))=>s<=q2/\q4=cT (dE l s) (List.drop s l)/\Wq (kK l s)->(q7<q3->q0<=q7/\q7<q3/\∀ (x:Field),(fun (q9:Int)=>(fun (q8:Int)=>l[s]? = some x->I64 x.num->I64 x.wire->x.n.n<(18446744073709551616:Nat)->x.b.length*(1:Nat)<=(140737488355328:Nat)->I64 q9->((¬q9=q0\/x.wire=q0/\q0<q8)\/x.wire=(2:Int)/\¬(↑x.n.n:Int)=(↑(0:Nat):Int)->q1=r0)/\((q9=q0/\(¬x.wire=q0\/q8<=q0))/\(¬x.wire=(2:Int)\/(↑x.n.n:Int)=(↑(0:Nat):Int))->(q0<q7->I64 (q7 - q1))/\(q0<q7->q0<=q7 - q1/\q7 - q1<q3)/\((q0<q7->I64 q6.num/\I64 q6.wire/\q6.n.n<(18446744073709551616:Nat)/\q6.b.length*(1:Nat)<=(140737488355328:Nat))->(q0<q7/\(!cS q6 x)=true->(5:Int)=r0)/\(q7<=q0\/(!cS q6 x)=false->((16384:Int)<q8->(4:Int)=r0)/\(q8<=(16384:Int)->I64 (q7+q1)/\∃ (s':Nat),(l=l/\q7+q1=(↑s':Int))/\(s' <= q2/\q4=cT (dE l s') (List.drop s' l)/\Wq (kK l s'))/\q2 - s' < q2 - s))))) (↑x.b.length:Int)) (iH x.num x.wire))/\(q3<=q7->∃ (s0:Nat),(l=l/\q0=(↑(dX (List.take s0 l)):Int)/\q0=(↑s0:Int))/\(s0<=q2/\q4=q0/\dX (List.take s0 l)<=s0*(16404:Nat)/\Wq (kK l q2))/\∀ (s:Nat),(fun (q10:Int)=>s<=q2/\q4=q0/\dX (List.take s l)<=s*(16404:Nat)/\Wq (kK l q2)->((↑s:Int)<q3->q0<=(↑s:Int)/\(↑s:Int)<q3/\∀ (x:Field),l[s]? = some x->I64 x.num->I64 x.wire->x.n.n<(18446744073709551616:Nat)->x.b.length*(1:Nat)<=(140737488355328:Nat)->x.b.length<=(16384:Nat)/\I64 (q10+(↑(bR x).length:Int))/\I64 ((↑s:Int)+q1)/\∃ (s':Nat),(l=l/\q10+(↑(bR x).length:Int)=(↑(dX (List.take s' l)):Int)/\(↑s:Int)+q1=(↑s':Int))/\(s' <= q2/\q4=q0/\dX (List.take s' l)<=s' * (16404:Nat)/\Wq (kK l q2))/\q2 - s' < q2 - s)/\(q3<=(↑s:Int)->((16384:Int)<q10->(4:Int)=r0)/\(q10<=(16384:Int)->q0=r0))) (↑(dX (List.take s l)):Int))) (l.getD (q7 - q1).toNat q5)) (↑s:Int)) (0:Int)) (1:Int)) l.length) (↑l.length:Int)) (cT none l)) (dflt (Sh.nm NT.field))):=by kernel_rfl
theorem PK (l:List Field):Sat Tryz.prog (al tyT) 88 [.c (.fz (.nm .field) (l))] [] ⟨[],[.c (.int ((bY l)))],none,false⟩:=by
 refine aJ nX (NI l) Tryz.func88 (by decide) (by kernel_rfl) ?_
 rw [RY]
 (repeat' (first | with_reducible apply bu | with_reducible refine bw ?_ | intro))
 all_goals try (refine ⟨0,?_⟩; (repeat' (first | with_reducible apply bu | with_reducible refine bw ?_ | intro)))
 all_goals try (have hg:((‹Nat›:Nat):Int)<(l.length:Int):=aG; clear hg; refine ⟨‹Nat› + 1,?_⟩; (repeat' (first | with_reducible apply bu | with_reducible refine bw ?_ | intro)))
 all_goals try (refine ⟨0,?_⟩; (repeat' (first | with_reducible apply bu | with_reducible refine bw ?_ | intro)))
 all_goals try (refine ⟨‹Nat› + 1,?_⟩; (repeat' (first | with_reducible apply bu | with_reducible refine bw ?_ | intro)))
 all_goals (first | exact bT | exact rfl | exact (Nat.le_refl 0) | exact ⟨YT⟩ | exact (Dh ae ae (m3a (by assumption))) | exact (IQ ae ae (YP ae (by assumption) (by assumption)) aG (Sr aG ae) (m3r ae)) | exact (GX ae ae (YP ae (by assumption) (by assumption)) (zO (m3p (by assumption)) aG) ae) | exact (uG ae ae (YP ae (by assumption) (by assumption)) (zO (m3p (by assumption)) aG) aG) | exact (XK ae ae ae) | exact (Yj ae aG) | exact (Xi ae ae) | exact (sK ae aG) | exact (Ym (k:=‹Nat›) ae aG aG) | exact (ZQ (k:=‹Nat›) ae aG aG) | (have h1:=iv (f:=‹Field›) (Xi ae ae) ae; have h2:=vo (show l[_]? = some ‹Field› by with_reducible assumption); first | omega | (refine dY ?_ ?_ <;> omega)))
theorem Tb (q:Int) (v:Int) (r0:Int):ck tyT Gb (NO q v) Tryz.f48 [.c (.int (q)),.c (.int (v))] [] [.c (.int (r0))]=((fun (q1:Int)=>(fun (q0:List Spec)=>I64 q->I64 v->q=(1:Int)/\(q0.length*(32:Nat)<=(140737488355328:Nat)->∃ (s0:Nat),(q1=List.foldl (fun (t:Int) (s:Spec)=>max t s.num) q1 (List.take s0 q0)/\q0=q0/\q1=(↑s0:Int))/\s0<=q0.length/\∀ (s:Nat),(fun (q2:Int)=>s<=q0.length->((↑s:Int)<(↑q0.length:Int)->q1<=(↑s:Int)/\(↑s:Int)<(↑q0.length:Int)/\∀ (x:Spec),q0[s]? = some x->I64 x.num->I64 x.wire->I64 x.since->I64 ((↑s:Int)+(1:Int))/\∃ (s':Nat),(max q2 x.num=List.foldl (fun (t:Int) (s:Spec)=>max t s.num) q1 (List.take s' q0)/\q0=q0/\(↑s:Int)+(1:Int)=(↑s':Int))/\s' <= q0.length/\q0.length - s' < q0.length - s)/\((↑q0.length:Int)<=(↑s:Int)->q2=r0)) (List.foldl (fun (t:Int) (s:Spec)=>max t s.num) q1 (List.take s q0)))) (aK v)) (0:Int)):=by kernel_rfl
theorem Pv (q:Int) (v:Int) (h0:q=1):Sat Tryz.prog (al tyT) 48 [.c (.int (q)),.c (.int (v))] [] ⟨[q=1],[.c (.int ((bj v)))],none,false⟩:=by
 refine aJ nX (NO q v) Tryz.func48 (by decide) (by kernel_rfl) ?_
 rw [Tb]
 iterate 3 ((all_goals (repeat' (first | with_reducible apply bu | with_reducible refine bw ?_ | intro))); (all_goals try (first | exact bT | exact rfl | exact (vQ ae) | (rw [bj,List.take_of_length_le aG]))); all_goals try first | refine ⟨‹Nat› + 1,?_⟩ | refine ⟨0,?_⟩)
noncomputable def IZ:cO:=(bq 48 (bm (ah (kC cI) (ah (kC cI) aH)) aI fun (q,v,_) (_)=>⟨[q=1],[.c (.int ((bj v)))],none,false⟩) (bq 88 (bm (ah (kC (cL (.nm .field))) aH) aI fun (l,_) (_)=>⟨[],[.c (.int ((bY l)))],none,false⟩) (bq 112 (bm (ah (kC (cL .u8)) aH) aI fun (b,_) (_)=>⟨[],[.c (.int ((((aL b).1:Nat)))),.c (.int (((aL b).2)))],none,false⟩) Gb)))
theorem oc:aW Tryz.prog (al tyT) IZ:=(au (av (ab (aq ay) (ab (aq ay) ai)) aj fun (q,v,_) (_) hp=>Pv q v (cY hp)) (au (av (ab (aq aY) ai) aj fun (l,_) (_) _=>PK l ) (au (av (ab (aq aY) ai) aj fun (b,_) (_) _=>KV b ) nX)))
theorem mL {b:List UInt8} {n:Nat} (h:(aw b).2.2=0) (hn:(aw b).2.1<=n):aw (b.take n)=aw b:=by
 have he:aw b=((aw b).1,(aw b).2.1,0):=by rw [<- h]
 have hv:(aw b).1<18446744073709551616:=Np (l:=b) (k:=0) (n:=0) (by decide) (by decide) (by decide)
 obtain ⟨u,j,h3,h4,h5,_⟩:=canon (k:=0) (n:=0) he
 have h6:u=(aw b).1:=by simpa using h3.symm
 have h7:j=(aw b).2.1:=by omega
 rw [h6,h7] at h5
 have h8:(aw b).2.1<=b.length:=by have:=(jP (l:=b) (k:=0) (n:=0) (by decide)).2; rw [Nat.zero_add] at this; exact this
 have e:b.take n=bS (aw b).1++(b.take n).drop (aw b).2.1:=by
  rw [h5,show b.take (aw b).2.1=(b.take n).take (aw b).2.1 by rw [List.take_take,Nat.min_eq_left hn],List.take_append_drop]
 rw [e,qI hv,h5,List.length_take,Nat.min_eq_left h8,<- he]
theorem SU {b:List UInt8} (h:(aB b).e=0):(aw b).2.2=0/\(aB b).k=(aw b).2.1:=by
 by_cases h1:(aw b).2.2=0
 ·refine ⟨h1,?_⟩
  unfold aB at h ⊢
  rw [if_pos h1] at h ⊢
  split
  ·rename_i h2; rw [if_pos h2] at h; cases h
  ·rfl
 ·rw [rV h1] at h; exact absurd h h1
theorem uB {b:List UInt8} {n:Nat} (h:(aB b).e=0) (hn:(aB b).k<=n):aB (b.take n)=aB b:=by
 obtain ⟨h1,h2⟩:=SU h
 unfold aB; rw [mL h1 (by omega)]
theorem Ex {b:List UInt8} (h:(aL b).2=0):(aB b).e=0/\(aw (b.drop (aB b).k)).2.2=0/\(aB b).k+(aw (b.drop (aB b).k)).2.1<=(aL b).1:=by
 by_cases h1:(aB b).e=0
 ·by_cases h2:(aw (b.drop (aB b).k)).2.2=0
  ·refine ⟨h1,h2,?_⟩
   by_cases h3:(aB b).wire=0
   ·rw [Oz h1 h2 h3]; exact Nat.le_refl _
   ·by_cases h4:16384<(aw (b.drop (aB b).k)).1
    ·rw [QH h1 h2 h3 h4] at h; cases h
    ·by_cases h5:((b.length:Nat):Int) - (((aB b).k+(aw (b.drop (aB b).k)).2.1:Nat):Int)<(((aw (b.drop (aB b).k)).1:Nat):Int)
     ·rw [VC h1 h2 h3 h4 h5] at h; cases h
     ·rw [TU h1 h2 h3 h4 h5]; exact Nat.le_add_right _ _
  ·rw [SE h1 h2] at h; exact absurd h h2
 ·rw [Sj h1] at h; exact absurd h h1
theorem xU {b:List UInt8} (hs:(aL b).2=0) (hw:(aB b).wire=0):Field.mk (aB b).num (aB b).wire (U64.mk (aw (b.drop (aB b).k)).1) []=fC (b.take (aL b).1):=by
 obtain ⟨h1,h2,h3⟩:=Ex hs
 unfold fC
 rw [uB h1 (by omega),if_pos hw,List.drop_take,mL h2 (by omega)]
theorem x_ {b:List UInt8} (hs:(aL b).2=0) (hw:¬ (aB b).wire=0):Field.mk (aB b).num (aB b).wire (U64.mk 0) ((b.drop (((aB b).k:Int)+((aw (b.drop (aB b).k)).2.1:Nat)).toNat).take ((aL b).1 - (((aB b).k:Int)+((aw (b.drop (aB b).k)).2.1:Nat)).toNat))=fC (b.take (aL b).1):=by
 obtain ⟨h1,h2,h3⟩:=Ex hs
 have e:aw ((b.take (aL b).1).drop (aB b).k)=aw (b.drop (aB b).k):=by rw [List.drop_take,mL h2 (by omega)]
 unfold fC
 rw [uB h1 (by omega),if_neg hw,e,List.drop_take,show (((aB b).k:Int)+((aw (b.drop (aB b).k)).2.1:Nat)).toNat=(aB b).k+(aw (b.drop (aB b).k)).2.1 by omega]
theorem Xv {b:List UInt8} {i:Nat} (h:0<(((b.drop i).length:Nat):Int)):(i:Int)<(b.length:Int):=by rw [List.length_drop] at h; omega
theorem u5S {b:List UInt8} {s:Nat × List Field} (h:Wq (dM b s.1 s.2)) (hi:0<(((b.drop s.1).length:Nat):Int)) (hs:¬ (aL (b.drop s.1)).2=0):aU b=([],(aL (b.drop s.1)).2):=tlS h (Xv hi) hs
theorem u5x {b:List UInt8} {i:Nat}:((i:Int)+((aL (b.drop i)).1:Nat)).toNat - i=(aL (b.drop i)).1:=by omega
theorem u5L {b:List UInt8} {s:Nat × List Field} (h:Wq (dM b s.1 s.2)) (hi:0<(((b.drop s.1).length:Nat):Int)) (hs:(aL (b.drop s.1)).2=0) (hr:d_ s.2 (fC ((b.drop s.1).take (aL (b.drop s.1)).1))=false):aU b=([],5):=tlL h (Xv hi) hs (by rw [u5x]; exact hr)
theorem u5N {b:List UInt8} {s:Nat × List Field} (h:Wq (dM b s.1 s.2)) (hi:0<(((b.drop s.1).length:Nat):Int)) (hs:(aL (b.drop s.1)).2=0) (hr:d_ s.2 (fC ((b.drop s.1).take (aL (b.drop s.1)).1))=true):Wq (dM b (zL b s).1 (zL b s).2):=tlN h (Xv hi) hs (by rw [u5x]; exact hr)
theorem u5E {b:List UInt8} {s:Nat × List Field} (h:Wq (dM b s.1 s.2)) (hi:(((b.drop s.1).length:Nat):Int)<=0):aU b=(s.2,0):=tlE h (by rw [List.length_drop] at hi; omega)
theorem u5F {xs:List Field} {f g:Field} (h0:0<(xs.length:Int)) (h:(!cS (xs.getD ((xs.length:Int) - 1).toNat (dflt (.nm .field))) f)=true) (e:f=g):d_ xs g=false:=by
 rw [<- e,<- yf (by omega)]; simpa using h
theorem u5T {xs:List Field} {f g:Field} (h:(xs.length:Int)<=0\/(!cS (xs.getD ((xs.length:Int) - 1).toNat (dflt (.nm .field))) f)=false) (e:f=g):d_ xs g=true:=by
 rw [<- e]
 by_cases h0:(xs.length:Int)=0
 ·exact (IW h0).symm
 ·rw [<- yf h0]; have:=h.resolve_left (by omega); simpa using this
theorem u5A {b:List UInt8} {s:Nat × List Field} {f:Field} (e:f=fC ((b.drop s.1).take (aL (b.drop s.1)).1)):s.2++[f]=(zL b s).2:=by rw [HB,e]
theorem u5D {b:List UInt8} {s:Nat × List Field}:(b.drop s.1).drop (aL (b.drop s.1)).1=b.drop (zL b s).1:=by rw [List.drop_drop]; rfl
def FdG (x:Field) (y:Spec):Prop:=x.num=y.num->x.wire=y.wire/\(¬ x.wire=0\/¬ ((x.n.n:Nat):Int)=((0:Nat):Int))/\(¬ x.wire=2\/¬ ((x.b.length:Nat):Int)=0)
def JE (l:List Field) (y:Spec) (k:Nat):Prop:=∀ j x,j<k->l[j]? = some x->FdG x y
def SpG (l:List Field) (y:Spec):Prop:=JE l y l.length/\(((cM l y.num:Nat):Int)<=1\/y.many=true)/\(¬ ((cM l y.num:Nat):Int)=0\/y.need=false)
def CA (l:List Field) (ss:List Spec) (k:Nat):Prop:=∀ j y,j<k->ss[j]? = some y->SpG l y
theorem YH {l:List Field} {ss:List Spec}:CA l ss 0:=fun j y h=>by omega
theorem ZV {l:List Field} {y:Spec}:JE l y 0:=fun j y h=>by omega
theorem Xw {ss:List Spec} {k:Nat} (h:k<ss.length):ss[k]? = some (ss.getD k (dflt (.nm .spec))):=by
 rw [List.getD_eq_getElem?_getD,List.getElem?_eq_getElem h]; rfl
theorem Wu {ss:List Spec} {k:Nat} {x:Spec} (hx:ss[k]? = some x):x=ss.getD k (dflt (.nm .spec)):=by rw [List.getD_eq_getElem?_getD,hx]; rfl
theorem fdN {l:List Field} {y:Spec} {k:Nat} (h:Wq (JE l y k)) (hk:k<l.length) (hg:FdG (l.getD k (dflt (.nm .field))) y):Wq (JE l y (k+1)):=⟨fun j x hj hx=>by
 by_cases hjk:j=k
 ·subst hjk; rw [Ou hk] at hx; cases hx; exact hg
 ·exact h.h j x aG hx⟩
theorem fdn {l:List Field} {y:Spec} {k:Nat} (hk:k<l.length) (h:¬ (l.getD k (dflt (.nm .field))).num=y.num):cM (l.take (k+1)) y.num=cM (l.take k) y.num:=by
 rw [lL (Ou hk),if_neg (fun e=>h e.symm)]
theorem fdy {l:List Field} {y:Spec} {k:Nat} (hk:k<l.length) (h:(l.getD k (dflt (.nm .field))).num=y.num):cM (l.take (k+1)) y.num=cM (l.take k) y.num+1:=by
 rw [lL (Ou hk),if_pos h.symm,h]
theorem spN {l:List Field} {ss:List Spec} {k m:Nat} (h:Wq (CA l ss k)) (hk:k<ss.length) (hf:Wq (JE l (ss.getD k (dflt (.nm .spec))) m)) (hm:l.length<=m) (h1:((cM (l.take m) (ss.getD k (dflt (.nm .spec))).num:Nat):Int)<=1\/(ss.getD k (dflt (.nm .spec))).many=true) (h2:¬ ((cM (l.take m) (ss.getD k (dflt (.nm .spec))).num:Nat):Int)=0\/(ss.getD k (dflt (.nm .spec))).need=false):Wq (CA l ss (k+1)):=⟨fun j y hj hy=>by
 by_cases hjk:j=k
 ·subst hjk; rw [Xw hk] at hy; cases hy
  rw [List.take_of_length_le hm] at h1 h2
  exact ⟨fun j x hj=>hf.h j x aG,h1,h2⟩
 ·exact h.h j y aG hy⟩
theorem MP {x:Field} (h:cW x=true):x.wire=0\/x.wire=2:=by
 unfold cW at h
 by_cases h0:x.wire=0
 ·exact .inl h0
 ·by_cases h2:x.wire=2
  ·exact .inr h2
  ·rw [if_neg h0,if_neg h2,Bool.and_false] at h; cases h
theorem vK {l:List Field} {q:Int}:∀ {k:Nat},k<=l.length->1<=cM (l.take k) q->∃ j x,l[j]? = some x/\x.num=q/\cM (l.take (j+1)) q=cM (l.take k) q
 | 0,_,h=>by simp [cM] at h
 | k+1,hk,h=>by
  have hx:l[k]? = some l[k]:=List.getElem?_eq_getElem (by omega)
  by_cases e:q=l[k].num
  ·exact ⟨k,_,hx,e.symm,rfl⟩
  ·have hn:=lL hx q
   rw [if_neg e] at hn
   rw [hn] at h ⊢
   exact vK aG h
theorem Qm {l:List Field} {v:Int} {k m:Nat} (h:(¬ (l.getD m (dflt (.nm .field))).wire=((aK v).getD k (dflt (.nm .spec))).wire\/(l.getD m (dflt (.nm .field))).wire=0/\(((l.getD m (dflt (.nm .field))).n.n:Nat):Int)=((0:Nat):Int))\/(l.getD m (dflt (.nm .field))).wire=2/\(((l.getD m (dflt (.nm .field))).b.length:Nat):Int)=0) (hk:k<(aK v).length) (hm:m<l.length) (hn:(l.getD m (dflt (.nm .field))).num=((aK v).getD k (dflt (.nm .spec))).num):¬ pI l v:=by
 intro hc
 have h1:=hc.1 m _ hm (Ou hm) _ (List.mem_of_getElem? (Xw hk)) hn.symm
 unfold CV at h1
 split at h1
 ·cases h1
 ·rename_i h2
  split at h1
  ·rename_i h3; simp only [Bool.not_eq_true',decide_eq_false_iff_not] at h1; omega
  ·rename_i h3; simp only [decide_eq_true_eq] at h1; omega
theorem QN {l:List Field} {v:Int} {k m:Nat} (h:(1<((cM (l.take m) ((aK v).getD k (dflt (.nm .spec))).num:Nat):Int)/\((aK v).getD k (dflt (.nm .spec))).many=false)\/(((cM (l.take m) ((aK v).getD k (dflt (.nm .spec))).num:Nat):Int)=0/\((aK v).getD k (dflt (.nm .spec))).need=true)) (hk:k<(aK v).length) (hm:l.length<=m):¬ pI l v:=by
 intro hc
 rw [List.take_of_length_le hm] at h
 rcases h with ⟨h1,h2⟩ | ⟨h1,h2⟩
 ·obtain ⟨j,x,hx,hn,hcn⟩:=vK (l:=l) (q:=((aK v).getD k (dflt (.nm .spec))).num) (Nat.le_refl _) (by rw [List.take_length]; omega)
  rw [List.take_length] at hcn
  have h3:=hc.1 j x (kj hx) hx _ (List.mem_of_getElem? (Xw hk)) hn.symm
  rw [hn,hcn] at h3
  unfold CV at h3
  rw [if_pos (.inr ⟨h1,h2⟩)] at h3; cases h3
 ·exact hc.2 k _ hk (Xw hk) h2 aG
theorem VN {l:List Field} {v:Int} {k:Nat} (h:Wq (CA l (aK v) k)) (hk:(aK v).length<=k) (hm:bY l=0):pI l v:=by
 have ha:=mj (td hm)
 refine ⟨fun j x hj hx s hs hn=>?_,fun j y hj hy hn=>?_⟩
 ·obtain ⟨i,hi,rfl⟩:=List.getElem_of_mem hs
  obtain ⟨h1,h2,_⟩:=h.h i _ (by omega) (List.getElem?_eq_getElem hi)
  obtain ⟨g1,g2,g3⟩:=h1 j x hj hx hn.symm
  have hw:=MP (ha x (List.mem_of_getElem? hx))
  have hc:=Kf (l:=l) (q:=x.num) (j+1)
  unfold CV
  rw [if_neg]
  ·split
   ·simp; omega
   ·simp; omega
  ·rintro (h3 | ⟨h3,h4⟩)
   ·exact h3 g1
   ·rw [hn,h4] at h2; simp at h2; omega
 ·obtain ⟨_,_,h3⟩:=h.h j y (by omega) hy
  rw [hn] at h3; simp at h3; exact h3
theorem u5K {b:List UInt8}:(((aL b).1:Nat):Int)<=((b.length:Nat):Int):=by have:=lI b; omega
theorem u5G {b:List UInt8} (hs:(aL b).2=0):((aB b).k:Int)+((aw (b.drop (aB b).k)).2.1:Nat)<=(((aL b).1:Nat):Int):=by have:=(Ex hs).2.2; omega
def NH (l:List Field):List (Nat × LI):=[(6,{ σ:=Nat,F:=fun k=>([(0,one (.fz (.nm .field) (l))),(5,one (.own 0)),(6,one (.int k))],[.row 5 .u8 ((((l.take k).map bR).flatten))]),J:=fun k=>k<=l.length,μ:=fun k=>l.length - k })]
def IE (b:List UInt8):List (Nat × LI):=[(4,{ σ:=Nat × List Field,F:=fun s=>([(0,one (.fz .u8 (b.drop s.1))),(4,one (.own 0))],[.row 90 (.nm .field) ((s.2))]),J:=fun s=>Wq (dM b s.1 s.2)/\s.1<=b.length/\s.2.length<=s.1,μ:=fun s=>b.length - s.1 })]
def Af (q:Int) (v:Int) (l:List Field):List (Nat × LI):=[(8,{ σ:=Nat,F:=fun k=>([(2,one (.fz (.nm .field) (l))),(7,one (.fz (.nm .spec) (aK v))),(9,one (.int k))],[]),J:=fun k=>k<=(aK v).length/\Wq (CA l (aK v) k),μ:=fun k=>(aK v).length - k }),(13,{ σ:=Nat × Nat,F:=fun q=>([(2,one (.fz (.nm .field) (l))),(7,one (.fz (.nm .spec) (aK v))),(9,one (.int q.1)),(10,one (.ptr 0 0)),(11,one (.int (cM (l.take q.2) ((aK v).getD q.1 (dflt (.nm .spec))).num:Nat))),(12,one (.int q.2))],[.box 128 (cellsOf (.nm .spec) ((((aK v).getD q.1 (dflt (.nm .spec))))))]),J:=fun q=>q.1<(aK v).length/\q.2<=l.length/\Wq (CA l (aK v) q.1)/\Wq (JE l ((aK v).getD q.1 (dflt (.nm .spec))) q.2),μ:=fun q=>l.length - q.2,R:=some fun q0 q=>q.1=q0.1 })]
theorem SV (l:List Field) (r0:Int) (r1:List UInt8):gV tyT IZ (NH l) Tryz.f49 [.c (.fz (.nm .field) (l))] [] [.c (.own 0),.c (.int (r0))] [.row 5 .u8 (r1)]=(l.length*(48:Nat)<=(140737488355328:Nat)->I64 (bY l)->(¬bY l=(0:Int)->bY l=r0/\r1=[])/\(bY l=(0:Int)->∃ (s0:Nat),(l=l/\(0:Int)=(↑s0:Int)/\(List.map bR (List.take s0 l)).flatten=[])/\s0<=l.length/\∀ (s:Nat),(fun (q0:List UInt8)=>s<=l.length->((↑s:Int)<(↑l.length:Int)->(0:Int)<=(↑s:Int)/\(↑s:Int)<(↑l.length:Int)/\∀ (x:Field),l[s]? = some x->I64 x.num->I64 x.wire->x.n.n<(18446744073709551616:Nat)->x.b.length*(1:Nat)<=(140737488355328:Nat)->x.b.length<=(16384:Nat)/\(q0.length+(bR x).length)*(1:Nat)<=(140737488355328:Nat)/\I64 ((↑s:Int)+(1:Int))/\∃ (s':Nat),(l=l/\(↑s:Int)+(1:Int)=(↑s':Int)/\q0++bR x=(List.map bR (List.take s' l)).flatten)/\s' <= l.length/\l.length - s' < l.length - s)/\((↑l.length:Int)<=(↑s:Int)->(0:Int)=r0/\q0=r1)) (List.map bR (List.take s l)).flatten)):=by kernel_rfl
theorem QP (l:List Field):Sat Tryz.prog (al tyT) 49 [.c (.fz (.nm .field) (l))] [] ⟨[],[.c (.own 0),.c (.int ((bY l)))],some ([.row 5 .u8 ((gN l))]),true⟩:=by
 refine cA oc (NH l) Tryz.func49 (by decide) (by kernel_rfl) ?_
 rw [SV]
 iterate 3 ((all_goals (repeat' (first | with_reducible apply bu | with_reducible refine bw ?_ | intro))); (all_goals try (first | exact bT | exact rfl | exact (EN ae).symm | exact (Eq.symm ae) | exact (qR ae) | exact (lU ae (List.mem_of_getElem? ae)) | exact (yI ae aG) | (have h1:=vG (k:=‹Nat›) (show bY l=0 by with_reducible assumption); have h2:=iv (f:=‹Field›) (lU (show bY l=0 by with_reducible assumption) (List.mem_of_getElem? ae)) ae; omega))); all_goals try first | refine ⟨‹Nat› + 1,?_⟩ | refine ⟨0,?_⟩)
theorem LV (b:List UInt8) (r0:List Field) (r1:Int):ck tyT IZ (IE b) Tryz.f72 [.c (.fz .u8 (b))] [] [.c (.fz (.nm .field) (r0)),.c (.int (r1))]=((fun (q5:U64)=>(fun (q4:Nat)=>(fun (q3:Nat)=>(fun (q2:den (Sh.nm NT.field))=>(fun (q1:Int)=>(fun (q0:Int)=>b.length*(1:Nat)<=q4->((16384:Int)<(↑b.length:Int)->r0=[]/\(4:Int)=r1)/\((↑b.length:Int)<=(16384:Int)->∃ (s0:Nat × List Field),(b=List.drop s0.fst b/\s0.snd=[])/\(Wq (dM b s0.fst s0.snd)/\s0.fst<=q3/\s0.snd.length<=s0.fst)/\∀ (s:Nat × List Field),(fun (q8:Int)=>(fun (q7:den (Sh.nm NT.field))=>(fun (q6:List (den Sh.u8))=>Wq (dM b s.fst s.snd)/\s.fst<=q3/\s.snd.length<=s.fst->(q0<(↑q6.length:Int)->I64 (↑(aL q6).fst:Int)->I64 (aL q6).snd->(¬(aL q6).snd=q0->r0=[]/\(aL q6).snd=r1)/\((aL q6).snd=q0->I64 (aB q6).num->I64 (aB q6).wire->I64 (↑(aB q6).k:Int)->I64 (aB q6).e->q0<=(↑(aB q6).k:Int)/\(↑(aB q6).k:Int)<=(↑q6.length:Int)/\((aw (List.drop (aB q6).k q6)).fst<(18446744073709551616:Nat)->I64 (↑(aw (List.drop (aB q6).k q6)).snd.fst:Int)->I64 (aw (List.drop (aB q6).k q6)).snd.snd->((aB q6).wire=q0->(q0<q8->I64 (q8 - q1))/\(q0<q8->q0<=q8 - q1/\q8 - q1<q8)/\((q0<q8->I64 q7.num/\I64 q7.wire/\q7.n.n<(18446744073709551616:Nat)/\q7.b.length*(1:Nat)<=q4)->(q0<q8/\(!cS q7 (Field.mk (aB q6).num (aB q6).wire (U64.mk (aw (List.drop (aB q6).k q6)).fst) []))=true->r0=[]/\(5:Int)=r1)/\(q8<=q0\/(!cS q7 (Field.mk (aB q6).num (aB q6).wire (U64.mk (aw (List.drop (aB q6).k q6)).fst) []))=false->(s.snd.length+[Field.mk (aB q6).num (aB q6).wire (U64.mk (aw (List.drop (aB q6).k q6)).fst) []].length)*(48:Nat)<=q4/\q0<=(↑(aL q6).fst:Int)/\(↑(aL q6).fst:Int)<=(↑q6.length:Int)/\∃ (s':Nat × List Field),(List.drop (aL q6).fst q6=List.drop s'.fst b/\s.snd++[Field.mk (aB q6).num (aB q6).wire (U64.mk (aw (List.drop (aB q6).k q6)).fst) []]=s'.snd)/\(Wq (dM b s'.fst s'.snd)/\s'.fst<=q3/\s'.snd.length<=s'.fst)/\q3 - s'.fst<q3 - s.fst)))/\(¬(aB q6).wire=q0->I64 ((↑(aB q6).k:Int)+(↑(aw (List.drop (aB q6).k q6)).snd.fst:Int))/\q0<=(↑(aB q6).k:Int)+(↑(aw (List.drop (aB q6).k q6)).snd.fst:Int)/\(↑(aB q6).k:Int)+(↑(aw (List.drop (aB q6).k q6)).snd.fst:Int)<=(↑(aL q6).fst:Int)/\(↑(aL q6).fst:Int)<=(↑q6.length:Int)/\(List.take ((aL q6).fst - ((↑(aB q6).k:Int)+(↑(aw (List.drop (aB q6).k q6)).snd.fst:Int)).toNat) (List.drop ((↑(aB q6).k:Int)+(↑(aw (List.drop (aB q6).k q6)).snd.fst:Int)).toNat q6)).length*(1:Nat)<=q4/\(q0<q8->I64 (q8 - q1))/\(q0<q8->q0<=q8 - q1/\q8 - q1<q8)/\((q0<q8->I64 q7.num/\I64 q7.wire/\q7.n.n<(18446744073709551616:Nat)/\q7.b.length*(1:Nat)<=q4)->(q0<q8/\(!cS q7 (Field.mk (aB q6).num (aB q6).wire q5 (List.take ((aL q6).fst - ((↑(aB q6).k:Int)+(↑(aw (List.drop (aB q6).k q6)).snd.fst:Int)).toNat) (List.drop ((↑(aB q6).k:Int)+(↑(aw (List.drop (aB q6).k q6)).snd.fst:Int)).toNat q6))))=true->r0=[]/\(5:Int)=r1)/\(q8<=q0\/(!cS q7 (Field.mk (aB q6).num (aB q6).wire q5 (List.take ((aL q6).fst - ((↑(aB q6).k:Int)+(↑(aw (List.drop (aB q6).k q6)).snd.fst:Int)).toNat) (List.drop ((↑(aB q6).k:Int)+(↑(aw (List.drop (aB q6).k q6)).snd.fst:Int)).toNat q6))))=false->(s.snd.length+[Field.mk (aB q6).num (aB q6).wire q5 (List.take ((aL q6).fst - ((↑(aB q6).k:Int)+(↑(aw (List.drop (aB q6).k q6)).snd.fst:Int)).toNat) (List.drop ((↑(aB q6).k:Int)+(↑(aw (List.drop (aB q6).k q6)).snd.fst:Int)).toNat q6))].length)*(48:Nat)<=q4/\q0<=(↑(aL q6).fst:Int)/\(↑(aL q6).fst:Int)<=(↑q6.length:Int)/\∃ (s':Nat × List Field),(fun (q9:Nat)=>(List.drop (aL q6).fst q6=List.drop s'.fst b/\s.snd++[Field.mk (aB q6).num (aB q6).wire q5 (List.take ((aL q6).fst - q9) (List.drop q9 q6))]=s'.snd)/\(Wq (dM b s'.fst s'.snd)/\s'.fst<=q3/\s'.snd.length<=s'.fst)/\q3 - s'.fst<q3 - s.fst) ((↑(aB q6).k:Int)+(↑(aw (List.drop (aB q6).k q6)).snd.fst:Int)).toNat))))))/\((↑q6.length:Int)<=q0->s.snd=r0/\q0=r1)) (List.drop s.fst b)) (s.snd.getD (q8 - q1).toNat q2)) (↑s.snd.length:Int))) (0:Int)) (1:Int)) (dflt (Sh.nm NT.field))) b.length) (140737488355328:Nat)) (U64.mk (0:Nat))):=by kernel_rfl
theorem Ld (b:List UInt8):Sat Tryz.prog (al tyT) 72 [.c (.fz .u8 (b))] [] ⟨[],[.c (.fz (.nm .field) (((aU b).1))),.c (.int (((aU b).2)))],none,false⟩:=by
 refine aJ oc (IE b) Tryz.func72 (by decide) (by kernel_rfl) ?_
 rw [LV]
 iterate 3 ((all_goals (repeat' (first | with_reducible apply bu | with_reducible refine bw ?_ | intro))); (all_goals try (first | exact bT | exact rfl | exact ⟨wU aG⟩ | (rw [tlB ae] <;> rfl) | (rw [u5S ae ae ae] <;> rfl) | (rw [u5L ae ae ae (u5F ae ae (xU ae ae))] <;> rfl) | (rw [u5L ae ae ae (u5F ae ae (x_ ae ae))] <;> rfl) | (rw [u5E ae ae] <;> rfl) | exact (u5N ae ae ae (u5T (by assumption) (xU ae ae))) | exact (u5N ae ae ae (u5T (by assumption) (x_ ae ae))) | exact (u5A (xU ae ae)) | exact (u5A (x_ ae ae)) | exact u5D | exact (nx1 ae) | exact (nx2 ae ae) | exact (nx3 (Xv ae) ae) | exact (u5K (b:=b.drop ‹Nat × List Field›.1)) | exact (u5G ae) | (have h:=lI (b.drop ‹Nat × List Field›.1); have h1:=gX (b.drop ‹Nat × List Field›.1); have h2:=fY (b.drop ‹Nat × List Field›.1) (aB (b.drop ‹Nat × List Field›.1)).k; rw [List.length_drop] at *; first | omega | (refine dY ?_ ?_ <;> omega)) | (rw [List.length_take,List.length_drop,List.length_drop]; omega) | (simp only [List.length_cons,List.length_nil]; omega))); all_goals try first | refine ⟨zL b ‹Nat × List Field›,?_⟩ | refine ⟨(0,[]),?_⟩)
theorem DG (q:Int) (v:Int) (l:List Field) (r0:Int):ck tyT IZ (Af q v l) Tryz.f73 [.c (.int (q)),.c (.int (v)),.c (.fz (.nm .field) (l))] [] [.c (.int (r0))]=((fun (q10:Nat)=>(fun (q9:Nat)=>(fun (q8:Nat)=>(fun (q7:Nat)=>(fun (q6:Int)=>(fun (q5:Int)=>(fun (q4:Int)=>(fun (q3:Int)=>(fun (q2:List Spec)=>(fun (q1:den (Sh.nm NT.spec))=>(fun (q0:den (Sh.nm NT.field))=>I64 q->I64 v->l.length*(48:Nat)<=q7->q=q5/\(q2.length*(32:Nat)<=q7->((↑q2.length:Int)=q3->q5=r0)/\(¬(↑q2.length:Int)=q3->I64 (bY l)->(¬bY l=q3->bY l=r0)/\(bY l=q3->∃ (s0:Nat),(fun (q11:Nat)=>(l=l/\q2=q2/\q3=(↑s0:Int))/\(s0<=q11/\Wq (CA l q2 s0))/\∀ (s:Nat),s<=q11/\Wq (CA l q2 s)->((↑s:Int)<(↑q2.length:Int)->q3<=(↑s:Int)/\(↑s:Int)<(↑q2.length:Int)/\∀ (x:Spec),q2[s]? = some x->I64 x.num->I64 x.wire->I64 x.since->∃ (s0:Nat × Nat),(fun (q13:Nat)=>(fun (q12:Spec)=>(l=l/\q2=q2/\(↑s:Int)=(↑q13:Int)/\q3=(↑(cM (List.take s0.snd l) q12.num):Int)/\q3=(↑s0.snd:Int)/\x.num=q12.num/\x.wire=q12.wire/\x.since=q12.since/\x.need=q12.need/\x.many=q12.many)/\(q13<q11/\s0.snd<=q8/\Wq (CA l q2 q13)/\Wq (JE l q12 s0.snd))/\q13=q13/\∀ (s_1:Nat × Nat),(fun (q17:List Field)=>(fun (q16:Int)=>(fun (q15:Spec)=>(fun (q14:den (Sh.nm NT.field))=>s_1.fst<q11/\s_1.snd<=q8/\Wq (CA l q2 s_1.fst)/\Wq (JE l q15 s_1.snd)->s_1.fst=q13->(q16<q4->q3<=q16/\q16<q4/\(I64 q14.num->I64 q14.wire->q14.n.n<q10->q14.b.length*q9<=q7->(¬q14.num=q15.num->I64 (q16+q5)/\∃ (s':Nat × Nat),(fun (q18:Spec)=>(l=l/\q2=q2/\(↑s_1.fst:Int)=(↑s'.fst:Int)/\(↑(cM q17 q15.num):Int)=(↑(cM (List.take s'.snd l) q18.num):Int)/\q16+q5=(↑s'.snd:Int)/\q15.num=q18.num/\q15.wire=q18.wire/\q15.since=q18.since/\q15.need=q18.need/\q15.many=q18.many)/\(s'.fst<q11/\s'.snd<=q8/\Wq (CA l q2 s'.fst)/\Wq (JE l q18 s'.snd))/\s'.fst=q13/\q8 - s'.snd<q8 - s_1.snd) (q2.getD s'.fst q1))/\(q14.num=q15.num->I64 ((↑(cM q17 q15.num):Int)+q5)/\q3<=q16/\q16<q4/\(q14.wire=q15.wire->q3<=q16/\q16<q4)/\(q14.wire=q15.wire/\q14.wire=q3->q3<=q16/\q16<q4)/\(q14.wire=q15.wire/\(¬q14.wire=q3\/¬(↑q14.n.n:Int)=q6)->q3<=q16/\q16<q4)/\((q14.wire=q15.wire/\(¬q14.wire=q3\/¬(↑q14.n.n:Int)=q6))/\q14.wire=(2:Int)->q3<=q16/\q16<q4)/\(I64 q14.num->I64 q14.wire->q14.n.n<q10->q14.b.length*q9<=q7->(q14.wire=q15.wire->I64 q14.num/\I64 q14.wire/\q14.n.n<q10/\q14.b.length*q9<=q7)->(q14.wire=q15.wire/\q14.wire=q3->I64 q14.num/\I64 q14.wire/\q14.n.n<q10/\q14.b.length*q9<=q7)->(q14.wire=q15.wire/\(¬q14.wire=q3\/¬(↑q14.n.n:Int)=q6)->I64 q14.num/\I64 q14.wire/\q14.n.n<q10/\q14.b.length*q9<=q7)->((q14.wire=q15.wire/\(¬q14.wire=q3\/¬(↑q14.n.n:Int)=q6))/\q14.wire=(2:Int)->I64 q14.num/\I64 q14.wire/\q14.n.n<q10/\q14.b.length*q9<=q7)->((¬q14.wire=q15.wire\/q14.wire=q3/\(↑q14.n.n:Int)=q6)\/q14.wire=(2:Int)/\(↑q14.b.length:Int)=q3->(6:Int)=r0)/\((q14.wire=q15.wire/\(¬q14.wire=q3\/¬(↑q14.n.n:Int)=q6))/\(¬q14.wire=(2:Int)\/¬(↑q14.b.length:Int)=q3)->I64 (q16+q5)/\∃ (s':Nat × Nat),(fun (q19:Spec)=>(l=l/\q2=q2/\(↑s_1.fst:Int)=(↑s'.fst:Int)/\(↑(cM q17 q15.num):Int)+q5=(↑(cM (List.take s'.snd l) q19.num):Int)/\q16+q5=(↑s'.snd:Int)/\q15.num=q19.num/\q15.wire=q19.wire/\q15.since=q19.since/\q15.need=q19.need/\q15.many=q19.many)/\(s'.fst<q11/\s'.snd<=q8/\Wq (CA l q2 s'.fst)/\Wq (JE l q19 s'.snd))/\s'.fst=q13/\q8 - s'.snd<q8 - s_1.snd) (q2.getD s'.fst q1))))))/\(q4<=q16->(q5<(↑(cM q17 q15.num):Int)/\q15.many=false\/(↑(cM q17 q15.num):Int)=q3/\q15.need=true->(6:Int)=r0)/\(((↑(cM q17 q15.num):Int)<=q5\/q15.many=true)/\(¬(↑(cM q17 q15.num):Int)=q3\/q15.need=false)->I64 ((↑s_1.fst:Int)+q5)/\∃ (s':Nat),(l=l/\q2=q2/\(↑s_1.fst:Int)+q5=(↑s':Int))/\(s' <= q11/\Wq (CA l q2 s'))/\q11 - s' < q11 - s))) (l.getD s_1.snd q0)) (q2.getD s_1.fst q1)) (↑s_1.snd:Int)) (List.take s_1.snd l)) (q2.getD q13 q1)) s0.fst)/\((↑q2.length:Int)<=(↑s:Int)->q3=r0)) q2.length)))) (dflt (Sh.nm NT.field))) (dflt (Sh.nm NT.spec))) (aK v)) (0:Int)) (↑l.length:Int)) (1:Int)) (↑(0:Nat):Int)) (140737488355328:Nat)) l.length) (1:Nat)) (18446744073709551616:Nat)):=by kernel_rfl
theorem Ed (q:Int) (v:Int) (l:List Field) (h0:q=1):Sat Tryz.prog (al tyT) 73 [.c (.int (q)),.c (.int (v)),.c (.fz (.nm .field) (l))] [] ⟨[q=1],[.c (.int ((ew l v)))],none,false⟩:=by
 refine aJ oc (Af q v l) Tryz.func73 (by decide) (by kernel_rfl) ?_
 rw [DG]
 (repeat' (first | with_reducible apply bu | with_reducible refine bw ?_ | intro))
 all_goals try (refine ⟨0,?_⟩; (repeat' (first | with_reducible apply bu | with_reducible refine bw ?_ | intro)))
 all_goals try (refine ⟨(‹Nat›,0),?_⟩; (repeat' (first | with_reducible apply bu | with_reducible refine bw ?_ | intro)))
 all_goals try (refine ⟨(‹Nat × Nat›.1,‹Nat × Nat›.2+1),?_⟩; (repeat' (first | with_reducible apply bu | with_reducible refine bw ?_ | intro)))
 all_goals try (refine ⟨‹Nat × Nat›.1+1,?_⟩; (repeat' (first | with_reducible apply bu | with_reducible refine bw ?_ | intro)))
 all_goals (first | exact bT | exact rfl | exact (Vk aG) | exact (Wb aG ae) | exact ⟨YH⟩ | exact ⟨ZV⟩ | exact (congrArg Spec.num (Wu ae)) | exact (congrArg Spec.wire (Wu ae)) | exact (congrArg Spec.since (Wu ae)) | exact (congrArg Spec.need (Wu ae)) | exact (congrArg Spec.many (Wu ae)) | exact (Na aG ae (Qm (by assumption) ae aG ae)) | exact (Na aG ae (QN (by assumption) ae aG)) | exact (Tm aG ae (VN ae aG ae)) | exact (fdN ae aG (fun h=>absurd h ae)) | exact (fdN ae aG (fun _=>And.intro ae (And.intro (by assumption) (by assumption)))) | exact (spN ae ae ae aG (by assumption) (by assumption)) | (rw [fdn aG ae]) | (rw [fdy aG ae]; rfl) | (have hc:=AI (l:=l) (k:=‹Nat × Nat›.2) ((aK v).getD ‹Nat × Nat›.1 (dflt (.nm .spec))).num; refine dY ?_ ?_ <;> omega))
noncomputable def OB:cO:=(bq 73 (bm (ah (kC cI) (ah (kC cI) (ah (kC (cL (.nm .field))) aH))) aI fun (q,v,l,_) (_)=>⟨[q=1],[.c (.int ((ew l v)))],none,false⟩) (bq 72 (bm (ah (kC (cL .u8)) aH) aI fun (b,_) (_)=>⟨[],[.c (.fz (.nm .field) (((aU b).1))),.c (.int (((aU b).2)))],none,false⟩) (bq 49 (bm (ah (kC (cL (.nm .field))) aH) aI fun (l,_) (_)=>⟨[],[.c (.own 0),.c (.int ((bY l)))],some ([.row 5 .u8 ((gN l))]),true⟩) IZ)))
theorem zn:aW Tryz.prog (al tyT) OB:=(au (av (ab (aq ay) (ab (aq ay) (ab (aq aY) ai))) aj fun (q,v,l,_) (_) hp=>Ed q v l (cY hp)) (au (av (ab (aq aY) ai) aj fun (b,_) (_) _=>Ld b ) (au (av (ab (aq aY) ai) aj fun (l,_) (_) _=>QP l ) oc)))
theorem pi1 {c:Command} {rest:List Field} {v:Int} (h:bb v 1 3=false):cN c rest v=1:=ZA h
theorem pi2 {c:Command} {rest:List Field} {v:Int} (h:bb v 1 3=true) (h1:dG c v=false) (h2:¬ bc c v=0):cN c rest v=bc c v:=YY h h1 h2
theorem pi3 {c:Command} {rest:List Field} {v:Int} {k:Nat} (hn:(rest.getD k (dflt (.nm .field))).num<=bj v) (h:bb v 1 3=true) (h1:dG c v=true\/bc c v=0) (hk:k<rest.length):cN c rest v=6:=XT h h1 (Ou hk) hn
theorem pi0 {c:Command} {rest:List Field} {v:Int} {k:Nat} (h:bb v 1 3=true) (h1:dG c v=true\/bc c v=0) (ht:Wq (ko rest v k)) (hk:rest.length<=k):cN c rest v=0:=pb0 h h1 ht hk
theorem UM {rest:List Field} {v:Int} {k:Nat} (h:Wq (ko rest v k)) (hn:bj v<(rest.getD k (dflt (.nm .field))).num) (hk:k<rest.length):Wq (ko rest v (k+1)):=Ob h (Ou hk) (by omega)
def Ew (c:Command) (rest:List Field) (v:Int):List (Nat × LI):=[(8,{ σ:=Nat,F:=fun k=>([(1,one (.fz (.nm .field) (rest))),(2,one (.int (v))),(3,one (.ptr 0 0)),(9,one (.int k))],[.box 24 (cellsOf (.nm .command) ((c)))]),J:=fun k=>k<=rest.length/\Wq (ko rest v k),μ:=fun k=>rest.length - k })]
theorem Nb (c:Command) (rest:List Field) (v:Int) (r0:Int) (r1:List UInt8):gV tyT OB (Ew c rest v) Tryz.f27 [.agg (cellsOf (.nm .command) c),.c (.fz (.nm .field) (rest)),.c (.int (v))] [] [.c (.own 0),.c (.int (r0))] [.row 5 .u8 (r1)]=((fun (q6:Nat)=>(fun (q5:Nat)=>(fun (q4:Int)=>(fun (q3:den (Sh.nm NT.field))=>(fun (q2:Int)=>(fun (q1:Prop)=>(fun (q0:Prop)=>I64 c.kind->I64 c.client->I64 c.seq->I64 c.set->I64 c.id->I64 c.n->c.chunks.length*(8:Nat)<=(140737488355328:Nat)->c.text.b.length<=(140737488355328:Nat)->q6*(48:Nat)<=(140737488355328:Nat)->I64 v->(bb v q4 (3:Int)=false->q4=r0/\r1=[])/\(bb v q4 (3:Int)=true->(dG c v=false->I64 (bc c v)->(¬bc c v=q2->bc c v=r0/\r1=[])/\(bc c v=q2->q0))/\(dG c v=true->q0))) (∃ (s0:Nat),(rest=rest/\v=v/\q2=(↑s0:Int)/\q1)/\(s0<=q5/\Wq (ko rest v s0))/\∀ (s:Nat),s<=q5/\Wq (ko rest v s)->((↑s:Int)<(↑q6:Int)->q2<=(↑s:Int)/\(↑s:Int)<(↑q6:Int)/\q4=q4/\(I64 (rest.getD s q3).num->I64 (rest.getD s q3).wire->(rest.getD s q3).n.n<(18446744073709551616:Nat)->(rest.getD s q3).b.length*(1:Nat)<=(140737488355328:Nat)->I64 (bj v)->((rest.getD s q3).num<=bj v->(6:Int)=r0/\r1=[])/\(bj v<(rest.getD s q3).num->I64 ((↑s:Int)+q4)/\∃ (s':Nat),(rest=rest/\v=v/\(↑s:Int)+q4=(↑s':Int)/\q1)/\(s' <= q5/\Wq (ko rest v s'))/\q5 - s' < q5 - s)))/\((↑q6:Int)<=(↑s:Int)->q2<=c.kind/\q2<=c.client/\q2<=c.seq/\q2<=c.set/\q2<=c.id/\q2<=c.n/\(c.chunks.length=(0:Nat)\/rowF c.chunks=true)/\((bL c v).length+q6)*(48:Nat)<=(140737488355328:Nat)/\(I64 (bY (bL c v++rest))->bY (bL c v++rest)=r0/\gN (bL c v++rest)=r1)))) (c.kind=c.kind/\c.client=c.client/\c.seq=c.seq/\c.set=c.set/\c.id=c.id/\c.n=c.n/\c.chunks=c.chunks/\c.text=c.text)) (0:Int)) (dflt (Sh.nm NT.field))) (1:Int)) rest.length) rest.length):=by kernel_rfl
theorem Nf (c:Command) (rest:List Field) (v:Int) (h0:rest.length<=20000):Sat Tryz.prog (al tyT) 27 [.agg (cellsOf (.nm .command) c),.c (.fz (.nm .field) (rest)),.c (.int (v))] [] ⟨[rest.length<=20000],[.c (.own 0),.c (.int ((dB c rest v)))],some ([.row 5 .u8 ((eg c rest v))]),true⟩:=by
 refine cA zn (Ew c rest v) Tryz.func27 (by decide) (by kernel_rfl) ?_
 rw [Nb]
 iterate 3 ((all_goals (repeat' (first | with_reducible apply bu | with_reducible refine bw ?_ | intro))); (all_goals try (first | exact bT | exact rfl | exact ⟨NM⟩ | exact (UM ae ae aG) | exact (mf (pi1 ae) (by decide)) | exact (lY (pi1 ae) (by decide)).symm | exact (mf (pi2 ae ae ae) ae) | exact (lY (pi2 ae ae ae) ae).symm | exact (mf (pi3 ae ae (by first | exact .inl ae | exact .inr ae) aG) (by decide)) | exact (lY (pi3 ae ae (by first | exact .inl ae | exact .inr ae) aG) (by decide)).symm | exact (ND (pi0 ae (by first | exact .inl ae | exact .inr ae) ae aG)) | exact (NS (pi0 ae (by first | exact .inl ae | exact .inr ae) ae aG)) | exact (SI ae) | exact (LO ae) | (have h:0<=c.kind/\0<=c.client/\0<=c.seq/\0<=c.set/\0<=c.id/\0<=c.n:=(by first | exact Fj ae | exact Fu ae); omega) | (have h:=ox c v; omega))); all_goals try first | refine ⟨‹Nat› + 1,?_⟩ | refine ⟨0,?_⟩)
noncomputable def Pt:cO:=(bq 27 (bm (ah (kT (.nm .command)) (ah (kC (cL (.nm .field))) (ah (kC cI) aH))) aI fun (c,rest,v,_) (_)=>⟨[rest.length<=20000],[.c (.own 0),.c (.int ((dB c rest v)))],some ([.row 5 .u8 ((eg c rest v))]),true⟩) OB)
theorem AU:aW Tryz.prog (al tyT) Pt:=(au (av (ab aZ (ab (aq aY) (ab (aq ay) ai))) aj fun (c,rest,v,_) (_) hp=>Nf c rest v (cY hp)) zn)
end Go.Proofs.YtladifkbefehdaaGreat
