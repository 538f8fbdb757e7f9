/- What leads to the law, part 6. Conditions: each lemma's own. -/
import Derived.ProofKit
import Derived.SizedLaws
import Derived.Test.YtladifkbefehdaaGreatKMEM5
set_option linter.unusedVariables false
set_option linter.unusedSimpArgs false
namespace Go.Proofs.YtladifkbefehdaaGreat
open Go.RowKit
theorem Q_ {b:List UInt8} {k:Nat} {x:UInt8} (hx:b[k]? = some x):b.getD k (dflt .u8)=x:=by rw [List.getD_eq_getElem?_getD,hx]; rfl
theorem Tj {b:List UInt8} {k n:Nat} (h:az b=bM k n (b.drop k)) (hk:(k:Int)<10) (hb:(k:Int)=(b.length:Int)):az b=(0,0,2):=h.trans (NW (by omega) (by omega))
theorem SW {b:List UInt8} {k n:Nat} (h:az b=bM k n (b.drop k)) (hk:10<=(k:Int)):az b=(0,0,3):=h.trans (NS (by omega))
theorem SP {b:List UInt8} {k:Nat} (h1:k<=b.length) (h2:¬ (k:Int)=(b.length:Int)):∃ x,b[k]? = some x:=⟨_,List.getElem?_eq_getElem (by omega)⟩
theorem Ty {b:List UInt8} {k n:Nat} (h:az b=bM k n (b.drop k)) (hk:(k:Int)<10) (hl:k<=b.length) (hb:¬ (k:Int)=(b.length:Int)) (h0:0<(k:Int)) (h1:((b.getD k (dflt .u8)).toNat:Int)=((UInt8.ofNat 0).toNat:Int)):az b=(0,0,3):=by
 obtain ⟨x,hx⟩:=SP hl hb
 rw [Q_ hx,show (UInt8.ofNat 0).toNat=0 from rfl] at h1
 exact Dr h (by omega) hx (.inl ⟨by omega,by omega⟩)
theorem Tw {b:List UInt8} {k n:Nat} (h:az b=bM k n (b.drop k)) (_hk:(k:Int)<10) (hl:k<=b.length) (hb:¬ (k:Int)=(b.length:Int)) (h0:(k:Int)=9) (h1:((UInt8.ofNat 1).toNat:Int)<((b.getD k (dflt .u8)).toNat:Int)):az b=(0,0,3):=by
 obtain ⟨x,hx⟩:=SP hl hb
 rw [Q_ hx,show (UInt8.ofNat 1).toNat=1 from rfl] at h1
 exact Dr h (by omega) hx (.inr ⟨by omega,by omega⟩)
def Lq (n k:Nat) (x:UInt8):Nat:=n ||| (x &&& UInt8.ofNat 127).toNat*2 ^ (7*(k:Int)).toNat % 18446744073709551616
theorem SH {k n:Nat} {x:UInt8} (hn:n<2 ^ (7*k)) (hk:k<=9) (h9:k=9->x.toNat<=1):Lq n k x=n+(x &&& 127).toNat*2 ^ (7*k):=by
 unfold Lq
 rw [show (UInt8.ofNat 127)=127 from rfl,show (7*(k:Int)).toNat=7*k by omega,Nat.mod_eq_of_lt (Nz hk h9)]
 exact ND hn
theorem SO {b:List UInt8} {k:Nat} {x:UInt8} (hx:b[k]? = some x) (h1:(k:Int)<=0\/¬ ((b.getD k (dflt .u8)).toNat:Int)=((UInt8.ofNat 0).toNat:Int)) (h2:¬ (k:Int)=9\/((b.getD k (dflt .u8)).toNat:Int)<=((UInt8.ofNat 1).toNat:Int)):(¬ (0<k/\x.toNat=0))/\¬ (k=9/\1<x.toNat):=by
 rw [Q_ hx,show (UInt8.ofNat 0).toNat=0 from rfl] at h1
 rw [Q_ hx,show (UInt8.ofNat 1).toNat=1 from rfl] at h2
 omega
theorem Ri {b:List UInt8} {k n:Nat} {x y:UInt8} (h:az b=bM k n (b.drop k)) (hn:n<2 ^ (7*k)) (hk:(k:Int)<10) (hx:b[k]? = some x) (hy:b[k]? = some y) (h1:(k:Int)<=0\/¬ ((b.getD k (dflt .u8)).toNat:Int)=((UInt8.ofNat 0).toNat:Int)) (h2:¬ (k:Int)=9\/((b.getD k (dflt .u8)).toNat:Int)<=((UInt8.ofNat 1).toNat:Int)) (h3:(y.toNat:Int)<((UInt8.ofNat 128).toNat:Int)):az b=(Lq n k x,k+1,0):=by
 have hz:=SO hx h1 h2
 rw [show (UInt8.ofNat 128).toNat=128 from rfl] at h3
 rw [hx] at hy; cases hy
 rw [SH hn (by omega) (by omega)]
 exact JF h (by omega) hx hz.1 hz.2 (by omega)
theorem Rc {b:List UInt8} {k n:Nat} {x y:UInt8} (h:az b=bM k n (b.drop k)) (hn:n<2 ^ (7*k)) (hn2:n<18446744073709551616) (hk:(k:Int)<10) (hx:b[k]? = some x) (hy:b[k]? = some y) (h1:(k:Int)<=0\/¬ ((b.getD k (dflt .u8)).toNat:Int)=((UInt8.ofNat 0).toNat:Int)) (h2:¬ (k:Int)=9\/((b.getD k (dflt .u8)).toNat:Int)<=((UInt8.ofNat 1).toNat:Int)) (h3:((UInt8.ofNat 128).toNat:Int)<=(y.toNat:Int)):Lq n k x<2 ^ (7*(k+1))/\Lq n k x<18446744073709551616/\az b=bM (k+1) (Lq n k x) (b.drop (k+1)):=by
 have hz:=SO hx h1 h2
 rw [show (UInt8.ofNat 128).toNat=128 from rfl] at h3
 rw [hx] at hy; cases hy
 have e:=SH hn (show k<=9 by omega) (show k=9->x.toNat<=1 by omega)
 refine ⟨by rw [e]; exact HM hn,?_,by rw [e]; exact Hi h (by omega) hx hz.1 hz.2 (by omega)⟩
 unfold Lq
 exact Nat.or_lt_two_pow (n:=64) hn2 (Nat.mod_lt _ (by decide))
theorem Gc {c:Command} {v:Int} {k:Nat} {x:Int} (hx:[c.client,c.seq,c.set,c.id,c.n][k]? = some x) (h:x<0\/1048576<x):false=cJ c v:=by
 refine HS ?_
 match k,hx with
 | 0,hx=>cases hx; exact .inl h
 | 1,hx=>cases hx; exact .inr (.inl h)
 | 2,hx=>cases hx; exact .inr (.inr (.inl h))
 | 3,hx=>cases hx; exact .inr (.inr (.inr (.inl h)))
 | 4,hx=>cases hx; exact .inr (.inr (.inr (.inr h)))
theorem zT {c:Command} {k:Nat} (h:(k:Int)<5):[c.client,c.seq,c.set,c.id,c.n][k]? = some ([c.client,c.seq,c.set,c.id,c.n].getD k (dflt .int)):=by
 rw [List.getD_eq_getElem?_getD,List.getElem?_eq_getElem (by simp only [List.length_cons,List.length_nil]; omega)]; rfl
theorem AA {n:Int} {p:Prop} (h:n<=0\/p):(¬ 0<n)\/p:=h.imp_left (by omega)
theorem Ly {l:List Int} {k:Nat} {x:Int} (h:((l.take k).all fun n=>bE n 0 1048576)=true) (hx:l[k]? = some x) (h0:0<=x) (h1:x<=1048576):((l.take (k+1)).all fun n=>bE n 0 1048576)=true:=by
 rw [aB hx,List.all_append,h]; simp [bE]; omega
theorem zO {c:Command} {k:Nat} (h:(([c.client,c.seq,c.set,c.id,c.n].take k).all fun n=>bE n 0 1048576)=true) (hk:5<=(k:Int)):¬ ((c.client<0\/1048576<c.client)\/(c.seq<0\/1048576<c.seq)\/(c.set<0\/1048576<c.set)\/(c.id<0\/1048576<c.id)\/(c.n<0\/1048576<c.n)):=by
 rw [List.take_of_length_le (by simp only [List.length_cons,List.length_nil]; omega)] at h
 simp only [List.all_cons,List.all_nil,bE,Bool.and_eq_true,decide_eq_true_eq] at h
 omega
def Gf (b:List UInt8):List (Nat × LI):=[(3,{ σ:=Nat × Nat,F:=fun s=>([(0,one (.fz .u8 (b))),(5,one (.u64 s.2)),(6,one (.int 0)),(7,one (.int 3)),(9,one (.int s.1))],[]),J:=fun s=>s.1<=10/\s.2<2 ^ (7*s.1)/\s.2<18446744073709551616/\az b=bM s.1 s.2 (b.drop s.1)/\s.1<=b.length,μ:=fun s=>10 - s.1 })]
def qC (c:Command) (v:Int):List (Nat × LI):=[(5,{ σ:=Nat,F:=fun k=>([(1,one (.int (v))),(2,one (.ptr 0 0)),(38,.one (.agg [.int c.client,.int c.seq,.int c.set,.int c.id,.int c.n])),(39,one (.int k))],[.box 24 (cellsOf (.nm .command) ((c)))]),J:=fun k=>k<=5/\([c.client,c.seq,c.set,c.id,c.n].take k).all (fun n=>bE n 0 1048576)=true,μ:=fun k=>5 - k })]
theorem Jf (b:List UInt8) (r0:U64) (r1:Int) (r2:Int):cA aF fq (Gf b) Tryz.f126 [.c (.fz .u8 (b))] [] [.c (.u64 (r0).n),.c (.int (r1)),.c (.int (r2))]=((fun (q11:UInt8)=>(fun (q10:Nat)=>(fun (q9:Nat)=>(fun (q8:Nat)=>(fun (q7:Int)=>(fun (q6:Int)=>(fun (q5:Int)=>(fun (q4:Int)=>(fun (q3:Int)=>(fun (q2:Prop)=>(fun (q1:Int)=>(fun (q0:Int)=>b.length*(1:Nat)<=(140737488355328:Nat)->∃ (s0:Nat × Nat),(fun (q15:Prop)=>(fun (q14:Prop)=>(fun (q13:Prop)=>(fun (q12:Prop)=>(b=b/\(0:Nat)=s0.snd/\q14/\q1=q1/\q0=(↑s0.fst:Int))/\(s0.fst<=q9/\s0.snd<q8 ^ ((7:Nat)*s0.fst)/\s0.snd<q10/\az b=bM s0.fst s0.snd (List.drop s0.fst b)/\s0.fst<=b.length)/\∀ (s:Nat × Nat),(fun (q20:Nat)=>(fun (q19:Int)=>(fun (q18:Prop)=>(fun (q17:Int)=>(fun (q16:Prop)=>q20<=q9/\s.snd<q8 ^ ((7:Nat)*q20)/\s.snd<q10/\az b=bM q20 s.snd (List.drop q20 b)/\q20<=b.length->(q17<(10:Int)->(q17=q3->(¬(2:Int)=q0->q2/\q0=r1/\(2:Int)=r2)/\((2:Int)=q0->s.snd=r0.n/\q12))/\(¬q17=q3->(q0<q17->q0<=q17/\q17<q3)/\(q0<q17/\q19=q4->(q0<q17/\q19=q4->q18)/\(q17<=q0\/¬q19=q4->q16))/\(q17<=q0\/¬q19=q4->(q17=(9:Int)->q0<=q17/\q17<q3)/\(q17=(9:Int)/\(↑(UInt8.ofNat (1:Nat)).toNat:Int)<q19->q18)/\(¬q17=(9:Int)\/q19<=(↑(UInt8.ofNat (1:Nat)).toNat:Int)->q16))))/\((10:Int)<=q17->q18)) (q0<=q17/\q17<q3/\∀ (x:UInt8),b[q20]? = some x->I64 (q6*q17)/\q0<=q6*q17/\q6*q17<(64:Int)/\q0<=q17/\q17<q3/\∀ (x_1:UInt8),b[q20]? = some x_1->((↑x_1.toNat:Int)<q5->I64 (q17+q7)/\(¬q14->q2/\q12)/\(q14->s.snd ||| (x &&& q11).toNat*q8 ^ (q6*q17).toNat % q10=r0.n/\q17+q7=r1/\q0=r2))/\(q5<=(↑x_1.toNat:Int)->I64 (q17+q7)/\∃ (s':Nat × Nat),(b=b/\s.snd ||| (x &&& q11).toNat*q8 ^ (q6*q17).toNat % q10=s'.snd/\q14/\q1=q1/\q17+q7=(↑s'.fst:Int))/\(s'.fst<=q9/\s'.snd<q8 ^ ((7:Nat)*s'.fst)/\s'.snd<q10/\az b=bM s'.fst s'.snd (List.drop s'.fst b)/\s'.fst<=b.length)/\q9 - s'.fst<q9 - q20))) (↑q20:Int)) ((¬q15->q13)/\(q15->s.snd=r0.n/\q12))) (↑(UInt8.toNat (b.getD q20 (dflt Sh.u8))):Int)) s.fst) (q0=r1/\q0=r2)) (q2/\q0=r1/\q1=r2)) (q0=q0)) (q1=q0)) (0:Int)) (3:Int)) ((0:Nat)=r0.n)) (↑b.length:Int)) (↑(UInt8.ofNat (0:Nat)).toNat:Int)) (↑(UInt8.ofNat (128:Nat)).toNat:Int)) (7:Int)) (1:Int)) (2:Nat)) (10:Nat)) (18446744073709551616:Nat)) (UInt8.ofNat (127:Nat))):=by kernel_rfl
theorem GQ (b:List UInt8):Sat Tryz.prog (ao aF) 126 [.c (.fz .u8 (b))] [] ⟨[],[.c (.u64 ((U64.mk (az b).1)).n),.c (.int ((((az b).2.1:Nat)))),.c (.int (((az b).2.2)))],none,false⟩:=by
 refine aM cQ (Gf b) Tryz.func126 (by decide) (by kernel_rfl) ?_
 rw [Jf]
 (repeat' (first | with_reducible refine And.intro ?_ ?_ | with_reducible refine and_imp.2 ?_ | intro))
 all_goals try (first | (first | with_reducible rfl | with_reducible assumption | omega | (refine ag ?_ ?_ <;> omega)) | decide)
 all_goals (refine ⟨(0,0),⟨rfl,rfl,?_,?_,?_⟩,⟨by omega,by decide,by decide,rfl,by omega⟩,?_⟩)
 all_goals try (first | trivial | rfl)
 (repeat' (first | with_reducible refine And.intro ?_ ?_ | with_reducible refine and_imp.2 ?_ | intro))
 all_goals try (first | (first | with_reducible rfl | with_reducible assumption | omega | (refine ag ?_ ?_ <;> omega)) | (rw [Tj (by with_reducible assumption) (by with_reducible assumption) (by with_reducible assumption)] <;> rfl) | (rw [SW (by with_reducible assumption) (by with_reducible assumption)] <;> rfl) | (rw [Ty (by with_reducible assumption) (by with_reducible assumption) (by with_reducible assumption) (by with_reducible assumption) (by with_reducible assumption) (by with_reducible assumption)] <;> rfl) | (rw [Tw (by with_reducible assumption) (by with_reducible assumption) (by with_reducible assumption) (by with_reducible assumption) (by with_reducible assumption) (by with_reducible assumption)] <;> rfl) | exact (congrArg Prod.fst (Ri (by with_reducible assumption) (by with_reducible assumption) (by with_reducible assumption) (by with_reducible assumption) (by with_reducible assumption) (by with_reducible assumption) (by with_reducible assumption) (by with_reducible assumption))).symm | exact (congrArg (fun t=>((t.2.1:Nat):Int)) (Ri (by with_reducible assumption) (by with_reducible assumption) (by with_reducible assumption) (by with_reducible assumption) (by with_reducible assumption) (by with_reducible assumption) (by with_reducible assumption) (by with_reducible assumption))).symm | exact (congrArg (fun t=>t.2.2) (Ri (by with_reducible assumption) (by with_reducible assumption) (by with_reducible assumption) (by with_reducible assumption) (by with_reducible assumption) (by with_reducible assumption) (by with_reducible assumption) (by with_reducible assumption))).symm)
 all_goals (refine ⟨(‹Nat × Nat›.1+1,_),⟨rfl,rfl,?_⟩,?_⟩; (repeat' (first | with_reducible refine And.intro ?_ ?_ | with_reducible refine and_imp.2 ?_ | intro)))
 all_goals (first | (first | with_reducible rfl | with_reducible assumption | omega | (refine ag ?_ ?_ <;> omega)) | exact (Rc (by with_reducible assumption) (by with_reducible assumption) (by with_reducible assumption) (by with_reducible assumption) (by with_reducible assumption) (by with_reducible assumption) (by with_reducible assumption) (by with_reducible assumption) (by with_reducible assumption)).1 | exact (Rc (by with_reducible assumption) (by with_reducible assumption) (by with_reducible assumption) (by with_reducible assumption) (by with_reducible assumption) (by with_reducible assumption) (by with_reducible assumption) (by with_reducible assumption) (by with_reducible assumption)).2.1 | exact (Rc (by with_reducible assumption) (by with_reducible assumption) (by with_reducible assumption) (by with_reducible assumption) (by with_reducible assumption) (by with_reducible assumption) (by with_reducible assumption) (by with_reducible assumption) (by with_reducible assumption)).2.2)
theorem BP (x:Field) (y:Field) (r0:Bool):cA aF fq [] Tryz.f92 [.agg (cellsOf (.nm .field) x),.agg (cellsOf (.nm .field) y)] [] [.c (.bool (.atom (r0)))]=(I64 x.num->I64 x.wire->x.n.n<(18446744073709551616:Nat)->x.b.length*(1:Nat)<=(140737488355328:Nat)->I64 y.num->I64 y.wire->y.n.n<(18446744073709551616:Nat)->y.b.length*(1:Nat)<=(140737488355328:Nat)->(y.num=x.num->(decide (y.wire=(2:Int)) && decide (x.wire=(2:Int)))=r0)/\(¬y.num=x.num->decide (x.num<y.num)=r0)):=by kernel_rfl
theorem ET (x:Field) (y:Field):Sat Tryz.prog (ao aF) 92 [.agg (cellsOf (.nm .field) x),.agg (cellsOf (.nm .field) y)] [] ⟨[],[.c (.bool (.atom ((dC x y))))],none,false⟩:=by
 refine aM cQ [] Tryz.func92 (by decide) (by kernel_rfl) ?_
 rw [BP]
 grind [dC]
theorem FW (x:Field) (r0:Bool):cA aF fq [] Tryz.f118 [.agg (cellsOf (.nm .field) x)] [] [.c (.bool (.atom (r0)))]=(I64 x.num->I64 x.wire->x.n.n<(18446744073709551616:Nat)->x.b.length*(1:Nat)<=(140737488355328:Nat)->(x.num<(1:Int)\/(1000:Int)<x.num->false=r0)/\((1:Int)<=x.num/\x.num<=(1000:Int)->(x.wire=(0:Int)->decide ((↑x.b.length:Int)=(0:Int))=r0)/\(¬x.wire=(0:Int)->(x.wire=(2:Int)->decide ((↑x.n.n:Int)=(↑(0:Nat):Int))=r0)/\(¬x.wire=(2:Int)->false=r0)))):=by kernel_rfl
theorem CQ (x:Field):Sat Tryz.prog (ao aF) 118 [.agg (cellsOf (.nm .field) x)] [] ⟨[],[.c (.bool (.atom ((cf x))))],none,false⟩:=by
 refine aM cQ [] Tryz.func118 (by decide) (by kernel_rfl) ?_
 rw [FW]
 grind [cf,th,kP]
theorem ES (x:List UInt8) (y:List UInt8) (r0:Bool):cA aF fq [] Tryz.f55 [.c (.fz .u8 (x)),.c (.fz .u8 (y))] [] [.c (.bool (.atom (r0)))]=(x.length*(1:Nat)<=(140737488355328:Nat)->y.length*(1:Nat)<=(140737488355328:Nat)->decide (Str.mk x=Str.mk y)=r0):=by kernel_rfl
theorem CZ (x:List UInt8) (y:List UInt8):Sat Tryz.prog (ao aF) 55 [.c (.fz .u8 (x)),.c (.fz .u8 (y))] [] ⟨[],[.c (.bool (.atom ((decide (x=y)))))],none,false⟩:=by
 refine aM cQ [] Tryz.func55 (by decide) (by kernel_rfl) ?_
 rw [ES]
 grind
theorem Ft (x:List UInt8) (r0:List UInt8):cA aF fq [] Tryz.f96 [.c (.fz .u8 (x))] [] [.c (.fz .u8 (r0))]=((fun (q0:Prop)=>q0->∀ (b:Bool),(b=true->x=[])->(b=true->r0=[])/\(b=false->q0/\x=r0)) (x.length*(1:Nat)<=(140737488355328:Nat))):=by kernel_rfl
theorem DL (x:List UInt8):Sat Tryz.prog (ao aF) 96 [.c (.fz .u8 (x))] [] ⟨[],[.c (.fz .u8 ((x)))],none,false⟩:=by
 refine aM cQ [] Tryz.func96 (by decide) (by kernel_rfl) ?_
 rw [Ft]
 grind
theorem PE (k:Int) (l:Int) (r0:Spec):cA aF fq [] Tryz.f162 [.c (.int (k)),.c (.int (l))] [] [.agg (cellsOf (.nm .spec) r0)]=(I64 k->I64 l->k=r0.num/\(0:Int)=r0.wire/\l=r0.since/\false=r0.need/\false=r0.many):=by kernel_rfl
theorem PQ (k:Int) (l:Int):Sat Tryz.prog (ao aF) 162 [.c (.int (k)),.c (.int (l))] [] ⟨[],[.agg (cellsOf (.nm .spec) (⟨k,0,l,false,false⟩))],none,false⟩:=by
 refine aM cQ [] Tryz.func162 (by decide) (by kernel_rfl) ?_
 rw [PE]
 grind
theorem Qr (k:Int) (l:Int) (r0:Spec):cA aF fq [] Tryz.f163 [.c (.int (k)),.c (.int (l))] [] [.agg (cellsOf (.nm .spec) r0)]=(I64 k->I64 l->k=r0.num/\(2:Int)=r0.wire/\l=r0.since/\false=r0.need/\false=r0.many):=by kernel_rfl
theorem Qt (k:Int) (l:Int):Sat Tryz.prog (ao aF) 163 [.c (.int (k)),.c (.int (l))] [] ⟨[],[.agg (cellsOf (.nm .spec) (⟨k,2,l,false,false⟩))],none,false⟩:=by
 refine aM cQ [] Tryz.func163 (by decide) (by kernel_rfl) ?_
 rw [Qr]
 grind
theorem Pt (x:Spec) (r0:Spec):cA aF fq [] Tryz.f164 [.agg (cellsOf (.nm .spec) x)] [] [.agg (cellsOf (.nm .spec) r0)]=(I64 x.num->I64 x.wire->I64 x.since->x.num=r0.num/\x.wire=r0.wire/\x.since=r0.since/\true=r0.need/\x.many=r0.many):=by kernel_rfl
theorem Ql (x:Spec):Sat Tryz.prog (ao aF) 164 [.agg (cellsOf (.nm .spec) x)] [] ⟨[],[.agg (cellsOf (.nm .spec) ({ x with need:=true }))],none,false⟩:=by
 refine aM cQ [] Tryz.func164 (by decide) (by kernel_rfl) ?_
 rw [Pt]
 grind
theorem QG (x:Spec) (r0:Spec):cA aF fq [] Tryz.f165 [.agg (cellsOf (.nm .spec) x)] [] [.agg (cellsOf (.nm .spec) r0)]=(I64 x.num->I64 x.wire->I64 x.since->x.num=r0.num/\x.wire=r0.wire/\x.since=r0.since/\x.need=r0.need/\true=r0.many):=by kernel_rfl
theorem PV (x:Spec):Sat Tryz.prog (ao aF) 165 [.agg (cellsOf (.nm .spec) x)] [] ⟨[],[.agg (cellsOf (.nm .spec) ({ x with many:=true }))],none,false⟩:=by
 refine aM cQ [] Tryz.func165 (by decide) (by kernel_rfl) ?_
 rw [QG]
 grind
theorem Oe (x:Field) (s:Spec) (n:Int) (r0:Bool):cA aF fq [] Tryz.f95 [.agg (cellsOf (.nm .field) x),.agg (cellsOf (.nm .spec) s),.c (.int (n))] [] [.c (.bool (.atom (r0)))]=(I64 x.num->I64 x.wire->x.n.n<(18446744073709551616:Nat)->x.b.length*(1:Nat)<=(140737488355328:Nat)->I64 s.num->I64 s.wire->I64 s.since->I64 n->(¬x.wire=s.wire\/(1:Int)<n/\s.many=false->false=r0)/\(x.wire=s.wire/\(n<=(1:Int)\/s.many=true)->(x.wire=(0:Int)->(!decide ((↑x.n.n:Int)=(↑(0:Nat):Int)))=r0)/\(¬x.wire=(0:Int)->decide ((0:Int)<(↑x.b.length:Int))=r0))):=by kernel_rfl
theorem Ni (x:Field) (s:Spec) (n:Int):Sat Tryz.prog (ao aF) 95 [.agg (cellsOf (.nm .field) x),.agg (cellsOf (.nm .spec) s),.c (.int (n))] [] ⟨[],[.c (.bool (.atom ((zk x s n))))],none,false⟩:=by
 refine aM cQ [] Tryz.func95 (by decide) (by kernel_rfl) ?_
 rw [Oe]
 grind [zk]
theorem MS (num:Int) (wire:Int) (r0:Int) (r1:List UInt8):ma aF fq [] Tryz.f119 [.c (.int (num)),.c (.int (wire))] [] [.c (.own 0),.c (.int (r0))] [.row 5 .u8 (r1)]=((fun (q0:Int)=>I64 num->I64 wire->((num<(1:Int)\/(1000:Int)<num)\/¬wire=(0:Int)/\¬wire=(2:Int)->(1:Int)=r0/\r1=[])/\(((1:Int)<=num/\num<=(1000:Int))/\(wire=(0:Int)\/wire=(2:Int))->I64 ((8:Int)*num)/\I64 q0/\(0:Int)<=q0/\(0:Int)=r0/\bq q0.toNat=r1)) ((8:Int)*num+wire)):=by kernel_rfl
theorem Lo (num:Int) (wire:Int):Sat Tryz.prog (ao aF) 119 [.c (.int (num)),.c (.int (wire))] [] ⟨[],[.c (.own 0),.c (.int ((jB num wire)))],some ([.row 5 .u8 ((ef num wire))]),true⟩:=by
 refine di cQ [] Tryz.func119 (by decide) (by kernel_rfl) ?_
 rw [MS]
 (repeat' (first | with_reducible refine And.intro ?_ ?_ | with_reducible refine and_imp.2 ?_ | intro))
 all_goals (first | (first | with_reducible rfl | with_reducible assumption | omega | (refine ag ?_ ?_ <;> omega)) | exact (nF (by omega)) | exact (j_ (by omega)) | exact (nv (by omega)).symm | exact (nv (by omega)) | exact (om (by omega)))
theorem xa (c:Command) (v:Int) (r0:Bool):cA aF fq (qC c v) Tryz.f41 [.agg (cellsOf (.nm .command) c),.c (.int (v))] [] [.c (.bool (.atom (r0)))]=((fun (q7:List Int)=>(fun (q6:Nat)=>(fun (q5:Int)=>(fun (q4:Int)=>(fun (q3:Int)=>(fun (q2:List Int)=>(fun (q1:Prop)=>(fun (q0:List (den Sh.int))=>I64 q5->I64 q4->I64 c.seq->I64 c.set->I64 c.id->I64 c.n->q7.length*(8:Nat)<=(140737488355328:Nat)->c.text.b.length<=(140737488355328:Nat)->I64 v->I64 (aQ q5)->((q5<(1:Int)\/(99:Int)<q5)\/¬aQ q5=q3/\aQ q5<=v->false=r0)/\(((1:Int)<=q5/\q5<=(99:Int))/\(aQ q5=q3\/v<aQ q5)->∃ (s0:Nat),(v=v/\q4=q4/\c.seq=c.seq/\c.set=c.set/\c.id=c.id/\c.n=c.n/\q3=(↑s0:Int)/\q1)/\(s0<=q6/\((List.take s0 q2).all fun (n:Int)=>bE n q3 (1048576:Int))=true)/\∀ (s:Nat),(fun (q8:den Sh.int)=>s<=q6/\((List.take s q2).all fun (n:Int)=>bE n q3 (1048576:Int))=true->((↑s:Int)<(5:Int)->q3<=(↑s:Int)/\(↑s:Int)<(↑q6:Int)/\(I64 q8->(q8<q3\/(1048576:Int)<q8->false=r0)/\(q3<=q8/\q8<=(1048576:Int)->I64 ((↑s:Int)+(1:Int))/\∃ (s':Nat),(v=v/\q4=q4/\c.seq=c.seq/\c.set=c.set/\c.id=c.id/\c.n=c.n/\(↑s:Int)+(1:Int)=(↑s':Int)/\q1)/\(s' <= q6/\((List.take s' q2).all fun (n:Int)=>bE n q3 (1048576:Int))=true)/\q6 - s' < q6 - s)))/\((5:Int)<=(↑s:Int)->(q3<(↑q7.length:Int)/\rowF q7=false->false=r0)/\((↑q7.length:Int)<=q3\/rowF q7=true->(v<(3:Int)->decide (c.text=Str.mk [])=r0)/\((3:Int)<=v->decide ((↑c.text.b.length:Int)<=(16:Int))=r0)))) (q0.getD s (dflt Sh.int)))) [q4,c.seq,c.set,c.id,c.n]) (q5=q5/\q4=q4/\c.seq=c.seq/\c.set=c.set/\c.id=c.id/\c.n=c.n/\q7=q7/\c.text=c.text)) [q4,c.seq,c.set,c.id,c.n]) (0:Int)) c.client) c.kind) (5:Nat)) c.chunks):=by kernel_rfl
theorem xr (c:Command) (v:Int):Sat Tryz.prog (ao aF) 41 [.agg (cellsOf (.nm .command) c),.c (.int (v))] [] ⟨[],[.c (.bool (.atom ((cJ c v))))],none,false⟩:=by
 refine aM cQ (qC c v) Tryz.func41 (by decide) (by kernel_rfl) ?_
 rw [xa]
 (repeat' (first | with_reducible refine And.intro ?_ ?_ | with_reducible refine and_imp.2 ?_ | intro))
 all_goals try (first | (first | with_reducible rfl | with_reducible assumption | omega | (refine ag ?_ ?_ <;> omega)) | exact rfl | exact (oO (by omega)) | exact (Gc (zT (by omega)) (by with_reducible assumption)) | exact (Ly (by with_reducible assumption) (zT (by omega)) (by with_reducible assumption) (by with_reducible assumption)) | exact (rb (And.intro (by with_reducible assumption) (by with_reducible assumption))) | exact (wP (by omega) (zO (by with_reducible assumption) (by omega)) (AA (by assumption)) (by omega)) | exact (wL (by omega) (zO (by with_reducible assumption) (by omega)) (AA (by assumption)) (by omega)))
 all_goals try (refine ⟨0,?_⟩; (repeat' (first | with_reducible refine And.intro ?_ ?_ | with_reducible refine and_imp.2 ?_ | intro)))
 all_goals try (first | (first | with_reducible rfl | with_reducible assumption | omega | (refine ag ?_ ?_ <;> omega)) | exact rfl | exact (oO (by omega)) | exact (Gc (zT (by omega)) (by with_reducible assumption)) | exact (Ly (by with_reducible assumption) (zT (by omega)) (by with_reducible assumption) (by with_reducible assumption)) | exact (rb (And.intro (by with_reducible assumption) (by with_reducible assumption))) | exact (wP (by omega) (zO (by with_reducible assumption) (by omega)) (AA (by assumption)) (by omega)) | exact (wL (by omega) (zO (by with_reducible assumption) (by omega)) (AA (by assumption)) (by omega)))
 all_goals try (refine ⟨‹Nat› + 1,?_⟩; (repeat' (first | with_reducible refine And.intro ?_ ?_ | with_reducible refine and_imp.2 ?_ | intro)))
 all_goals (first | (first | with_reducible rfl | with_reducible assumption | omega | (refine ag ?_ ?_ <;> omega)) | exact rfl | exact (oO (by omega)) | exact (Gc (zT (by omega)) (by with_reducible assumption)) | exact (Ly (by with_reducible assumption) (zT (by omega)) (by with_reducible assumption) (by with_reducible assumption)) | exact (rb (And.intro (by with_reducible assumption) (by with_reducible assumption))) | exact (wP (by omega) (zO (by with_reducible assumption) (by omega)) (AA (by assumption)) (by omega)) | exact (wL (by omega) (zO (by with_reducible assumption) (by omega)) (AA (by assumption)) (by omega)))
theorem IT (a:Command) (b:Command) (r0:Bool):cA aF fq [] Tryz.f13 [.agg (cellsOf (.nm .command) a),.agg (cellsOf (.nm .command) b)] [] [.c (.bool (.atom (r0)))]=(I64 a.kind->I64 a.client->I64 a.seq->I64 a.set->I64 a.id->I64 a.n->a.chunks.length*(8:Nat)<=(140737488355328:Nat)->a.text.b.length<=(140737488355328:Nat)->I64 b.kind->I64 b.client->I64 b.seq->I64 b.set->I64 b.id->I64 b.n->b.chunks.length*(8:Nat)<=(140737488355328:Nat)->b.text.b.length<=(140737488355328:Nat)->(decide (a.chunks=b.chunks) && decide (a.kind=b.kind) && decide (a.client=b.client) && decide (a.seq=b.seq) && decide (a.set=b.set) && decide (a.id=b.id) && decide (a.n=b.n) && decide (a.text=b.text))=r0):=by kernel_rfl
theorem HI (a:Command) (b:Command):Sat Tryz.prog (ao aF) 13 [.agg (cellsOf (.nm .command) a),.agg (cellsOf (.nm .command) b)] [] ⟨[],[.c (.bool (.atom ((decide (a=b)))))],none,false⟩:=by
 refine aM cQ [] Tryz.func13 (by decide) (by kernel_rfl) ?_
 rw [IT]
 intros; cases a; cases b; simp only [Command.mk.injEq]; grind
def Ab:cH:=(bB 13 (bw (ai (kT (.nm .command)) (ai (kT (.nm .command)) aH)) aJ fun (a,b,_) (_)=>⟨[],[.c (.bool (.atom ((decide (a=b)))))],none,false⟩) (bB 41 (bw (ai (kT (.nm .command)) (ai (kC cI) aH)) aJ fun (c,v,_) (_)=>⟨[],[.c (.bool (.atom ((cJ c v))))],none,false⟩) (bB 119 (bw (ai (kC cI) (ai (kC cI) aH)) aJ fun (num,wire,_) (_)=>⟨[],[.c (.own 0),.c (.int ((jB num wire)))],some ([.row 5 .u8 ((ef num wire))]),true⟩) (bB 95 (bw (ai (kT (.nm .field)) (ai (kT (.nm .spec)) (ai (kC cI) aH))) aJ fun (x,s,n,_) (_)=>⟨[],[.c (.bool (.atom ((zk x s n))))],none,false⟩) (bB 165 (bw (ai (kT (.nm .spec)) aH) aJ fun (x,_) (_)=>⟨[],[.agg (cellsOf (.nm .spec) ({ x with many:=true }))],none,false⟩) (bB 164 (bw (ai (kT (.nm .spec)) aH) aJ fun (x,_) (_)=>⟨[],[.agg (cellsOf (.nm .spec) ({ x with need:=true }))],none,false⟩) (bB 163 (bw (ai (kC cI) (ai (kC cI) aH)) aJ fun (k,l,_) (_)=>⟨[],[.agg (cellsOf (.nm .spec) (⟨k,2,l,false,false⟩))],none,false⟩) (bB 162 (bw (ai (kC cI) (ai (kC cI) aH)) aJ fun (k,l,_) (_)=>⟨[],[.agg (cellsOf (.nm .spec) (⟨k,0,l,false,false⟩))],none,false⟩) (bB 96 (bw (ai (kC (cL .u8)) aH) aJ fun (x,_) (_)=>⟨[],[.c (.fz .u8 ((x)))],none,false⟩) (bB 55 (bw (ai (kC (cL .u8)) (ai (kC (cL .u8)) aH)) aJ fun (x,y,_) (_)=>⟨[],[.c (.bool (.atom ((decide (x=y)))))],none,false⟩) (bB 118 (bw (ai (kT (.nm .field)) aH) aJ fun (x,_) (_)=>⟨[],[.c (.bool (.atom ((cf x))))],none,false⟩) (bB 92 (bw (ai (kT (.nm .field)) (ai (kT (.nm .field)) aH)) aJ fun (x,y,_) (_)=>⟨[],[.c (.bool (.atom ((dC x y))))],none,false⟩) (bB 126 (bw (ai (kC (cL .u8)) aH) aJ fun (b,_) (_)=>⟨[],[.c (.u64 ((U64.mk (az b).1)).n),.c (.int ((((az b).2.1:Nat)))),.c (.int (((az b).2.2)))],none,false⟩) fq)))))))))))))
theorem kL:aS Tryz.prog (ao aF) Ab:=(aq (au (ab br (ab br aj)) ak fun (a,b,_) (_) _=>HI a b ) (aq (au (ab br (ab (al av) aj)) ak fun (c,v,_) (_) _=>xr c v ) (aq (au (ab (al av) (ab (al av) aj)) ak fun (num,wire,_) (_) _=>Lo num wire ) (aq (au (ab br (ab br (ab (al av) aj))) ak fun (x,s,n,_) (_) _=>Ni x s n ) (aq (au (ab br aj) ak fun (x,_) (_) _=>PV x ) (aq (au (ab br aj) ak fun (x,_) (_) _=>Ql x ) (aq (au (ab (al av) (ab (al av) aj)) ak fun (k,l,_) (_) _=>Qt k l ) (aq (au (ab (al av) (ab (al av) aj)) ak fun (k,l,_) (_) _=>PQ k l ) (aq (au (ab (al bp) aj) ak fun (x,_) (_) _=>DL x ) (aq (au (ab (al bp) (ab (al bp) aj)) ak fun (x,y,_) (_) _=>CZ x y ) (aq (au (ab br aj) ak fun (x,_) (_) _=>CQ x ) (aq (au (ab br (ab br aj)) ak fun (x,y,_) (_) _=>ET x y ) (aq (au (ab (al bp) aj) ak fun (b,_) (_) _=>GQ b ) cQ)))))))))))))
end Go.Proofs.YtladifkbefehdaaGreat
namespace Go.Proofs.YtladifkbefehdaaGreat
open Go.RowKit
theorem kn {m:Nat} (h:m<9223372036854775808):fZ m=(m:Int):=by rw [fZ,if_pos h]
theorem ya {b:List UInt8} {k:Nat}:(b.drop k).take (b.length - k)=b.drop k:=List.take_of_length_le (by rw [List.length_drop]; exact Nat.le_refl _)
theorem Tq {b:List UInt8} {k:Nat} (hk:(k:Int)<(b.length:Int)) (he:(az (b.drop k)).2.2=0) (hn:(((az (b.drop k)).1:Nat):Int)<=((64:Nat):Int)):∃ x,b[k]? = some x/\az (b.drop k)=(x.toNat,1,0)/\x.toNat<=64:=by
 have h:=Tm (b:=b) (k:=k) (by omega) (by rw [ya]; exact he) (by rw [ya]; omega)
 rw [ya] at h; exact h
theorem Hb {b:List UInt8} {k:Nat} (hk:(k:Int)<(b.length:Int)) (he:(az (b.drop k)).2.2=0) (hn:(((az (b.drop k)).1:Nat):Int)<=((64:Nat):Int)):(k:Int)+((az (b.drop k)).2.1:Nat)=((k+1:Nat):Int)/\cj (b.take k)++[fZ (az (b.drop k)).1]=cj (b.take (k+1)):=by
 obtain ⟨x,hx,hp,h64⟩:=Tq hk he hn
 have h:=HF hx hp
 rw [hp] at h ⊢
 exact ⟨rfl,by rw [<- h,kn (by show x.toNat<_; omega)]⟩
theorem Jp {b:List UInt8} {k:Nat} (hk:(k:Int)<(b.length:Int)) (h:(¬ (az (b.drop k)).2.2=0)\/((64:Nat):Int)<(((az (b.drop k)).1:Nat):Int)):rowF (cj b)=false:=Ok (k:=k) (by omega) (by rw [ya]; exact h)
theorem xb {b:List UInt8} {k:Nat} (h:k<=b.length) (hb:b.length<=100000):((cj (b.take k)).length+1)*8<=140737488355328:=by
 unfold cj; rw [List.length_map,List.length_take]; omega
def KR (b:List UInt8):List (Nat × LI):=[(3,{ σ:=Nat,F:=fun k=>([(0,one (.fz .u8 (b))),(4,one (.own 0)),(5,one (.int k))],[.row 3 .int ((cj (b.take k)))]),J:=fun k=>k<=b.length,μ:=fun k=>b.length - k })]
theorem Nw (b:List UInt8) (r0:Int) (r1:Int) (r2:Int) (r3:Int):cA aF Ab [] Tryz.f124 [.c (.fz .u8 (b))] [] [.c (.int (r0)),.c (.int (r1)),.c (.int (r2)),.c (.int (r3))]=((fun (q5:Int)=>(fun (q4:Int)=>(fun (q3:Int)=>(fun (q2:Prop)=>(fun (q1:Nat)=>(fun (q0:Int)=>b.length*(1:Nat)<=(140737488355328:Nat)->(az b).fst<(18446744073709551616:Nat)->I64 (↑(az b).snd.fst:Int)->I64 q4->(¬q4=q3->q3=r0/\q3=r1/\q3=r2/\q4=r3)/\(q4=q3->q2/\(q5<=q0->q2)/\(q5<=q0/\q0<=(↑(1000:Nat):Int)->q2/\(¬(↑q1:Int)=(↑(0:Nat):Int)->q2))/\((q0<q5\/(↑(1000:Nat):Int)<q0)\/¬(↑q1:Int)=(↑(0:Nat):Int)/\¬(↑q1:Int)=(↑(2:Nat):Int)->q3=r0/\q3=r1/\q3=r2/\(6:Int)=r3)/\((q5<=q0/\q0<=(↑(1000:Nat):Int))/\((↑q1:Int)=(↑(0:Nat):Int)\/(↑q1:Int)=(↑(2:Nat):Int))->q2/\q2/\fZ ((az b).fst / (8:Nat))=r0/\fZ q1=r1/\(↑(az b).snd.fst:Int)=r2/\q3=r3))) (↑((az b).fst / (8:Nat)):Int)) ((az b).fst % (8:Nat))) ((0:Nat)<(8:Nat))) (0:Int)) (az b).snd.snd) (↑(1:Nat):Int)):=by kernel_rfl
theorem Mo (b:List UInt8):Sat Tryz.prog (ao aF) 124 [.c (.fz .u8 (b))] [] ⟨[],[.c (.int (((aW b).num))),.c (.int (((aW b).wire))),.c (.int ((((aW b).k:Nat)))),.c (.int (((aW b).e)))],none,false⟩:=by
 refine aM kL [] Tryz.func124 (by decide) (by kernel_rfl) ?_
 rw [Nw]
 (repeat' (first | with_reducible refine And.intro ?_ ?_ | with_reducible refine and_imp.2 ?_ | intro))
 all_goals (first | (first | with_reducible rfl | with_reducible assumption | omega | (refine ag ?_ ?_ <;> omega)) | (rw [FC (by with_reducible assumption)] <;> rfl) | (rw [FQ (by with_reducible assumption) (by omega)] <;> rfl) | (rw [xn (by with_reducible assumption) (by omega)] <;> first | rfl | exact kn (by omega)) | (have:=(nA (l:=b) (k:=0) (n:=0) (by omega)).1; change (az b).2.1<=11 at this; omega))
theorem Lp (f:Field) (r0:List UInt8):ma aF Ab [] Tryz.f83 [.agg (cellsOf (.nm .field) f)] [] [.c (.own 0)] [.row 5 .u8 (r0)]=((fun (q1:Nat)=>(fun (q0:List UInt8)=>I64 f.num->I64 f.wire->f.n.n<(18446744073709551616:Nat)->q1*(1:Nat)<=(140737488355328:Nat)->I64 (jB f.num f.wire)->(f.wire=(0:Int)->(q0.length+(bq f.n.n).length)*(1:Nat)<=(140737488355328:Nat)/\q0++bq f.n.n=r0)/\(¬f.wire=(0:Int)->(0:Int)<=(↑q1:Int)/\(q0.length+(bq q1).length)*(1:Nat)<=(140737488355328:Nat)/\((q0++bq q1).length+q1)*(1:Nat)<=(140737488355328:Nat)/\q0++bq q1++f.b=r0)) (ef f.num f.wire)) f.b.length):=by kernel_rfl
theorem LH (f:Field) (h0:f.b.length<=16384):Sat Tryz.prog (ao aF) 83 [.agg (cellsOf (.nm .field) f)] [] ⟨[f.b.length<=16384],[.c (.own 0)],some ([.row 5 .u8 ((bc f))]),true⟩:=by
 refine di kL [] Tryz.func83 (by decide) (by kernel_rfl) ?_
 rw [Lp]
 (repeat' (first | with_reducible refine And.intro ?_ ?_ | with_reducible refine and_imp.2 ?_ | intro))
 all_goals (first | (first | with_reducible rfl | with_reducible assumption | omega | (refine ag ?_ ?_ <;> omega)) | exact (xT (by with_reducible assumption)) | exact (yH (by with_reducible assumption)) | (have:=iQ f.num f.wire; have:=cT (n:=f.n.n) (by with_reducible assumption); omega) | (have:=iQ f.num f.wire; have:=cT (n:=f.b.length) (by omega); (try simp only [List.length_append]); omega))
theorem MV (q:Int) (r0:List Spec):cA aF Ab [] Tryz.f117 [.c (.int (q))] [] [.c (.fz (.nm .spec) (r0))]=((fun (q7:Int)=>(fun (q6:Int)=>(fun (q5:Int)=>(fun (q4:Int)=>(fun (q3:Int)=>(fun (q2:Int)=>(fun (q1:Int)=>(fun (q0:Int)=>I64 q->I64 q0->I64 q1->I64 q0->I64 q0->I64 q1->I64 q0->I64 q2->I64 q1->I64 q0->I64 q3->I64 q1->I64 q0->I64 q4->I64 q1->I64 q0->I64 q5->I64 q1->I64 q0->I64 q6->I64 q1->I64 q0->I64 q7->I64 q2->I64 q0->I64 (8:Int)->I64 q2->I64 q3->I64 q0->I64 q1->I64 q0->I64 q0->I64 q1->I64 q0->I64 q2->I64 q1->I64 q0->I64 q2->I64 q1->I64 q0->I64 q3->I64 q2->I64 q0->I64 q3->I64 q2->I64 q0->I64 q4->I64 q1->I64 q2->I64 q5->I64 q2->I64 q3->I64 q0->I64 q1->I64 q0->I64 q0->I64 q1->I64 q0->I64 q2->I64 q1->I64 q0->I64 q2->I64 q1->I64 q0->I64 q0->I64 q1->I64 q0->I64 q0->I64 q1->I64 q0->I64 q2->I64 q1->I64 q0->I64 q3->I64 q1->I64 q0->I64 q4->I64 q1->I64 q0->I64 q0->I64 q1->I64 q0->I64 q0->I64 q1->I64 q0->I64 q2->I64 q1->I64 q0->I64 q2->I64 q1->I64 q0->I64 q3->I64 q1->I64 q0->I64 q4->I64 q2->I64 q0->I64 q4->I64 q2->I64 q0->I64 q5->I64 q2->I64 q0->I64 q5->I64 q2->I64 q0->I64 q6->I64 q2->I64 q0->I64 q6->I64 q2->I64 q0->I64 q7->I64 q1->I64 q3->I64 q0->I64 q1->I64 q0->I64 q0->I64 q1->I64 q0->I64 q2->I64 q1->I64 q0->I64 q2->I64 q1->I64 q0->I64 q3->I64 q1->I64 q0->I64 q3->I64 q1->I64 q0->I64 q4->I64 q1->I64 q0->I64 q4->I64 q1->I64 q0->I64 q5->I64 q1->I64 q0->I64 q6->I64 q1->I64 q0->I64 q7->I64 q1->I64 q0->I64 (8:Int)->I64 q1->I64 q0->I64 (9:Int)->I64 q1->I64 q0->I64 (10:Int)->I64 q2->I64 q0->I64 (10:Int)->I64 q2->I64 q0->I64 q0->I64 q1->I64 q0->I64 q0->I64 q1->I64 q0->I64 q2->I64 q2->I64 q0->((fun (j:Int)=>if j=q7 then some [Spec.mk q0 q1 q0 true false,Spec.mk q2 q2 q0 false false] else (fun (j:Int)=>if j=q6 then some [Spec.mk q0 q1 q0 true false,Spec.mk q2 q1 q0 true false,Spec.mk q3 q1 q0 true false,Spec.mk q4 q1 q0 true false,Spec.mk q5 q1 q0 false false,Spec.mk q6 q1 q0 false false,Spec.mk q7 q1 q0 false false,Spec.mk (8:Int) q1 q0 false false,Spec.mk (9:Int) q1 q0 false false,Spec.mk (10:Int) q2 q0 false true] else (fun (j:Int)=>if j=q5 then some [Spec.mk q0 q1 q0 true false,Spec.mk q2 q1 q0 true false,Spec.mk q3 q1 q0 false false,Spec.mk q4 q2 q0 false true,Spec.mk q5 q2 q0 false true,Spec.mk q6 q2 q0 false true,Spec.mk q7 q1 q3 false false] else (fun (j:Int)=>if j=q4 then some [Spec.mk q0 q1 q0 true false,Spec.mk q2 q1 q0 false false,Spec.mk q3 q1 q0 false false,Spec.mk q4 q1 q0 false false] else (fun (j:Int)=>if j=q3 then some [Spec.mk q0 q1 q0 true false,Spec.mk q2 q1 q0 true false] else (fun (j:Int)=>if j=q2 then some [Spec.mk q0 q1 q0 true false,Spec.mk q2 q1 q0 true false,Spec.mk q3 q2 q0 true false,Spec.mk q4 q1 q2 false false,Spec.mk q5 q2 q3 false false] else (fun (j:Int)=>if j=q0 then some [Spec.mk q0 q1 q0 true false,Spec.mk q2 q1 q0 false false,Spec.mk q3 q1 q0 false false,Spec.mk q4 q1 q0 false false,Spec.mk q5 q1 q0 false false,Spec.mk q6 q1 q0 false false,Spec.mk q7 q2 q0 false false,Spec.mk (8:Int) q2 q3 false false] else (fun (_:Int)=>none) j) j) j) j) j) j) j) q).getD (dflt (Sh.nm NT.spec).lst)=r0) (1:Int)) (0:Int)) (2:Int)) (3:Int)) (4:Int)) (5:Int)) (6:Int)) (7:Int)):=by kernel_rfl
theorem MP (q:Int) (h0:q=1):Sat Tryz.prog (ao aF) 117 [.c (.int (q))] [] ⟨[q=1],[.c (.fz (.nm .spec) ((aO)))],none,false⟩:=by
 refine aM kL [] Tryz.func117 (by decide) (by kernel_rfl) ?_
 rw [MV]
 subst h0; (repeat' (first | with_reducible refine And.intro ?_ ?_ | with_reducible refine and_imp.2 ?_ | intro))
 all_goals (first | (first | with_reducible rfl | with_reducible assumption | omega | (refine ag ?_ ?_ <;> omega)) | exact rfl)
theorem Mg (b:List UInt8) (r0:List Int) (r1:Int):cA aF Ab (KR b) Tryz.f97 [.c (.fz .u8 (b))] [] [.c (.fz .int (r0)),.c (.int (r1))]=(b.length*(1:Nat)<=(140737488355328:Nat)->∃ (s0:Nat),(b=b/\(0:Int)=(↑s0:Int)/\cj (List.take s0 b)=[])/\s0<=b.length/\∀ (s:Nat),(fun (q1:List Int)=>(fun (q0:Nat × Nat × Int)=>s<=b.length->((↑s:Int)<(↑b.length:Int)->(0:Int)<=(↑s:Int)/\(↑s:Int)<=(↑b.length:Int)/\(q0.fst<(18446744073709551616:Nat)->I64 (↑q0.snd.fst:Int)->I64 q0.snd.snd->(¬q0.snd.snd=(0:Int)\/(↑(64:Nat):Int)<(↑q0.fst:Int)->r0=[]/\(6:Int)=r1)/\(q0.snd.snd=(0:Int)/\(↑q0.fst:Int)<=(↑(64:Nat):Int)->(q1.length+[fZ q0.fst].length)*(8:Nat)<=(140737488355328:Nat)/\I64 ((↑s:Int)+(↑q0.snd.fst:Int))/\∃ (s':Nat),(b=b/\(↑s:Int)+(↑q0.snd.fst:Int)=(↑s':Int)/\q1++[fZ q0.fst]=cj (List.take s' b))/\s' <= b.length/\b.length - s' < b.length - s)))/\((↑b.length:Int)<=(↑s:Int)->(rowF q1=false->r0=[]/\(6:Int)=r1)/\(rowF q1=true->q1=r0/\(0:Int)=r1))) (az (List.drop s b))) (cj (List.take s b))):=by kernel_rfl
theorem LC (b:List UInt8) (h0:b.length<=100000):Sat Tryz.prog (ao aF) 97 [.c (.fz .u8 (b))] [] ⟨[b.length<=100000],[.c (.fz .int ((hU b))),.c (.int ((k_ b)))],none,false⟩:=by
 refine aM kL (KR b) Tryz.func97 (by decide) (by kernel_rfl) ?_
 rw [Mg]
 (repeat' (first | with_reducible refine And.intro ?_ ?_ | with_reducible refine and_imp.2 ?_ | intro))
 all_goals try (first | (first | with_reducible rfl | with_reducible assumption | omega | (refine ag ?_ ?_ <;> omega)) | exact rfl | exact (eS (Jp (by with_reducible assumption) (by assumption))) | exact (mB (Jp (by with_reducible assumption) (by assumption))) | exact (eS (Jp (by with_reducible assumption) (by assumption))).symm | exact (eS (gO (k:=‹Nat›) (by omega) (by with_reducible assumption))).symm | exact (eS (gO (k:=‹Nat›) (by omega) (by with_reducible assumption))) | exact (mB (gO (k:=‹Nat›) (by omega) (by with_reducible assumption))) | exact (sm (by omega) (by with_reducible assumption)) | exact (qV (k:=‹Nat›) (by omega) (by with_reducible assumption)) | exact (Hb (by with_reducible assumption) (by with_reducible assumption) (by with_reducible assumption)).1 | exact (Hb (by with_reducible assumption) (by with_reducible assumption) (by with_reducible assumption)).2 | exact (xb (by omega) (by omega)) | (have:=(Hb (by with_reducible assumption) (by with_reducible assumption) (by with_reducible assumption)).1; refine ag ?_ ?_ <;> omega))
 all_goals try (refine ⟨0,?_⟩; (repeat' (first | with_reducible refine And.intro ?_ ?_ | with_reducible refine and_imp.2 ?_ | intro)))
 all_goals try (first | (first | with_reducible rfl | with_reducible assumption | omega | (refine ag ?_ ?_ <;> omega)) | exact rfl | exact (eS (Jp (by with_reducible assumption) (by assumption))) | exact (mB (Jp (by with_reducible assumption) (by assumption))) | exact (eS (Jp (by with_reducible assumption) (by assumption))).symm | exact (eS (gO (k:=‹Nat›) (by omega) (by with_reducible assumption))).symm | exact (eS (gO (k:=‹Nat›) (by omega) (by with_reducible assumption))) | exact (mB (gO (k:=‹Nat›) (by omega) (by with_reducible assumption))) | exact (sm (by omega) (by with_reducible assumption)) | exact (qV (k:=‹Nat›) (by omega) (by with_reducible assumption)) | exact (Hb (by with_reducible assumption) (by with_reducible assumption) (by with_reducible assumption)).1 | exact (Hb (by with_reducible assumption) (by with_reducible assumption) (by with_reducible assumption)).2 | exact (xb (by omega) (by omega)) | (have:=(Hb (by with_reducible assumption) (by with_reducible assumption) (by with_reducible assumption)).1; refine ag ?_ ?_ <;> omega))
 all_goals try (refine ⟨‹Nat› + 1,?_⟩; (repeat' (first | with_reducible refine And.intro ?_ ?_ | with_reducible refine and_imp.2 ?_ | intro)))
 all_goals (first | (first | with_reducible rfl | with_reducible assumption | omega | (refine ag ?_ ?_ <;> omega)) | exact rfl | exact (eS (Jp (by with_reducible assumption) (by assumption))) | exact (mB (Jp (by with_reducible assumption) (by assumption))) | exact (eS (Jp (by with_reducible assumption) (by assumption))).symm | exact (eS (gO (k:=‹Nat›) (by omega) (by with_reducible assumption))).symm | exact (eS (gO (k:=‹Nat›) (by omega) (by with_reducible assumption))) | exact (mB (gO (k:=‹Nat›) (by omega) (by with_reducible assumption))) | exact (sm (by omega) (by with_reducible assumption)) | exact (qV (k:=‹Nat›) (by omega) (by with_reducible assumption)) | exact (Hb (by with_reducible assumption) (by with_reducible assumption) (by with_reducible assumption)).1 | exact (Hb (by with_reducible assumption) (by with_reducible assumption) (by with_reducible assumption)).2 | exact (xb (by omega) (by omega)) | (have:=(Hb (by with_reducible assumption) (by with_reducible assumption) (by with_reducible assumption)).1; refine ag ?_ ?_ <;> omega))
def uL:cH:=(bB 97 (bw (ai (kC (cL .u8)) aH) aJ fun (b,_) (_)=>⟨[b.length<=100000],[.c (.fz .int ((hU b))),.c (.int ((k_ b)))],none,false⟩) (bB 117 (bw (ai (kC cI) aH) aJ fun (q,_) (_)=>⟨[q=1],[.c (.fz (.nm .spec) ((aO)))],none,false⟩) (bB 83 (bw (ai (kT (.nm .field)) aH) aJ fun (f,_) (_)=>⟨[f.b.length<=16384],[.c (.own 0)],some ([.row 5 .u8 ((bc f))]),true⟩) (bB 124 (bw (ai (kC (cL .u8)) aH) aJ fun (b,_) (_)=>⟨[],[.c (.int (((aW b).num))),.c (.int (((aW b).wire))),.c (.int ((((aW b).k:Nat)))),.c (.int (((aW b).e)))],none,false⟩) Ab))))
theorem gY:aS Tryz.prog (ao aF) uL:=(aq (au (ab (al bp) aj) ak fun (b,_) (_) hp=>LC b (dx hp)) (aq (au (ab (al av) aj) ak fun (q,_) (_) hp=>MP q (dx hp)) (aq (au (ab br aj) ak fun (f,_) (_) hp=>LH f (dx hp)) (aq (au (ab (al bp) aj) ak fun (b,_) (_) _=>Mo b ) kL))))
end Go.Proofs.YtladifkbefehdaaGreat
namespace Go.Proofs.YtladifkbefehdaaGreat
open Go.RowKit
theorem pU {l:List Field} {k:Nat} (hk:k<=l.length) (h0:0<(k:Int)):l[k - 1]? = some (l.getD ((k:Int) - 1).toNat (dflt (.nm .field))):=by
 rw [show ((k:Int) - 1).toNat=k - 1 by omega,List.getD_eq_getElem?_getD,List.getElem?_eq_getElem (by omega)]; rfl
theorem eC {l:List Field} {k:Nat} {x:Field} (h:(k:Int)<=0\/dC (l.getD ((k:Int) - 1).toNat (dflt (.nm .field))) x=true) (hk:k<=l.length):rY l k x:=by
 by_cases h0:0<(k:Int)
 ·exact .inr ⟨_,pU hk h0,h.resolve_left (by omega)⟩
 ·exact .inl (by omega)
theorem Cd {v:Int} {k:Nat}:(((aO.take k).filter (fun s=>decide (s.since<=v))).length+1)*32<=140737488355328:=by
 have:=vp (v:=v) (k:=k); omega
theorem xJ {v:Int} {k:Nat} (h1:1<=v) (h3:v<=3) (hk:8<=(k:Int)):(aO.take k).filter (fun s=>decide (s.since<=v))=aR v:=DN (by omega) (by show 8<=k; omega)
theorem LJ {l:List Field} {v:Int}:cS (l.take 0) v=[]:=rfl
theorem Lg {l:List Field} {v:Int}:dg (l.take 0) v=[]:=rfl
theorem MN {l:List Field} {v:Int} {k:Nat} {x:Field} (hx:l[k]? = some x) (h:x.num<=v):cS (l.take k) v++[x]=cS (l.take (k+1)) v:=HC hx h
theorem Nn {l:List Field} {v:Int} {k:Nat} {x:Field} (hx:l[k]? = some x) (h:¬ x.num<=v):cS (l.take k) v=cS (l.take (k+1)) v:=Nc hx h
theorem ME {l:List Field} {v:Int} {k:Nat} {x:Field} (hx:l[k]? = some x) (h:¬ x.num<=v):dg (l.take k) v++[x]=dg (l.take (k+1)) v:=JS hx h
theorem LU {l:List Field} {v:Int} {k:Nat} {x:Field} (hx:l[k]? = some x) (h:x.num<=v):dg (l.take k) v=dg (l.take (k+1)) v:=My hx h
theorem Lx {l:List Field} {v:Int} {k:Nat} (hk:l.length<=k):cS (l.take k) v=cS l v:=zR hk
theorem Mk {l:List Field} {v:Int} {k:Nat} (hk:l.length<=k):dg (l.take k) v=dg l v:=Gt hk
attribute [local irreducible] cS dg
def Ca (l:List Field):List (Nat × LI):=[(3,{ σ:=Nat,F:=fun k=>([(0,one (.fz (.nm .field) (l))),(3,one (.int (dM (l.take k):Nat))),(6,one (.fz (.nm .field) (l))),(7,one (.int (l).length)),(8,one (.int k))],[]),J:=fun k=>k<=l.length/\cz none l=cz (dp l k) (l.drop k)/\dM (l.take k)<=k*16404,μ:=fun k=>(l).length - k })]
def BS (q:Int) (v:Int):List (Nat × LI):=[(5,{ σ:=Nat,F:=fun k=>([(1,one (.int (v))),(5,one (.own 0)),(15,one (.fz (.nm .spec) aO)),(16,one (.int 8)),(17,one (.int k))],[.row 128 (.nm .spec) (((aO.take k).filter (fun (s:Spec)=>decide (s.since<=v))))]),J:=fun k=>k<=8,μ:=fun k=>8 - k })]
def yO (l:List Field) (v:Int):List (Nat × LI):=[(2,{ σ:=Nat,F:=fun k=>([(1,one (.int (v))),(4,one (.own 0)),(5,one (.own 1)),(8,one (.fz (.nm .field) (l))),(9,one (.int (l).length)),(10,one (.int k))],[.row 90 (.nm .field) ((cS (l.take k) v)),.row 90 (.nm .field) ((dg (l.take k) v))]),J:=fun k=>k<=l.length,μ:=fun k=>(l).length - k })]
def CV (l:List Field):List (Nat × LI):=[(3,{ σ:=Nat,F:=fun k=>([(2,one (.ptr 0 0)),(3,one (.ptr 1 0)),(6,one (.fz (.nm .field) (l))),(7,one (.int (l).length)),(8,one (.int k))],[.box 24 (cellsOf (.nm .command) ((cu))),.box 24 (cellsOf (.nm .command) (((cd (l.take k)))))]),J:=fun k=>k<=l.length,μ:=fun k=>(l).length - k })]
theorem GZ (b:List UInt8) (s:Int) (r0:U64) (r1:Int) (r2:List UInt8) (r3:Int):nh aF uL [] Tryz.f125 [.c (.ptr 0 0),.c (.ptr 1 0)] [.box 28 ([.fz .u8 (b)]),.box 3 ([.int (s)])] [.c (.u64 (r0).n),.c (.int (r1))] [.box 28 ([.fz .u8 (r2)]),.box 3 ([.int (r3)])]=((fun (q0:Nat × Nat × Int)=>(0:Int)<=s/\s<=(↑b.length:Int)/\(q0.fst<(18446744073709551616:Nat)->I64 (↑q0.snd.fst:Int)->I64 q0.snd.snd->I64 (s+(↑q0.snd.fst:Int))/\q0.fst=r0.n/\q0.snd.snd=r1/\b=r2/\s+(↑q0.snd.fst:Int)=r3)) (az (List.drop s.toNat b))):=by kernel_rfl
theorem JC (b:List UInt8) (s:Int) (h0:0<=s) (h1:s<=(b.length:Int)) (h2:b.length*1<=140737488355328):Sat Tryz.prog (ao aF) 125 [.c (.ptr 0 0),.c (.ptr 1 0)] [.box 28 ([.fz .u8 (b)]),.box 3 ([.int (s)])] ⟨[0<=s,s<=(b.length:Int),b.length*1<=140737488355328],[.c (.u64 ((U64.mk (az (b.drop s.toNat)).1)).n),.c (.int (((az (b.drop s.toNat)).2.2)))],some ([.box 28 ([.fz .u8 ((b))]),.box 3 ([.int ((s+((az (b.drop s.toNat)).2.1:Nat)))])]),false⟩:=by
 refine dy gY [] Tryz.func125 (by decide) (by kernel_rfl) ?_
 rw [GZ]
 (repeat' (first | with_reducible refine And.intro ?_ ?_ | with_reducible refine and_imp.2 ?_ | intro))
 all_goals (first | (first | with_reducible rfl | with_reducible assumption | omega | (refine ag ?_ ?_ <;> omega)) | (have:=(kK b s.toNat).1; refine ag ?_ ?_ <;> omega))
theorem Gr (b:List UInt8) (r0:Field):cA aF uL [] Tryz.f94 [.c (.fz .u8 (b))] [] [.agg (cellsOf (.nm .field) r0)]=((fun (q1:TagR)=>(fun (q0:Int)=>b.length*(1:Nat)<=(140737488355328:Nat)->I64 q1.num->I64 q1.wire->I64 (↑q1.k:Int)->I64 q1.e->(0:Int)<=(↑q1.k:Int)/\(↑q1.k:Int)<=(↑b.length:Int)/\((az (List.drop q1.k b)).fst<(18446744073709551616:Nat)->I64 (↑(az (List.drop q1.k b)).snd.fst:Int)->I64 (az (List.drop q1.k b)).snd.snd->(q1.wire=(0:Int)->q1.num=r0.num/\q1.wire=r0.wire/\(az (List.drop q1.k b)).fst=r0.n.n/\r0.b=[])/\(¬q1.wire=(0:Int)->I64 q0/\(0:Int)<=q0/\q0<=(↑b.length:Int)/\(List.drop q0.toNat b).length*(1:Nat)<=(140737488355328:Nat)/\q1.num=r0.num/\q1.wire=r0.wire/\(0:Nat)=r0.n.n/\List.drop q0.toNat b=r0.b))) ((↑q1.k:Int)+(↑(az (List.drop q1.k b)).snd.fst:Int))) (aW b)):=by kernel_rfl
theorem Bw (b:List UInt8):Sat Tryz.prog (ao aF) 94 [.c (.fz .u8 (b))] [] ⟨[],[.agg (cellsOf (.nm .field) (iA b))],none,false⟩:=by
 refine aM gY [] Tryz.func94 (by decide) (by kernel_rfl) ?_
 rw [Gr]
 (repeat' (first | with_reducible refine And.intro ?_ ?_ | with_reducible refine and_imp.2 ?_ | intro))
 all_goals (first | (first | with_reducible rfl | with_reducible assumption | omega | (refine ag ?_ ?_ <;> omega)) | exact (congrArg Field.num (uH (by with_reducible assumption))) | exact (congrArg Field.wire (uH (by with_reducible assumption))) | exact (congrArg (fun f=>f.n.n) (uH (by with_reducible assumption))) | exact (congrArg Field.b (uH (by with_reducible assumption))).symm | exact (congrArg Field.num (ug (by with_reducible assumption))) | exact (congrArg Field.wire (ug (by with_reducible assumption))) | exact (congrArg (fun f=>f.n.n) (ug (by with_reducible assumption))) | exact (congrArg Field.b (ug (by with_reducible assumption))) | (have h1:=nJ b; have h2:=kK b (aW b).k; first | omega | (refine ag ?_ ?_ <;> omega) | (rw [List.length_drop]; omega)))
theorem Hv (l:List Field) (r0:Int):cA aF uL (Ca l) Tryz.f82 [.c (.fz (.nm .field) (l))] [] [.c (.int (r0))]=((fun (q3:den (Sh.nm NT.field))=>(fun (q2:Nat)=>(fun (q1:Int)=>(fun (q0:Int)=>l.length*(48:Nat)<=(140737488355328:Nat)->∃ (s0:Nat),(l=l/\q1=(↑(dM (List.take s0 l)):Int)/\l=l/\(↑l.length:Int)=(↑q2:Int)/\q1=(↑s0:Int))/\(s0<=q2/\cz none l=cz (dp l s0) (List.drop s0 l)/\dM (List.take s0 l)<=s0*(16404:Nat))/\∀ (s:Nat),(fun (q6:Int)=>(fun (q5:Int)=>(fun (q4:den (Sh.nm NT.field))=>s<=q2/\cz none l=cz (dp l s) (List.drop s l)/\dM (List.take s l)<=s*(16404:Nat)->(q5<(↑q2:Int)->q1<=q5/\q5<(↑l.length:Int)/\∀ (x:Field),l[s]? = some x->I64 x.num->I64 x.wire->x.n.n<(18446744073709551616:Nat)->x.b.length*(1:Nat)<=(140737488355328:Nat)->(cf x=false->q0=r0)/\(cf x=true->(q1<q5->I64 (q5 - q0))/\(q1<q5->q1<=q5 - q0/\q5 - q0<(↑l.length:Int))/\((q1<q5->I64 q4.num/\I64 q4.wire/\q4.n.n<(18446744073709551616:Nat)/\q4.b.length*(1:Nat)<=(140737488355328:Nat))->(q1<q5/\dC q4 x=false->(5:Int)=r0)/\(q5<=q1\/dC q4 x=true->((16384:Int)<(↑x.b.length:Int)->(4:Int)=r0)/\((↑x.b.length:Int)<=(16384:Int)->x.b.length<=(16384:Nat)/\I64 (q6+(↑(bc x).length:Int))/\I64 (q5+q0)/\∃ (s':Nat),(l=l/\q6+(↑(bc x).length:Int)=(↑(dM (List.take s' l)):Int)/\l=l/\(↑q2:Int)=(↑q2:Int)/\q5+q0=(↑s':Int))/\(s' <= q2/\cz none l=cz (dp l s') (List.drop s' l)/\dM (List.take s' l)<=s' * (16404:Nat))/\q2 - s' < q2 - s)))))/\((↑q2:Int)<=q5->((16384:Int)<q6->(4:Int)=r0)/\(q6<=(16384:Int)->q1=r0))) (l.getD (q5 - q0).toNat q3)) (↑s:Int)) (↑(dM (List.take s l)):Int)) (1:Int)) (0:Int)) l.length) (dflt (Sh.nm NT.field))):=by kernel_rfl
theorem IW (l:List Field):Sat Tryz.prog (ao aF) 82 [.c (.fz (.nm .field) (l))] [] ⟨[],[.c (.int ((bG l)))],none,false⟩:=by
 refine aM gY (Ca l) Tryz.func82 (by decide) (by kernel_rfl) ?_
 rw [Hv]
 (repeat' (first | with_reducible refine And.intro ?_ ?_ | with_reducible refine and_imp.2 ?_ | intro))
 all_goals try (first | (first | with_reducible rfl | with_reducible assumption | omega | (refine ag ?_ ?_ <;> omega)) | exact rfl | exact (Nat.le_refl 0) | exact (gT (by with_reducible assumption) (by with_reducible assumption) (by with_reducible assumption)) | exact (gJ (by with_reducible assumption) (by with_reducible assumption) (by with_reducible assumption) (by omega) (pU (by omega) (by with_reducible assumption)) (by with_reducible assumption)) | exact (gX (by with_reducible assumption) (by with_reducible assumption) (by with_reducible assumption) (eC (by assumption) (by omega)) (by with_reducible assumption)) | exact (ez (by with_reducible assumption) (by with_reducible assumption) (by with_reducible assumption) (eC (by assumption) (by omega)) (by omega)) | exact (py (by with_reducible assumption) (by omega) (by with_reducible assumption)) | exact (oT (by with_reducible assumption) (by omega) (by omega)) | (have h1:=bO (f:=‹Field›) (by omega) (by with_reducible assumption); have h2:=ew (show l[_]? = some ‹Field› by with_reducible assumption); first | omega | (refine ag ?_ ?_ <;> omega)))
 all_goals try (refine ⟨0,?_⟩; (repeat' (first | with_reducible refine And.intro ?_ ?_ | with_reducible refine and_imp.2 ?_ | intro)))
 all_goals try (first | (first | with_reducible rfl | with_reducible assumption | omega | (refine ag ?_ ?_ <;> omega)) | exact rfl | exact (Nat.le_refl 0) | exact (gT (by with_reducible assumption) (by with_reducible assumption) (by with_reducible assumption)) | exact (gJ (by with_reducible assumption) (by with_reducible assumption) (by with_reducible assumption) (by omega) (pU (by omega) (by with_reducible assumption)) (by with_reducible assumption)) | exact (gX (by with_reducible assumption) (by with_reducible assumption) (by with_reducible assumption) (eC (by assumption) (by omega)) (by with_reducible assumption)) | exact (ez (by with_reducible assumption) (by with_reducible assumption) (by with_reducible assumption) (eC (by assumption) (by omega)) (by omega)) | exact (py (by with_reducible assumption) (by omega) (by with_reducible assumption)) | exact (oT (by with_reducible assumption) (by omega) (by omega)) | (have h1:=bO (f:=‹Field›) (by omega) (by with_reducible assumption); have h2:=ew (show l[_]? = some ‹Field› by with_reducible assumption); first | omega | (refine ag ?_ ?_ <;> omega)))
 all_goals try (refine ⟨‹Nat› + 1,?_⟩; (repeat' (first | with_reducible refine And.intro ?_ ?_ | with_reducible refine and_imp.2 ?_ | intro)))
 all_goals (first | (first | with_reducible rfl | with_reducible assumption | omega | (refine ag ?_ ?_ <;> omega)) | exact rfl | exact (Nat.le_refl 0) | exact (gT (by with_reducible assumption) (by with_reducible assumption) (by with_reducible assumption)) | exact (gJ (by with_reducible assumption) (by with_reducible assumption) (by with_reducible assumption) (by omega) (pU (by omega) (by with_reducible assumption)) (by with_reducible assumption)) | exact (gX (by with_reducible assumption) (by with_reducible assumption) (by with_reducible assumption) (eC (by assumption) (by omega)) (by with_reducible assumption)) | exact (ez (by with_reducible assumption) (by with_reducible assumption) (by with_reducible assumption) (eC (by assumption) (by omega)) (by omega)) | exact (py (by with_reducible assumption) (by omega) (by with_reducible assumption)) | exact (oT (by with_reducible assumption) (by omega) (by omega)) | (have h1:=bO (f:=‹Field›) (by omega) (by with_reducible assumption); have h2:=ew (show l[_]? = some ‹Field› by with_reducible assumption); first | omega | (refine ag ?_ ?_ <;> omega)))
theorem Hx (q:Int) (v:Int) (r0:List Spec):cA aF uL (BS q v) Tryz.f81 [.c (.int (q)),.c (.int (v))] [] [.c (.fz (.nm .spec) (r0))]=((fun (q2:Int)=>(fun (q1:Int)=>(fun (q0:Nat)=>I64 q->I64 v->(v<q1\/(3:Int)<v->r0=[])/\(q1<=v/\v<=(3:Int)->q=q1/\(aO.length*(32:Nat)<=(140737488355328:Nat)->∃ (s0:Nat),(v=v/\aO=aO/\(↑aO.length:Int)=q2/\(0:Int)=(↑s0:Int)/\List.filter (fun (s:Spec)=>decide (s.since<=v)) (List.take s0 aO)=[])/\s0<=q0/\∀ (s:Nat),(fun (q4:Int)=>(fun (q3:List (den (Sh.nm NT.spec)))=>s<=q0->((↑s:Int)<q2->(0:Int)<=(↑s:Int)/\(↑s:Int)<(↑aO.length:Int)/\∀ (x:Spec),aO[s]? = some x->I64 x.num->I64 x.wire->I64 x.since->(x.since<=v->(q3.length+[x].length)*(32:Nat)<=(140737488355328:Nat)/\I64 q4/\∃ (s':Nat),(v=v/\aO=aO/\q2=q2/\q4=(↑s':Int)/\q3++[x]=List.filter (fun (s:Spec)=>decide (s.since<=v)) (List.take s' aO))/\s' <= q0/\q0 - s' < q0 - s)/\(v<x.since->I64 q4/\∃ (s':Nat),(v=v/\aO=aO/\q2=q2/\q4=(↑s':Int)/\q3=List.filter (fun (s:Spec)=>decide (s.since<=v)) (List.take s' aO))/\s' <= q0/\q0 - s' < q0 - s))/\(q2<=(↑s:Int)->q3=r0)) (List.filter (fun (s:Spec)=>decide (s.since<=v)) (List.take s aO))) ((↑s:Int)+q1)))) (8:Nat)) (1:Int)) (8:Int)):=by kernel_rfl
theorem GO (q:Int) (v:Int) (h0:q=1):Sat Tryz.prog (ao aF) 81 [.c (.int (q)),.c (.int (v))] [] ⟨[q=1],[.c (.fz (.nm .spec) ((aR v)))],none,false⟩:=by
 refine aM gY (BS q v) Tryz.func81 (by decide) (by kernel_rfl) ?_
 rw [Hx]
 (repeat' (first | with_reducible refine And.intro ?_ ?_ | with_reducible refine and_imp.2 ?_ | intro))
 all_goals try (first | (first | with_reducible rfl | with_reducible assumption | omega | (refine ag ?_ ?_ <;> omega)) | exact rfl | exact (l_ (by with_reducible assumption)).symm | exact (kO (by with_reducible assumption) (by with_reducible assumption)) | exact (nC (by with_reducible assumption) (by omega)) | exact Cd | exact (xJ (by omega) (by omega) (by omega)) | (have hl:aO.length=8:=rfl; omega))
 all_goals try (refine ⟨0,?_⟩; (repeat' (first | with_reducible refine And.intro ?_ ?_ | with_reducible refine and_imp.2 ?_ | intro)))
 all_goals try (first | (first | with_reducible rfl | with_reducible assumption | omega | (refine ag ?_ ?_ <;> omega)) | exact rfl | exact (l_ (by with_reducible assumption)).symm | exact (kO (by with_reducible assumption) (by with_reducible assumption)) | exact (nC (by with_reducible assumption) (by omega)) | exact Cd | exact (xJ (by omega) (by omega) (by omega)) | (have hl:aO.length=8:=rfl; omega))
 all_goals try (refine ⟨‹Nat› + 1,?_⟩; (repeat' (first | with_reducible refine And.intro ?_ ?_ | with_reducible refine and_imp.2 ?_ | intro)))
 all_goals (first | (first | with_reducible rfl | with_reducible assumption | omega | (refine ag ?_ ?_ <;> omega)) | exact rfl | exact (l_ (by with_reducible assumption)).symm | exact (kO (by with_reducible assumption) (by with_reducible assumption)) | exact (nC (by with_reducible assumption) (by omega)) | exact Cd | exact (xJ (by omega) (by omega) (by omega)) | (have hl:aO.length=8:=rfl; omega))
theorem Gs (l:List Field) (v:Int) (r0:List Field) (r1:List Field):cA aF uL (yO l v) Tryz.f53 [.c (.fz (.nm .field) (l)),.c (.int (v))] [] [.c (.fz (.nm .field) (r0)),.c (.fz (.nm .field) (r1))]=((fun (q0:Nat)=>l.length*(48:Nat)<=(140737488355328:Nat)->I64 v->∃ (s0:Nat),(fun (q1:Int)=>(v=v/\l=l/\(↑l.length:Int)=q1/\(0:Int)=(↑s0:Int)/\cS (List.take s0 l) v=[]/\dg (List.take s0 l) v=[])/\s0<=q0/\∀ (s:Nat),(fun (q3:List Field)=>(fun (q2:Int)=>s<=q0->((↑s:Int)<q1->(0:Int)<=(↑s:Int)/\(↑s:Int)<(↑l.length:Int)/\∀ (x:Field),(fun (q4:Prop)=>l[s]? = some x->I64 x.num->I64 x.wire->x.n.n<(18446744073709551616:Nat)->q4->q4->(x.num<=v->((cS q3 v).length+[x].length)*(48:Nat)<=(140737488355328:Nat)/\I64 q2/\∃ (s':Nat),(v=v/\l=l/\q1=q1/\q2=(↑s':Int)/\cS q3 v++[x]=cS (List.take s' l) v/\dg q3 v=dg (List.take s' l) v)/\s' <= q0/\q0 - s' < q0 - s)/\(v<x.num->((dg q3 v).length+[x].length)*(48:Nat)<=(140737488355328:Nat)/\I64 q2/\∃ (s':Nat),(v=v/\l=l/\q1=q1/\q2=(↑s':Int)/\cS q3 v=cS (List.take s' l) v/\dg q3 v++[x]=dg (List.take s' l) v)/\s' <= q0/\q0 - s' < q0 - s)) (x.b.length*(1:Nat)<=(140737488355328:Nat)))/\(q1<=(↑s:Int)->cS q3 v=r0/\dg q3 v=r1)) ((↑s:Int)+(1:Int))) (List.take s l)) (↑q0:Int)) l.length):=by kernel_rfl
theorem Fk (l:List Field) (v:Int):Sat Tryz.prog (ao aF) 53 [.c (.fz (.nm .field) (l)),.c (.int (v))] [] ⟨[],[.c (.fz (.nm .field) ((cS l v))),.c (.fz (.nm .field) ((dg l v)))],none,false⟩:=by
 refine aM gY (yO l v) Tryz.func53 (by decide) (by kernel_rfl) ?_
 rw [Gs]
 (repeat' (first | with_reducible refine And.intro ?_ ?_ | with_reducible refine and_imp.2 ?_ | intro))
 all_goals try (first | (first | with_reducible rfl | with_reducible assumption | omega | (refine ag ?_ ?_ <;> omega)) | exact LJ | exact Lg | exact (MN (by with_reducible assumption) (by with_reducible assumption)) | exact (Nn (by with_reducible assumption) (by omega)) | exact (ME (by with_reducible assumption) (by omega)) | exact (LU (by with_reducible assumption) (by with_reducible assumption)) | exact (Lx (by omega)) | exact (Mk (by omega)) | (have h1:=qQ (l.take ‹Nat›) v; have h2:=nt (l.take ‹Nat›) v; rw [List.length_take] at h1 h2; simp only [List.length_cons,List.length_nil]; omega))
 all_goals try (refine ⟨0,?_⟩; (repeat' (first | with_reducible refine And.intro ?_ ?_ | with_reducible refine and_imp.2 ?_ | intro)))
 all_goals try (first | (first | with_reducible rfl | with_reducible assumption | omega | (refine ag ?_ ?_ <;> omega)) | exact LJ | exact Lg | exact (MN (by with_reducible assumption) (by with_reducible assumption)) | exact (Nn (by with_reducible assumption) (by omega)) | exact (ME (by with_reducible assumption) (by omega)) | exact (LU (by with_reducible assumption) (by with_reducible assumption)) | exact (Lx (by omega)) | exact (Mk (by omega)) | (have h1:=qQ (l.take ‹Nat›) v; have h2:=nt (l.take ‹Nat›) v; rw [List.length_take] at h1 h2; simp only [List.length_cons,List.length_nil]; omega))
 all_goals try (refine ⟨‹Nat› + 1,?_⟩; (repeat' (first | with_reducible refine And.intro ?_ ?_ | with_reducible refine and_imp.2 ?_ | intro)))
 all_goals (first | (first | with_reducible rfl | with_reducible assumption | omega | (refine ag ?_ ?_ <;> omega)) | exact LJ | exact Lg | exact (MN (by with_reducible assumption) (by with_reducible assumption)) | exact (Nn (by with_reducible assumption) (by omega)) | exact (ME (by with_reducible assumption) (by omega)) | exact (LU (by with_reducible assumption) (by with_reducible assumption)) | exact (Lx (by omega)) | exact (Mk (by omega)) | (have h1:=qQ (l.take ‹Nat›) v; have h2:=nt (l.take ‹Nat›) v; rw [List.length_take] at h1 h2; simp only [List.length_cons,List.length_nil]; omega))
theorem Jb (l:List Field) (r0:Command):cA aF uL (CV l) Tryz.f54 [.c (.fz (.nm .field) (l))] [] [.agg (cellsOf (.nm .command) r0)]=((fun (q11:Prop)=>(fun (q10:Int)=>(fun (q9:Prop)=>(fun (q8:Int)=>(fun (q7:Prop)=>(fun (q6:Prop)=>(fun (q5:Prop)=>(fun (q4:Prop)=>(fun (q3:Prop)=>(fun (q2:Prop)=>(fun (q1:Prop)=>(fun (q0:Nat)=>l.length*(48:Nat)<=(140737488355328:Nat)->∃ (s0:Nat),(fun (q13:Command)=>(fun (q12:Prop)=>(q11/\(↑l.length:Int)=(↑q0:Int)/\q10=(↑s0:Int)/\q10=cu.kind/\q10=cu.client/\q10=cu.seq/\q10=cu.set/\q10=cu.id/\q10=cu.n/\cu.chunks=[]/\Str.mk []=cu.text/\q10=q13.kind/\q10=q13.client/\q10=q13.seq/\q10=q13.set/\q10=q13.id/\q10=q13.n/\q13.chunks=[]/\Str.mk []=q13.text)/\s0<=q0/\∀ (s:Nat),(fun (q16:Nat)=>(fun (q15:Int)=>(fun (q14:Command)=>s<=q0->((↑s:Int)<(↑q0:Int)->q10<=(↑s:Int)/\(↑s:Int)<(↑l.length:Int)/\∀ (x:Field),(fun (q25:Int)=>(fun (q24:Int)=>(fun (q23:Prop)=>(fun (q22:Str)=>(fun (q21:Int)=>(fun (q20:Int)=>(fun (q19:List Int)=>(fun (q18:Int)=>(fun (q17:Int)=>l[s]? = some x->I64 q17->I64 x.wire->x.n.n<(18446744073709551616:Nat)->x.b.length*(1:Nat)<=(140737488355328:Nat)->(q17=q8->q23/\∃ (s':Nat),(fun (q26:Command)=>(q11/\q12/\q15=(↑s':Int)/\q4/\q1/\q5/\q6/\q7/\q9/\q2/\q3/\q20=q26.kind/\q18=q26.client/\q24=q26.seq/\q25=q26.set/\q14.id=q26.id/\q14.n=q26.n/\q19=q26.chunks/\q22=q26.text)/\s' <= q0/\q0 - s' < q16) (cd (List.take s' l)))/\(¬q17=q8->(q17=(2:Int)->q23/\∃ (s':Nat),(fun (q27:Command)=>(q11/\q12/\q15=(↑s':Int)/\q4/\q1/\q5/\q6/\q7/\q9/\q2/\q3/\q21=q27.kind/\q20=q27.client/\q24=q27.seq/\q25=q27.set/\q14.id=q27.id/\q14.n=q27.n/\q19=q27.chunks/\q22=q27.text)/\s' <= q0/\q0 - s' < q16) (cd (List.take s' l)))/\(¬q17=(2:Int)->(q17=(3:Int)->q23/\∃ (s':Nat),(fun (q28:Command)=>(q11/\q12/\q15=(↑s':Int)/\q4/\q1/\q5/\q6/\q7/\q9/\q2/\q3/\q21=q28.kind/\q18=q28.client/\q20=q28.seq/\q25=q28.set/\q14.id=q28.id/\q14.n=q28.n/\q19=q28.chunks/\q22=q28.text)/\s' <= q0/\q0 - s' < q16) (cd (List.take s' l)))/\(¬q17=(3:Int)->(q17=(4:Int)->q23/\∃ (s':Nat),(fun (q29:Command)=>(q11/\q12/\q15=(↑s':Int)/\q4/\q1/\q5/\q6/\q7/\q9/\q2/\q3/\q21=q29.kind/\q18=q29.client/\q24=q29.seq/\q20=q29.set/\q14.id=q29.id/\q14.n=q29.n/\q19=q29.chunks/\q22=q29.text)/\s' <= q0/\q0 - s' < q16) (cd (List.take s' l)))/\(¬q17=(4:Int)->(q17=(5:Int)->q23/\∃ (s':Nat),(fun (q30:Command)=>(q11/\q12/\q15=(↑s':Int)/\q4/\q1/\q5/\q6/\q7/\q9/\q2/\q3/\q21=q30.kind/\q18=q30.client/\q24=q30.seq/\q25=q30.set/\q20=q30.id/\q14.n=q30.n/\q19=q30.chunks/\q22=q30.text)/\s' <= q0/\q0 - s' < q16) (cd (List.take s' l)))/\(¬q17=(5:Int)->(q17=(6:Int)->q23/\∃ (s':Nat),(fun (q31:Command)=>(q11/\q12/\q15=(↑s':Int)/\q4/\q1/\q5/\q6/\q7/\q9/\q2/\q3/\q21=q31.kind/\q18=q31.client/\q24=q31.seq/\q25=q31.set/\q14.id=q31.id/\q20=q31.n/\q19=q31.chunks/\q22=q31.text)/\s' <= q0/\q0 - s' < q16) (cd (List.take s' l)))/\(¬q17=(6:Int)->(q17=(7:Int)->x.b.length<=(100000:Nat)/\((hU x.b).length*(8:Nat)<=(140737488355328:Nat)->I64 (k_ x.b)->q23/\∃ (s':Nat),(fun (q32:Command)=>(q11/\q12/\q15=(↑s':Int)/\q4/\q1/\q5/\q6/\q7/\q9/\q2/\q3/\q21=q32.kind/\q18=q32.client/\q24=q32.seq/\q25=q32.set/\q14.id=q32.id/\q14.n=q32.n/\hU x.b=q32.chunks/\q22=q32.text)/\s' <= q0/\q0 - s' < q16) (cd (List.take s' l))))/\(¬q17=(7:Int)->(q17=(8:Int)->q23/\∃ (s':Nat),(fun (q33:Command)=>(q11/\q12/\q15=(↑s':Int)/\q4/\q1/\q5/\q6/\q7/\q9/\q2/\q3/\q21=q33.kind/\q18=q33.client/\q24=q33.seq/\q25=q33.set/\q14.id=q33.id/\q14.n=q33.n/\q19=q33.chunks/\Str.mk x.b=q33.text)/\s' <= q0/\q0 - s' < q16) (cd (List.take s' l)))/\(¬q17=(8:Int)->q23/\∃ (s':Nat),(fun (q34:Command)=>(q11/\q12/\q15=(↑s':Int)/\q4/\q1/\q5/\q6/\q7/\q9/\q2/\q3/\q21=q34.kind/\q18=q34.client/\q24=q34.seq/\q25=q34.set/\q14.id=q34.id/\q14.n=q34.n/\q19=q34.chunks/\q22=q34.text)/\s' <= q0/\q0 - s' < q16) (cd (List.take s' l))))))))))) x.num) q14.client) q14.chunks) (fZ x.n.n)) q14.kind) q14.text) (I64 q15)) q14.seq) q14.set)/\((↑q0:Int)<=(↑s:Int)->q14.kind=r0.kind/\q14.client=r0.client/\q14.seq=r0.seq/\q14.set=r0.set/\q14.id=r0.id/\q14.n=r0.n/\q14.chunks=r0.chunks/\q14.text=r0.text)) (cd (List.take s l))) ((↑s:Int)+q8)) (q0 - s)) ((↑q0:Int)=(↑q0:Int))) (cd (List.take s0 l))) l.length) (cu.client=cu.client)) (cu.chunks=cu.chunks)) (cu.text=cu.text)) (cu.kind=cu.kind)) (cu.seq=cu.seq)) (cu.set=cu.set)) (cu.id=cu.id)) (1:Int)) (cu.n=cu.n)) (0:Int)) (l=l)):=by kernel_rfl
theorem HT (l:List Field) (h0:∀ f ∈ l,f.b.length<=16384):Sat Tryz.prog (ao aF) 54 [.c (.fz (.nm .field) (l))] [] ⟨[∀ f ∈ l,f.b.length<=16384],[.agg (cellsOf (.nm .command) (cd l))],none,false⟩:=by
 refine aM gY (CV l) Tryz.func54 (by decide) (by kernel_rfl) ?_
 rw [Jb]
 (repeat' (first | with_reducible refine And.intro ?_ ?_ | with_reducible refine and_imp.2 ?_ | intro))
 all_goals try (first | (first | with_reducible rfl | with_reducible assumption | omega | (refine ag ?_ ?_ <;> omega)) | exact rfl | (have:=h0 _ (List.mem_of_getElem? (by with_reducible assumption)); omega) | (rw [aV (by with_reducible assumption),<- Je (by with_reducible assumption)] <;> first | rfl | exact (aZ (by with_reducible assumption)).symm) | (rw [aV (by with_reducible assumption),<- HR (by with_reducible assumption)] <;> first | rfl | exact (aZ (by with_reducible assumption)).symm) | (rw [aV (by with_reducible assumption),<- Jl (by with_reducible assumption)] <;> first | rfl | exact (aZ (by with_reducible assumption)).symm) | (rw [aV (by with_reducible assumption),<- HN (by with_reducible assumption)] <;> first | rfl | exact (aZ (by with_reducible assumption)).symm) | (rw [aV (by with_reducible assumption),<- IY (by with_reducible assumption)] <;> first | rfl | exact (aZ (by with_reducible assumption)).symm) | (rw [aV (by with_reducible assumption),<- IF (by with_reducible assumption)] <;> first | rfl | exact (aZ (by with_reducible assumption)).symm) | (rw [aV (by with_reducible assumption),<- GP (by with_reducible assumption)] <;> first | rfl | exact (aZ (by with_reducible assumption)).symm) | (rw [aV (by with_reducible assumption),<- IV (by with_reducible assumption)] <;> first | rfl | exact (aZ (by with_reducible assumption)).symm) | (rw [aV (by with_reducible assumption),<- Mz (by omega)] <;> first | rfl | exact (aZ (by with_reducible assumption)).symm) | (rw [List.take_of_length_le (by omega)]))
 all_goals try (refine ⟨0,?_⟩; (repeat' (first | with_reducible refine And.intro ?_ ?_ | with_reducible refine and_imp.2 ?_ | intro)))
 all_goals try (first | (first | with_reducible rfl | with_reducible assumption | omega | (refine ag ?_ ?_ <;> omega)) | exact rfl | (have:=h0 _ (List.mem_of_getElem? (by with_reducible assumption)); omega) | (rw [aV (by with_reducible assumption),<- Je (by with_reducible assumption)] <;> first | rfl | exact (aZ (by with_reducible assumption)).symm) | (rw [aV (by with_reducible assumption),<- HR (by with_reducible assumption)] <;> first | rfl | exact (aZ (by with_reducible assumption)).symm) | (rw [aV (by with_reducible assumption),<- Jl (by with_reducible assumption)] <;> first | rfl | exact (aZ (by with_reducible assumption)).symm) | (rw [aV (by with_reducible assumption),<- HN (by with_reducible assumption)] <;> first | rfl | exact (aZ (by with_reducible assumption)).symm) | (rw [aV (by with_reducible assumption),<- IY (by with_reducible assumption)] <;> first | rfl | exact (aZ (by with_reducible assumption)).symm) | (rw [aV (by with_reducible assumption),<- IF (by with_reducible assumption)] <;> first | rfl | exact (aZ (by with_reducible assumption)).symm) | (rw [aV (by with_reducible assumption),<- GP (by with_reducible assumption)] <;> first | rfl | exact (aZ (by with_reducible assumption)).symm) | (rw [aV (by with_reducible assumption),<- IV (by with_reducible assumption)] <;> first | rfl | exact (aZ (by with_reducible assumption)).symm) | (rw [aV (by with_reducible assumption),<- Mz (by omega)] <;> first | rfl | exact (aZ (by with_reducible assumption)).symm) | (rw [List.take_of_length_le (by omega)]))
 all_goals try (refine ⟨‹Nat› + 1,?_⟩; (repeat' (first | with_reducible refine And.intro ?_ ?_ | with_reducible refine and_imp.2 ?_ | intro)))
 all_goals (first | (first | with_reducible rfl | with_reducible assumption | omega | (refine ag ?_ ?_ <;> omega)) | exact rfl | (have:=h0 _ (List.mem_of_getElem? (by with_reducible assumption)); omega) | (rw [aV (by with_reducible assumption),<- Je (by with_reducible assumption)] <;> first | rfl | exact (aZ (by with_reducible assumption)).symm) | (rw [aV (by with_reducible assumption),<- HR (by with_reducible assumption)] <;> first | rfl | exact (aZ (by with_reducible assumption)).symm) | (rw [aV (by with_reducible assumption),<- Jl (by with_reducible assumption)] <;> first | rfl | exact (aZ (by with_reducible assumption)).symm) | (rw [aV (by with_reducible assumption),<- HN (by with_reducible assumption)] <;> first | rfl | exact (aZ (by with_reducible assumption)).symm) | (rw [aV (by with_reducible assumption),<- IY (by with_reducible assumption)] <;> first | rfl | exact (aZ (by with_reducible assumption)).symm) | (rw [aV (by with_reducible assumption),<- IF (by with_reducible assumption)] <;> first | rfl | exact (aZ (by with_reducible assumption)).symm) | (rw [aV (by with_reducible assumption),<- GP (by with_reducible assumption)] <;> first | rfl | exact (aZ (by with_reducible assumption)).symm) | (rw [aV (by with_reducible assumption),<- IV (by with_reducible assumption)] <;> first | rfl | exact (aZ (by with_reducible assumption)).symm) | (rw [aV (by with_reducible assumption),<- Mz (by omega)] <;> first | rfl | exact (aZ (by with_reducible assumption)).symm) | (rw [List.take_of_length_le (by omega)]))
def Aj:cH:=(bB 54 (bw (ai (kC (cL (.nm .field))) aH) aJ fun (l,_) (_)=>⟨[∀ f ∈ l,f.b.length<=16384],[.agg (cellsOf (.nm .command) (cd l))],none,false⟩) (bB 53 (bw (ai (kC (cL (.nm .field))) (ai (kC cI) aH)) aJ fun (l,v,_) (_)=>⟨[],[.c (.fz (.nm .field) ((cS l v))),.c (.fz (.nm .field) ((dg l v)))],none,false⟩) (bB 81 (bw (ai (kC cI) (ai (kC cI) aH)) aJ fun (q,v,_) (_)=>⟨[q=1],[.c (.fz (.nm .spec) ((aR v)))],none,false⟩) (bB 82 (bw (ai (kC (cL (.nm .field))) aH) aJ fun (l,_) (_)=>⟨[],[.c (.int ((bG l)))],none,false⟩) (bB 94 (bw (ai (kC (cL .u8)) aH) aJ fun (b,_) (_)=>⟨[],[.agg (cellsOf (.nm .field) (iA b))],none,false⟩) (bB 125 (bw (ai (kC (bX 0 0)) (ai (kC (bX 1 0)) aH)) (ay (bV 28 (aw (cL .u8) bT)) (ay (bV 3 (aw cI bT)) aJ)) fun (_,_,_) ((b,_),(s,_),_)=>⟨[0<=s,s<=(b.length:Int),b.length*1<=140737488355328],[.c (.u64 ((U64.mk (az (b.drop s.toNat)).1)).n),.c (.int (((az (b.drop s.toNat)).2.2)))],some ([.box 28 ([.fz .u8 ((b))]),.box 3 ([.int ((s+((az (b.drop s.toNat)).2.1:Nat)))])]),false⟩) uL))))))
theorem ky:aS Tryz.prog (ao aF) Aj:=(aq (au (ab (al bp) aj) ak fun (l,_) (_) hp=>HT l (dx hp)) (aq (au (ab (al bp) (ab (al av) aj)) ak fun (l,v,_) (_) _=>Fk l v ) (aq (au (ab (al av) (ab (al av) aj)) ak fun (q,v,_) (_) hp=>GO q v (dx hp)) (aq (au (ab (al bp) aj) ak fun (l,_) (_) _=>IW l ) (aq (au (ab (al bp) aj) ak fun (b,_) (_) _=>Bw b ) (aq (au (ab (al aL) (ab (al aL) aj)) (ah (aK (ae bp aI)) (ah (aK (ae av aI)) ak)) fun (_,_,_) ((b,_),(s,_),_) hp=>JC b s (dx hp) (dx (eg hp)) (dx (eg (eg hp)))) gY))))))
end Go.Proofs.YtladifkbefehdaaGreat
namespace Go.Proofs.YtladifkbefehdaaGreat
open Go.RowKit
theorem HY (k:Int) (n:Int) (r0:List Field):nh aF Aj [] Tryz.f84 [.c (.int (k)),.c (.int (n)),.c (.ptr 0 0)] [.box 67 ([.em true])] [] [.box 67 ([.own 1]),.row 90 (.nm .field) (r0)]=(I64 k->I64 n->(¬n=(0:Int)->(0:Int)<=n/\[Field.mk k (0:Int) (U64.mk n.toNat) []].length*(48:Nat)<=(140737488355328:Nat)/\[Field.mk k (0:Int) (U64.mk n.toNat) []]=r0)/\(n=(0:Int)->r0=[])):=by kernel_rfl
theorem JL (k:Int) (n:Int) (h0:0<=n):Sat Tryz.prog (ao aF) 84 [.c (.int (k)),.c (.int (n)),.c (.ptr 0 0)] [.box 67 ([.em true])] ⟨[0<=n],[],some ([.box 67 ([.own 1]),.row 90 (.nm .field) ((fL k n))]),false⟩:=by
 refine dy ky [] Tryz.func84 (by decide) (by kernel_rfl) ?_
 rw [HY]
 (repeat' (first | with_reducible refine And.intro ?_ ?_ | with_reducible refine and_imp.2 ?_ | intro))
 all_goals (first | (first | with_reducible rfl | with_reducible assumption | omega | (refine ag ?_ ?_ <;> omega)) | exact (sU (by with_reducible assumption)) | exact (vB (by with_reducible assumption)) | exact (te (by with_reducible assumption)) | exact (uY (by omega)) | exact (sU (xs:=[]) (by with_reducible assumption)) | exact (vB (xs:=[]) (by with_reducible assumption)).symm | exact (te (xs:=[]) (by with_reducible assumption)) | exact (uY (xs:=[]) (by omega)).symm | (simp only [List.length_cons,List.length_nil]; omega) | decide)
theorem HJ (k:Int) (n:Int) (xs:List Field) (r0:List Field):nh aF Aj [] Tryz.f84 [.c (.int (k)),.c (.int (n)),.c (.ptr 0 0)] [.box 67 ([.own 1]),.row 90 (.nm .field) (xs)] [] [.box 67 ([.own 1]),.row 90 (.nm .field) (r0)]=(I64 k->I64 n->(¬n=(0:Int)->(0:Int)<=n/\(xs.length+[Field.mk k (0:Int) (U64.mk n.toNat) []].length)*(48:Nat)<=(140737488355328:Nat)/\xs++[Field.mk k (0:Int) (U64.mk n.toNat) []]=r0)/\(n=(0:Int)->xs=r0)):=by kernel_rfl
theorem Ha (k:Int) (n:Int) (xs:List Field) (h0:0<=n) (h1:xs.length<=1000):Sat Tryz.prog (ao aF) 84 [.c (.int (k)),.c (.int (n)),.c (.ptr 0 0)] [.box 67 ([.own 1]),.row 90 (.nm .field) (xs)] ⟨[0<=n,xs.length<=1000],[],some ([.box 67 ([.own 1]),.row 90 (.nm .field) ((xs++fL k n))]),false⟩:=by
 refine dy ky [] Tryz.func84 (by decide) (by kernel_rfl) ?_
 rw [HJ]
 (repeat' (first | with_reducible refine And.intro ?_ ?_ | with_reducible refine and_imp.2 ?_ | intro))
 all_goals (first | (first | with_reducible rfl | with_reducible assumption | omega | (refine ag ?_ ?_ <;> omega)) | exact (sU (by with_reducible assumption)) | exact (vB (by with_reducible assumption)) | exact (te (by with_reducible assumption)) | exact (uY (by omega)) | exact (sU (xs:=[]) (by with_reducible assumption)) | exact (vB (xs:=[]) (by with_reducible assumption)).symm | exact (te (xs:=[]) (by with_reducible assumption)) | exact (uY (xs:=[]) (by omega)).symm | (simp only [List.length_cons,List.length_nil]; omega) | decide)
theorem Ij (k:Int) (b:List UInt8) (r0:List Field):nh aF Aj [] Tryz.f85 [.c (.int (k)),.c (.fz .u8 (b)),.c (.ptr 0 0)] [.box 67 ([.em true])] [] [.box 67 ([.own 1]),.row 90 (.nm .field) (r0)]=(I64 k->b.length*(1:Nat)<=(140737488355328:Nat)->((0:Int)<(↑b.length:Int)->[Field.mk k (2:Int) (U64.mk (0:Nat)) b].length*(48:Nat)<=(140737488355328:Nat)/\[Field.mk k (2:Int) (U64.mk (0:Nat)) b]=r0)/\((↑b.length:Int)<=(0:Int)->r0=[])):=by kernel_rfl
theorem Hh (k:Int) (b:List UInt8):Sat Tryz.prog (ao aF) 85 [.c (.int (k)),.c (.fz .u8 (b)),.c (.ptr 0 0)] [.box 67 ([.em true])] ⟨[],[],some ([.box 67 ([.own 1]),.row 90 (.nm .field) ((ic k b))]),false⟩:=by
 refine dy ky [] Tryz.func85 (by decide) (by kernel_rfl) ?_
 rw [Ij]
 (repeat' (first | with_reducible refine And.intro ?_ ?_ | with_reducible refine and_imp.2 ?_ | intro))
 all_goals (first | (first | with_reducible rfl | with_reducible assumption | omega | (refine ag ?_ ?_ <;> omega)) | exact (sU (by with_reducible assumption)) | exact (vB (by with_reducible assumption)) | exact (te (by with_reducible assumption)) | exact (uY (by omega)) | exact (sU (xs:=[]) (by with_reducible assumption)) | exact (vB (xs:=[]) (by with_reducible assumption)).symm | exact (te (xs:=[]) (by with_reducible assumption)) | exact (uY (xs:=[]) (by omega)).symm | (simp only [List.length_cons,List.length_nil]; omega) | decide)
theorem Jv (k:Int) (b:List UInt8) (xs:List Field) (r0:List Field):nh aF Aj [] Tryz.f85 [.c (.int (k)),.c (.fz .u8 (b)),.c (.ptr 0 0)] [.box 67 ([.own 1]),.row 90 (.nm .field) (xs)] [] [.box 67 ([.own 1]),.row 90 (.nm .field) (r0)]=(I64 k->b.length*(1:Nat)<=(140737488355328:Nat)->((0:Int)<(↑b.length:Int)->(xs.length+[Field.mk k (2:Int) (U64.mk (0:Nat)) b].length)*(48:Nat)<=(140737488355328:Nat)/\xs++[Field.mk k (2:Int) (U64.mk (0:Nat)) b]=r0)/\((↑b.length:Int)<=(0:Int)->xs=r0)):=by kernel_rfl
theorem HU (k:Int) (b:List UInt8) (xs:List Field) (h0:xs.length<=1000):Sat Tryz.prog (ao aF) 85 [.c (.int (k)),.c (.fz .u8 (b)),.c (.ptr 0 0)] [.box 67 ([.own 1]),.row 90 (.nm .field) (xs)] ⟨[xs.length<=1000],[],some ([.box 67 ([.own 1]),.row 90 (.nm .field) ((xs++ic k b))]),false⟩:=by
 refine dy ky [] Tryz.func85 (by decide) (by kernel_rfl) ?_
 rw [Jv]
 (repeat' (first | with_reducible refine And.intro ?_ ?_ | with_reducible refine and_imp.2 ?_ | intro))
 all_goals (first | (first | with_reducible rfl | with_reducible assumption | omega | (refine ag ?_ ?_ <;> omega)) | exact (sU (by with_reducible assumption)) | exact (vB (by with_reducible assumption)) | exact (te (by with_reducible assumption)) | exact (uY (by omega)) | exact (sU (xs:=[]) (by with_reducible assumption)) | exact (vB (xs:=[]) (by with_reducible assumption)).symm | exact (te (xs:=[]) (by with_reducible assumption)) | exact (uY (xs:=[]) (by omega)).symm | (simp only [List.length_cons,List.length_nil]; omega) | decide)
def Gb:cH:=(bB 85 (bw (ai (kC cI) (ai (kC (cL .u8)) (ai (kC (bX 0 0)) aH))) (ay (bV 67 (aw (bl 1) bT)) (ay (bm 90 (.nm .field)) aJ)) fun (k,b,_,_) ((_,_),xs,_)=>⟨[xs.length<=1000],[],some ([.box 67 ([.own 1]),.row 90 (.nm .field) ((xs++ic k b))]),false⟩) (bB 85 (bw (ai (kC cI) (ai (kC (cL .u8)) (ai (kC (bX 0 0)) aH))) (ay (bV 67 (aw (QZ true) bT)) aJ) fun (k,b,_,_) ((_,_),_)=>⟨[],[],some ([.box 67 ([.own 1]),.row 90 (.nm .field) ((ic k b))]),false⟩) (bB 84 (bw (ai (kC cI) (ai (kC cI) (ai (kC (bX 0 0)) aH))) (ay (bV 67 (aw (bl 1) bT)) (ay (bm 90 (.nm .field)) aJ)) fun (k,n,_,_) ((_,_),xs,_)=>⟨[0<=n,xs.length<=1000],[],some ([.box 67 ([.own 1]),.row 90 (.nm .field) ((xs++fL k n))]),false⟩) (bB 84 (bw (ai (kC cI) (ai (kC cI) (ai (kC (bX 0 0)) aH))) (ay (bV 67 (aw (QZ true) bT)) aJ) fun (k,n,_,_) ((_,_),_)=>⟨[0<=n],[],some ([.box 67 ([.own 1]),.row 90 (.nm .field) ((fL k n))]),false⟩) Aj))))
theorem vO:aS Tryz.prog (ao aF) Gb:=(aq (au (ab (al av) (ab (al bp) (ab (al aL) aj))) (ah (aK (ae aD aI)) (ah aE ak)) fun (k,b,_,_) ((_,_),xs,_) hp=>HU k b xs (dx hp)) (aq (au (ab (al av) (ab (al bp) (ab (al aL) aj))) (ah (aK (ae CW aI)) ak) fun (k,b,_,_) ((_,_),_) _=>Hh k b ) (aq (au (ab (al av) (ab (al av) (ab (al aL) aj))) (ah (aK (ae aD aI)) (ah aE ak)) fun (k,n,_,_) ((_,_),xs,_) hp=>Ha k n xs (dx hp) (dx (eg hp))) (aq (au (ab (al av) (ab (al av) (ab (al aL) aj))) (ah (aK (ae CW aI)) ak) fun (k,n,_,_) ((_,_),_) hp=>JL k n (dx hp)) ky))))
end Go.Proofs.YtladifkbefehdaaGreat
namespace Go.Proofs.YtladifkbefehdaaGreat
open Go.RowKit
theorem Av (c:Command) (v:Int) (r0:List Field):ma aF Gb [] Tryz.f44 [.agg (cellsOf (.nm .command) c),.c (.int (v))] [] [.c (.own 0)] [.row 90 (.nm .field) (r0)]=((fun (q6:Int)=>(fun (q5:List (den (Sh.nm NT.field)))=>(fun (q4:Nat)=>(fun (q3:List Field)=>(fun (q2:List Field)=>(fun (q1:List (den (Sh.nm NT.field)))=>(fun (q0:List (den (Sh.nm NT.field)))=>I64 c.kind->I64 c.client->I64 c.seq->I64 c.set->I64 c.id->I64 c.n->c.chunks.length*(8:Nat)<=(140737488355328:Nat)->c.text.b.length<=(140737488355328:Nat)->I64 v->q6<=c.kind/\q6<=c.client/\(fL (1:Int) c.kind).length<=q4/\q6<=c.seq/\q5.length<=q4/\q6<=c.set/\q1.length<=q4/\q6<=c.id/\(q1++fL (4:Int) c.set).length<=q4/\q6<=c.n/\q0.length<=q4/\((bu c.chunks).length*(1:Nat)<=(140737488355328:Nat)->I64 (dm c.chunks)->(q0++q3).length<=q4/\((3:Int)<=v->(q0++q3++q2).length<=q4/\q0++q3++q2++ic (8:Int) c.text.b=r0)/\(v<(3:Int)->q0++q3++q2=r0))) (q1++fL (4:Int) c.set++fL (5:Int) c.id)) (q5++fL (3:Int) c.seq)) (ic (7:Int) (bu c.chunks))) (fL (6:Int) c.n)) (1000:Nat)) (fL (1:Int) c.kind++fL (2:Int) c.client)) (0:Int)):=by kernel_rfl
theorem AI (c:Command) (v:Int) (h0:0<=c.kind) (h1:0<=c.client) (h2:0<=c.seq) (h3:0<=c.set) (h4:0<=c.id) (h5:0<=c.n):Sat Tryz.prog (ao aF) 44 [.agg (cellsOf (.nm .command) c),.c (.int (v))] [] ⟨[0<=c.kind,0<=c.client,0<=c.seq,0<=c.set,0<=c.id,0<=c.n],[.c (.own 0)],some ([.row 90 (.nm .field) ((aG c v))]),true⟩:=by
 refine di vO [] Tryz.func44 (by decide) (by kernel_rfl) ?_
 rw [Av]
 (repeat' (first | with_reducible refine And.intro ?_ ?_ | with_reducible refine and_imp.2 ?_ | intro))
 all_goals (first | (first | with_reducible rfl | with_reducible assumption | omega | (refine ag ?_ ?_ <;> omega)) | (rw [aG,if_pos (by omega)]; rfl) | (rw [aG,if_neg (by omega)]; rfl) | (have h1:=eI 1 c.kind; have h2:=eI 2 c.client; have h3:=eI 3 c.seq; have h4:=eI 4 c.set; have h5:=eI 5 c.id; have h6:=eI 6 c.n; have h7:=wy 7 (bu c.chunks); (try simp only [List.length_append]); omega))
def vq:cH:=(bB 44 (bw (ai (kT (.nm .command)) (ai (kC cI) aH)) aJ fun (c,v,_) (_)=>⟨[0<=c.kind,0<=c.client,0<=c.seq,0<=c.set,0<=c.id,0<=c.n],[.c (.own 0)],some ([.row 90 (.nm .field) ((aG c v))]),true⟩) Gb)
theorem kZ:aS Tryz.prog (ao aF) vq:=(aq (au (ab br (ab (al av) aj)) ak fun (c,v,_) (_) hp=>AI c v (dx hp) (dx (eg hp)) (dx (eg (eg hp))) (dx (eg (eg (eg hp)))) (dx (eg (eg (eg (eg hp))))) (dx (eg (eg (eg (eg (eg hp))))))) vO)
end Go.Proofs.YtladifkbefehdaaGreat
namespace Go.Proofs.YtladifkbefehdaaGreat
open Go.RowKit
theorem Qv {b:List UInt8} (h:(aW b).e=0) (h2:(az (b.drop (aW b).k)).2.2=0) (h3:¬ (aW b).wire=0) (h4:(az (b.drop (aW b).k)).1<=16384) (h5:((b.length:Nat):Int) - (((aW b).k:Int)+((az (b.drop (aW b).k)).2.1:Nat))<fZ (az (b.drop (aW b).k)).1):(0:Int)=((bd b).1:Nat)/\2=(bd b).2:=by
 rw [kn (by omega)] at h5
 rw [Ru h h2 h3 (by omega) (by omega)]; exact ⟨rfl,rfl⟩
theorem Qs {b:List UInt8} (h:(aW b).e=0) (h2:(az (b.drop (aW b).k)).2.2=0) (h3:¬ (aW b).wire=0) (h4:(az (b.drop (aW b).k)).1<=16384) (h5:fZ (az (b.drop (aW b).k)).1<=((b.length:Nat):Int) - (((aW b).k:Int)+((az (b.drop (aW b).k)).2.1:Nat))):((aW b).k:Int)+((az (b.drop (aW b).k)).2.1:Nat)+fZ (az (b.drop (aW b).k)).1=((bd b).1:Nat)/\0=(bd b).2:=by
 rw [kn (by omega)] at h5 ⊢
 rw [Pm h h2 h3 (by omega) (by omega)]; exact ⟨rfl,rfl⟩
def Kf (l:List Field):List (Nat × LI):=[(6,{ σ:=Nat,F:=fun k=>([(5,one (.own 0)),(13,one (.fz (.nm .field) (l))),(14,one (.int (l).length)),(15,one (.int k))],[.row 5 .u8 ((((l.take k).map bc).flatten))]),J:=fun k=>k<=l.length,μ:=fun k=>l.length - k })]
def Ko (q:Int) (v:Int):List (Nat × LI):=[(3,{ σ:=Nat,F:=fun k=>([(5,one (.int (((aR v).take k).foldl (fun t s=>max t s.num) 0))),(10,one (.fz (.nm .spec) (aR v))),(11,one (.int (aR v).length)),(12,one (.int k))],[]),J:=fun k=>k<=(aR v).length,μ:=fun k=>(aR v).length - k })]
theorem HQ (b:List UInt8) (r0:Int) (r1:Int):cA aF vq [] Tryz.f93 [.c (.fz .u8 (b))] [] [.c (.int (r0)),.c (.int (r1))]=((fun (q5:Int)=>(fun (q4:Prop)=>(fun (q3:TagR)=>(fun (q2:Int)=>(fun (q1:Int)=>(fun (q0:Nat × Nat × Int)=>q4->I64 q3.num->I64 q3.wire->I64 q1->I64 q3.e->(¬q3.e=q2->q2=r0/\q3.e=r1)/\(q3.e=q2->q2<=q1/\q1<=q5/\q4/\(q0.fst<(18446744073709551616:Nat)->I64 q0.snd.snd->(¬q0.snd.snd=q2->q2=r0/\q0.snd.snd=r1)/\(q0.snd.snd=q2->(q3.wire=q2->q1+(↑q0.snd.fst:Int)=r0/\q2=r1)/\(¬q3.wire=q2->((↑(16384:Nat):Int)<(↑q0.fst:Int)->q2=r0/\(4:Int)=r1)/\((↑q0.fst:Int)<=(↑(16384:Nat):Int)->I64 (q5 - (q1+(↑q0.snd.fst:Int)))/\(q5 - (q1+(↑q0.snd.fst:Int))<fZ q0.fst->q2=r0/\(2:Int)=r1)/\(fZ q0.fst<=q5 - (q1+(↑q0.snd.fst:Int))->I64 (q1+(↑q0.snd.fst:Int)+fZ q0.fst)/\q1+(↑q0.snd.fst:Int)+fZ q0.fst=r0/\q2=r1))))))) (az (List.drop q3.k b))) (↑q3.k:Int)) (0:Int)) (aW b)) (b.length*(1:Nat)<=(140737488355328:Nat))) (↑b.length:Int)):=by kernel_rfl
theorem Ka (b:List UInt8):Sat Tryz.prog (ao aF) 93 [.c (.fz .u8 (b))] [] ⟨[],[.c (.int ((((bd b).1:Nat)))),.c (.int (((bd b).2)))],none,false⟩:=by
 refine aM kZ [] Tryz.func93 (by decide) (by kernel_rfl) ?_
 rw [HQ]
 (repeat' (first | with_reducible refine And.intro ?_ ?_ | with_reducible refine and_imp.2 ?_ | intro))
 all_goals (first | (first | with_reducible rfl | with_reducible assumption | omega | (refine ag ?_ ?_ <;> omega)) | (rw [Sa (by with_reducible assumption)] <;> rfl) | (rw [Rn (by with_reducible assumption) (by with_reducible assumption)] <;> rfl) | (rw [Qo (by with_reducible assumption) (by with_reducible assumption) (by with_reducible assumption)] <;> rfl) | (rw [Sj (by with_reducible assumption) (by with_reducible assumption) (by with_reducible assumption) (by omega)] <;> rfl) | exact (Qv (by with_reducible assumption) (by with_reducible assumption) (by with_reducible assumption) (by omega) (by with_reducible assumption)).1 | exact (Qv (by with_reducible assumption) (by with_reducible assumption) (by with_reducible assumption) (by omega) (by with_reducible assumption)).2 | exact (Qs (by with_reducible assumption) (by with_reducible assumption) (by with_reducible assumption) (by omega) (by with_reducible assumption)).1 | exact (Qs (by with_reducible assumption) (by with_reducible assumption) (by with_reducible assumption) (by omega) (by with_reducible assumption)).2 | (have h1:=nJ b; have h2:=kK b (aW b).k; first | omega | (refine ag ?_ ?_ <;> omega)) | (have h1:=nJ b; have h2:=kK b (aW b).k; have h3:=kn (m:=(az (b.drop (aW b).k)).1) (by omega); first | omega | (refine ag ?_ ?_ <;> omega)))
theorem On (l:List Field) (r0:Int) (r1:List UInt8):ma aF vq (Kf l) Tryz.f43 [.c (.fz (.nm .field) (l))] [] [.c (.own 0),.c (.int (r0))] [.row 5 .u8 (r1)]=((fun (q0:Nat)=>l.length*(48:Nat)<=(140737488355328:Nat)->I64 (bG l)->(¬bG l=(0:Int)->bG l=r0/\r1=[])/\(bG l=(0:Int)->∃ (s0:Nat),(l=l/\(↑l.length:Int)=(↑q0:Int)/\(0:Int)=(↑s0:Int)/\(List.map bc (List.take s0 l)).flatten=[])/\s0<=q0/\∀ (s:Nat),(fun (q1:List UInt8)=>s<=q0->((↑s:Int)<(↑q0:Int)->(0:Int)<=(↑s:Int)/\(↑s:Int)<(↑l.length:Int)/\∀ (x:Field),l[s]? = some x->I64 x.num->I64 x.wire->x.n.n<(18446744073709551616:Nat)->x.b.length*(1:Nat)<=(140737488355328:Nat)->x.b.length<=(16384:Nat)/\(q1.length+(bc x).length)*(1:Nat)<=(140737488355328:Nat)/\I64 ((↑s:Int)+(1:Int))/\∃ (s':Nat),(l=l/\(↑q0:Int)=(↑q0:Int)/\(↑s:Int)+(1:Int)=(↑s':Int)/\q1++bc x=(List.map bc (List.take s' l)).flatten)/\s' <= q0/\q0 - s' < q0 - s)/\((↑q0:Int)<=(↑s:Int)->(0:Int)=r0/\q1=r1)) (List.map bc (List.take s l)).flatten)) l.length):=by kernel_rfl
theorem Ol (l:List Field):Sat Tryz.prog (ao aF) 43 [.c (.fz (.nm .field) (l))] [] ⟨[],[.c (.own 0),.c (.int ((bG l)))],some ([.row 5 .u8 ((fk l))]),true⟩:=by
 refine di kZ (Kf l) Tryz.func43 (by decide) (by kernel_rfl) ?_
 rw [On]
 (repeat' (first | with_reducible refine And.intro ?_ ?_ | with_reducible refine and_imp.2 ?_ | intro))
 all_goals try (first | (first | with_reducible rfl | with_reducible assumption | omega | (refine ag ?_ ?_ <;> omega)) | exact rfl | exact (lO (by with_reducible assumption)).symm | exact (Eq.symm (by with_reducible assumption)) | exact (ff (by with_reducible assumption)) | exact (dH (by with_reducible assumption) (List.mem_of_getElem? (by with_reducible assumption))) | exact (jb (by with_reducible assumption) (by omega)) | (have h1:=fH (k:=‹Nat›) (show bG l=0 by with_reducible assumption); have h2:=bO (f:=‹Field›) (dH (show bG l=0 by with_reducible assumption) (List.mem_of_getElem? (by with_reducible assumption))) (by with_reducible assumption); omega))
 all_goals try (refine ⟨0,?_⟩; (repeat' (first | with_reducible refine And.intro ?_ ?_ | with_reducible refine and_imp.2 ?_ | intro)))
 all_goals try (first | (first | with_reducible rfl | with_reducible assumption | omega | (refine ag ?_ ?_ <;> omega)) | exact rfl | exact (lO (by with_reducible assumption)).symm | exact (Eq.symm (by with_reducible assumption)) | exact (ff (by with_reducible assumption)) | exact (dH (by with_reducible assumption) (List.mem_of_getElem? (by with_reducible assumption))) | exact (jb (by with_reducible assumption) (by omega)) | (have h1:=fH (k:=‹Nat›) (show bG l=0 by with_reducible assumption); have h2:=bO (f:=‹Field›) (dH (show bG l=0 by with_reducible assumption) (List.mem_of_getElem? (by with_reducible assumption))) (by with_reducible assumption); omega))
 all_goals try (refine ⟨‹Nat› + 1,?_⟩; (repeat' (first | with_reducible refine And.intro ?_ ?_ | with_reducible refine and_imp.2 ?_ | intro)))
 all_goals (first | (first | with_reducible rfl | with_reducible assumption | omega | (refine ag ?_ ?_ <;> omega)) | exact rfl | exact (lO (by with_reducible assumption)).symm | exact (Eq.symm (by with_reducible assumption)) | exact (ff (by with_reducible assumption)) | exact (dH (by with_reducible assumption) (List.mem_of_getElem? (by with_reducible assumption))) | exact (jb (by with_reducible assumption) (by omega)) | (have h1:=fH (k:=‹Nat›) (show bG l=0 by with_reducible assumption); have h2:=bO (f:=‹Field›) (dH (show bG l=0 by with_reducible assumption) (List.mem_of_getElem? (by with_reducible assumption))) (by with_reducible assumption); omega))
theorem Ml (q:Int) (v:Int) (r0:Int):cA aF vq (Ko q v) Tryz.f42 [.c (.int (q)),.c (.int (v))] [] [.c (.int (r0))]=((fun (q1:Int)=>(fun (q0:List Spec)=>I64 q->I64 v->q=(1:Int)/\(q0.length*(32:Nat)<=(140737488355328:Nat)->∃ (s0:Nat),(fun (q2:Nat)=>(q1=List.foldl (fun (t:Int) (s:Spec)=>max t s.num) q1 (List.take s0 q0)/\q0=q0/\(↑q0.length:Int)=(↑q2:Int)/\q1=(↑s0:Int))/\s0<=q2/\∀ (s:Nat),(fun (q3:Int)=>s<=q2->((↑s:Int)<(↑q2:Int)->q1<=(↑s:Int)/\(↑s:Int)<(↑q0.length:Int)/\∀ (x:Spec),q0[s]? = some x->I64 x.num->I64 x.wire->I64 x.since->I64 ((↑s:Int)+(1:Int))/\∃ (s':Nat),(max q3 x.num=List.foldl (fun (t:Int) (s:Spec)=>max t s.num) q1 (List.take s' q0)/\q0=q0/\(↑q2:Int)=(↑q2:Int)/\(↑s:Int)+(1:Int)=(↑s':Int))/\s' <= q2/\q2 - s' < q2 - s)/\((↑q2:Int)<=(↑s:Int)->q3=r0)) (List.foldl (fun (t:Int) (s:Spec)=>max t s.num) q1 (List.take s q0))) q0.length)) (aR v)) (0:Int)):=by kernel_rfl
theorem Lw (q:Int) (v:Int) (h0:q=1):Sat Tryz.prog (ao aF) 42 [.c (.int (q)),.c (.int (v))] [] ⟨[q=1],[.c (.int ((bk v)))],none,false⟩:=by
 refine aM kZ (Ko q v) Tryz.func42 (by decide) (by kernel_rfl) ?_
 rw [Ml]
 (repeat' (first | with_reducible refine And.intro ?_ ?_ | with_reducible refine and_imp.2 ?_ | intro))
 all_goals try (first | (first | with_reducible rfl | with_reducible assumption | omega | (refine ag ?_ ?_ <;> omega)) | exact rfl | exact (gq (by with_reducible assumption)) | (rw [bk,List.take_of_length_le (by omega)]))
 all_goals try (refine ⟨0,?_⟩; (repeat' (first | with_reducible refine And.intro ?_ ?_ | with_reducible refine and_imp.2 ?_ | intro)))
 all_goals try (first | (first | with_reducible rfl | with_reducible assumption | omega | (refine ag ?_ ?_ <;> omega)) | exact rfl | exact (gq (by with_reducible assumption)) | (rw [bk,List.take_of_length_le (by omega)]))
 all_goals try (refine ⟨‹Nat› + 1,?_⟩; (repeat' (first | with_reducible refine And.intro ?_ ?_ | with_reducible refine and_imp.2 ?_ | intro)))
 all_goals (first | (first | with_reducible rfl | with_reducible assumption | omega | (refine ag ?_ ?_ <;> omega)) | exact rfl | exact (gq (by with_reducible assumption)) | (rw [bk,List.take_of_length_le (by omega)]))
def Da:cH:=(bB 42 (bw (ai (kC cI) (ai (kC cI) aH)) aJ fun (q,v,_) (_)=>⟨[q=1],[.c (.int ((bk v)))],none,false⟩) (bB 43 (bw (ai (kC (cL (.nm .field))) aH) aJ fun (l,_) (_)=>⟨[],[.c (.own 0),.c (.int ((bG l)))],some ([.row 5 .u8 ((fk l))]),true⟩) (bB 93 (bw (ai (kC (cL .u8)) aH) aJ fun (b,_) (_)=>⟨[],[.c (.int ((((bd b).1:Nat)))),.c (.int (((bd b).2)))],none,false⟩) vq)))
theorem nu:aS Tryz.prog (ao aF) Da:=(aq (au (ab (al av) (ab (al av) aj)) ak fun (q,v,_) (_) hp=>Lw q v (dx hp)) (aq (au (ab (al bp) aj) ak fun (l,_) (_) _=>Ol l ) (aq (au (ab (al bp) aj) ak fun (b,_) (_) _=>Ka b ) kZ)))
end Go.Proofs.YtladifkbefehdaaGreat
namespace Go.Proofs.YtladifkbefehdaaGreat
open Go.RowKit
structure Wq (p:Prop):Prop where
 h:p
def ee (l:List Field):Int->Option Int:=fun q=>if df l q=0 then none else some ((df l q:Nat):Int)
def jM (rest:List Field) (v:Int) (k:Nat):Prop:=∀ j y,j<k->rest[j]? = some y->¬ y.num<=bk v
theorem Lt {xs:List Field} {f:Field} (h:(xs.length:Int)=0):true=ej xs f:=by
 unfold ej; rw [List.getElem?_eq_none (by omega)]
theorem Mf {xs:List Field} {f:Field} (h:¬ (xs.length:Int)=0):dC (xs.getD ((xs.length:Int) - 1).toNat (dflt (.nm .field))) f=ej xs f:=by
 unfold ej
 rw [show ((xs.length:Int) - 1).toNat=xs.length - 1 by omega,List.getD_eq_getElem?_getD,List.getElem?_eq_getElem (by omega)]; rfl
theorem gp (l:List Field) (q:Int):(ee l q).getD (dflt .int)=((df l q:Nat):Int):=by
 unfold ee
 by_cases h:df l q=0
 ·rw [if_pos h,h]; rfl
 ·rw [if_neg h]; rfl
theorem iF {l:List Field}:(fun _=>none)=ee (l.take 0):=rfl
theorem iT {l:List Field} {k:Nat} (h:l.length<=k):ee (l.take k)=ee l:=by rw [List.take_of_length_le h]
theorem fV {l:List Field} {k:Nat} {x:Field} (hx:l[k]? = some x):(fun j=>if j=x.num then some ((ee (l.take k) x.num).getD (dflt .int)+1) else ee (l.take k) j)=ee (l.take (k+1)):=by
 funext j
 have h:=B_ hx j
 by_cases hj:j=x.num
 ·rw [if_pos hj] at h ⊢
  rw [gp]; unfold ee; rw [h,if_neg (by omega)]; rfl
 ·rw [if_neg hj] at h ⊢
  unfold ee; rw [h]
theorem js {l:List Field} {k:Nat} {x:Field} (hx:l[k]? = some x):x=l.getD k (dflt (.nm .field)):=by rw [List.getD_eq_getElem?_getD,hx]; rfl
theorem Cr {l:List Field} {k:Nat} (h:k<l.length):l[k]? = some (l.getD k (dflt (.nm .field))):=by
 rw [List.getD_eq_getElem?_getD,List.getElem?_eq_getElem h]; rfl
theorem tK {l:List Field} {ss:List Spec} {x:Field} {y:Spec} {m:Nat} (h:Wq (DE ss x ((df l x.num:Nat):Int) m)) (hy:ss[m]? = some y) (hn:¬ y.num=x.num\/zk x y ((ee l x.num).getD (dflt .int))=true):Wq (DE ss x ((df l x.num:Nat):Int) (m+1)):=
 ⟨GB h.h hy fun e=>by rw [gp] at hn; exact hn.resolve_left (fun h=>h e)⟩
theorem uq {l:List Field} {ss:List Spec} {k m:Nat} (h:Wq (pR l ss k)) (hk:k<l.length) (hi:Wq (DE ss (l.getD k (dflt (.nm .field))) ((df (l.take (k+1)) (l.getD k (dflt (.nm .field))).num:Nat):Int) m)) (hm:(ss.length:Int)<=(m:Int)):Wq (pR l ss (k+1)):=
 ⟨Ed h.h (Cr hk) hi.h (by omega) rfl⟩
theorem ui {l:List Field} {ss:List Spec} {k:Nat} (h:Wq (pR l ss k)) (hk:l.length<=k):Wq (pR l ss l.length):=⟨fun j x hj=>h.h j x (by omega)⟩
theorem tI {l:List Field} {v:Int} {m:Nat} {y:Spec} (hy:(aR v)[m]? = some y) (hn:y.need=true) (h0:(ee l y.num).getD (dflt .int)=0):¬ ue l v:=JN hy ⟨hn,by rw [gp] at h0; exact h0⟩ rfl
theorem tE {l:List Field} {ss:List Spec} {m:Nat} {y:Spec} (h:Wq (Bi l ss m)) (hy:ss[m]? = some y) (hn:y.need=false\/¬ (ee l y.num).getD (dflt .int)=0):Wq (Bi l ss (m+1)):=
 ⟨EH h.h hy fun ha=>by
  rw [gp] at hn
  rcases hn with hn | hn
  ·rw [ha] at hn; cases hn
  ·omega⟩
theorem uS {l:List Field} {v:Int} {k:Nat} (hA:Wq (pR l (aR v) l.length)) (hB:Wq (Bi l (aR v) k)) (hk:(aR v).length<=k):ue l v:=Hp hA.h (Nat.le_refl _) hB.h hk
theorem qq {rest:List Field} {v:Int}:jM rest v 0:=fun j y h=>by omega
theorem ze {rest:List Field} {v:Int} {k:Nat} {x:Field} (h:Wq (jM rest v k)) (hx:rest[k]? = some x) (hn:¬ x.num<=bk v):Wq (jM rest v (k+1)):=⟨Bc h.h hx hn⟩
theorem LO {c:Command} {rest:List Field} {v:Int} (h:cq v=false):cr c rest v=1:=Rr (by show (!(cq v))=true; rw [h]; rfl)
theorem MB {c:Command} {rest:List Field} {v:Int} (h:cq v=true) (h1:cJ c v=false) (h2:¬ aX c v=0):cr c rest v=aX c v:=Ro (by show (!(cq v))=false; rw [h]; rfl) h1 h2
theorem Mt {c:Command} {rest:List Field} {v:Int} {k:Nat} {x:Field} (h:cq v=true) (h1:cJ c v=true\/aX c v=0) (hx:rest[k]? = some x) (hn:x.num<=bk v):cr c rest v=6:=RT (by show (!(cq v))=false; rw [h]; rfl) h1 hx hn
theorem LD {c:Command} {rest:List Field} {v:Int} {k:Nat} (h:cq v=true) (h1:cJ c v=true\/aX c v=0) (ht:Wq (jM rest v k)) (hk:rest.length<=k):cr c rest v=0:=LY (by show (!(cq v))=false; rw [h]; rfl) h1 ht.h hk
def zd (q:Int) (v:Int) (l:List Field):List (Nat × LI):=[(9,{ σ:=Nat,F:=fun k=>([(7,one (.fz (.nm .spec) (aR v))),(9,one (.mq 0)),(28,one (.fz (.nm .field) (l))),(29,one (.int (l).length)),(30,one (.int k))],[.mapo .int (ee (l.take k))]),J:=fun k=>k<=l.length/\Wq (pR l (aR v) k),μ:=fun k=>(l).length - k }),(13,{ σ:=Nat × Nat,F:=fun q=>([(7,one (.fz (.nm .spec) (aR v))),(9,one (.mq 0)),(11,one (.ptr 1 0)),(28,one (.fz (.nm .field) (l))),(29,one (.int (l).length)),(30,one (.int q.1)),(39,one (.fz (.nm .spec) (aR v))),(40,one (.int (aR v).length)),(41,one (.int q.2))],[.mapo .int (ee (l.take (q.1+1))),.box 90 (cellsOf (.nm .field) (((l.getD q.1 (dflt (.nm .field))))))]),J:=fun q=>q.1<l.length/\q.2<=(aR v).length/\Wq (pR l (aR v) q.1)/\Wq (DE (aR v) (l.getD q.1 (dflt (.nm .field))) ((df (l.take (q.1+1)) (l.getD q.1 (dflt (.nm .field))).num:Nat):Int) q.2),μ:=fun q=>(aR v).length - q.2,R:=some fun q0 q=>q.1=q0.1 }),(20,{ σ:=Nat,F:=fun k=>([(9,one (.mq 0)),(62,one (.fz (.nm .spec) (aR v))),(63,one (.int (aR v).length)),(64,one (.int k))],[.mapo .int (ee l)]),J:=fun k=>k<=(aR v).length/\Wq (pR l (aR v) l.length)/\Wq (Bi l (aR v) k),μ:=fun k=>(aR v).length - k })]
def Kv (c:Command) (rest:List Field) (v:Int):List (Nat × LI):=[(9,{ σ:=Nat,F:=fun k=>([(1,one (.fz (.nm .field) (rest))),(2,one (.int (v))),(3,one (.ptr 0 0)),(9,one (.int (bk v))),(27,one (.fz (.nm .field) (rest))),(28,one (.int (rest).length)),(29,one (.int k))],[.box 24 (cellsOf (.nm .command) ((c)))]),J:=fun k=>k<=rest.length/\Wq (jM rest v k),μ:=fun k=>rest.length - k })]
theorem JH (f:Field) (xs:List Field) (r0:Bool):cA aF Da [] Tryz.f91 [.agg (cellsOf (.nm .field) f),.c (.ptr 0 0)] [.box 67 ([.own 1]),.row 90 (.nm .field) (xs)] [.c (.bool (.atom (r0)))]=((fun (q2:Int)=>(fun (q1:Int)=>(fun (q0:den (Sh.nm NT.field))=>I64 f.num->I64 f.wire->f.n.n<(18446744073709551616:Nat)->f.b.length*(1:Nat)<=(140737488355328:Nat)->(q2=(0:Int)->true=r0)/\(¬q2=(0:Int)->I64 q1/\((0:Int)<=q1/\q1<q2)/\(I64 q0.num->I64 q0.wire->q0.n.n<(18446744073709551616:Nat)->q0.b.length*(1:Nat)<=(140737488355328:Nat)->dC q0 f=r0))) (xs.getD q1.toNat (dflt (Sh.nm NT.field)))) (q2 - (1:Int))) (↑xs.length:Int)):=by kernel_rfl
theorem HO (f:Field) (xs:List Field) (h0:xs.length<=20000):Sat Tryz.prog (ao aF) 91 [.agg (cellsOf (.nm .field) f),.c (.ptr 0 0)] [.box 67 ([.own 1]),.row 90 (.nm .field) (xs)] ⟨[xs.length<=20000],[.c (.bool (.atom ((ej xs f))))],none,false⟩:=by
 refine aM nu [] Tryz.func91 (by decide) (by kernel_rfl) ?_
 rw [JH]
 (repeat' (first | with_reducible refine And.intro ?_ ?_ | with_reducible refine and_imp.2 ?_ | intro))
 all_goals (first | (first | with_reducible rfl | with_reducible assumption | omega | (refine ag ?_ ?_ <;> omega)) | exact (Lt (by with_reducible assumption)) | exact (Mf (by with_reducible assumption)))
theorem Fw (q:Int) (v:Int) (l:List Field) (r0:Int):cA aF Da (zd q v l) Tryz.f52 [.c (.int (q)),.c (.int (v)),.c (.fz (.nm .field) (l))] [] [.c (.int (r0))]=((fun (q5:Nat)=>(fun (q4:Int)=>(fun (q3:Int)=>(fun (q2:Nat)=>(fun (q1:den (Sh.nm NT.field))=>(fun (q0:List Spec)=>I64 q->I64 v->l.length*(48:Nat)<=(140737488355328:Nat)->q=q4/\(q0.length*(32:Nat)<=(140737488355328:Nat)->((↑q0.length:Int)=q3->q4=r0)/\(¬(↑q0.length:Int)=q3->I64 (bG l)->(¬bG l=q3->bG l=r0)/\(bG l=q3->∃ (s0:Nat),(fun (q9:Int)=>(fun (q8:Int)=>(fun (q7:Prop)=>(fun (q6:Nat)=>(q7/\l=l/\(↑l.length:Int)=q8/\q3=(↑s0:Int)/\(fun (_:Int)=>none)=ee (List.take s0 l))/\(s0<=q2/\Wq (pR l q0 s0))/\∀ (s:Nat),(fun (q10:Int)=>s<=q2/\Wq (pR l q0 s)->((↑s:Int)<q8->q3<=(↑s:Int)/\(↑s:Int)<(↑l.length:Int)/\∀ (x:Field),(fun (q11:Int)=>l[s]? = some x->I64 x.num->I64 x.wire->x.n.n<(18446744073709551616:Nat)->x.b.length*q5<=(140737488355328:Nat)->I64 q11/\∃ (s0:Nat × Nat),(fun (q13:Nat)=>(fun (q12:Field)=>(q7/\l=l/\q8=q8/\(↑s:Int)=(↑q13:Int)/\q7/\q9=q10/\q3=(↑s0.snd:Int)/\(fun (j:Int)=>if j=x.num then some q11 else ee (List.take s l) j)=ee (List.take (q13+q5) l)/\x.num=q12.num/\x.wire=q12.wire/\x.n.n=q12.n.n/\x.b=q12.b)/\(q13<q2/\s0.snd<=q6/\Wq (pR l q0 q13)/\Wq (DE q0 q12 (↑(df (List.take (q13+q5) l) q12.num):Int) s0.snd))/\q13=q13/\∀ (s_1:Nat × Nat),(fun (q16:Int)=>(fun (q15:List Field)=>(fun (q14:Field)=>s_1.fst<q2/\s_1.snd<=q6/\Wq (pR l q0 s_1.fst)/\Wq (DE q0 q14 (↑(df q15 q14.num):Int) s_1.snd)->s_1.fst=q13->(q16<q10->q3<=q16/\q16<q9/\∀ (x:Spec),(fun (q17:Bool)=>q0[s_1.snd]? = some x->I64 x.num->I64 x.wire->I64 x.since->(x.num=q14.num/\q17=false->(6:Int)=r0)/\(¬x.num=q14.num\/q17=true->I64 (q16+q4)/\∃ (s':Nat × Nat),(fun (q18:Field)=>(q7/\l=l/\q8=q8/\(↑s_1.fst:Int)=(↑s'.fst:Int)/\q7/\q10=q10/\q16+q4=(↑s'.snd:Int)/\ee q15=ee (List.take (s'.fst+q5) l)/\q14.num=q18.num/\q14.wire=q18.wire/\q14.n.n=q18.n.n/\q14.b=q18.b)/\(s'.fst<q2/\s'.snd<=q6/\Wq (pR l q0 s'.fst)/\Wq (DE q0 q18 (↑(df (List.take (s'.fst+q5) l) q18.num):Int) s'.snd))/\s'.fst=q13/\q6 - s'.snd<q6 - s_1.snd) (l.getD s'.fst q1))) (zk q14 x ((ee q15 q14.num).getD (dflt Sh.int))))/\(q10<=q16->I64 ((↑s_1.fst:Int)+q4)/\∃ (s':Nat),(q7/\l=l/\q8=q8/\(↑s_1.fst:Int)+q4=(↑s':Int)/\ee q15=ee (List.take s' l))/\(s' <= q2/\Wq (pR l q0 s'))/\q2 - s' < q2 - s)) (l.getD s_1.fst q1)) (List.take (s_1.fst+q5) l)) (↑s_1.snd:Int)) (l.getD q13 q1)) s0.fst) ((ee (List.take s l) x.num).getD (dflt Sh.int)+q4))/\(q8<=(↑s:Int)->∃ (s0:Nat),(q7/\q9=q10/\q3=(↑s0:Int)/\ee (List.take s l)=ee l)/\(s0<=q6/\Wq (pR l q0 q2)/\Wq (Bi l q0 s0))/\∀ (s:Nat),s<=q6/\Wq (pR l q0 q2)/\Wq (Bi l q0 s)->((↑s:Int)<q10->q3<=(↑s:Int)/\(↑s:Int)<q9/\∀ (x:Spec),(fun (q19:Prop)=>q0[s]? = some x->I64 x.num->I64 x.wire->I64 x.since->(x.need=true/\q19->(6:Int)=r0)/\(x.need=false\/¬q19->I64 ((↑s:Int)+q4)/\∃ (s':Nat),(q7/\q10=q10/\(↑s:Int)+q4=(↑s':Int)/\ee l=ee l)/\(s' <= q6/\Wq (pR l q0 q2)/\Wq (Bi l q0 s'))/\q6 - s' < q6 - s)) ((ee l x.num).getD (dflt Sh.int)=q3))/\(q10<=(↑s:Int)->q3=r0))) (↑q6:Int)) q0.length) (q0=q0)) (↑q2:Int)) (↑q0.length:Int))))) (aR v)) (dflt (Sh.nm NT.field))) l.length) (0:Int)) (1:Int)) (1:Nat)):=by kernel_rfl
theorem Cn (q:Int) (v:Int) (l:List Field) (h0:q=1):Sat Tryz.prog (ao aF) 52 [.c (.int (q)),.c (.int (v)),.c (.fz (.nm .field) (l))] [] ⟨[q=1],[.c (.int ((fw l v)))],none,false⟩:=by
 refine aM nu (zd q v l) Tryz.func52 (by decide) (by kernel_rfl) ?_
 rw [Fw]
 (repeat' (first | with_reducible refine And.intro ?_ ?_ | with_reducible refine and_imp.2 ?_ | intro))
 all_goals try (first | (first | with_reducible rfl | with_reducible assumption | omega | (refine ag ?_ ?_ <;> omega)) | exact rfl | exact (vm (by omega)) | exact (tD (by omega) (by with_reducible assumption)) | exact iF | exact ⟨mS⟩ | exact ⟨mZ⟩ | exact ⟨mL⟩ | exact (fV (by with_reducible assumption)) | exact (congrArg Field.num (js (by with_reducible assumption))) | exact (congrArg Field.wire (js (by with_reducible assumption))) | exact (congrArg (fun f=>f.n.n) (js (by with_reducible assumption))) | exact (congrArg Field.b (js (by with_reducible assumption))) | exact (jn (by omega) (by with_reducible assumption) (fN (Cr (by with_reducible assumption)) (by with_reducible assumption) (And.intro (by with_reducible assumption) (by with_reducible assumption)) (gp _ _))) | exact (tK (by with_reducible assumption) (by with_reducible assumption) (by assumption)) | exact (uq (by with_reducible assumption) (by with_reducible assumption) (by with_reducible assumption) (by with_reducible assumption)) | exact (ui (by with_reducible assumption) (by omega)) | exact (iT (by omega)) | exact (jn (by omega) (by with_reducible assumption) (tI (by with_reducible assumption) (by with_reducible assumption) (by with_reducible assumption))) | exact (tE (by with_reducible assumption) (by with_reducible assumption) (by assumption)) | exact (rH (by omega) (by with_reducible assumption) (uS (by with_reducible assumption) (by with_reducible assumption) (by omega))) | (have h1:=fR (l:=l) (k:=‹Nat›) ‹Field›.num; have h2:=gp (l.take ‹Nat›) ‹Field›.num; refine ag ?_ ?_ <;> omega))
 all_goals try (refine ⟨0,?_⟩; (repeat' (first | with_reducible refine And.intro ?_ ?_ | with_reducible refine and_imp.2 ?_ | intro)))
 all_goals try (first | (first | with_reducible rfl | with_reducible assumption | omega | (refine ag ?_ ?_ <;> omega)) | exact rfl | exact (vm (by omega)) | exact (tD (by omega) (by with_reducible assumption)) | exact iF | exact ⟨mS⟩ | exact ⟨mZ⟩ | exact ⟨mL⟩ | exact (fV (by with_reducible assumption)) | exact (congrArg Field.num (js (by with_reducible assumption))) | exact (congrArg Field.wire (js (by with_reducible assumption))) | exact (congrArg (fun f=>f.n.n) (js (by with_reducible assumption))) | exact (congrArg Field.b (js (by with_reducible assumption))) | exact (jn (by omega) (by with_reducible assumption) (fN (Cr (by with_reducible assumption)) (by with_reducible assumption) (And.intro (by with_reducible assumption) (by with_reducible assumption)) (gp _ _))) | exact (tK (by with_reducible assumption) (by with_reducible assumption) (by assumption)) | exact (uq (by with_reducible assumption) (by with_reducible assumption) (by with_reducible assumption) (by with_reducible assumption)) | exact (ui (by with_reducible assumption) (by omega)) | exact (iT (by omega)) | exact (jn (by omega) (by with_reducible assumption) (tI (by with_reducible assumption) (by with_reducible assumption) (by with_reducible assumption))) | exact (tE (by with_reducible assumption) (by with_reducible assumption) (by assumption)) | exact (rH (by omega) (by with_reducible assumption) (uS (by with_reducible assumption) (by with_reducible assumption) (by omega))) | (have h1:=fR (l:=l) (k:=‹Nat›) ‹Field›.num; have h2:=gp (l.take ‹Nat›) ‹Field›.num; refine ag ?_ ?_ <;> omega))
 all_goals try (refine ⟨(‹Nat›,0),?_⟩; (repeat' (first | with_reducible refine And.intro ?_ ?_ | with_reducible refine and_imp.2 ?_ | intro)))
 all_goals try (first | (first | with_reducible rfl | with_reducible assumption | omega | (refine ag ?_ ?_ <;> omega)) | exact rfl | exact (vm (by omega)) | exact (tD (by omega) (by with_reducible assumption)) | exact iF | exact ⟨mS⟩ | exact ⟨mZ⟩ | exact ⟨mL⟩ | exact (fV (by with_reducible assumption)) | exact (congrArg Field.num (js (by with_reducible assumption))) | exact (congrArg Field.wire (js (by with_reducible assumption))) | exact (congrArg (fun f=>f.n.n) (js (by with_reducible assumption))) | exact (congrArg Field.b (js (by with_reducible assumption))) | exact (jn (by omega) (by with_reducible assumption) (fN (Cr (by with_reducible assumption)) (by with_reducible assumption) (And.intro (by with_reducible assumption) (by with_reducible assumption)) (gp _ _))) | exact (tK (by with_reducible assumption) (by with_reducible assumption) (by assumption)) | exact (uq (by with_reducible assumption) (by with_reducible assumption) (by with_reducible assumption) (by with_reducible assumption)) | exact (ui (by with_reducible assumption) (by omega)) | exact (iT (by omega)) | exact (jn (by omega) (by with_reducible assumption) (tI (by with_reducible assumption) (by with_reducible assumption) (by with_reducible assumption))) | exact (tE (by with_reducible assumption) (by with_reducible assumption) (by assumption)) | exact (rH (by omega) (by with_reducible assumption) (uS (by with_reducible assumption) (by with_reducible assumption) (by omega))) | (have h1:=fR (l:=l) (k:=‹Nat›) ‹Field›.num; have h2:=gp (l.take ‹Nat›) ‹Field›.num; refine ag ?_ ?_ <;> omega))
 all_goals try (refine ⟨(‹Nat × Nat›.1,‹Nat × Nat›.2+1),?_⟩; (repeat' (first | with_reducible refine And.intro ?_ ?_ | with_reducible refine and_imp.2 ?_ | intro)))
 all_goals try (first | (first | with_reducible rfl | with_reducible assumption | omega | (refine ag ?_ ?_ <;> omega)) | exact rfl | exact (vm (by omega)) | exact (tD (by omega) (by with_reducible assumption)) | exact iF | exact ⟨mS⟩ | exact ⟨mZ⟩ | exact ⟨mL⟩ | exact (fV (by with_reducible assumption)) | exact (congrArg Field.num (js (by with_reducible assumption))) | exact (congrArg Field.wire (js (by with_reducible assumption))) | exact (congrArg (fun f=>f.n.n) (js (by with_reducible assumption))) | exact (congrArg Field.b (js (by with_reducible assumption))) | exact (jn (by omega) (by with_reducible assumption) (fN (Cr (by with_reducible assumption)) (by with_reducible assumption) (And.intro (by with_reducible assumption) (by with_reducible assumption)) (gp _ _))) | exact (tK (by with_reducible assumption) (by with_reducible assumption) (by assumption)) | exact (uq (by with_reducible assumption) (by with_reducible assumption) (by with_reducible assumption) (by with_reducible assumption)) | exact (ui (by with_reducible assumption) (by omega)) | exact (iT (by omega)) | exact (jn (by omega) (by with_reducible assumption) (tI (by with_reducible assumption) (by with_reducible assumption) (by with_reducible assumption))) | exact (tE (by with_reducible assumption) (by with_reducible assumption) (by assumption)) | exact (rH (by omega) (by with_reducible assumption) (uS (by with_reducible assumption) (by with_reducible assumption) (by omega))) | (have h1:=fR (l:=l) (k:=‹Nat›) ‹Field›.num; have h2:=gp (l.take ‹Nat›) ‹Field›.num; refine ag ?_ ?_ <;> omega))
 all_goals try (refine ⟨‹Nat × Nat›.1+1,?_⟩; (repeat' (first | with_reducible refine And.intro ?_ ?_ | with_reducible refine and_imp.2 ?_ | intro)))
 all_goals try (first | (first | with_reducible rfl | with_reducible assumption | omega | (refine ag ?_ ?_ <;> omega)) | exact rfl | exact (vm (by omega)) | exact (tD (by omega) (by with_reducible assumption)) | exact iF | exact ⟨mS⟩ | exact ⟨mZ⟩ | exact ⟨mL⟩ | exact (fV (by with_reducible assumption)) | exact (congrArg Field.num (js (by with_reducible assumption))) | exact (congrArg Field.wire (js (by with_reducible assumption))) | exact (congrArg (fun f=>f.n.n) (js (by with_reducible assumption))) | exact (congrArg Field.b (js (by with_reducible assumption))) | exact (jn (by omega) (by with_reducible assumption) (fN (Cr (by with_reducible assumption)) (by with_reducible assumption) (And.intro (by with_reducible assumption) (by with_reducible assumption)) (gp _ _))) | exact (tK (by with_reducible assumption) (by with_reducible assumption) (by assumption)) | exact (uq (by with_reducible assumption) (by with_reducible assumption) (by with_reducible assumption) (by with_reducible assumption)) | exact (ui (by with_reducible assumption) (by omega)) | exact (iT (by omega)) | exact (jn (by omega) (by with_reducible assumption) (tI (by with_reducible assumption) (by with_reducible assumption) (by with_reducible assumption))) | exact (tE (by with_reducible assumption) (by with_reducible assumption) (by assumption)) | exact (rH (by omega) (by with_reducible assumption) (uS (by with_reducible assumption) (by with_reducible assumption) (by omega))) | (have h1:=fR (l:=l) (k:=‹Nat›) ‹Field›.num; have h2:=gp (l.take ‹Nat›) ‹Field›.num; refine ag ?_ ?_ <;> omega))
 all_goals try (refine ⟨0,?_⟩; (repeat' (first | with_reducible refine And.intro ?_ ?_ | with_reducible refine and_imp.2 ?_ | intro)))
 all_goals try (first | (first | with_reducible rfl | with_reducible assumption | omega | (refine ag ?_ ?_ <;> omega)) | exact rfl | exact (vm (by omega)) | exact (tD (by omega) (by with_reducible assumption)) | exact iF | exact ⟨mS⟩ | exact ⟨mZ⟩ | exact ⟨mL⟩ | exact (fV (by with_reducible assumption)) | exact (congrArg Field.num (js (by with_reducible assumption))) | exact (congrArg Field.wire (js (by with_reducible assumption))) | exact (congrArg (fun f=>f.n.n) (js (by with_reducible assumption))) | exact (congrArg Field.b (js (by with_reducible assumption))) | exact (jn (by omega) (by with_reducible assumption) (fN (Cr (by with_reducible assumption)) (by with_reducible assumption) (And.intro (by with_reducible assumption) (by with_reducible assumption)) (gp _ _))) | exact (tK (by with_reducible assumption) (by with_reducible assumption) (by assumption)) | exact (uq (by with_reducible assumption) (by with_reducible assumption) (by with_reducible assumption) (by with_reducible assumption)) | exact (ui (by with_reducible assumption) (by omega)) | exact (iT (by omega)) | exact (jn (by omega) (by with_reducible assumption) (tI (by with_reducible assumption) (by with_reducible assumption) (by with_reducible assumption))) | exact (tE (by with_reducible assumption) (by with_reducible assumption) (by assumption)) | exact (rH (by omega) (by with_reducible assumption) (uS (by with_reducible assumption) (by with_reducible assumption) (by omega))) | (have h1:=fR (l:=l) (k:=‹Nat›) ‹Field›.num; have h2:=gp (l.take ‹Nat›) ‹Field›.num; refine ag ?_ ?_ <;> omega))
 all_goals try (refine ⟨‹Nat› + 1,?_⟩; (repeat' (first | with_reducible refine And.intro ?_ ?_ | with_reducible refine and_imp.2 ?_ | intro)))
 all_goals try (first | (first | with_reducible rfl | with_reducible assumption | omega | (refine ag ?_ ?_ <;> omega)) | exact rfl | exact (vm (by omega)) | exact (tD (by omega) (by with_reducible assumption)) | exact iF | exact ⟨mS⟩ | exact ⟨mZ⟩ | exact ⟨mL⟩ | exact (fV (by with_reducible assumption)) | exact (congrArg Field.num (js (by with_reducible assumption))) | exact (congrArg Field.wire (js (by with_reducible assumption))) | exact (congrArg (fun f=>f.n.n) (js (by with_reducible assumption))) | exact (congrArg Field.b (js (by with_reducible assumption))) | exact (jn (by omega) (by with_reducible assumption) (fN (Cr (by with_reducible assumption)) (by with_reducible assumption) (And.intro (by with_reducible assumption) (by with_reducible assumption)) (gp _ _))) | exact (tK (by with_reducible assumption) (by with_reducible assumption) (by assumption)) | exact (uq (by with_reducible assumption) (by with_reducible assumption) (by with_reducible assumption) (by with_reducible assumption)) | exact (ui (by with_reducible assumption) (by omega)) | exact (iT (by omega)) | exact (jn (by omega) (by with_reducible assumption) (tI (by with_reducible assumption) (by with_reducible assumption) (by with_reducible assumption))) | exact (tE (by with_reducible assumption) (by with_reducible assumption) (by assumption)) | exact (rH (by omega) (by with_reducible assumption) (uS (by with_reducible assumption) (by with_reducible assumption) (by omega))) | (have h1:=fR (l:=l) (k:=‹Nat›) ‹Field›.num; have h2:=gp (l.take ‹Nat›) ‹Field›.num; refine ag ?_ ?_ <;> omega))
 all_goals (first | (first | with_reducible rfl | with_reducible assumption | omega | (refine ag ?_ ?_ <;> omega)) | exact rfl | exact (vm (by omega)) | exact (tD (by omega) (by with_reducible assumption)) | exact iF | exact ⟨mS⟩ | exact ⟨mZ⟩ | exact ⟨mL⟩ | exact (fV (by with_reducible assumption)) | exact (congrArg Field.num (js (by with_reducible assumption))) | exact (congrArg Field.wire (js (by with_reducible assumption))) | exact (congrArg (fun f=>f.n.n) (js (by with_reducible assumption))) | exact (congrArg Field.b (js (by with_reducible assumption))) | exact (jn (by omega) (by with_reducible assumption) (fN (Cr (by with_reducible assumption)) (by with_reducible assumption) (And.intro (by with_reducible assumption) (by with_reducible assumption)) (gp _ _))) | exact (tK (by with_reducible assumption) (by with_reducible assumption) (by assumption)) | exact (uq (by with_reducible assumption) (by with_reducible assumption) (by with_reducible assumption) (by with_reducible assumption)) | exact (ui (by with_reducible assumption) (by omega)) | exact (iT (by omega)) | exact (jn (by omega) (by with_reducible assumption) (tI (by with_reducible assumption) (by with_reducible assumption) (by with_reducible assumption))) | exact (tE (by with_reducible assumption) (by with_reducible assumption) (by assumption)) | exact (rH (by omega) (by with_reducible assumption) (uS (by with_reducible assumption) (by with_reducible assumption) (by omega))) | (have h1:=fR (l:=l) (k:=‹Nat›) ‹Field›.num; have h2:=gp (l.take ‹Nat›) ‹Field›.num; refine ag ?_ ?_ <;> omega))
theorem LN (c:Command) (rest:List Field) (v:Int) (r0:Int) (r1:List UInt8):ma aF Da (Kv c rest v) Tryz.f25 [.agg (cellsOf (.nm .command) c),.c (.fz (.nm .field) (rest)),.c (.int (v))] [] [.c (.own 0),.c (.int (r0))] [.row 5 .u8 (r1)]=((fun (q3:Int)=>(fun (q2:Nat)=>(fun (q1:Prop)=>(fun (q0:Prop)=>I64 c.kind->I64 c.client->I64 c.seq->I64 c.set->I64 c.id->I64 c.n->c.chunks.length*(8:Nat)<=(140737488355328:Nat)->c.text.b.length<=(140737488355328:Nat)->rest.length*(48:Nat)<=(140737488355328:Nat)->I64 v->(cq v=false->(1:Int)=r0/\r1=[])/\(cq v=true->(cJ c v=false->I64 (aX c v)->(¬aX c v=q3->aX c v=r0/\r1=[])/\(aX c v=q3->q0))/\(cJ c v=true->q0))) ((1:Int)=(1:Int)/\(I64 (bk v)->∃ (s0:Nat),(rest=rest/\v=v/\bk v=bk v/\rest=rest/\(↑rest.length:Int)=(↑q2:Int)/\q3=(↑s0:Int)/\q1)/\(s0<=q2/\Wq (jM rest v s0))/\∀ (s:Nat),s<=q2/\Wq (jM rest v s)->((↑s:Int)<(↑q2:Int)->q3<=(↑s:Int)/\(↑s:Int)<(↑rest.length:Int)/\∀ (x:Field),rest[s]? = some x->I64 x.num->I64 x.wire->x.n.n<(18446744073709551616:Nat)->x.b.length*(1:Nat)<=(140737488355328:Nat)->(x.num<=bk v->(6:Int)=r0/\r1=[])/\(bk v<x.num->I64 ((↑s:Int)+(1:Int))/\∃ (s':Nat),(rest=rest/\v=v/\bk v=bk v/\rest=rest/\(↑q2:Int)=(↑q2:Int)/\(↑s:Int)+(1:Int)=(↑s':Int)/\q1)/\(s' <= q2/\Wq (jM rest v s'))/\q2 - s' < q2 - s))/\((↑q2:Int)<=(↑s:Int)->q3<=c.kind/\q3<=c.client/\q3<=c.seq/\q3<=c.set/\q3<=c.id/\q3<=c.n/\((aG c v).length+rest.length)*(48:Nat)<=(140737488355328:Nat)/\(I64 (bG (aG c v++rest))->bG (aG c v++rest)=r0/\fk (aG c v++rest)=r1))))) (c.kind=c.kind/\c.client=c.client/\c.seq=c.seq/\c.set=c.set/\c.id=c.id/\c.n=c.n/\c.chunks=c.chunks/\c.text=c.text)) rest.length) (0:Int)):=by kernel_rfl
theorem Ns (c:Command) (rest:List Field) (v:Int) (h0:rest.length<=20000):Sat Tryz.prog (ao aF) 25 [.agg (cellsOf (.nm .command) c),.c (.fz (.nm .field) (rest)),.c (.int (v))] [] ⟨[rest.length<=20000],[.c (.own 0),.c (.int ((bP c rest v)))],some ([.row 5 .u8 ((cc c rest v))]),true⟩:=by
 refine di nu (Kv c rest v) Tryz.func25 (by decide) (by kernel_rfl) ?_
 rw [LN]
 (repeat' (first | with_reducible refine And.intro ?_ ?_ | with_reducible refine and_imp.2 ?_ | intro))
 all_goals try (first | (first | with_reducible rfl | with_reducible assumption | omega | (refine ag ?_ ?_ <;> omega)) | exact rfl | exact ⟨qq⟩ | exact (ze (by with_reducible assumption) (by with_reducible assumption) (by omega)) | exact (dq (LO (by with_reducible assumption)) (by decide)) | exact (du (LO (by with_reducible assumption)) (by decide)).symm | exact (dq (MB (by with_reducible assumption) (by with_reducible assumption) (by with_reducible assumption)) (by with_reducible assumption)) | exact (du (MB (by with_reducible assumption) (by with_reducible assumption) (by with_reducible assumption)) (by with_reducible assumption)).symm | exact (dq (Mt (by with_reducible assumption) (by first | exact .inl (by with_reducible assumption) | exact .inr (by with_reducible assumption)) (by with_reducible assumption) (by with_reducible assumption)) (by decide)) | exact (du (Mt (by with_reducible assumption) (by first | exact .inl (by with_reducible assumption) | exact .inr (by with_reducible assumption)) (by with_reducible assumption) (by with_reducible assumption)) (by decide)).symm | exact (qx (LD (by with_reducible assumption) (by first | exact .inl (by with_reducible assumption) | exact .inr (by with_reducible assumption)) (by with_reducible assumption) (by omega))) | exact (qJ (LD (by with_reducible assumption) (by first | exact .inl (by with_reducible assumption) | exact .inr (by with_reducible assumption)) (by with_reducible assumption) (by omega))) | (have h:0<=c.kind/\0<=c.client/\0<=c.seq/\0<=c.set/\0<=c.id/\0<=c.n:=(by first | exact jw (by with_reducible assumption) | exact jA (by with_reducible assumption)); omega) | (have h:=eJ c v; omega))
 all_goals try (refine ⟨0,?_⟩; (repeat' (first | with_reducible refine And.intro ?_ ?_ | with_reducible refine and_imp.2 ?_ | intro)))
 all_goals try (first | (first | with_reducible rfl | with_reducible assumption | omega | (refine ag ?_ ?_ <;> omega)) | exact rfl | exact ⟨qq⟩ | exact (ze (by with_reducible assumption) (by with_reducible assumption) (by omega)) | exact (dq (LO (by with_reducible assumption)) (by decide)) | exact (du (LO (by with_reducible assumption)) (by decide)).symm | exact (dq (MB (by with_reducible assumption) (by with_reducible assumption) (by with_reducible assumption)) (by with_reducible assumption)) | exact (du (MB (by with_reducible assumption) (by with_reducible assumption) (by with_reducible assumption)) (by with_reducible assumption)).symm | exact (dq (Mt (by with_reducible assumption) (by first | exact .inl (by with_reducible assumption) | exact .inr (by with_reducible assumption)) (by with_reducible assumption) (by with_reducible assumption)) (by decide)) | exact (du (Mt (by with_reducible assumption) (by first | exact .inl (by with_reducible assumption) | exact .inr (by with_reducible assumption)) (by with_reducible assumption) (by with_reducible assumption)) (by decide)).symm | exact (qx (LD (by with_reducible assumption) (by first | exact .inl (by with_reducible assumption) | exact .inr (by with_reducible assumption)) (by with_reducible assumption) (by omega))) | exact (qJ (LD (by with_reducible assumption) (by first | exact .inl (by with_reducible assumption) | exact .inr (by with_reducible assumption)) (by with_reducible assumption) (by omega))) | (have h:0<=c.kind/\0<=c.client/\0<=c.seq/\0<=c.set/\0<=c.id/\0<=c.n:=(by first | exact jw (by with_reducible assumption) | exact jA (by with_reducible assumption)); omega) | (have h:=eJ c v; omega))
 all_goals try (refine ⟨‹Nat› + 1,?_⟩; (repeat' (first | with_reducible refine And.intro ?_ ?_ | with_reducible refine and_imp.2 ?_ | intro)))
 all_goals (first | (first | with_reducible rfl | with_reducible assumption | omega | (refine ag ?_ ?_ <;> omega)) | exact rfl | exact ⟨qq⟩ | exact (ze (by with_reducible assumption) (by with_reducible assumption) (by omega)) | exact (dq (LO (by with_reducible assumption)) (by decide)) | exact (du (LO (by with_reducible assumption)) (by decide)).symm | exact (dq (MB (by with_reducible assumption) (by with_reducible assumption) (by with_reducible assumption)) (by with_reducible assumption)) | exact (du (MB (by with_reducible assumption) (by with_reducible assumption) (by with_reducible assumption)) (by with_reducible assumption)).symm | exact (dq (Mt (by with_reducible assumption) (by first | exact .inl (by with_reducible assumption) | exact .inr (by with_reducible assumption)) (by with_reducible assumption) (by with_reducible assumption)) (by decide)) | exact (du (Mt (by with_reducible assumption) (by first | exact .inl (by with_reducible assumption) | exact .inr (by with_reducible assumption)) (by with_reducible assumption) (by with_reducible assumption)) (by decide)).symm | exact (qx (LD (by with_reducible assumption) (by first | exact .inl (by with_reducible assumption) | exact .inr (by with_reducible assumption)) (by with_reducible assumption) (by omega))) | exact (qJ (LD (by with_reducible assumption) (by first | exact .inl (by with_reducible assumption) | exact .inr (by with_reducible assumption)) (by with_reducible assumption) (by omega))) | (have h:0<=c.kind/\0<=c.client/\0<=c.seq/\0<=c.set/\0<=c.id/\0<=c.n:=(by first | exact jw (by with_reducible assumption) | exact jA (by with_reducible assumption)); omega) | (have h:=eJ c v; omega))
noncomputable def NC:cH:=(bB 25 (bw (ai (kT (.nm .command)) (ai (kC (cL (.nm .field))) (ai (kC cI) aH))) aJ fun (c,rest,v,_) (_)=>⟨[rest.length<=20000],[.c (.own 0),.c (.int ((bP c rest v)))],some ([.row 5 .u8 ((cc c rest v))]),true⟩) (bB 52 (bw (ai (kC cI) (ai (kC cI) (ai (kC (cL (.nm .field))) aH))) aJ fun (q,v,l,_) (_)=>⟨[q=1],[.c (.int ((fw l v)))],none,false⟩) (bB 91 (bw (ai (kT (.nm .field)) (ai (kC (bX 0 0)) aH)) (ay (bV 67 (aw (bl 1) bT)) (ay (bm 90 (.nm .field)) aJ)) fun (f,_,_) ((_,_),xs,_)=>⟨[xs.length<=20000],[.c (.bool (.atom ((ej xs f))))],none,false⟩) Da)))
theorem yx:aS Tryz.prog (ao aF) NC:=(aq (au (ab br (ab (al bp) (ab (al av) aj))) ak fun (c,rest,v,_) (_) hp=>Ns c rest v (dx hp)) (aq (au (ab (al av) (ab (al av) (ab (al bp) aj))) ak fun (q,v,l,_) (_) hp=>Cn q v l (dx hp)) (aq (au (ab br (ab (al aL) aj)) (ah (aK (ae aD aI)) (ah aE ak)) fun (f,_,_) ((_,_),xs,_) hp=>HO f xs (dx hp)) nu)))
end Go.Proofs.YtladifkbefehdaaGreat
namespace Go.Proofs.YtladifkbefehdaaGreat
open Go.RowKit
def G_ (b:List UInt8) (s:Nat × List Field):Nat × List Field:=(s.1+(bd (b.drop s.1)).1,s.2++[iA ((b.drop s.1).take (((s.1:Int)+((bd (b.drop s.1)).1:Nat)).toNat - s.1))])
theorem Kt {b:List UInt8} {s:Nat × List Field}:(G_ b s).2=s.2++[iA ((b.drop s.1).take (bd (b.drop s.1)).1)]:=by
 unfold G_; rw [show ((s.1:Int)+((bd (b.drop s.1)).1:Nat)).toNat - s.1=(bd (b.drop s.1)).1 by omega]
theorem Rv {b:List UInt8} (h:16384<(b.length:Int)):bz b=([],4):=NA (by omega)
theorem Sn {b:List UInt8} {s:Nat × List Field} (h:Wq (gE b s.1 s.2)) (hi:(s.1:Int)<(b.length:Int)) (hs:¬ (bd (b.drop s.1)).2=0):bz b=([],(bd (b.drop s.1)).2):=Jk h.h (by omega) hs
theorem Rx {b:List UInt8} {s:Nat × List Field} (h:Wq (gE b s.1 s.2)) (hi:(s.1:Int)<(b.length:Int)) (hs:(bd (b.drop s.1)).2=0) (hr:ej s.2 (iA ((b.drop s.1).take (((s.1:Int)+((bd (b.drop s.1)).1:Nat)).toNat - s.1)))=false):bz b=([],5):=by
 rw [show ((s.1:Int)+((bd (b.drop s.1)).1:Nat)).toNat - s.1=(bd (b.drop s.1)).1 by omega] at hr
 obtain ⟨f,_,e⟩:=Er h.h (show s.1<b.length by omega)
 rw [e,if_pos hs,hr,if_neg (by decide)]
theorem Rf {b:List UInt8} {s:Nat × List Field} (h:Wq (gE b s.1 s.2)) (hi:(s.1:Int)<(b.length:Int)) (hs:(bd (b.drop s.1)).2=0) (hr:ej s.2 (iA ((b.drop s.1).take (((s.1:Int)+((bd (b.drop s.1)).1:Nat)).toNat - s.1)))=true):Wq (gE b (G_ b s).1 (G_ b s).2):=by
 rw [show ((s.1:Int)+((bd (b.drop s.1)).1:Nat)).toNat - s.1=(bd (b.drop s.1)).1 by omega] at hr
 obtain ⟨f,hf,e⟩:=Er h.h (show s.1<b.length by omega)
 have hp:=ly hs
 rw [Kt]
 refine ⟨f,by show b.length - (s.1+(bd (b.drop s.1)).1)<=f; omega,?_⟩
 rw [e,if_pos hs,hr,if_pos rfl,List.drop_drop]; rfl
theorem Rl {b:List UInt8} {s:Nat × List Field} (h:Wq (gE b s.1 s.2)) (hi:(b.length:Int)<=(s.1:Int)):bz b=(s.2,0):=Mx h.h (by omega)
theorem Sc {b:List UInt8} {s:Nat × List Field} (hi:s.1<=b.length):(G_ b s).1<=b.length:=by
 have:=ld (b.drop s.1); rw [List.length_drop] at this; show s.1+_<=_; omega
theorem Rh {b:List UInt8} {s:Nat × List Field} (hl:s.2.length<=s.1) (hs:(bd (b.drop s.1)).2=0):(G_ b s).2.length<=(G_ b s).1:=by
 have hp:=ly hs
 rw [Kt,List.length_append]; simp only [List.length_cons,List.length_nil]; show _<=s.1+_; omega
theorem R_ {b:List UInt8} {s:Nat × List Field} (hi:(s.1:Int)<(b.length:Int)) (hs:(bd (b.drop s.1)).2=0):b.length - (G_ b s).1<b.length - s.1:=by
 have hp:=ly hs; show b.length - (s.1+_)<_; omega
def CR (b:List UInt8):List (Nat × LI):=[(6,{ σ:=Nat × List Field,F:=fun s=>([(0,one (.fz .u8 (b))),(4,one (.ptr 0 0)),(5,one (.fn 91 [] [(0,0)])),(6,one (.int s.1))],[.box 67 ([.own 1]),.row 90 (.nm .field) ((s.2))]),J:=fun s=>Wq (gE b s.1 s.2)/\s.1<=b.length/\s.2.length<=s.1,μ:=fun s=>b.length - s.1 })]
theorem IS (b:List UInt8) (r0:List Field) (r1:Int):cA aF NC (CR b) Tryz.f51 [.c (.fz .u8 (b))] [] [.c (.fz (.nm .field) (r0)),.c (.int (r1))]=((fun (q1:Int)=>(fun (q0:Int)=>b.length*(1:Nat)<=(140737488355328:Nat)->((16384:Int)<q0->r0=[]/\(4:Int)=r1)/\(q0<=(16384:Int)->∃ (s0:Nat × List Field),(b=b/\q1=(↑s0.fst:Int)/\s0.snd=[])/\(Wq (gE b s0.fst s0.snd)/\s0.fst<=b.length/\s0.snd.length<=s0.fst)/\∀ (s:Nat × List Field),(fun (q5:Int)=>(fun (q4:Nat × Int)=>(fun (q3:Int)=>(fun (q2:Field)=>Wq (gE b s.fst s.snd)/\s.fst<=b.length/\s.snd.length<=s.fst->(q5<q0->q1<=q5/\q5<=q0/\(I64 (↑q4.fst:Int)->I64 q4.snd->(¬q4.snd=q1->r0=[]/\q4.snd=r1)/\(q4.snd=q1->I64 q3/\q1<=q5/\q5<=q3/\q3<=q0/\(I64 q2.num->I64 q2.wire->q2.n.n<(18446744073709551616:Nat)->q2.b.length*(1:Nat)<=(140737488355328:Nat)->s.snd.length<=(20000:Nat)/\(ej s.snd q2=false->r0=[]/\(5:Int)=r1)/\(ej s.snd q2=true->(s.snd.length+[q2].length)*(48:Nat)<=(140737488355328:Nat)/\I64 q3/\∃ (s':Nat × List Field),(b=b/\q3=(↑s'.fst:Int)/\s.snd++[q2]=s'.snd)/\(Wq (gE b s'.fst s'.snd)/\s'.fst<=b.length/\s'.snd.length<=s'.fst)/\b.length - s'.fst<b.length - s.fst)))))/\(q0<=q5->s.snd=r0/\q1=r1)) (iA (List.take (q3.toNat - s.fst) (List.drop s.fst b)))) (q5+(↑q4.fst:Int))) (bd (List.drop s.fst b))) (↑s.fst:Int))) (↑b.length:Int)) (0:Int)):=by kernel_rfl
theorem Ho (b:List UInt8):Sat Tryz.prog (ao aF) 51 [.c (.fz .u8 (b))] [] ⟨[],[.c (.fz (.nm .field) (((bz b).1))),.c (.int (((bz b).2)))],none,false⟩:=by
 refine aM yx (CR b) Tryz.func51 (by decide) (by kernel_rfl) ?_
 rw [IS]
 (repeat' (first | with_reducible refine And.intro ?_ ?_ | with_reducible refine and_imp.2 ?_ | intro))
 all_goals try (first | (first | with_reducible rfl | with_reducible assumption | omega | (refine ag ?_ ?_ <;> omega)) | exact rfl | exact ⟨oM (by omega)⟩ | (rw [Rv (by with_reducible assumption)] <;> rfl) | (rw [Sn (by with_reducible assumption) (by with_reducible assumption) (by with_reducible assumption)] <;> rfl) | (rw [Rx (by with_reducible assumption) (by with_reducible assumption) (by with_reducible assumption) (by with_reducible assumption)] <;> rfl) | (rw [Rl (by with_reducible assumption) (by with_reducible assumption)] <;> rfl) | exact (Rf (by with_reducible assumption) (by with_reducible assumption) (by with_reducible assumption) (by with_reducible assumption)) | exact (Sc (by with_reducible assumption)) | exact (Rh (by with_reducible assumption) (by with_reducible assumption)) | exact (R_ (by with_reducible assumption) (by with_reducible assumption)) | (have h:=ld (b.drop ‹Nat × List Field›.1); rw [List.length_drop] at h; first | omega | (refine ag ?_ ?_ <;> omega)) | (simp only [List.length_cons,List.length_nil]; omega))
 all_goals try (refine ⟨(0,[]),?_⟩; (repeat' (first | with_reducible refine And.intro ?_ ?_ | with_reducible refine and_imp.2 ?_ | intro)))
 all_goals try (first | (first | with_reducible rfl | with_reducible assumption | omega | (refine ag ?_ ?_ <;> omega)) | exact rfl | exact ⟨oM (by omega)⟩ | (rw [Rv (by with_reducible assumption)] <;> rfl) | (rw [Sn (by with_reducible assumption) (by with_reducible assumption) (by with_reducible assumption)] <;> rfl) | (rw [Rx (by with_reducible assumption) (by with_reducible assumption) (by with_reducible assumption) (by with_reducible assumption)] <;> rfl) | (rw [Rl (by with_reducible assumption) (by with_reducible assumption)] <;> rfl) | exact (Rf (by with_reducible assumption) (by with_reducible assumption) (by with_reducible assumption) (by with_reducible assumption)) | exact (Sc (by with_reducible assumption)) | exact (Rh (by with_reducible assumption) (by with_reducible assumption)) | exact (R_ (by with_reducible assumption) (by with_reducible assumption)) | (have h:=ld (b.drop ‹Nat × List Field›.1); rw [List.length_drop] at h; first | omega | (refine ag ?_ ?_ <;> omega)) | (simp only [List.length_cons,List.length_nil]; omega))
 all_goals try (refine ⟨G_ b ‹Nat × List Field›,?_⟩; (repeat' (first | with_reducible refine And.intro ?_ ?_ | with_reducible refine and_imp.2 ?_ | intro)))
 all_goals (first | (first | with_reducible rfl | with_reducible assumption | omega | (refine ag ?_ ?_ <;> omega)) | exact rfl | exact ⟨oM (by omega)⟩ | (rw [Rv (by with_reducible assumption)] <;> rfl) | (rw [Sn (by with_reducible assumption) (by with_reducible assumption) (by with_reducible assumption)] <;> rfl) | (rw [Rx (by with_reducible assumption) (by with_reducible assumption) (by with_reducible assumption) (by with_reducible assumption)] <;> rfl) | (rw [Rl (by with_reducible assumption) (by with_reducible assumption)] <;> rfl) | exact (Rf (by with_reducible assumption) (by with_reducible assumption) (by with_reducible assumption) (by with_reducible assumption)) | exact (Sc (by with_reducible assumption)) | exact (Rh (by with_reducible assumption) (by with_reducible assumption)) | exact (R_ (by with_reducible assumption) (by with_reducible assumption)) | (have h:=ld (b.drop ‹Nat × List Field›.1); rw [List.length_drop] at h; first | omega | (refine ag ?_ ?_ <;> omega)) | (simp only [List.length_cons,List.length_nil]; omega))
noncomputable def Ov:cH:=(bB 51 (bw (ai (kC (cL .u8)) aH) aJ fun (b,_) (_)=>⟨[],[.c (.fz (.nm .field) (((bz b).1))),.c (.int (((bz b).2)))],none,false⟩) NC)
theorem yt:aS Tryz.prog (ao aF) Ov:=(aq (au (ab (al bp) aj) ak fun (b,_) (_) _=>Ho b ) yx)
end Go.Proofs.YtladifkbefehdaaGreat
namespace Go.Proofs.YtladifkbefehdaaGreat
open Go.RowKit
theorem QO {v:Int} (h:cq v=true):1<=v/\v<=3:=by
 unfold cq at h; simpa using h
theorem RJ {b:List UInt8} {v:Int} (h1:(bz b).2=0) (h2:fw (bz b).1 v=0):hX b v=0:=by rw [hX,if_pos h1,h2]
theorem SS {b:List UInt8} {v:Int} (h:cq v=false):bD b v=⟨cu,[],1⟩:=Px (fun h2=>by unfold cq at h; simp only [h2,decide_true,Bool.and_self] at h; cases h)
theorem Tx {b:List UInt8} {v:Int} (h:cq v=true) (h1:(bz b).2=0) (h2:¬ fw (bz b).1 v=0):bD b v=⟨cu,[],fw (bz b).1 v⟩:=by
 have e:hX b v=fw (bz b).1 v:=by rw [hX,if_pos h1]
 rw [NN (QO h) (by rw [e]; exact h2),e]
theorem S_ {b:List UInt8} {v:Int} (h:cq v=true) (h1:¬ (bz b).2=0):bD b v=⟨cu,[],(bz b).2⟩:=by
 have e:hX b v=(bz b).2:=by rw [hX,if_neg h1]
 rw [NN (QO h) (by rw [e]; exact h1),e]
theorem Tu {b:List UInt8} {v:Int} (h:cq v=true) (h1:(bz b).2=0) (h2:fw (bz b).1 v=0) (h3:¬ bP (cd (cS (bz b).1 (bk v))) (dg (bz b).1 (bk v)) v=0\/decide (cc (cd (cS (bz b).1 (bk v))) (dg (bz b).1 (bk v)) v=b)=false):bD b v=⟨cu,[],6⟩:=
 QH (QO h) (RJ h1 h2) (h3.imp_right fun h=>by simpa using h)
theorem Tl {b:List UInt8} {v:Int} (h:cq v=true) (h1:(bz b).2=0) (h2:fw (bz b).1 v=0) (h3:bP (cd (cS (bz b).1 (bk v))) (dg (bz b).1 (bk v)) v=0) (h4:decide (cc (cd (cS (bz b).1 (bk v))) (dg (bz b).1 (bk v)) v=b)=true):bD b v=⟨cd (cS (bz b).1 (bk v)),dg (bz b).1 (bk v),0⟩:=
 Lk (QO h) (RJ h1 h2) ⟨h3,of_decide_eq_true h4⟩
theorem Ji (b:List UInt8) (v:Int) (r0:Command) (r1:List Field) (r2:Int):cA aF Ov [] Tryz.f28 [.c (.fz .u8 (b)),.c (.int (v))] [] [.agg (cellsOf (.nm .command) r0),.c (.fz (.nm .field) (r1)),.c (.int (r2))]=((fun (q8:Nat)=>(fun (q7:Int)=>(fun (q6:Prop)=>(fun (q5:Prop)=>(fun (q4:List Field)=>(fun (q3:List Field)=>(fun (q2:Int)=>(fun (q1:Command)=>(fun (q0:Prop)=>b.length*(1:Nat)<=q8->I64 v->(cq v=false->q2=r0.kind/\q2=r0.client/\q2=r0.seq/\q2=r0.set/\q2=r0.id/\q2=r0.n/\q6/\q5/\r1=[]/\(1:Int)=r2)/\(cq v=true->q4.length*(48:Nat)<=q8->I64 q7->(q7=q2->(1:Int)=(1:Int)/\(I64 (fw q4 v)->(¬fw q4 v=q2->q2=r0.kind/\q2=r0.client/\q2=r0.seq/\q2=r0.set/\q2=r0.id/\q2=r0.n/\q6/\q5/\r1=[]/\fw q4 v=r2)/\(fw q4 v=q2->q0)))/\(¬q7=q2->(¬q7=q2->q2=r0.kind/\q2=r0.client/\q2=r0.seq/\q2=r0.set/\q2=r0.id/\q2=r0.n/\q6/\q5/\r1=[]/\q7=r2)/\(q7=q2->q0)))) ((1:Int)=(1:Int)/\(I64 (bk v)->(cS q4 (bk v)).length*(48:Nat)<=q8->q3.length*(48:Nat)<=q8->(∀ (f:Field),List.Mem f (cS q4 (bk v))->f.b.length<=(16384:Nat))/\(I64 q1.kind->I64 q1.client->I64 q1.seq->I64 q1.set->I64 q1.id->I64 q1.n->q1.chunks.length*(8:Nat)<=q8->q1.text.b.length<=q8->q3.length<=(20000:Nat)/\(I64 (bP q1 q3 v)->(¬bP q1 q3 v=q2\/decide (cc q1 q3 v=b)=false->q2=r0.kind/\q2=r0.client/\q2=r0.seq/\q2=r0.set/\q2=r0.id/\q2=r0.n/\q6/\q5/\r1=[]/\(6:Int)=r2)/\(bP q1 q3 v=q2/\decide (cc q1 q3 v=b)=true->q1.kind=r0.kind/\q1.client=r0.client/\q1.seq=r0.seq/\q1.set=r0.set/\q1.id=r0.id/\q1.n=r0.n/\q1.chunks=r0.chunks/\q1.text=r0.text/\q3=r1/\q2=r2)))))) (cd (cS q4 (bk v)))) (0:Int)) (dg q4 (bk v))) (bz b).fst) (Str.mk []=r0.text)) (r0.chunks=[])) (bz b).snd) (140737488355328:Nat)):=by kernel_rfl
theorem Hq (b:List UInt8) (v:Int):Sat Tryz.prog (ao aF) 28 [.c (.fz .u8 (b)),.c (.int (v))] [] ⟨[],[.agg (cellsOf (.nm .command) ((bD b v).c)),.c (.fz (.nm .field) (((bD b v).r))),.c (.int (((bD b v).e)))],none,false⟩:=by
 refine aM yt [] Tryz.func28 (by decide) (by kernel_rfl) ?_
 rw [Ji]
 (repeat' (first | with_reducible refine And.intro ?_ ?_ | with_reducible refine and_imp.2 ?_ | intro))
 all_goals (first | (first | with_reducible rfl | with_reducible assumption | omega | (refine ag ?_ ?_ <;> omega)) | (rw [SS (by with_reducible assumption)] <;> rfl) | (rw [Tx (by with_reducible assumption) (by with_reducible assumption) (by with_reducible assumption)] <;> rfl) | (rw [S_ (by with_reducible assumption) (by with_reducible assumption)] <;> rfl) | (rw [Tu (by with_reducible assumption) (by with_reducible assumption) (by with_reducible assumption) (by assumption)] <;> rfl) | (rw [Tl (by with_reducible assumption) (by with_reducible assumption) (by with_reducible assumption) (by with_reducible assumption) (by with_reducible assumption)] <;> rfl) | exact (MY (RJ (by with_reducible assumption) (by with_reducible assumption)) _ (by assumption)) | (have h1:=nt (bz b).1 (bk v); have h2:=Hz b; omega))
noncomputable def Ah:cH:=(bB 28 (bw (ai (kC (cL .u8)) (ai (kC cI) aH)) aJ fun (b,v,_) (_)=>⟨[],[.agg (cellsOf (.nm .command) ((bD b v).c)),.c (.fz (.nm .field) (((bD b v).r))),.c (.int (((bD b v).e)))],none,false⟩) Ov)
theorem ke:aS Tryz.prog (ao aF) Ah:=(aq (au (ab (al bp) (ab (al av) aj)) ak fun (b,v,_) (_) _=>Hq b v ) yt)
end Go.Proofs.YtladifkbefehdaaGreat
namespace Go.Proofs.YtladifkbefehdaaGreat
open Go.RowKit
theorem FI (k:UInt8):0<=((k.toNat:Nat):Int).tmod 3/\((k.toNat:Nat):Int).tmod 3<=2:=by
 rw [Int.tmod_eq_emod_of_nonneg (by omega)]; omega
theorem FY {c:Command} (h1:I64 c.kind) (h2:I64 c.client) (h3:I64 c.seq) (h4:I64 c.set) (h5:I64 c.id) (h6:I64 c.n):I6 (GD c):=⟨h1.2,h2.2,h3.2,h4.2,h5.2,h6.2⟩
theorem Tg {b:List UInt8} {v:Int} (h:(bD b v).e=0):bD b v=⟨cd (cS (bz b).1 (bk v)),dg (bz b).1 (bk v),0⟩/\bP (bD b v).c (bD b v).r v=0/\cc (bD b v).c (bD b v).r v=b:=by
 by_cases h1:1<=v/\v<=3
 ·by_cases h2:hX b v=0
  ·by_cases h3:bP (cd (cS (bz b).1 (bk v))) (dg (bz b).1 (bk v)) v=0/\cc (cd (cS (bz b).1 (bk v))) (dg (bz b).1 (bk v)) v=b
   ·rw [Lk h1 h2 h3]; exact ⟨rfl,h3.1,h3.2⟩
   ·rw [QH h1 h2 (by by_cases h4:bP (cd (cS (bz b).1 (bk v))) (dg (bz b).1 (bk v)) v=0; exact .inr fun h5=>h3 ⟨h4,h5⟩; exact .inl h4)] at h; cases h
  ·rw [NN h1 h2] at h; exact absurd h h2
 ·rw [Px h1] at h; cases h
end Go.Proofs.YtladifkbefehdaaGreat
namespace Go.Proofs.YtladifkbefehdaaGreat
open Go.RowKit
def lI (c:Command) (l:List Field) (w v:Int):List Field:=(if w=3/\v<3 then ic 8 c.text.b else [])++l
theorem xf {c:Command} {l:List Field} {w v:Int} (hw:1<=w/\w<=3) (hvw:v<=w):aG (eU c v) v++lI c l w v=aG c w++l:=by
 by_cases h3:3<=v
 ·have e1:v=3:=by omega
  have e2:w=3:=by omega
  subst e1; subst e2
  rw [FJ]; unfold lI; rw [if_neg (by omega)]; rfl
 ·unfold lI
  rw [show aG (eU c v) v=c_ c by unfold aG; rw [if_neg h3]; rfl]
  by_cases h33:w=3
  ·rw [if_pos ⟨h33,by omega⟩,<- List.append_assoc,show aG c w=c_ c++ic 8 c.text.b by unfold aG; rw [if_pos (by omega)]]
  ·rw [if_neg (fun h=>h33 h.1),show aG c w=c_ c by unfold aG; rw [if_neg (by omega)]]; rfl
theorem rB {n m:Int} {b:Bool} (h:jl n m b=true) (hm:0<=m):0<=n/\n<=m:=by
 unfold jl at h; cases b <;> simp at h <;> omega
theorem Hk {k:Int} (h:1<=k/\k<=12):(iN k).2<=64:=by
 have:k=1\/k=2\/k=3\/k=4\/k=5\/k=6\/k=7\/k=8\/k=9\/k=10\/k=11\/k=12:=by omega
 rcases this with rfl | rfl | rfl | rfl | rfl | rfl | rfl | rfl | rfl | rfl | rfl | rfl <;> decide
theorem OH {c:Command} {w v:Int} (hw:1<=w/\w<=3) (hv:1<=v) (hvw:v<=w) (h:cJ c w=true\/aX c w=0):cJ (eU c v) v=true\/aX (eU c v) v=0:=by
 by_cases h3:v=3
 ·have e:w=3:=by omega
  subst h3; subst e; rw [FJ]; exact h
 ·have hn:eU c v=Command.mk c.kind c.client c.seq c.set c.id c.n c.chunks ⟨[]⟩:=by unfold eU; rw [if_pos (by omega)]
  rcases h with h | h
  ·left
   rw [hn]
   unfold cJ at h ⊢
   simp only [Bool.and_eq_true,Bool.or_eq_true,decide_eq_true_eq] at h ⊢
   obtain ⟨⟨⟨⟨h1,h2⟩,h4⟩,h5⟩,_⟩:=h
   exact ⟨⟨⟨⟨h1,h2.imp_right (fun h=>by omega)⟩,h4⟩,h5⟩,.inl rfl⟩
  ·obtain ⟨_,hn0,hl,hf⟩:=eA h
   have hr:=jV hn0
   by_cases hk:aQ c.kind<=v
   ·right
    have hm:aX c v=0:=by rw [wq ⟨hv,by omega⟩ hn0 hk,hf]; rfl
    have ht:=kQ hm (by omega)
    rw [hn,<- ht]; exact hm
   ·left
    have hs:=yA hr
    have hs2:=Hk hr
    unfold eE at hf
    simp only [Bool.and_eq_true,decide_eq_true_eq] at hf
    obtain ⟨⟨⟨⟨⟨⟨⟨a1,a2⟩,a3⟩,_⟩,a4⟩,a5⟩,a6⟩,a7⟩:=hf
    have b4:=rB a4 (by decide)
    have b5:=rB a5 (by decide)
    have b6:=rB a6 (by decide)
    have b7:=rB a7 (by decide)
    have hc:((c.chunks.length:Nat):Int)=0\/rowF c.chunks=true:=by
     unfold xc at a3
     split at a3
     ·exact .inr a3
     ·exact .inl (of_decide_eq_true a3)
    rw [hn]
    unfold cJ na bE
    simp only [Bool.and_eq_true,Bool.or_eq_true,decide_eq_true_eq]
    exact ⟨⟨⟨⟨by omega,by omega⟩,⟨⟨⟨⟨by omega,by omega⟩,by omega⟩,by omega⟩,by omega⟩⟩,hc⟩,.inl rfl⟩
theorem IQ {c:Command} {l:List Field} {w v:Int} (hw:1<=w/\w<=3) (hv:1<=v) (hvw:v<=w) (hr:∀ f ∈ l,bk w<f.num):∀ f ∈ lI c l w v,bk v<f.num:=by
 have htv:=CX (v:=v) ⟨hv,by omega⟩
 have htw:=CX (v:=w) hw
 have hle:bk v<=bk w:=by rw [htv,htw]; split <;> split <;> omega
 intro f hf
 unfold lI at hf
 rcases List.mem_append.1 hf with hf | hf
 ·split at hf
  ·have:=(wK hf).1
   rw [htv,if_neg (by omega)]; omega
  ·cases hf
 ·have:=hr f hf; omega
theorem It {c:Command} {l:List Field} {w v:Int} (h:bP c l w=0) (hv:1<=v) (hvw:v<=w):bP (eU c v) (lI c l w v) v=0/\cc (eU c v) (lI c l w v) v=cc c l w:=by
 obtain ⟨⟨hw,ho,hr⟩,hm,hb⟩:=ja h
 have e:=xf (c:=c) (l:=l) hw hvw
 have hall:=IQ (c:=c) hw hv hvw hr
 have hbad:cr (eU c v) (lI c l w v) v=0:=LY (k:=(lI c l w v).length) (by unfold bE; rw [decide_eq_true hv,decide_eq_true (show v<=3 by omega)]; rfl) (OH hw hv hvw ho) (fun j y _ hy=>by have:=hall y (List.mem_of_getElem? hy); omega) (Nat.le_refl _)
 exact ⟨by rw [bP,if_pos hbad,e,hm],by rw [cc,if_pos hbad,e,hb]⟩
theorem QA {c:Command} {l:List Field} {w v:Int} (hu:∀ f ∈ l,lY f):∀ f ∈ lI c l w v,lY f:=by
 intro f hf
 unfold lI at hf
 rcases List.mem_append.1 hf with hf | hf
 ·split at hf
  ·exact xt f hf
  ·cases hf
 ·exact hu f hf
end Go.Proofs.YtladifkbefehdaaGreat
namespace Go.Proofs.YtladifkbefehdaaGreat
open Go.RowKit
theorem RO {p:List UInt8} {r n:Nat} (h:p++bq r=bq n) (hr:¬ r<128):(p++[UInt8.ofNat ((r % 128+128) % 18446744073709551616)])++bq (r / 128)=bq n:=by
 rw [Nat.mod_eq_of_lt (show r % 128+128<18446744073709551616 by omega)]; exact AT h hr
theorem RS {p:List UInt8} {r n:Nat} {x:UInt8} (h:p++bq r=bq n) (hn:n<18446744073709551616):(p.length+[x].length)*1<=140737488355328:=by
 have:=Fv h hn; rw [List.length_singleton]; omega
def KP (n:U64):List (Nat × LI):=[(2,{ σ:=List UInt8 × Nat,F:=fun s=>([(0,one (.u64 s.2)),(3,one (.own 0))],[.row 5 .u8 ((s.1))]),J:=fun s=>s.1++bq s.2=bq n.n/\s.2<18446744073709551616/\n.n<18446744073709551616,μ:=fun s=>s.2 })]
theorem Nt (n:U64) (r0:List UInt8):ma aF Ah (KP n) Tryz.f123 [.c (.u64 (n).n)] [] [.c (.own 0)] [.row 5 .u8 (r0)]=((fun (q1:Nat)=>(fun (q0:Nat)=>n.n<q1->∃ (s0:List UInt8 × Nat),(n.n=s0.snd/\s0.fst=[])/\(s0.fst++bq s0.snd=bq n.n/\s0.snd<q1/\n.n<q1)/\∀ (s:List UInt8 × Nat),(fun (q2:List (den Sh.u8))=>s.fst++bq s.snd=bq n.n/\s.snd<q1/\n.n<q1->((↑q0:Int)<=(↑s.snd:Int)->(0:Nat)<q0/\(s.fst.length+q2.length)*(1:Nat)<=(140737488355328:Nat)/\(0:Nat)<q0/\∃ (s':List UInt8 × Nat),(s.snd / q0=s'.snd/\s.fst++q2=s'.fst)/\(s'.fst++bq s'.snd=bq n.n/\s'.snd<q1/\n.n<q1)/\s'.snd<s.snd)/\((↑s.snd:Int)<(↑q0:Int)->(s.fst.length+[UInt8.ofNat s.snd].length)*(1:Nat)<=(140737488355328:Nat)/\s.fst++[UInt8.ofNat s.snd]=r0)) [UInt8.ofNat ((s.snd % q0+q0) % q1)]) (128:Nat)) (18446744073709551616:Nat)):=by kernel_rfl
theorem Nf (n:U64):Sat Tryz.prog (ao aF) 123 [.c (.u64 (n).n)] [] ⟨[],[.c (.own 0)],some ([.row 5 .u8 ((bq n.n))]),true⟩:=by
 refine di ke (KP n) Tryz.func123 (by decide) (by kernel_rfl) ?_
 rw [Nt]
 (repeat' (first | with_reducible refine And.intro ?_ ?_ | with_reducible refine and_imp.2 ?_ | intro))
 all_goals try (first | (first | with_reducible rfl | with_reducible assumption | omega | (refine ag ?_ ?_ <;> omega)) | exact (RO (by with_reducible assumption) (by omega)) | exact (pw (by with_reducible assumption) (by omega)) | exact rfl | exact (RS (by with_reducible assumption) (by with_reducible assumption)))
 all_goals try (refine ⟨([],n.n),?_⟩; (repeat' (first | with_reducible refine And.intro ?_ ?_ | with_reducible refine and_imp.2 ?_ | intro)))
 all_goals try (first | (first | with_reducible rfl | with_reducible assumption | omega | (refine ag ?_ ?_ <;> omega)) | exact (RO (by with_reducible assumption) (by omega)) | exact (pw (by with_reducible assumption) (by omega)) | exact rfl | exact (RS (by with_reducible assumption) (by with_reducible assumption)))
 all_goals try (refine ⟨(‹List UInt8 × Nat›.1++[UInt8.ofNat ((‹List UInt8 × Nat›.2 % 128+128) % 18446744073709551616)],‹List UInt8 × Nat›.2 / 128),?_⟩; (repeat' (first | with_reducible refine And.intro ?_ ?_ | with_reducible refine and_imp.2 ?_ | intro)))
 all_goals (first | (first | with_reducible rfl | with_reducible assumption | omega | (refine ag ?_ ?_ <;> omega)) | exact (RO (by with_reducible assumption) (by omega)) | exact (pw (by with_reducible assumption) (by omega)) | exact rfl | exact (RS (by with_reducible assumption) (by with_reducible assumption)))
theorem Eg (a:Field) (f:Field) (r0:Bool):cA aF Ah [] Tryz.f115 [.agg (cellsOf (.nm .field) a),.agg (cellsOf (.nm .field) f)] [] [.c (.bool (.atom (r0)))]=(I64 a.num->I64 a.wire->a.n.n<(18446744073709551616:Nat)->a.b.length*(1:Nat)<=(140737488355328:Nat)->I64 f.num->I64 f.wire->f.n.n<(18446744073709551616:Nat)->f.b.length*(1:Nat)<=(140737488355328:Nat)->(decide (f.num<a.num) || decide (f.num=a.num) && (!decide (a.wire=(2:Int)) || !decide (f.wire=(2:Int))))=r0):=by kernel_rfl
theorem Cu (a:Field) (f:Field):Sat Tryz.prog (ao aF) 115 [.agg (cellsOf (.nm .field) a),.agg (cellsOf (.nm .field) f)] [] ⟨[],[.c (.bool (.atom ((!dC a f))))],none,false⟩:=by
 refine aM ke [] Tryz.func115 (by decide) (by kernel_rfl) ?_
 rw [Eg]
 grind [dC]
theorem Oq (a:Int) (b:Int) (n:Bool) (r0:Spec):cA aF Ah [] Tryz.f167 [.c (.int (a)),.c (.int (b)),.c (.bool (.atom (n)))] [] [.agg (cellsOf (.nm .spec) r0)]=(I64 a->I64 b->a=r0.num/\(0:Int)=r0.wire/\b=r0.since/\n=r0.need/\false=r0.many):=by kernel_rfl
theorem LL (a:Int) (b:Int) (n:Bool):Sat Tryz.prog (ao aF) 167 [.c (.int (a)),.c (.int (b)),.c (.bool (.atom (n)))] [] ⟨[],[.agg (cellsOf (.nm .spec) (⟨a,0,b,n,false⟩))],none,false⟩:=by
 refine aM ke [] Tryz.func167 (by decide) (by kernel_rfl) ?_
 rw [Oq]
 grind
theorem LS (a:Int) (b:Int) (n:Bool) (m:Bool) (r0:Spec):cA aF Ah [] Tryz.f168 [.c (.int (a)),.c (.int (b)),.c (.bool (.atom (n))),.c (.bool (.atom (m)))] [] [.agg (cellsOf (.nm .spec) r0)]=(I64 a->I64 b->a=r0.num/\(2:Int)=r0.wire/\b=r0.since/\n=r0.need/\m=r0.many):=by kernel_rfl
theorem Mi (a:Int) (b:Int) (n:Bool) (m:Bool):Sat Tryz.prog (ao aF) 168 [.c (.int (a)),.c (.int (b)),.c (.bool (.atom (n))),.c (.bool (.atom (m)))] [] ⟨[],[.agg (cellsOf (.nm .spec) (⟨a,2,b,n,m⟩))],none,false⟩:=by
 refine aM ke [] Tryz.func168 (by decide) (by kernel_rfl) ?_
 rw [LS]
 grind
noncomputable def CD:cH:=(bB 168 (bw (ai (kC cI) (ai (kC cI) (ai (kC cB) (ai (kC cB) aH)))) aJ fun (a,b,n,m,_) (_)=>⟨[],[.agg (cellsOf (.nm .spec) (⟨a,2,b,n,m⟩))],none,false⟩) (bB 167 (bw (ai (kC cI) (ai (kC cI) (ai (kC cB) aH))) aJ fun (a,b,n,_) (_)=>⟨[],[.agg (cellsOf (.nm .spec) (⟨a,0,b,n,false⟩))],none,false⟩) (bB 115 (bw (ai (kT (.nm .field)) (ai (kT (.nm .field)) aH)) aJ fun (a,f,_) (_)=>⟨[],[.c (.bool (.atom ((!dC a f))))],none,false⟩) (bB 123 (bw (ai (kC cU) aH) aJ fun (n,_) (_)=>⟨[],[.c (.own 0)],some ([.row 5 .u8 ((bq n.n))]),true⟩) Ah))))
theorem nG:aS Tryz.prog (ao aF) CD:=(aq (au (ab (al av) (ab (al av) (ab (al lz) (ab (al lz) aj)))) ak fun (a,b,n,m,_) (_) _=>Mi a b n m ) (aq (au (ab (al av) (ab (al av) (ab (al lz) aj))) ak fun (a,b,n,_) (_) _=>LL a b n ) (aq (au (ab br (ab br aj)) ak fun (a,f,_) (_) _=>Cu a f ) (aq (au (ab (al CC) aj) ak fun (n,_) (_) _=>Nf n ) ke))))
end Go.Proofs.YtladifkbefehdaaGreat
namespace Go.Proofs.YtladifkbefehdaaGreat
open Go.RowKit
def KW (l:List Int):List (Nat × LI):=[(5,{ σ:=Nat,F:=fun k=>([(0,one (.fz .int (l))),(4,one (.own 0)),(5,one (.int k))],[.row 5 .u8 ((dE (l.take k)))]),J:=fun k=>k<=l.length/\rowF l=true,μ:=fun k=>l.length - k })]
theorem Md (num:Int) (wire:Int) (r0:Int) (r1:List UInt8):ma aF CD [] Tryz.f122 [.c (.int (num)),.c (.int (wire))] [] [.c (.own 0),.c (.int (r0))] [.row 5 .u8 (r1)]=((fun (q0:Int)=>I64 num->I64 wire->((num<(1:Int)\/(1000:Int)<num)\/¬wire=(0:Int)/\¬wire=(2:Int)->(1:Int)=r0/\r1=[])/\(((1:Int)<=num/\num<=(1000:Int))/\(wire=(0:Int)\/wire=(2:Int))->I64 ((8:Int)*num)/\I64 q0/\(0:Int)<=q0/\(0:Int)=r0/\bq q0.toNat=r1)) ((8:Int)*num+wire)):=by kernel_rfl
theorem Nd (num:Int) (wire:Int):Sat Tryz.prog (ao aF) 122 [.c (.int (num)),.c (.int (wire))] [] ⟨[],[.c (.own 0),.c (.int ((jB num wire)))],some ([.row 5 .u8 ((ef num wire))]),true⟩:=by
 refine di nG [] Tryz.func122 (by decide) (by kernel_rfl) ?_
 rw [Md]
 (repeat' (first | with_reducible refine And.intro ?_ ?_ | with_reducible refine and_imp.2 ?_ | intro))
 all_goals (first | (first | with_reducible rfl | with_reducible assumption | omega | (refine ag ?_ ?_ <;> omega)) | exact (nF (by omega)) | exact (j_ (by omega)) | exact (nv (by omega)).symm | exact (nv (by omega)) | exact (om (by omega)))
theorem NI (q:Int) (r0:List Spec):cA aF CD [] Tryz.f121 [.c (.int (q))] [] [.c (.fz (.nm .spec) (r0))]=((fun (q7:Int)=>(fun (q6:Int)=>(fun (q5:Int)=>(fun (q4:Int)=>(fun (q3:Int)=>(fun (q2:Int)=>(fun (q1:Int)=>(fun (q0:Int)=>I64 q->(q=q0->I64 q0->I64 q1->I64 q0->I64 q2->I64 q1->I64 q0->I64 q3->I64 q1->I64 q0->I64 q4->I64 q1->I64 q0->I64 q5->I64 q1->I64 q0->I64 q6->I64 q1->I64 q0->I64 q7->I64 q2->I64 q0->I64 (8:Int)->I64 q2->I64 q3->[Spec.mk q0 q1 q0 true false,Spec.mk q2 q1 q0 false false,Spec.mk q3 q1 q0 false false,Spec.mk q4 q1 q0 false false,Spec.mk q5 q1 q0 false false,Spec.mk q6 q1 q0 false false,Spec.mk q7 q2 q0 false false,Spec.mk (8:Int) q2 q3 false false]=r0)/\(¬q=q0->(q=q2->I64 q0->I64 q1->I64 q0->I64 q2->I64 q1->I64 q0->I64 q3->I64 q2->I64 q0->I64 q4->I64 q1->I64 q2->I64 q5->I64 q2->I64 q3->[Spec.mk q0 q1 q0 true false,Spec.mk q2 q1 q0 true false,Spec.mk q3 q2 q0 true false,Spec.mk q4 q1 q2 false false,Spec.mk q5 q2 q3 false false]=r0)/\(¬q=q2->(q=q3->I64 q0->I64 q1->I64 q0->I64 q2->I64 q1->I64 q0->[Spec.mk q0 q1 q0 true false,Spec.mk q2 q1 q0 true false]=r0)/\(¬q=q3->(q=q4->I64 q0->I64 q1->I64 q0->I64 q2->I64 q1->I64 q0->I64 q3->I64 q1->I64 q0->I64 q4->I64 q1->I64 q0->[Spec.mk q0 q1 q0 true false,Spec.mk q2 q1 q0 false false,Spec.mk q3 q1 q0 false false,Spec.mk q4 q1 q0 false false]=r0)/\(¬q=q4->(q=q5->I64 q0->I64 q1->I64 q0->I64 q2->I64 q1->I64 q0->I64 q3->I64 q1->I64 q0->I64 q4->I64 q2->I64 q0->I64 q5->I64 q2->I64 q0->I64 q6->I64 q2->I64 q0->I64 q7->I64 q1->I64 q3->[Spec.mk q0 q1 q0 true false,Spec.mk q2 q1 q0 true false,Spec.mk q3 q1 q0 false false,Spec.mk q4 q2 q0 false true,Spec.mk q5 q2 q0 false true,Spec.mk q6 q2 q0 false true,Spec.mk q7 q1 q3 false false]=r0)/\(¬q=q5->(q=q6->I64 q0->I64 q1->I64 q0->I64 q2->I64 q1->I64 q0->I64 q3->I64 q1->I64 q0->I64 q4->I64 q1->I64 q0->I64 q5->I64 q1->I64 q0->I64 q6->I64 q1->I64 q0->I64 q7->I64 q1->I64 q0->I64 (8:Int)->I64 q1->I64 q0->I64 (9:Int)->I64 q1->I64 q0->I64 (10:Int)->I64 q2->I64 q0->[Spec.mk q0 q1 q0 true false,Spec.mk q2 q1 q0 true false,Spec.mk q3 q1 q0 true false,Spec.mk q4 q1 q0 true false,Spec.mk q5 q1 q0 false false,Spec.mk q6 q1 q0 false false,Spec.mk q7 q1 q0 false false,Spec.mk (8:Int) q1 q0 false false,Spec.mk (9:Int) q1 q0 false false,Spec.mk (10:Int) q2 q0 false true]=r0)/\(¬q=q6->(q=q7->I64 q0->I64 q1->I64 q0->I64 q2->I64 q2->I64 q0->[Spec.mk q0 q1 q0 true false,Spec.mk q2 q2 q0 false false]=r0)/\(¬q=q7->r0=[])))))))) (1:Int)) (0:Int)) (2:Int)) (3:Int)) (4:Int)) (5:Int)) (6:Int)) (7:Int)):=by kernel_rfl
theorem Oz (q:Int) (h0:q=1):Sat Tryz.prog (ao aF) 121 [.c (.int (q))] [] ⟨[q=1],[.c (.fz (.nm .spec) ((aO)))],none,false⟩:=by
 refine aM nG [] Tryz.func121 (by decide) (by kernel_rfl) ?_
 rw [NI]
 subst h0; (repeat' (first | with_reducible refine And.intro ?_ ?_ | with_reducible refine and_imp.2 ?_ | intro))
 all_goals (first | (first | with_reducible rfl | with_reducible assumption | omega | (refine ag ?_ ?_ <;> omega)) | exact rfl)
theorem OF (l:List Int) (r0:Int) (r1:List UInt8):ma aF CD (KW l) Tryz.f90 [.c (.fz .int (l))] [] [.c (.own 0),.c (.int (r0))] [.row 5 .u8 (r1)]=((fun (q0:Prop)=>l.length*(8:Nat)<=(140737488355328:Nat)->(rowF l=false->(1:Int)=r0/\r1=[])/\(q0->∃ (s0:Nat),(l=l/\(0:Int)=(↑s0:Int)/\dE (List.take s0 l)=[])/\(s0<=l.length/\q0)/\∀ (s:Nat),s<=l.length/\q0->((↑s:Int)<(↑l.length:Int)->(0:Int)<=(↑s:Int)/\(↑s:Int)<(↑l.length:Int)/\∀ (x:Int),l[s]? = some x->I64 x->(0:Int)<=x/\((dE (List.take s l)).length+(bq x.toNat).length)*(1:Nat)<=(140737488355328:Nat)/\I64 ((↑s:Int)+(1:Int))/\∃ (s':Nat),(l=l/\(↑s:Int)+(1:Int)=(↑s':Int)/\dE (List.take s l)++bq x.toNat=dE (List.take s' l))/\(s' <= l.length/\q0)/\l.length - s' < l.length - s)/\((↑l.length:Int)<=(↑s:Int)->(0:Int)=r0/\dE (List.take s l)=r1))) (rowF l=true)):=by kernel_rfl
theorem LB (l:List Int):Sat Tryz.prog (ao aF) 90 [.c (.fz .int (l))] [] ⟨[],[.c (.own 0),.c (.int ((dm l)))],some ([.row 5 .u8 ((bu l))]),true⟩:=by
 refine di nG (KW l) Tryz.func90 (by decide) (by kernel_rfl) ?_
 rw [OF]
 (repeat' (first | with_reducible refine And.intro ?_ ?_ | with_reducible refine and_imp.2 ?_ | intro))
 all_goals try (first | (first | with_reducible rfl | with_reducible assumption | omega | (refine ag ?_ ?_ <;> omega)) | exact rfl | exact (dJ (by with_reducible assumption)).symm | exact (dJ (by with_reducible assumption)) | exact (dV (by with_reducible assumption)) | exact (ea (by with_reducible assumption)) | exact (gB (by with_reducible assumption) (by omega)) | exact (fb (by with_reducible assumption)) | exact (zr (by with_reducible assumption) (by with_reducible assumption)) | exact (mC (by with_reducible assumption) (by with_reducible assumption)))
 all_goals try (refine ⟨0,?_⟩; (repeat' (first | with_reducible refine And.intro ?_ ?_ | with_reducible refine and_imp.2 ?_ | intro)))
 all_goals try (first | (first | with_reducible rfl | with_reducible assumption | omega | (refine ag ?_ ?_ <;> omega)) | exact rfl | exact (dJ (by with_reducible assumption)).symm | exact (dJ (by with_reducible assumption)) | exact (dV (by with_reducible assumption)) | exact (ea (by with_reducible assumption)) | exact (gB (by with_reducible assumption) (by omega)) | exact (fb (by with_reducible assumption)) | exact (zr (by with_reducible assumption) (by with_reducible assumption)) | exact (mC (by with_reducible assumption) (by with_reducible assumption)))
 all_goals try (refine ⟨‹Nat› + 1,?_⟩; (repeat' (first | with_reducible refine And.intro ?_ ?_ | with_reducible refine and_imp.2 ?_ | intro)))
 all_goals (first | (first | with_reducible rfl | with_reducible assumption | omega | (refine ag ?_ ?_ <;> omega)) | exact rfl | exact (dJ (by with_reducible assumption)).symm | exact (dJ (by with_reducible assumption)) | exact (dV (by with_reducible assumption)) | exact (ea (by with_reducible assumption)) | exact (gB (by with_reducible assumption) (by omega)) | exact (fb (by with_reducible assumption)) | exact (zr (by with_reducible assumption) (by with_reducible assumption)) | exact (mC (by with_reducible assumption) (by with_reducible assumption)))
noncomputable def zA:cH:=(bB 90 (bw (ai (kC (cL .int)) aH) aJ fun (l,_) (_)=>⟨[],[.c (.own 0),.c (.int ((dm l)))],some ([.row 5 .u8 ((bu l))]),true⟩) (bB 121 (bw (ai (kC cI) aH) aJ fun (q,_) (_)=>⟨[q=1],[.c (.fz (.nm .spec) ((aO)))],none,false⟩) (bB 122 (bw (ai (kC cI) (ai (kC cI) aH)) aJ fun (num,wire,_) (_)=>⟨[],[.c (.own 0),.c (.int ((jB num wire)))],some ([.row 5 .u8 ((ef num wire))]),true⟩) CD)))
theorem lp:aS Tryz.prog (ao aF) zA:=(aq (au (ab (al bp) aj) ak fun (l,_) (_) _=>LB l ) (aq (au (ab (al av) aj) ak fun (q,_) (_) hp=>Oz q (dx hp)) (aq (au (ab (al av) (ab (al av) aj)) ak fun (num,wire,_) (_) _=>Nd num wire ) nG)))
end Go.Proofs.YtladifkbefehdaaGreat
namespace Go.Proofs.YtladifkbefehdaaGreat
open Go.RowKit
def sQ (c:Command) (k:Nat):List Field:=((List.range k).map fun j=>fL (j+1:Nat) ([c.kind,c.client,c.seq,c.set,c.id,c.n].getD j 0)).flatten
theorem ki {c:Command} {k:Nat}:sQ c (k+1)=sQ c k++fL ((k:Int)+1) ([c.kind,c.client,c.seq,c.set,c.id,c.n].getD k (dflt .int)):=by
 unfold sQ; rw [List.range_succ,List.map_append,List.flatten_append]; simp; rfl
theorem BA {c:Command} {k:Nat} (h:¬ [c.kind,c.client,c.seq,c.set,c.id,c.n].getD k (dflt .int)=0):sQ c k++[Field.mk ((k:Int)+1) 0 (U64.mk ([c.kind,c.client,c.seq,c.set,c.id,c.n].getD k (dflt .int)).toNat) []]=sQ c (k+1):=by rw [ki,fL,if_neg h]
theorem DM {c:Command} {k:Nat} (h:[c.kind,c.client,c.seq,c.set,c.id,c.n].getD k (dflt .int)=0):sQ c k=sQ c (k+1):=by rw [ki,fL,if_pos h,List.append_nil]
theorem nP (c:Command):∀ k,(sQ c k).length<=k
 | 0=>Nat.le_refl _
 | k+1=>by
  have:=nP c k
  have:=eI ((k:Int)+1) ([c.kind,c.client,c.seq,c.set,c.id,c.n].getD k (dflt .int))
  rw [ki,List.length_append]; omega
theorem Ef {c:Command} {k:Nat} (h0:0<=c.kind) (h1:0<=c.client) (h2:0<=c.seq) (h3:0<=c.set) (h4:0<=c.id) (h5:0<=c.n):0<=[c.kind,c.client,c.seq,c.set,c.id,c.n].getD k (dflt .int):=by
 match k with
 | 0=>exact h0
 | 1=>exact h1
 | 2=>exact h2
 | 3=>exact h3
 | 4=>exact h4
 | 5=>exact h5
 | k+6=>exact Int.le_refl 0
theorem uN {c:Command} {k:Nat} (hk:k<=6) (h:(([c.kind,c.client,c.seq,c.set,c.id,c.n].length:Nat):Int)<=(k:Int)):sQ c k++ic 7 (bu c.chunks)=c_ c:=by
 have h6:6<=k:=Int.ofNat_le.1 h
 have e:k=6:=by omega
 subst e
 rw [ki,ki,ki,ki,ki,ki]; rfl
theorem SI {c:Command} (hr:c.chunks.length=0\/rowF c.chunks=true) (hc:0<(c.chunks.length:Int)):[Field.mk 7 2 (U64.mk 0) (bu c.chunks)]=ic 7 (bu c.chunks):=by
 have hr:=hr.resolve_left (by omega)
 rw [ic,if_pos]
 rw [(lK hr).1,List.length_map]; exact hc
theorem RL {c:Command} (hc:(c.chunks.length:Int)<=0):ic 7 (bu c.chunks)=[]:=by
 rw [List.eq_nil_of_length_eq_zero (l:=c.chunks) (by omega)]; rfl
theorem EP {c:Command} {v:Int} {k:Nat} (hk:k<=6) (h:(([c.kind,c.client,c.seq,c.set,c.id,c.n].length:Nat):Int)<=(k:Int)) (hr:c.chunks.length=0\/rowF c.chunks=true) (hc:0<(c.chunks.length:Int)) (ht:0<(c.text.b.length:Int)) (hv:3<=v):sQ c k++[Field.mk 7 2 (U64.mk 0) (bu c.chunks)]++[Field.mk 8 2 (U64.mk 0) c.text.b]=aG c v:=by
 rw [SI hr hc,uN hk h,aG,if_pos hv,ic,if_pos ht]
theorem BV {c:Command} {v:Int} {k:Nat} (hk:k<=6) (h:(([c.kind,c.client,c.seq,c.set,c.id,c.n].length:Nat):Int)<=(k:Int)) (hr:c.chunks.length=0\/rowF c.chunks=true) (hc:0<(c.chunks.length:Int)) (ht:(c.text.b.length:Int)<=0\/v<3):sQ c k++[Field.mk 7 2 (U64.mk 0) (bu c.chunks)]=aG c v:=by
 rw [SI hr hc,uN hk h,aG]
 split
 ·rw [ic,if_neg (by omega),List.append_nil]
 ·rfl
theorem Fq {c:Command} {v:Int} {k:Nat} (hk:k<=6) (h:(([c.kind,c.client,c.seq,c.set,c.id,c.n].length:Nat):Int)<=(k:Int)) (hc:(c.chunks.length:Int)<=0) (ht:0<(c.text.b.length:Int)) (hv:3<=v):sQ c k++[Field.mk 8 2 (U64.mk 0) c.text.b]=aG c v:=by
 rw [aG,if_pos hv,ic,if_pos ht,<- uN hk h,RL hc,List.append_nil]
theorem Gu {c:Command} {v:Int} {k:Nat} (hk:k<=6) (h:(([c.kind,c.client,c.seq,c.set,c.id,c.n].length:Nat):Int)<=(k:Int)) (hc:(c.chunks.length:Int)<=0) (ht:(c.text.b.length:Int)<=0\/v<3):sQ c k=aG c v:=by
 rw [aG]
 split
 ·rw [ic,if_neg (by omega),List.append_nil,<- uN hk h,RL hc,List.append_nil]
 ·rw [<- uN hk h,RL hc,List.append_nil]
def qe (v:Int) (k:Nat):List Spec:=if 1<=v/\v<=3 then (aO.take k).filter (fun s=>decide (s.since<=v)) else []
theorem Dt {v:Int}:qe v 0=[]:=by unfold qe; split <;> rfl
theorem Dq {v:Int} {k:Nat} {x:Spec} (h1:1<=v) (h3:v<=3) (h:(aO.getD k (dflt (.nm .spec))).since<=v) (hx:aO[k]? = some x):qe v k++[x]=qe v (k+1):=by
 rw [List.getD_eq_getElem?_getD,hx] at h
 unfold qe; rw [if_pos ⟨h1,h3⟩,if_pos ⟨h1,h3⟩]; exact kO hx h
theorem FL {v:Int} {k:Nat} (h:(v<1\/3<v)\/v<(aO.getD k (dflt (.nm .spec))).since) (hk:k<8):qe v k=qe v (k+1):=by
 unfold qe
 have hy:aO[k]? = some (aO.getD k (dflt (.nm .spec))):=by rw [List.getD_eq_getElem?_getD,List.getElem?_eq_getElem (show k<aO.length from hk)]; rfl
 by_cases hv:1<=v/\v<=3
 ·rw [if_pos hv,if_pos hv]; exact nC hy (by omega)
 ·rw [if_neg hv,if_neg hv]
theorem Bm {v:Int} {k:Nat} {x:Spec}:((qe v k).length+[x].length)*32<=140737488355328:=by
 unfold qe
 split
 ·have:=vp (v:=v) (k:=k); rw [List.length_singleton]; omega
 ·rw [List.length_singleton]; exact (by decide:(0+1)*32<=140737488355328)
theorem Fe {v:Int} {k:Nat} (hk:8<=(k:Int)):qe v k=aR v:=by
 unfold qe
 by_cases hv:1<=v/\v<=3
 ·rw [if_pos hv]; exact xJ hv.1 hv.2 hk
 ·rw [if_neg hv,aR,if_pos (by omega)]
attribute [local irreducible] cS dg
def yK (q:Int) (v:Int):List (Nat × LI):=[(4,{ σ:=Nat,F:=fun k=>([(1,one (.int (v))),(5,one (.own 0)),(6,one (.fz (.nm .spec) aO)),(7,one (.int k))],[.row 128 (.nm .spec) ((qe v k))]),J:=fun k=>k<=8,μ:=fun k=>8 - k })]
def uW (c:Command) (v:Int):List (Nat × LI):=[(4,{ σ:=Nat,F:=fun k=>([(1,one (.int (v))),(2,one (.ptr 0 0)),(5,one (.own 2)),(6,one (.own 1)),(7,one (.int k))],[.box 24 (cellsOf (.nm .command) ((c))),.row 3 .int (([c.kind,c.client,c.seq,c.set,c.id,c.n])),.row 90 (.nm .field) (((sQ c k)))]),J:=fun k=>k<=6,μ:=fun k=>6 - k })]
theorem Oo (f:Field) (r0:List UInt8):ma aF zA [] Tryz.f89 [.agg (cellsOf (.nm .field) f)] [] [.c (.own 0)] [.row 5 .u8 (r0)]=((fun (q1:Nat)=>(fun (q0:List UInt8)=>I64 f.num->I64 f.wire->f.n.n<(18446744073709551616:Nat)->q1*(1:Nat)<=(140737488355328:Nat)->I64 (jB f.num f.wire)->(f.wire=(0:Int)->(q0.length+(bq f.n.n).length)*(1:Nat)<=(140737488355328:Nat)/\q0++bq f.n.n=r0)/\(¬f.wire=(0:Int)->(0:Int)<=(↑q1:Int)/\(q0.length+(bq q1).length)*(1:Nat)<=(140737488355328:Nat)/\((q0++bq q1).length+q1)*(1:Nat)<=(140737488355328:Nat)/\q0++bq q1++f.b=r0)) (ef f.num f.wire)) f.b.length):=by kernel_rfl
theorem M_ (f:Field) (h0:f.b.length<=16384):Sat Tryz.prog (ao aF) 89 [.agg (cellsOf (.nm .field) f)] [] ⟨[f.b.length<=16384],[.c (.own 0)],some ([.row 5 .u8 ((bc f))]),true⟩:=by
 refine di lp [] Tryz.func89 (by decide) (by kernel_rfl) ?_
 rw [Oo]
 (repeat' (first | with_reducible refine And.intro ?_ ?_ | with_reducible refine and_imp.2 ?_ | intro))
 all_goals (first | (first | with_reducible rfl | with_reducible assumption | omega | (refine ag ?_ ?_ <;> omega)) | exact (xT (by with_reducible assumption)) | exact (yH (by with_reducible assumption)) | (have:=iQ f.num f.wire; have:=cT (n:=f.n.n) (by with_reducible assumption); omega) | (have:=iQ f.num f.wire; have:=cT (n:=f.b.length) (by omega); (try simp only [List.length_append]); omega))
theorem Fu (q:Int) (v:Int) (r0:List Spec):cA aF zA (yK q v) Tryz.f87 [.c (.int (q)),.c (.int (v))] [] [.c (.fz (.nm .spec) (r0))]=((fun (q4:den (Sh.nm NT.spec))=>(fun (q3:Int)=>(fun (q2:Int)=>(fun (q1:Nat)=>(fun (q0:Prop)=>I64 q->I64 v->q=q3/\(aO.length*(32:Nat)<=(140737488355328:Nat)->∃ (s0:Nat),(v=v/\aO=aO/\(0:Int)=(↑s0:Int)/\qe v s0=[])/\s0<=q1/\∀ (s:Nat),(fun (q6:Int)=>(fun (q5:den (Sh.nm NT.spec))=>s<=q1->(q6<q2->(q0->(0:Int)<=q6/\q6<q2)/\((q0->I64 q5.num/\I64 q5.wire/\I64 q5.since)->(q0/\q5.since<=v->(0:Int)<=q6/\q6<q2/\∀ (x:Spec),aO[s]? = some x->I64 x.num->I64 x.wire->I64 x.since->((qe v s).length+[x].length)*(32:Nat)<=(140737488355328:Nat)/\I64 (q6+q3)/\∃ (s':Nat),(v=v/\aO=aO/\q6+q3=(↑s':Int)/\qe v s++[x]=qe v s')/\s' <= q1/\q1 - s' < q1 - s)/\((v<q3\/(3:Int)<v)\/v<q5.since->I64 (q6+q3)/\∃ (s':Nat),(v=v/\aO=aO/\q6+q3=(↑s':Int)/\qe v s=qe v s')/\s' <= q1/\q1 - s' < q1 - s)))/\(q2<=q6->qe v s=r0)) (aO.getD s q4)) (↑s:Int))) (q3<=v/\v<=(3:Int))) (8:Nat)) (↑aO.length:Int)) (1:Int)) (dflt (Sh.nm NT.spec))):=by kernel_rfl
theorem EI (q:Int) (v:Int) (h0:q=1):Sat Tryz.prog (ao aF) 87 [.c (.int (q)),.c (.int (v))] [] ⟨[q=1],[.c (.fz (.nm .spec) ((aR v)))],none,false⟩:=by
 refine aM lp (yK q v) Tryz.func87 (by decide) (by kernel_rfl) ?_
 rw [Fu]
 (repeat' (first | with_reducible refine And.intro ?_ ?_ | with_reducible refine and_imp.2 ?_ | intro))
 all_goals try (first | (first | with_reducible rfl | with_reducible assumption | omega | (refine ag ?_ ?_ <;> omega)) | exact Dt | exact (Dq (by with_reducible assumption) (by with_reducible assumption) (by with_reducible assumption) (by with_reducible assumption)) | exact (FL (by assumption) (by have hl:aO.length=8:=rfl; omega)) | exact Bm | exact (Fe (by have hl:aO.length=8:=rfl; omega)) | (have hl:aO.length=8:=rfl; omega))
 all_goals try (refine ⟨0,?_⟩; (repeat' (first | with_reducible refine And.intro ?_ ?_ | with_reducible refine and_imp.2 ?_ | intro)))
 all_goals try (first | (first | with_reducible rfl | with_reducible assumption | omega | (refine ag ?_ ?_ <;> omega)) | exact Dt | exact (Dq (by with_reducible assumption) (by with_reducible assumption) (by with_reducible assumption) (by with_reducible assumption)) | exact (FL (by assumption) (by have hl:aO.length=8:=rfl; omega)) | exact Bm | exact (Fe (by have hl:aO.length=8:=rfl; omega)) | (have hl:aO.length=8:=rfl; omega))
 all_goals try (refine ⟨‹Nat› + 1,?_⟩; (repeat' (first | with_reducible refine And.intro ?_ ?_ | with_reducible refine and_imp.2 ?_ | intro)))
 all_goals (first | (first | with_reducible rfl | with_reducible assumption | omega | (refine ag ?_ ?_ <;> omega)) | exact Dt | exact (Dq (by with_reducible assumption) (by with_reducible assumption) (by with_reducible assumption) (by with_reducible assumption)) | exact (FL (by assumption) (by have hl:aO.length=8:=rfl; omega)) | exact Bm | exact (Fe (by have hl:aO.length=8:=rfl; omega)) | (have hl:aO.length=8:=rfl; omega))
theorem Me (c:Command) (v:Int) (r0:Bool):cA aF zA [] Tryz.f47 [.agg (cellsOf (.nm .command) c),.c (.int (v))] [] [.c (.bool (.atom (r0)))]=((fun (q0:Int)=>I64 c.kind->I64 c.client->I64 c.seq->I64 c.set->I64 c.id->I64 c.n->c.chunks.length*(8:Nat)<=(140737488355328:Nat)->c.text.b.length<=(140737488355328:Nat)->I64 v->I64 (aQ c.kind)->(bE c.kind (1:Int) (99:Int) && (decide (aQ c.kind=q0) || decide (v<aQ c.kind)) && (bE c.client q0 (1048576:Int) && bE c.seq q0 (1048576:Int) && bE c.set q0 (1048576:Int) && bE c.id q0 (1048576:Int) && bE c.n q0 (1048576:Int)) && (decide ((↑c.chunks.length:Int)=q0) || rowF c.chunks) && (decide ((↑c.text.b.length:Int)=q0) || decide ((3:Int)<=v) && decide ((↑c.text.b.length:Int)<=(16:Int))))=r0) (0:Int)):=by kernel_rfl
theorem Mj (c:Command) (v:Int):Sat Tryz.prog (ao aF) 47 [.agg (cellsOf (.nm .command) c),.c (.int (v))] [] ⟨[],[.c (.bool (.atom ((cJ c v))))],none,false⟩:=by
 refine aM lp [] Tryz.func47 (by decide) (by kernel_rfl) ?_
 rw [Me]
 (repeat' (first | with_reducible refine And.intro ?_ ?_ | with_reducible refine and_imp.2 ?_ | intro))
 all_goals (first | (first | with_reducible rfl | with_reducible assumption | omega | (refine ag ?_ ?_ <;> omega)) | (unfold cJ na; rfl))
theorem Ai (c:Command) (v:Int) (r0:List Field):ma aF zA (uW c v) Tryz.f50 [.agg (cellsOf (.nm .command) c),.c (.int (v))] [] [.c (.own 0)] [.row 90 (.nm .field) (r0)]=((fun (q11:den Sh.int)=>(fun (q10:Nat)=>(fun (q9:Str)=>(fun (q8:Int)=>(fun (q7:Int)=>(fun (q6:Nat)=>(fun (q5:List Int)=>(fun (q4:Int)=>(fun (q3:Int)=>(fun (q2:List (den (Sh.nm NT.field)))=>(fun (q1:List (den (Sh.nm NT.field)))=>(fun (q0:List (den Sh.int))=>I64 c.kind->I64 q7->I64 c.seq->I64 c.set->I64 c.id->I64 c.n->q5.length*(8:Nat)<=q10->q9.b.length<=q10->I64 v->∃ (s0:Nat),(fun (q12:Int)=>(v=v/\q3=(↑s0:Int)/\c.kind=c.kind/\q7=q7/\c.seq=c.seq/\c.set=c.set/\c.id=c.id/\c.n=c.n/\q5=q5/\q9=q9/\q0=q0/\sQ c s0=[])/\s0<=q6/\∀ (s:Nat),(fun (q15:List Field)=>(fun (q14:den Sh.int)=>(fun (q13:Int)=>s<=q6->((↑s:Int)<q12->q3<=(↑s:Int)/\(↑s:Int)<q12/\(I64 q14->(¬q14=q3->I64 q13/\q3<=(↑s:Int)/\(↑s:Int)<q12/\(I64 q14->q3<=q14/\(q15.length+[Field.mk q13 q3 (U64.mk (Int.toNat q14)) []].length)*(48:Nat)<=q10/\I64 q13/\∃ (s':Nat),(v=v/\q13=(↑s':Int)/\c.kind=c.kind/\q7=q7/\c.seq=c.seq/\c.set=c.set/\c.id=c.id/\c.n=c.n/\q5=q5/\q9=q9/\q0=q0/\q15++[Field.mk q13 q3 (U64.mk (Int.toNat q14)) []]=sQ c s')/\s' <= q6/\q6 - s' < q6 - s))/\(q14=q3->I64 q13/\∃ (s':Nat),(v=v/\q13=(↑s':Int)/\c.kind=c.kind/\q7=q7/\c.seq=c.seq/\c.set=c.set/\c.id=c.id/\c.n=c.n/\q5=q5/\q9=q9/\q0=q0/\q15=sQ c s')/\s' <= q6/\q6 - s' < q6 - s)))/\(q12<=(↑s:Int)->(q3<(↑q5.length:Int)->I64 (dm q5)->(q15.length+q1.length)*(48:Nat)<=q10/\(q3<q4/\(3:Int)<=v->((q15++q1).length+q2.length)*(48:Nat)<=q10/\q15++q1++q2=r0)/\(q4<=q3\/v<(3:Int)->q15++q1=r0))/\((↑q5.length:Int)<=q3->(q3<q4/\(3:Int)<=v->(q15.length+q2.length)*(48:Nat)<=q10/\q15++q2=r0)/\(q4<=q3\/v<(3:Int)->q15=r0)))) ((↑s:Int)+q8)) (q0.getD s q11)) (sQ c s)) (↑q0.length:Int)) [c.kind,q7,c.seq,c.set,c.id,c.n]) [Field.mk (7:Int) (2:Int) (U64.mk (0:Nat)) (bu q5)]) [Field.mk (8:Int) (2:Int) (U64.mk (0:Nat)) q9.b]) (0:Int)) (↑q9.b.length:Int)) c.chunks) (6:Nat)) c.client) (1:Int)) c.text) (140737488355328:Nat)) (dflt Sh.int)):=by kernel_rfl
theorem zD (c:Command) (v:Int) (h0:0<=c.kind) (h1:0<=c.client) (h2:0<=c.seq) (h3:0<=c.set) (h4:0<=c.id) (h5:0<=c.n) (h6:c.chunks.length=0\/rowF c.chunks=true):Sat Tryz.prog (ao aF) 50 [.agg (cellsOf (.nm .command) c),.c (.int (v))] [] ⟨[0<=c.kind,0<=c.client,0<=c.seq,0<=c.set,0<=c.id,0<=c.n,c.chunks.length=0\/rowF c.chunks=true],[.c (.own 0)],some ([.row 90 (.nm .field) ((aG c v))]),true⟩:=by
 refine di lp (uW c v) Tryz.func50 (by decide) (by kernel_rfl) ?_
 rw [Ai]
 (repeat' (first | with_reducible refine And.intro ?_ ?_ | with_reducible refine and_imp.2 ?_ | intro))
 all_goals try (first | (first | with_reducible rfl | with_reducible assumption | omega | (refine ag ?_ ?_ <;> omega)) | exact rfl | exact (BA (by with_reducible assumption)) | exact (DM (by with_reducible assumption)) | exact (Ef (by with_reducible assumption) (by with_reducible assumption) (by with_reducible assumption) (by with_reducible assumption) (by with_reducible assumption) (by with_reducible assumption)) | exact (EP (by with_reducible assumption) (by with_reducible assumption) (by with_reducible assumption) (by with_reducible assumption) (by with_reducible assumption) (by with_reducible assumption)) | exact (BV (by with_reducible assumption) (by with_reducible assumption) (by with_reducible assumption) (by with_reducible assumption) (by assumption)) | exact (Fq (by with_reducible assumption) (by with_reducible assumption) (by with_reducible assumption) (by with_reducible assumption) (by with_reducible assumption)) | exact (Gu (by with_reducible assumption) (by with_reducible assumption) (by with_reducible assumption) (by assumption)) | (have hq:((‹Nat›:Nat):Int)<(([c.kind,c.client,c.seq,c.set,c.id,c.n].length:Nat):Int):=(by with_reducible assumption); simp only [List.length_cons,List.length_nil] at hq; omega) | (have:=nP c ‹Nat›; (try simp only [List.length_append]); simp only [List.length_cons,List.length_nil]; omega))
 all_goals try (refine ⟨0,?_⟩; (repeat' (first | with_reducible refine And.intro ?_ ?_ | with_reducible refine and_imp.2 ?_ | intro)))
 all_goals try (first | (first | with_reducible rfl | with_reducible assumption | omega | (refine ag ?_ ?_ <;> omega)) | exact rfl | exact (BA (by with_reducible assumption)) | exact (DM (by with_reducible assumption)) | exact (Ef (by with_reducible assumption) (by with_reducible assumption) (by with_reducible assumption) (by with_reducible assumption) (by with_reducible assumption) (by with_reducible assumption)) | exact (EP (by with_reducible assumption) (by with_reducible assumption) (by with_reducible assumption) (by with_reducible assumption) (by with_reducible assumption) (by with_reducible assumption)) | exact (BV (by with_reducible assumption) (by with_reducible assumption) (by with_reducible assumption) (by with_reducible assumption) (by assumption)) | exact (Fq (by with_reducible assumption) (by with_reducible assumption) (by with_reducible assumption) (by with_reducible assumption) (by with_reducible assumption)) | exact (Gu (by with_reducible assumption) (by with_reducible assumption) (by with_reducible assumption) (by assumption)) | (have hq:((‹Nat›:Nat):Int)<(([c.kind,c.client,c.seq,c.set,c.id,c.n].length:Nat):Int):=(by with_reducible assumption); simp only [List.length_cons,List.length_nil] at hq; omega) | (have:=nP c ‹Nat›; (try simp only [List.length_append]); simp only [List.length_cons,List.length_nil]; omega))
 all_goals try (refine ⟨‹Nat› + 1,?_⟩; (repeat' (first | with_reducible refine And.intro ?_ ?_ | with_reducible refine and_imp.2 ?_ | intro)))
 all_goals (first | (first | with_reducible rfl | with_reducible assumption | omega | (refine ag ?_ ?_ <;> omega)) | exact rfl | exact (BA (by with_reducible assumption)) | exact (DM (by with_reducible assumption)) | exact (Ef (by with_reducible assumption) (by with_reducible assumption) (by with_reducible assumption) (by with_reducible assumption) (by with_reducible assumption) (by with_reducible assumption)) | exact (EP (by with_reducible assumption) (by with_reducible assumption) (by with_reducible assumption) (by with_reducible assumption) (by with_reducible assumption) (by with_reducible assumption)) | exact (BV (by with_reducible assumption) (by with_reducible assumption) (by with_reducible assumption) (by with_reducible assumption) (by assumption)) | exact (Fq (by with_reducible assumption) (by with_reducible assumption) (by with_reducible assumption) (by with_reducible assumption) (by with_reducible assumption)) | exact (Gu (by with_reducible assumption) (by with_reducible assumption) (by with_reducible assumption) (by assumption)) | (have hq:((‹Nat›:Nat):Int)<(([c.kind,c.client,c.seq,c.set,c.id,c.n].length:Nat):Int):=(by with_reducible assumption); simp only [List.length_cons,List.length_nil] at hq; omega) | (have:=nP c ‹Nat›; (try simp only [List.length_append]); simp only [List.length_cons,List.length_nil]; omega))
noncomputable def Hd:cH:=(bB 50 (bw (ai (kT (.nm .command)) (ai (kC cI) aH)) aJ fun (c,v,_) (_)=>⟨[0<=c.kind,0<=c.client,0<=c.seq,0<=c.set,0<=c.id,0<=c.n,c.chunks.length=0\/rowF c.chunks=true],[.c (.own 0)],some ([.row 90 (.nm .field) ((aG c v))]),true⟩) (bB 47 (bw (ai (kT (.nm .command)) (ai (kC cI) aH)) aJ fun (c,v,_) (_)=>⟨[],[.c (.bool (.atom ((cJ c v))))],none,false⟩) (bB 87 (bw (ai (kC cI) (ai (kC cI) aH)) aJ fun (q,v,_) (_)=>⟨[q=1],[.c (.fz (.nm .spec) ((aR v)))],none,false⟩) (bB 89 (bw (ai (kT (.nm .field)) aH) aJ fun (f,_) (_)=>⟨[f.b.length<=16384],[.c (.own 0)],some ([.row 5 .u8 ((bc f))]),true⟩) zA))))
theorem qP:aS Tryz.prog (ao aF) Hd:=(aq (au (ab br (ab (al av) aj)) ak fun (c,v,_) (_) hp=>zD c v (dx hp) (dx (eg hp)) (dx (eg (eg hp))) (dx (eg (eg (eg hp)))) (dx (eg (eg (eg (eg hp))))) (dx (eg (eg (eg (eg (eg hp)))))) (dx (eg (eg (eg (eg (eg (eg hp)))))))) (aq (au (ab br (ab (al av) aj)) ak fun (c,v,_) (_) _=>Mj c v ) (aq (au (ab (al av) (ab (al av) aj)) ak fun (q,v,_) (_) hp=>EI q v (dx hp)) (aq (au (ab br aj) ak fun (f,_) (_) hp=>M_ f (dx hp)) lp))))
end Go.Proofs.YtladifkbefehdaaGreat
namespace Go.Proofs.YtladifkbefehdaaGreat
open Go.RowKit
def kj (l:List Field) (k:Nat):Prop:=∀ j y,j<k->l[j]? = some y->y.b.length<=16384
theorem zl {l:List Field}:kj l 0:=fun j y h=>by omega
theorem zJ {l:List Field} {k:Nat} {x:Field} (h:Wq (kj l k)) (hx:l[k]? = some x) (hn:(x.b.length:Int)<=16384):Wq (kj l (k+1)):=⟨fun j y hj hy=>by
 by_cases hjk:j=k
 ·subst hjk; rw [hy] at hx; cases hx; omega
 ·exact h.h j y (by omega) hy⟩
theorem AQ {l:List Field} {k:Nat} (h:Wq (kj l k)) (hk:l.length<=k):Wq (kj l l.length):=⟨fun j y hj=>h.h j y (by omega)⟩
theorem ng {l:List Field} {k:Nat} {x:Field} (h:Wq (kj l l.length)) (hx:l[k]? = some x):x.b.length<=16384:=h.h k x (rf hx) hx
theorem SD (x:Field):((¬ jB x.num x.wire=0\/x.wire=0/\0<((x.b.length:Nat):Int))\/x.wire=2/\¬ ((x.n.n:Nat):Int)=0)↔cf x=false:=by
 have e:=GF (f:=x)
 rw [Bool.eq_iff_iff] at e
 simpa only [Bool.or_eq_true,Bool.and_eq_true,Bool.not_eq_true',decide_eq_true_eq,decide_eq_false_iff_not] using e
theorem OU {x:Field} (h:(¬ jB x.num x.wire=0\/x.wire=0/\0<((x.b.length:Nat):Int))\/x.wire=2/\¬ ((x.n.n:Nat):Int)=((0:Nat):Int)):cf x=false:=(SD x).1 h
theorem sP {x:Field} (h1:jB x.num x.wire=0) (h2:¬ x.wire=0\/((x.b.length:Nat):Int)<=0) (h3:¬ x.wire=2\/((x.n.n:Nat):Int)=((0:Nat):Int)):cf x=true:=by
 rw [<- Bool.not_eq_false,<- SD]; omega
theorem OX {b:Bool} (h:(!b)=true):b=false:=by simpa using h
theorem Bh {n:Int} {b:Bool} (h:n<=0\/(!b)=false):n<=0\/b=true:=h.imp_right (by simp)
theorem zQ {l:List Field} {k:Nat} (h:cz none l=0) (hk:l.length<=k) (hs:(16384:Int)<((dM (l.take k):Nat):Int)):4=bG l:=by
 rw [List.take_of_length_le hk] at hs; rw [bG,if_pos h,if_pos hs]
theorem Bd {l:List Field} {k:Nat} (h:cz none l=0) (hk:l.length<=k) (hs:¬ (16384:Int)<((dM (l.take k):Nat):Int)):0=bG l:=by
 rw [List.take_of_length_le hk] at hs; rw [bG,if_pos h,if_neg hs]
def KI (l:List Field):List (Nat × LI):=[(2,{ σ:=Nat,F:=fun k=>([(0,one (.fz (.nm .field) (l))),(3,one (.int k))],[]),J:=fun k=>k<=l.length/\cz none l=cz (dp l k) (l.drop k)/\Wq (kj l k),μ:=fun k=>l.length - k }),(14,{ σ:=Nat,F:=fun k=>([(0,one (.fz (.nm .field) (l))),(7,one (.int (dM (l.take k):Nat))),(8,one (.int k))],[]),J:=fun k=>k<=l.length/\cz none l=0/\dM (l.take k)<=k*16404/\Wq (kj l l.length),μ:=fun k=>l.length - k })]
def Ke (q:Int) (v:Int):List (Nat × LI):=[(4,{ σ:=Nat,F:=fun k=>([(5,one (.int (((aR v).take k).foldl (fun t s=>max t s.num) 0))),(6,one (.fz (.nm .spec) (aR v))),(7,one (.int k))],[]),J:=fun k=>k<=(aR v).length,μ:=fun k=>(aR v).length - k })]
theorem NY (l:List Field) (r0:Int):cA aF Hd (KI l) Tryz.f88 [.c (.fz (.nm .field) (l))] [] [.c (.int (r0))]=((fun (q5:den (Sh.nm NT.field))=>(fun (q4:Int)=>(fun (q3:Int)=>(fun (q2:Nat)=>(fun (q1:Int)=>(fun (q0:Int)=>l.length*(48:Nat)<=(140737488355328:Nat)->∃ (s0:Nat),(l=l/\q0=(↑s0:Int))/\(s0<=q2/\q4=cz (dp l s0) (List.drop s0 l)/\Wq (kj l s0))/\∀ (s:Nat),(fun (q7:Int)=>(fun (q6:den (Sh.nm NT.field))=>s<=q2/\q4=cz (dp l s) (List.drop s l)/\Wq (kj l s)->(q7<q3->q0<=q7/\q7<q3/\∀ (x:Field),(fun (q9:Int)=>(fun (q8:Int)=>l[s]? = some x->I64 x.num->I64 x.wire->x.n.n<(18446744073709551616:Nat)->x.b.length*(1:Nat)<=(140737488355328:Nat)->I64 q9->((¬q9=q0\/x.wire=q0/\q0<q8)\/x.wire=(2:Int)/\¬(↑x.n.n:Int)=(↑(0:Nat):Int)->q1=r0)/\((q9=q0/\(¬x.wire=q0\/q8<=q0))/\(¬x.wire=(2:Int)\/(↑x.n.n:Int)=(↑(0:Nat):Int))->(q0<q7->I64 (q7 - q1))/\(q0<q7->q0<=q7 - q1/\q7 - q1<q3)/\((q0<q7->I64 q6.num/\I64 q6.wire/\q6.n.n<(18446744073709551616:Nat)/\q6.b.length*(1:Nat)<=(140737488355328:Nat))->(q0<q7/\(!dC q6 x)=true->(5:Int)=r0)/\(q7<=q0\/(!dC q6 x)=false->((16384:Int)<q8->(4:Int)=r0)/\(q8<=(16384:Int)->I64 (q7+q1)/\∃ (s':Nat),(l=l/\q7+q1=(↑s':Int))/\(s' <= q2/\q4=cz (dp l s') (List.drop s' l)/\Wq (kj l s'))/\q2 - s' < q2 - s))))) (↑x.b.length:Int)) (jB x.num x.wire))/\(q3<=q7->∃ (s0:Nat),(l=l/\q0=(↑(dM (List.take s0 l)):Int)/\q0=(↑s0:Int))/\(s0<=q2/\q4=q0/\dM (List.take s0 l)<=s0*(16404:Nat)/\Wq (kj l q2))/\∀ (s:Nat),(fun (q10:Int)=>s<=q2/\q4=q0/\dM (List.take s l)<=s*(16404:Nat)/\Wq (kj l q2)->((↑s:Int)<q3->q0<=(↑s:Int)/\(↑s:Int)<q3/\∀ (x:Field),l[s]? = some x->I64 x.num->I64 x.wire->x.n.n<(18446744073709551616:Nat)->x.b.length*(1:Nat)<=(140737488355328:Nat)->x.b.length<=(16384:Nat)/\I64 (q10+(↑(bc x).length:Int))/\I64 ((↑s:Int)+q1)/\∃ (s':Nat),(l=l/\q10+(↑(bc x).length:Int)=(↑(dM (List.take s' l)):Int)/\(↑s:Int)+q1=(↑s':Int))/\(s' <= q2/\q4=q0/\dM (List.take s' l)<=s' * (16404:Nat)/\Wq (kj l q2))/\q2 - s' < q2 - s)/\(q3<=(↑s:Int)->((16384:Int)<q10->(4:Int)=r0)/\(q10<=(16384:Int)->q0=r0))) (↑(dM (List.take s l)):Int))) (l.getD (q7 - q1).toNat q5)) (↑s:Int)) (0:Int)) (1:Int)) l.length) (↑l.length:Int)) (cz none l)) (dflt (Sh.nm NT.field))):=by kernel_rfl
theorem NF (l:List Field):Sat Tryz.prog (ao aF) 88 [.c (.fz (.nm .field) (l))] [] ⟨[],[.c (.int ((bG l)))],none,false⟩:=by
 refine aM qP (KI l) Tryz.func88 (by decide) (by kernel_rfl) ?_
 rw [NY]
 (repeat' (first | with_reducible refine And.intro ?_ ?_ | with_reducible refine and_imp.2 ?_ | intro))
 all_goals try (first | (first | with_reducible rfl | with_reducible assumption | omega | (refine ag ?_ ?_ <;> omega)) | exact rfl | exact (Nat.le_refl 0) | exact ⟨zl⟩ | exact (gT (by with_reducible assumption) (by with_reducible assumption) (OU (by assumption))) | exact (gJ (by with_reducible assumption) (by with_reducible assumption) (sP (by with_reducible assumption) (by assumption) (by assumption)) (by omega) (pU (by omega) (by with_reducible assumption)) (OX (by with_reducible assumption))) | exact (gX (by with_reducible assumption) (by with_reducible assumption) (sP (by with_reducible assumption) (by assumption) (by assumption)) (eC (Bh (by assumption)) (by omega)) (by with_reducible assumption)) | exact (ez (by with_reducible assumption) (by with_reducible assumption) (sP (by with_reducible assumption) (by assumption) (by assumption)) (eC (Bh (by assumption)) (by omega)) (by omega)) | exact (zJ (by with_reducible assumption) (by with_reducible assumption) (by with_reducible assumption)) | exact (AQ (by with_reducible assumption) (by omega)) | exact (ng (by with_reducible assumption) (by with_reducible assumption)) | exact (fU (by with_reducible assumption) (by omega)) | exact (zQ (k:=‹Nat›) (by with_reducible assumption) (by omega) (by omega)) | exact (Bd (k:=‹Nat›) (by with_reducible assumption) (by omega) (by omega)) | (have h1:=bO (f:=‹Field›) (ng (by with_reducible assumption) (by with_reducible assumption)) (by with_reducible assumption); have h2:=ew (show l[_]? = some ‹Field› by with_reducible assumption); first | omega | (refine ag ?_ ?_ <;> omega)))
 all_goals try (refine ⟨0,?_⟩; (repeat' (first | with_reducible refine And.intro ?_ ?_ | with_reducible refine and_imp.2 ?_ | intro)))
 all_goals try (first | (first | with_reducible rfl | with_reducible assumption | omega | (refine ag ?_ ?_ <;> omega)) | exact rfl | exact (Nat.le_refl 0) | exact ⟨zl⟩ | exact (gT (by with_reducible assumption) (by with_reducible assumption) (OU (by assumption))) | exact (gJ (by with_reducible assumption) (by with_reducible assumption) (sP (by with_reducible assumption) (by assumption) (by assumption)) (by omega) (pU (by omega) (by with_reducible assumption)) (OX (by with_reducible assumption))) | exact (gX (by with_reducible assumption) (by with_reducible assumption) (sP (by with_reducible assumption) (by assumption) (by assumption)) (eC (Bh (by assumption)) (by omega)) (by with_reducible assumption)) | exact (ez (by with_reducible assumption) (by with_reducible assumption) (sP (by with_reducible assumption) (by assumption) (by assumption)) (eC (Bh (by assumption)) (by omega)) (by omega)) | exact (zJ (by with_reducible assumption) (by with_reducible assumption) (by with_reducible assumption)) | exact (AQ (by with_reducible assumption) (by omega)) | exact (ng (by with_reducible assumption) (by with_reducible assumption)) | exact (fU (by with_reducible assumption) (by omega)) | exact (zQ (k:=‹Nat›) (by with_reducible assumption) (by omega) (by omega)) | exact (Bd (k:=‹Nat›) (by with_reducible assumption) (by omega) (by omega)) | (have h1:=bO (f:=‹Field›) (ng (by with_reducible assumption) (by with_reducible assumption)) (by with_reducible assumption); have h2:=ew (show l[_]? = some ‹Field› by with_reducible assumption); first | omega | (refine ag ?_ ?_ <;> omega)))
 all_goals try (have hg:((‹Nat›:Nat):Int)<(l.length:Int):=(by omega); clear hg; refine ⟨‹Nat› + 1,?_⟩; (repeat' (first | with_reducible refine And.intro ?_ ?_ | with_reducible refine and_imp.2 ?_ | intro)))
 all_goals try (first | (first | with_reducible rfl | with_reducible assumption | omega | (refine ag ?_ ?_ <;> omega)) | exact rfl | exact (Nat.le_refl 0) | exact ⟨zl⟩ | exact (gT (by with_reducible assumption) (by with_reducible assumption) (OU (by assumption))) | exact (gJ (by with_reducible assumption) (by with_reducible assumption) (sP (by with_reducible assumption) (by assumption) (by assumption)) (by omega) (pU (by omega) (by with_reducible assumption)) (OX (by with_reducible assumption))) | exact (gX (by with_reducible assumption) (by with_reducible assumption) (sP (by with_reducible assumption) (by assumption) (by assumption)) (eC (Bh (by assumption)) (by omega)) (by with_reducible assumption)) | exact (ez (by with_reducible assumption) (by with_reducible assumption) (sP (by with_reducible assumption) (by assumption) (by assumption)) (eC (Bh (by assumption)) (by omega)) (by omega)) | exact (zJ (by with_reducible assumption) (by with_reducible assumption) (by with_reducible assumption)) | exact (AQ (by with_reducible assumption) (by omega)) | exact (ng (by with_reducible assumption) (by with_reducible assumption)) | exact (fU (by with_reducible assumption) (by omega)) | exact (zQ (k:=‹Nat›) (by with_reducible assumption) (by omega) (by omega)) | exact (Bd (k:=‹Nat›) (by with_reducible assumption) (by omega) (by omega)) | (have h1:=bO (f:=‹Field›) (ng (by with_reducible assumption) (by with_reducible assumption)) (by with_reducible assumption); have h2:=ew (show l[_]? = some ‹Field› by with_reducible assumption); first | omega | (refine ag ?_ ?_ <;> omega)))
 all_goals try (refine ⟨0,?_⟩; (repeat' (first | with_reducible refine And.intro ?_ ?_ | with_reducible refine and_imp.2 ?_ | intro)))
 all_goals try (first | (first | with_reducible rfl | with_reducible assumption | omega | (refine ag ?_ ?_ <;> omega)) | exact rfl | exact (Nat.le_refl 0) | exact ⟨zl⟩ | exact (gT (by with_reducible assumption) (by with_reducible assumption) (OU (by assumption))) | exact (gJ (by with_reducible assumption) (by with_reducible assumption) (sP (by with_reducible assumption) (by assumption) (by assumption)) (by omega) (pU (by omega) (by with_reducible assumption)) (OX (by with_reducible assumption))) | exact (gX (by with_reducible assumption) (by with_reducible assumption) (sP (by with_reducible assumption) (by assumption) (by assumption)) (eC (Bh (by assumption)) (by omega)) (by with_reducible assumption)) | exact (ez (by with_reducible assumption) (by with_reducible assumption) (sP (by with_reducible assumption) (by assumption) (by assumption)) (eC (Bh (by assumption)) (by omega)) (by omega)) | exact (zJ (by with_reducible assumption) (by with_reducible assumption) (by with_reducible assumption)) | exact (AQ (by with_reducible assumption) (by omega)) | exact (ng (by with_reducible assumption) (by with_reducible assumption)) | exact (fU (by with_reducible assumption) (by omega)) | exact (zQ (k:=‹Nat›) (by with_reducible assumption) (by omega) (by omega)) | exact (Bd (k:=‹Nat›) (by with_reducible assumption) (by omega) (by omega)) | (have h1:=bO (f:=‹Field›) (ng (by with_reducible assumption) (by with_reducible assumption)) (by with_reducible assumption); have h2:=ew (show l[_]? = some ‹Field› by with_reducible assumption); first | omega | (refine ag ?_ ?_ <;> omega)))
 all_goals try (refine ⟨‹Nat› + 1,?_⟩; (repeat' (first | with_reducible refine And.intro ?_ ?_ | with_reducible refine and_imp.2 ?_ | intro)))
 all_goals try (first | (first | with_reducible rfl | with_reducible assumption | omega | (refine ag ?_ ?_ <;> omega)) | exact rfl | exact (Nat.le_refl 0) | exact ⟨zl⟩ | exact (gT (by with_reducible assumption) (by with_reducible assumption) (OU (by assumption))) | exact (gJ (by with_reducible assumption) (by with_reducible assumption) (sP (by with_reducible assumption) (by assumption) (by assumption)) (by omega) (pU (by omega) (by with_reducible assumption)) (OX (by with_reducible assumption))) | exact (gX (by with_reducible assumption) (by with_reducible assumption) (sP (by with_reducible assumption) (by assumption) (by assumption)) (eC (Bh (by assumption)) (by omega)) (by with_reducible assumption)) | exact (ez (by with_reducible assumption) (by with_reducible assumption) (sP (by with_reducible assumption) (by assumption) (by assumption)) (eC (Bh (by assumption)) (by omega)) (by omega)) | exact (zJ (by with_reducible assumption) (by with_reducible assumption) (by with_reducible assumption)) | exact (AQ (by with_reducible assumption) (by omega)) | exact (ng (by with_reducible assumption) (by with_reducible assumption)) | exact (fU (by with_reducible assumption) (by omega)) | exact (zQ (k:=‹Nat›) (by with_reducible assumption) (by omega) (by omega)) | exact (Bd (k:=‹Nat›) (by with_reducible assumption) (by omega) (by omega)) | (have h1:=bO (f:=‹Field›) (ng (by with_reducible assumption) (by with_reducible assumption)) (by with_reducible assumption); have h2:=ew (show l[_]? = some ‹Field› by with_reducible assumption); first | omega | (refine ag ?_ ?_ <;> omega)))
 all_goals (first | (first | with_reducible rfl | with_reducible assumption | omega | (refine ag ?_ ?_ <;> omega)) | exact rfl | exact (Nat.le_refl 0) | exact ⟨zl⟩ | exact (gT (by with_reducible assumption) (by with_reducible assumption) (OU (by assumption))) | exact (gJ (by with_reducible assumption) (by with_reducible assumption) (sP (by with_reducible assumption) (by assumption) (by assumption)) (by omega) (pU (by omega) (by with_reducible assumption)) (OX (by with_reducible assumption))) | exact (gX (by with_reducible assumption) (by with_reducible assumption) (sP (by with_reducible assumption) (by assumption) (by assumption)) (eC (Bh (by assumption)) (by omega)) (by with_reducible assumption)) | exact (ez (by with_reducible assumption) (by with_reducible assumption) (sP (by with_reducible assumption) (by assumption) (by assumption)) (eC (Bh (by assumption)) (by omega)) (by omega)) | exact (zJ (by with_reducible assumption) (by with_reducible assumption) (by with_reducible assumption)) | exact (AQ (by with_reducible assumption) (by omega)) | exact (ng (by with_reducible assumption) (by with_reducible assumption)) | exact (fU (by with_reducible assumption) (by omega)) | exact (zQ (k:=‹Nat›) (by with_reducible assumption) (by omega) (by omega)) | exact (Bd (k:=‹Nat›) (by with_reducible assumption) (by omega) (by omega)) | (have h1:=bO (f:=‹Field›) (ng (by with_reducible assumption) (by with_reducible assumption)) (by with_reducible assumption); have h2:=ew (show l[_]? = some ‹Field› by with_reducible assumption); first | omega | (refine ag ?_ ?_ <;> omega)))
theorem Na (q:Int) (v:Int) (r0:Int):cA aF Hd (Ke q v) Tryz.f48 [.c (.int (q)),.c (.int (v))] [] [.c (.int (r0))]=((fun (q1:Int)=>(fun (q0:List Spec)=>I64 q->I64 v->q=(1:Int)/\(q0.length*(32:Nat)<=(140737488355328:Nat)->∃ (s0:Nat),(q1=List.foldl (fun (t:Int) (s:Spec)=>max t s.num) q1 (List.take s0 q0)/\q0=q0/\q1=(↑s0:Int))/\s0<=q0.length/\∀ (s:Nat),(fun (q2:Int)=>s<=q0.length->((↑s:Int)<(↑q0.length:Int)->q1<=(↑s:Int)/\(↑s:Int)<(↑q0.length:Int)/\∀ (x:Spec),q0[s]? = some x->I64 x.num->I64 x.wire->I64 x.since->I64 ((↑s:Int)+(1:Int))/\∃ (s':Nat),(max q2 x.num=List.foldl (fun (t:Int) (s:Spec)=>max t s.num) q1 (List.take s' q0)/\q0=q0/\(↑s:Int)+(1:Int)=(↑s':Int))/\s' <= q0.length/\q0.length - s' < q0.length - s)/\((↑q0.length:Int)<=(↑s:Int)->q2=r0)) (List.foldl (fun (t:Int) (s:Spec)=>max t s.num) q1 (List.take s q0)))) (aR v)) (0:Int)):=by kernel_rfl
theorem NG (q:Int) (v:Int) (h0:q=1):Sat Tryz.prog (ao aF) 48 [.c (.int (q)),.c (.int (v))] [] ⟨[q=1],[.c (.int ((bk v)))],none,false⟩:=by
 refine aM qP (Ke q v) Tryz.func48 (by decide) (by kernel_rfl) ?_
 rw [Na]
 (repeat' (first | with_reducible refine And.intro ?_ ?_ | with_reducible refine and_imp.2 ?_ | intro))
 all_goals try (first | (first | with_reducible rfl | with_reducible assumption | omega | (refine ag ?_ ?_ <;> omega)) | exact rfl | exact (gq (by with_reducible assumption)) | (rw [bk,List.take_of_length_le (by omega)]))
 all_goals try (refine ⟨0,?_⟩; (repeat' (first | with_reducible refine And.intro ?_ ?_ | with_reducible refine and_imp.2 ?_ | intro)))
 all_goals try (first | (first | with_reducible rfl | with_reducible assumption | omega | (refine ag ?_ ?_ <;> omega)) | exact rfl | exact (gq (by with_reducible assumption)) | (rw [bk,List.take_of_length_le (by omega)]))
 all_goals try (refine ⟨‹Nat› + 1,?_⟩; (repeat' (first | with_reducible refine And.intro ?_ ?_ | with_reducible refine and_imp.2 ?_ | intro)))
 all_goals (first | (first | with_reducible rfl | with_reducible assumption | omega | (refine ag ?_ ?_ <;> omega)) | exact rfl | exact (gq (by with_reducible assumption)) | (rw [bk,List.take_of_length_le (by omega)]))
noncomputable def LZ:cH:=(bB 48 (bw (ai (kC cI) (ai (kC cI) aH)) aJ fun (q,v,_) (_)=>⟨[q=1],[.c (.int ((bk v)))],none,false⟩) (bB 88 (bw (ai (kC (cL (.nm .field))) aH) aJ fun (l,_) (_)=>⟨[],[.c (.int ((bG l)))],none,false⟩) Hd))
theorem xy:aS Tryz.prog (ao aF) LZ:=(aq (au (ab (al av) (ab (al av) aj)) ak fun (q,v,_) (_) hp=>NG q v (dx hp)) (aq (au (ab (al bp) aj) ak fun (l,_) (_) _=>NF l ) qP))
end Go.Proofs.YtladifkbefehdaaGreat
namespace Go.Proofs.YtladifkbefehdaaGreat
open Go.RowKit
def KF (l:List Field):List (Nat × LI):=[(6,{ σ:=Nat,F:=fun k=>([(0,one (.fz (.nm .field) (l))),(5,one (.own 0)),(6,one (.int k))],[.row 5 .u8 ((((l.take k).map bc).flatten))]),J:=fun k=>k<=l.length,μ:=fun k=>l.length - k })]
theorem Lz (l:List Field) (r0:Int) (r1:List UInt8):ma aF LZ (KF l) Tryz.f49 [.c (.fz (.nm .field) (l))] [] [.c (.own 0),.c (.int (r0))] [.row 5 .u8 (r1)]=(l.length*(48:Nat)<=(140737488355328:Nat)->I64 (bG l)->(¬bG l=(0:Int)->bG l=r0/\r1=[])/\(bG l=(0:Int)->∃ (s0:Nat),(l=l/\(0:Int)=(↑s0:Int)/\(List.map bc (List.take s0 l)).flatten=[])/\s0<=l.length/\∀ (s:Nat),(fun (q0:List UInt8)=>s<=l.length->((↑s:Int)<(↑l.length:Int)->(0:Int)<=(↑s:Int)/\(↑s:Int)<(↑l.length:Int)/\∀ (x:Field),l[s]? = some x->I64 x.num->I64 x.wire->x.n.n<(18446744073709551616:Nat)->x.b.length*(1:Nat)<=(140737488355328:Nat)->x.b.length<=(16384:Nat)/\(q0.length+(bc x).length)*(1:Nat)<=(140737488355328:Nat)/\I64 ((↑s:Int)+(1:Int))/\∃ (s':Nat),(l=l/\(↑s:Int)+(1:Int)=(↑s':Int)/\q0++bc x=(List.map bc (List.take s' l)).flatten)/\s' <= l.length/\l.length - s' < l.length - s)/\((↑l.length:Int)<=(↑s:Int)->(0:Int)=r0/\q0=r1)) (List.map bc (List.take s l)).flatten)):=by kernel_rfl
theorem MI (l:List Field):Sat Tryz.prog (ao aF) 49 [.c (.fz (.nm .field) (l))] [] ⟨[],[.c (.own 0),.c (.int ((bG l)))],some ([.row 5 .u8 ((fk l))]),true⟩:=by
 refine di xy (KF l) Tryz.func49 (by decide) (by kernel_rfl) ?_
 rw [Lz]
 (repeat' (first | with_reducible refine And.intro ?_ ?_ | with_reducible refine and_imp.2 ?_ | intro))
 all_goals try (first | (first | with_reducible rfl | with_reducible assumption | omega | (refine ag ?_ ?_ <;> omega)) | exact rfl | exact (lO (by with_reducible assumption)).symm | exact (Eq.symm (by with_reducible assumption)) | exact (ff (by with_reducible assumption)) | exact (dH (by with_reducible assumption) (List.mem_of_getElem? (by with_reducible assumption))) | exact (jb (by with_reducible assumption) (by omega)) | (have h1:=fH (k:=‹Nat›) (show bG l=0 by with_reducible assumption); have h2:=bO (f:=‹Field›) (dH (show bG l=0 by with_reducible assumption) (List.mem_of_getElem? (by with_reducible assumption))) (by with_reducible assumption); omega))
 all_goals try (refine ⟨0,?_⟩; (repeat' (first | with_reducible refine And.intro ?_ ?_ | with_reducible refine and_imp.2 ?_ | intro)))
 all_goals try (first | (first | with_reducible rfl | with_reducible assumption | omega | (refine ag ?_ ?_ <;> omega)) | exact rfl | exact (lO (by with_reducible assumption)).symm | exact (Eq.symm (by with_reducible assumption)) | exact (ff (by with_reducible assumption)) | exact (dH (by with_reducible assumption) (List.mem_of_getElem? (by with_reducible assumption))) | exact (jb (by with_reducible assumption) (by omega)) | (have h1:=fH (k:=‹Nat›) (show bG l=0 by with_reducible assumption); have h2:=bO (f:=‹Field›) (dH (show bG l=0 by with_reducible assumption) (List.mem_of_getElem? (by with_reducible assumption))) (by with_reducible assumption); omega))
 all_goals try (refine ⟨‹Nat› + 1,?_⟩; (repeat' (first | with_reducible refine And.intro ?_ ?_ | with_reducible refine and_imp.2 ?_ | intro)))
 all_goals (first | (first | with_reducible rfl | with_reducible assumption | omega | (refine ag ?_ ?_ <;> omega)) | exact rfl | exact (lO (by with_reducible assumption)).symm | exact (Eq.symm (by with_reducible assumption)) | exact (ff (by with_reducible assumption)) | exact (dH (by with_reducible assumption) (List.mem_of_getElem? (by with_reducible assumption))) | exact (jb (by with_reducible assumption) (by omega)) | (have h1:=fH (k:=‹Nat›) (show bG l=0 by with_reducible assumption); have h2:=bO (f:=‹Field›) (dH (show bG l=0 by with_reducible assumption) (List.mem_of_getElem? (by with_reducible assumption))) (by with_reducible assumption); omega))
noncomputable def MK:cH:=(bB 49 (bw (ai (kC (cL (.nm .field))) aH) aJ fun (l,_) (_)=>⟨[],[.c (.own 0),.c (.int ((bG l)))],some ([.row 5 .u8 ((fk l))]),true⟩) LZ)
theorem yD:aS Tryz.prog (ao aF) MK:=(aq (au (ab (al bp) aj) ak fun (l,_) (_) _=>MI l ) xy)
end Go.Proofs.YtladifkbefehdaaGreat
namespace Go.Proofs.YtladifkbefehdaaGreat
open Go.RowKit
theorem OM {c:Command} {rest:List Field} {v:Int} (h:bE v 1 3=false):cr c rest v=1:=LO h
theorem OQ {c:Command} {rest:List Field} {v:Int} (h:bE v 1 3=true) (h1:cJ c v=false) (h2:¬ aX c v=0):cr c rest v=aX c v:=MB h h1 h2
theorem ON {c:Command} {rest:List Field} {v:Int} {k:Nat} (hn:(rest.getD k (dflt (.nm .field))).num<=bk v) (h:bE v 1 3=true) (h1:cJ c v=true\/aX c v=0) (hk:k<rest.length):cr c rest v=6:=Mt h h1 (Cr hk) hn
theorem OO {c:Command} {rest:List Field} {v:Int} {k:Nat} (h:bE v 1 3=true) (h1:cJ c v=true\/aX c v=0) (ht:Wq (jM rest v k)) (hk:rest.length<=k):cr c rest v=0:=LD h h1 ht hk
theorem EA {rest:List Field} {v:Int} {k:Nat} (h:Wq (jM rest v k)) (hn:bk v<(rest.getD k (dflt (.nm .field))).num) (hk:k<rest.length):Wq (jM rest v (k+1)):=ze h (Cr hk) (by omega)
def DT (c:Command) (rest:List Field) (v:Int):List (Nat × LI):=[(8,{ σ:=Nat,F:=fun k=>([(1,one (.fz (.nm .field) (rest))),(2,one (.int (v))),(3,one (.ptr 0 0)),(9,one (.int k))],[.box 24 (cellsOf (.nm .command) ((c)))]),J:=fun k=>k<=rest.length/\Wq (jM rest v k),μ:=fun k=>rest.length - k })]
theorem HZ (c:Command) (rest:List Field) (v:Int) (r0:Int) (r1:List UInt8):ma aF MK (DT c rest v) Tryz.f27 [.agg (cellsOf (.nm .command) c),.c (.fz (.nm .field) (rest)),.c (.int (v))] [] [.c (.own 0),.c (.int (r0))] [.row 5 .u8 (r1)]=((fun (q6:Nat)=>(fun (q5:Nat)=>(fun (q4:Int)=>(fun (q3:den (Sh.nm NT.field))=>(fun (q2:Int)=>(fun (q1:Prop)=>(fun (q0:Prop)=>I64 c.kind->I64 c.client->I64 c.seq->I64 c.set->I64 c.id->I64 c.n->c.chunks.length*(8:Nat)<=(140737488355328:Nat)->c.text.b.length<=(140737488355328:Nat)->q6*(48:Nat)<=(140737488355328:Nat)->I64 v->(bE v q4 (3:Int)=false->q4=r0/\r1=[])/\(bE v q4 (3:Int)=true->(cJ c v=false->I64 (aX c v)->(¬aX c v=q2->aX c v=r0/\r1=[])/\(aX c v=q2->q0))/\(cJ c v=true->q0))) (∃ (s0:Nat),(rest=rest/\v=v/\q2=(↑s0:Int)/\q1)/\(s0<=q5/\Wq (jM rest v s0))/\∀ (s:Nat),s<=q5/\Wq (jM rest v s)->((↑s:Int)<(↑q6:Int)->q2<=(↑s:Int)/\(↑s:Int)<(↑q6:Int)/\q4=q4/\(I64 (rest.getD s q3).num->I64 (rest.getD s q3).wire->(rest.getD s q3).n.n<(18446744073709551616:Nat)->(rest.getD s q3).b.length*(1:Nat)<=(140737488355328:Nat)->I64 (bk v)->((rest.getD s q3).num<=bk v->(6:Int)=r0/\r1=[])/\(bk v<(rest.getD s q3).num->I64 ((↑s:Int)+q4)/\∃ (s':Nat),(rest=rest/\v=v/\(↑s:Int)+q4=(↑s':Int)/\q1)/\(s' <= q5/\Wq (jM rest v s'))/\q5 - s' < q5 - s)))/\((↑q6:Int)<=(↑s:Int)->q2<=c.kind/\q2<=c.client/\q2<=c.seq/\q2<=c.set/\q2<=c.id/\q2<=c.n/\(c.chunks.length=(0:Nat)\/rowF c.chunks=true)/\((aG c v).length+q6)*(48:Nat)<=(140737488355328:Nat)/\(I64 (bG (aG c v++rest))->bG (aG c v++rest)=r0/\fk (aG c v++rest)=r1)))) (c.kind=c.kind/\c.client=c.client/\c.seq=c.seq/\c.set=c.set/\c.id=c.id/\c.n=c.n/\c.chunks=c.chunks/\c.text=c.text)) (0:Int)) (dflt (Sh.nm NT.field))) (1:Int)) rest.length) rest.length):=by kernel_rfl
theorem Ia (c:Command) (rest:List Field) (v:Int) (h0:rest.length<=20000):Sat Tryz.prog (ao aF) 27 [.agg (cellsOf (.nm .command) c),.c (.fz (.nm .field) (rest)),.c (.int (v))] [] ⟨[rest.length<=20000],[.c (.own 0),.c (.int ((bP c rest v)))],some ([.row 5 .u8 ((cc c rest v))]),true⟩:=by
 refine di yD (DT c rest v) Tryz.func27 (by decide) (by kernel_rfl) ?_
 rw [HZ]
 (repeat' (first | with_reducible refine And.intro ?_ ?_ | with_reducible refine and_imp.2 ?_ | intro))
 all_goals try (first | (first | with_reducible rfl | with_reducible assumption | omega | (refine ag ?_ ?_ <;> omega)) | exact rfl | exact ⟨qq⟩ | exact (EA (by with_reducible assumption) (by with_reducible assumption) (by omega)) | exact (dq (OM (by with_reducible assumption)) (by decide)) | exact (du (OM (by with_reducible assumption)) (by decide)).symm | exact (dq (OQ (by with_reducible assumption) (by with_reducible assumption) (by with_reducible assumption)) (by with_reducible assumption)) | exact (du (OQ (by with_reducible assumption) (by with_reducible assumption) (by with_reducible assumption)) (by with_reducible assumption)).symm | exact (dq (ON (by with_reducible assumption) (by with_reducible assumption) (by first | exact .inl (by with_reducible assumption) | exact .inr (by with_reducible assumption)) (by omega)) (by decide)) | exact (du (ON (by with_reducible assumption) (by with_reducible assumption) (by first | exact .inl (by with_reducible assumption) | exact .inr (by with_reducible assumption)) (by omega)) (by decide)).symm | exact (qx (OO (by with_reducible assumption) (by first | exact .inl (by with_reducible assumption) | exact .inr (by with_reducible assumption)) (by with_reducible assumption) (by omega))) | exact (qJ (OO (by with_reducible assumption) (by first | exact .inl (by with_reducible assumption) | exact .inr (by with_reducible assumption)) (by with_reducible assumption) (by omega))) | exact (rS (by with_reducible assumption)) | exact (nN (by with_reducible assumption)) | (have h:0<=c.kind/\0<=c.client/\0<=c.seq/\0<=c.set/\0<=c.id/\0<=c.n:=(by first | exact jw (by with_reducible assumption) | exact jA (by with_reducible assumption)); omega) | (have h:=eJ c v; omega))
 all_goals try (refine ⟨0,?_⟩; (repeat' (first | with_reducible refine And.intro ?_ ?_ | with_reducible refine and_imp.2 ?_ | intro)))
 all_goals try (first | (first | with_reducible rfl | with_reducible assumption | omega | (refine ag ?_ ?_ <;> omega)) | exact rfl | exact ⟨qq⟩ | exact (EA (by with_reducible assumption) (by with_reducible assumption) (by omega)) | exact (dq (OM (by with_reducible assumption)) (by decide)) | exact (du (OM (by with_reducible assumption)) (by decide)).symm | exact (dq (OQ (by with_reducible assumption) (by with_reducible assumption) (by with_reducible assumption)) (by with_reducible assumption)) | exact (du (OQ (by with_reducible assumption) (by with_reducible assumption) (by with_reducible assumption)) (by with_reducible assumption)).symm | exact (dq (ON (by with_reducible assumption) (by with_reducible assumption) (by first | exact .inl (by with_reducible assumption) | exact .inr (by with_reducible assumption)) (by omega)) (by decide)) | exact (du (ON (by with_reducible assumption) (by with_reducible assumption) (by first | exact .inl (by with_reducible assumption) | exact .inr (by with_reducible assumption)) (by omega)) (by decide)).symm | exact (qx (OO (by with_reducible assumption) (by first | exact .inl (by with_reducible assumption) | exact .inr (by with_reducible assumption)) (by with_reducible assumption) (by omega))) | exact (qJ (OO (by with_reducible assumption) (by first | exact .inl (by with_reducible assumption) | exact .inr (by with_reducible assumption)) (by with_reducible assumption) (by omega))) | exact (rS (by with_reducible assumption)) | exact (nN (by with_reducible assumption)) | (have h:0<=c.kind/\0<=c.client/\0<=c.seq/\0<=c.set/\0<=c.id/\0<=c.n:=(by first | exact jw (by with_reducible assumption) | exact jA (by with_reducible assumption)); omega) | (have h:=eJ c v; omega))
 all_goals try (refine ⟨‹Nat› + 1,?_⟩; (repeat' (first | with_reducible refine And.intro ?_ ?_ | with_reducible refine and_imp.2 ?_ | intro)))
 all_goals (first | (first | with_reducible rfl | with_reducible assumption | omega | (refine ag ?_ ?_ <;> omega)) | exact rfl | exact ⟨qq⟩ | exact (EA (by with_reducible assumption) (by with_reducible assumption) (by omega)) | exact (dq (OM (by with_reducible assumption)) (by decide)) | exact (du (OM (by with_reducible assumption)) (by decide)).symm | exact (dq (OQ (by with_reducible assumption) (by with_reducible assumption) (by with_reducible assumption)) (by with_reducible assumption)) | exact (du (OQ (by with_reducible assumption) (by with_reducible assumption) (by with_reducible assumption)) (by with_reducible assumption)).symm | exact (dq (ON (by with_reducible assumption) (by with_reducible assumption) (by first | exact .inl (by with_reducible assumption) | exact .inr (by with_reducible assumption)) (by omega)) (by decide)) | exact (du (ON (by with_reducible assumption) (by with_reducible assumption) (by first | exact .inl (by with_reducible assumption) | exact .inr (by with_reducible assumption)) (by omega)) (by decide)).symm | exact (qx (OO (by with_reducible assumption) (by first | exact .inl (by with_reducible assumption) | exact .inr (by with_reducible assumption)) (by with_reducible assumption) (by omega))) | exact (qJ (OO (by with_reducible assumption) (by first | exact .inl (by with_reducible assumption) | exact .inr (by with_reducible assumption)) (by with_reducible assumption) (by omega))) | exact (rS (by with_reducible assumption)) | exact (nN (by with_reducible assumption)) | (have h:0<=c.kind/\0<=c.client/\0<=c.seq/\0<=c.set/\0<=c.id/\0<=c.n:=(by first | exact jw (by with_reducible assumption) | exact jA (by with_reducible assumption)); omega) | (have h:=eJ c v; omega))
noncomputable def QK:cH:=(bB 27 (bw (ai (kT (.nm .command)) (ai (kC (cL (.nm .field))) (ai (kC cI) aH))) aJ fun (c,rest,v,_) (_)=>⟨[rest.length<=20000],[.c (.own 0),.c (.int ((bP c rest v)))],some ([.row 5 .u8 ((cc c rest v))]),true⟩) MK)
theorem GM:aS Tryz.prog (ao aF) QK:=(aq (au (ab br (ab (al bp) (ab (al av) aj))) ak fun (c,rest,v,_) (_) hp=>Ia c rest v (dx hp)) yD)
end Go.Proofs.YtladifkbefehdaaGreat
namespace Go.Proofs.YtladifkbefehdaaGreat
open Go.RowKit
def numR (x y:Int):Prop:=∃ n:Nat,n<18446744073709551616/\x=((min n 1048577:Nat):Int)/\y=fZ n
structure RelQ (a:List Int) (c r:Command):Prop where
 len:a.length=7
 n1:numR (a.getD 1 (dflt .int)) r.kind
 n2:numR (a.getD 2 (dflt .int)) r.client
 n3:numR (a.getD 3 (dflt .int)) r.seq
 n4:numR (a.getD 4 (dflt .int)) r.set
 n5:numR (a.getD 5 (dflt .int)) r.id
 n6:numR (a.getD 6 (dflt .int)) r.n
 ch:c.chunks=r.chunks
 tx:c.text=r.text
theorem Ss {b:List UInt8} {v:Int} (h:bE v 1 3=false):bD b v=⟨cu,[],1⟩:=SS h
noncomputable def Ci:cH:=QK
theorem nq:aS Tryz.prog (ao aF) Ci:=GM
end Go.Proofs.YtladifkbefehdaaGreat
namespace Go.Proofs.YtladifkbefehdaaGreat
open Go.RowKit
end Go.Proofs.YtladifkbefehdaaGreat
namespace Go.Proofs.YtladifkbefehdaaGreat
open Go.RowKit
def ed (c:Command) (term v:Int):Entry × Int:=if aX c v=0 then (if bP c [] v=0 then (⟨term,cc c [] v⟩,0) else (⟨0,[]⟩,bP c [] v)) else (⟨0,[]⟩,aX c v)
structure RdM where
 c:Command
 some:Bool
 e:Int
noncomputable def bh (x:Entry) (v:Int):RdM:=
 if x.b.length=0 then (if v<1\/3<v then ⟨cu,false,1⟩ else ⟨cu,false,0⟩)
 else if ¬ (bD x.b v).e=0 then ⟨cu,false,(bD x.b v).e⟩
 else if aQ (bD x.b v).c.kind=0\/v<aQ (bD x.b v).c.kind then ⟨cu,false,10⟩
 else ⟨(bD x.b v).c,true,0⟩
theorem vP {c:Command} {l:List Field} {w v:Int} (hi:I6 c) (hu:∀ f ∈ l,lY f) (h:bP c l w=0) (hv:1<=v) (hvw:v<=w):bD (cc c l w) v=⟨eU c v,lI c l w v,0⟩:=by
 obtain ⟨h1,h2⟩:=It h hv hvw
 rw [<- h2]
 exact uJ h1 hi (QA hu)
theorem Oy {c:Command} {w r:Int} (hm:aX c w=0) (hp:bP c [] w=0) (hwr:w<=r) (hr:r<=3):bP c [] r=0/\cc c [] r=cc c [] w:=by
 obtain ⟨hw,hn,hl,hf⟩:=eA hm
 have hm':aX c r=0:=by rw [wq ⟨by omega,hr⟩ hn (by omega),hf]; rfl
 have e:aG c r=aG c w:=by
  by_cases h:r=w
  ·rw [h]
  ·have ht:=kQ hm (by omega)
   unfold aG
   rw [if_neg (show ¬ 3<=w by omega)]
   split
   ·rw [ht]; exact List.append_nil _
   ·rfl
 have hb:cr c [] r=0:=LY (k:=0) (by unfold bE; rw [decide_eq_true (show 1<=r by omega),decide_eq_true hr]; rfl) (.inr hm') (fun j y h=>by omega) (Nat.le_refl _)
 obtain ⟨_,hmay,hB⟩:=ja hp
 exact ⟨by rw [bP,if_pos hb,e]; exact hmay,by rw [cc,if_pos hb,e,hB]⟩
theorem DQ:∀ f ∈ ([]:List Field),lY f:=fun f h=>by cases h
theorem Qa {c:Command} {w r:Int} (hi:I6 c) (hm:aX c w=0) (hp:bP c [] w=0) (hr1:1<=r) (hr3:r<=3) (hn:aQ c.kind<=r):∃ l,bD (cc c [] w) r=⟨c,l,0⟩:=by
 by_cases h:r<=w
 ·obtain ⟨_,hn0,_,hf⟩:=eA hm
  have e:eU c r=c:=by
   by_cases h3:r<3
   ·have hm':aX c r=0:=by rw [wq ⟨hr1,hr3⟩ hn0 hn,hf]; rfl
    have ht:=kQ hm' h3
    unfold eU; rw [if_pos h3,<- ht]
   ·unfold eU; rw [if_neg h3]
  exact ⟨lI c [] w r,by rw [vP hi DQ hp hr1 h,e]⟩
 ·obtain ⟨h1,h2⟩:=Oy hm hp (show w<=r by omega) hr3
  rw [<- h2]
  exact ⟨_,uJ h1 hi DQ⟩
theorem PK {c:Command} {w r:Int} (hi:I6 c) (hm:aX c w=0) (hp:bP c [] w=0) (hr1:1<=r) (hn:r<aQ c.kind):∃ l,bD (cc c [] w) r=⟨eU c r,l,0⟩:=
 ⟨_,vP hi DQ hp hr1 (by have:=(eA hm).2.2.1; omega)⟩
theorem take_nil {v:Int}:¬ (bD [] v).e=0:=fun h=>by
 obtain ⟨e,h2,_⟩:=Tg h
 rw [e] at h2
 obtain ⟨⟨hv,ho,_⟩,_⟩:=ja h2
 exact (CI hv ho).kind rfl
theorem Fg {b:List UInt8} {term r:Int} {c:Command} {l:List Field} (h:bD b r=⟨c,l,0⟩):bh ⟨term,b⟩ r=if aQ c.kind=0\/r<aQ c.kind then ⟨cu,false,10⟩ else ⟨c,true,0⟩:=by
 have hb:¬ b.length=0:=fun e=>by
  rw [List.eq_nil_of_length_eq_zero e] at h
  exact take_nil (v:=r) (by rw [h])
 unfold bh
 rw [if_neg hb,h,if_neg (by simp)]
theorem Sq {c:Command} {term w r:Int} (hi:I6 c) (hm:aX c w=0) (hp:bP c [] w=0) (hr1:1<=r) (hn:r<aQ c.kind):bh ⟨term,cc c [] w⟩ r=⟨cu,false,10⟩:=by
 obtain ⟨l,e⟩:=PK hi hm hp hr1 hn
 rw [Fg e,if_pos (.inr hn)]
theorem RY {c:Command} {term w r:Int} (hi:I6 c) (hm:aX c w=0) (hp:bP c [] w=0) (hr1:1<=r) (hr3:r<=3) (hn:aQ c.kind<=r):bh ⟨term,cc c [] w⟩ r=⟨c,true,0⟩:=by
 obtain ⟨l,e⟩:=Qa hi hm hp hr1 hr3 hn
 have h0:=(eA hm).2.1
 rw [Fg e,if_neg (by omega)]
theorem RX {term r:Int} (hr1:1<=r) (hr3:r<=3):bh ⟨term,[]⟩ r=⟨cu,false,0⟩:=by
 unfold bh; rw [if_pos (show (Entry.mk term []).b.length=0 from rfl),if_neg (by omega)]
theorem KE {c:Command} {term v:Int} (h:(ed c term v).2=0):aX c v=0/\bP c [] v=0/\ed c term v=(⟨term,cc c [] v⟩,0):=by
 unfold ed at h ⊢
 split
 ·rename_i h1
  rw [if_pos h1] at h
  split
  ·rename_i h2; exact ⟨h1,h2,rfl⟩
  ·rename_i h2; rw [if_neg h2] at h; exact absurd h h2
 ·rename_i h1; rw [if_neg h1] at h; exact absurd h h1
theorem PB {c:Command} {term v:Int} (h:¬ (ed c term v).2=0):(ed c term v).1.b=[]:=by
 unfold ed at h ⊢
 split
 ·rename_i h1
  split
  ·rename_i h2; rw [if_pos h1,if_pos h2] at h; exact absurd rfl h
  ·rfl
 ·rfl
theorem SQ {c:Command} {term v:Int} (h:¬ aX c v=0):ed c term v=(⟨0,[]⟩,aX c v):=by unfold ed; rw [if_neg h]
theorem SM {c:Command} {term v:Int} (h:aX c v=0) (h2:¬ bP c [] v=0):ed c term v=(⟨0,[]⟩,bP c [] v):=by unfold ed; rw [if_pos h,if_neg h2]
theorem SN {c:Command} {term v:Int} (h:aX c v=0) (h2:bP c [] v=0):ed c term v=(⟨term,cc c [] v⟩,0):=by unfold ed; rw [if_pos h,if_pos h2]
section
variable {x:Entry} {v:Int}
theorem TG (h:((x.b.length:Nat):Int)=0) (h2:v<1\/3<v):bh x v=⟨cu,false,1⟩:=by unfold bh; rw [if_pos (by omega),if_pos h2]
theorem Ta (h:((x.b.length:Nat):Int)=0) (h1:1<=v) (h2:v<=3):bh x v=⟨cu,false,0⟩:=by unfold bh; rw [if_pos (by omega),if_neg (by omega)]
theorem SK (h:¬ ((x.b.length:Nat):Int)=0) (h2:¬ (bD x.b v).e=0):bh x v=⟨cu,false,(bD x.b v).e⟩:=by unfold bh; rw [if_neg (by omega),if_pos h2]
theorem Tk (h:¬ ((x.b.length:Nat):Int)=0) (h2:(bD x.b v).e=0) (h3:aQ (bD x.b v).c.kind=0\/v<aQ (bD x.b v).c.kind):bh x v=⟨cu,false,10⟩:=by unfold bh; rw [if_neg (by omega),if_neg (by rw [h2]; simp),if_pos h3]
theorem SY (h:¬ ((x.b.length:Nat):Int)=0) (h2:(bD x.b v).e=0) (h3:¬ aQ (bD x.b v).c.kind=0) (h4:aQ (bD x.b v).c.kind<=v):bh x v=⟨(bD x.b v).c,true,0⟩:=by unfold bh; rw [if_neg (by omega),if_neg (by rw [h2]; simp),if_neg (by omega)]
theorem Ts (h2:v<1\/3<v):bh x v=⟨cu,false,1⟩:=by
 by_cases h:((x.b.length:Nat):Int)=0
 ·exact TG h h2
 ·have e:bD x.b v=⟨cu,[],1⟩:=Ss (by unfold bE; rcases h2 with h2 | h2 <;> simp <;> omega)
  rw [SK h (by rw [e]; decide),e]
end
theorem Ox (c:Command) (term:Int) (v:Int) (r0:Entry) (r1:Int):cA aF Ci [] Tryz.f9 [.agg (cellsOf (.nm .command) c),.c (.int (term)),.c (.int (v))] [] [.agg (cellsOf (.nm .entry) r0),.c (.int (r1))]=((fun (q1:Int)=>(fun (q0:Int)=>I64 c.kind->I64 c.client->I64 c.seq->I64 c.set->I64 c.id->I64 c.n->c.chunks.length*(8:Nat)<=(140737488355328:Nat)->c.text.b.length<=(140737488355328:Nat)->I64 term->I64 v->I64 (aX c v)->(¬aX c v=q0->q0=r0.term/\r0.b=[]/\aX c v=r1)/\(aX c v=q0->(0:Nat)<=(20000:Nat)/\(I64 q1->(¬q1=q0->q0=r0.term/\r0.b=[]/\q1=r1)/\(q1=q0->term=r0.term/\cc c [] v=r0.b/\q0=r1)))) (0:Int)) (bP c [] v)):=by kernel_rfl
theorem Ng (c:Command) (term:Int) (v:Int):Sat Tryz.prog (ao aF) 9 [.agg (cellsOf (.nm .command) c),.c (.int (term)),.c (.int (v))] [] ⟨[],[.agg (cellsOf (.nm .entry) ((ed c term v).1)),.c (.int (((ed c term v).2)))],none,false⟩:=by
 refine aM nq [] Tryz.func9 (by decide) (by kernel_rfl) ?_
 rw [Ox]
 (repeat' (first | with_reducible refine And.intro ?_ ?_ | with_reducible refine and_imp.2 ?_ | intro))
 all_goals (first | (first | with_reducible rfl | with_reducible assumption | omega | (refine ag ?_ ?_ <;> omega)) | (rw [SQ (by with_reducible assumption)] <;> rfl) | (rw [SM (by with_reducible assumption) (by with_reducible assumption)] <;> rfl) | (rw [SN (by with_reducible assumption) (by with_reducible assumption)] <;> rfl))
theorem Ii (c:Command) (term:Int) (v:Int) (r0:Entry) (r1:Int):cA aF Ci [] Tryz.f10 [.agg (cellsOf (.nm .command) c),.c (.int (term)),.c (.int (v))] [] [.agg (cellsOf (.nm .entry) r0),.c (.int (r1))]=((fun (q1:Int)=>(fun (q0:Int)=>I64 c.kind->I64 c.client->I64 c.seq->I64 c.set->I64 c.id->I64 c.n->c.chunks.length*(8:Nat)<=(140737488355328:Nat)->c.text.b.length<=(140737488355328:Nat)->I64 term->I64 v->I64 (aX c v)->(¬aX c v=q0->q0=r0.term/\r0.b=[]/\aX c v=r1)/\(aX c v=q0->(0:Nat)<=(20000:Nat)/\(I64 q1->(¬q1=q0->q0=r0.term/\r0.b=[]/\q1=r1)/\(q1=q0->term=r0.term/\cc c [] v=r0.b/\q0=r1)))) (0:Int)) (bP c [] v)):=by kernel_rfl
theorem Iy (c:Command) (term:Int) (v:Int):Sat Tryz.prog (ao aF) 10 [.agg (cellsOf (.nm .command) c),.c (.int (term)),.c (.int (v))] [] ⟨[],[.agg (cellsOf (.nm .entry) ((ed c term v).1)),.c (.int (((ed c term v).2)))],none,false⟩:=by
 refine aM nq [] Tryz.func10 (by decide) (by kernel_rfl) ?_
 rw [Ii]
 (repeat' (first | with_reducible refine And.intro ?_ ?_ | with_reducible refine and_imp.2 ?_ | intro))
 all_goals (first | (first | with_reducible rfl | with_reducible assumption | omega | (refine ag ?_ ?_ <;> omega)) | (rw [SQ (by with_reducible assumption)] <;> rfl) | (rw [SM (by with_reducible assumption) (by with_reducible assumption)] <;> rfl) | (rw [SN (by with_reducible assumption) (by with_reducible assumption)] <;> rfl))
theorem Gw (x:Entry) (v:Int) (r0:Command) (r1:Bool) (r2:Int):cA aF Ci [] Tryz.f11 [.agg (cellsOf (.nm .entry) x),.c (.int (v))] [] [.agg (cellsOf (.nm .command) r0),.c (.bool (.atom (r1))),.c (.int (r2))]=((fun (q3:Prop)=>(fun (q2:Prop)=>(fun (q1:Int)=>(fun (q0:TkR)=>I64 x.term->x.b.length*(1:Nat)<=(140737488355328:Nat)->I64 v->((↑x.b.length:Int)=q1->(v<(1:Int)\/(3:Int)<v->q1=r0.kind/\q1=r0.client/\q1=r0.seq/\q1=r0.set/\q1=r0.id/\q1=r0.n/\q3/\q2/\false=r1/\(1:Int)=r2)/\((1:Int)<=v/\v<=(3:Int)->q1=r0.kind/\q1=r0.client/\q1=r0.seq/\q1=r0.set/\q1=r0.id/\q1=r0.n/\q3/\q2/\false=r1/\q1=r2))/\(¬(↑x.b.length:Int)=q1->I64 q0.c.kind->I64 q0.c.client->I64 q0.c.seq->I64 q0.c.set->I64 q0.c.id->I64 q0.c.n->q0.c.chunks.length*(8:Nat)<=(140737488355328:Nat)->q0.c.text.b.length<=(140737488355328:Nat)->q0.r.length*(48:Nat)<=(140737488355328:Nat)->I64 q0.e->(¬q0.e=q1->q1=r0.kind/\q1=r0.client/\q1=r0.seq/\q1=r0.set/\q1=r0.id/\q1=r0.n/\q3/\q2/\false=r1/\q0.e=r2)/\(q0.e=q1->I64 (aQ q0.c.kind)->(aQ q0.c.kind=q1\/v<aQ q0.c.kind->q1=r0.kind/\q1=r0.client/\q1=r0.seq/\q1=r0.set/\q1=r0.id/\q1=r0.n/\q3/\q2/\false=r1/\(10:Int)=r2)/\(¬aQ q0.c.kind=q1/\aQ q0.c.kind<=v->q0.c.kind=r0.kind/\q0.c.client=r0.client/\q0.c.seq=r0.seq/\q0.c.set=r0.set/\q0.c.id=r0.id/\q0.c.n=r0.n/\q0.c.chunks=r0.chunks/\q0.c.text=r0.text/\true=r1/\q1=r2)))) (bD x.b v)) (0:Int)) (Str.mk []=r0.text)) (r0.chunks=[])):=by kernel_rfl
theorem BC (x:Entry) (v:Int):Sat Tryz.prog (ao aF) 11 [.agg (cellsOf (.nm .entry) x),.c (.int (v))] [] ⟨[],[.agg (cellsOf (.nm .command) ((bh x v).c)),.c (.bool (.atom (((bh x v).some)))),.c (.int (((bh x v).e)))],none,false⟩:=by
 refine aM nq [] Tryz.func11 (by decide) (by kernel_rfl) ?_
 rw [Gw]
 (repeat' (first | with_reducible refine And.intro ?_ ?_ | with_reducible refine and_imp.2 ?_ | intro))
 all_goals (first | (first | with_reducible rfl | with_reducible assumption | omega | (refine ag ?_ ?_ <;> omega)) | (rw [Ts (by assumption)] <;> rfl) | (rw [Ta (by with_reducible assumption) (by with_reducible assumption) (by with_reducible assumption)] <;> rfl) | (rw [SK (by with_reducible assumption) (by with_reducible assumption)] <;> rfl) | (rw [Tk (by with_reducible assumption) (by with_reducible assumption) (by assumption)] <;> rfl) | (rw [SY (by with_reducible assumption) (by with_reducible assumption) (by with_reducible assumption) (by with_reducible assumption)] <;> rfl))
noncomputable def Qw:cH:=(bB 11 (bw (ai (kT (.nm .entry)) (ai (kC cI) aH)) aJ fun (x,v,_) (_)=>⟨[],[.agg (cellsOf (.nm .command) ((bh x v).c)),.c (.bool (.atom (((bh x v).some)))),.c (.int (((bh x v).e)))],none,false⟩) (bB 10 (bw (ai (kT (.nm .command)) (ai (kC cI) (ai (kC cI) aH))) aJ fun (c,term,v,_) (_)=>⟨[],[.agg (cellsOf (.nm .entry) ((ed c term v).1)),.c (.int (((ed c term v).2)))],none,false⟩) (bB 9 (bw (ai (kT (.nm .command)) (ai (kC cI) (ai (kC cI) aH))) aJ fun (c,term,v,_) (_)=>⟨[],[.agg (cellsOf (.nm .entry) ((ed c term v).1)),.c (.int (((ed c term v).2)))],none,false⟩) Ci)))
theorem Js:aS Tryz.prog (ao aF) Qw:=(aq (au (ab br (ab (al av) aj)) ak fun (x,v,_) (_) _=>BC x v ) (aq (au (ab br (ab (al av) (ab (al av) aj))) ak fun (c,term,v,_) (_) _=>Iy c term v ) (aq (au (ab br (ab (al av) (ab (al av) aj))) ak fun (c,term,v,_) (_) _=>Ng c term v ) nq)))
end Go.Proofs.YtladifkbefehdaaGreat
namespace Go.Proofs.YtladifkbefehdaaGreat
open Go.RowKit
theorem Pv {b:UInt8}:I64 (1+((b.toNat:Nat):Int).tmod 3):=by
 have h:=FI b
 constructor <;> omega
section
variable {c:Command} {term w:Int} {b:UInt8}
theorem Tc (hi:I6 c) (he:(ed c term w).2=0) (hn:1+((b.toNat:Nat):Int).tmod 3<aQ c.kind):(true && decide ((bh (ed c term w).1 (1+((b.toNat:Nat):Int).tmod 3)).e=10) && !(bh (ed c term w).1 (1+((b.toNat:Nat):Int).tmod 3)).some)=true:=by
 obtain ⟨h1,h2,h3⟩:=KE he
 have h:=FI b
 rw [h3]
 dsimp only
 rw [Sq hi h1 h2 (by omega) hn]; rfl
theorem TF (hi:I6 c) (he:(ed c term w).2=0) (hn:aQ c.kind<=1+((b.toNat:Nat):Int).tmod 3):(true && decide ((bh (ed c term w).1 (1+((b.toNat:Nat):Int).tmod 3)).e=0) && (bh (ed c term w).1 (1+((b.toNat:Nat):Int).tmod 3)).some && decide ((bh (ed c term w).1 (1+((b.toNat:Nat):Int).tmod 3)).c=c) && !(bh (Entry.mk term []) (1+((b.toNat:Nat):Int).tmod 3)).some && decide ((bh (Entry.mk term []) (1+((b.toNat:Nat):Int).tmod 3)).e=0) && decide ((bh (Entry.mk term []) (1+((b.toNat:Nat):Int).tmod 3)).c.kind=0))=true:=by
 obtain ⟨h1,h2,h3⟩:=KE he
 have h:=FI b
 rw [h3]
 dsimp only
 rw [RY hi h1 h2 (by omega) (by omega) hn,RX (by omega) (by omega)]
 dsimp only
 rw [show decide (c=c)=true from decide_eq_true rfl]; rfl
theorem TD (he:¬ (ed c term w).2=0):(true && decide ((((ed c term w).1.b.length:Nat):Int)=0))=true:=by
 rw [PB he]; rfl
end
theorem Iv (c:Command) (term:Int) (xs:List UInt8) (r0:Bool):cA aF Qw [] Tryz.f3 [.agg (cellsOf (.nm .command) c),.c (.int (term)),.agg (jC .u8 (xs) 0 2)] [] [.c (.bool (.atom (r0)))]=((fun (q7:Nat)=>(fun (q6:Command)=>(fun (q5:Nat)=>(fun (q4:Int)=>(fun (q3:Entry)=>(fun (q2:List (den Sh.u8))=>(fun (q1:Int)=>(fun (q0:Entry × Int)=>I64 c.kind->I64 c.client->I64 c.seq->I64 c.set->I64 c.id->I64 c.n->c.chunks.length*(8:Nat)<=q5->c.text.b.length<=q5->I64 term->I64 q6.kind->I64 q6.client->I64 q6.seq->I64 q6.set->I64 q6.id->I64 q6.n->q6.chunks.length*(8:Nat)<=q5->q6.text.b.length<=q5->q4<=q4/\q4<(↑(2:Nat):Int)/\(0:Nat)<(2:Nat)/\q4<=(↑(UInt8.toNat (q2.getD (0:Nat) (dflt Sh.u8))):Int)/\q4<(3:Int)/\I64 ((1:Int)+(↑(UInt8.toNat (q2.getD (0:Nat) (dflt Sh.u8))):Int).tmod (3:Int))/\q4<=(1:Int)/\(1:Int)<(↑(2:Nat):Int)/\q7<(2:Nat)/\q4<=(↑(UInt8.toNat (q2.getD q7 (dflt Sh.u8))):Int)/\q4<(3:Int)/\I64 q1/\(I64 q0.fst.term->q0.fst.b.length*q7<=q5->I64 q0.snd->I64 q0.fst.term->q0.fst.b.length*q7<=q5->I64 q0.snd->((¬q0.snd=q0.snd\/¬q0.fst.term=q0.fst.term)\/¬Str.mk q0.fst.b=Str.mk q0.fst.b->false=r0)/\((q0.snd=q0.snd/\q0.fst.term=q0.fst.term)/\Str.mk q0.fst.b=Str.mk q0.fst.b->(¬q0.snd=q4->(true && decide ((↑q0.fst.b.length:Int)=q4))=r0)/\(q0.snd=q4->I64 (bh q0.fst q1).c.kind->I64 (bh q0.fst q1).c.client->I64 (bh q0.fst q1).c.seq->I64 (bh q0.fst q1).c.set->I64 (bh q0.fst q1).c.id->I64 (bh q0.fst q1).c.n->(bh q0.fst q1).c.chunks.length*(8:Nat)<=q5->(bh q0.fst q1).c.text.b.length<=q5->I64 (bh q0.fst q1).e->I64 (aQ q6.kind)->(q1<aQ q6.kind->(true && decide ((bh q0.fst q1).e=(10:Int)) && !(bh q0.fst q1).some)=r0)/\(aQ q6.kind<=q1->I64 (bh q3 q1).c.kind->I64 (bh q3 q1).c.client->I64 (bh q3 q1).c.seq->I64 (bh q3 q1).c.set->I64 (bh q3 q1).c.id->I64 (bh q3 q1).c.n->(bh q3 q1).c.chunks.length*(8:Nat)<=q5->(bh q3 q1).c.text.b.length<=q5->I64 (bh q3 q1).e->(true && decide ((bh q0.fst q1).e=q4) && (bh q0.fst q1).some && decide ((bh q0.fst q1).c=q6) && !(bh q3 q1).some && decide ((bh q3 q1).e=q4) && decide ((bh q3 q1).c.kind=q4))=r0))))) (ed q6 term ((1:Int)+(↑(UInt8.toNat (q2.getD (0:Nat) (dflt Sh.u8))):Int).tmod (3:Int)))) ((1:Int)+(↑(UInt8.toNat (q2.getD q7 (dflt Sh.u8))):Int).tmod (3:Int))) [xs.getD (0:Nat) (dflt Sh.u8),xs.getD q7 (dflt Sh.u8)]) (Entry.mk term [])) (0:Int)) (140737488355328:Nat)) (GD c)) (1:Nat)):=by kernel_rfl
theorem HH (c:Command) (term:Int) (xs:List UInt8) (h0:xs.length=2):Sat Tryz.prog (ao aF) 3 [.agg (cellsOf (.nm .command) c),.c (.int (term)),.agg (jC .u8 (xs) 0 2)] [] ⟨[xs.length=2],[.c (.bool (.atom ((true))))],none,false⟩:=by
 refine aM Js [] Tryz.func3 (by decide) (by kernel_rfl) ?_
 rw [Iv]
 (repeat' (first | with_reducible refine And.intro ?_ ?_ | with_reducible refine and_imp.2 ?_ | intro))
 all_goals (first | (first | with_reducible rfl | with_reducible assumption | omega | (refine ag ?_ ?_ <;> omega)) | exact Pv | exact (TD (by with_reducible assumption)) | exact (Tc (FY (c:=c) (by with_reducible assumption) (by with_reducible assumption) (by with_reducible assumption) (by with_reducible assumption) (by with_reducible assumption) (by with_reducible assumption)) (by with_reducible assumption) (by with_reducible assumption)) | exact (TF (FY (c:=c) (by with_reducible assumption) (by with_reducible assumption) (by with_reducible assumption) (by with_reducible assumption) (by with_reducible assumption) (by with_reducible assumption)) (by with_reducible assumption) (by with_reducible assumption)) | (rename_i h; simp at h; done))
end Go.Proofs.YtladifkbefehdaaGreat
namespace Go.Proofs.YtladifkbefehdaaGreat
open Go.RowKit Go.ChangeShapes Go.WideShapes
def wH (shp:TypeId->Option Sh) (w:World):Cx:=cx ⟨shp,w.heap.size,fun _=>False⟩ [] w
theorem Nx {shp:TypeId->Option Sh} {w:World} {s:Sh} {b:Nat} (h:b<w.heap.size):(wH shp w).at s b:=⟨⟨h,fun ⟨_,_,h,_⟩=>by simp at h,fun h=>h⟩,.inl h⟩
def Tr (P:Program) (shp:TypeId->Option Sh) (t:TypeId) (s:Sh):Prop:=
 ∀ (H:Type) (enc:TypeId × Value->H) (w:World) (fuel:Nat) (cs:List Value) (x:DataW H × List MemPlace),
  DataW.trod enc P w 0 (fun _=>true) true fuel t cs=some x->(∀ n ∈ x.1.weights P t,n<=140737488351232)->(∀ q ∈ x.2,q.block<w.heap.size)->∃ y:den s,Pds (wH shp w) (cellsOf s y) cs
def MO:List Sh->List AV->Prop
 | [],asx=>asx=[]
 | s :: r,asx=>∃ (y:den s) (l:List AV),asx=cellsOf s y++l/\MO r l
def QB:List Sh->Nat
 | []=>0
 | s :: r=>s.size+QB r
def wY (P:Program) (shp:TypeId->Option Sh) (fs:List Go.Field) (o:Nat) (ss:List Sh):Prop:=
 ∀ (H:Type) (enc:TypeId × Value->H) (w:World) (fuel:Nat) (cs:List Value) (xs:List (DataW H × List MemPlace)),
  cs.length=o+QB ss->xs.length=fs.length->(∀ (i:Nat) (f:Go.Field),fs[i]? = some f->DataW.trod enc P w 0 (fun _=>true) true fuel f.type ((cs.drop f.offset).take (P.cellsOf f.type))=xs[i]?) ->
  (∀ n ∈ DataW.weightsEach P (fs.map (·.type)) (xs.map (·.1)),n<=140737488351232)->(∀ q ∈ xs.flatMap (·.2),q.block<w.heap.size)->∃ asx,MO ss asx/\Pds (wH shp w) asx (cs.drop o)
section
variable {P:Program} {shp:TypeId->Option Sh} {t:TypeId}
theorem Tr.int (h:P.underlying t=some (.int .i64)):Tr P shp t .int:=fun _ enc w fuel cs x hx _ _=>by
 obtain ⟨n,rfl,_,hw⟩:=DataW.trod_int h hx
 have h1:IntKind.i64.min = -9223372036854775808:=rfl
 have h2:IntKind.i64.max=9223372036854775807:=rfl
 simp only [Lit.wf,Bool.and_eq_true,decide_eq_true_eq] at hw
 exact ⟨n,.cons (.int ⟨by omega,by omega⟩) .nil⟩
theorem Tr.bool (h:P.underlying t=some .bool):Tr P shp t .bool:=fun _ enc w fuel cs x hx _ _=>by
 obtain ⟨n,rfl,_⟩:=DataW.trod_bool h hx
 exact ⟨n,.cons (Pd.bool (e:=.atom n)) .nil⟩
theorem Tr.u8 (h:P.underlying t=some (.int .u8)):Tr P shp t .u8:=fun _ enc w fuel cs x hx _ _=>by
 obtain ⟨n,rfl,_,hw⟩:=DataW.trod_int h hx
 have h1:IntKind.u8.min=0:=rfl
 have h2:IntKind.u8.max=255:=rfl
 simp only [Lit.wf,Bool.and_eq_true,decide_eq_true_eq] at hw
 refine ⟨UInt8.ofNat n.toNat,?_⟩
 have:n=((UInt8.ofNat n.toNat).toNat:Int):=by
  rw [UInt8.toNat_ofNat']; omega
 generalize hg:UInt8.ofNat n.toNat=b at this
 subst this
 exact .cons .u8 .nil
theorem Tr.u64 (h:P.underlying t=some (.int .u64)):Tr P shp t .u64:=fun _ enc w fuel cs x hx _ _=>by
 obtain ⟨n,rfl,_,hw⟩:=DataW.trod_int h hx
 have h1:IntKind.u64.min=0:=rfl
 have h2:IntKind.u64.max=18446744073709551615:=rfl
 simp only [Lit.wf,Bool.and_eq_true,decide_eq_true_eq] at hw
 refine ⟨⟨n.toNat⟩,?_⟩
 have:n=(n.toNat:Int):=by omega
 generalize hg:n.toNat=b at this
 subst this
 exact .cons (.u64 (by show b<_; omega)) .nil
theorem Tr.str (h:P.underlying t=some .string):Tr P shp t .str:=fun _ enc w fuel cs x hx hw _=>by
 obtain ⟨s,rfl,hx,_⟩:=DataW.trod_string h hx
 refine ⟨⟨s.data.toList⟩,?_⟩
 have:=hw s.data.toList.length (by rw [hx]; simp [DataW.weights])
 have e:=Pd.str (c:=wH shp w) (s:=⟨s.data.toList⟩) (by show s.data.toList.length<=_; omega)
 have e2:(⟨s.data.toList⟩:Str).val = .string s:=by simp [Str.val]
 rw [e2] at e
 exact .cons e .nil
theorem fE {H:Type} {e:TypeId}:∀ {ds:List (DataW H)} {d:DataW H},d ∈ ds->∀ n ∈ d.weights P e,n ∈ DataW.weightsAll P e ds
 | [],_,h,_,_=>by cases h
 | d0 :: ds,d,h,n,hn=>by
  rw [DataW.weightsAll,List.mem_append]
  rcases List.mem_cons.1 h with rfl | h
  ·exact .inl hn
  ·exact .inr (fE h n hn)
theorem qk {s:Sh} {xs:List (den s)} {y:den s}:(xs++[y]).flatMap (cellsOf s)=xs.flatMap (cellsOf s)++cellsOf s y:=by simp
theorem Tr.list {e:TypeId} {s:Sh} (ht:P.underlying t=some (.slice e)) (hC:P.cellsOf e=s.size) (hB:P.bytesOf e=s.bytes) (he:Tr P shp e s):Tr P shp t (.lst s):=fun H enc w fuel cs x hx hw hlt=>by
 have hp:=size_pos s
 rcases DataW.trod_slice ht hx with ⟨rfl,_⟩ | ⟨a,len,cap,elems,rest,n,rfl,rfl,rfl,_,hl,hc,hel,hget,hrest,_⟩
 ·exact ⟨([]:List (den s)),.cons (Pd.sy (.em (a:=none) (b:=true) rfl)) .nil⟩
 ·rw [hC] at *
  have step:∀ m,m<=len->∃ (cells:List Value) (xs:List (den s)),Pds (wH shp w) (xs.flatMap (cellsOf s)) cells/\xs.length=m/\CellsAt w a cells:=by
   intro m
   induction m with
   | zero=>intro _; exact ⟨[],[],.nil,rfl,CellsAt.nil⟩
   | succ m ih=>
    intro hm
    obtain ⟨cells,xs,h1,h2,h3⟩:=ih (by omega)
    have hg:=hget m (by omega)
    have hem:elems[m]? = some (elems[m]'(by omega)):=List.getElem?_eq_getElem (by omega)
    rw [hem,Option.bind_eq_some_iff] at hg
    obtain ⟨cs,hcs,htr⟩:=hg
    have hmem:elems[m]'(by omega) ∈ elems:=List.getElem_mem _
    obtain ⟨y,hy⟩:=he H enc w n cs _ htr
     (fun k hk=>hw k (by
      simp only [DataW.weights,ht,List.mem_cons,List.mem_append]
      exact .inr (.inl (fE (List.mem_map_of_mem hmem) k hk))))
     (fun q hq=>hlt q (by
      simp only [List.mem_append,List.mem_flatMap]
      exact .inr ⟨_,.inl hmem,hq⟩))
    obtain ⟨_,hcl,hat⟩:=World.cells?_some hcs
    refine ⟨cells++cs,xs++[y],by rw [qk]; exact h1.append hy,by simp [h2],fun j v hv=>?_⟩
    have hfl:cells.length=m*s.size:=by rw [<- h1.length,b_,h2]
    by_cases hj:j<m*s.size
    ·rw [List.getElem?_append_left (by omega)] at hv
     exact h3 j v hv
    ·rw [List.getElem?_append_right (by omega),hfl] at hv
     have hj2:=rf hv
     have:=hat (j - m*s.size) (by omega)
     rw [hv,add_add,show m*s.size+(j - m*s.size)=j by omega] at this
     exact this
  obtain ⟨cells,xs,h1,h2,h3⟩:=step len (Nat.le_refl _)
  have hwt:(elems.length+rest.length)*P.bytesOf e<=140737488351232:=hw _ (by simp [DataW.weights,ht])
  refine ⟨xs,.cons ?_ .nil⟩
  subst h2
  refine .fz (by omega) hc ?_ h1 ?_
  ·rw [hB] at hwt
   have:xs.length*s.bytes<=(elems.length+rest.length)*s.bytes:=Nat.mul_le_mul_right _ (by omega)
   omega
  ·by_cases h0:xs.length=0
   ·left; exact List.eq_nil_of_length_eq_zero h0
   ·right
    refine ⟨a,rfl,Nx ?_,h3⟩
    have:MemPlace.cell a.block (a.off+0) ∈ MemPlace.row a ((elems.length+rest.length)*s.size):=MemPlace.mem_row.2 ⟨0,Nat.mul_pos (by omega) hp,rfl⟩
    exact hlt _ (List.mem_append_left _ this)
theorem wY.nil {o:Nat}:wY P shp [] o []:=fun H enc w fuel cs xs hl _ _ _ _=>⟨[],rfl,by rw [List.drop_eq_nil_of_le (by simp only [QB] at hl; omega)]; exact .nil⟩
theorem wY.cons {f:Go.Field} {fs:List Go.Field} {o:Nat} {s:Sh} {ss:List Sh} (h:Tr P shp f.type s) (ho:f.offset=o) (hC:P.cellsOf f.type=s.size) (hr:wY P shp fs (o+s.size) ss):wY P shp (f :: fs) o (s :: ss):=fun H enc w fuel cs xs hl hx hf hw hlt=>by
 match xs,hx with
 | x :: xs,hx=>
  have hl':cs.length=o+(s.size+QB ss):=hl
  have h1:=hf 0 f rfl
  rw [ho,hC] at h1
  obtain ⟨y,hy⟩:=h H enc w fuel _ x h1 (fun n hn=>hw n (by simp [DataW.weightsEach,hn])) (fun q hq=>hlt q (by simp [hq]))
  obtain ⟨z,hz1,hz2⟩:=hr H enc w fuel cs xs (by omega) (by simpa using hx) (fun i f' hi=>by simpa using hf (i+1) f' (by simpa using hi)) (fun n hn=>hw n (by simp only [List.map_cons,DataW.weightsEach,List.mem_append]; exact .inr hn)) (fun q hq=>hlt q (by simp only [List.flatMap_cons,List.mem_append]; exact .inr hq))
  refine ⟨cellsOf s y++z,⟨y,z,rfl,hz1⟩,?_⟩
  have:=hy.append hz2
  rwa [<- List.drop_drop,List.take_append_drop] at this
theorem Tr.struct {s:Sh} {ss:List Sh} {fs:Array Go.Field} (ht:P.underlying t=some (.struct fs)) (hC:P.cellsOf t=QB ss) (hs:∀ asx,MO ss asx->∃ y:den s,asx=cellsOf s y) (h:wY P shp fs.toList 0 ss):Tr P shp t s:=fun H enc w fuel cs x hx hw hlt=>by
 obtain ⟨xs,n,_,rfl,hl,hxl,hf⟩:=DataW.trod_struct ht hx
 obtain ⟨asx,h1,h2⟩:=h H enc w n cs xs (by omega) (by simpa using hxl) (fun i f hi=>hf i f (by simpa using hi)) (fun k hk=>hw k (by simpa [DataW.weights,ht] using hk)) hlt
 obtain ⟨y,rfl⟩:=hs asx h1
 exact ⟨y,by simpa using h2⟩
end
section
variable {H:Type} {enc:TypeId × Value->H} {P:Program} {shp:TypeId->Option Sh}
structure Ar (enc:TypeId × Value->H) (P:Program) (W:World) (t:TypeId) (v:Value):Prop where
 form:∃ base,Value.okWide P W .any base t v
 read:∃ d p fuel,DataW.trod enc P W 0 (fun _=>true) true fuel t v.cells.toList=some (d,p)/\(∀ n ∈ d.weights P t,n<=140737488351232)/\(∀ q ∈ p,q.block<W.heap.size)
variable {W:World} {t:TypeId} {v:Value}
theorem Ar.rp {s:Sh} (h:Ar enc P W t v) (ht:Tr P shp t s):∃ y:den s,Pds (wH shp W) (cellsOf s y) v.cells.toList:=by
 obtain ⟨d,p,fuel,h1,h2,h3⟩:=h.read
 exact ht H enc W fuel _ _ h1 h2 h3
theorem Ch {a:AV} {u:Value} (h:Pds (wH shp W) [a] [u]):de (wH shp W) [] (.c a) u:=by cases h with | cons h1 _=>exact iv h1
theorem Ar.int (h:Ar enc P W t v) (ht:P.underlying t=some (.int .i64)):∃ y:Int,de (wH shp W) [] (.c (.int y)) v:=by
 obtain ⟨base,hf⟩:=h.form
 obtain ⟨n,rfl⟩:=okWide_int ht hf
 obtain ⟨y,h1⟩:=h.rp (shp:=shp) (Tr.int ht)
 exact ⟨y,Ch (by simpa [Value.cells,cellsOf] using h1)⟩
theorem Ar.u8 (h:Ar enc P W t v) (ht:P.underlying t=some (.int .u8)):∃ y:UInt8,de (wH shp W) [] (.c (.u8 y)) v:=by
 obtain ⟨base,hf⟩:=h.form
 obtain ⟨n,rfl⟩:=okWide_int ht hf
 obtain ⟨y,h1⟩:=h.rp (shp:=shp) (Tr.u8 ht)
 exact ⟨y,Ch (by simpa [Value.cells,cellsOf] using h1)⟩
theorem Ar.bool (h:Ar enc P W t v) (ht:P.underlying t=some .bool):∃ y:Bool,de (wH shp W) [] (.c (.bool (.atom y))) v:=by
 obtain ⟨base,hf⟩:=h.form
 obtain ⟨b,rfl⟩:=okWide_bool ht hf
 exact ⟨b,Pd.bool (e:=.atom b)⟩
theorem Ar.struct {s:Sh} {fs:Array Go.Field} (h:Ar enc P W t v) (hu:P.underlying t=some (.struct fs)) (ht:Tr P shp t s):∃ x:den s,de (wH shp W) [] (.agg (cellsOf s x)) v:=by
 obtain ⟨base,hf⟩:=h.form
 obtain ⟨cs,rfl,_⟩:=okWide_struct hu hf
 obtain ⟨y,h1⟩:=h.rp ht
 exact ⟨y,cs.toList,by simp,ep (by simpa [Value.cells] using h1)⟩
theorem IX {f:Nat} {args:List TV1} {pre:List Prop} {e:BE} {vs:List Value} (h:Sat P shp f args [] ⟨pre,[.c (.bool e)],none,false⟩) (he:e.val=true) (hv:All2 (de (wH shp W) []) args vs):jm P f vs.toArray W fun r W'=>r = .bool true/\Kp [] W W':=by
 refine (h.2 ⟨shp,W.heap.size,fun _=>False⟩ [] W vs rfl ⟨.nil,fun _ _ _ _ _ h=>by simp at h,fun _ _ _ h=>by simp at h,fun _ h=>h.elim,Nat.le_refl _⟩ hv).mono fun v w' ⟨us,h1,h2,h3⟩=>⟨?_,h2⟩
 cases h3 with | cons h4 h5=>
 cases h5
 have h4:Pd _ (.bool e) _:=h4
 cases h4
 rw [h1,he]; rfl
theorem Ht {base:Nat} {ts:List TypeId} {args:Array Value} {ds:List (DataW H)} {p:List MemPlace} (hf:∀ (j:Nat) t v,ts[j]? = some t->args[j]? = some v->Value.okWide P W .any base t v)
  (h:DataW.TrodAll enc P W 0 (fun _=>true) true ts args.toList ds p) (hw:∀ n ∈ DataW.weightsEach P ts ds,n<=140737488351232) (hlt:∀ q ∈ p,q.block<W.heap.size) :
  args.size=ts.length/\∀ (j:Nat) t v,ts[j]? = some t->args[j]? = some v->Ar enc P W t v:=by
 have key:∀ (ts:List TypeId) (vs:List Value) (ds:List (DataW H)) (p:List MemPlace),DataW.TrodAll enc P W 0 (fun _=>true) true ts vs ds p->(∀ n ∈ DataW.weightsEach P ts ds,n<=140737488351232)->(∀ q ∈ p,q.block<W.heap.size) ->
   vs.length=ts.length/\∀ (j:Nat) t v,ts[j]? = some t->vs[j]? = some v->∃ d p fuel,DataW.trod enc P W 0 (fun _=>true) true fuel t v.cells.toList=some (d,p)/\(∀ n ∈ d.weights P t,n<=140737488351232)/\(∀ q ∈ p,q.block<W.heap.size):=by
  intro ts
  induction ts with
  | nil=>intro vs ds p h _ _; obtain ⟨rfl,_,_⟩:=trodAll_nil h; exact ⟨rfl,fun j t v h=>by simp at h⟩
  | cons t ts ih=>
   intro vs ds p h hw hlt
   obtain ⟨v,vs,d,ds,p1,p2,rfl,rfl,rfl,h1,h2⟩:=trodAll_cons h
   obtain ⟨k1,k2⟩:=ih vs ds p2 h2 (fun n hn=>hw n (by rw [DataW.weightsEach,List.mem_append]; exact .inr hn)) (fun q hq=>hlt q (List.mem_append_right _ hq))
   refine ⟨by simp [k1],fun j t' v' ht hv=>?_⟩
   cases j with
   | zero=>
    simp at ht hv
    subst ht; subst hv
    obtain ⟨fuel,hf⟩:=h1
    exact ⟨d,p1,fuel,hf,fun n hn=>hw n (by rw [DataW.weightsEach,List.mem_append]; exact .inl hn),fun q hq=>hlt q (List.mem_append_left _ hq)⟩
   | succ j=>exact k2 j t' v' (by simpa using ht) (by simpa using hv)
 obtain ⟨k1,k2⟩:=key ts args.toList ds p h hw hlt
 exact ⟨by simpa using k1,fun j t v ht hv=>⟨⟨base,hf j t v ht hv⟩,k2 j t v ht (by simpa using hv)⟩⟩
theorem zU (hl:laidOutB P=true) {W':World} (hb:Below W.heap.size W W'):∀ (ts:List TypeId) (vs:List Value) (ds:List (DataW H)) (p:List MemPlace),ts.all (fun t=>P.readableRec t && decide (t<P.types.size))=true->DataW.TrodAll enc P W 0 (fun _=>true) true ts vs ds p->(∀ q ∈ p,q.block<W.heap.size) ->
  DataW.TrodAll enc P W' 0 (fun b=>decide (b<W.heap.size)) true ts vs ds p:=by
 intro ts
 induction ts with
 | nil=>intro vs ds p _ h _; obtain ⟨rfl,rfl,rfl⟩:=trodAll_nil h; rfl
 | cons t ts ih=>
  intro vs ds p hr h hlt
  obtain ⟨v,vs,d,ds,p1,p2,rfl,rfl,rfl,h1,h2⟩:=trodAll_cons h
  rw [List.all_cons,Bool.and_eq_true,Bool.and_eq_true,decide_eq_true_eq] at hr
  exact ⟨p1,p2,Below.trod hl hr.1.1 hr.1.2 h1 hb fun q hq=>hlt q (List.mem_append_left _ hq),ih vs ds p2 hr.2 h2 fun q hq=>hlt q (List.mem_append_right _ hq),rfl⟩
theorem Gk {fn:Func} {s:ChangeSpec} {tb:TypeId} {W':World} {args:Array Value} {ds:List (DataW H)} {p:List MemPlace} (hl:laidOutB P=true)
  (hrow:fn.params.toList.all (fun t=>P.readableRec t && decide (t<P.types.size))=true) (hr:fn.resultTypes = #[tb]) (hb:P.underlying tb=some .bool) (hv:s.vars=[])
  (hs:s.fn H (ds++[])={ results:=[.lit (.bool true)],args:=ds }) (hW:DataW.Whole enc P fn.params.toList s.vars false W args.toList ds [] p) (hA:DataW.TrodAll enc P W 0 (fun _=>true) true fn.params.toList args.toList ds p) (hlt:∀ q ∈ p,q.block<W.heap.size) (hk:Kp [] W W') :
  s.post enc P fn false true false false W args (.bool true) W':=by
 refine ⟨ds,[],p,[],p,[],hW,?_,?_,?_,hk.below.frame _,fun h=>by cases h⟩
 ·rw [hs,hr]
  exact trodAll_mk1 ⟨1,by simp [DataW.trod,Value.cells,hb]⟩
 ·rw [hs]
  exact zU hl hk.below _ _ _ _ hrow hA hlt
 ·rw [hs,hv]; rfl
theorem ER {C:Checked} {os:Os} {f:FuncId} {fn:Func} {s:ChangeSpec} {conds:List PathCond} {tb:TypeId} (own:ownKnob C.prog.godebug=none) (started:os.Started) (noInit:C.prog.inits.idxOf? f=none) (hfn:C.prog.funcs[f]? = some fn)
  (witness:∃ (w:World) (tape:Tape) (i:Input),w.os=os/\(w.forCall tape i).Shaped C.prog/\i.vars=[]/\Input.okWide C.prog (w.forCall tape i) .any w.heap.size f i /\
   s.pre6 enc C.prog fn conds false (w.forCall tape i).memory i.args/\({}:Assume).holds C.prog (lone (Frame.enter C.prog f i.args .normal) [] (w.forCall tape i)))
  (hl:laidOutB C.prog=true) (hrow:fn.params.toList.all (fun t=>C.prog.readableRec t && decide (t<C.prog.types.size))=true) (hr:fn.resultTypes = #[tb]) (hb:C.prog.underlying tb=some .bool) (hv:s.vars=[])
  (hs:∀ ds:List (DataW H),ds.length=fn.params.size->s.fn H ds={ results:=[.lit (.bool true)],args:=ds })
  (law:∀ (W:World) (args:Array Value),args.size=fn.params.toList.length->(∀ (j:Nat) t v,fn.params.toList[j]? = some t->args[j]? = some v->Ar enc C.prog W t v)->jm C.prog f args W fun r W'=>r = .bool true/\Kp [] W W') :
  ReturnsInHanded {} C os f .any (s.pre6 enc C.prog fn conds false) (s.post enc C.prog fn false true false false):=by
 refine returnsInHanded_of_change_sized own started noInit hfn witness ?_
 intro W base args ds gs before hval hW _ hsz _
 have hW0:=hW
 obtain ⟨p,q,hA,hV,rfl,_,_⟩:=hW
 rw [hv] at hV
 obtain ⟨rfl,rfl⟩:=trodVars_none hV
 simp only [List.append_nil] at hW0 hsz
 have hlt:∀ x ∈ p,x.block<W.heap.size:=fun x hx=>by simpa using hW0.lt x hx
 have hwt:∀ n ∈ DataW.weightsEach C.prog fn.params.toList ds,n<=140737488351232:=fun n hn=>by
  have hmem:n ∈ DataW.weightsEach C.prog (fn.params.toList++s.plain.varTypes C.prog) ds:=by
   have:∀ (ts us:List TypeId) (ds:List (DataW H)),n ∈ DataW.weightsEach C.prog ts ds->n ∈ DataW.weightsEach C.prog (ts++us) ds:=by
    intro ts
    induction ts with
    | nil=>intro us ds h; simp [DataW.weightsEach] at h
    | cons t ts ih=>
     intro us ds h
     cases ds with
     | nil=>simp [DataW.weightsEach] at h
     | cons d ds=>
      rw [DataW.weightsEach,List.mem_append] at h
      rw [List.cons_append,DataW.weightsEach,List.mem_append]
      exact h.imp id (ih us ds)
   exact this _ _ _ hn
  exact of_decide_eq_true (List.all_eq_true.1 hsz n hmem)
 obtain ⟨hsize,har⟩:=Ht (fun j t v ht hv=>hval j t v (by simpa using ht) hv) hA hwt hlt
 have hdl:ds.length=fn.params.size:=by
  have:∀ (ts:List TypeId) (vs:List Value) (ds:List (DataW H)) (p:List MemPlace),DataW.TrodAll enc C.prog W 0 (fun _=>true) true ts vs ds p->ds.length=ts.length:=by
   intro ts
   induction ts with
   | nil=>intro vs ds p h; obtain ⟨_,rfl,_⟩:=trodAll_nil h; rfl
   | cons t ts ih=>intro vs ds p h; obtain ⟨v,vs,d,ds,p1,p2,rfl,rfl,rfl,_,h2⟩:=trodAll_cons h; simp [ih vs ds p2 h2]
  simpa using this _ _ _ _ hA
 refine Calls.mono (law W args hsize har) fun e W' ⟨v,he,hv',hk⟩=>⟨v,he,?_⟩
 subst hv'
 exact Gk hl hrow hr hb hv (by rw [List.append_nil]; exact hs ds hdl) hW0 hA hlt hk
end
end Go.Proofs.YtladifkbefehdaaGreat
