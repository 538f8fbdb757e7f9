/- The law: for every input it returns true, and each argument reads behind the call as it read before; and what leads there. Conditions: each lemma's own. -/
import Derived.ProofKit
import Derived.SizedLaws
import Derived.Test.YtdggohppeeaipaaGreatChecked
import Derived.Test.YtdggohppeeaipaaGreatRows
import Derived.Test.YtdggohppeeaipaaGreatKDM5
set_option linter.unusedVariables false
set_option linter.unusedSimpArgs false
namespace Go.Proofs.YtdggohppeeaipaaGreat
open Go.RowKit
def cQ (s:State) (c:Command):Int:=if mayF s s.version=0 then bc c s.version else 1
def lq (s:State) (c:Command):State × Reply:=
 if c.kind=11 then aA (cG c) c s
 else if c.kind=10 then aA (bp false) c s
 else if c.kind=9 then aA (bp true) c s
 else if c.kind=7 then aA bj c s
 else if c.kind=5 then aA aL c s
 else if c.kind=12 then cA c s
 else if c.kind=6 then db c s
 else if c.kind=4 then ba s c
 else if c.kind=3 then aS s c
 else if c.kind=2 then aZ s c
 else (s,⟨1,0⟩)
def a_ (s:State) (c:Command):State × Reply:=if ¬ cQ s c=0 then (s,⟨cQ s c,0⟩) else lq s c
theorem pR {α:Type} {key:α->Int} {most:Int}:∀ {l:List α} {a:Int},ao key most a l=true->l=[]\/a+(l.length:Int)<=most
 | [],_,_=>.inl rfl
 | x :: l,a,h=>by
  simp only [ao,Bool.and_eq_true] at h
  have h1:=qD h.1
  rcases pR h.2 with h2 | h2
  ·subst h2; right; simp only [List.length_cons,List.length_nil]; omega
  ·right; simp only [List.length_cons]; omega
theorem dq {s:State} {v:Int} (h:mayF s v=0):aW v 1 3=true/\df s v=true/\iI s=true/\gv s=true/\dv s v=true:=by
 unfold mayF at h
 split at h
 ·omega
 ·rename_i h1
  split at h
  ·omega
  ·rename_i h2
   simp at h1 h2
   exact ⟨h1,h2.1.1.1,h2.1.1.2,h2.1.2,h2.2⟩
theorem Fq {s:State} {v:Int} (h:mayF s v=0):s.opens.length<=8:=by
 have h1:=(dq h).2.2.2.1
 simp only [gv,Bool.and_eq_true] at h1
 rcases pR h1.1 with h2 | h2
 ·rw [h2]; simp
 ·omega
theorem FU {s:State} {v:Int} (h:mayF s v=0):s.sess.length<=8:=by
 have h1:=(dq h).2.2.1
 simp only [iI,Bool.and_eq_true] at h1
 rcases pR h1.1 with h2 | h2
 ·rw [h2]; simp
 ·omega
theorem Ax {s:State} {v:Int} (h:mayF s v=0):s.snaps.length<=16/\ao Snap.id (s.next - 1) 0 s.snaps=true/\∀ x ∈ s.snaps,bN v (gz v) x=true:=by
 have h1:=(dq h).2.2.2.2
 simp only [dv,Bool.and_eq_true,Bool.not_eq_true',Bool.or_eq_false_iff,decide_eq_false_iff_not,Bool.not_eq_false',List.all_eq_true] at h1
 exact ⟨by omega,h1.1.2,h1.2⟩
theorem FG {x:Snap} {v t:Int} (h:bN v t x=true):ck x.chunks=true:=by
 simp only [bN,Bool.and_eq_true,decide_eq_true_eq] at h
 cases hr:ck x.chunks with
 | true=>rfl
 | false=>have:=er (l:=x.chunks) hr; omega
theorem AL:∀ {l:List Snap},(∀ x ∈ l,ck x.chunks=true)->nch l<=8*l.length
 | [],_=>Nat.le_refl _
 | x :: l,h=>by
  have h1:=AL (l:=l) fun y hy=>h y (List.mem_cons_of_mem _ hy)
  have h2:=(qa (h x (List.mem_cons_self))).2
  have e:nch (x :: l)=x.chunks.length+nch l:=by simp [nch]
  rw [e,List.length_cons]; omega
theorem vr {s:State} {v:Int} (h:mayF s v=0):nch s.snaps<=128:=by
 have h1:=Ax h
 have:=AL (l:=s.snaps) fun x hx=>FG (h1.2.2 x hx)
 omega
theorem Hi {s:State} {v:Int} (h:mayF s v=0):1<=s.next/\s.next<=1048576:=by
 have h1:=(dq h).2.1
 simp only [df,Bool.and_eq_true] at h1
 exact qD h1.1.1.2
theorem sr {s:State} {c:Command} (h:(if mayF s s.version=0 then bc c s.version else 1)=0):mayF s s.version=0:=by
 split at h
 ·assumption
 ·omega
theorem ub {s:State} {c:Command} (h:(if mayF s s.version=0 then bc c s.version else 1)=0):nch s.snaps<=1048576:=by have:=vr (sr h); omega
theorem AX {s:State} {c:Command} (h:(if mayF s s.version=0 then bc c s.version else 1)=0):s.opens.length<1048576:=by have:=Fq (sr h); omega
theorem mY {s:State} {c:Command} (h:(if mayF s s.version=0 then bc c s.version else 1)=0):s.sess.length<1048576:=by have:=FU (sr h); omega
theorem yH {s:State} {c:Command} (h:(if mayF s s.version=0 then bc c s.version else 1)=0):s.snaps.length<1048576:=by have:=(Ax (sr h)).1; omega
theorem Ab {s:State} {c:Command} (h:(if mayF s s.version=0 then bc c s.version else 1)=0):0<=s.next:=by have:=Hi (sr h); omega
theorem pY {s:State} {c:Command} (h:(if mayF s s.version=0 then bc c s.version else 1)=0):a_ s c=lq s c:=by
 have h:cQ s c=0:=h
 rw [a_,h]; rfl
theorem Jf {s:State} {c:Command} (h:¬ (if mayF s s.version=0 then bc c s.version else 1)=0):a_ s c=(s,⟨(if mayF s s.version=0 then bc c s.version else 1),0⟩):=by
 have h:¬ cQ s c=0:=h
 rw [a_,if_pos h]; rfl
theorem FI (st:State) (c:Command) (r0:Int) (r1:Int) (r2:Int) (r3:Int) (r4:Reply) (r5:List Sess) (r6:List Opn) (r7:List Snap):lB aE BR [] Tryz.f14 [.agg (cellsOf (.nm .state) st),.agg (cellsOf (.nm .command) c)] [] [.agg ([.int (r0),.int (r1),.int (r2),.int (r3),.own 0,.own 1,.own 2]),.agg (cellsOf (.nm .reply) r4)] [.row 44 (.nm .sess) (r5),.row 77 (.nm .opn) (r6),.row 59 (.nm .snap) (r7)]=((fun (q18:Reply)=>(fun (q17:Int)=>(fun (q16:Int)=>(fun (q15:Prop)=>(fun (q14:Prop)=>(fun (q13:Int)=>(fun (q12:State)=>(fun (q11:Prop)=>(fun (q10:State × Reply)=>(fun (q9:State × Reply)=>(fun (q8:State × Reply)=>(fun (q7:Int)=>(fun (q6:State × Reply)=>(fun (q5:State × Reply)=>(fun (q4:State × Reply)=>(fun (q3:State × Reply)=>(fun (q2:State × Reply)=>(fun (q1:State × Reply)=>(fun (q0:Int)=>I64 q17->I64 st.next->I64 st.keep->I64 st.quota->st.sess.length*(32:Nat)<=(140737488355328:Nat)->st.opens.length*(16:Nat)<=(140737488355328:Nat)->st.snaps.length*(64:Nat)<=(140737488355328:Nat)->I64 q7->I64 c.client->I64 c.seq->I64 c.set->I64 c.id->I64 c.n->c.chunks.length*(8:Nat)<=(140737488355328:Nat)->c.text.b.length<=(140737488355328:Nat)->I64 q17->I64 st.next->I64 st.keep->I64 st.quota->I64 q0->(¬q0=q16->I64 q0->I64 q16->q17=r0/\st.next=r1/\st.keep=r2/\st.quota=r3/\q0=q13/\q11)/\(q0=q16->(q7=(11:Int)->I64 q3.snd.code->I64 q3.snd.n->q3.fst.version=r0/\q3.fst.next=r1/\q3.fst.keep=r2/\q3.fst.quota=r3/\q3.snd.code=q13/\q3.snd.n=r4.n/\q3.fst.sess=r5/\q3.fst.opens=r6/\q3.fst.snaps=r7)/\(¬q7=(11:Int)->(q7=(10:Int)->I64 q1.snd.code->I64 q1.snd.n->q1.fst.version=r0/\q1.fst.next=r1/\q1.fst.keep=r2/\q1.fst.quota=r3/\q1.snd.code=q13/\q1.snd.n=r4.n/\q1.fst.sess=r5/\q1.fst.opens=r6/\q1.fst.snaps=r7)/\(¬q7=(10:Int)->(q7=(9:Int)->I64 q2.snd.code->I64 q2.snd.n->q2.fst.version=r0/\q2.fst.next=r1/\q2.fst.keep=r2/\q2.fst.quota=r3/\q2.snd.code=q13/\q2.snd.n=r4.n/\q2.fst.sess=r5/\q2.fst.opens=r6/\q2.fst.snaps=r7)/\(¬q7=(9:Int)->(q7=(7:Int)->I64 q4.snd.code->I64 q4.snd.n->q4.fst.version=r0/\q4.fst.next=r1/\q4.fst.keep=r2/\q4.fst.quota=r3/\q4.snd.code=q13/\q4.snd.n=r4.n/\q4.fst.sess=r5/\q4.fst.opens=r6/\q4.fst.snaps=r7)/\(¬q7=(7:Int)->(q7=(5:Int)->q15/\(I64 q5.snd.code->I64 q5.snd.n->q5.fst.version=r0/\q5.fst.next=r1/\q5.fst.keep=r2/\q5.fst.quota=r3/\q5.snd.code=q13/\q5.snd.n=r4.n/\q5.fst.sess=r5/\q5.fst.opens=r6/\q5.fst.snaps=r7))/\(¬q7=(5:Int)->(q7=(12:Int)->q15/\(I64 q10.snd.code->I64 q10.snd.n->q10.fst.version=r0/\q10.fst.next=r1/\q10.fst.keep=r2/\q10.fst.quota=r3/\q10.snd.code=q13/\q10.snd.n=r4.n/\q10.fst.sess=r5/\q10.fst.opens=r6/\q10.fst.snaps=r7))/\(¬q7=(12:Int)->(q7=(6:Int)->I64 q18.code->I64 q18.n->q12.version=r0/\q12.next=r1/\q12.keep=r2/\q12.quota=r3/\q18.code=q13/\q18.n=r4.n/\q12.sess=r5/\q12.opens=r6/\q12.snaps=r7)/\(¬q7=(6:Int)->(q7=(4:Int)->q14/\(I64 q8.snd.code->I64 q8.snd.n->q8.fst.version=r0/\q8.fst.next=r1/\q8.fst.keep=r2/\q8.fst.quota=r3/\q8.snd.code=q13/\q8.snd.n=r4.n/\q8.fst.sess=r5/\q8.fst.opens=r6/\q8.fst.snaps=r7))/\(¬q7=(4:Int)->(q7=(3:Int)->q15/\st.snaps.length<(1048576:Nat)/\q14/\q16<=st.next/\(I64 q6.snd.code->I64 q6.snd.n->q6.fst.version=r0/\q6.fst.next=r1/\q6.fst.keep=r2/\q6.fst.quota=r3/\q6.snd.code=q13/\q6.snd.n=r4.n/\q6.fst.sess=r5/\q6.fst.opens=r6/\q6.fst.snaps=r7))/\(¬q7=(3:Int)->(q7=(2:Int)->q14/\(I64 q9.snd.code->I64 q9.snd.n->q9.fst.version=r0/\q9.fst.next=r1/\q9.fst.keep=r2/\q9.fst.quota=r3/\q9.snd.code=q13/\q9.snd.n=r4.n/\q9.fst.sess=r5/\q9.fst.opens=r6/\q9.fst.snaps=r7))/\(¬q7=(2:Int)->I64 (1:Int)->I64 q16->q17=r0/\st.next=r1/\st.keep=r2/\st.quota=r3/\(1:Int)=q13/\q11)))))))))))) (if mayF st q17=q16 then bc c q17 else (1:Int))) (aA (bp false) c st)) (aA (bp true) c st)) (aA (cG c) c st)) (aA bj c st)) (aA aL c st)) (aS st c)) c.kind) (ba st c)) (aZ st c)) (cA c st)) (q16=r4.n/\st.sess=r5/\st.opens=r6/\st.snaps=r7)) (db c st).fst) r4.code) (st.opens.length<(1048576:Nat))) (nch st.snaps<=(1048576:Nat))) (0:Int)) st.version) (db c st).snd):=by kernel_rfl
theorem Gn (st:State) (c:Command):Sat Tryz.prog (av aE) 14 [.agg (cellsOf (.nm .state) st),.agg (cellsOf (.nm .command) c)] [] ⟨[],[.agg ([.int (((a_ st c).1.version)),.int (((a_ st c).1.next)),.int (((a_ st c).1.keep)),.int (((a_ st c).1.quota)),.own 0,.own 1,.own 2]),.agg (cellsOf (.nm .reply) ((a_ st c).2))],some ([.row 44 (.nm .sess) (((a_ st c).1.sess)),.row 77 (.nm .opn) (((a_ st c).1.opens)),.row 59 (.nm .snap) (((a_ st c).1.snaps))]),true⟩:=by
 refine cT qJ [] Tryz.func14 (by decide) (by kernel_rfl) ?_
 rw [FI]
 (repeat' (first | with_reducible refine And.intro ?_ ?_ | with_reducible refine and_imp.2 ?_ | intro))
 all_goals (first | (first | with_reducible rfl | with_reducible assumption | omega | (refine aj ?_ ?_ <;> omega)) | exact (ub (by with_reducible assumption)) | exact (AX (by with_reducible assumption)) | exact (mY (by with_reducible assumption)) | exact (yH (by with_reducible assumption)) | exact (Ab (by with_reducible assumption)) | (rw [Jf (by with_reducible assumption)]; done) | (rw [pY (by with_reducible assumption)]; simp only [lq, *]; done) | (rw [pY (by with_reducible assumption)]; simp [lq, *]; done))
def zk:cX:=(bI 14 (bF (ai (kT (.nm .state)) (ai (kT (.nm .command)) aM)) aN fun (st,c,_) (_)=>⟨[],[.agg ([.int (((a_ st c).1.version)),.int (((a_ st c).1.next)),.int (((a_ st c).1.keep)),.int (((a_ st c).1.quota)),.own 0,.own 1,.own 2]),.agg (cellsOf (.nm .reply) ((a_ st c).2))],some ([.row 44 (.nm .sess) (((a_ st c).1.sess)),.row 77 (.nm .opn) (((a_ st c).1.opens)),.row 59 (.nm .snap) (((a_ st c).1.snaps))]),true⟩) BR)
theorem qS:bd Tryz.prog (av aE) zk:=(ax (ay (ab bf (ab bf al)) ak fun (st,c,_) (_) _=>Gn st c ) qJ)
end Go.Proofs.YtdggohppeeaipaaGreat
namespace Go.Proofs.YtdggohppeeaipaaGreat
open Go.RowKit
def bA (s:State) (c:Command):State × Reply:=
 if ag Sess.client c.client s.sess<0 then (s,⟨11,0⟩)
 else if c.seq=(s.sess.getD (ag Sess.client c.client s.sess).toNat (dflt (.nm .sess))).seq then (s,(s.sess.getD (ag Sess.client c.client s.sess).toNat (dflt (.nm .sess))).last)
 else if c.seq<(s.sess.getD (ag Sess.client c.client s.sess).toNat (dflt (.nm .sess))).seq then (s,⟨13,0⟩)
 else if (s.sess.getD (ag Sess.client c.client s.sess).toNat (dflt (.nm .sess))).seq+1<c.seq then (s,⟨14,0⟩)
 else ({ (a_ s c).1 with sess:=(a_ s c).1.sess.set (ag Sess.client c.client s.sess).toNat { (a_ s c).1.sess.getD (ag Sess.client c.client s.sess).toNat (dflt (.nm .sess)) with seq:=c.seq,last:=(a_ s c).2 } },(a_ s c).2)
def dw (s:State) (c:Command):State × Reply:=
 if ¬ cQ s c=0 then (s,⟨cQ s c,0⟩)
 else if c.kind=8 then (if ¬ c.n=s.version+1 then (s,⟨1,0⟩) else ({ s with version:=c.n },⟨0,c.n⟩))
 else if c.kind=1 then (if 0<=ag Sess.client c.client s.sess then (s,⟨12,0⟩) else ({ s with sess:=lj s.sess (s.sess.takeWhile fun y=>decide (y.client<c.client)).length ⟨c.client,0,⟨0,0⟩⟩ },⟨0,0⟩))
 else bA s c
theorem Cn {Q:State × Reply->Prop} {s:State} {c:Command} (h0:∀ e:Int,¬ e=0->Q (s,⟨e,0⟩))
  (hs:∀ f:State->Nat->State × Reply,cQ s c=0->(f=cG c\/(∃ b,f=bp b)\/f=bj\/f=aL)->Q (aA f c s))
  (hq:cQ s c=0->Q (cA c s)) (hk:cQ s c=0->Q (db c s)) (ha:cQ s c=0->Q (ba s c)) (hc:cQ s c=0->Q (aS s c)) (hb:cQ s c=0->Q (aZ s c)):Q (a_ s c):=by
 unfold a_
 split
 ·exact h0 _ (by assumption)
 ·rename_i h
  have h:cQ s c=0:=Classical.not_not.1 h
  unfold lq
  split
  ·exact hs _ h (.inl rfl)
  split
  ·exact hs _ h (.inr (.inl ⟨_,rfl⟩))
  split
  ·exact hs _ h (.inr (.inl ⟨_,rfl⟩))
  split
  ·exact hs _ h (.inr (.inr (.inl rfl)))
  split
  ·exact hs _ h (.inr (.inr (.inr rfl)))
  split
  ·exact hq h
  split
  ·exact hk h
  split
  ·exact ha h
  split
  ·exact hc h
  split
  ·exact hb h
  ·exact h0 1 (by decide)
theorem wS {Q:State × Reply->Prop} {f:State->Nat->State × Reply} {s:State} {c:Command} (h0:∀ e:Int,¬ e=0->Q (s,⟨e,0⟩)) (h:∀ n:Nat,(n:Int)=ag Snap.id c.id s.snaps->Q (f s n)):Q (aA f c s):=by
 unfold aA
 split
 ·exact h0 15 (by decide)
 ·exact h _ (by omega)
theorem gG {s:State} {c:Command}:(a_ s c).1.sess=s.sess:=by
 refine Cn (Q:=fun r=>r.1.sess=s.sess) (fun _ _=>rfl) (fun f _ hf=>?_) (fun _=>rfl) (fun _=>rfl) (fun _=>?_) (fun _=>?_) (fun _=>?_)
 ·refine wS (Q:=fun r=>r.1.sess=s.sess) (fun _ _=>rfl) fun n _=>?_
  rcases hf with rfl | ⟨b,rfl⟩ | rfl | rfl
  ·rfl
  ·unfold bp; split <;> rfl
  ·rfl
  ·unfold aL; split; rfl; split <;> rfl
 ·unfold ba; split <;> rfl
 ·unfold aS; split; rfl; split; rfl; split <;> rfl
 ·unfold aZ; split <;> rfl
theorem qV {l:List Sess} {k:Nat} {q:Int} {R:Reply} (h:k<l.length):(l.set k (Sess.mk (l.getD k (dflt (.nm .sess))).client q (l.getD k (dflt (.nm .sess))).last)).set k (Sess.mk ((l.set k (Sess.mk (l.getD k (dflt (.nm .sess))).client q (l.getD k (dflt (.nm .sess))).last)).getD k (dflt (.nm .sess))).client ((l.set k (Sess.mk (l.getD k (dflt (.nm .sess))).client q (l.getD k (dflt (.nm .sess))).last)).getD k (dflt (.nm .sess))).seq R)=l.set k { l.getD k (dflt (.nm .sess)) with seq:=q,last:=R }:=by
 have e:∀ x:Sess,(l.set k x).getD k (dflt (.nm .sess))=x:=fun x=>by
  rw [List.getD_eq_getElem?_getD,List.getElem?_set_self h]; rfl
 rw [e,List.set_set]
section
variable {v nx kp qt:Int} {se:List Sess} {op:List Opn} {sn:List Snap} {c:Command}
theorem K_ (h:ag Sess.client c.client se<0):bA (State.mk v nx kp qt se op sn) c=(State.mk v nx kp qt se op sn,⟨11,0⟩):=by
 simp only [bA,if_pos h]
theorem KS (h:0<=ag Sess.client c.client se) (e:c.seq=(se.getD (ag Sess.client c.client se).toNat (dflt (.nm .sess))).seq):bA (State.mk v nx kp qt se op sn) c=(State.mk v nx kp qt se op sn,(se.getD (ag Sess.client c.client se).toNat (dflt (.nm .sess))).last):=by
 have h1:¬ ag Sess.client c.client se<0:=by omega
 simp only [bA,if_neg h1,if_pos e]
theorem KP (h:0<=ag Sess.client c.client se) (e:¬ c.seq=(se.getD (ag Sess.client c.client se).toNat (dflt (.nm .sess))).seq) (l:c.seq<(se.getD (ag Sess.client c.client se).toNat (dflt (.nm .sess))).seq):bA (State.mk v nx kp qt se op sn) c=(State.mk v nx kp qt se op sn,⟨13,0⟩):=by
 have h1:¬ ag Sess.client c.client se<0:=by omega
 simp only [bA,if_neg h1,if_neg e,if_pos l]
theorem KZ (h:0<=ag Sess.client c.client se) (e:¬ c.seq=(se.getD (ag Sess.client c.client se).toNat (dflt (.nm .sess))).seq) (l:(se.getD (ag Sess.client c.client se).toNat (dflt (.nm .sess))).seq<=c.seq) (g:(se.getD (ag Sess.client c.client se).toNat (dflt (.nm .sess))).seq+1<c.seq):bA (State.mk v nx kp qt se op sn) c=(State.mk v nx kp qt se op sn,⟨14,0⟩):=by
 have h1:¬ ag Sess.client c.client se<0:=by omega
 have h2:¬ c.seq<(se.getD (ag Sess.client c.client se).toNat (dflt (.nm .sess))).seq:=by omega
 simp only [bA,if_neg h1,if_neg e,if_neg h2,if_pos g]
theorem KW (h:0<=ag Sess.client c.client se) (e:¬ c.seq=(se.getD (ag Sess.client c.client se).toNat (dflt (.nm .sess))).seq) (l:(se.getD (ag Sess.client c.client se).toNat (dflt (.nm .sess))).seq<=c.seq) (g:c.seq<=(se.getD (ag Sess.client c.client se).toNat (dflt (.nm .sess))).seq+1):bA (State.mk v nx kp qt se op sn) c=({ (a_ (State.mk v nx kp qt se op sn) c).1 with sess:=(a_ (State.mk v nx kp qt se op sn) c).1.sess.set (ag Sess.client c.client se).toNat { (a_ (State.mk v nx kp qt se op sn) c).1.sess.getD (ag Sess.client c.client se).toNat (dflt (.nm .sess)) with seq:=c.seq,last:=(a_ (State.mk v nx kp qt se op sn) c).2 } },(a_ (State.mk v nx kp qt se op sn) c).2):=by
 have h1:¬ ag Sess.client c.client se<0:=by omega
 have h2:¬ c.seq<(se.getD (ag Sess.client c.client se).toNat (dflt (.nm .sess))).seq:=by omega
 have h3:¬ (se.getD (ag Sess.client c.client se).toNat (dflt (.nm .sess))).seq+1<c.seq:=by omega
 simp only [bA,if_neg h1,if_neg e,if_neg h2,if_neg h3]
theorem zW (h:0<=ag Sess.client c.client se):ag Sess.client c.client se<((a_ (State.mk v nx kp qt se op sn) c).1.sess.length:Int):=by rw [gG]; exact bM h
theorem rN (h:0<=ag Sess.client c.client se):(ag Sess.client c.client se).toNat<(a_ (State.mk v nx kp qt se op sn) c).1.sess.length:=by have:=zW (v:=v) (nx:=nx) (kp:=kp) (qt:=qt) (op:=op) (sn:=sn) h; omega
theorem ID {x:Sess} (h:0<=ag Sess.client c.client se):ag Sess.client c.client se<(((a_ (State.mk v nx kp qt se op sn) c).1.sess.set (ag Sess.client c.client se).toNat x).length:Int):=by rw [List.length_set]; exact zW h
theorem Ic (h:cQ (State.mk v nx kp qt se op sn) c=0) (h0:0<=ag Sess.client c.client se):I64 ((se.getD (ag Sess.client c.client se).toNat (dflt (.nm .sess))).seq+1):=by
 have h1:=(dq (sr h)).2.2.1
 simp only [iI,Bool.and_eq_true,List.all_eq_true] at h1
 have h2:=h1.2 _ (List.mem_of_getElem? (gd (d:=dflt (.nm .sess)) (k:=(ag Sess.client c.client se).toNat) (l:=se) (by have:=bM h0; omega)))
 simp only [aQ,Bool.and_eq_true] at h2
 have h3:=qD h2.1.1
 constructor <;> omega
end
theorem zP (v:Int) (nx:Int) (kp:Int) (qt:Int) (c:Command) (se:List Sess) (op:List Opn) (sn:List Snap) (r0:Int) (r1:Int) (r2:Int) (r3:Int) (r4:Reply) (r5:List Sess) (r6:List Opn) (r7:List Snap):ou aE zk [] Tryz.f37 [.agg ([.int (v),.int (nx),.int (kp),.int (qt),.own 0,.own 1,.own 2]),.agg (cellsOf (.nm .command) c)] [.row 44 (.nm .sess) (se),.row 77 (.nm .opn) (op),.row 59 (.nm .snap) (sn)] [.agg ([.int (r0),.int (r1),.int (r2),.int (r3),.own 0,.own 1,.own 2]),.agg (cellsOf (.nm .reply) r4)] [.row 44 (.nm .sess) (r5),.row 77 (.nm .opn) (r6),.row 59 (.nm .snap) (r7)]=((fun (q7:Prop)=>(fun (q6:Int)=>(fun (q5:Int)=>(fun (q4:Prop)=>(fun (q3:den (Sh.nm NT.sess))=>(fun (q2:State × Reply)=>(fun (q1:Int)=>(fun (q0:den (Sh.nm NT.sess))=>I64 v->I64 nx->I64 kp->I64 qt->I64 c.kind->I64 c.client->I64 q6->I64 c.set->I64 c.id->I64 c.n->c.chunks.length*(8:Nat)<=(140737488355328:Nat)->c.text.b.length<=(140737488355328:Nat)->I64 q1->(q1<q5->I64 (11:Int)->I64 q5->v=r0/\nx=r1/\kp=r2/\qt=r3/\(11:Int)=r4.code/\q4)/\(q5<=q1->q5<=q1/\q1<(↑se.length:Int)/\(I64 (se.getD q1.toNat q3).client->I64 (se.getD q1.toNat q3).seq->I64 (se.getD q1.toNat q3).last.code->I64 (se.getD q1.toNat q3).last.n->(q6=(se.getD q1.toNat q3).seq->v=r0/\nx=r1/\kp=r2/\qt=r3/\(se.getD q1.toNat q3).last.code=r4.code/\(se.getD q1.toNat q3).last.n=r4.n/\q7)/\(¬q6=(se.getD q1.toNat q3).seq->(q6<(se.getD q1.toNat q3).seq->I64 (13:Int)->I64 q5->v=r0/\nx=r1/\kp=r2/\qt=r3/\(13:Int)=r4.code/\q4)/\((se.getD q1.toNat q3).seq<=q6->I64 ((se.getD q1.toNat q3).seq+(1:Int))/\((se.getD q1.toNat q3).seq+(1:Int)<q6->I64 (14:Int)->I64 q5->v=r0/\nx=r1/\kp=r2/\qt=r3/\(14:Int)=r4.code/\q4)/\(q6<=(se.getD q1.toNat q3).seq+(1:Int)->I64 q2.fst.version->I64 q2.fst.next->I64 q2.fst.keep->I64 q2.fst.quota->I64 q2.snd.code->I64 q2.snd.n->(q5<=q1/\q1<(↑q2.fst.sess.length:Int))/\(I64 q0.client->I64 q0.seq->I64 q0.last.code->I64 q0.last.n->q5<=q1/\q1<(↑(q2.fst.sess.set q1.toNat (Sess.mk q0.client q6 q0.last)).length:Int))/\(I64 q0.client->I64 q0.seq->I64 q0.last.code->I64 q0.last.n->I64 ((q2.fst.sess.set q1.toNat (Sess.mk q0.client q6 q0.last)).getD q1.toNat q3).client->I64 ((q2.fst.sess.set q1.toNat (Sess.mk q0.client q6 q0.last)).getD q1.toNat q3).seq->I64 ((q2.fst.sess.set q1.toNat (Sess.mk q0.client q6 q0.last)).getD q1.toNat q3).last.code->I64 ((q2.fst.sess.set q1.toNat (Sess.mk q0.client q6 q0.last)).getD q1.toNat q3).last.n->q2.fst.version=r0/\q2.fst.next=r1/\q2.fst.keep=r2/\q2.fst.quota=r3/\q2.snd.code=r4.code/\q2.snd.n=r4.n/\(q2.fst.sess.set q1.toNat (Sess.mk q0.client q6 q0.last)).set q1.toNat (Sess.mk ((q2.fst.sess.set q1.toNat (Sess.mk q0.client q6 q0.last)).getD q1.toNat q3).client ((q2.fst.sess.set q1.toNat (Sess.mk q0.client q6 q0.last)).getD q1.toNat q3).seq q2.snd)=r5/\q2.fst.opens=r6/\q2.fst.snaps=r7))))))) (q2.fst.sess.getD q1.toNat q3)) (ag Sess.client c.client se)) (a_ (State.mk v nx kp qt se op sn) c)) (dflt (Sh.nm NT.sess))) (q5=r4.n/\q7)) (0:Int)) c.seq) (se=r5/\op=r6/\sn=r7)):=by kernel_rfl
theorem Aa (v:Int) (nx:Int) (kp:Int) (qt:Int) (c:Command) (se:List Sess) (op:List Opn) (sn:List Snap) (h0:cQ (State.mk v nx kp qt se op sn) c=0):Sat Tryz.prog (av aE) 37 [.agg ([.int (v),.int (nx),.int (kp),.int (qt),.own 0,.own 1,.own 2]),.agg (cellsOf (.nm .command) c)] [.row 44 (.nm .sess) (se),.row 77 (.nm .opn) (op),.row 59 (.nm .snap) (sn)] ⟨[cQ (State.mk v nx kp qt se op sn) c=0],[.agg ([.int (((bA (State.mk v nx kp qt se op sn) c).1.version)),.int (((bA (State.mk v nx kp qt se op sn) c).1.next)),.int (((bA (State.mk v nx kp qt se op sn) c).1.keep)),.int (((bA (State.mk v nx kp qt se op sn) c).1.quota)),.own 0,.own 1,.own 2]),.agg (cellsOf (.nm .reply) ((bA (State.mk v nx kp qt se op sn) c).2))],some ([.row 44 (.nm .sess) (((bA (State.mk v nx kp qt se op sn) c).1.sess)),.row 77 (.nm .opn) (((bA (State.mk v nx kp qt se op sn) c).1.opens)),.row 59 (.nm .snap) (((bA (State.mk v nx kp qt se op sn) c).1.snaps))]),false⟩:=by
 refine dA qS [] Tryz.func37 (by decide) (by kernel_rfl) ?_
 rw [zP]
 (repeat' (first | with_reducible refine And.intro ?_ ?_ | with_reducible refine and_imp.2 ?_ | intro))
 all_goals (first | (first | with_reducible rfl | with_reducible assumption | omega | (refine aj ?_ ?_ <;> omega)) | exact bM (by with_reducible assumption) | exact zW (by with_reducible assumption) | exact ID (by with_reducible assumption) | exact Ic (by with_reducible assumption) (by with_reducible assumption) | (rw [K_] <;> first | rfl | with_reducible assumption | exact qV (rN (by with_reducible assumption))) | (rw [KS] <;> first | rfl | with_reducible assumption | exact qV (rN (by with_reducible assumption))) | (rw [KP] <;> first | rfl | with_reducible assumption | exact qV (rN (by with_reducible assumption))) | (rw [KZ] <;> first | rfl | with_reducible assumption | exact qV (rN (by with_reducible assumption))) | (rw [KW] <;> first | rfl | with_reducible assumption | exact qV (rN (by with_reducible assumption))))
def zJ:cX:=(bI 37 (bF (ai (kG (aq cI (aq cI (aq cI (aq cI (aq (bg 0) (aq (bg 1) (aq (bg 2) bS)))))))) (ai (kT (.nm .command)) aM)) (aB (bh 44 (.nm .sess)) (aB (bh 77 (.nm .opn)) (aB (bh 59 (.nm .snap)) aN))) fun ((v,nx,kp,qt,_,_,_,_),c,_) (se,op,sn,_)=>⟨[cQ (State.mk v nx kp qt se op sn) c=0],[.agg ([.int (((bA (State.mk v nx kp qt se op sn) c).1.version)),.int (((bA (State.mk v nx kp qt se op sn) c).1.next)),.int (((bA (State.mk v nx kp qt se op sn) c).1.keep)),.int (((bA (State.mk v nx kp qt se op sn) c).1.quota)),.own 0,.own 1,.own 2]),.agg (cellsOf (.nm .reply) ((bA (State.mk v nx kp qt se op sn) c).2))],some ([.row 44 (.nm .sess) (((bA (State.mk v nx kp qt se op sn) c).1.sess)),.row 77 (.nm .opn) (((bA (State.mk v nx kp qt se op sn) c).1.opens)),.row 59 (.nm .snap) (((bA (State.mk v nx kp qt se op sn) c).1.snaps))]),false⟩) zk)
theorem sI:bd Tryz.prog (av aE) zJ:=(ax (ay (ab (Iu (ae aw (ae aw (ae aw (ae aw (ae aD (ae aD (ae aD aH)))))))) (ab bf al)) (ah aC (ah aC (ah aC ak))) fun ((v,nx,kp,qt,_,_,_,_),c,_) (se,op,sn,_) hp=>Aa v nx kp qt c se op sn (dI hp)) qS)
end Go.Proofs.YtdggohppeeaipaaGreat
namespace Go.Proofs.YtdggohppeeaipaaGreat
open Go.RowKit
section
variable {s:State} {c:Command}
theorem Gb (h:(if mayF s s.version=0 then bc c s.version else 1)=0):cQ s c=0:=h
theorem Dd (h:(if mayF s s.version=0 then bc c s.version else 1)=0):I64 (s.version+1):=by
 have h1:=(dq (sr h)).2.1
 simp only [df,Bool.and_eq_true] at h1
 have:=qD h1.1.1.1
 constructor <;> omega
theorem Jv (h:¬ (if mayF s s.version=0 then bc c s.version else 1)=0):dw s c=(s,⟨(if mayF s s.version=0 then bc c s.version else 1),0⟩):=by
 have h:¬ cQ s c=0:=h
 rw [dw,if_pos h]; rfl
theorem Iw (h:(if mayF s s.version=0 then bc c s.version else 1)=0):dw s c=if c.kind=8 then (if ¬ c.n=s.version+1 then (s,⟨1,0⟩) else ({ s with version:=c.n },⟨0,c.n⟩))
 else if c.kind=1 then (if 0<=ag Sess.client c.client s.sess then (s,⟨12,0⟩) else ({ s with sess:=lj s.sess (s.sess.takeWhile fun y=>decide (y.client<c.client)).length ⟨c.client,0,⟨0,0⟩⟩ },⟨0,0⟩))
 else bA s c:=by
 have h:¬ ¬ cQ s c=0:=fun k=>k h
 rw [dw,if_neg h]
theorem CQ (h:(if mayF s s.version=0 then bc c s.version else 1)=0) (k:c.kind=8) (n:¬ c.n=s.version+1):dw s c=(s,⟨1,0⟩):=by rw [Iw h,if_pos k,if_pos n]
theorem Du (h:(if mayF s s.version=0 then bc c s.version else 1)=0) (k:c.kind=8) (n:c.n=s.version+1):dw s c=({ s with version:=c.n },⟨0,c.n⟩):=by rw [Iw h,if_pos k,if_neg (fun h=>h n)]
theorem Cd (h:(if mayF s s.version=0 then bc c s.version else 1)=0) (k:c.kind=1) (n:0<=ag Sess.client c.client s.sess):dw s c=(s,⟨12,0⟩):=by rw [Iw h,if_neg (by omega),if_pos k,if_pos n]
theorem CY (h:(if mayF s s.version=0 then bc c s.version else 1)=0) (k:c.kind=1) (n:ag Sess.client c.client s.sess<0):dw s c=({ s with sess:=lj s.sess (s.sess.takeWhile fun y=>decide (y.client<c.client)).length ⟨c.client,0,⟨0,0⟩⟩ },⟨0,0⟩):=by rw [Iw h,if_neg (by omega),if_pos k,if_neg (by omega)]
theorem EN (h:(if mayF s s.version=0 then bc c s.version else 1)=0) (k:¬ c.kind=8) (n:¬ c.kind=1):dw s c=bA s c:=by rw [Iw h,if_neg k,if_neg n]
theorem cK {l:List Sess} {k:Nat} {x:Sess} (hs:k<=l.length) (ha:(l.take k).all (fun y=>decide (y.client<c.client))=true) (hb:(l.length:Int)<=k\/c.client<=(l.getD k (dflt (.nm .sess))).client):l.take k++[x]++l.drop k=lj l (l.takeWhile fun y=>decide (y.client<c.client)).length x:=by
 have:k=(l.takeWhile fun y=>decide (y.client<c.client)).length:=by
  refine zt ha hs ?_
  by_cases hl:(l.length:Int)<=k
  ·exact .inl hl
  ·refine .inr ⟨by omega,_,gd (d:=dflt (.nm .sess)) (by omega),?_⟩
   rcases hb with hb | hb
   ·omega
   ·exact decide_eq_false (by omega)
 rw [<- this]; simp [lj]
theorem BC {l:List Sess} {k:Nat} (ha:(l.take k).all (fun y=>decide (y.client<c.client))=true) (h:(k:Int)<l.length) (hb:(l.getD k (dflt (.nm .sess))).client<c.client):(l.take (k+1)).all (fun y=>decide (y.client<c.client))=true:=by
 rw [az (gd (d:=dflt (.nm .sess)) h),List.all_append,ha]; simp only [List.all_cons,List.all_nil,decide_eq_true hb]; rfl
end
def IV (st:State) (c:Command):List (Nat × LI):=[(15,{ σ:=Nat,F:=fun k=>([(2,one (.ptr 0 0)),(3,one (.ptr 1 0)),(4,one (.ptr 2 0)),(5,one (.ptr 3 0)),(7,one (.int k))],[.box 26 ([.int ((st.version)),.int ((st.next)),.int ((st.keep)),.int ((st.quota)),.own 4,.own 5,.own 6]),.box 29 (cellsOf (.nm .command) ((c))),.box 26 ([.int ((0)),.int ((0)),.int ((0)),.int ((0)),.em true,.em true,.em true]),.box 35 ([.int ((0)),.int ((0))]),.row 44 (.nm .sess) ((st.sess)),.row 77 (.nm .opn) ((st.opens)),.row 59 (.nm .snap) ((st.snaps))]),J:=fun k=>k<=st.sess.length/\(st.sess.take k).all (fun y=>decide (y.client<c.client))=true,μ:=fun k=>st.sess.length - k })]
theorem HY (st:State) (c:Command) (r0:Int) (r1:Int) (r2:Int) (r3:Int) (r4:Reply) (r5:List Sess) (r6:List Opn) (r7:List Snap):lB aE zJ (IV st c) Tryz.f12 [.agg (cellsOf (.nm .state) st),.agg (cellsOf (.nm .command) c)] [] [.agg ([.int (r0),.int (r1),.int (r2),.int (r3),.own 0,.own 1,.own 2]),.agg (cellsOf (.nm .reply) r4)] [.row 44 (.nm .sess) (r5),.row 77 (.nm .opn) (r6),.row 59 (.nm .snap) (r7)]=((fun (q12:Reply)=>(fun (q11:den (Sh.nm NT.sess))=>(fun (q10:Prop)=>(fun (q9:Prop)=>(fun (q8:Prop)=>(fun (q7:Int)=>(fun (q6:Int)=>(fun (q5:Prop)=>(fun (q4:State)=>(fun (q3:Int)=>(fun (q2:List Sess)=>(fun (q1:Int)=>(fun (q0:Prop)=>I64 q3->I64 st.next->I64 st.keep->I64 st.quota->q2.length*(32:Nat)<=(140737488355328:Nat)->st.opens.length*(16:Nat)<=(140737488355328:Nat)->st.snaps.length*(64:Nat)<=(140737488355328:Nat)->I64 c.kind->I64 q7->I64 c.seq->I64 c.set->I64 c.id->I64 c.n->c.chunks.length*(8:Nat)<=(140737488355328:Nat)->c.text.b.length<=(140737488355328:Nat)->I64 q3->I64 st.next->I64 st.keep->I64 st.quota->I64 (if mayF st q3=q1 then bc c q3 else q6)->(¬(if mayF st q3=q1 then bc c q3 else q6)=q1->I64 (if mayF st q3=q1 then bc c q3 else q6)->I64 q1->q3=r0/\q10/\q9/\q8/\(if mayF st q3=q1 then bc c q3 else q6)=r4.code/\q1=r4.n/\q2=r5/\q5)/\((if mayF st q3=q1 then bc c q3 else q6)=q1->(c.kind=(8:Int)->I64 (q3+q6)/\(¬c.n=q3+q6->I64 q6->I64 q1->q3=r0/\q10/\q9/\q8/\q6=r4.code/\q1=r4.n/\q2=r5/\q5)/\(c.n=q3+q6->c.n=r0/\q10/\q9/\q8/\q1=r4.code/\c.n=r4.n/\q2=r5/\q5))/\(¬c.kind=(8:Int)->(c.kind=q6->I64 (ag Sess.client q7 q2)->(q1<=ag Sess.client q7 q2->I64 (12:Int)->I64 q1->q3=r0/\q10/\q9/\q8/\(12:Int)=r4.code/\q1=r4.n/\q2=r5/\q5)/\(ag Sess.client q7 q2<q1->∃ (s0:Nat),(fun (q13:Int)=>(q1=(↑s0:Int)/\q0)/\(s0<=q2.length/\((List.take s0 q2).all fun (y:Sess)=>decide (y.client<q7))=true)/\∀ (s:Nat),(fun (q15:Int)=>(fun (q14:den (Sh.nm NT.sess))=>s<=q2.length/\((List.take s q2).all fun (y:Sess)=>decide (y.client<q7))=true->(q15<q13->q1<=q15/\q15<q13)/\((q15<q13->I64 q14.client/\I64 q14.seq/\I64 q14.last.code/\I64 q14.last.n)->(q15<q13/\q14.client<q7->I64 (q15+q6)/\∃ (s':Nat),(q15+q6=(↑s':Int)/\q0)/\(s' <= q2.length/\((List.take s' q2).all fun (y:Sess)=>decide (y.client<q7))=true)/\q2.length - s' < q2.length - s)/\(q13<=q15\/q7<=q14.client->(q1<=q15/\q15<=q13)/\q2.length<(1048576:Nat)/\[Sess.mk q7 q1 (Reply.mk q1 q1)].length=(1:Nat)/\q3=r0/\q10/\q9/\q8/\q1=r4.code/\q1=r4.n/\List.take s q2++[Sess.mk q7 q1 (Reply.mk q1 q1)]++List.drop s q2=r5/\q5))) (q2.getD s q11)) (↑s:Int)) (↑q2.length:Int)))/\(¬c.kind=q6->cQ st c=q1/\(I64 q4.version->I64 q4.next->I64 q4.keep->I64 q4.quota->I64 q12.code->I64 q12.n->q4.version=r0/\q4.next=r1/\q4.keep=r2/\q4.quota=r3/\q12.code=r4.code/\q12.n=r4.n/\q4.sess=r5/\q4.opens=r6/\q4.snaps=r7))))) (q3=q3/\st.next=st.next/\st.keep=st.keep/\st.quota=st.quota/\c.kind=c.kind/\q7=q7/\c.seq=c.seq/\c.set=c.set/\c.id=c.id/\c.n=c.n/\c.chunks=c.chunks/\c.text=c.text/\q1=q1/\q1=q1/\q1=q1/\q1=q1/\q1=q1/\q1=q1/\q2=q2/\st.opens=st.opens/\st.snaps=st.snaps)) (0:Int)) st.sess) st.version) (bA st c).fst) (st.opens=r6/\st.snaps=r7)) (1:Int)) c.client) (st.quota=r3)) (st.keep=r2)) (st.next=r1)) (dflt (Sh.nm NT.sess))) (bA st c).snd):=by kernel_rfl
theorem Ix (st:State) (c:Command):Sat Tryz.prog (av aE) 12 [.agg (cellsOf (.nm .state) st),.agg (cellsOf (.nm .command) c)] [] ⟨[],[.agg ([.int (((dw st c).1.version)),.int (((dw st c).1.next)),.int (((dw st c).1.keep)),.int (((dw st c).1.quota)),.own 0,.own 1,.own 2]),.agg (cellsOf (.nm .reply) ((dw st c).2))],some ([.row 44 (.nm .sess) (((dw st c).1.sess)),.row 77 (.nm .opn) (((dw st c).1.opens)),.row 59 (.nm .snap) (((dw st c).1.snaps))]),true⟩:=by
 refine cT sI (IV st c) Tryz.func12 (by decide) (by kernel_rfl) ?_
 rw [HY]
 (repeat' (first | with_reducible refine And.intro ?_ ?_ | with_reducible refine and_imp.2 ?_ | intro))
 all_goals try (first | (first | with_reducible rfl | with_reducible assumption | omega | (refine aj ?_ ?_ <;> omega)) | exact rfl | exact Gb (by with_reducible assumption) | exact Dd (by with_reducible assumption) | exact mY (by with_reducible assumption) | exact BC (by with_reducible assumption) (by with_reducible assumption) (by with_reducible assumption) | (rw [Jv] <;> first | rfl | with_reducible assumption | exact cK (by omega) (by with_reducible assumption) (by assumption)) | (rw [CQ] <;> first | rfl | with_reducible assumption | exact cK (by omega) (by with_reducible assumption) (by assumption)) | (rw [Du] <;> first | rfl | with_reducible assumption | exact cK (by omega) (by with_reducible assumption) (by assumption)) | (rw [Cd] <;> first | rfl | with_reducible assumption | exact cK (by omega) (by with_reducible assumption) (by assumption)) | (rw [CY] <;> first | rfl | with_reducible assumption | exact cK (by omega) (by with_reducible assumption) (by assumption)) | (rw [EN] <;> first | rfl | with_reducible assumption | exact cK (by omega) (by with_reducible assumption) (by assumption)))
 all_goals try (refine ⟨0,?_⟩; (repeat' (first | with_reducible refine And.intro ?_ ?_ | with_reducible refine and_imp.2 ?_ | intro)))
 all_goals try (first | (first | with_reducible rfl | with_reducible assumption | omega | (refine aj ?_ ?_ <;> omega)) | exact rfl | exact Gb (by with_reducible assumption) | exact Dd (by with_reducible assumption) | exact mY (by with_reducible assumption) | exact BC (by with_reducible assumption) (by with_reducible assumption) (by with_reducible assumption) | (rw [Jv] <;> first | rfl | with_reducible assumption | exact cK (by omega) (by with_reducible assumption) (by assumption)) | (rw [CQ] <;> first | rfl | with_reducible assumption | exact cK (by omega) (by with_reducible assumption) (by assumption)) | (rw [Du] <;> first | rfl | with_reducible assumption | exact cK (by omega) (by with_reducible assumption) (by assumption)) | (rw [Cd] <;> first | rfl | with_reducible assumption | exact cK (by omega) (by with_reducible assumption) (by assumption)) | (rw [CY] <;> first | rfl | with_reducible assumption | exact cK (by omega) (by with_reducible assumption) (by assumption)) | (rw [EN] <;> first | rfl | with_reducible assumption | exact cK (by omega) (by with_reducible assumption) (by assumption)))
 all_goals try (refine ⟨‹Nat› + 1,?_⟩; (repeat' (first | with_reducible refine And.intro ?_ ?_ | with_reducible refine and_imp.2 ?_ | intro)))
 all_goals (first | (first | with_reducible rfl | with_reducible assumption | omega | (refine aj ?_ ?_ <;> omega)) | exact rfl | exact Gb (by with_reducible assumption) | exact Dd (by with_reducible assumption) | exact mY (by with_reducible assumption) | exact BC (by with_reducible assumption) (by with_reducible assumption) (by with_reducible assumption) | (rw [Jv] <;> first | rfl | with_reducible assumption | exact cK (by omega) (by with_reducible assumption) (by assumption)) | (rw [CQ] <;> first | rfl | with_reducible assumption | exact cK (by omega) (by with_reducible assumption) (by assumption)) | (rw [Du] <;> first | rfl | with_reducible assumption | exact cK (by omega) (by with_reducible assumption) (by assumption)) | (rw [Cd] <;> first | rfl | with_reducible assumption | exact cK (by omega) (by with_reducible assumption) (by assumption)) | (rw [CY] <;> first | rfl | with_reducible assumption | exact cK (by omega) (by with_reducible assumption) (by assumption)) | (rw [EN] <;> first | rfl | with_reducible assumption | exact cK (by omega) (by with_reducible assumption) (by assumption)))
def yD:cX:=(bI 12 (bF (ai (kT (.nm .state)) (ai (kT (.nm .command)) aM)) aN fun (st,c,_) (_)=>⟨[],[.agg ([.int (((dw st c).1.version)),.int (((dw st c).1.next)),.int (((dw st c).1.keep)),.int (((dw st c).1.quota)),.own 0,.own 1,.own 2]),.agg (cellsOf (.nm .reply) ((dw st c).2))],some ([.row 44 (.nm .sess) (((dw st c).1.sess)),.row 77 (.nm .opn) (((dw st c).1.opens)),.row 59 (.nm .snap) (((dw st c).1.snaps))]),true⟩) zJ)
theorem sU:bd Tryz.prog (av aE) yD:=(ax (ay (ab bf (ab bf al)) ak fun (st,c,_) (_) _=>Ix st c ) sI)
end Go.Proofs.YtdggohppeeaipaaGreat
namespace Go.Proofs.YtdggohppeeaipaaGreat
open Go.RowKit
theorem yM  (r0:State):cF aE yD [] Tryz.f31 [] [] [.agg (cellsOf (.nm .state) r0)]=((1:Int)=r0.version/\(1:Int)=r0.next/\(0:Int)=r0.keep/\(0:Int)=r0.quota/\r0.sess=[]/\r0.opens=[]/\r0.snaps=[]):=by kernel_rfl
theorem BN :Sat Tryz.prog (av aE) 31 [] [] ⟨[],[.agg (cellsOf (.nm .state) (⟨1,1,0,0,[],[],[]⟩))],none,false⟩:=by
 refine aP sU [] Tryz.func31 (by decide) (by kernel_rfl) ?_
 rw [yM]
 (repeat' (first | with_reducible refine And.intro ?_ ?_ | with_reducible refine and_imp.2 ?_ | intro))
 all_goals (first | (first | with_reducible rfl | with_reducible assumption | omega | (refine aj ?_ ?_ <;> omega)) | exact rfl)
def AQ:cX:=(bI 31 (bF aM aN fun (_) (_)=>⟨[],[.agg (cellsOf (.nm .state) (⟨1,1,0,0,[],[],[]⟩))],none,false⟩) yD)
theorem qG:bd Tryz.prog (av aE) AQ:=(ax (ay al ak fun (_) (_) _=>BN  ) sU)
end Go.Proofs.YtdggohppeeaipaaGreat
namespace Go.Proofs.YtdggohppeeaipaaGreat
open Go.RowKit
theorem KJ:dw (State.mk 1 1 0 0 [] [] []) (Command.mk 1 3 0 0 0 0 [] (Str.mk []))=(State.mk 1 1 0 0 [Sess.mk 3 0 (Reply.mk 0 0)] [] [],Reply.mk 0 0):=by kernel_rfl
theorem KF:(dw (State.mk 1 1 0 0 [Sess.mk 3 0 (Reply.mk 0 0)] [] []) (Command.mk 2 3 2 1 0 0 [] (Str.mk []))).2=Reply.mk 14 0:=by kernel_rfl
theorem BG  (r0:Bool):cF aE AQ [] Tryz.f9 [] [] [.c (.bool (.atom (r0)))]=((fun (q4:den (Sh.nm NT.sess))=>(fun (q3:Int)=>(fun (q2:Int)=>(fun (q1:Command)=>(fun (q0:State × Reply)=>I64 q3->I64 q3->I64 q2->I64 q2->(0:Nat)*(32:Nat)<=(140737488355328:Nat)->(0:Nat)*(16:Nat)<=(140737488355328:Nat)->(0:Nat)*(64:Nat)<=(140737488355328:Nat)->I64 q0.fst.version->I64 q0.fst.next->I64 q0.fst.keep->I64 q0.fst.quota->I64 q0.snd.code->I64 q0.snd.n->I64 (dw q0.fst q1).fst.version->I64 (dw q0.fst q1).fst.next->I64 (dw q0.fst q1).fst.keep->I64 (dw q0.fst q1).fst.quota->I64 (dw q0.fst q1).snd.code->I64 (dw q0.fst q1).snd.n->((q0.snd.code=q2/\q0.snd.n=q2)/\(↑q0.fst.sess.length:Int)=q3->q2<=q2/\q2<(↑q0.fst.sess.length:Int))/\(((q0.snd.code=q2/\q0.snd.n=q2)/\(↑q0.fst.sess.length:Int)=q3->I64 (q0.fst.sess.getD (0:Nat) q4).client/\I64 (q0.fst.sess.getD (0:Nat) q4).seq/\I64 (q0.fst.sess.getD (0:Nat) q4).last.code/\I64 (q0.fst.sess.getD (0:Nat) q4).last.n)->(decide (q0.snd.code=q2) && decide (q0.snd.n=q2) && decide ((↑q0.fst.sess.length:Int)=q3) && decide ((q0.fst.sess.getD (0:Nat) q4).client=(3:Int)) && decide ((dw q0.fst q1).snd.code=(14:Int)))=r0)) (dw (State.mk q3 q3 q2 q2 [] [] []) (Command.mk q3 (3:Int) q2 q2 q2 q2 [] (Str.mk [])))) (Command.mk (2:Int) (3:Int) (2:Int) q3 q2 q2 [] (Str.mk []))) (0:Int)) (1:Int)) (dflt (Sh.nm NT.sess))):=by kernel_rfl
theorem zd :Sat Tryz.prog (av aE) 9 [] [] ⟨[],[.c (.bool (.atom ((true))))],none,false⟩:=by
 refine aP qG [] Tryz.func9 (by decide) (by kernel_rfl) ?_
 rw [BG]
 simp only [KJ,KF]
 (repeat' (first | with_reducible refine And.intro ?_ ?_ | with_reducible refine and_imp.2 ?_ | intro))
 all_goals first | (first | with_reducible rfl | with_reducible assumption | omega | (refine aj ?_ ?_ <;> omega)) | decide | rfl
def jr:cX:=(bI 9 (bF aM aN fun (_) (_)=>⟨[],[.c (.bool (.atom ((true))))],none,false⟩) AQ)
theorem dV:bd Tryz.prog (av aE) jr:=(ax (ay al ak fun (_) (_) _=>zd  ) qG)
end Go.Proofs.YtdggohppeeaipaaGreat
namespace Go.Proofs.YtdggohppeeaipaaGreat
open Go.RowKit
section
variable {s:State} {c:Command}
theorem KD (h0:mayF s s.version=0) (h:bc c s.version=0):(if mayF s s.version=0 then bc c s.version else 1)=0:=by rw [if_pos h0]; exact h
theorem Cb (h0:mayF s s.version=0) (h1:bc c s.version=0) (h3:¬ c.kind=8) (h4:¬ c.kind=1) (hk:0<=ag Sess.client c.client s.sess) (hq:c.seq=(s.sess.getD (ag Sess.client c.client s.sess).toNat (dflt (.nm .sess))).seq+1) :
  dw s c=(State.mk (a_ s c).1.version (a_ s c).1.next (a_ s c).1.keep (a_ s c).1.quota (s.sess.set (ag Sess.client c.client s.sess).toNat (Sess.mk (s.sess.getD (ag Sess.client c.client s.sess).toNat (dflt (.nm .sess))).client c.seq (a_ s c).2)) (a_ s c).1.opens (a_ s c).1.snaps,(a_ s c).2):=by
 rw [EN (KD h0 h1) h3 h4]
 obtain ⟨v,nx,kp,qt,se,op,sn⟩:=s
 rw [KW hk (by dsimp only at *; omega) (by dsimp only at *; omega) (by dsimp only at *; omega)]
 simp only [gG]
end
end Go.Proofs.YtdggohppeeaipaaGreat
namespace Go.Proofs.YtdggohppeeaipaaGreat
open Go.RowKit
theorem vX {c:Command} {v:Int} (h:bc c v=0):(1<=v/\v<=3)/\¬ bR c.kind=0/\bR c.kind<=v/\ei c=true:=by
 unfold bc at h
 split at h
 ·cases h
 ·rename_i h1
  rw [Bool.or_eq_true,not_or] at h1
  simp only [Bool.not_eq_true',Bool.not_eq_false,decide_eq_true_eq] at h1
  split at h
  ·cases h
  ·split at h
   ·cases h
   ·rename_i h2 h3
    exact ⟨qD h1.1,h1.2,by omega,by simpa using h3⟩
theorem zF {s:State} {c:Command} (h:cQ s c=0):mayF s s.version=0/\bc c s.version=0:=by
 have h1:=sr (s:=s) (c:=c) h
 refine ⟨h1,?_⟩
 unfold cQ at h; rwa [if_pos h1] at h
section
variable {α:Type} {key:α->Int} {most:Int}
theorem Ae:∀ {l:List α} {a b:Int},a<=b->ao key most b l=true->ao key most a l=true
 | [],_,_,_,_=>rfl
 | x :: l,a,b,h,k=>by
  simp only [ao,Bool.and_eq_true] at k ⊢
  have:=qD k.1
  exact ⟨by unfold aW; rw [Bool.and_eq_true,decide_eq_true_eq,decide_eq_true_eq]; omega,k.2⟩
theorem wq {l l':List α} (h:l'.Sublist l):∀ {a:Int},ao key most a l=true->ao key most a l' = true:=by
 induction h with
 | slnil=>intro a _; rfl
 | cons x _ ih=>
  intro a k
  simp only [ao,Bool.and_eq_true] at k
  have:=qD k.1
  exact ih (Ae (by omega) k.2)
 | cons_cons x _ ih=>
  intro a k
  simp only [ao,Bool.and_eq_true] at k ⊢
  exact ⟨k.1,ih k.2⟩
theorem vv:∀ {l:List α} {a:Int},ao key most a l=ao id most a (l.map key)
 | [],_=>rfl
 | x :: l,a=>by
  show (aW (key x) (a+1) most && ao key most (key x) l)=(aW (key x) (a+1) most && ao id most (key x) (l.map key))
  rw [vv (l:=l)]
theorem wa {l:List α} {i:Int} (h:0<=i):(nI l i).Sublist l:=by
 unfold nI
 rw [show (i+1).toNat=i.toNat+1 by omega]
 have h1:(l.drop (i.toNat+1)).Sublist (l.drop i.toNat):=by
  rw [<- List.drop_drop]; exact List.drop_sublist 1 _
 have h2:=(List.Sublist.refl (l.take i.toNat)).append h1
 rwa [List.take_append_drop] at h2
theorem mK {want:Int} {l:List α} (h:ag key want l<0):∀ x ∈ l,¬ key x=want:=by
 refine il.1 ?_
 unfold ag at *
 split
 ·rename_i i hi; rw [hi] at h; dsimp only at h; omega
 ·rfl
end
theorem Ea {c:Command} (h:ei c=true):(fZ c.kind).1<=c.n/\c.n<=(fZ c.kind).2/\vK c=true/\Jb c=true/\iu c.client 8 (!([(8:Int)].contains c.kind))=true/\iu c.seq 1048576 (!([(1:Int),8].contains c.kind))=true/\iu c.set 8 ([(2:Int),3,4].contains c.kind)=true:=by
 unfold ei at h
 simp only [Bool.and_eq_true,decide_eq_true_eq] at h
 obtain ⟨⟨⟨⟨⟨⟨⟨h1,h2⟩,h3⟩,h4⟩,h5⟩,h6⟩,h7⟩,h8⟩:=h
 exact ⟨h1,h2,h3,h4,h5,h6,h7⟩
theorem tU {c:Command} (h:ei c=true) (k:c.kind=3):dg c.chunks=0:=by
 have h1:=(Ea h).2.2.1
 unfold vK at h1; rw [if_pos k] at h1; exact (eO h1).symm
end Go.Proofs.YtdggohppeeaipaaGreat
namespace Go.Proofs.YtdggohppeeaipaaGreat
open Go.RowKit
theorem jV {s:State} (M:mayF s s.version=0):ao Opn.set 8 0 s.opens=true/\∀ x ∈ s.opens,aR x=true:=by
 have h:=(dq M).2.2.2.1
 simp only [gv,Bool.and_eq_true,List.all_eq_true] at h
 exact h
theorem BT {s:State} {v:Int} (M:mayF s v=0):ao Sess.client 8 0 s.sess=true/\∀ x ∈ s.sess,aQ x=true:=by
 have h:=(dq M).2.2.1
 simp only [iI,Bool.and_eq_true,List.all_eq_true] at h
 exact h
structure ActOk (s:State) (r:State × Reply):Prop where
 may:mayF r.1 r.1.version=0
 ver:r.1.version=s.version
 nxt:s.next<=r.1.next/\r.1.next<=s.next+1
 code:0<=r.2.code/\r.2.code<=99
 n:0<=r.2.n/\r.2.n<=1048576
end Go.Proofs.YtdggohppeeaipaaGreat
namespace Go.Proofs.YtdggohppeeaipaaGreat
open Go.RowKit
end Go.Proofs.YtdggohppeeaipaaGreat
namespace Go.Proofs.YtdggohppeeaipaaGreat
open Go.RowKit
section
variable {α:Type} {key:α->Int} {most:Int}
theorem gy:∀ {l:List α} {a:Int},ao key most a l=true->∀ x ∈ l,a<key x
 | [],_,_,_,h=>by cases h
 | y :: l,a,k,x,h=>by
  simp only [ao,Bool.and_eq_true] at k
  have h3:=qD k.1
  rcases List.mem_cons.1 h with rfl | h
  ·omega
  ·have:=gy k.2 x h; omega
theorem pH:∀ {l:List α} {a:Int},ao key most a l=true->∀ x ∈ l,∀ y ∈ l,key x=key y->x=y
 | [],_,_,_,h,_,_,_=>by cases h
 | z :: l,a,k,x,hx,y,hy,e=>by
  simp only [ao,Bool.and_eq_true] at k
  rcases List.mem_cons.1 hx with rfl | hx2
  ·rcases List.mem_cons.1 hy with rfl | hy2
   ·rfl
   ·have:=gy k.2 y hy2; omega
  ·rcases List.mem_cons.1 hy with rfl | hy2
   ·have:=gy k.2 x hx2; omega
   ·exact pH k.2 x hx2 y hy2 e
theorem jD {want:Int} {l:List α} {d:α} (h:0<=ag key want l):key (l.getD (ag key want l).toNat d)=want/\l.getD (ag key want l).toNat d ∈ l:=by
 unfold ag at *
 cases hf:l.findIdx? (fun x=>decide (key x=want)) with
 | none=>rw [hf] at h; dsimp only at h; omega
 | some i=>
  obtain ⟨hi,hp,_⟩:=List.findIdx?_eq_some_iff_getElem.1 hf
  have e:l.getD ((i:Int)).toNat d=l[i]:=by rw [Int.toNat_natCast,List.getD_eq_getElem?_getD,List.getElem?_eq_getElem hi,Option.getD_some]
  dsimp only
  rw [e]
  exact ⟨of_decide_eq_true hp,List.getElem_mem hi⟩
end
structure DoOk (s:State) (c:Command) (r:State × Reply):Prop where
 may:mayF r.1 r.1.version=0
 ver:r.1.version=if c.kind=8/\r.2.code=0 then s.version+1 else s.version
 nxt:s.next<=r.1.next/\r.1.next<=s.next+1
 len:s.sess.length<=r.1.sess.length
 seq:∀ x ∈ s.sess,∃ y ∈ r.1.sess,y.client=x.client/\x.seq<=y.seq/\y.seq<=x.seq+1
end Go.Proofs.YtdggohppeeaipaaGreat
namespace Go.Proofs.YtdggohppeeaipaaGreat
open Go.RowKit
section
variable {s:State} {c:Command}
end
end Go.Proofs.YtdggohppeeaipaaGreat
namespace Go.Proofs.YtdggohppeeaipaaGreat
open Go.RowKit
section
variable {α:Type} {key:α->Int} {most:Int}
theorem uF:∀ {l:List α} {a:Int} {i:Nat} {x:α},ao key most a l=true->l[i]? = some x->∀ y ∈ l.take i,key y<key x
 | [],_,_,_,_,h,_,_=>by simp at h
 | z :: l,a,0,x,_,_,y,hy=>by simp at hy
 | z :: l,a,i+1,x,k,h,y,hy=>by
  simp only [ao,Bool.and_eq_true] at k
  rw [List.getElem?_cons_succ] at h
  rw [List.take_succ_cons] at hy
  rcases List.mem_cons.1 hy with rfl | hy
  ·exact gy k.2 x (List.mem_of_getElem? h)
  ·exact uF k.2 h y hy
end
section
variable {s:State} {x:Snap} {i:Nat}
end
section
variable {s:State} {x:Snap} {i:Nat}
end
section
variable {s:State} {x:Snap} {i:Nat}
end
end Go.Proofs.YtdggohppeeaipaaGreat
namespace Go.Proofs.YtdggohppeeaipaaGreat
open Go.RowKit
def keepsX (s:State) (c:Command) (r:State × Reply) (i:Nat) (x:Snap):Prop:=
 (ag Snap.id x.id r.1.snaps<0/\c.kind=5/\c.id=x.id/\x.held=false/\eE s i=false/\r.2.code=0) \/
 (0<=ag Snap.id x.id r.1.snaps/\∃ y,r.1.snaps.getD (ag Snap.id x.id r.1.snaps).toNat (dflt (.nm .snap))=y/\y.chunks=x.chunks/\y.set=x.set/\(y.held=x.held\/c.kind=9\/c.kind=10)/\(y.tag=x.tag\/c.kind=11))
structure KeepOk (s:State) (c:Command) (r:State × Reply):Prop where
 x:∀ i x,s.snaps[i]? = some x->keepsX s c r i x
 more:r.1.snaps.length<=s.snaps.length\/(r.1.snaps.length=s.snaps.length+1/\c.kind=3/\r.2.code=0/\(r.1.snaps.getD s.snaps.length (dflt (.nm .snap))).id=r.2.n/\(s.quota=0\/(distF r.1.snaps:Int)<=s.quota))
section
variable {s:State} {c:Command} {k:Nat}
end
end Go.Proofs.YtdggohppeeaipaaGreat
namespace Go.Proofs.YtdggohppeeaipaaGreat
open Go.RowKit
section
variable {α:Type} {key:α->Int} {most:Int}
theorem u_:∀ {l l':List α} {a:Int},ao key most a l=true->ao key most a l' = true->(∀ x,x ∈ l↔x ∈ l')->l=l'
 | [],[],_,_,_,_=>rfl
 | [],y :: l',_,_,_,h=>by have:=(h y).2 List.mem_cons_self; cases this
 | x :: l,[],_,_,_,h=>by have:=(h x).1 List.mem_cons_self; cases this
 | x :: l,y :: l',a,k,k',h=>by
  simp only [ao,Bool.and_eq_true] at k k'
  have e:x=y:=by
   rcases List.mem_cons.1 ((h x).1 List.mem_cons_self) with e | hx
   ·exact e
   ·rcases List.mem_cons.1 ((h y).2 List.mem_cons_self) with e | hy
    ·exact e.symm
    ·have:=gy k.2 y hy
     have:=gy k'.2 x hx
     omega
  subst e
  rw [u_ k.2 k'.2 fun z=>⟨fun hz=>?_,fun hz=>?_⟩]
  ·rcases List.mem_cons.1 ((h z).1 (List.mem_cons_of_mem _ hz)) with rfl | h2
   ·have:=gy k.2 z hz; omega
   ·exact h2
  ·rcases List.mem_cons.1 ((h z).2 (List.mem_cons_of_mem _ hz)) with rfl | h2
   ·have:=gy k'.2 z hz; omega
   ·exact h2
def AI (key:α->Int) (l:List α) (t:Int):Option α:=l.find? fun y=>decide (key y=t)
theorem qc {l:List α} {t:Int} {x:α} (h:AI key l t=some x):key x=t/\x ∈ l:=⟨of_decide_eq_true (List.find?_some (p:=fun y=>decide (key y=t)) h),List.mem_of_find?_eq_some h⟩
theorem wu {l:List α} {a:Int} {x:α} (k:ao key most a l=true) (h:x ∈ l):AI key l (key x)=some x:=by
 cases e:AI key l (key x) with
 | none=>
  have:=List.find?_eq_none.1 e x h
  simp at this
 | some y=>
  obtain ⟨h1,h2⟩:=qc e
  rw [pH k y h2 x h h1]
theorem CO {l l':List α} {a:Int} (k:ao key most a l=true) (k':ao key most a l' = true) (h:∀ t,AI key l t=AI key l' t):l=l':=
 u_ k k' fun x=>⟨fun hx=>(qc ((h (key x)).symm.trans (wu k hx))).2,fun hx=>(qc ((h (key x)).trans (wu k' hx))).2⟩
theorem Cr {l:List α} {a:Int} {t:Int} (k:ao key most a l=true) (h:0<=ag key t l) (u:Int):AI key (nI l (ag key t l)) u=if u=t then none else AI key l u:=by
 have hl:=bM h
 have hn:(ag key t l).toNat<l.length:=by omega
 have pk:=jD (d:=l[(ag key t l).toNat]) h
 rw [List.getD_eq_getElem?_getD,List.getElem?_eq_getElem hn,Option.getD_some] at pk
 have e:l=l.take (ag key t l).toNat++l[(ag key t l).toNat] :: l.drop ((ag key t l).toNat+1):=by
  rw [List.getElem_cons_drop hn,List.take_append_drop]
 have hd:nI l (ag key t l)=l.take (ag key t l).toNat++l.drop ((ag key t l).toNat+1):=by
  unfold nI; rw [show (ag key t l+1).toNat=(ag key t l).toNat+1 by omega]
 by_cases hu:u=t
 ·subst hu
  rw [if_pos rfl]
  refine List.find?_eq_none.2 fun y hy=>?_
  have hs:=wa (l:=l) h
  intro hc
  have hc:=of_decide_eq_true hc
  have R:=vv (key:=key) (most:=most) (l:=l) (a:=a) ▸ k
  have:=pH k y (hs.subset hy) _ pk.2 (hc.trans pk.1.symm)
  have hk2:ao key most a (l.take (ag key u l).toNat++l[(ag key u l).toNat] :: l.drop ((ag key u l).toNat+1))=true:=by rw [<- e]; exact k
  rw [hd] at hy
  rcases List.mem_append.1 hy with hy | hy
  ·have hx:=uF k (List.getElem?_eq_getElem hn) y hy
   rw [this] at hx; omega
  ·obtain ⟨j,hj,he⟩:=List.mem_iff_getElem.1 hy
   rw [List.getElem_drop] at he
   have hx:=uF (i:=(ag key u l).toNat+1+j) (x:=y) k (by rw [List.length_drop] at hj; rw [List.getElem?_eq_getElem (by omega),he]) l[(ag key u l).toNat] (by rw [List.mem_take_iff_getElem]; exact ⟨(ag key u l).toNat,by rw [List.length_drop] at hj; omega,rfl⟩)
   rw [this] at hx; omega
 ·rw [if_neg hu,hd]
  unfold AI
  conv=>rhs; rw [e,List.find?_append,List.find?_cons]
  rw [decide_eq_false (fun h=>hu (h.symm.trans pk.1)),List.find?_append]
end
section
variable {s:State} {c:Command}
end
end Go.Proofs.YtdggohppeeaipaaGreat
namespace Go.Proofs.YtdggohppeeaipaaGreat
open Go.RowKit
end Go.Proofs.YtdggohppeeaipaaGreat
namespace Go.Proofs.YtdggohppeeaipaaGreat
open Go.RowKit
def dF {α:Type} (key:α->Int) (x:α):List α->List α
 | []=>[x]
 | y :: l=>if key x<key y then x :: y :: l else y :: dF key x l
def fT {α:Type} (key:α->Int) (l:List α) (x:α):Bool:=l.any fun y=>decide (key x<key y)
def dB {α:Type} (key:α->Int) (l:List α) (x:α):List α:=if fT key l x then dF key x l else l
def lu (id:Int) (l:List Opn):List Opn:=l.filter fun x=>!decide (x.set=id)
section
variable {α:Type} {key:α->Int} {x y d:α}
theorem BM:∀ {l:List α},fT key l x=true->dF key x (l++[y])=dF key x l++[y]
 | [],h=>by cases h
 | z :: l,h=>by
  by_cases g:key x<key z
  ·simp only [List.cons_append,dF,if_pos g]
  ·have h2:fT key l x=true:=by
    unfold fT at h ⊢; rw [List.any_cons,decide_eq_false g,Bool.false_or] at h; exact h
   simp only [List.cons_append,dF,if_neg g,BM h2]
theorem uw:∀ {l:List α},fT key l x=false->dF key x l=l++[x]/\dF key x (l++[y])=l++dF key x [y]
 | [],_=>⟨rfl,rfl⟩
 | z :: l,h=>by
  unfold fT at h; rw [List.any_cons,Bool.or_eq_false_iff] at h
  have g:=of_decide_eq_false h.1
  obtain ⟨a,b⟩:=uw (l:=l) h.2
  exact ⟨by simp only [List.cons_append,dF,if_neg g,a],by simp only [List.cons_append,dF,if_neg g] at b ⊢; rw [b]⟩
theorem rV:∀ {l:List α},(dF key x l).length=l.length+1
 | []=>rfl
 | z :: l=>by
  by_cases g:key x<key z
  ·simp only [dF,if_pos g,List.length_cons]
  ·simp only [dF,if_neg g,List.length_cons,rV (l:=l)]
variable {l:List α} {k:Nat}
theorem Fa (hx:l[k]? = some y) (g:fT key (l.take k) x=true):true=fT key (l.take (k+1)) x:=by
 unfold fT at *; rw [az hx,List.any_append,g]; rfl
theorem EL (hx:l[k]? = some y) (g:fT key (l.take k) x=false) (g2:key (l.getD k d)<=key x):false=fT key (l.take (k+1)) x:=by
 have e:l.getD k d=y:=by rw [List.getD_eq_getElem?_getD,hx]; rfl
 rw [e] at g2
 unfold fT at *; rw [az hx,List.any_append,g]; simp only [List.any_cons,List.any_nil,Bool.or_false,Bool.false_or]; exact (decide_eq_false (by omega)).symm
theorem mG (hx:l[k]? = some y) (g2:key x<key (l.getD k d)):true=fT key (l.take (k+1)) x:=by
 have e:l.getD k d=y:=by rw [List.getD_eq_getElem?_getD,hx]; rfl
 rw [e] at g2
 unfold fT at *; rw [az hx,List.any_append]; simp only [List.any_cons,List.any_nil,Bool.or_false,decide_eq_true g2,Bool.or_true]
theorem Ga (hx:l[k]? = some y) (g:fT key (l.take k) x=true):dB key (l.take k) x++[y]=dB key (l.take (k+1)) x:=by
 have e:=Fa (key:=key) hx g
 unfold dB
 rw [<- e,g,if_pos rfl,if_pos rfl,az hx,BM g]
theorem Gm (hx:l[k]? = some y) (g:fT key (l.take k) x=false) (g2:key (l.getD k d)<=key x):dB key (l.take k) x++[y]=dB key (l.take (k+1)) x:=by
 have e:=EL (key:=key) hx g g2
 unfold dB
 rw [<- e,g,if_neg (by decide),if_neg (by decide),az hx]
theorem ku (hx:l[k]? = some y) (g:fT key (l.take k) x=false) (g2:key x<key (l.getD k d)):dB key (l.take k) x++[x]++[y]=dB key (l.take (k+1)) x:=by
 have e:=mG (key:=key) hx g2
 have e2:l.getD k d=y:=by rw [List.getD_eq_getElem?_getD,hx]; rfl
 rw [e2] at g2
 unfold dB
 rw [<- e,g,if_neg (by decide),if_pos rfl,az hx,(uw g).2]
 simp only [dF,if_pos g2,List.append_assoc,List.cons_append,List.nil_append]
theorem nZ (hx:l[k]? = some y) (o:fT key (l.take k) x=true\/key (l.getD k d)<=key x):fT key (l.take k) x=fT key (l.take (k+1)) x:=by
 cases g:fT key (l.take k) x with
 | true=>exact Fa hx g
 | false=>exact EL hx g (o.resolve_left (by rw [g]; decide))
theorem j_ (hx:l[k]? = some y) (o:fT key (l.take k) x=true\/key (l.getD k d)<=key x):dB key (l.take k) x++[y]=dB key (l.take (k+1)) x:=by
 cases g:fT key (l.take k) x with
 | true=>exact Ga hx g
 | false=>exact Gm hx g (o.resolve_left (by rw [g]; decide))
theorem jX (h:(l.length:Int)<=k) (g:fT key (l.take k) x=true):dB key (l.take k) x=dF key x l:=by
 rw [List.take_of_length_le (by omega)] at g ⊢
 unfold dB; rw [if_pos g]
theorem jz (h:(l.length:Int)<=k) (g:fT key (l.take k) x=false):dB key (l.take k) x++[x]=dF key x l:=by
 rw [List.take_of_length_le (by omega)] at g ⊢
 unfold dB; rw [if_neg (by rw [g]; decide),(uw (y:=x) g).1]
theorem fx (h:k<=l.length):(dB key (l.take k) x).length<=l.length+1:=by
 unfold dB; split
 ·rw [rV,List.length_take]; omega
 ·rw [List.length_take]; omega
theorem ef (h:k<=l.length) (g:fT key (l.take k) x=false):(dB key (l.take k) x).length<=l.length:=by
 unfold dB; rw [if_neg (by rw [g]; decide),List.length_take]; omega
theorem nh {most:Int}:∀ {l:List α} {a:Int},ao key most a l=true->(∀ y ∈ l,¬ key y=key x)->dF key x l=lj l (l.takeWhile fun y=>decide (key y<key x)).length x
 | [],_,_,_=>rfl
 | y :: l,a,k,hn=>by
  simp only [ao,Bool.and_eq_true] at k
  have h4:=hn y (List.mem_cons_self)
  by_cases h:key y<key x
  ·have e:lj (y :: l) ((y :: l).takeWhile fun y=>decide (key y<key x)).length x=y :: lj l (l.takeWhile fun y=>decide (key y<key x)).length x:=by
    rw [List.takeWhile_cons,decide_eq_true h,if_pos rfl]; rfl
   rw [e,dF,if_neg (by omega),nh k.2 fun z hz=>hn z (List.mem_cons_of_mem _ hz)]
  ·have e:lj (y :: l) ((y :: l).takeWhile fun y=>decide (key y<key x)).length x=x :: y :: l:=by
    rw [List.takeWhile_cons,decide_eq_false h]; rfl
   rw [e,dF,if_pos (by omega)]
end
theorem AJ {id:Int} {l:List Opn} {k:Nat} {x y:Opn} (h:¬ x.set=id) (hx:l[k]? = some x) (hy:l[k]? = some y):lu id (l.take k)++[y]=lu id (l.take (k+1)):=by
 rw [hx] at hy; cases hy
 unfold lu; rw [az hx,List.filter_append]; simp [h]
theorem Au {id:Int} {l:List Opn} {k:Nat} {x:Opn} (hx:l[k]? = some x) (h:x.set=id):lu id (l.take k)=lu id (l.take (k+1)):=by
 unfold lu; rw [az hx,List.filter_append]; simp [h]
theorem uL {id:Int} {l:List Opn} {k:Nat} (h:(l.length:Int)<=k):lu id (l.take k)=lu id l:=by rw [List.take_of_length_le (by omega)]
theorem tC {id:Int} {l:List Opn} {k:Nat} {x:Opn} (h:(k:Int)<l.length) (hl:l.length*16<=140737488355328):((lu id (l.take k)).length+[x].length)*16<=140737488355328:=by
 have h1:=List.length_filter_le (fun x:Opn=>!decide (x.set=id)) (l.take k)
 rw [List.length_take] at h1
 unfold lu
 simp only [List.length_cons,List.length_nil]
 omega
def oG (l:List Opn) (id:Int):List (Nat × LI):=[(3,{ σ:=Nat,F:=fun k=>([(0,one (.fz (.nm .opn) (l))),(1,one (.int (id))),(5,one (.own 0)),(6,one (.int k))],[.row 77 (.nm .opn) ((lu id (l.take k)))]),J:=fun k=>k<=l.length,μ:=fun k=>l.length - k })]
def mU (l:List Snap) (id:Int):List (Nat × LI):=[(3,{ σ:=Nat,F:=fun k=>([(0,one (.fz (.nm .snap) (l))),(1,one (.int (id))),(5,one (.own 0)),(6,one (.int k))],[.row 59 (.nm .snap) ((aF id (l.take k)))]),J:=fun k=>k<=l.length,μ:=fun k=>l.length - k })]
def yX (l:List Opn) (x:Opn):List (Nat × LI):=[(4,{ σ:=Nat,F:=fun k=>([(0,one (.fz (.nm .opn) (l))),(3,one (.ptr 0 0)),(5,one (.own 1)),(6,one (.bool (.atom (fT Opn.set (l.take k) x)))),(7,one (.int k))],[.box 77 (cellsOf (.nm .opn) ((x))),.row 77 (.nm .opn) ((dB Opn.set (l.take k) x))]),J:=fun k=>k<=l.length,μ:=fun k=>l.length - k })]
def Bb (l:List Sess) (x:Sess):List (Nat × LI):=[(4,{ σ:=Nat,F:=fun k=>([(0,one (.fz (.nm .sess) (l))),(3,one (.ptr 0 0)),(5,one (.own 1)),(6,one (.bool (.atom (fT Sess.client (l.take k) x)))),(7,one (.int k))],[.box 44 (cellsOf (.nm .sess) ((x))),.row 44 (.nm .sess) ((dB Sess.client (l.take k) x))]),J:=fun k=>k<=l.length,μ:=fun k=>l.length - k })]
theorem Ht (st:State) (c:Command) (r0:Int):cF aE jr [] Tryz.f38 [.agg (cellsOf (.nm .state) st),.agg (cellsOf (.nm .command) c)] [] [.c (.int (r0))]=((fun (q0:Int)=>I64 q0->I64 st.next->I64 st.keep->I64 st.quota->st.sess.length*(32:Nat)<=(140737488355328:Nat)->st.opens.length*(16:Nat)<=(140737488355328:Nat)->st.snaps.length*(64:Nat)<=(140737488355328:Nat)->I64 c.kind->I64 c.client->I64 c.seq->I64 c.set->I64 c.id->I64 c.n->c.chunks.length*(8:Nat)<=(140737488355328:Nat)->c.text.b.length<=(140737488355328:Nat)->I64 (mayF st q0)->(¬mayF st q0=(0:Int)->(1:Int)=r0)/\(mayF st q0=(0:Int)->I64 (bc c q0)->bc c q0=r0)) st.version):=by kernel_rfl
theorem F_ (st:State) (c:Command):Sat Tryz.prog (av aE) 38 [.agg (cellsOf (.nm .state) st),.agg (cellsOf (.nm .command) c)] [] ⟨[],[.c (.int ((if mayF st st.version=0 then bc c st.version else 1)))],none,false⟩:=by
 refine aP dV [] Tryz.func38 (by decide) (by kernel_rfl) ?_
 rw [Ht]
 grind
theorem HX (st:State) (e:Int) (r0:Int) (r1:Int) (r2:Int) (r3:Int) (r4:Reply) (r5:List Sess) (r6:List Opn) (r7:List Snap):lB aE jr [] Tryz.f39 [.agg (cellsOf (.nm .state) st),.c (.int (e))] [] [.agg ([.int (r0),.int (r1),.int (r2),.int (r3),.own 0,.own 1,.own 2]),.agg (cellsOf (.nm .reply) r4)] [.row 44 (.nm .sess) (r5),.row 77 (.nm .opn) (r6),.row 59 (.nm .snap) (r7)]=(I64 st.version->I64 st.next->I64 st.keep->I64 st.quota->st.sess.length*(32:Nat)<=(140737488355328:Nat)->st.opens.length*(16:Nat)<=(140737488355328:Nat)->st.snaps.length*(64:Nat)<=(140737488355328:Nat)->I64 e->I64 st.version->I64 st.next->I64 st.keep->I64 st.quota->st.version=r0/\st.next=r1/\st.keep=r2/\st.quota=r3/\e=r4.code/\(0:Int)=r4.n/\st.sess=r5/\st.opens=r6/\st.snaps=r7):=by kernel_rfl
theorem Ja (st:State) (e:Int):Sat Tryz.prog (av aE) 39 [.agg (cellsOf (.nm .state) st),.c (.int (e))] [] ⟨[],[.agg ([.int ((st.version)),.int ((st.next)),.int ((st.keep)),.int ((st.quota)),.own 0,.own 1,.own 2]),.agg (cellsOf (.nm .reply) (⟨e,0⟩))],some ([.row 44 (.nm .sess) ((st.sess)),.row 77 (.nm .opn) ((st.opens)),.row 59 (.nm .snap) ((st.snaps))]),true⟩:=by
 refine cT dV [] Tryz.func39 (by decide) (by kernel_rfl) ?_
 rw [HX]
 (repeat' (first | with_reducible refine And.intro ?_ ?_ | with_reducible refine and_imp.2 ?_ | intro))
 all_goals (first | (first | with_reducible rfl | with_reducible assumption | omega | (refine aj ?_ ?_ <;> omega)) | exact rfl)
theorem um (l:List Opn) (id:Int) (r0:List Opn):lB aE jr (oG l id) Tryz.f62 [.c (.fz (.nm .opn) (l)),.c (.int (id))] [] [.c (.own 0)] [.row 77 (.nm .opn) (r0)]=((fun (q1:Int)=>(fun (q0:Nat)=>l.length*(16:Nat)<=(140737488355328:Nat)->I64 id->∃ (s0:Nat),(l=l/\id=id/\(0:Int)=(↑s0:Int)/\lu id (List.take s0 l)=[])/\s0<=q0/\∀ (s:Nat),(fun (q3:List Opn)=>(fun (q2:Int)=>s<=q0->((↑s:Int)<q1->(0:Int)<=(↑s:Int)/\(↑s:Int)<q1/\∀ (x:Opn),l[s]? = some x->I64 x.set->I64 x.client->(¬x.set=id->(0:Int)<=(↑s:Int)/\(↑s:Int)<q1/\∀ (x:Opn),l[s]? = some x->I64 x.set->I64 x.client->(q3.length+[x].length)*(16:Nat)<=(140737488355328:Nat)/\I64 q2/\∃ (s':Nat),(l=l/\id=id/\q2=(↑s':Int)/\q3++[x]=lu id (List.take s' l))/\s' <= q0/\q0 - s' < q0 - s)/\(x.set=id->I64 q2/\∃ (s':Nat),(l=l/\id=id/\q2=(↑s':Int)/\q3=lu id (List.take s' l))/\s' <= q0/\q0 - s' < q0 - s))/\(q1<=(↑s:Int)->q3=r0)) ((↑s:Int)+(1:Int))) (lu id (List.take s l))) l.length) (↑l.length:Int)):=by kernel_rfl
theorem uJ (l:List Opn) (id:Int):Sat Tryz.prog (av aE) 62 [.c (.fz (.nm .opn) (l)),.c (.int (id))] [] ⟨[],[.c (.own 0)],some ([.row 77 (.nm .opn) ((lu id l))]),true⟩:=by
 refine cT dV (oG l id) Tryz.func62 (by decide) (by kernel_rfl) ?_
 rw [um]
 (repeat' (first | with_reducible refine And.intro ?_ ?_ | with_reducible refine and_imp.2 ?_ | intro))
 all_goals try (first | (first | with_reducible rfl | with_reducible assumption | omega | (refine aj ?_ ?_ <;> omega)) | exact rfl | exact (AJ (by with_reducible assumption) (by with_reducible assumption) (by with_reducible assumption)) | exact (Au (by with_reducible assumption) (by with_reducible assumption)) | exact (uL (by omega)) | exact (tC (by omega) (by omega)))
 all_goals try (refine ⟨0,?_⟩; (repeat' (first | with_reducible refine And.intro ?_ ?_ | with_reducible refine and_imp.2 ?_ | intro)))
 all_goals try (first | (first | with_reducible rfl | with_reducible assumption | omega | (refine aj ?_ ?_ <;> omega)) | exact rfl | exact (AJ (by with_reducible assumption) (by with_reducible assumption) (by with_reducible assumption)) | exact (Au (by with_reducible assumption) (by with_reducible assumption)) | exact (uL (by omega)) | exact (tC (by omega) (by omega)))
 all_goals try (refine ⟨‹Nat› + 1,?_⟩; (repeat' (first | with_reducible refine And.intro ?_ ?_ | with_reducible refine and_imp.2 ?_ | intro)))
 all_goals (first | (first | with_reducible rfl | with_reducible assumption | omega | (refine aj ?_ ?_ <;> omega)) | exact rfl | exact (AJ (by with_reducible assumption) (by with_reducible assumption) (by with_reducible assumption)) | exact (Au (by with_reducible assumption) (by with_reducible assumption)) | exact (uL (by omega)) | exact (tC (by omega) (by omega)))
theorem rK (l:List Snap) (id:Int) (r0:List Snap):lB aE jr (mU l id) Tryz.f105 [.c (.fz (.nm .snap) (l)),.c (.int (id))] [] [.c (.own 0)] [.row 59 (.nm .snap) (r0)]=((fun (q2:Int)=>(fun (q1:Nat)=>(fun (q0:Nat)=>l.length*(64:Nat)<=q1->I64 id->∃ (s0:Nat),(l=l/\id=id/\(0:Int)=(↑s0:Int)/\aF id (List.take s0 l)=[])/\s0<=q0/\∀ (s:Nat),(fun (q4:List Snap)=>(fun (q3:Int)=>s<=q0->((↑s:Int)<q2->(0:Int)<=(↑s:Int)/\(↑s:Int)<q2/\∀ (x:Snap),l[s]? = some x->I64 x.id->I64 x.set->x.chunks.length*(8:Nat)<=q1->x.tag.b.length<=q1->(¬x.id=id->(0:Int)<=(↑s:Int)/\(↑s:Int)<q2/\∀ (x:Snap),l[s]? = some x->I64 x.id->I64 x.set->x.chunks.length*(8:Nat)<=q1->x.tag.b.length<=q1->(q4.length+[x].length)*(64:Nat)<=q1/\I64 q3/\∃ (s':Nat),(l=l/\id=id/\q3=(↑s':Int)/\q4++[x]=aF id (List.take s' l))/\s' <= q0/\q0 - s' < q0 - s)/\(x.id=id->I64 q3/\∃ (s':Nat),(l=l/\id=id/\q3=(↑s':Int)/\q4=aF id (List.take s' l))/\s' <= q0/\q0 - s' < q0 - s))/\(q2<=(↑s:Int)->q4=r0)) ((↑s:Int)+(1:Int))) (aF id (List.take s l))) l.length) (140737488355328:Nat)) (↑l.length:Int)):=by kernel_rfl
theorem tj (l:List Snap) (id:Int):Sat Tryz.prog (av aE) 105 [.c (.fz (.nm .snap) (l)),.c (.int (id))] [] ⟨[],[.c (.own 0)],some ([.row 59 (.nm .snap) ((aF id l))]),true⟩:=by
 refine cT dV (mU l id) Tryz.func105 (by decide) (by kernel_rfl) ?_
 rw [rK]
 (repeat' (first | with_reducible refine And.intro ?_ ?_ | with_reducible refine and_imp.2 ?_ | intro))
 all_goals try (first | (first | with_reducible rfl | with_reducible assumption | omega | (refine aj ?_ ?_ <;> omega)) | exact rfl | exact (i_ (by with_reducible assumption) (by with_reducible assumption) (by with_reducible assumption)) | exact (iZ (by with_reducible assumption) (by with_reducible assumption)) | exact (fN (by omega)) | exact (fL (by omega) (by omega)))
 all_goals try (refine ⟨0,?_⟩; (repeat' (first | with_reducible refine And.intro ?_ ?_ | with_reducible refine and_imp.2 ?_ | intro)))
 all_goals try (first | (first | with_reducible rfl | with_reducible assumption | omega | (refine aj ?_ ?_ <;> omega)) | exact rfl | exact (i_ (by with_reducible assumption) (by with_reducible assumption) (by with_reducible assumption)) | exact (iZ (by with_reducible assumption) (by with_reducible assumption)) | exact (fN (by omega)) | exact (fL (by omega) (by omega)))
 all_goals try (refine ⟨‹Nat› + 1,?_⟩; (repeat' (first | with_reducible refine And.intro ?_ ?_ | with_reducible refine and_imp.2 ?_ | intro)))
 all_goals (first | (first | with_reducible rfl | with_reducible assumption | omega | (refine aj ?_ ?_ <;> omega)) | exact rfl | exact (i_ (by with_reducible assumption) (by with_reducible assumption) (by with_reducible assumption)) | exact (iZ (by with_reducible assumption) (by with_reducible assumption)) | exact (fN (by omega)) | exact (fL (by omega) (by omega)))
theorem CG (l:List Opn) (x:Opn) (r0:List Opn):lB aE jr (yX l x) Tryz.f60 [.c (.fz (.nm .opn) (l)),.agg (cellsOf (.nm .opn) x)] [] [.c (.own 0)] [.row 77 (.nm .opn) (r0)]=((fun (q2:Prop)=>(fun (q1:Nat)=>(fun (q0:Int)=>l.length*(16:Nat)<=(140737488355328:Nat)->I64 x.set->I64 x.client->∃ (s0:Nat),(l=l/\false=fT Opn.set (List.take s0 l) x/\(0:Int)=(↑s0:Int)/\x.set=x.set/\q2/\dB Opn.set (List.take s0 l) x=[])/\s0<=q1/\∀ (s:Nat),(fun (q8:Prop)=>(fun (q7:Prop)=>(fun (q6:den (Sh.nm NT.opn))=>(fun (q5:Int)=>(fun (q4:Bool)=>(fun (q3:List (den (Sh.nm NT.opn)))=>s<=q1->(q8->(q4=false->q7/\q8)/\((q4=false->I64 q6.set/\I64 q6.client)->(q4=false/\x.set<q6.set->(q3.length+[x].length)*(16:Nat)<=(140737488355328:Nat)/\q7/\q8/\∀ (x_1:Opn),l[s]? = some x_1->I64 x_1.set->I64 x_1.client->((q3++[x]).length+[x_1].length)*(16:Nat)<=(140737488355328:Nat)/\I64 q5/\∃ (s':Nat),(l=l/\true=fT Opn.set (List.take s' l) x/\q5=(↑s':Int)/\x.set=x.set/\q2/\q3++[x]++[x_1]=dB Opn.set (List.take s' l) x)/\s' <= q1/\q1 - s' < q1 - s)/\(q4=true\/q6.set<=x.set->q7/\q8/\∀ (x_1:Opn),l[s]? = some x_1->I64 x_1.set->I64 x_1.client->(q3.length+[x_1].length)*(16:Nat)<=(140737488355328:Nat)/\I64 q5/\∃ (s':Nat),(l=l/\q4=fT Opn.set (List.take s' l) x/\q5=(↑s':Int)/\x.set=x.set/\q2/\q3++[x_1]=dB Opn.set (List.take s' l) x)/\s' <= q1/\q1 - s' < q1 - s)))/\(q0<=(↑s:Int)->(q4=false->(q3.length+[x].length)*(16:Nat)<=(140737488355328:Nat)/\q3++[x]=r0)/\(q4=true->q3=r0))) (dB Opn.set (List.take s l) x)) (fT Opn.set (List.take s l) x)) ((↑s:Int)+(1:Int))) (l.getD s (dflt (Sh.nm NT.opn)))) ((0:Int)<=(↑s:Int))) ((↑s:Int)<q0)) (↑l.length:Int)) l.length) (x.client=x.client)):=by kernel_rfl
theorem Cg (l:List Opn) (x:Opn) (h0:l.length<1048576):Sat Tryz.prog (av aE) 60 [.c (.fz (.nm .opn) (l)),.agg (cellsOf (.nm .opn) x)] [] ⟨[l.length<1048576],[.c (.own 0)],some ([.row 77 (.nm .opn) ((dF Opn.set x l))]),true⟩:=by
 refine cT dV (yX l x) Tryz.func60 (by decide) (by kernel_rfl) ?_
 rw [CG]
 (repeat' (first | with_reducible refine And.intro ?_ ?_ | with_reducible refine and_imp.2 ?_ | intro))
 all_goals try (first | (first | with_reducible rfl | with_reducible assumption | omega | (refine aj ?_ ?_ <;> omega)) | exact rfl | exact (nZ (key:=Opn.set) (by with_reducible assumption) (by assumption)) | exact (mG (key:=Opn.set) (by with_reducible assumption) (by with_reducible assumption)) | exact (ku (by with_reducible assumption) (by with_reducible assumption) (by with_reducible assumption)) | exact (j_ (by with_reducible assumption) (by assumption)) | exact (jX (by omega) (by with_reducible assumption)) | exact (jz (by omega) (by with_reducible assumption)) | (have:=fx (key:=Opn.set) (x:=x) (l:=l) (k:=‹Nat›) (by assumption); have:=ef (key:=Opn.set) (x:=x) (l:=l) (k:=‹Nat›) (by assumption); simp only [List.length_append,List.length_cons,List.length_nil]; omega))
 all_goals try (refine ⟨0,?_⟩; (repeat' (first | with_reducible refine And.intro ?_ ?_ | with_reducible refine and_imp.2 ?_ | intro)))
 all_goals try (first | (first | with_reducible rfl | with_reducible assumption | omega | (refine aj ?_ ?_ <;> omega)) | exact rfl | exact (nZ (key:=Opn.set) (by with_reducible assumption) (by assumption)) | exact (mG (key:=Opn.set) (by with_reducible assumption) (by with_reducible assumption)) | exact (ku (by with_reducible assumption) (by with_reducible assumption) (by with_reducible assumption)) | exact (j_ (by with_reducible assumption) (by assumption)) | exact (jX (by omega) (by with_reducible assumption)) | exact (jz (by omega) (by with_reducible assumption)) | (have:=fx (key:=Opn.set) (x:=x) (l:=l) (k:=‹Nat›) (by assumption); have:=ef (key:=Opn.set) (x:=x) (l:=l) (k:=‹Nat›) (by assumption); simp only [List.length_append,List.length_cons,List.length_nil]; omega))
 all_goals try (refine ⟨‹Nat› + 1,?_⟩; (repeat' (first | with_reducible refine And.intro ?_ ?_ | with_reducible refine and_imp.2 ?_ | intro)))
 all_goals (first | (first | with_reducible rfl | with_reducible assumption | omega | (refine aj ?_ ?_ <;> omega)) | exact rfl | exact (nZ (key:=Opn.set) (by with_reducible assumption) (by assumption)) | exact (mG (key:=Opn.set) (by with_reducible assumption) (by with_reducible assumption)) | exact (ku (by with_reducible assumption) (by with_reducible assumption) (by with_reducible assumption)) | exact (j_ (by with_reducible assumption) (by assumption)) | exact (jX (by omega) (by with_reducible assumption)) | exact (jz (by omega) (by with_reducible assumption)) | (have:=fx (key:=Opn.set) (x:=x) (l:=l) (k:=‹Nat›) (by assumption); have:=ef (key:=Opn.set) (x:=x) (l:=l) (k:=‹Nat›) (by assumption); simp only [List.length_append,List.length_cons,List.length_nil]; omega))
theorem D_ (l:List Sess) (x:Sess) (r0:List Sess):lB aE jr (Bb l x) Tryz.f40 [.c (.fz (.nm .sess) (l)),.agg (cellsOf (.nm .sess) x)] [] [.c (.own 0)] [.row 44 (.nm .sess) (r0)]=((fun (q5:Int)=>(fun (q4:Nat)=>(fun (q3:den (Sh.nm NT.sess))=>(fun (q2:Int)=>(fun (q1:Int)=>(fun (q0:Int)=>l.length*(32:Nat)<=(140737488355328:Nat)->I64 q1->I64 x.seq->I64 q0->I64 q5->∃ (s0:Nat),(l=l/\false=fT Sess.client (List.take s0 l) x/\(0:Int)=(↑s0:Int)/\q1=q1/\x.seq=x.seq/\q0=q0/\q5=q5/\dB Sess.client (List.take s0 l) x=[])/\s0<=q4/\∀ (s:Nat),(fun (q11:Prop)=>(fun (q10:Prop)=>(fun (q9:den (Sh.nm NT.sess))=>(fun (q8:Int)=>(fun (q7:Bool)=>(fun (q6:List (den (Sh.nm NT.sess)))=>s<=q4->(q11->(q7=false->q10/\q11)/\((q7=false->I64 q9.client/\I64 q9.seq/\I64 q9.last.code/\I64 q9.last.n)->(q7=false/\q1<q9.client->(q6.length+[x].length)*(32:Nat)<=(140737488355328:Nat)/\q10/\q11/\∀ (x_1:Sess),l[s]? = some x_1->I64 x_1.client->I64 x_1.seq->I64 x_1.last.code->I64 x_1.last.n->((q6++[x]).length+[x_1].length)*(32:Nat)<=(140737488355328:Nat)/\I64 q8/\∃ (s':Nat),(l=l/\true=fT Sess.client (List.take s' l) x/\q8=(↑s':Int)/\q1=q1/\x.seq=x.seq/\q0=q0/\q5=q5/\q6++[x]++[x_1]=dB Sess.client (List.take s' l) x)/\s' <= q4/\q4 - s' < q4 - s)/\(q7=true\/q9.client<=q1->q10/\q11/\∀ (x_1:Sess),l[s]? = some x_1->I64 x_1.client->I64 x_1.seq->I64 x_1.last.code->I64 x_1.last.n->(q6.length+[x_1].length)*(32:Nat)<=(140737488355328:Nat)/\I64 q8/\∃ (s':Nat),(l=l/\q7=fT Sess.client (List.take s' l) x/\q8=(↑s':Int)/\q1=q1/\x.seq=x.seq/\q0=q0/\q5=q5/\q6++[x_1]=dB Sess.client (List.take s' l) x)/\s' <= q4/\q4 - s' < q4 - s)))/\(q2<=(↑s:Int)->(q7=false->(q6.length+[x].length)*(32:Nat)<=(140737488355328:Nat)/\q6++[x]=r0)/\(q7=true->q6=r0))) (dB Sess.client (List.take s l) x)) (fT Sess.client (List.take s l) x)) ((↑s:Int)+(1:Int))) (l.getD s q3)) ((0:Int)<=(↑s:Int))) ((↑s:Int)<q2)) x.last.code) x.client) (↑l.length:Int)) (dflt (Sh.nm NT.sess))) l.length) x.last.n):=by kernel_rfl
theorem Eo (l:List Sess) (x:Sess) (h0:l.length<1048576):Sat Tryz.prog (av aE) 40 [.c (.fz (.nm .sess) (l)),.agg (cellsOf (.nm .sess) x)] [] ⟨[l.length<1048576],[.c (.own 0)],some ([.row 44 (.nm .sess) ((dF Sess.client x l))]),true⟩:=by
 refine cT dV (Bb l x) Tryz.func40 (by decide) (by kernel_rfl) ?_
 rw [D_]
 (repeat' (first | with_reducible refine And.intro ?_ ?_ | with_reducible refine and_imp.2 ?_ | intro))
 all_goals try (first | (first | with_reducible rfl | with_reducible assumption | omega | (refine aj ?_ ?_ <;> omega)) | exact rfl | exact (nZ (key:=Sess.client) (by with_reducible assumption) (by assumption)) | exact (mG (key:=Sess.client) (by with_reducible assumption) (by with_reducible assumption)) | exact (ku (by with_reducible assumption) (by with_reducible assumption) (by with_reducible assumption)) | exact (j_ (by with_reducible assumption) (by assumption)) | exact (jX (by omega) (by with_reducible assumption)) | exact (jz (by omega) (by with_reducible assumption)) | (have:=fx (key:=Sess.client) (x:=x) (l:=l) (k:=‹Nat›) (by assumption); have:=ef (key:=Sess.client) (x:=x) (l:=l) (k:=‹Nat›) (by assumption); simp only [List.length_append,List.length_cons,List.length_nil]; omega))
 all_goals try (refine ⟨0,?_⟩; (repeat' (first | with_reducible refine And.intro ?_ ?_ | with_reducible refine and_imp.2 ?_ | intro)))
 all_goals try (first | (first | with_reducible rfl | with_reducible assumption | omega | (refine aj ?_ ?_ <;> omega)) | exact rfl | exact (nZ (key:=Sess.client) (by with_reducible assumption) (by assumption)) | exact (mG (key:=Sess.client) (by with_reducible assumption) (by with_reducible assumption)) | exact (ku (by with_reducible assumption) (by with_reducible assumption) (by with_reducible assumption)) | exact (j_ (by with_reducible assumption) (by assumption)) | exact (jX (by omega) (by with_reducible assumption)) | exact (jz (by omega) (by with_reducible assumption)) | (have:=fx (key:=Sess.client) (x:=x) (l:=l) (k:=‹Nat›) (by assumption); have:=ef (key:=Sess.client) (x:=x) (l:=l) (k:=‹Nat›) (by assumption); simp only [List.length_append,List.length_cons,List.length_nil]; omega))
 all_goals try (refine ⟨‹Nat› + 1,?_⟩; (repeat' (first | with_reducible refine And.intro ?_ ?_ | with_reducible refine and_imp.2 ?_ | intro)))
 all_goals (first | (first | with_reducible rfl | with_reducible assumption | omega | (refine aj ?_ ?_ <;> omega)) | exact rfl | exact (nZ (key:=Sess.client) (by with_reducible assumption) (by assumption)) | exact (mG (key:=Sess.client) (by with_reducible assumption) (by with_reducible assumption)) | exact (ku (by with_reducible assumption) (by with_reducible assumption) (by with_reducible assumption)) | exact (j_ (by with_reducible assumption) (by assumption)) | exact (jX (by omega) (by with_reducible assumption)) | exact (jz (by omega) (by with_reducible assumption)) | (have:=fx (key:=Sess.client) (x:=x) (l:=l) (k:=‹Nat›) (by assumption); have:=ef (key:=Sess.client) (x:=x) (l:=l) (k:=‹Nat›) (by assumption); simp only [List.length_append,List.length_cons,List.length_nil]; omega))
theorem CC (l:List Snap) (m:List Int) (r0:Int):cF aE jr [] Tryz.f101 [.c (.fz (.nm .snap) (l)),.c (.fz .int (m))] [] [.c (.int (r0))]=((fun (q1:Prop)=>(fun (q0:List (den (Sh.nm NT.snap)))=>q1->m.length*(8:Nat)<=(140737488355328:Nat)->q1/\(l.length+q0.length)*(64:Nat)<=(140737488355328:Nat)/\nch (l++q0)<=(1048576:Nat)/\(I64 (↑(distF (l++q0)):Int)->(↑(distF (l++q0)):Int)=r0)) [Snap.mk (0:Int) (0:Int) m false (Str.mk [])]) (l.length*(64:Nat)<=(140737488355328:Nat))):=by kernel_rfl
theorem Dz (l:List Snap) (m:List Int) (h0:l.length<1048576) (h1:nch (l++[⟨0,0,m,false,⟨[]⟩⟩])<=1048576):Sat Tryz.prog (av aE) 101 [.c (.fz (.nm .snap) (l)),.c (.fz .int (m))] [] ⟨[l.length<1048576,nch (l++[⟨0,0,m,false,⟨[]⟩⟩])<=1048576],[.c (.int (((distF (l++[⟨0,0,m,false,⟨[]⟩⟩]):Int))))],none,false⟩:=by
 refine aP dV [] Tryz.func101 (by decide) (by kernel_rfl) ?_
 rw [CC]
 (repeat' (first | with_reducible refine And.intro ?_ ?_ | with_reducible refine and_imp.2 ?_ | intro))
 all_goals (first | (first | with_reducible rfl | with_reducible assumption | omega | (refine aj ?_ ?_ <;> omega)) | (simp only [List.length_cons,List.length_nil]; omega))
def wh:cX:=(bI 101 (bF (ai (kC (cL (.nm .snap))) (ai (kC (cL .int)) aM)) aN fun (l,m,_) (_)=>⟨[l.length<1048576,nch (l++[⟨0,0,m,false,⟨[]⟩⟩])<=1048576],[.c (.int (((distF (l++[⟨0,0,m,false,⟨[]⟩⟩]):Int))))],none,false⟩) (bI 40 (bF (ai (kC (cL (.nm .sess))) (ai (kT (.nm .sess)) aM)) aN fun (l,x,_) (_)=>⟨[l.length<1048576],[.c (.own 0)],some ([.row 44 (.nm .sess) ((dF Sess.client x l))]),true⟩) (bI 60 (bF (ai (kC (cL (.nm .opn))) (ai (kT (.nm .opn)) aM)) aN fun (l,x,_) (_)=>⟨[l.length<1048576],[.c (.own 0)],some ([.row 77 (.nm .opn) ((dF Opn.set x l))]),true⟩) (bI 105 (bF (ai (kC (cL (.nm .snap))) (ai (kC cI) aM)) aN fun (l,id,_) (_)=>⟨[],[.c (.own 0)],some ([.row 59 (.nm .snap) ((aF id l))]),true⟩) (bI 62 (bF (ai (kC (cL (.nm .opn))) (ai (kC cI) aM)) aN fun (l,id,_) (_)=>⟨[],[.c (.own 0)],some ([.row 77 (.nm .opn) ((lu id l))]),true⟩) (bI 39 (bF (ai (kT (.nm .state)) (ai (kC cI) aM)) aN fun (st,e,_) (_)=>⟨[],[.agg ([.int ((st.version)),.int ((st.next)),.int ((st.keep)),.int ((st.quota)),.own 0,.own 1,.own 2]),.agg (cellsOf (.nm .reply) (⟨e,0⟩))],some ([.row 44 (.nm .sess) ((st.sess)),.row 77 (.nm .opn) ((st.opens)),.row 59 (.nm .snap) ((st.snaps))]),true⟩) (bI 38 (bF (ai (kT (.nm .state)) (ai (kT (.nm .command)) aM)) aN fun (st,c,_) (_)=>⟨[],[.c (.int ((if mayF st st.version=0 then bc c st.version else 1)))],none,false⟩) jr)))))))
theorem mA:bd Tryz.prog (av aE) wh:=(ax (ay (ab (au bD) (ab (au bD) al)) ak fun (l,m,_) (_) hp=>Dz l m (dI hp) (dI (iC hp))) (ax (ay (ab (au bD) (ab bf al)) ak fun (l,x,_) (_) hp=>Eo l x (dI hp)) (ax (ay (ab (au bD) (ab bf al)) ak fun (l,x,_) (_) hp=>Cg l x (dI hp)) (ax (ay (ab (au bD) (ab (au aw) al)) ak fun (l,id,_) (_) _=>tj l id ) (ax (ay (ab (au bD) (ab (au aw) al)) ak fun (l,id,_) (_) _=>uJ l id ) (ax (ay (ab bf (ab (au aw) al)) ak fun (st,e,_) (_) _=>Ja st e ) (ax (ay (ab bf (ab bf al)) ak fun (st,c,_) (_) _=>F_ st c ) dV)))))))
end Go.Proofs.YtdggohppeeaipaaGreat
namespace Go.Proofs.YtdggohppeeaipaaGreat
open Go.RowKit
theorem Fg {op:List Opn} {t u:Int}:AI Opn.set (lu t op) u=if u=t then none else AI Opn.set op u:=by
 unfold AI lu
 rw [List.find?_filter]
 by_cases h:u=t
 ·subst h
  rw [if_pos rfl]
  refine List.find?_eq_none.2 fun x _=>?_
  by_cases e:x.set=u <;> simp [e]
 ·rw [if_neg h]
  congr 1
  funext x
  by_cases e:x.set=u
  ·have:¬ x.set=t:=fun h2=>h (e.symm.trans h2)
   simp [e,h]
  ·simp [e]
theorem Bt {op:List Opn} {m a t:Int} (k:ao Opn.set m a op=true) (h:0<=ag Opn.set t op):lu t op=nI op (ag Opn.set t op):=
 CO (wq List.filter_sublist k) (wq (wa h) k) fun u=>by rw [Fg,Cr k h]
def bl (s:State) (c:Command):State × Reply:=
 if 16<=(s.snaps.length:Int)\/1048576<=s.next then (s,⟨20,0⟩)
 else if ¬ s.quota=0/\s.quota<(distF (s.snaps++[⟨0,0,c.chunks,false,⟨[]⟩⟩]):Int) then (s,⟨19,0⟩)
 else ({ s with next:=s.next+1,opens:=lu c.set s.opens,snaps:=s.snaps++[⟨s.next,c.set,c.chunks,false,⟨[]⟩⟩] },⟨0,s.next⟩)
def bX (s:State) (c:Command) (i:Nat):State × Reply:=
 if c.kind=5 then aL s i else if c.kind=7 then bj s i else if c.kind=11 then cG c s i else bp (decide (c.kind=9)) s i
section
variable {st:State} {c:Command}
theorem Iv (h:16<=(st.snaps.length:Int)\/1048576<=st.next):bl st c=(st,⟨20,0⟩):=if_pos h
theorem Jh (a:(st.snaps.length:Int)<16) (b:st.next<1048576) (h:¬ st.quota=0) (h2:st.quota<(distF (st.snaps++[⟨0,0,c.chunks,false,⟨[]⟩⟩]):Int)):bl st c=(st,⟨19,0⟩):=by
 unfold bl; rw [if_neg (by omega),if_pos ⟨h,h2⟩]
theorem Jq (a:(st.snaps.length:Int)<16) (b:st.next<1048576) (h:st.quota=0\/(distF (st.snaps++[⟨0,0,c.chunks,false,⟨[]⟩⟩]):Int)<=st.quota):bl st c=({ st with next:=st.next+1,opens:=lu c.set st.opens,snaps:=st.snaps++[⟨st.next,c.set,c.chunks,false,⟨[]⟩⟩] },⟨0,st.next⟩):=by
 unfold bl; rw [if_neg (by omega),if_neg (fun h2=>h.elim h2.1 fun h=>by omega)]
variable {i:Int} {x:Snap}
theorem JV (k:c.kind=5) (hx:st.snaps[i.toNat]? = some x) (h:x.held=true):bX st c i.toNat=(st,⟨17,0⟩):=by
 unfold bX aL; rw [if_pos k,yd hx,if_pos h]
theorem JP (k:c.kind=5) (i0:0<=i) (hx:st.snaps[i.toNat]? = some x) (h:x.held=false) (h2:eE st i=true):bX st c i.toNat=(st,⟨18,0⟩):=by
 unfold bX aL; rw [if_pos k,yd hx,if_neg (by rw [h]; decide),Int.toNat_of_nonneg i0,if_pos h2]
theorem JT (k:c.kind=5) (i0:0<=i) (hx:st.snaps[i.toNat]? = some x) (h:x.held=false) (h2:eE st i=false) (e:c.id=(st.snaps.getD i.toNat (dflt (.nm .snap))).id):bX st c i.toNat=(State.mk st.version st.next st.keep st.quota st.sess st.opens (aF c.id st.snaps),⟨0,(dK st.snaps c.id).length⟩):=by
 unfold bX aL; rw [if_pos k,<- e,yd hx,if_neg (by rw [h]; decide),Int.toNat_of_nonneg i0,if_neg (by rw [h2]; decide)]
theorem Le (n:¬ c.kind=5) (k:c.kind=7) (hx:st.snaps[i.toNat]? = some x):bX st c i.toNat=(st,⟨0,x.chunks.length⟩):=by
 unfold bX bj; rw [if_neg n,if_pos k,yd hx]
theorem Ky (n:¬ c.kind=5) (m:¬ c.kind=7) (k:c.kind=11):bX st c i.toNat=cG c st i.toNat:=by
 unfold bX; rw [if_neg n,if_neg m,if_pos k]
theorem Kr (n:¬ c.kind=5) (m:¬ c.kind=7) (o:¬ c.kind=11) (hx:st.snaps[i.toNat]? = some x) (h:(x.held == decide (c.kind=9))=false):bX st c i.toNat=(State.mk st.version st.next st.keep st.quota st.sess st.opens (st.snaps.set i.toNat (Snap.mk (st.snaps.getD i.toNat (dflt (.nm .snap))).id (st.snaps.getD i.toNat (dflt (.nm .snap))).set (st.snaps.getD i.toNat (dflt (.nm .snap))).chunks (decide (c.kind=9)) (st.snaps.getD i.toNat (dflt (.nm .snap))).tag)),⟨0,1⟩):=by
 unfold bX bp; rw [if_neg n,if_neg m,if_neg o,if_neg (by rw [yd hx]; simpa using h)]
theorem KE (n:¬ c.kind=5) (m:¬ c.kind=7) (o:¬ c.kind=11) (hx:st.snaps[i.toNat]? = some x) (h:(x.held == decide (c.kind=9))=true):bX st c i.toNat=(st,⟨0,0⟩):=by
 unfold bX bp; rw [if_neg n,if_neg m,if_neg o,if_pos (by rw [yd hx]; simpa using h)]
theorem Lg (hx:st.snaps[i.toNat]? = some x) (h:(x.held == decide (c.kind=9))=true):st.snaps.set i.toNat (Snap.mk (st.snaps.getD i.toNat (dflt (.nm .snap))).id (st.snaps.getD i.toNat (dflt (.nm .snap))).set (st.snaps.getD i.toNat (dflt (.nm .snap))).chunks (decide (c.kind=9)) (st.snaps.getD i.toNat (dflt (.nm .snap))).tag)=st.snaps:=by
 rw [yd hx,<- (by simpa using h:x.held=decide (c.kind=9))]
 obtain ⟨hi,e⟩:=List.getElem?_eq_some_iff.1 hx
 subst e
 exact List.set_getElem_self hi
end
theorem xf (st:State) (c:Command) (r0:Int) (r1:Int) (r2:Int) (r3:Int) (r4:Reply) (r5:List Sess) (r6:List Opn) (r7:List Snap):lB aE wh [] Tryz.f61 [.agg (cellsOf (.nm .state) st),.agg (cellsOf (.nm .command) c)] [] [.agg ([.int (r0),.int (r1),.int (r2),.int (r3),.own 0,.own 1,.own 2]),.agg (cellsOf (.nm .reply) r4)] [.row 44 (.nm .sess) (r5),.row 77 (.nm .opn) (r6),.row 59 (.nm .snap) (r7)]=((fun (q8:Int)=>(fun (q7:Nat)=>(fun (q6:Int)=>(fun (q5:Nat)=>(fun (q4:Int)=>(fun (q3:Int)=>(fun (q2:Int)=>(fun (q1:Prop)=>(fun (q0:List Snap)=>I64 q6->I64 q3->I64 q8->I64 q2->st.sess.length*(32:Nat)<=q7->st.opens.length*(16:Nat)<=q7->q5*(64:Nat)<=q7->I64 c.kind->I64 c.client->I64 c.seq->I64 c.set->I64 c.id->I64 c.n->c.chunks.length*(8:Nat)<=q7->c.text.b.length<=q7->((16:Int)<=(↑q5:Int)\/(1048576:Int)<=q3->I64 q6->I64 q3->I64 q8->I64 q2->I64 (20:Int)->I64 q4->q6=r0/\q3=r1/\q8=r2/\q2=r3/\(20:Int)=r4.code/\q1)/\((↑q5:Int)<(16:Int)/\q3<(1048576:Int)->(¬q2=q4->q5<(1048576:Nat)/\nch q0<=(1048576:Nat))/\((¬q2=q4->I64 (↑(distF q0):Int))->(¬q2=q4/\q2<(↑(distF q0):Int)->I64 q6->I64 q3->I64 q8->I64 q2->I64 (19:Int)->I64 q4->q6=r0/\q3=r1/\q8=r2/\q2=r3/\(19:Int)=r4.code/\q1)/\(q2=q4\/(↑(distF q0):Int)<=q2->I64 q6->I64 q3->I64 q8->I64 q2->c.chunks.length*(8:Nat)<=q7/\(q5+[Snap.mk q3 c.set c.chunks false (Str.mk [])].length)*(64:Nat)<=q7/\I64 (q3+(1:Int))/\q6=r0/\q3+(1:Int)=r1/\q8=r2/\q2=r3/\q4=r4.code/\q3=r4.n/\st.sess=r5/\lu c.set st.opens=r6/\st.snaps++[Snap.mk q3 c.set c.chunks false (Str.mk [])]=r7)))) (st.snaps++[Snap.mk q4 q4 c.chunks false (Str.mk [])])) (q4=r4.n/\st.sess=r5/\st.opens=r6/\st.snaps=r7)) st.quota) st.next) (0:Int)) st.snaps.length) st.version) (140737488355328:Nat)) st.keep):=by kernel_rfl
theorem xw (st:State) (c:Command) (h0:st.snaps.length<1048576) (h1:nch (st.snaps++[⟨0,0,c.chunks,false,⟨[]⟩⟩])<=1048576) (h2:0<=st.next):Sat Tryz.prog (av aE) 61 [.agg (cellsOf (.nm .state) st),.agg (cellsOf (.nm .command) c)] [] ⟨[st.snaps.length<1048576,nch (st.snaps++[⟨0,0,c.chunks,false,⟨[]⟩⟩])<=1048576,0<=st.next],[.agg ([.int (((bl st c).1.version)),.int (((bl st c).1.next)),.int (((bl st c).1.keep)),.int (((bl st c).1.quota)),.own 0,.own 1,.own 2]),.agg (cellsOf (.nm .reply) ((bl st c).2))],some ([.row 44 (.nm .sess) (((bl st c).1.sess)),.row 77 (.nm .opn) (((bl st c).1.opens)),.row 59 (.nm .snap) (((bl st c).1.snaps))]),true⟩:=by
 refine cT mA [] Tryz.func61 (by decide) (by kernel_rfl) ?_
 rw [xf]
 (repeat' (first | with_reducible refine And.intro ?_ ?_ | with_reducible refine and_imp.2 ?_ | intro))
 all_goals (first | (first | with_reducible rfl | with_reducible assumption | omega | (refine aj ?_ ?_ <;> omega)) | (rw [Iv (by assumption)]; done) | (rw [Jh (by assumption) (by assumption) (by assumption) (by assumption)]; done) | (rw [Jq (by assumption) (by assumption) (by assumption)]; done) | (simp only [List.length_cons,List.length_nil]; omega))
theorem FP (st:State) (c:Command) (i:Int) (r0:Int) (r1:Int) (r2:Int) (r3:Int) (r4:Reply) (r5:List Sess) (r6:List Opn) (r7:List Snap):lB aE wh [] Tryz.f65 [.agg (cellsOf (.nm .state) st),.agg (cellsOf (.nm .command) c),.c (.int (i))] [] [.agg ([.int (r0),.int (r1),.int (r2),.int (r3),.own 0,.own 1,.own 2]),.agg (cellsOf (.nm .reply) r4)] [.row 44 (.nm .sess) (r5),.row 77 (.nm .opn) (r6),.row 59 (.nm .snap) (r7)]=((fun (q16:Int)=>(fun (q15:Nat)=>(fun (q14:Prop)=>(fun (q13:Prop)=>(fun (q12:Prop)=>(fun (q11:Prop)=>(fun (q10:Prop)=>(fun (q9:Prop)=>(fun (q8:Prop)=>(fun (q7:Bool)=>(fun (q6:Prop)=>(fun (q5:List Snap)=>(fun (q4:Nat)=>(fun (q3:Int)=>(fun (q2:Int)=>(fun (q1:Prop)=>(fun (q0:den (Sh.nm NT.snap))=>I64 q3->q14->q13->q10->st.sess.length*(32:Nat)<=q4->st.opens.length*(16:Nat)<=q4->q5.length*(64:Nat)<=q4->I64 c.kind->I64 c.client->I64 c.seq->I64 c.set->I64 c.id->I64 c.n->c.chunks.length*q15<=q4->c.text.b.length<=q4->I64 i->q2<=i/\i<(↑q5.length:Int)/\∀ (x:Snap),(fun (q21:Prop)=>(fun (q20:Prop)=>(fun (q19:Prop)=>(fun (q18:Prop)=>(fun (q17:Prop)=>q5[i.toNat]? = some x->I64 x.id->I64 x.set->x.chunks.length*q15<=q4->x.tag.b.length<=q4->(c.kind=(5:Int)->(x.held=true->I64 q3->q14->q13->q10->I64 (17:Int)->I64 q2->q19/\q9/\q8/\q6/\(17:Int)=q16/\q2=r4.n/\q1)/\(x.held=false->(eE st i=true->I64 q3->q14->q13->q10->I64 (18:Int)->I64 q2->q19/\q9/\q8/\q6/\(18:Int)=q16/\q2=r4.n/\q1)/\(eE st i=false->nch q5<=(1048576:Nat)/\((dK q5 c.id).length*q15<=q4->I64 q3->q14->q13->q10->q19/\q9/\q8/\q6/\q2=q16/\(↑(dK q5 c.id).length:Int)=r4.n/\q12/\q11/\aF c.id q5=r7))))/\(¬c.kind=(5:Int)->(c.kind=(7:Int)->I64 q3->q14->q13->q10->q19/\q9/\q8/\q6/\q2=q16/\(↑x.chunks.length:Int)=r4.n/\q1)/\(¬c.kind=(7:Int)->I64 q3->q14->q13->q10->(c.kind=(11:Int)->q2<=i/\q21/\(I64 q0.id->I64 q0.set->q18->q20->q19/\q9/\q8/\q6/\q2=q16/\q2=r4.n/\q12/\q11/\q5.set i.toNat (Snap.mk q0.id q0.set q0.chunks q0.held c.text)=r7))/\(¬c.kind=(11:Int)->((x.held == q7)=false->q2<=i/\q21/\(I64 q0.id->I64 q0.set->q18->q20->q19/\q9/\q8/\q6/\q2=q16/\(1:Int)=r4.n/\q17))/\((x.held == q7)=true->q2<=i/\q21/\(I64 q0.id->I64 q0.set->q18->q20->q19/\q9/\q8/\q6/\q2=q16/\q2=r4.n/\q17)))))) (q12/\q11/\q5.set i.toNat (Snap.mk q0.id q0.set q0.chunks q7 q0.tag)=r7)) (q0.chunks.length*q15<=q4)) (q3=r0)) (q0.tag.b.length<=q4)) (i<(↑q5.length:Int))) (q5.getD i.toNat (dflt (Sh.nm NT.snap)))) (q12/\q11/\q5=r7)) (0:Int)) st.version) (140737488355328:Nat)) st.snaps) (st.quota=r3)) (decide (c.kind=(9:Int)))) (st.keep=r2)) (st.next=r1)) (I64 st.quota)) (st.opens=r6)) (st.sess=r5)) (I64 st.keep)) (I64 st.next)) (8:Nat)) r4.code):=by kernel_rfl
theorem FW (st:State) (c:Command) (i:Int) (h0:0<=i/\i<(st.snaps.length:Int)) (h1:nch st.snaps<=1048576) (h2:c.id=(st.snaps.getD i.toNat (dflt (.nm .snap))).id) (h3:c.kind=5\/c.kind=7\/c.kind=11\/c.kind=9\/c.kind=10):Sat Tryz.prog (av aE) 65 [.agg (cellsOf (.nm .state) st),.agg (cellsOf (.nm .command) c),.c (.int (i))] [] ⟨[0<=i/\i<(st.snaps.length:Int),nch st.snaps<=1048576,c.id=(st.snaps.getD i.toNat (dflt (.nm .snap))).id,c.kind=5\/c.kind=7\/c.kind=11\/c.kind=9\/c.kind=10],[.agg ([.int (((bX st c i.toNat).1.version)),.int (((bX st c i.toNat).1.next)),.int (((bX st c i.toNat).1.keep)),.int (((bX st c i.toNat).1.quota)),.own 0,.own 1,.own 2]),.agg (cellsOf (.nm .reply) ((bX st c i.toNat).2))],some ([.row 44 (.nm .sess) (((bX st c i.toNat).1.sess)),.row 77 (.nm .opn) (((bX st c i.toNat).1.opens)),.row 59 (.nm .snap) (((bX st c i.toNat).1.snaps))]),true⟩:=by
 refine cT mA [] Tryz.func65 (by decide) (by kernel_rfl) ?_
 rw [FP]
 (repeat' (first | with_reducible refine And.intro ?_ ?_ | with_reducible refine and_imp.2 ?_ | intro))
 all_goals (first | (first | with_reducible rfl | with_reducible assumption | omega | (refine aj ?_ ?_ <;> omega)) | (rw [JV (by with_reducible assumption) (by with_reducible assumption) (by with_reducible assumption)]; first | done | rfl) | (rw [JP (by with_reducible assumption) (by omega) (by with_reducible assumption) (by with_reducible assumption) (by with_reducible assumption)]; first | done | rfl) | (rw [JT (by with_reducible assumption) (by omega) (by with_reducible assumption) (by with_reducible assumption) (by with_reducible assumption) (by with_reducible assumption)]; first | done | rfl) | (rw [Le (by with_reducible assumption) (by with_reducible assumption) (by with_reducible assumption)]; first | done | rfl) | (rw [Ky (by with_reducible assumption) (by with_reducible assumption) (by with_reducible assumption)]; first | done | rfl) | (rw [Kr (by with_reducible assumption) (by with_reducible assumption) (by with_reducible assumption) (by with_reducible assumption) (by with_reducible assumption)]; first | done | rfl) | (rw [KE (by with_reducible assumption) (by with_reducible assumption) (by with_reducible assumption) (by with_reducible assumption) (by with_reducible assumption)]; first | done | rfl | exact Lg (by with_reducible assumption) (by with_reducible assumption)))
def BI:cX:=(bI 65 (bF (ai (kT (.nm .state)) (ai (kT (.nm .command)) (ai (kC cI) aM))) aN fun (st,c,i,_) (_)=>⟨[0<=i/\i<(st.snaps.length:Int),nch st.snaps<=1048576,c.id=(st.snaps.getD i.toNat (dflt (.nm .snap))).id,c.kind=5\/c.kind=7\/c.kind=11\/c.kind=9\/c.kind=10],[.agg ([.int (((bX st c i.toNat).1.version)),.int (((bX st c i.toNat).1.next)),.int (((bX st c i.toNat).1.keep)),.int (((bX st c i.toNat).1.quota)),.own 0,.own 1,.own 2]),.agg (cellsOf (.nm .reply) ((bX st c i.toNat).2))],some ([.row 44 (.nm .sess) (((bX st c i.toNat).1.sess)),.row 77 (.nm .opn) (((bX st c i.toNat).1.opens)),.row 59 (.nm .snap) (((bX st c i.toNat).1.snaps))]),true⟩) (bI 61 (bF (ai (kT (.nm .state)) (ai (kT (.nm .command)) aM)) aN fun (st,c,_) (_)=>⟨[st.snaps.length<1048576,nch (st.snaps++[⟨0,0,c.chunks,false,⟨[]⟩⟩])<=1048576,0<=st.next],[.agg ([.int (((bl st c).1.version)),.int (((bl st c).1.next)),.int (((bl st c).1.keep)),.int (((bl st c).1.quota)),.own 0,.own 1,.own 2]),.agg (cellsOf (.nm .reply) ((bl st c).2))],some ([.row 44 (.nm .sess) (((bl st c).1.sess)),.row 77 (.nm .opn) (((bl st c).1.opens)),.row 59 (.nm .snap) (((bl st c).1.snaps))]),true⟩) wh))
theorem sA:bd Tryz.prog (av aE) BI:=(ax (ay (ab bf (ab bf (ab (au aw) al))) ak fun (st,c,i,_) (_) hp=>FW st c i (dI hp) (dI (iC hp)) (dI (iC (iC hp))) (dI (iC (iC (iC hp))))) (ax (ay (ab bf (ab bf al)) ak fun (st,c,_) (_) hp=>xw st c (dI hp) (dI (iC hp)) (dI (iC (iC hp)))) mA))
end Go.Proofs.YtdggohppeeaipaaGreat
namespace Go.Proofs.YtdggohppeeaipaaGreat
open Go.RowKit
section
variable {st:State} {c:Command}
theorem tg {v:Int} (h:bc c v=0):1<=c.kind/\c.kind<=12:=by
 have n:=(vX h).2.1
 by_cases k:1<=c.kind/\c.kind<=12
 ·exact k
 ·refine absurd ?_ n
  have e:∀ i:Int,1<=i->i<=12->¬ c.kind=i:=fun i h1 h2=>by omega
  simp only [bR,lg]
  simp [e 1,e 2,e 3,e 4,e 5,e 6,e 7,e 8,e 9,e 10,e 11,e 12]
theorem nJ (h:(if mayF st st.version=0 then bc c st.version else 1)=0):mayF st st.version=0/\bc c st.version=0:=zF h
theorem JU (h:(if mayF st st.version=0 then bc c st.version else 1)=0) (k:c.kind=1\/c.kind=8):a_ st c=(st,⟨1,0⟩):=by
 rw [pY h]
 rcases k with k | k <;> simp [lq,k]
theorem HM (h:(if mayF st st.version=0 then bc c st.version else 1)=0) (k:c.kind=2):a_ st c=aZ st c:=by
 rw [pY h]; simp [lq,k]
theorem Jj (h:(if mayF st st.version=0 then bc c st.version else 1)=0) (k:c.kind=2) (p:0<=ag Opn.set c.set st.opens):a_ st c=(st,⟨16,(st.opens.getD (ag Opn.set c.set st.opens).toNat (dflt (.nm .opn))).client⟩):=by
 rw [HM h k]; exact if_pos p
theorem Ir (h:(if mayF st st.version=0 then bc c st.version else 1)=0) (k:c.kind=2) (p:ag Opn.set c.set st.opens<0):a_ st c=(State.mk st.version st.next st.keep st.quota st.sess (dF Opn.set (Opn.mk c.set c.client) st.opens) st.snaps,⟨0,0⟩):=by
 rw [HM h k,nh (x:=Opn.mk c.set c.client) (jV (nJ h).1).1 fun y hy=>mK (key:=Opn.set) (want:=c.set) p y hy]
 exact if_neg (by omega)
theorem IF (o:ag Opn.set c.set st.opens<0\/¬ (st.opens.getD (ag Opn.set c.set st.opens).toNat (dflt (.nm .opn))).client=c.client):bw st c<0:=by
 unfold bw
 split
 ·decide
 ·rename_i h
  rcases o with o | o
  ·exact o
  ·exact Int.not_le.1 fun p=>h ⟨p,o⟩
theorem IB (p:0<=ag Opn.set c.set st.opens) (o:(st.opens.getD (ag Opn.set c.set st.opens).toNat (dflt (.nm .opn))).client=c.client):bw st c=ag Opn.set c.set st.opens:=by
 unfold bw; exact if_neg fun h=>h.2 o
theorem Iq (h:(if mayF st st.version=0 then bc c st.version else 1)=0) (k:c.kind=3):a_ st c=aS st c:=by
 rw [pY h]; simp [lq,k]
theorem HO (h:(if mayF st st.version=0 then bc c st.version else 1)=0) (k:c.kind=4):a_ st c=ba st c:=by
 rw [pY h]; simp [lq,k]
theorem JY (h:(if mayF st st.version=0 then bc c st.version else 1)=0) (k:c.kind=3\/c.kind=4) (o:ag Opn.set c.set st.opens<0\/¬ (st.opens.getD (ag Opn.set c.set st.opens).toNat (dflt (.nm .opn))).client=c.client):a_ st c=(st,⟨15,0⟩):=by
 rcases k with k | k
 ·rw [Iq h k]; exact if_pos (IF o)
 ·rw [HO h k]; exact if_pos (IF o)
theorem Is (h:(if mayF st st.version=0 then bc c st.version else 1)=0) (k:c.kind=3) (p:0<=ag Opn.set c.set st.opens) (o:(st.opens.getD (ag Opn.set c.set st.opens).toNat (dflt (.nm .opn))).client=c.client):a_ st c=bl st c:=by
 rw [Iq h k]
 unfold aS bl
 rw [IB p o,if_neg (by omega),Bt (jV (nJ h).1).1 p]
theorem HZ (h:(if mayF st st.version=0 then bc c st.version else 1)=0) (k:c.kind=4) (p:0<=ag Opn.set c.set st.opens) (o:(st.opens.getD (ag Opn.set c.set st.opens).toNat (dflt (.nm .opn))).client=c.client):a_ st c=(State.mk st.version st.next st.keep st.quota st.sess (lu c.set st.opens) st.snaps,⟨0,0⟩):=by
 rw [HO h k]
 unfold ba
 rw [IB p o,if_neg (by omega),Bt (jV (nJ h).1).1 p]
theorem Kv (h:(if mayF st st.version=0 then bc c st.version else 1)=0) (k:c.kind=6):a_ st c=(State.mk st.version st.next c.n st.quota st.sess st.opens st.snaps,⟨0,0⟩):=by
 rw [pY h]; simp [lq,k,db]
theorem Ko (h:(if mayF st st.version=0 then bc c st.version else 1)=0) (k:c.kind=12):a_ st c=(State.mk st.version st.next st.keep c.n st.sess st.opens st.snaps,⟨0,distF st.snaps⟩):=by
 rw [pY h]; simp [lq,k,cA]
theorem rT (h:(if mayF st st.version=0 then bc c st.version else 1)=0) (k:¬ c.kind=1/\¬ c.kind=8/\¬ c.kind=2/\¬ c.kind=3/\¬ c.kind=4/\¬ c.kind=6/\¬ c.kind=12):c.kind=5\/c.kind=7\/c.kind=11\/c.kind=9\/c.kind=10:=by
 have:=tg (nJ h).2
 omega
theorem Iz (h:(if mayF st st.version=0 then bc c st.version else 1)=0) (k:¬ c.kind=1/\¬ c.kind=8/\¬ c.kind=2/\¬ c.kind=3/\¬ c.kind=4/\¬ c.kind=6/\¬ c.kind=12):a_ st c=aA (fun s i=>bX s c i) c st:=by
 rw [pY h]
 rcases rT h k with k | k | k | k | k <;> simp [lq,k,bX]
theorem IX (h:(if mayF st st.version=0 then bc c st.version else 1)=0) (k:¬ c.kind=1/\¬ c.kind=8/\¬ c.kind=2/\¬ c.kind=3/\¬ c.kind=4/\¬ c.kind=6/\¬ c.kind=12) (p:ag Snap.id c.id st.snaps<0):a_ st c=(st,⟨15,0⟩):=by
 rw [Iz h k]; exact if_pos p
theorem IA (h:(if mayF st st.version=0 then bc c st.version else 1)=0) (k:¬ c.kind=1/\¬ c.kind=8/\¬ c.kind=2/\¬ c.kind=3/\¬ c.kind=4/\¬ c.kind=6/\¬ c.kind=12) (p:0<=ag Snap.id c.id st.snaps):a_ st c=bX st c (ag Snap.id c.id st.snaps).toNat:=by
 rw [Iz h k]; exact if_neg (by omega)
theorem Ik (p:0<=ag Snap.id c.id st.snaps):c.id=(st.snaps.getD (ag Snap.id c.id st.snaps).toNat (dflt (.nm .snap))).id:=(jD p).1.symm
theorem Gj (h:(if mayF st st.version=0 then bc c st.version else 1)=0) (k:c.kind=3):nch (st.snaps++[⟨0,0,c.chunks,false,⟨[]⟩⟩])<=1048576:=by
 have h1:=vr (nJ h).1
 have h2:=tU (vX (nJ h).2).2.2.2 k
 have h3:ck c.chunks=true:=by
  cases hr:ck c.chunks with
  | true=>rfl
  | false=>have:=er (l:=c.chunks) hr; omega
 have h4:=(qa h3).2
 have e:nch (st.snaps++[⟨0,0,c.chunks,false,⟨[]⟩⟩])=nch st.snaps+c.chunks.length:=by simp [nch]
 omega
end
theorem CL (st:State) (c:Command) (r0:Int) (r1:Int) (r2:Int) (r3:Int) (r4:Reply) (r5:List Sess) (r6:List Opn) (r7:List Snap):lB aE BI [] Tryz.f15 [.agg (cellsOf (.nm .state) st),.agg (cellsOf (.nm .command) c)] [] [.agg ([.int (r0),.int (r1),.int (r2),.int (r3),.own 0,.own 1,.own 2]),.agg (cellsOf (.nm .reply) r4)] [.row 44 (.nm .sess) (r5),.row 77 (.nm .opn) (r6),.row 59 (.nm .snap) (r7)]=((fun (q22:Int)=>(fun (q21:Reply)=>(fun (q20:Prop)=>(fun (q19:Prop)=>(fun (q18:den (Sh.nm NT.opn))=>(fun (q17:Prop)=>(fun (q16:Int)=>(fun (q15:List Snap)=>(fun (q14:List Opn)=>(fun (q13:Prop)=>(fun (q12:Prop)=>(fun (q11:Prop)=>(fun (q10:Int)=>(fun (q9:Int)=>(fun (q8:Int)=>(fun (q7:State)=>(fun (q6:Int)=>(fun (q5:Int)=>(fun (q4:Prop)=>(fun (q3:Int)=>(fun (q2:State × Reply)=>(fun (q1:Prop)=>(fun (q0:Prop)=>I64 q9->q20->q19->q17->st.sess.length*(32:Nat)<=(140737488355328:Nat)->q14.length*(16:Nat)<=(140737488355328:Nat)->q15.length*(64:Nat)<=(140737488355328:Nat)->I64 q10->I64 c.client->I64 c.seq->I64 c.set->I64 c.id->I64 c.n->c.chunks.length*(8:Nat)<=(140737488355328:Nat)->c.text.b.length<=(140737488355328:Nat)->I64 q5->(¬q5=q6->I64 q9->q20->q19->q17->I64 q5->I64 q6->q9=r0/\q11/\q13/\q12/\q5=q16/\q6=r4.n/\q4)/\(q5=q6->(q10=(1:Int)\/q10=(8:Int)->I64 q9->q20->q19->q17->I64 (1:Int)->I64 q6->q9=r0/\q11/\q13/\q12/\(1:Int)=q16/\q6=r4.n/\q4)/\(¬q10=(1:Int)/\¬q10=(8:Int)->I64 q9->q20->q19->q17->I64 q3->(q10=(2:Int)->(q6<=q3->(q6<=q3/\q3<(↑q14.length:Int))/\(I64 (q14.getD q3.toNat q18).set->I64 (q14.getD q3.toNat q18).client->q9=r0/\q11/\q13/\q12/\(16:Int)=q16/\(q14.getD q3.toNat q18).client=r4.n/\q4))/\(q3<q6->q14.length<(1048576:Nat)/\q9=r0/\q11/\q13/\q12/\q6=q16/\q6=r4.n/\st.sess=r5/\dF Opn.set (Opn.mk c.set c.client) q14=r6/\q15=r7))/\(¬q10=(2:Int)->(q10=q22->(q10=q22->q1)/\(¬q10=q22->q0))/\(¬q10=q22->(q10=(4:Int)->q1)/\(¬q10=(4:Int)->q0)))))) ((q10=(6:Int)->q9=r0/\q11/\c.n=r2/\q12/\q6=q16/\q6=r4.n/\q4)/\(¬q10=(6:Int)->(q10=(12:Int)->nch q15<=(1048576:Nat)/\(I64 (↑(distF q15):Int)->q9=r0/\q11/\q13/\c.n=r3/\q6=q16/\(↑(distF q15):Int)=r4.n/\q4))/\(¬q10=(12:Int)->I64 q8->(q8<q6->I64 q9->q20->q19->q17->I64 (15:Int)->I64 q6->q9=r0/\q11/\q13/\q12/\(15:Int)=q16/\q6=r4.n/\q4)/\(q6<=q8->(q6<=q8/\q8<(↑q15.length:Int))/\nch q15<=(1048576:Nat)/\c.id=(q15.getD q8.toNat (dflt (Sh.nm NT.snap))).id/\(q10=(5:Int)\/q10=(7:Int)\/q10=(11:Int)\/q10=(9:Int)\/q10=(10:Int))/\(I64 q2.fst.version->I64 q2.fst.next->I64 q2.fst.keep->I64 q2.fst.quota->I64 q2.snd.code->I64 q2.snd.n->q2.fst.version=r0/\q2.fst.next=r1/\q2.fst.keep=r2/\q2.fst.quota=r3/\q2.snd.code=q16/\q2.snd.n=r4.n/\q2.fst.sess=r5/\q2.fst.opens=r6/\q2.fst.snaps=r7)))))) ((q6<=q3->q6<=q3/\q3<(↑q14.length:Int))/\((q6<=q3->I64 (q14.getD q3.toNat q18).set/\I64 (q14.getD q3.toNat q18).client)->(q3<q6\/¬(q14.getD q3.toNat q18).client=c.client->I64 q9->q20->q19->q17->I64 (15:Int)->I64 q6->q9=r0/\q11/\q13/\q12/\(15:Int)=q16/\q6=r4.n/\q4)/\(q6<=q3/\(q14.getD q3.toNat q18).client=c.client->(q10=q22->q15.length<(1048576:Nat)/\nch (q15++[Snap.mk q6 q6 c.chunks false (Str.mk [])])<=(1048576:Nat)/\q6<=st.next/\(I64 q7.version->I64 q7.next->I64 q7.keep->I64 q7.quota->I64 q21.code->I64 q21.n->q7.version=r0/\q7.next=r1/\q7.keep=r2/\q7.quota=r3/\q21.code=q16/\q21.n=r4.n/\q7.sess=r5/\q7.opens=r6/\q7.snaps=r7))/\(¬q10=q22->q9=r0/\q11/\q13/\q12/\q6=q16/\q6=r4.n/\st.sess=r5/\lu c.set q14=r6/\q15=r7))))) (bX st c q8.toNat)) (ag Opn.set c.set q14)) (st.sess=r5/\q14=r6/\q15=r7)) (if mayF st q9=q6 then bc c q9 else (1:Int))) (0:Int)) (bl st c).fst) (ag Snap.id c.id q15)) st.version) c.kind) (st.next=r1)) (st.quota=r3)) (st.keep=r2)) st.opens) st.snaps) r4.code) (I64 st.quota)) (dflt (Sh.nm NT.opn))) (I64 st.keep)) (I64 st.next)) (bl st c).snd) (3:Int)):=by kernel_rfl
theorem CN (st:State) (c:Command):Sat Tryz.prog (av aE) 15 [.agg (cellsOf (.nm .state) st),.agg (cellsOf (.nm .command) c)] [] ⟨[],[.agg ([.int (((a_ st c).1.version)),.int (((a_ st c).1.next)),.int (((a_ st c).1.keep)),.int (((a_ st c).1.quota)),.own 0,.own 1,.own 2]),.agg (cellsOf (.nm .reply) ((a_ st c).2))],some ([.row 44 (.nm .sess) (((a_ st c).1.sess)),.row 77 (.nm .opn) (((a_ st c).1.opens)),.row 59 (.nm .snap) (((a_ st c).1.snaps))]),true⟩:=by
 refine cT sA [] Tryz.func15 (by decide) (by kernel_rfl) ?_
 rw [CL]
 (repeat' (first | with_reducible refine And.intro ?_ ?_ | with_reducible refine and_imp.2 ?_ | intro))
 all_goals (first | (first | with_reducible rfl | with_reducible assumption | omega | (refine aj ?_ ?_ <;> omega)) | exact (ub (by with_reducible assumption)) | exact (AX (by with_reducible assumption)) | exact (mY (by with_reducible assumption)) | exact (yH (by with_reducible assumption)) | exact (Ab (by with_reducible assumption)) | exact bM (by with_reducible assumption) | exact Ik (by with_reducible assumption) | exact Gj (by with_reducible assumption) (by with_reducible assumption) | exact rT (by with_reducible assumption) (by omega) | (rw [Jf (by with_reducible assumption)]; done) | (rw [JU (by assumption) (by assumption)]; first | done | rfl) | (rw [Jj (by assumption) (by assumption) (by assumption)]; first | done | rfl) | (rw [Ir (by assumption) (by assumption) (by assumption)]; first | done | rfl) | (rw [JY (by assumption) (by omega) (by assumption)]; first | done | rfl) | (rw [Is (by assumption) (by assumption) (by assumption) (by assumption)]; first | done | rfl) | (rw [HZ (by assumption) (by first | assumption | (have:=tg (nJ (by assumption)).2; omega)) (by assumption) (by assumption)]; first | done | rfl) | (rw [Kv (by assumption) (by assumption)]; first | done | rfl) | (rw [Ko (by assumption) (by assumption)]; first | done | rfl) | (rw [IX (by assumption) (by omega) (by assumption)]; first | done | rfl) | (rw [IA (by assumption) (by omega) (by assumption)]; first | done | rfl))
def z_:cX:=(bI 15 (bF (ai (kT (.nm .state)) (ai (kT (.nm .command)) aM)) aN fun (st,c,_) (_)=>⟨[],[.agg ([.int (((a_ st c).1.version)),.int (((a_ st c).1.next)),.int (((a_ st c).1.keep)),.int (((a_ st c).1.quota)),.own 0,.own 1,.own 2]),.agg (cellsOf (.nm .reply) ((a_ st c).2))],some ([.row 44 (.nm .sess) (((a_ st c).1.sess)),.row 77 (.nm .opn) (((a_ st c).1.opens)),.row 59 (.nm .snap) (((a_ st c).1.snaps))]),true⟩) BI)
theorem sa:bd Tryz.prog (av aE) z_:=(ax (ay (ab bf (ab bf al)) ak fun (st,c,_) (_) _=>CN st c ) sA)
end Go.Proofs.YtdggohppeeaipaaGreat
namespace Go.Proofs.YtdggohppeeaipaaGreat
open Go.RowKit
section
variable {st:State} {c:Command}
theorem JK (h:(if mayF st st.version=0 then bc c st.version else 1)=0) (k:c.kind=1) (p:ag Sess.client c.client st.sess<0):dw st c=(State.mk st.version st.next st.keep st.quota (dF Sess.client (Sess.mk c.client 0 (Reply.mk 0 0)) st.sess) st.opens st.snaps,⟨0,0⟩):=by
 rw [CY h k p,nh (x:=Sess.mk c.client 0 (Reply.mk 0 0)) (BT (nJ h).1).1 fun y hy=>mK (key:=Sess.client) (want:=c.client) p y hy]
theorem Kj (h:(if mayF st st.version=0 then bc c st.version else 1)=0) (k8:¬ c.kind=8) (k1:¬ c.kind=1) (p:ag Sess.client c.client st.sess<0):dw st c=(st,⟨11,0⟩):=(EN h k8 k1).trans (K_ p)
theorem JX (h:(if mayF st st.version=0 then bc c st.version else 1)=0) (k8:¬ c.kind=8) (k1:¬ c.kind=1) (p:0<=ag Sess.client c.client st.sess) (e:c.seq=(st.sess.getD (ag Sess.client c.client st.sess).toNat (dflt (.nm .sess))).seq):dw st c=(st,(st.sess.getD (ag Sess.client c.client st.sess).toNat (dflt (.nm .sess))).last):=(EN h k8 k1).trans (KS p e)
theorem JJ (h:(if mayF st st.version=0 then bc c st.version else 1)=0) (k8:¬ c.kind=8) (k1:¬ c.kind=1) (p:0<=ag Sess.client c.client st.sess) (e:c.seq<(st.sess.getD (ag Sess.client c.client st.sess).toNat (dflt (.nm .sess))).seq):dw st c=(st,⟨13,0⟩):=(EN h k8 k1).trans (KP p (by omega) e)
theorem JG (h:(if mayF st st.version=0 then bc c st.version else 1)=0) (k8:¬ c.kind=8) (k1:¬ c.kind=1) (p:0<=ag Sess.client c.client st.sess) (e:(st.sess.getD (ag Sess.client c.client st.sess).toNat (dflt (.nm .sess))).seq+1<c.seq):dw st c=(st,⟨14,0⟩):=(EN h k8 k1).trans (KZ p (by omega) (by omega) e)
theorem JO (h:(if mayF st st.version=0 then bc c st.version else 1)=0) (k8:¬ c.kind=8) (k1:¬ c.kind=1) (p:0<=ag Sess.client c.client st.sess) (e:¬ c.seq=(st.sess.getD (ag Sess.client c.client st.sess).toNat (dflt (.nm .sess))).seq) (e1:(st.sess.getD (ag Sess.client c.client st.sess).toNat (dflt (.nm .sess))).seq<=c.seq) (e2:c.seq<=(st.sess.getD (ag Sess.client c.client st.sess).toNat (dflt (.nm .sess))).seq+1) :
  dw st c=(State.mk (a_ st c).1.version (a_ st c).1.next (a_ st c).1.keep (a_ st c).1.quota ((a_ st c).1.sess.set (ag Sess.client c.client st.sess).toNat (Sess.mk c.client c.seq (a_ st c).2)) (a_ st c).1.opens (a_ st c).1.snaps,(a_ st c).2):=by
 rw [Cb (nJ h).1 (nJ h).2 k8 k1 p (by omega),(jD (d:=dflt (.nm .sess)) p).1,gG]
theorem Ke (h:(if mayF st st.version=0 then bc c st.version else 1)=0) (p:0<=ag Sess.client c.client st.sess):I64 ((st.sess.getD (ag Sess.client c.client st.sess).toNat (dflt (.nm .sess))).seq+1):=Ic (v:=st.version) (nx:=st.next) (kp:=st.keep) (qt:=st.quota) (op:=st.opens) (sn:=st.snaps) h p
theorem IN (p:0<=ag Sess.client c.client st.sess):ag Sess.client c.client st.sess<((a_ st c).1.sess.length:Int):=by rw [gG]; exact bM p
end
theorem FR (st:State) (c:Command) (r0:Int) (r1:Int) (r2:Int) (r3:Int) (r4:Reply) (r5:List Sess) (r6:List Opn) (r7:List Snap):lB aE z_ [] Tryz.f13 [.agg (cellsOf (.nm .state) st),.agg (cellsOf (.nm .command) c)] [] [.agg ([.int (r0),.int (r1),.int (r2),.int (r3),.own 0,.own 1,.own 2]),.agg (cellsOf (.nm .reply) r4)] [.row 44 (.nm .sess) (r5),.row 77 (.nm .opn) (r6),.row 59 (.nm .snap) (r7)]=((fun (q19:Prop)=>(fun (q18:den (Sh.nm NT.sess))=>(fun (q17:Reply)=>(fun (q16:Int)=>(fun (q15:Nat)=>(fun (q14:Prop)=>(fun (q13:Prop)=>(fun (q12:Int)=>(fun (q11:Prop)=>(fun (q10:Prop)=>(fun (q9:Prop)=>(fun (q8:Prop)=>(fun (q7:Prop)=>(fun (q6:Int)=>(fun (q5:Int)=>(fun (q4:State)=>(fun (q3:Int)=>(fun (q2:Prop)=>(fun (q1:Int)=>(fun (q0:den (Sh.nm NT.sess))=>I64 q6->q14->q13->q11->q15*(32:Nat)<=(140737488355328:Nat)->st.opens.length*(16:Nat)<=(140737488355328:Nat)->st.snaps.length*(64:Nat)<=(140737488355328:Nat)->I64 c.kind->I64 c.client->I64 c.seq->I64 c.set->I64 c.id->I64 c.n->c.chunks.length*(8:Nat)<=(140737488355328:Nat)->c.text.b.length<=(140737488355328:Nat)->I64 q3->(¬q3=q5->I64 q6->q14->q13->q11->I64 q3->I64 q5->q6=r0/\q10/\q9/\q8/\q3=q16/\q2)/\(q3=q5->I64 q1->I64 q6->q14->q13->q11->(c.kind=(8:Int)->I64 (q6+q12)/\(¬c.n=q6+q12->I64 q6->q14->q13->q11->I64 q12->I64 q5->q6=r0/\q10/\q9/\q8/\q12=q16/\q2)/\(c.n=q6+q12->c.n=r0/\q10/\q9/\q8/\q5=q16/\c.n=r4.n/\q7))/\(¬c.kind=(8:Int)->(c.kind=q12->(q5<=q1->I64 q6->q14->q13->q11->I64 (12:Int)->I64 q5->q6=r0/\q10/\q9/\q8/\(12:Int)=q16/\q2)/\(q1<q5->q15<(1048576:Nat)/\q6=r0/\q10/\q9/\q8/\q5=q16/\q5=r4.n/\dF Sess.client (Sess.mk c.client q5 (Reply.mk q5 q5)) st.sess=r5/\q19))/\(¬c.kind=q12->(q1<q5->I64 q6->q14->q13->q11->I64 (11:Int)->I64 q5->q6=r0/\q10/\q9/\q8/\(11:Int)=q16/\q2)/\(q5<=q1->q5<=q1/\q1<(↑q15:Int)/\(I64 q0.client->I64 q0.seq->I64 q0.last.code->I64 q0.last.n->(c.seq=q0.seq->(q5<=q1/\q1<(↑q15:Int))/\(I64 q0.client->I64 q0.seq->I64 q0.last.code->I64 q0.last.n->q6=r0/\q10/\q9/\q8/\q0.last.code=q16/\q0.last.n=r4.n/\q7))/\(¬c.seq=q0.seq->q5<=q1/\q1<(↑q15:Int)/\(I64 q0.client->I64 q0.seq->I64 q0.last.code->I64 q0.last.n->(c.seq<q0.seq->I64 q6->q14->q13->q11->I64 (13:Int)->I64 q5->q6=r0/\q10/\q9/\q8/\(13:Int)=q16/\q2)/\(q0.seq<=c.seq->q5<=q1/\q1<(↑q15:Int)/\I64 (q0.seq+q12)/\(I64 q0.client->I64 q0.seq->I64 q0.last.code->I64 q0.last.n->(q0.seq+q12<c.seq->I64 q6->q14->q13->q11->I64 (14:Int)->I64 q5->q6=r0/\q10/\q9/\q8/\(14:Int)=q16/\q2)/\(c.seq<=q0.seq+q12->I64 q4.version->I64 q4.next->I64 q4.keep->I64 q4.quota->I64 q17.code->I64 q17.n->q5<=q1/\q1<(↑q4.sess.length:Int)/\(I64 (q4.sess.getD q1.toNat q18).client->I64 (q4.sess.getD q1.toNat q18).seq->I64 (q4.sess.getD q1.toNat q18).last.code->I64 (q4.sess.getD q1.toNat q18).last.n->q4.version=r0/\q4.next=r1/\q4.keep=r2/\q4.quota=r3/\q17.code=q16/\q17.n=r4.n/\q4.sess.set q1.toNat (Sess.mk c.client c.seq q17)=r5/\q4.opens=r6/\q4.snaps=r7)))))))))))) (st.sess.getD q1.toNat q18)) (ag Sess.client c.client st.sess)) (q5=r4.n/\q7)) (if mayF st q6=q5 then bc c q6 else q12)) (a_ st c).fst) (0:Int)) st.version) (st.sess=r5/\q19)) (st.quota=r3)) (st.keep=r2)) (st.next=r1)) (I64 st.quota)) (1:Int)) (I64 st.keep)) (I64 st.next)) st.sess.length) r4.code) (a_ st c).snd) (dflt (Sh.nm NT.sess))) (st.opens=r6/\st.snaps=r7)):=by kernel_rfl
theorem Hz (st:State) (c:Command):Sat Tryz.prog (av aE) 13 [.agg (cellsOf (.nm .state) st),.agg (cellsOf (.nm .command) c)] [] ⟨[],[.agg ([.int (((dw st c).1.version)),.int (((dw st c).1.next)),.int (((dw st c).1.keep)),.int (((dw st c).1.quota)),.own 0,.own 1,.own 2]),.agg (cellsOf (.nm .reply) ((dw st c).2))],some ([.row 44 (.nm .sess) (((dw st c).1.sess)),.row 77 (.nm .opn) (((dw st c).1.opens)),.row 59 (.nm .snap) (((dw st c).1.snaps))]),true⟩:=by
 refine cT sa [] Tryz.func13 (by decide) (by kernel_rfl) ?_
 rw [FR]
 (repeat' (first | with_reducible refine And.intro ?_ ?_ | with_reducible refine and_imp.2 ?_ | intro))
 all_goals (first | (first | with_reducible rfl | with_reducible assumption | omega | (refine aj ?_ ?_ <;> omega)) | exact (ub (by with_reducible assumption)) | exact (AX (by with_reducible assumption)) | exact (mY (by with_reducible assumption)) | exact (yH (by with_reducible assumption)) | exact (Ab (by with_reducible assumption)) | exact Dd (by with_reducible assumption) | exact mY (by with_reducible assumption) | exact bM (by with_reducible assumption) | exact Ke (by with_reducible assumption) (by with_reducible assumption) | exact IN (by with_reducible assumption) | (rw [Jv (by with_reducible assumption)]; done) | (rw [CQ (by with_reducible assumption) (by with_reducible assumption) (by with_reducible assumption)]; first | done | rfl) | (rw [Du (by with_reducible assumption) (by with_reducible assumption) (by with_reducible assumption)]; first | done | rfl) | (rw [Cd (by with_reducible assumption) (by with_reducible assumption) (by with_reducible assumption)]; first | done | rfl) | (rw [JK (by with_reducible assumption) (by with_reducible assumption) (by with_reducible assumption)]; first | done | rfl) | (rw [Kj (by with_reducible assumption) (by with_reducible assumption) (by with_reducible assumption) (by with_reducible assumption)]; first | done | rfl) | (rw [JX (by with_reducible assumption) (by with_reducible assumption) (by with_reducible assumption) (by with_reducible assumption) (by with_reducible assumption)]; first | done | rfl) | (rw [JJ (by with_reducible assumption) (by with_reducible assumption) (by with_reducible assumption) (by with_reducible assumption) (by with_reducible assumption)]; first | done | rfl) | (rw [JG (by with_reducible assumption) (by with_reducible assumption) (by with_reducible assumption) (by with_reducible assumption) (by with_reducible assumption)]; first | done | rfl) | (rw [JO (by with_reducible assumption) (by with_reducible assumption) (by with_reducible assumption) (by with_reducible assumption) (by with_reducible assumption) (by with_reducible assumption) (by with_reducible assumption)]; first | done | rfl))
def EG:cX:=(bI 13 (bF (ai (kT (.nm .state)) (ai (kT (.nm .command)) aM)) aN fun (st,c,_) (_)=>⟨[],[.agg ([.int (((dw st c).1.version)),.int (((dw st c).1.next)),.int (((dw st c).1.keep)),.int (((dw st c).1.quota)),.own 0,.own 1,.own 2]),.agg (cellsOf (.nm .reply) ((dw st c).2))],some ([.row 44 (.nm .sess) (((dw st c).1.sess)),.row 77 (.nm .opn) (((dw st c).1.opens)),.row 59 (.nm .snap) (((dw st c).1.snaps))]),true⟩) z_)
theorem Bz:bd Tryz.prog (av aE) EG:=(ax (ay (ab bf (ab bf al)) ak fun (st,c,_) (_) _=>Hz st c ) sa)
end Go.Proofs.YtdggohppeeaipaaGreat
namespace Go.Proofs.YtdggohppeeaipaaGreat
open Go.RowKit
theorem Hu (st:State) (c:Command) (r0:Bool):cF aE EG [] Tryz.f3 [.agg (cellsOf (.nm .state) st),.agg (cellsOf (.nm .command) c)] [] [.c (.bool (.atom (r0)))]=((fun (q4:Command)=>(fun (q3:State)=>(fun (q2:Nat)=>(fun (q1:State × Reply)=>(fun (q0:State × Reply)=>I64 st.version->I64 st.next->I64 st.keep->I64 st.quota->st.sess.length*(32:Nat)<=q2->st.opens.length*(16:Nat)<=q2->st.snaps.length*(64:Nat)<=q2->I64 c.kind->I64 c.client->I64 c.seq->I64 c.set->I64 c.id->I64 c.n->c.chunks.length*(8:Nat)<=q2->c.text.b.length<=q2->I64 q3.version->I64 q3.next->I64 q3.keep->I64 q3.quota->q3.sess.length*(32:Nat)<=q2->q3.opens.length*(16:Nat)<=q2->q3.snaps.length*(64:Nat)<=q2->I64 q4.kind->I64 q4.client->I64 q4.seq->I64 q4.set->I64 q4.id->I64 q4.n->q4.chunks.length*(8:Nat)<=q2->q4.text.b.length<=q2->I64 q1.fst.version->I64 q1.fst.next->I64 q1.fst.keep->I64 q1.fst.quota->I64 q1.snd.code->I64 q1.snd.n->I64 q1.fst.version->I64 q1.fst.next->I64 q1.fst.keep->I64 q1.fst.quota->I64 q1.snd.code->I64 q1.snd.n->I64 q0.fst.version->I64 q0.fst.next->I64 q0.fst.keep->I64 q0.fst.quota->I64 q0.snd.code->I64 q0.snd.n->I64 q0.fst.version->I64 q0.fst.next->I64 q0.fst.keep->I64 q0.fst.quota->I64 q0.snd.code->I64 q0.snd.n->(true && decide (q1.fst=q1.fst) && (decide (q1.snd.code=q1.snd.code) && decide (q1.snd.n=q1.snd.n)) && decide (q0.fst=q0.fst) && (decide (q0.snd.code=q0.snd.code) && decide (q0.snd.n=q0.snd.n)))=r0) (a_ q3 q4)) (dw q3 q4)) (140737488355328:Nat)) (dD st)) (DC c)):=by kernel_rfl
theorem Ff (st:State) (c:Command):Sat Tryz.prog (av aE) 3 [.agg (cellsOf (.nm .state) st),.agg (cellsOf (.nm .command) c)] [] ⟨[],[.c (.bool (.atom ((true))))],none,false⟩:=by
 refine aP Bz [] Tryz.func3 (by decide) (by kernel_rfl) ?_
 rw [Hu]
 (repeat' (first | with_reducible refine And.intro ?_ ?_ | with_reducible refine and_imp.2 ?_ | intro))
 all_goals (first | (first | with_reducible rfl | with_reducible assumption | omega | (refine aj ?_ ?_ <;> omega)) | (simp only [decide_true,Bool.and_self]; done))
end Go.Proofs.YtdggohppeeaipaaGreat
namespace Go.Proofs.YtdggohppeeaipaaGreat
open Go.RowKit Go.ChangeShapes Go.WideShapes
def wJ (shp:TypeId->Option Sh) (w:World):Cx:=cx ⟨shp,w.heap.size,fun _=>False⟩ [] w
theorem Hf {shp:TypeId->Option Sh} {w:World} {s:Sh} {b:Nat} (h:b<w.heap.size):(wJ shp w).at s b:=⟨⟨h,fun ⟨_,_,h,_⟩=>by simp at h,fun h=>h⟩,.inl h⟩
def Tr (P:Program) (shp:TypeId->Option Sh) (t:TypeId) (s:Sh):Prop:=
 ∀ (H:Type) (enc:TypeId × Value->H) (w:World) (fuel:Nat) (cs:List Value) (x:DataW H × List MemPlace),
  DataW.trod enc P w 0 (fun _=>true) true fuel t cs=some x->(∀ n ∈ x.1.weights P t,n<=140737488351232)->(∀ q ∈ x.2,q.block<w.heap.size)->∃ y:den s,Pds (wJ shp w) (cellsOf s y) cs
def GF:List Sh->List AV->Prop
 | [],asx=>asx=[]
 | s :: r,asx=>∃ (y:den s) (l:List AV),asx=cellsOf s y++l/\GF r l
def HR:List Sh->Nat
 | []=>0
 | s :: r=>s.size+HR r
def fy (P:Program) (shp:TypeId->Option Sh) (fs:List Go.Field) (o:Nat) (ss:List Sh):Prop:=
 ∀ (H:Type) (enc:TypeId × Value->H) (w:World) (fuel:Nat) (cs:List Value) (xs:List (DataW H × List MemPlace)),
  cs.length=o+HR ss->xs.length=fs.length->(∀ (i:Nat) (f:Go.Field),fs[i]? = some f->DataW.trod enc P w 0 (fun _=>true) true fuel f.type ((cs.drop f.offset).take (P.cellsOf f.type))=xs[i]?) ->
  (∀ n ∈ DataW.weightsEach P (fs.map (·.type)) (xs.map (·.1)),n<=140737488351232)->(∀ q ∈ xs.flatMap (·.2),q.block<w.heap.size)->∃ asx,GF ss asx/\Pds (wJ shp w) asx (cs.drop o)
section
variable {P:Program} {shp:TypeId->Option Sh} {t:TypeId}
theorem Tr.int (h:P.underlying t=some (.int .i64)):Tr P shp t .int:=fun _ enc w fuel cs x hx _ _=>by
 obtain ⟨n,rfl,_,hw⟩:=DataW.trod_int h hx
 have h1:IntKind.i64.min = -9223372036854775808:=rfl
 have h2:IntKind.i64.max=9223372036854775807:=rfl
 simp only [Lit.wf,Bool.and_eq_true,decide_eq_true_eq] at hw
 exact ⟨n,.cons (.int ⟨by omega,by omega⟩) .nil⟩
theorem Tr.bool (h:P.underlying t=some .bool):Tr P shp t .bool:=fun _ enc w fuel cs x hx _ _=>by
 obtain ⟨n,rfl,_⟩:=DataW.trod_bool h hx
 exact ⟨n,.cons (Pd.bool (e:=.atom n)) .nil⟩
theorem Tr.u8 (h:P.underlying t=some (.int .u8)):Tr P shp t .u8:=fun _ enc w fuel cs x hx _ _=>by
 obtain ⟨n,rfl,_,hw⟩:=DataW.trod_int h hx
 have h1:IntKind.u8.min=0:=rfl
 have h2:IntKind.u8.max=255:=rfl
 simp only [Lit.wf,Bool.and_eq_true,decide_eq_true_eq] at hw
 refine ⟨UInt8.ofNat n.toNat,?_⟩
 have:n=((UInt8.ofNat n.toNat).toNat:Int):=by
  rw [UInt8.toNat_ofNat']; omega
 generalize hg:UInt8.ofNat n.toNat=b at this
 subst this
 exact .cons .u8 .nil
theorem Tr.u64 (h:P.underlying t=some (.int .u64)):Tr P shp t .u64:=fun _ enc w fuel cs x hx _ _=>by
 obtain ⟨n,rfl,_,hw⟩:=DataW.trod_int h hx
 have h1:IntKind.u64.min=0:=rfl
 have h2:IntKind.u64.max=18446744073709551615:=rfl
 simp only [Lit.wf,Bool.and_eq_true,decide_eq_true_eq] at hw
 refine ⟨⟨n.toNat⟩,?_⟩
 have:n=(n.toNat:Int):=by omega
 generalize hg:n.toNat=b at this
 subst this
 exact .cons (.u64 (by show b<_; omega)) .nil
theorem Tr.str (h:P.underlying t=some .string):Tr P shp t .str:=fun _ enc w fuel cs x hx hw _=>by
 obtain ⟨s,rfl,hx,_⟩:=DataW.trod_string h hx
 refine ⟨⟨s.data.toList⟩,?_⟩
 have:=hw s.data.toList.length (by rw [hx]; simp [DataW.weights])
 have e:=Pd.str (c:=wJ shp w) (s:=⟨s.data.toList⟩) (by show s.data.toList.length<=_; omega)
 have e2:(⟨s.data.toList⟩:Str).val = .string s:=by simp [Str.val]
 rw [e2] at e
 exact .cons e .nil
theorem gw {H:Type} {e:TypeId}:∀ {ds:List (DataW H)} {d:DataW H},d ∈ ds->∀ n ∈ d.weights P e,n ∈ DataW.weightsAll P e ds
 | [],_,h,_,_=>by cases h
 | d0 :: ds,d,h,n,hn=>by
  rw [DataW.weightsAll,List.mem_append]
  rcases List.mem_cons.1 h with rfl | h
  ·exact .inl hn
  ·exact .inr (gw h n hn)
theorem wQ {s:Sh} {xs:List (den s)} {y:den s}:(xs++[y]).flatMap (cellsOf s)=xs.flatMap (cellsOf s)++cellsOf s y:=by simp
theorem Tr.list {e:TypeId} {s:Sh} (ht:P.underlying t=some (.slice e)) (hC:P.cellsOf e=s.size) (hB:P.bytesOf e=s.bytes) (he:Tr P shp e s):Tr P shp t (.lst s):=fun H enc w fuel cs x hx hw hlt=>by
 have hp:=size_pos s
 rcases DataW.trod_slice ht hx with ⟨rfl,_⟩ | ⟨a,len,cap,elems,rest,n,rfl,rfl,rfl,_,hl,hc,hel,hget,hrest,_⟩
 ·exact ⟨([]:List (den s)),.cons (Pd.qj (.em (a:=none) (b:=true) rfl)) .nil⟩
 ·rw [hC] at *
  have step:∀ m,m<=len->∃ (cells:List Value) (xs:List (den s)),Pds (wJ shp w) (xs.flatMap (cellsOf s)) cells/\xs.length=m/\CellsAt w a cells:=by
   intro m
   induction m with
   | zero=>intro _; exact ⟨[],[],.nil,rfl,CellsAt.nil⟩
   | succ m ih=>
    intro hm
    obtain ⟨cells,xs,h1,h2,h3⟩:=ih (by omega)
    have hg:=hget m (by omega)
    have hem:elems[m]? = some (elems[m]'(by omega)):=List.getElem?_eq_getElem (by omega)
    rw [hem,Option.bind_eq_some_iff] at hg
    obtain ⟨cs,hcs,htr⟩:=hg
    have hmem:elems[m]'(by omega) ∈ elems:=List.getElem_mem _
    obtain ⟨y,hy⟩:=he H enc w n cs _ htr
     (fun k hk=>hw k (by
      simp only [DataW.weights,ht,List.mem_cons,List.mem_append]
      exact .inr (.inl (gw (List.mem_map_of_mem hmem) k hk))))
     (fun q hq=>hlt q (by
      simp only [List.mem_append,List.mem_flatMap]
      exact .inr ⟨_,.inl hmem,hq⟩))
    obtain ⟨_,hcl,hat⟩:=World.cells?_some hcs
    refine ⟨cells++cs,xs++[y],by rw [wQ]; exact h1.append hy,by simp [h2],fun j v hv=>?_⟩
    have hfl:cells.length=m*s.size:=by rw [<- h1.length,bL,h2]
    by_cases hj:j<m*s.size
    ·rw [List.getElem?_append_left (by omega)] at hv
     exact h3 j v hv
    ·rw [List.getElem?_append_right (by omega),hfl] at hv
     have hj2:=AR hv
     have:=hat (j - m*s.size) (by omega)
     rw [hv,add_add,show m*s.size+(j - m*s.size)=j by omega] at this
     exact this
  obtain ⟨cells,xs,h1,h2,h3⟩:=step len (Nat.le_refl _)
  have hwt:(elems.length+rest.length)*P.bytesOf e<=140737488351232:=hw _ (by simp [DataW.weights,ht])
  refine ⟨xs,.cons ?_ .nil⟩
  subst h2
  refine .fz (by omega) hc ?_ h1 ?_
  ·rw [hB] at hwt
   have:xs.length*s.bytes<=(elems.length+rest.length)*s.bytes:=Nat.mul_le_mul_right _ (by omega)
   omega
  ·by_cases h0:xs.length=0
   ·left; exact List.eq_nil_of_length_eq_zero h0
   ·right
    refine ⟨a,rfl,Hf ?_,h3⟩
    have:MemPlace.cell a.block (a.off+0) ∈ MemPlace.row a ((elems.length+rest.length)*s.size):=MemPlace.mem_row.2 ⟨0,Nat.mul_pos (by omega) hp,rfl⟩
    exact hlt _ (List.mem_append_left _ this)
theorem fy.nil {o:Nat}:fy P shp [] o []:=fun H enc w fuel cs xs hl _ _ _ _=>⟨[],rfl,by rw [List.drop_eq_nil_of_le (by simp only [HR] at hl; omega)]; exact .nil⟩
theorem fy.cons {f:Go.Field} {fs:List Go.Field} {o:Nat} {s:Sh} {ss:List Sh} (h:Tr P shp f.type s) (ho:f.offset=o) (hC:P.cellsOf f.type=s.size) (hr:fy P shp fs (o+s.size) ss):fy P shp (f :: fs) o (s :: ss):=fun H enc w fuel cs xs hl hx hf hw hlt=>by
 match xs,hx with
 | x :: xs,hx=>
  have hl':cs.length=o+(s.size+HR ss):=hl
  have h1:=hf 0 f rfl
  rw [ho,hC] at h1
  obtain ⟨y,hy⟩:=h H enc w fuel _ x h1 (fun n hn=>hw n (by simp [DataW.weightsEach,hn])) (fun q hq=>hlt q (by simp [hq]))
  obtain ⟨z,hz1,hz2⟩:=hr H enc w fuel cs xs (by omega) (by simpa using hx) (fun i f' hi=>by simpa using hf (i+1) f' (by simpa using hi)) (fun n hn=>hw n (by simp only [List.map_cons,DataW.weightsEach,List.mem_append]; exact .inr hn)) (fun q hq=>hlt q (by simp only [List.flatMap_cons,List.mem_append]; exact .inr hq))
  refine ⟨cellsOf s y++z,⟨y,z,rfl,hz1⟩,?_⟩
  have:=hy.append hz2
  rwa [<- List.drop_drop,List.take_append_drop] at this
theorem Tr.struct {s:Sh} {ss:List Sh} {fs:Array Go.Field} (ht:P.underlying t=some (.struct fs)) (hC:P.cellsOf t=HR ss) (hs:∀ asx,GF ss asx->∃ y:den s,asx=cellsOf s y) (h:fy P shp fs.toList 0 ss):Tr P shp t s:=fun H enc w fuel cs x hx hw hlt=>by
 obtain ⟨xs,n,_,rfl,hl,hxl,hf⟩:=DataW.trod_struct ht hx
 obtain ⟨asx,h1,h2⟩:=h H enc w n cs xs (by omega) (by simpa using hxl) (fun i f hi=>hf i f (by simpa using hi)) (fun k hk=>hw k (by simpa [DataW.weights,ht] using hk)) hlt
 obtain ⟨y,rfl⟩:=hs asx h1
 exact ⟨y,by simpa using h2⟩
end
section
variable {H:Type} {enc:TypeId × Value->H} {P:Program} {shp:TypeId->Option Sh}
structure Ar (enc:TypeId × Value->H) (P:Program) (W:World) (t:TypeId) (v:Value):Prop where
 form:∃ base,Value.okWide P W .any base t v
 read:∃ d p fuel,DataW.trod enc P W 0 (fun _=>true) true fuel t v.cells.toList=some (d,p)/\(∀ n ∈ d.weights P t,n<=140737488351232)/\(∀ q ∈ p,q.block<W.heap.size)
variable {W:World} {t:TypeId} {v:Value}
theorem Ar.rp {s:Sh} (h:Ar enc P W t v) (ht:Tr P shp t s):∃ y:den s,Pds (wJ shp W) (cellsOf s y) v.cells.toList:=by
 obtain ⟨d,p,fuel,h1,h2,h3⟩:=h.read
 exact ht H enc W fuel _ _ h1 h2 h3
theorem zE {a:AV} {u:Value} (h:Pds (wJ shp W) [a] [u]):cC (wJ shp W) [] (.c a) u:=by cases h with | cons h1 _=>exact fV h1
theorem Ar.int (h:Ar enc P W t v) (ht:P.underlying t=some (.int .i64)):∃ y:Int,cC (wJ shp W) [] (.c (.int y)) v:=by
 obtain ⟨base,hf⟩:=h.form
 obtain ⟨n,rfl⟩:=okWide_int ht hf
 obtain ⟨y,h1⟩:=h.rp (shp:=shp) (Tr.int ht)
 exact ⟨y,zE (by simpa [Value.cells,cellsOf] using h1)⟩
theorem Ar.u8 (h:Ar enc P W t v) (ht:P.underlying t=some (.int .u8)):∃ y:UInt8,cC (wJ shp W) [] (.c (.u8 y)) v:=by
 obtain ⟨base,hf⟩:=h.form
 obtain ⟨n,rfl⟩:=okWide_int ht hf
 obtain ⟨y,h1⟩:=h.rp (shp:=shp) (Tr.u8 ht)
 exact ⟨y,zE (by simpa [Value.cells,cellsOf] using h1)⟩
theorem Ar.bool (h:Ar enc P W t v) (ht:P.underlying t=some .bool):∃ y:Bool,cC (wJ shp W) [] (.c (.bool (.atom y))) v:=by
 obtain ⟨base,hf⟩:=h.form
 obtain ⟨b,rfl⟩:=okWide_bool ht hf
 exact ⟨b,Pd.bool (e:=.atom b)⟩
theorem Ar.struct {s:Sh} {fs:Array Go.Field} (h:Ar enc P W t v) (hu:P.underlying t=some (.struct fs)) (ht:Tr P shp t s):∃ x:den s,cC (wJ shp W) [] (.agg (cellsOf s x)) v:=by
 obtain ⟨base,hf⟩:=h.form
 obtain ⟨cs,rfl,_⟩:=okWide_struct hu hf
 obtain ⟨y,h1⟩:=h.rp ht
 exact ⟨y,cs.toList,by simp,dP (by simpa [Value.cells] using h1)⟩
theorem DK {f:Nat} {args:List TV1} {pre:List Prop} {e:BE} {vs:List Value} (h:Sat P shp f args [] ⟨pre,[.c (.bool e)],none,false⟩) (he:e.val=true) (hv:All2 (cC (wJ shp W) []) args vs):gU P f vs.toArray W fun r W'=>r = .bool true/\Kp [] W W':=by
 refine (h.2 ⟨shp,W.heap.size,fun _=>False⟩ [] W vs rfl ⟨.nil,fun _ _ _ _ _ h=>by simp at h,fun _ _ _ h=>by simp at h,fun _ h=>h.elim,Nat.le_refl _⟩ hv).mono fun v w' ⟨us,h1,h2,h3⟩=>⟨?_,h2⟩
 cases h3 with | cons h4 h5=>
 cases h5
 have h4:Pd _ (.bool e) _:=h4
 cases h4
 rw [h1,he]; rfl
theorem Ei {base:Nat} {ts:List TypeId} {args:Array Value} {ds:List (DataW H)} {p:List MemPlace} (hf:∀ (j:Nat) t v,ts[j]? = some t->args[j]? = some v->Value.okWide P W .any base t v)
  (h:DataW.TrodAll enc P W 0 (fun _=>true) true ts args.toList ds p) (hw:∀ n ∈ DataW.weightsEach P ts ds,n<=140737488351232) (hlt:∀ q ∈ p,q.block<W.heap.size) :
  args.size=ts.length/\∀ (j:Nat) t v,ts[j]? = some t->args[j]? = some v->Ar enc P W t v:=by
 have key:∀ (ts:List TypeId) (vs:List Value) (ds:List (DataW H)) (p:List MemPlace),DataW.TrodAll enc P W 0 (fun _=>true) true ts vs ds p->(∀ n ∈ DataW.weightsEach P ts ds,n<=140737488351232)->(∀ q ∈ p,q.block<W.heap.size) ->
   vs.length=ts.length/\∀ (j:Nat) t v,ts[j]? = some t->vs[j]? = some v->∃ d p fuel,DataW.trod enc P W 0 (fun _=>true) true fuel t v.cells.toList=some (d,p)/\(∀ n ∈ d.weights P t,n<=140737488351232)/\(∀ q ∈ p,q.block<W.heap.size):=by
  intro ts
  induction ts with
  | nil=>intro vs ds p h _ _; obtain ⟨rfl,_,_⟩:=trodAll_nil h; exact ⟨rfl,fun j t v h=>by simp at h⟩
  | cons t ts ih=>
   intro vs ds p h hw hlt
   obtain ⟨v,vs,d,ds,p1,p2,rfl,rfl,rfl,h1,h2⟩:=trodAll_cons h
   obtain ⟨k1,k2⟩:=ih vs ds p2 h2 (fun n hn=>hw n (by rw [DataW.weightsEach,List.mem_append]; exact .inr hn)) (fun q hq=>hlt q (List.mem_append_right _ hq))
   refine ⟨by simp [k1],fun j t' v' ht hv=>?_⟩
   cases j with
   | zero=>
    simp at ht hv
    subst ht; subst hv
    obtain ⟨fuel,hf⟩:=h1
    exact ⟨d,p1,fuel,hf,fun n hn=>hw n (by rw [DataW.weightsEach,List.mem_append]; exact .inl hn),fun q hq=>hlt q (List.mem_append_left _ hq)⟩
   | succ j=>exact k2 j t' v' (by simpa using ht) (by simpa using hv)
 obtain ⟨k1,k2⟩:=key ts args.toList ds p h hw hlt
 exact ⟨by simpa using k1,fun j t v ht hv=>⟨⟨base,hf j t v ht hv⟩,k2 j t v ht (by simpa using hv)⟩⟩
theorem xo (hl:laidOutB P=true) {W':World} (hb:Below W.heap.size W W'):∀ (ts:List TypeId) (vs:List Value) (ds:List (DataW H)) (p:List MemPlace),ts.all (fun t=>P.readableRec t && decide (t<P.types.size))=true->DataW.TrodAll enc P W 0 (fun _=>true) true ts vs ds p->(∀ q ∈ p,q.block<W.heap.size) ->
  DataW.TrodAll enc P W' 0 (fun b=>decide (b<W.heap.size)) true ts vs ds p:=by
 intro ts
 induction ts with
 | nil=>intro vs ds p _ h _; obtain ⟨rfl,rfl,rfl⟩:=trodAll_nil h; rfl
 | cons t ts ih=>
  intro vs ds p hr h hlt
  obtain ⟨v,vs,d,ds,p1,p2,rfl,rfl,rfl,h1,h2⟩:=trodAll_cons h
  rw [List.all_cons,Bool.and_eq_true,Bool.and_eq_true,decide_eq_true_eq] at hr
  exact ⟨p1,p2,Below.trod hl hr.1.1 hr.1.2 h1 hb fun q hq=>hlt q (List.mem_append_left _ hq),ih vs ds p2 hr.2 h2 fun q hq=>hlt q (List.mem_append_right _ hq),rfl⟩
theorem AS {fn:Func} {s:ChangeSpec} {tb:TypeId} {W':World} {args:Array Value} {ds:List (DataW H)} {p:List MemPlace} (hl:laidOutB P=true)
  (hrow:fn.params.toList.all (fun t=>P.readableRec t && decide (t<P.types.size))=true) (hr:fn.resultTypes = #[tb]) (hb:P.underlying tb=some .bool) (hv:s.vars=[])
  (hs:s.fn H (ds++[])={ results:=[.lit (.bool true)],args:=ds }) (hW:DataW.Whole enc P fn.params.toList s.vars false W args.toList ds [] p) (hA:DataW.TrodAll enc P W 0 (fun _=>true) true fn.params.toList args.toList ds p) (hlt:∀ q ∈ p,q.block<W.heap.size) (hk:Kp [] W W') :
  s.post enc P fn false true false false W args (.bool true) W':=by
 refine ⟨ds,[],p,[],p,[],hW,?_,?_,?_,hk.below.frame _,fun h=>by cases h⟩
 ·rw [hs,hr]
  exact trodAll_mk1 ⟨1,by simp [DataW.trod,Value.cells,hb]⟩
 ·rw [hs]
  exact xo hl hk.below _ _ _ _ hrow hA hlt
 ·rw [hs,hv]; rfl
theorem AK {C:Checked} {os:Os} {f:FuncId} {fn:Func} {s:ChangeSpec} {conds:List PathCond} {tb:TypeId} (own:ownKnob C.prog.godebug=none) (started:os.Started) (noInit:C.prog.inits.idxOf? f=none) (hfn:C.prog.funcs[f]? = some fn)
  (witness:∃ (w:World) (tape:Tape) (i:Input),w.os=os/\(w.forCall tape i).Shaped C.prog/\i.vars=[]/\Input.okWide C.prog (w.forCall tape i) .any w.heap.size f i /\
   s.pre6 enc C.prog fn conds false (w.forCall tape i).memory i.args/\({}:Assume).holds C.prog (lone (Frame.enter C.prog f i.args .normal) [] (w.forCall tape i)))
  (hl:laidOutB C.prog=true) (hrow:fn.params.toList.all (fun t=>C.prog.readableRec t && decide (t<C.prog.types.size))=true) (hr:fn.resultTypes = #[tb]) (hb:C.prog.underlying tb=some .bool) (hv:s.vars=[])
  (hs:∀ ds:List (DataW H),ds.length=fn.params.size->s.fn H ds={ results:=[.lit (.bool true)],args:=ds })
  (law:∀ (W:World) (args:Array Value),args.size=fn.params.toList.length->(∀ (j:Nat) t v,fn.params.toList[j]? = some t->args[j]? = some v->Ar enc C.prog W t v)->gU C.prog f args W fun r W'=>r = .bool true/\Kp [] W W') :
  ReturnsInHanded {} C os f .any (s.pre6 enc C.prog fn conds false) (s.post enc C.prog fn false true false false):=by
 refine returnsInHanded_of_change_sized own started noInit hfn witness ?_
 intro W base args ds gs before hval hW _ hsz _
 have hW0:=hW
 obtain ⟨p,q,hA,hV,rfl,_,_⟩:=hW
 rw [hv] at hV
 obtain ⟨rfl,rfl⟩:=trodVars_none hV
 simp only [List.append_nil] at hW0 hsz
 have hlt:∀ x ∈ p,x.block<W.heap.size:=fun x hx=>by simpa using hW0.lt x hx
 have hwt:∀ n ∈ DataW.weightsEach C.prog fn.params.toList ds,n<=140737488351232:=fun n hn=>by
  have hmem:n ∈ DataW.weightsEach C.prog (fn.params.toList++s.plain.varTypes C.prog) ds:=by
   have:∀ (ts us:List TypeId) (ds:List (DataW H)),n ∈ DataW.weightsEach C.prog ts ds->n ∈ DataW.weightsEach C.prog (ts++us) ds:=by
    intro ts
    induction ts with
    | nil=>intro us ds h; simp [DataW.weightsEach] at h
    | cons t ts ih=>
     intro us ds h
     cases ds with
     | nil=>simp [DataW.weightsEach] at h
     | cons d ds=>
      rw [DataW.weightsEach,List.mem_append] at h
      rw [List.cons_append,DataW.weightsEach,List.mem_append]
      exact h.imp id (ih us ds)
   exact this _ _ _ hn
  exact of_decide_eq_true (List.all_eq_true.1 hsz n hmem)
 obtain ⟨hsize,har⟩:=Ei (fun j t v ht hv=>hval j t v (by simpa using ht) hv) hA hwt hlt
 have hdl:ds.length=fn.params.size:=by
  have:∀ (ts:List TypeId) (vs:List Value) (ds:List (DataW H)) (p:List MemPlace),DataW.TrodAll enc C.prog W 0 (fun _=>true) true ts vs ds p->ds.length=ts.length:=by
   intro ts
   induction ts with
   | nil=>intro vs ds p h; obtain ⟨_,rfl,_⟩:=trodAll_nil h; rfl
   | cons t ts ih=>intro vs ds p h; obtain ⟨v,vs,d,ds,p1,p2,rfl,rfl,rfl,_,h2⟩:=trodAll_cons h; simp [ih vs ds p2 h2]
  simpa using this _ _ _ _ hA
 refine Calls.mono (law W args hsize har) fun e W' ⟨v,he,hv',hk⟩=>⟨v,he,?_⟩
 subst hv'
 exact AS hl hrow hr hb hv (by rw [List.append_nil]; exact hs ds hdl) hW0 hA hlt hk
end
end Go.Proofs.YtdggohppeeaipaaGreat
namespace Go.Proofs.YtdggohppeeaipaaGreat
open Go.RowKit Go.ChangeShapes Go.WideShapes
theorem BD:ownKnob Tryz.prog.godebug=none:=by kernel_rfl
theorem Bf:laidOutB Tryz.prog=true:=by kernel_rfl
theorem Kb:Tr Tryz.prog (av aE) 59 (.nm .snap):=Tr.struct (ss:=[.int,.int,(.lst .int),.bool,.str]) Tryz.underlying59 (by kernel_rfl) (fun cells h=>by
 obtain ⟨y0,l0,rfl,y1,l1,rfl,y2,l2,rfl,y3,l3,rfl,y4,l4,rfl,rfl⟩:=h
 exact ⟨⟨y0,y1,y2,y3,y4⟩,rfl⟩) (fy.cons (Tr.int Tryz.underlying3) rfl (by kernel_rfl) (fy.cons (Tr.int Tryz.underlying3) rfl (by kernel_rfl) (fy.cons (Tr.list Tryz.underlying27 (by kernel_rfl) (by kernel_rfl) (Tr.int Tryz.underlying3)) rfl (by kernel_rfl) (fy.cons (Tr.bool Tryz.underlying4) rfl (by kernel_rfl) (fy.cons (Tr.str Tryz.underlying9) rfl (by kernel_rfl) (fy.nil))))))
theorem Kw:Tr Tryz.prog (av aE) 77 (.nm .opn):=Tr.struct (ss:=[.int,.int]) Tryz.underlying77 (by kernel_rfl) (fun cells h=>by
 obtain ⟨y0,l0,rfl,y1,l1,rfl,rfl⟩:=h
 exact ⟨⟨y0,y1⟩,rfl⟩) (fy.cons (Tr.int Tryz.underlying3) rfl (by kernel_rfl) (fy.cons (Tr.int Tryz.underlying3) rfl (by kernel_rfl) (fy.nil)))
theorem JM:Tr Tryz.prog (av aE) 35 (.nm .reply):=Tr.struct (ss:=[.int,.int]) Tryz.underlying35 (by kernel_rfl) (fun cells h=>by
 obtain ⟨y0,l0,rfl,y1,l1,rfl,rfl⟩:=h
 exact ⟨⟨y0,y1⟩,rfl⟩) (fy.cons (Tr.int Tryz.underlying33) rfl (by kernel_rfl) (fy.cons (Tr.int Tryz.underlying3) rfl (by kernel_rfl) (fy.nil)))
theorem Ks:Tr Tryz.prog (av aE) 44 (.nm .sess):=Tr.struct (ss:=[.int,.int,(.nm .reply)]) Tryz.underlying44 (by kernel_rfl) (fun cells h=>by
 obtain ⟨y0,l0,rfl,y1,l1,rfl,y2,l2,rfl,rfl⟩:=h
 exact ⟨⟨y0,y1,y2⟩,rfl⟩) (fy.cons (Tr.int Tryz.underlying3) rfl (by kernel_rfl) (fy.cons (Tr.int Tryz.underlying3) rfl (by kernel_rfl) (fy.cons (JM) rfl (by kernel_rfl) (fy.nil))))
theorem Kd:Tr Tryz.prog (av aE) 26 (.nm .state):=Tr.struct (ss:=[.int,.int,.int,.int,(.lst (.nm .sess)),(.lst (.nm .opn)),(.lst (.nm .snap))]) Tryz.underlying26 (by kernel_rfl) (fun cells h=>by
 obtain ⟨y0,l0,rfl,y1,l1,rfl,y2,l2,rfl,y3,l3,rfl,y4,l4,rfl,y5,l5,rfl,y6,l6,rfl,rfl⟩:=h
 exact ⟨⟨y0,y1,y2,y3,y4,y5,y6⟩,rfl⟩) (fy.cons (Tr.int Tryz.underlying3) rfl (by kernel_rfl) (fy.cons (Tr.int Tryz.underlying3) rfl (by kernel_rfl) (fy.cons (Tr.int Tryz.underlying3) rfl (by kernel_rfl) (fy.cons (Tr.int Tryz.underlying3) rfl (by kernel_rfl) (fy.cons (Tr.list Tryz.underlying22 (by kernel_rfl) (by kernel_rfl) (Ks)) rfl (by kernel_rfl) (fy.cons (Tr.list Tryz.underlying23 (by kernel_rfl) (by kernel_rfl) (Kw)) rfl (by kernel_rfl) (fy.cons (Tr.list Tryz.underlying24 (by kernel_rfl) (by kernel_rfl) (Kb)) rfl (by kernel_rfl) (fy.nil))))))))
theorem KK:Tr Tryz.prog (av aE) 29 (.nm .command):=Tr.struct (ss:=[.int,.int,.int,.int,.int,.int,(.lst .int),.str]) Tryz.underlying29 (by kernel_rfl) (fun cells h=>by
 obtain ⟨y0,l0,rfl,y1,l1,rfl,y2,l2,rfl,y3,l3,rfl,y4,l4,rfl,y5,l5,rfl,y6,l6,rfl,y7,l7,rfl,rfl⟩:=h
 exact ⟨⟨y0,y1,y2,y3,y4,y5,y6,y7⟩,rfl⟩) (fy.cons (Tr.int Tryz.underlying3) rfl (by kernel_rfl) (fy.cons (Tr.int Tryz.underlying3) rfl (by kernel_rfl) (fy.cons (Tr.int Tryz.underlying3) rfl (by kernel_rfl) (fy.cons (Tr.int Tryz.underlying3) rfl (by kernel_rfl) (fy.cons (Tr.int Tryz.underlying3) rfl (by kernel_rfl) (fy.cons (Tr.int Tryz.underlying3) rfl (by kernel_rfl) (fy.cons (Tr.list Tryz.underlying27 (by kernel_rfl) (by kernel_rfl) (Tr.int Tryz.underlying3)) rfl (by kernel_rfl) (fy.cons (Tr.str Tryz.underlying9) rfl (by kernel_rfl) (fy.nil)))))))))
set_option maxRecDepth 100000 in
theorem ml (os:Os) (started:os.Started) (H:Type) (enc:TypeId × Value->H) :
  ReturnsInHanded {} Tryz.checked os 3 .any (Rows.applyDoesSpec.pre6 enc Tryz.prog Tryz.f3 Rows.applyDoesRow.domain false) (Rows.applyDoesSpec.post enc Tryz.prog Tryz.f3 false true false false):=by
 refine AK (C:=Tryz.checked) BD started (by kernel_rfl) Tryz.func3 (ChangeSpec.witness6 (enc:=enc) (C:=Tryz.checked) false ⟨#[],#[.agg #[.int .i64 0,.int .i64 0,.int .i64 0,.int .i64 0,.slice none 0 0,.slice none 0 0,.slice none 0 0],.agg #[.int .i64 0,.int .i64 0,.int .i64 0,.int .i64 0,.int .i64 0,.int .i64 0,.slice none 0 0,.string ⟨#[]⟩]],[]⟩ 8 (by kernel_rfl) (by kernel_rfl) (by kernel_rfl) (by kernel_rfl)) Bf (by kernel_rfl) (by kernel_rfl) Tryz.underlying4 rfl (fun ds h=>?_) ?_
 ·match ds,h with
  | [d0,d1],_=>rfl
 ·intro W args hs ha
  obtain ⟨l⟩:=args
  match l,hs with
  | [v0,v1],_=>
   obtain ⟨x0,h0⟩:=Ar.struct (shp:=av aE) (ha 0 26 _ rfl rfl) Tryz.underlying26 Kd
   obtain ⟨x1,h1⟩:=Ar.struct (shp:=av aE) (ha 1 29 _ rfl rfl) Tryz.underlying29 KK
   exact DK (Ff x0 x1) rfl (.cons h0 (.cons h1 .nil))
theorem applyDoes_holds:Rows.ApplyDoesSaid:=
 OpenClaim.holds_of_wide 3 Tryz.f3 rfl rfl rfl rfl rfl rfl rfl ⟨rfl,rfl,rfl,rfl,rfl⟩ rfl rfl rfl rfl rfl (by kernel_rfl) Tryz.func3 (by kernel_rfl)
  (of_decide_eq_true (by kernel_rfl)) (by unfold Func.isWrapper; first | (rw [if_pos (by decide +kernel)]; kernel_rfl) | (rw [if_neg (by decide +kernel)]; exact ⟨rfl,rfl⟩))
  (fun os started H enc _=>ml os started H enc)
end Go.Proofs.YtdggohppeeaipaaGreat
