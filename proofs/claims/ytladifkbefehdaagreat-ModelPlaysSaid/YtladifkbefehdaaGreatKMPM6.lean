/- What leads to the law, part 6. Conditions: each lemma's own. -/
import Derived.Test.YtladifkbefehdaaGreatKMPM5
set_option linter.unusedVariables false
set_option linter.unusedSimpArgs false
namespace Go.Proofs.YtladifkbefehdaaGreat
open Go.RowKit
def cc (s:State) (c:Command):State × Reply:=
 if ao Sess.client c.client s.sess<0 then (s,⟨11,0⟩)
 else if c.seq=(s.sess.getD (ao Sess.client c.client s.sess).toNat (dflt (.nm .sess))).seq then (s,(s.sess.getD (ao Sess.client c.client s.sess).toNat (dflt (.nm .sess))).last)
 else if c.seq<(s.sess.getD (ao Sess.client c.client s.sess).toNat (dflt (.nm .sess))).seq then (s,⟨13,0⟩)
 else if (s.sess.getD (ao Sess.client c.client s.sess).toNat (dflt (.nm .sess))).seq+1<c.seq then (s,⟨14,0⟩)
 else ({ (bA s c).1 with sess:=(bA s c).1.sess.set (ao Sess.client c.client s.sess).toNat { (bA s c).1.sess.getD (ao Sess.client c.client s.sess).toNat (dflt (.nm .sess)) with seq:=c.seq,last:=(bA s c).2 } },(bA s c).2)
def dP (s:State) (c:Command):State × Reply:=
 if ¬ dK s c=0 then (s,⟨dK s c,0⟩)
 else if c.kind=8 then (if ¬ c.n=s.version+1 then (s,⟨1,0⟩) else ({ s with version:=c.n },⟨0,c.n⟩))
 else if c.kind=1 then (if 0<=ao Sess.client c.client s.sess then (s,⟨12,0⟩) else ({ s with sess:=nL s.sess (s.sess.takeWhile fun y=>decide (y.client<c.client)).length ⟨c.client,0,⟨0,0⟩⟩ },⟨0,0⟩))
 else cc s c
theorem Mx {Q:State × Reply->Prop} {s:State} {c:Command} (h0:∀ e:Int,¬ e=0->Q (s,⟨e,0⟩))
  (hs:∀ f:State->Nat->State × Reply,dK s c=0->(f=dD c\/(∃ b,f=bV b)\/f=bI\/f=aX)->Q (aD f c s))
  (hq:dK s c=0->Q (du c s)) (hk:dK s c=0->Q (ee c s)) (ha:dK s c=0->Q (bB s c)) (hc:dK s c=0->Q (bf s c)) (hb:dK s c=0->Q (bt s c)):Q (bA s c):=by
 unfold bA
 split
 ·exact h0 _ (by assumption)
 ·rename_i h
  have h:dK s c=0:=Classical.not_not.1 h
  unfold nA
  split
  ·exact hs _ h (.inl rfl)
  split
  ·exact hs _ h (.inr (.inl ⟨_,rfl⟩))
  split
  ·exact hs _ h (.inr (.inl ⟨_,rfl⟩))
  split
  ·exact hs _ h (.inr (.inr (.inl rfl)))
  split
  ·exact hs _ h (.inr (.inr (.inr rfl)))
  split
  ·exact hq h
  split
  ·exact hk h
  split
  ·exact ha h
  split
  ·exact hc h
  split
  ·exact hb h
  ·exact h0 1 (by decide)
theorem Bv {Q:State × Reply->Prop} {f:State->Nat->State × Reply} {s:State} {c:Command} (h0:∀ e:Int,¬ e=0->Q (s,⟨e,0⟩)) (h:∀ n:Nat,(n:Int)=ao Snap.id c.id s.snaps->Q (f s n)):Q (aD f c s):=by
 unfold aD
 split
 ·exact h0 15 (by decide)
 ·exact h _ aG
theorem jL {s:State} {c:Command}:(bA s c).1.sess=s.sess:=by
 refine Mx (Q:=fun r=>r.1.sess=s.sess) (fun _ _=>rfl) (fun f _ hf=>?_) (fun _=>rfl) (fun _=>rfl) (fun _=>?_) (fun _=>?_) (fun _=>?_)
 ·refine Bv (Q:=fun r=>r.1.sess=s.sess) (fun _ _=>rfl) fun n _=>?_
  rcases hf with rfl | ⟨b,rfl⟩ | rfl | rfl
  ·rfl
  ·unfold bV; split <;> rfl
  ·rfl
  ·unfold aX; split; rfl; split <;> rfl
 ·unfold bB; split <;> rfl
 ·unfold bf; split; rfl; split; rfl; split <;> rfl
 ·unfold bt; split <;> rfl
theorem wS {l:List Sess} {k:Nat} {q:Int} {R:Reply} (h:k<l.length):(l.set k (Sess.mk (l.getD k (dflt (.nm .sess))).client q (l.getD k (dflt (.nm .sess))).last)).set k (Sess.mk ((l.set k (Sess.mk (l.getD k (dflt (.nm .sess))).client q (l.getD k (dflt (.nm .sess))).last)).getD k (dflt (.nm .sess))).client ((l.set k (Sess.mk (l.getD k (dflt (.nm .sess))).client q (l.getD k (dflt (.nm .sess))).last)).getD k (dflt (.nm .sess))).seq R)=l.set k { l.getD k (dflt (.nm .sess)) with seq:=q,last:=R }:=by
 have e:∀ x:Sess,(l.set k x).getD k (dflt (.nm .sess))=x:=fun x=>by
  rw [List.getD_eq_getElem?_getD,List.getElem?_set_self h]; rfl
 rw [e,List.set_set]
section
variable {v nx kp qt:Int} {se:List Sess} {op:List Opn} {sn:List Snap} {c:Command}
theorem as1 (h:ao Sess.client c.client se<0):cc (State.mk v nx kp qt se op sn) c=(State.mk v nx kp qt se op sn,⟨11,0⟩):=by
 simp only [cc,if_pos h]
theorem as2 (h:0<=ao Sess.client c.client se) (e:c.seq=(se.getD (ao Sess.client c.client se).toNat (dflt (.nm .sess))).seq):cc (State.mk v nx kp qt se op sn) c=(State.mk v nx kp qt se op sn,(se.getD (ao Sess.client c.client se).toNat (dflt (.nm .sess))).last):=by
 have h1:¬ ao Sess.client c.client se<0:=by omega
 simp only [cc,if_neg h1,if_pos e]
theorem as3 (h:0<=ao Sess.client c.client se) (e:¬ c.seq=(se.getD (ao Sess.client c.client se).toNat (dflt (.nm .sess))).seq) (l:c.seq<(se.getD (ao Sess.client c.client se).toNat (dflt (.nm .sess))).seq):cc (State.mk v nx kp qt se op sn) c=(State.mk v nx kp qt se op sn,⟨13,0⟩):=by
 have h1:¬ ao Sess.client c.client se<0:=by omega
 simp only [cc,if_neg h1,if_neg e,if_pos l]
theorem as4 (h:0<=ao Sess.client c.client se) (e:¬ c.seq=(se.getD (ao Sess.client c.client se).toNat (dflt (.nm .sess))).seq) (l:(se.getD (ao Sess.client c.client se).toNat (dflt (.nm .sess))).seq<=c.seq) (g:(se.getD (ao Sess.client c.client se).toNat (dflt (.nm .sess))).seq+1<c.seq):cc (State.mk v nx kp qt se op sn) c=(State.mk v nx kp qt se op sn,⟨14,0⟩):=by
 have h1:¬ ao Sess.client c.client se<0:=by omega
 have h2:¬ c.seq<(se.getD (ao Sess.client c.client se).toNat (dflt (.nm .sess))).seq:=by omega
 simp only [cc,if_neg h1,if_neg e,if_neg h2,if_pos g]
theorem as5 (h:0<=ao Sess.client c.client se) (e:¬ c.seq=(se.getD (ao Sess.client c.client se).toNat (dflt (.nm .sess))).seq) (l:(se.getD (ao Sess.client c.client se).toNat (dflt (.nm .sess))).seq<=c.seq) (g:c.seq<=(se.getD (ao Sess.client c.client se).toNat (dflt (.nm .sess))).seq+1):cc (State.mk v nx kp qt se op sn) c=({ (bA (State.mk v nx kp qt se op sn) c).1 with sess:=(bA (State.mk v nx kp qt se op sn) c).1.sess.set (ao Sess.client c.client se).toNat { (bA (State.mk v nx kp qt se op sn) c).1.sess.getD (ao Sess.client c.client se).toNat (dflt (.nm .sess)) with seq:=c.seq,last:=(bA (State.mk v nx kp qt se op sn) c).2 } },(bA (State.mk v nx kp qt se op sn) c).2):=by
 have h1:¬ ao Sess.client c.client se<0:=by omega
 have h2:¬ c.seq<(se.getD (ao Sess.client c.client se).toNat (dflt (.nm .sess))).seq:=by omega
 have h3:¬ (se.getD (ao Sess.client c.client se).toNat (dflt (.nm .sess))).seq+1<c.seq:=by omega
 simp only [cc,if_neg h1,if_neg e,if_neg h2,if_neg h3]
theorem Gr (h:0<=ao Sess.client c.client se):ao Sess.client c.client se<((bA (State.mk v nx kp qt se op sn) c).1.sess.length:Int):=by rw [jL]; exact cJ h
theorem tZ (h:0<=ao Sess.client c.client se):(ao Sess.client c.client se).toNat<(bA (State.mk v nx kp qt se op sn) c).1.sess.length:=by have:=Gr (v:=v) (nx:=nx) (kp:=kp) (qt:=qt) (op:=op) (sn:=sn) h; omega
theorem VB {x:Sess} (h:0<=ao Sess.client c.client se):ao Sess.client c.client se<(((bA (State.mk v nx kp qt se op sn) c).1.sess.set (ao Sess.client c.client se).toNat x).length:Int):=by rw [List.length_set]; exact Gr h
theorem Vb (h:dK (State.mk v nx kp qt se op sn) c=0) (h0:0<=ao Sess.client c.client se):I64 ((se.getD (ao Sess.client c.client se).toNat (dflt (.nm .sess))).seq+1):=by
 have h1:=(eA (wo h)).2.2.1
 simp only [lh,Bool.and_eq_true,List.all_eq_true] at h1
 have h2:=h1.2 _ (List.mem_of_getElem? (gd (d:=dflt (.nm .sess)) (k:=(ao Sess.client c.client se).toNat) (l:=se) (by have:=cJ h0; omega)))
 simp only [bn,Bool.and_eq_true] at h2
 have h3:=qk h2.1.1
 constructor <;> omega
end
theorem GQ (v:Int) (nx:Int) (kp:Int) (qt:Int) (c:Command) (se:List Sess) (op:List Opn) (sn:List Snap) (r0:Int) (r1:Int) (r2:Int) (r3:Int) (r4:Reply) (r5:List Sess) (r6:List Opn) (r7:List Snap):nE tyT Jx [] Tryz.f65 [.agg ([.int (v),.int (nx),.int (kp),.int (qt),.own 0,.own 1,.own 2]),.agg (cellsOf (.nm .command) c)] [.row 82 (.nm .sess) (se),.row 63 (.nm .opn) (op),.row 73 (.nm .snap) (sn)] [.agg ([.int (r0),.int (r1),.int (r2),.int (r3),.own 0,.own 1,.own 2]),.agg (cellsOf (.nm .reply) r4)] [.row 82 (.nm .sess) (r5),.row 63 (.nm .opn) (r6),.row 73 (.nm .snap) (r7)]=((fun (q7:Prop)=>(fun (q6:Int)=>(fun (q5:Int)=>(fun (q4:Prop)=>(fun (q3:den (Sh.nm NT.sess))=>(fun (q2:State × Reply)=>(fun (q1:Int)=>(fun (q0:den (Sh.nm NT.sess))=>I64 v->I64 nx->I64 kp->I64 qt->I64 c.kind->I64 c.client->I64 q6->I64 c.set->I64 c.id->I64 c.n->c.chunks.length*(8:Nat)<=(140737488355328:Nat)->c.text.b.length<=(140737488355328:Nat)->I64 q1->(q1<q5->I64 (11:Int)->I64 q5->v=r0/\nx=r1/\kp=r2/\qt=r3/\(11:Int)=r4.code/\q4)/\(q5<=q1->q5<=q1/\q1<(↑se.length:Int)/\(I64 (se.getD q1.toNat q3).client->I64 (se.getD q1.toNat q3).seq->I64 (se.getD q1.toNat q3).last.code->I64 (se.getD q1.toNat q3).last.n->(q6=(se.getD q1.toNat q3).seq->v=r0/\nx=r1/\kp=r2/\qt=r3/\(se.getD q1.toNat q3).last.code=r4.code/\(se.getD q1.toNat q3).last.n=r4.n/\q7)/\(¬q6=(se.getD q1.toNat q3).seq->(q6<(se.getD q1.toNat q3).seq->I64 (13:Int)->I64 q5->v=r0/\nx=r1/\kp=r2/\qt=r3/\(13:Int)=r4.code/\q4)/\((se.getD q1.toNat q3).seq<=q6->I64 ((se.getD q1.toNat q3).seq+(1:Int))/\((se.getD q1.toNat q3).seq+(1:Int)<q6->I64 (14:Int)->I64 q5->v=r0/\nx=r1/\kp=r2/\qt=r3/\(14:Int)=r4.code/\q4)/\(q6<=(se.getD q1.toNat q3).seq+(1:Int)->I64 q2.fst.version->I64 q2.fst.next->I64 q2.fst.keep->I64 q2.fst.quota->I64 q2.snd.code->I64 q2.snd.n->(q5<=q1/\q1<(↑q2.fst.sess.length:Int))/\(I64 q0.client->I64 q0.seq->I64 q0.last.code->I64 q0.last.n->q5<=q1/\q1<(↑(q2.fst.sess.set q1.toNat (Sess.mk q0.client q6 q0.last)).length:Int))/\(I64 q0.client->I64 q0.seq->I64 q0.last.code->I64 q0.last.n->I64 ((q2.fst.sess.set q1.toNat (Sess.mk q0.client q6 q0.last)).getD q1.toNat q3).client->I64 ((q2.fst.sess.set q1.toNat (Sess.mk q0.client q6 q0.last)).getD q1.toNat q3).seq->I64 ((q2.fst.sess.set q1.toNat (Sess.mk q0.client q6 q0.last)).getD q1.toNat q3).last.code->I64 ((q2.fst.sess.set q1.toNat (Sess.mk q0.client q6 q0.last)).getD q1.toNat q3).last.n->q2.fst.version=r0/\q2.fst.next=r1/\q2.fst.keep=r2/\q2.fst.quota=r3/\q2.snd.code=r4.code/\q2.snd.n=r4.n/\(q2.fst.sess.set q1.toNat (Sess.mk q0.client q6 q0.last)).set q1.toNat (Sess.mk ((q2.fst.sess.set q1.toNat (Sess.mk q0.client q6 q0.last)).getD q1.toNat q3).client ((q2.fst.sess.set q1.toNat (Sess.mk q0.client q6 q0.last)).getD q1.toNat q3).seq q2.snd)=r5/\q2.fst.opens=r6/\q2.fst.snaps=r7))))))) (q2.fst.sess.getD q1.toNat q3)) (ao Sess.client c.client se)) (bA (State.mk v nx kp qt se op sn) c)) (dflt (Sh.nm NT.sess))) (q5=r4.n/\q7)) (0:Int)) c.seq) (se=r5/\op=r6/\sn=r7)):=by kernel_rfl
theorem Em (v:Int) (nx:Int) (kp:Int) (qt:Int) (c:Command) (se:List Sess) (op:List Opn) (sn:List Snap) (h0:dK (State.mk v nx kp qt se op sn) c=0):Sat Tryz.prog (al tyT) 65 [.agg ([.int (v),.int (nx),.int (kp),.int (qt),.own 0,.own 1,.own 2]),.agg (cellsOf (.nm .command) c)] [.row 82 (.nm .sess) (se),.row 63 (.nm .opn) (op),.row 73 (.nm .snap) (sn)] ⟨[dK (State.mk v nx kp qt se op sn) c=0],[.agg ([.int (((cc (State.mk v nx kp qt se op sn) c).1.version)),.int (((cc (State.mk v nx kp qt se op sn) c).1.next)),.int (((cc (State.mk v nx kp qt se op sn) c).1.keep)),.int (((cc (State.mk v nx kp qt se op sn) c).1.quota)),.own 0,.own 1,.own 2]),.agg (cellsOf (.nm .reply) ((cc (State.mk v nx kp qt se op sn) c).2))],some ([.row 82 (.nm .sess) (((cc (State.mk v nx kp qt se op sn) c).1.sess)),.row 63 (.nm .opn) (((cc (State.mk v nx kp qt se op sn) c).1.opens)),.row 73 (.nm .snap) (((cc (State.mk v nx kp qt se op sn) c).1.snaps))]),false⟩:=by
 refine dI vu [] Tryz.func65 (by decide) (by kernel_rfl) ?_
 rw [GQ]
 (repeat' (first | with_reducible apply bu | with_reducible refine bw ?_ | intro))
 all_goals (first | exact bT | exact cJ ae | exact Gr ae | exact VB ae | exact Vb ae ae | (rw [as1] <;> first | rfl | with_reducible assumption | exact wS (tZ ae)) | (rw [as2] <;> first | rfl | with_reducible assumption | exact wS (tZ ae)) | (rw [as3] <;> first | rfl | with_reducible assumption | exact wS (tZ ae)) | (rw [as4] <;> first | rfl | with_reducible assumption | exact wS (tZ ae)) | (rw [as5] <;> first | rfl | with_reducible assumption | exact wS (tZ ae)))
def EP:cO:=(bq 65 (bm (ah (kG (aA cI (aA cI (aA cI (aA cI (aA (bF 0) (aA (bF 1) (aA (bF 2) cm)))))))) (ah (kT (.nm .command)) aH)) (aC (bE 82 (.nm .sess)) (aC (bE 63 (.nm .opn)) (aC (bE 73 (.nm .snap)) aI))) fun ((v,nx,kp,qt,_,_,_,_),c,_) (se,op,sn,_)=>⟨[dK (State.mk v nx kp qt se op sn) c=0],[.agg ([.int (((cc (State.mk v nx kp qt se op sn) c).1.version)),.int (((cc (State.mk v nx kp qt se op sn) c).1.next)),.int (((cc (State.mk v nx kp qt se op sn) c).1.keep)),.int (((cc (State.mk v nx kp qt se op sn) c).1.quota)),.own 0,.own 1,.own 2]),.agg (cellsOf (.nm .reply) ((cc (State.mk v nx kp qt se op sn) c).2))],some ([.row 82 (.nm .sess) (((cc (State.mk v nx kp qt se op sn) c).1.sess)),.row 63 (.nm .opn) (((cc (State.mk v nx kp qt se op sn) c).1.opens)),.row 73 (.nm .snap) (((cc (State.mk v nx kp qt se op sn) c).1.snaps))]),false⟩) Jx)
theorem wQ:aW Tryz.prog (al tyT) EP:=(au (av (ab (Vd (ag ay (ag ay (ag ay (ag ay (ag aF (ag aF (ag aF aM)))))))) (ab aZ ai)) (ak aE (ak aE (ak aE aj))) fun ((v,nx,kp,qt,_,_,_,_),c,_) (se,op,sn,_) hp=>Em v nx kp qt c se op sn (cY hp)) vu)
section
variable {s:State} {c:Command}
theorem Zf (h:(if mayF s s.version=0 then bc c s.version else 1)=0):dK s c=0:=h
theorem Wd (h:(if mayF s s.version=0 then bc c s.version else 1)=0):I64 (s.version+1):=by
 have h1:=(eA (wo h)).2.1
 simp only [ef,Bool.and_eq_true] at h1
 have:=qk h1.1.1.1
 constructor <;> omega
theorem doE (h:¬ (if mayF s s.version=0 then bc c s.version else 1)=0):dP s c=(s,⟨(if mayF s s.version=0 then bc c s.version else 1),0⟩):=by
 have h:¬ dK s c=0:=h
 rw [dP,if_pos h]; rfl
theorem TS (h:(if mayF s s.version=0 then bc c s.version else 1)=0):dP s c=if c.kind=8 then (if ¬ c.n=s.version+1 then (s,⟨1,0⟩) else ({ s with version:=c.n },⟨0,c.n⟩))
 else if c.kind=1 then (if 0<=ao Sess.client c.client s.sess then (s,⟨12,0⟩) else ({ s with sess:=nL s.sess (s.sess.takeWhile fun y=>decide (y.client<c.client)).length ⟨c.client,0,⟨0,0⟩⟩ },⟨0,0⟩))
 else cc s c:=by
 have h:¬ ¬ dK s c=0:=fun k=>k h
 rw [dP,if_neg h]
theorem VM (h:(if mayF s s.version=0 then bc c s.version else 1)=0) (k:c.kind=8) (n:¬ c.n=s.version+1):dP s c=(s,⟨1,0⟩):=by rw [TS h,if_pos k,if_pos n]
theorem Vo (h:(if mayF s s.version=0 then bc c s.version else 1)=0) (k:c.kind=8) (n:c.n=s.version+1):dP s c=({ s with version:=c.n },⟨0,c.n⟩):=by rw [TS h,if_pos k,if_neg (fun h=>h n)]
theorem Xg (h:(if mayF s s.version=0 then bc c s.version else 1)=0) (k:c.kind=1) (n:0<=ao Sess.client c.client s.sess):dP s c=(s,⟨12,0⟩):=by rw [TS h,if_neg (by omega),if_pos k,if_pos n]
theorem TH (h:(if mayF s s.version=0 then bc c s.version else 1)=0) (k:c.kind=1) (n:ao Sess.client c.client s.sess<0):dP s c=({ s with sess:=nL s.sess (s.sess.takeWhile fun y=>decide (y.client<c.client)).length ⟨c.client,0,⟨0,0⟩⟩ },⟨0,0⟩):=by rw [TS h,if_neg (by omega),if_pos k,if_neg (by omega)]
theorem Tc (h:(if mayF s s.version=0 then bc c s.version else 1)=0) (k:¬ c.kind=8) (n:¬ c.kind=1):dP s c=cc s c:=by rw [TS h,if_neg k,if_neg n]
theorem m_ {l:List Sess} {k:Nat} {x:Sess} (hs:k<=l.length) (ha:(l.take k).all (fun y=>decide (y.client<c.client))=true) (hb:(l.length:Int)<=k\/c.client<=(l.getD k (dflt (.nm .sess))).client):l.take k++[x]++l.drop k=nL l (l.takeWhile fun y=>decide (y.client<c.client)).length x:=by
 have:k=(l.takeWhile fun y=>decide (y.client<c.client)).length:=by
  refine Jf ha hs ?_
  by_cases hl:(l.length:Int)<=k
  ·exact .inl hl
  ·refine .inr ⟨by omega,_,gd (d:=dflt (.nm .sess)) (by omega),?_⟩
   rcases hb with hb | hb
   ·omega
   ·exact decide_eq_false aG
 rw [<- this]; simp [nL]
theorem Ve {l:List Sess} {k:Nat} (ha:(l.take k).all (fun y=>decide (y.client<c.client))=true) (h:(k:Int)<l.length) (hb:(l.getD k (dflt (.nm .sess))).client<c.client):(l.take (k+1)).all (fun y=>decide (y.client<c.client))=true:=by
 rw [ax (gd (d:=dflt (.nm .sess)) h),List.all_append,ha]; simp only [List.all_cons,List.all_nil,decide_eq_true hb]; rfl
end
def Ww (st:State) (c:Command):List (Nat × LI):=[(15,{ σ:=Nat,F:=fun k=>([(2,one (.ptr 0 0)),(3,one (.ptr 1 0)),(4,one (.ptr 2 0)),(5,one (.ptr 3 0)),(7,one (.int k))],[.box 43 ([.int ((st.version)),.int ((st.next)),.int ((st.keep)),.int ((st.quota)),.own 4,.own 5,.own 6]),.box 24 (cellsOf (.nm .command) ((c))),.box 43 ([.int ((0)),.int ((0)),.int ((0)),.int ((0)),.em true,.em true,.em true]),.box 56 ([.int ((0)),.int ((0))]),.row 82 (.nm .sess) ((st.sess)),.row 63 (.nm .opn) ((st.opens)),.row 73 (.nm .snap) ((st.snaps))]),J:=fun k=>k<=st.sess.length/\(st.sess.take k).all (fun y=>decide (y.client<c.client))=true,μ:=fun k=>st.sess.length - k })]
theorem UY (st:State) (c:Command) (r0:Int) (r1:Int) (r2:Int) (r3:Int) (r4:Reply) (r5:List Sess) (r6:List Opn) (r7:List Snap):gV tyT EP (Ww st c) Tryz.f34 [.agg (cellsOf (.nm .state) st),.agg (cellsOf (.nm .command) c)] [] [.agg ([.int (r0),.int (r1),.int (r2),.int (r3),.own 0,.own 1,.own 2]),.agg (cellsOf (.nm .reply) r4)] [.row 82 (.nm .sess) (r5),.row 63 (.nm .opn) (r6),.row 73 (.nm .snap) (r7)]=((fun (q12:Reply)=>(fun (q11:den (Sh.nm NT.sess))=>(fun (q10:Prop)=>(fun (q9:Prop)=>(fun (q8:Prop)=>(fun (q7:Int)=>(fun (q6:Int)=>(fun (q5:Prop)=>(fun (q4:State)=>(fun (q3:Int)=>(fun (q2:List Sess)=>(fun (q1:Int)=>(fun (q0:Prop)=>I64 q3->I64 st.next->I64 st.keep->I64 st.quota->q2.length*(32:Nat)<=(140737488355328:Nat)->st.opens.length*(16:Nat)<=(140737488355328:Nat)->st.snaps.length*(64:Nat)<=(140737488355328:Nat)->I64 c.kind->I64 q7->I64 c.seq->I64 c.set->I64 c.id->I64 c.n->c.chunks.length*(8:Nat)<=(140737488355328:Nat)->c.text.b.length<=(140737488355328:Nat)->I64 q3->I64 st.next->I64 st.keep->I64 st.quota->I64 (if mayF st q3=q1 then bc c q3 else q6)->(¬(if mayF st q3=q1 then bc c q3 else q6)=q1->I64 (if mayF st q3=q1 then bc c q3 else q6)->I64 q1->q3=r0/\q10/\q9/\q8/\(if mayF st q3=q1 then bc c q3 else q6)=r4.code/\q1=r4.n/\q2=r5/\q5)/\((if mayF st q3=q1 then bc c q3 else q6)=q1->(c.kind=(8:Int)->I64 (q3+q6)/\(¬c.n=q3+q6->I64 q6->I64 q1->q3=r0/\q10/\q9/\q8/\q6=r4.code/\q1=r4.n/\q2=r5/\q5)/\(c.n=q3+q6->c.n=r0/\q10/\q9/\q8/\q1=r4.code/\c.n=r4.n/\q2=r5/\q5))/\(¬c.kind=(8:Int)->(c.kind=q6->I64 (ao Sess.client q7 q2)->(q1<=ao Sess.client q7 q2->I64 (12:Int)->I64 q1->q3=r0/\q10/\q9/\q8/\(12:Int)=r4.code/\q1=r4.n/\q2=r5/\q5)/\(ao Sess.client q7 q2<q1->∃ (s0:Nat),(fun (q13:Int)=>(q1=(↑s0:Int)/\q0)/\(s0<=q2.length/\((List.take s0 q2).all fun (y:Sess)=>decide (y.client<q7))=true)/\∀ (s:Nat),(fun (q15:Int)=>(fun (q14:den (Sh.nm NT.sess))=>s<=q2.length/\((List.take s q2).all fun (y:Sess)=>decide (y.client<q7))=true->(q15<q13->q1<=q15/\q15<q13)/\((q15<q13->I64 q14.client/\I64 q14.seq/\I64 q14.last.code/\I64 q14.last.n)->(q15<q13/\q14.client<q7->I64 (q15+q6)/\∃ (s':Nat),(q15+q6=(↑s':Int)/\q0)/\(s' <= q2.length/\((List.take s' q2).all fun (y:Sess)=>decide (y.client<q7))=true)/\q2.length - s' < q2.length - s)/\(q13<=q15\/q7<=q14.client->(q1<=q15/\q15<=q13)/\q2.length<(1048576:Nat)/\[Sess.mk q7 q1 (Reply.mk q1 q1)].length=(1:Nat)/\q3=r0/\q10/\q9/\q8/\q1=r4.code/\q1=r4.n/\List.take s q2++[Sess.mk q7 q1 (Reply.mk q1 q1)]++List.drop s q2=r5/\q5))) (q2.getD s q11)) (↑s:Int)) (↑q2.length:Int)))/\(¬c.kind=q6->dK st c=q1/\(I64 q4.version->I64 q4.next->I64 q4.keep->I64 q4.quota->I64 q12.code->I64 q12.n->q4.version=r0/\q4.next=r1/\q4.keep=r2/\q4.quota=r3/\q12.code=r4.code/\q12.n=r4.n/\q4.sess=r5/\q4.opens=r6/\q4.snaps=r7))))) (q3=q3/\st.next=st.next/\st.keep=st.keep/\st.quota=st.quota/\c.kind=c.kind/\q7=q7/\c.seq=c.seq/\c.set=c.set/\c.id=c.id/\c.n=c.n/\c.chunks=c.chunks/\c.text=c.text/\q1=q1/\q1=q1/\q1=q1/\q1=q1/\q1=q1/\q1=q1/\q2=q2/\st.opens=st.opens/\st.snaps=st.snaps)) (0:Int)) st.sess) st.version) (cc st c).fst) (st.opens=r6/\st.snaps=r7)) (1:Int)) c.client) (st.quota=r3)) (st.keep=r2)) (st.next=r1)) (dflt (Sh.nm NT.sess))) (cc st c).snd):=by kernel_rfl
theorem Us (st:State) (c:Command):Sat Tryz.prog (al tyT) 34 [.agg (cellsOf (.nm .state) st),.agg (cellsOf (.nm .command) c)] [] ⟨[],[.agg ([.int (((dP st c).1.version)),.int (((dP st c).1.next)),.int (((dP st c).1.keep)),.int (((dP st c).1.quota)),.own 0,.own 1,.own 2]),.agg (cellsOf (.nm .reply) ((dP st c).2))],some ([.row 82 (.nm .sess) (((dP st c).1.sess)),.row 63 (.nm .opn) (((dP st c).1.opens)),.row 73 (.nm .snap) (((dP st c).1.snaps))]),true⟩:=by
 refine cA wQ (Ww st c) Tryz.func34 (by decide) (by kernel_rfl) ?_
 rw [UY]
 iterate 3 ((all_goals (repeat' (first | with_reducible apply bu | with_reducible refine bw ?_ | intro))); (all_goals try (first | exact bT | exact rfl | exact Zf ae | exact Wd ae | exact vC ae | exact Ve ae ae ae | (rw [doE] <;> first | rfl | with_reducible assumption | exact m_ aG ae (by assumption)) | (rw [VM] <;> first | rfl | with_reducible assumption | exact m_ aG ae (by assumption)) | (rw [Vo] <;> first | rfl | with_reducible assumption | exact m_ aG ae (by assumption)) | (rw [Xg] <;> first | rfl | with_reducible assumption | exact m_ aG ae (by assumption)) | (rw [TH] <;> first | rfl | with_reducible assumption | exact m_ aG ae (by assumption)) | (rw [Tc] <;> first | rfl | with_reducible assumption | exact m_ aG ae (by assumption)))); all_goals try first | refine ⟨‹Nat› + 1,?_⟩ | refine ⟨0,?_⟩)
def EV:cO:=(bq 34 (bm (ah (kT (.nm .state)) (ah (kT (.nm .command)) aH)) aI fun (st,c,_) (_)=>⟨[],[.agg ([.int (((dP st c).1.version)),.int (((dP st c).1.next)),.int (((dP st c).1.keep)),.int (((dP st c).1.quota)),.own 0,.own 1,.own 2]),.agg (cellsOf (.nm .reply) ((dP st c).2))],some ([.row 82 (.nm .sess) (((dP st c).1.sess)),.row 63 (.nm .opn) (((dP st c).1.opens)),.row 73 (.nm .snap) (((dP st c).1.snaps))]),true⟩) EP)
theorem um:aW Tryz.prog (al tyT) EV:=(au (av (ab aZ (ab aZ ai)) aj fun (st,c,_) (_) _=>Us st c ) wQ)
theorem DL  (r0:State):ck tyT EV [] Tryz.f22 [] [] [.agg (cellsOf (.nm .state) r0)]=((1:Int)=r0.version/\(1:Int)=r0.next/\(0:Int)=r0.keep/\(0:Int)=r0.quota/\r0.sess=[]/\r0.opens=[]/\r0.snaps=[]):=by kernel_rfl
theorem IA :Sat Tryz.prog (al tyT) 22 [] [] ⟨[],[.agg (cellsOf (.nm .state) (⟨1,1,0,0,[],[],[]⟩))],none,false⟩:=by
 refine aJ um [] Tryz.func22 (by decide) (by kernel_rfl) ?_
 rw [DL]
 (repeat' (first | with_reducible apply bu | with_reducible refine bw ?_ | intro))
 all_goals (first | exact bT | exact rfl)
def NJ:cO:=(bq 22 (bm aH aI fun (_) (_)=>⟨[],[.agg (cellsOf (.nm .state) (⟨1,1,0,0,[],[],[]⟩))],none,false⟩) EV)
theorem EA:aW Tryz.prog (al tyT) NJ:=(au (av ai aj fun (_) (_) _=>IA  ) um)
def kZ:cO:=NJ
theorem fh:aW Tryz.prog (al tyT) kZ:=EA
section
variable {s:State} {c:Command}
theorem aac (h0:mayF s s.version=0) (h:bc c s.version=0):(if mayF s s.version=0 then bc c s.version else 1)=0:=by rw [if_pos h0]; exact h
theorem Lu (h0:mayF s s.version=0) (h1:bc c s.version=0) (h3:¬ c.kind=8) (h4:¬ c.kind=1) (hk:0<=ao Sess.client c.client s.sess) (hq:c.seq=(s.sess.getD (ao Sess.client c.client s.sess).toNat (dflt (.nm .sess))).seq+1) :
  dP s c=(State.mk (bA s c).1.version (bA s c).1.next (bA s c).1.keep (bA s c).1.quota (s.sess.set (ao Sess.client c.client s.sess).toNat (Sess.mk (s.sess.getD (ao Sess.client c.client s.sess).toNat (dflt (.nm .sess))).client c.seq (bA s c).2)) (bA s c).1.opens (bA s c).1.snaps,(bA s c).2):=by
 rw [Tc (aac h0 h1) h3 h4]
 obtain ⟨v,nx,kp,qt,se,op,sn⟩:=s
 rw [as5 hk (by dsimp only at *; omega) (by dsimp only at *; omega) (by dsimp only at *; omega)]
 simp only [jL]
end
theorem At {c:Command} {v:Int} (h:bc c v=0):(1<=v/\v<=3)/\¬ a_ c.kind=0/\a_ c.kind<=v/\eF c=true:=by
 unfold bc at h
 split at h
 ·cases h
 ·rename_i h1
  rw [Bool.or_eq_true,not_or] at h1
  simp only [Bool.not_eq_true',Bool.not_eq_false,decide_eq_true_eq] at h1
  split at h
  ·cases h
  ·split at h
   ·cases h
   ·rename_i h2 h3
    exact ⟨qk h1.1,h1.2,by omega,by simpa using h3⟩
theorem Fq {s:State} {c:Command} (h:dK s c=0):mayF s s.version=0/\bc c s.version=0:=by
 have h1:=wo (s:=s) (c:=c) h
 refine ⟨h1,?_⟩
 unfold dK at h; rwa [if_pos h1] at h
section
variable {α:Type} {key:α->Int} {most:Int}
theorem Dy:∀ {l:List α} {a b:Int},a<=b->az key most b l=true->az key most a l=true
 | [],_,_,_,_=>rfl
 | x :: l,a,b,h,k=>by
  simp only [az,Bool.and_eq_true] at k ⊢
  have:=qk k.1
  exact ⟨by unfold bb; rw [Bool.and_eq_true,decide_eq_true_eq,decide_eq_true_eq]; omega,k.2⟩
theorem yB {l l':List α} (h:l'.Sublist l):∀ {a:Int},az key most a l=true->az key most a l' = true:=by
 induction h with
 | slnil=>intro a _; rfl
 | cons x _ ih=>
  intro a k
  simp only [az,Bool.and_eq_true] at k
  have:=qk k.1
  exact ih (Dy aG k.2)
 | cons_cons x _ ih=>
  intro a k
  simp only [az,Bool.and_eq_true] at k ⊢
  exact ⟨k.1,ih k.2⟩
theorem yz:∀ {l:List α} {a:Int},az key most a l=az id most a (l.map key)
 | [],_=>rfl
 | x :: l,a=>by
  show (bb (key x) (a+1) most && az key most (key x) l)=(bb (key x) (a+1) most && az id most (key x) (l.map key))
  rw [yz (l:=l)]
theorem z_ {l:List α} {i:Int} (h:0<=i):(qp l i).Sublist l:=by
 unfold qp
 rw [show (i+1).toNat=i.toNat+1 by omega]
 have h1:(l.drop (i.toNat+1)).Sublist (l.drop i.toNat):=by
  rw [<- List.drop_drop]; exact List.drop_sublist 1 _
 have h2:=(List.Sublist.refl (l.take i.toNat)).append h1
 rwa [List.take_append_drop] at h2
theorem qb {want:Int} {l:List α} (h:ao key want l<0):∀ x ∈ l,¬ key x=want:=by
 refine kv.1 ?_
 unfold ao at *
 split
 ·rename_i i hi; rw [hi] at h; dsimp only at h; omega
 ·rfl
end
theorem MC {c:Command} (h:eF c=true):(gP c.kind).1<=c.n/\c.n<=(gP c.kind).2/\wW c=true/\Vt c=true/\iy c.client 8 (!([(8:Int)].contains c.kind))=true/\iy c.seq 1048576 (!([(1:Int),8].contains c.kind))=true/\iy c.set 8 ([(2:Int),3,4].contains c.kind)=true:=by
 unfold eF at h
 simp only [Bool.and_eq_true,decide_eq_true_eq] at h
 obtain ⟨⟨⟨⟨⟨⟨⟨h1,h2⟩,h3⟩,h4⟩,h5⟩,h6⟩,h7⟩,h8⟩:=h
 exact ⟨h1,h2,h3,h4,h5,h6,h7⟩
theorem xP {c:Command} (h:eF c=true) (k:c.kind=3):cj c.chunks=0:=by
 have h1:=(MC h).2.2.1
 unfold wW at h1; rw [if_pos k] at h1; exact (iW h1).symm
theorem mJ {s:State} (M:mayF s s.version=0):az Opn.set 8 0 s.opens=true/\∀ x ∈ s.opens,bp x=true:=by
 have h:=(eA M).2.2.2.1
 simp only [iU,Bool.and_eq_true,List.all_eq_true] at h
 exact h
theorem DQ {s:State} {v:Int} (M:mayF s v=0):az Sess.client 8 0 s.sess=true/\∀ x ∈ s.sess,bn x=true:=by
 have h:=(eA M).2.2.1
 simp only [lh,Bool.and_eq_true,List.all_eq_true] at h
 exact h
structure ActOk (s:State) (r:State × Reply):Prop where
 may:mayF r.1 r.1.version=0
 ver:r.1.version=s.version
 nxt:s.next<=r.1.next/\r.1.next<=s.next+1
 code:0<=r.2.code/\r.2.code<=99
 n:0<=r.2.n/\r.2.n<=1048576
section
variable {α:Type} {key:α->Int} {most:Int}
theorem iO:∀ {l:List α} {a:Int},az key most a l=true->∀ x ∈ l,a<key x
 | [],_,_,_,h=>by cases h
 | y :: l,a,k,x,h=>by
  simp only [az,Bool.and_eq_true] at k
  have h3:=qk k.1
  rcases List.mem_cons.1 h with rfl | h
  ·omega
  ·have:=iO k.2 x h; omega
theorem th:∀ {l:List α} {a:Int},az key most a l=true->∀ x ∈ l,∀ y ∈ l,key x=key y->x=y
 | [],_,_,_,h,_,_,_=>by cases h
 | z :: l,a,k,x,hx,y,hy,e=>by
  simp only [az,Bool.and_eq_true] at k
  rcases List.mem_cons.1 hx with rfl | hx2
  ·rcases List.mem_cons.1 hy with rfl | hy2
   ·rfl
   ·have:=iO k.2 y hy2; omega
  ·rcases List.mem_cons.1 hy with rfl | hy2
   ·have:=iO k.2 x hx2; omega
   ·exact th k.2 x hx2 y hy2 e
theorem ma {want:Int} {l:List α} {d:α} (h:0<=ao key want l):key (l.getD (ao key want l).toNat d)=want/\l.getD (ao key want l).toNat d ∈ l:=by
 unfold ao at *
 cases hf:l.findIdx? (fun x=>decide (key x=want)) with
 | none=>rw [hf] at h; dsimp only at h; omega
 | some i=>
  obtain ⟨hi,hp,_⟩:=List.findIdx?_eq_some_iff_getElem.1 hf
  have e:l.getD ((i:Int)).toNat d=l[i]:=by rw [Int.toNat_natCast,List.getD_eq_getElem?_getD,List.getElem?_eq_getElem hi,Option.getD_some]
  dsimp only
  rw [e]
  exact ⟨of_decide_eq_true hp,List.getElem_mem hi⟩
end
structure DoOk (s:State) (c:Command) (r:State × Reply):Prop where
 may:mayF r.1 r.1.version=0
 ver:r.1.version=if c.kind=8/\r.2.code=0 then s.version+1 else s.version
 nxt:s.next<=r.1.next/\r.1.next<=s.next+1
 len:s.sess.length<=r.1.sess.length
 seq:∀ x ∈ s.sess,∃ y ∈ r.1.sess,y.client=x.client/\x.seq<=y.seq/\y.seq<=x.seq+1
section
variable {s:State} {c:Command}
end
section
variable {α:Type} {key:α->Int} {most:Int}
theorem yh:∀ {l:List α} {a:Int} {i:Nat} {x:α},az key most a l=true->l[i]? = some x->∀ y ∈ l.take i,key y<key x
 | [],_,_,_,_,h,_,_=>by simp at h
 | z :: l,a,0,x,_,_,y,hy=>by simp at hy
 | z :: l,a,i+1,x,k,h,y,hy=>by
  simp only [az,Bool.and_eq_true] at k
  rw [List.getElem?_cons_succ] at h
  rw [List.take_succ_cons] at hy
  rcases List.mem_cons.1 hy with rfl | hy
  ·exact iO k.2 x (List.mem_of_getElem? h)
  ·exact yh k.2 h y hy
end
section
variable {s:State} {x:Snap} {i:Nat}
end
section
variable {s:State} {x:Snap} {i:Nat}
end
section
variable {s:State} {x:Snap} {i:Nat}
end
def keepsX (s:State) (c:Command) (r:State × Reply) (i:Nat) (x:Snap):Prop:=
 (ao Snap.id x.id r.1.snaps<0/\c.kind=5/\c.id=x.id/\x.held=false/\fN s i=false/\r.2.code=0) \/
 (0<=ao Snap.id x.id r.1.snaps/\∃ y,r.1.snaps.getD (ao Snap.id x.id r.1.snaps).toNat (dflt (.nm .snap))=y/\y.chunks=x.chunks/\y.set=x.set/\(y.held=x.held\/c.kind=9\/c.kind=10)/\(y.tag=x.tag\/c.kind=11))
structure KeepOk (s:State) (c:Command) (r:State × Reply):Prop where
 x:∀ i x,s.snaps[i]? = some x->keepsX s c r i x
 more:r.1.snaps.length<=s.snaps.length\/(r.1.snaps.length=s.snaps.length+1/\c.kind=3/\r.2.code=0/\(r.1.snaps.getD s.snaps.length (dflt (.nm .snap))).id=r.2.n/\(s.quota=0\/(distF r.1.snaps:Int)<=s.quota))
section
variable {s:State} {c:Command} {k:Nat}
end
section
variable {α:Type} {key:α->Int} {most:Int}
theorem AT:∀ {l l':List α} {a:Int},az key most a l=true->az key most a l' = true->(∀ x,x ∈ l↔x ∈ l')->l=l'
 | [],[],_,_,_,_=>rfl
 | [],y :: l',_,_,_,h=>by have:=(h y).2 List.mem_cons_self; cases this
 | x :: l,[],_,_,_,h=>by have:=(h x).1 List.mem_cons_self; cases this
 | x :: l,y :: l',a,k,k',h=>by
  simp only [az,Bool.and_eq_true] at k k'
  have e:x=y:=by
   rcases List.mem_cons.1 ((h x).1 List.mem_cons_self) with e | hx
   ·exact e
   ·rcases List.mem_cons.1 ((h y).2 List.mem_cons_self) with e | hy
    ·exact e.symm
    ·have:=iO k.2 y hy
     have:=iO k'.2 x hx
     omega
  subst e
  rw [AT k.2 k'.2 fun z=>⟨fun hz=>?_,fun hz=>?_⟩]
  ·rcases List.mem_cons.1 ((h z).1 (List.mem_cons_of_mem _ hz)) with rfl | h2
   ·have:=iO k.2 z hz; omega
   ·exact h2
  ·rcases List.mem_cons.1 ((h z).2 (List.mem_cons_of_mem _ hz)) with rfl | h2
   ·have:=iO k'.2 z hz; omega
   ·exact h2
def Fz (key:α->Int) (l:List α) (t:Int):Option α:=l.find? fun y=>decide (key y=t)
theorem tc {l:List α} {t:Int} {x:α} (h:Fz key l t=some x):key x=t/\x ∈ l:=⟨of_decide_eq_true (List.find?_some (p:=fun y=>decide (key y=t)) h),List.mem_of_find?_eq_some h⟩
theorem yN {l:List α} {a:Int} {x:α} (k:az key most a l=true) (h:x ∈ l):Fz key l (key x)=some x:=by
 cases e:Fz key l (key x) with
 | none=>
  have:=List.find?_eq_none.1 e x h
  simp at this
 | some y=>
  obtain ⟨h1,h2⟩:=tc e
  rw [th k y h2 x h h1]
theorem KR {l l':List α} {a:Int} (k:az key most a l=true) (k':az key most a l' = true) (h:∀ t,Fz key l t=Fz key l' t):l=l':=
 AT k k' fun x=>⟨fun hx=>(tc ((h (key x)).symm.trans (yN k hx))).2,fun hx=>(tc ((h (key x)).trans (yN k' hx))).2⟩
theorem Ku {l:List α} {a:Int} {t:Int} (k:az key most a l=true) (h:0<=ao key t l) (u:Int):Fz key (qp l (ao key t l)) u=if u=t then none else Fz key l u:=by
 have hl:=cJ h
 have hn:(ao key t l).toNat<l.length:=by omega
 have pk:=ma (d:=l[(ao key t l).toNat]) h
 rw [List.getD_eq_getElem?_getD,List.getElem?_eq_getElem hn,Option.getD_some] at pk
 have e:l=l.take (ao key t l).toNat++l[(ao key t l).toNat] :: l.drop ((ao key t l).toNat+1):=by
  rw [List.getElem_cons_drop hn,List.take_append_drop]
 have hd:qp l (ao key t l)=l.take (ao key t l).toNat++l.drop ((ao key t l).toNat+1):=by
  unfold qp; rw [show (ao key t l+1).toNat=(ao key t l).toNat+1 by omega]
 by_cases hu:u=t
 ·subst hu
  rw [if_pos rfl]
  refine List.find?_eq_none.2 fun y hy=>?_
  have hs:=z_ (l:=l) h
  intro hc
  have hc:=of_decide_eq_true hc
  have R:=yz (key:=key) (most:=most) (l:=l) (a:=a) ▸ k
  have:=th k y (hs.subset hy) _ pk.2 (hc.trans pk.1.symm)
  have hk2:az key most a (l.take (ao key u l).toNat++l[(ao key u l).toNat] :: l.drop ((ao key u l).toNat+1))=true:=by rw [<- e]; exact k
  rw [hd] at hy
  rcases List.mem_append.1 hy with hy | hy
  ·have hx:=yh k (List.getElem?_eq_getElem hn) y hy
   rw [this] at hx; omega
  ·obtain ⟨j,hj,he⟩:=List.mem_iff_getElem.1 hy
   rw [List.getElem_drop] at he
   have hx:=yh (i:=(ao key u l).toNat+1+j) (x:=y) k (by rw [List.length_drop] at hj; rw [List.getElem?_eq_getElem (by omega),he]) l[(ao key u l).toNat] (by rw [List.mem_take_iff_getElem]; exact ⟨(ao key u l).toNat,by rw [List.length_drop] at hj; omega,rfl⟩)
   rw [this] at hx; omega
 ·rw [if_neg hu,hd]
  unfold Fz
  conv=>rhs; rw [e,List.find?_append,List.find?_cons]
  rw [decide_eq_false (fun h=>hu (h.symm.trans pk.1)),List.find?_append]
end
section
variable {s:State} {c:Command}
end
def eQ {α:Type} (key:α->Int) (x:α):List α->List α
 | []=>[x]
 | y :: l=>if key x<key y then x :: y :: l else y :: eQ key x l
def iJ {α:Type} (key:α->Int) (l:List α) (x:α):Bool:=l.any fun y=>decide (key x<key y)
def eN {α:Type} (key:α->Int) (l:List α) (x:α):List α:=if iJ key l x then eQ key x l else l
def nF (id:Int) (l:List Opn):List Opn:=l.filter fun x=>!decide (x.set=id)
section
variable {α:Type} {key:α->Int} {x y d:α}
theorem GJ:∀ {l:List α},iJ key l x=true->eQ key x (l++[y])=eQ key x l++[y]
 | [],h=>by cases h
 | z :: l,h=>by
  by_cases g:key x<key z
  ·simp only [List.cons_append,eQ,if_pos g]
  ·have h2:iJ key l x=true:=by
    unfold iJ at h ⊢; rw [List.any_cons,decide_eq_false g,Bool.false_or] at h; exact h
   simp only [List.cons_append,eQ,if_neg g,GJ h2]
theorem xv:∀ {l:List α},iJ key l x=false->eQ key x l=l++[x]/\eQ key x (l++[y])=l++eQ key x [y]
 | [],_=>⟨rfl,rfl⟩
 | z :: l,h=>by
  unfold iJ at h; rw [List.any_cons,Bool.or_eq_false_iff] at h
  have g:=of_decide_eq_false h.1
  obtain ⟨a,b⟩:=xv (l:=l) h.2
  exact ⟨by simp only [List.cons_append,eQ,if_neg g,a],by simp only [List.cons_append,eQ,if_neg g] at b ⊢; rw [b]⟩
theorem tL:∀ {l:List α},(eQ key x l).length=l.length+1
 | []=>rfl
 | z :: l=>by
  by_cases g:key x<key z
  ·simp only [eQ,if_pos g,List.length_cons]
  ·simp only [eQ,if_neg g,List.length_cons,tL (l:=l)]
variable {l:List α} {k:Nat}
theorem NX (hx:l[k]? = some y) (g:iJ key (l.take k) x=true):true=iJ key (l.take (k+1)) x:=by
 unfold iJ at *; rw [ax hx,List.any_append,g]; rfl
theorem Oc (hx:l[k]? = some y) (g:iJ key (l.take k) x=false) (g2:key (l.getD k d)<=key x):false=iJ key (l.take (k+1)) x:=by
 have e:l.getD k d=y:=by rw [List.getD_eq_getElem?_getD,hx]; rfl
 rw [e] at g2
 unfold iJ at *; rw [ax hx,List.any_append,g]; simp only [List.any_cons,List.any_nil,Bool.or_false,Bool.false_or]; exact (decide_eq_false (by omega)).symm
theorem ID (hx:l[k]? = some y) (g2:key x<key (l.getD k d)):true=iJ key (l.take (k+1)) x:=by
 have e:l.getD k d=y:=by rw [List.getD_eq_getElem?_getD,hx]; rfl
 rw [e] at g2
 unfold iJ at *; rw [ax hx,List.any_append]; simp only [List.any_cons,List.any_nil,Bool.or_false,decide_eq_true g2,Bool.or_true]
theorem Rr (hx:l[k]? = some y) (g:iJ key (l.take k) x=true):eN key (l.take k) x++[y]=eN key (l.take (k+1)) x:=by
 have e:=NX (key:=key) hx g
 unfold eN
 rw [<- e,g,if_pos rfl,if_pos rfl,ax hx,GJ g]
theorem Su (hx:l[k]? = some y) (g:iJ key (l.take k) x=false) (g2:key (l.getD k d)<=key x):eN key (l.take k) x++[y]=eN key (l.take (k+1)) x:=by
 have e:=Oc (key:=key) hx g g2
 unfold eN
 rw [<- e,g,if_neg (by decide),if_neg (by decide),ax hx]
theorem GS (hx:l[k]? = some y) (g:iJ key (l.take k) x=false) (g2:key x<key (l.getD k d)):eN key (l.take k) x++[x]++[y]=eN key (l.take (k+1)) x:=by
 have e:=ID (key:=key) hx g2
 have e2:l.getD k d=y:=by rw [List.getD_eq_getElem?_getD,hx]; rfl
 rw [e2] at g2
 unfold eN
 rw [<- e,g,if_neg (by decide),if_pos rfl,ax hx,(xv g).2]
 simp only [eQ,if_pos g2,List.append_assoc,List.cons_append,List.nil_append]
theorem Og (hx:l[k]? = some y) (o:iJ key (l.take k) x=true\/key (l.getD k d)<=key x):iJ key (l.take k) x=iJ key (l.take (k+1)) x:=by
 cases g:iJ key (l.take k) x with
 | true=>exact NX hx g
 | false=>exact Oc hx g (o.resolve_left (by rw [g]; decide))
theorem EW (hx:l[k]? = some y) (o:iJ key (l.take k) x=true\/key (l.getD k d)<=key x):eN key (l.take k) x++[y]=eN key (l.take (k+1)) x:=by
 cases g:iJ key (l.take k) x with
 | true=>exact Rr hx g
 | false=>exact Su hx g (o.resolve_left (by rw [g]; decide))
theorem Du (h:(l.length:Int)<=k) (g:iJ key (l.take k) x=true):eN key (l.take k) x=eQ key x l:=by
 rw [List.take_of_length_le (by omega)] at g ⊢
 unfold eN; rw [if_pos g]
theorem Iy (h:(l.length:Int)<=k) (g:iJ key (l.take k) x=false):eN key (l.take k) x++[x]=eQ key x l:=by
 rw [List.take_of_length_le (by omega)] at g ⊢
 unfold eN; rw [if_neg (by rw [g]; decide),(xv (y:=x) g).1]
theorem vp (h:k<=l.length):(eN key (l.take k) x).length<=l.length+1:=by
 unfold eN; split
 ·rw [tL,List.length_take]; omega
 ·rw [List.length_take]; omega
theorem rB (h:k<=l.length) (g:iJ key (l.take k) x=false):(eN key (l.take k) x).length<=l.length:=by
 unfold eN; rw [if_neg (by rw [g]; decide),List.length_take]; omega
theorem oK {most:Int}:∀ {l:List α} {a:Int},az key most a l=true->(∀ y ∈ l,¬ key y=key x)->eQ key x l=nL l (l.takeWhile fun y=>decide (key y<key x)).length x
 | [],_,_,_=>rfl
 | y :: l,a,k,hn=>by
  simp only [az,Bool.and_eq_true] at k
  have h4:=hn y (List.mem_cons_self)
  by_cases h:key y<key x
  ·have e:nL (y :: l) ((y :: l).takeWhile fun y=>decide (key y<key x)).length x=y :: nL l (l.takeWhile fun y=>decide (key y<key x)).length x:=by
    rw [List.takeWhile_cons,decide_eq_true h,if_pos rfl]; rfl
   rw [e,eQ,if_neg (by omega),oK k.2 fun z hz=>hn z (List.mem_cons_of_mem _ hz)]
  ·have e:nL (y :: l) ((y :: l).takeWhile fun y=>decide (key y<key x)).length x=x :: y :: l:=by
    rw [List.takeWhile_cons,decide_eq_false h]; rfl
   rw [e,eQ,if_pos (by omega)]
end
theorem Ts {id:Int} {l:List Opn} {k:Nat} {x y:Opn} (h:¬ x.set=id) (hx:l[k]? = some x) (hy:l[k]? = some y):nF id (l.take k)++[y]=nF id (l.take (k+1)):=by
 rw [hx] at hy; cases hy
 unfold nF; rw [ax hx,List.filter_append]; simp [h]
theorem UC {id:Int} {l:List Opn} {k:Nat} {x:Opn} (hx:l[k]? = some x) (h:x.set=id):nF id (l.take k)=nF id (l.take (k+1)):=by
 unfold nF; rw [ax hx,List.filter_append]; simp [h]
theorem Ph {id:Int} {l:List Opn} {k:Nat} (h:(l.length:Int)<=k):nF id (l.take k)=nF id l:=by rw [List.take_of_length_le (by omega)]
theorem QO {id:Int} {l:List Opn} {k:Nat} {x:Opn} (h:(k:Int)<l.length) (hl:l.length*16<=140737488355328):((nF id (l.take k)).length+[x].length)*16<=140737488355328:=by
 have h1:=List.length_filter_le (fun x:Opn=>!decide (x.set=id)) (l.take k)
 rw [List.length_take] at h1
 unfold nF
 simp only [List.length_cons,List.length_nil]
 omega
def qY (l:List Opn) (id:Int):List (Nat × LI):=[(3,{ σ:=Nat,F:=fun k=>([(0,one (.fz (.nm .opn) (l))),(1,one (.int (id))),(5,one (.own 0)),(6,one (.int k))],[.row 63 (.nm .opn) ((nF id (l.take k)))]),J:=fun k=>k<=l.length,μ:=fun k=>l.length - k })]
def ow (l:List Snap) (id:Int):List (Nat × LI):=[(3,{ σ:=Nat,F:=fun k=>([(0,one (.fz (.nm .snap) (l))),(1,one (.int (id))),(5,one (.own 0)),(6,one (.int k))],[.row 73 (.nm .snap) ((aO id (l.take k)))]),J:=fun k=>k<=l.length,μ:=fun k=>l.length - k })]
def Gw (l:List Opn) (x:Opn):List (Nat × LI):=[(4,{ σ:=Nat,F:=fun k=>([(0,one (.fz (.nm .opn) (l))),(3,one (.ptr 0 0)),(5,one (.own 1)),(6,one (.bool (.atom (iJ Opn.set (l.take k) x)))),(7,one (.int k))],[.box 63 (cellsOf (.nm .opn) ((x))),.row 63 (.nm .opn) ((eN Opn.set (l.take k) x))]),J:=fun k=>k<=l.length,μ:=fun k=>l.length - k })]
def Fp (l:List Sess) (x:Sess):List (Nat × LI):=[(4,{ σ:=Nat,F:=fun k=>([(0,one (.fz (.nm .sess) (l))),(3,one (.ptr 0 0)),(5,one (.own 1)),(6,one (.bool (.atom (iJ Sess.client (l.take k) x)))),(7,one (.int k))],[.box 82 (cellsOf (.nm .sess) ((x))),.row 82 (.nm .sess) ((eN Sess.client (l.take k) x))]),J:=fun k=>k<=l.length,μ:=fun k=>l.length - k })]
theorem Ox (st:State) (c:Command) (r0:Int):ck tyT kZ [] Tryz.f66 [.agg (cellsOf (.nm .state) st),.agg (cellsOf (.nm .command) c)] [] [.c (.int (r0))]=((fun (q0:Int)=>I64 q0->I64 st.next->I64 st.keep->I64 st.quota->st.sess.length*(32:Nat)<=(140737488355328:Nat)->st.opens.length*(16:Nat)<=(140737488355328:Nat)->st.snaps.length*(64:Nat)<=(140737488355328:Nat)->I64 c.kind->I64 c.client->I64 c.seq->I64 c.set->I64 c.id->I64 c.n->c.chunks.length*(8:Nat)<=(140737488355328:Nat)->c.text.b.length<=(140737488355328:Nat)->I64 (mayF st q0)->(¬mayF st q0=(0:Int)->(1:Int)=r0)/\(mayF st q0=(0:Int)->I64 (bc c q0)->bc c q0=r0)) st.version):=by kernel_rfl
theorem Po (st:State) (c:Command):Sat Tryz.prog (al tyT) 66 [.agg (cellsOf (.nm .state) st),.agg (cellsOf (.nm .command) c)] [] ⟨[],[.c (.int ((if mayF st st.version=0 then bc c st.version else 1)))],none,false⟩:=by
 refine aJ fh [] Tryz.func66 (by decide) (by kernel_rfl) ?_
 rw [Ox]
 grind
theorem Um (st:State) (e:Int) (r0:Int) (r1:Int) (r2:Int) (r3:Int) (r4:Reply) (r5:List Sess) (r6:List Opn) (r7:List Snap):gV tyT kZ [] Tryz.f67 [.agg (cellsOf (.nm .state) st),.c (.int (e))] [] [.agg ([.int (r0),.int (r1),.int (r2),.int (r3),.own 0,.own 1,.own 2]),.agg (cellsOf (.nm .reply) r4)] [.row 82 (.nm .sess) (r5),.row 63 (.nm .opn) (r6),.row 73 (.nm .snap) (r7)]=(I64 st.version->I64 st.next->I64 st.keep->I64 st.quota->st.sess.length*(32:Nat)<=(140737488355328:Nat)->st.opens.length*(16:Nat)<=(140737488355328:Nat)->st.snaps.length*(64:Nat)<=(140737488355328:Nat)->I64 e->I64 st.version->I64 st.next->I64 st.keep->I64 st.quota->st.version=r0/\st.next=r1/\st.keep=r2/\st.quota=r3/\e=r4.code/\(0:Int)=r4.n/\st.sess=r5/\st.opens=r6/\st.snaps=r7):=by kernel_rfl
theorem TR (st:State) (e:Int):Sat Tryz.prog (al tyT) 67 [.agg (cellsOf (.nm .state) st),.c (.int (e))] [] ⟨[],[.agg ([.int ((st.version)),.int ((st.next)),.int ((st.keep)),.int ((st.quota)),.own 0,.own 1,.own 2]),.agg (cellsOf (.nm .reply) (⟨e,0⟩))],some ([.row 82 (.nm .sess) ((st.sess)),.row 63 (.nm .opn) ((st.opens)),.row 73 (.nm .snap) ((st.snaps))]),true⟩:=by
 refine cA fh [] Tryz.func67 (by decide) (by kernel_rfl) ?_
 rw [Um]
 (repeat' (first | with_reducible apply bu | with_reducible refine bw ?_ | intro))
 all_goals (first | exact bT | exact rfl)
theorem xb (l:List Opn) (id:Int) (r0:List Opn):gV tyT kZ (qY l id) Tryz.f108 [.c (.fz (.nm .opn) (l)),.c (.int (id))] [] [.c (.own 0)] [.row 63 (.nm .opn) (r0)]=((fun (q1:Int)=>(fun (q0:Nat)=>l.length*(16:Nat)<=(140737488355328:Nat)->I64 id->∃ (s0:Nat),(l=l/\id=id/\(0:Int)=(↑s0:Int)/\nF id (List.take s0 l)=[])/\s0<=q0/\∀ (s:Nat),(fun (q3:List Opn)=>(fun (q2:Int)=>s<=q0->((↑s:Int)<q1->(0:Int)<=(↑s:Int)/\(↑s:Int)<q1/\∀ (x:Opn),l[s]? = some x->I64 x.set->I64 x.client->(¬x.set=id->(0:Int)<=(↑s:Int)/\(↑s:Int)<q1/\∀ (x:Opn),l[s]? = some x->I64 x.set->I64 x.client->(q3.length+[x].length)*(16:Nat)<=(140737488355328:Nat)/\I64 q2/\∃ (s':Nat),(l=l/\id=id/\q2=(↑s':Int)/\q3++[x]=nF id (List.take s' l))/\s' <= q0/\q0 - s' < q0 - s)/\(x.set=id->I64 q2/\∃ (s':Nat),(l=l/\id=id/\q2=(↑s':Int)/\q3=nF id (List.take s' l))/\s' <= q0/\q0 - s' < q0 - s))/\(q1<=(↑s:Int)->q3=r0)) ((↑s:Int)+(1:Int))) (nF id (List.take s l))) l.length) (↑l.length:Int)):=by kernel_rfl
theorem xC (l:List Opn) (id:Int):Sat Tryz.prog (al tyT) 108 [.c (.fz (.nm .opn) (l)),.c (.int (id))] [] ⟨[],[.c (.own 0)],some ([.row 63 (.nm .opn) ((nF id l))]),true⟩:=by
 refine cA fh (qY l id) Tryz.func108 (by decide) (by kernel_rfl) ?_
 rw [xb]
 iterate 3 ((all_goals (repeat' (first | with_reducible apply bu | with_reducible refine bw ?_ | intro))); (all_goals try (first | exact bT | exact rfl | exact (Ts ae ae ae) | exact (UC ae ae) | exact (Ph aG) | exact (QO aG aG))); all_goals try first | refine ⟨‹Nat› + 1,?_⟩ | refine ⟨0,?_⟩)
theorem ub (l:List Snap) (id:Int) (r0:List Snap):gV tyT kZ (ow l id) Tryz.f161 [.c (.fz (.nm .snap) (l)),.c (.int (id))] [] [.c (.own 0)] [.row 73 (.nm .snap) (r0)]=((fun (q2:Int)=>(fun (q1:Nat)=>(fun (q0:Nat)=>l.length*(64:Nat)<=q1->I64 id->∃ (s0:Nat),(l=l/\id=id/\(0:Int)=(↑s0:Int)/\aO id (List.take s0 l)=[])/\s0<=q0/\∀ (s:Nat),(fun (q4:List Snap)=>(fun (q3:Int)=>s<=q0->((↑s:Int)<q2->(0:Int)<=(↑s:Int)/\(↑s:Int)<q2/\∀ (x:Snap),l[s]? = some x->I64 x.id->I64 x.set->x.chunks.length*(8:Nat)<=q1->x.tag.b.length<=q1->(¬x.id=id->(0:Int)<=(↑s:Int)/\(↑s:Int)<q2/\∀ (x:Snap),l[s]? = some x->I64 x.id->I64 x.set->x.chunks.length*(8:Nat)<=q1->x.tag.b.length<=q1->(q4.length+[x].length)*(64:Nat)<=q1/\I64 q3/\∃ (s':Nat),(l=l/\id=id/\q3=(↑s':Int)/\q4++[x]=aO id (List.take s' l))/\s' <= q0/\q0 - s' < q0 - s)/\(x.id=id->I64 q3/\∃ (s':Nat),(l=l/\id=id/\q3=(↑s':Int)/\q4=aO id (List.take s' l))/\s' <= q0/\q0 - s' < q0 - s))/\(q2<=(↑s:Int)->q4=r0)) ((↑s:Int)+(1:Int))) (aO id (List.take s l))) l.length) (140737488355328:Nat)) (↑l.length:Int)):=by kernel_rfl
theorem wH (l:List Snap) (id:Int):Sat Tryz.prog (al tyT) 161 [.c (.fz (.nm .snap) (l)),.c (.int (id))] [] ⟨[],[.c (.own 0)],some ([.row 73 (.nm .snap) ((aO id l))]),true⟩:=by
 refine cA fh (ow l id) Tryz.func161 (by decide) (by kernel_rfl) ?_
 rw [ub]
 iterate 3 ((all_goals (repeat' (first | with_reducible apply bu | with_reducible refine bw ?_ | intro))); (all_goals try (first | exact bT | exact rfl | exact (GU ae ae ae) | exact (Gc ae ae) | exact (xH aG) | exact (xJ aG aG))); all_goals try first | refine ⟨‹Nat› + 1,?_⟩ | refine ⟨0,?_⟩)
theorem LU (l:List Opn) (x:Opn) (r0:List Opn):gV tyT kZ (Gw l x) Tryz.f106 [.c (.fz (.nm .opn) (l)),.agg (cellsOf (.nm .opn) x)] [] [.c (.own 0)] [.row 63 (.nm .opn) (r0)]=((fun (q2:Prop)=>(fun (q1:Nat)=>(fun (q0:Int)=>l.length*(16:Nat)<=(140737488355328:Nat)->I64 x.set->I64 x.client->∃ (s0:Nat),(l=l/\false=iJ Opn.set (List.take s0 l) x/\(0:Int)=(↑s0:Int)/\x.set=x.set/\q2/\eN Opn.set (List.take s0 l) x=[])/\s0<=q1/\∀ (s:Nat),(fun (q8:Prop)=>(fun (q7:Prop)=>(fun (q6:den (Sh.nm NT.opn))=>(fun (q5:Int)=>(fun (q4:Bool)=>(fun (q3:List (den (Sh.nm NT.opn)))=>s<=q1->(q8->(q4=false->q7/\q8)/\((q4=false->I64 q6.set/\I64 q6.client)->(q4=false/\x.set<q6.set->(q3.length+[x].length)*(16:Nat)<=(140737488355328:Nat)/\q7/\q8/\∀ (x_1:Opn),l[s]? = some x_1->I64 x_1.set->I64 x_1.client->((q3++[x]).length+[x_1].length)*(16:Nat)<=(140737488355328:Nat)/\I64 q5/\∃ (s':Nat),(l=l/\true=iJ Opn.set (List.take s' l) x/\q5=(↑s':Int)/\x.set=x.set/\q2/\q3++[x]++[x_1]=eN Opn.set (List.take s' l) x)/\s' <= q1/\q1 - s' < q1 - s)/\(q4=true\/q6.set<=x.set->q7/\q8/\∀ (x_1:Opn),l[s]? = some x_1->I64 x_1.set->I64 x_1.client->(q3.length+[x_1].length)*(16:Nat)<=(140737488355328:Nat)/\I64 q5/\∃ (s':Nat),(l=l/\q4=iJ Opn.set (List.take s' l) x/\q5=(↑s':Int)/\x.set=x.set/\q2/\q3++[x_1]=eN Opn.set (List.take s' l) x)/\s' <= q1/\q1 - s' < q1 - s)))/\(q0<=(↑s:Int)->(q4=false->(q3.length+[x].length)*(16:Nat)<=(140737488355328:Nat)/\q3++[x]=r0)/\(q4=true->q3=r0))) (eN Opn.set (List.take s l) x)) (iJ Opn.set (List.take s l) x)) ((↑s:Int)+(1:Int))) (l.getD s (dflt (Sh.nm NT.opn)))) ((0:Int)<=(↑s:Int))) ((↑s:Int)<q0)) (↑l.length:Int)) l.length) (x.client=x.client)):=by kernel_rfl
theorem LQ (l:List Opn) (x:Opn) (h0:l.length<1048576):Sat Tryz.prog (al tyT) 106 [.c (.fz (.nm .opn) (l)),.agg (cellsOf (.nm .opn) x)] [] ⟨[l.length<1048576],[.c (.own 0)],some ([.row 63 (.nm .opn) ((eQ Opn.set x l))]),true⟩:=by
 refine cA fh (Gw l x) Tryz.func106 (by decide) (by kernel_rfl) ?_
 rw [LU]
 iterate 3 ((all_goals (repeat' (first | with_reducible apply bu | with_reducible refine bw ?_ | intro))); (all_goals try (first | exact bT | exact rfl | exact (Og (key:=Opn.set) ae (by assumption)) | exact (ID (key:=Opn.set) ae ae) | exact (GS ae ae ae) | exact (EW ae (by assumption)) | exact (Du aG ae) | exact (Iy aG ae) | (have:=vp (key:=Opn.set) (x:=x) (l:=l) (k:=‹Nat›) (by assumption); have:=rB (key:=Opn.set) (x:=x) (l:=l) (k:=‹Nat›) (by assumption); simp only [List.length_append,List.length_cons,List.length_nil]; omega))); all_goals try first | refine ⟨‹Nat› + 1,?_⟩ | refine ⟨0,?_⟩)
theorem Lz (l:List Sess) (x:Sess) (r0:List Sess):gV tyT kZ (Fp l x) Tryz.f69 [.c (.fz (.nm .sess) (l)),.agg (cellsOf (.nm .sess) x)] [] [.c (.own 0)] [.row 82 (.nm .sess) (r0)]=((fun (q5:Int)=>(fun (q4:Nat)=>(fun (q3:den (Sh.nm NT.sess))=>(fun (q2:Int)=>(fun (q1:Int)=>(fun (q0:Int)=>l.length*(32:Nat)<=(140737488355328:Nat)->I64 q1->I64 x.seq->I64 q0->I64 q5->∃ (s0:Nat),(l=l/\false=iJ Sess.client (List.take s0 l) x/\(0:Int)=(↑s0:Int)/\q1=q1/\x.seq=x.seq/\q0=q0/\q5=q5/\eN Sess.client (List.take s0 l) x=[])/\s0<=q4/\∀ (s:Nat),(fun (q11:Prop)=>(fun (q10:Prop)=>(fun (q9:den (Sh.nm NT.sess))=>(fun (q8:Int)=>(fun (q7:Bool)=>(fun (q6:List (den (Sh.nm NT.sess)))=>s<=q4->(q11->(q7=false->q10/\q11)/\((q7=false->I64 q9.client/\I64 q9.seq/\I64 q9.last.code/\I64 q9.last.n)->(q7=false/\q1<q9.client->(q6.length+[x].length)*(32:Nat)<=(140737488355328:Nat)/\q10/\q11/\∀ (x_1:Sess),l[s]? = some x_1->I64 x_1.client->I64 x_1.seq->I64 x_1.last.code->I64 x_1.last.n->((q6++[x]).length+[x_1].length)*(32:Nat)<=(140737488355328:Nat)/\I64 q8/\∃ (s':Nat),(l=l/\true=iJ Sess.client (List.take s' l) x/\q8=(↑s':Int)/\q1=q1/\x.seq=x.seq/\q0=q0/\q5=q5/\q6++[x]++[x_1]=eN Sess.client (List.take s' l) x)/\s' <= q4/\q4 - s' < q4 - s)/\(q7=true\/q9.client<=q1->q10/\q11/\∀ (x_1:Sess),l[s]? = some x_1->I64 x_1.client->I64 x_1.seq->I64 x_1.last.code->I64 x_1.last.n->(q6.length+[x_1].length)*(32:Nat)<=(140737488355328:Nat)/\I64 q8/\∃ (s':Nat),(l=l/\q7=iJ Sess.client (List.take s' l) x/\q8=(↑s':Int)/\q1=q1/\x.seq=x.seq/\q0=q0/\q5=q5/\q6++[x_1]=eN Sess.client (List.take s' l) x)/\s' <= q4/\q4 - s' < q4 - s)))/\(q2<=(↑s:Int)->(q7=false->(q6.length+[x].length)*(32:Nat)<=(140737488355328:Nat)/\q6++[x]=r0)/\(q7=true->q6=r0))) (eN Sess.client (List.take s l) x)) (iJ Sess.client (List.take s l) x)) ((↑s:Int)+(1:Int))) (l.getD s q3)) ((0:Int)<=(↑s:Int))) ((↑s:Int)<q2)) x.last.code) x.client) (↑l.length:Int)) (dflt (Sh.nm NT.sess))) l.length) x.last.n):=by kernel_rfl
theorem Mj (l:List Sess) (x:Sess) (h0:l.length<1048576):Sat Tryz.prog (al tyT) 69 [.c (.fz (.nm .sess) (l)),.agg (cellsOf (.nm .sess) x)] [] ⟨[l.length<1048576],[.c (.own 0)],some ([.row 82 (.nm .sess) ((eQ Sess.client x l))]),true⟩:=by
 refine cA fh (Fp l x) Tryz.func69 (by decide) (by kernel_rfl) ?_
 rw [Lz]
 iterate 3 ((all_goals (repeat' (first | with_reducible apply bu | with_reducible refine bw ?_ | intro))); (all_goals try (first | exact bT | exact rfl | exact (Og (key:=Sess.client) ae (by assumption)) | exact (ID (key:=Sess.client) ae ae) | exact (GS ae ae ae) | exact (EW ae (by assumption)) | exact (Du aG ae) | exact (Iy aG ae) | (have:=vp (key:=Sess.client) (x:=x) (l:=l) (k:=‹Nat›) (by assumption); have:=rB (key:=Sess.client) (x:=x) (l:=l) (k:=‹Nat›) (by assumption); simp only [List.length_append,List.length_cons,List.length_nil]; omega))); all_goals try first | refine ⟨‹Nat› + 1,?_⟩ | refine ⟨0,?_⟩)
theorem KC (l:List Snap) (m:List Int) (r0:Int):ck tyT kZ [] Tryz.f157 [.c (.fz (.nm .snap) (l)),.c (.fz .int (m))] [] [.c (.int (r0))]=((fun (q1:Prop)=>(fun (q0:List (den (Sh.nm NT.snap)))=>q1->m.length*(8:Nat)<=(140737488355328:Nat)->q1/\(l.length+q0.length)*(64:Nat)<=(140737488355328:Nat)/\nch (l++q0)<=(1048576:Nat)/\(I64 (↑(distF (l++q0)):Int)->(↑(distF (l++q0)):Int)=r0)) [Snap.mk (0:Int) (0:Int) m false (Str.mk [])]) (l.length*(64:Nat)<=(140737488355328:Nat))):=by kernel_rfl
theorem KN (l:List Snap) (m:List Int) (h0:l.length<1048576) (h1:nch (l++[⟨0,0,m,false,⟨[]⟩⟩])<=1048576):Sat Tryz.prog (al tyT) 157 [.c (.fz (.nm .snap) (l)),.c (.fz .int (m))] [] ⟨[l.length<1048576,nch (l++[⟨0,0,m,false,⟨[]⟩⟩])<=1048576],[.c (.int (((distF (l++[⟨0,0,m,false,⟨[]⟩⟩]):Int))))],none,false⟩:=by
 refine aJ fh [] Tryz.func157 (by decide) (by kernel_rfl) ?_
 rw [KC]
 (repeat' (first | with_reducible apply bu | with_reducible refine bw ?_ | intro))
 all_goals (first | exact bT | (simp only [List.length_cons,List.length_nil]; omega))
def yJ:cO:=(bq 157 (bm (ah (kC (cL (.nm .snap))) (ah (kC (cL .int)) aH)) aI fun (l,m,_) (_)=>⟨[l.length<1048576,nch (l++[⟨0,0,m,false,⟨[]⟩⟩])<=1048576],[.c (.int (((distF (l++[⟨0,0,m,false,⟨[]⟩⟩]):Int))))],none,false⟩) (bq 69 (bm (ah (kC (cL (.nm .sess))) (ah (kT (.nm .sess)) aH)) aI fun (l,x,_) (_)=>⟨[l.length<1048576],[.c (.own 0)],some ([.row 82 (.nm .sess) ((eQ Sess.client x l))]),true⟩) (bq 106 (bm (ah (kC (cL (.nm .opn))) (ah (kT (.nm .opn)) aH)) aI fun (l,x,_) (_)=>⟨[l.length<1048576],[.c (.own 0)],some ([.row 63 (.nm .opn) ((eQ Opn.set x l))]),true⟩) (bq 161 (bm (ah (kC (cL (.nm .snap))) (ah (kC cI) aH)) aI fun (l,id,_) (_)=>⟨[],[.c (.own 0)],some ([.row 73 (.nm .snap) ((aO id l))]),true⟩) (bq 108 (bm (ah (kC (cL (.nm .opn))) (ah (kC cI) aH)) aI fun (l,id,_) (_)=>⟨[],[.c (.own 0)],some ([.row 63 (.nm .opn) ((nF id l))]),true⟩) (bq 67 (bm (ah (kT (.nm .state)) (ah (kC cI) aH)) aI fun (st,e,_) (_)=>⟨[],[.agg ([.int ((st.version)),.int ((st.next)),.int ((st.keep)),.int ((st.quota)),.own 0,.own 1,.own 2]),.agg (cellsOf (.nm .reply) (⟨e,0⟩))],some ([.row 82 (.nm .sess) ((st.sess)),.row 63 (.nm .opn) ((st.opens)),.row 73 (.nm .snap) ((st.snaps))]),true⟩) (bq 66 (bm (ah (kT (.nm .state)) (ah (kT (.nm .command)) aH)) aI fun (st,c,_) (_)=>⟨[],[.c (.int ((if mayF st st.version=0 then bc c st.version else 1)))],none,false⟩) kZ)))))))
theorem pH:aW Tryz.prog (al tyT) yJ:=(au (av (ab (aq aY) (ab (aq aY) ai)) aj fun (l,m,_) (_) hp=>KN l m (cY hp) (cY (dS hp))) (au (av (ab (aq aY) (ab aZ ai)) aj fun (l,x,_) (_) hp=>Mj l x (cY hp)) (au (av (ab (aq aY) (ab aZ ai)) aj fun (l,x,_) (_) hp=>LQ l x (cY hp)) (au (av (ab (aq aY) (ab (aq ay) ai)) aj fun (l,id,_) (_) _=>wH l id ) (au (av (ab (aq aY) (ab (aq ay) ai)) aj fun (l,id,_) (_) _=>xC l id ) (au (av (ab aZ (ab (aq ay) ai)) aj fun (st,e,_) (_) _=>TR st e ) (au (av (ab aZ (ab aZ ai)) aj fun (st,c,_) (_) _=>Po st c ) fh)))))))
theorem Sf {op:List Opn} {t u:Int}:Fz Opn.set (nF t op) u=if u=t then none else Fz Opn.set op u:=by
 unfold Fz nF
 rw [List.find?_filter]
 by_cases h:u=t
 ·subst h
  rw [if_pos rfl]
  refine List.find?_eq_none.2 fun x _=>?_
  by_cases e:x.set=u <;> simp [e]
 ·rw [if_neg h]
  congr 1
  funext x
  by_cases e:x.set=u
  ·have:¬ x.set=t:=fun h2=>h (e.symm.trans h2)
   simp [e,h]
  ·simp [e]
theorem F_ {op:List Opn} {m a t:Int} (k:az Opn.set m a op=true) (h:0<=ao Opn.set t op):nF t op=qp op (ao Opn.set t op):=
 KR (yB List.filter_sublist k) (yB (z_ h) k) fun u=>by rw [Sf,Ku k h]
def bH (s:State) (c:Command):State × Reply:=
 if 16<=(s.snaps.length:Int)\/1048576<=s.next then (s,⟨20,0⟩)
 else if ¬ s.quota=0/\s.quota<(distF (s.snaps++[⟨0,0,c.chunks,false,⟨[]⟩⟩]):Int) then (s,⟨19,0⟩)
 else ({ s with next:=s.next+1,opens:=nF c.set s.opens,snaps:=s.snaps++[⟨s.next,c.set,c.chunks,false,⟨[]⟩⟩] },⟨0,s.next⟩)
def cK (s:State) (c:Command) (i:Nat):State × Reply:=
 if c.kind=5 then aX s i else if c.kind=7 then bI s i else if c.kind=11 then dD c s i else bV (decide (c.kind=9)) s i
section
variable {st:State} {c:Command}
theorem TE (h:16<=(st.snaps.length:Int)\/1048576<=st.next):bH st c=(st,⟨20,0⟩):=if_pos h
theorem Vn (a:(st.snaps.length:Int)<16) (b:st.next<1048576) (h:¬ st.quota=0) (h2:st.quota<(distF (st.snaps++[⟨0,0,c.chunks,false,⟨[]⟩⟩]):Int)):bH st c=(st,⟨19,0⟩):=by
 unfold bH; rw [if_neg (by omega),if_pos ⟨h,h2⟩]
theorem Wt (a:(st.snaps.length:Int)<16) (b:st.next<1048576) (h:st.quota=0\/(distF (st.snaps++[⟨0,0,c.chunks,false,⟨[]⟩⟩]):Int)<=st.quota):bH st c=({ st with next:=st.next+1,opens:=nF c.set st.opens,snaps:=st.snaps++[⟨st.next,c.set,c.chunks,false,⟨[]⟩⟩] },⟨0,st.next⟩):=by
 unfold bH; rw [if_neg (by omega),if_neg (fun h2=>h.elim h2.1 fun h=>by omega)]
variable {i:Int} {x:Snap}
theorem XQ (k:c.kind=5) (hx:st.snaps[i.toNat]? = some x) (h:x.held=true):cK st c i.toNat=(st,⟨17,0⟩):=by
 unfold cK aX; rw [if_pos k,CX hx,if_pos h]
theorem Yt (k:c.kind=5) (i0:0<=i) (hx:st.snaps[i.toNat]? = some x) (h:x.held=false) (h2:fN st i=true):cK st c i.toNat=(st,⟨18,0⟩):=by
 unfold cK aX; rw [if_pos k,CX hx,if_neg (by rw [h]; decide),Int.toNat_of_nonneg i0,if_pos h2]
theorem aaL (k:c.kind=5) (i0:0<=i) (hx:st.snaps[i.toNat]? = some x) (h:x.held=false) (h2:fN st i=false) (e:c.id=(st.snaps.getD i.toNat (dflt (.nm .snap))).id):cK st c i.toNat=(State.mk st.version st.next st.keep st.quota st.sess st.opens (aO c.id st.snaps),⟨0,(eW st.snaps c.id).length⟩):=by
 unfold cK aX; rw [if_pos k,<- e,CX hx,if_neg (by rw [h]; decide),Int.toNat_of_nonneg i0,if_neg (by rw [h2]; decide)]
theorem on7 (n:¬ c.kind=5) (k:c.kind=7) (hx:st.snaps[i.toNat]? = some x):cK st c i.toNat=(st,⟨0,x.chunks.length⟩):=by
 unfold cK bI; rw [if_neg n,if_pos k,CX hx]
theorem YR (n:¬ c.kind=5) (m:¬ c.kind=7) (k:c.kind=11):cK st c i.toNat=dD c st i.toNat:=by
 unfold cK; rw [if_neg n,if_neg m,if_pos k]
theorem XU (n:¬ c.kind=5) (m:¬ c.kind=7) (o:¬ c.kind=11) (hx:st.snaps[i.toNat]? = some x) (h:(x.held == decide (c.kind=9))=false):cK st c i.toNat=(State.mk st.version st.next st.keep st.quota st.sess st.opens (st.snaps.set i.toNat (Snap.mk (st.snaps.getD i.toNat (dflt (.nm .snap))).id (st.snaps.getD i.toNat (dflt (.nm .snap))).set (st.snaps.getD i.toNat (dflt (.nm .snap))).chunks (decide (c.kind=9)) (st.snaps.getD i.toNat (dflt (.nm .snap))).tag)),⟨0,1⟩):=by
 unfold cK bV; rw [if_neg n,if_neg m,if_neg o,if_neg (by rw [CX hx]; simpa using h)]
theorem X_ (n:¬ c.kind=5) (m:¬ c.kind=7) (o:¬ c.kind=11) (hx:st.snaps[i.toNat]? = some x) (h:(x.held == decide (c.kind=9))=true):cK st c i.toNat=(st,⟨0,0⟩):=by
 unfold cK bV; rw [if_neg n,if_neg m,if_neg o,if_pos (by rw [CX hx]; simpa using h)]
theorem onS (hx:st.snaps[i.toNat]? = some x) (h:(x.held == decide (c.kind=9))=true):st.snaps.set i.toNat (Snap.mk (st.snaps.getD i.toNat (dflt (.nm .snap))).id (st.snaps.getD i.toNat (dflt (.nm .snap))).set (st.snaps.getD i.toNat (dflt (.nm .snap))).chunks (decide (c.kind=9)) (st.snaps.getD i.toNat (dflt (.nm .snap))).tag)=st.snaps:=by
 rw [CX hx,<- (by simpa using h:x.held=decide (c.kind=9))]
 obtain ⟨hi,e⟩:=List.getElem?_eq_some_iff.1 hx
 subst e
 exact List.set_getElem_self hi
end
theorem Ct (st:State) (c:Command) (r0:Int) (r1:Int) (r2:Int) (r3:Int) (r4:Reply) (r5:List Sess) (r6:List Opn) (r7:List Snap):gV tyT yJ [] Tryz.f107 [.agg (cellsOf (.nm .state) st),.agg (cellsOf (.nm .command) c)] [] [.agg ([.int (r0),.int (r1),.int (r2),.int (r3),.own 0,.own 1,.own 2]),.agg (cellsOf (.nm .reply) r4)] [.row 82 (.nm .sess) (r5),.row 63 (.nm .opn) (r6),.row 73 (.nm .snap) (r7)]=((fun (q8:Int)=>(fun (q7:Nat)=>(fun (q6:Int)=>(fun (q5:Nat)=>(fun (q4:Int)=>(fun (q3:Int)=>(fun (q2:Int)=>(fun (q1:Prop)=>(fun (q0:List Snap)=>I64 q6->I64 q3->I64 q8->I64 q2->st.sess.length*(32:Nat)<=q7->st.opens.length*(16:Nat)<=q7->q5*(64:Nat)<=q7->I64 c.kind->I64 c.client->I64 c.seq->I64 c.set->I64 c.id->I64 c.n->c.chunks.length*(8:Nat)<=q7->c.text.b.length<=q7->((16:Int)<=(↑q5:Int)\/(1048576:Int)<=q3->I64 q6->I64 q3->I64 q8->I64 q2->I64 (20:Int)->I64 q4->q6=r0/\q3=r1/\q8=r2/\q2=r3/\(20:Int)=r4.code/\q1)/\((↑q5:Int)<(16:Int)/\q3<(1048576:Int)->(¬q2=q4->q5<(1048576:Nat)/\nch q0<=(1048576:Nat))/\((¬q2=q4->I64 (↑(distF q0):Int))->(¬q2=q4/\q2<(↑(distF q0):Int)->I64 q6->I64 q3->I64 q8->I64 q2->I64 (19:Int)->I64 q4->q6=r0/\q3=r1/\q8=r2/\q2=r3/\(19:Int)=r4.code/\q1)/\(q2=q4\/(↑(distF q0):Int)<=q2->I64 q6->I64 q3->I64 q8->I64 q2->c.chunks.length*(8:Nat)<=q7/\(q5+[Snap.mk q3 c.set c.chunks false (Str.mk [])].length)*(64:Nat)<=q7/\I64 (q3+(1:Int))/\q6=r0/\q3+(1:Int)=r1/\q8=r2/\q2=r3/\q4=r4.code/\q3=r4.n/\st.sess=r5/\nF c.set st.opens=r6/\st.snaps++[Snap.mk q3 c.set c.chunks false (Str.mk [])]=r7)))) (st.snaps++[Snap.mk q4 q4 c.chunks false (Str.mk [])])) (q4=r4.n/\st.sess=r5/\st.opens=r6/\st.snaps=r7)) st.quota) st.next) (0:Int)) st.snaps.length) st.version) (140737488355328:Nat)) st.keep):=by kernel_rfl
theorem Bm (st:State) (c:Command) (h0:st.snaps.length<1048576) (h1:nch (st.snaps++[⟨0,0,c.chunks,false,⟨[]⟩⟩])<=1048576) (h2:0<=st.next):Sat Tryz.prog (al tyT) 107 [.agg (cellsOf (.nm .state) st),.agg (cellsOf (.nm .command) c)] [] ⟨[st.snaps.length<1048576,nch (st.snaps++[⟨0,0,c.chunks,false,⟨[]⟩⟩])<=1048576,0<=st.next],[.agg ([.int (((bH st c).1.version)),.int (((bH st c).1.next)),.int (((bH st c).1.keep)),.int (((bH st c).1.quota)),.own 0,.own 1,.own 2]),.agg (cellsOf (.nm .reply) ((bH st c).2))],some ([.row 82 (.nm .sess) (((bH st c).1.sess)),.row 63 (.nm .opn) (((bH st c).1.opens)),.row 73 (.nm .snap) (((bH st c).1.snaps))]),true⟩:=by
 refine cA pH [] Tryz.func107 (by decide) (by kernel_rfl) ?_
 rw [Ct]
 (repeat' (first | with_reducible apply bu | with_reducible refine bw ?_ | intro))
 all_goals (first | exact bT | (rw [TE (by assumption)]; done) | (rw [Vn (by assumption) (by assumption) (by assumption) (by assumption)]; done) | (rw [Wt (by assumption) (by assumption) (by assumption)]; done) | (simp only [List.length_cons,List.length_nil]; omega))
theorem QF (st:State) (c:Command) (i:Int) (r0:Int) (r1:Int) (r2:Int) (r3:Int) (r4:Reply) (r5:List Sess) (r6:List Opn) (r7:List Snap):gV tyT yJ [] Tryz.f111 [.agg (cellsOf (.nm .state) st),.agg (cellsOf (.nm .command) c),.c (.int (i))] [] [.agg ([.int (r0),.int (r1),.int (r2),.int (r3),.own 0,.own 1,.own 2]),.agg (cellsOf (.nm .reply) r4)] [.row 82 (.nm .sess) (r5),.row 63 (.nm .opn) (r6),.row 73 (.nm .snap) (r7)]=((fun (q16:Int)=>(fun (q15:Nat)=>(fun (q14:Prop)=>(fun (q13:Prop)=>(fun (q12:Prop)=>(fun (q11:Prop)=>(fun (q10:Prop)=>(fun (q9:Prop)=>(fun (q8:Prop)=>(fun (q7:Bool)=>(fun (q6:Prop)=>(fun (q5:List Snap)=>(fun (q4:Nat)=>(fun (q3:Int)=>(fun (q2:Int)=>(fun (q1:Prop)=>(fun (q0:den (Sh.nm NT.snap))=>I64 q3->q14->q13->q10->st.sess.length*(32:Nat)<=q4->st.opens.length*(16:Nat)<=q4->q5.length*(64:Nat)<=q4->I64 c.kind->I64 c.client->I64 c.seq->I64 c.set->I64 c.id->I64 c.n->c.chunks.length*q15<=q4->c.text.b.length<=q4->I64 i->q2<=i/\i<(↑q5.length:Int)/\∀ (x:Snap),(fun (q21:Prop)=>(fun (q20:Prop)=>(fun (q19:Prop)=>(fun (q18:Prop)=>(fun (q17:Prop)=>q5[i.toNat]? = some x->I64 x.id->I64 x.set->x.chunks.length*q15<=q4->x.tag.b.length<=q4->(c.kind=(5:Int)->(x.held=true->I64 q3->q14->q13->q10->I64 (17:Int)->I64 q2->q19/\q9/\q8/\q6/\(17:Int)=q16/\q2=r4.n/\q1)/\(x.held=false->(fN st i=true->I64 q3->q14->q13->q10->I64 (18:Int)->I64 q2->q19/\q9/\q8/\q6/\(18:Int)=q16/\q2=r4.n/\q1)/\(fN st i=false->nch q5<=(1048576:Nat)/\((eW q5 c.id).length*q15<=q4->I64 q3->q14->q13->q10->q19/\q9/\q8/\q6/\q2=q16/\(↑(eW q5 c.id).length:Int)=r4.n/\q12/\q11/\aO c.id q5=r7))))/\(¬c.kind=(5:Int)->(c.kind=(7:Int)->I64 q3->q14->q13->q10->q19/\q9/\q8/\q6/\q2=q16/\(↑x.chunks.length:Int)=r4.n/\q1)/\(¬c.kind=(7:Int)->I64 q3->q14->q13->q10->(c.kind=(11:Int)->q2<=i/\q21/\(I64 q0.id->I64 q0.set->q18->q20->q19/\q9/\q8/\q6/\q2=q16/\q2=r4.n/\q12/\q11/\q5.set i.toNat (Snap.mk q0.id q0.set q0.chunks q0.held c.text)=r7))/\(¬c.kind=(11:Int)->((x.held == q7)=false->q2<=i/\q21/\(I64 q0.id->I64 q0.set->q18->q20->q19/\q9/\q8/\q6/\q2=q16/\(1:Int)=r4.n/\q17))/\((x.held == q7)=true->q2<=i/\q21/\(I64 q0.id->I64 q0.set->q18->q20->q19/\q9/\q8/\q6/\q2=q16/\q2=r4.n/\q17)))))) (q12/\q11/\q5.set i.toNat (Snap.mk q0.id q0.set q0.chunks q7 q0.tag)=r7)) (q0.chunks.length*q15<=q4)) (q3=r0)) (q0.tag.b.length<=q4)) (i<(↑q5.length:Int))) (q5.getD i.toNat (dflt (Sh.nm NT.snap)))) (q12/\q11/\q5=r7)) (0:Int)) st.version) (140737488355328:Nat)) st.snaps) (st.quota=r3)) (decide (c.kind=(9:Int)))) (st.keep=r2)) (st.next=r1)) (I64 st.quota)) (st.opens=r6)) (st.sess=r5)) (I64 st.keep)) (I64 st.next)) (8:Nat)) r4.code):=by kernel_rfl
theorem OX (st:State) (c:Command) (i:Int) (h0:0<=i/\i<(st.snaps.length:Int)) (h1:nch st.snaps<=1048576) (h2:c.id=(st.snaps.getD i.toNat (dflt (.nm .snap))).id) (h3:c.kind=5\/c.kind=7\/c.kind=11\/c.kind=9\/c.kind=10):Sat Tryz.prog (al tyT) 111 [.agg (cellsOf (.nm .state) st),.agg (cellsOf (.nm .command) c),.c (.int (i))] [] ⟨[0<=i/\i<(st.snaps.length:Int),nch st.snaps<=1048576,c.id=(st.snaps.getD i.toNat (dflt (.nm .snap))).id,c.kind=5\/c.kind=7\/c.kind=11\/c.kind=9\/c.kind=10],[.agg ([.int (((cK st c i.toNat).1.version)),.int (((cK st c i.toNat).1.next)),.int (((cK st c i.toNat).1.keep)),.int (((cK st c i.toNat).1.quota)),.own 0,.own 1,.own 2]),.agg (cellsOf (.nm .reply) ((cK st c i.toNat).2))],some ([.row 82 (.nm .sess) (((cK st c i.toNat).1.sess)),.row 63 (.nm .opn) (((cK st c i.toNat).1.opens)),.row 73 (.nm .snap) (((cK st c i.toNat).1.snaps))]),true⟩:=by
 refine cA pH [] Tryz.func111 (by decide) (by kernel_rfl) ?_
 rw [QF]
 (repeat' (first | with_reducible apply bu | with_reducible refine bw ?_ | intro))
 all_goals (first | exact bT | (rw [XQ ae ae ae]; first | done | rfl) | (rw [Yt ae aG ae ae ae]; first | done | rfl) | (rw [aaL ae aG ae ae ae ae]; first | done | rfl) | (rw [on7 ae ae ae]; first | done | rfl) | (rw [YR ae ae ae]; first | done | rfl) | (rw [XU ae ae ae ae ae]; first | done | rfl) | (rw [X_ ae ae ae ae ae]; first | done | rfl | exact onS ae ae))
def De:cO:=(bq 111 (bm (ah (kT (.nm .state)) (ah (kT (.nm .command)) (ah (kC cI) aH))) aI fun (st,c,i,_) (_)=>⟨[0<=i/\i<(st.snaps.length:Int),nch st.snaps<=1048576,c.id=(st.snaps.getD i.toNat (dflt (.nm .snap))).id,c.kind=5\/c.kind=7\/c.kind=11\/c.kind=9\/c.kind=10],[.agg ([.int (((cK st c i.toNat).1.version)),.int (((cK st c i.toNat).1.next)),.int (((cK st c i.toNat).1.keep)),.int (((cK st c i.toNat).1.quota)),.own 0,.own 1,.own 2]),.agg (cellsOf (.nm .reply) ((cK st c i.toNat).2))],some ([.row 82 (.nm .sess) (((cK st c i.toNat).1.sess)),.row 63 (.nm .opn) (((cK st c i.toNat).1.opens)),.row 73 (.nm .snap) (((cK st c i.toNat).1.snaps))]),true⟩) (bq 107 (bm (ah (kT (.nm .state)) (ah (kT (.nm .command)) aH)) aI fun (st,c,_) (_)=>⟨[st.snaps.length<1048576,nch (st.snaps++[⟨0,0,c.chunks,false,⟨[]⟩⟩])<=1048576,0<=st.next],[.agg ([.int (((bH st c).1.version)),.int (((bH st c).1.next)),.int (((bH st c).1.keep)),.int (((bH st c).1.quota)),.own 0,.own 1,.own 2]),.agg (cellsOf (.nm .reply) ((bH st c).2))],some ([.row 82 (.nm .sess) (((bH st c).1.sess)),.row 63 (.nm .opn) (((bH st c).1.opens)),.row 73 (.nm .snap) (((bH st c).1.snaps))]),true⟩) yJ))
theorem vH:aW Tryz.prog (al tyT) De:=(au (av (ab aZ (ab aZ (ab (aq ay) ai))) aj fun (st,c,i,_) (_) hp=>OX st c i (cY hp) (cY (dS hp)) (cY (dS (dS hp))) (cY (dS (dS (dS hp))))) (au (av (ab aZ (ab aZ ai)) aj fun (st,c,_) (_) hp=>Bm st c (cY hp) (cY (dS hp)) (cY (dS (dS hp)))) pH))
section
variable {st:State} {c:Command}
theorem uR {v:Int} (h:bc c v=0):1<=c.kind/\c.kind<=12:=by
 have n:=(At h).2.1
 by_cases k:1<=c.kind/\c.kind<=12
 ·exact k
 ·refine absurd ?_ n
  have e:∀ i:Int,1<=i->i<=12->¬ c.kind=i:=fun i h1 h2=>by omega
  simp only [a_,nu]
  simp [e 1,e 2,e 3,e 4,e 5,e 6,e 7,e 8,e 9,e 10,e 11,e 12]
theorem qo (h:(if mayF st st.version=0 then bc c st.version else 1)=0):mayF st st.version=0/\bc c st.version=0:=Fq h
theorem ZT (h:(if mayF st st.version=0 then bc c st.version else 1)=0) (k:c.kind=1\/c.kind=8):bA st c=(st,⟨1,0⟩):=by
 rw [tF h]
 rcases k with k | k <;> simp [nA,k]
theorem UH (h:(if mayF st st.version=0 then bc c st.version else 1)=0) (k:c.kind=2):bA st c=bt st c:=by
 rw [tF h]; simp [nA,k]
theorem Wh (h:(if mayF st st.version=0 then bc c st.version else 1)=0) (k:c.kind=2) (p:0<=ao Opn.set c.set st.opens):bA st c=(st,⟨16,(st.opens.getD (ao Opn.set c.set st.opens).toNat (dflt (.nm .opn))).client⟩):=by
 rw [UH h k]; exact if_pos p
theorem Tu (h:(if mayF st st.version=0 then bc c st.version else 1)=0) (k:c.kind=2) (p:ao Opn.set c.set st.opens<0):bA st c=(State.mk st.version st.next st.keep st.quota st.sess (eQ Opn.set (Opn.mk c.set c.client) st.opens) st.snaps,⟨0,0⟩):=by
 rw [UH h k,oK (x:=Opn.mk c.set c.client) (mJ (qo h).1).1 fun y hy=>qb (key:=Opn.set) (want:=c.set) p y hy]
 exact if_neg aG
theorem Wy (o:ao Opn.set c.set st.opens<0\/¬ (st.opens.getD (ao Opn.set c.set st.opens).toNat (dflt (.nm .opn))).client=c.client):bZ st c<0:=by
 unfold bZ
 split
 ·decide
 ·rename_i h
  rcases o with o | o
  ·exact o
  ·exact Int.not_le.1 fun p=>h ⟨p,o⟩
theorem VG (p:0<=ao Opn.set c.set st.opens) (o:(st.opens.getD (ao Opn.set c.set st.opens).toNat (dflt (.nm .opn))).client=c.client):bZ st c=ao Opn.set c.set st.opens:=by
 unfold bZ; exact if_neg fun h=>h.2 o
theorem VU (h:(if mayF st st.version=0 then bc c st.version else 1)=0) (k:c.kind=3):bA st c=bf st c:=by
 rw [tF h]; simp [nA,k]
theorem Uy (h:(if mayF st st.version=0 then bc c st.version else 1)=0) (k:c.kind=4):bA st c=bB st c:=by
 rw [tF h]; simp [nA,k]
theorem Zo (h:(if mayF st st.version=0 then bc c st.version else 1)=0) (k:c.kind=3\/c.kind=4) (o:ao Opn.set c.set st.opens<0\/¬ (st.opens.getD (ao Opn.set c.set st.opens).toNat (dflt (.nm .opn))).client=c.client):bA st c=(st,⟨15,0⟩):=by
 rcases k with k | k
 ·rw [VU h k]; exact if_pos (Wy o)
 ·rw [Uy h k]; exact if_pos (Wy o)
theorem Xl (h:(if mayF st st.version=0 then bc c st.version else 1)=0) (k:c.kind=3) (p:0<=ao Opn.set c.set st.opens) (o:(st.opens.getD (ao Opn.set c.set st.opens).toNat (dflt (.nm .opn))).client=c.client):bA st c=bH st c:=by
 rw [VU h k]
 unfold bf bH
 rw [VG p o,if_neg (by omega),F_ (mJ (qo h).1).1 p]
theorem VJ (h:(if mayF st st.version=0 then bc c st.version else 1)=0) (k:c.kind=4) (p:0<=ao Opn.set c.set st.opens) (o:(st.opens.getD (ao Opn.set c.set st.opens).toNat (dflt (.nm .opn))).client=c.client):bA st c=(State.mk st.version st.next st.keep st.quota st.sess (nF c.set st.opens) st.snaps,⟨0,0⟩):=by
 rw [Uy h k]
 unfold bB
 rw [VG p o,if_neg (by omega),F_ (mJ (qo h).1).1 p]
theorem YW (h:(if mayF st st.version=0 then bc c st.version else 1)=0) (k:c.kind=6):bA st c=(State.mk st.version st.next c.n st.quota st.sess st.opens st.snaps,⟨0,0⟩):=by
 rw [tF h]; simp [nA,k,ee]
theorem Zb (h:(if mayF st st.version=0 then bc c st.version else 1)=0) (k:c.kind=12):bA st c=(State.mk st.version st.next st.keep c.n st.sess st.opens st.snaps,⟨0,distF st.snaps⟩):=by
 rw [tF h]; simp [nA,k,du]
theorem wu (h:(if mayF st st.version=0 then bc c st.version else 1)=0) (k:¬ c.kind=1/\¬ c.kind=8/\¬ c.kind=2/\¬ c.kind=3/\¬ c.kind=4/\¬ c.kind=6/\¬ c.kind=12):c.kind=5\/c.kind=7\/c.kind=11\/c.kind=9\/c.kind=10:=by
 have:=uR (qo h).2
 omega
theorem UO (h:(if mayF st st.version=0 then bc c st.version else 1)=0) (k:¬ c.kind=1/\¬ c.kind=8/\¬ c.kind=2/\¬ c.kind=3/\¬ c.kind=4/\¬ c.kind=6/\¬ c.kind=12):bA st c=aD (fun s i=>cK s c i) c st:=by
 rw [tF h]
 rcases wu h k with k | k | k | k | k <;> simp [nA,k,cK]
theorem VF (h:(if mayF st st.version=0 then bc c st.version else 1)=0) (k:¬ c.kind=1/\¬ c.kind=8/\¬ c.kind=2/\¬ c.kind=3/\¬ c.kind=4/\¬ c.kind=6/\¬ c.kind=12) (p:ao Snap.id c.id st.snaps<0):bA st c=(st,⟨15,0⟩):=by
 rw [UO h k]; exact if_pos p
theorem Uj (h:(if mayF st st.version=0 then bc c st.version else 1)=0) (k:¬ c.kind=1/\¬ c.kind=8/\¬ c.kind=2/\¬ c.kind=3/\¬ c.kind=4/\¬ c.kind=6/\¬ c.kind=12) (p:0<=ao Snap.id c.id st.snaps):bA st c=cK st c (ao Snap.id c.id st.snaps).toNat:=by
 rw [UO h k]; exact if_neg (by omega)
theorem Vy (p:0<=ao Snap.id c.id st.snaps):c.id=(st.snaps.getD (ao Snap.id c.id st.snaps).toNat (dflt (.nm .snap))).id:=(ma p).1.symm
theorem Oy (h:(if mayF st st.version=0 then bc c st.version else 1)=0) (k:c.kind=3):nch (st.snaps++[⟨0,0,c.chunks,false,⟨[]⟩⟩])<=1048576:=by
 have h1:=Ay (qo h).1
 have h2:=xP (At (qo h).2).2.2.2 k
 have h3:rowF c.chunks=true:=by
  cases hr:rowF c.chunks with
  | true=>rfl
  | false=>have:=hU (l:=c.chunks) hr; omega
 have h4:=(sa h3).2
 have e:nch (st.snaps++[⟨0,0,c.chunks,false,⟨[]⟩⟩])=nch st.snaps+c.chunks.length:=by simp [nch]
 omega
end
theorem LW (st:State) (c:Command) (r0:Int) (r1:Int) (r2:Int) (r3:Int) (r4:Reply) (r5:List Sess) (r6:List Opn) (r7:List Snap):gV tyT De [] Tryz.f70 [.agg (cellsOf (.nm .state) st),.agg (cellsOf (.nm .command) c)] [] [.agg ([.int (r0),.int (r1),.int (r2),.int (r3),.own 0,.own 1,.own 2]),.agg (cellsOf (.nm .reply) r4)] [.row 82 (.nm .sess) (r5),.row 63 (.nm .opn) (r6),.row 73 (.nm .snap) (r7)]=((fun (q22:Int)=>(fun (q21:Reply)=>(fun (q20:Prop)=>(fun (q19:Prop)=>(fun (q18:den (Sh.nm NT.opn))=>(fun (q17:Prop)=>(fun (q16:Int)=>(fun (q15:List Snap)=>(fun (q14:List Opn)=>(fun (q13:Prop)=>(fun (q12:Prop)=>(fun (q11:Prop)=>(fun (q10:Int)=>(fun (q9:Int)=>(fun (q8:Int)=>(fun (q7:State)=>(fun (q6:Int)=>(fun (q5:Int)=>(fun (q4:Prop)=>(fun (q3:Int)=>(fun (q2:State × Reply)=>(fun (q1:Prop)=>(fun (q0:Prop)=>I64 q9->q20->q19->q17->st.sess.length*(32:Nat)<=(140737488355328:Nat)->q14.length*(16:Nat)<=(140737488355328:Nat)->q15.length*(64:Nat)<=(140737488355328:Nat)->I64 q10->I64 c.client->I64 c.seq->I64 c.set->I64 c.id->I64 c.n->c.chunks.length*(8:Nat)<=(140737488355328:Nat)->c.text.b.length<=(140737488355328:Nat)->I64 q5->(¬q5=q6->I64 q9->q20->q19->q17->I64 q5->I64 q6->q9=r0/\q11/\q13/\q12/\q5=q16/\q6=r4.n/\q4)/\(q5=q6->(q10=(1:Int)\/q10=(8:Int)->I64 q9->q20->q19->q17->I64 (1:Int)->I64 q6->q9=r0/\q11/\q13/\q12/\(1:Int)=q16/\q6=r4.n/\q4)/\(¬q10=(1:Int)/\¬q10=(8:Int)->I64 q9->q20->q19->q17->I64 q3->(q10=(2:Int)->(q6<=q3->(q6<=q3/\q3<(↑q14.length:Int))/\(I64 (q14.getD q3.toNat q18).set->I64 (q14.getD q3.toNat q18).client->q9=r0/\q11/\q13/\q12/\(16:Int)=q16/\(q14.getD q3.toNat q18).client=r4.n/\q4))/\(q3<q6->q14.length<(1048576:Nat)/\q9=r0/\q11/\q13/\q12/\q6=q16/\q6=r4.n/\st.sess=r5/\eQ Opn.set (Opn.mk c.set c.client) q14=r6/\q15=r7))/\(¬q10=(2:Int)->(q10=q22->(q10=q22->q1)/\(¬q10=q22->q0))/\(¬q10=q22->(q10=(4:Int)->q1)/\(¬q10=(4:Int)->q0)))))) ((q10=(6:Int)->q9=r0/\q11/\c.n=r2/\q12/\q6=q16/\q6=r4.n/\q4)/\(¬q10=(6:Int)->(q10=(12:Int)->nch q15<=(1048576:Nat)/\(I64 (↑(distF q15):Int)->q9=r0/\q11/\q13/\c.n=r3/\q6=q16/\(↑(distF q15):Int)=r4.n/\q4))/\(¬q10=(12:Int)->I64 q8->(q8<q6->I64 q9->q20->q19->q17->I64 (15:Int)->I64 q6->q9=r0/\q11/\q13/\q12/\(15:Int)=q16/\q6=r4.n/\q4)/\(q6<=q8->(q6<=q8/\q8<(↑q15.length:Int))/\nch q15<=(1048576:Nat)/\c.id=(q15.getD q8.toNat (dflt (Sh.nm NT.snap))).id/\(q10=(5:Int)\/q10=(7:Int)\/q10=(11:Int)\/q10=(9:Int)\/q10=(10:Int))/\(I64 q2.fst.version->I64 q2.fst.next->I64 q2.fst.keep->I64 q2.fst.quota->I64 q2.snd.code->I64 q2.snd.n->q2.fst.version=r0/\q2.fst.next=r1/\q2.fst.keep=r2/\q2.fst.quota=r3/\q2.snd.code=q16/\q2.snd.n=r4.n/\q2.fst.sess=r5/\q2.fst.opens=r6/\q2.fst.snaps=r7)))))) ((q6<=q3->q6<=q3/\q3<(↑q14.length:Int))/\((q6<=q3->I64 (q14.getD q3.toNat q18).set/\I64 (q14.getD q3.toNat q18).client)->(q3<q6\/¬(q14.getD q3.toNat q18).client=c.client->I64 q9->q20->q19->q17->I64 (15:Int)->I64 q6->q9=r0/\q11/\q13/\q12/\(15:Int)=q16/\q6=r4.n/\q4)/\(q6<=q3/\(q14.getD q3.toNat q18).client=c.client->(q10=q22->q15.length<(1048576:Nat)/\nch (q15++[Snap.mk q6 q6 c.chunks false (Str.mk [])])<=(1048576:Nat)/\q6<=st.next/\(I64 q7.version->I64 q7.next->I64 q7.keep->I64 q7.quota->I64 q21.code->I64 q21.n->q7.version=r0/\q7.next=r1/\q7.keep=r2/\q7.quota=r3/\q21.code=q16/\q21.n=r4.n/\q7.sess=r5/\q7.opens=r6/\q7.snaps=r7))/\(¬q10=q22->q9=r0/\q11/\q13/\q12/\q6=q16/\q6=r4.n/\st.sess=r5/\nF c.set q14=r6/\q15=r7))))) (cK st c q8.toNat)) (ao Opn.set c.set q14)) (st.sess=r5/\q14=r6/\q15=r7)) (if mayF st q9=q6 then bc c q9 else (1:Int))) (0:Int)) (bH st c).fst) (ao Snap.id c.id q15)) st.version) c.kind) (st.next=r1)) (st.quota=r3)) (st.keep=r2)) st.opens) st.snaps) r4.code) (I64 st.quota)) (dflt (Sh.nm NT.opn))) (I64 st.keep)) (I64 st.next)) (bH st c).snd) (3:Int)):=by kernel_rfl
theorem MA (st:State) (c:Command):Sat Tryz.prog (al tyT) 70 [.agg (cellsOf (.nm .state) st),.agg (cellsOf (.nm .command) c)] [] ⟨[],[.agg ([.int (((bA st c).1.version)),.int (((bA st c).1.next)),.int (((bA st c).1.keep)),.int (((bA st c).1.quota)),.own 0,.own 1,.own 2]),.agg (cellsOf (.nm .reply) ((bA st c).2))],some ([.row 82 (.nm .sess) (((bA st c).1.sess)),.row 63 (.nm .opn) (((bA st c).1.opens)),.row 73 (.nm .snap) (((bA st c).1.snaps))]),true⟩:=by
 refine cA vH [] Tryz.func70 (by decide) (by kernel_rfl) ?_
 rw [LW]
 (repeat' (first | with_reducible apply bu | with_reducible refine bw ?_ | intro))
 all_goals (first | exact bT | exact (xF ae) | exact (Fk ae) | exact (vC ae) | exact (DH ae) | exact (Ji ae) | exact cJ ae | exact Vy ae | exact Oy ae ae | exact wu ae aG | (rw [Up ae]; done) | (rw [ZT (by assumption) (by assumption)]; first | done | rfl) | (rw [Wh (by assumption) (by assumption) (by assumption)]; first | done | rfl) | (rw [Tu (by assumption) (by assumption) (by assumption)]; first | done | rfl) | (rw [Zo (by assumption) aG (by assumption)]; first | done | rfl) | (rw [Xl (by assumption) (by assumption) (by assumption) (by assumption)]; first | done | rfl) | (rw [VJ (by assumption) (by first | assumption | (have:=uR (qo (by assumption)).2; omega)) (by assumption) (by assumption)]; first | done | rfl) | (rw [YW (by assumption) (by assumption)]; first | done | rfl) | (rw [Zb (by assumption) (by assumption)]; first | done | rfl) | (rw [VF (by assumption) aG (by assumption)]; first | done | rfl) | (rw [Uj (by assumption) aG (by assumption)]; first | done | rfl))
def Jw:cO:=(bq 70 (bm (ah (kT (.nm .state)) (ah (kT (.nm .command)) aH)) aI fun (st,c,_) (_)=>⟨[],[.agg ([.int (((bA st c).1.version)),.int (((bA st c).1.next)),.int (((bA st c).1.keep)),.int (((bA st c).1.quota)),.own 0,.own 1,.own 2]),.agg (cellsOf (.nm .reply) ((bA st c).2))],some ([.row 82 (.nm .sess) (((bA st c).1.sess)),.row 63 (.nm .opn) (((bA st c).1.opens)),.row 73 (.nm .snap) (((bA st c).1.snaps))]),true⟩) De)
theorem vy:aW Tryz.prog (al tyT) Jw:=(au (av (ab aZ (ab aZ ai)) aj fun (st,c,_) (_) _=>MA st c ) vH)
section
variable {st:State} {c:Command}
theorem YS (h:(if mayF st st.version=0 then bc c st.version else 1)=0) (k:c.kind=1) (p:ao Sess.client c.client st.sess<0):dP st c=(State.mk st.version st.next st.keep st.quota (eQ Sess.client (Sess.mk c.client 0 (Reply.mk 0 0)) st.sess) st.opens st.snaps,⟨0,0⟩):=by
 rw [TH h k p,oK (x:=Sess.mk c.client 0 (Reply.mk 0 0)) (DQ (qo h).1).1 fun y hy=>qb (key:=Sess.client) (want:=c.client) p y hy]
theorem XO (h:(if mayF st st.version=0 then bc c st.version else 1)=0) (k8:¬ c.kind=8) (k1:¬ c.kind=1) (p:ao Sess.client c.client st.sess<0):dP st c=(st,⟨11,0⟩):=(Tc h k8 k1).trans (as1 p)
theorem Zn (h:(if mayF st st.version=0 then bc c st.version else 1)=0) (k8:¬ c.kind=8) (k1:¬ c.kind=1) (p:0<=ao Sess.client c.client st.sess) (e:c.seq=(st.sess.getD (ao Sess.client c.client st.sess).toNat (dflt (.nm .sess))).seq):dP st c=(st,(st.sess.getD (ao Sess.client c.client st.sess).toNat (dflt (.nm .sess))).last):=(Tc h k8 k1).trans (as2 p e)
theorem Zk (h:(if mayF st st.version=0 then bc c st.version else 1)=0) (k8:¬ c.kind=8) (k1:¬ c.kind=1) (p:0<=ao Sess.client c.client st.sess) (e:c.seq<(st.sess.getD (ao Sess.client c.client st.sess).toNat (dflt (.nm .sess))).seq):dP st c=(st,⟨13,0⟩):=(Tc h k8 k1).trans (as3 p (by omega) e)
theorem YV (h:(if mayF st st.version=0 then bc c st.version else 1)=0) (k8:¬ c.kind=8) (k1:¬ c.kind=1) (p:0<=ao Sess.client c.client st.sess) (e:(st.sess.getD (ao Sess.client c.client st.sess).toNat (dflt (.nm .sess))).seq+1<c.seq):dP st c=(st,⟨14,0⟩):=(Tc h k8 k1).trans (as4 p (by omega) (by omega) e)
theorem YZ (h:(if mayF st st.version=0 then bc c st.version else 1)=0) (k8:¬ c.kind=8) (k1:¬ c.kind=1) (p:0<=ao Sess.client c.client st.sess) (e:¬ c.seq=(st.sess.getD (ao Sess.client c.client st.sess).toNat (dflt (.nm .sess))).seq) (e1:(st.sess.getD (ao Sess.client c.client st.sess).toNat (dflt (.nm .sess))).seq<=c.seq) (e2:c.seq<=(st.sess.getD (ao Sess.client c.client st.sess).toNat (dflt (.nm .sess))).seq+1) :
  dP st c=(State.mk (bA st c).1.version (bA st c).1.next (bA st c).1.keep (bA st c).1.quota ((bA st c).1.sess.set (ao Sess.client c.client st.sess).toNat (Sess.mk c.client c.seq (bA st c).2)) (bA st c).1.opens (bA st c).1.snaps,(bA st c).2):=by
 rw [Lu (qo h).1 (qo h).2 k8 k1 p (by omega),(ma (d:=dflt (.nm .sess)) p).1,jL]
theorem Yc (h:(if mayF st st.version=0 then bc c st.version else 1)=0) (p:0<=ao Sess.client c.client st.sess):I64 ((st.sess.getD (ao Sess.client c.client st.sess).toNat (dflt (.nm .sess))).seq+1):=Vb (v:=st.version) (nx:=st.next) (kp:=st.keep) (qt:=st.quota) (op:=st.opens) (sn:=st.snaps) h p
theorem Tz (p:0<=ao Sess.client c.client st.sess):ao Sess.client c.client st.sess<((bA st c).1.sess.length:Int):=by rw [jL]; exact cJ p
end
theorem P_ (st:State) (c:Command) (r0:Int) (r1:Int) (r2:Int) (r3:Int) (r4:Reply) (r5:List Sess) (r6:List Opn) (r7:List Snap):gV tyT Jw [] Tryz.f36 [.agg (cellsOf (.nm .state) st),.agg (cellsOf (.nm .command) c)] [] [.agg ([.int (r0),.int (r1),.int (r2),.int (r3),.own 0,.own 1,.own 2]),.agg (cellsOf (.nm .reply) r4)] [.row 82 (.nm .sess) (r5),.row 63 (.nm .opn) (r6),.row 73 (.nm .snap) (r7)]=((fun (q19:Prop)=>(fun (q18:den (Sh.nm NT.sess))=>(fun (q17:Reply)=>(fun (q16:Int)=>(fun (q15:Nat)=>(fun (q14:Prop)=>(fun (q13:Prop)=>(fun (q12:Int)=>(fun (q11:Prop)=>(fun (q10:Prop)=>(fun (q9:Prop)=>(fun (q8:Prop)=>(fun (q7:Prop)=>(fun (q6:Int)=>(fun (q5:Int)=>(fun (q4:State)=>(fun (q3:Int)=>(fun (q2:Prop)=>(fun (q1:Int)=>(fun (q0:den (Sh.nm NT.sess))=>I64 q6->q14->q13->q11->q15*(32:Nat)<=(140737488355328:Nat)->st.opens.length*(16:Nat)<=(140737488355328:Nat)->st.snaps.length*(64:Nat)<=(140737488355328:Nat)->I64 c.kind->I64 c.client->I64 c.seq->I64 c.set->I64 c.id->I64 c.n->c.chunks.length*(8:Nat)<=(140737488355328:Nat)->c.text.b.length<=(140737488355328:Nat)->I64 q3->(¬q3=q5->I64 q6->q14->q13->q11->I64 q3->I64 q5->q6=r0/\q10/\q9/\q8/\q3=q16/\q2)/\(q3=q5->I64 q1->I64 q6->q14->q13->q11->(c.kind=(8:Int)->I64 (q6+q12)/\(¬c.n=q6+q12->I64 q6->q14->q13->q11->I64 q12->I64 q5->q6=r0/\q10/\q9/\q8/\q12=q16/\q2)/\(c.n=q6+q12->c.n=r0/\q10/\q9/\q8/\q5=q16/\c.n=r4.n/\q7))/\(¬c.kind=(8:Int)->(c.kind=q12->(q5<=q1->I64 q6->q14->q13->q11->I64 (12:Int)->I64 q5->q6=r0/\q10/\q9/\q8/\(12:Int)=q16/\q2)/\(q1<q5->q15<(1048576:Nat)/\q6=r0/\q10/\q9/\q8/\q5=q16/\q5=r4.n/\eQ Sess.client (Sess.mk c.client q5 (Reply.mk q5 q5)) st.sess=r5/\q19))/\(¬c.kind=q12->(q1<q5->I64 q6->q14->q13->q11->I64 (11:Int)->I64 q5->q6=r0/\q10/\q9/\q8/\(11:Int)=q16/\q2)/\(q5<=q1->q5<=q1/\q1<(↑q15:Int)/\(I64 q0.client->I64 q0.seq->I64 q0.last.code->I64 q0.last.n->(c.seq=q0.seq->(q5<=q1/\q1<(↑q15:Int))/\(I64 q0.client->I64 q0.seq->I64 q0.last.code->I64 q0.last.n->q6=r0/\q10/\q9/\q8/\q0.last.code=q16/\q0.last.n=r4.n/\q7))/\(¬c.seq=q0.seq->q5<=q1/\q1<(↑q15:Int)/\(I64 q0.client->I64 q0.seq->I64 q0.last.code->I64 q0.last.n->(c.seq<q0.seq->I64 q6->q14->q13->q11->I64 (13:Int)->I64 q5->q6=r0/\q10/\q9/\q8/\(13:Int)=q16/\q2)/\(q0.seq<=c.seq->q5<=q1/\q1<(↑q15:Int)/\I64 (q0.seq+q12)/\(I64 q0.client->I64 q0.seq->I64 q0.last.code->I64 q0.last.n->(q0.seq+q12<c.seq->I64 q6->q14->q13->q11->I64 (14:Int)->I64 q5->q6=r0/\q10/\q9/\q8/\(14:Int)=q16/\q2)/\(c.seq<=q0.seq+q12->I64 q4.version->I64 q4.next->I64 q4.keep->I64 q4.quota->I64 q17.code->I64 q17.n->q5<=q1/\q1<(↑q4.sess.length:Int)/\(I64 (q4.sess.getD q1.toNat q18).client->I64 (q4.sess.getD q1.toNat q18).seq->I64 (q4.sess.getD q1.toNat q18).last.code->I64 (q4.sess.getD q1.toNat q18).last.n->q4.version=r0/\q4.next=r1/\q4.keep=r2/\q4.quota=r3/\q17.code=q16/\q17.n=r4.n/\q4.sess.set q1.toNat (Sess.mk c.client c.seq q17)=r5/\q4.opens=r6/\q4.snaps=r7)))))))))))) (st.sess.getD q1.toNat q18)) (ao Sess.client c.client st.sess)) (q5=r4.n/\q7)) (if mayF st q6=q5 then bc c q6 else q12)) (bA st c).fst) (0:Int)) st.version) (st.sess=r5/\q19)) (st.quota=r3)) (st.keep=r2)) (st.next=r1)) (I64 st.quota)) (1:Int)) (I64 st.keep)) (I64 st.next)) st.sess.length) r4.code) (bA st c).snd) (dflt (Sh.nm NT.sess))) (st.opens=r6/\st.snaps=r7)):=by kernel_rfl
theorem SW (st:State) (c:Command):Sat Tryz.prog (al tyT) 36 [.agg (cellsOf (.nm .state) st),.agg (cellsOf (.nm .command) c)] [] ⟨[],[.agg ([.int (((dP st c).1.version)),.int (((dP st c).1.next)),.int (((dP st c).1.keep)),.int (((dP st c).1.quota)),.own 0,.own 1,.own 2]),.agg (cellsOf (.nm .reply) ((dP st c).2))],some ([.row 82 (.nm .sess) (((dP st c).1.sess)),.row 63 (.nm .opn) (((dP st c).1.opens)),.row 73 (.nm .snap) (((dP st c).1.snaps))]),true⟩:=by
 refine cA vy [] Tryz.func36 (by decide) (by kernel_rfl) ?_
 rw [P_]
 (repeat' (first | with_reducible apply bu | with_reducible refine bw ?_ | intro))
 all_goals (first | exact bT | exact (xF ae) | exact (Fk ae) | exact (vC ae) | exact (DH ae) | exact (Ji ae) | exact Wd ae | exact vC ae | exact cJ ae | exact Yc ae ae | exact Tz ae | (rw [doE ae]; done) | (rw [VM ae ae ae]; first | done | rfl) | (rw [Vo ae ae ae]; first | done | rfl) | (rw [Xg ae ae ae]; first | done | rfl) | (rw [YS ae ae ae]; first | done | rfl) | (rw [XO ae ae ae ae]; first | done | rfl) | (rw [Zn ae ae ae ae ae]; first | done | rfl) | (rw [Zk ae ae ae ae ae]; first | done | rfl) | (rw [YV ae ae ae ae ae]; first | done | rfl) | (rw [YZ ae ae ae ae ae ae ae]; first | done | rfl))
def NF:cO:=(bq 36 (bm (ah (kT (.nm .state)) (ah (kT (.nm .command)) aH)) aI fun (st,c,_) (_)=>⟨[],[.agg ([.int (((dP st c).1.version)),.int (((dP st c).1.next)),.int (((dP st c).1.keep)),.int (((dP st c).1.quota)),.own 0,.own 1,.own 2]),.agg (cellsOf (.nm .reply) ((dP st c).2))],some ([.row 82 (.nm .sess) (((dP st c).1.sess)),.row 63 (.nm .opn) (((dP st c).1.opens)),.row 73 (.nm .snap) (((dP st c).1.snaps))]),true⟩) Jw)
theorem Ez:aW Tryz.prog (al tyT) NF:=(au (av (ab aZ (ab aZ ai)) aj fun (st,c,_) (_) _=>SW st c ) vy)
section
variable {l:List Int} {k:Nat} {x:Int}
end
def N_:cO:=NF
theorem Hh:aW Tryz.prog (al tyT) N_:=Ez
section
variable {st:State} {v:Int}
end
def NC:cO:=N_
theorem Ib:aW Tryz.prog (al tyT) NC:=Hh
def Nw:cO:=NC
theorem Fc:aW Tryz.prog (al tyT) Nw:=Ib
def Nu:cO:=Nw
theorem ES:aW Tryz.prog (al tyT) Nu:=Fc
def NN:cO:=Nu
theorem HI:aW Tryz.prog (al tyT) NN:=ES
def Nq:cO:=NN
theorem Dn:aW Tryz.prog (al tyT) Nq:=HI
def qZ:cO:=Nq
theorem ji:aW Tryz.prog (al tyT) qZ:=Dn
def gq (s:State) (l:List Command):State:=l.foldl (fun s c=>(dP s c).1) s
def fx (s:State):List Command->List Reply
 | []=>[]
 | c :: l=>(dP s c).2 :: fx (dP s c).1 l
section
variable {s:State} {l:List Command} {x:Command} {k:Nat}
theorem vh:∀ {l:List Command} {s:State},fx s (l++[x])=fx s l++[(dP (gq s l) x).2]
 | [],_=>rfl
 | c :: l,s=>by
  show (dP s c).2 :: fx (dP s c).1 (l++[x])=(dP s c).2 :: (fx (dP s c).1 l++[(dP (gq (dP s c).1 l) x).2])
  rw [vh]
theorem kr (hx:l[k]? = some x):(dP (gq s (l.take k)) x).1=gq s (l.take (k+1)):=by
 rw [ax hx]; unfold gq; rw [List.foldl_append]; rfl
theorem Pn (hx:l[k]? = some x):fx s (l.take k)++[(dP (gq s (l.take k)) x).2]=fx s (l.take (k+1)):=by
 rw [ax hx,vh]
theorem yU:∀ {l:List Command} {s:State},(fx s l).length=l.length
 | [],_=>rfl
 | c :: l,s=>by
  show (fx (dP s c).1 l).length+1=l.length+1
  rw [yU]
end
section
variable {s:State} {l:List Command} {x:Command} {k:Nat} {d:Command}
theorem SG {y:Reply} (h:(k:Int)<l.length) (hl:l.length*88<=140737488355328):((fx s (l.take k)).length+[y].length)*16<=140737488355328:=by
 rw [yU,List.length_take]; simp only [List.length_cons,List.length_nil]; omega
theorem aaH (h:(l.length:Int)<=k):l.take k=l:=List.take_of_length_le (by omega)
end
theorem UA {a b:List Reply} {k:Nat} (h:a.take k=b.take k) (e:(a.getD k (dflt (.nm .reply))).code=(b.getD k (dflt (.nm .reply))).code) (e2:(a.getD k (dflt (.nm .reply))).n=(b.getD k (dflt (.nm .reply))).n) (hk:(k:Int)<a.length) (hb:(k:Int)<b.length):a.take (k+1)=b.take (k+1):=vV (d:=dflt (.nm .reply)) h (by omega) (by omega) (by
 cases ha:a.getD k (dflt (.nm .reply)); cases hc:b.getD k (dflt (.nm .reply)); rw [ha,hc] at e e2; cases e; cases e2; rfl)
theorem Xk {a b:List Reply} {k:Nat} (e:¬ (a.getD k (dflt (.nm .reply))).code=(b.getD k (dflt (.nm .reply))).code\/¬ (a.getD k (dflt (.nm .reply))).n=(b.getD k (dflt (.nm .reply))).n):false=decide (a=b):=by
 symm; apply decide_eq_false; rintro rfl; simp at e
def cZ:List Command:=[Command.mk 1 1 0 0 0 0 [] (Str.mk []),Command.mk 2 1 1 2 0 0 [] (Str.mk []),Command.mk 2 1 1 2 0 0 [] (Str.mk [])]
def yw (st:State):List (Nat × LI):=[(7,{ σ:=Nat,F:=fun k=>([(1,one (.ptr 0 0)),(2,one (.ptr 1 0)),(3,one (.own 2)),(4,one (.int k))],[.box 43 ([.int ((st.version)),.int ((st.next)),.int ((st.keep)),.int ((st.quota)),.fz (.nm .sess) ((st.sess.take 20)),.fz (.nm .opn) ((st.opens.take 20)),.fz (.nm .snap) ((st.snaps))]),.box 43 ([.int ((0)),.int ((0)),.int ((0)),.int ((0)),.em true,.em true,.em true]),.row 73 (.nm .snap) (((eK st).snaps.take k))]),J:=fun k=>k<=(eK st).snaps.length,μ:=fun k=>st.snaps.length - k })]
def Oh (st:State) (l:List Command):List (Nat × LI):=[(4,{ σ:=Nat,F:=fun k=>([(2,one (.ptr 0 0)),(4,one (.ptr 1 0)),(6,one (.own 5)),(12,one (.fz (.nm .command) (l))),(13,one (.int (l).length)),(14,one (.int k))],[.box 43 ([.int ((((gq st (l.take k))).version)),.int ((((gq st (l.take k))).next)),.int ((((gq st (l.take k))).keep)),.int ((((gq st (l.take k))).quota)),.own 2,.own 3,.own 4]),.box 43 ([.int ((0)),.int ((0)),.int ((0)),.int ((0)),.em true,.em true,.em true]),.row 82 (.nm .sess) (((gq st (l.take k)).sess)),.row 63 (.nm .opn) (((gq st (l.take k)).opens)),.row 73 (.nm .snap) (((gq st (l.take k)).snaps)),.row 56 (.nm .reply) ((fx st (l.take k)))]),J:=fun k=>k<=l.length,μ:=fun k=>l.length - k })]
def Al (a:List Reply) (b:List Reply):List (Nat × LI):=[(4,{ σ:=Nat,F:=fun k=>([(0,one (.fz (.nm .reply) (a))),(1,one (.fz (.nm .reply) (b))),(5,one (.int k))],[]),J:=fun k=>k<=a.length/\a.length=b.length/\a.take k=b.take k,μ:=fun k=>a.length - k })]
theorem Ej (st:State) (r0:State):ck tyT qZ (yw st) Tryz.f14 [.agg (cellsOf (.nm .state) st)] [] [.agg (cellsOf (.nm .state) r0)]=((fun (q23:Nat)=>(fun (q22:Prop)=>(fun (q21:Prop)=>(fun (q20:Prop)=>(fun (q19:Prop)=>(fun (q18:Int)=>(fun (q17:Nat)=>(fun (q16:Nat)=>(fun (q15:Int)=>(fun (q14:Nat)=>(fun (q13:Int)=>(fun (q12:Int)=>(fun (q11:Nat)=>(fun (q10:Int)=>(fun (q9:Int)=>(fun (q8:Prop)=>(fun (q7:Prop)=>(fun (q6:Prop)=>(fun (q5:Prop)=>(fun (q4:List Snap)=>(fun (q3:List (den (Sh.nm NT.sess)))=>(fun (q2:List (den (Sh.nm NT.opn)))=>(fun (q1:List Snap)=>(fun (q0:Prop)=>I64 st.version->I64 st.next->I64 st.keep->I64 st.quota->q23*(32:Nat)<=q11->st.opens.length*(16:Nat)<=q11->q4.length*q14<=q11->(q13<(↑q23:Int)->q12<=q13/\q13<=(↑q23:Int)/\(q13<q18->q12<=q13/\q13<=q18/\∃ (s0:Nat),(fun (q25:Nat)=>(fun (q24:Nat)=>(q12=(↑s0:Int)/\q5/\q8/\q7/\q6/\q3=q3/\q2=q2/\q4=q4/\q0/\q0/\q0/\q0/\List.take s0 q1=[])/\s0<=q25/\∀ (s:Nat),(fun (q27:List (den (Sh.nm NT.snap)))=>(fun (q26:Int)=>s<=q25->((↑s:Int)<(↑q4.length:Int)/\(↑s:Int)<q13->q12<=(↑s:Int)/\(↑s:Int)<(↑q4.length:Int)/\∀ (x:Snap),(fun (q32:Nat)=>(fun (q31:Snap)=>(fun (q30:Snap)=>(fun (q29:Snap)=>(fun (q28:Int)=>q4[s]? = some x->I64 x.id->I64 x.set->q32*(8:Nat)<=q11->x.tag.b.length<=q11->(q15<(↑q32:Int)->q12<=q15/\q15<=(↑q32:Int)/\(q10<q28->q12<=q10/\q10<=q28/\(q27.length+[q29].length)*q14<=q11/\I64 q26/\∃ (s':Nat),(q26=(↑s':Int)/\q5/\q8/\q7/\q6/\q3=q3/\q2=q2/\q4=q4/\q0/\q0/\q0/\q0/\q27++[q29]=List.take s' q1)/\s' <= q25/\q24 - s' < q24 - s)/\(q28<=q10->(q27.length+[q31].length)*q14<=q11/\I64 q26/\∃ (s':Nat),(q26=(↑s':Int)/\q5/\q8/\q7/\q6/\q3=q3/\q2=q2/\q4=q4/\q0/\q0/\q0/\q0/\q27++[q31]=List.take s' q1)/\s' <= q25/\q24 - s' < q24 - s))/\((↑q32:Int)<=q15->(q10<q28->q12<=q10/\q10<=q28/\(q27.length+[q30].length)*q14<=q11/\I64 q26/\∃ (s':Nat),(q26=(↑s':Int)/\q5/\q8/\q7/\q6/\q3=q3/\q2=q2/\q4=q4/\q0/\q0/\q0/\q0/\q27++[q30]=List.take s' q1)/\s' <= q25/\q24 - s' < q24 - s)/\(q28<=q10->(q27.length+[x].length)*q14<=q11/\I64 q26/\∃ (s':Nat),(q26=(↑s':Int)/\q5/\q8/\q7/\q6/\q3=q3/\q2=q2/\q4=q4/\q0/\q0/\q0/\q0/\q27++[x]=List.take s' q1)/\s' <= q25/\q24 - s' < q24 - s))) (↑x.tag.b.length:Int)) (Snap.mk x.id x.set (List.take q16 x.chunks) x.held (Str.mk (List.take q17 x.tag.b)))) (Snap.mk x.id x.set x.chunks x.held (Str.mk (List.take q17 x.tag.b)))) (Snap.mk x.id x.set (List.take q16 x.chunks) x.held x.tag)) x.chunks.length)/\((↑q4.length:Int)<=(↑s:Int)\/q13<=(↑s:Int)->q19/\q22/\q21/\q20/\q3=r0.sess/\q2=r0.opens/\q27=r0.snaps)) ((↑s:Int)+q9)) (List.take s q1)) q4.length) q1.length)/\(q18<=q13->∃ (s0:Nat),(fun (q34:Nat)=>(fun (q33:Nat)=>(q12=(↑s0:Int)/\q5/\q8/\q7/\q6/\q3=q3/\st.opens=q2/\q4=q4/\q0/\q0/\q0/\q0/\List.take s0 q1=[])/\s0<=q34/\∀ (s:Nat),(fun (q36:List (den (Sh.nm NT.snap)))=>(fun (q35:Int)=>s<=q34->((↑s:Int)<(↑q4.length:Int)/\(↑s:Int)<q13->q12<=(↑s:Int)/\(↑s:Int)<(↑q4.length:Int)/\∀ (x:Snap),(fun (q41:Nat)=>(fun (q40:Snap)=>(fun (q39:Snap)=>(fun (q38:Snap)=>(fun (q37:Int)=>q4[s]? = some x->I64 x.id->I64 x.set->q41*(8:Nat)<=q11->x.tag.b.length<=q11->(q15<(↑q41:Int)->q12<=q15/\q15<=(↑q41:Int)/\(q10<q37->q12<=q10/\q10<=q37/\(q36.length+[q38].length)*q14<=q11/\I64 q35/\∃ (s':Nat),(q35=(↑s':Int)/\q5/\q8/\q7/\q6/\q3=q3/\q2=q2/\q4=q4/\q0/\q0/\q0/\q0/\q36++[q38]=List.take s' q1)/\s' <= q34/\q33 - s' < q33 - s)/\(q37<=q10->(q36.length+[q40].length)*q14<=q11/\I64 q35/\∃ (s':Nat),(q35=(↑s':Int)/\q5/\q8/\q7/\q6/\q3=q3/\q2=q2/\q4=q4/\q0/\q0/\q0/\q0/\q36++[q40]=List.take s' q1)/\s' <= q34/\q33 - s' < q33 - s))/\((↑q41:Int)<=q15->(q10<q37->q12<=q10/\q10<=q37/\(q36.length+[q39].length)*q14<=q11/\I64 q35/\∃ (s':Nat),(q35=(↑s':Int)/\q5/\q8/\q7/\q6/\q3=q3/\q2=q2/\q4=q4/\q0/\q0/\q0/\q0/\q36++[q39]=List.take s' q1)/\s' <= q34/\q33 - s' < q33 - s)/\(q37<=q10->(q36.length+[x].length)*q14<=q11/\I64 q35/\∃ (s':Nat),(q35=(↑s':Int)/\q5/\q8/\q7/\q6/\q3=q3/\q2=q2/\q4=q4/\q0/\q0/\q0/\q0/\q36++[x]=List.take s' q1)/\s' <= q34/\q33 - s' < q33 - s))) (↑x.tag.b.length:Int)) (Snap.mk x.id x.set (List.take q16 x.chunks) x.held (Str.mk (List.take q17 x.tag.b)))) (Snap.mk x.id x.set x.chunks x.held (Str.mk (List.take q17 x.tag.b)))) (Snap.mk x.id x.set (List.take q16 x.chunks) x.held x.tag)) x.chunks.length)/\((↑q4.length:Int)<=(↑s:Int)\/q13<=(↑s:Int)->q19/\q22/\q21/\q20/\q3=r0.sess/\q2=r0.opens/\q36=r0.snaps)) ((↑s:Int)+q9)) (List.take s q1)) q4.length) q1.length))/\((↑q23:Int)<=q13->(q13<q18->q12<=q13/\q13<=q18/\∃ (s0:Nat),(fun (q43:Nat)=>(fun (q42:Nat)=>(q12=(↑s0:Int)/\q5/\q8/\q7/\q6/\st.sess=q3/\q2=q2/\q4=q4/\q0/\q0/\q0/\q0/\List.take s0 q1=[])/\s0<=q43/\∀ (s:Nat),(fun (q45:List (den (Sh.nm NT.snap)))=>(fun (q44:Int)=>s<=q43->((↑s:Int)<(↑q4.length:Int)/\(↑s:Int)<q13->q12<=(↑s:Int)/\(↑s:Int)<(↑q4.length:Int)/\∀ (x:Snap),(fun (q50:Nat)=>(fun (q49:Snap)=>(fun (q48:Snap)=>(fun (q47:Snap)=>(fun (q46:Int)=>q4[s]? = some x->I64 x.id->I64 x.set->q50*(8:Nat)<=q11->x.tag.b.length<=q11->(q15<(↑q50:Int)->q12<=q15/\q15<=(↑q50:Int)/\(q10<q46->q12<=q10/\q10<=q46/\(q45.length+[q47].length)*q14<=q11/\I64 q44/\∃ (s':Nat),(q44=(↑s':Int)/\q5/\q8/\q7/\q6/\q3=q3/\q2=q2/\q4=q4/\q0/\q0/\q0/\q0/\q45++[q47]=List.take s' q1)/\s' <= q43/\q42 - s' < q42 - s)/\(q46<=q10->(q45.length+[q49].length)*q14<=q11/\I64 q44/\∃ (s':Nat),(q44=(↑s':Int)/\q5/\q8/\q7/\q6/\q3=q3/\q2=q2/\q4=q4/\q0/\q0/\q0/\q0/\q45++[q49]=List.take s' q1)/\s' <= q43/\q42 - s' < q42 - s))/\((↑q50:Int)<=q15->(q10<q46->q12<=q10/\q10<=q46/\(q45.length+[q48].length)*q14<=q11/\I64 q44/\∃ (s':Nat),(q44=(↑s':Int)/\q5/\q8/\q7/\q6/\q3=q3/\q2=q2/\q4=q4/\q0/\q0/\q0/\q0/\q45++[q48]=List.take s' q1)/\s' <= q43/\q42 - s' < q42 - s)/\(q46<=q10->(q45.length+[x].length)*q14<=q11/\I64 q44/\∃ (s':Nat),(q44=(↑s':Int)/\q5/\q8/\q7/\q6/\q3=q3/\q2=q2/\q4=q4/\q0/\q0/\q0/\q0/\q45++[x]=List.take s' q1)/\s' <= q43/\q42 - s' < q42 - s))) (↑x.tag.b.length:Int)) (Snap.mk x.id x.set (List.take q16 x.chunks) x.held (Str.mk (List.take q17 x.tag.b)))) (Snap.mk x.id x.set x.chunks x.held (Str.mk (List.take q17 x.tag.b)))) (Snap.mk x.id x.set (List.take q16 x.chunks) x.held x.tag)) x.chunks.length)/\((↑q4.length:Int)<=(↑s:Int)\/q13<=(↑s:Int)->q19/\q22/\q21/\q20/\q3=r0.sess/\q2=r0.opens/\q45=r0.snaps)) ((↑s:Int)+q9)) (List.take s q1)) q4.length) q1.length)/\(q18<=q13->∃ (s0:Nat),(fun (q52:Nat)=>(fun (q51:Nat)=>(q12=(↑s0:Int)/\q5/\q8/\q7/\q6/\st.sess=q3/\st.opens=q2/\q4=q4/\q0/\q0/\q0/\q0/\List.take s0 q1=[])/\s0<=q52/\∀ (s:Nat),(fun (q54:List (den (Sh.nm NT.snap)))=>(fun (q53:Int)=>s<=q52->((↑s:Int)<(↑q4.length:Int)/\(↑s:Int)<q13->q12<=(↑s:Int)/\(↑s:Int)<(↑q4.length:Int)/\∀ (x:Snap),(fun (q59:Nat)=>(fun (q58:Snap)=>(fun (q57:Snap)=>(fun (q56:Snap)=>(fun (q55:Int)=>q4[s]? = some x->I64 x.id->I64 x.set->q59*(8:Nat)<=q11->x.tag.b.length<=q11->(q15<(↑q59:Int)->q12<=q15/\q15<=(↑q59:Int)/\(q10<q55->q12<=q10/\q10<=q55/\(q54.length+[q56].length)*q14<=q11/\I64 q53/\∃ (s':Nat),(q53=(↑s':Int)/\q5/\q8/\q7/\q6/\q3=q3/\q2=q2/\q4=q4/\q0/\q0/\q0/\q0/\q54++[q56]=List.take s' q1)/\s' <= q52/\q51 - s' < q51 - s)/\(q55<=q10->(q54.length+[q58].length)*q14<=q11/\I64 q53/\∃ (s':Nat),(q53=(↑s':Int)/\q5/\q8/\q7/\q6/\q3=q3/\q2=q2/\q4=q4/\q0/\q0/\q0/\q0/\q54++[q58]=List.take s' q1)/\s' <= q52/\q51 - s' < q51 - s))/\((↑q59:Int)<=q15->(q10<q55->q12<=q10/\q10<=q55/\(q54.length+[q57].length)*q14<=q11/\I64 q53/\∃ (s':Nat),(q53=(↑s':Int)/\q5/\q8/\q7/\q6/\q3=q3/\q2=q2/\q4=q4/\q0/\q0/\q0/\q0/\q54++[q57]=List.take s' q1)/\s' <= q52/\q51 - s' < q51 - s)/\(q55<=q10->(q54.length+[x].length)*q14<=q11/\I64 q53/\∃ (s':Nat),(q53=(↑s':Int)/\q5/\q8/\q7/\q6/\q3=q3/\q2=q2/\q4=q4/\q0/\q0/\q0/\q0/\q54++[x]=List.take s' q1)/\s' <= q52/\q51 - s' < q51 - s))) (↑x.tag.b.length:Int)) (Snap.mk x.id x.set (List.take q16 x.chunks) x.held (Str.mk (List.take q17 x.tag.b)))) (Snap.mk x.id x.set x.chunks x.held (Str.mk (List.take q17 x.tag.b)))) (Snap.mk x.id x.set (List.take q16 x.chunks) x.held x.tag)) x.chunks.length)/\((↑q4.length:Int)<=(↑s:Int)\/q13<=(↑s:Int)->q19/\q22/\q21/\q20/\q3=r0.sess/\q2=r0.opens/\q54=r0.snaps)) ((↑s:Int)+q9)) (List.take s q1)) q4.length) q1.length))) (q12=q12)) (eK st).snaps) (List.take (20:Nat) st.opens)) (List.take (20:Nat) st.sess)) st.snaps) (st.version=st.version)) (st.quota=st.quota)) (st.keep=st.keep)) (st.next=st.next)) (1:Int)) (40:Int)) (140737488355328:Nat)) (0:Int)) (20:Int)) (64:Nat)) (12:Int)) (12:Nat)) (40:Nat)) (↑st.opens.length:Int)) (st.version=r0.version)) (st.quota=r0.quota)) (st.keep=r0.keep)) (st.next=r0.next)) st.sess.length):=by kernel_rfl
theorem DC (st:State):Sat Tryz.prog (al tyT) 14 [.agg (cellsOf (.nm .state) st)] [] ⟨[],[.agg (cellsOf (.nm .state) (eK st))],none,false⟩:=by
 refine aJ ji (yw st) Tryz.func14 (by decide) (by kernel_rfl) ?_
 rw [Ej]
 iterate 3 ((all_goals (repeat' (first | with_reducible apply bu | with_reducible refine bw ?_ | intro))); (all_goals try (first | exact bT | exact rfl | exact (List.take_of_length_le aG).symm | exact (YF ae aG aG aG) | exact (YU ae aG aG aG) | exact (aav ae aG aG aG) | exact (YC ae aG aG aG) | exact (Qc aG) | exact (UN aG aG) | exact (List.take_of_length_le (Uo aG)))); all_goals try first | refine ⟨‹Nat› + 1,?_⟩ | refine ⟨0,?_⟩)
theorem LX  (r0:List Command):ck tyT qZ [] Tryz.f23 [] [] [.c (.fz (.nm .command) (r0))]=((fun (q1:Int)=>(fun (q0:Command)=>[Command.mk (1:Int) (1:Int) q1 q1 q1 q1 [] (Str.mk []),q0,q0]=r0) (Command.mk (2:Int) (1:Int) (1:Int) (2:Int) q1 q1 [] (Str.mk []))) (0:Int)):=by kernel_rfl
theorem MS :Sat Tryz.prog (al tyT) 23 [] [] ⟨[],[.c (.fz (.nm .command) ((cZ)))],none,false⟩:=by
 refine aJ ji [] Tryz.func23 (by decide) (by kernel_rfl) ?_
 rw [LX]
 (repeat' (first | with_reducible apply bu | with_reducible refine bw ?_ | intro))
 all_goals (first | exact bT | rfl)
theorem QK (st:State) (l:List Command) (r0:Int) (r1:Int) (r2:Int) (r3:Int) (r4:List Sess) (r5:List Opn) (r6:List Snap) (r7:List Reply):gV tyT qZ (Oh st l) Tryz.f21 [.agg (cellsOf (.nm .state) st),.c (.fz (.nm .command) (l))] [] [.agg ([.int (r0),.int (r1),.int (r2),.int (r3),.own 0,.own 1,.own 2]),.c (.own 3)] [.row 82 (.nm .sess) (r4),.row 63 (.nm .opn) (r5),.row 73 (.nm .snap) (r6),.row 56 (.nm .reply) (r7)]=((fun (q2:Nat)=>(fun (q1:Nat)=>(fun (q0:Prop)=>I64 st.version->I64 st.next->I64 st.keep->I64 st.quota->st.sess.length*(32:Nat)<=q2->st.opens.length*(16:Nat)<=q2->st.snaps.length*(64:Nat)<=q2->l.length*(88:Nat)<=q2->I64 st.version->I64 st.next->I64 st.keep->I64 st.quota->∃ (s0:Nat),(fun (q3:State)=>(l=l/\(↑l.length:Int)=(↑q1:Int)/\(0:Int)=(↑s0:Int)/\st.version=q3.version/\st.next=q3.next/\st.keep=q3.keep/\st.quota=q3.quota/\q0/\q0/\q0/\q0/\st.sess=q3.sess/\st.opens=q3.opens/\st.snaps=q3.snaps/\fx st (List.take s0 l)=[])/\s0<=q1/\∀ (s:Nat),(fun (q4:State)=>s<=q1->((↑s:Int)<(↑q1:Int)->(0:Int)<=(↑s:Int)/\(↑s:Int)<(↑l.length:Int)/\∀ (x:Command),(fun (q6:Reply)=>(fun (q5:State)=>l[s]? = some x->I64 x.kind->I64 x.client->I64 x.seq->I64 x.set->I64 x.id->I64 x.n->x.chunks.length*(8:Nat)<=q2->x.text.b.length<=q2->I64 q5.version->I64 q5.next->I64 q5.keep->I64 q5.quota->I64 q6.code->I64 q6.n->((fx st (List.take s l)).length+[q6].length)*(16:Nat)<=q2/\I64 ((↑s:Int)+(1:Int))/\∃ (s':Nat),(fun (q7:State)=>(l=l/\(↑q1:Int)=(↑q1:Int)/\(↑s:Int)+(1:Int)=(↑s':Int)/\q5.version=q7.version/\q5.next=q7.next/\q5.keep=q7.keep/\q5.quota=q7.quota/\q0/\q0/\q0/\q0/\q5.sess=q7.sess/\q5.opens=q7.opens/\q5.snaps=q7.snaps/\fx st (List.take s l)++[q6]=fx st (List.take s' l))/\s' <= q1/\q1 - s' < q1 - s) (gq st (List.take s' l))) (dP q4 x).fst) (dP q4 x).snd)/\((↑q1:Int)<=(↑s:Int)->q4.version=r0/\q4.next=r1/\q4.keep=r2/\q4.quota=r3/\q4.sess=r4/\q4.opens=r5/\q4.snaps=r6/\fx st (List.take s l)=r7)) (gq st (List.take s l))) (gq st (List.take s0 l))) ((0:Int)=(0:Int))) l.length) (140737488355328:Nat)):=by kernel_rfl
theorem OH (st:State) (l:List Command):Sat Tryz.prog (al tyT) 21 [.agg (cellsOf (.nm .state) st),.c (.fz (.nm .command) (l))] [] ⟨[],[.agg ([.int (((gq st l).version)),.int (((gq st l).next)),.int (((gq st l).keep)),.int (((gq st l).quota)),.own 0,.own 1,.own 2]),.c (.own 3)],some ([.row 82 (.nm .sess) (((gq st l).sess)),.row 63 (.nm .opn) (((gq st l).opens)),.row 73 (.nm .snap) (((gq st l).snaps)),.row 56 (.nm .reply) ((fx st l))]),true⟩:=by
 refine cA ji (Oh st l) Tryz.func21 (by decide) (by kernel_rfl) ?_
 rw [QK]
 iterate 3 ((all_goals (repeat' (first | with_reducible apply bu | with_reducible refine bw ?_ | intro))); (all_goals try (first | exact bT | exact rfl | exact (congrArg State.version (kr ae)) | exact (congrArg State.next (kr ae)) | exact (congrArg State.keep (kr ae)) | exact (congrArg State.quota (kr ae)) | exact (congrArg State.sess (kr ae)) | exact (congrArg State.opens (kr ae)) | exact (congrArg State.snaps (kr ae)) | exact (Pn ae) | exact (SG ae ae) | (rw [aaH aG]; done))); all_goals try first | refine ⟨‹Nat› + 1,?_⟩ | refine ⟨0,?_⟩)
theorem DF (a:List Reply) (b:List Reply) (r0:Bool):ck tyT qZ (Al a b) Tryz.f19 [.c (.fz (.nm .reply) (a)),.c (.fz (.nm .reply) (b))] [] [.c (.bool (.atom (r0)))]=((fun (q2:Nat)=>(fun (q1:Int)=>(fun (q0:den (Sh.nm NT.reply))=>a.length*(16:Nat)<=(140737488355328:Nat)->b.length*(16:Nat)<=(140737488355328:Nat)->(¬q1=(↑b.length:Int)->false=r0)/\(q1=(↑b.length:Int)->∃ (s0:Nat),(a=a/\b=b/\(0:Int)=(↑s0:Int))/\(s0<=q2/\q2=b.length/\List.take s0 a=List.take s0 b)/\∀ (s:Nat),(fun (q4:den (Sh.nm NT.reply))=>(fun (q3:den (Sh.nm NT.reply))=>s<=q2/\q2=b.length/\List.take s a=List.take s b->((↑s:Int)<q1->(0:Int)<=(↑s:Int)/\(↑s:Int)<q1/\(0:Int)<=(↑s:Int)/\(↑s:Int)<(↑b.length:Int)/\(I64 q3.code->I64 q3.n->I64 q4.code->I64 q4.n->(¬q3.code=q4.code\/¬q3.n=q4.n->false=r0)/\(q3.code=q4.code/\q3.n=q4.n->I64 ((↑s:Int)+(1:Int))/\∃ (s':Nat),(a=a/\b=b/\(↑s:Int)+(1:Int)=(↑s':Int))/\(s' <= q2/\q2=b.length/\List.take s' a=List.take s' b)/\q2 - s' < q2 - s)))/\(q1<=(↑s:Int)->true=r0)) (a.getD s q0)) (b.getD s q0))) (dflt (Sh.nm NT.reply))) (↑a.length:Int)) a.length):=by kernel_rfl
theorem Ju (a:List Reply) (b:List Reply):Sat Tryz.prog (al tyT) 19 [.c (.fz (.nm .reply) (a)),.c (.fz (.nm .reply) (b))] [] ⟨[],[.c (.bool (.atom ((decide (a=b)))))],none,false⟩:=by
 refine aJ ji (Al a b) Tryz.func19 (by decide) (by kernel_rfl) ?_
 rw [DF]
 iterate 3 ((all_goals (repeat' (first | with_reducible apply bu | with_reducible refine bw ?_ | intro))); (all_goals try (first | exact bT | exact rfl | exact (FE ae) | exact (UA ae ae ae aG aG) | exact (Xk (by assumption)) | exact (wR aG ae aG))); all_goals try first | refine ⟨‹Nat› + 1,?_⟩ | refine ⟨0,?_⟩)
def Hi:cO:=(bq 19 (bm (ah (kC (cL (.nm .reply))) (ah (kC (cL (.nm .reply))) aH)) aI fun (a,b,_) (_)=>⟨[],[.c (.bool (.atom ((decide (a=b)))))],none,false⟩) (bq 21 (bm (ah (kT (.nm .state)) (ah (kC (cL (.nm .command))) aH)) aI fun (st,l,_) (_)=>⟨[],[.agg ([.int (((gq st l).version)),.int (((gq st l).next)),.int (((gq st l).keep)),.int (((gq st l).quota)),.own 0,.own 1,.own 2]),.c (.own 3)],some ([.row 82 (.nm .sess) (((gq st l).sess)),.row 63 (.nm .opn) (((gq st l).opens)),.row 73 (.nm .snap) (((gq st l).snaps)),.row 56 (.nm .reply) ((fx st l))]),true⟩) (bq 23 (bm aH aI fun (_) (_)=>⟨[],[.c (.fz (.nm .command) ((cZ)))],none,false⟩) (bq 14 (bm (ah (kT (.nm .state)) aH) aI fun (st,_) (_)=>⟨[],[.agg (cellsOf (.nm .state) (eK st))],none,false⟩) qZ))))
theorem wj:aW Tryz.prog (al tyT) Hi:=(au (av (ab (aq aY) (ab (aq aY) ai)) aj fun (a,b,_) (_) _=>Ju a b ) (au (av (ab aZ (ab (aq aY) ai)) aj fun (st,l,_) (_) _=>OH st l ) (au (av ai aj fun (_) (_) _=>MS  ) (au (av (ab aZ ai) aj fun (st,_) (_) _=>DC st ) ji))))
theorem aah:gq (State.mk 1 1 0 0 [] [] []) cZ=State.mk 1 1 0 0 [Sess.mk 1 1 (Reply.mk 0 0)] [Opn.mk 2 1] []:=by kernel_rfl
theorem ZW:fx (State.mk 1 1 0 0 [] [] []) cZ=[Reply.mk 0 0,Reply.mk 0 0,Reply.mk 0 0]:=by kernel_rfl
theorem CC  (r0:Bool):ck tyT Hi [] Tryz.f7 [] [] [.c (.bool (.atom (r0)))]=((fun (q6:Int)=>(fun (q5:Int)=>(fun (q4:Nat)=>(fun (q3:Nat)=>(fun (q2:Int)=>(fun (q1:den (Sh.nm NT.reply))=>(fun (q0:State)=>I64 q5->I64 q5->I64 q2->I64 q2->(0:Nat)*(32:Nat)<=(140737488355328:Nat)->(0:Nat)*(16:Nat)<=(140737488355328:Nat)->(0:Nat)*(64:Nat)<=(140737488355328:Nat)->cZ.length*(88:Nat)<=(140737488355328:Nat)->I64 (gq q0 cZ).version->I64 (gq q0 cZ).next->I64 (gq q0 cZ).keep->I64 (gq q0 cZ).quota->((↑(fx q0 cZ).length:Int)=q6->q2<=q2/\q2<(↑(fx q0 cZ).length:Int))/\(((↑(fx q0 cZ).length:Int)=q6->I64 ((fx q0 cZ).getD q3 q1).code/\I64 ((fx q0 cZ).getD q3 q1).n)->((↑(fx q0 cZ).length:Int)=q6/\((fx q0 cZ).getD q3 q1).code=q2/\((fx q0 cZ).getD q3 q1).n=q2->q2<=(2:Int)/\(2:Int)<(↑(fx q0 cZ).length:Int))/\(((↑(fx q0 cZ).length:Int)=q6/\((fx q0 cZ).getD q3 q1).code=q2/\((fx q0 cZ).getD q3 q1).n=q2->I64 ((fx q0 cZ).getD q4 q1).code/\I64 ((fx q0 cZ).getD q4 q1).n)->((((↑(fx q0 cZ).length:Int)=q6/\((fx q0 cZ).getD q3 q1).code=q2/\((fx q0 cZ).getD q3 q1).n=q2)/\((fx q0 cZ).getD q4 q1).code=q2/\((fx q0 cZ).getD q4 q1).n=q2)/\(↑(gq q0 cZ).opens.length:Int)=q5->q2<=q2/\q2<(↑(gq q0 cZ).opens.length:Int))/\(((((↑(fx q0 cZ).length:Int)=q6/\((fx q0 cZ).getD q3 q1).code=q2/\((fx q0 cZ).getD q3 q1).n=q2)/\((fx q0 cZ).getD q4 q1).code=q2/\((fx q0 cZ).getD q4 q1).n=q2)/\(↑(gq q0 cZ).opens.length:Int)=q5->I64 ((gq q0 cZ).opens.getD q3 (dflt (Sh.nm NT.opn))).set/\I64 ((gq q0 cZ).opens.getD q3 (dflt (Sh.nm NT.opn))).client)->(decide ((↑(fx q0 cZ).length:Int)=q6) && (decide (((fx q0 cZ).getD q3 q1).code=q2) && decide (((fx q0 cZ).getD q3 q1).n=q2)) && (decide (((fx q0 cZ).getD q4 q1).code=q2) && decide (((fx q0 cZ).getD q4 q1).n=q2)) && decide ((↑(gq q0 cZ).opens.length:Int)=q5) && decide (((gq q0 cZ).opens.getD q3 (dflt (Sh.nm NT.opn))).set=(2:Int)))=r0)))) (State.mk q5 q5 q2 q2 [] [] [])) (dflt (Sh.nm NT.reply))) (0:Int)) (0:Nat)) (2:Nat)) (1:Int)) (3:Int)):=by kernel_rfl
theorem Bf :Sat Tryz.prog (al tyT) 7 [] [] ⟨[],[.c (.bool (.atom ((true))))],none,false⟩:=by
 refine aJ wj [] Tryz.func7 (by decide) (by kernel_rfl) ?_
 rw [CC]
 simp only [aah,ZW]
 (repeat' (first | with_reducible apply bu | with_reducible refine bw ?_ | intro))
 all_goals first | exact bT | decide | rfl
def fP:cO:=(bq 7 (bm aH aI fun (_) (_)=>⟨[],[.c (.bool (.atom ((true))))],none,false⟩) Hi)
theorem de:aW Tryz.prog (al tyT) fP:=(au (av ai aj fun (_) (_) _=>Bf  ) wj)
def cW (f:Field):Bool:=(decide (1<=f.num) && decide (f.num<=1000)) && (if f.wire=0 then decide (((f.b.length:Nat):Int)=0) else if f.wire=2 then decide ((f.n.n:Int)=0) else false)
def cS (a f:Field):Bool:=if f.num=a.num then (decide (f.wire=2) && decide (a.wire=2)) else decide (a.num<f.num)
def ny (num wire:Int):Bool:=(decide (1<=num) && decide (num<=1000)) && (decide (wire=0) || decide (wire=2))
def jR (num wire:Int):List UInt8:=if ny num wire then bS ((8*num)+wire).toNat else []
def iH (num wire:Int):Int:=if ny num wire then 0 else 1
def bR (f:Field):List UInt8:=if f.wire=0 then jR f.num f.wire++bS f.n.n else (jR f.num f.wire++bS f.b.length)++f.b
def okP:Option Field->Field->Bool
 | none,_=>true
 | some q,f=>cS q f
def stepT (p:Option Field) (f:Field):Int:=if cW f=false then 1 else if okP p f=false then 5 else if (16384:Int)<((f.b.length:Nat):Int) then 4 else 0
def cT:Option Field->List Field->Int
 | _,[]=>0
 | p,f :: r=>if stepT p f=0 then cT (some f) r else stepT p f
def dX (l:List Field):Nat:=(l.map fun f=>(bR f).length).sum
def bY (l:List Field):Int:=if cT none l=0 then (if (16384:Int)<((dX l:Nat):Int) then 4 else 0) else cT none l
def gN (l:List Field):List UInt8:=if bY l=0 then (l.map bR).flatten else []
def dE (l:List Field) (k:Nat):Option Field:=if k=0 then none else l[k - 1]?
def sE (l:List Field) (k:Nat) (x:Field):Prop:=(¬ 0<k)\/∃ y,l[k - 1]? = some y/\cS y x=true
theorem Ia {num wire:Int} (h:(num<1\/1000<num)\/(¬ wire=0/\¬ wire=2)):ny num wire=false:=by
 rw [<- Bool.not_eq_true]; unfold ny; simp only [Bool.and_eq_true,Bool.or_eq_true,decide_eq_true_eq]; omega
theorem Av {num wire:Int} (h:¬ ((num<1\/1000<num)\/(¬ wire=0/\¬ wire=2))):ny num wire=true:=by
 unfold ny; simp only [Bool.and_eq_true,Bool.or_eq_true,decide_eq_true_eq]; omega
theorem nO {num wire:Int} (h:(num<1\/1000<num)\/(¬ wire=0/\¬ wire=2)):[]=jR num wire:=by rw [jR,Ia h]; rfl
theorem kM {num wire:Int} (h:(num<1\/1000<num)\/(¬ wire=0/\¬ wire=2)):1=iH num wire:=by rw [iH,Ia h]; rfl
theorem wB {num wire:Int} (h:¬ ((num<1\/1000<num)\/(¬ wire=0/\¬ wire=2))):bS ((8*num)+wire).toNat=jR num wire:=by rw [jR,Av h]; rfl
theorem jm {num wire:Int} (h:¬ ((num<1\/1000<num)\/(¬ wire=0/\¬ wire=2))):0=iH num wire:=by rw [iH,Av h]; rfl
theorem jd (num wire:Int):(jR num wire).length<=10:=by
 unfold jR
 cases h:ny num wire with
 | false=>simp
 | true=>
  unfold ny at h; simp only [Bool.and_eq_true,Bool.or_eq_true,decide_eq_true_eq] at h
  exact df aG
theorem iv {f:Field} (hb:f.b.length<=16384) (hn:f.n.n<18446744073709551616):(bR f).length<=16404:=by
 have h1:=jd f.num f.wire
 unfold bR
 split
 ·have:=df hn; rw [List.length_append]; omega
 ·have:=df (n:=f.b.length) (by omega); rw [List.length_append,List.length_append]; omega
theorem zi {f:Field} (h:f.wire=0):jR f.num f.wire++bS f.n.n=bR f:=by rw [bR,if_pos h]
theorem yE {f:Field} (h:¬ f.wire=0):(jR f.num f.wire++bS f.b.length)++f.b=bR f:=by rw [bR,if_neg h]
theorem vo {l:List Field} {k:Nat} {x:Field} (hx:l[k]? = some x):dX (l.take k)+(bR x).length=dX (l.take (k+1)):=by
 unfold dX; rw [ax hx,List.map_append,List.sum_append]; simp
theorem zp {l:List Field} {k:Nat} {x:Field} (hp:sE l k x):okP (dE l k) x=true:=by
 unfold dE
 rcases hp with h | ⟨y,hy,hr⟩
 ·rw [if_pos (by omega)]; rfl
 ·by_cases hk:k=0
  ·rw [if_pos hk]; rfl
  ·rw [if_neg hk,hy]; exact hr
theorem IY {l:List Field} {k:Nat} {x:Field} (hx:l[k]? = some x):cT (dE l k) (l.drop k)=if stepT (dE l k) x=0 then cT (some x) (l.drop (k+1)) else stepT (dE l k) x:=by
 obtain ⟨hk,he⟩:=List.getElem?_eq_some_iff.1 hx
 rw [List.drop_eq_getElem_cons hk,he]; rfl
theorem ER {l:List Field} {k:Nat} {x:Field} {e:Int} (hc:cT none l=cT (dE l k) (l.drop k)) (hx:l[k]? = some x) (he:stepT (dE l k) x=e) (h0:e≠0):e=bY l:=by
 have h1:cT none l=e:=by rw [hc,IY hx,he,if_neg h0]
 rw [bY,h1,if_neg h0]
theorem Dh {l:List Field} {k:Nat} {x:Field} (hc:cT none l=cT (dE l k) (l.drop k)) (hx:l[k]? = some x) (ha:cW x=false):1=bY l:=ER hc hx (by rw [stepT,if_pos ha]) (by decide)
theorem IQ {l:List Field} {k:Nat} {x y:Field} (hc:cT none l=cT (dE l k) (l.drop k)) (hx:l[k]? = some x) (ha:cW x=true) (h0:0<k) (hy:l[k - 1]? = some y) (hr:cS y x=false):5=bY l:=
 ER hc hx (by rw [stepT,if_neg (by rw [ha]; decide),if_pos]; unfold dE; rw [if_neg (by omega),hy]; exact hr) (by decide)
theorem GX {l:List Field} {k:Nat} {x:Field} (hc:cT none l=cT (dE l k) (l.drop k)) (hx:l[k]? = some x) (ha:cW x=true) (hp:sE l k x) (hb:(16384:Int)<((x.b.length:Nat):Int)):4=bY l:=
 ER hc hx (by rw [stepT,if_neg (by rw [ha]; decide),if_neg (by rw [zp hp]; decide),if_pos hb]) (by decide)
theorem uG {l:List Field} {k:Nat} {x:Field} (hc:cT none l=cT (dE l k) (l.drop k)) (hx:l[k]? = some x) (ha:cW x=true) (hp:sE l k x) (hb:¬ (16384:Int)<((x.b.length:Nat):Int)):cT none l=cT (dE l (k+1)) (l.drop (k+1)):=by
 rw [hc,IY hx,if_pos (by rw [stepT,if_neg (by rw [ha]; decide),if_neg (by rw [zp hp]; decide),if_neg hb])]
 unfold dE; rw [if_neg (by omega),Nat.add_sub_cancel,hx]
theorem sK {l:List Field} {k:Nat} (hc:cT none l=cT (dE l k) (l.drop k)) (hk:l.length<=k):cT none l=0:=by
 rw [hc,List.drop_of_length_le hk]; rfl
theorem IG {l:List Field} {k:Nat} (hc:cT none l=cT (dE l k) (l.drop k)) (hk:l.length<=k) (hs:(16384:Int)<((dX (l.take k):Nat):Int)):4=bY l:=by
 rw [List.take_of_length_le hk] at hs; rw [bY,if_pos (sK hc hk),if_pos hs]
theorem HS {l:List Field} {k:Nat} (hc:cT none l=cT (dE l k) (l.drop k)) (hk:l.length<=k) (hs:¬ (16384:Int)<((dX (l.take k):Nat):Int)):0=bY l:=by
 rw [List.take_of_length_le hk] at hs; rw [bY,if_pos (sK hc hk),if_neg hs]
theorem KX {l:List Field} (h:bY l=0):dX l<=16384:=by
 unfold bY at h
 split at h
 ·split at h
  ·cases h
  ·omega
 ·rename_i h0; exact absurd h h0
theorem td {l:List Field} (h:bY l=0):cT none l=0:=by
 unfold bY at h
 split at h
 ·assumption
 ·exact h
theorem ze:∀ {l:List Field} {p:Option Field},cT p l=0->∀ x ∈ l,x.b.length<=16384
 | [],_,_,x,hx=>by cases hx
 | f :: r,p,h,x,hx=>by
  unfold cT at h
  split at h
  ·rename_i hs
   rcases List.mem_cons.1 hx with rfl | hx
   ·unfold stepT at hs
    split at hs
    ·cases hs
    ·split at hs
     ·cases hs
     ·split at hs
      ·cases hs
      ·omega
   ·exact ze h x hx
  ·rename_i hs; exact absurd h hs
theorem lU {l:List Field} (h:bY l=0) {x:Field} (hx:x ∈ l):x.b.length<=16384:=ze (td h) x hx
theorem qR {l:List Field} {k:Nat} {x:Field} (hx:l[k]? = some x):((l.take k).map bR).flatten++bR x=((l.take (k+1)).map bR).flatten:=by
 rw [ax hx,List.map_append,List.flatten_append]; simp
theorem Fv (l:List Field):((l.map bR).flatten).length=dX l:=by
 unfold dX; rw [List.length_flatten,List.map_map]; rfl
theorem E_ {l:List Field} {k:Nat}:dX (l.take k)<=dX l:=by
 have:dX l=dX (l.take k)+dX (l.drop k):=by unfold dX; rw [<- List.sum_append,<- List.map_append,List.take_append_drop]
 omega
theorem vG {l:List Field} {k:Nat} (h:bY l=0):((l.take k).map bR).flatten.length<=16384:=by
 have:=KX h; have:=E_ (l:=l) (k:=k); rw [Fv]; omega
theorem yI {l:List Field} {k:Nat} (h:bY l=0) (hk:l.length<=k):((l.take k).map bR).flatten=gN l:=by rw [gN,if_pos h,List.take_of_length_le hk]
theorem EN {l:List Field} (h:¬ bY l=0):[]=gN l:=by rw [gN,if_neg h]
theorem u_ {f:Field} (h:f.num<1\/1000<f.num):false=cW f:=by
 have:(decide (1<=f.num) && decide (f.num<=1000))=false:=by rw [<- Bool.not_eq_true]; simp only [Bool.and_eq_true,decide_eq_true_eq]; omega
 unfold cW; rw [this]; rfl
theorem lQ {f:Field} (h:¬ (f.num<1\/1000<f.num)):cW f=(if f.wire=0 then decide (((f.b.length:Nat):Int)=0) else if f.wire=2 then decide ((f.n.n:Int)=0) else false):=by
 have:(decide (1<=f.num) && decide (f.num<=1000))=true:=by simp only [Bool.and_eq_true,decide_eq_true_eq]; omega
 unfold cW; rw [this]; rfl
def bd:List Spec:=([⟨1,0,1,true,false⟩,⟨2,0,1,false,false⟩,⟨3,0,1,false,false⟩,⟨4,0,1,false,false⟩,⟨5,0,1,false,false⟩,⟨6,0,1,false,false⟩,⟨7,2,1,false,false⟩,⟨8,2,3,false,false⟩]:List Spec)
def aK (v:Int):List Spec:=if v<1\/3<v then [] else bd.filter fun s=>decide (s.since<=v)
def bj (v:Int):Int:=(aK v).foldl (fun t s=>max t s.num) 0
theorem wN {v:Int} {k:Nat} {x:Spec} (hx:bd[k]? = some x) (h:x.since<=v):(bd.take k).filter (fun s=>decide (s.since<=v))++[x]=(bd.take (k+1)).filter (fun s=>decide (s.since<=v)):=by
 rw [ax hx,List.filter_append]; simp [h]
theorem zq {v:Int} {k:Nat} {x:Spec} (hx:bd[k]? = some x) (h:¬ x.since<=v):(bd.take k).filter (fun s=>decide (s.since<=v))=(bd.take (k+1)).filter (fun s=>decide (s.since<=v)):=by
 rw [ax hx,List.filter_append]; simp [h]
theorem Bc {v:Int} (h:v<1\/3<v):[]=aK v:=by rw [aK,if_pos h]
theorem Il {v:Int} {k:Nat} (h:¬ (v<1\/3<v)) (hk:bd.length<=k):(bd.take k).filter (fun s=>decide (s.since<=v))=aK v:=by rw [aK,if_neg h,List.take_of_length_le hk]
theorem vM {v:Int} {k:Nat}:((bd.take k).filter (fun s=>decide (s.since<=v))).length<=8:=by
 have h1:=List.length_filter_le (fun s:Spec=>decide (s.since<=v)) (bd.take k)
 have h2:(bd.take k).length<=8:=by rw [List.length_take]; exact Nat.le_trans (Nat.min_le_right _ _) (by decide)
 omega
theorem vQ {v:Int} {k:Nat} {x:Spec} (hx:(aK v)[k]? = some x):max (((aK v).take k).foldl (fun t s=>max t s.num) 0) x.num=((aK v).take (k+1)).foldl (fun t s=>max t s.num) 0:=by
 rw [ax hx,List.foldl_append]; rfl
def lW (num n:Int):List Field:=if n=0 then [] else [⟨num,0,⟨n.toNat⟩,[]⟩]
def qm (num:Int) (b:List UInt8):List Field:=if 0<((b.length:Nat):Int) then [⟨num,2,⟨0⟩,b⟩] else []
def od (c:Command):List Field:=(((((([]++lW 1 c.kind)++lW 2 c.client)++lW 3 c.seq)++lW 4 c.set)++lW 5 c.id)++lW 6 c.n)++qm 7 (bK c.chunks)
def bL (c:Command) (v:Int):List Field:=if 3<=v then od c++qm 8 c.text.b else od c
theorem eT (num n:Int):(lW num n).length<=1:=by unfold lW; split <;> simp
theorem wZ (num:Int) (b:List UInt8):(qm num b).length<=1:=by unfold qm; split <;> simp
theorem wM {xs:List Field} {num n:Int} (h:¬ n=0):xs++[⟨num,0,⟨n.toNat⟩,[]⟩]=xs++lW num n:=by rw [lW,if_neg h]
theorem tU {xs:List Field} {num n:Int} (h:n=0):xs=xs++lW num n:=by rw [lW,if_pos h,List.append_nil]
theorem wF {xs:List Field} {num:Int} {b:List UInt8} (h:0<((b.length:Nat):Int)):xs++[⟨num,2,⟨0⟩,b⟩]=xs++qm num b:=by rw [qm,if_pos h]
theorem ug {xs:List Field} {num:Int} {b:List UInt8} (h:¬ 0<((b.length:Nat):Int)):xs=xs++qm num b:=by rw [qm,if_neg h,List.append_nil]
theorem ox (c:Command) (v:Int):(bL c v).length<=8:=by
 have h1:=eT 1 c.kind; have h2:=eT 2 c.client; have h3:=eT 3 c.seq; have h4:=eT 4 c.set; have h5:=eT 5 c.id; have h6:=eT 6 c.n
 have h7:=wZ 7 (bK c.chunks); have h8:=wZ 8 c.text.b
 unfold bL od
 split <;> simp only [List.length_append,List.length_nil] <;> omega
def cN (c:Command) (rest:List Field) (v:Int):Int:=if !(bb v 1 3) then 1 else if (dG c v=false/\¬ bc c v=0) then bc c v else if rest.any (fun f=>decide (f.num<=bj v)) then 6 else 0
def dB (c:Command) (rest:List Field) (v:Int):Int:=if cN c rest v=0 then bY (bL c v++rest) else cN c rest v
def eg (c:Command) (rest:List Field) (v:Int):List UInt8:=if cN c rest v=0 then gN (bL c v++rest) else []
theorem qg {k:Int} (h:¬ a_ k=0):1<=k/\k<=12:=Decidable.byContradiction fun h2=>h (zd h2)
theorem Fj {c:Command} {v:Int} (h:dG c v=true):0<=c.kind/\0<=c.client/\0<=c.seq/\0<=c.set/\0<=c.id/\0<=c.n:=by
 unfold dG nd bb at h
 simp only [Bool.and_eq_true,decide_eq_true_eq] at h
 omega
theorem sX {n m:Int} {b:Bool} (h:iy n m b=true):0<=n:=by
 unfold iy at h; cases b <;> simp at h <;> omega
theorem AY {k:Int} (h:1<=k/\k<=12):0<=(gP k).1:=by
 have:k=1\/k=2\/k=3\/k=4\/k=5\/k=6\/k=7\/k=8\/k=9\/k=10\/k=11\/k=12:=by omega
 rcases this with rfl | rfl | rfl | rfl | rfl | rfl | rfl | rfl | rfl | rfl | rfl | rfl <;> decide
theorem pd {c:Command} {v:Int} (h:bc c v=0):(1<=v/\v<=3)/\¬ a_ c.kind=0/\a_ c.kind<=v/\eF c=true:=by
 unfold bc at h
 split at h
 ·cases h
 ·rename_i h1
  rw [Bool.or_eq_true,not_or] at h1
  simp only [Bool.not_eq_true',Bool.not_eq_false,decide_eq_true_eq] at h1
  split at h
  ·cases h
  ·split at h
   ·cases h
   ·rename_i h2 h3
    exact ⟨qk h1.1,h1.2,by omega,by simpa using h3⟩
theorem Fu {c:Command} {v:Int} (h:bc c v=0):0<=c.kind/\0<=c.client/\0<=c.seq/\0<=c.set/\0<=c.id/\0<=c.n:=by
 obtain ⟨_,hn,_,hf⟩:=pd h
 have hr:=qg hn
 have hs:=AY hr
 unfold eF at hf
 simp only [Bool.and_eq_true,decide_eq_true_eq] at hf
 obtain ⟨⟨⟨⟨⟨⟨⟨h1,h2⟩,_⟩,_⟩,h3⟩,h4⟩,h5⟩,h6⟩:=hf
 exact ⟨by omega,sX h3,sX h4,sX h5,sX h6,by omega⟩
theorem Yo {c:Command} {rest:List Field} {v:Int} (h:(!(bb v 1 3))=true):cN c rest v=1:=by rw [cN,if_pos h]
theorem ZJ {c:Command} {rest:List Field} {v:Int} (h:(!(bb v 1 3))=false) (h1:dG c v=false) (h2:¬ bc c v=0):cN c rest v=bc c v:=by rw [cN,h,if_neg (by decide),if_pos ⟨h1,h2⟩]
theorem ZO {c:Command} {rest:List Field} {v:Int} {k:Nat} {x:Field} (h:(!(bb v 1 3))=false) (h1:dG c v=true\/bc c v=0) (hx:rest[k]? = some x) (hn:x.num<=bj v):cN c rest v=6:=by
 have:(rest.any fun f=>decide (f.num<=bj v))=true:=List.any_eq_true.2 ⟨x,List.mem_of_getElem? hx,decide_eq_true hn⟩
 rw [cN,h,if_neg (by decide),if_neg (fun hh=>by rcases h1 with h1 | h1; rw [h1] at hh; cases hh.1; exact hh.2 h1),if_pos this]
theorem Ye {c:Command} {rest:List Field} {v:Int} {k:Nat} (h:(!(bb v 1 3))=false) (h1:dG c v=true\/bc c v=0) (hall:∀ j y,j<k->rest[j]? = some y->¬ y.num<=bj v) (hk:rest.length<=k):cN c rest v=0:=by
 have:(rest.any fun f=>decide (f.num<=bj v))=false:=by
  rw [List.any_eq_false]
  intro y hy
  obtain ⟨j,hj,rfl⟩:=List.getElem_of_mem hy
  have:=hall j _ (by omega) (List.getElem?_eq_getElem hj)
  simpa using this
 rw [cN,h,if_neg (by decide),if_neg (fun hh=>by rcases h1 with h1 | h1; rw [h1] at hh; cases hh.1; exact hh.2 h1),this,if_neg (by decide)]
theorem mf {c:Command} {rest:List Field} {v e:Int} (h:cN c rest v=e) (h0:¬ e=0):e=dB c rest v:=by rw [dB,h,if_neg h0]
theorem lY {c:Command} {rest:List Field} {v e:Int} (h:cN c rest v=e) (h0:¬ e=0):[]=eg c rest v:=by rw [eg,h,if_neg h0]
theorem ND {c:Command} {rest:List Field} {v:Int} (h:cN c rest v=0):bY (bL c v++rest)=dB c rest v:=by rw [dB,if_pos h]
theorem NS {c:Command} {rest:List Field} {v:Int} (h:cN c rest v=0):gN (bL c v++rest)=eg c rest v:=by rw [eg,if_pos h]
theorem Bp {rest:List Field} {t:Int} {k:Nat} {z:Field} (h:∀ j y,j<k->rest[j]? = some y->¬ y.num<=t) (hz:rest[k]? = some z) (hn:¬ z.num<=t):∀ j y,j<k+1->rest[j]? = some y->¬ y.num<=t:=by
 intro j y hj hy
 by_cases hjk:j=k
 ·subst hjk; rw [hz] at hy; cases hy; exact hn
 ·exact h j y aG hy
theorem tE (n:Nat):bS n=((List.range (bl n)).map (jT n)).set (bl n - 1) (jT n (bl n - 1) &&& 127):=by unfold bS eH; simp
theorem Jp:∀ m:Fin 128,(UInt8.ofNat m.val ||| 128) &&& 127=UInt8.ofNat m.val:=by decide
theorem RR:∀ m:Fin 256,(UInt8.ofNat m.val ||| 128).toNat=m.val % 128+128:=by decide +kernel
theorem iz {n:Nat} (h:n<128):bS n=[UInt8.ofNat n]:=by
 rw [tE,gZ h]
 have:=Jp ⟨n,h⟩
 simp only [jT,Nat.pow_zero,Nat.div_one,List.range_one,List.map_cons,List.map_nil,Nat.sub_self,List.set_cons_zero] at *
 rw [this]
theorem Ny (n:Nat):(jT n 0).toNat=n % 128+128:=by
 have e:UInt8.ofNat n=UInt8.ofNat (n % 256):=UInt8.toNat_inj.1 (by simp [UInt8.toNat_ofNat'])
 have:=RR ⟨n % 256,Nat.mod_lt _ (by decide)⟩
 simp only [jT,Nat.pow_zero,Nat.div_one]
 rw [e,this]; simp only; omega
theorem qf {n:Nat} (h:¬ n<128):bS n=jT n 0 :: bS (n / 128):=by
 have e:∀ i,jT n (i+1)=jT (n / 128) i:=fun i=>by unfold jT; rw [Nat.pow_succ,Nat.mul_comm,<- Nat.div_div_eq_div_mul]
 have hp:=gA (n / 128)
 obtain ⟨s,hs⟩:∃ s,bl (n / 128)=s+1:=⟨bl (n / 128) - 1,by omega⟩
 rw [tE,tE (n / 128),ka h,hs]
 simp only [Nat.add_sub_cancel]
 rw [List.range_succ_eq_map,List.map_cons,List.map_map,List.set_cons_succ,e s,show jT n ∘ Nat.succ=jT (n / 128) from funext e]
theorem mj:∀ {l:List Field} {p:Option Field},cT p l=0->∀ x ∈ l,cW x=true
 | [],_,_,x,hx=>by cases hx
 | f :: r,p,h,x,hx=>by
  unfold cT at h
  split at h
  ·rename_i hs
   rcases List.mem_cons.1 hx with rfl | hx
   ·unfold stepT at hs
    split at hs
    ·cases hs
    ·rename_i ha; simpa using ha
   ·exact mj h x hx
  ·rename_i hs; exact absurd h hs
structure CmdOk (c:Command) (v:Int):Prop where
 nn:0<=c.kind/\0<=c.client/\0<=c.seq/\0<=c.set/\0<=c.id/\0<=c.n
 ch:c.chunks=[]\/rowF c.chunks=true
 tx:c.text.b=[]\/(3<=v/\c.text.b.length<=16)
def f99:Field:=⟨99,0,⟨1⟩,[]⟩
def bM:Nat->Nat->List UInt8->Nat × Nat × Int
 | k,_,[]=>if 10<=k then (0,0,3) else (0,0,2)
 | k,n,x :: r=>if 10<=k then (0,0,3) else if (0<k/\x.toNat=0)\/(k=9/\1<x.toNat) then (0,0,3) else if x.toNat<128 then (n+(x &&& 127).toNat*2 ^ (7*k),k+1,0) else bM (k+1) (n+(x &&& 127).toNat*2 ^ (7*k)) r
termination_by _ _ l=>l.length
def aw (b:List UInt8):Nat × Nat × Int:=bM 0 0 b
theorem iR (x:UInt8):(x &&& 127).toNat=x.toNat % 128:=by rw [UInt8.toNat_and]; exact Nat.and_two_pow_sub_one_eq_mod x.toNat 7
theorem xB {k:Nat} {x:UInt8} (hk:k<=9) (h:k=9->x.toNat<=1):(x &&& 127).toNat*2 ^ (7*k)<18446744073709551616:=by
 rw [iR]
 by_cases h9:k=9
 ·have:=h h9
  subst h9
  have:x.toNat % 128*2 ^ (7*9)<=1*2 ^ (7*9):=Nat.mul_le_mul_right _ (by omega)
  exact Nat.lt_of_le_of_lt this (by decide)
 ·have h1:2 ^ (7*k)<=2 ^ 56:=Nat.pow_le_pow_right (by decide) (by omega)
  have:x.toNat % 128*2 ^ (7*k)<=127*2 ^ 56:=Nat.mul_le_mul (by omega) h1
  exact Nat.lt_of_le_of_lt this (by decide)
theorem xR {k n m:Nat} (h:n<2 ^ (7*k)):n ||| m*2 ^ (7*k)=n+m*2 ^ (7*k):=by
 have:=Nat.two_pow_add_eq_or_of_lt h m
 rw [Nat.or_comm,Nat.mul_comm m,<- this,Nat.add_comm]
theorem rZ {k n:Nat} {x:UInt8} (h:n<2 ^ (7*k)):n+(x &&& 127).toNat*2 ^ (7*k)<2 ^ (7*(k+1)):=by
 rw [iR]
 have e:2 ^ (7*(k+1))=128*2 ^ (7*k):=by rw [show 7*(k+1)=7*k+7 by omega,Nat.pow_add,Nat.mul_comm]
 have:x.toNat % 128*2 ^ (7*k)<=127*2 ^ (7*k):=Nat.mul_le_mul_right _ (by omega)
 rw [e]; omega
theorem Fg {b:List UInt8} {k n:Nat} (hk:k<10) (hb:b.length<=k):bM k n (b.drop k)=(0,0,2):=by
 rw [List.drop_of_length_le hb,bM,if_neg (by omega)]
theorem Qb {b:List UInt8} {k n:Nat} (hk:10<=k):bM k n (b.drop k)=(0,0,3):=by
 cases h:b.drop k with
 | nil=>rw [bM,if_pos hk]
 | cons x r=>rw [bM,if_pos hk]
theorem Fa {b:List UInt8} {k n:Nat} {x:UInt8} (hk:k<10) (hx:b[k]? = some x):bM k n (b.drop k)=if (0<k/\x.toNat=0)\/(k=9/\1<x.toNat) then (0,0,3) else if x.toNat<128 then (n+(x &&& 127).toNat*2 ^ (7*k),k+1,0) else bM (k+1) (n+(x &&& 127).toNat*2 ^ (7*k)) (b.drop (k+1)):=by
 obtain ⟨hkl,he⟩:=List.getElem?_eq_some_iff.1 hx
 rw [List.drop_eq_getElem_cons hkl,he,bM,if_neg (by omega)]
theorem Ak {b:List UInt8} {k n:Nat} {x:UInt8} (h:aw b=bM k n (b.drop k)) (hk:k<10) (hx:b[k]? = some x) (h1:¬ (0<k/\x.toNat=0)) (h2:¬ (k=9/\1<x.toNat)) (h3:¬ x.toNat<128):aw b=bM (k+1) (n+(x &&& 127).toNat*2 ^ (7*k)) (b.drop (k+1)):=by
 rw [h,Fa hk hx,if_neg (fun h=>h.elim h1 h2),if_neg h3]
theorem jP:∀ {l:List UInt8} {k n:Nat},k<=10->(bM k n l).2.1<=11/\(bM k n l).2.1<=k+l.length
 | [],k,n,h=>by rw [bM]; split <;> simp
 | x :: r,k,n,h=>by
  rw [bM]
  split
  ·simp
  ·split
   ·simp
   ·split
    ·simp; omega
    ·have:=jP (l:=r) (k:=k+1) (n:=n+(x &&& 127).toNat*2 ^ (7*k)) (by omega)
     simp only [List.length_cons]; omega
theorem Np:∀ {l:List UInt8} {k n:Nat},k<=10->n<2 ^ (7*k)->n<18446744073709551616->(bM k n l).1<18446744073709551616
 | [],k,n,_,_,_=>by rw [bM]; split <;> simp
 | x :: r,k,n,h,hn,hn2=>by
  rw [bM]
  split
  ·simp
  ·split
   ·simp
   ·rename_i h9 hz
    have hs:=xB (k:=k) (x:=x) (by omega) (fun e=>by by_cases hx:1<x.toNat; exact absurd (.inr ⟨e,hx⟩) hz; omega)
    have ho:=xR (k:=k) (m:=(x &&& 127).toNat) hn
    have hl:n ||| (x &&& 127).toNat*2 ^ (7*k)<2 ^ 64:=Nat.or_lt_two_pow hn2 hs
    rw [ho] at hl
    split
    ·exact hl
    ·exact Np aG (rZ hn) hl
theorem sH {b:List UInt8} {k n:Nat} {x:UInt8} (h:aw b=bM k n (b.drop k)) (hk:k<10) (hx:b[k]? = some x) (h1:(0<k/\x.toNat=0)\/(k=9/\1<x.toNat)):aw b=(0,0,3):=by rw [h,Fa hk hx,if_pos h1]
theorem AJ {b:List UInt8} {k n:Nat} {x:UInt8} (h:aw b=bM k n (b.drop k)) (hk:k<10) (hx:b[k]? = some x) (h1:¬ (0<k/\x.toNat=0)) (h2:¬ (k=9/\1<x.toNat)) (h3:x.toNat<128):aw b=(n+(x &&& 127).toNat*2 ^ (7*k),k+1,0):=by
 rw [h,Fa hk hx,if_neg (fun h=>h.elim h1 h2),if_pos h3]
theorem DD:∀ {l:List UInt8} {k n:Nat},1<=k->(bM k n l).2.2=0->2 ^ (7*k)<=(bM k n l).1
 | [],k,n,_,h=>by rw [bM] at h; split at h <;> cases h
 | x :: r,k,n,hk,h=>by
  rw [bM] at h ⊢
  split
  ·rename_i h1; rw [if_pos h1] at h; cases h
  ·rename_i h1
   rw [if_neg h1] at h
   split
   ·rename_i h2; rw [if_pos h2] at h; cases h
   ·rename_i h2
    rw [if_neg h2] at h
    split
    ·rename_i h3
     rw [iR]
     have:1<=x.toNat % 128:=by
      have:¬ x.toNat=0:=fun e=>h2 (.inl ⟨by omega,e⟩)
      omega
     have:=Nat.mul_le_mul_right (2 ^ (7*k)) this
     show 2 ^ (7*k)<=n+x.toNat % 128*2 ^ (7*k)
     omega
    ·rename_i h3
     rw [if_neg h3] at h
     exact Nat.le_trans (Nat.pow_le_pow_right (by decide) aG) (DD aG h)
theorem zD (x:UInt8) (r:List UInt8):aw (x :: r)=if x.toNat<128 then (x.toNat,1,0) else bM 1 (x.toNat % 128) r:=by
 unfold aw
 rw [bM,if_neg (by decide),if_neg (by omega),iR]
 split
 ·rename_i h; rw [Nat.mod_eq_of_lt h]; simp
 ·simp
theorem tT {b:List UInt8} {k:Nat} (hk:k<b.length):(b.drop k).take (b.length - k)=b[k] :: b.drop (k+1):=by
 rw [List.take_of_length_le (by simp),List.drop_eq_getElem_cons hk]
theorem tk1 {b:List UInt8} {k:Nat} (hk:k<b.length) (he:(aw ((b.drop k).take (b.length - k))).2.2=0) (hn:¬ (64:Int)<(((aw ((b.drop k).take (b.length - k))).1:Nat):Int)) :
  ∃ x,b[k]? = some x/\aw ((b.drop k).take (b.length - k))=(x.toNat,1,0)/\x.toNat<=64:=by
 rw [tT hk,zD] at *
 by_cases h:b[k].toNat<128
 ·rw [if_pos h] at *; exact ⟨_,List.getElem?_eq_getElem hk,rfl,by simp only at hn; omega⟩
 ·rw [if_neg h] at *
  have:=DD (Nat.le_refl 1) he
  omega
theorem tk2 {b:List UInt8} {k:Nat} (hk:k<b.length) (h:(¬ (aw ((b.drop k).take (b.length - k))).2.2=0)\/(64:Int)<(((aw ((b.drop k).take (b.length - k))).1:Nat):Int)):∃ x,b[k]? = some x/\64<x.toNat:=by
 refine ⟨b[k],List.getElem?_eq_getElem hk,?_⟩
 rw [tT hk,zD] at h
 by_cases h1:b[k].toNat<128
 ·rw [if_pos h1] at h; simp only [not_true_eq_false,false_or] at h; omega
 ·omega
def bC (b:List UInt8):List Int:=b.map fun x=>(x.toNat:Int)
def eb (b:List UInt8):List Int:=if rowF (bC b) then bC b else []
def gB (b:List UInt8):Int:=if rowF (bC b) then 0 else 6
theorem zf {b:List UInt8} {k:Nat} {x:UInt8} {p:Nat × Nat × Int} (hx:b[k]? = some x) (hp:p=(x.toNat,1,0)):bC (b.take k)++[((p.1:Nat):Int)]=bC (b.take (k+1)):=by
 subst hp; unfold bC; rw [ax hx,List.map_append]; rfl
theorem OS {b:List UInt8} {k:Nat} (hk:k<b.length) (h:(¬ (aw ((b.drop k).take (b.length - k))).2.2=0)\/(64:Int)<(((aw ((b.drop k).take (b.length - k))).1:Nat):Int)):rowF (bC b)=false:=by
 obtain ⟨x,hx,h64⟩:=tk2 hk h
 rw [<- Bool.not_eq_true]
 intro hr
 have:=(ku hr (x.toNat:Int) (List.mem_map.2 ⟨x,List.mem_of_getElem? hx,rfl⟩)).2
 omega
theorem rF {b:List UInt8} {k:Nat} (hk:b.length<=k):bC (b.take k)=bC b:=by rw [List.take_of_length_le hk]
theorem mb {b:List UInt8} (h:rowF (bC b)=false):[]=eb b:=by rw [eb,h]; rfl
theorem xu {b:List UInt8} (h:rowF (bC b)=false):6=gB b:=by rw [gB,h]; rfl
theorem zW {b:List UInt8} {k:Nat} (hk:b.length<=k) (h:rowF (bC (b.take k))=true):bC (b.take k)=eb b:=by rw [rF hk] at *; rw [eb,h]; rfl
theorem AK {b:List UInt8} {k:Nat} (hk:b.length<=k) (h:rowF (bC (b.take k))=true):0=gB b:=by rw [rF hk] at *; rw [gB,h]; rfl
theorem xO {b:List UInt8} {k:Nat} (hk:b.length<=k) (h:rowF (bC (b.take k))=false):rowF (bC b)=false:=by rw [rF hk] at h; exact h
theorem Ga {l:List Int} (h:∀ x ∈ l,0<x/\x<=64):dL l=l.map fun x=>UInt8.ofNat x.toNat:=by
 induction l with
 | nil=>rfl
 | cons x r ih=>
  have hx:=h x (by simp)
  simp only [dL,List.flatMap_cons,List.map_cons] at *
  rw [iz (by omega),ih fun y hy=>h y (List.mem_cons_of_mem _ hy)]; rfl
theorem pw {l:List Int} (h:∀ x ∈ l,0<x/\x<=64):bC (l.map fun x=>UInt8.ofNat x.toNat)=l:=by
 unfold bC
 rw [List.map_map]
 refine (List.map_congr_left (g:=id) fun x hx=>?_).trans (List.map_id _)
 have:=h x hx
 show (((UInt8.ofNat x.toNat).toNat:Nat):Int)=x
 rw [UInt8.toNat_ofNat']; omega
theorem ml {l:List Int} (h:rowF l=true):bK l=(l.map fun x=>UInt8.ofNat x.toNat)/\cj l=0/\eb (bK l)=l/\gB (bK l)=0:=by
 have e:=Ga (ku h)
 have e1:bK l=(l.map fun x=>UInt8.ofNat x.toNat):=by rw [bK,if_pos h,e]
 refine ⟨e1,by rw [cj,if_pos h],?_,?_⟩
 ·rw [e1,eb,pw (ku h),if_pos h]
 ·rw [e1,gB,pw (ku h),if_pos h]
theorem y_ (n:Nat):jT n 0=UInt8.ofNat (n % 128+128):=UInt8.toNat_inj.1 (by rw [Ny,UInt8.toNat_ofNat']; omega)
theorem Cw {p:List UInt8} {r n:Nat} (h:p++bS r=bS n) (hr:¬ r<128):(p++[UInt8.ofNat (r % 128+128)])++bS (r / 128)=bS n:=by
 rw [<- h,qf hr,y_,List.append_assoc]; rfl
theorem Jr {p:List UInt8} {r n:Nat} (h:p++bS r=bS n) (hr:r<128):p++[UInt8.ofNat r]=bS n:=by rw [<- h,iz hr]
theorem DI {p:List UInt8} {r n:Nat} (h:p++bS r=bS n) (hn:n<18446744073709551616):p.length<=10:=by
 have:=congrArg List.length h; rw [List.length_append] at this; have:=df hn; omega
theorem FC {b:List UInt8} {k:Nat} {x:UInt8} (hx:b[k]? = some x):bC (b.take k)++[(x.toNat:Int)]=bC (b.take (k+1)):=zf (p:=(x.toNat,1,0)) hx rfl
theorem rR {b:List UInt8} (h:rowF (bC b)=true):bK (bC b)=b:=by
 rw [(ml h).1]; unfold bC; rw [List.map_map]
 refine (List.map_congr_left (g:=id) fun x _=>?_).trans (List.map_id _)
 show UInt8.ofNat ((x.toNat:Int)).toNat=x
 simp
theorem sU {b:List UInt8} {k:Nat} (hk:b.length<=k) (h:(¬ cj (bC (b.take k))=0)\/(¬ (⟨bK (bC (b.take k))⟩:Str)=⟨b⟩)):rowF (bC b)=false:=by
 rw [rF hk] at h
 cases hr:rowF (bC b) with
 | false=>rfl
 | true=>rw [(ml hr).2.1,rR hr] at h; simp at h
theorem Ii {b:List UInt8} {k:Nat} (h:cj (bC (b.take k))=0):rowF (bC (b.take k))=true:=by
 cases hr:rowF (bC (b.take k)) with
 | true=>rfl
 | false=>rw [cj,hr] at h; cases h
theorem EM {f:Field}:(((!decide (iH f.num f.wire=0)) || (decide (f.wire=0) && decide ((0:Int)<((f.b.length:Nat):Int)))) || (decide (f.wire=2) && (!decide ((f.n.n:Int)=0)))) = !cW f:=by
 by_cases h:(f.num<1\/1000<f.num)
 ·rw [<- u_ h,<- kM (Or.inl h)]; simp
 ·by_cases h0:f.wire=0
  ·have e:decide ((0:Int)<((f.b.length:Nat):Int)) = !decide (((f.b.length:Nat):Int)=0):=by
    rw [Bool.eq_iff_iff]; simp only [Bool.not_eq_true',decide_eq_true_eq,decide_eq_false_iff_not]; omega
   rw [lQ h,if_pos h0,<- jm (by omega),e,decide_eq_true h0,decide_eq_false (show ¬ f.wire=2 by omega)]; simp
  ·by_cases h2:f.wire=2
   ·rw [lQ h,if_neg h0,if_pos h2,<- jm (by omega),Bool.eq_iff_iff]; simp [h2]
   ·rw [lQ h,if_neg h0,if_neg h2,<- kM (by omega)]; simp
theorem JI {c:Command} (h:eF c=true):c.chunks.length=0\/rowF c.chunks=true:=by
 unfold eF at h
 simp only [Bool.and_eq_true,decide_eq_true_eq] at h
 have h2:wW c=true:=by obtain ⟨⟨⟨⟨⟨⟨⟨h1,h2⟩,h3⟩,h4⟩,h5⟩,h6⟩,h7⟩,h8⟩:=h; assumption
 unfold wW at h2
 split at h2
 ·exact .inr h2
 ·have:=of_decide_eq_true h2; exact .inl (by omega)
theorem SI {c:Command} {v:Int} (h:dG c v=true):c.chunks.length=0\/rowF c.chunks=true:=by
 unfold dG at h
 rw [Bool.and_eq_true,Bool.and_eq_true,Bool.or_eq_true,decide_eq_true_eq] at h
 rcases h.1.2 with h | h
 ·exact .inl aG
 ·exact .inr h
theorem LO {c:Command} {v:Int} (h:bc c v=0):c.chunks.length=0\/rowF c.chunks=true:=JI (pd h).2.2.2
structure TagR where
 num:Int
 wire:Int
 k:Nat
 e:Int
def xz (n:Nat):Bool:=decide ((n / 8<1\/1000<n / 8)\/(¬ n % 8=0/\¬ n % 8=2))
def aB (b:List UInt8):TagR:=if (aw b).2.2=0 then (if xz (aw b).1=true then ⟨0,0,0,6⟩ else ⟨(((aw b).1 / 8:Nat):Int),(((aw b).1 % 8:Nat):Int),(aw b).2.1,0⟩) else ⟨0,0,0,(aw b).2.2⟩
theorem rV {b:List UInt8} (h:¬ (aw b).2.2=0):aB b=⟨0,0,0,(aw b).2.2⟩:=by rw [aB,if_neg h]
theorem sI {b:List UInt8} (h:(aw b).2.2=0) (h2:((aw b).1 / 8<1\/1000<(aw b).1 / 8)\/(¬ (aw b).1 % 8=0/\¬ (aw b).1 % 8=2)):aB b=⟨0,0,0,6⟩:=by rw [aB,if_pos h,if_pos (show xz _=true from decide_eq_true h2)]
theorem yo {b:List UInt8} (h:(aw b).2.2=0) (h2:¬ (((aw b).1 / 8<1\/1000<(aw b).1 / 8)\/(¬ (aw b).1 % 8=0/\¬ (aw b).1 % 8=2))):aB b=⟨(((aw b).1 / 8:Nat):Int),(((aw b).1 % 8:Nat):Int),(aw b).2.1,0⟩:=by
 rw [aB,if_pos h,if_neg (by unfold xz; simpa using h2)]
theorem gX (b:List UInt8):((aB b).k<=11/\(aB b).k<=b.length)/\(0<=(aB b).num/\(aB b).num<=1000)/\(0<=(aB b).wire/\(aB b).wire<=2):=by
 have hs:(aw b).2.1<=11/\(aw b).2.1<=0+b.length:=jP (l:=b) (k:=0) (n:=0) (by omega)
 by_cases h:(aw b).2.2=0
 ·by_cases h2:((aw b).1 / 8<1\/1000<(aw b).1 / 8)\/(¬ (aw b).1 % 8=0/\¬ (aw b).1 % 8=2)
  ·rw [sI h h2]; simp
  ·rw [yo h h2]; dsimp only; omega
 ·rw [rV h]; simp
theorem Ig:∀ {l:List UInt8} {k n:Nat},(bM k n l).2.2=0->1<=(bM k n l).2.1
 | [],k,n,h=>by rw [bM] at h; split at h <;> cases h
 | x :: r,k,n,h=>by
  rw [bM] at h ⊢
  split
  ·rename_i h1; rw [if_pos h1] at h; cases h
  ·rename_i h1
   rw [if_neg h1] at h
   split
   ·rename_i h2; rw [if_pos h2] at h; cases h
   ·rename_i h2
    rw [if_neg h2] at h
    split
    ·simp
    ·rename_i h3; rw [if_neg h3] at h; exact Ig h
def aL (b:List UInt8):Nat × Int:=
  if (aB b).e=0 then
    (if (aw (b.drop (aB b).k)).2.2=0 then
      (if (aB b).wire=0 then ((aB b).k+(aw (b.drop (aB b).k)).2.1,0)
       else if 16384<(aw (b.drop (aB b).k)).1 then (0,4)
       else if ((b.length:Nat):Int) - (((aB b).k+(aw (b.drop (aB b).k)).2.1:Nat):Int)<(((aw (b.drop (aB b).k)).1:Nat):Int) then (0,2)
       else ((aB b).k+(aw (b.drop (aB b).k)).2.1+(aw (b.drop (aB b).k)).1,0))
     else (0,(aw (b.drop (aB b).k)).2.2))
  else (0,(aB b).e)
theorem Sj {b:List UInt8} (h:¬ (aB b).e=0):aL b=(0,(aB b).e):=by rw [aL,if_neg h]
theorem SE {b:List UInt8} (h:(aB b).e=0) (h2:¬ (aw (b.drop (aB b).k)).2.2=0):aL b=(0,(aw (b.drop (aB b).k)).2.2):=by rw [aL,if_pos h,if_neg h2]
theorem Oz {b:List UInt8} (h:(aB b).e=0) (h2:(aw (b.drop (aB b).k)).2.2=0) (h3:(aB b).wire=0):aL b=((aB b).k+(aw (b.drop (aB b).k)).2.1,0):=by rw [aL,if_pos h,if_pos h2,if_pos h3]
theorem QH {b:List UInt8} (h:(aB b).e=0) (h2:(aw (b.drop (aB b).k)).2.2=0) (h3:¬ (aB b).wire=0) (h4:16384<(aw (b.drop (aB b).k)).1):aL b=(0,4):=by rw [aL,if_pos h,if_pos h2,if_neg h3,if_pos h4]
theorem VC {b:List UInt8} (h:(aB b).e=0) (h2:(aw (b.drop (aB b).k)).2.2=0) (h3:¬ (aB b).wire=0) (h4:¬ 16384<(aw (b.drop (aB b).k)).1) (h5:((b.length:Nat):Int) - (((aB b).k+(aw (b.drop (aB b).k)).2.1:Nat):Int)<(((aw (b.drop (aB b).k)).1:Nat):Int)):aL b=(0,2):=by rw [aL,if_pos h,if_pos h2,if_neg h3,if_neg h4,if_pos h5]
theorem TU {b:List UInt8} (h:(aB b).e=0) (h2:(aw (b.drop (aB b).k)).2.2=0) (h3:¬ (aB b).wire=0) (h4:¬ 16384<(aw (b.drop (aB b).k)).1) (h5:¬ ((b.length:Nat):Int) - (((aB b).k+(aw (b.drop (aB b).k)).2.1:Nat):Int)<(((aw (b.drop (aB b).k)).1:Nat):Int)):aL b=((aB b).k+(aw (b.drop (aB b).k)).2.1+(aw (b.drop (aB b).k)).1,0):=by rw [aL,if_pos h,if_pos h2,if_neg h3,if_neg h4,if_neg h5]
theorem fY (b:List UInt8) (k:Nat):(aw (b.drop k)).2.1<=11/\(aw (b.drop k)).2.1+k<=max b.length k:=by
 have:=jP (l:=b.drop k) (k:=0) (n:=0) (by omega)
 unfold aw
 rw [List.length_drop] at this
 omega
theorem lI (b:List UInt8):(aL b).1<=b.length:=by
 have h1:=gX b; have h2:=fY b (aB b).k
 unfold aL
 split
 ·split
  ·split
   ·dsimp only; omega
   ·split
    ·simp
    ·split
     ·simp
     ·dsimp only; omega
  ·simp
 ·simp
theorem lJ {b:List UInt8} (h:(aL b).2=0):1<=(aL b).1:=by
 unfold aL at h ⊢
 split
 ·rename_i h0
  rw [if_pos h0] at h
  split
  ·rename_i h1
   rw [if_pos h1] at h
   have:=Ig (l:=b.drop (aB b).k) (k:=0) (n:=0) h1
   split
   ·dsimp only; unfold aw; omega
   ·rename_i h2
    rw [if_neg h2] at h
    split
    ·rename_i h3; rw [if_pos h3] at h; cases h
    ·rename_i h3
     rw [if_neg h3] at h
     split
     ·rename_i h4; rw [if_pos h4] at h; cases h
     ·dsimp only; unfold aw; omega
  ·rename_i h1; rw [if_neg h1] at h; exact absurd h h1
 ·rename_i h0; rw [if_neg h0] at h; exact absurd h h0
def fC (b:List UInt8):Field:=if (aB b).wire=0 then ⟨(aB b).num,(aB b).wire,⟨(aw (b.drop (aB b).k)).1⟩,[]⟩ else ⟨(aB b).num,(aB b).wire,⟨0⟩,b.drop ((aB b).k+(aw (b.drop (aB b).k)).2.1)⟩
theorem AX {b:List UInt8} (h:(aB b).wire=0):(⟨(aB b).num,(aB b).wire,⟨(aw (b.drop (aB b).k)).1⟩,[]⟩:Field)=fC b:=by rw [fC,if_pos h]
theorem yX {b:List UInt8} (h:¬ (aB b).wire=0):(⟨(aB b).num,(aB b).wire,⟨0⟩,b.drop ((aB b).k+(aw (b.drop (aB b).k)).2.1)⟩:Field)=fC b:=by rw [fC,if_neg h]
def d_ (acc:List Field) (x:Field):Bool:=match acc[acc.length - 1]? with | none=>true | some y=>cS y x
def uK:Nat->List Field->List UInt8->List Field × Int
 | 0,acc,_=>(acc,0)
 | f+1,acc,b=>if b.length=0 then (acc,0) else if (aL b).2=0 then (if d_ acc (fC (b.take (aL b).1))=true then uK f (acc++[fC (b.take (aL b).1)]) (b.drop (aL b).1) else ([],5)) else ([],(aL b).2)
def aU (b:List UInt8):List Field × Int:=if 16384<b.length then ([],4) else uK b.length [] b
def dM (b:List UInt8) (i:Nat) (acc:List Field):Prop:=∃ f,b.length - i<=f/\aU b=uK f acc (b.drop i)
theorem OP {b:List UInt8} (h:16384<b.length):aU b=([],4):=by rw [aU,if_pos h]
theorem wU {b:List UInt8} (h:¬ 16384<b.length):dM b 0 []:=⟨b.length,by omega,by rw [aU,if_neg h]; rfl⟩
theorem FX {b:List UInt8} {i:Nat} {acc:List Field} (h:dM b i acc) (hi:i<b.length):∃ f,b.length - i<=f+1/\aU b=if (aL (b.drop i)).2=0 then (if d_ acc (fC ((b.drop i).take (aL (b.drop i)).1))=true then uK f (acc++[fC ((b.drop i).take (aL (b.drop i)).1)]) ((b.drop i).drop (aL (b.drop i)).1) else ([],5)) else ([],(aL (b.drop i)).2):=by
 obtain ⟨f,hf,e⟩:=h
 cases f with
 | zero=>omega
 | succ f=>exact ⟨f,hf,by rw [e,uK,if_neg (by rw [List.length_drop]; omega)]⟩
theorem Mt {b:List UInt8} {i:Nat} {acc:List Field} (h:dM b i acc) (hi:i<b.length) (hs:¬ (aL (b.drop i)).2=0):aU b=([],(aL (b.drop i)).2):=by
 obtain ⟨f,_,e⟩:=FX h hi; rw [e,if_neg hs]
theorem Se {b:List UInt8} {i:Nat} {acc:List Field} (h:dM b i acc) (hi:b.length<=i):aU b=(acc,0):=by
 obtain ⟨f,_,e⟩:=h
 rw [e,List.drop_of_length_le hi]
 cases f <;> rfl
theorem ux:∀ {f:Nat} {acc:List Field} {b:List UInt8},(uK f acc b).1.length<=acc.length+b.length
 | 0,acc,b=>by simp [uK]
 | f+1,acc,b=>by
  unfold uK
  split
  ·simp
  ·split
   ·rename_i h0 h1
    split
    ·have:=ux (f:=f) (acc:=acc++[fC (b.take (aL b).1)]) (b:=b.drop (aL b).1)
     have h2:=lJ h1
     rw [List.length_append,List.length_drop] at this
     simp only [List.length_cons,List.length_nil] at this
     omega
    ·simp
   ·simp
theorem Az (b:List UInt8):(aU b).1.length<=16384:=by
 unfold aU
 split
 ·simp
 ·have:=ux (f:=b.length) (acc:=[]) (b:=b)
  simp only [List.length_nil] at this
  omega
def CV (x:Field) (s:Spec) (n:Int):Bool:=if ¬ x.wire=s.wire\/(1<n/\s.many=false) then false else if x.wire=0 then !decide ((x.n.n:Int)=0) else decide (0<((x.b.length:Nat):Int))
def cM (l:List Field) (q:Int):Nat:=l.countP fun x=>decide (x.num=q)
theorem AI {l:List Field} {k:Nat} (q:Int):cM (l.take k) q<=k:=Nat.le_trans List.countP_le_length (by rw [List.length_take]; exact Nat.min_le_left _ _)
theorem lL {l:List Field} {k:Nat} {x:Field} (hx:l[k]? = some x) (q:Int):cM (l.take (k+1)) q=if q=x.num then cM (l.take k) x.num+1 else cM (l.take k) q:=by
 unfold cM
 rw [ax hx,List.countP_append]
 by_cases h:q=x.num
 ·subst h; simp
 ·have:¬ x.num=q:=fun e=>h e.symm
  simp [h,this]
def qj (l:List Field) (ss:List Spec) (k:Nat):Prop:=∀ j x,j<k->l[j]? = some x->∀ s ∈ ss,s.num=x.num->CV x s ((cM (l.take (j+1)) x.num:Nat):Int)=true
def CY (l:List Field) (ss:List Spec) (m:Nat):Prop:=∀ j y,j<m->ss[j]? = some y->y.need=true->¬ cM l y.num=0
def Dd (ss:List Spec) (x:Field) (n:Int) (m:Nat):Prop:=∀ j y,j<m->ss[j]? = some y->y.num=x.num->CV x y n=true
theorem UK {ss:List Spec} {x:Field} {n:Int}:Dd ss x n 0:=fun j y h=>by omega
theorem WG {l:List Field} {ss:List Spec}:qj l ss 0:=fun j y h=>by omega
theorem UZ {l:List Field} {ss:List Spec}:CY l ss 0:=fun j y h=>by omega
def pI (l:List Field) (v:Int):Prop:=qj l (aK v) l.length/\CY l (aK v) (aK v).length
open Classical in
noncomputable def ew (l:List Field) (v:Int):Int:=if (aK v).length=0 then 1 else if bY l=0 then (if pI l v then 0 else 6) else bY l
theorem Vk {l:List Field} {v:Int} (h:(aK v).length=0):1=ew l v:=by rw [ew,if_pos h]
theorem Wb {l:List Field} {v:Int} (h:¬ (aK v).length=0) (h2:¬ bY l=0):bY l=ew l v:=by rw [ew,if_neg h,if_neg h2]
theorem Na {l:List Field} {v:Int} (h:¬ (aK v).length=0) (h2:bY l=0) (h3:¬ pI l v):6=ew l v:=by rw [ew,if_neg h,if_pos h2,if_neg h3]
theorem Tm {l:List Field} {v:Int} (h:¬ (aK v).length=0) (h2:bY l=0) (h3:pI l v):0=ew l v:=by rw [ew,if_neg h,if_pos h2,if_pos h3]
theorem Ih {ss:List Spec} {m:Nat} {x:Field} {n:Int} {y:Spec} (h:Dd ss x n m) (hy:ss[m]? = some y) (hn:y.num=x.num->CV x y n=true):Dd ss x n (m+1):=by
 intro j z hj hz
 by_cases hjm:j=m
 ·subst hjm; rw [hy] at hz; cases hz; exact hn
 ·exact h j z aG hz
theorem Ek {l:List Field} {ss:List Spec} {k m:Nat} {x:Field} (h:qj l ss k) (hx:l[k]? = some x) {n:Int} (hi:Dd ss x n m) (hm:ss.length<=m) (e:n=((cM (l.take (k+1)) x.num:Nat):Int)):qj l ss (k+1):=by
 subst e
 intro j z hj hz s hs hn
 by_cases hjk:j=k
 ·subst hjk; rw [hx] at hz; cases hz
  obtain ⟨p,hp,rfl⟩:=List.getElem_of_mem hs
  exact hi p _ aG (List.getElem?_eq_getElem hp) hn
 ·exact h j z aG hz s hs hn
theorem Da {l:List Field} {ss:List Spec} {m:Nat} {y:Spec} (h:CY l ss m) (hy:ss[m]? = some y) (hn:y.need=true->¬ cM l y.num=0):CY l ss (m+1):=by
 intro j z hj hz
 by_cases hjm:j=m
 ·subst hjm; rw [hy] at hz; cases hz; exact hn
 ·exact h j z aG hz
theorem Ll {l:List Field} {v:Int} {k m:Nat} {x:Field} {y:Spec} (hx:l[k]? = some x) (hy:(aK v)[m]? = some y) {n:Int} (hn:y.num=x.num/\CV x y n=false) (e:n=((cM (l.take (k+1)) x.num:Nat):Int)):¬ pI l v:=by
 intro h
 have:=h.1 k x (kj hx) hx y (List.mem_of_getElem? hy) hn.1
 rw [<- e,hn.2] at this; cases this
theorem KJ {l:List Field} {v:Int} {m:Nat} {y:Spec} {n:Nat} (hy:(aK v)[m]? = some y) (hn:y.need=true/\((n:Nat):Int)=0) (e:n=cM l y.num):¬ pI l v:=
 fun h=>h.2 m y (kj hy) hy hn.1 (by omega)
theorem Nc {l:List Field} {v:Int} {k m:Nat} (h1:qj l (aK v) k) (hk:l.length<=k) (h2:CY l (aK v) m) (hm:(aK v).length<=m):pI l v:=
 ⟨fun j x hj=>h1 j x (by omega),fun j y hj=>h2 j y (by omega)⟩
theorem MM {l:List Field} {v:Int} {k:Nat} {x:Field} (hx:l[k]? = some x) (h:x.num<=v):(l.take k).filter (fun f=>decide (f.num<=v))++[x]=(l.take (k+1)).filter (fun f=>decide (f.num<=v)):=by
 rw [ax hx,List.filter_append]; simp [h]
theorem PY {l:List Field} {v:Int} {k:Nat} {x:Field} (hx:l[k]? = some x) (h:¬ x.num<=v):(l.take k).filter (fun f=>decide (f.num<=v))=(l.take (k+1)).filter (fun f=>decide (f.num<=v)):=by
 rw [ax hx,List.filter_append]; simp [h]
theorem Lp {l:List Field} {v:Int} {k:Nat} {x:Field} (hx:l[k]? = some x) (h:¬ x.num<=v):(l.take k).filter (fun f=>!decide (f.num<=v))++[x]=(l.take (k+1)).filter (fun f=>!decide (f.num<=v)):=by
 rw [ax hx,List.filter_append]; simp [h]
theorem OY {l:List Field} {v:Int} {k:Nat} {x:Field} (hx:l[k]? = some x) (h:x.num<=v):(l.take k).filter (fun f=>!decide (f.num<=v))=(l.take (k+1)).filter (fun f=>!decide (f.num<=v)):=by
 rw [ax hx,List.filter_append]; simp [h]
theorem EZ (l:List Field) (p:Field->Bool):(l.filter p).length<=l.length:=List.length_filter_le _ _
def bD (l:List Field) (v:Int):List Field:=l.filter fun f=>decide (f.num<=v)
def cC (l:List Field) (v:Int):List Field:=l.filter fun f=>!decide (f.num<=v)
theorem yy (l:List Field) (v:Int):(bD l v).length<=l.length:=EZ _ _
theorem nN (l:List Field) (v:Int):(cC l v).length<=l.length:=EZ _ _
theorem BX {l:List Field} {v:Int} {k:Nat} (hk:l.length<=k):(l.take k).filter (fun f=>decide (f.num<=v))=bD l v:=by rw [List.take_of_length_le hk]; rfl
theorem HY {l:List Field} {v:Int} {k:Nat} (hk:l.length<=k):(l.take k).filter (fun f=>!decide (f.num<=v))=cC l v:=by rw [List.take_of_length_le hk]; rfl
def BS (f:Field):Int:=IntKind.i64.wrap ((f.n.n:Nat):Int)
def dV (c:Command) (f:Field):Command:=
 if f.num=1 then ⟨BS f,c.client,c.seq,c.set,c.id,c.n,c.chunks,c.text⟩ else
 if f.num=2 then ⟨c.kind,BS f,c.seq,c.set,c.id,c.n,c.chunks,c.text⟩ else
 if f.num=3 then ⟨c.kind,c.client,BS f,c.set,c.id,c.n,c.chunks,c.text⟩ else
 if f.num=4 then ⟨c.kind,c.client,c.seq,BS f,c.id,c.n,c.chunks,c.text⟩ else
 if f.num=5 then ⟨c.kind,c.client,c.seq,c.set,BS f,c.n,c.chunks,c.text⟩ else
 if f.num=6 then ⟨c.kind,c.client,c.seq,c.set,c.id,BS f,c.chunks,c.text⟩ else
 if f.num=7 then ⟨c.kind,c.client,c.seq,c.set,c.id,c.n,eb f.b,c.text⟩ else
 if f.num=8 then ⟨c.kind,c.client,c.seq,c.set,c.id,c.n,c.chunks,⟨f.b⟩⟩ else c
def bG:Command:=⟨0,0,0,0,0,0,[],⟨[]⟩⟩
def bQ (l:List Field):Command:=l.foldl dV bG
theorem dg {l:List Field} {k:Nat} {x:Field} (hx:l[k]? = some x):bQ (l.take (k+1))=dV (bQ (l.take k)) x:=by
 unfold bQ; rw [ax hx,List.foldl_append]; rfl
theorem ZX {c:Command} {f:Field} (h:f.num=1):(⟨BS f,c.client,c.seq,c.set,c.id,c.n,c.chunks,c.text⟩:Command)=dV c f:=by rw [dV,if_pos h]
theorem YN {c:Command} {f:Field} (h:f.num=2):(⟨c.kind,BS f,c.seq,c.set,c.id,c.n,c.chunks,c.text⟩:Command)=dV c f:=by rw [dV,if_neg (by omega),if_pos h]
theorem aaA {c:Command} {f:Field} (h:f.num=3):(⟨c.kind,c.client,BS f,c.set,c.id,c.n,c.chunks,c.text⟩:Command)=dV c f:=by rw [dV,if_neg (by omega),if_neg (by omega),if_pos h]
theorem aaj {c:Command} {f:Field} (h:f.num=4):(⟨c.kind,c.client,c.seq,BS f,c.id,c.n,c.chunks,c.text⟩:Command)=dV c f:=by rw [dV,if_neg (by omega),if_neg (by omega),if_neg (by omega),if_pos h]
theorem Zl {c:Command} {f:Field} (h:f.num=5):(⟨c.kind,c.client,c.seq,c.set,BS f,c.n,c.chunks,c.text⟩:Command)=dV c f:=by rw [dV,if_neg (by omega),if_neg (by omega),if_neg (by omega),if_neg (by omega),if_pos h]
theorem Yx {c:Command} {f:Field} (h:f.num=6):(⟨c.kind,c.client,c.seq,c.set,c.id,BS f,c.chunks,c.text⟩:Command)=dV c f:=by rw [dV,if_neg (by omega),if_neg (by omega),if_neg (by omega),if_neg (by omega),if_neg (by omega),if_pos h]
theorem XW {c:Command} {f:Field} (h:f.num=7):(⟨c.kind,c.client,c.seq,c.set,c.id,c.n,eb f.b,c.text⟩:Command)=dV c f:=by rw [dV,if_neg (by omega),if_neg (by omega),if_neg (by omega),if_neg (by omega),if_neg (by omega),if_neg (by omega),if_pos h]
theorem ZB {c:Command} {f:Field} (h:f.num=8):(⟨c.kind,c.client,c.seq,c.set,c.id,c.n,c.chunks,⟨f.b⟩⟩:Command)=dV c f:=by rw [dV,if_neg (by omega),if_neg (by omega),if_neg (by omega),if_neg (by omega),if_neg (by omega),if_neg (by omega),if_neg (by omega),if_pos h]
theorem YG {c:Command} {f:Field} (h:¬ (1<=f.num/\f.num<=8)):c=dV c f:=by rw [dV,if_neg (by omega),if_neg (by omega),if_neg (by omega),if_neg (by omega),if_neg (by omega),if_neg (by omega),if_neg (by omega),if_neg (by omega)]
noncomputable def kx (b:List UInt8) (v:Int):Int:=if (aU b).2=0 then ew (aU b).1 v else (aU b).2
structure TkR where
 c:Command
 r:List Field
 e:Int
noncomputable def bP (b:List UInt8) (v:Int):TkR:=
 if 1<=v/\v<=3 then (if kx b v=0 then (if dB (bQ (bD (aU b).1 (bj v))) (cC (aU b).1 (bj v)) v=0/\eg (bQ (bD (aU b).1 (bj v))) (cC (aU b).1 (bj v)) v=b then ⟨bQ (bD (aU b).1 (bj v)),cC (aU b).1 (bj v),0⟩ else ⟨bG,[],6⟩) else ⟨bG,[],kx b v⟩) else ⟨bG,[],1⟩
theorem XY {b:List UInt8} {v:Int} (h:¬ (1<=v/\v<=3)):bP b v=⟨bG,[],1⟩:=by rw [bP,if_neg h]
theorem Vs {b:List UInt8} {v:Int} (h:1<=v/\v<=3) (h2:¬ kx b v=0):bP b v=⟨bG,[],kx b v⟩:=by rw [bP,if_pos h,if_neg h2]
theorem Un {b:List UInt8} {v:Int} (h:1<=v/\v<=3) (h2:kx b v=0) (h3:¬ dB (bQ (bD (aU b).1 (bj v))) (cC (aU b).1 (bj v)) v=0\/¬ eg (bQ (bD (aU b).1 (bj v))) (cC (aU b).1 (bj v)) v=b):bP b v=⟨bG,[],6⟩:=by
 rw [bP,if_pos h,if_pos h2,if_neg (fun h=>h3.elim (fun h4=>h4 h.1) (fun h4=>h4 h.2))]
theorem UE {b:List UInt8} {v:Int} (h:1<=v/\v<=3) (h2:kx b v=0) (h3:dB (bQ (bD (aU b).1 (bj v))) (cC (aU b).1 (bj v)) v=0/\eg (bQ (bD (aU b).1 (bj v))) (cC (aU b).1 (bj v)) v=b):bP b v=⟨bQ (bD (aU b).1 (bj v)),cC (aU b).1 (bj v),0⟩:=by
 rw [bP,if_pos h,if_pos h2,if_pos h3]
theorem AG {b:List UInt8} {v:Int} (h:kx b v=0):(aU b).2=0/\bY (aU b).1=0:=by
 unfold kx at h
 split at h
 ·rename_i h1
  refine ⟨h1,?_⟩
  unfold ew at h
  split at h
  ·cases h
  ·split at h
   ·assumption
   ·exact h
 ·rename_i h1; exact absurd h h1
theorem EB {b:List UInt8} {v:Int} {u:Int} (h:kx b v=0):∀ f ∈ bD (aU b).1 u,f.b.length<=16384:=
 fun _ hf=>lU (AG h).2 (List.mem_filter.1 hf).1
theorem ru {x:UInt8} (h:x.toNat<128):(x &&& 127).toNat=x.toNat:=by rw [iR]; omega
theorem Cu:∀ (n:Nat) {k m:Nat} {r:List UInt8},k<=9->n*2 ^ (7*k)<18446744073709551616->(0<k->n≠0)->bM k m (bS n++r)=(m+n*2 ^ (7*k),k+(bS n).length,0):=by
 intro n
 induction n using Nat.strongRecOn with
 | _ n ih=>
  intro k m r hk hn h0
  by_cases hs:n<128
  ·rw [iz hs]
   have hx:(UInt8.ofNat n).toNat=n:=by rw [UInt8.toNat_ofNat']; omega
   simp only [List.cons_append,List.nil_append,List.length_cons,List.length_nil]
   have h9:¬ ((0<k/\(UInt8.ofNat n).toNat=0)\/(k=9/\1<(UInt8.ofNat n).toNat)):=by
    rw [hx]
    rintro (⟨h1,h2⟩ | ⟨rfl,h2⟩)
    ·exact h0 h1 h2
    ·have:2*2 ^ (7*9)<=n*2 ^ (7*9):=Nat.mul_le_mul_right _ (by omega)
     have e:(2:Nat)*2 ^ (7*9)=18446744073709551616:=by decide
     omega
   rw [bM,if_neg (by omega),if_neg h9,if_pos (by omega),ru (by omega),hx]
  ·rw [qf hs]
   simp only [List.cons_append,List.length_cons]
   have hx:=Ny n
   have hk8:k<=8:=by
    rcases Nat.lt_or_ge k 9 with h | h
    ·omega
    ·have hk9:k=9:=by omega
     subst hk9
     have:128*2 ^ (7*9)<=n*2 ^ (7*9):=Nat.mul_le_mul_right _ (by omega)
     have e:(128:Nat)*2 ^ (7*9)=1180591620717411303424:=by decide
     omega
   have e7:(2:Nat) ^ (7*(k+1))=128*2 ^ (7*k):=by rw [show 7*(k+1)=7*k+7 by omega,Nat.pow_add,Nat.mul_comm]
   have hd:n / 128*2 ^ (7*(k+1))<=n*2 ^ (7*k):=by
    rw [e7,<- Nat.mul_assoc]; exact Nat.mul_le_mul_right _ (Nat.div_mul_le_self _ _)
   rw [bM,if_neg (by omega),if_neg (by rw [hx]; rintro (⟨_,h⟩ | ⟨h,_⟩) <;> omega),if_neg (by omega),iR,hx]
   rw [ih (n / 128) (by omega) (k:=k+1) (by omega) (by omega) (fun _=>by omega)]
   have e:(n % 128+128) % 128=n % 128:=by omega
   have e2:n % 128*2 ^ (7*k)+n / 128*2 ^ (7*(k+1))=n*2 ^ (7*k):=by
    rw [e7,<- Nat.mul_assoc,<- Nat.add_mul]; congr 1; omega
   rw [e,Nat.add_assoc,e2]
   congr 2
   omega
theorem qI {n:Nat} (h:n<18446744073709551616) (r:List UInt8):aw (bS n++r)=(n,(bS n).length,0):=by
 unfold aw
 rw [Cu n (by omega) (by simpa using h) (fun h=>absurd h (by omega))]
 simp
structure PutOk (c:Command) (v:Int):Prop where
 vr:1<=v/\v<=3
 nn:0<=c.kind/\0<=c.client/\0<=c.seq/\0<=c.set/\0<=c.id/\0<=c.n
 kind:¬ c.kind=0
 row:c.chunks.length=0\/rowF c.chunks=true
 text:v<3->c.text=⟨[]⟩
theorem CJ {c:Command} {rest:List Field} {v:Int} (h:dB c rest v=0):((1<=v/\v<=3)/\(dG c v=true\/bc c v=0)/\(∀ f ∈ rest,bj v<f.num))/\bY (bL c v++rest)=0/\eg c rest v=gN (bL c v++rest):=by
 unfold dB at h
 split at h
 ·rename_i hb
  refine ⟨?_,h,by rw [eg,if_pos hb]⟩
  unfold cN at hb
  split at hb
  ·cases hb
  ·rename_i h1
   split at hb
   ·rename_i h2; exact absurd hb h2.2
   ·rename_i h2
    split at hb
    ·cases hb
    ·rename_i h3
     refine ⟨qk (by simpa using h1),?_,fun f hf=>?_⟩
     ·by_cases hm:bc c v=0
      ·exact .inr hm
      ·refine .inl ?_
       by_cases hf:dG c v=false
       ·exact absurd ⟨hf,hm⟩ h2
       ·simpa using hf
     ·rw [Bool.not_eq_true,List.any_eq_false] at h3
      have:=h3 f hf
      simpa using this
 ·rename_i hb; exact absurd h hb
theorem Kf {l:List Field} {q:Int} (k:Nat):cM (l.take k) q<=cM l q:=(List.take_sublist k l).countP_le
theorem Xu {b:List UInt8} {k:Nat} {x:UInt8} (hx:b[k]? = some x):b.getD k (dflt .u8)=x:=by rw [List.getD_eq_getElem?_getD,hx]; rfl
theorem tvA {b:List UInt8} {k n:Nat} (h:aw b=bM k n (b.drop k)) (hk:(k:Int)<10) (hb:(k:Int)=(b.length:Int)):aw b=(0,0,2):=h.trans (Fg (by omega) (by omega))
theorem tvD {b:List UInt8} {k n:Nat} (h:aw b=bM k n (b.drop k)) (hk:10<=(k:Int)):aw b=(0,0,3):=h.trans (Qb (by omega))
theorem tvG {b:List UInt8} {k:Nat} (h1:k<=b.length) (h2:¬ (k:Int)=(b.length:Int)):∃ x,b[k]? = some x:=⟨_,List.getElem?_eq_getElem (by omega)⟩
theorem tvB {b:List UInt8} {k n:Nat} (h:aw b=bM k n (b.drop k)) (hk:(k:Int)<10) (hl:k<=b.length) (hb:¬ (k:Int)=(b.length:Int)) (h0:0<(k:Int)) (h1:((b.getD k (dflt .u8)).toNat:Int)=((UInt8.ofNat 0).toNat:Int)):aw b=(0,0,3):=by
 obtain ⟨x,hx⟩:=tvG hl hb
 rw [Xu hx,show (UInt8.ofNat 0).toNat=0 from rfl] at h1
 exact sH h aG hx (.inl ⟨by omega,by omega⟩)
theorem tvC {b:List UInt8} {k n:Nat} (h:aw b=bM k n (b.drop k)) (_hk:(k:Int)<10) (hl:k<=b.length) (hb:¬ (k:Int)=(b.length:Int)) (h0:(k:Int)=9) (h1:((UInt8.ofNat 1).toNat:Int)<((b.getD k (dflt .u8)).toNat:Int)):aw b=(0,0,3):=by
 obtain ⟨x,hx⟩:=tvG hl hb
 rw [Xu hx,show (UInt8.ofNat 1).toNat=1 from rfl] at h1
 exact sH h aG hx (.inr ⟨by omega,by omega⟩)
def Pq (n k:Nat) (x:UInt8):Nat:=n ||| (x &&& UInt8.ofNat 127).toNat*2 ^ (7*(k:Int)).toNat % 18446744073709551616
theorem tvN {k n:Nat} {x:UInt8} (hn:n<2 ^ (7*k)) (hk:k<=9) (h9:k=9->x.toNat<=1):Pq n k x=n+(x &&& 127).toNat*2 ^ (7*k):=by
 unfold Pq
 rw [show (UInt8.ofNat 127)=127 from rfl,show (7*(k:Int)).toNat=7*k by omega,Nat.mod_eq_of_lt (xB hk h9)]
 exact xR hn
theorem tvZ {b:List UInt8} {k:Nat} {x:UInt8} (hx:b[k]? = some x) (h1:(k:Int)<=0\/¬ ((b.getD k (dflt .u8)).toNat:Int)=((UInt8.ofNat 0).toNat:Int)) (h2:¬ (k:Int)=9\/((b.getD k (dflt .u8)).toNat:Int)<=((UInt8.ofNat 1).toNat:Int)):(¬ (0<k/\x.toNat=0))/\¬ (k=9/\1<x.toNat):=by
 rw [Xu hx,show (UInt8.ofNat 0).toNat=0 from rfl] at h1
 rw [Xu hx,show (UInt8.ofNat 1).toNat=1 from rfl] at h2
 omega
theorem ZD {b:List UInt8} {k n:Nat} {x y:UInt8} (h:aw b=bM k n (b.drop k)) (hn:n<2 ^ (7*k)) (hk:(k:Int)<10) (hx:b[k]? = some x) (hy:b[k]? = some y) (h1:(k:Int)<=0\/¬ ((b.getD k (dflt .u8)).toNat:Int)=((UInt8.ofNat 0).toNat:Int)) (h2:¬ (k:Int)=9\/((b.getD k (dflt .u8)).toNat:Int)<=((UInt8.ofNat 1).toNat:Int)) (h3:(y.toNat:Int)<((UInt8.ofNat 128).toNat:Int)):aw b=(Pq n k x,k+1,0):=by
 have hz:=tvZ hx h1 h2
 rw [show (UInt8.ofNat 128).toNat=128 from rfl] at h3
 rw [hx] at hy; cases hy
 rw [tvN hn (by omega) (by omega)]
 exact AJ h aG hx hz.1 hz.2 aG
theorem tvF {b:List UInt8} {k n:Nat} {x y:UInt8} (h:aw b=bM k n (b.drop k)) (hn:n<2 ^ (7*k)) (hn2:n<18446744073709551616) (hk:(k:Int)<10) (hx:b[k]? = some x) (hy:b[k]? = some y) (h1:(k:Int)<=0\/¬ ((b.getD k (dflt .u8)).toNat:Int)=((UInt8.ofNat 0).toNat:Int)) (h2:¬ (k:Int)=9\/((b.getD k (dflt .u8)).toNat:Int)<=((UInt8.ofNat 1).toNat:Int)) (h3:((UInt8.ofNat 128).toNat:Int)<=(y.toNat:Int)):Pq n k x<2 ^ (7*(k+1))/\Pq n k x<18446744073709551616/\aw b=bM (k+1) (Pq n k x) (b.drop (k+1)):=by
 have hz:=tvZ hx h1 h2
 rw [show (UInt8.ofNat 128).toNat=128 from rfl] at h3
 rw [hx] at hy; cases hy
 have e:=tvN hn (show k<=9 by omega) (show k=9->x.toNat<=1 by omega)
 refine ⟨by rw [e]; exact rZ hn,?_,by rw [e]; exact Ak h (by omega) hx hz.1 hz.2 (by omega)⟩
 unfold Pq
 exact Nat.or_lt_two_pow (n:=64) hn2 (Nat.mod_lt _ (by decide))
theorem TA {c:Command} {v:Int} {k:Nat} {x:Int} (hx:[c.client,c.seq,c.set,c.id,c.n][k]? = some x) (h:x<0\/1048576<x):false=dG c v:=by
 refine Mu ?_
 match k,hx with
 | 0,hx=>cases hx; exact .inl h
 | 1,hx=>cases hx; exact .inr (.inl h)
 | 2,hx=>cases hx; exact .inr (.inr (.inl h))
 | 3,hx=>cases hx; exact .inr (.inr (.inr (.inl h)))
 | 4,hx=>cases hx; exact .inr (.inr (.inr (.inr h)))
theorem Wi {c:Command} {k:Nat} (h:(k:Int)<5):[c.client,c.seq,c.set,c.id,c.n][k]? = some ([c.client,c.seq,c.set,c.id,c.n].getD k (dflt .int)):=by
 rw [List.getD_eq_getElem?_getD,List.getElem?_eq_getElem (by simp only [List.length_cons,List.length_nil]; omega)]; rfl
theorem TC {n:Int} {p:Prop} (h:n<=0\/p):(¬ 0<n)\/p:=h.imp_left (by omega)
theorem aas {l:List Int} {k:Nat} {x:Int} (h:((l.take k).all fun n=>bb n 0 1048576)=true) (hx:l[k]? = some x) (h0:0<=x) (h1:x<=1048576):((l.take (k+1)).all fun n=>bb n 0 1048576)=true:=by
 rw [ax hx,List.all_append,h]; simp [bb]; omega
theorem VZ {c:Command} {k:Nat} (h:(([c.client,c.seq,c.set,c.id,c.n].take k).all fun n=>bb n 0 1048576)=true) (hk:5<=(k:Int)):¬ ((c.client<0\/1048576<c.client)\/(c.seq<0\/1048576<c.seq)\/(c.set<0\/1048576<c.set)\/(c.id<0\/1048576<c.id)\/(c.n<0\/1048576<c.n)):=by
 rw [List.take_of_length_le (by simp only [List.length_cons,List.length_nil]; omega)] at h
 simp only [List.all_cons,List.all_nil,bb,Bool.and_eq_true,decide_eq_true_eq] at h
 omega
def Gg (b:List UInt8):List (Nat × LI):=[(3,{ σ:=Nat × Nat,F:=fun s=>([(0,one (.fz .u8 (b))),(5,one (.u64 s.2)),(6,one (.int 0)),(7,one (.int 3)),(9,one (.int s.1))],[]),J:=fun s=>s.1<=10/\s.2<2 ^ (7*s.1)/\s.2<18446744073709551616/\aw b=bM s.1 s.2 (b.drop s.1)/\s.1<=b.length,μ:=fun s=>10 - s.1 })]
def qE (c:Command) (v:Int):List (Nat × LI):=[(5,{ σ:=Nat,F:=fun k=>([(1,one (.int (v))),(2,one (.ptr 0 0)),(38,.one (.agg [.int c.client,.int c.seq,.int c.set,.int c.id,.int c.n])),(39,one (.int k))],[.box 24 (cellsOf (.nm .command) ((c)))]),J:=fun k=>k<=5/\([c.client,c.seq,c.set,c.id,c.n].take k).all (fun n=>bb n 0 1048576)=true,μ:=fun k=>5 - k })]
theorem LA (b:List UInt8) (r0:U64) (r1:Int) (r2:Int):ck tyT fP (Gg b) Tryz.f126 [.c (.fz .u8 (b))] [] [.c (.u64 (r0).n),.c (.int (r1)),.c (.int (r2))]=((fun (q11:UInt8)=>(fun (q10:Nat)=>(fun (q9:Nat)=>(fun (q8:Nat)=>(fun (q7:Int)=>(fun (q6:Int)=>(fun (q5:Int)=>(fun (q4:Int)=>(fun (q3:Int)=>(fun (q2:Prop)=>(fun (q1:Int)=>(fun (q0:Int)=>b.length*(1:Nat)<=(140737488355328:Nat)->∃ (s0:Nat × Nat),(fun (q15:Prop)=>(fun (q14:Prop)=>(fun (q13:Prop)=>(fun (q12:Prop)=>(b=b/\(0:Nat)=s0.snd/\q14/\q1=q1/\q0=(↑s0.fst:Int))/\(s0.fst<=q9/\s0.snd<q8 ^ ((7:Nat)*s0.fst)/\s0.snd<q10/\aw b=bM s0.fst s0.snd (List.drop s0.fst b)/\s0.fst<=b.length)/\∀ (s:Nat × Nat),(fun (q20:Nat)=>(fun (q19:Int)=>(fun (q18:Prop)=>(fun (q17:Int)=>(fun (q16:Prop)=>q20<=q9/\s.snd<q8 ^ ((7:Nat)*q20)/\s.snd<q10/\aw b=bM q20 s.snd (List.drop q20 b)/\q20<=b.length->(q17<(10:Int)->(q17=q3->(¬(2:Int)=q0->q2/\q0=r1/\(2:Int)=r2)/\((2:Int)=q0->s.snd=r0.n/\q12))/\(¬q17=q3->(q0<q17->q0<=q17/\q17<q3)/\(q0<q17/\q19=q4->(q0<q17/\q19=q4->q18)/\(q17<=q0\/¬q19=q4->q16))/\(q17<=q0\/¬q19=q4->(q17=(9:Int)->q0<=q17/\q17<q3)/\(q17=(9:Int)/\(↑(UInt8.ofNat (1:Nat)).toNat:Int)<q19->q18)/\(¬q17=(9:Int)\/q19<=(↑(UInt8.ofNat (1:Nat)).toNat:Int)->q16))))/\((10:Int)<=q17->q18)) (q0<=q17/\q17<q3/\∀ (x:UInt8),b[q20]? = some x->I64 (q6*q17)/\q0<=q6*q17/\q6*q17<(64:Int)/\q0<=q17/\q17<q3/\∀ (x_1:UInt8),b[q20]? = some x_1->((↑x_1.toNat:Int)<q5->I64 (q17+q7)/\(¬q14->q2/\q12)/\(q14->s.snd ||| (x &&& q11).toNat*q8 ^ (q6*q17).toNat % q10=r0.n/\q17+q7=r1/\q0=r2))/\(q5<=(↑x_1.toNat:Int)->I64 (q17+q7)/\∃ (s':Nat × Nat),(b=b/\s.snd ||| (x &&& q11).toNat*q8 ^ (q6*q17).toNat % q10=s'.snd/\q14/\q1=q1/\q17+q7=(↑s'.fst:Int))/\(s'.fst<=q9/\s'.snd<q8 ^ ((7:Nat)*s'.fst)/\s'.snd<q10/\aw b=bM s'.fst s'.snd (List.drop s'.fst b)/\s'.fst<=b.length)/\q9 - s'.fst<q9 - q20))) (↑q20:Int)) ((¬q15->q13)/\(q15->s.snd=r0.n/\q12))) (↑(UInt8.toNat (b.getD q20 (dflt Sh.u8))):Int)) s.fst) (q0=r1/\q0=r2)) (q2/\q0=r1/\q1=r2)) (q0=q0)) (q1=q0)) (0:Int)) (3:Int)) ((0:Nat)=r0.n)) (↑b.length:Int)) (↑(UInt8.ofNat (0:Nat)).toNat:Int)) (↑(UInt8.ofNat (128:Nat)).toNat:Int)) (7:Int)) (1:Int)) (2:Nat)) (10:Nat)) (18446744073709551616:Nat)) (UInt8.ofNat (127:Nat))):=by kernel_rfl
theorem Lt (b:List UInt8):Sat Tryz.prog (al tyT) 126 [.c (.fz .u8 (b))] [] ⟨[],[.c (.u64 ((U64.mk (aw b).1)).n),.c (.int ((((aw b).2.1:Nat)))),.c (.int (((aw b).2.2)))],none,false⟩:=by
 refine aJ de (Gg b) Tryz.func126 (by decide) (by kernel_rfl) ?_
 rw [LA]
 (repeat' (first | with_reducible apply bu | with_reducible refine bw ?_ | intro))
 all_goals try (first | exact bT | decide)
 all_goals (refine ⟨(0,0),⟨rfl,rfl,?_,?_,?_⟩,⟨by omega,by decide,by decide,rfl,by omega⟩,?_⟩)
 all_goals try (first | trivial | rfl)
 (repeat' (first | with_reducible apply bu | with_reducible refine bw ?_ | intro))
 all_goals try (first | exact bT | (rw [tvA ae ae ae] <;> rfl) | (rw [tvD ae ae] <;> rfl) | (rw [tvB ae ae ae ae ae ae] <;> rfl) | (rw [tvC ae ae ae ae ae ae] <;> rfl) | exact (congrArg Prod.fst (ZD ae ae ae ae ae ae ae ae)).symm | exact (congrArg (fun t=>((t.2.1:Nat):Int)) (ZD ae ae ae ae ae ae ae ae)).symm | exact (congrArg (fun t=>t.2.2) (ZD ae ae ae ae ae ae ae ae)).symm)
 all_goals (refine ⟨(‹Nat × Nat›.1+1,_),⟨rfl,rfl,?_⟩,?_⟩; (repeat' (first | with_reducible apply bu | with_reducible refine bw ?_ | intro)))
 all_goals (first | exact bT | exact (tvF ae ae ae ae ae ae ae ae ae).1 | exact (tvF ae ae ae ae ae ae ae ae ae).2.1 | exact (tvF ae ae ae ae ae ae ae ae ae).2.2)
theorem HX (x:Field) (y:Field) (r0:Bool):ck tyT fP [] Tryz.f92 [.agg (cellsOf (.nm .field) x),.agg (cellsOf (.nm .field) y)] [] [.c (.bool (.atom (r0)))]=(I64 x.num->I64 x.wire->x.n.n<(18446744073709551616:Nat)->x.b.length*(1:Nat)<=(140737488355328:Nat)->I64 y.num->I64 y.wire->y.n.n<(18446744073709551616:Nat)->y.b.length*(1:Nat)<=(140737488355328:Nat)->(y.num=x.num->(decide (y.wire=(2:Int)) && decide (x.wire=(2:Int)))=r0)/\(¬y.num=x.num->decide (x.num<y.num)=r0)):=by kernel_rfl
theorem FF (x:Field) (y:Field):Sat Tryz.prog (al tyT) 92 [.agg (cellsOf (.nm .field) x),.agg (cellsOf (.nm .field) y)] [] ⟨[],[.c (.bool (.atom ((cS x y))))],none,false⟩:=by
 refine aJ de [] Tryz.func92 (by decide) (by kernel_rfl) ?_
 rw [HX]
 grind [cS]
theorem DA (x:Field) (r0:Bool):ck tyT fP [] Tryz.f118 [.agg (cellsOf (.nm .field) x)] [] [.c (.bool (.atom (r0)))]=(I64 x.num->I64 x.wire->x.n.n<(18446744073709551616:Nat)->x.b.length*(1:Nat)<=(140737488355328:Nat)->(x.num<(1:Int)\/(1000:Int)<x.num->false=r0)/\((1:Int)<=x.num/\x.num<=(1000:Int)->(x.wire=(0:Int)->decide ((↑x.b.length:Int)=(0:Int))=r0)/\(¬x.wire=(0:Int)->(x.wire=(2:Int)->decide ((↑x.n.n:Int)=(↑(0:Nat):Int))=r0)/\(¬x.wire=(2:Int)->false=r0)))):=by kernel_rfl
theorem Er (x:Field):Sat Tryz.prog (al tyT) 118 [.agg (cellsOf (.nm .field) x)] [] ⟨[],[.c (.bool (.atom ((cW x))))],none,false⟩:=by
 refine aJ de [] Tryz.func118 (by decide) (by kernel_rfl) ?_
 rw [DA]
 grind [cW,u_,lQ]
theorem IX (x:List UInt8) (y:List UInt8) (r0:Bool):ck tyT fP [] Tryz.f55 [.c (.fz .u8 (x)),.c (.fz .u8 (y))] [] [.c (.bool (.atom (r0)))]=(x.length*(1:Nat)<=(140737488355328:Nat)->y.length*(1:Nat)<=(140737488355328:Nat)->decide (Str.mk x=Str.mk y)=r0):=by kernel_rfl
theorem Hu (x:List UInt8) (y:List UInt8):Sat Tryz.prog (al tyT) 55 [.c (.fz .u8 (x)),.c (.fz .u8 (y))] [] ⟨[],[.c (.bool (.atom ((decide (x=y)))))],none,false⟩:=by
 refine aJ de [] Tryz.func55 (by decide) (by kernel_rfl) ?_
 rw [IX]
 grind
theorem HL (x:List UInt8) (r0:List UInt8):ck tyT fP [] Tryz.f96 [.c (.fz .u8 (x))] [] [.c (.fz .u8 (r0))]=((fun (q0:Prop)=>q0->∀ (b:Bool),(b=true->x=[])->(b=true->r0=[])/\(b=false->q0/\x=r0)) (x.length*(1:Nat)<=(140737488355328:Nat))):=by kernel_rfl
theorem HZ (x:List UInt8):Sat Tryz.prog (al tyT) 96 [.c (.fz .u8 (x))] [] ⟨[],[.c (.fz .u8 ((x)))],none,false⟩:=by
 refine aJ de [] Tryz.func96 (by decide) (by kernel_rfl) ?_
 rw [HL]
 grind
theorem VQ (k:Int) (l:Int) (r0:Spec):ck tyT fP [] Tryz.f162 [.c (.int (k)),.c (.int (l))] [] [.agg (cellsOf (.nm .spec) r0)]=(I64 k->I64 l->k=r0.num/\(0:Int)=r0.wire/\l=r0.since/\false=r0.need/\false=r0.many):=by kernel_rfl
theorem Tt (k:Int) (l:Int):Sat Tryz.prog (al tyT) 162 [.c (.int (k)),.c (.int (l))] [] ⟨[],[.agg (cellsOf (.nm .spec) (⟨k,0,l,false,false⟩))],none,false⟩:=by
 refine aJ de [] Tryz.func162 (by decide) (by kernel_rfl) ?_
 rw [VQ]
 grind
theorem Vi (k:Int) (l:Int) (r0:Spec):ck tyT fP [] Tryz.f163 [.c (.int (k)),.c (.int (l))] [] [.agg (cellsOf (.nm .spec) r0)]=(I64 k->I64 l->k=r0.num/\(2:Int)=r0.wire/\l=r0.since/\false=r0.need/\false=r0.many):=by kernel_rfl
theorem VP (k:Int) (l:Int):Sat Tryz.prog (al tyT) 163 [.c (.int (k)),.c (.int (l))] [] ⟨[],[.agg (cellsOf (.nm .spec) (⟨k,2,l,false,false⟩))],none,false⟩:=by
 refine aJ de [] Tryz.func163 (by decide) (by kernel_rfl) ?_
 rw [Vi]
 grind
theorem Xa (x:Spec) (r0:Spec):ck tyT fP [] Tryz.f164 [.agg (cellsOf (.nm .spec) x)] [] [.agg (cellsOf (.nm .spec) r0)]=(I64 x.num->I64 x.wire->I64 x.since->x.num=r0.num/\x.wire=r0.wire/\x.since=r0.since/\true=r0.need/\x.many=r0.many):=by kernel_rfl
theorem T_ (x:Spec):Sat Tryz.prog (al tyT) 164 [.agg (cellsOf (.nm .spec) x)] [] ⟨[],[.agg (cellsOf (.nm .spec) ({ x with need:=true }))],none,false⟩:=by
 refine aJ de [] Tryz.func164 (by decide) (by kernel_rfl) ?_
 rw [Xa]
 grind
theorem UB (x:Spec) (r0:Spec):ck tyT fP [] Tryz.f165 [.agg (cellsOf (.nm .spec) x)] [] [.agg (cellsOf (.nm .spec) r0)]=(I64 x.num->I64 x.wire->I64 x.since->x.num=r0.num/\x.wire=r0.wire/\x.since=r0.since/\x.need=r0.need/\true=r0.many):=by kernel_rfl
theorem WN (x:Spec):Sat Tryz.prog (al tyT) 165 [.agg (cellsOf (.nm .spec) x)] [] ⟨[],[.agg (cellsOf (.nm .spec) ({ x with many:=true }))],none,false⟩:=by
 refine aJ de [] Tryz.func165 (by decide) (by kernel_rfl) ?_
 rw [UB]
 grind
theorem QR (x:Field) (s:Spec) (n:Int) (r0:Bool):ck tyT fP [] Tryz.f95 [.agg (cellsOf (.nm .field) x),.agg (cellsOf (.nm .spec) s),.c (.int (n))] [] [.c (.bool (.atom (r0)))]=(I64 x.num->I64 x.wire->x.n.n<(18446744073709551616:Nat)->x.b.length*(1:Nat)<=(140737488355328:Nat)->I64 s.num->I64 s.wire->I64 s.since->I64 n->(¬x.wire=s.wire\/(1:Int)<n/\s.many=false->false=r0)/\(x.wire=s.wire/\(n<=(1:Int)\/s.many=true)->(x.wire=(0:Int)->(!decide ((↑x.n.n:Int)=(↑(0:Nat):Int)))=r0)/\(¬x.wire=(0:Int)->decide ((0:Int)<(↑x.b.length:Int))=r0))):=by kernel_rfl
theorem Qu (x:Field) (s:Spec) (n:Int):Sat Tryz.prog (al tyT) 95 [.agg (cellsOf (.nm .field) x),.agg (cellsOf (.nm .spec) s),.c (.int (n))] [] ⟨[],[.c (.bool (.atom ((CV x s n))))],none,false⟩:=by
 refine aJ de [] Tryz.func95 (by decide) (by kernel_rfl) ?_
 rw [QR]
 grind [CV]
theorem OT (num:Int) (wire:Int) (r0:Int) (r1:List UInt8):gV tyT fP [] Tryz.f119 [.c (.int (num)),.c (.int (wire))] [] [.c (.own 0),.c (.int (r0))] [.row 5 .u8 (r1)]=((fun (q0:Int)=>I64 num->I64 wire->((num<(1:Int)\/(1000:Int)<num)\/¬wire=(0:Int)/\¬wire=(2:Int)->(1:Int)=r0/\r1=[])/\(((1:Int)<=num/\num<=(1000:Int))/\(wire=(0:Int)\/wire=(2:Int))->I64 ((8:Int)*num)/\I64 q0/\(0:Int)<=q0/\(0:Int)=r0/\bS q0.toNat=r1)) ((8:Int)*num+wire)):=by kernel_rfl
theorem QY (num:Int) (wire:Int):Sat Tryz.prog (al tyT) 119 [.c (.int (num)),.c (.int (wire))] [] ⟨[],[.c (.own 0),.c (.int ((iH num wire)))],some ([.row 5 .u8 ((jR num wire))]),true⟩:=by
 refine cA de [] Tryz.func119 (by decide) (by kernel_rfl) ?_
 rw [OT]
 (repeat' (first | with_reducible apply bu | with_reducible refine bw ?_ | intro))
 all_goals (first | exact bT | exact (kM aG) | exact (jm aG) | exact (nO aG).symm | exact (nO aG) | exact (wB aG))
theorem xS (c:Command) (v:Int) (r0:Bool):ck tyT fP (qE c v) Tryz.f41 [.agg (cellsOf (.nm .command) c),.c (.int (v))] [] [.c (.bool (.atom (r0)))]=((fun (q7:List Int)=>(fun (q6:Nat)=>(fun (q5:Int)=>(fun (q4:Int)=>(fun (q3:Int)=>(fun (q2:List Int)=>(fun (q1:Prop)=>(fun (q0:List (den Sh.int))=>I64 q5->I64 q4->I64 c.seq->I64 c.set->I64 c.id->I64 c.n->q7.length*(8:Nat)<=(140737488355328:Nat)->c.text.b.length<=(140737488355328:Nat)->I64 v->I64 (a_ q5)->((q5<(1:Int)\/(99:Int)<q5)\/¬a_ q5=q3/\a_ q5<=v->false=r0)/\(((1:Int)<=q5/\q5<=(99:Int))/\(a_ q5=q3\/v<a_ q5)->∃ (s0:Nat),(v=v/\q4=q4/\c.seq=c.seq/\c.set=c.set/\c.id=c.id/\c.n=c.n/\q3=(↑s0:Int)/\q1)/\(s0<=q6/\((List.take s0 q2).all fun (n:Int)=>bb n q3 (1048576:Int))=true)/\∀ (s:Nat),(fun (q8:den Sh.int)=>s<=q6/\((List.take s q2).all fun (n:Int)=>bb n q3 (1048576:Int))=true->((↑s:Int)<(5:Int)->q3<=(↑s:Int)/\(↑s:Int)<(↑q6:Int)/\(I64 q8->(q8<q3\/(1048576:Int)<q8->false=r0)/\(q3<=q8/\q8<=(1048576:Int)->I64 ((↑s:Int)+(1:Int))/\∃ (s':Nat),(v=v/\q4=q4/\c.seq=c.seq/\c.set=c.set/\c.id=c.id/\c.n=c.n/\(↑s:Int)+(1:Int)=(↑s':Int)/\q1)/\(s' <= q6/\((List.take s' q2).all fun (n:Int)=>bb n q3 (1048576:Int))=true)/\q6 - s' < q6 - s)))/\((5:Int)<=(↑s:Int)->(q3<(↑q7.length:Int)/\rowF q7=false->false=r0)/\((↑q7.length:Int)<=q3\/rowF q7=true->(v<(3:Int)->decide (c.text=Str.mk [])=r0)/\((3:Int)<=v->decide ((↑c.text.b.length:Int)<=(16:Int))=r0)))) (q0.getD s (dflt Sh.int)))) [q4,c.seq,c.set,c.id,c.n]) (q5=q5/\q4=q4/\c.seq=c.seq/\c.set=c.set/\c.id=c.id/\c.n=c.n/\q7=q7/\c.text=c.text)) [q4,c.seq,c.set,c.id,c.n]) (0:Int)) c.client) c.kind) (5:Nat)) c.chunks):=by kernel_rfl
theorem xL (c:Command) (v:Int):Sat Tryz.prog (al tyT) 41 [.agg (cellsOf (.nm .command) c),.c (.int (v))] [] ⟨[],[.c (.bool (.atom ((dG c v))))],none,false⟩:=by
 refine aJ de (qE c v) Tryz.func41 (by decide) (by kernel_rfl) ?_
 rw [xS]
 iterate 3 ((all_goals (repeat' (first | with_reducible apply bu | with_reducible refine bw ?_ | intro))); (all_goals try (first | exact bT | exact rfl | exact (HM aG) | exact (TA (Wi aG) ae) | exact (aas ae (Wi aG) ae ae) | exact (Kc (And.intro ae ae)) | exact (QE aG (VZ ae aG) (TC (by assumption)) aG) | exact (PE aG (VZ ae aG) (TC (by assumption)) aG))); all_goals try first | refine ⟨‹Nat› + 1,?_⟩ | refine ⟨0,?_⟩)
theorem M_ (a:Command) (b:Command) (r0:Bool):ck tyT fP [] Tryz.f13 [.agg (cellsOf (.nm .command) a),.agg (cellsOf (.nm .command) b)] [] [.c (.bool (.atom (r0)))]=(I64 a.kind->I64 a.client->I64 a.seq->I64 a.set->I64 a.id->I64 a.n->a.chunks.length*(8:Nat)<=(140737488355328:Nat)->a.text.b.length<=(140737488355328:Nat)->I64 b.kind->I64 b.client->I64 b.seq->I64 b.set->I64 b.id->I64 b.n->b.chunks.length*(8:Nat)<=(140737488355328:Nat)->b.text.b.length<=(140737488355328:Nat)->(decide (a.chunks=b.chunks) && decide (a.kind=b.kind) && decide (a.client=b.client) && decide (a.seq=b.seq) && decide (a.set=b.set) && decide (a.id=b.id) && decide (a.n=b.n) && decide (a.text=b.text))=r0):=by kernel_rfl
theorem Mo (a:Command) (b:Command):Sat Tryz.prog (al tyT) 13 [.agg (cellsOf (.nm .command) a),.agg (cellsOf (.nm .command) b)] [] ⟨[],[.c (.bool (.atom ((decide (a=b)))))],none,false⟩:=by
 refine aJ de [] Tryz.func13 (by decide) (by kernel_rfl) ?_
 rw [M_]
 intros; cases a; cases b; simp only [Command.mk.injEq]; grind
def CL:cO:=(bq 13 (bm (ah (kT (.nm .command)) (ah (kT (.nm .command)) aH)) aI fun (a,b,_) (_)=>⟨[],[.c (.bool (.atom ((decide (a=b)))))],none,false⟩) (bq 41 (bm (ah (kT (.nm .command)) (ah (kC cI) aH)) aI fun (c,v,_) (_)=>⟨[],[.c (.bool (.atom ((dG c v))))],none,false⟩) (bq 119 (bm (ah (kC cI) (ah (kC cI) aH)) aI fun (num,wire,_) (_)=>⟨[],[.c (.own 0),.c (.int ((iH num wire)))],some ([.row 5 .u8 ((jR num wire))]),true⟩) (bq 95 (bm (ah (kT (.nm .field)) (ah (kT (.nm .spec)) (ah (kC cI) aH))) aI fun (x,s,n,_) (_)=>⟨[],[.c (.bool (.atom ((CV x s n))))],none,false⟩) (bq 165 (bm (ah (kT (.nm .spec)) aH) aI fun (x,_) (_)=>⟨[],[.agg (cellsOf (.nm .spec) ({ x with many:=true }))],none,false⟩) (bq 164 (bm (ah (kT (.nm .spec)) aH) aI fun (x,_) (_)=>⟨[],[.agg (cellsOf (.nm .spec) ({ x with need:=true }))],none,false⟩) (bq 163 (bm (ah (kC cI) (ah (kC cI) aH)) aI fun (k,l,_) (_)=>⟨[],[.agg (cellsOf (.nm .spec) (⟨k,2,l,false,false⟩))],none,false⟩) (bq 162 (bm (ah (kC cI) (ah (kC cI) aH)) aI fun (k,l,_) (_)=>⟨[],[.agg (cellsOf (.nm .spec) (⟨k,0,l,false,false⟩))],none,false⟩) (bq 96 (bm (ah (kC (cL .u8)) aH) aI fun (x,_) (_)=>⟨[],[.c (.fz .u8 ((x)))],none,false⟩) (bq 55 (bm (ah (kC (cL .u8)) (ah (kC (cL .u8)) aH)) aI fun (x,y,_) (_)=>⟨[],[.c (.bool (.atom ((decide (x=y)))))],none,false⟩) (bq 118 (bm (ah (kT (.nm .field)) aH) aI fun (x,_) (_)=>⟨[],[.c (.bool (.atom ((cW x))))],none,false⟩) (bq 92 (bm (ah (kT (.nm .field)) (ah (kT (.nm .field)) aH)) aI fun (x,y,_) (_)=>⟨[],[.c (.bool (.atom ((cS x y))))],none,false⟩) (bq 126 (bm (ah (kC (cL .u8)) aH) aI fun (b,_) (_)=>⟨[],[.c (.u64 ((U64.mk (aw b).1)).n),.c (.int ((((aw b).2.1:Nat)))),.c (.int (((aw b).2.2)))],none,false⟩) fP)))))))))))))
theorem lq:aW Tryz.prog (al tyT) CL:=(au (av (ab aZ (ab aZ ai)) aj fun (a,b,_) (_) _=>Mo a b ) (au (av (ab aZ (ab (aq ay) ai)) aj fun (c,v,_) (_) _=>xL c v ) (au (av (ab (aq ay) (ab (aq ay) ai)) aj fun (num,wire,_) (_) _=>QY num wire ) (au (av (ab aZ (ab aZ (ab (aq ay) ai))) aj fun (x,s,n,_) (_) _=>Qu x s n ) (au (av (ab aZ ai) aj fun (x,_) (_) _=>WN x ) (au (av (ab aZ ai) aj fun (x,_) (_) _=>T_ x ) (au (av (ab (aq ay) (ab (aq ay) ai)) aj fun (k,l,_) (_) _=>VP k l ) (au (av (ab (aq ay) (ab (aq ay) ai)) aj fun (k,l,_) (_) _=>Tt k l ) (au (av (ab (aq aY) ai) aj fun (x,_) (_) _=>HZ x ) (au (av (ab (aq aY) (ab (aq aY) ai)) aj fun (x,y,_) (_) _=>Hu x y ) (au (av (ab aZ ai) aj fun (x,_) (_) _=>Er x ) (au (av (ab aZ (ab aZ ai)) aj fun (x,y,_) (_) _=>FF x y ) (au (av (ab (aq aY) ai) aj fun (b,_) (_) _=>Lt b ) de)))))))))))))
theorem eL {m:Nat} (h:m<9223372036854775808):dv m=(m:Int):=by rw [dv,if_pos h]
theorem yY {b:List UInt8} {k:Nat}:(b.drop k).take (b.length - k)=b.drop k:=List.take_of_length_le (by rw [List.length_drop]; exact Nat.le_refl _)
theorem uk1 {b:List UInt8} {k:Nat} (hk:(k:Int)<(b.length:Int)) (he:(aw (b.drop k)).2.2=0) (hn:(((aw (b.drop k)).1:Nat):Int)<=((64:Nat):Int)):∃ x,b[k]? = some x/\aw (b.drop k)=(x.toNat,1,0)/\x.toNat<=64:=by
 have h:=tk1 (b:=b) (k:=k) (by omega) (by rw [yY]; exact he) (by rw [yY]; omega)
 rw [yY] at h; exact h
theorem Zs {b:List UInt8} {k:Nat} (hk:(k:Int)<(b.length:Int)) (he:(aw (b.drop k)).2.2=0) (hn:(((aw (b.drop k)).1:Nat):Int)<=((64:Nat):Int)):(k:Int)+((aw (b.drop k)).2.1:Nat)=((k+1:Nat):Int)/\bC (b.take k)++[dv (aw (b.drop k)).1]=bC (b.take (k+1)):=by
 obtain ⟨x,hx,hp,h64⟩:=uk1 hk he hn
 have h:=zf hx hp
 rw [hp] at h ⊢
 exact ⟨rfl,by rw [<- h,eL (by show x.toNat<_; omega)]⟩
theorem ZY {b:List UInt8} {k:Nat} (hk:(k:Int)<(b.length:Int)) (h:(¬ (aw (b.drop k)).2.2=0)\/((64:Nat):Int)<(((aw (b.drop k)).1:Nat):Int)):rowF (bC b)=false:=OS (k:=k) (by omega) (by rw [yY]; exact h)
theorem DX {b:List UInt8} {k:Nat} (h:k<=b.length) (hb:b.length<=100000):((bC (b.take k)).length+1)*8<=140737488355328:=by
 unfold bC; rw [List.length_map,List.length_take]; omega
def NK (b:List UInt8):List (Nat × LI):=[(3,{ σ:=Nat,F:=fun k=>([(0,one (.fz .u8 (b))),(4,one (.own 0)),(5,one (.int k))],[.row 3 .int ((bC (b.take k)))]),J:=fun k=>k<=b.length,μ:=fun k=>b.length - k })]
theorem PF (b:List UInt8) (r0:Int) (r1:Int) (r2:Int) (r3:Int):ck tyT CL [] Tryz.f124 [.c (.fz .u8 (b))] [] [.c (.int (r0)),.c (.int (r1)),.c (.int (r2)),.c (.int (r3))]=((fun (q5:Int)=>(fun (q4:Int)=>(fun (q3:Int)=>(fun (q2:Prop)=>(fun (q1:Nat)=>(fun (q0:Int)=>b.length*(1:Nat)<=(140737488355328:Nat)->(aw b).fst<(18446744073709551616:Nat)->I64 (↑(aw b).snd.fst:Int)->I64 q4->(¬q4=q3->q3=r0/\q3=r1/\q3=r2/\q4=r3)/\(q4=q3->q2/\(q5<=q0->q2)/\(q5<=q0/\q0<=(↑(1000:Nat):Int)->q2/\(¬(↑q1:Int)=(↑(0:Nat):Int)->q2))/\((q0<q5\/(↑(1000:Nat):Int)<q0)\/¬(↑q1:Int)=(↑(0:Nat):Int)/\¬(↑q1:Int)=(↑(2:Nat):Int)->q3=r0/\q3=r1/\q3=r2/\(6:Int)=r3)/\((q5<=q0/\q0<=(↑(1000:Nat):Int))/\((↑q1:Int)=(↑(0:Nat):Int)\/(↑q1:Int)=(↑(2:Nat):Int))->q2/\q2/\dv ((aw b).fst / (8:Nat))=r0/\dv q1=r1/\(↑(aw b).snd.fst:Int)=r2/\q3=r3))) (↑((aw b).fst / (8:Nat)):Int)) ((aw b).fst % (8:Nat))) ((0:Nat)<(8:Nat))) (0:Int)) (aw b).snd.snd) (↑(1:Nat):Int)):=by kernel_rfl
theorem SC (b:List UInt8):Sat Tryz.prog (al tyT) 124 [.c (.fz .u8 (b))] [] ⟨[],[.c (.int (((aB b).num))),.c (.int (((aB b).wire))),.c (.int ((((aB b).k:Nat)))),.c (.int (((aB b).e)))],none,false⟩:=by
 refine aJ lq [] Tryz.func124 (by decide) (by kernel_rfl) ?_
 rw [PF]
 (repeat' (first | with_reducible apply bu | with_reducible refine bw ?_ | intro))
 all_goals (first | exact bT | (rw [rV ae] <;> rfl) | (rw [sI ae aG] <;> rfl) | (rw [yo ae aG] <;> first | rfl | exact eL aG) | (have:=(jP (l:=b) (k:=0) (n:=0) aG).1; change (aw b).2.1<=11 at this; omega))
theorem Qe (f:Field) (r0:List UInt8):gV tyT CL [] Tryz.f83 [.agg (cellsOf (.nm .field) f)] [] [.c (.own 0)] [.row 5 .u8 (r0)]=((fun (q1:Nat)=>(fun (q0:List UInt8)=>I64 f.num->I64 f.wire->f.n.n<(18446744073709551616:Nat)->q1*(1:Nat)<=(140737488355328:Nat)->I64 (iH f.num f.wire)->(f.wire=(0:Int)->(q0.length+(bS f.n.n).length)*(1:Nat)<=(140737488355328:Nat)/\q0++bS f.n.n=r0)/\(¬f.wire=(0:Int)->(0:Int)<=(↑q1:Int)/\(q0.length+(bS q1).length)*(1:Nat)<=(140737488355328:Nat)/\((q0++bS q1).length+q1)*(1:Nat)<=(140737488355328:Nat)/\q0++bS q1++f.b=r0)) (jR f.num f.wire)) f.b.length):=by kernel_rfl
theorem Qq (f:Field) (h0:f.b.length<=16384):Sat Tryz.prog (al tyT) 83 [.agg (cellsOf (.nm .field) f)] [] ⟨[f.b.length<=16384],[.c (.own 0)],some ([.row 5 .u8 ((bR f))]),true⟩:=by
 refine cA lq [] Tryz.func83 (by decide) (by kernel_rfl) ?_
 rw [Qe]
 (repeat' (first | with_reducible apply bu | with_reducible refine bw ?_ | intro))
 all_goals (first | exact bT | exact (zi ae) | exact (yE ae) | (have:=jd f.num f.wire; have:=df (n:=f.n.n) ae; omega) | (have:=jd f.num f.wire; have:=df (n:=f.b.length) aG; (try simp only [List.length_append]); omega))
theorem QZ (q:Int) (r0:List Spec):ck tyT CL [] Tryz.f117 [.c (.int (q))] [] [.c (.fz (.nm .spec) (r0))]=((fun (q7:Int)=>(fun (q6:Int)=>(fun (q5:Int)=>(fun (q4:Int)=>(fun (q3:Int)=>(fun (q2:Int)=>(fun (q1:Int)=>(fun (q0:Int)=>I64 q->I64 q0->I64 q1->I64 q0->I64 q0->I64 q1->I64 q0->I64 q2->I64 q1->I64 q0->I64 q3->I64 q1->I64 q0->I64 q4->I64 q1->I64 q0->I64 q5->I64 q1->I64 q0->I64 q6->I64 q1->I64 q0->I64 q7->I64 q2->I64 q0->I64 (8:Int)->I64 q2->I64 q3->I64 q0->I64 q1->I64 q0->I64 q0->I64 q1->I64 q0->I64 q2->I64 q1->I64 q0->I64 q2->I64 q1->I64 q0->I64 q3->I64 q2->I64 q0->I64 q3->I64 q2->I64 q0->I64 q4->I64 q1->I64 q2->I64 q5->I64 q2->I64 q3->I64 q0->I64 q1->I64 q0->I64 q0->I64 q1->I64 q0->I64 q2->I64 q1->I64 q0->I64 q2->I64 q1->I64 q0->I64 q0->I64 q1->I64 q0->I64 q0->I64 q1->I64 q0->I64 q2->I64 q1->I64 q0->I64 q3->I64 q1->I64 q0->I64 q4->I64 q1->I64 q0->I64 q0->I64 q1->I64 q0->I64 q0->I64 q1->I64 q0->I64 q2->I64 q1->I64 q0->I64 q2->I64 q1->I64 q0->I64 q3->I64 q1->I64 q0->I64 q4->I64 q2->I64 q0->I64 q4->I64 q2->I64 q0->I64 q5->I64 q2->I64 q0->I64 q5->I64 q2->I64 q0->I64 q6->I64 q2->I64 q0->I64 q6->I64 q2->I64 q0->I64 q7->I64 q1->I64 q3->I64 q0->I64 q1->I64 q0->I64 q0->I64 q1->I64 q0->I64 q2->I64 q1->I64 q0->I64 q2->I64 q1->I64 q0->I64 q3->I64 q1->I64 q0->I64 q3->I64 q1->I64 q0->I64 q4->I64 q1->I64 q0->I64 q4->I64 q1->I64 q0->I64 q5->I64 q1->I64 q0->I64 q6->I64 q1->I64 q0->I64 q7->I64 q1->I64 q0->I64 (8:Int)->I64 q1->I64 q0->I64 (9:Int)->I64 q1->I64 q0->I64 (10:Int)->I64 q2->I64 q0->I64 (10:Int)->I64 q2->I64 q0->I64 q0->I64 q1->I64 q0->I64 q0->I64 q1->I64 q0->I64 q2->I64 q2->I64 q0->((fun (j:Int)=>if j=q7 then some [Spec.mk q0 q1 q0 true false,Spec.mk q2 q2 q0 false false] else (fun (j:Int)=>if j=q6 then some [Spec.mk q0 q1 q0 true false,Spec.mk q2 q1 q0 true false,Spec.mk q3 q1 q0 true false,Spec.mk q4 q1 q0 true false,Spec.mk q5 q1 q0 false false,Spec.mk q6 q1 q0 false false,Spec.mk q7 q1 q0 false false,Spec.mk (8:Int) q1 q0 false false,Spec.mk (9:Int) q1 q0 false false,Spec.mk (10:Int) q2 q0 false true] else (fun (j:Int)=>if j=q5 then some [Spec.mk q0 q1 q0 true false,Spec.mk q2 q1 q0 true false,Spec.mk q3 q1 q0 false false,Spec.mk q4 q2 q0 false true,Spec.mk q5 q2 q0 false true,Spec.mk q6 q2 q0 false true,Spec.mk q7 q1 q3 false false] else (fun (j:Int)=>if j=q4 then some [Spec.mk q0 q1 q0 true false,Spec.mk q2 q1 q0 false false,Spec.mk q3 q1 q0 false false,Spec.mk q4 q1 q0 false false] else (fun (j:Int)=>if j=q3 then some [Spec.mk q0 q1 q0 true false,Spec.mk q2 q1 q0 true false] else (fun (j:Int)=>if j=q2 then some [Spec.mk q0 q1 q0 true false,Spec.mk q2 q1 q0 true false,Spec.mk q3 q2 q0 true false,Spec.mk q4 q1 q2 false false,Spec.mk q5 q2 q3 false false] else (fun (j:Int)=>if j=q0 then some [Spec.mk q0 q1 q0 true false,Spec.mk q2 q1 q0 false false,Spec.mk q3 q1 q0 false false,Spec.mk q4 q1 q0 false false,Spec.mk q5 q1 q0 false false,Spec.mk q6 q1 q0 false false,Spec.mk q7 q2 q0 false false,Spec.mk (8:Int) q2 q3 false false] else (fun (_:Int)=>none) j) j) j) j) j) j) j) q).getD (dflt (Sh.nm NT.spec).lst)=r0) (1:Int)) (0:Int)) (2:Int)) (3:Int)) (4:Int)) (5:Int)) (6:Int)) (7:Int)):=by kernel_rfl
theorem SQ (q:Int) (h0:q=1):Sat Tryz.prog (al tyT) 117 [.c (.int (q))] [] ⟨[q=1],[.c (.fz (.nm .spec) ((bd)))],none,false⟩:=by
 refine aJ lq [] Tryz.func117 (by decide) (by kernel_rfl) ?_
 rw [QZ]
 subst h0; (repeat' (first | with_reducible apply bu | with_reducible refine bw ?_ | intro))
 all_goals (first | exact bT | exact rfl)
theorem Pw (b:List UInt8) (r0:List Int) (r1:Int):ck tyT CL (NK b) Tryz.f97 [.c (.fz .u8 (b))] [] [.c (.fz .int (r0)),.c (.int (r1))]=(b.length*(1:Nat)<=(140737488355328:Nat)->∃ (s0:Nat),(b=b/\(0:Int)=(↑s0:Int)/\bC (List.take s0 b)=[])/\s0<=b.length/\∀ (s:Nat),(fun (q1:List Int)=>(fun (q0:Nat × Nat × Int)=>s<=b.length->((↑s:Int)<(↑b.length:Int)->(0:Int)<=(↑s:Int)/\(↑s:Int)<=(↑b.length:Int)/\(q0.fst<(18446744073709551616:Nat)->I64 (↑q0.snd.fst:Int)->I64 q0.snd.snd->(¬q0.snd.snd=(0:Int)\/(↑(64:Nat):Int)<(↑q0.fst:Int)->r0=[]/\(6:Int)=r1)/\(q0.snd.snd=(0:Int)/\(↑q0.fst:Int)<=(↑(64:Nat):Int)->(q1.length+[dv q0.fst].length)*(8:Nat)<=(140737488355328:Nat)/\I64 ((↑s:Int)+(↑q0.snd.fst:Int))/\∃ (s':Nat),(b=b/\(↑s:Int)+(↑q0.snd.fst:Int)=(↑s':Int)/\q1++[dv q0.fst]=bC (List.take s' b))/\s' <= b.length/\b.length - s' < b.length - s)))/\((↑b.length:Int)<=(↑s:Int)->(rowF q1=false->r0=[]/\(6:Int)=r1)/\(rowF q1=true->q1=r0/\(0:Int)=r1))) (aw (List.drop s b))) (bC (List.take s b))):=by kernel_rfl
theorem RH (b:List UInt8) (h0:b.length<=100000):Sat Tryz.prog (al tyT) 97 [.c (.fz .u8 (b))] [] ⟨[b.length<=100000],[.c (.fz .int ((eb b))),.c (.int ((gB b)))],none,false⟩:=by
 refine aJ lq (NK b) Tryz.func97 (by decide) (by kernel_rfl) ?_
 rw [Pw]
 iterate 3 ((all_goals (repeat' (first | with_reducible apply bu | with_reducible refine bw ?_ | intro))); (all_goals try (first | exact bT | exact rfl | exact (mb (ZY ae (by assumption))) | exact (xu (ZY ae (by assumption))) | exact (mb (ZY ae (by assumption))).symm | exact (mb (xO (k:=‹Nat›) aG ae)).symm | exact (mb (xO (k:=‹Nat›) aG ae)) | exact (xu (xO (k:=‹Nat›) aG ae)) | exact (zW aG ae) | exact (AK (k:=‹Nat›) aG ae) | exact (Zs ae ae ae).1 | exact (Zs ae ae ae).2 | exact (DX aG aG) | (have:=(Zs ae ae ae).1; refine dY ?_ ?_ <;> omega))); all_goals try first | refine ⟨‹Nat› + 1,?_⟩ | refine ⟨0,?_⟩)
def uX:cO:=(bq 97 (bm (ah (kC (cL .u8)) aH) aI fun (b,_) (_)=>⟨[b.length<=100000],[.c (.fz .int ((eb b))),.c (.int ((gB b)))],none,false⟩) (bq 117 (bm (ah (kC cI) aH) aI fun (q,_) (_)=>⟨[q=1],[.c (.fz (.nm .spec) ((bd)))],none,false⟩) (bq 83 (bm (ah (kT (.nm .field)) aH) aI fun (f,_) (_)=>⟨[f.b.length<=16384],[.c (.own 0)],some ([.row 5 .u8 ((bR f))]),true⟩) (bq 124 (bm (ah (kC (cL .u8)) aH) aI fun (b,_) (_)=>⟨[],[.c (.int (((aB b).num))),.c (.int (((aB b).wire))),.c (.int ((((aB b).k:Nat)))),.c (.int (((aB b).e)))],none,false⟩) CL))))
theorem iA:aW Tryz.prog (al tyT) uX:=(au (av (ab (aq aY) ai) aj fun (b,_) (_) hp=>RH b (cY hp)) (au (av (ab (aq ay) ai) aj fun (q,_) (_) hp=>SQ q (cY hp)) (au (av (ab aZ ai) aj fun (f,_) (_) hp=>Qq f (cY hp)) (au (av (ab (aq aY) ai) aj fun (b,_) (_) _=>SC b ) lq))))
end Go.Proofs.YtladifkbefehdaaGreat
