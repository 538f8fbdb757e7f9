/- What leads to the law, part 5. Conditions: each lemma's own. -/
import Derived.Test.YtladifkbefehdaaGreatKMBM4
set_option linter.unusedVariables false
set_option linter.unusedSimpArgs false
namespace Go.Proofs.YtladifkbefehdaaGreat
open Go.RowKit
theorem tq (l:List Snap) (r0:Int):cF tyT xi [] Tryz.f150 [.c (.fz (.nm .snap) (l))] [] [.c (.int (r0))]=((fun (q1:den Sh.int)=>(fun (q0:List Int)=>l.length*(64:Nat)<=(140737488355328:Nat)->nch l<=(1048576:Nat)/\(I64 (q0.getD (0:Nat) q1)->I64 (q0.getD (1:Nat) q1)->I64 (q0.getD (2:Nat) q1)->I64 (q0.getD (3:Nat) q1)->I64 (q0.getD (4:Nat) q1)->I64 (q0.getD (5:Nat) q1)->I64 (q0.getD (6:Nat) q1)->I64 (q0.getD (7:Nat) q1)->I64 (q0.getD (8:Nat) q1)->I64 (q0.getD (9:Nat) q1)->I64 (q0.getD (10:Nat) q1)->I64 (q0.getD (11:Nat) q1)->I64 (q0.getD (12:Nat) q1)->I64 (q0.getD (13:Nat) q1)->I64 (q0.getD (14:Nat) q1)->I64 (q0.getD (15:Nat) q1)->I64 (q0.getD (16:Nat) q1)->I64 (q0.getD (17:Nat) q1)->I64 (q0.getD (18:Nat) q1)->I64 (q0.getD (19:Nat) q1)->I64 (q0.getD (20:Nat) q1)->I64 (q0.getD (21:Nat) q1)->I64 (q0.getD (22:Nat) q1)->I64 (q0.getD (23:Nat) q1)->I64 (q0.getD (24:Nat) q1)->I64 (q0.getD (25:Nat) q1)->I64 (q0.getD (26:Nat) q1)->I64 (q0.getD (27:Nat) q1)->I64 (q0.getD (28:Nat) q1)->I64 (q0.getD (29:Nat) q1)->I64 (q0.getD (30:Nat) q1)->I64 (q0.getD (31:Nat) q1)->I64 (q0.getD (32:Nat) q1)->I64 (q0.getD (33:Nat) q1)->I64 (q0.getD (34:Nat) q1)->I64 (q0.getD (35:Nat) q1)->I64 (q0.getD (36:Nat) q1)->I64 (q0.getD (37:Nat) q1)->I64 (q0.getD (38:Nat) q1)->I64 (q0.getD (39:Nat) q1)->I64 (q0.getD (40:Nat) q1)->I64 (q0.getD (41:Nat) q1)->I64 (q0.getD (42:Nat) q1)->I64 (q0.getD (43:Nat) q1)->I64 (q0.getD (44:Nat) q1)->I64 (q0.getD (45:Nat) q1)->I64 (q0.getD (46:Nat) q1)->I64 (q0.getD (47:Nat) q1)->I64 (q0.getD (48:Nat) q1)->I64 (q0.getD (49:Nat) q1)->I64 (q0.getD (50:Nat) q1)->I64 (q0.getD (51:Nat) q1)->I64 (q0.getD (52:Nat) q1)->I64 (q0.getD (53:Nat) q1)->I64 (q0.getD (54:Nat) q1)->I64 (q0.getD (55:Nat) q1)->I64 (q0.getD (56:Nat) q1)->I64 (q0.getD (57:Nat) q1)->I64 (q0.getD (58:Nat) q1)->I64 (q0.getD (59:Nat) q1)->I64 (q0.getD (60:Nat) q1)->I64 (q0.getD (61:Nat) q1)->I64 (q0.getD (62:Nat) q1)->I64 (q0.getD (63:Nat) q1)->I64 (q0.getD (64:Nat) q1)->(oA Sh.int q0 (0:Nat) (65:Nat)).length=(65:Nat)/\((gU (dN (oA Sh.int q0 (0:Nat) (65:Nat))) (64:Nat)).length*(8:Nat)<=(140737488355328:Nat)->(↑(gU (dN (oA Sh.int q0 (0:Nat) (65:Nat))) (64:Nat)).length:Int)=r0))) (bM l)) (dflt Sh.int)):=by kernel_rfl
theorem tz (l:List Snap) (h0:nch l<=1048576):Sat Tryz.prog (aj tyT) 150 [.c (.fz (.nm .snap) (l))] [] ⟨[nch l<=1048576],[.c (.int (((distF l:Int))))],none,false⟩:=by
 refine aM ow [] Tryz.func150 (by decide) (by kernel_rfl) ?_
 rw [tq]
 (repeat' (first | with_reducible refine And.intro ?_ ?_ | with_reducible refine and_imp.2 ?_ | intro))
 all_goals (first | (first | with_reducible rfl | with_reducible assumption | omega | (refine ah ?_ ?_ <;> omega)) | exact (mZ 65 0) | exact (by rw [fo (eJ _)]; exact xS _))
theorem IC (l:List Snap) (m:List Int) (r0:Int):cF tyT xi [] Tryz.f178 [.c (.fz (.nm .snap) (l)),.c (.fz .int (m))] [] [.c (.int (r0))]=((fun (q3:Nat)=>(fun (q2:Nat)=>(fun (q1:den Sh.int)=>(fun (q0:List Int)=>l.length*(64:Nat)<=(140737488355328:Nat)->m.length*(8:Nat)<=(140737488355328:Nat)->nch l<=(1048576:Nat)/\(I64 (q0.getD q2 q1)->I64 (q0.getD (1:Nat) q1)->I64 (q0.getD (2:Nat) q1)->I64 (q0.getD (3:Nat) q1)->I64 (q0.getD (4:Nat) q1)->I64 (q0.getD (5:Nat) q1)->I64 (q0.getD (6:Nat) q1)->I64 (q0.getD (7:Nat) q1)->I64 (q0.getD (8:Nat) q1)->I64 (q0.getD (9:Nat) q1)->I64 (q0.getD (10:Nat) q1)->I64 (q0.getD (11:Nat) q1)->I64 (q0.getD (12:Nat) q1)->I64 (q0.getD (13:Nat) q1)->I64 (q0.getD (14:Nat) q1)->I64 (q0.getD (15:Nat) q1)->I64 (q0.getD (16:Nat) q1)->I64 (q0.getD (17:Nat) q1)->I64 (q0.getD (18:Nat) q1)->I64 (q0.getD (19:Nat) q1)->I64 (q0.getD (20:Nat) q1)->I64 (q0.getD (21:Nat) q1)->I64 (q0.getD (22:Nat) q1)->I64 (q0.getD (23:Nat) q1)->I64 (q0.getD (24:Nat) q1)->I64 (q0.getD (25:Nat) q1)->I64 (q0.getD (26:Nat) q1)->I64 (q0.getD (27:Nat) q1)->I64 (q0.getD (28:Nat) q1)->I64 (q0.getD (29:Nat) q1)->I64 (q0.getD (30:Nat) q1)->I64 (q0.getD (31:Nat) q1)->I64 (q0.getD (32:Nat) q1)->I64 (q0.getD (33:Nat) q1)->I64 (q0.getD (34:Nat) q1)->I64 (q0.getD (35:Nat) q1)->I64 (q0.getD (36:Nat) q1)->I64 (q0.getD (37:Nat) q1)->I64 (q0.getD (38:Nat) q1)->I64 (q0.getD (39:Nat) q1)->I64 (q0.getD (40:Nat) q1)->I64 (q0.getD (41:Nat) q1)->I64 (q0.getD (42:Nat) q1)->I64 (q0.getD (43:Nat) q1)->I64 (q0.getD (44:Nat) q1)->I64 (q0.getD (45:Nat) q1)->I64 (q0.getD (46:Nat) q1)->I64 (q0.getD (47:Nat) q1)->I64 (q0.getD (48:Nat) q1)->I64 (q0.getD (49:Nat) q1)->I64 (q0.getD (50:Nat) q1)->I64 (q0.getD (51:Nat) q1)->I64 (q0.getD (52:Nat) q1)->I64 (q0.getD (53:Nat) q1)->I64 (q0.getD (54:Nat) q1)->I64 (q0.getD (55:Nat) q1)->I64 (q0.getD (56:Nat) q1)->I64 (q0.getD (57:Nat) q1)->I64 (q0.getD (58:Nat) q1)->I64 (q0.getD (59:Nat) q1)->I64 (q0.getD (60:Nat) q1)->I64 (q0.getD (61:Nat) q1)->I64 (q0.getD (62:Nat) q1)->I64 (q0.getD (63:Nat) q1)->I64 (q0.getD (64:Nat) q1)->(∀ (i:Nat),(fun (q4:Int)=>(0:Int)<=q4/\q4+(↑m.length:Int)<=(4611686018427387904:Int)) ((oA Sh.int q0 q2 q3).getD i (0:Int)))/\(oA Sh.int (cY (oA Sh.int q0 q2 q3) m) q2 q3).length=q3/\((gU (dN (oA Sh.int (cY (oA Sh.int q0 q2 q3) m) q2 q3)) (64:Nat)).length*(8:Nat)<=(140737488355328:Nat)->(↑(gU (dN (oA Sh.int (cY (oA Sh.int q0 q2 q3) m) q2 q3)) (64:Nat)).length:Int)=r0))) (bM l)) (dflt Sh.int)) (0:Nat)) (65:Nat)):=by kernel_rfl
theorem Ho (l:List Snap) (m:List Int) (h0:nch l<=1048576):Sat Tryz.prog (aj tyT) 178 [.c (.fz (.nm .snap) (l)),.c (.fz .int (m))] [] ⟨[nch l<=1048576],[.c (.int (((distF (l++[⟨0,0,m,false,⟨[]⟩⟩]):Int))))],none,false⟩:=by
 refine aM ow [] Tryz.func178 (by decide) (by kernel_rfl) ?_
 rw [IC]
 (repeat' (first | with_reducible refine And.intro ?_ ?_ | with_reducible refine and_imp.2 ?_ | intro))
 all_goals (first | (first | with_reducible rfl | with_reducible assumption | omega | (refine ah ?_ ?_ <;> omega)) | exact (mZ 65 0) | exact (yG (s:=.int) (by assumption) (by assumption) _).1 | exact (yG (s:=.int) (by assumption) (by assumption) _).2 | exact (by rw [fo (s:=.int) (xs:=cY _ _) (by rw [nQ,mZ]),fo (eJ l)]; have:=xS (l++[Snap.mk 0 0 m false ⟨[]⟩]); rw [iz] at this; exact this))
def kg:cj:=(br 178 (bp (ai (kC (cL (.nm .snap))) (ai (kC (cL .int)) aK)) aJ fun (l,m,_) (_)=>⟨[nch l<=1048576],[.c (.int (((distF (l++[⟨0,0,m,false,⟨[]⟩⟩]):Int))))],none,false⟩) (br 150 (bp (ai (kC (cL (.nm .snap))) aK) aJ fun (l,_) (_)=>⟨[nch l<=1048576],[.c (.int (((distF l:Int))))],none,false⟩) xi))
theorem ez:aN Tryz.prog (aj tyT) kg:=(av (au (ab (ao bb) (ab (ao bb) ak)) al fun (l,m,_) (_) hp=>Ho l m (dC hp)) (av (au (ab (ao bb) ak) al fun (l,_) (_) hp=>tz l (dC hp)) ow))
end Go.Proofs.YtladifkbefehdaaGreat
namespace Go.Proofs.YtladifkbefehdaaGreat
open Go.RowKit
def sG {α:Type} (l:List α) (i:Nat) (x:α):List α:=l.take i++x :: l.drop i
def Gt {α:Type} (l:List α) (i:Int):List α:=l.take i.toNat++l.drop (i+1).toNat
def bT (s:State) (c:Command):Int:=if 0<=ay Opn.set c.set s.opens/\¬ (s.opens.getD (ay Opn.set c.set s.opens).toNat (dflt (.nm .opn))).client=c.client then -1 else ay Opn.set c.set s.opens
def ba (s:State) (c:Command):State × Reply:=if 0<=ay Opn.set c.set s.opens then (s,⟨16,(s.opens.getD (ay Opn.set c.set s.opens).toNat (dflt (.nm .opn))).client⟩)
 else ({ s with opens:=sG s.opens (s.opens.takeWhile fun y=>decide (y.set<c.set)).length ⟨c.set,c.client⟩ },⟨0,0⟩)
def bc (s:State) (c:Command):State × Reply:=if bT s c<0 then (s,⟨15,0⟩) else ({ s with opens:=Gt s.opens (bT s c) },⟨0,0⟩)
def aX (s:State) (c:Command):State × Reply:=
 if bT s c<0 then (s,⟨15,0⟩)
 else if 16<=(s.snaps.length:Int)\/1048576<=s.next then (s,⟨20,0⟩)
 else if ¬ s.quota=0/\s.quota<(distF (s.snaps++[⟨0,0,c.chunks,false,⟨[]⟩⟩]):Int) then (s,⟨19,0⟩)
 else ({ s with next:=s.next+1,opens:=Gt s.opens (bT s c),snaps:=s.snaps++[⟨s.next,c.set,c.chunks,false,⟨[]⟩⟩] },⟨0,s.next⟩)
def aQ (s:State) (at_:Nat):State × Reply:=
 if (s.snaps.getD at_ (dflt (.nm .snap))).held=true then (s,⟨17,0⟩)
 else if kB s at_=true then (s,⟨18,0⟩)
 else ({ s with snaps:=bg (s.snaps.getD at_ (dflt (.nm .snap))).id s.snaps },⟨0,(jw s.snaps (s.snaps.getD at_ (dflt (.nm .snap))).id).length⟩)
def bk (s:State) (at_:Nat):State × Reply:=(s,⟨0,(s.snaps.getD at_ (dflt (.nm .snap))).chunks.length⟩)
def bE (b:Bool) (s:State) (at_:Nat):State × Reply:=
 if (s.snaps.getD at_ (dflt (.nm .snap))).held=b then (s,⟨0,0⟩)
 else ({ s with snaps:=s.snaps.set at_ { s.snaps.getD at_ (dflt (.nm .snap)) with held:=b } },⟨0,1⟩)
def de (c:Command) (s:State) (at_:Nat):State × Reply:=({ s with snaps:=s.snaps.set at_ { s.snaps.getD at_ (dflt (.nm .snap)) with tag:=c.text } },⟨0,0⟩)
def dO (c:Command) (s:State):State × Reply:=({ s with keep:=c.n },⟨0,0⟩)
def cQ (c:Command) (s:State):State × Reply:=({ s with quota:=c.n },⟨0,distF s.snaps⟩)
theorem cw {α:Type} {key:α->Int} {want:Int} {l:List α} (h:0<=ay key want l):ay key want l<(l.length:Int):=by
 unfold ay at *
 split
 ·rename_i i hi
  have:=(List.findIdx?_eq_some_iff_getElem.1 hi).1
  omega
 ·omega
theorem EM {s:State} {c:Command} (h:0<=bT s c):bT s c+1<=(s.opens.length:Int):=by
 unfold bT at *
 split
 ·rename_i h1; rw [if_pos h1] at h; omega
 ·rename_i h1; rw [if_neg h1] at h
  have:=cw h
  omega
theorem zg (i:Int) (m:List Opn) (l:List Opn) (h0:0<=i/\i<=(l.length:Int)) (h1:l.length<1048576) (h2:m.length=1):Sat Tryz.prog (aj tyT) 176 [.c (.own 0),.c (.int (i)),.c (.fz (.nm .opn) (m))] [.row 63 (.nm .opn) (l)] ⟨[0<=i/\i<=(l.length:Int),l.length<1048576,m.length=1],[.c (.own 0)],some ([.row 63 (.nm .opn) ((l.take i.toNat++m++l.drop i.toNat))]),false⟩:=qv i l m h0 h1 h2
theorem vS (i:Int) (l:List Sess) (m:List Sess) (h0:0<=i/\i<=(l.length:Int)) (h1:l.length<1048576) (h2:m.length=1):Sat Tryz.prog (aj tyT) 64 [.c (.own 0),.c (.int (i)),.c (.own 1)] [.row 82 (.nm .sess) (l),.row 82 (.nm .sess) (m)] ⟨[0<=i/\i<=(l.length:Int),l.length<1048576,m.length=1],[.c (.own 0)],some ([.row 82 (.nm .sess) ((l.take i.toNat++m++l.drop i.toNat)),.row 82 (.nm .sess) ((m))]),false⟩:=qI i l m h0 h1 h2
theorem zW (i:Int) (j:Int) (l:List Opn) (h0:0<=i/\i<(l.length:Int)/\j=i+1):Sat Tryz.prog (aj tyT) 179 [.c (.own 0),.c (.int (i)),.c (.int (j))] [.row 63 (.nm .opn) (l)] ⟨[0<=i/\i<(l.length:Int)/\j=i+1],[.c (.own 0)],some ([.row 63 (.nm .opn) ((l.take i.toNat++l.drop j.toNat))]),false⟩:=tL i j l h0
theorem zu (c:Command) (v:Int) (nx:Int) (kp:Int) (qt:Int) (se:List Sess) (op:List Opn) (sn:List Snap) (r0:Int):cF tyT kg [] Tryz.f177 [.c (.ptr 0 0),.agg (cellsOf (.nm .command) c)] [.box 43 ([.int (v),.int (nx),.int (kp),.int (qt),.own 1,.own 2,.own 3]),.row 82 (.nm .sess) (se),.row 63 (.nm .opn) (op),.row 73 (.nm .snap) (sn)] [.c (.int (r0))]=((fun (q0:Int)=>I64 c.kind->I64 c.client->I64 c.seq->I64 c.set->I64 c.id->I64 c.n->c.chunks.length*(8:Nat)<=(140737488355328:Nat)->c.text.b.length<=(140737488355328:Nat)->I64 q0->((0:Int)<=q0->(0:Int)<=q0/\q0<(↑op.length:Int))/\(((0:Int)<=q0->I64 (op.getD q0.toNat (dflt (Sh.nm NT.opn))).set/\I64 (op.getD q0.toNat (dflt (Sh.nm NT.opn))).client)->((0:Int)<=q0/\¬(op.getD q0.toNat (dflt (Sh.nm NT.opn))).client=c.client->(-1:Int)=r0)/\(q0<(0:Int)\/(op.getD q0.toNat (dflt (Sh.nm NT.opn))).client=c.client->q0=r0))) (ay Opn.set c.set op)):=by kernel_rfl
theorem zy (c:Command) (v:Int) (nx:Int) (kp:Int) (qt:Int) (se:List Sess) (op:List Opn) (sn:List Snap):Sat Tryz.prog (aj tyT) 177 [.c (.ptr 0 0),.agg (cellsOf (.nm .command) c)] [.box 43 ([.int (v),.int (nx),.int (kp),.int (qt),.own 1,.own 2,.own 3]),.row 82 (.nm .sess) (se),.row 63 (.nm .opn) (op),.row 73 (.nm .snap) (sn)] ⟨[],[.c (.int ((bT (State.mk v nx kp qt se op sn) c)))],none,false⟩:=by
 refine aM ez [] Tryz.func177 (by decide) (by kernel_rfl) ?_
 rw [zu]
 (repeat' (first | with_reducible refine And.intro ?_ ?_ | with_reducible refine and_imp.2 ?_ | intro))
 all_goals (first | (first | with_reducible rfl | with_reducible assumption | omega | (refine ah ?_ ?_ <;> omega)) | exact cw (by with_reducible assumption) | (unfold bT; grind))
theorem Nd (c:Command) (v:Int) (nx:Int) (kp:Int) (qt:Int) (se:List Sess) (op:List Opn) (sn:List Snap) (r0:Reply) (r1:Command) (r2:Int) (r3:Int) (r4:Int) (r5:Int) (r6:List Sess) (r7:List Opn) (r8:List Snap):mK tyT kg [] Tryz.f148 [.c (.ptr 0 0),.c (.ptr 1 0)] [.box 24 (cellsOf (.nm .command) (c)),.box 43 ([.int (v),.int (nx),.int (kp),.int (qt),.own 2,.own 3,.own 4]),.row 82 (.nm .sess) (se),.row 63 (.nm .opn) (op),.row 73 (.nm .snap) (sn)] [.agg (cellsOf (.nm .reply) r0)] [.box 24 (cellsOf (.nm .command) (r1)),.box 43 ([.int (r2),.int (r3),.int (r4),.int (r5),.own 2,.own 3,.own 4]),.row 82 (.nm .sess) (r6),.row 63 (.nm .opn) (r7),.row 73 (.nm .snap) (r8)]=((0:Int)=r0.code/\(0:Int)=r0.n/\c.kind=r1.kind/\c.client=r1.client/\c.seq=r1.seq/\c.set=r1.set/\c.id=r1.id/\c.n=r1.n/\c.chunks=r1.chunks/\c.text=r1.text/\v=r2/\nx=r3/\c.n=r4/\qt=r5/\se=r6/\op=r7/\sn=r8):=by kernel_rfl
theorem LF (c:Command) (v:Int) (nx:Int) (kp:Int) (qt:Int) (se:List Sess) (op:List Opn) (sn:List Snap):Sat Tryz.prog (aj tyT) 148 [.c (.ptr 0 0),.c (.ptr 1 0)] [.box 24 (cellsOf (.nm .command) (c)),.box 43 ([.int (v),.int (nx),.int (kp),.int (qt),.own 2,.own 3,.own 4]),.row 82 (.nm .sess) (se),.row 63 (.nm .opn) (op),.row 73 (.nm .snap) (sn)] ⟨[],[.agg (cellsOf (.nm .reply) ((dO c (State.mk v nx kp qt se op sn)).2))],some ([.box 24 (cellsOf (.nm .command) ((c))),.box 43 ([.int ((((dO c (State.mk v nx kp qt se op sn)).1).version)),.int ((((dO c (State.mk v nx kp qt se op sn)).1).next)),.int ((((dO c (State.mk v nx kp qt se op sn)).1).keep)),.int ((((dO c (State.mk v nx kp qt se op sn)).1).quota)),.own 2,.own 3,.own 4]),.row 82 (.nm .sess) ((((dO c (State.mk v nx kp qt se op sn)).1).sess)),.row 63 (.nm .opn) ((((dO c (State.mk v nx kp qt se op sn)).1).opens)),.row 73 (.nm .snap) ((((dO c (State.mk v nx kp qt se op sn)).1).snaps))]),false⟩:=by
 refine db ez [] Tryz.func148 (by decide) (by kernel_rfl) ?_
 rw [Nd]
 (repeat' (first | with_reducible refine And.intro ?_ ?_ | with_reducible refine and_imp.2 ?_ | intro))
 all_goals (first | (first | with_reducible rfl | with_reducible assumption | omega | (refine ah ?_ ?_ <;> omega)) | exact rfl)
theorem Mp (c:Command) (v:Int) (nx:Int) (kp:Int) (qt:Int) (se:List Sess) (op:List Opn) (sn:List Snap) (r0:Reply) (r1:Command) (r2:Int) (r3:Int) (r4:Int) (r5:Int) (r6:List Sess) (r7:List Opn) (r8:List Snap):mK tyT kg [] Tryz.f149 [.c (.ptr 0 0),.c (.ptr 1 0)] [.box 24 (cellsOf (.nm .command) (c)),.box 43 ([.int (v),.int (nx),.int (kp),.int (qt),.own 2,.own 3,.own 4]),.row 82 (.nm .sess) (se),.row 63 (.nm .opn) (op),.row 73 (.nm .snap) (sn)] [.agg (cellsOf (.nm .reply) r0)] [.box 24 (cellsOf (.nm .command) (r1)),.box 43 ([.int (r2),.int (r3),.int (r4),.int (r5),.own 2,.own 3,.own 4]),.row 82 (.nm .sess) (r6),.row 63 (.nm .opn) (r7),.row 73 (.nm .snap) (r8)]=(nch sn<=(1048576:Nat)/\(I64 (↑(distF sn):Int)->(0:Int)=r0.code/\(↑(distF sn):Int)=r0.n/\c.kind=r1.kind/\c.client=r1.client/\c.seq=r1.seq/\c.set=r1.set/\c.id=r1.id/\c.n=r1.n/\c.chunks=r1.chunks/\c.text=r1.text/\v=r2/\nx=r3/\kp=r4/\c.n=r5/\se=r6/\op=r7/\sn=r8)):=by kernel_rfl
theorem Kl (c:Command) (v:Int) (nx:Int) (kp:Int) (qt:Int) (se:List Sess) (op:List Opn) (sn:List Snap) (h0:nch sn<=1048576):Sat Tryz.prog (aj tyT) 149 [.c (.ptr 0 0),.c (.ptr 1 0)] [.box 24 (cellsOf (.nm .command) (c)),.box 43 ([.int (v),.int (nx),.int (kp),.int (qt),.own 2,.own 3,.own 4]),.row 82 (.nm .sess) (se),.row 63 (.nm .opn) (op),.row 73 (.nm .snap) (sn)] ⟨[nch sn<=1048576],[.agg (cellsOf (.nm .reply) ((cQ c (State.mk v nx kp qt se op sn)).2))],some ([.box 24 (cellsOf (.nm .command) ((c))),.box 43 ([.int ((((cQ c (State.mk v nx kp qt se op sn)).1).version)),.int ((((cQ c (State.mk v nx kp qt se op sn)).1).next)),.int ((((cQ c (State.mk v nx kp qt se op sn)).1).keep)),.int ((((cQ c (State.mk v nx kp qt se op sn)).1).quota)),.own 2,.own 3,.own 4]),.row 82 (.nm .sess) ((((cQ c (State.mk v nx kp qt se op sn)).1).sess)),.row 63 (.nm .opn) ((((cQ c (State.mk v nx kp qt se op sn)).1).opens)),.row 73 (.nm .snap) ((((cQ c (State.mk v nx kp qt se op sn)).1).snaps))]),false⟩:=by
 refine db ez [] Tryz.func149 (by decide) (by kernel_rfl) ?_
 rw [Mp]
 (repeat' (first | with_reducible refine And.intro ?_ ?_ | with_reducible refine and_imp.2 ?_ | intro))
 all_goals (first | (first | with_reducible rfl | with_reducible assumption | omega | (refine ah ?_ ?_ <;> omega)) | exact rfl)
theorem Ie (i:Int) (v:Int) (nx:Int) (kp:Int) (qt:Int) (se:List Sess) (op:List Opn) (sn:List Snap) (r0:Reply) (r1:Int) (r2:Int) (r3:Int) (r4:Int) (r5:List Sess) (r6:List Opn) (r7:List Snap):mK tyT kg [] Tryz.f152 [.c (.ptr 0 0),.c (.int (i))] [.box 43 ([.int (v),.int (nx),.int (kp),.int (qt),.own 1,.own 2,.own 3]),.row 82 (.nm .sess) (se),.row 63 (.nm .opn) (op),.row 73 (.nm .snap) (sn)] [.agg (cellsOf (.nm .reply) r0)] [.box 43 ([.int (r1),.int (r2),.int (r3),.int (r4),.own 1,.own 2,.own 3]),.row 82 (.nm .sess) (r5),.row 63 (.nm .opn) (r6),.row 73 (.nm .snap) (r7)]=((fun (q2:Bool)=>(fun (q1:Prop)=>(fun (q0:den (Sh.nm NT.snap))=>I64 i->(0:Int)<=i/\i<(↑sn.length:Int)/\(I64 q0.id->I64 q0.set->q0.chunks.length*(8:Nat)<=(140737488355328:Nat)->q0.tag.b.length<=(140737488355328:Nat)->(q0.held=true->I64 (17:Int)->I64 (0:Int)->(17:Int)=r0.code/\q1)/\(q0.held=false->(q2=true->I64 (18:Int)->I64 (0:Int)->(18:Int)=r0.code/\q1)/\(q2=false->nch sn<=(1048576:Nat)/\((jw sn q0.id).length*(8:Nat)<=(140737488355328:Nat)->(0:Int)=r0.code/\(↑(jw sn q0.id).length:Int)=r0.n/\v=r1/\nx=r2/\kp=r3/\qt=r4/\se=r5/\op=r6/\bg q0.id sn=r7))))) (sn.getD i.toNat (dflt (Sh.nm NT.snap)))) ((0:Int)=r0.n/\v=r1/\nx=r2/\kp=r3/\qt=r4/\se=r5/\op=r6/\sn=r7)) (kB (State.mk v nx kp qt se op sn) i)):=by kernel_rfl
theorem IK (i:Int) (v:Int) (nx:Int) (kp:Int) (qt:Int) (se:List Sess) (op:List Opn) (sn:List Snap) (h0:0<=i/\i<(sn.length:Int)) (h1:nch sn<=1048576):Sat Tryz.prog (aj tyT) 152 [.c (.ptr 0 0),.c (.int (i))] [.box 43 ([.int (v),.int (nx),.int (kp),.int (qt),.own 1,.own 2,.own 3]),.row 82 (.nm .sess) (se),.row 63 (.nm .opn) (op),.row 73 (.nm .snap) (sn)] ⟨[0<=i/\i<(sn.length:Int),nch sn<=1048576],[.agg (cellsOf (.nm .reply) ((aQ (State.mk v nx kp qt se op sn) i.toNat).2))],some ([.box 43 ([.int ((((aQ (State.mk v nx kp qt se op sn) i.toNat).1).version)),.int ((((aQ (State.mk v nx kp qt se op sn) i.toNat).1).next)),.int ((((aQ (State.mk v nx kp qt se op sn) i.toNat).1).keep)),.int ((((aQ (State.mk v nx kp qt se op sn) i.toNat).1).quota)),.own 1,.own 2,.own 3]),.row 82 (.nm .sess) ((((aQ (State.mk v nx kp qt se op sn) i.toNat).1).sess)),.row 63 (.nm .opn) ((((aQ (State.mk v nx kp qt se op sn) i.toNat).1).opens)),.row 73 (.nm .snap) ((((aQ (State.mk v nx kp qt se op sn) i.toNat).1).snaps))]),false⟩:=by
 refine db ez [] Tryz.func152 (by decide) (by kernel_rfl) ?_
 rw [Ie]
 have hi:((i.toNat:Nat):Int)=i:=by omega
 (repeat' (first | with_reducible refine And.intro ?_ ?_ | with_reducible refine and_imp.2 ?_ | intro))
 all_goals (first | (first | with_reducible rfl | with_reducible assumption | omega | (refine ah ?_ ?_ <;> omega)) | ((simp only [aQ,hi]; simp_all) <;> (intros; omega)) | (simp only [aQ,hi]; grind))
theorem NM (i:Int) (v:Int) (nx:Int) (kp:Int) (qt:Int) (se:List Sess) (op:List Opn) (sn:List Snap) (r0:Reply) (r1:Int) (r2:Int) (r3:Int) (r4:Int) (r5:List Sess) (r6:List Opn) (r7:List Snap):mK tyT kg [] Tryz.f153 [.c (.int (i)),.c (.ptr 0 0)] [.box 43 ([.int (v),.int (nx),.int (kp),.int (qt),.own 1,.own 2,.own 3]),.row 82 (.nm .sess) (se),.row 63 (.nm .opn) (op),.row 73 (.nm .snap) (sn)] [.agg (cellsOf (.nm .reply) r0)] [.box 43 ([.int (r1),.int (r2),.int (r3),.int (r4),.own 1,.own 2,.own 3]),.row 82 (.nm .sess) (r5),.row 63 (.nm .opn) (r6),.row 73 (.nm .snap) (r7)]=((fun (q0:den (Sh.nm NT.snap))=>I64 i->(0:Int)<=i/\i<(↑sn.length:Int)/\(I64 q0.id->I64 q0.set->q0.chunks.length*(8:Nat)<=(140737488355328:Nat)->q0.tag.b.length<=(140737488355328:Nat)->(0:Int)=r0.code/\(↑q0.chunks.length:Int)=r0.n/\v=r1/\nx=r2/\kp=r3/\qt=r4/\se=r5/\op=r6/\sn=r7)) (sn.getD i.toNat (dflt (Sh.nm NT.snap)))):=by kernel_rfl
theorem LD (i:Int) (v:Int) (nx:Int) (kp:Int) (qt:Int) (se:List Sess) (op:List Opn) (sn:List Snap) (h0:0<=i/\i<(sn.length:Int)):Sat Tryz.prog (aj tyT) 153 [.c (.int (i)),.c (.ptr 0 0)] [.box 43 ([.int (v),.int (nx),.int (kp),.int (qt),.own 1,.own 2,.own 3]),.row 82 (.nm .sess) (se),.row 63 (.nm .opn) (op),.row 73 (.nm .snap) (sn)] ⟨[0<=i/\i<(sn.length:Int)],[.agg (cellsOf (.nm .reply) ((bk (State.mk v nx kp qt se op sn) i.toNat).2))],some ([.box 43 ([.int ((((bk (State.mk v nx kp qt se op sn) i.toNat).1).version)),.int ((((bk (State.mk v nx kp qt se op sn) i.toNat).1).next)),.int ((((bk (State.mk v nx kp qt se op sn) i.toNat).1).keep)),.int ((((bk (State.mk v nx kp qt se op sn) i.toNat).1).quota)),.own 1,.own 2,.own 3]),.row 82 (.nm .sess) ((((bk (State.mk v nx kp qt se op sn) i.toNat).1).sess)),.row 63 (.nm .opn) ((((bk (State.mk v nx kp qt se op sn) i.toNat).1).opens)),.row 73 (.nm .snap) ((((bk (State.mk v nx kp qt se op sn) i.toNat).1).snaps))]),false⟩:=by
 refine db ez [] Tryz.func153 (by decide) (by kernel_rfl) ?_
 rw [NM]
 (repeat' (first | with_reducible refine And.intro ?_ ?_ | with_reducible refine and_imp.2 ?_ | intro))
 all_goals (first | (first | with_reducible rfl | with_reducible assumption | omega | (refine ah ?_ ?_ <;> omega)) | rfl)
theorem G_ (i:Int) (c:Command) (v:Int) (nx:Int) (kp:Int) (qt:Int) (se:List Sess) (op:List Opn) (sn:List Snap) (r0:Reply) (r1:Command) (r2:Int) (r3:Int) (r4:Int) (r5:Int) (r6:List Sess) (r7:List Opn) (r8:List Snap):mK tyT kg [] Tryz.f154 [.c (.int (i)),.c (.ptr 0 0),.c (.ptr 1 0)] [.box 24 (cellsOf (.nm .command) (c)),.box 43 ([.int (v),.int (nx),.int (kp),.int (qt),.own 2,.own 3,.own 4]),.row 82 (.nm .sess) (se),.row 63 (.nm .opn) (op),.row 73 (.nm .snap) (sn)] [.agg (cellsOf (.nm .reply) r0)] [.box 24 (cellsOf (.nm .command) (r1)),.box 43 ([.int (r2),.int (r3),.int (r4),.int (r5),.own 2,.own 3,.own 4]),.row 82 (.nm .sess) (r6),.row 63 (.nm .opn) (r7),.row 73 (.nm .snap) (r8)]=((fun (q0:den (Sh.nm NT.snap))=>I64 i->(0:Int)<=i/\i<(↑sn.length:Int)/\(I64 q0.id->I64 q0.set->q0.chunks.length*(8:Nat)<=(140737488355328:Nat)->q0.tag.b.length<=(140737488355328:Nat)->(0:Int)=r0.code/\(0:Int)=r0.n/\c.kind=r1.kind/\c.client=r1.client/\c.seq=r1.seq/\c.set=r1.set/\c.id=r1.id/\c.n=r1.n/\c.chunks=r1.chunks/\c.text=r1.text/\v=r2/\nx=r3/\kp=r4/\qt=r5/\se=r6/\op=r7/\sn.set i.toNat (Snap.mk q0.id q0.set q0.chunks q0.held c.text)=r8)) (sn.getD i.toNat (dflt (Sh.nm NT.snap)))):=by kernel_rfl
theorem Il (i:Int) (c:Command) (v:Int) (nx:Int) (kp:Int) (qt:Int) (se:List Sess) (op:List Opn) (sn:List Snap) (h0:0<=i/\i<(sn.length:Int)):Sat Tryz.prog (aj tyT) 154 [.c (.int (i)),.c (.ptr 0 0),.c (.ptr 1 0)] [.box 24 (cellsOf (.nm .command) (c)),.box 43 ([.int (v),.int (nx),.int (kp),.int (qt),.own 2,.own 3,.own 4]),.row 82 (.nm .sess) (se),.row 63 (.nm .opn) (op),.row 73 (.nm .snap) (sn)] ⟨[0<=i/\i<(sn.length:Int)],[.agg (cellsOf (.nm .reply) ((de c (State.mk v nx kp qt se op sn) i.toNat).2))],some ([.box 24 (cellsOf (.nm .command) ((c))),.box 43 ([.int ((((de c (State.mk v nx kp qt se op sn) i.toNat).1).version)),.int ((((de c (State.mk v nx kp qt se op sn) i.toNat).1).next)),.int ((((de c (State.mk v nx kp qt se op sn) i.toNat).1).keep)),.int ((((de c (State.mk v nx kp qt se op sn) i.toNat).1).quota)),.own 2,.own 3,.own 4]),.row 82 (.nm .sess) ((((de c (State.mk v nx kp qt se op sn) i.toNat).1).sess)),.row 63 (.nm .opn) ((((de c (State.mk v nx kp qt se op sn) i.toNat).1).opens)),.row 73 (.nm .snap) ((((de c (State.mk v nx kp qt se op sn) i.toNat).1).snaps))]),false⟩:=by
 refine db ez [] Tryz.func154 (by decide) (by kernel_rfl) ?_
 rw [G_]
 (repeat' (first | with_reducible refine And.intro ?_ ?_ | with_reducible refine and_imp.2 ?_ | intro))
 all_goals (first | (first | with_reducible rfl | with_reducible assumption | omega | (refine ah ?_ ?_ <;> omega)) | exact rfl)
theorem Fc (i:Int) (v:Int) (nx:Int) (kp:Int) (qt:Int) (se:List Sess) (op:List Opn) (sn:List Snap) (b:Bool) (r0:Reply) (r1:Int) (r2:Int) (r3:Int) (r4:Int) (r5:List Sess) (r6:List Opn) (r7:List Snap) (r8:Bool):mK tyT kg [] Tryz.f141 [.c (.int (i)),.c (.ptr 0 0),.c (.ptr 4 0)] [.box 43 ([.int (v),.int (nx),.int (kp),.int (qt),.own 1,.own 2,.own 3]),.row 82 (.nm .sess) (se),.row 63 (.nm .opn) (op),.row 73 (.nm .snap) (sn),.box 4 ([.bool (.atom (b))])] [.agg (cellsOf (.nm .reply) r0)] [.box 43 ([.int (r1),.int (r2),.int (r3),.int (r4),.own 1,.own 2,.own 3]),.row 82 (.nm .sess) (r5),.row 63 (.nm .opn) (r6),.row 73 (.nm .snap) (r7),.box 4 ([.bool (.atom (r8))])]=((fun (q0:den (Sh.nm NT.snap))=>I64 i->(0:Int)<=i/\i<(↑sn.length:Int)/\(I64 q0.id->I64 q0.set->q0.chunks.length*(8:Nat)<=(140737488355328:Nat)->q0.tag.b.length<=(140737488355328:Nat)->((q0.held == b)=true->(0:Int)=r0.code/\(0:Int)=r0.n/\v=r1/\nx=r2/\kp=r3/\qt=r4/\se=r5/\op=r6/\sn=r7/\b=r8)/\((q0.held == b)=false->(0:Int)=r0.code/\(1:Int)=r0.n/\v=r1/\nx=r2/\kp=r3/\qt=r4/\se=r5/\op=r6/\sn.set i.toNat (Snap.mk q0.id q0.set q0.chunks b q0.tag)=r7/\b=r8))) (sn.getD i.toNat (dflt (Sh.nm NT.snap)))):=by kernel_rfl
theorem Fh (i:Int) (v:Int) (nx:Int) (kp:Int) (qt:Int) (se:List Sess) (op:List Opn) (sn:List Snap) (b:Bool) (h0:0<=i/\i<(sn.length:Int)):Sat Tryz.prog (aj tyT) 141 [.c (.int (i)),.c (.ptr 0 0),.c (.ptr 4 0)] [.box 43 ([.int (v),.int (nx),.int (kp),.int (qt),.own 1,.own 2,.own 3]),.row 82 (.nm .sess) (se),.row 63 (.nm .opn) (op),.row 73 (.nm .snap) (sn),.box 4 ([.bool (.atom (b))])] ⟨[0<=i/\i<(sn.length:Int)],[.agg (cellsOf (.nm .reply) ((bE b (State.mk v nx kp qt se op sn) i.toNat).2))],some ([.box 43 ([.int ((((bE b (State.mk v nx kp qt se op sn) i.toNat).1).version)),.int ((((bE b (State.mk v nx kp qt se op sn) i.toNat).1).next)),.int ((((bE b (State.mk v nx kp qt se op sn) i.toNat).1).keep)),.int ((((bE b (State.mk v nx kp qt se op sn) i.toNat).1).quota)),.own 1,.own 2,.own 3]),.row 82 (.nm .sess) ((((bE b (State.mk v nx kp qt se op sn) i.toNat).1).sess)),.row 63 (.nm .opn) ((((bE b (State.mk v nx kp qt se op sn) i.toNat).1).opens)),.row 73 (.nm .snap) ((((bE b (State.mk v nx kp qt se op sn) i.toNat).1).snaps)),.box 4 ([.bool (.atom ((b)))])]),false⟩:=by
 refine db ez [] Tryz.func141 (by decide) (by kernel_rfl) ?_
 rw [Fc]
 (repeat' (first | with_reducible refine And.intro ?_ ?_ | with_reducible refine and_imp.2 ?_ | intro))
 all_goals (first | (first | with_reducible rfl | with_reducible assumption | omega | (refine ah ?_ ?_ <;> omega)) | ((simp only [bE]; simp_all) <;> (intros; omega)) | (simp only [bE]; grind))
def qj:cj:=(br 141 (bp (ai (kC cI) (ai (kC (bN 0 0)) (ai (kC (bN 4 0)) aK))) (az (bI 43 (aq cI (aq cI (aq cI (aq cI (aq (bf 1) (aq (bf 2) (aq (bf 3) bG)))))))) (az (bd 82 (.nm .sess)) (az (bd 63 (.nm .opn)) (az (bd 73 (.nm .snap)) (az (bI 4 (aq cB bG)) aJ))))) fun (i,_,_,_) ((v,nx,kp,qt,_,_,_,_),se,op,sn,(b,_),_)=>⟨[0<=i/\i<(sn.length:Int)],[.agg (cellsOf (.nm .reply) ((bE b (State.mk v nx kp qt se op sn) i.toNat).2))],some ([.box 43 ([.int ((((bE b (State.mk v nx kp qt se op sn) i.toNat).1).version)),.int ((((bE b (State.mk v nx kp qt se op sn) i.toNat).1).next)),.int ((((bE b (State.mk v nx kp qt se op sn) i.toNat).1).keep)),.int ((((bE b (State.mk v nx kp qt se op sn) i.toNat).1).quota)),.own 1,.own 2,.own 3]),.row 82 (.nm .sess) ((((bE b (State.mk v nx kp qt se op sn) i.toNat).1).sess)),.row 63 (.nm .opn) ((((bE b (State.mk v nx kp qt se op sn) i.toNat).1).opens)),.row 73 (.nm .snap) ((((bE b (State.mk v nx kp qt se op sn) i.toNat).1).snaps)),.box 4 ([.bool (.atom ((b)))])]),false⟩) (br 154 (bp (ai (kC cI) (ai (kC (bN 0 0)) (ai (kC (bN 1 0)) aK))) (az (bI 24 (sj (.nm .command) bG)) (az (bI 43 (aq cI (aq cI (aq cI (aq cI (aq (bf 2) (aq (bf 3) (aq (bf 4) bG)))))))) (az (bd 82 (.nm .sess)) (az (bd 63 (.nm .opn)) (az (bd 73 (.nm .snap)) aJ))))) fun (i,_,_,_) ((c,_),(v,nx,kp,qt,_,_,_,_),se,op,sn,_)=>⟨[0<=i/\i<(sn.length:Int)],[.agg (cellsOf (.nm .reply) ((de c (State.mk v nx kp qt se op sn) i.toNat).2))],some ([.box 24 (cellsOf (.nm .command) ((c))),.box 43 ([.int ((((de c (State.mk v nx kp qt se op sn) i.toNat).1).version)),.int ((((de c (State.mk v nx kp qt se op sn) i.toNat).1).next)),.int ((((de c (State.mk v nx kp qt se op sn) i.toNat).1).keep)),.int ((((de c (State.mk v nx kp qt se op sn) i.toNat).1).quota)),.own 2,.own 3,.own 4]),.row 82 (.nm .sess) ((((de c (State.mk v nx kp qt se op sn) i.toNat).1).sess)),.row 63 (.nm .opn) ((((de c (State.mk v nx kp qt se op sn) i.toNat).1).opens)),.row 73 (.nm .snap) ((((de c (State.mk v nx kp qt se op sn) i.toNat).1).snaps))]),false⟩) (br 153 (bp (ai (kC cI) (ai (kC (bN 0 0)) aK)) (az (bI 43 (aq cI (aq cI (aq cI (aq cI (aq (bf 1) (aq (bf 2) (aq (bf 3) bG)))))))) (az (bd 82 (.nm .sess)) (az (bd 63 (.nm .opn)) (az (bd 73 (.nm .snap)) aJ)))) fun (i,_,_) ((v,nx,kp,qt,_,_,_,_),se,op,sn,_)=>⟨[0<=i/\i<(sn.length:Int)],[.agg (cellsOf (.nm .reply) ((bk (State.mk v nx kp qt se op sn) i.toNat).2))],some ([.box 43 ([.int ((((bk (State.mk v nx kp qt se op sn) i.toNat).1).version)),.int ((((bk (State.mk v nx kp qt se op sn) i.toNat).1).next)),.int ((((bk (State.mk v nx kp qt se op sn) i.toNat).1).keep)),.int ((((bk (State.mk v nx kp qt se op sn) i.toNat).1).quota)),.own 1,.own 2,.own 3]),.row 82 (.nm .sess) ((((bk (State.mk v nx kp qt se op sn) i.toNat).1).sess)),.row 63 (.nm .opn) ((((bk (State.mk v nx kp qt se op sn) i.toNat).1).opens)),.row 73 (.nm .snap) ((((bk (State.mk v nx kp qt se op sn) i.toNat).1).snaps))]),false⟩) (br 152 (bp (ai (kC (bN 0 0)) (ai (kC cI) aK)) (az (bI 43 (aq cI (aq cI (aq cI (aq cI (aq (bf 1) (aq (bf 2) (aq (bf 3) bG)))))))) (az (bd 82 (.nm .sess)) (az (bd 63 (.nm .opn)) (az (bd 73 (.nm .snap)) aJ)))) fun (_,i,_) ((v,nx,kp,qt,_,_,_,_),se,op,sn,_)=>⟨[0<=i/\i<(sn.length:Int),nch sn<=1048576],[.agg (cellsOf (.nm .reply) ((aQ (State.mk v nx kp qt se op sn) i.toNat).2))],some ([.box 43 ([.int ((((aQ (State.mk v nx kp qt se op sn) i.toNat).1).version)),.int ((((aQ (State.mk v nx kp qt se op sn) i.toNat).1).next)),.int ((((aQ (State.mk v nx kp qt se op sn) i.toNat).1).keep)),.int ((((aQ (State.mk v nx kp qt se op sn) i.toNat).1).quota)),.own 1,.own 2,.own 3]),.row 82 (.nm .sess) ((((aQ (State.mk v nx kp qt se op sn) i.toNat).1).sess)),.row 63 (.nm .opn) ((((aQ (State.mk v nx kp qt se op sn) i.toNat).1).opens)),.row 73 (.nm .snap) ((((aQ (State.mk v nx kp qt se op sn) i.toNat).1).snaps))]),false⟩) (br 149 (bp (ai (kC (bN 0 0)) (ai (kC (bN 1 0)) aK)) (az (bI 24 (sj (.nm .command) bG)) (az (bI 43 (aq cI (aq cI (aq cI (aq cI (aq (bf 2) (aq (bf 3) (aq (bf 4) bG)))))))) (az (bd 82 (.nm .sess)) (az (bd 63 (.nm .opn)) (az (bd 73 (.nm .snap)) aJ))))) fun (_,_,_) ((c,_),(v,nx,kp,qt,_,_,_,_),se,op,sn,_)=>⟨[nch sn<=1048576],[.agg (cellsOf (.nm .reply) ((cQ c (State.mk v nx kp qt se op sn)).2))],some ([.box 24 (cellsOf (.nm .command) ((c))),.box 43 ([.int ((((cQ c (State.mk v nx kp qt se op sn)).1).version)),.int ((((cQ c (State.mk v nx kp qt se op sn)).1).next)),.int ((((cQ c (State.mk v nx kp qt se op sn)).1).keep)),.int ((((cQ c (State.mk v nx kp qt se op sn)).1).quota)),.own 2,.own 3,.own 4]),.row 82 (.nm .sess) ((((cQ c (State.mk v nx kp qt se op sn)).1).sess)),.row 63 (.nm .opn) ((((cQ c (State.mk v nx kp qt se op sn)).1).opens)),.row 73 (.nm .snap) ((((cQ c (State.mk v nx kp qt se op sn)).1).snaps))]),false⟩) (br 148 (bp (ai (kC (bN 0 0)) (ai (kC (bN 1 0)) aK)) (az (bI 24 (sj (.nm .command) bG)) (az (bI 43 (aq cI (aq cI (aq cI (aq cI (aq (bf 2) (aq (bf 3) (aq (bf 4) bG)))))))) (az (bd 82 (.nm .sess)) (az (bd 63 (.nm .opn)) (az (bd 73 (.nm .snap)) aJ))))) fun (_,_,_) ((c,_),(v,nx,kp,qt,_,_,_,_),se,op,sn,_)=>⟨[],[.agg (cellsOf (.nm .reply) ((dO c (State.mk v nx kp qt se op sn)).2))],some ([.box 24 (cellsOf (.nm .command) ((c))),.box 43 ([.int ((((dO c (State.mk v nx kp qt se op sn)).1).version)),.int ((((dO c (State.mk v nx kp qt se op sn)).1).next)),.int ((((dO c (State.mk v nx kp qt se op sn)).1).keep)),.int ((((dO c (State.mk v nx kp qt se op sn)).1).quota)),.own 2,.own 3,.own 4]),.row 82 (.nm .sess) ((((dO c (State.mk v nx kp qt se op sn)).1).sess)),.row 63 (.nm .opn) ((((dO c (State.mk v nx kp qt se op sn)).1).opens)),.row 73 (.nm .snap) ((((dO c (State.mk v nx kp qt se op sn)).1).snaps))]),false⟩) (br 177 (bp (ai (kC (bN 0 0)) (ai (kT (.nm .command)) aK)) (az (bI 43 (aq cI (aq cI (aq cI (aq cI (aq (bf 1) (aq (bf 2) (aq (bf 3) bG)))))))) (az (bd 82 (.nm .sess)) (az (bd 63 (.nm .opn)) (az (bd 73 (.nm .snap)) aJ)))) fun (_,c,_) ((v,nx,kp,qt,_,_,_,_),se,op,sn,_)=>⟨[],[.c (.int ((bT (State.mk v nx kp qt se op sn) c)))],none,false⟩) (br 179 (bp (ai (kC (bf 0)) (ai (kC cI) (ai (kC cI) aK))) (az (bd 63 (.nm .opn)) aJ) fun (_,i,j,_) (l,_)=>⟨[0<=i/\i<(l.length:Int)/\j=i+1],[.c (.own 0)],some ([.row 63 (.nm .opn) ((l.take i.toNat++l.drop j.toNat))]),false⟩) (br 64 (bp (ai (kC (bf 0)) (ai (kC cI) (ai (kC (bf 1)) aK))) (az (bd 82 (.nm .sess)) (az (bd 82 (.nm .sess)) aJ)) fun (_,i,_,_) (l,m,_)=>⟨[0<=i/\i<=(l.length:Int),l.length<1048576,m.length=1],[.c (.own 0)],some ([.row 82 (.nm .sess) ((l.take i.toNat++m++l.drop i.toNat)),.row 82 (.nm .sess) ((m))]),false⟩) (br 176 (bp (ai (kC (bf 0)) (ai (kC cI) (ai (kC (cL (.nm .opn))) aK))) (az (bd 63 (.nm .opn)) aJ) fun (_,i,m,_) (l,_)=>⟨[0<=i/\i<=(l.length:Int),l.length<1048576,m.length=1],[.c (.own 0)],some ([.row 63 (.nm .opn) ((l.take i.toNat++m++l.drop i.toNat))]),false⟩) kg))))))))))
theorem iF:aN Tryz.prog (aj tyT) qj:=(av (au (ab (ao aw) (ab (ao aI) (ab (ao aI) ak))) (ag (aG (ae aw (ae aw (ae aw (ae aw (ae aD (ae aD (ae aD aF)))))))) (ag aC (ag aC (ag aC (ag (aG (ae uK aF)) al))))) fun (i,_,_,_) ((v,nx,kp,qt,_,_,_,_),se,op,sn,(b,_),_) hp=>Fh i v nx kp qt se op sn b (dC hp)) (av (au (ab (ao aw) (ab (ao aI) (ab (ao aI) ak))) (ag (aG (dt aF)) (ag (aG (ae aw (ae aw (ae aw (ae aw (ae aD (ae aD (ae aD aF)))))))) (ag aC (ag aC (ag aC al))))) fun (i,_,_,_) ((c,_),(v,nx,kp,qt,_,_,_,_),se,op,sn,_) hp=>Il i c v nx kp qt se op sn (dC hp)) (av (au (ab (ao aw) (ab (ao aI) ak)) (ag (aG (ae aw (ae aw (ae aw (ae aw (ae aD (ae aD (ae aD aF)))))))) (ag aC (ag aC (ag aC al)))) fun (i,_,_) ((v,nx,kp,qt,_,_,_,_),se,op,sn,_) hp=>LD i v nx kp qt se op sn (dC hp)) (av (au (ab (ao aI) (ab (ao aw) ak)) (ag (aG (ae aw (ae aw (ae aw (ae aw (ae aD (ae aD (ae aD aF)))))))) (ag aC (ag aC (ag aC al)))) fun (_,i,_) ((v,nx,kp,qt,_,_,_,_),se,op,sn,_) hp=>IK i v nx kp qt se op sn (dC hp) (dC (gE hp))) (av (au (ab (ao aI) (ab (ao aI) ak)) (ag (aG (dt aF)) (ag (aG (ae aw (ae aw (ae aw (ae aw (ae aD (ae aD (ae aD aF)))))))) (ag aC (ag aC (ag aC al))))) fun (_,_,_) ((c,_),(v,nx,kp,qt,_,_,_,_),se,op,sn,_) hp=>Kl c v nx kp qt se op sn (dC hp)) (av (au (ab (ao aI) (ab (ao aI) ak)) (ag (aG (dt aF)) (ag (aG (ae aw (ae aw (ae aw (ae aw (ae aD (ae aD (ae aD aF)))))))) (ag aC (ag aC (ag aC al))))) fun (_,_,_) ((c,_),(v,nx,kp,qt,_,_,_,_),se,op,sn,_) _=>LF c v nx kp qt se op sn ) (av (au (ab (ao aI) (ab bn ak)) (ag (aG (ae aw (ae aw (ae aw (ae aw (ae aD (ae aD (ae aD aF)))))))) (ag aC (ag aC (ag aC al)))) fun (_,c,_) ((v,nx,kp,qt,_,_,_,_),se,op,sn,_) _=>zy c v nx kp qt se op sn ) (av (au (ab (ao aD) (ab (ao aw) (ab (ao aw) ak))) (ag aC al) fun (_,i,j,_) (l,_) hp=>zW i j l (dC hp)) (av (au (ab (ao aD) (ab (ao aw) (ab (ao aD) ak))) (ag aC (ag aC al)) fun (_,i,_,_) (l,m,_) hp=>vS i l m (dC hp) (dC (gE hp)) (dC (gE (gE hp)))) (av (au (ab (ao aD) (ab (ao aw) (ab (ao bb) ak))) (ag aC al) fun (_,i,m,_) (l,_) hp=>zg i m l (dC hp) (dC (gE hp)) (dC (gE (gE hp)))) ez))))))))))
end Go.Proofs.YtladifkbefehdaaGreat
namespace Go.Proofs.YtladifkbefehdaaGreat
open Go.RowKit
theorem Cw {α:Type} {p:α->Bool} {l:List α} {k:Nat} (h:(l.take k).all p=true) (hk:k<=l.length) (h2:(l.length:Int)<=k\/(k:Int)<l.length/\∃ x,l[k]? = some x/\p x=false):k=(l.takeWhile p).length:=by
 induction l generalizing k with
 | nil=>simp at hk; simp [hk]
 | cons a l ih=>
  cases k with
  | zero=>
   rcases h2 with h2 | ⟨_,x,hx,hp⟩
   ·simp at h2; omega
   ·simp at hx; subst hx; simp [hp]
  | succ k=>
   simp only [List.take_succ_cons,List.all_cons,Bool.and_eq_true] at h
   rw [List.takeWhile_cons,h.1,if_pos rfl,List.length_cons]
   congr 1
   refine ih h.2 (by simpa using hk) ?_
   rcases h2 with h2 | ⟨h3,x,hx,hp⟩
   ·left; simp at h2; omega
   ·right; refine ⟨by simp at h3; omega,x,by simpa using hx,hp⟩
theorem BT {v nx kp qt:Int} {se:List Sess} {op:List Opn} {sn:List Snap} {c:Command} {s:Nat} (h:ay Opn.set c.set op<0) (hs:s<=op.length) (ha:(op.take s).all (fun y=>decide (y.set<c.set))=true) (hb:(op.length:Int)<=s\/c.set<=(op.getD s (dflt (.nm .opn))).set):op.take s++[Opn.mk c.set c.client]++op.drop s=(ba (State.mk v nx kp qt se op sn) c).1.opens:=by
 have h1:¬ 0<=ay Opn.set c.set op:=by omega
 simp only [ba,if_neg h1]
 have:s=(op.takeWhile fun y=>decide (y.set<c.set)).length:=by
  refine Cw ha hs ?_
  by_cases hl:(op.length:Int)<=s
  ·exact .inl hl
  ·refine .inr ⟨by omega,_,gd (d:=dflt (.nm .opn)) (by omega),?_⟩
   rcases hb with hb | hb
   ·omega
   ·exact decide_eq_false (by omega)
 rw [<- this]; simp [sG]
theorem CU {op:List Opn} {c:Command} {s:Nat} (ha:(op.take s).all (fun y=>decide (y.set<c.set))=true) (h:(s:Int)<op.length) (hb:(op.getD s (dflt (.nm .opn))).set<c.set):(op.take (s+1)).all (fun y=>decide (y.set<c.set))=true:=by
 rw [ax (gd (d:=dflt (.nm .opn)) h),List.all_append,ha]; simp only [List.all_cons,List.all_nil,decide_eq_true hb]; rfl
section
variable {v nx kp qt:Int} {se:List Sess} {op:List Opn} {sn:List Snap} {c:Command}
theorem Q_ (h:ay Opn.set c.set op<0):ba (State.mk v nx kp qt se op sn) c=(State.mk v nx kp qt se (sG op (op.takeWhile fun y=>decide (y.set<c.set)).length ⟨c.set,c.client⟩) sn,⟨0,0⟩):=by
 have h1:¬ 0<=ay Opn.set c.set op:=by omega
 simp only [ba,if_neg h1]
theorem Qo (h:0<=ay Opn.set c.set op):ba (State.mk v nx kp qt se op sn) c=(State.mk v nx kp qt se op sn,⟨16,(op.getD (ay Opn.set c.set op).toNat (dflt (.nm .opn))).client⟩):=by
 simp only [ba,if_pos h]
theorem Tg (h:bT (State.mk v nx kp qt se op sn) c<0):bc (State.mk v nx kp qt se op sn) c=(State.mk v nx kp qt se op sn,⟨15,0⟩):=by
 simp only [bc,if_pos h]
theorem Ti (h:0<=bT (State.mk v nx kp qt se op sn) c):bc (State.mk v nx kp qt se op sn) c=(State.mk v nx kp qt se (op.take (bT (State.mk v nx kp qt se op sn) c).toNat++op.drop (bT (State.mk v nx kp qt se op sn) c+1).toNat) sn,⟨0,0⟩):=by
 have h1:¬ bT (State.mk v nx kp qt se op sn) c<0:=by omega
 simp only [bc,if_neg h1,Gt]
end
def ya (c:Command) (v:Int) (nx:Int) (kp:Int) (qt:Int) (se:List Sess) (op:List Opn) (sn:List Snap):List (Nat × LI):=[(5,{ σ:=Nat,F:=fun k=>([(0,one (.ptr 0 0)),(3,one (.ptr 4 0)),(4,one (.ptr 5 0)),(6,one (.int k))],[.box 43 ([.int ((v)),.int ((nx)),.int ((kp)),.int ((qt)),.own 1,.own 2,.own 3]),.row 82 (.nm .sess) ((se)),.row 63 (.nm .opn) ((op)),.row 73 (.nm .snap) ((sn)),.box 24 (cellsOf (.nm .command) ((c))),.box 56 ([.int ((0)),.int ((0))])]),J:=fun k=>k<=op.length/\(op.take k).all (fun y=>decide (y.set<c.set))=true,μ:=fun k=>op.length - k })]
theorem ET (c:Command) (v:Int) (nx:Int) (kp:Int) (qt:Int) (se:List Sess) (op:List Opn) (sn:List Snap) (r0:Reply) (r1:Int) (r2:Int) (r3:Int) (r4:Int) (r5:List Sess) (r6:List Opn) (r7:List Snap):mK tyT qj (ya c v nx kp qt se op sn) Tryz.f143 [.c (.ptr 0 0),.agg (cellsOf (.nm .command) c)] [.box 43 ([.int (v),.int (nx),.int (kp),.int (qt),.own 1,.own 2,.own 3]),.row 82 (.nm .sess) (se),.row 63 (.nm .opn) (op),.row 73 (.nm .snap) (sn)] [.agg (cellsOf (.nm .reply) r0)] [.box 43 ([.int (r1),.int (r2),.int (r3),.int (r4),.own 1,.own 2,.own 3]),.row 82 (.nm .sess) (r5),.row 63 (.nm .opn) (r6),.row 73 (.nm .snap) (r7)]=((fun (q5:Int)=>(fun (q4:den (Sh.nm NT.opn))=>(fun (q3:Int)=>(fun (q2:Int)=>(fun (q1:Int)=>(fun (q0:Prop)=>I64 c.kind->I64 c.client->I64 c.seq->I64 q5->I64 c.id->I64 c.n->c.chunks.length*(8:Nat)<=(140737488355328:Nat)->c.text.b.length<=(140737488355328:Nat)->I64 q1->(q2<=q1->q2<=q1/\q1<q3/\(I64 (op.getD q1.toNat q4).set->I64 (op.getD q1.toNat q4).client->(16:Int)=r0.code/\(op.getD q1.toNat q4).client=r0.n/\v=r1/\nx=r2/\kp=r3/\qt=r4/\se=r5/\op=r6/\sn=r7))/\(q1<q2->∃ (s0:Nat),(q2=(↑s0:Int)/\q0)/\(s0<=op.length/\((List.take s0 op).all fun (y:Opn)=>decide (y.set<q5))=true)/\∀ (s:Nat),(fun (q7:Int)=>(fun (q6:Int)=>s<=op.length/\((List.take s op).all fun (y:Opn)=>decide (y.set<q5))=true->(q6<q3->q2<=q6/\q6<q3)/\((q6<q3->I64 q7/\I64 (op.getD s q4).client)->(q6<q3/\q7<q5->I64 (q6+(1:Int))/\∃ (s':Nat),(q6+(1:Int)=(↑s':Int)/\q0)/\(s' <= op.length/\((List.take s' op).all fun (y:Opn)=>decide (y.set<q5))=true)/\op.length - s' < op.length - s)/\(q3<=q6\/q5<=q7->((q2<=q6/\q6<=q3)/\op.length<(1048576:Nat)/\[Opn.mk q5 c.client].length=(1:Nat))/\q2=r0.code/\q2=r0.n/\v=r1/\nx=r2/\kp=r3/\qt=r4/\se=r5/\List.take s op++[Opn.mk q5 c.client]++List.drop s op=r6/\sn=r7))) (↑s:Int)) (op.getD s q4).set)) (v=v/\nx=nx/\kp=kp/\qt=qt/\se=se/\op=op/\sn=sn/\c.kind=c.kind/\c.client=c.client/\c.seq=c.seq/\q5=q5/\c.id=c.id/\c.n=c.n/\c.chunks=c.chunks/\c.text=c.text/\q2=q2/\q2=q2)) (ay Opn.set q5 op)) (0:Int)) (↑op.length:Int)) (dflt (Sh.nm NT.opn))) c.set):=by kernel_rfl
theorem AS (c:Command) (v:Int) (nx:Int) (kp:Int) (qt:Int) (se:List Sess) (op:List Opn) (sn:List Snap) (h0:op.length<1048576):Sat Tryz.prog (aj tyT) 143 [.c (.ptr 0 0),.agg (cellsOf (.nm .command) c)] [.box 43 ([.int (v),.int (nx),.int (kp),.int (qt),.own 1,.own 2,.own 3]),.row 82 (.nm .sess) (se),.row 63 (.nm .opn) (op),.row 73 (.nm .snap) (sn)] ⟨[op.length<1048576],[.agg (cellsOf (.nm .reply) ((ba (State.mk v nx kp qt se op sn) c).2))],some ([.box 43 ([.int ((((ba (State.mk v nx kp qt se op sn) c).1).version)),.int ((((ba (State.mk v nx kp qt se op sn) c).1).next)),.int ((((ba (State.mk v nx kp qt se op sn) c).1).keep)),.int ((((ba (State.mk v nx kp qt se op sn) c).1).quota)),.own 1,.own 2,.own 3]),.row 82 (.nm .sess) ((((ba (State.mk v nx kp qt se op sn) c).1).sess)),.row 63 (.nm .opn) ((((ba (State.mk v nx kp qt se op sn) c).1).opens)),.row 73 (.nm .snap) ((((ba (State.mk v nx kp qt se op sn) c).1).snaps))]),false⟩:=by
 refine db iF (ya c v nx kp qt se op sn) Tryz.func143 (by decide) (by kernel_rfl) ?_
 rw [ET]
 (repeat' (first | with_reducible refine And.intro ?_ ?_ | with_reducible refine and_imp.2 ?_ | intro))
 all_goals try (first | (first | with_reducible rfl | with_reducible assumption | omega | (refine ah ?_ ?_ <;> omega)) | exact rfl | exact cw (by with_reducible assumption) | exact (CU (by with_reducible assumption) (by with_reducible assumption) (by with_reducible assumption)) | exact (BT (by with_reducible assumption) (by omega) (by with_reducible assumption) (by assumption)) | (rw [Q_]; omega) | (rw [Qo]; omega))
 all_goals try (refine ⟨0,?_⟩; (repeat' (first | with_reducible refine And.intro ?_ ?_ | with_reducible refine and_imp.2 ?_ | intro)))
 all_goals try (first | (first | with_reducible rfl | with_reducible assumption | omega | (refine ah ?_ ?_ <;> omega)) | exact rfl | exact cw (by with_reducible assumption) | exact (CU (by with_reducible assumption) (by with_reducible assumption) (by with_reducible assumption)) | exact (BT (by with_reducible assumption) (by omega) (by with_reducible assumption) (by assumption)) | (rw [Q_]; omega) | (rw [Qo]; omega))
 all_goals try (refine ⟨‹Nat› + 1,?_⟩; (repeat' (first | with_reducible refine And.intro ?_ ?_ | with_reducible refine and_imp.2 ?_ | intro)))
 all_goals (first | (first | with_reducible rfl | with_reducible assumption | omega | (refine ah ?_ ?_ <;> omega)) | exact rfl | exact cw (by with_reducible assumption) | exact (CU (by with_reducible assumption) (by with_reducible assumption) (by with_reducible assumption)) | exact (BT (by with_reducible assumption) (by omega) (by with_reducible assumption) (by assumption)) | (rw [Q_]; omega) | (rw [Qo]; omega))
theorem Ch (c:Command) (v:Int) (nx:Int) (kp:Int) (qt:Int) (se:List Sess) (op:List Opn) (sn:List Snap) (r0:Reply) (r1:Int) (r2:Int) (r3:Int) (r4:Int) (r5:List Sess) (r6:List Opn) (r7:List Snap):mK tyT qj [] Tryz.f147 [.c (.ptr 0 0),.agg (cellsOf (.nm .command) c)] [.box 43 ([.int (v),.int (nx),.int (kp),.int (qt),.own 1,.own 2,.own 3]),.row 82 (.nm .sess) (se),.row 63 (.nm .opn) (op),.row 73 (.nm .snap) (sn)] [.agg (cellsOf (.nm .reply) r0)] [.box 43 ([.int (r1),.int (r2),.int (r3),.int (r4),.own 1,.own 2,.own 3]),.row 82 (.nm .sess) (r5),.row 63 (.nm .opn) (r6),.row 73 (.nm .snap) (r7)]=((fun (q1:Int)=>(fun (q0:Int)=>I64 c.kind->I64 c.client->I64 c.seq->I64 c.set->I64 c.id->I64 c.n->c.chunks.length*(8:Nat)<=(140737488355328:Nat)->c.text.b.length<=(140737488355328:Nat)->I64 q0->(q0<q1->I64 (15:Int)->I64 q1->(15:Int)=r0.code/\q1=r0.n/\v=r1/\nx=r2/\kp=r3/\qt=r4/\se=r5/\op=r6/\sn=r7)/\(q1<=q0->I64 (q0+(1:Int))/\(q1<=q0/\q0<(↑op.length:Int)/\q0+(1:Int)=q0+(1:Int))/\q1=r0.code/\q1=r0.n/\v=r1/\nx=r2/\kp=r3/\qt=r4/\se=r5/\List.take q0.toNat op++List.drop (q0+(1:Int)).toNat op=r6/\sn=r7)) (bT (State.mk v nx kp qt se op sn) c)) (0:Int)):=by kernel_rfl
theorem Bb (c:Command) (v:Int) (nx:Int) (kp:Int) (qt:Int) (se:List Sess) (op:List Opn) (sn:List Snap) (h0:op.length<1048576):Sat Tryz.prog (aj tyT) 147 [.c (.ptr 0 0),.agg (cellsOf (.nm .command) c)] [.box 43 ([.int (v),.int (nx),.int (kp),.int (qt),.own 1,.own 2,.own 3]),.row 82 (.nm .sess) (se),.row 63 (.nm .opn) (op),.row 73 (.nm .snap) (sn)] ⟨[op.length<1048576],[.agg (cellsOf (.nm .reply) ((bc (State.mk v nx kp qt se op sn) c).2))],some ([.box 43 ([.int ((((bc (State.mk v nx kp qt se op sn) c).1).version)),.int ((((bc (State.mk v nx kp qt se op sn) c).1).next)),.int ((((bc (State.mk v nx kp qt se op sn) c).1).keep)),.int ((((bc (State.mk v nx kp qt se op sn) c).1).quota)),.own 1,.own 2,.own 3]),.row 82 (.nm .sess) ((((bc (State.mk v nx kp qt se op sn) c).1).sess)),.row 63 (.nm .opn) ((((bc (State.mk v nx kp qt se op sn) c).1).opens)),.row 73 (.nm .snap) ((((bc (State.mk v nx kp qt se op sn) c).1).snaps))]),false⟩:=by
 refine db iF [] Tryz.func147 (by decide) (by kernel_rfl) ?_
 rw [Ch]
 have hl:0<=bT (State.mk v nx kp qt se op sn) c->bT (State.mk v nx kp qt se op sn) c+1<=(op.length:Int):=fun h=>EM h
 (repeat' (first | with_reducible refine And.intro ?_ ?_ | with_reducible refine and_imp.2 ?_ | intro))
 all_goals (first | (first | with_reducible rfl | with_reducible assumption | omega | (refine ah ?_ ?_ <;> omega)) | (rw [Ti]; omega) | (rw [Tg]; omega))
theorem An (c:Command) (v:Int) (nx:Int) (kp:Int) (qt:Int) (se:List Sess) (op:List Opn) (sn:List Snap) (r0:Reply) (r1:Int) (r2:Int) (r3:Int) (r4:Int) (r5:List Sess) (r6:List Opn) (r7:List Snap):mK tyT qj [] Tryz.f145 [.c (.ptr 0 0),.agg (cellsOf (.nm .command) c)] [.box 43 ([.int (v),.int (nx),.int (kp),.int (qt),.own 1,.own 2,.own 3]),.row 82 (.nm .sess) (se),.row 63 (.nm .opn) (op),.row 73 (.nm .snap) (sn)] [.agg (cellsOf (.nm .reply) r0)] [.box 43 ([.int (r1),.int (r2),.int (r3),.int (r4),.own 1,.own 2,.own 3]),.row 82 (.nm .sess) (r5),.row 63 (.nm .opn) (r6),.row 73 (.nm .snap) (r7)]=((fun (q6:Snap)=>(fun (q5:Int)=>(fun (q4:Prop)=>(fun (q3:Int)=>(fun (q2:Int)=>(fun (q1:Prop)=>(fun (q0:Int)=>I64 c.kind->I64 c.client->I64 c.seq->I64 c.set->I64 c.id->I64 c.n->q4->c.text.b.length<=(140737488355328:Nat)->I64 q0->(q0<q3->I64 (15:Int)->I64 q3->(15:Int)=r0.code/\q1)/\(q3<=q0->((16:Int)<=(↑sn.length:Int)\/(1048576:Int)<=nx->I64 (20:Int)->I64 q3->(20:Int)=r0.code/\q1)/\((↑sn.length:Int)<(16:Int)/\nx<(1048576:Int)->(¬qt=q3->nch sn<=(1048576:Nat))/\((¬qt=q3->I64 q2)->(¬qt=q3/\qt<q2->I64 (19:Int)->I64 q3->(19:Int)=r0.code/\q1)/\(qt=q3\/q2<=qt->q4->(sn.length+[q6].length)*(64:Nat)<=(140737488355328:Nat)/\I64 (nx+q5)/\I64 (q0+q5)/\(q3<=q0/\q0<(↑op.length:Int)/\q0+q5=q0+q5)/\q3=r0.code/\nx=r0.n/\v=r1/\nx+q5=r2/\kp=r3/\qt=r4/\se=r5/\List.take q0.toNat op++List.drop (q0+q5).toNat op=r6/\sn++[q6]=r7))))) (bT (State.mk v nx kp qt se op sn) c)) (q3=r0.n/\v=r1/\nx=r2/\kp=r3/\qt=r4/\se=r5/\op=r6/\sn=r7)) (↑(distF (sn++[Snap.mk q3 q3 c.chunks false (Str.mk [])])):Int)) (0:Int)) (c.chunks.length*(8:Nat)<=(140737488355328:Nat))) (1:Int)) (Snap.mk nx c.set c.chunks false (Str.mk []))):=by kernel_rfl
theorem Ay (c:Command) (v:Int) (nx:Int) (kp:Int) (qt:Int) (se:List Sess) (op:List Opn) (sn:List Snap) (h0:nch sn<=1048576) (h1:sn.length<1048576) (h2:op.length<1048576) (h3:0<=nx):Sat Tryz.prog (aj tyT) 145 [.c (.ptr 0 0),.agg (cellsOf (.nm .command) c)] [.box 43 ([.int (v),.int (nx),.int (kp),.int (qt),.own 1,.own 2,.own 3]),.row 82 (.nm .sess) (se),.row 63 (.nm .opn) (op),.row 73 (.nm .snap) (sn)] ⟨[nch sn<=1048576,sn.length<1048576,op.length<1048576,0<=nx],[.agg (cellsOf (.nm .reply) ((aX (State.mk v nx kp qt se op sn) c).2))],some ([.box 43 ([.int ((((aX (State.mk v nx kp qt se op sn) c).1).version)),.int ((((aX (State.mk v nx kp qt se op sn) c).1).next)),.int ((((aX (State.mk v nx kp qt se op sn) c).1).keep)),.int ((((aX (State.mk v nx kp qt se op sn) c).1).quota)),.own 1,.own 2,.own 3]),.row 82 (.nm .sess) ((((aX (State.mk v nx kp qt se op sn) c).1).sess)),.row 63 (.nm .opn) ((((aX (State.mk v nx kp qt se op sn) c).1).opens)),.row 73 (.nm .snap) ((((aX (State.mk v nx kp qt se op sn) c).1).snaps))]),false⟩:=by
 refine db iF [] Tryz.func145 (by decide) (by kernel_rfl) ?_
 rw [An]
 have hl:0<=bT (State.mk v nx kp qt se op sn) c->bT (State.mk v nx kp qt se op sn) c+1<=(op.length:Int):=fun h=>EM h
 (repeat' (first | with_reducible refine And.intro ?_ ?_ | with_reducible refine and_imp.2 ?_ | intro))
 all_goals (first | (first | with_reducible rfl | with_reducible assumption | omega | (refine ah ?_ ?_ <;> omega)) | (simp only [aX,Gt]; grind) | (simp only [List.length_cons,List.length_nil]; omega))
theorem KJ (i:Int) (v:Int) (nx:Int) (kp:Int) (qt:Int) (se:List Sess) (op:List Opn) (sn:List Snap) (r0:Reply) (r1:Int) (r2:Int) (r3:Int) (r4:Int) (r5:List Sess) (r6:List Opn) (r7:List Snap):mK tyT qj [] Tryz.f151 [.c (.int (i)),.c (.ptr 0 0)] [.box 43 ([.int (v),.int (nx),.int (kp),.int (qt),.own 1,.own 2,.own 3]),.row 82 (.nm .sess) (se),.row 63 (.nm .opn) (op),.row 73 (.nm .snap) (sn)] [.agg (cellsOf (.nm .reply) r0)] [.box 43 ([.int (r1),.int (r2),.int (r3),.int (r4),.own 1,.own 2,.own 3]),.row 82 (.nm .sess) (r5),.row 63 (.nm .opn) (r6),.row 73 (.nm .snap) (r7)]=((fun (q0:State × Reply)=>I64 i->((0:Int)<=i/\i<(↑sn.length:Int))/\nch sn<=(1048576:Nat)/\(I64 q0.snd.code->I64 q0.snd.n->q0.snd.code=r0.code/\q0.snd.n=r0.n/\q0.fst.version=r1/\q0.fst.next=r2/\q0.fst.keep=r3/\q0.fst.quota=r4/\q0.fst.sess=r5/\q0.fst.opens=r6/\q0.fst.snaps=r7)) (aQ (State.mk v nx kp qt se op sn) i.toNat)):=by kernel_rfl
theorem MT (i:Int) (v:Int) (nx:Int) (kp:Int) (qt:Int) (se:List Sess) (op:List Opn) (sn:List Snap) (h0:0<=i/\i<(sn.length:Int)) (h1:nch sn<=1048576):Sat Tryz.prog (aj tyT) 151 [.c (.int (i)),.c (.ptr 0 0)] [.box 43 ([.int (v),.int (nx),.int (kp),.int (qt),.own 1,.own 2,.own 3]),.row 82 (.nm .sess) (se),.row 63 (.nm .opn) (op),.row 73 (.nm .snap) (sn)] ⟨[0<=i/\i<(sn.length:Int),nch sn<=1048576],[.agg (cellsOf (.nm .reply) ((aQ (State.mk v nx kp qt se op sn) i.toNat).2))],some ([.box 43 ([.int ((((aQ (State.mk v nx kp qt se op sn) i.toNat).1).version)),.int ((((aQ (State.mk v nx kp qt se op sn) i.toNat).1).next)),.int ((((aQ (State.mk v nx kp qt se op sn) i.toNat).1).keep)),.int ((((aQ (State.mk v nx kp qt se op sn) i.toNat).1).quota)),.own 1,.own 2,.own 3]),.row 82 (.nm .sess) ((((aQ (State.mk v nx kp qt se op sn) i.toNat).1).sess)),.row 63 (.nm .opn) ((((aQ (State.mk v nx kp qt se op sn) i.toNat).1).opens)),.row 73 (.nm .snap) ((((aQ (State.mk v nx kp qt se op sn) i.toNat).1).snaps))]),false⟩:=by
 refine db iF [] Tryz.func151 (by decide) (by kernel_rfl) ?_
 rw [KJ]
 (repeat' (first | with_reducible refine And.intro ?_ ?_ | with_reducible refine and_imp.2 ?_ | intro))
 all_goals (first | (first | with_reducible rfl | with_reducible assumption | omega | (refine ah ?_ ?_ <;> omega)) | exact rfl)
def kV:cj:=(br 151 (bp (ai (kC cI) (ai (kC (bN 0 0)) aK)) (az (bI 43 (aq cI (aq cI (aq cI (aq cI (aq (bf 1) (aq (bf 2) (aq (bf 3) bG)))))))) (az (bd 82 (.nm .sess)) (az (bd 63 (.nm .opn)) (az (bd 73 (.nm .snap)) aJ)))) fun (i,_,_) ((v,nx,kp,qt,_,_,_,_),se,op,sn,_)=>⟨[0<=i/\i<(sn.length:Int),nch sn<=1048576],[.agg (cellsOf (.nm .reply) ((aQ (State.mk v nx kp qt se op sn) i.toNat).2))],some ([.box 43 ([.int ((((aQ (State.mk v nx kp qt se op sn) i.toNat).1).version)),.int ((((aQ (State.mk v nx kp qt se op sn) i.toNat).1).next)),.int ((((aQ (State.mk v nx kp qt se op sn) i.toNat).1).keep)),.int ((((aQ (State.mk v nx kp qt se op sn) i.toNat).1).quota)),.own 1,.own 2,.own 3]),.row 82 (.nm .sess) ((((aQ (State.mk v nx kp qt se op sn) i.toNat).1).sess)),.row 63 (.nm .opn) ((((aQ (State.mk v nx kp qt se op sn) i.toNat).1).opens)),.row 73 (.nm .snap) ((((aQ (State.mk v nx kp qt se op sn) i.toNat).1).snaps))]),false⟩) (br 145 (bp (ai (kC (bN 0 0)) (ai (kT (.nm .command)) aK)) (az (bI 43 (aq cI (aq cI (aq cI (aq cI (aq (bf 1) (aq (bf 2) (aq (bf 3) bG)))))))) (az (bd 82 (.nm .sess)) (az (bd 63 (.nm .opn)) (az (bd 73 (.nm .snap)) aJ)))) fun (_,c,_) ((v,nx,kp,qt,_,_,_,_),se,op,sn,_)=>⟨[nch sn<=1048576,sn.length<1048576,op.length<1048576,0<=nx],[.agg (cellsOf (.nm .reply) ((aX (State.mk v nx kp qt se op sn) c).2))],some ([.box 43 ([.int ((((aX (State.mk v nx kp qt se op sn) c).1).version)),.int ((((aX (State.mk v nx kp qt se op sn) c).1).next)),.int ((((aX (State.mk v nx kp qt se op sn) c).1).keep)),.int ((((aX (State.mk v nx kp qt se op sn) c).1).quota)),.own 1,.own 2,.own 3]),.row 82 (.nm .sess) ((((aX (State.mk v nx kp qt se op sn) c).1).sess)),.row 63 (.nm .opn) ((((aX (State.mk v nx kp qt se op sn) c).1).opens)),.row 73 (.nm .snap) ((((aX (State.mk v nx kp qt se op sn) c).1).snaps))]),false⟩) (br 147 (bp (ai (kC (bN 0 0)) (ai (kT (.nm .command)) aK)) (az (bI 43 (aq cI (aq cI (aq cI (aq cI (aq (bf 1) (aq (bf 2) (aq (bf 3) bG)))))))) (az (bd 82 (.nm .sess)) (az (bd 63 (.nm .opn)) (az (bd 73 (.nm .snap)) aJ)))) fun (_,c,_) ((v,nx,kp,qt,_,_,_,_),se,op,sn,_)=>⟨[op.length<1048576],[.agg (cellsOf (.nm .reply) ((bc (State.mk v nx kp qt se op sn) c).2))],some ([.box 43 ([.int ((((bc (State.mk v nx kp qt se op sn) c).1).version)),.int ((((bc (State.mk v nx kp qt se op sn) c).1).next)),.int ((((bc (State.mk v nx kp qt se op sn) c).1).keep)),.int ((((bc (State.mk v nx kp qt se op sn) c).1).quota)),.own 1,.own 2,.own 3]),.row 82 (.nm .sess) ((((bc (State.mk v nx kp qt se op sn) c).1).sess)),.row 63 (.nm .opn) ((((bc (State.mk v nx kp qt se op sn) c).1).opens)),.row 73 (.nm .snap) ((((bc (State.mk v nx kp qt se op sn) c).1).snaps))]),false⟩) (br 143 (bp (ai (kC (bN 0 0)) (ai (kT (.nm .command)) aK)) (az (bI 43 (aq cI (aq cI (aq cI (aq cI (aq (bf 1) (aq (bf 2) (aq (bf 3) bG)))))))) (az (bd 82 (.nm .sess)) (az (bd 63 (.nm .opn)) (az (bd 73 (.nm .snap)) aJ)))) fun (_,c,_) ((v,nx,kp,qt,_,_,_,_),se,op,sn,_)=>⟨[op.length<1048576],[.agg (cellsOf (.nm .reply) ((ba (State.mk v nx kp qt se op sn) c).2))],some ([.box 43 ([.int ((((ba (State.mk v nx kp qt se op sn) c).1).version)),.int ((((ba (State.mk v nx kp qt se op sn) c).1).next)),.int ((((ba (State.mk v nx kp qt se op sn) c).1).keep)),.int ((((ba (State.mk v nx kp qt se op sn) c).1).quota)),.own 1,.own 2,.own 3]),.row 82 (.nm .sess) ((((ba (State.mk v nx kp qt se op sn) c).1).sess)),.row 63 (.nm .opn) ((((ba (State.mk v nx kp qt se op sn) c).1).opens)),.row 73 (.nm .snap) ((((ba (State.mk v nx kp qt se op sn) c).1).snaps))]),false⟩) qj))))
theorem ey:aN Tryz.prog (aj tyT) kV:=(av (au (ab (ao aw) (ab (ao aI) ak)) (ag (aG (ae aw (ae aw (ae aw (ae aw (ae aD (ae aD (ae aD aF)))))))) (ag aC (ag aC (ag aC al)))) fun (i,_,_) ((v,nx,kp,qt,_,_,_,_),se,op,sn,_) hp=>MT i v nx kp qt se op sn (dC hp) (dC (gE hp))) (av (au (ab (ao aI) (ab bn ak)) (ag (aG (ae aw (ae aw (ae aw (ae aw (ae aD (ae aD (ae aD aF)))))))) (ag aC (ag aC (ag aC al)))) fun (_,c,_) ((v,nx,kp,qt,_,_,_,_),se,op,sn,_) hp=>Ay c v nx kp qt se op sn (dC hp) (dC (gE hp)) (dC (gE (gE hp))) (dC (gE (gE (gE hp))))) (av (au (ab (ao aI) (ab bn ak)) (ag (aG (ae aw (ae aw (ae aw (ae aw (ae aD (ae aD (ae aD aF)))))))) (ag aC (ag aC (ag aC al)))) fun (_,c,_) ((v,nx,kp,qt,_,_,_,_),se,op,sn,_) hp=>Bb c v nx kp qt se op sn (dC hp)) (av (au (ab (ao aI) (ab bn ak)) (ag (aG (ae aw (ae aw (ae aw (ae aw (ae aD (ae aD (ae aD aF)))))))) (ag aC (ag aC (ag aC al)))) fun (_,c,_) ((v,nx,kp,qt,_,_,_,_),se,op,sn,_) hp=>AS c v nx kp qt se op sn (dC hp)) iF))))
end Go.Proofs.YtladifkbefehdaaGreat
namespace Go.Proofs.YtladifkbefehdaaGreat
open Go.RowKit
def aB (f:State->Nat->State × Reply) (c:Command) (s:State):State × Reply:=if ay Snap.id c.id s.snaps<0 then (s,⟨15,0⟩) else f s (ay Snap.id c.id s.snaps).toNat
section
variable {v nx kp qt:Int} {se:List Sess} {op:List Opn} {sn:List Snap} {c:Command} {f:State->Nat->State × Reply}
theorem Ql (h:ay Snap.id c.id sn<0):aB f c (State.mk v nx kp qt se op sn)=(State.mk v nx kp qt se op sn,⟨15,0⟩):=by
 simp only [aB,if_pos h]
theorem Qh (h:0<=ay Snap.id c.id sn):aB f c (State.mk v nx kp qt se op sn)=f (State.mk v nx kp qt se op sn) (ay Snap.id c.id sn).toNat:=by
 have h1:¬ ay Snap.id c.id sn<0:=by omega
 simp only [aB,if_neg h1]
end
theorem KG (v:Int) (nx:Int) (kp:Int) (qt:Int) (se:List Sess) (op:List Opn) (sn:List Snap) (c:Command) (r0:Reply) (r1:Int) (r2:Int) (r3:Int) (r4:Int) (r5:List Sess) (r6:List Opn) (r7:List Snap) (r8:Command):mK tyT kV [] Tryz.f142 [.c (.ptr 0 0),.c (.ptr 4 0)] [.box 43 ([.int (v),.int (nx),.int (kp),.int (qt),.own 1,.own 2,.own 3]),.row 82 (.nm .sess) (se),.row 63 (.nm .opn) (op),.row 73 (.nm .snap) (sn),.box 24 (cellsOf (.nm .command) (c))] [.agg (cellsOf (.nm .reply) r0)] [.box 43 ([.int (r1),.int (r2),.int (r3),.int (r4),.own 1,.own 2,.own 3]),.row 82 (.nm .sess) (r5),.row 63 (.nm .opn) (r6),.row 73 (.nm .snap) (r7),.box 24 (cellsOf (.nm .command) (r8))]=((fun (q0:State × Reply)=>op.length<(1048576:Nat)/\(I64 q0.snd.code->I64 q0.snd.n->q0.snd.code=r0.code/\q0.snd.n=r0.n/\q0.fst.version=r1/\q0.fst.next=r2/\q0.fst.keep=r3/\q0.fst.quota=r4/\q0.fst.sess=r5/\q0.fst.opens=r6/\q0.fst.snaps=r7/\c.kind=r8.kind/\c.client=r8.client/\c.seq=r8.seq/\c.set=r8.set/\c.id=r8.id/\c.n=r8.n/\c.chunks=r8.chunks/\c.text=r8.text)) (ba (State.mk v nx kp qt se op sn) c)):=by kernel_rfl
theorem Kn (v:Int) (nx:Int) (kp:Int) (qt:Int) (se:List Sess) (op:List Opn) (sn:List Snap) (c:Command) (h0:op.length<1048576):Sat Tryz.prog (aj tyT) 142 [.c (.ptr 0 0),.c (.ptr 4 0)] [.box 43 ([.int (v),.int (nx),.int (kp),.int (qt),.own 1,.own 2,.own 3]),.row 82 (.nm .sess) (se),.row 63 (.nm .opn) (op),.row 73 (.nm .snap) (sn),.box 24 (cellsOf (.nm .command) (c))] ⟨[op.length<1048576],[.agg (cellsOf (.nm .reply) ((ba (State.mk v nx kp qt se op sn) c).2))],some ([.box 43 ([.int ((((ba (State.mk v nx kp qt se op sn) c).1).version)),.int ((((ba (State.mk v nx kp qt se op sn) c).1).next)),.int ((((ba (State.mk v nx kp qt se op sn) c).1).keep)),.int ((((ba (State.mk v nx kp qt se op sn) c).1).quota)),.own 1,.own 2,.own 3]),.row 82 (.nm .sess) ((((ba (State.mk v nx kp qt se op sn) c).1).sess)),.row 63 (.nm .opn) ((((ba (State.mk v nx kp qt se op sn) c).1).opens)),.row 73 (.nm .snap) ((((ba (State.mk v nx kp qt se op sn) c).1).snaps)),.box 24 (cellsOf (.nm .command) ((c)))]),false⟩:=by
 refine db ey [] Tryz.func142 (by decide) (by kernel_rfl) ?_
 rw [KG]
 (repeat' (first | with_reducible refine And.intro ?_ ?_ | with_reducible refine and_imp.2 ?_ | intro))
 all_goals (first | (first | with_reducible rfl | with_reducible assumption | omega | (refine ah ?_ ?_ <;> omega)) | exact rfl)
theorem Kv (v:Int) (nx:Int) (kp:Int) (qt:Int) (se:List Sess) (op:List Opn) (sn:List Snap) (c:Command) (r0:Reply) (r1:Int) (r2:Int) (r3:Int) (r4:Int) (r5:List Sess) (r6:List Opn) (r7:List Snap) (r8:Command):mK tyT kV [] Tryz.f144 [.c (.ptr 0 0),.c (.ptr 4 0)] [.box 43 ([.int (v),.int (nx),.int (kp),.int (qt),.own 1,.own 2,.own 3]),.row 82 (.nm .sess) (se),.row 63 (.nm .opn) (op),.row 73 (.nm .snap) (sn),.box 24 (cellsOf (.nm .command) (c))] [.agg (cellsOf (.nm .reply) r0)] [.box 43 ([.int (r1),.int (r2),.int (r3),.int (r4),.own 1,.own 2,.own 3]),.row 82 (.nm .sess) (r5),.row 63 (.nm .opn) (r6),.row 73 (.nm .snap) (r7),.box 24 (cellsOf (.nm .command) (r8))]=((fun (q0:State × Reply)=>nch sn<=(1048576:Nat)/\sn.length<(1048576:Nat)/\op.length<(1048576:Nat)/\(0:Int)<=nx/\(I64 q0.snd.code->I64 q0.snd.n->q0.snd.code=r0.code/\q0.snd.n=r0.n/\q0.fst.version=r1/\q0.fst.next=r2/\q0.fst.keep=r3/\q0.fst.quota=r4/\q0.fst.sess=r5/\q0.fst.opens=r6/\q0.fst.snaps=r7/\c.kind=r8.kind/\c.client=r8.client/\c.seq=r8.seq/\c.set=r8.set/\c.id=r8.id/\c.n=r8.n/\c.chunks=r8.chunks/\c.text=r8.text)) (aX (State.mk v nx kp qt se op sn) c)):=by kernel_rfl
theorem LL (v:Int) (nx:Int) (kp:Int) (qt:Int) (se:List Sess) (op:List Opn) (sn:List Snap) (c:Command) (h0:nch sn<=1048576) (h1:sn.length<1048576) (h2:op.length<1048576) (h3:0<=nx):Sat Tryz.prog (aj tyT) 144 [.c (.ptr 0 0),.c (.ptr 4 0)] [.box 43 ([.int (v),.int (nx),.int (kp),.int (qt),.own 1,.own 2,.own 3]),.row 82 (.nm .sess) (se),.row 63 (.nm .opn) (op),.row 73 (.nm .snap) (sn),.box 24 (cellsOf (.nm .command) (c))] ⟨[nch sn<=1048576,sn.length<1048576,op.length<1048576,0<=nx],[.agg (cellsOf (.nm .reply) ((aX (State.mk v nx kp qt se op sn) c).2))],some ([.box 43 ([.int ((((aX (State.mk v nx kp qt se op sn) c).1).version)),.int ((((aX (State.mk v nx kp qt se op sn) c).1).next)),.int ((((aX (State.mk v nx kp qt se op sn) c).1).keep)),.int ((((aX (State.mk v nx kp qt se op sn) c).1).quota)),.own 1,.own 2,.own 3]),.row 82 (.nm .sess) ((((aX (State.mk v nx kp qt se op sn) c).1).sess)),.row 63 (.nm .opn) ((((aX (State.mk v nx kp qt se op sn) c).1).opens)),.row 73 (.nm .snap) ((((aX (State.mk v nx kp qt se op sn) c).1).snaps)),.box 24 (cellsOf (.nm .command) ((c)))]),false⟩:=by
 refine db ey [] Tryz.func144 (by decide) (by kernel_rfl) ?_
 rw [Kv]
 (repeat' (first | with_reducible refine And.intro ?_ ?_ | with_reducible refine and_imp.2 ?_ | intro))
 all_goals (first | (first | with_reducible rfl | with_reducible assumption | omega | (refine ah ?_ ?_ <;> omega)) | exact rfl)
theorem KS (v:Int) (nx:Int) (kp:Int) (qt:Int) (se:List Sess) (op:List Opn) (sn:List Snap) (c:Command) (r0:Reply) (r1:Int) (r2:Int) (r3:Int) (r4:Int) (r5:List Sess) (r6:List Opn) (r7:List Snap) (r8:Command):mK tyT kV [] Tryz.f146 [.c (.ptr 0 0),.c (.ptr 4 0)] [.box 43 ([.int (v),.int (nx),.int (kp),.int (qt),.own 1,.own 2,.own 3]),.row 82 (.nm .sess) (se),.row 63 (.nm .opn) (op),.row 73 (.nm .snap) (sn),.box 24 (cellsOf (.nm .command) (c))] [.agg (cellsOf (.nm .reply) r0)] [.box 43 ([.int (r1),.int (r2),.int (r3),.int (r4),.own 1,.own 2,.own 3]),.row 82 (.nm .sess) (r5),.row 63 (.nm .opn) (r6),.row 73 (.nm .snap) (r7),.box 24 (cellsOf (.nm .command) (r8))]=((fun (q0:State × Reply)=>op.length<(1048576:Nat)/\(I64 q0.snd.code->I64 q0.snd.n->q0.snd.code=r0.code/\q0.snd.n=r0.n/\q0.fst.version=r1/\q0.fst.next=r2/\q0.fst.keep=r3/\q0.fst.quota=r4/\q0.fst.sess=r5/\q0.fst.opens=r6/\q0.fst.snaps=r7/\c.kind=r8.kind/\c.client=r8.client/\c.seq=r8.seq/\c.set=r8.set/\c.id=r8.id/\c.n=r8.n/\c.chunks=r8.chunks/\c.text=r8.text)) (bc (State.mk v nx kp qt se op sn) c)):=by kernel_rfl
theorem MU (v:Int) (nx:Int) (kp:Int) (qt:Int) (se:List Sess) (op:List Opn) (sn:List Snap) (c:Command) (h0:op.length<1048576):Sat Tryz.prog (aj tyT) 146 [.c (.ptr 0 0),.c (.ptr 4 0)] [.box 43 ([.int (v),.int (nx),.int (kp),.int (qt),.own 1,.own 2,.own 3]),.row 82 (.nm .sess) (se),.row 63 (.nm .opn) (op),.row 73 (.nm .snap) (sn),.box 24 (cellsOf (.nm .command) (c))] ⟨[op.length<1048576],[.agg (cellsOf (.nm .reply) ((bc (State.mk v nx kp qt se op sn) c).2))],some ([.box 43 ([.int ((((bc (State.mk v nx kp qt se op sn) c).1).version)),.int ((((bc (State.mk v nx kp qt se op sn) c).1).next)),.int ((((bc (State.mk v nx kp qt se op sn) c).1).keep)),.int ((((bc (State.mk v nx kp qt se op sn) c).1).quota)),.own 1,.own 2,.own 3]),.row 82 (.nm .sess) ((((bc (State.mk v nx kp qt se op sn) c).1).sess)),.row 63 (.nm .opn) ((((bc (State.mk v nx kp qt se op sn) c).1).opens)),.row 73 (.nm .snap) ((((bc (State.mk v nx kp qt se op sn) c).1).snaps)),.box 24 (cellsOf (.nm .command) ((c)))]),false⟩:=by
 refine db ey [] Tryz.func146 (by decide) (by kernel_rfl) ?_
 rw [KS]
 (repeat' (first | with_reducible refine And.intro ?_ ?_ | with_reducible refine and_imp.2 ?_ | intro))
 all_goals (first | (first | with_reducible rfl | with_reducible assumption | omega | (refine ah ?_ ?_ <;> omega)) | exact rfl)
theorem rv (v:Int) (nx:Int) (kp:Int) (qt:Int) (se:List Sess) (op:List Opn) (sn:List Snap) (c:Command) (r0:Int) (r1:Int) (r2:Int) (r3:Int) (r4:List Sess) (r5:List Opn) (r6:List Snap) (r7:Command):po tyT kV [] Tryz.f137 [.c (.fn 151 [] [(0,0)]),.c (.ptr 0 0),.c (.ptr 4 0)] [.box 43 ([.int (v),.int (nx),.int (kp),.int (qt),.own 1,.own 2,.own 3]),.row 82 (.nm .sess) (se),.row 63 (.nm .opn) (op),.row 73 (.nm .snap) (sn),.box 24 (cellsOf (.nm .command) (c))] [.c (.fn 138 [] [(0,0),(4,0),(5,0)])] [.box 43 ([.int (r0),.int (r1),.int (r2),.int (r3),.own 1,.own 2,.own 3]),.row 82 (.nm .sess) (r4),.row 63 (.nm .opn) (r5),.row 73 (.nm .snap) (r6),.box 24 (cellsOf (.nm .command) (r7)),.box 168 ([.fn 151 [] [(0,0)]])]=(v=r0/\nx=r1/\kp=r2/\qt=r3/\se=r4/\op=r5/\sn=r6/\c.kind=r7.kind/\c.client=r7.client/\c.seq=r7.seq/\c.set=r7.set/\c.id=r7.id/\c.n=r7.n/\c.chunks=r7.chunks/\c.text=r7.text):=by kernel_rfl
theorem qD (v:Int) (nx:Int) (kp:Int) (qt:Int) (se:List Sess) (op:List Opn) (sn:List Snap) (c:Command):Sat Tryz.prog (aj tyT) 137 [.c (.fn 151 [] [(0,0)]),.c (.ptr 0 0),.c (.ptr 4 0)] [.box 43 ([.int (v),.int (nx),.int (kp),.int (qt),.own 1,.own 2,.own 3]),.row 82 (.nm .sess) (se),.row 63 (.nm .opn) (op),.row 73 (.nm .snap) (sn),.box 24 (cellsOf (.nm .command) (c))] ⟨[],[.c (.fn 138 [] [(0,0),(4,0),(5,0)])],some ([.box 43 ([.int ((v)),.int ((nx)),.int ((kp)),.int ((qt)),.own 1,.own 2,.own 3]),.row 82 (.nm .sess) ((se)),.row 63 (.nm .opn) ((op)),.row 73 (.nm .snap) ((sn)),.box 24 (cellsOf (.nm .command) ((c))),.box 168 ([.fn 151 [] [(0,0)]])]),true⟩:=by
 refine dQ ey [] Tryz.func137 (by decide) (by kernel_rfl) ?_
 rw [rv]
 (repeat' (first | with_reducible refine And.intro ?_ ?_ | with_reducible refine and_imp.2 ?_ | intro))
 all_goals (first | (first | with_reducible rfl | with_reducible assumption | omega | (refine ah ?_ ?_ <;> omega)) | exact rfl)
theorem uF (v:Int) (nx:Int) (kp:Int) (qt:Int) (se:List Sess) (op:List Opn) (sn:List Snap) (c:Command) (r0:Int) (r1:Int) (r2:Int) (r3:Int) (r4:List Sess) (r5:List Opn) (r6:List Snap) (r7:Command):po tyT kV [] Tryz.f137 [.c (.fn 153 [] [(0,0)]),.c (.ptr 0 0),.c (.ptr 4 0)] [.box 43 ([.int (v),.int (nx),.int (kp),.int (qt),.own 1,.own 2,.own 3]),.row 82 (.nm .sess) (se),.row 63 (.nm .opn) (op),.row 73 (.nm .snap) (sn),.box 24 (cellsOf (.nm .command) (c))] [.c (.fn 138 [] [(0,0),(4,0),(5,0)])] [.box 43 ([.int (r0),.int (r1),.int (r2),.int (r3),.own 1,.own 2,.own 3]),.row 82 (.nm .sess) (r4),.row 63 (.nm .opn) (r5),.row 73 (.nm .snap) (r6),.box 24 (cellsOf (.nm .command) (r7)),.box 168 ([.fn 153 [] [(0,0)]])]=(v=r0/\nx=r1/\kp=r2/\qt=r3/\se=r4/\op=r5/\sn=r6/\c.kind=r7.kind/\c.client=r7.client/\c.seq=r7.seq/\c.set=r7.set/\c.id=r7.id/\c.n=r7.n/\c.chunks=r7.chunks/\c.text=r7.text):=by kernel_rfl
theorem sD (v:Int) (nx:Int) (kp:Int) (qt:Int) (se:List Sess) (op:List Opn) (sn:List Snap) (c:Command):Sat Tryz.prog (aj tyT) 137 [.c (.fn 153 [] [(0,0)]),.c (.ptr 0 0),.c (.ptr 4 0)] [.box 43 ([.int (v),.int (nx),.int (kp),.int (qt),.own 1,.own 2,.own 3]),.row 82 (.nm .sess) (se),.row 63 (.nm .opn) (op),.row 73 (.nm .snap) (sn),.box 24 (cellsOf (.nm .command) (c))] ⟨[],[.c (.fn 138 [] [(0,0),(4,0),(5,0)])],some ([.box 43 ([.int ((v)),.int ((nx)),.int ((kp)),.int ((qt)),.own 1,.own 2,.own 3]),.row 82 (.nm .sess) ((se)),.row 63 (.nm .opn) ((op)),.row 73 (.nm .snap) ((sn)),.box 24 (cellsOf (.nm .command) ((c))),.box 168 ([.fn 153 [] [(0,0)]])]),true⟩:=by
 refine dQ ey [] Tryz.func137 (by decide) (by kernel_rfl) ?_
 rw [uF]
 (repeat' (first | with_reducible refine And.intro ?_ ?_ | with_reducible refine and_imp.2 ?_ | intro))
 all_goals (first | (first | with_reducible rfl | with_reducible assumption | omega | (refine ah ?_ ?_ <;> omega)) | exact rfl)
theorem wi (c:Command) (v:Int) (nx:Int) (kp:Int) (qt:Int) (se:List Sess) (op:List Opn) (sn:List Snap) (r0:Command) (r1:Int) (r2:Int) (r3:Int) (r4:Int) (r5:List Sess) (r6:List Opn) (r7:List Snap):po tyT kV [] Tryz.f137 [.c (.fn 154 [] [(0,0),(1,0)]),.c (.ptr 1 0),.c (.ptr 0 0)] [.box 24 (cellsOf (.nm .command) (c)),.box 43 ([.int (v),.int (nx),.int (kp),.int (qt),.own 2,.own 3,.own 4]),.row 82 (.nm .sess) (se),.row 63 (.nm .opn) (op),.row 73 (.nm .snap) (sn)] [.c (.fn 138 [] [(1,0),(0,0),(5,0)])] [.box 24 (cellsOf (.nm .command) (r0)),.box 43 ([.int (r1),.int (r2),.int (r3),.int (r4),.own 2,.own 3,.own 4]),.row 82 (.nm .sess) (r5),.row 63 (.nm .opn) (r6),.row 73 (.nm .snap) (r7),.box 168 ([.fn 154 [] [(0,0),(1,0)]])]=(c.kind=r0.kind/\c.client=r0.client/\c.seq=r0.seq/\c.set=r0.set/\c.id=r0.id/\c.n=r0.n/\c.chunks=r0.chunks/\c.text=r0.text/\v=r1/\nx=r2/\kp=r3/\qt=r4/\se=r5/\op=r6/\sn=r7):=by kernel_rfl
theorem vT (c:Command) (v:Int) (nx:Int) (kp:Int) (qt:Int) (se:List Sess) (op:List Opn) (sn:List Snap):Sat Tryz.prog (aj tyT) 137 [.c (.fn 154 [] [(0,0),(1,0)]),.c (.ptr 1 0),.c (.ptr 0 0)] [.box 24 (cellsOf (.nm .command) (c)),.box 43 ([.int (v),.int (nx),.int (kp),.int (qt),.own 2,.own 3,.own 4]),.row 82 (.nm .sess) (se),.row 63 (.nm .opn) (op),.row 73 (.nm .snap) (sn)] ⟨[],[.c (.fn 138 [] [(1,0),(0,0),(5,0)])],some ([.box 24 (cellsOf (.nm .command) ((c))),.box 43 ([.int ((v)),.int ((nx)),.int ((kp)),.int ((qt)),.own 2,.own 3,.own 4]),.row 82 (.nm .sess) ((se)),.row 63 (.nm .opn) ((op)),.row 73 (.nm .snap) ((sn)),.box 168 ([.fn 154 [] [(0,0),(1,0)]])]),true⟩:=by
 refine dQ ey [] Tryz.func137 (by decide) (by kernel_rfl) ?_
 rw [wi]
 (repeat' (first | with_reducible refine And.intro ?_ ?_ | with_reducible refine and_imp.2 ?_ | intro))
 all_goals (first | (first | with_reducible rfl | with_reducible assumption | omega | (refine ah ?_ ?_ <;> omega)) | exact rfl)
theorem ug (v:Int) (nx:Int) (kp:Int) (qt:Int) (se:List Sess) (op:List Opn) (sn:List Snap) (b:Bool) (c:Command) (r0:Int) (r1:Int) (r2:Int) (r3:Int) (r4:List Sess) (r5:List Opn) (r6:List Snap) (r7:Bool) (r8:Command):po tyT kV [] Tryz.f137 [.c (.fn 141 [] [(0,0),(4,0)]),.c (.ptr 0 0),.c (.ptr 5 0)] [.box 43 ([.int (v),.int (nx),.int (kp),.int (qt),.own 1,.own 2,.own 3]),.row 82 (.nm .sess) (se),.row 63 (.nm .opn) (op),.row 73 (.nm .snap) (sn),.box 4 ([.bool (.atom (b))]),.box 24 (cellsOf (.nm .command) (c))] [.c (.fn 138 [] [(0,0),(5,0),(6,0)])] [.box 43 ([.int (r0),.int (r1),.int (r2),.int (r3),.own 1,.own 2,.own 3]),.row 82 (.nm .sess) (r4),.row 63 (.nm .opn) (r5),.row 73 (.nm .snap) (r6),.box 4 ([.bool (.atom (r7))]),.box 24 (cellsOf (.nm .command) (r8)),.box 168 ([.fn 141 [] [(0,0),(4,0)]])]=(v=r0/\nx=r1/\kp=r2/\qt=r3/\se=r4/\op=r5/\sn=r6/\b=r7/\c.kind=r8.kind/\c.client=r8.client/\c.seq=r8.seq/\c.set=r8.set/\c.id=r8.id/\c.n=r8.n/\c.chunks=r8.chunks/\c.text=r8.text):=by kernel_rfl
theorem uQ (v:Int) (nx:Int) (kp:Int) (qt:Int) (se:List Sess) (op:List Opn) (sn:List Snap) (b:Bool) (c:Command):Sat Tryz.prog (aj tyT) 137 [.c (.fn 141 [] [(0,0),(4,0)]),.c (.ptr 0 0),.c (.ptr 5 0)] [.box 43 ([.int (v),.int (nx),.int (kp),.int (qt),.own 1,.own 2,.own 3]),.row 82 (.nm .sess) (se),.row 63 (.nm .opn) (op),.row 73 (.nm .snap) (sn),.box 4 ([.bool (.atom (b))]),.box 24 (cellsOf (.nm .command) (c))] ⟨[],[.c (.fn 138 [] [(0,0),(5,0),(6,0)])],some ([.box 43 ([.int ((v)),.int ((nx)),.int ((kp)),.int ((qt)),.own 1,.own 2,.own 3]),.row 82 (.nm .sess) ((se)),.row 63 (.nm .opn) ((op)),.row 73 (.nm .snap) ((sn)),.box 4 ([.bool (.atom ((b)))]),.box 24 (cellsOf (.nm .command) ((c))),.box 168 ([.fn 141 [] [(0,0),(4,0)]])]),true⟩:=by
 refine dQ ey [] Tryz.func137 (by decide) (by kernel_rfl) ?_
 rw [ug]
 (repeat' (first | with_reducible refine And.intro ?_ ?_ | with_reducible refine and_imp.2 ?_ | intro))
 all_goals (first | (first | with_reducible rfl | with_reducible assumption | omega | (refine ah ?_ ?_ <;> omega)) | exact rfl)
def ou:cj:=(br 137 (bp (ai (kC (pd 141 [] [(0,0),(4,0)])) (ai (kC (bN 0 0)) (ai (kC (bN 5 0)) aK))) (az (bI 43 (aq cI (aq cI (aq cI (aq cI (aq (bf 1) (aq (bf 2) (aq (bf 3) bG)))))))) (az (bd 82 (.nm .sess)) (az (bd 63 (.nm .opn)) (az (bd 73 (.nm .snap)) (az (bI 4 (aq cB bG)) (az (bI 24 (sj (.nm .command) bG)) aJ)))))) fun (_,_,_,_) ((v,nx,kp,qt,_,_,_,_),se,op,sn,(b,_),(c,_),_)=>⟨[],[.c (.fn 138 [] [(0,0),(5,0),(6,0)])],some ([.box 43 ([.int ((v)),.int ((nx)),.int ((kp)),.int ((qt)),.own 1,.own 2,.own 3]),.row 82 (.nm .sess) ((se)),.row 63 (.nm .opn) ((op)),.row 73 (.nm .snap) ((sn)),.box 4 ([.bool (.atom ((b)))]),.box 24 (cellsOf (.nm .command) ((c))),.box 168 ([.fn 141 [] [(0,0),(4,0)]])]),true⟩) (br 137 (bp (ai (kC (pd 154 [] [(0,0),(1,0)])) (ai (kC (bN 1 0)) (ai (kC (bN 0 0)) aK))) (az (bI 24 (sj (.nm .command) bG)) (az (bI 43 (aq cI (aq cI (aq cI (aq cI (aq (bf 2) (aq (bf 3) (aq (bf 4) bG)))))))) (az (bd 82 (.nm .sess)) (az (bd 63 (.nm .opn)) (az (bd 73 (.nm .snap)) aJ))))) fun (_,_,_,_) ((c,_),(v,nx,kp,qt,_,_,_,_),se,op,sn,_)=>⟨[],[.c (.fn 138 [] [(1,0),(0,0),(5,0)])],some ([.box 24 (cellsOf (.nm .command) ((c))),.box 43 ([.int ((v)),.int ((nx)),.int ((kp)),.int ((qt)),.own 2,.own 3,.own 4]),.row 82 (.nm .sess) ((se)),.row 63 (.nm .opn) ((op)),.row 73 (.nm .snap) ((sn)),.box 168 ([.fn 154 [] [(0,0),(1,0)]])]),true⟩) (br 137 (bp (ai (kC (pd 153 [] [(0,0)])) (ai (kC (bN 0 0)) (ai (kC (bN 4 0)) aK))) (az (bI 43 (aq cI (aq cI (aq cI (aq cI (aq (bf 1) (aq (bf 2) (aq (bf 3) bG)))))))) (az (bd 82 (.nm .sess)) (az (bd 63 (.nm .opn)) (az (bd 73 (.nm .snap)) (az (bI 24 (sj (.nm .command) bG)) aJ))))) fun (_,_,_,_) ((v,nx,kp,qt,_,_,_,_),se,op,sn,(c,_),_)=>⟨[],[.c (.fn 138 [] [(0,0),(4,0),(5,0)])],some ([.box 43 ([.int ((v)),.int ((nx)),.int ((kp)),.int ((qt)),.own 1,.own 2,.own 3]),.row 82 (.nm .sess) ((se)),.row 63 (.nm .opn) ((op)),.row 73 (.nm .snap) ((sn)),.box 24 (cellsOf (.nm .command) ((c))),.box 168 ([.fn 153 [] [(0,0)]])]),true⟩) (br 137 (bp (ai (kC (pd 151 [] [(0,0)])) (ai (kC (bN 0 0)) (ai (kC (bN 4 0)) aK))) (az (bI 43 (aq cI (aq cI (aq cI (aq cI (aq (bf 1) (aq (bf 2) (aq (bf 3) bG)))))))) (az (bd 82 (.nm .sess)) (az (bd 63 (.nm .opn)) (az (bd 73 (.nm .snap)) (az (bI 24 (sj (.nm .command) bG)) aJ))))) fun (_,_,_,_) ((v,nx,kp,qt,_,_,_,_),se,op,sn,(c,_),_)=>⟨[],[.c (.fn 138 [] [(0,0),(4,0),(5,0)])],some ([.box 43 ([.int ((v)),.int ((nx)),.int ((kp)),.int ((qt)),.own 1,.own 2,.own 3]),.row 82 (.nm .sess) ((se)),.row 63 (.nm .opn) ((op)),.row 73 (.nm .snap) ((sn)),.box 24 (cellsOf (.nm .command) ((c))),.box 168 ([.fn 151 [] [(0,0)]])]),true⟩) (br 146 (bp (ai (kC (bN 0 0)) (ai (kC (bN 4 0)) aK)) (az (bI 43 (aq cI (aq cI (aq cI (aq cI (aq (bf 1) (aq (bf 2) (aq (bf 3) bG)))))))) (az (bd 82 (.nm .sess)) (az (bd 63 (.nm .opn)) (az (bd 73 (.nm .snap)) (az (bI 24 (sj (.nm .command) bG)) aJ))))) fun (_,_,_) ((v,nx,kp,qt,_,_,_,_),se,op,sn,(c,_),_)=>⟨[op.length<1048576],[.agg (cellsOf (.nm .reply) ((bc (State.mk v nx kp qt se op sn) c).2))],some ([.box 43 ([.int ((((bc (State.mk v nx kp qt se op sn) c).1).version)),.int ((((bc (State.mk v nx kp qt se op sn) c).1).next)),.int ((((bc (State.mk v nx kp qt se op sn) c).1).keep)),.int ((((bc (State.mk v nx kp qt se op sn) c).1).quota)),.own 1,.own 2,.own 3]),.row 82 (.nm .sess) ((((bc (State.mk v nx kp qt se op sn) c).1).sess)),.row 63 (.nm .opn) ((((bc (State.mk v nx kp qt se op sn) c).1).opens)),.row 73 (.nm .snap) ((((bc (State.mk v nx kp qt se op sn) c).1).snaps)),.box 24 (cellsOf (.nm .command) ((c)))]),false⟩) (br 144 (bp (ai (kC (bN 0 0)) (ai (kC (bN 4 0)) aK)) (az (bI 43 (aq cI (aq cI (aq cI (aq cI (aq (bf 1) (aq (bf 2) (aq (bf 3) bG)))))))) (az (bd 82 (.nm .sess)) (az (bd 63 (.nm .opn)) (az (bd 73 (.nm .snap)) (az (bI 24 (sj (.nm .command) bG)) aJ))))) fun (_,_,_) ((v,nx,kp,qt,_,_,_,_),se,op,sn,(c,_),_)=>⟨[nch sn<=1048576,sn.length<1048576,op.length<1048576,0<=nx],[.agg (cellsOf (.nm .reply) ((aX (State.mk v nx kp qt se op sn) c).2))],some ([.box 43 ([.int ((((aX (State.mk v nx kp qt se op sn) c).1).version)),.int ((((aX (State.mk v nx kp qt se op sn) c).1).next)),.int ((((aX (State.mk v nx kp qt se op sn) c).1).keep)),.int ((((aX (State.mk v nx kp qt se op sn) c).1).quota)),.own 1,.own 2,.own 3]),.row 82 (.nm .sess) ((((aX (State.mk v nx kp qt se op sn) c).1).sess)),.row 63 (.nm .opn) ((((aX (State.mk v nx kp qt se op sn) c).1).opens)),.row 73 (.nm .snap) ((((aX (State.mk v nx kp qt se op sn) c).1).snaps)),.box 24 (cellsOf (.nm .command) ((c)))]),false⟩) (br 142 (bp (ai (kC (bN 0 0)) (ai (kC (bN 4 0)) aK)) (az (bI 43 (aq cI (aq cI (aq cI (aq cI (aq (bf 1) (aq (bf 2) (aq (bf 3) bG)))))))) (az (bd 82 (.nm .sess)) (az (bd 63 (.nm .opn)) (az (bd 73 (.nm .snap)) (az (bI 24 (sj (.nm .command) bG)) aJ))))) fun (_,_,_) ((v,nx,kp,qt,_,_,_,_),se,op,sn,(c,_),_)=>⟨[op.length<1048576],[.agg (cellsOf (.nm .reply) ((ba (State.mk v nx kp qt se op sn) c).2))],some ([.box 43 ([.int ((((ba (State.mk v nx kp qt se op sn) c).1).version)),.int ((((ba (State.mk v nx kp qt se op sn) c).1).next)),.int ((((ba (State.mk v nx kp qt se op sn) c).1).keep)),.int ((((ba (State.mk v nx kp qt se op sn) c).1).quota)),.own 1,.own 2,.own 3]),.row 82 (.nm .sess) ((((ba (State.mk v nx kp qt se op sn) c).1).sess)),.row 63 (.nm .opn) ((((ba (State.mk v nx kp qt se op sn) c).1).opens)),.row 73 (.nm .snap) ((((ba (State.mk v nx kp qt se op sn) c).1).snaps)),.box 24 (cellsOf (.nm .command) ((c)))]),false⟩) kV)))))))
theorem fS:aN Tryz.prog (aj tyT) ou:=(av (au (ab (ao cM) (ab (ao aI) (ab (ao aI) ak))) (ag (aG (ae aw (ae aw (ae aw (ae aw (ae aD (ae aD (ae aD aF)))))))) (ag aC (ag aC (ag aC (ag (aG (ae uK aF)) (ag (aG (dt aF)) al)))))) fun (_,_,_,_) ((v,nx,kp,qt,_,_,_,_),se,op,sn,(b,_),(c,_),_) _=>uQ v nx kp qt se op sn b c ) (av (au (ab (ao cM) (ab (ao aI) (ab (ao aI) ak))) (ag (aG (dt aF)) (ag (aG (ae aw (ae aw (ae aw (ae aw (ae aD (ae aD (ae aD aF)))))))) (ag aC (ag aC (ag aC al))))) fun (_,_,_,_) ((c,_),(v,nx,kp,qt,_,_,_,_),se,op,sn,_) _=>vT c v nx kp qt se op sn ) (av (au (ab (ao cM) (ab (ao aI) (ab (ao aI) ak))) (ag (aG (ae aw (ae aw (ae aw (ae aw (ae aD (ae aD (ae aD aF)))))))) (ag aC (ag aC (ag aC (ag (aG (dt aF)) al))))) fun (_,_,_,_) ((v,nx,kp,qt,_,_,_,_),se,op,sn,(c,_),_) _=>sD v nx kp qt se op sn c ) (av (au (ab (ao cM) (ab (ao aI) (ab (ao aI) ak))) (ag (aG (ae aw (ae aw (ae aw (ae aw (ae aD (ae aD (ae aD aF)))))))) (ag aC (ag aC (ag aC (ag (aG (dt aF)) al))))) fun (_,_,_,_) ((v,nx,kp,qt,_,_,_,_),se,op,sn,(c,_),_) _=>qD v nx kp qt se op sn c ) (av (au (ab (ao aI) (ab (ao aI) ak)) (ag (aG (ae aw (ae aw (ae aw (ae aw (ae aD (ae aD (ae aD aF)))))))) (ag aC (ag aC (ag aC (ag (aG (dt aF)) al))))) fun (_,_,_) ((v,nx,kp,qt,_,_,_,_),se,op,sn,(c,_),_) hp=>MU v nx kp qt se op sn c (dC hp)) (av (au (ab (ao aI) (ab (ao aI) ak)) (ag (aG (ae aw (ae aw (ae aw (ae aw (ae aD (ae aD (ae aD aF)))))))) (ag aC (ag aC (ag aC (ag (aG (dt aF)) al))))) fun (_,_,_) ((v,nx,kp,qt,_,_,_,_),se,op,sn,(c,_),_) hp=>LL v nx kp qt se op sn c (dC hp) (dC (gE hp)) (dC (gE (gE hp))) (dC (gE (gE (gE hp))))) (av (au (ab (ao aI) (ab (ao aI) ak)) (ag (aG (ae aw (ae aw (ae aw (ae aw (ae aD (ae aD (ae aD aF)))))))) (ag aC (ag aC (ag aC (ag (aG (dt aF)) al))))) fun (_,_,_) ((v,nx,kp,qt,_,_,_,_),se,op,sn,(c,_),_) hp=>Kn v nx kp qt se op sn c (dC hp)) ey)))))))
end Go.Proofs.YtladifkbefehdaaGreat
namespace Go.Proofs.YtladifkbefehdaaGreat
open Go.RowKit
theorem LJ (b:Bool) (v:Int) (nx:Int) (kp:Int) (qt:Int) (se:List Sess) (op:List Opn) (sn:List Snap) (c:Command) (r0:Int) (r1:Int) (r2:Int) (r3:Int) (r4:List Sess) (r5:List Opn) (r6:List Snap) (r7:Command) (r8:Bool):po tyT ou [] Tryz.f140 [.c (.bool (.atom (b))),.c (.ptr 0 0),.c (.ptr 1 0)] [.box 170 ([.fn 137 [] [(1,0),(5,0)]]),.box 43 ([.int (v),.int (nx),.int (kp),.int (qt),.own 2,.own 3,.own 4]),.row 82 (.nm .sess) (se),.row 63 (.nm .opn) (op),.row 73 (.nm .snap) (sn),.box 24 (cellsOf (.nm .command) (c))] [.c (.fn 138 [] [(1,0),(5,0),(7,0)])] [.box 170 ([.fn 137 [] [(1,0),(5,0)]]),.box 43 ([.int (r0),.int (r1),.int (r2),.int (r3),.own 2,.own 3,.own 4]),.row 82 (.nm .sess) (r4),.row 63 (.nm .opn) (r5),.row 73 (.nm .snap) (r6),.box 24 (cellsOf (.nm .command) (r7)),.box 4 ([.bool (.atom (r8))]),.box 168 ([.fn 141 [] [(1,0),(6,0)]])]=(v=r0/\nx=r1/\kp=r2/\qt=r3/\se=r4/\op=r5/\sn=r6/\c.kind=r7.kind/\c.client=r7.client/\c.seq=r7.seq/\c.set=r7.set/\c.id=r7.id/\c.n=r7.n/\c.chunks=r7.chunks/\c.text=r7.text/\b=r8):=by kernel_rfl
theorem MZ (b:Bool) (v:Int) (nx:Int) (kp:Int) (qt:Int) (se:List Sess) (op:List Opn) (sn:List Snap) (c:Command):Sat Tryz.prog (aj tyT) 140 [.c (.bool (.atom (b))),.c (.ptr 0 0),.c (.ptr 1 0)] [.box 170 ([.fn 137 [] [(1,0),(5,0)]]),.box 43 ([.int (v),.int (nx),.int (kp),.int (qt),.own 2,.own 3,.own 4]),.row 82 (.nm .sess) (se),.row 63 (.nm .opn) (op),.row 73 (.nm .snap) (sn),.box 24 (cellsOf (.nm .command) (c))] ⟨[],[.c (.fn 138 [] [(1,0),(5,0),(7,0)])],some ([.box 170 ([.fn 137 [] [(1,0),(5,0)]]),.box 43 ([.int ((v)),.int ((nx)),.int ((kp)),.int ((qt)),.own 2,.own 3,.own 4]),.row 82 (.nm .sess) ((se)),.row 63 (.nm .opn) ((op)),.row 73 (.nm .snap) ((sn)),.box 24 (cellsOf (.nm .command) ((c))),.box 4 ([.bool (.atom ((b)))]),.box 168 ([.fn 141 [] [(1,0),(6,0)]])]),true⟩:=by
 refine dQ fS [] Tryz.func140 (by decide) (by kernel_rfl) ?_
 rw [LJ]
 (repeat' (first | with_reducible refine And.intro ?_ ?_ | with_reducible refine and_imp.2 ?_ | intro))
 all_goals (first | (first | with_reducible rfl | with_reducible assumption | omega | (refine ah ?_ ?_ <;> omega)) | exact rfl)
theorem wW (v:Int) (nx:Int) (kp:Int) (qt:Int) (se:List Sess) (op:List Opn) (sn:List Snap) (c:Command) (r0:Reply) (r1:Int) (r2:Int) (r3:Int) (r4:Int) (r5:List Sess) (r6:List Opn) (r7:List Snap) (r8:Command):mK tyT ou [] Tryz.f138 [.c (.ptr 0 0),.c (.ptr 4 0),.c (.ptr 5 0)] [.box 43 ([.int (v),.int (nx),.int (kp),.int (qt),.own 1,.own 2,.own 3]),.row 82 (.nm .sess) (se),.row 63 (.nm .opn) (op),.row 73 (.nm .snap) (sn),.box 24 (cellsOf (.nm .command) (c)),.box 168 ([.fn 151 [] [(0,0)]])] [.agg (cellsOf (.nm .reply) r0)] [.box 43 ([.int (r1),.int (r2),.int (r3),.int (r4),.own 1,.own 2,.own 3]),.row 82 (.nm .sess) (r5),.row 63 (.nm .opn) (r6),.row 73 (.nm .snap) (r7),.box 24 (cellsOf (.nm .command) (r8)),.box 168 ([.fn 151 [] [(0,0)]])]=((fun (q2:Int)=>(fun (q1:Prop)=>(fun (q0:State × Reply)=>I64 q2->(q2<(0:Int)->I64 (15:Int)->I64 (0:Int)->(15:Int)=r0.code/\(0:Int)=r0.n/\v=r1/\nx=r2/\kp=r3/\qt=r4/\se=r5/\op=r6/\sn=r7/\q1)/\((0:Int)<=q2->((0:Int)<=q2/\q2<(↑sn.length:Int))/\nch sn<=(1048576:Nat)/\(I64 q0.snd.code->I64 q0.snd.n->q0.snd.code=r0.code/\q0.snd.n=r0.n/\q0.fst.version=r1/\q0.fst.next=r2/\q0.fst.keep=r3/\q0.fst.quota=r4/\q0.fst.sess=r5/\q0.fst.opens=r6/\q0.fst.snaps=r7/\q1))) (aQ (State.mk v nx kp qt se op sn) q2.toNat)) (c.kind=r8.kind/\c.client=r8.client/\c.seq=r8.seq/\c.set=r8.set/\c.id=r8.id/\c.n=r8.n/\c.chunks=r8.chunks/\c.text=r8.text)) (ay Snap.id c.id sn)):=by kernel_rfl
theorem wG (v:Int) (nx:Int) (kp:Int) (qt:Int) (se:List Sess) (op:List Opn) (sn:List Snap) (c:Command) (h0:nch sn<=1048576):Sat Tryz.prog (aj tyT) 138 [.c (.ptr 0 0),.c (.ptr 4 0),.c (.ptr 5 0)] [.box 43 ([.int (v),.int (nx),.int (kp),.int (qt),.own 1,.own 2,.own 3]),.row 82 (.nm .sess) (se),.row 63 (.nm .opn) (op),.row 73 (.nm .snap) (sn),.box 24 (cellsOf (.nm .command) (c)),.box 168 ([.fn 151 [] [(0,0)]])] ⟨[nch sn<=1048576],[.agg (cellsOf (.nm .reply) ((aB aQ c (State.mk v nx kp qt se op sn)).2))],some ([.box 43 ([.int ((((aB aQ c (State.mk v nx kp qt se op sn)).1).version)),.int ((((aB aQ c (State.mk v nx kp qt se op sn)).1).next)),.int ((((aB aQ c (State.mk v nx kp qt se op sn)).1).keep)),.int ((((aB aQ c (State.mk v nx kp qt se op sn)).1).quota)),.own 1,.own 2,.own 3]),.row 82 (.nm .sess) ((((aB aQ c (State.mk v nx kp qt se op sn)).1).sess)),.row 63 (.nm .opn) ((((aB aQ c (State.mk v nx kp qt se op sn)).1).opens)),.row 73 (.nm .snap) ((((aB aQ c (State.mk v nx kp qt se op sn)).1).snaps)),.box 24 (cellsOf (.nm .command) ((c))),.box 168 ([.fn 151 [] [(0,0)]])]),false⟩:=by
 refine db fS [] Tryz.func138 (by decide) (by kernel_rfl) ?_
 rw [wW]
 (repeat' (first | with_reducible refine And.intro ?_ ?_ | with_reducible refine and_imp.2 ?_ | intro))
 all_goals (first | (first | with_reducible rfl | with_reducible assumption | omega | (refine ah ?_ ?_ <;> omega)) | exact cw (by with_reducible assumption) | (rw [Ql] <;> first | rfl | omega) | (rw [Qh] <;> first | rfl | omega))
theorem yT (v:Int) (nx:Int) (kp:Int) (qt:Int) (se:List Sess) (op:List Opn) (sn:List Snap) (c:Command) (r0:Reply) (r1:Int) (r2:Int) (r3:Int) (r4:Int) (r5:List Sess) (r6:List Opn) (r7:List Snap) (r8:Command):mK tyT ou [] Tryz.f138 [.c (.ptr 0 0),.c (.ptr 4 0),.c (.ptr 5 0)] [.box 43 ([.int (v),.int (nx),.int (kp),.int (qt),.own 1,.own 2,.own 3]),.row 82 (.nm .sess) (se),.row 63 (.nm .opn) (op),.row 73 (.nm .snap) (sn),.box 24 (cellsOf (.nm .command) (c)),.box 168 ([.fn 153 [] [(0,0)]])] [.agg (cellsOf (.nm .reply) r0)] [.box 43 ([.int (r1),.int (r2),.int (r3),.int (r4),.own 1,.own 2,.own 3]),.row 82 (.nm .sess) (r5),.row 63 (.nm .opn) (r6),.row 73 (.nm .snap) (r7),.box 24 (cellsOf (.nm .command) (r8)),.box 168 ([.fn 153 [] [(0,0)]])]=((fun (q2:Int)=>(fun (q1:Prop)=>(fun (q0:State × Reply)=>I64 q2->(q2<(0:Int)->I64 (15:Int)->I64 (0:Int)->(15:Int)=r0.code/\(0:Int)=r0.n/\v=r1/\nx=r2/\kp=r3/\qt=r4/\se=r5/\op=r6/\sn=r7/\q1)/\((0:Int)<=q2->((0:Int)<=q2/\q2<(↑sn.length:Int))/\(I64 q0.snd.code->I64 q0.snd.n->q0.snd.code=r0.code/\q0.snd.n=r0.n/\q0.fst.version=r1/\q0.fst.next=r2/\q0.fst.keep=r3/\q0.fst.quota=r4/\q0.fst.sess=r5/\q0.fst.opens=r6/\q0.fst.snaps=r7/\q1))) (bk (State.mk v nx kp qt se op sn) q2.toNat)) (c.kind=r8.kind/\c.client=r8.client/\c.seq=r8.seq/\c.set=r8.set/\c.id=r8.id/\c.n=r8.n/\c.chunks=r8.chunks/\c.text=r8.text)) (ay Snap.id c.id sn)):=by kernel_rfl
theorem zC (v:Int) (nx:Int) (kp:Int) (qt:Int) (se:List Sess) (op:List Opn) (sn:List Snap) (c:Command):Sat Tryz.prog (aj tyT) 138 [.c (.ptr 0 0),.c (.ptr 4 0),.c (.ptr 5 0)] [.box 43 ([.int (v),.int (nx),.int (kp),.int (qt),.own 1,.own 2,.own 3]),.row 82 (.nm .sess) (se),.row 63 (.nm .opn) (op),.row 73 (.nm .snap) (sn),.box 24 (cellsOf (.nm .command) (c)),.box 168 ([.fn 153 [] [(0,0)]])] ⟨[],[.agg (cellsOf (.nm .reply) ((aB bk c (State.mk v nx kp qt se op sn)).2))],some ([.box 43 ([.int ((((aB bk c (State.mk v nx kp qt se op sn)).1).version)),.int ((((aB bk c (State.mk v nx kp qt se op sn)).1).next)),.int ((((aB bk c (State.mk v nx kp qt se op sn)).1).keep)),.int ((((aB bk c (State.mk v nx kp qt se op sn)).1).quota)),.own 1,.own 2,.own 3]),.row 82 (.nm .sess) ((((aB bk c (State.mk v nx kp qt se op sn)).1).sess)),.row 63 (.nm .opn) ((((aB bk c (State.mk v nx kp qt se op sn)).1).opens)),.row 73 (.nm .snap) ((((aB bk c (State.mk v nx kp qt se op sn)).1).snaps)),.box 24 (cellsOf (.nm .command) ((c))),.box 168 ([.fn 153 [] [(0,0)]])]),false⟩:=by
 refine db fS [] Tryz.func138 (by decide) (by kernel_rfl) ?_
 rw [yT]
 (repeat' (first | with_reducible refine And.intro ?_ ?_ | with_reducible refine and_imp.2 ?_ | intro))
 all_goals (first | (first | with_reducible rfl | with_reducible assumption | omega | (refine ah ?_ ?_ <;> omega)) | exact cw (by with_reducible assumption) | (rw [Ql] <;> first | rfl | omega) | (rw [Qh] <;> first | rfl | omega))
theorem DA (v:Int) (nx:Int) (kp:Int) (qt:Int) (se:List Sess) (op:List Opn) (sn:List Snap) (c:Command) (r0:Reply) (r1:Int) (r2:Int) (r3:Int) (r4:Int) (r5:List Sess) (r6:List Opn) (r7:List Snap) (r8:Command):mK tyT ou [] Tryz.f138 [.c (.ptr 0 0),.c (.ptr 4 0),.c (.ptr 5 0)] [.box 43 ([.int (v),.int (nx),.int (kp),.int (qt),.own 1,.own 2,.own 3]),.row 82 (.nm .sess) (se),.row 63 (.nm .opn) (op),.row 73 (.nm .snap) (sn),.box 24 (cellsOf (.nm .command) (c)),.box 168 ([.fn 154 [] [(4,0),(0,0)]])] [.agg (cellsOf (.nm .reply) r0)] [.box 43 ([.int (r1),.int (r2),.int (r3),.int (r4),.own 1,.own 2,.own 3]),.row 82 (.nm .sess) (r5),.row 63 (.nm .opn) (r6),.row 73 (.nm .snap) (r7),.box 24 (cellsOf (.nm .command) (r8)),.box 168 ([.fn 154 [] [(4,0),(0,0)]])]=((fun (q2:Int)=>(fun (q1:Prop)=>(fun (q0:State × Reply)=>I64 q2->(q2<(0:Int)->I64 (15:Int)->I64 (0:Int)->(15:Int)=r0.code/\(0:Int)=r0.n/\v=r1/\nx=r2/\kp=r3/\qt=r4/\se=r5/\op=r6/\sn=r7/\q1)/\((0:Int)<=q2->((0:Int)<=q2/\q2<(↑sn.length:Int))/\(I64 q0.snd.code->I64 q0.snd.n->q0.snd.code=r0.code/\q0.snd.n=r0.n/\q0.fst.version=r1/\q0.fst.next=r2/\q0.fst.keep=r3/\q0.fst.quota=r4/\q0.fst.sess=r5/\q0.fst.opens=r6/\q0.fst.snaps=r7/\q1))) (de c (State.mk v nx kp qt se op sn) q2.toNat)) (c.kind=r8.kind/\c.client=r8.client/\c.seq=r8.seq/\c.set=r8.set/\c.id=r8.id/\c.n=r8.n/\c.chunks=r8.chunks/\c.text=r8.text)) (ay Snap.id c.id sn)):=by kernel_rfl
theorem Eg (v:Int) (nx:Int) (kp:Int) (qt:Int) (se:List Sess) (op:List Opn) (sn:List Snap) (c:Command):Sat Tryz.prog (aj tyT) 138 [.c (.ptr 0 0),.c (.ptr 4 0),.c (.ptr 5 0)] [.box 43 ([.int (v),.int (nx),.int (kp),.int (qt),.own 1,.own 2,.own 3]),.row 82 (.nm .sess) (se),.row 63 (.nm .opn) (op),.row 73 (.nm .snap) (sn),.box 24 (cellsOf (.nm .command) (c)),.box 168 ([.fn 154 [] [(4,0),(0,0)]])] ⟨[],[.agg (cellsOf (.nm .reply) ((aB (de c) c (State.mk v nx kp qt se op sn)).2))],some ([.box 43 ([.int ((((aB (de c) c (State.mk v nx kp qt se op sn)).1).version)),.int ((((aB (de c) c (State.mk v nx kp qt se op sn)).1).next)),.int ((((aB (de c) c (State.mk v nx kp qt se op sn)).1).keep)),.int ((((aB (de c) c (State.mk v nx kp qt se op sn)).1).quota)),.own 1,.own 2,.own 3]),.row 82 (.nm .sess) ((((aB (de c) c (State.mk v nx kp qt se op sn)).1).sess)),.row 63 (.nm .opn) ((((aB (de c) c (State.mk v nx kp qt se op sn)).1).opens)),.row 73 (.nm .snap) ((((aB (de c) c (State.mk v nx kp qt se op sn)).1).snaps)),.box 24 (cellsOf (.nm .command) ((c))),.box 168 ([.fn 154 [] [(4,0),(0,0)]])]),false⟩:=by
 refine db fS [] Tryz.func138 (by decide) (by kernel_rfl) ?_
 rw [DA]
 (repeat' (first | with_reducible refine And.intro ?_ ?_ | with_reducible refine and_imp.2 ?_ | intro))
 all_goals (first | (first | with_reducible rfl | with_reducible assumption | omega | (refine ah ?_ ?_ <;> omega)) | exact cw (by with_reducible assumption) | (rw [Ql] <;> first | rfl | omega) | (rw [Qh] <;> first | rfl | omega))
theorem Ak (v:Int) (nx:Int) (kp:Int) (qt:Int) (se:List Sess) (op:List Opn) (sn:List Snap) (c:Command) (b:Bool) (r0:Reply) (r1:Int) (r2:Int) (r3:Int) (r4:Int) (r5:List Sess) (r6:List Opn) (r7:List Snap) (r8:Command) (r9:Bool):mK tyT ou [] Tryz.f138 [.c (.ptr 0 0),.c (.ptr 4 0),.c (.ptr 5 0)] [.box 43 ([.int (v),.int (nx),.int (kp),.int (qt),.own 1,.own 2,.own 3]),.row 82 (.nm .sess) (se),.row 63 (.nm .opn) (op),.row 73 (.nm .snap) (sn),.box 24 (cellsOf (.nm .command) (c)),.box 168 ([.fn 141 [] [(0,0),(6,0)]]),.box 4 ([.bool (.atom (b))])] [.agg (cellsOf (.nm .reply) r0)] [.box 43 ([.int (r1),.int (r2),.int (r3),.int (r4),.own 1,.own 2,.own 3]),.row 82 (.nm .sess) (r5),.row 63 (.nm .opn) (r6),.row 73 (.nm .snap) (r7),.box 24 (cellsOf (.nm .command) (r8)),.box 168 ([.fn 141 [] [(0,0),(6,0)]]),.box 4 ([.bool (.atom (r9))])]=((fun (q2:Int)=>(fun (q1:Prop)=>(fun (q0:State × Reply)=>I64 q2->(q2<(0:Int)->I64 (15:Int)->I64 (0:Int)->(15:Int)=r0.code/\(0:Int)=r0.n/\v=r1/\nx=r2/\kp=r3/\qt=r4/\se=r5/\op=r6/\sn=r7/\q1)/\((0:Int)<=q2->((0:Int)<=q2/\q2<(↑sn.length:Int))/\(I64 q0.snd.code->I64 q0.snd.n->q0.snd.code=r0.code/\q0.snd.n=r0.n/\q0.fst.version=r1/\q0.fst.next=r2/\q0.fst.keep=r3/\q0.fst.quota=r4/\q0.fst.sess=r5/\q0.fst.opens=r6/\q0.fst.snaps=r7/\q1))) (bE b (State.mk v nx kp qt se op sn) q2.toNat)) (c.kind=r8.kind/\c.client=r8.client/\c.seq=r8.seq/\c.set=r8.set/\c.id=r8.id/\c.n=r8.n/\c.chunks=r8.chunks/\c.text=r8.text/\b=r9)) (ay Snap.id c.id sn)):=by kernel_rfl
theorem zG (v:Int) (nx:Int) (kp:Int) (qt:Int) (se:List Sess) (op:List Opn) (sn:List Snap) (c:Command) (b:Bool):Sat Tryz.prog (aj tyT) 138 [.c (.ptr 0 0),.c (.ptr 4 0),.c (.ptr 5 0)] [.box 43 ([.int (v),.int (nx),.int (kp),.int (qt),.own 1,.own 2,.own 3]),.row 82 (.nm .sess) (se),.row 63 (.nm .opn) (op),.row 73 (.nm .snap) (sn),.box 24 (cellsOf (.nm .command) (c)),.box 168 ([.fn 141 [] [(0,0),(6,0)]]),.box 4 ([.bool (.atom (b))])] ⟨[],[.agg (cellsOf (.nm .reply) ((aB (bE b) c (State.mk v nx kp qt se op sn)).2))],some ([.box 43 ([.int ((((aB (bE b) c (State.mk v nx kp qt se op sn)).1).version)),.int ((((aB (bE b) c (State.mk v nx kp qt se op sn)).1).next)),.int ((((aB (bE b) c (State.mk v nx kp qt se op sn)).1).keep)),.int ((((aB (bE b) c (State.mk v nx kp qt se op sn)).1).quota)),.own 1,.own 2,.own 3]),.row 82 (.nm .sess) ((((aB (bE b) c (State.mk v nx kp qt se op sn)).1).sess)),.row 63 (.nm .opn) ((((aB (bE b) c (State.mk v nx kp qt se op sn)).1).opens)),.row 73 (.nm .snap) ((((aB (bE b) c (State.mk v nx kp qt se op sn)).1).snaps)),.box 24 (cellsOf (.nm .command) ((c))),.box 168 ([.fn 141 [] [(0,0),(6,0)]]),.box 4 ([.bool (.atom ((b)))])]),false⟩:=by
 refine db fS [] Tryz.func138 (by decide) (by kernel_rfl) ?_
 rw [Ak]
 (repeat' (first | with_reducible refine And.intro ?_ ?_ | with_reducible refine and_imp.2 ?_ | intro))
 all_goals (first | (first | with_reducible rfl | with_reducible assumption | omega | (refine ah ?_ ?_ <;> omega)) | exact cw (by with_reducible assumption) | (rw [Ql] <;> first | rfl | omega) | (rw [Qh] <;> first | rfl | omega))
def EB:cj:=(br 138 (bp (ai (kC (bN 0 0)) (ai (kC (bN 4 0)) (ai (kC (bN 5 0)) aK))) (az (bI 43 (aq cI (aq cI (aq cI (aq cI (aq (bf 1) (aq (bf 2) (aq (bf 3) bG)))))))) (az (bd 82 (.nm .sess)) (az (bd 63 (.nm .opn)) (az (bd 73 (.nm .snap)) (az (bI 24 (sj (.nm .command) bG)) (az (bI 168 (aq (pd 141 [] [(0,0),(6,0)]) bG)) (az (bI 4 (aq cB bG)) aJ))))))) fun (_,_,_,_) ((v,nx,kp,qt,_,_,_,_),se,op,sn,(c,_),(_,_),(b,_),_)=>⟨[],[.agg (cellsOf (.nm .reply) ((aB (bE b) c (State.mk v nx kp qt se op sn)).2))],some ([.box 43 ([.int ((((aB (bE b) c (State.mk v nx kp qt se op sn)).1).version)),.int ((((aB (bE b) c (State.mk v nx kp qt se op sn)).1).next)),.int ((((aB (bE b) c (State.mk v nx kp qt se op sn)).1).keep)),.int ((((aB (bE b) c (State.mk v nx kp qt se op sn)).1).quota)),.own 1,.own 2,.own 3]),.row 82 (.nm .sess) ((((aB (bE b) c (State.mk v nx kp qt se op sn)).1).sess)),.row 63 (.nm .opn) ((((aB (bE b) c (State.mk v nx kp qt se op sn)).1).opens)),.row 73 (.nm .snap) ((((aB (bE b) c (State.mk v nx kp qt se op sn)).1).snaps)),.box 24 (cellsOf (.nm .command) ((c))),.box 168 ([.fn 141 [] [(0,0),(6,0)]]),.box 4 ([.bool (.atom ((b)))])]),false⟩) (br 138 (bp (ai (kC (bN 0 0)) (ai (kC (bN 4 0)) (ai (kC (bN 5 0)) aK))) (az (bI 43 (aq cI (aq cI (aq cI (aq cI (aq (bf 1) (aq (bf 2) (aq (bf 3) bG)))))))) (az (bd 82 (.nm .sess)) (az (bd 63 (.nm .opn)) (az (bd 73 (.nm .snap)) (az (bI 24 (sj (.nm .command) bG)) (az (bI 168 (aq (pd 154 [] [(4,0),(0,0)]) bG)) aJ)))))) fun (_,_,_,_) ((v,nx,kp,qt,_,_,_,_),se,op,sn,(c,_),(_,_),_)=>⟨[],[.agg (cellsOf (.nm .reply) ((aB (de c) c (State.mk v nx kp qt se op sn)).2))],some ([.box 43 ([.int ((((aB (de c) c (State.mk v nx kp qt se op sn)).1).version)),.int ((((aB (de c) c (State.mk v nx kp qt se op sn)).1).next)),.int ((((aB (de c) c (State.mk v nx kp qt se op sn)).1).keep)),.int ((((aB (de c) c (State.mk v nx kp qt se op sn)).1).quota)),.own 1,.own 2,.own 3]),.row 82 (.nm .sess) ((((aB (de c) c (State.mk v nx kp qt se op sn)).1).sess)),.row 63 (.nm .opn) ((((aB (de c) c (State.mk v nx kp qt se op sn)).1).opens)),.row 73 (.nm .snap) ((((aB (de c) c (State.mk v nx kp qt se op sn)).1).snaps)),.box 24 (cellsOf (.nm .command) ((c))),.box 168 ([.fn 154 [] [(4,0),(0,0)]])]),false⟩) (br 138 (bp (ai (kC (bN 0 0)) (ai (kC (bN 4 0)) (ai (kC (bN 5 0)) aK))) (az (bI 43 (aq cI (aq cI (aq cI (aq cI (aq (bf 1) (aq (bf 2) (aq (bf 3) bG)))))))) (az (bd 82 (.nm .sess)) (az (bd 63 (.nm .opn)) (az (bd 73 (.nm .snap)) (az (bI 24 (sj (.nm .command) bG)) (az (bI 168 (aq (pd 153 [] [(0,0)]) bG)) aJ)))))) fun (_,_,_,_) ((v,nx,kp,qt,_,_,_,_),se,op,sn,(c,_),(_,_),_)=>⟨[],[.agg (cellsOf (.nm .reply) ((aB bk c (State.mk v nx kp qt se op sn)).2))],some ([.box 43 ([.int ((((aB bk c (State.mk v nx kp qt se op sn)).1).version)),.int ((((aB bk c (State.mk v nx kp qt se op sn)).1).next)),.int ((((aB bk c (State.mk v nx kp qt se op sn)).1).keep)),.int ((((aB bk c (State.mk v nx kp qt se op sn)).1).quota)),.own 1,.own 2,.own 3]),.row 82 (.nm .sess) ((((aB bk c (State.mk v nx kp qt se op sn)).1).sess)),.row 63 (.nm .opn) ((((aB bk c (State.mk v nx kp qt se op sn)).1).opens)),.row 73 (.nm .snap) ((((aB bk c (State.mk v nx kp qt se op sn)).1).snaps)),.box 24 (cellsOf (.nm .command) ((c))),.box 168 ([.fn 153 [] [(0,0)]])]),false⟩) (br 138 (bp (ai (kC (bN 0 0)) (ai (kC (bN 4 0)) (ai (kC (bN 5 0)) aK))) (az (bI 43 (aq cI (aq cI (aq cI (aq cI (aq (bf 1) (aq (bf 2) (aq (bf 3) bG)))))))) (az (bd 82 (.nm .sess)) (az (bd 63 (.nm .opn)) (az (bd 73 (.nm .snap)) (az (bI 24 (sj (.nm .command) bG)) (az (bI 168 (aq (pd 151 [] [(0,0)]) bG)) aJ)))))) fun (_,_,_,_) ((v,nx,kp,qt,_,_,_,_),se,op,sn,(c,_),(_,_),_)=>⟨[nch sn<=1048576],[.agg (cellsOf (.nm .reply) ((aB aQ c (State.mk v nx kp qt se op sn)).2))],some ([.box 43 ([.int ((((aB aQ c (State.mk v nx kp qt se op sn)).1).version)),.int ((((aB aQ c (State.mk v nx kp qt se op sn)).1).next)),.int ((((aB aQ c (State.mk v nx kp qt se op sn)).1).keep)),.int ((((aB aQ c (State.mk v nx kp qt se op sn)).1).quota)),.own 1,.own 2,.own 3]),.row 82 (.nm .sess) ((((aB aQ c (State.mk v nx kp qt se op sn)).1).sess)),.row 63 (.nm .opn) ((((aB aQ c (State.mk v nx kp qt se op sn)).1).opens)),.row 73 (.nm .snap) ((((aB aQ c (State.mk v nx kp qt se op sn)).1).snaps)),.box 24 (cellsOf (.nm .command) ((c))),.box 168 ([.fn 151 [] [(0,0)]])]),false⟩) (br 140 (bp (ai (kC cB) (ai (kC (bN 0 0)) (ai (kC (bN 1 0)) aK))) (az (bI 170 (aq (pd 137 [] [(1,0),(5,0)]) bG)) (az (bI 43 (aq cI (aq cI (aq cI (aq cI (aq (bf 2) (aq (bf 3) (aq (bf 4) bG)))))))) (az (bd 82 (.nm .sess)) (az (bd 63 (.nm .opn)) (az (bd 73 (.nm .snap)) (az (bI 24 (sj (.nm .command) bG)) aJ)))))) fun (b,_,_,_) ((_,_),(v,nx,kp,qt,_,_,_,_),se,op,sn,(c,_),_)=>⟨[],[.c (.fn 138 [] [(1,0),(5,0),(7,0)])],some ([.box 170 ([.fn 137 [] [(1,0),(5,0)]]),.box 43 ([.int ((v)),.int ((nx)),.int ((kp)),.int ((qt)),.own 2,.own 3,.own 4]),.row 82 (.nm .sess) ((se)),.row 63 (.nm .opn) ((op)),.row 73 (.nm .snap) ((sn)),.box 24 (cellsOf (.nm .command) ((c))),.box 4 ([.bool (.atom ((b)))]),.box 168 ([.fn 141 [] [(1,0),(6,0)]])]),true⟩) ou)))))
theorem sZ:aN Tryz.prog (aj tyT) EB:=(av (au (ab (ao aI) (ab (ao aI) (ab (ao aI) ak))) (ag (aG (ae aw (ae aw (ae aw (ae aw (ae aD (ae aD (ae aD aF)))))))) (ag aC (ag aC (ag aC (ag (aG (dt aF)) (ag (aG (ae cM aF)) (ag (aG (ae uK aF)) al))))))) fun (_,_,_,_) ((v,nx,kp,qt,_,_,_,_),se,op,sn,(c,_),(_,_),(b,_),_) _=>zG v nx kp qt se op sn c b ) (av (au (ab (ao aI) (ab (ao aI) (ab (ao aI) ak))) (ag (aG (ae aw (ae aw (ae aw (ae aw (ae aD (ae aD (ae aD aF)))))))) (ag aC (ag aC (ag aC (ag (aG (dt aF)) (ag (aG (ae cM aF)) al)))))) fun (_,_,_,_) ((v,nx,kp,qt,_,_,_,_),se,op,sn,(c,_),(_,_),_) _=>Eg v nx kp qt se op sn c ) (av (au (ab (ao aI) (ab (ao aI) (ab (ao aI) ak))) (ag (aG (ae aw (ae aw (ae aw (ae aw (ae aD (ae aD (ae aD aF)))))))) (ag aC (ag aC (ag aC (ag (aG (dt aF)) (ag (aG (ae cM aF)) al)))))) fun (_,_,_,_) ((v,nx,kp,qt,_,_,_,_),se,op,sn,(c,_),(_,_),_) _=>zC v nx kp qt se op sn c ) (av (au (ab (ao aI) (ab (ao aI) (ab (ao aI) ak))) (ag (aG (ae aw (ae aw (ae aw (ae aw (ae aD (ae aD (ae aD aF)))))))) (ag aC (ag aC (ag aC (ag (aG (dt aF)) (ag (aG (ae cM aF)) al)))))) fun (_,_,_,_) ((v,nx,kp,qt,_,_,_,_),se,op,sn,(c,_),(_,_),_) hp=>wG v nx kp qt se op sn c (dC hp)) (av (au (ab (ao uK) (ab (ao aI) (ab (ao aI) ak))) (ag (aG (ae cM aF)) (ag (aG (ae aw (ae aw (ae aw (ae aw (ae aD (ae aD (ae aD aF)))))))) (ag aC (ag aC (ag aC (ag (aG (dt aF)) al)))))) fun (b,_,_,_) ((_,_),(v,nx,kp,qt,_,_,_,_),se,op,sn,(c,_),_) _=>MZ b v nx kp qt se op sn c ) fS)))))
end Go.Proofs.YtladifkbefehdaaGreat
namespace Go.Proofs.YtladifkbefehdaaGreat
open Go.RowKit
def dx (s:State) (c:Command):Int:=if mayF s s.version=0 then cc c s.version else 1
def CQ (s:State) (c:Command):State × Reply:=
 if c.kind=11 then aB (de c) c s
 else if c.kind=10 then aB (bE false) c s
 else if c.kind=9 then aB (bE true) c s
 else if c.kind=7 then aB bk c s
 else if c.kind=5 then aB aQ c s
 else if c.kind=12 then cQ c s
 else if c.kind=6 then dO c s
 else if c.kind=4 then bc s c
 else if c.kind=3 then aX s c
 else if c.kind=2 then ba s c
 else (s,⟨1,0⟩)
def cZ (s:State) (c:Command):State × Reply:=if ¬ dx s c=0 then (s,⟨dx s c,0⟩) else CQ s c
theorem ra {α:Type} {key:α->Int} {most:Int}:∀ {l:List α} {a:Int},aE key most a l=true->l=[]\/a+(l.length:Int)<=most
 | [],_,_=>.inl rfl
 | x :: l,a,h=>by
  simp only [aE,Bool.and_eq_true] at h
  have h1:=EY h.1
  rcases ra h.2 with h2 | h2
  ·subst h2; right; simp only [List.length_cons,List.length_nil]; omega
  ·right; simp only [List.length_cons]; omega
theorem eQ {s:State} {v:Int} (h:mayF s v=0):cJ v 1 3=true/\iD s v=true/\s_ s=true/\rX s=true/\e_ s v=true:=by
 unfold mayF at h
 split at h
 ·omega
 ·rename_i h1
  split at h
  ·omega
  ·rename_i h2
   simp at h1 h2
   exact ⟨h1,h2.1.1.1,h2.1.1.2,h2.1.2,h2.2⟩
theorem Mh {s:State} {v:Int} (h:mayF s v=0):s.opens.length<=8:=by
 have h1:=(eQ h).2.2.2.1
 simp only [rX,Bool.and_eq_true] at h1
 rcases ra h1.1 with h2 | h2
 ·rw [h2]; simp
 ·omega
theorem Nl {s:State} {v:Int} (h:mayF s v=0):s.sess.length<=8:=by
 have h1:=(eQ h).2.2.1
 simp only [s_,Bool.and_eq_true] at h1
 rcases ra h1.1 with h2 | h2
 ·rw [h2]; simp
 ·omega
theorem CZ {s:State} {v:Int} (h:mayF s v=0):s.snaps.length<=16/\aE Snap.id (s.next - 1) 0 s.snaps=true/\∀ x ∈ s.snaps,bZ v (qB v) x=true:=by
 have h1:=(eQ h).2.2.2.2
 simp only [e_,Bool.and_eq_true,Bool.not_eq_true',Bool.or_eq_false_iff,decide_eq_false_iff_not,Bool.not_eq_false',List.all_eq_true] at h1
 exact ⟨by omega,h1.1.2,h1.2⟩
theorem Ln {x:Snap} {v t:Int} (h:bZ v t x=true):rowF x.chunks=true:=by
 simp only [bZ,Bool.and_eq_true,decide_eq_true_eq] at h
 cases hr:rowF x.chunks with
 | true=>rfl
 | false=>have:=gN (l:=x.chunks) hr; omega
theorem Co:∀ {l:List Snap},(∀ x ∈ l,rowF x.chunks=true)->nch l<=8*l.length
 | [],_=>Nat.le_refl _
 | x :: l,h=>by
  have h1:=Co (l:=l) fun y hy=>h y (List.mem_cons_of_mem _ hy)
  have h2:=(xK (h x (List.mem_cons_self))).2
  have e:nch (x :: l)=x.chunks.length+nch l:=by simp [nch]
  rw [e,List.length_cons]; omega
theorem IN {s:State} {v:Int} (h:mayF s v=0):nch s.snaps<=128:=by
 have h1:=CZ h
 have:=Co (l:=s.snaps) fun x hx=>Ln (h1.2.2 x hx)
 omega
theorem KE {s:State} {v:Int} (h:mayF s v=0):1<=s.next/\s.next<=1048576:=by
 have h1:=(eQ h).2.1
 simp only [iD,Bool.and_eq_true] at h1
 exact EY h1.1.1.2
theorem wD {s:State} {c:Command} (h:(if mayF s s.version=0 then cc c s.version else 1)=0):mayF s s.version=0:=by
 split at h
 ·assumption
 ·omega
theorem Ms {s:State} {c:Command} (h:(if mayF s s.version=0 then cc c s.version else 1)=0):nch s.snaps<=1048576:=by have:=IN (wD h); omega
theorem Pp {s:State} {c:Command} (h:(if mayF s s.version=0 then cc c s.version else 1)=0):s.opens.length<1048576:=by have:=Mh (wD h); omega
theorem xD {s:State} {c:Command} (h:(if mayF s s.version=0 then cc c s.version else 1)=0):s.sess.length<1048576:=by have:=Nl (wD h); omega
theorem PF {s:State} {c:Command} (h:(if mayF s s.version=0 then cc c s.version else 1)=0):s.snaps.length<1048576:=by have:=(CZ (wD h)).1; omega
theorem Pg {s:State} {c:Command} (h:(if mayF s s.version=0 then cc c s.version else 1)=0):0<=s.next:=by have:=KE (wD h); omega
theorem Py {s:State} {c:Command} (h:(if mayF s s.version=0 then cc c s.version else 1)=0):cZ s c=CQ s c:=by
 have h:dx s c=0:=h
 rw [cZ,h]; rfl
theorem QV {s:State} {c:Command} (h:¬ (if mayF s s.version=0 then cc c s.version else 1)=0):cZ s c=(s,⟨(if mayF s s.version=0 then cc c s.version else 1),0⟩):=by
 have h:¬ dx s c=0:=h
 rw [cZ,if_pos h]; rfl
theorem MJ (st:State) (c:Command) (r0:Int) (r1:Int) (r2:Int) (r3:Int) (r4:Reply) (r5:List Sess) (r6:List Opn) (r7:List Snap):po tyT EB [] Tryz.f103 [.agg (cellsOf (.nm .state) st),.agg (cellsOf (.nm .command) c)] [] [.agg ([.int (r0),.int (r1),.int (r2),.int (r3),.own 0,.own 1,.own 2]),.agg (cellsOf (.nm .reply) r4)] [.row 82 (.nm .sess) (r5),.row 63 (.nm .opn) (r6),.row 73 (.nm .snap) (r7)]=((fun (q18:Reply)=>(fun (q17:Int)=>(fun (q16:Int)=>(fun (q15:Prop)=>(fun (q14:Prop)=>(fun (q13:Int)=>(fun (q12:State)=>(fun (q11:Prop)=>(fun (q10:State × Reply)=>(fun (q9:State × Reply)=>(fun (q8:State × Reply)=>(fun (q7:Int)=>(fun (q6:State × Reply)=>(fun (q5:State × Reply)=>(fun (q4:State × Reply)=>(fun (q3:State × Reply)=>(fun (q2:State × Reply)=>(fun (q1:State × Reply)=>(fun (q0:Int)=>I64 q17->I64 st.next->I64 st.keep->I64 st.quota->st.sess.length*(32:Nat)<=(140737488355328:Nat)->st.opens.length*(16:Nat)<=(140737488355328:Nat)->st.snaps.length*(64:Nat)<=(140737488355328:Nat)->I64 q7->I64 c.client->I64 c.seq->I64 c.set->I64 c.id->I64 c.n->c.chunks.length*(8:Nat)<=(140737488355328:Nat)->c.text.b.length<=(140737488355328:Nat)->I64 q17->I64 st.next->I64 st.keep->I64 st.quota->I64 q0->(¬q0=q16->I64 q0->I64 q16->q17=r0/\st.next=r1/\st.keep=r2/\st.quota=r3/\q0=q13/\q11)/\(q0=q16->(q7=(11:Int)->I64 q3.snd.code->I64 q3.snd.n->q3.fst.version=r0/\q3.fst.next=r1/\q3.fst.keep=r2/\q3.fst.quota=r3/\q3.snd.code=q13/\q3.snd.n=r4.n/\q3.fst.sess=r5/\q3.fst.opens=r6/\q3.fst.snaps=r7)/\(¬q7=(11:Int)->(q7=(10:Int)->I64 q1.snd.code->I64 q1.snd.n->q1.fst.version=r0/\q1.fst.next=r1/\q1.fst.keep=r2/\q1.fst.quota=r3/\q1.snd.code=q13/\q1.snd.n=r4.n/\q1.fst.sess=r5/\q1.fst.opens=r6/\q1.fst.snaps=r7)/\(¬q7=(10:Int)->(q7=(9:Int)->I64 q2.snd.code->I64 q2.snd.n->q2.fst.version=r0/\q2.fst.next=r1/\q2.fst.keep=r2/\q2.fst.quota=r3/\q2.snd.code=q13/\q2.snd.n=r4.n/\q2.fst.sess=r5/\q2.fst.opens=r6/\q2.fst.snaps=r7)/\(¬q7=(9:Int)->(q7=(7:Int)->I64 q4.snd.code->I64 q4.snd.n->q4.fst.version=r0/\q4.fst.next=r1/\q4.fst.keep=r2/\q4.fst.quota=r3/\q4.snd.code=q13/\q4.snd.n=r4.n/\q4.fst.sess=r5/\q4.fst.opens=r6/\q4.fst.snaps=r7)/\(¬q7=(7:Int)->(q7=(5:Int)->q15/\(I64 q5.snd.code->I64 q5.snd.n->q5.fst.version=r0/\q5.fst.next=r1/\q5.fst.keep=r2/\q5.fst.quota=r3/\q5.snd.code=q13/\q5.snd.n=r4.n/\q5.fst.sess=r5/\q5.fst.opens=r6/\q5.fst.snaps=r7))/\(¬q7=(5:Int)->(q7=(12:Int)->q15/\(I64 q10.snd.code->I64 q10.snd.n->q10.fst.version=r0/\q10.fst.next=r1/\q10.fst.keep=r2/\q10.fst.quota=r3/\q10.snd.code=q13/\q10.snd.n=r4.n/\q10.fst.sess=r5/\q10.fst.opens=r6/\q10.fst.snaps=r7))/\(¬q7=(12:Int)->(q7=(6:Int)->I64 q18.code->I64 q18.n->q12.version=r0/\q12.next=r1/\q12.keep=r2/\q12.quota=r3/\q18.code=q13/\q18.n=r4.n/\q12.sess=r5/\q12.opens=r6/\q12.snaps=r7)/\(¬q7=(6:Int)->(q7=(4:Int)->q14/\(I64 q8.snd.code->I64 q8.snd.n->q8.fst.version=r0/\q8.fst.next=r1/\q8.fst.keep=r2/\q8.fst.quota=r3/\q8.snd.code=q13/\q8.snd.n=r4.n/\q8.fst.sess=r5/\q8.fst.opens=r6/\q8.fst.snaps=r7))/\(¬q7=(4:Int)->(q7=(3:Int)->q15/\st.snaps.length<(1048576:Nat)/\q14/\q16<=st.next/\(I64 q6.snd.code->I64 q6.snd.n->q6.fst.version=r0/\q6.fst.next=r1/\q6.fst.keep=r2/\q6.fst.quota=r3/\q6.snd.code=q13/\q6.snd.n=r4.n/\q6.fst.sess=r5/\q6.fst.opens=r6/\q6.fst.snaps=r7))/\(¬q7=(3:Int)->(q7=(2:Int)->q14/\(I64 q9.snd.code->I64 q9.snd.n->q9.fst.version=r0/\q9.fst.next=r1/\q9.fst.keep=r2/\q9.fst.quota=r3/\q9.snd.code=q13/\q9.snd.n=r4.n/\q9.fst.sess=r5/\q9.fst.opens=r6/\q9.fst.snaps=r7))/\(¬q7=(2:Int)->I64 (1:Int)->I64 q16->q17=r0/\st.next=r1/\st.keep=r2/\st.quota=r3/\(1:Int)=q13/\q11)))))))))))) (if mayF st q17=q16 then cc c q17 else (1:Int))) (aB (bE false) c st)) (aB (bE true) c st)) (aB (de c) c st)) (aB bk c st)) (aB aQ c st)) (aX st c)) c.kind) (bc st c)) (ba st c)) (cQ c st)) (q16=r4.n/\st.sess=r5/\st.opens=r6/\st.snaps=r7)) (dO c st).fst) r4.code) (st.opens.length<(1048576:Nat))) (nch st.snaps<=(1048576:Nat))) (0:Int)) st.version) (dO c st).snd):=by kernel_rfl
theorem LY (st:State) (c:Command):Sat Tryz.prog (aj tyT) 103 [.agg (cellsOf (.nm .state) st),.agg (cellsOf (.nm .command) c)] [] ⟨[],[.agg ([.int (((cZ st c).1.version)),.int (((cZ st c).1.next)),.int (((cZ st c).1.keep)),.int (((cZ st c).1.quota)),.own 0,.own 1,.own 2]),.agg (cellsOf (.nm .reply) ((cZ st c).2))],some ([.row 82 (.nm .sess) (((cZ st c).1.sess)),.row 63 (.nm .opn) (((cZ st c).1.opens)),.row 73 (.nm .snap) (((cZ st c).1.snaps))]),true⟩:=by
 refine dQ sZ [] Tryz.func103 (by decide) (by kernel_rfl) ?_
 rw [MJ]
 (repeat' (first | with_reducible refine And.intro ?_ ?_ | with_reducible refine and_imp.2 ?_ | intro))
 all_goals (first | (first | with_reducible rfl | with_reducible assumption | omega | (refine ah ?_ ?_ <;> omega)) | exact (Ms (by with_reducible assumption)) | exact (Pp (by with_reducible assumption)) | exact (xD (by with_reducible assumption)) | exact (PF (by with_reducible assumption)) | exact (Pg (by with_reducible assumption)) | (rw [QV (by with_reducible assumption)]; done) | (rw [Py (by with_reducible assumption)]; simp only [CQ, *]; done) | (rw [Py (by with_reducible assumption)]; simp [CQ, *]; done))
def FY:cj:=(br 103 (bp (ai (kT (.nm .state)) (ai (kT (.nm .command)) aK)) aJ fun (st,c,_) (_)=>⟨[],[.agg ([.int (((cZ st c).1.version)),.int (((cZ st c).1.next)),.int (((cZ st c).1.keep)),.int (((cZ st c).1.quota)),.own 0,.own 1,.own 2]),.agg (cellsOf (.nm .reply) ((cZ st c).2))],some ([.row 82 (.nm .sess) (((cZ st c).1.sess)),.row 63 (.nm .opn) (((cZ st c).1.opens)),.row 73 (.nm .snap) (((cZ st c).1.snaps))]),true⟩) EB)
theorem uL:aN Tryz.prog (aj tyT) FY:=(av (au (ab bn (ab bn ak)) al fun (st,c,_) (_) _=>LY st c ) sZ)
end Go.Proofs.YtladifkbefehdaaGreat
namespace Go.Proofs.YtladifkbefehdaaGreat
open Go.RowKit
def bB (s:State) (c:Command):State × Reply:=
 if ay Sess.client c.client s.sess<0 then (s,⟨11,0⟩)
 else if c.seq=(s.sess.getD (ay Sess.client c.client s.sess).toNat (dflt (.nm .sess))).seq then (s,(s.sess.getD (ay Sess.client c.client s.sess).toNat (dflt (.nm .sess))).last)
 else if c.seq<(s.sess.getD (ay Sess.client c.client s.sess).toNat (dflt (.nm .sess))).seq then (s,⟨13,0⟩)
 else if (s.sess.getD (ay Sess.client c.client s.sess).toNat (dflt (.nm .sess))).seq+1<c.seq then (s,⟨14,0⟩)
 else ({ (cZ s c).1 with sess:=(cZ s c).1.sess.set (ay Sess.client c.client s.sess).toNat { (cZ s c).1.sess.getD (ay Sess.client c.client s.sess).toNat (dflt (.nm .sess)) with seq:=c.seq,last:=(cZ s c).2 } },(cZ s c).2)
def ft (s:State) (c:Command):State × Reply:=
 if ¬ dx s c=0 then (s,⟨dx s c,0⟩)
 else if c.kind=8 then (if ¬ c.n=s.version+1 then (s,⟨1,0⟩) else ({ s with version:=c.n },⟨0,c.n⟩))
 else if c.kind=1 then (if 0<=ay Sess.client c.client s.sess then (s,⟨12,0⟩) else ({ s with sess:=sG s.sess (s.sess.takeWhile fun y=>decide (y.client<c.client)).length ⟨c.client,0,⟨0,0⟩⟩ },⟨0,0⟩))
 else bB s c
theorem Jk {Q:State × Reply->Prop} {s:State} {c:Command} (h0:∀ e:Int,¬ e=0->Q (s,⟨e,0⟩))
  (hs:∀ f:State->Nat->State × Reply,dx s c=0->(f=de c\/(∃ b,f=bE b)\/f=bk\/f=aQ)->Q (aB f c s))
  (hq:dx s c=0->Q (cQ c s)) (hk:dx s c=0->Q (dO c s)) (ha:dx s c=0->Q (bc s c)) (hc:dx s c=0->Q (aX s c)) (hb:dx s c=0->Q (ba s c)):Q (cZ s c):=by
 unfold cZ
 split
 ·exact h0 _ (by assumption)
 ·rename_i h
  have h:dx s c=0:=Classical.not_not.1 h
  unfold CQ
  split
  ·exact hs _ h (.inl rfl)
  split
  ·exact hs _ h (.inr (.inl ⟨_,rfl⟩))
  split
  ·exact hs _ h (.inr (.inl ⟨_,rfl⟩))
  split
  ·exact hs _ h (.inr (.inr (.inl rfl)))
  split
  ·exact hs _ h (.inr (.inr (.inr rfl)))
  split
  ·exact hq h
  split
  ·exact hk h
  split
  ·exact ha h
  split
  ·exact hc h
  split
  ·exact hb h
  ·exact h0 1 (by decide)
theorem AE {Q:State × Reply->Prop} {f:State->Nat->State × Reply} {s:State} {c:Command} (h0:∀ e:Int,¬ e=0->Q (s,⟨e,0⟩)) (h:∀ n:Nat,(n:Int)=ay Snap.id c.id s.snaps->Q (f s n)):Q (aB f c s):=by
 unfold aB
 split
 ·exact h0 15 (by decide)
 ·exact h _ (by omega)
theorem zm {s:State} {c:Command}:(cZ s c).1.sess=s.sess:=by
 refine Jk (Q:=fun r=>r.1.sess=s.sess) (fun _ _=>rfl) (fun f _ hf=>?_) (fun _=>rfl) (fun _=>rfl) (fun _=>?_) (fun _=>?_) (fun _=>?_)
 ·refine AE (Q:=fun r=>r.1.sess=s.sess) (fun _ _=>rfl) fun n _=>?_
  rcases hf with rfl | ⟨b,rfl⟩ | rfl | rfl
  ·rfl
  ·unfold bE; split <;> rfl
  ·rfl
  ·unfold aQ; split; rfl; split <;> rfl
 ·unfold bc; split <;> rfl
 ·unfold aX; split; rfl; split; rfl; split <;> rfl
 ·unfold ba; split <;> rfl
theorem tP {l:List Sess} {k:Nat} {q:Int} {R:Reply} (h:k<l.length):(l.set k (Sess.mk (l.getD k (dflt (.nm .sess))).client q (l.getD k (dflt (.nm .sess))).last)).set k (Sess.mk ((l.set k (Sess.mk (l.getD k (dflt (.nm .sess))).client q (l.getD k (dflt (.nm .sess))).last)).getD k (dflt (.nm .sess))).client ((l.set k (Sess.mk (l.getD k (dflt (.nm .sess))).client q (l.getD k (dflt (.nm .sess))).last)).getD k (dflt (.nm .sess))).seq R)=l.set k { l.getD k (dflt (.nm .sess)) with seq:=q,last:=R }:=by
 have e:∀ x:Sess,(l.set k x).getD k (dflt (.nm .sess))=x:=fun x=>by
  rw [List.getD_eq_getElem?_getD,List.getElem?_set_self h]; rfl
 rw [e,List.set_set]
section
variable {v nx kp qt:Int} {se:List Sess} {op:List Opn} {sn:List Snap} {c:Command}
theorem SZ (h:ay Sess.client c.client se<0):bB (State.mk v nx kp qt se op sn) c=(State.mk v nx kp qt se op sn,⟨11,0⟩):=by
 simp only [bB,if_pos h]
theorem SP (h:0<=ay Sess.client c.client se) (e:c.seq=(se.getD (ay Sess.client c.client se).toNat (dflt (.nm .sess))).seq):bB (State.mk v nx kp qt se op sn) c=(State.mk v nx kp qt se op sn,(se.getD (ay Sess.client c.client se).toNat (dflt (.nm .sess))).last):=by
 have h1:¬ ay Sess.client c.client se<0:=by omega
 simp only [bB,if_neg h1,if_pos e]
theorem SL (h:0<=ay Sess.client c.client se) (e:¬ c.seq=(se.getD (ay Sess.client c.client se).toNat (dflt (.nm .sess))).seq) (l:c.seq<(se.getD (ay Sess.client c.client se).toNat (dflt (.nm .sess))).seq):bB (State.mk v nx kp qt se op sn) c=(State.mk v nx kp qt se op sn,⟨13,0⟩):=by
 have h1:¬ ay Sess.client c.client se<0:=by omega
 simp only [bB,if_neg h1,if_neg e,if_pos l]
theorem SM (h:0<=ay Sess.client c.client se) (e:¬ c.seq=(se.getD (ay Sess.client c.client se).toNat (dflt (.nm .sess))).seq) (l:(se.getD (ay Sess.client c.client se).toNat (dflt (.nm .sess))).seq<=c.seq) (g:(se.getD (ay Sess.client c.client se).toNat (dflt (.nm .sess))).seq+1<c.seq):bB (State.mk v nx kp qt se op sn) c=(State.mk v nx kp qt se op sn,⟨14,0⟩):=by
 have h1:¬ ay Sess.client c.client se<0:=by omega
 have h2:¬ c.seq<(se.getD (ay Sess.client c.client se).toNat (dflt (.nm .sess))).seq:=by omega
 simp only [bB,if_neg h1,if_neg e,if_neg h2,if_pos g]
theorem Td (h:0<=ay Sess.client c.client se) (e:¬ c.seq=(se.getD (ay Sess.client c.client se).toNat (dflt (.nm .sess))).seq) (l:(se.getD (ay Sess.client c.client se).toNat (dflt (.nm .sess))).seq<=c.seq) (g:c.seq<=(se.getD (ay Sess.client c.client se).toNat (dflt (.nm .sess))).seq+1):bB (State.mk v nx kp qt se op sn) c=({ (cZ (State.mk v nx kp qt se op sn) c).1 with sess:=(cZ (State.mk v nx kp qt se op sn) c).1.sess.set (ay Sess.client c.client se).toNat { (cZ (State.mk v nx kp qt se op sn) c).1.sess.getD (ay Sess.client c.client se).toNat (dflt (.nm .sess)) with seq:=c.seq,last:=(cZ (State.mk v nx kp qt se op sn) c).2 } },(cZ (State.mk v nx kp qt se op sn) c).2):=by
 have h1:¬ ay Sess.client c.client se<0:=by omega
 have h2:¬ c.seq<(se.getD (ay Sess.client c.client se).toNat (dflt (.nm .sess))).seq:=by omega
 have h3:¬ (se.getD (ay Sess.client c.client se).toNat (dflt (.nm .sess))).seq+1<c.seq:=by omega
 simp only [bB,if_neg h1,if_neg e,if_neg h2,if_neg h3]
theorem CB (h:0<=ay Sess.client c.client se):ay Sess.client c.client se<((cZ (State.mk v nx kp qt se op sn) c).1.sess.length:Int):=by rw [zm]; exact cw h
theorem sq (h:0<=ay Sess.client c.client se):(ay Sess.client c.client se).toNat<(cZ (State.mk v nx kp qt se op sn) c).1.sess.length:=by have:=CB (v:=v) (nx:=nx) (kp:=kp) (qt:=qt) (op:=op) (sn:=sn) h; omega
theorem PK {x:Sess} (h:0<=ay Sess.client c.client se):ay Sess.client c.client se<(((cZ (State.mk v nx kp qt se op sn) c).1.sess.set (ay Sess.client c.client se).toNat x).length:Int):=by rw [List.length_set]; exact CB h
theorem Rf (h:dx (State.mk v nx kp qt se op sn) c=0) (h0:0<=ay Sess.client c.client se):I64 ((se.getD (ay Sess.client c.client se).toNat (dflt (.nm .sess))).seq+1):=by
 have h1:=(eQ (wD h)).2.2.1
 simp only [s_,Bool.and_eq_true,List.all_eq_true] at h1
 have h2:=h1.2 _ (List.mem_of_getElem? (gd (d:=dflt (.nm .sess)) (k:=(ay Sess.client c.client se).toNat) (l:=se) (by have:=cw h0; omega)))
 simp only [ck,Bool.and_eq_true] at h2
 have h3:=EY h2.1.1
 constructor <;> omega
end
theorem EH (v:Int) (nx:Int) (kp:Int) (qt:Int) (c:Command) (se:List Sess) (op:List Opn) (sn:List Snap) (r0:Int) (r1:Int) (r2:Int) (r3:Int) (r4:Reply) (r5:List Sess) (r6:List Opn) (r7:List Snap):mK tyT FY [] Tryz.f65 [.agg ([.int (v),.int (nx),.int (kp),.int (qt),.own 0,.own 1,.own 2]),.agg (cellsOf (.nm .command) c)] [.row 82 (.nm .sess) (se),.row 63 (.nm .opn) (op),.row 73 (.nm .snap) (sn)] [.agg ([.int (r0),.int (r1),.int (r2),.int (r3),.own 0,.own 1,.own 2]),.agg (cellsOf (.nm .reply) r4)] [.row 82 (.nm .sess) (r5),.row 63 (.nm .opn) (r6),.row 73 (.nm .snap) (r7)]=((fun (q7:Prop)=>(fun (q6:Int)=>(fun (q5:Int)=>(fun (q4:Prop)=>(fun (q3:den (Sh.nm NT.sess))=>(fun (q2:State × Reply)=>(fun (q1:Int)=>(fun (q0:den (Sh.nm NT.sess))=>I64 v->I64 nx->I64 kp->I64 qt->I64 c.kind->I64 c.client->I64 q6->I64 c.set->I64 c.id->I64 c.n->c.chunks.length*(8:Nat)<=(140737488355328:Nat)->c.text.b.length<=(140737488355328:Nat)->I64 q1->(q1<q5->I64 (11:Int)->I64 q5->v=r0/\nx=r1/\kp=r2/\qt=r3/\(11:Int)=r4.code/\q4)/\(q5<=q1->q5<=q1/\q1<(↑se.length:Int)/\(I64 (se.getD q1.toNat q3).client->I64 (se.getD q1.toNat q3).seq->I64 (se.getD q1.toNat q3).last.code->I64 (se.getD q1.toNat q3).last.n->(q6=(se.getD q1.toNat q3).seq->v=r0/\nx=r1/\kp=r2/\qt=r3/\(se.getD q1.toNat q3).last.code=r4.code/\(se.getD q1.toNat q3).last.n=r4.n/\q7)/\(¬q6=(se.getD q1.toNat q3).seq->(q6<(se.getD q1.toNat q3).seq->I64 (13:Int)->I64 q5->v=r0/\nx=r1/\kp=r2/\qt=r3/\(13:Int)=r4.code/\q4)/\((se.getD q1.toNat q3).seq<=q6->I64 ((se.getD q1.toNat q3).seq+(1:Int))/\((se.getD q1.toNat q3).seq+(1:Int)<q6->I64 (14:Int)->I64 q5->v=r0/\nx=r1/\kp=r2/\qt=r3/\(14:Int)=r4.code/\q4)/\(q6<=(se.getD q1.toNat q3).seq+(1:Int)->I64 q2.fst.version->I64 q2.fst.next->I64 q2.fst.keep->I64 q2.fst.quota->I64 q2.snd.code->I64 q2.snd.n->(q5<=q1/\q1<(↑q2.fst.sess.length:Int))/\(I64 q0.client->I64 q0.seq->I64 q0.last.code->I64 q0.last.n->q5<=q1/\q1<(↑(q2.fst.sess.set q1.toNat (Sess.mk q0.client q6 q0.last)).length:Int))/\(I64 q0.client->I64 q0.seq->I64 q0.last.code->I64 q0.last.n->I64 ((q2.fst.sess.set q1.toNat (Sess.mk q0.client q6 q0.last)).getD q1.toNat q3).client->I64 ((q2.fst.sess.set q1.toNat (Sess.mk q0.client q6 q0.last)).getD q1.toNat q3).seq->I64 ((q2.fst.sess.set q1.toNat (Sess.mk q0.client q6 q0.last)).getD q1.toNat q3).last.code->I64 ((q2.fst.sess.set q1.toNat (Sess.mk q0.client q6 q0.last)).getD q1.toNat q3).last.n->q2.fst.version=r0/\q2.fst.next=r1/\q2.fst.keep=r2/\q2.fst.quota=r3/\q2.snd.code=r4.code/\q2.snd.n=r4.n/\(q2.fst.sess.set q1.toNat (Sess.mk q0.client q6 q0.last)).set q1.toNat (Sess.mk ((q2.fst.sess.set q1.toNat (Sess.mk q0.client q6 q0.last)).getD q1.toNat q3).client ((q2.fst.sess.set q1.toNat (Sess.mk q0.client q6 q0.last)).getD q1.toNat q3).seq q2.snd)=r5/\q2.fst.opens=r6/\q2.fst.snaps=r7))))))) (q2.fst.sess.getD q1.toNat q3)) (ay Sess.client c.client se)) (cZ (State.mk v nx kp qt se op sn) c)) (dflt (Sh.nm NT.sess))) (q5=r4.n/\q7)) (0:Int)) c.seq) (se=r5/\op=r6/\sn=r7)):=by kernel_rfl
theorem FH (v:Int) (nx:Int) (kp:Int) (qt:Int) (c:Command) (se:List Sess) (op:List Opn) (sn:List Snap) (h0:dx (State.mk v nx kp qt se op sn) c=0):Sat Tryz.prog (aj tyT) 65 [.agg ([.int (v),.int (nx),.int (kp),.int (qt),.own 0,.own 1,.own 2]),.agg (cellsOf (.nm .command) c)] [.row 82 (.nm .sess) (se),.row 63 (.nm .opn) (op),.row 73 (.nm .snap) (sn)] ⟨[dx (State.mk v nx kp qt se op sn) c=0],[.agg ([.int (((bB (State.mk v nx kp qt se op sn) c).1.version)),.int (((bB (State.mk v nx kp qt se op sn) c).1.next)),.int (((bB (State.mk v nx kp qt se op sn) c).1.keep)),.int (((bB (State.mk v nx kp qt se op sn) c).1.quota)),.own 0,.own 1,.own 2]),.agg (cellsOf (.nm .reply) ((bB (State.mk v nx kp qt se op sn) c).2))],some ([.row 82 (.nm .sess) (((bB (State.mk v nx kp qt se op sn) c).1.sess)),.row 63 (.nm .opn) (((bB (State.mk v nx kp qt se op sn) c).1.opens)),.row 73 (.nm .snap) (((bB (State.mk v nx kp qt se op sn) c).1.snaps))]),false⟩:=by
 refine db uL [] Tryz.func65 (by decide) (by kernel_rfl) ?_
 rw [EH]
 (repeat' (first | with_reducible refine And.intro ?_ ?_ | with_reducible refine and_imp.2 ?_ | intro))
 all_goals (first | (first | with_reducible rfl | with_reducible assumption | omega | (refine ah ?_ ?_ <;> omega)) | exact cw (by with_reducible assumption) | exact CB (by with_reducible assumption) | exact PK (by with_reducible assumption) | exact Rf (by with_reducible assumption) (by with_reducible assumption) | (rw [SZ] <;> first | rfl | with_reducible assumption | exact tP (sq (by with_reducible assumption))) | (rw [SP] <;> first | rfl | with_reducible assumption | exact tP (sq (by with_reducible assumption))) | (rw [SL] <;> first | rfl | with_reducible assumption | exact tP (sq (by with_reducible assumption))) | (rw [SM] <;> first | rfl | with_reducible assumption | exact tP (sq (by with_reducible assumption))) | (rw [Td] <;> first | rfl | with_reducible assumption | exact tP (sq (by with_reducible assumption))))
def CV:cj:=(br 65 (bp (ai (kG (aq cI (aq cI (aq cI (aq cI (aq (bf 0) (aq (bf 1) (aq (bf 2) bG)))))))) (ai (kT (.nm .command)) aK)) (az (bd 82 (.nm .sess)) (az (bd 63 (.nm .opn)) (az (bd 73 (.nm .snap)) aJ))) fun ((v,nx,kp,qt,_,_,_,_),c,_) (se,op,sn,_)=>⟨[dx (State.mk v nx kp qt se op sn) c=0],[.agg ([.int (((bB (State.mk v nx kp qt se op sn) c).1.version)),.int (((bB (State.mk v nx kp qt se op sn) c).1.next)),.int (((bB (State.mk v nx kp qt se op sn) c).1.keep)),.int (((bB (State.mk v nx kp qt se op sn) c).1.quota)),.own 0,.own 1,.own 2]),.agg (cellsOf (.nm .reply) ((bB (State.mk v nx kp qt se op sn) c).2))],some ([.row 82 (.nm .sess) (((bB (State.mk v nx kp qt se op sn) c).1.sess)),.row 63 (.nm .opn) (((bB (State.mk v nx kp qt se op sn) c).1.opens)),.row 73 (.nm .snap) (((bB (State.mk v nx kp qt se op sn) c).1.snaps))]),false⟩) FY)
theorem uA:aN Tryz.prog (aj tyT) CV:=(av (au (ab (Oy (ae aw (ae aw (ae aw (ae aw (ae aD (ae aD (ae aD aF)))))))) (ab bn ak)) (ag aC (ag aC (ag aC al))) fun ((v,nx,kp,qt,_,_,_,_),c,_) (se,op,sn,_) hp=>FH v nx kp qt c se op sn (dC hp)) uL)
end Go.Proofs.YtladifkbefehdaaGreat
namespace Go.Proofs.YtladifkbefehdaaGreat
open Go.RowKit
section
variable {s:State} {c:Command}
theorem Mg (h:(if mayF s s.version=0 then cc c s.version else 1)=0):dx s c=0:=h
theorem MI (h:(if mayF s s.version=0 then cc c s.version else 1)=0):I64 (s.version+1):=by
 have h1:=(eQ (wD h)).2.1
 simp only [iD,Bool.and_eq_true] at h1
 have:=EY h1.1.1.1
 constructor <;> omega
theorem Rj (h:¬ (if mayF s s.version=0 then cc c s.version else 1)=0):ft s c=(s,⟨(if mayF s s.version=0 then cc c s.version else 1),0⟩):=by
 have h:¬ dx s c=0:=h
 rw [ft,if_pos h]; rfl
theorem ON (h:(if mayF s s.version=0 then cc c s.version else 1)=0):ft s c=if c.kind=8 then (if ¬ c.n=s.version+1 then (s,⟨1,0⟩) else ({ s with version:=c.n },⟨0,c.n⟩))
 else if c.kind=1 then (if 0<=ay Sess.client c.client s.sess then (s,⟨12,0⟩) else ({ s with sess:=sG s.sess (s.sess.takeWhile fun y=>decide (y.client<c.client)).length ⟨c.client,0,⟨0,0⟩⟩ },⟨0,0⟩))
 else bB s c:=by
 have h:¬ ¬ dx s c=0:=fun k=>k h
 rw [ft,if_neg h]
theorem MF (h:(if mayF s s.version=0 then cc c s.version else 1)=0) (k:c.kind=8) (n:¬ c.n=s.version+1):ft s c=(s,⟨1,0⟩):=by rw [ON h,if_pos k,if_pos n]
theorem KV (h:(if mayF s s.version=0 then cc c s.version else 1)=0) (k:c.kind=8) (n:c.n=s.version+1):ft s c=({ s with version:=c.n },⟨0,c.n⟩):=by rw [ON h,if_pos k,if_neg (fun h=>h n)]
theorem LC (h:(if mayF s s.version=0 then cc c s.version else 1)=0) (k:c.kind=1) (n:0<=ay Sess.client c.client s.sess):ft s c=(s,⟨12,0⟩):=by rw [ON h,if_neg (by omega),if_pos k,if_pos n]
theorem LQ (h:(if mayF s s.version=0 then cc c s.version else 1)=0) (k:c.kind=1) (n:ay Sess.client c.client s.sess<0):ft s c=({ s with sess:=sG s.sess (s.sess.takeWhile fun y=>decide (y.client<c.client)).length ⟨c.client,0,⟨0,0⟩⟩ },⟨0,0⟩):=by rw [ON h,if_neg (by omega),if_pos k,if_neg (by omega)]
theorem RB (h:(if mayF s s.version=0 then cc c s.version else 1)=0) (k:¬ c.kind=8) (n:¬ c.kind=1):ft s c=bB s c:=by rw [ON h,if_neg k,if_neg n]
theorem cW {l:List Sess} {k:Nat} {x:Sess} (hs:k<=l.length) (ha:(l.take k).all (fun y=>decide (y.client<c.client))=true) (hb:(l.length:Int)<=k\/c.client<=(l.getD k (dflt (.nm .sess))).client):l.take k++[x]++l.drop k=sG l (l.takeWhile fun y=>decide (y.client<c.client)).length x:=by
 have:k=(l.takeWhile fun y=>decide (y.client<c.client)).length:=by
  refine Cw ha hs ?_
  by_cases hl:(l.length:Int)<=k
  ·exact .inl hl
  ·refine .inr ⟨by omega,_,gd (d:=dflt (.nm .sess)) (by omega),?_⟩
   rcases hb with hb | hb
   ·omega
   ·exact decide_eq_false (by omega)
 rw [<- this]; simp [sG]
theorem Fa {l:List Sess} {k:Nat} (ha:(l.take k).all (fun y=>decide (y.client<c.client))=true) (h:(k:Int)<l.length) (hb:(l.getD k (dflt (.nm .sess))).client<c.client):(l.take (k+1)).all (fun y=>decide (y.client<c.client))=true:=by
 rw [ax (gd (d:=dflt (.nm .sess)) h),List.all_append,ha]; simp only [List.all_cons,List.all_nil,decide_eq_true hb]; rfl
end
def Pz (st:State) (c:Command):List (Nat × LI):=[(15,{ σ:=Nat,F:=fun k=>([(2,one (.ptr 0 0)),(3,one (.ptr 1 0)),(4,one (.ptr 2 0)),(5,one (.ptr 3 0)),(7,one (.int k))],[.box 43 ([.int ((st.version)),.int ((st.next)),.int ((st.keep)),.int ((st.quota)),.own 4,.own 5,.own 6]),.box 24 (cellsOf (.nm .command) ((c))),.box 43 ([.int ((0)),.int ((0)),.int ((0)),.int ((0)),.em true,.em true,.em true]),.box 56 ([.int ((0)),.int ((0))]),.row 82 (.nm .sess) ((st.sess)),.row 63 (.nm .opn) ((st.opens)),.row 73 (.nm .snap) ((st.snaps))]),J:=fun k=>k<=st.sess.length/\(st.sess.take k).all (fun y=>decide (y.client<c.client))=true,μ:=fun k=>st.sess.length - k })]
theorem OD (st:State) (c:Command) (r0:Int) (r1:Int) (r2:Int) (r3:Int) (r4:Reply) (r5:List Sess) (r6:List Opn) (r7:List Snap):po tyT CV (Pz st c) Tryz.f34 [.agg (cellsOf (.nm .state) st),.agg (cellsOf (.nm .command) c)] [] [.agg ([.int (r0),.int (r1),.int (r2),.int (r3),.own 0,.own 1,.own 2]),.agg (cellsOf (.nm .reply) r4)] [.row 82 (.nm .sess) (r5),.row 63 (.nm .opn) (r6),.row 73 (.nm .snap) (r7)]=((fun (q12:Reply)=>(fun (q11:den (Sh.nm NT.sess))=>(fun (q10:Prop)=>(fun (q9:Prop)=>(fun (q8:Prop)=>(fun (q7:Int)=>(fun (q6:Int)=>(fun (q5:Prop)=>(fun (q4:State)=>(fun (q3:Int)=>(fun (q2:List Sess)=>(fun (q1:Int)=>(fun (q0:Prop)=>I64 q3->I64 st.next->I64 st.keep->I64 st.quota->q2.length*(32:Nat)<=(140737488355328:Nat)->st.opens.length*(16:Nat)<=(140737488355328:Nat)->st.snaps.length*(64:Nat)<=(140737488355328:Nat)->I64 c.kind->I64 q7->I64 c.seq->I64 c.set->I64 c.id->I64 c.n->c.chunks.length*(8:Nat)<=(140737488355328:Nat)->c.text.b.length<=(140737488355328:Nat)->I64 q3->I64 st.next->I64 st.keep->I64 st.quota->I64 (if mayF st q3=q1 then cc c q3 else q6)->(¬(if mayF st q3=q1 then cc c q3 else q6)=q1->I64 (if mayF st q3=q1 then cc c q3 else q6)->I64 q1->q3=r0/\q10/\q9/\q8/\(if mayF st q3=q1 then cc c q3 else q6)=r4.code/\q1=r4.n/\q2=r5/\q5)/\((if mayF st q3=q1 then cc c q3 else q6)=q1->(c.kind=(8:Int)->I64 (q3+q6)/\(¬c.n=q3+q6->I64 q6->I64 q1->q3=r0/\q10/\q9/\q8/\q6=r4.code/\q1=r4.n/\q2=r5/\q5)/\(c.n=q3+q6->c.n=r0/\q10/\q9/\q8/\q1=r4.code/\c.n=r4.n/\q2=r5/\q5))/\(¬c.kind=(8:Int)->(c.kind=q6->I64 (ay Sess.client q7 q2)->(q1<=ay Sess.client q7 q2->I64 (12:Int)->I64 q1->q3=r0/\q10/\q9/\q8/\(12:Int)=r4.code/\q1=r4.n/\q2=r5/\q5)/\(ay Sess.client q7 q2<q1->∃ (s0:Nat),(fun (q13:Int)=>(q1=(↑s0:Int)/\q0)/\(s0<=q2.length/\((List.take s0 q2).all fun (y:Sess)=>decide (y.client<q7))=true)/\∀ (s:Nat),(fun (q15:Int)=>(fun (q14:den (Sh.nm NT.sess))=>s<=q2.length/\((List.take s q2).all fun (y:Sess)=>decide (y.client<q7))=true->(q15<q13->q1<=q15/\q15<q13)/\((q15<q13->I64 q14.client/\I64 q14.seq/\I64 q14.last.code/\I64 q14.last.n)->(q15<q13/\q14.client<q7->I64 (q15+q6)/\∃ (s':Nat),(q15+q6=(↑s':Int)/\q0)/\(s' <= q2.length/\((List.take s' q2).all fun (y:Sess)=>decide (y.client<q7))=true)/\q2.length - s' < q2.length - s)/\(q13<=q15\/q7<=q14.client->(q1<=q15/\q15<=q13)/\q2.length<(1048576:Nat)/\[Sess.mk q7 q1 (Reply.mk q1 q1)].length=(1:Nat)/\q3=r0/\q10/\q9/\q8/\q1=r4.code/\q1=r4.n/\List.take s q2++[Sess.mk q7 q1 (Reply.mk q1 q1)]++List.drop s q2=r5/\q5))) (q2.getD s q11)) (↑s:Int)) (↑q2.length:Int)))/\(¬c.kind=q6->dx st c=q1/\(I64 q4.version->I64 q4.next->I64 q4.keep->I64 q4.quota->I64 q12.code->I64 q12.n->q4.version=r0/\q4.next=r1/\q4.keep=r2/\q4.quota=r3/\q12.code=r4.code/\q12.n=r4.n/\q4.sess=r5/\q4.opens=r6/\q4.snaps=r7))))) (q3=q3/\st.next=st.next/\st.keep=st.keep/\st.quota=st.quota/\c.kind=c.kind/\q7=q7/\c.seq=c.seq/\c.set=c.set/\c.id=c.id/\c.n=c.n/\c.chunks=c.chunks/\c.text=c.text/\q1=q1/\q1=q1/\q1=q1/\q1=q1/\q1=q1/\q1=q1/\q2=q2/\st.opens=st.opens/\st.snaps=st.snaps)) (0:Int)) st.sess) st.version) (bB st c).fst) (st.opens=r6/\st.snaps=r7)) (1:Int)) c.client) (st.quota=r3)) (st.keep=r2)) (st.next=r1)) (dflt (Sh.nm NT.sess))) (bB st c).snd):=by kernel_rfl
theorem O_ (st:State) (c:Command):Sat Tryz.prog (aj tyT) 34 [.agg (cellsOf (.nm .state) st),.agg (cellsOf (.nm .command) c)] [] ⟨[],[.agg ([.int (((ft st c).1.version)),.int (((ft st c).1.next)),.int (((ft st c).1.keep)),.int (((ft st c).1.quota)),.own 0,.own 1,.own 2]),.agg (cellsOf (.nm .reply) ((ft st c).2))],some ([.row 82 (.nm .sess) (((ft st c).1.sess)),.row 63 (.nm .opn) (((ft st c).1.opens)),.row 73 (.nm .snap) (((ft st c).1.snaps))]),true⟩:=by
 refine dQ uA (Pz st c) Tryz.func34 (by decide) (by kernel_rfl) ?_
 rw [OD]
 (repeat' (first | with_reducible refine And.intro ?_ ?_ | with_reducible refine and_imp.2 ?_ | intro))
 all_goals try (first | (first | with_reducible rfl | with_reducible assumption | omega | (refine ah ?_ ?_ <;> omega)) | exact rfl | exact Mg (by with_reducible assumption) | exact MI (by with_reducible assumption) | exact xD (by with_reducible assumption) | exact Fa (by with_reducible assumption) (by with_reducible assumption) (by with_reducible assumption) | (rw [Rj] <;> first | rfl | with_reducible assumption | exact cW (by omega) (by with_reducible assumption) (by assumption)) | (rw [MF] <;> first | rfl | with_reducible assumption | exact cW (by omega) (by with_reducible assumption) (by assumption)) | (rw [KV] <;> first | rfl | with_reducible assumption | exact cW (by omega) (by with_reducible assumption) (by assumption)) | (rw [LC] <;> first | rfl | with_reducible assumption | exact cW (by omega) (by with_reducible assumption) (by assumption)) | (rw [LQ] <;> first | rfl | with_reducible assumption | exact cW (by omega) (by with_reducible assumption) (by assumption)) | (rw [RB] <;> first | rfl | with_reducible assumption | exact cW (by omega) (by with_reducible assumption) (by assumption)))
 all_goals try (refine ⟨0,?_⟩; (repeat' (first | with_reducible refine And.intro ?_ ?_ | with_reducible refine and_imp.2 ?_ | intro)))
 all_goals try (first | (first | with_reducible rfl | with_reducible assumption | omega | (refine ah ?_ ?_ <;> omega)) | exact rfl | exact Mg (by with_reducible assumption) | exact MI (by with_reducible assumption) | exact xD (by with_reducible assumption) | exact Fa (by with_reducible assumption) (by with_reducible assumption) (by with_reducible assumption) | (rw [Rj] <;> first | rfl | with_reducible assumption | exact cW (by omega) (by with_reducible assumption) (by assumption)) | (rw [MF] <;> first | rfl | with_reducible assumption | exact cW (by omega) (by with_reducible assumption) (by assumption)) | (rw [KV] <;> first | rfl | with_reducible assumption | exact cW (by omega) (by with_reducible assumption) (by assumption)) | (rw [LC] <;> first | rfl | with_reducible assumption | exact cW (by omega) (by with_reducible assumption) (by assumption)) | (rw [LQ] <;> first | rfl | with_reducible assumption | exact cW (by omega) (by with_reducible assumption) (by assumption)) | (rw [RB] <;> first | rfl | with_reducible assumption | exact cW (by omega) (by with_reducible assumption) (by assumption)))
 all_goals try (refine ⟨‹Nat› + 1,?_⟩; (repeat' (first | with_reducible refine And.intro ?_ ?_ | with_reducible refine and_imp.2 ?_ | intro)))
 all_goals (first | (first | with_reducible rfl | with_reducible assumption | omega | (refine ah ?_ ?_ <;> omega)) | exact rfl | exact Mg (by with_reducible assumption) | exact MI (by with_reducible assumption) | exact xD (by with_reducible assumption) | exact Fa (by with_reducible assumption) (by with_reducible assumption) (by with_reducible assumption) | (rw [Rj] <;> first | rfl | with_reducible assumption | exact cW (by omega) (by with_reducible assumption) (by assumption)) | (rw [MF] <;> first | rfl | with_reducible assumption | exact cW (by omega) (by with_reducible assumption) (by assumption)) | (rw [KV] <;> first | rfl | with_reducible assumption | exact cW (by omega) (by with_reducible assumption) (by assumption)) | (rw [LC] <;> first | rfl | with_reducible assumption | exact cW (by omega) (by with_reducible assumption) (by assumption)) | (rw [LQ] <;> first | rfl | with_reducible assumption | exact cW (by omega) (by with_reducible assumption) (by assumption)) | (rw [RB] <;> first | rfl | with_reducible assumption | exact cW (by omega) (by with_reducible assumption) (by assumption)))
def CY:cj:=(br 34 (bp (ai (kT (.nm .state)) (ai (kT (.nm .command)) aK)) aJ fun (st,c,_) (_)=>⟨[],[.agg ([.int (((ft st c).1.version)),.int (((ft st c).1.next)),.int (((ft st c).1.keep)),.int (((ft st c).1.quota)),.own 0,.own 1,.own 2]),.agg (cellsOf (.nm .reply) ((ft st c).2))],some ([.row 82 (.nm .sess) (((ft st c).1.sess)),.row 63 (.nm .opn) (((ft st c).1.opens)),.row 73 (.nm .snap) (((ft st c).1.snaps))]),true⟩) CV)
theorem uc:aN Tryz.prog (aj tyT) CY:=(av (au (ab bn (ab bn ak)) al fun (st,c,_) (_) _=>O_ st c ) uA)
end Go.Proofs.YtladifkbefehdaaGreat
namespace Go.Proofs.YtladifkbefehdaaGreat
open Go.RowKit
theorem Cg  (r0:State):cF tyT CY [] Tryz.f22 [] [] [.agg (cellsOf (.nm .state) r0)]=((1:Int)=r0.version/\(1:Int)=r0.next/\(0:Int)=r0.keep/\(0:Int)=r0.quota/\r0.sess=[]/\r0.opens=[]/\r0.snaps=[]):=by kernel_rfl
theorem EU :Sat Tryz.prog (aj tyT) 22 [] [] ⟨[],[.agg (cellsOf (.nm .state) (⟨1,1,0,0,[],[],[]⟩))],none,false⟩:=by
 refine aM uc [] Tryz.func22 (by decide) (by kernel_rfl) ?_
 rw [Cg]
 (repeat' (first | with_reducible refine And.intro ?_ ?_ | with_reducible refine and_imp.2 ?_ | intro))
 all_goals (first | (first | with_reducible rfl | with_reducible assumption | omega | (refine ah ?_ ?_ <;> omega)) | exact rfl)
def Kg:cj:=(br 22 (bp aK aJ fun (_) (_)=>⟨[],[.agg (cellsOf (.nm .state) (⟨1,1,0,0,[],[],[]⟩))],none,false⟩) CY)
theorem Cr:aN Tryz.prog (aj tyT) Kg:=(av (au ak al fun (_) (_) _=>EU  ) uc)
end Go.Proofs.YtladifkbefehdaaGreat
namespace Go.Proofs.YtladifkbefehdaaGreat
open Go.RowKit
def Ke:cj:=Kg
theorem Bx:aN Tryz.prog (aj tyT) Ke:=Cr
end Go.Proofs.YtladifkbefehdaaGreat
namespace Go.Proofs.YtladifkbefehdaaGreat
open Go.RowKit
section
variable {s:State} {c:Command}
end
end Go.Proofs.YtladifkbefehdaaGreat
namespace Go.Proofs.YtladifkbefehdaaGreat
open Go.RowKit
section
variable {α:Type} {key:α->Int} {most:Int}
end
end Go.Proofs.YtladifkbefehdaaGreat
namespace Go.Proofs.YtladifkbefehdaaGreat
open Go.RowKit
structure ActOk (s:State) (r:State × Reply):Prop where
 may:mayF r.1 r.1.version=0
 ver:r.1.version=s.version
 nxt:s.next<=r.1.next/\r.1.next<=s.next+1
 code:0<=r.2.code/\r.2.code<=99
 n:0<=r.2.n/\r.2.n<=1048576
end Go.Proofs.YtladifkbefehdaaGreat
namespace Go.Proofs.YtladifkbefehdaaGreat
open Go.RowKit
end Go.Proofs.YtladifkbefehdaaGreat
namespace Go.Proofs.YtladifkbefehdaaGreat
open Go.RowKit
section
variable {α:Type} {key:α->Int} {most:Int}
end
structure DoOk (s:State) (c:Command) (r:State × Reply):Prop where
 may:mayF r.1 r.1.version=0
 ver:r.1.version=if c.kind=8/\r.2.code=0 then s.version+1 else s.version
 nxt:s.next<=r.1.next/\r.1.next<=s.next+1
 len:s.sess.length<=r.1.sess.length
 seq:∀ x ∈ s.sess,∃ y ∈ r.1.sess,y.client=x.client/\x.seq<=y.seq/\y.seq<=x.seq+1
end Go.Proofs.YtladifkbefehdaaGreat
namespace Go.Proofs.YtladifkbefehdaaGreat
open Go.RowKit
section
variable {s:State} {c:Command}
end
end Go.Proofs.YtladifkbefehdaaGreat
namespace Go.Proofs.YtladifkbefehdaaGreat
open Go.RowKit
section
variable {α:Type} {key:α->Int} {most:Int}
end
section
variable {s:State} {x:Snap} {i:Nat}
end
section
variable {s:State} {x:Snap} {i:Nat}
end
section
variable {s:State} {x:Snap} {i:Nat}
end
end Go.Proofs.YtladifkbefehdaaGreat
namespace Go.Proofs.YtladifkbefehdaaGreat
open Go.RowKit
def keepsX (s:State) (c:Command) (r:State × Reply) (i:Nat) (x:Snap):Prop:=
 (ay Snap.id x.id r.1.snaps<0/\c.kind=5/\c.id=x.id/\x.held=false/\kB s i=false/\r.2.code=0) \/
 (0<=ay Snap.id x.id r.1.snaps/\∃ y,r.1.snaps.getD (ay Snap.id x.id r.1.snaps).toNat (dflt (.nm .snap))=y/\y.chunks=x.chunks/\y.set=x.set/\(y.held=x.held\/c.kind=9\/c.kind=10)/\(y.tag=x.tag\/c.kind=11))
structure KeepOk (s:State) (c:Command) (r:State × Reply):Prop where
 x:∀ i x,s.snaps[i]? = some x->keepsX s c r i x
 more:r.1.snaps.length<=s.snaps.length\/(r.1.snaps.length=s.snaps.length+1/\c.kind=3/\r.2.code=0/\(r.1.snaps.getD s.snaps.length (dflt (.nm .snap))).id=r.2.n/\(s.quota=0\/(distF r.1.snaps:Int)<=s.quota))
section
variable {s:State} {c:Command} {k:Nat}
end
end Go.Proofs.YtladifkbefehdaaGreat
namespace Go.Proofs.YtladifkbefehdaaGreat
open Go.RowKit
section
variable {α:Type} {key:α->Int} {most:Int}
end
section
variable {s:State} {c:Command}
end
end Go.Proofs.YtladifkbefehdaaGreat
namespace Go.Proofs.YtladifkbefehdaaGreat
open Go.RowKit
end Go.Proofs.YtladifkbefehdaaGreat
namespace Go.Proofs.YtladifkbefehdaaGreat
open Go.RowKit
section
variable {α:Type} {key:α->Int} {x y d:α}
variable {l:List α} {k:Nat}
end
def Kb:cj:=Ke
theorem Bc:aN Tryz.prog (aj tyT) Kb:=Bx
end Go.Proofs.YtladifkbefehdaaGreat
namespace Go.Proofs.YtladifkbefehdaaGreat
open Go.RowKit
section
variable {st:State} {c:Command}
variable {i:Int} {x:Snap}
end
def Ka:cj:=Kb
theorem Ft:aN Tryz.prog (aj tyT) Ka:=Bc
end Go.Proofs.YtladifkbefehdaaGreat
namespace Go.Proofs.YtladifkbefehdaaGreat
open Go.RowKit
section
variable {st:State} {c:Command}
end
def Kf:cj:=Ka
theorem Dn:aN Tryz.prog (aj tyT) Kf:=Ft
end Go.Proofs.YtladifkbefehdaaGreat
namespace Go.Proofs.YtladifkbefehdaaGreat
open Go.RowKit
section
variable {st:State} {c:Command}
end
def Js:cj:=Kf
theorem Be:aN Tryz.prog (aj tyT) Js:=Dn
end Go.Proofs.YtladifkbefehdaaGreat
namespace Go.Proofs.YtladifkbefehdaaGreat
open Go.RowKit
section
variable {l:List Int} {k:Nat} {x:Int}
end
def Jz:cj:=Js
theorem Dk:aN Tryz.prog (aj tyT) Jz:=Be
end Go.Proofs.YtladifkbefehdaaGreat
namespace Go.Proofs.YtladifkbefehdaaGreat
open Go.RowKit
section
variable {st:State} {v:Int}
end
def JJ:cj:=Jz
theorem EW:aN Tryz.prog (aj tyT) JJ:=Dk
end Go.Proofs.YtladifkbefehdaaGreat
namespace Go.Proofs.YtladifkbefehdaaGreat
open Go.RowKit
def JV:cj:=JJ
theorem Et:aN Tryz.prog (aj tyT) JV:=EW
end Go.Proofs.YtladifkbefehdaaGreat
namespace Go.Proofs.YtladifkbefehdaaGreat
open Go.RowKit
def JE:cj:=JV
theorem DX:aN Tryz.prog (aj tyT) JE:=Et
end Go.Proofs.YtladifkbefehdaaGreat
namespace Go.Proofs.YtladifkbefehdaaGreat
open Go.RowKit
def JD:cj:=JE
theorem Ct:aN Tryz.prog (aj tyT) JD:=DX
end Go.Proofs.YtladifkbefehdaaGreat
namespace Go.Proofs.YtladifkbefehdaaGreat
open Go.RowKit
def JU:cj:=JD
theorem EI:aN Tryz.prog (aj tyT) JU:=Ct
end Go.Proofs.YtladifkbefehdaaGreat
namespace Go.Proofs.YtladifkbefehdaaGreat
open Go.RowKit
def pM:cj:=JU
theorem iv:aN Tryz.prog (aj tyT) pM:=EI
end Go.Proofs.YtladifkbefehdaaGreat
namespace Go.Proofs.YtladifkbefehdaaGreat
open Go.RowKit
def fR (s:State) (l:List Command):State:=l.foldl (fun s c=>(ft s c).1) s
def eO (s:State):List Command->List Reply
 | []=>[]
 | c :: l=>(ft s c).2 :: eO (ft s c).1 l
section
variable {s:State} {l:List Command} {x:Command} {k:Nat}
theorem uY:∀ {l:List Command} {s:State},eO s (l++[x])=eO s l++[(ft (fR s l) x).2]
 | [],_=>rfl
 | c :: l,s=>by
  show (ft s c).2 :: eO (ft s c).1 (l++[x])=(ft s c).2 :: (eO (ft s c).1 l++[(ft (fR (ft s c).1 l) x).2])
  rw [uY]
theorem cD (hx:l[k]? = some x):(ft (fR s (l.take k)) x).1=fR s (l.take (k+1)):=by
 rw [ax hx]; unfold fR; rw [List.foldl_append]; rfl
theorem vL (hx:l[k]? = some x):eO s (l.take k)++[(ft (fR s (l.take k)) x).2]=eO s (l.take (k+1)):=by
 rw [ax hx,uY]
theorem xf:∀ {l:List Command} {s:State},(eO s l).length=l.length
 | [],_=>rfl
 | c :: l,s=>by
  show (eO (ft s c).1 l).length+1=l.length+1
  rw [xf]
end
section
variable {s:State} {l:List Command} {x:Command} {k:Nat} {d:Command}
theorem wo {y:Reply} (h:(k:Int)<l.length) (hl:l.length*88<=140737488355328):((eO s (l.take k)).length+[y].length)*16<=140737488355328:=by
 rw [xf,List.length_take]; simp only [List.length_cons,List.length_nil]; omega
theorem Mi (h:(l.length:Int)<=k):l.take k=l:=List.take_of_length_le (by omega)
end
theorem CI {a b:List Reply} {k:Nat} (h:a.take k=b.take k) (e:(a.getD k (dflt (.nm .reply))).code=(b.getD k (dflt (.nm .reply))).code) (e2:(a.getD k (dflt (.nm .reply))).n=(b.getD k (dflt (.nm .reply))).n) (hk:(k:Int)<a.length) (hb:(k:Int)<b.length):a.take (k+1)=b.take (k+1):=sM (d:=dflt (.nm .reply)) h (by omega) (by omega) (by
 cases ha:a.getD k (dflt (.nm .reply)); cases hc:b.getD k (dflt (.nm .reply)); rw [ha,hc] at e e2; cases e; cases e2; rfl)
theorem Fq {a b:List Reply} {k:Nat} (e:¬ (a.getD k (dflt (.nm .reply))).code=(b.getD k (dflt (.nm .reply))).code\/¬ (a.getD k (dflt (.nm .reply))).n=(b.getD k (dflt (.nm .reply))).n):false=decide (a=b):=by
 symm; apply decide_eq_false; rintro rfl; simp at e
def cq:List Command:=[Command.mk 1 1 0 0 0 0 [] (Str.mk []),Command.mk 2 1 1 2 0 0 [] (Str.mk []),Command.mk 2 1 1 2 0 0 [] (Str.mk [])]
end Go.Proofs.YtladifkbefehdaaGreat
namespace Go.Proofs.YtladifkbefehdaaGreat
open Go.RowKit
def yF (st:State):List (Nat × LI):=[(7,{ σ:=Nat,F:=fun k=>([(1,one (.ptr 0 0)),(2,one (.ptr 1 0)),(3,one (.own 2)),(4,one (.int k))],[.box 43 ([.int ((st.version)),.int ((st.next)),.int ((st.keep)),.int ((st.quota)),.fz (.nm .sess) ((st.sess.take 20)),.fz (.nm .opn) ((st.opens.take 20)),.fz (.nm .snap) ((st.snaps))]),.box 43 ([.int ((0)),.int ((0)),.int ((0)),.int ((0)),.em true,.em true,.em true]),.row 73 (.nm .snap) (((dL st).snaps.take k))]),J:=fun k=>k<=(dL st).snaps.length,μ:=fun k=>st.snaps.length - k })]
def JA (st:State) (l:List Command):List (Nat × LI):=[(4,{ σ:=Nat,F:=fun k=>([(2,one (.ptr 0 0)),(4,one (.ptr 1 0)),(6,one (.own 5)),(12,one (.fz (.nm .command) (l))),(13,one (.int (l).length)),(14,one (.int k))],[.box 43 ([.int ((((fR st (l.take k))).version)),.int ((((fR st (l.take k))).next)),.int ((((fR st (l.take k))).keep)),.int ((((fR st (l.take k))).quota)),.own 2,.own 3,.own 4]),.box 43 ([.int ((0)),.int ((0)),.int ((0)),.int ((0)),.em true,.em true,.em true]),.row 82 (.nm .sess) (((fR st (l.take k)).sess)),.row 63 (.nm .opn) (((fR st (l.take k)).opens)),.row 73 (.nm .snap) (((fR st (l.take k)).snaps)),.row 56 (.nm .reply) ((eO st (l.take k)))]),J:=fun k=>k<=l.length,μ:=fun k=>l.length - k })]
def yx (a:List Reply) (b:List Reply):List (Nat × LI):=[(4,{ σ:=Nat,F:=fun k=>([(0,one (.fz (.nm .reply) (a))),(1,one (.fz (.nm .reply) (b))),(5,one (.int k))],[]),J:=fun k=>k<=a.length/\a.length=b.length/\a.take k=b.take k,μ:=fun k=>a.length - k })]
theorem Bt (st:State) (r0:State):cF tyT pM (yF st) Tryz.f14 [.agg (cellsOf (.nm .state) st)] [] [.agg (cellsOf (.nm .state) r0)]=((fun (q23:Nat)=>(fun (q22:Prop)=>(fun (q21:Prop)=>(fun (q20:Prop)=>(fun (q19:Prop)=>(fun (q18:Int)=>(fun (q17:Nat)=>(fun (q16:Nat)=>(fun (q15:Int)=>(fun (q14:Nat)=>(fun (q13:Int)=>(fun (q12:Int)=>(fun (q11:Nat)=>(fun (q10:Int)=>(fun (q9:Int)=>(fun (q8:Prop)=>(fun (q7:Prop)=>(fun (q6:Prop)=>(fun (q5:Prop)=>(fun (q4:List Snap)=>(fun (q3:List (den (Sh.nm NT.sess)))=>(fun (q2:List (den (Sh.nm NT.opn)))=>(fun (q1:List Snap)=>(fun (q0:Prop)=>I64 st.version->I64 st.next->I64 st.keep->I64 st.quota->q23*(32:Nat)<=q11->st.opens.length*(16:Nat)<=q11->q4.length*q14<=q11->(q13<(↑q23:Int)->q12<=q13/\q13<=(↑q23:Int)/\(q13<q18->q12<=q13/\q13<=q18/\∃ (s0:Nat),(fun (q25:Nat)=>(fun (q24:Nat)=>(q12=(↑s0:Int)/\q5/\q8/\q7/\q6/\q3=q3/\q2=q2/\q4=q4/\q0/\q0/\q0/\q0/\List.take s0 q1=[])/\s0<=q25/\∀ (s:Nat),(fun (q27:List (den (Sh.nm NT.snap)))=>(fun (q26:Int)=>s<=q25->((↑s:Int)<(↑q4.length:Int)/\(↑s:Int)<q13->q12<=(↑s:Int)/\(↑s:Int)<(↑q4.length:Int)/\∀ (x:Snap),(fun (q32:Nat)=>(fun (q31:Snap)=>(fun (q30:Snap)=>(fun (q29:Snap)=>(fun (q28:Int)=>q4[s]? = some x->I64 x.id->I64 x.set->q32*(8:Nat)<=q11->x.tag.b.length<=q11->(q15<(↑q32:Int)->q12<=q15/\q15<=(↑q32:Int)/\(q10<q28->q12<=q10/\q10<=q28/\(q27.length+[q29].length)*q14<=q11/\I64 q26/\∃ (s':Nat),(q26=(↑s':Int)/\q5/\q8/\q7/\q6/\q3=q3/\q2=q2/\q4=q4/\q0/\q0/\q0/\q0/\q27++[q29]=List.take s' q1)/\s' <= q25/\q24 - s' < q24 - s)/\(q28<=q10->(q27.length+[q31].length)*q14<=q11/\I64 q26/\∃ (s':Nat),(q26=(↑s':Int)/\q5/\q8/\q7/\q6/\q3=q3/\q2=q2/\q4=q4/\q0/\q0/\q0/\q0/\q27++[q31]=List.take s' q1)/\s' <= q25/\q24 - s' < q24 - s))/\((↑q32:Int)<=q15->(q10<q28->q12<=q10/\q10<=q28/\(q27.length+[q30].length)*q14<=q11/\I64 q26/\∃ (s':Nat),(q26=(↑s':Int)/\q5/\q8/\q7/\q6/\q3=q3/\q2=q2/\q4=q4/\q0/\q0/\q0/\q0/\q27++[q30]=List.take s' q1)/\s' <= q25/\q24 - s' < q24 - s)/\(q28<=q10->(q27.length+[x].length)*q14<=q11/\I64 q26/\∃ (s':Nat),(q26=(↑s':Int)/\q5/\q8/\q7/\q6/\q3=q3/\q2=q2/\q4=q4/\q0/\q0/\q0/\q0/\q27++[x]=List.take s' q1)/\s' <= q25/\q24 - s' < q24 - s))) (↑x.tag.b.length:Int)) (Snap.mk x.id x.set (List.take q16 x.chunks) x.held (Str.mk (List.take q17 x.tag.b)))) (Snap.mk x.id x.set x.chunks x.held (Str.mk (List.take q17 x.tag.b)))) (Snap.mk x.id x.set (List.take q16 x.chunks) x.held x.tag)) x.chunks.length)/\((↑q4.length:Int)<=(↑s:Int)\/q13<=(↑s:Int)->q19/\q22/\q21/\q20/\q3=r0.sess/\q2=r0.opens/\q27=r0.snaps)) ((↑s:Int)+q9)) (List.take s q1)) q4.length) q1.length)/\(q18<=q13->∃ (s0:Nat),(fun (q34:Nat)=>(fun (q33:Nat)=>(q12=(↑s0:Int)/\q5/\q8/\q7/\q6/\q3=q3/\st.opens=q2/\q4=q4/\q0/\q0/\q0/\q0/\List.take s0 q1=[])/\s0<=q34/\∀ (s:Nat),(fun (q36:List (den (Sh.nm NT.snap)))=>(fun (q35:Int)=>s<=q34->((↑s:Int)<(↑q4.length:Int)/\(↑s:Int)<q13->q12<=(↑s:Int)/\(↑s:Int)<(↑q4.length:Int)/\∀ (x:Snap),(fun (q41:Nat)=>(fun (q40:Snap)=>(fun (q39:Snap)=>(fun (q38:Snap)=>(fun (q37:Int)=>q4[s]? = some x->I64 x.id->I64 x.set->q41*(8:Nat)<=q11->x.tag.b.length<=q11->(q15<(↑q41:Int)->q12<=q15/\q15<=(↑q41:Int)/\(q10<q37->q12<=q10/\q10<=q37/\(q36.length+[q38].length)*q14<=q11/\I64 q35/\∃ (s':Nat),(q35=(↑s':Int)/\q5/\q8/\q7/\q6/\q3=q3/\q2=q2/\q4=q4/\q0/\q0/\q0/\q0/\q36++[q38]=List.take s' q1)/\s' <= q34/\q33 - s' < q33 - s)/\(q37<=q10->(q36.length+[q40].length)*q14<=q11/\I64 q35/\∃ (s':Nat),(q35=(↑s':Int)/\q5/\q8/\q7/\q6/\q3=q3/\q2=q2/\q4=q4/\q0/\q0/\q0/\q0/\q36++[q40]=List.take s' q1)/\s' <= q34/\q33 - s' < q33 - s))/\((↑q41:Int)<=q15->(q10<q37->q12<=q10/\q10<=q37/\(q36.length+[q39].length)*q14<=q11/\I64 q35/\∃ (s':Nat),(q35=(↑s':Int)/\q5/\q8/\q7/\q6/\q3=q3/\q2=q2/\q4=q4/\q0/\q0/\q0/\q0/\q36++[q39]=List.take s' q1)/\s' <= q34/\q33 - s' < q33 - s)/\(q37<=q10->(q36.length+[x].length)*q14<=q11/\I64 q35/\∃ (s':Nat),(q35=(↑s':Int)/\q5/\q8/\q7/\q6/\q3=q3/\q2=q2/\q4=q4/\q0/\q0/\q0/\q0/\q36++[x]=List.take s' q1)/\s' <= q34/\q33 - s' < q33 - s))) (↑x.tag.b.length:Int)) (Snap.mk x.id x.set (List.take q16 x.chunks) x.held (Str.mk (List.take q17 x.tag.b)))) (Snap.mk x.id x.set x.chunks x.held (Str.mk (List.take q17 x.tag.b)))) (Snap.mk x.id x.set (List.take q16 x.chunks) x.held x.tag)) x.chunks.length)/\((↑q4.length:Int)<=(↑s:Int)\/q13<=(↑s:Int)->q19/\q22/\q21/\q20/\q3=r0.sess/\q2=r0.opens/\q36=r0.snaps)) ((↑s:Int)+q9)) (List.take s q1)) q4.length) q1.length))/\((↑q23:Int)<=q13->(q13<q18->q12<=q13/\q13<=q18/\∃ (s0:Nat),(fun (q43:Nat)=>(fun (q42:Nat)=>(q12=(↑s0:Int)/\q5/\q8/\q7/\q6/\st.sess=q3/\q2=q2/\q4=q4/\q0/\q0/\q0/\q0/\List.take s0 q1=[])/\s0<=q43/\∀ (s:Nat),(fun (q45:List (den (Sh.nm NT.snap)))=>(fun (q44:Int)=>s<=q43->((↑s:Int)<(↑q4.length:Int)/\(↑s:Int)<q13->q12<=(↑s:Int)/\(↑s:Int)<(↑q4.length:Int)/\∀ (x:Snap),(fun (q50:Nat)=>(fun (q49:Snap)=>(fun (q48:Snap)=>(fun (q47:Snap)=>(fun (q46:Int)=>q4[s]? = some x->I64 x.id->I64 x.set->q50*(8:Nat)<=q11->x.tag.b.length<=q11->(q15<(↑q50:Int)->q12<=q15/\q15<=(↑q50:Int)/\(q10<q46->q12<=q10/\q10<=q46/\(q45.length+[q47].length)*q14<=q11/\I64 q44/\∃ (s':Nat),(q44=(↑s':Int)/\q5/\q8/\q7/\q6/\q3=q3/\q2=q2/\q4=q4/\q0/\q0/\q0/\q0/\q45++[q47]=List.take s' q1)/\s' <= q43/\q42 - s' < q42 - s)/\(q46<=q10->(q45.length+[q49].length)*q14<=q11/\I64 q44/\∃ (s':Nat),(q44=(↑s':Int)/\q5/\q8/\q7/\q6/\q3=q3/\q2=q2/\q4=q4/\q0/\q0/\q0/\q0/\q45++[q49]=List.take s' q1)/\s' <= q43/\q42 - s' < q42 - s))/\((↑q50:Int)<=q15->(q10<q46->q12<=q10/\q10<=q46/\(q45.length+[q48].length)*q14<=q11/\I64 q44/\∃ (s':Nat),(q44=(↑s':Int)/\q5/\q8/\q7/\q6/\q3=q3/\q2=q2/\q4=q4/\q0/\q0/\q0/\q0/\q45++[q48]=List.take s' q1)/\s' <= q43/\q42 - s' < q42 - s)/\(q46<=q10->(q45.length+[x].length)*q14<=q11/\I64 q44/\∃ (s':Nat),(q44=(↑s':Int)/\q5/\q8/\q7/\q6/\q3=q3/\q2=q2/\q4=q4/\q0/\q0/\q0/\q0/\q45++[x]=List.take s' q1)/\s' <= q43/\q42 - s' < q42 - s))) (↑x.tag.b.length:Int)) (Snap.mk x.id x.set (List.take q16 x.chunks) x.held (Str.mk (List.take q17 x.tag.b)))) (Snap.mk x.id x.set x.chunks x.held (Str.mk (List.take q17 x.tag.b)))) (Snap.mk x.id x.set (List.take q16 x.chunks) x.held x.tag)) x.chunks.length)/\((↑q4.length:Int)<=(↑s:Int)\/q13<=(↑s:Int)->q19/\q22/\q21/\q20/\q3=r0.sess/\q2=r0.opens/\q45=r0.snaps)) ((↑s:Int)+q9)) (List.take s q1)) q4.length) q1.length)/\(q18<=q13->∃ (s0:Nat),(fun (q52:Nat)=>(fun (q51:Nat)=>(q12=(↑s0:Int)/\q5/\q8/\q7/\q6/\st.sess=q3/\st.opens=q2/\q4=q4/\q0/\q0/\q0/\q0/\List.take s0 q1=[])/\s0<=q52/\∀ (s:Nat),(fun (q54:List (den (Sh.nm NT.snap)))=>(fun (q53:Int)=>s<=q52->((↑s:Int)<(↑q4.length:Int)/\(↑s:Int)<q13->q12<=(↑s:Int)/\(↑s:Int)<(↑q4.length:Int)/\∀ (x:Snap),(fun (q59:Nat)=>(fun (q58:Snap)=>(fun (q57:Snap)=>(fun (q56:Snap)=>(fun (q55:Int)=>q4[s]? = some x->I64 x.id->I64 x.set->q59*(8:Nat)<=q11->x.tag.b.length<=q11->(q15<(↑q59:Int)->q12<=q15/\q15<=(↑q59:Int)/\(q10<q55->q12<=q10/\q10<=q55/\(q54.length+[q56].length)*q14<=q11/\I64 q53/\∃ (s':Nat),(q53=(↑s':Int)/\q5/\q8/\q7/\q6/\q3=q3/\q2=q2/\q4=q4/\q0/\q0/\q0/\q0/\q54++[q56]=List.take s' q1)/\s' <= q52/\q51 - s' < q51 - s)/\(q55<=q10->(q54.length+[q58].length)*q14<=q11/\I64 q53/\∃ (s':Nat),(q53=(↑s':Int)/\q5/\q8/\q7/\q6/\q3=q3/\q2=q2/\q4=q4/\q0/\q0/\q0/\q0/\q54++[q58]=List.take s' q1)/\s' <= q52/\q51 - s' < q51 - s))/\((↑q59:Int)<=q15->(q10<q55->q12<=q10/\q10<=q55/\(q54.length+[q57].length)*q14<=q11/\I64 q53/\∃ (s':Nat),(q53=(↑s':Int)/\q5/\q8/\q7/\q6/\q3=q3/\q2=q2/\q4=q4/\q0/\q0/\q0/\q0/\q54++[q57]=List.take s' q1)/\s' <= q52/\q51 - s' < q51 - s)/\(q55<=q10->(q54.length+[x].length)*q14<=q11/\I64 q53/\∃ (s':Nat),(q53=(↑s':Int)/\q5/\q8/\q7/\q6/\q3=q3/\q2=q2/\q4=q4/\q0/\q0/\q0/\q0/\q54++[x]=List.take s' q1)/\s' <= q52/\q51 - s' < q51 - s))) (↑x.tag.b.length:Int)) (Snap.mk x.id x.set (List.take q16 x.chunks) x.held (Str.mk (List.take q17 x.tag.b)))) (Snap.mk x.id x.set x.chunks x.held (Str.mk (List.take q17 x.tag.b)))) (Snap.mk x.id x.set (List.take q16 x.chunks) x.held x.tag)) x.chunks.length)/\((↑q4.length:Int)<=(↑s:Int)\/q13<=(↑s:Int)->q19/\q22/\q21/\q20/\q3=r0.sess/\q2=r0.opens/\q54=r0.snaps)) ((↑s:Int)+q9)) (List.take s q1)) q4.length) q1.length))) (q12=q12)) (dL st).snaps) (List.take (20:Nat) st.opens)) (List.take (20:Nat) st.sess)) st.snaps) (st.version=st.version)) (st.quota=st.quota)) (st.keep=st.keep)) (st.next=st.next)) (1:Int)) (40:Int)) (140737488355328:Nat)) (0:Int)) (20:Int)) (64:Nat)) (12:Int)) (12:Nat)) (40:Nat)) (↑st.opens.length:Int)) (st.version=r0.version)) (st.quota=r0.quota)) (st.keep=r0.keep)) (st.next=r0.next)) st.sess.length):=by kernel_rfl
theorem Cj (st:State):Sat Tryz.prog (aj tyT) 14 [.agg (cellsOf (.nm .state) st)] [] ⟨[],[.agg (cellsOf (.nm .state) (dL st))],none,false⟩:=by
 refine aM iv (yF st) Tryz.func14 (by decide) (by kernel_rfl) ?_
 rw [Bt]
 (repeat' (first | with_reducible refine And.intro ?_ ?_ | with_reducible refine and_imp.2 ?_ | intro))
 all_goals try (first | (first | with_reducible rfl | with_reducible assumption | omega | (refine ah ?_ ?_ <;> omega)) | exact rfl | exact (List.take_of_length_le (by omega)).symm | exact (LW (by with_reducible assumption) (by omega) (by omega) (by omega)) | exact (Nm (by with_reducible assumption) (by omega) (by omega) (by omega)) | exact (KM (by with_reducible assumption) (by omega) (by omega) (by omega)) | exact (LP (by with_reducible assumption) (by omega) (by omega) (by omega)) | exact (wM (by omega)) | exact (Ev (by omega) (by omega)) | exact (List.take_of_length_le (FV (by omega))))
 all_goals try (refine ⟨0,?_⟩; (repeat' (first | with_reducible refine And.intro ?_ ?_ | with_reducible refine and_imp.2 ?_ | intro)))
 all_goals try (first | (first | with_reducible rfl | with_reducible assumption | omega | (refine ah ?_ ?_ <;> omega)) | exact rfl | exact (List.take_of_length_le (by omega)).symm | exact (LW (by with_reducible assumption) (by omega) (by omega) (by omega)) | exact (Nm (by with_reducible assumption) (by omega) (by omega) (by omega)) | exact (KM (by with_reducible assumption) (by omega) (by omega) (by omega)) | exact (LP (by with_reducible assumption) (by omega) (by omega) (by omega)) | exact (wM (by omega)) | exact (Ev (by omega) (by omega)) | exact (List.take_of_length_le (FV (by omega))))
 all_goals try (refine ⟨‹Nat› + 1,?_⟩; (repeat' (first | with_reducible refine And.intro ?_ ?_ | with_reducible refine and_imp.2 ?_ | intro)))
 all_goals (first | (first | with_reducible rfl | with_reducible assumption | omega | (refine ah ?_ ?_ <;> omega)) | exact rfl | exact (List.take_of_length_le (by omega)).symm | exact (LW (by with_reducible assumption) (by omega) (by omega) (by omega)) | exact (Nm (by with_reducible assumption) (by omega) (by omega) (by omega)) | exact (KM (by with_reducible assumption) (by omega) (by omega) (by omega)) | exact (LP (by with_reducible assumption) (by omega) (by omega) (by omega)) | exact (wM (by omega)) | exact (Ev (by omega) (by omega)) | exact (List.take_of_length_le (FV (by omega))))
theorem Hv  (r0:List Command):cF tyT pM [] Tryz.f23 [] [] [.c (.fz (.nm .command) (r0))]=((fun (q1:Int)=>(fun (q0:Command)=>[Command.mk (1:Int) (1:Int) q1 q1 q1 q1 [] (Str.mk []),q0,q0]=r0) (Command.mk (2:Int) (1:Int) (1:Int) (2:Int) q1 q1 [] (Str.mk []))) (0:Int)):=by kernel_rfl
theorem Ha :Sat Tryz.prog (aj tyT) 23 [] [] ⟨[],[.c (.fz (.nm .command) ((cq)))],none,false⟩:=by
 refine aM iv [] Tryz.func23 (by decide) (by kernel_rfl) ?_
 rw [Hv]
 (repeat' (first | with_reducible refine And.intro ?_ ?_ | with_reducible refine and_imp.2 ?_ | intro))
 all_goals (first | (first | with_reducible rfl | with_reducible assumption | omega | (refine ah ?_ ?_ <;> omega)) | rfl)
theorem MP (st:State) (l:List Command) (r0:Int) (r1:Int) (r2:Int) (r3:Int) (r4:List Sess) (r5:List Opn) (r6:List Snap) (r7:List Reply):po tyT pM (JA st l) Tryz.f21 [.agg (cellsOf (.nm .state) st),.c (.fz (.nm .command) (l))] [] [.agg ([.int (r0),.int (r1),.int (r2),.int (r3),.own 0,.own 1,.own 2]),.c (.own 3)] [.row 82 (.nm .sess) (r4),.row 63 (.nm .opn) (r5),.row 73 (.nm .snap) (r6),.row 56 (.nm .reply) (r7)]=((fun (q2:Nat)=>(fun (q1:Nat)=>(fun (q0:Prop)=>I64 st.version->I64 st.next->I64 st.keep->I64 st.quota->st.sess.length*(32:Nat)<=q2->st.opens.length*(16:Nat)<=q2->st.snaps.length*(64:Nat)<=q2->l.length*(88:Nat)<=q2->I64 st.version->I64 st.next->I64 st.keep->I64 st.quota->∃ (s0:Nat),(fun (q3:State)=>(l=l/\(↑l.length:Int)=(↑q1:Int)/\(0:Int)=(↑s0:Int)/\st.version=q3.version/\st.next=q3.next/\st.keep=q3.keep/\st.quota=q3.quota/\q0/\q0/\q0/\q0/\st.sess=q3.sess/\st.opens=q3.opens/\st.snaps=q3.snaps/\eO st (List.take s0 l)=[])/\s0<=q1/\∀ (s:Nat),(fun (q4:State)=>s<=q1->((↑s:Int)<(↑q1:Int)->(0:Int)<=(↑s:Int)/\(↑s:Int)<(↑l.length:Int)/\∀ (x:Command),(fun (q6:Reply)=>(fun (q5:State)=>l[s]? = some x->I64 x.kind->I64 x.client->I64 x.seq->I64 x.set->I64 x.id->I64 x.n->x.chunks.length*(8:Nat)<=q2->x.text.b.length<=q2->I64 q5.version->I64 q5.next->I64 q5.keep->I64 q5.quota->I64 q6.code->I64 q6.n->((eO st (List.take s l)).length+[q6].length)*(16:Nat)<=q2/\I64 ((↑s:Int)+(1:Int))/\∃ (s':Nat),(fun (q7:State)=>(l=l/\(↑q1:Int)=(↑q1:Int)/\(↑s:Int)+(1:Int)=(↑s':Int)/\q5.version=q7.version/\q5.next=q7.next/\q5.keep=q7.keep/\q5.quota=q7.quota/\q0/\q0/\q0/\q0/\q5.sess=q7.sess/\q5.opens=q7.opens/\q5.snaps=q7.snaps/\eO st (List.take s l)++[q6]=eO st (List.take s' l))/\s' <= q1/\q1 - s' < q1 - s) (fR st (List.take s' l))) (ft q4 x).fst) (ft q4 x).snd)/\((↑q1:Int)<=(↑s:Int)->q4.version=r0/\q4.next=r1/\q4.keep=r2/\q4.quota=r3/\q4.sess=r4/\q4.opens=r5/\q4.snaps=r6/\eO st (List.take s l)=r7)) (fR st (List.take s l))) (fR st (List.take s0 l))) ((0:Int)=(0:Int))) l.length) (140737488355328:Nat)):=by kernel_rfl
theorem Nh (st:State) (l:List Command):Sat Tryz.prog (aj tyT) 21 [.agg (cellsOf (.nm .state) st),.c (.fz (.nm .command) (l))] [] ⟨[],[.agg ([.int (((fR st l).version)),.int (((fR st l).next)),.int (((fR st l).keep)),.int (((fR st l).quota)),.own 0,.own 1,.own 2]),.c (.own 3)],some ([.row 82 (.nm .sess) (((fR st l).sess)),.row 63 (.nm .opn) (((fR st l).opens)),.row 73 (.nm .snap) (((fR st l).snaps)),.row 56 (.nm .reply) ((eO st l))]),true⟩:=by
 refine dQ iv (JA st l) Tryz.func21 (by decide) (by kernel_rfl) ?_
 rw [MP]
 (repeat' (first | with_reducible refine And.intro ?_ ?_ | with_reducible refine and_imp.2 ?_ | intro))
 all_goals try (first | (first | with_reducible rfl | with_reducible assumption | omega | (refine ah ?_ ?_ <;> omega)) | exact rfl | exact (congrArg State.version (cD (by with_reducible assumption))) | exact (congrArg State.next (cD (by with_reducible assumption))) | exact (congrArg State.keep (cD (by with_reducible assumption))) | exact (congrArg State.quota (cD (by with_reducible assumption))) | exact (congrArg State.sess (cD (by with_reducible assumption))) | exact (congrArg State.opens (cD (by with_reducible assumption))) | exact (congrArg State.snaps (cD (by with_reducible assumption))) | exact (vL (by with_reducible assumption)) | exact (wo (by with_reducible assumption) (by with_reducible assumption)) | (rw [Mi (by omega)]; done))
 all_goals try (refine ⟨0,?_⟩; (repeat' (first | with_reducible refine And.intro ?_ ?_ | with_reducible refine and_imp.2 ?_ | intro)))
 all_goals try (first | (first | with_reducible rfl | with_reducible assumption | omega | (refine ah ?_ ?_ <;> omega)) | exact rfl | exact (congrArg State.version (cD (by with_reducible assumption))) | exact (congrArg State.next (cD (by with_reducible assumption))) | exact (congrArg State.keep (cD (by with_reducible assumption))) | exact (congrArg State.quota (cD (by with_reducible assumption))) | exact (congrArg State.sess (cD (by with_reducible assumption))) | exact (congrArg State.opens (cD (by with_reducible assumption))) | exact (congrArg State.snaps (cD (by with_reducible assumption))) | exact (vL (by with_reducible assumption)) | exact (wo (by with_reducible assumption) (by with_reducible assumption)) | (rw [Mi (by omega)]; done))
 all_goals try (refine ⟨‹Nat› + 1,?_⟩; (repeat' (first | with_reducible refine And.intro ?_ ?_ | with_reducible refine and_imp.2 ?_ | intro)))
 all_goals (first | (first | with_reducible rfl | with_reducible assumption | omega | (refine ah ?_ ?_ <;> omega)) | exact rfl | exact (congrArg State.version (cD (by with_reducible assumption))) | exact (congrArg State.next (cD (by with_reducible assumption))) | exact (congrArg State.keep (cD (by with_reducible assumption))) | exact (congrArg State.quota (cD (by with_reducible assumption))) | exact (congrArg State.sess (cD (by with_reducible assumption))) | exact (congrArg State.opens (cD (by with_reducible assumption))) | exact (congrArg State.snaps (cD (by with_reducible assumption))) | exact (vL (by with_reducible assumption)) | exact (wo (by with_reducible assumption) (by with_reducible assumption)) | (rw [Mi (by omega)]; done))
theorem CC (a:List Reply) (b:List Reply) (r0:Bool):cF tyT pM (yx a b) Tryz.f19 [.c (.fz (.nm .reply) (a)),.c (.fz (.nm .reply) (b))] [] [.c (.bool (.atom (r0)))]=((fun (q2:Nat)=>(fun (q1:Int)=>(fun (q0:den (Sh.nm NT.reply))=>a.length*(16:Nat)<=(140737488355328:Nat)->b.length*(16:Nat)<=(140737488355328:Nat)->(¬q1=(↑b.length:Int)->false=r0)/\(q1=(↑b.length:Int)->∃ (s0:Nat),(a=a/\b=b/\(0:Int)=(↑s0:Int))/\(s0<=q2/\q2=b.length/\List.take s0 a=List.take s0 b)/\∀ (s:Nat),(fun (q4:den (Sh.nm NT.reply))=>(fun (q3:den (Sh.nm NT.reply))=>s<=q2/\q2=b.length/\List.take s a=List.take s b->((↑s:Int)<q1->(0:Int)<=(↑s:Int)/\(↑s:Int)<q1/\(0:Int)<=(↑s:Int)/\(↑s:Int)<(↑b.length:Int)/\(I64 q3.code->I64 q3.n->I64 q4.code->I64 q4.n->(¬q3.code=q4.code\/¬q3.n=q4.n->false=r0)/\(q3.code=q4.code/\q3.n=q4.n->I64 ((↑s:Int)+(1:Int))/\∃ (s':Nat),(a=a/\b=b/\(↑s:Int)+(1:Int)=(↑s':Int))/\(s' <= q2/\q2=b.length/\List.take s' a=List.take s' b)/\q2 - s' < q2 - s)))/\(q1<=(↑s:Int)->true=r0)) (a.getD s q0)) (b.getD s q0))) (dflt (Sh.nm NT.reply))) (↑a.length:Int)) a.length):=by kernel_rfl
theorem Eu (a:List Reply) (b:List Reply):Sat Tryz.prog (aj tyT) 19 [.c (.fz (.nm .reply) (a)),.c (.fz (.nm .reply) (b))] [] ⟨[],[.c (.bool (.atom ((decide (a=b)))))],none,false⟩:=by
 refine aM iv (yx a b) Tryz.func19 (by decide) (by kernel_rfl) ?_
 rw [CC]
 (repeat' (first | with_reducible refine And.intro ?_ ?_ | with_reducible refine and_imp.2 ?_ | intro))
 all_goals try (first | (first | with_reducible rfl | with_reducible assumption | omega | (refine ah ?_ ?_ <;> omega)) | exact rfl | exact (kY (by with_reducible assumption)) | exact (CI (by with_reducible assumption) (by with_reducible assumption) (by with_reducible assumption) (by omega) (by omega)) | exact (Fq (by assumption)) | exact (gh (by omega) (by with_reducible assumption) (by omega)))
 all_goals try (refine ⟨0,?_⟩; (repeat' (first | with_reducible refine And.intro ?_ ?_ | with_reducible refine and_imp.2 ?_ | intro)))
 all_goals try (first | (first | with_reducible rfl | with_reducible assumption | omega | (refine ah ?_ ?_ <;> omega)) | exact rfl | exact (kY (by with_reducible assumption)) | exact (CI (by with_reducible assumption) (by with_reducible assumption) (by with_reducible assumption) (by omega) (by omega)) | exact (Fq (by assumption)) | exact (gh (by omega) (by with_reducible assumption) (by omega)))
 all_goals try (refine ⟨‹Nat› + 1,?_⟩; (repeat' (first | with_reducible refine And.intro ?_ ?_ | with_reducible refine and_imp.2 ?_ | intro)))
 all_goals (first | (first | with_reducible rfl | with_reducible assumption | omega | (refine ah ?_ ?_ <;> omega)) | exact rfl | exact (kY (by with_reducible assumption)) | exact (CI (by with_reducible assumption) (by with_reducible assumption) (by with_reducible assumption) (by omega) (by omega)) | exact (Fq (by assumption)) | exact (gh (by omega) (by with_reducible assumption) (by omega)))
def Ff:cj:=(br 19 (bp (ai (kC (cL (.nm .reply))) (ai (kC (cL (.nm .reply))) aK)) aJ fun (a,b,_) (_)=>⟨[],[.c (.bool (.atom ((decide (a=b)))))],none,false⟩) (br 21 (bp (ai (kT (.nm .state)) (ai (kC (cL (.nm .command))) aK)) aJ fun (st,l,_) (_)=>⟨[],[.agg ([.int (((fR st l).version)),.int (((fR st l).next)),.int (((fR st l).keep)),.int (((fR st l).quota)),.own 0,.own 1,.own 2]),.c (.own 3)],some ([.row 82 (.nm .sess) (((fR st l).sess)),.row 63 (.nm .opn) (((fR st l).opens)),.row 73 (.nm .snap) (((fR st l).snaps)),.row 56 (.nm .reply) ((eO st l))]),true⟩) (br 23 (bp aK aJ fun (_) (_)=>⟨[],[.c (.fz (.nm .command) ((cq)))],none,false⟩) (br 14 (bp (ai (kT (.nm .state)) aK) aJ fun (st,_) (_)=>⟨[],[.agg (cellsOf (.nm .state) (dL st))],none,false⟩) pM))))
theorem sF:aN Tryz.prog (aj tyT) Ff:=(av (au (ab (ao bb) (ab (ao bb) ak)) al fun (a,b,_) (_) _=>Eu a b ) (av (au (ab bn (ab (ao bb) ak)) al fun (st,l,_) (_) _=>Nh st l ) (av (au ak al fun (_) (_) _=>Ha  ) (av (au (ab bn ak) al fun (st,_) (_) _=>Cj st ) iv))))
end Go.Proofs.YtladifkbefehdaaGreat
namespace Go.Proofs.YtladifkbefehdaaGreat
open Go.RowKit
theorem Rm:fR (State.mk 1 1 0 0 [] [] []) cq=State.mk 1 1 0 0 [Sess.mk 1 1 (Reply.mk 0 0)] [Opn.mk 2 1] []:=by kernel_rfl
theorem R_:eO (State.mk 1 1 0 0 [] [] []) cq=[Reply.mk 0 0,Reply.mk 0 0,Reply.mk 0 0]:=by kernel_rfl
theorem zN  (r0:Bool):cF tyT Ff [] Tryz.f7 [] [] [.c (.bool (.atom (r0)))]=((fun (q6:Int)=>(fun (q5:Int)=>(fun (q4:Nat)=>(fun (q3:Nat)=>(fun (q2:Int)=>(fun (q1:den (Sh.nm NT.reply))=>(fun (q0:State)=>I64 q5->I64 q5->I64 q2->I64 q2->(0:Nat)*(32:Nat)<=(140737488355328:Nat)->(0:Nat)*(16:Nat)<=(140737488355328:Nat)->(0:Nat)*(64:Nat)<=(140737488355328:Nat)->cq.length*(88:Nat)<=(140737488355328:Nat)->I64 (fR q0 cq).version->I64 (fR q0 cq).next->I64 (fR q0 cq).keep->I64 (fR q0 cq).quota->((↑(eO q0 cq).length:Int)=q6->q2<=q2/\q2<(↑(eO q0 cq).length:Int))/\(((↑(eO q0 cq).length:Int)=q6->I64 ((eO q0 cq).getD q3 q1).code/\I64 ((eO q0 cq).getD q3 q1).n)->((↑(eO q0 cq).length:Int)=q6/\((eO q0 cq).getD q3 q1).code=q2/\((eO q0 cq).getD q3 q1).n=q2->q2<=(2:Int)/\(2:Int)<(↑(eO q0 cq).length:Int))/\(((↑(eO q0 cq).length:Int)=q6/\((eO q0 cq).getD q3 q1).code=q2/\((eO q0 cq).getD q3 q1).n=q2->I64 ((eO q0 cq).getD q4 q1).code/\I64 ((eO q0 cq).getD q4 q1).n)->((((↑(eO q0 cq).length:Int)=q6/\((eO q0 cq).getD q3 q1).code=q2/\((eO q0 cq).getD q3 q1).n=q2)/\((eO q0 cq).getD q4 q1).code=q2/\((eO q0 cq).getD q4 q1).n=q2)/\(↑(fR q0 cq).opens.length:Int)=q5->q2<=q2/\q2<(↑(fR q0 cq).opens.length:Int))/\(((((↑(eO q0 cq).length:Int)=q6/\((eO q0 cq).getD q3 q1).code=q2/\((eO q0 cq).getD q3 q1).n=q2)/\((eO q0 cq).getD q4 q1).code=q2/\((eO q0 cq).getD q4 q1).n=q2)/\(↑(fR q0 cq).opens.length:Int)=q5->I64 ((fR q0 cq).opens.getD q3 (dflt (Sh.nm NT.opn))).set/\I64 ((fR q0 cq).opens.getD q3 (dflt (Sh.nm NT.opn))).client)->(decide ((↑(eO q0 cq).length:Int)=q6) && (decide (((eO q0 cq).getD q3 q1).code=q2) && decide (((eO q0 cq).getD q3 q1).n=q2)) && (decide (((eO q0 cq).getD q4 q1).code=q2) && decide (((eO q0 cq).getD q4 q1).n=q2)) && decide ((↑(fR q0 cq).opens.length:Int)=q5) && decide (((fR q0 cq).opens.getD q3 (dflt (Sh.nm NT.opn))).set=(2:Int)))=r0)))) (State.mk q5 q5 q2 q2 [] [] [])) (dflt (Sh.nm NT.reply))) (0:Int)) (0:Nat)) (2:Nat)) (1:Int)) (3:Int)):=by kernel_rfl
theorem At :Sat Tryz.prog (aj tyT) 7 [] [] ⟨[],[.c (.bool (.atom ((true))))],none,false⟩:=by
 refine aM sF [] Tryz.func7 (by decide) (by kernel_rfl) ?_
 rw [zN]
 simp only [Rm,R_]
 (repeat' (first | with_reducible refine And.intro ?_ ?_ | with_reducible refine and_imp.2 ?_ | intro))
 all_goals first | (first | with_reducible rfl | with_reducible assumption | omega | (refine ah ?_ ?_ <;> omega)) | decide | rfl
def fI:cj:=(br 7 (bp aK aJ fun (_) (_)=>⟨[],[.c (.bool (.atom ((true))))],none,false⟩) Ff)
theorem cK:aN Tryz.prog (aj tyT) fI:=(av (au ak al fun (_) (_) _=>At  ) sF)
end Go.Proofs.YtladifkbefehdaaGreat
namespace Go.Proofs.YtladifkbefehdaaGreat
open Go.RowKit
def dY (f:Field):Bool:=(decide (1<=f.num) && decide (f.num<=1000)) && (if f.wire=0 then decide (((f.b.length:Nat):Int)=0) else if f.wire=2 then decide ((f.n.n:Int)=0) else false)
def eF (a f:Field):Bool:=if f.num=a.num then (decide (f.wire=2) && decide (a.wire=2)) else decide (a.num<f.num)
def mj (num wire:Int):Bool:=(decide (1<=num) && decide (num<=1000)) && (decide (wire=0) || decide (wire=2))
def lq (num wire:Int):List UInt8:=if mj num wire then eZ ((8*num)+wire).toNat else []
def vk (num wire:Int):Int:=if mj num wire then 0 else 1
def bX (f:Field):List UInt8:=if f.wire=0 then lq f.num f.wire++eZ f.n.n else (lq f.num f.wire++eZ f.b.length)++f.b
def Su:Option Field->Field->Bool
 | none,_=>true
 | some q,f=>eF q f
def stepT (p:Option Field) (f:Field):Int:=if dY f=false then 1 else if Su p f=false then 5 else if (16384:Int)<((f.b.length:Nat):Int) then 4 else 0
def df:Option Field->List Field->Int
 | _,[]=>0
 | p,f :: r=>if stepT p f=0 then df (some f) r else stepT p f
def ff (l:List Field):Nat:=(l.map fun f=>(bX f).length).sum
def cm (l:List Field):Int:=if df none l=0 then (if (16384:Int)<((ff l:Nat):Int) then 4 else 0) else df none l
def kW (l:List Field):List UInt8:=if cm l=0 then (l.map bX).flatten else []
def du (l:List Field) (k:Nat):Option Field:=if k=0 then none else l[k - 1]?
def rm (l:List Field) (k:Nat) (x:Field):Prop:=(¬ 0<k)\/∃ y,l[k - 1]? = some y/\eF y x=true
theorem Ez {num wire:Int} (h:(num<1\/1000<num)\/(¬ wire=0/\¬ wire=2)):mj num wire=false:=by
 rw [<- Bool.not_eq_true]; unfold mj; simp only [Bool.and_eq_true,Bool.or_eq_true,decide_eq_true_eq]; omega
theorem xe {num wire:Int} (h:¬ ((num<1\/1000<num)\/(¬ wire=0/\¬ wire=2))):mj num wire=true:=by
 unfold mj; simp only [Bool.and_eq_true,Bool.or_eq_true,decide_eq_true_eq]; omega
theorem yo {num wire:Int} (h:(num<1\/1000<num)\/(¬ wire=0/\¬ wire=2)):[]=lq num wire:=by rw [lq,Ez h]; rfl
theorem GA {num wire:Int} (h:(num<1\/1000<num)\/(¬ wire=0/\¬ wire=2)):1=vk num wire:=by rw [vk,Ez h]; rfl
theorem EL {num wire:Int} (h:¬ ((num<1\/1000<num)\/(¬ wire=0/\¬ wire=2))):eZ ((8*num)+wire).toNat=lq num wire:=by rw [lq,xe h]; rfl
theorem AX {num wire:Int} (h:¬ ((num<1\/1000<num)\/(¬ wire=0/\¬ wire=2))):0=vk num wire:=by rw [vk,xe h]; rfl
theorem om (num wire:Int):(lq num wire).length<=10:=by
 unfold lq
 cases h:mj num wire with
 | false=>simp
 | true=>
  unfold mj at h; simp only [Bool.and_eq_true,Bool.or_eq_true,decide_eq_true_eq] at h
  exact dH (by omega)
theorem ec {f:Field} (hb:f.b.length<=16384) (hn:f.n.n<18446744073709551616):(bX f).length<=16404:=by
 have h1:=om f.num f.wire
 unfold bX
 split
 ·have:=dH hn; rw [List.length_append]; omega
 ·have:=dH (n:=f.b.length) (by omega); rw [List.length_append,List.length_append]; omega
theorem GV {f:Field} (h:f.wire=0):lq f.num f.wire++eZ f.n.n=bX f:=by rw [bX,if_pos h]
theorem Hd {f:Field} (h:¬ f.wire=0):(lq f.num f.wire++eZ f.b.length)++f.b=bX f:=by rw [bX,if_neg h]
theorem nk {l:List Field} {k:Nat} {x:Field} (hx:l[k]? = some x):ff (l.take k)+(bX x).length=ff (l.take (k+1)):=by
 unfold ff; rw [ax hx,List.map_append,List.sum_append]; simp
theorem xQ {l:List Field} {k:Nat} {x:Field} (hp:rm l k x):Su (du l k) x=true:=by
 unfold du
 rcases hp with h | ⟨y,hy,hr⟩
 ·rw [if_pos (by omega)]; rfl
 ·by_cases hk:k=0
  ·rw [if_pos hk]; rfl
  ·rw [if_neg hk,hy]; exact hr
theorem C_ {l:List Field} {k:Nat} {x:Field} (hx:l[k]? = some x):df (du l k) (l.drop k)=if stepT (du l k) x=0 then df (some x) (l.drop (k+1)) else stepT (du l k) x:=by
 obtain ⟨hk,he⟩:=List.getElem?_eq_some_iff.1 hx
 rw [List.drop_eq_getElem_cons hk,he]; rfl
theorem EN {l:List Field} {k:Nat} {x:Field} {e:Int} (hc:df none l=df (du l k) (l.drop k)) (hx:l[k]? = some x) (he:stepT (du l k) x=e) (h0:e≠0):e=cm l:=by
 have h1:df none l=e:=by rw [hc,C_ hx,he,if_neg h0]
 rw [cm,h1,if_neg h0]
theorem vC {l:List Field} {k:Nat} {x:Field} (hc:df none l=df (du l k) (l.drop k)) (hx:l[k]? = some x) (ha:dY x=false):1=cm l:=EN hc hx (by rw [stepT,if_pos ha]) (by decide)
theorem wL {l:List Field} {k:Nat} {x y:Field} (hc:df none l=df (du l k) (l.drop k)) (hx:l[k]? = some x) (ha:dY x=true) (h0:0<k) (hy:l[k - 1]? = some y) (hr:eF y x=false):5=cm l:=
 EN hc hx (by rw [stepT,if_neg (by rw [ha]; decide),if_pos]; unfold du; rw [if_neg (by omega),hy]; exact hr) (by decide)
theorem wx {l:List Field} {k:Nat} {x:Field} (hc:df none l=df (du l k) (l.drop k)) (hx:l[k]? = some x) (ha:dY x=true) (hp:rm l k x) (hb:(16384:Int)<((x.b.length:Nat):Int)):4=cm l:=
 EN hc hx (by rw [stepT,if_neg (by rw [ha]; decide),if_neg (by rw [xQ hp]; decide),if_pos hb]) (by decide)
theorem oc {l:List Field} {k:Nat} {x:Field} (hc:df none l=df (du l k) (l.drop k)) (hx:l[k]? = some x) (ha:dY x=true) (hp:rm l k x) (hb:¬ (16384:Int)<((x.b.length:Nat):Int)):df none l=df (du l (k+1)) (l.drop (k+1)):=by
 rw [hc,C_ hx,if_pos (by rw [stepT,if_neg (by rw [ha]; decide),if_neg (by rw [xQ hp]; decide),if_neg hb])]
 unfold du; rw [if_neg (by omega),Nat.add_sub_cancel,hx]
theorem yM {l:List Field} {k:Nat} (hc:df none l=df (du l k) (l.drop k)) (hk:l.length<=k):df none l=0:=by
 rw [hc,List.drop_of_length_le hk]; rfl
theorem oS {l:List Field} {k:Nat} (hc:df none l=df (du l k) (l.drop k)) (hk:l.length<=k) (hs:(16384:Int)<((ff (l.take k):Nat):Int)):4=cm l:=by
 rw [List.take_of_length_le hk] at hs; rw [cm,if_pos (yM hc hk),if_pos hs]
theorem ot {l:List Field} {k:Nat} (hc:df none l=df (du l k) (l.drop k)) (hk:l.length<=k) (hs:¬ (16384:Int)<((ff (l.take k):Nat):Int)):0=cm l:=by
 rw [List.take_of_length_le hk] at hs; rw [cm,if_pos (yM hc hk),if_neg hs]
theorem HW {l:List Field} (h:cm l=0):ff l<=16384:=by
 unfold cm at h
 split at h
 ·split at h
  ·cases h
  ·omega
 ·rename_i h0; exact absurd h h0
theorem Gf {l:List Field} (h:cm l=0):df none l=0:=by
 unfold cm at h
 split at h
 ·assumption
 ·exact h
theorem xm:∀ {l:List Field} {p:Option Field},df p l=0->∀ x ∈ l,x.b.length<=16384
 | [],_,_,x,hx=>by cases hx
 | f :: r,p,h,x,hx=>by
  unfold df at h
  split at h
  ·rename_i hs
   rcases List.mem_cons.1 hx with rfl | hx
   ·unfold stepT at hs
    split at hs
    ·cases hs
    ·split at hs
     ·cases hs
     ·split at hs
      ·cases hs
      ·omega
   ·exact xm h x hx
  ·rename_i hs; exact absurd h hs
theorem gM {l:List Field} (h:cm l=0) {x:Field} (hx:x ∈ l):x.b.length<=16384:=xm (Gf h) x hx
theorem lX {l:List Field} {k:Nat} {x:Field} (hx:l[k]? = some x):((l.take k).map bX).flatten++bX x=((l.take (k+1)).map bX).flatten:=by
 rw [ax hx,List.map_append,List.flatten_append]; simp
theorem DI (l:List Field):((l.map bX).flatten).length=ff l:=by
 unfold ff; rw [List.length_flatten,List.map_map]; rfl
theorem Fy {l:List Field} {k:Nat}:ff (l.take k)<=ff l:=by
 have:ff l=ff (l.take k)+ff (l.drop k):=by unfold ff; rw [<- List.sum_append,<- List.map_append,List.take_append_drop]
 omega
theorem oo {l:List Field} {k:Nat} (h:cm l=0):((l.take k).map bX).flatten.length<=16384:=by
 have:=HW h; have:=Fy (l:=l) (k:=k); rw [DI]; omega
theorem rF {l:List Field} {k:Nat} (h:cm l=0) (hk:l.length<=k):((l.take k).map bX).flatten=kW l:=by rw [kW,if_pos h,List.take_of_length_le hk]
theorem vE {l:List Field} (h:¬ cm l=0):[]=kW l:=by rw [kW,if_neg h]
theorem BQ {f:Field} (h:f.num<1\/1000<f.num):false=dY f:=by
 have:(decide (1<=f.num) && decide (f.num<=1000))=false:=by rw [<- Bool.not_eq_true]; simp only [Bool.and_eq_true,decide_eq_true_eq]; omega
 unfold dY; rw [this]; rfl
theorem Fm {f:Field} (h:¬ (f.num<1\/1000<f.num)):dY f=(if f.wire=0 then decide (((f.b.length:Nat):Int)=0) else if f.wire=2 then decide ((f.n.n:Int)=0) else false):=by
 have:(decide (1<=f.num) && decide (f.num<=1000))=true:=by simp only [Bool.and_eq_true,decide_eq_true_eq]; omega
 unfold dY; rw [this]; rfl
end Go.Proofs.YtladifkbefehdaaGreat
namespace Go.Proofs.YtladifkbefehdaaGreat
open Go.RowKit
def bm:List Spec:=([⟨1,0,1,true,false⟩,⟨2,0,1,false,false⟩,⟨3,0,1,false,false⟩,⟨4,0,1,false,false⟩,⟨5,0,1,false,false⟩,⟨6,0,1,false,false⟩,⟨7,2,1,false,false⟩,⟨8,2,3,false,false⟩]:List Spec)
def aU (v:Int):List Spec:=if v<1\/3<v then [] else bm.filter fun s=>decide (s.since<=v)
def bW (v:Int):Int:=(aU v).foldl (fun t s=>max t s.num) 0
theorem oI {v:Int} {k:Nat} {x:Spec} (hx:bm[k]? = some x) (h:x.since<=v):(bm.take k).filter (fun s=>decide (s.since<=v))++[x]=(bm.take (k+1)).filter (fun s=>decide (s.since<=v)):=by
 rw [ax hx,List.filter_append]; simp [h]
theorem rf {v:Int} {k:Nat} {x:Spec} (hx:bm[k]? = some x) (h:¬ x.since<=v):(bm.take k).filter (fun s=>decide (s.since<=v))=(bm.take (k+1)).filter (fun s=>decide (s.since<=v)):=by
 rw [ax hx,List.filter_append]; simp [h]
theorem lU {v:Int} (h:v<1\/3<v):[]=aU v:=by rw [aU,if_pos h]
theorem Dj {v:Int} {k:Nat} (h:¬ (v<1\/3<v)) (hk:bm.length<=k):(bm.take k).filter (fun s=>decide (s.since<=v))=aU v:=by rw [aU,if_neg h,List.take_of_length_le hk]
theorem BW {v:Int} {k:Nat}:((bm.take k).filter (fun s=>decide (s.since<=v))).length<=8:=by
 have h1:=List.length_filter_le (fun s:Spec=>decide (s.since<=v)) (bm.take k)
 have h2:(bm.take k).length<=8:=by rw [List.length_take]; exact Nat.le_trans (Nat.min_le_right _ _) (by decide)
 omega
theorem oL {v:Int} {k:Nat} {x:Spec} (hx:(aU v)[k]? = some x):max (((aU v).take k).foldl (fun t s=>max t s.num) 0) x.num=((aU v).take (k+1)).foldl (fun t s=>max t s.num) 0:=by
 rw [ax hx,List.foldl_append]; rfl
def mN (num n:Int):List Field:=if n=0 then [] else [⟨num,0,⟨n.toNat⟩,[]⟩]
def xU (num:Int) (b:List UInt8):List Field:=if 0<((b.length:Nat):Int) then [⟨num,2,⟨0⟩,b⟩] else []
def qR (c:Command):List Field:=(((((([]++mN 1 c.kind)++mN 2 c.client)++mN 3 c.seq)++mN 4 c.set)++mN 5 c.id)++mN 6 c.n)++xU 7 (dA c.chunks)
def c_ (c:Command) (v:Int):List Field:=if 3<=v then qR c++xU 8 c.text.b else qR c
theorem eD (num n:Int):(mN num n).length<=1:=by unfold mN; split <;> simp
theorem wk (num:Int) (b:List UInt8):(xU num b).length<=1:=by unfold xU; split <;> simp
theorem u_ {xs:List Field} {num n:Int} (h:¬ n=0):xs++[⟨num,0,⟨n.toNat⟩,[]⟩]=xs++mN num n:=by rw [mN,if_neg h]
theorem sR {xs:List Field} {num n:Int} (h:n=0):xs=xs++mN num n:=by rw [mN,if_pos h,List.append_nil]
theorem tQ {xs:List Field} {num:Int} {b:List UInt8} (h:0<((b.length:Nat):Int)):xs++[⟨num,2,⟨0⟩,b⟩]=xs++xU num b:=by rw [xU,if_pos h]
theorem sU {xs:List Field} {num:Int} {b:List UInt8} (h:¬ 0<((b.length:Nat):Int)):xs=xs++xU num b:=by rw [xU,if_neg h,List.append_nil]
theorem jm (c:Command) (v:Int):(c_ c v).length<=8:=by
 have h1:=eD 1 c.kind; have h2:=eD 2 c.client; have h3:=eD 3 c.seq; have h4:=eD 4 c.set; have h5:=eD 5 c.id; have h6:=eD 6 c.n
 have h7:=wk 7 (dA c.chunks); have h8:=wk 8 c.text.b
 unfold c_ qR
 split <;> simp only [List.length_append,List.length_nil] <;> omega
end Go.Proofs.YtladifkbefehdaaGreat
namespace Go.Proofs.YtladifkbefehdaaGreat
open Go.RowKit
def cP (c:Command) (rest:List Field) (v:Int):Int:=if !(cJ v 1 3) then 1 else if (eI c v=false/\¬ cc c v=0) then cc c v else if rest.any (fun f=>decide (f.num<=bW v)) then 6 else 0
def fF (c:Command) (rest:List Field) (v:Int):Int:=if cP c rest v=0 then cm (c_ c v++rest) else cP c rest v
def fT (c:Command) (rest:List Field) (v:Int):List UInt8:=if cP c rest v=0 then kW (c_ c v++rest) else []
theorem vv {k:Int} (h:¬ bD k=0):1<=k/\k<=12:=Decidable.byContradiction fun h2=>h (Iz h2)
theorem vq {c:Command} {v:Int} (h:eI c v=true):0<=c.kind/\0<=c.client/\0<=c.seq/\0<=c.set/\0<=c.id/\0<=c.n:=by
 unfold eI pw cJ at h
 simp only [Bool.and_eq_true,decide_eq_true_eq] at h
 omega
theorem rb {n m:Int} {b:Bool} (h:lZ n m b=true):0<=n:=by
 unfold lZ at h; cases b <;> simp at h <;> omega
theorem Ja {k:Int} (h:1<=k/\k<=12):0<=(py k).1:=by
 have:k=1\/k=2\/k=3\/k=4\/k=5\/k=6\/k=7\/k=8\/k=9\/k=10\/k=11\/k=12:=by omega
 rcases this with rfl | rfl | rfl | rfl | rfl | rfl | rfl | rfl | rfl | rfl | rfl | rfl <;> decide
theorem E_ {c:Command} {v:Int} (h:cc c v=0):(1<=v/\v<=3)/\¬ bD c.kind=0/\bD c.kind<=v/\mn c=true:=by
 unfold cc at h
 split at h
 ·cases h
 ·rename_i h1
  rw [Bool.or_eq_true,not_or] at h1
  simp only [Bool.not_eq_true',Bool.not_eq_false,decide_eq_true_eq] at h1
  split at h
  ·cases h
  ·split at h
   ·cases h
   ·rename_i h2 h3
    exact ⟨EY h1.1,h1.2,by omega,by simpa using h3⟩
theorem vl {c:Command} {v:Int} (h:cc c v=0):0<=c.kind/\0<=c.client/\0<=c.seq/\0<=c.set/\0<=c.id/\0<=c.n:=by
 obtain ⟨_,hn,_,hf⟩:=E_ h
 have hr:=vv hn
 have hs:=Ja hr
 unfold mn at hf
 simp only [Bool.and_eq_true,decide_eq_true_eq] at hf
 obtain ⟨⟨⟨⟨⟨⟨⟨h1,h2⟩,_⟩,_⟩,h3⟩,h4⟩,h5⟩,h6⟩:=hf
 exact ⟨by omega,rb h3,rb h4,rb h5,rb h6,by omega⟩
theorem Rv {c:Command} {rest:List Field} {v:Int} (h:(!(cJ v 1 3))=true):cP c rest v=1:=by rw [cP,if_pos h]
theorem Sc {c:Command} {rest:List Field} {v:Int} (h:(!(cJ v 1 3))=false) (h1:eI c v=false) (h2:¬ cc c v=0):cP c rest v=cc c v:=by rw [cP,h,if_neg (by decide),if_pos ⟨h1,h2⟩]
theorem Ro {c:Command} {rest:List Field} {v:Int} {k:Nat} {x:Field} (h:(!(cJ v 1 3))=false) (h1:eI c v=true\/cc c v=0) (hx:rest[k]? = some x) (hn:x.num<=bW v):cP c rest v=6:=by
 have:(rest.any fun f=>decide (f.num<=bW v))=true:=List.any_eq_true.2 ⟨x,List.mem_of_getElem? hx,decide_eq_true hn⟩
 rw [cP,h,if_neg (by decide),if_neg (fun hh=>by rcases h1 with h1 | h1; rw [h1] at hh; cases hh.1; exact hh.2 h1),if_pos this]
theorem RF {c:Command} {rest:List Field} {v:Int} {k:Nat} (h:(!(cJ v 1 3))=false) (h1:eI c v=true\/cc c v=0) (hall:∀ j y,j<k->rest[j]? = some y->¬ y.num<=bW v) (hk:rest.length<=k):cP c rest v=0:=by
 have:(rest.any fun f=>decide (f.num<=bW v))=false:=by
  rw [List.any_eq_false]
  intro y hy
  obtain ⟨j,hj,rfl⟩:=List.getElem_of_mem hy
  have:=hall j _ (by omega) (List.getElem?_eq_getElem hj)
  simpa using this
 rw [cP,h,if_neg (by decide),if_neg (fun hh=>by rcases h1 with h1 | h1; rw [h1] at hh; cases hh.1; exact hh.2 h1),this,if_neg (by decide)]
theorem gJ {c:Command} {rest:List Field} {v e:Int} (h:cP c rest v=e) (h0:¬ e=0):e=fF c rest v:=by rw [fF,h,if_neg h0]
theorem gD {c:Command} {rest:List Field} {v e:Int} (h:cP c rest v=e) (h0:¬ e=0):[]=fT c rest v:=by rw [fT,h,if_neg h0]
theorem FN {c:Command} {rest:List Field} {v:Int} (h:cP c rest v=0):cm (c_ c v++rest)=fF c rest v:=by rw [fF,if_pos h]
theorem AM {c:Command} {rest:List Field} {v:Int} (h:cP c rest v=0):kW (c_ c v++rest)=fT c rest v:=by rw [fT,if_pos h]
theorem zl {rest:List Field} {t:Int} {k:Nat} {z:Field} (h:∀ j y,j<k->rest[j]? = some y->¬ y.num<=t) (hz:rest[k]? = some z) (hn:¬ z.num<=t):∀ j y,j<k+1->rest[j]? = some y->¬ y.num<=t:=by
 intro j y hj hy
 by_cases hjk:j=k
 ·subst hjk; rw [hz] at hy; cases hy; exact hn
 ·exact h j y (by omega) hy
end Go.Proofs.YtladifkbefehdaaGreat
namespace Go.Proofs.YtladifkbefehdaaGreat
open Go.RowKit
end Go.Proofs.YtladifkbefehdaaGreat
namespace Go.Proofs.YtladifkbefehdaaGreat
open Go.RowKit
structure CmdOk (c:Command) (v:Int):Prop where
 nn:0<=c.kind/\0<=c.client/\0<=c.seq/\0<=c.set/\0<=c.id/\0<=c.n
 ch:c.chunks=[]\/rowF c.chunks=true
 tx:c.text.b=[]\/(3<=v/\c.text.b.length<=16)
def f99:Field:=⟨99,0,⟨1⟩,[]⟩
end Go.Proofs.YtladifkbefehdaaGreat
namespace Go.Proofs.YtladifkbefehdaaGreat
open Go.RowKit
end Go.Proofs.YtladifkbefehdaaGreat
namespace Go.Proofs.YtladifkbefehdaaGreat
open Go.RowKit
def bK:Nat->Nat->List UInt8->Nat × Nat × Int
 | k,_,[]=>if 10<=k then (0,0,3) else (0,0,2)
 | k,n,x :: r=>if 10<=k then (0,0,3) else if (0<k/\x.toNat=0)\/(k=9/\1<x.toNat) then (0,0,3) else if x.toNat<128 then (n+(x &&& 127).toNat*2 ^ (7*k),k+1,0) else bK (k+1) (n+(x &&& 127).toNat*2 ^ (7*k)) r
termination_by _ _ l=>l.length
def aA (b:List UInt8):Nat × Nat × Int:=bK 0 0 b
theorem qH (x:UInt8):(x &&& 127).toNat=x.toNat % 128:=by rw [UInt8.toNat_and]; exact Nat.and_two_pow_sub_one_eq_mod x.toNat 7
theorem Kk {k:Nat} {x:UInt8} (hk:k<=9) (h:k=9->x.toNat<=1):(x &&& 127).toNat*2 ^ (7*k)<18446744073709551616:=by
 rw [qH]
 by_cases h9:k=9
 ·have:=h h9
  subst h9
  have:x.toNat % 128*2 ^ (7*9)<=1*2 ^ (7*9):=Nat.mul_le_mul_right _ (by omega)
  exact Nat.lt_of_le_of_lt this (by decide)
 ·have h1:2 ^ (7*k)<=2 ^ 56:=Nat.pow_le_pow_right (by decide) (by omega)
  have:x.toNat % 128*2 ^ (7*k)<=127*2 ^ 56:=Nat.mul_le_mul (by omega) h1
  exact Nat.lt_of_le_of_lt this (by decide)
theorem Lb {k n m:Nat} (h:n<2 ^ (7*k)):n ||| m*2 ^ (7*k)=n+m*2 ^ (7*k):=by
 have:=Nat.two_pow_add_eq_or_of_lt h m
 rw [Nat.or_comm,Nat.mul_comm m,<- this,Nat.add_comm]
theorem IL {k n:Nat} {x:UInt8} (h:n<2 ^ (7*k)):n+(x &&& 127).toNat*2 ^ (7*k)<2 ^ (7*(k+1)):=by
 rw [qH]
 have e:2 ^ (7*(k+1))=128*2 ^ (7*k):=by rw [show 7*(k+1)=7*k+7 by omega,Nat.pow_add,Nat.mul_comm]
 have:x.toNat % 128*2 ^ (7*k)<=127*2 ^ (7*k):=Nat.mul_le_mul_right _ (by omega)
 rw [e]; omega
theorem MQ {b:List UInt8} {k n:Nat} (hk:k<10) (hb:b.length<=k):bK k n (b.drop k)=(0,0,2):=by
 rw [List.drop_of_length_le hb,bK,if_neg (by omega)]
theorem Lf {b:List UInt8} {k n:Nat} (hk:10<=k):bK k n (b.drop k)=(0,0,3):=by
 cases h:b.drop k with
 | nil=>rw [bK,if_pos hk]
 | cons x r=>rw [bK,if_pos hk]
theorem Es {b:List UInt8} {k n:Nat} {x:UInt8} (hk:k<10) (hx:b[k]? = some x):bK k n (b.drop k)=if (0<k/\x.toNat=0)\/(k=9/\1<x.toNat) then (0,0,3) else if x.toNat<128 then (n+(x &&& 127).toNat*2 ^ (7*k),k+1,0) else bK (k+1) (n+(x &&& 127).toNat*2 ^ (7*k)) (b.drop (k+1)):=by
 obtain ⟨hkl,he⟩:=List.getElem?_eq_some_iff.1 hx
 rw [List.drop_eq_getElem_cons hkl,he,bK,if_neg (by omega)]
theorem HE {b:List UInt8} {k n:Nat} {x:UInt8} (h:aA b=bK k n (b.drop k)) (hk:k<10) (hx:b[k]? = some x) (h1:¬ (0<k/\x.toNat=0)) (h2:¬ (k=9/\1<x.toNat)) (h3:¬ x.toNat<128):aA b=bK (k+1) (n+(x &&& 127).toNat*2 ^ (7*k)) (b.drop (k+1)):=by
 rw [h,Es hk hx,if_neg (fun h=>h.elim h1 h2),if_neg h3]
theorem mW:∀ {l:List UInt8} {k n:Nat},k<=10->(bK k n l).2.1<=11/\(bK k n l).2.1<=k+l.length
 | [],k,n,h=>by rw [bK]; split <;> simp
 | x :: r,k,n,h=>by
  rw [bK]
  split
  ·simp
  ·split
   ·simp
   ·split
    ·simp; omega
    ·have:=mW (l:=r) (k:=k+1) (n:=n+(x &&& 127).toNat*2 ^ (7*k)) (by omega)
     simp only [List.length_cons]; omega
theorem Eb {b:List UInt8} {k n:Nat} {x:UInt8} (h:aA b=bK k n (b.drop k)) (hk:k<10) (hx:b[k]? = some x) (h1:(0<k/\x.toNat=0)\/(k=9/\1<x.toNat)):aA b=(0,0,3):=by rw [h,Es hk hx,if_pos h1]
theorem Je {b:List UInt8} {k n:Nat} {x:UInt8} (h:aA b=bK k n (b.drop k)) (hk:k<10) (hx:b[k]? = some x) (h1:¬ (0<k/\x.toNat=0)) (h2:¬ (k=9/\1<x.toNat)) (h3:x.toNat<128):aA b=(n+(x &&& 127).toNat*2 ^ (7*k),k+1,0):=by
 rw [h,Es hk hx,if_neg (fun h=>h.elim h1 h2),if_pos h3]
end Go.Proofs.YtladifkbefehdaaGreat
namespace Go.Proofs.YtladifkbefehdaaGreat
open Go.RowKit
theorem Dh:∀ {l:List UInt8} {k n:Nat},1<=k->(bK k n l).2.2=0->2 ^ (7*k)<=(bK k n l).1
 | [],k,n,_,h=>by rw [bK] at h; split at h <;> cases h
 | x :: r,k,n,hk,h=>by
  rw [bK] at h ⊢
  split
  ·rename_i h1; rw [if_pos h1] at h; cases h
  ·rename_i h1
   rw [if_neg h1] at h
   split
   ·rename_i h2; rw [if_pos h2] at h; cases h
   ·rename_i h2
    rw [if_neg h2] at h
    split
    ·rename_i h3
     rw [qH]
     have:1<=x.toNat % 128:=by
      have:¬ x.toNat=0:=fun e=>h2 (.inl ⟨by omega,e⟩)
      omega
     have:=Nat.mul_le_mul_right (2 ^ (7*k)) this
     show 2 ^ (7*k)<=n+x.toNat % 128*2 ^ (7*k)
     omega
    ·rename_i h3
     rw [if_neg h3] at h
     exact Nat.le_trans (Nat.pow_le_pow_right (by decide) (by omega)) (Dh (by omega) h)
theorem xG (x:UInt8) (r:List UInt8):aA (x :: r)=if x.toNat<128 then (x.toNat,1,0) else bK 1 (x.toNat % 128) r:=by
 unfold aA
 rw [bK,if_neg (by decide),if_neg (by omega),qH]
 split
 ·rename_i h; rw [Nat.mod_eq_of_lt h]; simp
 ·simp
theorem uj {b:List UInt8} {k:Nat} (hk:k<b.length):(b.drop k).take (b.length - k)=b[k] :: b.drop (k+1):=by
 rw [List.take_of_length_le (by simp),List.drop_eq_getElem_cons hk]
theorem SW {b:List UInt8} {k:Nat} (hk:k<b.length) (he:(aA ((b.drop k).take (b.length - k))).2.2=0) (hn:¬ (64:Int)<(((aA ((b.drop k).take (b.length - k))).1:Nat):Int)) :
  ∃ x,b[k]? = some x/\aA ((b.drop k).take (b.length - k))=(x.toNat,1,0)/\x.toNat<=64:=by
 rw [uj hk,xG] at *
 by_cases h:b[k].toNat<128
 ·rw [if_pos h] at *; exact ⟨_,List.getElem?_eq_getElem hk,rfl,by simp only at hn; omega⟩
 ·rw [if_neg h] at *
  have:=Dh (Nat.le_refl 1) he
  omega
theorem S_ {b:List UInt8} {k:Nat} (hk:k<b.length) (h:(¬ (aA ((b.drop k).take (b.length - k))).2.2=0)\/(64:Int)<(((aA ((b.drop k).take (b.length - k))).1:Nat):Int)):∃ x,b[k]? = some x/\64<x.toNat:=by
 refine ⟨b[k],List.getElem?_eq_getElem hk,?_⟩
 rw [uj hk,xG] at h
 by_cases h1:b[k].toNat<128
 ·rw [if_pos h1] at h; simp only [not_true_eq_false,false_or] at h; omega
 ·omega
def b_ (b:List UInt8):List Int:=b.map fun x=>(x.toNat:Int)
def jk (b:List UInt8):List Int:=if rowF (b_ b) then b_ b else []
def nT (b:List UInt8):Int:=if rowF (b_ b) then 0 else 6
theorem GN {b:List UInt8} {k:Nat} {x:UInt8} {p:Nat × Nat × Int} (hx:b[k]? = some x) (hp:p=(x.toNat,1,0)):b_ (b.take k)++[((p.1:Nat):Int)]=b_ (b.take (k+1)):=by
 subst hp; unfold b_; rw [ax hx,List.map_append]; rfl
theorem MH {b:List UInt8} {k:Nat} (hk:k<b.length) (h:(¬ (aA ((b.drop k).take (b.length - k))).2.2=0)\/(64:Int)<(((aA ((b.drop k).take (b.length - k))).1:Nat):Int)):rowF (b_ b)=false:=by
 obtain ⟨x,hx,h64⟩:=S_ hk h
 rw [<- Bool.not_eq_true]
 intro hr
 have:=(sd hr (x.toNat:Int) (List.mem_map.2 ⟨x,List.mem_of_getElem? hx,rfl⟩)).2
 omega
theorem wA {b:List UInt8} {k:Nat} (hk:b.length<=k):b_ (b.take k)=b_ b:=by rw [List.take_of_length_le hk]
theorem eC {b:List UInt8} (h:rowF (b_ b)=false):[]=jk b:=by rw [jk,h]; rfl
theorem kX {b:List UInt8} (h:rowF (b_ b)=false):6=nT b:=by rw [nT,h]; rfl
theorem rz {b:List UInt8} {k:Nat} (hk:b.length<=k) (h:rowF (b_ (b.take k))=true):b_ (b.take k)=jk b:=by rw [wA hk] at *; rw [jk,h]; rfl
theorem qQ {b:List UInt8} {k:Nat} (hk:b.length<=k) (h:rowF (b_ (b.take k))=true):0=nT b:=by rw [wA hk] at *; rw [nT,h]; rfl
theorem gI {b:List UInt8} {k:Nat} (hk:b.length<=k) (h:rowF (b_ (b.take k))=false):rowF (b_ b)=false:=by rw [wA hk] at h; exact h
end Go.Proofs.YtladifkbefehdaaGreat
namespace Go.Proofs.YtladifkbefehdaaGreat
open Go.RowKit
end Go.Proofs.YtladifkbefehdaaGreat
namespace Go.Proofs.YtladifkbefehdaaGreat
open Go.RowKit
end Go.Proofs.YtladifkbefehdaaGreat
namespace Go.Proofs.YtladifkbefehdaaGreat
open Go.RowKit
end Go.Proofs.YtladifkbefehdaaGreat
namespace Go.Proofs.YtladifkbefehdaaGreat
open Go.RowKit
end Go.Proofs.YtladifkbefehdaaGreat
namespace Go.Proofs.YtladifkbefehdaaGreat
open Go.RowKit
end Go.Proofs.YtladifkbefehdaaGreat
namespace Go.Proofs.YtladifkbefehdaaGreat
open Go.RowKit
end Go.Proofs.YtladifkbefehdaaGreat
namespace Go.Proofs.YtladifkbefehdaaGreat
open Go.RowKit
end Go.Proofs.YtladifkbefehdaaGreat
namespace Go.Proofs.YtladifkbefehdaaGreat
open Go.RowKit
structure TagR where
 num:Int
 wire:Int
 k:Nat
 e:Int
def wv (n:Nat):Bool:=decide ((n / 8<1\/1000<n / 8)\/(¬ n % 8=0/\¬ n % 8=2))
def aS (b:List UInt8):TagR:=if (aA b).2.2=0 then (if wv (aA b).1=true then ⟨0,0,0,6⟩ else ⟨(((aA b).1 / 8:Nat):Int),(((aA b).1 % 8:Nat):Int),(aA b).2.1,0⟩) else ⟨0,0,0,(aA b).2.2⟩
theorem Ek {b:List UInt8} (h:¬ (aA b).2.2=0):aS b=⟨0,0,0,(aA b).2.2⟩:=by rw [aS,if_neg h]
theorem Dg {b:List UInt8} (h:(aA b).2.2=0) (h2:((aA b).1 / 8<1\/1000<(aA b).1 / 8)\/(¬ (aA b).1 % 8=0/\¬ (aA b).1 % 8=2)):aS b=⟨0,0,0,6⟩:=by rw [aS,if_pos h,if_pos (show wv _=true from decide_eq_true h2)]
theorem EE {b:List UInt8} (h:(aA b).2.2=0) (h2:¬ (((aA b).1 / 8<1\/1000<(aA b).1 / 8)\/(¬ (aA b).1 % 8=0/\¬ (aA b).1 % 8=2))):aS b=⟨(((aA b).1 / 8:Nat):Int),(((aA b).1 % 8:Nat):Int),(aA b).2.1,0⟩:=by
 rw [aS,if_pos h,if_neg (by unfold wv; simpa using h2)]
theorem m_ (b:List UInt8):((aS b).k<=11/\(aS b).k<=b.length)/\(0<=(aS b).num/\(aS b).num<=1000)/\(0<=(aS b).wire/\(aS b).wire<=2):=by
 have hs:(aA b).2.1<=11/\(aA b).2.1<=0+b.length:=mW (l:=b) (k:=0) (n:=0) (by omega)
 by_cases h:(aA b).2.2=0
 ·by_cases h2:((aA b).1 / 8<1\/1000<(aA b).1 / 8)\/(¬ (aA b).1 % 8=0/\¬ (aA b).1 % 8=2)
  ·rw [Dg h h2]; simp
  ·rw [EE h h2]; dsimp only; omega
 ·rw [Ek h]; simp
theorem CS:∀ {l:List UInt8} {k n:Nat},(bK k n l).2.2=0->1<=(bK k n l).2.1
 | [],k,n,h=>by rw [bK] at h; split at h <;> cases h
 | x :: r,k,n,h=>by
  rw [bK] at h ⊢
  split
  ·rename_i h1; rw [if_pos h1] at h; cases h
  ·rename_i h1
   rw [if_neg h1] at h
   split
   ·rename_i h2; rw [if_pos h2] at h; cases h
   ·rename_i h2
    rw [if_neg h2] at h
    split
    ·simp
    ·rename_i h3; rw [if_neg h3] at h; exact CS h
def aZ (b:List UInt8):Nat × Int:=
  if (aS b).e=0 then
    (if (aA (b.drop (aS b).k)).2.2=0 then
      (if (aS b).wire=0 then ((aS b).k+(aA (b.drop (aS b).k)).2.1,0)
       else if 16384<(aA (b.drop (aS b).k)).1 then (0,4)
       else if ((b.length:Nat):Int) - (((aS b).k+(aA (b.drop (aS b).k)).2.1:Nat):Int)<(((aA (b.drop (aS b).k)).1:Nat):Int) then (0,2)
       else ((aS b).k+(aA (b.drop (aS b).k)).2.1+(aA (b.drop (aS b).k)).1,0))
     else (0,(aA (b.drop (aS b).k)).2.2))
  else (0,(aS b).e)
theorem QH {b:List UInt8} (h:¬ (aS b).e=0):aZ b=(0,(aS b).e):=by rw [aZ,if_neg h]
theorem Sb {b:List UInt8} (h:(aS b).e=0) (h2:¬ (aA (b.drop (aS b).k)).2.2=0):aZ b=(0,(aA (b.drop (aS b).k)).2.2):=by rw [aZ,if_pos h,if_neg h2]
theorem Rx {b:List UInt8} (h:(aS b).e=0) (h2:(aA (b.drop (aS b).k)).2.2=0) (h3:(aS b).wire=0):aZ b=((aS b).k+(aA (b.drop (aS b).k)).2.1,0):=by rw [aZ,if_pos h,if_pos h2,if_pos h3]
theorem RQ {b:List UInt8} (h:(aS b).e=0) (h2:(aA (b.drop (aS b).k)).2.2=0) (h3:¬ (aS b).wire=0) (h4:16384<(aA (b.drop (aS b).k)).1):aZ b=(0,4):=by rw [aZ,if_pos h,if_pos h2,if_neg h3,if_pos h4]
theorem Qn {b:List UInt8} (h:(aS b).e=0) (h2:(aA (b.drop (aS b).k)).2.2=0) (h3:¬ (aS b).wire=0) (h4:¬ 16384<(aA (b.drop (aS b).k)).1) (h5:((b.length:Nat):Int) - (((aS b).k+(aA (b.drop (aS b).k)).2.1:Nat):Int)<(((aA (b.drop (aS b).k)).1:Nat):Int)):aZ b=(0,2):=by rw [aZ,if_pos h,if_pos h2,if_neg h3,if_neg h4,if_pos h5]
theorem QD {b:List UInt8} (h:(aS b).e=0) (h2:(aA (b.drop (aS b).k)).2.2=0) (h3:¬ (aS b).wire=0) (h4:¬ 16384<(aA (b.drop (aS b).k)).1) (h5:¬ ((b.length:Nat):Int) - (((aS b).k+(aA (b.drop (aS b).k)).2.1:Nat):Int)<(((aA (b.drop (aS b).k)).1:Nat):Int)):aZ b=((aS b).k+(aA (b.drop (aS b).k)).2.1+(aA (b.drop (aS b).k)).1,0):=by rw [aZ,if_pos h,if_pos h2,if_neg h3,if_neg h4,if_neg h5]
theorem kU (b:List UInt8) (k:Nat):(aA (b.drop k)).2.1<=11/\(aA (b.drop k)).2.1+k<=max b.length k:=by
 have:=mW (l:=b.drop k) (k:=0) (n:=0) (by omega)
 unfold aA
 rw [List.length_drop] at this
 omega
theorem kQ (b:List UInt8):(aZ b).1<=b.length:=by
 have h1:=m_ b; have h2:=kU b (aS b).k
 unfold aZ
 split
 ·split
  ·split
   ·dsimp only; omega
   ·split
    ·simp
    ·split
     ·simp
     ·dsimp only; omega
  ·simp
 ·simp
theorem kv {b:List UInt8} (h:(aZ b).2=0):1<=(aZ b).1:=by
 unfold aZ at h ⊢
 split
 ·rename_i h0
  rw [if_pos h0] at h
  split
  ·rename_i h1
   rw [if_pos h1] at h
   have:=CS (l:=b.drop (aS b).k) (k:=0) (n:=0) h1
   split
   ·dsimp only; unfold aA; omega
   ·rename_i h2
    rw [if_neg h2] at h
    split
    ·rename_i h3; rw [if_pos h3] at h; cases h
    ·rename_i h3
     rw [if_neg h3] at h
     split
     ·rename_i h4; rw [if_pos h4] at h; cases h
     ·dsimp only; unfold aA; omega
  ·rename_i h1; rw [if_neg h1] at h; exact absurd h h1
 ·rename_i h0; rw [if_neg h0] at h; exact absurd h h0
def jf (b:List UInt8):Field:=if (aS b).wire=0 then ⟨(aS b).num,(aS b).wire,⟨(aA (b.drop (aS b).k)).1⟩,[]⟩ else ⟨(aS b).num,(aS b).wire,⟨0⟩,b.drop ((aS b).k+(aA (b.drop (aS b).k)).2.1)⟩
theorem yK {b:List UInt8} (h:(aS b).wire=0):(⟨(aS b).num,(aS b).wire,⟨(aA (b.drop (aS b).k)).1⟩,[]⟩:Field)=jf b:=by rw [jf,if_pos h]
theorem yt {b:List UInt8} (h:¬ (aS b).wire=0):(⟨(aS b).num,(aS b).wire,⟨0⟩,b.drop ((aS b).k+(aA (b.drop (aS b).k)).2.1)⟩:Field)=jf b:=by rw [jf,if_neg h]
end Go.Proofs.YtladifkbefehdaaGreat
namespace Go.Proofs.YtladifkbefehdaaGreat
open Go.RowKit
def eE (acc:List Field) (x:Field):Bool:=match acc[acc.length - 1]? with | none=>true | some y=>eF y x
def tf:Nat->List Field->List UInt8->List Field × Int
 | 0,acc,_=>(acc,0)
 | f+1,acc,b=>if b.length=0 then (acc,0) else if (aZ b).2=0 then (if eE acc (jf (b.take (aZ b).1))=true then tf f (acc++[jf (b.take (aZ b).1)]) (b.drop (aZ b).1) else ([],5)) else ([],(aZ b).2)
def bu (b:List UInt8):List Field × Int:=if 16384<b.length then ([],4) else tf b.length [] b
def fW (b:List UInt8) (i:Nat) (acc:List Field):Prop:=∃ f,b.length - i<=f/\bu b=tf f acc (b.drop i)
theorem Nv {b:List UInt8} (h:16384<b.length):bu b=([],4):=by rw [bu,if_pos h]
theorem oU {b:List UInt8} (h:¬ 16384<b.length):fW b 0 []:=⟨b.length,by omega,by rw [bu,if_neg h]; rfl⟩
theorem AY {b:List UInt8} {i:Nat} {acc:List Field} (h:fW b i acc) (hi:i<b.length):∃ f,b.length - i<=f+1/\bu b=if (aZ (b.drop i)).2=0 then (if eE acc (jf ((b.drop i).take (aZ (b.drop i)).1))=true then tf f (acc++[jf ((b.drop i).take (aZ (b.drop i)).1)]) ((b.drop i).drop (aZ (b.drop i)).1) else ([],5)) else ([],(aZ (b.drop i)).2):=by
 obtain ⟨f,hf,e⟩:=h
 cases f with
 | zero=>omega
 | succ f=>exact ⟨f,hf,by rw [e,tf,if_neg (by rw [List.length_drop]; omega)]⟩
theorem IM {b:List UInt8} {i:Nat} {acc:List Field} (h:fW b i acc) (hi:i<b.length) (hs:¬ (aZ (b.drop i)).2=0):bu b=([],(aZ (b.drop i)).2):=by
 obtain ⟨f,_,e⟩:=AY h hi; rw [e,if_neg hs]
theorem Lh {b:List UInt8} {i:Nat} {acc:List Field} (h:fW b i acc) (hi:b.length<=i):bu b=(acc,0):=by
 obtain ⟨f,_,e⟩:=h
 rw [e,List.drop_of_length_le hi]
 cases f <;> rfl
theorem tC:∀ {f:Nat} {acc:List Field} {b:List UInt8},(tf f acc b).1.length<=acc.length+b.length
 | 0,acc,b=>by simp [tf]
 | f+1,acc,b=>by
  unfold tf
  split
  ·simp
  ·split
   ·rename_i h0 h1
    split
    ·have:=tC (f:=f) (acc:=acc++[jf (b.take (aZ b).1)]) (b:=b.drop (aZ b).1)
     have h2:=kv h1
     rw [List.length_append,List.length_drop] at this
     simp only [List.length_cons,List.length_nil] at this
     omega
    ·simp
   ·simp
theorem HR (b:List UInt8):(bu b).1.length<=16384:=by
 unfold bu
 split
 ·simp
 ·have:=tC (f:=b.length) (acc:=[]) (b:=b)
  simp only [List.length_nil] at this
  omega
end Go.Proofs.YtladifkbefehdaaGreat
namespace Go.Proofs.YtladifkbefehdaaGreat
open Go.RowKit
def HD (x:Field) (s:Spec) (n:Int):Bool:=if ¬ x.wire=s.wire\/(1<n/\s.many=false) then false else if x.wire=0 then !decide ((x.n.n:Int)=0) else decide (0<((x.b.length:Nat):Int))
def fu (l:List Field) (q:Int):Nat:=l.countP fun x=>decide (x.num=q)
theorem fC {l:List Field} {k:Nat} (q:Int):fu (l.take k) q<=k:=Nat.le_trans List.countP_le_length (by rw [List.length_take]; exact Nat.min_le_left _ _)
theorem Cl {l:List Field} {k:Nat} {x:Field} (hx:l[k]? = some x) (q:Int):fu (l.take (k+1)) q=if q=x.num then fu (l.take k) x.num+1 else fu (l.take k) q:=by
 unfold fu
 rw [ax hx,List.countP_append]
 by_cases h:q=x.num
 ·subst h; simp
 ·have:¬ x.num=q:=fun e=>h e.symm
  simp [h,this]
def pc (l:List Field) (ss:List Spec) (k:Nat):Prop:=∀ j x,j<k->l[j]? = some x->∀ s ∈ ss,s.num=x.num->HD x s ((fu (l.take (j+1)) x.num:Nat):Int)=true
def AK (l:List Field) (ss:List Spec) (m:Nat):Prop:=∀ j y,j<m->ss[j]? = some y->y.need=true->¬ fu l y.num=0
def Dc (ss:List Spec) (x:Field) (n:Int) (m:Nat):Prop:=∀ j y,j<m->ss[j]? = some y->y.num=x.num->HD x y n=true
theorem mm {ss:List Spec} {x:Field} {n:Int}:Dc ss x n 0:=fun j y h=>by omega
theorem mh {l:List Field} {ss:List Spec}:pc l ss 0:=fun j y h=>by omega
theorem mc {l:List Field} {ss:List Spec}:AK l ss 0:=fun j y h=>by omega
def um (l:List Field) (v:Int):Prop:=pc l (aU v) l.length/\AK l (aU v) (aU v).length
open Classical in
noncomputable def fv (l:List Field) (v:Int):Int:=if (aU v).length=0 then 1 else if cm l=0 then (if um l v then 0 else 6) else cm l
theorem sY {l:List Field} {v:Int} (h:(aU v).length=0):1=fv l v:=by rw [fv,if_pos h]
theorem uS {l:List Field} {v:Int} (h:¬ (aU v).length=0) (h2:¬ cm l=0):cm l=fv l v:=by rw [fv,if_neg h,if_neg h2]
theorem jb {l:List Field} {v:Int} (h:¬ (aU v).length=0) (h2:cm l=0) (h3:¬ um l v):6=fv l v:=by rw [fv,if_neg h,if_pos h2,if_neg h3]
theorem td {l:List Field} {v:Int} (h:¬ (aU v).length=0) (h2:cm l=0) (h3:um l v):0=fv l v:=by rw [fv,if_neg h,if_pos h2,if_pos h3]
theorem Ci {ss:List Spec} {m:Nat} {x:Field} {n:Int} {y:Spec} (h:Dc ss x n m) (hy:ss[m]? = some y) (hn:y.num=x.num->HD x y n=true):Dc ss x n (m+1):=by
 intro j z hj hz
 by_cases hjm:j=m
 ·subst hjm; rw [hy] at hz; cases hz; exact hn
 ·exact h j z (by omega) hz
theorem CD {l:List Field} {ss:List Spec} {k m:Nat} {x:Field} (h:pc l ss k) (hx:l[k]? = some x) {n:Int} (hi:Dc ss x n m) (hm:ss.length<=m) (e:n=((fu (l.take (k+1)) x.num:Nat):Int)):pc l ss (k+1):=by
 subst e
 intro j z hj hz s hs hn
 by_cases hjk:j=k
 ·subst hjk; rw [hx] at hz; cases hz
  obtain ⟨p,hp,rfl⟩:=List.getElem_of_mem hs
  exact hi p _ (by omega) (List.getElem?_eq_getElem hp) hn
 ·exact h j z (by omega) hz s hs hn
theorem Bs {l:List Field} {ss:List Spec} {m:Nat} {y:Spec} (h:AK l ss m) (hy:ss[m]? = some y) (hn:y.need=true->¬ fu l y.num=0):AK l ss (m+1):=by
 intro j z hj hz
 by_cases hjm:j=m
 ·subst hjm; rw [hy] at hz; cases hz; exact hn
 ·exact h j z (by omega) hz
theorem fy {l:List Field} {v:Int} {k m:Nat} {x:Field} {y:Spec} (hx:l[k]? = some x) (hy:(aU v)[m]? = some y) {n:Int} (hn:y.num=x.num/\HD x y n=false) (e:n=((fu (l.take (k+1)) x.num:Nat):Int)):¬ um l v:=by
 intro h
 have:=h.1 k x (wF hx) hx y (List.mem_of_getElem? hy) hn.1
 rw [<- e,hn.2] at this; cases this
theorem Hr {l:List Field} {v:Int} {m:Nat} {y:Spec} {n:Nat} (hy:(aU v)[m]? = some y) (hn:y.need=true/\((n:Nat):Int)=0) (e:n=fu l y.num):¬ um l v:=
 fun h=>h.2 m y (wF hy) hy hn.1 (by omega)
theorem Hk {l:List Field} {v:Int} {k m:Nat} (h1:pc l (aU v) k) (hk:l.length<=k) (h2:AK l (aU v) m) (hm:(aU v).length<=m):um l v:=
 ⟨fun j x hj=>h1 j x (by omega),fun j y hj=>h2 j y (by omega)⟩
end Go.Proofs.YtladifkbefehdaaGreat
namespace Go.Proofs.YtladifkbefehdaaGreat
open Go.RowKit
theorem II {l:List Field} {v:Int} {k:Nat} {x:Field} (hx:l[k]? = some x) (h:x.num<=v):(l.take k).filter (fun f=>decide (f.num<=v))++[x]=(l.take (k+1)).filter (fun f=>decide (f.num<=v)):=by
 rw [ax hx,List.filter_append]; simp [h]
theorem Nq {l:List Field} {v:Int} {k:Nat} {x:Field} (hx:l[k]? = some x) (h:¬ x.num<=v):(l.take k).filter (fun f=>decide (f.num<=v))=(l.take (k+1)).filter (fun f=>decide (f.num<=v)):=by
 rw [ax hx,List.filter_append]; simp [h]
theorem Jn {l:List Field} {v:Int} {k:Nat} {x:Field} (hx:l[k]? = some x) (h:¬ x.num<=v):(l.take k).filter (fun f=>!decide (f.num<=v))++[x]=(l.take (k+1)).filter (fun f=>!decide (f.num<=v)):=by
 rw [ax hx,List.filter_append]; simp [h]
theorem KC {l:List Field} {v:Int} {k:Nat} {x:Field} (hx:l[k]? = some x) (h:x.num<=v):(l.take k).filter (fun f=>!decide (f.num<=v))=(l.take (k+1)).filter (fun f=>!decide (f.num<=v)):=by
 rw [ax hx,List.filter_append]; simp [h]
theorem BI (l:List Field) (p:Field->Bool):(l.filter p).length<=l.length:=List.length_filter_le _ _
def cV (l:List Field) (v:Int):List Field:=l.filter fun f=>decide (f.num<=v)
def dh (l:List Field) (v:Int):List Field:=l.filter fun f=>!decide (f.num<=v)
theorem qC (l:List Field) (v:Int):(cV l v).length<=l.length:=BI _ _
theorem nd (l:List Field) (v:Int):(dh l v).length<=l.length:=BI _ _
theorem zQ {l:List Field} {v:Int} {k:Nat} (hk:l.length<=k):(l.take k).filter (fun f=>decide (f.num<=v))=cV l v:=by rw [List.take_of_length_le hk]; rfl
theorem ES {l:List Field} {v:Int} {k:Nat} (hk:l.length<=k):(l.take k).filter (fun f=>!decide (f.num<=v))=dh l v:=by rw [List.take_of_length_le hk]; rfl
end Go.Proofs.YtladifkbefehdaaGreat
namespace Go.Proofs.YtladifkbefehdaaGreat
open Go.RowKit
def AJ (f:Field):Int:=IntKind.i64.wrap ((f.n.n:Nat):Int)
def dJ (c:Command) (f:Field):Command:=
 if f.num=1 then ⟨AJ f,c.client,c.seq,c.set,c.id,c.n,c.chunks,c.text⟩ else
 if f.num=2 then ⟨c.kind,AJ f,c.seq,c.set,c.id,c.n,c.chunks,c.text⟩ else
 if f.num=3 then ⟨c.kind,c.client,AJ f,c.set,c.id,c.n,c.chunks,c.text⟩ else
 if f.num=4 then ⟨c.kind,c.client,c.seq,AJ f,c.id,c.n,c.chunks,c.text⟩ else
 if f.num=5 then ⟨c.kind,c.client,c.seq,c.set,AJ f,c.n,c.chunks,c.text⟩ else
 if f.num=6 then ⟨c.kind,c.client,c.seq,c.set,c.id,AJ f,c.chunks,c.text⟩ else
 if f.num=7 then ⟨c.kind,c.client,c.seq,c.set,c.id,c.n,jk f.b,c.text⟩ else
 if f.num=8 then ⟨c.kind,c.client,c.seq,c.set,c.id,c.n,c.chunks,⟨f.b⟩⟩ else c
def cd:Command:=⟨0,0,0,0,0,0,[],⟨[]⟩⟩
def cn (l:List Field):Command:=l.foldl dJ cd
theorem aR {l:List Field} {k:Nat} {x:Field} (hx:l[k]? = some x):cn (l.take (k+1))=dJ (cn (l.take k)) x:=by
 unfold cn; rw [ax hx,List.foldl_append]; rfl
theorem ML {c:Command} {f:Field} (h:f.num=1):(⟨AJ f,c.client,c.seq,c.set,c.id,c.n,c.chunks,c.text⟩:Command)=dJ c f:=by rw [dJ,if_pos h]
theorem Mn {c:Command} {f:Field} (h:f.num=2):(⟨c.kind,AJ f,c.seq,c.set,c.id,c.n,c.chunks,c.text⟩:Command)=dJ c f:=by rw [dJ,if_neg (by omega),if_pos h]
theorem Lr {c:Command} {f:Field} (h:f.num=3):(⟨c.kind,c.client,AJ f,c.set,c.id,c.n,c.chunks,c.text⟩:Command)=dJ c f:=by rw [dJ,if_neg (by omega),if_neg (by omega),if_pos h]
theorem MY {c:Command} {f:Field} (h:f.num=4):(⟨c.kind,c.client,c.seq,AJ f,c.id,c.n,c.chunks,c.text⟩:Command)=dJ c f:=by rw [dJ,if_neg (by omega),if_neg (by omega),if_neg (by omega),if_pos h]
theorem Ll {c:Command} {f:Field} (h:f.num=5):(⟨c.kind,c.client,c.seq,c.set,AJ f,c.n,c.chunks,c.text⟩:Command)=dJ c f:=by rw [dJ,if_neg (by omega),if_neg (by omega),if_neg (by omega),if_neg (by omega),if_pos h]
theorem Ky {c:Command} {f:Field} (h:f.num=6):(⟨c.kind,c.client,c.seq,c.set,c.id,AJ f,c.chunks,c.text⟩:Command)=dJ c f:=by rw [dJ,if_neg (by omega),if_neg (by omega),if_neg (by omega),if_neg (by omega),if_neg (by omega),if_pos h]
theorem Ny {c:Command} {f:Field} (h:f.num=7):(⟨c.kind,c.client,c.seq,c.set,c.id,c.n,jk f.b,c.text⟩:Command)=dJ c f:=by rw [dJ,if_neg (by omega),if_neg (by omega),if_neg (by omega),if_neg (by omega),if_neg (by omega),if_neg (by omega),if_pos h]
theorem Mv {c:Command} {f:Field} (h:f.num=8):(⟨c.kind,c.client,c.seq,c.set,c.id,c.n,c.chunks,⟨f.b⟩⟩:Command)=dJ c f:=by rw [dJ,if_neg (by omega),if_neg (by omega),if_neg (by omega),if_neg (by omega),if_neg (by omega),if_neg (by omega),if_neg (by omega),if_pos h]
theorem MN {c:Command} {f:Field} (h:¬ (1<=f.num/\f.num<=8)):c=dJ c f:=by rw [dJ,if_neg (by omega),if_neg (by omega),if_neg (by omega),if_neg (by omega),if_neg (by omega),if_neg (by omega),if_neg (by omega),if_neg (by omega)]
noncomputable def jC (b:List UInt8) (v:Int):Int:=if (bu b).2=0 then fv (bu b).1 v else (bu b).2
end Go.Proofs.YtladifkbefehdaaGreat
namespace Go.Proofs.YtladifkbefehdaaGreat
open Go.RowKit
structure TkR where
 c:Command
 r:List Field
 e:Int
noncomputable def bQ (b:List UInt8) (v:Int):TkR:=
 if 1<=v/\v<=3 then (if jC b v=0 then (if fF (cn (cV (bu b).1 (bW v))) (dh (bu b).1 (bW v)) v=0/\fT (cn (cV (bu b).1 (bW v))) (dh (bu b).1 (bW v)) v=b then ⟨cn (cV (bu b).1 (bW v)),dh (bu b).1 (bW v),0⟩ else ⟨cd,[],6⟩) else ⟨cd,[],jC b v⟩) else ⟨cd,[],1⟩
theorem Qw {b:List UInt8} {v:Int} (h:¬ (1<=v/\v<=3)):bQ b v=⟨cd,[],1⟩:=by rw [bQ,if_neg h]
theorem OT {b:List UInt8} {v:Int} (h:1<=v/\v<=3) (h2:¬ jC b v=0):bQ b v=⟨cd,[],jC b v⟩:=by rw [bQ,if_pos h,if_neg h2]
theorem QC {b:List UInt8} {v:Int} (h:1<=v/\v<=3) (h2:jC b v=0) (h3:¬ fF (cn (cV (bu b).1 (bW v))) (dh (bu b).1 (bW v)) v=0\/¬ fT (cn (cV (bu b).1 (bW v))) (dh (bu b).1 (bW v)) v=b):bQ b v=⟨cd,[],6⟩:=by
 rw [bQ,if_pos h,if_pos h2,if_neg (fun h=>h3.elim (fun h4=>h4 h.1) (fun h4=>h4 h.2))]
theorem Rb {b:List UInt8} {v:Int} (h:1<=v/\v<=3) (h2:jC b v=0) (h3:fF (cn (cV (bu b).1 (bW v))) (dh (bu b).1 (bW v)) v=0/\fT (cn (cV (bu b).1 (bW v))) (dh (bu b).1 (bW v)) v=b):bQ b v=⟨cn (cV (bu b).1 (bW v)),dh (bu b).1 (bW v),0⟩:=by
 rw [bQ,if_pos h,if_pos h2,if_pos h3]
theorem Jm {b:List UInt8} {v:Int} (h:jC b v=0):(bu b).2=0/\cm (bu b).1=0:=by
 unfold jC at h
 split at h
 ·rename_i h1
  refine ⟨h1,?_⟩
  unfold fv at h
  split at h
  ·cases h
  ·split at h
   ·assumption
   ·exact h
 ·rename_i h1; exact absurd h h1
theorem NN {b:List UInt8} {v:Int} {u:Int} (h:jC b v=0):∀ f ∈ cV (bu b).1 u,f.b.length<=16384:=
 fun _ hf=>gM (Jm h).2 (List.mem_filter.1 hf).1
end Go.Proofs.YtladifkbefehdaaGreat
namespace Go.Proofs.YtladifkbefehdaaGreat
open Go.RowKit
end Go.Proofs.YtladifkbefehdaaGreat
namespace Go.Proofs.YtladifkbefehdaaGreat
open Go.RowKit
structure PutOk (c:Command) (v:Int):Prop where
 vr:1<=v/\v<=3
 nn:0<=c.kind/\0<=c.client/\0<=c.seq/\0<=c.set/\0<=c.id/\0<=c.n
 kind:¬ c.kind=0
 row:c.chunks.length=0\/rowF c.chunks=true
 text:v<3->c.text=⟨[]⟩
end Go.Proofs.YtladifkbefehdaaGreat
namespace Go.Proofs.YtladifkbefehdaaGreat
open Go.RowKit
end Go.Proofs.YtladifkbefehdaaGreat
namespace Go.Proofs.YtladifkbefehdaaGreat
open Go.RowKit
end Go.Proofs.YtladifkbefehdaaGreat
namespace Go.Proofs.YtladifkbefehdaaGreat
open Go.RowKit
theorem Qf {b:List UInt8} {k:Nat} {x:UInt8} (hx:b[k]? = some x):b.getD k (dflt .u8)=x:=by rw [List.getD_eq_getElem?_getD,hx]; rfl
theorem Tb {b:List UInt8} {k n:Nat} (h:aA b=bK k n (b.drop k)) (hk:(k:Int)<10) (hb:(k:Int)=(b.length:Int)):aA b=(0,0,2):=h.trans (MQ (by omega) (by omega))
theorem SH {b:List UInt8} {k n:Nat} (h:aA b=bK k n (b.drop k)) (hk:10<=(k:Int)):aA b=(0,0,3):=h.trans (Lf (by omega))
theorem SB {b:List UInt8} {k:Nat} (h1:k<=b.length) (h2:¬ (k:Int)=(b.length:Int)):∃ x,b[k]? = some x:=⟨_,List.getElem?_eq_getElem (by omega)⟩
theorem SQ {b:List UInt8} {k n:Nat} (h:aA b=bK k n (b.drop k)) (hk:(k:Int)<10) (hl:k<=b.length) (hb:¬ (k:Int)=(b.length:Int)) (h0:0<(k:Int)) (h1:((b.getD k (dflt .u8)).toNat:Int)=((UInt8.ofNat 0).toNat:Int)):aA b=(0,0,3):=by
 obtain ⟨x,hx⟩:=SB hl hb
 rw [Qf hx,show (UInt8.ofNat 0).toNat=0 from rfl] at h1
 exact Eb h (by omega) hx (.inl ⟨by omega,by omega⟩)
theorem Tc {b:List UInt8} {k n:Nat} (h:aA b=bK k n (b.drop k)) (_hk:(k:Int)<10) (hl:k<=b.length) (hb:¬ (k:Int)=(b.length:Int)) (h0:(k:Int)=9) (h1:((UInt8.ofNat 1).toNat:Int)<((b.getD k (dflt .u8)).toNat:Int)):aA b=(0,0,3):=by
 obtain ⟨x,hx⟩:=SB hl hb
 rw [Qf hx,show (UInt8.ofNat 1).toNat=1 from rfl] at h1
 exact Eb h (by omega) hx (.inr ⟨by omega,by omega⟩)
def Kq (n k:Nat) (x:UInt8):Nat:=n ||| (x &&& UInt8.ofNat 127).toNat*2 ^ (7*(k:Int)).toNat % 18446744073709551616
theorem Sq {k n:Nat} {x:UInt8} (hn:n<2 ^ (7*k)) (hk:k<=9) (h9:k=9->x.toNat<=1):Kq n k x=n+(x &&& 127).toNat*2 ^ (7*k):=by
 unfold Kq
 rw [show (UInt8.ofNat 127)=127 from rfl,show (7*(k:Int)).toNat=7*k by omega,Nat.mod_eq_of_lt (Kk hk h9)]
 exact Lb hn
theorem Sy {b:List UInt8} {k:Nat} {x:UInt8} (hx:b[k]? = some x) (h1:(k:Int)<=0\/¬ ((b.getD k (dflt .u8)).toNat:Int)=((UInt8.ofNat 0).toNat:Int)) (h2:¬ (k:Int)=9\/((b.getD k (dflt .u8)).toNat:Int)<=((UInt8.ofNat 1).toNat:Int)):(¬ (0<k/\x.toNat=0))/\¬ (k=9/\1<x.toNat):=by
 rw [Qf hx,show (UInt8.ofNat 0).toNat=0 from rfl] at h1
 rw [Qf hx,show (UInt8.ofNat 1).toNat=1 from rfl] at h2
 omega
theorem RR {b:List UInt8} {k n:Nat} {x y:UInt8} (h:aA b=bK k n (b.drop k)) (hn:n<2 ^ (7*k)) (hk:(k:Int)<10) (hx:b[k]? = some x) (hy:b[k]? = some y) (h1:(k:Int)<=0\/¬ ((b.getD k (dflt .u8)).toNat:Int)=((UInt8.ofNat 0).toNat:Int)) (h2:¬ (k:Int)=9\/((b.getD k (dflt .u8)).toNat:Int)<=((UInt8.ofNat 1).toNat:Int)) (h3:(y.toNat:Int)<((UInt8.ofNat 128).toNat:Int)):aA b=(Kq n k x,k+1,0):=by
 have hz:=Sy hx h1 h2
 rw [show (UInt8.ofNat 128).toNat=128 from rfl] at h3
 rw [hx] at hy; cases hy
 rw [Sq hn (by omega) (by omega)]
 exact Je h (by omega) hx hz.1 hz.2 (by omega)
theorem Ra {b:List UInt8} {k n:Nat} {x y:UInt8} (h:aA b=bK k n (b.drop k)) (hn:n<2 ^ (7*k)) (hn2:n<18446744073709551616) (hk:(k:Int)<10) (hx:b[k]? = some x) (hy:b[k]? = some y) (h1:(k:Int)<=0\/¬ ((b.getD k (dflt .u8)).toNat:Int)=((UInt8.ofNat 0).toNat:Int)) (h2:¬ (k:Int)=9\/((b.getD k (dflt .u8)).toNat:Int)<=((UInt8.ofNat 1).toNat:Int)) (h3:((UInt8.ofNat 128).toNat:Int)<=(y.toNat:Int)):Kq n k x<2 ^ (7*(k+1))/\Kq n k x<18446744073709551616/\aA b=bK (k+1) (Kq n k x) (b.drop (k+1)):=by
 have hz:=Sy hx h1 h2
 rw [show (UInt8.ofNat 128).toNat=128 from rfl] at h3
 rw [hx] at hy; cases hy
 have e:=Sq hn (show k<=9 by omega) (show k=9->x.toNat<=1 by omega)
 refine ⟨by rw [e]; exact IL hn,?_,by rw [e]; exact HE h (by omega) hx hz.1 hz.2 (by omega)⟩
 unfold Kq
 exact Nat.or_lt_two_pow (n:=64) hn2 (Nat.mod_lt _ (by decide))
theorem CH {c:Command} {v:Int} {k:Nat} {x:Int} (hx:[c.client,c.seq,c.set,c.id,c.n][k]? = some x) (h:x<0\/1048576<x):false=eI c v:=by
 refine GM ?_
 match k,hx with
 | 0,hx=>cases hx; exact .inl h
 | 1,hx=>cases hx; exact .inr (.inl h)
 | 2,hx=>cases hx; exact .inr (.inr (.inl h))
 | 3,hx=>cases hx; exact .inr (.inr (.inr (.inl h)))
 | 4,hx=>cases hx; exact .inr (.inr (.inr (.inr h)))
theorem AA {c:Command} {k:Nat} (h:(k:Int)<5):[c.client,c.seq,c.set,c.id,c.n][k]? = some ([c.client,c.seq,c.set,c.id,c.n].getD k (dflt .int)):=by
 rw [List.getD_eq_getElem?_getD,List.getElem?_eq_getElem (by simp only [List.length_cons,List.length_nil]; omega)]; rfl
theorem Aq {n:Int} {p:Prop} (h:n<=0\/p):(¬ 0<n)\/p:=h.imp_left (by omega)
theorem Na {l:List Int} {k:Nat} {x:Int} (h:((l.take k).all fun n=>cJ n 0 1048576)=true) (hx:l[k]? = some x) (h0:0<=x) (h1:x<=1048576):((l.take (k+1)).all fun n=>cJ n 0 1048576)=true:=by
 rw [ax hx,List.all_append,h]; simp [cJ]; omega
theorem zb {c:Command} {k:Nat} (h:(([c.client,c.seq,c.set,c.id,c.n].take k).all fun n=>cJ n 0 1048576)=true) (hk:5<=(k:Int)):¬ ((c.client<0\/1048576<c.client)\/(c.seq<0\/1048576<c.seq)\/(c.set<0\/1048576<c.set)\/(c.id<0\/1048576<c.id)\/(c.n<0\/1048576<c.n)):=by
 rw [List.take_of_length_le (by simp only [List.length_cons,List.length_nil]; omega)] at h
 simp only [List.all_cons,List.all_nil,cJ,Bool.and_eq_true,decide_eq_true_eq] at h
 omega
def Fv (b:List UInt8):List (Nat × LI):=[(3,{ σ:=Nat × Nat,F:=fun s=>([(0,one (.fz .u8 (b))),(5,one (.u64 s.2)),(6,one (.int 0)),(7,one (.int 3)),(9,one (.int s.1))],[]),J:=fun s=>s.1<=10/\s.2<2 ^ (7*s.1)/\s.2<18446744073709551616/\aA b=bK s.1 s.2 (b.drop s.1)/\s.1<=b.length,μ:=fun s=>10 - s.1 })]
def pU (c:Command) (v:Int):List (Nat × LI):=[(5,{ σ:=Nat,F:=fun k=>([(1,one (.int (v))),(2,one (.ptr 0 0)),(38,.one (.agg [.int c.client,.int c.seq,.int c.set,.int c.id,.int c.n])),(39,one (.int k))],[.box 24 (cellsOf (.nm .command) ((c)))]),J:=fun k=>k<=5/\([c.client,c.seq,c.set,c.id,c.n].take k).all (fun n=>cJ n 0 1048576)=true,μ:=fun k=>5 - k })]
theorem Gg (b:List UInt8) (r0:U64) (r1:Int) (r2:Int):cF tyT fI (Fv b) Tryz.f126 [.c (.fz .u8 (b))] [] [.c (.u64 (r0).n),.c (.int (r1)),.c (.int (r2))]=((fun (q11:UInt8)=>(fun (q10:Nat)=>(fun (q9:Nat)=>(fun (q8:Nat)=>(fun (q7:Int)=>(fun (q6:Int)=>(fun (q5:Int)=>(fun (q4:Int)=>(fun (q3:Int)=>(fun (q2:Prop)=>(fun (q1:Int)=>(fun (q0:Int)=>b.length*(1:Nat)<=(140737488355328:Nat)->∃ (s0:Nat × Nat),(fun (q15:Prop)=>(fun (q14:Prop)=>(fun (q13:Prop)=>(fun (q12:Prop)=>(b=b/\(0:Nat)=s0.snd/\q14/\q1=q1/\q0=(↑s0.fst:Int))/\(s0.fst<=q9/\s0.snd<q8 ^ ((7:Nat)*s0.fst)/\s0.snd<q10/\aA b=bK s0.fst s0.snd (List.drop s0.fst b)/\s0.fst<=b.length)/\∀ (s:Nat × Nat),(fun (q20:Nat)=>(fun (q19:Int)=>(fun (q18:Prop)=>(fun (q17:Int)=>(fun (q16:Prop)=>q20<=q9/\s.snd<q8 ^ ((7:Nat)*q20)/\s.snd<q10/\aA b=bK q20 s.snd (List.drop q20 b)/\q20<=b.length->(q17<(10:Int)->(q17=q3->(¬(2:Int)=q0->q2/\q0=r1/\(2:Int)=r2)/\((2:Int)=q0->s.snd=r0.n/\q12))/\(¬q17=q3->(q0<q17->q0<=q17/\q17<q3)/\(q0<q17/\q19=q4->(q0<q17/\q19=q4->q18)/\(q17<=q0\/¬q19=q4->q16))/\(q17<=q0\/¬q19=q4->(q17=(9:Int)->q0<=q17/\q17<q3)/\(q17=(9:Int)/\(↑(UInt8.ofNat (1:Nat)).toNat:Int)<q19->q18)/\(¬q17=(9:Int)\/q19<=(↑(UInt8.ofNat (1:Nat)).toNat:Int)->q16))))/\((10:Int)<=q17->q18)) (q0<=q17/\q17<q3/\∀ (x:UInt8),b[q20]? = some x->I64 (q6*q17)/\q0<=q6*q17/\q6*q17<(64:Int)/\q0<=q17/\q17<q3/\∀ (x_1:UInt8),b[q20]? = some x_1->((↑x_1.toNat:Int)<q5->I64 (q17+q7)/\(¬q14->q2/\q12)/\(q14->s.snd ||| (x &&& q11).toNat*q8 ^ (q6*q17).toNat % q10=r0.n/\q17+q7=r1/\q0=r2))/\(q5<=(↑x_1.toNat:Int)->I64 (q17+q7)/\∃ (s':Nat × Nat),(b=b/\s.snd ||| (x &&& q11).toNat*q8 ^ (q6*q17).toNat % q10=s'.snd/\q14/\q1=q1/\q17+q7=(↑s'.fst:Int))/\(s'.fst<=q9/\s'.snd<q8 ^ ((7:Nat)*s'.fst)/\s'.snd<q10/\aA b=bK s'.fst s'.snd (List.drop s'.fst b)/\s'.fst<=b.length)/\q9 - s'.fst<q9 - q20))) (↑q20:Int)) ((¬q15->q13)/\(q15->s.snd=r0.n/\q12))) (↑(UInt8.toNat (b.getD q20 (dflt Sh.u8))):Int)) s.fst) (q0=r1/\q0=r2)) (q2/\q0=r1/\q1=r2)) (q0=q0)) (q1=q0)) (0:Int)) (3:Int)) ((0:Nat)=r0.n)) (↑b.length:Int)) (↑(UInt8.ofNat (0:Nat)).toNat:Int)) (↑(UInt8.ofNat (128:Nat)).toNat:Int)) (7:Int)) (1:Int)) (2:Nat)) (10:Nat)) (18446744073709551616:Nat)) (UInt8.ofNat (127:Nat))):=by kernel_rfl
theorem I_ (b:List UInt8):Sat Tryz.prog (aj tyT) 126 [.c (.fz .u8 (b))] [] ⟨[],[.c (.u64 ((U64.mk (aA b).1)).n),.c (.int ((((aA b).2.1:Nat)))),.c (.int (((aA b).2.2)))],none,false⟩:=by
 refine aM cK (Fv b) Tryz.func126 (by decide) (by kernel_rfl) ?_
 rw [Gg]
 (repeat' (first | with_reducible refine And.intro ?_ ?_ | with_reducible refine and_imp.2 ?_ | intro))
 all_goals try (first | (first | with_reducible rfl | with_reducible assumption | omega | (refine ah ?_ ?_ <;> omega)) | decide)
 all_goals (refine ⟨(0,0),⟨rfl,rfl,?_,?_,?_⟩,⟨by omega,by decide,by decide,rfl,by omega⟩,?_⟩)
 all_goals try (first | trivial | rfl)
 (repeat' (first | with_reducible refine And.intro ?_ ?_ | with_reducible refine and_imp.2 ?_ | intro))
 all_goals try (first | (first | with_reducible rfl | with_reducible assumption | omega | (refine ah ?_ ?_ <;> omega)) | (rw [Tb (by with_reducible assumption) (by with_reducible assumption) (by with_reducible assumption)] <;> rfl) | (rw [SH (by with_reducible assumption) (by with_reducible assumption)] <;> rfl) | (rw [SQ (by with_reducible assumption) (by with_reducible assumption) (by with_reducible assumption) (by with_reducible assumption) (by with_reducible assumption) (by with_reducible assumption)] <;> rfl) | (rw [Tc (by with_reducible assumption) (by with_reducible assumption) (by with_reducible assumption) (by with_reducible assumption) (by with_reducible assumption) (by with_reducible assumption)] <;> rfl) | exact (congrArg Prod.fst (RR (by with_reducible assumption) (by with_reducible assumption) (by with_reducible assumption) (by with_reducible assumption) (by with_reducible assumption) (by with_reducible assumption) (by with_reducible assumption) (by with_reducible assumption))).symm | exact (congrArg (fun t=>((t.2.1:Nat):Int)) (RR (by with_reducible assumption) (by with_reducible assumption) (by with_reducible assumption) (by with_reducible assumption) (by with_reducible assumption) (by with_reducible assumption) (by with_reducible assumption) (by with_reducible assumption))).symm | exact (congrArg (fun t=>t.2.2) (RR (by with_reducible assumption) (by with_reducible assumption) (by with_reducible assumption) (by with_reducible assumption) (by with_reducible assumption) (by with_reducible assumption) (by with_reducible assumption) (by with_reducible assumption))).symm)
 all_goals (refine ⟨(‹Nat × Nat›.1+1,_),⟨rfl,rfl,?_⟩,?_⟩; (repeat' (first | with_reducible refine And.intro ?_ ?_ | with_reducible refine and_imp.2 ?_ | intro)))
 all_goals (first | (first | with_reducible rfl | with_reducible assumption | omega | (refine ah ?_ ?_ <;> omega)) | exact (Ra (by with_reducible assumption) (by with_reducible assumption) (by with_reducible assumption) (by with_reducible assumption) (by with_reducible assumption) (by with_reducible assumption) (by with_reducible assumption) (by with_reducible assumption) (by with_reducible assumption)).1 | exact (Ra (by with_reducible assumption) (by with_reducible assumption) (by with_reducible assumption) (by with_reducible assumption) (by with_reducible assumption) (by with_reducible assumption) (by with_reducible assumption) (by with_reducible assumption) (by with_reducible assumption)).2.1 | exact (Ra (by with_reducible assumption) (by with_reducible assumption) (by with_reducible assumption) (by with_reducible assumption) (by with_reducible assumption) (by with_reducible assumption) (by with_reducible assumption) (by with_reducible assumption) (by with_reducible assumption)).2.2)
theorem Cb (x:Field) (y:Field) (r0:Bool):cF tyT fI [] Tryz.f92 [.agg (cellsOf (.nm .field) x),.agg (cellsOf (.nm .field) y)] [] [.c (.bool (.atom (r0)))]=(I64 x.num->I64 x.wire->x.n.n<(18446744073709551616:Nat)->x.b.length*(1:Nat)<=(140737488355328:Nat)->I64 y.num->I64 y.wire->y.n.n<(18446744073709551616:Nat)->y.b.length*(1:Nat)<=(140737488355328:Nat)->(y.num=x.num->(decide (y.wire=(2:Int)) && decide (x.wire=(2:Int)))=r0)/\(¬y.num=x.num->decide (x.num<y.num)=r0)):=by kernel_rfl
theorem DR (x:Field) (y:Field):Sat Tryz.prog (aj tyT) 92 [.agg (cellsOf (.nm .field) x),.agg (cellsOf (.nm .field) y)] [] ⟨[],[.c (.bool (.atom ((eF x y))))],none,false⟩:=by
 refine aM cK [] Tryz.func92 (by decide) (by kernel_rfl) ?_
 rw [Cb]
 grind [eF]
theorem FU (x:Field) (r0:Bool):cF tyT fI [] Tryz.f118 [.agg (cellsOf (.nm .field) x)] [] [.c (.bool (.atom (r0)))]=(I64 x.num->I64 x.wire->x.n.n<(18446744073709551616:Nat)->x.b.length*(1:Nat)<=(140737488355328:Nat)->(x.num<(1:Int)\/(1000:Int)<x.num->false=r0)/\((1:Int)<=x.num/\x.num<=(1000:Int)->(x.wire=(0:Int)->decide ((↑x.b.length:Int)=(0:Int))=r0)/\(¬x.wire=(0:Int)->(x.wire=(2:Int)->decide ((↑x.n.n:Int)=(↑(0:Nat):Int))=r0)/\(¬x.wire=(2:Int)->false=r0)))):=by kernel_rfl
theorem EC (x:Field):Sat Tryz.prog (aj tyT) 118 [.agg (cellsOf (.nm .field) x)] [] ⟨[],[.c (.bool (.atom ((dY x))))],none,false⟩:=by
 refine aM cK [] Tryz.func118 (by decide) (by kernel_rfl) ?_
 rw [FU]
 grind [dY,BQ,Fm]
theorem Fi (x:List UInt8) (y:List UInt8) (r0:Bool):cF tyT fI [] Tryz.f55 [.c (.fz .u8 (x)),.c (.fz .u8 (y))] [] [.c (.bool (.atom (r0)))]=(x.length*(1:Nat)<=(140737488355328:Nat)->y.length*(1:Nat)<=(140737488355328:Nat)->decide (Str.mk x=Str.mk y)=r0):=by kernel_rfl
theorem FT (x:List UInt8) (y:List UInt8):Sat Tryz.prog (aj tyT) 55 [.c (.fz .u8 (x)),.c (.fz .u8 (y))] [] ⟨[],[.c (.bool (.atom ((decide (x=y)))))],none,false⟩:=by
 refine aM cK [] Tryz.func55 (by decide) (by kernel_rfl) ?_
 rw [Fi]
 grind
theorem Ck (x:List UInt8) (r0:List UInt8):cF tyT fI [] Tryz.f96 [.c (.fz .u8 (x))] [] [.c (.fz .u8 (r0))]=((fun (q0:Prop)=>q0->∀ (b:Bool),(b=true->x=[])->(b=true->r0=[])/\(b=false->q0/\x=r0)) (x.length*(1:Nat)<=(140737488355328:Nat))):=by kernel_rfl
theorem AQ (x:List UInt8):Sat Tryz.prog (aj tyT) 96 [.c (.fz .u8 (x))] [] ⟨[],[.c (.fz .u8 ((x)))],none,false⟩:=by
 refine aM cK [] Tryz.func96 (by decide) (by kernel_rfl) ?_
 rw [Ck]
 grind
theorem OI (k:Int) (l:Int) (r0:Spec):cF tyT fI [] Tryz.f162 [.c (.int (k)),.c (.int (l))] [] [.agg (cellsOf (.nm .spec) r0)]=(I64 k->I64 l->k=r0.num/\(0:Int)=r0.wire/\l=r0.since/\false=r0.need/\false=r0.many):=by kernel_rfl
theorem Ok (k:Int) (l:Int):Sat Tryz.prog (aj tyT) 162 [.c (.int (k)),.c (.int (l))] [] ⟨[],[.agg (cellsOf (.nm .spec) (⟨k,0,l,false,false⟩))],none,false⟩:=by
 refine aM cK [] Tryz.func162 (by decide) (by kernel_rfl) ?_
 rw [OI]
 grind
theorem Pt (k:Int) (l:Int) (r0:Spec):cF tyT fI [] Tryz.f163 [.c (.int (k)),.c (.int (l))] [] [.agg (cellsOf (.nm .spec) r0)]=(I64 k->I64 l->k=r0.num/\(2:Int)=r0.wire/\l=r0.since/\false=r0.need/\false=r0.many):=by kernel_rfl
theorem Ox (k:Int) (l:Int):Sat Tryz.prog (aj tyT) 163 [.c (.int (k)),.c (.int (l))] [] ⟨[],[.agg (cellsOf (.nm .spec) (⟨k,2,l,false,false⟩))],none,false⟩:=by
 refine aM cK [] Tryz.func163 (by decide) (by kernel_rfl) ?_
 rw [Pt]
 grind
theorem Om (x:Spec) (r0:Spec):cF tyT fI [] Tryz.f164 [.agg (cellsOf (.nm .spec) x)] [] [.agg (cellsOf (.nm .spec) r0)]=(I64 x.num->I64 x.wire->I64 x.since->x.num=r0.num/\x.wire=r0.wire/\x.since=r0.since/\true=r0.need/\x.many=r0.many):=by kernel_rfl
theorem PB (x:Spec):Sat Tryz.prog (aj tyT) 164 [.agg (cellsOf (.nm .spec) x)] [] ⟨[],[.agg (cellsOf (.nm .spec) ({ x with need:=true }))],none,false⟩:=by
 refine aM cK [] Tryz.func164 (by decide) (by kernel_rfl) ?_
 rw [Om]
 grind
theorem OO (x:Spec) (r0:Spec):cF tyT fI [] Tryz.f165 [.agg (cellsOf (.nm .spec) x)] [] [.agg (cellsOf (.nm .spec) r0)]=(I64 x.num->I64 x.wire->I64 x.since->x.num=r0.num/\x.wire=r0.wire/\x.since=r0.since/\x.need=r0.need/\true=r0.many):=by kernel_rfl
theorem Oh (x:Spec):Sat Tryz.prog (aj tyT) 165 [.agg (cellsOf (.nm .spec) x)] [] ⟨[],[.agg (cellsOf (.nm .spec) ({ x with many:=true }))],none,false⟩:=by
 refine aM cK [] Tryz.func165 (by decide) (by kernel_rfl) ?_
 rw [OO]
 grind
theorem Ma (x:Field) (s:Spec) (n:Int) (r0:Bool):cF tyT fI [] Tryz.f95 [.agg (cellsOf (.nm .field) x),.agg (cellsOf (.nm .spec) s),.c (.int (n))] [] [.c (.bool (.atom (r0)))]=(I64 x.num->I64 x.wire->x.n.n<(18446744073709551616:Nat)->x.b.length*(1:Nat)<=(140737488355328:Nat)->I64 s.num->I64 s.wire->I64 s.since->I64 n->(¬x.wire=s.wire\/(1:Int)<n/\s.many=false->false=r0)/\(x.wire=s.wire/\(n<=(1:Int)\/s.many=true)->(x.wire=(0:Int)->(!decide ((↑x.n.n:Int)=(↑(0:Nat):Int)))=r0)/\(¬x.wire=(0:Int)->decide ((0:Int)<(↑x.b.length:Int))=r0))):=by kernel_rfl
theorem Mm (x:Field) (s:Spec) (n:Int):Sat Tryz.prog (aj tyT) 95 [.agg (cellsOf (.nm .field) x),.agg (cellsOf (.nm .spec) s),.c (.int (n))] [] ⟨[],[.c (.bool (.atom ((HD x s n))))],none,false⟩:=by
 refine aM cK [] Tryz.func95 (by decide) (by kernel_rfl) ?_
 rw [Ma]
 grind [HD]
theorem Mr (num:Int) (wire:Int) (r0:Int) (r1:List UInt8):po tyT fI [] Tryz.f119 [.c (.int (num)),.c (.int (wire))] [] [.c (.own 0),.c (.int (r0))] [.row 5 .u8 (r1)]=((fun (q0:Int)=>I64 num->I64 wire->((num<(1:Int)\/(1000:Int)<num)\/¬wire=(0:Int)/\¬wire=(2:Int)->(1:Int)=r0/\r1=[])/\(((1:Int)<=num/\num<=(1000:Int))/\(wire=(0:Int)\/wire=(2:Int))->I64 ((8:Int)*num)/\I64 q0/\(0:Int)<=q0/\(0:Int)=r0/\eZ q0.toNat=r1)) ((8:Int)*num+wire)):=by kernel_rfl
theorem MS (num:Int) (wire:Int):Sat Tryz.prog (aj tyT) 119 [.c (.int (num)),.c (.int (wire))] [] ⟨[],[.c (.own 0),.c (.int ((vk num wire)))],some ([.row 5 .u8 ((lq num wire))]),true⟩:=by
 refine dQ cK [] Tryz.func119 (by decide) (by kernel_rfl) ?_
 rw [Mr]
 (repeat' (first | with_reducible refine And.intro ?_ ?_ | with_reducible refine and_imp.2 ?_ | intro))
 all_goals (first | (first | with_reducible rfl | with_reducible assumption | omega | (refine ah ?_ ?_ <;> omega)) | exact (GA (by omega)) | exact (AX (by omega)) | exact (yo (by omega)).symm | exact (yo (by omega)) | exact (EL (by omega)))
theorem wX (c:Command) (v:Int) (r0:Bool):cF tyT fI (pU c v) Tryz.f41 [.agg (cellsOf (.nm .command) c),.c (.int (v))] [] [.c (.bool (.atom (r0)))]=((fun (q7:List Int)=>(fun (q6:Nat)=>(fun (q5:Int)=>(fun (q4:Int)=>(fun (q3:Int)=>(fun (q2:List Int)=>(fun (q1:Prop)=>(fun (q0:List (den Sh.int))=>I64 q5->I64 q4->I64 c.seq->I64 c.set->I64 c.id->I64 c.n->q7.length*(8:Nat)<=(140737488355328:Nat)->c.text.b.length<=(140737488355328:Nat)->I64 v->I64 (bD q5)->((q5<(1:Int)\/(99:Int)<q5)\/¬bD q5=q3/\bD q5<=v->false=r0)/\(((1:Int)<=q5/\q5<=(99:Int))/\(bD q5=q3\/v<bD q5)->∃ (s0:Nat),(v=v/\q4=q4/\c.seq=c.seq/\c.set=c.set/\c.id=c.id/\c.n=c.n/\q3=(↑s0:Int)/\q1)/\(s0<=q6/\((List.take s0 q2).all fun (n:Int)=>cJ n q3 (1048576:Int))=true)/\∀ (s:Nat),(fun (q8:den Sh.int)=>s<=q6/\((List.take s q2).all fun (n:Int)=>cJ n q3 (1048576:Int))=true->((↑s:Int)<(5:Int)->q3<=(↑s:Int)/\(↑s:Int)<(↑q6:Int)/\(I64 q8->(q8<q3\/(1048576:Int)<q8->false=r0)/\(q3<=q8/\q8<=(1048576:Int)->I64 ((↑s:Int)+(1:Int))/\∃ (s':Nat),(v=v/\q4=q4/\c.seq=c.seq/\c.set=c.set/\c.id=c.id/\c.n=c.n/\(↑s:Int)+(1:Int)=(↑s':Int)/\q1)/\(s' <= q6/\((List.take s' q2).all fun (n:Int)=>cJ n q3 (1048576:Int))=true)/\q6 - s' < q6 - s)))/\((5:Int)<=(↑s:Int)->(q3<(↑q7.length:Int)/\rowF q7=false->false=r0)/\((↑q7.length:Int)<=q3\/rowF q7=true->(v<(3:Int)->decide (c.text=Str.mk [])=r0)/\((3:Int)<=v->decide ((↑c.text.b.length:Int)<=(16:Int))=r0)))) (q0.getD s (dflt Sh.int)))) [q4,c.seq,c.set,c.id,c.n]) (q5=q5/\q4=q4/\c.seq=c.seq/\c.set=c.set/\c.id=c.id/\c.n=c.n/\q7=q7/\c.text=c.text)) [q4,c.seq,c.set,c.id,c.n]) (0:Int)) c.client) c.kind) (5:Nat)) c.chunks):=by kernel_rfl
theorem wH (c:Command) (v:Int):Sat Tryz.prog (aj tyT) 41 [.agg (cellsOf (.nm .command) c),.c (.int (v))] [] ⟨[],[.c (.bool (.atom ((eI c v))))],none,false⟩:=by
 refine aM cK (pU c v) Tryz.func41 (by decide) (by kernel_rfl) ?_
 rw [wX]
 (repeat' (first | with_reducible refine And.intro ?_ ?_ | with_reducible refine and_imp.2 ?_ | intro))
 all_goals try (first | (first | with_reducible rfl | with_reducible assumption | omega | (refine ah ?_ ?_ <;> omega)) | exact rfl | exact (pb (by omega)) | exact (CH (AA (by omega)) (by with_reducible assumption)) | exact (Na (by with_reducible assumption) (AA (by omega)) (by with_reducible assumption) (by with_reducible assumption)) | exact (sa (And.intro (by with_reducible assumption) (by with_reducible assumption))) | exact (we (by omega) (zb (by with_reducible assumption) (by omega)) (Aq (by assumption)) (by omega)) | exact (wy (by omega) (zb (by with_reducible assumption) (by omega)) (Aq (by assumption)) (by omega)))
 all_goals try (refine ⟨0,?_⟩; (repeat' (first | with_reducible refine And.intro ?_ ?_ | with_reducible refine and_imp.2 ?_ | intro)))
 all_goals try (first | (first | with_reducible rfl | with_reducible assumption | omega | (refine ah ?_ ?_ <;> omega)) | exact rfl | exact (pb (by omega)) | exact (CH (AA (by omega)) (by with_reducible assumption)) | exact (Na (by with_reducible assumption) (AA (by omega)) (by with_reducible assumption) (by with_reducible assumption)) | exact (sa (And.intro (by with_reducible assumption) (by with_reducible assumption))) | exact (we (by omega) (zb (by with_reducible assumption) (by omega)) (Aq (by assumption)) (by omega)) | exact (wy (by omega) (zb (by with_reducible assumption) (by omega)) (Aq (by assumption)) (by omega)))
 all_goals try (refine ⟨‹Nat› + 1,?_⟩; (repeat' (first | with_reducible refine And.intro ?_ ?_ | with_reducible refine and_imp.2 ?_ | intro)))
 all_goals (first | (first | with_reducible rfl | with_reducible assumption | omega | (refine ah ?_ ?_ <;> omega)) | exact rfl | exact (pb (by omega)) | exact (CH (AA (by omega)) (by with_reducible assumption)) | exact (Na (by with_reducible assumption) (AA (by omega)) (by with_reducible assumption) (by with_reducible assumption)) | exact (sa (And.intro (by with_reducible assumption) (by with_reducible assumption))) | exact (we (by omega) (zb (by with_reducible assumption) (by omega)) (Aq (by assumption)) (by omega)) | exact (wy (by omega) (zb (by with_reducible assumption) (by omega)) (Aq (by assumption)) (by omega)))
def zR:cj:=(br 41 (bp (ai (kT (.nm .command)) (ai (kC cI) aK)) aJ fun (c,v,_) (_)=>⟨[],[.c (.bool (.atom ((eI c v))))],none,false⟩) (br 119 (bp (ai (kC cI) (ai (kC cI) aK)) aJ fun (num,wire,_) (_)=>⟨[],[.c (.own 0),.c (.int ((vk num wire)))],some ([.row 5 .u8 ((lq num wire))]),true⟩) (br 95 (bp (ai (kT (.nm .field)) (ai (kT (.nm .spec)) (ai (kC cI) aK))) aJ fun (x,s,n,_) (_)=>⟨[],[.c (.bool (.atom ((HD x s n))))],none,false⟩) (br 165 (bp (ai (kT (.nm .spec)) aK) aJ fun (x,_) (_)=>⟨[],[.agg (cellsOf (.nm .spec) ({ x with many:=true }))],none,false⟩) (br 164 (bp (ai (kT (.nm .spec)) aK) aJ fun (x,_) (_)=>⟨[],[.agg (cellsOf (.nm .spec) ({ x with need:=true }))],none,false⟩) (br 163 (bp (ai (kC cI) (ai (kC cI) aK)) aJ fun (k,l,_) (_)=>⟨[],[.agg (cellsOf (.nm .spec) (⟨k,2,l,false,false⟩))],none,false⟩) (br 162 (bp (ai (kC cI) (ai (kC cI) aK)) aJ fun (k,l,_) (_)=>⟨[],[.agg (cellsOf (.nm .spec) (⟨k,0,l,false,false⟩))],none,false⟩) (br 96 (bp (ai (kC (cL .u8)) aK) aJ fun (x,_) (_)=>⟨[],[.c (.fz .u8 ((x)))],none,false⟩) (br 55 (bp (ai (kC (cL .u8)) (ai (kC (cL .u8)) aK)) aJ fun (x,y,_) (_)=>⟨[],[.c (.bool (.atom ((decide (x=y)))))],none,false⟩) (br 118 (bp (ai (kT (.nm .field)) aK) aJ fun (x,_) (_)=>⟨[],[.c (.bool (.atom ((dY x))))],none,false⟩) (br 92 (bp (ai (kT (.nm .field)) (ai (kT (.nm .field)) aK)) aJ fun (x,y,_) (_)=>⟨[],[.c (.bool (.atom ((eF x y))))],none,false⟩) (br 126 (bp (ai (kC (cL .u8)) aK) aJ fun (b,_) (_)=>⟨[],[.c (.u64 ((U64.mk (aA b).1)).n),.c (.int ((((aA b).2.1:Nat)))),.c (.int (((aA b).2.2)))],none,false⟩) fI))))))))))))
theorem kR:aN Tryz.prog (aj tyT) zR:=(av (au (ab bn (ab (ao aw) ak)) al fun (c,v,_) (_) _=>wH c v ) (av (au (ab (ao aw) (ab (ao aw) ak)) al fun (num,wire,_) (_) _=>MS num wire ) (av (au (ab bn (ab bn (ab (ao aw) ak))) al fun (x,s,n,_) (_) _=>Mm x s n ) (av (au (ab bn ak) al fun (x,_) (_) _=>Oh x ) (av (au (ab bn ak) al fun (x,_) (_) _=>PB x ) (av (au (ab (ao aw) (ab (ao aw) ak)) al fun (k,l,_) (_) _=>Ox k l ) (av (au (ab (ao aw) (ab (ao aw) ak)) al fun (k,l,_) (_) _=>Ok k l ) (av (au (ab (ao bb) ak) al fun (x,_) (_) _=>AQ x ) (av (au (ab (ao bb) (ab (ao bb) ak)) al fun (x,y,_) (_) _=>FT x y ) (av (au (ab bn ak) al fun (x,_) (_) _=>EC x ) (av (au (ab bn (ab bn ak)) al fun (x,y,_) (_) _=>DR x y ) (av (au (ab (ao bb) ak) al fun (b,_) (_) _=>I_ b ) cK))))))))))))
end Go.Proofs.YtladifkbefehdaaGreat
