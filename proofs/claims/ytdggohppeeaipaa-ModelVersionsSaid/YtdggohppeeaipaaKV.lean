/- The law: for every input it returns true, and each argument reads behind the call as it read before; and what leads there. Conditions: each lemma's own. -/
import Derived.ProofKit
import Derived.SizedLaws
import Derived.Test.YtdggohppeeaipaaChecked
import Derived.Test.YtdggohppeeaipaaRows
import Derived.Test.YtdggohppeeaipaaKVM4
set_option linter.unusedVariables false
set_option linter.unusedSimpArgs false
namespace Go.Proofs.Ytdggohppeeaipaa
open Go.RowKit
def fb {α:Type} (l:List α) (i:Nat) (x:α):List α:=l.take i++x :: l.drop i
def uT {α:Type} (l:List α) (i:Int):List α:=l.take i.toNat++l.drop (i+1).toNat
def bz (s:State) (c:Command):Int:=if 0<=ah Opn.set c.set s.opens/\¬ (s.opens.getD (ah Opn.set c.set s.opens).toNat (dflt (.nm .opn))).client=c.client then -1 else ah Opn.set c.set s.opens
def aS (s:State) (c:Command):State × Reply:=if 0<=ah Opn.set c.set s.opens then (s,⟨16,(s.opens.getD (ah Opn.set c.set s.opens).toNat (dflt (.nm .opn))).client⟩)
 else ({ s with opens:=fb s.opens (s.opens.takeWhile fun y=>decide (y.set<c.set)).length ⟨c.set,c.client⟩ },⟨0,0⟩)
def aU (s:State) (c:Command):State × Reply:=if bz s c<0 then (s,⟨15,0⟩) else ({ s with opens:=uT s.opens (bz s c) },⟨0,0⟩)
def aM (s:State) (c:Command):State × Reply:=
 if bz s c<0 then (s,⟨15,0⟩)
 else if 16<=(s.snaps.length:Int)\/1048576<=s.next then (s,⟨20,0⟩)
 else if ¬ s.quota=0/\s.quota<(distF (s.snaps++[⟨0,0,c.chunks,false,⟨[]⟩⟩]):Int) then (s,⟨19,0⟩)
 else ({ s with next:=s.next+1,opens:=uT s.opens (bz s c),snaps:=s.snaps++[⟨s.next,c.set,c.chunks,false,⟨[]⟩⟩] },⟨0,s.next⟩)
def aJ (s:State) (at_:Nat):State × Reply:=
 if (s.snaps.getD at_ (dflt (.nm .snap))).held=true then (s,⟨17,0⟩)
 else if hY s at_=true then (s,⟨18,0⟩)
 else ({ s with snaps:=aW (s.snaps.getD at_ (dflt (.nm .snap))).id s.snaps },⟨0,(ft s.snaps (s.snaps.getD at_ (dflt (.nm .snap))).id).length⟩)
def bb (s:State) (at_:Nat):State × Reply:=(s,⟨0,(s.snaps.getD at_ (dflt (.nm .snap))).chunks.length⟩)
def bh (b:Bool) (s:State) (at_:Nat):State × Reply:=
 if (s.snaps.getD at_ (dflt (.nm .snap))).held=b then (s,⟨0,0⟩)
 else ({ s with snaps:=s.snaps.set at_ { s.snaps.getD at_ (dflt (.nm .snap)) with held:=b } },⟨0,1⟩)
def cw (c:Command) (s:State) (at_:Nat):State × Reply:=({ s with snaps:=s.snaps.set at_ { s.snaps.getD at_ (dflt (.nm .snap)) with tag:=c.text } },⟨0,0⟩)
def cQ (c:Command) (s:State):State × Reply:=({ s with keep:=c.n },⟨0,0⟩)
def cn (c:Command) (s:State):State × Reply:=({ s with quota:=c.n },⟨0,distF s.snaps⟩)
theorem bB {α:Type} {key:α->Int} {want:Int} {l:List α} (h:0<=ah key want l):ah key want l<(l.length:Int):=by
 unfold ah at *
 split
 ·rename_i i hi
  have:=(List.findIdx?_eq_some_iff_getElem.1 hi).1
  omega
 ·omega
theorem zO {s:State} {c:Command} (h:0<=bz s c):bz s c+1<=(s.opens.length:Int):=by
 unfold bz at *
 split
 ·rename_i h1; rw [if_pos h1] at h; omega
 ·rename_i h1; rw [if_neg h1] at h
  have:=bB h
  omega
theorem vW (i:Int) (m:List Opn) (l:List Opn) (h0:0<=i/\i<=(l.length:Int)) (h1:l.length<1048576) (h2:m.length=1):Sat Try.prog (aq aI) 80 [.c (.own 0),.c (.int (i)),.c (.fz (.nm .opn) (m))] [.row 48 (.nm .opn) (l)] ⟨[0<=i/\i<=(l.length:Int),l.length<1048576,m.length=1],[.c (.own 0)],some ([.row 48 (.nm .opn) ((l.take i.toNat++m++l.drop i.toNat))]),false⟩:=nK i l m h0 h1 h2
theorem sJ (i:Int) (l:List Sess) (m:List Sess) (h0:0<=i/\i<=(l.length:Int)) (h1:l.length<1048576) (h2:m.length=1):Sat Try.prog (aq aI) 25 [.c (.own 0),.c (.int (i)),.c (.own 1)] [.row 40 (.nm .sess) (l),.row 40 (.nm .sess) (m)] ⟨[0<=i/\i<=(l.length:Int),l.length<1048576,m.length=1],[.c (.own 0)],some ([.row 40 (.nm .sess) ((l.take i.toNat++m++l.drop i.toNat)),.row 40 (.nm .sess) ((m))]),false⟩:=oe i l m h0 h1 h2
theorem vG (i:Int) (j:Int) (l:List Opn) (h0:0<=i/\i<(l.length:Int)/\j=i+1):Sat Try.prog (aq aI) 83 [.c (.own 0),.c (.int (i)),.c (.int (j))] [.row 48 (.nm .opn) (l)] ⟨[0<=i/\i<(l.length:Int)/\j=i+1],[.c (.own 0)],some ([.row 48 (.nm .opn) ((l.take i.toNat++l.drop j.toNat))]),false⟩:=qm i j l h0
theorem vx (c:Command) (v:Int) (nx:Int) (kp:Int) (qt:Int) (se:List Sess) (op:List Opn) (sn:List Snap) (r0:Int):dx aI iv [] Try.f81 [.c (.ptr 0 0),.agg (cellsOf (.nm .command) c)] [.box 29 ([.int (v),.int (nx),.int (kp),.int (qt),.own 1,.own 2,.own 3]),.row 40 (.nm .sess) (se),.row 48 (.nm .opn) (op),.row 59 (.nm .snap) (sn)] [.c (.int (r0))]=((fun (q0:Int)=>I64 c.kind->I64 c.client->I64 c.seq->I64 c.set->I64 c.id->I64 c.n->c.chunks.length*(8:Nat)<=(140737488355328:Nat)->c.text.b.length<=(140737488355328:Nat)->I64 q0->((0:Int)<=q0->(0:Int)<=q0/\q0<(↑op.length:Int))/\(((0:Int)<=q0->I64 (op.getD q0.toNat (dflt (Sh.nm NT.opn))).set/\I64 (op.getD q0.toNat (dflt (Sh.nm NT.opn))).client)->((0:Int)<=q0/\¬(op.getD q0.toNat (dflt (Sh.nm NT.opn))).client=c.client->(-1:Int)=r0)/\(q0<(0:Int)\/(op.getD q0.toNat (dflt (Sh.nm NT.opn))).client=c.client->q0=r0))) (ah Opn.set c.set op)):=by kernel_rfl
theorem vf (c:Command) (v:Int) (nx:Int) (kp:Int) (qt:Int) (se:List Sess) (op:List Opn) (sn:List Snap):Sat Try.prog (aq aI) 81 [.c (.ptr 0 0),.agg (cellsOf (.nm .command) c)] [.box 29 ([.int (v),.int (nx),.int (kp),.int (qt),.own 1,.own 2,.own 3]),.row 40 (.nm .sess) (se),.row 48 (.nm .opn) (op),.row 59 (.nm .snap) (sn)] ⟨[],[.c (.int ((bz (State.mk v nx kp qt se op sn) c)))],none,false⟩:=by
 refine aX dJ [] Try.func81 (by decide) (by kernel_rfl) ?_
 rw [vx]
 (repeat' (first | with_reducible refine And.intro ?_ ?_ | with_reducible refine and_imp.2 ?_ | intro))
 all_goals (first | (first | with_reducible rfl | with_reducible assumption | omega | (refine av ?_ ?_ <;> omega)) | exact bB (by with_reducible assumption) | (unfold bz; grind))
theorem De (c:Command) (v:Int) (nx:Int) (kp:Int) (qt:Int) (se:List Sess) (op:List Opn) (sn:List Snap) (r0:Reply) (r1:Command) (r2:Int) (r3:Int) (r4:Int) (r5:Int) (r6:List Sess) (r7:List Opn) (r8:List Snap):nd aI iv [] Try.f60 [.c (.ptr 0 0),.c (.ptr 1 0)] [.box 42 (cellsOf (.nm .command) (c)),.box 29 ([.int (v),.int (nx),.int (kp),.int (qt),.own 2,.own 3,.own 4]),.row 40 (.nm .sess) (se),.row 48 (.nm .opn) (op),.row 59 (.nm .snap) (sn)] [.agg (cellsOf (.nm .reply) r0)] [.box 42 (cellsOf (.nm .command) (r1)),.box 29 ([.int (r2),.int (r3),.int (r4),.int (r5),.own 2,.own 3,.own 4]),.row 40 (.nm .sess) (r6),.row 48 (.nm .opn) (r7),.row 59 (.nm .snap) (r8)]=((0:Int)=r0.code/\(0:Int)=r0.n/\c.kind=r1.kind/\c.client=r1.client/\c.seq=r1.seq/\c.set=r1.set/\c.id=r1.id/\c.n=r1.n/\c.chunks=r1.chunks/\c.text=r1.text/\v=r2/\nx=r3/\c.n=r4/\qt=r5/\se=r6/\op=r7/\sn=r8):=by kernel_rfl
theorem DZ (c:Command) (v:Int) (nx:Int) (kp:Int) (qt:Int) (se:List Sess) (op:List Opn) (sn:List Snap):Sat Try.prog (aq aI) 60 [.c (.ptr 0 0),.c (.ptr 1 0)] [.box 42 (cellsOf (.nm .command) (c)),.box 29 ([.int (v),.int (nx),.int (kp),.int (qt),.own 2,.own 3,.own 4]),.row 40 (.nm .sess) (se),.row 48 (.nm .opn) (op),.row 59 (.nm .snap) (sn)] ⟨[],[.agg (cellsOf (.nm .reply) ((cQ c (State.mk v nx kp qt se op sn)).2))],some ([.box 42 (cellsOf (.nm .command) ((c))),.box 29 ([.int ((((cQ c (State.mk v nx kp qt se op sn)).1).version)),.int ((((cQ c (State.mk v nx kp qt se op sn)).1).next)),.int ((((cQ c (State.mk v nx kp qt se op sn)).1).keep)),.int ((((cQ c (State.mk v nx kp qt se op sn)).1).quota)),.own 2,.own 3,.own 4]),.row 40 (.nm .sess) ((((cQ c (State.mk v nx kp qt se op sn)).1).sess)),.row 48 (.nm .opn) ((((cQ c (State.mk v nx kp qt se op sn)).1).opens)),.row 59 (.nm .snap) ((((cQ c (State.mk v nx kp qt se op sn)).1).snaps))]),false⟩:=by
 refine dv dJ [] Try.func60 (by decide) (by kernel_rfl) ?_
 rw [De]
 (repeat' (first | with_reducible refine And.intro ?_ ?_ | with_reducible refine and_imp.2 ?_ | intro))
 all_goals (first | (first | with_reducible rfl | with_reducible assumption | omega | (refine av ?_ ?_ <;> omega)) | exact rfl)
theorem Eo (c:Command) (v:Int) (nx:Int) (kp:Int) (qt:Int) (se:List Sess) (op:List Opn) (sn:List Snap) (r0:Reply) (r1:Command) (r2:Int) (r3:Int) (r4:Int) (r5:Int) (r6:List Sess) (r7:List Opn) (r8:List Snap):nd aI iv [] Try.f61 [.c (.ptr 0 0),.c (.ptr 1 0)] [.box 42 (cellsOf (.nm .command) (c)),.box 29 ([.int (v),.int (nx),.int (kp),.int (qt),.own 2,.own 3,.own 4]),.row 40 (.nm .sess) (se),.row 48 (.nm .opn) (op),.row 59 (.nm .snap) (sn)] [.agg (cellsOf (.nm .reply) r0)] [.box 42 (cellsOf (.nm .command) (r1)),.box 29 ([.int (r2),.int (r3),.int (r4),.int (r5),.own 2,.own 3,.own 4]),.row 40 (.nm .sess) (r6),.row 48 (.nm .opn) (r7),.row 59 (.nm .snap) (r8)]=(nch sn<=(1048576:Nat)/\(I64 (↑(distF sn):Int)->(0:Int)=r0.code/\(↑(distF sn):Int)=r0.n/\c.kind=r1.kind/\c.client=r1.client/\c.seq=r1.seq/\c.set=r1.set/\c.id=r1.id/\c.n=r1.n/\c.chunks=r1.chunks/\c.text=r1.text/\v=r2/\nx=r3/\kp=r4/\c.n=r5/\se=r6/\op=r7/\sn=r8)):=by kernel_rfl
theorem C_ (c:Command) (v:Int) (nx:Int) (kp:Int) (qt:Int) (se:List Sess) (op:List Opn) (sn:List Snap) (h0:nch sn<=1048576):Sat Try.prog (aq aI) 61 [.c (.ptr 0 0),.c (.ptr 1 0)] [.box 42 (cellsOf (.nm .command) (c)),.box 29 ([.int (v),.int (nx),.int (kp),.int (qt),.own 2,.own 3,.own 4]),.row 40 (.nm .sess) (se),.row 48 (.nm .opn) (op),.row 59 (.nm .snap) (sn)] ⟨[nch sn<=1048576],[.agg (cellsOf (.nm .reply) ((cn c (State.mk v nx kp qt se op sn)).2))],some ([.box 42 (cellsOf (.nm .command) ((c))),.box 29 ([.int ((((cn c (State.mk v nx kp qt se op sn)).1).version)),.int ((((cn c (State.mk v nx kp qt se op sn)).1).next)),.int ((((cn c (State.mk v nx kp qt se op sn)).1).keep)),.int ((((cn c (State.mk v nx kp qt se op sn)).1).quota)),.own 2,.own 3,.own 4]),.row 40 (.nm .sess) ((((cn c (State.mk v nx kp qt se op sn)).1).sess)),.row 48 (.nm .opn) ((((cn c (State.mk v nx kp qt se op sn)).1).opens)),.row 59 (.nm .snap) ((((cn c (State.mk v nx kp qt se op sn)).1).snaps))]),false⟩:=by
 refine dv dJ [] Try.func61 (by decide) (by kernel_rfl) ?_
 rw [Eo]
 (repeat' (first | with_reducible refine And.intro ?_ ?_ | with_reducible refine and_imp.2 ?_ | intro))
 all_goals (first | (first | with_reducible rfl | with_reducible assumption | omega | (refine av ?_ ?_ <;> omega)) | exact rfl)
theorem At (i:Int) (v:Int) (nx:Int) (kp:Int) (qt:Int) (se:List Sess) (op:List Opn) (sn:List Snap) (r0:Reply) (r1:Int) (r2:Int) (r3:Int) (r4:Int) (r5:List Sess) (r6:List Opn) (r7:List Snap):nd aI iv [] Try.f64 [.c (.ptr 0 0),.c (.int (i))] [.box 29 ([.int (v),.int (nx),.int (kp),.int (qt),.own 1,.own 2,.own 3]),.row 40 (.nm .sess) (se),.row 48 (.nm .opn) (op),.row 59 (.nm .snap) (sn)] [.agg (cellsOf (.nm .reply) r0)] [.box 29 ([.int (r1),.int (r2),.int (r3),.int (r4),.own 1,.own 2,.own 3]),.row 40 (.nm .sess) (r5),.row 48 (.nm .opn) (r6),.row 59 (.nm .snap) (r7)]=((fun (q2:Bool)=>(fun (q1:Prop)=>(fun (q0:den (Sh.nm NT.snap))=>I64 i->(0:Int)<=i/\i<(↑sn.length:Int)/\(I64 q0.id->I64 q0.set->q0.chunks.length*(8:Nat)<=(140737488355328:Nat)->q0.tag.b.length<=(140737488355328:Nat)->(q0.held=true->I64 (17:Int)->I64 (0:Int)->(17:Int)=r0.code/\q1)/\(q0.held=false->(q2=true->I64 (18:Int)->I64 (0:Int)->(18:Int)=r0.code/\q1)/\(q2=false->nch sn<=(1048576:Nat)/\((ft sn q0.id).length*(8:Nat)<=(140737488355328:Nat)->(0:Int)=r0.code/\(↑(ft sn q0.id).length:Int)=r0.n/\v=r1/\nx=r2/\kp=r3/\qt=r4/\se=r5/\op=r6/\aW q0.id sn=r7))))) (sn.getD i.toNat (dflt (Sh.nm NT.snap)))) ((0:Int)=r0.n/\v=r1/\nx=r2/\kp=r3/\qt=r4/\se=r5/\op=r6/\sn=r7)) (hY (State.mk v nx kp qt se op sn) i)):=by kernel_rfl
theorem Bh (i:Int) (v:Int) (nx:Int) (kp:Int) (qt:Int) (se:List Sess) (op:List Opn) (sn:List Snap) (h0:0<=i/\i<(sn.length:Int)) (h1:nch sn<=1048576):Sat Try.prog (aq aI) 64 [.c (.ptr 0 0),.c (.int (i))] [.box 29 ([.int (v),.int (nx),.int (kp),.int (qt),.own 1,.own 2,.own 3]),.row 40 (.nm .sess) (se),.row 48 (.nm .opn) (op),.row 59 (.nm .snap) (sn)] ⟨[0<=i/\i<(sn.length:Int),nch sn<=1048576],[.agg (cellsOf (.nm .reply) ((aJ (State.mk v nx kp qt se op sn) i.toNat).2))],some ([.box 29 ([.int ((((aJ (State.mk v nx kp qt se op sn) i.toNat).1).version)),.int ((((aJ (State.mk v nx kp qt se op sn) i.toNat).1).next)),.int ((((aJ (State.mk v nx kp qt se op sn) i.toNat).1).keep)),.int ((((aJ (State.mk v nx kp qt se op sn) i.toNat).1).quota)),.own 1,.own 2,.own 3]),.row 40 (.nm .sess) ((((aJ (State.mk v nx kp qt se op sn) i.toNat).1).sess)),.row 48 (.nm .opn) ((((aJ (State.mk v nx kp qt se op sn) i.toNat).1).opens)),.row 59 (.nm .snap) ((((aJ (State.mk v nx kp qt se op sn) i.toNat).1).snaps))]),false⟩:=by
 refine dv dJ [] Try.func64 (by decide) (by kernel_rfl) ?_
 rw [At]
 have hi:((i.toNat:Nat):Int)=i:=by omega
 (repeat' (first | with_reducible refine And.intro ?_ ?_ | with_reducible refine and_imp.2 ?_ | intro))
 all_goals (first | (first | with_reducible rfl | with_reducible assumption | omega | (refine av ?_ ?_ <;> omega)) | ((simp only [aJ,hi]; simp_all) <;> (intros; omega)) | (simp only [aJ,hi]; grind))
theorem Ee (i:Int) (v:Int) (nx:Int) (kp:Int) (qt:Int) (se:List Sess) (op:List Opn) (sn:List Snap) (r0:Reply) (r1:Int) (r2:Int) (r3:Int) (r4:Int) (r5:List Sess) (r6:List Opn) (r7:List Snap):nd aI iv [] Try.f65 [.c (.int (i)),.c (.ptr 0 0)] [.box 29 ([.int (v),.int (nx),.int (kp),.int (qt),.own 1,.own 2,.own 3]),.row 40 (.nm .sess) (se),.row 48 (.nm .opn) (op),.row 59 (.nm .snap) (sn)] [.agg (cellsOf (.nm .reply) r0)] [.box 29 ([.int (r1),.int (r2),.int (r3),.int (r4),.own 1,.own 2,.own 3]),.row 40 (.nm .sess) (r5),.row 48 (.nm .opn) (r6),.row 59 (.nm .snap) (r7)]=((fun (q0:den (Sh.nm NT.snap))=>I64 i->(0:Int)<=i/\i<(↑sn.length:Int)/\(I64 q0.id->I64 q0.set->q0.chunks.length*(8:Nat)<=(140737488355328:Nat)->q0.tag.b.length<=(140737488355328:Nat)->(0:Int)=r0.code/\(↑q0.chunks.length:Int)=r0.n/\v=r1/\nx=r2/\kp=r3/\qt=r4/\se=r5/\op=r6/\sn=r7)) (sn.getD i.toNat (dflt (Sh.nm NT.snap)))):=by kernel_rfl
theorem Dc (i:Int) (v:Int) (nx:Int) (kp:Int) (qt:Int) (se:List Sess) (op:List Opn) (sn:List Snap) (h0:0<=i/\i<(sn.length:Int)):Sat Try.prog (aq aI) 65 [.c (.int (i)),.c (.ptr 0 0)] [.box 29 ([.int (v),.int (nx),.int (kp),.int (qt),.own 1,.own 2,.own 3]),.row 40 (.nm .sess) (se),.row 48 (.nm .opn) (op),.row 59 (.nm .snap) (sn)] ⟨[0<=i/\i<(sn.length:Int)],[.agg (cellsOf (.nm .reply) ((bb (State.mk v nx kp qt se op sn) i.toNat).2))],some ([.box 29 ([.int ((((bb (State.mk v nx kp qt se op sn) i.toNat).1).version)),.int ((((bb (State.mk v nx kp qt se op sn) i.toNat).1).next)),.int ((((bb (State.mk v nx kp qt se op sn) i.toNat).1).keep)),.int ((((bb (State.mk v nx kp qt se op sn) i.toNat).1).quota)),.own 1,.own 2,.own 3]),.row 40 (.nm .sess) ((((bb (State.mk v nx kp qt se op sn) i.toNat).1).sess)),.row 48 (.nm .opn) ((((bb (State.mk v nx kp qt se op sn) i.toNat).1).opens)),.row 59 (.nm .snap) ((((bb (State.mk v nx kp qt se op sn) i.toNat).1).snaps))]),false⟩:=by
 refine dv dJ [] Try.func65 (by decide) (by kernel_rfl) ?_
 rw [Ee]
 (repeat' (first | with_reducible refine And.intro ?_ ?_ | with_reducible refine and_imp.2 ?_ | intro))
 all_goals (first | (first | with_reducible rfl | with_reducible assumption | omega | (refine av ?_ ?_ <;> omega)) | rfl)
theorem Am (i:Int) (c:Command) (v:Int) (nx:Int) (kp:Int) (qt:Int) (se:List Sess) (op:List Opn) (sn:List Snap) (r0:Reply) (r1:Command) (r2:Int) (r3:Int) (r4:Int) (r5:Int) (r6:List Sess) (r7:List Opn) (r8:List Snap):nd aI iv [] Try.f66 [.c (.int (i)),.c (.ptr 0 0),.c (.ptr 1 0)] [.box 42 (cellsOf (.nm .command) (c)),.box 29 ([.int (v),.int (nx),.int (kp),.int (qt),.own 2,.own 3,.own 4]),.row 40 (.nm .sess) (se),.row 48 (.nm .opn) (op),.row 59 (.nm .snap) (sn)] [.agg (cellsOf (.nm .reply) r0)] [.box 42 (cellsOf (.nm .command) (r1)),.box 29 ([.int (r2),.int (r3),.int (r4),.int (r5),.own 2,.own 3,.own 4]),.row 40 (.nm .sess) (r6),.row 48 (.nm .opn) (r7),.row 59 (.nm .snap) (r8)]=((fun (q0:den (Sh.nm NT.snap))=>I64 i->(0:Int)<=i/\i<(↑sn.length:Int)/\(I64 q0.id->I64 q0.set->q0.chunks.length*(8:Nat)<=(140737488355328:Nat)->q0.tag.b.length<=(140737488355328:Nat)->(0:Int)=r0.code/\(0:Int)=r0.n/\c.kind=r1.kind/\c.client=r1.client/\c.seq=r1.seq/\c.set=r1.set/\c.id=r1.id/\c.n=r1.n/\c.chunks=r1.chunks/\c.text=r1.text/\v=r2/\nx=r3/\kp=r4/\qt=r5/\se=r6/\op=r7/\sn.set i.toNat (Snap.mk q0.id q0.set q0.chunks q0.held c.text)=r8)) (sn.getD i.toNat (dflt (Sh.nm NT.snap)))):=by kernel_rfl
theorem BJ (i:Int) (c:Command) (v:Int) (nx:Int) (kp:Int) (qt:Int) (se:List Sess) (op:List Opn) (sn:List Snap) (h0:0<=i/\i<(sn.length:Int)):Sat Try.prog (aq aI) 66 [.c (.int (i)),.c (.ptr 0 0),.c (.ptr 1 0)] [.box 42 (cellsOf (.nm .command) (c)),.box 29 ([.int (v),.int (nx),.int (kp),.int (qt),.own 2,.own 3,.own 4]),.row 40 (.nm .sess) (se),.row 48 (.nm .opn) (op),.row 59 (.nm .snap) (sn)] ⟨[0<=i/\i<(sn.length:Int)],[.agg (cellsOf (.nm .reply) ((cw c (State.mk v nx kp qt se op sn) i.toNat).2))],some ([.box 42 (cellsOf (.nm .command) ((c))),.box 29 ([.int ((((cw c (State.mk v nx kp qt se op sn) i.toNat).1).version)),.int ((((cw c (State.mk v nx kp qt se op sn) i.toNat).1).next)),.int ((((cw c (State.mk v nx kp qt se op sn) i.toNat).1).keep)),.int ((((cw c (State.mk v nx kp qt se op sn) i.toNat).1).quota)),.own 2,.own 3,.own 4]),.row 40 (.nm .sess) ((((cw c (State.mk v nx kp qt se op sn) i.toNat).1).sess)),.row 48 (.nm .opn) ((((cw c (State.mk v nx kp qt se op sn) i.toNat).1).opens)),.row 59 (.nm .snap) ((((cw c (State.mk v nx kp qt se op sn) i.toNat).1).snaps))]),false⟩:=by
 refine dv dJ [] Try.func66 (by decide) (by kernel_rfl) ?_
 rw [Am]
 (repeat' (first | with_reducible refine And.intro ?_ ?_ | with_reducible refine and_imp.2 ?_ | intro))
 all_goals (first | (first | with_reducible rfl | with_reducible assumption | omega | (refine av ?_ ?_ <;> omega)) | exact rfl)
theorem yH (i:Int) (v:Int) (nx:Int) (kp:Int) (qt:Int) (se:List Sess) (op:List Opn) (sn:List Snap) (b:Bool) (r0:Reply) (r1:Int) (r2:Int) (r3:Int) (r4:Int) (r5:List Sess) (r6:List Opn) (r7:List Snap) (r8:Bool):nd aI iv [] Try.f53 [.c (.int (i)),.c (.ptr 0 0),.c (.ptr 4 0)] [.box 29 ([.int (v),.int (nx),.int (kp),.int (qt),.own 1,.own 2,.own 3]),.row 40 (.nm .sess) (se),.row 48 (.nm .opn) (op),.row 59 (.nm .snap) (sn),.box 4 ([.bool (.atom (b))])] [.agg (cellsOf (.nm .reply) r0)] [.box 29 ([.int (r1),.int (r2),.int (r3),.int (r4),.own 1,.own 2,.own 3]),.row 40 (.nm .sess) (r5),.row 48 (.nm .opn) (r6),.row 59 (.nm .snap) (r7),.box 4 ([.bool (.atom (r8))])]=((fun (q0:den (Sh.nm NT.snap))=>I64 i->(0:Int)<=i/\i<(↑sn.length:Int)/\(I64 q0.id->I64 q0.set->q0.chunks.length*(8:Nat)<=(140737488355328:Nat)->q0.tag.b.length<=(140737488355328:Nat)->((q0.held == b)=true->(0:Int)=r0.code/\(0:Int)=r0.n/\v=r1/\nx=r2/\kp=r3/\qt=r4/\se=r5/\op=r6/\sn=r7/\b=r8)/\((q0.held == b)=false->(0:Int)=r0.code/\(1:Int)=r0.n/\v=r1/\nx=r2/\kp=r3/\qt=r4/\se=r5/\op=r6/\sn.set i.toNat (Snap.mk q0.id q0.set q0.chunks b q0.tag)=r7/\b=r8))) (sn.getD i.toNat (dflt (Sh.nm NT.snap)))):=by kernel_rfl
theorem yV (i:Int) (v:Int) (nx:Int) (kp:Int) (qt:Int) (se:List Sess) (op:List Opn) (sn:List Snap) (b:Bool) (h0:0<=i/\i<(sn.length:Int)):Sat Try.prog (aq aI) 53 [.c (.int (i)),.c (.ptr 0 0),.c (.ptr 4 0)] [.box 29 ([.int (v),.int (nx),.int (kp),.int (qt),.own 1,.own 2,.own 3]),.row 40 (.nm .sess) (se),.row 48 (.nm .opn) (op),.row 59 (.nm .snap) (sn),.box 4 ([.bool (.atom (b))])] ⟨[0<=i/\i<(sn.length:Int)],[.agg (cellsOf (.nm .reply) ((bh b (State.mk v nx kp qt se op sn) i.toNat).2))],some ([.box 29 ([.int ((((bh b (State.mk v nx kp qt se op sn) i.toNat).1).version)),.int ((((bh b (State.mk v nx kp qt se op sn) i.toNat).1).next)),.int ((((bh b (State.mk v nx kp qt se op sn) i.toNat).1).keep)),.int ((((bh b (State.mk v nx kp qt se op sn) i.toNat).1).quota)),.own 1,.own 2,.own 3]),.row 40 (.nm .sess) ((((bh b (State.mk v nx kp qt se op sn) i.toNat).1).sess)),.row 48 (.nm .opn) ((((bh b (State.mk v nx kp qt se op sn) i.toNat).1).opens)),.row 59 (.nm .snap) ((((bh b (State.mk v nx kp qt se op sn) i.toNat).1).snaps)),.box 4 ([.bool (.atom ((b)))])]),false⟩:=by
 refine dv dJ [] Try.func53 (by decide) (by kernel_rfl) ?_
 rw [yH]
 (repeat' (first | with_reducible refine And.intro ?_ ?_ | with_reducible refine and_imp.2 ?_ | intro))
 all_goals (first | (first | with_reducible rfl | with_reducible assumption | omega | (refine av ?_ ?_ <;> omega)) | ((simp only [bh]; simp_all) <;> (intros; omega)) | (simp only [bh]; grind))
def ny:cu:=(bV 53 (bO (aj (kC cI) (aj (kC (bL 0 0)) (aj (kC (bL 4 0)) aR))) (ay (bI 29 (ai cI (ai cI (ai cI (ai cI (ai (aY 1) (ai (aY 2) (ai (aY 3) bG)))))))) (ay (aZ 40 (.nm .sess)) (ay (aZ 48 (.nm .opn)) (ay (aZ 59 (.nm .snap)) (ay (bI 4 (ai cB bG)) aQ))))) fun (i,_,_,_) ((v,nx,kp,qt,_,_,_,_),se,op,sn,(b,_),_)=>⟨[0<=i/\i<(sn.length:Int)],[.agg (cellsOf (.nm .reply) ((bh b (State.mk v nx kp qt se op sn) i.toNat).2))],some ([.box 29 ([.int ((((bh b (State.mk v nx kp qt se op sn) i.toNat).1).version)),.int ((((bh b (State.mk v nx kp qt se op sn) i.toNat).1).next)),.int ((((bh b (State.mk v nx kp qt se op sn) i.toNat).1).keep)),.int ((((bh b (State.mk v nx kp qt se op sn) i.toNat).1).quota)),.own 1,.own 2,.own 3]),.row 40 (.nm .sess) ((((bh b (State.mk v nx kp qt se op sn) i.toNat).1).sess)),.row 48 (.nm .opn) ((((bh b (State.mk v nx kp qt se op sn) i.toNat).1).opens)),.row 59 (.nm .snap) ((((bh b (State.mk v nx kp qt se op sn) i.toNat).1).snaps)),.box 4 ([.bool (.atom ((b)))])]),false⟩) (bV 66 (bO (aj (kC cI) (aj (kC (bL 0 0)) (aj (kC (bL 1 0)) aR))) (ay (bI 42 (px (.nm .command) bG)) (ay (bI 29 (ai cI (ai cI (ai cI (ai cI (ai (aY 2) (ai (aY 3) (ai (aY 4) bG)))))))) (ay (aZ 40 (.nm .sess)) (ay (aZ 48 (.nm .opn)) (ay (aZ 59 (.nm .snap)) aQ))))) fun (i,_,_,_) ((c,_),(v,nx,kp,qt,_,_,_,_),se,op,sn,_)=>⟨[0<=i/\i<(sn.length:Int)],[.agg (cellsOf (.nm .reply) ((cw c (State.mk v nx kp qt se op sn) i.toNat).2))],some ([.box 42 (cellsOf (.nm .command) ((c))),.box 29 ([.int ((((cw c (State.mk v nx kp qt se op sn) i.toNat).1).version)),.int ((((cw c (State.mk v nx kp qt se op sn) i.toNat).1).next)),.int ((((cw c (State.mk v nx kp qt se op sn) i.toNat).1).keep)),.int ((((cw c (State.mk v nx kp qt se op sn) i.toNat).1).quota)),.own 2,.own 3,.own 4]),.row 40 (.nm .sess) ((((cw c (State.mk v nx kp qt se op sn) i.toNat).1).sess)),.row 48 (.nm .opn) ((((cw c (State.mk v nx kp qt se op sn) i.toNat).1).opens)),.row 59 (.nm .snap) ((((cw c (State.mk v nx kp qt se op sn) i.toNat).1).snaps))]),false⟩) (bV 65 (bO (aj (kC cI) (aj (kC (bL 0 0)) aR)) (ay (bI 29 (ai cI (ai cI (ai cI (ai cI (ai (aY 1) (ai (aY 2) (ai (aY 3) bG)))))))) (ay (aZ 40 (.nm .sess)) (ay (aZ 48 (.nm .opn)) (ay (aZ 59 (.nm .snap)) aQ)))) fun (i,_,_) ((v,nx,kp,qt,_,_,_,_),se,op,sn,_)=>⟨[0<=i/\i<(sn.length:Int)],[.agg (cellsOf (.nm .reply) ((bb (State.mk v nx kp qt se op sn) i.toNat).2))],some ([.box 29 ([.int ((((bb (State.mk v nx kp qt se op sn) i.toNat).1).version)),.int ((((bb (State.mk v nx kp qt se op sn) i.toNat).1).next)),.int ((((bb (State.mk v nx kp qt se op sn) i.toNat).1).keep)),.int ((((bb (State.mk v nx kp qt se op sn) i.toNat).1).quota)),.own 1,.own 2,.own 3]),.row 40 (.nm .sess) ((((bb (State.mk v nx kp qt se op sn) i.toNat).1).sess)),.row 48 (.nm .opn) ((((bb (State.mk v nx kp qt se op sn) i.toNat).1).opens)),.row 59 (.nm .snap) ((((bb (State.mk v nx kp qt se op sn) i.toNat).1).snaps))]),false⟩) (bV 64 (bO (aj (kC (bL 0 0)) (aj (kC cI) aR)) (ay (bI 29 (ai cI (ai cI (ai cI (ai cI (ai (aY 1) (ai (aY 2) (ai (aY 3) bG)))))))) (ay (aZ 40 (.nm .sess)) (ay (aZ 48 (.nm .opn)) (ay (aZ 59 (.nm .snap)) aQ)))) fun (_,i,_) ((v,nx,kp,qt,_,_,_,_),se,op,sn,_)=>⟨[0<=i/\i<(sn.length:Int),nch sn<=1048576],[.agg (cellsOf (.nm .reply) ((aJ (State.mk v nx kp qt se op sn) i.toNat).2))],some ([.box 29 ([.int ((((aJ (State.mk v nx kp qt se op sn) i.toNat).1).version)),.int ((((aJ (State.mk v nx kp qt se op sn) i.toNat).1).next)),.int ((((aJ (State.mk v nx kp qt se op sn) i.toNat).1).keep)),.int ((((aJ (State.mk v nx kp qt se op sn) i.toNat).1).quota)),.own 1,.own 2,.own 3]),.row 40 (.nm .sess) ((((aJ (State.mk v nx kp qt se op sn) i.toNat).1).sess)),.row 48 (.nm .opn) ((((aJ (State.mk v nx kp qt se op sn) i.toNat).1).opens)),.row 59 (.nm .snap) ((((aJ (State.mk v nx kp qt se op sn) i.toNat).1).snaps))]),false⟩) (bV 61 (bO (aj (kC (bL 0 0)) (aj (kC (bL 1 0)) aR)) (ay (bI 42 (px (.nm .command) bG)) (ay (bI 29 (ai cI (ai cI (ai cI (ai cI (ai (aY 2) (ai (aY 3) (ai (aY 4) bG)))))))) (ay (aZ 40 (.nm .sess)) (ay (aZ 48 (.nm .opn)) (ay (aZ 59 (.nm .snap)) aQ))))) fun (_,_,_) ((c,_),(v,nx,kp,qt,_,_,_,_),se,op,sn,_)=>⟨[nch sn<=1048576],[.agg (cellsOf (.nm .reply) ((cn c (State.mk v nx kp qt se op sn)).2))],some ([.box 42 (cellsOf (.nm .command) ((c))),.box 29 ([.int ((((cn c (State.mk v nx kp qt se op sn)).1).version)),.int ((((cn c (State.mk v nx kp qt se op sn)).1).next)),.int ((((cn c (State.mk v nx kp qt se op sn)).1).keep)),.int ((((cn c (State.mk v nx kp qt se op sn)).1).quota)),.own 2,.own 3,.own 4]),.row 40 (.nm .sess) ((((cn c (State.mk v nx kp qt se op sn)).1).sess)),.row 48 (.nm .opn) ((((cn c (State.mk v nx kp qt se op sn)).1).opens)),.row 59 (.nm .snap) ((((cn c (State.mk v nx kp qt se op sn)).1).snaps))]),false⟩) (bV 60 (bO (aj (kC (bL 0 0)) (aj (kC (bL 1 0)) aR)) (ay (bI 42 (px (.nm .command) bG)) (ay (bI 29 (ai cI (ai cI (ai cI (ai cI (ai (aY 2) (ai (aY 3) (ai (aY 4) bG)))))))) (ay (aZ 40 (.nm .sess)) (ay (aZ 48 (.nm .opn)) (ay (aZ 59 (.nm .snap)) aQ))))) fun (_,_,_) ((c,_),(v,nx,kp,qt,_,_,_,_),se,op,sn,_)=>⟨[],[.agg (cellsOf (.nm .reply) ((cQ c (State.mk v nx kp qt se op sn)).2))],some ([.box 42 (cellsOf (.nm .command) ((c))),.box 29 ([.int ((((cQ c (State.mk v nx kp qt se op sn)).1).version)),.int ((((cQ c (State.mk v nx kp qt se op sn)).1).next)),.int ((((cQ c (State.mk v nx kp qt se op sn)).1).keep)),.int ((((cQ c (State.mk v nx kp qt se op sn)).1).quota)),.own 2,.own 3,.own 4]),.row 40 (.nm .sess) ((((cQ c (State.mk v nx kp qt se op sn)).1).sess)),.row 48 (.nm .opn) ((((cQ c (State.mk v nx kp qt se op sn)).1).opens)),.row 59 (.nm .snap) ((((cQ c (State.mk v nx kp qt se op sn)).1).snaps))]),false⟩) (bV 81 (bO (aj (kC (bL 0 0)) (aj (kT (.nm .command)) aR)) (ay (bI 29 (ai cI (ai cI (ai cI (ai cI (ai (aY 1) (ai (aY 2) (ai (aY 3) bG)))))))) (ay (aZ 40 (.nm .sess)) (ay (aZ 48 (.nm .opn)) (ay (aZ 59 (.nm .snap)) aQ)))) fun (_,c,_) ((v,nx,kp,qt,_,_,_,_),se,op,sn,_)=>⟨[],[.c (.int ((bz (State.mk v nx kp qt se op sn) c)))],none,false⟩) (bV 83 (bO (aj (kC (aY 0)) (aj (kC cI) (aj (kC cI) aR))) (ay (aZ 48 (.nm .opn)) aQ) fun (_,i,j,_) (l,_)=>⟨[0<=i/\i<(l.length:Int)/\j=i+1],[.c (.own 0)],some ([.row 48 (.nm .opn) ((l.take i.toNat++l.drop j.toNat))]),false⟩) (bV 25 (bO (aj (kC (aY 0)) (aj (kC cI) (aj (kC (aY 1)) aR))) (ay (aZ 40 (.nm .sess)) (ay (aZ 40 (.nm .sess)) aQ)) fun (_,i,_,_) (l,m,_)=>⟨[0<=i/\i<=(l.length:Int),l.length<1048576,m.length=1],[.c (.own 0)],some ([.row 40 (.nm .sess) ((l.take i.toNat++m++l.drop i.toNat)),.row 40 (.nm .sess) ((m))]),false⟩) (bV 80 (bO (aj (kC (aY 0)) (aj (kC cI) (aj (kC (cL (.nm .opn))) aR))) (ay (aZ 48 (.nm .opn)) aQ) fun (_,i,m,_) (l,_)=>⟨[0<=i/\i<=(l.length:Int),l.length<1048576,m.length=1],[.c (.own 0)],some ([.row 48 (.nm .opn) ((l.take i.toNat++m++l.drop i.toNat))]),false⟩) iv))))))))))
theorem fH:aP Try.prog (aq aI) ny:=(aC (aB (ae (aw ax) (ae (aw aH) (ae (aw aH) al))) (ag (aF (ab ax (ab ax (ab ax (ab ax (ab aA (ab aA (ab aA aE)))))))) (ag az (ag az (ag az (ag (aF (ab qH aE)) ao))))) fun (i,_,_,_) ((v,nx,kp,qt,_,_,_,_),se,op,sn,(b,_),_) hp=>yV i v nx kp qt se op sn b (eU hp)) (aC (aB (ae (aw ax) (ae (aw aH) (ae (aw aH) al))) (ag (aF (cO aE)) (ag (aF (ab ax (ab ax (ab ax (ab ax (ab aA (ab aA (ab aA aE)))))))) (ag az (ag az (ag az ao))))) fun (i,_,_,_) ((c,_),(v,nx,kp,qt,_,_,_,_),se,op,sn,_) hp=>BJ i c v nx kp qt se op sn (eU hp)) (aC (aB (ae (aw ax) (ae (aw aH) al)) (ag (aF (ab ax (ab ax (ab ax (ab ax (ab aA (ab aA (ab aA aE)))))))) (ag az (ag az (ag az ao)))) fun (i,_,_) ((v,nx,kp,qt,_,_,_,_),se,op,sn,_) hp=>Dc i v nx kp qt se op sn (eU hp)) (aC (aB (ae (aw aH) (ae (aw ax) al)) (ag (aF (ab ax (ab ax (ab ax (ab ax (ab aA (ab aA (ab aA aE)))))))) (ag az (ag az (ag az ao)))) fun (_,i,_) ((v,nx,kp,qt,_,_,_,_),se,op,sn,_) hp=>Bh i v nx kp qt se op sn (eU hp) (eU (mV hp))) (aC (aB (ae (aw aH) (ae (aw aH) al)) (ag (aF (cO aE)) (ag (aF (ab ax (ab ax (ab ax (ab ax (ab aA (ab aA (ab aA aE)))))))) (ag az (ag az (ag az ao))))) fun (_,_,_) ((c,_),(v,nx,kp,qt,_,_,_,_),se,op,sn,_) hp=>C_ c v nx kp qt se op sn (eU hp)) (aC (aB (ae (aw aH) (ae (aw aH) al)) (ag (aF (cO aE)) (ag (aF (ab ax (ab ax (ab ax (ab ax (ab aA (ab aA (ab aA aE)))))))) (ag az (ag az (ag az ao))))) fun (_,_,_) ((c,_),(v,nx,kp,qt,_,_,_,_),se,op,sn,_) _=>DZ c v nx kp qt se op sn ) (aC (aB (ae (aw aH) (ae b_ al)) (ag (aF (ab ax (ab ax (ab ax (ab ax (ab aA (ab aA (ab aA aE)))))))) (ag az (ag az (ag az ao)))) fun (_,c,_) ((v,nx,kp,qt,_,_,_,_),se,op,sn,_) _=>vf c v nx kp qt se op sn ) (aC (aB (ae (aw aA) (ae (aw ax) (ae (aw ax) al))) (ag az ao) fun (_,i,j,_) (l,_) hp=>vG i j l (eU hp)) (aC (aB (ae (aw aA) (ae (aw ax) (ae (aw aA) al))) (ag az (ag az ao)) fun (_,i,_,_) (l,m,_) hp=>sJ i l m (eU hp) (eU (mV hp)) (eU (mV (mV hp)))) (aC (aB (ae (aw aA) (ae (aw ax) (ae (aw cg) al))) (ag az ao) fun (_,i,m,_) (l,_) hp=>vW i m l (eU hp) (eU (mV hp)) (eU (mV (mV hp)))) dJ))))))))))
end Go.Proofs.Ytdggohppeeaipaa
namespace Go.Proofs.Ytdggohppeeaipaa
open Go.RowKit
theorem zR {α:Type} {p:α->Bool} {l:List α} {k:Nat} (h:(l.take k).all p=true) (hk:k<=l.length) (h2:(l.length:Int)<=k\/(k:Int)<l.length/\∃ x,l[k]? = some x/\p x=false):k=(l.takeWhile p).length:=by
 induction l generalizing k with
 | nil=>simp at hk; simp [hk]
 | cons a l ih=>
  cases k with
  | zero=>
   rcases h2 with h2 | ⟨_,x,hx,hp⟩
   ·simp at h2; omega
   ·simp at hx; subst hx; simp [hp]
  | succ k=>
   simp only [List.take_succ_cons,List.all_cons,Bool.and_eq_true] at h
   rw [List.takeWhile_cons,h.1,if_pos rfl,List.length_cons]
   congr 1
   refine ih h.2 (by simpa using hk) ?_
   rcases h2 with h2 | ⟨h3,x,hx,hp⟩
   ·left; simp at h2; omega
   ·right; refine ⟨by simp at h3; omega,x,by simpa using hx,hp⟩
theorem zi {v nx kp qt:Int} {se:List Sess} {op:List Opn} {sn:List Snap} {c:Command} {s:Nat} (h:ah Opn.set c.set op<0) (hs:s<=op.length) (ha:(op.take s).all (fun y=>decide (y.set<c.set))=true) (hb:(op.length:Int)<=s\/c.set<=(op.getD s (dflt (.nm .opn))).set):op.take s++[Opn.mk c.set c.client]++op.drop s=(aS (State.mk v nx kp qt se op sn) c).1.opens:=by
 have h1:¬ 0<=ah Opn.set c.set op:=by omega
 simp only [aS,if_neg h1]
 have:s=(op.takeWhile fun y=>decide (y.set<c.set)).length:=by
  refine zR ha hs ?_
  by_cases hl:(op.length:Int)<=s
  ·exact .inl hl
  ·refine .inr ⟨by omega,_,gd (d:=dflt (.nm .opn)) (by omega),?_⟩
   rcases hb with hb | hb
   ·omega
   ·exact decide_eq_false (by omega)
 rw [<- this]; simp [fb]
theorem zj {op:List Opn} {c:Command} {s:Nat} (ha:(op.take s).all (fun y=>decide (y.set<c.set))=true) (h:(s:Int)<op.length) (hb:(op.getD s (dflt (.nm .opn))).set<c.set):(op.take (s+1)).all (fun y=>decide (y.set<c.set))=true:=by
 rw [aL (gd (d:=dflt (.nm .opn)) h),List.all_append,ha]; simp only [List.all_cons,List.all_nil,decide_eq_true hb]; rfl
section
variable {v nx kp qt:Int} {se:List Sess} {op:List Opn} {sn:List Snap} {c:Command}
theorem Hb (h:ah Opn.set c.set op<0):aS (State.mk v nx kp qt se op sn) c=(State.mk v nx kp qt se (fb op (op.takeWhile fun y=>decide (y.set<c.set)).length ⟨c.set,c.client⟩) sn,⟨0,0⟩):=by
 have h1:¬ 0<=ah Opn.set c.set op:=by omega
 simp only [aS,if_neg h1]
theorem GS (h:0<=ah Opn.set c.set op):aS (State.mk v nx kp qt se op sn) c=(State.mk v nx kp qt se op sn,⟨16,(op.getD (ah Opn.set c.set op).toNat (dflt (.nm .opn))).client⟩):=by
 simp only [aS,if_pos h]
theorem Hw (h:bz (State.mk v nx kp qt se op sn) c<0):aU (State.mk v nx kp qt se op sn) c=(State.mk v nx kp qt se op sn,⟨15,0⟩):=by
 simp only [aU,if_pos h]
theorem Hu (h:0<=bz (State.mk v nx kp qt se op sn) c):aU (State.mk v nx kp qt se op sn) c=(State.mk v nx kp qt se (op.take (bz (State.mk v nx kp qt se op sn) c).toNat++op.drop (bz (State.mk v nx kp qt se op sn) c+1).toNat) sn,⟨0,0⟩):=by
 have h1:¬ bz (State.mk v nx kp qt se op sn) c<0:=by omega
 simp only [aU,if_neg h1,uT]
end
def uo (c:Command) (v:Int) (nx:Int) (kp:Int) (qt:Int) (se:List Sess) (op:List Opn) (sn:List Snap):List (Nat × LI):=[(5,{ σ:=Nat,F:=fun k=>([(0,one (.ptr 0 0)),(3,one (.ptr 4 0)),(4,one (.ptr 5 0)),(6,one (.int k))],[.box 29 ([.int ((v)),.int ((nx)),.int ((kp)),.int ((qt)),.own 1,.own 2,.own 3]),.row 40 (.nm .sess) ((se)),.row 48 (.nm .opn) ((op)),.row 59 (.nm .snap) ((sn)),.box 42 (cellsOf (.nm .command) ((c))),.box 38 ([.int ((0)),.int ((0))])]),J:=fun k=>k<=op.length/\(op.take k).all (fun y=>decide (y.set<c.set))=true,μ:=fun k=>op.length - k })]
theorem yj (c:Command) (v:Int) (nx:Int) (kp:Int) (qt:Int) (se:List Sess) (op:List Opn) (sn:List Snap) (r0:Reply) (r1:Int) (r2:Int) (r3:Int) (r4:Int) (r5:List Sess) (r6:List Opn) (r7:List Snap):nd aI ny (uo c v nx kp qt se op sn) Try.f55 [.c (.ptr 0 0),.agg (cellsOf (.nm .command) c)] [.box 29 ([.int (v),.int (nx),.int (kp),.int (qt),.own 1,.own 2,.own 3]),.row 40 (.nm .sess) (se),.row 48 (.nm .opn) (op),.row 59 (.nm .snap) (sn)] [.agg (cellsOf (.nm .reply) r0)] [.box 29 ([.int (r1),.int (r2),.int (r3),.int (r4),.own 1,.own 2,.own 3]),.row 40 (.nm .sess) (r5),.row 48 (.nm .opn) (r6),.row 59 (.nm .snap) (r7)]=((fun (q5:Int)=>(fun (q4:den (Sh.nm NT.opn))=>(fun (q3:Int)=>(fun (q2:Int)=>(fun (q1:Int)=>(fun (q0:Prop)=>I64 c.kind->I64 c.client->I64 c.seq->I64 q5->I64 c.id->I64 c.n->c.chunks.length*(8:Nat)<=(140737488355328:Nat)->c.text.b.length<=(140737488355328:Nat)->I64 q1->(q2<=q1->q2<=q1/\q1<q3/\(I64 (op.getD q1.toNat q4).set->I64 (op.getD q1.toNat q4).client->(16:Int)=r0.code/\(op.getD q1.toNat q4).client=r0.n/\v=r1/\nx=r2/\kp=r3/\qt=r4/\se=r5/\op=r6/\sn=r7))/\(q1<q2->∃ (s0:Nat),(q2=(↑s0:Int)/\q0)/\(s0<=op.length/\((List.take s0 op).all fun (y:Opn)=>decide (y.set<q5))=true)/\∀ (s:Nat),(fun (q7:Int)=>(fun (q6:Int)=>s<=op.length/\((List.take s op).all fun (y:Opn)=>decide (y.set<q5))=true->(q6<q3->q2<=q6/\q6<q3)/\((q6<q3->I64 q7/\I64 (op.getD s q4).client)->(q6<q3/\q7<q5->I64 (q6+(1:Int))/\∃ (s':Nat),(q6+(1:Int)=(↑s':Int)/\q0)/\(s' <= op.length/\((List.take s' op).all fun (y:Opn)=>decide (y.set<q5))=true)/\op.length - s' < op.length - s)/\(q3<=q6\/q5<=q7->((q2<=q6/\q6<=q3)/\op.length<(1048576:Nat)/\[Opn.mk q5 c.client].length=(1:Nat))/\q2=r0.code/\q2=r0.n/\v=r1/\nx=r2/\kp=r3/\qt=r4/\se=r5/\List.take s op++[Opn.mk q5 c.client]++List.drop s op=r6/\sn=r7))) (↑s:Int)) (op.getD s q4).set)) (v=v/\nx=nx/\kp=kp/\qt=qt/\se=se/\op=op/\sn=sn/\c.kind=c.kind/\c.client=c.client/\c.seq=c.seq/\q5=q5/\c.id=c.id/\c.n=c.n/\c.chunks=c.chunks/\c.text=c.text/\q2=q2/\q2=q2)) (ah Opn.set q5 op)) (0:Int)) (↑op.length:Int)) (dflt (Sh.nm NT.opn))) c.set):=by kernel_rfl
theorem zy (c:Command) (v:Int) (nx:Int) (kp:Int) (qt:Int) (se:List Sess) (op:List Opn) (sn:List Snap) (h0:op.length<1048576):Sat Try.prog (aq aI) 55 [.c (.ptr 0 0),.agg (cellsOf (.nm .command) c)] [.box 29 ([.int (v),.int (nx),.int (kp),.int (qt),.own 1,.own 2,.own 3]),.row 40 (.nm .sess) (se),.row 48 (.nm .opn) (op),.row 59 (.nm .snap) (sn)] ⟨[op.length<1048576],[.agg (cellsOf (.nm .reply) ((aS (State.mk v nx kp qt se op sn) c).2))],some ([.box 29 ([.int ((((aS (State.mk v nx kp qt se op sn) c).1).version)),.int ((((aS (State.mk v nx kp qt se op sn) c).1).next)),.int ((((aS (State.mk v nx kp qt se op sn) c).1).keep)),.int ((((aS (State.mk v nx kp qt se op sn) c).1).quota)),.own 1,.own 2,.own 3]),.row 40 (.nm .sess) ((((aS (State.mk v nx kp qt se op sn) c).1).sess)),.row 48 (.nm .opn) ((((aS (State.mk v nx kp qt se op sn) c).1).opens)),.row 59 (.nm .snap) ((((aS (State.mk v nx kp qt se op sn) c).1).snaps))]),false⟩:=by
 refine dv fH (uo c v nx kp qt se op sn) Try.func55 (by decide) (by kernel_rfl) ?_
 rw [yj]
 (repeat' (first | with_reducible refine And.intro ?_ ?_ | with_reducible refine and_imp.2 ?_ | intro))
 all_goals try (first | (first | with_reducible rfl | with_reducible assumption | omega | (refine av ?_ ?_ <;> omega)) | exact rfl | exact bB (by with_reducible assumption) | exact (zj (by with_reducible assumption) (by with_reducible assumption) (by with_reducible assumption)) | exact (zi (by with_reducible assumption) (by omega) (by with_reducible assumption) (by assumption)) | (rw [Hb]; omega) | (rw [GS]; omega))
 all_goals try (refine ⟨0,?_⟩; (repeat' (first | with_reducible refine And.intro ?_ ?_ | with_reducible refine and_imp.2 ?_ | intro)))
 all_goals try (first | (first | with_reducible rfl | with_reducible assumption | omega | (refine av ?_ ?_ <;> omega)) | exact rfl | exact bB (by with_reducible assumption) | exact (zj (by with_reducible assumption) (by with_reducible assumption) (by with_reducible assumption)) | exact (zi (by with_reducible assumption) (by omega) (by with_reducible assumption) (by assumption)) | (rw [Hb]; omega) | (rw [GS]; omega))
 all_goals try (refine ⟨‹Nat› + 1,?_⟩; (repeat' (first | with_reducible refine And.intro ?_ ?_ | with_reducible refine and_imp.2 ?_ | intro)))
 all_goals (first | (first | with_reducible rfl | with_reducible assumption | omega | (refine av ?_ ?_ <;> omega)) | exact rfl | exact bB (by with_reducible assumption) | exact (zj (by with_reducible assumption) (by with_reducible assumption) (by with_reducible assumption)) | exact (zi (by with_reducible assumption) (by omega) (by with_reducible assumption) (by assumption)) | (rw [Hb]; omega) | (rw [GS]; omega))
theorem wM (c:Command) (v:Int) (nx:Int) (kp:Int) (qt:Int) (se:List Sess) (op:List Opn) (sn:List Snap) (r0:Reply) (r1:Int) (r2:Int) (r3:Int) (r4:Int) (r5:List Sess) (r6:List Opn) (r7:List Snap):nd aI ny [] Try.f59 [.c (.ptr 0 0),.agg (cellsOf (.nm .command) c)] [.box 29 ([.int (v),.int (nx),.int (kp),.int (qt),.own 1,.own 2,.own 3]),.row 40 (.nm .sess) (se),.row 48 (.nm .opn) (op),.row 59 (.nm .snap) (sn)] [.agg (cellsOf (.nm .reply) r0)] [.box 29 ([.int (r1),.int (r2),.int (r3),.int (r4),.own 1,.own 2,.own 3]),.row 40 (.nm .sess) (r5),.row 48 (.nm .opn) (r6),.row 59 (.nm .snap) (r7)]=((fun (q1:Int)=>(fun (q0:Int)=>I64 c.kind->I64 c.client->I64 c.seq->I64 c.set->I64 c.id->I64 c.n->c.chunks.length*(8:Nat)<=(140737488355328:Nat)->c.text.b.length<=(140737488355328:Nat)->I64 q0->(q0<q1->I64 (15:Int)->I64 q1->(15:Int)=r0.code/\q1=r0.n/\v=r1/\nx=r2/\kp=r3/\qt=r4/\se=r5/\op=r6/\sn=r7)/\(q1<=q0->I64 (q0+(1:Int))/\(q1<=q0/\q0<(↑op.length:Int)/\q0+(1:Int)=q0+(1:Int))/\q1=r0.code/\q1=r0.n/\v=r1/\nx=r2/\kp=r3/\qt=r4/\se=r5/\List.take q0.toNat op++List.drop (q0+(1:Int)).toNat op=r6/\sn=r7)) (bz (State.mk v nx kp qt se op sn) c)) (0:Int)):=by kernel_rfl
theorem wo (c:Command) (v:Int) (nx:Int) (kp:Int) (qt:Int) (se:List Sess) (op:List Opn) (sn:List Snap) (h0:op.length<1048576):Sat Try.prog (aq aI) 59 [.c (.ptr 0 0),.agg (cellsOf (.nm .command) c)] [.box 29 ([.int (v),.int (nx),.int (kp),.int (qt),.own 1,.own 2,.own 3]),.row 40 (.nm .sess) (se),.row 48 (.nm .opn) (op),.row 59 (.nm .snap) (sn)] ⟨[op.length<1048576],[.agg (cellsOf (.nm .reply) ((aU (State.mk v nx kp qt se op sn) c).2))],some ([.box 29 ([.int ((((aU (State.mk v nx kp qt se op sn) c).1).version)),.int ((((aU (State.mk v nx kp qt se op sn) c).1).next)),.int ((((aU (State.mk v nx kp qt se op sn) c).1).keep)),.int ((((aU (State.mk v nx kp qt se op sn) c).1).quota)),.own 1,.own 2,.own 3]),.row 40 (.nm .sess) ((((aU (State.mk v nx kp qt se op sn) c).1).sess)),.row 48 (.nm .opn) ((((aU (State.mk v nx kp qt se op sn) c).1).opens)),.row 59 (.nm .snap) ((((aU (State.mk v nx kp qt se op sn) c).1).snaps))]),false⟩:=by
 refine dv fH [] Try.func59 (by decide) (by kernel_rfl) ?_
 rw [wM]
 have hl:0<=bz (State.mk v nx kp qt se op sn) c->bz (State.mk v nx kp qt se op sn) c+1<=(op.length:Int):=fun h=>zO h
 (repeat' (first | with_reducible refine And.intro ?_ ?_ | with_reducible refine and_imp.2 ?_ | intro))
 all_goals (first | (first | with_reducible rfl | with_reducible assumption | omega | (refine av ?_ ?_ <;> omega)) | (rw [Hu]; omega) | (rw [Hw]; omega))
theorem vY (c:Command) (v:Int) (nx:Int) (kp:Int) (qt:Int) (se:List Sess) (op:List Opn) (sn:List Snap) (r0:Reply) (r1:Int) (r2:Int) (r3:Int) (r4:Int) (r5:List Sess) (r6:List Opn) (r7:List Snap):nd aI ny [] Try.f57 [.c (.ptr 0 0),.agg (cellsOf (.nm .command) c)] [.box 29 ([.int (v),.int (nx),.int (kp),.int (qt),.own 1,.own 2,.own 3]),.row 40 (.nm .sess) (se),.row 48 (.nm .opn) (op),.row 59 (.nm .snap) (sn)] [.agg (cellsOf (.nm .reply) r0)] [.box 29 ([.int (r1),.int (r2),.int (r3),.int (r4),.own 1,.own 2,.own 3]),.row 40 (.nm .sess) (r5),.row 48 (.nm .opn) (r6),.row 59 (.nm .snap) (r7)]=((fun (q6:Snap)=>(fun (q5:Int)=>(fun (q4:Prop)=>(fun (q3:Int)=>(fun (q2:Int)=>(fun (q1:Prop)=>(fun (q0:Int)=>I64 c.kind->I64 c.client->I64 c.seq->I64 c.set->I64 c.id->I64 c.n->q4->c.text.b.length<=(140737488355328:Nat)->I64 q0->(q0<q3->I64 (15:Int)->I64 q3->(15:Int)=r0.code/\q1)/\(q3<=q0->((16:Int)<=(↑sn.length:Int)\/(1048576:Int)<=nx->I64 (20:Int)->I64 q3->(20:Int)=r0.code/\q1)/\((↑sn.length:Int)<(16:Int)/\nx<(1048576:Int)->(¬qt=q3->nch sn<=(1048576:Nat))/\((¬qt=q3->I64 q2)->(¬qt=q3/\qt<q2->I64 (19:Int)->I64 q3->(19:Int)=r0.code/\q1)/\(qt=q3\/q2<=qt->q4->(sn.length+[q6].length)*(64:Nat)<=(140737488355328:Nat)/\I64 (nx+q5)/\I64 (q0+q5)/\(q3<=q0/\q0<(↑op.length:Int)/\q0+q5=q0+q5)/\q3=r0.code/\nx=r0.n/\v=r1/\nx+q5=r2/\kp=r3/\qt=r4/\se=r5/\List.take q0.toNat op++List.drop (q0+q5).toNat op=r6/\sn++[q6]=r7))))) (bz (State.mk v nx kp qt se op sn) c)) (q3=r0.n/\v=r1/\nx=r2/\kp=r3/\qt=r4/\se=r5/\op=r6/\sn=r7)) (↑(distF (sn++[Snap.mk q3 q3 c.chunks false (Str.mk [])])):Int)) (0:Int)) (c.chunks.length*(8:Nat)<=(140737488355328:Nat))) (1:Int)) (Snap.mk nx c.set c.chunks false (Str.mk []))):=by kernel_rfl
theorem vM (c:Command) (v:Int) (nx:Int) (kp:Int) (qt:Int) (se:List Sess) (op:List Opn) (sn:List Snap) (h0:nch sn<=1048576) (h1:sn.length<1048576) (h2:op.length<1048576) (h3:0<=nx):Sat Try.prog (aq aI) 57 [.c (.ptr 0 0),.agg (cellsOf (.nm .command) c)] [.box 29 ([.int (v),.int (nx),.int (kp),.int (qt),.own 1,.own 2,.own 3]),.row 40 (.nm .sess) (se),.row 48 (.nm .opn) (op),.row 59 (.nm .snap) (sn)] ⟨[nch sn<=1048576,sn.length<1048576,op.length<1048576,0<=nx],[.agg (cellsOf (.nm .reply) ((aM (State.mk v nx kp qt se op sn) c).2))],some ([.box 29 ([.int ((((aM (State.mk v nx kp qt se op sn) c).1).version)),.int ((((aM (State.mk v nx kp qt se op sn) c).1).next)),.int ((((aM (State.mk v nx kp qt se op sn) c).1).keep)),.int ((((aM (State.mk v nx kp qt se op sn) c).1).quota)),.own 1,.own 2,.own 3]),.row 40 (.nm .sess) ((((aM (State.mk v nx kp qt se op sn) c).1).sess)),.row 48 (.nm .opn) ((((aM (State.mk v nx kp qt se op sn) c).1).opens)),.row 59 (.nm .snap) ((((aM (State.mk v nx kp qt se op sn) c).1).snaps))]),false⟩:=by
 refine dv fH [] Try.func57 (by decide) (by kernel_rfl) ?_
 rw [vY]
 have hl:0<=bz (State.mk v nx kp qt se op sn) c->bz (State.mk v nx kp qt se op sn) c+1<=(op.length:Int):=fun h=>zO h
 (repeat' (first | with_reducible refine And.intro ?_ ?_ | with_reducible refine and_imp.2 ?_ | intro))
 all_goals (first | (first | with_reducible rfl | with_reducible assumption | omega | (refine av ?_ ?_ <;> omega)) | (simp only [aM,uT]; grind) | (simp only [List.length_cons,List.length_nil]; omega))
theorem DW (i:Int) (v:Int) (nx:Int) (kp:Int) (qt:Int) (se:List Sess) (op:List Opn) (sn:List Snap) (r0:Reply) (r1:Int) (r2:Int) (r3:Int) (r4:Int) (r5:List Sess) (r6:List Opn) (r7:List Snap):nd aI ny [] Try.f63 [.c (.int (i)),.c (.ptr 0 0)] [.box 29 ([.int (v),.int (nx),.int (kp),.int (qt),.own 1,.own 2,.own 3]),.row 40 (.nm .sess) (se),.row 48 (.nm .opn) (op),.row 59 (.nm .snap) (sn)] [.agg (cellsOf (.nm .reply) r0)] [.box 29 ([.int (r1),.int (r2),.int (r3),.int (r4),.own 1,.own 2,.own 3]),.row 40 (.nm .sess) (r5),.row 48 (.nm .opn) (r6),.row 59 (.nm .snap) (r7)]=((fun (q0:State × Reply)=>I64 i->((0:Int)<=i/\i<(↑sn.length:Int))/\nch sn<=(1048576:Nat)/\(I64 q0.snd.code->I64 q0.snd.n->q0.snd.code=r0.code/\q0.snd.n=r0.n/\q0.fst.version=r1/\q0.fst.next=r2/\q0.fst.keep=r3/\q0.fst.quota=r4/\q0.fst.sess=r5/\q0.fst.opens=r6/\q0.fst.snaps=r7)) (aJ (State.mk v nx kp qt se op sn) i.toNat)):=by kernel_rfl
theorem Ec (i:Int) (v:Int) (nx:Int) (kp:Int) (qt:Int) (se:List Sess) (op:List Opn) (sn:List Snap) (h0:0<=i/\i<(sn.length:Int)) (h1:nch sn<=1048576):Sat Try.prog (aq aI) 63 [.c (.int (i)),.c (.ptr 0 0)] [.box 29 ([.int (v),.int (nx),.int (kp),.int (qt),.own 1,.own 2,.own 3]),.row 40 (.nm .sess) (se),.row 48 (.nm .opn) (op),.row 59 (.nm .snap) (sn)] ⟨[0<=i/\i<(sn.length:Int),nch sn<=1048576],[.agg (cellsOf (.nm .reply) ((aJ (State.mk v nx kp qt se op sn) i.toNat).2))],some ([.box 29 ([.int ((((aJ (State.mk v nx kp qt se op sn) i.toNat).1).version)),.int ((((aJ (State.mk v nx kp qt se op sn) i.toNat).1).next)),.int ((((aJ (State.mk v nx kp qt se op sn) i.toNat).1).keep)),.int ((((aJ (State.mk v nx kp qt se op sn) i.toNat).1).quota)),.own 1,.own 2,.own 3]),.row 40 (.nm .sess) ((((aJ (State.mk v nx kp qt se op sn) i.toNat).1).sess)),.row 48 (.nm .opn) ((((aJ (State.mk v nx kp qt se op sn) i.toNat).1).opens)),.row 59 (.nm .snap) ((((aJ (State.mk v nx kp qt se op sn) i.toNat).1).snaps))]),false⟩:=by
 refine dv fH [] Try.func63 (by decide) (by kernel_rfl) ?_
 rw [DW]
 (repeat' (first | with_reducible refine And.intro ?_ ?_ | with_reducible refine and_imp.2 ?_ | intro))
 all_goals (first | (first | with_reducible rfl | with_reducible assumption | omega | (refine av ?_ ?_ <;> omega)) | exact rfl)
def h_:cu:=(bV 63 (bO (aj (kC cI) (aj (kC (bL 0 0)) aR)) (ay (bI 29 (ai cI (ai cI (ai cI (ai cI (ai (aY 1) (ai (aY 2) (ai (aY 3) bG)))))))) (ay (aZ 40 (.nm .sess)) (ay (aZ 48 (.nm .opn)) (ay (aZ 59 (.nm .snap)) aQ)))) fun (i,_,_) ((v,nx,kp,qt,_,_,_,_),se,op,sn,_)=>⟨[0<=i/\i<(sn.length:Int),nch sn<=1048576],[.agg (cellsOf (.nm .reply) ((aJ (State.mk v nx kp qt se op sn) i.toNat).2))],some ([.box 29 ([.int ((((aJ (State.mk v nx kp qt se op sn) i.toNat).1).version)),.int ((((aJ (State.mk v nx kp qt se op sn) i.toNat).1).next)),.int ((((aJ (State.mk v nx kp qt se op sn) i.toNat).1).keep)),.int ((((aJ (State.mk v nx kp qt se op sn) i.toNat).1).quota)),.own 1,.own 2,.own 3]),.row 40 (.nm .sess) ((((aJ (State.mk v nx kp qt se op sn) i.toNat).1).sess)),.row 48 (.nm .opn) ((((aJ (State.mk v nx kp qt se op sn) i.toNat).1).opens)),.row 59 (.nm .snap) ((((aJ (State.mk v nx kp qt se op sn) i.toNat).1).snaps))]),false⟩) (bV 57 (bO (aj (kC (bL 0 0)) (aj (kT (.nm .command)) aR)) (ay (bI 29 (ai cI (ai cI (ai cI (ai cI (ai (aY 1) (ai (aY 2) (ai (aY 3) bG)))))))) (ay (aZ 40 (.nm .sess)) (ay (aZ 48 (.nm .opn)) (ay (aZ 59 (.nm .snap)) aQ)))) fun (_,c,_) ((v,nx,kp,qt,_,_,_,_),se,op,sn,_)=>⟨[nch sn<=1048576,sn.length<1048576,op.length<1048576,0<=nx],[.agg (cellsOf (.nm .reply) ((aM (State.mk v nx kp qt se op sn) c).2))],some ([.box 29 ([.int ((((aM (State.mk v nx kp qt se op sn) c).1).version)),.int ((((aM (State.mk v nx kp qt se op sn) c).1).next)),.int ((((aM (State.mk v nx kp qt se op sn) c).1).keep)),.int ((((aM (State.mk v nx kp qt se op sn) c).1).quota)),.own 1,.own 2,.own 3]),.row 40 (.nm .sess) ((((aM (State.mk v nx kp qt se op sn) c).1).sess)),.row 48 (.nm .opn) ((((aM (State.mk v nx kp qt se op sn) c).1).opens)),.row 59 (.nm .snap) ((((aM (State.mk v nx kp qt se op sn) c).1).snaps))]),false⟩) (bV 59 (bO (aj (kC (bL 0 0)) (aj (kT (.nm .command)) aR)) (ay (bI 29 (ai cI (ai cI (ai cI (ai cI (ai (aY 1) (ai (aY 2) (ai (aY 3) bG)))))))) (ay (aZ 40 (.nm .sess)) (ay (aZ 48 (.nm .opn)) (ay (aZ 59 (.nm .snap)) aQ)))) fun (_,c,_) ((v,nx,kp,qt,_,_,_,_),se,op,sn,_)=>⟨[op.length<1048576],[.agg (cellsOf (.nm .reply) ((aU (State.mk v nx kp qt se op sn) c).2))],some ([.box 29 ([.int ((((aU (State.mk v nx kp qt se op sn) c).1).version)),.int ((((aU (State.mk v nx kp qt se op sn) c).1).next)),.int ((((aU (State.mk v nx kp qt se op sn) c).1).keep)),.int ((((aU (State.mk v nx kp qt se op sn) c).1).quota)),.own 1,.own 2,.own 3]),.row 40 (.nm .sess) ((((aU (State.mk v nx kp qt se op sn) c).1).sess)),.row 48 (.nm .opn) ((((aU (State.mk v nx kp qt se op sn) c).1).opens)),.row 59 (.nm .snap) ((((aU (State.mk v nx kp qt se op sn) c).1).snaps))]),false⟩) (bV 55 (bO (aj (kC (bL 0 0)) (aj (kT (.nm .command)) aR)) (ay (bI 29 (ai cI (ai cI (ai cI (ai cI (ai (aY 1) (ai (aY 2) (ai (aY 3) bG)))))))) (ay (aZ 40 (.nm .sess)) (ay (aZ 48 (.nm .opn)) (ay (aZ 59 (.nm .snap)) aQ)))) fun (_,c,_) ((v,nx,kp,qt,_,_,_,_),se,op,sn,_)=>⟨[op.length<1048576],[.agg (cellsOf (.nm .reply) ((aS (State.mk v nx kp qt se op sn) c).2))],some ([.box 29 ([.int ((((aS (State.mk v nx kp qt se op sn) c).1).version)),.int ((((aS (State.mk v nx kp qt se op sn) c).1).next)),.int ((((aS (State.mk v nx kp qt se op sn) c).1).keep)),.int ((((aS (State.mk v nx kp qt se op sn) c).1).quota)),.own 1,.own 2,.own 3]),.row 40 (.nm .sess) ((((aS (State.mk v nx kp qt se op sn) c).1).sess)),.row 48 (.nm .opn) ((((aS (State.mk v nx kp qt se op sn) c).1).opens)),.row 59 (.nm .snap) ((((aS (State.mk v nx kp qt se op sn) c).1).snaps))]),false⟩) ny))))
theorem dL:aP Try.prog (aq aI) h_:=(aC (aB (ae (aw ax) (ae (aw aH) al)) (ag (aF (ab ax (ab ax (ab ax (ab ax (ab aA (ab aA (ab aA aE)))))))) (ag az (ag az (ag az ao)))) fun (i,_,_) ((v,nx,kp,qt,_,_,_,_),se,op,sn,_) hp=>Ec i v nx kp qt se op sn (eU hp) (eU (mV hp))) (aC (aB (ae (aw aH) (ae b_ al)) (ag (aF (ab ax (ab ax (ab ax (ab ax (ab aA (ab aA (ab aA aE)))))))) (ag az (ag az (ag az ao)))) fun (_,c,_) ((v,nx,kp,qt,_,_,_,_),se,op,sn,_) hp=>vM c v nx kp qt se op sn (eU hp) (eU (mV hp)) (eU (mV (mV hp))) (eU (mV (mV (mV hp))))) (aC (aB (ae (aw aH) (ae b_ al)) (ag (aF (ab ax (ab ax (ab ax (ab ax (ab aA (ab aA (ab aA aE)))))))) (ag az (ag az (ag az ao)))) fun (_,c,_) ((v,nx,kp,qt,_,_,_,_),se,op,sn,_) hp=>wo c v nx kp qt se op sn (eU hp)) (aC (aB (ae (aw aH) (ae b_ al)) (ag (aF (ab ax (ab ax (ab ax (ab ax (ab aA (ab aA (ab aA aE)))))))) (ag az (ag az (ag az ao)))) fun (_,c,_) ((v,nx,kp,qt,_,_,_,_),se,op,sn,_) hp=>zy c v nx kp qt se op sn (eU hp)) fH))))
end Go.Proofs.Ytdggohppeeaipaa
namespace Go.Proofs.Ytdggohppeeaipaa
open Go.RowKit
def au (f:State->Nat->State × Reply) (c:Command) (s:State):State × Reply:=if ah Snap.id c.id s.snaps<0 then (s,⟨15,0⟩) else f s (ah Snap.id c.id s.snaps).toNat
section
variable {v nx kp qt:Int} {se:List Sess} {op:List Opn} {sn:List Snap} {c:Command} {f:State->Nat->State × Reply}
theorem Gg (h:ah Snap.id c.id sn<0):au f c (State.mk v nx kp qt se op sn)=(State.mk v nx kp qt se op sn,⟨15,0⟩):=by
 simp only [au,if_pos h]
theorem Gi (h:0<=ah Snap.id c.id sn):au f c (State.mk v nx kp qt se op sn)=f (State.mk v nx kp qt se op sn) (ah Snap.id c.id sn).toNat:=by
 have h1:¬ ah Snap.id c.id sn<0:=by omega
 simp only [au,if_neg h1]
end
theorem Eh (v:Int) (nx:Int) (kp:Int) (qt:Int) (se:List Sess) (op:List Opn) (sn:List Snap) (c:Command) (r0:Reply) (r1:Int) (r2:Int) (r3:Int) (r4:Int) (r5:List Sess) (r6:List Opn) (r7:List Snap) (r8:Command):nd aI h_ [] Try.f54 [.c (.ptr 0 0),.c (.ptr 4 0)] [.box 29 ([.int (v),.int (nx),.int (kp),.int (qt),.own 1,.own 2,.own 3]),.row 40 (.nm .sess) (se),.row 48 (.nm .opn) (op),.row 59 (.nm .snap) (sn),.box 42 (cellsOf (.nm .command) (c))] [.agg (cellsOf (.nm .reply) r0)] [.box 29 ([.int (r1),.int (r2),.int (r3),.int (r4),.own 1,.own 2,.own 3]),.row 40 (.nm .sess) (r5),.row 48 (.nm .opn) (r6),.row 59 (.nm .snap) (r7),.box 42 (cellsOf (.nm .command) (r8))]=((fun (q0:State × Reply)=>op.length<(1048576:Nat)/\(I64 q0.snd.code->I64 q0.snd.n->q0.snd.code=r0.code/\q0.snd.n=r0.n/\q0.fst.version=r1/\q0.fst.next=r2/\q0.fst.keep=r3/\q0.fst.quota=r4/\q0.fst.sess=r5/\q0.fst.opens=r6/\q0.fst.snaps=r7/\c.kind=r8.kind/\c.client=r8.client/\c.seq=r8.seq/\c.set=r8.set/\c.id=r8.id/\c.n=r8.n/\c.chunks=r8.chunks/\c.text=r8.text)) (aS (State.mk v nx kp qt se op sn) c)):=by kernel_rfl
theorem CW (v:Int) (nx:Int) (kp:Int) (qt:Int) (se:List Sess) (op:List Opn) (sn:List Snap) (c:Command) (h0:op.length<1048576):Sat Try.prog (aq aI) 54 [.c (.ptr 0 0),.c (.ptr 4 0)] [.box 29 ([.int (v),.int (nx),.int (kp),.int (qt),.own 1,.own 2,.own 3]),.row 40 (.nm .sess) (se),.row 48 (.nm .opn) (op),.row 59 (.nm .snap) (sn),.box 42 (cellsOf (.nm .command) (c))] ⟨[op.length<1048576],[.agg (cellsOf (.nm .reply) ((aS (State.mk v nx kp qt se op sn) c).2))],some ([.box 29 ([.int ((((aS (State.mk v nx kp qt se op sn) c).1).version)),.int ((((aS (State.mk v nx kp qt se op sn) c).1).next)),.int ((((aS (State.mk v nx kp qt se op sn) c).1).keep)),.int ((((aS (State.mk v nx kp qt se op sn) c).1).quota)),.own 1,.own 2,.own 3]),.row 40 (.nm .sess) ((((aS (State.mk v nx kp qt se op sn) c).1).sess)),.row 48 (.nm .opn) ((((aS (State.mk v nx kp qt se op sn) c).1).opens)),.row 59 (.nm .snap) ((((aS (State.mk v nx kp qt se op sn) c).1).snaps)),.box 42 (cellsOf (.nm .command) ((c)))]),false⟩:=by
 refine dv dL [] Try.func54 (by decide) (by kernel_rfl) ?_
 rw [Eh]
 (repeat' (first | with_reducible refine And.intro ?_ ?_ | with_reducible refine and_imp.2 ?_ | intro))
 all_goals (first | (first | with_reducible rfl | with_reducible assumption | omega | (refine av ?_ ?_ <;> omega)) | exact rfl)
theorem DX (v:Int) (nx:Int) (kp:Int) (qt:Int) (se:List Sess) (op:List Opn) (sn:List Snap) (c:Command) (r0:Reply) (r1:Int) (r2:Int) (r3:Int) (r4:Int) (r5:List Sess) (r6:List Opn) (r7:List Snap) (r8:Command):nd aI h_ [] Try.f56 [.c (.ptr 0 0),.c (.ptr 4 0)] [.box 29 ([.int (v),.int (nx),.int (kp),.int (qt),.own 1,.own 2,.own 3]),.row 40 (.nm .sess) (se),.row 48 (.nm .opn) (op),.row 59 (.nm .snap) (sn),.box 42 (cellsOf (.nm .command) (c))] [.agg (cellsOf (.nm .reply) r0)] [.box 29 ([.int (r1),.int (r2),.int (r3),.int (r4),.own 1,.own 2,.own 3]),.row 40 (.nm .sess) (r5),.row 48 (.nm .opn) (r6),.row 59 (.nm .snap) (r7),.box 42 (cellsOf (.nm .command) (r8))]=((fun (q0:State × Reply)=>nch sn<=(1048576:Nat)/\sn.length<(1048576:Nat)/\op.length<(1048576:Nat)/\(0:Int)<=nx/\(I64 q0.snd.code->I64 q0.snd.n->q0.snd.code=r0.code/\q0.snd.n=r0.n/\q0.fst.version=r1/\q0.fst.next=r2/\q0.fst.keep=r3/\q0.fst.quota=r4/\q0.fst.sess=r5/\q0.fst.opens=r6/\q0.fst.snaps=r7/\c.kind=r8.kind/\c.client=r8.client/\c.seq=r8.seq/\c.set=r8.set/\c.id=r8.id/\c.n=r8.n/\c.chunks=r8.chunks/\c.text=r8.text)) (aM (State.mk v nx kp qt se op sn) c)):=by kernel_rfl
theorem DO (v:Int) (nx:Int) (kp:Int) (qt:Int) (se:List Sess) (op:List Opn) (sn:List Snap) (c:Command) (h0:nch sn<=1048576) (h1:sn.length<1048576) (h2:op.length<1048576) (h3:0<=nx):Sat Try.prog (aq aI) 56 [.c (.ptr 0 0),.c (.ptr 4 0)] [.box 29 ([.int (v),.int (nx),.int (kp),.int (qt),.own 1,.own 2,.own 3]),.row 40 (.nm .sess) (se),.row 48 (.nm .opn) (op),.row 59 (.nm .snap) (sn),.box 42 (cellsOf (.nm .command) (c))] ⟨[nch sn<=1048576,sn.length<1048576,op.length<1048576,0<=nx],[.agg (cellsOf (.nm .reply) ((aM (State.mk v nx kp qt se op sn) c).2))],some ([.box 29 ([.int ((((aM (State.mk v nx kp qt se op sn) c).1).version)),.int ((((aM (State.mk v nx kp qt se op sn) c).1).next)),.int ((((aM (State.mk v nx kp qt se op sn) c).1).keep)),.int ((((aM (State.mk v nx kp qt se op sn) c).1).quota)),.own 1,.own 2,.own 3]),.row 40 (.nm .sess) ((((aM (State.mk v nx kp qt se op sn) c).1).sess)),.row 48 (.nm .opn) ((((aM (State.mk v nx kp qt se op sn) c).1).opens)),.row 59 (.nm .snap) ((((aM (State.mk v nx kp qt se op sn) c).1).snaps)),.box 42 (cellsOf (.nm .command) ((c)))]),false⟩:=by
 refine dv dL [] Try.func56 (by decide) (by kernel_rfl) ?_
 rw [DX]
 (repeat' (first | with_reducible refine And.intro ?_ ?_ | with_reducible refine and_imp.2 ?_ | intro))
 all_goals (first | (first | with_reducible rfl | with_reducible assumption | omega | (refine av ?_ ?_ <;> omega)) | exact rfl)
theorem Dn (v:Int) (nx:Int) (kp:Int) (qt:Int) (se:List Sess) (op:List Opn) (sn:List Snap) (c:Command) (r0:Reply) (r1:Int) (r2:Int) (r3:Int) (r4:Int) (r5:List Sess) (r6:List Opn) (r7:List Snap) (r8:Command):nd aI h_ [] Try.f58 [.c (.ptr 0 0),.c (.ptr 4 0)] [.box 29 ([.int (v),.int (nx),.int (kp),.int (qt),.own 1,.own 2,.own 3]),.row 40 (.nm .sess) (se),.row 48 (.nm .opn) (op),.row 59 (.nm .snap) (sn),.box 42 (cellsOf (.nm .command) (c))] [.agg (cellsOf (.nm .reply) r0)] [.box 29 ([.int (r1),.int (r2),.int (r3),.int (r4),.own 1,.own 2,.own 3]),.row 40 (.nm .sess) (r5),.row 48 (.nm .opn) (r6),.row 59 (.nm .snap) (r7),.box 42 (cellsOf (.nm .command) (r8))]=((fun (q0:State × Reply)=>op.length<(1048576:Nat)/\(I64 q0.snd.code->I64 q0.snd.n->q0.snd.code=r0.code/\q0.snd.n=r0.n/\q0.fst.version=r1/\q0.fst.next=r2/\q0.fst.keep=r3/\q0.fst.quota=r4/\q0.fst.sess=r5/\q0.fst.opens=r6/\q0.fst.snaps=r7/\c.kind=r8.kind/\c.client=r8.client/\c.seq=r8.seq/\c.set=r8.set/\c.id=r8.id/\c.n=r8.n/\c.chunks=r8.chunks/\c.text=r8.text)) (aU (State.mk v nx kp qt se op sn) c)):=by kernel_rfl
theorem DB (v:Int) (nx:Int) (kp:Int) (qt:Int) (se:List Sess) (op:List Opn) (sn:List Snap) (c:Command) (h0:op.length<1048576):Sat Try.prog (aq aI) 58 [.c (.ptr 0 0),.c (.ptr 4 0)] [.box 29 ([.int (v),.int (nx),.int (kp),.int (qt),.own 1,.own 2,.own 3]),.row 40 (.nm .sess) (se),.row 48 (.nm .opn) (op),.row 59 (.nm .snap) (sn),.box 42 (cellsOf (.nm .command) (c))] ⟨[op.length<1048576],[.agg (cellsOf (.nm .reply) ((aU (State.mk v nx kp qt se op sn) c).2))],some ([.box 29 ([.int ((((aU (State.mk v nx kp qt se op sn) c).1).version)),.int ((((aU (State.mk v nx kp qt se op sn) c).1).next)),.int ((((aU (State.mk v nx kp qt se op sn) c).1).keep)),.int ((((aU (State.mk v nx kp qt se op sn) c).1).quota)),.own 1,.own 2,.own 3]),.row 40 (.nm .sess) ((((aU (State.mk v nx kp qt se op sn) c).1).sess)),.row 48 (.nm .opn) ((((aU (State.mk v nx kp qt se op sn) c).1).opens)),.row 59 (.nm .snap) ((((aU (State.mk v nx kp qt se op sn) c).1).snaps)),.box 42 (cellsOf (.nm .command) ((c)))]),false⟩:=by
 refine dv dL [] Try.func58 (by decide) (by kernel_rfl) ?_
 rw [Dn]
 (repeat' (first | with_reducible refine And.intro ?_ ?_ | with_reducible refine and_imp.2 ?_ | intro))
 all_goals (first | (first | with_reducible rfl | with_reducible assumption | omega | (refine av ?_ ?_ <;> omega)) | exact rfl)
theorem ph (v:Int) (nx:Int) (kp:Int) (qt:Int) (se:List Sess) (op:List Opn) (sn:List Snap) (c:Command) (r0:Int) (r1:Int) (r2:Int) (r3:Int) (r4:List Sess) (r5:List Opn) (r6:List Snap) (r7:Command):sm aI h_ [] Try.f49 [.c (.fn 63 [] [(0,0)]),.c (.ptr 0 0),.c (.ptr 4 0)] [.box 29 ([.int (v),.int (nx),.int (kp),.int (qt),.own 1,.own 2,.own 3]),.row 40 (.nm .sess) (se),.row 48 (.nm .opn) (op),.row 59 (.nm .snap) (sn),.box 42 (cellsOf (.nm .command) (c))] [.c (.fn 50 [] [(0,0),(4,0),(5,0)])] [.box 29 ([.int (r0),.int (r1),.int (r2),.int (r3),.own 1,.own 2,.own 3]),.row 40 (.nm .sess) (r4),.row 48 (.nm .opn) (r5),.row 59 (.nm .snap) (r6),.box 42 (cellsOf (.nm .command) (r7)),.box 82 ([.fn 63 [] [(0,0)]])]=(v=r0/\nx=r1/\kp=r2/\qt=r3/\se=r4/\op=r5/\sn=r6/\c.kind=r7.kind/\c.client=r7.client/\c.seq=r7.seq/\c.set=r7.set/\c.id=r7.id/\c.n=r7.n/\c.chunks=r7.chunks/\c.text=r7.text):=by kernel_rfl
theorem nQ (v:Int) (nx:Int) (kp:Int) (qt:Int) (se:List Sess) (op:List Opn) (sn:List Snap) (c:Command):Sat Try.prog (aq aI) 49 [.c (.fn 63 [] [(0,0)]),.c (.ptr 0 0),.c (.ptr 4 0)] [.box 29 ([.int (v),.int (nx),.int (kp),.int (qt),.own 1,.own 2,.own 3]),.row 40 (.nm .sess) (se),.row 48 (.nm .opn) (op),.row 59 (.nm .snap) (sn),.box 42 (cellsOf (.nm .command) (c))] ⟨[],[.c (.fn 50 [] [(0,0),(4,0),(5,0)])],some ([.box 29 ([.int ((v)),.int ((nx)),.int ((kp)),.int ((qt)),.own 1,.own 2,.own 3]),.row 40 (.nm .sess) ((se)),.row 48 (.nm .opn) ((op)),.row 59 (.nm .snap) ((sn)),.box 42 (cellsOf (.nm .command) ((c))),.box 82 ([.fn 63 [] [(0,0)]])]),true⟩:=by
 refine eC dL [] Try.func49 (by decide) (by kernel_rfl) ?_
 rw [ph]
 (repeat' (first | with_reducible refine And.intro ?_ ?_ | with_reducible refine and_imp.2 ?_ | intro))
 all_goals (first | (first | with_reducible rfl | with_reducible assumption | omega | (refine av ?_ ?_ <;> omega)) | exact rfl)
theorem qE (v:Int) (nx:Int) (kp:Int) (qt:Int) (se:List Sess) (op:List Opn) (sn:List Snap) (c:Command) (r0:Int) (r1:Int) (r2:Int) (r3:Int) (r4:List Sess) (r5:List Opn) (r6:List Snap) (r7:Command):sm aI h_ [] Try.f49 [.c (.fn 65 [] [(0,0)]),.c (.ptr 0 0),.c (.ptr 4 0)] [.box 29 ([.int (v),.int (nx),.int (kp),.int (qt),.own 1,.own 2,.own 3]),.row 40 (.nm .sess) (se),.row 48 (.nm .opn) (op),.row 59 (.nm .snap) (sn),.box 42 (cellsOf (.nm .command) (c))] [.c (.fn 50 [] [(0,0),(4,0),(5,0)])] [.box 29 ([.int (r0),.int (r1),.int (r2),.int (r3),.own 1,.own 2,.own 3]),.row 40 (.nm .sess) (r4),.row 48 (.nm .opn) (r5),.row 59 (.nm .snap) (r6),.box 42 (cellsOf (.nm .command) (r7)),.box 82 ([.fn 65 [] [(0,0)]])]=(v=r0/\nx=r1/\kp=r2/\qt=r3/\se=r4/\op=r5/\sn=r6/\c.kind=r7.kind/\c.client=r7.client/\c.seq=r7.seq/\c.set=r7.set/\c.id=r7.id/\c.n=r7.n/\c.chunks=r7.chunks/\c.text=r7.text):=by kernel_rfl
theorem qZ (v:Int) (nx:Int) (kp:Int) (qt:Int) (se:List Sess) (op:List Opn) (sn:List Snap) (c:Command):Sat Try.prog (aq aI) 49 [.c (.fn 65 [] [(0,0)]),.c (.ptr 0 0),.c (.ptr 4 0)] [.box 29 ([.int (v),.int (nx),.int (kp),.int (qt),.own 1,.own 2,.own 3]),.row 40 (.nm .sess) (se),.row 48 (.nm .opn) (op),.row 59 (.nm .snap) (sn),.box 42 (cellsOf (.nm .command) (c))] ⟨[],[.c (.fn 50 [] [(0,0),(4,0),(5,0)])],some ([.box 29 ([.int ((v)),.int ((nx)),.int ((kp)),.int ((qt)),.own 1,.own 2,.own 3]),.row 40 (.nm .sess) ((se)),.row 48 (.nm .opn) ((op)),.row 59 (.nm .snap) ((sn)),.box 42 (cellsOf (.nm .command) ((c))),.box 82 ([.fn 65 [] [(0,0)]])]),true⟩:=by
 refine eC dL [] Try.func49 (by decide) (by kernel_rfl) ?_
 rw [qE]
 (repeat' (first | with_reducible refine And.intro ?_ ?_ | with_reducible refine and_imp.2 ?_ | intro))
 all_goals (first | (first | with_reducible rfl | with_reducible assumption | omega | (refine av ?_ ?_ <;> omega)) | exact rfl)
theorem sO (c:Command) (v:Int) (nx:Int) (kp:Int) (qt:Int) (se:List Sess) (op:List Opn) (sn:List Snap) (r0:Command) (r1:Int) (r2:Int) (r3:Int) (r4:Int) (r5:List Sess) (r6:List Opn) (r7:List Snap):sm aI h_ [] Try.f49 [.c (.fn 66 [] [(0,0),(1,0)]),.c (.ptr 1 0),.c (.ptr 0 0)] [.box 42 (cellsOf (.nm .command) (c)),.box 29 ([.int (v),.int (nx),.int (kp),.int (qt),.own 2,.own 3,.own 4]),.row 40 (.nm .sess) (se),.row 48 (.nm .opn) (op),.row 59 (.nm .snap) (sn)] [.c (.fn 50 [] [(1,0),(0,0),(5,0)])] [.box 42 (cellsOf (.nm .command) (r0)),.box 29 ([.int (r1),.int (r2),.int (r3),.int (r4),.own 2,.own 3,.own 4]),.row 40 (.nm .sess) (r5),.row 48 (.nm .opn) (r6),.row 59 (.nm .snap) (r7),.box 82 ([.fn 66 [] [(0,0),(1,0)]])]=(c.kind=r0.kind/\c.client=r0.client/\c.seq=r0.seq/\c.set=r0.set/\c.id=r0.id/\c.n=r0.n/\c.chunks=r0.chunks/\c.text=r0.text/\v=r1/\nx=r2/\kp=r3/\qt=r4/\se=r5/\op=r6/\sn=r7):=by kernel_rfl
theorem sk (c:Command) (v:Int) (nx:Int) (kp:Int) (qt:Int) (se:List Sess) (op:List Opn) (sn:List Snap):Sat Try.prog (aq aI) 49 [.c (.fn 66 [] [(0,0),(1,0)]),.c (.ptr 1 0),.c (.ptr 0 0)] [.box 42 (cellsOf (.nm .command) (c)),.box 29 ([.int (v),.int (nx),.int (kp),.int (qt),.own 2,.own 3,.own 4]),.row 40 (.nm .sess) (se),.row 48 (.nm .opn) (op),.row 59 (.nm .snap) (sn)] ⟨[],[.c (.fn 50 [] [(1,0),(0,0),(5,0)])],some ([.box 42 (cellsOf (.nm .command) ((c))),.box 29 ([.int ((v)),.int ((nx)),.int ((kp)),.int ((qt)),.own 2,.own 3,.own 4]),.row 40 (.nm .sess) ((se)),.row 48 (.nm .opn) ((op)),.row 59 (.nm .snap) ((sn)),.box 82 ([.fn 66 [] [(0,0),(1,0)]])]),true⟩:=by
 refine eC dL [] Try.func49 (by decide) (by kernel_rfl) ?_
 rw [sO]
 (repeat' (first | with_reducible refine And.intro ?_ ?_ | with_reducible refine and_imp.2 ?_ | intro))
 all_goals (first | (first | with_reducible rfl | with_reducible assumption | omega | (refine av ?_ ?_ <;> omega)) | exact rfl)
theorem pJ (v:Int) (nx:Int) (kp:Int) (qt:Int) (se:List Sess) (op:List Opn) (sn:List Snap) (b:Bool) (c:Command) (r0:Int) (r1:Int) (r2:Int) (r3:Int) (r4:List Sess) (r5:List Opn) (r6:List Snap) (r7:Bool) (r8:Command):sm aI h_ [] Try.f49 [.c (.fn 53 [] [(0,0),(4,0)]),.c (.ptr 0 0),.c (.ptr 5 0)] [.box 29 ([.int (v),.int (nx),.int (kp),.int (qt),.own 1,.own 2,.own 3]),.row 40 (.nm .sess) (se),.row 48 (.nm .opn) (op),.row 59 (.nm .snap) (sn),.box 4 ([.bool (.atom (b))]),.box 42 (cellsOf (.nm .command) (c))] [.c (.fn 50 [] [(0,0),(5,0),(6,0)])] [.box 29 ([.int (r0),.int (r1),.int (r2),.int (r3),.own 1,.own 2,.own 3]),.row 40 (.nm .sess) (r4),.row 48 (.nm .opn) (r5),.row 59 (.nm .snap) (r6),.box 4 ([.bool (.atom (r7))]),.box 42 (cellsOf (.nm .command) (r8)),.box 82 ([.fn 53 [] [(0,0),(4,0)]])]=(v=r0/\nx=r1/\kp=r2/\qt=r3/\se=r4/\op=r5/\sn=r6/\b=r7/\c.kind=r8.kind/\c.client=r8.client/\c.seq=r8.seq/\c.set=r8.set/\c.id=r8.id/\c.n=r8.n/\c.chunks=r8.chunks/\c.text=r8.text):=by kernel_rfl
theorem pY (v:Int) (nx:Int) (kp:Int) (qt:Int) (se:List Sess) (op:List Opn) (sn:List Snap) (b:Bool) (c:Command):Sat Try.prog (aq aI) 49 [.c (.fn 53 [] [(0,0),(4,0)]),.c (.ptr 0 0),.c (.ptr 5 0)] [.box 29 ([.int (v),.int (nx),.int (kp),.int (qt),.own 1,.own 2,.own 3]),.row 40 (.nm .sess) (se),.row 48 (.nm .opn) (op),.row 59 (.nm .snap) (sn),.box 4 ([.bool (.atom (b))]),.box 42 (cellsOf (.nm .command) (c))] ⟨[],[.c (.fn 50 [] [(0,0),(5,0),(6,0)])],some ([.box 29 ([.int ((v)),.int ((nx)),.int ((kp)),.int ((qt)),.own 1,.own 2,.own 3]),.row 40 (.nm .sess) ((se)),.row 48 (.nm .opn) ((op)),.row 59 (.nm .snap) ((sn)),.box 4 ([.bool (.atom ((b)))]),.box 42 (cellsOf (.nm .command) ((c))),.box 82 ([.fn 53 [] [(0,0),(4,0)]])]),true⟩:=by
 refine eC dL [] Try.func49 (by decide) (by kernel_rfl) ?_
 rw [pJ]
 (repeat' (first | with_reducible refine And.intro ?_ ?_ | with_reducible refine and_imp.2 ?_ | intro))
 all_goals (first | (first | with_reducible rfl | with_reducible assumption | omega | (refine av ?_ ?_ <;> omega)) | exact rfl)
def ll:cu:=(bV 49 (bO (aj (kC (mK 53 [] [(0,0),(4,0)])) (aj (kC (bL 0 0)) (aj (kC (bL 5 0)) aR))) (ay (bI 29 (ai cI (ai cI (ai cI (ai cI (ai (aY 1) (ai (aY 2) (ai (aY 3) bG)))))))) (ay (aZ 40 (.nm .sess)) (ay (aZ 48 (.nm .opn)) (ay (aZ 59 (.nm .snap)) (ay (bI 4 (ai cB bG)) (ay (bI 42 (px (.nm .command) bG)) aQ)))))) fun (_,_,_,_) ((v,nx,kp,qt,_,_,_,_),se,op,sn,(b,_),(c,_),_)=>⟨[],[.c (.fn 50 [] [(0,0),(5,0),(6,0)])],some ([.box 29 ([.int ((v)),.int ((nx)),.int ((kp)),.int ((qt)),.own 1,.own 2,.own 3]),.row 40 (.nm .sess) ((se)),.row 48 (.nm .opn) ((op)),.row 59 (.nm .snap) ((sn)),.box 4 ([.bool (.atom ((b)))]),.box 42 (cellsOf (.nm .command) ((c))),.box 82 ([.fn 53 [] [(0,0),(4,0)]])]),true⟩) (bV 49 (bO (aj (kC (mK 66 [] [(0,0),(1,0)])) (aj (kC (bL 1 0)) (aj (kC (bL 0 0)) aR))) (ay (bI 42 (px (.nm .command) bG)) (ay (bI 29 (ai cI (ai cI (ai cI (ai cI (ai (aY 2) (ai (aY 3) (ai (aY 4) bG)))))))) (ay (aZ 40 (.nm .sess)) (ay (aZ 48 (.nm .opn)) (ay (aZ 59 (.nm .snap)) aQ))))) fun (_,_,_,_) ((c,_),(v,nx,kp,qt,_,_,_,_),se,op,sn,_)=>⟨[],[.c (.fn 50 [] [(1,0),(0,0),(5,0)])],some ([.box 42 (cellsOf (.nm .command) ((c))),.box 29 ([.int ((v)),.int ((nx)),.int ((kp)),.int ((qt)),.own 2,.own 3,.own 4]),.row 40 (.nm .sess) ((se)),.row 48 (.nm .opn) ((op)),.row 59 (.nm .snap) ((sn)),.box 82 ([.fn 66 [] [(0,0),(1,0)]])]),true⟩) (bV 49 (bO (aj (kC (mK 65 [] [(0,0)])) (aj (kC (bL 0 0)) (aj (kC (bL 4 0)) aR))) (ay (bI 29 (ai cI (ai cI (ai cI (ai cI (ai (aY 1) (ai (aY 2) (ai (aY 3) bG)))))))) (ay (aZ 40 (.nm .sess)) (ay (aZ 48 (.nm .opn)) (ay (aZ 59 (.nm .snap)) (ay (bI 42 (px (.nm .command) bG)) aQ))))) fun (_,_,_,_) ((v,nx,kp,qt,_,_,_,_),se,op,sn,(c,_),_)=>⟨[],[.c (.fn 50 [] [(0,0),(4,0),(5,0)])],some ([.box 29 ([.int ((v)),.int ((nx)),.int ((kp)),.int ((qt)),.own 1,.own 2,.own 3]),.row 40 (.nm .sess) ((se)),.row 48 (.nm .opn) ((op)),.row 59 (.nm .snap) ((sn)),.box 42 (cellsOf (.nm .command) ((c))),.box 82 ([.fn 65 [] [(0,0)]])]),true⟩) (bV 49 (bO (aj (kC (mK 63 [] [(0,0)])) (aj (kC (bL 0 0)) (aj (kC (bL 4 0)) aR))) (ay (bI 29 (ai cI (ai cI (ai cI (ai cI (ai (aY 1) (ai (aY 2) (ai (aY 3) bG)))))))) (ay (aZ 40 (.nm .sess)) (ay (aZ 48 (.nm .opn)) (ay (aZ 59 (.nm .snap)) (ay (bI 42 (px (.nm .command) bG)) aQ))))) fun (_,_,_,_) ((v,nx,kp,qt,_,_,_,_),se,op,sn,(c,_),_)=>⟨[],[.c (.fn 50 [] [(0,0),(4,0),(5,0)])],some ([.box 29 ([.int ((v)),.int ((nx)),.int ((kp)),.int ((qt)),.own 1,.own 2,.own 3]),.row 40 (.nm .sess) ((se)),.row 48 (.nm .opn) ((op)),.row 59 (.nm .snap) ((sn)),.box 42 (cellsOf (.nm .command) ((c))),.box 82 ([.fn 63 [] [(0,0)]])]),true⟩) (bV 58 (bO (aj (kC (bL 0 0)) (aj (kC (bL 4 0)) aR)) (ay (bI 29 (ai cI (ai cI (ai cI (ai cI (ai (aY 1) (ai (aY 2) (ai (aY 3) bG)))))))) (ay (aZ 40 (.nm .sess)) (ay (aZ 48 (.nm .opn)) (ay (aZ 59 (.nm .snap)) (ay (bI 42 (px (.nm .command) bG)) aQ))))) fun (_,_,_) ((v,nx,kp,qt,_,_,_,_),se,op,sn,(c,_),_)=>⟨[op.length<1048576],[.agg (cellsOf (.nm .reply) ((aU (State.mk v nx kp qt se op sn) c).2))],some ([.box 29 ([.int ((((aU (State.mk v nx kp qt se op sn) c).1).version)),.int ((((aU (State.mk v nx kp qt se op sn) c).1).next)),.int ((((aU (State.mk v nx kp qt se op sn) c).1).keep)),.int ((((aU (State.mk v nx kp qt se op sn) c).1).quota)),.own 1,.own 2,.own 3]),.row 40 (.nm .sess) ((((aU (State.mk v nx kp qt se op sn) c).1).sess)),.row 48 (.nm .opn) ((((aU (State.mk v nx kp qt se op sn) c).1).opens)),.row 59 (.nm .snap) ((((aU (State.mk v nx kp qt se op sn) c).1).snaps)),.box 42 (cellsOf (.nm .command) ((c)))]),false⟩) (bV 56 (bO (aj (kC (bL 0 0)) (aj (kC (bL 4 0)) aR)) (ay (bI 29 (ai cI (ai cI (ai cI (ai cI (ai (aY 1) (ai (aY 2) (ai (aY 3) bG)))))))) (ay (aZ 40 (.nm .sess)) (ay (aZ 48 (.nm .opn)) (ay (aZ 59 (.nm .snap)) (ay (bI 42 (px (.nm .command) bG)) aQ))))) fun (_,_,_) ((v,nx,kp,qt,_,_,_,_),se,op,sn,(c,_),_)=>⟨[nch sn<=1048576,sn.length<1048576,op.length<1048576,0<=nx],[.agg (cellsOf (.nm .reply) ((aM (State.mk v nx kp qt se op sn) c).2))],some ([.box 29 ([.int ((((aM (State.mk v nx kp qt se op sn) c).1).version)),.int ((((aM (State.mk v nx kp qt se op sn) c).1).next)),.int ((((aM (State.mk v nx kp qt se op sn) c).1).keep)),.int ((((aM (State.mk v nx kp qt se op sn) c).1).quota)),.own 1,.own 2,.own 3]),.row 40 (.nm .sess) ((((aM (State.mk v nx kp qt se op sn) c).1).sess)),.row 48 (.nm .opn) ((((aM (State.mk v nx kp qt se op sn) c).1).opens)),.row 59 (.nm .snap) ((((aM (State.mk v nx kp qt se op sn) c).1).snaps)),.box 42 (cellsOf (.nm .command) ((c)))]),false⟩) (bV 54 (bO (aj (kC (bL 0 0)) (aj (kC (bL 4 0)) aR)) (ay (bI 29 (ai cI (ai cI (ai cI (ai cI (ai (aY 1) (ai (aY 2) (ai (aY 3) bG)))))))) (ay (aZ 40 (.nm .sess)) (ay (aZ 48 (.nm .opn)) (ay (aZ 59 (.nm .snap)) (ay (bI 42 (px (.nm .command) bG)) aQ))))) fun (_,_,_) ((v,nx,kp,qt,_,_,_,_),se,op,sn,(c,_),_)=>⟨[op.length<1048576],[.agg (cellsOf (.nm .reply) ((aS (State.mk v nx kp qt se op sn) c).2))],some ([.box 29 ([.int ((((aS (State.mk v nx kp qt se op sn) c).1).version)),.int ((((aS (State.mk v nx kp qt se op sn) c).1).next)),.int ((((aS (State.mk v nx kp qt se op sn) c).1).keep)),.int ((((aS (State.mk v nx kp qt se op sn) c).1).quota)),.own 1,.own 2,.own 3]),.row 40 (.nm .sess) ((((aS (State.mk v nx kp qt se op sn) c).1).sess)),.row 48 (.nm .opn) ((((aS (State.mk v nx kp qt se op sn) c).1).opens)),.row 59 (.nm .snap) ((((aS (State.mk v nx kp qt se op sn) c).1).snaps)),.box 42 (cellsOf (.nm .command) ((c)))]),false⟩) h_)))))))
theorem eJ:aP Try.prog (aq aI) ll:=(aC (aB (ae (aw cm) (ae (aw aH) (ae (aw aH) al))) (ag (aF (ab ax (ab ax (ab ax (ab ax (ab aA (ab aA (ab aA aE)))))))) (ag az (ag az (ag az (ag (aF (ab qH aE)) (ag (aF (cO aE)) ao)))))) fun (_,_,_,_) ((v,nx,kp,qt,_,_,_,_),se,op,sn,(b,_),(c,_),_) _=>pY v nx kp qt se op sn b c ) (aC (aB (ae (aw cm) (ae (aw aH) (ae (aw aH) al))) (ag (aF (cO aE)) (ag (aF (ab ax (ab ax (ab ax (ab ax (ab aA (ab aA (ab aA aE)))))))) (ag az (ag az (ag az ao))))) fun (_,_,_,_) ((c,_),(v,nx,kp,qt,_,_,_,_),se,op,sn,_) _=>sk c v nx kp qt se op sn ) (aC (aB (ae (aw cm) (ae (aw aH) (ae (aw aH) al))) (ag (aF (ab ax (ab ax (ab ax (ab ax (ab aA (ab aA (ab aA aE)))))))) (ag az (ag az (ag az (ag (aF (cO aE)) ao))))) fun (_,_,_,_) ((v,nx,kp,qt,_,_,_,_),se,op,sn,(c,_),_) _=>qZ v nx kp qt se op sn c ) (aC (aB (ae (aw cm) (ae (aw aH) (ae (aw aH) al))) (ag (aF (ab ax (ab ax (ab ax (ab ax (ab aA (ab aA (ab aA aE)))))))) (ag az (ag az (ag az (ag (aF (cO aE)) ao))))) fun (_,_,_,_) ((v,nx,kp,qt,_,_,_,_),se,op,sn,(c,_),_) _=>nQ v nx kp qt se op sn c ) (aC (aB (ae (aw aH) (ae (aw aH) al)) (ag (aF (ab ax (ab ax (ab ax (ab ax (ab aA (ab aA (ab aA aE)))))))) (ag az (ag az (ag az (ag (aF (cO aE)) ao))))) fun (_,_,_) ((v,nx,kp,qt,_,_,_,_),se,op,sn,(c,_),_) hp=>DB v nx kp qt se op sn c (eU hp)) (aC (aB (ae (aw aH) (ae (aw aH) al)) (ag (aF (ab ax (ab ax (ab ax (ab ax (ab aA (ab aA (ab aA aE)))))))) (ag az (ag az (ag az (ag (aF (cO aE)) ao))))) fun (_,_,_) ((v,nx,kp,qt,_,_,_,_),se,op,sn,(c,_),_) hp=>DO v nx kp qt se op sn c (eU hp) (eU (mV hp)) (eU (mV (mV hp))) (eU (mV (mV (mV hp))))) (aC (aB (ae (aw aH) (ae (aw aH) al)) (ag (aF (ab ax (ab ax (ab ax (ab ax (ab aA (ab aA (ab aA aE)))))))) (ag az (ag az (ag az (ag (aF (cO aE)) ao))))) fun (_,_,_) ((v,nx,kp,qt,_,_,_,_),se,op,sn,(c,_),_) hp=>CW v nx kp qt se op sn c (eU hp)) dL)))))))
end Go.Proofs.Ytdggohppeeaipaa
namespace Go.Proofs.Ytdggohppeeaipaa
open Go.RowKit
theorem CX (b:Bool) (v:Int) (nx:Int) (kp:Int) (qt:Int) (se:List Sess) (op:List Opn) (sn:List Snap) (c:Command) (r0:Int) (r1:Int) (r2:Int) (r3:Int) (r4:List Sess) (r5:List Opn) (r6:List Snap) (r7:Command) (r8:Bool):sm aI ll [] Try.f52 [.c (.bool (.atom (b))),.c (.ptr 0 0),.c (.ptr 1 0)] [.box 84 ([.fn 49 [] [(1,0),(5,0)]]),.box 29 ([.int (v),.int (nx),.int (kp),.int (qt),.own 2,.own 3,.own 4]),.row 40 (.nm .sess) (se),.row 48 (.nm .opn) (op),.row 59 (.nm .snap) (sn),.box 42 (cellsOf (.nm .command) (c))] [.c (.fn 50 [] [(1,0),(5,0),(7,0)])] [.box 84 ([.fn 49 [] [(1,0),(5,0)]]),.box 29 ([.int (r0),.int (r1),.int (r2),.int (r3),.own 2,.own 3,.own 4]),.row 40 (.nm .sess) (r4),.row 48 (.nm .opn) (r5),.row 59 (.nm .snap) (r6),.box 42 (cellsOf (.nm .command) (r7)),.box 4 ([.bool (.atom (r8))]),.box 82 ([.fn 53 [] [(1,0),(6,0)]])]=(v=r0/\nx=r1/\kp=r2/\qt=r3/\se=r4/\op=r5/\sn=r6/\c.kind=r7.kind/\c.client=r7.client/\c.seq=r7.seq/\c.set=r7.set/\c.id=r7.id/\c.n=r7.n/\c.chunks=r7.chunks/\c.text=r7.text/\b=r8):=by kernel_rfl
theorem En (b:Bool) (v:Int) (nx:Int) (kp:Int) (qt:Int) (se:List Sess) (op:List Opn) (sn:List Snap) (c:Command):Sat Try.prog (aq aI) 52 [.c (.bool (.atom (b))),.c (.ptr 0 0),.c (.ptr 1 0)] [.box 84 ([.fn 49 [] [(1,0),(5,0)]]),.box 29 ([.int (v),.int (nx),.int (kp),.int (qt),.own 2,.own 3,.own 4]),.row 40 (.nm .sess) (se),.row 48 (.nm .opn) (op),.row 59 (.nm .snap) (sn),.box 42 (cellsOf (.nm .command) (c))] ⟨[],[.c (.fn 50 [] [(1,0),(5,0),(7,0)])],some ([.box 84 ([.fn 49 [] [(1,0),(5,0)]]),.box 29 ([.int ((v)),.int ((nx)),.int ((kp)),.int ((qt)),.own 2,.own 3,.own 4]),.row 40 (.nm .sess) ((se)),.row 48 (.nm .opn) ((op)),.row 59 (.nm .snap) ((sn)),.box 42 (cellsOf (.nm .command) ((c))),.box 4 ([.bool (.atom ((b)))]),.box 82 ([.fn 53 [] [(1,0),(6,0)]])]),true⟩:=by
 refine eC eJ [] Try.func52 (by decide) (by kernel_rfl) ?_
 rw [CX]
 (repeat' (first | with_reducible refine And.intro ?_ ?_ | with_reducible refine and_imp.2 ?_ | intro))
 all_goals (first | (first | with_reducible rfl | with_reducible assumption | omega | (refine av ?_ ?_ <;> omega)) | exact rfl)
theorem sy (v:Int) (nx:Int) (kp:Int) (qt:Int) (se:List Sess) (op:List Opn) (sn:List Snap) (c:Command) (r0:Reply) (r1:Int) (r2:Int) (r3:Int) (r4:Int) (r5:List Sess) (r6:List Opn) (r7:List Snap) (r8:Command):nd aI ll [] Try.f50 [.c (.ptr 0 0),.c (.ptr 4 0),.c (.ptr 5 0)] [.box 29 ([.int (v),.int (nx),.int (kp),.int (qt),.own 1,.own 2,.own 3]),.row 40 (.nm .sess) (se),.row 48 (.nm .opn) (op),.row 59 (.nm .snap) (sn),.box 42 (cellsOf (.nm .command) (c)),.box 82 ([.fn 63 [] [(0,0)]])] [.agg (cellsOf (.nm .reply) r0)] [.box 29 ([.int (r1),.int (r2),.int (r3),.int (r4),.own 1,.own 2,.own 3]),.row 40 (.nm .sess) (r5),.row 48 (.nm .opn) (r6),.row 59 (.nm .snap) (r7),.box 42 (cellsOf (.nm .command) (r8)),.box 82 ([.fn 63 [] [(0,0)]])]=((fun (q2:Int)=>(fun (q1:Prop)=>(fun (q0:State × Reply)=>I64 q2->(q2<(0:Int)->I64 (15:Int)->I64 (0:Int)->(15:Int)=r0.code/\(0:Int)=r0.n/\v=r1/\nx=r2/\kp=r3/\qt=r4/\se=r5/\op=r6/\sn=r7/\q1)/\((0:Int)<=q2->((0:Int)<=q2/\q2<(↑sn.length:Int))/\nch sn<=(1048576:Nat)/\(I64 q0.snd.code->I64 q0.snd.n->q0.snd.code=r0.code/\q0.snd.n=r0.n/\q0.fst.version=r1/\q0.fst.next=r2/\q0.fst.keep=r3/\q0.fst.quota=r4/\q0.fst.sess=r5/\q0.fst.opens=r6/\q0.fst.snaps=r7/\q1))) (aJ (State.mk v nx kp qt se op sn) q2.toNat)) (c.kind=r8.kind/\c.client=r8.client/\c.seq=r8.seq/\c.set=r8.set/\c.id=r8.id/\c.n=r8.n/\c.chunks=r8.chunks/\c.text=r8.text)) (ah Snap.id c.id sn)):=by kernel_rfl
theorem sI (v:Int) (nx:Int) (kp:Int) (qt:Int) (se:List Sess) (op:List Opn) (sn:List Snap) (c:Command) (h0:nch sn<=1048576):Sat Try.prog (aq aI) 50 [.c (.ptr 0 0),.c (.ptr 4 0),.c (.ptr 5 0)] [.box 29 ([.int (v),.int (nx),.int (kp),.int (qt),.own 1,.own 2,.own 3]),.row 40 (.nm .sess) (se),.row 48 (.nm .opn) (op),.row 59 (.nm .snap) (sn),.box 42 (cellsOf (.nm .command) (c)),.box 82 ([.fn 63 [] [(0,0)]])] ⟨[nch sn<=1048576],[.agg (cellsOf (.nm .reply) ((au aJ c (State.mk v nx kp qt se op sn)).2))],some ([.box 29 ([.int ((((au aJ c (State.mk v nx kp qt se op sn)).1).version)),.int ((((au aJ c (State.mk v nx kp qt se op sn)).1).next)),.int ((((au aJ c (State.mk v nx kp qt se op sn)).1).keep)),.int ((((au aJ c (State.mk v nx kp qt se op sn)).1).quota)),.own 1,.own 2,.own 3]),.row 40 (.nm .sess) ((((au aJ c (State.mk v nx kp qt se op sn)).1).sess)),.row 48 (.nm .opn) ((((au aJ c (State.mk v nx kp qt se op sn)).1).opens)),.row 59 (.nm .snap) ((((au aJ c (State.mk v nx kp qt se op sn)).1).snaps)),.box 42 (cellsOf (.nm .command) ((c))),.box 82 ([.fn 63 [] [(0,0)]])]),false⟩:=by
 refine dv eJ [] Try.func50 (by decide) (by kernel_rfl) ?_
 rw [sy]
 (repeat' (first | with_reducible refine And.intro ?_ ?_ | with_reducible refine and_imp.2 ?_ | intro))
 all_goals (first | (first | with_reducible rfl | with_reducible assumption | omega | (refine av ?_ ?_ <;> omega)) | exact bB (by with_reducible assumption) | (rw [Gg] <;> first | rfl | omega) | (rw [Gi] <;> first | rfl | omega))
theorem vP (v:Int) (nx:Int) (kp:Int) (qt:Int) (se:List Sess) (op:List Opn) (sn:List Snap) (c:Command) (r0:Reply) (r1:Int) (r2:Int) (r3:Int) (r4:Int) (r5:List Sess) (r6:List Opn) (r7:List Snap) (r8:Command):nd aI ll [] Try.f50 [.c (.ptr 0 0),.c (.ptr 4 0),.c (.ptr 5 0)] [.box 29 ([.int (v),.int (nx),.int (kp),.int (qt),.own 1,.own 2,.own 3]),.row 40 (.nm .sess) (se),.row 48 (.nm .opn) (op),.row 59 (.nm .snap) (sn),.box 42 (cellsOf (.nm .command) (c)),.box 82 ([.fn 65 [] [(0,0)]])] [.agg (cellsOf (.nm .reply) r0)] [.box 29 ([.int (r1),.int (r2),.int (r3),.int (r4),.own 1,.own 2,.own 3]),.row 40 (.nm .sess) (r5),.row 48 (.nm .opn) (r6),.row 59 (.nm .snap) (r7),.box 42 (cellsOf (.nm .command) (r8)),.box 82 ([.fn 65 [] [(0,0)]])]=((fun (q2:Int)=>(fun (q1:Prop)=>(fun (q0:State × Reply)=>I64 q2->(q2<(0:Int)->I64 (15:Int)->I64 (0:Int)->(15:Int)=r0.code/\(0:Int)=r0.n/\v=r1/\nx=r2/\kp=r3/\qt=r4/\se=r5/\op=r6/\sn=r7/\q1)/\((0:Int)<=q2->((0:Int)<=q2/\q2<(↑sn.length:Int))/\(I64 q0.snd.code->I64 q0.snd.n->q0.snd.code=r0.code/\q0.snd.n=r0.n/\q0.fst.version=r1/\q0.fst.next=r2/\q0.fst.keep=r3/\q0.fst.quota=r4/\q0.fst.sess=r5/\q0.fst.opens=r6/\q0.fst.snaps=r7/\q1))) (bb (State.mk v nx kp qt se op sn) q2.toNat)) (c.kind=r8.kind/\c.client=r8.client/\c.seq=r8.seq/\c.set=r8.set/\c.id=r8.id/\c.n=r8.n/\c.chunks=r8.chunks/\c.text=r8.text)) (ah Snap.id c.id sn)):=by kernel_rfl
theorem uK (v:Int) (nx:Int) (kp:Int) (qt:Int) (se:List Sess) (op:List Opn) (sn:List Snap) (c:Command):Sat Try.prog (aq aI) 50 [.c (.ptr 0 0),.c (.ptr 4 0),.c (.ptr 5 0)] [.box 29 ([.int (v),.int (nx),.int (kp),.int (qt),.own 1,.own 2,.own 3]),.row 40 (.nm .sess) (se),.row 48 (.nm .opn) (op),.row 59 (.nm .snap) (sn),.box 42 (cellsOf (.nm .command) (c)),.box 82 ([.fn 65 [] [(0,0)]])] ⟨[],[.agg (cellsOf (.nm .reply) ((au bb c (State.mk v nx kp qt se op sn)).2))],some ([.box 29 ([.int ((((au bb c (State.mk v nx kp qt se op sn)).1).version)),.int ((((au bb c (State.mk v nx kp qt se op sn)).1).next)),.int ((((au bb c (State.mk v nx kp qt se op sn)).1).keep)),.int ((((au bb c (State.mk v nx kp qt se op sn)).1).quota)),.own 1,.own 2,.own 3]),.row 40 (.nm .sess) ((((au bb c (State.mk v nx kp qt se op sn)).1).sess)),.row 48 (.nm .opn) ((((au bb c (State.mk v nx kp qt se op sn)).1).opens)),.row 59 (.nm .snap) ((((au bb c (State.mk v nx kp qt se op sn)).1).snaps)),.box 42 (cellsOf (.nm .command) ((c))),.box 82 ([.fn 65 [] [(0,0)]])]),false⟩:=by
 refine dv eJ [] Try.func50 (by decide) (by kernel_rfl) ?_
 rw [vP]
 (repeat' (first | with_reducible refine And.intro ?_ ?_ | with_reducible refine and_imp.2 ?_ | intro))
 all_goals (first | (first | with_reducible rfl | with_reducible assumption | omega | (refine av ?_ ?_ <;> omega)) | exact bB (by with_reducible assumption) | (rw [Gg] <;> first | rfl | omega) | (rw [Gi] <;> first | rfl | omega))
theorem yL (v:Int) (nx:Int) (kp:Int) (qt:Int) (se:List Sess) (op:List Opn) (sn:List Snap) (c:Command) (r0:Reply) (r1:Int) (r2:Int) (r3:Int) (r4:Int) (r5:List Sess) (r6:List Opn) (r7:List Snap) (r8:Command):nd aI ll [] Try.f50 [.c (.ptr 0 0),.c (.ptr 4 0),.c (.ptr 5 0)] [.box 29 ([.int (v),.int (nx),.int (kp),.int (qt),.own 1,.own 2,.own 3]),.row 40 (.nm .sess) (se),.row 48 (.nm .opn) (op),.row 59 (.nm .snap) (sn),.box 42 (cellsOf (.nm .command) (c)),.box 82 ([.fn 66 [] [(4,0),(0,0)]])] [.agg (cellsOf (.nm .reply) r0)] [.box 29 ([.int (r1),.int (r2),.int (r3),.int (r4),.own 1,.own 2,.own 3]),.row 40 (.nm .sess) (r5),.row 48 (.nm .opn) (r6),.row 59 (.nm .snap) (r7),.box 42 (cellsOf (.nm .command) (r8)),.box 82 ([.fn 66 [] [(4,0),(0,0)]])]=((fun (q2:Int)=>(fun (q1:Prop)=>(fun (q0:State × Reply)=>I64 q2->(q2<(0:Int)->I64 (15:Int)->I64 (0:Int)->(15:Int)=r0.code/\(0:Int)=r0.n/\v=r1/\nx=r2/\kp=r3/\qt=r4/\se=r5/\op=r6/\sn=r7/\q1)/\((0:Int)<=q2->((0:Int)<=q2/\q2<(↑sn.length:Int))/\(I64 q0.snd.code->I64 q0.snd.n->q0.snd.code=r0.code/\q0.snd.n=r0.n/\q0.fst.version=r1/\q0.fst.next=r2/\q0.fst.keep=r3/\q0.fst.quota=r4/\q0.fst.sess=r5/\q0.fst.opens=r6/\q0.fst.snaps=r7/\q1))) (cw c (State.mk v nx kp qt se op sn) q2.toNat)) (c.kind=r8.kind/\c.client=r8.client/\c.seq=r8.seq/\c.set=r8.set/\c.id=r8.id/\c.n=r8.n/\c.chunks=r8.chunks/\c.text=r8.text)) (ah Snap.id c.id sn)):=by kernel_rfl
theorem wT (v:Int) (nx:Int) (kp:Int) (qt:Int) (se:List Sess) (op:List Opn) (sn:List Snap) (c:Command):Sat Try.prog (aq aI) 50 [.c (.ptr 0 0),.c (.ptr 4 0),.c (.ptr 5 0)] [.box 29 ([.int (v),.int (nx),.int (kp),.int (qt),.own 1,.own 2,.own 3]),.row 40 (.nm .sess) (se),.row 48 (.nm .opn) (op),.row 59 (.nm .snap) (sn),.box 42 (cellsOf (.nm .command) (c)),.box 82 ([.fn 66 [] [(4,0),(0,0)]])] ⟨[],[.agg (cellsOf (.nm .reply) ((au (cw c) c (State.mk v nx kp qt se op sn)).2))],some ([.box 29 ([.int ((((au (cw c) c (State.mk v nx kp qt se op sn)).1).version)),.int ((((au (cw c) c (State.mk v nx kp qt se op sn)).1).next)),.int ((((au (cw c) c (State.mk v nx kp qt se op sn)).1).keep)),.int ((((au (cw c) c (State.mk v nx kp qt se op sn)).1).quota)),.own 1,.own 2,.own 3]),.row 40 (.nm .sess) ((((au (cw c) c (State.mk v nx kp qt se op sn)).1).sess)),.row 48 (.nm .opn) ((((au (cw c) c (State.mk v nx kp qt se op sn)).1).opens)),.row 59 (.nm .snap) ((((au (cw c) c (State.mk v nx kp qt se op sn)).1).snaps)),.box 42 (cellsOf (.nm .command) ((c))),.box 82 ([.fn 66 [] [(4,0),(0,0)]])]),false⟩:=by
 refine dv eJ [] Try.func50 (by decide) (by kernel_rfl) ?_
 rw [yL]
 (repeat' (first | with_reducible refine And.intro ?_ ?_ | with_reducible refine and_imp.2 ?_ | intro))
 all_goals (first | (first | with_reducible rfl | with_reducible assumption | omega | (refine av ?_ ?_ <;> omega)) | exact bB (by with_reducible assumption) | (rw [Gg] <;> first | rfl | omega) | (rw [Gi] <;> first | rfl | omega))
theorem vE (v:Int) (nx:Int) (kp:Int) (qt:Int) (se:List Sess) (op:List Opn) (sn:List Snap) (c:Command) (b:Bool) (r0:Reply) (r1:Int) (r2:Int) (r3:Int) (r4:Int) (r5:List Sess) (r6:List Opn) (r7:List Snap) (r8:Command) (r9:Bool):nd aI ll [] Try.f50 [.c (.ptr 0 0),.c (.ptr 4 0),.c (.ptr 5 0)] [.box 29 ([.int (v),.int (nx),.int (kp),.int (qt),.own 1,.own 2,.own 3]),.row 40 (.nm .sess) (se),.row 48 (.nm .opn) (op),.row 59 (.nm .snap) (sn),.box 42 (cellsOf (.nm .command) (c)),.box 82 ([.fn 53 [] [(0,0),(6,0)]]),.box 4 ([.bool (.atom (b))])] [.agg (cellsOf (.nm .reply) r0)] [.box 29 ([.int (r1),.int (r2),.int (r3),.int (r4),.own 1,.own 2,.own 3]),.row 40 (.nm .sess) (r5),.row 48 (.nm .opn) (r6),.row 59 (.nm .snap) (r7),.box 42 (cellsOf (.nm .command) (r8)),.box 82 ([.fn 53 [] [(0,0),(6,0)]]),.box 4 ([.bool (.atom (r9))])]=((fun (q2:Int)=>(fun (q1:Prop)=>(fun (q0:State × Reply)=>I64 q2->(q2<(0:Int)->I64 (15:Int)->I64 (0:Int)->(15:Int)=r0.code/\(0:Int)=r0.n/\v=r1/\nx=r2/\kp=r3/\qt=r4/\se=r5/\op=r6/\sn=r7/\q1)/\((0:Int)<=q2->((0:Int)<=q2/\q2<(↑sn.length:Int))/\(I64 q0.snd.code->I64 q0.snd.n->q0.snd.code=r0.code/\q0.snd.n=r0.n/\q0.fst.version=r1/\q0.fst.next=r2/\q0.fst.keep=r3/\q0.fst.quota=r4/\q0.fst.sess=r5/\q0.fst.opens=r6/\q0.fst.snaps=r7/\q1))) (bh b (State.mk v nx kp qt se op sn) q2.toNat)) (c.kind=r8.kind/\c.client=r8.client/\c.seq=r8.seq/\c.set=r8.set/\c.id=r8.id/\c.n=r8.n/\c.chunks=r8.chunks/\c.text=r8.text/\b=r9)) (ah Snap.id c.id sn)):=by kernel_rfl
theorem vm (v:Int) (nx:Int) (kp:Int) (qt:Int) (se:List Sess) (op:List Opn) (sn:List Snap) (c:Command) (b:Bool):Sat Try.prog (aq aI) 50 [.c (.ptr 0 0),.c (.ptr 4 0),.c (.ptr 5 0)] [.box 29 ([.int (v),.int (nx),.int (kp),.int (qt),.own 1,.own 2,.own 3]),.row 40 (.nm .sess) (se),.row 48 (.nm .opn) (op),.row 59 (.nm .snap) (sn),.box 42 (cellsOf (.nm .command) (c)),.box 82 ([.fn 53 [] [(0,0),(6,0)]]),.box 4 ([.bool (.atom (b))])] ⟨[],[.agg (cellsOf (.nm .reply) ((au (bh b) c (State.mk v nx kp qt se op sn)).2))],some ([.box 29 ([.int ((((au (bh b) c (State.mk v nx kp qt se op sn)).1).version)),.int ((((au (bh b) c (State.mk v nx kp qt se op sn)).1).next)),.int ((((au (bh b) c (State.mk v nx kp qt se op sn)).1).keep)),.int ((((au (bh b) c (State.mk v nx kp qt se op sn)).1).quota)),.own 1,.own 2,.own 3]),.row 40 (.nm .sess) ((((au (bh b) c (State.mk v nx kp qt se op sn)).1).sess)),.row 48 (.nm .opn) ((((au (bh b) c (State.mk v nx kp qt se op sn)).1).opens)),.row 59 (.nm .snap) ((((au (bh b) c (State.mk v nx kp qt se op sn)).1).snaps)),.box 42 (cellsOf (.nm .command) ((c))),.box 82 ([.fn 53 [] [(0,0),(6,0)]]),.box 4 ([.bool (.atom ((b)))])]),false⟩:=by
 refine dv eJ [] Try.func50 (by decide) (by kernel_rfl) ?_
 rw [vE]
 (repeat' (first | with_reducible refine And.intro ?_ ?_ | with_reducible refine and_imp.2 ?_ | intro))
 all_goals (first | (first | with_reducible rfl | with_reducible assumption | omega | (refine av ?_ ?_ <;> omega)) | exact bB (by with_reducible assumption) | (rw [Gg] <;> first | rfl | omega) | (rw [Gi] <;> first | rfl | omega))
def xh:cu:=(bV 50 (bO (aj (kC (bL 0 0)) (aj (kC (bL 4 0)) (aj (kC (bL 5 0)) aR))) (ay (bI 29 (ai cI (ai cI (ai cI (ai cI (ai (aY 1) (ai (aY 2) (ai (aY 3) bG)))))))) (ay (aZ 40 (.nm .sess)) (ay (aZ 48 (.nm .opn)) (ay (aZ 59 (.nm .snap)) (ay (bI 42 (px (.nm .command) bG)) (ay (bI 82 (ai (mK 53 [] [(0,0),(6,0)]) bG)) (ay (bI 4 (ai cB bG)) aQ))))))) fun (_,_,_,_) ((v,nx,kp,qt,_,_,_,_),se,op,sn,(c,_),(_,_),(b,_),_)=>⟨[],[.agg (cellsOf (.nm .reply) ((au (bh b) c (State.mk v nx kp qt se op sn)).2))],some ([.box 29 ([.int ((((au (bh b) c (State.mk v nx kp qt se op sn)).1).version)),.int ((((au (bh b) c (State.mk v nx kp qt se op sn)).1).next)),.int ((((au (bh b) c (State.mk v nx kp qt se op sn)).1).keep)),.int ((((au (bh b) c (State.mk v nx kp qt se op sn)).1).quota)),.own 1,.own 2,.own 3]),.row 40 (.nm .sess) ((((au (bh b) c (State.mk v nx kp qt se op sn)).1).sess)),.row 48 (.nm .opn) ((((au (bh b) c (State.mk v nx kp qt se op sn)).1).opens)),.row 59 (.nm .snap) ((((au (bh b) c (State.mk v nx kp qt se op sn)).1).snaps)),.box 42 (cellsOf (.nm .command) ((c))),.box 82 ([.fn 53 [] [(0,0),(6,0)]]),.box 4 ([.bool (.atom ((b)))])]),false⟩) (bV 50 (bO (aj (kC (bL 0 0)) (aj (kC (bL 4 0)) (aj (kC (bL 5 0)) aR))) (ay (bI 29 (ai cI (ai cI (ai cI (ai cI (ai (aY 1) (ai (aY 2) (ai (aY 3) bG)))))))) (ay (aZ 40 (.nm .sess)) (ay (aZ 48 (.nm .opn)) (ay (aZ 59 (.nm .snap)) (ay (bI 42 (px (.nm .command) bG)) (ay (bI 82 (ai (mK 66 [] [(4,0),(0,0)]) bG)) aQ)))))) fun (_,_,_,_) ((v,nx,kp,qt,_,_,_,_),se,op,sn,(c,_),(_,_),_)=>⟨[],[.agg (cellsOf (.nm .reply) ((au (cw c) c (State.mk v nx kp qt se op sn)).2))],some ([.box 29 ([.int ((((au (cw c) c (State.mk v nx kp qt se op sn)).1).version)),.int ((((au (cw c) c (State.mk v nx kp qt se op sn)).1).next)),.int ((((au (cw c) c (State.mk v nx kp qt se op sn)).1).keep)),.int ((((au (cw c) c (State.mk v nx kp qt se op sn)).1).quota)),.own 1,.own 2,.own 3]),.row 40 (.nm .sess) ((((au (cw c) c (State.mk v nx kp qt se op sn)).1).sess)),.row 48 (.nm .opn) ((((au (cw c) c (State.mk v nx kp qt se op sn)).1).opens)),.row 59 (.nm .snap) ((((au (cw c) c (State.mk v nx kp qt se op sn)).1).snaps)),.box 42 (cellsOf (.nm .command) ((c))),.box 82 ([.fn 66 [] [(4,0),(0,0)]])]),false⟩) (bV 50 (bO (aj (kC (bL 0 0)) (aj (kC (bL 4 0)) (aj (kC (bL 5 0)) aR))) (ay (bI 29 (ai cI (ai cI (ai cI (ai cI (ai (aY 1) (ai (aY 2) (ai (aY 3) bG)))))))) (ay (aZ 40 (.nm .sess)) (ay (aZ 48 (.nm .opn)) (ay (aZ 59 (.nm .snap)) (ay (bI 42 (px (.nm .command) bG)) (ay (bI 82 (ai (mK 65 [] [(0,0)]) bG)) aQ)))))) fun (_,_,_,_) ((v,nx,kp,qt,_,_,_,_),se,op,sn,(c,_),(_,_),_)=>⟨[],[.agg (cellsOf (.nm .reply) ((au bb c (State.mk v nx kp qt se op sn)).2))],some ([.box 29 ([.int ((((au bb c (State.mk v nx kp qt se op sn)).1).version)),.int ((((au bb c (State.mk v nx kp qt se op sn)).1).next)),.int ((((au bb c (State.mk v nx kp qt se op sn)).1).keep)),.int ((((au bb c (State.mk v nx kp qt se op sn)).1).quota)),.own 1,.own 2,.own 3]),.row 40 (.nm .sess) ((((au bb c (State.mk v nx kp qt se op sn)).1).sess)),.row 48 (.nm .opn) ((((au bb c (State.mk v nx kp qt se op sn)).1).opens)),.row 59 (.nm .snap) ((((au bb c (State.mk v nx kp qt se op sn)).1).snaps)),.box 42 (cellsOf (.nm .command) ((c))),.box 82 ([.fn 65 [] [(0,0)]])]),false⟩) (bV 50 (bO (aj (kC (bL 0 0)) (aj (kC (bL 4 0)) (aj (kC (bL 5 0)) aR))) (ay (bI 29 (ai cI (ai cI (ai cI (ai cI (ai (aY 1) (ai (aY 2) (ai (aY 3) bG)))))))) (ay (aZ 40 (.nm .sess)) (ay (aZ 48 (.nm .opn)) (ay (aZ 59 (.nm .snap)) (ay (bI 42 (px (.nm .command) bG)) (ay (bI 82 (ai (mK 63 [] [(0,0)]) bG)) aQ)))))) fun (_,_,_,_) ((v,nx,kp,qt,_,_,_,_),se,op,sn,(c,_),(_,_),_)=>⟨[nch sn<=1048576],[.agg (cellsOf (.nm .reply) ((au aJ c (State.mk v nx kp qt se op sn)).2))],some ([.box 29 ([.int ((((au aJ c (State.mk v nx kp qt se op sn)).1).version)),.int ((((au aJ c (State.mk v nx kp qt se op sn)).1).next)),.int ((((au aJ c (State.mk v nx kp qt se op sn)).1).keep)),.int ((((au aJ c (State.mk v nx kp qt se op sn)).1).quota)),.own 1,.own 2,.own 3]),.row 40 (.nm .sess) ((((au aJ c (State.mk v nx kp qt se op sn)).1).sess)),.row 48 (.nm .opn) ((((au aJ c (State.mk v nx kp qt se op sn)).1).opens)),.row 59 (.nm .snap) ((((au aJ c (State.mk v nx kp qt se op sn)).1).snaps)),.box 42 (cellsOf (.nm .command) ((c))),.box 82 ([.fn 63 [] [(0,0)]])]),false⟩) (bV 52 (bO (aj (kC cB) (aj (kC (bL 0 0)) (aj (kC (bL 1 0)) aR))) (ay (bI 84 (ai (mK 49 [] [(1,0),(5,0)]) bG)) (ay (bI 29 (ai cI (ai cI (ai cI (ai cI (ai (aY 2) (ai (aY 3) (ai (aY 4) bG)))))))) (ay (aZ 40 (.nm .sess)) (ay (aZ 48 (.nm .opn)) (ay (aZ 59 (.nm .snap)) (ay (bI 42 (px (.nm .command) bG)) aQ)))))) fun (b,_,_,_) ((_,_),(v,nx,kp,qt,_,_,_,_),se,op,sn,(c,_),_)=>⟨[],[.c (.fn 50 [] [(1,0),(5,0),(7,0)])],some ([.box 84 ([.fn 49 [] [(1,0),(5,0)]]),.box 29 ([.int ((v)),.int ((nx)),.int ((kp)),.int ((qt)),.own 2,.own 3,.own 4]),.row 40 (.nm .sess) ((se)),.row 48 (.nm .opn) ((op)),.row 59 (.nm .snap) ((sn)),.box 42 (cellsOf (.nm .command) ((c))),.box 4 ([.bool (.atom ((b)))]),.box 82 ([.fn 53 [] [(1,0),(6,0)]])]),true⟩) ll)))))
theorem re:aP Try.prog (aq aI) xh:=(aC (aB (ae (aw aH) (ae (aw aH) (ae (aw aH) al))) (ag (aF (ab ax (ab ax (ab ax (ab ax (ab aA (ab aA (ab aA aE)))))))) (ag az (ag az (ag az (ag (aF (cO aE)) (ag (aF (ab cm aE)) (ag (aF (ab qH aE)) ao))))))) fun (_,_,_,_) ((v,nx,kp,qt,_,_,_,_),se,op,sn,(c,_),(_,_),(b,_),_) _=>vm v nx kp qt se op sn c b ) (aC (aB (ae (aw aH) (ae (aw aH) (ae (aw aH) al))) (ag (aF (ab ax (ab ax (ab ax (ab ax (ab aA (ab aA (ab aA aE)))))))) (ag az (ag az (ag az (ag (aF (cO aE)) (ag (aF (ab cm aE)) ao)))))) fun (_,_,_,_) ((v,nx,kp,qt,_,_,_,_),se,op,sn,(c,_),(_,_),_) _=>wT v nx kp qt se op sn c ) (aC (aB (ae (aw aH) (ae (aw aH) (ae (aw aH) al))) (ag (aF (ab ax (ab ax (ab ax (ab ax (ab aA (ab aA (ab aA aE)))))))) (ag az (ag az (ag az (ag (aF (cO aE)) (ag (aF (ab cm aE)) ao)))))) fun (_,_,_,_) ((v,nx,kp,qt,_,_,_,_),se,op,sn,(c,_),(_,_),_) _=>uK v nx kp qt se op sn c ) (aC (aB (ae (aw aH) (ae (aw aH) (ae (aw aH) al))) (ag (aF (ab ax (ab ax (ab ax (ab ax (ab aA (ab aA (ab aA aE)))))))) (ag az (ag az (ag az (ag (aF (cO aE)) (ag (aF (ab cm aE)) ao)))))) fun (_,_,_,_) ((v,nx,kp,qt,_,_,_,_),se,op,sn,(c,_),(_,_),_) hp=>sI v nx kp qt se op sn c (eU hp)) (aC (aB (ae (aw qH) (ae (aw aH) (ae (aw aH) al))) (ag (aF (ab cm aE)) (ag (aF (ab ax (ab ax (ab ax (ab ax (ab aA (ab aA (ab aA aE)))))))) (ag az (ag az (ag az (ag (aF (cO aE)) ao)))))) fun (b,_,_,_) ((_,_),(v,nx,kp,qt,_,_,_,_),se,op,sn,(c,_),_) _=>En b v nx kp qt se op sn c ) eJ)))))
end Go.Proofs.Ytdggohppeeaipaa
namespace Go.Proofs.Ytdggohppeeaipaa
open Go.RowKit
def bF (s:State) (c:Command):Int:=if mayF s s.version=0 then bD c s.version else 1
def vI (s:State) (c:Command):State × Reply:=
 if c.kind=11 then au (cw c) c s
 else if c.kind=10 then au (bh false) c s
 else if c.kind=9 then au (bh true) c s
 else if c.kind=7 then au bb c s
 else if c.kind=5 then au aJ c s
 else if c.kind=12 then cn c s
 else if c.kind=6 then cQ c s
 else if c.kind=4 then aU s c
 else if c.kind=3 then aM s c
 else if c.kind=2 then aS s c
 else (s,⟨1,0⟩)
def bw (s:State) (c:Command):State × Reply:=if ¬ bF s c=0 then (s,⟨bF s c,0⟩) else vI s c
theorem oy {α:Type} {key:α->Int} {most:Int}:∀ {l:List α} {a:Int},ak key most a l=true->l=[]\/a+(l.length:Int)<=most
 | [],_,_=>.inl rfl
 | x :: l,a,h=>by
  simp only [ak,Bool.and_eq_true] at h
  have h1:=mJ h.1
  rcases oy h.2 with h2 | h2
  ·subst h2; right; simp only [List.length_cons,List.length_nil]; omega
  ·right; simp only [List.length_cons]; omega
theorem bE {s:State} {v:Int} (h:mayF s v=0):bU v 1 3=true/\cV s v=true/\kZ s=true/\jB s=true/\dr s v=true:=by
 unfold mayF at h
 split at h
 ·omega
 ·rename_i h1
  split at h
  ·omega
  ·rename_i h2
   simp at h1 h2
   exact ⟨h1,h2.1.1.1,h2.1.1.2,h2.1.2,h2.2⟩
theorem Ei {s:State} {v:Int} (h:mayF s v=0):s.opens.length<=8:=by
 have h1:=(bE h).2.2.2.1
 simp only [jB,Bool.and_eq_true] at h1
 rcases oy h1.1 with h2 | h2
 ·rw [h2]; simp
 ·omega
theorem Ex {s:State} {v:Int} (h:mayF s v=0):s.sess.length<=8:=by
 have h1:=(bE h).2.2.1
 simp only [kZ,Bool.and_eq_true] at h1
 rcases oy h1.1 with h2 | h2
 ·rw [h2]; simp
 ·omega
theorem fi {s:State} {v:Int} (h:mayF s v=0):s.snaps.length<=16/\ak Snap.id (s.next - 1) 0 s.snaps=true/\∀ x ∈ s.snaps,bg v (dB v) x=true:=by
 have h1:=(bE h).2.2.2.2
 simp only [dr,Bool.and_eq_true,Bool.not_eq_true',Bool.or_eq_false_iff,decide_eq_false_iff_not,Bool.not_eq_false',List.all_eq_true] at h1
 exact ⟨by omega,h1.1.2,h1.2⟩
theorem yS {x:Snap} {v t:Int} (h:bg v t x=true):di x.chunks=true:=by
 simp only [bg,Bool.and_eq_true,decide_eq_true_eq] at h
 cases hr:di x.chunks with
 | true=>rfl
 | false=>have:=fl (l:=x.chunks) hr; omega
theorem yO:∀ {l:List Snap},(∀ x ∈ l,di x.chunks=true)->nch l<=8*l.length
 | [],_=>Nat.le_refl _
 | x :: l,h=>by
  have h1:=yO (l:=l) fun y hy=>h y (List.mem_cons_of_mem _ hy)
  have h2:=(oY (h x (List.mem_cons_self))).2
  have e:nch (x :: l)=x.chunks.length+nch l:=by simp [nch]
  rw [e,List.length_cons]; omega
theorem Bx {s:State} {v:Int} (h:mayF s v=0):nch s.snaps<=128:=by
 have h1:=fi h
 have:=yO (l:=s.snaps) fun x hx=>yS (h1.2.2 x hx)
 omega
theorem jg {s:State} {v:Int} (h:mayF s v=0):1<=s.next/\s.next<=1048576:=by
 have h1:=(bE h).2.1
 simp only [cV,Bool.and_eq_true] at h1
 exact mJ h1.1.1.2
theorem qF {s:State} {c:Command} (h:(if mayF s s.version=0 then bD c s.version else 1)=0):mayF s s.version=0:=by
 split at h
 ·assumption
 ·omega
theorem Dz {s:State} {c:Command} (h:(if mayF s s.version=0 then bD c s.version else 1)=0):nch s.snaps<=1048576:=by have:=Bx (qF h); omega
theorem Fk {s:State} {c:Command} (h:(if mayF s s.version=0 then bD c s.version else 1)=0):s.opens.length<1048576:=by have:=Ei (qF h); omega
theorem ux {s:State} {c:Command} (h:(if mayF s s.version=0 then bD c s.version else 1)=0):s.sess.length<1048576:=by have:=Ex (qF h); omega
theorem FF {s:State} {c:Command} (h:(if mayF s s.version=0 then bD c s.version else 1)=0):s.snaps.length<1048576:=by have:=(fi (qF h)).1; omega
theorem FN {s:State} {c:Command} (h:(if mayF s s.version=0 then bD c s.version else 1)=0):0<=s.next:=by have:=jg (qF h); omega
theorem FT {s:State} {c:Command} (h:(if mayF s s.version=0 then bD c s.version else 1)=0):bw s c=vI s c:=by
 have h:bF s c=0:=h
 rw [bw,h]; rfl
theorem He {s:State} {c:Command} (h:¬ (if mayF s s.version=0 then bD c s.version else 1)=0):bw s c=(s,⟨(if mayF s s.version=0 then bD c s.version else 1),0⟩):=by
 have h:¬ bF s c=0:=h
 rw [bw,if_pos h]; rfl
theorem DE (st:State) (c:Command) (r0:Int) (r1:Int) (r2:Int) (r3:Int) (r4:Reply) (r5:List Sess) (r6:List Opn) (r7:List Snap):sm aI xh [] Try.f34 [.agg (cellsOf (.nm .state) st),.agg (cellsOf (.nm .command) c)] [] [.agg ([.int (r0),.int (r1),.int (r2),.int (r3),.own 0,.own 1,.own 2]),.agg (cellsOf (.nm .reply) r4)] [.row 40 (.nm .sess) (r5),.row 48 (.nm .opn) (r6),.row 59 (.nm .snap) (r7)]=((fun (q18:Reply)=>(fun (q17:Int)=>(fun (q16:Int)=>(fun (q15:Prop)=>(fun (q14:Prop)=>(fun (q13:Int)=>(fun (q12:State)=>(fun (q11:Prop)=>(fun (q10:State × Reply)=>(fun (q9:State × Reply)=>(fun (q8:State × Reply)=>(fun (q7:Int)=>(fun (q6:State × Reply)=>(fun (q5:State × Reply)=>(fun (q4:State × Reply)=>(fun (q3:State × Reply)=>(fun (q2:State × Reply)=>(fun (q1:State × Reply)=>(fun (q0:Int)=>I64 q17->I64 st.next->I64 st.keep->I64 st.quota->st.sess.length*(32:Nat)<=(140737488355328:Nat)->st.opens.length*(16:Nat)<=(140737488355328:Nat)->st.snaps.length*(64:Nat)<=(140737488355328:Nat)->I64 q7->I64 c.client->I64 c.seq->I64 c.set->I64 c.id->I64 c.n->c.chunks.length*(8:Nat)<=(140737488355328:Nat)->c.text.b.length<=(140737488355328:Nat)->I64 q17->I64 st.next->I64 st.keep->I64 st.quota->I64 q0->(¬q0=q16->I64 q0->I64 q16->q17=r0/\st.next=r1/\st.keep=r2/\st.quota=r3/\q0=q13/\q11)/\(q0=q16->(q7=(11:Int)->I64 q3.snd.code->I64 q3.snd.n->q3.fst.version=r0/\q3.fst.next=r1/\q3.fst.keep=r2/\q3.fst.quota=r3/\q3.snd.code=q13/\q3.snd.n=r4.n/\q3.fst.sess=r5/\q3.fst.opens=r6/\q3.fst.snaps=r7)/\(¬q7=(11:Int)->(q7=(10:Int)->I64 q1.snd.code->I64 q1.snd.n->q1.fst.version=r0/\q1.fst.next=r1/\q1.fst.keep=r2/\q1.fst.quota=r3/\q1.snd.code=q13/\q1.snd.n=r4.n/\q1.fst.sess=r5/\q1.fst.opens=r6/\q1.fst.snaps=r7)/\(¬q7=(10:Int)->(q7=(9:Int)->I64 q2.snd.code->I64 q2.snd.n->q2.fst.version=r0/\q2.fst.next=r1/\q2.fst.keep=r2/\q2.fst.quota=r3/\q2.snd.code=q13/\q2.snd.n=r4.n/\q2.fst.sess=r5/\q2.fst.opens=r6/\q2.fst.snaps=r7)/\(¬q7=(9:Int)->(q7=(7:Int)->I64 q4.snd.code->I64 q4.snd.n->q4.fst.version=r0/\q4.fst.next=r1/\q4.fst.keep=r2/\q4.fst.quota=r3/\q4.snd.code=q13/\q4.snd.n=r4.n/\q4.fst.sess=r5/\q4.fst.opens=r6/\q4.fst.snaps=r7)/\(¬q7=(7:Int)->(q7=(5:Int)->q15/\(I64 q5.snd.code->I64 q5.snd.n->q5.fst.version=r0/\q5.fst.next=r1/\q5.fst.keep=r2/\q5.fst.quota=r3/\q5.snd.code=q13/\q5.snd.n=r4.n/\q5.fst.sess=r5/\q5.fst.opens=r6/\q5.fst.snaps=r7))/\(¬q7=(5:Int)->(q7=(12:Int)->q15/\(I64 q10.snd.code->I64 q10.snd.n->q10.fst.version=r0/\q10.fst.next=r1/\q10.fst.keep=r2/\q10.fst.quota=r3/\q10.snd.code=q13/\q10.snd.n=r4.n/\q10.fst.sess=r5/\q10.fst.opens=r6/\q10.fst.snaps=r7))/\(¬q7=(12:Int)->(q7=(6:Int)->I64 q18.code->I64 q18.n->q12.version=r0/\q12.next=r1/\q12.keep=r2/\q12.quota=r3/\q18.code=q13/\q18.n=r4.n/\q12.sess=r5/\q12.opens=r6/\q12.snaps=r7)/\(¬q7=(6:Int)->(q7=(4:Int)->q14/\(I64 q8.snd.code->I64 q8.snd.n->q8.fst.version=r0/\q8.fst.next=r1/\q8.fst.keep=r2/\q8.fst.quota=r3/\q8.snd.code=q13/\q8.snd.n=r4.n/\q8.fst.sess=r5/\q8.fst.opens=r6/\q8.fst.snaps=r7))/\(¬q7=(4:Int)->(q7=(3:Int)->q15/\st.snaps.length<(1048576:Nat)/\q14/\q16<=st.next/\(I64 q6.snd.code->I64 q6.snd.n->q6.fst.version=r0/\q6.fst.next=r1/\q6.fst.keep=r2/\q6.fst.quota=r3/\q6.snd.code=q13/\q6.snd.n=r4.n/\q6.fst.sess=r5/\q6.fst.opens=r6/\q6.fst.snaps=r7))/\(¬q7=(3:Int)->(q7=(2:Int)->q14/\(I64 q9.snd.code->I64 q9.snd.n->q9.fst.version=r0/\q9.fst.next=r1/\q9.fst.keep=r2/\q9.fst.quota=r3/\q9.snd.code=q13/\q9.snd.n=r4.n/\q9.fst.sess=r5/\q9.fst.opens=r6/\q9.fst.snaps=r7))/\(¬q7=(2:Int)->I64 (1:Int)->I64 q16->q17=r0/\st.next=r1/\st.keep=r2/\st.quota=r3/\(1:Int)=q13/\q11)))))))))))) (if mayF st q17=q16 then bD c q17 else (1:Int))) (au (bh false) c st)) (au (bh true) c st)) (au (cw c) c st)) (au bb c st)) (au aJ c st)) (aM st c)) c.kind) (aU st c)) (aS st c)) (cn c st)) (q16=r4.n/\st.sess=r5/\st.opens=r6/\st.snaps=r7)) (cQ c st).fst) r4.code) (st.opens.length<(1048576:Nat))) (nch st.snaps<=(1048576:Nat))) (0:Int)) st.version) (cQ c st).snd):=by kernel_rfl
theorem EE (st:State) (c:Command):Sat Try.prog (aq aI) 34 [.agg (cellsOf (.nm .state) st),.agg (cellsOf (.nm .command) c)] [] ⟨[],[.agg ([.int (((bw st c).1.version)),.int (((bw st c).1.next)),.int (((bw st c).1.keep)),.int (((bw st c).1.quota)),.own 0,.own 1,.own 2]),.agg (cellsOf (.nm .reply) ((bw st c).2))],some ([.row 40 (.nm .sess) (((bw st c).1.sess)),.row 48 (.nm .opn) (((bw st c).1.opens)),.row 59 (.nm .snap) (((bw st c).1.snaps))]),true⟩:=by
 refine eC re [] Try.func34 (by decide) (by kernel_rfl) ?_
 rw [DE]
 (repeat' (first | with_reducible refine And.intro ?_ ?_ | with_reducible refine and_imp.2 ?_ | intro))
 all_goals (first | (first | with_reducible rfl | with_reducible assumption | omega | (refine av ?_ ?_ <;> omega)) | exact (Dz (by with_reducible assumption)) | exact (Fk (by with_reducible assumption)) | exact (ux (by with_reducible assumption)) | exact (FF (by with_reducible assumption)) | exact (FN (by with_reducible assumption)) | (rw [He (by with_reducible assumption)]; done) | (rw [FT (by with_reducible assumption)]; simp only [vI, *]; done) | (rw [FT (by with_reducible assumption)]; simp [vI, *]; done))
def wu:cu:=(bV 34 (bO (aj (kT (.nm .state)) (aj (kT (.nm .command)) aR)) aQ fun (st,c,_) (_)=>⟨[],[.agg ([.int (((bw st c).1.version)),.int (((bw st c).1.next)),.int (((bw st c).1.keep)),.int (((bw st c).1.quota)),.own 0,.own 1,.own 2]),.agg (cellsOf (.nm .reply) ((bw st c).2))],some ([.row 40 (.nm .sess) (((bw st c).1.sess)),.row 48 (.nm .opn) (((bw st c).1.opens)),.row 59 (.nm .snap) (((bw st c).1.snaps))]),true⟩) xh)
theorem pR:aP Try.prog (aq aI) wu:=(aC (aB (ae b_ (ae b_ al)) ao fun (st,c,_) (_) _=>EE st c ) re)
end Go.Proofs.Ytdggohppeeaipaa
namespace Go.Proofs.Ytdggohppeeaipaa
open Go.RowKit
def bd (s:State) (c:Command):State × Reply:=
 if ah Sess.client c.client s.sess<0 then (s,⟨11,0⟩)
 else if c.seq=(s.sess.getD (ah Sess.client c.client s.sess).toNat (dflt (.nm .sess))).seq then (s,(s.sess.getD (ah Sess.client c.client s.sess).toNat (dflt (.nm .sess))).last)
 else if c.seq<(s.sess.getD (ah Sess.client c.client s.sess).toNat (dflt (.nm .sess))).seq then (s,⟨13,0⟩)
 else if (s.sess.getD (ah Sess.client c.client s.sess).toNat (dflt (.nm .sess))).seq+1<c.seq then (s,⟨14,0⟩)
 else ({ (bw s c).1 with sess:=(bw s c).1.sess.set (ah Sess.client c.client s.sess).toNat { (bw s c).1.sess.getD (ah Sess.client c.client s.sess).toNat (dflt (.nm .sess)) with seq:=c.seq,last:=(bw s c).2 } },(bw s c).2)
def dh (s:State) (c:Command):State × Reply:=
 if ¬ bF s c=0 then (s,⟨bF s c,0⟩)
 else if c.kind=8 then (if ¬ c.n=s.version+1 then (s,⟨1,0⟩) else ({ s with version:=c.n },⟨0,c.n⟩))
 else if c.kind=1 then (if 0<=ah Sess.client c.client s.sess then (s,⟨12,0⟩) else ({ s with sess:=fb s.sess (s.sess.takeWhile fun y=>decide (y.client<c.client)).length ⟨c.client,0,⟨0,0⟩⟩ },⟨0,0⟩))
 else bd s c
theorem Cb {Q:State × Reply->Prop} {s:State} {c:Command} (h0:∀ e:Int,¬ e=0->Q (s,⟨e,0⟩))
  (hs:∀ f:State->Nat->State × Reply,bF s c=0->(f=cw c\/(∃ b,f=bh b)\/f=bb\/f=aJ)->Q (au f c s))
  (hq:bF s c=0->Q (cn c s)) (hk:bF s c=0->Q (cQ c s)) (ha:bF s c=0->Q (aU s c)) (hc:bF s c=0->Q (aM s c)) (hb:bF s c=0->Q (aS s c)):Q (bw s c):=by
 unfold bw
 split
 ·exact h0 _ (by assumption)
 ·rename_i h
  have h:bF s c=0:=Classical.not_not.1 h
  unfold vI
  split
  ·exact hs _ h (.inl rfl)
  split
  ·exact hs _ h (.inr (.inl ⟨_,rfl⟩))
  split
  ·exact hs _ h (.inr (.inl ⟨_,rfl⟩))
  split
  ·exact hs _ h (.inr (.inr (.inl rfl)))
  split
  ·exact hs _ h (.inr (.inr (.inr rfl)))
  split
  ·exact hq h
  split
  ·exact hk h
  split
  ·exact ha h
  split
  ·exact hc h
  split
  ·exact hb h
  ·exact h0 1 (by decide)
theorem vu {Q:State × Reply->Prop} {f:State->Nat->State × Reply} {s:State} {c:Command} (h0:∀ e:Int,¬ e=0->Q (s,⟨e,0⟩)) (h:∀ n:Nat,(n:Int)=ah Snap.id c.id s.snaps->Q (f s n)):Q (au f c s):=by
 unfold au
 split
 ·exact h0 15 (by decide)
 ·exact h _ (by omega)
theorem mU {s:State} {c:Command}:(bw s c).1.sess=s.sess:=by
 refine Cb (Q:=fun r=>r.1.sess=s.sess) (fun _ _=>rfl) (fun f _ hf=>?_) (fun _=>rfl) (fun _=>rfl) (fun _=>?_) (fun _=>?_) (fun _=>?_)
 ·refine vu (Q:=fun r=>r.1.sess=s.sess) (fun _ _=>rfl) fun n _=>?_
  rcases hf with rfl | ⟨b,rfl⟩ | rfl | rfl
  ·rfl
  ·unfold bh; split <;> rfl
  ·rfl
  ·unfold aJ; split; rfl; split <;> rfl
 ·unfold aU; split <;> rfl
 ·unfold aM; split; rfl; split; rfl; split <;> rfl
 ·unfold aS; split <;> rfl
theorem pO {l:List Sess} {k:Nat} {q:Int} {R:Reply} (h:k<l.length):(l.set k (Sess.mk (l.getD k (dflt (.nm .sess))).client q (l.getD k (dflt (.nm .sess))).last)).set k (Sess.mk ((l.set k (Sess.mk (l.getD k (dflt (.nm .sess))).client q (l.getD k (dflt (.nm .sess))).last)).getD k (dflt (.nm .sess))).client ((l.set k (Sess.mk (l.getD k (dflt (.nm .sess))).client q (l.getD k (dflt (.nm .sess))).last)).getD k (dflt (.nm .sess))).seq R)=l.set k { l.getD k (dflt (.nm .sess)) with seq:=q,last:=R }:=by
 have e:∀ x:Sess,(l.set k x).getD k (dflt (.nm .sess))=x:=fun x=>by
  rw [List.getD_eq_getElem?_getD,List.getElem?_set_self h]; rfl
 rw [e,List.set_set]
section
variable {v nx kp qt:Int} {se:List Sess} {op:List Opn} {sn:List Snap} {c:Command}
theorem Ho (h:ah Sess.client c.client se<0):bd (State.mk v nx kp qt se op sn) c=(State.mk v nx kp qt se op sn,⟨11,0⟩):=by
 simp only [bd,if_pos h]
theorem Hl (h:0<=ah Sess.client c.client se) (e:c.seq=(se.getD (ah Sess.client c.client se).toNat (dflt (.nm .sess))).seq):bd (State.mk v nx kp qt se op sn) c=(State.mk v nx kp qt se op sn,(se.getD (ah Sess.client c.client se).toNat (dflt (.nm .sess))).last):=by
 have h1:¬ ah Sess.client c.client se<0:=by omega
 simp only [bd,if_neg h1,if_pos e]
theorem Hr (h:0<=ah Sess.client c.client se) (e:¬ c.seq=(se.getD (ah Sess.client c.client se).toNat (dflt (.nm .sess))).seq) (l:c.seq<(se.getD (ah Sess.client c.client se).toNat (dflt (.nm .sess))).seq):bd (State.mk v nx kp qt se op sn) c=(State.mk v nx kp qt se op sn,⟨13,0⟩):=by
 have h1:¬ ah Sess.client c.client se<0:=by omega
 simp only [bd,if_neg h1,if_neg e,if_pos l]
theorem Hs (h:0<=ah Sess.client c.client se) (e:¬ c.seq=(se.getD (ah Sess.client c.client se).toNat (dflt (.nm .sess))).seq) (l:(se.getD (ah Sess.client c.client se).toNat (dflt (.nm .sess))).seq<=c.seq) (g:(se.getD (ah Sess.client c.client se).toNat (dflt (.nm .sess))).seq+1<c.seq):bd (State.mk v nx kp qt se op sn) c=(State.mk v nx kp qt se op sn,⟨14,0⟩):=by
 have h1:¬ ah Sess.client c.client se<0:=by omega
 have h2:¬ c.seq<(se.getD (ah Sess.client c.client se).toNat (dflt (.nm .sess))).seq:=by omega
 simp only [bd,if_neg h1,if_neg e,if_neg h2,if_pos g]
theorem Hn (h:0<=ah Sess.client c.client se) (e:¬ c.seq=(se.getD (ah Sess.client c.client se).toNat (dflt (.nm .sess))).seq) (l:(se.getD (ah Sess.client c.client se).toNat (dflt (.nm .sess))).seq<=c.seq) (g:c.seq<=(se.getD (ah Sess.client c.client se).toNat (dflt (.nm .sess))).seq+1):bd (State.mk v nx kp qt se op sn) c=({ (bw (State.mk v nx kp qt se op sn) c).1 with sess:=(bw (State.mk v nx kp qt se op sn) c).1.sess.set (ah Sess.client c.client se).toNat { (bw (State.mk v nx kp qt se op sn) c).1.sess.getD (ah Sess.client c.client se).toNat (dflt (.nm .sess)) with seq:=c.seq,last:=(bw (State.mk v nx kp qt se op sn) c).2 } },(bw (State.mk v nx kp qt se op sn) c).2):=by
 have h1:¬ ah Sess.client c.client se<0:=by omega
 have h2:¬ c.seq<(se.getD (ah Sess.client c.client se).toNat (dflt (.nm .sess))).seq:=by omega
 have h3:¬ (se.getD (ah Sess.client c.client se).toNat (dflt (.nm .sess))).seq+1<c.seq:=by omega
 simp only [bd,if_neg h1,if_neg e,if_neg h2,if_neg h3]
theorem ya (h:0<=ah Sess.client c.client se):ah Sess.client c.client se<((bw (State.mk v nx kp qt se op sn) c).1.sess.length:Int):=by rw [mU]; exact bB h
theorem pH (h:0<=ah Sess.client c.client se):(ah Sess.client c.client se).toNat<(bw (State.mk v nx kp qt se op sn) c).1.sess.length:=by have:=ya (v:=v) (nx:=nx) (kp:=kp) (qt:=qt) (op:=op) (sn:=sn) h; omega
theorem FH {x:Sess} (h:0<=ah Sess.client c.client se):ah Sess.client c.client se<(((bw (State.mk v nx kp qt se op sn) c).1.sess.set (ah Sess.client c.client se).toNat x).length:Int):=by rw [List.length_set]; exact ya h
theorem Gv (h:bF (State.mk v nx kp qt se op sn) c=0) (h0:0<=ah Sess.client c.client se):I64 ((se.getD (ah Sess.client c.client se).toNat (dflt (.nm .sess))).seq+1):=by
 have h1:=(bE (qF h)).2.2.1
 simp only [kZ,Bool.and_eq_true,List.all_eq_true] at h1
 have h2:=h1.2 _ (List.mem_of_getElem? (gd (d:=dflt (.nm .sess)) (k:=(ah Sess.client c.client se).toNat) (l:=se) (by have:=bB h0; omega)))
 simp only [bJ,Bool.and_eq_true] at h2
 have h3:=mJ h2.1.1
 constructor <;> omega
end
theorem za (v:Int) (nx:Int) (kp:Int) (qt:Int) (c:Command) (se:List Sess) (op:List Opn) (sn:List Snap) (r0:Int) (r1:Int) (r2:Int) (r3:Int) (r4:Reply) (r5:List Sess) (r6:List Opn) (r7:List Snap):nd aI wu [] Try.f26 [.agg ([.int (v),.int (nx),.int (kp),.int (qt),.own 0,.own 1,.own 2]),.agg (cellsOf (.nm .command) c)] [.row 40 (.nm .sess) (se),.row 48 (.nm .opn) (op),.row 59 (.nm .snap) (sn)] [.agg ([.int (r0),.int (r1),.int (r2),.int (r3),.own 0,.own 1,.own 2]),.agg (cellsOf (.nm .reply) r4)] [.row 40 (.nm .sess) (r5),.row 48 (.nm .opn) (r6),.row 59 (.nm .snap) (r7)]=((fun (q7:Prop)=>(fun (q6:Int)=>(fun (q5:Int)=>(fun (q4:Prop)=>(fun (q3:den (Sh.nm NT.sess))=>(fun (q2:State × Reply)=>(fun (q1:Int)=>(fun (q0:den (Sh.nm NT.sess))=>I64 v->I64 nx->I64 kp->I64 qt->I64 c.kind->I64 c.client->I64 q6->I64 c.set->I64 c.id->I64 c.n->c.chunks.length*(8:Nat)<=(140737488355328:Nat)->c.text.b.length<=(140737488355328:Nat)->I64 q1->(q1<q5->I64 (11:Int)->I64 q5->v=r0/\nx=r1/\kp=r2/\qt=r3/\(11:Int)=r4.code/\q4)/\(q5<=q1->q5<=q1/\q1<(↑se.length:Int)/\(I64 (se.getD q1.toNat q3).client->I64 (se.getD q1.toNat q3).seq->I64 (se.getD q1.toNat q3).last.code->I64 (se.getD q1.toNat q3).last.n->(q6=(se.getD q1.toNat q3).seq->v=r0/\nx=r1/\kp=r2/\qt=r3/\(se.getD q1.toNat q3).last.code=r4.code/\(se.getD q1.toNat q3).last.n=r4.n/\q7)/\(¬q6=(se.getD q1.toNat q3).seq->(q6<(se.getD q1.toNat q3).seq->I64 (13:Int)->I64 q5->v=r0/\nx=r1/\kp=r2/\qt=r3/\(13:Int)=r4.code/\q4)/\((se.getD q1.toNat q3).seq<=q6->I64 ((se.getD q1.toNat q3).seq+(1:Int))/\((se.getD q1.toNat q3).seq+(1:Int)<q6->I64 (14:Int)->I64 q5->v=r0/\nx=r1/\kp=r2/\qt=r3/\(14:Int)=r4.code/\q4)/\(q6<=(se.getD q1.toNat q3).seq+(1:Int)->I64 q2.fst.version->I64 q2.fst.next->I64 q2.fst.keep->I64 q2.fst.quota->I64 q2.snd.code->I64 q2.snd.n->(q5<=q1/\q1<(↑q2.fst.sess.length:Int))/\(I64 q0.client->I64 q0.seq->I64 q0.last.code->I64 q0.last.n->q5<=q1/\q1<(↑(q2.fst.sess.set q1.toNat (Sess.mk q0.client q6 q0.last)).length:Int))/\(I64 q0.client->I64 q0.seq->I64 q0.last.code->I64 q0.last.n->I64 ((q2.fst.sess.set q1.toNat (Sess.mk q0.client q6 q0.last)).getD q1.toNat q3).client->I64 ((q2.fst.sess.set q1.toNat (Sess.mk q0.client q6 q0.last)).getD q1.toNat q3).seq->I64 ((q2.fst.sess.set q1.toNat (Sess.mk q0.client q6 q0.last)).getD q1.toNat q3).last.code->I64 ((q2.fst.sess.set q1.toNat (Sess.mk q0.client q6 q0.last)).getD q1.toNat q3).last.n->q2.fst.version=r0/\q2.fst.next=r1/\q2.fst.keep=r2/\q2.fst.quota=r3/\q2.snd.code=r4.code/\q2.snd.n=r4.n/\(q2.fst.sess.set q1.toNat (Sess.mk q0.client q6 q0.last)).set q1.toNat (Sess.mk ((q2.fst.sess.set q1.toNat (Sess.mk q0.client q6 q0.last)).getD q1.toNat q3).client ((q2.fst.sess.set q1.toNat (Sess.mk q0.client q6 q0.last)).getD q1.toNat q3).seq q2.snd)=r5/\q2.fst.opens=r6/\q2.fst.snaps=r7))))))) (q2.fst.sess.getD q1.toNat q3)) (ah Sess.client c.client se)) (bw (State.mk v nx kp qt se op sn) c)) (dflt (Sh.nm NT.sess))) (q5=r4.n/\q7)) (0:Int)) c.seq) (se=r5/\op=r6/\sn=r7)):=by kernel_rfl
theorem w_ (v:Int) (nx:Int) (kp:Int) (qt:Int) (c:Command) (se:List Sess) (op:List Opn) (sn:List Snap) (h0:bF (State.mk v nx kp qt se op sn) c=0):Sat Try.prog (aq aI) 26 [.agg ([.int (v),.int (nx),.int (kp),.int (qt),.own 0,.own 1,.own 2]),.agg (cellsOf (.nm .command) c)] [.row 40 (.nm .sess) (se),.row 48 (.nm .opn) (op),.row 59 (.nm .snap) (sn)] ⟨[bF (State.mk v nx kp qt se op sn) c=0],[.agg ([.int (((bd (State.mk v nx kp qt se op sn) c).1.version)),.int (((bd (State.mk v nx kp qt se op sn) c).1.next)),.int (((bd (State.mk v nx kp qt se op sn) c).1.keep)),.int (((bd (State.mk v nx kp qt se op sn) c).1.quota)),.own 0,.own 1,.own 2]),.agg (cellsOf (.nm .reply) ((bd (State.mk v nx kp qt se op sn) c).2))],some ([.row 40 (.nm .sess) (((bd (State.mk v nx kp qt se op sn) c).1.sess)),.row 48 (.nm .opn) (((bd (State.mk v nx kp qt se op sn) c).1.opens)),.row 59 (.nm .snap) (((bd (State.mk v nx kp qt se op sn) c).1.snaps))]),false⟩:=by
 refine dv pR [] Try.func26 (by decide) (by kernel_rfl) ?_
 rw [za]
 (repeat' (first | with_reducible refine And.intro ?_ ?_ | with_reducible refine and_imp.2 ?_ | intro))
 all_goals (first | (first | with_reducible rfl | with_reducible assumption | omega | (refine av ?_ ?_ <;> omega)) | exact bB (by with_reducible assumption) | exact ya (by with_reducible assumption) | exact FH (by with_reducible assumption) | exact Gv (by with_reducible assumption) (by with_reducible assumption) | (rw [Ho] <;> first | rfl | with_reducible assumption | exact pO (pH (by with_reducible assumption))) | (rw [Hl] <;> first | rfl | with_reducible assumption | exact pO (pH (by with_reducible assumption))) | (rw [Hr] <;> first | rfl | with_reducible assumption | exact pO (pH (by with_reducible assumption))) | (rw [Hs] <;> first | rfl | with_reducible assumption | exact pO (pH (by with_reducible assumption))) | (rw [Hn] <;> first | rfl | with_reducible assumption | exact pO (pH (by with_reducible assumption))))
def xY:cu:=(bV 26 (bO (aj (kG (ai cI (ai cI (ai cI (ai cI (ai (aY 0) (ai (aY 1) (ai (aY 2) bG)))))))) (aj (kT (.nm .command)) aR)) (ay (aZ 40 (.nm .sess)) (ay (aZ 48 (.nm .opn)) (ay (aZ 59 (.nm .snap)) aQ))) fun ((v,nx,kp,qt,_,_,_,_),c,_) (se,op,sn,_)=>⟨[bF (State.mk v nx kp qt se op sn) c=0],[.agg ([.int (((bd (State.mk v nx kp qt se op sn) c).1.version)),.int (((bd (State.mk v nx kp qt se op sn) c).1.next)),.int (((bd (State.mk v nx kp qt se op sn) c).1.keep)),.int (((bd (State.mk v nx kp qt se op sn) c).1.quota)),.own 0,.own 1,.own 2]),.agg (cellsOf (.nm .reply) ((bd (State.mk v nx kp qt se op sn) c).2))],some ([.row 40 (.nm .sess) (((bd (State.mk v nx kp qt se op sn) c).1.sess)),.row 48 (.nm .opn) (((bd (State.mk v nx kp qt se op sn) c).1.opens)),.row 59 (.nm .snap) (((bd (State.mk v nx kp qt se op sn) c).1.snaps))]),false⟩) wu)
theorem pN:aP Try.prog (aq aI) xY:=(aC (aB (ae (Fj (ab ax (ab ax (ab ax (ab ax (ab aA (ab aA (ab aA aE)))))))) (ae b_ al)) (ag az (ag az (ag az ao))) fun ((v,nx,kp,qt,_,_,_,_),c,_) (se,op,sn,_) hp=>w_ v nx kp qt c se op sn (eU hp)) pR)
end Go.Proofs.Ytdggohppeeaipaa
namespace Go.Proofs.Ytdggohppeeaipaa
open Go.RowKit
section
variable {s:State} {c:Command}
theorem Ek (h:(if mayF s s.version=0 then bD c s.version else 1)=0):bF s c=0:=h
theorem CR (h:(if mayF s s.version=0 then bD c s.version else 1)=0):I64 (s.version+1):=by
 have h1:=(bE (qF h)).2.1
 simp only [cV,Bool.and_eq_true] at h1
 have:=mJ h1.1.1.1
 constructor <;> omega
theorem Gk (h:¬ (if mayF s s.version=0 then bD c s.version else 1)=0):dh s c=(s,⟨(if mayF s s.version=0 then bD c s.version else 1),0⟩):=by
 have h:¬ bF s c=0:=h
 rw [dh,if_pos h]; rfl
theorem Ga (h:(if mayF s s.version=0 then bD c s.version else 1)=0):dh s c=if c.kind=8 then (if ¬ c.n=s.version+1 then (s,⟨1,0⟩) else ({ s with version:=c.n },⟨0,c.n⟩))
 else if c.kind=1 then (if 0<=ah Sess.client c.client s.sess then (s,⟨12,0⟩) else ({ s with sess:=fb s.sess (s.sess.takeWhile fun y=>decide (y.client<c.client)).length ⟨c.client,0,⟨0,0⟩⟩ },⟨0,0⟩))
 else bd s c:=by
 have h:¬ ¬ bF s c=0:=fun k=>k h
 rw [dh,if_neg h]
theorem yz (h:(if mayF s s.version=0 then bD c s.version else 1)=0) (k:c.kind=8) (n:¬ c.n=s.version+1):dh s c=(s,⟨1,0⟩):=by rw [Ga h,if_pos k,if_pos n]
theorem ye (h:(if mayF s s.version=0 then bD c s.version else 1)=0) (k:c.kind=8) (n:c.n=s.version+1):dh s c=({ s with version:=c.n },⟨0,c.n⟩):=by rw [Ga h,if_pos k,if_neg (fun h=>h n)]
theorem Bi (h:(if mayF s s.version=0 then bD c s.version else 1)=0) (k:c.kind=1) (n:0<=ah Sess.client c.client s.sess):dh s c=(s,⟨12,0⟩):=by rw [Ga h,if_neg (by omega),if_pos k,if_pos n]
theorem AI (h:(if mayF s s.version=0 then bD c s.version else 1)=0) (k:c.kind=1) (n:ah Sess.client c.client s.sess<0):dh s c=({ s with sess:=fb s.sess (s.sess.takeWhile fun y=>decide (y.client<c.client)).length ⟨c.client,0,⟨0,0⟩⟩ },⟨0,0⟩):=by rw [Ga h,if_neg (by omega),if_pos k,if_neg (by omega)]
theorem Fu (h:(if mayF s s.version=0 then bD c s.version else 1)=0) (k:¬ c.kind=8) (n:¬ c.kind=1):dh s c=bd s c:=by rw [Ga h,if_neg k,if_neg n]
theorem cC {l:List Sess} {k:Nat} {x:Sess} (hs:k<=l.length) (ha:(l.take k).all (fun y=>decide (y.client<c.client))=true) (hb:(l.length:Int)<=k\/c.client<=(l.getD k (dflt (.nm .sess))).client):l.take k++[x]++l.drop k=fb l (l.takeWhile fun y=>decide (y.client<c.client)).length x:=by
 have:k=(l.takeWhile fun y=>decide (y.client<c.client)).length:=by
  refine zR ha hs ?_
  by_cases hl:(l.length:Int)<=k
  ·exact .inl hl
  ·refine .inr ⟨by omega,_,gd (d:=dflt (.nm .sess)) (by omega),?_⟩
   rcases hb with hb | hb
   ·omega
   ·exact decide_eq_false (by omega)
 rw [<- this]; simp [fb]
theorem xq {l:List Sess} {k:Nat} (ha:(l.take k).all (fun y=>decide (y.client<c.client))=true) (h:(k:Int)<l.length) (hb:(l.getD k (dflt (.nm .sess))).client<c.client):(l.take (k+1)).all (fun y=>decide (y.client<c.client))=true:=by
 rw [aL (gd (d:=dflt (.nm .sess)) h),List.all_append,ha]; simp only [List.all_cons,List.all_nil,decide_eq_true hb]; rfl
end
def Fy (st:State) (c:Command):List (Nat × LI):=[(15,{ σ:=Nat,F:=fun k=>([(2,one (.ptr 0 0)),(3,one (.ptr 1 0)),(4,one (.ptr 2 0)),(5,one (.ptr 3 0)),(7,one (.int k))],[.box 29 ([.int ((st.version)),.int ((st.next)),.int ((st.keep)),.int ((st.quota)),.own 4,.own 5,.own 6]),.box 42 (cellsOf (.nm .command) ((c))),.box 29 ([.int ((0)),.int ((0)),.int ((0)),.int ((0)),.em true,.em true,.em true]),.box 38 ([.int ((0)),.int ((0))]),.row 40 (.nm .sess) ((st.sess)),.row 48 (.nm .opn) ((st.opens)),.row 59 (.nm .snap) ((st.snaps))]),J:=fun k=>k<=st.sess.length/\(st.sess.take k).all (fun y=>decide (y.client<c.client))=true,μ:=fun k=>st.sess.length - k })]
theorem ER (st:State) (c:Command) (r0:Int) (r1:Int) (r2:Int) (r3:Int) (r4:Reply) (r5:List Sess) (r6:List Opn) (r7:List Snap):sm aI xY (Fy st c) Try.f15 [.agg (cellsOf (.nm .state) st),.agg (cellsOf (.nm .command) c)] [] [.agg ([.int (r0),.int (r1),.int (r2),.int (r3),.own 0,.own 1,.own 2]),.agg (cellsOf (.nm .reply) r4)] [.row 40 (.nm .sess) (r5),.row 48 (.nm .opn) (r6),.row 59 (.nm .snap) (r7)]=((fun (q12:Reply)=>(fun (q11:den (Sh.nm NT.sess))=>(fun (q10:Prop)=>(fun (q9:Prop)=>(fun (q8:Prop)=>(fun (q7:Int)=>(fun (q6:Int)=>(fun (q5:Prop)=>(fun (q4:State)=>(fun (q3:Int)=>(fun (q2:List Sess)=>(fun (q1:Int)=>(fun (q0:Prop)=>I64 q3->I64 st.next->I64 st.keep->I64 st.quota->q2.length*(32:Nat)<=(140737488355328:Nat)->st.opens.length*(16:Nat)<=(140737488355328:Nat)->st.snaps.length*(64:Nat)<=(140737488355328:Nat)->I64 c.kind->I64 q7->I64 c.seq->I64 c.set->I64 c.id->I64 c.n->c.chunks.length*(8:Nat)<=(140737488355328:Nat)->c.text.b.length<=(140737488355328:Nat)->I64 q3->I64 st.next->I64 st.keep->I64 st.quota->I64 (if mayF st q3=q1 then bD c q3 else q6)->(¬(if mayF st q3=q1 then bD c q3 else q6)=q1->I64 (if mayF st q3=q1 then bD c q3 else q6)->I64 q1->q3=r0/\q10/\q9/\q8/\(if mayF st q3=q1 then bD c q3 else q6)=r4.code/\q1=r4.n/\q2=r5/\q5)/\((if mayF st q3=q1 then bD c q3 else q6)=q1->(c.kind=(8:Int)->I64 (q3+q6)/\(¬c.n=q3+q6->I64 q6->I64 q1->q3=r0/\q10/\q9/\q8/\q6=r4.code/\q1=r4.n/\q2=r5/\q5)/\(c.n=q3+q6->c.n=r0/\q10/\q9/\q8/\q1=r4.code/\c.n=r4.n/\q2=r5/\q5))/\(¬c.kind=(8:Int)->(c.kind=q6->I64 (ah Sess.client q7 q2)->(q1<=ah Sess.client q7 q2->I64 (12:Int)->I64 q1->q3=r0/\q10/\q9/\q8/\(12:Int)=r4.code/\q1=r4.n/\q2=r5/\q5)/\(ah Sess.client q7 q2<q1->∃ (s0:Nat),(fun (q13:Int)=>(q1=(↑s0:Int)/\q0)/\(s0<=q2.length/\((List.take s0 q2).all fun (y:Sess)=>decide (y.client<q7))=true)/\∀ (s:Nat),(fun (q15:Int)=>(fun (q14:den (Sh.nm NT.sess))=>s<=q2.length/\((List.take s q2).all fun (y:Sess)=>decide (y.client<q7))=true->(q15<q13->q1<=q15/\q15<q13)/\((q15<q13->I64 q14.client/\I64 q14.seq/\I64 q14.last.code/\I64 q14.last.n)->(q15<q13/\q14.client<q7->I64 (q15+q6)/\∃ (s':Nat),(q15+q6=(↑s':Int)/\q0)/\(s' <= q2.length/\((List.take s' q2).all fun (y:Sess)=>decide (y.client<q7))=true)/\q2.length - s' < q2.length - s)/\(q13<=q15\/q7<=q14.client->(q1<=q15/\q15<=q13)/\q2.length<(1048576:Nat)/\[Sess.mk q7 q1 (Reply.mk q1 q1)].length=(1:Nat)/\q3=r0/\q10/\q9/\q8/\q1=r4.code/\q1=r4.n/\List.take s q2++[Sess.mk q7 q1 (Reply.mk q1 q1)]++List.drop s q2=r5/\q5))) (q2.getD s q11)) (↑s:Int)) (↑q2.length:Int)))/\(¬c.kind=q6->bF st c=q1/\(I64 q4.version->I64 q4.next->I64 q4.keep->I64 q4.quota->I64 q12.code->I64 q12.n->q4.version=r0/\q4.next=r1/\q4.keep=r2/\q4.quota=r3/\q12.code=r4.code/\q12.n=r4.n/\q4.sess=r5/\q4.opens=r6/\q4.snaps=r7))))) (q3=q3/\st.next=st.next/\st.keep=st.keep/\st.quota=st.quota/\c.kind=c.kind/\q7=q7/\c.seq=c.seq/\c.set=c.set/\c.id=c.id/\c.n=c.n/\c.chunks=c.chunks/\c.text=c.text/\q1=q1/\q1=q1/\q1=q1/\q1=q1/\q1=q1/\q1=q1/\q2=q2/\st.opens=st.opens/\st.snaps=st.snaps)) (0:Int)) st.sess) st.version) (bd st c).fst) (st.opens=r6/\st.snaps=r7)) (1:Int)) c.client) (st.quota=r3)) (st.keep=r2)) (st.next=r1)) (dflt (Sh.nm NT.sess))) (bd st c).snd):=by kernel_rfl
theorem EX (st:State) (c:Command):Sat Try.prog (aq aI) 15 [.agg (cellsOf (.nm .state) st),.agg (cellsOf (.nm .command) c)] [] ⟨[],[.agg ([.int (((dh st c).1.version)),.int (((dh st c).1.next)),.int (((dh st c).1.keep)),.int (((dh st c).1.quota)),.own 0,.own 1,.own 2]),.agg (cellsOf (.nm .reply) ((dh st c).2))],some ([.row 40 (.nm .sess) (((dh st c).1.sess)),.row 48 (.nm .opn) (((dh st c).1.opens)),.row 59 (.nm .snap) (((dh st c).1.snaps))]),true⟩:=by
 refine eC pN (Fy st c) Try.func15 (by decide) (by kernel_rfl) ?_
 rw [ER]
 (repeat' (first | with_reducible refine And.intro ?_ ?_ | with_reducible refine and_imp.2 ?_ | intro))
 all_goals try (first | (first | with_reducible rfl | with_reducible assumption | omega | (refine av ?_ ?_ <;> omega)) | exact rfl | exact Ek (by with_reducible assumption) | exact CR (by with_reducible assumption) | exact ux (by with_reducible assumption) | exact xq (by with_reducible assumption) (by with_reducible assumption) (by with_reducible assumption) | (rw [Gk] <;> first | rfl | with_reducible assumption | exact cC (by omega) (by with_reducible assumption) (by assumption)) | (rw [yz] <;> first | rfl | with_reducible assumption | exact cC (by omega) (by with_reducible assumption) (by assumption)) | (rw [ye] <;> first | rfl | with_reducible assumption | exact cC (by omega) (by with_reducible assumption) (by assumption)) | (rw [Bi] <;> first | rfl | with_reducible assumption | exact cC (by omega) (by with_reducible assumption) (by assumption)) | (rw [AI] <;> first | rfl | with_reducible assumption | exact cC (by omega) (by with_reducible assumption) (by assumption)) | (rw [Fu] <;> first | rfl | with_reducible assumption | exact cC (by omega) (by with_reducible assumption) (by assumption)))
 all_goals try (refine ⟨0,?_⟩; (repeat' (first | with_reducible refine And.intro ?_ ?_ | with_reducible refine and_imp.2 ?_ | intro)))
 all_goals try (first | (first | with_reducible rfl | with_reducible assumption | omega | (refine av ?_ ?_ <;> omega)) | exact rfl | exact Ek (by with_reducible assumption) | exact CR (by with_reducible assumption) | exact ux (by with_reducible assumption) | exact xq (by with_reducible assumption) (by with_reducible assumption) (by with_reducible assumption) | (rw [Gk] <;> first | rfl | with_reducible assumption | exact cC (by omega) (by with_reducible assumption) (by assumption)) | (rw [yz] <;> first | rfl | with_reducible assumption | exact cC (by omega) (by with_reducible assumption) (by assumption)) | (rw [ye] <;> first | rfl | with_reducible assumption | exact cC (by omega) (by with_reducible assumption) (by assumption)) | (rw [Bi] <;> first | rfl | with_reducible assumption | exact cC (by omega) (by with_reducible assumption) (by assumption)) | (rw [AI] <;> first | rfl | with_reducible assumption | exact cC (by omega) (by with_reducible assumption) (by assumption)) | (rw [Fu] <;> first | rfl | with_reducible assumption | exact cC (by omega) (by with_reducible assumption) (by assumption)))
 all_goals try (refine ⟨‹Nat› + 1,?_⟩; (repeat' (first | with_reducible refine And.intro ?_ ?_ | with_reducible refine and_imp.2 ?_ | intro)))
 all_goals (first | (first | with_reducible rfl | with_reducible assumption | omega | (refine av ?_ ?_ <;> omega)) | exact rfl | exact Ek (by with_reducible assumption) | exact CR (by with_reducible assumption) | exact ux (by with_reducible assumption) | exact xq (by with_reducible assumption) (by with_reducible assumption) (by with_reducible assumption) | (rw [Gk] <;> first | rfl | with_reducible assumption | exact cC (by omega) (by with_reducible assumption) (by assumption)) | (rw [yz] <;> first | rfl | with_reducible assumption | exact cC (by omega) (by with_reducible assumption) (by assumption)) | (rw [ye] <;> first | rfl | with_reducible assumption | exact cC (by omega) (by with_reducible assumption) (by assumption)) | (rw [Bi] <;> first | rfl | with_reducible assumption | exact cC (by omega) (by with_reducible assumption) (by assumption)) | (rw [AI] <;> first | rfl | with_reducible assumption | exact cC (by omega) (by with_reducible assumption) (by assumption)) | (rw [Fu] <;> first | rfl | with_reducible assumption | exact cC (by omega) (by with_reducible assumption) (by assumption)))
def zb:cu:=(bV 15 (bO (aj (kT (.nm .state)) (aj (kT (.nm .command)) aR)) aQ fun (st,c,_) (_)=>⟨[],[.agg ([.int (((dh st c).1.version)),.int (((dh st c).1.next)),.int (((dh st c).1.keep)),.int (((dh st c).1.quota)),.own 0,.own 1,.own 2]),.agg (cellsOf (.nm .reply) ((dh st c).2))],some ([.row 40 (.nm .sess) (((dh st c).1.sess)),.row 48 (.nm .opn) (((dh st c).1.opens)),.row 59 (.nm .snap) (((dh st c).1.snaps))]),true⟩) xY)
theorem rb:aP Try.prog (aq aI) zb:=(aC (aB (ae b_ (ae b_ al)) ao fun (st,c,_) (_) _=>EX st c ) pN)
end Go.Proofs.Ytdggohppeeaipaa
namespace Go.Proofs.Ytdggohppeeaipaa
open Go.RowKit
theorem xr  (r0:State):dx aI zb [] Try.f8 [] [] [.agg (cellsOf (.nm .state) r0)]=((1:Int)=r0.version/\(1:Int)=r0.next/\(0:Int)=r0.keep/\(0:Int)=r0.quota/\r0.sess=[]/\r0.opens=[]/\r0.snaps=[]):=by kernel_rfl
theorem wc :Sat Try.prog (aq aI) 8 [] [] ⟨[],[.agg (cellsOf (.nm .state) (⟨1,1,0,0,[],[],[]⟩))],none,false⟩:=by
 refine aX rb [] Try.func8 (by decide) (by kernel_rfl) ?_
 rw [xr]
 (repeat' (first | with_reducible refine And.intro ?_ ?_ | with_reducible refine and_imp.2 ?_ | intro))
 all_goals (first | (first | with_reducible rfl | with_reducible assumption | omega | (refine av ?_ ?_ <;> omega)) | exact rfl)
def Cw:cu:=(bV 8 (bO aR aQ fun (_) (_)=>⟨[],[.agg (cellsOf (.nm .state) (⟨1,1,0,0,[],[],[]⟩))],none,false⟩) zb)
theorem xy:aP Try.prog (aq aI) Cw:=(aC (aB al ao fun (_) (_) _=>wc  ) rb)
end Go.Proofs.Ytdggohppeeaipaa
namespace Go.Proofs.Ytdggohppeeaipaa
open Go.RowKit
def CB:cu:=Cw
theorem yC:aP Try.prog (aq aI) CB:=xy
end Go.Proofs.Ytdggohppeeaipaa
namespace Go.Proofs.Ytdggohppeeaipaa
open Go.RowKit
section
variable {s:State} {c:Command}
theorem hU {α:Type} {key:α->Int} {l:List α} {k:Nat} {x d:α} (hk:k<l.length) (h:key x=key (l.getD k d)):(l.set k x).map key=l.map key:=by
 rw [List.map_set,h,List.getD_eq_getElem?_getD,List.getElem?_eq_getElem hk,Option.getD_some]
 have:key l[k]=(l.map key)[k]'(by rw [List.length_map]; exact hk):=by rw [List.getElem_map]
 rw [this,List.set_getElem_self]
theorem Fc (h0:mayF s s.version=0) (h:¬ bD c s.version=0):dh s c=(s,⟨bD c s.version,0⟩):=by
 have e:(if mayF s s.version=0 then bD c s.version else 1)=bD c s.version:=if_pos h0
 have:=Gk (s:=s) (c:=c) (by rw [e]; exact h)
 rwa [e] at this
theorem pL (h0:mayF s s.version=0) (h:bD c s.version=0):(if mayF s s.version=0 then bD c s.version else 1)=0:=by rw [if_pos h0]; exact h
theorem nW (h0:mayF s s.version=0) (h:¬ bD c s.version=0):(dh s c).2.code=bD c s.version:=by rw [Fc h0 h]
theorem BW (h0:mayF s s.version=0) (h1:bD c s.version=0) (h3:¬ c.kind=8) (h4:¬ c.kind=1) (hk:0<=ah Sess.client c.client s.sess) (hq:c.seq=(s.sess.getD (ah Sess.client c.client s.sess).toNat (dflt (.nm .sess))).seq+1) :
  dh s c=(State.mk (bw s c).1.version (bw s c).1.next (bw s c).1.keep (bw s c).1.quota (s.sess.set (ah Sess.client c.client s.sess).toNat (Sess.mk (s.sess.getD (ah Sess.client c.client s.sess).toNat (dflt (.nm .sess))).client c.seq (bw s c).2)) (bw s c).1.opens (bw s c).1.snaps,(bw s c).2):=by
 rw [Fu (pL h0 h1) h3 h4]
 obtain ⟨v,nx,kp,qt,se,op,sn⟩:=s
 rw [Hn hk (by dsimp only at *; omega) (by dsimp only at *; omega) (by dsimp only at *; omega)]
 simp only [mU]
theorem AF (h0:mayF s s.version=0) (h1:bD c s.version=0) (h3:¬ c.kind=8) (h4:¬ c.kind=1) (h:ah Sess.client c.client s.sess<0\/¬ c.seq=(s.sess.getD (ah Sess.client c.client s.sess).toNat (dflt (.nm .sess))).seq+1):(dh s c).1=s:=by
 rw [Fu (pL h0 h1) h3 h4]
 by_cases hk:ah Sess.client c.client s.sess<0
 ·rw [show bd s c=_ from Ho hk]
 ·have hk:0<=ah Sess.client c.client s.sess:=by omega
  have h:=h.resolve_left (by omega)
  by_cases e:c.seq=(s.sess.getD (ah Sess.client c.client s.sess).toNat (dflt (.nm .sess))).seq
  ·rw [show bd s c=_ from Hl hk e]
  ·by_cases l:c.seq<(s.sess.getD (ah Sess.client c.client s.sess).toNat (dflt (.nm .sess))).seq
   ·rw [show bd s c=_ from Hr hk e l]
   ·rw [show bd s c=_ from Hs hk e (by omega) (by omega)]
end
end Go.Proofs.Ytdggohppeeaipaa
namespace Go.Proofs.Ytdggohppeeaipaa
open Go.RowKit
theorem dO {c:Command} {v:Int} (h:bD c v=0):(1<=v/\v<=3)/\¬ cN c.kind=0/\cN c.kind<=v/\eg c=true:=by
 unfold bD at h
 split at h
 ·cases h
 ·rename_i h1
  rw [Bool.or_eq_true,not_or] at h1
  simp only [Bool.not_eq_true',Bool.not_eq_false,decide_eq_true_eq] at h1
  split at h
  ·cases h
  ·split at h
   ·cases h
   ·rename_i h2 h3
    exact ⟨mJ h1.1,h1.2,by omega,by simpa using h3⟩
theorem wG {c:Command} {v:Int}:0<=bD c v/\bD c v<=99:=by
 unfold bD; (repeat' split) <;> omega
theorem na {s:State} {c:Command}:0<=bF s c/\bF s c<=99:=by
 unfold bF; split
 ·exact wG
 ·omega
theorem eI {s:State} {c:Command} (h:bF s c=0):mayF s s.version=0/\bD c s.version=0:=by
 have h1:=qF (s:=s) (c:=c) h
 refine ⟨h1,?_⟩
 unfold bF at h; rwa [if_pos h1] at h
theorem lK {s:State} {v:Int} (h1:bU v 1 3=true) (h2:cV s v=true) (h3:kZ s=true) (h4:jB s=true) (h5:dr s v=true):mayF s v=0:=by
 unfold mayF; simp [h1,h2,h3,h4,h5]
theorem ns {s:State} {v:Int} (h1:s.snaps.length<=16) (h2:ak Snap.id (s.next - 1) 0 s.snaps=true) (h3:∀ x ∈ s.snaps,bg v (dB v) x=true):dr s v=true:=by
 unfold dr
 rw [h2,decide_eq_false (by omega),List.all_eq_true.2 h3]; rfl
section
variable {α:Type} {key:α->Int} {most:Int}
theorem xK:∀ {l:List α} {a b:Int},a<=b->ak key most b l=true->ak key most a l=true
 | [],_,_,_,_=>rfl
 | x :: l,a,b,h,k=>by
  simp only [ak,Bool.and_eq_true] at k ⊢
  have:=mJ k.1
  exact ⟨by unfold bU; rw [Bool.and_eq_true,decide_eq_true_eq,decide_eq_true_eq]; omega,k.2⟩
theorem oH {l l':List α} (h:l'.Sublist l):∀ {a:Int},ak key most a l=true->ak key most a l' = true:=by
 induction h with
 | slnil=>intro a _; rfl
 | cons x _ ih=>
  intro a k
  simp only [ak,Bool.and_eq_true] at k
  have:=mJ k.1
  exact ih (xK (by omega) k.2)
 | cons_cons x _ ih=>
  intro a k
  simp only [ak,Bool.and_eq_true] at k ⊢
  exact ⟨k.1,ih k.2⟩
theorem iG:∀ {l:List α} {a:Int},ak key most a l=ak id most a (l.map key)
 | [],_=>rfl
 | x :: l,a=>by
  show (bU (key x) (a+1) most && ak key most (key x) l)=(bU (key x) (a+1) most && ak id most (key x) (l.map key))
  rw [iG (l:=l)]
theorem uh {x:α} {m2:Int} (hx:most<key x) (hm:key x<=m2):∀ {l:List α} {a:Int},a<=most->ak key most a l=true->ak key m2 a (l++[x])=true
 | [],a,ha,_=>by
  simp only [List.nil_append,ak,Bool.and_true]
  unfold bU; rw [Bool.and_eq_true,decide_eq_true_eq,decide_eq_true_eq]; omega
 | y :: l,a,_,k=>by
  simp only [List.cons_append,ak,Bool.and_eq_true] at k ⊢
  have:=mJ k.1
  exact ⟨by unfold bU; rw [Bool.and_eq_true,decide_eq_true_eq,decide_eq_true_eq]; omega,uh hx hm (by omega) k.2⟩
theorem oN {x:α}:∀ {l:List α} {a:Int},ak key most a l=true->a<key x->key x<=most->(∀ y ∈ l,¬ key y=key x)->ak key most a (fb l (l.takeWhile fun y=>decide (key y<key x)).length x)=true
 | [],a,_,h1,h2,_=>by
  show (bU (key x) (a+1) most && true)=true
  unfold bU; simp; omega
 | y :: l,a,k,h1,h2,hn=>by
  simp only [ak,Bool.and_eq_true] at k
  have h3:=mJ k.1
  have h4:=hn y (List.mem_cons_self)
  by_cases h:key y<key x
  ·have e:fb (y :: l) ((y :: l).takeWhile fun y=>decide (key y<key x)).length x=y :: fb l (l.takeWhile fun y=>decide (key y<key x)).length x:=by
    rw [List.takeWhile_cons,decide_eq_true h,if_pos rfl]; rfl
   rw [e]
   simp only [ak,Bool.and_eq_true]
   exact ⟨k.1,oN k.2 h h2 fun z hz=>hn z (List.mem_cons_of_mem _ hz)⟩
  ·have e:fb (y :: l) ((y :: l).takeWhile fun y=>decide (key y<key x)).length x=x :: y :: l:=by
    rw [List.takeWhile_cons,decide_eq_false h]; rfl
   rw [e]
   simp only [ak,Bool.and_eq_true]
   refine ⟨?_,?_,k.2⟩
   ·unfold bU; rw [Bool.and_eq_true,decide_eq_true_eq,decide_eq_true_eq]; omega
   ·unfold bU; rw [Bool.and_eq_true,decide_eq_true_eq,decide_eq_true_eq]; omega
theorem ua {l:List α} {i:Nat} {x y:α} (h:y ∈ fb l i x):y=x\/y ∈ l:=by
 unfold fb at h
 rcases List.mem_append.1 h with h | h
 ·exact .inr (List.mem_of_mem_take h)
 ·rcases List.mem_cons.1 h with h | h
  ·exact .inl h
  ·exact .inr (List.mem_of_mem_drop h)
theorem tW {l:List α} {i:Int} (h:0<=i):(uT l i).Sublist l:=by
 unfold uT
 rw [show (i+1).toNat=i.toNat+1 by omega]
 have h1:(l.drop (i.toNat+1)).Sublist (l.drop i.toNat):=by
  rw [<- List.drop_drop]; exact List.drop_sublist 1 _
 have h2:=(List.Sublist.refl (l.take i.toNat)).append h1
 rwa [List.take_append_drop] at h2
theorem mE {want:Int} {l:List α} (h:ah key want l<0):∀ x ∈ l,¬ key x=want:=by
 refine gW.1 ?_
 unfold ah at *
 split
 ·rename_i i hi; rw [hi] at h; dsimp only at h; omega
 ·rfl
end
theorem gj {c:Command} (h:eg c=true):(kN c.kind).1<=c.n/\c.n<=(kN c.kind).2/\Gd c=true/\Ge c=true/\fE c.client 8 (!([(8:Int)].contains c.kind))=true/\fE c.seq 1048576 (!([(1:Int),8].contains c.kind))=true/\fE c.set 8 ([(2:Int),3,4].contains c.kind)=true:=by
 unfold eg at h
 simp only [Bool.and_eq_true,decide_eq_true_eq] at h
 obtain ⟨⟨⟨⟨⟨⟨⟨h1,h2⟩,h3⟩,h4⟩,h5⟩,h6⟩,h7⟩,h8⟩:=h
 exact ⟨h1,h2,h3,h4,h5,h6,h7⟩
theorem mb {c:Command} (h:eg c=true) (k:¬ c.kind=8):1<=c.client/\c.client<=8:=by
 have h1:=(gj h).2.2.2.2.1
 have e:(!([(8:Int)].contains c.kind))=true:=by simp [k]
 rw [e] at h1; unfold fE at h1; simpa using h1
theorem Cd {c:Command} (h:eg c=true) (k:¬ c.kind=8) (k1:¬ c.kind=1):1<=c.seq/\c.seq<=1048576:=by
 have h1:=(gj h).2.2.2.2.2.1
 have e:(!([(1:Int),8].contains c.kind))=true:=by simp [k,k1]
 rw [e] at h1; unfold fE at h1; simpa using h1
theorem uk {c:Command} (h:eg c=true) (k:c.kind=2\/c.kind=3\/c.kind=4):1<=c.set/\c.set<=8:=by
 have h1:=(gj h).2.2.2.2.2.2
 have e:([(2:Int),3,4].contains c.kind)=true:=by rcases k with k | k | k <;> rw [k] <;> decide
 rw [e] at h1; unfold fE at h1; simpa using h1
theorem xJ {c:Command} (h:eg c=true):(c.kind=8->2<=c.n/\c.n<=3)/\(c.kind=6->0<=c.n/\c.n<=8)/\(c.kind=12->0<=c.n/\c.n<=64):=by
 obtain ⟨h1,h2,_⟩:=gj h
 refine ⟨fun k=>?_,fun k=>?_,fun k=>?_⟩ <;> (rw [k] at h1 h2; exact ⟨h1,h2⟩)
theorem BM {c:Command} (h:eg c=true) (k:c.kind=11):(c.text.b.length:Int)<=16:=by
 have h1:=(gj h).2.2.2.1
 unfold Ge at h1; rw [if_pos k] at h1; simpa using h1
theorem rO {c:Command} (h:eg c=true) (k:c.kind=3):cW c.chunks=0:=by
 have h1:=(gj h).2.2.1
 unfold Gd at h1; rw [if_pos k] at h1; exact (eB h1).symm
theorem vA {l:List Snap}:distF l<=64:=Ap
theorem wI {l:List Snap} {id:Int}:(ft l id).length<=64:=by
 have:=Df (l:=l) (id:=id) (k:=64) (n:=0) (Nat.le_refl _)
 unfold ft iS
 rw [List.length_map]
 refine Nat.le_trans (List.length_filter_le _ _) ?_
 simp
end Go.Proofs.Ytdggohppeeaipaa
namespace Go.Proofs.Ytdggohppeeaipaa
open Go.RowKit
theorem oC {s:State} {v:Int} (a:bU s.version 1 3=true) (b:bU s.next 1 1048576=true) (c:bU s.keep 0 8=true) (d:bU s.quota 0 (if v<3 then 0 else 64)=true):cV s v=true:=by
 unfold cV; rw [a,b,c,d]; rfl
theorem gg {s:State} {v:Int} (h:cV s v=true):bU s.version 1 3=true/\bU s.next 1 1048576=true/\bU s.keep 0 8=true/\bU s.quota 0 (if v<3 then 0 else 64)=true:=by
 unfold cV at h; simp only [Bool.and_eq_true] at h; exact ⟨h.1.1.1,h.1.1.2,h.1.2,h.2⟩
theorem zM {n a b:Int} (h1:a<=n) (h2:n<=b):bU n a b=true:=by unfold bU; rw [decide_eq_true h1,decide_eq_true h2]; rfl
theorem eH {s:State} (M:mayF s s.version=0) {nx:Int} {op:List Opn} {sn:List Snap} (hn:1<=nx/\nx<=1048576) (ho:ak Opn.set 8 0 op=true/\∀ x ∈ op,bN x=true) (h1:sn.length<=16) (h2:ak Snap.id (nx - 1) 0 sn=true) (h3:∀ x ∈ sn,bg s.version (dB s.version) x=true):mayF (State.mk s.version nx s.keep s.quota s.sess op sn) s.version=0:=by
 obtain ⟨k1,k2,k3,k4,k5⟩:=bE M
 obtain ⟨n1,n2,n3,n4⟩:=gg k2
 refine lK k1 (oC n1 (zM hn.1 hn.2) n3 n4) k3 ?_ (ns h1 h2 h3)
 show (ak Opn.set 8 0 op && op.all bN)=true
 rw [ho.1,List.all_eq_true.2 ho.2]; rfl
theorem cK {s:State} (M:mayF s s.version=0):ak Opn.set 8 0 s.opens=true/\∀ x ∈ s.opens,bN x=true:=by
 have h:=(bE M).2.2.2.1
 simp only [jB,Bool.and_eq_true,List.all_eq_true] at h
 exact h
theorem ig {s:State} {v:Int} (M:mayF s v=0):ak Sess.client 8 0 s.sess=true/\∀ x ∈ s.sess,bJ x=true:=by
 have h:=(bE M).2.2.1
 simp only [kZ,Bool.and_eq_true,List.all_eq_true] at h
 exact h
theorem gK {v t:Int} {x:Snap} (h:bg v t x=true):cW x.chunks=0/\bU x.set 1 8=true/\(x.held=false\/2<=v)/\((x.tag.b.length:Nat):Int)<=t:=by
 simp only [bg,Bool.and_eq_true,decide_eq_true_eq,Bool.or_eq_true,Bool.not_eq_true'] at h
 exact ⟨h.1.1.1,h.1.1.2,h.1.2,h.2⟩
theorem ko {v t:Int} {x:Snap} (h1:cW x.chunks=0) (h2:bU x.set 1 8=true) (h3:x.held=false\/2<=v) (h4:((x.tag.b.length:Nat):Int)<=t):bg v t x=true:=by
 simp only [bg,Bool.and_eq_true,decide_eq_true_eq,Bool.or_eq_true,Bool.not_eq_true']
 exact ⟨⟨⟨h1,h2⟩,h3⟩,h4⟩
theorem mw {s:State} (M:mayF s s.version=0) {n:Nat} (h:n<s.snaps.length):bg s.version (dB s.version) (s.snaps.getD n (dflt (.nm .snap)))=true:=
 (fi M).2.2 _ (List.mem_of_getElem? (gd (d:=dflt (.nm .snap)) (by omega)))
theorem tT {s:State} (M:mayF s s.version=0) {n:Nat} (h:n<s.snaps.length) {x:Snap} (hi:x.id=(s.snaps.getD n (dflt (.nm .snap))).id) (hx:bg s.version (dB s.version) x=true):mayF (State.mk s.version s.next s.keep s.quota s.sess s.opens (s.snaps.set n x)) s.version=0:=by
 obtain ⟨k1,k2,k3⟩:=fi M
 refine eH M (jg M) (cK M) (by rw [List.length_set]; exact k1) ?_ fun y hy=>?_
 ·rw [iG,hU (d:=dflt (.nm .snap)) h hi,<- iG]; exact k2
 ·rcases List.mem_or_eq_of_mem_set hy with hy | rfl
  ·exact k3 y hy
  ·exact hx
structure ActOk (s:State) (r:State × Reply):Prop where
 may:mayF r.1 r.1.version=0
 ver:r.1.version=s.version
 nxt:s.next<=r.1.next/\r.1.next<=s.next+1
 code:0<=r.2.code/\r.2.code<=99
 n:0<=r.2.n/\r.2.n<=1048576
theorem ActOk.refl {s:State} (M:mayF s s.version=0) {e n:Int} (h1:0<=e/\e<=99) (h2:0<=n/\n<=1048576):ActOk s (s,⟨e,n⟩):=⟨M,rfl,⟨Int.le_refl _,by show s.next<=s.next+1; omega⟩,h1,h2⟩
theorem zm {Q:State × Reply->Prop} {s:State} {c:Command} (h0:∀ e:Int,¬ e=0->0<=e->e<=99->Q (s,⟨e,0⟩))
  (ht:bF s c=0->c.kind=11->Q (au (cw c) c s)) (hh:∀ b,bF s c=0->(b=true->c.kind=9)->(c.kind=9\/c.kind=10)->Q (au (bh b) c s)) (hl:bF s c=0->c.kind=7->Q (au bb c s)) (hp:bF s c=0->c.kind=5->Q (au aJ c s))
  (hq:bF s c=0->c.kind=12->Q (cn c s)) (hk:bF s c=0->c.kind=6->Q (cQ c s)) (ha:bF s c=0->c.kind=4->Q (aU s c)) (hc:bF s c=0->c.kind=3->Q (aM s c)) (hb:bF s c=0->c.kind=2->Q (aS s c)):Q (bw s c):=by
 unfold bw
 split
 ·exact h0 _ (by assumption) na.1 na.2
 ·rename_i h
  have h:bF s c=0:=Classical.not_not.1 h
  unfold vI
  split
  ·exact ht h (by assumption)
  split
  ·rename_i _ k; exact hh _ h (fun e=>by cases e) (.inr k)
  split
  ·rename_i _ _ k; exact hh _ h (fun _=>k) (.inl k)
  split
  ·exact hl h (by assumption)
  split
  ·exact hp h (by assumption)
  split
  ·exact hq h (by assumption)
  split
  ·exact hk h (by assumption)
  split
  ·exact ha h (by assumption)
  split
  ·exact hc h (by assumption)
  split
  ·exact hb h (by assumption)
  ·exact h0 1 (by decide) (by decide) (by decide)
theorem fg {Q:State × Reply->Prop} {f:State->Nat->State × Reply} {s:State} {c:Command} (h0:Q (s,⟨15,0⟩)) (h:∀ n:Nat,(n:Int)=ah Snap.id c.id s.snaps->n<s.snaps.length->Q (f s n)):Q (au f c s):=by
 unfold au
 split
 ·exact h0
 ·rename_i hp
  have:=bB (key:=Snap.id) (want:=c.id) (l:=s.snaps) (by omega)
  exact h _ (by omega) (by omega)
theorem xZ {s:State} {c:Command} (M:mayF s s.version=0):ActOk s (bw s c):=by
 have mk:∀ {e:Int},0<=e->e<=99->ActOk s (s,⟨e,0⟩):=fun h1 h2=>ActOk.refl M ⟨h1,h2⟩ ⟨Int.le_refl _,by decide⟩
 have one:s.next<=s.next+1:=by omega
 have z:(0:Int)<=0/\(0:Int)<=99:=by decide
 have zn:(0:Int)<=0/\(0:Int)<=1048576:=by decide
 have z1:(0:Int)<=1/\(1:Int)<=1048576:=by decide
 refine zm (fun e _ h1 h2=>mk h1 h2) (fun A k=>?_) (fun b A kb k=>?_) (fun A k=>?_) (fun A k=>?_) (fun A k=>?_) (fun A k=>?_) (fun A k=>?_) (fun A k=>?_) (fun A k=>?_)
 ·-- a tag
  obtain ⟨⟨v1,v2⟩,_,nv,F⟩:=dO (eI A).2
  refine fg (Q:=ActOk s) (mk (by decide) (by decide)) fun n hn hl=>?_
  obtain ⟨p1,p2,p3,p4⟩:=gK (mw M hl)
  rw [k,show cN 11=3 from rfl] at nv
  have tm:dB s.version=16:=by unfold dB; rw [if_neg (by omega)]
  refine ⟨tT M hl rfl (ko p1 p2 p3 ?_),rfl,⟨Int.le_refl _,one⟩,z,zn⟩
  rw [tm]; exact BM F k
 ·-- a hold
  obtain ⟨⟨v1,v2⟩,_,nv,F⟩:=dO (eI A).2
  refine fg (Q:=ActOk s) (mk (by decide) (by decide)) fun n hn hl=>?_
  obtain ⟨p1,p2,p3,p4⟩:=gK (mw M hl)
  unfold bh
  split
  ·exact mk (by decide) (by decide)
  ·refine ⟨tT M hl rfl (ko p1 p2 (.inr ?_) p4),rfl,⟨Int.le_refl _,one⟩,z,z1⟩
   rcases k with k | k
   ·rw [k,show cN 9=2 from rfl] at nv; exact nv
   ·rw [k,show cN 10=2 from rfl] at nv; exact nv
 ·-- a look
  refine fg (Q:=ActOk s) (mk (by decide) (by decide)) fun n hn hl=>?_
  have h1:=oY (yS (mw M hl))
  exact ActOk.refl M ⟨by decide,by decide⟩ ⟨by omega,by omega⟩
 ·-- a prune
  refine fg (Q:=ActOk s) (mk (by decide) (by decide)) fun n hn hl=>?_
  unfold aJ
  split
  ·exact mk (by decide) (by decide)
  split
  ·exact mk (by decide) (by decide)
  ·obtain ⟨k1,k2,k3⟩:=fi M
   have hs:(aW (s.snaps.getD n (dflt (.nm .snap))).id s.snaps).Sublist s.snaps:=List.filter_sublist
   have hf:=wI (l:=s.snaps) (id:=(s.snaps.getD n (dflt (.nm .snap))).id)
   exact ⟨eH M (jg M) (cK M) (Nat.le_trans hs.length_le k1) (oH hs k2) fun x hx=>k3 x (hs.subset hx),rfl,⟨Int.le_refl _,one⟩,z,⟨by dsimp only; omega,by dsimp only; omega⟩⟩
 ·-- a quota
  obtain ⟨⟨v1,v2⟩,_,nv,F⟩:=dO (eI A).2
  rw [k,show cN 12=3 from rfl] at nv
  obtain ⟨k1,k2,k3,k4,k5⟩:=bE M
  obtain ⟨n1,n2,n3,n4⟩:=gg k2
  have hn:=(xJ F).2.2 k
  have hd:=vA (l:=s.snaps)
  refine ⟨lK k1 (oC n1 n2 n3 ?_) k3 k4 k5,rfl,⟨Int.le_refl _,one⟩,z,⟨by show (0:Int)<=(distF s.snaps:Int); omega,by show (distF s.snaps:Int)<=1048576; omega⟩⟩
  show bU c.n 0 (if s.version<3 then 0 else 64)=true
  rw [if_neg (by omega)]; exact zM hn.1 hn.2
 ·-- a keep
  obtain ⟨_,_,_,F⟩:=dO (eI A).2
  obtain ⟨k1,k2,k3,k4,k5⟩:=bE M
  obtain ⟨n1,n2,n3,n4⟩:=gg k2
  have hn:=(xJ F).2.1 k
  exact ⟨lK k1 (oC n1 n2 (zM hn.1 hn.2) n4) k3 k4 k5,rfl,⟨Int.le_refl _,one⟩,z,zn⟩
 ·-- an abort
  unfold aU
  split
  ·exact mk (by decide) (by decide)
  ·obtain ⟨k1,k2,k3⟩:=fi M
   have hs:=tW (l:=s.opens) (i:=bz s c) (by omega)
   exact ⟨eH M (jg M) ⟨oH hs (cK M).1,fun x hx=>(cK M).2 x (hs.subset hx)⟩ k1 k2 k3,rfl,⟨Int.le_refl _,one⟩,z,zn⟩
 ·-- a commit
  obtain ⟨⟨v1,v2⟩,_,nv,F⟩:=dO (eI A).2
  unfold aM
  split
  ·exact mk (by decide) (by decide)
  split
  ·exact mk (by decide) (by decide)
  split
  ·exact mk (by decide) (by decide)
  ·rename_i o1 o2 o3
   obtain ⟨k1,k2,k3⟩:=fi M
   have hnx:=jg M
   have hs:=tW (l:=s.opens) (i:=bz s c) (by omega)
   have hset:=uk F (.inr (.inl k))
   refine ⟨eH M ⟨by omega,by omega⟩ ⟨oH hs (cK M).1,fun x hx=>(cK M).2 x (hs.subset hx)⟩ (by rw [List.length_append]; simp only [List.length_cons,List.length_nil]; omega) ?_ fun x hx=>?_,rfl,⟨by dsimp only; omega,by dsimp only; omega⟩,z,⟨by dsimp only; omega,by dsimp only; omega⟩⟩
   ·exact uh (most:=s.next - 1) (by dsimp only; omega) (by dsimp only; omega) (by omega) k2
   ·rcases List.mem_append.1 hx with hx | hx
    ·exact k3 x hx
    ·rw [List.mem_singleton] at hx; subst hx
     refine ko (rO F k) (zM hset.1 hset.2) (.inl rfl) ?_
     show (0:Int)<=dB s.version
     unfold dB; split <;> decide
 ·-- a begin
  obtain ⟨⟨v1,v2⟩,_,nv,F⟩:=dO (eI A).2
  have hset:=uk F (.inl k)
  have hcl:=mb F (by omega)
  unfold aS
  split
  ·rename_i hp
   have hl:=bB hp
   have ho:=(cK M).2 _ (List.mem_of_getElem? (gd (d:=dflt (.nm .opn)) (k:=(ah Opn.set c.set s.opens).toNat) (l:=s.opens) (by omega)))
   have:=mJ (show bU _ 1 8=true from ho)
   exact ActOk.refl M ⟨by decide,by decide⟩ ⟨by omega,by omega⟩
  ·rename_i hp
   obtain ⟨k1,k2,k3⟩:=fi M
   refine ⟨eH M (jg M) ⟨oN (x:=Opn.mk c.set c.client) (cK M).1 (by dsimp only; omega) (by dsimp only; omega) fun y hy=>mE (key:=Opn.set) (want:=c.set) (l:=s.opens) (by omega) y hy,fun x hx=>?_⟩ k1 k2 k3,rfl,⟨Int.le_refl _,one⟩,z,zn⟩
   rcases ua hx with rfl | hx
   ·exact zM hcl.1 hcl.2
   ·exact (cK M).2 x hx
end Go.Proofs.Ytdggohppeeaipaa
namespace Go.Proofs.Ytdggohppeeaipaa
open Go.RowKit
theorem nr {s:State} {v:Int} (M:mayF s v=0) {se:List Sess} (h:ak Sess.client 8 0 se=true/\∀ x ∈ se,bJ x=true):mayF (State.mk s.version s.next s.keep s.quota se s.opens s.snaps) v=0:=by
 obtain ⟨k1,k2,k3,k4,k5⟩:=bE M
 refine lK k1 k2 ?_ k4 k5
 show (ak Sess.client 8 0 se && se.all bJ)=true
 rw [h.1,List.all_eq_true.2 h.2]; rfl
theorem yF {s:State} {c:Command} (M:mayF s s.version=0) (h:bD c s.version=0) (k:c.kind=8) (hn:c.n=s.version+1):mayF (State.mk c.n s.next s.keep s.quota s.sess s.opens s.snaps) c.n=0:=by
 obtain ⟨⟨v1,v2⟩,_,nv,F⟩:=dO h
 have hr:=(xJ F).1 k
 obtain ⟨k1,k2,k3,k4,k5⟩:=bE M
 obtain ⟨n1,n2,n3,n4⟩:=gg k2
 obtain ⟨s1,s2,s3⟩:=fi M
 have hq:=mJ n4
 refine lK (zM (by omega) hr.2) (oC (zM (by dsimp only; omega) hr.2) n2 n3 ?_) k3 k4 (ns s1 s2 fun x hx=>?_)
 ·show bU s.quota 0 (if c.n<3 then 0 else 64)=true
  refine zM hq.1 ?_
  have:=hq.2
  split at this <;> split <;> omega
 ·obtain ⟨p1,p2,p3,p4⟩:=gK (s3 x hx)
  refine ko p1 p2 (p3.imp id fun h=>by omega) (Int.le_trans p4 ?_)
  unfold dB; split <;> split <;> omega
theorem Ah {s:State} {c:Command} (M:mayF s s.version=0) (h:bD c s.version=0) (k:c.kind=1) (hp:ah Sess.client c.client s.sess<0):mayF (State.mk s.version s.next s.keep s.quota (fb s.sess (s.sess.takeWhile fun y=>decide (y.client<c.client)).length ⟨c.client,0,⟨0,0⟩⟩) s.opens s.snaps) s.version=0:=by
 obtain ⟨_,_,_,F⟩:=dO h
 have hc:=mb F (by omega)
 refine nr M ⟨oN (x:=Sess.mk c.client 0 (Reply.mk 0 0)) (ig M).1 (by dsimp only; omega) (by dsimp only; omega) fun y hy=>mE (key:=Sess.client) (want:=c.client) (l:=s.sess) hp y hy,fun x hx=>?_⟩
 rcases ua hx with rfl | hx
 ·rfl
 ·exact (ig M).2 x hx
theorem wy {s:State} {c:Command} (M:mayF s s.version=0) (h:bD c s.version=0) (h3:¬ c.kind=8) (h4:¬ c.kind=1) (hk:0<=ah Sess.client c.client s.sess):mayF (State.mk (bw s c).1.version (bw s c).1.next (bw s c).1.keep (bw s c).1.quota (s.sess.set (ah Sess.client c.client s.sess).toNat (Sess.mk (s.sess.getD (ah Sess.client c.client s.sess).toNat (dflt (.nm .sess))).client c.seq (bw s c).2)) (bw s c).1.opens (bw s c).1.snaps) (bw s c).1.version=0:=by
 obtain ⟨a1,a2,a3,a4,a5⟩:=xZ (c:=c) M
 obtain ⟨_,_,_,F⟩:=dO h
 have hq:=Cd F h3 h4
 have hl:=bB hk
 have hn:(ah Sess.client c.client s.sess).toNat<s.sess.length:=by omega
 refine nr a1 ⟨?_,fun x hx=>?_⟩
 ·rw [iG,hU (d:=dflt (.nm .sess)) (x:=Sess.mk (s.sess.getD (ah Sess.client c.client s.sess).toNat (dflt (.nm .sess))).client c.seq (bw s c).2) hn rfl,<- iG]; exact (ig M).1
 ·rcases List.mem_or_eq_of_mem_set hx with hx | rfl
  ·exact (ig M).2 x hx
  ·show ((bU c.seq 0 1048576 && bU (bw s c).2.code 0 99) && bU (bw s c).2.n 0 1048576)=true
   rw [zM (n:=c.seq) (a:=0) (b:=1048576) (by omega) hq.2,zM a4.1 a4.2,zM a5.1 a5.2]; rfl
end Go.Proofs.Ytdggohppeeaipaa
namespace Go.Proofs.Ytdggohppeeaipaa
open Go.RowKit
section
variable {α:Type} {key:α->Int} {most:Int}
theorem xE {l:List α} {i:Nat} {x y:α} (h:y ∈ l):y ∈ fb l i x:=by
 unfold fb
 rw [<- List.take_append_drop i l] at h
 rcases List.mem_append.1 h with h | h
 ·exact List.mem_append.2 (.inl h)
 ·exact List.mem_append.2 (.inr (List.mem_cons_of_mem _ h))
theorem Ba {l:List α} {i:Nat} {x:α}:l.length<=(fb l i x).length:=by
 unfold fb; rw [List.length_append,List.length_cons,List.length_take,List.length_drop]; omega
end
structure DoOk (s:State) (c:Command) (r:State × Reply):Prop where
 may:mayF r.1 r.1.version=0
 ver:r.1.version=if c.kind=8/\r.2.code=0 then s.version+1 else s.version
 nxt:s.next<=r.1.next/\r.1.next<=s.next+1
 len:s.sess.length<=r.1.sess.length
 seq:∀ x ∈ s.sess,∃ y ∈ r.1.sess,y.client=x.client/\x.seq<=y.seq/\y.seq<=x.seq+1
theorem kv {s:State} (c:Command) {r:Reply} (M:mayF s s.version=0) (h:c.kind=8->¬ r.code=0):DoOk s c (s,r):=
 ⟨M,(if_neg fun hc=>h hc.1 hc.2).symm,⟨Int.le_refl _,by dsimp only; omega⟩,Nat.le_refl _,fun x hx=>⟨x,hx,rfl,Int.le_refl _,by omega⟩⟩
theorem xb {s:State} {c:Command} (M:mayF s s.version=0):DoOk s c (dh s c):=by
 by_cases h:bD c s.version=0
 ·by_cases k8:c.kind=8
  ·by_cases hn:c.n=s.version+1
   ·have e:dh s c=(State.mk c.n s.next s.keep s.quota s.sess s.opens s.snaps,⟨0,c.n⟩):=ye (pL M h) k8 hn
    rw [e]
    exact ⟨yF M h k8 hn,(hn.trans (if_pos ⟨k8,rfl⟩).symm:_),⟨Int.le_refl _,by dsimp only; omega⟩,Nat.le_refl _,fun x hx=>⟨x,hx,rfl,Int.le_refl _,by omega⟩⟩
   ·rw [yz (pL M h) k8 hn]; exact kv c M fun _=>by decide
  ·by_cases k1:c.kind=1
   ·by_cases hp:0<=ah Sess.client c.client s.sess
    ·rw [Bi (pL M h) k1 hp]; exact kv c M fun k=>absurd k k8
    ·have hp:ah Sess.client c.client s.sess<0:=by omega
     rw [AI (pL M h) k1 hp]
     exact ⟨Ah M h k1 hp,(if_neg fun hc=>k8 hc.1).symm,⟨Int.le_refl _,by dsimp only; omega⟩,Ba,fun x hx=>⟨x,xE hx,rfl,Int.le_refl _,by omega⟩⟩
   ·by_cases hq:0<=ah Sess.client c.client s.sess/\c.seq=(s.sess.getD (ah Sess.client c.client s.sess).toNat (dflt (.nm .sess))).seq+1
    ·obtain ⟨hk,hq⟩:=hq
     rw [BW M h k8 k1 hk hq]
     obtain ⟨a1,a2,a3,a4,a5⟩:=xZ (c:=c) M
     have hl:=bB hk
     have hn:(ah Sess.client c.client s.sess).toNat<s.sess.length:=by omega
     refine ⟨wy M h k8 k1 hk,a2.trans (if_neg fun hc=>k8 hc.1).symm,a3,by dsimp only; rw [List.length_set]; exact Nat.le_refl _,fun x hx=>?_⟩
     dsimp only
     generalize (ah Sess.client c.client s.sess).toNat=n at *
     obtain ⟨j,hj,rfl⟩:=List.getElem_of_mem hx
     by_cases hjn:j=n
     ·refine ⟨_,List.mem_set hn _,?_⟩
      rw [List.getD_eq_getElem?_getD,List.getElem?_eq_getElem hn,Option.getD_some] at hq ⊢
      subst hjn
      exact ⟨rfl,by dsimp only; omega,by dsimp only; omega⟩
     ·exact ⟨s.sess[j],List.mem_of_getElem? (i:=j) (by rw [List.getElem?_set_ne (fun hc=>hjn hc.symm),List.getElem?_eq_getElem hj]),rfl,Int.le_refl _,by omega⟩
    ·have e:=AF M h k8 k1 (by
      by_cases hk:ah Sess.client c.client s.sess<0
      ·exact .inl hk
      ·exact .inr fun hc=>hq ⟨by omega,hc⟩)
     have e2:dh s c=(s,(dh s c).2):=Prod.ext e rfl
     rw [e2]; exact kv c M fun k=>absurd k k8
 ·rw [Fc M h]; exact kv c M fun _=>h
end Go.Proofs.Ytdggohppeeaipaa
namespace Go.Proofs.Ytdggohppeeaipaa
open Go.RowKit
section
variable {s:State} {c:Command}
end
end Go.Proofs.Ytdggohppeeaipaa
namespace Go.Proofs.Ytdggohppeeaipaa
open Go.RowKit
section
variable {α:Type} {key:α->Int} {most:Int}
end
section
variable {s:State} {x:Snap} {i:Nat}
end
section
variable {s:State} {x:Snap} {i:Nat}
end
section
variable {s:State} {x:Snap} {i:Nat}
end
end Go.Proofs.Ytdggohppeeaipaa
namespace Go.Proofs.Ytdggohppeeaipaa
open Go.RowKit
def keepsX (s:State) (c:Command) (r:State × Reply) (i:Nat) (x:Snap):Prop:=
 (ah Snap.id x.id r.1.snaps<0/\c.kind=5/\c.id=x.id/\x.held=false/\hY s i=false/\r.2.code=0) \/
 (0<=ah Snap.id x.id r.1.snaps/\∃ y,r.1.snaps.getD (ah Snap.id x.id r.1.snaps).toNat (dflt (.nm .snap))=y/\y.chunks=x.chunks/\y.set=x.set/\(y.held=x.held\/c.kind=9\/c.kind=10)/\(y.tag=x.tag\/c.kind=11))
structure KeepOk (s:State) (c:Command) (r:State × Reply):Prop where
 x:∀ i x,s.snaps[i]? = some x->keepsX s c r i x
 more:r.1.snaps.length<=s.snaps.length\/(r.1.snaps.length=s.snaps.length+1/\c.kind=3/\r.2.code=0/\(r.1.snaps.getD s.snaps.length (dflt (.nm .snap))).id=r.2.n/\(s.quota=0\/(distF r.1.snaps:Int)<=s.quota))
section
variable {s:State} {c:Command} {k:Nat}
end
end Go.Proofs.Ytdggohppeeaipaa
namespace Go.Proofs.Ytdggohppeeaipaa
open Go.RowKit
section
variable {α:Type} {key:α->Int} {most:Int}
end
section
variable {s:State} {c:Command}
end
end Go.Proofs.Ytdggohppeeaipaa
namespace Go.Proofs.Ytdggohppeeaipaa
open Go.RowKit
end Go.Proofs.Ytdggohppeeaipaa
namespace Go.Proofs.Ytdggohppeeaipaa
open Go.RowKit
section
variable {α:Type} {key:α->Int} {x y d:α}
variable {l:List α} {k:Nat}
end
def CD:cu:=CB
theorem yk:aP Try.prog (aq aI) CD:=yC
end Go.Proofs.Ytdggohppeeaipaa
namespace Go.Proofs.Ytdggohppeeaipaa
open Go.RowKit
section
variable {st:State} {c:Command}
variable {i:Int} {x:Snap}
end
def CM:cu:=CD
theorem yu:aP Try.prog (aq aI) CM:=yk
end Go.Proofs.Ytdggohppeeaipaa
namespace Go.Proofs.Ytdggohppeeaipaa
open Go.RowKit
section
variable {st:State} {c:Command}
end
def Ce:cu:=CM
theorem xk:aP Try.prog (aq aI) Ce:=yu
end Go.Proofs.Ytdggohppeeaipaa
namespace Go.Proofs.Ytdggohppeeaipaa
open Go.RowKit
section
variable {st:State} {c:Command}
end
def CQ:cu:=Ce
theorem zS:aP Try.prog (aq aI) CQ:=xk
end Go.Proofs.Ytdggohppeeaipaa
namespace Go.Proofs.Ytdggohppeeaipaa
open Go.RowKit
section
variable {l:List Int} {k:Nat} {x:Int}
end
def CA:cu:=CQ
theorem xQ:aP Try.prog (aq aI) CA:=zS
end Go.Proofs.Ytdggohppeeaipaa
namespace Go.Proofs.Ytdggohppeeaipaa
open Go.RowKit
section
variable {st:State} {v:Int}
end
def Ci:cu:=CA
theorem zJ:aP Try.prog (aq aI) Ci:=xQ
end Go.Proofs.Ytdggohppeeaipaa
namespace Go.Proofs.Ytdggohppeeaipaa
open Go.RowKit
def CJ:cu:=Ci
theorem xB:aP Try.prog (aq aI) CJ:=zJ
end Go.Proofs.Ytdggohppeeaipaa
namespace Go.Proofs.Ytdggohppeeaipaa
open Go.RowKit
def Cy:cu:=CJ
theorem xm:aP Try.prog (aq aI) Cy:=xB
end Go.Proofs.Ytdggohppeeaipaa
namespace Go.Proofs.Ytdggohppeeaipaa
open Go.RowKit
def CG:cu:=Cy
theorem zf:aP Try.prog (aq aI) CG:=xm
end Go.Proofs.Ytdggohppeeaipaa
namespace Go.Proofs.Ytdggohppeeaipaa
open Go.RowKit
def Cs:cu:=CG
theorem xc:aP Try.prog (aq aI) Cs:=zf
end Go.Proofs.Ytdggohppeeaipaa
namespace Go.Proofs.Ytdggohppeeaipaa
open Go.RowKit
def pz:cu:=Cs
theorem iF:aP Try.prog (aq aI) pz:=xc
end Go.Proofs.Ytdggohppeeaipaa
namespace Go.Proofs.Ytdggohppeeaipaa
open Go.RowKit
end Go.Proofs.Ytdggohppeeaipaa
namespace Go.Proofs.Ytdggohppeeaipaa
open Go.RowKit
def ct (s:State) (l:List Command):State:=l.foldl (fun s c=>(dh s c).1) s
def cT (s:State):List Command->List Reply
 | []=>[]
 | c :: l=>(dh s c).2 :: cT (dh s c).1 l
def fI (l:List Command):List Command:=(l.take 40).map gQ
section
variable {s:State} {l:List Command} {x:Command} {k:Nat}
theorem pK:∀ {l:List Command} {s:State},cT s (l++[x])=cT s l++[(dh (ct s l) x).2]
 | [],_=>rfl
 | c :: l,s=>by
  show (dh s c).2 :: cT (dh s c).1 (l++[x])=(dh s c).2 :: (cT (dh s c).1 l++[(dh (ct (dh s c).1 l) x).2])
  rw [pK]
theorem bQ (hx:l[k]? = some x):(dh (ct s (l.take k)) x).1=ct s (l.take (k+1)):=by
 rw [aL hx]; unfold ct; rw [List.foldl_append]; rfl
theorem rH (hx:l[k]? = some x):cT s (l.take k)++[(dh (ct s (l.take k)) x).2]=cT s (l.take (k+1)):=by
 rw [aL hx,pK]
theorem kr:∀ {l:List Command} {s:State},(cT s l).length=l.length
 | [],_=>rfl
 | c :: l,s=>by
  show (cT (dh s c).1 l).length+1=l.length+1
  rw [kr]
end
section
variable {s:State} {l:List Command} {x:Command} {k:Nat} {d:Command}
theorem sB {y:Reply} (h:(k:Int)<l.length) (hl:l.length*88<=140737488355328):((cT s (l.take k)).length+[y].length)*16<=140737488355328:=by
 rw [kr,List.length_take]; simp only [List.length_cons,List.length_nil]; omega
theorem D_ (h:(l.length:Int)<=k):l.take k=l:=List.take_of_length_le (by omega)
end
def bW:List Command:=[Command.mk 1 1 0 0 0 0 [] (Str.mk []),Command.mk 2 1 1 2 0 0 [] (Str.mk []),Command.mk 2 1 1 2 0 0 [] (Str.mk [])]
theorem yB {l:List Command} {x:Command} {k:Nat} (hx:l[k]? = some x):(l.take k).map gQ++[gQ x]=(l.take (k+1)).map gQ:=by
 rw [aL hx,List.map_append]; rfl
theorem Ds {l:List Command} {k:Nat} (h:k<=40) (h2:(l.length:Int)<=k\/40<=(k:Int)):(l.take k).map gQ=fI l:=by
 unfold fI
 by_cases e:k=40
 ·rw [e]
 ·rw [List.take_of_length_le (by omega),List.take_of_length_le (by omega)]
end Go.Proofs.Ytdggohppeeaipaa
namespace Go.Proofs.Ytdggohppeeaipaa
open Go.RowKit
def Co (st:State) (l:List Command):List (Nat × LI):=[(4,{ σ:=Nat,F:=fun k=>([(2,one (.ptr 0 0)),(4,one (.ptr 1 0)),(6,one (.own 5)),(12,one (.fz (.nm .command) (l))),(13,one (.int (l).length)),(14,one (.int k))],[.box 29 ([.int ((((ct st (l.take k))).version)),.int ((((ct st (l.take k))).next)),.int ((((ct st (l.take k))).keep)),.int ((((ct st (l.take k))).quota)),.own 2,.own 3,.own 4]),.box 29 ([.int ((0)),.int ((0)),.int ((0)),.int ((0)),.em true,.em true,.em true]),.row 40 (.nm .sess) (((ct st (l.take k)).sess)),.row 48 (.nm .opn) (((ct st (l.take k)).opens)),.row 59 (.nm .snap) (((ct st (l.take k)).snaps)),.row 38 (.nm .reply) ((cT st (l.take k)))]),J:=fun k=>k<=l.length,μ:=fun k=>l.length - k })]
theorem AU (c:Command) (r0:Command):dx aI pz [] Try.f13 [.agg (cellsOf (.nm .command) c)] [] [.agg (cellsOf (.nm .command) r0)]=((fun (q10:Prop)=>(fun (q9:Prop)=>(fun (q8:Prop)=>(fun (q7:Prop)=>(fun (q6:Nat)=>(fun (q5:Prop)=>(fun (q4:Prop)=>(fun (q3:Int)=>(fun (q2:Prop)=>(fun (q1:Prop)=>(fun (q0:Int)=>I64 c.kind->I64 c.client->I64 c.seq->I64 c.set->I64 c.id->I64 c.n->q6*(8:Nat)<=(140737488355328:Nat)->c.text.b.length<=(140737488355328:Nat)->((12:Int)<(↑q6:Int)->(0:Int)<=(12:Int)/\(12:Int)<=(↑q6:Int)/\(q3<q0->(0:Int)<=q3/\q3<=q0/\q2/\q1/\q4/\q5/\q7/\q10/\q9/\q8)/\(q0<=q3->q2/\q1/\q4/\q5/\q7/\q10/\q9/\c.text=r0.text))/\((↑q6:Int)<=(12:Int)->(q3<q0->(0:Int)<=q3/\q3<=q0/\q2/\q1/\q4/\q5/\q7/\q10/\c.chunks=r0.chunks/\q8)/\(q0<=q3->q2/\q1/\q4/\q5/\q7/\q10/\c.chunks=r0.chunks/\c.text=r0.text))) (↑c.text.b.length:Int)) (c.client=r0.client)) (c.kind=r0.kind)) (40:Int)) (c.seq=r0.seq)) (c.set=r0.set)) c.chunks.length) (c.id=r0.id)) (Str.mk (List.take (40:Nat) c.text.b)=r0.text)) (List.take (12:Nat) c.chunks=r0.chunks)) (c.n=r0.n)):=by kernel_rfl
theorem Aw (c:Command):Sat Try.prog (aq aI) 13 [.agg (cellsOf (.nm .command) c)] [] ⟨[],[.agg (cellsOf (.nm .command) (gQ c))],none,false⟩:=by
 refine aX iF [] Try.func13 (by decide) (by kernel_rfl) ?_
 rw [AU]
 simp only [gQ,Str.cut]; (repeat' (first | refine And.intro ?_ ?_ | intro)) <;> first | trivial | rfl | omega | (symm; exact List.take_of_length_le (by omega)) | exact yR (by omega)
theorem Bl  (r0:List Command):dx aI pz [] Try.f12 [] [] [.c (.fz (.nm .command) (r0))]=((fun (q1:Int)=>(fun (q0:Command)=>[Command.mk (1:Int) (1:Int) q1 q1 q1 q1 [] (Str.mk []),q0,q0]=r0) (Command.mk (2:Int) (1:Int) (1:Int) (2:Int) q1 q1 [] (Str.mk []))) (0:Int)):=by kernel_rfl
theorem AD :Sat Try.prog (aq aI) 12 [] [] ⟨[],[.c (.fz (.nm .command) ((bW)))],none,false⟩:=by
 refine aX iF [] Try.func12 (by decide) (by kernel_rfl) ?_
 rw [Bl]
 (repeat' (first | with_reducible refine And.intro ?_ ?_ | with_reducible refine and_imp.2 ?_ | intro))
 all_goals (first | (first | with_reducible rfl | with_reducible assumption | omega | (refine av ?_ ?_ <;> omega)) | rfl)
theorem Ep (st:State) (l:List Command) (r0:Int) (r1:Int) (r2:Int) (r3:Int) (r4:List Sess) (r5:List Opn) (r6:List Snap) (r7:List Reply):sm aI pz (Co st l) Try.f7 [.agg (cellsOf (.nm .state) st),.c (.fz (.nm .command) (l))] [] [.agg ([.int (r0),.int (r1),.int (r2),.int (r3),.own 0,.own 1,.own 2]),.c (.own 3)] [.row 40 (.nm .sess) (r4),.row 48 (.nm .opn) (r5),.row 59 (.nm .snap) (r6),.row 38 (.nm .reply) (r7)]=((fun (q2:Nat)=>(fun (q1:Nat)=>(fun (q0:Prop)=>I64 st.version->I64 st.next->I64 st.keep->I64 st.quota->st.sess.length*(32:Nat)<=q2->st.opens.length*(16:Nat)<=q2->st.snaps.length*(64:Nat)<=q2->l.length*(88:Nat)<=q2->I64 st.version->I64 st.next->I64 st.keep->I64 st.quota->∃ (s0:Nat),(fun (q3:State)=>(l=l/\(↑l.length:Int)=(↑q1:Int)/\(0:Int)=(↑s0:Int)/\st.version=q3.version/\st.next=q3.next/\st.keep=q3.keep/\st.quota=q3.quota/\q0/\q0/\q0/\q0/\st.sess=q3.sess/\st.opens=q3.opens/\st.snaps=q3.snaps/\cT st (List.take s0 l)=[])/\s0<=q1/\∀ (s:Nat),(fun (q4:State)=>s<=q1->((↑s:Int)<(↑q1:Int)->(0:Int)<=(↑s:Int)/\(↑s:Int)<(↑l.length:Int)/\∀ (x:Command),(fun (q6:Reply)=>(fun (q5:State)=>l[s]? = some x->I64 x.kind->I64 x.client->I64 x.seq->I64 x.set->I64 x.id->I64 x.n->x.chunks.length*(8:Nat)<=q2->x.text.b.length<=q2->I64 q5.version->I64 q5.next->I64 q5.keep->I64 q5.quota->I64 q6.code->I64 q6.n->((cT st (List.take s l)).length+[q6].length)*(16:Nat)<=q2/\I64 ((↑s:Int)+(1:Int))/\∃ (s':Nat),(fun (q7:State)=>(l=l/\(↑q1:Int)=(↑q1:Int)/\(↑s:Int)+(1:Int)=(↑s':Int)/\q5.version=q7.version/\q5.next=q7.next/\q5.keep=q7.keep/\q5.quota=q7.quota/\q0/\q0/\q0/\q0/\q5.sess=q7.sess/\q5.opens=q7.opens/\q5.snaps=q7.snaps/\cT st (List.take s l)++[q6]=cT st (List.take s' l))/\s' <= q1/\q1 - s' < q1 - s) (ct st (List.take s' l))) (dh q4 x).fst) (dh q4 x).snd)/\((↑q1:Int)<=(↑s:Int)->q4.version=r0/\q4.next=r1/\q4.keep=r2/\q4.quota=r3/\q4.sess=r4/\q4.opens=r5/\q4.snaps=r6/\cT st (List.take s l)=r7)) (ct st (List.take s l))) (ct st (List.take s0 l))) ((0:Int)=(0:Int))) l.length) (140737488355328:Nat)):=by kernel_rfl
theorem DR (st:State) (l:List Command):Sat Try.prog (aq aI) 7 [.agg (cellsOf (.nm .state) st),.c (.fz (.nm .command) (l))] [] ⟨[],[.agg ([.int (((ct st l).version)),.int (((ct st l).next)),.int (((ct st l).keep)),.int (((ct st l).quota)),.own 0,.own 1,.own 2]),.c (.own 3)],some ([.row 40 (.nm .sess) (((ct st l).sess)),.row 48 (.nm .opn) (((ct st l).opens)),.row 59 (.nm .snap) (((ct st l).snaps)),.row 38 (.nm .reply) ((cT st l))]),true⟩:=by
 refine eC iF (Co st l) Try.func7 (by decide) (by kernel_rfl) ?_
 rw [Ep]
 (repeat' (first | with_reducible refine And.intro ?_ ?_ | with_reducible refine and_imp.2 ?_ | intro))
 all_goals try (first | (first | with_reducible rfl | with_reducible assumption | omega | (refine av ?_ ?_ <;> omega)) | exact rfl | exact (congrArg State.version (bQ (by with_reducible assumption))) | exact (congrArg State.next (bQ (by with_reducible assumption))) | exact (congrArg State.keep (bQ (by with_reducible assumption))) | exact (congrArg State.quota (bQ (by with_reducible assumption))) | exact (congrArg State.sess (bQ (by with_reducible assumption))) | exact (congrArg State.opens (bQ (by with_reducible assumption))) | exact (congrArg State.snaps (bQ (by with_reducible assumption))) | exact (rH (by with_reducible assumption)) | exact (sB (by with_reducible assumption) (by with_reducible assumption)) | (rw [D_ (by omega)]; done))
 all_goals try (refine ⟨0,?_⟩; (repeat' (first | with_reducible refine And.intro ?_ ?_ | with_reducible refine and_imp.2 ?_ | intro)))
 all_goals try (first | (first | with_reducible rfl | with_reducible assumption | omega | (refine av ?_ ?_ <;> omega)) | exact rfl | exact (congrArg State.version (bQ (by with_reducible assumption))) | exact (congrArg State.next (bQ (by with_reducible assumption))) | exact (congrArg State.keep (bQ (by with_reducible assumption))) | exact (congrArg State.quota (bQ (by with_reducible assumption))) | exact (congrArg State.sess (bQ (by with_reducible assumption))) | exact (congrArg State.opens (bQ (by with_reducible assumption))) | exact (congrArg State.snaps (bQ (by with_reducible assumption))) | exact (rH (by with_reducible assumption)) | exact (sB (by with_reducible assumption) (by with_reducible assumption)) | (rw [D_ (by omega)]; done))
 all_goals try (refine ⟨‹Nat› + 1,?_⟩; (repeat' (first | with_reducible refine And.intro ?_ ?_ | with_reducible refine and_imp.2 ?_ | intro)))
 all_goals (first | (first | with_reducible rfl | with_reducible assumption | omega | (refine av ?_ ?_ <;> omega)) | exact rfl | exact (congrArg State.version (bQ (by with_reducible assumption))) | exact (congrArg State.next (bQ (by with_reducible assumption))) | exact (congrArg State.keep (bQ (by with_reducible assumption))) | exact (congrArg State.quota (bQ (by with_reducible assumption))) | exact (congrArg State.sess (bQ (by with_reducible assumption))) | exact (congrArg State.opens (bQ (by with_reducible assumption))) | exact (congrArg State.snaps (bQ (by with_reducible assumption))) | exact (rH (by with_reducible assumption)) | exact (sB (by with_reducible assumption) (by with_reducible assumption)) | (rw [D_ (by omega)]; done))
def sX:cu:=(bV 7 (bO (aj (kT (.nm .state)) (aj (kC (cL (.nm .command))) aR)) aQ fun (st,l,_) (_)=>⟨[],[.agg ([.int (((ct st l).version)),.int (((ct st l).next)),.int (((ct st l).keep)),.int (((ct st l).quota)),.own 0,.own 1,.own 2]),.c (.own 3)],some ([.row 40 (.nm .sess) (((ct st l).sess)),.row 48 (.nm .opn) (((ct st l).opens)),.row 59 (.nm .snap) (((ct st l).snaps)),.row 38 (.nm .reply) ((cT st l))]),true⟩) (bV 12 (bO aR aQ fun (_) (_)=>⟨[],[.c (.fz (.nm .command) ((bW)))],none,false⟩) (bV 13 (bO (aj (kT (.nm .command)) aR) aQ fun (c,_) (_)=>⟨[],[.agg (cellsOf (.nm .command) (gQ c))],none,false⟩) pz)))
theorem lW:aP Try.prog (aq aI) sX:=(aC (aB (ae b_ (ae (aw cg) al)) ao fun (st,l,_) (_) _=>DR st l ) (aC (aB al ao fun (_) (_) _=>AD  ) (aC (aB (ae b_ al) ao fun (c,_) (_) _=>Aw c ) iF)))
end Go.Proofs.Ytdggohppeeaipaa
namespace Go.Proofs.Ytdggohppeeaipaa
open Go.RowKit
theorem GJ:ct (State.mk 1 1 0 0 [] [] []) bW=State.mk 1 1 0 0 [Sess.mk 1 1 (Reply.mk 0 0)] [Opn.mk 2 1] []:=by kernel_rfl
theorem GH:cT (State.mk 1 1 0 0 [] [] []) bW=[Reply.mk 0 0,Reply.mk 0 0,Reply.mk 0 0]:=by kernel_rfl
def yr (l:List Command):List (Nat × LI):=[(3,{ σ:=Nat,F:=fun k=>([(0,one (.fz (.nm .command) (l))),(3,one (.own 0)),(4,one (.int k))],[.row 42 (.nm .command) (((l.take k).map gQ))]),J:=fun k=>k<=l.length/\k<=40,μ:=fun k=>l.length - k })]
theorem Bv (l:List Command) (r0:List Command):dx aI sX (yr l) Try.f6 [.c (.fz (.nm .command) (l))] [] [.c (.fz (.nm .command) (r0))]=((fun (q0:Nat)=>l.length*(88:Nat)<=q0->∃ (s0:Nat),(l=l/\(0:Int)=(↑s0:Int)/\List.map gQ (List.take s0 l)=[])/\(s0<=l.length/\s0<=(40:Nat))/\∀ (s:Nat),s<=l.length/\s<=(40:Nat)->((↑s:Int)<(↑l.length:Int)/\(↑s:Int)<(40:Int)->(0:Int)<=(↑s:Int)/\(↑s:Int)<(↑l.length:Int)/\∀ (x:Command),(fun (q1:Command)=>l[s]? = some x->I64 x.kind->I64 x.client->I64 x.seq->I64 x.set->I64 x.id->I64 x.n->x.chunks.length*(8:Nat)<=q0->x.text.b.length<=q0->I64 q1.kind->I64 q1.client->I64 q1.seq->I64 q1.set->I64 q1.id->I64 q1.n->q1.chunks.length*(8:Nat)<=q0->q1.text.b.length<=q0->((List.map gQ (List.take s l)).length+[q1].length)*(88:Nat)<=q0/\I64 ((↑s:Int)+(1:Int))/\∃ (s':Nat),(l=l/\(↑s:Int)+(1:Int)=(↑s':Int)/\List.map gQ (List.take s l)++[q1]=List.map gQ (List.take s' l))/\(s' <= l.length/\s' <= (40:Nat))/\l.length - s' < l.length - s) (gQ x))/\((↑l.length:Int)<=(↑s:Int)\/(40:Int)<=(↑s:Int)->List.map gQ (List.take s l)=r0)) (140737488355328:Nat)):=by kernel_rfl
theorem AN (l:List Command):Sat Try.prog (aq aI) 6 [.c (.fz (.nm .command) (l))] [] ⟨[],[.c (.fz (.nm .command) ((fI l)))],none,false⟩:=by
 refine aX lW (yr l) Try.func6 (by decide) (by kernel_rfl) ?_
 rw [Bv]
 (repeat' (first | with_reducible refine And.intro ?_ ?_ | with_reducible refine and_imp.2 ?_ | intro))
 all_goals try (first | (first | with_reducible rfl | with_reducible assumption | omega | (refine av ?_ ?_ <;> omega)) | exact rfl | exact (yB (by with_reducible assumption)) | exact (Ds (by omega) (by omega)) | (simp only [List.length_map,List.length_take,List.length_cons,List.length_nil]; omega))
 all_goals try (refine ⟨0,?_⟩; (repeat' (first | with_reducible refine And.intro ?_ ?_ | with_reducible refine and_imp.2 ?_ | intro)))
 all_goals try (first | (first | with_reducible rfl | with_reducible assumption | omega | (refine av ?_ ?_ <;> omega)) | exact rfl | exact (yB (by with_reducible assumption)) | exact (Ds (by omega) (by omega)) | (simp only [List.length_map,List.length_take,List.length_cons,List.length_nil]; omega))
 all_goals try (refine ⟨‹Nat› + 1,?_⟩; (repeat' (first | with_reducible refine And.intro ?_ ?_ | with_reducible refine and_imp.2 ?_ | intro)))
 all_goals (first | (first | with_reducible rfl | with_reducible assumption | omega | (refine av ?_ ?_ <;> omega)) | exact rfl | exact (yB (by with_reducible assumption)) | exact (Ds (by omega) (by omega)) | (simp only [List.length_map,List.length_take,List.length_cons,List.length_nil]; omega))
theorem uH  (r0:Bool):dx aI sX [] Try.f5 [] [] [.c (.bool (.atom (r0)))]=((fun (q6:Int)=>(fun (q5:Int)=>(fun (q4:Nat)=>(fun (q3:Nat)=>(fun (q2:Int)=>(fun (q1:den (Sh.nm NT.reply))=>(fun (q0:State)=>I64 q5->I64 q5->I64 q2->I64 q2->(0:Nat)*(32:Nat)<=(140737488355328:Nat)->(0:Nat)*(16:Nat)<=(140737488355328:Nat)->(0:Nat)*(64:Nat)<=(140737488355328:Nat)->bW.length*(88:Nat)<=(140737488355328:Nat)->I64 (ct q0 bW).version->I64 (ct q0 bW).next->I64 (ct q0 bW).keep->I64 (ct q0 bW).quota->((↑(cT q0 bW).length:Int)=q6->q2<=q2/\q2<(↑(cT q0 bW).length:Int))/\(((↑(cT q0 bW).length:Int)=q6->I64 ((cT q0 bW).getD q3 q1).code/\I64 ((cT q0 bW).getD q3 q1).n)->((↑(cT q0 bW).length:Int)=q6/\((cT q0 bW).getD q3 q1).code=q2/\((cT q0 bW).getD q3 q1).n=q2->q2<=(2:Int)/\(2:Int)<(↑(cT q0 bW).length:Int))/\(((↑(cT q0 bW).length:Int)=q6/\((cT q0 bW).getD q3 q1).code=q2/\((cT q0 bW).getD q3 q1).n=q2->I64 ((cT q0 bW).getD q4 q1).code/\I64 ((cT q0 bW).getD q4 q1).n)->((((↑(cT q0 bW).length:Int)=q6/\((cT q0 bW).getD q3 q1).code=q2/\((cT q0 bW).getD q3 q1).n=q2)/\((cT q0 bW).getD q4 q1).code=q2/\((cT q0 bW).getD q4 q1).n=q2)/\(↑(ct q0 bW).opens.length:Int)=q5->q2<=q2/\q2<(↑(ct q0 bW).opens.length:Int))/\(((((↑(cT q0 bW).length:Int)=q6/\((cT q0 bW).getD q3 q1).code=q2/\((cT q0 bW).getD q3 q1).n=q2)/\((cT q0 bW).getD q4 q1).code=q2/\((cT q0 bW).getD q4 q1).n=q2)/\(↑(ct q0 bW).opens.length:Int)=q5->I64 ((ct q0 bW).opens.getD q3 (dflt (Sh.nm NT.opn))).set/\I64 ((ct q0 bW).opens.getD q3 (dflt (Sh.nm NT.opn))).client)->(decide ((↑(cT q0 bW).length:Int)=q6) && (decide (((cT q0 bW).getD q3 q1).code=q2) && decide (((cT q0 bW).getD q3 q1).n=q2)) && (decide (((cT q0 bW).getD q4 q1).code=q2) && decide (((cT q0 bW).getD q4 q1).n=q2)) && decide ((↑(ct q0 bW).opens.length:Int)=q5) && decide (((ct q0 bW).opens.getD q3 (dflt (Sh.nm NT.opn))).set=(2:Int)))=r0)))) (State.mk q5 q5 q2 q2 [] [] [])) (dflt (Sh.nm NT.reply))) (0:Int)) (0:Nat)) (2:Nat)) (1:Int)) (3:Int)):=by kernel_rfl
theorem uU :Sat Try.prog (aq aI) 5 [] [] ⟨[],[.c (.bool (.atom ((true))))],none,false⟩:=by
 refine aX lW [] Try.func5 (by decide) (by kernel_rfl) ?_
 rw [uH]
 simp only [GJ,GH]
 (repeat' (first | with_reducible refine And.intro ?_ ?_ | with_reducible refine and_imp.2 ?_ | intro))
 all_goals first | (first | with_reducible rfl | with_reducible assumption | omega | (refine av ?_ ?_ <;> omega)) | decide | rfl
def Cz:cu:=(bV 5 (bO aR aQ fun (_) (_)=>⟨[],[.c (.bool (.atom ((true))))],none,false⟩) (bV 6 (bO (aj (kC (cL (.nm .command))) aR) aQ fun (l,_) (_)=>⟨[],[.c (.fz (.nm .command) ((fI l)))],none,false⟩) sX))
theorem wE:aP Try.prog (aq aI) Cz:=(aC (aB al ao fun (_) (_) _=>uU  ) (aC (aB (ae (aw cg) al) ao fun (l,_) (_) _=>AN l ) lW))
end Go.Proofs.Ytdggohppeeaipaa
namespace Go.Proofs.Ytdggohppeeaipaa
open Go.RowKit
theorem ba:mayF (State.mk 1 1 0 0 [] [] []) 1=0:=by kernel_rfl
theorem jE:∀ {l:List Command} {s:State},mayF s s.version=0->mayF (ct s l) (ct s l).version=0
 | [],_,M=>M
 | c :: l,s,M=>jE (l:=l) (xb (c:=c) M).may
theorem t_:∀ {l:List Command} {s:State} {k:Nat} {x:Command},l[k]? = some x->(cT s l)[k]? = some (dh (ct s (l.take k)) x).2
 | [],_,_,_,h=>by simp at h
 | c :: l,s,0,x,h=>by
  simp only [List.getElem?_cons_zero,Option.some.injEq] at h
  subst h; rfl
 | c :: l,s,k+1,x,h=>by
  rw [List.getElem?_cons_succ] at h
  show (cT (dh s c).1 l)[k]? = some (dh (ct (dh s c).1 (l.take k)) x).2
  exact t_ h
theorem iR {l:List Command} {s:State} {k:Nat} {x:Command} {d:Reply} (h:l[k]? = some x):(cT s l).getD k d=(dh (ct s (l.take k)) x).2:=by
 rw [List.getD_eq_getElem?_getD,t_ h]; rfl
section
variable {s:State} {c:Command}
theorem G_ (M:mayF s s.version=0) (h:(s.version<cN c.kind/\¬ (dh s c).2.code=10)\/cN c.kind=0/\¬ (dh s c).2.code=1):False:=by
 have v:=(bE M).1
 rcases h with ⟨h,h2⟩ | ⟨h,h2⟩
 ·have e:bD c s.version=10:=by
   unfold bD
   rw [v,if_neg (by rw [decide_eq_false (by have:=mJ v; omega)]; decide),if_pos h]
  exact h2 ((nW M (by rw [e]; decide)).trans e)
 ·have e:bD c s.version=1:=by
   unfold bD
   rw [v,decide_eq_true h,if_pos (by rfl)]
  exact h2 ((nW M (by rw [e]; decide)).trans e)
theorem GP (M:mayF s s.version=0) (k:c.kind=8) (h:(dh s c).2.code=0):(dh s c).2.n=s.version+1:=by
 by_cases hc:bD c s.version=0
 ·by_cases hn:c.n=s.version+1
  ·rw [ye (pL M hc) k hn]; exact hn
  ·rw [yz (pL M hc) k hn] at h; cases h
 ·rw [nW M hc] at h; exact absurd h hc
theorem GZ (M:mayF s s.version=0) (k:c.kind=8) (h:(dh s c).2.code=0):(dh s c).1.version=s.version+1:=by
 rw [(xb (c:=c) M).ver,if_pos ⟨k,h⟩]
theorem GV (M:mayF s s.version=0) (h:¬ c.kind=8\/¬ (dh s c).2.code=0):(dh s c).1.version=s.version:=by
 rw [(xb (c:=c) M).ver,if_neg fun h2=>h.elim (fun h=>h h2.1) fun h=>h h2.2]
end
end Go.Proofs.Ytdggohppeeaipaa
namespace Go.Proofs.Ytdggohppeeaipaa
open Go.RowKit
section
variable {s:State} {l:List Command} {k:Nat} {x:Command} {d:Reply}
theorem Ed (h:¬ ((cT s l).length:Int)=(l.length:Int)):False:=h (by rw [kr])
theorem rU (h:(k:Int)<(l.length:Int)):(k:Int)<((cT s l).length:Int):=by rw [kr]; exact h
theorem Du (M:mayF s s.version=0) (hx:l[k]? = some x) (o:(ct s (l.take k)).version<cN x.kind/\¬ ((cT s l).getD k d).code=10\/cN x.kind=0/\¬ ((cT s l).getD k d).code=1):False:=by
 rw [iR hx] at o; exact G_ (jE M) o
theorem Dy (M:mayF s s.version=0) (hx:l[k]? = some x) (k8:x.kind=8) (h:((cT s l).getD k d).code=0):((cT s l).getD k d).n=(ct s (l.take k)).version+1:=by
 rw [iR hx] at h ⊢; exact GP (jE M) k8 h
theorem DK (M:mayF s s.version=0):I64 ((ct s (l.take k)).version+1):=by
 have:=mJ (bE (jE (l:=l.take k) M)).1
 constructor <;> omega
theorem z_ (M:mayF s s.version=0) (hx:l[k]? = some x) (k8:x.kind=8) (h:((cT s l).getD k d).code=0):(ct s (l.take k)).version+1=(ct s (l.take (k+1))).version:=by
 rw [iR hx] at h
 rw [<- bQ hx]; exact (GZ (jE M) k8 h).symm
theorem Dm (M:mayF s s.version=0) (hx:l[k]? = some x) (k8:x.kind=8) (h:((cT s l).getD k d).code=0):(ct s (l.take ((k:Int)+1).toNat)).version=(ct s (l.take k)).version+1:=(z_ M hx k8 h).symm
theorem Bf (M:mayF s s.version=0) (hx:l[k]? = some x) (o:¬ x.kind=8\/¬ ((cT s l).getD k d).code=0):(ct s (l.take k)).version=(ct s (l.take (k+1))).version:=by
 rw [iR hx] at o
 rw [<- bQ hx]; exact (GV (jE M) o).symm
theorem Eu (M:mayF s s.version=0) (hx:l[k]? = some x) (o:¬ x.kind=8\/¬ ((cT s l).getD k d).code=0):(ct s (l.take ((k:Int)+1).toNat)).version=(ct s (l.take k)).version:=(Bf M hx o).symm
end
def xC (l:List Command):List (Nat × LI):=[(8,{ σ:=Nat,F:=fun k=>([(0,one (.fz (.nm .command) (fI l))),(3,one (.bool (.atom true))),(5,one (.own 3)),(6,one (.int (ct (State.mk 1 1 0 0 [] [] []) ((fI l).take k)).version)),(7,one (.int k))],[.row 40 (.nm .sess) (((ct (State.mk 1 1 0 0 [] [] []) (fI l)).sess)),.row 48 (.nm .opn) (((ct (State.mk 1 1 0 0 [] [] []) (fI l)).opens)),.row 59 (.nm .snap) (((ct (State.mk 1 1 0 0 [] [] []) (fI l)).snaps)),.row 38 (.nm .reply) ((cT (State.mk 1 1 0 0 [] [] []) (fI l))),.box 29 ([.int (((ct (State.mk 1 1 0 0 [] [] []) (fI l)).version)),.int (((ct (State.mk 1 1 0 0 [] [] []) (fI l)).next)),.int (((ct (State.mk 1 1 0 0 [] [] []) (fI l)).keep)),.int (((ct (State.mk 1 1 0 0 [] [] []) (fI l)).quota)),.own 0,.own 1,.own 2])]),J:=fun k=>k<=(fI l).length,μ:=fun k=>(fI l).length - k })]
theorem BY (l:List Command) (r0:Bool):dx aI Cz (xC l) Try.f4 [.c (.fz (.nm .command) (l))] [] [.c (.bool (.atom (r0)))]=((fun (q9:Prop)=>(fun (q8:Nat)=>(fun (q7:Nat)=>(fun (q6:Nat)=>(fun (q5:den (Sh.nm NT.reply))=>(fun (q4:Nat)=>(fun (q3:Int)=>(fun (q2:Int)=>(fun (q1:List Command)=>(fun (q0:State)=>l.length*(88:Nat)<=q4->q1.length*(88:Nat)<=q4->I64 q2->I64 q2->I64 q3->I64 q3->q7<=q4->q6<=q4->q8<=q4->I64 (ct q0 q1).version->I64 (ct q0 q1).next->I64 (ct q0 q1).keep->I64 (ct q0 q1).quota->(¬(↑(cT q0 q1).length:Int)=(↑q1.length:Int)->q9)/\((↑(cT q0 q1).length:Int)=(↑q1.length:Int)->∃ (s0:Nat),(fun (q14:Nat)=>(fun (q13:Int)=>(fun (q12:List Reply)=>(fun (q11:State)=>(fun (q10:Prop)=>(q1=q1/\true=true/\q2=(ct q0 (List.take s0 q1)).version/\q3=(↑s0:Int)/\q10)/\s0<=q14/\∀ (s:Nat),(fun (q19:Int)=>(fun (q18:Int)=>(fun (q17:Int)=>(fun (q16:Int)=>(fun (q15:State)=>s<=q14->(q19<q13->q3<=q19/\q19<(↑q12.length:Int)/\(I64 q18->I64 (q12.getD s q5).n->q3<=q19/\q19<q13/\∀ (x:Command),(fun (q22:Int)=>(fun (q21:Int)=>(fun (q20:Int)=>q1[s]? = some x->I64 x.kind->I64 x.client->I64 x.seq->I64 x.set->I64 x.id->I64 x.n->x.chunks.length*(8:Nat)<=q4->x.text.b.length<=q4->I64 q22->(q16<q22/\¬q18=(10:Int)\/q22=q3/\¬q18=q2->q9)/\((q22<=q16\/q18=(10:Int))/\(¬q22=q3\/q18=q2)->q3<=q19/\q19<q13/\∀ (x:Command),q1[s]? = some x->I64 x.kind->I64 x.client->I64 x.seq->I64 x.set->I64 x.id->I64 x.n->x.chunks.length*(8:Nat)<=q4->x.text.b.length<=q4->(x.kind=(8:Int)/\q18=q3->I64 q20/\(¬(q12.getD s q5).n=q20->q9)/\((q12.getD s q5).n=q20->I64 q17/\(q3<=q17/\q17<=q13)/\(I64 q2->I64 q2->I64 q3->I64 q3->q7<=q4->q6<=q4->q8<=q4->I64 q21->I64 q15.next->I64 q15.keep->I64 q15.quota->(¬q21=q20->q9)/\(q21=q20->I64 q17/\∃ (s':Nat),(q1=q1/\true=true/\q20=(ct q0 (List.take s' q1)).version/\q17=(↑s':Int)/\q10)/\s' <= q14/\q14 - s' < q14 - s))))/\(¬x.kind=(8:Int)\/¬q18=q3->I64 q17/\(q3<=q17/\q17<=q13)/\(I64 q2->I64 q2->I64 q3->I64 q3->q7<=q4->q6<=q4->q8<=q4->I64 q21->I64 q15.next->I64 q15.keep->I64 q15.quota->(¬q21=q16->q9)/\(q21=q16->I64 q17/\∃ (s':Nat),(q1=q1/\true=true/\q16=(ct q0 (List.take s' q1)).version/\q17=(↑s':Int)/\q10)/\s' <= q14/\q14 - s' < q14 - s))))) (q16+q2)) q15.version) (cN x.kind)))/\(q13<=q19->true=r0)) (ct q0 (List.take q17.toNat q1))) (ct q0 (List.take s q1)).version) (q19+q2)) (q12.getD s q5).code) (↑s:Int)) (q11.sess=q11.sess/\q11.opens=q11.opens/\q11.snaps=q11.snaps/\q12=q12/\q11.version=q11.version/\q11.next=q11.next/\q11.keep=q11.keep/\q11.quota=q11.quota)) (ct q0 q1)) (cT q0 q1)) (↑q1.length:Int)) q1.length)) (State.mk q2 q2 q3 q3 [] [] [])) (fI l)) (1:Int)) (0:Int)) (140737488355328:Nat)) (dflt (Sh.nm NT.reply))) ((0:Nat)*(16:Nat))) ((0:Nat)*(32:Nat))) ((0:Nat)*(64:Nat))) (false=r0)):=by kernel_rfl
theorem AP (l:List Command):Sat Try.prog (aq aI) 4 [.c (.fz (.nm .command) (l))] [] ⟨[],[.c (.bool (.atom ((true))))],none,false⟩:=by
 refine aX wE (xC l) Try.func4 (by decide) (by kernel_rfl) ?_
 rw [BY]
 (repeat' (first | with_reducible refine And.intro ?_ ?_ | with_reducible refine and_imp.2 ?_ | intro))
 all_goals try (first | (first | with_reducible rfl | with_reducible assumption | omega | (refine av ?_ ?_ <;> omega)) | exact rfl | exact (Ed (by with_reducible assumption)).elim | exact (rU (by with_reducible assumption)) | exact (Du (s:=State.mk 1 1 0 0 [] [] []) ba (by with_reducible assumption) (by assumption)).elim | exact (DK (s:=State.mk 1 1 0 0 [] [] []) ba) | exact (absurd (Dy (s:=State.mk 1 1 0 0 [] [] []) ba (by with_reducible assumption) (by with_reducible assumption) (by with_reducible assumption)) (by with_reducible assumption)) | exact (absurd (Dm (s:=State.mk 1 1 0 0 [] [] []) ba (by with_reducible assumption) (by with_reducible assumption) (by with_reducible assumption)) (by with_reducible assumption)) | exact (z_ (s:=State.mk 1 1 0 0 [] [] []) ba (by with_reducible assumption) (by with_reducible assumption) (by with_reducible assumption)) | exact (absurd (Eu (s:=State.mk 1 1 0 0 [] [] []) ba (by with_reducible assumption) (by assumption)) (by with_reducible assumption)) | exact (Bf (s:=State.mk 1 1 0 0 [] [] []) ba (by with_reducible assumption) (by assumption)))
 all_goals try (refine ⟨0,?_⟩; (repeat' (first | with_reducible refine And.intro ?_ ?_ | with_reducible refine and_imp.2 ?_ | intro)))
 all_goals try (first | (first | with_reducible rfl | with_reducible assumption | omega | (refine av ?_ ?_ <;> omega)) | exact rfl | exact (Ed (by with_reducible assumption)).elim | exact (rU (by with_reducible assumption)) | exact (Du (s:=State.mk 1 1 0 0 [] [] []) ba (by with_reducible assumption) (by assumption)).elim | exact (DK (s:=State.mk 1 1 0 0 [] [] []) ba) | exact (absurd (Dy (s:=State.mk 1 1 0 0 [] [] []) ba (by with_reducible assumption) (by with_reducible assumption) (by with_reducible assumption)) (by with_reducible assumption)) | exact (absurd (Dm (s:=State.mk 1 1 0 0 [] [] []) ba (by with_reducible assumption) (by with_reducible assumption) (by with_reducible assumption)) (by with_reducible assumption)) | exact (z_ (s:=State.mk 1 1 0 0 [] [] []) ba (by with_reducible assumption) (by with_reducible assumption) (by with_reducible assumption)) | exact (absurd (Eu (s:=State.mk 1 1 0 0 [] [] []) ba (by with_reducible assumption) (by assumption)) (by with_reducible assumption)) | exact (Bf (s:=State.mk 1 1 0 0 [] [] []) ba (by with_reducible assumption) (by assumption)))
 all_goals try (refine ⟨‹Nat› + 1,?_⟩; (repeat' (first | with_reducible refine And.intro ?_ ?_ | with_reducible refine and_imp.2 ?_ | intro)))
 all_goals (first | (first | with_reducible rfl | with_reducible assumption | omega | (refine av ?_ ?_ <;> omega)) | exact rfl | exact (Ed (by with_reducible assumption)).elim | exact (rU (by with_reducible assumption)) | exact (Du (s:=State.mk 1 1 0 0 [] [] []) ba (by with_reducible assumption) (by assumption)).elim | exact (DK (s:=State.mk 1 1 0 0 [] [] []) ba) | exact (absurd (Dy (s:=State.mk 1 1 0 0 [] [] []) ba (by with_reducible assumption) (by with_reducible assumption) (by with_reducible assumption)) (by with_reducible assumption)) | exact (absurd (Dm (s:=State.mk 1 1 0 0 [] [] []) ba (by with_reducible assumption) (by with_reducible assumption) (by with_reducible assumption)) (by with_reducible assumption)) | exact (z_ (s:=State.mk 1 1 0 0 [] [] []) ba (by with_reducible assumption) (by with_reducible assumption) (by with_reducible assumption)) | exact (absurd (Eu (s:=State.mk 1 1 0 0 [] [] []) ba (by with_reducible assumption) (by assumption)) (by with_reducible assumption)) | exact (Bf (s:=State.mk 1 1 0 0 [] [] []) ba (by with_reducible assumption) (by assumption)))
end Go.Proofs.Ytdggohppeeaipaa
namespace Go.Proofs.Ytdggohppeeaipaa
open Go.RowKit Go.ChangeShapes Go.WideShapes
def vj (shp:TypeId->Option Sh) (w:World):Cx:=cx ⟨shp,w.heap.size,fun _=>False⟩ [] w
theorem Db {shp:TypeId->Option Sh} {w:World} {s:Sh} {b:Nat} (h:b<w.heap.size):(vj shp w).at s b:=⟨⟨h,fun ⟨_,_,h,_⟩=>by simp at h,fun h=>h⟩,.inl h⟩
def Tr (P:Program) (shp:TypeId->Option Sh) (t:TypeId) (s:Sh):Prop:=
 ∀ (H:Type) (enc:TypeId × Value->H) (w:World) (fuel:Nat) (cs:List Value) (x:DataW H × List MemPlace),
  DataW.trod enc P w 0 (fun _=>true) true fuel t cs=some x->(∀ n ∈ x.1.weights P t,n<=140737488351232)->(∀ q ∈ x.2,q.block<w.heap.size)->∃ y:den s,Pds (vj shp w) (cellsOf s y) cs
def DM:List Sh->List AV->Prop
 | [],asx=>asx=[]
 | s :: r,asx=>∃ (y:den s) (l:List AV),asx=cellsOf s y++l/\DM r l
def Fe:List Sh->Nat
 | []=>0
 | s :: r=>s.size+Fe r
def sF (P:Program) (shp:TypeId->Option Sh) (fs:List Go.Field) (o:Nat) (ss:List Sh):Prop:=
 ∀ (H:Type) (enc:TypeId × Value->H) (w:World) (fuel:Nat) (cs:List Value) (xs:List (DataW H × List MemPlace)),
  cs.length=o+Fe ss->xs.length=fs.length->(∀ (i:Nat) (f:Go.Field),fs[i]? = some f->DataW.trod enc P w 0 (fun _=>true) true fuel f.type ((cs.drop f.offset).take (P.cellsOf f.type))=xs[i]?) ->
  (∀ n ∈ DataW.weightsEach P (fs.map (·.type)) (xs.map (·.1)),n<=140737488351232)->(∀ q ∈ xs.flatMap (·.2),q.block<w.heap.size)->∃ asx,DM ss asx/\Pds (vj shp w) asx (cs.drop o)
section
variable {P:Program} {shp:TypeId->Option Sh} {t:TypeId}
theorem Tr.int (h:P.underlying t=some (.int .i64)):Tr P shp t .int:=fun _ enc w fuel cs x hx _ _=>by
 obtain ⟨n,rfl,_,hw⟩:=DataW.trod_int h hx
 have h1:IntKind.i64.min = -9223372036854775808:=rfl
 have h2:IntKind.i64.max=9223372036854775807:=rfl
 simp only [Lit.wf,Bool.and_eq_true,decide_eq_true_eq] at hw
 exact ⟨n,.cons (.int ⟨by omega,by omega⟩) .nil⟩
theorem Tr.bool (h:P.underlying t=some .bool):Tr P shp t .bool:=fun _ enc w fuel cs x hx _ _=>by
 obtain ⟨n,rfl,_⟩:=DataW.trod_bool h hx
 exact ⟨n,.cons (Pd.bool (e:=.atom n)) .nil⟩
theorem Tr.u8 (h:P.underlying t=some (.int .u8)):Tr P shp t .u8:=fun _ enc w fuel cs x hx _ _=>by
 obtain ⟨n,rfl,_,hw⟩:=DataW.trod_int h hx
 have h1:IntKind.u8.min=0:=rfl
 have h2:IntKind.u8.max=255:=rfl
 simp only [Lit.wf,Bool.and_eq_true,decide_eq_true_eq] at hw
 refine ⟨UInt8.ofNat n.toNat,?_⟩
 have:n=((UInt8.ofNat n.toNat).toNat:Int):=by
  rw [UInt8.toNat_ofNat']; omega
 generalize hg:UInt8.ofNat n.toNat=b at this
 subst this
 exact .cons .u8 .nil
theorem Tr.u64 (h:P.underlying t=some (.int .u64)):Tr P shp t .u64:=fun _ enc w fuel cs x hx _ _=>by
 obtain ⟨n,rfl,_,hw⟩:=DataW.trod_int h hx
 have h1:IntKind.u64.min=0:=rfl
 have h2:IntKind.u64.max=18446744073709551615:=rfl
 simp only [Lit.wf,Bool.and_eq_true,decide_eq_true_eq] at hw
 refine ⟨⟨n.toNat⟩,?_⟩
 have:n=(n.toNat:Int):=by omega
 generalize hg:n.toNat=b at this
 subst this
 exact .cons (.u64 (by show b<_; omega)) .nil
theorem Tr.str (h:P.underlying t=some .string):Tr P shp t .str:=fun _ enc w fuel cs x hx hw _=>by
 obtain ⟨s,rfl,hx,_⟩:=DataW.trod_string h hx
 refine ⟨⟨s.data.toList⟩,?_⟩
 have:=hw s.data.toList.length (by rw [hx]; simp [DataW.weights])
 have e:=Pd.str (c:=vj shp w) (s:=⟨s.data.toList⟩) (by show s.data.toList.length<=_; omega)
 have e2:(⟨s.data.toList⟩:Str).val = .string s:=by simp [Str.val]
 rw [e2] at e
 exact .cons e .nil
theorem fJ {H:Type} {e:TypeId}:∀ {ds:List (DataW H)} {d:DataW H},d ∈ ds->∀ n ∈ d.weights P e,n ∈ DataW.weightsAll P e ds
 | [],_,h,_,_=>by cases h
 | d0 :: ds,d,h,n,hn=>by
  rw [DataW.weightsAll,List.mem_append]
  rcases List.mem_cons.1 h with rfl | h
  ·exact .inl hn
  ·exact .inr (fJ h n hn)
theorem uO {s:Sh} {xs:List (den s)} {y:den s}:(xs++[y]).flatMap (cellsOf s)=xs.flatMap (cellsOf s)++cellsOf s y:=by simp
theorem Tr.list {e:TypeId} {s:Sh} (ht:P.underlying t=some (.slice e)) (hC:P.cellsOf e=s.size) (hB:P.bytesOf e=s.bytes) (he:Tr P shp e s):Tr P shp t (.lst s):=fun H enc w fuel cs x hx hw hlt=>by
 have hp:=size_pos s
 rcases DataW.trod_slice ht hx with ⟨rfl,_⟩ | ⟨a,len,cap,elems,rest,n,rfl,rfl,rfl,_,hl,hc,hel,hget,hrest,_⟩
 ·exact ⟨([]:List (den s)),.cons (Pd.oX (.em (a:=none) (b:=true) rfl)) .nil⟩
 ·rw [hC] at *
  have step:∀ m,m<=len->∃ (cells:List Value) (xs:List (den s)),Pds (vj shp w) (xs.flatMap (cellsOf s)) cells/\xs.length=m/\CellsAt w a cells:=by
   intro m
   induction m with
   | zero=>intro _; exact ⟨[],[],.nil,rfl,CellsAt.nil⟩
   | succ m ih=>
    intro hm
    obtain ⟨cells,xs,h1,h2,h3⟩:=ih (by omega)
    have hg:=hget m (by omega)
    have hem:elems[m]? = some (elems[m]'(by omega)):=List.getElem?_eq_getElem (by omega)
    rw [hem,Option.bind_eq_some_iff] at hg
    obtain ⟨cs,hcs,htr⟩:=hg
    have hmem:elems[m]'(by omega) ∈ elems:=List.getElem_mem _
    obtain ⟨y,hy⟩:=he H enc w n cs _ htr
     (fun k hk=>hw k (by
      simp only [DataW.weights,ht,List.mem_cons,List.mem_append]
      exact .inr (.inl (fJ (List.mem_map_of_mem hmem) k hk))))
     (fun q hq=>hlt q (by
      simp only [List.mem_append,List.mem_flatMap]
      exact .inr ⟨_,.inl hmem,hq⟩))
    obtain ⟨_,hcl,hat⟩:=World.cells?_some hcs
    refine ⟨cells++cs,xs++[y],by rw [uO]; exact h1.append hy,by simp [h2],fun j v hv=>?_⟩
    have hfl:cells.length=m*s.size:=by rw [<- h1.length,bC,h2]
    by_cases hj:j<m*s.size
    ·rw [List.getElem?_append_left (by omega)] at hv
     exact h3 j v hv
    ·rw [List.getElem?_append_right (by omega),hfl] at hv
     have hj2:=CY hv
     have:=hat (j - m*s.size) (by omega)
     rw [hv,add_add,show m*s.size+(j - m*s.size)=j by omega] at this
     exact this
  obtain ⟨cells,xs,h1,h2,h3⟩:=step len (Nat.le_refl _)
  have hwt:(elems.length+rest.length)*P.bytesOf e<=140737488351232:=hw _ (by simp [DataW.weights,ht])
  refine ⟨xs,.cons ?_ .nil⟩
  subst h2
  refine .fz (by omega) hc ?_ h1 ?_
  ·rw [hB] at hwt
   have:xs.length*s.bytes<=(elems.length+rest.length)*s.bytes:=Nat.mul_le_mul_right _ (by omega)
   omega
  ·by_cases h0:xs.length=0
   ·left; exact List.eq_nil_of_length_eq_zero h0
   ·right
    refine ⟨a,rfl,Db ?_,h3⟩
    have:MemPlace.cell a.block (a.off+0) ∈ MemPlace.row a ((elems.length+rest.length)*s.size):=MemPlace.mem_row.2 ⟨0,Nat.mul_pos (by omega) hp,rfl⟩
    exact hlt _ (List.mem_append_left _ this)
theorem sF.nil {o:Nat}:sF P shp [] o []:=fun H enc w fuel cs xs hl _ _ _ _=>⟨[],rfl,by rw [List.drop_eq_nil_of_le (by simp only [Fe] at hl; omega)]; exact .nil⟩
theorem sF.cons {f:Go.Field} {fs:List Go.Field} {o:Nat} {s:Sh} {ss:List Sh} (h:Tr P shp f.type s) (ho:f.offset=o) (hC:P.cellsOf f.type=s.size) (hr:sF P shp fs (o+s.size) ss):sF P shp (f :: fs) o (s :: ss):=fun H enc w fuel cs xs hl hx hf hw hlt=>by
 match xs,hx with
 | x :: xs,hx=>
  have hl':cs.length=o+(s.size+Fe ss):=hl
  have h1:=hf 0 f rfl
  rw [ho,hC] at h1
  obtain ⟨y,hy⟩:=h H enc w fuel _ x h1 (fun n hn=>hw n (by simp [DataW.weightsEach,hn])) (fun q hq=>hlt q (by simp [hq]))
  obtain ⟨z,hz1,hz2⟩:=hr H enc w fuel cs xs (by omega) (by simpa using hx) (fun i f' hi=>by simpa using hf (i+1) f' (by simpa using hi)) (fun n hn=>hw n (by simp only [List.map_cons,DataW.weightsEach,List.mem_append]; exact .inr hn)) (fun q hq=>hlt q (by simp only [List.flatMap_cons,List.mem_append]; exact .inr hq))
  refine ⟨cellsOf s y++z,⟨y,z,rfl,hz1⟩,?_⟩
  have:=hy.append hz2
  rwa [<- List.drop_drop,List.take_append_drop] at this
theorem Tr.struct {s:Sh} {ss:List Sh} {fs:Array Go.Field} (ht:P.underlying t=some (.struct fs)) (hC:P.cellsOf t=Fe ss) (hs:∀ asx,DM ss asx->∃ y:den s,asx=cellsOf s y) (h:sF P shp fs.toList 0 ss):Tr P shp t s:=fun H enc w fuel cs x hx hw hlt=>by
 obtain ⟨xs,n,_,rfl,hl,hxl,hf⟩:=DataW.trod_struct ht hx
 obtain ⟨asx,h1,h2⟩:=h H enc w n cs xs (by omega) (by simpa using hxl) (fun i f hi=>hf i f (by simpa using hi)) (fun k hk=>hw k (by simpa [DataW.weights,ht] using hk)) hlt
 obtain ⟨y,rfl⟩:=hs asx h1
 exact ⟨y,by simpa using h2⟩
end
section
variable {H:Type} {enc:TypeId × Value->H} {P:Program} {shp:TypeId->Option Sh}
structure Ar (enc:TypeId × Value->H) (P:Program) (W:World) (t:TypeId) (v:Value):Prop where
 form:∃ base,Value.okWide P W .any base t v
 read:∃ d p fuel,DataW.trod enc P W 0 (fun _=>true) true fuel t v.cells.toList=some (d,p)/\(∀ n ∈ d.weights P t,n<=140737488351232)/\(∀ q ∈ p,q.block<W.heap.size)
variable {W:World} {t:TypeId} {v:Value}
theorem Ar.rp {s:Sh} (h:Ar enc P W t v) (ht:Tr P shp t s):∃ y:den s,Pds (vj shp W) (cellsOf s y) v.cells.toList:=by
 obtain ⟨d,p,fuel,h1,h2,h3⟩:=h.read
 exact ht H enc W fuel _ _ h1 h2 h3
theorem rR {a:AV} {u:Value} (h:Pds (vj shp W) [a] [u]):cq (vj shp W) [] (.c a) u:=by cases h with | cons h1 _=>exact fD h1
theorem Ar.int (h:Ar enc P W t v) (ht:P.underlying t=some (.int .i64)):∃ y:Int,cq (vj shp W) [] (.c (.int y)) v:=by
 obtain ⟨base,hf⟩:=h.form
 obtain ⟨n,rfl⟩:=okWide_int ht hf
 obtain ⟨y,h1⟩:=h.rp (shp:=shp) (Tr.int ht)
 exact ⟨y,rR (by simpa [Value.cells,cellsOf] using h1)⟩
theorem Ar.u8 (h:Ar enc P W t v) (ht:P.underlying t=some (.int .u8)):∃ y:UInt8,cq (vj shp W) [] (.c (.u8 y)) v:=by
 obtain ⟨base,hf⟩:=h.form
 obtain ⟨n,rfl⟩:=okWide_int ht hf
 obtain ⟨y,h1⟩:=h.rp (shp:=shp) (Tr.u8 ht)
 exact ⟨y,rR (by simpa [Value.cells,cellsOf] using h1)⟩
theorem Ar.bool (h:Ar enc P W t v) (ht:P.underlying t=some .bool):∃ y:Bool,cq (vj shp W) [] (.c (.bool (.atom y))) v:=by
 obtain ⟨base,hf⟩:=h.form
 obtain ⟨b,rfl⟩:=okWide_bool ht hf
 exact ⟨b,Pd.bool (e:=.atom b)⟩
theorem Ar.list {e:TypeId} {s:Sh} (h:Ar enc P W t v) (hu:P.underlying t=some (.slice e)) (ht:Tr P shp t (.lst s)):∃ xs:List (den s),cq (vj shp W) [] (.c (.fz s xs)) v:=by
 obtain ⟨base,hf⟩:=h.form
 obtain ⟨a,len,cap,rfl⟩:=okWide_slice hu hf
 obtain ⟨y,h1⟩:=h.rp ht
 exact ⟨y,rR (by simpa [Value.cells,cellsOf] using h1)⟩
theorem Bz {f:Nat} {args:List TV1} {pre:List Prop} {e:BE} {vs:List Value} (h:Sat P shp f args [] ⟨pre,[.c (.bool e)],none,false⟩) (he:e.val=true) (hv:All2 (cq (vj shp W) []) args vs):gw P f vs.toArray W fun r W'=>r = .bool true/\Kp [] W W':=by
 refine (h.2 ⟨shp,W.heap.size,fun _=>False⟩ [] W vs rfl ⟨.nil,fun _ _ _ _ _ h=>by simp at h,fun _ _ _ h=>by simp at h,fun _ h=>h.elim,Nat.le_refl _⟩ hv).mono fun v w' ⟨us,h1,h2,h3⟩=>⟨?_,h2⟩
 cases h3 with | cons h4 h5=>
 cases h5
 have h4:Pd _ (.bool e) _:=h4
 cases h4
 rw [h1,he]; rfl
theorem Bp {base:Nat} {ts:List TypeId} {args:Array Value} {ds:List (DataW H)} {p:List MemPlace} (hf:∀ (j:Nat) t v,ts[j]? = some t->args[j]? = some v->Value.okWide P W .any base t v)
  (h:DataW.TrodAll enc P W 0 (fun _=>true) true ts args.toList ds p) (hw:∀ n ∈ DataW.weightsEach P ts ds,n<=140737488351232) (hlt:∀ q ∈ p,q.block<W.heap.size) :
  args.size=ts.length/\∀ (j:Nat) t v,ts[j]? = some t->args[j]? = some v->Ar enc P W t v:=by
 have key:∀ (ts:List TypeId) (vs:List Value) (ds:List (DataW H)) (p:List MemPlace),DataW.TrodAll enc P W 0 (fun _=>true) true ts vs ds p->(∀ n ∈ DataW.weightsEach P ts ds,n<=140737488351232)->(∀ q ∈ p,q.block<W.heap.size) ->
   vs.length=ts.length/\∀ (j:Nat) t v,ts[j]? = some t->vs[j]? = some v->∃ d p fuel,DataW.trod enc P W 0 (fun _=>true) true fuel t v.cells.toList=some (d,p)/\(∀ n ∈ d.weights P t,n<=140737488351232)/\(∀ q ∈ p,q.block<W.heap.size):=by
  intro ts
  induction ts with
  | nil=>intro vs ds p h _ _; obtain ⟨rfl,_,_⟩:=trodAll_nil h; exact ⟨rfl,fun j t v h=>by simp at h⟩
  | cons t ts ih=>
   intro vs ds p h hw hlt
   obtain ⟨v,vs,d,ds,p1,p2,rfl,rfl,rfl,h1,h2⟩:=trodAll_cons h
   obtain ⟨k1,k2⟩:=ih vs ds p2 h2 (fun n hn=>hw n (by rw [DataW.weightsEach,List.mem_append]; exact .inr hn)) (fun q hq=>hlt q (List.mem_append_right _ hq))
   refine ⟨by simp [k1],fun j t' v' ht hv=>?_⟩
   cases j with
   | zero=>
    simp at ht hv
    subst ht; subst hv
    obtain ⟨fuel,hf⟩:=h1
    exact ⟨d,p1,fuel,hf,fun n hn=>hw n (by rw [DataW.weightsEach,List.mem_append]; exact .inl hn),fun q hq=>hlt q (List.mem_append_left _ hq)⟩
   | succ j=>exact k2 j t' v' (by simpa using ht) (by simpa using hv)
 obtain ⟨k1,k2⟩:=key ts args.toList ds p h hw hlt
 exact ⟨by simpa using k1,fun j t v ht hv=>⟨⟨base,hf j t v ht hv⟩,k2 j t v ht (by simpa using hv)⟩⟩
theorem uP (hl:laidOutB P=true) {W':World} (hb:Below W.heap.size W W'):∀ (ts:List TypeId) (vs:List Value) (ds:List (DataW H)) (p:List MemPlace),ts.all (fun t=>P.readableRec t && decide (t<P.types.size))=true->DataW.TrodAll enc P W 0 (fun _=>true) true ts vs ds p->(∀ q ∈ p,q.block<W.heap.size) ->
  DataW.TrodAll enc P W' 0 (fun b=>decide (b<W.heap.size)) true ts vs ds p:=by
 intro ts
 induction ts with
 | nil=>intro vs ds p _ h _; obtain ⟨rfl,rfl,rfl⟩:=trodAll_nil h; rfl
 | cons t ts ih=>
  intro vs ds p hr h hlt
  obtain ⟨v,vs,d,ds,p1,p2,rfl,rfl,rfl,h1,h2⟩:=trodAll_cons h
  rw [List.all_cons,Bool.and_eq_true,Bool.and_eq_true,decide_eq_true_eq] at hr
  exact ⟨p1,p2,Below.trod hl hr.1.1 hr.1.2 h1 hb fun q hq=>hlt q (List.mem_append_left _ hq),ih vs ds p2 hr.2 h2 fun q hq=>hlt q (List.mem_append_right _ hq),rfl⟩
theorem wQ {fn:Func} {s:ChangeSpec} {tb:TypeId} {W':World} {args:Array Value} {ds:List (DataW H)} {p:List MemPlace} (hl:laidOutB P=true)
  (hrow:fn.params.toList.all (fun t=>P.readableRec t && decide (t<P.types.size))=true) (hr:fn.resultTypes = #[tb]) (hb:P.underlying tb=some .bool) (hv:s.vars=[])
  (hs:s.fn H (ds++[])={ results:=[.lit (.bool true)],args:=ds }) (hW:DataW.Whole enc P fn.params.toList s.vars false W args.toList ds [] p) (hA:DataW.TrodAll enc P W 0 (fun _=>true) true fn.params.toList args.toList ds p) (hlt:∀ q ∈ p,q.block<W.heap.size) (hk:Kp [] W W') :
  s.post enc P fn false true false false W args (.bool true) W':=by
 refine ⟨ds,[],p,[],p,[],hW,?_,?_,?_,hk.below.frame _,fun h=>by cases h⟩
 ·rw [hs,hr]
  exact trodAll_mk1 ⟨1,by simp [DataW.trod,Value.cells,hb]⟩
 ·rw [hs]
  exact uP hl hk.below _ _ _ _ hrow hA hlt
 ·rw [hs,hv]; rfl
theorem xR {C:Checked} {os:Os} {f:FuncId} {fn:Func} {s:ChangeSpec} {conds:List PathCond} {tb:TypeId} (own:ownKnob C.prog.godebug=none) (started:os.Started) (noInit:C.prog.inits.idxOf? f=none) (hfn:C.prog.funcs[f]? = some fn)
  (witness:∃ (w:World) (tape:Tape) (i:Input),w.os=os/\(w.forCall tape i).Shaped C.prog/\i.vars=[]/\Input.okWide C.prog (w.forCall tape i) .any w.heap.size f i /\
   s.pre6 enc C.prog fn conds false (w.forCall tape i).memory i.args/\({}:Assume).holds C.prog (lone (Frame.enter C.prog f i.args .normal) [] (w.forCall tape i)))
  (hl:laidOutB C.prog=true) (hrow:fn.params.toList.all (fun t=>C.prog.readableRec t && decide (t<C.prog.types.size))=true) (hr:fn.resultTypes = #[tb]) (hb:C.prog.underlying tb=some .bool) (hv:s.vars=[])
  (hs:∀ ds:List (DataW H),ds.length=fn.params.size->s.fn H ds={ results:=[.lit (.bool true)],args:=ds })
  (law:∀ (W:World) (args:Array Value),args.size=fn.params.toList.length->(∀ (j:Nat) t v,fn.params.toList[j]? = some t->args[j]? = some v->Ar enc C.prog W t v)->gw C.prog f args W fun r W'=>r = .bool true/\Kp [] W W') :
  ReturnsInHanded {} C os f .any (s.pre6 enc C.prog fn conds false) (s.post enc C.prog fn false true false false):=by
 refine returnsInHanded_of_change_sized own started noInit hfn witness ?_
 intro W base args ds gs before hval hW _ hsz _
 have hW0:=hW
 obtain ⟨p,q,hA,hV,rfl,_,_⟩:=hW
 rw [hv] at hV
 obtain ⟨rfl,rfl⟩:=trodVars_none hV
 simp only [List.append_nil] at hW0 hsz
 have hlt:∀ x ∈ p,x.block<W.heap.size:=fun x hx=>by simpa using hW0.lt x hx
 have hwt:∀ n ∈ DataW.weightsEach C.prog fn.params.toList ds,n<=140737488351232:=fun n hn=>by
  have hmem:n ∈ DataW.weightsEach C.prog (fn.params.toList++s.plain.varTypes C.prog) ds:=by
   have:∀ (ts us:List TypeId) (ds:List (DataW H)),n ∈ DataW.weightsEach C.prog ts ds->n ∈ DataW.weightsEach C.prog (ts++us) ds:=by
    intro ts
    induction ts with
    | nil=>intro us ds h; simp [DataW.weightsEach] at h
    | cons t ts ih=>
     intro us ds h
     cases ds with
     | nil=>simp [DataW.weightsEach] at h
     | cons d ds=>
      rw [DataW.weightsEach,List.mem_append] at h
      rw [List.cons_append,DataW.weightsEach,List.mem_append]
      exact h.imp id (ih us ds)
   exact this _ _ _ hn
  exact of_decide_eq_true (List.all_eq_true.1 hsz n hmem)
 obtain ⟨hsize,har⟩:=Bp (fun j t v ht hv=>hval j t v (by simpa using ht) hv) hA hwt hlt
 have hdl:ds.length=fn.params.size:=by
  have:∀ (ts:List TypeId) (vs:List Value) (ds:List (DataW H)) (p:List MemPlace),DataW.TrodAll enc C.prog W 0 (fun _=>true) true ts vs ds p->ds.length=ts.length:=by
   intro ts
   induction ts with
   | nil=>intro vs ds p h; obtain ⟨_,rfl,_⟩:=trodAll_nil h; rfl
   | cons t ts ih=>intro vs ds p h; obtain ⟨v,vs,d,ds,p1,p2,rfl,rfl,rfl,_,h2⟩:=trodAll_cons h; simp [ih vs ds p2 h2]
  simpa using this _ _ _ _ hA
 refine Calls.mono (law W args hsize har) fun e W' ⟨v,he,hv',hk⟩=>⟨v,he,?_⟩
 subst hv'
 exact wQ hl hrow hr hb hv (by rw [List.append_nil]; exact hs ds hdl) hW0 hA hlt hk
end
end Go.Proofs.Ytdggohppeeaipaa
namespace Go.Proofs.Ytdggohppeeaipaa
open Go.RowKit Go.ChangeShapes Go.WideShapes
theorem xa:ownKnob Try.prog.godebug=none:=by kernel_rfl
theorem xM:laidOutB Try.prog=true:=by kernel_rfl
theorem GD:Tr Try.prog (aq aI) 42 (.nm .command):=Tr.struct (ss:=[.int,.int,.int,.int,.int,.int,(.lst .int),.str]) Try.underlying42 (by kernel_rfl) (fun cells h=>by
 obtain ⟨y0,l0,rfl,y1,l1,rfl,y2,l2,rfl,y3,l3,rfl,y4,l4,rfl,y5,l5,rfl,y6,l6,rfl,y7,l7,rfl,rfl⟩:=h
 exact ⟨⟨y0,y1,y2,y3,y4,y5,y6,y7⟩,rfl⟩) (sF.cons (Tr.int Try.underlying3) rfl (by kernel_rfl) (sF.cons (Tr.int Try.underlying3) rfl (by kernel_rfl) (sF.cons (Tr.int Try.underlying3) rfl (by kernel_rfl) (sF.cons (Tr.int Try.underlying3) rfl (by kernel_rfl) (sF.cons (Tr.int Try.underlying3) rfl (by kernel_rfl) (sF.cons (Tr.int Try.underlying3) rfl (by kernel_rfl) (sF.cons (Tr.list Try.underlying34 (by kernel_rfl) (by kernel_rfl) (Tr.int Try.underlying3)) rfl (by kernel_rfl) (sF.cons (Tr.str Try.underlying9) rfl (by kernel_rfl) (sF.nil)))))))))
set_option maxRecDepth 100000 in
theorem gD (os:Os) (started:os.Started) (H:Type) (enc:TypeId × Value->H) :
  ReturnsInHanded {} Try.checked os 4 .any (Rows.modelVersionsSpec.pre6 enc Try.prog Try.f4 Rows.modelVersionsRow.domain false) (Rows.modelVersionsSpec.post enc Try.prog Try.f4 false true false false):=by
 refine xR (C:=Try.checked) xa started (by kernel_rfl) Try.func4 (ChangeSpec.witness6 (enc:=enc) (C:=Try.checked) false ⟨#[],#[.slice none 0 0],[]⟩ 8 (by kernel_rfl) (by kernel_rfl) (by kernel_rfl) (by kernel_rfl)) xM (by kernel_rfl) (by kernel_rfl) Try.underlying4 rfl (fun ds h=>?_) ?_
 ·match ds,h with
  | [d0],_=>rfl
 ·intro W args hs ha
  obtain ⟨l⟩:=args
  match l,hs with
  | [v0],_=>
   obtain ⟨x0,h0⟩:=Ar.list (shp:=aq aI) (ha 0 22 _ rfl rfl) Try.underlying22 (Tr.list Try.underlying22 (by kernel_rfl) (by kernel_rfl) (GD))
   exact Bz (AP x0) rfl (.cons h0 .nil)
theorem modelVersions_holds:Rows.ModelVersionsSaid:=
 OpenClaim.holds_of_wide 4 Try.f4 rfl rfl rfl rfl rfl rfl rfl ⟨rfl,rfl,rfl,rfl,rfl⟩ rfl rfl rfl rfl rfl (by kernel_rfl) Try.func4 (by kernel_rfl)
  (of_decide_eq_true (by kernel_rfl)) (by unfold Func.isWrapper; first | (rw [if_pos (by decide +kernel)]; kernel_rfl) | (rw [if_neg (by decide +kernel)]; exact ⟨rfl,rfl⟩))
  (fun os started H enc _=>gD os started H enc)
end Go.Proofs.Ytdggohppeeaipaa
