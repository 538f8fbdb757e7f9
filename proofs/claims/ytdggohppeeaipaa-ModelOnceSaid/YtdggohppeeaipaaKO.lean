/- The law: for every input it returns true, and each argument reads behind the call as it read before; and what leads there. Conditions: each lemma's own. -/
import Derived.ProofKit
import Derived.SizedLaws
import Derived.Test.YtdggohppeeaipaaChecked
import Derived.Test.YtdggohppeeaipaaRows
import Derived.Test.YtdggohppeeaipaaKOM4
set_option linter.unusedVariables false
set_option linter.unusedSimpArgs false
namespace Go.Proofs.Ytdggohppeeaipaa
open Go.RowKit
theorem pS (l:List Snap) (r0:Int):dq aJ tI [] Try.f62 [.c (.fz (.nm .snap) (l))] [] [.c (.int (r0))]=((fun (q1:den Sh.int)=>(fun (q0:List Int)=>l.length*(64:Nat)<=(140737488355328:Nat)->nch l<=(1048576:Nat)/\(I64 (q0.getD (0:Nat) q1)->I64 (q0.getD (1:Nat) q1)->I64 (q0.getD (2:Nat) q1)->I64 (q0.getD (3:Nat) q1)->I64 (q0.getD (4:Nat) q1)->I64 (q0.getD (5:Nat) q1)->I64 (q0.getD (6:Nat) q1)->I64 (q0.getD (7:Nat) q1)->I64 (q0.getD (8:Nat) q1)->I64 (q0.getD (9:Nat) q1)->I64 (q0.getD (10:Nat) q1)->I64 (q0.getD (11:Nat) q1)->I64 (q0.getD (12:Nat) q1)->I64 (q0.getD (13:Nat) q1)->I64 (q0.getD (14:Nat) q1)->I64 (q0.getD (15:Nat) q1)->I64 (q0.getD (16:Nat) q1)->I64 (q0.getD (17:Nat) q1)->I64 (q0.getD (18:Nat) q1)->I64 (q0.getD (19:Nat) q1)->I64 (q0.getD (20:Nat) q1)->I64 (q0.getD (21:Nat) q1)->I64 (q0.getD (22:Nat) q1)->I64 (q0.getD (23:Nat) q1)->I64 (q0.getD (24:Nat) q1)->I64 (q0.getD (25:Nat) q1)->I64 (q0.getD (26:Nat) q1)->I64 (q0.getD (27:Nat) q1)->I64 (q0.getD (28:Nat) q1)->I64 (q0.getD (29:Nat) q1)->I64 (q0.getD (30:Nat) q1)->I64 (q0.getD (31:Nat) q1)->I64 (q0.getD (32:Nat) q1)->I64 (q0.getD (33:Nat) q1)->I64 (q0.getD (34:Nat) q1)->I64 (q0.getD (35:Nat) q1)->I64 (q0.getD (36:Nat) q1)->I64 (q0.getD (37:Nat) q1)->I64 (q0.getD (38:Nat) q1)->I64 (q0.getD (39:Nat) q1)->I64 (q0.getD (40:Nat) q1)->I64 (q0.getD (41:Nat) q1)->I64 (q0.getD (42:Nat) q1)->I64 (q0.getD (43:Nat) q1)->I64 (q0.getD (44:Nat) q1)->I64 (q0.getD (45:Nat) q1)->I64 (q0.getD (46:Nat) q1)->I64 (q0.getD (47:Nat) q1)->I64 (q0.getD (48:Nat) q1)->I64 (q0.getD (49:Nat) q1)->I64 (q0.getD (50:Nat) q1)->I64 (q0.getD (51:Nat) q1)->I64 (q0.getD (52:Nat) q1)->I64 (q0.getD (53:Nat) q1)->I64 (q0.getD (54:Nat) q1)->I64 (q0.getD (55:Nat) q1)->I64 (q0.getD (56:Nat) q1)->I64 (q0.getD (57:Nat) q1)->I64 (q0.getD (58:Nat) q1)->I64 (q0.getD (59:Nat) q1)->I64 (q0.getD (60:Nat) q1)->I64 (q0.getD (61:Nat) q1)->I64 (q0.getD (62:Nat) q1)->I64 (q0.getD (63:Nat) q1)->I64 (q0.getD (64:Nat) q1)->(mj Sh.int q0 (0:Nat) (65:Nat)).length=(65:Nat)/\((fM (dm (mj Sh.int q0 (0:Nat) (65:Nat))) (64:Nat)).length*(8:Nat)<=(140737488355328:Nat)->(↑(fM (dm (mj Sh.int q0 (0:Nat) (65:Nat))) (64:Nat)).length:Int)=r0))) (bA l)) (dflt Sh.int)):=by kernel_rfl
theorem q_ (l:List Snap) (h0:nch l<=1048576):Sat Try.prog (au aJ) 62 [.c (.fz (.nm .snap) (l))] [] ⟨[nch l<=1048576],[.c (.int (((distF l:Int))))],none,false⟩:=by
 refine aU lR [] Try.func62 (by decide) (by kernel_rfl) ?_
 rw [pS]
 (repeat' (first | with_reducible refine And.intro ?_ ?_ | with_reducible refine and_imp.2 ?_ | intro))
 all_goals (first | (first | with_reducible rfl | with_reducible assumption | omega | (refine al ?_ ?_ <;> omega)) | exact (kE 65 0) | exact (by rw [eu (dS _)]; exact tG _))
theorem CI (l:List Snap) (m:List Int) (r0:Int):dq aJ tI [] Try.f82 [.c (.fz (.nm .snap) (l)),.c (.fz .int (m))] [] [.c (.int (r0))]=((fun (q3:Nat)=>(fun (q2:Nat)=>(fun (q1:den Sh.int)=>(fun (q0:List Int)=>l.length*(64:Nat)<=(140737488355328:Nat)->m.length*(8:Nat)<=(140737488355328:Nat)->nch l<=(1048576:Nat)/\(I64 (q0.getD q2 q1)->I64 (q0.getD (1:Nat) q1)->I64 (q0.getD (2:Nat) q1)->I64 (q0.getD (3:Nat) q1)->I64 (q0.getD (4:Nat) q1)->I64 (q0.getD (5:Nat) q1)->I64 (q0.getD (6:Nat) q1)->I64 (q0.getD (7:Nat) q1)->I64 (q0.getD (8:Nat) q1)->I64 (q0.getD (9:Nat) q1)->I64 (q0.getD (10:Nat) q1)->I64 (q0.getD (11:Nat) q1)->I64 (q0.getD (12:Nat) q1)->I64 (q0.getD (13:Nat) q1)->I64 (q0.getD (14:Nat) q1)->I64 (q0.getD (15:Nat) q1)->I64 (q0.getD (16:Nat) q1)->I64 (q0.getD (17:Nat) q1)->I64 (q0.getD (18:Nat) q1)->I64 (q0.getD (19:Nat) q1)->I64 (q0.getD (20:Nat) q1)->I64 (q0.getD (21:Nat) q1)->I64 (q0.getD (22:Nat) q1)->I64 (q0.getD (23:Nat) q1)->I64 (q0.getD (24:Nat) q1)->I64 (q0.getD (25:Nat) q1)->I64 (q0.getD (26:Nat) q1)->I64 (q0.getD (27:Nat) q1)->I64 (q0.getD (28:Nat) q1)->I64 (q0.getD (29:Nat) q1)->I64 (q0.getD (30:Nat) q1)->I64 (q0.getD (31:Nat) q1)->I64 (q0.getD (32:Nat) q1)->I64 (q0.getD (33:Nat) q1)->I64 (q0.getD (34:Nat) q1)->I64 (q0.getD (35:Nat) q1)->I64 (q0.getD (36:Nat) q1)->I64 (q0.getD (37:Nat) q1)->I64 (q0.getD (38:Nat) q1)->I64 (q0.getD (39:Nat) q1)->I64 (q0.getD (40:Nat) q1)->I64 (q0.getD (41:Nat) q1)->I64 (q0.getD (42:Nat) q1)->I64 (q0.getD (43:Nat) q1)->I64 (q0.getD (44:Nat) q1)->I64 (q0.getD (45:Nat) q1)->I64 (q0.getD (46:Nat) q1)->I64 (q0.getD (47:Nat) q1)->I64 (q0.getD (48:Nat) q1)->I64 (q0.getD (49:Nat) q1)->I64 (q0.getD (50:Nat) q1)->I64 (q0.getD (51:Nat) q1)->I64 (q0.getD (52:Nat) q1)->I64 (q0.getD (53:Nat) q1)->I64 (q0.getD (54:Nat) q1)->I64 (q0.getD (55:Nat) q1)->I64 (q0.getD (56:Nat) q1)->I64 (q0.getD (57:Nat) q1)->I64 (q0.getD (58:Nat) q1)->I64 (q0.getD (59:Nat) q1)->I64 (q0.getD (60:Nat) q1)->I64 (q0.getD (61:Nat) q1)->I64 (q0.getD (62:Nat) q1)->I64 (q0.getD (63:Nat) q1)->I64 (q0.getD (64:Nat) q1)->(∀ (i:Nat),(fun (q4:Int)=>(0:Int)<=q4/\q4+(↑m.length:Int)<=(4611686018427387904:Int)) ((mj Sh.int q0 q2 q3).getD i (0:Int)))/\(mj Sh.int (cK (mj Sh.int q0 q2 q3) m) q2 q3).length=q3/\((fM (dm (mj Sh.int (cK (mj Sh.int q0 q2 q3) m) q2 q3)) (64:Nat)).length*(8:Nat)<=(140737488355328:Nat)->(↑(fM (dm (mj Sh.int (cK (mj Sh.int q0 q2 q3) m) q2 q3)) (64:Nat)).length:Int)=r0))) (bA l)) (dflt Sh.int)) (0:Nat)) (65:Nat)):=by kernel_rfl
theorem CA (l:List Snap) (m:List Int) (h0:nch l<=1048576):Sat Try.prog (au aJ) 82 [.c (.fz (.nm .snap) (l)),.c (.fz .int (m))] [] ⟨[nch l<=1048576],[.c (.int (((distF (l++[⟨0,0,m,false,⟨[]⟩⟩]):Int))))],none,false⟩:=by
 refine aU lR [] Try.func82 (by decide) (by kernel_rfl) ?_
 rw [CI]
 (repeat' (first | with_reducible refine And.intro ?_ ?_ | with_reducible refine and_imp.2 ?_ | intro))
 all_goals (first | (first | with_reducible rfl | with_reducible assumption | omega | (refine al ?_ ?_ <;> omega)) | exact (kE 65 0) | exact (ui (s:=.int) (by assumption) (by assumption) _).1 | exact (ui (s:=.int) (by assumption) (by assumption) _).2 | exact (by rw [eu (s:=.int) (xs:=cK _ _) (by rw [my,kE]),eu (dS l)]; have:=tG (l++[Snap.mk 0 0 m false ⟨[]⟩]); rw [fV] at this; exact this))
def ij:cJ:=(bW 82 (bQ (aj (kC (cL (.nm .snap))) (aj (kC (cL .int)) aP)) aO fun (l,m,_) (_)=>⟨[nch l<=1048576],[.c (.int (((distF (l++[⟨0,0,m,false,⟨[]⟩⟩]):Int))))],none,false⟩) (bW 62 (bQ (aj (kC (cL (.nm .snap))) aP) aO fun (l,_) (_)=>⟨[nch l<=1048576],[.c (.int (((distF l:Int))))],none,false⟩) tI))
theorem dN:aR Try.prog (au aJ) ij:=(aC (aB (ae (aw bR) (ae (aw bR) ao)) aq fun (l,m,_) (_) hp=>CA l m (fh hp)) (aC (aB (ae (aw bR) ao) aq fun (l,_) (_) hp=>q_ l (fh hp)) lR))
end Go.Proofs.Ytdggohppeeaipaa
namespace Go.Proofs.Ytdggohppeeaipaa
open Go.RowKit
def eL {α:Type} (l:List α) (i:Nat) (x:α):List α:=l.take i++x :: l.drop i
def wI {α:Type} (l:List α) (i:Int):List α:=l.take i.toNat++l.drop (i+1).toNat
def bB (s:State) (c:Command):Int:=if 0<=ag Opn.set c.set s.opens/\¬ (s.opens.getD (ag Opn.set c.set s.opens).toNat (dflt (.nm .opn))).client=c.client then -1 else ag Opn.set c.set s.opens
def aS (s:State) (c:Command):State × Reply:=if 0<=ag Opn.set c.set s.opens then (s,⟨16,(s.opens.getD (ag Opn.set c.set s.opens).toNat (dflt (.nm .opn))).client⟩)
 else ({ s with opens:=eL s.opens (s.opens.takeWhile fun y=>decide (y.set<c.set)).length ⟨c.set,c.client⟩ },⟨0,0⟩)
def aW (s:State) (c:Command):State × Reply:=if bB s c<0 then (s,⟨15,0⟩) else ({ s with opens:=wI s.opens (bB s c) },⟨0,0⟩)
def aN (s:State) (c:Command):State × Reply:=
 if bB s c<0 then (s,⟨15,0⟩)
 else if 16<=(s.snaps.length:Int)\/1048576<=s.next then (s,⟨20,0⟩)
 else if ¬ s.quota=0/\s.quota<(distF (s.snaps++[⟨0,0,c.chunks,false,⟨[]⟩⟩]):Int) then (s,⟨19,0⟩)
 else ({ s with next:=s.next+1,opens:=wI s.opens (bB s c),snaps:=s.snaps++[⟨s.next,c.set,c.chunks,false,⟨[]⟩⟩] },⟨0,s.next⟩)
def aK (s:State) (at_:Nat):State × Reply:=
 if (s.snaps.getD at_ (dflt (.nm .snap))).held=true then (s,⟨17,0⟩)
 else if iF s at_=true then (s,⟨18,0⟩)
 else ({ s with snaps:=aZ (s.snaps.getD at_ (dflt (.nm .snap))).id s.snaps },⟨0,(fo s.snaps (s.snaps.getD at_ (dflt (.nm .snap))).id).length⟩)
def bc (s:State) (at_:Nat):State × Reply:=(s,⟨0,(s.snaps.getD at_ (dflt (.nm .snap))).chunks.length⟩)
def bn (b:Bool) (s:State) (at_:Nat):State × Reply:=
 if (s.snaps.getD at_ (dflt (.nm .snap))).held=b then (s,⟨0,0⟩)
 else ({ s with snaps:=s.snaps.set at_ { s.snaps.getD at_ (dflt (.nm .snap)) with held:=b } },⟨0,1⟩)
def cG (c:Command) (s:State) (at_:Nat):State × Reply:=({ s with snaps:=s.snaps.set at_ { s.snaps.getD at_ (dflt (.nm .snap)) with tag:=c.text } },⟨0,0⟩)
def cZ (c:Command) (s:State):State × Reply:=({ s with keep:=c.n },⟨0,0⟩)
def cz (c:Command) (s:State):State × Reply:=({ s with quota:=c.n },⟨0,distF s.snaps⟩)
theorem aX {α:Type} {key:α->Int} {want:Int} {l:List α} (h:0<=ag key want l):ag key want l<(l.length:Int):=by
 unfold ag at *
 split
 ·rename_i i hi
  have:=(List.findIdx?_eq_some_iff_getElem.1 hi).1
  omega
 ·omega
theorem yG {s:State} {c:Command} (h:0<=bB s c):bB s c+1<=(s.opens.length:Int):=by
 unfold bB at *
 split
 ·rename_i h1; rw [if_pos h1] at h; omega
 ·rename_i h1; rw [if_neg h1] at h
  have:=aX h
  omega
theorem vl (i:Int) (m:List Opn) (l:List Opn) (h0:0<=i/\i<=(l.length:Int)) (h1:l.length<1048576) (h2:m.length=1):Sat Try.prog (au aJ) 80 [.c (.own 0),.c (.int (i)),.c (.fz (.nm .opn) (m))] [.row 48 (.nm .opn) (l)] ⟨[0<=i/\i<=(l.length:Int),l.length<1048576,m.length=1],[.c (.own 0)],some ([.row 48 (.nm .opn) ((l.take i.toNat++m++l.drop i.toNat))]),false⟩:=pC i l m h0 h1 h2
theorem tj (i:Int) (l:List Sess) (m:List Sess) (h0:0<=i/\i<=(l.length:Int)) (h1:l.length<1048576) (h2:m.length=1):Sat Try.prog (au aJ) 25 [.c (.own 0),.c (.int (i)),.c (.own 1)] [.row 40 (.nm .sess) (l),.row 40 (.nm .sess) (m)] ⟨[0<=i/\i<=(l.length:Int),l.length<1048576,m.length=1],[.c (.own 0)],some ([.row 40 (.nm .sess) ((l.take i.toNat++m++l.drop i.toNat)),.row 40 (.nm .sess) ((m))]),false⟩:=pq i l m h0 h1 h2
theorem vm (i:Int) (j:Int) (l:List Opn) (h0:0<=i/\i<(l.length:Int)/\j=i+1):Sat Try.prog (au aJ) 83 [.c (.own 0),.c (.int (i)),.c (.int (j))] [.row 48 (.nm .opn) (l)] ⟨[0<=i/\i<(l.length:Int)/\j=i+1],[.c (.own 0)],some ([.row 48 (.nm .opn) ((l.take i.toNat++l.drop j.toNat))]),false⟩:=pL i j l h0
theorem wJ (c:Command) (v:Int) (nx:Int) (kp:Int) (qt:Int) (se:List Sess) (op:List Opn) (sn:List Snap) (r0:Int):dq aJ ij [] Try.f81 [.c (.ptr 0 0),.agg (cellsOf (.nm .command) c)] [.box 29 ([.int (v),.int (nx),.int (kp),.int (qt),.own 1,.own 2,.own 3]),.row 40 (.nm .sess) (se),.row 48 (.nm .opn) (op),.row 59 (.nm .snap) (sn)] [.c (.int (r0))]=((fun (q0:Int)=>I64 c.kind->I64 c.client->I64 c.seq->I64 c.set->I64 c.id->I64 c.n->c.chunks.length*(8:Nat)<=(140737488355328:Nat)->c.text.b.length<=(140737488355328:Nat)->I64 q0->((0:Int)<=q0->(0:Int)<=q0/\q0<(↑op.length:Int))/\(((0:Int)<=q0->I64 (op.getD q0.toNat (dflt (Sh.nm NT.opn))).set/\I64 (op.getD q0.toNat (dflt (Sh.nm NT.opn))).client)->((0:Int)<=q0/\¬(op.getD q0.toNat (dflt (Sh.nm NT.opn))).client=c.client->(-1:Int)=r0)/\(q0<(0:Int)\/(op.getD q0.toNat (dflt (Sh.nm NT.opn))).client=c.client->q0=r0))) (ag Opn.set c.set op)):=by kernel_rfl
theorem vV (c:Command) (v:Int) (nx:Int) (kp:Int) (qt:Int) (se:List Sess) (op:List Opn) (sn:List Snap):Sat Try.prog (au aJ) 81 [.c (.ptr 0 0),.agg (cellsOf (.nm .command) c)] [.box 29 ([.int (v),.int (nx),.int (kp),.int (qt),.own 1,.own 2,.own 3]),.row 40 (.nm .sess) (se),.row 48 (.nm .opn) (op),.row 59 (.nm .snap) (sn)] ⟨[],[.c (.int ((bB (State.mk v nx kp qt se op sn) c)))],none,false⟩:=by
 refine aU dN [] Try.func81 (by decide) (by kernel_rfl) ?_
 rw [wJ]
 (repeat' (first | with_reducible refine And.intro ?_ ?_ | with_reducible refine and_imp.2 ?_ | intro))
 all_goals (first | (first | with_reducible rfl | with_reducible assumption | omega | (refine al ?_ ?_ <;> omega)) | exact aX (by with_reducible assumption) | (unfold bB; grind))
theorem ET (c:Command) (v:Int) (nx:Int) (kp:Int) (qt:Int) (se:List Sess) (op:List Opn) (sn:List Snap) (r0:Reply) (r1:Command) (r2:Int) (r3:Int) (r4:Int) (r5:Int) (r6:List Sess) (r7:List Opn) (r8:List Snap):nB aJ ij [] Try.f60 [.c (.ptr 0 0),.c (.ptr 1 0)] [.box 42 (cellsOf (.nm .command) (c)),.box 29 ([.int (v),.int (nx),.int (kp),.int (qt),.own 2,.own 3,.own 4]),.row 40 (.nm .sess) (se),.row 48 (.nm .opn) (op),.row 59 (.nm .snap) (sn)] [.agg (cellsOf (.nm .reply) r0)] [.box 42 (cellsOf (.nm .command) (r1)),.box 29 ([.int (r2),.int (r3),.int (r4),.int (r5),.own 2,.own 3,.own 4]),.row 40 (.nm .sess) (r6),.row 48 (.nm .opn) (r7),.row 59 (.nm .snap) (r8)]=((0:Int)=r0.code/\(0:Int)=r0.n/\c.kind=r1.kind/\c.client=r1.client/\c.seq=r1.seq/\c.set=r1.set/\c.id=r1.id/\c.n=r1.n/\c.chunks=r1.chunks/\c.text=r1.text/\v=r2/\nx=r3/\c.n=r4/\qt=r5/\se=r6/\op=r7/\sn=r8):=by kernel_rfl
theorem FG (c:Command) (v:Int) (nx:Int) (kp:Int) (qt:Int) (se:List Sess) (op:List Opn) (sn:List Snap):Sat Try.prog (au aJ) 60 [.c (.ptr 0 0),.c (.ptr 1 0)] [.box 42 (cellsOf (.nm .command) (c)),.box 29 ([.int (v),.int (nx),.int (kp),.int (qt),.own 2,.own 3,.own 4]),.row 40 (.nm .sess) (se),.row 48 (.nm .opn) (op),.row 59 (.nm .snap) (sn)] ⟨[],[.agg (cellsOf (.nm .reply) ((cZ c (State.mk v nx kp qt se op sn)).2))],some ([.box 42 (cellsOf (.nm .command) ((c))),.box 29 ([.int ((((cZ c (State.mk v nx kp qt se op sn)).1).version)),.int ((((cZ c (State.mk v nx kp qt se op sn)).1).next)),.int ((((cZ c (State.mk v nx kp qt se op sn)).1).keep)),.int ((((cZ c (State.mk v nx kp qt se op sn)).1).quota)),.own 2,.own 3,.own 4]),.row 40 (.nm .sess) ((((cZ c (State.mk v nx kp qt se op sn)).1).sess)),.row 48 (.nm .opn) ((((cZ c (State.mk v nx kp qt se op sn)).1).opens)),.row 59 (.nm .snap) ((((cZ c (State.mk v nx kp qt se op sn)).1).snaps))]),false⟩:=by
 refine dt dN [] Try.func60 (by decide) (by kernel_rfl) ?_
 rw [ET]
 (repeat' (first | with_reducible refine And.intro ?_ ?_ | with_reducible refine and_imp.2 ?_ | intro))
 all_goals (first | (first | with_reducible rfl | with_reducible assumption | omega | (refine al ?_ ?_ <;> omega)) | exact rfl)
theorem Fk (c:Command) (v:Int) (nx:Int) (kp:Int) (qt:Int) (se:List Sess) (op:List Opn) (sn:List Snap) (r0:Reply) (r1:Command) (r2:Int) (r3:Int) (r4:Int) (r5:Int) (r6:List Sess) (r7:List Opn) (r8:List Snap):nB aJ ij [] Try.f61 [.c (.ptr 0 0),.c (.ptr 1 0)] [.box 42 (cellsOf (.nm .command) (c)),.box 29 ([.int (v),.int (nx),.int (kp),.int (qt),.own 2,.own 3,.own 4]),.row 40 (.nm .sess) (se),.row 48 (.nm .opn) (op),.row 59 (.nm .snap) (sn)] [.agg (cellsOf (.nm .reply) r0)] [.box 42 (cellsOf (.nm .command) (r1)),.box 29 ([.int (r2),.int (r3),.int (r4),.int (r5),.own 2,.own 3,.own 4]),.row 40 (.nm .sess) (r6),.row 48 (.nm .opn) (r7),.row 59 (.nm .snap) (r8)]=(nch sn<=(1048576:Nat)/\(I64 (↑(distF sn):Int)->(0:Int)=r0.code/\(↑(distF sn):Int)=r0.n/\c.kind=r1.kind/\c.client=r1.client/\c.seq=r1.seq/\c.set=r1.set/\c.id=r1.id/\c.n=r1.n/\c.chunks=r1.chunks/\c.text=r1.text/\v=r2/\nx=r3/\kp=r4/\c.n=r5/\se=r6/\op=r7/\sn=r8)):=by kernel_rfl
theorem Et (c:Command) (v:Int) (nx:Int) (kp:Int) (qt:Int) (se:List Sess) (op:List Opn) (sn:List Snap) (h0:nch sn<=1048576):Sat Try.prog (au aJ) 61 [.c (.ptr 0 0),.c (.ptr 1 0)] [.box 42 (cellsOf (.nm .command) (c)),.box 29 ([.int (v),.int (nx),.int (kp),.int (qt),.own 2,.own 3,.own 4]),.row 40 (.nm .sess) (se),.row 48 (.nm .opn) (op),.row 59 (.nm .snap) (sn)] ⟨[nch sn<=1048576],[.agg (cellsOf (.nm .reply) ((cz c (State.mk v nx kp qt se op sn)).2))],some ([.box 42 (cellsOf (.nm .command) ((c))),.box 29 ([.int ((((cz c (State.mk v nx kp qt se op sn)).1).version)),.int ((((cz c (State.mk v nx kp qt se op sn)).1).next)),.int ((((cz c (State.mk v nx kp qt se op sn)).1).keep)),.int ((((cz c (State.mk v nx kp qt se op sn)).1).quota)),.own 2,.own 3,.own 4]),.row 40 (.nm .sess) ((((cz c (State.mk v nx kp qt se op sn)).1).sess)),.row 48 (.nm .opn) ((((cz c (State.mk v nx kp qt se op sn)).1).opens)),.row 59 (.nm .snap) ((((cz c (State.mk v nx kp qt se op sn)).1).snaps))]),false⟩:=by
 refine dt dN [] Try.func61 (by decide) (by kernel_rfl) ?_
 rw [Fk]
 (repeat' (first | with_reducible refine And.intro ?_ ?_ | with_reducible refine and_imp.2 ?_ | intro))
 all_goals (first | (first | with_reducible rfl | with_reducible assumption | omega | (refine al ?_ ?_ <;> omega)) | exact rfl)
theorem CU (i:Int) (v:Int) (nx:Int) (kp:Int) (qt:Int) (se:List Sess) (op:List Opn) (sn:List Snap) (r0:Reply) (r1:Int) (r2:Int) (r3:Int) (r4:Int) (r5:List Sess) (r6:List Opn) (r7:List Snap):nB aJ ij [] Try.f64 [.c (.ptr 0 0),.c (.int (i))] [.box 29 ([.int (v),.int (nx),.int (kp),.int (qt),.own 1,.own 2,.own 3]),.row 40 (.nm .sess) (se),.row 48 (.nm .opn) (op),.row 59 (.nm .snap) (sn)] [.agg (cellsOf (.nm .reply) r0)] [.box 29 ([.int (r1),.int (r2),.int (r3),.int (r4),.own 1,.own 2,.own 3]),.row 40 (.nm .sess) (r5),.row 48 (.nm .opn) (r6),.row 59 (.nm .snap) (r7)]=((fun (q2:Bool)=>(fun (q1:Prop)=>(fun (q0:den (Sh.nm NT.snap))=>I64 i->(0:Int)<=i/\i<(↑sn.length:Int)/\(I64 q0.id->I64 q0.set->q0.chunks.length*(8:Nat)<=(140737488355328:Nat)->q0.tag.b.length<=(140737488355328:Nat)->(q0.held=true->I64 (17:Int)->I64 (0:Int)->(17:Int)=r0.code/\q1)/\(q0.held=false->(q2=true->I64 (18:Int)->I64 (0:Int)->(18:Int)=r0.code/\q1)/\(q2=false->nch sn<=(1048576:Nat)/\((fo sn q0.id).length*(8:Nat)<=(140737488355328:Nat)->(0:Int)=r0.code/\(↑(fo sn q0.id).length:Int)=r0.n/\v=r1/\nx=r2/\kp=r3/\qt=r4/\se=r5/\op=r6/\aZ q0.id sn=r7))))) (sn.getD i.toNat (dflt (Sh.nm NT.snap)))) ((0:Int)=r0.n/\v=r1/\nx=r2/\kp=r3/\qt=r4/\se=r5/\op=r6/\sn=r7)) (iF (State.mk v nx kp qt se op sn) i)):=by kernel_rfl
theorem CR (i:Int) (v:Int) (nx:Int) (kp:Int) (qt:Int) (se:List Sess) (op:List Opn) (sn:List Snap) (h0:0<=i/\i<(sn.length:Int)) (h1:nch sn<=1048576):Sat Try.prog (au aJ) 64 [.c (.ptr 0 0),.c (.int (i))] [.box 29 ([.int (v),.int (nx),.int (kp),.int (qt),.own 1,.own 2,.own 3]),.row 40 (.nm .sess) (se),.row 48 (.nm .opn) (op),.row 59 (.nm .snap) (sn)] ⟨[0<=i/\i<(sn.length:Int),nch sn<=1048576],[.agg (cellsOf (.nm .reply) ((aK (State.mk v nx kp qt se op sn) i.toNat).2))],some ([.box 29 ([.int ((((aK (State.mk v nx kp qt se op sn) i.toNat).1).version)),.int ((((aK (State.mk v nx kp qt se op sn) i.toNat).1).next)),.int ((((aK (State.mk v nx kp qt se op sn) i.toNat).1).keep)),.int ((((aK (State.mk v nx kp qt se op sn) i.toNat).1).quota)),.own 1,.own 2,.own 3]),.row 40 (.nm .sess) ((((aK (State.mk v nx kp qt se op sn) i.toNat).1).sess)),.row 48 (.nm .opn) ((((aK (State.mk v nx kp qt se op sn) i.toNat).1).opens)),.row 59 (.nm .snap) ((((aK (State.mk v nx kp qt se op sn) i.toNat).1).snaps))]),false⟩:=by
 refine dt dN [] Try.func64 (by decide) (by kernel_rfl) ?_
 rw [CU]
 have hi:((i.toNat:Nat):Int)=i:=by omega
 (repeat' (first | with_reducible refine And.intro ?_ ?_ | with_reducible refine and_imp.2 ?_ | intro))
 all_goals (first | (first | with_reducible rfl | with_reducible assumption | omega | (refine al ?_ ?_ <;> omega)) | ((simp only [aK,hi]; simp_all) <;> (intros; omega)) | (simp only [aK,hi]; grind))
theorem EA (i:Int) (v:Int) (nx:Int) (kp:Int) (qt:Int) (se:List Sess) (op:List Opn) (sn:List Snap) (r0:Reply) (r1:Int) (r2:Int) (r3:Int) (r4:Int) (r5:List Sess) (r6:List Opn) (r7:List Snap):nB aJ ij [] Try.f65 [.c (.int (i)),.c (.ptr 0 0)] [.box 29 ([.int (v),.int (nx),.int (kp),.int (qt),.own 1,.own 2,.own 3]),.row 40 (.nm .sess) (se),.row 48 (.nm .opn) (op),.row 59 (.nm .snap) (sn)] [.agg (cellsOf (.nm .reply) r0)] [.box 29 ([.int (r1),.int (r2),.int (r3),.int (r4),.own 1,.own 2,.own 3]),.row 40 (.nm .sess) (r5),.row 48 (.nm .opn) (r6),.row 59 (.nm .snap) (r7)]=((fun (q0:den (Sh.nm NT.snap))=>I64 i->(0:Int)<=i/\i<(↑sn.length:Int)/\(I64 q0.id->I64 q0.set->q0.chunks.length*(8:Nat)<=(140737488355328:Nat)->q0.tag.b.length<=(140737488355328:Nat)->(0:Int)=r0.code/\(↑q0.chunks.length:Int)=r0.n/\v=r1/\nx=r2/\kp=r3/\qt=r4/\se=r5/\op=r6/\sn=r7)) (sn.getD i.toNat (dflt (Sh.nm NT.snap)))):=by kernel_rfl
theorem Ev (i:Int) (v:Int) (nx:Int) (kp:Int) (qt:Int) (se:List Sess) (op:List Opn) (sn:List Snap) (h0:0<=i/\i<(sn.length:Int)):Sat Try.prog (au aJ) 65 [.c (.int (i)),.c (.ptr 0 0)] [.box 29 ([.int (v),.int (nx),.int (kp),.int (qt),.own 1,.own 2,.own 3]),.row 40 (.nm .sess) (se),.row 48 (.nm .opn) (op),.row 59 (.nm .snap) (sn)] ⟨[0<=i/\i<(sn.length:Int)],[.agg (cellsOf (.nm .reply) ((bc (State.mk v nx kp qt se op sn) i.toNat).2))],some ([.box 29 ([.int ((((bc (State.mk v nx kp qt se op sn) i.toNat).1).version)),.int ((((bc (State.mk v nx kp qt se op sn) i.toNat).1).next)),.int ((((bc (State.mk v nx kp qt se op sn) i.toNat).1).keep)),.int ((((bc (State.mk v nx kp qt se op sn) i.toNat).1).quota)),.own 1,.own 2,.own 3]),.row 40 (.nm .sess) ((((bc (State.mk v nx kp qt se op sn) i.toNat).1).sess)),.row 48 (.nm .opn) ((((bc (State.mk v nx kp qt se op sn) i.toNat).1).opens)),.row 59 (.nm .snap) ((((bc (State.mk v nx kp qt se op sn) i.toNat).1).snaps))]),false⟩:=by
 refine dt dN [] Try.func65 (by decide) (by kernel_rfl) ?_
 rw [EA]
 (repeat' (first | with_reducible refine And.intro ?_ ?_ | with_reducible refine and_imp.2 ?_ | intro))
 all_goals (first | (first | with_reducible rfl | with_reducible assumption | omega | (refine al ?_ ?_ <;> omega)) | rfl)
theorem Cv (i:Int) (c:Command) (v:Int) (nx:Int) (kp:Int) (qt:Int) (se:List Sess) (op:List Opn) (sn:List Snap) (r0:Reply) (r1:Command) (r2:Int) (r3:Int) (r4:Int) (r5:Int) (r6:List Sess) (r7:List Opn) (r8:List Snap):nB aJ ij [] Try.f66 [.c (.int (i)),.c (.ptr 0 0),.c (.ptr 1 0)] [.box 42 (cellsOf (.nm .command) (c)),.box 29 ([.int (v),.int (nx),.int (kp),.int (qt),.own 2,.own 3,.own 4]),.row 40 (.nm .sess) (se),.row 48 (.nm .opn) (op),.row 59 (.nm .snap) (sn)] [.agg (cellsOf (.nm .reply) r0)] [.box 42 (cellsOf (.nm .command) (r1)),.box 29 ([.int (r2),.int (r3),.int (r4),.int (r5),.own 2,.own 3,.own 4]),.row 40 (.nm .sess) (r6),.row 48 (.nm .opn) (r7),.row 59 (.nm .snap) (r8)]=((fun (q0:den (Sh.nm NT.snap))=>I64 i->(0:Int)<=i/\i<(↑sn.length:Int)/\(I64 q0.id->I64 q0.set->q0.chunks.length*(8:Nat)<=(140737488355328:Nat)->q0.tag.b.length<=(140737488355328:Nat)->(0:Int)=r0.code/\(0:Int)=r0.n/\c.kind=r1.kind/\c.client=r1.client/\c.seq=r1.seq/\c.set=r1.set/\c.id=r1.id/\c.n=r1.n/\c.chunks=r1.chunks/\c.text=r1.text/\v=r2/\nx=r3/\kp=r4/\qt=r5/\se=r6/\op=r7/\sn.set i.toNat (Snap.mk q0.id q0.set q0.chunks q0.held c.text)=r8)) (sn.getD i.toNat (dflt (Sh.nm NT.snap)))):=by kernel_rfl
theorem CF (i:Int) (c:Command) (v:Int) (nx:Int) (kp:Int) (qt:Int) (se:List Sess) (op:List Opn) (sn:List Snap) (h0:0<=i/\i<(sn.length:Int)):Sat Try.prog (au aJ) 66 [.c (.int (i)),.c (.ptr 0 0),.c (.ptr 1 0)] [.box 42 (cellsOf (.nm .command) (c)),.box 29 ([.int (v),.int (nx),.int (kp),.int (qt),.own 2,.own 3,.own 4]),.row 40 (.nm .sess) (se),.row 48 (.nm .opn) (op),.row 59 (.nm .snap) (sn)] ⟨[0<=i/\i<(sn.length:Int)],[.agg (cellsOf (.nm .reply) ((cG c (State.mk v nx kp qt se op sn) i.toNat).2))],some ([.box 42 (cellsOf (.nm .command) ((c))),.box 29 ([.int ((((cG c (State.mk v nx kp qt se op sn) i.toNat).1).version)),.int ((((cG c (State.mk v nx kp qt se op sn) i.toNat).1).next)),.int ((((cG c (State.mk v nx kp qt se op sn) i.toNat).1).keep)),.int ((((cG c (State.mk v nx kp qt se op sn) i.toNat).1).quota)),.own 2,.own 3,.own 4]),.row 40 (.nm .sess) ((((cG c (State.mk v nx kp qt se op sn) i.toNat).1).sess)),.row 48 (.nm .opn) ((((cG c (State.mk v nx kp qt se op sn) i.toNat).1).opens)),.row 59 (.nm .snap) ((((cG c (State.mk v nx kp qt se op sn) i.toNat).1).snaps))]),false⟩:=by
 refine dt dN [] Try.func66 (by decide) (by kernel_rfl) ?_
 rw [Cv]
 (repeat' (first | with_reducible refine And.intro ?_ ?_ | with_reducible refine and_imp.2 ?_ | intro))
 all_goals (first | (first | with_reducible rfl | with_reducible assumption | omega | (refine al ?_ ?_ <;> omega)) | exact rfl)
theorem ym (i:Int) (v:Int) (nx:Int) (kp:Int) (qt:Int) (se:List Sess) (op:List Opn) (sn:List Snap) (b:Bool) (r0:Reply) (r1:Int) (r2:Int) (r3:Int) (r4:Int) (r5:List Sess) (r6:List Opn) (r7:List Snap) (r8:Bool):nB aJ ij [] Try.f53 [.c (.int (i)),.c (.ptr 0 0),.c (.ptr 4 0)] [.box 29 ([.int (v),.int (nx),.int (kp),.int (qt),.own 1,.own 2,.own 3]),.row 40 (.nm .sess) (se),.row 48 (.nm .opn) (op),.row 59 (.nm .snap) (sn),.box 4 ([.bool (.atom (b))])] [.agg (cellsOf (.nm .reply) r0)] [.box 29 ([.int (r1),.int (r2),.int (r3),.int (r4),.own 1,.own 2,.own 3]),.row 40 (.nm .sess) (r5),.row 48 (.nm .opn) (r6),.row 59 (.nm .snap) (r7),.box 4 ([.bool (.atom (r8))])]=((fun (q0:den (Sh.nm NT.snap))=>I64 i->(0:Int)<=i/\i<(↑sn.length:Int)/\(I64 q0.id->I64 q0.set->q0.chunks.length*(8:Nat)<=(140737488355328:Nat)->q0.tag.b.length<=(140737488355328:Nat)->((q0.held == b)=true->(0:Int)=r0.code/\(0:Int)=r0.n/\v=r1/\nx=r2/\kp=r3/\qt=r4/\se=r5/\op=r6/\sn=r7/\b=r8)/\((q0.held == b)=false->(0:Int)=r0.code/\(1:Int)=r0.n/\v=r1/\nx=r2/\kp=r3/\qt=r4/\se=r5/\op=r6/\sn.set i.toNat (Snap.mk q0.id q0.set q0.chunks b q0.tag)=r7/\b=r8))) (sn.getD i.toNat (dflt (Sh.nm NT.snap)))):=by kernel_rfl
theorem xN (i:Int) (v:Int) (nx:Int) (kp:Int) (qt:Int) (se:List Sess) (op:List Opn) (sn:List Snap) (b:Bool) (h0:0<=i/\i<(sn.length:Int)):Sat Try.prog (au aJ) 53 [.c (.int (i)),.c (.ptr 0 0),.c (.ptr 4 0)] [.box 29 ([.int (v),.int (nx),.int (kp),.int (qt),.own 1,.own 2,.own 3]),.row 40 (.nm .sess) (se),.row 48 (.nm .opn) (op),.row 59 (.nm .snap) (sn),.box 4 ([.bool (.atom (b))])] ⟨[0<=i/\i<(sn.length:Int)],[.agg (cellsOf (.nm .reply) ((bn b (State.mk v nx kp qt se op sn) i.toNat).2))],some ([.box 29 ([.int ((((bn b (State.mk v nx kp qt se op sn) i.toNat).1).version)),.int ((((bn b (State.mk v nx kp qt se op sn) i.toNat).1).next)),.int ((((bn b (State.mk v nx kp qt se op sn) i.toNat).1).keep)),.int ((((bn b (State.mk v nx kp qt se op sn) i.toNat).1).quota)),.own 1,.own 2,.own 3]),.row 40 (.nm .sess) ((((bn b (State.mk v nx kp qt se op sn) i.toNat).1).sess)),.row 48 (.nm .opn) ((((bn b (State.mk v nx kp qt se op sn) i.toNat).1).opens)),.row 59 (.nm .snap) ((((bn b (State.mk v nx kp qt se op sn) i.toNat).1).snaps)),.box 4 ([.bool (.atom ((b)))])]),false⟩:=by
 refine dt dN [] Try.func53 (by decide) (by kernel_rfl) ?_
 rw [ym]
 (repeat' (first | with_reducible refine And.intro ?_ ?_ | with_reducible refine and_imp.2 ?_ | intro))
 all_goals (first | (first | with_reducible rfl | with_reducible assumption | omega | (refine al ?_ ?_ <;> omega)) | ((simp only [bn]; simp_all) <;> (intros; omega)) | (simp only [bn]; grind))
def nz:cJ:=(bW 53 (bQ (aj (kC cI) (aj (kC (bL 0 0)) (aj (kC (bL 4 0)) aP))) (ay (bK 29 (ai cI (ai cI (ai cI (ai cI (ai (ba 1) (ai (ba 2) (ai (ba 3) bH)))))))) (ay (a_ 40 (.nm .sess)) (ay (a_ 48 (.nm .opn)) (ay (a_ 59 (.nm .snap)) (ay (bK 4 (ai cB bH)) aO))))) fun (i,_,_,_) ((v,nx,kp,qt,_,_,_,_),se,op,sn,(b,_),_)=>⟨[0<=i/\i<(sn.length:Int)],[.agg (cellsOf (.nm .reply) ((bn b (State.mk v nx kp qt se op sn) i.toNat).2))],some ([.box 29 ([.int ((((bn b (State.mk v nx kp qt se op sn) i.toNat).1).version)),.int ((((bn b (State.mk v nx kp qt se op sn) i.toNat).1).next)),.int ((((bn b (State.mk v nx kp qt se op sn) i.toNat).1).keep)),.int ((((bn b (State.mk v nx kp qt se op sn) i.toNat).1).quota)),.own 1,.own 2,.own 3]),.row 40 (.nm .sess) ((((bn b (State.mk v nx kp qt se op sn) i.toNat).1).sess)),.row 48 (.nm .opn) ((((bn b (State.mk v nx kp qt se op sn) i.toNat).1).opens)),.row 59 (.nm .snap) ((((bn b (State.mk v nx kp qt se op sn) i.toNat).1).snaps)),.box 4 ([.bool (.atom ((b)))])]),false⟩) (bW 66 (bQ (aj (kC cI) (aj (kC (bL 0 0)) (aj (kC (bL 1 0)) aP))) (ay (bK 42 (pJ (.nm .command) bH)) (ay (bK 29 (ai cI (ai cI (ai cI (ai cI (ai (ba 2) (ai (ba 3) (ai (ba 4) bH)))))))) (ay (a_ 40 (.nm .sess)) (ay (a_ 48 (.nm .opn)) (ay (a_ 59 (.nm .snap)) aO))))) fun (i,_,_,_) ((c,_),(v,nx,kp,qt,_,_,_,_),se,op,sn,_)=>⟨[0<=i/\i<(sn.length:Int)],[.agg (cellsOf (.nm .reply) ((cG c (State.mk v nx kp qt se op sn) i.toNat).2))],some ([.box 42 (cellsOf (.nm .command) ((c))),.box 29 ([.int ((((cG c (State.mk v nx kp qt se op sn) i.toNat).1).version)),.int ((((cG c (State.mk v nx kp qt se op sn) i.toNat).1).next)),.int ((((cG c (State.mk v nx kp qt se op sn) i.toNat).1).keep)),.int ((((cG c (State.mk v nx kp qt se op sn) i.toNat).1).quota)),.own 2,.own 3,.own 4]),.row 40 (.nm .sess) ((((cG c (State.mk v nx kp qt se op sn) i.toNat).1).sess)),.row 48 (.nm .opn) ((((cG c (State.mk v nx kp qt se op sn) i.toNat).1).opens)),.row 59 (.nm .snap) ((((cG c (State.mk v nx kp qt se op sn) i.toNat).1).snaps))]),false⟩) (bW 65 (bQ (aj (kC cI) (aj (kC (bL 0 0)) aP)) (ay (bK 29 (ai cI (ai cI (ai cI (ai cI (ai (ba 1) (ai (ba 2) (ai (ba 3) bH)))))))) (ay (a_ 40 (.nm .sess)) (ay (a_ 48 (.nm .opn)) (ay (a_ 59 (.nm .snap)) aO)))) fun (i,_,_) ((v,nx,kp,qt,_,_,_,_),se,op,sn,_)=>⟨[0<=i/\i<(sn.length:Int)],[.agg (cellsOf (.nm .reply) ((bc (State.mk v nx kp qt se op sn) i.toNat).2))],some ([.box 29 ([.int ((((bc (State.mk v nx kp qt se op sn) i.toNat).1).version)),.int ((((bc (State.mk v nx kp qt se op sn) i.toNat).1).next)),.int ((((bc (State.mk v nx kp qt se op sn) i.toNat).1).keep)),.int ((((bc (State.mk v nx kp qt se op sn) i.toNat).1).quota)),.own 1,.own 2,.own 3]),.row 40 (.nm .sess) ((((bc (State.mk v nx kp qt se op sn) i.toNat).1).sess)),.row 48 (.nm .opn) ((((bc (State.mk v nx kp qt se op sn) i.toNat).1).opens)),.row 59 (.nm .snap) ((((bc (State.mk v nx kp qt se op sn) i.toNat).1).snaps))]),false⟩) (bW 64 (bQ (aj (kC (bL 0 0)) (aj (kC cI) aP)) (ay (bK 29 (ai cI (ai cI (ai cI (ai cI (ai (ba 1) (ai (ba 2) (ai (ba 3) bH)))))))) (ay (a_ 40 (.nm .sess)) (ay (a_ 48 (.nm .opn)) (ay (a_ 59 (.nm .snap)) aO)))) fun (_,i,_) ((v,nx,kp,qt,_,_,_,_),se,op,sn,_)=>⟨[0<=i/\i<(sn.length:Int),nch sn<=1048576],[.agg (cellsOf (.nm .reply) ((aK (State.mk v nx kp qt se op sn) i.toNat).2))],some ([.box 29 ([.int ((((aK (State.mk v nx kp qt se op sn) i.toNat).1).version)),.int ((((aK (State.mk v nx kp qt se op sn) i.toNat).1).next)),.int ((((aK (State.mk v nx kp qt se op sn) i.toNat).1).keep)),.int ((((aK (State.mk v nx kp qt se op sn) i.toNat).1).quota)),.own 1,.own 2,.own 3]),.row 40 (.nm .sess) ((((aK (State.mk v nx kp qt se op sn) i.toNat).1).sess)),.row 48 (.nm .opn) ((((aK (State.mk v nx kp qt se op sn) i.toNat).1).opens)),.row 59 (.nm .snap) ((((aK (State.mk v nx kp qt se op sn) i.toNat).1).snaps))]),false⟩) (bW 61 (bQ (aj (kC (bL 0 0)) (aj (kC (bL 1 0)) aP)) (ay (bK 42 (pJ (.nm .command) bH)) (ay (bK 29 (ai cI (ai cI (ai cI (ai cI (ai (ba 2) (ai (ba 3) (ai (ba 4) bH)))))))) (ay (a_ 40 (.nm .sess)) (ay (a_ 48 (.nm .opn)) (ay (a_ 59 (.nm .snap)) aO))))) fun (_,_,_) ((c,_),(v,nx,kp,qt,_,_,_,_),se,op,sn,_)=>⟨[nch sn<=1048576],[.agg (cellsOf (.nm .reply) ((cz c (State.mk v nx kp qt se op sn)).2))],some ([.box 42 (cellsOf (.nm .command) ((c))),.box 29 ([.int ((((cz c (State.mk v nx kp qt se op sn)).1).version)),.int ((((cz c (State.mk v nx kp qt se op sn)).1).next)),.int ((((cz c (State.mk v nx kp qt se op sn)).1).keep)),.int ((((cz c (State.mk v nx kp qt se op sn)).1).quota)),.own 2,.own 3,.own 4]),.row 40 (.nm .sess) ((((cz c (State.mk v nx kp qt se op sn)).1).sess)),.row 48 (.nm .opn) ((((cz c (State.mk v nx kp qt se op sn)).1).opens)),.row 59 (.nm .snap) ((((cz c (State.mk v nx kp qt se op sn)).1).snaps))]),false⟩) (bW 60 (bQ (aj (kC (bL 0 0)) (aj (kC (bL 1 0)) aP)) (ay (bK 42 (pJ (.nm .command) bH)) (ay (bK 29 (ai cI (ai cI (ai cI (ai cI (ai (ba 2) (ai (ba 3) (ai (ba 4) bH)))))))) (ay (a_ 40 (.nm .sess)) (ay (a_ 48 (.nm .opn)) (ay (a_ 59 (.nm .snap)) aO))))) fun (_,_,_) ((c,_),(v,nx,kp,qt,_,_,_,_),se,op,sn,_)=>⟨[],[.agg (cellsOf (.nm .reply) ((cZ c (State.mk v nx kp qt se op sn)).2))],some ([.box 42 (cellsOf (.nm .command) ((c))),.box 29 ([.int ((((cZ c (State.mk v nx kp qt se op sn)).1).version)),.int ((((cZ c (State.mk v nx kp qt se op sn)).1).next)),.int ((((cZ c (State.mk v nx kp qt se op sn)).1).keep)),.int ((((cZ c (State.mk v nx kp qt se op sn)).1).quota)),.own 2,.own 3,.own 4]),.row 40 (.nm .sess) ((((cZ c (State.mk v nx kp qt se op sn)).1).sess)),.row 48 (.nm .opn) ((((cZ c (State.mk v nx kp qt se op sn)).1).opens)),.row 59 (.nm .snap) ((((cZ c (State.mk v nx kp qt se op sn)).1).snaps))]),false⟩) (bW 81 (bQ (aj (kC (bL 0 0)) (aj (kT (.nm .command)) aP)) (ay (bK 29 (ai cI (ai cI (ai cI (ai cI (ai (ba 1) (ai (ba 2) (ai (ba 3) bH)))))))) (ay (a_ 40 (.nm .sess)) (ay (a_ 48 (.nm .opn)) (ay (a_ 59 (.nm .snap)) aO)))) fun (_,c,_) ((v,nx,kp,qt,_,_,_,_),se,op,sn,_)=>⟨[],[.c (.int ((bB (State.mk v nx kp qt se op sn) c)))],none,false⟩) (bW 83 (bQ (aj (kC (ba 0)) (aj (kC cI) (aj (kC cI) aP))) (ay (a_ 48 (.nm .opn)) aO) fun (_,i,j,_) (l,_)=>⟨[0<=i/\i<(l.length:Int)/\j=i+1],[.c (.own 0)],some ([.row 48 (.nm .opn) ((l.take i.toNat++l.drop j.toNat))]),false⟩) (bW 25 (bQ (aj (kC (ba 0)) (aj (kC cI) (aj (kC (ba 1)) aP))) (ay (a_ 40 (.nm .sess)) (ay (a_ 40 (.nm .sess)) aO)) fun (_,i,_,_) (l,m,_)=>⟨[0<=i/\i<=(l.length:Int),l.length<1048576,m.length=1],[.c (.own 0)],some ([.row 40 (.nm .sess) ((l.take i.toNat++m++l.drop i.toNat)),.row 40 (.nm .sess) ((m))]),false⟩) (bW 80 (bQ (aj (kC (ba 0)) (aj (kC cI) (aj (kC (cL (.nm .opn))) aP))) (ay (a_ 48 (.nm .opn)) aO) fun (_,i,m,_) (l,_)=>⟨[0<=i/\i<=(l.length:Int),l.length<1048576,m.length=1],[.c (.own 0)],some ([.row 48 (.nm .opn) ((l.take i.toNat++m++l.drop i.toNat))]),false⟩) ij))))))))))
theorem fX:aR Try.prog (au aJ) nz:=(aC (aB (ae (aw ax) (ae (aw aI) (ae (aw aI) ao))) (ah (aG (ab ax (ab ax (ab ax (ab ax (ab az (ab az (ab az aE)))))))) (ah aA (ah aA (ah aA (ah (aG (ab pW aE)) aq))))) fun (i,_,_,_) ((v,nx,kp,qt,_,_,_,_),se,op,sn,(b,_),_) hp=>xN i v nx kp qt se op sn b (fh hp)) (aC (aB (ae (aw ax) (ae (aw aI) (ae (aw aI) ao))) (ah (aG (cT aE)) (ah (aG (ab ax (ab ax (ab ax (ab ax (ab az (ab az (ab az aE)))))))) (ah aA (ah aA (ah aA aq))))) fun (i,_,_,_) ((c,_),(v,nx,kp,qt,_,_,_,_),se,op,sn,_) hp=>CF i c v nx kp qt se op sn (fh hp)) (aC (aB (ae (aw ax) (ae (aw aI) ao)) (ah (aG (ab ax (ab ax (ab ax (ab ax (ab az (ab az (ab az aE)))))))) (ah aA (ah aA (ah aA aq)))) fun (i,_,_) ((v,nx,kp,qt,_,_,_,_),se,op,sn,_) hp=>Ev i v nx kp qt se op sn (fh hp)) (aC (aB (ae (aw aI) (ae (aw ax) ao)) (ah (aG (ab ax (ab ax (ab ax (ab ax (ab az (ab az (ab az aE)))))))) (ah aA (ah aA (ah aA aq)))) fun (_,i,_) ((v,nx,kp,qt,_,_,_,_),se,op,sn,_) hp=>CR i v nx kp qt se op sn (fh hp) (fh (m_ hp))) (aC (aB (ae (aw aI) (ae (aw aI) ao)) (ah (aG (cT aE)) (ah (aG (ab ax (ab ax (ab ax (ab ax (ab az (ab az (ab az aE)))))))) (ah aA (ah aA (ah aA aq))))) fun (_,_,_) ((c,_),(v,nx,kp,qt,_,_,_,_),se,op,sn,_) hp=>Et c v nx kp qt se op sn (fh hp)) (aC (aB (ae (aw aI) (ae (aw aI) ao)) (ah (aG (cT aE)) (ah (aG (ab ax (ab ax (ab ax (ab ax (ab az (ab az (ab az aE)))))))) (ah aA (ah aA (ah aA aq))))) fun (_,_,_) ((c,_),(v,nx,kp,qt,_,_,_,_),se,op,sn,_) _=>FG c v nx kp qt se op sn ) (aC (aB (ae (aw aI) (ae bN ao)) (ah (aG (ab ax (ab ax (ab ax (ab ax (ab az (ab az (ab az aE)))))))) (ah aA (ah aA (ah aA aq)))) fun (_,c,_) ((v,nx,kp,qt,_,_,_,_),se,op,sn,_) _=>vV c v nx kp qt se op sn ) (aC (aB (ae (aw az) (ae (aw ax) (ae (aw ax) ao))) (ah aA aq) fun (_,i,j,_) (l,_) hp=>vm i j l (fh hp)) (aC (aB (ae (aw az) (ae (aw ax) (ae (aw az) ao))) (ah aA (ah aA aq)) fun (_,i,_,_) (l,m,_) hp=>tj i l m (fh hp) (fh (m_ hp)) (fh (m_ (m_ hp)))) (aC (aB (ae (aw az) (ae (aw ax) (ae (aw bR) ao))) (ah aA aq) fun (_,i,m,_) (l,_) hp=>vl i m l (fh hp) (fh (m_ hp)) (fh (m_ (m_ hp)))) dN))))))))))
end Go.Proofs.Ytdggohppeeaipaa
namespace Go.Proofs.Ytdggohppeeaipaa
open Go.RowKit
theorem xW {α:Type} {p:α->Bool} {l:List α} {k:Nat} (h:(l.take k).all p=true) (hk:k<=l.length) (h2:(l.length:Int)<=k\/(k:Int)<l.length/\∃ x,l[k]? = some x/\p x=false):k=(l.takeWhile p).length:=by
 induction l generalizing k with
 | nil=>simp at hk; simp [hk]
 | cons a l ih=>
  cases k with
  | zero=>
   rcases h2 with h2 | ⟨_,x,hx,hp⟩
   ·simp at h2; omega
   ·simp at hx; subst hx; simp [hp]
  | succ k=>
   simp only [List.take_succ_cons,List.all_cons,Bool.and_eq_true] at h
   rw [List.takeWhile_cons,h.1,if_pos rfl,List.length_cons]
   congr 1
   refine ih h.2 (by simpa using hk) ?_
   rcases h2 with h2 | ⟨h3,x,hx,hp⟩
   ·left; simp at h2; omega
   ·right; refine ⟨by simp at h3; omega,x,by simpa using hx,hp⟩
theorem yM {v nx kp qt:Int} {se:List Sess} {op:List Opn} {sn:List Snap} {c:Command} {s:Nat} (h:ag Opn.set c.set op<0) (hs:s<=op.length) (ha:(op.take s).all (fun y=>decide (y.set<c.set))=true) (hb:(op.length:Int)<=s\/c.set<=(op.getD s (dflt (.nm .opn))).set):op.take s++[Opn.mk c.set c.client]++op.drop s=(aS (State.mk v nx kp qt se op sn) c).1.opens:=by
 have h1:¬ 0<=ag Opn.set c.set op:=by omega
 simp only [aS,if_neg h1]
 have:s=(op.takeWhile fun y=>decide (y.set<c.set)).length:=by
  refine xW ha hs ?_
  by_cases hl:(op.length:Int)<=s
  ·exact .inl hl
  ·refine .inr ⟨by omega,_,gd (d:=dflt (.nm .opn)) (by omega),?_⟩
   rcases hb with hb | hb
   ·omega
   ·exact decide_eq_false (by omega)
 rw [<- this]; simp [eL]
theorem zU {op:List Opn} {c:Command} {s:Nat} (ha:(op.take s).all (fun y=>decide (y.set<c.set))=true) (h:(s:Int)<op.length) (hb:(op.getD s (dflt (.nm .opn))).set<c.set):(op.take (s+1)).all (fun y=>decide (y.set<c.set))=true:=by
 rw [aF (gd (d:=dflt (.nm .opn)) h),List.all_append,ha]; simp only [List.all_cons,List.all_nil,decide_eq_true hb]; rfl
section
variable {v nx kp qt:Int} {se:List Sess} {op:List Opn} {sn:List Snap} {c:Command}
theorem HP (h:ag Opn.set c.set op<0):aS (State.mk v nx kp qt se op sn) c=(State.mk v nx kp qt se (eL op (op.takeWhile fun y=>decide (y.set<c.set)).length ⟨c.set,c.client⟩) sn,⟨0,0⟩):=by
 have h1:¬ 0<=ag Opn.set c.set op:=by omega
 simp only [aS,if_neg h1]
theorem HY (h:0<=ag Opn.set c.set op):aS (State.mk v nx kp qt se op sn) c=(State.mk v nx kp qt se op sn,⟨16,(op.getD (ag Opn.set c.set op).toNat (dflt (.nm .opn))).client⟩):=by
 simp only [aS,if_pos h]
theorem Iv (h:bB (State.mk v nx kp qt se op sn) c<0):aW (State.mk v nx kp qt se op sn) c=(State.mk v nx kp qt se op sn,⟨15,0⟩):=by
 simp only [aW,if_pos h]
theorem Iu (h:0<=bB (State.mk v nx kp qt se op sn) c):aW (State.mk v nx kp qt se op sn) c=(State.mk v nx kp qt se (op.take (bB (State.mk v nx kp qt se op sn) c).toNat++op.drop (bB (State.mk v nx kp qt se op sn) c+1).toNat) sn,⟨0,0⟩):=by
 have h1:¬ bB (State.mk v nx kp qt se op sn) c<0:=by omega
 simp only [aW,if_neg h1,wI]
end
def uQ (c:Command) (v:Int) (nx:Int) (kp:Int) (qt:Int) (se:List Sess) (op:List Opn) (sn:List Snap):List (Nat × LI):=[(5,{ σ:=Nat,F:=fun k=>([(0,one (.ptr 0 0)),(3,one (.ptr 4 0)),(4,one (.ptr 5 0)),(6,one (.int k))],[.box 29 ([.int ((v)),.int ((nx)),.int ((kp)),.int ((qt)),.own 1,.own 2,.own 3]),.row 40 (.nm .sess) ((se)),.row 48 (.nm .opn) ((op)),.row 59 (.nm .snap) ((sn)),.box 42 (cellsOf (.nm .command) ((c))),.box 38 ([.int ((0)),.int ((0))])]),J:=fun k=>k<=op.length/\(op.take k).all (fun y=>decide (y.set<c.set))=true,μ:=fun k=>op.length - k })]
theorem AJ (c:Command) (v:Int) (nx:Int) (kp:Int) (qt:Int) (se:List Sess) (op:List Opn) (sn:List Snap) (r0:Reply) (r1:Int) (r2:Int) (r3:Int) (r4:Int) (r5:List Sess) (r6:List Opn) (r7:List Snap):nB aJ nz (uQ c v nx kp qt se op sn) Try.f55 [.c (.ptr 0 0),.agg (cellsOf (.nm .command) c)] [.box 29 ([.int (v),.int (nx),.int (kp),.int (qt),.own 1,.own 2,.own 3]),.row 40 (.nm .sess) (se),.row 48 (.nm .opn) (op),.row 59 (.nm .snap) (sn)] [.agg (cellsOf (.nm .reply) r0)] [.box 29 ([.int (r1),.int (r2),.int (r3),.int (r4),.own 1,.own 2,.own 3]),.row 40 (.nm .sess) (r5),.row 48 (.nm .opn) (r6),.row 59 (.nm .snap) (r7)]=((fun (q5:Int)=>(fun (q4:den (Sh.nm NT.opn))=>(fun (q3:Int)=>(fun (q2:Int)=>(fun (q1:Int)=>(fun (q0:Prop)=>I64 c.kind->I64 c.client->I64 c.seq->I64 q5->I64 c.id->I64 c.n->c.chunks.length*(8:Nat)<=(140737488355328:Nat)->c.text.b.length<=(140737488355328:Nat)->I64 q1->(q2<=q1->q2<=q1/\q1<q3/\(I64 (op.getD q1.toNat q4).set->I64 (op.getD q1.toNat q4).client->(16:Int)=r0.code/\(op.getD q1.toNat q4).client=r0.n/\v=r1/\nx=r2/\kp=r3/\qt=r4/\se=r5/\op=r6/\sn=r7))/\(q1<q2->∃ (s0:Nat),(q2=(↑s0:Int)/\q0)/\(s0<=op.length/\((List.take s0 op).all fun (y:Opn)=>decide (y.set<q5))=true)/\∀ (s:Nat),(fun (q7:Int)=>(fun (q6:Int)=>s<=op.length/\((List.take s op).all fun (y:Opn)=>decide (y.set<q5))=true->(q6<q3->q2<=q6/\q6<q3)/\((q6<q3->I64 q7/\I64 (op.getD s q4).client)->(q6<q3/\q7<q5->I64 (q6+(1:Int))/\∃ (s':Nat),(q6+(1:Int)=(↑s':Int)/\q0)/\(s' <= op.length/\((List.take s' op).all fun (y:Opn)=>decide (y.set<q5))=true)/\op.length - s' < op.length - s)/\(q3<=q6\/q5<=q7->((q2<=q6/\q6<=q3)/\op.length<(1048576:Nat)/\[Opn.mk q5 c.client].length=(1:Nat))/\q2=r0.code/\q2=r0.n/\v=r1/\nx=r2/\kp=r3/\qt=r4/\se=r5/\List.take s op++[Opn.mk q5 c.client]++List.drop s op=r6/\sn=r7))) (↑s:Int)) (op.getD s q4).set)) (v=v/\nx=nx/\kp=kp/\qt=qt/\se=se/\op=op/\sn=sn/\c.kind=c.kind/\c.client=c.client/\c.seq=c.seq/\q5=q5/\c.id=c.id/\c.n=c.n/\c.chunks=c.chunks/\c.text=c.text/\q2=q2/\q2=q2)) (ag Opn.set q5 op)) (0:Int)) (↑op.length:Int)) (dflt (Sh.nm NT.opn))) c.set):=by kernel_rfl
theorem Ag (c:Command) (v:Int) (nx:Int) (kp:Int) (qt:Int) (se:List Sess) (op:List Opn) (sn:List Snap) (h0:op.length<1048576):Sat Try.prog (au aJ) 55 [.c (.ptr 0 0),.agg (cellsOf (.nm .command) c)] [.box 29 ([.int (v),.int (nx),.int (kp),.int (qt),.own 1,.own 2,.own 3]),.row 40 (.nm .sess) (se),.row 48 (.nm .opn) (op),.row 59 (.nm .snap) (sn)] ⟨[op.length<1048576],[.agg (cellsOf (.nm .reply) ((aS (State.mk v nx kp qt se op sn) c).2))],some ([.box 29 ([.int ((((aS (State.mk v nx kp qt se op sn) c).1).version)),.int ((((aS (State.mk v nx kp qt se op sn) c).1).next)),.int ((((aS (State.mk v nx kp qt se op sn) c).1).keep)),.int ((((aS (State.mk v nx kp qt se op sn) c).1).quota)),.own 1,.own 2,.own 3]),.row 40 (.nm .sess) ((((aS (State.mk v nx kp qt se op sn) c).1).sess)),.row 48 (.nm .opn) ((((aS (State.mk v nx kp qt se op sn) c).1).opens)),.row 59 (.nm .snap) ((((aS (State.mk v nx kp qt se op sn) c).1).snaps))]),false⟩:=by
 refine dt fX (uQ c v nx kp qt se op sn) Try.func55 (by decide) (by kernel_rfl) ?_
 rw [AJ]
 (repeat' (first | with_reducible refine And.intro ?_ ?_ | with_reducible refine and_imp.2 ?_ | intro))
 all_goals try (first | (first | with_reducible rfl | with_reducible assumption | omega | (refine al ?_ ?_ <;> omega)) | exact rfl | exact aX (by with_reducible assumption) | exact (zU (by with_reducible assumption) (by with_reducible assumption) (by with_reducible assumption)) | exact (yM (by with_reducible assumption) (by omega) (by with_reducible assumption) (by assumption)) | (rw [HP]; omega) | (rw [HY]; omega))
 all_goals try (refine ⟨0,?_⟩; (repeat' (first | with_reducible refine And.intro ?_ ?_ | with_reducible refine and_imp.2 ?_ | intro)))
 all_goals try (first | (first | with_reducible rfl | with_reducible assumption | omega | (refine al ?_ ?_ <;> omega)) | exact rfl | exact aX (by with_reducible assumption) | exact (zU (by with_reducible assumption) (by with_reducible assumption) (by with_reducible assumption)) | exact (yM (by with_reducible assumption) (by omega) (by with_reducible assumption) (by assumption)) | (rw [HP]; omega) | (rw [HY]; omega))
 all_goals try (refine ⟨‹Nat› + 1,?_⟩; (repeat' (first | with_reducible refine And.intro ?_ ?_ | with_reducible refine and_imp.2 ?_ | intro)))
 all_goals (first | (first | with_reducible rfl | with_reducible assumption | omega | (refine al ?_ ?_ <;> omega)) | exact rfl | exact aX (by with_reducible assumption) | exact (zU (by with_reducible assumption) (by with_reducible assumption) (by with_reducible assumption)) | exact (yM (by with_reducible assumption) (by omega) (by with_reducible assumption) (by assumption)) | (rw [HP]; omega) | (rw [HY]; omega))
theorem xg (c:Command) (v:Int) (nx:Int) (kp:Int) (qt:Int) (se:List Sess) (op:List Opn) (sn:List Snap) (r0:Reply) (r1:Int) (r2:Int) (r3:Int) (r4:Int) (r5:List Sess) (r6:List Opn) (r7:List Snap):nB aJ nz [] Try.f59 [.c (.ptr 0 0),.agg (cellsOf (.nm .command) c)] [.box 29 ([.int (v),.int (nx),.int (kp),.int (qt),.own 1,.own 2,.own 3]),.row 40 (.nm .sess) (se),.row 48 (.nm .opn) (op),.row 59 (.nm .snap) (sn)] [.agg (cellsOf (.nm .reply) r0)] [.box 29 ([.int (r1),.int (r2),.int (r3),.int (r4),.own 1,.own 2,.own 3]),.row 40 (.nm .sess) (r5),.row 48 (.nm .opn) (r6),.row 59 (.nm .snap) (r7)]=((fun (q1:Int)=>(fun (q0:Int)=>I64 c.kind->I64 c.client->I64 c.seq->I64 c.set->I64 c.id->I64 c.n->c.chunks.length*(8:Nat)<=(140737488355328:Nat)->c.text.b.length<=(140737488355328:Nat)->I64 q0->(q0<q1->I64 (15:Int)->I64 q1->(15:Int)=r0.code/\q1=r0.n/\v=r1/\nx=r2/\kp=r3/\qt=r4/\se=r5/\op=r6/\sn=r7)/\(q1<=q0->I64 (q0+(1:Int))/\(q1<=q0/\q0<(↑op.length:Int)/\q0+(1:Int)=q0+(1:Int))/\q1=r0.code/\q1=r0.n/\v=r1/\nx=r2/\kp=r3/\qt=r4/\se=r5/\List.take q0.toNat op++List.drop (q0+(1:Int)).toNat op=r6/\sn=r7)) (bB (State.mk v nx kp qt se op sn) c)) (0:Int)):=by kernel_rfl
theorem AZ (c:Command) (v:Int) (nx:Int) (kp:Int) (qt:Int) (se:List Sess) (op:List Opn) (sn:List Snap) (h0:op.length<1048576):Sat Try.prog (au aJ) 59 [.c (.ptr 0 0),.agg (cellsOf (.nm .command) c)] [.box 29 ([.int (v),.int (nx),.int (kp),.int (qt),.own 1,.own 2,.own 3]),.row 40 (.nm .sess) (se),.row 48 (.nm .opn) (op),.row 59 (.nm .snap) (sn)] ⟨[op.length<1048576],[.agg (cellsOf (.nm .reply) ((aW (State.mk v nx kp qt se op sn) c).2))],some ([.box 29 ([.int ((((aW (State.mk v nx kp qt se op sn) c).1).version)),.int ((((aW (State.mk v nx kp qt se op sn) c).1).next)),.int ((((aW (State.mk v nx kp qt se op sn) c).1).keep)),.int ((((aW (State.mk v nx kp qt se op sn) c).1).quota)),.own 1,.own 2,.own 3]),.row 40 (.nm .sess) ((((aW (State.mk v nx kp qt se op sn) c).1).sess)),.row 48 (.nm .opn) ((((aW (State.mk v nx kp qt se op sn) c).1).opens)),.row 59 (.nm .snap) ((((aW (State.mk v nx kp qt se op sn) c).1).snaps))]),false⟩:=by
 refine dt fX [] Try.func59 (by decide) (by kernel_rfl) ?_
 rw [xg]
 have hl:0<=bB (State.mk v nx kp qt se op sn) c->bB (State.mk v nx kp qt se op sn) c+1<=(op.length:Int):=fun h=>yG h
 (repeat' (first | with_reducible refine And.intro ?_ ?_ | with_reducible refine and_imp.2 ?_ | intro))
 all_goals (first | (first | with_reducible rfl | with_reducible assumption | omega | (refine al ?_ ?_ <;> omega)) | (rw [Iu]; omega) | (rw [Iv]; omega))
theorem wg (c:Command) (v:Int) (nx:Int) (kp:Int) (qt:Int) (se:List Sess) (op:List Opn) (sn:List Snap) (r0:Reply) (r1:Int) (r2:Int) (r3:Int) (r4:Int) (r5:List Sess) (r6:List Opn) (r7:List Snap):nB aJ nz [] Try.f57 [.c (.ptr 0 0),.agg (cellsOf (.nm .command) c)] [.box 29 ([.int (v),.int (nx),.int (kp),.int (qt),.own 1,.own 2,.own 3]),.row 40 (.nm .sess) (se),.row 48 (.nm .opn) (op),.row 59 (.nm .snap) (sn)] [.agg (cellsOf (.nm .reply) r0)] [.box 29 ([.int (r1),.int (r2),.int (r3),.int (r4),.own 1,.own 2,.own 3]),.row 40 (.nm .sess) (r5),.row 48 (.nm .opn) (r6),.row 59 (.nm .snap) (r7)]=((fun (q6:Snap)=>(fun (q5:Int)=>(fun (q4:Prop)=>(fun (q3:Int)=>(fun (q2:Int)=>(fun (q1:Prop)=>(fun (q0:Int)=>I64 c.kind->I64 c.client->I64 c.seq->I64 c.set->I64 c.id->I64 c.n->q4->c.text.b.length<=(140737488355328:Nat)->I64 q0->(q0<q3->I64 (15:Int)->I64 q3->(15:Int)=r0.code/\q1)/\(q3<=q0->((16:Int)<=(↑sn.length:Int)\/(1048576:Int)<=nx->I64 (20:Int)->I64 q3->(20:Int)=r0.code/\q1)/\((↑sn.length:Int)<(16:Int)/\nx<(1048576:Int)->(¬qt=q3->nch sn<=(1048576:Nat))/\((¬qt=q3->I64 q2)->(¬qt=q3/\qt<q2->I64 (19:Int)->I64 q3->(19:Int)=r0.code/\q1)/\(qt=q3\/q2<=qt->q4->(sn.length+[q6].length)*(64:Nat)<=(140737488355328:Nat)/\I64 (nx+q5)/\I64 (q0+q5)/\(q3<=q0/\q0<(↑op.length:Int)/\q0+q5=q0+q5)/\q3=r0.code/\nx=r0.n/\v=r1/\nx+q5=r2/\kp=r3/\qt=r4/\se=r5/\List.take q0.toNat op++List.drop (q0+q5).toNat op=r6/\sn++[q6]=r7))))) (bB (State.mk v nx kp qt se op sn) c)) (q3=r0.n/\v=r1/\nx=r2/\kp=r3/\qt=r4/\se=r5/\op=r6/\sn=r7)) (↑(distF (sn++[Snap.mk q3 q3 c.chunks false (Str.mk [])])):Int)) (0:Int)) (c.chunks.length*(8:Nat)<=(140737488355328:Nat))) (1:Int)) (Snap.mk nx c.set c.chunks false (Str.mk []))):=by kernel_rfl
theorem wE (c:Command) (v:Int) (nx:Int) (kp:Int) (qt:Int) (se:List Sess) (op:List Opn) (sn:List Snap) (h0:nch sn<=1048576) (h1:sn.length<1048576) (h2:op.length<1048576) (h3:0<=nx):Sat Try.prog (au aJ) 57 [.c (.ptr 0 0),.agg (cellsOf (.nm .command) c)] [.box 29 ([.int (v),.int (nx),.int (kp),.int (qt),.own 1,.own 2,.own 3]),.row 40 (.nm .sess) (se),.row 48 (.nm .opn) (op),.row 59 (.nm .snap) (sn)] ⟨[nch sn<=1048576,sn.length<1048576,op.length<1048576,0<=nx],[.agg (cellsOf (.nm .reply) ((aN (State.mk v nx kp qt se op sn) c).2))],some ([.box 29 ([.int ((((aN (State.mk v nx kp qt se op sn) c).1).version)),.int ((((aN (State.mk v nx kp qt se op sn) c).1).next)),.int ((((aN (State.mk v nx kp qt se op sn) c).1).keep)),.int ((((aN (State.mk v nx kp qt se op sn) c).1).quota)),.own 1,.own 2,.own 3]),.row 40 (.nm .sess) ((((aN (State.mk v nx kp qt se op sn) c).1).sess)),.row 48 (.nm .opn) ((((aN (State.mk v nx kp qt se op sn) c).1).opens)),.row 59 (.nm .snap) ((((aN (State.mk v nx kp qt se op sn) c).1).snaps))]),false⟩:=by
 refine dt fX [] Try.func57 (by decide) (by kernel_rfl) ?_
 rw [wg]
 have hl:0<=bB (State.mk v nx kp qt se op sn) c->bB (State.mk v nx kp qt se op sn) c+1<=(op.length:Int):=fun h=>yG h
 (repeat' (first | with_reducible refine And.intro ?_ ?_ | with_reducible refine and_imp.2 ?_ | intro))
 all_goals (first | (first | with_reducible rfl | with_reducible assumption | omega | (refine al ?_ ?_ <;> omega)) | (simp only [aN,wI]; grind) | (simp only [List.length_cons,List.length_nil]; omega))
theorem FF (i:Int) (v:Int) (nx:Int) (kp:Int) (qt:Int) (se:List Sess) (op:List Opn) (sn:List Snap) (r0:Reply) (r1:Int) (r2:Int) (r3:Int) (r4:Int) (r5:List Sess) (r6:List Opn) (r7:List Snap):nB aJ nz [] Try.f63 [.c (.int (i)),.c (.ptr 0 0)] [.box 29 ([.int (v),.int (nx),.int (kp),.int (qt),.own 1,.own 2,.own 3]),.row 40 (.nm .sess) (se),.row 48 (.nm .opn) (op),.row 59 (.nm .snap) (sn)] [.agg (cellsOf (.nm .reply) r0)] [.box 29 ([.int (r1),.int (r2),.int (r3),.int (r4),.own 1,.own 2,.own 3]),.row 40 (.nm .sess) (r5),.row 48 (.nm .opn) (r6),.row 59 (.nm .snap) (r7)]=((fun (q0:State × Reply)=>I64 i->((0:Int)<=i/\i<(↑sn.length:Int))/\nch sn<=(1048576:Nat)/\(I64 q0.snd.code->I64 q0.snd.n->q0.snd.code=r0.code/\q0.snd.n=r0.n/\q0.fst.version=r1/\q0.fst.next=r2/\q0.fst.keep=r3/\q0.fst.quota=r4/\q0.fst.sess=r5/\q0.fst.opens=r6/\q0.fst.snaps=r7)) (aK (State.mk v nx kp qt se op sn) i.toNat)):=by kernel_rfl
theorem Fe (i:Int) (v:Int) (nx:Int) (kp:Int) (qt:Int) (se:List Sess) (op:List Opn) (sn:List Snap) (h0:0<=i/\i<(sn.length:Int)) (h1:nch sn<=1048576):Sat Try.prog (au aJ) 63 [.c (.int (i)),.c (.ptr 0 0)] [.box 29 ([.int (v),.int (nx),.int (kp),.int (qt),.own 1,.own 2,.own 3]),.row 40 (.nm .sess) (se),.row 48 (.nm .opn) (op),.row 59 (.nm .snap) (sn)] ⟨[0<=i/\i<(sn.length:Int),nch sn<=1048576],[.agg (cellsOf (.nm .reply) ((aK (State.mk v nx kp qt se op sn) i.toNat).2))],some ([.box 29 ([.int ((((aK (State.mk v nx kp qt se op sn) i.toNat).1).version)),.int ((((aK (State.mk v nx kp qt se op sn) i.toNat).1).next)),.int ((((aK (State.mk v nx kp qt se op sn) i.toNat).1).keep)),.int ((((aK (State.mk v nx kp qt se op sn) i.toNat).1).quota)),.own 1,.own 2,.own 3]),.row 40 (.nm .sess) ((((aK (State.mk v nx kp qt se op sn) i.toNat).1).sess)),.row 48 (.nm .opn) ((((aK (State.mk v nx kp qt se op sn) i.toNat).1).opens)),.row 59 (.nm .snap) ((((aK (State.mk v nx kp qt se op sn) i.toNat).1).snaps))]),false⟩:=by
 refine dt fX [] Try.func63 (by decide) (by kernel_rfl) ?_
 rw [FF]
 (repeat' (first | with_reducible refine And.intro ?_ ?_ | with_reducible refine and_imp.2 ?_ | intro))
 all_goals (first | (first | with_reducible rfl | with_reducible assumption | omega | (refine al ?_ ?_ <;> omega)) | exact rfl)
def iP:cJ:=(bW 63 (bQ (aj (kC cI) (aj (kC (bL 0 0)) aP)) (ay (bK 29 (ai cI (ai cI (ai cI (ai cI (ai (ba 1) (ai (ba 2) (ai (ba 3) bH)))))))) (ay (a_ 40 (.nm .sess)) (ay (a_ 48 (.nm .opn)) (ay (a_ 59 (.nm .snap)) aO)))) fun (i,_,_) ((v,nx,kp,qt,_,_,_,_),se,op,sn,_)=>⟨[0<=i/\i<(sn.length:Int),nch sn<=1048576],[.agg (cellsOf (.nm .reply) ((aK (State.mk v nx kp qt se op sn) i.toNat).2))],some ([.box 29 ([.int ((((aK (State.mk v nx kp qt se op sn) i.toNat).1).version)),.int ((((aK (State.mk v nx kp qt se op sn) i.toNat).1).next)),.int ((((aK (State.mk v nx kp qt se op sn) i.toNat).1).keep)),.int ((((aK (State.mk v nx kp qt se op sn) i.toNat).1).quota)),.own 1,.own 2,.own 3]),.row 40 (.nm .sess) ((((aK (State.mk v nx kp qt se op sn) i.toNat).1).sess)),.row 48 (.nm .opn) ((((aK (State.mk v nx kp qt se op sn) i.toNat).1).opens)),.row 59 (.nm .snap) ((((aK (State.mk v nx kp qt se op sn) i.toNat).1).snaps))]),false⟩) (bW 57 (bQ (aj (kC (bL 0 0)) (aj (kT (.nm .command)) aP)) (ay (bK 29 (ai cI (ai cI (ai cI (ai cI (ai (ba 1) (ai (ba 2) (ai (ba 3) bH)))))))) (ay (a_ 40 (.nm .sess)) (ay (a_ 48 (.nm .opn)) (ay (a_ 59 (.nm .snap)) aO)))) fun (_,c,_) ((v,nx,kp,qt,_,_,_,_),se,op,sn,_)=>⟨[nch sn<=1048576,sn.length<1048576,op.length<1048576,0<=nx],[.agg (cellsOf (.nm .reply) ((aN (State.mk v nx kp qt se op sn) c).2))],some ([.box 29 ([.int ((((aN (State.mk v nx kp qt se op sn) c).1).version)),.int ((((aN (State.mk v nx kp qt se op sn) c).1).next)),.int ((((aN (State.mk v nx kp qt se op sn) c).1).keep)),.int ((((aN (State.mk v nx kp qt se op sn) c).1).quota)),.own 1,.own 2,.own 3]),.row 40 (.nm .sess) ((((aN (State.mk v nx kp qt se op sn) c).1).sess)),.row 48 (.nm .opn) ((((aN (State.mk v nx kp qt se op sn) c).1).opens)),.row 59 (.nm .snap) ((((aN (State.mk v nx kp qt se op sn) c).1).snaps))]),false⟩) (bW 59 (bQ (aj (kC (bL 0 0)) (aj (kT (.nm .command)) aP)) (ay (bK 29 (ai cI (ai cI (ai cI (ai cI (ai (ba 1) (ai (ba 2) (ai (ba 3) bH)))))))) (ay (a_ 40 (.nm .sess)) (ay (a_ 48 (.nm .opn)) (ay (a_ 59 (.nm .snap)) aO)))) fun (_,c,_) ((v,nx,kp,qt,_,_,_,_),se,op,sn,_)=>⟨[op.length<1048576],[.agg (cellsOf (.nm .reply) ((aW (State.mk v nx kp qt se op sn) c).2))],some ([.box 29 ([.int ((((aW (State.mk v nx kp qt se op sn) c).1).version)),.int ((((aW (State.mk v nx kp qt se op sn) c).1).next)),.int ((((aW (State.mk v nx kp qt se op sn) c).1).keep)),.int ((((aW (State.mk v nx kp qt se op sn) c).1).quota)),.own 1,.own 2,.own 3]),.row 40 (.nm .sess) ((((aW (State.mk v nx kp qt se op sn) c).1).sess)),.row 48 (.nm .opn) ((((aW (State.mk v nx kp qt se op sn) c).1).opens)),.row 59 (.nm .snap) ((((aW (State.mk v nx kp qt se op sn) c).1).snaps))]),false⟩) (bW 55 (bQ (aj (kC (bL 0 0)) (aj (kT (.nm .command)) aP)) (ay (bK 29 (ai cI (ai cI (ai cI (ai cI (ai (ba 1) (ai (ba 2) (ai (ba 3) bH)))))))) (ay (a_ 40 (.nm .sess)) (ay (a_ 48 (.nm .opn)) (ay (a_ 59 (.nm .snap)) aO)))) fun (_,c,_) ((v,nx,kp,qt,_,_,_,_),se,op,sn,_)=>⟨[op.length<1048576],[.agg (cellsOf (.nm .reply) ((aS (State.mk v nx kp qt se op sn) c).2))],some ([.box 29 ([.int ((((aS (State.mk v nx kp qt se op sn) c).1).version)),.int ((((aS (State.mk v nx kp qt se op sn) c).1).next)),.int ((((aS (State.mk v nx kp qt se op sn) c).1).keep)),.int ((((aS (State.mk v nx kp qt se op sn) c).1).quota)),.own 1,.own 2,.own 3]),.row 40 (.nm .sess) ((((aS (State.mk v nx kp qt se op sn) c).1).sess)),.row 48 (.nm .opn) ((((aS (State.mk v nx kp qt se op sn) c).1).opens)),.row 59 (.nm .snap) ((((aS (State.mk v nx kp qt se op sn) c).1).snaps))]),false⟩) nz))))
theorem dM:aR Try.prog (au aJ) iP:=(aC (aB (ae (aw ax) (ae (aw aI) ao)) (ah (aG (ab ax (ab ax (ab ax (ab ax (ab az (ab az (ab az aE)))))))) (ah aA (ah aA (ah aA aq)))) fun (i,_,_) ((v,nx,kp,qt,_,_,_,_),se,op,sn,_) hp=>Fe i v nx kp qt se op sn (fh hp) (fh (m_ hp))) (aC (aB (ae (aw aI) (ae bN ao)) (ah (aG (ab ax (ab ax (ab ax (ab ax (ab az (ab az (ab az aE)))))))) (ah aA (ah aA (ah aA aq)))) fun (_,c,_) ((v,nx,kp,qt,_,_,_,_),se,op,sn,_) hp=>wE c v nx kp qt se op sn (fh hp) (fh (m_ hp)) (fh (m_ (m_ hp))) (fh (m_ (m_ (m_ hp))))) (aC (aB (ae (aw aI) (ae bN ao)) (ah (aG (ab ax (ab ax (ab ax (ab ax (ab az (ab az (ab az aE)))))))) (ah aA (ah aA (ah aA aq)))) fun (_,c,_) ((v,nx,kp,qt,_,_,_,_),se,op,sn,_) hp=>AZ c v nx kp qt se op sn (fh hp)) (aC (aB (ae (aw aI) (ae bN ao)) (ah (aG (ab ax (ab ax (ab ax (ab ax (ab az (ab az (ab az aE)))))))) (ah aA (ah aA (ah aA aq)))) fun (_,c,_) ((v,nx,kp,qt,_,_,_,_),se,op,sn,_) hp=>Ag c v nx kp qt se op sn (fh hp)) fX))))
end Go.Proofs.Ytdggohppeeaipaa
namespace Go.Proofs.Ytdggohppeeaipaa
open Go.RowKit
def av (f:State->Nat->State × Reply) (c:Command) (s:State):State × Reply:=if ag Snap.id c.id s.snaps<0 then (s,⟨15,0⟩) else f s (ag Snap.id c.id s.snaps).toNat
section
variable {v nx kp qt:Int} {se:List Sess} {op:List Opn} {sn:List Snap} {c:Command} {f:State->Nat->State × Reply}
theorem Ho (h:ag Snap.id c.id sn<0):av f c (State.mk v nx kp qt se op sn)=(State.mk v nx kp qt se op sn,⟨15,0⟩):=by
 simp only [av,if_pos h]
theorem Hl (h:0<=ag Snap.id c.id sn):av f c (State.mk v nx kp qt se op sn)=f (State.mk v nx kp qt se op sn) (ag Snap.id c.id sn).toNat:=by
 have h1:¬ ag Snap.id c.id sn<0:=by omega
 simp only [av,if_neg h1]
end
theorem DY (v:Int) (nx:Int) (kp:Int) (qt:Int) (se:List Sess) (op:List Opn) (sn:List Snap) (c:Command) (r0:Reply) (r1:Int) (r2:Int) (r3:Int) (r4:Int) (r5:List Sess) (r6:List Opn) (r7:List Snap) (r8:Command):nB aJ iP [] Try.f54 [.c (.ptr 0 0),.c (.ptr 4 0)] [.box 29 ([.int (v),.int (nx),.int (kp),.int (qt),.own 1,.own 2,.own 3]),.row 40 (.nm .sess) (se),.row 48 (.nm .opn) (op),.row 59 (.nm .snap) (sn),.box 42 (cellsOf (.nm .command) (c))] [.agg (cellsOf (.nm .reply) r0)] [.box 29 ([.int (r1),.int (r2),.int (r3),.int (r4),.own 1,.own 2,.own 3]),.row 40 (.nm .sess) (r5),.row 48 (.nm .opn) (r6),.row 59 (.nm .snap) (r7),.box 42 (cellsOf (.nm .command) (r8))]=((fun (q0:State × Reply)=>op.length<(1048576:Nat)/\(I64 q0.snd.code->I64 q0.snd.n->q0.snd.code=r0.code/\q0.snd.n=r0.n/\q0.fst.version=r1/\q0.fst.next=r2/\q0.fst.keep=r3/\q0.fst.quota=r4/\q0.fst.sess=r5/\q0.fst.opens=r6/\q0.fst.snaps=r7/\c.kind=r8.kind/\c.client=r8.client/\c.seq=r8.seq/\c.set=r8.set/\c.id=r8.id/\c.n=r8.n/\c.chunks=r8.chunks/\c.text=r8.text)) (aS (State.mk v nx kp qt se op sn) c)):=by kernel_rfl
theorem DZ (v:Int) (nx:Int) (kp:Int) (qt:Int) (se:List Sess) (op:List Opn) (sn:List Snap) (c:Command) (h0:op.length<1048576):Sat Try.prog (au aJ) 54 [.c (.ptr 0 0),.c (.ptr 4 0)] [.box 29 ([.int (v),.int (nx),.int (kp),.int (qt),.own 1,.own 2,.own 3]),.row 40 (.nm .sess) (se),.row 48 (.nm .opn) (op),.row 59 (.nm .snap) (sn),.box 42 (cellsOf (.nm .command) (c))] ⟨[op.length<1048576],[.agg (cellsOf (.nm .reply) ((aS (State.mk v nx kp qt se op sn) c).2))],some ([.box 29 ([.int ((((aS (State.mk v nx kp qt se op sn) c).1).version)),.int ((((aS (State.mk v nx kp qt se op sn) c).1).next)),.int ((((aS (State.mk v nx kp qt se op sn) c).1).keep)),.int ((((aS (State.mk v nx kp qt se op sn) c).1).quota)),.own 1,.own 2,.own 3]),.row 40 (.nm .sess) ((((aS (State.mk v nx kp qt se op sn) c).1).sess)),.row 48 (.nm .opn) ((((aS (State.mk v nx kp qt se op sn) c).1).opens)),.row 59 (.nm .snap) ((((aS (State.mk v nx kp qt se op sn) c).1).snaps)),.box 42 (cellsOf (.nm .command) ((c)))]),false⟩:=by
 refine dt dM [] Try.func54 (by decide) (by kernel_rfl) ?_
 rw [DY]
 (repeat' (first | with_reducible refine And.intro ?_ ?_ | with_reducible refine and_imp.2 ?_ | intro))
 all_goals (first | (first | with_reducible rfl | with_reducible assumption | omega | (refine al ?_ ?_ <;> omega)) | exact rfl)
theorem Fw (v:Int) (nx:Int) (kp:Int) (qt:Int) (se:List Sess) (op:List Opn) (sn:List Snap) (c:Command) (r0:Reply) (r1:Int) (r2:Int) (r3:Int) (r4:Int) (r5:List Sess) (r6:List Opn) (r7:List Snap) (r8:Command):nB aJ iP [] Try.f56 [.c (.ptr 0 0),.c (.ptr 4 0)] [.box 29 ([.int (v),.int (nx),.int (kp),.int (qt),.own 1,.own 2,.own 3]),.row 40 (.nm .sess) (se),.row 48 (.nm .opn) (op),.row 59 (.nm .snap) (sn),.box 42 (cellsOf (.nm .command) (c))] [.agg (cellsOf (.nm .reply) r0)] [.box 29 ([.int (r1),.int (r2),.int (r3),.int (r4),.own 1,.own 2,.own 3]),.row 40 (.nm .sess) (r5),.row 48 (.nm .opn) (r6),.row 59 (.nm .snap) (r7),.box 42 (cellsOf (.nm .command) (r8))]=((fun (q0:State × Reply)=>nch sn<=(1048576:Nat)/\sn.length<(1048576:Nat)/\op.length<(1048576:Nat)/\(0:Int)<=nx/\(I64 q0.snd.code->I64 q0.snd.n->q0.snd.code=r0.code/\q0.snd.n=r0.n/\q0.fst.version=r1/\q0.fst.next=r2/\q0.fst.keep=r3/\q0.fst.quota=r4/\q0.fst.sess=r5/\q0.fst.opens=r6/\q0.fst.snaps=r7/\c.kind=r8.kind/\c.client=r8.client/\c.seq=r8.seq/\c.set=r8.set/\c.id=r8.id/\c.n=r8.n/\c.chunks=r8.chunks/\c.text=r8.text)) (aN (State.mk v nx kp qt se op sn) c)):=by kernel_rfl
theorem EL (v:Int) (nx:Int) (kp:Int) (qt:Int) (se:List Sess) (op:List Opn) (sn:List Snap) (c:Command) (h0:nch sn<=1048576) (h1:sn.length<1048576) (h2:op.length<1048576) (h3:0<=nx):Sat Try.prog (au aJ) 56 [.c (.ptr 0 0),.c (.ptr 4 0)] [.box 29 ([.int (v),.int (nx),.int (kp),.int (qt),.own 1,.own 2,.own 3]),.row 40 (.nm .sess) (se),.row 48 (.nm .opn) (op),.row 59 (.nm .snap) (sn),.box 42 (cellsOf (.nm .command) (c))] ⟨[nch sn<=1048576,sn.length<1048576,op.length<1048576,0<=nx],[.agg (cellsOf (.nm .reply) ((aN (State.mk v nx kp qt se op sn) c).2))],some ([.box 29 ([.int ((((aN (State.mk v nx kp qt se op sn) c).1).version)),.int ((((aN (State.mk v nx kp qt se op sn) c).1).next)),.int ((((aN (State.mk v nx kp qt se op sn) c).1).keep)),.int ((((aN (State.mk v nx kp qt se op sn) c).1).quota)),.own 1,.own 2,.own 3]),.row 40 (.nm .sess) ((((aN (State.mk v nx kp qt se op sn) c).1).sess)),.row 48 (.nm .opn) ((((aN (State.mk v nx kp qt se op sn) c).1).opens)),.row 59 (.nm .snap) ((((aN (State.mk v nx kp qt se op sn) c).1).snaps)),.box 42 (cellsOf (.nm .command) ((c)))]),false⟩:=by
 refine dt dM [] Try.func56 (by decide) (by kernel_rfl) ?_
 rw [Fw]
 (repeat' (first | with_reducible refine And.intro ?_ ?_ | with_reducible refine and_imp.2 ?_ | intro))
 all_goals (first | (first | with_reducible rfl | with_reducible assumption | omega | (refine al ?_ ?_ <;> omega)) | exact rfl)
theorem FE (v:Int) (nx:Int) (kp:Int) (qt:Int) (se:List Sess) (op:List Opn) (sn:List Snap) (c:Command) (r0:Reply) (r1:Int) (r2:Int) (r3:Int) (r4:Int) (r5:List Sess) (r6:List Opn) (r7:List Snap) (r8:Command):nB aJ iP [] Try.f58 [.c (.ptr 0 0),.c (.ptr 4 0)] [.box 29 ([.int (v),.int (nx),.int (kp),.int (qt),.own 1,.own 2,.own 3]),.row 40 (.nm .sess) (se),.row 48 (.nm .opn) (op),.row 59 (.nm .snap) (sn),.box 42 (cellsOf (.nm .command) (c))] [.agg (cellsOf (.nm .reply) r0)] [.box 29 ([.int (r1),.int (r2),.int (r3),.int (r4),.own 1,.own 2,.own 3]),.row 40 (.nm .sess) (r5),.row 48 (.nm .opn) (r6),.row 59 (.nm .snap) (r7),.box 42 (cellsOf (.nm .command) (r8))]=((fun (q0:State × Reply)=>op.length<(1048576:Nat)/\(I64 q0.snd.code->I64 q0.snd.n->q0.snd.code=r0.code/\q0.snd.n=r0.n/\q0.fst.version=r1/\q0.fst.next=r2/\q0.fst.keep=r3/\q0.fst.quota=r4/\q0.fst.sess=r5/\q0.fst.opens=r6/\q0.fst.snaps=r7/\c.kind=r8.kind/\c.client=r8.client/\c.seq=r8.seq/\c.set=r8.set/\c.id=r8.id/\c.n=r8.n/\c.chunks=r8.chunks/\c.text=r8.text)) (aW (State.mk v nx kp qt se op sn) c)):=by kernel_rfl
theorem FL (v:Int) (nx:Int) (kp:Int) (qt:Int) (se:List Sess) (op:List Opn) (sn:List Snap) (c:Command) (h0:op.length<1048576):Sat Try.prog (au aJ) 58 [.c (.ptr 0 0),.c (.ptr 4 0)] [.box 29 ([.int (v),.int (nx),.int (kp),.int (qt),.own 1,.own 2,.own 3]),.row 40 (.nm .sess) (se),.row 48 (.nm .opn) (op),.row 59 (.nm .snap) (sn),.box 42 (cellsOf (.nm .command) (c))] ⟨[op.length<1048576],[.agg (cellsOf (.nm .reply) ((aW (State.mk v nx kp qt se op sn) c).2))],some ([.box 29 ([.int ((((aW (State.mk v nx kp qt se op sn) c).1).version)),.int ((((aW (State.mk v nx kp qt se op sn) c).1).next)),.int ((((aW (State.mk v nx kp qt se op sn) c).1).keep)),.int ((((aW (State.mk v nx kp qt se op sn) c).1).quota)),.own 1,.own 2,.own 3]),.row 40 (.nm .sess) ((((aW (State.mk v nx kp qt se op sn) c).1).sess)),.row 48 (.nm .opn) ((((aW (State.mk v nx kp qt se op sn) c).1).opens)),.row 59 (.nm .snap) ((((aW (State.mk v nx kp qt se op sn) c).1).snaps)),.box 42 (cellsOf (.nm .command) ((c)))]),false⟩:=by
 refine dt dM [] Try.func58 (by decide) (by kernel_rfl) ?_
 rw [FE]
 (repeat' (first | with_reducible refine And.intro ?_ ?_ | with_reducible refine and_imp.2 ?_ | intro))
 all_goals (first | (first | with_reducible rfl | with_reducible assumption | omega | (refine al ?_ ?_ <;> omega)) | exact rfl)
theorem ow (v:Int) (nx:Int) (kp:Int) (qt:Int) (se:List Sess) (op:List Opn) (sn:List Snap) (c:Command) (r0:Int) (r1:Int) (r2:Int) (r3:Int) (r4:List Sess) (r5:List Opn) (r6:List Snap) (r7:Command):th aJ iP [] Try.f49 [.c (.fn 63 [] [(0,0)]),.c (.ptr 0 0),.c (.ptr 4 0)] [.box 29 ([.int (v),.int (nx),.int (kp),.int (qt),.own 1,.own 2,.own 3]),.row 40 (.nm .sess) (se),.row 48 (.nm .opn) (op),.row 59 (.nm .snap) (sn),.box 42 (cellsOf (.nm .command) (c))] [.c (.fn 50 [] [(0,0),(4,0),(5,0)])] [.box 29 ([.int (r0),.int (r1),.int (r2),.int (r3),.own 1,.own 2,.own 3]),.row 40 (.nm .sess) (r4),.row 48 (.nm .opn) (r5),.row 59 (.nm .snap) (r6),.box 42 (cellsOf (.nm .command) (r7)),.box 82 ([.fn 63 [] [(0,0)]])]=(v=r0/\nx=r1/\kp=r2/\qt=r3/\se=r4/\op=r5/\sn=r6/\c.kind=r7.kind/\c.client=r7.client/\c.seq=r7.seq/\c.set=r7.set/\c.id=r7.id/\c.n=r7.n/\c.chunks=r7.chunks/\c.text=r7.text):=by kernel_rfl
theorem po (v:Int) (nx:Int) (kp:Int) (qt:Int) (se:List Sess) (op:List Opn) (sn:List Snap) (c:Command):Sat Try.prog (au aJ) 49 [.c (.fn 63 [] [(0,0)]),.c (.ptr 0 0),.c (.ptr 4 0)] [.box 29 ([.int (v),.int (nx),.int (kp),.int (qt),.own 1,.own 2,.own 3]),.row 40 (.nm .sess) (se),.row 48 (.nm .opn) (op),.row 59 (.nm .snap) (sn),.box 42 (cellsOf (.nm .command) (c))] ⟨[],[.c (.fn 50 [] [(0,0),(4,0),(5,0)])],some ([.box 29 ([.int ((v)),.int ((nx)),.int ((kp)),.int ((qt)),.own 1,.own 2,.own 3]),.row 40 (.nm .sess) ((se)),.row 48 (.nm .opn) ((op)),.row 59 (.nm .snap) ((sn)),.box 42 (cellsOf (.nm .command) ((c))),.box 82 ([.fn 63 [] [(0,0)]])]),true⟩:=by
 refine eH dM [] Try.func49 (by decide) (by kernel_rfl) ?_
 rw [ow]
 (repeat' (first | with_reducible refine And.intro ?_ ?_ | with_reducible refine and_imp.2 ?_ | intro))
 all_goals (first | (first | with_reducible rfl | with_reducible assumption | omega | (refine al ?_ ?_ <;> omega)) | exact rfl)
theorem rH (v:Int) (nx:Int) (kp:Int) (qt:Int) (se:List Sess) (op:List Opn) (sn:List Snap) (c:Command) (r0:Int) (r1:Int) (r2:Int) (r3:Int) (r4:List Sess) (r5:List Opn) (r6:List Snap) (r7:Command):th aJ iP [] Try.f49 [.c (.fn 65 [] [(0,0)]),.c (.ptr 0 0),.c (.ptr 4 0)] [.box 29 ([.int (v),.int (nx),.int (kp),.int (qt),.own 1,.own 2,.own 3]),.row 40 (.nm .sess) (se),.row 48 (.nm .opn) (op),.row 59 (.nm .snap) (sn),.box 42 (cellsOf (.nm .command) (c))] [.c (.fn 50 [] [(0,0),(4,0),(5,0)])] [.box 29 ([.int (r0),.int (r1),.int (r2),.int (r3),.own 1,.own 2,.own 3]),.row 40 (.nm .sess) (r4),.row 48 (.nm .opn) (r5),.row 59 (.nm .snap) (r6),.box 42 (cellsOf (.nm .command) (r7)),.box 82 ([.fn 65 [] [(0,0)]])]=(v=r0/\nx=r1/\kp=r2/\qt=r3/\se=r4/\op=r5/\sn=r6/\c.kind=r7.kind/\c.client=r7.client/\c.seq=r7.seq/\c.set=r7.set/\c.id=r7.id/\c.n=r7.n/\c.chunks=r7.chunks/\c.text=r7.text):=by kernel_rfl
theorem qn (v:Int) (nx:Int) (kp:Int) (qt:Int) (se:List Sess) (op:List Opn) (sn:List Snap) (c:Command):Sat Try.prog (au aJ) 49 [.c (.fn 65 [] [(0,0)]),.c (.ptr 0 0),.c (.ptr 4 0)] [.box 29 ([.int (v),.int (nx),.int (kp),.int (qt),.own 1,.own 2,.own 3]),.row 40 (.nm .sess) (se),.row 48 (.nm .opn) (op),.row 59 (.nm .snap) (sn),.box 42 (cellsOf (.nm .command) (c))] ⟨[],[.c (.fn 50 [] [(0,0),(4,0),(5,0)])],some ([.box 29 ([.int ((v)),.int ((nx)),.int ((kp)),.int ((qt)),.own 1,.own 2,.own 3]),.row 40 (.nm .sess) ((se)),.row 48 (.nm .opn) ((op)),.row 59 (.nm .snap) ((sn)),.box 42 (cellsOf (.nm .command) ((c))),.box 82 ([.fn 65 [] [(0,0)]])]),true⟩:=by
 refine eH dM [] Try.func49 (by decide) (by kernel_rfl) ?_
 rw [rH]
 (repeat' (first | with_reducible refine And.intro ?_ ?_ | with_reducible refine and_imp.2 ?_ | intro))
 all_goals (first | (first | with_reducible rfl | with_reducible assumption | omega | (refine al ?_ ?_ <;> omega)) | exact rfl)
theorem sP (c:Command) (v:Int) (nx:Int) (kp:Int) (qt:Int) (se:List Sess) (op:List Opn) (sn:List Snap) (r0:Command) (r1:Int) (r2:Int) (r3:Int) (r4:Int) (r5:List Sess) (r6:List Opn) (r7:List Snap):th aJ iP [] Try.f49 [.c (.fn 66 [] [(0,0),(1,0)]),.c (.ptr 1 0),.c (.ptr 0 0)] [.box 42 (cellsOf (.nm .command) (c)),.box 29 ([.int (v),.int (nx),.int (kp),.int (qt),.own 2,.own 3,.own 4]),.row 40 (.nm .sess) (se),.row 48 (.nm .opn) (op),.row 59 (.nm .snap) (sn)] [.c (.fn 50 [] [(1,0),(0,0),(5,0)])] [.box 42 (cellsOf (.nm .command) (r0)),.box 29 ([.int (r1),.int (r2),.int (r3),.int (r4),.own 2,.own 3,.own 4]),.row 40 (.nm .sess) (r5),.row 48 (.nm .opn) (r6),.row 59 (.nm .snap) (r7),.box 82 ([.fn 66 [] [(0,0),(1,0)]])]=(c.kind=r0.kind/\c.client=r0.client/\c.seq=r0.seq/\c.set=r0.set/\c.id=r0.id/\c.n=r0.n/\c.chunks=r0.chunks/\c.text=r0.text/\v=r1/\nx=r2/\kp=r3/\qt=r4/\se=r5/\op=r6/\sn=r7):=by kernel_rfl
theorem sW (c:Command) (v:Int) (nx:Int) (kp:Int) (qt:Int) (se:List Sess) (op:List Opn) (sn:List Snap):Sat Try.prog (au aJ) 49 [.c (.fn 66 [] [(0,0),(1,0)]),.c (.ptr 1 0),.c (.ptr 0 0)] [.box 42 (cellsOf (.nm .command) (c)),.box 29 ([.int (v),.int (nx),.int (kp),.int (qt),.own 2,.own 3,.own 4]),.row 40 (.nm .sess) (se),.row 48 (.nm .opn) (op),.row 59 (.nm .snap) (sn)] ⟨[],[.c (.fn 50 [] [(1,0),(0,0),(5,0)])],some ([.box 42 (cellsOf (.nm .command) ((c))),.box 29 ([.int ((v)),.int ((nx)),.int ((kp)),.int ((qt)),.own 2,.own 3,.own 4]),.row 40 (.nm .sess) ((se)),.row 48 (.nm .opn) ((op)),.row 59 (.nm .snap) ((sn)),.box 82 ([.fn 66 [] [(0,0),(1,0)]])]),true⟩:=by
 refine eH dM [] Try.func49 (by decide) (by kernel_rfl) ?_
 rw [sP]
 (repeat' (first | with_reducible refine And.intro ?_ ?_ | with_reducible refine and_imp.2 ?_ | intro))
 all_goals (first | (first | with_reducible rfl | with_reducible assumption | omega | (refine al ?_ ?_ <;> omega)) | exact rfl)
theorem rI (v:Int) (nx:Int) (kp:Int) (qt:Int) (se:List Sess) (op:List Opn) (sn:List Snap) (b:Bool) (c:Command) (r0:Int) (r1:Int) (r2:Int) (r3:Int) (r4:List Sess) (r5:List Opn) (r6:List Snap) (r7:Bool) (r8:Command):th aJ iP [] Try.f49 [.c (.fn 53 [] [(0,0),(4,0)]),.c (.ptr 0 0),.c (.ptr 5 0)] [.box 29 ([.int (v),.int (nx),.int (kp),.int (qt),.own 1,.own 2,.own 3]),.row 40 (.nm .sess) (se),.row 48 (.nm .opn) (op),.row 59 (.nm .snap) (sn),.box 4 ([.bool (.atom (b))]),.box 42 (cellsOf (.nm .command) (c))] [.c (.fn 50 [] [(0,0),(5,0),(6,0)])] [.box 29 ([.int (r0),.int (r1),.int (r2),.int (r3),.own 1,.own 2,.own 3]),.row 40 (.nm .sess) (r4),.row 48 (.nm .opn) (r5),.row 59 (.nm .snap) (r6),.box 4 ([.bool (.atom (r7))]),.box 42 (cellsOf (.nm .command) (r8)),.box 82 ([.fn 53 [] [(0,0),(4,0)]])]=(v=r0/\nx=r1/\kp=r2/\qt=r3/\se=r4/\op=r5/\sn=r6/\b=r7/\c.kind=r8.kind/\c.client=r8.client/\c.seq=r8.seq/\c.set=r8.set/\c.id=r8.id/\c.n=r8.n/\c.chunks=r8.chunks/\c.text=r8.text):=by kernel_rfl
theorem rL (v:Int) (nx:Int) (kp:Int) (qt:Int) (se:List Sess) (op:List Opn) (sn:List Snap) (b:Bool) (c:Command):Sat Try.prog (au aJ) 49 [.c (.fn 53 [] [(0,0),(4,0)]),.c (.ptr 0 0),.c (.ptr 5 0)] [.box 29 ([.int (v),.int (nx),.int (kp),.int (qt),.own 1,.own 2,.own 3]),.row 40 (.nm .sess) (se),.row 48 (.nm .opn) (op),.row 59 (.nm .snap) (sn),.box 4 ([.bool (.atom (b))]),.box 42 (cellsOf (.nm .command) (c))] ⟨[],[.c (.fn 50 [] [(0,0),(5,0),(6,0)])],some ([.box 29 ([.int ((v)),.int ((nx)),.int ((kp)),.int ((qt)),.own 1,.own 2,.own 3]),.row 40 (.nm .sess) ((se)),.row 48 (.nm .opn) ((op)),.row 59 (.nm .snap) ((sn)),.box 4 ([.bool (.atom ((b)))]),.box 42 (cellsOf (.nm .command) ((c))),.box 82 ([.fn 53 [] [(0,0),(4,0)]])]),true⟩:=by
 refine eH dM [] Try.func49 (by decide) (by kernel_rfl) ?_
 rw [rI]
 (repeat' (first | with_reducible refine And.intro ?_ ?_ | with_reducible refine and_imp.2 ?_ | intro))
 all_goals (first | (first | with_reducible rfl | with_reducible assumption | omega | (refine al ?_ ?_ <;> omega)) | exact rfl)
def mB:cJ:=(bW 49 (bQ (aj (kC (mP 53 [] [(0,0),(4,0)])) (aj (kC (bL 0 0)) (aj (kC (bL 5 0)) aP))) (ay (bK 29 (ai cI (ai cI (ai cI (ai cI (ai (ba 1) (ai (ba 2) (ai (ba 3) bH)))))))) (ay (a_ 40 (.nm .sess)) (ay (a_ 48 (.nm .opn)) (ay (a_ 59 (.nm .snap)) (ay (bK 4 (ai cB bH)) (ay (bK 42 (pJ (.nm .command) bH)) aO)))))) fun (_,_,_,_) ((v,nx,kp,qt,_,_,_,_),se,op,sn,(b,_),(c,_),_)=>⟨[],[.c (.fn 50 [] [(0,0),(5,0),(6,0)])],some ([.box 29 ([.int ((v)),.int ((nx)),.int ((kp)),.int ((qt)),.own 1,.own 2,.own 3]),.row 40 (.nm .sess) ((se)),.row 48 (.nm .opn) ((op)),.row 59 (.nm .snap) ((sn)),.box 4 ([.bool (.atom ((b)))]),.box 42 (cellsOf (.nm .command) ((c))),.box 82 ([.fn 53 [] [(0,0),(4,0)]])]),true⟩) (bW 49 (bQ (aj (kC (mP 66 [] [(0,0),(1,0)])) (aj (kC (bL 1 0)) (aj (kC (bL 0 0)) aP))) (ay (bK 42 (pJ (.nm .command) bH)) (ay (bK 29 (ai cI (ai cI (ai cI (ai cI (ai (ba 2) (ai (ba 3) (ai (ba 4) bH)))))))) (ay (a_ 40 (.nm .sess)) (ay (a_ 48 (.nm .opn)) (ay (a_ 59 (.nm .snap)) aO))))) fun (_,_,_,_) ((c,_),(v,nx,kp,qt,_,_,_,_),se,op,sn,_)=>⟨[],[.c (.fn 50 [] [(1,0),(0,0),(5,0)])],some ([.box 42 (cellsOf (.nm .command) ((c))),.box 29 ([.int ((v)),.int ((nx)),.int ((kp)),.int ((qt)),.own 2,.own 3,.own 4]),.row 40 (.nm .sess) ((se)),.row 48 (.nm .opn) ((op)),.row 59 (.nm .snap) ((sn)),.box 82 ([.fn 66 [] [(0,0),(1,0)]])]),true⟩) (bW 49 (bQ (aj (kC (mP 65 [] [(0,0)])) (aj (kC (bL 0 0)) (aj (kC (bL 4 0)) aP))) (ay (bK 29 (ai cI (ai cI (ai cI (ai cI (ai (ba 1) (ai (ba 2) (ai (ba 3) bH)))))))) (ay (a_ 40 (.nm .sess)) (ay (a_ 48 (.nm .opn)) (ay (a_ 59 (.nm .snap)) (ay (bK 42 (pJ (.nm .command) bH)) aO))))) fun (_,_,_,_) ((v,nx,kp,qt,_,_,_,_),se,op,sn,(c,_),_)=>⟨[],[.c (.fn 50 [] [(0,0),(4,0),(5,0)])],some ([.box 29 ([.int ((v)),.int ((nx)),.int ((kp)),.int ((qt)),.own 1,.own 2,.own 3]),.row 40 (.nm .sess) ((se)),.row 48 (.nm .opn) ((op)),.row 59 (.nm .snap) ((sn)),.box 42 (cellsOf (.nm .command) ((c))),.box 82 ([.fn 65 [] [(0,0)]])]),true⟩) (bW 49 (bQ (aj (kC (mP 63 [] [(0,0)])) (aj (kC (bL 0 0)) (aj (kC (bL 4 0)) aP))) (ay (bK 29 (ai cI (ai cI (ai cI (ai cI (ai (ba 1) (ai (ba 2) (ai (ba 3) bH)))))))) (ay (a_ 40 (.nm .sess)) (ay (a_ 48 (.nm .opn)) (ay (a_ 59 (.nm .snap)) (ay (bK 42 (pJ (.nm .command) bH)) aO))))) fun (_,_,_,_) ((v,nx,kp,qt,_,_,_,_),se,op,sn,(c,_),_)=>⟨[],[.c (.fn 50 [] [(0,0),(4,0),(5,0)])],some ([.box 29 ([.int ((v)),.int ((nx)),.int ((kp)),.int ((qt)),.own 1,.own 2,.own 3]),.row 40 (.nm .sess) ((se)),.row 48 (.nm .opn) ((op)),.row 59 (.nm .snap) ((sn)),.box 42 (cellsOf (.nm .command) ((c))),.box 82 ([.fn 63 [] [(0,0)]])]),true⟩) (bW 58 (bQ (aj (kC (bL 0 0)) (aj (kC (bL 4 0)) aP)) (ay (bK 29 (ai cI (ai cI (ai cI (ai cI (ai (ba 1) (ai (ba 2) (ai (ba 3) bH)))))))) (ay (a_ 40 (.nm .sess)) (ay (a_ 48 (.nm .opn)) (ay (a_ 59 (.nm .snap)) (ay (bK 42 (pJ (.nm .command) bH)) aO))))) fun (_,_,_) ((v,nx,kp,qt,_,_,_,_),se,op,sn,(c,_),_)=>⟨[op.length<1048576],[.agg (cellsOf (.nm .reply) ((aW (State.mk v nx kp qt se op sn) c).2))],some ([.box 29 ([.int ((((aW (State.mk v nx kp qt se op sn) c).1).version)),.int ((((aW (State.mk v nx kp qt se op sn) c).1).next)),.int ((((aW (State.mk v nx kp qt se op sn) c).1).keep)),.int ((((aW (State.mk v nx kp qt se op sn) c).1).quota)),.own 1,.own 2,.own 3]),.row 40 (.nm .sess) ((((aW (State.mk v nx kp qt se op sn) c).1).sess)),.row 48 (.nm .opn) ((((aW (State.mk v nx kp qt se op sn) c).1).opens)),.row 59 (.nm .snap) ((((aW (State.mk v nx kp qt se op sn) c).1).snaps)),.box 42 (cellsOf (.nm .command) ((c)))]),false⟩) (bW 56 (bQ (aj (kC (bL 0 0)) (aj (kC (bL 4 0)) aP)) (ay (bK 29 (ai cI (ai cI (ai cI (ai cI (ai (ba 1) (ai (ba 2) (ai (ba 3) bH)))))))) (ay (a_ 40 (.nm .sess)) (ay (a_ 48 (.nm .opn)) (ay (a_ 59 (.nm .snap)) (ay (bK 42 (pJ (.nm .command) bH)) aO))))) fun (_,_,_) ((v,nx,kp,qt,_,_,_,_),se,op,sn,(c,_),_)=>⟨[nch sn<=1048576,sn.length<1048576,op.length<1048576,0<=nx],[.agg (cellsOf (.nm .reply) ((aN (State.mk v nx kp qt se op sn) c).2))],some ([.box 29 ([.int ((((aN (State.mk v nx kp qt se op sn) c).1).version)),.int ((((aN (State.mk v nx kp qt se op sn) c).1).next)),.int ((((aN (State.mk v nx kp qt se op sn) c).1).keep)),.int ((((aN (State.mk v nx kp qt se op sn) c).1).quota)),.own 1,.own 2,.own 3]),.row 40 (.nm .sess) ((((aN (State.mk v nx kp qt se op sn) c).1).sess)),.row 48 (.nm .opn) ((((aN (State.mk v nx kp qt se op sn) c).1).opens)),.row 59 (.nm .snap) ((((aN (State.mk v nx kp qt se op sn) c).1).snaps)),.box 42 (cellsOf (.nm .command) ((c)))]),false⟩) (bW 54 (bQ (aj (kC (bL 0 0)) (aj (kC (bL 4 0)) aP)) (ay (bK 29 (ai cI (ai cI (ai cI (ai cI (ai (ba 1) (ai (ba 2) (ai (ba 3) bH)))))))) (ay (a_ 40 (.nm .sess)) (ay (a_ 48 (.nm .opn)) (ay (a_ 59 (.nm .snap)) (ay (bK 42 (pJ (.nm .command) bH)) aO))))) fun (_,_,_) ((v,nx,kp,qt,_,_,_,_),se,op,sn,(c,_),_)=>⟨[op.length<1048576],[.agg (cellsOf (.nm .reply) ((aS (State.mk v nx kp qt se op sn) c).2))],some ([.box 29 ([.int ((((aS (State.mk v nx kp qt se op sn) c).1).version)),.int ((((aS (State.mk v nx kp qt se op sn) c).1).next)),.int ((((aS (State.mk v nx kp qt se op sn) c).1).keep)),.int ((((aS (State.mk v nx kp qt se op sn) c).1).quota)),.own 1,.own 2,.own 3]),.row 40 (.nm .sess) ((((aS (State.mk v nx kp qt se op sn) c).1).sess)),.row 48 (.nm .opn) ((((aS (State.mk v nx kp qt se op sn) c).1).opens)),.row 59 (.nm .snap) ((((aS (State.mk v nx kp qt se op sn) c).1).snaps)),.box 42 (cellsOf (.nm .command) ((c)))]),false⟩) iP)))))))
theorem eV:aR Try.prog (au aJ) mB:=(aC (aB (ae (aw cu) (ae (aw aI) (ae (aw aI) ao))) (ah (aG (ab ax (ab ax (ab ax (ab ax (ab az (ab az (ab az aE)))))))) (ah aA (ah aA (ah aA (ah (aG (ab pW aE)) (ah (aG (cT aE)) aq)))))) fun (_,_,_,_) ((v,nx,kp,qt,_,_,_,_),se,op,sn,(b,_),(c,_),_) _=>rL v nx kp qt se op sn b c ) (aC (aB (ae (aw cu) (ae (aw aI) (ae (aw aI) ao))) (ah (aG (cT aE)) (ah (aG (ab ax (ab ax (ab ax (ab ax (ab az (ab az (ab az aE)))))))) (ah aA (ah aA (ah aA aq))))) fun (_,_,_,_) ((c,_),(v,nx,kp,qt,_,_,_,_),se,op,sn,_) _=>sW c v nx kp qt se op sn ) (aC (aB (ae (aw cu) (ae (aw aI) (ae (aw aI) ao))) (ah (aG (ab ax (ab ax (ab ax (ab ax (ab az (ab az (ab az aE)))))))) (ah aA (ah aA (ah aA (ah (aG (cT aE)) aq))))) fun (_,_,_,_) ((v,nx,kp,qt,_,_,_,_),se,op,sn,(c,_),_) _=>qn v nx kp qt se op sn c ) (aC (aB (ae (aw cu) (ae (aw aI) (ae (aw aI) ao))) (ah (aG (ab ax (ab ax (ab ax (ab ax (ab az (ab az (ab az aE)))))))) (ah aA (ah aA (ah aA (ah (aG (cT aE)) aq))))) fun (_,_,_,_) ((v,nx,kp,qt,_,_,_,_),se,op,sn,(c,_),_) _=>po v nx kp qt se op sn c ) (aC (aB (ae (aw aI) (ae (aw aI) ao)) (ah (aG (ab ax (ab ax (ab ax (ab ax (ab az (ab az (ab az aE)))))))) (ah aA (ah aA (ah aA (ah (aG (cT aE)) aq))))) fun (_,_,_) ((v,nx,kp,qt,_,_,_,_),se,op,sn,(c,_),_) hp=>FL v nx kp qt se op sn c (fh hp)) (aC (aB (ae (aw aI) (ae (aw aI) ao)) (ah (aG (ab ax (ab ax (ab ax (ab ax (ab az (ab az (ab az aE)))))))) (ah aA (ah aA (ah aA (ah (aG (cT aE)) aq))))) fun (_,_,_) ((v,nx,kp,qt,_,_,_,_),se,op,sn,(c,_),_) hp=>EL v nx kp qt se op sn c (fh hp) (fh (m_ hp)) (fh (m_ (m_ hp))) (fh (m_ (m_ (m_ hp))))) (aC (aB (ae (aw aI) (ae (aw aI) ao)) (ah (aG (ab ax (ab ax (ab ax (ab ax (ab az (ab az (ab az aE)))))))) (ah aA (ah aA (ah aA (ah (aG (cT aE)) aq))))) fun (_,_,_) ((v,nx,kp,qt,_,_,_,_),se,op,sn,(c,_),_) hp=>DZ v nx kp qt se op sn c (fh hp)) dM)))))))
end Go.Proofs.Ytdggohppeeaipaa
namespace Go.Proofs.Ytdggohppeeaipaa
open Go.RowKit
theorem EU (b:Bool) (v:Int) (nx:Int) (kp:Int) (qt:Int) (se:List Sess) (op:List Opn) (sn:List Snap) (c:Command) (r0:Int) (r1:Int) (r2:Int) (r3:Int) (r4:List Sess) (r5:List Opn) (r6:List Snap) (r7:Command) (r8:Bool):th aJ mB [] Try.f52 [.c (.bool (.atom (b))),.c (.ptr 0 0),.c (.ptr 1 0)] [.box 84 ([.fn 49 [] [(1,0),(5,0)]]),.box 29 ([.int (v),.int (nx),.int (kp),.int (qt),.own 2,.own 3,.own 4]),.row 40 (.nm .sess) (se),.row 48 (.nm .opn) (op),.row 59 (.nm .snap) (sn),.box 42 (cellsOf (.nm .command) (c))] [.c (.fn 50 [] [(1,0),(5,0),(7,0)])] [.box 84 ([.fn 49 [] [(1,0),(5,0)]]),.box 29 ([.int (r0),.int (r1),.int (r2),.int (r3),.own 2,.own 3,.own 4]),.row 40 (.nm .sess) (r4),.row 48 (.nm .opn) (r5),.row 59 (.nm .snap) (r6),.box 42 (cellsOf (.nm .command) (r7)),.box 4 ([.bool (.atom (r8))]),.box 82 ([.fn 53 [] [(1,0),(6,0)]])]=(v=r0/\nx=r1/\kp=r2/\qt=r3/\se=r4/\op=r5/\sn=r6/\c.kind=r7.kind/\c.client=r7.client/\c.seq=r7.seq/\c.set=r7.set/\c.id=r7.id/\c.n=r7.n/\c.chunks=r7.chunks/\c.text=r7.text/\b=r8):=by kernel_rfl
theorem FJ (b:Bool) (v:Int) (nx:Int) (kp:Int) (qt:Int) (se:List Sess) (op:List Opn) (sn:List Snap) (c:Command):Sat Try.prog (au aJ) 52 [.c (.bool (.atom (b))),.c (.ptr 0 0),.c (.ptr 1 0)] [.box 84 ([.fn 49 [] [(1,0),(5,0)]]),.box 29 ([.int (v),.int (nx),.int (kp),.int (qt),.own 2,.own 3,.own 4]),.row 40 (.nm .sess) (se),.row 48 (.nm .opn) (op),.row 59 (.nm .snap) (sn),.box 42 (cellsOf (.nm .command) (c))] ⟨[],[.c (.fn 50 [] [(1,0),(5,0),(7,0)])],some ([.box 84 ([.fn 49 [] [(1,0),(5,0)]]),.box 29 ([.int ((v)),.int ((nx)),.int ((kp)),.int ((qt)),.own 2,.own 3,.own 4]),.row 40 (.nm .sess) ((se)),.row 48 (.nm .opn) ((op)),.row 59 (.nm .snap) ((sn)),.box 42 (cellsOf (.nm .command) ((c))),.box 4 ([.bool (.atom ((b)))]),.box 82 ([.fn 53 [] [(1,0),(6,0)]])]),true⟩:=by
 refine eH eV [] Try.func52 (by decide) (by kernel_rfl) ?_
 rw [EU]
 (repeat' (first | with_reducible refine And.intro ?_ ?_ | with_reducible refine and_imp.2 ?_ | intro))
 all_goals (first | (first | with_reducible rfl | with_reducible assumption | omega | (refine al ?_ ?_ <;> omega)) | exact rfl)
theorem sF (v:Int) (nx:Int) (kp:Int) (qt:Int) (se:List Sess) (op:List Opn) (sn:List Snap) (c:Command) (r0:Reply) (r1:Int) (r2:Int) (r3:Int) (r4:Int) (r5:List Sess) (r6:List Opn) (r7:List Snap) (r8:Command):nB aJ mB [] Try.f50 [.c (.ptr 0 0),.c (.ptr 4 0),.c (.ptr 5 0)] [.box 29 ([.int (v),.int (nx),.int (kp),.int (qt),.own 1,.own 2,.own 3]),.row 40 (.nm .sess) (se),.row 48 (.nm .opn) (op),.row 59 (.nm .snap) (sn),.box 42 (cellsOf (.nm .command) (c)),.box 82 ([.fn 63 [] [(0,0)]])] [.agg (cellsOf (.nm .reply) r0)] [.box 29 ([.int (r1),.int (r2),.int (r3),.int (r4),.own 1,.own 2,.own 3]),.row 40 (.nm .sess) (r5),.row 48 (.nm .opn) (r6),.row 59 (.nm .snap) (r7),.box 42 (cellsOf (.nm .command) (r8)),.box 82 ([.fn 63 [] [(0,0)]])]=((fun (q2:Int)=>(fun (q1:Prop)=>(fun (q0:State × Reply)=>I64 q2->(q2<(0:Int)->I64 (15:Int)->I64 (0:Int)->(15:Int)=r0.code/\(0:Int)=r0.n/\v=r1/\nx=r2/\kp=r3/\qt=r4/\se=r5/\op=r6/\sn=r7/\q1)/\((0:Int)<=q2->((0:Int)<=q2/\q2<(↑sn.length:Int))/\nch sn<=(1048576:Nat)/\(I64 q0.snd.code->I64 q0.snd.n->q0.snd.code=r0.code/\q0.snd.n=r0.n/\q0.fst.version=r1/\q0.fst.next=r2/\q0.fst.keep=r3/\q0.fst.quota=r4/\q0.fst.sess=r5/\q0.fst.opens=r6/\q0.fst.snaps=r7/\q1))) (aK (State.mk v nx kp qt se op sn) q2.toNat)) (c.kind=r8.kind/\c.client=r8.client/\c.seq=r8.seq/\c.set=r8.set/\c.id=r8.id/\c.n=r8.n/\c.chunks=r8.chunks/\c.text=r8.text)) (ag Snap.id c.id sn)):=by kernel_rfl
theorem sL (v:Int) (nx:Int) (kp:Int) (qt:Int) (se:List Sess) (op:List Opn) (sn:List Snap) (c:Command) (h0:nch sn<=1048576):Sat Try.prog (au aJ) 50 [.c (.ptr 0 0),.c (.ptr 4 0),.c (.ptr 5 0)] [.box 29 ([.int (v),.int (nx),.int (kp),.int (qt),.own 1,.own 2,.own 3]),.row 40 (.nm .sess) (se),.row 48 (.nm .opn) (op),.row 59 (.nm .snap) (sn),.box 42 (cellsOf (.nm .command) (c)),.box 82 ([.fn 63 [] [(0,0)]])] ⟨[nch sn<=1048576],[.agg (cellsOf (.nm .reply) ((av aK c (State.mk v nx kp qt se op sn)).2))],some ([.box 29 ([.int ((((av aK c (State.mk v nx kp qt se op sn)).1).version)),.int ((((av aK c (State.mk v nx kp qt se op sn)).1).next)),.int ((((av aK c (State.mk v nx kp qt se op sn)).1).keep)),.int ((((av aK c (State.mk v nx kp qt se op sn)).1).quota)),.own 1,.own 2,.own 3]),.row 40 (.nm .sess) ((((av aK c (State.mk v nx kp qt se op sn)).1).sess)),.row 48 (.nm .opn) ((((av aK c (State.mk v nx kp qt se op sn)).1).opens)),.row 59 (.nm .snap) ((((av aK c (State.mk v nx kp qt se op sn)).1).snaps)),.box 42 (cellsOf (.nm .command) ((c))),.box 82 ([.fn 63 [] [(0,0)]])]),false⟩:=by
 refine dt eV [] Try.func50 (by decide) (by kernel_rfl) ?_
 rw [sF]
 (repeat' (first | with_reducible refine And.intro ?_ ?_ | with_reducible refine and_imp.2 ?_ | intro))
 all_goals (first | (first | with_reducible rfl | with_reducible assumption | omega | (refine al ?_ ?_ <;> omega)) | exact aX (by with_reducible assumption) | (rw [Ho] <;> first | rfl | omega) | (rw [Hl] <;> first | rfl | omega))
theorem vP (v:Int) (nx:Int) (kp:Int) (qt:Int) (se:List Sess) (op:List Opn) (sn:List Snap) (c:Command) (r0:Reply) (r1:Int) (r2:Int) (r3:Int) (r4:Int) (r5:List Sess) (r6:List Opn) (r7:List Snap) (r8:Command):nB aJ mB [] Try.f50 [.c (.ptr 0 0),.c (.ptr 4 0),.c (.ptr 5 0)] [.box 29 ([.int (v),.int (nx),.int (kp),.int (qt),.own 1,.own 2,.own 3]),.row 40 (.nm .sess) (se),.row 48 (.nm .opn) (op),.row 59 (.nm .snap) (sn),.box 42 (cellsOf (.nm .command) (c)),.box 82 ([.fn 65 [] [(0,0)]])] [.agg (cellsOf (.nm .reply) r0)] [.box 29 ([.int (r1),.int (r2),.int (r3),.int (r4),.own 1,.own 2,.own 3]),.row 40 (.nm .sess) (r5),.row 48 (.nm .opn) (r6),.row 59 (.nm .snap) (r7),.box 42 (cellsOf (.nm .command) (r8)),.box 82 ([.fn 65 [] [(0,0)]])]=((fun (q2:Int)=>(fun (q1:Prop)=>(fun (q0:State × Reply)=>I64 q2->(q2<(0:Int)->I64 (15:Int)->I64 (0:Int)->(15:Int)=r0.code/\(0:Int)=r0.n/\v=r1/\nx=r2/\kp=r3/\qt=r4/\se=r5/\op=r6/\sn=r7/\q1)/\((0:Int)<=q2->((0:Int)<=q2/\q2<(↑sn.length:Int))/\(I64 q0.snd.code->I64 q0.snd.n->q0.snd.code=r0.code/\q0.snd.n=r0.n/\q0.fst.version=r1/\q0.fst.next=r2/\q0.fst.keep=r3/\q0.fst.quota=r4/\q0.fst.sess=r5/\q0.fst.opens=r6/\q0.fst.snaps=r7/\q1))) (bc (State.mk v nx kp qt se op sn) q2.toNat)) (c.kind=r8.kind/\c.client=r8.client/\c.seq=r8.seq/\c.set=r8.set/\c.id=r8.id/\c.n=r8.n/\c.chunks=r8.chunks/\c.text=r8.text)) (ag Snap.id c.id sn)):=by kernel_rfl
theorem vT (v:Int) (nx:Int) (kp:Int) (qt:Int) (se:List Sess) (op:List Opn) (sn:List Snap) (c:Command):Sat Try.prog (au aJ) 50 [.c (.ptr 0 0),.c (.ptr 4 0),.c (.ptr 5 0)] [.box 29 ([.int (v),.int (nx),.int (kp),.int (qt),.own 1,.own 2,.own 3]),.row 40 (.nm .sess) (se),.row 48 (.nm .opn) (op),.row 59 (.nm .snap) (sn),.box 42 (cellsOf (.nm .command) (c)),.box 82 ([.fn 65 [] [(0,0)]])] ⟨[],[.agg (cellsOf (.nm .reply) ((av bc c (State.mk v nx kp qt se op sn)).2))],some ([.box 29 ([.int ((((av bc c (State.mk v nx kp qt se op sn)).1).version)),.int ((((av bc c (State.mk v nx kp qt se op sn)).1).next)),.int ((((av bc c (State.mk v nx kp qt se op sn)).1).keep)),.int ((((av bc c (State.mk v nx kp qt se op sn)).1).quota)),.own 1,.own 2,.own 3]),.row 40 (.nm .sess) ((((av bc c (State.mk v nx kp qt se op sn)).1).sess)),.row 48 (.nm .opn) ((((av bc c (State.mk v nx kp qt se op sn)).1).opens)),.row 59 (.nm .snap) ((((av bc c (State.mk v nx kp qt se op sn)).1).snaps)),.box 42 (cellsOf (.nm .command) ((c))),.box 82 ([.fn 65 [] [(0,0)]])]),false⟩:=by
 refine dt eV [] Try.func50 (by decide) (by kernel_rfl) ?_
 rw [vP]
 (repeat' (first | with_reducible refine And.intro ?_ ?_ | with_reducible refine and_imp.2 ?_ | intro))
 all_goals (first | (first | with_reducible rfl | with_reducible assumption | omega | (refine al ?_ ?_ <;> omega)) | exact aX (by with_reducible assumption) | (rw [Ho] <;> first | rfl | omega) | (rw [Hl] <;> first | rfl | omega))
theorem zm (v:Int) (nx:Int) (kp:Int) (qt:Int) (se:List Sess) (op:List Opn) (sn:List Snap) (c:Command) (r0:Reply) (r1:Int) (r2:Int) (r3:Int) (r4:Int) (r5:List Sess) (r6:List Opn) (r7:List Snap) (r8:Command):nB aJ mB [] Try.f50 [.c (.ptr 0 0),.c (.ptr 4 0),.c (.ptr 5 0)] [.box 29 ([.int (v),.int (nx),.int (kp),.int (qt),.own 1,.own 2,.own 3]),.row 40 (.nm .sess) (se),.row 48 (.nm .opn) (op),.row 59 (.nm .snap) (sn),.box 42 (cellsOf (.nm .command) (c)),.box 82 ([.fn 66 [] [(4,0),(0,0)]])] [.agg (cellsOf (.nm .reply) r0)] [.box 29 ([.int (r1),.int (r2),.int (r3),.int (r4),.own 1,.own 2,.own 3]),.row 40 (.nm .sess) (r5),.row 48 (.nm .opn) (r6),.row 59 (.nm .snap) (r7),.box 42 (cellsOf (.nm .command) (r8)),.box 82 ([.fn 66 [] [(4,0),(0,0)]])]=((fun (q2:Int)=>(fun (q1:Prop)=>(fun (q0:State × Reply)=>I64 q2->(q2<(0:Int)->I64 (15:Int)->I64 (0:Int)->(15:Int)=r0.code/\(0:Int)=r0.n/\v=r1/\nx=r2/\kp=r3/\qt=r4/\se=r5/\op=r6/\sn=r7/\q1)/\((0:Int)<=q2->((0:Int)<=q2/\q2<(↑sn.length:Int))/\(I64 q0.snd.code->I64 q0.snd.n->q0.snd.code=r0.code/\q0.snd.n=r0.n/\q0.fst.version=r1/\q0.fst.next=r2/\q0.fst.keep=r3/\q0.fst.quota=r4/\q0.fst.sess=r5/\q0.fst.opens=r6/\q0.fst.snaps=r7/\q1))) (cG c (State.mk v nx kp qt se op sn) q2.toNat)) (c.kind=r8.kind/\c.client=r8.client/\c.seq=r8.seq/\c.set=r8.set/\c.id=r8.id/\c.n=r8.n/\c.chunks=r8.chunks/\c.text=r8.text)) (ag Snap.id c.id sn)):=by kernel_rfl
theorem Az (v:Int) (nx:Int) (kp:Int) (qt:Int) (se:List Sess) (op:List Opn) (sn:List Snap) (c:Command):Sat Try.prog (au aJ) 50 [.c (.ptr 0 0),.c (.ptr 4 0),.c (.ptr 5 0)] [.box 29 ([.int (v),.int (nx),.int (kp),.int (qt),.own 1,.own 2,.own 3]),.row 40 (.nm .sess) (se),.row 48 (.nm .opn) (op),.row 59 (.nm .snap) (sn),.box 42 (cellsOf (.nm .command) (c)),.box 82 ([.fn 66 [] [(4,0),(0,0)]])] ⟨[],[.agg (cellsOf (.nm .reply) ((av (cG c) c (State.mk v nx kp qt se op sn)).2))],some ([.box 29 ([.int ((((av (cG c) c (State.mk v nx kp qt se op sn)).1).version)),.int ((((av (cG c) c (State.mk v nx kp qt se op sn)).1).next)),.int ((((av (cG c) c (State.mk v nx kp qt se op sn)).1).keep)),.int ((((av (cG c) c (State.mk v nx kp qt se op sn)).1).quota)),.own 1,.own 2,.own 3]),.row 40 (.nm .sess) ((((av (cG c) c (State.mk v nx kp qt se op sn)).1).sess)),.row 48 (.nm .opn) ((((av (cG c) c (State.mk v nx kp qt se op sn)).1).opens)),.row 59 (.nm .snap) ((((av (cG c) c (State.mk v nx kp qt se op sn)).1).snaps)),.box 42 (cellsOf (.nm .command) ((c))),.box 82 ([.fn 66 [] [(4,0),(0,0)]])]),false⟩:=by
 refine dt eV [] Try.func50 (by decide) (by kernel_rfl) ?_
 rw [zm]
 (repeat' (first | with_reducible refine And.intro ?_ ?_ | with_reducible refine and_imp.2 ?_ | intro))
 all_goals (first | (first | with_reducible rfl | with_reducible assumption | omega | (refine al ?_ ?_ <;> omega)) | exact aX (by with_reducible assumption) | (rw [Ho] <;> first | rfl | omega) | (rw [Hl] <;> first | rfl | omega))
theorem vk (v:Int) (nx:Int) (kp:Int) (qt:Int) (se:List Sess) (op:List Opn) (sn:List Snap) (c:Command) (b:Bool) (r0:Reply) (r1:Int) (r2:Int) (r3:Int) (r4:Int) (r5:List Sess) (r6:List Opn) (r7:List Snap) (r8:Command) (r9:Bool):nB aJ mB [] Try.f50 [.c (.ptr 0 0),.c (.ptr 4 0),.c (.ptr 5 0)] [.box 29 ([.int (v),.int (nx),.int (kp),.int (qt),.own 1,.own 2,.own 3]),.row 40 (.nm .sess) (se),.row 48 (.nm .opn) (op),.row 59 (.nm .snap) (sn),.box 42 (cellsOf (.nm .command) (c)),.box 82 ([.fn 53 [] [(0,0),(6,0)]]),.box 4 ([.bool (.atom (b))])] [.agg (cellsOf (.nm .reply) r0)] [.box 29 ([.int (r1),.int (r2),.int (r3),.int (r4),.own 1,.own 2,.own 3]),.row 40 (.nm .sess) (r5),.row 48 (.nm .opn) (r6),.row 59 (.nm .snap) (r7),.box 42 (cellsOf (.nm .command) (r8)),.box 82 ([.fn 53 [] [(0,0),(6,0)]]),.box 4 ([.bool (.atom (r9))])]=((fun (q2:Int)=>(fun (q1:Prop)=>(fun (q0:State × Reply)=>I64 q2->(q2<(0:Int)->I64 (15:Int)->I64 (0:Int)->(15:Int)=r0.code/\(0:Int)=r0.n/\v=r1/\nx=r2/\kp=r3/\qt=r4/\se=r5/\op=r6/\sn=r7/\q1)/\((0:Int)<=q2->((0:Int)<=q2/\q2<(↑sn.length:Int))/\(I64 q0.snd.code->I64 q0.snd.n->q0.snd.code=r0.code/\q0.snd.n=r0.n/\q0.fst.version=r1/\q0.fst.next=r2/\q0.fst.keep=r3/\q0.fst.quota=r4/\q0.fst.sess=r5/\q0.fst.opens=r6/\q0.fst.snaps=r7/\q1))) (bn b (State.mk v nx kp qt se op sn) q2.toNat)) (c.kind=r8.kind/\c.client=r8.client/\c.seq=r8.seq/\c.set=r8.set/\c.id=r8.id/\c.n=r8.n/\c.chunks=r8.chunks/\c.text=r8.text/\b=r9)) (ag Snap.id c.id sn)):=by kernel_rfl
theorem vX (v:Int) (nx:Int) (kp:Int) (qt:Int) (se:List Sess) (op:List Opn) (sn:List Snap) (c:Command) (b:Bool):Sat Try.prog (au aJ) 50 [.c (.ptr 0 0),.c (.ptr 4 0),.c (.ptr 5 0)] [.box 29 ([.int (v),.int (nx),.int (kp),.int (qt),.own 1,.own 2,.own 3]),.row 40 (.nm .sess) (se),.row 48 (.nm .opn) (op),.row 59 (.nm .snap) (sn),.box 42 (cellsOf (.nm .command) (c)),.box 82 ([.fn 53 [] [(0,0),(6,0)]]),.box 4 ([.bool (.atom (b))])] ⟨[],[.agg (cellsOf (.nm .reply) ((av (bn b) c (State.mk v nx kp qt se op sn)).2))],some ([.box 29 ([.int ((((av (bn b) c (State.mk v nx kp qt se op sn)).1).version)),.int ((((av (bn b) c (State.mk v nx kp qt se op sn)).1).next)),.int ((((av (bn b) c (State.mk v nx kp qt se op sn)).1).keep)),.int ((((av (bn b) c (State.mk v nx kp qt se op sn)).1).quota)),.own 1,.own 2,.own 3]),.row 40 (.nm .sess) ((((av (bn b) c (State.mk v nx kp qt se op sn)).1).sess)),.row 48 (.nm .opn) ((((av (bn b) c (State.mk v nx kp qt se op sn)).1).opens)),.row 59 (.nm .snap) ((((av (bn b) c (State.mk v nx kp qt se op sn)).1).snaps)),.box 42 (cellsOf (.nm .command) ((c))),.box 82 ([.fn 53 [] [(0,0),(6,0)]]),.box 4 ([.bool (.atom ((b)))])]),false⟩:=by
 refine dt eV [] Try.func50 (by decide) (by kernel_rfl) ?_
 rw [vk]
 (repeat' (first | with_reducible refine And.intro ?_ ?_ | with_reducible refine and_imp.2 ?_ | intro))
 all_goals (first | (first | with_reducible rfl | with_reducible assumption | omega | (refine al ?_ ?_ <;> omega)) | exact aX (by with_reducible assumption) | (rw [Ho] <;> first | rfl | omega) | (rw [Hl] <;> first | rfl | omega))
def ye:cJ:=(bW 50 (bQ (aj (kC (bL 0 0)) (aj (kC (bL 4 0)) (aj (kC (bL 5 0)) aP))) (ay (bK 29 (ai cI (ai cI (ai cI (ai cI (ai (ba 1) (ai (ba 2) (ai (ba 3) bH)))))))) (ay (a_ 40 (.nm .sess)) (ay (a_ 48 (.nm .opn)) (ay (a_ 59 (.nm .snap)) (ay (bK 42 (pJ (.nm .command) bH)) (ay (bK 82 (ai (mP 53 [] [(0,0),(6,0)]) bH)) (ay (bK 4 (ai cB bH)) aO))))))) fun (_,_,_,_) ((v,nx,kp,qt,_,_,_,_),se,op,sn,(c,_),(_,_),(b,_),_)=>⟨[],[.agg (cellsOf (.nm .reply) ((av (bn b) c (State.mk v nx kp qt se op sn)).2))],some ([.box 29 ([.int ((((av (bn b) c (State.mk v nx kp qt se op sn)).1).version)),.int ((((av (bn b) c (State.mk v nx kp qt se op sn)).1).next)),.int ((((av (bn b) c (State.mk v nx kp qt se op sn)).1).keep)),.int ((((av (bn b) c (State.mk v nx kp qt se op sn)).1).quota)),.own 1,.own 2,.own 3]),.row 40 (.nm .sess) ((((av (bn b) c (State.mk v nx kp qt se op sn)).1).sess)),.row 48 (.nm .opn) ((((av (bn b) c (State.mk v nx kp qt se op sn)).1).opens)),.row 59 (.nm .snap) ((((av (bn b) c (State.mk v nx kp qt se op sn)).1).snaps)),.box 42 (cellsOf (.nm .command) ((c))),.box 82 ([.fn 53 [] [(0,0),(6,0)]]),.box 4 ([.bool (.atom ((b)))])]),false⟩) (bW 50 (bQ (aj (kC (bL 0 0)) (aj (kC (bL 4 0)) (aj (kC (bL 5 0)) aP))) (ay (bK 29 (ai cI (ai cI (ai cI (ai cI (ai (ba 1) (ai (ba 2) (ai (ba 3) bH)))))))) (ay (a_ 40 (.nm .sess)) (ay (a_ 48 (.nm .opn)) (ay (a_ 59 (.nm .snap)) (ay (bK 42 (pJ (.nm .command) bH)) (ay (bK 82 (ai (mP 66 [] [(4,0),(0,0)]) bH)) aO)))))) fun (_,_,_,_) ((v,nx,kp,qt,_,_,_,_),se,op,sn,(c,_),(_,_),_)=>⟨[],[.agg (cellsOf (.nm .reply) ((av (cG c) c (State.mk v nx kp qt se op sn)).2))],some ([.box 29 ([.int ((((av (cG c) c (State.mk v nx kp qt se op sn)).1).version)),.int ((((av (cG c) c (State.mk v nx kp qt se op sn)).1).next)),.int ((((av (cG c) c (State.mk v nx kp qt se op sn)).1).keep)),.int ((((av (cG c) c (State.mk v nx kp qt se op sn)).1).quota)),.own 1,.own 2,.own 3]),.row 40 (.nm .sess) ((((av (cG c) c (State.mk v nx kp qt se op sn)).1).sess)),.row 48 (.nm .opn) ((((av (cG c) c (State.mk v nx kp qt se op sn)).1).opens)),.row 59 (.nm .snap) ((((av (cG c) c (State.mk v nx kp qt se op sn)).1).snaps)),.box 42 (cellsOf (.nm .command) ((c))),.box 82 ([.fn 66 [] [(4,0),(0,0)]])]),false⟩) (bW 50 (bQ (aj (kC (bL 0 0)) (aj (kC (bL 4 0)) (aj (kC (bL 5 0)) aP))) (ay (bK 29 (ai cI (ai cI (ai cI (ai cI (ai (ba 1) (ai (ba 2) (ai (ba 3) bH)))))))) (ay (a_ 40 (.nm .sess)) (ay (a_ 48 (.nm .opn)) (ay (a_ 59 (.nm .snap)) (ay (bK 42 (pJ (.nm .command) bH)) (ay (bK 82 (ai (mP 65 [] [(0,0)]) bH)) aO)))))) fun (_,_,_,_) ((v,nx,kp,qt,_,_,_,_),se,op,sn,(c,_),(_,_),_)=>⟨[],[.agg (cellsOf (.nm .reply) ((av bc c (State.mk v nx kp qt se op sn)).2))],some ([.box 29 ([.int ((((av bc c (State.mk v nx kp qt se op sn)).1).version)),.int ((((av bc c (State.mk v nx kp qt se op sn)).1).next)),.int ((((av bc c (State.mk v nx kp qt se op sn)).1).keep)),.int ((((av bc c (State.mk v nx kp qt se op sn)).1).quota)),.own 1,.own 2,.own 3]),.row 40 (.nm .sess) ((((av bc c (State.mk v nx kp qt se op sn)).1).sess)),.row 48 (.nm .opn) ((((av bc c (State.mk v nx kp qt se op sn)).1).opens)),.row 59 (.nm .snap) ((((av bc c (State.mk v nx kp qt se op sn)).1).snaps)),.box 42 (cellsOf (.nm .command) ((c))),.box 82 ([.fn 65 [] [(0,0)]])]),false⟩) (bW 50 (bQ (aj (kC (bL 0 0)) (aj (kC (bL 4 0)) (aj (kC (bL 5 0)) aP))) (ay (bK 29 (ai cI (ai cI (ai cI (ai cI (ai (ba 1) (ai (ba 2) (ai (ba 3) bH)))))))) (ay (a_ 40 (.nm .sess)) (ay (a_ 48 (.nm .opn)) (ay (a_ 59 (.nm .snap)) (ay (bK 42 (pJ (.nm .command) bH)) (ay (bK 82 (ai (mP 63 [] [(0,0)]) bH)) aO)))))) fun (_,_,_,_) ((v,nx,kp,qt,_,_,_,_),se,op,sn,(c,_),(_,_),_)=>⟨[nch sn<=1048576],[.agg (cellsOf (.nm .reply) ((av aK c (State.mk v nx kp qt se op sn)).2))],some ([.box 29 ([.int ((((av aK c (State.mk v nx kp qt se op sn)).1).version)),.int ((((av aK c (State.mk v nx kp qt se op sn)).1).next)),.int ((((av aK c (State.mk v nx kp qt se op sn)).1).keep)),.int ((((av aK c (State.mk v nx kp qt se op sn)).1).quota)),.own 1,.own 2,.own 3]),.row 40 (.nm .sess) ((((av aK c (State.mk v nx kp qt se op sn)).1).sess)),.row 48 (.nm .opn) ((((av aK c (State.mk v nx kp qt se op sn)).1).opens)),.row 59 (.nm .snap) ((((av aK c (State.mk v nx kp qt se op sn)).1).snaps)),.box 42 (cellsOf (.nm .command) ((c))),.box 82 ([.fn 63 [] [(0,0)]])]),false⟩) (bW 52 (bQ (aj (kC cB) (aj (kC (bL 0 0)) (aj (kC (bL 1 0)) aP))) (ay (bK 84 (ai (mP 49 [] [(1,0),(5,0)]) bH)) (ay (bK 29 (ai cI (ai cI (ai cI (ai cI (ai (ba 2) (ai (ba 3) (ai (ba 4) bH)))))))) (ay (a_ 40 (.nm .sess)) (ay (a_ 48 (.nm .opn)) (ay (a_ 59 (.nm .snap)) (ay (bK 42 (pJ (.nm .command) bH)) aO)))))) fun (b,_,_,_) ((_,_),(v,nx,kp,qt,_,_,_,_),se,op,sn,(c,_),_)=>⟨[],[.c (.fn 50 [] [(1,0),(5,0),(7,0)])],some ([.box 84 ([.fn 49 [] [(1,0),(5,0)]]),.box 29 ([.int ((v)),.int ((nx)),.int ((kp)),.int ((qt)),.own 2,.own 3,.own 4]),.row 40 (.nm .sess) ((se)),.row 48 (.nm .opn) ((op)),.row 59 (.nm .snap) ((sn)),.box 42 (cellsOf (.nm .command) ((c))),.box 4 ([.bool (.atom ((b)))]),.box 82 ([.fn 53 [] [(1,0),(6,0)]])]),true⟩) mB)))))
theorem rf:aR Try.prog (au aJ) ye:=(aC (aB (ae (aw aI) (ae (aw aI) (ae (aw aI) ao))) (ah (aG (ab ax (ab ax (ab ax (ab ax (ab az (ab az (ab az aE)))))))) (ah aA (ah aA (ah aA (ah (aG (cT aE)) (ah (aG (ab cu aE)) (ah (aG (ab pW aE)) aq))))))) fun (_,_,_,_) ((v,nx,kp,qt,_,_,_,_),se,op,sn,(c,_),(_,_),(b,_),_) _=>vX v nx kp qt se op sn c b ) (aC (aB (ae (aw aI) (ae (aw aI) (ae (aw aI) ao))) (ah (aG (ab ax (ab ax (ab ax (ab ax (ab az (ab az (ab az aE)))))))) (ah aA (ah aA (ah aA (ah (aG (cT aE)) (ah (aG (ab cu aE)) aq)))))) fun (_,_,_,_) ((v,nx,kp,qt,_,_,_,_),se,op,sn,(c,_),(_,_),_) _=>Az v nx kp qt se op sn c ) (aC (aB (ae (aw aI) (ae (aw aI) (ae (aw aI) ao))) (ah (aG (ab ax (ab ax (ab ax (ab ax (ab az (ab az (ab az aE)))))))) (ah aA (ah aA (ah aA (ah (aG (cT aE)) (ah (aG (ab cu aE)) aq)))))) fun (_,_,_,_) ((v,nx,kp,qt,_,_,_,_),se,op,sn,(c,_),(_,_),_) _=>vT v nx kp qt se op sn c ) (aC (aB (ae (aw aI) (ae (aw aI) (ae (aw aI) ao))) (ah (aG (ab ax (ab ax (ab ax (ab ax (ab az (ab az (ab az aE)))))))) (ah aA (ah aA (ah aA (ah (aG (cT aE)) (ah (aG (ab cu aE)) aq)))))) fun (_,_,_,_) ((v,nx,kp,qt,_,_,_,_),se,op,sn,(c,_),(_,_),_) hp=>sL v nx kp qt se op sn c (fh hp)) (aC (aB (ae (aw pW) (ae (aw aI) (ae (aw aI) ao))) (ah (aG (ab cu aE)) (ah (aG (ab ax (ab ax (ab ax (ab ax (ab az (ab az (ab az aE)))))))) (ah aA (ah aA (ah aA (ah (aG (cT aE)) aq)))))) fun (b,_,_,_) ((_,_),(v,nx,kp,qt,_,_,_,_),se,op,sn,(c,_),_) _=>FJ b v nx kp qt se op sn c ) eV)))))
end Go.Proofs.Ytdggohppeeaipaa
namespace Go.Proofs.Ytdggohppeeaipaa
open Go.RowKit
def bG (s:State) (c:Command):Int:=if mayF s s.version=0 then bM c s.version else 1
def v_ (s:State) (c:Command):State × Reply:=
 if c.kind=11 then av (cG c) c s
 else if c.kind=10 then av (bn false) c s
 else if c.kind=9 then av (bn true) c s
 else if c.kind=7 then av bc c s
 else if c.kind=5 then av aK c s
 else if c.kind=12 then cz c s
 else if c.kind=6 then cZ c s
 else if c.kind=4 then aW s c
 else if c.kind=3 then aN s c
 else if c.kind=2 then aS s c
 else (s,⟨1,0⟩)
def bh (s:State) (c:Command):State × Reply:=if ¬ bG s c=0 then (s,⟨bG s c,0⟩) else v_ s c
theorem om {α:Type} {key:α->Int} {most:Int}:∀ {l:List α} {a:Int},ak key most a l=true->l=[]\/a+(l.length:Int)<=most
 | [],_,_=>.inl rfl
 | x :: l,a,h=>by
  simp only [ak,Bool.and_eq_true] at h
  have h1:=oR h.1
  rcases om h.2 with h2 | h2
  ·subst h2; right; simp only [List.length_cons,List.length_nil]; omega
  ·right; simp only [List.length_cons]; omega
theorem bT {s:State} {v:Int} (h:mayF s v=0):cw v 1 3=true/\cY s v=true/\mO s=true/\jn s=true/\dw s v=true:=by
 unfold mayF at h
 split at h
 ·omega
 ·rename_i h1
  split at h
  ·omega
  ·rename_i h2
   simp at h1 h2
   exact ⟨h1,h2.1.1.1,h2.1.1.2,h2.1.2,h2.2⟩
theorem FC {s:State} {v:Int} (h:mayF s v=0):s.opens.length<=8:=by
 have h1:=(bT h).2.2.2.1
 simp only [jn,Bool.and_eq_true] at h1
 rcases om h1.1 with h2 | h2
 ·rw [h2]; simp
 ·omega
theorem EO {s:State} {v:Int} (h:mayF s v=0):s.sess.length<=8:=by
 have h1:=(bT h).2.2.1
 simp only [mO,Bool.and_eq_true] at h1
 rcases om h1.1 with h2 | h2
 ·rw [h2]; simp
 ·omega
theorem fw {s:State} {v:Int} (h:mayF s v=0):s.snaps.length<=16/\ak Snap.id (s.next - 1) 0 s.snaps=true/\∀ x ∈ s.snaps,bj v (dE v) x=true:=by
 have h1:=(bT h).2.2.2.2
 simp only [dw,Bool.and_eq_true,Bool.not_eq_true',Bool.or_eq_false_iff,decide_eq_false_iff_not,Bool.not_eq_false',List.all_eq_true] at h1
 exact ⟨by omega,h1.1.2,h1.2⟩
theorem ya {x:Snap} {v t:Int} (h:bj v t x=true):dz x.chunks=true:=by
 simp only [bj,Bool.and_eq_true,decide_eq_true_eq] at h
 cases hr:dz x.chunks with
 | true=>rfl
 | false=>have:=fF (l:=x.chunks) hr; omega
theorem xR:∀ {l:List Snap},(∀ x ∈ l,dz x.chunks=true)->nch l<=8*l.length
 | [],_=>Nat.le_refl _
 | x :: l,h=>by
  have h1:=xR (l:=l) fun y hy=>h y (List.mem_cons_of_mem _ hy)
  have h2:=(oP (h x (List.mem_cons_self))).2
  have e:nch (x :: l)=x.chunks.length+nch l:=by simp [nch]
  rw [e,List.length_cons]; omega
theorem BD {s:State} {v:Int} (h:mayF s v=0):nch s.snaps<=128:=by
 have h1:=fw h
 have:=xR (l:=s.snaps) fun x hx=>ya (h1.2.2 x hx)
 omega
theorem jH {s:State} {v:Int} (h:mayF s v=0):1<=s.next/\s.next<=1048576:=by
 have h1:=(bT h).2.1
 simp only [cY,Bool.and_eq_true] at h1
 exact oR h1.1.1.2
theorem rO {s:State} {c:Command} (h:(if mayF s s.version=0 then bM c s.version else 1)=0):mayF s s.version=0:=by
 split at h
 ·assumption
 ·omega
theorem FN {s:State} {c:Command} (h:(if mayF s s.version=0 then bM c s.version else 1)=0):nch s.snaps<=1048576:=by have:=BD (rO h); omega
theorem GS {s:State} {c:Command} (h:(if mayF s s.version=0 then bM c s.version else 1)=0):s.opens.length<1048576:=by have:=FC (rO h); omega
theorem uX {s:State} {c:Command} (h:(if mayF s s.version=0 then bM c s.version else 1)=0):s.sess.length<1048576:=by have:=EO (rO h); omega
theorem Gm {s:State} {c:Command} (h:(if mayF s s.version=0 then bM c s.version else 1)=0):s.snaps.length<1048576:=by have:=(fw (rO h)).1; omega
theorem GH {s:State} {c:Command} (h:(if mayF s s.version=0 then bM c s.version else 1)=0):0<=s.next:=by have:=jH (rO h); omega
theorem He {s:State} {c:Command} (h:(if mayF s s.version=0 then bM c s.version else 1)=0):bh s c=v_ s c:=by
 have h:bG s c=0:=h
 rw [bh,h]; rfl
theorem H_ {s:State} {c:Command} (h:¬ (if mayF s s.version=0 then bM c s.version else 1)=0):bh s c=(s,⟨(if mayF s s.version=0 then bM c s.version else 1),0⟩):=by
 have h:¬ bG s c=0:=h
 rw [bh,if_pos h]; rfl
theorem EB (st:State) (c:Command) (r0:Int) (r1:Int) (r2:Int) (r3:Int) (r4:Reply) (r5:List Sess) (r6:List Opn) (r7:List Snap):th aJ ye [] Try.f34 [.agg (cellsOf (.nm .state) st),.agg (cellsOf (.nm .command) c)] [] [.agg ([.int (r0),.int (r1),.int (r2),.int (r3),.own 0,.own 1,.own 2]),.agg (cellsOf (.nm .reply) r4)] [.row 40 (.nm .sess) (r5),.row 48 (.nm .opn) (r6),.row 59 (.nm .snap) (r7)]=((fun (q18:Reply)=>(fun (q17:Int)=>(fun (q16:Int)=>(fun (q15:Prop)=>(fun (q14:Prop)=>(fun (q13:Int)=>(fun (q12:State)=>(fun (q11:Prop)=>(fun (q10:State × Reply)=>(fun (q9:State × Reply)=>(fun (q8:State × Reply)=>(fun (q7:Int)=>(fun (q6:State × Reply)=>(fun (q5:State × Reply)=>(fun (q4:State × Reply)=>(fun (q3:State × Reply)=>(fun (q2:State × Reply)=>(fun (q1:State × Reply)=>(fun (q0:Int)=>I64 q17->I64 st.next->I64 st.keep->I64 st.quota->st.sess.length*(32:Nat)<=(140737488355328:Nat)->st.opens.length*(16:Nat)<=(140737488355328:Nat)->st.snaps.length*(64:Nat)<=(140737488355328:Nat)->I64 q7->I64 c.client->I64 c.seq->I64 c.set->I64 c.id->I64 c.n->c.chunks.length*(8:Nat)<=(140737488355328:Nat)->c.text.b.length<=(140737488355328:Nat)->I64 q17->I64 st.next->I64 st.keep->I64 st.quota->I64 q0->(¬q0=q16->I64 q0->I64 q16->q17=r0/\st.next=r1/\st.keep=r2/\st.quota=r3/\q0=q13/\q11)/\(q0=q16->(q7=(11:Int)->I64 q3.snd.code->I64 q3.snd.n->q3.fst.version=r0/\q3.fst.next=r1/\q3.fst.keep=r2/\q3.fst.quota=r3/\q3.snd.code=q13/\q3.snd.n=r4.n/\q3.fst.sess=r5/\q3.fst.opens=r6/\q3.fst.snaps=r7)/\(¬q7=(11:Int)->(q7=(10:Int)->I64 q1.snd.code->I64 q1.snd.n->q1.fst.version=r0/\q1.fst.next=r1/\q1.fst.keep=r2/\q1.fst.quota=r3/\q1.snd.code=q13/\q1.snd.n=r4.n/\q1.fst.sess=r5/\q1.fst.opens=r6/\q1.fst.snaps=r7)/\(¬q7=(10:Int)->(q7=(9:Int)->I64 q2.snd.code->I64 q2.snd.n->q2.fst.version=r0/\q2.fst.next=r1/\q2.fst.keep=r2/\q2.fst.quota=r3/\q2.snd.code=q13/\q2.snd.n=r4.n/\q2.fst.sess=r5/\q2.fst.opens=r6/\q2.fst.snaps=r7)/\(¬q7=(9:Int)->(q7=(7:Int)->I64 q4.snd.code->I64 q4.snd.n->q4.fst.version=r0/\q4.fst.next=r1/\q4.fst.keep=r2/\q4.fst.quota=r3/\q4.snd.code=q13/\q4.snd.n=r4.n/\q4.fst.sess=r5/\q4.fst.opens=r6/\q4.fst.snaps=r7)/\(¬q7=(7:Int)->(q7=(5:Int)->q15/\(I64 q5.snd.code->I64 q5.snd.n->q5.fst.version=r0/\q5.fst.next=r1/\q5.fst.keep=r2/\q5.fst.quota=r3/\q5.snd.code=q13/\q5.snd.n=r4.n/\q5.fst.sess=r5/\q5.fst.opens=r6/\q5.fst.snaps=r7))/\(¬q7=(5:Int)->(q7=(12:Int)->q15/\(I64 q10.snd.code->I64 q10.snd.n->q10.fst.version=r0/\q10.fst.next=r1/\q10.fst.keep=r2/\q10.fst.quota=r3/\q10.snd.code=q13/\q10.snd.n=r4.n/\q10.fst.sess=r5/\q10.fst.opens=r6/\q10.fst.snaps=r7))/\(¬q7=(12:Int)->(q7=(6:Int)->I64 q18.code->I64 q18.n->q12.version=r0/\q12.next=r1/\q12.keep=r2/\q12.quota=r3/\q18.code=q13/\q18.n=r4.n/\q12.sess=r5/\q12.opens=r6/\q12.snaps=r7)/\(¬q7=(6:Int)->(q7=(4:Int)->q14/\(I64 q8.snd.code->I64 q8.snd.n->q8.fst.version=r0/\q8.fst.next=r1/\q8.fst.keep=r2/\q8.fst.quota=r3/\q8.snd.code=q13/\q8.snd.n=r4.n/\q8.fst.sess=r5/\q8.fst.opens=r6/\q8.fst.snaps=r7))/\(¬q7=(4:Int)->(q7=(3:Int)->q15/\st.snaps.length<(1048576:Nat)/\q14/\q16<=st.next/\(I64 q6.snd.code->I64 q6.snd.n->q6.fst.version=r0/\q6.fst.next=r1/\q6.fst.keep=r2/\q6.fst.quota=r3/\q6.snd.code=q13/\q6.snd.n=r4.n/\q6.fst.sess=r5/\q6.fst.opens=r6/\q6.fst.snaps=r7))/\(¬q7=(3:Int)->(q7=(2:Int)->q14/\(I64 q9.snd.code->I64 q9.snd.n->q9.fst.version=r0/\q9.fst.next=r1/\q9.fst.keep=r2/\q9.fst.quota=r3/\q9.snd.code=q13/\q9.snd.n=r4.n/\q9.fst.sess=r5/\q9.fst.opens=r6/\q9.fst.snaps=r7))/\(¬q7=(2:Int)->I64 (1:Int)->I64 q16->q17=r0/\st.next=r1/\st.keep=r2/\st.quota=r3/\(1:Int)=q13/\q11)))))))))))) (if mayF st q17=q16 then bM c q17 else (1:Int))) (av (bn false) c st)) (av (bn true) c st)) (av (cG c) c st)) (av bc c st)) (av aK c st)) (aN st c)) c.kind) (aW st c)) (aS st c)) (cz c st)) (q16=r4.n/\st.sess=r5/\st.opens=r6/\st.snaps=r7)) (cZ c st).fst) r4.code) (st.opens.length<(1048576:Nat))) (nch st.snaps<=(1048576:Nat))) (0:Int)) st.version) (cZ c st).snd):=by kernel_rfl
theorem Ft (st:State) (c:Command):Sat Try.prog (au aJ) 34 [.agg (cellsOf (.nm .state) st),.agg (cellsOf (.nm .command) c)] [] ⟨[],[.agg ([.int (((bh st c).1.version)),.int (((bh st c).1.next)),.int (((bh st c).1.keep)),.int (((bh st c).1.quota)),.own 0,.own 1,.own 2]),.agg (cellsOf (.nm .reply) ((bh st c).2))],some ([.row 40 (.nm .sess) (((bh st c).1.sess)),.row 48 (.nm .opn) (((bh st c).1.opens)),.row 59 (.nm .snap) (((bh st c).1.snaps))]),true⟩:=by
 refine eH rf [] Try.func34 (by decide) (by kernel_rfl) ?_
 rw [EB]
 (repeat' (first | with_reducible refine And.intro ?_ ?_ | with_reducible refine and_imp.2 ?_ | intro))
 all_goals (first | (first | with_reducible rfl | with_reducible assumption | omega | (refine al ?_ ?_ <;> omega)) | exact (FN (by with_reducible assumption)) | exact (GS (by with_reducible assumption)) | exact (uX (by with_reducible assumption)) | exact (Gm (by with_reducible assumption)) | exact (GH (by with_reducible assumption)) | (rw [H_ (by with_reducible assumption)]; done) | (rw [He (by with_reducible assumption)]; simp only [v_, *]; done) | (rw [He (by with_reducible assumption)]; simp [v_, *]; done))
def yk:cJ:=(bW 34 (bQ (aj (kT (.nm .state)) (aj (kT (.nm .command)) aP)) aO fun (st,c,_) (_)=>⟨[],[.agg ([.int (((bh st c).1.version)),.int (((bh st c).1.next)),.int (((bh st c).1.keep)),.int (((bh st c).1.quota)),.own 0,.own 1,.own 2]),.agg (cellsOf (.nm .reply) ((bh st c).2))],some ([.row 40 (.nm .sess) (((bh st c).1.sess)),.row 48 (.nm .opn) (((bh st c).1.opens)),.row 59 (.nm .snap) (((bh st c).1.snaps))]),true⟩) ye)
theorem qi:aR Try.prog (au aJ) yk:=(aC (aB (ae bN (ae bN ao)) aq fun (st,c,_) (_) _=>Ft st c ) rf)
end Go.Proofs.Ytdggohppeeaipaa
namespace Go.Proofs.Ytdggohppeeaipaa
open Go.RowKit
def bf (s:State) (c:Command):State × Reply:=
 if ag Sess.client c.client s.sess<0 then (s,⟨11,0⟩)
 else if c.seq=(s.sess.getD (ag Sess.client c.client s.sess).toNat (dflt (.nm .sess))).seq then (s,(s.sess.getD (ag Sess.client c.client s.sess).toNat (dflt (.nm .sess))).last)
 else if c.seq<(s.sess.getD (ag Sess.client c.client s.sess).toNat (dflt (.nm .sess))).seq then (s,⟨13,0⟩)
 else if (s.sess.getD (ag Sess.client c.client s.sess).toNat (dflt (.nm .sess))).seq+1<c.seq then (s,⟨14,0⟩)
 else ({ (bh s c).1 with sess:=(bh s c).1.sess.set (ag Sess.client c.client s.sess).toNat { (bh s c).1.sess.getD (ag Sess.client c.client s.sess).toNat (dflt (.nm .sess)) with seq:=c.seq,last:=(bh s c).2 } },(bh s c).2)
def dP (s:State) (c:Command):State × Reply:=
 if ¬ bG s c=0 then (s,⟨bG s c,0⟩)
 else if c.kind=8 then (if ¬ c.n=s.version+1 then (s,⟨1,0⟩) else ({ s with version:=c.n },⟨0,c.n⟩))
 else if c.kind=1 then (if 0<=ag Sess.client c.client s.sess then (s,⟨12,0⟩) else ({ s with sess:=eL s.sess (s.sess.takeWhile fun y=>decide (y.client<c.client)).length ⟨c.client,0,⟨0,0⟩⟩ },⟨0,0⟩))
 else bf s c
theorem CW {Q:State × Reply->Prop} {s:State} {c:Command} (h0:∀ e:Int,¬ e=0->Q (s,⟨e,0⟩))
  (hs:∀ f:State->Nat->State × Reply,bG s c=0->(f=cG c\/(∃ b,f=bn b)\/f=bc\/f=aK)->Q (av f c s))
  (hq:bG s c=0->Q (cz c s)) (hk:bG s c=0->Q (cZ c s)) (ha:bG s c=0->Q (aW s c)) (hc:bG s c=0->Q (aN s c)) (hb:bG s c=0->Q (aS s c)):Q (bh s c):=by
 unfold bh
 split
 ·exact h0 _ (by assumption)
 ·rename_i h
  have h:bG s c=0:=Classical.not_not.1 h
  unfold v_
  split
  ·exact hs _ h (.inl rfl)
  split
  ·exact hs _ h (.inr (.inl ⟨_,rfl⟩))
  split
  ·exact hs _ h (.inr (.inl ⟨_,rfl⟩))
  split
  ·exact hs _ h (.inr (.inr (.inl rfl)))
  split
  ·exact hs _ h (.inr (.inr (.inr rfl)))
  split
  ·exact hq h
  split
  ·exact hk h
  split
  ·exact ha h
  split
  ·exact hc h
  split
  ·exact hb h
  ·exact h0 1 (by decide)
theorem wM {Q:State × Reply->Prop} {f:State->Nat->State × Reply} {s:State} {c:Command} (h0:∀ e:Int,¬ e=0->Q (s,⟨e,0⟩)) (h:∀ n:Nat,(n:Int)=ag Snap.id c.id s.snaps->Q (f s n)):Q (av f c s):=by
 unfold av
 split
 ·exact h0 15 (by decide)
 ·exact h _ (by omega)
theorem nE {s:State} {c:Command}:(bh s c).1.sess=s.sess:=by
 refine CW (Q:=fun r=>r.1.sess=s.sess) (fun _ _=>rfl) (fun f _ hf=>?_) (fun _=>rfl) (fun _=>rfl) (fun _=>?_) (fun _=>?_) (fun _=>?_)
 ·refine wM (Q:=fun r=>r.1.sess=s.sess) (fun _ _=>rfl) fun n _=>?_
  rcases hf with rfl | ⟨b,rfl⟩ | rfl | rfl
  ·rfl
  ·unfold bn; split <;> rfl
  ·rfl
  ·unfold aK; split; rfl; split <;> rfl
 ·unfold aW; split <;> rfl
 ·unfold aN; split; rfl; split; rfl; split <;> rfl
 ·unfold aS; split <;> rfl
theorem qf {l:List Sess} {k:Nat} {q:Int} {R:Reply} (h:k<l.length):(l.set k (Sess.mk (l.getD k (dflt (.nm .sess))).client q (l.getD k (dflt (.nm .sess))).last)).set k (Sess.mk ((l.set k (Sess.mk (l.getD k (dflt (.nm .sess))).client q (l.getD k (dflt (.nm .sess))).last)).getD k (dflt (.nm .sess))).client ((l.set k (Sess.mk (l.getD k (dflt (.nm .sess))).client q (l.getD k (dflt (.nm .sess))).last)).getD k (dflt (.nm .sess))).seq R)=l.set k { l.getD k (dflt (.nm .sess)) with seq:=q,last:=R }:=by
 have e:∀ x:Sess,(l.set k x).getD k (dflt (.nm .sess))=x:=fun x=>by
  rw [List.getD_eq_getElem?_getD,List.getElem?_set_self h]; rfl
 rw [e,List.set_set]
section
variable {v nx kp qt:Int} {se:List Sess} {op:List Opn} {sn:List Snap} {c:Command}
theorem Io (h:ag Sess.client c.client se<0):bf (State.mk v nx kp qt se op sn) c=(State.mk v nx kp qt se op sn,⟨11,0⟩):=by
 simp only [bf,if_pos h]
theorem Il (h:0<=ag Sess.client c.client se) (e:c.seq=(se.getD (ag Sess.client c.client se).toNat (dflt (.nm .sess))).seq):bf (State.mk v nx kp qt se op sn) c=(State.mk v nx kp qt se op sn,(se.getD (ag Sess.client c.client se).toNat (dflt (.nm .sess))).last):=by
 have h1:¬ ag Sess.client c.client se<0:=by omega
 simp only [bf,if_neg h1,if_pos e]
theorem Ih (h:0<=ag Sess.client c.client se) (e:¬ c.seq=(se.getD (ag Sess.client c.client se).toNat (dflt (.nm .sess))).seq) (l:c.seq<(se.getD (ag Sess.client c.client se).toNat (dflt (.nm .sess))).seq):bf (State.mk v nx kp qt se op sn) c=(State.mk v nx kp qt se op sn,⟨13,0⟩):=by
 have h1:¬ ag Sess.client c.client se<0:=by omega
 simp only [bf,if_neg h1,if_neg e,if_pos l]
theorem Ig (h:0<=ag Sess.client c.client se) (e:¬ c.seq=(se.getD (ag Sess.client c.client se).toNat (dflt (.nm .sess))).seq) (l:(se.getD (ag Sess.client c.client se).toNat (dflt (.nm .sess))).seq<=c.seq) (g:(se.getD (ag Sess.client c.client se).toNat (dflt (.nm .sess))).seq+1<c.seq):bf (State.mk v nx kp qt se op sn) c=(State.mk v nx kp qt se op sn,⟨14,0⟩):=by
 have h1:¬ ag Sess.client c.client se<0:=by omega
 have h2:¬ c.seq<(se.getD (ag Sess.client c.client se).toNat (dflt (.nm .sess))).seq:=by omega
 simp only [bf,if_neg h1,if_neg e,if_neg h2,if_pos g]
theorem Ie (h:0<=ag Sess.client c.client se) (e:¬ c.seq=(se.getD (ag Sess.client c.client se).toNat (dflt (.nm .sess))).seq) (l:(se.getD (ag Sess.client c.client se).toNat (dflt (.nm .sess))).seq<=c.seq) (g:c.seq<=(se.getD (ag Sess.client c.client se).toNat (dflt (.nm .sess))).seq+1):bf (State.mk v nx kp qt se op sn) c=({ (bh (State.mk v nx kp qt se op sn) c).1 with sess:=(bh (State.mk v nx kp qt se op sn) c).1.sess.set (ag Sess.client c.client se).toNat { (bh (State.mk v nx kp qt se op sn) c).1.sess.getD (ag Sess.client c.client se).toNat (dflt (.nm .sess)) with seq:=c.seq,last:=(bh (State.mk v nx kp qt se op sn) c).2 } },(bh (State.mk v nx kp qt se op sn) c).2):=by
 have h1:¬ ag Sess.client c.client se<0:=by omega
 have h2:¬ c.seq<(se.getD (ag Sess.client c.client se).toNat (dflt (.nm .sess))).seq:=by omega
 have h3:¬ (se.getD (ag Sess.client c.client se).toNat (dflt (.nm .sess))).seq+1<c.seq:=by omega
 simp only [bf,if_neg h1,if_neg e,if_neg h2,if_neg h3]
theorem xy (h:0<=ag Sess.client c.client se):ag Sess.client c.client se<((bh (State.mk v nx kp qt se op sn) c).1.sess.length:Int):=by rw [nE]; exact aX h
theorem qm (h:0<=ag Sess.client c.client se):(ag Sess.client c.client se).toNat<(bh (State.mk v nx kp qt se op sn) c).1.sess.length:=by have:=xy (v:=v) (nx:=nx) (kp:=kp) (qt:=qt) (op:=op) (sn:=sn) h; omega
theorem F_ {x:Sess} (h:0<=ag Sess.client c.client se):ag Sess.client c.client se<(((bh (State.mk v nx kp qt se op sn) c).1.sess.set (ag Sess.client c.client se).toNat x).length:Int):=by rw [List.length_set]; exact xy h
theorem HE (h:bG (State.mk v nx kp qt se op sn) c=0) (h0:0<=ag Sess.client c.client se):I64 ((se.getD (ag Sess.client c.client se).toNat (dflt (.nm .sess))).seq+1):=by
 have h1:=(bT (rO h)).2.2.1
 simp only [mO,Bool.and_eq_true,List.all_eq_true] at h1
 have h2:=h1.2 _ (List.mem_of_getElem? (gd (d:=dflt (.nm .sess)) (k:=(ag Sess.client c.client se).toNat) (l:=se) (by have:=aX h0; omega)))
 simp only [bF,Bool.and_eq_true] at h2
 have h3:=oR h2.1.1
 constructor <;> omega
end
theorem zI (v:Int) (nx:Int) (kp:Int) (qt:Int) (c:Command) (se:List Sess) (op:List Opn) (sn:List Snap) (r0:Int) (r1:Int) (r2:Int) (r3:Int) (r4:Reply) (r5:List Sess) (r6:List Opn) (r7:List Snap):nB aJ yk [] Try.f26 [.agg ([.int (v),.int (nx),.int (kp),.int (qt),.own 0,.own 1,.own 2]),.agg (cellsOf (.nm .command) c)] [.row 40 (.nm .sess) (se),.row 48 (.nm .opn) (op),.row 59 (.nm .snap) (sn)] [.agg ([.int (r0),.int (r1),.int (r2),.int (r3),.own 0,.own 1,.own 2]),.agg (cellsOf (.nm .reply) r4)] [.row 40 (.nm .sess) (r5),.row 48 (.nm .opn) (r6),.row 59 (.nm .snap) (r7)]=((fun (q7:Prop)=>(fun (q6:Int)=>(fun (q5:Int)=>(fun (q4:Prop)=>(fun (q3:den (Sh.nm NT.sess))=>(fun (q2:State × Reply)=>(fun (q1:Int)=>(fun (q0:den (Sh.nm NT.sess))=>I64 v->I64 nx->I64 kp->I64 qt->I64 c.kind->I64 c.client->I64 q6->I64 c.set->I64 c.id->I64 c.n->c.chunks.length*(8:Nat)<=(140737488355328:Nat)->c.text.b.length<=(140737488355328:Nat)->I64 q1->(q1<q5->I64 (11:Int)->I64 q5->v=r0/\nx=r1/\kp=r2/\qt=r3/\(11:Int)=r4.code/\q4)/\(q5<=q1->q5<=q1/\q1<(↑se.length:Int)/\(I64 (se.getD q1.toNat q3).client->I64 (se.getD q1.toNat q3).seq->I64 (se.getD q1.toNat q3).last.code->I64 (se.getD q1.toNat q3).last.n->(q6=(se.getD q1.toNat q3).seq->v=r0/\nx=r1/\kp=r2/\qt=r3/\(se.getD q1.toNat q3).last.code=r4.code/\(se.getD q1.toNat q3).last.n=r4.n/\q7)/\(¬q6=(se.getD q1.toNat q3).seq->(q6<(se.getD q1.toNat q3).seq->I64 (13:Int)->I64 q5->v=r0/\nx=r1/\kp=r2/\qt=r3/\(13:Int)=r4.code/\q4)/\((se.getD q1.toNat q3).seq<=q6->I64 ((se.getD q1.toNat q3).seq+(1:Int))/\((se.getD q1.toNat q3).seq+(1:Int)<q6->I64 (14:Int)->I64 q5->v=r0/\nx=r1/\kp=r2/\qt=r3/\(14:Int)=r4.code/\q4)/\(q6<=(se.getD q1.toNat q3).seq+(1:Int)->I64 q2.fst.version->I64 q2.fst.next->I64 q2.fst.keep->I64 q2.fst.quota->I64 q2.snd.code->I64 q2.snd.n->(q5<=q1/\q1<(↑q2.fst.sess.length:Int))/\(I64 q0.client->I64 q0.seq->I64 q0.last.code->I64 q0.last.n->q5<=q1/\q1<(↑(q2.fst.sess.set q1.toNat (Sess.mk q0.client q6 q0.last)).length:Int))/\(I64 q0.client->I64 q0.seq->I64 q0.last.code->I64 q0.last.n->I64 ((q2.fst.sess.set q1.toNat (Sess.mk q0.client q6 q0.last)).getD q1.toNat q3).client->I64 ((q2.fst.sess.set q1.toNat (Sess.mk q0.client q6 q0.last)).getD q1.toNat q3).seq->I64 ((q2.fst.sess.set q1.toNat (Sess.mk q0.client q6 q0.last)).getD q1.toNat q3).last.code->I64 ((q2.fst.sess.set q1.toNat (Sess.mk q0.client q6 q0.last)).getD q1.toNat q3).last.n->q2.fst.version=r0/\q2.fst.next=r1/\q2.fst.keep=r2/\q2.fst.quota=r3/\q2.snd.code=r4.code/\q2.snd.n=r4.n/\(q2.fst.sess.set q1.toNat (Sess.mk q0.client q6 q0.last)).set q1.toNat (Sess.mk ((q2.fst.sess.set q1.toNat (Sess.mk q0.client q6 q0.last)).getD q1.toNat q3).client ((q2.fst.sess.set q1.toNat (Sess.mk q0.client q6 q0.last)).getD q1.toNat q3).seq q2.snd)=r5/\q2.fst.opens=r6/\q2.fst.snaps=r7))))))) (q2.fst.sess.getD q1.toNat q3)) (ag Sess.client c.client se)) (bh (State.mk v nx kp qt se op sn) c)) (dflt (Sh.nm NT.sess))) (q5=r4.n/\q7)) (0:Int)) c.seq) (se=r5/\op=r6/\sn=r7)):=by kernel_rfl
theorem yS (v:Int) (nx:Int) (kp:Int) (qt:Int) (c:Command) (se:List Sess) (op:List Opn) (sn:List Snap) (h0:bG (State.mk v nx kp qt se op sn) c=0):Sat Try.prog (au aJ) 26 [.agg ([.int (v),.int (nx),.int (kp),.int (qt),.own 0,.own 1,.own 2]),.agg (cellsOf (.nm .command) c)] [.row 40 (.nm .sess) (se),.row 48 (.nm .opn) (op),.row 59 (.nm .snap) (sn)] ⟨[bG (State.mk v nx kp qt se op sn) c=0],[.agg ([.int (((bf (State.mk v nx kp qt se op sn) c).1.version)),.int (((bf (State.mk v nx kp qt se op sn) c).1.next)),.int (((bf (State.mk v nx kp qt se op sn) c).1.keep)),.int (((bf (State.mk v nx kp qt se op sn) c).1.quota)),.own 0,.own 1,.own 2]),.agg (cellsOf (.nm .reply) ((bf (State.mk v nx kp qt se op sn) c).2))],some ([.row 40 (.nm .sess) (((bf (State.mk v nx kp qt se op sn) c).1.sess)),.row 48 (.nm .opn) (((bf (State.mk v nx kp qt se op sn) c).1.opens)),.row 59 (.nm .snap) (((bf (State.mk v nx kp qt se op sn) c).1.snaps))]),false⟩:=by
 refine dt qi [] Try.func26 (by decide) (by kernel_rfl) ?_
 rw [zI]
 (repeat' (first | with_reducible refine And.intro ?_ ?_ | with_reducible refine and_imp.2 ?_ | intro))
 all_goals (first | (first | with_reducible rfl | with_reducible assumption | omega | (refine al ?_ ?_ <;> omega)) | exact aX (by with_reducible assumption) | exact xy (by with_reducible assumption) | exact F_ (by with_reducible assumption) | exact HE (by with_reducible assumption) (by with_reducible assumption) | (rw [Io] <;> first | rfl | with_reducible assumption | exact qf (qm (by with_reducible assumption))) | (rw [Il] <;> first | rfl | with_reducible assumption | exact qf (qm (by with_reducible assumption))) | (rw [Ih] <;> first | rfl | with_reducible assumption | exact qf (qm (by with_reducible assumption))) | (rw [Ig] <;> first | rfl | with_reducible assumption | exact qf (qm (by with_reducible assumption))) | (rw [Ie] <;> first | rfl | with_reducible assumption | exact qf (qm (by with_reducible assumption))))
def yE:cJ:=(bW 26 (bQ (aj (kG (ai cI (ai cI (ai cI (ai cI (ai (ba 0) (ai (ba 1) (ai (ba 2) bH)))))))) (aj (kT (.nm .command)) aP)) (ay (a_ 40 (.nm .sess)) (ay (a_ 48 (.nm .opn)) (ay (a_ 59 (.nm .snap)) aO))) fun ((v,nx,kp,qt,_,_,_,_),c,_) (se,op,sn,_)=>⟨[bG (State.mk v nx kp qt se op sn) c=0],[.agg ([.int (((bf (State.mk v nx kp qt se op sn) c).1.version)),.int (((bf (State.mk v nx kp qt se op sn) c).1.next)),.int (((bf (State.mk v nx kp qt se op sn) c).1.keep)),.int (((bf (State.mk v nx kp qt se op sn) c).1.quota)),.own 0,.own 1,.own 2]),.agg (cellsOf (.nm .reply) ((bf (State.mk v nx kp qt se op sn) c).2))],some ([.row 40 (.nm .sess) (((bf (State.mk v nx kp qt se op sn) c).1.sess)),.row 48 (.nm .opn) (((bf (State.mk v nx kp qt se op sn) c).1.opens)),.row 59 (.nm .snap) (((bf (State.mk v nx kp qt se op sn) c).1.snaps))]),false⟩) yk)
theorem qp:aR Try.prog (au aJ) yE:=(aC (aB (ae (GJ (ab ax (ab ax (ab ax (ab ax (ab az (ab az (ab az aE)))))))) (ae bN ao)) (ah aA (ah aA (ah aA aq))) fun ((v,nx,kp,qt,_,_,_,_),c,_) (se,op,sn,_) hp=>yS v nx kp qt c se op sn (fh hp)) qi)
end Go.Proofs.Ytdggohppeeaipaa
namespace Go.Proofs.Ytdggohppeeaipaa
open Go.RowKit
section
variable {s:State} {c:Command}
theorem E_ (h:(if mayF s s.version=0 then bM c s.version else 1)=0):bG s c=0:=h
theorem D_ (h:(if mayF s s.version=0 then bM c s.version else 1)=0):I64 (s.version+1):=by
 have h1:=(bT (rO h)).2.1
 simp only [cY,Bool.and_eq_true] at h1
 have:=oR h1.1.1.1
 constructor <;> omega
theorem Hr (h:¬ (if mayF s s.version=0 then bM c s.version else 1)=0):dP s c=(s,⟨(if mayF s s.version=0 then bM c s.version else 1),0⟩):=by
 have h:¬ bG s c=0:=h
 rw [dP,if_pos h]; rfl
theorem Gi (h:(if mayF s s.version=0 then bM c s.version else 1)=0):dP s c=if c.kind=8 then (if ¬ c.n=s.version+1 then (s,⟨1,0⟩) else ({ s with version:=c.n },⟨0,c.n⟩))
 else if c.kind=1 then (if 0<=ag Sess.client c.client s.sess then (s,⟨12,0⟩) else ({ s with sess:=eL s.sess (s.sess.takeWhile fun y=>decide (y.client<c.client)).length ⟨c.client,0,⟨0,0⟩⟩ },⟨0,0⟩))
 else bf s c:=by
 have h:¬ ¬ bG s c=0:=fun k=>k h
 rw [dP,if_neg h]
theorem ze (h:(if mayF s s.version=0 then bM c s.version else 1)=0) (k:c.kind=8) (n:¬ c.n=s.version+1):dP s c=(s,⟨1,0⟩):=by rw [Gi h,if_pos k,if_pos n]
theorem xD (h:(if mayF s s.version=0 then bM c s.version else 1)=0) (k:c.kind=8) (n:c.n=s.version+1):dP s c=({ s with version:=c.n },⟨0,c.n⟩):=by rw [Gi h,if_pos k,if_neg (fun h=>h n)]
theorem zk (h:(if mayF s s.version=0 then bM c s.version else 1)=0) (k:c.kind=1) (n:0<=ag Sess.client c.client s.sess):dP s c=(s,⟨12,0⟩):=by rw [Gi h,if_neg (by omega),if_pos k,if_pos n]
theorem yN (h:(if mayF s s.version=0 then bM c s.version else 1)=0) (k:c.kind=1) (n:ag Sess.client c.client s.sess<0):dP s c=({ s with sess:=eL s.sess (s.sess.takeWhile fun y=>decide (y.client<c.client)).length ⟨c.client,0,⟨0,0⟩⟩ },⟨0,0⟩):=by rw [Gi h,if_neg (by omega),if_pos k,if_neg (by omega)]
theorem Gn (h:(if mayF s s.version=0 then bM c s.version else 1)=0) (k:¬ c.kind=8) (n:¬ c.kind=1):dP s c=bf s c:=by rw [Gi h,if_neg k,if_neg n]
theorem cH {l:List Sess} {k:Nat} {x:Sess} (hs:k<=l.length) (ha:(l.take k).all (fun y=>decide (y.client<c.client))=true) (hb:(l.length:Int)<=k\/c.client<=(l.getD k (dflt (.nm .sess))).client):l.take k++[x]++l.drop k=eL l (l.takeWhile fun y=>decide (y.client<c.client)).length x:=by
 have:k=(l.takeWhile fun y=>decide (y.client<c.client)).length:=by
  refine xW ha hs ?_
  by_cases hl:(l.length:Int)<=k
  ·exact .inl hl
  ·refine .inr ⟨by omega,_,gd (d:=dflt (.nm .sess)) (by omega),?_⟩
   rcases hb with hb | hb
   ·omega
   ·exact decide_eq_false (by omega)
 rw [<- this]; simp [eL]
theorem zt {l:List Sess} {k:Nat} (ha:(l.take k).all (fun y=>decide (y.client<c.client))=true) (h:(k:Int)<l.length) (hb:(l.getD k (dflt (.nm .sess))).client<c.client):(l.take (k+1)).all (fun y=>decide (y.client<c.client))=true:=by
 rw [aF (gd (d:=dflt (.nm .sess)) h),List.all_append,ha]; simp only [List.all_cons,List.all_nil,decide_eq_true hb]; rfl
end
def Gt (st:State) (c:Command):List (Nat × LI):=[(15,{ σ:=Nat,F:=fun k=>([(2,one (.ptr 0 0)),(3,one (.ptr 1 0)),(4,one (.ptr 2 0)),(5,one (.ptr 3 0)),(7,one (.int k))],[.box 29 ([.int ((st.version)),.int ((st.next)),.int ((st.keep)),.int ((st.quota)),.own 4,.own 5,.own 6]),.box 42 (cellsOf (.nm .command) ((c))),.box 29 ([.int ((0)),.int ((0)),.int ((0)),.int ((0)),.em true,.em true,.em true]),.box 38 ([.int ((0)),.int ((0))]),.row 40 (.nm .sess) ((st.sess)),.row 48 (.nm .opn) ((st.opens)),.row 59 (.nm .snap) ((st.snaps))]),J:=fun k=>k<=st.sess.length/\(st.sess.take k).all (fun y=>decide (y.client<c.client))=true,μ:=fun k=>st.sess.length - k })]
theorem Gq (st:State) (c:Command) (r0:Int) (r1:Int) (r2:Int) (r3:Int) (r4:Reply) (r5:List Sess) (r6:List Opn) (r7:List Snap):th aJ yE (Gt st c) Try.f15 [.agg (cellsOf (.nm .state) st),.agg (cellsOf (.nm .command) c)] [] [.agg ([.int (r0),.int (r1),.int (r2),.int (r3),.own 0,.own 1,.own 2]),.agg (cellsOf (.nm .reply) r4)] [.row 40 (.nm .sess) (r5),.row 48 (.nm .opn) (r6),.row 59 (.nm .snap) (r7)]=((fun (q12:Reply)=>(fun (q11:den (Sh.nm NT.sess))=>(fun (q10:Prop)=>(fun (q9:Prop)=>(fun (q8:Prop)=>(fun (q7:Int)=>(fun (q6:Int)=>(fun (q5:Prop)=>(fun (q4:State)=>(fun (q3:Int)=>(fun (q2:List Sess)=>(fun (q1:Int)=>(fun (q0:Prop)=>I64 q3->I64 st.next->I64 st.keep->I64 st.quota->q2.length*(32:Nat)<=(140737488355328:Nat)->st.opens.length*(16:Nat)<=(140737488355328:Nat)->st.snaps.length*(64:Nat)<=(140737488355328:Nat)->I64 c.kind->I64 q7->I64 c.seq->I64 c.set->I64 c.id->I64 c.n->c.chunks.length*(8:Nat)<=(140737488355328:Nat)->c.text.b.length<=(140737488355328:Nat)->I64 q3->I64 st.next->I64 st.keep->I64 st.quota->I64 (if mayF st q3=q1 then bM c q3 else q6)->(¬(if mayF st q3=q1 then bM c q3 else q6)=q1->I64 (if mayF st q3=q1 then bM c q3 else q6)->I64 q1->q3=r0/\q10/\q9/\q8/\(if mayF st q3=q1 then bM c q3 else q6)=r4.code/\q1=r4.n/\q2=r5/\q5)/\((if mayF st q3=q1 then bM c q3 else q6)=q1->(c.kind=(8:Int)->I64 (q3+q6)/\(¬c.n=q3+q6->I64 q6->I64 q1->q3=r0/\q10/\q9/\q8/\q6=r4.code/\q1=r4.n/\q2=r5/\q5)/\(c.n=q3+q6->c.n=r0/\q10/\q9/\q8/\q1=r4.code/\c.n=r4.n/\q2=r5/\q5))/\(¬c.kind=(8:Int)->(c.kind=q6->I64 (ag Sess.client q7 q2)->(q1<=ag Sess.client q7 q2->I64 (12:Int)->I64 q1->q3=r0/\q10/\q9/\q8/\(12:Int)=r4.code/\q1=r4.n/\q2=r5/\q5)/\(ag Sess.client q7 q2<q1->∃ (s0:Nat),(fun (q13:Int)=>(q1=(↑s0:Int)/\q0)/\(s0<=q2.length/\((List.take s0 q2).all fun (y:Sess)=>decide (y.client<q7))=true)/\∀ (s:Nat),(fun (q15:Int)=>(fun (q14:den (Sh.nm NT.sess))=>s<=q2.length/\((List.take s q2).all fun (y:Sess)=>decide (y.client<q7))=true->(q15<q13->q1<=q15/\q15<q13)/\((q15<q13->I64 q14.client/\I64 q14.seq/\I64 q14.last.code/\I64 q14.last.n)->(q15<q13/\q14.client<q7->I64 (q15+q6)/\∃ (s':Nat),(q15+q6=(↑s':Int)/\q0)/\(s' <= q2.length/\((List.take s' q2).all fun (y:Sess)=>decide (y.client<q7))=true)/\q2.length - s' < q2.length - s)/\(q13<=q15\/q7<=q14.client->(q1<=q15/\q15<=q13)/\q2.length<(1048576:Nat)/\[Sess.mk q7 q1 (Reply.mk q1 q1)].length=(1:Nat)/\q3=r0/\q10/\q9/\q8/\q1=r4.code/\q1=r4.n/\List.take s q2++[Sess.mk q7 q1 (Reply.mk q1 q1)]++List.drop s q2=r5/\q5))) (q2.getD s q11)) (↑s:Int)) (↑q2.length:Int)))/\(¬c.kind=q6->bG st c=q1/\(I64 q4.version->I64 q4.next->I64 q4.keep->I64 q4.quota->I64 q12.code->I64 q12.n->q4.version=r0/\q4.next=r1/\q4.keep=r2/\q4.quota=r3/\q12.code=r4.code/\q12.n=r4.n/\q4.sess=r5/\q4.opens=r6/\q4.snaps=r7))))) (q3=q3/\st.next=st.next/\st.keep=st.keep/\st.quota=st.quota/\c.kind=c.kind/\q7=q7/\c.seq=c.seq/\c.set=c.set/\c.id=c.id/\c.n=c.n/\c.chunks=c.chunks/\c.text=c.text/\q1=q1/\q1=q1/\q1=q1/\q1=q1/\q1=q1/\q1=q1/\q2=q2/\st.opens=st.opens/\st.snaps=st.snaps)) (0:Int)) st.sess) st.version) (bf st c).fst) (st.opens=r6/\st.snaps=r7)) (1:Int)) c.client) (st.quota=r3)) (st.keep=r2)) (st.next=r1)) (dflt (Sh.nm NT.sess))) (bf st c).snd):=by kernel_rfl
theorem GV (st:State) (c:Command):Sat Try.prog (au aJ) 15 [.agg (cellsOf (.nm .state) st),.agg (cellsOf (.nm .command) c)] [] ⟨[],[.agg ([.int (((dP st c).1.version)),.int (((dP st c).1.next)),.int (((dP st c).1.keep)),.int (((dP st c).1.quota)),.own 0,.own 1,.own 2]),.agg (cellsOf (.nm .reply) ((dP st c).2))],some ([.row 40 (.nm .sess) (((dP st c).1.sess)),.row 48 (.nm .opn) (((dP st c).1.opens)),.row 59 (.nm .snap) (((dP st c).1.snaps))]),true⟩:=by
 refine eH qp (Gt st c) Try.func15 (by decide) (by kernel_rfl) ?_
 rw [Gq]
 (repeat' (first | with_reducible refine And.intro ?_ ?_ | with_reducible refine and_imp.2 ?_ | intro))
 all_goals try (first | (first | with_reducible rfl | with_reducible assumption | omega | (refine al ?_ ?_ <;> omega)) | exact rfl | exact E_ (by with_reducible assumption) | exact D_ (by with_reducible assumption) | exact uX (by with_reducible assumption) | exact zt (by with_reducible assumption) (by with_reducible assumption) (by with_reducible assumption) | (rw [Hr] <;> first | rfl | with_reducible assumption | exact cH (by omega) (by with_reducible assumption) (by assumption)) | (rw [ze] <;> first | rfl | with_reducible assumption | exact cH (by omega) (by with_reducible assumption) (by assumption)) | (rw [xD] <;> first | rfl | with_reducible assumption | exact cH (by omega) (by with_reducible assumption) (by assumption)) | (rw [zk] <;> first | rfl | with_reducible assumption | exact cH (by omega) (by with_reducible assumption) (by assumption)) | (rw [yN] <;> first | rfl | with_reducible assumption | exact cH (by omega) (by with_reducible assumption) (by assumption)) | (rw [Gn] <;> first | rfl | with_reducible assumption | exact cH (by omega) (by with_reducible assumption) (by assumption)))
 all_goals try (refine ⟨0,?_⟩; (repeat' (first | with_reducible refine And.intro ?_ ?_ | with_reducible refine and_imp.2 ?_ | intro)))
 all_goals try (first | (first | with_reducible rfl | with_reducible assumption | omega | (refine al ?_ ?_ <;> omega)) | exact rfl | exact E_ (by with_reducible assumption) | exact D_ (by with_reducible assumption) | exact uX (by with_reducible assumption) | exact zt (by with_reducible assumption) (by with_reducible assumption) (by with_reducible assumption) | (rw [Hr] <;> first | rfl | with_reducible assumption | exact cH (by omega) (by with_reducible assumption) (by assumption)) | (rw [ze] <;> first | rfl | with_reducible assumption | exact cH (by omega) (by with_reducible assumption) (by assumption)) | (rw [xD] <;> first | rfl | with_reducible assumption | exact cH (by omega) (by with_reducible assumption) (by assumption)) | (rw [zk] <;> first | rfl | with_reducible assumption | exact cH (by omega) (by with_reducible assumption) (by assumption)) | (rw [yN] <;> first | rfl | with_reducible assumption | exact cH (by omega) (by with_reducible assumption) (by assumption)) | (rw [Gn] <;> first | rfl | with_reducible assumption | exact cH (by omega) (by with_reducible assumption) (by assumption)))
 all_goals try (refine ⟨‹Nat› + 1,?_⟩; (repeat' (first | with_reducible refine And.intro ?_ ?_ | with_reducible refine and_imp.2 ?_ | intro)))
 all_goals (first | (first | with_reducible rfl | with_reducible assumption | omega | (refine al ?_ ?_ <;> omega)) | exact rfl | exact E_ (by with_reducible assumption) | exact D_ (by with_reducible assumption) | exact uX (by with_reducible assumption) | exact zt (by with_reducible assumption) (by with_reducible assumption) (by with_reducible assumption) | (rw [Hr] <;> first | rfl | with_reducible assumption | exact cH (by omega) (by with_reducible assumption) (by assumption)) | (rw [ze] <;> first | rfl | with_reducible assumption | exact cH (by omega) (by with_reducible assumption) (by assumption)) | (rw [xD] <;> first | rfl | with_reducible assumption | exact cH (by omega) (by with_reducible assumption) (by assumption)) | (rw [zk] <;> first | rfl | with_reducible assumption | exact cH (by omega) (by with_reducible assumption) (by assumption)) | (rw [yN] <;> first | rfl | with_reducible assumption | exact cH (by omega) (by with_reducible assumption) (by assumption)) | (rw [Gn] <;> first | rfl | with_reducible assumption | exact cH (by omega) (by with_reducible assumption) (by assumption)))
def xe:cJ:=(bW 15 (bQ (aj (kT (.nm .state)) (aj (kT (.nm .command)) aP)) aO fun (st,c,_) (_)=>⟨[],[.agg ([.int (((dP st c).1.version)),.int (((dP st c).1.next)),.int (((dP st c).1.keep)),.int (((dP st c).1.quota)),.own 0,.own 1,.own 2]),.agg (cellsOf (.nm .reply) ((dP st c).2))],some ([.row 40 (.nm .sess) (((dP st c).1.sess)),.row 48 (.nm .opn) (((dP st c).1.opens)),.row 59 (.nm .snap) (((dP st c).1.snaps))]),true⟩) yE)
theorem qE:aR Try.prog (au aJ) xe:=(aC (aB (ae bN (ae bN ao)) aq fun (st,c,_) (_) _=>GV st c ) qp)
end Go.Proofs.Ytdggohppeeaipaa
namespace Go.Proofs.Ytdggohppeeaipaa
open Go.RowKit
theorem zj  (r0:State):dq aJ xe [] Try.f8 [] [] [.agg (cellsOf (.nm .state) r0)]=((1:Int)=r0.version/\(1:Int)=r0.next/\(0:Int)=r0.keep/\(0:Int)=r0.quota/\r0.sess=[]/\r0.opens=[]/\r0.snaps=[]):=by kernel_rfl
theorem xt :Sat Try.prog (au aJ) 8 [] [] ⟨[],[.agg (cellsOf (.nm .state) (⟨1,1,0,0,[],[],[]⟩))],none,false⟩:=by
 refine aU qE [] Try.func8 (by decide) (by kernel_rfl) ?_
 rw [zj]
 (repeat' (first | with_reducible refine And.intro ?_ ?_ | with_reducible refine and_imp.2 ?_ | intro))
 all_goals (first | (first | with_reducible rfl | with_reducible assumption | omega | (refine al ?_ ?_ <;> omega)) | exact rfl)
def DF:cJ:=(bW 8 (bQ aP aO fun (_) (_)=>⟨[],[.agg (cellsOf (.nm .state) (⟨1,1,0,0,[],[],[]⟩))],none,false⟩) xe)
theorem yy:aR Try.prog (au aJ) DF:=(aC (aB ao aq fun (_) (_) _=>xt  ) qE)
end Go.Proofs.Ytdggohppeeaipaa
namespace Go.Proofs.Ytdggohppeeaipaa
open Go.RowKit
def DP:cJ:=DF
theorem Ab:aR Try.prog (au aJ) DP:=yy
end Go.Proofs.Ytdggohppeeaipaa
namespace Go.Proofs.Ytdggohppeeaipaa
open Go.RowKit
section
variable {s:State} {c:Command}
theorem fl {α:Type} {key:α->Int} {l:List α} {k:Nat} {x d:α} (hk:k<l.length) (h:key x=key (l.getD k d)):(l.set k x).map key=l.map key:=by
 rw [List.map_set,h,List.getD_eq_getElem?_getD,List.getElem?_eq_getElem hk,Option.getD_some]
 have:key l[k]=(l.map key)[k]'(by rw [List.length_map]; exact hk):=by rw [List.getElem_map]
 rw [this,List.set_getElem_self]
theorem GP (h0:mayF s s.version=0) (h:¬ bM c s.version=0):dP s c=(s,⟨bM c s.version,0⟩):=by
 have e:(if mayF s s.version=0 then bM c s.version else 1)=bM c s.version:=if_pos h0
 have:=Hr (s:=s) (c:=c) (by rw [e]; exact h)
 rwa [e] at this
theorem mU (h0:mayF s s.version=0) (h:bM c s.version=0):(if mayF s s.version=0 then bM c s.version else 1)=0:=by rw [if_pos h0]; exact h
theorem uj (h0:mayF s s.version=0) (h1:bM c s.version=0) (h3:¬ c.kind=8) (h4:¬ c.kind=1) (hk:0<=ag Sess.client c.client s.sess) (hq:c.seq=(s.sess.getD (ag Sess.client c.client s.sess).toNat (dflt (.nm .sess))).seq+1) :
  dP s c=(State.mk (bh s c).1.version (bh s c).1.next (bh s c).1.keep (bh s c).1.quota (s.sess.set (ag Sess.client c.client s.sess).toNat (Sess.mk (s.sess.getD (ag Sess.client c.client s.sess).toNat (dflt (.nm .sess))).client c.seq (bh s c).2)) (bh s c).1.opens (bh s c).1.snaps,(bh s c).2):=by
 rw [Gn (mU h0 h1) h3 h4]
 obtain ⟨v,nx,kp,qt,se,op,sn⟩:=s
 rw [Ie hk (by dsimp only at *; omega) (by dsimp only at *; omega) (by dsimp only at *; omega)]
 simp only [nE]
theorem uo (h0:mayF s s.version=0) (h1:bM c s.version=0) (h3:¬ c.kind=8) (h4:¬ c.kind=1) (h:ag Sess.client c.client s.sess<0\/¬ c.seq=(s.sess.getD (ag Sess.client c.client s.sess).toNat (dflt (.nm .sess))).seq+1):(dP s c).1=s:=by
 rw [Gn (mU h0 h1) h3 h4]
 by_cases hk:ag Sess.client c.client s.sess<0
 ·rw [show bf s c=_ from Io hk]
 ·have hk:0<=ag Sess.client c.client s.sess:=by omega
  have h:=h.resolve_left (by omega)
  by_cases e:c.seq=(s.sess.getD (ag Sess.client c.client s.sess).toNat (dflt (.nm .sess))).seq
  ·rw [show bf s c=_ from Il hk e]
  ·by_cases l:c.seq<(s.sess.getD (ag Sess.client c.client s.sess).toNat (dflt (.nm .sess))).seq
   ·rw [show bf s c=_ from Ih hk e l]
   ·rw [show bf s c=_ from Ig hk e (by omega) (by omega)]
end
end Go.Proofs.Ytdggohppeeaipaa
namespace Go.Proofs.Ytdggohppeeaipaa
open Go.RowKit
theorem dV {c:Command} {v:Int} (h:bM c v=0):(1<=v/\v<=3)/\¬ fI c.kind=0/\fI c.kind<=v/\ea c=true:=by
 unfold bM at h
 split at h
 ·cases h
 ·rename_i h1
  rw [Bool.or_eq_true,not_or] at h1
  simp only [Bool.not_eq_true',Bool.not_eq_false,decide_eq_true_eq] at h1
  split at h
  ·cases h
  ·split at h
   ·cases h
   ·rename_i h2 h3
    exact ⟨oR h1.1,h1.2,by omega,by simpa using h3⟩
theorem Ax {c:Command} {v:Int}:0<=bM c v/\bM c v<=99:=by
 unfold bM; (repeat' split) <;> omega
theorem nD {s:State} {c:Command}:0<=bG s c/\bG s c<=99:=by
 unfold bG; split
 ·exact Ax
 ·omega
theorem eS {s:State} {c:Command} (h:bG s c=0):mayF s s.version=0/\bM c s.version=0:=by
 have h1:=rO (s:=s) (c:=c) h
 refine ⟨h1,?_⟩
 unfold bG at h; rwa [if_pos h1] at h
theorem mg {s:State} {v:Int} (h1:cw v 1 3=true) (h2:cY s v=true) (h3:mO s=true) (h4:jn s=true) (h5:dw s v=true):mayF s v=0:=by
 unfold mayF; simp [h1,h2,h3,h4,h5]
theorem nJ {s:State} {v:Int} (h1:s.snaps.length<=16) (h2:ak Snap.id (s.next - 1) 0 s.snaps=true) (h3:∀ x ∈ s.snaps,bj v (dE v) x=true):dw s v=true:=by
 unfold dw
 rw [h2,decide_eq_false (by omega),List.all_eq_true.2 h3]; rfl
section
variable {α:Type} {key:α->Int} {most:Int}
theorem yx:∀ {l:List α} {a b:Int},a<=b->ak key most b l=true->ak key most a l=true
 | [],_,_,_,_=>rfl
 | x :: l,a,b,h,k=>by
  simp only [ak,Bool.and_eq_true] at k ⊢
  have:=oR k.1
  exact ⟨by unfold cw; rw [Bool.and_eq_true,decide_eq_true_eq,decide_eq_true_eq]; omega,k.2⟩
theorem pA {l l':List α} (h:l'.Sublist l):∀ {a:Int},ak key most a l=true->ak key most a l' = true:=by
 induction h with
 | slnil=>intro a _; rfl
 | cons x _ ih=>
  intro a k
  simp only [ak,Bool.and_eq_true] at k
  have:=oR k.1
  exact ih (yx (by omega) k.2)
 | cons_cons x _ ih=>
  intro a k
  simp only [ak,Bool.and_eq_true] at k ⊢
  exact ⟨k.1,ih k.2⟩
theorem fy:∀ {l:List α} {a:Int},ak key most a l=ak id most a (l.map key)
 | [],_=>rfl
 | x :: l,a=>by
  show (cw (key x) (a+1) most && ak key most (key x) l)=(cw (key x) (a+1) most && ak id most (key x) (l.map key))
  rw [fy (l:=l)]
theorem ux {x:α} {m2:Int} (hx:most<key x) (hm:key x<=m2):∀ {l:List α} {a:Int},a<=most->ak key most a l=true->ak key m2 a (l++[x])=true
 | [],a,ha,_=>by
  simp only [List.nil_append,ak,Bool.and_true]
  unfold cw; rw [Bool.and_eq_true,decide_eq_true_eq,decide_eq_true_eq]; omega
 | y :: l,a,_,k=>by
  simp only [List.cons_append,ak,Bool.and_eq_true] at k ⊢
  have:=oR k.1
  exact ⟨by unfold cw; rw [Bool.and_eq_true,decide_eq_true_eq,decide_eq_true_eq]; omega,ux hx hm (by omega) k.2⟩
theorem pI {x:α}:∀ {l:List α} {a:Int},ak key most a l=true->a<key x->key x<=most->(∀ y ∈ l,¬ key y=key x)->ak key most a (eL l (l.takeWhile fun y=>decide (key y<key x)).length x)=true
 | [],a,_,h1,h2,_=>by
  show (cw (key x) (a+1) most && true)=true
  unfold cw; simp; omega
 | y :: l,a,k,h1,h2,hn=>by
  simp only [ak,Bool.and_eq_true] at k
  have h3:=oR k.1
  have h4:=hn y (List.mem_cons_self)
  by_cases h:key y<key x
  ·have e:eL (y :: l) ((y :: l).takeWhile fun y=>decide (key y<key x)).length x=y :: eL l (l.takeWhile fun y=>decide (key y<key x)).length x:=by
    rw [List.takeWhile_cons,decide_eq_true h,if_pos rfl]; rfl
   rw [e]
   simp only [ak,Bool.and_eq_true]
   exact ⟨k.1,pI k.2 h h2 fun z hz=>hn z (List.mem_cons_of_mem _ hz)⟩
  ·have e:eL (y :: l) ((y :: l).takeWhile fun y=>decide (key y<key x)).length x=x :: y :: l:=by
    rw [List.takeWhile_cons,decide_eq_false h]; rfl
   rw [e]
   simp only [ak,Bool.and_eq_true]
   refine ⟨?_,?_,k.2⟩
   ·unfold cw; rw [Bool.and_eq_true,decide_eq_true_eq,decide_eq_true_eq]; omega
   ·unfold cw; rw [Bool.and_eq_true,decide_eq_true_eq,decide_eq_true_eq]; omega
theorem uF {l:List α} {i:Nat} {x y:α} (h:y ∈ eL l i x):y=x\/y ∈ l:=by
 unfold eL at h
 rcases List.mem_append.1 h with h | h
 ·exact .inr (List.mem_of_mem_take h)
 ·rcases List.mem_cons.1 h with h | h
  ·exact .inl h
  ·exact .inr (List.mem_of_mem_drop h)
theorem uJ {l:List α} {i:Int} (h:0<=i):(wI l i).Sublist l:=by
 unfold wI
 rw [show (i+1).toNat=i.toNat+1 by omega]
 have h1:(l.drop (i.toNat+1)).Sublist (l.drop i.toNat):=by
  rw [<- List.drop_drop]; exact List.drop_sublist 1 _
 have h2:=(List.Sublist.refl (l.take i.toNat)).append h1
 rwa [List.take_append_drop] at h2
theorem ed {want:Int} {l:List α} (h:ag key want l<0):∀ x ∈ l,¬ key x=want:=by
 refine gQ.1 ?_
 unfold ag at *
 split
 ·rename_i i hi; rw [hi] at h; dsimp only at h; omega
 ·rfl
end
theorem gA {c:Command} (h:ea c=true):(lN c.kind).1<=c.n/\c.n<=(lN c.kind).2/\Hg c=true/\Ht c=true/\fQ c.client 8 (!([(8:Int)].contains c.kind))=true/\fQ c.seq 1048576 (!([(1:Int),8].contains c.kind))=true/\fQ c.set 8 ([(2:Int),3,4].contains c.kind)=true:=by
 unfold ea at h
 simp only [Bool.and_eq_true,decide_eq_true_eq] at h
 obtain ⟨⟨⟨⟨⟨⟨⟨h1,h2⟩,h3⟩,h4⟩,h5⟩,h6⟩,h7⟩,h8⟩:=h
 exact ⟨h1,h2,h3,h4,h5,h6,h7⟩
theorem lg {c:Command} (h:ea c=true) (k:¬ c.kind=8):1<=c.client/\c.client<=8:=by
 have h1:=(gA h).2.2.2.2.1
 have e:(!([(8:Int)].contains c.kind))=true:=by simp [k]
 rw [e] at h1; unfold fQ at h1; simpa using h1
theorem Ca {c:Command} (h:ea c=true) (k:¬ c.kind=8) (k1:¬ c.kind=1):1<=c.seq/\c.seq<=1048576:=by
 have h1:=(gA h).2.2.2.2.2.1
 have e:(!([(1:Int),8].contains c.kind))=true:=by simp [k,k1]
 rw [e] at h1; unfold fQ at h1; simpa using h1
theorem uu {c:Command} (h:ea c=true) (k:c.kind=2\/c.kind=3\/c.kind=4):1<=c.set/\c.set<=8:=by
 have h1:=(gA h).2.2.2.2.2.2
 have e:([(2:Int),3,4].contains c.kind)=true:=by rcases k with k | k | k <;> rw [k] <;> decide
 rw [e] at h1; unfold fQ at h1; simpa using h1
theorem xk {c:Command} (h:ea c=true):(c.kind=8->2<=c.n/\c.n<=3)/\(c.kind=6->0<=c.n/\c.n<=8)/\(c.kind=12->0<=c.n/\c.n<=64):=by
 obtain ⟨h1,h2,_⟩:=gA h
 refine ⟨fun k=>?_,fun k=>?_,fun k=>?_⟩ <;> (rw [k] at h1 h2; exact ⟨h1,h2⟩)
theorem Cd {c:Command} (h:ea c=true) (k:c.kind=11):(c.text.b.length:Int)<=16:=by
 have h1:=(gA h).2.2.2.1
 unfold Ht at h1; rw [if_pos k] at h1; simpa using h1
theorem sd {c:Command} (h:ea c=true) (k:c.kind=3):de c.chunks=0:=by
 have h1:=(gA h).2.2.1
 unfold Hg at h1; rw [if_pos k] at h1; exact (eI h1).symm
theorem vp {l:List Snap}:distF l<=64:=BR
theorem xB {l:List Snap} {id:Int}:(fo l id).length<=64:=by
 have:=FD (l:=l) (id:=id) (k:=64) (n:=0) (Nat.le_refl _)
 unfold fo iE
 rw [List.length_map]
 refine Nat.le_trans (List.length_filter_le _ _) ?_
 simp
end Go.Proofs.Ytdggohppeeaipaa
namespace Go.Proofs.Ytdggohppeeaipaa
open Go.RowKit
theorem pF {s:State} {v:Int} (a:cw s.version 1 3=true) (b:cw s.next 1 1048576=true) (c:cw s.keep 0 8=true) (d:cw s.quota 0 (if v<3 then 0 else 64)=true):cY s v=true:=by
 unfold cY; rw [a,b,c,d]; rfl
theorem gz {s:State} {v:Int} (h:cY s v=true):cw s.version 1 3=true/\cw s.next 1 1048576=true/\cw s.keep 0 8=true/\cw s.quota 0 (if v<3 then 0 else 64)=true:=by
 unfold cY at h; simp only [Bool.and_eq_true] at h; exact ⟨h.1.1.1,h.1.1.2,h.1.2,h.2⟩
theorem yh {n a b:Int} (h1:a<=n) (h2:n<=b):cw n a b=true:=by unfold cw; rw [decide_eq_true h1,decide_eq_true h2]; rfl
theorem eX {s:State} (M:mayF s s.version=0) {nx:Int} {op:List Opn} {sn:List Snap} (hn:1<=nx/\nx<=1048576) (ho:ak Opn.set 8 0 op=true/\∀ x ∈ op,bO x=true) (h1:sn.length<=16) (h2:ak Snap.id (nx - 1) 0 sn=true) (h3:∀ x ∈ sn,bj s.version (dE s.version) x=true):mayF (State.mk s.version nx s.keep s.quota s.sess op sn) s.version=0:=by
 obtain ⟨k1,k2,k3,k4,k5⟩:=bT M
 obtain ⟨n1,n2,n3,n4⟩:=gz k2
 refine mg k1 (pF n1 (yh hn.1 hn.2) n3 n4) k3 ?_ (nJ h1 h2 h3)
 show (ak Opn.set 8 0 op && op.all bO)=true
 rw [ho.1,List.all_eq_true.2 ho.2]; rfl
theorem cS {s:State} (M:mayF s s.version=0):ak Opn.set 8 0 s.opens=true/\∀ x ∈ s.opens,bO x=true:=by
 have h:=(bT M).2.2.2.1
 simp only [jn,Bool.and_eq_true,List.all_eq_true] at h
 exact h
theorem eP {s:State} {v:Int} (M:mayF s v=0):ak Sess.client 8 0 s.sess=true/\∀ x ∈ s.sess,bF x=true:=by
 have h:=(bT M).2.2.1
 simp only [mO,Bool.and_eq_true,List.all_eq_true] at h
 exact h
theorem hP {v t:Int} {x:Snap} (h:bj v t x=true):de x.chunks=0/\cw x.set 1 8=true/\(x.held=false\/2<=v)/\((x.tag.b.length:Nat):Int)<=t:=by
 simp only [bj,Bool.and_eq_true,decide_eq_true_eq,Bool.or_eq_true,Bool.not_eq_true'] at h
 exact ⟨h.1.1.1,h.1.1.2,h.1.2,h.2⟩
theorem ky {v t:Int} {x:Snap} (h1:de x.chunks=0) (h2:cw x.set 1 8=true) (h3:x.held=false\/2<=v) (h4:((x.tag.b.length:Nat):Int)<=t):bj v t x=true:=by
 simp only [bj,Bool.and_eq_true,decide_eq_true_eq,Bool.or_eq_true,Bool.not_eq_true']
 exact ⟨⟨⟨h1,h2⟩,h3⟩,h4⟩
theorem lf {s:State} (M:mayF s s.version=0) {n:Nat} (h:n<s.snaps.length):bj s.version (dE s.version) (s.snaps.getD n (dflt (.nm .snap)))=true:=
 (fw M).2.2 _ (List.mem_of_getElem? (gd (d:=dflt (.nm .snap)) (by omega)))
theorem uC {s:State} (M:mayF s s.version=0) {n:Nat} (h:n<s.snaps.length) {x:Snap} (hi:x.id=(s.snaps.getD n (dflt (.nm .snap))).id) (hx:bj s.version (dE s.version) x=true):mayF (State.mk s.version s.next s.keep s.quota s.sess s.opens (s.snaps.set n x)) s.version=0:=by
 obtain ⟨k1,k2,k3⟩:=fw M
 refine eX M (jH M) (cS M) (by rw [List.length_set]; exact k1) ?_ fun y hy=>?_
 ·rw [fy,fl (d:=dflt (.nm .snap)) h hi,<- fy]; exact k2
 ·rcases List.mem_or_eq_of_mem_set hy with hy | rfl
  ·exact k3 y hy
  ·exact hx
structure ActOk (s:State) (r:State × Reply):Prop where
 may:mayF r.1 r.1.version=0
 ver:r.1.version=s.version
 nxt:s.next<=r.1.next/\r.1.next<=s.next+1
 code:0<=r.2.code/\r.2.code<=99
 n:0<=r.2.n/\r.2.n<=1048576
theorem ActOk.refl {s:State} (M:mayF s s.version=0) {e n:Int} (h1:0<=e/\e<=99) (h2:0<=n/\n<=1048576):ActOk s (s,⟨e,n⟩):=⟨M,rfl,⟨Int.le_refl _,by show s.next<=s.next+1; omega⟩,h1,h2⟩
theorem zF {Q:State × Reply->Prop} {s:State} {c:Command} (h0:∀ e:Int,¬ e=0->0<=e->e<=99->Q (s,⟨e,0⟩))
  (ht:bG s c=0->c.kind=11->Q (av (cG c) c s)) (hh:∀ b,bG s c=0->(b=true->c.kind=9)->(c.kind=9\/c.kind=10)->Q (av (bn b) c s)) (hl:bG s c=0->c.kind=7->Q (av bc c s)) (hp:bG s c=0->c.kind=5->Q (av aK c s))
  (hq:bG s c=0->c.kind=12->Q (cz c s)) (hk:bG s c=0->c.kind=6->Q (cZ c s)) (ha:bG s c=0->c.kind=4->Q (aW s c)) (hc:bG s c=0->c.kind=3->Q (aN s c)) (hb:bG s c=0->c.kind=2->Q (aS s c)):Q (bh s c):=by
 unfold bh
 split
 ·exact h0 _ (by assumption) nD.1 nD.2
 ·rename_i h
  have h:bG s c=0:=Classical.not_not.1 h
  unfold v_
  split
  ·exact ht h (by assumption)
  split
  ·rename_i _ k; exact hh _ h (fun e=>by cases e) (.inr k)
  split
  ·rename_i _ _ k; exact hh _ h (fun _=>k) (.inl k)
  split
  ·exact hl h (by assumption)
  split
  ·exact hp h (by assumption)
  split
  ·exact hq h (by assumption)
  split
  ·exact hk h (by assumption)
  split
  ·exact ha h (by assumption)
  split
  ·exact hc h (by assumption)
  split
  ·exact hb h (by assumption)
  ·exact h0 1 (by decide) (by decide) (by decide)
theorem fx {Q:State × Reply->Prop} {f:State->Nat->State × Reply} {s:State} {c:Command} (h0:Q (s,⟨15,0⟩)) (h:∀ n:Nat,(n:Int)=ag Snap.id c.id s.snaps->n<s.snaps.length->Q (f s n)):Q (av f c s):=by
 unfold av
 split
 ·exact h0
 ·rename_i hp
  have:=aX (key:=Snap.id) (want:=c.id) (l:=s.snaps) (by omega)
  exact h _ (by omega) (by omega)
theorem zd {s:State} {c:Command} (M:mayF s s.version=0):ActOk s (bh s c):=by
 have mk:∀ {e:Int},0<=e->e<=99->ActOk s (s,⟨e,0⟩):=fun h1 h2=>ActOk.refl M ⟨h1,h2⟩ ⟨Int.le_refl _,by decide⟩
 have one:s.next<=s.next+1:=by omega
 have z:(0:Int)<=0/\(0:Int)<=99:=by decide
 have zn:(0:Int)<=0/\(0:Int)<=1048576:=by decide
 have z1:(0:Int)<=1/\(1:Int)<=1048576:=by decide
 refine zF (fun e _ h1 h2=>mk h1 h2) (fun A k=>?_) (fun b A kb k=>?_) (fun A k=>?_) (fun A k=>?_) (fun A k=>?_) (fun A k=>?_) (fun A k=>?_) (fun A k=>?_) (fun A k=>?_)
 ·-- a tag
  obtain ⟨⟨v1,v2⟩,_,nv,F⟩:=dV (eS A).2
  refine fx (Q:=ActOk s) (mk (by decide) (by decide)) fun n hn hl=>?_
  obtain ⟨p1,p2,p3,p4⟩:=hP (lf M hl)
  rw [k,show fI 11=3 from rfl] at nv
  have tm:dE s.version=16:=by unfold dE; rw [if_neg (by omega)]
  refine ⟨uC M hl rfl (ky p1 p2 p3 ?_),rfl,⟨Int.le_refl _,one⟩,z,zn⟩
  rw [tm]; exact Cd F k
 ·-- a hold
  obtain ⟨⟨v1,v2⟩,_,nv,F⟩:=dV (eS A).2
  refine fx (Q:=ActOk s) (mk (by decide) (by decide)) fun n hn hl=>?_
  obtain ⟨p1,p2,p3,p4⟩:=hP (lf M hl)
  unfold bn
  split
  ·exact mk (by decide) (by decide)
  ·refine ⟨uC M hl rfl (ky p1 p2 (.inr ?_) p4),rfl,⟨Int.le_refl _,one⟩,z,z1⟩
   rcases k with k | k
   ·rw [k,show fI 9=2 from rfl] at nv; exact nv
   ·rw [k,show fI 10=2 from rfl] at nv; exact nv
 ·-- a look
  refine fx (Q:=ActOk s) (mk (by decide) (by decide)) fun n hn hl=>?_
  have h1:=oP (ya (lf M hl))
  exact ActOk.refl M ⟨by decide,by decide⟩ ⟨by omega,by omega⟩
 ·-- a prune
  refine fx (Q:=ActOk s) (mk (by decide) (by decide)) fun n hn hl=>?_
  unfold aK
  split
  ·exact mk (by decide) (by decide)
  split
  ·exact mk (by decide) (by decide)
  ·obtain ⟨k1,k2,k3⟩:=fw M
   have hs:(aZ (s.snaps.getD n (dflt (.nm .snap))).id s.snaps).Sublist s.snaps:=List.filter_sublist
   have hf:=xB (l:=s.snaps) (id:=(s.snaps.getD n (dflt (.nm .snap))).id)
   exact ⟨eX M (jH M) (cS M) (Nat.le_trans hs.length_le k1) (pA hs k2) fun x hx=>k3 x (hs.subset hx),rfl,⟨Int.le_refl _,one⟩,z,⟨by dsimp only; omega,by dsimp only; omega⟩⟩
 ·-- a quota
  obtain ⟨⟨v1,v2⟩,_,nv,F⟩:=dV (eS A).2
  rw [k,show fI 12=3 from rfl] at nv
  obtain ⟨k1,k2,k3,k4,k5⟩:=bT M
  obtain ⟨n1,n2,n3,n4⟩:=gz k2
  have hn:=(xk F).2.2 k
  have hd:=vp (l:=s.snaps)
  refine ⟨mg k1 (pF n1 n2 n3 ?_) k3 k4 k5,rfl,⟨Int.le_refl _,one⟩,z,⟨by show (0:Int)<=(distF s.snaps:Int); omega,by show (distF s.snaps:Int)<=1048576; omega⟩⟩
  show cw c.n 0 (if s.version<3 then 0 else 64)=true
  rw [if_neg (by omega)]; exact yh hn.1 hn.2
 ·-- a keep
  obtain ⟨_,_,_,F⟩:=dV (eS A).2
  obtain ⟨k1,k2,k3,k4,k5⟩:=bT M
  obtain ⟨n1,n2,n3,n4⟩:=gz k2
  have hn:=(xk F).2.1 k
  exact ⟨mg k1 (pF n1 n2 (yh hn.1 hn.2) n4) k3 k4 k5,rfl,⟨Int.le_refl _,one⟩,z,zn⟩
 ·-- an abort
  unfold aW
  split
  ·exact mk (by decide) (by decide)
  ·obtain ⟨k1,k2,k3⟩:=fw M
   have hs:=uJ (l:=s.opens) (i:=bB s c) (by omega)
   exact ⟨eX M (jH M) ⟨pA hs (cS M).1,fun x hx=>(cS M).2 x (hs.subset hx)⟩ k1 k2 k3,rfl,⟨Int.le_refl _,one⟩,z,zn⟩
 ·-- a commit
  obtain ⟨⟨v1,v2⟩,_,nv,F⟩:=dV (eS A).2
  unfold aN
  split
  ·exact mk (by decide) (by decide)
  split
  ·exact mk (by decide) (by decide)
  split
  ·exact mk (by decide) (by decide)
  ·rename_i o1 o2 o3
   obtain ⟨k1,k2,k3⟩:=fw M
   have hnx:=jH M
   have hs:=uJ (l:=s.opens) (i:=bB s c) (by omega)
   have hset:=uu F (.inr (.inl k))
   refine ⟨eX M ⟨by omega,by omega⟩ ⟨pA hs (cS M).1,fun x hx=>(cS M).2 x (hs.subset hx)⟩ (by rw [List.length_append]; simp only [List.length_cons,List.length_nil]; omega) ?_ fun x hx=>?_,rfl,⟨by dsimp only; omega,by dsimp only; omega⟩,z,⟨by dsimp only; omega,by dsimp only; omega⟩⟩
   ·exact ux (most:=s.next - 1) (by dsimp only; omega) (by dsimp only; omega) (by omega) k2
   ·rcases List.mem_append.1 hx with hx | hx
    ·exact k3 x hx
    ·rw [List.mem_singleton] at hx; subst hx
     refine ky (sd F k) (yh hset.1 hset.2) (.inl rfl) ?_
     show (0:Int)<=dE s.version
     unfold dE; split <;> decide
 ·-- a begin
  obtain ⟨⟨v1,v2⟩,_,nv,F⟩:=dV (eS A).2
  have hset:=uu F (.inl k)
  have hcl:=lg F (by omega)
  unfold aS
  split
  ·rename_i hp
   have hl:=aX hp
   have ho:=(cS M).2 _ (List.mem_of_getElem? (gd (d:=dflt (.nm .opn)) (k:=(ag Opn.set c.set s.opens).toNat) (l:=s.opens) (by omega)))
   have:=oR (show cw _ 1 8=true from ho)
   exact ActOk.refl M ⟨by decide,by decide⟩ ⟨by omega,by omega⟩
  ·rename_i hp
   obtain ⟨k1,k2,k3⟩:=fw M
   refine ⟨eX M (jH M) ⟨pI (x:=Opn.mk c.set c.client) (cS M).1 (by dsimp only; omega) (by dsimp only; omega) fun y hy=>ed (key:=Opn.set) (want:=c.set) (l:=s.opens) (by omega) y hy,fun x hx=>?_⟩ k1 k2 k3,rfl,⟨Int.le_refl _,one⟩,z,zn⟩
   rcases uF hx with rfl | hx
   ·exact yh hcl.1 hcl.2
   ·exact (cS M).2 x hx
end Go.Proofs.Ytdggohppeeaipaa
namespace Go.Proofs.Ytdggohppeeaipaa
open Go.RowKit
theorem nI {s:State} {v:Int} (M:mayF s v=0) {se:List Sess} (h:ak Sess.client 8 0 se=true/\∀ x ∈ se,bF x=true):mayF (State.mk s.version s.next s.keep s.quota se s.opens s.snaps) v=0:=by
 obtain ⟨k1,k2,k3,k4,k5⟩:=bT M
 refine mg k1 k2 ?_ k4 k5
 show (ak Sess.client 8 0 se && se.all bF)=true
 rw [h.1,List.all_eq_true.2 h.2]; rfl
theorem AE {s:State} {c:Command} (M:mayF s s.version=0) (h:bM c s.version=0) (k:c.kind=8) (hn:c.n=s.version+1):mayF (State.mk c.n s.next s.keep s.quota s.sess s.opens s.snaps) c.n=0:=by
 obtain ⟨⟨v1,v2⟩,_,nv,F⟩:=dV h
 have hr:=(xk F).1 k
 obtain ⟨k1,k2,k3,k4,k5⟩:=bT M
 obtain ⟨n1,n2,n3,n4⟩:=gz k2
 obtain ⟨s1,s2,s3⟩:=fw M
 have hq:=oR n4
 refine mg (yh (by omega) hr.2) (pF (yh (by dsimp only; omega) hr.2) n2 n3 ?_) k3 k4 (nJ s1 s2 fun x hx=>?_)
 ·show cw s.quota 0 (if c.n<3 then 0 else 64)=true
  refine yh hq.1 ?_
  have:=hq.2
  split at this <;> split <;> omega
 ·obtain ⟨p1,p2,p3,p4⟩:=hP (s3 x hx)
  refine ky p1 p2 (p3.imp id fun h=>by omega) (Int.le_trans p4 ?_)
  unfold dE; split <;> split <;> omega
theorem BB {s:State} {c:Command} (M:mayF s s.version=0) (h:bM c s.version=0) (k:c.kind=1) (hp:ag Sess.client c.client s.sess<0):mayF (State.mk s.version s.next s.keep s.quota (eL s.sess (s.sess.takeWhile fun y=>decide (y.client<c.client)).length ⟨c.client,0,⟨0,0⟩⟩) s.opens s.snaps) s.version=0:=by
 obtain ⟨_,_,_,F⟩:=dV h
 have hc:=lg F (by omega)
 refine nI M ⟨pI (x:=Sess.mk c.client 0 (Reply.mk 0 0)) (eP M).1 (by dsimp only; omega) (by dsimp only; omega) fun y hy=>ed (key:=Sess.client) (want:=c.client) (l:=s.sess) hp y hy,fun x hx=>?_⟩
 rcases uF hx with rfl | hx
 ·rfl
 ·exact (eP M).2 x hx
theorem Ap {s:State} {c:Command} (M:mayF s s.version=0) (h:bM c s.version=0) (h3:¬ c.kind=8) (h4:¬ c.kind=1) (hk:0<=ag Sess.client c.client s.sess):mayF (State.mk (bh s c).1.version (bh s c).1.next (bh s c).1.keep (bh s c).1.quota (s.sess.set (ag Sess.client c.client s.sess).toNat (Sess.mk (s.sess.getD (ag Sess.client c.client s.sess).toNat (dflt (.nm .sess))).client c.seq (bh s c).2)) (bh s c).1.opens (bh s c).1.snaps) (bh s c).1.version=0:=by
 obtain ⟨a1,a2,a3,a4,a5⟩:=zd (c:=c) M
 obtain ⟨_,_,_,F⟩:=dV h
 have hq:=Ca F h3 h4
 have hl:=aX hk
 have hn:(ag Sess.client c.client s.sess).toNat<s.sess.length:=by omega
 refine nI a1 ⟨?_,fun x hx=>?_⟩
 ·rw [fy,fl (d:=dflt (.nm .sess)) (x:=Sess.mk (s.sess.getD (ag Sess.client c.client s.sess).toNat (dflt (.nm .sess))).client c.seq (bh s c).2) hn rfl,<- fy]; exact (eP M).1
 ·rcases List.mem_or_eq_of_mem_set hx with hx | rfl
  ·exact (eP M).2 x hx
  ·show ((cw c.seq 0 1048576 && cw (bh s c).2.code 0 99) && cw (bh s c).2.n 0 1048576)=true
   rw [yh (n:=c.seq) (a:=0) (b:=1048576) (by omega) hq.2,yh a4.1 a4.2,yh a5.1 a5.2]; rfl
end Go.Proofs.Ytdggohppeeaipaa
namespace Go.Proofs.Ytdggohppeeaipaa
open Go.RowKit
section
variable {α:Type} {key:α->Int} {most:Int}
theorem tx:∀ {l:List α} {a:Int},ak key most a l=true->∀ x ∈ l,a<key x
 | [],_,_,_,h=>by cases h
 | y :: l,a,k,x,h=>by
  simp only [ak,Bool.and_eq_true] at k
  have h3:=oR k.1
  rcases List.mem_cons.1 h with rfl | h
  ·omega
  ·have:=tx k.2 x h; omega
theorem tP:∀ {l:List α} {a:Int},ak key most a l=true->∀ x ∈ l,∀ y ∈ l,key x=key y->x=y
 | [],_,_,_,h,_,_,_=>by cases h
 | z :: l,a,k,x,hx,y,hy,e=>by
  simp only [ak,Bool.and_eq_true] at k
  rcases List.mem_cons.1 hx with rfl | hx2
  ·rcases List.mem_cons.1 hy with rfl | hy2
   ·rfl
   ·have:=tx k.2 y hy2; omega
  ·rcases List.mem_cons.1 hy with rfl | hy2
   ·have:=tx k.2 x hx2; omega
   ·exact tP k.2 x hx2 y hy2 e
theorem gp {want:Int} {l:List α} {d:α} (h:0<=ag key want l):key (l.getD (ag key want l).toNat d)=want/\l.getD (ag key want l).toNat d ∈ l:=by
 unfold ag at *
 cases hf:l.findIdx? (fun x=>decide (key x=want)) with
 | none=>rw [hf] at h; dsimp only at h; omega
 | some i=>
  obtain ⟨hi,hp,_⟩:=List.findIdx?_eq_some_iff_getElem.1 hf
  have e:l.getD ((i:Int)).toNat d=l[i]:=by rw [Int.toNat_natCast,List.getD_eq_getElem?_getD,List.getElem?_eq_getElem hi,Option.getD_some]
  dsimp only
  rw [e]
  exact ⟨of_decide_eq_true hp,List.getElem_mem hi⟩
theorem zV {l:List α} {i:Nat} {x y:α} (h:y ∈ l):y ∈ eL l i x:=by
 unfold eL
 rw [<- List.take_append_drop i l] at h
 rcases List.mem_append.1 h with h | h
 ·exact List.mem_append.2 (.inl h)
 ·exact List.mem_append.2 (.inr (List.mem_cons_of_mem _ h))
theorem Bs {l:List α} {i:Nat} {x:α}:l.length<=(eL l i x).length:=by
 unfold eL; rw [List.length_append,List.length_cons,List.length_take,List.length_drop]; omega
end
structure DoOk (s:State) (c:Command) (r:State × Reply):Prop where
 may:mayF r.1 r.1.version=0
 ver:r.1.version=if c.kind=8/\r.2.code=0 then s.version+1 else s.version
 nxt:s.next<=r.1.next/\r.1.next<=s.next+1
 len:s.sess.length<=r.1.sess.length
 seq:∀ x ∈ s.sess,∃ y ∈ r.1.sess,y.client=x.client/\x.seq<=y.seq/\y.seq<=x.seq+1
theorem kD {s:State} (c:Command) {r:Reply} (M:mayF s s.version=0) (h:c.kind=8->¬ r.code=0):DoOk s c (s,r):=
 ⟨M,(if_neg fun hc=>h hc.1 hc.2).symm,⟨Int.le_refl _,by dsimp only; omega⟩,Nat.le_refl _,fun x hx=>⟨x,hx,rfl,Int.le_refl _,by omega⟩⟩
theorem DG {s:State} {c:Command} (M:mayF s s.version=0):DoOk s c (dP s c):=by
 by_cases h:bM c s.version=0
 ·by_cases k8:c.kind=8
  ·by_cases hn:c.n=s.version+1
   ·have e:dP s c=(State.mk c.n s.next s.keep s.quota s.sess s.opens s.snaps,⟨0,c.n⟩):=xD (mU M h) k8 hn
    rw [e]
    exact ⟨AE M h k8 hn,(hn.trans (if_pos ⟨k8,rfl⟩).symm:_),⟨Int.le_refl _,by dsimp only; omega⟩,Nat.le_refl _,fun x hx=>⟨x,hx,rfl,Int.le_refl _,by omega⟩⟩
   ·rw [ze (mU M h) k8 hn]; exact kD c M fun _=>by decide
  ·by_cases k1:c.kind=1
   ·by_cases hp:0<=ag Sess.client c.client s.sess
    ·rw [zk (mU M h) k1 hp]; exact kD c M fun k=>absurd k k8
    ·have hp:ag Sess.client c.client s.sess<0:=by omega
     rw [yN (mU M h) k1 hp]
     exact ⟨BB M h k1 hp,(if_neg fun hc=>k8 hc.1).symm,⟨Int.le_refl _,by dsimp only; omega⟩,Bs,fun x hx=>⟨x,zV hx,rfl,Int.le_refl _,by omega⟩⟩
   ·by_cases hq:0<=ag Sess.client c.client s.sess/\c.seq=(s.sess.getD (ag Sess.client c.client s.sess).toNat (dflt (.nm .sess))).seq+1
    ·obtain ⟨hk,hq⟩:=hq
     rw [uj M h k8 k1 hk hq]
     obtain ⟨a1,a2,a3,a4,a5⟩:=zd (c:=c) M
     have hl:=aX hk
     have hn:(ag Sess.client c.client s.sess).toNat<s.sess.length:=by omega
     refine ⟨Ap M h k8 k1 hk,a2.trans (if_neg fun hc=>k8 hc.1).symm,a3,by dsimp only; rw [List.length_set]; exact Nat.le_refl _,fun x hx=>?_⟩
     dsimp only
     generalize (ag Sess.client c.client s.sess).toNat=n at *
     obtain ⟨j,hj,rfl⟩:=List.getElem_of_mem hx
     by_cases hjn:j=n
     ·refine ⟨_,List.mem_set hn _,?_⟩
      rw [List.getD_eq_getElem?_getD,List.getElem?_eq_getElem hn,Option.getD_some] at hq ⊢
      subst hjn
      exact ⟨rfl,by dsimp only; omega,by dsimp only; omega⟩
     ·exact ⟨s.sess[j],List.mem_of_getElem? (i:=j) (by rw [List.getElem?_set_ne (fun hc=>hjn hc.symm),List.getElem?_eq_getElem hj]),rfl,Int.le_refl _,by omega⟩
    ·have e:=uo M h k8 k1 (by
      by_cases hk:ag Sess.client c.client s.sess<0
      ·exact .inl hk
      ·exact .inr fun hc=>hq ⟨by omega,hc⟩)
     have e2:dP s c=(s,(dP s c).2):=Prod.ext e rfl
     rw [e2]; exact kD c M fun k=>absurd k k8
 ·rw [GP M h]; exact kD c M fun _=>h
end Go.Proofs.Ytdggohppeeaipaa
namespace Go.Proofs.Ytdggohppeeaipaa
open Go.RowKit
section
variable {s:State} {c:Command}
end
end Go.Proofs.Ytdggohppeeaipaa
namespace Go.Proofs.Ytdggohppeeaipaa
open Go.RowKit
section
variable {α:Type} {key:α->Int} {most:Int}
end
section
variable {s:State} {x:Snap} {i:Nat}
end
section
variable {s:State} {x:Snap} {i:Nat}
end
section
variable {s:State} {x:Snap} {i:Nat}
end
end Go.Proofs.Ytdggohppeeaipaa
namespace Go.Proofs.Ytdggohppeeaipaa
open Go.RowKit
def keepsX (s:State) (c:Command) (r:State × Reply) (i:Nat) (x:Snap):Prop:=
 (ag Snap.id x.id r.1.snaps<0/\c.kind=5/\c.id=x.id/\x.held=false/\iF s i=false/\r.2.code=0) \/
 (0<=ag Snap.id x.id r.1.snaps/\∃ y,r.1.snaps.getD (ag Snap.id x.id r.1.snaps).toNat (dflt (.nm .snap))=y/\y.chunks=x.chunks/\y.set=x.set/\(y.held=x.held\/c.kind=9\/c.kind=10)/\(y.tag=x.tag\/c.kind=11))
structure KeepOk (s:State) (c:Command) (r:State × Reply):Prop where
 x:∀ i x,s.snaps[i]? = some x->keepsX s c r i x
 more:r.1.snaps.length<=s.snaps.length\/(r.1.snaps.length=s.snaps.length+1/\c.kind=3/\r.2.code=0/\(r.1.snaps.getD s.snaps.length (dflt (.nm .snap))).id=r.2.n/\(s.quota=0\/(distF r.1.snaps:Int)<=s.quota))
section
variable {s:State} {c:Command} {k:Nat}
end
end Go.Proofs.Ytdggohppeeaipaa
namespace Go.Proofs.Ytdggohppeeaipaa
open Go.RowKit
section
variable {α:Type} {key:α->Int} {most:Int}
def qR (key:α->Int) (l:List α) (t:Int):Option α:=l.find? fun y=>decide (key y=t)
theorem tN {l:List α} {t:Int} {x:α} (h:qR key l t=some x):key x=t/\x ∈ l:=⟨of_decide_eq_true (List.find?_some (p:=fun y=>decide (key y=t)) h),List.mem_of_find?_eq_some h⟩
theorem CX {l:List α} {a:Int} {x:α} (k:ak key most a l=true) (h:x ∈ l):qR key l (key x)=some x:=by
 cases e:qR key l (key x) with
 | none=>
  have:=List.find?_eq_none.1 e x h
  simp at this
 | some y=>
  obtain ⟨h1,h2⟩:=tN e
  rw [tP k y h2 x h h1]
theorem nr {l:List α} {t:Int} {d:α}:qR key l t=if 0<=ag key t l then some (l.getD (ag key t l).toNat d) else none:=by
 by_cases h:0<=ag key t l
 ·rw [if_pos h]
  unfold qR ag at *
  cases hf:l.findIdx? (fun x=>decide (key x=t)) with
  | none=>rw [hf] at h; dsimp only at h; omega
  | some i=>
   obtain ⟨hi,hp,hn⟩:=List.findIdx?_eq_some_iff_getElem.1 hf
   dsimp only
   rw [Int.toNat_natCast,List.getD_eq_getElem?_getD,List.getElem?_eq_getElem hi,Option.getD_some]
   rw [List.find?_eq_some_iff_getElem]
   exact ⟨hp,i,hi,rfl,fun j hj=>by simpa using hn j hj⟩
 ·rw [if_neg h]
  have:=ed (key:=key) (want:=t) (l:=l) (by omega)
  exact List.find?_eq_none.2 fun x hx=>by simpa using this x hx
theorem Bu {l:List α} {i:Nat} {x:α} (h:ag key (key x) l<0) (t:Int):qR key (eL l i x) t=if t=key x then some x else qR key l t:=by
 have n:=ed h
 unfold qR eL
 rw [List.find?_append,List.find?_cons]
 by_cases e:t=key x
 ·subst e
  rw [if_pos rfl,decide_eq_true rfl]
  have:(l.take i).find? (fun y=>decide (key y=key x))=none:=List.find?_eq_none.2 fun y hy=>by simpa using n y (List.mem_of_mem_take hy)
  rw [this]; rfl
 ·rw [if_neg e,decide_eq_false (fun h=>e h.symm)]
  conv=>rhs; rw [<- List.take_append_drop i l,List.find?_append]
theorem Bn {l:List α} {a:Int} {t:Int} {x:α} (k:ak key most a l=true) (h:0<=ag key t l) (hx:key x=t):ak key most a (l.set (ag key t l).toNat x)=true:=by
 have hl:=aX h
 have hn:(ag key t l).toNat<l.length:=by omega
 have pk:=gp (d:=l[(ag key t l).toNat]) h
 rw [fy,fl (d:=l[(ag key t l).toNat]) hn (hx.trans pk.1.symm),<- fy]; exact k
theorem Bp {l:List α} {a:Int} {t:Int} {x:α} (k:ak key most a l=true) (h:0<=ag key t l) (hx:key x=t) (u:Int):qR key (l.set (ag key t l).toNat x) u=if u=t then some x else qR key l u:=by
 have hl:=aX h
 have hn:(ag key t l).toNat<l.length:=by omega
 have pk:=gp (d:=l[(ag key t l).toNat]) h
 have ks:=Bn k h hx
 by_cases hu:u=t
 ·subst hu
  rw [if_pos rfl]
  have:=CX ks (List.mem_set hn x)
  rwa [hx] at this
 ·rw [if_neg hu]
  rw [List.getD_eq_getElem?_getD,List.getElem?_eq_getElem hn,Option.getD_some] at pk
  have e:l=l.take (ag key t l).toNat++l[(ag key t l).toNat] :: l.drop ((ag key t l).toNat+1):=by
   rw [List.getElem_cons_drop hn,List.take_append_drop]
  unfold qR
  rw [List.set_eq_take_append_cons_drop,if_pos hn]
  conv=>rhs; rw [e,List.find?_append,List.find?_cons]
  rw [List.find?_append,List.find?_cons,decide_eq_false (show ¬ key l[(ag key t l).toNat]=u from fun h=>hu (h.symm.trans pk.1)),decide_eq_false (show ¬ key x=u from fun h=>hu (h.symm.trans hx))]
end
section
variable {s:State} {c:Command}
end
end Go.Proofs.Ytdggohppeeaipaa
namespace Go.Proofs.Ytdggohppeeaipaa
open Go.RowKit
end Go.Proofs.Ytdggohppeeaipaa
namespace Go.Proofs.Ytdggohppeeaipaa
open Go.RowKit
section
variable {α:Type} {key:α->Int} {x y d:α}
variable {l:List α} {k:Nat}
end
def DQ:cJ:=DP
theorem xu:aR Try.prog (au aJ) DQ:=Ab
end Go.Proofs.Ytdggohppeeaipaa
namespace Go.Proofs.Ytdggohppeeaipaa
open Go.RowKit
section
variable {st:State} {c:Command}
variable {i:Int} {x:Snap}
end
def DR:cJ:=DQ
theorem AD:aR Try.prog (au aJ) DR:=xu
end Go.Proofs.Ytdggohppeeaipaa
namespace Go.Proofs.Ytdggohppeeaipaa
open Go.RowKit
section
variable {st:State} {c:Command}
end
def DH:cJ:=DR
theorem Al:aR Try.prog (au aJ) DH:=AD
end Go.Proofs.Ytdggohppeeaipaa
namespace Go.Proofs.Ytdggohppeeaipaa
open Go.RowKit
section
variable {st:State} {c:Command}
end
def Dm:cJ:=DH
theorem zD:aR Try.prog (au aJ) Dm:=Al
end Go.Proofs.Ytdggohppeeaipaa
namespace Go.Proofs.Ytdggohppeeaipaa
open Go.RowKit
section
variable {l:List Int} {k:Nat} {x:Int}
end
def DN:cJ:=Dm
theorem xT:aR Try.prog (au aJ) DN:=zD
end Go.Proofs.Ytdggohppeeaipaa
namespace Go.Proofs.Ytdggohppeeaipaa
open Go.RowKit
section
variable {st:State} {v:Int}
end
def DA:cJ:=DN
theorem xE:aR Try.prog (au aJ) DA:=xT
end Go.Proofs.Ytdggohppeeaipaa
namespace Go.Proofs.Ytdggohppeeaipaa
open Go.RowKit
def DJ:cJ:=DA
theorem zr:aR Try.prog (au aJ) DJ:=xE
end Go.Proofs.Ytdggohppeeaipaa
namespace Go.Proofs.Ytdggohppeeaipaa
open Go.RowKit
def DB:cJ:=DJ
theorem yr:aR Try.prog (au aJ) DB:=zr
end Go.Proofs.Ytdggohppeeaipaa
namespace Go.Proofs.Ytdggohppeeaipaa
open Go.RowKit
def Dg:cJ:=DB
theorem xJ:aR Try.prog (au aJ) Dg:=yr
end Go.Proofs.Ytdggohppeeaipaa
namespace Go.Proofs.Ytdggohppeeaipaa
open Go.RowKit
def DO:cJ:=Dg
theorem xo:aR Try.prog (au aJ) DO:=xJ
end Go.Proofs.Ytdggohppeeaipaa
namespace Go.Proofs.Ytdggohppeeaipaa
open Go.RowKit
def rQ:cJ:=DO
theorem iO:aR Try.prog (au aJ) rQ:=xo
end Go.Proofs.Ytdggohppeeaipaa
namespace Go.Proofs.Ytdggohppeeaipaa
open Go.RowKit
end Go.Proofs.Ytdggohppeeaipaa
namespace Go.Proofs.Ytdggohppeeaipaa
open Go.RowKit
def bw (s:State) (l:List Command):State:=l.foldl (fun s c=>(dP s c).1) s
def db (s:State):List Command->List Reply
 | []=>[]
 | c :: l=>(dP s c).2 :: db (dP s c).1 l
def ct (l:List Command):List Command:=(l.take 40).map hX
section
variable {s:State} {l:List Command} {x:Command} {k:Nat}
theorem pR:∀ {l:List Command} {s:State},db s (l++[x])=db s l++[(dP (bw s l) x).2]
 | [],_=>rfl
 | c :: l,s=>by
  show (dP s c).2 :: db (dP s c).1 (l++[x])=(dP s c).2 :: (db (dP s c).1 l++[(dP (bw (dP s c).1 l) x).2])
  rw [pR]
theorem bY (hx:l[k]? = some x):(dP (bw s (l.take k)) x).1=bw s (l.take (k+1)):=by
 rw [aF hx]; unfold bw; rw [List.foldl_append]; rfl
theorem sT (hx:l[k]? = some x):db s (l.take k)++[(dP (bw s (l.take k)) x).2]=db s (l.take (k+1)):=by
 rw [aF hx,pR]
theorem tz:∀ {l:List Command} {s:State},(db s l).length=l.length
 | [],_=>rfl
 | c :: l,s=>by
  show (db (dP s c).1 l).length+1=l.length+1
  rw [tz]
end
section
variable {s:State} {l:List Command} {x:Command} {k:Nat} {d:Command}
theorem Am (h:(k:Int)<l.length):(dP (bw s (l.take k)) (l.getD k d)).1=bw s (l.take (k+1)):=bY (gd h)
theorem sY {y:Reply} (h:(k:Int)<l.length) (hl:l.length*88<=140737488355328):((db s (l.take k)).length+[y].length)*16<=140737488355328:=by
 rw [tz,List.length_take]; simp only [List.length_cons,List.length_nil]; omega
theorem Eg (h:(l.length:Int)<=k):l.take k=l:=List.take_of_length_le (by omega)
end
def b_:List Command:=[Command.mk 1 1 0 0 0 0 [] (Str.mk []),Command.mk 2 1 1 2 0 0 [] (Str.mk []),Command.mk 2 1 1 2 0 0 [] (Str.mk [])]
theorem Aa {l:List Command} {x:Command} {k:Nat} (hx:l[k]? = some x):(l.take k).map hX++[hX x]=(l.take (k+1)).map hX:=by
 rw [aF hx,List.map_append]; rfl
theorem EF {l:List Command} {k:Nat} (h:k<=40) (h2:(l.length:Int)<=k\/40<=(k:Int)):(l.take k).map hX=ct l:=by
 unfold ct
 by_cases e:k=40
 ·rw [e]
 ·rw [List.take_of_length_le (by omega),List.take_of_length_le (by omega)]
end Go.Proofs.Ytdggohppeeaipaa
namespace Go.Proofs.Ytdggohppeeaipaa
open Go.RowKit
def Dl (st:State) (l:List Command):List (Nat × LI):=[(4,{ σ:=Nat,F:=fun k=>([(2,one (.ptr 0 0)),(4,one (.ptr 1 0)),(6,one (.own 5)),(12,one (.fz (.nm .command) (l))),(13,one (.int (l).length)),(14,one (.int k))],[.box 29 ([.int ((((bw st (l.take k))).version)),.int ((((bw st (l.take k))).next)),.int ((((bw st (l.take k))).keep)),.int ((((bw st (l.take k))).quota)),.own 2,.own 3,.own 4]),.box 29 ([.int ((0)),.int ((0)),.int ((0)),.int ((0)),.em true,.em true,.em true]),.row 40 (.nm .sess) (((bw st (l.take k)).sess)),.row 48 (.nm .opn) (((bw st (l.take k)).opens)),.row 59 (.nm .snap) (((bw st (l.take k)).snaps)),.row 38 (.nm .reply) ((db st (l.take k)))]),J:=fun k=>k<=l.length,μ:=fun k=>l.length - k })]
theorem CC (c:Command) (r0:Command):dq aJ rQ [] Try.f13 [.agg (cellsOf (.nm .command) c)] [] [.agg (cellsOf (.nm .command) r0)]=((fun (q10:Prop)=>(fun (q9:Prop)=>(fun (q8:Prop)=>(fun (q7:Prop)=>(fun (q6:Nat)=>(fun (q5:Prop)=>(fun (q4:Prop)=>(fun (q3:Int)=>(fun (q2:Prop)=>(fun (q1:Prop)=>(fun (q0:Int)=>I64 c.kind->I64 c.client->I64 c.seq->I64 c.set->I64 c.id->I64 c.n->q6*(8:Nat)<=(140737488355328:Nat)->c.text.b.length<=(140737488355328:Nat)->((12:Int)<(↑q6:Int)->(0:Int)<=(12:Int)/\(12:Int)<=(↑q6:Int)/\(q3<q0->(0:Int)<=q3/\q3<=q0/\q2/\q1/\q4/\q5/\q7/\q10/\q9/\q8)/\(q0<=q3->q2/\q1/\q4/\q5/\q7/\q10/\q9/\c.text=r0.text))/\((↑q6:Int)<=(12:Int)->(q3<q0->(0:Int)<=q3/\q3<=q0/\q2/\q1/\q4/\q5/\q7/\q10/\c.chunks=r0.chunks/\q8)/\(q0<=q3->q2/\q1/\q4/\q5/\q7/\q10/\c.chunks=r0.chunks/\c.text=r0.text))) (↑c.text.b.length:Int)) (c.client=r0.client)) (c.kind=r0.kind)) (40:Int)) (c.seq=r0.seq)) (c.set=r0.set)) c.chunks.length) (c.id=r0.id)) (Str.mk (List.take (40:Nat) c.text.b)=r0.text)) (List.take (12:Nat) c.chunks=r0.chunks)) (c.n=r0.n)):=by kernel_rfl
theorem Db (c:Command):Sat Try.prog (au aJ) 13 [.agg (cellsOf (.nm .command) c)] [] ⟨[],[.agg (cellsOf (.nm .command) (hX c))],none,false⟩:=by
 refine aU iO [] Try.func13 (by decide) (by kernel_rfl) ?_
 rw [CC]
 simp only [hX,Str.cut]; (repeat' (first | refine And.intro ?_ ?_ | intro)) <;> first | trivial | rfl | omega | (symm; exact List.take_of_length_le (by omega)) | exact zu (by omega)
theorem Ct  (r0:List Command):dq aJ rQ [] Try.f12 [] [] [.c (.fz (.nm .command) (r0))]=((fun (q1:Int)=>(fun (q0:Command)=>[Command.mk (1:Int) (1:Int) q1 q1 q1 q1 [] (Str.mk []),q0,q0]=r0) (Command.mk (2:Int) (1:Int) (1:Int) (2:Int) q1 q1 [] (Str.mk []))) (0:Int)):=by kernel_rfl
theorem Cf :Sat Try.prog (au aJ) 12 [] [] ⟨[],[.c (.fz (.nm .command) ((b_)))],none,false⟩:=by
 refine aU iO [] Try.func12 (by decide) (by kernel_rfl) ?_
 rw [Ct]
 (repeat' (first | with_reducible refine And.intro ?_ ?_ | with_reducible refine and_imp.2 ?_ | intro))
 all_goals (first | (first | with_reducible rfl | with_reducible assumption | omega | (refine al ?_ ?_ <;> omega)) | rfl)
theorem Fl (st:State) (l:List Command) (r0:Int) (r1:Int) (r2:Int) (r3:Int) (r4:List Sess) (r5:List Opn) (r6:List Snap) (r7:List Reply):th aJ rQ (Dl st l) Try.f7 [.agg (cellsOf (.nm .state) st),.c (.fz (.nm .command) (l))] [] [.agg ([.int (r0),.int (r1),.int (r2),.int (r3),.own 0,.own 1,.own 2]),.c (.own 3)] [.row 40 (.nm .sess) (r4),.row 48 (.nm .opn) (r5),.row 59 (.nm .snap) (r6),.row 38 (.nm .reply) (r7)]=((fun (q2:Nat)=>(fun (q1:Nat)=>(fun (q0:Prop)=>I64 st.version->I64 st.next->I64 st.keep->I64 st.quota->st.sess.length*(32:Nat)<=q2->st.opens.length*(16:Nat)<=q2->st.snaps.length*(64:Nat)<=q2->l.length*(88:Nat)<=q2->I64 st.version->I64 st.next->I64 st.keep->I64 st.quota->∃ (s0:Nat),(fun (q3:State)=>(l=l/\(↑l.length:Int)=(↑q1:Int)/\(0:Int)=(↑s0:Int)/\st.version=q3.version/\st.next=q3.next/\st.keep=q3.keep/\st.quota=q3.quota/\q0/\q0/\q0/\q0/\st.sess=q3.sess/\st.opens=q3.opens/\st.snaps=q3.snaps/\db st (List.take s0 l)=[])/\s0<=q1/\∀ (s:Nat),(fun (q4:State)=>s<=q1->((↑s:Int)<(↑q1:Int)->(0:Int)<=(↑s:Int)/\(↑s:Int)<(↑l.length:Int)/\∀ (x:Command),(fun (q6:Reply)=>(fun (q5:State)=>l[s]? = some x->I64 x.kind->I64 x.client->I64 x.seq->I64 x.set->I64 x.id->I64 x.n->x.chunks.length*(8:Nat)<=q2->x.text.b.length<=q2->I64 q5.version->I64 q5.next->I64 q5.keep->I64 q5.quota->I64 q6.code->I64 q6.n->((db st (List.take s l)).length+[q6].length)*(16:Nat)<=q2/\I64 ((↑s:Int)+(1:Int))/\∃ (s':Nat),(fun (q7:State)=>(l=l/\(↑q1:Int)=(↑q1:Int)/\(↑s:Int)+(1:Int)=(↑s':Int)/\q5.version=q7.version/\q5.next=q7.next/\q5.keep=q7.keep/\q5.quota=q7.quota/\q0/\q0/\q0/\q0/\q5.sess=q7.sess/\q5.opens=q7.opens/\q5.snaps=q7.snaps/\db st (List.take s l)++[q6]=db st (List.take s' l))/\s' <= q1/\q1 - s' < q1 - s) (bw st (List.take s' l))) (dP q4 x).fst) (dP q4 x).snd)/\((↑q1:Int)<=(↑s:Int)->q4.version=r0/\q4.next=r1/\q4.keep=r2/\q4.quota=r3/\q4.sess=r4/\q4.opens=r5/\q4.snaps=r6/\db st (List.take s l)=r7)) (bw st (List.take s l))) (bw st (List.take s0 l))) ((0:Int)=(0:Int))) l.length) (140737488355328:Nat)):=by kernel_rfl
theorem EZ (st:State) (l:List Command):Sat Try.prog (au aJ) 7 [.agg (cellsOf (.nm .state) st),.c (.fz (.nm .command) (l))] [] ⟨[],[.agg ([.int (((bw st l).version)),.int (((bw st l).next)),.int (((bw st l).keep)),.int (((bw st l).quota)),.own 0,.own 1,.own 2]),.c (.own 3)],some ([.row 40 (.nm .sess) (((bw st l).sess)),.row 48 (.nm .opn) (((bw st l).opens)),.row 59 (.nm .snap) (((bw st l).snaps)),.row 38 (.nm .reply) ((db st l))]),true⟩:=by
 refine eH iO (Dl st l) Try.func7 (by decide) (by kernel_rfl) ?_
 rw [Fl]
 (repeat' (first | with_reducible refine And.intro ?_ ?_ | with_reducible refine and_imp.2 ?_ | intro))
 all_goals try (first | (first | with_reducible rfl | with_reducible assumption | omega | (refine al ?_ ?_ <;> omega)) | exact rfl | exact (congrArg State.version (bY (by with_reducible assumption))) | exact (congrArg State.next (bY (by with_reducible assumption))) | exact (congrArg State.keep (bY (by with_reducible assumption))) | exact (congrArg State.quota (bY (by with_reducible assumption))) | exact (congrArg State.sess (bY (by with_reducible assumption))) | exact (congrArg State.opens (bY (by with_reducible assumption))) | exact (congrArg State.snaps (bY (by with_reducible assumption))) | exact (sT (by with_reducible assumption)) | exact (sY (by with_reducible assumption) (by with_reducible assumption)) | (rw [Eg (by omega)]; done))
 all_goals try (refine ⟨0,?_⟩; (repeat' (first | with_reducible refine And.intro ?_ ?_ | with_reducible refine and_imp.2 ?_ | intro)))
 all_goals try (first | (first | with_reducible rfl | with_reducible assumption | omega | (refine al ?_ ?_ <;> omega)) | exact rfl | exact (congrArg State.version (bY (by with_reducible assumption))) | exact (congrArg State.next (bY (by with_reducible assumption))) | exact (congrArg State.keep (bY (by with_reducible assumption))) | exact (congrArg State.quota (bY (by with_reducible assumption))) | exact (congrArg State.sess (bY (by with_reducible assumption))) | exact (congrArg State.opens (bY (by with_reducible assumption))) | exact (congrArg State.snaps (bY (by with_reducible assumption))) | exact (sT (by with_reducible assumption)) | exact (sY (by with_reducible assumption) (by with_reducible assumption)) | (rw [Eg (by omega)]; done))
 all_goals try (refine ⟨‹Nat› + 1,?_⟩; (repeat' (first | with_reducible refine And.intro ?_ ?_ | with_reducible refine and_imp.2 ?_ | intro)))
 all_goals (first | (first | with_reducible rfl | with_reducible assumption | omega | (refine al ?_ ?_ <;> omega)) | exact rfl | exact (congrArg State.version (bY (by with_reducible assumption))) | exact (congrArg State.next (bY (by with_reducible assumption))) | exact (congrArg State.keep (bY (by with_reducible assumption))) | exact (congrArg State.quota (bY (by with_reducible assumption))) | exact (congrArg State.sess (bY (by with_reducible assumption))) | exact (congrArg State.opens (bY (by with_reducible assumption))) | exact (congrArg State.snaps (bY (by with_reducible assumption))) | exact (sT (by with_reducible assumption)) | exact (sY (by with_reducible assumption) (by with_reducible assumption)) | (rw [Eg (by omega)]; done))
def tW:cJ:=(bW 7 (bQ (aj (kT (.nm .state)) (aj (kC (cL (.nm .command))) aP)) aO fun (st,l,_) (_)=>⟨[],[.agg ([.int (((bw st l).version)),.int (((bw st l).next)),.int (((bw st l).keep)),.int (((bw st l).quota)),.own 0,.own 1,.own 2]),.c (.own 3)],some ([.row 40 (.nm .sess) (((bw st l).sess)),.row 48 (.nm .opn) (((bw st l).opens)),.row 59 (.nm .snap) (((bw st l).snaps)),.row 38 (.nm .reply) ((db st l))]),true⟩) (bW 12 (bQ aP aO fun (_) (_)=>⟨[],[.c (.fz (.nm .command) ((b_)))],none,false⟩) (bW 13 (bQ (aj (kT (.nm .command)) aP) aO fun (c,_) (_)=>⟨[],[.agg (cellsOf (.nm .command) (hX c))],none,false⟩) rQ)))
theorem lr:aR Try.prog (au aJ) tW:=(aC (aB (ae bN (ae (aw bR) ao)) aq fun (st,l,_) (_) _=>EZ st l ) (aC (aB ao aq fun (_) (_) _=>Cf  ) (aC (aB (ae bN ao) aq fun (c,_) (_) _=>Db c ) iO)))
end Go.Proofs.Ytdggohppeeaipaa
namespace Go.Proofs.Ytdggohppeeaipaa
open Go.RowKit
theorem Ia:bw (State.mk 1 1 0 0 [] [] []) b_=State.mk 1 1 0 0 [Sess.mk 1 1 (Reply.mk 0 0)] [Opn.mk 2 1] []:=by kernel_rfl
theorem Hv:db (State.mk 1 1 0 0 [] [] []) b_=[Reply.mk 0 0,Reply.mk 0 0,Reply.mk 0 0]:=by kernel_rfl
def zf (l:List Command):List (Nat × LI):=[(3,{ σ:=Nat,F:=fun k=>([(0,one (.fz (.nm .command) (l))),(3,one (.own 0)),(4,one (.int k))],[.row 42 (.nm .command) (((l.take k).map hX))]),J:=fun k=>k<=l.length/\k<=40,μ:=fun k=>l.length - k })]
theorem CT (l:List Command) (r0:List Command):dq aJ tW (zf l) Try.f6 [.c (.fz (.nm .command) (l))] [] [.c (.fz (.nm .command) (r0))]=((fun (q0:Nat)=>l.length*(88:Nat)<=q0->∃ (s0:Nat),(l=l/\(0:Int)=(↑s0:Int)/\List.map hX (List.take s0 l)=[])/\(s0<=l.length/\s0<=(40:Nat))/\∀ (s:Nat),s<=l.length/\s<=(40:Nat)->((↑s:Int)<(↑l.length:Int)/\(↑s:Int)<(40:Int)->(0:Int)<=(↑s:Int)/\(↑s:Int)<(↑l.length:Int)/\∀ (x:Command),(fun (q1:Command)=>l[s]? = some x->I64 x.kind->I64 x.client->I64 x.seq->I64 x.set->I64 x.id->I64 x.n->x.chunks.length*(8:Nat)<=q0->x.text.b.length<=q0->I64 q1.kind->I64 q1.client->I64 q1.seq->I64 q1.set->I64 q1.id->I64 q1.n->q1.chunks.length*(8:Nat)<=q0->q1.text.b.length<=q0->((List.map hX (List.take s l)).length+[q1].length)*(88:Nat)<=q0/\I64 ((↑s:Int)+(1:Int))/\∃ (s':Nat),(l=l/\(↑s:Int)+(1:Int)=(↑s':Int)/\List.map hX (List.take s l)++[q1]=List.map hX (List.take s' l))/\(s' <= l.length/\s' <= (40:Nat))/\l.length - s' < l.length - s) (hX x))/\((↑l.length:Int)<=(↑s:Int)\/(40:Int)<=(↑s:Int)->List.map hX (List.take s l)=r0)) (140737488355328:Nat)):=by kernel_rfl
theorem BY (l:List Command):Sat Try.prog (au aJ) 6 [.c (.fz (.nm .command) (l))] [] ⟨[],[.c (.fz (.nm .command) ((ct l)))],none,false⟩:=by
 refine aU lr (zf l) Try.func6 (by decide) (by kernel_rfl) ?_
 rw [CT]
 (repeat' (first | with_reducible refine And.intro ?_ ?_ | with_reducible refine and_imp.2 ?_ | intro))
 all_goals try (first | (first | with_reducible rfl | with_reducible assumption | omega | (refine al ?_ ?_ <;> omega)) | exact rfl | exact (Aa (by with_reducible assumption)) | exact (EF (by omega) (by omega)) | (simp only [List.length_map,List.length_take,List.length_cons,List.length_nil]; omega))
 all_goals try (refine ⟨0,?_⟩; (repeat' (first | with_reducible refine And.intro ?_ ?_ | with_reducible refine and_imp.2 ?_ | intro)))
 all_goals try (first | (first | with_reducible rfl | with_reducible assumption | omega | (refine al ?_ ?_ <;> omega)) | exact rfl | exact (Aa (by with_reducible assumption)) | exact (EF (by omega) (by omega)) | (simp only [List.length_map,List.length_take,List.length_cons,List.length_nil]; omega))
 all_goals try (refine ⟨‹Nat› + 1,?_⟩; (repeat' (first | with_reducible refine And.intro ?_ ?_ | with_reducible refine and_imp.2 ?_ | intro)))
 all_goals (first | (first | with_reducible rfl | with_reducible assumption | omega | (refine al ?_ ?_ <;> omega)) | exact rfl | exact (Aa (by with_reducible assumption)) | exact (EF (by omega) (by omega)) | (simp only [List.length_map,List.length_take,List.length_cons,List.length_nil]; omega))
theorem wi  (r0:Bool):dq aJ tW [] Try.f5 [] [] [.c (.bool (.atom (r0)))]=((fun (q6:Int)=>(fun (q5:Int)=>(fun (q4:Nat)=>(fun (q3:Nat)=>(fun (q2:Int)=>(fun (q1:den (Sh.nm NT.reply))=>(fun (q0:State)=>I64 q5->I64 q5->I64 q2->I64 q2->(0:Nat)*(32:Nat)<=(140737488355328:Nat)->(0:Nat)*(16:Nat)<=(140737488355328:Nat)->(0:Nat)*(64:Nat)<=(140737488355328:Nat)->b_.length*(88:Nat)<=(140737488355328:Nat)->I64 (bw q0 b_).version->I64 (bw q0 b_).next->I64 (bw q0 b_).keep->I64 (bw q0 b_).quota->((↑(db q0 b_).length:Int)=q6->q2<=q2/\q2<(↑(db q0 b_).length:Int))/\(((↑(db q0 b_).length:Int)=q6->I64 ((db q0 b_).getD q3 q1).code/\I64 ((db q0 b_).getD q3 q1).n)->((↑(db q0 b_).length:Int)=q6/\((db q0 b_).getD q3 q1).code=q2/\((db q0 b_).getD q3 q1).n=q2->q2<=(2:Int)/\(2:Int)<(↑(db q0 b_).length:Int))/\(((↑(db q0 b_).length:Int)=q6/\((db q0 b_).getD q3 q1).code=q2/\((db q0 b_).getD q3 q1).n=q2->I64 ((db q0 b_).getD q4 q1).code/\I64 ((db q0 b_).getD q4 q1).n)->((((↑(db q0 b_).length:Int)=q6/\((db q0 b_).getD q3 q1).code=q2/\((db q0 b_).getD q3 q1).n=q2)/\((db q0 b_).getD q4 q1).code=q2/\((db q0 b_).getD q4 q1).n=q2)/\(↑(bw q0 b_).opens.length:Int)=q5->q2<=q2/\q2<(↑(bw q0 b_).opens.length:Int))/\(((((↑(db q0 b_).length:Int)=q6/\((db q0 b_).getD q3 q1).code=q2/\((db q0 b_).getD q3 q1).n=q2)/\((db q0 b_).getD q4 q1).code=q2/\((db q0 b_).getD q4 q1).n=q2)/\(↑(bw q0 b_).opens.length:Int)=q5->I64 ((bw q0 b_).opens.getD q3 (dflt (Sh.nm NT.opn))).set/\I64 ((bw q0 b_).opens.getD q3 (dflt (Sh.nm NT.opn))).client)->(decide ((↑(db q0 b_).length:Int)=q6) && (decide (((db q0 b_).getD q3 q1).code=q2) && decide (((db q0 b_).getD q3 q1).n=q2)) && (decide (((db q0 b_).getD q4 q1).code=q2) && decide (((db q0 b_).getD q4 q1).n=q2)) && decide ((↑(bw q0 b_).opens.length:Int)=q5) && decide (((bw q0 b_).opens.getD q3 (dflt (Sh.nm NT.opn))).set=(2:Int)))=r0)))) (State.mk q5 q5 q2 q2 [] [] [])) (dflt (Sh.nm NT.reply))) (0:Int)) (0:Nat)) (2:Nat)) (1:Int)) (3:Int)):=by kernel_rfl
theorem wR :Sat Try.prog (au aJ) 5 [] [] ⟨[],[.c (.bool (.atom ((true))))],none,false⟩:=by
 refine aU lr [] Try.func5 (by decide) (by kernel_rfl) ?_
 rw [wi]
 simp only [Ia,Hv]
 (repeat' (first | with_reducible refine And.intro ?_ ?_ | with_reducible refine and_imp.2 ?_ | intro))
 all_goals first | (first | with_reducible rfl | with_reducible assumption | omega | (refine al ?_ ?_ <;> omega)) | decide | rfl
def Dk:cJ:=(bW 5 (bQ aP aO fun (_) (_)=>⟨[],[.c (.bool (.atom ((true))))],none,false⟩) (bW 6 (bQ (aj (kC (cL (.nm .command))) aP) aO fun (l,_) (_)=>⟨[],[.c (.fz (.nm .command) ((ct l)))],none,false⟩) tW))
theorem yD:aR Try.prog (au aJ) Dk:=(aC (aB ao aq fun (_) (_) _=>wR  ) (aC (aB (ae (aw bR) ao) aq fun (l,_) (_) _=>BY l ) lr))
end Go.Proofs.Ytdggohppeeaipaa
namespace Go.Proofs.Ytdggohppeeaipaa
open Go.RowKit
theorem aY:mayF (State.mk 1 1 0 0 [] [] []) 1=0:=by kernel_rfl
theorem mE:∀ {l:List Command} {s:State},mayF s s.version=0->mayF (bw s l) (bw s l).version=0
 | [],_,M=>M
 | c :: l,s,M=>mE (l:=l) (DG (c:=c) M).may
section
variable {s:State} {c:Command}
def cn (s:State) (t:Int):Int:=match qR Sess.client s.sess t with
 | some y=>y.seq
 | none=>0
theorem oB {t:Int} {d:Sess} (h:0<=ag Sess.client t s.sess):cn s t=(s.sess.getD (ag Sess.client t s.sess).toNat d).seq:=by
 unfold cn; rw [nr (d:=d),if_pos h]
theorem ph {t:Int} (h:ag Sess.client t s.sess<0):cn s t=0:=by
 unfold cn; rw [nr (d:=dflt (.nm .sess)),if_neg (by omega)]
theorem uK {s':State} {t:Int} (h:qR Sess.client s'.sess t=qR Sess.client s.sess t):cn s' t=cn s t:=by
 unfold cn; rw [h]
theorem BS (M:mayF s s.version=0) (t:Int):cn (dP s c).1 t=cn s t\/cn (dP s c).1 t=cn s t+1/\c.client=t/\c.seq=cn (dP s c).1 t:=by
 have hse:=(eP M).1
 by_cases h:bM c s.version=0
 ·by_cases k8:c.kind=8
  ·by_cases hn:c.n=s.version+1
   ·rw [xD (mU M h) k8 hn]; exact .inl rfl
   ·rw [ze (mU M h) k8 hn]; exact .inl rfl
  ·by_cases k1:c.kind=1
   ·by_cases hp:0<=ag Sess.client c.client s.sess
    ·rw [zk (mU M h) k1 hp]; exact .inl rfl
    ·have hp:ag Sess.client c.client s.sess<0:=by omega
     rw [yN (mU M h) k1 hp]
     left
     have f:=Bu (x:=Sess.mk c.client 0 (Reply.mk 0 0)) (i:=(s.sess.takeWhile fun y=>decide (y.client<c.client)).length) hp t
     by_cases e:t=c.client
     ·rw [e] at f ⊢
      rw [ph hp]
      unfold cn
      rw [show qR Sess.client _ c.client=_ from f,if_pos rfl]
     ·rw [if_neg (by exact e)] at f
      exact uK f
   ·by_cases hq:0<=ag Sess.client c.client s.sess/\c.seq=(s.sess.getD (ag Sess.client c.client s.sess).toNat (dflt (.nm .sess))).seq+1
    ·rw [uj M h k8 k1 hq.1 hq.2]
     have f:=Bp (x:=Sess.mk (s.sess.getD (ag Sess.client c.client s.sess).toNat (dflt (.nm .sess))).client c.seq (bh s c).2) hse hq.1 (gp (d:=dflt (.nm .sess)) hq.1).1 t
     by_cases e:t=c.client
     ·right
      rw [e] at f ⊢
      rw [if_pos rfl] at f
      have e2:cn (State.mk (bh s c).1.version (bh s c).1.next (bh s c).1.keep (bh s c).1.quota (s.sess.set (ag Sess.client c.client s.sess).toNat (Sess.mk (s.sess.getD (ag Sess.client c.client s.sess).toNat (dflt (.nm .sess))).client c.seq (bh s c).2)) (bh s c).1.opens (bh s c).1.snaps) c.client=c.seq:=by
       unfold cn; rw [show qR Sess.client _ c.client=_ from f]
      rw [e2,oB (d:=dflt (.nm .sess)) hq.1]
      exact ⟨hq.2,rfl,rfl⟩
     ·rw [if_neg e] at f
      exact .inl (uK f)
    ·left
     rw [uo M h k8 k1]
     by_cases hk:ag Sess.client c.client s.sess<0
     ·exact .inl hk
     ·exact .inr fun hc=>hq ⟨by omega,hc⟩
 ·rw [GP M h]; exact .inl rfl
theorem uM (M:mayF s s.version=0) {t:Int} (h:ag Sess.client t (dP s c).1.sess<0):cn s t=0:=by
 by_cases p:0<=ag Sess.client t s.sess
 ·obtain ⟨e,m⟩:=gp (d:=dflt (.nm .sess)) p
  obtain ⟨y,hy,hc,_⟩:=(DG (c:=c) M).seq _ m
  exact absurd (hc.trans e) (ed h y hy)
 ·exact ph (by omega)
end
def bE (s s':State) (j:Nat):List Int:=(List.range 9).map fun i=>if i=0 then 0 else if i<=j then cn s' i else cn s i
theorem dy {s s':State} {j:Nat}:(bE s s' j).length=9:=by unfold bE; simp
theorem eA {s s':State} {j i:Nat} (h:i<9):(bE s s' j)[i]? = some (if i=0 then 0 else if i<=j then cn s' i else cn s i):=by
 unfold bE; rw [List.getElem?_map,List.getElem?_range h]; rfl
theorem xq {s s':State} {j:Nat} {d:Int} (h:j<8):(bE s s' j).getD (j+1) d=cn s ((j+1:Nat):Int):=by
 rw [List.getD_eq_getElem?_getD,eA (by omega),if_neg (by omega),if_neg (by omega)]; rfl
theorem jv {s s':State}:bE s s' 0=bE s s 8:=by
 apply List.ext_getElem?
 intro i
 by_cases h:i<9
 ·rw [eA h,eA h]
  by_cases e:i=0
  ·rw [if_pos e,if_pos e]
  ·rw [if_neg e,if_neg e,if_neg (by omega),if_pos (by omega)]
 ·rw [List.getElem?_eq_none (by rw [dy]; omega),List.getElem?_eq_none (by rw [dy]; omega)]
theorem EY {s s' t:State}:bE s s' 8=bE t s' 8:=by
 apply List.ext_getElem?
 intro i
 by_cases h:i<9
 ·rw [eA h,eA h]
  by_cases e:i=0
  ·rw [if_pos e,if_pos e]
  ·rw [if_neg e,if_neg e,if_pos (by omega),if_pos (by omega)]
 ·rw [List.getElem?_eq_none (by rw [dy]; omega),List.getElem?_eq_none (by rw [dy]; omega)]
theorem rU {s s':State} {j:Nat} (h:j<8):(bE s s' j).set (j+1) (cn s' ((j+1:Nat):Int))=bE s s' (j+1):=by
 apply List.ext_getElem?
 intro i
 by_cases hi:i<9
 ·rw [eA hi]
  by_cases e:j+1=i
  ·subst e
   rw [List.getElem?_set_self (by rw [dy]; exact hi),if_neg (by omega),if_pos (by omega)]
  ·rw [List.getElem?_set_ne e,eA hi]
   by_cases e0:i=0
   ·rw [if_pos e0,if_pos e0]
   ·rw [if_neg e0,if_neg e0]
    by_cases l:i<=j
    ·rw [if_pos l,if_pos (by omega)]
    ·rw [if_neg l,if_neg (by omega)]
 ·rw [List.getElem?_eq_none (by rw [List.length_set,dy]; omega),List.getElem?_eq_none (by rw [dy]; omega)]
theorem wB {s s':State} {j:Nat} (h:j<8) (e:cn s' ((j+1:Nat):Int)=cn s ((j+1:Nat):Int)):bE s s' j=bE s s' (j+1):=by
 rw [<- rU h,e]
 symm
 apply List.ext_getElem?
 intro i
 by_cases hi:j+1=i
 ·subst hi
  rw [List.getElem?_set_self (by rw [dy]; omega),eA (by omega),if_neg (by omega),if_neg (by omega)]
 ·rw [List.getElem?_set_ne hi]
end Go.Proofs.Ytdggohppeeaipaa
namespace Go.Proofs.Ytdggohppeeaipaa
open Go.RowKit
section
variable {s:State} {l:List Command} {k j:Nat} {c:Command}
theorem AB (h:(k:Int)<(l.length:Int)):List.take (((k:Int)+1).toNat - k) (List.drop k l)=[l.getD k c]:=by
 have hx:=gd (d:=c) h
 obtain ⟨hk,e⟩:=List.getElem?_eq_some_iff.1 hx
 rw [show ((k:Int)+1).toNat - k=1 by omega,List.drop_eq_getElem_cons hk,e]; rfl
theorem wW (h:(k:Int)<(l.length:Int)):((db s (List.take (((k:Int)+1).toNat - k) (List.drop k l))).length:Int)=1:=by
 rw [AB (c:=dflt (.nm .command)) h]; rfl
theorem cq (h:(k:Int)<(l.length:Int)):bw (bw s (l.take k)) (List.take (((k:Int)+1).toNat - k) (List.drop k l))=bw s (l.take (k+1)):=by
 rw [AB (c:=dflt (.nm .command)) h,<- Am (d:=dflt (.nm .command)) h]; rfl
theorem wZ (h:(k:Int)<(l.length:Int)):db (bw s (l.take k)) (List.take (((k:Int)+1).toNat - k) (List.drop k l))=db (bw s (l.take k)) [l.getD k c]:=by
 rw [AB (c:=c) h]
theorem wL {s s':State} (h:(j:Int)+1<=8):(j:Int)+1<((bE s s' j).length:Int):=by rw [dy]; omega
theorem si {s s':State} {d:Int} (h:(j:Int)+1<=8):(bE s s' j).getD ((j:Int)+1).toNat d=cn s ((j:Int)+1):=by
 rw [show ((j:Int)+1).toNat=j+1 by omega,xq (by omega)]; rfl
theorem zZ (h:k<l.length):bw s (l.take (k+1))=(dP (bw s (l.take k)) (l.getD k c)).1:=(Am (by omega)).symm
theorem vZ {d:Int} (M:mayF s s.version=0) (h:k<l.length) (hj:(j:Int)+1<=8) (hp:ag Sess.client ((j:Int)+1) (bw s (l.take (k+1))).sess<0):(bE (bw s (l.take k)) (bw s (l.take (k+1))) j).getD ((j:Int)+1).toNat d=0:=by
 rw [si hj]
 rw [zZ (c:=dflt (.nm .command)) h] at hp
 exact uM (mE M) hp
theorem vq (M:mayF s s.version=0) (h:k<l.length) (hj:(j:Int)+1<=8) (hp:ag Sess.client ((j:Int)+1) (bw s (l.take (k+1))).sess<0):bE (bw s (l.take k)) (bw s (l.take (k+1))) j=bE (bw s (l.take k)) (bw s (l.take (k+1))) (j+1):=by
 refine wB (by omega) ?_
 have e:((j+1:Nat):Int)=(j:Int)+1:=rfl
 rw [e,ph hp]
 rw [zZ (c:=dflt (.nm .command)) h] at hp
 exact (uM (mE M) hp).symm
theorem vK {t:Int} (M:mayF s s.version=0):0<=cn s t/\cn s t<=1048576:=by
 unfold cn
 cases e:qR Sess.client s.sess t with
 | none=>exact ⟨Int.le_refl _,by decide⟩
 | some y=>
  have h2:=(eP M).2 _ (tN e).2
  simp only [bF,Bool.and_eq_true] at h2
  exact oR h2.1.1
theorem wu {s':State} {d:Int} (M:mayF s s.version=0) (hj:(j:Int)+1<=8):I64 ((bE (bw s (l.take k)) s' j).getD ((j:Int)+1).toNat d+1):=by
 rw [si hj]
 have:=vK (t:=(j:Int)+1) (mE (l:=l.take k) M)
 constructor <;> omega
theorem w_ {d:Int} {e:Sess} (M:mayF s s.version=0) (h:k<l.length) (hj:(j:Int)+1<=8) (hp:0<=ag Sess.client ((j:Int)+1) (bw s (l.take (k+1))).sess)
  (h1:¬ ((bw s (l.take (k+1))).sess.getD (ag Sess.client ((j:Int)+1) (bw s (l.take (k+1))).sess).toNat e).seq=(bE (bw s (l.take k)) (bw s (l.take (k+1))) j).getD ((j:Int)+1).toNat d)
  (o:(¬ ((bw s (l.take (k+1))).sess.getD (ag Sess.client ((j:Int)+1) (bw s (l.take (k+1))).sess).toNat e).seq=(bE (bw s (l.take k)) (bw s (l.take (k+1))) j).getD ((j:Int)+1).toNat d+1\/¬ (l.getD k c).client=(j:Int)+1)\/¬ (l.getD k c).seq=((bw s (l.take (k+1))).sess.getD (ag Sess.client ((j:Int)+1) (bw s (l.take (k+1))).sess).toNat e).seq):False:=by
 rw [si hj,<- oB hp] at h1 o
 rw [zZ (c:=c) h] at h1 o
 rcases BS (c:=l.getD k c) (mE (l:=l.take k) M) ((j:Int)+1) with a | ⟨a,b,b2⟩
 ·exact h1 a
 ·rcases o with (o | o) | o
  ·exact o a
  ·exact o b
  ·exact o b2
theorem vR {e:Sess} {s':State} (hj:(j:Int)+1<=8) (hp:0<=ag Sess.client ((j:Int)+1) s.sess):(bE s' s j).set ((j:Int)+1).toNat (s.sess.getD (ag Sess.client ((j:Int)+1) s.sess).toNat e).seq=bE s' s (j+1):=by
 rw [<- oB hp,show ((j:Int)+1).toNat=j+1 by omega]
 exact rU (by omega)
theorem wj {s s':State} (h:j<=8) (h2:8<(j:Int)+1):bE s s' j=bE s' s' 8:=by
 rw [show j=8 by omega]; exact EY
theorem wh (h:(l.length:Int)<=k):(true && decide (bw s (l.take k)=bw s l))=true:=by
 rw [List.take_of_length_le (by omega)]; simp only [decide_true,Bool.and_self]
end
theorem vB:List.replicate (9:Int).toNat (0:Int)=bE (State.mk 1 1 0 0 [] [] []) (State.mk 1 1 0 0 [] [] []) 8:=by kernel_rfl
def x_ (l:List Command):List (Nat × LI):=[(7,{ σ:=Nat,F:=fun k=>([(0,one (.fz (.nm .command) (ct l))),(3,one (.bool (.atom true))),(4,one (.ptr 4 0)),(6,one (.ptr 5 0)),(7,one (.own 6)),(8,one (.int k))],[.row 40 (.nm .sess) (((bw (State.mk 1 1 0 0 [] [] []) (ct l)).sess)),.row 48 (.nm .opn) (((bw (State.mk 1 1 0 0 [] [] []) (ct l)).opens)),.row 59 (.nm .snap) (((bw (State.mk 1 1 0 0 [] [] []) (ct l)).snaps)),.row 38 (.nm .reply) ((db (State.mk 1 1 0 0 [] [] []) (ct l))),.box 29 ([.int (((bw (State.mk 1 1 0 0 [] [] []) (ct l)).version)),.int (((bw (State.mk 1 1 0 0 [] [] []) (ct l)).next)),.int (((bw (State.mk 1 1 0 0 [] [] []) (ct l)).keep)),.int (((bw (State.mk 1 1 0 0 [] [] []) (ct l)).quota)),.own 0,.own 1,.own 2]),.box 29 (cellsOf (.nm .state) (((bw (State.mk 1 1 0 0 [] [] []) ((ct l).take k))))),.row 3 .int ((bE (bw (State.mk 1 1 0 0 [] [] []) ((ct l).take k)) (bw (State.mk 1 1 0 0 [] [] []) ((ct l).take k)) 8))]),J:=fun k=>k<=(ct l).length,μ:=fun k=>(ct l).length - k }),(13,{ σ:=Nat × Nat,F:=fun q=>([(0,one (.fz (.nm .command) (ct l))),(3,one (.bool (.atom true))),(4,one (.ptr 4 0)),(6,one (.ptr 5 0)),(7,one (.own 6)),(8,one (.int q.1)),(9,one (.ptr 11 0)),(11,one (.int (q.2+1)))],[.row 40 (.nm .sess) (((bw (State.mk 1 1 0 0 [] [] []) (ct l)).sess)),.row 48 (.nm .opn) (((bw (State.mk 1 1 0 0 [] [] []) (ct l)).opens)),.row 59 (.nm .snap) (((bw (State.mk 1 1 0 0 [] [] []) (ct l)).snaps)),.row 38 (.nm .reply) ((db (State.mk 1 1 0 0 [] [] []) (ct l))),.box 29 ([.int (((bw (State.mk 1 1 0 0 [] [] []) (ct l)).version)),.int (((bw (State.mk 1 1 0 0 [] [] []) (ct l)).next)),.int (((bw (State.mk 1 1 0 0 [] [] []) (ct l)).keep)),.int (((bw (State.mk 1 1 0 0 [] [] []) (ct l)).quota)),.own 0,.own 1,.own 2]),.box 29 (cellsOf (.nm .state) (((bw (State.mk 1 1 0 0 [] [] []) ((ct l).take q.1))))),.row 3 .int ((bE (bw (State.mk 1 1 0 0 [] [] []) ((ct l).take q.1)) (bw (State.mk 1 1 0 0 [] [] []) ((ct l).take (q.1+1))) q.2)),.row 40 (.nm .sess) (((bw (State.mk 1 1 0 0 [] [] []) ((ct l).take (q.1+1))).sess)),.row 48 (.nm .opn) (((bw (State.mk 1 1 0 0 [] [] []) ((ct l).take (q.1+1))).opens)),.row 59 (.nm .snap) (((bw (State.mk 1 1 0 0 [] [] []) ((ct l).take (q.1+1))).snaps)),.row 38 (.nm .reply) ((db (bw (State.mk 1 1 0 0 [] [] []) ((ct l).take q.1)) [(ct l).getD q.1 (dflt (.nm .command))])),.box 29 ([.int (((bw (State.mk 1 1 0 0 [] [] []) ((ct l).take (q.1+1))).version)),.int (((bw (State.mk 1 1 0 0 [] [] []) ((ct l).take (q.1+1))).next)),.int (((bw (State.mk 1 1 0 0 [] [] []) ((ct l).take (q.1+1))).keep)),.int (((bw (State.mk 1 1 0 0 [] [] []) ((ct l).take (q.1+1))).quota)),.own 7,.own 8,.own 9])]),J:=fun q=>q.1<(ct l).length/\q.2<=8,μ:=fun q=>8 - q.2,R:=some fun q0 q=>q.1=q0.1 })]
theorem BA (l:List Command) (r0:Bool):dq aJ Dk (x_ l) Try.f3 [.c (.fz (.nm .command) (l))] [] [.c (.bool (.atom (r0)))]=((fun (q10:Prop)=>(fun (q9:Nat)=>(fun (q8:Nat)=>(fun (q7:den Sh.int)=>(fun (q6:Int)=>(fun (q5:den (Sh.nm NT.sess))=>(fun (q4:den (Sh.nm NT.command))=>(fun (q3:Int)=>(fun (q2:Nat)=>(fun (q1:List Command)=>(fun (q0:State)=>l.length*(88:Nat)<=q9->q1.length*(88:Nat)<=q9->I64 q3->I64 q3->I64 q6->I64 q6->(0:Nat)*(32:Nat)<=q9->(0:Nat)*(16:Nat)<=q9->(0:Nat)*(64:Nat)<=q9->I64 (bw q0 q1).version->I64 (bw q0 q1).next->I64 (bw q0 q1).keep->I64 (bw q0 q1).quota->I64 q3->I64 q3->I64 q6->I64 q6->(0:Nat)*(32:Nat)<=q9->(0:Nat)*(16:Nat)<=q9->(0:Nat)*(64:Nat)<=q9->q6<=(9:Int)/\(9:Int)*(↑q8:Int)<=(140737488355328:Int)/\(9:Int)=(9:Int)/\∃ (s0:Nat),(fun (q15:Int)=>(fun (q14:Nat)=>(fun (q13:Prop)=>(fun (q12:State)=>(fun (q11:State)=>(q1=q1/\q10/\q6=(↑s0:Int)/\q11.sess=q11.sess/\q11.opens=q11.opens/\q11.snaps=q11.snaps/\q13/\q11.version=q11.version/\q11.next=q11.next/\q11.keep=q11.keep/\q11.quota=q11.quota/\q3=q12.version/\q3=q12.next/\q6=q12.keep/\q6=q12.quota/\[]=q12.sess/\[]=q12.opens/\[]=q12.snaps/\List.replicate (9:Nat) q7=bE q12 q12 q8)/\s0<=q14/\∀ (s:Nat),(fun (q26:Int)=>(fun (q25:Prop)=>(fun (q24:Prop)=>(fun (q23:Prop)=>(fun (q22:Prop)=>(fun (q21:Prop)=>(fun (q20:Prop)=>(fun (q19:Prop)=>(fun (q18:List (den (Sh.nm NT.command)))=>(fun (q17:State)=>(fun (q16:State)=>s<=q14->((↑s:Int)<q15->I64 q26/\(q6<=(↑s:Int)/\(↑s:Int)<=q26/\q26<=q15)/\(I64 q16.version->I64 q16.next->I64 q16.keep->I64 q16.quota->(¬(↑(db q17 q18).length:Int)=q3->false=r0)/\((↑(db q17 q18).length:Int)=q3->∃ (s0:Nat × Nat),(fun (q29:Nat)=>(fun (q28:State)=>(fun (q27:State)=>(q1=q1/\q10/\(↑s:Int)=(↑q29:Int)/\q3=(↑s0.snd:Int)+q3/\q25/\q21/\q22/\q13/\q19/\q24/\q23/\q20/\q17.version=q28.version/\q17.next=q28.next/\q17.keep=q28.keep/\q17.quota=q28.quota/\q17.sess=q28.sess/\q17.opens=q28.opens/\q17.snaps=q28.snaps/\bE q17 q17 q8=bE q28 q27 s0.snd/\q16.sess=q27.sess/\q16.opens=q27.opens/\q16.snaps=q27.snaps/\db q17 q18=db q28 [q1.getD q29 q4]/\q16.version=q27.version/\q16.next=q27.next/\q16.keep=q27.keep/\q16.quota=q27.quota)/\(q29<q14/\s0.snd<=q8)/\q29=q29/\∀ (s_1:Nat × Nat),(fun (q35:Int)=>(fun (q34:Nat)=>(fun (q33:den (Sh.nm NT.command))=>(fun (q32:State)=>(fun (q31:Int)=>(fun (q30:State)=>s_1.fst<q14/\q34<=q8->s_1.fst=q29->(q31<=(8:Int)->I64 (ag Sess.client q31 q30.sess)->(ag Sess.client q31 q30.sess<q6->q6<=q31/\q31<(↑(bE q32 q30 q34).length:Int)/\(I64 ((bE q32 q30 q34).getD q31.toNat q7)->(¬(bE q32 q30 q34).getD q31.toNat q7=q6->false=r0)/\((bE q32 q30 q34).getD q31.toNat q7=q6->I64 (q31+q3)/\∃ (s':Nat × Nat),(fun (q37:State)=>(fun (q36:State)=>(q1=q1/\q10/\q35=(↑s'.fst:Int)/\q31+q3=(↑s'.snd:Int)+q3/\q25/\q21/\q22/\q13/\q19/\q24/\q23/\q20/\q32.version=q37.version/\q32.next=q37.next/\q32.keep=q37.keep/\q32.quota=q37.quota/\q32.sess=q37.sess/\q32.opens=q37.opens/\q32.snaps=q37.snaps/\bE q32 q30 q34=bE q37 q36 s'.snd/\q30.sess=q36.sess/\q30.opens=q36.opens/\q30.snaps=q36.snaps/\db q32 [q1.getD s_1.fst q4]=db q37 [q1.getD s'.fst q4]/\q30.version=q36.version/\q30.next=q36.next/\q30.keep=q36.keep/\q30.quota=q36.quota)/\(s'.fst<q14/\s'.snd<=q8)/\s'.fst=q29/\q8 - s'.snd<q8 - q34) (bw q0 (List.take (s'.fst+q2) q1))) (bw q0 (List.take s'.fst q1)))))/\(q6<=ag Sess.client q31 q30.sess->q6<=ag Sess.client q31 q30.sess/\ag Sess.client q31 q30.sess<(↑q30.sess.length:Int)/\(I64 (q30.sess.getD (ag Sess.client q31 q30.sess).toNat q5).client->I64 (q30.sess.getD (ag Sess.client q31 q30.sess).toNat q5).seq->I64 (q30.sess.getD (ag Sess.client q31 q30.sess).toNat q5).last.code->I64 (q30.sess.getD (ag Sess.client q31 q30.sess).toNat q5).last.n->q6<=q31/\q31<(↑(bE q32 q30 q34).length:Int)/\(I64 ((bE q32 q30 q34).getD q31.toNat q7)->(¬(q30.sess.getD (ag Sess.client q31 q30.sess).toNat q5).seq=(bE q32 q30 q34).getD q31.toNat q7->q6<=q31/\q31<(↑(bE q32 q30 q34).length:Int)/\I64 ((bE q32 q30 q34).getD q31.toNat q7+q3)/\((q30.sess.getD (ag Sess.client q31 q30.sess).toNat q5).seq=(bE q32 q30 q34).getD q31.toNat q7+q3->q6<=q35/\q35<q15)/\((q30.sess.getD (ag Sess.client q31 q30.sess).toNat q5).seq=(bE q32 q30 q34).getD q31.toNat q7+q3/\q33.client=q31->q6<=q35/\q35<q15))/\((¬(q30.sess.getD (ag Sess.client q31 q30.sess).toNat q5).seq=(bE q32 q30 q34).getD q31.toNat q7->I64 ((bE q32 q30 q34).getD q31.toNat q7)/\((q30.sess.getD (ag Sess.client q31 q30.sess).toNat q5).seq=(bE q32 q30 q34).getD q31.toNat q7+q3->I64 q33.kind/\I64 q33.client/\I64 q33.seq/\I64 q33.set/\I64 q33.id/\I64 q33.n/\q33.chunks.length*q8<=q9/\q33.text.b.length<=q9)/\((q30.sess.getD (ag Sess.client q31 q30.sess).toNat q5).seq=(bE q32 q30 q34).getD q31.toNat q7+q3/\q33.client=q31->I64 q33.kind/\I64 q33.client/\I64 q33.seq/\I64 q33.set/\I64 q33.id/\I64 q33.n/\q33.chunks.length*q8<=q9/\q33.text.b.length<=q9))->(¬(q30.sess.getD (ag Sess.client q31 q30.sess).toNat q5).seq=(bE q32 q30 q34).getD q31.toNat q7/\((¬(q30.sess.getD (ag Sess.client q31 q30.sess).toNat q5).seq=(bE q32 q30 q34).getD q31.toNat q7+q3\/¬q33.client=q31)\/¬q33.seq=(q30.sess.getD (ag Sess.client q31 q30.sess).toNat q5).seq)->false=r0)/\((q30.sess.getD (ag Sess.client q31 q30.sess).toNat q5).seq=(bE q32 q30 q34).getD q31.toNat q7\/((q30.sess.getD (ag Sess.client q31 q30.sess).toNat q5).seq=(bE q32 q30 q34).getD q31.toNat q7+q3/\q33.client=q31)/\q33.seq=(q30.sess.getD (ag Sess.client q31 q30.sess).toNat q5).seq->q6<=q31/\q31<(↑(bE q32 q30 q34).length:Int)/\(I64 ((bE q32 q30 q34).getD q31.toNat q7)->I64 (q31+q3)/\∃ (s':Nat × Nat),(fun (q39:State)=>(fun (q38:State)=>(q1=q1/\q10/\q35=(↑s'.fst:Int)/\q31+q3=(↑s'.snd:Int)+q3/\q25/\q21/\q22/\q13/\q19/\q24/\q23/\q20/\q32.version=q39.version/\q32.next=q39.next/\q32.keep=q39.keep/\q32.quota=q39.quota/\q32.sess=q39.sess/\q32.opens=q39.opens/\q32.snaps=q39.snaps/\(bE q32 q30 q34).set q31.toNat (q30.sess.getD (ag Sess.client q31 q30.sess).toNat q5).seq=bE q39 q38 s'.snd/\q30.sess=q38.sess/\q30.opens=q38.opens/\q30.snaps=q38.snaps/\db q32 [q1.getD s_1.fst q4]=db q39 [q1.getD s'.fst q4]/\q30.version=q38.version/\q30.next=q38.next/\q30.keep=q38.keep/\q30.quota=q38.quota)/\(s'.fst<q14/\s'.snd<=q8)/\s'.fst=q29/\q8 - s'.snd<q8 - q34) (bw q0 (List.take (s'.fst+q2) q1))) (bw q0 (List.take s'.fst q1)))))))))/\((8:Int)<q31->I64 (q35+q3)/\∃ (s':Nat),(fun (q40:State)=>(q1=q1/\q10/\q35+q3=(↑s':Int)/\q25/\q21/\q22/\q13/\q19/\q24/\q23/\q20/\q30.version=q40.version/\q30.next=q40.next/\q30.keep=q40.keep/\q30.quota=q40.quota/\q30.sess=q40.sess/\q30.opens=q40.opens/\q30.snaps=q40.snaps/\bE q32 q30 q34=bE q40 q40 q8)/\s' <= q14/\q14 - s' < q14 - s) (bw q0 (List.take s' q1)))) (bw q0 (List.take (s_1.fst+q2) q1))) ((↑q34:Int)+q3)) (bw q0 (List.take s_1.fst q1))) (q1.getD s_1.fst q4)) s_1.snd) (↑s_1.fst:Int)) (bw q0 (List.take (q29+q2) q1))) (bw q0 (List.take q29 q1))) s0.fst)))/\(q15<=(↑s:Int)->(true && decide (q17=q11))=r0)) (bw q17 q18)) (bw q0 (List.take s q1))) (List.take (q26.toNat - s) (List.drop s q1))) (q11.version=q11.version)) (q11.quota=q11.quota)) (q11.opens=q11.opens)) (q11.snaps=q11.snaps)) (q11.keep=q11.keep)) (q11.next=q11.next)) (q11.sess=q11.sess)) ((↑s:Int)+q3)) (bw q0 q1)) (bw q0 (List.take s0 q1))) (db q0 q1=db q0 q1)) q1.length) (↑q1.length:Int)) (State.mk q3 q3 q6 q6 [] [] [])) (ct l)) (1:Nat)) (1:Int)) (dflt (Sh.nm NT.command))) (dflt (Sh.nm NT.sess))) (0:Int)) (dflt Sh.int)) (8:Nat)) (140737488355328:Nat)) (true=true)):=by kernel_rfl
theorem Da (l:List Command):Sat Try.prog (au aJ) 3 [.c (.fz (.nm .command) (l))] [] ⟨[],[.c (.bool (.atom ((true))))],none,false⟩:=by
 refine aU yD (x_ l) Try.func3 (by decide) (by kernel_rfl) ?_
 rw [BA]
 (repeat' (first | with_reducible refine And.intro ?_ ?_ | with_reducible refine and_imp.2 ?_ | intro))
 all_goals try (first | (first | with_reducible rfl | with_reducible assumption | omega | (refine al ?_ ?_ <;> omega)) | exact rfl | exact vB | exact jv.symm | exact aX (by with_reducible assumption) | exact (congrArg State.version (cq (by with_reducible assumption))) | exact (congrArg State.next (cq (by with_reducible assumption))) | exact (congrArg State.keep (cq (by with_reducible assumption))) | exact (congrArg State.quota (cq (by with_reducible assumption))) | exact (congrArg State.sess (cq (by with_reducible assumption))) | exact (congrArg State.opens (cq (by with_reducible assumption))) | exact (congrArg State.snaps (cq (by with_reducible assumption))) | exact (absurd (wW (by with_reducible assumption)) (by with_reducible assumption)) | exact (wZ (by with_reducible assumption)) | exact (wL (by omega)) | exact (absurd (vZ (s:=State.mk 1 1 0 0 [] [] []) aY (by omega) (by omega) (by with_reducible assumption)) (by with_reducible assumption)) | exact (vq (s:=State.mk 1 1 0 0 [] [] []) aY (by omega) (by omega) (by with_reducible assumption)) | exact (wu (s:=State.mk 1 1 0 0 [] [] []) aY (by omega)) | exact (w_ (s:=State.mk 1 1 0 0 [] [] []) aY (by omega) (by omega) (by with_reducible assumption) (by with_reducible assumption) (by assumption)).elim | exact (vR (by omega) (by with_reducible assumption)) | exact (wj (by omega) (by omega)) | exact (wh (by omega)) | exact (nN (by with_reducible assumption) (by omega)))
 all_goals try (refine ⟨0,?_⟩; (repeat' (first | with_reducible refine And.intro ?_ ?_ | with_reducible refine and_imp.2 ?_ | intro)))
 all_goals try (first | (first | with_reducible rfl | with_reducible assumption | omega | (refine al ?_ ?_ <;> omega)) | exact rfl | exact vB | exact jv.symm | exact aX (by with_reducible assumption) | exact (congrArg State.version (cq (by with_reducible assumption))) | exact (congrArg State.next (cq (by with_reducible assumption))) | exact (congrArg State.keep (cq (by with_reducible assumption))) | exact (congrArg State.quota (cq (by with_reducible assumption))) | exact (congrArg State.sess (cq (by with_reducible assumption))) | exact (congrArg State.opens (cq (by with_reducible assumption))) | exact (congrArg State.snaps (cq (by with_reducible assumption))) | exact (absurd (wW (by with_reducible assumption)) (by with_reducible assumption)) | exact (wZ (by with_reducible assumption)) | exact (wL (by omega)) | exact (absurd (vZ (s:=State.mk 1 1 0 0 [] [] []) aY (by omega) (by omega) (by with_reducible assumption)) (by with_reducible assumption)) | exact (vq (s:=State.mk 1 1 0 0 [] [] []) aY (by omega) (by omega) (by with_reducible assumption)) | exact (wu (s:=State.mk 1 1 0 0 [] [] []) aY (by omega)) | exact (w_ (s:=State.mk 1 1 0 0 [] [] []) aY (by omega) (by omega) (by with_reducible assumption) (by with_reducible assumption) (by assumption)).elim | exact (vR (by omega) (by with_reducible assumption)) | exact (wj (by omega) (by omega)) | exact (wh (by omega)) | exact (nN (by with_reducible assumption) (by omega)))
 all_goals try (refine ⟨(‹Nat›,0),?_⟩; (repeat' (first | with_reducible refine And.intro ?_ ?_ | with_reducible refine and_imp.2 ?_ | intro)))
 all_goals try (first | (first | with_reducible rfl | with_reducible assumption | omega | (refine al ?_ ?_ <;> omega)) | exact rfl | exact vB | exact jv.symm | exact aX (by with_reducible assumption) | exact (congrArg State.version (cq (by with_reducible assumption))) | exact (congrArg State.next (cq (by with_reducible assumption))) | exact (congrArg State.keep (cq (by with_reducible assumption))) | exact (congrArg State.quota (cq (by with_reducible assumption))) | exact (congrArg State.sess (cq (by with_reducible assumption))) | exact (congrArg State.opens (cq (by with_reducible assumption))) | exact (congrArg State.snaps (cq (by with_reducible assumption))) | exact (absurd (wW (by with_reducible assumption)) (by with_reducible assumption)) | exact (wZ (by with_reducible assumption)) | exact (wL (by omega)) | exact (absurd (vZ (s:=State.mk 1 1 0 0 [] [] []) aY (by omega) (by omega) (by with_reducible assumption)) (by with_reducible assumption)) | exact (vq (s:=State.mk 1 1 0 0 [] [] []) aY (by omega) (by omega) (by with_reducible assumption)) | exact (wu (s:=State.mk 1 1 0 0 [] [] []) aY (by omega)) | exact (w_ (s:=State.mk 1 1 0 0 [] [] []) aY (by omega) (by omega) (by with_reducible assumption) (by with_reducible assumption) (by assumption)).elim | exact (vR (by omega) (by with_reducible assumption)) | exact (wj (by omega) (by omega)) | exact (wh (by omega)) | exact (nN (by with_reducible assumption) (by omega)))
 all_goals try (refine ⟨(‹Nat × Nat›.1,‹Nat × Nat›.2+1),?_⟩; (repeat' (first | with_reducible refine And.intro ?_ ?_ | with_reducible refine and_imp.2 ?_ | intro)))
 all_goals try (first | (first | with_reducible rfl | with_reducible assumption | omega | (refine al ?_ ?_ <;> omega)) | exact rfl | exact vB | exact jv.symm | exact aX (by with_reducible assumption) | exact (congrArg State.version (cq (by with_reducible assumption))) | exact (congrArg State.next (cq (by with_reducible assumption))) | exact (congrArg State.keep (cq (by with_reducible assumption))) | exact (congrArg State.quota (cq (by with_reducible assumption))) | exact (congrArg State.sess (cq (by with_reducible assumption))) | exact (congrArg State.opens (cq (by with_reducible assumption))) | exact (congrArg State.snaps (cq (by with_reducible assumption))) | exact (absurd (wW (by with_reducible assumption)) (by with_reducible assumption)) | exact (wZ (by with_reducible assumption)) | exact (wL (by omega)) | exact (absurd (vZ (s:=State.mk 1 1 0 0 [] [] []) aY (by omega) (by omega) (by with_reducible assumption)) (by with_reducible assumption)) | exact (vq (s:=State.mk 1 1 0 0 [] [] []) aY (by omega) (by omega) (by with_reducible assumption)) | exact (wu (s:=State.mk 1 1 0 0 [] [] []) aY (by omega)) | exact (w_ (s:=State.mk 1 1 0 0 [] [] []) aY (by omega) (by omega) (by with_reducible assumption) (by with_reducible assumption) (by assumption)).elim | exact (vR (by omega) (by with_reducible assumption)) | exact (wj (by omega) (by omega)) | exact (wh (by omega)) | exact (nN (by with_reducible assumption) (by omega)))
 all_goals try (refine ⟨‹Nat × Nat›.1+1,?_⟩; (repeat' (first | with_reducible refine And.intro ?_ ?_ | with_reducible refine and_imp.2 ?_ | intro)))
 all_goals try (first | (first | with_reducible rfl | with_reducible assumption | omega | (refine al ?_ ?_ <;> omega)) | exact rfl | exact vB | exact jv.symm | exact aX (by with_reducible assumption) | exact (congrArg State.version (cq (by with_reducible assumption))) | exact (congrArg State.next (cq (by with_reducible assumption))) | exact (congrArg State.keep (cq (by with_reducible assumption))) | exact (congrArg State.quota (cq (by with_reducible assumption))) | exact (congrArg State.sess (cq (by with_reducible assumption))) | exact (congrArg State.opens (cq (by with_reducible assumption))) | exact (congrArg State.snaps (cq (by with_reducible assumption))) | exact (absurd (wW (by with_reducible assumption)) (by with_reducible assumption)) | exact (wZ (by with_reducible assumption)) | exact (wL (by omega)) | exact (absurd (vZ (s:=State.mk 1 1 0 0 [] [] []) aY (by omega) (by omega) (by with_reducible assumption)) (by with_reducible assumption)) | exact (vq (s:=State.mk 1 1 0 0 [] [] []) aY (by omega) (by omega) (by with_reducible assumption)) | exact (wu (s:=State.mk 1 1 0 0 [] [] []) aY (by omega)) | exact (w_ (s:=State.mk 1 1 0 0 [] [] []) aY (by omega) (by omega) (by with_reducible assumption) (by with_reducible assumption) (by assumption)).elim | exact (vR (by omega) (by with_reducible assumption)) | exact (wj (by omega) (by omega)) | exact (wh (by omega)) | exact (nN (by with_reducible assumption) (by omega)))
 all_goals (first | (first | with_reducible rfl | with_reducible assumption | omega | (refine al ?_ ?_ <;> omega)) | exact rfl | exact vB | exact jv.symm | exact aX (by with_reducible assumption) | exact (congrArg State.version (cq (by with_reducible assumption))) | exact (congrArg State.next (cq (by with_reducible assumption))) | exact (congrArg State.keep (cq (by with_reducible assumption))) | exact (congrArg State.quota (cq (by with_reducible assumption))) | exact (congrArg State.sess (cq (by with_reducible assumption))) | exact (congrArg State.opens (cq (by with_reducible assumption))) | exact (congrArg State.snaps (cq (by with_reducible assumption))) | exact (absurd (wW (by with_reducible assumption)) (by with_reducible assumption)) | exact (wZ (by with_reducible assumption)) | exact (wL (by omega)) | exact (absurd (vZ (s:=State.mk 1 1 0 0 [] [] []) aY (by omega) (by omega) (by with_reducible assumption)) (by with_reducible assumption)) | exact (vq (s:=State.mk 1 1 0 0 [] [] []) aY (by omega) (by omega) (by with_reducible assumption)) | exact (wu (s:=State.mk 1 1 0 0 [] [] []) aY (by omega)) | exact (w_ (s:=State.mk 1 1 0 0 [] [] []) aY (by omega) (by omega) (by with_reducible assumption) (by with_reducible assumption) (by assumption)).elim | exact (vR (by omega) (by with_reducible assumption)) | exact (wj (by omega) (by omega)) | exact (wh (by omega)) | exact (nN (by with_reducible assumption) (by omega)))
end Go.Proofs.Ytdggohppeeaipaa
namespace Go.Proofs.Ytdggohppeeaipaa
open Go.RowKit Go.ChangeShapes Go.WideShapes
def vS (shp:TypeId->Option Sh) (w:World):Cx:=cx ⟨shp,w.heap.size,fun _=>False⟩ [] w
theorem Fp {shp:TypeId->Option Sh} {w:World} {s:Sh} {b:Nat} (h:b<w.heap.size):(vS shp w).at s b:=⟨⟨h,fun ⟨_,_,h,_⟩=>by simp at h,fun h=>h⟩,.inl h⟩
def Tr (P:Program) (shp:TypeId->Option Sh) (t:TypeId) (s:Sh):Prop:=
 ∀ (H:Type) (enc:TypeId × Value->H) (w:World) (fuel:Nat) (cs:List Value) (x:DataW H × List MemPlace),
  DataW.trod enc P w 0 (fun _=>true) true fuel t cs=some x->(∀ n ∈ x.1.weights P t,n<=140737488351232)->(∀ q ∈ x.2,q.block<w.heap.size)->∃ y:den s,Pds (vS shp w) (cellsOf s y) cs
def Eu:List Sh->List AV->Prop
 | [],asx=>asx=[]
 | s :: r,asx=>∃ (y:den s) (l:List AV),asx=cellsOf s y++l/\Eu r l
def Gu:List Sh->Nat
 | []=>0
 | s :: r=>s.size+Gu r
def sI (P:Program) (shp:TypeId->Option Sh) (fs:List Go.Field) (o:Nat) (ss:List Sh):Prop:=
 ∀ (H:Type) (enc:TypeId × Value->H) (w:World) (fuel:Nat) (cs:List Value) (xs:List (DataW H × List MemPlace)),
  cs.length=o+Gu ss->xs.length=fs.length->(∀ (i:Nat) (f:Go.Field),fs[i]? = some f->DataW.trod enc P w 0 (fun _=>true) true fuel f.type ((cs.drop f.offset).take (P.cellsOf f.type))=xs[i]?) ->
  (∀ n ∈ DataW.weightsEach P (fs.map (·.type)) (xs.map (·.1)),n<=140737488351232)->(∀ q ∈ xs.flatMap (·.2),q.block<w.heap.size)->∃ asx,Eu ss asx/\Pds (vS shp w) asx (cs.drop o)
section
variable {P:Program} {shp:TypeId->Option Sh} {t:TypeId}
theorem Tr.int (h:P.underlying t=some (.int .i64)):Tr P shp t .int:=fun _ enc w fuel cs x hx _ _=>by
 obtain ⟨n,rfl,_,hw⟩:=DataW.trod_int h hx
 have h1:IntKind.i64.min = -9223372036854775808:=rfl
 have h2:IntKind.i64.max=9223372036854775807:=rfl
 simp only [Lit.wf,Bool.and_eq_true,decide_eq_true_eq] at hw
 exact ⟨n,.cons (.int ⟨by omega,by omega⟩) .nil⟩
theorem Tr.bool (h:P.underlying t=some .bool):Tr P shp t .bool:=fun _ enc w fuel cs x hx _ _=>by
 obtain ⟨n,rfl,_⟩:=DataW.trod_bool h hx
 exact ⟨n,.cons (Pd.bool (e:=.atom n)) .nil⟩
theorem Tr.u8 (h:P.underlying t=some (.int .u8)):Tr P shp t .u8:=fun _ enc w fuel cs x hx _ _=>by
 obtain ⟨n,rfl,_,hw⟩:=DataW.trod_int h hx
 have h1:IntKind.u8.min=0:=rfl
 have h2:IntKind.u8.max=255:=rfl
 simp only [Lit.wf,Bool.and_eq_true,decide_eq_true_eq] at hw
 refine ⟨UInt8.ofNat n.toNat,?_⟩
 have:n=((UInt8.ofNat n.toNat).toNat:Int):=by
  rw [UInt8.toNat_ofNat']; omega
 generalize hg:UInt8.ofNat n.toNat=b at this
 subst this
 exact .cons .u8 .nil
theorem Tr.u64 (h:P.underlying t=some (.int .u64)):Tr P shp t .u64:=fun _ enc w fuel cs x hx _ _=>by
 obtain ⟨n,rfl,_,hw⟩:=DataW.trod_int h hx
 have h1:IntKind.u64.min=0:=rfl
 have h2:IntKind.u64.max=18446744073709551615:=rfl
 simp only [Lit.wf,Bool.and_eq_true,decide_eq_true_eq] at hw
 refine ⟨⟨n.toNat⟩,?_⟩
 have:n=(n.toNat:Int):=by omega
 generalize hg:n.toNat=b at this
 subst this
 exact .cons (.u64 (by show b<_; omega)) .nil
theorem Tr.str (h:P.underlying t=some .string):Tr P shp t .str:=fun _ enc w fuel cs x hx hw _=>by
 obtain ⟨s,rfl,hx,_⟩:=DataW.trod_string h hx
 refine ⟨⟨s.data.toList⟩,?_⟩
 have:=hw s.data.toList.length (by rw [hx]; simp [DataW.weights])
 have e:=Pd.str (c:=vS shp w) (s:=⟨s.data.toList⟩) (by show s.data.toList.length<=_; omega)
 have e2:(⟨s.data.toList⟩:Str).val = .string s:=by simp [Str.val]
 rw [e2] at e
 exact .cons e .nil
theorem gm {H:Type} {e:TypeId}:∀ {ds:List (DataW H)} {d:DataW H},d ∈ ds->∀ n ∈ d.weights P e,n ∈ DataW.weightsAll P e ds
 | [],_,h,_,_=>by cases h
 | d0 :: ds,d,h,n,hn=>by
  rw [DataW.weightsAll,List.mem_append]
  rcases List.mem_cons.1 h with rfl | h
  ·exact .inl hn
  ·exact .inr (gm h n hn)
theorem vG {s:Sh} {xs:List (den s)} {y:den s}:(xs++[y]).flatMap (cellsOf s)=xs.flatMap (cellsOf s)++cellsOf s y:=by simp
theorem Tr.list {e:TypeId} {s:Sh} (ht:P.underlying t=some (.slice e)) (hC:P.cellsOf e=s.size) (hB:P.bytesOf e=s.bytes) (he:Tr P shp e s):Tr P shp t (.lst s):=fun H enc w fuel cs x hx hw hlt=>by
 have hp:=size_pos s
 rcases DataW.trod_slice ht hx with ⟨rfl,_⟩ | ⟨a,len,cap,elems,rest,n,rfl,rfl,rfl,_,hl,hc,hel,hget,hrest,_⟩
 ·exact ⟨([]:List (den s)),.cons (Pd.nW (.em (a:=none) (b:=true) rfl)) .nil⟩
 ·rw [hC] at *
  have step:∀ m,m<=len->∃ (cells:List Value) (xs:List (den s)),Pds (vS shp w) (xs.flatMap (cellsOf s)) cells/\xs.length=m/\CellsAt w a cells:=by
   intro m
   induction m with
   | zero=>intro _; exact ⟨[],[],.nil,rfl,CellsAt.nil⟩
   | succ m ih=>
    intro hm
    obtain ⟨cells,xs,h1,h2,h3⟩:=ih (by omega)
    have hg:=hget m (by omega)
    have hem:elems[m]? = some (elems[m]'(by omega)):=List.getElem?_eq_getElem (by omega)
    rw [hem,Option.bind_eq_some_iff] at hg
    obtain ⟨cs,hcs,htr⟩:=hg
    have hmem:elems[m]'(by omega) ∈ elems:=List.getElem_mem _
    obtain ⟨y,hy⟩:=he H enc w n cs _ htr
     (fun k hk=>hw k (by
      simp only [DataW.weights,ht,List.mem_cons,List.mem_append]
      exact .inr (.inl (gm (List.mem_map_of_mem hmem) k hk))))
     (fun q hq=>hlt q (by
      simp only [List.mem_append,List.mem_flatMap]
      exact .inr ⟨_,.inl hmem,hq⟩))
    obtain ⟨_,hcl,hat⟩:=World.cells?_some hcs
    refine ⟨cells++cs,xs++[y],by rw [vG]; exact h1.append hy,by simp [h2],fun j v hv=>?_⟩
    have hfl:cells.length=m*s.size:=by rw [<- h1.length,bD,h2]
    by_cases hj:j<m*s.size
    ·rw [List.getElem?_append_left (by omega)] at hv
     exact h3 j v hv
    ·rw [List.getElem?_append_right (by omega),hfl] at hv
     have hj2:=DU hv
     have:=hat (j - m*s.size) (by omega)
     rw [hv,add_add,show m*s.size+(j - m*s.size)=j by omega] at this
     exact this
  obtain ⟨cells,xs,h1,h2,h3⟩:=step len (Nat.le_refl _)
  have hwt:(elems.length+rest.length)*P.bytesOf e<=140737488351232:=hw _ (by simp [DataW.weights,ht])
  refine ⟨xs,.cons ?_ .nil⟩
  subst h2
  refine .fz (by omega) hc ?_ h1 ?_
  ·rw [hB] at hwt
   have:xs.length*s.bytes<=(elems.length+rest.length)*s.bytes:=Nat.mul_le_mul_right _ (by omega)
   omega
  ·by_cases h0:xs.length=0
   ·left; exact List.eq_nil_of_length_eq_zero h0
   ·right
    refine ⟨a,rfl,Fp ?_,h3⟩
    have:MemPlace.cell a.block (a.off+0) ∈ MemPlace.row a ((elems.length+rest.length)*s.size):=MemPlace.mem_row.2 ⟨0,Nat.mul_pos (by omega) hp,rfl⟩
    exact hlt _ (List.mem_append_left _ this)
theorem sI.nil {o:Nat}:sI P shp [] o []:=fun H enc w fuel cs xs hl _ _ _ _=>⟨[],rfl,by rw [List.drop_eq_nil_of_le (by simp only [Gu] at hl; omega)]; exact .nil⟩
theorem sI.cons {f:Go.Field} {fs:List Go.Field} {o:Nat} {s:Sh} {ss:List Sh} (h:Tr P shp f.type s) (ho:f.offset=o) (hC:P.cellsOf f.type=s.size) (hr:sI P shp fs (o+s.size) ss):sI P shp (f :: fs) o (s :: ss):=fun H enc w fuel cs xs hl hx hf hw hlt=>by
 match xs,hx with
 | x :: xs,hx=>
  have hl':cs.length=o+(s.size+Gu ss):=hl
  have h1:=hf 0 f rfl
  rw [ho,hC] at h1
  obtain ⟨y,hy⟩:=h H enc w fuel _ x h1 (fun n hn=>hw n (by simp [DataW.weightsEach,hn])) (fun q hq=>hlt q (by simp [hq]))
  obtain ⟨z,hz1,hz2⟩:=hr H enc w fuel cs xs (by omega) (by simpa using hx) (fun i f' hi=>by simpa using hf (i+1) f' (by simpa using hi)) (fun n hn=>hw n (by simp only [List.map_cons,DataW.weightsEach,List.mem_append]; exact .inr hn)) (fun q hq=>hlt q (by simp only [List.flatMap_cons,List.mem_append]; exact .inr hq))
  refine ⟨cellsOf s y++z,⟨y,z,rfl,hz1⟩,?_⟩
  have:=hy.append hz2
  rwa [<- List.drop_drop,List.take_append_drop] at this
theorem Tr.struct {s:Sh} {ss:List Sh} {fs:Array Go.Field} (ht:P.underlying t=some (.struct fs)) (hC:P.cellsOf t=Gu ss) (hs:∀ asx,Eu ss asx->∃ y:den s,asx=cellsOf s y) (h:sI P shp fs.toList 0 ss):Tr P shp t s:=fun H enc w fuel cs x hx hw hlt=>by
 obtain ⟨xs,n,_,rfl,hl,hxl,hf⟩:=DataW.trod_struct ht hx
 obtain ⟨asx,h1,h2⟩:=h H enc w n cs xs (by omega) (by simpa using hxl) (fun i f hi=>hf i f (by simpa using hi)) (fun k hk=>hw k (by simpa [DataW.weights,ht] using hk)) hlt
 obtain ⟨y,rfl⟩:=hs asx h1
 exact ⟨y,by simpa using h2⟩
end
section
variable {H:Type} {enc:TypeId × Value->H} {P:Program} {shp:TypeId->Option Sh}
structure Ar (enc:TypeId × Value->H) (P:Program) (W:World) (t:TypeId) (v:Value):Prop where
 form:∃ base,Value.okWide P W .any base t v
 read:∃ d p fuel,DataW.trod enc P W 0 (fun _=>true) true fuel t v.cells.toList=some (d,p)/\(∀ n ∈ d.weights P t,n<=140737488351232)/\(∀ q ∈ p,q.block<W.heap.size)
variable {W:World} {t:TypeId} {v:Value}
theorem Ar.rp {s:Sh} (h:Ar enc P W t v) (ht:Tr P shp t s):∃ y:den s,Pds (vS shp W) (cellsOf s y) v.cells.toList:=by
 obtain ⟨d,p,fuel,h1,h2,h3⟩:=h.read
 exact ht H enc W fuel _ _ h1 h2 h3
theorem sX {a:AV} {u:Value} (h:Pds (vS shp W) [a] [u]):cA (vS shp W) [] (.c a) u:=by cases h with | cons h1 _=>exact gk h1
theorem Ar.int (h:Ar enc P W t v) (ht:P.underlying t=some (.int .i64)):∃ y:Int,cA (vS shp W) [] (.c (.int y)) v:=by
 obtain ⟨base,hf⟩:=h.form
 obtain ⟨n,rfl⟩:=okWide_int ht hf
 obtain ⟨y,h1⟩:=h.rp (shp:=shp) (Tr.int ht)
 exact ⟨y,sX (by simpa [Value.cells,cellsOf] using h1)⟩
theorem Ar.u8 (h:Ar enc P W t v) (ht:P.underlying t=some (.int .u8)):∃ y:UInt8,cA (vS shp W) [] (.c (.u8 y)) v:=by
 obtain ⟨base,hf⟩:=h.form
 obtain ⟨n,rfl⟩:=okWide_int ht hf
 obtain ⟨y,h1⟩:=h.rp (shp:=shp) (Tr.u8 ht)
 exact ⟨y,sX (by simpa [Value.cells,cellsOf] using h1)⟩
theorem Ar.bool (h:Ar enc P W t v) (ht:P.underlying t=some .bool):∃ y:Bool,cA (vS shp W) [] (.c (.bool (.atom y))) v:=by
 obtain ⟨base,hf⟩:=h.form
 obtain ⟨b,rfl⟩:=okWide_bool ht hf
 exact ⟨b,Pd.bool (e:=.atom b)⟩
theorem Ar.list {e:TypeId} {s:Sh} (h:Ar enc P W t v) (hu:P.underlying t=some (.slice e)) (ht:Tr P shp t (.lst s)):∃ xs:List (den s),cA (vS shp W) [] (.c (.fz s xs)) v:=by
 obtain ⟨base,hf⟩:=h.form
 obtain ⟨a,len,cap,rfl⟩:=okWide_slice hu hf
 obtain ⟨y,h1⟩:=h.rp ht
 exact ⟨y,sX (by simpa [Value.cells,cellsOf] using h1)⟩
theorem CM {f:Nat} {args:List TV1} {pre:List Prop} {e:BE} {vs:List Value} (h:Sat P shp f args [] ⟨pre,[.c (.bool e)],none,false⟩) (he:e.val=true) (hv:All2 (cA (vS shp W) []) args vs):gH P f vs.toArray W fun r W'=>r = .bool true/\Kp [] W W':=by
 refine (h.2 ⟨shp,W.heap.size,fun _=>False⟩ [] W vs rfl ⟨.nil,fun _ _ _ _ _ h=>by simp at h,fun _ _ _ h=>by simp at h,fun _ h=>h.elim,Nat.le_refl _⟩ hv).mono fun v w' ⟨us,h1,h2,h3⟩=>⟨?_,h2⟩
 cases h3 with | cons h4 h5=>
 cases h5
 have h4:Pd _ (.bool e) _:=h4
 cases h4
 rw [h1,he]; rfl
theorem BC {base:Nat} {ts:List TypeId} {args:Array Value} {ds:List (DataW H)} {p:List MemPlace} (hf:∀ (j:Nat) t v,ts[j]? = some t->args[j]? = some v->Value.okWide P W .any base t v)
  (h:DataW.TrodAll enc P W 0 (fun _=>true) true ts args.toList ds p) (hw:∀ n ∈ DataW.weightsEach P ts ds,n<=140737488351232) (hlt:∀ q ∈ p,q.block<W.heap.size) :
  args.size=ts.length/\∀ (j:Nat) t v,ts[j]? = some t->args[j]? = some v->Ar enc P W t v:=by
 have key:∀ (ts:List TypeId) (vs:List Value) (ds:List (DataW H)) (p:List MemPlace),DataW.TrodAll enc P W 0 (fun _=>true) true ts vs ds p->(∀ n ∈ DataW.weightsEach P ts ds,n<=140737488351232)->(∀ q ∈ p,q.block<W.heap.size) ->
   vs.length=ts.length/\∀ (j:Nat) t v,ts[j]? = some t->vs[j]? = some v->∃ d p fuel,DataW.trod enc P W 0 (fun _=>true) true fuel t v.cells.toList=some (d,p)/\(∀ n ∈ d.weights P t,n<=140737488351232)/\(∀ q ∈ p,q.block<W.heap.size):=by
  intro ts
  induction ts with
  | nil=>intro vs ds p h _ _; obtain ⟨rfl,_,_⟩:=trodAll_nil h; exact ⟨rfl,fun j t v h=>by simp at h⟩
  | cons t ts ih=>
   intro vs ds p h hw hlt
   obtain ⟨v,vs,d,ds,p1,p2,rfl,rfl,rfl,h1,h2⟩:=trodAll_cons h
   obtain ⟨k1,k2⟩:=ih vs ds p2 h2 (fun n hn=>hw n (by rw [DataW.weightsEach,List.mem_append]; exact .inr hn)) (fun q hq=>hlt q (List.mem_append_right _ hq))
   refine ⟨by simp [k1],fun j t' v' ht hv=>?_⟩
   cases j with
   | zero=>
    simp at ht hv
    subst ht; subst hv
    obtain ⟨fuel,hf⟩:=h1
    exact ⟨d,p1,fuel,hf,fun n hn=>hw n (by rw [DataW.weightsEach,List.mem_append]; exact .inl hn),fun q hq=>hlt q (List.mem_append_left _ hq)⟩
   | succ j=>exact k2 j t' v' (by simpa using ht) (by simpa using hv)
 obtain ⟨k1,k2⟩:=key ts args.toList ds p h hw hlt
 exact ⟨by simpa using k1,fun j t v ht hv=>⟨⟨base,hf j t v ht hv⟩,k2 j t v ht (by simpa using hv)⟩⟩
theorem vY (hl:laidOutB P=true) {W':World} (hb:Below W.heap.size W W'):∀ (ts:List TypeId) (vs:List Value) (ds:List (DataW H)) (p:List MemPlace),ts.all (fun t=>P.readableRec t && decide (t<P.types.size))=true->DataW.TrodAll enc P W 0 (fun _=>true) true ts vs ds p->(∀ q ∈ p,q.block<W.heap.size) ->
  DataW.TrodAll enc P W' 0 (fun b=>decide (b<W.heap.size)) true ts vs ds p:=by
 intro ts
 induction ts with
 | nil=>intro vs ds p _ h _; obtain ⟨rfl,rfl,rfl⟩:=trodAll_nil h; rfl
 | cons t ts ih=>
  intro vs ds p hr h hlt
  obtain ⟨v,vs,d,ds,p1,p2,rfl,rfl,rfl,h1,h2⟩:=trodAll_cons h
  rw [List.all_cons,Bool.and_eq_true,Bool.and_eq_true,decide_eq_true_eq] at hr
  exact ⟨p1,p2,Below.trod hl hr.1.1 hr.1.2 h1 hb fun q hq=>hlt q (List.mem_append_left _ hq),ih vs ds p2 hr.2 h2 fun q hq=>hlt q (List.mem_append_right _ hq),rfl⟩
theorem xM {fn:Func} {s:ChangeSpec} {tb:TypeId} {W':World} {args:Array Value} {ds:List (DataW H)} {p:List MemPlace} (hl:laidOutB P=true)
  (hrow:fn.params.toList.all (fun t=>P.readableRec t && decide (t<P.types.size))=true) (hr:fn.resultTypes = #[tb]) (hb:P.underlying tb=some .bool) (hv:s.vars=[])
  (hs:s.fn H (ds++[])={ results:=[.lit (.bool true)],args:=ds }) (hW:DataW.Whole enc P fn.params.toList s.vars false W args.toList ds [] p) (hA:DataW.TrodAll enc P W 0 (fun _=>true) true fn.params.toList args.toList ds p) (hlt:∀ q ∈ p,q.block<W.heap.size) (hk:Kp [] W W') :
  s.post enc P fn false true false false W args (.bool true) W':=by
 refine ⟨ds,[],p,[],p,[],hW,?_,?_,?_,hk.below.frame _,fun h=>by cases h⟩
 ·rw [hs,hr]
  exact trodAll_mk1 ⟨1,by simp [DataW.trod,Value.cells,hb]⟩
 ·rw [hs]
  exact vY hl hk.below _ _ _ _ hrow hA hlt
 ·rw [hs,hv]; rfl
theorem AF {C:Checked} {os:Os} {f:FuncId} {fn:Func} {s:ChangeSpec} {conds:List PathCond} {tb:TypeId} (own:ownKnob C.prog.godebug=none) (started:os.Started) (noInit:C.prog.inits.idxOf? f=none) (hfn:C.prog.funcs[f]? = some fn)
  (witness:∃ (w:World) (tape:Tape) (i:Input),w.os=os/\(w.forCall tape i).Shaped C.prog/\i.vars=[]/\Input.okWide C.prog (w.forCall tape i) .any w.heap.size f i /\
   s.pre6 enc C.prog fn conds false (w.forCall tape i).memory i.args/\({}:Assume).holds C.prog (lone (Frame.enter C.prog f i.args .normal) [] (w.forCall tape i)))
  (hl:laidOutB C.prog=true) (hrow:fn.params.toList.all (fun t=>C.prog.readableRec t && decide (t<C.prog.types.size))=true) (hr:fn.resultTypes = #[tb]) (hb:C.prog.underlying tb=some .bool) (hv:s.vars=[])
  (hs:∀ ds:List (DataW H),ds.length=fn.params.size->s.fn H ds={ results:=[.lit (.bool true)],args:=ds })
  (law:∀ (W:World) (args:Array Value),args.size=fn.params.toList.length->(∀ (j:Nat) t v,fn.params.toList[j]? = some t->args[j]? = some v->Ar enc C.prog W t v)->gH C.prog f args W fun r W'=>r = .bool true/\Kp [] W W') :
  ReturnsInHanded {} C os f .any (s.pre6 enc C.prog fn conds false) (s.post enc C.prog fn false true false false):=by
 refine returnsInHanded_of_change_sized own started noInit hfn witness ?_
 intro W base args ds gs before hval hW _ hsz _
 have hW0:=hW
 obtain ⟨p,q,hA,hV,rfl,_,_⟩:=hW
 rw [hv] at hV
 obtain ⟨rfl,rfl⟩:=trodVars_none hV
 simp only [List.append_nil] at hW0 hsz
 have hlt:∀ x ∈ p,x.block<W.heap.size:=fun x hx=>by simpa using hW0.lt x hx
 have hwt:∀ n ∈ DataW.weightsEach C.prog fn.params.toList ds,n<=140737488351232:=fun n hn=>by
  have hmem:n ∈ DataW.weightsEach C.prog (fn.params.toList++s.plain.varTypes C.prog) ds:=by
   have:∀ (ts us:List TypeId) (ds:List (DataW H)),n ∈ DataW.weightsEach C.prog ts ds->n ∈ DataW.weightsEach C.prog (ts++us) ds:=by
    intro ts
    induction ts with
    | nil=>intro us ds h; simp [DataW.weightsEach] at h
    | cons t ts ih=>
     intro us ds h
     cases ds with
     | nil=>simp [DataW.weightsEach] at h
     | cons d ds=>
      rw [DataW.weightsEach,List.mem_append] at h
      rw [List.cons_append,DataW.weightsEach,List.mem_append]
      exact h.imp id (ih us ds)
   exact this _ _ _ hn
  exact of_decide_eq_true (List.all_eq_true.1 hsz n hmem)
 obtain ⟨hsize,har⟩:=BC (fun j t v ht hv=>hval j t v (by simpa using ht) hv) hA hwt hlt
 have hdl:ds.length=fn.params.size:=by
  have:∀ (ts:List TypeId) (vs:List Value) (ds:List (DataW H)) (p:List MemPlace),DataW.TrodAll enc C.prog W 0 (fun _=>true) true ts vs ds p->ds.length=ts.length:=by
   intro ts
   induction ts with
   | nil=>intro vs ds p h; obtain ⟨_,rfl,_⟩:=trodAll_nil h; rfl
   | cons t ts ih=>intro vs ds p h; obtain ⟨v,vs,d,ds,p1,p2,rfl,rfl,rfl,_,h2⟩:=trodAll_cons h; simp [ih vs ds p2 h2]
  simpa using this _ _ _ _ hA
 refine Calls.mono (law W args hsize har) fun e W' ⟨v,he,hv',hk⟩=>⟨v,he,?_⟩
 subst hv'
 exact xM hl hrow hr hb hv (by rw [List.append_nil]; exact hs ds hdl) hW0 hA hlt hk
end
end Go.Proofs.Ytdggohppeeaipaa
namespace Go.Proofs.Ytdggohppeeaipaa
open Go.RowKit Go.ChangeShapes Go.WideShapes
theorem xY:ownKnob Try.prog.godebug=none:=by kernel_rfl
theorem Af:laidOutB Try.prog=true:=by kernel_rfl
theorem HS:Tr Try.prog (au aJ) 42 (.nm .command):=Tr.struct (ss:=[.int,.int,.int,.int,.int,.int,(.lst .int),.str]) Try.underlying42 (by kernel_rfl) (fun cells h=>by
 obtain ⟨y0,l0,rfl,y1,l1,rfl,y2,l2,rfl,y3,l3,rfl,y4,l4,rfl,y5,l5,rfl,y6,l6,rfl,y7,l7,rfl,rfl⟩:=h
 exact ⟨⟨y0,y1,y2,y3,y4,y5,y6,y7⟩,rfl⟩) (sI.cons (Tr.int Try.underlying3) rfl (by kernel_rfl) (sI.cons (Tr.int Try.underlying3) rfl (by kernel_rfl) (sI.cons (Tr.int Try.underlying3) rfl (by kernel_rfl) (sI.cons (Tr.int Try.underlying3) rfl (by kernel_rfl) (sI.cons (Tr.int Try.underlying3) rfl (by kernel_rfl) (sI.cons (Tr.int Try.underlying3) rfl (by kernel_rfl) (sI.cons (Tr.list Try.underlying34 (by kernel_rfl) (by kernel_rfl) (Tr.int Try.underlying3)) rfl (by kernel_rfl) (sI.cons (Tr.str Try.underlying9) rfl (by kernel_rfl) (sI.nil)))))))))
set_option maxRecDepth 100000 in
theorem lq (os:Os) (started:os.Started) (H:Type) (enc:TypeId × Value->H) :
  ReturnsInHanded {} Try.checked os 3 .any (Rows.modelOnceSpec.pre6 enc Try.prog Try.f3 Rows.modelOnceRow.domain false) (Rows.modelOnceSpec.post enc Try.prog Try.f3 false true false false):=by
 refine AF (C:=Try.checked) xY started (by kernel_rfl) Try.func3 (ChangeSpec.witness6 (enc:=enc) (C:=Try.checked) false ⟨#[],#[.slice none 0 0],[]⟩ 8 (by kernel_rfl) (by kernel_rfl) (by kernel_rfl) (by kernel_rfl)) Af (by kernel_rfl) (by kernel_rfl) Try.underlying4 rfl (fun ds h=>?_) ?_
 ·match ds,h with
  | [d0],_=>rfl
 ·intro W args hs ha
  obtain ⟨l⟩:=args
  match l,hs with
  | [v0],_=>
   obtain ⟨x0,h0⟩:=Ar.list (shp:=au aJ) (ha 0 22 _ rfl rfl) Try.underlying22 (Tr.list Try.underlying22 (by kernel_rfl) (by kernel_rfl) (HS))
   exact CM (Da x0) rfl (.cons h0 .nil)
theorem modelOnce_holds:Rows.ModelOnceSaid:=
 OpenClaim.holds_of_wide 3 Try.f3 rfl rfl rfl rfl rfl rfl rfl ⟨rfl,rfl,rfl,rfl,rfl⟩ rfl rfl rfl rfl rfl (by kernel_rfl) Try.func3 (by kernel_rfl)
  (of_decide_eq_true (by kernel_rfl)) (by unfold Func.isWrapper; first | (rw [if_pos (by decide +kernel)]; kernel_rfl) | (rw [if_neg (by decide +kernel)]; exact ⟨rfl,rfl⟩))
  (fun os started H enc _=>lq os started H enc)
end Go.Proofs.Ytdggohppeeaipaa
