/- What leads to the law, part 5. Conditions: each lemma's own. -/
import Derived.Test.YtladifkbefehdaaGreatKMQM4
set_option linter.unusedVariables false
set_option linter.unusedSimpArgs false
namespace Go.Proofs.YtladifkbefehdaaGreat
open Go.RowKit
theorem qU (l:List Snap) (r0:Int):cw tyT vN [] Tryz.f150 [.c (.fz (.nm .snap) (l))] [] [.c (.int (r0))]=((fun (q1:den Sh.int)=>(fun (q0:List Int)=>l.length*(64:Nat)<=(140737488355328:Nat)->nch l<=(1048576:Nat)/\(I64 (q0.getD (0:Nat) q1)->I64 (q0.getD (1:Nat) q1)->I64 (q0.getD (2:Nat) q1)->I64 (q0.getD (3:Nat) q1)->I64 (q0.getD (4:Nat) q1)->I64 (q0.getD (5:Nat) q1)->I64 (q0.getD (6:Nat) q1)->I64 (q0.getD (7:Nat) q1)->I64 (q0.getD (8:Nat) q1)->I64 (q0.getD (9:Nat) q1)->I64 (q0.getD (10:Nat) q1)->I64 (q0.getD (11:Nat) q1)->I64 (q0.getD (12:Nat) q1)->I64 (q0.getD (13:Nat) q1)->I64 (q0.getD (14:Nat) q1)->I64 (q0.getD (15:Nat) q1)->I64 (q0.getD (16:Nat) q1)->I64 (q0.getD (17:Nat) q1)->I64 (q0.getD (18:Nat) q1)->I64 (q0.getD (19:Nat) q1)->I64 (q0.getD (20:Nat) q1)->I64 (q0.getD (21:Nat) q1)->I64 (q0.getD (22:Nat) q1)->I64 (q0.getD (23:Nat) q1)->I64 (q0.getD (24:Nat) q1)->I64 (q0.getD (25:Nat) q1)->I64 (q0.getD (26:Nat) q1)->I64 (q0.getD (27:Nat) q1)->I64 (q0.getD (28:Nat) q1)->I64 (q0.getD (29:Nat) q1)->I64 (q0.getD (30:Nat) q1)->I64 (q0.getD (31:Nat) q1)->I64 (q0.getD (32:Nat) q1)->I64 (q0.getD (33:Nat) q1)->I64 (q0.getD (34:Nat) q1)->I64 (q0.getD (35:Nat) q1)->I64 (q0.getD (36:Nat) q1)->I64 (q0.getD (37:Nat) q1)->I64 (q0.getD (38:Nat) q1)->I64 (q0.getD (39:Nat) q1)->I64 (q0.getD (40:Nat) q1)->I64 (q0.getD (41:Nat) q1)->I64 (q0.getD (42:Nat) q1)->I64 (q0.getD (43:Nat) q1)->I64 (q0.getD (44:Nat) q1)->I64 (q0.getD (45:Nat) q1)->I64 (q0.getD (46:Nat) q1)->I64 (q0.getD (47:Nat) q1)->I64 (q0.getD (48:Nat) q1)->I64 (q0.getD (49:Nat) q1)->I64 (q0.getD (50:Nat) q1)->I64 (q0.getD (51:Nat) q1)->I64 (q0.getD (52:Nat) q1)->I64 (q0.getD (53:Nat) q1)->I64 (q0.getD (54:Nat) q1)->I64 (q0.getD (55:Nat) q1)->I64 (q0.getD (56:Nat) q1)->I64 (q0.getD (57:Nat) q1)->I64 (q0.getD (58:Nat) q1)->I64 (q0.getD (59:Nat) q1)->I64 (q0.getD (60:Nat) q1)->I64 (q0.getD (61:Nat) q1)->I64 (q0.getD (62:Nat) q1)->I64 (q0.getD (63:Nat) q1)->I64 (q0.getD (64:Nat) q1)->(nh Sh.int q0 (0:Nat) (65:Nat)).length=(65:Nat)/\((gF (dL (nh Sh.int q0 (0:Nat) (65:Nat))) (64:Nat)).length*(8:Nat)<=(140737488355328:Nat)->(↑(gF (dL (nh Sh.int q0 (0:Nat) (65:Nat))) (64:Nat)).length:Int)=r0))) (bM l)) (dflt Sh.int)):=by kernel_rfl
theorem rA (l:List Snap) (h0:nch l<=1048576):Sat Tryz.prog (ai tyT) 150 [.c (.fz (.nm .snap) (l))] [] ⟨[nch l<=1048576],[.c (.int (((distF l:Int))))],none,false⟩:=by
 refine aM nT [] Tryz.func150 (by decide) (by kernel_rfl) ?_
 rw [qU]
 (repeat' (first | with_reducible apply bP | with_reducible refine bQ ?_ | intro))
 all_goals (first | exact cn | exact (lY 65 0) | exact (by rw [gq (gf _)]; exact xj _))
theorem Fv (l:List Snap) (m:List Int) (r0:Int):cw tyT vN [] Tryz.f178 [.c (.fz (.nm .snap) (l)),.c (.fz .int (m))] [] [.c (.int (r0))]=((fun (q3:Nat)=>(fun (q2:Nat)=>(fun (q1:den Sh.int)=>(fun (q0:List Int)=>l.length*(64:Nat)<=(140737488355328:Nat)->m.length*(8:Nat)<=(140737488355328:Nat)->nch l<=(1048576:Nat)/\(I64 (q0.getD q2 q1)->I64 (q0.getD (1:Nat) q1)->I64 (q0.getD (2:Nat) q1)->I64 (q0.getD (3:Nat) q1)->I64 (q0.getD (4:Nat) q1)->I64 (q0.getD (5:Nat) q1)->I64 (q0.getD (6:Nat) q1)->I64 (q0.getD (7:Nat) q1)->I64 (q0.getD (8:Nat) q1)->I64 (q0.getD (9:Nat) q1)->I64 (q0.getD (10:Nat) q1)->I64 (q0.getD (11:Nat) q1)->I64 (q0.getD (12:Nat) q1)->I64 (q0.getD (13:Nat) q1)->I64 (q0.getD (14:Nat) q1)->I64 (q0.getD (15:Nat) q1)->I64 (q0.getD (16:Nat) q1)->I64 (q0.getD (17:Nat) q1)->I64 (q0.getD (18:Nat) q1)->I64 (q0.getD (19:Nat) q1)->I64 (q0.getD (20:Nat) q1)->I64 (q0.getD (21:Nat) q1)->I64 (q0.getD (22:Nat) q1)->I64 (q0.getD (23:Nat) q1)->I64 (q0.getD (24:Nat) q1)->I64 (q0.getD (25:Nat) q1)->I64 (q0.getD (26:Nat) q1)->I64 (q0.getD (27:Nat) q1)->I64 (q0.getD (28:Nat) q1)->I64 (q0.getD (29:Nat) q1)->I64 (q0.getD (30:Nat) q1)->I64 (q0.getD (31:Nat) q1)->I64 (q0.getD (32:Nat) q1)->I64 (q0.getD (33:Nat) q1)->I64 (q0.getD (34:Nat) q1)->I64 (q0.getD (35:Nat) q1)->I64 (q0.getD (36:Nat) q1)->I64 (q0.getD (37:Nat) q1)->I64 (q0.getD (38:Nat) q1)->I64 (q0.getD (39:Nat) q1)->I64 (q0.getD (40:Nat) q1)->I64 (q0.getD (41:Nat) q1)->I64 (q0.getD (42:Nat) q1)->I64 (q0.getD (43:Nat) q1)->I64 (q0.getD (44:Nat) q1)->I64 (q0.getD (45:Nat) q1)->I64 (q0.getD (46:Nat) q1)->I64 (q0.getD (47:Nat) q1)->I64 (q0.getD (48:Nat) q1)->I64 (q0.getD (49:Nat) q1)->I64 (q0.getD (50:Nat) q1)->I64 (q0.getD (51:Nat) q1)->I64 (q0.getD (52:Nat) q1)->I64 (q0.getD (53:Nat) q1)->I64 (q0.getD (54:Nat) q1)->I64 (q0.getD (55:Nat) q1)->I64 (q0.getD (56:Nat) q1)->I64 (q0.getD (57:Nat) q1)->I64 (q0.getD (58:Nat) q1)->I64 (q0.getD (59:Nat) q1)->I64 (q0.getD (60:Nat) q1)->I64 (q0.getD (61:Nat) q1)->I64 (q0.getD (62:Nat) q1)->I64 (q0.getD (63:Nat) q1)->I64 (q0.getD (64:Nat) q1)->(∀ (i:Nat),(fun (q4:Int)=>(0:Int)<=q4/\q4+(↑m.length:Int)<=(4611686018427387904:Int)) ((nh Sh.int q0 q2 q3).getD i (0:Int)))/\(nh Sh.int (cX (nh Sh.int q0 q2 q3) m) q2 q3).length=q3/\((gF (dL (nh Sh.int (cX (nh Sh.int q0 q2 q3) m) q2 q3)) (64:Nat)).length*(8:Nat)<=(140737488355328:Nat)->(↑(gF (dL (nh Sh.int (cX (nh Sh.int q0 q2 q3) m) q2 q3)) (64:Nat)).length:Int)=r0))) (bM l)) (dflt Sh.int)) (0:Nat)) (65:Nat)):=by kernel_rfl
theorem Fc (l:List Snap) (m:List Int) (h0:nch l<=1048576):Sat Tryz.prog (ai tyT) 178 [.c (.fz (.nm .snap) (l)),.c (.fz .int (m))] [] ⟨[nch l<=1048576],[.c (.int (((distF (l++[⟨0,0,m,false,⟨[]⟩⟩]):Int))))],none,false⟩:=by
 refine aM nT [] Tryz.func178 (by decide) (by kernel_rfl) ?_
 rw [Fv]
 (repeat' (first | with_reducible apply bP | with_reducible refine bQ ?_ | intro))
 all_goals (first | exact cn | exact (lY 65 0) | exact (wV (s:=.int) (by assumption) (by assumption) _).1 | exact (wV (s:=.int) (by assumption) (by assumption) _).2 | exact (by rw [gq (s:=.int) (xs:=cX _ _) (by rw [m_,lY]),gq (gf l)]; have:=xj (l++[Snap.mk 0 0 m false ⟨[]⟩]); rw [iq] at this; exact this))
def jV:cd:=(bq 178 (bm (ah (kC (cL (.nm .snap))) (ah (kC (cL .int)) aK)) aJ fun (l,m,_) (_)=>⟨[nch l<=1048576],[.c (.int (((distF (l++[⟨0,0,m,false,⟨[]⟩⟩]):Int))))],none,false⟩) (bq 150 (bm (ah (kC (cL (.nm .snap))) aK) aJ fun (l,_) (_)=>⟨[nch l<=1048576],[.c (.int (((distF l:Int))))],none,false⟩) vN))
theorem ej:aN Tryz.prog (ai tyT) jV:=(av (au (ab (al bb) (ab (al bb) ak)) aj fun (l,m,_) (_) hp=>Fc l m (dB hp)) (av (au (ab (al bb) ak) aj fun (l,_) (_) hp=>rA l (dB hp)) nT))
def s_ {α:Type} (l:List α) (i:Nat) (x:α):List α:=l.take i++x :: l.drop i
def Fx {α:Type} (l:List α) (i:Int):List α:=l.take i.toNat++l.drop (i+1).toNat
def bU (s:State) (c:Command):Int:=if 0<=ay Opn.set c.set s.opens/\¬ (s.opens.getD (ay Opn.set c.set s.opens).toNat (dflt (.nm .opn))).client=c.client then -1 else ay Opn.set c.set s.opens
def a_ (s:State) (c:Command):State × Reply:=if 0<=ay Opn.set c.set s.opens then (s,⟨16,(s.opens.getD (ay Opn.set c.set s.opens).toNat (dflt (.nm .opn))).client⟩)
 else ({ s with opens:=s_ s.opens (s.opens.takeWhile fun y=>decide (y.set<c.set)).length ⟨c.set,c.client⟩ },⟨0,0⟩)
def ba (s:State) (c:Command):State × Reply:=if bU s c<0 then (s,⟨15,0⟩) else ({ s with opens:=Fx s.opens (bU s c) },⟨0,0⟩)
def aW (s:State) (c:Command):State × Reply:=
 if bU s c<0 then (s,⟨15,0⟩)
 else if 16<=(s.snaps.length:Int)\/1048576<=s.next then (s,⟨20,0⟩)
 else if ¬ s.quota=0/\s.quota<(distF (s.snaps++[⟨0,0,c.chunks,false,⟨[]⟩⟩]):Int) then (s,⟨19,0⟩)
 else ({ s with next:=s.next+1,opens:=Fx s.opens (bU s c),snaps:=s.snaps++[⟨s.next,c.set,c.chunks,false,⟨[]⟩⟩] },⟨0,s.next⟩)
def aP (s:State) (at_:Nat):State × Reply:=
 if (s.snaps.getD at_ (dflt (.nm .snap))).held=true then (s,⟨17,0⟩)
 else if jw s at_=true then (s,⟨18,0⟩)
 else ({ s with snaps:=bf (s.snaps.getD at_ (dflt (.nm .snap))).id s.snaps },⟨0,(jf s.snaps (s.snaps.getD at_ (dflt (.nm .snap))).id).length⟩)
def bj (s:State) (at_:Nat):State × Reply:=(s,⟨0,(s.snaps.getD at_ (dflt (.nm .snap))).chunks.length⟩)
def bB (b:Bool) (s:State) (at_:Nat):State × Reply:=
 if (s.snaps.getD at_ (dflt (.nm .snap))).held=b then (s,⟨0,0⟩)
 else ({ s with snaps:=s.snaps.set at_ { s.snaps.getD at_ (dflt (.nm .snap)) with held:=b } },⟨0,1⟩)
def de (c:Command) (s:State) (at_:Nat):State × Reply:=({ s with snaps:=s.snaps.set at_ { s.snaps.getD at_ (dflt (.nm .snap)) with tag:=c.text } },⟨0,0⟩)
def dI (c:Command) (s:State):State × Reply:=({ s with keep:=c.n },⟨0,0⟩)
def cR (c:Command) (s:State):State × Reply:=({ s with quota:=c.n },⟨0,distF s.snaps⟩)
theorem cT {α:Type} {key:α->Int} {want:Int} {l:List α} (h:0<=ay key want l):ay key want l<(l.length:Int):=by
 unfold ay at *
 split
 ·rename_i i hi
  have:=(List.findIdx?_eq_some_iff_getElem.1 hi).1
  omega
 ·omega
theorem BY {s:State} {c:Command} (h:0<=bU s c):bU s c+1<=(s.opens.length:Int):=by
 unfold bU at *
 split
 ·rename_i h1; rw [if_pos h1] at h; omega
 ·rename_i h1; rw [if_neg h1] at h
  have:=cT h
  omega
theorem yg (i:Int) (m:List Opn) (l:List Opn) (h0:0<=i/\i<=(l.length:Int)) (h1:l.length<1048576) (h2:m.length=1):Sat Tryz.prog (ai tyT) 176 [.c (.own 0),.c (.int (i)),.c (.fz (.nm .opn) (m))] [.row 63 (.nm .opn) (l)] ⟨[0<=i/\i<=(l.length:Int),l.length<1048576,m.length=1],[.c (.own 0)],some ([.row 63 (.nm .opn) ((l.take i.toNat++m++l.drop i.toNat))]),false⟩:=qH i l m h0 h1 h2
theorem uI (i:Int) (l:List Sess) (m:List Sess) (h0:0<=i/\i<=(l.length:Int)) (h1:l.length<1048576) (h2:m.length=1):Sat Tryz.prog (ai tyT) 64 [.c (.own 0),.c (.int (i)),.c (.own 1)] [.row 82 (.nm .sess) (l),.row 82 (.nm .sess) (m)] ⟨[0<=i/\i<=(l.length:Int),l.length<1048576,m.length=1],[.c (.own 0)],some ([.row 82 (.nm .sess) ((l.take i.toNat++m++l.drop i.toNat)),.row 82 (.nm .sess) ((m))]),false⟩:=pF i l m h0 h1 h2
theorem yk (i:Int) (j:Int) (l:List Opn) (h0:0<=i/\i<(l.length:Int)/\j=i+1):Sat Tryz.prog (ai tyT) 179 [.c (.own 0),.c (.int (i)),.c (.int (j))] [.row 63 (.nm .opn) (l)] ⟨[0<=i/\i<(l.length:Int)/\j=i+1],[.c (.own 0)],some ([.row 63 (.nm .opn) ((l.take i.toNat++l.drop j.toNat))]),false⟩:=sa i j l h0
theorem xI (c:Command) (v:Int) (nx:Int) (kp:Int) (qt:Int) (se:List Sess) (op:List Opn) (sn:List Snap) (r0:Int):cw tyT jV [] Tryz.f177 [.c (.ptr 0 0),.agg (cellsOf (.nm .command) c)] [.box 43 ([.int (v),.int (nx),.int (kp),.int (qt),.own 1,.own 2,.own 3]),.row 82 (.nm .sess) (se),.row 63 (.nm .opn) (op),.row 73 (.nm .snap) (sn)] [.c (.int (r0))]=((fun (q0:Int)=>I64 c.kind->I64 c.client->I64 c.seq->I64 c.set->I64 c.id->I64 c.n->c.chunks.length*(8:Nat)<=(140737488355328:Nat)->c.text.b.length<=(140737488355328:Nat)->I64 q0->((0:Int)<=q0->(0:Int)<=q0/\q0<(↑op.length:Int))/\(((0:Int)<=q0->I64 (op.getD q0.toNat (dflt (Sh.nm NT.opn))).set/\I64 (op.getD q0.toNat (dflt (Sh.nm NT.opn))).client)->((0:Int)<=q0/\¬(op.getD q0.toNat (dflt (Sh.nm NT.opn))).client=c.client->(-1:Int)=r0)/\(q0<(0:Int)\/(op.getD q0.toNat (dflt (Sh.nm NT.opn))).client=c.client->q0=r0))) (ay Opn.set c.set op)):=by kernel_rfl
theorem xG (c:Command) (v:Int) (nx:Int) (kp:Int) (qt:Int) (se:List Sess) (op:List Opn) (sn:List Snap):Sat Tryz.prog (ai tyT) 177 [.c (.ptr 0 0),.agg (cellsOf (.nm .command) c)] [.box 43 ([.int (v),.int (nx),.int (kp),.int (qt),.own 1,.own 2,.own 3]),.row 82 (.nm .sess) (se),.row 63 (.nm .opn) (op),.row 73 (.nm .snap) (sn)] ⟨[],[.c (.int ((bU (State.mk v nx kp qt se op sn) c)))],none,false⟩:=by
 refine aM ej [] Tryz.func177 (by decide) (by kernel_rfl) ?_
 rw [xI]
 (repeat' (first | with_reducible apply bP | with_reducible refine bQ ?_ | intro))
 all_goals (first | exact cn | exact cT aq | (unfold bU; grind))
theorem Kx (c:Command) (v:Int) (nx:Int) (kp:Int) (qt:Int) (se:List Sess) (op:List Opn) (sn:List Snap) (r0:Reply) (r1:Command) (r2:Int) (r3:Int) (r4:Int) (r5:Int) (r6:List Sess) (r7:List Opn) (r8:List Snap):lS tyT jV [] Tryz.f148 [.c (.ptr 0 0),.c (.ptr 1 0)] [.box 24 (cellsOf (.nm .command) (c)),.box 43 ([.int (v),.int (nx),.int (kp),.int (qt),.own 2,.own 3,.own 4]),.row 82 (.nm .sess) (se),.row 63 (.nm .opn) (op),.row 73 (.nm .snap) (sn)] [.agg (cellsOf (.nm .reply) r0)] [.box 24 (cellsOf (.nm .command) (r1)),.box 43 ([.int (r2),.int (r3),.int (r4),.int (r5),.own 2,.own 3,.own 4]),.row 82 (.nm .sess) (r6),.row 63 (.nm .opn) (r7),.row 73 (.nm .snap) (r8)]=((0:Int)=r0.code/\(0:Int)=r0.n/\c.kind=r1.kind/\c.client=r1.client/\c.seq=r1.seq/\c.set=r1.set/\c.id=r1.id/\c.n=r1.n/\c.chunks=r1.chunks/\c.text=r1.text/\v=r2/\nx=r3/\c.n=r4/\qt=r5/\se=r6/\op=r7/\sn=r8):=by kernel_rfl
theorem Mi (c:Command) (v:Int) (nx:Int) (kp:Int) (qt:Int) (se:List Sess) (op:List Opn) (sn:List Snap):Sat Tryz.prog (ai tyT) 148 [.c (.ptr 0 0),.c (.ptr 1 0)] [.box 24 (cellsOf (.nm .command) (c)),.box 43 ([.int (v),.int (nx),.int (kp),.int (qt),.own 2,.own 3,.own 4]),.row 82 (.nm .sess) (se),.row 63 (.nm .opn) (op),.row 73 (.nm .snap) (sn)] ⟨[],[.agg (cellsOf (.nm .reply) ((dI c (State.mk v nx kp qt se op sn)).2))],some ([.box 24 (cellsOf (.nm .command) ((c))),.box 43 ([.int ((((dI c (State.mk v nx kp qt se op sn)).1).version)),.int ((((dI c (State.mk v nx kp qt se op sn)).1).next)),.int ((((dI c (State.mk v nx kp qt se op sn)).1).keep)),.int ((((dI c (State.mk v nx kp qt se op sn)).1).quota)),.own 2,.own 3,.own 4]),.row 82 (.nm .sess) ((((dI c (State.mk v nx kp qt se op sn)).1).sess)),.row 63 (.nm .opn) ((((dI c (State.mk v nx kp qt se op sn)).1).opens)),.row 73 (.nm .snap) ((((dI c (State.mk v nx kp qt se op sn)).1).snaps))]),false⟩:=by
 refine cZ ej [] Tryz.func148 (by decide) (by kernel_rfl) ?_
 rw [Kx]
 (repeat' (first | with_reducible apply bP | with_reducible refine bQ ?_ | intro))
 all_goals (first | exact cn | exact rfl)
theorem JD (c:Command) (v:Int) (nx:Int) (kp:Int) (qt:Int) (se:List Sess) (op:List Opn) (sn:List Snap) (r0:Reply) (r1:Command) (r2:Int) (r3:Int) (r4:Int) (r5:Int) (r6:List Sess) (r7:List Opn) (r8:List Snap):lS tyT jV [] Tryz.f149 [.c (.ptr 0 0),.c (.ptr 1 0)] [.box 24 (cellsOf (.nm .command) (c)),.box 43 ([.int (v),.int (nx),.int (kp),.int (qt),.own 2,.own 3,.own 4]),.row 82 (.nm .sess) (se),.row 63 (.nm .opn) (op),.row 73 (.nm .snap) (sn)] [.agg (cellsOf (.nm .reply) r0)] [.box 24 (cellsOf (.nm .command) (r1)),.box 43 ([.int (r2),.int (r3),.int (r4),.int (r5),.own 2,.own 3,.own 4]),.row 82 (.nm .sess) (r6),.row 63 (.nm .opn) (r7),.row 73 (.nm .snap) (r8)]=(nch sn<=(1048576:Nat)/\(I64 (↑(distF sn):Int)->(0:Int)=r0.code/\(↑(distF sn):Int)=r0.n/\c.kind=r1.kind/\c.client=r1.client/\c.seq=r1.seq/\c.set=r1.set/\c.id=r1.id/\c.n=r1.n/\c.chunks=r1.chunks/\c.text=r1.text/\v=r2/\nx=r3/\kp=r4/\c.n=r5/\se=r6/\op=r7/\sn=r8)):=by kernel_rfl
theorem Jy (c:Command) (v:Int) (nx:Int) (kp:Int) (qt:Int) (se:List Sess) (op:List Opn) (sn:List Snap) (h0:nch sn<=1048576):Sat Tryz.prog (ai tyT) 149 [.c (.ptr 0 0),.c (.ptr 1 0)] [.box 24 (cellsOf (.nm .command) (c)),.box 43 ([.int (v),.int (nx),.int (kp),.int (qt),.own 2,.own 3,.own 4]),.row 82 (.nm .sess) (se),.row 63 (.nm .opn) (op),.row 73 (.nm .snap) (sn)] ⟨[nch sn<=1048576],[.agg (cellsOf (.nm .reply) ((cR c (State.mk v nx kp qt se op sn)).2))],some ([.box 24 (cellsOf (.nm .command) ((c))),.box 43 ([.int ((((cR c (State.mk v nx kp qt se op sn)).1).version)),.int ((((cR c (State.mk v nx kp qt se op sn)).1).next)),.int ((((cR c (State.mk v nx kp qt se op sn)).1).keep)),.int ((((cR c (State.mk v nx kp qt se op sn)).1).quota)),.own 2,.own 3,.own 4]),.row 82 (.nm .sess) ((((cR c (State.mk v nx kp qt se op sn)).1).sess)),.row 63 (.nm .opn) ((((cR c (State.mk v nx kp qt se op sn)).1).opens)),.row 73 (.nm .snap) ((((cR c (State.mk v nx kp qt se op sn)).1).snaps))]),false⟩:=by
 refine cZ ej [] Tryz.func149 (by decide) (by kernel_rfl) ?_
 rw [JD]
 (repeat' (first | with_reducible apply bP | with_reducible refine bQ ?_ | intro))
 all_goals (first | exact cn | exact rfl)
theorem G_ (i:Int) (v:Int) (nx:Int) (kp:Int) (qt:Int) (se:List Sess) (op:List Opn) (sn:List Snap) (r0:Reply) (r1:Int) (r2:Int) (r3:Int) (r4:Int) (r5:List Sess) (r6:List Opn) (r7:List Snap):lS tyT jV [] Tryz.f152 [.c (.ptr 0 0),.c (.int (i))] [.box 43 ([.int (v),.int (nx),.int (kp),.int (qt),.own 1,.own 2,.own 3]),.row 82 (.nm .sess) (se),.row 63 (.nm .opn) (op),.row 73 (.nm .snap) (sn)] [.agg (cellsOf (.nm .reply) r0)] [.box 43 ([.int (r1),.int (r2),.int (r3),.int (r4),.own 1,.own 2,.own 3]),.row 82 (.nm .sess) (r5),.row 63 (.nm .opn) (r6),.row 73 (.nm .snap) (r7)]=((fun (q2:Bool)=>(fun (q1:Prop)=>(fun (q0:den (Sh.nm NT.snap))=>I64 i->(0:Int)<=i/\i<(↑sn.length:Int)/\(I64 q0.id->I64 q0.set->q0.chunks.length*(8:Nat)<=(140737488355328:Nat)->q0.tag.b.length<=(140737488355328:Nat)->(q0.held=true->I64 (17:Int)->I64 (0:Int)->(17:Int)=r0.code/\q1)/\(q0.held=false->(q2=true->I64 (18:Int)->I64 (0:Int)->(18:Int)=r0.code/\q1)/\(q2=false->nch sn<=(1048576:Nat)/\((jf sn q0.id).length*(8:Nat)<=(140737488355328:Nat)->(0:Int)=r0.code/\(↑(jf sn q0.id).length:Int)=r0.n/\v=r1/\nx=r2/\kp=r3/\qt=r4/\se=r5/\op=r6/\bf q0.id sn=r7))))) (sn.getD i.toNat (dflt (Sh.nm NT.snap)))) ((0:Int)=r0.n/\v=r1/\nx=r2/\kp=r3/\qt=r4/\se=r5/\op=r6/\sn=r7)) (jw (State.mk v nx kp qt se op sn) i)):=by kernel_rfl
theorem Gn (i:Int) (v:Int) (nx:Int) (kp:Int) (qt:Int) (se:List Sess) (op:List Opn) (sn:List Snap) (h0:0<=i/\i<(sn.length:Int)) (h1:nch sn<=1048576):Sat Tryz.prog (ai tyT) 152 [.c (.ptr 0 0),.c (.int (i))] [.box 43 ([.int (v),.int (nx),.int (kp),.int (qt),.own 1,.own 2,.own 3]),.row 82 (.nm .sess) (se),.row 63 (.nm .opn) (op),.row 73 (.nm .snap) (sn)] ⟨[0<=i/\i<(sn.length:Int),nch sn<=1048576],[.agg (cellsOf (.nm .reply) ((aP (State.mk v nx kp qt se op sn) i.toNat).2))],some ([.box 43 ([.int ((((aP (State.mk v nx kp qt se op sn) i.toNat).1).version)),.int ((((aP (State.mk v nx kp qt se op sn) i.toNat).1).next)),.int ((((aP (State.mk v nx kp qt se op sn) i.toNat).1).keep)),.int ((((aP (State.mk v nx kp qt se op sn) i.toNat).1).quota)),.own 1,.own 2,.own 3]),.row 82 (.nm .sess) ((((aP (State.mk v nx kp qt se op sn) i.toNat).1).sess)),.row 63 (.nm .opn) ((((aP (State.mk v nx kp qt se op sn) i.toNat).1).opens)),.row 73 (.nm .snap) ((((aP (State.mk v nx kp qt se op sn) i.toNat).1).snaps))]),false⟩:=by
 refine cZ ej [] Tryz.func152 (by decide) (by kernel_rfl) ?_
 rw [G_]
 have hi:((i.toNat:Nat):Int)=i:=by omega
 (repeat' (first | with_reducible apply bP | with_reducible refine bQ ?_ | intro))
 all_goals (first | exact cn | ((simp only [aP,hi]; simp_all) <;> (intros; omega)) | (simp only [aP,hi]; grind))
theorem KT (i:Int) (v:Int) (nx:Int) (kp:Int) (qt:Int) (se:List Sess) (op:List Opn) (sn:List Snap) (r0:Reply) (r1:Int) (r2:Int) (r3:Int) (r4:Int) (r5:List Sess) (r6:List Opn) (r7:List Snap):lS tyT jV [] Tryz.f153 [.c (.int (i)),.c (.ptr 0 0)] [.box 43 ([.int (v),.int (nx),.int (kp),.int (qt),.own 1,.own 2,.own 3]),.row 82 (.nm .sess) (se),.row 63 (.nm .opn) (op),.row 73 (.nm .snap) (sn)] [.agg (cellsOf (.nm .reply) r0)] [.box 43 ([.int (r1),.int (r2),.int (r3),.int (r4),.own 1,.own 2,.own 3]),.row 82 (.nm .sess) (r5),.row 63 (.nm .opn) (r6),.row 73 (.nm .snap) (r7)]=((fun (q0:den (Sh.nm NT.snap))=>I64 i->(0:Int)<=i/\i<(↑sn.length:Int)/\(I64 q0.id->I64 q0.set->q0.chunks.length*(8:Nat)<=(140737488355328:Nat)->q0.tag.b.length<=(140737488355328:Nat)->(0:Int)=r0.code/\(↑q0.chunks.length:Int)=r0.n/\v=r1/\nx=r2/\kp=r3/\qt=r4/\se=r5/\op=r6/\sn=r7)) (sn.getD i.toNat (dflt (Sh.nm NT.snap)))):=by kernel_rfl
theorem Ky (i:Int) (v:Int) (nx:Int) (kp:Int) (qt:Int) (se:List Sess) (op:List Opn) (sn:List Snap) (h0:0<=i/\i<(sn.length:Int)):Sat Tryz.prog (ai tyT) 153 [.c (.int (i)),.c (.ptr 0 0)] [.box 43 ([.int (v),.int (nx),.int (kp),.int (qt),.own 1,.own 2,.own 3]),.row 82 (.nm .sess) (se),.row 63 (.nm .opn) (op),.row 73 (.nm .snap) (sn)] ⟨[0<=i/\i<(sn.length:Int)],[.agg (cellsOf (.nm .reply) ((bj (State.mk v nx kp qt se op sn) i.toNat).2))],some ([.box 43 ([.int ((((bj (State.mk v nx kp qt se op sn) i.toNat).1).version)),.int ((((bj (State.mk v nx kp qt se op sn) i.toNat).1).next)),.int ((((bj (State.mk v nx kp qt se op sn) i.toNat).1).keep)),.int ((((bj (State.mk v nx kp qt se op sn) i.toNat).1).quota)),.own 1,.own 2,.own 3]),.row 82 (.nm .sess) ((((bj (State.mk v nx kp qt se op sn) i.toNat).1).sess)),.row 63 (.nm .opn) ((((bj (State.mk v nx kp qt se op sn) i.toNat).1).opens)),.row 73 (.nm .snap) ((((bj (State.mk v nx kp qt se op sn) i.toNat).1).snaps))]),false⟩:=by
 refine cZ ej [] Tryz.func153 (by decide) (by kernel_rfl) ?_
 rw [KT]
 (repeat' (first | with_reducible apply bP | with_reducible refine bQ ?_ | intro))
 all_goals (first | exact cn | rfl)
theorem Fe (i:Int) (c:Command) (v:Int) (nx:Int) (kp:Int) (qt:Int) (se:List Sess) (op:List Opn) (sn:List Snap) (r0:Reply) (r1:Command) (r2:Int) (r3:Int) (r4:Int) (r5:Int) (r6:List Sess) (r7:List Opn) (r8:List Snap):lS tyT jV [] Tryz.f154 [.c (.int (i)),.c (.ptr 0 0),.c (.ptr 1 0)] [.box 24 (cellsOf (.nm .command) (c)),.box 43 ([.int (v),.int (nx),.int (kp),.int (qt),.own 2,.own 3,.own 4]),.row 82 (.nm .sess) (se),.row 63 (.nm .opn) (op),.row 73 (.nm .snap) (sn)] [.agg (cellsOf (.nm .reply) r0)] [.box 24 (cellsOf (.nm .command) (r1)),.box 43 ([.int (r2),.int (r3),.int (r4),.int (r5),.own 2,.own 3,.own 4]),.row 82 (.nm .sess) (r6),.row 63 (.nm .opn) (r7),.row 73 (.nm .snap) (r8)]=((fun (q0:den (Sh.nm NT.snap))=>I64 i->(0:Int)<=i/\i<(↑sn.length:Int)/\(I64 q0.id->I64 q0.set->q0.chunks.length*(8:Nat)<=(140737488355328:Nat)->q0.tag.b.length<=(140737488355328:Nat)->(0:Int)=r0.code/\(0:Int)=r0.n/\c.kind=r1.kind/\c.client=r1.client/\c.seq=r1.seq/\c.set=r1.set/\c.id=r1.id/\c.n=r1.n/\c.chunks=r1.chunks/\c.text=r1.text/\v=r2/\nx=r3/\kp=r4/\qt=r5/\se=r6/\op=r7/\sn.set i.toNat (Snap.mk q0.id q0.set q0.chunks q0.held c.text)=r8)) (sn.getD i.toNat (dflt (Sh.nm NT.snap)))):=by kernel_rfl
theorem Fm (i:Int) (c:Command) (v:Int) (nx:Int) (kp:Int) (qt:Int) (se:List Sess) (op:List Opn) (sn:List Snap) (h0:0<=i/\i<(sn.length:Int)):Sat Tryz.prog (ai tyT) 154 [.c (.int (i)),.c (.ptr 0 0),.c (.ptr 1 0)] [.box 24 (cellsOf (.nm .command) (c)),.box 43 ([.int (v),.int (nx),.int (kp),.int (qt),.own 2,.own 3,.own 4]),.row 82 (.nm .sess) (se),.row 63 (.nm .opn) (op),.row 73 (.nm .snap) (sn)] ⟨[0<=i/\i<(sn.length:Int)],[.agg (cellsOf (.nm .reply) ((de c (State.mk v nx kp qt se op sn) i.toNat).2))],some ([.box 24 (cellsOf (.nm .command) ((c))),.box 43 ([.int ((((de c (State.mk v nx kp qt se op sn) i.toNat).1).version)),.int ((((de c (State.mk v nx kp qt se op sn) i.toNat).1).next)),.int ((((de c (State.mk v nx kp qt se op sn) i.toNat).1).keep)),.int ((((de c (State.mk v nx kp qt se op sn) i.toNat).1).quota)),.own 2,.own 3,.own 4]),.row 82 (.nm .sess) ((((de c (State.mk v nx kp qt se op sn) i.toNat).1).sess)),.row 63 (.nm .opn) ((((de c (State.mk v nx kp qt se op sn) i.toNat).1).opens)),.row 73 (.nm .snap) ((((de c (State.mk v nx kp qt se op sn) i.toNat).1).snaps))]),false⟩:=by
 refine cZ ej [] Tryz.func154 (by decide) (by kernel_rfl) ?_
 rw [Fe]
 (repeat' (first | with_reducible apply bP | with_reducible refine bQ ?_ | intro))
 all_goals (first | exact cn | exact rfl)
theorem AF (i:Int) (v:Int) (nx:Int) (kp:Int) (qt:Int) (se:List Sess) (op:List Opn) (sn:List Snap) (b:Bool) (r0:Reply) (r1:Int) (r2:Int) (r3:Int) (r4:Int) (r5:List Sess) (r6:List Opn) (r7:List Snap) (r8:Bool):lS tyT jV [] Tryz.f141 [.c (.int (i)),.c (.ptr 0 0),.c (.ptr 4 0)] [.box 43 ([.int (v),.int (nx),.int (kp),.int (qt),.own 1,.own 2,.own 3]),.row 82 (.nm .sess) (se),.row 63 (.nm .opn) (op),.row 73 (.nm .snap) (sn),.box 4 ([.bool (.atom (b))])] [.agg (cellsOf (.nm .reply) r0)] [.box 43 ([.int (r1),.int (r2),.int (r3),.int (r4),.own 1,.own 2,.own 3]),.row 82 (.nm .sess) (r5),.row 63 (.nm .opn) (r6),.row 73 (.nm .snap) (r7),.box 4 ([.bool (.atom (r8))])]=((fun (q0:den (Sh.nm NT.snap))=>I64 i->(0:Int)<=i/\i<(↑sn.length:Int)/\(I64 q0.id->I64 q0.set->q0.chunks.length*(8:Nat)<=(140737488355328:Nat)->q0.tag.b.length<=(140737488355328:Nat)->((q0.held == b)=true->(0:Int)=r0.code/\(0:Int)=r0.n/\v=r1/\nx=r2/\kp=r3/\qt=r4/\se=r5/\op=r6/\sn=r7/\b=r8)/\((q0.held == b)=false->(0:Int)=r0.code/\(1:Int)=r0.n/\v=r1/\nx=r2/\kp=r3/\qt=r4/\se=r5/\op=r6/\sn.set i.toNat (Snap.mk q0.id q0.set q0.chunks b q0.tag)=r7/\b=r8))) (sn.getD i.toNat (dflt (Sh.nm NT.snap)))):=by kernel_rfl
theorem CA (i:Int) (v:Int) (nx:Int) (kp:Int) (qt:Int) (se:List Sess) (op:List Opn) (sn:List Snap) (b:Bool) (h0:0<=i/\i<(sn.length:Int)):Sat Tryz.prog (ai tyT) 141 [.c (.int (i)),.c (.ptr 0 0),.c (.ptr 4 0)] [.box 43 ([.int (v),.int (nx),.int (kp),.int (qt),.own 1,.own 2,.own 3]),.row 82 (.nm .sess) (se),.row 63 (.nm .opn) (op),.row 73 (.nm .snap) (sn),.box 4 ([.bool (.atom (b))])] ⟨[0<=i/\i<(sn.length:Int)],[.agg (cellsOf (.nm .reply) ((bB b (State.mk v nx kp qt se op sn) i.toNat).2))],some ([.box 43 ([.int ((((bB b (State.mk v nx kp qt se op sn) i.toNat).1).version)),.int ((((bB b (State.mk v nx kp qt se op sn) i.toNat).1).next)),.int ((((bB b (State.mk v nx kp qt se op sn) i.toNat).1).keep)),.int ((((bB b (State.mk v nx kp qt se op sn) i.toNat).1).quota)),.own 1,.own 2,.own 3]),.row 82 (.nm .sess) ((((bB b (State.mk v nx kp qt se op sn) i.toNat).1).sess)),.row 63 (.nm .opn) ((((bB b (State.mk v nx kp qt se op sn) i.toNat).1).opens)),.row 73 (.nm .snap) ((((bB b (State.mk v nx kp qt se op sn) i.toNat).1).snaps)),.box 4 ([.bool (.atom ((b)))])]),false⟩:=by
 refine cZ ej [] Tryz.func141 (by decide) (by kernel_rfl) ?_
 rw [AF]
 (repeat' (first | with_reducible apply bP | with_reducible refine bQ ?_ | intro))
 all_goals (first | exact cn | ((simp only [bB]; simp_all) <;> (intros; omega)) | (simp only [bB]; grind))
def oC:cd:=(bq 141 (bm (ah (kC cI) (ah (kC (bJ 0 0)) (ah (kC (bJ 4 0)) aK))) (az (bH 43 (ao cI (ao cI (ao cI (ao cI (ao (bd 1) (ao (bd 2) (ao (bd 3) bF)))))))) (az (bc 82 (.nm .sess)) (az (bc 63 (.nm .opn)) (az (bc 73 (.nm .snap)) (az (bH 4 (ao cB bF)) aJ))))) fun (i,_,_,_) ((v,nx,kp,qt,_,_,_,_),se,op,sn,(b,_),_)=>⟨[0<=i/\i<(sn.length:Int)],[.agg (cellsOf (.nm .reply) ((bB b (State.mk v nx kp qt se op sn) i.toNat).2))],some ([.box 43 ([.int ((((bB b (State.mk v nx kp qt se op sn) i.toNat).1).version)),.int ((((bB b (State.mk v nx kp qt se op sn) i.toNat).1).next)),.int ((((bB b (State.mk v nx kp qt se op sn) i.toNat).1).keep)),.int ((((bB b (State.mk v nx kp qt se op sn) i.toNat).1).quota)),.own 1,.own 2,.own 3]),.row 82 (.nm .sess) ((((bB b (State.mk v nx kp qt se op sn) i.toNat).1).sess)),.row 63 (.nm .opn) ((((bB b (State.mk v nx kp qt se op sn) i.toNat).1).opens)),.row 73 (.nm .snap) ((((bB b (State.mk v nx kp qt se op sn) i.toNat).1).snaps)),.box 4 ([.bool (.atom ((b)))])]),false⟩) (bq 154 (bm (ah (kC cI) (ah (kC (bJ 0 0)) (ah (kC (bJ 1 0)) aK))) (az (bH 24 (qP (.nm .command) bF)) (az (bH 43 (ao cI (ao cI (ao cI (ao cI (ao (bd 2) (ao (bd 3) (ao (bd 4) bF)))))))) (az (bc 82 (.nm .sess)) (az (bc 63 (.nm .opn)) (az (bc 73 (.nm .snap)) aJ))))) fun (i,_,_,_) ((c,_),(v,nx,kp,qt,_,_,_,_),se,op,sn,_)=>⟨[0<=i/\i<(sn.length:Int)],[.agg (cellsOf (.nm .reply) ((de c (State.mk v nx kp qt se op sn) i.toNat).2))],some ([.box 24 (cellsOf (.nm .command) ((c))),.box 43 ([.int ((((de c (State.mk v nx kp qt se op sn) i.toNat).1).version)),.int ((((de c (State.mk v nx kp qt se op sn) i.toNat).1).next)),.int ((((de c (State.mk v nx kp qt se op sn) i.toNat).1).keep)),.int ((((de c (State.mk v nx kp qt se op sn) i.toNat).1).quota)),.own 2,.own 3,.own 4]),.row 82 (.nm .sess) ((((de c (State.mk v nx kp qt se op sn) i.toNat).1).sess)),.row 63 (.nm .opn) ((((de c (State.mk v nx kp qt se op sn) i.toNat).1).opens)),.row 73 (.nm .snap) ((((de c (State.mk v nx kp qt se op sn) i.toNat).1).snaps))]),false⟩) (bq 153 (bm (ah (kC cI) (ah (kC (bJ 0 0)) aK)) (az (bH 43 (ao cI (ao cI (ao cI (ao cI (ao (bd 1) (ao (bd 2) (ao (bd 3) bF)))))))) (az (bc 82 (.nm .sess)) (az (bc 63 (.nm .opn)) (az (bc 73 (.nm .snap)) aJ)))) fun (i,_,_) ((v,nx,kp,qt,_,_,_,_),se,op,sn,_)=>⟨[0<=i/\i<(sn.length:Int)],[.agg (cellsOf (.nm .reply) ((bj (State.mk v nx kp qt se op sn) i.toNat).2))],some ([.box 43 ([.int ((((bj (State.mk v nx kp qt se op sn) i.toNat).1).version)),.int ((((bj (State.mk v nx kp qt se op sn) i.toNat).1).next)),.int ((((bj (State.mk v nx kp qt se op sn) i.toNat).1).keep)),.int ((((bj (State.mk v nx kp qt se op sn) i.toNat).1).quota)),.own 1,.own 2,.own 3]),.row 82 (.nm .sess) ((((bj (State.mk v nx kp qt se op sn) i.toNat).1).sess)),.row 63 (.nm .opn) ((((bj (State.mk v nx kp qt se op sn) i.toNat).1).opens)),.row 73 (.nm .snap) ((((bj (State.mk v nx kp qt se op sn) i.toNat).1).snaps))]),false⟩) (bq 152 (bm (ah (kC (bJ 0 0)) (ah (kC cI) aK)) (az (bH 43 (ao cI (ao cI (ao cI (ao cI (ao (bd 1) (ao (bd 2) (ao (bd 3) bF)))))))) (az (bc 82 (.nm .sess)) (az (bc 63 (.nm .opn)) (az (bc 73 (.nm .snap)) aJ)))) fun (_,i,_) ((v,nx,kp,qt,_,_,_,_),se,op,sn,_)=>⟨[0<=i/\i<(sn.length:Int),nch sn<=1048576],[.agg (cellsOf (.nm .reply) ((aP (State.mk v nx kp qt se op sn) i.toNat).2))],some ([.box 43 ([.int ((((aP (State.mk v nx kp qt se op sn) i.toNat).1).version)),.int ((((aP (State.mk v nx kp qt se op sn) i.toNat).1).next)),.int ((((aP (State.mk v nx kp qt se op sn) i.toNat).1).keep)),.int ((((aP (State.mk v nx kp qt se op sn) i.toNat).1).quota)),.own 1,.own 2,.own 3]),.row 82 (.nm .sess) ((((aP (State.mk v nx kp qt se op sn) i.toNat).1).sess)),.row 63 (.nm .opn) ((((aP (State.mk v nx kp qt se op sn) i.toNat).1).opens)),.row 73 (.nm .snap) ((((aP (State.mk v nx kp qt se op sn) i.toNat).1).snaps))]),false⟩) (bq 149 (bm (ah (kC (bJ 0 0)) (ah (kC (bJ 1 0)) aK)) (az (bH 24 (qP (.nm .command) bF)) (az (bH 43 (ao cI (ao cI (ao cI (ao cI (ao (bd 2) (ao (bd 3) (ao (bd 4) bF)))))))) (az (bc 82 (.nm .sess)) (az (bc 63 (.nm .opn)) (az (bc 73 (.nm .snap)) aJ))))) fun (_,_,_) ((c,_),(v,nx,kp,qt,_,_,_,_),se,op,sn,_)=>⟨[nch sn<=1048576],[.agg (cellsOf (.nm .reply) ((cR c (State.mk v nx kp qt se op sn)).2))],some ([.box 24 (cellsOf (.nm .command) ((c))),.box 43 ([.int ((((cR c (State.mk v nx kp qt se op sn)).1).version)),.int ((((cR c (State.mk v nx kp qt se op sn)).1).next)),.int ((((cR c (State.mk v nx kp qt se op sn)).1).keep)),.int ((((cR c (State.mk v nx kp qt se op sn)).1).quota)),.own 2,.own 3,.own 4]),.row 82 (.nm .sess) ((((cR c (State.mk v nx kp qt se op sn)).1).sess)),.row 63 (.nm .opn) ((((cR c (State.mk v nx kp qt se op sn)).1).opens)),.row 73 (.nm .snap) ((((cR c (State.mk v nx kp qt se op sn)).1).snaps))]),false⟩) (bq 148 (bm (ah (kC (bJ 0 0)) (ah (kC (bJ 1 0)) aK)) (az (bH 24 (qP (.nm .command) bF)) (az (bH 43 (ao cI (ao cI (ao cI (ao cI (ao (bd 2) (ao (bd 3) (ao (bd 4) bF)))))))) (az (bc 82 (.nm .sess)) (az (bc 63 (.nm .opn)) (az (bc 73 (.nm .snap)) aJ))))) fun (_,_,_) ((c,_),(v,nx,kp,qt,_,_,_,_),se,op,sn,_)=>⟨[],[.agg (cellsOf (.nm .reply) ((dI c (State.mk v nx kp qt se op sn)).2))],some ([.box 24 (cellsOf (.nm .command) ((c))),.box 43 ([.int ((((dI c (State.mk v nx kp qt se op sn)).1).version)),.int ((((dI c (State.mk v nx kp qt se op sn)).1).next)),.int ((((dI c (State.mk v nx kp qt se op sn)).1).keep)),.int ((((dI c (State.mk v nx kp qt se op sn)).1).quota)),.own 2,.own 3,.own 4]),.row 82 (.nm .sess) ((((dI c (State.mk v nx kp qt se op sn)).1).sess)),.row 63 (.nm .opn) ((((dI c (State.mk v nx kp qt se op sn)).1).opens)),.row 73 (.nm .snap) ((((dI c (State.mk v nx kp qt se op sn)).1).snaps))]),false⟩) (bq 177 (bm (ah (kC (bJ 0 0)) (ah (kT (.nm .command)) aK)) (az (bH 43 (ao cI (ao cI (ao cI (ao cI (ao (bd 1) (ao (bd 2) (ao (bd 3) bF)))))))) (az (bc 82 (.nm .sess)) (az (bc 63 (.nm .opn)) (az (bc 73 (.nm .snap)) aJ)))) fun (_,c,_) ((v,nx,kp,qt,_,_,_,_),se,op,sn,_)=>⟨[],[.c (.int ((bU (State.mk v nx kp qt se op sn) c)))],none,false⟩) (bq 179 (bm (ah (kC (bd 0)) (ah (kC cI) (ah (kC cI) aK))) (az (bc 63 (.nm .opn)) aJ) fun (_,i,j,_) (l,_)=>⟨[0<=i/\i<(l.length:Int)/\j=i+1],[.c (.own 0)],some ([.row 63 (.nm .opn) ((l.take i.toNat++l.drop j.toNat))]),false⟩) (bq 64 (bm (ah (kC (bd 0)) (ah (kC cI) (ah (kC (bd 1)) aK))) (az (bc 82 (.nm .sess)) (az (bc 82 (.nm .sess)) aJ)) fun (_,i,_,_) (l,m,_)=>⟨[0<=i/\i<=(l.length:Int),l.length<1048576,m.length=1],[.c (.own 0)],some ([.row 82 (.nm .sess) ((l.take i.toNat++m++l.drop i.toNat)),.row 82 (.nm .sess) ((m))]),false⟩) (bq 176 (bm (ah (kC (bd 0)) (ah (kC cI) (ah (kC (cL (.nm .opn))) aK))) (az (bc 63 (.nm .opn)) aJ) fun (_,i,m,_) (l,_)=>⟨[0<=i/\i<=(l.length:Int),l.length<1048576,m.length=1],[.c (.own 0)],some ([.row 63 (.nm .opn) ((l.take i.toNat++m++l.drop i.toNat))]),false⟩) jV))))))))))
theorem gT:aN Tryz.prog (ai tyT) oC:=(av (au (ab (al aw) (ab (al aI) (ab (al aI) ak))) (ag (aG (ae aw (ae aw (ae aw (ae aw (ae aC (ae aC (ae aC aF)))))))) (ag aD (ag aD (ag aD (ag (aG (ae sg aF)) aj))))) fun (i,_,_,_) ((v,nx,kp,qt,_,_,_,_),se,op,sn,(b,_),_) hp=>CA i v nx kp qt se op sn b (dB hp)) (av (au (ab (al aw) (ab (al aI) (ab (al aI) ak))) (ag (aG (dt aF)) (ag (aG (ae aw (ae aw (ae aw (ae aw (ae aC (ae aC (ae aC aF)))))))) (ag aD (ag aD (ag aD aj))))) fun (i,_,_,_) ((c,_),(v,nx,kp,qt,_,_,_,_),se,op,sn,_) hp=>Fm i c v nx kp qt se op sn (dB hp)) (av (au (ab (al aw) (ab (al aI) ak)) (ag (aG (ae aw (ae aw (ae aw (ae aw (ae aC (ae aC (ae aC aF)))))))) (ag aD (ag aD (ag aD aj)))) fun (i,_,_) ((v,nx,kp,qt,_,_,_,_),se,op,sn,_) hp=>Ky i v nx kp qt se op sn (dB hp)) (av (au (ab (al aI) (ab (al aw) ak)) (ag (aG (ae aw (ae aw (ae aw (ae aw (ae aC (ae aC (ae aC aF)))))))) (ag aD (ag aD (ag aD aj)))) fun (_,i,_) ((v,nx,kp,qt,_,_,_,_),se,op,sn,_) hp=>Gn i v nx kp qt se op sn (dB hp) (dB (gk hp))) (av (au (ab (al aI) (ab (al aI) ak)) (ag (aG (dt aF)) (ag (aG (ae aw (ae aw (ae aw (ae aw (ae aC (ae aC (ae aC aF)))))))) (ag aD (ag aD (ag aD aj))))) fun (_,_,_) ((c,_),(v,nx,kp,qt,_,_,_,_),se,op,sn,_) hp=>Jy c v nx kp qt se op sn (dB hp)) (av (au (ab (al aI) (ab (al aI) ak)) (ag (aG (dt aF)) (ag (aG (ae aw (ae aw (ae aw (ae aw (ae aC (ae aC (ae aC aF)))))))) (ag aD (ag aD (ag aD aj))))) fun (_,_,_) ((c,_),(v,nx,kp,qt,_,_,_,_),se,op,sn,_) _=>Mi c v nx kp qt se op sn ) (av (au (ab (al aI) (ab bl ak)) (ag (aG (ae aw (ae aw (ae aw (ae aw (ae aC (ae aC (ae aC aF)))))))) (ag aD (ag aD (ag aD aj)))) fun (_,c,_) ((v,nx,kp,qt,_,_,_,_),se,op,sn,_) _=>xG c v nx kp qt se op sn ) (av (au (ab (al aC) (ab (al aw) (ab (al aw) ak))) (ag aD aj) fun (_,i,j,_) (l,_) hp=>yk i j l (dB hp)) (av (au (ab (al aC) (ab (al aw) (ab (al aC) ak))) (ag aD (ag aD aj)) fun (_,i,_,_) (l,m,_) hp=>uI i l m (dB hp) (dB (gk hp)) (dB (gk (gk hp)))) (av (au (ab (al aC) (ab (al aw) (ab (al bb) ak))) (ag aD aj) fun (_,i,m,_) (l,_) hp=>yg i m l (dB hp) (dB (gk hp)) (dB (gk (gk hp)))) ej))))))))))
theorem BR {α:Type} {p:α->Bool} {l:List α} {k:Nat} (h:(l.take k).all p=true) (hk:k<=l.length) (h2:(l.length:Int)<=k\/(k:Int)<l.length/\∃ x,l[k]? = some x/\p x=false):k=(l.takeWhile p).length:=by
 induction l generalizing k with
 | nil=>simp at hk; simp [hk]
 | cons a l ih=>
  cases k with
  | zero=>
   rcases h2 with h2 | ⟨_,x,hx,hp⟩
   ·simp at h2; omega
   ·simp at hx; subst hx; simp [hp]
  | succ k=>
   simp only [List.take_succ_cons,List.all_cons,Bool.and_eq_true] at h
   rw [List.takeWhile_cons,h.1,if_pos rfl,List.length_cons]
   congr 1
   refine ih h.2 (by simpa using hk) ?_
   rcases h2 with h2 | ⟨h3,x,hx,hp⟩
   ·left; simp at h2; omega
   ·right; refine ⟨by simp at h3; omega,x,by simpa using hx,hp⟩
theorem MB {v nx kp qt:Int} {se:List Sess} {op:List Opn} {sn:List Snap} {c:Command} {s:Nat} (h:ay Opn.set c.set op<0) (hs:s<=op.length) (ha:(op.take s).all (fun y=>decide (y.set<c.set))=true) (hb:(op.length:Int)<=s\/c.set<=(op.getD s (dflt (.nm .opn))).set):op.take s++[Opn.mk c.set c.client]++op.drop s=(a_ (State.mk v nx kp qt se op sn) c).1.opens:=by
 have h1:¬ 0<=ay Opn.set c.set op:=by omega
 simp only [a_,if_neg h1]
 have:s=(op.takeWhile fun y=>decide (y.set<c.set)).length:=by
  refine BR ha hs ?_
  by_cases hl:(op.length:Int)<=s
  ·exact .inl hl
  ·refine .inr ⟨by omega,_,gd (d:=dflt (.nm .opn)) (by omega),?_⟩
   rcases hb with hb | hb
   ·omega
   ·exact decide_eq_false aQ
 rw [<- this]; simp [s_]
theorem Oz {op:List Opn} {c:Command} {s:Nat} (ha:(op.take s).all (fun y=>decide (y.set<c.set))=true) (h:(s:Int)<op.length) (hb:(op.getD s (dflt (.nm .opn))).set<c.set):(op.take (s+1)).all (fun y=>decide (y.set<c.set))=true:=by
 rw [ax (gd (d:=dflt (.nm .opn)) h),List.all_append,ha]; simp only [List.all_cons,List.all_nil,decide_eq_true hb]; rfl
section
variable {v nx kp qt:Int} {se:List Sess} {op:List Opn} {sn:List Snap} {c:Command}
theorem SJ (h:ay Opn.set c.set op<0):a_ (State.mk v nx kp qt se op sn) c=(State.mk v nx kp qt se (s_ op (op.takeWhile fun y=>decide (y.set<c.set)).length ⟨c.set,c.client⟩) sn,⟨0,0⟩):=by
 have h1:¬ 0<=ay Opn.set c.set op:=by omega
 simp only [a_,if_neg h1]
theorem SW (h:0<=ay Opn.set c.set op):a_ (State.mk v nx kp qt se op sn) c=(State.mk v nx kp qt se op sn,⟨16,(op.getD (ay Opn.set c.set op).toNat (dflt (.nm .opn))).client⟩):=by
 simp only [a_,if_pos h]
theorem SK (h:bU (State.mk v nx kp qt se op sn) c<0):ba (State.mk v nx kp qt se op sn) c=(State.mk v nx kp qt se op sn,⟨15,0⟩):=by
 simp only [ba,if_pos h]
theorem Tf (h:0<=bU (State.mk v nx kp qt se op sn) c):ba (State.mk v nx kp qt se op sn) c=(State.mk v nx kp qt se (op.take (bU (State.mk v nx kp qt se op sn) c).toNat++op.drop (bU (State.mk v nx kp qt se op sn) c+1).toNat) sn,⟨0,0⟩):=by
 have h1:¬ bU (State.mk v nx kp qt se op sn) c<0:=by omega
 simp only [ba,if_neg h1,Fx]
end
def wq (c:Command) (v:Int) (nx:Int) (kp:Int) (qt:Int) (se:List Sess) (op:List Opn) (sn:List Snap):List (Nat × LI):=[(5,{ σ:=Nat,F:=fun k=>([(0,one (.ptr 0 0)),(3,one (.ptr 4 0)),(4,one (.ptr 5 0)),(6,one (.int k))],[.box 43 ([.int ((v)),.int ((nx)),.int ((kp)),.int ((qt)),.own 1,.own 2,.own 3]),.row 82 (.nm .sess) ((se)),.row 63 (.nm .opn) ((op)),.row 73 (.nm .snap) ((sn)),.box 24 (cellsOf (.nm .command) ((c))),.box 56 ([.int ((0)),.int ((0))])]),J:=fun k=>k<=op.length/\(op.take k).all (fun y=>decide (y.set<c.set))=true,μ:=fun k=>op.length - k })]
theorem ze (c:Command) (v:Int) (nx:Int) (kp:Int) (qt:Int) (se:List Sess) (op:List Opn) (sn:List Snap) (r0:Reply) (r1:Int) (r2:Int) (r3:Int) (r4:Int) (r5:List Sess) (r6:List Opn) (r7:List Snap):lS tyT oC (wq c v nx kp qt se op sn) Tryz.f143 [.c (.ptr 0 0),.agg (cellsOf (.nm .command) c)] [.box 43 ([.int (v),.int (nx),.int (kp),.int (qt),.own 1,.own 2,.own 3]),.row 82 (.nm .sess) (se),.row 63 (.nm .opn) (op),.row 73 (.nm .snap) (sn)] [.agg (cellsOf (.nm .reply) r0)] [.box 43 ([.int (r1),.int (r2),.int (r3),.int (r4),.own 1,.own 2,.own 3]),.row 82 (.nm .sess) (r5),.row 63 (.nm .opn) (r6),.row 73 (.nm .snap) (r7)]=((fun (q5:Int)=>(fun (q4:den (Sh.nm NT.opn))=>(fun (q3:Int)=>(fun (q2:Int)=>(fun (q1:Int)=>(fun (q0:Prop)=>I64 c.kind->I64 c.client->I64 c.seq->I64 q5->I64 c.id->I64 c.n->c.chunks.length*(8:Nat)<=(140737488355328:Nat)->c.text.b.length<=(140737488355328:Nat)->I64 q1->(q2<=q1->q2<=q1/\q1<q3/\(I64 (op.getD q1.toNat q4).set->I64 (op.getD q1.toNat q4).client->(16:Int)=r0.code/\(op.getD q1.toNat q4).client=r0.n/\v=r1/\nx=r2/\kp=r3/\qt=r4/\se=r5/\op=r6/\sn=r7))/\(q1<q2->∃ (s0:Nat),(q2=(↑s0:Int)/\q0)/\(s0<=op.length/\((List.take s0 op).all fun (y:Opn)=>decide (y.set<q5))=true)/\∀ (s:Nat),(fun (q7:Int)=>(fun (q6:Int)=>s<=op.length/\((List.take s op).all fun (y:Opn)=>decide (y.set<q5))=true->(q6<q3->q2<=q6/\q6<q3)/\((q6<q3->I64 q7/\I64 (op.getD s q4).client)->(q6<q3/\q7<q5->I64 (q6+(1:Int))/\∃ (s':Nat),(q6+(1:Int)=(↑s':Int)/\q0)/\(s' <= op.length/\((List.take s' op).all fun (y:Opn)=>decide (y.set<q5))=true)/\op.length - s' < op.length - s)/\(q3<=q6\/q5<=q7->((q2<=q6/\q6<=q3)/\op.length<(1048576:Nat)/\[Opn.mk q5 c.client].length=(1:Nat))/\q2=r0.code/\q2=r0.n/\v=r1/\nx=r2/\kp=r3/\qt=r4/\se=r5/\List.take s op++[Opn.mk q5 c.client]++List.drop s op=r6/\sn=r7))) (↑s:Int)) (op.getD s q4).set)) (v=v/\nx=nx/\kp=kp/\qt=qt/\se=se/\op=op/\sn=sn/\c.kind=c.kind/\c.client=c.client/\c.seq=c.seq/\q5=q5/\c.id=c.id/\c.n=c.n/\c.chunks=c.chunks/\c.text=c.text/\q2=q2/\q2=q2)) (ay Opn.set q5 op)) (0:Int)) (↑op.length:Int)) (dflt (Sh.nm NT.opn))) c.set):=by kernel_rfl
theorem Aw (c:Command) (v:Int) (nx:Int) (kp:Int) (qt:Int) (se:List Sess) (op:List Opn) (sn:List Snap) (h0:op.length<1048576):Sat Tryz.prog (ai tyT) 143 [.c (.ptr 0 0),.agg (cellsOf (.nm .command) c)] [.box 43 ([.int (v),.int (nx),.int (kp),.int (qt),.own 1,.own 2,.own 3]),.row 82 (.nm .sess) (se),.row 63 (.nm .opn) (op),.row 73 (.nm .snap) (sn)] ⟨[op.length<1048576],[.agg (cellsOf (.nm .reply) ((a_ (State.mk v nx kp qt se op sn) c).2))],some ([.box 43 ([.int ((((a_ (State.mk v nx kp qt se op sn) c).1).version)),.int ((((a_ (State.mk v nx kp qt se op sn) c).1).next)),.int ((((a_ (State.mk v nx kp qt se op sn) c).1).keep)),.int ((((a_ (State.mk v nx kp qt se op sn) c).1).quota)),.own 1,.own 2,.own 3]),.row 82 (.nm .sess) ((((a_ (State.mk v nx kp qt se op sn) c).1).sess)),.row 63 (.nm .opn) ((((a_ (State.mk v nx kp qt se op sn) c).1).opens)),.row 73 (.nm .snap) ((((a_ (State.mk v nx kp qt se op sn) c).1).snaps))]),false⟩:=by
 refine cZ gT (wq c v nx kp qt se op sn) Tryz.func143 (by decide) (by kernel_rfl) ?_
 rw [ze]
 iterate 3 ((all_goals (repeat' (first | with_reducible apply bP | with_reducible refine bQ ?_ | intro))); (all_goals try (first | exact cn | exact rfl | exact cT aq | exact (Oz aq aq aq) | exact (MB aq aQ aq (by assumption)) | (rw [SJ]; omega) | (rw [SW]; omega))); all_goals try first | refine ⟨‹Nat› + 1,?_⟩ | refine ⟨0,?_⟩)
theorem CR (c:Command) (v:Int) (nx:Int) (kp:Int) (qt:Int) (se:List Sess) (op:List Opn) (sn:List Snap) (r0:Reply) (r1:Int) (r2:Int) (r3:Int) (r4:Int) (r5:List Sess) (r6:List Opn) (r7:List Snap):lS tyT oC [] Tryz.f147 [.c (.ptr 0 0),.agg (cellsOf (.nm .command) c)] [.box 43 ([.int (v),.int (nx),.int (kp),.int (qt),.own 1,.own 2,.own 3]),.row 82 (.nm .sess) (se),.row 63 (.nm .opn) (op),.row 73 (.nm .snap) (sn)] [.agg (cellsOf (.nm .reply) r0)] [.box 43 ([.int (r1),.int (r2),.int (r3),.int (r4),.own 1,.own 2,.own 3]),.row 82 (.nm .sess) (r5),.row 63 (.nm .opn) (r6),.row 73 (.nm .snap) (r7)]=((fun (q1:Int)=>(fun (q0:Int)=>I64 c.kind->I64 c.client->I64 c.seq->I64 c.set->I64 c.id->I64 c.n->c.chunks.length*(8:Nat)<=(140737488355328:Nat)->c.text.b.length<=(140737488355328:Nat)->I64 q0->(q0<q1->I64 (15:Int)->I64 q1->(15:Int)=r0.code/\q1=r0.n/\v=r1/\nx=r2/\kp=r3/\qt=r4/\se=r5/\op=r6/\sn=r7)/\(q1<=q0->I64 (q0+(1:Int))/\(q1<=q0/\q0<(↑op.length:Int)/\q0+(1:Int)=q0+(1:Int))/\q1=r0.code/\q1=r0.n/\v=r1/\nx=r2/\kp=r3/\qt=r4/\se=r5/\List.take q0.toNat op++List.drop (q0+(1:Int)).toNat op=r6/\sn=r7)) (bU (State.mk v nx kp qt se op sn) c)) (0:Int)):=by kernel_rfl
theorem Cp (c:Command) (v:Int) (nx:Int) (kp:Int) (qt:Int) (se:List Sess) (op:List Opn) (sn:List Snap) (h0:op.length<1048576):Sat Tryz.prog (ai tyT) 147 [.c (.ptr 0 0),.agg (cellsOf (.nm .command) c)] [.box 43 ([.int (v),.int (nx),.int (kp),.int (qt),.own 1,.own 2,.own 3]),.row 82 (.nm .sess) (se),.row 63 (.nm .opn) (op),.row 73 (.nm .snap) (sn)] ⟨[op.length<1048576],[.agg (cellsOf (.nm .reply) ((ba (State.mk v nx kp qt se op sn) c).2))],some ([.box 43 ([.int ((((ba (State.mk v nx kp qt se op sn) c).1).version)),.int ((((ba (State.mk v nx kp qt se op sn) c).1).next)),.int ((((ba (State.mk v nx kp qt se op sn) c).1).keep)),.int ((((ba (State.mk v nx kp qt se op sn) c).1).quota)),.own 1,.own 2,.own 3]),.row 82 (.nm .sess) ((((ba (State.mk v nx kp qt se op sn) c).1).sess)),.row 63 (.nm .opn) ((((ba (State.mk v nx kp qt se op sn) c).1).opens)),.row 73 (.nm .snap) ((((ba (State.mk v nx kp qt se op sn) c).1).snaps))]),false⟩:=by
 refine cZ gT [] Tryz.func147 (by decide) (by kernel_rfl) ?_
 rw [CR]
 have hl:0<=bU (State.mk v nx kp qt se op sn) c->bU (State.mk v nx kp qt se op sn) c+1<=(op.length:Int):=fun h=>BY h
 (repeat' (first | with_reducible apply bP | with_reducible refine bQ ?_ | intro))
 all_goals (first | exact cn | (rw [Tf]; omega) | (rw [SK]; omega))
theorem xC (c:Command) (v:Int) (nx:Int) (kp:Int) (qt:Int) (se:List Sess) (op:List Opn) (sn:List Snap) (r0:Reply) (r1:Int) (r2:Int) (r3:Int) (r4:Int) (r5:List Sess) (r6:List Opn) (r7:List Snap):lS tyT oC [] Tryz.f145 [.c (.ptr 0 0),.agg (cellsOf (.nm .command) c)] [.box 43 ([.int (v),.int (nx),.int (kp),.int (qt),.own 1,.own 2,.own 3]),.row 82 (.nm .sess) (se),.row 63 (.nm .opn) (op),.row 73 (.nm .snap) (sn)] [.agg (cellsOf (.nm .reply) r0)] [.box 43 ([.int (r1),.int (r2),.int (r3),.int (r4),.own 1,.own 2,.own 3]),.row 82 (.nm .sess) (r5),.row 63 (.nm .opn) (r6),.row 73 (.nm .snap) (r7)]=((fun (q6:Snap)=>(fun (q5:Int)=>(fun (q4:Prop)=>(fun (q3:Int)=>(fun (q2:Int)=>(fun (q1:Prop)=>(fun (q0:Int)=>I64 c.kind->I64 c.client->I64 c.seq->I64 c.set->I64 c.id->I64 c.n->q4->c.text.b.length<=(140737488355328:Nat)->I64 q0->(q0<q3->I64 (15:Int)->I64 q3->(15:Int)=r0.code/\q1)/\(q3<=q0->((16:Int)<=(↑sn.length:Int)\/(1048576:Int)<=nx->I64 (20:Int)->I64 q3->(20:Int)=r0.code/\q1)/\((↑sn.length:Int)<(16:Int)/\nx<(1048576:Int)->(¬qt=q3->nch sn<=(1048576:Nat))/\((¬qt=q3->I64 q2)->(¬qt=q3/\qt<q2->I64 (19:Int)->I64 q3->(19:Int)=r0.code/\q1)/\(qt=q3\/q2<=qt->q4->(sn.length+[q6].length)*(64:Nat)<=(140737488355328:Nat)/\I64 (nx+q5)/\I64 (q0+q5)/\(q3<=q0/\q0<(↑op.length:Int)/\q0+q5=q0+q5)/\q3=r0.code/\nx=r0.n/\v=r1/\nx+q5=r2/\kp=r3/\qt=r4/\se=r5/\List.take q0.toNat op++List.drop (q0+q5).toNat op=r6/\sn++[q6]=r7))))) (bU (State.mk v nx kp qt se op sn) c)) (q3=r0.n/\v=r1/\nx=r2/\kp=r3/\qt=r4/\se=r5/\op=r6/\sn=r7)) (↑(distF (sn++[Snap.mk q3 q3 c.chunks false (Str.mk [])])):Int)) (0:Int)) (c.chunks.length*(8:Nat)<=(140737488355328:Nat))) (1:Int)) (Snap.mk nx c.set c.chunks false (Str.mk []))):=by kernel_rfl
theorem yE (c:Command) (v:Int) (nx:Int) (kp:Int) (qt:Int) (se:List Sess) (op:List Opn) (sn:List Snap) (h0:nch sn<=1048576) (h1:sn.length<1048576) (h2:op.length<1048576) (h3:0<=nx):Sat Tryz.prog (ai tyT) 145 [.c (.ptr 0 0),.agg (cellsOf (.nm .command) c)] [.box 43 ([.int (v),.int (nx),.int (kp),.int (qt),.own 1,.own 2,.own 3]),.row 82 (.nm .sess) (se),.row 63 (.nm .opn) (op),.row 73 (.nm .snap) (sn)] ⟨[nch sn<=1048576,sn.length<1048576,op.length<1048576,0<=nx],[.agg (cellsOf (.nm .reply) ((aW (State.mk v nx kp qt se op sn) c).2))],some ([.box 43 ([.int ((((aW (State.mk v nx kp qt se op sn) c).1).version)),.int ((((aW (State.mk v nx kp qt se op sn) c).1).next)),.int ((((aW (State.mk v nx kp qt se op sn) c).1).keep)),.int ((((aW (State.mk v nx kp qt se op sn) c).1).quota)),.own 1,.own 2,.own 3]),.row 82 (.nm .sess) ((((aW (State.mk v nx kp qt se op sn) c).1).sess)),.row 63 (.nm .opn) ((((aW (State.mk v nx kp qt se op sn) c).1).opens)),.row 73 (.nm .snap) ((((aW (State.mk v nx kp qt se op sn) c).1).snaps))]),false⟩:=by
 refine cZ gT [] Tryz.func145 (by decide) (by kernel_rfl) ?_
 rw [xC]
 have hl:0<=bU (State.mk v nx kp qt se op sn) c->bU (State.mk v nx kp qt se op sn) c+1<=(op.length:Int):=fun h=>BY h
 (repeat' (first | with_reducible apply bP | with_reducible refine bQ ?_ | intro))
 all_goals (first | exact cn | (simp only [aW,Fx]; grind) | (simp only [List.length_cons,List.length_nil]; omega))
theorem Mf (i:Int) (v:Int) (nx:Int) (kp:Int) (qt:Int) (se:List Sess) (op:List Opn) (sn:List Snap) (r0:Reply) (r1:Int) (r2:Int) (r3:Int) (r4:Int) (r5:List Sess) (r6:List Opn) (r7:List Snap):lS tyT oC [] Tryz.f151 [.c (.int (i)),.c (.ptr 0 0)] [.box 43 ([.int (v),.int (nx),.int (kp),.int (qt),.own 1,.own 2,.own 3]),.row 82 (.nm .sess) (se),.row 63 (.nm .opn) (op),.row 73 (.nm .snap) (sn)] [.agg (cellsOf (.nm .reply) r0)] [.box 43 ([.int (r1),.int (r2),.int (r3),.int (r4),.own 1,.own 2,.own 3]),.row 82 (.nm .sess) (r5),.row 63 (.nm .opn) (r6),.row 73 (.nm .snap) (r7)]=((fun (q0:State × Reply)=>I64 i->((0:Int)<=i/\i<(↑sn.length:Int))/\nch sn<=(1048576:Nat)/\(I64 q0.snd.code->I64 q0.snd.n->q0.snd.code=r0.code/\q0.snd.n=r0.n/\q0.fst.version=r1/\q0.fst.next=r2/\q0.fst.keep=r3/\q0.fst.quota=r4/\q0.fst.sess=r5/\q0.fst.opens=r6/\q0.fst.snaps=r7)) (aP (State.mk v nx kp qt se op sn) i.toNat)):=by kernel_rfl
theorem Jp (i:Int) (v:Int) (nx:Int) (kp:Int) (qt:Int) (se:List Sess) (op:List Opn) (sn:List Snap) (h0:0<=i/\i<(sn.length:Int)) (h1:nch sn<=1048576):Sat Tryz.prog (ai tyT) 151 [.c (.int (i)),.c (.ptr 0 0)] [.box 43 ([.int (v),.int (nx),.int (kp),.int (qt),.own 1,.own 2,.own 3]),.row 82 (.nm .sess) (se),.row 63 (.nm .opn) (op),.row 73 (.nm .snap) (sn)] ⟨[0<=i/\i<(sn.length:Int),nch sn<=1048576],[.agg (cellsOf (.nm .reply) ((aP (State.mk v nx kp qt se op sn) i.toNat).2))],some ([.box 43 ([.int ((((aP (State.mk v nx kp qt se op sn) i.toNat).1).version)),.int ((((aP (State.mk v nx kp qt se op sn) i.toNat).1).next)),.int ((((aP (State.mk v nx kp qt se op sn) i.toNat).1).keep)),.int ((((aP (State.mk v nx kp qt se op sn) i.toNat).1).quota)),.own 1,.own 2,.own 3]),.row 82 (.nm .sess) ((((aP (State.mk v nx kp qt se op sn) i.toNat).1).sess)),.row 63 (.nm .opn) ((((aP (State.mk v nx kp qt se op sn) i.toNat).1).opens)),.row 73 (.nm .snap) ((((aP (State.mk v nx kp qt se op sn) i.toNat).1).snaps))]),false⟩:=by
 refine cZ gT [] Tryz.func151 (by decide) (by kernel_rfl) ?_
 rw [Mf]
 (repeat' (first | with_reducible apply bP | with_reducible refine bQ ?_ | intro))
 all_goals (first | exact cn | exact rfl)
def jA:cd:=(bq 151 (bm (ah (kC cI) (ah (kC (bJ 0 0)) aK)) (az (bH 43 (ao cI (ao cI (ao cI (ao cI (ao (bd 1) (ao (bd 2) (ao (bd 3) bF)))))))) (az (bc 82 (.nm .sess)) (az (bc 63 (.nm .opn)) (az (bc 73 (.nm .snap)) aJ)))) fun (i,_,_) ((v,nx,kp,qt,_,_,_,_),se,op,sn,_)=>⟨[0<=i/\i<(sn.length:Int),nch sn<=1048576],[.agg (cellsOf (.nm .reply) ((aP (State.mk v nx kp qt se op sn) i.toNat).2))],some ([.box 43 ([.int ((((aP (State.mk v nx kp qt se op sn) i.toNat).1).version)),.int ((((aP (State.mk v nx kp qt se op sn) i.toNat).1).next)),.int ((((aP (State.mk v nx kp qt se op sn) i.toNat).1).keep)),.int ((((aP (State.mk v nx kp qt se op sn) i.toNat).1).quota)),.own 1,.own 2,.own 3]),.row 82 (.nm .sess) ((((aP (State.mk v nx kp qt se op sn) i.toNat).1).sess)),.row 63 (.nm .opn) ((((aP (State.mk v nx kp qt se op sn) i.toNat).1).opens)),.row 73 (.nm .snap) ((((aP (State.mk v nx kp qt se op sn) i.toNat).1).snaps))]),false⟩) (bq 145 (bm (ah (kC (bJ 0 0)) (ah (kT (.nm .command)) aK)) (az (bH 43 (ao cI (ao cI (ao cI (ao cI (ao (bd 1) (ao (bd 2) (ao (bd 3) bF)))))))) (az (bc 82 (.nm .sess)) (az (bc 63 (.nm .opn)) (az (bc 73 (.nm .snap)) aJ)))) fun (_,c,_) ((v,nx,kp,qt,_,_,_,_),se,op,sn,_)=>⟨[nch sn<=1048576,sn.length<1048576,op.length<1048576,0<=nx],[.agg (cellsOf (.nm .reply) ((aW (State.mk v nx kp qt se op sn) c).2))],some ([.box 43 ([.int ((((aW (State.mk v nx kp qt se op sn) c).1).version)),.int ((((aW (State.mk v nx kp qt se op sn) c).1).next)),.int ((((aW (State.mk v nx kp qt se op sn) c).1).keep)),.int ((((aW (State.mk v nx kp qt se op sn) c).1).quota)),.own 1,.own 2,.own 3]),.row 82 (.nm .sess) ((((aW (State.mk v nx kp qt se op sn) c).1).sess)),.row 63 (.nm .opn) ((((aW (State.mk v nx kp qt se op sn) c).1).opens)),.row 73 (.nm .snap) ((((aW (State.mk v nx kp qt se op sn) c).1).snaps))]),false⟩) (bq 147 (bm (ah (kC (bJ 0 0)) (ah (kT (.nm .command)) aK)) (az (bH 43 (ao cI (ao cI (ao cI (ao cI (ao (bd 1) (ao (bd 2) (ao (bd 3) bF)))))))) (az (bc 82 (.nm .sess)) (az (bc 63 (.nm .opn)) (az (bc 73 (.nm .snap)) aJ)))) fun (_,c,_) ((v,nx,kp,qt,_,_,_,_),se,op,sn,_)=>⟨[op.length<1048576],[.agg (cellsOf (.nm .reply) ((ba (State.mk v nx kp qt se op sn) c).2))],some ([.box 43 ([.int ((((ba (State.mk v nx kp qt se op sn) c).1).version)),.int ((((ba (State.mk v nx kp qt se op sn) c).1).next)),.int ((((ba (State.mk v nx kp qt se op sn) c).1).keep)),.int ((((ba (State.mk v nx kp qt se op sn) c).1).quota)),.own 1,.own 2,.own 3]),.row 82 (.nm .sess) ((((ba (State.mk v nx kp qt se op sn) c).1).sess)),.row 63 (.nm .opn) ((((ba (State.mk v nx kp qt se op sn) c).1).opens)),.row 73 (.nm .snap) ((((ba (State.mk v nx kp qt se op sn) c).1).snaps))]),false⟩) (bq 143 (bm (ah (kC (bJ 0 0)) (ah (kT (.nm .command)) aK)) (az (bH 43 (ao cI (ao cI (ao cI (ao cI (ao (bd 1) (ao (bd 2) (ao (bd 3) bF)))))))) (az (bc 82 (.nm .sess)) (az (bc 63 (.nm .opn)) (az (bc 73 (.nm .snap)) aJ)))) fun (_,c,_) ((v,nx,kp,qt,_,_,_,_),se,op,sn,_)=>⟨[op.length<1048576],[.agg (cellsOf (.nm .reply) ((a_ (State.mk v nx kp qt se op sn) c).2))],some ([.box 43 ([.int ((((a_ (State.mk v nx kp qt se op sn) c).1).version)),.int ((((a_ (State.mk v nx kp qt se op sn) c).1).next)),.int ((((a_ (State.mk v nx kp qt se op sn) c).1).keep)),.int ((((a_ (State.mk v nx kp qt se op sn) c).1).quota)),.own 1,.own 2,.own 3]),.row 82 (.nm .sess) ((((a_ (State.mk v nx kp qt se op sn) c).1).sess)),.row 63 (.nm .opn) ((((a_ (State.mk v nx kp qt se op sn) c).1).opens)),.row 73 (.nm .snap) ((((a_ (State.mk v nx kp qt se op sn) c).1).snaps))]),false⟩) oC))))
theorem ek:aN Tryz.prog (ai tyT) jA:=(av (au (ab (al aw) (ab (al aI) ak)) (ag (aG (ae aw (ae aw (ae aw (ae aw (ae aC (ae aC (ae aC aF)))))))) (ag aD (ag aD (ag aD aj)))) fun (i,_,_) ((v,nx,kp,qt,_,_,_,_),se,op,sn,_) hp=>Jp i v nx kp qt se op sn (dB hp) (dB (gk hp))) (av (au (ab (al aI) (ab bl ak)) (ag (aG (ae aw (ae aw (ae aw (ae aw (ae aC (ae aC (ae aC aF)))))))) (ag aD (ag aD (ag aD aj)))) fun (_,c,_) ((v,nx,kp,qt,_,_,_,_),se,op,sn,_) hp=>yE c v nx kp qt se op sn (dB hp) (dB (gk hp)) (dB (gk (gk hp))) (dB (gk (gk (gk hp))))) (av (au (ab (al aI) (ab bl ak)) (ag (aG (ae aw (ae aw (ae aw (ae aw (ae aC (ae aC (ae aC aF)))))))) (ag aD (ag aD (ag aD aj)))) fun (_,c,_) ((v,nx,kp,qt,_,_,_,_),se,op,sn,_) hp=>Cp c v nx kp qt se op sn (dB hp)) (av (au (ab (al aI) (ab bl ak)) (ag (aG (ae aw (ae aw (ae aw (ae aw (ae aC (ae aC (ae aC aF)))))))) (ag aD (ag aD (ag aD aj)))) fun (_,c,_) ((v,nx,kp,qt,_,_,_,_),se,op,sn,_) hp=>Aw c v nx kp qt se op sn (dB hp)) gT))))
def aB (f:State->Nat->State × Reply) (c:Command) (s:State):State × Reply:=if ay Snap.id c.id s.snaps<0 then (s,⟨15,0⟩) else f s (ay Snap.id c.id s.snaps).toNat
section
variable {v nx kp qt:Int} {se:List Sess} {op:List Opn} {sn:List Snap} {c:Command} {f:State->Nat->State × Reply}
theorem O_ (h:ay Snap.id c.id sn<0):aB f c (State.mk v nx kp qt se op sn)=(State.mk v nx kp qt se op sn,⟨15,0⟩):=by
 simp only [aB,if_pos h]
theorem OZ (h:0<=ay Snap.id c.id sn):aB f c (State.mk v nx kp qt se op sn)=f (State.mk v nx kp qt se op sn) (ay Snap.id c.id sn).toNat:=by
 have h1:¬ ay Snap.id c.id sn<0:=by omega
 simp only [aB,if_neg h1]
end
theorem JE (v:Int) (nx:Int) (kp:Int) (qt:Int) (se:List Sess) (op:List Opn) (sn:List Snap) (c:Command) (r0:Reply) (r1:Int) (r2:Int) (r3:Int) (r4:Int) (r5:List Sess) (r6:List Opn) (r7:List Snap) (r8:Command):lS tyT jA [] Tryz.f142 [.c (.ptr 0 0),.c (.ptr 4 0)] [.box 43 ([.int (v),.int (nx),.int (kp),.int (qt),.own 1,.own 2,.own 3]),.row 82 (.nm .sess) (se),.row 63 (.nm .opn) (op),.row 73 (.nm .snap) (sn),.box 24 (cellsOf (.nm .command) (c))] [.agg (cellsOf (.nm .reply) r0)] [.box 43 ([.int (r1),.int (r2),.int (r3),.int (r4),.own 1,.own 2,.own 3]),.row 82 (.nm .sess) (r5),.row 63 (.nm .opn) (r6),.row 73 (.nm .snap) (r7),.box 24 (cellsOf (.nm .command) (r8))]=((fun (q0:State × Reply)=>op.length<(1048576:Nat)/\(I64 q0.snd.code->I64 q0.snd.n->q0.snd.code=r0.code/\q0.snd.n=r0.n/\q0.fst.version=r1/\q0.fst.next=r2/\q0.fst.keep=r3/\q0.fst.quota=r4/\q0.fst.sess=r5/\q0.fst.opens=r6/\q0.fst.snaps=r7/\c.kind=r8.kind/\c.client=r8.client/\c.seq=r8.seq/\c.set=r8.set/\c.id=r8.id/\c.n=r8.n/\c.chunks=r8.chunks/\c.text=r8.text)) (a_ (State.mk v nx kp qt se op sn) c)):=by kernel_rfl
theorem KJ (v:Int) (nx:Int) (kp:Int) (qt:Int) (se:List Sess) (op:List Opn) (sn:List Snap) (c:Command) (h0:op.length<1048576):Sat Tryz.prog (ai tyT) 142 [.c (.ptr 0 0),.c (.ptr 4 0)] [.box 43 ([.int (v),.int (nx),.int (kp),.int (qt),.own 1,.own 2,.own 3]),.row 82 (.nm .sess) (se),.row 63 (.nm .opn) (op),.row 73 (.nm .snap) (sn),.box 24 (cellsOf (.nm .command) (c))] ⟨[op.length<1048576],[.agg (cellsOf (.nm .reply) ((a_ (State.mk v nx kp qt se op sn) c).2))],some ([.box 43 ([.int ((((a_ (State.mk v nx kp qt se op sn) c).1).version)),.int ((((a_ (State.mk v nx kp qt se op sn) c).1).next)),.int ((((a_ (State.mk v nx kp qt se op sn) c).1).keep)),.int ((((a_ (State.mk v nx kp qt se op sn) c).1).quota)),.own 1,.own 2,.own 3]),.row 82 (.nm .sess) ((((a_ (State.mk v nx kp qt se op sn) c).1).sess)),.row 63 (.nm .opn) ((((a_ (State.mk v nx kp qt se op sn) c).1).opens)),.row 73 (.nm .snap) ((((a_ (State.mk v nx kp qt se op sn) c).1).snaps)),.box 24 (cellsOf (.nm .command) ((c)))]),false⟩:=by
 refine cZ ek [] Tryz.func142 (by decide) (by kernel_rfl) ?_
 rw [JE]
 (repeat' (first | with_reducible apply bP | with_reducible refine bQ ?_ | intro))
 all_goals (first | exact cn | exact rfl)
theorem KR (v:Int) (nx:Int) (kp:Int) (qt:Int) (se:List Sess) (op:List Opn) (sn:List Snap) (c:Command) (r0:Reply) (r1:Int) (r2:Int) (r3:Int) (r4:Int) (r5:List Sess) (r6:List Opn) (r7:List Snap) (r8:Command):lS tyT jA [] Tryz.f144 [.c (.ptr 0 0),.c (.ptr 4 0)] [.box 43 ([.int (v),.int (nx),.int (kp),.int (qt),.own 1,.own 2,.own 3]),.row 82 (.nm .sess) (se),.row 63 (.nm .opn) (op),.row 73 (.nm .snap) (sn),.box 24 (cellsOf (.nm .command) (c))] [.agg (cellsOf (.nm .reply) r0)] [.box 43 ([.int (r1),.int (r2),.int (r3),.int (r4),.own 1,.own 2,.own 3]),.row 82 (.nm .sess) (r5),.row 63 (.nm .opn) (r6),.row 73 (.nm .snap) (r7),.box 24 (cellsOf (.nm .command) (r8))]=((fun (q0:State × Reply)=>nch sn<=(1048576:Nat)/\sn.length<(1048576:Nat)/\op.length<(1048576:Nat)/\(0:Int)<=nx/\(I64 q0.snd.code->I64 q0.snd.n->q0.snd.code=r0.code/\q0.snd.n=r0.n/\q0.fst.version=r1/\q0.fst.next=r2/\q0.fst.keep=r3/\q0.fst.quota=r4/\q0.fst.sess=r5/\q0.fst.opens=r6/\q0.fst.snaps=r7/\c.kind=r8.kind/\c.client=r8.client/\c.seq=r8.seq/\c.set=r8.set/\c.id=r8.id/\c.n=r8.n/\c.chunks=r8.chunks/\c.text=r8.text)) (aW (State.mk v nx kp qt se op sn) c)):=by kernel_rfl
theorem IY (v:Int) (nx:Int) (kp:Int) (qt:Int) (se:List Sess) (op:List Opn) (sn:List Snap) (c:Command) (h0:nch sn<=1048576) (h1:sn.length<1048576) (h2:op.length<1048576) (h3:0<=nx):Sat Tryz.prog (ai tyT) 144 [.c (.ptr 0 0),.c (.ptr 4 0)] [.box 43 ([.int (v),.int (nx),.int (kp),.int (qt),.own 1,.own 2,.own 3]),.row 82 (.nm .sess) (se),.row 63 (.nm .opn) (op),.row 73 (.nm .snap) (sn),.box 24 (cellsOf (.nm .command) (c))] ⟨[nch sn<=1048576,sn.length<1048576,op.length<1048576,0<=nx],[.agg (cellsOf (.nm .reply) ((aW (State.mk v nx kp qt se op sn) c).2))],some ([.box 43 ([.int ((((aW (State.mk v nx kp qt se op sn) c).1).version)),.int ((((aW (State.mk v nx kp qt se op sn) c).1).next)),.int ((((aW (State.mk v nx kp qt se op sn) c).1).keep)),.int ((((aW (State.mk v nx kp qt se op sn) c).1).quota)),.own 1,.own 2,.own 3]),.row 82 (.nm .sess) ((((aW (State.mk v nx kp qt se op sn) c).1).sess)),.row 63 (.nm .opn) ((((aW (State.mk v nx kp qt se op sn) c).1).opens)),.row 73 (.nm .snap) ((((aW (State.mk v nx kp qt se op sn) c).1).snaps)),.box 24 (cellsOf (.nm .command) ((c)))]),false⟩:=by
 refine cZ ek [] Tryz.func144 (by decide) (by kernel_rfl) ?_
 rw [KR]
 (repeat' (first | with_reducible apply bP | with_reducible refine bQ ?_ | intro))
 all_goals (first | exact cn | exact rfl)
theorem Ln (v:Int) (nx:Int) (kp:Int) (qt:Int) (se:List Sess) (op:List Opn) (sn:List Snap) (c:Command) (r0:Reply) (r1:Int) (r2:Int) (r3:Int) (r4:Int) (r5:List Sess) (r6:List Opn) (r7:List Snap) (r8:Command):lS tyT jA [] Tryz.f146 [.c (.ptr 0 0),.c (.ptr 4 0)] [.box 43 ([.int (v),.int (nx),.int (kp),.int (qt),.own 1,.own 2,.own 3]),.row 82 (.nm .sess) (se),.row 63 (.nm .opn) (op),.row 73 (.nm .snap) (sn),.box 24 (cellsOf (.nm .command) (c))] [.agg (cellsOf (.nm .reply) r0)] [.box 43 ([.int (r1),.int (r2),.int (r3),.int (r4),.own 1,.own 2,.own 3]),.row 82 (.nm .sess) (r5),.row 63 (.nm .opn) (r6),.row 73 (.nm .snap) (r7),.box 24 (cellsOf (.nm .command) (r8))]=((fun (q0:State × Reply)=>op.length<(1048576:Nat)/\(I64 q0.snd.code->I64 q0.snd.n->q0.snd.code=r0.code/\q0.snd.n=r0.n/\q0.fst.version=r1/\q0.fst.next=r2/\q0.fst.keep=r3/\q0.fst.quota=r4/\q0.fst.sess=r5/\q0.fst.opens=r6/\q0.fst.snaps=r7/\c.kind=r8.kind/\c.client=r8.client/\c.seq=r8.seq/\c.set=r8.set/\c.id=r8.id/\c.n=r8.n/\c.chunks=r8.chunks/\c.text=r8.text)) (ba (State.mk v nx kp qt se op sn) c)):=by kernel_rfl
theorem Ls (v:Int) (nx:Int) (kp:Int) (qt:Int) (se:List Sess) (op:List Opn) (sn:List Snap) (c:Command) (h0:op.length<1048576):Sat Tryz.prog (ai tyT) 146 [.c (.ptr 0 0),.c (.ptr 4 0)] [.box 43 ([.int (v),.int (nx),.int (kp),.int (qt),.own 1,.own 2,.own 3]),.row 82 (.nm .sess) (se),.row 63 (.nm .opn) (op),.row 73 (.nm .snap) (sn),.box 24 (cellsOf (.nm .command) (c))] ⟨[op.length<1048576],[.agg (cellsOf (.nm .reply) ((ba (State.mk v nx kp qt se op sn) c).2))],some ([.box 43 ([.int ((((ba (State.mk v nx kp qt se op sn) c).1).version)),.int ((((ba (State.mk v nx kp qt se op sn) c).1).next)),.int ((((ba (State.mk v nx kp qt se op sn) c).1).keep)),.int ((((ba (State.mk v nx kp qt se op sn) c).1).quota)),.own 1,.own 2,.own 3]),.row 82 (.nm .sess) ((((ba (State.mk v nx kp qt se op sn) c).1).sess)),.row 63 (.nm .opn) ((((ba (State.mk v nx kp qt se op sn) c).1).opens)),.row 73 (.nm .snap) ((((ba (State.mk v nx kp qt se op sn) c).1).snaps)),.box 24 (cellsOf (.nm .command) ((c)))]),false⟩:=by
 refine cZ ek [] Tryz.func146 (by decide) (by kernel_rfl) ?_
 rw [Ln]
 (repeat' (first | with_reducible apply bP | with_reducible refine bQ ?_ | intro))
 all_goals (first | exact cn | exact rfl)
theorem qo (v:Int) (nx:Int) (kp:Int) (qt:Int) (se:List Sess) (op:List Opn) (sn:List Snap) (c:Command) (r0:Int) (r1:Int) (r2:Int) (r3:Int) (r4:List Sess) (r5:List Opn) (r6:List Snap) (r7:Command):n_ tyT jA [] Tryz.f137 [.c (.fn 151 [] [(0,0)]),.c (.ptr 0 0),.c (.ptr 4 0)] [.box 43 ([.int (v),.int (nx),.int (kp),.int (qt),.own 1,.own 2,.own 3]),.row 82 (.nm .sess) (se),.row 63 (.nm .opn) (op),.row 73 (.nm .snap) (sn),.box 24 (cellsOf (.nm .command) (c))] [.c (.fn 138 [] [(0,0),(4,0),(5,0)])] [.box 43 ([.int (r0),.int (r1),.int (r2),.int (r3),.own 1,.own 2,.own 3]),.row 82 (.nm .sess) (r4),.row 63 (.nm .opn) (r5),.row 73 (.nm .snap) (r6),.box 24 (cellsOf (.nm .command) (r7)),.box 168 ([.fn 151 [] [(0,0)]])]=(v=r0/\nx=r1/\kp=r2/\qt=r3/\se=r4/\op=r5/\sn=r6/\c.kind=r7.kind/\c.client=r7.client/\c.seq=r7.seq/\c.set=r7.set/\c.id=r7.id/\c.n=r7.n/\c.chunks=r7.chunks/\c.text=r7.text):=by kernel_rfl
theorem qb (v:Int) (nx:Int) (kp:Int) (qt:Int) (se:List Sess) (op:List Opn) (sn:List Snap) (c:Command):Sat Tryz.prog (ai tyT) 137 [.c (.fn 151 [] [(0,0)]),.c (.ptr 0 0),.c (.ptr 4 0)] [.box 43 ([.int (v),.int (nx),.int (kp),.int (qt),.own 1,.own 2,.own 3]),.row 82 (.nm .sess) (se),.row 63 (.nm .opn) (op),.row 73 (.nm .snap) (sn),.box 24 (cellsOf (.nm .command) (c))] ⟨[],[.c (.fn 138 [] [(0,0),(4,0),(5,0)])],some ([.box 43 ([.int ((v)),.int ((nx)),.int ((kp)),.int ((qt)),.own 1,.own 2,.own 3]),.row 82 (.nm .sess) ((se)),.row 63 (.nm .opn) ((op)),.row 73 (.nm .snap) ((sn)),.box 24 (cellsOf (.nm .command) ((c))),.box 168 ([.fn 151 [] [(0,0)]])]),true⟩:=by
 refine dO ek [] Tryz.func137 (by decide) (by kernel_rfl) ?_
 rw [qo]
 (repeat' (first | with_reducible apply bP | with_reducible refine bQ ?_ | intro))
 all_goals (first | exact cn | exact rfl)
theorem th (v:Int) (nx:Int) (kp:Int) (qt:Int) (se:List Sess) (op:List Opn) (sn:List Snap) (c:Command) (r0:Int) (r1:Int) (r2:Int) (r3:Int) (r4:List Sess) (r5:List Opn) (r6:List Snap) (r7:Command):n_ tyT jA [] Tryz.f137 [.c (.fn 153 [] [(0,0)]),.c (.ptr 0 0),.c (.ptr 4 0)] [.box 43 ([.int (v),.int (nx),.int (kp),.int (qt),.own 1,.own 2,.own 3]),.row 82 (.nm .sess) (se),.row 63 (.nm .opn) (op),.row 73 (.nm .snap) (sn),.box 24 (cellsOf (.nm .command) (c))] [.c (.fn 138 [] [(0,0),(4,0),(5,0)])] [.box 43 ([.int (r0),.int (r1),.int (r2),.int (r3),.own 1,.own 2,.own 3]),.row 82 (.nm .sess) (r4),.row 63 (.nm .opn) (r5),.row 73 (.nm .snap) (r6),.box 24 (cellsOf (.nm .command) (r7)),.box 168 ([.fn 153 [] [(0,0)]])]=(v=r0/\nx=r1/\kp=r2/\qt=r3/\se=r4/\op=r5/\sn=r6/\c.kind=r7.kind/\c.client=r7.client/\c.seq=r7.seq/\c.set=r7.set/\c.id=r7.id/\c.n=r7.n/\c.chunks=r7.chunks/\c.text=r7.text):=by kernel_rfl
theorem ri (v:Int) (nx:Int) (kp:Int) (qt:Int) (se:List Sess) (op:List Opn) (sn:List Snap) (c:Command):Sat Tryz.prog (ai tyT) 137 [.c (.fn 153 [] [(0,0)]),.c (.ptr 0 0),.c (.ptr 4 0)] [.box 43 ([.int (v),.int (nx),.int (kp),.int (qt),.own 1,.own 2,.own 3]),.row 82 (.nm .sess) (se),.row 63 (.nm .opn) (op),.row 73 (.nm .snap) (sn),.box 24 (cellsOf (.nm .command) (c))] ⟨[],[.c (.fn 138 [] [(0,0),(4,0),(5,0)])],some ([.box 43 ([.int ((v)),.int ((nx)),.int ((kp)),.int ((qt)),.own 1,.own 2,.own 3]),.row 82 (.nm .sess) ((se)),.row 63 (.nm .opn) ((op)),.row 73 (.nm .snap) ((sn)),.box 24 (cellsOf (.nm .command) ((c))),.box 168 ([.fn 153 [] [(0,0)]])]),true⟩:=by
 refine dO ek [] Tryz.func137 (by decide) (by kernel_rfl) ?_
 rw [th]
 (repeat' (first | with_reducible apply bP | with_reducible refine bQ ?_ | intro))
 all_goals (first | exact cn | exact rfl)
theorem uq (c:Command) (v:Int) (nx:Int) (kp:Int) (qt:Int) (se:List Sess) (op:List Opn) (sn:List Snap) (r0:Command) (r1:Int) (r2:Int) (r3:Int) (r4:Int) (r5:List Sess) (r6:List Opn) (r7:List Snap):n_ tyT jA [] Tryz.f137 [.c (.fn 154 [] [(0,0),(1,0)]),.c (.ptr 1 0),.c (.ptr 0 0)] [.box 24 (cellsOf (.nm .command) (c)),.box 43 ([.int (v),.int (nx),.int (kp),.int (qt),.own 2,.own 3,.own 4]),.row 82 (.nm .sess) (se),.row 63 (.nm .opn) (op),.row 73 (.nm .snap) (sn)] [.c (.fn 138 [] [(1,0),(0,0),(5,0)])] [.box 24 (cellsOf (.nm .command) (r0)),.box 43 ([.int (r1),.int (r2),.int (r3),.int (r4),.own 2,.own 3,.own 4]),.row 82 (.nm .sess) (r5),.row 63 (.nm .opn) (r6),.row 73 (.nm .snap) (r7),.box 168 ([.fn 154 [] [(0,0),(1,0)]])]=(c.kind=r0.kind/\c.client=r0.client/\c.seq=r0.seq/\c.set=r0.set/\c.id=r0.id/\c.n=r0.n/\c.chunks=r0.chunks/\c.text=r0.text/\v=r1/\nx=r2/\kp=r3/\qt=r4/\se=r5/\op=r6/\sn=r7):=by kernel_rfl
theorem uz (c:Command) (v:Int) (nx:Int) (kp:Int) (qt:Int) (se:List Sess) (op:List Opn) (sn:List Snap):Sat Tryz.prog (ai tyT) 137 [.c (.fn 154 [] [(0,0),(1,0)]),.c (.ptr 1 0),.c (.ptr 0 0)] [.box 24 (cellsOf (.nm .command) (c)),.box 43 ([.int (v),.int (nx),.int (kp),.int (qt),.own 2,.own 3,.own 4]),.row 82 (.nm .sess) (se),.row 63 (.nm .opn) (op),.row 73 (.nm .snap) (sn)] ⟨[],[.c (.fn 138 [] [(1,0),(0,0),(5,0)])],some ([.box 24 (cellsOf (.nm .command) ((c))),.box 43 ([.int ((v)),.int ((nx)),.int ((kp)),.int ((qt)),.own 2,.own 3,.own 4]),.row 82 (.nm .sess) ((se)),.row 63 (.nm .opn) ((op)),.row 73 (.nm .snap) ((sn)),.box 168 ([.fn 154 [] [(0,0),(1,0)]])]),true⟩:=by
 refine dO ek [] Tryz.func137 (by decide) (by kernel_rfl) ?_
 rw [uq]
 (repeat' (first | with_reducible apply bP | with_reducible refine bQ ?_ | intro))
 all_goals (first | exact cn | exact rfl)
theorem q_ (v:Int) (nx:Int) (kp:Int) (qt:Int) (se:List Sess) (op:List Opn) (sn:List Snap) (b:Bool) (c:Command) (r0:Int) (r1:Int) (r2:Int) (r3:Int) (r4:List Sess) (r5:List Opn) (r6:List Snap) (r7:Bool) (r8:Command):n_ tyT jA [] Tryz.f137 [.c (.fn 141 [] [(0,0),(4,0)]),.c (.ptr 0 0),.c (.ptr 5 0)] [.box 43 ([.int (v),.int (nx),.int (kp),.int (qt),.own 1,.own 2,.own 3]),.row 82 (.nm .sess) (se),.row 63 (.nm .opn) (op),.row 73 (.nm .snap) (sn),.box 4 ([.bool (.atom (b))]),.box 24 (cellsOf (.nm .command) (c))] [.c (.fn 138 [] [(0,0),(5,0),(6,0)])] [.box 43 ([.int (r0),.int (r1),.int (r2),.int (r3),.own 1,.own 2,.own 3]),.row 82 (.nm .sess) (r4),.row 63 (.nm .opn) (r5),.row 73 (.nm .snap) (r6),.box 4 ([.bool (.atom (r7))]),.box 24 (cellsOf (.nm .command) (r8)),.box 168 ([.fn 141 [] [(0,0),(4,0)]])]=(v=r0/\nx=r1/\kp=r2/\qt=r3/\se=r4/\op=r5/\sn=r6/\b=r7/\c.kind=r8.kind/\c.client=r8.client/\c.seq=r8.seq/\c.set=r8.set/\c.id=r8.id/\c.n=r8.n/\c.chunks=r8.chunks/\c.text=r8.text):=by kernel_rfl
theorem tD (v:Int) (nx:Int) (kp:Int) (qt:Int) (se:List Sess) (op:List Opn) (sn:List Snap) (b:Bool) (c:Command):Sat Tryz.prog (ai tyT) 137 [.c (.fn 141 [] [(0,0),(4,0)]),.c (.ptr 0 0),.c (.ptr 5 0)] [.box 43 ([.int (v),.int (nx),.int (kp),.int (qt),.own 1,.own 2,.own 3]),.row 82 (.nm .sess) (se),.row 63 (.nm .opn) (op),.row 73 (.nm .snap) (sn),.box 4 ([.bool (.atom (b))]),.box 24 (cellsOf (.nm .command) (c))] ⟨[],[.c (.fn 138 [] [(0,0),(5,0),(6,0)])],some ([.box 43 ([.int ((v)),.int ((nx)),.int ((kp)),.int ((qt)),.own 1,.own 2,.own 3]),.row 82 (.nm .sess) ((se)),.row 63 (.nm .opn) ((op)),.row 73 (.nm .snap) ((sn)),.box 4 ([.bool (.atom ((b)))]),.box 24 (cellsOf (.nm .command) ((c))),.box 168 ([.fn 141 [] [(0,0),(4,0)]])]),true⟩:=by
 refine dO ek [] Tryz.func137 (by decide) (by kernel_rfl) ?_
 rw [q_]
 (repeat' (first | with_reducible apply bP | with_reducible refine bQ ?_ | intro))
 all_goals (first | exact cn | exact rfl)
def nw:cd:=(bq 137 (bm (ah (kC (nX 141 [] [(0,0),(4,0)])) (ah (kC (bJ 0 0)) (ah (kC (bJ 5 0)) aK))) (az (bH 43 (ao cI (ao cI (ao cI (ao cI (ao (bd 1) (ao (bd 2) (ao (bd 3) bF)))))))) (az (bc 82 (.nm .sess)) (az (bc 63 (.nm .opn)) (az (bc 73 (.nm .snap)) (az (bH 4 (ao cB bF)) (az (bH 24 (qP (.nm .command) bF)) aJ)))))) fun (_,_,_,_) ((v,nx,kp,qt,_,_,_,_),se,op,sn,(b,_),(c,_),_)=>⟨[],[.c (.fn 138 [] [(0,0),(5,0),(6,0)])],some ([.box 43 ([.int ((v)),.int ((nx)),.int ((kp)),.int ((qt)),.own 1,.own 2,.own 3]),.row 82 (.nm .sess) ((se)),.row 63 (.nm .opn) ((op)),.row 73 (.nm .snap) ((sn)),.box 4 ([.bool (.atom ((b)))]),.box 24 (cellsOf (.nm .command) ((c))),.box 168 ([.fn 141 [] [(0,0),(4,0)]])]),true⟩) (bq 137 (bm (ah (kC (nX 154 [] [(0,0),(1,0)])) (ah (kC (bJ 1 0)) (ah (kC (bJ 0 0)) aK))) (az (bH 24 (qP (.nm .command) bF)) (az (bH 43 (ao cI (ao cI (ao cI (ao cI (ao (bd 2) (ao (bd 3) (ao (bd 4) bF)))))))) (az (bc 82 (.nm .sess)) (az (bc 63 (.nm .opn)) (az (bc 73 (.nm .snap)) aJ))))) fun (_,_,_,_) ((c,_),(v,nx,kp,qt,_,_,_,_),se,op,sn,_)=>⟨[],[.c (.fn 138 [] [(1,0),(0,0),(5,0)])],some ([.box 24 (cellsOf (.nm .command) ((c))),.box 43 ([.int ((v)),.int ((nx)),.int ((kp)),.int ((qt)),.own 2,.own 3,.own 4]),.row 82 (.nm .sess) ((se)),.row 63 (.nm .opn) ((op)),.row 73 (.nm .snap) ((sn)),.box 168 ([.fn 154 [] [(0,0),(1,0)]])]),true⟩) (bq 137 (bm (ah (kC (nX 153 [] [(0,0)])) (ah (kC (bJ 0 0)) (ah (kC (bJ 4 0)) aK))) (az (bH 43 (ao cI (ao cI (ao cI (ao cI (ao (bd 1) (ao (bd 2) (ao (bd 3) bF)))))))) (az (bc 82 (.nm .sess)) (az (bc 63 (.nm .opn)) (az (bc 73 (.nm .snap)) (az (bH 24 (qP (.nm .command) bF)) aJ))))) fun (_,_,_,_) ((v,nx,kp,qt,_,_,_,_),se,op,sn,(c,_),_)=>⟨[],[.c (.fn 138 [] [(0,0),(4,0),(5,0)])],some ([.box 43 ([.int ((v)),.int ((nx)),.int ((kp)),.int ((qt)),.own 1,.own 2,.own 3]),.row 82 (.nm .sess) ((se)),.row 63 (.nm .opn) ((op)),.row 73 (.nm .snap) ((sn)),.box 24 (cellsOf (.nm .command) ((c))),.box 168 ([.fn 153 [] [(0,0)]])]),true⟩) (bq 137 (bm (ah (kC (nX 151 [] [(0,0)])) (ah (kC (bJ 0 0)) (ah (kC (bJ 4 0)) aK))) (az (bH 43 (ao cI (ao cI (ao cI (ao cI (ao (bd 1) (ao (bd 2) (ao (bd 3) bF)))))))) (az (bc 82 (.nm .sess)) (az (bc 63 (.nm .opn)) (az (bc 73 (.nm .snap)) (az (bH 24 (qP (.nm .command) bF)) aJ))))) fun (_,_,_,_) ((v,nx,kp,qt,_,_,_,_),se,op,sn,(c,_),_)=>⟨[],[.c (.fn 138 [] [(0,0),(4,0),(5,0)])],some ([.box 43 ([.int ((v)),.int ((nx)),.int ((kp)),.int ((qt)),.own 1,.own 2,.own 3]),.row 82 (.nm .sess) ((se)),.row 63 (.nm .opn) ((op)),.row 73 (.nm .snap) ((sn)),.box 24 (cellsOf (.nm .command) ((c))),.box 168 ([.fn 151 [] [(0,0)]])]),true⟩) (bq 146 (bm (ah (kC (bJ 0 0)) (ah (kC (bJ 4 0)) aK)) (az (bH 43 (ao cI (ao cI (ao cI (ao cI (ao (bd 1) (ao (bd 2) (ao (bd 3) bF)))))))) (az (bc 82 (.nm .sess)) (az (bc 63 (.nm .opn)) (az (bc 73 (.nm .snap)) (az (bH 24 (qP (.nm .command) bF)) aJ))))) fun (_,_,_) ((v,nx,kp,qt,_,_,_,_),se,op,sn,(c,_),_)=>⟨[op.length<1048576],[.agg (cellsOf (.nm .reply) ((ba (State.mk v nx kp qt se op sn) c).2))],some ([.box 43 ([.int ((((ba (State.mk v nx kp qt se op sn) c).1).version)),.int ((((ba (State.mk v nx kp qt se op sn) c).1).next)),.int ((((ba (State.mk v nx kp qt se op sn) c).1).keep)),.int ((((ba (State.mk v nx kp qt se op sn) c).1).quota)),.own 1,.own 2,.own 3]),.row 82 (.nm .sess) ((((ba (State.mk v nx kp qt se op sn) c).1).sess)),.row 63 (.nm .opn) ((((ba (State.mk v nx kp qt se op sn) c).1).opens)),.row 73 (.nm .snap) ((((ba (State.mk v nx kp qt se op sn) c).1).snaps)),.box 24 (cellsOf (.nm .command) ((c)))]),false⟩) (bq 144 (bm (ah (kC (bJ 0 0)) (ah (kC (bJ 4 0)) aK)) (az (bH 43 (ao cI (ao cI (ao cI (ao cI (ao (bd 1) (ao (bd 2) (ao (bd 3) bF)))))))) (az (bc 82 (.nm .sess)) (az (bc 63 (.nm .opn)) (az (bc 73 (.nm .snap)) (az (bH 24 (qP (.nm .command) bF)) aJ))))) fun (_,_,_) ((v,nx,kp,qt,_,_,_,_),se,op,sn,(c,_),_)=>⟨[nch sn<=1048576,sn.length<1048576,op.length<1048576,0<=nx],[.agg (cellsOf (.nm .reply) ((aW (State.mk v nx kp qt se op sn) c).2))],some ([.box 43 ([.int ((((aW (State.mk v nx kp qt se op sn) c).1).version)),.int ((((aW (State.mk v nx kp qt se op sn) c).1).next)),.int ((((aW (State.mk v nx kp qt se op sn) c).1).keep)),.int ((((aW (State.mk v nx kp qt se op sn) c).1).quota)),.own 1,.own 2,.own 3]),.row 82 (.nm .sess) ((((aW (State.mk v nx kp qt se op sn) c).1).sess)),.row 63 (.nm .opn) ((((aW (State.mk v nx kp qt se op sn) c).1).opens)),.row 73 (.nm .snap) ((((aW (State.mk v nx kp qt se op sn) c).1).snaps)),.box 24 (cellsOf (.nm .command) ((c)))]),false⟩) (bq 142 (bm (ah (kC (bJ 0 0)) (ah (kC (bJ 4 0)) aK)) (az (bH 43 (ao cI (ao cI (ao cI (ao cI (ao (bd 1) (ao (bd 2) (ao (bd 3) bF)))))))) (az (bc 82 (.nm .sess)) (az (bc 63 (.nm .opn)) (az (bc 73 (.nm .snap)) (az (bH 24 (qP (.nm .command) bF)) aJ))))) fun (_,_,_) ((v,nx,kp,qt,_,_,_,_),se,op,sn,(c,_),_)=>⟨[op.length<1048576],[.agg (cellsOf (.nm .reply) ((a_ (State.mk v nx kp qt se op sn) c).2))],some ([.box 43 ([.int ((((a_ (State.mk v nx kp qt se op sn) c).1).version)),.int ((((a_ (State.mk v nx kp qt se op sn) c).1).next)),.int ((((a_ (State.mk v nx kp qt se op sn) c).1).keep)),.int ((((a_ (State.mk v nx kp qt se op sn) c).1).quota)),.own 1,.own 2,.own 3]),.row 82 (.nm .sess) ((((a_ (State.mk v nx kp qt se op sn) c).1).sess)),.row 63 (.nm .opn) ((((a_ (State.mk v nx kp qt se op sn) c).1).opens)),.row 73 (.nm .snap) ((((a_ (State.mk v nx kp qt se op sn) c).1).snaps)),.box 24 (cellsOf (.nm .command) ((c)))]),false⟩) jA)))))))
theorem fM:aN Tryz.prog (ai tyT) nw:=(av (au (ab (al cJ) (ab (al aI) (ab (al aI) ak))) (ag (aG (ae aw (ae aw (ae aw (ae aw (ae aC (ae aC (ae aC aF)))))))) (ag aD (ag aD (ag aD (ag (aG (ae sg aF)) (ag (aG (dt aF)) aj)))))) fun (_,_,_,_) ((v,nx,kp,qt,_,_,_,_),se,op,sn,(b,_),(c,_),_) _=>tD v nx kp qt se op sn b c ) (av (au (ab (al cJ) (ab (al aI) (ab (al aI) ak))) (ag (aG (dt aF)) (ag (aG (ae aw (ae aw (ae aw (ae aw (ae aC (ae aC (ae aC aF)))))))) (ag aD (ag aD (ag aD aj))))) fun (_,_,_,_) ((c,_),(v,nx,kp,qt,_,_,_,_),se,op,sn,_) _=>uz c v nx kp qt se op sn ) (av (au (ab (al cJ) (ab (al aI) (ab (al aI) ak))) (ag (aG (ae aw (ae aw (ae aw (ae aw (ae aC (ae aC (ae aC aF)))))))) (ag aD (ag aD (ag aD (ag (aG (dt aF)) aj))))) fun (_,_,_,_) ((v,nx,kp,qt,_,_,_,_),se,op,sn,(c,_),_) _=>ri v nx kp qt se op sn c ) (av (au (ab (al cJ) (ab (al aI) (ab (al aI) ak))) (ag (aG (ae aw (ae aw (ae aw (ae aw (ae aC (ae aC (ae aC aF)))))))) (ag aD (ag aD (ag aD (ag (aG (dt aF)) aj))))) fun (_,_,_,_) ((v,nx,kp,qt,_,_,_,_),se,op,sn,(c,_),_) _=>qb v nx kp qt se op sn c ) (av (au (ab (al aI) (ab (al aI) ak)) (ag (aG (ae aw (ae aw (ae aw (ae aw (ae aC (ae aC (ae aC aF)))))))) (ag aD (ag aD (ag aD (ag (aG (dt aF)) aj))))) fun (_,_,_) ((v,nx,kp,qt,_,_,_,_),se,op,sn,(c,_),_) hp=>Ls v nx kp qt se op sn c (dB hp)) (av (au (ab (al aI) (ab (al aI) ak)) (ag (aG (ae aw (ae aw (ae aw (ae aw (ae aC (ae aC (ae aC aF)))))))) (ag aD (ag aD (ag aD (ag (aG (dt aF)) aj))))) fun (_,_,_) ((v,nx,kp,qt,_,_,_,_),se,op,sn,(c,_),_) hp=>IY v nx kp qt se op sn c (dB hp) (dB (gk hp)) (dB (gk (gk hp))) (dB (gk (gk (gk hp))))) (av (au (ab (al aI) (ab (al aI) ak)) (ag (aG (ae aw (ae aw (ae aw (ae aw (ae aC (ae aC (ae aC aF)))))))) (ag aD (ag aD (ag aD (ag (aG (dt aF)) aj))))) fun (_,_,_) ((v,nx,kp,qt,_,_,_,_),se,op,sn,(c,_),_) hp=>KJ v nx kp qt se op sn c (dB hp)) ek)))))))
theorem Jn (b:Bool) (v:Int) (nx:Int) (kp:Int) (qt:Int) (se:List Sess) (op:List Opn) (sn:List Snap) (c:Command) (r0:Int) (r1:Int) (r2:Int) (r3:Int) (r4:List Sess) (r5:List Opn) (r6:List Snap) (r7:Command) (r8:Bool):n_ tyT nw [] Tryz.f140 [.c (.bool (.atom (b))),.c (.ptr 0 0),.c (.ptr 1 0)] [.box 170 ([.fn 137 [] [(1,0),(5,0)]]),.box 43 ([.int (v),.int (nx),.int (kp),.int (qt),.own 2,.own 3,.own 4]),.row 82 (.nm .sess) (se),.row 63 (.nm .opn) (op),.row 73 (.nm .snap) (sn),.box 24 (cellsOf (.nm .command) (c))] [.c (.fn 138 [] [(1,0),(5,0),(7,0)])] [.box 170 ([.fn 137 [] [(1,0),(5,0)]]),.box 43 ([.int (r0),.int (r1),.int (r2),.int (r3),.own 2,.own 3,.own 4]),.row 82 (.nm .sess) (r4),.row 63 (.nm .opn) (r5),.row 73 (.nm .snap) (r6),.box 24 (cellsOf (.nm .command) (r7)),.box 4 ([.bool (.atom (r8))]),.box 168 ([.fn 141 [] [(1,0),(6,0)]])]=(v=r0/\nx=r1/\kp=r2/\qt=r3/\se=r4/\op=r5/\sn=r6/\c.kind=r7.kind/\c.client=r7.client/\c.seq=r7.seq/\c.set=r7.set/\c.id=r7.id/\c.n=r7.n/\c.chunks=r7.chunks/\c.text=r7.text/\b=r8):=by kernel_rfl
theorem Ma (b:Bool) (v:Int) (nx:Int) (kp:Int) (qt:Int) (se:List Sess) (op:List Opn) (sn:List Snap) (c:Command):Sat Tryz.prog (ai tyT) 140 [.c (.bool (.atom (b))),.c (.ptr 0 0),.c (.ptr 1 0)] [.box 170 ([.fn 137 [] [(1,0),(5,0)]]),.box 43 ([.int (v),.int (nx),.int (kp),.int (qt),.own 2,.own 3,.own 4]),.row 82 (.nm .sess) (se),.row 63 (.nm .opn) (op),.row 73 (.nm .snap) (sn),.box 24 (cellsOf (.nm .command) (c))] ⟨[],[.c (.fn 138 [] [(1,0),(5,0),(7,0)])],some ([.box 170 ([.fn 137 [] [(1,0),(5,0)]]),.box 43 ([.int ((v)),.int ((nx)),.int ((kp)),.int ((qt)),.own 2,.own 3,.own 4]),.row 82 (.nm .sess) ((se)),.row 63 (.nm .opn) ((op)),.row 73 (.nm .snap) ((sn)),.box 24 (cellsOf (.nm .command) ((c))),.box 4 ([.bool (.atom ((b)))]),.box 168 ([.fn 141 [] [(1,0),(6,0)]])]),true⟩:=by
 refine dO fM [] Tryz.func140 (by decide) (by kernel_rfl) ?_
 rw [Jn]
 (repeat' (first | with_reducible apply bP | with_reducible refine bQ ?_ | intro))
 all_goals (first | exact cn | exact rfl)
theorem uC (v:Int) (nx:Int) (kp:Int) (qt:Int) (se:List Sess) (op:List Opn) (sn:List Snap) (c:Command) (r0:Reply) (r1:Int) (r2:Int) (r3:Int) (r4:Int) (r5:List Sess) (r6:List Opn) (r7:List Snap) (r8:Command):lS tyT nw [] Tryz.f138 [.c (.ptr 0 0),.c (.ptr 4 0),.c (.ptr 5 0)] [.box 43 ([.int (v),.int (nx),.int (kp),.int (qt),.own 1,.own 2,.own 3]),.row 82 (.nm .sess) (se),.row 63 (.nm .opn) (op),.row 73 (.nm .snap) (sn),.box 24 (cellsOf (.nm .command) (c)),.box 168 ([.fn 151 [] [(0,0)]])] [.agg (cellsOf (.nm .reply) r0)] [.box 43 ([.int (r1),.int (r2),.int (r3),.int (r4),.own 1,.own 2,.own 3]),.row 82 (.nm .sess) (r5),.row 63 (.nm .opn) (r6),.row 73 (.nm .snap) (r7),.box 24 (cellsOf (.nm .command) (r8)),.box 168 ([.fn 151 [] [(0,0)]])]=((fun (q2:Int)=>(fun (q1:Prop)=>(fun (q0:State × Reply)=>I64 q2->(q2<(0:Int)->I64 (15:Int)->I64 (0:Int)->(15:Int)=r0.code/\(0:Int)=r0.n/\v=r1/\nx=r2/\kp=r3/\qt=r4/\se=r5/\op=r6/\sn=r7/\q1)/\((0:Int)<=q2->((0:Int)<=q2/\q2<(↑sn.length:Int))/\nch sn<=(1048576:Nat)/\(I64 q0.snd.code->I64 q0.snd.n->q0.snd.code=r0.code/\q0.snd.n=r0.n/\q0.fst.version=r1/\q0.fst.next=r2/\q0.fst.keep=r3/\q0.fst.quota=r4/\q0.fst.sess=r5/\q0.fst.opens=r6/\q0.fst.snaps=r7/\q1))) (aP (State.mk v nx kp qt se op sn) q2.toNat)) (c.kind=r8.kind/\c.client=r8.client/\c.seq=r8.seq/\c.set=r8.set/\c.id=r8.id/\c.n=r8.n/\c.chunks=r8.chunks/\c.text=r8.text)) (ay Snap.id c.id sn)):=by kernel_rfl
theorem uv (v:Int) (nx:Int) (kp:Int) (qt:Int) (se:List Sess) (op:List Opn) (sn:List Snap) (c:Command) (h0:nch sn<=1048576):Sat Tryz.prog (ai tyT) 138 [.c (.ptr 0 0),.c (.ptr 4 0),.c (.ptr 5 0)] [.box 43 ([.int (v),.int (nx),.int (kp),.int (qt),.own 1,.own 2,.own 3]),.row 82 (.nm .sess) (se),.row 63 (.nm .opn) (op),.row 73 (.nm .snap) (sn),.box 24 (cellsOf (.nm .command) (c)),.box 168 ([.fn 151 [] [(0,0)]])] ⟨[nch sn<=1048576],[.agg (cellsOf (.nm .reply) ((aB aP c (State.mk v nx kp qt se op sn)).2))],some ([.box 43 ([.int ((((aB aP c (State.mk v nx kp qt se op sn)).1).version)),.int ((((aB aP c (State.mk v nx kp qt se op sn)).1).next)),.int ((((aB aP c (State.mk v nx kp qt se op sn)).1).keep)),.int ((((aB aP c (State.mk v nx kp qt se op sn)).1).quota)),.own 1,.own 2,.own 3]),.row 82 (.nm .sess) ((((aB aP c (State.mk v nx kp qt se op sn)).1).sess)),.row 63 (.nm .opn) ((((aB aP c (State.mk v nx kp qt se op sn)).1).opens)),.row 73 (.nm .snap) ((((aB aP c (State.mk v nx kp qt se op sn)).1).snaps)),.box 24 (cellsOf (.nm .command) ((c))),.box 168 ([.fn 151 [] [(0,0)]])]),false⟩:=by
 refine cZ fM [] Tryz.func138 (by decide) (by kernel_rfl) ?_
 rw [uC]
 (repeat' (first | with_reducible apply bP | with_reducible refine bQ ?_ | intro))
 all_goals (first | exact cn | exact cT aq | (rw [O_] <;> first | rfl | omega) | (rw [OZ] <;> first | rfl | omega))
theorem xU (v:Int) (nx:Int) (kp:Int) (qt:Int) (se:List Sess) (op:List Opn) (sn:List Snap) (c:Command) (r0:Reply) (r1:Int) (r2:Int) (r3:Int) (r4:Int) (r5:List Sess) (r6:List Opn) (r7:List Snap) (r8:Command):lS tyT nw [] Tryz.f138 [.c (.ptr 0 0),.c (.ptr 4 0),.c (.ptr 5 0)] [.box 43 ([.int (v),.int (nx),.int (kp),.int (qt),.own 1,.own 2,.own 3]),.row 82 (.nm .sess) (se),.row 63 (.nm .opn) (op),.row 73 (.nm .snap) (sn),.box 24 (cellsOf (.nm .command) (c)),.box 168 ([.fn 153 [] [(0,0)]])] [.agg (cellsOf (.nm .reply) r0)] [.box 43 ([.int (r1),.int (r2),.int (r3),.int (r4),.own 1,.own 2,.own 3]),.row 82 (.nm .sess) (r5),.row 63 (.nm .opn) (r6),.row 73 (.nm .snap) (r7),.box 24 (cellsOf (.nm .command) (r8)),.box 168 ([.fn 153 [] [(0,0)]])]=((fun (q2:Int)=>(fun (q1:Prop)=>(fun (q0:State × Reply)=>I64 q2->(q2<(0:Int)->I64 (15:Int)->I64 (0:Int)->(15:Int)=r0.code/\(0:Int)=r0.n/\v=r1/\nx=r2/\kp=r3/\qt=r4/\se=r5/\op=r6/\sn=r7/\q1)/\((0:Int)<=q2->((0:Int)<=q2/\q2<(↑sn.length:Int))/\(I64 q0.snd.code->I64 q0.snd.n->q0.snd.code=r0.code/\q0.snd.n=r0.n/\q0.fst.version=r1/\q0.fst.next=r2/\q0.fst.keep=r3/\q0.fst.quota=r4/\q0.fst.sess=r5/\q0.fst.opens=r6/\q0.fst.snaps=r7/\q1))) (bj (State.mk v nx kp qt se op sn) q2.toNat)) (c.kind=r8.kind/\c.client=r8.client/\c.seq=r8.seq/\c.set=r8.set/\c.id=r8.id/\c.n=r8.n/\c.chunks=r8.chunks/\c.text=r8.text)) (ay Snap.id c.id sn)):=by kernel_rfl
theorem yf (v:Int) (nx:Int) (kp:Int) (qt:Int) (se:List Sess) (op:List Opn) (sn:List Snap) (c:Command):Sat Tryz.prog (ai tyT) 138 [.c (.ptr 0 0),.c (.ptr 4 0),.c (.ptr 5 0)] [.box 43 ([.int (v),.int (nx),.int (kp),.int (qt),.own 1,.own 2,.own 3]),.row 82 (.nm .sess) (se),.row 63 (.nm .opn) (op),.row 73 (.nm .snap) (sn),.box 24 (cellsOf (.nm .command) (c)),.box 168 ([.fn 153 [] [(0,0)]])] ⟨[],[.agg (cellsOf (.nm .reply) ((aB bj c (State.mk v nx kp qt se op sn)).2))],some ([.box 43 ([.int ((((aB bj c (State.mk v nx kp qt se op sn)).1).version)),.int ((((aB bj c (State.mk v nx kp qt se op sn)).1).next)),.int ((((aB bj c (State.mk v nx kp qt se op sn)).1).keep)),.int ((((aB bj c (State.mk v nx kp qt se op sn)).1).quota)),.own 1,.own 2,.own 3]),.row 82 (.nm .sess) ((((aB bj c (State.mk v nx kp qt se op sn)).1).sess)),.row 63 (.nm .opn) ((((aB bj c (State.mk v nx kp qt se op sn)).1).opens)),.row 73 (.nm .snap) ((((aB bj c (State.mk v nx kp qt se op sn)).1).snaps)),.box 24 (cellsOf (.nm .command) ((c))),.box 168 ([.fn 153 [] [(0,0)]])]),false⟩:=by
 refine cZ fM [] Tryz.func138 (by decide) (by kernel_rfl) ?_
 rw [xU]
 (repeat' (first | with_reducible apply bP | with_reducible refine bQ ?_ | intro))
 all_goals (first | exact cn | exact cT aq | (rw [O_] <;> first | rfl | omega) | (rw [OZ] <;> first | rfl | omega))
theorem Bh (v:Int) (nx:Int) (kp:Int) (qt:Int) (se:List Sess) (op:List Opn) (sn:List Snap) (c:Command) (r0:Reply) (r1:Int) (r2:Int) (r3:Int) (r4:Int) (r5:List Sess) (r6:List Opn) (r7:List Snap) (r8:Command):lS tyT nw [] Tryz.f138 [.c (.ptr 0 0),.c (.ptr 4 0),.c (.ptr 5 0)] [.box 43 ([.int (v),.int (nx),.int (kp),.int (qt),.own 1,.own 2,.own 3]),.row 82 (.nm .sess) (se),.row 63 (.nm .opn) (op),.row 73 (.nm .snap) (sn),.box 24 (cellsOf (.nm .command) (c)),.box 168 ([.fn 154 [] [(4,0),(0,0)]])] [.agg (cellsOf (.nm .reply) r0)] [.box 43 ([.int (r1),.int (r2),.int (r3),.int (r4),.own 1,.own 2,.own 3]),.row 82 (.nm .sess) (r5),.row 63 (.nm .opn) (r6),.row 73 (.nm .snap) (r7),.box 24 (cellsOf (.nm .command) (r8)),.box 168 ([.fn 154 [] [(4,0),(0,0)]])]=((fun (q2:Int)=>(fun (q1:Prop)=>(fun (q0:State × Reply)=>I64 q2->(q2<(0:Int)->I64 (15:Int)->I64 (0:Int)->(15:Int)=r0.code/\(0:Int)=r0.n/\v=r1/\nx=r2/\kp=r3/\qt=r4/\se=r5/\op=r6/\sn=r7/\q1)/\((0:Int)<=q2->((0:Int)<=q2/\q2<(↑sn.length:Int))/\(I64 q0.snd.code->I64 q0.snd.n->q0.snd.code=r0.code/\q0.snd.n=r0.n/\q0.fst.version=r1/\q0.fst.next=r2/\q0.fst.keep=r3/\q0.fst.quota=r4/\q0.fst.sess=r5/\q0.fst.opens=r6/\q0.fst.snaps=r7/\q1))) (de c (State.mk v nx kp qt se op sn) q2.toNat)) (c.kind=r8.kind/\c.client=r8.client/\c.seq=r8.seq/\c.set=r8.set/\c.id=r8.id/\c.n=r8.n/\c.chunks=r8.chunks/\c.text=r8.text)) (ay Snap.id c.id sn)):=by kernel_rfl
theorem zo (v:Int) (nx:Int) (kp:Int) (qt:Int) (se:List Sess) (op:List Opn) (sn:List Snap) (c:Command):Sat Tryz.prog (ai tyT) 138 [.c (.ptr 0 0),.c (.ptr 4 0),.c (.ptr 5 0)] [.box 43 ([.int (v),.int (nx),.int (kp),.int (qt),.own 1,.own 2,.own 3]),.row 82 (.nm .sess) (se),.row 63 (.nm .opn) (op),.row 73 (.nm .snap) (sn),.box 24 (cellsOf (.nm .command) (c)),.box 168 ([.fn 154 [] [(4,0),(0,0)]])] ⟨[],[.agg (cellsOf (.nm .reply) ((aB (de c) c (State.mk v nx kp qt se op sn)).2))],some ([.box 43 ([.int ((((aB (de c) c (State.mk v nx kp qt se op sn)).1).version)),.int ((((aB (de c) c (State.mk v nx kp qt se op sn)).1).next)),.int ((((aB (de c) c (State.mk v nx kp qt se op sn)).1).keep)),.int ((((aB (de c) c (State.mk v nx kp qt se op sn)).1).quota)),.own 1,.own 2,.own 3]),.row 82 (.nm .sess) ((((aB (de c) c (State.mk v nx kp qt se op sn)).1).sess)),.row 63 (.nm .opn) ((((aB (de c) c (State.mk v nx kp qt se op sn)).1).opens)),.row 73 (.nm .snap) ((((aB (de c) c (State.mk v nx kp qt se op sn)).1).snaps)),.box 24 (cellsOf (.nm .command) ((c))),.box 168 ([.fn 154 [] [(4,0),(0,0)]])]),false⟩:=by
 refine cZ fM [] Tryz.func138 (by decide) (by kernel_rfl) ?_
 rw [Bh]
 (repeat' (first | with_reducible apply bP | with_reducible refine bQ ?_ | intro))
 all_goals (first | exact cn | exact cT aq | (rw [O_] <;> first | rfl | omega) | (rw [OZ] <;> first | rfl | omega))
theorem yB (v:Int) (nx:Int) (kp:Int) (qt:Int) (se:List Sess) (op:List Opn) (sn:List Snap) (c:Command) (b:Bool) (r0:Reply) (r1:Int) (r2:Int) (r3:Int) (r4:Int) (r5:List Sess) (r6:List Opn) (r7:List Snap) (r8:Command) (r9:Bool):lS tyT nw [] Tryz.f138 [.c (.ptr 0 0),.c (.ptr 4 0),.c (.ptr 5 0)] [.box 43 ([.int (v),.int (nx),.int (kp),.int (qt),.own 1,.own 2,.own 3]),.row 82 (.nm .sess) (se),.row 63 (.nm .opn) (op),.row 73 (.nm .snap) (sn),.box 24 (cellsOf (.nm .command) (c)),.box 168 ([.fn 141 [] [(0,0),(6,0)]]),.box 4 ([.bool (.atom (b))])] [.agg (cellsOf (.nm .reply) r0)] [.box 43 ([.int (r1),.int (r2),.int (r3),.int (r4),.own 1,.own 2,.own 3]),.row 82 (.nm .sess) (r5),.row 63 (.nm .opn) (r6),.row 73 (.nm .snap) (r7),.box 24 (cellsOf (.nm .command) (r8)),.box 168 ([.fn 141 [] [(0,0),(6,0)]]),.box 4 ([.bool (.atom (r9))])]=((fun (q2:Int)=>(fun (q1:Prop)=>(fun (q0:State × Reply)=>I64 q2->(q2<(0:Int)->I64 (15:Int)->I64 (0:Int)->(15:Int)=r0.code/\(0:Int)=r0.n/\v=r1/\nx=r2/\kp=r3/\qt=r4/\se=r5/\op=r6/\sn=r7/\q1)/\((0:Int)<=q2->((0:Int)<=q2/\q2<(↑sn.length:Int))/\(I64 q0.snd.code->I64 q0.snd.n->q0.snd.code=r0.code/\q0.snd.n=r0.n/\q0.fst.version=r1/\q0.fst.next=r2/\q0.fst.keep=r3/\q0.fst.quota=r4/\q0.fst.sess=r5/\q0.fst.opens=r6/\q0.fst.snaps=r7/\q1))) (bB b (State.mk v nx kp qt se op sn) q2.toNat)) (c.kind=r8.kind/\c.client=r8.client/\c.seq=r8.seq/\c.set=r8.set/\c.id=r8.id/\c.n=r8.n/\c.chunks=r8.chunks/\c.text=r8.text/\b=r9)) (ay Snap.id c.id sn)):=by kernel_rfl
theorem yi (v:Int) (nx:Int) (kp:Int) (qt:Int) (se:List Sess) (op:List Opn) (sn:List Snap) (c:Command) (b:Bool):Sat Tryz.prog (ai tyT) 138 [.c (.ptr 0 0),.c (.ptr 4 0),.c (.ptr 5 0)] [.box 43 ([.int (v),.int (nx),.int (kp),.int (qt),.own 1,.own 2,.own 3]),.row 82 (.nm .sess) (se),.row 63 (.nm .opn) (op),.row 73 (.nm .snap) (sn),.box 24 (cellsOf (.nm .command) (c)),.box 168 ([.fn 141 [] [(0,0),(6,0)]]),.box 4 ([.bool (.atom (b))])] ⟨[],[.agg (cellsOf (.nm .reply) ((aB (bB b) c (State.mk v nx kp qt se op sn)).2))],some ([.box 43 ([.int ((((aB (bB b) c (State.mk v nx kp qt se op sn)).1).version)),.int ((((aB (bB b) c (State.mk v nx kp qt se op sn)).1).next)),.int ((((aB (bB b) c (State.mk v nx kp qt se op sn)).1).keep)),.int ((((aB (bB b) c (State.mk v nx kp qt se op sn)).1).quota)),.own 1,.own 2,.own 3]),.row 82 (.nm .sess) ((((aB (bB b) c (State.mk v nx kp qt se op sn)).1).sess)),.row 63 (.nm .opn) ((((aB (bB b) c (State.mk v nx kp qt se op sn)).1).opens)),.row 73 (.nm .snap) ((((aB (bB b) c (State.mk v nx kp qt se op sn)).1).snaps)),.box 24 (cellsOf (.nm .command) ((c))),.box 168 ([.fn 141 [] [(0,0),(6,0)]]),.box 4 ([.bool (.atom ((b)))])]),false⟩:=by
 refine cZ fM [] Tryz.func138 (by decide) (by kernel_rfl) ?_
 rw [yB]
 (repeat' (first | with_reducible apply bP | with_reducible refine bQ ?_ | intro))
 all_goals (first | exact cn | exact cT aq | (rw [O_] <;> first | rfl | omega) | (rw [OZ] <;> first | rfl | omega))
def zu:cd:=(bq 138 (bm (ah (kC (bJ 0 0)) (ah (kC (bJ 4 0)) (ah (kC (bJ 5 0)) aK))) (az (bH 43 (ao cI (ao cI (ao cI (ao cI (ao (bd 1) (ao (bd 2) (ao (bd 3) bF)))))))) (az (bc 82 (.nm .sess)) (az (bc 63 (.nm .opn)) (az (bc 73 (.nm .snap)) (az (bH 24 (qP (.nm .command) bF)) (az (bH 168 (ao (nX 141 [] [(0,0),(6,0)]) bF)) (az (bH 4 (ao cB bF)) aJ))))))) fun (_,_,_,_) ((v,nx,kp,qt,_,_,_,_),se,op,sn,(c,_),(_,_),(b,_),_)=>⟨[],[.agg (cellsOf (.nm .reply) ((aB (bB b) c (State.mk v nx kp qt se op sn)).2))],some ([.box 43 ([.int ((((aB (bB b) c (State.mk v nx kp qt se op sn)).1).version)),.int ((((aB (bB b) c (State.mk v nx kp qt se op sn)).1).next)),.int ((((aB (bB b) c (State.mk v nx kp qt se op sn)).1).keep)),.int ((((aB (bB b) c (State.mk v nx kp qt se op sn)).1).quota)),.own 1,.own 2,.own 3]),.row 82 (.nm .sess) ((((aB (bB b) c (State.mk v nx kp qt se op sn)).1).sess)),.row 63 (.nm .opn) ((((aB (bB b) c (State.mk v nx kp qt se op sn)).1).opens)),.row 73 (.nm .snap) ((((aB (bB b) c (State.mk v nx kp qt se op sn)).1).snaps)),.box 24 (cellsOf (.nm .command) ((c))),.box 168 ([.fn 141 [] [(0,0),(6,0)]]),.box 4 ([.bool (.atom ((b)))])]),false⟩) (bq 138 (bm (ah (kC (bJ 0 0)) (ah (kC (bJ 4 0)) (ah (kC (bJ 5 0)) aK))) (az (bH 43 (ao cI (ao cI (ao cI (ao cI (ao (bd 1) (ao (bd 2) (ao (bd 3) bF)))))))) (az (bc 82 (.nm .sess)) (az (bc 63 (.nm .opn)) (az (bc 73 (.nm .snap)) (az (bH 24 (qP (.nm .command) bF)) (az (bH 168 (ao (nX 154 [] [(4,0),(0,0)]) bF)) aJ)))))) fun (_,_,_,_) ((v,nx,kp,qt,_,_,_,_),se,op,sn,(c,_),(_,_),_)=>⟨[],[.agg (cellsOf (.nm .reply) ((aB (de c) c (State.mk v nx kp qt se op sn)).2))],some ([.box 43 ([.int ((((aB (de c) c (State.mk v nx kp qt se op sn)).1).version)),.int ((((aB (de c) c (State.mk v nx kp qt se op sn)).1).next)),.int ((((aB (de c) c (State.mk v nx kp qt se op sn)).1).keep)),.int ((((aB (de c) c (State.mk v nx kp qt se op sn)).1).quota)),.own 1,.own 2,.own 3]),.row 82 (.nm .sess) ((((aB (de c) c (State.mk v nx kp qt se op sn)).1).sess)),.row 63 (.nm .opn) ((((aB (de c) c (State.mk v nx kp qt se op sn)).1).opens)),.row 73 (.nm .snap) ((((aB (de c) c (State.mk v nx kp qt se op sn)).1).snaps)),.box 24 (cellsOf (.nm .command) ((c))),.box 168 ([.fn 154 [] [(4,0),(0,0)]])]),false⟩) (bq 138 (bm (ah (kC (bJ 0 0)) (ah (kC (bJ 4 0)) (ah (kC (bJ 5 0)) aK))) (az (bH 43 (ao cI (ao cI (ao cI (ao cI (ao (bd 1) (ao (bd 2) (ao (bd 3) bF)))))))) (az (bc 82 (.nm .sess)) (az (bc 63 (.nm .opn)) (az (bc 73 (.nm .snap)) (az (bH 24 (qP (.nm .command) bF)) (az (bH 168 (ao (nX 153 [] [(0,0)]) bF)) aJ)))))) fun (_,_,_,_) ((v,nx,kp,qt,_,_,_,_),se,op,sn,(c,_),(_,_),_)=>⟨[],[.agg (cellsOf (.nm .reply) ((aB bj c (State.mk v nx kp qt se op sn)).2))],some ([.box 43 ([.int ((((aB bj c (State.mk v nx kp qt se op sn)).1).version)),.int ((((aB bj c (State.mk v nx kp qt se op sn)).1).next)),.int ((((aB bj c (State.mk v nx kp qt se op sn)).1).keep)),.int ((((aB bj c (State.mk v nx kp qt se op sn)).1).quota)),.own 1,.own 2,.own 3]),.row 82 (.nm .sess) ((((aB bj c (State.mk v nx kp qt se op sn)).1).sess)),.row 63 (.nm .opn) ((((aB bj c (State.mk v nx kp qt se op sn)).1).opens)),.row 73 (.nm .snap) ((((aB bj c (State.mk v nx kp qt se op sn)).1).snaps)),.box 24 (cellsOf (.nm .command) ((c))),.box 168 ([.fn 153 [] [(0,0)]])]),false⟩) (bq 138 (bm (ah (kC (bJ 0 0)) (ah (kC (bJ 4 0)) (ah (kC (bJ 5 0)) aK))) (az (bH 43 (ao cI (ao cI (ao cI (ao cI (ao (bd 1) (ao (bd 2) (ao (bd 3) bF)))))))) (az (bc 82 (.nm .sess)) (az (bc 63 (.nm .opn)) (az (bc 73 (.nm .snap)) (az (bH 24 (qP (.nm .command) bF)) (az (bH 168 (ao (nX 151 [] [(0,0)]) bF)) aJ)))))) fun (_,_,_,_) ((v,nx,kp,qt,_,_,_,_),se,op,sn,(c,_),(_,_),_)=>⟨[nch sn<=1048576],[.agg (cellsOf (.nm .reply) ((aB aP c (State.mk v nx kp qt se op sn)).2))],some ([.box 43 ([.int ((((aB aP c (State.mk v nx kp qt se op sn)).1).version)),.int ((((aB aP c (State.mk v nx kp qt se op sn)).1).next)),.int ((((aB aP c (State.mk v nx kp qt se op sn)).1).keep)),.int ((((aB aP c (State.mk v nx kp qt se op sn)).1).quota)),.own 1,.own 2,.own 3]),.row 82 (.nm .sess) ((((aB aP c (State.mk v nx kp qt se op sn)).1).sess)),.row 63 (.nm .opn) ((((aB aP c (State.mk v nx kp qt se op sn)).1).opens)),.row 73 (.nm .snap) ((((aB aP c (State.mk v nx kp qt se op sn)).1).snaps)),.box 24 (cellsOf (.nm .command) ((c))),.box 168 ([.fn 151 [] [(0,0)]])]),false⟩) (bq 140 (bm (ah (kC cB) (ah (kC (bJ 0 0)) (ah (kC (bJ 1 0)) aK))) (az (bH 170 (ao (nX 137 [] [(1,0),(5,0)]) bF)) (az (bH 43 (ao cI (ao cI (ao cI (ao cI (ao (bd 2) (ao (bd 3) (ao (bd 4) bF)))))))) (az (bc 82 (.nm .sess)) (az (bc 63 (.nm .opn)) (az (bc 73 (.nm .snap)) (az (bH 24 (qP (.nm .command) bF)) aJ)))))) fun (b,_,_,_) ((_,_),(v,nx,kp,qt,_,_,_,_),se,op,sn,(c,_),_)=>⟨[],[.c (.fn 138 [] [(1,0),(5,0),(7,0)])],some ([.box 170 ([.fn 137 [] [(1,0),(5,0)]]),.box 43 ([.int ((v)),.int ((nx)),.int ((kp)),.int ((qt)),.own 2,.own 3,.own 4]),.row 82 (.nm .sess) ((se)),.row 63 (.nm .opn) ((op)),.row 73 (.nm .snap) ((sn)),.box 24 (cellsOf (.nm .command) ((c))),.box 4 ([.bool (.atom ((b)))]),.box 168 ([.fn 141 [] [(1,0),(6,0)]])]),true⟩) nw)))))
theorem qR:aN Tryz.prog (ai tyT) zu:=(av (au (ab (al aI) (ab (al aI) (ab (al aI) ak))) (ag (aG (ae aw (ae aw (ae aw (ae aw (ae aC (ae aC (ae aC aF)))))))) (ag aD (ag aD (ag aD (ag (aG (dt aF)) (ag (aG (ae cJ aF)) (ag (aG (ae sg aF)) aj))))))) fun (_,_,_,_) ((v,nx,kp,qt,_,_,_,_),se,op,sn,(c,_),(_,_),(b,_),_) _=>yi v nx kp qt se op sn c b ) (av (au (ab (al aI) (ab (al aI) (ab (al aI) ak))) (ag (aG (ae aw (ae aw (ae aw (ae aw (ae aC (ae aC (ae aC aF)))))))) (ag aD (ag aD (ag aD (ag (aG (dt aF)) (ag (aG (ae cJ aF)) aj)))))) fun (_,_,_,_) ((v,nx,kp,qt,_,_,_,_),se,op,sn,(c,_),(_,_),_) _=>zo v nx kp qt se op sn c ) (av (au (ab (al aI) (ab (al aI) (ab (al aI) ak))) (ag (aG (ae aw (ae aw (ae aw (ae aw (ae aC (ae aC (ae aC aF)))))))) (ag aD (ag aD (ag aD (ag (aG (dt aF)) (ag (aG (ae cJ aF)) aj)))))) fun (_,_,_,_) ((v,nx,kp,qt,_,_,_,_),se,op,sn,(c,_),(_,_),_) _=>yf v nx kp qt se op sn c ) (av (au (ab (al aI) (ab (al aI) (ab (al aI) ak))) (ag (aG (ae aw (ae aw (ae aw (ae aw (ae aC (ae aC (ae aC aF)))))))) (ag aD (ag aD (ag aD (ag (aG (dt aF)) (ag (aG (ae cJ aF)) aj)))))) fun (_,_,_,_) ((v,nx,kp,qt,_,_,_,_),se,op,sn,(c,_),(_,_),_) hp=>uv v nx kp qt se op sn c (dB hp)) (av (au (ab (al sg) (ab (al aI) (ab (al aI) ak))) (ag (aG (ae cJ aF)) (ag (aG (ae aw (ae aw (ae aw (ae aw (ae aC (ae aC (ae aC aF)))))))) (ag aD (ag aD (ag aD (ag (aG (dt aF)) aj)))))) fun (b,_,_,_) ((_,_),(v,nx,kp,qt,_,_,_,_),se,op,sn,(c,_),_) _=>Ma b v nx kp qt se op sn c ) fM)))))
def dx (s:State) (c:Command):Int:=if mayF s s.version=0 then b_ c s.version else 1
def Bk (s:State) (c:Command):State × Reply:=
 if c.kind=11 then aB (de c) c s
 else if c.kind=10 then aB (bB false) c s
 else if c.kind=9 then aB (bB true) c s
 else if c.kind=7 then aB bj c s
 else if c.kind=5 then aB aP c s
 else if c.kind=12 then cR c s
 else if c.kind=6 then dI c s
 else if c.kind=4 then ba s c
 else if c.kind=3 then aW s c
 else if c.kind=2 then a_ s c
 else (s,⟨1,0⟩)
def cW (s:State) (c:Command):State × Reply:=if ¬ dx s c=0 then (s,⟨dx s c,0⟩) else Bk s c
theorem qB {α:Type} {key:α->Int} {most:Int}:∀ {l:List α} {a:Int},aE key most a l=true->l=[]\/a+(l.length:Int)<=most
 | [],_,_=>.inl rfl
 | x :: l,a,h=>by
  simp only [aE,Bool.and_eq_true] at h
  have h1:=Aj h.1
  rcases qB h.2 with h2 | h2
  ·subst h2; right; simp only [List.length_cons,List.length_nil]; omega
  ·right; simp only [List.length_cons]; omega
theorem eI {s:State} {v:Int} (h:mayF s v=0):cE v 1 3=true/\hP s v=true/\tj s=true/\qi s=true/\eW s v=true:=by
 unfold mayF at h
 split at h
 ·omega
 ·rename_i h1
  split at h
  ·omega
  ·rename_i h2
   simp at h1 h2
   exact ⟨h1,h2.1.1.1,h2.1.1.2,h2.1.2,h2.2⟩
theorem LQ {s:State} {v:Int} (h:mayF s v=0):s.opens.length<=8:=by
 have h1:=(eI h).2.2.2.1
 simp only [qi,Bool.and_eq_true] at h1
 rcases qB h1.1 with h2 | h2
 ·rw [h2]; simp
 ·omega
theorem Jh {s:State} {v:Int} (h:mayF s v=0):s.sess.length<=8:=by
 have h1:=(eI h).2.2.1
 simp only [tj,Bool.and_eq_true] at h1
 rcases qB h1.1 with h2 | h2
 ·rw [h2]; simp
 ·omega
theorem Bl {s:State} {v:Int} (h:mayF s v=0):s.snaps.length<=16/\aE Snap.id (s.next - 1) 0 s.snaps=true/\∀ x ∈ s.snaps,cQ v (pH v) x=true:=by
 have h1:=(eI h).2.2.2.2
 simp only [eW,Bool.and_eq_true,Bool.not_eq_true',Bool.or_eq_false_iff,decide_eq_false_iff_not,Bool.not_eq_false',List.all_eq_true] at h1
 exact ⟨by omega,h1.1.2,h1.2⟩
theorem Le {x:Snap} {v t:Int} (h:cQ v t x=true):rowF x.chunks=true:=by
 simp only [cQ,Bool.and_eq_true,decide_eq_true_eq] at h
 cases hr:rowF x.chunks with
 | true=>rfl
 | false=>have:=nv (l:=x.chunks) hr; omega
theorem Ea:∀ {l:List Snap},(∀ x ∈ l,rowF x.chunks=true)->nch l<=8*l.length
 | [],_=>Nat.le_refl _
 | x :: l,h=>by
  have h1:=Ea (l:=l) fun y hy=>h y (List.mem_cons_of_mem _ hy)
  have h2:=(xh (h x (List.mem_cons_self))).2
  have e:nch (x :: l)=x.chunks.length+nch l:=by simp [nch]
  rw [e,List.length_cons]; omega
theorem FV {s:State} {v:Int} (h:mayF s v=0):nch s.snaps<=128:=by
 have h1:=Bl h
 have:=Ea (l:=s.snaps) fun x hx=>Le (h1.2.2 x hx)
 omega
theorem JO {s:State} {v:Int} (h:mayF s v=0):1<=s.next/\s.next<=1048576:=by
 have h1:=(eI h).2.1
 simp only [hP,Bool.and_eq_true] at h1
 exact Aj h1.1.1.2
theorem ub {s:State} {c:Command} (h:(if mayF s s.version=0 then b_ c s.version else 1)=0):mayF s s.version=0:=by
 split at h
 ·assumption
 ·omega
theorem Ka {s:State} {c:Command} (h:(if mayF s s.version=0 then b_ c s.version else 1)=0):nch s.snaps<=1048576:=by have:=FV (ub h); omega
theorem NN {s:State} {c:Command} (h:(if mayF s s.version=0 then b_ c s.version else 1)=0):s.opens.length<1048576:=by have:=LQ (ub h); omega
theorem Ib {s:State} {c:Command} (h:(if mayF s s.version=0 then b_ c s.version else 1)=0):s.sess.length<1048576:=by have:=Jh (ub h); omega
theorem Nr {s:State} {c:Command} (h:(if mayF s s.version=0 then b_ c s.version else 1)=0):s.snaps.length<1048576:=by have:=(Bl (ub h)).1; omega
theorem On {s:State} {c:Command} (h:(if mayF s s.version=0 then b_ c s.version else 1)=0):0<=s.next:=by have:=JO (ub h); omega
theorem OC {s:State} {c:Command} (h:(if mayF s s.version=0 then b_ c s.version else 1)=0):cW s c=Bk s c:=by
 have h:dx s c=0:=h
 rw [cW,h]; rfl
theorem Rn {s:State} {c:Command} (h:¬ (if mayF s s.version=0 then b_ c s.version else 1)=0):cW s c=(s,⟨(if mayF s s.version=0 then b_ c s.version else 1),0⟩):=by
 have h:¬ dx s c=0:=h
 rw [cW,if_pos h]; rfl
theorem KF (st:State) (c:Command) (r0:Int) (r1:Int) (r2:Int) (r3:Int) (r4:Reply) (r5:List Sess) (r6:List Opn) (r7:List Snap):n_ tyT zu [] Tryz.f103 [.agg (cellsOf (.nm .state) st),.agg (cellsOf (.nm .command) c)] [] [.agg ([.int (r0),.int (r1),.int (r2),.int (r3),.own 0,.own 1,.own 2]),.agg (cellsOf (.nm .reply) r4)] [.row 82 (.nm .sess) (r5),.row 63 (.nm .opn) (r6),.row 73 (.nm .snap) (r7)]=((fun (q18:Reply)=>(fun (q17:Int)=>(fun (q16:Int)=>(fun (q15:Prop)=>(fun (q14:Prop)=>(fun (q13:Int)=>(fun (q12:State)=>(fun (q11:Prop)=>(fun (q10:State × Reply)=>(fun (q9:State × Reply)=>(fun (q8:State × Reply)=>(fun (q7:Int)=>(fun (q6:State × Reply)=>(fun (q5:State × Reply)=>(fun (q4:State × Reply)=>(fun (q3:State × Reply)=>(fun (q2:State × Reply)=>(fun (q1:State × Reply)=>(fun (q0:Int)=>I64 q17->I64 st.next->I64 st.keep->I64 st.quota->st.sess.length*(32:Nat)<=(140737488355328:Nat)->st.opens.length*(16:Nat)<=(140737488355328:Nat)->st.snaps.length*(64:Nat)<=(140737488355328:Nat)->I64 q7->I64 c.client->I64 c.seq->I64 c.set->I64 c.id->I64 c.n->c.chunks.length*(8:Nat)<=(140737488355328:Nat)->c.text.b.length<=(140737488355328:Nat)->I64 q17->I64 st.next->I64 st.keep->I64 st.quota->I64 q0->(¬q0=q16->I64 q0->I64 q16->q17=r0/\st.next=r1/\st.keep=r2/\st.quota=r3/\q0=q13/\q11)/\(q0=q16->(q7=(11:Int)->I64 q3.snd.code->I64 q3.snd.n->q3.fst.version=r0/\q3.fst.next=r1/\q3.fst.keep=r2/\q3.fst.quota=r3/\q3.snd.code=q13/\q3.snd.n=r4.n/\q3.fst.sess=r5/\q3.fst.opens=r6/\q3.fst.snaps=r7)/\(¬q7=(11:Int)->(q7=(10:Int)->I64 q1.snd.code->I64 q1.snd.n->q1.fst.version=r0/\q1.fst.next=r1/\q1.fst.keep=r2/\q1.fst.quota=r3/\q1.snd.code=q13/\q1.snd.n=r4.n/\q1.fst.sess=r5/\q1.fst.opens=r6/\q1.fst.snaps=r7)/\(¬q7=(10:Int)->(q7=(9:Int)->I64 q2.snd.code->I64 q2.snd.n->q2.fst.version=r0/\q2.fst.next=r1/\q2.fst.keep=r2/\q2.fst.quota=r3/\q2.snd.code=q13/\q2.snd.n=r4.n/\q2.fst.sess=r5/\q2.fst.opens=r6/\q2.fst.snaps=r7)/\(¬q7=(9:Int)->(q7=(7:Int)->I64 q4.snd.code->I64 q4.snd.n->q4.fst.version=r0/\q4.fst.next=r1/\q4.fst.keep=r2/\q4.fst.quota=r3/\q4.snd.code=q13/\q4.snd.n=r4.n/\q4.fst.sess=r5/\q4.fst.opens=r6/\q4.fst.snaps=r7)/\(¬q7=(7:Int)->(q7=(5:Int)->q15/\(I64 q5.snd.code->I64 q5.snd.n->q5.fst.version=r0/\q5.fst.next=r1/\q5.fst.keep=r2/\q5.fst.quota=r3/\q5.snd.code=q13/\q5.snd.n=r4.n/\q5.fst.sess=r5/\q5.fst.opens=r6/\q5.fst.snaps=r7))/\(¬q7=(5:Int)->(q7=(12:Int)->q15/\(I64 q10.snd.code->I64 q10.snd.n->q10.fst.version=r0/\q10.fst.next=r1/\q10.fst.keep=r2/\q10.fst.quota=r3/\q10.snd.code=q13/\q10.snd.n=r4.n/\q10.fst.sess=r5/\q10.fst.opens=r6/\q10.fst.snaps=r7))/\(¬q7=(12:Int)->(q7=(6:Int)->I64 q18.code->I64 q18.n->q12.version=r0/\q12.next=r1/\q12.keep=r2/\q12.quota=r3/\q18.code=q13/\q18.n=r4.n/\q12.sess=r5/\q12.opens=r6/\q12.snaps=r7)/\(¬q7=(6:Int)->(q7=(4:Int)->q14/\(I64 q8.snd.code->I64 q8.snd.n->q8.fst.version=r0/\q8.fst.next=r1/\q8.fst.keep=r2/\q8.fst.quota=r3/\q8.snd.code=q13/\q8.snd.n=r4.n/\q8.fst.sess=r5/\q8.fst.opens=r6/\q8.fst.snaps=r7))/\(¬q7=(4:Int)->(q7=(3:Int)->q15/\st.snaps.length<(1048576:Nat)/\q14/\q16<=st.next/\(I64 q6.snd.code->I64 q6.snd.n->q6.fst.version=r0/\q6.fst.next=r1/\q6.fst.keep=r2/\q6.fst.quota=r3/\q6.snd.code=q13/\q6.snd.n=r4.n/\q6.fst.sess=r5/\q6.fst.opens=r6/\q6.fst.snaps=r7))/\(¬q7=(3:Int)->(q7=(2:Int)->q14/\(I64 q9.snd.code->I64 q9.snd.n->q9.fst.version=r0/\q9.fst.next=r1/\q9.fst.keep=r2/\q9.fst.quota=r3/\q9.snd.code=q13/\q9.snd.n=r4.n/\q9.fst.sess=r5/\q9.fst.opens=r6/\q9.fst.snaps=r7))/\(¬q7=(2:Int)->I64 (1:Int)->I64 q16->q17=r0/\st.next=r1/\st.keep=r2/\st.quota=r3/\(1:Int)=q13/\q11)))))))))))) (if mayF st q17=q16 then b_ c q17 else (1:Int))) (aB (bB false) c st)) (aB (bB true) c st)) (aB (de c) c st)) (aB bj c st)) (aB aP c st)) (aW st c)) c.kind) (ba st c)) (a_ st c)) (cR c st)) (q16=r4.n/\st.sess=r5/\st.opens=r6/\st.snaps=r7)) (dI c st).fst) r4.code) (st.opens.length<(1048576:Nat))) (nch st.snaps<=(1048576:Nat))) (0:Int)) st.version) (dI c st).snd):=by kernel_rfl
theorem Ll (st:State) (c:Command):Sat Tryz.prog (ai tyT) 103 [.agg (cellsOf (.nm .state) st),.agg (cellsOf (.nm .command) c)] [] ⟨[],[.agg ([.int (((cW st c).1.version)),.int (((cW st c).1.next)),.int (((cW st c).1.keep)),.int (((cW st c).1.quota)),.own 0,.own 1,.own 2]),.agg (cellsOf (.nm .reply) ((cW st c).2))],some ([.row 82 (.nm .sess) (((cW st c).1.sess)),.row 63 (.nm .opn) (((cW st c).1.opens)),.row 73 (.nm .snap) (((cW st c).1.snaps))]),true⟩:=by
 refine dO qR [] Tryz.func103 (by decide) (by kernel_rfl) ?_
 rw [KF]
 (repeat' (first | with_reducible apply bP | with_reducible refine bQ ?_ | intro))
 all_goals (first | exact cn | exact (Ka aq) | exact (NN aq) | exact (Ib aq) | exact (Nr aq) | exact (On aq) | (rw [Rn aq]; done) | (rw [OC aq]; simp only [Bk, *]; done) | (rw [OC aq]; simp [Bk, *]; done))
def DW:cd:=(bq 103 (bm (ah (kT (.nm .state)) (ah (kT (.nm .command)) aK)) aJ fun (st,c,_) (_)=>⟨[],[.agg ([.int (((cW st c).1.version)),.int (((cW st c).1.next)),.int (((cW st c).1.keep)),.int (((cW st c).1.quota)),.own 0,.own 1,.own 2]),.agg (cellsOf (.nm .reply) ((cW st c).2))],some ([.row 82 (.nm .sess) (((cW st c).1.sess)),.row 63 (.nm .opn) (((cW st c).1.opens)),.row 73 (.nm .snap) (((cW st c).1.snaps))]),true⟩) zu)
theorem rv:aN Tryz.prog (ai tyT) DW:=(av (au (ab bl (ab bl ak)) aj fun (st,c,_) (_) _=>Ll st c ) qR)
def bA (s:State) (c:Command):State × Reply:=
 if ay Sess.client c.client s.sess<0 then (s,⟨11,0⟩)
 else if c.seq=(s.sess.getD (ay Sess.client c.client s.sess).toNat (dflt (.nm .sess))).seq then (s,(s.sess.getD (ay Sess.client c.client s.sess).toNat (dflt (.nm .sess))).last)
 else if c.seq<(s.sess.getD (ay Sess.client c.client s.sess).toNat (dflt (.nm .sess))).seq then (s,⟨13,0⟩)
 else if (s.sess.getD (ay Sess.client c.client s.sess).toNat (dflt (.nm .sess))).seq+1<c.seq then (s,⟨14,0⟩)
 else ({ (cW s c).1 with sess:=(cW s c).1.sess.set (ay Sess.client c.client s.sess).toNat { (cW s c).1.sess.getD (ay Sess.client c.client s.sess).toNat (dflt (.nm .sess)) with seq:=c.seq,last:=(cW s c).2 } },(cW s c).2)
def fk (s:State) (c:Command):State × Reply:=
 if ¬ dx s c=0 then (s,⟨dx s c,0⟩)
 else if c.kind=8 then (if ¬ c.n=s.version+1 then (s,⟨1,0⟩) else ({ s with version:=c.n },⟨0,c.n⟩))
 else if c.kind=1 then (if 0<=ay Sess.client c.client s.sess then (s,⟨12,0⟩) else ({ s with sess:=s_ s.sess (s.sess.takeWhile fun y=>decide (y.client<c.client)).length ⟨c.client,0,⟨0,0⟩⟩ },⟨0,0⟩))
 else bA s c
theorem Hy {Q:State × Reply->Prop} {s:State} {c:Command} (h0:∀ e:Int,¬ e=0->Q (s,⟨e,0⟩))
  (hs:∀ f:State->Nat->State × Reply,dx s c=0->(f=de c\/(∃ b,f=bB b)\/f=bj\/f=aP)->Q (aB f c s))
  (hq:dx s c=0->Q (cR c s)) (hk:dx s c=0->Q (dI c s)) (ha:dx s c=0->Q (ba s c)) (hc:dx s c=0->Q (aW s c)) (hb:dx s c=0->Q (a_ s c)):Q (cW s c):=by
 unfold cW
 split
 ·exact h0 _ (by assumption)
 ·rename_i h
  have h:dx s c=0:=Classical.not_not.1 h
  unfold Bk
  split
  ·exact hs _ h (.inl rfl)
  split
  ·exact hs _ h (.inr (.inl ⟨_,rfl⟩))
  split
  ·exact hs _ h (.inr (.inl ⟨_,rfl⟩))
  split
  ·exact hs _ h (.inr (.inr (.inl rfl)))
  split
  ·exact hs _ h (.inr (.inr (.inr rfl)))
  split
  ·exact hq h
  split
  ·exact hk h
  split
  ·exact ha h
  split
  ·exact hc h
  split
  ·exact hb h
  ·exact h0 1 (by decide)
theorem xK {Q:State × Reply->Prop} {f:State->Nat->State × Reply} {s:State} {c:Command} (h0:∀ e:Int,¬ e=0->Q (s,⟨e,0⟩)) (h:∀ n:Nat,(n:Int)=ay Snap.id c.id s.snaps->Q (f s n)):Q (aB f c s):=by
 unfold aB
 split
 ·exact h0 15 (by decide)
 ·exact h _ aQ
theorem yz {s:State} {c:Command}:(cW s c).1.sess=s.sess:=by
 refine Hy (Q:=fun r=>r.1.sess=s.sess) (fun _ _=>rfl) (fun f _ hf=>?_) (fun _=>rfl) (fun _=>rfl) (fun _=>?_) (fun _=>?_) (fun _=>?_)
 ·refine xK (Q:=fun r=>r.1.sess=s.sess) (fun _ _=>rfl) fun n _=>?_
  rcases hf with rfl | ⟨b,rfl⟩ | rfl | rfl
  ·rfl
  ·unfold bB; split <;> rfl
  ·rfl
  ·unfold aP; split; rfl; split <;> rfl
 ·unfold ba; split <;> rfl
 ·unfold aW; split; rfl; split; rfl; split <;> rfl
 ·unfold a_; split <;> rfl
theorem rR {l:List Sess} {k:Nat} {q:Int} {R:Reply} (h:k<l.length):(l.set k (Sess.mk (l.getD k (dflt (.nm .sess))).client q (l.getD k (dflt (.nm .sess))).last)).set k (Sess.mk ((l.set k (Sess.mk (l.getD k (dflt (.nm .sess))).client q (l.getD k (dflt (.nm .sess))).last)).getD k (dflt (.nm .sess))).client ((l.set k (Sess.mk (l.getD k (dflt (.nm .sess))).client q (l.getD k (dflt (.nm .sess))).last)).getD k (dflt (.nm .sess))).seq R)=l.set k { l.getD k (dflt (.nm .sess)) with seq:=q,last:=R }:=by
 have e:∀ x:Sess,(l.set k x).getD k (dflt (.nm .sess))=x:=fun x=>by
  rw [List.getD_eq_getElem?_getD,List.getElem?_set_self h]; rfl
 rw [e,List.set_set]
section
variable {v nx kp qt:Int} {se:List Sess} {op:List Opn} {sn:List Snap} {c:Command}
theorem SB (h:ay Sess.client c.client se<0):bA (State.mk v nx kp qt se op sn) c=(State.mk v nx kp qt se op sn,⟨11,0⟩):=by
 simp only [bA,if_pos h]
theorem SV (h:0<=ay Sess.client c.client se) (e:c.seq=(se.getD (ay Sess.client c.client se).toNat (dflt (.nm .sess))).seq):bA (State.mk v nx kp qt se op sn) c=(State.mk v nx kp qt se op sn,(se.getD (ay Sess.client c.client se).toNat (dflt (.nm .sess))).last):=by
 have h1:¬ ay Sess.client c.client se<0:=by omega
 simp only [bA,if_neg h1,if_pos e]
theorem SP (h:0<=ay Sess.client c.client se) (e:¬ c.seq=(se.getD (ay Sess.client c.client se).toNat (dflt (.nm .sess))).seq) (l:c.seq<(se.getD (ay Sess.client c.client se).toNat (dflt (.nm .sess))).seq):bA (State.mk v nx kp qt se op sn) c=(State.mk v nx kp qt se op sn,⟨13,0⟩):=by
 have h1:¬ ay Sess.client c.client se<0:=by omega
 simp only [bA,if_neg h1,if_neg e,if_pos l]
theorem SZ (h:0<=ay Sess.client c.client se) (e:¬ c.seq=(se.getD (ay Sess.client c.client se).toNat (dflt (.nm .sess))).seq) (l:(se.getD (ay Sess.client c.client se).toNat (dflt (.nm .sess))).seq<=c.seq) (g:(se.getD (ay Sess.client c.client se).toNat (dflt (.nm .sess))).seq+1<c.seq):bA (State.mk v nx kp qt se op sn) c=(State.mk v nx kp qt se op sn,⟨14,0⟩):=by
 have h1:¬ ay Sess.client c.client se<0:=by omega
 have h2:¬ c.seq<(se.getD (ay Sess.client c.client se).toNat (dflt (.nm .sess))).seq:=by omega
 simp only [bA,if_neg h1,if_neg e,if_neg h2,if_pos g]
theorem SY (h:0<=ay Sess.client c.client se) (e:¬ c.seq=(se.getD (ay Sess.client c.client se).toNat (dflt (.nm .sess))).seq) (l:(se.getD (ay Sess.client c.client se).toNat (dflt (.nm .sess))).seq<=c.seq) (g:c.seq<=(se.getD (ay Sess.client c.client se).toNat (dflt (.nm .sess))).seq+1):bA (State.mk v nx kp qt se op sn) c=({ (cW (State.mk v nx kp qt se op sn) c).1 with sess:=(cW (State.mk v nx kp qt se op sn) c).1.sess.set (ay Sess.client c.client se).toNat { (cW (State.mk v nx kp qt se op sn) c).1.sess.getD (ay Sess.client c.client se).toNat (dflt (.nm .sess)) with seq:=c.seq,last:=(cW (State.mk v nx kp qt se op sn) c).2 } },(cW (State.mk v nx kp qt se op sn) c).2):=by
 have h1:¬ ay Sess.client c.client se<0:=by omega
 have h2:¬ c.seq<(se.getD (ay Sess.client c.client se).toNat (dflt (.nm .sess))).seq:=by omega
 have h3:¬ (se.getD (ay Sess.client c.client se).toNat (dflt (.nm .sess))).seq+1<c.seq:=by omega
 simp only [bA,if_neg h1,if_neg e,if_neg h2,if_neg h3]
theorem Ct (h:0<=ay Sess.client c.client se):ay Sess.client c.client se<((cW (State.mk v nx kp qt se op sn) c).1.sess.length:Int):=by rw [yz]; exact cT h
theorem sQ (h:0<=ay Sess.client c.client se):(ay Sess.client c.client se).toNat<(cW (State.mk v nx kp qt se op sn) c).1.sess.length:=by have:=Ct (v:=v) (nx:=nx) (kp:=kp) (qt:=qt) (op:=op) (sn:=sn) h; omega
theorem OQ {x:Sess} (h:0<=ay Sess.client c.client se):ay Sess.client c.client se<(((cW (State.mk v nx kp qt se op sn) c).1.sess.set (ay Sess.client c.client se).toNat x).length:Int):=by rw [List.length_set]; exact Ct h
theorem P_ (h:dx (State.mk v nx kp qt se op sn) c=0) (h0:0<=ay Sess.client c.client se):I64 ((se.getD (ay Sess.client c.client se).toNat (dflt (.nm .sess))).seq+1):=by
 have h1:=(eI (ub h)).2.2.1
 simp only [tj,Bool.and_eq_true,List.all_eq_true] at h1
 have h2:=h1.2 _ (List.mem_of_getElem? (gd (d:=dflt (.nm .sess)) (k:=(ay Sess.client c.client se).toNat) (l:=se) (by have:=cT h0; omega)))
 simp only [dj,Bool.and_eq_true] at h2
 have h3:=Aj h2.1.1
 constructor <;> omega
end
theorem Au (v:Int) (nx:Int) (kp:Int) (qt:Int) (c:Command) (se:List Sess) (op:List Opn) (sn:List Snap) (r0:Int) (r1:Int) (r2:Int) (r3:Int) (r4:Reply) (r5:List Sess) (r6:List Opn) (r7:List Snap):lS tyT DW [] Tryz.f65 [.agg ([.int (v),.int (nx),.int (kp),.int (qt),.own 0,.own 1,.own 2]),.agg (cellsOf (.nm .command) c)] [.row 82 (.nm .sess) (se),.row 63 (.nm .opn) (op),.row 73 (.nm .snap) (sn)] [.agg ([.int (r0),.int (r1),.int (r2),.int (r3),.own 0,.own 1,.own 2]),.agg (cellsOf (.nm .reply) r4)] [.row 82 (.nm .sess) (r5),.row 63 (.nm .opn) (r6),.row 73 (.nm .snap) (r7)]=((fun (q7:Prop)=>(fun (q6:Int)=>(fun (q5:Int)=>(fun (q4:Prop)=>(fun (q3:den (Sh.nm NT.sess))=>(fun (q2:State × Reply)=>(fun (q1:Int)=>(fun (q0:den (Sh.nm NT.sess))=>I64 v->I64 nx->I64 kp->I64 qt->I64 c.kind->I64 c.client->I64 q6->I64 c.set->I64 c.id->I64 c.n->c.chunks.length*(8:Nat)<=(140737488355328:Nat)->c.text.b.length<=(140737488355328:Nat)->I64 q1->(q1<q5->I64 (11:Int)->I64 q5->v=r0/\nx=r1/\kp=r2/\qt=r3/\(11:Int)=r4.code/\q4)/\(q5<=q1->q5<=q1/\q1<(↑se.length:Int)/\(I64 (se.getD q1.toNat q3).client->I64 (se.getD q1.toNat q3).seq->I64 (se.getD q1.toNat q3).last.code->I64 (se.getD q1.toNat q3).last.n->(q6=(se.getD q1.toNat q3).seq->v=r0/\nx=r1/\kp=r2/\qt=r3/\(se.getD q1.toNat q3).last.code=r4.code/\(se.getD q1.toNat q3).last.n=r4.n/\q7)/\(¬q6=(se.getD q1.toNat q3).seq->(q6<(se.getD q1.toNat q3).seq->I64 (13:Int)->I64 q5->v=r0/\nx=r1/\kp=r2/\qt=r3/\(13:Int)=r4.code/\q4)/\((se.getD q1.toNat q3).seq<=q6->I64 ((se.getD q1.toNat q3).seq+(1:Int))/\((se.getD q1.toNat q3).seq+(1:Int)<q6->I64 (14:Int)->I64 q5->v=r0/\nx=r1/\kp=r2/\qt=r3/\(14:Int)=r4.code/\q4)/\(q6<=(se.getD q1.toNat q3).seq+(1:Int)->I64 q2.fst.version->I64 q2.fst.next->I64 q2.fst.keep->I64 q2.fst.quota->I64 q2.snd.code->I64 q2.snd.n->(q5<=q1/\q1<(↑q2.fst.sess.length:Int))/\(I64 q0.client->I64 q0.seq->I64 q0.last.code->I64 q0.last.n->q5<=q1/\q1<(↑(q2.fst.sess.set q1.toNat (Sess.mk q0.client q6 q0.last)).length:Int))/\(I64 q0.client->I64 q0.seq->I64 q0.last.code->I64 q0.last.n->I64 ((q2.fst.sess.set q1.toNat (Sess.mk q0.client q6 q0.last)).getD q1.toNat q3).client->I64 ((q2.fst.sess.set q1.toNat (Sess.mk q0.client q6 q0.last)).getD q1.toNat q3).seq->I64 ((q2.fst.sess.set q1.toNat (Sess.mk q0.client q6 q0.last)).getD q1.toNat q3).last.code->I64 ((q2.fst.sess.set q1.toNat (Sess.mk q0.client q6 q0.last)).getD q1.toNat q3).last.n->q2.fst.version=r0/\q2.fst.next=r1/\q2.fst.keep=r2/\q2.fst.quota=r3/\q2.snd.code=r4.code/\q2.snd.n=r4.n/\(q2.fst.sess.set q1.toNat (Sess.mk q0.client q6 q0.last)).set q1.toNat (Sess.mk ((q2.fst.sess.set q1.toNat (Sess.mk q0.client q6 q0.last)).getD q1.toNat q3).client ((q2.fst.sess.set q1.toNat (Sess.mk q0.client q6 q0.last)).getD q1.toNat q3).seq q2.snd)=r5/\q2.fst.opens=r6/\q2.fst.snaps=r7))))))) (q2.fst.sess.getD q1.toNat q3)) (ay Sess.client c.client se)) (cW (State.mk v nx kp qt se op sn) c)) (dflt (Sh.nm NT.sess))) (q5=r4.n/\q7)) (0:Int)) c.seq) (se=r5/\op=r6/\sn=r7)):=by kernel_rfl
theorem AY (v:Int) (nx:Int) (kp:Int) (qt:Int) (c:Command) (se:List Sess) (op:List Opn) (sn:List Snap) (h0:dx (State.mk v nx kp qt se op sn) c=0):Sat Tryz.prog (ai tyT) 65 [.agg ([.int (v),.int (nx),.int (kp),.int (qt),.own 0,.own 1,.own 2]),.agg (cellsOf (.nm .command) c)] [.row 82 (.nm .sess) (se),.row 63 (.nm .opn) (op),.row 73 (.nm .snap) (sn)] ⟨[dx (State.mk v nx kp qt se op sn) c=0],[.agg ([.int (((bA (State.mk v nx kp qt se op sn) c).1.version)),.int (((bA (State.mk v nx kp qt se op sn) c).1.next)),.int (((bA (State.mk v nx kp qt se op sn) c).1.keep)),.int (((bA (State.mk v nx kp qt se op sn) c).1.quota)),.own 0,.own 1,.own 2]),.agg (cellsOf (.nm .reply) ((bA (State.mk v nx kp qt se op sn) c).2))],some ([.row 82 (.nm .sess) (((bA (State.mk v nx kp qt se op sn) c).1.sess)),.row 63 (.nm .opn) (((bA (State.mk v nx kp qt se op sn) c).1.opens)),.row 73 (.nm .snap) (((bA (State.mk v nx kp qt se op sn) c).1.snaps))]),false⟩:=by
 refine cZ rv [] Tryz.func65 (by decide) (by kernel_rfl) ?_
 rw [Au]
 (repeat' (first | with_reducible apply bP | with_reducible refine bQ ?_ | intro))
 all_goals (first | exact cn | exact cT aq | exact Ct aq | exact OQ aq | exact P_ aq aq | (rw [SB] <;> first | rfl | with_reducible assumption | exact rR (sQ aq)) | (rw [SV] <;> first | rfl | with_reducible assumption | exact rR (sQ aq)) | (rw [SP] <;> first | rfl | with_reducible assumption | exact rR (sQ aq)) | (rw [SZ] <;> first | rfl | with_reducible assumption | exact rR (sQ aq)) | (rw [SY] <;> first | rfl | with_reducible assumption | exact rR (sQ aq)))
def AW:cd:=(bq 65 (bm (ah (kG (ao cI (ao cI (ao cI (ao cI (ao (bd 0) (ao (bd 1) (ao (bd 2) bF)))))))) (ah (kT (.nm .command)) aK)) (az (bc 82 (.nm .sess)) (az (bc 63 (.nm .opn)) (az (bc 73 (.nm .snap)) aJ))) fun ((v,nx,kp,qt,_,_,_,_),c,_) (se,op,sn,_)=>⟨[dx (State.mk v nx kp qt se op sn) c=0],[.agg ([.int (((bA (State.mk v nx kp qt se op sn) c).1.version)),.int (((bA (State.mk v nx kp qt se op sn) c).1.next)),.int (((bA (State.mk v nx kp qt se op sn) c).1.keep)),.int (((bA (State.mk v nx kp qt se op sn) c).1.quota)),.own 0,.own 1,.own 2]),.agg (cellsOf (.nm .reply) ((bA (State.mk v nx kp qt se op sn) c).2))],some ([.row 82 (.nm .sess) (((bA (State.mk v nx kp qt se op sn) c).1.sess)),.row 63 (.nm .opn) (((bA (State.mk v nx kp qt se op sn) c).1.opens)),.row 73 (.nm .snap) (((bA (State.mk v nx kp qt se op sn) c).1.snaps))]),false⟩) DW)
theorem tJ:aN Tryz.prog (ai tyT) AW:=(av (au (ab (NS (ae aw (ae aw (ae aw (ae aw (ae aC (ae aC (ae aC aF)))))))) (ab bl ak)) (ag aD (ag aD (ag aD aj))) fun ((v,nx,kp,qt,_,_,_,_),c,_) (se,op,sn,_) hp=>AY v nx kp qt c se op sn (dB hp)) rv)
section
variable {s:State} {c:Command}
theorem RN (h:(if mayF s s.version=0 then b_ c s.version else 1)=0):dx s c=0:=h
theorem Qi (h:(if mayF s s.version=0 then b_ c s.version else 1)=0):I64 (s.version+1):=by
 have h1:=(eI (ub h)).2.1
 simp only [hP,Bool.and_eq_true] at h1
 have:=Aj h1.1.1.1
 constructor <;> omega
theorem Tc (h:¬ (if mayF s s.version=0 then b_ c s.version else 1)=0):fk s c=(s,⟨(if mayF s s.version=0 then b_ c s.version else 1),0⟩):=by
 have h:¬ dx s c=0:=h
 rw [fk,if_pos h]; rfl
theorem Mu (h:(if mayF s s.version=0 then b_ c s.version else 1)=0):fk s c=if c.kind=8 then (if ¬ c.n=s.version+1 then (s,⟨1,0⟩) else ({ s with version:=c.n },⟨0,c.n⟩))
 else if c.kind=1 then (if 0<=ay Sess.client c.client s.sess then (s,⟨12,0⟩) else ({ s with sess:=s_ s.sess (s.sess.takeWhile fun y=>decide (y.client<c.client)).length ⟨c.client,0,⟨0,0⟩⟩ },⟨0,0⟩))
 else bA s c:=by
 have h:¬ ¬ dx s c=0:=fun k=>k h
 rw [fk,if_neg h]
theorem Qg (h:(if mayF s s.version=0 then b_ c s.version else 1)=0) (k:c.kind=8) (n:¬ c.n=s.version+1):fk s c=(s,⟨1,0⟩):=by rw [Mu h,if_pos k,if_pos n]
theorem Ps (h:(if mayF s s.version=0 then b_ c s.version else 1)=0) (k:c.kind=8) (n:c.n=s.version+1):fk s c=({ s with version:=c.n },⟨0,c.n⟩):=by rw [Mu h,if_pos k,if_neg (fun h=>h n)]
theorem Qc (h:(if mayF s s.version=0 then b_ c s.version else 1)=0) (k:c.kind=1) (n:0<=ay Sess.client c.client s.sess):fk s c=(s,⟨12,0⟩):=by rw [Mu h,if_neg (by omega),if_pos k,if_pos n]
theorem RL (h:(if mayF s s.version=0 then b_ c s.version else 1)=0) (k:c.kind=1) (n:ay Sess.client c.client s.sess<0):fk s c=({ s with sess:=s_ s.sess (s.sess.takeWhile fun y=>decide (y.client<c.client)).length ⟨c.client,0,⟨0,0⟩⟩ },⟨0,0⟩):=by rw [Mu h,if_neg (by omega),if_pos k,if_neg (by omega)]
theorem SE (h:(if mayF s s.version=0 then b_ c s.version else 1)=0) (k:¬ c.kind=8) (n:¬ c.kind=1):fk s c=bA s c:=by rw [Mu h,if_neg k,if_neg n]
theorem kI {l:List Sess} {k:Nat} {x:Sess} (hs:k<=l.length) (ha:(l.take k).all (fun y=>decide (y.client<c.client))=true) (hb:(l.length:Int)<=k\/c.client<=(l.getD k (dflt (.nm .sess))).client):l.take k++[x]++l.drop k=s_ l (l.takeWhile fun y=>decide (y.client<c.client)).length x:=by
 have:k=(l.takeWhile fun y=>decide (y.client<c.client)).length:=by
  refine BR ha hs ?_
  by_cases hl:(l.length:Int)<=k
  ·exact .inl hl
  ·refine .inr ⟨by omega,_,gd (d:=dflt (.nm .sess)) (by omega),?_⟩
   rcases hb with hb | hb
   ·omega
   ·exact decide_eq_false aQ
 rw [<- this]; simp [s_]
theorem Oy {l:List Sess} {k:Nat} (ha:(l.take k).all (fun y=>decide (y.client<c.client))=true) (h:(k:Int)<l.length) (hb:(l.getD k (dflt (.nm .sess))).client<c.client):(l.take (k+1)).all (fun y=>decide (y.client<c.client))=true:=by
 rw [ax (gd (d:=dflt (.nm .sess)) h),List.all_append,ha]; simp only [List.all_cons,List.all_nil,decide_eq_true hb]; rfl
end
def Nw (st:State) (c:Command):List (Nat × LI):=[(15,{ σ:=Nat,F:=fun k=>([(2,one (.ptr 0 0)),(3,one (.ptr 1 0)),(4,one (.ptr 2 0)),(5,one (.ptr 3 0)),(7,one (.int k))],[.box 43 ([.int ((st.version)),.int ((st.next)),.int ((st.keep)),.int ((st.quota)),.own 4,.own 5,.own 6]),.box 24 (cellsOf (.nm .command) ((c))),.box 43 ([.int ((0)),.int ((0)),.int ((0)),.int ((0)),.em true,.em true,.em true]),.box 56 ([.int ((0)),.int ((0))]),.row 82 (.nm .sess) ((st.sess)),.row 63 (.nm .opn) ((st.opens)),.row 73 (.nm .snap) ((st.snaps))]),J:=fun k=>k<=st.sess.length/\(st.sess.take k).all (fun y=>decide (y.client<c.client))=true,μ:=fun k=>st.sess.length - k })]
theorem OO (st:State) (c:Command) (r0:Int) (r1:Int) (r2:Int) (r3:Int) (r4:Reply) (r5:List Sess) (r6:List Opn) (r7:List Snap):n_ tyT AW (Nw st c) Tryz.f34 [.agg (cellsOf (.nm .state) st),.agg (cellsOf (.nm .command) c)] [] [.agg ([.int (r0),.int (r1),.int (r2),.int (r3),.own 0,.own 1,.own 2]),.agg (cellsOf (.nm .reply) r4)] [.row 82 (.nm .sess) (r5),.row 63 (.nm .opn) (r6),.row 73 (.nm .snap) (r7)]=((fun (q12:Reply)=>(fun (q11:den (Sh.nm NT.sess))=>(fun (q10:Prop)=>(fun (q9:Prop)=>(fun (q8:Prop)=>(fun (q7:Int)=>(fun (q6:Int)=>(fun (q5:Prop)=>(fun (q4:State)=>(fun (q3:Int)=>(fun (q2:List Sess)=>(fun (q1:Int)=>(fun (q0:Prop)=>I64 q3->I64 st.next->I64 st.keep->I64 st.quota->q2.length*(32:Nat)<=(140737488355328:Nat)->st.opens.length*(16:Nat)<=(140737488355328:Nat)->st.snaps.length*(64:Nat)<=(140737488355328:Nat)->I64 c.kind->I64 q7->I64 c.seq->I64 c.set->I64 c.id->I64 c.n->c.chunks.length*(8:Nat)<=(140737488355328:Nat)->c.text.b.length<=(140737488355328:Nat)->I64 q3->I64 st.next->I64 st.keep->I64 st.quota->I64 (if mayF st q3=q1 then b_ c q3 else q6)->(¬(if mayF st q3=q1 then b_ c q3 else q6)=q1->I64 (if mayF st q3=q1 then b_ c q3 else q6)->I64 q1->q3=r0/\q10/\q9/\q8/\(if mayF st q3=q1 then b_ c q3 else q6)=r4.code/\q1=r4.n/\q2=r5/\q5)/\((if mayF st q3=q1 then b_ c q3 else q6)=q1->(c.kind=(8:Int)->I64 (q3+q6)/\(¬c.n=q3+q6->I64 q6->I64 q1->q3=r0/\q10/\q9/\q8/\q6=r4.code/\q1=r4.n/\q2=r5/\q5)/\(c.n=q3+q6->c.n=r0/\q10/\q9/\q8/\q1=r4.code/\c.n=r4.n/\q2=r5/\q5))/\(¬c.kind=(8:Int)->(c.kind=q6->I64 (ay Sess.client q7 q2)->(q1<=ay Sess.client q7 q2->I64 (12:Int)->I64 q1->q3=r0/\q10/\q9/\q8/\(12:Int)=r4.code/\q1=r4.n/\q2=r5/\q5)/\(ay Sess.client q7 q2<q1->∃ (s0:Nat),(fun (q13:Int)=>(q1=(↑s0:Int)/\q0)/\(s0<=q2.length/\((List.take s0 q2).all fun (y:Sess)=>decide (y.client<q7))=true)/\∀ (s:Nat),(fun (q15:Int)=>(fun (q14:den (Sh.nm NT.sess))=>s<=q2.length/\((List.take s q2).all fun (y:Sess)=>decide (y.client<q7))=true->(q15<q13->q1<=q15/\q15<q13)/\((q15<q13->I64 q14.client/\I64 q14.seq/\I64 q14.last.code/\I64 q14.last.n)->(q15<q13/\q14.client<q7->I64 (q15+q6)/\∃ (s':Nat),(q15+q6=(↑s':Int)/\q0)/\(s' <= q2.length/\((List.take s' q2).all fun (y:Sess)=>decide (y.client<q7))=true)/\q2.length - s' < q2.length - s)/\(q13<=q15\/q7<=q14.client->(q1<=q15/\q15<=q13)/\q2.length<(1048576:Nat)/\[Sess.mk q7 q1 (Reply.mk q1 q1)].length=(1:Nat)/\q3=r0/\q10/\q9/\q8/\q1=r4.code/\q1=r4.n/\List.take s q2++[Sess.mk q7 q1 (Reply.mk q1 q1)]++List.drop s q2=r5/\q5))) (q2.getD s q11)) (↑s:Int)) (↑q2.length:Int)))/\(¬c.kind=q6->dx st c=q1/\(I64 q4.version->I64 q4.next->I64 q4.keep->I64 q4.quota->I64 q12.code->I64 q12.n->q4.version=r0/\q4.next=r1/\q4.keep=r2/\q4.quota=r3/\q12.code=r4.code/\q12.n=r4.n/\q4.sess=r5/\q4.opens=r6/\q4.snaps=r7))))) (q3=q3/\st.next=st.next/\st.keep=st.keep/\st.quota=st.quota/\c.kind=c.kind/\q7=q7/\c.seq=c.seq/\c.set=c.set/\c.id=c.id/\c.n=c.n/\c.chunks=c.chunks/\c.text=c.text/\q1=q1/\q1=q1/\q1=q1/\q1=q1/\q1=q1/\q1=q1/\q2=q2/\st.opens=st.opens/\st.snaps=st.snaps)) (0:Int)) st.sess) st.version) (bA st c).fst) (st.opens=r6/\st.snaps=r7)) (1:Int)) c.client) (st.quota=r3)) (st.keep=r2)) (st.next=r1)) (dflt (Sh.nm NT.sess))) (bA st c).snd):=by kernel_rfl
theorem MG (st:State) (c:Command):Sat Tryz.prog (ai tyT) 34 [.agg (cellsOf (.nm .state) st),.agg (cellsOf (.nm .command) c)] [] ⟨[],[.agg ([.int (((fk st c).1.version)),.int (((fk st c).1.next)),.int (((fk st c).1.keep)),.int (((fk st c).1.quota)),.own 0,.own 1,.own 2]),.agg (cellsOf (.nm .reply) ((fk st c).2))],some ([.row 82 (.nm .sess) (((fk st c).1.sess)),.row 63 (.nm .opn) (((fk st c).1.opens)),.row 73 (.nm .snap) (((fk st c).1.snaps))]),true⟩:=by
 refine dO tJ (Nw st c) Tryz.func34 (by decide) (by kernel_rfl) ?_
 rw [OO]
 iterate 3 ((all_goals (repeat' (first | with_reducible apply bP | with_reducible refine bQ ?_ | intro))); (all_goals try (first | exact cn | exact rfl | exact RN aq | exact Qi aq | exact Ib aq | exact Oy aq aq aq | (rw [Tc] <;> first | rfl | with_reducible assumption | exact kI aQ aq (by assumption)) | (rw [Qg] <;> first | rfl | with_reducible assumption | exact kI aQ aq (by assumption)) | (rw [Ps] <;> first | rfl | with_reducible assumption | exact kI aQ aq (by assumption)) | (rw [Qc] <;> first | rfl | with_reducible assumption | exact kI aQ aq (by assumption)) | (rw [RL] <;> first | rfl | with_reducible assumption | exact kI aQ aq (by assumption)) | (rw [SE] <;> first | rfl | with_reducible assumption | exact kI aQ aq (by assumption)))); all_goals try first | refine ⟨‹Nat› + 1,?_⟩ | refine ⟨0,?_⟩)
def DG:cd:=(bq 34 (bm (ah (kT (.nm .state)) (ah (kT (.nm .command)) aK)) aJ fun (st,c,_) (_)=>⟨[],[.agg ([.int (((fk st c).1.version)),.int (((fk st c).1.next)),.int (((fk st c).1.keep)),.int (((fk st c).1.quota)),.own 0,.own 1,.own 2]),.agg (cellsOf (.nm .reply) ((fk st c).2))],some ([.row 82 (.nm .sess) (((fk st c).1.sess)),.row 63 (.nm .opn) (((fk st c).1.opens)),.row 73 (.nm .snap) (((fk st c).1.snaps))]),true⟩) AW)
theorem sD:aN Tryz.prog (ai tyT) DG:=(av (au (ab bl (ab bl ak)) aj fun (st,c,_) (_) _=>MG st c ) tJ)
theorem DE  (r0:State):cw tyT DG [] Tryz.f22 [] [] [.agg (cellsOf (.nm .state) r0)]=((1:Int)=r0.version/\(1:Int)=r0.next/\(0:Int)=r0.keep/\(0:Int)=r0.quota/\r0.sess=[]/\r0.opens=[]/\r0.snaps=[]):=by kernel_rfl
theorem Ai :Sat Tryz.prog (ai tyT) 22 [] [] ⟨[],[.agg (cellsOf (.nm .state) (⟨1,1,0,0,[],[],[]⟩))],none,false⟩:=by
 refine aM sD [] Tryz.func22 (by decide) (by kernel_rfl) ?_
 rw [DE]
 (repeat' (first | with_reducible apply bP | with_reducible refine bQ ?_ | intro))
 all_goals (first | exact cn | exact rfl)
def Iy:cd:=(bq 22 (bm aK aJ fun (_) (_)=>⟨[],[.agg (cellsOf (.nm .state) (⟨1,1,0,0,[],[],[]⟩))],none,false⟩) DG)
theorem Co:aN Tryz.prog (ai tyT) Iy:=(av (au ak aj fun (_) (_) _=>Ai  ) sD)
def Ik:cd:=Iy
theorem y_:aN Tryz.prog (ai tyT) Ik:=Co
section
variable {s:State} {c:Command}
end
section
variable {α:Type} {key:α->Int} {most:Int}
end
structure ActOk (s:State) (r:State × Reply):Prop where
 may:mayF r.1 r.1.version=0
 ver:r.1.version=s.version
 nxt:s.next<=r.1.next/\r.1.next<=s.next+1
 code:0<=r.2.code/\r.2.code<=99
 n:0<=r.2.n/\r.2.n<=1048576
section
variable {α:Type} {key:α->Int} {most:Int}
end
structure DoOk (s:State) (c:Command) (r:State × Reply):Prop where
 may:mayF r.1 r.1.version=0
 ver:r.1.version=if c.kind=8/\r.2.code=0 then s.version+1 else s.version
 nxt:s.next<=r.1.next/\r.1.next<=s.next+1
 len:s.sess.length<=r.1.sess.length
 seq:∀ x ∈ s.sess,∃ y ∈ r.1.sess,y.client=x.client/\x.seq<=y.seq/\y.seq<=x.seq+1
section
variable {s:State} {c:Command}
end
section
variable {α:Type} {key:α->Int} {most:Int}
end
section
variable {s:State} {x:Snap} {i:Nat}
end
section
variable {s:State} {x:Snap} {i:Nat}
end
section
variable {s:State} {x:Snap} {i:Nat}
end
def keepsX (s:State) (c:Command) (r:State × Reply) (i:Nat) (x:Snap):Prop:=
 (ay Snap.id x.id r.1.snaps<0/\c.kind=5/\c.id=x.id/\x.held=false/\jw s i=false/\r.2.code=0) \/
 (0<=ay Snap.id x.id r.1.snaps/\∃ y,r.1.snaps.getD (ay Snap.id x.id r.1.snaps).toNat (dflt (.nm .snap))=y/\y.chunks=x.chunks/\y.set=x.set/\(y.held=x.held\/c.kind=9\/c.kind=10)/\(y.tag=x.tag\/c.kind=11))
structure KeepOk (s:State) (c:Command) (r:State × Reply):Prop where
 x:∀ i x,s.snaps[i]? = some x->keepsX s c r i x
 more:r.1.snaps.length<=s.snaps.length\/(r.1.snaps.length=s.snaps.length+1/\c.kind=3/\r.2.code=0/\(r.1.snaps.getD s.snaps.length (dflt (.nm .snap))).id=r.2.n/\(s.quota=0\/(distF r.1.snaps:Int)<=s.quota))
section
variable {s:State} {c:Command} {k:Nat}
end
section
variable {α:Type} {key:α->Int} {most:Int}
end
section
variable {s:State} {c:Command}
end
section
variable {α:Type} {key:α->Int} {x y d:α}
variable {l:List α} {k:Nat}
end
def IL:cd:=Ik
theorem CW:aN Tryz.prog (ai tyT) IL:=y_
section
variable {st:State} {c:Command}
variable {i:Int} {x:Snap}
end
def HR:cd:=IL
theorem DC:aN Tryz.prog (ai tyT) HR:=CW
section
variable {st:State} {c:Command}
end
def Iz:cd:=HR
theorem CO:aN Tryz.prog (ai tyT) Iz:=DC
section
variable {st:State} {c:Command}
end
def HX:cd:=Iz
theorem AG:aN Tryz.prog (ai tyT) HX:=CO
section
variable {l:List Int} {k:Nat} {x:Int}
end
def Iv:cd:=HX
theorem Am:aN Tryz.prog (ai tyT) Iv:=AG
section
variable {st:State} {v:Int}
end
def HY:cd:=Iv
theorem Cu:aN Tryz.prog (ai tyT) HY:=Am
def IM:cd:=HY
theorem BP:aN Tryz.prog (ai tyT) IM:=Cu
def IA:cd:=IM
theorem zq:aN Tryz.prog (ai tyT) IA:=BP
def Iw:cd:=IA
theorem AI:aN Tryz.prog (ai tyT) Iw:=zq
def Ii:cd:=Iw
theorem zn:aN Tryz.prog (ai tyT) Ii:=AI
def oW:cd:=Ii
theorem gM:aN Tryz.prog (ai tyT) oW:=zn
def fJ (s:State) (l:List Command):State:=l.foldl (fun s c=>(fk s c).1) s
def eK (s:State):List Command->List Reply
 | []=>[]
 | c :: l=>(fk s c).2 :: eK (fk s c).1 l
section
variable {s:State} {l:List Command} {x:Command} {k:Nat}
theorem rN:∀ {l:List Command} {s:State},eK s (l++[x])=eK s l++[(fk (fJ s l) x).2]
 | [],_=>rfl
 | c :: l,s=>by
  show (fk s c).2 :: eK (fk s c).1 (l++[x])=(fk s c).2 :: (eK (fk s c).1 l++[(fk (fJ (fk s c).1 l) x).2])
  rw [rN]
theorem iW (hx:l[k]? = some x):(fk (fJ s (l.take k)) x).1=fJ s (l.take (k+1)):=by
 rw [ax hx]; unfold fJ; rw [List.foldl_append]; rfl
theorem LD (hx:l[k]? = some x):eK s (l.take k)++[(fk (fJ s (l.take k)) x).2]=eK s (l.take (k+1)):=by
 rw [ax hx,rN]
theorem vM:∀ {l:List Command} {s:State},(eK s l).length=l.length
 | [],_=>rfl
 | c :: l,s=>by
  show (eK (fk s c).1 l).length+1=l.length+1
  rw [vM]
end
section
variable {s:State} {l:List Command} {x:Command} {k:Nat} {d:Command}
theorem KL {y:Reply} (h:(k:Int)<l.length) (hl:l.length*88<=140737488355328):((eK s (l.take k)).length+[y].length)*16<=140737488355328:=by
 rw [vM,List.length_take]; simp only [List.length_cons,List.length_nil]; omega
theorem QX (h:(l.length:Int)<=k):l.take k=l:=List.take_of_length_le (by omega)
end
theorem MA {a b:List Reply} {k:Nat} (h:a.take k=b.take k) (e:(a.getD k (dflt (.nm .reply))).code=(b.getD k (dflt (.nm .reply))).code) (e2:(a.getD k (dflt (.nm .reply))).n=(b.getD k (dflt (.nm .reply))).n) (hk:(k:Int)<a.length) (hb:(k:Int)<b.length):a.take (k+1)=b.take (k+1):=sX (d:=dflt (.nm .reply)) h (by omega) (by omega) (by
 cases ha:a.getD k (dflt (.nm .reply)); cases hc:b.getD k (dflt (.nm .reply)); rw [ha,hc] at e e2; cases e; cases e2; rfl)
theorem Ol {a b:List Reply} {k:Nat} (e:¬ (a.getD k (dflt (.nm .reply))).code=(b.getD k (dflt (.nm .reply))).code\/¬ (a.getD k (dflt (.nm .reply))).n=(b.getD k (dflt (.nm .reply))).n):false=decide (a=b):=by
 symm; apply decide_eq_false; rintro rfl; simp at e
def cm:List Command:=[Command.mk 1 1 0 0 0 0 [] (Str.mk []),Command.mk 2 1 1 2 0 0 [] (Str.mk []),Command.mk 2 1 1 2 0 0 [] (Str.mk [])]
def vJ (st:State):List (Nat × LI):=[(7,{ σ:=Nat,F:=fun k=>([(1,one (.ptr 0 0)),(2,one (.ptr 1 0)),(3,one (.own 2)),(4,one (.int k))],[.box 43 ([.int ((st.version)),.int ((st.next)),.int ((st.keep)),.int ((st.quota)),.fz (.nm .sess) ((st.sess.take 20)),.fz (.nm .opn) ((st.opens.take 20)),.fz (.nm .snap) ((st.snaps))]),.box 43 ([.int ((0)),.int ((0)),.int ((0)),.int ((0)),.em true,.em true,.em true]),.row 73 (.nm .snap) (((dR st).snaps.take k))]),J:=fun k=>k<=(dR st).snaps.length,μ:=fun k=>st.snaps.length - k })]
def IJ (st:State) (l:List Command):List (Nat × LI):=[(4,{ σ:=Nat,F:=fun k=>([(2,one (.ptr 0 0)),(4,one (.ptr 1 0)),(6,one (.own 5)),(12,one (.fz (.nm .command) (l))),(13,one (.int (l).length)),(14,one (.int k))],[.box 43 ([.int ((((fJ st (l.take k))).version)),.int ((((fJ st (l.take k))).next)),.int ((((fJ st (l.take k))).keep)),.int ((((fJ st (l.take k))).quota)),.own 2,.own 3,.own 4]),.box 43 ([.int ((0)),.int ((0)),.int ((0)),.int ((0)),.em true,.em true,.em true]),.row 82 (.nm .sess) (((fJ st (l.take k)).sess)),.row 63 (.nm .opn) (((fJ st (l.take k)).opens)),.row 73 (.nm .snap) (((fJ st (l.take k)).snaps)),.row 56 (.nm .reply) ((eK st (l.take k)))]),J:=fun k=>k<=l.length,μ:=fun k=>l.length - k })]
def vO (a:List Reply) (b:List Reply):List (Nat × LI):=[(4,{ σ:=Nat,F:=fun k=>([(0,one (.fz (.nm .reply) (a))),(1,one (.fz (.nm .reply) (b))),(5,one (.int k))],[]),J:=fun k=>k<=a.length/\a.length=b.length/\a.take k=b.take k,μ:=fun k=>a.length - k })]
theorem Av (st:State) (r0:State):cw tyT oW (vJ st) Tryz.f14 [.agg (cellsOf (.nm .state) st)] [] [.agg (cellsOf (.nm .state) r0)]=((fun (q23:Nat)=>(fun (q22:Prop)=>(fun (q21:Prop)=>(fun (q20:Prop)=>(fun (q19:Prop)=>(fun (q18:Int)=>(fun (q17:Nat)=>(fun (q16:Nat)=>(fun (q15:Int)=>(fun (q14:Nat)=>(fun (q13:Int)=>(fun (q12:Int)=>(fun (q11:Nat)=>(fun (q10:Int)=>(fun (q9:Int)=>(fun (q8:Prop)=>(fun (q7:Prop)=>(fun (q6:Prop)=>(fun (q5:Prop)=>(fun (q4:List Snap)=>(fun (q3:List (den (Sh.nm NT.sess)))=>(fun (q2:List (den (Sh.nm NT.opn)))=>(fun (q1:List Snap)=>(fun (q0:Prop)=>I64 st.version->I64 st.next->I64 st.keep->I64 st.quota->q23*(32:Nat)<=q11->st.opens.length*(16:Nat)<=q11->q4.length*q14<=q11->(q13<(↑q23:Int)->q12<=q13/\q13<=(↑q23:Int)/\(q13<q18->q12<=q13/\q13<=q18/\∃ (s0:Nat),(fun (q25:Nat)=>(fun (q24:Nat)=>(q12=(↑s0:Int)/\q5/\q8/\q7/\q6/\q3=q3/\q2=q2/\q4=q4/\q0/\q0/\q0/\q0/\List.take s0 q1=[])/\s0<=q25/\∀ (s:Nat),(fun (q27:List (den (Sh.nm NT.snap)))=>(fun (q26:Int)=>s<=q25->((↑s:Int)<(↑q4.length:Int)/\(↑s:Int)<q13->q12<=(↑s:Int)/\(↑s:Int)<(↑q4.length:Int)/\∀ (x:Snap),(fun (q32:Nat)=>(fun (q31:Snap)=>(fun (q30:Snap)=>(fun (q29:Snap)=>(fun (q28:Int)=>q4[s]? = some x->I64 x.id->I64 x.set->q32*(8:Nat)<=q11->x.tag.b.length<=q11->(q15<(↑q32:Int)->q12<=q15/\q15<=(↑q32:Int)/\(q10<q28->q12<=q10/\q10<=q28/\(q27.length+[q29].length)*q14<=q11/\I64 q26/\∃ (s':Nat),(q26=(↑s':Int)/\q5/\q8/\q7/\q6/\q3=q3/\q2=q2/\q4=q4/\q0/\q0/\q0/\q0/\q27++[q29]=List.take s' q1)/\s' <= q25/\q24 - s' < q24 - s)/\(q28<=q10->(q27.length+[q31].length)*q14<=q11/\I64 q26/\∃ (s':Nat),(q26=(↑s':Int)/\q5/\q8/\q7/\q6/\q3=q3/\q2=q2/\q4=q4/\q0/\q0/\q0/\q0/\q27++[q31]=List.take s' q1)/\s' <= q25/\q24 - s' < q24 - s))/\((↑q32:Int)<=q15->(q10<q28->q12<=q10/\q10<=q28/\(q27.length+[q30].length)*q14<=q11/\I64 q26/\∃ (s':Nat),(q26=(↑s':Int)/\q5/\q8/\q7/\q6/\q3=q3/\q2=q2/\q4=q4/\q0/\q0/\q0/\q0/\q27++[q30]=List.take s' q1)/\s' <= q25/\q24 - s' < q24 - s)/\(q28<=q10->(q27.length+[x].length)*q14<=q11/\I64 q26/\∃ (s':Nat),(q26=(↑s':Int)/\q5/\q8/\q7/\q6/\q3=q3/\q2=q2/\q4=q4/\q0/\q0/\q0/\q0/\q27++[x]=List.take s' q1)/\s' <= q25/\q24 - s' < q24 - s))) (↑x.tag.b.length:Int)) (Snap.mk x.id x.set (List.take q16 x.chunks) x.held (Str.mk (List.take q17 x.tag.b)))) (Snap.mk x.id x.set x.chunks x.held (Str.mk (List.take q17 x.tag.b)))) (Snap.mk x.id x.set (List.take q16 x.chunks) x.held x.tag)) x.chunks.length)/\((↑q4.length:Int)<=(↑s:Int)\/q13<=(↑s:Int)->q19/\q22/\q21/\q20/\q3=r0.sess/\q2=r0.opens/\q27=r0.snaps)) ((↑s:Int)+q9)) (List.take s q1)) q4.length) q1.length)/\(q18<=q13->∃ (s0:Nat),(fun (q34:Nat)=>(fun (q33:Nat)=>(q12=(↑s0:Int)/\q5/\q8/\q7/\q6/\q3=q3/\st.opens=q2/\q4=q4/\q0/\q0/\q0/\q0/\List.take s0 q1=[])/\s0<=q34/\∀ (s:Nat),(fun (q36:List (den (Sh.nm NT.snap)))=>(fun (q35:Int)=>s<=q34->((↑s:Int)<(↑q4.length:Int)/\(↑s:Int)<q13->q12<=(↑s:Int)/\(↑s:Int)<(↑q4.length:Int)/\∀ (x:Snap),(fun (q41:Nat)=>(fun (q40:Snap)=>(fun (q39:Snap)=>(fun (q38:Snap)=>(fun (q37:Int)=>q4[s]? = some x->I64 x.id->I64 x.set->q41*(8:Nat)<=q11->x.tag.b.length<=q11->(q15<(↑q41:Int)->q12<=q15/\q15<=(↑q41:Int)/\(q10<q37->q12<=q10/\q10<=q37/\(q36.length+[q38].length)*q14<=q11/\I64 q35/\∃ (s':Nat),(q35=(↑s':Int)/\q5/\q8/\q7/\q6/\q3=q3/\q2=q2/\q4=q4/\q0/\q0/\q0/\q0/\q36++[q38]=List.take s' q1)/\s' <= q34/\q33 - s' < q33 - s)/\(q37<=q10->(q36.length+[q40].length)*q14<=q11/\I64 q35/\∃ (s':Nat),(q35=(↑s':Int)/\q5/\q8/\q7/\q6/\q3=q3/\q2=q2/\q4=q4/\q0/\q0/\q0/\q0/\q36++[q40]=List.take s' q1)/\s' <= q34/\q33 - s' < q33 - s))/\((↑q41:Int)<=q15->(q10<q37->q12<=q10/\q10<=q37/\(q36.length+[q39].length)*q14<=q11/\I64 q35/\∃ (s':Nat),(q35=(↑s':Int)/\q5/\q8/\q7/\q6/\q3=q3/\q2=q2/\q4=q4/\q0/\q0/\q0/\q0/\q36++[q39]=List.take s' q1)/\s' <= q34/\q33 - s' < q33 - s)/\(q37<=q10->(q36.length+[x].length)*q14<=q11/\I64 q35/\∃ (s':Nat),(q35=(↑s':Int)/\q5/\q8/\q7/\q6/\q3=q3/\q2=q2/\q4=q4/\q0/\q0/\q0/\q0/\q36++[x]=List.take s' q1)/\s' <= q34/\q33 - s' < q33 - s))) (↑x.tag.b.length:Int)) (Snap.mk x.id x.set (List.take q16 x.chunks) x.held (Str.mk (List.take q17 x.tag.b)))) (Snap.mk x.id x.set x.chunks x.held (Str.mk (List.take q17 x.tag.b)))) (Snap.mk x.id x.set (List.take q16 x.chunks) x.held x.tag)) x.chunks.length)/\((↑q4.length:Int)<=(↑s:Int)\/q13<=(↑s:Int)->q19/\q22/\q21/\q20/\q3=r0.sess/\q2=r0.opens/\q36=r0.snaps)) ((↑s:Int)+q9)) (List.take s q1)) q4.length) q1.length))/\((↑q23:Int)<=q13->(q13<q18->q12<=q13/\q13<=q18/\∃ (s0:Nat),(fun (q43:Nat)=>(fun (q42:Nat)=>(q12=(↑s0:Int)/\q5/\q8/\q7/\q6/\st.sess=q3/\q2=q2/\q4=q4/\q0/\q0/\q0/\q0/\List.take s0 q1=[])/\s0<=q43/\∀ (s:Nat),(fun (q45:List (den (Sh.nm NT.snap)))=>(fun (q44:Int)=>s<=q43->((↑s:Int)<(↑q4.length:Int)/\(↑s:Int)<q13->q12<=(↑s:Int)/\(↑s:Int)<(↑q4.length:Int)/\∀ (x:Snap),(fun (q50:Nat)=>(fun (q49:Snap)=>(fun (q48:Snap)=>(fun (q47:Snap)=>(fun (q46:Int)=>q4[s]? = some x->I64 x.id->I64 x.set->q50*(8:Nat)<=q11->x.tag.b.length<=q11->(q15<(↑q50:Int)->q12<=q15/\q15<=(↑q50:Int)/\(q10<q46->q12<=q10/\q10<=q46/\(q45.length+[q47].length)*q14<=q11/\I64 q44/\∃ (s':Nat),(q44=(↑s':Int)/\q5/\q8/\q7/\q6/\q3=q3/\q2=q2/\q4=q4/\q0/\q0/\q0/\q0/\q45++[q47]=List.take s' q1)/\s' <= q43/\q42 - s' < q42 - s)/\(q46<=q10->(q45.length+[q49].length)*q14<=q11/\I64 q44/\∃ (s':Nat),(q44=(↑s':Int)/\q5/\q8/\q7/\q6/\q3=q3/\q2=q2/\q4=q4/\q0/\q0/\q0/\q0/\q45++[q49]=List.take s' q1)/\s' <= q43/\q42 - s' < q42 - s))/\((↑q50:Int)<=q15->(q10<q46->q12<=q10/\q10<=q46/\(q45.length+[q48].length)*q14<=q11/\I64 q44/\∃ (s':Nat),(q44=(↑s':Int)/\q5/\q8/\q7/\q6/\q3=q3/\q2=q2/\q4=q4/\q0/\q0/\q0/\q0/\q45++[q48]=List.take s' q1)/\s' <= q43/\q42 - s' < q42 - s)/\(q46<=q10->(q45.length+[x].length)*q14<=q11/\I64 q44/\∃ (s':Nat),(q44=(↑s':Int)/\q5/\q8/\q7/\q6/\q3=q3/\q2=q2/\q4=q4/\q0/\q0/\q0/\q0/\q45++[x]=List.take s' q1)/\s' <= q43/\q42 - s' < q42 - s))) (↑x.tag.b.length:Int)) (Snap.mk x.id x.set (List.take q16 x.chunks) x.held (Str.mk (List.take q17 x.tag.b)))) (Snap.mk x.id x.set x.chunks x.held (Str.mk (List.take q17 x.tag.b)))) (Snap.mk x.id x.set (List.take q16 x.chunks) x.held x.tag)) x.chunks.length)/\((↑q4.length:Int)<=(↑s:Int)\/q13<=(↑s:Int)->q19/\q22/\q21/\q20/\q3=r0.sess/\q2=r0.opens/\q45=r0.snaps)) ((↑s:Int)+q9)) (List.take s q1)) q4.length) q1.length)/\(q18<=q13->∃ (s0:Nat),(fun (q52:Nat)=>(fun (q51:Nat)=>(q12=(↑s0:Int)/\q5/\q8/\q7/\q6/\st.sess=q3/\st.opens=q2/\q4=q4/\q0/\q0/\q0/\q0/\List.take s0 q1=[])/\s0<=q52/\∀ (s:Nat),(fun (q54:List (den (Sh.nm NT.snap)))=>(fun (q53:Int)=>s<=q52->((↑s:Int)<(↑q4.length:Int)/\(↑s:Int)<q13->q12<=(↑s:Int)/\(↑s:Int)<(↑q4.length:Int)/\∀ (x:Snap),(fun (q59:Nat)=>(fun (q58:Snap)=>(fun (q57:Snap)=>(fun (q56:Snap)=>(fun (q55:Int)=>q4[s]? = some x->I64 x.id->I64 x.set->q59*(8:Nat)<=q11->x.tag.b.length<=q11->(q15<(↑q59:Int)->q12<=q15/\q15<=(↑q59:Int)/\(q10<q55->q12<=q10/\q10<=q55/\(q54.length+[q56].length)*q14<=q11/\I64 q53/\∃ (s':Nat),(q53=(↑s':Int)/\q5/\q8/\q7/\q6/\q3=q3/\q2=q2/\q4=q4/\q0/\q0/\q0/\q0/\q54++[q56]=List.take s' q1)/\s' <= q52/\q51 - s' < q51 - s)/\(q55<=q10->(q54.length+[q58].length)*q14<=q11/\I64 q53/\∃ (s':Nat),(q53=(↑s':Int)/\q5/\q8/\q7/\q6/\q3=q3/\q2=q2/\q4=q4/\q0/\q0/\q0/\q0/\q54++[q58]=List.take s' q1)/\s' <= q52/\q51 - s' < q51 - s))/\((↑q59:Int)<=q15->(q10<q55->q12<=q10/\q10<=q55/\(q54.length+[q57].length)*q14<=q11/\I64 q53/\∃ (s':Nat),(q53=(↑s':Int)/\q5/\q8/\q7/\q6/\q3=q3/\q2=q2/\q4=q4/\q0/\q0/\q0/\q0/\q54++[q57]=List.take s' q1)/\s' <= q52/\q51 - s' < q51 - s)/\(q55<=q10->(q54.length+[x].length)*q14<=q11/\I64 q53/\∃ (s':Nat),(q53=(↑s':Int)/\q5/\q8/\q7/\q6/\q3=q3/\q2=q2/\q4=q4/\q0/\q0/\q0/\q0/\q54++[x]=List.take s' q1)/\s' <= q52/\q51 - s' < q51 - s))) (↑x.tag.b.length:Int)) (Snap.mk x.id x.set (List.take q16 x.chunks) x.held (Str.mk (List.take q17 x.tag.b)))) (Snap.mk x.id x.set x.chunks x.held (Str.mk (List.take q17 x.tag.b)))) (Snap.mk x.id x.set (List.take q16 x.chunks) x.held x.tag)) x.chunks.length)/\((↑q4.length:Int)<=(↑s:Int)\/q13<=(↑s:Int)->q19/\q22/\q21/\q20/\q3=r0.sess/\q2=r0.opens/\q54=r0.snaps)) ((↑s:Int)+q9)) (List.take s q1)) q4.length) q1.length))) (q12=q12)) (dR st).snaps) (List.take (20:Nat) st.opens)) (List.take (20:Nat) st.sess)) st.snaps) (st.version=st.version)) (st.quota=st.quota)) (st.keep=st.keep)) (st.next=st.next)) (1:Int)) (40:Int)) (140737488355328:Nat)) (0:Int)) (20:Int)) (64:Nat)) (12:Int)) (12:Nat)) (40:Nat)) (↑st.opens.length:Int)) (st.version=r0.version)) (st.quota=r0.quota)) (st.keep=r0.keep)) (st.next=r0.next)) st.sess.length):=by kernel_rfl
theorem CC (st:State):Sat Tryz.prog (ai tyT) 14 [.agg (cellsOf (.nm .state) st)] [] ⟨[],[.agg (cellsOf (.nm .state) (dR st))],none,false⟩:=by
 refine aM gM (vJ st) Tryz.func14 (by decide) (by kernel_rfl) ?_
 rw [Av]
 iterate 3 ((all_goals (repeat' (first | with_reducible apply bP | with_reducible refine bQ ?_ | intro))); (all_goals try (first | exact cn | exact rfl | exact (List.take_of_length_le aQ).symm | exact (Qu aq aQ aQ aQ) | exact (Ri aq aQ aQ aQ) | exact (Qm aq aQ aQ aQ) | exact (RB aq aQ aQ aQ) | exact (Jl aQ) | exact (OH aQ aQ) | exact (List.take_of_length_le (Ow aQ)))); all_goals try first | refine ⟨‹Nat› + 1,?_⟩ | refine ⟨0,?_⟩)
theorem Eo  (r0:List Command):cw tyT oW [] Tryz.f23 [] [] [.c (.fz (.nm .command) (r0))]=((fun (q1:Int)=>(fun (q0:Command)=>[Command.mk (1:Int) (1:Int) q1 q1 q1 q1 [] (Str.mk []),q0,q0]=r0) (Command.mk (2:Int) (1:Int) (1:Int) (2:Int) q1 q1 [] (Str.mk []))) (0:Int)):=by kernel_rfl
theorem FY :Sat Tryz.prog (ai tyT) 23 [] [] ⟨[],[.c (.fz (.nm .command) ((cm)))],none,false⟩:=by
 refine aM gM [] Tryz.func23 (by decide) (by kernel_rfl) ?_
 rw [Eo]
 (repeat' (first | with_reducible apply bP | with_reducible refine bQ ?_ | intro))
 all_goals (first | exact cn | rfl)
theorem LN (st:State) (l:List Command) (r0:Int) (r1:Int) (r2:Int) (r3:Int) (r4:List Sess) (r5:List Opn) (r6:List Snap) (r7:List Reply):n_ tyT oW (IJ st l) Tryz.f21 [.agg (cellsOf (.nm .state) st),.c (.fz (.nm .command) (l))] [] [.agg ([.int (r0),.int (r1),.int (r2),.int (r3),.own 0,.own 1,.own 2]),.c (.own 3)] [.row 82 (.nm .sess) (r4),.row 63 (.nm .opn) (r5),.row 73 (.nm .snap) (r6),.row 56 (.nm .reply) (r7)]=((fun (q2:Nat)=>(fun (q1:Nat)=>(fun (q0:Prop)=>I64 st.version->I64 st.next->I64 st.keep->I64 st.quota->st.sess.length*(32:Nat)<=q2->st.opens.length*(16:Nat)<=q2->st.snaps.length*(64:Nat)<=q2->l.length*(88:Nat)<=q2->I64 st.version->I64 st.next->I64 st.keep->I64 st.quota->∃ (s0:Nat),(fun (q3:State)=>(l=l/\(↑l.length:Int)=(↑q1:Int)/\(0:Int)=(↑s0:Int)/\st.version=q3.version/\st.next=q3.next/\st.keep=q3.keep/\st.quota=q3.quota/\q0/\q0/\q0/\q0/\st.sess=q3.sess/\st.opens=q3.opens/\st.snaps=q3.snaps/\eK st (List.take s0 l)=[])/\s0<=q1/\∀ (s:Nat),(fun (q4:State)=>s<=q1->((↑s:Int)<(↑q1:Int)->(0:Int)<=(↑s:Int)/\(↑s:Int)<(↑l.length:Int)/\∀ (x:Command),(fun (q6:Reply)=>(fun (q5:State)=>l[s]? = some x->I64 x.kind->I64 x.client->I64 x.seq->I64 x.set->I64 x.id->I64 x.n->x.chunks.length*(8:Nat)<=q2->x.text.b.length<=q2->I64 q5.version->I64 q5.next->I64 q5.keep->I64 q5.quota->I64 q6.code->I64 q6.n->((eK st (List.take s l)).length+[q6].length)*(16:Nat)<=q2/\I64 ((↑s:Int)+(1:Int))/\∃ (s':Nat),(fun (q7:State)=>(l=l/\(↑q1:Int)=(↑q1:Int)/\(↑s:Int)+(1:Int)=(↑s':Int)/\q5.version=q7.version/\q5.next=q7.next/\q5.keep=q7.keep/\q5.quota=q7.quota/\q0/\q0/\q0/\q0/\q5.sess=q7.sess/\q5.opens=q7.opens/\q5.snaps=q7.snaps/\eK st (List.take s l)++[q6]=eK st (List.take s' l))/\s' <= q1/\q1 - s' < q1 - s) (fJ st (List.take s' l))) (fk q4 x).fst) (fk q4 x).snd)/\((↑q1:Int)<=(↑s:Int)->q4.version=r0/\q4.next=r1/\q4.keep=r2/\q4.quota=r3/\q4.sess=r4/\q4.opens=r5/\q4.snaps=r6/\eK st (List.take s l)=r7)) (fJ st (List.take s l))) (fJ st (List.take s0 l))) ((0:Int)=(0:Int))) l.length) (140737488355328:Nat)):=by kernel_rfl
theorem LS (st:State) (l:List Command):Sat Tryz.prog (ai tyT) 21 [.agg (cellsOf (.nm .state) st),.c (.fz (.nm .command) (l))] [] ⟨[],[.agg ([.int (((fJ st l).version)),.int (((fJ st l).next)),.int (((fJ st l).keep)),.int (((fJ st l).quota)),.own 0,.own 1,.own 2]),.c (.own 3)],some ([.row 82 (.nm .sess) (((fJ st l).sess)),.row 63 (.nm .opn) (((fJ st l).opens)),.row 73 (.nm .snap) (((fJ st l).snaps)),.row 56 (.nm .reply) ((eK st l))]),true⟩:=by
 refine dO gM (IJ st l) Tryz.func21 (by decide) (by kernel_rfl) ?_
 rw [LN]
 iterate 3 ((all_goals (repeat' (first | with_reducible apply bP | with_reducible refine bQ ?_ | intro))); (all_goals try (first | exact cn | exact rfl | exact (congrArg State.version (iW aq)) | exact (congrArg State.next (iW aq)) | exact (congrArg State.keep (iW aq)) | exact (congrArg State.quota (iW aq)) | exact (congrArg State.sess (iW aq)) | exact (congrArg State.opens (iW aq)) | exact (congrArg State.snaps (iW aq)) | exact (LD aq) | exact (KL aq aq) | (rw [QX aQ]; done))); all_goals try first | refine ⟨‹Nat› + 1,?_⟩ | refine ⟨0,?_⟩)
theorem Bz (a:List Reply) (b:List Reply) (r0:Bool):cw tyT oW (vO a b) Tryz.f19 [.c (.fz (.nm .reply) (a)),.c (.fz (.nm .reply) (b))] [] [.c (.bool (.atom (r0)))]=((fun (q2:Nat)=>(fun (q1:Int)=>(fun (q0:den (Sh.nm NT.reply))=>a.length*(16:Nat)<=(140737488355328:Nat)->b.length*(16:Nat)<=(140737488355328:Nat)->(¬q1=(↑b.length:Int)->false=r0)/\(q1=(↑b.length:Int)->∃ (s0:Nat),(a=a/\b=b/\(0:Int)=(↑s0:Int))/\(s0<=q2/\q2=b.length/\List.take s0 a=List.take s0 b)/\∀ (s:Nat),(fun (q4:den (Sh.nm NT.reply))=>(fun (q3:den (Sh.nm NT.reply))=>s<=q2/\q2=b.length/\List.take s a=List.take s b->((↑s:Int)<q1->(0:Int)<=(↑s:Int)/\(↑s:Int)<q1/\(0:Int)<=(↑s:Int)/\(↑s:Int)<(↑b.length:Int)/\(I64 q3.code->I64 q3.n->I64 q4.code->I64 q4.n->(¬q3.code=q4.code\/¬q3.n=q4.n->false=r0)/\(q3.code=q4.code/\q3.n=q4.n->I64 ((↑s:Int)+(1:Int))/\∃ (s':Nat),(a=a/\b=b/\(↑s:Int)+(1:Int)=(↑s':Int))/\(s' <= q2/\q2=b.length/\List.take s' a=List.take s' b)/\q2 - s' < q2 - s)))/\(q1<=(↑s:Int)->true=r0)) (a.getD s q0)) (b.getD s q0))) (dflt (Sh.nm NT.reply))) (↑a.length:Int)) a.length):=by kernel_rfl
theorem DT (a:List Reply) (b:List Reply):Sat Tryz.prog (ai tyT) 19 [.c (.fz (.nm .reply) (a)),.c (.fz (.nm .reply) (b))] [] ⟨[],[.c (.bool (.atom ((decide (a=b)))))],none,false⟩:=by
 refine aM gM (vO a b) Tryz.func19 (by decide) (by kernel_rfl) ?_
 rw [Bz]
 iterate 3 ((all_goals (repeat' (first | with_reducible apply bP | with_reducible refine bQ ?_ | intro))); (all_goals try (first | exact cn | exact rfl | exact (Ee aq) | exact (MA aq aq aq aQ aQ) | exact (Ol (by assumption)) | exact (sm aQ aq aQ))); all_goals try first | refine ⟨‹Nat› + 1,?_⟩ | refine ⟨0,?_⟩)
def Dj:cd:=(bq 19 (bm (ah (kC (cL (.nm .reply))) (ah (kC (cL (.nm .reply))) aK)) aJ fun (a,b,_) (_)=>⟨[],[.c (.bool (.atom ((decide (a=b)))))],none,false⟩) (bq 21 (bm (ah (kT (.nm .state)) (ah (kC (cL (.nm .command))) aK)) aJ fun (st,l,_) (_)=>⟨[],[.agg ([.int (((fJ st l).version)),.int (((fJ st l).next)),.int (((fJ st l).keep)),.int (((fJ st l).quota)),.own 0,.own 1,.own 2]),.c (.own 3)],some ([.row 82 (.nm .sess) (((fJ st l).sess)),.row 63 (.nm .opn) (((fJ st l).opens)),.row 73 (.nm .snap) (((fJ st l).snaps)),.row 56 (.nm .reply) ((eK st l))]),true⟩) (bq 23 (bm aK aJ fun (_) (_)=>⟨[],[.c (.fz (.nm .command) ((cm)))],none,false⟩) (bq 14 (bm (ah (kT (.nm .state)) aK) aJ fun (st,_) (_)=>⟨[],[.agg (cellsOf (.nm .state) (dR st))],none,false⟩) oW))))
theorem su:aN Tryz.prog (ai tyT) Dj:=(av (au (ab (al bb) (ab (al bb) ak)) aj fun (a,b,_) (_) _=>DT a b ) (av (au (ab bl (ab (al bb) ak)) aj fun (st,l,_) (_) _=>LS st l ) (av (au ak aj fun (_) (_) _=>FY  ) (av (au (ab bl ak) aj fun (st,_) (_) _=>CC st ) gM))))
theorem Rx:fJ (State.mk 1 1 0 0 [] [] []) cm=State.mk 1 1 0 0 [Sess.mk 1 1 (Reply.mk 0 0)] [Opn.mk 2 1] []:=by kernel_rfl
theorem RA:eK (State.mk 1 1 0 0 [] [] []) cm=[Reply.mk 0 0,Reply.mk 0 0,Reply.mk 0 0]:=by kernel_rfl
theorem xO  (r0:Bool):cw tyT Dj [] Tryz.f7 [] [] [.c (.bool (.atom (r0)))]=((fun (q6:Int)=>(fun (q5:Int)=>(fun (q4:Nat)=>(fun (q3:Nat)=>(fun (q2:Int)=>(fun (q1:den (Sh.nm NT.reply))=>(fun (q0:State)=>I64 q5->I64 q5->I64 q2->I64 q2->(0:Nat)*(32:Nat)<=(140737488355328:Nat)->(0:Nat)*(16:Nat)<=(140737488355328:Nat)->(0:Nat)*(64:Nat)<=(140737488355328:Nat)->cm.length*(88:Nat)<=(140737488355328:Nat)->I64 (fJ q0 cm).version->I64 (fJ q0 cm).next->I64 (fJ q0 cm).keep->I64 (fJ q0 cm).quota->((↑(eK q0 cm).length:Int)=q6->q2<=q2/\q2<(↑(eK q0 cm).length:Int))/\(((↑(eK q0 cm).length:Int)=q6->I64 ((eK q0 cm).getD q3 q1).code/\I64 ((eK q0 cm).getD q3 q1).n)->((↑(eK q0 cm).length:Int)=q6/\((eK q0 cm).getD q3 q1).code=q2/\((eK q0 cm).getD q3 q1).n=q2->q2<=(2:Int)/\(2:Int)<(↑(eK q0 cm).length:Int))/\(((↑(eK q0 cm).length:Int)=q6/\((eK q0 cm).getD q3 q1).code=q2/\((eK q0 cm).getD q3 q1).n=q2->I64 ((eK q0 cm).getD q4 q1).code/\I64 ((eK q0 cm).getD q4 q1).n)->((((↑(eK q0 cm).length:Int)=q6/\((eK q0 cm).getD q3 q1).code=q2/\((eK q0 cm).getD q3 q1).n=q2)/\((eK q0 cm).getD q4 q1).code=q2/\((eK q0 cm).getD q4 q1).n=q2)/\(↑(fJ q0 cm).opens.length:Int)=q5->q2<=q2/\q2<(↑(fJ q0 cm).opens.length:Int))/\(((((↑(eK q0 cm).length:Int)=q6/\((eK q0 cm).getD q3 q1).code=q2/\((eK q0 cm).getD q3 q1).n=q2)/\((eK q0 cm).getD q4 q1).code=q2/\((eK q0 cm).getD q4 q1).n=q2)/\(↑(fJ q0 cm).opens.length:Int)=q5->I64 ((fJ q0 cm).opens.getD q3 (dflt (Sh.nm NT.opn))).set/\I64 ((fJ q0 cm).opens.getD q3 (dflt (Sh.nm NT.opn))).client)->(decide ((↑(eK q0 cm).length:Int)=q6) && (decide (((eK q0 cm).getD q3 q1).code=q2) && decide (((eK q0 cm).getD q3 q1).n=q2)) && (decide (((eK q0 cm).getD q4 q1).code=q2) && decide (((eK q0 cm).getD q4 q1).n=q2)) && decide ((↑(fJ q0 cm).opens.length:Int)=q5) && decide (((fJ q0 cm).opens.getD q3 (dflt (Sh.nm NT.opn))).set=(2:Int)))=r0)))) (State.mk q5 q5 q2 q2 [] [] [])) (dflt (Sh.nm NT.reply))) (0:Int)) (0:Nat)) (2:Nat)) (1:Int)) (3:Int)):=by kernel_rfl
theorem xY :Sat Tryz.prog (ai tyT) 7 [] [] ⟨[],[.c (.bool (.atom ((true))))],none,false⟩:=by
 refine aM su [] Tryz.func7 (by decide) (by kernel_rfl) ?_
 rw [xO]
 simp only [Rx,RA]
 (repeat' (first | with_reducible apply bP | with_reducible refine bQ ?_ | intro))
 all_goals first | exact cn | decide | rfl
def fx:cd:=(bq 7 (bm aK aJ fun (_) (_)=>⟨[],[.c (.bool (.atom ((true))))],none,false⟩) Dj)
theorem cH:aN Tryz.prog (ai tyT) fx:=(av (au ak aj fun (_) (_) _=>xY  ) su)
def dU (f:Field):Bool:=(decide (1<=f.num) && decide (f.num<=1000)) && (if f.wire=0 then decide (((f.b.length:Nat):Int)=0) else if f.wire=2 then decide ((f.n.n:Int)=0) else false)
def ey (a f:Field):Bool:=if f.num=a.num then (decide (f.wire=2) && decide (a.wire=2)) else decide (a.num<f.num)
def lz (num wire:Int):Bool:=(decide (1<=num) && decide (num<=1000)) && (decide (wire=0) || decide (wire=2))
def kR (num wire:Int):List UInt8:=if lz num wire then fj ((8*num)+wire).toNat else []
def tX (num wire:Int):Int:=if lz num wire then 0 else 1
def bY (f:Field):List UInt8:=if f.wire=0 then kR f.num f.wire++fj f.n.n else (kR f.num f.wire++fj f.b.length)++f.b
def Si:Option Field->Field->Bool
 | none,_=>true
 | some q,f=>ey q f
def stepT (p:Option Field) (f:Field):Int:=if dU f=false then 1 else if Si p f=false then 5 else if (16384:Int)<((f.b.length:Nat):Int) then 4 else 0
def db:Option Field->List Field->Int
 | _,[]=>0
 | p,f :: r=>if stepT p f=0 then db (some f) r else stepT p f
def eO (l:List Field):Nat:=(l.map fun f=>(bY f).length).sum
def cA (l:List Field):Int:=if db none l=0 then (if (16384:Int)<((eO l:Nat):Int) then 4 else 0) else db none l
def jF (l:List Field):List UInt8:=if cA l=0 then (l.map bY).flatten else []
def du (l:List Field) (k:Nat):Option Field:=if k=0 then none else l[k - 1]?
def pW (l:List Field) (k:Nat) (x:Field):Prop:=(¬ 0<k)\/∃ y,l[k - 1]? = some y/\ey y x=true
theorem Da {num wire:Int} (h:(num<1\/1000<num)\/(¬ wire=0/\¬ wire=2)):lz num wire=false:=by
 rw [<- Bool.not_eq_true]; unfold lz; simp only [Bool.and_eq_true,Bool.or_eq_true,decide_eq_true_eq]; omega
theorem wQ {num wire:Int} (h:¬ ((num<1\/1000<num)\/(¬ wire=0/\¬ wire=2))):lz num wire=true:=by
 unfold lz; simp only [Bool.and_eq_true,Bool.or_eq_true,decide_eq_true_eq]; omega
theorem vR {num wire:Int} (h:(num<1\/1000<num)\/(¬ wire=0/\¬ wire=2)):[]=kR num wire:=by rw [kR,Da h]; rfl
theorem Hr {num wire:Int} (h:(num<1\/1000<num)\/(¬ wire=0/\¬ wire=2)):1=tX num wire:=by rw [tX,Da h]; rfl
theorem Cy {num wire:Int} (h:¬ ((num<1\/1000<num)\/(¬ wire=0/\¬ wire=2))):fj ((8*num)+wire).toNat=kR num wire:=by rw [kR,wQ h]; rfl
theorem Cd {num wire:Int} (h:¬ ((num<1\/1000<num)\/(¬ wire=0/\¬ wire=2))):0=tX num wire:=by rw [tX,wQ h]; rfl
theorem mB (num wire:Int):(kR num wire).length<=10:=by
 unfold kR
 cases h:lz num wire with
 | false=>simp
 | true=>
  unfold lz at h; simp only [Bool.and_eq_true,Bool.or_eq_true,decide_eq_true_eq] at h
  exact dG aQ
theorem mz {f:Field} (hb:f.b.length<=16384) (hn:f.n.n<18446744073709551616):(bY f).length<=16404:=by
 have h1:=mB f.num f.wire
 unfold bY
 split
 ·have:=dG hn; rw [List.length_append]; omega
 ·have:=dG (n:=f.b.length) (by omega); rw [List.length_append,List.length_append]; omega
theorem HC {f:Field} (h:f.wire=0):kR f.num f.wire++fj f.n.n=bY f:=by rw [bY,if_pos h]
theorem FE {f:Field} (h:¬ f.wire=0):(kR f.num f.wire++fj f.b.length)++f.b=bY f:=by rw [bY,if_neg h]
theorem zY {l:List Field} {k:Nat} {x:Field} (hx:l[k]? = some x):eO (l.take k)+(bY x).length=eO (l.take (k+1)):=by
 unfold eO; rw [ax hx,List.map_append,List.sum_append]; simp
theorem vy {l:List Field} {k:Nat} {x:Field} (hp:pW l k x):Si (du l k) x=true:=by
 unfold du
 rcases hp with h | ⟨y,hy,hr⟩
 ·rw [if_pos (by omega)]; rfl
 ·by_cases hk:k=0
  ·rw [if_pos hk]; rfl
  ·rw [if_neg hk,hy]; exact hr
theorem Bq {l:List Field} {k:Nat} {x:Field} (hx:l[k]? = some x):db (du l k) (l.drop k)=if stepT (du l k) x=0 then db (some x) (l.drop (k+1)) else stepT (du l k) x:=by
 obtain ⟨hk,he⟩:=List.getElem?_eq_some_iff.1 hx
 rw [List.drop_eq_getElem_cons hk,he]; rfl
theorem Cv {l:List Field} {k:Nat} {x:Field} {e:Int} (hc:db none l=db (du l k) (l.drop k)) (hx:l[k]? = some x) (he:stepT (du l k) x=e) (h0:e≠0):e=cA l:=by
 have h1:db none l=e:=by rw [hc,Bq hx,he,if_neg h0]
 rw [cA,h1,if_neg h0]
theorem KY {l:List Field} {k:Nat} {x:Field} (hc:db none l=db (du l k) (l.drop k)) (hx:l[k]? = some x) (ha:dU x=false):1=cA l:=Cv hc hx (by rw [stepT,if_pos ha]) (by decide)
theorem Jt {l:List Field} {k:Nat} {x y:Field} (hc:db none l=db (du l k) (l.drop k)) (hx:l[k]? = some x) (ha:dU x=true) (h0:0<k) (hy:l[k - 1]? = some y) (hr:ey y x=false):5=cA l:=
 Cv hc hx (by rw [stepT,if_neg (by rw [ha]; decide),if_pos]; unfold du; rw [if_neg (by omega),hy]; exact hr) (by decide)
theorem KB {l:List Field} {k:Nat} {x:Field} (hc:db none l=db (du l k) (l.drop k)) (hx:l[k]? = some x) (ha:dU x=true) (hp:pW l k x) (hb:(16384:Int)<((x.b.length:Nat):Int)):4=cA l:=
 Cv hc hx (by rw [stepT,if_neg (by rw [ha]; decide),if_neg (by rw [vy hp]; decide),if_pos hb]) (by decide)
theorem Ec {l:List Field} {k:Nat} {x:Field} (hc:db none l=db (du l k) (l.drop k)) (hx:l[k]? = some x) (ha:dU x=true) (hp:pW l k x) (hb:¬ (16384:Int)<((x.b.length:Nat):Int)):db none l=db (du l (k+1)) (l.drop (k+1)):=by
 rw [hc,Bq hx,if_pos (by rw [stepT,if_neg (by rw [ha]; decide),if_neg (by rw [vy hp]; decide),if_neg hb])]
 unfold du; rw [if_neg (by omega),Nat.add_sub_cancel,hx]
theorem xe {l:List Field} {k:Nat} (hc:db none l=db (du l k) (l.drop k)) (hk:l.length<=k):db none l=0:=by
 rw [hc,List.drop_of_length_le hk]; rfl
theorem AA {l:List Field} {k:Nat} (hc:db none l=db (du l k) (l.drop k)) (hk:l.length<=k) (hs:(16384:Int)<((eO (l.take k):Nat):Int)):4=cA l:=by
 rw [List.take_of_length_le hk] at hs; rw [cA,if_pos (xe hc hk),if_pos hs]
theorem DR {l:List Field} {k:Nat} (hc:db none l=db (du l k) (l.drop k)) (hk:l.length<=k) (hs:¬ (16384:Int)<((eO (l.take k):Nat):Int)):0=cA l:=by
 rw [List.take_of_length_le hk] at hs; rw [cA,if_pos (xe hc hk),if_neg hs]
theorem Ez {l:List Field} (h:cA l=0):eO l<=16384:=by
 unfold cA at h
 split at h
 ·split at h
  ·cases h
  ·omega
 ·rename_i h0; exact absurd h h0
theorem Hi {l:List Field} (h:cA l=0):db none l=0:=by
 unfold cA at h
 split at h
 ·assumption
 ·exact h
theorem wU:∀ {l:List Field} {p:Option Field},db p l=0->∀ x ∈ l,x.b.length<=16384
 | [],_,_,x,hx=>by cases hx
 | f :: r,p,h,x,hx=>by
  unfold db at h
  split at h
  ·rename_i hs
   rcases List.mem_cons.1 hx with rfl | hx
   ·unfold stepT at hs
    split at hs
    ·cases hs
    ·split at hs
     ·cases hs
     ·split at hs
      ·cases hs
      ·omega
   ·exact wU h x hx
  ·rename_i hs; exact absurd h hs
theorem p_ {l:List Field} (h:cA l=0) {x:Field} (hx:x ∈ l):x.b.length<=16384:=wU (Hi h) x hx
theorem xH {l:List Field} {k:Nat} {x:Field} (hx:l[k]? = some x):((l.take k).map bY).flatten++bY x=((l.take (k+1)).map bY).flatten:=by
 rw [ax hx,List.map_append,List.flatten_append]; simp
theorem Bi (l:List Field):((l.map bY).flatten).length=eO l:=by
 unfold eO; rw [List.length_flatten,List.map_map]; rfl
theorem DY {l:List Field} {k:Nat}:eO (l.take k)<=eO l:=by
 have:eO l=eO (l.take k)+eO (l.drop k):=by unfold eO; rw [<- List.sum_append,<- List.map_append,List.take_append_drop]
 omega
theorem Ed {l:List Field} {k:Nat} (h:cA l=0):((l.take k).map bY).flatten.length<=16384:=by
 have:=Ez h; have:=DY (l:=l) (k:=k); rw [Bi]; omega
theorem EY {l:List Field} {k:Nat} (h:cA l=0) (hk:l.length<=k):((l.take k).map bY).flatten=jF l:=by rw [jF,if_pos h,List.take_of_length_le hk]
theorem Jv {l:List Field} (h:¬ cA l=0):[]=jF l:=by rw [jF,if_neg h]
theorem AN {f:Field} (h:f.num<1\/1000<f.num):false=dU f:=by
 have:(decide (1<=f.num) && decide (f.num<=1000))=false:=by rw [<- Bool.not_eq_true]; simp only [Bool.and_eq_true,decide_eq_true_eq]; omega
 unfold dU; rw [this]; rfl
theorem AP {f:Field} (h:¬ (f.num<1\/1000<f.num)):dU f=(if f.wire=0 then decide (((f.b.length:Nat):Int)=0) else if f.wire=2 then decide ((f.n.n:Int)=0) else false):=by
 have:(decide (1<=f.num) && decide (f.num<=1000))=true:=by simp only [Bool.and_eq_true,decide_eq_true_eq]; omega
 unfold dU; rw [this]; rfl
def bn:List Spec:=([⟨1,0,1,true,false⟩,⟨2,0,1,false,false⟩,⟨3,0,1,false,false⟩,⟨4,0,1,false,false⟩,⟨5,0,1,false,false⟩,⟨6,0,1,false,false⟩,⟨7,2,1,false,false⟩,⟨8,2,3,false,false⟩]:List Spec)
def aU (v:Int):List Spec:=if v<1\/3<v then [] else bn.filter fun s=>decide (s.since<=v)
def bZ (v:Int):Int:=(aU v).foldl (fun t s=>max t s.num) 0
theorem CX {v:Int} {k:Nat} {x:Spec} (hx:bn[k]? = some x) (h:x.since<=v):(bn.take k).filter (fun s=>decide (s.since<=v))++[x]=(bn.take (k+1)).filter (fun s=>decide (s.since<=v)):=by
 rw [ax hx,List.filter_append]; simp [h]
theorem GW {v:Int} {k:Nat} {x:Spec} (hx:bn[k]? = some x) (h:¬ x.since<=v):(bn.take k).filter (fun s=>decide (s.since<=v))=(bn.take (k+1)).filter (fun s=>decide (s.since<=v)):=by
 rw [ax hx,List.filter_append]; simp [h]
theorem xP {v:Int} (h:v<1\/3<v):[]=aU v:=by rw [aU,if_pos h]
theorem A_ {v:Int} {k:Nat} (h:¬ (v<1\/3<v)) (hk:bn.length<=k):(bn.take k).filter (fun s=>decide (s.since<=v))=aU v:=by rw [aU,if_neg h,List.take_of_length_le hk]
theorem zO {v:Int} {k:Nat}:((bn.take k).filter (fun s=>decide (s.since<=v))).length<=8:=by
 have h1:=List.length_filter_le (fun s:Spec=>decide (s.since<=v)) (bn.take k)
 have h2:(bn.take k).length<=8:=by rw [List.length_take]; exact Nat.le_trans (Nat.min_le_right _ _) (by decide)
 omega
theorem Dk {v:Int} {k:Nat} {x:Spec} (hx:(aU v)[k]? = some x):max (((aU v).take k).foldl (fun t s=>max t s.num) 0) x.num=((aU v).take (k+1)).foldl (fun t s=>max t s.num) 0:=by
 rw [ax hx,List.foldl_append]; rfl
def lX (num n:Int):List Field:=if n=0 then [] else [⟨num,0,⟨n.toNat⟩,[]⟩]
def wX (num:Int) (b:List UInt8):List Field:=if 0<((b.length:Nat):Int) then [⟨num,2,⟨0⟩,b⟩] else []
def pL (c:Command):List Field:=(((((([]++lX 1 c.kind)++lX 2 c.client)++lX 3 c.seq)++lX 4 c.set)++lX 5 c.id)++lX 6 c.n)++wX 7 (dy c.chunks)
def c_ (c:Command) (v:Int):List Field:=if 3<=v then pL c++wX 8 c.text.b else pL c
theorem ew (num n:Int):(lX num n).length<=1:=by unfold lX; split <;> simp
theorem uE (num:Int) (b:List UInt8):(wX num b).length<=1:=by unfold wX; split <;> simp
theorem tr {xs:List Field} {num n:Int} (h:¬ n=0):xs++[⟨num,0,⟨n.toNat⟩,[]⟩]=xs++lX num n:=by rw [lX,if_neg h]
theorem tH {xs:List Field} {num n:Int} (h:n=0):xs=xs++lX num n:=by rw [lX,if_pos h,List.append_nil]
theorem rB {xs:List Field} {num:Int} {b:List UInt8} (h:0<((b.length:Nat):Int)):xs++[⟨num,2,⟨0⟩,b⟩]=xs++wX num b:=by rw [wX,if_pos h]
theorem sU {xs:List Field} {num:Int} {b:List UInt8} (h:¬ 0<((b.length:Nat):Int)):xs=xs++wX num b:=by rw [wX,if_neg h,List.append_nil]
theorem um (c:Command) (v:Int):(c_ c v).length<=8:=by
 have h1:=ew 1 c.kind; have h2:=ew 2 c.client; have h3:=ew 3 c.seq; have h4:=ew 4 c.set; have h5:=ew 5 c.id; have h6:=ew 6 c.n
 have h7:=uE 7 (dy c.chunks); have h8:=uE 8 c.text.b
 unfold c_ pL
 split <;> simp only [List.length_append,List.length_nil] <;> omega
def cM (c:Command) (rest:List Field) (v:Int):Int:=if !(cE v 1 3) then 1 else if (eE c v=false/\¬ b_ c v=0) then b_ c v else if rest.any (fun f=>decide (f.num<=bZ v)) then 6 else 0
def fq (c:Command) (rest:List Field) (v:Int):Int:=if cM c rest v=0 then cA (c_ c v++rest) else cM c rest v
def fO (c:Command) (rest:List Field) (v:Int):List UInt8:=if cM c rest v=0 then jF (c_ c v++rest) else []
theorem uA {k:Int} (h:¬ bD k=0):1<=k/\k<=12:=Decidable.byContradiction fun h2=>h (FQ h2)
theorem Jo {c:Command} {v:Int} (h:eE c v=true):0<=c.kind/\0<=c.client/\0<=c.seq/\0<=c.set/\0<=c.id/\0<=c.n:=by
 unfold eE oH cE at h
 simp only [Bool.and_eq_true,decide_eq_true_eq] at h
 omega
theorem qk {n m:Int} {b:Bool} (h:lh n m b=true):0<=n:=by
 unfold lh at h; cases b <;> simp at h <;> omega
theorem Fg {k:Int} (h:1<=k/\k<=12):0<=(oX k).1:=by
 have:k=1\/k=2\/k=3\/k=4\/k=5\/k=6\/k=7\/k=8\/k=9\/k=10\/k=11\/k=12:=by omega
 rcases this with rfl | rfl | rfl | rfl | rfl | rfl | rfl | rfl | rfl | rfl | rfl | rfl <;> decide
theorem AE {c:Command} {v:Int} (h:b_ c v=0):(1<=v/\v<=3)/\¬ bD c.kind=0/\bD c.kind<=v/\lJ c=true:=by
 unfold b_ at h
 split at h
 ·cases h
 ·rename_i h1
  rw [Bool.or_eq_true,not_or] at h1
  simp only [Bool.not_eq_true',Bool.not_eq_false,decide_eq_true_eq] at h1
  split at h
  ·cases h
  ·split at h
   ·cases h
   ·rename_i h2 h3
    exact ⟨Aj h1.1,h1.2,by omega,by simpa using h3⟩
theorem IW {c:Command} {v:Int} (h:b_ c v=0):0<=c.kind/\0<=c.client/\0<=c.seq/\0<=c.set/\0<=c.id/\0<=c.n:=by
 obtain ⟨_,hn,_,hf⟩:=AE h
 have hr:=uA hn
 have hs:=Fg hr
 unfold lJ at hf
 simp only [Bool.and_eq_true,decide_eq_true_eq] at hf
 obtain ⟨⟨⟨⟨⟨⟨⟨h1,h2⟩,_⟩,_⟩,h3⟩,h4⟩,h5⟩,h6⟩:=hf
 exact ⟨by omega,qk h3,qk h4,qk h5,qk h6,by omega⟩
theorem Rl {c:Command} {rest:List Field} {v:Int} (h:(!(cE v 1 3))=true):cM c rest v=1:=by rw [cM,if_pos h]
theorem Ry {c:Command} {rest:List Field} {v:Int} (h:(!(cE v 1 3))=false) (h1:eE c v=false) (h2:¬ b_ c v=0):cM c rest v=b_ c v:=by rw [cM,h,if_neg (by decide),if_pos ⟨h1,h2⟩]
theorem Ra {c:Command} {rest:List Field} {v:Int} {k:Nat} {x:Field} (h:(!(cE v 1 3))=false) (h1:eE c v=true\/b_ c v=0) (hx:rest[k]? = some x) (hn:x.num<=bZ v):cM c rest v=6:=by
 have:(rest.any fun f=>decide (f.num<=bZ v))=true:=List.any_eq_true.2 ⟨x,List.mem_of_getElem? hx,decide_eq_true hn⟩
 rw [cM,h,if_neg (by decide),if_neg (fun hh=>by rcases h1 with h1 | h1; rw [h1] at hh; cases hh.1; exact hh.2 h1),if_pos this]
theorem Py {c:Command} {rest:List Field} {v:Int} {k:Nat} (h:(!(cE v 1 3))=false) (h1:eE c v=true\/b_ c v=0) (hall:∀ j y,j<k->rest[j]? = some y->¬ y.num<=bZ v) (hk:rest.length<=k):cM c rest v=0:=by
 have:(rest.any fun f=>decide (f.num<=bZ v))=false:=by
  rw [List.any_eq_false]
  intro y hy
  obtain ⟨j,hj,rfl⟩:=List.getElem_of_mem hy
  have:=hall j _ (by omega) (List.getElem?_eq_getElem hj)
  simpa using this
 rw [cM,h,if_neg (by decide),if_neg (fun hh=>by rcases h1 with h1 | h1; rw [h1] at hh; cases hh.1; exact hh.2 h1),this,if_neg (by decide)]
theorem tQ {c:Command} {rest:List Field} {v e:Int} (h:cM c rest v=e) (h0:¬ e=0):e=fq c rest v:=by rw [fq,h,if_neg h0]
theorem vh {c:Command} {rest:List Field} {v e:Int} (h:cM c rest v=e) (h0:¬ e=0):[]=fO c rest v:=by rw [fO,h,if_neg h0]
theorem Nf {c:Command} {rest:List Field} {v:Int} (h:cM c rest v=0):cA (c_ c v++rest)=fq c rest v:=by rw [fq,if_pos h]
theorem N_ {c:Command} {rest:List Field} {v:Int} (h:cM c rest v=0):jF (c_ c v++rest)=fO c rest v:=by rw [fO,if_pos h]
theorem xQ {rest:List Field} {t:Int} {k:Nat} {z:Field} (h:∀ j y,j<k->rest[j]? = some y->¬ y.num<=t) (hz:rest[k]? = some z) (hn:¬ z.num<=t):∀ j y,j<k+1->rest[j]? = some y->¬ y.num<=t:=by
 intro j y hj hy
 by_cases hjk:j=k
 ·subst hjk; rw [hz] at hy; cases hy; exact hn
 ·exact h j y aQ hy
structure CmdOk (c:Command) (v:Int):Prop where
 nn:0<=c.kind/\0<=c.client/\0<=c.seq/\0<=c.set/\0<=c.id/\0<=c.n
 ch:c.chunks=[]\/rowF c.chunks=true
 tx:c.text.b=[]\/(3<=v/\c.text.b.length<=16)
def f99:Field:=⟨99,0,⟨1⟩,[]⟩
def bK:Nat->Nat->List UInt8->Nat × Nat × Int
 | k,_,[]=>if 10<=k then (0,0,3) else (0,0,2)
 | k,n,x :: r=>if 10<=k then (0,0,3) else if (0<k/\x.toNat=0)\/(k=9/\1<x.toNat) then (0,0,3) else if x.toNat<128 then (n+(x &&& 127).toNat*2 ^ (7*k),k+1,0) else bK (k+1) (n+(x &&& 127).toNat*2 ^ (7*k)) r
termination_by _ _ l=>l.length
def aA (b:List UInt8):Nat × Nat × Int:=bK 0 0 b
theorem po (x:UInt8):(x &&& 127).toNat=x.toNat % 128:=by rw [UInt8.toNat_and]; exact Nat.and_two_pow_sub_one_eq_mod x.toNat 7
theorem Kj {k:Nat} {x:UInt8} (hk:k<=9) (h:k=9->x.toNat<=1):(x &&& 127).toNat*2 ^ (7*k)<18446744073709551616:=by
 rw [po]
 by_cases h9:k=9
 ·have:=h h9
  subst h9
  have:x.toNat % 128*2 ^ (7*9)<=1*2 ^ (7*9):=Nat.mul_le_mul_right _ (by omega)
  exact Nat.lt_of_le_of_lt this (by decide)
 ·have h1:2 ^ (7*k)<=2 ^ 56:=Nat.pow_le_pow_right (by decide) (by omega)
  have:x.toNat % 128*2 ^ (7*k)<=127*2 ^ 56:=Nat.mul_le_mul (by omega) h1
  exact Nat.lt_of_le_of_lt this (by decide)
theorem Lm {k n m:Nat} (h:n<2 ^ (7*k)):n ||| m*2 ^ (7*k)=n+m*2 ^ (7*k):=by
 have:=Nat.two_pow_add_eq_or_of_lt h m
 rw [Nat.or_comm,Nat.mul_comm m,<- this,Nat.add_comm]
theorem FT {k n:Nat} {x:UInt8} (h:n<2 ^ (7*k)):n+(x &&& 127).toNat*2 ^ (7*k)<2 ^ (7*(k+1)):=by
 rw [po]
 have e:2 ^ (7*(k+1))=128*2 ^ (7*k):=by rw [show 7*(k+1)=7*k+7 by omega,Nat.pow_add,Nat.mul_comm]
 have:x.toNat % 128*2 ^ (7*k)<=127*2 ^ (7*k):=Nat.mul_le_mul_right _ (by omega)
 rw [e]; omega
theorem Mg {b:List UInt8} {k n:Nat} (hk:k<10) (hb:b.length<=k):bK k n (b.drop k)=(0,0,2):=by
 rw [List.drop_of_length_le hb,bK,if_neg (by omega)]
theorem JY {b:List UInt8} {k n:Nat} (hk:10<=k):bK k n (b.drop k)=(0,0,3):=by
 cases h:b.drop k with
 | nil=>rw [bK,if_pos hk]
 | cons x r=>rw [bK,if_pos hk]
theorem Bc {b:List UInt8} {k n:Nat} {x:UInt8} (hk:k<10) (hx:b[k]? = some x):bK k n (b.drop k)=if (0<k/\x.toNat=0)\/(k=9/\1<x.toNat) then (0,0,3) else if x.toNat<128 then (n+(x &&& 127).toNat*2 ^ (7*k),k+1,0) else bK (k+1) (n+(x &&& 127).toNat*2 ^ (7*k)) (b.drop (k+1)):=by
 obtain ⟨hkl,he⟩:=List.getElem?_eq_some_iff.1 hx
 rw [List.drop_eq_getElem_cons hkl,he,bK,if_neg (by omega)]
theorem EU {b:List UInt8} {k n:Nat} {x:UInt8} (h:aA b=bK k n (b.drop k)) (hk:k<10) (hx:b[k]? = some x) (h1:¬ (0<k/\x.toNat=0)) (h2:¬ (k=9/\1<x.toNat)) (h3:¬ x.toNat<128):aA b=bK (k+1) (n+(x &&& 127).toNat*2 ^ (7*k)) (b.drop (k+1)):=by
 rw [h,Bc hk hx,if_neg (fun h=>h.elim h1 h2),if_neg h3]
theorem mh:∀ {l:List UInt8} {k n:Nat},k<=10->(bK k n l).2.1<=11/\(bK k n l).2.1<=k+l.length
 | [],k,n,h=>by rw [bK]; split <;> simp
 | x :: r,k,n,h=>by
  rw [bK]
  split
  ·simp
  ·split
   ·simp
   ·split
    ·simp; omega
    ·have:=mh (l:=r) (k:=k+1) (n:=n+(x &&& 127).toNat*2 ^ (7*k)) (by omega)
     simp only [List.length_cons]; omega
theorem CY {b:List UInt8} {k n:Nat} {x:UInt8} (h:aA b=bK k n (b.drop k)) (hk:k<10) (hx:b[k]? = some x) (h1:(0<k/\x.toNat=0)\/(k=9/\1<x.toNat)):aA b=(0,0,3):=by rw [h,Bc hk hx,if_pos h1]
theorem EV {b:List UInt8} {k n:Nat} {x:UInt8} (h:aA b=bK k n (b.drop k)) (hk:k<10) (hx:b[k]? = some x) (h1:¬ (0<k/\x.toNat=0)) (h2:¬ (k=9/\1<x.toNat)) (h3:x.toNat<128):aA b=(n+(x &&& 127).toNat*2 ^ (7*k),k+1,0):=by
 rw [h,Bc hk hx,if_neg (fun h=>h.elim h1 h2),if_pos h3]
theorem Bt:∀ {l:List UInt8} {k n:Nat},1<=k->(bK k n l).2.2=0->2 ^ (7*k)<=(bK k n l).1
 | [],k,n,_,h=>by rw [bK] at h; split at h <;> cases h
 | x :: r,k,n,hk,h=>by
  rw [bK] at h ⊢
  split
  ·rename_i h1; rw [if_pos h1] at h; cases h
  ·rename_i h1
   rw [if_neg h1] at h
   split
   ·rename_i h2; rw [if_pos h2] at h; cases h
   ·rename_i h2
    rw [if_neg h2] at h
    split
    ·rename_i h3
     rw [po]
     have:1<=x.toNat % 128:=by
      have:¬ x.toNat=0:=fun e=>h2 (.inl ⟨by omega,e⟩)
      omega
     have:=Nat.mul_le_mul_right (2 ^ (7*k)) this
     show 2 ^ (7*k)<=n+x.toNat % 128*2 ^ (7*k)
     omega
    ·rename_i h3
     rw [if_neg h3] at h
     exact Nat.le_trans (Nat.pow_le_pow_right (by decide) aQ) (Bt aQ h)
theorem wS (x:UInt8) (r:List UInt8):aA (x :: r)=if x.toNat<128 then (x.toNat,1,0) else bK 1 (x.toNat % 128) r:=by
 unfold aA
 rw [bK,if_neg (by decide),if_neg (by omega),po]
 split
 ·rename_i h; rw [Nat.mod_eq_of_lt h]; simp
 ·simp
theorem rC {b:List UInt8} {k:Nat} (hk:k<b.length):(b.drop k).take (b.length - k)=b[k] :: b.drop (k+1):=by
 rw [List.take_of_length_le (by simp),List.drop_eq_getElem_cons hk]
theorem Tk {b:List UInt8} {k:Nat} (hk:k<b.length) (he:(aA ((b.drop k).take (b.length - k))).2.2=0) (hn:¬ (64:Int)<(((aA ((b.drop k).take (b.length - k))).1:Nat):Int)) :
  ∃ x,b[k]? = some x/\aA ((b.drop k).take (b.length - k))=(x.toNat,1,0)/\x.toNat<=64:=by
 rw [rC hk,wS] at *
 by_cases h:b[k].toNat<128
 ·rw [if_pos h] at *; exact ⟨_,List.getElem?_eq_getElem hk,rfl,by simp only at hn; omega⟩
 ·rw [if_neg h] at *
  have:=Bt (Nat.le_refl 1) he
  omega
theorem Tb {b:List UInt8} {k:Nat} (hk:k<b.length) (h:(¬ (aA ((b.drop k).take (b.length - k))).2.2=0)\/(64:Int)<(((aA ((b.drop k).take (b.length - k))).1:Nat):Int)):∃ x,b[k]? = some x/\64<x.toNat:=by
 refine ⟨b[k],List.getElem?_eq_getElem hk,?_⟩
 rw [rC hk,wS] at h
 by_cases h1:b[k].toNat<128
 ·rw [if_pos h1] at h; simp only [not_true_eq_false,false_or] at h; omega
 ·omega
def bX (b:List UInt8):List Int:=b.map fun x=>(x.toNat:Int)
def iM (b:List UInt8):List Int:=if rowF (bX b) then bX b else []
def nH (b:List UInt8):Int:=if rowF (bX b) then 0 else 6
theorem Hh {b:List UInt8} {k:Nat} {x:UInt8} {p:Nat × Nat × Int} (hx:b[k]? = some x) (hp:p=(x.toNat,1,0)):bX (b.take k)++[((p.1:Nat):Int)]=bX (b.take (k+1)):=by
 subst hp; unfold bX; rw [ax hx,List.map_append]; rfl
theorem LY {b:List UInt8} {k:Nat} (hk:k<b.length) (h:(¬ (aA ((b.drop k).take (b.length - k))).2.2=0)\/(64:Int)<(((aA ((b.drop k).take (b.length - k))).1:Nat):Int)):rowF (bX b)=false:=by
 obtain ⟨x,hx,h64⟩:=Tb hk h
 rw [<- Bool.not_eq_true]
 intro hr
 have:=(pV hr (x.toNat:Int) (List.mem_map.2 ⟨x,List.mem_of_getElem? hx,rfl⟩)).2
 omega
theorem tU {b:List UInt8} {k:Nat} (hk:b.length<=k):bX (b.take k)=bX b:=by rw [List.take_of_length_le hk]
theorem qq {b:List UInt8} (h:rowF (bX b)=false):[]=iM b:=by rw [iM,h]; rfl
theorem Ef {b:List UInt8} (h:rowF (bX b)=false):6=nH b:=by rw [nH,h]; rfl
theorem EN {b:List UInt8} {k:Nat} (hk:b.length<=k) (h:rowF (bX (b.take k))=true):bX (b.take k)=iM b:=by rw [tU hk] at *; rw [iM,h]; rfl
theorem GK {b:List UInt8} {k:Nat} (hk:b.length<=k) (h:rowF (bX (b.take k))=true):0=nH b:=by rw [tU hk] at *; rw [nH,h]; rfl
theorem uR {b:List UInt8} {k:Nat} (hk:b.length<=k) (h:rowF (bX (b.take k))=false):rowF (bX b)=false:=by rw [tU hk] at h; exact h
structure TagR where
 num:Int
 wire:Int
 k:Nat
 e:Int
def uY (n:Nat):Bool:=decide ((n / 8<1\/1000<n / 8)\/(¬ n % 8=0/\¬ n % 8=2))
def aS (b:List UInt8):TagR:=if (aA b).2.2=0 then (if uY (aA b).1=true then ⟨0,0,0,6⟩ else ⟨(((aA b).1 / 8:Nat):Int),(((aA b).1 % 8:Nat):Int),(aA b).2.1,0⟩) else ⟨0,0,0,(aA b).2.2⟩
theorem zZ {b:List UInt8} (h:¬ (aA b).2.2=0):aS b=⟨0,0,0,(aA b).2.2⟩:=by rw [aS,if_neg h]
theorem AR {b:List UInt8} (h:(aA b).2.2=0) (h2:((aA b).1 / 8<1\/1000<(aA b).1 / 8)\/(¬ (aA b).1 % 8=0/\¬ (aA b).1 % 8=2)):aS b=⟨0,0,0,6⟩:=by rw [aS,if_pos h,if_pos (show uY _=true from decide_eq_true h2)]
theorem zH {b:List UInt8} (h:(aA b).2.2=0) (h2:¬ (((aA b).1 / 8<1\/1000<(aA b).1 / 8)\/(¬ (aA b).1 % 8=0/\¬ (aA b).1 % 8=2))):aS b=⟨(((aA b).1 / 8:Nat):Int),(((aA b).1 % 8:Nat):Int),(aA b).2.1,0⟩:=by
 rw [aS,if_pos h,if_neg (by unfold uY; simpa using h2)]
theorem l_ (b:List UInt8):((aS b).k<=11/\(aS b).k<=b.length)/\(0<=(aS b).num/\(aS b).num<=1000)/\(0<=(aS b).wire/\(aS b).wire<=2):=by
 have hs:(aA b).2.1<=11/\(aA b).2.1<=0+b.length:=mh (l:=b) (k:=0) (n:=0) (by omega)
 by_cases h:(aA b).2.2=0
 ·by_cases h2:((aA b).1 / 8<1\/1000<(aA b).1 / 8)\/(¬ (aA b).1 % 8=0/\¬ (aA b).1 % 8=2)
  ·rw [AR h h2]; simp
  ·rw [zH h h2]; dsimp only; omega
 ·rw [zZ h]; simp
theorem zi:∀ {l:List UInt8} {k n:Nat},(bK k n l).2.2=0->1<=(bK k n l).2.1
 | [],k,n,h=>by rw [bK] at h; split at h <;> cases h
 | x :: r,k,n,h=>by
  rw [bK] at h ⊢
  split
  ·rename_i h1; rw [if_pos h1] at h; cases h
  ·rename_i h1
   rw [if_neg h1] at h
   split
   ·rename_i h2; rw [if_pos h2] at h; cases h
   ·rename_i h2
    rw [if_neg h2] at h
    split
    ·simp
    ·rename_i h3; rw [if_neg h3] at h; exact zi h
def aY (b:List UInt8):Nat × Int:=
  if (aS b).e=0 then
    (if (aA (b.drop (aS b).k)).2.2=0 then
      (if (aS b).wire=0 then ((aS b).k+(aA (b.drop (aS b).k)).2.1,0)
       else if 16384<(aA (b.drop (aS b).k)).1 then (0,4)
       else if ((b.length:Nat):Int) - (((aS b).k+(aA (b.drop (aS b).k)).2.1:Nat):Int)<(((aA (b.drop (aS b).k)).1:Nat):Int) then (0,2)
       else ((aS b).k+(aA (b.drop (aS b).k)).2.1+(aA (b.drop (aS b).k)).1,0))
     else (0,(aA (b.drop (aS b).k)).2.2))
  else (0,(aS b).e)
theorem Rj {b:List UInt8} (h:¬ (aS b).e=0):aY b=(0,(aS b).e):=by rw [aY,if_neg h]
theorem RF {b:List UInt8} (h:(aS b).e=0) (h2:¬ (aA (b.drop (aS b).k)).2.2=0):aY b=(0,(aA (b.drop (aS b).k)).2.2):=by rw [aY,if_pos h,if_neg h2]
theorem Pz {b:List UInt8} (h:(aS b).e=0) (h2:(aA (b.drop (aS b).k)).2.2=0) (h3:(aS b).wire=0):aY b=((aS b).k+(aA (b.drop (aS b).k)).2.1,0):=by rw [aY,if_pos h,if_pos h2,if_pos h3]
theorem QI {b:List UInt8} (h:(aS b).e=0) (h2:(aA (b.drop (aS b).k)).2.2=0) (h3:¬ (aS b).wire=0) (h4:16384<(aA (b.drop (aS b).k)).1):aY b=(0,4):=by rw [aY,if_pos h,if_pos h2,if_neg h3,if_pos h4]
theorem RR {b:List UInt8} (h:(aS b).e=0) (h2:(aA (b.drop (aS b).k)).2.2=0) (h3:¬ (aS b).wire=0) (h4:¬ 16384<(aA (b.drop (aS b).k)).1) (h5:((b.length:Nat):Int) - (((aS b).k+(aA (b.drop (aS b).k)).2.1:Nat):Int)<(((aA (b.drop (aS b).k)).1:Nat):Int)):aY b=(0,2):=by rw [aY,if_pos h,if_pos h2,if_neg h3,if_neg h4,if_pos h5]
theorem Qq {b:List UInt8} (h:(aS b).e=0) (h2:(aA (b.drop (aS b).k)).2.2=0) (h3:¬ (aS b).wire=0) (h4:¬ 16384<(aA (b.drop (aS b).k)).1) (h5:¬ ((b.length:Nat):Int) - (((aS b).k+(aA (b.drop (aS b).k)).2.1:Nat):Int)<(((aA (b.drop (aS b).k)).1:Nat):Int)):aY b=((aS b).k+(aA (b.drop (aS b).k)).2.1+(aA (b.drop (aS b).k)).1,0):=by rw [aY,if_pos h,if_pos h2,if_neg h3,if_neg h4,if_neg h5]
theorem kf (b:List UInt8) (k:Nat):(aA (b.drop k)).2.1<=11/\(aA (b.drop k)).2.1+k<=max b.length k:=by
 have:=mh (l:=b.drop k) (k:=0) (n:=0) (by omega)
 unfold aA
 rw [List.length_drop] at this
 omega
theorem ry (b:List UInt8):(aY b).1<=b.length:=by
 have h1:=l_ b; have h2:=kf b (aS b).k
 unfold aY
 split
 ·split
  ·split
   ·dsimp only; omega
   ·split
    ·simp
    ·split
     ·simp
     ·dsimp only; omega
  ·simp
 ·simp
theorem ke {b:List UInt8} (h:(aY b).2=0):1<=(aY b).1:=by
 unfold aY at h ⊢
 split
 ·rename_i h0
  rw [if_pos h0] at h
  split
  ·rename_i h1
   rw [if_pos h1] at h
   have:=zi (l:=b.drop (aS b).k) (k:=0) (n:=0) h1
   split
   ·dsimp only; unfold aA; omega
   ·rename_i h2
    rw [if_neg h2] at h
    split
    ·rename_i h3; rw [if_pos h3] at h; cases h
    ·rename_i h3
     rw [if_neg h3] at h
     split
     ·rename_i h4; rw [if_pos h4] at h; cases h
     ·dsimp only; unfold aA; omega
  ·rename_i h1; rw [if_neg h1] at h; exact absurd h h1
 ·rename_i h0; rw [if_neg h0] at h; exact absurd h h0
def iK (b:List UInt8):Field:=if (aS b).wire=0 then ⟨(aS b).num,(aS b).wire,⟨(aA (b.drop (aS b).k)).1⟩,[]⟩ else ⟨(aS b).num,(aS b).wire,⟨0⟩,b.drop ((aS b).k+(aA (b.drop (aS b).k)).2.1)⟩
theorem vl {b:List UInt8} (h:(aS b).wire=0):(⟨(aS b).num,(aS b).wire,⟨(aA (b.drop (aS b).k)).1⟩,[]⟩:Field)=iK b:=by rw [iK,if_pos h]
theorem vX {b:List UInt8} (h:¬ (aS b).wire=0):(⟨(aS b).num,(aS b).wire,⟨0⟩,b.drop ((aS b).k+(aA (b.drop (aS b).k)).2.1)⟩:Field)=iK b:=by rw [iK,if_neg h]
def eA (acc:List Field) (x:Field):Bool:=match acc[acc.length - 1]? with | none=>true | some y=>ey y x
def rM:Nat->List Field->List UInt8->List Field × Int
 | 0,acc,_=>(acc,0)
 | f+1,acc,b=>if b.length=0 then (acc,0) else if (aY b).2=0 then (if eA acc (iK (b.take (aY b).1))=true then rM f (acc++[iK (b.take (aY b).1)]) (b.drop (aY b).1) else ([],5)) else ([],(aY b).2)
def bt (b:List UInt8):List Field × Int:=if 16384<b.length then ([],4) else rM b.length [] b
def fY (b:List UInt8) (i:Nat) (acc:List Field):Prop:=∃ f,b.length - i<=f/\bt b=rM f acc (b.drop i)
theorem Kh {b:List UInt8} (h:16384<b.length):bt b=([],4):=by rw [bt,if_pos h]
theorem DA {b:List UInt8} (h:¬ 16384<b.length):fY b 0 []:=⟨b.length,by omega,by rw [bt,if_neg h]; rfl⟩
theorem Bg {b:List UInt8} {i:Nat} {acc:List Field} (h:fY b i acc) (hi:i<b.length):∃ f,b.length - i<=f+1/\bt b=if (aY (b.drop i)).2=0 then (if eA acc (iK ((b.drop i).take (aY (b.drop i)).1))=true then rM f (acc++[iK ((b.drop i).take (aY (b.drop i)).1)]) ((b.drop i).drop (aY (b.drop i)).1) else ([],5)) else ([],(aY (b.drop i)).2):=by
 obtain ⟨f,hf,e⟩:=h
 cases f with
 | zero=>omega
 | succ f=>exact ⟨f,hf,by rw [e,rM,if_neg (by rw [List.length_drop]; omega)]⟩
theorem GJ {b:List UInt8} {i:Nat} {acc:List Field} (h:fY b i acc) (hi:i<b.length) (hs:¬ (aY (b.drop i)).2=0):bt b=([],(aY (b.drop i)).2):=by
 obtain ⟨f,_,e⟩:=Bg h hi; rw [e,if_neg hs]
theorem JP {b:List UInt8} {i:Nat} {acc:List Field} (h:fY b i acc) (hi:b.length<=i):bt b=(acc,0):=by
 obtain ⟨f,_,e⟩:=h
 rw [e,List.drop_of_length_le hi]
 cases f <;> rfl
theorem tN:∀ {f:Nat} {acc:List Field} {b:List UInt8},(rM f acc b).1.length<=acc.length+b.length
 | 0,acc,b=>by simp [rM]
 | f+1,acc,b=>by
  unfold rM
  split
  ·simp
  ·split
   ·rename_i h0 h1
    split
    ·have:=tN (f:=f) (acc:=acc++[iK (b.take (aY b).1)]) (b:=b.drop (aY b).1)
     have h2:=ke h1
     rw [List.length_append,List.length_drop] at this
     simp only [List.length_cons,List.length_nil] at this
     omega
    ·simp
   ·simp
theorem Hl (b:List UInt8):(bt b).1.length<=16384:=by
 unfold bt
 split
 ·simp
 ·have:=tN (f:=b.length) (acc:=[]) (b:=b)
  simp only [List.length_nil] at this
  omega
def HJ (x:Field) (s:Spec) (n:Int):Bool:=if ¬ x.wire=s.wire\/(1<n/\s.many=false) then false else if x.wire=0 then !decide ((x.n.n:Int)=0) else decide (0<((x.b.length:Nat):Int))
def fl (l:List Field) (q:Int):Nat:=l.countP fun x=>decide (x.num=q)
theorem Fl {l:List Field} {k:Nat} (q:Int):fl (l.take k) q<=k:=Nat.le_trans List.countP_le_length (by rw [List.length_take]; exact Nat.min_le_left _ _)
theorem Cq {l:List Field} {k:Nat} {x:Field} (hx:l[k]? = some x) (q:Int):fl (l.take (k+1)) q=if q=x.num then fl (l.take k) x.num+1 else fl (l.take k) q:=by
 unfold fl
 rw [ax hx,List.countP_append]
 by_cases h:q=x.num
 ·subst h; simp
 ·have:¬ x.num=q:=fun e=>h e.symm
  simp [h,this]
def nY (l:List Field) (ss:List Spec) (k:Nat):Prop:=∀ j x,j<k->l[j]? = some x->∀ s ∈ ss,s.num=x.num->HJ x s ((fl (l.take (j+1)) x.num:Nat):Int)=true
def yW (l:List Field) (ss:List Spec) (m:Nat):Prop:=∀ j y,j<m->ss[j]? = some y->y.need=true->¬ fl l y.num=0
def AL (ss:List Spec) (x:Field) (n:Int) (m:Nat):Prop:=∀ j y,j<m->ss[j]? = some y->y.num=x.num->HJ x y n=true
theorem NR {ss:List Spec} {x:Field} {n:Int}:AL ss x n 0:=fun j y h=>by omega
theorem MU {l:List Field} {ss:List Spec}:nY l ss 0:=fun j y h=>by omega
theorem Nm {l:List Field} {ss:List Spec}:yW l ss 0:=fun j y h=>by omega
def si (l:List Field) (v:Int):Prop:=nY l (aU v) l.length/\yW l (aU v) (aU v).length
open Classical in
noncomputable def fo (l:List Field) (v:Int):Int:=if (aU v).length=0 then 1 else if cA l=0 then (if si l v then 0 else 6) else cA l
theorem Rm {l:List Field} {v:Int} (h:(aU v).length=0):1=fo l v:=by rw [fo,if_pos h]
theorem Pk {l:List Field} {v:Int} (h:¬ (aU v).length=0) (h2:¬ cA l=0):cA l=fo l v:=by rw [fo,if_neg h,if_neg h2]
theorem Nj {l:List Field} {v:Int} (h:¬ (aU v).length=0) (h2:cA l=0) (h3:¬ si l v):6=fo l v:=by rw [fo,if_neg h,if_pos h2,if_neg h3]
theorem QK {l:List Field} {v:Int} (h:¬ (aU v).length=0) (h2:cA l=0) (h3:si l v):0=fo l v:=by rw [fo,if_neg h,if_pos h2,if_pos h3]
theorem Ba {ss:List Spec} {m:Nat} {x:Field} {n:Int} {y:Spec} (h:AL ss x n m) (hy:ss[m]? = some y) (hn:y.num=x.num->HJ x y n=true):AL ss x n (m+1):=by
 intro j z hj hz
 by_cases hjm:j=m
 ·subst hjm; rw [hy] at hz; cases hz; exact hn
 ·exact h j z aQ hz
theorem Ax {l:List Field} {ss:List Spec} {k m:Nat} {x:Field} (h:nY l ss k) (hx:l[k]? = some x) {n:Int} (hi:AL ss x n m) (hm:ss.length<=m) (e:n=((fl (l.take (k+1)) x.num:Nat):Int)):nY l ss (k+1):=by
 subst e
 intro j z hj hz s hs hn
 by_cases hjk:j=k
 ·subst hjk; rw [hx] at hz; cases hz
  obtain ⟨p,hp,rfl⟩:=List.getElem_of_mem hs
  exact hi p _ aQ (List.getElem?_eq_getElem hp) hn
 ·exact h j z aQ hz s hs hn
theorem Df {l:List Field} {ss:List Spec} {m:Nat} {y:Spec} (h:yW l ss m) (hy:ss[m]? = some y) (hn:y.need=true->¬ fl l y.num=0):yW l ss (m+1):=by
 intro j z hj hz
 by_cases hjm:j=m
 ·subst hjm; rw [hy] at hz; cases hz; exact hn
 ·exact h j z aQ hz
theorem Fz {l:List Field} {v:Int} {k m:Nat} {x:Field} {y:Spec} (hx:l[k]? = some x) (hy:(aU v)[m]? = some y) {n:Int} (hn:y.num=x.num/\HJ x y n=false) (e:n=((fl (l.take (k+1)) x.num:Nat):Int)):¬ si l v:=by
 intro h
 have:=h.1 k x (uZ hx) hx y (List.mem_of_getElem? hy) hn.1
 rw [<- e,hn.2] at this; cases this
theorem Gs {l:List Field} {v:Int} {m:Nat} {y:Spec} {n:Nat} (hy:(aU v)[m]? = some y) (hn:y.need=true/\((n:Nat):Int)=0) (e:n=fl l y.num):¬ si l v:=
 fun h=>h.2 m y (uZ hy) hy hn.1 (by omega)
theorem HG {l:List Field} {v:Int} {k m:Nat} (h1:nY l (aU v) k) (hk:l.length<=k) (h2:yW l (aU v) m) (hm:(aU v).length<=m):si l v:=
 ⟨fun j x hj=>h1 j x (by omega),fun j y hj=>h2 j y (by omega)⟩
theorem Hq {l:List Field} {v:Int} {k:Nat} {x:Field} (hx:l[k]? = some x) (h:x.num<=v):(l.take k).filter (fun f=>decide (f.num<=v))++[x]=(l.take (k+1)).filter (fun f=>decide (f.num<=v)):=by
 rw [ax hx,List.filter_append]; simp [h]
theorem Kl {l:List Field} {v:Int} {k:Nat} {x:Field} (hx:l[k]? = some x) (h:¬ x.num<=v):(l.take k).filter (fun f=>decide (f.num<=v))=(l.take (k+1)).filter (fun f=>decide (f.num<=v)):=by
 rw [ax hx,List.filter_append]; simp [h]
theorem HA {l:List Field} {v:Int} {k:Nat} {x:Field} (hx:l[k]? = some x) (h:¬ x.num<=v):(l.take k).filter (fun f=>!decide (f.num<=v))++[x]=(l.take (k+1)).filter (fun f=>!decide (f.num<=v)):=by
 rw [ax hx,List.filter_append]; simp [h]
theorem IZ {l:List Field} {v:Int} {k:Nat} {x:Field} (hx:l[k]? = some x) (h:x.num<=v):(l.take k).filter (fun f=>!decide (f.num<=v))=(l.take (k+1)).filter (fun f=>!decide (f.num<=v)):=by
 rw [ax hx,List.filter_append]; simp [h]
theorem Db (l:List Field) (p:Field->Bool):(l.filter p).length<=l.length:=List.length_filter_le _ _
def cS (l:List Field) (v:Int):List Field:=l.filter fun f=>decide (f.num<=v)
def dg (l:List Field) (v:Int):List Field:=l.filter fun f=>!decide (f.num<=v)
theorem EP (l:List Field) (v:Int):(cS l v).length<=l.length:=Db _ _
theorem w_ (l:List Field) (v:Int):(dg l v).length<=l.length:=Db _ _
theorem xq {l:List Field} {v:Int} {k:Nat} (hk:l.length<=k):(l.take k).filter (fun f=>decide (f.num<=v))=cS l v:=by rw [List.take_of_length_le hk]; rfl
theorem CF {l:List Field} {v:Int} {k:Nat} (hk:l.length<=k):(l.take k).filter (fun f=>!decide (f.num<=v))=dg l v:=by rw [List.take_of_length_le hk]; rfl
def yU (f:Field):Int:=IntKind.i64.wrap ((f.n.n:Nat):Int)
def dK (c:Command) (f:Field):Command:=
 if f.num=1 then ⟨yU f,c.client,c.seq,c.set,c.id,c.n,c.chunks,c.text⟩ else
 if f.num=2 then ⟨c.kind,yU f,c.seq,c.set,c.id,c.n,c.chunks,c.text⟩ else
 if f.num=3 then ⟨c.kind,c.client,yU f,c.set,c.id,c.n,c.chunks,c.text⟩ else
 if f.num=4 then ⟨c.kind,c.client,c.seq,yU f,c.id,c.n,c.chunks,c.text⟩ else
 if f.num=5 then ⟨c.kind,c.client,c.seq,c.set,yU f,c.n,c.chunks,c.text⟩ else
 if f.num=6 then ⟨c.kind,c.client,c.seq,c.set,c.id,yU f,c.chunks,c.text⟩ else
 if f.num=7 then ⟨c.kind,c.client,c.seq,c.set,c.id,c.n,iM f.b,c.text⟩ else
 if f.num=8 then ⟨c.kind,c.client,c.seq,c.set,c.id,c.n,c.chunks,⟨f.b⟩⟩ else c
def cj:Command:=⟨0,0,0,0,0,0,[],⟨[]⟩⟩
def cg (l:List Field):Command:=l.foldl dK cj
theorem cN {l:List Field} {k:Nat} {x:Field} (hx:l[k]? = some x):cg (l.take (k+1))=dK (cg (l.take k)) x:=by
 unfold cg; rw [ax hx,List.foldl_append]; rfl
theorem PV {c:Command} {f:Field} (h:f.num=1):(⟨yU f,c.client,c.seq,c.set,c.id,c.n,c.chunks,c.text⟩:Command)=dK c f:=by rw [dK,if_pos h]
theorem Rb {c:Command} {f:Field} (h:f.num=2):(⟨c.kind,yU f,c.seq,c.set,c.id,c.n,c.chunks,c.text⟩:Command)=dK c f:=by rw [dK,if_neg (by omega),if_pos h]
theorem QE {c:Command} {f:Field} (h:f.num=3):(⟨c.kind,c.client,yU f,c.set,c.id,c.n,c.chunks,c.text⟩:Command)=dK c f:=by rw [dK,if_neg (by omega),if_neg (by omega),if_pos h]
theorem PA {c:Command} {f:Field} (h:f.num=4):(⟨c.kind,c.client,c.seq,yU f,c.id,c.n,c.chunks,c.text⟩:Command)=dK c f:=by rw [dK,if_neg (by omega),if_neg (by omega),if_neg (by omega),if_pos h]
theorem Rz {c:Command} {f:Field} (h:f.num=5):(⟨c.kind,c.client,c.seq,c.set,yU f,c.n,c.chunks,c.text⟩:Command)=dK c f:=by rw [dK,if_neg (by omega),if_neg (by omega),if_neg (by omega),if_neg (by omega),if_pos h]
theorem Qz {c:Command} {f:Field} (h:f.num=6):(⟨c.kind,c.client,c.seq,c.set,c.id,yU f,c.chunks,c.text⟩:Command)=dK c f:=by rw [dK,if_neg (by omega),if_neg (by omega),if_neg (by omega),if_neg (by omega),if_neg (by omega),if_pos h]
theorem QG {c:Command} {f:Field} (h:f.num=7):(⟨c.kind,c.client,c.seq,c.set,c.id,c.n,iM f.b,c.text⟩:Command)=dK c f:=by rw [dK,if_neg (by omega),if_neg (by omega),if_neg (by omega),if_neg (by omega),if_neg (by omega),if_neg (by omega),if_pos h]
theorem QB {c:Command} {f:Field} (h:f.num=8):(⟨c.kind,c.client,c.seq,c.set,c.id,c.n,c.chunks,⟨f.b⟩⟩:Command)=dK c f:=by rw [dK,if_neg (by omega),if_neg (by omega),if_neg (by omega),if_neg (by omega),if_neg (by omega),if_neg (by omega),if_neg (by omega),if_pos h]
theorem Rk {c:Command} {f:Field} (h:¬ (1<=f.num/\f.num<=8)):c=dK c f:=by rw [dK,if_neg (by omega),if_neg (by omega),if_neg (by omega),if_neg (by omega),if_neg (by omega),if_neg (by omega),if_neg (by omega),if_neg (by omega)]
noncomputable def ji (b:List UInt8) (v:Int):Int:=if (bt b).2=0 then fo (bt b).1 v else (bt b).2
structure TkR where
 c:Command
 r:List Field
 e:Int
noncomputable def bR (b:List UInt8) (v:Int):TkR:=
 if 1<=v/\v<=3 then (if ji b v=0 then (if fq (cg (cS (bt b).1 (bZ v))) (dg (bt b).1 (bZ v)) v=0/\fO (cg (cS (bt b).1 (bZ v))) (dg (bt b).1 (bZ v)) v=b then ⟨cg (cS (bt b).1 (bZ v)),dg (bt b).1 (bZ v),0⟩ else ⟨cj,[],6⟩) else ⟨cj,[],ji b v⟩) else ⟨cj,[],1⟩
theorem Rw {b:List UInt8} {v:Int} (h:¬ (1<=v/\v<=3)):bR b v=⟨cj,[],1⟩:=by rw [bR,if_neg h]
theorem My {b:List UInt8} {v:Int} (h:1<=v/\v<=3) (h2:¬ ji b v=0):bR b v=⟨cj,[],ji b v⟩:=by rw [bR,if_pos h,if_neg h2]
theorem PM {b:List UInt8} {v:Int} (h:1<=v/\v<=3) (h2:ji b v=0) (h3:¬ fq (cg (cS (bt b).1 (bZ v))) (dg (bt b).1 (bZ v)) v=0\/¬ fO (cg (cS (bt b).1 (bZ v))) (dg (bt b).1 (bZ v)) v=b):bR b v=⟨cj,[],6⟩:=by
 rw [bR,if_pos h,if_pos h2,if_neg (fun h=>h3.elim (fun h4=>h4 h.1) (fun h4=>h4 h.2))]
theorem Pp {b:List UInt8} {v:Int} (h:1<=v/\v<=3) (h2:ji b v=0) (h3:fq (cg (cS (bt b).1 (bZ v))) (dg (bt b).1 (bZ v)) v=0/\fO (cg (cS (bt b).1 (bZ v))) (dg (bt b).1 (bZ v)) v=b):bR b v=⟨cg (cS (bt b).1 (bZ v)),dg (bt b).1 (bZ v),0⟩:=by
 rw [bR,if_pos h,if_pos h2,if_pos h3]
theorem Hz {b:List UInt8} {v:Int} (h:ji b v=0):(bt b).2=0/\cA (bt b).1=0:=by
 unfold ji at h
 split at h
 ·rename_i h1
  refine ⟨h1,?_⟩
  unfold fo at h
  split at h
  ·cases h
  ·split at h
   ·assumption
   ·exact h
 ·rename_i h1; exact absurd h h1
theorem Ko {b:List UInt8} {v:Int} {u:Int} (h:ji b v=0):∀ f ∈ cS (bt b).1 u,f.b.length<=16384:=
 fun _ hf=>p_ (Hz h).2 (List.mem_filter.1 hf).1
structure PutOk (c:Command) (v:Int):Prop where
 vr:1<=v/\v<=3
 nn:0<=c.kind/\0<=c.client/\0<=c.seq/\0<=c.set/\0<=c.id/\0<=c.n
 kind:¬ c.kind=0
 row:c.chunks.length=0\/rowF c.chunks=true
 text:v<3->c.text=⟨[]⟩
theorem OT {b:List UInt8} {k:Nat} {x:UInt8} (hx:b[k]? = some x):b.getD k (dflt .u8)=x:=by rw [List.getD_eq_getElem?_getD,hx]; rfl
theorem Ti {b:List UInt8} {k n:Nat} (h:aA b=bK k n (b.drop k)) (hk:(k:Int)<10) (hb:(k:Int)=(b.length:Int)):aA b=(0,0,2):=h.trans (Mg (by omega) (by omega))
theorem SQ {b:List UInt8} {k n:Nat} (h:aA b=bK k n (b.drop k)) (hk:10<=(k:Int)):aA b=(0,0,3):=h.trans (JY (by omega))
theorem RZ {b:List UInt8} {k:Nat} (h1:k<=b.length) (h2:¬ (k:Int)=(b.length:Int)):∃ x,b[k]? = some x:=⟨_,List.getElem?_eq_getElem (by omega)⟩
theorem SO {b:List UInt8} {k n:Nat} (h:aA b=bK k n (b.drop k)) (hk:(k:Int)<10) (hl:k<=b.length) (hb:¬ (k:Int)=(b.length:Int)) (h0:0<(k:Int)) (h1:((b.getD k (dflt .u8)).toNat:Int)=((UInt8.ofNat 0).toNat:Int)):aA b=(0,0,3):=by
 obtain ⟨x,hx⟩:=RZ hl hb
 rw [OT hx,show (UInt8.ofNat 0).toNat=0 from rfl] at h1
 exact CY h aQ hx (.inl ⟨by omega,by omega⟩)
theorem Te {b:List UInt8} {k n:Nat} (h:aA b=bK k n (b.drop k)) (_hk:(k:Int)<10) (hl:k<=b.length) (hb:¬ (k:Int)=(b.length:Int)) (h0:(k:Int)=9) (h1:((UInt8.ofNat 1).toNat:Int)<((b.getD k (dflt .u8)).toNat:Int)):aA b=(0,0,3):=by
 obtain ⟨x,hx⟩:=RZ hl hb
 rw [OT hx,show (UInt8.ofNat 1).toNat=1 from rfl] at h1
 exact CY h aQ hx (.inr ⟨by omega,by omega⟩)
def JN (n k:Nat) (x:UInt8):Nat:=n ||| (x &&& UInt8.ofNat 127).toNat*2 ^ (7*(k:Int)).toNat % 18446744073709551616
theorem Sj {k n:Nat} {x:UInt8} (hn:n<2 ^ (7*k)) (hk:k<=9) (h9:k=9->x.toNat<=1):JN n k x=n+(x &&& 127).toNat*2 ^ (7*k):=by
 unfold JN
 rw [show (UInt8.ofNat 127)=127 from rfl,show (7*(k:Int)).toNat=7*k by omega,Nat.mod_eq_of_lt (Kj hk h9)]
 exact Lm hn
theorem RW {b:List UInt8} {k:Nat} {x:UInt8} (hx:b[k]? = some x) (h1:(k:Int)<=0\/¬ ((b.getD k (dflt .u8)).toNat:Int)=((UInt8.ofNat 0).toNat:Int)) (h2:¬ (k:Int)=9\/((b.getD k (dflt .u8)).toNat:Int)<=((UInt8.ofNat 1).toNat:Int)):(¬ (0<k/\x.toNat=0))/\¬ (k=9/\1<x.toNat):=by
 rw [OT hx,show (UInt8.ofNat 0).toNat=0 from rfl] at h1
 rw [OT hx,show (UInt8.ofNat 1).toNat=1 from rfl] at h2
 omega
theorem QQ {b:List UInt8} {k n:Nat} {x y:UInt8} (h:aA b=bK k n (b.drop k)) (hn:n<2 ^ (7*k)) (hk:(k:Int)<10) (hx:b[k]? = some x) (hy:b[k]? = some y) (h1:(k:Int)<=0\/¬ ((b.getD k (dflt .u8)).toNat:Int)=((UInt8.ofNat 0).toNat:Int)) (h2:¬ (k:Int)=9\/((b.getD k (dflt .u8)).toNat:Int)<=((UInt8.ofNat 1).toNat:Int)) (h3:(y.toNat:Int)<((UInt8.ofNat 128).toNat:Int)):aA b=(JN n k x,k+1,0):=by
 have hz:=RW hx h1 h2
 rw [show (UInt8.ofNat 128).toNat=128 from rfl] at h3
 rw [hx] at hy; cases hy
 rw [Sj hn (by omega) (by omega)]
 exact EV h aQ hx hz.1 hz.2 aQ
theorem Rr {b:List UInt8} {k n:Nat} {x y:UInt8} (h:aA b=bK k n (b.drop k)) (hn:n<2 ^ (7*k)) (hn2:n<18446744073709551616) (hk:(k:Int)<10) (hx:b[k]? = some x) (hy:b[k]? = some y) (h1:(k:Int)<=0\/¬ ((b.getD k (dflt .u8)).toNat:Int)=((UInt8.ofNat 0).toNat:Int)) (h2:¬ (k:Int)=9\/((b.getD k (dflt .u8)).toNat:Int)<=((UInt8.ofNat 1).toNat:Int)) (h3:((UInt8.ofNat 128).toNat:Int)<=(y.toNat:Int)):JN n k x<2 ^ (7*(k+1))/\JN n k x<18446744073709551616/\aA b=bK (k+1) (JN n k x) (b.drop (k+1)):=by
 have hz:=RW hx h1 h2
 rw [show (UInt8.ofNat 128).toNat=128 from rfl] at h3
 rw [hx] at hy; cases hy
 have e:=Sj hn (show k<=9 by omega) (show k=9->x.toNat<=1 by omega)
 refine ⟨by rw [e]; exact FT hn,?_,by rw [e]; exact EU h (by omega) hx hz.1 hz.2 (by omega)⟩
 unfold JN
 exact Nat.or_lt_two_pow (n:=64) hn2 (Nat.mod_lt _ (by decide))
theorem Nx {c:Command} {v:Int} {k:Nat} {x:Int} (hx:[c.client,c.seq,c.set,c.id,c.n][k]? = some x) (h:x<0\/1048576<x):false=eE c v:=by
 refine EM ?_
 match k,hx with
 | 0,hx=>cases hx; exact .inl h
 | 1,hx=>cases hx; exact .inr (.inl h)
 | 2,hx=>cases hx; exact .inr (.inr (.inl h))
 | 3,hx=>cases hx; exact .inr (.inr (.inr (.inl h)))
 | 4,hx=>cases hx; exact .inr (.inr (.inr (.inr h)))
theorem Oh {c:Command} {k:Nat} (h:(k:Int)<5):[c.client,c.seq,c.set,c.id,c.n][k]? = some ([c.client,c.seq,c.set,c.id,c.n].getD k (dflt .int)):=by
 rw [List.getD_eq_getElem?_getD,List.getElem?_eq_getElem (by simp only [List.length_cons,List.length_nil]; omega)]; rfl
theorem OI {n:Int} {p:Prop} (h:n<=0\/p):(¬ 0<n)\/p:=h.imp_left (by omega)
theorem RM {l:List Int} {k:Nat} {x:Int} (h:((l.take k).all fun n=>cE n 0 1048576)=true) (hx:l[k]? = some x) (h0:0<=x) (h1:x<=1048576):((l.take (k+1)).all fun n=>cE n 0 1048576)=true:=by
 rw [ax hx,List.all_append,h]; simp [cE]; omega
theorem NH {c:Command} {k:Nat} (h:(([c.client,c.seq,c.set,c.id,c.n].take k).all fun n=>cE n 0 1048576)=true) (hk:5<=(k:Int)):¬ ((c.client<0\/1048576<c.client)\/(c.seq<0\/1048576<c.seq)\/(c.set<0\/1048576<c.set)\/(c.id<0\/1048576<c.id)\/(c.n<0\/1048576<c.n)):=by
 rw [List.take_of_length_le (by simp only [List.length_cons,List.length_nil]; omega)] at h
 simp only [List.all_cons,List.all_nil,cE,Bool.and_eq_true,decide_eq_true_eq] at h
 omega
def As (b:List UInt8):List (Nat × LI):=[(3,{ σ:=Nat × Nat,F:=fun s=>([(0,one (.fz .u8 (b))),(5,one (.u64 s.2)),(6,one (.int 0)),(7,one (.int 3)),(9,one (.int s.1))],[]),J:=fun s=>s.1<=10/\s.2<2 ^ (7*s.1)/\s.2<18446744073709551616/\aA b=bK s.1 s.2 (b.drop s.1)/\s.1<=b.length,μ:=fun s=>10 - s.1 })]
def oN (c:Command) (v:Int):List (Nat × LI):=[(5,{ σ:=Nat,F:=fun k=>([(1,one (.int (v))),(2,one (.ptr 0 0)),(38,.one (.agg [.int c.client,.int c.seq,.int c.set,.int c.id,.int c.n])),(39,one (.int k))],[.box 24 (cellsOf (.nm .command) ((c)))]),J:=fun k=>k<=5/\([c.client,c.seq,c.set,c.id,c.n].take k).all (fun n=>cE n 0 1048576)=true,μ:=fun k=>5 - k })]
theorem Gf (b:List UInt8) (r0:U64) (r1:Int) (r2:Int):cw tyT fx (As b) Tryz.f126 [.c (.fz .u8 (b))] [] [.c (.u64 (r0).n),.c (.int (r1)),.c (.int (r2))]=((fun (q11:UInt8)=>(fun (q10:Nat)=>(fun (q9:Nat)=>(fun (q8:Nat)=>(fun (q7:Int)=>(fun (q6:Int)=>(fun (q5:Int)=>(fun (q4:Int)=>(fun (q3:Int)=>(fun (q2:Prop)=>(fun (q1:Int)=>(fun (q0:Int)=>b.length*(1:Nat)<=(140737488355328:Nat)->∃ (s0:Nat × Nat),(fun (q15:Prop)=>(fun (q14:Prop)=>(fun (q13:Prop)=>(fun (q12:Prop)=>(b=b/\(0:Nat)=s0.snd/\q14/\q1=q1/\q0=(↑s0.fst:Int))/\(s0.fst<=q9/\s0.snd<q8 ^ ((7:Nat)*s0.fst)/\s0.snd<q10/\aA b=bK s0.fst s0.snd (List.drop s0.fst b)/\s0.fst<=b.length)/\∀ (s:Nat × Nat),(fun (q20:Nat)=>(fun (q19:Int)=>(fun (q18:Prop)=>(fun (q17:Int)=>(fun (q16:Prop)=>q20<=q9/\s.snd<q8 ^ ((7:Nat)*q20)/\s.snd<q10/\aA b=bK q20 s.snd (List.drop q20 b)/\q20<=b.length->(q17<(10:Int)->(q17=q3->(¬(2:Int)=q0->q2/\q0=r1/\(2:Int)=r2)/\((2:Int)=q0->s.snd=r0.n/\q12))/\(¬q17=q3->(q0<q17->q0<=q17/\q17<q3)/\(q0<q17/\q19=q4->(q0<q17/\q19=q4->q18)/\(q17<=q0\/¬q19=q4->q16))/\(q17<=q0\/¬q19=q4->(q17=(9:Int)->q0<=q17/\q17<q3)/\(q17=(9:Int)/\(↑(UInt8.ofNat (1:Nat)).toNat:Int)<q19->q18)/\(¬q17=(9:Int)\/q19<=(↑(UInt8.ofNat (1:Nat)).toNat:Int)->q16))))/\((10:Int)<=q17->q18)) (q0<=q17/\q17<q3/\∀ (x:UInt8),b[q20]? = some x->I64 (q6*q17)/\q0<=q6*q17/\q6*q17<(64:Int)/\q0<=q17/\q17<q3/\∀ (x_1:UInt8),b[q20]? = some x_1->((↑x_1.toNat:Int)<q5->I64 (q17+q7)/\(¬q14->q2/\q12)/\(q14->s.snd ||| (x &&& q11).toNat*q8 ^ (q6*q17).toNat % q10=r0.n/\q17+q7=r1/\q0=r2))/\(q5<=(↑x_1.toNat:Int)->I64 (q17+q7)/\∃ (s':Nat × Nat),(b=b/\s.snd ||| (x &&& q11).toNat*q8 ^ (q6*q17).toNat % q10=s'.snd/\q14/\q1=q1/\q17+q7=(↑s'.fst:Int))/\(s'.fst<=q9/\s'.snd<q8 ^ ((7:Nat)*s'.fst)/\s'.snd<q10/\aA b=bK s'.fst s'.snd (List.drop s'.fst b)/\s'.fst<=b.length)/\q9 - s'.fst<q9 - q20))) (↑q20:Int)) ((¬q15->q13)/\(q15->s.snd=r0.n/\q12))) (↑(UInt8.toNat (b.getD q20 (dflt Sh.u8))):Int)) s.fst) (q0=r1/\q0=r2)) (q2/\q0=r1/\q1=r2)) (q0=q0)) (q1=q0)) (0:Int)) (3:Int)) ((0:Nat)=r0.n)) (↑b.length:Int)) (↑(UInt8.ofNat (0:Nat)).toNat:Int)) (↑(UInt8.ofNat (128:Nat)).toNat:Int)) (7:Int)) (1:Int)) (2:Nat)) (10:Nat)) (18446744073709551616:Nat)) (UInt8.ofNat (127:Nat))):=by kernel_rfl
theorem EG (b:List UInt8):Sat Tryz.prog (ai tyT) 126 [.c (.fz .u8 (b))] [] ⟨[],[.c (.u64 ((U64.mk (aA b).1)).n),.c (.int ((((aA b).2.1:Nat)))),.c (.int (((aA b).2.2)))],none,false⟩:=by
 refine aM cH (As b) Tryz.func126 (by decide) (by kernel_rfl) ?_
 rw [Gf]
 (repeat' (first | with_reducible apply bP | with_reducible refine bQ ?_ | intro))
 all_goals try (first | exact cn | decide)
 all_goals (refine ⟨(0,0),⟨rfl,rfl,?_,?_,?_⟩,⟨by omega,by decide,by decide,rfl,by omega⟩,?_⟩)
 all_goals try (first | trivial | rfl)
 (repeat' (first | with_reducible apply bP | with_reducible refine bQ ?_ | intro))
 all_goals try (first | exact cn | (rw [Ti aq aq aq] <;> rfl) | (rw [SQ aq aq] <;> rfl) | (rw [SO aq aq aq aq aq aq] <;> rfl) | (rw [Te aq aq aq aq aq aq] <;> rfl) | exact (congrArg Prod.fst (QQ aq aq aq aq aq aq aq aq)).symm | exact (congrArg (fun t=>((t.2.1:Nat):Int)) (QQ aq aq aq aq aq aq aq aq)).symm | exact (congrArg (fun t=>t.2.2) (QQ aq aq aq aq aq aq aq aq)).symm)
 all_goals (refine ⟨(‹Nat × Nat›.1+1,_),⟨rfl,rfl,?_⟩,?_⟩; (repeat' (first | with_reducible apply bP | with_reducible refine bQ ?_ | intro)))
 all_goals (first | exact cn | exact (Rr aq aq aq aq aq aq aq aq aq).1 | exact (Rr aq aq aq aq aq aq aq aq aq).2.1 | exact (Rr aq aq aq aq aq aq aq aq aq).2.2)
theorem Dr (x:Field) (y:Field) (r0:Bool):cw tyT fx [] Tryz.f92 [.agg (cellsOf (.nm .field) x),.agg (cellsOf (.nm .field) y)] [] [.c (.bool (.atom (r0)))]=(I64 x.num->I64 x.wire->x.n.n<(18446744073709551616:Nat)->x.b.length*(1:Nat)<=(140737488355328:Nat)->I64 y.num->I64 y.wire->y.n.n<(18446744073709551616:Nat)->y.b.length*(1:Nat)<=(140737488355328:Nat)->(y.num=x.num->(decide (y.wire=(2:Int)) && decide (x.wire=(2:Int)))=r0)/\(¬y.num=x.num->decide (x.num<y.num)=r0)):=by kernel_rfl
theorem CI (x:Field) (y:Field):Sat Tryz.prog (ai tyT) 92 [.agg (cellsOf (.nm .field) x),.agg (cellsOf (.nm .field) y)] [] ⟨[],[.c (.bool (.atom ((ey x y))))],none,false⟩:=by
 refine aM cH [] Tryz.func92 (by decide) (by kernel_rfl) ?_
 rw [Dr]
 grind [ey]
theorem Dc (x:Field) (r0:Bool):cw tyT fx [] Tryz.f118 [.agg (cellsOf (.nm .field) x)] [] [.c (.bool (.atom (r0)))]=(I64 x.num->I64 x.wire->x.n.n<(18446744073709551616:Nat)->x.b.length*(1:Nat)<=(140737488355328:Nat)->(x.num<(1:Int)\/(1000:Int)<x.num->false=r0)/\((1:Int)<=x.num/\x.num<=(1000:Int)->(x.wire=(0:Int)->decide ((↑x.b.length:Int)=(0:Int))=r0)/\(¬x.wire=(0:Int)->(x.wire=(2:Int)->decide ((↑x.n.n:Int)=(↑(0:Nat):Int))=r0)/\(¬x.wire=(2:Int)->false=r0)))):=by kernel_rfl
theorem Ab (x:Field):Sat Tryz.prog (ai tyT) 118 [.agg (cellsOf (.nm .field) x)] [] ⟨[],[.c (.bool (.atom ((dU x))))],none,false⟩:=by
 refine aM cH [] Tryz.func118 (by decide) (by kernel_rfl) ?_
 rw [Dc]
 grind [dU,AN,AP]
theorem De (x:List UInt8) (y:List UInt8) (r0:Bool):cw tyT fx [] Tryz.f55 [.c (.fz .u8 (x)),.c (.fz .u8 (y))] [] [.c (.bool (.atom (r0)))]=(x.length*(1:Nat)<=(140737488355328:Nat)->y.length*(1:Nat)<=(140737488355328:Nat)->decide (Str.mk x=Str.mk y)=r0):=by kernel_rfl
theorem BI (x:List UInt8) (y:List UInt8):Sat Tryz.prog (ai tyT) 55 [.c (.fz .u8 (x)),.c (.fz .u8 (y))] [] ⟨[],[.c (.bool (.atom ((decide (x=y)))))],none,false⟩:=by
 refine aM cH [] Tryz.func55 (by decide) (by kernel_rfl) ?_
 rw [De]
 grind
theorem CP (x:List UInt8) (r0:List UInt8):cw tyT fx [] Tryz.f96 [.c (.fz .u8 (x))] [] [.c (.fz .u8 (r0))]=((fun (q0:Prop)=>q0->∀ (b:Bool),(b=true->x=[])->(b=true->r0=[])/\(b=false->q0/\x=r0)) (x.length*(1:Nat)<=(140737488355328:Nat))):=by kernel_rfl
theorem BA (x:List UInt8):Sat Tryz.prog (ai tyT) 96 [.c (.fz .u8 (x))] [] ⟨[],[.c (.fz .u8 ((x)))],none,false⟩:=by
 refine aM cH [] Tryz.func96 (by decide) (by kernel_rfl) ?_
 rw [CP]
 grind
theorem NX (k:Int) (l:Int) (r0:Spec):cw tyT fx [] Tryz.f162 [.c (.int (k)),.c (.int (l))] [] [.agg (cellsOf (.nm .spec) r0)]=(I64 k->I64 l->k=r0.num/\(0:Int)=r0.wire/\l=r0.since/\false=r0.need/\false=r0.many):=by kernel_rfl
theorem NW (k:Int) (l:Int):Sat Tryz.prog (ai tyT) 162 [.c (.int (k)),.c (.int (l))] [] ⟨[],[.agg (cellsOf (.nm .spec) (⟨k,0,l,false,false⟩))],none,false⟩:=by
 refine aM cH [] Tryz.func162 (by decide) (by kernel_rfl) ?_
 rw [NX]
 grind
theorem MI (k:Int) (l:Int) (r0:Spec):cw tyT fx [] Tryz.f163 [.c (.int (k)),.c (.int (l))] [] [.agg (cellsOf (.nm .spec) r0)]=(I64 k->I64 l->k=r0.num/\(2:Int)=r0.wire/\l=r0.since/\false=r0.need/\false=r0.many):=by kernel_rfl
theorem Nq (k:Int) (l:Int):Sat Tryz.prog (ai tyT) 163 [.c (.int (k)),.c (.int (l))] [] ⟨[],[.agg (cellsOf (.nm .spec) (⟨k,2,l,false,false⟩))],none,false⟩:=by
 refine aM cH [] Tryz.func163 (by decide) (by kernel_rfl) ?_
 rw [MI]
 grind
theorem NL (x:Spec) (r0:Spec):cw tyT fx [] Tryz.f164 [.agg (cellsOf (.nm .spec) x)] [] [.agg (cellsOf (.nm .spec) r0)]=(I64 x.num->I64 x.wire->I64 x.since->x.num=r0.num/\x.wire=r0.wire/\x.since=r0.since/\true=r0.need/\x.many=r0.many):=by kernel_rfl
theorem Ns (x:Spec):Sat Tryz.prog (ai tyT) 164 [.agg (cellsOf (.nm .spec) x)] [] ⟨[],[.agg (cellsOf (.nm .spec) ({ x with need:=true }))],none,false⟩:=by
 refine aM cH [] Tryz.func164 (by decide) (by kernel_rfl) ?_
 rw [NL]
 grind
theorem MQ (x:Spec) (r0:Spec):cw tyT fx [] Tryz.f165 [.agg (cellsOf (.nm .spec) x)] [] [.agg (cellsOf (.nm .spec) r0)]=(I64 x.num->I64 x.wire->I64 x.since->x.num=r0.num/\x.wire=r0.wire/\x.since=r0.since/\x.need=r0.need/\true=r0.many):=by kernel_rfl
theorem OJ (x:Spec):Sat Tryz.prog (ai tyT) 165 [.agg (cellsOf (.nm .spec) x)] [] ⟨[],[.agg (cellsOf (.nm .spec) ({ x with many:=true }))],none,false⟩:=by
 refine aM cH [] Tryz.func165 (by decide) (by kernel_rfl) ?_
 rw [MQ]
 grind
theorem Lc (x:Field) (s:Spec) (n:Int) (r0:Bool):cw tyT fx [] Tryz.f95 [.agg (cellsOf (.nm .field) x),.agg (cellsOf (.nm .spec) s),.c (.int (n))] [] [.c (.bool (.atom (r0)))]=(I64 x.num->I64 x.wire->x.n.n<(18446744073709551616:Nat)->x.b.length*(1:Nat)<=(140737488355328:Nat)->I64 s.num->I64 s.wire->I64 s.since->I64 n->(¬x.wire=s.wire\/(1:Int)<n/\s.many=false->false=r0)/\(x.wire=s.wire/\(n<=(1:Int)\/s.many=true)->(x.wire=(0:Int)->(!decide ((↑x.n.n:Int)=(↑(0:Nat):Int)))=r0)/\(¬x.wire=(0:Int)->decide ((0:Int)<(↑x.b.length:Int))=r0))):=by kernel_rfl
theorem Kd (x:Field) (s:Spec) (n:Int):Sat Tryz.prog (ai tyT) 95 [.agg (cellsOf (.nm .field) x),.agg (cellsOf (.nm .spec) s),.c (.int (n))] [] ⟨[],[.c (.bool (.atom ((HJ x s n))))],none,false⟩:=by
 refine aM cH [] Tryz.func95 (by decide) (by kernel_rfl) ?_
 rw [Lc]
 grind [HJ]
theorem Jq (num:Int) (wire:Int) (r0:Int) (r1:List UInt8):n_ tyT fx [] Tryz.f119 [.c (.int (num)),.c (.int (wire))] [] [.c (.own 0),.c (.int (r0))] [.row 5 .u8 (r1)]=((fun (q0:Int)=>I64 num->I64 wire->((num<(1:Int)\/(1000:Int)<num)\/¬wire=(0:Int)/\¬wire=(2:Int)->(1:Int)=r0/\r1=[])/\(((1:Int)<=num/\num<=(1000:Int))/\(wire=(0:Int)\/wire=(2:Int))->I64 ((8:Int)*num)/\I64 q0/\(0:Int)<=q0/\(0:Int)=r0/\fj q0.toNat=r1)) ((8:Int)*num+wire)):=by kernel_rfl
theorem KP (num:Int) (wire:Int):Sat Tryz.prog (ai tyT) 119 [.c (.int (num)),.c (.int (wire))] [] ⟨[],[.c (.own 0),.c (.int ((tX num wire)))],some ([.row 5 .u8 ((kR num wire))]),true⟩:=by
 refine dO cH [] Tryz.func119 (by decide) (by kernel_rfl) ?_
 rw [Jq]
 (repeat' (first | with_reducible apply bP | with_reducible refine bQ ?_ | intro))
 all_goals (first | exact cn | exact (Hr aQ) | exact (Cd aQ) | exact (vR aQ).symm | exact (vR aQ) | exact (Cy aQ))
theorem uV (c:Command) (v:Int) (r0:Bool):cw tyT fx (oN c v) Tryz.f41 [.agg (cellsOf (.nm .command) c),.c (.int (v))] [] [.c (.bool (.atom (r0)))]=((fun (q7:List Int)=>(fun (q6:Nat)=>(fun (q5:Int)=>(fun (q4:Int)=>(fun (q3:Int)=>(fun (q2:List Int)=>(fun (q1:Prop)=>(fun (q0:List (den Sh.int))=>I64 q5->I64 q4->I64 c.seq->I64 c.set->I64 c.id->I64 c.n->q7.length*(8:Nat)<=(140737488355328:Nat)->c.text.b.length<=(140737488355328:Nat)->I64 v->I64 (bD q5)->((q5<(1:Int)\/(99:Int)<q5)\/¬bD q5=q3/\bD q5<=v->false=r0)/\(((1:Int)<=q5/\q5<=(99:Int))/\(bD q5=q3\/v<bD q5)->∃ (s0:Nat),(v=v/\q4=q4/\c.seq=c.seq/\c.set=c.set/\c.id=c.id/\c.n=c.n/\q3=(↑s0:Int)/\q1)/\(s0<=q6/\((List.take s0 q2).all fun (n:Int)=>cE n q3 (1048576:Int))=true)/\∀ (s:Nat),(fun (q8:den Sh.int)=>s<=q6/\((List.take s q2).all fun (n:Int)=>cE n q3 (1048576:Int))=true->((↑s:Int)<(5:Int)->q3<=(↑s:Int)/\(↑s:Int)<(↑q6:Int)/\(I64 q8->(q8<q3\/(1048576:Int)<q8->false=r0)/\(q3<=q8/\q8<=(1048576:Int)->I64 ((↑s:Int)+(1:Int))/\∃ (s':Nat),(v=v/\q4=q4/\c.seq=c.seq/\c.set=c.set/\c.id=c.id/\c.n=c.n/\(↑s:Int)+(1:Int)=(↑s':Int)/\q1)/\(s' <= q6/\((List.take s' q2).all fun (n:Int)=>cE n q3 (1048576:Int))=true)/\q6 - s' < q6 - s)))/\((5:Int)<=(↑s:Int)->(q3<(↑q7.length:Int)/\rowF q7=false->false=r0)/\((↑q7.length:Int)<=q3\/rowF q7=true->(v<(3:Int)->decide (c.text=Str.mk [])=r0)/\((3:Int)<=v->decide ((↑c.text.b.length:Int)<=(16:Int))=r0)))) (q0.getD s (dflt Sh.int)))) [q4,c.seq,c.set,c.id,c.n]) (q5=q5/\q4=q4/\c.seq=c.seq/\c.set=c.set/\c.id=c.id/\c.n=c.n/\q7=q7/\c.text=c.text)) [q4,c.seq,c.set,c.id,c.n]) (0:Int)) c.client) c.kind) (5:Nat)) c.chunks):=by kernel_rfl
theorem ua (c:Command) (v:Int):Sat Tryz.prog (ai tyT) 41 [.agg (cellsOf (.nm .command) c),.c (.int (v))] [] ⟨[],[.c (.bool (.atom ((eE c v))))],none,false⟩:=by
 refine aM cH (oN c v) Tryz.func41 (by decide) (by kernel_rfl) ?_
 rw [uV]
 iterate 3 ((all_goals (repeat' (first | with_reducible apply bP | with_reducible refine bQ ?_ | intro))); (all_goals try (first | exact cn | exact rfl | exact (DH aQ) | exact (Nx (Oh aQ) aq) | exact (RM aq (Oh aQ) aq aq) | exact (ED (And.intro aq aq)) | exact (Lh aQ (NH aq aQ) (OI (by assumption)) aQ) | exact (Ly aQ (NH aq aQ) (OI (by assumption)) aQ))); all_goals try first | refine ⟨‹Nat› + 1,?_⟩ | refine ⟨0,?_⟩)
def yR:cd:=(bq 41 (bm (ah (kT (.nm .command)) (ah (kC cI) aK)) aJ fun (c,v,_) (_)=>⟨[],[.c (.bool (.atom ((eE c v))))],none,false⟩) (bq 119 (bm (ah (kC cI) (ah (kC cI) aK)) aJ fun (num,wire,_) (_)=>⟨[],[.c (.own 0),.c (.int ((tX num wire)))],some ([.row 5 .u8 ((kR num wire))]),true⟩) (bq 95 (bm (ah (kT (.nm .field)) (ah (kT (.nm .spec)) (ah (kC cI) aK))) aJ fun (x,s,n,_) (_)=>⟨[],[.c (.bool (.atom ((HJ x s n))))],none,false⟩) (bq 165 (bm (ah (kT (.nm .spec)) aK) aJ fun (x,_) (_)=>⟨[],[.agg (cellsOf (.nm .spec) ({ x with many:=true }))],none,false⟩) (bq 164 (bm (ah (kT (.nm .spec)) aK) aJ fun (x,_) (_)=>⟨[],[.agg (cellsOf (.nm .spec) ({ x with need:=true }))],none,false⟩) (bq 163 (bm (ah (kC cI) (ah (kC cI) aK)) aJ fun (k,l,_) (_)=>⟨[],[.agg (cellsOf (.nm .spec) (⟨k,2,l,false,false⟩))],none,false⟩) (bq 162 (bm (ah (kC cI) (ah (kC cI) aK)) aJ fun (k,l,_) (_)=>⟨[],[.agg (cellsOf (.nm .spec) (⟨k,0,l,false,false⟩))],none,false⟩) (bq 96 (bm (ah (kC (cL .u8)) aK) aJ fun (x,_) (_)=>⟨[],[.c (.fz .u8 ((x)))],none,false⟩) (bq 55 (bm (ah (kC (cL .u8)) (ah (kC (cL .u8)) aK)) aJ fun (x,y,_) (_)=>⟨[],[.c (.bool (.atom ((decide (x=y)))))],none,false⟩) (bq 118 (bm (ah (kT (.nm .field)) aK) aJ fun (x,_) (_)=>⟨[],[.c (.bool (.atom ((dU x))))],none,false⟩) (bq 92 (bm (ah (kT (.nm .field)) (ah (kT (.nm .field)) aK)) aJ fun (x,y,_) (_)=>⟨[],[.c (.bool (.atom ((ey x y))))],none,false⟩) (bq 126 (bm (ah (kC (cL .u8)) aK) aJ fun (b,_) (_)=>⟨[],[.c (.u64 ((U64.mk (aA b).1)).n),.c (.int ((((aA b).2.1:Nat)))),.c (.int (((aA b).2.2)))],none,false⟩) fx))))))))))))
theorem jM:aN Tryz.prog (ai tyT) yR:=(av (au (ab bl (ab (al aw) ak)) aj fun (c,v,_) (_) _=>ua c v ) (av (au (ab (al aw) (ab (al aw) ak)) aj fun (num,wire,_) (_) _=>KP num wire ) (av (au (ab bl (ab bl (ab (al aw) ak))) aj fun (x,s,n,_) (_) _=>Kd x s n ) (av (au (ab bl ak) aj fun (x,_) (_) _=>OJ x ) (av (au (ab bl ak) aj fun (x,_) (_) _=>Ns x ) (av (au (ab (al aw) (ab (al aw) ak)) aj fun (k,l,_) (_) _=>Nq k l ) (av (au (ab (al aw) (ab (al aw) ak)) aj fun (k,l,_) (_) _=>NW k l ) (av (au (ab (al bb) ak) aj fun (x,_) (_) _=>BA x ) (av (au (ab (al bb) (ab (al bb) ak)) aj fun (x,y,_) (_) _=>BI x y ) (av (au (ab bl ak) aj fun (x,_) (_) _=>Ab x ) (av (au (ab bl (ab bl ak)) aj fun (x,y,_) (_) _=>CI x y ) (av (au (ab (al bb) ak) aj fun (b,_) (_) _=>EG b ) cH))))))))))))
end Go.Proofs.YtladifkbefehdaaGreat
