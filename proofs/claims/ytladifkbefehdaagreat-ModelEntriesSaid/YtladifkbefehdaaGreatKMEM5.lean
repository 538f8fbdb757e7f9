/- What leads to the law, part 5. Conditions: each lemma's own. -/
import Derived.Test.YtladifkbefehdaaGreatKMEM4
set_option linter.unusedVariables false
set_option linter.unusedSimpArgs false
namespace Go.Proofs.YtladifkbefehdaaGreat
open Go.RowKit
theorem uM (l:List Snap) (r0:Int):cA aF yE [] Tryz.f150 [.c (.fz (.nm .snap) (l))] [] [.c (.int (r0))]=((fun (q1:den Sh.int)=>(fun (q0:List Int)=>l.length*(64:Nat)<=(140737488355328:Nat)->nch l<=(1048576:Nat)/\(I64 (q0.getD (0:Nat) q1)->I64 (q0.getD (1:Nat) q1)->I64 (q0.getD (2:Nat) q1)->I64 (q0.getD (3:Nat) q1)->I64 (q0.getD (4:Nat) q1)->I64 (q0.getD (5:Nat) q1)->I64 (q0.getD (6:Nat) q1)->I64 (q0.getD (7:Nat) q1)->I64 (q0.getD (8:Nat) q1)->I64 (q0.getD (9:Nat) q1)->I64 (q0.getD (10:Nat) q1)->I64 (q0.getD (11:Nat) q1)->I64 (q0.getD (12:Nat) q1)->I64 (q0.getD (13:Nat) q1)->I64 (q0.getD (14:Nat) q1)->I64 (q0.getD (15:Nat) q1)->I64 (q0.getD (16:Nat) q1)->I64 (q0.getD (17:Nat) q1)->I64 (q0.getD (18:Nat) q1)->I64 (q0.getD (19:Nat) q1)->I64 (q0.getD (20:Nat) q1)->I64 (q0.getD (21:Nat) q1)->I64 (q0.getD (22:Nat) q1)->I64 (q0.getD (23:Nat) q1)->I64 (q0.getD (24:Nat) q1)->I64 (q0.getD (25:Nat) q1)->I64 (q0.getD (26:Nat) q1)->I64 (q0.getD (27:Nat) q1)->I64 (q0.getD (28:Nat) q1)->I64 (q0.getD (29:Nat) q1)->I64 (q0.getD (30:Nat) q1)->I64 (q0.getD (31:Nat) q1)->I64 (q0.getD (32:Nat) q1)->I64 (q0.getD (33:Nat) q1)->I64 (q0.getD (34:Nat) q1)->I64 (q0.getD (35:Nat) q1)->I64 (q0.getD (36:Nat) q1)->I64 (q0.getD (37:Nat) q1)->I64 (q0.getD (38:Nat) q1)->I64 (q0.getD (39:Nat) q1)->I64 (q0.getD (40:Nat) q1)->I64 (q0.getD (41:Nat) q1)->I64 (q0.getD (42:Nat) q1)->I64 (q0.getD (43:Nat) q1)->I64 (q0.getD (44:Nat) q1)->I64 (q0.getD (45:Nat) q1)->I64 (q0.getD (46:Nat) q1)->I64 (q0.getD (47:Nat) q1)->I64 (q0.getD (48:Nat) q1)->I64 (q0.getD (49:Nat) q1)->I64 (q0.getD (50:Nat) q1)->I64 (q0.getD (51:Nat) q1)->I64 (q0.getD (52:Nat) q1)->I64 (q0.getD (53:Nat) q1)->I64 (q0.getD (54:Nat) q1)->I64 (q0.getD (55:Nat) q1)->I64 (q0.getD (56:Nat) q1)->I64 (q0.getD (57:Nat) q1)->I64 (q0.getD (58:Nat) q1)->I64 (q0.getD (59:Nat) q1)->I64 (q0.getD (60:Nat) q1)->I64 (q0.getD (61:Nat) q1)->I64 (q0.getD (62:Nat) q1)->I64 (q0.getD (63:Nat) q1)->I64 (q0.getD (64:Nat) q1)->(po Sh.int q0 (0:Nat) (65:Nat)).length=(65:Nat)/\((hY (dZ (po Sh.int q0 (0:Nat) (65:Nat))) (64:Nat)).length*(8:Nat)<=(140737488355328:Nat)->(↑(hY (dZ (po Sh.int q0 (0:Nat) (65:Nat))) (64:Nat)).length:Int)=r0))) (bZ l)) (dflt Sh.int)):=by kernel_rfl
theorem vI (l:List Snap) (h0:nch l<=1048576):Sat Tryz.prog (ao aF) 150 [.c (.fz (.nm .snap) (l))] [] ⟨[nch l<=1048576],[.c (.int (((distF l:Int))))],none,false⟩:=by
 refine aM nX [] Tryz.func150 (by decide) (by kernel_rfl) ?_
 rw [uM]
 (repeat' (first | with_reducible refine And.intro ?_ ?_ | with_reducible refine and_imp.2 ?_ | intro))
 all_goals (first | (first | with_reducible rfl | with_reducible assumption | omega | (refine ag ?_ ?_ <;> omega)) | exact (nO 65 0) | exact (by rw [fu (eZ _)]; exact yX _))
theorem HB (l:List Snap) (m:List Int) (r0:Int):cA aF yE [] Tryz.f178 [.c (.fz (.nm .snap) (l)),.c (.fz .int (m))] [] [.c (.int (r0))]=((fun (q3:Nat)=>(fun (q2:Nat)=>(fun (q1:den Sh.int)=>(fun (q0:List Int)=>l.length*(64:Nat)<=(140737488355328:Nat)->m.length*(8:Nat)<=(140737488355328:Nat)->nch l<=(1048576:Nat)/\(I64 (q0.getD q2 q1)->I64 (q0.getD (1:Nat) q1)->I64 (q0.getD (2:Nat) q1)->I64 (q0.getD (3:Nat) q1)->I64 (q0.getD (4:Nat) q1)->I64 (q0.getD (5:Nat) q1)->I64 (q0.getD (6:Nat) q1)->I64 (q0.getD (7:Nat) q1)->I64 (q0.getD (8:Nat) q1)->I64 (q0.getD (9:Nat) q1)->I64 (q0.getD (10:Nat) q1)->I64 (q0.getD (11:Nat) q1)->I64 (q0.getD (12:Nat) q1)->I64 (q0.getD (13:Nat) q1)->I64 (q0.getD (14:Nat) q1)->I64 (q0.getD (15:Nat) q1)->I64 (q0.getD (16:Nat) q1)->I64 (q0.getD (17:Nat) q1)->I64 (q0.getD (18:Nat) q1)->I64 (q0.getD (19:Nat) q1)->I64 (q0.getD (20:Nat) q1)->I64 (q0.getD (21:Nat) q1)->I64 (q0.getD (22:Nat) q1)->I64 (q0.getD (23:Nat) q1)->I64 (q0.getD (24:Nat) q1)->I64 (q0.getD (25:Nat) q1)->I64 (q0.getD (26:Nat) q1)->I64 (q0.getD (27:Nat) q1)->I64 (q0.getD (28:Nat) q1)->I64 (q0.getD (29:Nat) q1)->I64 (q0.getD (30:Nat) q1)->I64 (q0.getD (31:Nat) q1)->I64 (q0.getD (32:Nat) q1)->I64 (q0.getD (33:Nat) q1)->I64 (q0.getD (34:Nat) q1)->I64 (q0.getD (35:Nat) q1)->I64 (q0.getD (36:Nat) q1)->I64 (q0.getD (37:Nat) q1)->I64 (q0.getD (38:Nat) q1)->I64 (q0.getD (39:Nat) q1)->I64 (q0.getD (40:Nat) q1)->I64 (q0.getD (41:Nat) q1)->I64 (q0.getD (42:Nat) q1)->I64 (q0.getD (43:Nat) q1)->I64 (q0.getD (44:Nat) q1)->I64 (q0.getD (45:Nat) q1)->I64 (q0.getD (46:Nat) q1)->I64 (q0.getD (47:Nat) q1)->I64 (q0.getD (48:Nat) q1)->I64 (q0.getD (49:Nat) q1)->I64 (q0.getD (50:Nat) q1)->I64 (q0.getD (51:Nat) q1)->I64 (q0.getD (52:Nat) q1)->I64 (q0.getD (53:Nat) q1)->I64 (q0.getD (54:Nat) q1)->I64 (q0.getD (55:Nat) q1)->I64 (q0.getD (56:Nat) q1)->I64 (q0.getD (57:Nat) q1)->I64 (q0.getD (58:Nat) q1)->I64 (q0.getD (59:Nat) q1)->I64 (q0.getD (60:Nat) q1)->I64 (q0.getD (61:Nat) q1)->I64 (q0.getD (62:Nat) q1)->I64 (q0.getD (63:Nat) q1)->I64 (q0.getD (64:Nat) q1)->(∀ (i:Nat),(fun (q4:Int)=>(0:Int)<=q4/\q4+(↑m.length:Int)<=(4611686018427387904:Int)) ((po Sh.int q0 q2 q3).getD i (0:Int)))/\(po Sh.int (dr (po Sh.int q0 q2 q3) m) q2 q3).length=q3/\((hY (dZ (po Sh.int (dr (po Sh.int q0 q2 q3) m) q2 q3)) (64:Nat)).length*(8:Nat)<=(140737488355328:Nat)->(↑(hY (dZ (po Sh.int (dr (po Sh.int q0 q2 q3) m) q2 q3)) (64:Nat)).length:Int)=r0))) (bZ l)) (dflt Sh.int)) (0:Nat)) (65:Nat)):=by kernel_rfl
theorem Ib (l:List Snap) (m:List Int) (h0:nch l<=1048576):Sat Tryz.prog (ao aF) 178 [.c (.fz (.nm .snap) (l)),.c (.fz .int (m))] [] ⟨[nch l<=1048576],[.c (.int (((distF (l++[⟨0,0,m,false,⟨[]⟩⟩]):Int))))],none,false⟩:=by
 refine aM nX [] Tryz.func178 (by decide) (by kernel_rfl) ?_
 rw [HB]
 (repeat' (first | with_reducible refine And.intro ?_ ?_ | with_reducible refine and_imp.2 ?_ | intro))
 all_goals (first | (first | with_reducible rfl | with_reducible assumption | omega | (refine ag ?_ ?_ <;> omega)) | exact (nO 65 0) | exact (ym (s:=.int) (by assumption) (by assumption) _).1 | exact (ym (s:=.int) (by assumption) (by assumption) _).2 | exact (by rw [fu (s:=.int) (xs:=dr _ _) (by rw [oB,nO]),fu (eZ l)]; have:=yX (l++[Snap.mk 0 0 m false ⟨[]⟩]); rw [iO] at this; exact this))
def kS:cH:=(bB 178 (bw (ai (kC (cL (.nm .snap))) (ai (kC (cL .int)) aH)) aJ fun (l,m,_) (_)=>⟨[nch l<=1048576],[.c (.int (((distF (l++[⟨0,0,m,false,⟨[]⟩⟩]):Int))))],none,false⟩) (bB 150 (bw (ai (kC (cL (.nm .snap))) aH) aJ fun (l,_) (_)=>⟨[nch l<=1048576],[.c (.int (((distF l:Int))))],none,false⟩) yE))
theorem eO:aS Tryz.prog (ao aF) kS:=(aq (au (ab (al bp) (ab (al bp) aj)) ak fun (l,m,_) (_) hp=>Ib l m (dx hp)) (aq (au (ab (al bp) aj) ak fun (l,_) (_) hp=>vI l (dx hp)) nX))
end Go.Proofs.YtladifkbefehdaaGreat
namespace Go.Proofs.YtladifkbefehdaaGreat
open Go.RowKit
def u_ {α:Type} (l:List α) (i:Nat) (x:α):List α:=l.take i++x :: l.drop i
def Iq {α:Type} (l:List α) (i:Int):List α:=l.take i.toNat++l.drop (i+1).toNat
def ck (s:State) (c:Command):Int:=if 0<=ax Opn.set c.set s.opens/\¬ (s.opens.getD (ax Opn.set c.set s.opens).toNat (dflt (.nm .opn))).client=c.client then -1 else ax Opn.set c.set s.opens
def bf (s:State) (c:Command):State × Reply:=if 0<=ax Opn.set c.set s.opens then (s,⟨16,(s.opens.getD (ax Opn.set c.set s.opens).toNat (dflt (.nm .opn))).client⟩)
 else ({ s with opens:=u_ s.opens (s.opens.takeWhile fun y=>decide (y.set<c.set)).length ⟨c.set,c.client⟩ },⟨0,0⟩)
def bj (s:State) (c:Command):State × Reply:=if ck s c<0 then (s,⟨15,0⟩) else ({ s with opens:=Iq s.opens (ck s c) },⟨0,0⟩)
def a_ (s:State) (c:Command):State × Reply:=
 if ck s c<0 then (s,⟨15,0⟩)
 else if 16<=(s.snaps.length:Int)\/1048576<=s.next then (s,⟨20,0⟩)
 else if ¬ s.quota=0/\s.quota<(distF (s.snaps++[⟨0,0,c.chunks,false,⟨[]⟩⟩]):Int) then (s,⟨19,0⟩)
 else ({ s with next:=s.next+1,opens:=Iq s.opens (ck s c),snaps:=s.snaps++[⟨s.next,c.set,c.chunks,false,⟨[]⟩⟩] },⟨0,s.next⟩)
def aU (s:State) (at_:Nat):State × Reply:=
 if (s.snaps.getD at_ (dflt (.nm .snap))).held=true then (s,⟨17,0⟩)
 else if kW s at_=true then (s,⟨18,0⟩)
 else ({ s with snaps:=bn (s.snaps.getD at_ (dflt (.nm .snap))).id s.snaps },⟨0,(jK s.snaps (s.snaps.getD at_ (dflt (.nm .snap))).id).length⟩)
def bC (s:State) (at_:Nat):State × Reply:=(s,⟨0,(s.snaps.getD at_ (dflt (.nm .snap))).chunks.length⟩)
def bQ (b:Bool) (s:State) (at_:Nat):State × Reply:=
 if (s.snaps.getD at_ (dflt (.nm .snap))).held=b then (s,⟨0,0⟩)
 else ({ s with snaps:=s.snaps.set at_ { s.snaps.getD at_ (dflt (.nm .snap)) with held:=b } },⟨0,1⟩)
def dB (c:Command) (s:State) (at_:Nat):State × Reply:=({ s with snaps:=s.snaps.set at_ { s.snaps.getD at_ (dflt (.nm .snap)) with tag:=c.text } },⟨0,0⟩)
def ec (c:Command) (s:State):State × Reply:=({ s with keep:=c.n },⟨0,0⟩)
def dj (c:Command) (s:State):State × Reply:=({ s with quota:=c.n },⟨0,distF s.snaps⟩)
theorem cO {α:Type} {key:α->Int} {want:Int} {l:List α} (h:0<=ax key want l):ax key want l<(l.length:Int):=by
 unfold ax at *
 split
 ·rename_i i hi
  have:=(List.findIdx?_eq_some_iff_getElem.1 hi).1
  omega
 ·omega
theorem En {s:State} {c:Command} (h:0<=ck s c):ck s c+1<=(s.opens.length:Int):=by
 unfold ck at *
 split
 ·rename_i h1; rw [if_pos h1] at h; omega
 ·rename_i h1; rw [if_neg h1] at h
  have:=cO h
  omega
theorem zp (i:Int) (m:List Opn) (l:List Opn) (h0:0<=i/\i<=(l.length:Int)) (h1:l.length<1048576) (h2:m.length=1):Sat Tryz.prog (ao aF) 176 [.c (.own 0),.c (.int (i)),.c (.fz (.nm .opn) (m))] [.row 63 (.nm .opn) (l)] ⟨[0<=i/\i<=(l.length:Int),l.length<1048576,m.length=1],[.c (.own 0)],some ([.row 63 (.nm .opn) ((l.take i.toNat++m++l.drop i.toNat))]),false⟩:=rL i l m h0 h1 h2
theorem w_ (i:Int) (l:List Sess) (m:List Sess) (h0:0<=i/\i<=(l.length:Int)) (h1:l.length<1048576) (h2:m.length=1):Sat Tryz.prog (ao aF) 64 [.c (.own 0),.c (.int (i)),.c (.own 1)] [.row 82 (.nm .sess) (l),.row 82 (.nm .sess) (m)] ⟨[0<=i/\i<=(l.length:Int),l.length<1048576,m.length=1],[.c (.own 0)],some ([.row 82 (.nm .sess) ((l.take i.toNat++m++l.drop i.toNat)),.row 82 (.nm .sess) ((m))]),false⟩:=rF i l m h0 h1 h2
theorem Af (i:Int) (j:Int) (l:List Opn) (h0:0<=i/\i<(l.length:Int)/\j=i+1):Sat Tryz.prog (ao aF) 179 [.c (.own 0),.c (.int (i)),.c (.int (j))] [.row 63 (.nm .opn) (l)] ⟨[0<=i/\i<(l.length:Int)/\j=i+1],[.c (.own 0)],some ([.row 63 (.nm .opn) ((l.take i.toNat++l.drop j.toNat))]),false⟩:=tH i j l h0
theorem Aa (c:Command) (v:Int) (nx:Int) (kp:Int) (qt:Int) (se:List Sess) (op:List Opn) (sn:List Snap) (r0:Int):cA aF kS [] Tryz.f177 [.c (.ptr 0 0),.agg (cellsOf (.nm .command) c)] [.box 43 ([.int (v),.int (nx),.int (kp),.int (qt),.own 1,.own 2,.own 3]),.row 82 (.nm .sess) (se),.row 63 (.nm .opn) (op),.row 73 (.nm .snap) (sn)] [.c (.int (r0))]=((fun (q0:Int)=>I64 c.kind->I64 c.client->I64 c.seq->I64 c.set->I64 c.id->I64 c.n->c.chunks.length*(8:Nat)<=(140737488355328:Nat)->c.text.b.length<=(140737488355328:Nat)->I64 q0->((0:Int)<=q0->(0:Int)<=q0/\q0<(↑op.length:Int))/\(((0:Int)<=q0->I64 (op.getD q0.toNat (dflt (Sh.nm NT.opn))).set/\I64 (op.getD q0.toNat (dflt (Sh.nm NT.opn))).client)->((0:Int)<=q0/\¬(op.getD q0.toNat (dflt (Sh.nm NT.opn))).client=c.client->(-1:Int)=r0)/\(q0<(0:Int)\/(op.getD q0.toNat (dflt (Sh.nm NT.opn))).client=c.client->q0=r0))) (ax Opn.set c.set op)):=by kernel_rfl
theorem zP (c:Command) (v:Int) (nx:Int) (kp:Int) (qt:Int) (se:List Sess) (op:List Opn) (sn:List Snap):Sat Tryz.prog (ao aF) 177 [.c (.ptr 0 0),.agg (cellsOf (.nm .command) c)] [.box 43 ([.int (v),.int (nx),.int (kp),.int (qt),.own 1,.own 2,.own 3]),.row 82 (.nm .sess) (se),.row 63 (.nm .opn) (op),.row 73 (.nm .snap) (sn)] ⟨[],[.c (.int ((ck (State.mk v nx kp qt se op sn) c)))],none,false⟩:=by
 refine aM eO [] Tryz.func177 (by decide) (by kernel_rfl) ?_
 rw [Aa]
 (repeat' (first | with_reducible refine And.intro ?_ ?_ | with_reducible refine and_imp.2 ?_ | intro))
 all_goals (first | (first | with_reducible rfl | with_reducible assumption | omega | (refine ag ?_ ?_ <;> omega)) | exact cO (by with_reducible assumption) | (unfold ck; grind))
theorem OI (c:Command) (v:Int) (nx:Int) (kp:Int) (qt:Int) (se:List Sess) (op:List Opn) (sn:List Snap) (r0:Reply) (r1:Command) (r2:Int) (r3:Int) (r4:Int) (r5:Int) (r6:List Sess) (r7:List Opn) (r8:List Snap):nh aF kS [] Tryz.f148 [.c (.ptr 0 0),.c (.ptr 1 0)] [.box 24 (cellsOf (.nm .command) (c)),.box 43 ([.int (v),.int (nx),.int (kp),.int (qt),.own 2,.own 3,.own 4]),.row 82 (.nm .sess) (se),.row 63 (.nm .opn) (op),.row 73 (.nm .snap) (sn)] [.agg (cellsOf (.nm .reply) r0)] [.box 24 (cellsOf (.nm .command) (r1)),.box 43 ([.int (r2),.int (r3),.int (r4),.int (r5),.own 2,.own 3,.own 4]),.row 82 (.nm .sess) (r6),.row 63 (.nm .opn) (r7),.row 73 (.nm .snap) (r8)]=((0:Int)=r0.code/\(0:Int)=r0.n/\c.kind=r1.kind/\c.client=r1.client/\c.seq=r1.seq/\c.set=r1.set/\c.id=r1.id/\c.n=r1.n/\c.chunks=r1.chunks/\c.text=r1.text/\v=r2/\nx=r3/\c.n=r4/\qt=r5/\se=r6/\op=r7/\sn=r8):=by kernel_rfl
theorem Oi (c:Command) (v:Int) (nx:Int) (kp:Int) (qt:Int) (se:List Sess) (op:List Opn) (sn:List Snap):Sat Tryz.prog (ao aF) 148 [.c (.ptr 0 0),.c (.ptr 1 0)] [.box 24 (cellsOf (.nm .command) (c)),.box 43 ([.int (v),.int (nx),.int (kp),.int (qt),.own 2,.own 3,.own 4]),.row 82 (.nm .sess) (se),.row 63 (.nm .opn) (op),.row 73 (.nm .snap) (sn)] ⟨[],[.agg (cellsOf (.nm .reply) ((ec c (State.mk v nx kp qt se op sn)).2))],some ([.box 24 (cellsOf (.nm .command) ((c))),.box 43 ([.int ((((ec c (State.mk v nx kp qt se op sn)).1).version)),.int ((((ec c (State.mk v nx kp qt se op sn)).1).next)),.int ((((ec c (State.mk v nx kp qt se op sn)).1).keep)),.int ((((ec c (State.mk v nx kp qt se op sn)).1).quota)),.own 2,.own 3,.own 4]),.row 82 (.nm .sess) ((((ec c (State.mk v nx kp qt se op sn)).1).sess)),.row 63 (.nm .opn) ((((ec c (State.mk v nx kp qt se op sn)).1).opens)),.row 73 (.nm .snap) ((((ec c (State.mk v nx kp qt se op sn)).1).snaps))]),false⟩:=by
 refine dy eO [] Tryz.func148 (by decide) (by kernel_rfl) ?_
 rw [OI]
 (repeat' (first | with_reducible refine And.intro ?_ ?_ | with_reducible refine and_imp.2 ?_ | intro))
 all_goals (first | (first | with_reducible rfl | with_reducible assumption | omega | (refine ag ?_ ?_ <;> omega)) | exact rfl)
theorem Nk (c:Command) (v:Int) (nx:Int) (kp:Int) (qt:Int) (se:List Sess) (op:List Opn) (sn:List Snap) (r0:Reply) (r1:Command) (r2:Int) (r3:Int) (r4:Int) (r5:Int) (r6:List Sess) (r7:List Opn) (r8:List Snap):nh aF kS [] Tryz.f149 [.c (.ptr 0 0),.c (.ptr 1 0)] [.box 24 (cellsOf (.nm .command) (c)),.box 43 ([.int (v),.int (nx),.int (kp),.int (qt),.own 2,.own 3,.own 4]),.row 82 (.nm .sess) (se),.row 63 (.nm .opn) (op),.row 73 (.nm .snap) (sn)] [.agg (cellsOf (.nm .reply) r0)] [.box 24 (cellsOf (.nm .command) (r1)),.box 43 ([.int (r2),.int (r3),.int (r4),.int (r5),.own 2,.own 3,.own 4]),.row 82 (.nm .sess) (r6),.row 63 (.nm .opn) (r7),.row 73 (.nm .snap) (r8)]=(nch sn<=(1048576:Nat)/\(I64 (↑(distF sn):Int)->(0:Int)=r0.code/\(↑(distF sn):Int)=r0.n/\c.kind=r1.kind/\c.client=r1.client/\c.seq=r1.seq/\c.set=r1.set/\c.id=r1.id/\c.n=r1.n/\c.chunks=r1.chunks/\c.text=r1.text/\v=r2/\nx=r3/\kp=r4/\c.n=r5/\se=r6/\op=r7/\sn=r8)):=by kernel_rfl
theorem Nh (c:Command) (v:Int) (nx:Int) (kp:Int) (qt:Int) (se:List Sess) (op:List Opn) (sn:List Snap) (h0:nch sn<=1048576):Sat Tryz.prog (ao aF) 149 [.c (.ptr 0 0),.c (.ptr 1 0)] [.box 24 (cellsOf (.nm .command) (c)),.box 43 ([.int (v),.int (nx),.int (kp),.int (qt),.own 2,.own 3,.own 4]),.row 82 (.nm .sess) (se),.row 63 (.nm .opn) (op),.row 73 (.nm .snap) (sn)] ⟨[nch sn<=1048576],[.agg (cellsOf (.nm .reply) ((dj c (State.mk v nx kp qt se op sn)).2))],some ([.box 24 (cellsOf (.nm .command) ((c))),.box 43 ([.int ((((dj c (State.mk v nx kp qt se op sn)).1).version)),.int ((((dj c (State.mk v nx kp qt se op sn)).1).next)),.int ((((dj c (State.mk v nx kp qt se op sn)).1).keep)),.int ((((dj c (State.mk v nx kp qt se op sn)).1).quota)),.own 2,.own 3,.own 4]),.row 82 (.nm .sess) ((((dj c (State.mk v nx kp qt se op sn)).1).sess)),.row 63 (.nm .opn) ((((dj c (State.mk v nx kp qt se op sn)).1).opens)),.row 73 (.nm .snap) ((((dj c (State.mk v nx kp qt se op sn)).1).snaps))]),false⟩:=by
 refine dy eO [] Tryz.func149 (by decide) (by kernel_rfl) ?_
 rw [Nk]
 (repeat' (first | with_reducible refine And.intro ?_ ?_ | with_reducible refine and_imp.2 ?_ | intro))
 all_goals (first | (first | with_reducible rfl | with_reducible assumption | omega | (refine ag ?_ ?_ <;> omega)) | exact rfl)
theorem Hf (i:Int) (v:Int) (nx:Int) (kp:Int) (qt:Int) (se:List Sess) (op:List Opn) (sn:List Snap) (r0:Reply) (r1:Int) (r2:Int) (r3:Int) (r4:Int) (r5:List Sess) (r6:List Opn) (r7:List Snap):nh aF kS [] Tryz.f152 [.c (.ptr 0 0),.c (.int (i))] [.box 43 ([.int (v),.int (nx),.int (kp),.int (qt),.own 1,.own 2,.own 3]),.row 82 (.nm .sess) (se),.row 63 (.nm .opn) (op),.row 73 (.nm .snap) (sn)] [.agg (cellsOf (.nm .reply) r0)] [.box 43 ([.int (r1),.int (r2),.int (r3),.int (r4),.own 1,.own 2,.own 3]),.row 82 (.nm .sess) (r5),.row 63 (.nm .opn) (r6),.row 73 (.nm .snap) (r7)]=((fun (q2:Bool)=>(fun (q1:Prop)=>(fun (q0:den (Sh.nm NT.snap))=>I64 i->(0:Int)<=i/\i<(↑sn.length:Int)/\(I64 q0.id->I64 q0.set->q0.chunks.length*(8:Nat)<=(140737488355328:Nat)->q0.tag.b.length<=(140737488355328:Nat)->(q0.held=true->I64 (17:Int)->I64 (0:Int)->(17:Int)=r0.code/\q1)/\(q0.held=false->(q2=true->I64 (18:Int)->I64 (0:Int)->(18:Int)=r0.code/\q1)/\(q2=false->nch sn<=(1048576:Nat)/\((jK sn q0.id).length*(8:Nat)<=(140737488355328:Nat)->(0:Int)=r0.code/\(↑(jK sn q0.id).length:Int)=r0.n/\v=r1/\nx=r2/\kp=r3/\qt=r4/\se=r5/\op=r6/\bn q0.id sn=r7))))) (sn.getD i.toNat (dflt (Sh.nm NT.snap)))) ((0:Int)=r0.n/\v=r1/\nx=r2/\kp=r3/\qt=r4/\se=r5/\op=r6/\sn=r7)) (kW (State.mk v nx kp qt se op sn) i)):=by kernel_rfl
theorem GW (i:Int) (v:Int) (nx:Int) (kp:Int) (qt:Int) (se:List Sess) (op:List Opn) (sn:List Snap) (h0:0<=i/\i<(sn.length:Int)) (h1:nch sn<=1048576):Sat Tryz.prog (ao aF) 152 [.c (.ptr 0 0),.c (.int (i))] [.box 43 ([.int (v),.int (nx),.int (kp),.int (qt),.own 1,.own 2,.own 3]),.row 82 (.nm .sess) (se),.row 63 (.nm .opn) (op),.row 73 (.nm .snap) (sn)] ⟨[0<=i/\i<(sn.length:Int),nch sn<=1048576],[.agg (cellsOf (.nm .reply) ((aU (State.mk v nx kp qt se op sn) i.toNat).2))],some ([.box 43 ([.int ((((aU (State.mk v nx kp qt se op sn) i.toNat).1).version)),.int ((((aU (State.mk v nx kp qt se op sn) i.toNat).1).next)),.int ((((aU (State.mk v nx kp qt se op sn) i.toNat).1).keep)),.int ((((aU (State.mk v nx kp qt se op sn) i.toNat).1).quota)),.own 1,.own 2,.own 3]),.row 82 (.nm .sess) ((((aU (State.mk v nx kp qt se op sn) i.toNat).1).sess)),.row 63 (.nm .opn) ((((aU (State.mk v nx kp qt se op sn) i.toNat).1).opens)),.row 73 (.nm .snap) ((((aU (State.mk v nx kp qt se op sn) i.toNat).1).snaps))]),false⟩:=by
 refine dy eO [] Tryz.func152 (by decide) (by kernel_rfl) ?_
 rw [Hf]
 have hi:((i.toNat:Nat):Int)=i:=by omega
 (repeat' (first | with_reducible refine And.intro ?_ ?_ | with_reducible refine and_imp.2 ?_ | intro))
 all_goals (first | (first | with_reducible rfl | with_reducible assumption | omega | (refine ag ?_ ?_ <;> omega)) | ((simp only [aU,hi]; simp_all) <;> (intros; omega)) | (simp only [aU,hi]; grind))
theorem Od (i:Int) (v:Int) (nx:Int) (kp:Int) (qt:Int) (se:List Sess) (op:List Opn) (sn:List Snap) (r0:Reply) (r1:Int) (r2:Int) (r3:Int) (r4:Int) (r5:List Sess) (r6:List Opn) (r7:List Snap):nh aF kS [] Tryz.f153 [.c (.int (i)),.c (.ptr 0 0)] [.box 43 ([.int (v),.int (nx),.int (kp),.int (qt),.own 1,.own 2,.own 3]),.row 82 (.nm .sess) (se),.row 63 (.nm .opn) (op),.row 73 (.nm .snap) (sn)] [.agg (cellsOf (.nm .reply) r0)] [.box 43 ([.int (r1),.int (r2),.int (r3),.int (r4),.own 1,.own 2,.own 3]),.row 82 (.nm .sess) (r5),.row 63 (.nm .opn) (r6),.row 73 (.nm .snap) (r7)]=((fun (q0:den (Sh.nm NT.snap))=>I64 i->(0:Int)<=i/\i<(↑sn.length:Int)/\(I64 q0.id->I64 q0.set->q0.chunks.length*(8:Nat)<=(140737488355328:Nat)->q0.tag.b.length<=(140737488355328:Nat)->(0:Int)=r0.code/\(↑q0.chunks.length:Int)=r0.n/\v=r1/\nx=r2/\kp=r3/\qt=r4/\se=r5/\op=r6/\sn=r7)) (sn.getD i.toNat (dflt (Sh.nm NT.snap)))):=by kernel_rfl
theorem Ms (i:Int) (v:Int) (nx:Int) (kp:Int) (qt:Int) (se:List Sess) (op:List Opn) (sn:List Snap) (h0:0<=i/\i<(sn.length:Int)):Sat Tryz.prog (ao aF) 153 [.c (.int (i)),.c (.ptr 0 0)] [.box 43 ([.int (v),.int (nx),.int (kp),.int (qt),.own 1,.own 2,.own 3]),.row 82 (.nm .sess) (se),.row 63 (.nm .opn) (op),.row 73 (.nm .snap) (sn)] ⟨[0<=i/\i<(sn.length:Int)],[.agg (cellsOf (.nm .reply) ((bC (State.mk v nx kp qt se op sn) i.toNat).2))],some ([.box 43 ([.int ((((bC (State.mk v nx kp qt se op sn) i.toNat).1).version)),.int ((((bC (State.mk v nx kp qt se op sn) i.toNat).1).next)),.int ((((bC (State.mk v nx kp qt se op sn) i.toNat).1).keep)),.int ((((bC (State.mk v nx kp qt se op sn) i.toNat).1).quota)),.own 1,.own 2,.own 3]),.row 82 (.nm .sess) ((((bC (State.mk v nx kp qt se op sn) i.toNat).1).sess)),.row 63 (.nm .opn) ((((bC (State.mk v nx kp qt se op sn) i.toNat).1).opens)),.row 73 (.nm .snap) ((((bC (State.mk v nx kp qt se op sn) i.toNat).1).snaps))]),false⟩:=by
 refine dy eO [] Tryz.func153 (by decide) (by kernel_rfl) ?_
 rw [Od]
 (repeat' (first | with_reducible refine And.intro ?_ ?_ | with_reducible refine and_imp.2 ?_ | intro))
 all_goals (first | (first | with_reducible rfl | with_reducible assumption | omega | (refine ag ?_ ?_ <;> omega)) | rfl)
theorem Ih (i:Int) (c:Command) (v:Int) (nx:Int) (kp:Int) (qt:Int) (se:List Sess) (op:List Opn) (sn:List Snap) (r0:Reply) (r1:Command) (r2:Int) (r3:Int) (r4:Int) (r5:Int) (r6:List Sess) (r7:List Opn) (r8:List Snap):nh aF kS [] Tryz.f154 [.c (.int (i)),.c (.ptr 0 0),.c (.ptr 1 0)] [.box 24 (cellsOf (.nm .command) (c)),.box 43 ([.int (v),.int (nx),.int (kp),.int (qt),.own 2,.own 3,.own 4]),.row 82 (.nm .sess) (se),.row 63 (.nm .opn) (op),.row 73 (.nm .snap) (sn)] [.agg (cellsOf (.nm .reply) r0)] [.box 24 (cellsOf (.nm .command) (r1)),.box 43 ([.int (r2),.int (r3),.int (r4),.int (r5),.own 2,.own 3,.own 4]),.row 82 (.nm .sess) (r6),.row 63 (.nm .opn) (r7),.row 73 (.nm .snap) (r8)]=((fun (q0:den (Sh.nm NT.snap))=>I64 i->(0:Int)<=i/\i<(↑sn.length:Int)/\(I64 q0.id->I64 q0.set->q0.chunks.length*(8:Nat)<=(140737488355328:Nat)->q0.tag.b.length<=(140737488355328:Nat)->(0:Int)=r0.code/\(0:Int)=r0.n/\c.kind=r1.kind/\c.client=r1.client/\c.seq=r1.seq/\c.set=r1.set/\c.id=r1.id/\c.n=r1.n/\c.chunks=r1.chunks/\c.text=r1.text/\v=r2/\nx=r3/\kp=r4/\qt=r5/\se=r6/\op=r7/\sn.set i.toNat (Snap.mk q0.id q0.set q0.chunks q0.held c.text)=r8)) (sn.getD i.toNat (dflt (Sh.nm NT.snap)))):=by kernel_rfl
theorem Jd (i:Int) (c:Command) (v:Int) (nx:Int) (kp:Int) (qt:Int) (se:List Sess) (op:List Opn) (sn:List Snap) (h0:0<=i/\i<(sn.length:Int)):Sat Tryz.prog (ao aF) 154 [.c (.int (i)),.c (.ptr 0 0),.c (.ptr 1 0)] [.box 24 (cellsOf (.nm .command) (c)),.box 43 ([.int (v),.int (nx),.int (kp),.int (qt),.own 2,.own 3,.own 4]),.row 82 (.nm .sess) (se),.row 63 (.nm .opn) (op),.row 73 (.nm .snap) (sn)] ⟨[0<=i/\i<(sn.length:Int)],[.agg (cellsOf (.nm .reply) ((dB c (State.mk v nx kp qt se op sn) i.toNat).2))],some ([.box 24 (cellsOf (.nm .command) ((c))),.box 43 ([.int ((((dB c (State.mk v nx kp qt se op sn) i.toNat).1).version)),.int ((((dB c (State.mk v nx kp qt se op sn) i.toNat).1).next)),.int ((((dB c (State.mk v nx kp qt se op sn) i.toNat).1).keep)),.int ((((dB c (State.mk v nx kp qt se op sn) i.toNat).1).quota)),.own 2,.own 3,.own 4]),.row 82 (.nm .sess) ((((dB c (State.mk v nx kp qt se op sn) i.toNat).1).sess)),.row 63 (.nm .opn) ((((dB c (State.mk v nx kp qt se op sn) i.toNat).1).opens)),.row 73 (.nm .snap) ((((dB c (State.mk v nx kp qt se op sn) i.toNat).1).snaps))]),false⟩:=by
 refine dy eO [] Tryz.func154 (by decide) (by kernel_rfl) ?_
 rw [Ih]
 (repeat' (first | with_reducible refine And.intro ?_ ?_ | with_reducible refine and_imp.2 ?_ | intro))
 all_goals (first | (first | with_reducible rfl | with_reducible assumption | omega | (refine ag ?_ ?_ <;> omega)) | exact rfl)
theorem Cm (i:Int) (v:Int) (nx:Int) (kp:Int) (qt:Int) (se:List Sess) (op:List Opn) (sn:List Snap) (b:Bool) (r0:Reply) (r1:Int) (r2:Int) (r3:Int) (r4:Int) (r5:List Sess) (r6:List Opn) (r7:List Snap) (r8:Bool):nh aF kS [] Tryz.f141 [.c (.int (i)),.c (.ptr 0 0),.c (.ptr 4 0)] [.box 43 ([.int (v),.int (nx),.int (kp),.int (qt),.own 1,.own 2,.own 3]),.row 82 (.nm .sess) (se),.row 63 (.nm .opn) (op),.row 73 (.nm .snap) (sn),.box 4 ([.bool (.atom (b))])] [.agg (cellsOf (.nm .reply) r0)] [.box 43 ([.int (r1),.int (r2),.int (r3),.int (r4),.own 1,.own 2,.own 3]),.row 82 (.nm .sess) (r5),.row 63 (.nm .opn) (r6),.row 73 (.nm .snap) (r7),.box 4 ([.bool (.atom (r8))])]=((fun (q0:den (Sh.nm NT.snap))=>I64 i->(0:Int)<=i/\i<(↑sn.length:Int)/\(I64 q0.id->I64 q0.set->q0.chunks.length*(8:Nat)<=(140737488355328:Nat)->q0.tag.b.length<=(140737488355328:Nat)->((q0.held == b)=true->(0:Int)=r0.code/\(0:Int)=r0.n/\v=r1/\nx=r2/\kp=r3/\qt=r4/\se=r5/\op=r6/\sn=r7/\b=r8)/\((q0.held == b)=false->(0:Int)=r0.code/\(1:Int)=r0.n/\v=r1/\nx=r2/\kp=r3/\qt=r4/\se=r5/\op=r6/\sn.set i.toNat (Snap.mk q0.id q0.set q0.chunks b q0.tag)=r7/\b=r8))) (sn.getD i.toNat (dflt (Sh.nm NT.snap)))):=by kernel_rfl
theorem Bv (i:Int) (v:Int) (nx:Int) (kp:Int) (qt:Int) (se:List Sess) (op:List Opn) (sn:List Snap) (b:Bool) (h0:0<=i/\i<(sn.length:Int)):Sat Tryz.prog (ao aF) 141 [.c (.int (i)),.c (.ptr 0 0),.c (.ptr 4 0)] [.box 43 ([.int (v),.int (nx),.int (kp),.int (qt),.own 1,.own 2,.own 3]),.row 82 (.nm .sess) (se),.row 63 (.nm .opn) (op),.row 73 (.nm .snap) (sn),.box 4 ([.bool (.atom (b))])] ⟨[0<=i/\i<(sn.length:Int)],[.agg (cellsOf (.nm .reply) ((bQ b (State.mk v nx kp qt se op sn) i.toNat).2))],some ([.box 43 ([.int ((((bQ b (State.mk v nx kp qt se op sn) i.toNat).1).version)),.int ((((bQ b (State.mk v nx kp qt se op sn) i.toNat).1).next)),.int ((((bQ b (State.mk v nx kp qt se op sn) i.toNat).1).keep)),.int ((((bQ b (State.mk v nx kp qt se op sn) i.toNat).1).quota)),.own 1,.own 2,.own 3]),.row 82 (.nm .sess) ((((bQ b (State.mk v nx kp qt se op sn) i.toNat).1).sess)),.row 63 (.nm .opn) ((((bQ b (State.mk v nx kp qt se op sn) i.toNat).1).opens)),.row 73 (.nm .snap) ((((bQ b (State.mk v nx kp qt se op sn) i.toNat).1).snaps)),.box 4 ([.bool (.atom ((b)))])]),false⟩:=by
 refine dy eO [] Tryz.func141 (by decide) (by kernel_rfl) ?_
 rw [Cm]
 (repeat' (first | with_reducible refine And.intro ?_ ?_ | with_reducible refine and_imp.2 ?_ | intro))
 all_goals (first | (first | with_reducible rfl | with_reducible assumption | omega | (refine ag ?_ ?_ <;> omega)) | ((simp only [bQ]; simp_all) <;> (intros; omega)) | (simp only [bQ]; grind))
def qo:cH:=(bB 141 (bw (ai (kC cI) (ai (kC (bX 0 0)) (ai (kC (bX 4 0)) aH))) (ay (bV 43 (aw cI (aw cI (aw cI (aw cI (aw (bl 1) (aw (bl 2) (aw (bl 3) bT)))))))) (ay (bm 82 (.nm .sess)) (ay (bm 63 (.nm .opn)) (ay (bm 73 (.nm .snap)) (ay (bV 4 (aw cB bT)) aJ))))) fun (i,_,_,_) ((v,nx,kp,qt,_,_,_,_),se,op,sn,(b,_),_)=>⟨[0<=i/\i<(sn.length:Int)],[.agg (cellsOf (.nm .reply) ((bQ b (State.mk v nx kp qt se op sn) i.toNat).2))],some ([.box 43 ([.int ((((bQ b (State.mk v nx kp qt se op sn) i.toNat).1).version)),.int ((((bQ b (State.mk v nx kp qt se op sn) i.toNat).1).next)),.int ((((bQ b (State.mk v nx kp qt se op sn) i.toNat).1).keep)),.int ((((bQ b (State.mk v nx kp qt se op sn) i.toNat).1).quota)),.own 1,.own 2,.own 3]),.row 82 (.nm .sess) ((((bQ b (State.mk v nx kp qt se op sn) i.toNat).1).sess)),.row 63 (.nm .opn) ((((bQ b (State.mk v nx kp qt se op sn) i.toNat).1).opens)),.row 73 (.nm .snap) ((((bQ b (State.mk v nx kp qt se op sn) i.toNat).1).snaps)),.box 4 ([.bool (.atom ((b)))])]),false⟩) (bB 154 (bw (ai (kC cI) (ai (kC (bX 0 0)) (ai (kC (bX 1 0)) aH))) (ay (bV 24 (sR (.nm .command) bT)) (ay (bV 43 (aw cI (aw cI (aw cI (aw cI (aw (bl 2) (aw (bl 3) (aw (bl 4) bT)))))))) (ay (bm 82 (.nm .sess)) (ay (bm 63 (.nm .opn)) (ay (bm 73 (.nm .snap)) aJ))))) fun (i,_,_,_) ((c,_),(v,nx,kp,qt,_,_,_,_),se,op,sn,_)=>⟨[0<=i/\i<(sn.length:Int)],[.agg (cellsOf (.nm .reply) ((dB c (State.mk v nx kp qt se op sn) i.toNat).2))],some ([.box 24 (cellsOf (.nm .command) ((c))),.box 43 ([.int ((((dB c (State.mk v nx kp qt se op sn) i.toNat).1).version)),.int ((((dB c (State.mk v nx kp qt se op sn) i.toNat).1).next)),.int ((((dB c (State.mk v nx kp qt se op sn) i.toNat).1).keep)),.int ((((dB c (State.mk v nx kp qt se op sn) i.toNat).1).quota)),.own 2,.own 3,.own 4]),.row 82 (.nm .sess) ((((dB c (State.mk v nx kp qt se op sn) i.toNat).1).sess)),.row 63 (.nm .opn) ((((dB c (State.mk v nx kp qt se op sn) i.toNat).1).opens)),.row 73 (.nm .snap) ((((dB c (State.mk v nx kp qt se op sn) i.toNat).1).snaps))]),false⟩) (bB 153 (bw (ai (kC cI) (ai (kC (bX 0 0)) aH)) (ay (bV 43 (aw cI (aw cI (aw cI (aw cI (aw (bl 1) (aw (bl 2) (aw (bl 3) bT)))))))) (ay (bm 82 (.nm .sess)) (ay (bm 63 (.nm .opn)) (ay (bm 73 (.nm .snap)) aJ)))) fun (i,_,_) ((v,nx,kp,qt,_,_,_,_),se,op,sn,_)=>⟨[0<=i/\i<(sn.length:Int)],[.agg (cellsOf (.nm .reply) ((bC (State.mk v nx kp qt se op sn) i.toNat).2))],some ([.box 43 ([.int ((((bC (State.mk v nx kp qt se op sn) i.toNat).1).version)),.int ((((bC (State.mk v nx kp qt se op sn) i.toNat).1).next)),.int ((((bC (State.mk v nx kp qt se op sn) i.toNat).1).keep)),.int ((((bC (State.mk v nx kp qt se op sn) i.toNat).1).quota)),.own 1,.own 2,.own 3]),.row 82 (.nm .sess) ((((bC (State.mk v nx kp qt se op sn) i.toNat).1).sess)),.row 63 (.nm .opn) ((((bC (State.mk v nx kp qt se op sn) i.toNat).1).opens)),.row 73 (.nm .snap) ((((bC (State.mk v nx kp qt se op sn) i.toNat).1).snaps))]),false⟩) (bB 152 (bw (ai (kC (bX 0 0)) (ai (kC cI) aH)) (ay (bV 43 (aw cI (aw cI (aw cI (aw cI (aw (bl 1) (aw (bl 2) (aw (bl 3) bT)))))))) (ay (bm 82 (.nm .sess)) (ay (bm 63 (.nm .opn)) (ay (bm 73 (.nm .snap)) aJ)))) fun (_,i,_) ((v,nx,kp,qt,_,_,_,_),se,op,sn,_)=>⟨[0<=i/\i<(sn.length:Int),nch sn<=1048576],[.agg (cellsOf (.nm .reply) ((aU (State.mk v nx kp qt se op sn) i.toNat).2))],some ([.box 43 ([.int ((((aU (State.mk v nx kp qt se op sn) i.toNat).1).version)),.int ((((aU (State.mk v nx kp qt se op sn) i.toNat).1).next)),.int ((((aU (State.mk v nx kp qt se op sn) i.toNat).1).keep)),.int ((((aU (State.mk v nx kp qt se op sn) i.toNat).1).quota)),.own 1,.own 2,.own 3]),.row 82 (.nm .sess) ((((aU (State.mk v nx kp qt se op sn) i.toNat).1).sess)),.row 63 (.nm .opn) ((((aU (State.mk v nx kp qt se op sn) i.toNat).1).opens)),.row 73 (.nm .snap) ((((aU (State.mk v nx kp qt se op sn) i.toNat).1).snaps))]),false⟩) (bB 149 (bw (ai (kC (bX 0 0)) (ai (kC (bX 1 0)) aH)) (ay (bV 24 (sR (.nm .command) bT)) (ay (bV 43 (aw cI (aw cI (aw cI (aw cI (aw (bl 2) (aw (bl 3) (aw (bl 4) bT)))))))) (ay (bm 82 (.nm .sess)) (ay (bm 63 (.nm .opn)) (ay (bm 73 (.nm .snap)) aJ))))) fun (_,_,_) ((c,_),(v,nx,kp,qt,_,_,_,_),se,op,sn,_)=>⟨[nch sn<=1048576],[.agg (cellsOf (.nm .reply) ((dj c (State.mk v nx kp qt se op sn)).2))],some ([.box 24 (cellsOf (.nm .command) ((c))),.box 43 ([.int ((((dj c (State.mk v nx kp qt se op sn)).1).version)),.int ((((dj c (State.mk v nx kp qt se op sn)).1).next)),.int ((((dj c (State.mk v nx kp qt se op sn)).1).keep)),.int ((((dj c (State.mk v nx kp qt se op sn)).1).quota)),.own 2,.own 3,.own 4]),.row 82 (.nm .sess) ((((dj c (State.mk v nx kp qt se op sn)).1).sess)),.row 63 (.nm .opn) ((((dj c (State.mk v nx kp qt se op sn)).1).opens)),.row 73 (.nm .snap) ((((dj c (State.mk v nx kp qt se op sn)).1).snaps))]),false⟩) (bB 148 (bw (ai (kC (bX 0 0)) (ai (kC (bX 1 0)) aH)) (ay (bV 24 (sR (.nm .command) bT)) (ay (bV 43 (aw cI (aw cI (aw cI (aw cI (aw (bl 2) (aw (bl 3) (aw (bl 4) bT)))))))) (ay (bm 82 (.nm .sess)) (ay (bm 63 (.nm .opn)) (ay (bm 73 (.nm .snap)) aJ))))) fun (_,_,_) ((c,_),(v,nx,kp,qt,_,_,_,_),se,op,sn,_)=>⟨[],[.agg (cellsOf (.nm .reply) ((ec c (State.mk v nx kp qt se op sn)).2))],some ([.box 24 (cellsOf (.nm .command) ((c))),.box 43 ([.int ((((ec c (State.mk v nx kp qt se op sn)).1).version)),.int ((((ec c (State.mk v nx kp qt se op sn)).1).next)),.int ((((ec c (State.mk v nx kp qt se op sn)).1).keep)),.int ((((ec c (State.mk v nx kp qt se op sn)).1).quota)),.own 2,.own 3,.own 4]),.row 82 (.nm .sess) ((((ec c (State.mk v nx kp qt se op sn)).1).sess)),.row 63 (.nm .opn) ((((ec c (State.mk v nx kp qt se op sn)).1).opens)),.row 73 (.nm .snap) ((((ec c (State.mk v nx kp qt se op sn)).1).snaps))]),false⟩) (bB 177 (bw (ai (kC (bX 0 0)) (ai (kT (.nm .command)) aH)) (ay (bV 43 (aw cI (aw cI (aw cI (aw cI (aw (bl 1) (aw (bl 2) (aw (bl 3) bT)))))))) (ay (bm 82 (.nm .sess)) (ay (bm 63 (.nm .opn)) (ay (bm 73 (.nm .snap)) aJ)))) fun (_,c,_) ((v,nx,kp,qt,_,_,_,_),se,op,sn,_)=>⟨[],[.c (.int ((ck (State.mk v nx kp qt se op sn) c)))],none,false⟩) (bB 179 (bw (ai (kC (bl 0)) (ai (kC cI) (ai (kC cI) aH))) (ay (bm 63 (.nm .opn)) aJ) fun (_,i,j,_) (l,_)=>⟨[0<=i/\i<(l.length:Int)/\j=i+1],[.c (.own 0)],some ([.row 63 (.nm .opn) ((l.take i.toNat++l.drop j.toNat))]),false⟩) (bB 64 (bw (ai (kC (bl 0)) (ai (kC cI) (ai (kC (bl 1)) aH))) (ay (bm 82 (.nm .sess)) (ay (bm 82 (.nm .sess)) aJ)) fun (_,i,_,_) (l,m,_)=>⟨[0<=i/\i<=(l.length:Int),l.length<1048576,m.length=1],[.c (.own 0)],some ([.row 82 (.nm .sess) ((l.take i.toNat++m++l.drop i.toNat)),.row 82 (.nm .sess) ((m))]),false⟩) (bB 176 (bw (ai (kC (bl 0)) (ai (kC cI) (ai (kC (cL (.nm .opn))) aH))) (ay (bm 63 (.nm .opn)) aJ) fun (_,i,m,_) (l,_)=>⟨[0<=i/\i<=(l.length:Int),l.length<1048576,m.length=1],[.c (.own 0)],some ([.row 63 (.nm .opn) ((l.take i.toNat++m++l.drop i.toNat))]),false⟩) kS))))))))))
theorem iB:aS Tryz.prog (ao aF) qo:=(aq (au (ab (al av) (ab (al aL) (ab (al aL) aj))) (ah (aK (ae av (ae av (ae av (ae av (ae aD (ae aD (ae aD aI)))))))) (ah aE (ah aE (ah aE (ah (aK (ae lz aI)) ak))))) fun (i,_,_,_) ((v,nx,kp,qt,_,_,_,_),se,op,sn,(b,_),_) hp=>Bv i v nx kp qt se op sn b (dx hp)) (aq (au (ab (al av) (ab (al aL) (ab (al aL) aj))) (ah (aK (dL aI)) (ah (aK (ae av (ae av (ae av (ae av (ae aD (ae aD (ae aD aI)))))))) (ah aE (ah aE (ah aE ak))))) fun (i,_,_,_) ((c,_),(v,nx,kp,qt,_,_,_,_),se,op,sn,_) hp=>Jd i c v nx kp qt se op sn (dx hp)) (aq (au (ab (al av) (ab (al aL) aj)) (ah (aK (ae av (ae av (ae av (ae av (ae aD (ae aD (ae aD aI)))))))) (ah aE (ah aE (ah aE ak)))) fun (i,_,_) ((v,nx,kp,qt,_,_,_,_),se,op,sn,_) hp=>Ms i v nx kp qt se op sn (dx hp)) (aq (au (ab (al aL) (ab (al av) aj)) (ah (aK (ae av (ae av (ae av (ae av (ae aD (ae aD (ae aD aI)))))))) (ah aE (ah aE (ah aE ak)))) fun (_,i,_) ((v,nx,kp,qt,_,_,_,_),se,op,sn,_) hp=>GW i v nx kp qt se op sn (dx hp) (dx (eg hp))) (aq (au (ab (al aL) (ab (al aL) aj)) (ah (aK (dL aI)) (ah (aK (ae av (ae av (ae av (ae av (ae aD (ae aD (ae aD aI)))))))) (ah aE (ah aE (ah aE ak))))) fun (_,_,_) ((c,_),(v,nx,kp,qt,_,_,_,_),se,op,sn,_) hp=>Nh c v nx kp qt se op sn (dx hp)) (aq (au (ab (al aL) (ab (al aL) aj)) (ah (aK (dL aI)) (ah (aK (ae av (ae av (ae av (ae av (ae aD (ae aD (ae aD aI)))))))) (ah aE (ah aE (ah aE ak))))) fun (_,_,_) ((c,_),(v,nx,kp,qt,_,_,_,_),se,op,sn,_) _=>Oi c v nx kp qt se op sn ) (aq (au (ab (al aL) (ab br aj)) (ah (aK (ae av (ae av (ae av (ae av (ae aD (ae aD (ae aD aI)))))))) (ah aE (ah aE (ah aE ak)))) fun (_,c,_) ((v,nx,kp,qt,_,_,_,_),se,op,sn,_) _=>zP c v nx kp qt se op sn ) (aq (au (ab (al aD) (ab (al av) (ab (al av) aj))) (ah aE ak) fun (_,i,j,_) (l,_) hp=>Af i j l (dx hp)) (aq (au (ab (al aD) (ab (al av) (ab (al aD) aj))) (ah aE (ah aE ak)) fun (_,i,_,_) (l,m,_) hp=>w_ i l m (dx hp) (dx (eg hp)) (dx (eg (eg hp)))) (aq (au (ab (al aD) (ab (al av) (ab (al bp) aj))) (ah aE ak) fun (_,i,m,_) (l,_) hp=>zp i m l (dx hp) (dx (eg hp)) (dx (eg (eg hp)))) eO))))))))))
end Go.Proofs.YtladifkbefehdaaGreat
namespace Go.Proofs.YtladifkbefehdaaGreat
open Go.RowKit
theorem Ga {α:Type} {p:α->Bool} {l:List α} {k:Nat} (h:(l.take k).all p=true) (hk:k<=l.length) (h2:(l.length:Int)<=k\/(k:Int)<l.length/\∃ x,l[k]? = some x/\p x=false):k=(l.takeWhile p).length:=by
 induction l generalizing k with
 | nil=>simp at hk; simp [hk]
 | cons a l ih=>
  cases k with
  | zero=>
   rcases h2 with h2 | ⟨_,x,hx,hp⟩
   ·simp at h2; omega
   ·simp at hx; subst hx; simp [hp]
  | succ k=>
   simp only [List.take_succ_cons,List.all_cons,Bool.and_eq_true] at h
   rw [List.takeWhile_cons,h.1,if_pos rfl,List.length_cons]
   congr 1
   refine ih h.2 (by simpa using hk) ?_
   rcases h2 with h2 | ⟨h3,x,hx,hp⟩
   ·left; simp at h2; omega
   ·right; refine ⟨by simp at h3; omega,x,by simpa using hx,hp⟩
theorem Dx {v nx kp qt:Int} {se:List Sess} {op:List Opn} {sn:List Snap} {c:Command} {s:Nat} (h:ax Opn.set c.set op<0) (hs:s<=op.length) (ha:(op.take s).all (fun y=>decide (y.set<c.set))=true) (hb:(op.length:Int)<=s\/c.set<=(op.getD s (dflt (.nm .opn))).set):op.take s++[Opn.mk c.set c.client]++op.drop s=(bf (State.mk v nx kp qt se op sn) c).1.opens:=by
 have h1:¬ 0<=ax Opn.set c.set op:=by omega
 simp only [bf,if_neg h1]
 have:s=(op.takeWhile fun y=>decide (y.set<c.set)).length:=by
  refine Ga ha hs ?_
  by_cases hl:(op.length:Int)<=s
  ·exact .inl hl
  ·refine .inr ⟨by omega,_,gd (d:=dflt (.nm .opn)) (by omega),?_⟩
   rcases hb with hb | hb
   ·omega
   ·exact decide_eq_false (by omega)
 rw [<- this]; simp [u_]
theorem EN {op:List Opn} {c:Command} {s:Nat} (ha:(op.take s).all (fun y=>decide (y.set<c.set))=true) (h:(s:Int)<op.length) (hb:(op.getD s (dflt (.nm .opn))).set<c.set):(op.take (s+1)).all (fun y=>decide (y.set<c.set))=true:=by
 rw [aB (gd (d:=dflt (.nm .opn)) h),List.all_append,ha]; simp only [List.all_cons,List.all_nil,decide_eq_true hb]; rfl
section
variable {v nx kp qt:Int} {se:List Sess} {op:List Opn} {sn:List Snap} {c:Command}
theorem Sk (h:ax Opn.set c.set op<0):bf (State.mk v nx kp qt se op sn) c=(State.mk v nx kp qt se (u_ op (op.takeWhile fun y=>decide (y.set<c.set)).length ⟨c.set,c.client⟩) sn,⟨0,0⟩):=by
 have h1:¬ 0<=ax Opn.set c.set op:=by omega
 simp only [bf,if_neg h1]
theorem RK (h:0<=ax Opn.set c.set op):bf (State.mk v nx kp qt se op sn) c=(State.mk v nx kp qt se op sn,⟨16,(op.getD (ax Opn.set c.set op).toNat (dflt (.nm .opn))).client⟩):=by
 simp only [bf,if_pos h]
theorem To (h:ck (State.mk v nx kp qt se op sn) c<0):bj (State.mk v nx kp qt se op sn) c=(State.mk v nx kp qt se op sn,⟨15,0⟩):=by
 simp only [bj,if_pos h]
theorem SZ (h:0<=ck (State.mk v nx kp qt se op sn) c):bj (State.mk v nx kp qt se op sn) c=(State.mk v nx kp qt se (op.take (ck (State.mk v nx kp qt se op sn) c).toNat++op.drop (ck (State.mk v nx kp qt se op sn) c+1).toNat) sn,⟨0,0⟩):=by
 have h1:¬ ck (State.mk v nx kp qt se op sn) c<0:=by omega
 simp only [bj,if_neg h1,Iq]
end
def xG (c:Command) (v:Int) (nx:Int) (kp:Int) (qt:Int) (se:List Sess) (op:List Opn) (sn:List Snap):List (Nat × LI):=[(5,{ σ:=Nat,F:=fun k=>([(0,one (.ptr 0 0)),(3,one (.ptr 4 0)),(4,one (.ptr 5 0)),(6,one (.int k))],[.box 43 ([.int ((v)),.int ((nx)),.int ((kp)),.int ((qt)),.own 1,.own 2,.own 3]),.row 82 (.nm .sess) ((se)),.row 63 (.nm .opn) ((op)),.row 73 (.nm .snap) ((sn)),.box 24 (cellsOf (.nm .command) ((c))),.box 56 ([.int ((0)),.int ((0))])]),J:=fun k=>k<=op.length/\(op.take k).all (fun y=>decide (y.set<c.set))=true,μ:=fun k=>op.length - k })]
theorem DJ (c:Command) (v:Int) (nx:Int) (kp:Int) (qt:Int) (se:List Sess) (op:List Opn) (sn:List Snap) (r0:Reply) (r1:Int) (r2:Int) (r3:Int) (r4:Int) (r5:List Sess) (r6:List Opn) (r7:List Snap):nh aF qo (xG c v nx kp qt se op sn) Tryz.f143 [.c (.ptr 0 0),.agg (cellsOf (.nm .command) c)] [.box 43 ([.int (v),.int (nx),.int (kp),.int (qt),.own 1,.own 2,.own 3]),.row 82 (.nm .sess) (se),.row 63 (.nm .opn) (op),.row 73 (.nm .snap) (sn)] [.agg (cellsOf (.nm .reply) r0)] [.box 43 ([.int (r1),.int (r2),.int (r3),.int (r4),.own 1,.own 2,.own 3]),.row 82 (.nm .sess) (r5),.row 63 (.nm .opn) (r6),.row 73 (.nm .snap) (r7)]=((fun (q5:Int)=>(fun (q4:den (Sh.nm NT.opn))=>(fun (q3:Int)=>(fun (q2:Int)=>(fun (q1:Int)=>(fun (q0:Prop)=>I64 c.kind->I64 c.client->I64 c.seq->I64 q5->I64 c.id->I64 c.n->c.chunks.length*(8:Nat)<=(140737488355328:Nat)->c.text.b.length<=(140737488355328:Nat)->I64 q1->(q2<=q1->q2<=q1/\q1<q3/\(I64 (op.getD q1.toNat q4).set->I64 (op.getD q1.toNat q4).client->(16:Int)=r0.code/\(op.getD q1.toNat q4).client=r0.n/\v=r1/\nx=r2/\kp=r3/\qt=r4/\se=r5/\op=r6/\sn=r7))/\(q1<q2->∃ (s0:Nat),(q2=(↑s0:Int)/\q0)/\(s0<=op.length/\((List.take s0 op).all fun (y:Opn)=>decide (y.set<q5))=true)/\∀ (s:Nat),(fun (q7:Int)=>(fun (q6:Int)=>s<=op.length/\((List.take s op).all fun (y:Opn)=>decide (y.set<q5))=true->(q6<q3->q2<=q6/\q6<q3)/\((q6<q3->I64 q7/\I64 (op.getD s q4).client)->(q6<q3/\q7<q5->I64 (q6+(1:Int))/\∃ (s':Nat),(q6+(1:Int)=(↑s':Int)/\q0)/\(s' <= op.length/\((List.take s' op).all fun (y:Opn)=>decide (y.set<q5))=true)/\op.length - s' < op.length - s)/\(q3<=q6\/q5<=q7->((q2<=q6/\q6<=q3)/\op.length<(1048576:Nat)/\[Opn.mk q5 c.client].length=(1:Nat))/\q2=r0.code/\q2=r0.n/\v=r1/\nx=r2/\kp=r3/\qt=r4/\se=r5/\List.take s op++[Opn.mk q5 c.client]++List.drop s op=r6/\sn=r7))) (↑s:Int)) (op.getD s q4).set)) (v=v/\nx=nx/\kp=kp/\qt=qt/\se=se/\op=op/\sn=sn/\c.kind=c.kind/\c.client=c.client/\c.seq=c.seq/\q5=q5/\c.id=c.id/\c.n=c.n/\c.chunks=c.chunks/\c.text=c.text/\q2=q2/\q2=q2)) (ax Opn.set q5 op)) (0:Int)) (↑op.length:Int)) (dflt (Sh.nm NT.opn))) c.set):=by kernel_rfl
theorem EE (c:Command) (v:Int) (nx:Int) (kp:Int) (qt:Int) (se:List Sess) (op:List Opn) (sn:List Snap) (h0:op.length<1048576):Sat Tryz.prog (ao aF) 143 [.c (.ptr 0 0),.agg (cellsOf (.nm .command) c)] [.box 43 ([.int (v),.int (nx),.int (kp),.int (qt),.own 1,.own 2,.own 3]),.row 82 (.nm .sess) (se),.row 63 (.nm .opn) (op),.row 73 (.nm .snap) (sn)] ⟨[op.length<1048576],[.agg (cellsOf (.nm .reply) ((bf (State.mk v nx kp qt se op sn) c).2))],some ([.box 43 ([.int ((((bf (State.mk v nx kp qt se op sn) c).1).version)),.int ((((bf (State.mk v nx kp qt se op sn) c).1).next)),.int ((((bf (State.mk v nx kp qt se op sn) c).1).keep)),.int ((((bf (State.mk v nx kp qt se op sn) c).1).quota)),.own 1,.own 2,.own 3]),.row 82 (.nm .sess) ((((bf (State.mk v nx kp qt se op sn) c).1).sess)),.row 63 (.nm .opn) ((((bf (State.mk v nx kp qt se op sn) c).1).opens)),.row 73 (.nm .snap) ((((bf (State.mk v nx kp qt se op sn) c).1).snaps))]),false⟩:=by
 refine dy iB (xG c v nx kp qt se op sn) Tryz.func143 (by decide) (by kernel_rfl) ?_
 rw [DJ]
 (repeat' (first | with_reducible refine And.intro ?_ ?_ | with_reducible refine and_imp.2 ?_ | intro))
 all_goals try (first | (first | with_reducible rfl | with_reducible assumption | omega | (refine ag ?_ ?_ <;> omega)) | exact rfl | exact cO (by with_reducible assumption) | exact (EN (by with_reducible assumption) (by with_reducible assumption) (by with_reducible assumption)) | exact (Dx (by with_reducible assumption) (by omega) (by with_reducible assumption) (by assumption)) | (rw [Sk]; omega) | (rw [RK]; omega))
 all_goals try (refine ⟨0,?_⟩; (repeat' (first | with_reducible refine And.intro ?_ ?_ | with_reducible refine and_imp.2 ?_ | intro)))
 all_goals try (first | (first | with_reducible rfl | with_reducible assumption | omega | (refine ag ?_ ?_ <;> omega)) | exact rfl | exact cO (by with_reducible assumption) | exact (EN (by with_reducible assumption) (by with_reducible assumption) (by with_reducible assumption)) | exact (Dx (by with_reducible assumption) (by omega) (by with_reducible assumption) (by assumption)) | (rw [Sk]; omega) | (rw [RK]; omega))
 all_goals try (refine ⟨‹Nat› + 1,?_⟩; (repeat' (first | with_reducible refine And.intro ?_ ?_ | with_reducible refine and_imp.2 ?_ | intro)))
 all_goals (first | (first | with_reducible rfl | with_reducible assumption | omega | (refine ag ?_ ?_ <;> omega)) | exact rfl | exact cO (by with_reducible assumption) | exact (EN (by with_reducible assumption) (by with_reducible assumption) (by with_reducible assumption)) | exact (Dx (by with_reducible assumption) (by omega) (by with_reducible assumption) (by assumption)) | (rw [Sk]; omega) | (rw [RK]; omega))
theorem EU (c:Command) (v:Int) (nx:Int) (kp:Int) (qt:Int) (se:List Sess) (op:List Opn) (sn:List Snap) (r0:Reply) (r1:Int) (r2:Int) (r3:Int) (r4:Int) (r5:List Sess) (r6:List Opn) (r7:List Snap):nh aF qo [] Tryz.f147 [.c (.ptr 0 0),.agg (cellsOf (.nm .command) c)] [.box 43 ([.int (v),.int (nx),.int (kp),.int (qt),.own 1,.own 2,.own 3]),.row 82 (.nm .sess) (se),.row 63 (.nm .opn) (op),.row 73 (.nm .snap) (sn)] [.agg (cellsOf (.nm .reply) r0)] [.box 43 ([.int (r1),.int (r2),.int (r3),.int (r4),.own 1,.own 2,.own 3]),.row 82 (.nm .sess) (r5),.row 63 (.nm .opn) (r6),.row 73 (.nm .snap) (r7)]=((fun (q1:Int)=>(fun (q0:Int)=>I64 c.kind->I64 c.client->I64 c.seq->I64 c.set->I64 c.id->I64 c.n->c.chunks.length*(8:Nat)<=(140737488355328:Nat)->c.text.b.length<=(140737488355328:Nat)->I64 q0->(q0<q1->I64 (15:Int)->I64 q1->(15:Int)=r0.code/\q1=r0.n/\v=r1/\nx=r2/\kp=r3/\qt=r4/\se=r5/\op=r6/\sn=r7)/\(q1<=q0->I64 (q0+(1:Int))/\(q1<=q0/\q0<(↑op.length:Int)/\q0+(1:Int)=q0+(1:Int))/\q1=r0.code/\q1=r0.n/\v=r1/\nx=r2/\kp=r3/\qt=r4/\se=r5/\List.take q0.toNat op++List.drop (q0+(1:Int)).toNat op=r6/\sn=r7)) (ck (State.mk v nx kp qt se op sn) c)) (0:Int)):=by kernel_rfl
theorem DB (c:Command) (v:Int) (nx:Int) (kp:Int) (qt:Int) (se:List Sess) (op:List Opn) (sn:List Snap) (h0:op.length<1048576):Sat Tryz.prog (ao aF) 147 [.c (.ptr 0 0),.agg (cellsOf (.nm .command) c)] [.box 43 ([.int (v),.int (nx),.int (kp),.int (qt),.own 1,.own 2,.own 3]),.row 82 (.nm .sess) (se),.row 63 (.nm .opn) (op),.row 73 (.nm .snap) (sn)] ⟨[op.length<1048576],[.agg (cellsOf (.nm .reply) ((bj (State.mk v nx kp qt se op sn) c).2))],some ([.box 43 ([.int ((((bj (State.mk v nx kp qt se op sn) c).1).version)),.int ((((bj (State.mk v nx kp qt se op sn) c).1).next)),.int ((((bj (State.mk v nx kp qt se op sn) c).1).keep)),.int ((((bj (State.mk v nx kp qt se op sn) c).1).quota)),.own 1,.own 2,.own 3]),.row 82 (.nm .sess) ((((bj (State.mk v nx kp qt se op sn) c).1).sess)),.row 63 (.nm .opn) ((((bj (State.mk v nx kp qt se op sn) c).1).opens)),.row 73 (.nm .snap) ((((bj (State.mk v nx kp qt se op sn) c).1).snaps))]),false⟩:=by
 refine dy iB [] Tryz.func147 (by decide) (by kernel_rfl) ?_
 rw [EU]
 have hl:0<=ck (State.mk v nx kp qt se op sn) c->ck (State.mk v nx kp qt se op sn) c+1<=(op.length:Int):=fun h=>En h
 (repeat' (first | with_reducible refine And.intro ?_ ?_ | with_reducible refine and_imp.2 ?_ | intro))
 all_goals (first | (first | with_reducible rfl | with_reducible assumption | omega | (refine ag ?_ ?_ <;> omega)) | (rw [SZ]; omega) | (rw [To]; omega))
theorem Aq (c:Command) (v:Int) (nx:Int) (kp:Int) (qt:Int) (se:List Sess) (op:List Opn) (sn:List Snap) (r0:Reply) (r1:Int) (r2:Int) (r3:Int) (r4:Int) (r5:List Sess) (r6:List Opn) (r7:List Snap):nh aF qo [] Tryz.f145 [.c (.ptr 0 0),.agg (cellsOf (.nm .command) c)] [.box 43 ([.int (v),.int (nx),.int (kp),.int (qt),.own 1,.own 2,.own 3]),.row 82 (.nm .sess) (se),.row 63 (.nm .opn) (op),.row 73 (.nm .snap) (sn)] [.agg (cellsOf (.nm .reply) r0)] [.box 43 ([.int (r1),.int (r2),.int (r3),.int (r4),.own 1,.own 2,.own 3]),.row 82 (.nm .sess) (r5),.row 63 (.nm .opn) (r6),.row 73 (.nm .snap) (r7)]=((fun (q6:Snap)=>(fun (q5:Int)=>(fun (q4:Prop)=>(fun (q3:Int)=>(fun (q2:Int)=>(fun (q1:Prop)=>(fun (q0:Int)=>I64 c.kind->I64 c.client->I64 c.seq->I64 c.set->I64 c.id->I64 c.n->q4->c.text.b.length<=(140737488355328:Nat)->I64 q0->(q0<q3->I64 (15:Int)->I64 q3->(15:Int)=r0.code/\q1)/\(q3<=q0->((16:Int)<=(↑sn.length:Int)\/(1048576:Int)<=nx->I64 (20:Int)->I64 q3->(20:Int)=r0.code/\q1)/\((↑sn.length:Int)<(16:Int)/\nx<(1048576:Int)->(¬qt=q3->nch sn<=(1048576:Nat))/\((¬qt=q3->I64 q2)->(¬qt=q3/\qt<q2->I64 (19:Int)->I64 q3->(19:Int)=r0.code/\q1)/\(qt=q3\/q2<=qt->q4->(sn.length+[q6].length)*(64:Nat)<=(140737488355328:Nat)/\I64 (nx+q5)/\I64 (q0+q5)/\(q3<=q0/\q0<(↑op.length:Int)/\q0+q5=q0+q5)/\q3=r0.code/\nx=r0.n/\v=r1/\nx+q5=r2/\kp=r3/\qt=r4/\se=r5/\List.take q0.toNat op++List.drop (q0+q5).toNat op=r6/\sn++[q6]=r7))))) (ck (State.mk v nx kp qt se op sn) c)) (q3=r0.n/\v=r1/\nx=r2/\kp=r3/\qt=r4/\se=r5/\op=r6/\sn=r7)) (↑(distF (sn++[Snap.mk q3 q3 c.chunks false (Str.mk [])])):Int)) (0:Int)) (c.chunks.length*(8:Nat)<=(140737488355328:Nat))) (1:Int)) (Snap.mk nx c.set c.chunks false (Str.mk []))):=by kernel_rfl
theorem z_ (c:Command) (v:Int) (nx:Int) (kp:Int) (qt:Int) (se:List Sess) (op:List Opn) (sn:List Snap) (h0:nch sn<=1048576) (h1:sn.length<1048576) (h2:op.length<1048576) (h3:0<=nx):Sat Tryz.prog (ao aF) 145 [.c (.ptr 0 0),.agg (cellsOf (.nm .command) c)] [.box 43 ([.int (v),.int (nx),.int (kp),.int (qt),.own 1,.own 2,.own 3]),.row 82 (.nm .sess) (se),.row 63 (.nm .opn) (op),.row 73 (.nm .snap) (sn)] ⟨[nch sn<=1048576,sn.length<1048576,op.length<1048576,0<=nx],[.agg (cellsOf (.nm .reply) ((a_ (State.mk v nx kp qt se op sn) c).2))],some ([.box 43 ([.int ((((a_ (State.mk v nx kp qt se op sn) c).1).version)),.int ((((a_ (State.mk v nx kp qt se op sn) c).1).next)),.int ((((a_ (State.mk v nx kp qt se op sn) c).1).keep)),.int ((((a_ (State.mk v nx kp qt se op sn) c).1).quota)),.own 1,.own 2,.own 3]),.row 82 (.nm .sess) ((((a_ (State.mk v nx kp qt se op sn) c).1).sess)),.row 63 (.nm .opn) ((((a_ (State.mk v nx kp qt se op sn) c).1).opens)),.row 73 (.nm .snap) ((((a_ (State.mk v nx kp qt se op sn) c).1).snaps))]),false⟩:=by
 refine dy iB [] Tryz.func145 (by decide) (by kernel_rfl) ?_
 rw [Aq]
 have hl:0<=ck (State.mk v nx kp qt se op sn) c->ck (State.mk v nx kp qt se op sn) c+1<=(op.length:Int):=fun h=>En h
 (repeat' (first | with_reducible refine And.intro ?_ ?_ | with_reducible refine and_imp.2 ?_ | intro))
 all_goals (first | (first | with_reducible rfl | with_reducible assumption | omega | (refine ag ?_ ?_ <;> omega)) | (simp only [a_,Iq]; grind) | (simp only [List.length_cons,List.length_nil]; omega))
theorem Ma (i:Int) (v:Int) (nx:Int) (kp:Int) (qt:Int) (se:List Sess) (op:List Opn) (sn:List Snap) (r0:Reply) (r1:Int) (r2:Int) (r3:Int) (r4:Int) (r5:List Sess) (r6:List Opn) (r7:List Snap):nh aF qo [] Tryz.f151 [.c (.int (i)),.c (.ptr 0 0)] [.box 43 ([.int (v),.int (nx),.int (kp),.int (qt),.own 1,.own 2,.own 3]),.row 82 (.nm .sess) (se),.row 63 (.nm .opn) (op),.row 73 (.nm .snap) (sn)] [.agg (cellsOf (.nm .reply) r0)] [.box 43 ([.int (r1),.int (r2),.int (r3),.int (r4),.own 1,.own 2,.own 3]),.row 82 (.nm .sess) (r5),.row 63 (.nm .opn) (r6),.row 73 (.nm .snap) (r7)]=((fun (q0:State × Reply)=>I64 i->((0:Int)<=i/\i<(↑sn.length:Int))/\nch sn<=(1048576:Nat)/\(I64 q0.snd.code->I64 q0.snd.n->q0.snd.code=r0.code/\q0.snd.n=r0.n/\q0.fst.version=r1/\q0.fst.next=r2/\q0.fst.keep=r3/\q0.fst.quota=r4/\q0.fst.sess=r5/\q0.fst.opens=r6/\q0.fst.snaps=r7)) (aU (State.mk v nx kp qt se op sn) i.toNat)):=by kernel_rfl
theorem N_ (i:Int) (v:Int) (nx:Int) (kp:Int) (qt:Int) (se:List Sess) (op:List Opn) (sn:List Snap) (h0:0<=i/\i<(sn.length:Int)) (h1:nch sn<=1048576):Sat Tryz.prog (ao aF) 151 [.c (.int (i)),.c (.ptr 0 0)] [.box 43 ([.int (v),.int (nx),.int (kp),.int (qt),.own 1,.own 2,.own 3]),.row 82 (.nm .sess) (se),.row 63 (.nm .opn) (op),.row 73 (.nm .snap) (sn)] ⟨[0<=i/\i<(sn.length:Int),nch sn<=1048576],[.agg (cellsOf (.nm .reply) ((aU (State.mk v nx kp qt se op sn) i.toNat).2))],some ([.box 43 ([.int ((((aU (State.mk v nx kp qt se op sn) i.toNat).1).version)),.int ((((aU (State.mk v nx kp qt se op sn) i.toNat).1).next)),.int ((((aU (State.mk v nx kp qt se op sn) i.toNat).1).keep)),.int ((((aU (State.mk v nx kp qt se op sn) i.toNat).1).quota)),.own 1,.own 2,.own 3]),.row 82 (.nm .sess) ((((aU (State.mk v nx kp qt se op sn) i.toNat).1).sess)),.row 63 (.nm .opn) ((((aU (State.mk v nx kp qt se op sn) i.toNat).1).opens)),.row 73 (.nm .snap) ((((aU (State.mk v nx kp qt se op sn) i.toNat).1).snaps))]),false⟩:=by
 refine dy iB [] Tryz.func151 (by decide) (by kernel_rfl) ?_
 rw [Ma]
 (repeat' (first | with_reducible refine And.intro ?_ ?_ | with_reducible refine and_imp.2 ?_ | intro))
 all_goals (first | (first | with_reducible rfl | with_reducible assumption | omega | (refine ag ?_ ?_ <;> omega)) | exact rfl)
def kq:cH:=(bB 151 (bw (ai (kC cI) (ai (kC (bX 0 0)) aH)) (ay (bV 43 (aw cI (aw cI (aw cI (aw cI (aw (bl 1) (aw (bl 2) (aw (bl 3) bT)))))))) (ay (bm 82 (.nm .sess)) (ay (bm 63 (.nm .opn)) (ay (bm 73 (.nm .snap)) aJ)))) fun (i,_,_) ((v,nx,kp,qt,_,_,_,_),se,op,sn,_)=>⟨[0<=i/\i<(sn.length:Int),nch sn<=1048576],[.agg (cellsOf (.nm .reply) ((aU (State.mk v nx kp qt se op sn) i.toNat).2))],some ([.box 43 ([.int ((((aU (State.mk v nx kp qt se op sn) i.toNat).1).version)),.int ((((aU (State.mk v nx kp qt se op sn) i.toNat).1).next)),.int ((((aU (State.mk v nx kp qt se op sn) i.toNat).1).keep)),.int ((((aU (State.mk v nx kp qt se op sn) i.toNat).1).quota)),.own 1,.own 2,.own 3]),.row 82 (.nm .sess) ((((aU (State.mk v nx kp qt se op sn) i.toNat).1).sess)),.row 63 (.nm .opn) ((((aU (State.mk v nx kp qt se op sn) i.toNat).1).opens)),.row 73 (.nm .snap) ((((aU (State.mk v nx kp qt se op sn) i.toNat).1).snaps))]),false⟩) (bB 145 (bw (ai (kC (bX 0 0)) (ai (kT (.nm .command)) aH)) (ay (bV 43 (aw cI (aw cI (aw cI (aw cI (aw (bl 1) (aw (bl 2) (aw (bl 3) bT)))))))) (ay (bm 82 (.nm .sess)) (ay (bm 63 (.nm .opn)) (ay (bm 73 (.nm .snap)) aJ)))) fun (_,c,_) ((v,nx,kp,qt,_,_,_,_),se,op,sn,_)=>⟨[nch sn<=1048576,sn.length<1048576,op.length<1048576,0<=nx],[.agg (cellsOf (.nm .reply) ((a_ (State.mk v nx kp qt se op sn) c).2))],some ([.box 43 ([.int ((((a_ (State.mk v nx kp qt se op sn) c).1).version)),.int ((((a_ (State.mk v nx kp qt se op sn) c).1).next)),.int ((((a_ (State.mk v nx kp qt se op sn) c).1).keep)),.int ((((a_ (State.mk v nx kp qt se op sn) c).1).quota)),.own 1,.own 2,.own 3]),.row 82 (.nm .sess) ((((a_ (State.mk v nx kp qt se op sn) c).1).sess)),.row 63 (.nm .opn) ((((a_ (State.mk v nx kp qt se op sn) c).1).opens)),.row 73 (.nm .snap) ((((a_ (State.mk v nx kp qt se op sn) c).1).snaps))]),false⟩) (bB 147 (bw (ai (kC (bX 0 0)) (ai (kT (.nm .command)) aH)) (ay (bV 43 (aw cI (aw cI (aw cI (aw cI (aw (bl 1) (aw (bl 2) (aw (bl 3) bT)))))))) (ay (bm 82 (.nm .sess)) (ay (bm 63 (.nm .opn)) (ay (bm 73 (.nm .snap)) aJ)))) fun (_,c,_) ((v,nx,kp,qt,_,_,_,_),se,op,sn,_)=>⟨[op.length<1048576],[.agg (cellsOf (.nm .reply) ((bj (State.mk v nx kp qt se op sn) c).2))],some ([.box 43 ([.int ((((bj (State.mk v nx kp qt se op sn) c).1).version)),.int ((((bj (State.mk v nx kp qt se op sn) c).1).next)),.int ((((bj (State.mk v nx kp qt se op sn) c).1).keep)),.int ((((bj (State.mk v nx kp qt se op sn) c).1).quota)),.own 1,.own 2,.own 3]),.row 82 (.nm .sess) ((((bj (State.mk v nx kp qt se op sn) c).1).sess)),.row 63 (.nm .opn) ((((bj (State.mk v nx kp qt se op sn) c).1).opens)),.row 73 (.nm .snap) ((((bj (State.mk v nx kp qt se op sn) c).1).snaps))]),false⟩) (bB 143 (bw (ai (kC (bX 0 0)) (ai (kT (.nm .command)) aH)) (ay (bV 43 (aw cI (aw cI (aw cI (aw cI (aw (bl 1) (aw (bl 2) (aw (bl 3) bT)))))))) (ay (bm 82 (.nm .sess)) (ay (bm 63 (.nm .opn)) (ay (bm 73 (.nm .snap)) aJ)))) fun (_,c,_) ((v,nx,kp,qt,_,_,_,_),se,op,sn,_)=>⟨[op.length<1048576],[.agg (cellsOf (.nm .reply) ((bf (State.mk v nx kp qt se op sn) c).2))],some ([.box 43 ([.int ((((bf (State.mk v nx kp qt se op sn) c).1).version)),.int ((((bf (State.mk v nx kp qt se op sn) c).1).next)),.int ((((bf (State.mk v nx kp qt se op sn) c).1).keep)),.int ((((bf (State.mk v nx kp qt se op sn) c).1).quota)),.own 1,.own 2,.own 3]),.row 82 (.nm .sess) ((((bf (State.mk v nx kp qt se op sn) c).1).sess)),.row 63 (.nm .opn) ((((bf (State.mk v nx kp qt se op sn) c).1).opens)),.row 73 (.nm .snap) ((((bf (State.mk v nx kp qt se op sn) c).1).snaps))]),false⟩) qo))))
theorem eR:aS Tryz.prog (ao aF) kq:=(aq (au (ab (al av) (ab (al aL) aj)) (ah (aK (ae av (ae av (ae av (ae av (ae aD (ae aD (ae aD aI)))))))) (ah aE (ah aE (ah aE ak)))) fun (i,_,_) ((v,nx,kp,qt,_,_,_,_),se,op,sn,_) hp=>N_ i v nx kp qt se op sn (dx hp) (dx (eg hp))) (aq (au (ab (al aL) (ab br aj)) (ah (aK (ae av (ae av (ae av (ae av (ae aD (ae aD (ae aD aI)))))))) (ah aE (ah aE (ah aE ak)))) fun (_,c,_) ((v,nx,kp,qt,_,_,_,_),se,op,sn,_) hp=>z_ c v nx kp qt se op sn (dx hp) (dx (eg hp)) (dx (eg (eg hp))) (dx (eg (eg (eg hp))))) (aq (au (ab (al aL) (ab br aj)) (ah (aK (ae av (ae av (ae av (ae av (ae aD (ae aD (ae aD aI)))))))) (ah aE (ah aE (ah aE ak)))) fun (_,c,_) ((v,nx,kp,qt,_,_,_,_),se,op,sn,_) hp=>DB c v nx kp qt se op sn (dx hp)) (aq (au (ab (al aL) (ab br aj)) (ah (aK (ae av (ae av (ae av (ae av (ae aD (ae aD (ae aD aI)))))))) (ah aE (ah aE (ah aE ak)))) fun (_,c,_) ((v,nx,kp,qt,_,_,_,_),se,op,sn,_) hp=>EE c v nx kp qt se op sn (dx hp)) iB))))
end Go.Proofs.YtladifkbefehdaaGreat
namespace Go.Proofs.YtladifkbefehdaaGreat
open Go.RowKit
def aA (f:State->Nat->State × Reply) (c:Command) (s:State):State × Reply:=if ax Snap.id c.id s.snaps<0 then (s,⟨15,0⟩) else f s (ax Snap.id c.id s.snaps).toNat
section
variable {v nx kp qt:Int} {se:List Sess} {op:List Opn} {sn:List Snap} {c:Command} {f:State->Nat->State × Reply}
theorem QS (h:ax Snap.id c.id sn<0):aA f c (State.mk v nx kp qt se op sn)=(State.mk v nx kp qt se op sn,⟨15,0⟩):=by
 simp only [aA,if_pos h]
theorem QQ (h:0<=ax Snap.id c.id sn):aA f c (State.mk v nx kp qt se op sn)=f (State.mk v nx kp qt se op sn) (ax Snap.id c.id sn).toNat:=by
 have h1:¬ ax Snap.id c.id sn<0:=by omega
 simp only [aA,if_neg h1]
end
theorem NR (v:Int) (nx:Int) (kp:Int) (qt:Int) (se:List Sess) (op:List Opn) (sn:List Snap) (c:Command) (r0:Reply) (r1:Int) (r2:Int) (r3:Int) (r4:Int) (r5:List Sess) (r6:List Opn) (r7:List Snap) (r8:Command):nh aF kq [] Tryz.f142 [.c (.ptr 0 0),.c (.ptr 4 0)] [.box 43 ([.int (v),.int (nx),.int (kp),.int (qt),.own 1,.own 2,.own 3]),.row 82 (.nm .sess) (se),.row 63 (.nm .opn) (op),.row 73 (.nm .snap) (sn),.box 24 (cellsOf (.nm .command) (c))] [.agg (cellsOf (.nm .reply) r0)] [.box 43 ([.int (r1),.int (r2),.int (r3),.int (r4),.own 1,.own 2,.own 3]),.row 82 (.nm .sess) (r5),.row 63 (.nm .opn) (r6),.row 73 (.nm .snap) (r7),.box 24 (cellsOf (.nm .command) (r8))]=((fun (q0:State × Reply)=>op.length<(1048576:Nat)/\(I64 q0.snd.code->I64 q0.snd.n->q0.snd.code=r0.code/\q0.snd.n=r0.n/\q0.fst.version=r1/\q0.fst.next=r2/\q0.fst.keep=r3/\q0.fst.quota=r4/\q0.fst.sess=r5/\q0.fst.opens=r6/\q0.fst.snaps=r7/\c.kind=r8.kind/\c.client=r8.client/\c.seq=r8.seq/\c.set=r8.set/\c.id=r8.id/\c.n=r8.n/\c.chunks=r8.chunks/\c.text=r8.text)) (bf (State.mk v nx kp qt se op sn) c)):=by kernel_rfl
theorem Om (v:Int) (nx:Int) (kp:Int) (qt:Int) (se:List Sess) (op:List Opn) (sn:List Snap) (c:Command) (h0:op.length<1048576):Sat Tryz.prog (ao aF) 142 [.c (.ptr 0 0),.c (.ptr 4 0)] [.box 43 ([.int (v),.int (nx),.int (kp),.int (qt),.own 1,.own 2,.own 3]),.row 82 (.nm .sess) (se),.row 63 (.nm .opn) (op),.row 73 (.nm .snap) (sn),.box 24 (cellsOf (.nm .command) (c))] ⟨[op.length<1048576],[.agg (cellsOf (.nm .reply) ((bf (State.mk v nx kp qt se op sn) c).2))],some ([.box 43 ([.int ((((bf (State.mk v nx kp qt se op sn) c).1).version)),.int ((((bf (State.mk v nx kp qt se op sn) c).1).next)),.int ((((bf (State.mk v nx kp qt se op sn) c).1).keep)),.int ((((bf (State.mk v nx kp qt se op sn) c).1).quota)),.own 1,.own 2,.own 3]),.row 82 (.nm .sess) ((((bf (State.mk v nx kp qt se op sn) c).1).sess)),.row 63 (.nm .opn) ((((bf (State.mk v nx kp qt se op sn) c).1).opens)),.row 73 (.nm .snap) ((((bf (State.mk v nx kp qt se op sn) c).1).snaps)),.box 24 (cellsOf (.nm .command) ((c)))]),false⟩:=by
 refine dy eR [] Tryz.func142 (by decide) (by kernel_rfl) ?_
 rw [NR]
 (repeat' (first | with_reducible refine And.intro ?_ ?_ | with_reducible refine and_imp.2 ?_ | intro))
 all_goals (first | (first | with_reducible rfl | with_reducible assumption | omega | (refine ag ?_ ?_ <;> omega)) | exact rfl)
theorem Nm (v:Int) (nx:Int) (kp:Int) (qt:Int) (se:List Sess) (op:List Opn) (sn:List Snap) (c:Command) (r0:Reply) (r1:Int) (r2:Int) (r3:Int) (r4:Int) (r5:List Sess) (r6:List Opn) (r7:List Snap) (r8:Command):nh aF kq [] Tryz.f144 [.c (.ptr 0 0),.c (.ptr 4 0)] [.box 43 ([.int (v),.int (nx),.int (kp),.int (qt),.own 1,.own 2,.own 3]),.row 82 (.nm .sess) (se),.row 63 (.nm .opn) (op),.row 73 (.nm .snap) (sn),.box 24 (cellsOf (.nm .command) (c))] [.agg (cellsOf (.nm .reply) r0)] [.box 43 ([.int (r1),.int (r2),.int (r3),.int (r4),.own 1,.own 2,.own 3]),.row 82 (.nm .sess) (r5),.row 63 (.nm .opn) (r6),.row 73 (.nm .snap) (r7),.box 24 (cellsOf (.nm .command) (r8))]=((fun (q0:State × Reply)=>nch sn<=(1048576:Nat)/\sn.length<(1048576:Nat)/\op.length<(1048576:Nat)/\(0:Int)<=nx/\(I64 q0.snd.code->I64 q0.snd.n->q0.snd.code=r0.code/\q0.snd.n=r0.n/\q0.fst.version=r1/\q0.fst.next=r2/\q0.fst.keep=r3/\q0.fst.quota=r4/\q0.fst.sess=r5/\q0.fst.opens=r6/\q0.fst.snaps=r7/\c.kind=r8.kind/\c.client=r8.client/\c.seq=r8.seq/\c.set=r8.set/\c.id=r8.id/\c.n=r8.n/\c.chunks=r8.chunks/\c.text=r8.text)) (a_ (State.mk v nx kp qt se op sn) c)):=by kernel_rfl
theorem MA (v:Int) (nx:Int) (kp:Int) (qt:Int) (se:List Sess) (op:List Opn) (sn:List Snap) (c:Command) (h0:nch sn<=1048576) (h1:sn.length<1048576) (h2:op.length<1048576) (h3:0<=nx):Sat Tryz.prog (ao aF) 144 [.c (.ptr 0 0),.c (.ptr 4 0)] [.box 43 ([.int (v),.int (nx),.int (kp),.int (qt),.own 1,.own 2,.own 3]),.row 82 (.nm .sess) (se),.row 63 (.nm .opn) (op),.row 73 (.nm .snap) (sn),.box 24 (cellsOf (.nm .command) (c))] ⟨[nch sn<=1048576,sn.length<1048576,op.length<1048576,0<=nx],[.agg (cellsOf (.nm .reply) ((a_ (State.mk v nx kp qt se op sn) c).2))],some ([.box 43 ([.int ((((a_ (State.mk v nx kp qt se op sn) c).1).version)),.int ((((a_ (State.mk v nx kp qt se op sn) c).1).next)),.int ((((a_ (State.mk v nx kp qt se op sn) c).1).keep)),.int ((((a_ (State.mk v nx kp qt se op sn) c).1).quota)),.own 1,.own 2,.own 3]),.row 82 (.nm .sess) ((((a_ (State.mk v nx kp qt se op sn) c).1).sess)),.row 63 (.nm .opn) ((((a_ (State.mk v nx kp qt se op sn) c).1).opens)),.row 73 (.nm .snap) ((((a_ (State.mk v nx kp qt se op sn) c).1).snaps)),.box 24 (cellsOf (.nm .command) ((c)))]),false⟩:=by
 refine dy eR [] Tryz.func144 (by decide) (by kernel_rfl) ?_
 rw [Nm]
 (repeat' (first | with_reducible refine And.intro ?_ ?_ | with_reducible refine and_imp.2 ?_ | intro))
 all_goals (first | (first | with_reducible rfl | with_reducible assumption | omega | (refine ag ?_ ?_ <;> omega)) | exact rfl)
theorem MJ (v:Int) (nx:Int) (kp:Int) (qt:Int) (se:List Sess) (op:List Opn) (sn:List Snap) (c:Command) (r0:Reply) (r1:Int) (r2:Int) (r3:Int) (r4:Int) (r5:List Sess) (r6:List Opn) (r7:List Snap) (r8:Command):nh aF kq [] Tryz.f146 [.c (.ptr 0 0),.c (.ptr 4 0)] [.box 43 ([.int (v),.int (nx),.int (kp),.int (qt),.own 1,.own 2,.own 3]),.row 82 (.nm .sess) (se),.row 63 (.nm .opn) (op),.row 73 (.nm .snap) (sn),.box 24 (cellsOf (.nm .command) (c))] [.agg (cellsOf (.nm .reply) r0)] [.box 43 ([.int (r1),.int (r2),.int (r3),.int (r4),.own 1,.own 2,.own 3]),.row 82 (.nm .sess) (r5),.row 63 (.nm .opn) (r6),.row 73 (.nm .snap) (r7),.box 24 (cellsOf (.nm .command) (r8))]=((fun (q0:State × Reply)=>op.length<(1048576:Nat)/\(I64 q0.snd.code->I64 q0.snd.n->q0.snd.code=r0.code/\q0.snd.n=r0.n/\q0.fst.version=r1/\q0.fst.next=r2/\q0.fst.keep=r3/\q0.fst.quota=r4/\q0.fst.sess=r5/\q0.fst.opens=r6/\q0.fst.snaps=r7/\c.kind=r8.kind/\c.client=r8.client/\c.seq=r8.seq/\c.set=r8.set/\c.id=r8.id/\c.n=r8.n/\c.chunks=r8.chunks/\c.text=r8.text)) (bj (State.mk v nx kp qt se op sn) c)):=by kernel_rfl
theorem Oc (v:Int) (nx:Int) (kp:Int) (qt:Int) (se:List Sess) (op:List Opn) (sn:List Snap) (c:Command) (h0:op.length<1048576):Sat Tryz.prog (ao aF) 146 [.c (.ptr 0 0),.c (.ptr 4 0)] [.box 43 ([.int (v),.int (nx),.int (kp),.int (qt),.own 1,.own 2,.own 3]),.row 82 (.nm .sess) (se),.row 63 (.nm .opn) (op),.row 73 (.nm .snap) (sn),.box 24 (cellsOf (.nm .command) (c))] ⟨[op.length<1048576],[.agg (cellsOf (.nm .reply) ((bj (State.mk v nx kp qt se op sn) c).2))],some ([.box 43 ([.int ((((bj (State.mk v nx kp qt se op sn) c).1).version)),.int ((((bj (State.mk v nx kp qt se op sn) c).1).next)),.int ((((bj (State.mk v nx kp qt se op sn) c).1).keep)),.int ((((bj (State.mk v nx kp qt se op sn) c).1).quota)),.own 1,.own 2,.own 3]),.row 82 (.nm .sess) ((((bj (State.mk v nx kp qt se op sn) c).1).sess)),.row 63 (.nm .opn) ((((bj (State.mk v nx kp qt se op sn) c).1).opens)),.row 73 (.nm .snap) ((((bj (State.mk v nx kp qt se op sn) c).1).snaps)),.box 24 (cellsOf (.nm .command) ((c)))]),false⟩:=by
 refine dy eR [] Tryz.func146 (by decide) (by kernel_rfl) ?_
 rw [MJ]
 (repeat' (first | with_reducible refine And.intro ?_ ?_ | with_reducible refine and_imp.2 ?_ | intro))
 all_goals (first | (first | with_reducible rfl | with_reducible assumption | omega | (refine ag ?_ ?_ <;> omega)) | exact rfl)
theorem rv (v:Int) (nx:Int) (kp:Int) (qt:Int) (se:List Sess) (op:List Opn) (sn:List Snap) (c:Command) (r0:Int) (r1:Int) (r2:Int) (r3:Int) (r4:List Sess) (r5:List Opn) (r6:List Snap) (r7:Command):ma aF kq [] Tryz.f137 [.c (.fn 151 [] [(0,0)]),.c (.ptr 0 0),.c (.ptr 4 0)] [.box 43 ([.int (v),.int (nx),.int (kp),.int (qt),.own 1,.own 2,.own 3]),.row 82 (.nm .sess) (se),.row 63 (.nm .opn) (op),.row 73 (.nm .snap) (sn),.box 24 (cellsOf (.nm .command) (c))] [.c (.fn 138 [] [(0,0),(4,0),(5,0)])] [.box 43 ([.int (r0),.int (r1),.int (r2),.int (r3),.own 1,.own 2,.own 3]),.row 82 (.nm .sess) (r4),.row 63 (.nm .opn) (r5),.row 73 (.nm .snap) (r6),.box 24 (cellsOf (.nm .command) (r7)),.box 168 ([.fn 151 [] [(0,0)]])]=(v=r0/\nx=r1/\kp=r2/\qt=r3/\se=r4/\op=r5/\sn=r6/\c.kind=r7.kind/\c.client=r7.client/\c.seq=r7.seq/\c.set=r7.set/\c.id=r7.id/\c.n=r7.n/\c.chunks=r7.chunks/\c.text=r7.text):=by kernel_rfl
theorem rI (v:Int) (nx:Int) (kp:Int) (qt:Int) (se:List Sess) (op:List Opn) (sn:List Snap) (c:Command):Sat Tryz.prog (ao aF) 137 [.c (.fn 151 [] [(0,0)]),.c (.ptr 0 0),.c (.ptr 4 0)] [.box 43 ([.int (v),.int (nx),.int (kp),.int (qt),.own 1,.own 2,.own 3]),.row 82 (.nm .sess) (se),.row 63 (.nm .opn) (op),.row 73 (.nm .snap) (sn),.box 24 (cellsOf (.nm .command) (c))] ⟨[],[.c (.fn 138 [] [(0,0),(4,0),(5,0)])],some ([.box 43 ([.int ((v)),.int ((nx)),.int ((kp)),.int ((qt)),.own 1,.own 2,.own 3]),.row 82 (.nm .sess) ((se)),.row 63 (.nm .opn) ((op)),.row 73 (.nm .snap) ((sn)),.box 24 (cellsOf (.nm .command) ((c))),.box 168 ([.fn 151 [] [(0,0)]])]),true⟩:=by
 refine di eR [] Tryz.func137 (by decide) (by kernel_rfl) ?_
 rw [rv]
 (repeat' (first | with_reducible refine And.intro ?_ ?_ | with_reducible refine and_imp.2 ?_ | intro))
 all_goals (first | (first | with_reducible rfl | with_reducible assumption | omega | (refine ag ?_ ?_ <;> omega)) | exact rfl)
theorem uE (v:Int) (nx:Int) (kp:Int) (qt:Int) (se:List Sess) (op:List Opn) (sn:List Snap) (c:Command) (r0:Int) (r1:Int) (r2:Int) (r3:Int) (r4:List Sess) (r5:List Opn) (r6:List Snap) (r7:Command):ma aF kq [] Tryz.f137 [.c (.fn 153 [] [(0,0)]),.c (.ptr 0 0),.c (.ptr 4 0)] [.box 43 ([.int (v),.int (nx),.int (kp),.int (qt),.own 1,.own 2,.own 3]),.row 82 (.nm .sess) (se),.row 63 (.nm .opn) (op),.row 73 (.nm .snap) (sn),.box 24 (cellsOf (.nm .command) (c))] [.c (.fn 138 [] [(0,0),(4,0),(5,0)])] [.box 43 ([.int (r0),.int (r1),.int (r2),.int (r3),.own 1,.own 2,.own 3]),.row 82 (.nm .sess) (r4),.row 63 (.nm .opn) (r5),.row 73 (.nm .snap) (r6),.box 24 (cellsOf (.nm .command) (r7)),.box 168 ([.fn 153 [] [(0,0)]])]=(v=r0/\nx=r1/\kp=r2/\qt=r3/\se=r4/\op=r5/\sn=r6/\c.kind=r7.kind/\c.client=r7.client/\c.seq=r7.seq/\c.set=r7.set/\c.id=r7.id/\c.n=r7.n/\c.chunks=r7.chunks/\c.text=r7.text):=by kernel_rfl
theorem ux (v:Int) (nx:Int) (kp:Int) (qt:Int) (se:List Sess) (op:List Opn) (sn:List Snap) (c:Command):Sat Tryz.prog (ao aF) 137 [.c (.fn 153 [] [(0,0)]),.c (.ptr 0 0),.c (.ptr 4 0)] [.box 43 ([.int (v),.int (nx),.int (kp),.int (qt),.own 1,.own 2,.own 3]),.row 82 (.nm .sess) (se),.row 63 (.nm .opn) (op),.row 73 (.nm .snap) (sn),.box 24 (cellsOf (.nm .command) (c))] ⟨[],[.c (.fn 138 [] [(0,0),(4,0),(5,0)])],some ([.box 43 ([.int ((v)),.int ((nx)),.int ((kp)),.int ((qt)),.own 1,.own 2,.own 3]),.row 82 (.nm .sess) ((se)),.row 63 (.nm .opn) ((op)),.row 73 (.nm .snap) ((sn)),.box 24 (cellsOf (.nm .command) ((c))),.box 168 ([.fn 153 [] [(0,0)]])]),true⟩:=by
 refine di eR [] Tryz.func137 (by decide) (by kernel_rfl) ?_
 rw [uE]
 (repeat' (first | with_reducible refine And.intro ?_ ?_ | with_reducible refine and_imp.2 ?_ | intro))
 all_goals (first | (first | with_reducible rfl | with_reducible assumption | omega | (refine ag ?_ ?_ <;> omega)) | exact rfl)
theorem wS (c:Command) (v:Int) (nx:Int) (kp:Int) (qt:Int) (se:List Sess) (op:List Opn) (sn:List Snap) (r0:Command) (r1:Int) (r2:Int) (r3:Int) (r4:Int) (r5:List Sess) (r6:List Opn) (r7:List Snap):ma aF kq [] Tryz.f137 [.c (.fn 154 [] [(0,0),(1,0)]),.c (.ptr 1 0),.c (.ptr 0 0)] [.box 24 (cellsOf (.nm .command) (c)),.box 43 ([.int (v),.int (nx),.int (kp),.int (qt),.own 2,.own 3,.own 4]),.row 82 (.nm .sess) (se),.row 63 (.nm .opn) (op),.row 73 (.nm .snap) (sn)] [.c (.fn 138 [] [(1,0),(0,0),(5,0)])] [.box 24 (cellsOf (.nm .command) (r0)),.box 43 ([.int (r1),.int (r2),.int (r3),.int (r4),.own 2,.own 3,.own 4]),.row 82 (.nm .sess) (r5),.row 63 (.nm .opn) (r6),.row 73 (.nm .snap) (r7),.box 168 ([.fn 154 [] [(0,0),(1,0)]])]=(c.kind=r0.kind/\c.client=r0.client/\c.seq=r0.seq/\c.set=r0.set/\c.id=r0.id/\c.n=r0.n/\c.chunks=r0.chunks/\c.text=r0.text/\v=r1/\nx=r2/\kp=r3/\qt=r4/\se=r5/\op=r6/\sn=r7):=by kernel_rfl
theorem wR (c:Command) (v:Int) (nx:Int) (kp:Int) (qt:Int) (se:List Sess) (op:List Opn) (sn:List Snap):Sat Tryz.prog (ao aF) 137 [.c (.fn 154 [] [(0,0),(1,0)]),.c (.ptr 1 0),.c (.ptr 0 0)] [.box 24 (cellsOf (.nm .command) (c)),.box 43 ([.int (v),.int (nx),.int (kp),.int (qt),.own 2,.own 3,.own 4]),.row 82 (.nm .sess) (se),.row 63 (.nm .opn) (op),.row 73 (.nm .snap) (sn)] ⟨[],[.c (.fn 138 [] [(1,0),(0,0),(5,0)])],some ([.box 24 (cellsOf (.nm .command) ((c))),.box 43 ([.int ((v)),.int ((nx)),.int ((kp)),.int ((qt)),.own 2,.own 3,.own 4]),.row 82 (.nm .sess) ((se)),.row 63 (.nm .opn) ((op)),.row 73 (.nm .snap) ((sn)),.box 168 ([.fn 154 [] [(0,0),(1,0)]])]),true⟩:=by
 refine di eR [] Tryz.func137 (by decide) (by kernel_rfl) ?_
 rw [wS]
 (repeat' (first | with_reducible refine And.intro ?_ ?_ | with_reducible refine and_imp.2 ?_ | intro))
 all_goals (first | (first | with_reducible rfl | with_reducible assumption | omega | (refine ag ?_ ?_ <;> omega)) | exact rfl)
theorem vE (v:Int) (nx:Int) (kp:Int) (qt:Int) (se:List Sess) (op:List Opn) (sn:List Snap) (b:Bool) (c:Command) (r0:Int) (r1:Int) (r2:Int) (r3:Int) (r4:List Sess) (r5:List Opn) (r6:List Snap) (r7:Bool) (r8:Command):ma aF kq [] Tryz.f137 [.c (.fn 141 [] [(0,0),(4,0)]),.c (.ptr 0 0),.c (.ptr 5 0)] [.box 43 ([.int (v),.int (nx),.int (kp),.int (qt),.own 1,.own 2,.own 3]),.row 82 (.nm .sess) (se),.row 63 (.nm .opn) (op),.row 73 (.nm .snap) (sn),.box 4 ([.bool (.atom (b))]),.box 24 (cellsOf (.nm .command) (c))] [.c (.fn 138 [] [(0,0),(5,0),(6,0)])] [.box 43 ([.int (r0),.int (r1),.int (r2),.int (r3),.own 1,.own 2,.own 3]),.row 82 (.nm .sess) (r4),.row 63 (.nm .opn) (r5),.row 73 (.nm .snap) (r6),.box 4 ([.bool (.atom (r7))]),.box 24 (cellsOf (.nm .command) (r8)),.box 168 ([.fn 141 [] [(0,0),(4,0)]])]=(v=r0/\nx=r1/\kp=r2/\qt=r3/\se=r4/\op=r5/\sn=r6/\b=r7/\c.kind=r8.kind/\c.client=r8.client/\c.seq=r8.seq/\c.set=r8.set/\c.id=r8.id/\c.n=r8.n/\c.chunks=r8.chunks/\c.text=r8.text):=by kernel_rfl
theorem tN (v:Int) (nx:Int) (kp:Int) (qt:Int) (se:List Sess) (op:List Opn) (sn:List Snap) (b:Bool) (c:Command):Sat Tryz.prog (ao aF) 137 [.c (.fn 141 [] [(0,0),(4,0)]),.c (.ptr 0 0),.c (.ptr 5 0)] [.box 43 ([.int (v),.int (nx),.int (kp),.int (qt),.own 1,.own 2,.own 3]),.row 82 (.nm .sess) (se),.row 63 (.nm .opn) (op),.row 73 (.nm .snap) (sn),.box 4 ([.bool (.atom (b))]),.box 24 (cellsOf (.nm .command) (c))] ⟨[],[.c (.fn 138 [] [(0,0),(5,0),(6,0)])],some ([.box 43 ([.int ((v)),.int ((nx)),.int ((kp)),.int ((qt)),.own 1,.own 2,.own 3]),.row 82 (.nm .sess) ((se)),.row 63 (.nm .opn) ((op)),.row 73 (.nm .snap) ((sn)),.box 4 ([.bool (.atom ((b)))]),.box 24 (cellsOf (.nm .command) ((c))),.box 168 ([.fn 141 [] [(0,0),(4,0)]])]),true⟩:=by
 refine di eR [] Tryz.func137 (by decide) (by kernel_rfl) ?_
 rw [vE]
 (repeat' (first | with_reducible refine And.intro ?_ ?_ | with_reducible refine and_imp.2 ?_ | intro))
 all_goals (first | (first | with_reducible rfl | with_reducible assumption | omega | (refine ag ?_ ?_ <;> omega)) | exact rfl)
def nT:cH:=(bB 137 (bw (ai (kC (pQ 141 [] [(0,0),(4,0)])) (ai (kC (bX 0 0)) (ai (kC (bX 5 0)) aH))) (ay (bV 43 (aw cI (aw cI (aw cI (aw cI (aw (bl 1) (aw (bl 2) (aw (bl 3) bT)))))))) (ay (bm 82 (.nm .sess)) (ay (bm 63 (.nm .opn)) (ay (bm 73 (.nm .snap)) (ay (bV 4 (aw cB bT)) (ay (bV 24 (sR (.nm .command) bT)) aJ)))))) fun (_,_,_,_) ((v,nx,kp,qt,_,_,_,_),se,op,sn,(b,_),(c,_),_)=>⟨[],[.c (.fn 138 [] [(0,0),(5,0),(6,0)])],some ([.box 43 ([.int ((v)),.int ((nx)),.int ((kp)),.int ((qt)),.own 1,.own 2,.own 3]),.row 82 (.nm .sess) ((se)),.row 63 (.nm .opn) ((op)),.row 73 (.nm .snap) ((sn)),.box 4 ([.bool (.atom ((b)))]),.box 24 (cellsOf (.nm .command) ((c))),.box 168 ([.fn 141 [] [(0,0),(4,0)]])]),true⟩) (bB 137 (bw (ai (kC (pQ 154 [] [(0,0),(1,0)])) (ai (kC (bX 1 0)) (ai (kC (bX 0 0)) aH))) (ay (bV 24 (sR (.nm .command) bT)) (ay (bV 43 (aw cI (aw cI (aw cI (aw cI (aw (bl 2) (aw (bl 3) (aw (bl 4) bT)))))))) (ay (bm 82 (.nm .sess)) (ay (bm 63 (.nm .opn)) (ay (bm 73 (.nm .snap)) aJ))))) fun (_,_,_,_) ((c,_),(v,nx,kp,qt,_,_,_,_),se,op,sn,_)=>⟨[],[.c (.fn 138 [] [(1,0),(0,0),(5,0)])],some ([.box 24 (cellsOf (.nm .command) ((c))),.box 43 ([.int ((v)),.int ((nx)),.int ((kp)),.int ((qt)),.own 2,.own 3,.own 4]),.row 82 (.nm .sess) ((se)),.row 63 (.nm .opn) ((op)),.row 73 (.nm .snap) ((sn)),.box 168 ([.fn 154 [] [(0,0),(1,0)]])]),true⟩) (bB 137 (bw (ai (kC (pQ 153 [] [(0,0)])) (ai (kC (bX 0 0)) (ai (kC (bX 4 0)) aH))) (ay (bV 43 (aw cI (aw cI (aw cI (aw cI (aw (bl 1) (aw (bl 2) (aw (bl 3) bT)))))))) (ay (bm 82 (.nm .sess)) (ay (bm 63 (.nm .opn)) (ay (bm 73 (.nm .snap)) (ay (bV 24 (sR (.nm .command) bT)) aJ))))) fun (_,_,_,_) ((v,nx,kp,qt,_,_,_,_),se,op,sn,(c,_),_)=>⟨[],[.c (.fn 138 [] [(0,0),(4,0),(5,0)])],some ([.box 43 ([.int ((v)),.int ((nx)),.int ((kp)),.int ((qt)),.own 1,.own 2,.own 3]),.row 82 (.nm .sess) ((se)),.row 63 (.nm .opn) ((op)),.row 73 (.nm .snap) ((sn)),.box 24 (cellsOf (.nm .command) ((c))),.box 168 ([.fn 153 [] [(0,0)]])]),true⟩) (bB 137 (bw (ai (kC (pQ 151 [] [(0,0)])) (ai (kC (bX 0 0)) (ai (kC (bX 4 0)) aH))) (ay (bV 43 (aw cI (aw cI (aw cI (aw cI (aw (bl 1) (aw (bl 2) (aw (bl 3) bT)))))))) (ay (bm 82 (.nm .sess)) (ay (bm 63 (.nm .opn)) (ay (bm 73 (.nm .snap)) (ay (bV 24 (sR (.nm .command) bT)) aJ))))) fun (_,_,_,_) ((v,nx,kp,qt,_,_,_,_),se,op,sn,(c,_),_)=>⟨[],[.c (.fn 138 [] [(0,0),(4,0),(5,0)])],some ([.box 43 ([.int ((v)),.int ((nx)),.int ((kp)),.int ((qt)),.own 1,.own 2,.own 3]),.row 82 (.nm .sess) ((se)),.row 63 (.nm .opn) ((op)),.row 73 (.nm .snap) ((sn)),.box 24 (cellsOf (.nm .command) ((c))),.box 168 ([.fn 151 [] [(0,0)]])]),true⟩) (bB 146 (bw (ai (kC (bX 0 0)) (ai (kC (bX 4 0)) aH)) (ay (bV 43 (aw cI (aw cI (aw cI (aw cI (aw (bl 1) (aw (bl 2) (aw (bl 3) bT)))))))) (ay (bm 82 (.nm .sess)) (ay (bm 63 (.nm .opn)) (ay (bm 73 (.nm .snap)) (ay (bV 24 (sR (.nm .command) bT)) aJ))))) fun (_,_,_) ((v,nx,kp,qt,_,_,_,_),se,op,sn,(c,_),_)=>⟨[op.length<1048576],[.agg (cellsOf (.nm .reply) ((bj (State.mk v nx kp qt se op sn) c).2))],some ([.box 43 ([.int ((((bj (State.mk v nx kp qt se op sn) c).1).version)),.int ((((bj (State.mk v nx kp qt se op sn) c).1).next)),.int ((((bj (State.mk v nx kp qt se op sn) c).1).keep)),.int ((((bj (State.mk v nx kp qt se op sn) c).1).quota)),.own 1,.own 2,.own 3]),.row 82 (.nm .sess) ((((bj (State.mk v nx kp qt se op sn) c).1).sess)),.row 63 (.nm .opn) ((((bj (State.mk v nx kp qt se op sn) c).1).opens)),.row 73 (.nm .snap) ((((bj (State.mk v nx kp qt se op sn) c).1).snaps)),.box 24 (cellsOf (.nm .command) ((c)))]),false⟩) (bB 144 (bw (ai (kC (bX 0 0)) (ai (kC (bX 4 0)) aH)) (ay (bV 43 (aw cI (aw cI (aw cI (aw cI (aw (bl 1) (aw (bl 2) (aw (bl 3) bT)))))))) (ay (bm 82 (.nm .sess)) (ay (bm 63 (.nm .opn)) (ay (bm 73 (.nm .snap)) (ay (bV 24 (sR (.nm .command) bT)) aJ))))) fun (_,_,_) ((v,nx,kp,qt,_,_,_,_),se,op,sn,(c,_),_)=>⟨[nch sn<=1048576,sn.length<1048576,op.length<1048576,0<=nx],[.agg (cellsOf (.nm .reply) ((a_ (State.mk v nx kp qt se op sn) c).2))],some ([.box 43 ([.int ((((a_ (State.mk v nx kp qt se op sn) c).1).version)),.int ((((a_ (State.mk v nx kp qt se op sn) c).1).next)),.int ((((a_ (State.mk v nx kp qt se op sn) c).1).keep)),.int ((((a_ (State.mk v nx kp qt se op sn) c).1).quota)),.own 1,.own 2,.own 3]),.row 82 (.nm .sess) ((((a_ (State.mk v nx kp qt se op sn) c).1).sess)),.row 63 (.nm .opn) ((((a_ (State.mk v nx kp qt se op sn) c).1).opens)),.row 73 (.nm .snap) ((((a_ (State.mk v nx kp qt se op sn) c).1).snaps)),.box 24 (cellsOf (.nm .command) ((c)))]),false⟩) (bB 142 (bw (ai (kC (bX 0 0)) (ai (kC (bX 4 0)) aH)) (ay (bV 43 (aw cI (aw cI (aw cI (aw cI (aw (bl 1) (aw (bl 2) (aw (bl 3) bT)))))))) (ay (bm 82 (.nm .sess)) (ay (bm 63 (.nm .opn)) (ay (bm 73 (.nm .snap)) (ay (bV 24 (sR (.nm .command) bT)) aJ))))) fun (_,_,_) ((v,nx,kp,qt,_,_,_,_),se,op,sn,(c,_),_)=>⟨[op.length<1048576],[.agg (cellsOf (.nm .reply) ((bf (State.mk v nx kp qt se op sn) c).2))],some ([.box 43 ([.int ((((bf (State.mk v nx kp qt se op sn) c).1).version)),.int ((((bf (State.mk v nx kp qt se op sn) c).1).next)),.int ((((bf (State.mk v nx kp qt se op sn) c).1).keep)),.int ((((bf (State.mk v nx kp qt se op sn) c).1).quota)),.own 1,.own 2,.own 3]),.row 82 (.nm .sess) ((((bf (State.mk v nx kp qt se op sn) c).1).sess)),.row 63 (.nm .opn) ((((bf (State.mk v nx kp qt se op sn) c).1).opens)),.row 73 (.nm .snap) ((((bf (State.mk v nx kp qt se op sn) c).1).snaps)),.box 24 (cellsOf (.nm .command) ((c)))]),false⟩) kq)))))))
theorem gr:aS Tryz.prog (ao aF) nT:=(aq (au (ab (al dh) (ab (al aL) (ab (al aL) aj))) (ah (aK (ae av (ae av (ae av (ae av (ae aD (ae aD (ae aD aI)))))))) (ah aE (ah aE (ah aE (ah (aK (ae lz aI)) (ah (aK (dL aI)) ak)))))) fun (_,_,_,_) ((v,nx,kp,qt,_,_,_,_),se,op,sn,(b,_),(c,_),_) _=>tN v nx kp qt se op sn b c ) (aq (au (ab (al dh) (ab (al aL) (ab (al aL) aj))) (ah (aK (dL aI)) (ah (aK (ae av (ae av (ae av (ae av (ae aD (ae aD (ae aD aI)))))))) (ah aE (ah aE (ah aE ak))))) fun (_,_,_,_) ((c,_),(v,nx,kp,qt,_,_,_,_),se,op,sn,_) _=>wR c v nx kp qt se op sn ) (aq (au (ab (al dh) (ab (al aL) (ab (al aL) aj))) (ah (aK (ae av (ae av (ae av (ae av (ae aD (ae aD (ae aD aI)))))))) (ah aE (ah aE (ah aE (ah (aK (dL aI)) ak))))) fun (_,_,_,_) ((v,nx,kp,qt,_,_,_,_),se,op,sn,(c,_),_) _=>ux v nx kp qt se op sn c ) (aq (au (ab (al dh) (ab (al aL) (ab (al aL) aj))) (ah (aK (ae av (ae av (ae av (ae av (ae aD (ae aD (ae aD aI)))))))) (ah aE (ah aE (ah aE (ah (aK (dL aI)) ak))))) fun (_,_,_,_) ((v,nx,kp,qt,_,_,_,_),se,op,sn,(c,_),_) _=>rI v nx kp qt se op sn c ) (aq (au (ab (al aL) (ab (al aL) aj)) (ah (aK (ae av (ae av (ae av (ae av (ae aD (ae aD (ae aD aI)))))))) (ah aE (ah aE (ah aE (ah (aK (dL aI)) ak))))) fun (_,_,_) ((v,nx,kp,qt,_,_,_,_),se,op,sn,(c,_),_) hp=>Oc v nx kp qt se op sn c (dx hp)) (aq (au (ab (al aL) (ab (al aL) aj)) (ah (aK (ae av (ae av (ae av (ae av (ae aD (ae aD (ae aD aI)))))))) (ah aE (ah aE (ah aE (ah (aK (dL aI)) ak))))) fun (_,_,_) ((v,nx,kp,qt,_,_,_,_),se,op,sn,(c,_),_) hp=>MA v nx kp qt se op sn c (dx hp) (dx (eg hp)) (dx (eg (eg hp))) (dx (eg (eg (eg hp))))) (aq (au (ab (al aL) (ab (al aL) aj)) (ah (aK (ae av (ae av (ae av (ae av (ae aD (ae aD (ae aD aI)))))))) (ah aE (ah aE (ah aE (ah (aK (dL aI)) ak))))) fun (_,_,_) ((v,nx,kp,qt,_,_,_,_),se,op,sn,(c,_),_) hp=>Om v nx kp qt se op sn c (dx hp)) eR)))))))
end Go.Proofs.YtladifkbefehdaaGreat
namespace Go.Proofs.YtladifkbefehdaaGreat
open Go.RowKit
theorem NH (b:Bool) (v:Int) (nx:Int) (kp:Int) (qt:Int) (se:List Sess) (op:List Opn) (sn:List Snap) (c:Command) (r0:Int) (r1:Int) (r2:Int) (r3:Int) (r4:List Sess) (r5:List Opn) (r6:List Snap) (r7:Command) (r8:Bool):ma aF nT [] Tryz.f140 [.c (.bool (.atom (b))),.c (.ptr 0 0),.c (.ptr 1 0)] [.box 170 ([.fn 137 [] [(1,0),(5,0)]]),.box 43 ([.int (v),.int (nx),.int (kp),.int (qt),.own 2,.own 3,.own 4]),.row 82 (.nm .sess) (se),.row 63 (.nm .opn) (op),.row 73 (.nm .snap) (sn),.box 24 (cellsOf (.nm .command) (c))] [.c (.fn 138 [] [(1,0),(5,0),(7,0)])] [.box 170 ([.fn 137 [] [(1,0),(5,0)]]),.box 43 ([.int (r0),.int (r1),.int (r2),.int (r3),.own 2,.own 3,.own 4]),.row 82 (.nm .sess) (r4),.row 63 (.nm .opn) (r5),.row 73 (.nm .snap) (r6),.box 24 (cellsOf (.nm .command) (r7)),.box 4 ([.bool (.atom (r8))]),.box 168 ([.fn 141 [] [(1,0),(6,0)]])]=(v=r0/\nx=r1/\kp=r2/\qt=r3/\se=r4/\op=r5/\sn=r6/\c.kind=r7.kind/\c.client=r7.client/\c.seq=r7.seq/\c.set=r7.set/\c.id=r7.id/\c.n=r7.n/\c.chunks=r7.chunks/\c.text=r7.text/\b=r8):=by kernel_rfl
theorem MX (b:Bool) (v:Int) (nx:Int) (kp:Int) (qt:Int) (se:List Sess) (op:List Opn) (sn:List Snap) (c:Command):Sat Tryz.prog (ao aF) 140 [.c (.bool (.atom (b))),.c (.ptr 0 0),.c (.ptr 1 0)] [.box 170 ([.fn 137 [] [(1,0),(5,0)]]),.box 43 ([.int (v),.int (nx),.int (kp),.int (qt),.own 2,.own 3,.own 4]),.row 82 (.nm .sess) (se),.row 63 (.nm .opn) (op),.row 73 (.nm .snap) (sn),.box 24 (cellsOf (.nm .command) (c))] ⟨[],[.c (.fn 138 [] [(1,0),(5,0),(7,0)])],some ([.box 170 ([.fn 137 [] [(1,0),(5,0)]]),.box 43 ([.int ((v)),.int ((nx)),.int ((kp)),.int ((qt)),.own 2,.own 3,.own 4]),.row 82 (.nm .sess) ((se)),.row 63 (.nm .opn) ((op)),.row 73 (.nm .snap) ((sn)),.box 24 (cellsOf (.nm .command) ((c))),.box 4 ([.bool (.atom ((b)))]),.box 168 ([.fn 141 [] [(1,0),(6,0)]])]),true⟩:=by
 refine di gr [] Tryz.func140 (by decide) (by kernel_rfl) ?_
 rw [NH]
 (repeat' (first | with_reducible refine And.intro ?_ ?_ | with_reducible refine and_imp.2 ?_ | intro))
 all_goals (first | (first | with_reducible rfl | with_reducible assumption | omega | (refine ag ?_ ?_ <;> omega)) | exact rfl)
theorem wv (v:Int) (nx:Int) (kp:Int) (qt:Int) (se:List Sess) (op:List Opn) (sn:List Snap) (c:Command) (r0:Reply) (r1:Int) (r2:Int) (r3:Int) (r4:Int) (r5:List Sess) (r6:List Opn) (r7:List Snap) (r8:Command):nh aF nT [] Tryz.f138 [.c (.ptr 0 0),.c (.ptr 4 0),.c (.ptr 5 0)] [.box 43 ([.int (v),.int (nx),.int (kp),.int (qt),.own 1,.own 2,.own 3]),.row 82 (.nm .sess) (se),.row 63 (.nm .opn) (op),.row 73 (.nm .snap) (sn),.box 24 (cellsOf (.nm .command) (c)),.box 168 ([.fn 151 [] [(0,0)]])] [.agg (cellsOf (.nm .reply) r0)] [.box 43 ([.int (r1),.int (r2),.int (r3),.int (r4),.own 1,.own 2,.own 3]),.row 82 (.nm .sess) (r5),.row 63 (.nm .opn) (r6),.row 73 (.nm .snap) (r7),.box 24 (cellsOf (.nm .command) (r8)),.box 168 ([.fn 151 [] [(0,0)]])]=((fun (q2:Int)=>(fun (q1:Prop)=>(fun (q0:State × Reply)=>I64 q2->(q2<(0:Int)->I64 (15:Int)->I64 (0:Int)->(15:Int)=r0.code/\(0:Int)=r0.n/\v=r1/\nx=r2/\kp=r3/\qt=r4/\se=r5/\op=r6/\sn=r7/\q1)/\((0:Int)<=q2->((0:Int)<=q2/\q2<(↑sn.length:Int))/\nch sn<=(1048576:Nat)/\(I64 q0.snd.code->I64 q0.snd.n->q0.snd.code=r0.code/\q0.snd.n=r0.n/\q0.fst.version=r1/\q0.fst.next=r2/\q0.fst.keep=r3/\q0.fst.quota=r4/\q0.fst.sess=r5/\q0.fst.opens=r6/\q0.fst.snaps=r7/\q1))) (aU (State.mk v nx kp qt se op sn) q2.toNat)) (c.kind=r8.kind/\c.client=r8.client/\c.seq=r8.seq/\c.set=r8.set/\c.id=r8.id/\c.n=r8.n/\c.chunks=r8.chunks/\c.text=r8.text)) (ax Snap.id c.id sn)):=by kernel_rfl
theorem wh (v:Int) (nx:Int) (kp:Int) (qt:Int) (se:List Sess) (op:List Opn) (sn:List Snap) (c:Command) (h0:nch sn<=1048576):Sat Tryz.prog (ao aF) 138 [.c (.ptr 0 0),.c (.ptr 4 0),.c (.ptr 5 0)] [.box 43 ([.int (v),.int (nx),.int (kp),.int (qt),.own 1,.own 2,.own 3]),.row 82 (.nm .sess) (se),.row 63 (.nm .opn) (op),.row 73 (.nm .snap) (sn),.box 24 (cellsOf (.nm .command) (c)),.box 168 ([.fn 151 [] [(0,0)]])] ⟨[nch sn<=1048576],[.agg (cellsOf (.nm .reply) ((aA aU c (State.mk v nx kp qt se op sn)).2))],some ([.box 43 ([.int ((((aA aU c (State.mk v nx kp qt se op sn)).1).version)),.int ((((aA aU c (State.mk v nx kp qt se op sn)).1).next)),.int ((((aA aU c (State.mk v nx kp qt se op sn)).1).keep)),.int ((((aA aU c (State.mk v nx kp qt se op sn)).1).quota)),.own 1,.own 2,.own 3]),.row 82 (.nm .sess) ((((aA aU c (State.mk v nx kp qt se op sn)).1).sess)),.row 63 (.nm .opn) ((((aA aU c (State.mk v nx kp qt se op sn)).1).opens)),.row 73 (.nm .snap) ((((aA aU c (State.mk v nx kp qt se op sn)).1).snaps)),.box 24 (cellsOf (.nm .command) ((c))),.box 168 ([.fn 151 [] [(0,0)]])]),false⟩:=by
 refine dy gr [] Tryz.func138 (by decide) (by kernel_rfl) ?_
 rw [wv]
 (repeat' (first | with_reducible refine And.intro ?_ ?_ | with_reducible refine and_imp.2 ?_ | intro))
 all_goals (first | (first | with_reducible rfl | with_reducible assumption | omega | (refine ag ?_ ?_ <;> omega)) | exact cO (by with_reducible assumption) | (rw [QS] <;> first | rfl | omega) | (rw [QQ] <;> first | rfl | omega))
theorem Au (v:Int) (nx:Int) (kp:Int) (qt:Int) (se:List Sess) (op:List Opn) (sn:List Snap) (c:Command) (r0:Reply) (r1:Int) (r2:Int) (r3:Int) (r4:Int) (r5:List Sess) (r6:List Opn) (r7:List Snap) (r8:Command):nh aF nT [] Tryz.f138 [.c (.ptr 0 0),.c (.ptr 4 0),.c (.ptr 5 0)] [.box 43 ([.int (v),.int (nx),.int (kp),.int (qt),.own 1,.own 2,.own 3]),.row 82 (.nm .sess) (se),.row 63 (.nm .opn) (op),.row 73 (.nm .snap) (sn),.box 24 (cellsOf (.nm .command) (c)),.box 168 ([.fn 153 [] [(0,0)]])] [.agg (cellsOf (.nm .reply) r0)] [.box 43 ([.int (r1),.int (r2),.int (r3),.int (r4),.own 1,.own 2,.own 3]),.row 82 (.nm .sess) (r5),.row 63 (.nm .opn) (r6),.row 73 (.nm .snap) (r7),.box 24 (cellsOf (.nm .command) (r8)),.box 168 ([.fn 153 [] [(0,0)]])]=((fun (q2:Int)=>(fun (q1:Prop)=>(fun (q0:State × Reply)=>I64 q2->(q2<(0:Int)->I64 (15:Int)->I64 (0:Int)->(15:Int)=r0.code/\(0:Int)=r0.n/\v=r1/\nx=r2/\kp=r3/\qt=r4/\se=r5/\op=r6/\sn=r7/\q1)/\((0:Int)<=q2->((0:Int)<=q2/\q2<(↑sn.length:Int))/\(I64 q0.snd.code->I64 q0.snd.n->q0.snd.code=r0.code/\q0.snd.n=r0.n/\q0.fst.version=r1/\q0.fst.next=r2/\q0.fst.keep=r3/\q0.fst.quota=r4/\q0.fst.sess=r5/\q0.fst.opens=r6/\q0.fst.snaps=r7/\q1))) (bC (State.mk v nx kp qt se op sn) q2.toNat)) (c.kind=r8.kind/\c.client=r8.client/\c.seq=r8.seq/\c.set=r8.set/\c.id=r8.id/\c.n=r8.n/\c.chunks=r8.chunks/\c.text=r8.text)) (ax Snap.id c.id sn)):=by kernel_rfl
theorem At (v:Int) (nx:Int) (kp:Int) (qt:Int) (se:List Sess) (op:List Opn) (sn:List Snap) (c:Command):Sat Tryz.prog (ao aF) 138 [.c (.ptr 0 0),.c (.ptr 4 0),.c (.ptr 5 0)] [.box 43 ([.int (v),.int (nx),.int (kp),.int (qt),.own 1,.own 2,.own 3]),.row 82 (.nm .sess) (se),.row 63 (.nm .opn) (op),.row 73 (.nm .snap) (sn),.box 24 (cellsOf (.nm .command) (c)),.box 168 ([.fn 153 [] [(0,0)]])] ⟨[],[.agg (cellsOf (.nm .reply) ((aA bC c (State.mk v nx kp qt se op sn)).2))],some ([.box 43 ([.int ((((aA bC c (State.mk v nx kp qt se op sn)).1).version)),.int ((((aA bC c (State.mk v nx kp qt se op sn)).1).next)),.int ((((aA bC c (State.mk v nx kp qt se op sn)).1).keep)),.int ((((aA bC c (State.mk v nx kp qt se op sn)).1).quota)),.own 1,.own 2,.own 3]),.row 82 (.nm .sess) ((((aA bC c (State.mk v nx kp qt se op sn)).1).sess)),.row 63 (.nm .opn) ((((aA bC c (State.mk v nx kp qt se op sn)).1).opens)),.row 73 (.nm .snap) ((((aA bC c (State.mk v nx kp qt se op sn)).1).snaps)),.box 24 (cellsOf (.nm .command) ((c))),.box 168 ([.fn 153 [] [(0,0)]])]),false⟩:=by
 refine dy gr [] Tryz.func138 (by decide) (by kernel_rfl) ?_
 rw [Au]
 (repeat' (first | with_reducible refine And.intro ?_ ?_ | with_reducible refine and_imp.2 ?_ | intro))
 all_goals (first | (first | with_reducible rfl | with_reducible assumption | omega | (refine ag ?_ ?_ <;> omega)) | exact cO (by with_reducible assumption) | (rw [QS] <;> first | rfl | omega) | (rw [QQ] <;> first | rfl | omega))
theorem Ew (v:Int) (nx:Int) (kp:Int) (qt:Int) (se:List Sess) (op:List Opn) (sn:List Snap) (c:Command) (r0:Reply) (r1:Int) (r2:Int) (r3:Int) (r4:Int) (r5:List Sess) (r6:List Opn) (r7:List Snap) (r8:Command):nh aF nT [] Tryz.f138 [.c (.ptr 0 0),.c (.ptr 4 0),.c (.ptr 5 0)] [.box 43 ([.int (v),.int (nx),.int (kp),.int (qt),.own 1,.own 2,.own 3]),.row 82 (.nm .sess) (se),.row 63 (.nm .opn) (op),.row 73 (.nm .snap) (sn),.box 24 (cellsOf (.nm .command) (c)),.box 168 ([.fn 154 [] [(4,0),(0,0)]])] [.agg (cellsOf (.nm .reply) r0)] [.box 43 ([.int (r1),.int (r2),.int (r3),.int (r4),.own 1,.own 2,.own 3]),.row 82 (.nm .sess) (r5),.row 63 (.nm .opn) (r6),.row 73 (.nm .snap) (r7),.box 24 (cellsOf (.nm .command) (r8)),.box 168 ([.fn 154 [] [(4,0),(0,0)]])]=((fun (q2:Int)=>(fun (q1:Prop)=>(fun (q0:State × Reply)=>I64 q2->(q2<(0:Int)->I64 (15:Int)->I64 (0:Int)->(15:Int)=r0.code/\(0:Int)=r0.n/\v=r1/\nx=r2/\kp=r3/\qt=r4/\se=r5/\op=r6/\sn=r7/\q1)/\((0:Int)<=q2->((0:Int)<=q2/\q2<(↑sn.length:Int))/\(I64 q0.snd.code->I64 q0.snd.n->q0.snd.code=r0.code/\q0.snd.n=r0.n/\q0.fst.version=r1/\q0.fst.next=r2/\q0.fst.keep=r3/\q0.fst.quota=r4/\q0.fst.sess=r5/\q0.fst.opens=r6/\q0.fst.snaps=r7/\q1))) (dB c (State.mk v nx kp qt se op sn) q2.toNat)) (c.kind=r8.kind/\c.client=r8.client/\c.seq=r8.seq/\c.set=r8.set/\c.id=r8.id/\c.n=r8.n/\c.chunks=r8.chunks/\c.text=r8.text)) (ax Snap.id c.id sn)):=by kernel_rfl
theorem CS (v:Int) (nx:Int) (kp:Int) (qt:Int) (se:List Sess) (op:List Opn) (sn:List Snap) (c:Command):Sat Tryz.prog (ao aF) 138 [.c (.ptr 0 0),.c (.ptr 4 0),.c (.ptr 5 0)] [.box 43 ([.int (v),.int (nx),.int (kp),.int (qt),.own 1,.own 2,.own 3]),.row 82 (.nm .sess) (se),.row 63 (.nm .opn) (op),.row 73 (.nm .snap) (sn),.box 24 (cellsOf (.nm .command) (c)),.box 168 ([.fn 154 [] [(4,0),(0,0)]])] ⟨[],[.agg (cellsOf (.nm .reply) ((aA (dB c) c (State.mk v nx kp qt se op sn)).2))],some ([.box 43 ([.int ((((aA (dB c) c (State.mk v nx kp qt se op sn)).1).version)),.int ((((aA (dB c) c (State.mk v nx kp qt se op sn)).1).next)),.int ((((aA (dB c) c (State.mk v nx kp qt se op sn)).1).keep)),.int ((((aA (dB c) c (State.mk v nx kp qt se op sn)).1).quota)),.own 1,.own 2,.own 3]),.row 82 (.nm .sess) ((((aA (dB c) c (State.mk v nx kp qt se op sn)).1).sess)),.row 63 (.nm .opn) ((((aA (dB c) c (State.mk v nx kp qt se op sn)).1).opens)),.row 73 (.nm .snap) ((((aA (dB c) c (State.mk v nx kp qt se op sn)).1).snaps)),.box 24 (cellsOf (.nm .command) ((c))),.box 168 ([.fn 154 [] [(4,0),(0,0)]])]),false⟩:=by
 refine dy gr [] Tryz.func138 (by decide) (by kernel_rfl) ?_
 rw [Ew]
 (repeat' (first | with_reducible refine And.intro ?_ ?_ | with_reducible refine and_imp.2 ?_ | intro))
 all_goals (first | (first | with_reducible rfl | with_reducible assumption | omega | (refine ag ?_ ?_ <;> omega)) | exact cO (by with_reducible assumption) | (rw [QS] <;> first | rfl | omega) | (rw [QQ] <;> first | rfl | omega))
theorem AF (v:Int) (nx:Int) (kp:Int) (qt:Int) (se:List Sess) (op:List Opn) (sn:List Snap) (c:Command) (b:Bool) (r0:Reply) (r1:Int) (r2:Int) (r3:Int) (r4:Int) (r5:List Sess) (r6:List Opn) (r7:List Snap) (r8:Command) (r9:Bool):nh aF nT [] Tryz.f138 [.c (.ptr 0 0),.c (.ptr 4 0),.c (.ptr 5 0)] [.box 43 ([.int (v),.int (nx),.int (kp),.int (qt),.own 1,.own 2,.own 3]),.row 82 (.nm .sess) (se),.row 63 (.nm .opn) (op),.row 73 (.nm .snap) (sn),.box 24 (cellsOf (.nm .command) (c)),.box 168 ([.fn 141 [] [(0,0),(6,0)]]),.box 4 ([.bool (.atom (b))])] [.agg (cellsOf (.nm .reply) r0)] [.box 43 ([.int (r1),.int (r2),.int (r3),.int (r4),.own 1,.own 2,.own 3]),.row 82 (.nm .sess) (r5),.row 63 (.nm .opn) (r6),.row 73 (.nm .snap) (r7),.box 24 (cellsOf (.nm .command) (r8)),.box 168 ([.fn 141 [] [(0,0),(6,0)]]),.box 4 ([.bool (.atom (r9))])]=((fun (q2:Int)=>(fun (q1:Prop)=>(fun (q0:State × Reply)=>I64 q2->(q2<(0:Int)->I64 (15:Int)->I64 (0:Int)->(15:Int)=r0.code/\(0:Int)=r0.n/\v=r1/\nx=r2/\kp=r3/\qt=r4/\se=r5/\op=r6/\sn=r7/\q1)/\((0:Int)<=q2->((0:Int)<=q2/\q2<(↑sn.length:Int))/\(I64 q0.snd.code->I64 q0.snd.n->q0.snd.code=r0.code/\q0.snd.n=r0.n/\q0.fst.version=r1/\q0.fst.next=r2/\q0.fst.keep=r3/\q0.fst.quota=r4/\q0.fst.sess=r5/\q0.fst.opens=r6/\q0.fst.snaps=r7/\q1))) (bQ b (State.mk v nx kp qt se op sn) q2.toNat)) (c.kind=r8.kind/\c.client=r8.client/\c.seq=r8.seq/\c.set=r8.set/\c.id=r8.id/\c.n=r8.n/\c.chunks=r8.chunks/\c.text=r8.text/\b=r9)) (ax Snap.id c.id sn)):=by kernel_rfl
theorem Ag (v:Int) (nx:Int) (kp:Int) (qt:Int) (se:List Sess) (op:List Opn) (sn:List Snap) (c:Command) (b:Bool):Sat Tryz.prog (ao aF) 138 [.c (.ptr 0 0),.c (.ptr 4 0),.c (.ptr 5 0)] [.box 43 ([.int (v),.int (nx),.int (kp),.int (qt),.own 1,.own 2,.own 3]),.row 82 (.nm .sess) (se),.row 63 (.nm .opn) (op),.row 73 (.nm .snap) (sn),.box 24 (cellsOf (.nm .command) (c)),.box 168 ([.fn 141 [] [(0,0),(6,0)]]),.box 4 ([.bool (.atom (b))])] ⟨[],[.agg (cellsOf (.nm .reply) ((aA (bQ b) c (State.mk v nx kp qt se op sn)).2))],some ([.box 43 ([.int ((((aA (bQ b) c (State.mk v nx kp qt se op sn)).1).version)),.int ((((aA (bQ b) c (State.mk v nx kp qt se op sn)).1).next)),.int ((((aA (bQ b) c (State.mk v nx kp qt se op sn)).1).keep)),.int ((((aA (bQ b) c (State.mk v nx kp qt se op sn)).1).quota)),.own 1,.own 2,.own 3]),.row 82 (.nm .sess) ((((aA (bQ b) c (State.mk v nx kp qt se op sn)).1).sess)),.row 63 (.nm .opn) ((((aA (bQ b) c (State.mk v nx kp qt se op sn)).1).opens)),.row 73 (.nm .snap) ((((aA (bQ b) c (State.mk v nx kp qt se op sn)).1).snaps)),.box 24 (cellsOf (.nm .command) ((c))),.box 168 ([.fn 141 [] [(0,0),(6,0)]]),.box 4 ([.bool (.atom ((b)))])]),false⟩:=by
 refine dy gr [] Tryz.func138 (by decide) (by kernel_rfl) ?_
 rw [AF]
 (repeat' (first | with_reducible refine And.intro ?_ ?_ | with_reducible refine and_imp.2 ?_ | intro))
 all_goals (first | (first | with_reducible rfl | with_reducible assumption | omega | (refine ag ?_ ?_ <;> omega)) | exact cO (by with_reducible assumption) | (rw [QS] <;> first | rfl | omega) | (rw [QQ] <;> first | rfl | omega))
def BR:cH:=(bB 138 (bw (ai (kC (bX 0 0)) (ai (kC (bX 4 0)) (ai (kC (bX 5 0)) aH))) (ay (bV 43 (aw cI (aw cI (aw cI (aw cI (aw (bl 1) (aw (bl 2) (aw (bl 3) bT)))))))) (ay (bm 82 (.nm .sess)) (ay (bm 63 (.nm .opn)) (ay (bm 73 (.nm .snap)) (ay (bV 24 (sR (.nm .command) bT)) (ay (bV 168 (aw (pQ 141 [] [(0,0),(6,0)]) bT)) (ay (bV 4 (aw cB bT)) aJ))))))) fun (_,_,_,_) ((v,nx,kp,qt,_,_,_,_),se,op,sn,(c,_),(_,_),(b,_),_)=>⟨[],[.agg (cellsOf (.nm .reply) ((aA (bQ b) c (State.mk v nx kp qt se op sn)).2))],some ([.box 43 ([.int ((((aA (bQ b) c (State.mk v nx kp qt se op sn)).1).version)),.int ((((aA (bQ b) c (State.mk v nx kp qt se op sn)).1).next)),.int ((((aA (bQ b) c (State.mk v nx kp qt se op sn)).1).keep)),.int ((((aA (bQ b) c (State.mk v nx kp qt se op sn)).1).quota)),.own 1,.own 2,.own 3]),.row 82 (.nm .sess) ((((aA (bQ b) c (State.mk v nx kp qt se op sn)).1).sess)),.row 63 (.nm .opn) ((((aA (bQ b) c (State.mk v nx kp qt se op sn)).1).opens)),.row 73 (.nm .snap) ((((aA (bQ b) c (State.mk v nx kp qt se op sn)).1).snaps)),.box 24 (cellsOf (.nm .command) ((c))),.box 168 ([.fn 141 [] [(0,0),(6,0)]]),.box 4 ([.bool (.atom ((b)))])]),false⟩) (bB 138 (bw (ai (kC (bX 0 0)) (ai (kC (bX 4 0)) (ai (kC (bX 5 0)) aH))) (ay (bV 43 (aw cI (aw cI (aw cI (aw cI (aw (bl 1) (aw (bl 2) (aw (bl 3) bT)))))))) (ay (bm 82 (.nm .sess)) (ay (bm 63 (.nm .opn)) (ay (bm 73 (.nm .snap)) (ay (bV 24 (sR (.nm .command) bT)) (ay (bV 168 (aw (pQ 154 [] [(4,0),(0,0)]) bT)) aJ)))))) fun (_,_,_,_) ((v,nx,kp,qt,_,_,_,_),se,op,sn,(c,_),(_,_),_)=>⟨[],[.agg (cellsOf (.nm .reply) ((aA (dB c) c (State.mk v nx kp qt se op sn)).2))],some ([.box 43 ([.int ((((aA (dB c) c (State.mk v nx kp qt se op sn)).1).version)),.int ((((aA (dB c) c (State.mk v nx kp qt se op sn)).1).next)),.int ((((aA (dB c) c (State.mk v nx kp qt se op sn)).1).keep)),.int ((((aA (dB c) c (State.mk v nx kp qt se op sn)).1).quota)),.own 1,.own 2,.own 3]),.row 82 (.nm .sess) ((((aA (dB c) c (State.mk v nx kp qt se op sn)).1).sess)),.row 63 (.nm .opn) ((((aA (dB c) c (State.mk v nx kp qt se op sn)).1).opens)),.row 73 (.nm .snap) ((((aA (dB c) c (State.mk v nx kp qt se op sn)).1).snaps)),.box 24 (cellsOf (.nm .command) ((c))),.box 168 ([.fn 154 [] [(4,0),(0,0)]])]),false⟩) (bB 138 (bw (ai (kC (bX 0 0)) (ai (kC (bX 4 0)) (ai (kC (bX 5 0)) aH))) (ay (bV 43 (aw cI (aw cI (aw cI (aw cI (aw (bl 1) (aw (bl 2) (aw (bl 3) bT)))))))) (ay (bm 82 (.nm .sess)) (ay (bm 63 (.nm .opn)) (ay (bm 73 (.nm .snap)) (ay (bV 24 (sR (.nm .command) bT)) (ay (bV 168 (aw (pQ 153 [] [(0,0)]) bT)) aJ)))))) fun (_,_,_,_) ((v,nx,kp,qt,_,_,_,_),se,op,sn,(c,_),(_,_),_)=>⟨[],[.agg (cellsOf (.nm .reply) ((aA bC c (State.mk v nx kp qt se op sn)).2))],some ([.box 43 ([.int ((((aA bC c (State.mk v nx kp qt se op sn)).1).version)),.int ((((aA bC c (State.mk v nx kp qt se op sn)).1).next)),.int ((((aA bC c (State.mk v nx kp qt se op sn)).1).keep)),.int ((((aA bC c (State.mk v nx kp qt se op sn)).1).quota)),.own 1,.own 2,.own 3]),.row 82 (.nm .sess) ((((aA bC c (State.mk v nx kp qt se op sn)).1).sess)),.row 63 (.nm .opn) ((((aA bC c (State.mk v nx kp qt se op sn)).1).opens)),.row 73 (.nm .snap) ((((aA bC c (State.mk v nx kp qt se op sn)).1).snaps)),.box 24 (cellsOf (.nm .command) ((c))),.box 168 ([.fn 153 [] [(0,0)]])]),false⟩) (bB 138 (bw (ai (kC (bX 0 0)) (ai (kC (bX 4 0)) (ai (kC (bX 5 0)) aH))) (ay (bV 43 (aw cI (aw cI (aw cI (aw cI (aw (bl 1) (aw (bl 2) (aw (bl 3) bT)))))))) (ay (bm 82 (.nm .sess)) (ay (bm 63 (.nm .opn)) (ay (bm 73 (.nm .snap)) (ay (bV 24 (sR (.nm .command) bT)) (ay (bV 168 (aw (pQ 151 [] [(0,0)]) bT)) aJ)))))) fun (_,_,_,_) ((v,nx,kp,qt,_,_,_,_),se,op,sn,(c,_),(_,_),_)=>⟨[nch sn<=1048576],[.agg (cellsOf (.nm .reply) ((aA aU c (State.mk v nx kp qt se op sn)).2))],some ([.box 43 ([.int ((((aA aU c (State.mk v nx kp qt se op sn)).1).version)),.int ((((aA aU c (State.mk v nx kp qt se op sn)).1).next)),.int ((((aA aU c (State.mk v nx kp qt se op sn)).1).keep)),.int ((((aA aU c (State.mk v nx kp qt se op sn)).1).quota)),.own 1,.own 2,.own 3]),.row 82 (.nm .sess) ((((aA aU c (State.mk v nx kp qt se op sn)).1).sess)),.row 63 (.nm .opn) ((((aA aU c (State.mk v nx kp qt se op sn)).1).opens)),.row 73 (.nm .snap) ((((aA aU c (State.mk v nx kp qt se op sn)).1).snaps)),.box 24 (cellsOf (.nm .command) ((c))),.box 168 ([.fn 151 [] [(0,0)]])]),false⟩) (bB 140 (bw (ai (kC cB) (ai (kC (bX 0 0)) (ai (kC (bX 1 0)) aH))) (ay (bV 170 (aw (pQ 137 [] [(1,0),(5,0)]) bT)) (ay (bV 43 (aw cI (aw cI (aw cI (aw cI (aw (bl 2) (aw (bl 3) (aw (bl 4) bT)))))))) (ay (bm 82 (.nm .sess)) (ay (bm 63 (.nm .opn)) (ay (bm 73 (.nm .snap)) (ay (bV 24 (sR (.nm .command) bT)) aJ)))))) fun (b,_,_,_) ((_,_),(v,nx,kp,qt,_,_,_,_),se,op,sn,(c,_),_)=>⟨[],[.c (.fn 138 [] [(1,0),(5,0),(7,0)])],some ([.box 170 ([.fn 137 [] [(1,0),(5,0)]]),.box 43 ([.int ((v)),.int ((nx)),.int ((kp)),.int ((qt)),.own 2,.own 3,.own 4]),.row 82 (.nm .sess) ((se)),.row 63 (.nm .opn) ((op)),.row 73 (.nm .snap) ((sn)),.box 24 (cellsOf (.nm .command) ((c))),.box 4 ([.bool (.atom ((b)))]),.box 168 ([.fn 141 [] [(1,0),(6,0)]])]),true⟩) nT)))))
theorem uK:aS Tryz.prog (ao aF) BR:=(aq (au (ab (al aL) (ab (al aL) (ab (al aL) aj))) (ah (aK (ae av (ae av (ae av (ae av (ae aD (ae aD (ae aD aI)))))))) (ah aE (ah aE (ah aE (ah (aK (dL aI)) (ah (aK (ae dh aI)) (ah (aK (ae lz aI)) ak))))))) fun (_,_,_,_) ((v,nx,kp,qt,_,_,_,_),se,op,sn,(c,_),(_,_),(b,_),_) _=>Ag v nx kp qt se op sn c b ) (aq (au (ab (al aL) (ab (al aL) (ab (al aL) aj))) (ah (aK (ae av (ae av (ae av (ae av (ae aD (ae aD (ae aD aI)))))))) (ah aE (ah aE (ah aE (ah (aK (dL aI)) (ah (aK (ae dh aI)) ak)))))) fun (_,_,_,_) ((v,nx,kp,qt,_,_,_,_),se,op,sn,(c,_),(_,_),_) _=>CS v nx kp qt se op sn c ) (aq (au (ab (al aL) (ab (al aL) (ab (al aL) aj))) (ah (aK (ae av (ae av (ae av (ae av (ae aD (ae aD (ae aD aI)))))))) (ah aE (ah aE (ah aE (ah (aK (dL aI)) (ah (aK (ae dh aI)) ak)))))) fun (_,_,_,_) ((v,nx,kp,qt,_,_,_,_),se,op,sn,(c,_),(_,_),_) _=>At v nx kp qt se op sn c ) (aq (au (ab (al aL) (ab (al aL) (ab (al aL) aj))) (ah (aK (ae av (ae av (ae av (ae av (ae aD (ae aD (ae aD aI)))))))) (ah aE (ah aE (ah aE (ah (aK (dL aI)) (ah (aK (ae dh aI)) ak)))))) fun (_,_,_,_) ((v,nx,kp,qt,_,_,_,_),se,op,sn,(c,_),(_,_),_) hp=>wh v nx kp qt se op sn c (dx hp)) (aq (au (ab (al lz) (ab (al aL) (ab (al aL) aj))) (ah (aK (ae dh aI)) (ah (aK (ae av (ae av (ae av (ae av (ae aD (ae aD (ae aD aI)))))))) (ah aE (ah aE (ah aE (ah (aK (dL aI)) ak)))))) fun (b,_,_,_) ((_,_),(v,nx,kp,qt,_,_,_,_),se,op,sn,(c,_),_) _=>MX b v nx kp qt se op sn c ) gr)))))
end Go.Proofs.YtladifkbefehdaaGreat
namespace Go.Proofs.YtladifkbefehdaaGreat
open Go.RowKit
def dO (s:State) (c:Command):Int:=if mayF s s.version=0 then aX c s.version else 1
def Fy (s:State) (c:Command):State × Reply:=
 if c.kind=11 then aA (dB c) c s
 else if c.kind=10 then aA (bQ false) c s
 else if c.kind=9 then aA (bQ true) c s
 else if c.kind=7 then aA bC c s
 else if c.kind=5 then aA aU c s
 else if c.kind=12 then dj c s
 else if c.kind=6 then ec c s
 else if c.kind=4 then bj s c
 else if c.kind=3 then a_ s c
 else if c.kind=2 then bf s c
 else (s,⟨1,0⟩)
def dw (s:State) (c:Command):State × Reply:=if ¬ dO s c=0 then (s,⟨dO s c,0⟩) else Fy s c
theorem rQ {α:Type} {key:α->Int} {most:Int}:∀ {l:List α} {a:Int},aC key most a l=true->l=[]\/a+(l.length:Int)<=most
 | [],_,_=>.inl rfl
 | x :: l,a,h=>by
  simp only [aC,Bool.and_eq_true] at h
  have h1:=vS h.1
  rcases rQ h.2 with h2 | h2
  ·subst h2; right; simp only [List.length_cons,List.length_nil]; omega
  ·right; simp only [List.length_cons]; omega
theorem e_ {s:State} {v:Int} (h:mayF s v=0):bE v 1 3=true/\ij s v=true/\uO s=true/\qT s=true/\ft s v=true:=by
 unfold mayF at h
 split at h
 ·omega
 ·rename_i h1
  split at h
  ·omega
  ·rename_i h2
   simp at h1 h2
   exact ⟨h1,h2.1.1.1,h2.1.1.2,h2.1.2,h2.2⟩
theorem NP {s:State} {v:Int} (h:mayF s v=0):s.opens.length<=8:=by
 have h1:=(e_ h).2.2.2.1
 simp only [qT,Bool.and_eq_true] at h1
 rcases rQ h1.1 with h2 | h2
 ·rw [h2]; simp
 ·omega
theorem Lj {s:State} {v:Int} (h:mayF s v=0):s.sess.length<=8:=by
 have h1:=(e_ h).2.2.1
 simp only [uO,Bool.and_eq_true] at h1
 rcases rQ h1.1 with h2 | h2
 ·rw [h2]; simp
 ·omega
theorem Ey {s:State} {v:Int} (h:mayF s v=0):s.snaps.length<=16/\aC Snap.id (s.next - 1) 0 s.snaps=true/\∀ x ∈ s.snaps,ct v (ra v) x=true:=by
 have h1:=(e_ h).2.2.2.2
 simp only [ft,Bool.and_eq_true,Bool.not_eq_true',Bool.or_eq_false_iff,decide_eq_false_iff_not,Bool.not_eq_false',List.all_eq_true] at h1
 exact ⟨by omega,h1.1.2,h1.2⟩
theorem Lb {x:Snap} {v t:Int} (h:ct v t x=true):rowF x.chunks=true:=by
 simp only [ct,Bool.and_eq_true,decide_eq_true_eq] at h
 cases hr:rowF x.chunks with
 | true=>rfl
 | false=>have:=dV (l:=x.chunks) hr; omega
theorem Fp:∀ {l:List Snap},(∀ x ∈ l,rowF x.chunks=true)->nch l<=8*l.length
 | [],_=>Nat.le_refl _
 | x :: l,h=>by
  have h1:=Fp (l:=l) fun y hy=>h y (List.mem_cons_of_mem _ hy)
  have h2:=(yo (h x (List.mem_cons_self))).2
  have e:nch (x :: l)=x.chunks.length+nch l:=by simp [nch]
  rw [e,List.length_cons]; omega
theorem Ix {s:State} {v:Int} (h:mayF s v=0):nch s.snaps<=128:=by
 have h1:=Ey h
 have:=Fp (l:=s.snaps) fun x hx=>Lb (h1.2.2 x hx)
 omega
theorem Nb {s:State} {v:Int} (h:mayF s v=0):1<=s.next/\s.next<=1048576:=by
 have h1:=(e_ h).2.1
 simp only [ij,Bool.and_eq_true] at h1
 exact vS h1.1.1.2
theorem wQ {s:State} {c:Command} (h:(if mayF s s.version=0 then aX c s.version else 1)=0):mayF s s.version=0:=by
 split at h
 ·assumption
 ·omega
theorem Nv {s:State} {c:Command} (h:(if mayF s s.version=0 then aX c s.version else 1)=0):nch s.snaps<=1048576:=by have:=Ix (wQ h); omega
theorem PA {s:State} {c:Command} (h:(if mayF s s.version=0 then aX c s.version else 1)=0):s.opens.length<1048576:=by have:=NP (wQ h); omega
theorem za {s:State} {c:Command} (h:(if mayF s s.version=0 then aX c s.version else 1)=0):s.sess.length<1048576:=by have:=Lj (wQ h); omega
theorem QC {s:State} {c:Command} (h:(if mayF s s.version=0 then aX c s.version else 1)=0):s.snaps.length<1048576:=by have:=(Ey (wQ h)).1; omega
theorem QM {s:State} {c:Command} (h:(if mayF s s.version=0 then aX c s.version else 1)=0):0<=s.next:=by have:=Nb (wQ h); omega
theorem Pz {s:State} {c:Command} (h:(if mayF s s.version=0 then aX c s.version else 1)=0):dw s c=Fy s c:=by
 have h:dO s c=0:=h
 rw [dw,h]; rfl
theorem Rq {s:State} {c:Command} (h:¬ (if mayF s s.version=0 then aX c s.version else 1)=0):dw s c=(s,⟨(if mayF s s.version=0 then aX c s.version else 1),0⟩):=by
 have h:¬ dO s c=0:=h
 rw [dw,if_pos h]; rfl
theorem NL (st:State) (c:Command) (r0:Int) (r1:Int) (r2:Int) (r3:Int) (r4:Reply) (r5:List Sess) (r6:List Opn) (r7:List Snap):ma aF BR [] Tryz.f103 [.agg (cellsOf (.nm .state) st),.agg (cellsOf (.nm .command) c)] [] [.agg ([.int (r0),.int (r1),.int (r2),.int (r3),.own 0,.own 1,.own 2]),.agg (cellsOf (.nm .reply) r4)] [.row 82 (.nm .sess) (r5),.row 63 (.nm .opn) (r6),.row 73 (.nm .snap) (r7)]=((fun (q18:Reply)=>(fun (q17:Int)=>(fun (q16:Int)=>(fun (q15:Prop)=>(fun (q14:Prop)=>(fun (q13:Int)=>(fun (q12:State)=>(fun (q11:Prop)=>(fun (q10:State × Reply)=>(fun (q9:State × Reply)=>(fun (q8:State × Reply)=>(fun (q7:Int)=>(fun (q6:State × Reply)=>(fun (q5:State × Reply)=>(fun (q4:State × Reply)=>(fun (q3:State × Reply)=>(fun (q2:State × Reply)=>(fun (q1:State × Reply)=>(fun (q0:Int)=>I64 q17->I64 st.next->I64 st.keep->I64 st.quota->st.sess.length*(32:Nat)<=(140737488355328:Nat)->st.opens.length*(16:Nat)<=(140737488355328:Nat)->st.snaps.length*(64:Nat)<=(140737488355328:Nat)->I64 q7->I64 c.client->I64 c.seq->I64 c.set->I64 c.id->I64 c.n->c.chunks.length*(8:Nat)<=(140737488355328:Nat)->c.text.b.length<=(140737488355328:Nat)->I64 q17->I64 st.next->I64 st.keep->I64 st.quota->I64 q0->(¬q0=q16->I64 q0->I64 q16->q17=r0/\st.next=r1/\st.keep=r2/\st.quota=r3/\q0=q13/\q11)/\(q0=q16->(q7=(11:Int)->I64 q3.snd.code->I64 q3.snd.n->q3.fst.version=r0/\q3.fst.next=r1/\q3.fst.keep=r2/\q3.fst.quota=r3/\q3.snd.code=q13/\q3.snd.n=r4.n/\q3.fst.sess=r5/\q3.fst.opens=r6/\q3.fst.snaps=r7)/\(¬q7=(11:Int)->(q7=(10:Int)->I64 q1.snd.code->I64 q1.snd.n->q1.fst.version=r0/\q1.fst.next=r1/\q1.fst.keep=r2/\q1.fst.quota=r3/\q1.snd.code=q13/\q1.snd.n=r4.n/\q1.fst.sess=r5/\q1.fst.opens=r6/\q1.fst.snaps=r7)/\(¬q7=(10:Int)->(q7=(9:Int)->I64 q2.snd.code->I64 q2.snd.n->q2.fst.version=r0/\q2.fst.next=r1/\q2.fst.keep=r2/\q2.fst.quota=r3/\q2.snd.code=q13/\q2.snd.n=r4.n/\q2.fst.sess=r5/\q2.fst.opens=r6/\q2.fst.snaps=r7)/\(¬q7=(9:Int)->(q7=(7:Int)->I64 q4.snd.code->I64 q4.snd.n->q4.fst.version=r0/\q4.fst.next=r1/\q4.fst.keep=r2/\q4.fst.quota=r3/\q4.snd.code=q13/\q4.snd.n=r4.n/\q4.fst.sess=r5/\q4.fst.opens=r6/\q4.fst.snaps=r7)/\(¬q7=(7:Int)->(q7=(5:Int)->q15/\(I64 q5.snd.code->I64 q5.snd.n->q5.fst.version=r0/\q5.fst.next=r1/\q5.fst.keep=r2/\q5.fst.quota=r3/\q5.snd.code=q13/\q5.snd.n=r4.n/\q5.fst.sess=r5/\q5.fst.opens=r6/\q5.fst.snaps=r7))/\(¬q7=(5:Int)->(q7=(12:Int)->q15/\(I64 q10.snd.code->I64 q10.snd.n->q10.fst.version=r0/\q10.fst.next=r1/\q10.fst.keep=r2/\q10.fst.quota=r3/\q10.snd.code=q13/\q10.snd.n=r4.n/\q10.fst.sess=r5/\q10.fst.opens=r6/\q10.fst.snaps=r7))/\(¬q7=(12:Int)->(q7=(6:Int)->I64 q18.code->I64 q18.n->q12.version=r0/\q12.next=r1/\q12.keep=r2/\q12.quota=r3/\q18.code=q13/\q18.n=r4.n/\q12.sess=r5/\q12.opens=r6/\q12.snaps=r7)/\(¬q7=(6:Int)->(q7=(4:Int)->q14/\(I64 q8.snd.code->I64 q8.snd.n->q8.fst.version=r0/\q8.fst.next=r1/\q8.fst.keep=r2/\q8.fst.quota=r3/\q8.snd.code=q13/\q8.snd.n=r4.n/\q8.fst.sess=r5/\q8.fst.opens=r6/\q8.fst.snaps=r7))/\(¬q7=(4:Int)->(q7=(3:Int)->q15/\st.snaps.length<(1048576:Nat)/\q14/\q16<=st.next/\(I64 q6.snd.code->I64 q6.snd.n->q6.fst.version=r0/\q6.fst.next=r1/\q6.fst.keep=r2/\q6.fst.quota=r3/\q6.snd.code=q13/\q6.snd.n=r4.n/\q6.fst.sess=r5/\q6.fst.opens=r6/\q6.fst.snaps=r7))/\(¬q7=(3:Int)->(q7=(2:Int)->q14/\(I64 q9.snd.code->I64 q9.snd.n->q9.fst.version=r0/\q9.fst.next=r1/\q9.fst.keep=r2/\q9.fst.quota=r3/\q9.snd.code=q13/\q9.snd.n=r4.n/\q9.fst.sess=r5/\q9.fst.opens=r6/\q9.fst.snaps=r7))/\(¬q7=(2:Int)->I64 (1:Int)->I64 q16->q17=r0/\st.next=r1/\st.keep=r2/\st.quota=r3/\(1:Int)=q13/\q11)))))))))))) (if mayF st q17=q16 then aX c q17 else (1:Int))) (aA (bQ false) c st)) (aA (bQ true) c st)) (aA (dB c) c st)) (aA bC c st)) (aA aU c st)) (a_ st c)) c.kind) (bj st c)) (bf st c)) (dj c st)) (q16=r4.n/\st.sess=r5/\st.opens=r6/\st.snaps=r7)) (ec c st).fst) r4.code) (st.opens.length<(1048576:Nat))) (nch st.snaps<=(1048576:Nat))) (0:Int)) st.version) (ec c st).snd):=by kernel_rfl
theorem OL (st:State) (c:Command):Sat Tryz.prog (ao aF) 103 [.agg (cellsOf (.nm .state) st),.agg (cellsOf (.nm .command) c)] [] ⟨[],[.agg ([.int (((dw st c).1.version)),.int (((dw st c).1.next)),.int (((dw st c).1.keep)),.int (((dw st c).1.quota)),.own 0,.own 1,.own 2]),.agg (cellsOf (.nm .reply) ((dw st c).2))],some ([.row 82 (.nm .sess) (((dw st c).1.sess)),.row 63 (.nm .opn) (((dw st c).1.opens)),.row 73 (.nm .snap) (((dw st c).1.snaps))]),true⟩:=by
 refine di uK [] Tryz.func103 (by decide) (by kernel_rfl) ?_
 rw [NL]
 (repeat' (first | with_reducible refine And.intro ?_ ?_ | with_reducible refine and_imp.2 ?_ | intro))
 all_goals (first | (first | with_reducible rfl | with_reducible assumption | omega | (refine ag ?_ ?_ <;> omega)) | exact (Nv (by with_reducible assumption)) | exact (PA (by with_reducible assumption)) | exact (za (by with_reducible assumption)) | exact (QC (by with_reducible assumption)) | exact (QM (by with_reducible assumption)) | (rw [Rq (by with_reducible assumption)]; done) | (rw [Pz (by with_reducible assumption)]; simp only [Fy, *]; done) | (rw [Pz (by with_reducible assumption)]; simp [Fy, *]; done))
def BG:cH:=(bB 103 (bw (ai (kT (.nm .state)) (ai (kT (.nm .command)) aH)) aJ fun (st,c,_) (_)=>⟨[],[.agg ([.int (((dw st c).1.version)),.int (((dw st c).1.next)),.int (((dw st c).1.keep)),.int (((dw st c).1.quota)),.own 0,.own 1,.own 2]),.agg (cellsOf (.nm .reply) ((dw st c).2))],some ([.row 82 (.nm .sess) (((dw st c).1.sess)),.row 63 (.nm .opn) (((dw st c).1.opens)),.row 73 (.nm .snap) (((dw st c).1.snaps))]),true⟩) BR)
theorem td:aS Tryz.prog (ao aF) BG:=(aq (au (ab br (ab br aj)) ak fun (st,c,_) (_) _=>OL st c ) uK)
end Go.Proofs.YtladifkbefehdaaGreat
namespace Go.Proofs.YtladifkbefehdaaGreat
open Go.RowKit
def bN (s:State) (c:Command):State × Reply:=
 if ax Sess.client c.client s.sess<0 then (s,⟨11,0⟩)
 else if c.seq=(s.sess.getD (ax Sess.client c.client s.sess).toNat (dflt (.nm .sess))).seq then (s,(s.sess.getD (ax Sess.client c.client s.sess).toNat (dflt (.nm .sess))).last)
 else if c.seq<(s.sess.getD (ax Sess.client c.client s.sess).toNat (dflt (.nm .sess))).seq then (s,⟨13,0⟩)
 else if (s.sess.getD (ax Sess.client c.client s.sess).toNat (dflt (.nm .sess))).seq+1<c.seq then (s,⟨14,0⟩)
 else ({ (dw s c).1 with sess:=(dw s c).1.sess.set (ax Sess.client c.client s.sess).toNat { (dw s c).1.sess.getD (ax Sess.client c.client s.sess).toNat (dflt (.nm .sess)) with seq:=c.seq,last:=(dw s c).2 } },(dw s c).2)
def gH (s:State) (c:Command):State × Reply:=
 if ¬ dO s c=0 then (s,⟨dO s c,0⟩)
 else if c.kind=8 then (if ¬ c.n=s.version+1 then (s,⟨1,0⟩) else ({ s with version:=c.n },⟨0,c.n⟩))
 else if c.kind=1 then (if 0<=ax Sess.client c.client s.sess then (s,⟨12,0⟩) else ({ s with sess:=u_ s.sess (s.sess.takeWhile fun y=>decide (y.client<c.client)).length ⟨c.client,0,⟨0,0⟩⟩ },⟨0,0⟩))
 else bN s c
theorem I_ {Q:State × Reply->Prop} {s:State} {c:Command} (h0:∀ e:Int,¬ e=0->Q (s,⟨e,0⟩))
  (hs:∀ f:State->Nat->State × Reply,dO s c=0->(f=dB c\/(∃ b,f=bQ b)\/f=bC\/f=aU)->Q (aA f c s))
  (hq:dO s c=0->Q (dj c s)) (hk:dO s c=0->Q (ec c s)) (ha:dO s c=0->Q (bj s c)) (hc:dO s c=0->Q (a_ s c)) (hb:dO s c=0->Q (bf s c)):Q (dw s c):=by
 unfold dw
 split
 ·exact h0 _ (by assumption)
 ·rename_i h
  have h:dO s c=0:=Classical.not_not.1 h
  unfold Fy
  split
  ·exact hs _ h (.inl rfl)
  split
  ·exact hs _ h (.inr (.inl ⟨_,rfl⟩))
  split
  ·exact hs _ h (.inr (.inl ⟨_,rfl⟩))
  split
  ·exact hs _ h (.inr (.inr (.inl rfl)))
  split
  ·exact hs _ h (.inr (.inr (.inr rfl)))
  split
  ·exact hq h
  split
  ·exact hk h
  split
  ·exact ha h
  split
  ·exact hc h
  split
  ·exact hb h
  ·exact h0 1 (by decide)
theorem zC {Q:State × Reply->Prop} {f:State->Nat->State × Reply} {s:State} {c:Command} (h0:∀ e:Int,¬ e=0->Q (s,⟨e,0⟩)) (h:∀ n:Nat,(n:Int)=ax Snap.id c.id s.snaps->Q (f s n)):Q (aA f c s):=by
 unfold aA
 split
 ·exact h0 15 (by decide)
 ·exact h _ (by omega)
theorem Al {s:State} {c:Command}:(dw s c).1.sess=s.sess:=by
 refine I_ (Q:=fun r=>r.1.sess=s.sess) (fun _ _=>rfl) (fun f _ hf=>?_) (fun _=>rfl) (fun _=>rfl) (fun _=>?_) (fun _=>?_) (fun _=>?_)
 ·refine zC (Q:=fun r=>r.1.sess=s.sess) (fun _ _=>rfl) fun n _=>?_
  rcases hf with rfl | ⟨b,rfl⟩ | rfl | rfl
  ·rfl
  ·unfold bQ; split <;> rfl
  ·rfl
  ·unfold aU; split; rfl; split <;> rfl
 ·unfold bj; split <;> rfl
 ·unfold a_; split; rfl; split; rfl; split <;> rfl
 ·unfold bf; split <;> rfl
theorem vh {l:List Sess} {k:Nat} {q:Int} {R:Reply} (h:k<l.length):(l.set k (Sess.mk (l.getD k (dflt (.nm .sess))).client q (l.getD k (dflt (.nm .sess))).last)).set k (Sess.mk ((l.set k (Sess.mk (l.getD k (dflt (.nm .sess))).client q (l.getD k (dflt (.nm .sess))).last)).getD k (dflt (.nm .sess))).client ((l.set k (Sess.mk (l.getD k (dflt (.nm .sess))).client q (l.getD k (dflt (.nm .sess))).last)).getD k (dflt (.nm .sess))).seq R)=l.set k { l.getD k (dflt (.nm .sess)) with seq:=q,last:=R }:=by
 have e:∀ x:Sess,(l.set k x).getD k (dflt (.nm .sess))=x:=fun x=>by
  rw [List.getD_eq_getElem?_getD,List.getElem?_set_self h]; rfl
 rw [e,List.set_set]
section
variable {v nx kp qt:Int} {se:List Sess} {op:List Opn} {sn:List Snap} {c:Command}
theorem TA (h:ax Sess.client c.client se<0):bN (State.mk v nx kp qt se op sn) c=(State.mk v nx kp qt se op sn,⟨11,0⟩):=by
 simp only [bN,if_pos h]
theorem SU (h:0<=ax Sess.client c.client se) (e:c.seq=(se.getD (ax Sess.client c.client se).toNat (dflt (.nm .sess))).seq):bN (State.mk v nx kp qt se op sn) c=(State.mk v nx kp qt se op sn,(se.getD (ax Sess.client c.client se).toNat (dflt (.nm .sess))).last):=by
 have h1:¬ ax Sess.client c.client se<0:=by omega
 simp only [bN,if_neg h1,if_pos e]
theorem Te (h:0<=ax Sess.client c.client se) (e:¬ c.seq=(se.getD (ax Sess.client c.client se).toNat (dflt (.nm .sess))).seq) (l:c.seq<(se.getD (ax Sess.client c.client se).toNat (dflt (.nm .sess))).seq):bN (State.mk v nx kp qt se op sn) c=(State.mk v nx kp qt se op sn,⟨13,0⟩):=by
 have h1:¬ ax Sess.client c.client se<0:=by omega
 simp only [bN,if_neg h1,if_neg e,if_pos l]
theorem Tz (h:0<=ax Sess.client c.client se) (e:¬ c.seq=(se.getD (ax Sess.client c.client se).toNat (dflt (.nm .sess))).seq) (l:(se.getD (ax Sess.client c.client se).toNat (dflt (.nm .sess))).seq<=c.seq) (g:(se.getD (ax Sess.client c.client se).toNat (dflt (.nm .sess))).seq+1<c.seq):bN (State.mk v nx kp qt se op sn) c=(State.mk v nx kp qt se op sn,⟨14,0⟩):=by
 have h1:¬ ax Sess.client c.client se<0:=by omega
 have h2:¬ c.seq<(se.getD (ax Sess.client c.client se).toNat (dflt (.nm .sess))).seq:=by omega
 simp only [bN,if_neg h1,if_neg e,if_neg h2,if_pos g]
theorem TB (h:0<=ax Sess.client c.client se) (e:¬ c.seq=(se.getD (ax Sess.client c.client se).toNat (dflt (.nm .sess))).seq) (l:(se.getD (ax Sess.client c.client se).toNat (dflt (.nm .sess))).seq<=c.seq) (g:c.seq<=(se.getD (ax Sess.client c.client se).toNat (dflt (.nm .sess))).seq+1):bN (State.mk v nx kp qt se op sn) c=({ (dw (State.mk v nx kp qt se op sn) c).1 with sess:=(dw (State.mk v nx kp qt se op sn) c).1.sess.set (ax Sess.client c.client se).toNat { (dw (State.mk v nx kp qt se op sn) c).1.sess.getD (ax Sess.client c.client se).toNat (dflt (.nm .sess)) with seq:=c.seq,last:=(dw (State.mk v nx kp qt se op sn) c).2 } },(dw (State.mk v nx kp qt se op sn) c).2):=by
 have h1:¬ ax Sess.client c.client se<0:=by omega
 have h2:¬ c.seq<(se.getD (ax Sess.client c.client se).toNat (dflt (.nm .sess))).seq:=by omega
 have h3:¬ (se.getD (ax Sess.client c.client se).toNat (dflt (.nm .sess))).seq+1<c.seq:=by omega
 simp only [bN,if_neg h1,if_neg e,if_neg h2,if_neg h3]
theorem CU (h:0<=ax Sess.client c.client se):ax Sess.client c.client se<((dw (State.mk v nx kp qt se op sn) c).1.sess.length:Int):=by rw [Al]; exact cO h
theorem tu (h:0<=ax Sess.client c.client se):(ax Sess.client c.client se).toNat<(dw (State.mk v nx kp qt se op sn) c).1.sess.length:=by have:=CU (v:=v) (nx:=nx) (kp:=kp) (qt:=qt) (op:=op) (sn:=sn) h; omega
theorem Pk {x:Sess} (h:0<=ax Sess.client c.client se):ax Sess.client c.client se<(((dw (State.mk v nx kp qt se op sn) c).1.sess.set (ax Sess.client c.client se).toNat x).length:Int):=by rw [List.length_set]; exact CU h
theorem So (h:dO (State.mk v nx kp qt se op sn) c=0) (h0:0<=ax Sess.client c.client se):I64 ((se.getD (ax Sess.client c.client se).toNat (dflt (.nm .sess))).seq+1):=by
 have h1:=(e_ (wQ h)).2.2.1
 simp only [uO,Bool.and_eq_true,List.all_eq_true] at h1
 have h2:=h1.2 _ (List.mem_of_getElem? (gd (d:=dflt (.nm .sess)) (k:=(ax Sess.client c.client se).toNat) (l:=se) (by have:=cO h0; omega)))
 simp only [cE,Bool.and_eq_true] at h2
 have h3:=vS h2.1.1
 constructor <;> omega
end
theorem EM (v:Int) (nx:Int) (kp:Int) (qt:Int) (c:Command) (se:List Sess) (op:List Opn) (sn:List Snap) (r0:Int) (r1:Int) (r2:Int) (r3:Int) (r4:Reply) (r5:List Sess) (r6:List Opn) (r7:List Snap):nh aF BG [] Tryz.f65 [.agg ([.int (v),.int (nx),.int (kp),.int (qt),.own 0,.own 1,.own 2]),.agg (cellsOf (.nm .command) c)] [.row 82 (.nm .sess) (se),.row 63 (.nm .opn) (op),.row 73 (.nm .snap) (sn)] [.agg ([.int (r0),.int (r1),.int (r2),.int (r3),.own 0,.own 1,.own 2]),.agg (cellsOf (.nm .reply) r4)] [.row 82 (.nm .sess) (r5),.row 63 (.nm .opn) (r6),.row 73 (.nm .snap) (r7)]=((fun (q7:Prop)=>(fun (q6:Int)=>(fun (q5:Int)=>(fun (q4:Prop)=>(fun (q3:den (Sh.nm NT.sess))=>(fun (q2:State × Reply)=>(fun (q1:Int)=>(fun (q0:den (Sh.nm NT.sess))=>I64 v->I64 nx->I64 kp->I64 qt->I64 c.kind->I64 c.client->I64 q6->I64 c.set->I64 c.id->I64 c.n->c.chunks.length*(8:Nat)<=(140737488355328:Nat)->c.text.b.length<=(140737488355328:Nat)->I64 q1->(q1<q5->I64 (11:Int)->I64 q5->v=r0/\nx=r1/\kp=r2/\qt=r3/\(11:Int)=r4.code/\q4)/\(q5<=q1->q5<=q1/\q1<(↑se.length:Int)/\(I64 (se.getD q1.toNat q3).client->I64 (se.getD q1.toNat q3).seq->I64 (se.getD q1.toNat q3).last.code->I64 (se.getD q1.toNat q3).last.n->(q6=(se.getD q1.toNat q3).seq->v=r0/\nx=r1/\kp=r2/\qt=r3/\(se.getD q1.toNat q3).last.code=r4.code/\(se.getD q1.toNat q3).last.n=r4.n/\q7)/\(¬q6=(se.getD q1.toNat q3).seq->(q6<(se.getD q1.toNat q3).seq->I64 (13:Int)->I64 q5->v=r0/\nx=r1/\kp=r2/\qt=r3/\(13:Int)=r4.code/\q4)/\((se.getD q1.toNat q3).seq<=q6->I64 ((se.getD q1.toNat q3).seq+(1:Int))/\((se.getD q1.toNat q3).seq+(1:Int)<q6->I64 (14:Int)->I64 q5->v=r0/\nx=r1/\kp=r2/\qt=r3/\(14:Int)=r4.code/\q4)/\(q6<=(se.getD q1.toNat q3).seq+(1:Int)->I64 q2.fst.version->I64 q2.fst.next->I64 q2.fst.keep->I64 q2.fst.quota->I64 q2.snd.code->I64 q2.snd.n->(q5<=q1/\q1<(↑q2.fst.sess.length:Int))/\(I64 q0.client->I64 q0.seq->I64 q0.last.code->I64 q0.last.n->q5<=q1/\q1<(↑(q2.fst.sess.set q1.toNat (Sess.mk q0.client q6 q0.last)).length:Int))/\(I64 q0.client->I64 q0.seq->I64 q0.last.code->I64 q0.last.n->I64 ((q2.fst.sess.set q1.toNat (Sess.mk q0.client q6 q0.last)).getD q1.toNat q3).client->I64 ((q2.fst.sess.set q1.toNat (Sess.mk q0.client q6 q0.last)).getD q1.toNat q3).seq->I64 ((q2.fst.sess.set q1.toNat (Sess.mk q0.client q6 q0.last)).getD q1.toNat q3).last.code->I64 ((q2.fst.sess.set q1.toNat (Sess.mk q0.client q6 q0.last)).getD q1.toNat q3).last.n->q2.fst.version=r0/\q2.fst.next=r1/\q2.fst.keep=r2/\q2.fst.quota=r3/\q2.snd.code=r4.code/\q2.snd.n=r4.n/\(q2.fst.sess.set q1.toNat (Sess.mk q0.client q6 q0.last)).set q1.toNat (Sess.mk ((q2.fst.sess.set q1.toNat (Sess.mk q0.client q6 q0.last)).getD q1.toNat q3).client ((q2.fst.sess.set q1.toNat (Sess.mk q0.client q6 q0.last)).getD q1.toNat q3).seq q2.snd)=r5/\q2.fst.opens=r6/\q2.fst.snaps=r7))))))) (q2.fst.sess.getD q1.toNat q3)) (ax Sess.client c.client se)) (dw (State.mk v nx kp qt se op sn) c)) (dflt (Sh.nm NT.sess))) (q5=r4.n/\q7)) (0:Int)) c.seq) (se=r5/\op=r6/\sn=r7)):=by kernel_rfl
theorem BI (v:Int) (nx:Int) (kp:Int) (qt:Int) (c:Command) (se:List Sess) (op:List Opn) (sn:List Snap) (h0:dO (State.mk v nx kp qt se op sn) c=0):Sat Tryz.prog (ao aF) 65 [.agg ([.int (v),.int (nx),.int (kp),.int (qt),.own 0,.own 1,.own 2]),.agg (cellsOf (.nm .command) c)] [.row 82 (.nm .sess) (se),.row 63 (.nm .opn) (op),.row 73 (.nm .snap) (sn)] ⟨[dO (State.mk v nx kp qt se op sn) c=0],[.agg ([.int (((bN (State.mk v nx kp qt se op sn) c).1.version)),.int (((bN (State.mk v nx kp qt se op sn) c).1.next)),.int (((bN (State.mk v nx kp qt se op sn) c).1.keep)),.int (((bN (State.mk v nx kp qt se op sn) c).1.quota)),.own 0,.own 1,.own 2]),.agg (cellsOf (.nm .reply) ((bN (State.mk v nx kp qt se op sn) c).2))],some ([.row 82 (.nm .sess) (((bN (State.mk v nx kp qt se op sn) c).1.sess)),.row 63 (.nm .opn) (((bN (State.mk v nx kp qt se op sn) c).1.opens)),.row 73 (.nm .snap) (((bN (State.mk v nx kp qt se op sn) c).1.snaps))]),false⟩:=by
 refine dy td [] Tryz.func65 (by decide) (by kernel_rfl) ?_
 rw [EM]
 (repeat' (first | with_reducible refine And.intro ?_ ?_ | with_reducible refine and_imp.2 ?_ | intro))
 all_goals (first | (first | with_reducible rfl | with_reducible assumption | omega | (refine ag ?_ ?_ <;> omega)) | exact cO (by with_reducible assumption) | exact CU (by with_reducible assumption) | exact Pk (by with_reducible assumption) | exact So (by with_reducible assumption) (by with_reducible assumption) | (rw [TA] <;> first | rfl | with_reducible assumption | exact vh (tu (by with_reducible assumption))) | (rw [SU] <;> first | rfl | with_reducible assumption | exact vh (tu (by with_reducible assumption))) | (rw [Te] <;> first | rfl | with_reducible assumption | exact vh (tu (by with_reducible assumption))) | (rw [Tz] <;> first | rfl | with_reducible assumption | exact vh (tu (by with_reducible assumption))) | (rw [TB] <;> first | rfl | with_reducible assumption | exact vh (tu (by with_reducible assumption))))
def EF:cH:=(bB 65 (bw (ai (kG (aw cI (aw cI (aw cI (aw cI (aw (bl 0) (aw (bl 1) (aw (bl 2) bT)))))))) (ai (kT (.nm .command)) aH)) (ay (bm 82 (.nm .sess)) (ay (bm 63 (.nm .opn)) (ay (bm 73 (.nm .snap)) aJ))) fun ((v,nx,kp,qt,_,_,_,_),c,_) (se,op,sn,_)=>⟨[dO (State.mk v nx kp qt se op sn) c=0],[.agg ([.int (((bN (State.mk v nx kp qt se op sn) c).1.version)),.int (((bN (State.mk v nx kp qt se op sn) c).1.next)),.int (((bN (State.mk v nx kp qt se op sn) c).1.keep)),.int (((bN (State.mk v nx kp qt se op sn) c).1.quota)),.own 0,.own 1,.own 2]),.agg (cellsOf (.nm .reply) ((bN (State.mk v nx kp qt se op sn) c).2))],some ([.row 82 (.nm .sess) (((bN (State.mk v nx kp qt se op sn) c).1.sess)),.row 63 (.nm .opn) (((bN (State.mk v nx kp qt se op sn) c).1.opens)),.row 73 (.nm .snap) (((bN (State.mk v nx kp qt se op sn) c).1.snaps))]),false⟩) BG)
theorem tG:aS Tryz.prog (ao aF) EF:=(aq (au (ab (P_ (ae av (ae av (ae av (ae av (ae aD (ae aD (ae aD aI)))))))) (ab br aj)) (ah aE (ah aE (ah aE ak))) fun ((v,nx,kp,qt,_,_,_,_),c,_) (se,op,sn,_) hp=>BI v nx kp qt c se op sn (dx hp)) td)
end Go.Proofs.YtladifkbefehdaaGreat
namespace Go.Proofs.YtladifkbefehdaaGreat
open Go.RowKit
section
variable {s:State} {c:Command}
theorem Mh (h:(if mayF s s.version=0 then aX c s.version else 1)=0):dO s c=0:=h
theorem MC (h:(if mayF s s.version=0 then aX c s.version else 1)=0):I64 (s.version+1):=by
 have h1:=(e_ (wQ h)).2.1
 simp only [ij,Bool.and_eq_true] at h1
 have:=vS h1.1.1.1
 constructor <;> omega
theorem Sz (h:¬ (if mayF s s.version=0 then aX c s.version else 1)=0):gH s c=(s,⟨(if mayF s s.version=0 then aX c s.version else 1),0⟩):=by
 have h:¬ dO s c=0:=h
 rw [gH,if_pos h]; rfl
theorem QL (h:(if mayF s s.version=0 then aX c s.version else 1)=0):gH s c=if c.kind=8 then (if ¬ c.n=s.version+1 then (s,⟨1,0⟩) else ({ s with version:=c.n },⟨0,c.n⟩))
 else if c.kind=1 then (if 0<=ax Sess.client c.client s.sess then (s,⟨12,0⟩) else ({ s with sess:=u_ s.sess (s.sess.takeWhile fun y=>decide (y.client<c.client)).length ⟨c.client,0,⟨0,0⟩⟩ },⟨0,0⟩))
 else bN s c:=by
 have h:¬ ¬ dO s c=0:=fun k=>k h
 rw [gH,if_neg h]
theorem Oj (h:(if mayF s s.version=0 then aX c s.version else 1)=0) (k:c.kind=8) (n:¬ c.n=s.version+1):gH s c=(s,⟨1,0⟩):=by rw [QL h,if_pos k,if_pos n]
theorem Nr (h:(if mayF s s.version=0 then aX c s.version else 1)=0) (k:c.kind=8) (n:c.n=s.version+1):gH s c=({ s with version:=c.n },⟨0,c.n⟩):=by rw [QL h,if_pos k,if_neg (fun h=>h n)]
theorem NZ (h:(if mayF s s.version=0 then aX c s.version else 1)=0) (k:c.kind=1) (n:0<=ax Sess.client c.client s.sess):gH s c=(s,⟨12,0⟩):=by rw [QL h,if_neg (by omega),if_pos k,if_pos n]
theorem NQ (h:(if mayF s s.version=0 then aX c s.version else 1)=0) (k:c.kind=1) (n:ax Sess.client c.client s.sess<0):gH s c=({ s with sess:=u_ s.sess (s.sess.takeWhile fun y=>decide (y.client<c.client)).length ⟨c.client,0,⟨0,0⟩⟩ },⟨0,0⟩):=by rw [QL h,if_neg (by omega),if_pos k,if_neg (by omega)]
theorem Sy (h:(if mayF s s.version=0 then aX c s.version else 1)=0) (k:¬ c.kind=8) (n:¬ c.kind=1):gH s c=bN s c:=by rw [QL h,if_neg k,if_neg n]
theorem dv {l:List Sess} {k:Nat} {x:Sess} (hs:k<=l.length) (ha:(l.take k).all (fun y=>decide (y.client<c.client))=true) (hb:(l.length:Int)<=k\/c.client<=(l.getD k (dflt (.nm .sess))).client):l.take k++[x]++l.drop k=u_ l (l.takeWhile fun y=>decide (y.client<c.client)).length x:=by
 have:k=(l.takeWhile fun y=>decide (y.client<c.client)).length:=by
  refine Ga ha hs ?_
  by_cases hl:(l.length:Int)<=k
  ·exact .inl hl
  ·refine .inr ⟨by omega,_,gd (d:=dflt (.nm .sess)) (by omega),?_⟩
   rcases hb with hb | hb
   ·omega
   ·exact decide_eq_false (by omega)
 rw [<- this]; simp [u_]
theorem EJ {l:List Sess} {k:Nat} (ha:(l.take k).all (fun y=>decide (y.client<c.client))=true) (h:(k:Int)<l.length) (hb:(l.getD k (dflt (.nm .sess))).client<c.client):(l.take (k+1)).all (fun y=>decide (y.client<c.client))=true:=by
 rw [aB (gd (d:=dflt (.nm .sess)) h),List.all_append,ha]; simp only [List.all_cons,List.all_nil,decide_eq_true hb]; rfl
end
def Pb (st:State) (c:Command):List (Nat × LI):=[(15,{ σ:=Nat,F:=fun k=>([(2,one (.ptr 0 0)),(3,one (.ptr 1 0)),(4,one (.ptr 2 0)),(5,one (.ptr 3 0)),(7,one (.int k))],[.box 43 ([.int ((st.version)),.int ((st.next)),.int ((st.keep)),.int ((st.quota)),.own 4,.own 5,.own 6]),.box 24 (cellsOf (.nm .command) ((c))),.box 43 ([.int ((0)),.int ((0)),.int ((0)),.int ((0)),.em true,.em true,.em true]),.box 56 ([.int ((0)),.int ((0))]),.row 82 (.nm .sess) ((st.sess)),.row 63 (.nm .opn) ((st.opens)),.row 73 (.nm .snap) ((st.snaps))]),J:=fun k=>k<=st.sess.length/\(st.sess.take k).all (fun y=>decide (y.client<c.client))=true,μ:=fun k=>st.sess.length - k })]
theorem QI (st:State) (c:Command) (r0:Int) (r1:Int) (r2:Int) (r3:Int) (r4:Reply) (r5:List Sess) (r6:List Opn) (r7:List Snap):ma aF EF (Pb st c) Tryz.f34 [.agg (cellsOf (.nm .state) st),.agg (cellsOf (.nm .command) c)] [] [.agg ([.int (r0),.int (r1),.int (r2),.int (r3),.own 0,.own 1,.own 2]),.agg (cellsOf (.nm .reply) r4)] [.row 82 (.nm .sess) (r5),.row 63 (.nm .opn) (r6),.row 73 (.nm .snap) (r7)]=((fun (q12:Reply)=>(fun (q11:den (Sh.nm NT.sess))=>(fun (q10:Prop)=>(fun (q9:Prop)=>(fun (q8:Prop)=>(fun (q7:Int)=>(fun (q6:Int)=>(fun (q5:Prop)=>(fun (q4:State)=>(fun (q3:Int)=>(fun (q2:List Sess)=>(fun (q1:Int)=>(fun (q0:Prop)=>I64 q3->I64 st.next->I64 st.keep->I64 st.quota->q2.length*(32:Nat)<=(140737488355328:Nat)->st.opens.length*(16:Nat)<=(140737488355328:Nat)->st.snaps.length*(64:Nat)<=(140737488355328:Nat)->I64 c.kind->I64 q7->I64 c.seq->I64 c.set->I64 c.id->I64 c.n->c.chunks.length*(8:Nat)<=(140737488355328:Nat)->c.text.b.length<=(140737488355328:Nat)->I64 q3->I64 st.next->I64 st.keep->I64 st.quota->I64 (if mayF st q3=q1 then aX c q3 else q6)->(¬(if mayF st q3=q1 then aX c q3 else q6)=q1->I64 (if mayF st q3=q1 then aX c q3 else q6)->I64 q1->q3=r0/\q10/\q9/\q8/\(if mayF st q3=q1 then aX c q3 else q6)=r4.code/\q1=r4.n/\q2=r5/\q5)/\((if mayF st q3=q1 then aX c q3 else q6)=q1->(c.kind=(8:Int)->I64 (q3+q6)/\(¬c.n=q3+q6->I64 q6->I64 q1->q3=r0/\q10/\q9/\q8/\q6=r4.code/\q1=r4.n/\q2=r5/\q5)/\(c.n=q3+q6->c.n=r0/\q10/\q9/\q8/\q1=r4.code/\c.n=r4.n/\q2=r5/\q5))/\(¬c.kind=(8:Int)->(c.kind=q6->I64 (ax Sess.client q7 q2)->(q1<=ax Sess.client q7 q2->I64 (12:Int)->I64 q1->q3=r0/\q10/\q9/\q8/\(12:Int)=r4.code/\q1=r4.n/\q2=r5/\q5)/\(ax Sess.client q7 q2<q1->∃ (s0:Nat),(fun (q13:Int)=>(q1=(↑s0:Int)/\q0)/\(s0<=q2.length/\((List.take s0 q2).all fun (y:Sess)=>decide (y.client<q7))=true)/\∀ (s:Nat),(fun (q15:Int)=>(fun (q14:den (Sh.nm NT.sess))=>s<=q2.length/\((List.take s q2).all fun (y:Sess)=>decide (y.client<q7))=true->(q15<q13->q1<=q15/\q15<q13)/\((q15<q13->I64 q14.client/\I64 q14.seq/\I64 q14.last.code/\I64 q14.last.n)->(q15<q13/\q14.client<q7->I64 (q15+q6)/\∃ (s':Nat),(q15+q6=(↑s':Int)/\q0)/\(s' <= q2.length/\((List.take s' q2).all fun (y:Sess)=>decide (y.client<q7))=true)/\q2.length - s' < q2.length - s)/\(q13<=q15\/q7<=q14.client->(q1<=q15/\q15<=q13)/\q2.length<(1048576:Nat)/\[Sess.mk q7 q1 (Reply.mk q1 q1)].length=(1:Nat)/\q3=r0/\q10/\q9/\q8/\q1=r4.code/\q1=r4.n/\List.take s q2++[Sess.mk q7 q1 (Reply.mk q1 q1)]++List.drop s q2=r5/\q5))) (q2.getD s q11)) (↑s:Int)) (↑q2.length:Int)))/\(¬c.kind=q6->dO st c=q1/\(I64 q4.version->I64 q4.next->I64 q4.keep->I64 q4.quota->I64 q12.code->I64 q12.n->q4.version=r0/\q4.next=r1/\q4.keep=r2/\q4.quota=r3/\q12.code=r4.code/\q12.n=r4.n/\q4.sess=r5/\q4.opens=r6/\q4.snaps=r7))))) (q3=q3/\st.next=st.next/\st.keep=st.keep/\st.quota=st.quota/\c.kind=c.kind/\q7=q7/\c.seq=c.seq/\c.set=c.set/\c.id=c.id/\c.n=c.n/\c.chunks=c.chunks/\c.text=c.text/\q1=q1/\q1=q1/\q1=q1/\q1=q1/\q1=q1/\q1=q1/\q2=q2/\st.opens=st.opens/\st.snaps=st.snaps)) (0:Int)) st.sess) st.version) (bN st c).fst) (st.opens=r6/\st.snaps=r7)) (1:Int)) c.client) (st.quota=r3)) (st.keep=r2)) (st.next=r1)) (dflt (Sh.nm NT.sess))) (bN st c).snd):=by kernel_rfl
theorem Qc (st:State) (c:Command):Sat Tryz.prog (ao aF) 34 [.agg (cellsOf (.nm .state) st),.agg (cellsOf (.nm .command) c)] [] ⟨[],[.agg ([.int (((gH st c).1.version)),.int (((gH st c).1.next)),.int (((gH st c).1.keep)),.int (((gH st c).1.quota)),.own 0,.own 1,.own 2]),.agg (cellsOf (.nm .reply) ((gH st c).2))],some ([.row 82 (.nm .sess) (((gH st c).1.sess)),.row 63 (.nm .opn) (((gH st c).1.opens)),.row 73 (.nm .snap) (((gH st c).1.snaps))]),true⟩:=by
 refine di tG (Pb st c) Tryz.func34 (by decide) (by kernel_rfl) ?_
 rw [QI]
 (repeat' (first | with_reducible refine And.intro ?_ ?_ | with_reducible refine and_imp.2 ?_ | intro))
 all_goals try (first | (first | with_reducible rfl | with_reducible assumption | omega | (refine ag ?_ ?_ <;> omega)) | exact rfl | exact Mh (by with_reducible assumption) | exact MC (by with_reducible assumption) | exact za (by with_reducible assumption) | exact EJ (by with_reducible assumption) (by with_reducible assumption) (by with_reducible assumption) | (rw [Sz] <;> first | rfl | with_reducible assumption | exact dv (by omega) (by with_reducible assumption) (by assumption)) | (rw [Oj] <;> first | rfl | with_reducible assumption | exact dv (by omega) (by with_reducible assumption) (by assumption)) | (rw [Nr] <;> first | rfl | with_reducible assumption | exact dv (by omega) (by with_reducible assumption) (by assumption)) | (rw [NZ] <;> first | rfl | with_reducible assumption | exact dv (by omega) (by with_reducible assumption) (by assumption)) | (rw [NQ] <;> first | rfl | with_reducible assumption | exact dv (by omega) (by with_reducible assumption) (by assumption)) | (rw [Sy] <;> first | rfl | with_reducible assumption | exact dv (by omega) (by with_reducible assumption) (by assumption)))
 all_goals try (refine ⟨0,?_⟩; (repeat' (first | with_reducible refine And.intro ?_ ?_ | with_reducible refine and_imp.2 ?_ | intro)))
 all_goals try (first | (first | with_reducible rfl | with_reducible assumption | omega | (refine ag ?_ ?_ <;> omega)) | exact rfl | exact Mh (by with_reducible assumption) | exact MC (by with_reducible assumption) | exact za (by with_reducible assumption) | exact EJ (by with_reducible assumption) (by with_reducible assumption) (by with_reducible assumption) | (rw [Sz] <;> first | rfl | with_reducible assumption | exact dv (by omega) (by with_reducible assumption) (by assumption)) | (rw [Oj] <;> first | rfl | with_reducible assumption | exact dv (by omega) (by with_reducible assumption) (by assumption)) | (rw [Nr] <;> first | rfl | with_reducible assumption | exact dv (by omega) (by with_reducible assumption) (by assumption)) | (rw [NZ] <;> first | rfl | with_reducible assumption | exact dv (by omega) (by with_reducible assumption) (by assumption)) | (rw [NQ] <;> first | rfl | with_reducible assumption | exact dv (by omega) (by with_reducible assumption) (by assumption)) | (rw [Sy] <;> first | rfl | with_reducible assumption | exact dv (by omega) (by with_reducible assumption) (by assumption)))
 all_goals try (refine ⟨‹Nat› + 1,?_⟩; (repeat' (first | with_reducible refine And.intro ?_ ?_ | with_reducible refine and_imp.2 ?_ | intro)))
 all_goals (first | (first | with_reducible rfl | with_reducible assumption | omega | (refine ag ?_ ?_ <;> omega)) | exact rfl | exact Mh (by with_reducible assumption) | exact MC (by with_reducible assumption) | exact za (by with_reducible assumption) | exact EJ (by with_reducible assumption) (by with_reducible assumption) (by with_reducible assumption) | (rw [Sz] <;> first | rfl | with_reducible assumption | exact dv (by omega) (by with_reducible assumption) (by assumption)) | (rw [Oj] <;> first | rfl | with_reducible assumption | exact dv (by omega) (by with_reducible assumption) (by assumption)) | (rw [Nr] <;> first | rfl | with_reducible assumption | exact dv (by omega) (by with_reducible assumption) (by assumption)) | (rw [NZ] <;> first | rfl | with_reducible assumption | exact dv (by omega) (by with_reducible assumption) (by assumption)) | (rw [NQ] <;> first | rfl | with_reducible assumption | exact dv (by omega) (by with_reducible assumption) (by assumption)) | (rw [Sy] <;> first | rfl | with_reducible assumption | exact dv (by omega) (by with_reducible assumption) (by assumption)))
def Eb:cH:=(bB 34 (bw (ai (kT (.nm .state)) (ai (kT (.nm .command)) aH)) aJ fun (st,c,_) (_)=>⟨[],[.agg ([.int (((gH st c).1.version)),.int (((gH st c).1.next)),.int (((gH st c).1.keep)),.int (((gH st c).1.quota)),.own 0,.own 1,.own 2]),.agg (cellsOf (.nm .reply) ((gH st c).2))],some ([.row 82 (.nm .sess) (((gH st c).1.sess)),.row 63 (.nm .opn) (((gH st c).1.opens)),.row 73 (.nm .snap) (((gH st c).1.snaps))]),true⟩) EF)
theorem ub:aS Tryz.prog (ao aF) Eb:=(aq (au (ab br (ab br aj)) ak fun (st,c,_) (_) _=>Qc st c ) tG)
end Go.Proofs.YtladifkbefehdaaGreat
namespace Go.Proofs.YtladifkbefehdaaGreat
open Go.RowKit
theorem Ds  (r0:State):cA aF Eb [] Tryz.f22 [] [] [.agg (cellsOf (.nm .state) r0)]=((1:Int)=r0.version/\(1:Int)=r0.next/\(0:Int)=r0.keep/\(0:Int)=r0.quota/\r0.sess=[]/\r0.opens=[]/\r0.snaps=[]):=by kernel_rfl
theorem Dc :Sat Tryz.prog (ao aF) 22 [] [] ⟨[],[.agg (cellsOf (.nm .state) (⟨1,1,0,0,[],[],[]⟩))],none,false⟩:=by
 refine aM ub [] Tryz.func22 (by decide) (by kernel_rfl) ?_
 rw [Ds]
 (repeat' (first | with_reducible refine And.intro ?_ ?_ | with_reducible refine and_imp.2 ?_ | intro))
 all_goals (first | (first | with_reducible rfl | with_reducible assumption | omega | (refine ag ?_ ?_ <;> omega)) | exact rfl)
def La:cH:=(bB 22 (bw aH aJ fun (_) (_)=>⟨[],[.agg (cellsOf (.nm .state) (⟨1,1,0,0,[],[],[]⟩))],none,false⟩) Eb)
theorem Du:aS Tryz.prog (ao aF) La:=(aq (au aj ak fun (_) (_) _=>Dc  ) ub)
end Go.Proofs.YtladifkbefehdaaGreat
namespace Go.Proofs.YtladifkbefehdaaGreat
open Go.RowKit
def Kj:cH:=La
theorem Cj:aS Tryz.prog (ao aF) Kj:=Du
end Go.Proofs.YtladifkbefehdaaGreat
namespace Go.Proofs.YtladifkbefehdaaGreat
open Go.RowKit
section
variable {s:State} {c:Command}
end
end Go.Proofs.YtladifkbefehdaaGreat
namespace Go.Proofs.YtladifkbefehdaaGreat
open Go.RowKit
section
variable {α:Type} {key:α->Int} {most:Int}
end
end Go.Proofs.YtladifkbefehdaaGreat
namespace Go.Proofs.YtladifkbefehdaaGreat
open Go.RowKit
structure ActOk (s:State) (r:State × Reply):Prop where
 may:mayF r.1 r.1.version=0
 ver:r.1.version=s.version
 nxt:s.next<=r.1.next/\r.1.next<=s.next+1
 code:0<=r.2.code/\r.2.code<=99
 n:0<=r.2.n/\r.2.n<=1048576
end Go.Proofs.YtladifkbefehdaaGreat
namespace Go.Proofs.YtladifkbefehdaaGreat
open Go.RowKit
end Go.Proofs.YtladifkbefehdaaGreat
namespace Go.Proofs.YtladifkbefehdaaGreat
open Go.RowKit
section
variable {α:Type} {key:α->Int} {most:Int}
end
structure DoOk (s:State) (c:Command) (r:State × Reply):Prop where
 may:mayF r.1 r.1.version=0
 ver:r.1.version=if c.kind=8/\r.2.code=0 then s.version+1 else s.version
 nxt:s.next<=r.1.next/\r.1.next<=s.next+1
 len:s.sess.length<=r.1.sess.length
 seq:∀ x ∈ s.sess,∃ y ∈ r.1.sess,y.client=x.client/\x.seq<=y.seq/\y.seq<=x.seq+1
end Go.Proofs.YtladifkbefehdaaGreat
namespace Go.Proofs.YtladifkbefehdaaGreat
open Go.RowKit
section
variable {s:State} {c:Command}
end
end Go.Proofs.YtladifkbefehdaaGreat
namespace Go.Proofs.YtladifkbefehdaaGreat
open Go.RowKit
section
variable {α:Type} {key:α->Int} {most:Int}
end
section
variable {s:State} {x:Snap} {i:Nat}
end
section
variable {s:State} {x:Snap} {i:Nat}
end
section
variable {s:State} {x:Snap} {i:Nat}
end
end Go.Proofs.YtladifkbefehdaaGreat
namespace Go.Proofs.YtladifkbefehdaaGreat
open Go.RowKit
def keepsX (s:State) (c:Command) (r:State × Reply) (i:Nat) (x:Snap):Prop:=
 (ax Snap.id x.id r.1.snaps<0/\c.kind=5/\c.id=x.id/\x.held=false/\kW s i=false/\r.2.code=0) \/
 (0<=ax Snap.id x.id r.1.snaps/\∃ y,r.1.snaps.getD (ax Snap.id x.id r.1.snaps).toNat (dflt (.nm .snap))=y/\y.chunks=x.chunks/\y.set=x.set/\(y.held=x.held\/c.kind=9\/c.kind=10)/\(y.tag=x.tag\/c.kind=11))
structure KeepOk (s:State) (c:Command) (r:State × Reply):Prop where
 x:∀ i x,s.snaps[i]? = some x->keepsX s c r i x
 more:r.1.snaps.length<=s.snaps.length\/(r.1.snaps.length=s.snaps.length+1/\c.kind=3/\r.2.code=0/\(r.1.snaps.getD s.snaps.length (dflt (.nm .snap))).id=r.2.n/\(s.quota=0\/(distF r.1.snaps:Int)<=s.quota))
section
variable {s:State} {c:Command} {k:Nat}
end
end Go.Proofs.YtladifkbefehdaaGreat
namespace Go.Proofs.YtladifkbefehdaaGreat
open Go.RowKit
section
variable {α:Type} {key:α->Int} {most:Int}
end
section
variable {s:State} {c:Command}
end
end Go.Proofs.YtladifkbefehdaaGreat
namespace Go.Proofs.YtladifkbefehdaaGreat
open Go.RowKit
end Go.Proofs.YtladifkbefehdaaGreat
namespace Go.Proofs.YtladifkbefehdaaGreat
open Go.RowKit
section
variable {α:Type} {key:α->Int} {x y d:α}
variable {l:List α} {k:Nat}
end
def KN:cH:=Kj
theorem FK:aS Tryz.prog (ao aF) KN:=Cj
end Go.Proofs.YtladifkbefehdaaGreat
namespace Go.Proofs.YtladifkbefehdaaGreat
open Go.RowKit
section
variable {st:State} {c:Command}
variable {i:Int} {x:Snap}
end
def Ky:cH:=KN
theorem Es:aS Tryz.prog (ao aF) Ky:=FK
end Go.Proofs.YtladifkbefehdaaGreat
namespace Go.Proofs.YtladifkbefehdaaGreat
open Go.RowKit
section
variable {st:State} {c:Command}
end
def Kz:cH:=Ky
theorem CK:aS Tryz.prog (ao aF) Kz:=Es
end Go.Proofs.YtladifkbefehdaaGreat
namespace Go.Proofs.YtladifkbefehdaaGreat
open Go.RowKit
section
variable {st:State} {c:Command}
end
def KH:cH:=Kz
theorem Cy:aS Tryz.prog (ao aF) KH:=CK
end Go.Proofs.YtladifkbefehdaaGreat
namespace Go.Proofs.YtladifkbefehdaaGreat
open Go.RowKit
section
variable {l:List Int} {k:Nat} {x:Int}
end
def Kr:cH:=KH
theorem C_:aS Tryz.prog (ao aF) Kr:=Cy
end Go.Proofs.YtladifkbefehdaaGreat
namespace Go.Proofs.YtladifkbefehdaaGreat
open Go.RowKit
section
variable {st:State} {v:Int}
end
def KB:cH:=Kr
theorem DS:aS Tryz.prog (ao aF) KB:=C_
end Go.Proofs.YtladifkbefehdaaGreat
namespace Go.Proofs.YtladifkbefehdaaGreat
open Go.RowKit
def Kw:cH:=KB
theorem FG:aS Tryz.prog (ao aF) Kw:=DS
end Go.Proofs.YtladifkbefehdaaGreat
namespace Go.Proofs.YtladifkbefehdaaGreat
open Go.RowKit
def Kq:cH:=Kw
theorem Fx:aS Tryz.prog (ao aF) Kq:=FG
end Go.Proofs.YtladifkbefehdaaGreat
namespace Go.Proofs.YtladifkbefehdaaGreat
open Go.RowKit
def KA:cH:=Kq
theorem DK:aS Tryz.prog (ao aF) KA:=Fx
end Go.Proofs.YtladifkbefehdaaGreat
namespace Go.Proofs.YtladifkbefehdaaGreat
open Go.RowKit
def KD:cH:=KA
theorem CL:aS Tryz.prog (ao aF) KD:=DK
end Go.Proofs.YtladifkbefehdaaGreat
namespace Go.Proofs.YtladifkbefehdaaGreat
open Go.RowKit
def uf:cH:=KD
theorem kI:aS Tryz.prog (ao aF) uf:=CL
end Go.Proofs.YtladifkbefehdaaGreat
namespace Go.Proofs.YtladifkbefehdaaGreat
open Go.RowKit
def gb (s:State) (l:List Command):State:=l.foldl (fun s c=>(gH s c).1) s
def fg (s:State):List Command->List Reply
 | []=>[]
 | c :: l=>(gH s c).2 :: fg (gH s c).1 l
section
variable {s:State} {l:List Command} {x:Command} {k:Nat}
theorem ua:∀ {l:List Command} {s:State},fg s (l++[x])=fg s l++[(gH (gb s l) x).2]
 | [],_=>rfl
 | c :: l,s=>by
  show (gH s c).2 :: fg (gH s c).1 (l++[x])=(gH s c).2 :: (fg (gH s c).1 l++[(gH (gb (gH s c).1 l) x).2])
  rw [ua]
theorem cX (hx:l[k]? = some x):(gH (gb s (l.take k)) x).1=gb s (l.take (k+1)):=by
 rw [aB hx]; unfold gb; rw [List.foldl_append]; rfl
theorem xj (hx:l[k]? = some x):fg s (l.take k)++[(gH (gb s (l.take k)) x).2]=fg s (l.take (k+1)):=by
 rw [aB hx,ua]
theorem yC:∀ {l:List Command} {s:State},(fg s l).length=l.length
 | [],_=>rfl
 | c :: l,s=>by
  show (fg (gH s c).1 l).length+1=l.length+1
  rw [yC]
end
section
variable {s:State} {l:List Command} {x:Command} {k:Nat} {d:Command}
theorem wa {y:Reply} (h:(k:Int)<l.length) (hl:l.length*88<=140737488355328):((fg s (l.take k)).length+[y].length)*16<=140737488355328:=by
 rw [yC,List.length_take]; simp only [List.length_cons,List.length_nil]; omega
theorem Lh (h:(l.length:Int)<=k):l.take k=l:=List.take_of_length_le (by omega)
end
def cM:List Command:=[Command.mk 1 1 0 0 0 0 [] (Str.mk []),Command.mk 2 1 1 2 0 0 [] (Str.mk []),Command.mk 2 1 1 2 0 0 [] (Str.mk [])]
end Go.Proofs.YtladifkbefehdaaGreat
namespace Go.Proofs.YtladifkbefehdaaGreat
open Go.RowKit
def Kn (st:State) (l:List Command):List (Nat × LI):=[(4,{ σ:=Nat,F:=fun k=>([(2,one (.ptr 0 0)),(4,one (.ptr 1 0)),(6,one (.own 5)),(12,one (.fz (.nm .command) (l))),(13,one (.int (l).length)),(14,one (.int k))],[.box 43 ([.int ((((gb st (l.take k))).version)),.int ((((gb st (l.take k))).next)),.int ((((gb st (l.take k))).keep)),.int ((((gb st (l.take k))).quota)),.own 2,.own 3,.own 4]),.box 43 ([.int ((0)),.int ((0)),.int ((0)),.int ((0)),.em true,.em true,.em true]),.row 82 (.nm .sess) (((gb st (l.take k)).sess)),.row 63 (.nm .opn) (((gb st (l.take k)).opens)),.row 73 (.nm .snap) (((gb st (l.take k)).snaps)),.row 56 (.nm .reply) ((fg st (l.take k)))]),J:=fun k=>k<=l.length,μ:=fun k=>l.length - k })]
theorem HG (c:Command) (r0:Command):cA aF uf [] Tryz.f8 [.agg (cellsOf (.nm .command) c)] [] [.agg (cellsOf (.nm .command) r0)]=((fun (q10:Prop)=>(fun (q9:Prop)=>(fun (q8:Prop)=>(fun (q7:Prop)=>(fun (q6:Nat)=>(fun (q5:Prop)=>(fun (q4:Prop)=>(fun (q3:Int)=>(fun (q2:Prop)=>(fun (q1:Prop)=>(fun (q0:Int)=>I64 c.kind->I64 c.client->I64 c.seq->I64 c.set->I64 c.id->I64 c.n->q6*(8:Nat)<=(140737488355328:Nat)->c.text.b.length<=(140737488355328:Nat)->((12:Int)<(↑q6:Int)->(0:Int)<=(12:Int)/\(12:Int)<=(↑q6:Int)/\(q3<q0->(0:Int)<=q3/\q3<=q0/\q2/\q1/\q4/\q5/\q7/\q10/\q9/\q8)/\(q0<=q3->q2/\q1/\q4/\q5/\q7/\q10/\q9/\c.text=r0.text))/\((↑q6:Int)<=(12:Int)->(q3<q0->(0:Int)<=q3/\q3<=q0/\q2/\q1/\q4/\q5/\q7/\q10/\c.chunks=r0.chunks/\q8)/\(q0<=q3->q2/\q1/\q4/\q5/\q7/\q10/\c.chunks=r0.chunks/\c.text=r0.text))) (↑c.text.b.length:Int)) (c.client=r0.client)) (c.kind=r0.kind)) (40:Int)) (c.seq=r0.seq)) (c.set=r0.set)) c.chunks.length) (c.id=r0.id)) (Str.mk (List.take (40:Nat) c.text.b)=r0.text)) (List.take (12:Nat) c.chunks=r0.chunks)) (c.n=r0.n)):=by kernel_rfl
theorem IG (c:Command):Sat Tryz.prog (ao aF) 8 [.agg (cellsOf (.nm .command) c)] [] ⟨[],[.agg (cellsOf (.nm .command) (GD c))],none,false⟩:=by
 refine aM kI [] Tryz.func8 (by decide) (by kernel_rfl) ?_
 rw [HG]
 simp only [GD,Str.cut]; (repeat' (first | refine And.intro ?_ ?_ | intro)) <;> first | trivial | rfl | omega | (symm; exact List.take_of_length_le (by omega)) | exact CP (by omega)
theorem IC  (r0:List Command):cA aF uf [] Tryz.f23 [] [] [.c (.fz (.nm .command) (r0))]=((fun (q1:Int)=>(fun (q0:Command)=>[Command.mk (1:Int) (1:Int) q1 q1 q1 q1 [] (Str.mk []),q0,q0]=r0) (Command.mk (2:Int) (1:Int) (1:Int) (2:Int) q1 q1 [] (Str.mk []))) (0:Int)):=by kernel_rfl
theorem Hc :Sat Tryz.prog (ao aF) 23 [] [] ⟨[],[.c (.fz (.nm .command) ((cM)))],none,false⟩:=by
 refine aM kI [] Tryz.func23 (by decide) (by kernel_rfl) ?_
 rw [IC]
 (repeat' (first | with_reducible refine And.intro ?_ ?_ | with_reducible refine and_imp.2 ?_ | intro))
 all_goals (first | (first | with_reducible rfl | with_reducible assumption | omega | (refine ag ?_ ?_ <;> omega)) | rfl)
theorem Mc (st:State) (l:List Command) (r0:Int) (r1:Int) (r2:Int) (r3:Int) (r4:List Sess) (r5:List Opn) (r6:List Snap) (r7:List Reply):ma aF uf (Kn st l) Tryz.f21 [.agg (cellsOf (.nm .state) st),.c (.fz (.nm .command) (l))] [] [.agg ([.int (r0),.int (r1),.int (r2),.int (r3),.own 0,.own 1,.own 2]),.c (.own 3)] [.row 82 (.nm .sess) (r4),.row 63 (.nm .opn) (r5),.row 73 (.nm .snap) (r6),.row 56 (.nm .reply) (r7)]=((fun (q2:Nat)=>(fun (q1:Nat)=>(fun (q0:Prop)=>I64 st.version->I64 st.next->I64 st.keep->I64 st.quota->st.sess.length*(32:Nat)<=q2->st.opens.length*(16:Nat)<=q2->st.snaps.length*(64:Nat)<=q2->l.length*(88:Nat)<=q2->I64 st.version->I64 st.next->I64 st.keep->I64 st.quota->∃ (s0:Nat),(fun (q3:State)=>(l=l/\(↑l.length:Int)=(↑q1:Int)/\(0:Int)=(↑s0:Int)/\st.version=q3.version/\st.next=q3.next/\st.keep=q3.keep/\st.quota=q3.quota/\q0/\q0/\q0/\q0/\st.sess=q3.sess/\st.opens=q3.opens/\st.snaps=q3.snaps/\fg st (List.take s0 l)=[])/\s0<=q1/\∀ (s:Nat),(fun (q4:State)=>s<=q1->((↑s:Int)<(↑q1:Int)->(0:Int)<=(↑s:Int)/\(↑s:Int)<(↑l.length:Int)/\∀ (x:Command),(fun (q6:Reply)=>(fun (q5:State)=>l[s]? = some x->I64 x.kind->I64 x.client->I64 x.seq->I64 x.set->I64 x.id->I64 x.n->x.chunks.length*(8:Nat)<=q2->x.text.b.length<=q2->I64 q5.version->I64 q5.next->I64 q5.keep->I64 q5.quota->I64 q6.code->I64 q6.n->((fg st (List.take s l)).length+[q6].length)*(16:Nat)<=q2/\I64 ((↑s:Int)+(1:Int))/\∃ (s':Nat),(fun (q7:State)=>(l=l/\(↑q1:Int)=(↑q1:Int)/\(↑s:Int)+(1:Int)=(↑s':Int)/\q5.version=q7.version/\q5.next=q7.next/\q5.keep=q7.keep/\q5.quota=q7.quota/\q0/\q0/\q0/\q0/\q5.sess=q7.sess/\q5.opens=q7.opens/\q5.snaps=q7.snaps/\fg st (List.take s l)++[q6]=fg st (List.take s' l))/\s' <= q1/\q1 - s' < q1 - s) (gb st (List.take s' l))) (gH q4 x).fst) (gH q4 x).snd)/\((↑q1:Int)<=(↑s:Int)->q4.version=r0/\q4.next=r1/\q4.keep=r2/\q4.quota=r3/\q4.sess=r4/\q4.opens=r5/\q4.snaps=r6/\fg st (List.take s l)=r7)) (gb st (List.take s l))) (gb st (List.take s0 l))) ((0:Int)=(0:Int))) l.length) (140737488355328:Nat)):=by kernel_rfl
theorem MQ (st:State) (l:List Command):Sat Tryz.prog (ao aF) 21 [.agg (cellsOf (.nm .state) st),.c (.fz (.nm .command) (l))] [] ⟨[],[.agg ([.int (((gb st l).version)),.int (((gb st l).next)),.int (((gb st l).keep)),.int (((gb st l).quota)),.own 0,.own 1,.own 2]),.c (.own 3)],some ([.row 82 (.nm .sess) (((gb st l).sess)),.row 63 (.nm .opn) (((gb st l).opens)),.row 73 (.nm .snap) (((gb st l).snaps)),.row 56 (.nm .reply) ((fg st l))]),true⟩:=by
 refine di kI (Kn st l) Tryz.func21 (by decide) (by kernel_rfl) ?_
 rw [Mc]
 (repeat' (first | with_reducible refine And.intro ?_ ?_ | with_reducible refine and_imp.2 ?_ | intro))
 all_goals try (first | (first | with_reducible rfl | with_reducible assumption | omega | (refine ag ?_ ?_ <;> omega)) | exact rfl | exact (congrArg State.version (cX (by with_reducible assumption))) | exact (congrArg State.next (cX (by with_reducible assumption))) | exact (congrArg State.keep (cX (by with_reducible assumption))) | exact (congrArg State.quota (cX (by with_reducible assumption))) | exact (congrArg State.sess (cX (by with_reducible assumption))) | exact (congrArg State.opens (cX (by with_reducible assumption))) | exact (congrArg State.snaps (cX (by with_reducible assumption))) | exact (xj (by with_reducible assumption)) | exact (wa (by with_reducible assumption) (by with_reducible assumption)) | (rw [Lh (by omega)]; done))
 all_goals try (refine ⟨0,?_⟩; (repeat' (first | with_reducible refine And.intro ?_ ?_ | with_reducible refine and_imp.2 ?_ | intro)))
 all_goals try (first | (first | with_reducible rfl | with_reducible assumption | omega | (refine ag ?_ ?_ <;> omega)) | exact rfl | exact (congrArg State.version (cX (by with_reducible assumption))) | exact (congrArg State.next (cX (by with_reducible assumption))) | exact (congrArg State.keep (cX (by with_reducible assumption))) | exact (congrArg State.quota (cX (by with_reducible assumption))) | exact (congrArg State.sess (cX (by with_reducible assumption))) | exact (congrArg State.opens (cX (by with_reducible assumption))) | exact (congrArg State.snaps (cX (by with_reducible assumption))) | exact (xj (by with_reducible assumption)) | exact (wa (by with_reducible assumption) (by with_reducible assumption)) | (rw [Lh (by omega)]; done))
 all_goals try (refine ⟨‹Nat› + 1,?_⟩; (repeat' (first | with_reducible refine And.intro ?_ ?_ | with_reducible refine and_imp.2 ?_ | intro)))
 all_goals (first | (first | with_reducible rfl | with_reducible assumption | omega | (refine ag ?_ ?_ <;> omega)) | exact rfl | exact (congrArg State.version (cX (by with_reducible assumption))) | exact (congrArg State.next (cX (by with_reducible assumption))) | exact (congrArg State.keep (cX (by with_reducible assumption))) | exact (congrArg State.quota (cX (by with_reducible assumption))) | exact (congrArg State.sess (cX (by with_reducible assumption))) | exact (congrArg State.opens (cX (by with_reducible assumption))) | exact (congrArg State.snaps (cX (by with_reducible assumption))) | exact (xj (by with_reducible assumption)) | exact (wa (by with_reducible assumption) (by with_reducible assumption)) | (rw [Lh (by omega)]; done))
def DC:cH:=(bB 21 (bw (ai (kT (.nm .state)) (ai (kC (cL (.nm .command))) aH)) aJ fun (st,l,_) (_)=>⟨[],[.agg ([.int (((gb st l).version)),.int (((gb st l).next)),.int (((gb st l).keep)),.int (((gb st l).quota)),.own 0,.own 1,.own 2]),.c (.own 3)],some ([.row 82 (.nm .sess) (((gb st l).sess)),.row 63 (.nm .opn) (((gb st l).opens)),.row 73 (.nm .snap) (((gb st l).snaps)),.row 56 (.nm .reply) ((fg st l))]),true⟩) (bB 23 (bw aH aJ fun (_) (_)=>⟨[],[.c (.fz (.nm .command) ((cM)))],none,false⟩) (bB 8 (bw (ai (kT (.nm .command)) aH) aJ fun (c,_) (_)=>⟨[],[.agg (cellsOf (.nm .command) (GD c))],none,false⟩) uf)))
theorem uj:aS Tryz.prog (ao aF) DC:=(aq (au (ab br (ab (al bp) aj)) ak fun (st,l,_) (_) _=>MQ st l ) (aq (au aj ak fun (_) (_) _=>Hc  ) (aq (au (ab br aj) ak fun (c,_) (_) _=>IG c ) kI)))
end Go.Proofs.YtladifkbefehdaaGreat
namespace Go.Proofs.YtladifkbefehdaaGreat
open Go.RowKit
theorem RN:gb (State.mk 1 1 0 0 [] [] []) cM=State.mk 1 1 0 0 [Sess.mk 1 1 (Reply.mk 0 0)] [Opn.mk 2 1] []:=by kernel_rfl
theorem Rj:fg (State.mk 1 1 0 0 [] [] []) cM=[Reply.mk 0 0,Reply.mk 0 0,Reply.mk 0 0]:=by kernel_rfl
theorem zE  (r0:Bool):cA aF DC [] Tryz.f7 [] [] [.c (.bool (.atom (r0)))]=((fun (q6:Int)=>(fun (q5:Int)=>(fun (q4:Nat)=>(fun (q3:Nat)=>(fun (q2:Int)=>(fun (q1:den (Sh.nm NT.reply))=>(fun (q0:State)=>I64 q5->I64 q5->I64 q2->I64 q2->(0:Nat)*(32:Nat)<=(140737488355328:Nat)->(0:Nat)*(16:Nat)<=(140737488355328:Nat)->(0:Nat)*(64:Nat)<=(140737488355328:Nat)->cM.length*(88:Nat)<=(140737488355328:Nat)->I64 (gb q0 cM).version->I64 (gb q0 cM).next->I64 (gb q0 cM).keep->I64 (gb q0 cM).quota->((↑(fg q0 cM).length:Int)=q6->q2<=q2/\q2<(↑(fg q0 cM).length:Int))/\(((↑(fg q0 cM).length:Int)=q6->I64 ((fg q0 cM).getD q3 q1).code/\I64 ((fg q0 cM).getD q3 q1).n)->((↑(fg q0 cM).length:Int)=q6/\((fg q0 cM).getD q3 q1).code=q2/\((fg q0 cM).getD q3 q1).n=q2->q2<=(2:Int)/\(2:Int)<(↑(fg q0 cM).length:Int))/\(((↑(fg q0 cM).length:Int)=q6/\((fg q0 cM).getD q3 q1).code=q2/\((fg q0 cM).getD q3 q1).n=q2->I64 ((fg q0 cM).getD q4 q1).code/\I64 ((fg q0 cM).getD q4 q1).n)->((((↑(fg q0 cM).length:Int)=q6/\((fg q0 cM).getD q3 q1).code=q2/\((fg q0 cM).getD q3 q1).n=q2)/\((fg q0 cM).getD q4 q1).code=q2/\((fg q0 cM).getD q4 q1).n=q2)/\(↑(gb q0 cM).opens.length:Int)=q5->q2<=q2/\q2<(↑(gb q0 cM).opens.length:Int))/\(((((↑(fg q0 cM).length:Int)=q6/\((fg q0 cM).getD q3 q1).code=q2/\((fg q0 cM).getD q3 q1).n=q2)/\((fg q0 cM).getD q4 q1).code=q2/\((fg q0 cM).getD q4 q1).n=q2)/\(↑(gb q0 cM).opens.length:Int)=q5->I64 ((gb q0 cM).opens.getD q3 (dflt (Sh.nm NT.opn))).set/\I64 ((gb q0 cM).opens.getD q3 (dflt (Sh.nm NT.opn))).client)->(decide ((↑(fg q0 cM).length:Int)=q6) && (decide (((fg q0 cM).getD q3 q1).code=q2) && decide (((fg q0 cM).getD q3 q1).n=q2)) && (decide (((fg q0 cM).getD q4 q1).code=q2) && decide (((fg q0 cM).getD q4 q1).n=q2)) && decide ((↑(gb q0 cM).opens.length:Int)=q5) && decide (((gb q0 cM).opens.getD q3 (dflt (Sh.nm NT.opn))).set=(2:Int)))=r0)))) (State.mk q5 q5 q2 q2 [] [] [])) (dflt (Sh.nm NT.reply))) (0:Int)) (0:Nat)) (2:Nat)) (1:Int)) (3:Int)):=by kernel_rfl
theorem Ax :Sat Tryz.prog (ao aF) 7 [] [] ⟨[],[.c (.bool (.atom ((true))))],none,false⟩:=by
 refine aM uj [] Tryz.func7 (by decide) (by kernel_rfl) ?_
 rw [zE]
 simp only [RN,Rj]
 (repeat' (first | with_reducible refine And.intro ?_ ?_ | with_reducible refine and_imp.2 ?_ | intro))
 all_goals first | (first | with_reducible rfl | with_reducible assumption | omega | (refine ag ?_ ?_ <;> omega)) | decide | rfl
def fq:cH:=(bB 7 (bw aH aJ fun (_) (_)=>⟨[],[.c (.bool (.atom ((true))))],none,false⟩) DC)
theorem cQ:aS Tryz.prog (ao aF) fq:=(aq (au aj ak fun (_) (_) _=>Ax  ) uj)
end Go.Proofs.YtladifkbefehdaaGreat
namespace Go.Proofs.YtladifkbefehdaaGreat
open Go.RowKit
def cf (f:Field):Bool:=(decide (1<=f.num) && decide (f.num<=1000)) && (if f.wire=0 then decide (((f.b.length:Nat):Int)=0) else if f.wire=2 then decide ((f.n.n:Int)=0) else false)
def dC (a f:Field):Bool:=if f.num=a.num then (decide (f.wire=2) && decide (a.wire=2)) else decide (a.num<f.num)
def mR (num wire:Int):Bool:=(decide (1<=num) && decide (num<=1000)) && (decide (wire=0) || decide (wire=2))
def ef (num wire:Int):List UInt8:=if mR num wire then bq ((8*num)+wire).toNat else []
def jB (num wire:Int):Int:=if mR num wire then 0 else 1
def bc (f:Field):List UInt8:=if f.wire=0 then ef f.num f.wire++bq f.n.n else (ef f.num f.wire++bq f.b.length)++f.b
def QU:Option Field->Field->Bool
 | none,_=>true
 | some q,f=>dC q f
def stepT (p:Option Field) (f:Field):Int:=if cf f=false then 1 else if QU p f=false then 5 else if (16384:Int)<((f.b.length:Nat):Int) then 4 else 0
def cz:Option Field->List Field->Int
 | _,[]=>0
 | p,f :: r=>if stepT p f=0 then cz (some f) r else stepT p f
def dM (l:List Field):Nat:=(l.map fun f=>(bc f).length).sum
def bG (l:List Field):Int:=if cz none l=0 then (if (16384:Int)<((dM l:Nat):Int) then 4 else 0) else cz none l
def fk (l:List Field):List UInt8:=if bG l=0 then (l.map bc).flatten else []
def dp (l:List Field) (k:Nat):Option Field:=if k=0 then none else l[k - 1]?
def rY (l:List Field) (k:Nat) (x:Field):Prop:=(¬ 0<k)\/∃ y,l[k - 1]? = some y/\dC y x=true
theorem DI {num wire:Int} (h:(num<1\/1000<num)\/(¬ wire=0/\¬ wire=2)):mR num wire=false:=by
 rw [<- Bool.not_eq_true]; unfold mR; simp only [Bool.and_eq_true,Bool.or_eq_true,decide_eq_true_eq]; omega
theorem x_ {num wire:Int} (h:¬ ((num<1\/1000<num)\/(¬ wire=0/\¬ wire=2))):mR num wire=true:=by
 unfold mR; simp only [Bool.and_eq_true,Bool.or_eq_true,decide_eq_true_eq]; omega
theorem nv {num wire:Int} (h:(num<1\/1000<num)\/(¬ wire=0/\¬ wire=2)):[]=ef num wire:=by rw [ef,DI h]; rfl
theorem nF {num wire:Int} (h:(num<1\/1000<num)\/(¬ wire=0/\¬ wire=2)):1=jB num wire:=by rw [jB,DI h]; rfl
theorem om {num wire:Int} (h:¬ ((num<1\/1000<num)\/(¬ wire=0/\¬ wire=2))):bq ((8*num)+wire).toNat=ef num wire:=by rw [ef,x_ h]; rfl
theorem j_ {num wire:Int} (h:¬ ((num<1\/1000<num)\/(¬ wire=0/\¬ wire=2))):0=jB num wire:=by rw [jB,x_ h]; rfl
theorem iQ (num wire:Int):(ef num wire).length<=10:=by
 unfold ef
 cases h:mR num wire with
 | false=>simp
 | true=>
  unfold mR at h; simp only [Bool.and_eq_true,Bool.or_eq_true,decide_eq_true_eq] at h
  exact cT (by omega)
theorem bO {f:Field} (hb:f.b.length<=16384) (hn:f.n.n<18446744073709551616):(bc f).length<=16404:=by
 have h1:=iQ f.num f.wire
 unfold bc
 split
 ·have:=cT hn; rw [List.length_append]; omega
 ·have:=cT (n:=f.b.length) (by omega); rw [List.length_append,List.length_append]; omega
theorem xT {f:Field} (h:f.wire=0):ef f.num f.wire++bq f.n.n=bc f:=by rw [bc,if_pos h]
theorem yH {f:Field} (h:¬ f.wire=0):(ef f.num f.wire++bq f.b.length)++f.b=bc f:=by rw [bc,if_neg h]
theorem ew {l:List Field} {k:Nat} {x:Field} (hx:l[k]? = some x):dM (l.take k)+(bc x).length=dM (l.take (k+1)):=by
 unfold dM; rw [aB hx,List.map_append,List.sum_append]; simp
theorem xR {l:List Field} {k:Nat} {x:Field} (hp:rY l k x):QU (dp l k) x=true:=by
 unfold dp
 rcases hp with h | ⟨y,hy,hr⟩
 ·rw [if_pos (by omega)]; rfl
 ·by_cases hk:k=0
  ·rw [if_pos hk]; rfl
  ·rw [if_neg hk,hy]; exact hr
theorem EY {l:List Field} {k:Nat} {x:Field} (hx:l[k]? = some x):cz (dp l k) (l.drop k)=if stepT (dp l k) x=0 then cz (some x) (l.drop (k+1)) else stepT (dp l k) x:=by
 obtain ⟨hk,he⟩:=List.getElem?_eq_some_iff.1 hx
 rw [List.drop_eq_getElem_cons hk,he]; rfl
theorem Bk {l:List Field} {k:Nat} {x:Field} {e:Int} (hc:cz none l=cz (dp l k) (l.drop k)) (hx:l[k]? = some x) (he:stepT (dp l k) x=e) (h0:e≠0):e=bG l:=by
 have h1:cz none l=e:=by rw [hc,EY hx,he,if_neg h0]
 rw [bG,h1,if_neg h0]
theorem gT {l:List Field} {k:Nat} {x:Field} (hc:cz none l=cz (dp l k) (l.drop k)) (hx:l[k]? = some x) (ha:cf x=false):1=bG l:=Bk hc hx (by rw [stepT,if_pos ha]) (by decide)
theorem gJ {l:List Field} {k:Nat} {x y:Field} (hc:cz none l=cz (dp l k) (l.drop k)) (hx:l[k]? = some x) (ha:cf x=true) (h0:0<k) (hy:l[k - 1]? = some y) (hr:dC y x=false):5=bG l:=
 Bk hc hx (by rw [stepT,if_neg (by rw [ha]; decide),if_pos]; unfold dp; rw [if_neg (by omega),hy]; exact hr) (by decide)
theorem gX {l:List Field} {k:Nat} {x:Field} (hc:cz none l=cz (dp l k) (l.drop k)) (hx:l[k]? = some x) (ha:cf x=true) (hp:rY l k x) (hb:(16384:Int)<((x.b.length:Nat):Int)):4=bG l:=
 Bk hc hx (by rw [stepT,if_neg (by rw [ha]; decide),if_neg (by rw [xR hp]; decide),if_pos hb]) (by decide)
theorem ez {l:List Field} {k:Nat} {x:Field} (hc:cz none l=cz (dp l k) (l.drop k)) (hx:l[k]? = some x) (ha:cf x=true) (hp:rY l k x) (hb:¬ (16384:Int)<((x.b.length:Nat):Int)):cz none l=cz (dp l (k+1)) (l.drop (k+1)):=by
 rw [hc,EY hx,if_pos (by rw [stepT,if_neg (by rw [ha]; decide),if_neg (by rw [xR hp]; decide),if_neg hb])]
 unfold dp; rw [if_neg (by omega),Nat.add_sub_cancel,hx]
theorem fU {l:List Field} {k:Nat} (hc:cz none l=cz (dp l k) (l.drop k)) (hk:l.length<=k):cz none l=0:=by
 rw [hc,List.drop_of_length_le hk]; rfl
theorem py {l:List Field} {k:Nat} (hc:cz none l=cz (dp l k) (l.drop k)) (hk:l.length<=k) (hs:(16384:Int)<((dM (l.take k):Nat):Int)):4=bG l:=by
 rw [List.take_of_length_le hk] at hs; rw [bG,if_pos (fU hc hk),if_pos hs]
theorem oT {l:List Field} {k:Nat} (hc:cz none l=cz (dp l k) (l.drop k)) (hk:l.length<=k) (hs:¬ (16384:Int)<((dM (l.take k):Nat):Int)):0=bG l:=by
 rw [List.take_of_length_le hk] at hs; rw [bG,if_pos (fU hc hk),if_neg hs]
theorem II {l:List Field} (h:bG l=0):dM l<=16384:=by
 unfold bG at h
 split at h
 ·split at h
  ·cases h
  ·omega
 ·rename_i h0; exact absurd h h0
theorem xQ {l:List Field} (h:bG l=0):cz none l=0:=by
 unfold bG at h
 split at h
 ·assumption
 ·exact h
theorem yv:∀ {l:List Field} {p:Option Field},cz p l=0->∀ x ∈ l,x.b.length<=16384
 | [],_,_,x,hx=>by cases hx
 | f :: r,p,h,x,hx=>by
  unfold cz at h
  split at h
  ·rename_i hs
   rcases List.mem_cons.1 hx with rfl | hx
   ·unfold stepT at hs
    split at hs
    ·cases hs
    ·split at hs
     ·cases hs
     ·split at hs
      ·cases hs
      ·omega
   ·exact yv h x hx
  ·rename_i hs; exact absurd h hs
theorem dH {l:List Field} (h:bG l=0) {x:Field} (hx:x ∈ l):x.b.length<=16384:=yv (xQ h) x hx
theorem ff {l:List Field} {k:Nat} {x:Field} (hx:l[k]? = some x):((l.take k).map bc).flatten++bc x=((l.take (k+1)).map bc).flatten:=by
 rw [aB hx,List.map_append,List.flatten_append]; simp
theorem Bs (l:List Field):((l.map bc).flatten).length=dM l:=by
 unfold dM; rw [List.length_flatten,List.map_map]; rfl
theorem DF {l:List Field} {k:Nat}:dM (l.take k)<=dM l:=by
 have:dM l=dM (l.take k)+dM (l.drop k):=by unfold dM; rw [<- List.sum_append,<- List.map_append,List.take_append_drop]
 omega
theorem fH {l:List Field} {k:Nat} (h:bG l=0):((l.take k).map bc).flatten.length<=16384:=by
 have:=II h; have:=DF (l:=l) (k:=k); rw [Bs]; omega
theorem jb {l:List Field} {k:Nat} (h:bG l=0) (hk:l.length<=k):((l.take k).map bc).flatten=fk l:=by rw [fk,if_pos h,List.take_of_length_le hk]
theorem lO {l:List Field} (h:¬ bG l=0):[]=fk l:=by rw [fk,if_neg h]
theorem th {f:Field} (h:f.num<1\/1000<f.num):false=cf f:=by
 have:(decide (1<=f.num) && decide (f.num<=1000))=false:=by rw [<- Bool.not_eq_true]; simp only [Bool.and_eq_true,decide_eq_true_eq]; omega
 unfold cf; rw [this]; rfl
theorem kP {f:Field} (h:¬ (f.num<1\/1000<f.num)):cf f=(if f.wire=0 then decide (((f.b.length:Nat):Int)=0) else if f.wire=2 then decide ((f.n.n:Int)=0) else false):=by
 have:(decide (1<=f.num) && decide (f.num<=1000))=true:=by simp only [Bool.and_eq_true,decide_eq_true_eq]; omega
 unfold cf; rw [this]; rfl
end Go.Proofs.YtladifkbefehdaaGreat
namespace Go.Proofs.YtladifkbefehdaaGreat
open Go.RowKit
def aO:List Spec:=([⟨1,0,1,true,false⟩,⟨2,0,1,false,false⟩,⟨3,0,1,false,false⟩,⟨4,0,1,false,false⟩,⟨5,0,1,false,false⟩,⟨6,0,1,false,false⟩,⟨7,2,1,false,false⟩,⟨8,2,3,false,false⟩]:List Spec)
def aR (v:Int):List Spec:=if v<1\/3<v then [] else aO.filter fun s=>decide (s.since<=v)
def bk (v:Int):Int:=(aR v).foldl (fun t s=>max t s.num) 0
theorem kO {v:Int} {k:Nat} {x:Spec} (hx:aO[k]? = some x) (h:x.since<=v):(aO.take k).filter (fun s=>decide (s.since<=v))++[x]=(aO.take (k+1)).filter (fun s=>decide (s.since<=v)):=by
 rw [aB hx,List.filter_append]; simp [h]
theorem nC {v:Int} {k:Nat} {x:Spec} (hx:aO[k]? = some x) (h:¬ x.since<=v):(aO.take k).filter (fun s=>decide (s.since<=v))=(aO.take (k+1)).filter (fun s=>decide (s.since<=v)):=by
 rw [aB hx,List.filter_append]; simp [h]
theorem l_ {v:Int} (h:v<1\/3<v):[]=aR v:=by rw [aR,if_pos h]
theorem DN {v:Int} {k:Nat} (h:¬ (v<1\/3<v)) (hk:aO.length<=k):(aO.take k).filter (fun s=>decide (s.since<=v))=aR v:=by rw [aR,if_neg h,List.take_of_length_le hk]
theorem vp {v:Int} {k:Nat}:((aO.take k).filter (fun s=>decide (s.since<=v))).length<=8:=by
 have h1:=List.length_filter_le (fun s:Spec=>decide (s.since<=v)) (aO.take k)
 have h2:(aO.take k).length<=8:=by rw [List.length_take]; exact Nat.le_trans (Nat.min_le_right _ _) (by decide)
 omega
theorem gq {v:Int} {k:Nat} {x:Spec} (hx:(aR v)[k]? = some x):max (((aR v).take k).foldl (fun t s=>max t s.num) 0) x.num=((aR v).take (k+1)).foldl (fun t s=>max t s.num) 0:=by
 rw [aB hx,List.foldl_append]; rfl
def fL (num n:Int):List Field:=if n=0 then [] else [⟨num,0,⟨n.toNat⟩,[]⟩]
def ic (num:Int) (b:List UInt8):List Field:=if 0<((b.length:Nat):Int) then [⟨num,2,⟨0⟩,b⟩] else []
def c_ (c:Command):List Field:=(((((([]++fL 1 c.kind)++fL 2 c.client)++fL 3 c.seq)++fL 4 c.set)++fL 5 c.id)++fL 6 c.n)++ic 7 (bu c.chunks)
def aG (c:Command) (v:Int):List Field:=if 3<=v then c_ c++ic 8 c.text.b else c_ c
theorem eI (num n:Int):(fL num n).length<=1:=by unfold fL; split <;> simp
theorem wy (num:Int) (b:List UInt8):(ic num b).length<=1:=by unfold ic; split <;> simp
theorem sU {xs:List Field} {num n:Int} (h:¬ n=0):xs++[⟨num,0,⟨n.toNat⟩,[]⟩]=xs++fL num n:=by rw [fL,if_neg h]
theorem vB {xs:List Field} {num n:Int} (h:n=0):xs=xs++fL num n:=by rw [fL,if_pos h,List.append_nil]
theorem te {xs:List Field} {num:Int} {b:List UInt8} (h:0<((b.length:Nat):Int)):xs++[⟨num,2,⟨0⟩,b⟩]=xs++ic num b:=by rw [ic,if_pos h]
theorem uY {xs:List Field} {num:Int} {b:List UInt8} (h:¬ 0<((b.length:Nat):Int)):xs=xs++ic num b:=by rw [ic,if_neg h,List.append_nil]
theorem eJ (c:Command) (v:Int):(aG c v).length<=8:=by
 have h1:=eI 1 c.kind; have h2:=eI 2 c.client; have h3:=eI 3 c.seq; have h4:=eI 4 c.set; have h5:=eI 5 c.id; have h6:=eI 6 c.n
 have h7:=wy 7 (bu c.chunks); have h8:=wy 8 c.text.b
 unfold aG c_
 split <;> simp only [List.length_append,List.length_nil] <;> omega
end Go.Proofs.YtladifkbefehdaaGreat
namespace Go.Proofs.YtladifkbefehdaaGreat
open Go.RowKit
def cr (c:Command) (rest:List Field) (v:Int):Int:=if !(bE v 1 3) then 1 else if (cJ c v=false/\¬ aX c v=0) then aX c v else if rest.any (fun f=>decide (f.num<=bk v)) then 6 else 0
def bP (c:Command) (rest:List Field) (v:Int):Int:=if cr c rest v=0 then bG (aG c v++rest) else cr c rest v
def cc (c:Command) (rest:List Field) (v:Int):List UInt8:=if cr c rest v=0 then fk (aG c v++rest) else []
theorem jV {k:Int} (h:¬ aQ k=0):1<=k/\k<=12:=Decidable.byContradiction fun h2=>h (yM h2)
theorem jw {c:Command} {v:Int} (h:cJ c v=true):0<=c.kind/\0<=c.client/\0<=c.seq/\0<=c.set/\0<=c.id/\0<=c.n:=by
 unfold cJ na bE at h
 simp only [Bool.and_eq_true,decide_eq_true_eq] at h
 omega
theorem ri {n m:Int} {b:Bool} (h:jl n m b=true):0<=n:=by
 unfold jl at h; cases b <;> simp at h <;> omega
theorem yA {k:Int} (h:1<=k/\k<=12):0<=(iN k).1:=by
 have:k=1\/k=2\/k=3\/k=4\/k=5\/k=6\/k=7\/k=8\/k=9\/k=10\/k=11\/k=12:=by omega
 rcases this with rfl | rfl | rfl | rfl | rfl | rfl | rfl | rfl | rfl | rfl | rfl | rfl <;> decide
theorem eA {c:Command} {v:Int} (h:aX c v=0):(1<=v/\v<=3)/\¬ aQ c.kind=0/\aQ c.kind<=v/\eE c=true:=by
 unfold aX at h
 split at h
 ·cases h
 ·rename_i h1
  rw [Bool.or_eq_true,not_or] at h1
  simp only [Bool.not_eq_true',Bool.not_eq_false,decide_eq_true_eq] at h1
  split at h
  ·cases h
  ·split at h
   ·cases h
   ·rename_i h2 h3
    exact ⟨vS h1.1,h1.2,by omega,by simpa using h3⟩
theorem jA {c:Command} {v:Int} (h:aX c v=0):0<=c.kind/\0<=c.client/\0<=c.seq/\0<=c.set/\0<=c.id/\0<=c.n:=by
 obtain ⟨_,hn,_,hf⟩:=eA h
 have hr:=jV hn
 have hs:=yA hr
 unfold eE at hf
 simp only [Bool.and_eq_true,decide_eq_true_eq] at hf
 obtain ⟨⟨⟨⟨⟨⟨⟨h1,h2⟩,_⟩,_⟩,h3⟩,h4⟩,h5⟩,h6⟩:=hf
 exact ⟨by omega,ri h3,ri h4,ri h5,ri h6,by omega⟩
theorem Rr {c:Command} {rest:List Field} {v:Int} (h:(!(bE v 1 3))=true):cr c rest v=1:=by rw [cr,if_pos h]
theorem Ro {c:Command} {rest:List Field} {v:Int} (h:(!(bE v 1 3))=false) (h1:cJ c v=false) (h2:¬ aX c v=0):cr c rest v=aX c v:=by rw [cr,h,if_neg (by decide),if_pos ⟨h1,h2⟩]
theorem RT {c:Command} {rest:List Field} {v:Int} {k:Nat} {x:Field} (h:(!(bE v 1 3))=false) (h1:cJ c v=true\/aX c v=0) (hx:rest[k]? = some x) (hn:x.num<=bk v):cr c rest v=6:=by
 have:(rest.any fun f=>decide (f.num<=bk v))=true:=List.any_eq_true.2 ⟨x,List.mem_of_getElem? hx,decide_eq_true hn⟩
 rw [cr,h,if_neg (by decide),if_neg (fun hh=>by rcases h1 with h1 | h1; rw [h1] at hh; cases hh.1; exact hh.2 h1),if_pos this]
theorem LY {c:Command} {rest:List Field} {v:Int} {k:Nat} (h:(!(bE v 1 3))=false) (h1:cJ c v=true\/aX c v=0) (hall:∀ j y,j<k->rest[j]? = some y->¬ y.num<=bk v) (hk:rest.length<=k):cr c rest v=0:=by
 have:(rest.any fun f=>decide (f.num<=bk v))=false:=by
  rw [List.any_eq_false]
  intro y hy
  obtain ⟨j,hj,rfl⟩:=List.getElem_of_mem hy
  have:=hall j _ (by omega) (List.getElem?_eq_getElem hj)
  simpa using this
 rw [cr,h,if_neg (by decide),if_neg (fun hh=>by rcases h1 with h1 | h1; rw [h1] at hh; cases hh.1; exact hh.2 h1),this,if_neg (by decide)]
theorem dq {c:Command} {rest:List Field} {v e:Int} (h:cr c rest v=e) (h0:¬ e=0):e=bP c rest v:=by rw [bP,h,if_neg h0]
theorem du {c:Command} {rest:List Field} {v e:Int} (h:cr c rest v=e) (h0:¬ e=0):[]=cc c rest v:=by rw [cc,h,if_neg h0]
theorem qx {c:Command} {rest:List Field} {v:Int} (h:cr c rest v=0):bG (aG c v++rest)=bP c rest v:=by rw [bP,if_pos h]
theorem qJ {c:Command} {rest:List Field} {v:Int} (h:cr c rest v=0):fk (aG c v++rest)=cc c rest v:=by rw [cc,if_pos h]
theorem Bc {rest:List Field} {t:Int} {k:Nat} {z:Field} (h:∀ j y,j<k->rest[j]? = some y->¬ y.num<=t) (hz:rest[k]? = some z) (hn:¬ z.num<=t):∀ j y,j<k+1->rest[j]? = some y->¬ y.num<=t:=by
 intro j y hj hy
 by_cases hjk:j=k
 ·subst hjk; rw [hz] at hy; cases hy; exact hn
 ·exact h j y (by omega) hy
end Go.Proofs.YtladifkbefehdaaGreat
namespace Go.Proofs.YtladifkbefehdaaGreat
open Go.RowKit
theorem FJ {c:Command}:eU c 3=c:=by unfold eU; simp
theorem wq {c:Command} {v:Int} (h1:1<=v/\v<=3) (h2:¬ aQ c.kind=0) (h3:aQ c.kind<=v):aX c v=if !eE c then 1 else 0:=by
 have e:(!(bE v 1 3) || decide (aQ c.kind=0))=false:=by
  rw [show bE v 1 3=true by unfold bE; rw [Bool.and_eq_true,decide_eq_true_eq,decide_eq_true_eq]; exact h1,decide_eq_false h2]; rfl
 unfold aX; rw [e,if_neg (by decide),if_neg (by omega)]
end Go.Proofs.YtladifkbefehdaaGreat
namespace Go.Proofs.YtladifkbefehdaaGreat
open Go.RowKit
theorem rM (n:Nat):bq n=((List.range (ba n)).map (jk n)).set (ba n - 1) (jk n (ba n - 1) &&& 127):=by unfold bq dY; simp
theorem Cw:∀ m:Fin 128,(UInt8.ofNat m.val ||| 128) &&& 127=UInt8.ofNat m.val:=by decide
theorem Ll:∀ m:Fin 256,(UInt8.ofNat m.val ||| 128).toNat=m.val % 128+128:=by decide +kernel
theorem jH {n:Nat} (h:n<128):bq n=[UInt8.ofNat n]:=by
 rw [rM,gZ h]
 have:=Cw ⟨n,h⟩
 simp only [jk,Nat.pow_zero,Nat.div_one,List.range_one,List.map_cons,List.map_nil,Nat.sub_self,List.set_cons_zero] at *
 rw [this]
theorem Kk (n:Nat):(jk n 0).toNat=n % 128+128:=by
 have e:UInt8.ofNat n=UInt8.ofNat (n % 256):=UInt8.toNat_inj.1 (by simp [UInt8.toNat_ofNat'])
 have:=Ll ⟨n % 256,Nat.mod_lt _ (by decide)⟩
 simp only [jk,Nat.pow_zero,Nat.div_one]
 rw [e,this]; simp only; omega
theorem vl {n:Nat} (h:¬ n<128):bq n=jk n 0 :: bq (n / 128):=by
 have e:∀ i,jk n (i+1)=jk (n / 128) i:=fun i=>by unfold jk; rw [Nat.pow_succ,Nat.mul_comm,<- Nat.div_div_eq_div_mul]
 have hp:=fa (n / 128)
 obtain ⟨s,hs⟩:∃ s,ba (n / 128)=s+1:=⟨ba (n / 128) - 1,by omega⟩
 rw [rM,rM (n / 128),jz h,hs]
 simp only [Nat.add_sub_cancel]
 rw [List.range_succ_eq_map,List.map_cons,List.map_map,List.set_cons_succ,e s,show jk n ∘ Nat.succ=jk (n / 128) from funext e]
theorem iq {f:Field} (h:cf f=true):(1<=f.num/\f.num<=1000)/\((f.wire=0/\f.b=[])\/(f.wire=2/\f.n.n=0)):=by
 unfold cf at h
 rw [Bool.and_eq_true,Bool.and_eq_true,decide_eq_true_eq,decide_eq_true_eq] at h
 refine ⟨h.1,?_⟩
 have h2:=h.2
 split at h2
 ·rename_i hw
  rw [decide_eq_true_eq] at h2
  exact .inl ⟨hw,List.eq_nil_of_length_eq_zero (by omega)⟩
 ·split at h2
  ·rename_i hw
   rw [decide_eq_true_eq] at h2
   exact .inr ⟨hw,by omega⟩
  ·cases h2
theorem qm {f:Field} (h:cf f=true):ef f.num f.wire=bq ((8*f.num)+f.wire).toNat:=by
 obtain ⟨h1,h2⟩:=iq h
 exact (om (by omega)).symm
structure CmdOk (c:Command) (v:Int):Prop where
 nn:0<=c.kind/\0<=c.client/\0<=c.seq/\0<=c.set/\0<=c.id/\0<=c.n
 ch:c.chunks=[]\/rowF c.chunks=true
 tx:c.text.b=[]\/(3<=v/\c.text.b.length<=16)
def f99:Field:=⟨99,0,⟨1⟩,[]⟩
end Go.Proofs.YtladifkbefehdaaGreat
namespace Go.Proofs.YtladifkbefehdaaGreat
open Go.RowKit
end Go.Proofs.YtladifkbefehdaaGreat
namespace Go.Proofs.YtladifkbefehdaaGreat
open Go.RowKit
def bM:Nat->Nat->List UInt8->Nat × Nat × Int
 | k,_,[]=>if 10<=k then (0,0,3) else (0,0,2)
 | k,n,x :: r=>if 10<=k then (0,0,3) else if (0<k/\x.toNat=0)\/(k=9/\1<x.toNat) then (0,0,3) else if x.toNat<128 then (n+(x &&& 127).toNat*2 ^ (7*k),k+1,0) else bM (k+1) (n+(x &&& 127).toNat*2 ^ (7*k)) r
termination_by _ _ l=>l.length
def az (b:List UInt8):Nat × Nat × Int:=bM 0 0 b
theorem mo (x:UInt8):(x &&& 127).toNat=x.toNat % 128:=by rw [UInt8.toNat_and]; exact Nat.and_two_pow_sub_one_eq_mod x.toNat 7
theorem Nz {k:Nat} {x:UInt8} (hk:k<=9) (h:k=9->x.toNat<=1):(x &&& 127).toNat*2 ^ (7*k)<18446744073709551616:=by
 rw [mo]
 by_cases h9:k=9
 ·have:=h h9
  subst h9
  have:x.toNat % 128*2 ^ (7*9)<=1*2 ^ (7*9):=Nat.mul_le_mul_right _ (by omega)
  exact Nat.lt_of_le_of_lt this (by decide)
 ·have h1:2 ^ (7*k)<=2 ^ 56:=Nat.pow_le_pow_right (by decide) (by omega)
  have:x.toNat % 128*2 ^ (7*k)<=127*2 ^ 56:=Nat.mul_le_mul (by omega) h1
  exact Nat.lt_of_le_of_lt this (by decide)
theorem ND {k n m:Nat} (h:n<2 ^ (7*k)):n ||| m*2 ^ (7*k)=n+m*2 ^ (7*k):=by
 have:=Nat.two_pow_add_eq_or_of_lt h m
 rw [Nat.or_comm,Nat.mul_comm m,<- this,Nat.add_comm]
theorem HM {k n:Nat} {x:UInt8} (h:n<2 ^ (7*k)):n+(x &&& 127).toNat*2 ^ (7*k)<2 ^ (7*(k+1)):=by
 rw [mo]
 have e:2 ^ (7*(k+1))=128*2 ^ (7*k):=by rw [show 7*(k+1)=7*k+7 by omega,Nat.pow_add,Nat.mul_comm]
 have:x.toNat % 128*2 ^ (7*k)<=127*2 ^ (7*k):=Nat.mul_le_mul_right _ (by omega)
 rw [e]; omega
theorem NW {b:List UInt8} {k n:Nat} (hk:k<10) (hb:b.length<=k):bM k n (b.drop k)=(0,0,2):=by
 rw [List.drop_of_length_le hb,bM,if_neg (by omega)]
theorem NS {b:List UInt8} {k n:Nat} (hk:10<=k):bM k n (b.drop k)=(0,0,3):=by
 cases h:b.drop k with
 | nil=>rw [bM,if_pos hk]
 | cons x r=>rw [bM,if_pos hk]
theorem Dz {b:List UInt8} {k n:Nat} {x:UInt8} (hk:k<10) (hx:b[k]? = some x):bM k n (b.drop k)=if (0<k/\x.toNat=0)\/(k=9/\1<x.toNat) then (0,0,3) else if x.toNat<128 then (n+(x &&& 127).toNat*2 ^ (7*k),k+1,0) else bM (k+1) (n+(x &&& 127).toNat*2 ^ (7*k)) (b.drop (k+1)):=by
 obtain ⟨hkl,he⟩:=List.getElem?_eq_some_iff.1 hx
 rw [List.drop_eq_getElem_cons hkl,he,bM,if_neg (by omega)]
theorem Hi {b:List UInt8} {k n:Nat} {x:UInt8} (h:az b=bM k n (b.drop k)) (hk:k<10) (hx:b[k]? = some x) (h1:¬ (0<k/\x.toNat=0)) (h2:¬ (k=9/\1<x.toNat)) (h3:¬ x.toNat<128):az b=bM (k+1) (n+(x &&& 127).toNat*2 ^ (7*k)) (b.drop (k+1)):=by
 rw [h,Dz hk hx,if_neg (fun h=>h.elim h1 h2),if_neg h3]
theorem nA:∀ {l:List UInt8} {k n:Nat},k<=10->(bM k n l).2.1<=11/\(bM k n l).2.1<=k+l.length
 | [],k,n,h=>by rw [bM]; split <;> simp
 | x :: r,k,n,h=>by
  rw [bM]
  split
  ·simp
  ·split
   ·simp
   ·split
    ·simp; omega
    ·have:=nA (l:=r) (k:=k+1) (n:=n+(x &&& 127).toNat*2 ^ (7*k)) (by omega)
     simp only [List.length_cons]; omega
theorem Dr {b:List UInt8} {k n:Nat} {x:UInt8} (h:az b=bM k n (b.drop k)) (hk:k<10) (hx:b[k]? = some x) (h1:(0<k/\x.toNat=0)\/(k=9/\1<x.toNat)):az b=(0,0,3):=by rw [h,Dz hk hx,if_pos h1]
theorem JF {b:List UInt8} {k n:Nat} {x:UInt8} (h:az b=bM k n (b.drop k)) (hk:k<10) (hx:b[k]? = some x) (h1:¬ (0<k/\x.toNat=0)) (h2:¬ (k=9/\1<x.toNat)) (h3:x.toNat<128):az b=(n+(x &&& 127).toNat*2 ^ (7*k),k+1,0):=by
 rw [h,Dz hk hx,if_neg (fun h=>h.elim h1 h2),if_pos h3]
end Go.Proofs.YtladifkbefehdaaGreat
namespace Go.Proofs.YtladifkbefehdaaGreat
open Go.RowKit
theorem BD:∀ {l:List UInt8} {k n:Nat},1<=k->(bM k n l).2.2=0->2 ^ (7*k)<=(bM k n l).1
 | [],k,n,_,h=>by rw [bM] at h; split at h <;> cases h
 | x :: r,k,n,hk,h=>by
  rw [bM] at h ⊢
  split
  ·rename_i h1; rw [if_pos h1] at h; cases h
  ·rename_i h1
   rw [if_neg h1] at h
   split
   ·rename_i h2; rw [if_pos h2] at h; cases h
   ·rename_i h2
    rw [if_neg h2] at h
    split
    ·rename_i h3
     rw [mo]
     have:1<=x.toNat % 128:=by
      have:¬ x.toNat=0:=fun e=>h2 (.inl ⟨by omega,e⟩)
      omega
     have:=Nat.mul_le_mul_right (2 ^ (7*k)) this
     show 2 ^ (7*k)<=n+x.toNat % 128*2 ^ (7*k)
     omega
    ·rename_i h3
     rw [if_neg h3] at h
     exact Nat.le_trans (Nat.pow_le_pow_right (by decide) (by omega)) (BD (by omega) h)
theorem yi (x:UInt8) (r:List UInt8):az (x :: r)=if x.toNat<128 then (x.toNat,1,0) else bM 1 (x.toNat % 128) r:=by
 unfold az
 rw [bM,if_neg (by decide),if_neg (by omega),mo]
 split
 ·rename_i h; rw [Nat.mod_eq_of_lt h]; simp
 ·simp
theorem vn {b:List UInt8} {k:Nat} (hk:k<b.length):(b.drop k).take (b.length - k)=b[k] :: b.drop (k+1):=by
 rw [List.take_of_length_le (by simp),List.drop_eq_getElem_cons hk]
theorem Tm {b:List UInt8} {k:Nat} (hk:k<b.length) (he:(az ((b.drop k).take (b.length - k))).2.2=0) (hn:¬ (64:Int)<(((az ((b.drop k).take (b.length - k))).1:Nat):Int)) :
  ∃ x,b[k]? = some x/\az ((b.drop k).take (b.length - k))=(x.toNat,1,0)/\x.toNat<=64:=by
 rw [vn hk,yi] at *
 by_cases h:b[k].toNat<128
 ·rw [if_pos h] at *; exact ⟨_,List.getElem?_eq_getElem hk,rfl,by simp only at hn; omega⟩
 ·rw [if_neg h] at *
  have:=BD (Nat.le_refl 1) he
  omega
theorem TC {b:List UInt8} {k:Nat} (hk:k<b.length) (h:(¬ (az ((b.drop k).take (b.length - k))).2.2=0)\/(64:Int)<(((az ((b.drop k).take (b.length - k))).1:Nat):Int)):∃ x,b[k]? = some x/\64<x.toNat:=by
 refine ⟨b[k],List.getElem?_eq_getElem hk,?_⟩
 rw [vn hk,yi] at h
 by_cases h1:b[k].toNat<128
 ·rw [if_pos h1] at h; simp only [not_true_eq_false,false_or] at h; omega
 ·omega
def cj (b:List UInt8):List Int:=b.map fun x=>(x.toNat:Int)
def hU (b:List UInt8):List Int:=if rowF (cj b) then cj b else []
def k_ (b:List UInt8):Int:=if rowF (cj b) then 0 else 6
theorem HF {b:List UInt8} {k:Nat} {x:UInt8} {p:Nat × Nat × Int} (hx:b[k]? = some x) (hp:p=(x.toNat,1,0)):cj (b.take k)++[((p.1:Nat):Int)]=cj (b.take (k+1)):=by
 subst hp; unfold cj; rw [aB hx,List.map_append]; rfl
theorem Ok {b:List UInt8} {k:Nat} (hk:k<b.length) (h:(¬ (az ((b.drop k).take (b.length - k))).2.2=0)\/(64:Int)<(((az ((b.drop k).take (b.length - k))).1:Nat):Int)):rowF (cj b)=false:=by
 obtain ⟨x,hx,h64⟩:=TC hk h
 rw [<- Bool.not_eq_true]
 intro hr
 have:=(jT hr (x.toNat:Int) (List.mem_map.2 ⟨x,List.mem_of_getElem? hx,rfl⟩)).2
 omega
theorem wg {b:List UInt8} {k:Nat} (hk:b.length<=k):cj (b.take k)=cj b:=by rw [List.take_of_length_le hk]
theorem eS {b:List UInt8} (h:rowF (cj b)=false):[]=hU b:=by rw [hU,h]; rfl
theorem mB {b:List UInt8} (h:rowF (cj b)=false):6=k_ b:=by rw [k_,h]; rfl
theorem sm {b:List UInt8} {k:Nat} (hk:b.length<=k) (h:rowF (cj (b.take k))=true):cj (b.take k)=hU b:=by rw [wg hk] at *; rw [hU,h]; rfl
theorem qV {b:List UInt8} {k:Nat} (hk:b.length<=k) (h:rowF (cj (b.take k))=true):0=k_ b:=by rw [wg hk] at *; rw [k_,h]; rfl
theorem gO {b:List UInt8} {k:Nat} (hk:b.length<=k) (h:rowF (cj (b.take k))=false):rowF (cj b)=false:=by rw [wg hk] at h; exact h
end Go.Proofs.YtladifkbefehdaaGreat
namespace Go.Proofs.YtladifkbefehdaaGreat
open Go.RowKit
theorem Cq {l:List Int} (h:∀ x ∈ l,0<x/\x<=64):dE l=l.map fun x=>UInt8.ofNat x.toNat:=by
 induction l with
 | nil=>rfl
 | cons x r ih=>
  have hx:=h x (by simp)
  simp only [dE,List.flatMap_cons,List.map_cons] at *
  rw [jH (by omega),ih fun y hy=>h y (List.mem_cons_of_mem _ hy)]; rfl
theorem pE {l:List Int} (h:∀ x ∈ l,0<x/\x<=64):cj (l.map fun x=>UInt8.ofNat x.toNat)=l:=by
 unfold cj
 rw [List.map_map]
 refine (List.map_congr_left (g:=id) fun x hx=>?_).trans (List.map_id _)
 have:=h x hx
 show (((UInt8.ofNat x.toNat).toNat:Nat):Int)=x
 rw [UInt8.toNat_ofNat']; omega
theorem lK {l:List Int} (h:rowF l=true):bu l=(l.map fun x=>UInt8.ofNat x.toNat)/\dm l=0/\hU (bu l)=l/\k_ (bu l)=0:=by
 have e:=Cq (jT h)
 have e1:bu l=(l.map fun x=>UInt8.ofNat x.toNat):=by rw [bu,if_pos h,e]
 refine ⟨e1,by rw [dm,if_pos h],?_,?_⟩
 ·rw [e1,hU,pE (jT h),if_pos h]
 ·rw [e1,k_,pE (jT h),if_pos h]
end Go.Proofs.YtladifkbefehdaaGreat
namespace Go.Proofs.YtladifkbefehdaaGreat
open Go.RowKit
theorem HV (n:Nat):jk n 0=UInt8.ofNat (n % 128+128):=UInt8.toNat_inj.1 (by rw [Kk,UInt8.toNat_ofNat']; omega)
theorem AT {p:List UInt8} {r n:Nat} (h:p++bq r=bq n) (hr:¬ r<128):(p++[UInt8.ofNat (r % 128+128)])++bq (r / 128)=bq n:=by
 rw [<- h,vl hr,HV,List.append_assoc]; rfl
theorem pw {p:List UInt8} {r n:Nat} (h:p++bq r=bq n) (hr:r<128):p++[UInt8.ofNat r]=bq n:=by rw [<- h,jH hr]
theorem Fv {p:List UInt8} {r n:Nat} (h:p++bq r=bq n) (hn:n<18446744073709551616):p.length<=10:=by
 have:=congrArg List.length h; rw [List.length_append] at this; have:=cT hn; omega
end Go.Proofs.YtladifkbefehdaaGreat
namespace Go.Proofs.YtladifkbefehdaaGreat
open Go.RowKit
theorem GF {f:Field}:(((!decide (jB f.num f.wire=0)) || (decide (f.wire=0) && decide ((0:Int)<((f.b.length:Nat):Int)))) || (decide (f.wire=2) && (!decide ((f.n.n:Int)=0)))) = !cf f:=by
 by_cases h:(f.num<1\/1000<f.num)
 ·rw [<- th h,<- nF (Or.inl h)]; simp
 ·by_cases h0:f.wire=0
  ·have e:decide ((0:Int)<((f.b.length:Nat):Int)) = !decide (((f.b.length:Nat):Int)=0):=by
    rw [Bool.eq_iff_iff]; simp only [Bool.not_eq_true',decide_eq_true_eq,decide_eq_false_iff_not]; omega
   rw [kP h,if_pos h0,<- j_ (by omega),e,decide_eq_true h0,decide_eq_false (show ¬ f.wire=2 by omega)]; simp
  ·by_cases h2:f.wire=2
   ·rw [kP h,if_neg h0,if_pos h2,<- j_ (by omega),Bool.eq_iff_iff]; simp [h2]
   ·rw [kP h,if_neg h0,if_neg h2,<- nF (by omega)]; simp
end Go.Proofs.YtladifkbefehdaaGreat
namespace Go.Proofs.YtladifkbefehdaaGreat
open Go.RowKit
end Go.Proofs.YtladifkbefehdaaGreat
namespace Go.Proofs.YtladifkbefehdaaGreat
open Go.RowKit
end Go.Proofs.YtladifkbefehdaaGreat
namespace Go.Proofs.YtladifkbefehdaaGreat
open Go.RowKit
theorem uV {l:List Int} (h:l.length=0\/rowF l=true) (h0:0<((l.length:Nat):Int)):0<(((bu l).length:Nat):Int):=by
 rcases h with h | h
 ·omega
 ·rw [(lK h).1,List.length_map]; exact h0
theorem sH {l:List Int} (h0:¬ 0<((l.length:Nat):Int)):¬ 0<(((bu l).length:Nat):Int):=by
 obtain rfl:l=[]:=List.length_eq_zero_iff.1 (by omega)
 decide
end Go.Proofs.YtladifkbefehdaaGreat
namespace Go.Proofs.YtladifkbefehdaaGreat
open Go.RowKit
theorem JW {c:Command} (h:eE c=true):c.chunks.length=0\/rowF c.chunks=true:=by
 unfold eE at h
 simp only [Bool.and_eq_true,decide_eq_true_eq] at h
 have h2:xc c=true:=by obtain ⟨⟨⟨⟨⟨⟨⟨h1,h2⟩,h3⟩,h4⟩,h5⟩,h6⟩,h7⟩,h8⟩:=h; assumption
 unfold xc at h2
 split at h2
 ·exact .inr h2
 ·have:=of_decide_eq_true h2; exact .inl (by omega)
theorem rS {c:Command} {v:Int} (h:cJ c v=true):c.chunks.length=0\/rowF c.chunks=true:=by
 unfold cJ at h
 rw [Bool.and_eq_true,Bool.and_eq_true,Bool.or_eq_true,decide_eq_true_eq] at h
 rcases h.1.2 with h | h
 ·exact .inl (by omega)
 ·exact .inr h
theorem nN {c:Command} {v:Int} (h:aX c v=0):c.chunks.length=0\/rowF c.chunks=true:=JW (eA h).2.2.2
end Go.Proofs.YtladifkbefehdaaGreat
namespace Go.Proofs.YtladifkbefehdaaGreat
open Go.RowKit
structure TagR where
 num:Int
 wire:Int
 k:Nat
 e:Int
def xq (n:Nat):Bool:=decide ((n / 8<1\/1000<n / 8)\/(¬ n % 8=0/\¬ n % 8=2))
def aW (b:List UInt8):TagR:=if (az b).2.2=0 then (if xq (az b).1=true then ⟨0,0,0,6⟩ else ⟨(((az b).1 / 8:Nat):Int),(((az b).1 % 8:Nat):Int),(az b).2.1,0⟩) else ⟨0,0,0,(az b).2.2⟩
theorem FC {b:List UInt8} (h:¬ (az b).2.2=0):aW b=⟨0,0,0,(az b).2.2⟩:=by rw [aW,if_neg h]
theorem FQ {b:List UInt8} (h:(az b).2.2=0) (h2:((az b).1 / 8<1\/1000<(az b).1 / 8)\/(¬ (az b).1 % 8=0/\¬ (az b).1 % 8=2)):aW b=⟨0,0,0,6⟩:=by rw [aW,if_pos h,if_pos (show xq _=true from decide_eq_true h2)]
theorem xn {b:List UInt8} (h:(az b).2.2=0) (h2:¬ (((az b).1 / 8<1\/1000<(az b).1 / 8)\/(¬ (az b).1 % 8=0/\¬ (az b).1 % 8=2))):aW b=⟨(((az b).1 / 8:Nat):Int),(((az b).1 % 8:Nat):Int),(az b).2.1,0⟩:=by
 rw [aW,if_pos h,if_neg (by unfold xq; simpa using h2)]
theorem nJ (b:List UInt8):((aW b).k<=11/\(aW b).k<=b.length)/\(0<=(aW b).num/\(aW b).num<=1000)/\(0<=(aW b).wire/\(aW b).wire<=2):=by
 have hs:(az b).2.1<=11/\(az b).2.1<=0+b.length:=nA (l:=b) (k:=0) (n:=0) (by omega)
 by_cases h:(az b).2.2=0
 ·by_cases h2:((az b).1 / 8<1\/1000<(az b).1 / 8)\/(¬ (az b).1 % 8=0/\¬ (az b).1 % 8=2)
  ·rw [FQ h h2]; simp
  ·rw [xn h h2]; dsimp only; omega
 ·rw [FC h]; simp
theorem Bn:∀ {l:List UInt8} {k n:Nat},(bM k n l).2.2=0->1<=(bM k n l).2.1
 | [],k,n,h=>by rw [bM] at h; split at h <;> cases h
 | x :: r,k,n,h=>by
  rw [bM] at h ⊢
  split
  ·rename_i h1; rw [if_pos h1] at h; cases h
  ·rename_i h1
   rw [if_neg h1] at h
   split
   ·rename_i h2; rw [if_pos h2] at h; cases h
   ·rename_i h2
    rw [if_neg h2] at h
    split
    ·simp
    ·rename_i h3; rw [if_neg h3] at h; exact Bn h
def bd (b:List UInt8):Nat × Int:=
  if (aW b).e=0 then
    (if (az (b.drop (aW b).k)).2.2=0 then
      (if (aW b).wire=0 then ((aW b).k+(az (b.drop (aW b).k)).2.1,0)
       else if 16384<(az (b.drop (aW b).k)).1 then (0,4)
       else if ((b.length:Nat):Int) - (((aW b).k+(az (b.drop (aW b).k)).2.1:Nat):Int)<(((az (b.drop (aW b).k)).1:Nat):Int) then (0,2)
       else ((aW b).k+(az (b.drop (aW b).k)).2.1+(az (b.drop (aW b).k)).1,0))
     else (0,(az (b.drop (aW b).k)).2.2))
  else (0,(aW b).e)
theorem Sa {b:List UInt8} (h:¬ (aW b).e=0):bd b=(0,(aW b).e):=by rw [bd,if_neg h]
theorem Rn {b:List UInt8} (h:(aW b).e=0) (h2:¬ (az (b.drop (aW b).k)).2.2=0):bd b=(0,(az (b.drop (aW b).k)).2.2):=by rw [bd,if_pos h,if_neg h2]
theorem Qo {b:List UInt8} (h:(aW b).e=0) (h2:(az (b.drop (aW b).k)).2.2=0) (h3:(aW b).wire=0):bd b=((aW b).k+(az (b.drop (aW b).k)).2.1,0):=by rw [bd,if_pos h,if_pos h2,if_pos h3]
theorem Sj {b:List UInt8} (h:(aW b).e=0) (h2:(az (b.drop (aW b).k)).2.2=0) (h3:¬ (aW b).wire=0) (h4:16384<(az (b.drop (aW b).k)).1):bd b=(0,4):=by rw [bd,if_pos h,if_pos h2,if_neg h3,if_pos h4]
theorem Ru {b:List UInt8} (h:(aW b).e=0) (h2:(az (b.drop (aW b).k)).2.2=0) (h3:¬ (aW b).wire=0) (h4:¬ 16384<(az (b.drop (aW b).k)).1) (h5:((b.length:Nat):Int) - (((aW b).k+(az (b.drop (aW b).k)).2.1:Nat):Int)<(((az (b.drop (aW b).k)).1:Nat):Int)):bd b=(0,2):=by rw [bd,if_pos h,if_pos h2,if_neg h3,if_neg h4,if_pos h5]
theorem Pm {b:List UInt8} (h:(aW b).e=0) (h2:(az (b.drop (aW b).k)).2.2=0) (h3:¬ (aW b).wire=0) (h4:¬ 16384<(az (b.drop (aW b).k)).1) (h5:¬ ((b.length:Nat):Int) - (((aW b).k+(az (b.drop (aW b).k)).2.1:Nat):Int)<(((az (b.drop (aW b).k)).1:Nat):Int)):bd b=((aW b).k+(az (b.drop (aW b).k)).2.1+(az (b.drop (aW b).k)).1,0):=by rw [bd,if_pos h,if_pos h2,if_neg h3,if_neg h4,if_neg h5]
theorem kK (b:List UInt8) (k:Nat):(az (b.drop k)).2.1<=11/\(az (b.drop k)).2.1+k<=max b.length k:=by
 have:=nA (l:=b.drop k) (k:=0) (n:=0) (by omega)
 unfold az
 rw [List.length_drop] at this
 omega
theorem ld (b:List UInt8):(bd b).1<=b.length:=by
 have h1:=nJ b; have h2:=kK b (aW b).k
 unfold bd
 split
 ·split
  ·split
   ·dsimp only; omega
   ·split
    ·simp
    ·split
     ·simp
     ·dsimp only; omega
  ·simp
 ·simp
theorem ly {b:List UInt8} (h:(bd b).2=0):1<=(bd b).1:=by
 unfold bd at h ⊢
 split
 ·rename_i h0
  rw [if_pos h0] at h
  split
  ·rename_i h1
   rw [if_pos h1] at h
   have:=Bn (l:=b.drop (aW b).k) (k:=0) (n:=0) h1
   split
   ·dsimp only; unfold az; omega
   ·rename_i h2
    rw [if_neg h2] at h
    split
    ·rename_i h3; rw [if_pos h3] at h; cases h
    ·rename_i h3
     rw [if_neg h3] at h
     split
     ·rename_i h4; rw [if_pos h4] at h; cases h
     ·dsimp only; unfold az; omega
  ·rename_i h1; rw [if_neg h1] at h; exact absurd h h1
 ·rename_i h0; rw [if_neg h0] at h; exact absurd h h0
def iA (b:List UInt8):Field:=if (aW b).wire=0 then ⟨(aW b).num,(aW b).wire,⟨(az (b.drop (aW b).k)).1⟩,[]⟩ else ⟨(aW b).num,(aW b).wire,⟨0⟩,b.drop ((aW b).k+(az (b.drop (aW b).k)).2.1)⟩
theorem uH {b:List UInt8} (h:(aW b).wire=0):(⟨(aW b).num,(aW b).wire,⟨(az (b.drop (aW b).k)).1⟩,[]⟩:Field)=iA b:=by rw [iA,if_pos h]
theorem ug {b:List UInt8} (h:¬ (aW b).wire=0):(⟨(aW b).num,(aW b).wire,⟨0⟩,b.drop ((aW b).k+(az (b.drop (aW b).k)).2.1)⟩:Field)=iA b:=by rw [iA,if_neg h]
end Go.Proofs.YtladifkbefehdaaGreat
namespace Go.Proofs.YtladifkbefehdaaGreat
open Go.RowKit
def ej (acc:List Field) (x:Field):Bool:=match acc[acc.length - 1]? with | none=>true | some y=>dC y x
def ph:Nat->List Field->List UInt8->List Field × Int
 | 0,acc,_=>(acc,0)
 | f+1,acc,b=>if b.length=0 then (acc,0) else if (bd b).2=0 then (if ej acc (iA (b.take (bd b).1))=true then ph f (acc++[iA (b.take (bd b).1)]) (b.drop (bd b).1) else ([],5)) else ([],(bd b).2)
def bz (b:List UInt8):List Field × Int:=if 16384<b.length then ([],4) else ph b.length [] b
def gE (b:List UInt8) (i:Nat) (acc:List Field):Prop:=∃ f,b.length - i<=f/\bz b=ph f acc (b.drop i)
theorem NA {b:List UInt8} (h:16384<b.length):bz b=([],4):=by rw [bz,if_pos h]
theorem oM {b:List UInt8} (h:¬ 16384<b.length):gE b 0 []:=⟨b.length,by omega,by rw [bz,if_neg h]; rfl⟩
theorem Er {b:List UInt8} {i:Nat} {acc:List Field} (h:gE b i acc) (hi:i<b.length):∃ f,b.length - i<=f+1/\bz b=if (bd (b.drop i)).2=0 then (if ej acc (iA ((b.drop i).take (bd (b.drop i)).1))=true then ph f (acc++[iA ((b.drop i).take (bd (b.drop i)).1)]) ((b.drop i).drop (bd (b.drop i)).1) else ([],5)) else ([],(bd (b.drop i)).2):=by
 obtain ⟨f,hf,e⟩:=h
 cases f with
 | zero=>omega
 | succ f=>exact ⟨f,hf,by rw [e,ph,if_neg (by rw [List.length_drop]; omega)]⟩
theorem Jk {b:List UInt8} {i:Nat} {acc:List Field} (h:gE b i acc) (hi:i<b.length) (hs:¬ (bd (b.drop i)).2=0):bz b=([],(bd (b.drop i)).2):=by
 obtain ⟨f,_,e⟩:=Er h hi; rw [e,if_neg hs]
theorem Mx {b:List UInt8} {i:Nat} {acc:List Field} (h:gE b i acc) (hi:b.length<=i):bz b=(acc,0):=by
 obtain ⟨f,_,e⟩:=h
 rw [e,List.drop_of_length_le hi]
 cases f <;> rfl
theorem uB:∀ {f:Nat} {acc:List Field} {b:List UInt8},(ph f acc b).1.length<=acc.length+b.length
 | 0,acc,b=>by simp [ph]
 | f+1,acc,b=>by
  unfold ph
  split
  ·simp
  ·split
   ·rename_i h0 h1
    split
    ·have:=uB (f:=f) (acc:=acc++[iA (b.take (bd b).1)]) (b:=b.drop (bd b).1)
     have h2:=ly h1
     rw [List.length_append,List.length_drop] at this
     simp only [List.length_cons,List.length_nil] at this
     omega
    ·simp
   ·simp
theorem Hz (b:List UInt8):(bz b).1.length<=16384:=by
 unfold bz
 split
 ·simp
 ·have:=uB (f:=b.length) (acc:=[]) (b:=b)
  simp only [List.length_nil] at this
  omega
end Go.Proofs.YtladifkbefehdaaGreat
namespace Go.Proofs.YtladifkbefehdaaGreat
open Go.RowKit
def zk (x:Field) (s:Spec) (n:Int):Bool:=if ¬ x.wire=s.wire\/(1<n/\s.many=false) then false else if x.wire=0 then !decide ((x.n.n:Int)=0) else decide (0<((x.b.length:Nat):Int))
theorem Se {x:Field} {s:Spec} {n:Int} (h:¬ (¬ x.wire=s.wire\/(1<n/\s.many=false))) (h0:x.wire=0):(!decide ((x.n.n:Int)=0))=zk x s n:=by rw [zk,if_neg h,if_pos h0]
theorem Pa {x:Field} {s:Spec} {n:Int} (h:¬ (¬ x.wire=s.wire\/(1<n/\s.many=false))) (h0:¬ x.wire=0):decide (0<((x.b.length:Nat):Int))=zk x s n:=by rw [zk,if_neg h,if_neg h0]
def df (l:List Field) (q:Int):Nat:=l.countP fun x=>decide (x.num=q)
theorem fR {l:List Field} {k:Nat} (q:Int):df (l.take k) q<=k:=Nat.le_trans List.countP_le_length (by rw [List.length_take]; exact Nat.min_le_left _ _)
theorem B_ {l:List Field} {k:Nat} {x:Field} (hx:l[k]? = some x) (q:Int):df (l.take (k+1)) q=if q=x.num then df (l.take k) x.num+1 else df (l.take k) q:=by
 unfold df
 rw [aB hx,List.countP_append]
 by_cases h:q=x.num
 ·subst h; simp
 ·have:¬ x.num=q:=fun e=>h e.symm
  simp [h,this]
def pR (l:List Field) (ss:List Spec) (k:Nat):Prop:=∀ j x,j<k->l[j]? = some x->∀ s ∈ ss,s.num=x.num->zk x s ((df (l.take (j+1)) x.num:Nat):Int)=true
def Bi (l:List Field) (ss:List Spec) (m:Nat):Prop:=∀ j y,j<m->ss[j]? = some y->y.need=true->¬ df l y.num=0
def DE (ss:List Spec) (x:Field) (n:Int) (m:Nat):Prop:=∀ j y,j<m->ss[j]? = some y->y.num=x.num->zk x y n=true
theorem mZ {ss:List Spec} {x:Field} {n:Int}:DE ss x n 0:=fun j y h=>by omega
theorem mS {l:List Field} {ss:List Spec}:pR l ss 0:=fun j y h=>by omega
theorem mL {l:List Field} {ss:List Spec}:Bi l ss 0:=fun j y h=>by omega
def ue (l:List Field) (v:Int):Prop:=pR l (aR v) l.length/\Bi l (aR v) (aR v).length
open Classical in
noncomputable def fw (l:List Field) (v:Int):Int:=if (aR v).length=0 then 1 else if bG l=0 then (if ue l v then 0 else 6) else bG l
theorem vm {l:List Field} {v:Int} (h:(aR v).length=0):1=fw l v:=by rw [fw,if_pos h]
theorem tD {l:List Field} {v:Int} (h:¬ (aR v).length=0) (h2:¬ bG l=0):bG l=fw l v:=by rw [fw,if_neg h,if_neg h2]
theorem jn {l:List Field} {v:Int} (h:¬ (aR v).length=0) (h2:bG l=0) (h3:¬ ue l v):6=fw l v:=by rw [fw,if_neg h,if_pos h2,if_neg h3]
theorem rH {l:List Field} {v:Int} (h:¬ (aR v).length=0) (h2:bG l=0) (h3:ue l v):0=fw l v:=by rw [fw,if_neg h,if_pos h2,if_pos h3]
theorem GB {ss:List Spec} {m:Nat} {x:Field} {n:Int} {y:Spec} (h:DE ss x n m) (hy:ss[m]? = some y) (hn:y.num=x.num->zk x y n=true):DE ss x n (m+1):=by
 intro j z hj hz
 by_cases hjm:j=m
 ·subst hjm; rw [hy] at hz; cases hz; exact hn
 ·exact h j z (by omega) hz
theorem Ed {l:List Field} {ss:List Spec} {k m:Nat} {x:Field} (h:pR l ss k) (hx:l[k]? = some x) {n:Int} (hi:DE ss x n m) (hm:ss.length<=m) (e:n=((df (l.take (k+1)) x.num:Nat):Int)):pR l ss (k+1):=by
 subst e
 intro j z hj hz s hs hn
 by_cases hjk:j=k
 ·subst hjk; rw [hx] at hz; cases hz
  obtain ⟨p,hp,rfl⟩:=List.getElem_of_mem hs
  exact hi p _ (by omega) (List.getElem?_eq_getElem hp) hn
 ·exact h j z (by omega) hz s hs hn
theorem EH {l:List Field} {ss:List Spec} {m:Nat} {y:Spec} (h:Bi l ss m) (hy:ss[m]? = some y) (hn:y.need=true->¬ df l y.num=0):Bi l ss (m+1):=by
 intro j z hj hz
 by_cases hjm:j=m
 ·subst hjm; rw [hy] at hz; cases hz; exact hn
 ·exact h j z (by omega) hz
theorem fN {l:List Field} {v:Int} {k m:Nat} {x:Field} {y:Spec} (hx:l[k]? = some x) (hy:(aR v)[m]? = some y) {n:Int} (hn:y.num=x.num/\zk x y n=false) (e:n=((df (l.take (k+1)) x.num:Nat):Int)):¬ ue l v:=by
 intro h
 have:=h.1 k x (rf hx) hx y (List.mem_of_getElem? hy) hn.1
 rw [<- e,hn.2] at this; cases this
theorem JN {l:List Field} {v:Int} {m:Nat} {y:Spec} {n:Nat} (hy:(aR v)[m]? = some y) (hn:y.need=true/\((n:Nat):Int)=0) (e:n=df l y.num):¬ ue l v:=
 fun h=>h.2 m y (rf hy) hy hn.1 (by omega)
theorem Hp {l:List Field} {v:Int} {k m:Nat} (h1:pR l (aR v) k) (hk:l.length<=k) (h2:Bi l (aR v) m) (hm:(aR v).length<=m):ue l v:=
 ⟨fun j x hj=>h1 j x (by omega),fun j y hj=>h2 j y (by omega)⟩
end Go.Proofs.YtladifkbefehdaaGreat
namespace Go.Proofs.YtladifkbefehdaaGreat
open Go.RowKit
theorem HC {l:List Field} {v:Int} {k:Nat} {x:Field} (hx:l[k]? = some x) (h:x.num<=v):(l.take k).filter (fun f=>decide (f.num<=v))++[x]=(l.take (k+1)).filter (fun f=>decide (f.num<=v)):=by
 rw [aB hx,List.filter_append]; simp [h]
theorem Nc {l:List Field} {v:Int} {k:Nat} {x:Field} (hx:l[k]? = some x) (h:¬ x.num<=v):(l.take k).filter (fun f=>decide (f.num<=v))=(l.take (k+1)).filter (fun f=>decide (f.num<=v)):=by
 rw [aB hx,List.filter_append]; simp [h]
theorem JS {l:List Field} {v:Int} {k:Nat} {x:Field} (hx:l[k]? = some x) (h:¬ x.num<=v):(l.take k).filter (fun f=>!decide (f.num<=v))++[x]=(l.take (k+1)).filter (fun f=>!decide (f.num<=v)):=by
 rw [aB hx,List.filter_append]; simp [h]
theorem My {l:List Field} {v:Int} {k:Nat} {x:Field} (hx:l[k]? = some x) (h:x.num<=v):(l.take k).filter (fun f=>!decide (f.num<=v))=(l.take (k+1)).filter (fun f=>!decide (f.num<=v)):=by
 rw [aB hx,List.filter_append]; simp [h]
theorem CO (l:List Field) (p:Field->Bool):(l.filter p).length<=l.length:=List.length_filter_le _ _
def cS (l:List Field) (v:Int):List Field:=l.filter fun f=>decide (f.num<=v)
def dg (l:List Field) (v:Int):List Field:=l.filter fun f=>!decide (f.num<=v)
theorem qQ (l:List Field) (v:Int):(cS l v).length<=l.length:=CO _ _
theorem nt (l:List Field) (v:Int):(dg l v).length<=l.length:=CO _ _
theorem zR {l:List Field} {v:Int} {k:Nat} (hk:l.length<=k):(l.take k).filter (fun f=>decide (f.num<=v))=cS l v:=by rw [List.take_of_length_le hk]; rfl
theorem Gt {l:List Field} {v:Int} {k:Nat} (hk:l.length<=k):(l.take k).filter (fun f=>!decide (f.num<=v))=dg l v:=by rw [List.take_of_length_le hk]; rfl
end Go.Proofs.YtladifkbefehdaaGreat
namespace Go.Proofs.YtladifkbefehdaaGreat
open Go.RowKit
def zh (f:Field):Int:=IntKind.i64.wrap ((f.n.n:Nat):Int)
def cF (c:Command) (f:Field):Command:=
 if f.num=1 then ⟨zh f,c.client,c.seq,c.set,c.id,c.n,c.chunks,c.text⟩ else
 if f.num=2 then ⟨c.kind,zh f,c.seq,c.set,c.id,c.n,c.chunks,c.text⟩ else
 if f.num=3 then ⟨c.kind,c.client,zh f,c.set,c.id,c.n,c.chunks,c.text⟩ else
 if f.num=4 then ⟨c.kind,c.client,c.seq,zh f,c.id,c.n,c.chunks,c.text⟩ else
 if f.num=5 then ⟨c.kind,c.client,c.seq,c.set,zh f,c.n,c.chunks,c.text⟩ else
 if f.num=6 then ⟨c.kind,c.client,c.seq,c.set,c.id,zh f,c.chunks,c.text⟩ else
 if f.num=7 then ⟨c.kind,c.client,c.seq,c.set,c.id,c.n,hU f.b,c.text⟩ else
 if f.num=8 then ⟨c.kind,c.client,c.seq,c.set,c.id,c.n,c.chunks,⟨f.b⟩⟩ else c
def cu:Command:=⟨0,0,0,0,0,0,[],⟨[]⟩⟩
def cd (l:List Field):Command:=l.foldl cF cu
theorem aV {l:List Field} {k:Nat} {x:Field} (hx:l[k]? = some x):cd (l.take (k+1))=cF (cd (l.take k)) x:=by
 unfold cd; rw [aB hx,List.foldl_append]; rfl
theorem Je {c:Command} {f:Field} (h:f.num=1):(⟨zh f,c.client,c.seq,c.set,c.id,c.n,c.chunks,c.text⟩:Command)=cF c f:=by rw [cF,if_pos h]
theorem HR {c:Command} {f:Field} (h:f.num=2):(⟨c.kind,zh f,c.seq,c.set,c.id,c.n,c.chunks,c.text⟩:Command)=cF c f:=by rw [cF,if_neg (by omega),if_pos h]
theorem Jl {c:Command} {f:Field} (h:f.num=3):(⟨c.kind,c.client,zh f,c.set,c.id,c.n,c.chunks,c.text⟩:Command)=cF c f:=by rw [cF,if_neg (by omega),if_neg (by omega),if_pos h]
theorem HN {c:Command} {f:Field} (h:f.num=4):(⟨c.kind,c.client,c.seq,zh f,c.id,c.n,c.chunks,c.text⟩:Command)=cF c f:=by rw [cF,if_neg (by omega),if_neg (by omega),if_neg (by omega),if_pos h]
theorem IY {c:Command} {f:Field} (h:f.num=5):(⟨c.kind,c.client,c.seq,c.set,zh f,c.n,c.chunks,c.text⟩:Command)=cF c f:=by rw [cF,if_neg (by omega),if_neg (by omega),if_neg (by omega),if_neg (by omega),if_pos h]
theorem IF {c:Command} {f:Field} (h:f.num=6):(⟨c.kind,c.client,c.seq,c.set,c.id,zh f,c.chunks,c.text⟩:Command)=cF c f:=by rw [cF,if_neg (by omega),if_neg (by omega),if_neg (by omega),if_neg (by omega),if_neg (by omega),if_pos h]
theorem GP {c:Command} {f:Field} (h:f.num=7):(⟨c.kind,c.client,c.seq,c.set,c.id,c.n,hU f.b,c.text⟩:Command)=cF c f:=by rw [cF,if_neg (by omega),if_neg (by omega),if_neg (by omega),if_neg (by omega),if_neg (by omega),if_neg (by omega),if_pos h]
theorem IV {c:Command} {f:Field} (h:f.num=8):(⟨c.kind,c.client,c.seq,c.set,c.id,c.n,c.chunks,⟨f.b⟩⟩:Command)=cF c f:=by rw [cF,if_neg (by omega),if_neg (by omega),if_neg (by omega),if_neg (by omega),if_neg (by omega),if_neg (by omega),if_neg (by omega),if_pos h]
theorem Mz {c:Command} {f:Field} (h:¬ (1<=f.num/\f.num<=8)):c=cF c f:=by rw [cF,if_neg (by omega),if_neg (by omega),if_neg (by omega),if_neg (by omega),if_neg (by omega),if_neg (by omega),if_neg (by omega),if_neg (by omega)]
noncomputable def hX (b:List UInt8) (v:Int):Int:=if (bz b).2=0 then fw (bz b).1 v else (bz b).2
end Go.Proofs.YtladifkbefehdaaGreat
namespace Go.Proofs.YtladifkbefehdaaGreat
open Go.RowKit
structure TkR where
 c:Command
 r:List Field
 e:Int
noncomputable def bD (b:List UInt8) (v:Int):TkR:=
 if 1<=v/\v<=3 then (if hX b v=0 then (if bP (cd (cS (bz b).1 (bk v))) (dg (bz b).1 (bk v)) v=0/\cc (cd (cS (bz b).1 (bk v))) (dg (bz b).1 (bk v)) v=b then ⟨cd (cS (bz b).1 (bk v)),dg (bz b).1 (bk v),0⟩ else ⟨cu,[],6⟩) else ⟨cu,[],hX b v⟩) else ⟨cu,[],1⟩
theorem Px {b:List UInt8} {v:Int} (h:¬ (1<=v/\v<=3)):bD b v=⟨cu,[],1⟩:=by rw [bD,if_neg h]
theorem NN {b:List UInt8} {v:Int} (h:1<=v/\v<=3) (h2:¬ hX b v=0):bD b v=⟨cu,[],hX b v⟩:=by rw [bD,if_pos h,if_neg h2]
theorem QH {b:List UInt8} {v:Int} (h:1<=v/\v<=3) (h2:hX b v=0) (h3:¬ bP (cd (cS (bz b).1 (bk v))) (dg (bz b).1 (bk v)) v=0\/¬ cc (cd (cS (bz b).1 (bk v))) (dg (bz b).1 (bk v)) v=b):bD b v=⟨cu,[],6⟩:=by
 rw [bD,if_pos h,if_pos h2,if_neg (fun h=>h3.elim (fun h4=>h4 h.1) (fun h4=>h4 h.2))]
theorem Lk {b:List UInt8} {v:Int} (h:1<=v/\v<=3) (h2:hX b v=0) (h3:bP (cd (cS (bz b).1 (bk v))) (dg (bz b).1 (bk v)) v=0/\cc (cd (cS (bz b).1 (bk v))) (dg (bz b).1 (bk v)) v=b):bD b v=⟨cd (cS (bz b).1 (bk v)),dg (bz b).1 (bk v),0⟩:=by
 rw [bD,if_pos h,if_pos h2,if_pos h3]
theorem He {b:List UInt8} {v:Int} (h:hX b v=0):(bz b).2=0/\bG (bz b).1=0:=by
 unfold hX at h
 split at h
 ·rename_i h1
  refine ⟨h1,?_⟩
  unfold fw at h
  split at h
  ·cases h
  ·split at h
   ·assumption
   ·exact h
 ·rename_i h1; exact absurd h h1
theorem MY {b:List UInt8} {v:Int} {u:Int} (h:hX b v=0):∀ f ∈ cS (bz b).1 u,f.b.length<=16384:=
 fun _ hf=>dH (He h).2 (List.mem_filter.1 hf).1
end Go.Proofs.YtladifkbefehdaaGreat
namespace Go.Proofs.YtladifkbefehdaaGreat
open Go.RowKit
theorem AZ {x:UInt8} (h:x.toNat<128):(x &&& 127).toNat=x.toNat:=by rw [mo]; omega
theorem zK:∀ (n:Nat) {k m:Nat} {r:List UInt8},k<=9->n*2 ^ (7*k)<18446744073709551616->(0<k->n≠0)->bM k m (bq n++r)=(m+n*2 ^ (7*k),k+(bq n).length,0):=by
 intro n
 induction n using Nat.strongRecOn with
 | _ n ih=>
  intro k m r hk hn h0
  by_cases hs:n<128
  ·rw [jH hs]
   have hx:(UInt8.ofNat n).toNat=n:=by rw [UInt8.toNat_ofNat']; omega
   simp only [List.cons_append,List.nil_append,List.length_cons,List.length_nil]
   have h9:¬ ((0<k/\(UInt8.ofNat n).toNat=0)\/(k=9/\1<(UInt8.ofNat n).toNat)):=by
    rw [hx]
    rintro (⟨h1,h2⟩ | ⟨rfl,h2⟩)
    ·exact h0 h1 h2
    ·have:2*2 ^ (7*9)<=n*2 ^ (7*9):=Nat.mul_le_mul_right _ (by omega)
     have e:(2:Nat)*2 ^ (7*9)=18446744073709551616:=by decide
     omega
   rw [bM,if_neg (by omega),if_neg h9,if_pos (by omega),AZ (by omega),hx]
  ·rw [vl hs]
   simp only [List.cons_append,List.length_cons]
   have hx:=Kk n
   have hk8:k<=8:=by
    rcases Nat.lt_or_ge k 9 with h | h
    ·omega
    ·have hk9:k=9:=by omega
     subst hk9
     have:128*2 ^ (7*9)<=n*2 ^ (7*9):=Nat.mul_le_mul_right _ (by omega)
     have e:(128:Nat)*2 ^ (7*9)=1180591620717411303424:=by decide
     omega
   have e7:(2:Nat) ^ (7*(k+1))=128*2 ^ (7*k):=by rw [show 7*(k+1)=7*k+7 by omega,Nat.pow_add,Nat.mul_comm]
   have hd:n / 128*2 ^ (7*(k+1))<=n*2 ^ (7*k):=by
    rw [e7,<- Nat.mul_assoc]; exact Nat.mul_le_mul_right _ (Nat.div_mul_le_self _ _)
   rw [bM,if_neg (by omega),if_neg (by rw [hx]; rintro (⟨_,h⟩ | ⟨h,_⟩) <;> omega),if_neg (by omega),mo,hx]
   rw [ih (n / 128) (by omega) (k:=k+1) (by omega) (by omega) (fun _=>by omega)]
   have e:(n % 128+128) % 128=n % 128:=by omega
   have e2:n % 128*2 ^ (7*k)+n / 128*2 ^ (7*(k+1))=n*2 ^ (7*k):=by
    rw [e7,<- Nat.mul_assoc,<- Nat.add_mul]; congr 1; omega
   rw [e,Nat.add_assoc,e2]
   congr 2
   omega
theorem gF {n:Nat} (h:n<18446744073709551616) (r:List UInt8):az (bq n++r)=(n,(bq n).length,0):=by
 unfold az
 rw [zK n (by omega) (by simpa using h) (fun h=>absurd h (by omega))]
 simp
def lY (f:Field):Prop:=f.n.n<18446744073709551616
theorem kF {f:Field} (h:cf f=true) (r:List UInt8):aW (ef f.num f.wire++r)=⟨f.num,f.wire,(ef f.num f.wire).length,0⟩:=by
 obtain ⟨h1,h2⟩:=iq h
 rw [qm h]
 have ht:=gF (n:=((8*f.num)+f.wire).toNat) (by omega) r
 have hw:f.wire=0\/f.wire=2:=h2.imp (fun h=>h.1) (fun h=>h.1)
 rw [xn (by rw [ht]) (by rw [ht]; simp only; omega),ht]
 simp only [TagR.mk.injEq,and_true]
 omega
theorem oX {f:Field} (h:f.wire=0):bc f=ef f.num f.wire++bq f.n.n:=by rw [bc,if_pos h]
theorem pN {f:Field} (h:¬ f.wire=0):bc f=ef f.num f.wire++(bq f.b.length++f.b):=by rw [bc,if_neg h,List.append_assoc]
theorem FV {f:Field} (h:cf f=true) (hb:f.b.length<=16384) (hu:lY f) (r:List UInt8):bd (bc f++r)=((bc f).length,0):=by
 by_cases hw:f.wire=0
 ·rw [oX hw,List.append_assoc]
  have ht:=kF h (bq f.n.n++r)
  have hd:(ef f.num f.wire++(bq f.n.n++r)).drop (ef f.num f.wire).length=bq f.n.n++r:=List.drop_left
  have hk:=gF hu r
  rw [Qo (by rw [ht]) (by rw [ht]; simp only; rw [hd,hk]) (by rw [ht]; exact hw),ht]
  simp only
  rw [hd,hk,List.length_append]
 ·rw [pN hw,List.append_assoc,List.append_assoc]
  have ht:=kF h (bq f.b.length++(f.b++r))
  have hd:(ef f.num f.wire++(bq f.b.length++(f.b++r))).drop (ef f.num f.wire).length=bq f.b.length++(f.b++r):=List.drop_left
  have hk:=gF (n:=f.b.length) (by omega) (f.b++r)
  rw [Pm (by rw [ht]) (by rw [ht]; simp only; rw [hd,hk]) (by rw [ht]; exact hw) (by rw [ht]; simp only; rw [hd,hk]; simp only; omega) (by rw [ht]; simp only; rw [hd,hk]; simp only [List.length_append]; omega),ht]
  simp only
  rw [hd,hk]
  simp only [List.length_append,Nat.add_assoc]
theorem Iu {f:Field} (h:cf f=true) (hb:f.b.length<=16384) (hu:lY f):iA (bc f)=f:=by
 obtain ⟨h1,h2⟩:=iq h
 by_cases hw:f.wire=0
 ·rw [oX hw]
  have ht:=kF h (bq f.n.n)
  have hd:(ef f.num f.wire++bq f.n.n).drop (ef f.num f.wire).length=bq f.n.n:=List.drop_left
  have hk:=gF hu []
  rw [List.append_nil] at hk
  rw [<- uH (by rw [ht]; exact hw),ht]
  simp only
  rw [hd,hk]
  have hb0:f.b=[]:=by rcases h2 with h2 | h2; exact h2.2; omega
  cases f; simp_all
 ·rw [pN hw]
  have ht:=kF h (bq f.b.length++f.b)
  have hd:(ef f.num f.wire++(bq f.b.length++f.b)).drop (ef f.num f.wire).length=bq f.b.length++f.b:=List.drop_left
  have hk:=gF (n:=f.b.length) (by omega) f.b
  rw [<- ug (by rw [ht]; exact hw),ht]
  simp only
  rw [hd,hk]
  simp only
  rw [<- List.drop_drop,hd,List.drop_left]
  have hn0:f.n.n=0:=by rcases h2 with h2 | h2; exact absurd h2.1 hw; exact h2.2
  cases f with | mk a b n c=>cases n; simp_all
theorem BQ {p:Option Field} {x:Field} {r:List Field} (h:cz p (x :: r)=0):(cf x=true/\QU p x=true/\x.b.length<=16384)/\cz (some x) r=0:=by
 unfold cz at h
 split at h
 ·rename_i hs
  refine ⟨?_,h⟩
  unfold stepT at hs
  split at hs
  ·cases hs
  ·rename_i h1
   split at hs
   ·cases hs
   ·rename_i h2
    split at hs
    ·cases hs
    ·exact ⟨by simpa using h1,by simpa using h2,by omega⟩
 ·rename_i hs; exact absurd h hs
theorem zm (acc:List Field) (x:Field):ej acc x=QU acc[acc.length - 1]? x:=by
 unfold ej; cases acc[acc.length - 1]? <;> rfl
theorem Jw {f:Field} (h:cf f=true):1<=(ef f.num f.wire).length:=by
 rw [qm h,vf]; exact fa _
theorem wU {f:Field} (h:cf f=true):1<=(bc f).length:=by
 have:=Jw h
 by_cases hw:f.wire=0
 ·rw [oX hw,List.length_append]; omega
 ·rw [pN hw,List.length_append]; omega
theorem tL:∀ {fs acc:List Field} {n:Nat},cz acc[acc.length - 1]? fs=0->(∀ f ∈ fs,lY f)->((fs.map bc).flatten).length<=n->ph n acc ((fs.map bc).flatten)=(acc++fs,0)
 | [],acc,n,_,_,_=>by cases n <;> simp [ph]
 | x :: r,acc,n,h,hu,hn=>by
  obtain ⟨⟨h1,h2,h3⟩,h4⟩:=BQ h
  have hp:=wU h1
  simp only [List.map_cons,List.flatten_cons,List.length_append] at hn ⊢
  cases n with
  | zero=>omega
  | succ n=>
   have hs:=FV h1 h3 (hu x (by simp)) ((r.map bc).flatten)
   rw [ph,if_neg (by rw [List.length_append]; omega),hs]
   simp only [if_true]
   rw [List.take_left,Iu h1 h3 (hu x (by simp)),List.drop_left,zm,if_pos h2]
   rw [tL (fs:=r) (acc:=acc++[x]) (by rw [List.length_append]; simpa using h4) (fun f hf=>hu f (List.mem_cons_of_mem _ hf)) (by omega)]
   simp
theorem JB {fs:List Field} (h:bG fs=0) (hu:∀ f ∈ fs,lY f):bz (fk fs)=(fs,0):=by
 have hl:=fH (k:=fs.length) h
 rw [List.take_length] at hl
 rw [fk,if_pos h,bz,if_neg (by omega),tL (acc:=[]) (by simpa using xQ h) hu (Nat.le_refl _)]
 rfl
end Go.Proofs.YtladifkbefehdaaGreat
namespace Go.Proofs.YtladifkbefehdaaGreat
open Go.RowKit
theorem gA {acc:Command} {i n:Int}:(fL i n).foldl cF acc=if n=0 then acc else cF acc ⟨i,0,⟨n.toNat⟩,[]⟩:=by
 unfold fL; split <;> rfl
theorem lU {i n:Int} (hn:0<=n) (hn2:n<=9223372036854775807):zh ⟨i,0,⟨n.toNat⟩,[]⟩=n:=by
 unfold zh
 show IntKind.i64.wrap ((n.toNat:Nat):Int)=n
 rw [Int.toNat_of_nonneg hn]
 exact I64.wrap ⟨by omega,by omega⟩
theorem Ti {a:Command} {n:Int} (hn:0<=n) (hn2:n<=9223372036854775807) (h0:a.kind=0):(fL 1 n).foldl cF a=⟨n,a.client,a.seq,a.set,a.id,a.n,a.chunks,a.text⟩:=by
 rw [gA]; split
 ·cases a; simp_all
 ·rw [<- Je rfl,lU hn hn2]
theorem TE {a:Command} {n:Int} (hn:0<=n) (hn2:n<=9223372036854775807) (h0:a.client=0):(fL 2 n).foldl cF a=⟨a.kind,n,a.seq,a.set,a.id,a.n,a.chunks,a.text⟩:=by
 rw [gA]; split
 ·cases a; simp_all
 ·rw [<- HR rfl,lU hn hn2]
theorem Td {a:Command} {n:Int} (hn:0<=n) (hn2:n<=9223372036854775807) (h0:a.seq=0):(fL 3 n).foldl cF a=⟨a.kind,a.client,n,a.set,a.id,a.n,a.chunks,a.text⟩:=by
 rw [gA]; split
 ·cases a; simp_all
 ·rw [<- Jl rfl,lU hn hn2]
theorem Tv {a:Command} {n:Int} (hn:0<=n) (hn2:n<=9223372036854775807) (h0:a.set=0):(fL 4 n).foldl cF a=⟨a.kind,a.client,a.seq,n,a.id,a.n,a.chunks,a.text⟩:=by
 rw [gA]; split
 ·cases a; simp_all
 ·rw [<- HN rfl,lU hn hn2]
theorem SV {a:Command} {n:Int} (hn:0<=n) (hn2:n<=9223372036854775807) (h0:a.id=0):(fL 5 n).foldl cF a=⟨a.kind,a.client,a.seq,a.set,n,a.n,a.chunks,a.text⟩:=by
 rw [gA]; split
 ·cases a; simp_all
 ·rw [<- IY rfl,lU hn hn2]
theorem Tn {a:Command} {n:Int} (hn:0<=n) (hn2:n<=9223372036854775807) (h0:a.n=0):(fL 6 n).foldl cF a=⟨a.kind,a.client,a.seq,a.set,a.id,n,a.chunks,a.text⟩:=by
 rw [gA]; split
 ·cases a; simp_all
 ·rw [<- IF rfl,lU hn hn2]
theorem Tf {a:Command} {l:List Int} (hr:l.length=0\/rowF l=true) (h0:a.chunks=[]):(ic 7 (bu l)).foldl cF a=⟨a.kind,a.client,a.seq,a.set,a.id,a.n,l,a.text⟩:=by
 by_cases hl:0<((l.length:Nat):Int)
 ·rw [ic,if_pos (uV hr hl)]
  rw [List.foldl_cons,List.foldl_nil,<- GP rfl]
  rcases hr with hr | hr
  ·omega
  ·rw [(lK hr).2.2.1]
 ·obtain rfl:l=[]:=List.eq_nil_of_length_eq_zero (by omega)
  rw [ic,if_neg (sH hl)]
  cases a; simp_all
theorem SX {a:Command} {b:List UInt8} (h0:a.text=⟨[]⟩):(ic 8 b).foldl cF a=⟨a.kind,a.client,a.seq,a.set,a.id,a.n,a.chunks,⟨b⟩⟩:=by
 by_cases hb:0<((b.length:Nat):Int)
 ·rw [ic,if_pos hb]
  rw [List.foldl_cons,List.foldl_nil,<- IV rfl]
 ·obtain rfl:b=[]:=List.eq_nil_of_length_eq_zero (by omega)
  rw [ic,if_neg hb]
  cases a; simp_all
structure PutOk (c:Command) (v:Int):Prop where
 vr:1<=v/\v<=3
 nn:0<=c.kind/\0<=c.client/\0<=c.seq/\0<=c.set/\0<=c.id/\0<=c.n
 kind:¬ c.kind=0
 row:c.chunks.length=0\/rowF c.chunks=true
 text:v<3->c.text=⟨[]⟩
def I6 (c:Command):Prop:=c.kind<=9223372036854775807/\c.client<=9223372036854775807/\c.seq<=9223372036854775807/\c.set<=9223372036854775807/\c.id<=9223372036854775807/\c.n<=9223372036854775807
theorem Ee {c:Command} {v:Int} (h:PutOk c v) (hi:I6 c):(c_ c).foldl cF cu=⟨c.kind,c.client,c.seq,c.set,c.id,c.n,c.chunks,⟨[]⟩⟩:=by
 obtain ⟨n1,n2,n3,n4,n5,n6⟩:=h.nn
 obtain ⟨i1,i2,i3,i4,i5,i6⟩:=hi
 unfold c_
 simp only [List.foldl_append,List.foldl_nil]
 rw [Ti n1 i1 rfl,TE n2 i2 rfl,Td n3 i3 rfl,Tv n4 i4 rfl,SV n5 i5 rfl,Tn n6 i6 rfl,Tf h.row rfl]; rfl
theorem BL {c:Command} {v:Int} (h:PutOk c v) (hi:I6 c):cd (aG c v)=c:=by
 unfold cd aG
 split
 ·rw [List.foldl_append,Ee h hi,SX rfl]
 ·rw [Ee h hi,<- h.text (by omega)]
theorem HP {s:Str} (h:((s.b.length:Nat):Int)=0):s=⟨[]⟩:=by
 cases s with | mk b=>simp only at h; rw [List.eq_nil_of_length_eq_zero (show b.length=0 by omega)]
theorem kQ {c:Command} {v:Int} (h:aX c v=0) (hv:v<3):c.text=⟨[]⟩:=by
 obtain ⟨_,hn,hl,hf⟩:=eA h
 unfold eE at hf
 simp only [Bool.and_eq_true,decide_eq_true_eq] at hf
 have h2:OW c=true:=by obtain ⟨⟨⟨⟨⟨⟨⟨h1,h2⟩,h3⟩,h4⟩,h5⟩,h6⟩,h7⟩,h8⟩:=hf; assumption
 unfold OW at h2
 split at h2
 ·rename_i hk
  have:aQ c.kind=3:=by rw [hk]; decide
  omega
 ·exact of_decide_eq_true h2
theorem ja {c:Command} {rest:List Field} {v:Int} (h:bP c rest v=0):((1<=v/\v<=3)/\(cJ c v=true\/aX c v=0)/\(∀ f ∈ rest,bk v<f.num))/\bG (aG c v++rest)=0/\cc c rest v=fk (aG c v++rest):=by
 unfold bP at h
 split at h
 ·rename_i hb
  refine ⟨?_,h,by rw [cc,if_pos hb]⟩
  unfold cr at hb
  split at hb
  ·cases hb
  ·rename_i h1
   split at hb
   ·rename_i h2; exact absurd hb h2.2
   ·rename_i h2
    split at hb
    ·cases hb
    ·rename_i h3
     refine ⟨vS (by simpa using h1),?_,fun f hf=>?_⟩
     ·by_cases hm:aX c v=0
      ·exact .inr hm
      ·refine .inl ?_
       by_cases hf:cJ c v=false
       ·exact absurd ⟨hf,hm⟩ h2
       ·simpa using hf
     ·rw [Bool.not_eq_true,List.any_eq_false] at h3
      have:=h3 f hf
      simpa using this
 ·rename_i hb; exact absurd h hb
theorem AD {c:Command} {v:Int} (h:cJ c v=true):1<=c.kind:=by
 unfold cJ bE at h
 simp only [Bool.and_eq_true,decide_eq_true_eq] at h
 omega
theorem Em {c:Command} {v:Int} (h:cJ c v=true) (hv:v<3):c.text=⟨[]⟩:=by
 unfold cJ at h
 simp only [Bool.and_eq_true,Bool.or_eq_true,decide_eq_true_eq] at h
 rcases h.2 with h | h
 ·exact HP h
 ·omega
theorem CI {c:Command} {v:Int} (hv:1<=v/\v<=3) (h:cJ c v=true\/aX c v=0):PutOk c v:=by
 rcases h with h | h
 ·exact ⟨hv,jw h,by have:=AD h; omega,rS h,Em h⟩
 ·exact ⟨hv,jA h,by have:=jV (eA h).2.1; omega,nN h,kQ h⟩
theorem CX {v:Int} (h:1<=v/\v<=3):bk v=if v=3 then 8 else 7:=by
 have:v=1\/v=2\/v=3:=by omega
 rcases this with rfl | rfl | rfl <;> decide
def Sr (v:Int) (f:Field):Prop:=(1<=f.num/\f.num<=6/\f.wire=0/\¬ f.n.n=0)\/(f.num=7/\f.wire=2/\0<f.b.length)\/(f.num=8/\f.wire=2/\0<f.b.length/\3<=v)
theorem lL {i n:Int} {f:Field} (hi:1<=i/\i<=6) (hn:0<=n) (v:Int) (h:f ∈ fL i n):Sr v f:=by
 unfold fL at h
 split at h
 ·simp at h
 ·simp only [List.mem_singleton] at h
  subst h
  exact .inl ⟨hi.1,hi.2,rfl,by show ¬ n.toNat=0; omega⟩
theorem wK {i:Int} {b:List UInt8} {f:Field} (h:f ∈ ic i b):f.num=i/\f.wire=2/\0<f.b.length:=by
 unfold ic at h
 split at h
 ·rename_i hb
  simp only [List.mem_singleton] at h
  subst h
  exact ⟨rfl,rfl,by show 0<b.length; omega⟩
 ·simp at h
theorem pI {c:Command} {v:Int} {f:Field} (h:PutOk c v) (hf:f ∈ aG c v):Sr v f:=by
 obtain ⟨n1,n2,n3,n4,n5,n6⟩:=h.nn
 have hN:f ∈ c_ c->Sr v f:=by
  intro hf
  unfold c_ at hf
  simp only [List.mem_append,List.not_mem_nil,false_or] at hf
  rcases hf with ((((((hf | hf) | hf) | hf) | hf) | hf) | hf)
  ·exact lL (by omega) n1 v hf
  ·exact lL (by omega) n2 v hf
  ·exact lL (by omega) n3 v hf
  ·exact lL (by omega) n4 v hf
  ·exact lL (by omega) n5 v hf
  ·exact lL (by omega) n6 v hf
  ·have:=wK hf; exact .inr (.inl this)
 unfold aG at hf
 split at hf
 ·rename_i hv
  rcases List.mem_append.1 hf with hf | hf
  ·exact hN hf
  ·have:=wK hf; exact .inr (.inr ⟨this.1,this.2.1,this.2.2,hv⟩)
 ·exact hN hf
theorem sx (a b:List Field) (q:Int):df (a++b) q=df a q+df b q:=List.countP_append
theorem lQ (i n q:Int):df (fL i n) q<=1/\(¬ i=q->df (fL i n) q=0):=by
 unfold fL df
 by_cases h:i=q <;> split <;> simp [h]
theorem BX (i q:Int) (b:List UInt8):df (ic i b) q<=1/\(¬ i=q->df (ic i b) q=0):=by
 unfold ic df
 by_cases h:i=q <;> split <;> simp [h]
theorem xm (c:Command) (v q:Int):df (aG c v) q<=1:=by
 have h1:=lQ 1 c.kind q; have h2:=lQ 2 c.client q; have h3:=lQ 3 c.seq q; have h4:=lQ 4 c.set q; have h5:=lQ 5 c.id q; have h6:=lQ 6 c.n q
 have h7:=BX 7 q (bu c.chunks); have h8:=BX 8 q c.text.b
 have h0:df [] q=0:=rfl
 unfold aG c_
 split
 ·simp only [sx]; omega
 ·simp only [sx]; omega
theorem FD {l:List Field} {q:Int} (h:∀ f ∈ l,¬ f.num=q):df l q=0:=by
 unfold df
 rw [List.countP_eq_zero]
 intro f hf; simpa using h f hf
theorem JA {l:List Field} {q:Int} (k:Nat):df (l.take k) q<=df l q:=(List.take_sublist k l).countP_le
theorem Gi {v:Int} (h:1<=v/\v<=3):∀ s ∈ aR v,s.num<=bk v/\((s.num<=6/\s.wire=0)\/(7<=s.num/\s.wire=2))/\(s.need=true->s.num=1):=by
 have:v=1\/v=2\/v=3:=by omega
 rcases this with rfl | rfl | rfl <;> decide
theorem Jo {v:Int} (h:1<=v/\v<=3):¬ (aR v).length=0:=by
 have:v=1\/v=2\/v=3:=by omega
 rcases this with rfl | rfl | rfl <;> decide
theorem Jn {c:Command} {rest:List Field} {v:Int} (h:PutOk c v) (hr:∀ f ∈ rest,bk v<f.num) (hm:bG (aG c v++rest)=0):fw (aG c v++rest) v=0:=by
 refine (rH (Jo h.vr) hm ⟨fun j x hj hx s hs hn=>?_,fun j y hj hy hn=>?_⟩).symm
 ·obtain ⟨h1,h2,h3⟩:=Gi h.vr s hs
  have hx2:=List.mem_of_getElem? hx
  rcases List.mem_append.1 hx2 with hx3 | hx3
  ·have hk:=pI h hx3
   have hc:df ((aG c v++rest).take (j+1)) x.num<=1:=by
    have h4:=JA (l:=aG c v++rest) (q:=x.num) (j+1)
    have h5:=xm c v x.num
    have h6:df rest x.num=0:=FD fun f hf=>by have:=hr f hf; omega
    rw [sx] at h4; omega
   have hns:¬ (¬ x.wire=s.wire\/(1<((df ((aG c v++rest).take (j+1)) x.num:Nat):Int)/\s.many=false)):=by
    rintro (h | ⟨h,_⟩)
    ·rcases hk with hk | hk | hk <;> omega
    ·omega
   rcases hk with hk | hk | hk
   ·rw [<- Se hns hk.2.2.1]; simp only [Bool.not_eq_true',decide_eq_false_iff_not]; omega
   ·rw [<- Pa hns (by omega)]; simp only [decide_eq_true_eq]; omega
   ·rw [<- Pa hns (by omega)]; simp only [decide_eq_true_eq]; omega
  ·have:=hr x hx3; omega
 ·obtain ⟨h1,h2,h3⟩:=Gi h.vr y (List.mem_of_getElem? hy)
  rw [h3 hn]
  intro h0
  unfold df at h0
  rw [List.countP_eq_zero] at h0
  have hmem:(⟨1,0,⟨c.kind.toNat⟩,[]⟩:Field) ∈ aG c v++rest:=by
   refine List.mem_append_left _ ?_
   have:(⟨1,0,⟨c.kind.toNat⟩,[]⟩:Field) ∈ c_ c:=by
    unfold c_
    simp only [List.mem_append]
    refine .inl (.inl (.inl (.inl (.inl (.inl (.inr ?_))))))
    rw [fL,if_neg h.kind]; simp
   unfold aG; split
   ·exact List.mem_append_left _ this
   ·exact this
  exact h0 _ hmem (by simp)
theorem uI {c:Command} {v:Int} (h:PutOk c v) {f:Field} (hf:f ∈ aG c v):f.num<=bk v:=by
 have hk:=pI h hf
 rw [CX h.vr]
 have:=h.vr
 split <;> rcases hk with hk | hk | hk <;> omega
theorem EW {c:Command} {rest:List Field} {v:Int} (h:PutOk c v) (hr:∀ f ∈ rest,bk v<f.num):cS (aG c v++rest) (bk v)=aG c v/\dg (aG c v++rest) (bk v)=rest:=by
 constructor
 ·unfold cS
  rw [List.filter_append,List.filter_eq_self.2 (fun f hf=>by simpa using uI h hf),List.filter_eq_nil_iff.2 (fun f hf=>by have:=hr f hf; simp; omega),List.append_nil]
 ·unfold dg
  rw [List.filter_append,List.filter_eq_nil_iff.2 (fun f hf=>by have:=uI h hf; simp; omega),List.filter_eq_self.2 (fun f hf=>by have:=hr f hf; simp; omega),List.nil_append]
theorem mw {i n:Int} (hn:n<=9223372036854775807):∀ f ∈ fL i n,lY f:=by
 intro f hf; unfold fL at hf
 split at hf
 ·simp at hf
 ·simp only [List.mem_singleton] at hf; subst hf; show n.toNat<_; omega
theorem xt {i:Int} {b:List UInt8}:∀ f ∈ ic i b,lY f:=by
 intro f hf; unfold ic at hf
 split at hf
 ·simp only [List.mem_singleton] at hf; subst hf; show 0<_; omega
 ·simp at hf
theorem xg {c:Command} {v:Int} (hi:I6 c):∀ f ∈ aG c v,lY f:=by
 obtain ⟨i1,i2,i3,i4,i5,i6⟩:=hi
 have hN:∀ f ∈ c_ c,lY f:=by
  intro f hf
  unfold c_ at hf
  simp only [List.mem_append,List.not_mem_nil,false_or] at hf
  rcases hf with ((((((hf | hf) | hf) | hf) | hf) | hf) | hf)
  ·exact mw i1 f hf
  ·exact mw i2 f hf
  ·exact mw i3 f hf
  ·exact mw i4 f hf
  ·exact mw i5 f hf
  ·exact mw i6 f hf
  ·exact xt f hf
 intro f hf
 unfold aG at hf
 split at hf
 ·rcases List.mem_append.1 hf with hf | hf
  ·exact hN f hf
  ·exact xt f hf
 ·exact hN f hf
theorem uJ {c:Command} {rest:List Field} {v:Int} (h:bP c rest v=0) (hi:I6 c) (hu:∀ f ∈ rest,lY f):bD (cc c rest v) v=⟨c,rest,0⟩:=by
 obtain ⟨⟨hv,hfm,hr⟩,hm,hb⟩:=ja h
 have hok:=CI hv hfm
 have htl:bz (cc c rest v)=(aG c v++rest,0):=by
  rw [hb]; exact JB hm fun f hf=>(List.mem_append.1 hf).elim (xg hi f) (hu f)
 have he:hX (cc c rest v) v=0:=by rw [hX,htl]; simp only [if_true]; exact Jn hok hr hm
 obtain ⟨hk,hs⟩:=EW hok hr
 have hrd:=BL hok hi
 rw [Lk hv he (by rw [htl]; simp only; rw [hk,hs,hrd]; exact ⟨h,rfl⟩),htl]
 simp only
 rw [hk,hs,hrd]
end Go.Proofs.YtladifkbefehdaaGreat
namespace Go.Proofs.YtladifkbefehdaaGreat
open Go.RowKit
end Go.Proofs.YtladifkbefehdaaGreat
namespace Go.Proofs.YtladifkbefehdaaGreat
open Go.RowKit
end Go.Proofs.YtladifkbefehdaaGreat
