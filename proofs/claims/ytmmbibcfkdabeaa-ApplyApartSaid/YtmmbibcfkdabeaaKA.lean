/- The law: for every input it returns true, and each argument reads behind the call as it read before; and what leads there. Conditions: each lemma's own. -/
import Derived.ProofKit
import Derived.SizedLaws
import Derived.Test.YtmmbibcfkdabeaaChecked
import Derived.Test.YtmmbibcfkdabeaaRows
import Derived.Test.YtmmbibcfkdabeaaKAM4
set_option linter.unusedVariables false
set_option linter.unusedSimpArgs false
namespace Go.Proofs.Ytmmbibcfkdabeaa
open Go.RowKit
theorem DF (xs:List Int) (r0:List Int):du aL tC [] Try.f78 [.agg (jr .int (xs) 0 65)] [] [.c (.fz .int (r0))]=((fun (q1:List Int)=>(fun (q0:den Sh.int)=>I64 (xs.getD (0:Nat) q0)->I64 (xs.getD (1:Nat) q0)->I64 (xs.getD (2:Nat) q0)->I64 (xs.getD (3:Nat) q0)->I64 (xs.getD (4:Nat) q0)->I64 (xs.getD (5:Nat) q0)->I64 (xs.getD (6:Nat) q0)->I64 (xs.getD (7:Nat) q0)->I64 (xs.getD (8:Nat) q0)->I64 (xs.getD (9:Nat) q0)->I64 (xs.getD (10:Nat) q0)->I64 (xs.getD (11:Nat) q0)->I64 (xs.getD (12:Nat) q0)->I64 (xs.getD (13:Nat) q0)->I64 (xs.getD (14:Nat) q0)->I64 (xs.getD (15:Nat) q0)->I64 (xs.getD (16:Nat) q0)->I64 (xs.getD (17:Nat) q0)->I64 (xs.getD (18:Nat) q0)->I64 (xs.getD (19:Nat) q0)->I64 (xs.getD (20:Nat) q0)->I64 (xs.getD (21:Nat) q0)->I64 (xs.getD (22:Nat) q0)->I64 (xs.getD (23:Nat) q0)->I64 (xs.getD (24:Nat) q0)->I64 (xs.getD (25:Nat) q0)->I64 (xs.getD (26:Nat) q0)->I64 (xs.getD (27:Nat) q0)->I64 (xs.getD (28:Nat) q0)->I64 (xs.getD (29:Nat) q0)->I64 (xs.getD (30:Nat) q0)->I64 (xs.getD (31:Nat) q0)->I64 (xs.getD (32:Nat) q0)->I64 (xs.getD (33:Nat) q0)->I64 (xs.getD (34:Nat) q0)->I64 (xs.getD (35:Nat) q0)->I64 (xs.getD (36:Nat) q0)->I64 (xs.getD (37:Nat) q0)->I64 (xs.getD (38:Nat) q0)->I64 (xs.getD (39:Nat) q0)->I64 (xs.getD (40:Nat) q0)->I64 (xs.getD (41:Nat) q0)->I64 (xs.getD (42:Nat) q0)->I64 (xs.getD (43:Nat) q0)->I64 (xs.getD (44:Nat) q0)->I64 (xs.getD (45:Nat) q0)->I64 (xs.getD (46:Nat) q0)->I64 (xs.getD (47:Nat) q0)->I64 (xs.getD (48:Nat) q0)->I64 (xs.getD (49:Nat) q0)->I64 (xs.getD (50:Nat) q0)->I64 (xs.getD (51:Nat) q0)->I64 (xs.getD (52:Nat) q0)->I64 (xs.getD (53:Nat) q0)->I64 (xs.getD (54:Nat) q0)->I64 (xs.getD (55:Nat) q0)->I64 (xs.getD (56:Nat) q0)->I64 (xs.getD (57:Nat) q0)->I64 (xs.getD (58:Nat) q0)->I64 (xs.getD (59:Nat) q0)->I64 (xs.getD (60:Nat) q0)->I64 (xs.getD (61:Nat) q0)->I64 (xs.getD (62:Nat) q0)->I64 (xs.getD (63:Nat) q0)->I64 (xs.getD (64:Nat) q0)->q1.length*(8:Nat)<=(140737488355328:Nat)->q1=r0) (dflt Sh.int)) (fG (cX (lU Sh.int xs (0:Nat) (65:Nat))) (64:Nat))):=by kernel_rfl
theorem DD (xs:List Int) (h0:xs.length=65):Sat Try.prog (av aL) 78 [.agg (jr .int (xs) 0 65)] [] ⟨[xs.length=65],[.c (.fz .int ((fG (cX xs) 64)))],none,false⟩:=by
 refine aY lN [] Try.func78 (by decide) (by kernel_rfl) ?_
 rw [DF]
 (repeat' (first | with_reducible refine And.intro ?_ ?_ | with_reducible refine and_imp.2 ?_ | intro))
 all_goals (first | (first | with_reducible rfl | with_reducible assumption | omega | (refine aq ?_ ?_ <;> omega)) | exact (by rw [ea h0]) | exact (by rw [ea h0]; assumption))
theorem xr (l:List Snap) (id:Int) (r0:List Int):du aL tC [] Try.f81 [.c (.fz (.nm .snap) (l)),.c (.int (id))] [] [.c (.fz .int (r0))]=((fun (q3:Nat)=>(fun (q2:List Int)=>(fun (q1:den Sh.int)=>(fun (q0:List Int)=>l.length*(64:Nat)<=(140737488355328:Nat)->I64 id->nch l<=(1048576:Nat)/\(I64 (q2.getD q3 q1)->I64 (q2.getD (1:Nat) q1)->I64 (q2.getD (2:Nat) q1)->I64 (q2.getD (3:Nat) q1)->I64 (q2.getD (4:Nat) q1)->I64 (q2.getD (5:Nat) q1)->I64 (q2.getD (6:Nat) q1)->I64 (q2.getD (7:Nat) q1)->I64 (q2.getD (8:Nat) q1)->I64 (q2.getD (9:Nat) q1)->I64 (q2.getD (10:Nat) q1)->I64 (q2.getD (11:Nat) q1)->I64 (q2.getD (12:Nat) q1)->I64 (q2.getD (13:Nat) q1)->I64 (q2.getD (14:Nat) q1)->I64 (q2.getD (15:Nat) q1)->I64 (q2.getD (16:Nat) q1)->I64 (q2.getD (17:Nat) q1)->I64 (q2.getD (18:Nat) q1)->I64 (q2.getD (19:Nat) q1)->I64 (q2.getD (20:Nat) q1)->I64 (q2.getD (21:Nat) q1)->I64 (q2.getD (22:Nat) q1)->I64 (q2.getD (23:Nat) q1)->I64 (q2.getD (24:Nat) q1)->I64 (q2.getD (25:Nat) q1)->I64 (q2.getD (26:Nat) q1)->I64 (q2.getD (27:Nat) q1)->I64 (q2.getD (28:Nat) q1)->I64 (q2.getD (29:Nat) q1)->I64 (q2.getD (30:Nat) q1)->I64 (q2.getD (31:Nat) q1)->I64 (q2.getD (32:Nat) q1)->I64 (q2.getD (33:Nat) q1)->I64 (q2.getD (34:Nat) q1)->I64 (q2.getD (35:Nat) q1)->I64 (q2.getD (36:Nat) q1)->I64 (q2.getD (37:Nat) q1)->I64 (q2.getD (38:Nat) q1)->I64 (q2.getD (39:Nat) q1)->I64 (q2.getD (40:Nat) q1)->I64 (q2.getD (41:Nat) q1)->I64 (q2.getD (42:Nat) q1)->I64 (q2.getD (43:Nat) q1)->I64 (q2.getD (44:Nat) q1)->I64 (q2.getD (45:Nat) q1)->I64 (q2.getD (46:Nat) q1)->I64 (q2.getD (47:Nat) q1)->I64 (q2.getD (48:Nat) q1)->I64 (q2.getD (49:Nat) q1)->I64 (q2.getD (50:Nat) q1)->I64 (q2.getD (51:Nat) q1)->I64 (q2.getD (52:Nat) q1)->I64 (q2.getD (53:Nat) q1)->I64 (q2.getD (54:Nat) q1)->I64 (q2.getD (55:Nat) q1)->I64 (q2.getD (56:Nat) q1)->I64 (q2.getD (57:Nat) q1)->I64 (q2.getD (58:Nat) q1)->I64 (q2.getD (59:Nat) q1)->I64 (q2.getD (60:Nat) q1)->I64 (q2.getD (61:Nat) q1)->I64 (q2.getD (62:Nat) q1)->I64 (q2.getD (63:Nat) q1)->I64 (q2.getD (64:Nat) q1)->nch (aX id l)<=(1048576:Nat)/\(I64 (q0.getD q3 q1)->I64 (q0.getD (1:Nat) q1)->I64 (q0.getD (2:Nat) q1)->I64 (q0.getD (3:Nat) q1)->I64 (q0.getD (4:Nat) q1)->I64 (q0.getD (5:Nat) q1)->I64 (q0.getD (6:Nat) q1)->I64 (q0.getD (7:Nat) q1)->I64 (q0.getD (8:Nat) q1)->I64 (q0.getD (9:Nat) q1)->I64 (q0.getD (10:Nat) q1)->I64 (q0.getD (11:Nat) q1)->I64 (q0.getD (12:Nat) q1)->I64 (q0.getD (13:Nat) q1)->I64 (q0.getD (14:Nat) q1)->I64 (q0.getD (15:Nat) q1)->I64 (q0.getD (16:Nat) q1)->I64 (q0.getD (17:Nat) q1)->I64 (q0.getD (18:Nat) q1)->I64 (q0.getD (19:Nat) q1)->I64 (q0.getD (20:Nat) q1)->I64 (q0.getD (21:Nat) q1)->I64 (q0.getD (22:Nat) q1)->I64 (q0.getD (23:Nat) q1)->I64 (q0.getD (24:Nat) q1)->I64 (q0.getD (25:Nat) q1)->I64 (q0.getD (26:Nat) q1)->I64 (q0.getD (27:Nat) q1)->I64 (q0.getD (28:Nat) q1)->I64 (q0.getD (29:Nat) q1)->I64 (q0.getD (30:Nat) q1)->I64 (q0.getD (31:Nat) q1)->I64 (q0.getD (32:Nat) q1)->I64 (q0.getD (33:Nat) q1)->I64 (q0.getD (34:Nat) q1)->I64 (q0.getD (35:Nat) q1)->I64 (q0.getD (36:Nat) q1)->I64 (q0.getD (37:Nat) q1)->I64 (q0.getD (38:Nat) q1)->I64 (q0.getD (39:Nat) q1)->I64 (q0.getD (40:Nat) q1)->I64 (q0.getD (41:Nat) q1)->I64 (q0.getD (42:Nat) q1)->I64 (q0.getD (43:Nat) q1)->I64 (q0.getD (44:Nat) q1)->I64 (q0.getD (45:Nat) q1)->I64 (q0.getD (46:Nat) q1)->I64 (q0.getD (47:Nat) q1)->I64 (q0.getD (48:Nat) q1)->I64 (q0.getD (49:Nat) q1)->I64 (q0.getD (50:Nat) q1)->I64 (q0.getD (51:Nat) q1)->I64 (q0.getD (52:Nat) q1)->I64 (q0.getD (53:Nat) q1)->I64 (q0.getD (54:Nat) q1)->I64 (q0.getD (55:Nat) q1)->I64 (q0.getD (56:Nat) q1)->I64 (q0.getD (57:Nat) q1)->I64 (q0.getD (58:Nat) q1)->I64 (q0.getD (59:Nat) q1)->I64 (q0.getD (60:Nat) q1)->I64 (q0.getD (61:Nat) q1)->I64 (q0.getD (62:Nat) q1)->I64 (q0.getD (63:Nat) q1)->I64 (q0.getD (64:Nat) q1)->(fG (cV (lU Sh.int q2 q3 (65:Nat)) (lU Sh.int q0 q3 (65:Nat))) (64:Nat)).length*(8:Nat)<=(140737488355328:Nat)->fG (cV (lU Sh.int q2 q3 (65:Nat)) (lU Sh.int q0 q3 (65:Nat))) (64:Nat)=r0))) (bC (aX id l))) (dflt Sh.int)) (bC l)) (0:Nat)):=by kernel_rfl
theorem xj (l:List Snap) (id:Int) (h0:nch l<=1048576):Sat Try.prog (av aL) 81 [.c (.fz (.nm .snap) (l)),.c (.int (id))] [] ⟨[nch l<=1048576],[.c (.fz .int ((fx l id)))],none,false⟩:=by
 refine aY lN [] Try.func81 (by decide) (by kernel_rfl) ?_
 rw [xr]
 (repeat' (first | with_reducible refine And.intro ?_ ?_ | with_reducible refine and_imp.2 ?_ | intro))
 all_goals (first | (first | with_reducible rfl | with_reducible assumption | omega | (refine aq ?_ ?_ <;> omega)) | exact (Ef (by assumption)) | exact (by rw [ea (dP _),ea (dP _)]; exact xd _ _ _ rfl))
def uJ:cY:=(bX 81 (bR (ak (kC (cL (.nm .snap))) (ak (kC cI) aU)) aR fun (l,id,_) (_)=>⟨[nch l<=1048576],[.c (.fz .int ((fx l id)))],none,false⟩) (bX 78 (bR (ak (kA .int 65) aU) aR fun (xs,_) (_)=>⟨[xs.length=65],[.c (.fz .int ((fG (cX xs) 64)))],none,false⟩) tC))
theorem lK:bf Try.prog (av aL) uJ:=(aC (aB (ae (aw bV) (ae (aw ax) ao)) al fun (l,id,_) (_) hp=>xj l id (eO hp)) (aC (aB (ae FL ao) al fun (xs,_) (_) hp=>DD xs (eO hp)) lN))
end Go.Proofs.Ytmmbibcfkdabeaa
namespace Go.Proofs.Ytmmbibcfkdabeaa
open Go.RowKit
theorem pV (l:List Snap) (r0:Int):du aL uJ [] Try.f54 [.c (.fz (.nm .snap) (l))] [] [.c (.int (r0))]=((fun (q1:den Sh.int)=>(fun (q0:List Int)=>l.length*(64:Nat)<=(140737488355328:Nat)->nch l<=(1048576:Nat)/\(I64 (q0.getD (0:Nat) q1)->I64 (q0.getD (1:Nat) q1)->I64 (q0.getD (2:Nat) q1)->I64 (q0.getD (3:Nat) q1)->I64 (q0.getD (4:Nat) q1)->I64 (q0.getD (5:Nat) q1)->I64 (q0.getD (6:Nat) q1)->I64 (q0.getD (7:Nat) q1)->I64 (q0.getD (8:Nat) q1)->I64 (q0.getD (9:Nat) q1)->I64 (q0.getD (10:Nat) q1)->I64 (q0.getD (11:Nat) q1)->I64 (q0.getD (12:Nat) q1)->I64 (q0.getD (13:Nat) q1)->I64 (q0.getD (14:Nat) q1)->I64 (q0.getD (15:Nat) q1)->I64 (q0.getD (16:Nat) q1)->I64 (q0.getD (17:Nat) q1)->I64 (q0.getD (18:Nat) q1)->I64 (q0.getD (19:Nat) q1)->I64 (q0.getD (20:Nat) q1)->I64 (q0.getD (21:Nat) q1)->I64 (q0.getD (22:Nat) q1)->I64 (q0.getD (23:Nat) q1)->I64 (q0.getD (24:Nat) q1)->I64 (q0.getD (25:Nat) q1)->I64 (q0.getD (26:Nat) q1)->I64 (q0.getD (27:Nat) q1)->I64 (q0.getD (28:Nat) q1)->I64 (q0.getD (29:Nat) q1)->I64 (q0.getD (30:Nat) q1)->I64 (q0.getD (31:Nat) q1)->I64 (q0.getD (32:Nat) q1)->I64 (q0.getD (33:Nat) q1)->I64 (q0.getD (34:Nat) q1)->I64 (q0.getD (35:Nat) q1)->I64 (q0.getD (36:Nat) q1)->I64 (q0.getD (37:Nat) q1)->I64 (q0.getD (38:Nat) q1)->I64 (q0.getD (39:Nat) q1)->I64 (q0.getD (40:Nat) q1)->I64 (q0.getD (41:Nat) q1)->I64 (q0.getD (42:Nat) q1)->I64 (q0.getD (43:Nat) q1)->I64 (q0.getD (44:Nat) q1)->I64 (q0.getD (45:Nat) q1)->I64 (q0.getD (46:Nat) q1)->I64 (q0.getD (47:Nat) q1)->I64 (q0.getD (48:Nat) q1)->I64 (q0.getD (49:Nat) q1)->I64 (q0.getD (50:Nat) q1)->I64 (q0.getD (51:Nat) q1)->I64 (q0.getD (52:Nat) q1)->I64 (q0.getD (53:Nat) q1)->I64 (q0.getD (54:Nat) q1)->I64 (q0.getD (55:Nat) q1)->I64 (q0.getD (56:Nat) q1)->I64 (q0.getD (57:Nat) q1)->I64 (q0.getD (58:Nat) q1)->I64 (q0.getD (59:Nat) q1)->I64 (q0.getD (60:Nat) q1)->I64 (q0.getD (61:Nat) q1)->I64 (q0.getD (62:Nat) q1)->I64 (q0.getD (63:Nat) q1)->I64 (q0.getD (64:Nat) q1)->(lU Sh.int q0 (0:Nat) (65:Nat)).length=(65:Nat)/\((fG (cX (lU Sh.int q0 (0:Nat) (65:Nat))) (64:Nat)).length*(8:Nat)<=(140737488355328:Nat)->(↑(fG (cX (lU Sh.int q0 (0:Nat) (65:Nat))) (64:Nat)).length:Int)=r0))) (bC l)) (dflt Sh.int)):=by kernel_rfl
theorem rm (l:List Snap) (h0:nch l<=1048576):Sat Try.prog (av aL) 54 [.c (.fz (.nm .snap) (l))] [] ⟨[nch l<=1048576],[.c (.int (((distF l:Int))))],none,false⟩:=by
 refine aY lK [] Try.func54 (by decide) (by kernel_rfl) ?_
 rw [pV]
 (repeat' (first | with_reducible refine And.intro ?_ ?_ | with_reducible refine and_imp.2 ?_ | intro))
 all_goals (first | (first | with_reducible rfl | with_reducible assumption | omega | (refine aq ?_ ?_ <;> omega)) | exact (kI 65 0) | exact (by rw [ea (dP _)]; exact tz _))
theorem AK (l:List Snap) (m:List Int) (r0:Int):du aL uJ [] Try.f76 [.c (.fz (.nm .snap) (l)),.c (.fz .int (m))] [] [.c (.int (r0))]=((fun (q3:Nat)=>(fun (q2:Nat)=>(fun (q1:den Sh.int)=>(fun (q0:List Int)=>l.length*(64:Nat)<=(140737488355328:Nat)->m.length*(8:Nat)<=(140737488355328:Nat)->nch l<=(1048576:Nat)/\(I64 (q0.getD q2 q1)->I64 (q0.getD (1:Nat) q1)->I64 (q0.getD (2:Nat) q1)->I64 (q0.getD (3:Nat) q1)->I64 (q0.getD (4:Nat) q1)->I64 (q0.getD (5:Nat) q1)->I64 (q0.getD (6:Nat) q1)->I64 (q0.getD (7:Nat) q1)->I64 (q0.getD (8:Nat) q1)->I64 (q0.getD (9:Nat) q1)->I64 (q0.getD (10:Nat) q1)->I64 (q0.getD (11:Nat) q1)->I64 (q0.getD (12:Nat) q1)->I64 (q0.getD (13:Nat) q1)->I64 (q0.getD (14:Nat) q1)->I64 (q0.getD (15:Nat) q1)->I64 (q0.getD (16:Nat) q1)->I64 (q0.getD (17:Nat) q1)->I64 (q0.getD (18:Nat) q1)->I64 (q0.getD (19:Nat) q1)->I64 (q0.getD (20:Nat) q1)->I64 (q0.getD (21:Nat) q1)->I64 (q0.getD (22:Nat) q1)->I64 (q0.getD (23:Nat) q1)->I64 (q0.getD (24:Nat) q1)->I64 (q0.getD (25:Nat) q1)->I64 (q0.getD (26:Nat) q1)->I64 (q0.getD (27:Nat) q1)->I64 (q0.getD (28:Nat) q1)->I64 (q0.getD (29:Nat) q1)->I64 (q0.getD (30:Nat) q1)->I64 (q0.getD (31:Nat) q1)->I64 (q0.getD (32:Nat) q1)->I64 (q0.getD (33:Nat) q1)->I64 (q0.getD (34:Nat) q1)->I64 (q0.getD (35:Nat) q1)->I64 (q0.getD (36:Nat) q1)->I64 (q0.getD (37:Nat) q1)->I64 (q0.getD (38:Nat) q1)->I64 (q0.getD (39:Nat) q1)->I64 (q0.getD (40:Nat) q1)->I64 (q0.getD (41:Nat) q1)->I64 (q0.getD (42:Nat) q1)->I64 (q0.getD (43:Nat) q1)->I64 (q0.getD (44:Nat) q1)->I64 (q0.getD (45:Nat) q1)->I64 (q0.getD (46:Nat) q1)->I64 (q0.getD (47:Nat) q1)->I64 (q0.getD (48:Nat) q1)->I64 (q0.getD (49:Nat) q1)->I64 (q0.getD (50:Nat) q1)->I64 (q0.getD (51:Nat) q1)->I64 (q0.getD (52:Nat) q1)->I64 (q0.getD (53:Nat) q1)->I64 (q0.getD (54:Nat) q1)->I64 (q0.getD (55:Nat) q1)->I64 (q0.getD (56:Nat) q1)->I64 (q0.getD (57:Nat) q1)->I64 (q0.getD (58:Nat) q1)->I64 (q0.getD (59:Nat) q1)->I64 (q0.getD (60:Nat) q1)->I64 (q0.getD (61:Nat) q1)->I64 (q0.getD (62:Nat) q1)->I64 (q0.getD (63:Nat) q1)->I64 (q0.getD (64:Nat) q1)->(∀ (i:Nat),(fun (q4:Int)=>(0:Int)<=q4/\q4+(↑m.length:Int)<=(4611686018427387904:Int)) ((lU Sh.int q0 q2 q3).getD i (0:Int)))/\(lU Sh.int (cz (lU Sh.int q0 q2 q3) m) q2 q3).length=q3/\((fG (cX (lU Sh.int (cz (lU Sh.int q0 q2 q3) m) q2 q3)) (64:Nat)).length*(8:Nat)<=(140737488355328:Nat)->(↑(fG (cX (lU Sh.int (cz (lU Sh.int q0 q2 q3) m) q2 q3)) (64:Nat)).length:Int)=r0))) (bC l)) (dflt Sh.int)) (0:Nat)) (65:Nat)):=by kernel_rfl
theorem By (l:List Snap) (m:List Int) (h0:nch l<=1048576):Sat Try.prog (av aL) 76 [.c (.fz (.nm .snap) (l)),.c (.fz .int (m))] [] ⟨[nch l<=1048576],[.c (.int (((distF (l++[⟨0,0,m,false,⟨[]⟩⟩]):Int))))],none,false⟩:=by
 refine aY lK [] Try.func76 (by decide) (by kernel_rfl) ?_
 rw [AK]
 (repeat' (first | with_reducible refine And.intro ?_ ?_ | with_reducible refine and_imp.2 ?_ | intro))
 all_goals (first | (first | with_reducible rfl | with_reducible assumption | omega | (refine aq ?_ ?_ <;> omega)) | exact (kI 65 0) | exact (tD (s:=.int) (by assumption) (by assumption) _).1 | exact (tD (s:=.int) (by assumption) (by assumption) _).2 | exact (by rw [ea (s:=.int) (xs:=cz _ _) (by rw [mH,kI]),ea (dP l)]; have:=tz (l++[Snap.mk 0 0 m false ⟨[]⟩]); rw [fO] at this; exact this))
def iM:cY:=(bX 76 (bR (ak (kC (cL (.nm .snap))) (ak (kC (cL .int)) aU)) aR fun (l,m,_) (_)=>⟨[nch l<=1048576],[.c (.int (((distF (l++[⟨0,0,m,false,⟨[]⟩⟩]):Int))))],none,false⟩) (bX 54 (bR (ak (kC (cL (.nm .snap))) aU) aR fun (l,_) (_)=>⟨[nch l<=1048576],[.c (.int (((distF l:Int))))],none,false⟩) uJ))
theorem dH:bf Try.prog (av aL) iM:=(aC (aB (ae (aw bV) (ae (aw bV) ao)) al fun (l,m,_) (_) hp=>By l m (eO hp)) (aC (aB (ae (aw bV) ao) al fun (l,_) (_) hp=>rm l (eO hp)) lK))
end Go.Proofs.Ytmmbibcfkdabeaa
namespace Go.Proofs.Ytmmbibcfkdabeaa
open Go.RowKit
def ek {α:Type} (l:List α) (i:Nat) (x:α):List α:=l.take i++x :: l.drop i
def mS {α:Type} (l:List α) (i:Int):List α:=l.take i.toNat++l.drop (i+1).toNat
def bc (s:State) (c:Command):Int:=if 0<=ah Opn.set c.set s.opens/\¬ (s.opens.getD (ah Opn.set c.set s.opens).toNat (dflt (.nm .opn))).client=c.client then -1 else ah Opn.set c.set s.opens
def aP (s:State) (c:Command):State × Reply:=if 0<=ah Opn.set c.set s.opens then (s,⟨16,(s.opens.getD (ah Opn.set c.set s.opens).toNat (dflt (.nm .opn))).client⟩)
 else ({ s with opens:=ek s.opens (s.opens.takeWhile fun y=>decide (y.set<c.set)).length ⟨c.set,c.client⟩ },⟨0,0⟩)
def aT (s:State) (c:Command):State × Reply:=if bc s c<0 then (s,⟨15,0⟩) else ({ s with opens:=mS s.opens (bc s c) },⟨0,0⟩)
def aN (s:State) (c:Command):State × Reply:=
 if bc s c<0 then (s,⟨15,0⟩)
 else if 16<=(s.snaps.length:Int)\/1048576<=s.next then (s,⟨20,0⟩)
 else if ¬ s.quota=0/\s.quota<(distF (s.snaps++[⟨0,0,c.chunks,false,⟨[]⟩⟩]):Int) then (s,⟨19,0⟩)
 else ({ s with next:=s.next+1,opens:=mS s.opens (bc s c),snaps:=s.snaps++[⟨s.next,c.set,c.chunks,false,⟨[]⟩⟩] },⟨0,s.next⟩)
def aK (s:State) (at_:Nat):State × Reply:=
 if (s.snaps.getD at_ (dflt (.nm .snap))).held=true then (s,⟨17,0⟩)
 else if iK s at_=true then (s,⟨18,0⟩)
 else ({ s with snaps:=aX (s.snaps.getD at_ (dflt (.nm .snap))).id s.snaps },⟨0,(fx s.snaps (s.snaps.getD at_ (dflt (.nm .snap))).id).length⟩)
def bb (s:State) (at_:Nat):State × Reply:=(s,⟨0,(s.snaps.getD at_ (dflt (.nm .snap))).chunks.length⟩)
def bn (b:Bool) (s:State) (at_:Nat):State × Reply:=
 if (s.snaps.getD at_ (dflt (.nm .snap))).held=b then (s,⟨0,0⟩)
 else ({ s with snaps:=s.snaps.set at_ { s.snaps.getD at_ (dflt (.nm .snap)) with held:=b } },⟨0,1⟩)
def ct (c:Command) (s:State) (at_:Nat):State × Reply:=({ s with snaps:=s.snaps.set at_ { s.snaps.getD at_ (dflt (.nm .snap)) with tag:=c.text } },⟨0,0⟩)
def cN (c:Command) (s:State):State × Reply:=({ s with keep:=c.n },⟨0,0⟩)
def cn (c:Command) (s:State):State × Reply:=({ s with quota:=c.n },⟨0,distF s.snaps⟩)
theorem bj {α:Type} {key:α->Int} {want:Int} {l:List α} (h:0<=ah key want l):ah key want l<(l.length:Int):=by
 unfold ah at *
 split
 ·rename_i i hi
  have:=(List.findIdx?_eq_some_iff_getElem.1 hi).1
  omega
 ·omega
theorem wD {s:State} {c:Command} (h:0<=bc s c):bc s c+1<=(s.opens.length:Int):=by
 unfold bc at *
 split
 ·rename_i h1; rw [if_pos h1] at h; omega
 ·rename_i h1; rw [if_neg h1] at h
  have:=bj h
  omega
theorem vG (i:Int) (m:List Opn) (l:List Opn) (h0:0<=i/\i<=(l.length:Int)) (h1:l.length<1048576) (h2:m.length=1):Sat Try.prog (av aL) 74 [.c (.own 0),.c (.int (i)),.c (.fz (.nm .opn) (m))] [.row 51 (.nm .opn) (l)] ⟨[0<=i/\i<=(l.length:Int),l.length<1048576,m.length=1],[.c (.own 0)],some ([.row 51 (.nm .opn) ((l.take i.toNat++m++l.drop i.toNat))]),false⟩:=oI i l m h0 h1 h2
theorem tk (i:Int) (l:List Sess) (m:List Sess) (h0:0<=i/\i<=(l.length:Int)) (h1:l.length<1048576) (h2:m.length=1):Sat Try.prog (av aL) 31 [.c (.own 0),.c (.int (i)),.c (.own 1)] [.row 42 (.nm .sess) (l),.row 42 (.nm .sess) (m)] ⟨[0<=i/\i<=(l.length:Int),l.length<1048576,m.length=1],[.c (.own 0)],some ([.row 42 (.nm .sess) ((l.take i.toNat++m++l.drop i.toNat)),.row 42 (.nm .sess) ((m))]),false⟩:=pE i l m h0 h1 h2
theorem we (i:Int) (j:Int) (l:List Opn) (h0:0<=i/\i<(l.length:Int)/\j=i+1):Sat Try.prog (av aL) 77 [.c (.own 0),.c (.int (i)),.c (.int (j))] [.row 51 (.nm .opn) (l)] ⟨[0<=i/\i<(l.length:Int)/\j=i+1],[.c (.own 0)],some ([.row 51 (.nm .opn) ((l.take i.toNat++l.drop j.toNat))]),false⟩:=rE i j l h0
theorem v_ (c:Command) (v:Int) (nx:Int) (kp:Int) (qt:Int) (se:List Sess) (op:List Opn) (sn:List Snap) (r0:Int):du aL iM [] Try.f75 [.c (.ptr 0 0),.agg (cellsOf (.nm .command) c)] [.box 26 ([.int (v),.int (nx),.int (kp),.int (qt),.own 1,.own 2,.own 3]),.row 42 (.nm .sess) (se),.row 51 (.nm .opn) (op),.row 46 (.nm .snap) (sn)] [.c (.int (r0))]=((fun (q0:Int)=>I64 c.kind->I64 c.client->I64 c.seq->I64 c.set->I64 c.id->I64 c.n->c.chunks.length*(8:Nat)<=(140737488355328:Nat)->c.text.b.length<=(140737488355328:Nat)->I64 q0->((0:Int)<=q0->(0:Int)<=q0/\q0<(↑op.length:Int))/\(((0:Int)<=q0->I64 (op.getD q0.toNat (dflt (Sh.nm NT.opn))).set/\I64 (op.getD q0.toNat (dflt (Sh.nm NT.opn))).client)->((0:Int)<=q0/\¬(op.getD q0.toNat (dflt (Sh.nm NT.opn))).client=c.client->(-1:Int)=r0)/\(q0<(0:Int)\/(op.getD q0.toNat (dflt (Sh.nm NT.opn))).client=c.client->q0=r0))) (ah Opn.set c.set op)):=by kernel_rfl
theorem vk (c:Command) (v:Int) (nx:Int) (kp:Int) (qt:Int) (se:List Sess) (op:List Opn) (sn:List Snap):Sat Try.prog (av aL) 75 [.c (.ptr 0 0),.agg (cellsOf (.nm .command) c)] [.box 26 ([.int (v),.int (nx),.int (kp),.int (qt),.own 1,.own 2,.own 3]),.row 42 (.nm .sess) (se),.row 51 (.nm .opn) (op),.row 46 (.nm .snap) (sn)] ⟨[],[.c (.int ((bc (State.mk v nx kp qt se op sn) c)))],none,false⟩:=by
 refine aY dH [] Try.func75 (by decide) (by kernel_rfl) ?_
 rw [v_]
 (repeat' (first | with_reducible refine And.intro ?_ ?_ | with_reducible refine and_imp.2 ?_ | intro))
 all_goals (first | (first | with_reducible rfl | with_reducible assumption | omega | (refine aq ?_ ?_ <;> omega)) | exact bj (by with_reducible assumption) | (unfold bc; grind))
theorem DC (c:Command) (v:Int) (nx:Int) (kp:Int) (qt:Int) (se:List Sess) (op:List Opn) (sn:List Snap) (r0:Reply) (r1:Command) (r2:Int) (r3:Int) (r4:Int) (r5:Int) (r6:List Sess) (r7:List Opn) (r8:List Snap):nK aL iM [] Try.f52 [.c (.ptr 0 0),.c (.ptr 1 0)] [.box 29 (cellsOf (.nm .command) (c)),.box 26 ([.int (v),.int (nx),.int (kp),.int (qt),.own 2,.own 3,.own 4]),.row 42 (.nm .sess) (se),.row 51 (.nm .opn) (op),.row 46 (.nm .snap) (sn)] [.agg (cellsOf (.nm .reply) r0)] [.box 29 (cellsOf (.nm .command) (r1)),.box 26 ([.int (r2),.int (r3),.int (r4),.int (r5),.own 2,.own 3,.own 4]),.row 42 (.nm .sess) (r6),.row 51 (.nm .opn) (r7),.row 46 (.nm .snap) (r8)]=((0:Int)=r0.code/\(0:Int)=r0.n/\c.kind=r1.kind/\c.client=r1.client/\c.seq=r1.seq/\c.set=r1.set/\c.id=r1.id/\c.n=r1.n/\c.chunks=r1.chunks/\c.text=r1.text/\v=r2/\nx=r3/\c.n=r4/\qt=r5/\se=r6/\op=r7/\sn=r8):=by kernel_rfl
theorem Da (c:Command) (v:Int) (nx:Int) (kp:Int) (qt:Int) (se:List Sess) (op:List Opn) (sn:List Snap):Sat Try.prog (av aL) 52 [.c (.ptr 0 0),.c (.ptr 1 0)] [.box 29 (cellsOf (.nm .command) (c)),.box 26 ([.int (v),.int (nx),.int (kp),.int (qt),.own 2,.own 3,.own 4]),.row 42 (.nm .sess) (se),.row 51 (.nm .opn) (op),.row 46 (.nm .snap) (sn)] ⟨[],[.agg (cellsOf (.nm .reply) ((cN c (State.mk v nx kp qt se op sn)).2))],some ([.box 29 (cellsOf (.nm .command) ((c))),.box 26 ([.int ((((cN c (State.mk v nx kp qt se op sn)).1).version)),.int ((((cN c (State.mk v nx kp qt se op sn)).1).next)),.int ((((cN c (State.mk v nx kp qt se op sn)).1).keep)),.int ((((cN c (State.mk v nx kp qt se op sn)).1).quota)),.own 2,.own 3,.own 4]),.row 42 (.nm .sess) ((((cN c (State.mk v nx kp qt se op sn)).1).sess)),.row 51 (.nm .opn) ((((cN c (State.mk v nx kp qt se op sn)).1).opens)),.row 46 (.nm .snap) ((((cN c (State.mk v nx kp qt se op sn)).1).snaps))]),false⟩:=by
 refine dp dH [] Try.func52 (by decide) (by kernel_rfl) ?_
 rw [DC]
 (repeat' (first | with_reducible refine And.intro ?_ ?_ | with_reducible refine and_imp.2 ?_ | intro))
 all_goals (first | (first | with_reducible rfl | with_reducible assumption | omega | (refine aq ?_ ?_ <;> omega)) | exact rfl)
theorem El (c:Command) (v:Int) (nx:Int) (kp:Int) (qt:Int) (se:List Sess) (op:List Opn) (sn:List Snap) (r0:Reply) (r1:Command) (r2:Int) (r3:Int) (r4:Int) (r5:Int) (r6:List Sess) (r7:List Opn) (r8:List Snap):nK aL iM [] Try.f53 [.c (.ptr 0 0),.c (.ptr 1 0)] [.box 29 (cellsOf (.nm .command) (c)),.box 26 ([.int (v),.int (nx),.int (kp),.int (qt),.own 2,.own 3,.own 4]),.row 42 (.nm .sess) (se),.row 51 (.nm .opn) (op),.row 46 (.nm .snap) (sn)] [.agg (cellsOf (.nm .reply) r0)] [.box 29 (cellsOf (.nm .command) (r1)),.box 26 ([.int (r2),.int (r3),.int (r4),.int (r5),.own 2,.own 3,.own 4]),.row 42 (.nm .sess) (r6),.row 51 (.nm .opn) (r7),.row 46 (.nm .snap) (r8)]=(nch sn<=(1048576:Nat)/\(I64 (↑(distF sn):Int)->(0:Int)=r0.code/\(↑(distF sn):Int)=r0.n/\c.kind=r1.kind/\c.client=r1.client/\c.seq=r1.seq/\c.set=r1.set/\c.id=r1.id/\c.n=r1.n/\c.chunks=r1.chunks/\c.text=r1.text/\v=r2/\nx=r3/\kp=r4/\c.n=r5/\se=r6/\op=r7/\sn=r8)):=by kernel_rfl
theorem DN (c:Command) (v:Int) (nx:Int) (kp:Int) (qt:Int) (se:List Sess) (op:List Opn) (sn:List Snap) (h0:nch sn<=1048576):Sat Try.prog (av aL) 53 [.c (.ptr 0 0),.c (.ptr 1 0)] [.box 29 (cellsOf (.nm .command) (c)),.box 26 ([.int (v),.int (nx),.int (kp),.int (qt),.own 2,.own 3,.own 4]),.row 42 (.nm .sess) (se),.row 51 (.nm .opn) (op),.row 46 (.nm .snap) (sn)] ⟨[nch sn<=1048576],[.agg (cellsOf (.nm .reply) ((cn c (State.mk v nx kp qt se op sn)).2))],some ([.box 29 (cellsOf (.nm .command) ((c))),.box 26 ([.int ((((cn c (State.mk v nx kp qt se op sn)).1).version)),.int ((((cn c (State.mk v nx kp qt se op sn)).1).next)),.int ((((cn c (State.mk v nx kp qt se op sn)).1).keep)),.int ((((cn c (State.mk v nx kp qt se op sn)).1).quota)),.own 2,.own 3,.own 4]),.row 42 (.nm .sess) ((((cn c (State.mk v nx kp qt se op sn)).1).sess)),.row 51 (.nm .opn) ((((cn c (State.mk v nx kp qt se op sn)).1).opens)),.row 46 (.nm .snap) ((((cn c (State.mk v nx kp qt se op sn)).1).snaps))]),false⟩:=by
 refine dp dH [] Try.func53 (by decide) (by kernel_rfl) ?_
 rw [El]
 (repeat' (first | with_reducible refine And.intro ?_ ?_ | with_reducible refine and_imp.2 ?_ | intro))
 all_goals (first | (first | with_reducible rfl | with_reducible assumption | omega | (refine aq ?_ ?_ <;> omega)) | exact rfl)
theorem AG (i:Int) (v:Int) (nx:Int) (kp:Int) (qt:Int) (se:List Sess) (op:List Opn) (sn:List Snap) (r0:Reply) (r1:Int) (r2:Int) (r3:Int) (r4:Int) (r5:List Sess) (r6:List Opn) (r7:List Snap):nK aL iM [] Try.f56 [.c (.ptr 0 0),.c (.int (i))] [.box 26 ([.int (v),.int (nx),.int (kp),.int (qt),.own 1,.own 2,.own 3]),.row 42 (.nm .sess) (se),.row 51 (.nm .opn) (op),.row 46 (.nm .snap) (sn)] [.agg (cellsOf (.nm .reply) r0)] [.box 26 ([.int (r1),.int (r2),.int (r3),.int (r4),.own 1,.own 2,.own 3]),.row 42 (.nm .sess) (r5),.row 51 (.nm .opn) (r6),.row 46 (.nm .snap) (r7)]=((fun (q2:Bool)=>(fun (q1:Prop)=>(fun (q0:den (Sh.nm NT.snap))=>I64 i->(0:Int)<=i/\i<(↑sn.length:Int)/\(I64 q0.id->I64 q0.set->q0.chunks.length*(8:Nat)<=(140737488355328:Nat)->q0.tag.b.length<=(140737488355328:Nat)->(q0.held=true->I64 (17:Int)->I64 (0:Int)->(17:Int)=r0.code/\q1)/\(q0.held=false->(q2=true->I64 (18:Int)->I64 (0:Int)->(18:Int)=r0.code/\q1)/\(q2=false->nch sn<=(1048576:Nat)/\((fx sn q0.id).length*(8:Nat)<=(140737488355328:Nat)->(0:Int)=r0.code/\(↑(fx sn q0.id).length:Int)=r0.n/\v=r1/\nx=r2/\kp=r3/\qt=r4/\se=r5/\op=r6/\aX q0.id sn=r7))))) (sn.getD i.toNat (dflt (Sh.nm NT.snap)))) ((0:Int)=r0.n/\v=r1/\nx=r2/\kp=r3/\qt=r4/\se=r5/\op=r6/\sn=r7)) (iK (State.mk v nx kp qt se op sn) i)):=by kernel_rfl
theorem Av (i:Int) (v:Int) (nx:Int) (kp:Int) (qt:Int) (se:List Sess) (op:List Opn) (sn:List Snap) (h0:0<=i/\i<(sn.length:Int)) (h1:nch sn<=1048576):Sat Try.prog (av aL) 56 [.c (.ptr 0 0),.c (.int (i))] [.box 26 ([.int (v),.int (nx),.int (kp),.int (qt),.own 1,.own 2,.own 3]),.row 42 (.nm .sess) (se),.row 51 (.nm .opn) (op),.row 46 (.nm .snap) (sn)] ⟨[0<=i/\i<(sn.length:Int),nch sn<=1048576],[.agg (cellsOf (.nm .reply) ((aK (State.mk v nx kp qt se op sn) i.toNat).2))],some ([.box 26 ([.int ((((aK (State.mk v nx kp qt se op sn) i.toNat).1).version)),.int ((((aK (State.mk v nx kp qt se op sn) i.toNat).1).next)),.int ((((aK (State.mk v nx kp qt se op sn) i.toNat).1).keep)),.int ((((aK (State.mk v nx kp qt se op sn) i.toNat).1).quota)),.own 1,.own 2,.own 3]),.row 42 (.nm .sess) ((((aK (State.mk v nx kp qt se op sn) i.toNat).1).sess)),.row 51 (.nm .opn) ((((aK (State.mk v nx kp qt se op sn) i.toNat).1).opens)),.row 46 (.nm .snap) ((((aK (State.mk v nx kp qt se op sn) i.toNat).1).snaps))]),false⟩:=by
 refine dp dH [] Try.func56 (by decide) (by kernel_rfl) ?_
 rw [AG]
 have hi:((i.toNat:Nat):Int)=i:=by omega
 (repeat' (first | with_reducible refine And.intro ?_ ?_ | with_reducible refine and_imp.2 ?_ | intro))
 all_goals (first | (first | with_reducible rfl | with_reducible assumption | omega | (refine aq ?_ ?_ <;> omega)) | ((simp only [aK,hi]; simp_all) <;> (intros; omega)) | (simp only [aK,hi]; grind))
theorem CL (i:Int) (v:Int) (nx:Int) (kp:Int) (qt:Int) (se:List Sess) (op:List Opn) (sn:List Snap) (r0:Reply) (r1:Int) (r2:Int) (r3:Int) (r4:Int) (r5:List Sess) (r6:List Opn) (r7:List Snap):nK aL iM [] Try.f57 [.c (.int (i)),.c (.ptr 0 0)] [.box 26 ([.int (v),.int (nx),.int (kp),.int (qt),.own 1,.own 2,.own 3]),.row 42 (.nm .sess) (se),.row 51 (.nm .opn) (op),.row 46 (.nm .snap) (sn)] [.agg (cellsOf (.nm .reply) r0)] [.box 26 ([.int (r1),.int (r2),.int (r3),.int (r4),.own 1,.own 2,.own 3]),.row 42 (.nm .sess) (r5),.row 51 (.nm .opn) (r6),.row 46 (.nm .snap) (r7)]=((fun (q0:den (Sh.nm NT.snap))=>I64 i->(0:Int)<=i/\i<(↑sn.length:Int)/\(I64 q0.id->I64 q0.set->q0.chunks.length*(8:Nat)<=(140737488355328:Nat)->q0.tag.b.length<=(140737488355328:Nat)->(0:Int)=r0.code/\(↑q0.chunks.length:Int)=r0.n/\v=r1/\nx=r2/\kp=r3/\qt=r4/\se=r5/\op=r6/\sn=r7)) (sn.getD i.toNat (dflt (Sh.nm NT.snap)))):=by kernel_rfl
theorem Dn (i:Int) (v:Int) (nx:Int) (kp:Int) (qt:Int) (se:List Sess) (op:List Opn) (sn:List Snap) (h0:0<=i/\i<(sn.length:Int)):Sat Try.prog (av aL) 57 [.c (.int (i)),.c (.ptr 0 0)] [.box 26 ([.int (v),.int (nx),.int (kp),.int (qt),.own 1,.own 2,.own 3]),.row 42 (.nm .sess) (se),.row 51 (.nm .opn) (op),.row 46 (.nm .snap) (sn)] ⟨[0<=i/\i<(sn.length:Int)],[.agg (cellsOf (.nm .reply) ((bb (State.mk v nx kp qt se op sn) i.toNat).2))],some ([.box 26 ([.int ((((bb (State.mk v nx kp qt se op sn) i.toNat).1).version)),.int ((((bb (State.mk v nx kp qt se op sn) i.toNat).1).next)),.int ((((bb (State.mk v nx kp qt se op sn) i.toNat).1).keep)),.int ((((bb (State.mk v nx kp qt se op sn) i.toNat).1).quota)),.own 1,.own 2,.own 3]),.row 42 (.nm .sess) ((((bb (State.mk v nx kp qt se op sn) i.toNat).1).sess)),.row 51 (.nm .opn) ((((bb (State.mk v nx kp qt se op sn) i.toNat).1).opens)),.row 46 (.nm .snap) ((((bb (State.mk v nx kp qt se op sn) i.toNat).1).snaps))]),false⟩:=by
 refine dp dH [] Try.func57 (by decide) (by kernel_rfl) ?_
 rw [CL]
 (repeat' (first | with_reducible refine And.intro ?_ ?_ | with_reducible refine and_imp.2 ?_ | intro))
 all_goals (first | (first | with_reducible rfl | with_reducible assumption | omega | (refine aq ?_ ?_ <;> omega)) | rfl)
theorem BY (i:Int) (c:Command) (v:Int) (nx:Int) (kp:Int) (qt:Int) (se:List Sess) (op:List Opn) (sn:List Snap) (r0:Reply) (r1:Command) (r2:Int) (r3:Int) (r4:Int) (r5:Int) (r6:List Sess) (r7:List Opn) (r8:List Snap):nK aL iM [] Try.f58 [.c (.int (i)),.c (.ptr 0 0),.c (.ptr 1 0)] [.box 29 (cellsOf (.nm .command) (c)),.box 26 ([.int (v),.int (nx),.int (kp),.int (qt),.own 2,.own 3,.own 4]),.row 42 (.nm .sess) (se),.row 51 (.nm .opn) (op),.row 46 (.nm .snap) (sn)] [.agg (cellsOf (.nm .reply) r0)] [.box 29 (cellsOf (.nm .command) (r1)),.box 26 ([.int (r2),.int (r3),.int (r4),.int (r5),.own 2,.own 3,.own 4]),.row 42 (.nm .sess) (r6),.row 51 (.nm .opn) (r7),.row 46 (.nm .snap) (r8)]=((fun (q0:den (Sh.nm NT.snap))=>I64 i->(0:Int)<=i/\i<(↑sn.length:Int)/\(I64 q0.id->I64 q0.set->q0.chunks.length*(8:Nat)<=(140737488355328:Nat)->q0.tag.b.length<=(140737488355328:Nat)->(0:Int)=r0.code/\(0:Int)=r0.n/\c.kind=r1.kind/\c.client=r1.client/\c.seq=r1.seq/\c.set=r1.set/\c.id=r1.id/\c.n=r1.n/\c.chunks=r1.chunks/\c.text=r1.text/\v=r2/\nx=r3/\kp=r4/\qt=r5/\se=r6/\op=r7/\sn.set i.toNat (Snap.mk q0.id q0.set q0.chunks q0.held c.text)=r8)) (sn.getD i.toNat (dflt (Sh.nm NT.snap)))):=by kernel_rfl
theorem Bh (i:Int) (c:Command) (v:Int) (nx:Int) (kp:Int) (qt:Int) (se:List Sess) (op:List Opn) (sn:List Snap) (h0:0<=i/\i<(sn.length:Int)):Sat Try.prog (av aL) 58 [.c (.int (i)),.c (.ptr 0 0),.c (.ptr 1 0)] [.box 29 (cellsOf (.nm .command) (c)),.box 26 ([.int (v),.int (nx),.int (kp),.int (qt),.own 2,.own 3,.own 4]),.row 42 (.nm .sess) (se),.row 51 (.nm .opn) (op),.row 46 (.nm .snap) (sn)] ⟨[0<=i/\i<(sn.length:Int)],[.agg (cellsOf (.nm .reply) ((ct c (State.mk v nx kp qt se op sn) i.toNat).2))],some ([.box 29 (cellsOf (.nm .command) ((c))),.box 26 ([.int ((((ct c (State.mk v nx kp qt se op sn) i.toNat).1).version)),.int ((((ct c (State.mk v nx kp qt se op sn) i.toNat).1).next)),.int ((((ct c (State.mk v nx kp qt se op sn) i.toNat).1).keep)),.int ((((ct c (State.mk v nx kp qt se op sn) i.toNat).1).quota)),.own 2,.own 3,.own 4]),.row 42 (.nm .sess) ((((ct c (State.mk v nx kp qt se op sn) i.toNat).1).sess)),.row 51 (.nm .opn) ((((ct c (State.mk v nx kp qt se op sn) i.toNat).1).opens)),.row 46 (.nm .snap) ((((ct c (State.mk v nx kp qt se op sn) i.toNat).1).snaps))]),false⟩:=by
 refine dp dH [] Try.func58 (by decide) (by kernel_rfl) ?_
 rw [BY]
 (repeat' (first | with_reducible refine And.intro ?_ ?_ | with_reducible refine and_imp.2 ?_ | intro))
 all_goals (first | (first | with_reducible rfl | with_reducible assumption | omega | (refine aq ?_ ?_ <;> omega)) | exact rfl)
theorem yG (i:Int) (v:Int) (nx:Int) (kp:Int) (qt:Int) (se:List Sess) (op:List Opn) (sn:List Snap) (b:Bool) (r0:Reply) (r1:Int) (r2:Int) (r3:Int) (r4:Int) (r5:List Sess) (r6:List Opn) (r7:List Snap) (r8:Bool):nK aL iM [] Try.f45 [.c (.int (i)),.c (.ptr 0 0),.c (.ptr 4 0)] [.box 26 ([.int (v),.int (nx),.int (kp),.int (qt),.own 1,.own 2,.own 3]),.row 42 (.nm .sess) (se),.row 51 (.nm .opn) (op),.row 46 (.nm .snap) (sn),.box 4 ([.bool (.atom (b))])] [.agg (cellsOf (.nm .reply) r0)] [.box 26 ([.int (r1),.int (r2),.int (r3),.int (r4),.own 1,.own 2,.own 3]),.row 42 (.nm .sess) (r5),.row 51 (.nm .opn) (r6),.row 46 (.nm .snap) (r7),.box 4 ([.bool (.atom (r8))])]=((fun (q0:den (Sh.nm NT.snap))=>I64 i->(0:Int)<=i/\i<(↑sn.length:Int)/\(I64 q0.id->I64 q0.set->q0.chunks.length*(8:Nat)<=(140737488355328:Nat)->q0.tag.b.length<=(140737488355328:Nat)->((q0.held == b)=true->(0:Int)=r0.code/\(0:Int)=r0.n/\v=r1/\nx=r2/\kp=r3/\qt=r4/\se=r5/\op=r6/\sn=r7/\b=r8)/\((q0.held == b)=false->(0:Int)=r0.code/\(1:Int)=r0.n/\v=r1/\nx=r2/\kp=r3/\qt=r4/\se=r5/\op=r6/\sn.set i.toNat (Snap.mk q0.id q0.set q0.chunks b q0.tag)=r7/\b=r8))) (sn.getD i.toNat (dflt (Sh.nm NT.snap)))):=by kernel_rfl
theorem xf (i:Int) (v:Int) (nx:Int) (kp:Int) (qt:Int) (se:List Sess) (op:List Opn) (sn:List Snap) (b:Bool) (h0:0<=i/\i<(sn.length:Int)):Sat Try.prog (av aL) 45 [.c (.int (i)),.c (.ptr 0 0),.c (.ptr 4 0)] [.box 26 ([.int (v),.int (nx),.int (kp),.int (qt),.own 1,.own 2,.own 3]),.row 42 (.nm .sess) (se),.row 51 (.nm .opn) (op),.row 46 (.nm .snap) (sn),.box 4 ([.bool (.atom (b))])] ⟨[0<=i/\i<(sn.length:Int)],[.agg (cellsOf (.nm .reply) ((bn b (State.mk v nx kp qt se op sn) i.toNat).2))],some ([.box 26 ([.int ((((bn b (State.mk v nx kp qt se op sn) i.toNat).1).version)),.int ((((bn b (State.mk v nx kp qt se op sn) i.toNat).1).next)),.int ((((bn b (State.mk v nx kp qt se op sn) i.toNat).1).keep)),.int ((((bn b (State.mk v nx kp qt se op sn) i.toNat).1).quota)),.own 1,.own 2,.own 3]),.row 42 (.nm .sess) ((((bn b (State.mk v nx kp qt se op sn) i.toNat).1).sess)),.row 51 (.nm .opn) ((((bn b (State.mk v nx kp qt se op sn) i.toNat).1).opens)),.row 46 (.nm .snap) ((((bn b (State.mk v nx kp qt se op sn) i.toNat).1).snaps)),.box 4 ([.bool (.atom ((b)))])]),false⟩:=by
 refine dp dH [] Try.func45 (by decide) (by kernel_rfl) ?_
 rw [yG]
 (repeat' (first | with_reducible refine And.intro ?_ ?_ | with_reducible refine and_imp.2 ?_ | intro))
 all_goals (first | (first | with_reducible rfl | with_reducible assumption | omega | (refine aq ?_ ?_ <;> omega)) | ((simp only [bn]; simp_all) <;> (intros; omega)) | (simp only [bn]; grind))
def nG:cY:=(bX 45 (bR (ak (kC cI) (ak (kC (bL 0 0)) (ak (kC (bL 4 0)) aU))) (ay (bK 26 (aj cI (aj cI (aj cI (aj cI (aj (ba 1) (aj (ba 2) (aj (ba 3) bG)))))))) (ay (a_ 42 (.nm .sess)) (ay (a_ 51 (.nm .opn)) (ay (a_ 46 (.nm .snap)) (ay (bK 4 (aj cB bG)) aR))))) fun (i,_,_,_) ((v,nx,kp,qt,_,_,_,_),se,op,sn,(b,_),_)=>⟨[0<=i/\i<(sn.length:Int)],[.agg (cellsOf (.nm .reply) ((bn b (State.mk v nx kp qt se op sn) i.toNat).2))],some ([.box 26 ([.int ((((bn b (State.mk v nx kp qt se op sn) i.toNat).1).version)),.int ((((bn b (State.mk v nx kp qt se op sn) i.toNat).1).next)),.int ((((bn b (State.mk v nx kp qt se op sn) i.toNat).1).keep)),.int ((((bn b (State.mk v nx kp qt se op sn) i.toNat).1).quota)),.own 1,.own 2,.own 3]),.row 42 (.nm .sess) ((((bn b (State.mk v nx kp qt se op sn) i.toNat).1).sess)),.row 51 (.nm .opn) ((((bn b (State.mk v nx kp qt se op sn) i.toNat).1).opens)),.row 46 (.nm .snap) ((((bn b (State.mk v nx kp qt se op sn) i.toNat).1).snaps)),.box 4 ([.bool (.atom ((b)))])]),false⟩) (bX 58 (bR (ak (kC cI) (ak (kC (bL 0 0)) (ak (kC (bL 1 0)) aU))) (ay (bK 29 (pL (.nm .command) bG)) (ay (bK 26 (aj cI (aj cI (aj cI (aj cI (aj (ba 2) (aj (ba 3) (aj (ba 4) bG)))))))) (ay (a_ 42 (.nm .sess)) (ay (a_ 51 (.nm .opn)) (ay (a_ 46 (.nm .snap)) aR))))) fun (i,_,_,_) ((c,_),(v,nx,kp,qt,_,_,_,_),se,op,sn,_)=>⟨[0<=i/\i<(sn.length:Int)],[.agg (cellsOf (.nm .reply) ((ct c (State.mk v nx kp qt se op sn) i.toNat).2))],some ([.box 29 (cellsOf (.nm .command) ((c))),.box 26 ([.int ((((ct c (State.mk v nx kp qt se op sn) i.toNat).1).version)),.int ((((ct c (State.mk v nx kp qt se op sn) i.toNat).1).next)),.int ((((ct c (State.mk v nx kp qt se op sn) i.toNat).1).keep)),.int ((((ct c (State.mk v nx kp qt se op sn) i.toNat).1).quota)),.own 2,.own 3,.own 4]),.row 42 (.nm .sess) ((((ct c (State.mk v nx kp qt se op sn) i.toNat).1).sess)),.row 51 (.nm .opn) ((((ct c (State.mk v nx kp qt se op sn) i.toNat).1).opens)),.row 46 (.nm .snap) ((((ct c (State.mk v nx kp qt se op sn) i.toNat).1).snaps))]),false⟩) (bX 57 (bR (ak (kC cI) (ak (kC (bL 0 0)) aU)) (ay (bK 26 (aj cI (aj cI (aj cI (aj cI (aj (ba 1) (aj (ba 2) (aj (ba 3) bG)))))))) (ay (a_ 42 (.nm .sess)) (ay (a_ 51 (.nm .opn)) (ay (a_ 46 (.nm .snap)) aR)))) fun (i,_,_) ((v,nx,kp,qt,_,_,_,_),se,op,sn,_)=>⟨[0<=i/\i<(sn.length:Int)],[.agg (cellsOf (.nm .reply) ((bb (State.mk v nx kp qt se op sn) i.toNat).2))],some ([.box 26 ([.int ((((bb (State.mk v nx kp qt se op sn) i.toNat).1).version)),.int ((((bb (State.mk v nx kp qt se op sn) i.toNat).1).next)),.int ((((bb (State.mk v nx kp qt se op sn) i.toNat).1).keep)),.int ((((bb (State.mk v nx kp qt se op sn) i.toNat).1).quota)),.own 1,.own 2,.own 3]),.row 42 (.nm .sess) ((((bb (State.mk v nx kp qt se op sn) i.toNat).1).sess)),.row 51 (.nm .opn) ((((bb (State.mk v nx kp qt se op sn) i.toNat).1).opens)),.row 46 (.nm .snap) ((((bb (State.mk v nx kp qt se op sn) i.toNat).1).snaps))]),false⟩) (bX 56 (bR (ak (kC (bL 0 0)) (ak (kC cI) aU)) (ay (bK 26 (aj cI (aj cI (aj cI (aj cI (aj (ba 1) (aj (ba 2) (aj (ba 3) bG)))))))) (ay (a_ 42 (.nm .sess)) (ay (a_ 51 (.nm .opn)) (ay (a_ 46 (.nm .snap)) aR)))) fun (_,i,_) ((v,nx,kp,qt,_,_,_,_),se,op,sn,_)=>⟨[0<=i/\i<(sn.length:Int),nch sn<=1048576],[.agg (cellsOf (.nm .reply) ((aK (State.mk v nx kp qt se op sn) i.toNat).2))],some ([.box 26 ([.int ((((aK (State.mk v nx kp qt se op sn) i.toNat).1).version)),.int ((((aK (State.mk v nx kp qt se op sn) i.toNat).1).next)),.int ((((aK (State.mk v nx kp qt se op sn) i.toNat).1).keep)),.int ((((aK (State.mk v nx kp qt se op sn) i.toNat).1).quota)),.own 1,.own 2,.own 3]),.row 42 (.nm .sess) ((((aK (State.mk v nx kp qt se op sn) i.toNat).1).sess)),.row 51 (.nm .opn) ((((aK (State.mk v nx kp qt se op sn) i.toNat).1).opens)),.row 46 (.nm .snap) ((((aK (State.mk v nx kp qt se op sn) i.toNat).1).snaps))]),false⟩) (bX 53 (bR (ak (kC (bL 0 0)) (ak (kC (bL 1 0)) aU)) (ay (bK 29 (pL (.nm .command) bG)) (ay (bK 26 (aj cI (aj cI (aj cI (aj cI (aj (ba 2) (aj (ba 3) (aj (ba 4) bG)))))))) (ay (a_ 42 (.nm .sess)) (ay (a_ 51 (.nm .opn)) (ay (a_ 46 (.nm .snap)) aR))))) fun (_,_,_) ((c,_),(v,nx,kp,qt,_,_,_,_),se,op,sn,_)=>⟨[nch sn<=1048576],[.agg (cellsOf (.nm .reply) ((cn c (State.mk v nx kp qt se op sn)).2))],some ([.box 29 (cellsOf (.nm .command) ((c))),.box 26 ([.int ((((cn c (State.mk v nx kp qt se op sn)).1).version)),.int ((((cn c (State.mk v nx kp qt se op sn)).1).next)),.int ((((cn c (State.mk v nx kp qt se op sn)).1).keep)),.int ((((cn c (State.mk v nx kp qt se op sn)).1).quota)),.own 2,.own 3,.own 4]),.row 42 (.nm .sess) ((((cn c (State.mk v nx kp qt se op sn)).1).sess)),.row 51 (.nm .opn) ((((cn c (State.mk v nx kp qt se op sn)).1).opens)),.row 46 (.nm .snap) ((((cn c (State.mk v nx kp qt se op sn)).1).snaps))]),false⟩) (bX 52 (bR (ak (kC (bL 0 0)) (ak (kC (bL 1 0)) aU)) (ay (bK 29 (pL (.nm .command) bG)) (ay (bK 26 (aj cI (aj cI (aj cI (aj cI (aj (ba 2) (aj (ba 3) (aj (ba 4) bG)))))))) (ay (a_ 42 (.nm .sess)) (ay (a_ 51 (.nm .opn)) (ay (a_ 46 (.nm .snap)) aR))))) fun (_,_,_) ((c,_),(v,nx,kp,qt,_,_,_,_),se,op,sn,_)=>⟨[],[.agg (cellsOf (.nm .reply) ((cN c (State.mk v nx kp qt se op sn)).2))],some ([.box 29 (cellsOf (.nm .command) ((c))),.box 26 ([.int ((((cN c (State.mk v nx kp qt se op sn)).1).version)),.int ((((cN c (State.mk v nx kp qt se op sn)).1).next)),.int ((((cN c (State.mk v nx kp qt se op sn)).1).keep)),.int ((((cN c (State.mk v nx kp qt se op sn)).1).quota)),.own 2,.own 3,.own 4]),.row 42 (.nm .sess) ((((cN c (State.mk v nx kp qt se op sn)).1).sess)),.row 51 (.nm .opn) ((((cN c (State.mk v nx kp qt se op sn)).1).opens)),.row 46 (.nm .snap) ((((cN c (State.mk v nx kp qt se op sn)).1).snaps))]),false⟩) (bX 75 (bR (ak (kC (bL 0 0)) (ak (kT (.nm .command)) aU)) (ay (bK 26 (aj cI (aj cI (aj cI (aj cI (aj (ba 1) (aj (ba 2) (aj (ba 3) bG)))))))) (ay (a_ 42 (.nm .sess)) (ay (a_ 51 (.nm .opn)) (ay (a_ 46 (.nm .snap)) aR)))) fun (_,c,_) ((v,nx,kp,qt,_,_,_,_),se,op,sn,_)=>⟨[],[.c (.int ((bc (State.mk v nx kp qt se op sn) c)))],none,false⟩) (bX 77 (bR (ak (kC (ba 0)) (ak (kC cI) (ak (kC cI) aU))) (ay (a_ 51 (.nm .opn)) aR) fun (_,i,j,_) (l,_)=>⟨[0<=i/\i<(l.length:Int)/\j=i+1],[.c (.own 0)],some ([.row 51 (.nm .opn) ((l.take i.toNat++l.drop j.toNat))]),false⟩) (bX 31 (bR (ak (kC (ba 0)) (ak (kC cI) (ak (kC (ba 1)) aU))) (ay (a_ 42 (.nm .sess)) (ay (a_ 42 (.nm .sess)) aR)) fun (_,i,_,_) (l,m,_)=>⟨[0<=i/\i<=(l.length:Int),l.length<1048576,m.length=1],[.c (.own 0)],some ([.row 42 (.nm .sess) ((l.take i.toNat++m++l.drop i.toNat)),.row 42 (.nm .sess) ((m))]),false⟩) (bX 74 (bR (ak (kC (ba 0)) (ak (kC cI) (ak (kC (cL (.nm .opn))) aU))) (ay (a_ 51 (.nm .opn)) aR) fun (_,i,m,_) (l,_)=>⟨[0<=i/\i<=(l.length:Int),l.length<1048576,m.length=1],[.c (.own 0)],some ([.row 51 (.nm .opn) ((l.take i.toNat++m++l.drop i.toNat))]),false⟩) iM))))))))))
theorem fK:bf Try.prog (av aL) nG:=(aC (aB (ae (aw ax) (ae (aw aJ) (ae (aw aJ) ao))) (ag (aH (ab ax (ab ax (ab ax (ab ax (ab az (ab az (ab az aG)))))))) (ag aA (ag aA (ag aA (ag (aH (ab qK aG)) al))))) fun (i,_,_,_) ((v,nx,kp,qt,_,_,_,_),se,op,sn,(b,_),_) hp=>xf i v nx kp qt se op sn b (eO hp)) (aC (aB (ae (aw ax) (ae (aw aJ) (ae (aw aJ) ao))) (ag (aH (cK aG)) (ag (aH (ab ax (ab ax (ab ax (ab ax (ab az (ab az (ab az aG)))))))) (ag aA (ag aA (ag aA al))))) fun (i,_,_,_) ((c,_),(v,nx,kp,qt,_,_,_,_),se,op,sn,_) hp=>Bh i c v nx kp qt se op sn (eO hp)) (aC (aB (ae (aw ax) (ae (aw aJ) ao)) (ag (aH (ab ax (ab ax (ab ax (ab ax (ab az (ab az (ab az aG)))))))) (ag aA (ag aA (ag aA al)))) fun (i,_,_) ((v,nx,kp,qt,_,_,_,_),se,op,sn,_) hp=>Dn i v nx kp qt se op sn (eO hp)) (aC (aB (ae (aw aJ) (ae (aw ax) ao)) (ag (aH (ab ax (ab ax (ab ax (ab ax (ab az (ab az (ab az aG)))))))) (ag aA (ag aA (ag aA al)))) fun (_,i,_) ((v,nx,kp,qt,_,_,_,_),se,op,sn,_) hp=>Av i v nx kp qt se op sn (eO hp) (eO (nJ hp))) (aC (aB (ae (aw aJ) (ae (aw aJ) ao)) (ag (aH (cK aG)) (ag (aH (ab ax (ab ax (ab ax (ab ax (ab az (ab az (ab az aG)))))))) (ag aA (ag aA (ag aA al))))) fun (_,_,_) ((c,_),(v,nx,kp,qt,_,_,_,_),se,op,sn,_) hp=>DN c v nx kp qt se op sn (eO hp)) (aC (aB (ae (aw aJ) (ae (aw aJ) ao)) (ag (aH (cK aG)) (ag (aH (ab ax (ab ax (ab ax (ab ax (ab az (ab az (ab az aG)))))))) (ag aA (ag aA (ag aA al))))) fun (_,_,_) ((c,_),(v,nx,kp,qt,_,_,_,_),se,op,sn,_) _=>Da c v nx kp qt se op sn ) (aC (aB (ae (aw aJ) (ae bP ao)) (ag (aH (ab ax (ab ax (ab ax (ab ax (ab az (ab az (ab az aG)))))))) (ag aA (ag aA (ag aA al)))) fun (_,c,_) ((v,nx,kp,qt,_,_,_,_),se,op,sn,_) _=>vk c v nx kp qt se op sn ) (aC (aB (ae (aw az) (ae (aw ax) (ae (aw ax) ao))) (ag aA al) fun (_,i,j,_) (l,_) hp=>we i j l (eO hp)) (aC (aB (ae (aw az) (ae (aw ax) (ae (aw az) ao))) (ag aA (ag aA al)) fun (_,i,_,_) (l,m,_) hp=>tk i l m (eO hp) (eO (nJ hp)) (eO (nJ (nJ hp)))) (aC (aB (ae (aw az) (ae (aw ax) (ae (aw bV) ao))) (ag aA al) fun (_,i,m,_) (l,_) hp=>vG i m l (eO hp) (eO (nJ hp)) (eO (nJ (nJ hp)))) dH))))))))))
end Go.Proofs.Ytmmbibcfkdabeaa
namespace Go.Proofs.Ytmmbibcfkdabeaa
open Go.RowKit
theorem yK {α:Type} {p:α->Bool} {l:List α} {k:Nat} (h:(l.take k).all p=true) (hk:k<=l.length) (h2:(l.length:Int)<=k\/(k:Int)<l.length/\∃ x,l[k]? = some x/\p x=false):k=(l.takeWhile p).length:=by
 induction l generalizing k with
 | nil=>simp at hk; simp [hk]
 | cons a l ih=>
  cases k with
  | zero=>
   rcases h2 with h2 | ⟨_,x,hx,hp⟩
   ·simp at h2; omega
   ·simp at hx; subst hx; simp [hp]
  | succ k=>
   simp only [List.take_succ_cons,List.all_cons,Bool.and_eq_true] at h
   rw [List.takeWhile_cons,h.1,if_pos rfl,List.length_cons]
   congr 1
   refine ih h.2 (by simpa using hk) ?_
   rcases h2 with h2 | ⟨h3,x,hx,hp⟩
   ·left; simp at h2; omega
   ·right; refine ⟨by simp at h3; omega,x,by simpa using hx,hp⟩
theorem zC {v nx kp qt:Int} {se:List Sess} {op:List Opn} {sn:List Snap} {c:Command} {s:Nat} (h:ah Opn.set c.set op<0) (hs:s<=op.length) (ha:(op.take s).all (fun y=>decide (y.set<c.set))=true) (hb:(op.length:Int)<=s\/c.set<=(op.getD s (dflt (.nm .opn))).set):op.take s++[Opn.mk c.set c.client]++op.drop s=(aP (State.mk v nx kp qt se op sn) c).1.opens:=by
 have h1:¬ 0<=ah Opn.set c.set op:=by omega
 simp only [aP,if_neg h1]
 have:s=(op.takeWhile fun y=>decide (y.set<c.set)).length:=by
  refine yK ha hs ?_
  by_cases hl:(op.length:Int)<=s
  ·exact .inl hl
  ·refine .inr ⟨by omega,_,gd (d:=dflt (.nm .opn)) (by omega),?_⟩
   rcases hb with hb | hb
   ·omega
   ·exact decide_eq_false (by omega)
 rw [<- this]; simp [ek]
theorem zH {op:List Opn} {c:Command} {s:Nat} (ha:(op.take s).all (fun y=>decide (y.set<c.set))=true) (h:(s:Int)<op.length) (hb:(op.getD s (dflt (.nm .opn))).set<c.set):(op.take (s+1)).all (fun y=>decide (y.set<c.set))=true:=by
 rw [aF (gd (d:=dflt (.nm .opn)) h),List.all_append,ha]; simp only [List.all_cons,List.all_nil,decide_eq_true hb]; rfl
section
variable {v nx kp qt:Int} {se:List Sess} {op:List Opn} {sn:List Snap} {c:Command}
theorem GV (h:ah Opn.set c.set op<0):aP (State.mk v nx kp qt se op sn) c=(State.mk v nx kp qt se (ek op (op.takeWhile fun y=>decide (y.set<c.set)).length ⟨c.set,c.client⟩) sn,⟨0,0⟩):=by
 have h1:¬ 0<=ah Opn.set c.set op:=by omega
 simp only [aP,if_neg h1]
theorem GW (h:0<=ah Opn.set c.set op):aP (State.mk v nx kp qt se op sn) c=(State.mk v nx kp qt se op sn,⟨16,(op.getD (ah Opn.set c.set op).toNat (dflt (.nm .opn))).client⟩):=by
 simp only [aP,if_pos h]
theorem Ht (h:bc (State.mk v nx kp qt se op sn) c<0):aT (State.mk v nx kp qt se op sn) c=(State.mk v nx kp qt se op sn,⟨15,0⟩):=by
 simp only [aT,if_pos h]
theorem Hp (h:0<=bc (State.mk v nx kp qt se op sn) c):aT (State.mk v nx kp qt se op sn) c=(State.mk v nx kp qt se (op.take (bc (State.mk v nx kp qt se op sn) c).toNat++op.drop (bc (State.mk v nx kp qt se op sn) c+1).toNat) sn,⟨0,0⟩):=by
 have h1:¬ bc (State.mk v nx kp qt se op sn) c<0:=by omega
 simp only [aT,if_neg h1,mS]
end
def tX (c:Command) (v:Int) (nx:Int) (kp:Int) (qt:Int) (se:List Sess) (op:List Opn) (sn:List Snap):List (Nat × LI):=[(5,{ σ:=Nat,F:=fun k=>([(0,one (.ptr 0 0)),(3,one (.ptr 4 0)),(4,one (.ptr 5 0)),(6,one (.int k))],[.box 26 ([.int ((v)),.int ((nx)),.int ((kp)),.int ((qt)),.own 1,.own 2,.own 3]),.row 42 (.nm .sess) ((se)),.row 51 (.nm .opn) ((op)),.row 46 (.nm .snap) ((sn)),.box 29 (cellsOf (.nm .command) ((c))),.box 35 ([.int ((0)),.int ((0))])]),J:=fun k=>k<=op.length/\(op.take k).all (fun y=>decide (y.set<c.set))=true,μ:=fun k=>op.length - k })]
theorem xT (c:Command) (v:Int) (nx:Int) (kp:Int) (qt:Int) (se:List Sess) (op:List Opn) (sn:List Snap) (r0:Reply) (r1:Int) (r2:Int) (r3:Int) (r4:Int) (r5:List Sess) (r6:List Opn) (r7:List Snap):nK aL nG (tX c v nx kp qt se op sn) Try.f47 [.c (.ptr 0 0),.agg (cellsOf (.nm .command) c)] [.box 26 ([.int (v),.int (nx),.int (kp),.int (qt),.own 1,.own 2,.own 3]),.row 42 (.nm .sess) (se),.row 51 (.nm .opn) (op),.row 46 (.nm .snap) (sn)] [.agg (cellsOf (.nm .reply) r0)] [.box 26 ([.int (r1),.int (r2),.int (r3),.int (r4),.own 1,.own 2,.own 3]),.row 42 (.nm .sess) (r5),.row 51 (.nm .opn) (r6),.row 46 (.nm .snap) (r7)]=((fun (q5:Int)=>(fun (q4:den (Sh.nm NT.opn))=>(fun (q3:Int)=>(fun (q2:Int)=>(fun (q1:Int)=>(fun (q0:Prop)=>I64 c.kind->I64 c.client->I64 c.seq->I64 q5->I64 c.id->I64 c.n->c.chunks.length*(8:Nat)<=(140737488355328:Nat)->c.text.b.length<=(140737488355328:Nat)->I64 q1->(q2<=q1->q2<=q1/\q1<q3/\(I64 (op.getD q1.toNat q4).set->I64 (op.getD q1.toNat q4).client->(16:Int)=r0.code/\(op.getD q1.toNat q4).client=r0.n/\v=r1/\nx=r2/\kp=r3/\qt=r4/\se=r5/\op=r6/\sn=r7))/\(q1<q2->∃ (s0:Nat),(q2=(↑s0:Int)/\q0)/\(s0<=op.length/\((List.take s0 op).all fun (y:Opn)=>decide (y.set<q5))=true)/\∀ (s:Nat),(fun (q7:Int)=>(fun (q6:Int)=>s<=op.length/\((List.take s op).all fun (y:Opn)=>decide (y.set<q5))=true->(q6<q3->q2<=q6/\q6<q3)/\((q6<q3->I64 q7/\I64 (op.getD s q4).client)->(q6<q3/\q7<q5->I64 (q6+(1:Int))/\∃ (s':Nat),(q6+(1:Int)=(↑s':Int)/\q0)/\(s' <= op.length/\((List.take s' op).all fun (y:Opn)=>decide (y.set<q5))=true)/\op.length - s' < op.length - s)/\(q3<=q6\/q5<=q7->((q2<=q6/\q6<=q3)/\op.length<(1048576:Nat)/\[Opn.mk q5 c.client].length=(1:Nat))/\q2=r0.code/\q2=r0.n/\v=r1/\nx=r2/\kp=r3/\qt=r4/\se=r5/\List.take s op++[Opn.mk q5 c.client]++List.drop s op=r6/\sn=r7))) (↑s:Int)) (op.getD s q4).set)) (v=v/\nx=nx/\kp=kp/\qt=qt/\se=se/\op=op/\sn=sn/\c.kind=c.kind/\c.client=c.client/\c.seq=c.seq/\q5=q5/\c.id=c.id/\c.n=c.n/\c.chunks=c.chunks/\c.text=c.text/\q2=q2/\q2=q2)) (ah Opn.set q5 op)) (0:Int)) (↑op.length:Int)) (dflt (Sh.nm NT.opn))) c.set):=by kernel_rfl
theorem yB (c:Command) (v:Int) (nx:Int) (kp:Int) (qt:Int) (se:List Sess) (op:List Opn) (sn:List Snap) (h0:op.length<1048576):Sat Try.prog (av aL) 47 [.c (.ptr 0 0),.agg (cellsOf (.nm .command) c)] [.box 26 ([.int (v),.int (nx),.int (kp),.int (qt),.own 1,.own 2,.own 3]),.row 42 (.nm .sess) (se),.row 51 (.nm .opn) (op),.row 46 (.nm .snap) (sn)] ⟨[op.length<1048576],[.agg (cellsOf (.nm .reply) ((aP (State.mk v nx kp qt se op sn) c).2))],some ([.box 26 ([.int ((((aP (State.mk v nx kp qt se op sn) c).1).version)),.int ((((aP (State.mk v nx kp qt se op sn) c).1).next)),.int ((((aP (State.mk v nx kp qt se op sn) c).1).keep)),.int ((((aP (State.mk v nx kp qt se op sn) c).1).quota)),.own 1,.own 2,.own 3]),.row 42 (.nm .sess) ((((aP (State.mk v nx kp qt se op sn) c).1).sess)),.row 51 (.nm .opn) ((((aP (State.mk v nx kp qt se op sn) c).1).opens)),.row 46 (.nm .snap) ((((aP (State.mk v nx kp qt se op sn) c).1).snaps))]),false⟩:=by
 refine dp fK (tX c v nx kp qt se op sn) Try.func47 (by decide) (by kernel_rfl) ?_
 rw [xT]
 (repeat' (first | with_reducible refine And.intro ?_ ?_ | with_reducible refine and_imp.2 ?_ | intro))
 all_goals try (first | (first | with_reducible rfl | with_reducible assumption | omega | (refine aq ?_ ?_ <;> omega)) | exact rfl | exact bj (by with_reducible assumption) | exact (zH (by with_reducible assumption) (by with_reducible assumption) (by with_reducible assumption)) | exact (zC (by with_reducible assumption) (by omega) (by with_reducible assumption) (by assumption)) | (rw [GV]; omega) | (rw [GW]; omega))
 all_goals try (refine ⟨0,?_⟩; (repeat' (first | with_reducible refine And.intro ?_ ?_ | with_reducible refine and_imp.2 ?_ | intro)))
 all_goals try (first | (first | with_reducible rfl | with_reducible assumption | omega | (refine aq ?_ ?_ <;> omega)) | exact rfl | exact bj (by with_reducible assumption) | exact (zH (by with_reducible assumption) (by with_reducible assumption) (by with_reducible assumption)) | exact (zC (by with_reducible assumption) (by omega) (by with_reducible assumption) (by assumption)) | (rw [GV]; omega) | (rw [GW]; omega))
 all_goals try (refine ⟨‹Nat› + 1,?_⟩; (repeat' (first | with_reducible refine And.intro ?_ ?_ | with_reducible refine and_imp.2 ?_ | intro)))
 all_goals (first | (first | with_reducible rfl | with_reducible assumption | omega | (refine aq ?_ ?_ <;> omega)) | exact rfl | exact bj (by with_reducible assumption) | exact (zH (by with_reducible assumption) (by with_reducible assumption) (by with_reducible assumption)) | exact (zC (by with_reducible assumption) (by omega) (by with_reducible assumption) (by assumption)) | (rw [GV]; omega) | (rw [GW]; omega))
theorem zE (c:Command) (v:Int) (nx:Int) (kp:Int) (qt:Int) (se:List Sess) (op:List Opn) (sn:List Snap) (r0:Reply) (r1:Int) (r2:Int) (r3:Int) (r4:Int) (r5:List Sess) (r6:List Opn) (r7:List Snap):nK aL nG [] Try.f51 [.c (.ptr 0 0),.agg (cellsOf (.nm .command) c)] [.box 26 ([.int (v),.int (nx),.int (kp),.int (qt),.own 1,.own 2,.own 3]),.row 42 (.nm .sess) (se),.row 51 (.nm .opn) (op),.row 46 (.nm .snap) (sn)] [.agg (cellsOf (.nm .reply) r0)] [.box 26 ([.int (r1),.int (r2),.int (r3),.int (r4),.own 1,.own 2,.own 3]),.row 42 (.nm .sess) (r5),.row 51 (.nm .opn) (r6),.row 46 (.nm .snap) (r7)]=((fun (q1:Int)=>(fun (q0:Int)=>I64 c.kind->I64 c.client->I64 c.seq->I64 c.set->I64 c.id->I64 c.n->c.chunks.length*(8:Nat)<=(140737488355328:Nat)->c.text.b.length<=(140737488355328:Nat)->I64 q0->(q0<q1->I64 (15:Int)->I64 q1->(15:Int)=r0.code/\q1=r0.n/\v=r1/\nx=r2/\kp=r3/\qt=r4/\se=r5/\op=r6/\sn=r7)/\(q1<=q0->I64 (q0+(1:Int))/\(q1<=q0/\q0<(↑op.length:Int)/\q0+(1:Int)=q0+(1:Int))/\q1=r0.code/\q1=r0.n/\v=r1/\nx=r2/\kp=r3/\qt=r4/\se=r5/\List.take q0.toNat op++List.drop (q0+(1:Int)).toNat op=r6/\sn=r7)) (bc (State.mk v nx kp qt se op sn) c)) (0:Int)):=by kernel_rfl
theorem zI (c:Command) (v:Int) (nx:Int) (kp:Int) (qt:Int) (se:List Sess) (op:List Opn) (sn:List Snap) (h0:op.length<1048576):Sat Try.prog (av aL) 51 [.c (.ptr 0 0),.agg (cellsOf (.nm .command) c)] [.box 26 ([.int (v),.int (nx),.int (kp),.int (qt),.own 1,.own 2,.own 3]),.row 42 (.nm .sess) (se),.row 51 (.nm .opn) (op),.row 46 (.nm .snap) (sn)] ⟨[op.length<1048576],[.agg (cellsOf (.nm .reply) ((aT (State.mk v nx kp qt se op sn) c).2))],some ([.box 26 ([.int ((((aT (State.mk v nx kp qt se op sn) c).1).version)),.int ((((aT (State.mk v nx kp qt se op sn) c).1).next)),.int ((((aT (State.mk v nx kp qt se op sn) c).1).keep)),.int ((((aT (State.mk v nx kp qt se op sn) c).1).quota)),.own 1,.own 2,.own 3]),.row 42 (.nm .sess) ((((aT (State.mk v nx kp qt se op sn) c).1).sess)),.row 51 (.nm .opn) ((((aT (State.mk v nx kp qt se op sn) c).1).opens)),.row 46 (.nm .snap) ((((aT (State.mk v nx kp qt se op sn) c).1).snaps))]),false⟩:=by
 refine dp fK [] Try.func51 (by decide) (by kernel_rfl) ?_
 rw [zE]
 have hl:0<=bc (State.mk v nx kp qt se op sn) c->bc (State.mk v nx kp qt se op sn) c+1<=(op.length:Int):=fun h=>wD h
 (repeat' (first | with_reducible refine And.intro ?_ ?_ | with_reducible refine and_imp.2 ?_ | intro))
 all_goals (first | (first | with_reducible rfl | with_reducible assumption | omega | (refine aq ?_ ?_ <;> omega)) | (rw [Hp]; omega) | (rw [Ht]; omega))
theorem uX (c:Command) (v:Int) (nx:Int) (kp:Int) (qt:Int) (se:List Sess) (op:List Opn) (sn:List Snap) (r0:Reply) (r1:Int) (r2:Int) (r3:Int) (r4:Int) (r5:List Sess) (r6:List Opn) (r7:List Snap):nK aL nG [] Try.f49 [.c (.ptr 0 0),.agg (cellsOf (.nm .command) c)] [.box 26 ([.int (v),.int (nx),.int (kp),.int (qt),.own 1,.own 2,.own 3]),.row 42 (.nm .sess) (se),.row 51 (.nm .opn) (op),.row 46 (.nm .snap) (sn)] [.agg (cellsOf (.nm .reply) r0)] [.box 26 ([.int (r1),.int (r2),.int (r3),.int (r4),.own 1,.own 2,.own 3]),.row 42 (.nm .sess) (r5),.row 51 (.nm .opn) (r6),.row 46 (.nm .snap) (r7)]=((fun (q6:Snap)=>(fun (q5:Int)=>(fun (q4:Prop)=>(fun (q3:Int)=>(fun (q2:Int)=>(fun (q1:Prop)=>(fun (q0:Int)=>I64 c.kind->I64 c.client->I64 c.seq->I64 c.set->I64 c.id->I64 c.n->q4->c.text.b.length<=(140737488355328:Nat)->I64 q0->(q0<q3->I64 (15:Int)->I64 q3->(15:Int)=r0.code/\q1)/\(q3<=q0->((16:Int)<=(↑sn.length:Int)\/(1048576:Int)<=nx->I64 (20:Int)->I64 q3->(20:Int)=r0.code/\q1)/\((↑sn.length:Int)<(16:Int)/\nx<(1048576:Int)->(¬qt=q3->nch sn<=(1048576:Nat))/\((¬qt=q3->I64 q2)->(¬qt=q3/\qt<q2->I64 (19:Int)->I64 q3->(19:Int)=r0.code/\q1)/\(qt=q3\/q2<=qt->q4->(sn.length+[q6].length)*(64:Nat)<=(140737488355328:Nat)/\I64 (nx+q5)/\I64 (q0+q5)/\(q3<=q0/\q0<(↑op.length:Int)/\q0+q5=q0+q5)/\q3=r0.code/\nx=r0.n/\v=r1/\nx+q5=r2/\kp=r3/\qt=r4/\se=r5/\List.take q0.toNat op++List.drop (q0+q5).toNat op=r6/\sn++[q6]=r7))))) (bc (State.mk v nx kp qt se op sn) c)) (q3=r0.n/\v=r1/\nx=r2/\kp=r3/\qt=r4/\se=r5/\op=r6/\sn=r7)) (↑(distF (sn++[Snap.mk q3 q3 c.chunks false (Str.mk [])])):Int)) (0:Int)) (c.chunks.length*(8:Nat)<=(140737488355328:Nat))) (1:Int)) (Snap.mk nx c.set c.chunks false (Str.mk []))):=by kernel_rfl
theorem vp (c:Command) (v:Int) (nx:Int) (kp:Int) (qt:Int) (se:List Sess) (op:List Opn) (sn:List Snap) (h0:nch sn<=1048576) (h1:sn.length<1048576) (h2:op.length<1048576) (h3:0<=nx):Sat Try.prog (av aL) 49 [.c (.ptr 0 0),.agg (cellsOf (.nm .command) c)] [.box 26 ([.int (v),.int (nx),.int (kp),.int (qt),.own 1,.own 2,.own 3]),.row 42 (.nm .sess) (se),.row 51 (.nm .opn) (op),.row 46 (.nm .snap) (sn)] ⟨[nch sn<=1048576,sn.length<1048576,op.length<1048576,0<=nx],[.agg (cellsOf (.nm .reply) ((aN (State.mk v nx kp qt se op sn) c).2))],some ([.box 26 ([.int ((((aN (State.mk v nx kp qt se op sn) c).1).version)),.int ((((aN (State.mk v nx kp qt se op sn) c).1).next)),.int ((((aN (State.mk v nx kp qt se op sn) c).1).keep)),.int ((((aN (State.mk v nx kp qt se op sn) c).1).quota)),.own 1,.own 2,.own 3]),.row 42 (.nm .sess) ((((aN (State.mk v nx kp qt se op sn) c).1).sess)),.row 51 (.nm .opn) ((((aN (State.mk v nx kp qt se op sn) c).1).opens)),.row 46 (.nm .snap) ((((aN (State.mk v nx kp qt se op sn) c).1).snaps))]),false⟩:=by
 refine dp fK [] Try.func49 (by decide) (by kernel_rfl) ?_
 rw [uX]
 have hl:0<=bc (State.mk v nx kp qt se op sn) c->bc (State.mk v nx kp qt se op sn) c+1<=(op.length:Int):=fun h=>wD h
 (repeat' (first | with_reducible refine And.intro ?_ ?_ | with_reducible refine and_imp.2 ?_ | intro))
 all_goals (first | (first | with_reducible rfl | with_reducible assumption | omega | (refine aq ?_ ?_ <;> omega)) | (simp only [aN,mS]; grind) | (simp only [List.length_cons,List.length_nil]; omega))
theorem Eu (i:Int) (v:Int) (nx:Int) (kp:Int) (qt:Int) (se:List Sess) (op:List Opn) (sn:List Snap) (r0:Reply) (r1:Int) (r2:Int) (r3:Int) (r4:Int) (r5:List Sess) (r6:List Opn) (r7:List Snap):nK aL nG [] Try.f55 [.c (.int (i)),.c (.ptr 0 0)] [.box 26 ([.int (v),.int (nx),.int (kp),.int (qt),.own 1,.own 2,.own 3]),.row 42 (.nm .sess) (se),.row 51 (.nm .opn) (op),.row 46 (.nm .snap) (sn)] [.agg (cellsOf (.nm .reply) r0)] [.box 26 ([.int (r1),.int (r2),.int (r3),.int (r4),.own 1,.own 2,.own 3]),.row 42 (.nm .sess) (r5),.row 51 (.nm .opn) (r6),.row 46 (.nm .snap) (r7)]=((fun (q0:State × Reply)=>I64 i->((0:Int)<=i/\i<(↑sn.length:Int))/\nch sn<=(1048576:Nat)/\(I64 q0.snd.code->I64 q0.snd.n->q0.snd.code=r0.code/\q0.snd.n=r0.n/\q0.fst.version=r1/\q0.fst.next=r2/\q0.fst.keep=r3/\q0.fst.quota=r4/\q0.fst.sess=r5/\q0.fst.opens=r6/\q0.fst.snaps=r7)) (aK (State.mk v nx kp qt se op sn) i.toNat)):=by kernel_rfl
theorem Dv (i:Int) (v:Int) (nx:Int) (kp:Int) (qt:Int) (se:List Sess) (op:List Opn) (sn:List Snap) (h0:0<=i/\i<(sn.length:Int)) (h1:nch sn<=1048576):Sat Try.prog (av aL) 55 [.c (.int (i)),.c (.ptr 0 0)] [.box 26 ([.int (v),.int (nx),.int (kp),.int (qt),.own 1,.own 2,.own 3]),.row 42 (.nm .sess) (se),.row 51 (.nm .opn) (op),.row 46 (.nm .snap) (sn)] ⟨[0<=i/\i<(sn.length:Int),nch sn<=1048576],[.agg (cellsOf (.nm .reply) ((aK (State.mk v nx kp qt se op sn) i.toNat).2))],some ([.box 26 ([.int ((((aK (State.mk v nx kp qt se op sn) i.toNat).1).version)),.int ((((aK (State.mk v nx kp qt se op sn) i.toNat).1).next)),.int ((((aK (State.mk v nx kp qt se op sn) i.toNat).1).keep)),.int ((((aK (State.mk v nx kp qt se op sn) i.toNat).1).quota)),.own 1,.own 2,.own 3]),.row 42 (.nm .sess) ((((aK (State.mk v nx kp qt se op sn) i.toNat).1).sess)),.row 51 (.nm .opn) ((((aK (State.mk v nx kp qt se op sn) i.toNat).1).opens)),.row 46 (.nm .snap) ((((aK (State.mk v nx kp qt se op sn) i.toNat).1).snaps))]),false⟩:=by
 refine dp fK [] Try.func55 (by decide) (by kernel_rfl) ?_
 rw [Eu]
 (repeat' (first | with_reducible refine And.intro ?_ ?_ | with_reducible refine and_imp.2 ?_ | intro))
 all_goals (first | (first | with_reducible rfl | with_reducible assumption | omega | (refine aq ?_ ?_ <;> omega)) | exact rfl)
def il:cY:=(bX 55 (bR (ak (kC cI) (ak (kC (bL 0 0)) aU)) (ay (bK 26 (aj cI (aj cI (aj cI (aj cI (aj (ba 1) (aj (ba 2) (aj (ba 3) bG)))))))) (ay (a_ 42 (.nm .sess)) (ay (a_ 51 (.nm .opn)) (ay (a_ 46 (.nm .snap)) aR)))) fun (i,_,_) ((v,nx,kp,qt,_,_,_,_),se,op,sn,_)=>⟨[0<=i/\i<(sn.length:Int),nch sn<=1048576],[.agg (cellsOf (.nm .reply) ((aK (State.mk v nx kp qt se op sn) i.toNat).2))],some ([.box 26 ([.int ((((aK (State.mk v nx kp qt se op sn) i.toNat).1).version)),.int ((((aK (State.mk v nx kp qt se op sn) i.toNat).1).next)),.int ((((aK (State.mk v nx kp qt se op sn) i.toNat).1).keep)),.int ((((aK (State.mk v nx kp qt se op sn) i.toNat).1).quota)),.own 1,.own 2,.own 3]),.row 42 (.nm .sess) ((((aK (State.mk v nx kp qt se op sn) i.toNat).1).sess)),.row 51 (.nm .opn) ((((aK (State.mk v nx kp qt se op sn) i.toNat).1).opens)),.row 46 (.nm .snap) ((((aK (State.mk v nx kp qt se op sn) i.toNat).1).snaps))]),false⟩) (bX 49 (bR (ak (kC (bL 0 0)) (ak (kT (.nm .command)) aU)) (ay (bK 26 (aj cI (aj cI (aj cI (aj cI (aj (ba 1) (aj (ba 2) (aj (ba 3) bG)))))))) (ay (a_ 42 (.nm .sess)) (ay (a_ 51 (.nm .opn)) (ay (a_ 46 (.nm .snap)) aR)))) fun (_,c,_) ((v,nx,kp,qt,_,_,_,_),se,op,sn,_)=>⟨[nch sn<=1048576,sn.length<1048576,op.length<1048576,0<=nx],[.agg (cellsOf (.nm .reply) ((aN (State.mk v nx kp qt se op sn) c).2))],some ([.box 26 ([.int ((((aN (State.mk v nx kp qt se op sn) c).1).version)),.int ((((aN (State.mk v nx kp qt se op sn) c).1).next)),.int ((((aN (State.mk v nx kp qt se op sn) c).1).keep)),.int ((((aN (State.mk v nx kp qt se op sn) c).1).quota)),.own 1,.own 2,.own 3]),.row 42 (.nm .sess) ((((aN (State.mk v nx kp qt se op sn) c).1).sess)),.row 51 (.nm .opn) ((((aN (State.mk v nx kp qt se op sn) c).1).opens)),.row 46 (.nm .snap) ((((aN (State.mk v nx kp qt se op sn) c).1).snaps))]),false⟩) (bX 51 (bR (ak (kC (bL 0 0)) (ak (kT (.nm .command)) aU)) (ay (bK 26 (aj cI (aj cI (aj cI (aj cI (aj (ba 1) (aj (ba 2) (aj (ba 3) bG)))))))) (ay (a_ 42 (.nm .sess)) (ay (a_ 51 (.nm .opn)) (ay (a_ 46 (.nm .snap)) aR)))) fun (_,c,_) ((v,nx,kp,qt,_,_,_,_),se,op,sn,_)=>⟨[op.length<1048576],[.agg (cellsOf (.nm .reply) ((aT (State.mk v nx kp qt se op sn) c).2))],some ([.box 26 ([.int ((((aT (State.mk v nx kp qt se op sn) c).1).version)),.int ((((aT (State.mk v nx kp qt se op sn) c).1).next)),.int ((((aT (State.mk v nx kp qt se op sn) c).1).keep)),.int ((((aT (State.mk v nx kp qt se op sn) c).1).quota)),.own 1,.own 2,.own 3]),.row 42 (.nm .sess) ((((aT (State.mk v nx kp qt se op sn) c).1).sess)),.row 51 (.nm .opn) ((((aT (State.mk v nx kp qt se op sn) c).1).opens)),.row 46 (.nm .snap) ((((aT (State.mk v nx kp qt se op sn) c).1).snaps))]),false⟩) (bX 47 (bR (ak (kC (bL 0 0)) (ak (kT (.nm .command)) aU)) (ay (bK 26 (aj cI (aj cI (aj cI (aj cI (aj (ba 1) (aj (ba 2) (aj (ba 3) bG)))))))) (ay (a_ 42 (.nm .sess)) (ay (a_ 51 (.nm .opn)) (ay (a_ 46 (.nm .snap)) aR)))) fun (_,c,_) ((v,nx,kp,qt,_,_,_,_),se,op,sn,_)=>⟨[op.length<1048576],[.agg (cellsOf (.nm .reply) ((aP (State.mk v nx kp qt se op sn) c).2))],some ([.box 26 ([.int ((((aP (State.mk v nx kp qt se op sn) c).1).version)),.int ((((aP (State.mk v nx kp qt se op sn) c).1).next)),.int ((((aP (State.mk v nx kp qt se op sn) c).1).keep)),.int ((((aP (State.mk v nx kp qt se op sn) c).1).quota)),.own 1,.own 2,.own 3]),.row 42 (.nm .sess) ((((aP (State.mk v nx kp qt se op sn) c).1).sess)),.row 51 (.nm .opn) ((((aP (State.mk v nx kp qt se op sn) c).1).opens)),.row 46 (.nm .snap) ((((aP (State.mk v nx kp qt se op sn) c).1).snaps))]),false⟩) nG))))
theorem dI:bf Try.prog (av aL) il:=(aC (aB (ae (aw ax) (ae (aw aJ) ao)) (ag (aH (ab ax (ab ax (ab ax (ab ax (ab az (ab az (ab az aG)))))))) (ag aA (ag aA (ag aA al)))) fun (i,_,_) ((v,nx,kp,qt,_,_,_,_),se,op,sn,_) hp=>Dv i v nx kp qt se op sn (eO hp) (eO (nJ hp))) (aC (aB (ae (aw aJ) (ae bP ao)) (ag (aH (ab ax (ab ax (ab ax (ab ax (ab az (ab az (ab az aG)))))))) (ag aA (ag aA (ag aA al)))) fun (_,c,_) ((v,nx,kp,qt,_,_,_,_),se,op,sn,_) hp=>vp c v nx kp qt se op sn (eO hp) (eO (nJ hp)) (eO (nJ (nJ hp))) (eO (nJ (nJ (nJ hp))))) (aC (aB (ae (aw aJ) (ae bP ao)) (ag (aH (ab ax (ab ax (ab ax (ab ax (ab az (ab az (ab az aG)))))))) (ag aA (ag aA (ag aA al)))) fun (_,c,_) ((v,nx,kp,qt,_,_,_,_),se,op,sn,_) hp=>zI c v nx kp qt se op sn (eO hp)) (aC (aB (ae (aw aJ) (ae bP ao)) (ag (aH (ab ax (ab ax (ab ax (ab ax (ab az (ab az (ab az aG)))))))) (ag aA (ag aA (ag aA al)))) fun (_,c,_) ((v,nx,kp,qt,_,_,_,_),se,op,sn,_) hp=>yB c v nx kp qt se op sn (eO hp)) fK))))
end Go.Proofs.Ytmmbibcfkdabeaa
namespace Go.Proofs.Ytmmbibcfkdabeaa
open Go.RowKit
def au (f:State->Nat->State × Reply) (c:Command) (s:State):State × Reply:=if ah Snap.id c.id s.snaps<0 then (s,⟨15,0⟩) else f s (ah Snap.id c.id s.snaps).toNat
section
variable {v nx kp qt:Int} {se:List Sess} {op:List Opn} {sn:List Snap} {c:Command} {f:State->Nat->State × Reply}
theorem Gc (h:ah Snap.id c.id sn<0):au f c (State.mk v nx kp qt se op sn)=(State.mk v nx kp qt se op sn,⟨15,0⟩):=by
 simp only [au,if_pos h]
theorem FY (h:0<=ah Snap.id c.id sn):au f c (State.mk v nx kp qt se op sn)=f (State.mk v nx kp qt se op sn) (ah Snap.id c.id sn).toNat:=by
 have h1:¬ ah Snap.id c.id sn<0:=by omega
 simp only [au,if_neg h1]
end
theorem Ee (v:Int) (nx:Int) (kp:Int) (qt:Int) (se:List Sess) (op:List Opn) (sn:List Snap) (c:Command) (r0:Reply) (r1:Int) (r2:Int) (r3:Int) (r4:Int) (r5:List Sess) (r6:List Opn) (r7:List Snap) (r8:Command):nK aL il [] Try.f46 [.c (.ptr 0 0),.c (.ptr 4 0)] [.box 26 ([.int (v),.int (nx),.int (kp),.int (qt),.own 1,.own 2,.own 3]),.row 42 (.nm .sess) (se),.row 51 (.nm .opn) (op),.row 46 (.nm .snap) (sn),.box 29 (cellsOf (.nm .command) (c))] [.agg (cellsOf (.nm .reply) r0)] [.box 26 ([.int (r1),.int (r2),.int (r3),.int (r4),.own 1,.own 2,.own 3]),.row 42 (.nm .sess) (r5),.row 51 (.nm .opn) (r6),.row 46 (.nm .snap) (r7),.box 29 (cellsOf (.nm .command) (r8))]=((fun (q0:State × Reply)=>op.length<(1048576:Nat)/\(I64 q0.snd.code->I64 q0.snd.n->q0.snd.code=r0.code/\q0.snd.n=r0.n/\q0.fst.version=r1/\q0.fst.next=r2/\q0.fst.keep=r3/\q0.fst.quota=r4/\q0.fst.sess=r5/\q0.fst.opens=r6/\q0.fst.snaps=r7/\c.kind=r8.kind/\c.client=r8.client/\c.seq=r8.seq/\c.set=r8.set/\c.id=r8.id/\c.n=r8.n/\c.chunks=r8.chunks/\c.text=r8.text)) (aP (State.mk v nx kp qt se op sn) c)):=by kernel_rfl
theorem CJ (v:Int) (nx:Int) (kp:Int) (qt:Int) (se:List Sess) (op:List Opn) (sn:List Snap) (c:Command) (h0:op.length<1048576):Sat Try.prog (av aL) 46 [.c (.ptr 0 0),.c (.ptr 4 0)] [.box 26 ([.int (v),.int (nx),.int (kp),.int (qt),.own 1,.own 2,.own 3]),.row 42 (.nm .sess) (se),.row 51 (.nm .opn) (op),.row 46 (.nm .snap) (sn),.box 29 (cellsOf (.nm .command) (c))] ⟨[op.length<1048576],[.agg (cellsOf (.nm .reply) ((aP (State.mk v nx kp qt se op sn) c).2))],some ([.box 26 ([.int ((((aP (State.mk v nx kp qt se op sn) c).1).version)),.int ((((aP (State.mk v nx kp qt se op sn) c).1).next)),.int ((((aP (State.mk v nx kp qt se op sn) c).1).keep)),.int ((((aP (State.mk v nx kp qt se op sn) c).1).quota)),.own 1,.own 2,.own 3]),.row 42 (.nm .sess) ((((aP (State.mk v nx kp qt se op sn) c).1).sess)),.row 51 (.nm .opn) ((((aP (State.mk v nx kp qt se op sn) c).1).opens)),.row 46 (.nm .snap) ((((aP (State.mk v nx kp qt se op sn) c).1).snaps)),.box 29 (cellsOf (.nm .command) ((c)))]),false⟩:=by
 refine dp dI [] Try.func46 (by decide) (by kernel_rfl) ?_
 rw [Ee]
 (repeat' (first | with_reducible refine And.intro ?_ ?_ | with_reducible refine and_imp.2 ?_ | intro))
 all_goals (first | (first | with_reducible rfl | with_reducible assumption | omega | (refine aq ?_ ?_ <;> omega)) | exact rfl)
theorem DE (v:Int) (nx:Int) (kp:Int) (qt:Int) (se:List Sess) (op:List Opn) (sn:List Snap) (c:Command) (r0:Reply) (r1:Int) (r2:Int) (r3:Int) (r4:Int) (r5:List Sess) (r6:List Opn) (r7:List Snap) (r8:Command):nK aL il [] Try.f48 [.c (.ptr 0 0),.c (.ptr 4 0)] [.box 26 ([.int (v),.int (nx),.int (kp),.int (qt),.own 1,.own 2,.own 3]),.row 42 (.nm .sess) (se),.row 51 (.nm .opn) (op),.row 46 (.nm .snap) (sn),.box 29 (cellsOf (.nm .command) (c))] [.agg (cellsOf (.nm .reply) r0)] [.box 26 ([.int (r1),.int (r2),.int (r3),.int (r4),.own 1,.own 2,.own 3]),.row 42 (.nm .sess) (r5),.row 51 (.nm .opn) (r6),.row 46 (.nm .snap) (r7),.box 29 (cellsOf (.nm .command) (r8))]=((fun (q0:State × Reply)=>nch sn<=(1048576:Nat)/\sn.length<(1048576:Nat)/\op.length<(1048576:Nat)/\(0:Int)<=nx/\(I64 q0.snd.code->I64 q0.snd.n->q0.snd.code=r0.code/\q0.snd.n=r0.n/\q0.fst.version=r1/\q0.fst.next=r2/\q0.fst.keep=r3/\q0.fst.quota=r4/\q0.fst.sess=r5/\q0.fst.opens=r6/\q0.fst.snaps=r7/\c.kind=r8.kind/\c.client=r8.client/\c.seq=r8.seq/\c.set=r8.set/\c.id=r8.id/\c.n=r8.n/\c.chunks=r8.chunks/\c.text=r8.text)) (aN (State.mk v nx kp qt se op sn) c)):=by kernel_rfl
theorem Dp (v:Int) (nx:Int) (kp:Int) (qt:Int) (se:List Sess) (op:List Opn) (sn:List Snap) (c:Command) (h0:nch sn<=1048576) (h1:sn.length<1048576) (h2:op.length<1048576) (h3:0<=nx):Sat Try.prog (av aL) 48 [.c (.ptr 0 0),.c (.ptr 4 0)] [.box 26 ([.int (v),.int (nx),.int (kp),.int (qt),.own 1,.own 2,.own 3]),.row 42 (.nm .sess) (se),.row 51 (.nm .opn) (op),.row 46 (.nm .snap) (sn),.box 29 (cellsOf (.nm .command) (c))] ⟨[nch sn<=1048576,sn.length<1048576,op.length<1048576,0<=nx],[.agg (cellsOf (.nm .reply) ((aN (State.mk v nx kp qt se op sn) c).2))],some ([.box 26 ([.int ((((aN (State.mk v nx kp qt se op sn) c).1).version)),.int ((((aN (State.mk v nx kp qt se op sn) c).1).next)),.int ((((aN (State.mk v nx kp qt se op sn) c).1).keep)),.int ((((aN (State.mk v nx kp qt se op sn) c).1).quota)),.own 1,.own 2,.own 3]),.row 42 (.nm .sess) ((((aN (State.mk v nx kp qt se op sn) c).1).sess)),.row 51 (.nm .opn) ((((aN (State.mk v nx kp qt se op sn) c).1).opens)),.row 46 (.nm .snap) ((((aN (State.mk v nx kp qt se op sn) c).1).snaps)),.box 29 (cellsOf (.nm .command) ((c)))]),false⟩:=by
 refine dp dI [] Try.func48 (by decide) (by kernel_rfl) ?_
 rw [DE]
 (repeat' (first | with_reducible refine And.intro ?_ ?_ | with_reducible refine and_imp.2 ?_ | intro))
 all_goals (first | (first | with_reducible rfl | with_reducible assumption | omega | (refine aq ?_ ?_ <;> omega)) | exact rfl)
theorem CV (v:Int) (nx:Int) (kp:Int) (qt:Int) (se:List Sess) (op:List Opn) (sn:List Snap) (c:Command) (r0:Reply) (r1:Int) (r2:Int) (r3:Int) (r4:Int) (r5:List Sess) (r6:List Opn) (r7:List Snap) (r8:Command):nK aL il [] Try.f50 [.c (.ptr 0 0),.c (.ptr 4 0)] [.box 26 ([.int (v),.int (nx),.int (kp),.int (qt),.own 1,.own 2,.own 3]),.row 42 (.nm .sess) (se),.row 51 (.nm .opn) (op),.row 46 (.nm .snap) (sn),.box 29 (cellsOf (.nm .command) (c))] [.agg (cellsOf (.nm .reply) r0)] [.box 26 ([.int (r1),.int (r2),.int (r3),.int (r4),.own 1,.own 2,.own 3]),.row 42 (.nm .sess) (r5),.row 51 (.nm .opn) (r6),.row 46 (.nm .snap) (r7),.box 29 (cellsOf (.nm .command) (r8))]=((fun (q0:State × Reply)=>op.length<(1048576:Nat)/\(I64 q0.snd.code->I64 q0.snd.n->q0.snd.code=r0.code/\q0.snd.n=r0.n/\q0.fst.version=r1/\q0.fst.next=r2/\q0.fst.keep=r3/\q0.fst.quota=r4/\q0.fst.sess=r5/\q0.fst.opens=r6/\q0.fst.snaps=r7/\c.kind=r8.kind/\c.client=r8.client/\c.seq=r8.seq/\c.set=r8.set/\c.id=r8.id/\c.n=r8.n/\c.chunks=r8.chunks/\c.text=r8.text)) (aT (State.mk v nx kp qt se op sn) c)):=by kernel_rfl
theorem Et (v:Int) (nx:Int) (kp:Int) (qt:Int) (se:List Sess) (op:List Opn) (sn:List Snap) (c:Command) (h0:op.length<1048576):Sat Try.prog (av aL) 50 [.c (.ptr 0 0),.c (.ptr 4 0)] [.box 26 ([.int (v),.int (nx),.int (kp),.int (qt),.own 1,.own 2,.own 3]),.row 42 (.nm .sess) (se),.row 51 (.nm .opn) (op),.row 46 (.nm .snap) (sn),.box 29 (cellsOf (.nm .command) (c))] ⟨[op.length<1048576],[.agg (cellsOf (.nm .reply) ((aT (State.mk v nx kp qt se op sn) c).2))],some ([.box 26 ([.int ((((aT (State.mk v nx kp qt se op sn) c).1).version)),.int ((((aT (State.mk v nx kp qt se op sn) c).1).next)),.int ((((aT (State.mk v nx kp qt se op sn) c).1).keep)),.int ((((aT (State.mk v nx kp qt se op sn) c).1).quota)),.own 1,.own 2,.own 3]),.row 42 (.nm .sess) ((((aT (State.mk v nx kp qt se op sn) c).1).sess)),.row 51 (.nm .opn) ((((aT (State.mk v nx kp qt se op sn) c).1).opens)),.row 46 (.nm .snap) ((((aT (State.mk v nx kp qt se op sn) c).1).snaps)),.box 29 (cellsOf (.nm .command) ((c)))]),false⟩:=by
 refine dp dI [] Try.func50 (by decide) (by kernel_rfl) ?_
 rw [CV]
 (repeat' (first | with_reducible refine And.intro ?_ ?_ | with_reducible refine and_imp.2 ?_ | intro))
 all_goals (first | (first | with_reducible rfl | with_reducible assumption | omega | (refine aq ?_ ?_ <;> omega)) | exact rfl)
theorem pz (v:Int) (nx:Int) (kp:Int) (qt:Int) (se:List Sess) (op:List Opn) (sn:List Snap) (c:Command) (r0:Int) (r1:Int) (r2:Int) (r3:Int) (r4:List Sess) (r5:List Opn) (r6:List Snap) (r7:Command):uy aL il [] Try.f41 [.c (.fn 55 [] [(0,0)]),.c (.ptr 0 0),.c (.ptr 4 0)] [.box 26 ([.int (v),.int (nx),.int (kp),.int (qt),.own 1,.own 2,.own 3]),.row 42 (.nm .sess) (se),.row 51 (.nm .opn) (op),.row 46 (.nm .snap) (sn),.box 29 (cellsOf (.nm .command) (c))] [.c (.fn 42 [] [(0,0),(4,0),(5,0)])] [.box 26 ([.int (r0),.int (r1),.int (r2),.int (r3),.own 1,.own 2,.own 3]),.row 42 (.nm .sess) (r4),.row 51 (.nm .opn) (r5),.row 46 (.nm .snap) (r6),.box 29 (cellsOf (.nm .command) (r7)),.box 66 ([.fn 55 [] [(0,0)]])]=(v=r0/\nx=r1/\kp=r2/\qt=r3/\se=r4/\op=r5/\sn=r6/\c.kind=r7.kind/\c.client=r7.client/\c.seq=r7.seq/\c.set=r7.set/\c.id=r7.id/\c.n=r7.n/\c.chunks=r7.chunks/\c.text=r7.text):=by kernel_rfl
theorem oL (v:Int) (nx:Int) (kp:Int) (qt:Int) (se:List Sess) (op:List Opn) (sn:List Snap) (c:Command):Sat Try.prog (av aL) 41 [.c (.fn 55 [] [(0,0)]),.c (.ptr 0 0),.c (.ptr 4 0)] [.box 26 ([.int (v),.int (nx),.int (kp),.int (qt),.own 1,.own 2,.own 3]),.row 42 (.nm .sess) (se),.row 51 (.nm .opn) (op),.row 46 (.nm .snap) (sn),.box 29 (cellsOf (.nm .command) (c))] ⟨[],[.c (.fn 42 [] [(0,0),(4,0),(5,0)])],some ([.box 26 ([.int ((v)),.int ((nx)),.int ((kp)),.int ((qt)),.own 1,.own 2,.own 3]),.row 42 (.nm .sess) ((se)),.row 51 (.nm .opn) ((op)),.row 46 (.nm .snap) ((sn)),.box 29 (cellsOf (.nm .command) ((c))),.box 66 ([.fn 55 [] [(0,0)]])]),true⟩:=by
 refine eQ dI [] Try.func41 (by decide) (by kernel_rfl) ?_
 rw [pz]
 (repeat' (first | with_reducible refine And.intro ?_ ?_ | with_reducible refine and_imp.2 ?_ | intro))
 all_goals (first | (first | with_reducible rfl | with_reducible assumption | omega | (refine aq ?_ ?_ <;> omega)) | exact rfl)
theorem rH (v:Int) (nx:Int) (kp:Int) (qt:Int) (se:List Sess) (op:List Opn) (sn:List Snap) (c:Command) (r0:Int) (r1:Int) (r2:Int) (r3:Int) (r4:List Sess) (r5:List Opn) (r6:List Snap) (r7:Command):uy aL il [] Try.f41 [.c (.fn 57 [] [(0,0)]),.c (.ptr 0 0),.c (.ptr 4 0)] [.box 26 ([.int (v),.int (nx),.int (kp),.int (qt),.own 1,.own 2,.own 3]),.row 42 (.nm .sess) (se),.row 51 (.nm .opn) (op),.row 46 (.nm .snap) (sn),.box 29 (cellsOf (.nm .command) (c))] [.c (.fn 42 [] [(0,0),(4,0),(5,0)])] [.box 26 ([.int (r0),.int (r1),.int (r2),.int (r3),.own 1,.own 2,.own 3]),.row 42 (.nm .sess) (r4),.row 51 (.nm .opn) (r5),.row 46 (.nm .snap) (r6),.box 29 (cellsOf (.nm .command) (r7)),.box 66 ([.fn 57 [] [(0,0)]])]=(v=r0/\nx=r1/\kp=r2/\qt=r3/\se=r4/\op=r5/\sn=r6/\c.kind=r7.kind/\c.client=r7.client/\c.seq=r7.seq/\c.set=r7.set/\c.id=r7.id/\c.n=r7.n/\c.chunks=r7.chunks/\c.text=r7.text):=by kernel_rfl
theorem pT (v:Int) (nx:Int) (kp:Int) (qt:Int) (se:List Sess) (op:List Opn) (sn:List Snap) (c:Command):Sat Try.prog (av aL) 41 [.c (.fn 57 [] [(0,0)]),.c (.ptr 0 0),.c (.ptr 4 0)] [.box 26 ([.int (v),.int (nx),.int (kp),.int (qt),.own 1,.own 2,.own 3]),.row 42 (.nm .sess) (se),.row 51 (.nm .opn) (op),.row 46 (.nm .snap) (sn),.box 29 (cellsOf (.nm .command) (c))] ⟨[],[.c (.fn 42 [] [(0,0),(4,0),(5,0)])],some ([.box 26 ([.int ((v)),.int ((nx)),.int ((kp)),.int ((qt)),.own 1,.own 2,.own 3]),.row 42 (.nm .sess) ((se)),.row 51 (.nm .opn) ((op)),.row 46 (.nm .snap) ((sn)),.box 29 (cellsOf (.nm .command) ((c))),.box 66 ([.fn 57 [] [(0,0)]])]),true⟩:=by
 refine eQ dI [] Try.func41 (by decide) (by kernel_rfl) ?_
 rw [rH]
 (repeat' (first | with_reducible refine And.intro ?_ ?_ | with_reducible refine and_imp.2 ?_ | intro))
 all_goals (first | (first | with_reducible rfl | with_reducible assumption | omega | (refine aq ?_ ?_ <;> omega)) | exact rfl)
theorem sY (c:Command) (v:Int) (nx:Int) (kp:Int) (qt:Int) (se:List Sess) (op:List Opn) (sn:List Snap) (r0:Command) (r1:Int) (r2:Int) (r3:Int) (r4:Int) (r5:List Sess) (r6:List Opn) (r7:List Snap):uy aL il [] Try.f41 [.c (.fn 58 [] [(0,0),(1,0)]),.c (.ptr 1 0),.c (.ptr 0 0)] [.box 29 (cellsOf (.nm .command) (c)),.box 26 ([.int (v),.int (nx),.int (kp),.int (qt),.own 2,.own 3,.own 4]),.row 42 (.nm .sess) (se),.row 51 (.nm .opn) (op),.row 46 (.nm .snap) (sn)] [.c (.fn 42 [] [(1,0),(0,0),(5,0)])] [.box 29 (cellsOf (.nm .command) (r0)),.box 26 ([.int (r1),.int (r2),.int (r3),.int (r4),.own 2,.own 3,.own 4]),.row 42 (.nm .sess) (r5),.row 51 (.nm .opn) (r6),.row 46 (.nm .snap) (r7),.box 66 ([.fn 58 [] [(0,0),(1,0)]])]=(c.kind=r0.kind/\c.client=r0.client/\c.seq=r0.seq/\c.set=r0.set/\c.id=r0.id/\c.n=r0.n/\c.chunks=r0.chunks/\c.text=r0.text/\v=r1/\nx=r2/\kp=r3/\qt=r4/\se=r5/\op=r6/\sn=r7):=by kernel_rfl
theorem sT (c:Command) (v:Int) (nx:Int) (kp:Int) (qt:Int) (se:List Sess) (op:List Opn) (sn:List Snap):Sat Try.prog (av aL) 41 [.c (.fn 58 [] [(0,0),(1,0)]),.c (.ptr 1 0),.c (.ptr 0 0)] [.box 29 (cellsOf (.nm .command) (c)),.box 26 ([.int (v),.int (nx),.int (kp),.int (qt),.own 2,.own 3,.own 4]),.row 42 (.nm .sess) (se),.row 51 (.nm .opn) (op),.row 46 (.nm .snap) (sn)] ⟨[],[.c (.fn 42 [] [(1,0),(0,0),(5,0)])],some ([.box 29 (cellsOf (.nm .command) ((c))),.box 26 ([.int ((v)),.int ((nx)),.int ((kp)),.int ((qt)),.own 2,.own 3,.own 4]),.row 42 (.nm .sess) ((se)),.row 51 (.nm .opn) ((op)),.row 46 (.nm .snap) ((sn)),.box 66 ([.fn 58 [] [(0,0),(1,0)]])]),true⟩:=by
 refine eQ dI [] Try.func41 (by decide) (by kernel_rfl) ?_
 rw [sY]
 (repeat' (first | with_reducible refine And.intro ?_ ?_ | with_reducible refine and_imp.2 ?_ | intro))
 all_goals (first | (first | with_reducible rfl | with_reducible assumption | omega | (refine aq ?_ ?_ <;> omega)) | exact rfl)
theorem qa (v:Int) (nx:Int) (kp:Int) (qt:Int) (se:List Sess) (op:List Opn) (sn:List Snap) (b:Bool) (c:Command) (r0:Int) (r1:Int) (r2:Int) (r3:Int) (r4:List Sess) (r5:List Opn) (r6:List Snap) (r7:Bool) (r8:Command):uy aL il [] Try.f41 [.c (.fn 45 [] [(0,0),(4,0)]),.c (.ptr 0 0),.c (.ptr 5 0)] [.box 26 ([.int (v),.int (nx),.int (kp),.int (qt),.own 1,.own 2,.own 3]),.row 42 (.nm .sess) (se),.row 51 (.nm .opn) (op),.row 46 (.nm .snap) (sn),.box 4 ([.bool (.atom (b))]),.box 29 (cellsOf (.nm .command) (c))] [.c (.fn 42 [] [(0,0),(5,0),(6,0)])] [.box 26 ([.int (r0),.int (r1),.int (r2),.int (r3),.own 1,.own 2,.own 3]),.row 42 (.nm .sess) (r4),.row 51 (.nm .opn) (r5),.row 46 (.nm .snap) (r6),.box 4 ([.bool (.atom (r7))]),.box 29 (cellsOf (.nm .command) (r8)),.box 66 ([.fn 45 [] [(0,0),(4,0)]])]=(v=r0/\nx=r1/\kp=r2/\qt=r3/\se=r4/\op=r5/\sn=r6/\b=r7/\c.kind=r8.kind/\c.client=r8.client/\c.seq=r8.seq/\c.set=r8.set/\c.id=r8.id/\c.n=r8.n/\c.chunks=r8.chunks/\c.text=r8.text):=by kernel_rfl
theorem pO (v:Int) (nx:Int) (kp:Int) (qt:Int) (se:List Sess) (op:List Opn) (sn:List Snap) (b:Bool) (c:Command):Sat Try.prog (av aL) 41 [.c (.fn 45 [] [(0,0),(4,0)]),.c (.ptr 0 0),.c (.ptr 5 0)] [.box 26 ([.int (v),.int (nx),.int (kp),.int (qt),.own 1,.own 2,.own 3]),.row 42 (.nm .sess) (se),.row 51 (.nm .opn) (op),.row 46 (.nm .snap) (sn),.box 4 ([.bool (.atom (b))]),.box 29 (cellsOf (.nm .command) (c))] ⟨[],[.c (.fn 42 [] [(0,0),(5,0),(6,0)])],some ([.box 26 ([.int ((v)),.int ((nx)),.int ((kp)),.int ((qt)),.own 1,.own 2,.own 3]),.row 42 (.nm .sess) ((se)),.row 51 (.nm .opn) ((op)),.row 46 (.nm .snap) ((sn)),.box 4 ([.bool (.atom ((b)))]),.box 29 (cellsOf (.nm .command) ((c))),.box 66 ([.fn 45 [] [(0,0),(4,0)]])]),true⟩:=by
 refine eQ dI [] Try.func41 (by decide) (by kernel_rfl) ?_
 rw [qa]
 (repeat' (first | with_reducible refine And.intro ?_ ?_ | with_reducible refine and_imp.2 ?_ | intro))
 all_goals (first | (first | with_reducible rfl | with_reducible assumption | omega | (refine aq ?_ ?_ <;> omega)) | exact rfl)
def mc:cY:=(bX 41 (bR (ak (kC (mN 45 [] [(0,0),(4,0)])) (ak (kC (bL 0 0)) (ak (kC (bL 5 0)) aU))) (ay (bK 26 (aj cI (aj cI (aj cI (aj cI (aj (ba 1) (aj (ba 2) (aj (ba 3) bG)))))))) (ay (a_ 42 (.nm .sess)) (ay (a_ 51 (.nm .opn)) (ay (a_ 46 (.nm .snap)) (ay (bK 4 (aj cB bG)) (ay (bK 29 (pL (.nm .command) bG)) aR)))))) fun (_,_,_,_) ((v,nx,kp,qt,_,_,_,_),se,op,sn,(b,_),(c,_),_)=>⟨[],[.c (.fn 42 [] [(0,0),(5,0),(6,0)])],some ([.box 26 ([.int ((v)),.int ((nx)),.int ((kp)),.int ((qt)),.own 1,.own 2,.own 3]),.row 42 (.nm .sess) ((se)),.row 51 (.nm .opn) ((op)),.row 46 (.nm .snap) ((sn)),.box 4 ([.bool (.atom ((b)))]),.box 29 (cellsOf (.nm .command) ((c))),.box 66 ([.fn 45 [] [(0,0),(4,0)]])]),true⟩) (bX 41 (bR (ak (kC (mN 58 [] [(0,0),(1,0)])) (ak (kC (bL 1 0)) (ak (kC (bL 0 0)) aU))) (ay (bK 29 (pL (.nm .command) bG)) (ay (bK 26 (aj cI (aj cI (aj cI (aj cI (aj (ba 2) (aj (ba 3) (aj (ba 4) bG)))))))) (ay (a_ 42 (.nm .sess)) (ay (a_ 51 (.nm .opn)) (ay (a_ 46 (.nm .snap)) aR))))) fun (_,_,_,_) ((c,_),(v,nx,kp,qt,_,_,_,_),se,op,sn,_)=>⟨[],[.c (.fn 42 [] [(1,0),(0,0),(5,0)])],some ([.box 29 (cellsOf (.nm .command) ((c))),.box 26 ([.int ((v)),.int ((nx)),.int ((kp)),.int ((qt)),.own 2,.own 3,.own 4]),.row 42 (.nm .sess) ((se)),.row 51 (.nm .opn) ((op)),.row 46 (.nm .snap) ((sn)),.box 66 ([.fn 58 [] [(0,0),(1,0)]])]),true⟩) (bX 41 (bR (ak (kC (mN 57 [] [(0,0)])) (ak (kC (bL 0 0)) (ak (kC (bL 4 0)) aU))) (ay (bK 26 (aj cI (aj cI (aj cI (aj cI (aj (ba 1) (aj (ba 2) (aj (ba 3) bG)))))))) (ay (a_ 42 (.nm .sess)) (ay (a_ 51 (.nm .opn)) (ay (a_ 46 (.nm .snap)) (ay (bK 29 (pL (.nm .command) bG)) aR))))) fun (_,_,_,_) ((v,nx,kp,qt,_,_,_,_),se,op,sn,(c,_),_)=>⟨[],[.c (.fn 42 [] [(0,0),(4,0),(5,0)])],some ([.box 26 ([.int ((v)),.int ((nx)),.int ((kp)),.int ((qt)),.own 1,.own 2,.own 3]),.row 42 (.nm .sess) ((se)),.row 51 (.nm .opn) ((op)),.row 46 (.nm .snap) ((sn)),.box 29 (cellsOf (.nm .command) ((c))),.box 66 ([.fn 57 [] [(0,0)]])]),true⟩) (bX 41 (bR (ak (kC (mN 55 [] [(0,0)])) (ak (kC (bL 0 0)) (ak (kC (bL 4 0)) aU))) (ay (bK 26 (aj cI (aj cI (aj cI (aj cI (aj (ba 1) (aj (ba 2) (aj (ba 3) bG)))))))) (ay (a_ 42 (.nm .sess)) (ay (a_ 51 (.nm .opn)) (ay (a_ 46 (.nm .snap)) (ay (bK 29 (pL (.nm .command) bG)) aR))))) fun (_,_,_,_) ((v,nx,kp,qt,_,_,_,_),se,op,sn,(c,_),_)=>⟨[],[.c (.fn 42 [] [(0,0),(4,0),(5,0)])],some ([.box 26 ([.int ((v)),.int ((nx)),.int ((kp)),.int ((qt)),.own 1,.own 2,.own 3]),.row 42 (.nm .sess) ((se)),.row 51 (.nm .opn) ((op)),.row 46 (.nm .snap) ((sn)),.box 29 (cellsOf (.nm .command) ((c))),.box 66 ([.fn 55 [] [(0,0)]])]),true⟩) (bX 50 (bR (ak (kC (bL 0 0)) (ak (kC (bL 4 0)) aU)) (ay (bK 26 (aj cI (aj cI (aj cI (aj cI (aj (ba 1) (aj (ba 2) (aj (ba 3) bG)))))))) (ay (a_ 42 (.nm .sess)) (ay (a_ 51 (.nm .opn)) (ay (a_ 46 (.nm .snap)) (ay (bK 29 (pL (.nm .command) bG)) aR))))) fun (_,_,_) ((v,nx,kp,qt,_,_,_,_),se,op,sn,(c,_),_)=>⟨[op.length<1048576],[.agg (cellsOf (.nm .reply) ((aT (State.mk v nx kp qt se op sn) c).2))],some ([.box 26 ([.int ((((aT (State.mk v nx kp qt se op sn) c).1).version)),.int ((((aT (State.mk v nx kp qt se op sn) c).1).next)),.int ((((aT (State.mk v nx kp qt se op sn) c).1).keep)),.int ((((aT (State.mk v nx kp qt se op sn) c).1).quota)),.own 1,.own 2,.own 3]),.row 42 (.nm .sess) ((((aT (State.mk v nx kp qt se op sn) c).1).sess)),.row 51 (.nm .opn) ((((aT (State.mk v nx kp qt se op sn) c).1).opens)),.row 46 (.nm .snap) ((((aT (State.mk v nx kp qt se op sn) c).1).snaps)),.box 29 (cellsOf (.nm .command) ((c)))]),false⟩) (bX 48 (bR (ak (kC (bL 0 0)) (ak (kC (bL 4 0)) aU)) (ay (bK 26 (aj cI (aj cI (aj cI (aj cI (aj (ba 1) (aj (ba 2) (aj (ba 3) bG)))))))) (ay (a_ 42 (.nm .sess)) (ay (a_ 51 (.nm .opn)) (ay (a_ 46 (.nm .snap)) (ay (bK 29 (pL (.nm .command) bG)) aR))))) fun (_,_,_) ((v,nx,kp,qt,_,_,_,_),se,op,sn,(c,_),_)=>⟨[nch sn<=1048576,sn.length<1048576,op.length<1048576,0<=nx],[.agg (cellsOf (.nm .reply) ((aN (State.mk v nx kp qt se op sn) c).2))],some ([.box 26 ([.int ((((aN (State.mk v nx kp qt se op sn) c).1).version)),.int ((((aN (State.mk v nx kp qt se op sn) c).1).next)),.int ((((aN (State.mk v nx kp qt se op sn) c).1).keep)),.int ((((aN (State.mk v nx kp qt se op sn) c).1).quota)),.own 1,.own 2,.own 3]),.row 42 (.nm .sess) ((((aN (State.mk v nx kp qt se op sn) c).1).sess)),.row 51 (.nm .opn) ((((aN (State.mk v nx kp qt se op sn) c).1).opens)),.row 46 (.nm .snap) ((((aN (State.mk v nx kp qt se op sn) c).1).snaps)),.box 29 (cellsOf (.nm .command) ((c)))]),false⟩) (bX 46 (bR (ak (kC (bL 0 0)) (ak (kC (bL 4 0)) aU)) (ay (bK 26 (aj cI (aj cI (aj cI (aj cI (aj (ba 1) (aj (ba 2) (aj (ba 3) bG)))))))) (ay (a_ 42 (.nm .sess)) (ay (a_ 51 (.nm .opn)) (ay (a_ 46 (.nm .snap)) (ay (bK 29 (pL (.nm .command) bG)) aR))))) fun (_,_,_) ((v,nx,kp,qt,_,_,_,_),se,op,sn,(c,_),_)=>⟨[op.length<1048576],[.agg (cellsOf (.nm .reply) ((aP (State.mk v nx kp qt se op sn) c).2))],some ([.box 26 ([.int ((((aP (State.mk v nx kp qt se op sn) c).1).version)),.int ((((aP (State.mk v nx kp qt se op sn) c).1).next)),.int ((((aP (State.mk v nx kp qt se op sn) c).1).keep)),.int ((((aP (State.mk v nx kp qt se op sn) c).1).quota)),.own 1,.own 2,.own 3]),.row 42 (.nm .sess) ((((aP (State.mk v nx kp qt se op sn) c).1).sess)),.row 51 (.nm .opn) ((((aP (State.mk v nx kp qt se op sn) c).1).opens)),.row 46 (.nm .snap) ((((aP (State.mk v nx kp qt se op sn) c).1).snaps)),.box 29 (cellsOf (.nm .command) ((c)))]),false⟩) il)))))))
theorem eY:bf Try.prog (av aL) mc:=(aC (aB (ae (aw ck) (ae (aw aJ) (ae (aw aJ) ao))) (ag (aH (ab ax (ab ax (ab ax (ab ax (ab az (ab az (ab az aG)))))))) (ag aA (ag aA (ag aA (ag (aH (ab qK aG)) (ag (aH (cK aG)) al)))))) fun (_,_,_,_) ((v,nx,kp,qt,_,_,_,_),se,op,sn,(b,_),(c,_),_) _=>pO v nx kp qt se op sn b c ) (aC (aB (ae (aw ck) (ae (aw aJ) (ae (aw aJ) ao))) (ag (aH (cK aG)) (ag (aH (ab ax (ab ax (ab ax (ab ax (ab az (ab az (ab az aG)))))))) (ag aA (ag aA (ag aA al))))) fun (_,_,_,_) ((c,_),(v,nx,kp,qt,_,_,_,_),se,op,sn,_) _=>sT c v nx kp qt se op sn ) (aC (aB (ae (aw ck) (ae (aw aJ) (ae (aw aJ) ao))) (ag (aH (ab ax (ab ax (ab ax (ab ax (ab az (ab az (ab az aG)))))))) (ag aA (ag aA (ag aA (ag (aH (cK aG)) al))))) fun (_,_,_,_) ((v,nx,kp,qt,_,_,_,_),se,op,sn,(c,_),_) _=>pT v nx kp qt se op sn c ) (aC (aB (ae (aw ck) (ae (aw aJ) (ae (aw aJ) ao))) (ag (aH (ab ax (ab ax (ab ax (ab ax (ab az (ab az (ab az aG)))))))) (ag aA (ag aA (ag aA (ag (aH (cK aG)) al))))) fun (_,_,_,_) ((v,nx,kp,qt,_,_,_,_),se,op,sn,(c,_),_) _=>oL v nx kp qt se op sn c ) (aC (aB (ae (aw aJ) (ae (aw aJ) ao)) (ag (aH (ab ax (ab ax (ab ax (ab ax (ab az (ab az (ab az aG)))))))) (ag aA (ag aA (ag aA (ag (aH (cK aG)) al))))) fun (_,_,_) ((v,nx,kp,qt,_,_,_,_),se,op,sn,(c,_),_) hp=>Et v nx kp qt se op sn c (eO hp)) (aC (aB (ae (aw aJ) (ae (aw aJ) ao)) (ag (aH (ab ax (ab ax (ab ax (ab ax (ab az (ab az (ab az aG)))))))) (ag aA (ag aA (ag aA (ag (aH (cK aG)) al))))) fun (_,_,_) ((v,nx,kp,qt,_,_,_,_),se,op,sn,(c,_),_) hp=>Dp v nx kp qt se op sn c (eO hp) (eO (nJ hp)) (eO (nJ (nJ hp))) (eO (nJ (nJ (nJ hp))))) (aC (aB (ae (aw aJ) (ae (aw aJ) ao)) (ag (aH (ab ax (ab ax (ab ax (ab ax (ab az (ab az (ab az aG)))))))) (ag aA (ag aA (ag aA (ag (aH (cK aG)) al))))) fun (_,_,_) ((v,nx,kp,qt,_,_,_,_),se,op,sn,(c,_),_) hp=>CJ v nx kp qt se op sn c (eO hp)) dI)))))))
end Go.Proofs.Ytmmbibcfkdabeaa
namespace Go.Proofs.Ytmmbibcfkdabeaa
open Go.RowKit
theorem CK (b:Bool) (v:Int) (nx:Int) (kp:Int) (qt:Int) (se:List Sess) (op:List Opn) (sn:List Snap) (c:Command) (r0:Int) (r1:Int) (r2:Int) (r3:Int) (r4:List Sess) (r5:List Opn) (r6:List Snap) (r7:Command) (r8:Bool):uy aL mc [] Try.f44 [.c (.bool (.atom (b))),.c (.ptr 0 0),.c (.ptr 1 0)] [.box 68 ([.fn 41 [] [(1,0),(5,0)]]),.box 26 ([.int (v),.int (nx),.int (kp),.int (qt),.own 2,.own 3,.own 4]),.row 42 (.nm .sess) (se),.row 51 (.nm .opn) (op),.row 46 (.nm .snap) (sn),.box 29 (cellsOf (.nm .command) (c))] [.c (.fn 42 [] [(1,0),(5,0),(7,0)])] [.box 68 ([.fn 41 [] [(1,0),(5,0)]]),.box 26 ([.int (r0),.int (r1),.int (r2),.int (r3),.own 2,.own 3,.own 4]),.row 42 (.nm .sess) (r4),.row 51 (.nm .opn) (r5),.row 46 (.nm .snap) (r6),.box 29 (cellsOf (.nm .command) (r7)),.box 4 ([.bool (.atom (r8))]),.box 66 ([.fn 45 [] [(1,0),(6,0)]])]=(v=r0/\nx=r1/\kp=r2/\qt=r3/\se=r4/\op=r5/\sn=r6/\c.kind=r7.kind/\c.client=r7.client/\c.seq=r7.seq/\c.set=r7.set/\c.id=r7.id/\c.n=r7.n/\c.chunks=r7.chunks/\c.text=r7.text/\b=r8):=by kernel_rfl
theorem Ej (b:Bool) (v:Int) (nx:Int) (kp:Int) (qt:Int) (se:List Sess) (op:List Opn) (sn:List Snap) (c:Command):Sat Try.prog (av aL) 44 [.c (.bool (.atom (b))),.c (.ptr 0 0),.c (.ptr 1 0)] [.box 68 ([.fn 41 [] [(1,0),(5,0)]]),.box 26 ([.int (v),.int (nx),.int (kp),.int (qt),.own 2,.own 3,.own 4]),.row 42 (.nm .sess) (se),.row 51 (.nm .opn) (op),.row 46 (.nm .snap) (sn),.box 29 (cellsOf (.nm .command) (c))] ⟨[],[.c (.fn 42 [] [(1,0),(5,0),(7,0)])],some ([.box 68 ([.fn 41 [] [(1,0),(5,0)]]),.box 26 ([.int ((v)),.int ((nx)),.int ((kp)),.int ((qt)),.own 2,.own 3,.own 4]),.row 42 (.nm .sess) ((se)),.row 51 (.nm .opn) ((op)),.row 46 (.nm .snap) ((sn)),.box 29 (cellsOf (.nm .command) ((c))),.box 4 ([.bool (.atom ((b)))]),.box 66 ([.fn 45 [] [(1,0),(6,0)]])]),true⟩:=by
 refine eQ eY [] Try.func44 (by decide) (by kernel_rfl) ?_
 rw [CK]
 (repeat' (first | with_reducible refine And.intro ?_ ?_ | with_reducible refine and_imp.2 ?_ | intro))
 all_goals (first | (first | with_reducible rfl | with_reducible assumption | omega | (refine aq ?_ ?_ <;> omega)) | exact rfl)
theorem tf (v:Int) (nx:Int) (kp:Int) (qt:Int) (se:List Sess) (op:List Opn) (sn:List Snap) (c:Command) (r0:Reply) (r1:Int) (r2:Int) (r3:Int) (r4:Int) (r5:List Sess) (r6:List Opn) (r7:List Snap) (r8:Command):nK aL mc [] Try.f42 [.c (.ptr 0 0),.c (.ptr 4 0),.c (.ptr 5 0)] [.box 26 ([.int (v),.int (nx),.int (kp),.int (qt),.own 1,.own 2,.own 3]),.row 42 (.nm .sess) (se),.row 51 (.nm .opn) (op),.row 46 (.nm .snap) (sn),.box 29 (cellsOf (.nm .command) (c)),.box 66 ([.fn 55 [] [(0,0)]])] [.agg (cellsOf (.nm .reply) r0)] [.box 26 ([.int (r1),.int (r2),.int (r3),.int (r4),.own 1,.own 2,.own 3]),.row 42 (.nm .sess) (r5),.row 51 (.nm .opn) (r6),.row 46 (.nm .snap) (r7),.box 29 (cellsOf (.nm .command) (r8)),.box 66 ([.fn 55 [] [(0,0)]])]=((fun (q2:Int)=>(fun (q1:Prop)=>(fun (q0:State × Reply)=>I64 q2->(q2<(0:Int)->I64 (15:Int)->I64 (0:Int)->(15:Int)=r0.code/\(0:Int)=r0.n/\v=r1/\nx=r2/\kp=r3/\qt=r4/\se=r5/\op=r6/\sn=r7/\q1)/\((0:Int)<=q2->((0:Int)<=q2/\q2<(↑sn.length:Int))/\nch sn<=(1048576:Nat)/\(I64 q0.snd.code->I64 q0.snd.n->q0.snd.code=r0.code/\q0.snd.n=r0.n/\q0.fst.version=r1/\q0.fst.next=r2/\q0.fst.keep=r3/\q0.fst.quota=r4/\q0.fst.sess=r5/\q0.fst.opens=r6/\q0.fst.snaps=r7/\q1))) (aK (State.mk v nx kp qt se op sn) q2.toNat)) (c.kind=r8.kind/\c.client=r8.client/\c.seq=r8.seq/\c.set=r8.set/\c.id=r8.id/\c.n=r8.n/\c.chunks=r8.chunks/\c.text=r8.text)) (ah Snap.id c.id sn)):=by kernel_rfl
theorem sR (v:Int) (nx:Int) (kp:Int) (qt:Int) (se:List Sess) (op:List Opn) (sn:List Snap) (c:Command) (h0:nch sn<=1048576):Sat Try.prog (av aL) 42 [.c (.ptr 0 0),.c (.ptr 4 0),.c (.ptr 5 0)] [.box 26 ([.int (v),.int (nx),.int (kp),.int (qt),.own 1,.own 2,.own 3]),.row 42 (.nm .sess) (se),.row 51 (.nm .opn) (op),.row 46 (.nm .snap) (sn),.box 29 (cellsOf (.nm .command) (c)),.box 66 ([.fn 55 [] [(0,0)]])] ⟨[nch sn<=1048576],[.agg (cellsOf (.nm .reply) ((au aK c (State.mk v nx kp qt se op sn)).2))],some ([.box 26 ([.int ((((au aK c (State.mk v nx kp qt se op sn)).1).version)),.int ((((au aK c (State.mk v nx kp qt se op sn)).1).next)),.int ((((au aK c (State.mk v nx kp qt se op sn)).1).keep)),.int ((((au aK c (State.mk v nx kp qt se op sn)).1).quota)),.own 1,.own 2,.own 3]),.row 42 (.nm .sess) ((((au aK c (State.mk v nx kp qt se op sn)).1).sess)),.row 51 (.nm .opn) ((((au aK c (State.mk v nx kp qt se op sn)).1).opens)),.row 46 (.nm .snap) ((((au aK c (State.mk v nx kp qt se op sn)).1).snaps)),.box 29 (cellsOf (.nm .command) ((c))),.box 66 ([.fn 55 [] [(0,0)]])]),false⟩:=by
 refine dp eY [] Try.func42 (by decide) (by kernel_rfl) ?_
 rw [tf]
 (repeat' (first | with_reducible refine And.intro ?_ ?_ | with_reducible refine and_imp.2 ?_ | intro))
 all_goals (first | (first | with_reducible rfl | with_reducible assumption | omega | (refine aq ?_ ?_ <;> omega)) | exact bj (by with_reducible assumption) | (rw [Gc] <;> first | rfl | omega) | (rw [FY] <;> first | rfl | omega))
theorem vW (v:Int) (nx:Int) (kp:Int) (qt:Int) (se:List Sess) (op:List Opn) (sn:List Snap) (c:Command) (r0:Reply) (r1:Int) (r2:Int) (r3:Int) (r4:Int) (r5:List Sess) (r6:List Opn) (r7:List Snap) (r8:Command):nK aL mc [] Try.f42 [.c (.ptr 0 0),.c (.ptr 4 0),.c (.ptr 5 0)] [.box 26 ([.int (v),.int (nx),.int (kp),.int (qt),.own 1,.own 2,.own 3]),.row 42 (.nm .sess) (se),.row 51 (.nm .opn) (op),.row 46 (.nm .snap) (sn),.box 29 (cellsOf (.nm .command) (c)),.box 66 ([.fn 57 [] [(0,0)]])] [.agg (cellsOf (.nm .reply) r0)] [.box 26 ([.int (r1),.int (r2),.int (r3),.int (r4),.own 1,.own 2,.own 3]),.row 42 (.nm .sess) (r5),.row 51 (.nm .opn) (r6),.row 46 (.nm .snap) (r7),.box 29 (cellsOf (.nm .command) (r8)),.box 66 ([.fn 57 [] [(0,0)]])]=((fun (q2:Int)=>(fun (q1:Prop)=>(fun (q0:State × Reply)=>I64 q2->(q2<(0:Int)->I64 (15:Int)->I64 (0:Int)->(15:Int)=r0.code/\(0:Int)=r0.n/\v=r1/\nx=r2/\kp=r3/\qt=r4/\se=r5/\op=r6/\sn=r7/\q1)/\((0:Int)<=q2->((0:Int)<=q2/\q2<(↑sn.length:Int))/\(I64 q0.snd.code->I64 q0.snd.n->q0.snd.code=r0.code/\q0.snd.n=r0.n/\q0.fst.version=r1/\q0.fst.next=r2/\q0.fst.keep=r3/\q0.fst.quota=r4/\q0.fst.sess=r5/\q0.fst.opens=r6/\q0.fst.snaps=r7/\q1))) (bb (State.mk v nx kp qt se op sn) q2.toNat)) (c.kind=r8.kind/\c.client=r8.client/\c.seq=r8.seq/\c.set=r8.set/\c.id=r8.id/\c.n=r8.n/\c.chunks=r8.chunks/\c.text=r8.text)) (ah Snap.id c.id sn)):=by kernel_rfl
theorem wc (v:Int) (nx:Int) (kp:Int) (qt:Int) (se:List Sess) (op:List Opn) (sn:List Snap) (c:Command):Sat Try.prog (av aL) 42 [.c (.ptr 0 0),.c (.ptr 4 0),.c (.ptr 5 0)] [.box 26 ([.int (v),.int (nx),.int (kp),.int (qt),.own 1,.own 2,.own 3]),.row 42 (.nm .sess) (se),.row 51 (.nm .opn) (op),.row 46 (.nm .snap) (sn),.box 29 (cellsOf (.nm .command) (c)),.box 66 ([.fn 57 [] [(0,0)]])] ⟨[],[.agg (cellsOf (.nm .reply) ((au bb c (State.mk v nx kp qt se op sn)).2))],some ([.box 26 ([.int ((((au bb c (State.mk v nx kp qt se op sn)).1).version)),.int ((((au bb c (State.mk v nx kp qt se op sn)).1).next)),.int ((((au bb c (State.mk v nx kp qt se op sn)).1).keep)),.int ((((au bb c (State.mk v nx kp qt se op sn)).1).quota)),.own 1,.own 2,.own 3]),.row 42 (.nm .sess) ((((au bb c (State.mk v nx kp qt se op sn)).1).sess)),.row 51 (.nm .opn) ((((au bb c (State.mk v nx kp qt se op sn)).1).opens)),.row 46 (.nm .snap) ((((au bb c (State.mk v nx kp qt se op sn)).1).snaps)),.box 29 (cellsOf (.nm .command) ((c))),.box 66 ([.fn 57 [] [(0,0)]])]),false⟩:=by
 refine dp eY [] Try.func42 (by decide) (by kernel_rfl) ?_
 rw [vW]
 (repeat' (first | with_reducible refine And.intro ?_ ?_ | with_reducible refine and_imp.2 ?_ | intro))
 all_goals (first | (first | with_reducible rfl | with_reducible assumption | omega | (refine aq ?_ ?_ <;> omega)) | exact bj (by with_reducible assumption) | (rw [Gc] <;> first | rfl | omega) | (rw [FY] <;> first | rfl | omega))
theorem yD (v:Int) (nx:Int) (kp:Int) (qt:Int) (se:List Sess) (op:List Opn) (sn:List Snap) (c:Command) (r0:Reply) (r1:Int) (r2:Int) (r3:Int) (r4:Int) (r5:List Sess) (r6:List Opn) (r7:List Snap) (r8:Command):nK aL mc [] Try.f42 [.c (.ptr 0 0),.c (.ptr 4 0),.c (.ptr 5 0)] [.box 26 ([.int (v),.int (nx),.int (kp),.int (qt),.own 1,.own 2,.own 3]),.row 42 (.nm .sess) (se),.row 51 (.nm .opn) (op),.row 46 (.nm .snap) (sn),.box 29 (cellsOf (.nm .command) (c)),.box 66 ([.fn 58 [] [(4,0),(0,0)]])] [.agg (cellsOf (.nm .reply) r0)] [.box 26 ([.int (r1),.int (r2),.int (r3),.int (r4),.own 1,.own 2,.own 3]),.row 42 (.nm .sess) (r5),.row 51 (.nm .opn) (r6),.row 46 (.nm .snap) (r7),.box 29 (cellsOf (.nm .command) (r8)),.box 66 ([.fn 58 [] [(4,0),(0,0)]])]=((fun (q2:Int)=>(fun (q1:Prop)=>(fun (q0:State × Reply)=>I64 q2->(q2<(0:Int)->I64 (15:Int)->I64 (0:Int)->(15:Int)=r0.code/\(0:Int)=r0.n/\v=r1/\nx=r2/\kp=r3/\qt=r4/\se=r5/\op=r6/\sn=r7/\q1)/\((0:Int)<=q2->((0:Int)<=q2/\q2<(↑sn.length:Int))/\(I64 q0.snd.code->I64 q0.snd.n->q0.snd.code=r0.code/\q0.snd.n=r0.n/\q0.fst.version=r1/\q0.fst.next=r2/\q0.fst.keep=r3/\q0.fst.quota=r4/\q0.fst.sess=r5/\q0.fst.opens=r6/\q0.fst.snaps=r7/\q1))) (ct c (State.mk v nx kp qt se op sn) q2.toNat)) (c.kind=r8.kind/\c.client=r8.client/\c.seq=r8.seq/\c.set=r8.set/\c.id=r8.id/\c.n=r8.n/\c.chunks=r8.chunks/\c.text=r8.text)) (ah Snap.id c.id sn)):=by kernel_rfl
theorem zo (v:Int) (nx:Int) (kp:Int) (qt:Int) (se:List Sess) (op:List Opn) (sn:List Snap) (c:Command):Sat Try.prog (av aL) 42 [.c (.ptr 0 0),.c (.ptr 4 0),.c (.ptr 5 0)] [.box 26 ([.int (v),.int (nx),.int (kp),.int (qt),.own 1,.own 2,.own 3]),.row 42 (.nm .sess) (se),.row 51 (.nm .opn) (op),.row 46 (.nm .snap) (sn),.box 29 (cellsOf (.nm .command) (c)),.box 66 ([.fn 58 [] [(4,0),(0,0)]])] ⟨[],[.agg (cellsOf (.nm .reply) ((au (ct c) c (State.mk v nx kp qt se op sn)).2))],some ([.box 26 ([.int ((((au (ct c) c (State.mk v nx kp qt se op sn)).1).version)),.int ((((au (ct c) c (State.mk v nx kp qt se op sn)).1).next)),.int ((((au (ct c) c (State.mk v nx kp qt se op sn)).1).keep)),.int ((((au (ct c) c (State.mk v nx kp qt se op sn)).1).quota)),.own 1,.own 2,.own 3]),.row 42 (.nm .sess) ((((au (ct c) c (State.mk v nx kp qt se op sn)).1).sess)),.row 51 (.nm .opn) ((((au (ct c) c (State.mk v nx kp qt se op sn)).1).opens)),.row 46 (.nm .snap) ((((au (ct c) c (State.mk v nx kp qt se op sn)).1).snaps)),.box 29 (cellsOf (.nm .command) ((c))),.box 66 ([.fn 58 [] [(4,0),(0,0)]])]),false⟩:=by
 refine dp eY [] Try.func42 (by decide) (by kernel_rfl) ?_
 rw [yD]
 (repeat' (first | with_reducible refine And.intro ?_ ?_ | with_reducible refine and_imp.2 ?_ | intro))
 all_goals (first | (first | with_reducible rfl | with_reducible assumption | omega | (refine aq ?_ ?_ <;> omega)) | exact bj (by with_reducible assumption) | (rw [Gc] <;> first | rfl | omega) | (rw [FY] <;> first | rfl | omega))
theorem vE (v:Int) (nx:Int) (kp:Int) (qt:Int) (se:List Sess) (op:List Opn) (sn:List Snap) (c:Command) (b:Bool) (r0:Reply) (r1:Int) (r2:Int) (r3:Int) (r4:Int) (r5:List Sess) (r6:List Opn) (r7:List Snap) (r8:Command) (r9:Bool):nK aL mc [] Try.f42 [.c (.ptr 0 0),.c (.ptr 4 0),.c (.ptr 5 0)] [.box 26 ([.int (v),.int (nx),.int (kp),.int (qt),.own 1,.own 2,.own 3]),.row 42 (.nm .sess) (se),.row 51 (.nm .opn) (op),.row 46 (.nm .snap) (sn),.box 29 (cellsOf (.nm .command) (c)),.box 66 ([.fn 45 [] [(0,0),(6,0)]]),.box 4 ([.bool (.atom (b))])] [.agg (cellsOf (.nm .reply) r0)] [.box 26 ([.int (r1),.int (r2),.int (r3),.int (r4),.own 1,.own 2,.own 3]),.row 42 (.nm .sess) (r5),.row 51 (.nm .opn) (r6),.row 46 (.nm .snap) (r7),.box 29 (cellsOf (.nm .command) (r8)),.box 66 ([.fn 45 [] [(0,0),(6,0)]]),.box 4 ([.bool (.atom (r9))])]=((fun (q2:Int)=>(fun (q1:Prop)=>(fun (q0:State × Reply)=>I64 q2->(q2<(0:Int)->I64 (15:Int)->I64 (0:Int)->(15:Int)=r0.code/\(0:Int)=r0.n/\v=r1/\nx=r2/\kp=r3/\qt=r4/\se=r5/\op=r6/\sn=r7/\q1)/\((0:Int)<=q2->((0:Int)<=q2/\q2<(↑sn.length:Int))/\(I64 q0.snd.code->I64 q0.snd.n->q0.snd.code=r0.code/\q0.snd.n=r0.n/\q0.fst.version=r1/\q0.fst.next=r2/\q0.fst.keep=r3/\q0.fst.quota=r4/\q0.fst.sess=r5/\q0.fst.opens=r6/\q0.fst.snaps=r7/\q1))) (bn b (State.mk v nx kp qt se op sn) q2.toNat)) (c.kind=r8.kind/\c.client=r8.client/\c.seq=r8.seq/\c.set=r8.set/\c.id=r8.id/\c.n=r8.n/\c.chunks=r8.chunks/\c.text=r8.text/\b=r9)) (ah Snap.id c.id sn)):=by kernel_rfl
theorem wm (v:Int) (nx:Int) (kp:Int) (qt:Int) (se:List Sess) (op:List Opn) (sn:List Snap) (c:Command) (b:Bool):Sat Try.prog (av aL) 42 [.c (.ptr 0 0),.c (.ptr 4 0),.c (.ptr 5 0)] [.box 26 ([.int (v),.int (nx),.int (kp),.int (qt),.own 1,.own 2,.own 3]),.row 42 (.nm .sess) (se),.row 51 (.nm .opn) (op),.row 46 (.nm .snap) (sn),.box 29 (cellsOf (.nm .command) (c)),.box 66 ([.fn 45 [] [(0,0),(6,0)]]),.box 4 ([.bool (.atom (b))])] ⟨[],[.agg (cellsOf (.nm .reply) ((au (bn b) c (State.mk v nx kp qt se op sn)).2))],some ([.box 26 ([.int ((((au (bn b) c (State.mk v nx kp qt se op sn)).1).version)),.int ((((au (bn b) c (State.mk v nx kp qt se op sn)).1).next)),.int ((((au (bn b) c (State.mk v nx kp qt se op sn)).1).keep)),.int ((((au (bn b) c (State.mk v nx kp qt se op sn)).1).quota)),.own 1,.own 2,.own 3]),.row 42 (.nm .sess) ((((au (bn b) c (State.mk v nx kp qt se op sn)).1).sess)),.row 51 (.nm .opn) ((((au (bn b) c (State.mk v nx kp qt se op sn)).1).opens)),.row 46 (.nm .snap) ((((au (bn b) c (State.mk v nx kp qt se op sn)).1).snaps)),.box 29 (cellsOf (.nm .command) ((c))),.box 66 ([.fn 45 [] [(0,0),(6,0)]]),.box 4 ([.bool (.atom ((b)))])]),false⟩:=by
 refine dp eY [] Try.func42 (by decide) (by kernel_rfl) ?_
 rw [vE]
 (repeat' (first | with_reducible refine And.intro ?_ ?_ | with_reducible refine and_imp.2 ?_ | intro))
 all_goals (first | (first | with_reducible rfl | with_reducible assumption | omega | (refine aq ?_ ?_ <;> omega)) | exact bj (by with_reducible assumption) | (rw [Gc] <;> first | rfl | omega) | (rw [FY] <;> first | rfl | omega))
def wV:cY:=(bX 42 (bR (ak (kC (bL 0 0)) (ak (kC (bL 4 0)) (ak (kC (bL 5 0)) aU))) (ay (bK 26 (aj cI (aj cI (aj cI (aj cI (aj (ba 1) (aj (ba 2) (aj (ba 3) bG)))))))) (ay (a_ 42 (.nm .sess)) (ay (a_ 51 (.nm .opn)) (ay (a_ 46 (.nm .snap)) (ay (bK 29 (pL (.nm .command) bG)) (ay (bK 66 (aj (mN 45 [] [(0,0),(6,0)]) bG)) (ay (bK 4 (aj cB bG)) aR))))))) fun (_,_,_,_) ((v,nx,kp,qt,_,_,_,_),se,op,sn,(c,_),(_,_),(b,_),_)=>⟨[],[.agg (cellsOf (.nm .reply) ((au (bn b) c (State.mk v nx kp qt se op sn)).2))],some ([.box 26 ([.int ((((au (bn b) c (State.mk v nx kp qt se op sn)).1).version)),.int ((((au (bn b) c (State.mk v nx kp qt se op sn)).1).next)),.int ((((au (bn b) c (State.mk v nx kp qt se op sn)).1).keep)),.int ((((au (bn b) c (State.mk v nx kp qt se op sn)).1).quota)),.own 1,.own 2,.own 3]),.row 42 (.nm .sess) ((((au (bn b) c (State.mk v nx kp qt se op sn)).1).sess)),.row 51 (.nm .opn) ((((au (bn b) c (State.mk v nx kp qt se op sn)).1).opens)),.row 46 (.nm .snap) ((((au (bn b) c (State.mk v nx kp qt se op sn)).1).snaps)),.box 29 (cellsOf (.nm .command) ((c))),.box 66 ([.fn 45 [] [(0,0),(6,0)]]),.box 4 ([.bool (.atom ((b)))])]),false⟩) (bX 42 (bR (ak (kC (bL 0 0)) (ak (kC (bL 4 0)) (ak (kC (bL 5 0)) aU))) (ay (bK 26 (aj cI (aj cI (aj cI (aj cI (aj (ba 1) (aj (ba 2) (aj (ba 3) bG)))))))) (ay (a_ 42 (.nm .sess)) (ay (a_ 51 (.nm .opn)) (ay (a_ 46 (.nm .snap)) (ay (bK 29 (pL (.nm .command) bG)) (ay (bK 66 (aj (mN 58 [] [(4,0),(0,0)]) bG)) aR)))))) fun (_,_,_,_) ((v,nx,kp,qt,_,_,_,_),se,op,sn,(c,_),(_,_),_)=>⟨[],[.agg (cellsOf (.nm .reply) ((au (ct c) c (State.mk v nx kp qt se op sn)).2))],some ([.box 26 ([.int ((((au (ct c) c (State.mk v nx kp qt se op sn)).1).version)),.int ((((au (ct c) c (State.mk v nx kp qt se op sn)).1).next)),.int ((((au (ct c) c (State.mk v nx kp qt se op sn)).1).keep)),.int ((((au (ct c) c (State.mk v nx kp qt se op sn)).1).quota)),.own 1,.own 2,.own 3]),.row 42 (.nm .sess) ((((au (ct c) c (State.mk v nx kp qt se op sn)).1).sess)),.row 51 (.nm .opn) ((((au (ct c) c (State.mk v nx kp qt se op sn)).1).opens)),.row 46 (.nm .snap) ((((au (ct c) c (State.mk v nx kp qt se op sn)).1).snaps)),.box 29 (cellsOf (.nm .command) ((c))),.box 66 ([.fn 58 [] [(4,0),(0,0)]])]),false⟩) (bX 42 (bR (ak (kC (bL 0 0)) (ak (kC (bL 4 0)) (ak (kC (bL 5 0)) aU))) (ay (bK 26 (aj cI (aj cI (aj cI (aj cI (aj (ba 1) (aj (ba 2) (aj (ba 3) bG)))))))) (ay (a_ 42 (.nm .sess)) (ay (a_ 51 (.nm .opn)) (ay (a_ 46 (.nm .snap)) (ay (bK 29 (pL (.nm .command) bG)) (ay (bK 66 (aj (mN 57 [] [(0,0)]) bG)) aR)))))) fun (_,_,_,_) ((v,nx,kp,qt,_,_,_,_),se,op,sn,(c,_),(_,_),_)=>⟨[],[.agg (cellsOf (.nm .reply) ((au bb c (State.mk v nx kp qt se op sn)).2))],some ([.box 26 ([.int ((((au bb c (State.mk v nx kp qt se op sn)).1).version)),.int ((((au bb c (State.mk v nx kp qt se op sn)).1).next)),.int ((((au bb c (State.mk v nx kp qt se op sn)).1).keep)),.int ((((au bb c (State.mk v nx kp qt se op sn)).1).quota)),.own 1,.own 2,.own 3]),.row 42 (.nm .sess) ((((au bb c (State.mk v nx kp qt se op sn)).1).sess)),.row 51 (.nm .opn) ((((au bb c (State.mk v nx kp qt se op sn)).1).opens)),.row 46 (.nm .snap) ((((au bb c (State.mk v nx kp qt se op sn)).1).snaps)),.box 29 (cellsOf (.nm .command) ((c))),.box 66 ([.fn 57 [] [(0,0)]])]),false⟩) (bX 42 (bR (ak (kC (bL 0 0)) (ak (kC (bL 4 0)) (ak (kC (bL 5 0)) aU))) (ay (bK 26 (aj cI (aj cI (aj cI (aj cI (aj (ba 1) (aj (ba 2) (aj (ba 3) bG)))))))) (ay (a_ 42 (.nm .sess)) (ay (a_ 51 (.nm .opn)) (ay (a_ 46 (.nm .snap)) (ay (bK 29 (pL (.nm .command) bG)) (ay (bK 66 (aj (mN 55 [] [(0,0)]) bG)) aR)))))) fun (_,_,_,_) ((v,nx,kp,qt,_,_,_,_),se,op,sn,(c,_),(_,_),_)=>⟨[nch sn<=1048576],[.agg (cellsOf (.nm .reply) ((au aK c (State.mk v nx kp qt se op sn)).2))],some ([.box 26 ([.int ((((au aK c (State.mk v nx kp qt se op sn)).1).version)),.int ((((au aK c (State.mk v nx kp qt se op sn)).1).next)),.int ((((au aK c (State.mk v nx kp qt se op sn)).1).keep)),.int ((((au aK c (State.mk v nx kp qt se op sn)).1).quota)),.own 1,.own 2,.own 3]),.row 42 (.nm .sess) ((((au aK c (State.mk v nx kp qt se op sn)).1).sess)),.row 51 (.nm .opn) ((((au aK c (State.mk v nx kp qt se op sn)).1).opens)),.row 46 (.nm .snap) ((((au aK c (State.mk v nx kp qt se op sn)).1).snaps)),.box 29 (cellsOf (.nm .command) ((c))),.box 66 ([.fn 55 [] [(0,0)]])]),false⟩) (bX 44 (bR (ak (kC cB) (ak (kC (bL 0 0)) (ak (kC (bL 1 0)) aU))) (ay (bK 68 (aj (mN 41 [] [(1,0),(5,0)]) bG)) (ay (bK 26 (aj cI (aj cI (aj cI (aj cI (aj (ba 2) (aj (ba 3) (aj (ba 4) bG)))))))) (ay (a_ 42 (.nm .sess)) (ay (a_ 51 (.nm .opn)) (ay (a_ 46 (.nm .snap)) (ay (bK 29 (pL (.nm .command) bG)) aR)))))) fun (b,_,_,_) ((_,_),(v,nx,kp,qt,_,_,_,_),se,op,sn,(c,_),_)=>⟨[],[.c (.fn 42 [] [(1,0),(5,0),(7,0)])],some ([.box 68 ([.fn 41 [] [(1,0),(5,0)]]),.box 26 ([.int ((v)),.int ((nx)),.int ((kp)),.int ((qt)),.own 2,.own 3,.own 4]),.row 42 (.nm .sess) ((se)),.row 51 (.nm .opn) ((op)),.row 46 (.nm .snap) ((sn)),.box 29 (cellsOf (.nm .command) ((c))),.box 4 ([.bool (.atom ((b)))]),.box 66 ([.fn 45 [] [(1,0),(6,0)]])]),true⟩) mc)))))
theorem qZ:bf Try.prog (av aL) wV:=(aC (aB (ae (aw aJ) (ae (aw aJ) (ae (aw aJ) ao))) (ag (aH (ab ax (ab ax (ab ax (ab ax (ab az (ab az (ab az aG)))))))) (ag aA (ag aA (ag aA (ag (aH (cK aG)) (ag (aH (ab ck aG)) (ag (aH (ab qK aG)) al))))))) fun (_,_,_,_) ((v,nx,kp,qt,_,_,_,_),se,op,sn,(c,_),(_,_),(b,_),_) _=>wm v nx kp qt se op sn c b ) (aC (aB (ae (aw aJ) (ae (aw aJ) (ae (aw aJ) ao))) (ag (aH (ab ax (ab ax (ab ax (ab ax (ab az (ab az (ab az aG)))))))) (ag aA (ag aA (ag aA (ag (aH (cK aG)) (ag (aH (ab ck aG)) al)))))) fun (_,_,_,_) ((v,nx,kp,qt,_,_,_,_),se,op,sn,(c,_),(_,_),_) _=>zo v nx kp qt se op sn c ) (aC (aB (ae (aw aJ) (ae (aw aJ) (ae (aw aJ) ao))) (ag (aH (ab ax (ab ax (ab ax (ab ax (ab az (ab az (ab az aG)))))))) (ag aA (ag aA (ag aA (ag (aH (cK aG)) (ag (aH (ab ck aG)) al)))))) fun (_,_,_,_) ((v,nx,kp,qt,_,_,_,_),se,op,sn,(c,_),(_,_),_) _=>wc v nx kp qt se op sn c ) (aC (aB (ae (aw aJ) (ae (aw aJ) (ae (aw aJ) ao))) (ag (aH (ab ax (ab ax (ab ax (ab ax (ab az (ab az (ab az aG)))))))) (ag aA (ag aA (ag aA (ag (aH (cK aG)) (ag (aH (ab ck aG)) al)))))) fun (_,_,_,_) ((v,nx,kp,qt,_,_,_,_),se,op,sn,(c,_),(_,_),_) hp=>sR v nx kp qt se op sn c (eO hp)) (aC (aB (ae (aw qK) (ae (aw aJ) (ae (aw aJ) ao))) (ag (aH (ab ck aG)) (ag (aH (ab ax (ab ax (ab ax (ab ax (ab az (ab az (ab az aG)))))))) (ag aA (ag aA (ag aA (ag (aH (cK aG)) al)))))) fun (b,_,_,_) ((_,_),(v,nx,kp,qt,_,_,_,_),se,op,sn,(c,_),_) _=>Ej b v nx kp qt se op sn c ) eY)))))
end Go.Proofs.Ytmmbibcfkdabeaa
namespace Go.Proofs.Ytmmbibcfkdabeaa
open Go.RowKit
def bF (s:State) (c:Command):Int:=if mayF s s.version=0 then bE c s.version else 1
def mP (s:State) (c:Command):State × Reply:=
 if c.kind=11 then au (ct c) c s
 else if c.kind=10 then au (bn false) c s
 else if c.kind=9 then au (bn true) c s
 else if c.kind=7 then au bb c s
 else if c.kind=5 then au aK c s
 else if c.kind=12 then cn c s
 else if c.kind=6 then cN c s
 else if c.kind=4 then aT s c
 else if c.kind=3 then aN s c
 else if c.kind=2 then aP s c
 else (s,⟨1,0⟩)
def bz (s:State) (c:Command):State × Reply:=if ¬ bF s c=0 then (s,⟨bF s c,0⟩) else mP s c
theorem pa {α:Type} {key:α->Int} {most:Int}:∀ {l:List α} {a:Int},ai key most a l=true->l=[]\/a+(l.length:Int)<=most
 | [],_,_=>.inl rfl
 | x :: l,a,h=>by
  simp only [ai,Bool.and_eq_true] at h
  have h1:=pn h.1
  rcases pa h.2 with h2 | h2
  ·subst h2; right; simp only [List.length_cons,List.length_nil]; omega
  ·right; simp only [List.length_cons]; omega
theorem bM {s:State} {v:Int} (h:mayF s v=0):cg v 1 3=true/\cO s v=true/\mE s=true/\jw s=true/\dj s v=true:=by
 unfold mayF at h
 split at h
 ·omega
 ·rename_i h1
  split at h
  ·omega
  ·rename_i h2
   simp at h1 h2
   exact ⟨h1,h2.1.1.1,h2.1.1.2,h2.1.2,h2.2⟩
theorem DT {s:State} {v:Int} (h:mayF s v=0):s.opens.length<=8:=by
 have h1:=(bM h).2.2.2.1
 simp only [jw,Bool.and_eq_true] at h1
 rcases pa h1.1 with h2 | h2
 ·rw [h2]; simp
 ·omega
theorem CI {s:State} {v:Int} (h:mayF s v=0):s.sess.length<=8:=by
 have h1:=(bM h).2.2.1
 simp only [mE,Bool.and_eq_true] at h1
 rcases pa h1.1 with h2 | h2
 ·rw [h2]; simp
 ·omega
theorem ff {s:State} {v:Int} (h:mayF s v=0):s.snaps.length<=16/\ai Snap.id (s.next - 1) 0 s.snaps=true/\∀ x ∈ s.snaps,bk v (dC v) x=true:=by
 have h1:=(bM h).2.2.2.2
 simp only [dj,Bool.and_eq_true,Bool.not_eq_true',Bool.or_eq_false_iff,decide_eq_false_iff_not,Bool.not_eq_false',List.all_eq_true] at h1
 exact ⟨by omega,h1.1.2,h1.2⟩
theorem yC {x:Snap} {v t:Int} (h:bk v t x=true):dh x.chunks=true:=by
 simp only [bk,Bool.and_eq_true,decide_eq_true_eq] at h
 cases hr:dh x.chunks with
 | true=>rfl
 | false=>have:=fb (l:=x.chunks) hr; omega
theorem yy:∀ {l:List Snap},(∀ x ∈ l,dh x.chunks=true)->nch l<=8*l.length
 | [],_=>Nat.le_refl _
 | x :: l,h=>by
  have h1:=yy (l:=l) fun y hy=>h y (List.mem_cons_of_mem _ hy)
  have h2:=(oT (h x (List.mem_cons_self))).2
  have e:nch (x :: l)=x.chunks.length+nch l:=by simp [nch]
  rw [e,List.length_cons]; omega
theorem At {s:State} {v:Int} (h:mayF s v=0):nch s.snaps<=128:=by
 have h1:=ff h
 have:=yy (l:=s.snaps) fun x hx=>yC (h1.2.2 x hx)
 omega
theorem jq {s:State} {v:Int} (h:mayF s v=0):1<=s.next/\s.next<=1048576:=by
 have h1:=(bM h).2.1
 simp only [cO,Bool.and_eq_true] at h1
 exact pn h1.1.1.2
theorem qT {s:State} {c:Command} (h:(if mayF s s.version=0 then bE c s.version else 1)=0):mayF s s.version=0:=by
 split at h
 ·assumption
 ·omega
theorem DB {s:State} {c:Command} (h:(if mayF s s.version=0 then bE c s.version else 1)=0):nch s.snaps<=1048576:=by have:=At (qT h); omega
theorem EZ {s:State} {c:Command} (h:(if mayF s s.version=0 then bE c s.version else 1)=0):s.opens.length<1048576:=by have:=DT (qT h); omega
theorem tK {s:State} {c:Command} (h:(if mayF s s.version=0 then bE c s.version else 1)=0):s.sess.length<1048576:=by have:=CI (qT h); omega
theorem EY {s:State} {c:Command} (h:(if mayF s s.version=0 then bE c s.version else 1)=0):s.snaps.length<1048576:=by have:=(ff (qT h)).1; omega
theorem EU {s:State} {c:Command} (h:(if mayF s s.version=0 then bE c s.version else 1)=0):0<=s.next:=by have:=jq (qT h); omega
theorem DH {s:State} {c:Command} (h:(if mayF s s.version=0 then bE c s.version else 1)=0):bz s c=mP s c:=by
 have h:bF s c=0:=h
 rw [bz,h]; rfl
theorem GB {s:State} {c:Command} (h:¬ (if mayF s s.version=0 then bE c s.version else 1)=0):bz s c=(s,⟨(if mayF s s.version=0 then bE c s.version else 1),0⟩):=by
 have h:¬ bF s c=0:=h
 rw [bz,if_pos h]; rfl
theorem Du (st:State) (c:Command) (r0:Int) (r1:Int) (r2:Int) (r3:Int) (r4:Reply) (r5:List Sess) (r6:List Opn) (r7:List Snap):uy aL wV [] Try.f24 [.agg (cellsOf (.nm .state) st),.agg (cellsOf (.nm .command) c)] [] [.agg ([.int (r0),.int (r1),.int (r2),.int (r3),.own 0,.own 1,.own 2]),.agg (cellsOf (.nm .reply) r4)] [.row 42 (.nm .sess) (r5),.row 51 (.nm .opn) (r6),.row 46 (.nm .snap) (r7)]=((fun (q18:Reply)=>(fun (q17:Int)=>(fun (q16:Int)=>(fun (q15:Prop)=>(fun (q14:Prop)=>(fun (q13:Int)=>(fun (q12:State)=>(fun (q11:Prop)=>(fun (q10:State × Reply)=>(fun (q9:State × Reply)=>(fun (q8:State × Reply)=>(fun (q7:Int)=>(fun (q6:State × Reply)=>(fun (q5:State × Reply)=>(fun (q4:State × Reply)=>(fun (q3:State × Reply)=>(fun (q2:State × Reply)=>(fun (q1:State × Reply)=>(fun (q0:Int)=>I64 q17->I64 st.next->I64 st.keep->I64 st.quota->st.sess.length*(32:Nat)<=(140737488355328:Nat)->st.opens.length*(16:Nat)<=(140737488355328:Nat)->st.snaps.length*(64:Nat)<=(140737488355328:Nat)->I64 q7->I64 c.client->I64 c.seq->I64 c.set->I64 c.id->I64 c.n->c.chunks.length*(8:Nat)<=(140737488355328:Nat)->c.text.b.length<=(140737488355328:Nat)->I64 q17->I64 st.next->I64 st.keep->I64 st.quota->I64 q0->(¬q0=q16->I64 q0->I64 q16->q17=r0/\st.next=r1/\st.keep=r2/\st.quota=r3/\q0=q13/\q11)/\(q0=q16->(q7=(11:Int)->I64 q3.snd.code->I64 q3.snd.n->q3.fst.version=r0/\q3.fst.next=r1/\q3.fst.keep=r2/\q3.fst.quota=r3/\q3.snd.code=q13/\q3.snd.n=r4.n/\q3.fst.sess=r5/\q3.fst.opens=r6/\q3.fst.snaps=r7)/\(¬q7=(11:Int)->(q7=(10:Int)->I64 q1.snd.code->I64 q1.snd.n->q1.fst.version=r0/\q1.fst.next=r1/\q1.fst.keep=r2/\q1.fst.quota=r3/\q1.snd.code=q13/\q1.snd.n=r4.n/\q1.fst.sess=r5/\q1.fst.opens=r6/\q1.fst.snaps=r7)/\(¬q7=(10:Int)->(q7=(9:Int)->I64 q2.snd.code->I64 q2.snd.n->q2.fst.version=r0/\q2.fst.next=r1/\q2.fst.keep=r2/\q2.fst.quota=r3/\q2.snd.code=q13/\q2.snd.n=r4.n/\q2.fst.sess=r5/\q2.fst.opens=r6/\q2.fst.snaps=r7)/\(¬q7=(9:Int)->(q7=(7:Int)->I64 q4.snd.code->I64 q4.snd.n->q4.fst.version=r0/\q4.fst.next=r1/\q4.fst.keep=r2/\q4.fst.quota=r3/\q4.snd.code=q13/\q4.snd.n=r4.n/\q4.fst.sess=r5/\q4.fst.opens=r6/\q4.fst.snaps=r7)/\(¬q7=(7:Int)->(q7=(5:Int)->q15/\(I64 q5.snd.code->I64 q5.snd.n->q5.fst.version=r0/\q5.fst.next=r1/\q5.fst.keep=r2/\q5.fst.quota=r3/\q5.snd.code=q13/\q5.snd.n=r4.n/\q5.fst.sess=r5/\q5.fst.opens=r6/\q5.fst.snaps=r7))/\(¬q7=(5:Int)->(q7=(12:Int)->q15/\(I64 q10.snd.code->I64 q10.snd.n->q10.fst.version=r0/\q10.fst.next=r1/\q10.fst.keep=r2/\q10.fst.quota=r3/\q10.snd.code=q13/\q10.snd.n=r4.n/\q10.fst.sess=r5/\q10.fst.opens=r6/\q10.fst.snaps=r7))/\(¬q7=(12:Int)->(q7=(6:Int)->I64 q18.code->I64 q18.n->q12.version=r0/\q12.next=r1/\q12.keep=r2/\q12.quota=r3/\q18.code=q13/\q18.n=r4.n/\q12.sess=r5/\q12.opens=r6/\q12.snaps=r7)/\(¬q7=(6:Int)->(q7=(4:Int)->q14/\(I64 q8.snd.code->I64 q8.snd.n->q8.fst.version=r0/\q8.fst.next=r1/\q8.fst.keep=r2/\q8.fst.quota=r3/\q8.snd.code=q13/\q8.snd.n=r4.n/\q8.fst.sess=r5/\q8.fst.opens=r6/\q8.fst.snaps=r7))/\(¬q7=(4:Int)->(q7=(3:Int)->q15/\st.snaps.length<(1048576:Nat)/\q14/\q16<=st.next/\(I64 q6.snd.code->I64 q6.snd.n->q6.fst.version=r0/\q6.fst.next=r1/\q6.fst.keep=r2/\q6.fst.quota=r3/\q6.snd.code=q13/\q6.snd.n=r4.n/\q6.fst.sess=r5/\q6.fst.opens=r6/\q6.fst.snaps=r7))/\(¬q7=(3:Int)->(q7=(2:Int)->q14/\(I64 q9.snd.code->I64 q9.snd.n->q9.fst.version=r0/\q9.fst.next=r1/\q9.fst.keep=r2/\q9.fst.quota=r3/\q9.snd.code=q13/\q9.snd.n=r4.n/\q9.fst.sess=r5/\q9.fst.opens=r6/\q9.fst.snaps=r7))/\(¬q7=(2:Int)->I64 (1:Int)->I64 q16->q17=r0/\st.next=r1/\st.keep=r2/\st.quota=r3/\(1:Int)=q13/\q11)))))))))))) (if mayF st q17=q16 then bE c q17 else (1:Int))) (au (bn false) c st)) (au (bn true) c st)) (au (ct c) c st)) (au bb c st)) (au aK c st)) (aN st c)) c.kind) (aT st c)) (aP st c)) (cn c st)) (q16=r4.n/\st.sess=r5/\st.opens=r6/\st.snaps=r7)) (cN c st).fst) r4.code) (st.opens.length<(1048576:Nat))) (nch st.snaps<=(1048576:Nat))) (0:Int)) st.version) (cN c st).snd):=by kernel_rfl
theorem DG (st:State) (c:Command):Sat Try.prog (av aL) 24 [.agg (cellsOf (.nm .state) st),.agg (cellsOf (.nm .command) c)] [] ⟨[],[.agg ([.int (((bz st c).1.version)),.int (((bz st c).1.next)),.int (((bz st c).1.keep)),.int (((bz st c).1.quota)),.own 0,.own 1,.own 2]),.agg (cellsOf (.nm .reply) ((bz st c).2))],some ([.row 42 (.nm .sess) (((bz st c).1.sess)),.row 51 (.nm .opn) (((bz st c).1.opens)),.row 46 (.nm .snap) (((bz st c).1.snaps))]),true⟩:=by
 refine eQ qZ [] Try.func24 (by decide) (by kernel_rfl) ?_
 rw [Du]
 (repeat' (first | with_reducible refine And.intro ?_ ?_ | with_reducible refine and_imp.2 ?_ | intro))
 all_goals (first | (first | with_reducible rfl | with_reducible assumption | omega | (refine aq ?_ ?_ <;> omega)) | exact (DB (by with_reducible assumption)) | exact (EZ (by with_reducible assumption)) | exact (tK (by with_reducible assumption)) | exact (EY (by with_reducible assumption)) | exact (EU (by with_reducible assumption)) | (rw [GB (by with_reducible assumption)]; done) | (rw [DH (by with_reducible assumption)]; simp only [mP, *]; done) | (rw [DH (by with_reducible assumption)]; simp [mP, *]; done))
def xW:cY:=(bX 24 (bR (ak (kT (.nm .state)) (ak (kT (.nm .command)) aU)) aR fun (st,c,_) (_)=>⟨[],[.agg ([.int (((bz st c).1.version)),.int (((bz st c).1.next)),.int (((bz st c).1.keep)),.int (((bz st c).1.quota)),.own 0,.own 1,.own 2]),.agg (cellsOf (.nm .reply) ((bz st c).2))],some ([.row 42 (.nm .sess) (((bz st c).1.sess)),.row 51 (.nm .opn) (((bz st c).1.opens)),.row 46 (.nm .snap) (((bz st c).1.snaps))]),true⟩) wV)
theorem qj:bf Try.prog (av aL) xW:=(aC (aB (ae bP (ae bP ao)) al fun (st,c,_) (_) _=>DG st c ) qZ)
end Go.Proofs.Ytmmbibcfkdabeaa
namespace Go.Proofs.Ytmmbibcfkdabeaa
open Go.RowKit
def bg (s:State) (c:Command):State × Reply:=
 if ah Sess.client c.client s.sess<0 then (s,⟨11,0⟩)
 else if c.seq=(s.sess.getD (ah Sess.client c.client s.sess).toNat (dflt (.nm .sess))).seq then (s,(s.sess.getD (ah Sess.client c.client s.sess).toNat (dflt (.nm .sess))).last)
 else if c.seq<(s.sess.getD (ah Sess.client c.client s.sess).toNat (dflt (.nm .sess))).seq then (s,⟨13,0⟩)
 else if (s.sess.getD (ah Sess.client c.client s.sess).toNat (dflt (.nm .sess))).seq+1<c.seq then (s,⟨14,0⟩)
 else ({ (bz s c).1 with sess:=(bz s c).1.sess.set (ah Sess.client c.client s.sess).toNat { (bz s c).1.sess.getD (ah Sess.client c.client s.sess).toNat (dflt (.nm .sess)) with seq:=c.seq,last:=(bz s c).2 } },(bz s c).2)
def aD (s:State) (c:Command):State × Reply:=
 if ¬ bF s c=0 then (s,⟨bF s c,0⟩)
 else if c.kind=8 then (if ¬ c.n=s.version+1 then (s,⟨1,0⟩) else ({ s with version:=c.n },⟨0,c.n⟩))
 else if c.kind=1 then (if 0<=ah Sess.client c.client s.sess then (s,⟨12,0⟩) else ({ s with sess:=ek s.sess (s.sess.takeWhile fun y=>decide (y.client<c.client)).length ⟨c.client,0,⟨0,0⟩⟩ },⟨0,0⟩))
 else bg s c
theorem AA {Q:State × Reply->Prop} {s:State} {c:Command} (h0:∀ e:Int,¬ e=0->Q (s,⟨e,0⟩))
  (hs:∀ f:State->Nat->State × Reply,bF s c=0->(f=ct c\/(∃ b,f=bn b)\/f=bb\/f=aK)->Q (au f c s))
  (hq:bF s c=0->Q (cn c s)) (hk:bF s c=0->Q (cN c s)) (ha:bF s c=0->Q (aT s c)) (hc:bF s c=0->Q (aN s c)) (hb:bF s c=0->Q (aP s c)):Q (bz s c):=by
 unfold bz
 split
 ·exact h0 _ (by assumption)
 ·rename_i h
  have h:bF s c=0:=Classical.not_not.1 h
  unfold mP
  split
  ·exact hs _ h (.inl rfl)
  split
  ·exact hs _ h (.inr (.inl ⟨_,rfl⟩))
  split
  ·exact hs _ h (.inr (.inl ⟨_,rfl⟩))
  split
  ·exact hs _ h (.inr (.inr (.inl rfl)))
  split
  ·exact hs _ h (.inr (.inr (.inr rfl)))
  split
  ·exact hq h
  split
  ·exact hk h
  split
  ·exact ha h
  split
  ·exact hc h
  split
  ·exact hb h
  ·exact h0 1 (by decide)
theorem u_ {Q:State × Reply->Prop} {f:State->Nat->State × Reply} {s:State} {c:Command} (h0:∀ e:Int,¬ e=0->Q (s,⟨e,0⟩)) (h:∀ n:Nat,(n:Int)=ah Snap.id c.id s.snaps->Q (f s n)):Q (au f c s):=by
 unfold au
 split
 ·exact h0 15 (by decide)
 ·exact h _ (by omega)
theorem nz {s:State} {c:Command}:(bz s c).1.sess=s.sess:=by
 refine AA (Q:=fun r=>r.1.sess=s.sess) (fun _ _=>rfl) (fun f _ hf=>?_) (fun _=>rfl) (fun _=>rfl) (fun _=>?_) (fun _=>?_) (fun _=>?_)
 ·refine u_ (Q:=fun r=>r.1.sess=s.sess) (fun _ _=>rfl) fun n _=>?_
  rcases hf with rfl | ⟨b,rfl⟩ | rfl | rfl
  ·rfl
  ·unfold bn; split <;> rfl
  ·rfl
  ·unfold aK; split; rfl; split <;> rfl
 ·unfold aT; split <;> rfl
 ·unfold aN; split; rfl; split; rfl; split <;> rfl
 ·unfold aP; split <;> rfl
theorem qG {l:List Sess} {k:Nat} {q:Int} {R:Reply} (h:k<l.length):(l.set k (Sess.mk (l.getD k (dflt (.nm .sess))).client q (l.getD k (dflt (.nm .sess))).last)).set k (Sess.mk ((l.set k (Sess.mk (l.getD k (dflt (.nm .sess))).client q (l.getD k (dflt (.nm .sess))).last)).getD k (dflt (.nm .sess))).client ((l.set k (Sess.mk (l.getD k (dflt (.nm .sess))).client q (l.getD k (dflt (.nm .sess))).last)).getD k (dflt (.nm .sess))).seq R)=l.set k { l.getD k (dflt (.nm .sess)) with seq:=q,last:=R }:=by
 have e:∀ x:Sess,(l.set k x).getD k (dflt (.nm .sess))=x:=fun x=>by
  rw [List.getD_eq_getElem?_getD,List.getElem?_set_self h]; rfl
 rw [e,List.set_set]
section
variable {v nx kp qt:Int} {se:List Sess} {op:List Opn} {sn:List Snap} {c:Command}
theorem GU (h:ah Sess.client c.client se<0):bg (State.mk v nx kp qt se op sn) c=(State.mk v nx kp qt se op sn,⟨11,0⟩):=by
 simp only [bg,if_pos h]
theorem He (h:0<=ah Sess.client c.client se) (e:c.seq=(se.getD (ah Sess.client c.client se).toNat (dflt (.nm .sess))).seq):bg (State.mk v nx kp qt se op sn) c=(State.mk v nx kp qt se op sn,(se.getD (ah Sess.client c.client se).toNat (dflt (.nm .sess))).last):=by
 have h1:¬ ah Sess.client c.client se<0:=by omega
 simp only [bg,if_neg h1,if_pos e]
theorem Gi (h:0<=ah Sess.client c.client se) (e:¬ c.seq=(se.getD (ah Sess.client c.client se).toNat (dflt (.nm .sess))).seq) (l:c.seq<(se.getD (ah Sess.client c.client se).toNat (dflt (.nm .sess))).seq):bg (State.mk v nx kp qt se op sn) c=(State.mk v nx kp qt se op sn,⟨13,0⟩):=by
 have h1:¬ ah Sess.client c.client se<0:=by omega
 simp only [bg,if_neg h1,if_neg e,if_pos l]
theorem Gu (h:0<=ah Sess.client c.client se) (e:¬ c.seq=(se.getD (ah Sess.client c.client se).toNat (dflt (.nm .sess))).seq) (l:(se.getD (ah Sess.client c.client se).toNat (dflt (.nm .sess))).seq<=c.seq) (g:(se.getD (ah Sess.client c.client se).toNat (dflt (.nm .sess))).seq+1<c.seq):bg (State.mk v nx kp qt se op sn) c=(State.mk v nx kp qt se op sn,⟨14,0⟩):=by
 have h1:¬ ah Sess.client c.client se<0:=by omega
 have h2:¬ c.seq<(se.getD (ah Sess.client c.client se).toNat (dflt (.nm .sess))).seq:=by omega
 simp only [bg,if_neg h1,if_neg e,if_neg h2,if_pos g]
theorem Hi (h:0<=ah Sess.client c.client se) (e:¬ c.seq=(se.getD (ah Sess.client c.client se).toNat (dflt (.nm .sess))).seq) (l:(se.getD (ah Sess.client c.client se).toNat (dflt (.nm .sess))).seq<=c.seq) (g:c.seq<=(se.getD (ah Sess.client c.client se).toNat (dflt (.nm .sess))).seq+1):bg (State.mk v nx kp qt se op sn) c=({ (bz (State.mk v nx kp qt se op sn) c).1 with sess:=(bz (State.mk v nx kp qt se op sn) c).1.sess.set (ah Sess.client c.client se).toNat { (bz (State.mk v nx kp qt se op sn) c).1.sess.getD (ah Sess.client c.client se).toNat (dflt (.nm .sess)) with seq:=c.seq,last:=(bz (State.mk v nx kp qt se op sn) c).2 } },(bz (State.mk v nx kp qt se op sn) c).2):=by
 have h1:¬ ah Sess.client c.client se<0:=by omega
 have h2:¬ c.seq<(se.getD (ah Sess.client c.client se).toNat (dflt (.nm .sess))).seq:=by omega
 have h3:¬ (se.getD (ah Sess.client c.client se).toNat (dflt (.nm .sess))).seq+1<c.seq:=by omega
 simp only [bg,if_neg h1,if_neg e,if_neg h2,if_neg h3]
theorem zi (h:0<=ah Sess.client c.client se):ah Sess.client c.client se<((bz (State.mk v nx kp qt se op sn) c).1.sess.length:Int):=by rw [nz]; exact bj h
theorem rl (h:0<=ah Sess.client c.client se):(ah Sess.client c.client se).toNat<(bz (State.mk v nx kp qt se op sn) c).1.sess.length:=by have:=zi (v:=v) (nx:=nx) (kp:=kp) (qt:=qt) (op:=op) (sn:=sn) h; omega
theorem Fh {x:Sess} (h:0<=ah Sess.client c.client se):ah Sess.client c.client se<(((bz (State.mk v nx kp qt se op sn) c).1.sess.set (ah Sess.client c.client se).toNat x).length:Int):=by rw [List.length_set]; exact zi h
theorem G_ (h:bF (State.mk v nx kp qt se op sn) c=0) (h0:0<=ah Sess.client c.client se):I64 ((se.getD (ah Sess.client c.client se).toNat (dflt (.nm .sess))).seq+1):=by
 have h1:=(bM (qT h)).2.2.1
 simp only [mE,Bool.and_eq_true,List.all_eq_true] at h1
 have h2:=h1.2 _ (List.mem_of_getElem? (gd (d:=dflt (.nm .sess)) (k:=(ah Sess.client c.client se).toNat) (l:=se) (by have:=bj h0; omega)))
 simp only [bJ,Bool.and_eq_true] at h2
 have h3:=pn h2.1.1
 constructor <;> omega
end
theorem xS (v:Int) (nx:Int) (kp:Int) (qt:Int) (c:Command) (se:List Sess) (op:List Opn) (sn:List Snap) (r0:Int) (r1:Int) (r2:Int) (r3:Int) (r4:Reply) (r5:List Sess) (r6:List Opn) (r7:List Snap):nK aL xW [] Try.f32 [.agg ([.int (v),.int (nx),.int (kp),.int (qt),.own 0,.own 1,.own 2]),.agg (cellsOf (.nm .command) c)] [.row 42 (.nm .sess) (se),.row 51 (.nm .opn) (op),.row 46 (.nm .snap) (sn)] [.agg ([.int (r0),.int (r1),.int (r2),.int (r3),.own 0,.own 1,.own 2]),.agg (cellsOf (.nm .reply) r4)] [.row 42 (.nm .sess) (r5),.row 51 (.nm .opn) (r6),.row 46 (.nm .snap) (r7)]=((fun (q7:Prop)=>(fun (q6:Int)=>(fun (q5:Int)=>(fun (q4:Prop)=>(fun (q3:den (Sh.nm NT.sess))=>(fun (q2:State × Reply)=>(fun (q1:Int)=>(fun (q0:den (Sh.nm NT.sess))=>I64 v->I64 nx->I64 kp->I64 qt->I64 c.kind->I64 c.client->I64 q6->I64 c.set->I64 c.id->I64 c.n->c.chunks.length*(8:Nat)<=(140737488355328:Nat)->c.text.b.length<=(140737488355328:Nat)->I64 q1->(q1<q5->I64 (11:Int)->I64 q5->v=r0/\nx=r1/\kp=r2/\qt=r3/\(11:Int)=r4.code/\q4)/\(q5<=q1->q5<=q1/\q1<(↑se.length:Int)/\(I64 (se.getD q1.toNat q3).client->I64 (se.getD q1.toNat q3).seq->I64 (se.getD q1.toNat q3).last.code->I64 (se.getD q1.toNat q3).last.n->(q6=(se.getD q1.toNat q3).seq->v=r0/\nx=r1/\kp=r2/\qt=r3/\(se.getD q1.toNat q3).last.code=r4.code/\(se.getD q1.toNat q3).last.n=r4.n/\q7)/\(¬q6=(se.getD q1.toNat q3).seq->(q6<(se.getD q1.toNat q3).seq->I64 (13:Int)->I64 q5->v=r0/\nx=r1/\kp=r2/\qt=r3/\(13:Int)=r4.code/\q4)/\((se.getD q1.toNat q3).seq<=q6->I64 ((se.getD q1.toNat q3).seq+(1:Int))/\((se.getD q1.toNat q3).seq+(1:Int)<q6->I64 (14:Int)->I64 q5->v=r0/\nx=r1/\kp=r2/\qt=r3/\(14:Int)=r4.code/\q4)/\(q6<=(se.getD q1.toNat q3).seq+(1:Int)->I64 q2.fst.version->I64 q2.fst.next->I64 q2.fst.keep->I64 q2.fst.quota->I64 q2.snd.code->I64 q2.snd.n->(q5<=q1/\q1<(↑q2.fst.sess.length:Int))/\(I64 q0.client->I64 q0.seq->I64 q0.last.code->I64 q0.last.n->q5<=q1/\q1<(↑(q2.fst.sess.set q1.toNat (Sess.mk q0.client q6 q0.last)).length:Int))/\(I64 q0.client->I64 q0.seq->I64 q0.last.code->I64 q0.last.n->I64 ((q2.fst.sess.set q1.toNat (Sess.mk q0.client q6 q0.last)).getD q1.toNat q3).client->I64 ((q2.fst.sess.set q1.toNat (Sess.mk q0.client q6 q0.last)).getD q1.toNat q3).seq->I64 ((q2.fst.sess.set q1.toNat (Sess.mk q0.client q6 q0.last)).getD q1.toNat q3).last.code->I64 ((q2.fst.sess.set q1.toNat (Sess.mk q0.client q6 q0.last)).getD q1.toNat q3).last.n->q2.fst.version=r0/\q2.fst.next=r1/\q2.fst.keep=r2/\q2.fst.quota=r3/\q2.snd.code=r4.code/\q2.snd.n=r4.n/\(q2.fst.sess.set q1.toNat (Sess.mk q0.client q6 q0.last)).set q1.toNat (Sess.mk ((q2.fst.sess.set q1.toNat (Sess.mk q0.client q6 q0.last)).getD q1.toNat q3).client ((q2.fst.sess.set q1.toNat (Sess.mk q0.client q6 q0.last)).getD q1.toNat q3).seq q2.snd)=r5/\q2.fst.opens=r6/\q2.fst.snaps=r7))))))) (q2.fst.sess.getD q1.toNat q3)) (ah Sess.client c.client se)) (bz (State.mk v nx kp qt se op sn) c)) (dflt (Sh.nm NT.sess))) (q5=r4.n/\q7)) (0:Int)) c.seq) (se=r5/\op=r6/\sn=r7)):=by kernel_rfl
theorem yP (v:Int) (nx:Int) (kp:Int) (qt:Int) (c:Command) (se:List Sess) (op:List Opn) (sn:List Snap) (h0:bF (State.mk v nx kp qt se op sn) c=0):Sat Try.prog (av aL) 32 [.agg ([.int (v),.int (nx),.int (kp),.int (qt),.own 0,.own 1,.own 2]),.agg (cellsOf (.nm .command) c)] [.row 42 (.nm .sess) (se),.row 51 (.nm .opn) (op),.row 46 (.nm .snap) (sn)] ⟨[bF (State.mk v nx kp qt se op sn) c=0],[.agg ([.int (((bg (State.mk v nx kp qt se op sn) c).1.version)),.int (((bg (State.mk v nx kp qt se op sn) c).1.next)),.int (((bg (State.mk v nx kp qt se op sn) c).1.keep)),.int (((bg (State.mk v nx kp qt se op sn) c).1.quota)),.own 0,.own 1,.own 2]),.agg (cellsOf (.nm .reply) ((bg (State.mk v nx kp qt se op sn) c).2))],some ([.row 42 (.nm .sess) (((bg (State.mk v nx kp qt se op sn) c).1.sess)),.row 51 (.nm .opn) (((bg (State.mk v nx kp qt se op sn) c).1.opens)),.row 46 (.nm .snap) (((bg (State.mk v nx kp qt se op sn) c).1.snaps))]),false⟩:=by
 refine dp qj [] Try.func32 (by decide) (by kernel_rfl) ?_
 rw [xS]
 (repeat' (first | with_reducible refine And.intro ?_ ?_ | with_reducible refine and_imp.2 ?_ | intro))
 all_goals (first | (first | with_reducible rfl | with_reducible assumption | omega | (refine aq ?_ ?_ <;> omega)) | exact bj (by with_reducible assumption) | exact zi (by with_reducible assumption) | exact Fh (by with_reducible assumption) | exact G_ (by with_reducible assumption) (by with_reducible assumption) | (rw [GU] <;> first | rfl | with_reducible assumption | exact qG (rl (by with_reducible assumption))) | (rw [He] <;> first | rfl | with_reducible assumption | exact qG (rl (by with_reducible assumption))) | (rw [Gi] <;> first | rfl | with_reducible assumption | exact qG (rl (by with_reducible assumption))) | (rw [Gu] <;> first | rfl | with_reducible assumption | exact qG (rl (by with_reducible assumption))) | (rw [Hi] <;> first | rfl | with_reducible assumption | exact qG (rl (by with_reducible assumption))))
def wS:cY:=(bX 32 (bR (ak (kG (aj cI (aj cI (aj cI (aj cI (aj (ba 0) (aj (ba 1) (aj (ba 2) bG)))))))) (ak (kT (.nm .command)) aU)) (ay (a_ 42 (.nm .sess)) (ay (a_ 51 (.nm .opn)) (ay (a_ 46 (.nm .snap)) aR))) fun ((v,nx,kp,qt,_,_,_,_),c,_) (se,op,sn,_)=>⟨[bF (State.mk v nx kp qt se op sn) c=0],[.agg ([.int (((bg (State.mk v nx kp qt se op sn) c).1.version)),.int (((bg (State.mk v nx kp qt se op sn) c).1.next)),.int (((bg (State.mk v nx kp qt se op sn) c).1.keep)),.int (((bg (State.mk v nx kp qt se op sn) c).1.quota)),.own 0,.own 1,.own 2]),.agg (cellsOf (.nm .reply) ((bg (State.mk v nx kp qt se op sn) c).2))],some ([.row 42 (.nm .sess) (((bg (State.mk v nx kp qt se op sn) c).1.sess)),.row 51 (.nm .opn) (((bg (State.mk v nx kp qt se op sn) c).1.opens)),.row 46 (.nm .snap) (((bg (State.mk v nx kp qt se op sn) c).1.snaps))]),false⟩) xW)
theorem rA:bf Try.prog (av aL) wS:=(aC (aB (ae (Fe (ab ax (ab ax (ab ax (ab ax (ab az (ab az (ab az aG)))))))) (ae bP ao)) (ag aA (ag aA (ag aA al))) fun ((v,nx,kp,qt,_,_,_,_),c,_) (se,op,sn,_) hp=>yP v nx kp qt c se op sn (eO hp)) qj)
end Go.Proofs.Ytmmbibcfkdabeaa
namespace Go.Proofs.Ytmmbibcfkdabeaa
open Go.RowKit
section
variable {s:State} {c:Command}
theorem Em (h:(if mayF s s.version=0 then bE c s.version else 1)=0):bF s c=0:=h
theorem DX (h:(if mayF s s.version=0 then bE c s.version else 1)=0):I64 (s.version+1):=by
 have h1:=(bM (qT h)).2.1
 simp only [cO,Bool.and_eq_true] at h1
 have:=pn h1.1.1.1
 constructor <;> omega
theorem Fp (h:¬ (if mayF s s.version=0 then bE c s.version else 1)=0):aD s c=(s,⟨(if mayF s s.version=0 then bE c s.version else 1),0⟩):=by
 have h:¬ bF s c=0:=h
 rw [aD,if_pos h]; rfl
theorem FM (h:(if mayF s s.version=0 then bE c s.version else 1)=0):aD s c=if c.kind=8 then (if ¬ c.n=s.version+1 then (s,⟨1,0⟩) else ({ s with version:=c.n },⟨0,c.n⟩))
 else if c.kind=1 then (if 0<=ah Sess.client c.client s.sess then (s,⟨12,0⟩) else ({ s with sess:=ek s.sess (s.sess.takeWhile fun y=>decide (y.client<c.client)).length ⟨c.client,0,⟨0,0⟩⟩ },⟨0,0⟩))
 else bg s c:=by
 have h:¬ ¬ bF s c=0:=fun k=>k h
 rw [aD,if_neg h]
theorem Bw (h:(if mayF s s.version=0 then bE c s.version else 1)=0) (k:c.kind=8) (n:¬ c.n=s.version+1):aD s c=(s,⟨1,0⟩):=by rw [FM h,if_pos k,if_pos n]
theorem Bi (h:(if mayF s s.version=0 then bE c s.version else 1)=0) (k:c.kind=8) (n:c.n=s.version+1):aD s c=({ s with version:=c.n },⟨0,c.n⟩):=by rw [FM h,if_pos k,if_neg (fun h=>h n)]
theorem Au (h:(if mayF s s.version=0 then bE c s.version else 1)=0) (k:c.kind=1) (n:0<=ah Sess.client c.client s.sess):aD s c=(s,⟨12,0⟩):=by rw [FM h,if_neg (by omega),if_pos k,if_pos n]
theorem BS (h:(if mayF s s.version=0 then bE c s.version else 1)=0) (k:c.kind=1) (n:ah Sess.client c.client s.sess<0):aD s c=({ s with sess:=ek s.sess (s.sess.takeWhile fun y=>decide (y.client<c.client)).length ⟨c.client,0,⟨0,0⟩⟩ },⟨0,0⟩):=by rw [FM h,if_neg (by omega),if_pos k,if_neg (by omega)]
theorem EJ (h:(if mayF s s.version=0 then bE c s.version else 1)=0) (k:¬ c.kind=8) (n:¬ c.kind=1):aD s c=bg s c:=by rw [FM h,if_neg k,if_neg n]
theorem cu {l:List Sess} {k:Nat} {x:Sess} (hs:k<=l.length) (ha:(l.take k).all (fun y=>decide (y.client<c.client))=true) (hb:(l.length:Int)<=k\/c.client<=(l.getD k (dflt (.nm .sess))).client):l.take k++[x]++l.drop k=ek l (l.takeWhile fun y=>decide (y.client<c.client)).length x:=by
 have:k=(l.takeWhile fun y=>decide (y.client<c.client)).length:=by
  refine yK ha hs ?_
  by_cases hl:(l.length:Int)<=k
  ·exact .inl hl
  ·refine .inr ⟨by omega,_,gd (d:=dflt (.nm .sess)) (by omega),?_⟩
   rcases hb with hb | hb
   ·omega
   ·exact decide_eq_false (by omega)
 rw [<- this]; simp [ek]
theorem xg {l:List Sess} {k:Nat} (ha:(l.take k).all (fun y=>decide (y.client<c.client))=true) (h:(k:Int)<l.length) (hb:(l.getD k (dflt (.nm .sess))).client<c.client):(l.take (k+1)).all (fun y=>decide (y.client<c.client))=true:=by
 rw [aF (gd (d:=dflt (.nm .sess)) h),List.all_append,ha]; simp only [List.all_cons,List.all_nil,decide_eq_true hb]; rfl
end
def Fb (st:State) (c:Command):List (Nat × LI):=[(15,{ σ:=Nat,F:=fun k=>([(2,one (.ptr 0 0)),(3,one (.ptr 1 0)),(4,one (.ptr 2 0)),(5,one (.ptr 3 0)),(7,one (.int k))],[.box 26 ([.int ((st.version)),.int ((st.next)),.int ((st.keep)),.int ((st.quota)),.own 4,.own 5,.own 6]),.box 29 (cellsOf (.nm .command) ((c))),.box 26 ([.int ((0)),.int ((0)),.int ((0)),.int ((0)),.em true,.em true,.em true]),.box 35 ([.int ((0)),.int ((0))]),.row 42 (.nm .sess) ((st.sess)),.row 51 (.nm .opn) ((st.opens)),.row 46 (.nm .snap) ((st.snaps))]),J:=fun k=>k<=st.sess.length/\(st.sess.take k).all (fun y=>decide (y.client<c.client))=true,μ:=fun k=>st.sess.length - k })]
theorem Ff (st:State) (c:Command) (r0:Int) (r1:Int) (r2:Int) (r3:Int) (r4:Reply) (r5:List Sess) (r6:List Opn) (r7:List Snap):uy aL wS (Fb st c) Try.f13 [.agg (cellsOf (.nm .state) st),.agg (cellsOf (.nm .command) c)] [] [.agg ([.int (r0),.int (r1),.int (r2),.int (r3),.own 0,.own 1,.own 2]),.agg (cellsOf (.nm .reply) r4)] [.row 42 (.nm .sess) (r5),.row 51 (.nm .opn) (r6),.row 46 (.nm .snap) (r7)]=((fun (q12:Reply)=>(fun (q11:den (Sh.nm NT.sess))=>(fun (q10:Prop)=>(fun (q9:Prop)=>(fun (q8:Prop)=>(fun (q7:Int)=>(fun (q6:Int)=>(fun (q5:Prop)=>(fun (q4:State)=>(fun (q3:Int)=>(fun (q2:List Sess)=>(fun (q1:Int)=>(fun (q0:Prop)=>I64 q3->I64 st.next->I64 st.keep->I64 st.quota->q2.length*(32:Nat)<=(140737488355328:Nat)->st.opens.length*(16:Nat)<=(140737488355328:Nat)->st.snaps.length*(64:Nat)<=(140737488355328:Nat)->I64 c.kind->I64 q7->I64 c.seq->I64 c.set->I64 c.id->I64 c.n->c.chunks.length*(8:Nat)<=(140737488355328:Nat)->c.text.b.length<=(140737488355328:Nat)->I64 q3->I64 st.next->I64 st.keep->I64 st.quota->I64 (if mayF st q3=q1 then bE c q3 else q6)->(¬(if mayF st q3=q1 then bE c q3 else q6)=q1->I64 (if mayF st q3=q1 then bE c q3 else q6)->I64 q1->q3=r0/\q10/\q9/\q8/\(if mayF st q3=q1 then bE c q3 else q6)=r4.code/\q1=r4.n/\q2=r5/\q5)/\((if mayF st q3=q1 then bE c q3 else q6)=q1->(c.kind=(8:Int)->I64 (q3+q6)/\(¬c.n=q3+q6->I64 q6->I64 q1->q3=r0/\q10/\q9/\q8/\q6=r4.code/\q1=r4.n/\q2=r5/\q5)/\(c.n=q3+q6->c.n=r0/\q10/\q9/\q8/\q1=r4.code/\c.n=r4.n/\q2=r5/\q5))/\(¬c.kind=(8:Int)->(c.kind=q6->I64 (ah Sess.client q7 q2)->(q1<=ah Sess.client q7 q2->I64 (12:Int)->I64 q1->q3=r0/\q10/\q9/\q8/\(12:Int)=r4.code/\q1=r4.n/\q2=r5/\q5)/\(ah Sess.client q7 q2<q1->∃ (s0:Nat),(fun (q13:Int)=>(q1=(↑s0:Int)/\q0)/\(s0<=q2.length/\((List.take s0 q2).all fun (y:Sess)=>decide (y.client<q7))=true)/\∀ (s:Nat),(fun (q15:Int)=>(fun (q14:den (Sh.nm NT.sess))=>s<=q2.length/\((List.take s q2).all fun (y:Sess)=>decide (y.client<q7))=true->(q15<q13->q1<=q15/\q15<q13)/\((q15<q13->I64 q14.client/\I64 q14.seq/\I64 q14.last.code/\I64 q14.last.n)->(q15<q13/\q14.client<q7->I64 (q15+q6)/\∃ (s':Nat),(q15+q6=(↑s':Int)/\q0)/\(s' <= q2.length/\((List.take s' q2).all fun (y:Sess)=>decide (y.client<q7))=true)/\q2.length - s' < q2.length - s)/\(q13<=q15\/q7<=q14.client->(q1<=q15/\q15<=q13)/\q2.length<(1048576:Nat)/\[Sess.mk q7 q1 (Reply.mk q1 q1)].length=(1:Nat)/\q3=r0/\q10/\q9/\q8/\q1=r4.code/\q1=r4.n/\List.take s q2++[Sess.mk q7 q1 (Reply.mk q1 q1)]++List.drop s q2=r5/\q5))) (q2.getD s q11)) (↑s:Int)) (↑q2.length:Int)))/\(¬c.kind=q6->bF st c=q1/\(I64 q4.version->I64 q4.next->I64 q4.keep->I64 q4.quota->I64 q12.code->I64 q12.n->q4.version=r0/\q4.next=r1/\q4.keep=r2/\q4.quota=r3/\q12.code=r4.code/\q12.n=r4.n/\q4.sess=r5/\q4.opens=r6/\q4.snaps=r7))))) (q3=q3/\st.next=st.next/\st.keep=st.keep/\st.quota=st.quota/\c.kind=c.kind/\q7=q7/\c.seq=c.seq/\c.set=c.set/\c.id=c.id/\c.n=c.n/\c.chunks=c.chunks/\c.text=c.text/\q1=q1/\q1=q1/\q1=q1/\q1=q1/\q1=q1/\q1=q1/\q2=q2/\st.opens=st.opens/\st.snaps=st.snaps)) (0:Int)) st.sess) st.version) (bg st c).fst) (st.opens=r6/\st.snaps=r7)) (1:Int)) c.client) (st.quota=r3)) (st.keep=r2)) (st.next=r1)) (dflt (Sh.nm NT.sess))) (bg st c).snd):=by kernel_rfl
theorem Fj (st:State) (c:Command):Sat Try.prog (av aL) 13 [.agg (cellsOf (.nm .state) st),.agg (cellsOf (.nm .command) c)] [] ⟨[],[.agg ([.int (((aD st c).1.version)),.int (((aD st c).1.next)),.int (((aD st c).1.keep)),.int (((aD st c).1.quota)),.own 0,.own 1,.own 2]),.agg (cellsOf (.nm .reply) ((aD st c).2))],some ([.row 42 (.nm .sess) (((aD st c).1.sess)),.row 51 (.nm .opn) (((aD st c).1.opens)),.row 46 (.nm .snap) (((aD st c).1.snaps))]),true⟩:=by
 refine eQ rA (Fb st c) Try.func13 (by decide) (by kernel_rfl) ?_
 rw [Ff]
 (repeat' (first | with_reducible refine And.intro ?_ ?_ | with_reducible refine and_imp.2 ?_ | intro))
 all_goals try (first | (first | with_reducible rfl | with_reducible assumption | omega | (refine aq ?_ ?_ <;> omega)) | exact rfl | exact Em (by with_reducible assumption) | exact DX (by with_reducible assumption) | exact tK (by with_reducible assumption) | exact xg (by with_reducible assumption) (by with_reducible assumption) (by with_reducible assumption) | (rw [Fp] <;> first | rfl | with_reducible assumption | exact cu (by omega) (by with_reducible assumption) (by assumption)) | (rw [Bw] <;> first | rfl | with_reducible assumption | exact cu (by omega) (by with_reducible assumption) (by assumption)) | (rw [Bi] <;> first | rfl | with_reducible assumption | exact cu (by omega) (by with_reducible assumption) (by assumption)) | (rw [Au] <;> first | rfl | with_reducible assumption | exact cu (by omega) (by with_reducible assumption) (by assumption)) | (rw [BS] <;> first | rfl | with_reducible assumption | exact cu (by omega) (by with_reducible assumption) (by assumption)) | (rw [EJ] <;> first | rfl | with_reducible assumption | exact cu (by omega) (by with_reducible assumption) (by assumption)))
 all_goals try (refine ⟨0,?_⟩; (repeat' (first | with_reducible refine And.intro ?_ ?_ | with_reducible refine and_imp.2 ?_ | intro)))
 all_goals try (first | (first | with_reducible rfl | with_reducible assumption | omega | (refine aq ?_ ?_ <;> omega)) | exact rfl | exact Em (by with_reducible assumption) | exact DX (by with_reducible assumption) | exact tK (by with_reducible assumption) | exact xg (by with_reducible assumption) (by with_reducible assumption) (by with_reducible assumption) | (rw [Fp] <;> first | rfl | with_reducible assumption | exact cu (by omega) (by with_reducible assumption) (by assumption)) | (rw [Bw] <;> first | rfl | with_reducible assumption | exact cu (by omega) (by with_reducible assumption) (by assumption)) | (rw [Bi] <;> first | rfl | with_reducible assumption | exact cu (by omega) (by with_reducible assumption) (by assumption)) | (rw [Au] <;> first | rfl | with_reducible assumption | exact cu (by omega) (by with_reducible assumption) (by assumption)) | (rw [BS] <;> first | rfl | with_reducible assumption | exact cu (by omega) (by with_reducible assumption) (by assumption)) | (rw [EJ] <;> first | rfl | with_reducible assumption | exact cu (by omega) (by with_reducible assumption) (by assumption)))
 all_goals try (refine ⟨‹Nat› + 1,?_⟩; (repeat' (first | with_reducible refine And.intro ?_ ?_ | with_reducible refine and_imp.2 ?_ | intro)))
 all_goals (first | (first | with_reducible rfl | with_reducible assumption | omega | (refine aq ?_ ?_ <;> omega)) | exact rfl | exact Em (by with_reducible assumption) | exact DX (by with_reducible assumption) | exact tK (by with_reducible assumption) | exact xg (by with_reducible assumption) (by with_reducible assumption) (by with_reducible assumption) | (rw [Fp] <;> first | rfl | with_reducible assumption | exact cu (by omega) (by with_reducible assumption) (by assumption)) | (rw [Bw] <;> first | rfl | with_reducible assumption | exact cu (by omega) (by with_reducible assumption) (by assumption)) | (rw [Bi] <;> first | rfl | with_reducible assumption | exact cu (by omega) (by with_reducible assumption) (by assumption)) | (rw [Au] <;> first | rfl | with_reducible assumption | exact cu (by omega) (by with_reducible assumption) (by assumption)) | (rw [BS] <;> first | rfl | with_reducible assumption | exact cu (by omega) (by with_reducible assumption) (by assumption)) | (rw [EJ] <;> first | rfl | with_reducible assumption | exact cu (by omega) (by with_reducible assumption) (by assumption)))
def wW:cY:=(bX 13 (bR (ak (kT (.nm .state)) (ak (kT (.nm .command)) aU)) aR fun (st,c,_) (_)=>⟨[],[.agg ([.int (((aD st c).1.version)),.int (((aD st c).1.next)),.int (((aD st c).1.keep)),.int (((aD st c).1.quota)),.own 0,.own 1,.own 2]),.agg (cellsOf (.nm .reply) ((aD st c).2))],some ([.row 42 (.nm .sess) (((aD st c).1.sess)),.row 51 (.nm .opn) (((aD st c).1.opens)),.row 46 (.nm .snap) (((aD st c).1.snaps))]),true⟩) wS)
theorem rF:bf Try.prog (av aL) wW:=(aC (aB (ae bP (ae bP ao)) al fun (st,c,_) (_) _=>Fj st c ) rA)
end Go.Proofs.Ytmmbibcfkdabeaa
namespace Go.Proofs.Ytmmbibcfkdabeaa
open Go.RowKit
theorem zN  (r0:State):du aL wW [] Try.f26 [] [] [.agg (cellsOf (.nm .state) r0)]=((1:Int)=r0.version/\(1:Int)=r0.next/\(0:Int)=r0.keep/\(0:Int)=r0.quota/\r0.sess=[]/\r0.opens=[]/\r0.snaps=[]):=by kernel_rfl
theorem yi :Sat Try.prog (av aL) 26 [] [] ⟨[],[.agg (cellsOf (.nm .state) (⟨1,1,0,0,[],[],[]⟩))],none,false⟩:=by
 refine aY rF [] Try.func26 (by decide) (by kernel_rfl) ?_
 rw [zN]
 (repeat' (first | with_reducible refine And.intro ?_ ?_ | with_reducible refine and_imp.2 ?_ | intro))
 all_goals (first | (first | with_reducible rfl | with_reducible assumption | omega | (refine aq ?_ ?_ <;> omega)) | exact rfl)
def xV:cY:=(bX 26 (bR aU aR fun (_) (_)=>⟨[],[.agg (cellsOf (.nm .state) (⟨1,1,0,0,[],[],[]⟩))],none,false⟩) wW)
theorem qo:bf Try.prog (av aL) xV:=(aC (aB ao al fun (_) (_) _=>yi  ) rF)
end Go.Proofs.Ytmmbibcfkdabeaa
namespace Go.Proofs.Ytmmbibcfkdabeaa
open Go.RowKit
theorem GP:aD (State.mk 1 1 0 0 [] [] []) (Command.mk 1 3 0 0 0 0 [] (Str.mk []))=(State.mk 1 1 0 0 [Sess.mk 3 0 (Reply.mk 0 0)] [] [],Reply.mk 0 0):=by kernel_rfl
theorem Gr:(aD (State.mk 1 1 0 0 [Sess.mk 3 0 (Reply.mk 0 0)] [] []) (Command.mk 2 3 2 1 0 0 [] (Str.mk []))).2=Reply.mk 14 0:=by kernel_rfl
theorem zw  (r0:Bool):du aL xV [] Try.f10 [] [] [.c (.bool (.atom (r0)))]=((fun (q4:den (Sh.nm NT.sess))=>(fun (q3:Int)=>(fun (q2:Int)=>(fun (q1:Command)=>(fun (q0:State × Reply)=>I64 q3->I64 q3->I64 q2->I64 q2->(0:Nat)*(32:Nat)<=(140737488355328:Nat)->(0:Nat)*(16:Nat)<=(140737488355328:Nat)->(0:Nat)*(64:Nat)<=(140737488355328:Nat)->I64 q0.fst.version->I64 q0.fst.next->I64 q0.fst.keep->I64 q0.fst.quota->I64 q0.snd.code->I64 q0.snd.n->I64 (aD q0.fst q1).fst.version->I64 (aD q0.fst q1).fst.next->I64 (aD q0.fst q1).fst.keep->I64 (aD q0.fst q1).fst.quota->I64 (aD q0.fst q1).snd.code->I64 (aD q0.fst q1).snd.n->((q0.snd.code=q2/\q0.snd.n=q2)/\(↑q0.fst.sess.length:Int)=q3->q2<=q2/\q2<(↑q0.fst.sess.length:Int))/\(((q0.snd.code=q2/\q0.snd.n=q2)/\(↑q0.fst.sess.length:Int)=q3->I64 (q0.fst.sess.getD (0:Nat) q4).client/\I64 (q0.fst.sess.getD (0:Nat) q4).seq/\I64 (q0.fst.sess.getD (0:Nat) q4).last.code/\I64 (q0.fst.sess.getD (0:Nat) q4).last.n)->(decide (q0.snd.code=q2) && decide (q0.snd.n=q2) && decide ((↑q0.fst.sess.length:Int)=q3) && decide ((q0.fst.sess.getD (0:Nat) q4).client=(3:Int)) && decide ((aD q0.fst q1).snd.code=(14:Int)))=r0)) (aD (State.mk q3 q3 q2 q2 [] [] []) (Command.mk q3 (3:Int) q2 q2 q2 q2 [] (Str.mk [])))) (Command.mk (2:Int) (3:Int) (2:Int) q3 q2 q2 [] (Str.mk []))) (0:Int)) (1:Int)) (dflt (Sh.nm NT.sess))):=by kernel_rfl
theorem yH :Sat Try.prog (av aL) 10 [] [] ⟨[],[.c (.bool (.atom ((true))))],none,false⟩:=by
 refine aY qo [] Try.func10 (by decide) (by kernel_rfl) ?_
 rw [zw]
 simp only [GP,Gr]
 (repeat' (first | with_reducible refine And.intro ?_ ?_ | with_reducible refine and_imp.2 ?_ | intro))
 all_goals first | (first | with_reducible rfl | with_reducible assumption | omega | (refine aq ?_ ?_ <;> omega)) | decide | rfl
def CG:cY:=(bX 10 (bR aU aR fun (_) (_)=>⟨[],[.c (.bool (.atom ((true))))],none,false⟩) xV)
theorem xH:bf Try.prog (av aL) CG:=(aC (aB ao al fun (_) (_) _=>yH  ) qo)
end Go.Proofs.Ytmmbibcfkdabeaa
namespace Go.Proofs.Ytmmbibcfkdabeaa
open Go.RowKit
section
variable {s:State} {c:Command}
theorem fl {α:Type} {key:α->Int} {l:List α} {k:Nat} {x d:α} (hk:k<l.length) (h:key x=key (l.getD k d)):(l.set k x).map key=l.map key:=by
 rw [List.map_set,h,List.getD_eq_getElem?_getD,List.getElem?_eq_getElem hk,Option.getD_some]
 have:key l[k]=(l.map key)[k]'(by rw [List.length_map]; exact hk):=by rw [List.getElem_map]
 rw [this,List.set_getElem_self]
theorem Gv (h0:mayF s s.version=0) (h:¬ bE c s.version=0):aD s c=(s,⟨bE c s.version,0⟩):=by
 have e:(if mayF s s.version=0 then bE c s.version else 1)=bE c s.version:=if_pos h0
 have:=Fp (s:=s) (c:=c) (by rw [e]; exact h)
 rwa [e] at this
theorem Gw (h:¬ mayF s s.version=0):aD s c=(s,⟨1,0⟩):=by
 have e:(if mayF s s.version=0 then bE c s.version else 1)=1:=if_neg h
 have:=Fp (s:=s) (c:=c) (by rw [e]; decide)
 rwa [e] at this
theorem qQ (h0:mayF s s.version=0) (h:bE c s.version=0):(if mayF s s.version=0 then bE c s.version else 1)=0:=by rw [if_pos h0]; exact h
theorem uh (h0:mayF s s.version=0) (h1:bE c s.version=0) (h3:¬ c.kind=8) (h4:¬ c.kind=1) (hk:0<=ah Sess.client c.client s.sess) (hq:c.seq=(s.sess.getD (ah Sess.client c.client s.sess).toNat (dflt (.nm .sess))).seq+1) :
  aD s c=(State.mk (bz s c).1.version (bz s c).1.next (bz s c).1.keep (bz s c).1.quota (s.sess.set (ah Sess.client c.client s.sess).toNat (Sess.mk (s.sess.getD (ah Sess.client c.client s.sess).toNat (dflt (.nm .sess))).client c.seq (bz s c).2)) (bz s c).1.opens (bz s c).1.snaps,(bz s c).2):=by
 rw [EJ (qQ h0 h1) h3 h4]
 obtain ⟨v,nx,kp,qt,se,op,sn⟩:=s
 rw [Hi hk (by dsimp only at *; omega) (by dsimp only at *; omega) (by dsimp only at *; omega)]
 simp only [nz]
theorem AE (h0:mayF s s.version=0) (h1:bE c s.version=0) (h3:¬ c.kind=8) (h4:¬ c.kind=1) (h:ah Sess.client c.client s.sess<0\/¬ c.seq=(s.sess.getD (ah Sess.client c.client s.sess).toNat (dflt (.nm .sess))).seq+1):(aD s c).1=s:=by
 rw [EJ (qQ h0 h1) h3 h4]
 by_cases hk:ah Sess.client c.client s.sess<0
 ·rw [show bg s c=_ from GU hk]
 ·have hk:0<=ah Sess.client c.client s.sess:=by omega
  have h:=h.resolve_left (by omega)
  by_cases e:c.seq=(s.sess.getD (ah Sess.client c.client s.sess).toNat (dflt (.nm .sess))).seq
  ·rw [show bg s c=_ from He hk e]
  ·by_cases l:c.seq<(s.sess.getD (ah Sess.client c.client s.sess).toNat (dflt (.nm .sess))).seq
   ·rw [show bg s c=_ from Gi hk e l]
   ·rw [show bg s c=_ from Gu hk e (by omega) (by omega)]
end
end Go.Proofs.Ytmmbibcfkdabeaa
namespace Go.Proofs.Ytmmbibcfkdabeaa
open Go.RowKit
theorem dG {c:Command} {v:Int} (h:bE c v=0):(1<=v/\v<=3)/\¬ eU c.kind=0/\eU c.kind<=v/\dM c=true:=by
 unfold bE at h
 split at h
 ·cases h
 ·rename_i h1
  rw [Bool.or_eq_true,not_or] at h1
  simp only [Bool.not_eq_true',Bool.not_eq_false,decide_eq_true_eq] at h1
  split at h
  ·cases h
  ·split at h
   ·cases h
   ·rename_i h2 h3
    exact ⟨pn h1.1,h1.2,by omega,by simpa using h3⟩
theorem xN {c:Command} {v:Int}:0<=bE c v/\bE c v<=99:=by
 unfold bE; (repeat' split) <;> omega
theorem mW {s:State} {c:Command}:0<=bF s c/\bF s c<=99:=by
 unfold bF; split
 ·exact xN
 ·omega
theorem eL {s:State} {c:Command} (h:bF s c=0):mayF s s.version=0/\bE c s.version=0:=by
 have h1:=qT (s:=s) (c:=c) h
 refine ⟨h1,?_⟩
 unfold bF at h; rwa [if_pos h1] at h
theorem lO {s:State} {v:Int} (h1:cg v 1 3=true) (h2:cO s v=true) (h3:mE s=true) (h4:jw s=true) (h5:dj s v=true):mayF s v=0:=by
 unfold mayF; simp [h1,h2,h3,h4,h5]
theorem nF {s:State} {v:Int} (h1:s.snaps.length<=16) (h2:ai Snap.id (s.next - 1) 0 s.snaps=true) (h3:∀ x ∈ s.snaps,bk v (dC v) x=true):dj s v=true:=by
 unfold dj
 rw [h2,decide_eq_false (by omega),List.all_eq_true.2 h3]; rfl
section
variable {α:Type} {key:α->Int} {most:Int}
theorem xU:∀ {l:List α} {a b:Int},a<=b->ai key most b l=true->ai key most a l=true
 | [],_,_,_,_=>rfl
 | x :: l,a,b,h,k=>by
  simp only [ai,Bool.and_eq_true] at k ⊢
  have:=pn k.1
  exact ⟨by unfold cg; rw [Bool.and_eq_true,decide_eq_true_eq,decide_eq_true_eq]; omega,k.2⟩
theorem kH {l l':List α} (h:l'.Sublist l):∀ {a:Int},ai key most a l=true->ai key most a l' = true:=by
 induction h with
 | slnil=>intro a _; rfl
 | cons x _ ih=>
  intro a k
  simp only [ai,Bool.and_eq_true] at k
  have:=pn k.1
  exact ih (xU (by omega) k.2)
 | cons_cons x _ ih=>
  intro a k
  simp only [ai,Bool.and_eq_true] at k ⊢
  exact ⟨k.1,ih k.2⟩
theorem ew:∀ {l:List α} {a:Int},ai key most a l=ai id most a (l.map key)
 | [],_=>rfl
 | x :: l,a=>by
  show (cg (key x) (a+1) most && ai key most (key x) l)=(cg (key x) (a+1) most && ai id most (key x) (l.map key))
  rw [ew (l:=l)]
theorem ua {x:α} {m2:Int} (hx:most<key x) (hm:key x<=m2):∀ {l:List α} {a:Int},a<=most->ai key most a l=true->ai key m2 a (l++[x])=true
 | [],a,ha,_=>by
  simp only [List.nil_append,ai,Bool.and_true]
  unfold cg; rw [Bool.and_eq_true,decide_eq_true_eq,decide_eq_true_eq]; omega
 | y :: l,a,_,k=>by
  simp only [List.cons_append,ai,Bool.and_eq_true] at k ⊢
  have:=pn k.1
  exact ⟨by unfold cg; rw [Bool.and_eq_true,decide_eq_true_eq,decide_eq_true_eq]; omega,ua hx hm (by omega) k.2⟩
theorem kJ {x:α}:∀ {l:List α} {a:Int},ai key most a l=true->a<key x->key x<=most->(∀ y ∈ l,¬ key y=key x)->ai key most a (ek l (l.takeWhile fun y=>decide (key y<key x)).length x)=true
 | [],a,_,h1,h2,_=>by
  show (cg (key x) (a+1) most && true)=true
  unfold cg; simp; omega
 | y :: l,a,k,h1,h2,hn=>by
  simp only [ai,Bool.and_eq_true] at k
  have h3:=pn k.1
  have h4:=hn y (List.mem_cons_self)
  by_cases h:key y<key x
  ·have e:ek (y :: l) ((y :: l).takeWhile fun y=>decide (key y<key x)).length x=y :: ek l (l.takeWhile fun y=>decide (key y<key x)).length x:=by
    rw [List.takeWhile_cons,decide_eq_true h,if_pos rfl]; rfl
   rw [e]
   simp only [ai,Bool.and_eq_true]
   exact ⟨k.1,kJ k.2 h h2 fun z hz=>hn z (List.mem_cons_of_mem _ hz)⟩
  ·have e:ek (y :: l) ((y :: l).takeWhile fun y=>decide (key y<key x)).length x=x :: y :: l:=by
    rw [List.takeWhile_cons,decide_eq_false h]; rfl
   rw [e]
   simp only [ai,Bool.and_eq_true]
   refine ⟨?_,?_,k.2⟩
   ·unfold cg; rw [Bool.and_eq_true,decide_eq_true_eq,decide_eq_true_eq]; omega
   ·unfold cg; rw [Bool.and_eq_true,decide_eq_true_eq,decide_eq_true_eq]; omega
theorem tE {l:List α} {i:Nat} {x y:α} (h:y ∈ ek l i x):y=x\/y ∈ l:=by
 unfold ek at h
 rcases List.mem_append.1 h with h | h
 ·exact .inr (List.mem_of_mem_take h)
 ·rcases List.mem_cons.1 h with h | h
  ·exact .inl h
  ·exact .inr (List.mem_of_mem_drop h)
theorem kq {l:List α} {i:Int} (h:0<=i):(mS l i).Sublist l:=by
 unfold mS
 rw [show (i+1).toNat=i.toNat+1 by omega]
 have h1:(l.drop (i.toNat+1)).Sublist (l.drop i.toNat):=by
  rw [<- List.drop_drop]; exact List.drop_sublist 1 _
 have h2:=(List.Sublist.refl (l.take i.toNat)).append h1
 rwa [List.take_append_drop] at h2
theorem ei {want:Int} {l:List α} (h:ah key want l<0):∀ x ∈ l,¬ key x=want:=by
 refine gX.1 ?_
 unfold ah at *
 split
 ·rename_i i hi; rw [hi] at h; dsimp only at h; omega
 ·rfl
end
theorem gw {c:Command} (h:dM c=true):(jY c.kind).1<=c.n/\c.n<=(jY c.kind).2/\Ft c=true/\EX c=true/\fF c.client 8 (!([(8:Int)].contains c.kind))=true/\fF c.seq 1048576 (!([(1:Int),8].contains c.kind))=true/\fF c.set 8 ([(2:Int),3,4].contains c.kind)=true:=by
 unfold dM at h
 simp only [Bool.and_eq_true,decide_eq_true_eq] at h
 obtain ⟨⟨⟨⟨⟨⟨⟨h1,h2⟩,h3⟩,h4⟩,h5⟩,h6⟩,h7⟩,h8⟩:=h
 exact ⟨h1,h2,h3,h4,h5,h6,h7⟩
theorem me {c:Command} (h:dM c=true) (k:¬ c.kind=8):1<=c.client/\c.client<=8:=by
 have h1:=(gw h).2.2.2.2.1
 have e:(!([(8:Int)].contains c.kind))=true:=by simp [k]
 rw [e] at h1; unfold fF at h1; simpa using h1
theorem Be {c:Command} (h:dM c=true) (k:¬ c.kind=8) (k1:¬ c.kind=1):1<=c.seq/\c.seq<=1048576:=by
 have h1:=(gw h).2.2.2.2.2.1
 have e:(!([(1:Int),8].contains c.kind))=true:=by simp [k,k1]
 rw [e] at h1; unfold fF at h1; simpa using h1
theorem nY {c:Command} (h:dM c=true) (k:c.kind=2\/c.kind=3\/c.kind=4):1<=c.set/\c.set<=8:=by
 have h1:=(gw h).2.2.2.2.2.2
 have e:([(2:Int),3,4].contains c.kind)=true:=by rcases k with k | k | k <;> rw [k] <;> decide
 rw [e] at h1; unfold fF at h1; simpa using h1
theorem yS {c:Command} (h:dM c=true):(c.kind=8->2<=c.n/\c.n<=3)/\(c.kind=6->0<=c.n/\c.n<=8)/\(c.kind=12->0<=c.n/\c.n<=64):=by
 obtain ⟨h1,h2,_⟩:=gw h
 refine ⟨fun k=>?_,fun k=>?_,fun k=>?_⟩ <;> (rw [k] at h1 h2; exact ⟨h1,h2⟩)
theorem AM {c:Command} (h:dM c=true) (k:c.kind=11):(c.text.b.length:Int)<=16:=by
 have h1:=(gw h).2.2.2.1
 unfold EX at h1; rw [if_pos k] at h1; simpa using h1
theorem si {c:Command} (h:dM c=true) (k:c.kind=3):cR c.chunks=0:=by
 have h1:=(gw h).2.2.1
 unfold Ft at h1; rw [if_pos k] at h1; exact (eA h1).symm
theorem wa {l:List Snap}:distF l<=64:=BQ
theorem wH {l:List Snap} {id:Int}:(fx l id).length<=64:=by
 have:=Ev (l:=l) (id:=id) (k:=64) (n:=0) (Nat.le_refl _)
 unfold fx iC
 rw [List.length_map]
 refine Nat.le_trans (List.length_filter_le _ _) ?_
 simp
end Go.Proofs.Ytmmbibcfkdabeaa
namespace Go.Proofs.Ytmmbibcfkdabeaa
open Go.RowKit
theorem oe {s:State} {v:Int} (a:cg s.version 1 3=true) (b:cg s.next 1 1048576=true) (c:cg s.keep 0 8=true) (d:cg s.quota 0 (if v<3 then 0 else 64)=true):cO s v=true:=by
 unfold cO; rw [a,b,c,d]; rfl
theorem gp {s:State} {v:Int} (h:cO s v=true):cg s.version 1 3=true/\cg s.next 1 1048576=true/\cg s.keep 0 8=true/\cg s.quota 0 (if v<3 then 0 else 64)=true:=by
 unfold cO at h; simp only [Bool.and_eq_true] at h; exact ⟨h.1.1.1,h.1.1.2,h.1.2,h.2⟩
theorem xb {n a b:Int} (h1:a<=n) (h2:n<=b):cg n a b=true:=by unfold cg; rw [decide_eq_true h1,decide_eq_true h2]; rfl
theorem eX {s:State} (M:mayF s s.version=0) {nx:Int} {op:List Opn} {sn:List Snap} (hn:1<=nx/\nx<=1048576) (ho:ai Opn.set 8 0 op=true/\∀ x ∈ op,bO x=true) (h1:sn.length<=16) (h2:ai Snap.id (nx - 1) 0 sn=true) (h3:∀ x ∈ sn,bk s.version (dC s.version) x=true):mayF (State.mk s.version nx s.keep s.quota s.sess op sn) s.version=0:=by
 obtain ⟨k1,k2,k3,k4,k5⟩:=bM M
 obtain ⟨n1,n2,n3,n4⟩:=gp k2
 refine lO k1 (oe n1 (xb hn.1 hn.2) n3 n4) k3 ?_ (nF h1 h2 h3)
 show (ai Opn.set 8 0 op && op.all bO)=true
 rw [ho.1,List.all_eq_true.2 ho.2]; rfl
theorem cm {s:State} (M:mayF s s.version=0):ai Opn.set 8 0 s.opens=true/\∀ x ∈ s.opens,bO x=true:=by
 have h:=(bM M).2.2.2.1
 simp only [jw,Bool.and_eq_true,List.all_eq_true] at h
 exact h
theorem fV {s:State} {v:Int} (M:mayF s v=0):ai Sess.client 8 0 s.sess=true/\∀ x ∈ s.sess,bJ x=true:=by
 have h:=(bM M).2.2.1
 simp only [mE,Bool.and_eq_true,List.all_eq_true] at h
 exact h
theorem gQ {v t:Int} {x:Snap} (h:bk v t x=true):cR x.chunks=0/\cg x.set 1 8=true/\(x.held=false\/2<=v)/\((x.tag.b.length:Nat):Int)<=t:=by
 simp only [bk,Bool.and_eq_true,decide_eq_true_eq,Bool.or_eq_true,Bool.not_eq_true'] at h
 exact ⟨h.1.1.1,h.1.1.2,h.1.2,h.2⟩
theorem kP {v t:Int} {x:Snap} (h1:cR x.chunks=0) (h2:cg x.set 1 8=true) (h3:x.held=false\/2<=v) (h4:((x.tag.b.length:Nat):Int)<=t):bk v t x=true:=by
 simp only [bk,Bool.and_eq_true,decide_eq_true_eq,Bool.or_eq_true,Bool.not_eq_true']
 exact ⟨⟨⟨h1,h2⟩,h3⟩,h4⟩
theorem lS {s:State} (M:mayF s s.version=0) {n:Nat} (h:n<s.snaps.length):bk s.version (dC s.version) (s.snaps.getD n (dflt (.nm .snap)))=true:=
 (ff M).2.2 _ (List.mem_of_getElem? (gd (d:=dflt (.nm .snap)) (by omega)))
theorem uC {s:State} (M:mayF s s.version=0) {n:Nat} (h:n<s.snaps.length) {x:Snap} (hi:x.id=(s.snaps.getD n (dflt (.nm .snap))).id) (hx:bk s.version (dC s.version) x=true):mayF (State.mk s.version s.next s.keep s.quota s.sess s.opens (s.snaps.set n x)) s.version=0:=by
 obtain ⟨k1,k2,k3⟩:=ff M
 refine eX M (jq M) (cm M) (by rw [List.length_set]; exact k1) ?_ fun y hy=>?_
 ·rw [ew,fl (d:=dflt (.nm .snap)) h hi,<- ew]; exact k2
 ·rcases List.mem_or_eq_of_mem_set hy with hy | rfl
  ·exact k3 y hy
  ·exact hx
structure ActOk (s:State) (r:State × Reply):Prop where
 may:mayF r.1 r.1.version=0
 ver:r.1.version=s.version
 nxt:s.next<=r.1.next/\r.1.next<=s.next+1
 code:0<=r.2.code/\r.2.code<=99
 n:0<=r.2.n/\r.2.n<=1048576
theorem ActOk.refl {s:State} (M:mayF s s.version=0) {e n:Int} (h1:0<=e/\e<=99) (h2:0<=n/\n<=1048576):ActOk s (s,⟨e,n⟩):=⟨M,rfl,⟨Int.le_refl _,by show s.next<=s.next+1; omega⟩,h1,h2⟩
theorem zP {Q:State × Reply->Prop} {s:State} {c:Command} (h0:∀ e:Int,¬ e=0->0<=e->e<=99->Q (s,⟨e,0⟩))
  (ht:bF s c=0->c.kind=11->Q (au (ct c) c s)) (hh:∀ b,bF s c=0->(b=true->c.kind=9)->(c.kind=9\/c.kind=10)->Q (au (bn b) c s)) (hl:bF s c=0->c.kind=7->Q (au bb c s)) (hp:bF s c=0->c.kind=5->Q (au aK c s))
  (hq:bF s c=0->c.kind=12->Q (cn c s)) (hk:bF s c=0->c.kind=6->Q (cN c s)) (ha:bF s c=0->c.kind=4->Q (aT s c)) (hc:bF s c=0->c.kind=3->Q (aN s c)) (hb:bF s c=0->c.kind=2->Q (aP s c)):Q (bz s c):=by
 unfold bz
 split
 ·exact h0 _ (by assumption) mW.1 mW.2
 ·rename_i h
  have h:bF s c=0:=Classical.not_not.1 h
  unfold mP
  split
  ·exact ht h (by assumption)
  split
  ·rename_i _ k; exact hh _ h (fun e=>by cases e) (.inr k)
  split
  ·rename_i _ _ k; exact hh _ h (fun _=>k) (.inl k)
  split
  ·exact hl h (by assumption)
  split
  ·exact hp h (by assumption)
  split
  ·exact hq h (by assumption)
  split
  ·exact hk h (by assumption)
  split
  ·exact ha h (by assumption)
  split
  ·exact hc h (by assumption)
  split
  ·exact hb h (by assumption)
  ·exact h0 1 (by decide) (by decide) (by decide)
theorem fq {Q:State × Reply->Prop} {f:State->Nat->State × Reply} {s:State} {c:Command} (h0:Q (s,⟨15,0⟩)) (h:∀ n:Nat,(n:Int)=ah Snap.id c.id s.snaps->n<s.snaps.length->Q (f s n)):Q (au f c s):=by
 unfold au
 split
 ·exact h0
 ·rename_i hp
  have:=bj (key:=Snap.id) (want:=c.id) (l:=s.snaps) (by omega)
  exact h _ (by omega) (by omega)
theorem zr {s:State} {c:Command} (M:mayF s s.version=0):ActOk s (bz s c):=by
 have mk:∀ {e:Int},0<=e->e<=99->ActOk s (s,⟨e,0⟩):=fun h1 h2=>ActOk.refl M ⟨h1,h2⟩ ⟨Int.le_refl _,by decide⟩
 have one:s.next<=s.next+1:=by omega
 have z:(0:Int)<=0/\(0:Int)<=99:=by decide
 have zn:(0:Int)<=0/\(0:Int)<=1048576:=by decide
 have z1:(0:Int)<=1/\(1:Int)<=1048576:=by decide
 refine zP (fun e _ h1 h2=>mk h1 h2) (fun A k=>?_) (fun b A kb k=>?_) (fun A k=>?_) (fun A k=>?_) (fun A k=>?_) (fun A k=>?_) (fun A k=>?_) (fun A k=>?_) (fun A k=>?_)
 ·-- a tag
  obtain ⟨⟨v1,v2⟩,_,nv,F⟩:=dG (eL A).2
  refine fq (Q:=ActOk s) (mk (by decide) (by decide)) fun n hn hl=>?_
  obtain ⟨p1,p2,p3,p4⟩:=gQ (lS M hl)
  rw [k,show eU 11=3 from rfl] at nv
  have tm:dC s.version=16:=by unfold dC; rw [if_neg (by omega)]
  refine ⟨uC M hl rfl (kP p1 p2 p3 ?_),rfl,⟨Int.le_refl _,one⟩,z,zn⟩
  rw [tm]; exact AM F k
 ·-- a hold
  obtain ⟨⟨v1,v2⟩,_,nv,F⟩:=dG (eL A).2
  refine fq (Q:=ActOk s) (mk (by decide) (by decide)) fun n hn hl=>?_
  obtain ⟨p1,p2,p3,p4⟩:=gQ (lS M hl)
  unfold bn
  split
  ·exact mk (by decide) (by decide)
  ·refine ⟨uC M hl rfl (kP p1 p2 (.inr ?_) p4),rfl,⟨Int.le_refl _,one⟩,z,z1⟩
   rcases k with k | k
   ·rw [k,show eU 9=2 from rfl] at nv; exact nv
   ·rw [k,show eU 10=2 from rfl] at nv; exact nv
 ·-- a look
  refine fq (Q:=ActOk s) (mk (by decide) (by decide)) fun n hn hl=>?_
  have h1:=oT (yC (lS M hl))
  exact ActOk.refl M ⟨by decide,by decide⟩ ⟨by omega,by omega⟩
 ·-- a prune
  refine fq (Q:=ActOk s) (mk (by decide) (by decide)) fun n hn hl=>?_
  unfold aK
  split
  ·exact mk (by decide) (by decide)
  split
  ·exact mk (by decide) (by decide)
  ·obtain ⟨k1,k2,k3⟩:=ff M
   have hs:(aX (s.snaps.getD n (dflt (.nm .snap))).id s.snaps).Sublist s.snaps:=List.filter_sublist
   have hf:=wH (l:=s.snaps) (id:=(s.snaps.getD n (dflt (.nm .snap))).id)
   exact ⟨eX M (jq M) (cm M) (Nat.le_trans hs.length_le k1) (kH hs k2) fun x hx=>k3 x (hs.subset hx),rfl,⟨Int.le_refl _,one⟩,z,⟨by dsimp only; omega,by dsimp only; omega⟩⟩
 ·-- a quota
  obtain ⟨⟨v1,v2⟩,_,nv,F⟩:=dG (eL A).2
  rw [k,show eU 12=3 from rfl] at nv
  obtain ⟨k1,k2,k3,k4,k5⟩:=bM M
  obtain ⟨n1,n2,n3,n4⟩:=gp k2
  have hn:=(yS F).2.2 k
  have hd:=wa (l:=s.snaps)
  refine ⟨lO k1 (oe n1 n2 n3 ?_) k3 k4 k5,rfl,⟨Int.le_refl _,one⟩,z,⟨by show (0:Int)<=(distF s.snaps:Int); omega,by show (distF s.snaps:Int)<=1048576; omega⟩⟩
  show cg c.n 0 (if s.version<3 then 0 else 64)=true
  rw [if_neg (by omega)]; exact xb hn.1 hn.2
 ·-- a keep
  obtain ⟨_,_,_,F⟩:=dG (eL A).2
  obtain ⟨k1,k2,k3,k4,k5⟩:=bM M
  obtain ⟨n1,n2,n3,n4⟩:=gp k2
  have hn:=(yS F).2.1 k
  exact ⟨lO k1 (oe n1 n2 (xb hn.1 hn.2) n4) k3 k4 k5,rfl,⟨Int.le_refl _,one⟩,z,zn⟩
 ·-- an abort
  unfold aT
  split
  ·exact mk (by decide) (by decide)
  ·obtain ⟨k1,k2,k3⟩:=ff M
   have hs:=kq (l:=s.opens) (i:=bc s c) (by omega)
   exact ⟨eX M (jq M) ⟨kH hs (cm M).1,fun x hx=>(cm M).2 x (hs.subset hx)⟩ k1 k2 k3,rfl,⟨Int.le_refl _,one⟩,z,zn⟩
 ·-- a commit
  obtain ⟨⟨v1,v2⟩,_,nv,F⟩:=dG (eL A).2
  unfold aN
  split
  ·exact mk (by decide) (by decide)
  split
  ·exact mk (by decide) (by decide)
  split
  ·exact mk (by decide) (by decide)
  ·rename_i o1 o2 o3
   obtain ⟨k1,k2,k3⟩:=ff M
   have hnx:=jq M
   have hs:=kq (l:=s.opens) (i:=bc s c) (by omega)
   have hset:=nY F (.inr (.inl k))
   refine ⟨eX M ⟨by omega,by omega⟩ ⟨kH hs (cm M).1,fun x hx=>(cm M).2 x (hs.subset hx)⟩ (by rw [List.length_append]; simp only [List.length_cons,List.length_nil]; omega) ?_ fun x hx=>?_,rfl,⟨by dsimp only; omega,by dsimp only; omega⟩,z,⟨by dsimp only; omega,by dsimp only; omega⟩⟩
   ·exact ua (most:=s.next - 1) (by dsimp only; omega) (by dsimp only; omega) (by omega) k2
   ·rcases List.mem_append.1 hx with hx | hx
    ·exact k3 x hx
    ·rw [List.mem_singleton] at hx; subst hx
     refine kP (si F k) (xb hset.1 hset.2) (.inl rfl) ?_
     show (0:Int)<=dC s.version
     unfold dC; split <;> decide
 ·-- a begin
  obtain ⟨⟨v1,v2⟩,_,nv,F⟩:=dG (eL A).2
  have hset:=nY F (.inl k)
  have hcl:=me F (by omega)
  unfold aP
  split
  ·rename_i hp
   have hl:=bj hp
   have ho:=(cm M).2 _ (List.mem_of_getElem? (gd (d:=dflt (.nm .opn)) (k:=(ah Opn.set c.set s.opens).toNat) (l:=s.opens) (by omega)))
   have:=pn (show cg _ 1 8=true from ho)
   exact ActOk.refl M ⟨by decide,by decide⟩ ⟨by omega,by omega⟩
  ·rename_i hp
   obtain ⟨k1,k2,k3⟩:=ff M
   refine ⟨eX M (jq M) ⟨kJ (x:=Opn.mk c.set c.client) (cm M).1 (by dsimp only; omega) (by dsimp only; omega) fun y hy=>ei (key:=Opn.set) (want:=c.set) (l:=s.opens) (by omega) y hy,fun x hx=>?_⟩ k1 k2 k3,rfl,⟨Int.le_refl _,one⟩,z,zn⟩
   rcases tE hx with rfl | hx
   ·exact xb hcl.1 hcl.2
   ·exact (cm M).2 x hx
end Go.Proofs.Ytmmbibcfkdabeaa
namespace Go.Proofs.Ytmmbibcfkdabeaa
open Go.RowKit
theorem ng {s:State} {v:Int} (M:mayF s v=0) {se:List Sess} (h:ai Sess.client 8 0 se=true/\∀ x ∈ se,bJ x=true):mayF (State.mk s.version s.next s.keep s.quota se s.opens s.snaps) v=0:=by
 obtain ⟨k1,k2,k3,k4,k5⟩:=bM M
 refine lO k1 k2 ?_ k4 k5
 show (ai Sess.client 8 0 se && se.all bJ)=true
 rw [h.1,List.all_eq_true.2 h.2]; rfl
theorem ya {s:State} {c:Command} (M:mayF s s.version=0) (h:bE c s.version=0) (k:c.kind=8) (hn:c.n=s.version+1):mayF (State.mk c.n s.next s.keep s.quota s.sess s.opens s.snaps) c.n=0:=by
 obtain ⟨⟨v1,v2⟩,_,nv,F⟩:=dG h
 have hr:=(yS F).1 k
 obtain ⟨k1,k2,k3,k4,k5⟩:=bM M
 obtain ⟨n1,n2,n3,n4⟩:=gp k2
 obtain ⟨s1,s2,s3⟩:=ff M
 have hq:=pn n4
 refine lO (xb (by omega) hr.2) (oe (xb (by dsimp only; omega) hr.2) n2 n3 ?_) k3 k4 (nF s1 s2 fun x hx=>?_)
 ·show cg s.quota 0 (if c.n<3 then 0 else 64)=true
  refine xb hq.1 ?_
  have:=hq.2
  split at this <;> split <;> omega
 ·obtain ⟨p1,p2,p3,p4⟩:=gQ (s3 x hx)
  refine kP p1 p2 (p3.imp id fun h=>by omega) (Int.le_trans p4 ?_)
  unfold dC; split <;> split <;> omega
theorem AS {s:State} {c:Command} (M:mayF s s.version=0) (h:bE c s.version=0) (k:c.kind=1) (hp:ah Sess.client c.client s.sess<0):mayF (State.mk s.version s.next s.keep s.quota (ek s.sess (s.sess.takeWhile fun y=>decide (y.client<c.client)).length ⟨c.client,0,⟨0,0⟩⟩) s.opens s.snaps) s.version=0:=by
 obtain ⟨_,_,_,F⟩:=dG h
 have hc:=me F (by omega)
 refine ng M ⟨kJ (x:=Sess.mk c.client 0 (Reply.mk 0 0)) (fV M).1 (by dsimp only; omega) (by dsimp only; omega) fun y hy=>ei (key:=Sess.client) (want:=c.client) (l:=s.sess) hp y hy,fun x hx=>?_⟩
 rcases tE hx with rfl | hx
 ·rfl
 ·exact (fV M).2 x hx
theorem xA {s:State} {c:Command} (M:mayF s s.version=0) (h:bE c s.version=0) (h3:¬ c.kind=8) (h4:¬ c.kind=1) (hk:0<=ah Sess.client c.client s.sess):mayF (State.mk (bz s c).1.version (bz s c).1.next (bz s c).1.keep (bz s c).1.quota (s.sess.set (ah Sess.client c.client s.sess).toNat (Sess.mk (s.sess.getD (ah Sess.client c.client s.sess).toNat (dflt (.nm .sess))).client c.seq (bz s c).2)) (bz s c).1.opens (bz s c).1.snaps) (bz s c).1.version=0:=by
 obtain ⟨a1,a2,a3,a4,a5⟩:=zr (c:=c) M
 obtain ⟨_,_,_,F⟩:=dG h
 have hq:=Be F h3 h4
 have hl:=bj hk
 have hn:(ah Sess.client c.client s.sess).toNat<s.sess.length:=by omega
 refine ng a1 ⟨?_,fun x hx=>?_⟩
 ·rw [ew,fl (d:=dflt (.nm .sess)) (x:=Sess.mk (s.sess.getD (ah Sess.client c.client s.sess).toNat (dflt (.nm .sess))).client c.seq (bz s c).2) hn rfl,<- ew]; exact (fV M).1
 ·rcases List.mem_or_eq_of_mem_set hx with hx | rfl
  ·exact (fV M).2 x hx
  ·show ((cg c.seq 0 1048576 && cg (bz s c).2.code 0 99) && cg (bz s c).2.n 0 1048576)=true
   rw [xb (n:=c.seq) (a:=0) (b:=1048576) (by omega) hq.2,xb a4.1 a4.2,xb a5.1 a5.2]; rfl
end Go.Proofs.Ytmmbibcfkdabeaa
namespace Go.Proofs.Ytmmbibcfkdabeaa
open Go.RowKit
section
variable {α:Type} {key:α->Int} {most:Int}
theorem fU:∀ {l:List α} {a:Int},ai key most a l=true->∀ x ∈ l,a<key x
 | [],_,_,_,h=>by cases h
 | y :: l,a,k,x,h=>by
  simp only [ai,Bool.and_eq_true] at k
  have h3:=pn k.1
  rcases List.mem_cons.1 h with rfl | h
  ·omega
  ·have:=fU k.2 x h; omega
theorem pt:∀ {l:List α} {a:Int},ai key most a l=true->∀ x ∈ l,∀ y ∈ l,key x=key y->x=y
 | [],_,_,_,h,_,_,_=>by cases h
 | z :: l,a,k,x,hx,y,hy,e=>by
  simp only [ai,Bool.and_eq_true] at k
  rcases List.mem_cons.1 hx with rfl | hx2
  ·rcases List.mem_cons.1 hy with rfl | hy2
   ·rfl
   ·have:=fU k.2 y hy2; omega
  ·rcases List.mem_cons.1 hy with rfl | hy2
   ·have:=fU k.2 x hx2; omega
   ·exact pt k.2 x hx2 y hy2 e
theorem gv {want:Int} {l:List α} {d:α} (h:0<=ah key want l):key (l.getD (ah key want l).toNat d)=want/\l.getD (ah key want l).toNat d ∈ l:=by
 unfold ah at *
 cases hf:l.findIdx? (fun x=>decide (key x=want)) with
 | none=>rw [hf] at h; dsimp only at h; omega
 | some i=>
  obtain ⟨hi,hp,_⟩:=List.findIdx?_eq_some_iff_getElem.1 hf
  have e:l.getD ((i:Int)).toNat d=l[i]:=by rw [Int.toNat_natCast,List.getD_eq_getElem?_getD,List.getElem?_eq_getElem hi,Option.getD_some]
  dsimp only
  rw [e]
  exact ⟨of_decide_eq_true hp,List.getElem_mem hi⟩
theorem yR {l:List α} {i:Nat} {x y:α} (h:y ∈ l):y ∈ ek l i x:=by
 unfold ek
 rw [<- List.take_append_drop i l] at h
 rcases List.mem_append.1 h with h | h
 ·exact List.mem_append.2 (.inl h)
 ·exact List.mem_append.2 (.inr (List.mem_cons_of_mem _ h))
theorem AB {l:List α} {i:Nat} {x:α}:l.length<=(ek l i x).length:=by
 unfold ek; rw [List.length_append,List.length_cons,List.length_take,List.length_drop]; omega
end
structure DoOk (s:State) (c:Command) (r:State × Reply):Prop where
 may:mayF r.1 r.1.version=0
 ver:r.1.version=if c.kind=8/\r.2.code=0 then s.version+1 else s.version
 nxt:s.next<=r.1.next/\r.1.next<=s.next+1
 len:s.sess.length<=r.1.sess.length
 seq:∀ x ∈ s.sess,∃ y ∈ r.1.sess,y.client=x.client/\x.seq<=y.seq/\y.seq<=x.seq+1
theorem kD {s:State} (c:Command) {r:Reply} (M:mayF s s.version=0) (h:c.kind=8->¬ r.code=0):DoOk s c (s,r):=
 ⟨M,(if_neg fun hc=>h hc.1 hc.2).symm,⟨Int.le_refl _,by dsimp only; omega⟩,Nat.le_refl _,fun x hx=>⟨x,hx,rfl,Int.le_refl _,by omega⟩⟩
theorem Co {s:State} {c:Command} (M:mayF s s.version=0):DoOk s c (aD s c):=by
 by_cases h:bE c s.version=0
 ·by_cases k8:c.kind=8
  ·by_cases hn:c.n=s.version+1
   ·have e:aD s c=(State.mk c.n s.next s.keep s.quota s.sess s.opens s.snaps,⟨0,c.n⟩):=Bi (qQ M h) k8 hn
    rw [e]
    exact ⟨ya M h k8 hn,(hn.trans (if_pos ⟨k8,rfl⟩).symm:_),⟨Int.le_refl _,by dsimp only; omega⟩,Nat.le_refl _,fun x hx=>⟨x,hx,rfl,Int.le_refl _,by omega⟩⟩
   ·rw [Bw (qQ M h) k8 hn]; exact kD c M fun _=>by decide
  ·by_cases k1:c.kind=1
   ·by_cases hp:0<=ah Sess.client c.client s.sess
    ·rw [Au (qQ M h) k1 hp]; exact kD c M fun k=>absurd k k8
    ·have hp:ah Sess.client c.client s.sess<0:=by omega
     rw [BS (qQ M h) k1 hp]
     exact ⟨AS M h k1 hp,(if_neg fun hc=>k8 hc.1).symm,⟨Int.le_refl _,by dsimp only; omega⟩,AB,fun x hx=>⟨x,yR hx,rfl,Int.le_refl _,by omega⟩⟩
   ·by_cases hq:0<=ah Sess.client c.client s.sess/\c.seq=(s.sess.getD (ah Sess.client c.client s.sess).toNat (dflt (.nm .sess))).seq+1
    ·obtain ⟨hk,hq⟩:=hq
     rw [uh M h k8 k1 hk hq]
     obtain ⟨a1,a2,a3,a4,a5⟩:=zr (c:=c) M
     have hl:=bj hk
     have hn:(ah Sess.client c.client s.sess).toNat<s.sess.length:=by omega
     refine ⟨xA M h k8 k1 hk,a2.trans (if_neg fun hc=>k8 hc.1).symm,a3,by dsimp only; rw [List.length_set]; exact Nat.le_refl _,fun x hx=>?_⟩
     dsimp only
     generalize (ah Sess.client c.client s.sess).toNat=n at *
     obtain ⟨j,hj,rfl⟩:=List.getElem_of_mem hx
     by_cases hjn:j=n
     ·refine ⟨_,List.mem_set hn _,?_⟩
      rw [List.getD_eq_getElem?_getD,List.getElem?_eq_getElem hn,Option.getD_some] at hq ⊢
      subst hjn
      exact ⟨rfl,by dsimp only; omega,by dsimp only; omega⟩
     ·exact ⟨s.sess[j],List.mem_of_getElem? (i:=j) (by rw [List.getElem?_set_ne (fun hc=>hjn hc.symm),List.getElem?_eq_getElem hj]),rfl,Int.le_refl _,by omega⟩
    ·have e:=AE M h k8 k1 (by
      by_cases hk:ah Sess.client c.client s.sess<0
      ·exact .inl hk
      ·exact .inr fun hc=>hq ⟨by omega,hc⟩)
     have e2:aD s c=(s,(aD s c).2):=Prod.ext e rfl
     rw [e2]; exact kD c M fun k=>absurd k k8
 ·rw [Gv M h]; exact kD c M fun _=>h
end Go.Proofs.Ytmmbibcfkdabeaa
namespace Go.Proofs.Ytmmbibcfkdabeaa
open Go.RowKit
section
variable {s:State} {c:Command}
end
end Go.Proofs.Ytmmbibcfkdabeaa
namespace Go.Proofs.Ytmmbibcfkdabeaa
open Go.RowKit
section
variable {α:Type} {key:α->Int} {most:Int}
theorem sV:∀ {l:List α} {a:Int} {i:Nat} {x:α},ai key most a l=true->l[i]? = some x->∀ y ∈ l.take i,key y<key x
 | [],_,_,_,_,h,_,_=>by simp at h
 | z :: l,a,0,x,_,_,y,hy=>by simp at hy
 | z :: l,a,i+1,x,k,h,y,hy=>by
  simp only [ai,Bool.and_eq_true] at k
  rw [List.getElem?_cons_succ] at h
  rw [List.take_succ_cons] at hy
  rcases List.mem_cons.1 hy with rfl | hy
  ·exact fU k.2 x (List.mem_of_getElem? h)
  ·exact sV k.2 h y hy
end
section
variable {s:State} {x:Snap} {i:Nat}
end
section
variable {s:State} {x:Snap} {i:Nat}
end
section
variable {s:State} {x:Snap} {i:Nat}
end
end Go.Proofs.Ytmmbibcfkdabeaa
namespace Go.Proofs.Ytmmbibcfkdabeaa
open Go.RowKit
def keepsX (s:State) (c:Command) (r:State × Reply) (i:Nat) (x:Snap):Prop:=
 (ah Snap.id x.id r.1.snaps<0/\c.kind=5/\c.id=x.id/\x.held=false/\iK s i=false/\r.2.code=0) \/
 (0<=ah Snap.id x.id r.1.snaps/\∃ y,r.1.snaps.getD (ah Snap.id x.id r.1.snaps).toNat (dflt (.nm .snap))=y/\y.chunks=x.chunks/\y.set=x.set/\(y.held=x.held\/c.kind=9\/c.kind=10)/\(y.tag=x.tag\/c.kind=11))
structure KeepOk (s:State) (c:Command) (r:State × Reply):Prop where
 x:∀ i x,s.snaps[i]? = some x->keepsX s c r i x
 more:r.1.snaps.length<=s.snaps.length\/(r.1.snaps.length=s.snaps.length+1/\c.kind=3/\r.2.code=0/\(r.1.snaps.getD s.snaps.length (dflt (.nm .snap))).id=r.2.n/\(s.quota=0\/(distF r.1.snaps:Int)<=s.quota))
section
variable {s:State} {c:Command} {k:Nat}
end
end Go.Proofs.Ytmmbibcfkdabeaa
namespace Go.Proofs.Ytmmbibcfkdabeaa
open Go.RowKit
section
variable {α:Type} {key:α->Int} {most:Int}
theorem uD:∀ {l l':List α} {a:Int},ai key most a l=true->ai key most a l' = true->(∀ x,x ∈ l↔x ∈ l')->l=l'
 | [],[],_,_,_,_=>rfl
 | [],y :: l',_,_,_,h=>by have:=(h y).2 List.mem_cons_self; cases this
 | x :: l,[],_,_,_,h=>by have:=(h x).1 List.mem_cons_self; cases this
 | x :: l,y :: l',a,k,k',h=>by
  simp only [ai,Bool.and_eq_true] at k k'
  have e:x=y:=by
   rcases List.mem_cons.1 ((h x).1 List.mem_cons_self) with e | hx
   ·exact e
   ·rcases List.mem_cons.1 ((h y).2 List.mem_cons_self) with e | hy
    ·exact e.symm
    ·have:=fU k.2 y hy
     have:=fU k'.2 x hx
     omega
  subst e
  rw [uD k.2 k'.2 fun z=>⟨fun hz=>?_,fun hz=>?_⟩]
  ·rcases List.mem_cons.1 ((h z).1 (List.mem_cons_of_mem _ hz)) with rfl | h2
   ·have:=fU k.2 z hz; omega
   ·exact h2
  ·rcases List.mem_cons.1 ((h z).2 (List.mem_cons_of_mem _ hz)) with rfl | h2
   ·have:=fU k'.2 z hz; omega
   ·exact h2
def cJ (key:α->Int) (l:List α) (t:Int):Option α:=l.find? fun y=>decide (key y=t)
theorem oi {l:List α} {t:Int} {x:α} (h:cJ key l t=some x):key x=t/\x ∈ l:=⟨of_decide_eq_true (List.find?_some (p:=fun y=>decide (key y=t)) h),List.mem_of_find?_eq_some h⟩
theorem oZ {l:List α} {a:Int} {x:α} (k:ai key most a l=true) (h:x ∈ l):cJ key l (key x)=some x:=by
 cases e:cJ key l (key x) with
 | none=>
  have:=List.find?_eq_none.1 e x h
  simp at this
 | some y=>
  obtain ⟨h1,h2⟩:=oi e
  rw [pt k y h2 x h h1]
theorem tY {l l':List α} {a:Int} (k:ai key most a l=true) (k':ai key most a l' = true) (h:∀ t,cJ key l t=cJ key l' t):l=l':=
 uD k k' fun x=>⟨fun hx=>(oi ((h (key x)).symm.trans (oZ k hx))).2,fun hx=>(oi ((h (key x)).trans (oZ k' hx))).2⟩
theorem mY {l:List α} {t:Int} {d:α}:cJ key l t=if 0<=ah key t l then some (l.getD (ah key t l).toNat d) else none:=by
 by_cases h:0<=ah key t l
 ·rw [if_pos h]
  unfold cJ ah at *
  cases hf:l.findIdx? (fun x=>decide (key x=t)) with
  | none=>rw [hf] at h; dsimp only at h; omega
  | some i=>
   obtain ⟨hi,hp,hn⟩:=List.findIdx?_eq_some_iff_getElem.1 hf
   dsimp only
   rw [Int.toNat_natCast,List.getD_eq_getElem?_getD,List.getElem?_eq_getElem hi,Option.getD_some]
   rw [List.find?_eq_some_iff_getElem]
   exact ⟨hp,i,hi,rfl,fun j hj=>by simpa using hn j hj⟩
 ·rw [if_neg h]
  have:=ei (key:=key) (want:=t) (l:=l) (by omega)
  exact List.find?_eq_none.2 fun x hx=>by simpa using this x hx
theorem Ap {l:List α} {i:Nat} {x:α} (h:ah key (key x) l<0) (t:Int):cJ key (ek l i x) t=if t=key x then some x else cJ key l t:=by
 have n:=ei h
 unfold cJ ek
 rw [List.find?_append,List.find?_cons]
 by_cases e:t=key x
 ·subst e
  rw [if_pos rfl,decide_eq_true rfl]
  have:(l.take i).find? (fun y=>decide (key y=key x))=none:=List.find?_eq_none.2 fun y hy=>by simpa using n y (List.mem_of_mem_take hy)
  rw [this]; rfl
 ·rw [if_neg e,decide_eq_false (fun h=>e h.symm)]
  conv=>rhs; rw [<- List.take_append_drop i l,List.find?_append]
theorem Ce {l:List α} {a:Int} {t:Int} (k:ai key most a l=true) (h:0<=ah key t l) (u:Int):cJ key (mS l (ah key t l)) u=if u=t then none else cJ key l u:=by
 have hl:=bj h
 have hn:(ah key t l).toNat<l.length:=by omega
 have pk:=gv (d:=l[(ah key t l).toNat]) h
 rw [List.getD_eq_getElem?_getD,List.getElem?_eq_getElem hn,Option.getD_some] at pk
 have e:l=l.take (ah key t l).toNat++l[(ah key t l).toNat] :: l.drop ((ah key t l).toNat+1):=by
  rw [List.getElem_cons_drop hn,List.take_append_drop]
 have hd:mS l (ah key t l)=l.take (ah key t l).toNat++l.drop ((ah key t l).toNat+1):=by
  unfold mS; rw [show (ah key t l+1).toNat=(ah key t l).toNat+1 by omega]
 by_cases hu:u=t
 ·subst hu
  rw [if_pos rfl]
  refine List.find?_eq_none.2 fun y hy=>?_
  have hs:=kq (l:=l) h
  intro hc
  have hc:=of_decide_eq_true hc
  have R:=ew (key:=key) (most:=most) (l:=l) (a:=a) ▸ k
  have:=pt k y (hs.subset hy) _ pk.2 (hc.trans pk.1.symm)
  have hk2:ai key most a (l.take (ah key u l).toNat++l[(ah key u l).toNat] :: l.drop ((ah key u l).toNat+1))=true:=by rw [<- e]; exact k
  rw [hd] at hy
  rcases List.mem_append.1 hy with hy | hy
  ·have hx:=sV k (List.getElem?_eq_getElem hn) y hy
   rw [this] at hx; omega
  ·obtain ⟨j,hj,he⟩:=List.mem_iff_getElem.1 hy
   rw [List.getElem_drop] at he
   have hx:=sV (i:=(ah key u l).toNat+1+j) (x:=y) k (by rw [List.length_drop] at hj; rw [List.getElem?_eq_getElem (by omega),he]) l[(ah key u l).toNat] (by rw [List.mem_take_iff_getElem]; exact ⟨(ah key u l).toNat,by rw [List.length_drop] at hj; omega,rfl⟩)
   rw [this] at hx; omega
 ·rw [if_neg hu,hd]
  unfold cJ
  conv=>rhs; rw [e,List.find?_append,List.find?_cons]
  rw [decide_eq_false (fun h=>hu (h.symm.trans pk.1)),List.find?_append]
theorem ug {l:List α} {a:Int} {t:Int} {x:α} (k:ai key most a l=true) (h:0<=ah key t l) (hx:key x=t):ai key most a (l.set (ah key t l).toNat x)=true:=by
 have hl:=bj h
 have hn:(ah key t l).toNat<l.length:=by omega
 have pk:=gv (d:=l[(ah key t l).toNat]) h
 rw [ew,fl (d:=l[(ah key t l).toNat]) hn (hx.trans pk.1.symm),<- ew]; exact k
theorem Bz {l:List α} {a:Int} {t:Int} {x:α} (k:ai key most a l=true) (h:0<=ah key t l) (hx:key x=t) (u:Int):cJ key (l.set (ah key t l).toNat x) u=if u=t then some x else cJ key l u:=by
 have hl:=bj h
 have hn:(ah key t l).toNat<l.length:=by omega
 have pk:=gv (d:=l[(ah key t l).toNat]) h
 have ks:=ug k h hx
 by_cases hu:u=t
 ·subst hu
  rw [if_pos rfl]
  have:=oZ ks (List.mem_set hn x)
  rwa [hx] at this
 ·rw [if_neg hu]
  rw [List.getD_eq_getElem?_getD,List.getElem?_eq_getElem hn,Option.getD_some] at pk
  have e:l=l.take (ah key t l).toNat++l[(ah key t l).toNat] :: l.drop ((ah key t l).toNat+1):=by
   rw [List.getElem_cons_drop hn,List.take_append_drop]
  unfold cJ
  rw [List.set_eq_take_append_cons_drop,if_pos hn]
  conv=>rhs; rw [e,List.find?_append,List.find?_cons]
  rw [List.find?_append,List.find?_cons,decide_eq_false (show ¬ key l[(ah key t l).toNat]=u from fun h=>hu (h.symm.trans pk.1)),decide_eq_false (show ¬ key x=u from fun h=>hu (h.symm.trans hx))]
end
def nO (c:Command) (b:Option Opn):Option Opn × Reply:=
 if c.kind=2 then (match b with | some y=>(some y,Reply.mk 16 y.client) | none=>(some (Opn.mk c.set c.client),Reply.mk 0 0))
 else (match b with | some y=>(if y.client=c.client then (none,Reply.mk 0 0) else (some y,Reply.mk 15 0)) | none=>(none,Reply.mk 15 0))
def nS (c:Command) (a:Option Sess) (b:Option Opn):Option Sess × Option Opn × Reply:=
 match a with
 | none=>(none,b,Reply.mk 11 0)
 | some x=>if c.seq=x.seq then (some x,b,x.last) else if c.seq<x.seq then (some x,b,Reply.mk 13 0) else if x.seq+1<c.seq then (some x,b,Reply.mk 14 0) else (some (Sess.mk x.client c.seq (nO c b).2),(nO c b).1,(nO c b).2)
section
variable {s:State} {c:Command}
theorem xD (M:mayF s s.version=0) (h:bE c s.version=0) (k:c.kind=2\/c.kind=4):∃ o,bz s c=(State.mk s.version s.next s.keep s.quota s.sess o s.snaps,(nO c (cJ Opn.set s.opens c.set)).2)/\ai Opn.set 8 0 o=true/\∀ t,cJ Opn.set o t=if t=c.set then (nO c (cJ Opn.set s.opens c.set)).1 else cJ Opn.set s.opens t:=by
 obtain ⟨_,_,_,F⟩:=dG h
 have hset:=nY F (by omega)
 have ho:=(cm M).1
 rw [DH (qQ M h)]
 have fp:=mY (key:=Opn.set) (l:=s.opens) (t:=c.set) (d:=dflt (.nm .opn))
 have same:∀ {b:Option Opn},cJ Opn.set s.opens c.set=b->∀ t,cJ Opn.set s.opens t=if t=c.set then b else cJ Opn.set s.opens t:=fun e t=>by
  split
  ·rename_i h; rw [h,e]
  ·rfl
 rcases k with k | k
 ·have e:mP s c=aP s c:=by simp [mP,k]
  rw [e]
  unfold aP
  by_cases hp:0<=ah Opn.set c.set s.opens
  ·rw [if_pos hp] at fp ⊢
   refine ⟨s.opens,?_,ho,same (fp.trans ?_)⟩
   ·rw [fp]; simp [nO,k]
   ·simp [nO,k,fp]
  ·rw [if_neg hp] at fp ⊢
   refine ⟨ek s.opens (s.opens.takeWhile fun y=>decide (y.set<c.set)).length ⟨c.set,c.client⟩,?_,kJ (x:=Opn.mk c.set c.client) ho (by dsimp only; omega) (by dsimp only; omega) fun y hy=>ei (key:=Opn.set) (want:=c.set) (l:=s.opens) (by omega) y hy,fun t=>?_⟩
   ·rw [fp]; simp [nO,k]
   ·rw [Ap (x:=Opn.mk c.set c.client) (by show ah Opn.set c.set s.opens<0; omega) t,fp]; simp [nO,k]
 ·have e:mP s c=aT s c:=by simp [mP,k]
  have k2:¬ c.kind=2:=by omega
  rw [e]
  unfold aT
  by_cases hp:0<=ah Opn.set c.set s.opens
  ·rw [if_pos hp] at fp
   by_cases hc:(s.opens.getD (ah Opn.set c.set s.opens).toNat (dflt (.nm .opn))).client=c.client
   ·have eo:bc s c=ah Opn.set c.set s.opens:=by unfold bc; exact if_neg fun h=>h.2 hc
    rw [eo,if_neg (by omega)]
    refine ⟨mS s.opens (ah Opn.set c.set s.opens),?_,kH (kq hp) ho,fun t=>?_⟩
    ·rw [fp]; simp only [nO,if_neg k2,if_pos hc]
    ·rw [Ce ho hp,fp]; simp only [nO,if_neg k2,if_pos hc]
   ·have eo:bc s c = -1:=by unfold bc; exact if_pos ⟨hp,hc⟩
    rw [eo,if_pos (by decide)]
    refine ⟨s.opens,?_,ho,same (fp.trans ?_)⟩
    ·rw [fp]; simp only [nO,if_neg k2,if_neg hc]
    ·rw [fp]; simp only [nO,if_neg k2,if_neg hc]
  ·rw [if_neg hp] at fp
   have eo:bc s c<0:=by unfold bc; rw [if_neg fun h=>hp h.1]; omega
   rw [if_pos eo]
   refine ⟨s.opens,?_,ho,same (fp.trans ?_)⟩
   ·rw [fp]; simp only [nO,if_neg k2]
   ·rw [fp]; simp only [nO,if_neg k2]
theorem kB (M:mayF s s.version=0) (h:bE c s.version=0) (k:c.kind=2\/c.kind=4):∃ se o,aD s c=(State.mk s.version s.next s.keep s.quota se o s.snaps,(nS c (cJ Sess.client s.sess c.client) (cJ Opn.set s.opens c.set)).2.2)/\(ai Sess.client 8 0 se=true/\∀ t,cJ Sess.client se t=if t=c.client then (nS c (cJ Sess.client s.sess c.client) (cJ Opn.set s.opens c.set)).1 else cJ Sess.client s.sess t)/\ai Opn.set 8 0 o=true/\∀ t,cJ Opn.set o t=if t=c.set then (nS c (cJ Sess.client s.sess c.client) (cJ Opn.set s.opens c.set)).2.1 else cJ Opn.set s.opens t:=by
 have hse:=(fV M).1
 have ho:=(cm M).1
 have same:∀ {b:Option Opn},cJ Opn.set s.opens c.set=b->∀ t,cJ Opn.set s.opens t=if t=c.set then b else cJ Opn.set s.opens t:=fun e t=>by
  split
  ·rename_i h; rw [h,e]
  ·rfl
 have sameS:∀ {b:Option Sess},cJ Sess.client s.sess c.client=b->∀ t,cJ Sess.client s.sess t=if t=c.client then b else cJ Sess.client s.sess t:=fun e t=>by
  split
  ·rename_i h; rw [h,e]
  ·rfl
 have fp:=mY (key:=Sess.client) (l:=s.sess) (t:=c.client) (d:=dflt (.nm .sess))
 have stay:∀ {r:Reply},aD s c=(s,r)->nS c (cJ Sess.client s.sess c.client) (cJ Opn.set s.opens c.set)=(cJ Sess.client s.sess c.client,cJ Opn.set s.opens c.set,r)->_:=fun {r} e e2=>(⟨s.sess,s.opens,by rw [e,e2],⟨hse,fun t=>by rw [e2]; exact sameS rfl t⟩,ho,fun t=>by rw [e2]; exact same rfl t⟩:∃ se o,aD s c=(State.mk s.version s.next s.keep s.quota se o s.snaps,(nS c (cJ Sess.client s.sess c.client) (cJ Opn.set s.opens c.set)).2.2)/\(ai Sess.client 8 0 se=true/\∀ t,cJ Sess.client se t=if t=c.client then (nS c (cJ Sess.client s.sess c.client) (cJ Opn.set s.opens c.set)).1 else cJ Sess.client s.sess t)/\ai Opn.set 8 0 o=true/\∀ t,cJ Opn.set o t=if t=c.set then (nS c (cJ Sess.client s.sess c.client) (cJ Opn.set s.opens c.set)).2.1 else cJ Opn.set s.opens t)
 have k8:¬ c.kind=8:=by omega
 have k1:¬ c.kind=1:=by omega
 have D:=EJ (qQ M h) k8 k1
 by_cases hk:0<=ah Sess.client c.client s.sess
 ·rw [if_pos hk] at fp
  by_cases e1:c.seq=(s.sess.getD (ah Sess.client c.client s.sess).toNat (dflt (.nm .sess))).seq
  ·exact stay (D.trans (He hk e1)) (by rw [fp]; simp only [nS,if_pos e1])
  ·by_cases e2:c.seq<(s.sess.getD (ah Sess.client c.client s.sess).toNat (dflt (.nm .sess))).seq
   ·exact stay (D.trans (Gi hk e1 e2)) (by rw [fp]; simp only [nS,if_neg e1,if_pos e2])
   ·by_cases e3:(s.sess.getD (ah Sess.client c.client s.sess).toNat (dflt (.nm .sess))).seq+1<c.seq
    ·exact stay (D.trans (Gu hk e1 (by omega) e3)) (by rw [fp]; simp only [nS,if_neg e1,if_neg e2,if_pos e3])
    ·obtain ⟨o,a1,a2,a3⟩:=xD M h k
     have e:=uh M h k8 k1 hk (by omega)
     rw [a1] at e
     have pk:=gv (d:=dflt (.nm .sess)) hk
     have n:nS c (cJ Sess.client s.sess c.client) (cJ Opn.set s.opens c.set)=(some (Sess.mk (s.sess.getD (ah Sess.client c.client s.sess).toNat (dflt (.nm .sess))).client c.seq (nO c (cJ Opn.set s.opens c.set)).2),(nO c (cJ Opn.set s.opens c.set)).1,(nO c (cJ Opn.set s.opens c.set)).2):=by
      rw [fp]; simp only [nS,if_neg e1,if_neg e2,if_neg e3]
     exact ⟨_,o,by rw [n]; exact e,⟨ug (x:=Sess.mk (s.sess.getD (ah Sess.client c.client s.sess).toNat (dflt (.nm .sess))).client c.seq (nO c (cJ Opn.set s.opens c.set)).2) hse hk pk.1,fun t=>by rw [n]; exact Bz (x:=Sess.mk (s.sess.getD (ah Sess.client c.client s.sess).toNat (dflt (.nm .sess))).client c.seq (nO c (cJ Opn.set s.opens c.set)).2) hse hk pk.1 t⟩,a2,fun t=>by rw [n]; exact a3 t⟩
 ·rw [if_neg hk] at fp
  exact stay (D.trans (GU (by omega))) (by rw [fp]; rfl)
end
theorem apart {s:State} {x y:Command} (M:mayF s s.version=0) (hx:bE x s.version=0) (hy:bE y s.version=0) (kx:x.kind=2\/x.kind=4) (ky:y.kind=2\/y.kind=4) (hc:¬ x.client=y.client) (hs:¬ x.set=y.set) :
  (aD (aD s x).1 y).1=(aD (aD s y).1 x).1/\(aD s x).2=(aD (aD s y).1 x).2/\(aD (aD s x).1 y).2=(aD s y).2:=by
 obtain ⟨se,o,e1,⟨s1,s2⟩,o1,o2⟩:=kB M hx kx
 obtain ⟨se',o',e1',⟨s1',s2'⟩,o1',o2'⟩:=kB M hy ky
 have M1:=(Co (c:=x) M).may
 have M2:=(Co (c:=y) M).may
 rw [e1] at M1 ⊢
 rw [e1'] at M2 ⊢
 obtain ⟨te,p,f1,⟨t1,t2⟩,p1,p2⟩:=kB M1 hy ky
 obtain ⟨te',p',f1',⟨t1',t2'⟩,p1',p2'⟩:=kB M2 hx kx
 dsimp only at f1 f1' t2 t2' p2 p2'
 have a1:cJ Sess.client se y.client=cJ Sess.client s.sess y.client:=by rw [s2,if_neg (fun h=>hc h.symm)]
 have a2:cJ Opn.set o y.set=cJ Opn.set s.opens y.set:=by rw [o2,if_neg (fun h=>hs h.symm)]
 have a3:cJ Sess.client se' x.client=cJ Sess.client s.sess x.client:=by rw [s2',if_neg hc]
 have a4:cJ Opn.set o' x.set=cJ Opn.set s.opens x.set:=by rw [o2',if_neg hs]
 rw [a1,a2] at f1 t2 p2
 rw [a3,a4] at f1' t2' p2'
 dsimp only
 rw [f1,f1']
 have q1:te=te':=tY t1 t1' fun t=>by
  rw [t2,t2',s2,s2']
  by_cases h1:t=y.client
  ·have h2:¬ t=x.client:=fun h=>hc (h.symm.trans h1)
   simp only [if_pos h1,if_neg h2]
  ·simp only [if_neg h1]
 have q2:p=p':=tY p1 p1' fun t=>by
  rw [p2,p2',o2,o2']
  by_cases h1:t=y.set
  ·have h2:¬ t=x.set:=fun h=>hs (h.symm.trans h1)
   simp only [if_pos h1,if_neg h2]
  ·simp only [if_neg h1]
 rw [q1,q2]
 exact ⟨rfl,rfl,rfl⟩
theorem mB {z m:Int} (h:0<=m) (h2:m<=1000):0<=aS z m/\aS z m<=m:=oF h ⟨by omega,by omega⟩
theorem Hf {p z m:Int} (h:0<=m) (h2:m<=1000) (h3:0<=p) (h4:p<=1000):I64 (p+aS z m):=by
 have:=mB (z:=z) h h2
 constructor <;> omega
def vx (k cl sq st:Int):Command:=Command.mk k cl sq st 0 0 [] (Str.mk [])
theorem uL {k cl sq st v:Int} (hk:k=2\/k=4) (h1:1<=cl/\cl<=8) (h2:1<=sq/\sq<=1048576) (h3:1<=st/\st<=8) (hv:1<=v/\v<=3):bE (vx k cl sq st) v=0:=by
 have e1:v=1\/v=2\/v=3:=by omega
 rcases hk with rfl | rfl <;> rcases e1 with rfl | rfl | rfl <;> simp [bE,vx,dM,fF,jY,Ft,EX,cg,eU,nd,h1.1,h1.2,h2.1,h2.2,h3.1,h3.2]
theorem Dh {s:State} {k k' cl sq st cl' sq' st':Int} (hk:k=2\/k=4) (hk':k' = 2\/k' = 4) (h1:1<=cl/\cl<=4) (h2:1<=sq/\sq<=16) (h3:1<=st/\st<=4) (h1':5<=cl' /\ cl' <= 8) (h2':1<=sq' /\ sq' <= 16) (h3':5<=st' /\ st' <= 8) :
  (aD (aD s (vx k cl sq st)).1 (vx k' cl' sq' st')).1=(aD (aD s (vx k' cl' sq' st')).1 (vx k cl sq st)).1/\(aD s (vx k cl sq st)).2=(aD (aD s (vx k' cl' sq' st')).1 (vx k cl sq st)).2/\(aD (aD s (vx k cl sq st)).1 (vx k' cl' sq' st')).2=(aD s (vx k' cl' sq' st')).2:=by
 by_cases M:mayF s s.version=0
 ·have v:=pn (bM M).1
  exact apart M (uL hk (by omega) (by omega) (by omega) v) (uL hk' (by omega) (by omega) (by omega) v) hk hk' (by show ¬ cl=cl'; omega) (by show ¬ st=st'; omega)
 ·have e:∀ c,aD s c=(s,⟨1,0⟩):=fun c=>Gw M
  rw [e,e]; dsimp only; rw [e]; exact ⟨rfl,rfl,rfl⟩
theorem Df {s:State} {k k' p q u p' q' u':Int} (hk:k=2\/k=4) (hk':k' = 2\/k' = 4):(true && decide ((aD (aD s (Command.mk k (1+aS p 3) (1+aS q 15) (1+aS u 3) 0 0 [] (Str.mk []))).1 (Command.mk k' (5+aS p' 3) (1+aS q' 15) (5+aS u' 3) 0 0 [] (Str.mk []))).1=(aD (aD s (Command.mk k' (5+aS p' 3) (1+aS q' 15) (5+aS u' 3) 0 0 [] (Str.mk []))).1 (Command.mk k (1+aS p 3) (1+aS q 15) (1+aS u 3) 0 0 [] (Str.mk []))).1) && (decide ((aD s (Command.mk k (1+aS p 3) (1+aS q 15) (1+aS u 3) 0 0 [] (Str.mk []))).2.code=(aD (aD s (Command.mk k' (5+aS p' 3) (1+aS q' 15) (5+aS u' 3) 0 0 [] (Str.mk []))).1 (Command.mk k (1+aS p 3) (1+aS q 15) (1+aS u 3) 0 0 [] (Str.mk []))).2.code) && decide ((aD s (Command.mk k (1+aS p 3) (1+aS q 15) (1+aS u 3) 0 0 [] (Str.mk []))).2.n=(aD (aD s (Command.mk k' (5+aS p' 3) (1+aS q' 15) (5+aS u' 3) 0 0 [] (Str.mk []))).1 (Command.mk k (1+aS p 3) (1+aS q 15) (1+aS u 3) 0 0 [] (Str.mk []))).2.n)) && (decide ((aD (aD s (Command.mk k (1+aS p 3) (1+aS q 15) (1+aS u 3) 0 0 [] (Str.mk []))).1 (Command.mk k' (5+aS p' 3) (1+aS q' 15) (5+aS u' 3) 0 0 [] (Str.mk []))).2.code=(aD s (Command.mk k' (5+aS p' 3) (1+aS q' 15) (5+aS u' 3) 0 0 [] (Str.mk []))).2.code) && decide ((aD (aD s (Command.mk k (1+aS p 3) (1+aS q 15) (1+aS u 3) 0 0 [] (Str.mk []))).1 (Command.mk k' (5+aS p' 3) (1+aS q' 15) (5+aS u' 3) 0 0 [] (Str.mk []))).2.n=(aD s (Command.mk k' (5+aS p' 3) (1+aS q' 15) (5+aS u' 3) 0 0 [] (Str.mk []))).2.n)))=true:=by
 have r3:∀ z:Int,0<=aS z 3/\aS z 3<=3:=fun z=>mB (by decide) (by decide)
 have r15:∀ z:Int,0<=aS z 15/\aS z 15<=15:=fun z=>mB (by decide) (by decide)
 have h1:=r3 p; have h2:=r15 q; have h3:=r3 u; have h4:=r3 p'; have h5:=r15 q'; have h6:=r3 u'
 have A:=Dh (s:=s) (cl:=1+aS p 3) (sq:=1+aS q 15) (st:=1+aS u 3) (cl':=5+aS p' 3) (sq':=1+aS q' 15) (st':=5+aS u' 3) hk hk' (by omega) (by omega) (by omega) (by omega) (by omega) (by omega)
 unfold vx at A
 obtain ⟨a1,a2,a3⟩:=A
 rw [a1,<- a2,a3]
 simp only [decide_true,Bool.and_self]
theorem Ds (st:State) (a:Command) (b:Command) (r0:Bool):du aL CG [] Try.f8 [.agg (cellsOf (.nm .state) st),.agg (cellsOf (.nm .command) a),.agg (cellsOf (.nm .command) b)] [] [.c (.bool (.atom (r0)))]=((fun (q10:Int)=>(fun (q9:Int)=>(fun (q8:Nat)=>(fun (q7:Int)=>(fun (q6:Int)=>(fun (q5:Int)=>(fun (q4:State)=>(fun (q3:Command)=>(fun (q2:Command)=>(fun (q1:Command)=>(fun (q0:Command)=>I64 st.version->I64 st.next->I64 st.keep->I64 st.quota->st.sess.length*(32:Nat)<=q8->st.opens.length*(16:Nat)<=q8->st.snaps.length*(64:Nat)<=q8->I64 a.kind->I64 a.client->I64 a.seq->I64 a.set->I64 a.id->I64 a.n->a.chunks.length*(8:Nat)<=q8->a.text.b.length<=q8->I64 b.kind->I64 b.client->I64 b.seq->I64 b.set->I64 b.id->I64 b.n->b.chunks.length*(8:Nat)<=q8->b.text.b.length<=q8->I64 q4.version->I64 q4.next->I64 q4.keep->I64 q4.quota->q4.sess.length*(32:Nat)<=q8->q4.opens.length*(16:Nat)<=q8->q4.snaps.length*(64:Nat)<=q8->q6<=q7/\I64 (q5+aS a.client q7)/\q6<=q9/\I64 (q5+aS a.seq q9)/\q6<=q7/\I64 (q5+aS a.set q7)/\q6<=q7/\I64 (q10+aS b.client q7)/\q6<=q9/\I64 (q5+aS b.seq q9)/\q6<=q7/\I64 (q10+aS b.set q7)/\q6<=q5/\(aS a.kind q5=q5->q6<=q5/\(aS b.kind q5=q5->I64 (aD q4 q2).fst.version->I64 (aD q4 q2).fst.next->I64 (aD q4 q2).fst.keep->I64 (aD q4 q2).fst.quota->I64 (aD q4 q2).snd.code->I64 (aD q4 q2).snd.n->I64 (aD (aD q4 q2).fst q3).fst.version->I64 (aD (aD q4 q2).fst q3).fst.next->I64 (aD (aD q4 q2).fst q3).fst.keep->I64 (aD (aD q4 q2).fst q3).fst.quota->I64 (aD (aD q4 q2).fst q3).snd.code->I64 (aD (aD q4 q2).fst q3).snd.n->I64 (aD q4 q3).fst.version->I64 (aD q4 q3).fst.next->I64 (aD q4 q3).fst.keep->I64 (aD q4 q3).fst.quota->I64 (aD q4 q3).snd.code->I64 (aD q4 q3).snd.n->I64 (aD (aD q4 q3).fst q2).fst.version->I64 (aD (aD q4 q3).fst q2).fst.next->I64 (aD (aD q4 q3).fst q2).fst.keep->I64 (aD (aD q4 q3).fst q2).fst.quota->I64 (aD (aD q4 q3).fst q2).snd.code->I64 (aD (aD q4 q3).fst q2).snd.n->(true && decide ((aD (aD q4 q2).fst q3).fst=(aD (aD q4 q3).fst q2).fst) && (decide ((aD q4 q2).snd.code=(aD (aD q4 q3).fst q2).snd.code) && decide ((aD q4 q2).snd.n=(aD (aD q4 q3).fst q2).snd.n)) && (decide ((aD (aD q4 q2).fst q3).snd.code=(aD q4 q3).snd.code) && decide ((aD (aD q4 q2).fst q3).snd.n=(aD q4 q3).snd.n)))=r0)/\(¬aS b.kind q5=q5->I64 (aD q4 q2).fst.version->I64 (aD q4 q2).fst.next->I64 (aD q4 q2).fst.keep->I64 (aD q4 q2).fst.quota->I64 (aD q4 q2).snd.code->I64 (aD q4 q2).snd.n->I64 (aD (aD q4 q2).fst q1).fst.version->I64 (aD (aD q4 q2).fst q1).fst.next->I64 (aD (aD q4 q2).fst q1).fst.keep->I64 (aD (aD q4 q2).fst q1).fst.quota->I64 (aD (aD q4 q2).fst q1).snd.code->I64 (aD (aD q4 q2).fst q1).snd.n->I64 (aD q4 q1).fst.version->I64 (aD q4 q1).fst.next->I64 (aD q4 q1).fst.keep->I64 (aD q4 q1).fst.quota->I64 (aD q4 q1).snd.code->I64 (aD q4 q1).snd.n->I64 (aD (aD q4 q1).fst q2).fst.version->I64 (aD (aD q4 q1).fst q2).fst.next->I64 (aD (aD q4 q1).fst q2).fst.keep->I64 (aD (aD q4 q1).fst q2).fst.quota->I64 (aD (aD q4 q1).fst q2).snd.code->I64 (aD (aD q4 q1).fst q2).snd.n->(true && decide ((aD (aD q4 q2).fst q1).fst=(aD (aD q4 q1).fst q2).fst) && (decide ((aD q4 q2).snd.code=(aD (aD q4 q1).fst q2).snd.code) && decide ((aD q4 q2).snd.n=(aD (aD q4 q1).fst q2).snd.n)) && (decide ((aD (aD q4 q2).fst q1).snd.code=(aD q4 q1).snd.code) && decide ((aD (aD q4 q2).fst q1).snd.n=(aD q4 q1).snd.n)))=r0))/\(¬aS a.kind q5=q5->q6<=q5/\(aS b.kind q5=q5->I64 (aD q4 q0).fst.version->I64 (aD q4 q0).fst.next->I64 (aD q4 q0).fst.keep->I64 (aD q4 q0).fst.quota->I64 (aD q4 q0).snd.code->I64 (aD q4 q0).snd.n->I64 (aD (aD q4 q0).fst q3).fst.version->I64 (aD (aD q4 q0).fst q3).fst.next->I64 (aD (aD q4 q0).fst q3).fst.keep->I64 (aD (aD q4 q0).fst q3).fst.quota->I64 (aD (aD q4 q0).fst q3).snd.code->I64 (aD (aD q4 q0).fst q3).snd.n->I64 (aD q4 q3).fst.version->I64 (aD q4 q3).fst.next->I64 (aD q4 q3).fst.keep->I64 (aD q4 q3).fst.quota->I64 (aD q4 q3).snd.code->I64 (aD q4 q3).snd.n->I64 (aD (aD q4 q3).fst q0).fst.version->I64 (aD (aD q4 q3).fst q0).fst.next->I64 (aD (aD q4 q3).fst q0).fst.keep->I64 (aD (aD q4 q3).fst q0).fst.quota->I64 (aD (aD q4 q3).fst q0).snd.code->I64 (aD (aD q4 q3).fst q0).snd.n->(true && decide ((aD (aD q4 q0).fst q3).fst=(aD (aD q4 q3).fst q0).fst) && (decide ((aD q4 q0).snd.code=(aD (aD q4 q3).fst q0).snd.code) && decide ((aD q4 q0).snd.n=(aD (aD q4 q3).fst q0).snd.n)) && (decide ((aD (aD q4 q0).fst q3).snd.code=(aD q4 q3).snd.code) && decide ((aD (aD q4 q0).fst q3).snd.n=(aD q4 q3).snd.n)))=r0)/\(¬aS b.kind q5=q5->I64 (aD q4 q0).fst.version->I64 (aD q4 q0).fst.next->I64 (aD q4 q0).fst.keep->I64 (aD q4 q0).fst.quota->I64 (aD q4 q0).snd.code->I64 (aD q4 q0).snd.n->I64 (aD (aD q4 q0).fst q1).fst.version->I64 (aD (aD q4 q0).fst q1).fst.next->I64 (aD (aD q4 q0).fst q1).fst.keep->I64 (aD (aD q4 q0).fst q1).fst.quota->I64 (aD (aD q4 q0).fst q1).snd.code->I64 (aD (aD q4 q0).fst q1).snd.n->I64 (aD q4 q1).fst.version->I64 (aD q4 q1).fst.next->I64 (aD q4 q1).fst.keep->I64 (aD q4 q1).fst.quota->I64 (aD q4 q1).snd.code->I64 (aD q4 q1).snd.n->I64 (aD (aD q4 q1).fst q0).fst.version->I64 (aD (aD q4 q1).fst q0).fst.next->I64 (aD (aD q4 q1).fst q0).fst.keep->I64 (aD (aD q4 q1).fst q0).fst.quota->I64 (aD (aD q4 q1).fst q0).snd.code->I64 (aD (aD q4 q1).fst q0).snd.n->(true && decide ((aD (aD q4 q0).fst q1).fst=(aD (aD q4 q1).fst q0).fst) && (decide ((aD q4 q0).snd.code=(aD (aD q4 q1).fst q0).snd.code) && decide ((aD q4 q0).snd.n=(aD (aD q4 q1).fst q0).snd.n)) && (decide ((aD (aD q4 q0).fst q1).snd.code=(aD q4 q1).snd.code) && decide ((aD (aD q4 q0).fst q1).snd.n=(aD q4 q1).snd.n)))=r0))) (Command.mk (2:Int) (q5+aS a.client q7) (q5+aS a.seq q9) (q5+aS a.set q7) q6 q6 [] (Str.mk []))) (Command.mk (2:Int) (q10+aS b.client q7) (q5+aS b.seq q9) (q10+aS b.set q7) q6 q6 [] (Str.mk []))) (Command.mk (4:Int) (q5+aS a.client q7) (q5+aS a.seq q9) (q5+aS a.set q7) q6 q6 [] (Str.mk []))) (Command.mk (4:Int) (q10+aS b.client q7) (q5+aS b.seq q9) (q10+aS b.set q7) q6 q6 [] (Str.mk []))) (df st)) (1:Int)) (0:Int)) (3:Int)) (140737488355328:Nat)) (15:Int)) (5:Int)):=by kernel_rfl
theorem CY (st:State) (a:Command) (b:Command):Sat Try.prog (av aL) 8 [.agg (cellsOf (.nm .state) st),.agg (cellsOf (.nm .command) a),.agg (cellsOf (.nm .command) b)] [] ⟨[],[.c (.bool (.atom ((true))))],none,false⟩:=by
 refine aY xH [] Try.func8 (by decide) (by kernel_rfl) ?_
 rw [Ds]
 (repeat' (first | with_reducible refine And.intro ?_ ?_ | with_reducible refine and_imp.2 ?_ | intro))
 all_goals (first | (first | with_reducible rfl | with_reducible assumption | omega | (refine aq ?_ ?_ <;> omega)) | exact (Hf (by decide) (by decide) (by decide) (by decide)) | exact (Df (by decide) (by decide)))
end Go.Proofs.Ytmmbibcfkdabeaa
namespace Go.Proofs.Ytmmbibcfkdabeaa
open Go.RowKit Go.ChangeShapes Go.WideShapes
def vA (shp:TypeId->Option Sh) (w:World):Cx:=cx ⟨shp,w.heap.size,fun _=>False⟩ [] w
theorem DY {shp:TypeId->Option Sh} {w:World} {s:Sh} {b:Nat} (h:b<w.heap.size):(vA shp w).at s b:=⟨⟨h,fun ⟨_,_,h,_⟩=>by simp at h,fun h=>h⟩,.inl h⟩
def Tr (P:Program) (shp:TypeId->Option Sh) (t:TypeId) (s:Sh):Prop:=
 ∀ (H:Type) (enc:TypeId × Value->H) (w:World) (fuel:Nat) (cs:List Value) (x:DataW H × List MemPlace),
  DataW.trod enc P w 0 (fun _=>true) true fuel t cs=some x->(∀ n ∈ x.1.weights P t,n<=140737488351232)->(∀ q ∈ x.2,q.block<w.heap.size)->∃ y:den s,Pds (vA shp w) (cellsOf s y) cs
def DI:List Sh->List AV->Prop
 | [],asx=>asx=[]
 | s :: r,asx=>∃ (y:den s) (l:List AV),asx=cellsOf s y++l/\DI r l
def FW:List Sh->Nat
 | []=>0
 | s :: r=>s.size+FW r
def fa (P:Program) (shp:TypeId->Option Sh) (fs:List Go.Field) (o:Nat) (ss:List Sh):Prop:=
 ∀ (H:Type) (enc:TypeId × Value->H) (w:World) (fuel:Nat) (cs:List Value) (xs:List (DataW H × List MemPlace)),
  cs.length=o+FW ss->xs.length=fs.length->(∀ (i:Nat) (f:Go.Field),fs[i]? = some f->DataW.trod enc P w 0 (fun _=>true) true fuel f.type ((cs.drop f.offset).take (P.cellsOf f.type))=xs[i]?) ->
  (∀ n ∈ DataW.weightsEach P (fs.map (·.type)) (xs.map (·.1)),n<=140737488351232)->(∀ q ∈ xs.flatMap (·.2),q.block<w.heap.size)->∃ asx,DI ss asx/\Pds (vA shp w) asx (cs.drop o)
section
variable {P:Program} {shp:TypeId->Option Sh} {t:TypeId}
theorem Tr.int (h:P.underlying t=some (.int .i64)):Tr P shp t .int:=fun _ enc w fuel cs x hx _ _=>by
 obtain ⟨n,rfl,_,hw⟩:=DataW.trod_int h hx
 have h1:IntKind.i64.min = -9223372036854775808:=rfl
 have h2:IntKind.i64.max=9223372036854775807:=rfl
 simp only [Lit.wf,Bool.and_eq_true,decide_eq_true_eq] at hw
 exact ⟨n,.cons (.int ⟨by omega,by omega⟩) .nil⟩
theorem Tr.bool (h:P.underlying t=some .bool):Tr P shp t .bool:=fun _ enc w fuel cs x hx _ _=>by
 obtain ⟨n,rfl,_⟩:=DataW.trod_bool h hx
 exact ⟨n,.cons (Pd.bool (e:=.atom n)) .nil⟩
theorem Tr.u8 (h:P.underlying t=some (.int .u8)):Tr P shp t .u8:=fun _ enc w fuel cs x hx _ _=>by
 obtain ⟨n,rfl,_,hw⟩:=DataW.trod_int h hx
 have h1:IntKind.u8.min=0:=rfl
 have h2:IntKind.u8.max=255:=rfl
 simp only [Lit.wf,Bool.and_eq_true,decide_eq_true_eq] at hw
 refine ⟨UInt8.ofNat n.toNat,?_⟩
 have:n=((UInt8.ofNat n.toNat).toNat:Int):=by
  rw [UInt8.toNat_ofNat']; omega
 generalize hg:UInt8.ofNat n.toNat=b at this
 subst this
 exact .cons .u8 .nil
theorem Tr.u64 (h:P.underlying t=some (.int .u64)):Tr P shp t .u64:=fun _ enc w fuel cs x hx _ _=>by
 obtain ⟨n,rfl,_,hw⟩:=DataW.trod_int h hx
 have h1:IntKind.u64.min=0:=rfl
 have h2:IntKind.u64.max=18446744073709551615:=rfl
 simp only [Lit.wf,Bool.and_eq_true,decide_eq_true_eq] at hw
 refine ⟨⟨n.toNat⟩,?_⟩
 have:n=(n.toNat:Int):=by omega
 generalize hg:n.toNat=b at this
 subst this
 exact .cons (.u64 (by show b<_; omega)) .nil
theorem Tr.str (h:P.underlying t=some .string):Tr P shp t .str:=fun _ enc w fuel cs x hx hw _=>by
 obtain ⟨s,rfl,hx,_⟩:=DataW.trod_string h hx
 refine ⟨⟨s.data.toList⟩,?_⟩
 have:=hw s.data.toList.length (by rw [hx]; simp [DataW.weights])
 have e:=Pd.str (c:=vA shp w) (s:=⟨s.data.toList⟩) (by show s.data.toList.length<=_; omega)
 have e2:(⟨s.data.toList⟩:Str).val = .string s:=by simp [Str.val]
 rw [e2] at e
 exact .cons e .nil
theorem fX {H:Type} {e:TypeId}:∀ {ds:List (DataW H)} {d:DataW H},d ∈ ds->∀ n ∈ d.weights P e,n ∈ DataW.weightsAll P e ds
 | [],_,h,_,_=>by cases h
 | d0 :: ds,d,h,n,hn=>by
  rw [DataW.weightsAll,List.mem_append]
  rcases List.mem_cons.1 h with rfl | h
  ·exact .inl hn
  ·exact .inr (fX h n hn)
theorem vU {s:Sh} {xs:List (den s)} {y:den s}:(xs++[y]).flatMap (cellsOf s)=xs.flatMap (cellsOf s)++cellsOf s y:=by simp
theorem Tr.list {e:TypeId} {s:Sh} (ht:P.underlying t=some (.slice e)) (hC:P.cellsOf e=s.size) (hB:P.bytesOf e=s.bytes) (he:Tr P shp e s):Tr P shp t (.lst s):=fun H enc w fuel cs x hx hw hlt=>by
 have hp:=size_pos s
 rcases DataW.trod_slice ht hx with ⟨rfl,_⟩ | ⟨a,len,cap,elems,rest,n,rfl,rfl,rfl,_,hl,hc,hel,hget,hrest,_⟩
 ·exact ⟨([]:List (den s)),.cons (Pd.oB (.em (a:=none) (b:=true) rfl)) .nil⟩
 ·rw [hC] at *
  have step:∀ m,m<=len->∃ (cells:List Value) (xs:List (den s)),Pds (vA shp w) (xs.flatMap (cellsOf s)) cells/\xs.length=m/\CellsAt w a cells:=by
   intro m
   induction m with
   | zero=>intro _; exact ⟨[],[],.nil,rfl,CellsAt.nil⟩
   | succ m ih=>
    intro hm
    obtain ⟨cells,xs,h1,h2,h3⟩:=ih (by omega)
    have hg:=hget m (by omega)
    have hem:elems[m]? = some (elems[m]'(by omega)):=List.getElem?_eq_getElem (by omega)
    rw [hem,Option.bind_eq_some_iff] at hg
    obtain ⟨cs,hcs,htr⟩:=hg
    have hmem:elems[m]'(by omega) ∈ elems:=List.getElem_mem _
    obtain ⟨y,hy⟩:=he H enc w n cs _ htr
     (fun k hk=>hw k (by
      simp only [DataW.weights,ht,List.mem_cons,List.mem_append]
      exact .inr (.inl (fX (List.mem_map_of_mem hmem) k hk))))
     (fun q hq=>hlt q (by
      simp only [List.mem_append,List.mem_flatMap]
      exact .inr ⟨_,.inl hmem,hq⟩))
    obtain ⟨_,hcl,hat⟩:=World.cells?_some hcs
    refine ⟨cells++cs,xs++[y],by rw [vU]; exact h1.append hy,by simp [h2],fun j v hv=>?_⟩
    have hfl:cells.length=m*s.size:=by rw [<- h1.length,bD,h2]
    by_cases hj:j<m*s.size
    ·rw [List.getElem?_append_left (by omega)] at hv
     exact h3 j v hv
    ·rw [List.getElem?_append_right (by omega),hfl] at hv
     have hj2:=EC hv
     have:=hat (j - m*s.size) (by omega)
     rw [hv,add_add,show m*s.size+(j - m*s.size)=j by omega] at this
     exact this
  obtain ⟨cells,xs,h1,h2,h3⟩:=step len (Nat.le_refl _)
  have hwt:(elems.length+rest.length)*P.bytesOf e<=140737488351232:=hw _ (by simp [DataW.weights,ht])
  refine ⟨xs,.cons ?_ .nil⟩
  subst h2
  refine .fz (by omega) hc ?_ h1 ?_
  ·rw [hB] at hwt
   have:xs.length*s.bytes<=(elems.length+rest.length)*s.bytes:=Nat.mul_le_mul_right _ (by omega)
   omega
  ·by_cases h0:xs.length=0
   ·left; exact List.eq_nil_of_length_eq_zero h0
   ·right
    refine ⟨a,rfl,DY ?_,h3⟩
    have:MemPlace.cell a.block (a.off+0) ∈ MemPlace.row a ((elems.length+rest.length)*s.size):=MemPlace.mem_row.2 ⟨0,Nat.mul_pos (by omega) hp,rfl⟩
    exact hlt _ (List.mem_append_left _ this)
theorem fa.nil {o:Nat}:fa P shp [] o []:=fun H enc w fuel cs xs hl _ _ _ _=>⟨[],rfl,by rw [List.drop_eq_nil_of_le (by simp only [FW] at hl; omega)]; exact .nil⟩
theorem fa.cons {f:Go.Field} {fs:List Go.Field} {o:Nat} {s:Sh} {ss:List Sh} (h:Tr P shp f.type s) (ho:f.offset=o) (hC:P.cellsOf f.type=s.size) (hr:fa P shp fs (o+s.size) ss):fa P shp (f :: fs) o (s :: ss):=fun H enc w fuel cs xs hl hx hf hw hlt=>by
 match xs,hx with
 | x :: xs,hx=>
  have hl':cs.length=o+(s.size+FW ss):=hl
  have h1:=hf 0 f rfl
  rw [ho,hC] at h1
  obtain ⟨y,hy⟩:=h H enc w fuel _ x h1 (fun n hn=>hw n (by simp [DataW.weightsEach,hn])) (fun q hq=>hlt q (by simp [hq]))
  obtain ⟨z,hz1,hz2⟩:=hr H enc w fuel cs xs (by omega) (by simpa using hx) (fun i f' hi=>by simpa using hf (i+1) f' (by simpa using hi)) (fun n hn=>hw n (by simp only [List.map_cons,DataW.weightsEach,List.mem_append]; exact .inr hn)) (fun q hq=>hlt q (by simp only [List.flatMap_cons,List.mem_append]; exact .inr hq))
  refine ⟨cellsOf s y++z,⟨y,z,rfl,hz1⟩,?_⟩
  have:=hy.append hz2
  rwa [<- List.drop_drop,List.take_append_drop] at this
theorem Tr.struct {s:Sh} {ss:List Sh} {fs:Array Go.Field} (ht:P.underlying t=some (.struct fs)) (hC:P.cellsOf t=FW ss) (hs:∀ asx,DI ss asx->∃ y:den s,asx=cellsOf s y) (h:fa P shp fs.toList 0 ss):Tr P shp t s:=fun H enc w fuel cs x hx hw hlt=>by
 obtain ⟨xs,n,_,rfl,hl,hxl,hf⟩:=DataW.trod_struct ht hx
 obtain ⟨asx,h1,h2⟩:=h H enc w n cs xs (by omega) (by simpa using hxl) (fun i f hi=>hf i f (by simpa using hi)) (fun k hk=>hw k (by simpa [DataW.weights,ht] using hk)) hlt
 obtain ⟨y,rfl⟩:=hs asx h1
 exact ⟨y,by simpa using h2⟩
end
section
variable {H:Type} {enc:TypeId × Value->H} {P:Program} {shp:TypeId->Option Sh}
structure Ar (enc:TypeId × Value->H) (P:Program) (W:World) (t:TypeId) (v:Value):Prop where
 form:∃ base,Value.okWide P W .any base t v
 read:∃ d p fuel,DataW.trod enc P W 0 (fun _=>true) true fuel t v.cells.toList=some (d,p)/\(∀ n ∈ d.weights P t,n<=140737488351232)/\(∀ q ∈ p,q.block<W.heap.size)
variable {W:World} {t:TypeId} {v:Value}
theorem Ar.rp {s:Sh} (h:Ar enc P W t v) (ht:Tr P shp t s):∃ y:den s,Pds (vA shp W) (cellsOf s y) v.cells.toList:=by
 obtain ⟨d,p,fuel,h1,h2,h3⟩:=h.read
 exact ht H enc W fuel _ _ h1 h2 h3
theorem xP {a:AV} {u:Value} (h:Pds (vA shp W) [a] [u]):cq (vA shp W) [] (.c a) u:=by cases h with | cons h1 _=>exact fJ h1
theorem Ar.int (h:Ar enc P W t v) (ht:P.underlying t=some (.int .i64)):∃ y:Int,cq (vA shp W) [] (.c (.int y)) v:=by
 obtain ⟨base,hf⟩:=h.form
 obtain ⟨n,rfl⟩:=okWide_int ht hf
 obtain ⟨y,h1⟩:=h.rp (shp:=shp) (Tr.int ht)
 exact ⟨y,xP (by simpa [Value.cells,cellsOf] using h1)⟩
theorem Ar.u8 (h:Ar enc P W t v) (ht:P.underlying t=some (.int .u8)):∃ y:UInt8,cq (vA shp W) [] (.c (.u8 y)) v:=by
 obtain ⟨base,hf⟩:=h.form
 obtain ⟨n,rfl⟩:=okWide_int ht hf
 obtain ⟨y,h1⟩:=h.rp (shp:=shp) (Tr.u8 ht)
 exact ⟨y,xP (by simpa [Value.cells,cellsOf] using h1)⟩
theorem Ar.bool (h:Ar enc P W t v) (ht:P.underlying t=some .bool):∃ y:Bool,cq (vA shp W) [] (.c (.bool (.atom y))) v:=by
 obtain ⟨base,hf⟩:=h.form
 obtain ⟨b,rfl⟩:=okWide_bool ht hf
 exact ⟨b,Pd.bool (e:=.atom b)⟩
theorem Ar.struct {s:Sh} {fs:Array Go.Field} (h:Ar enc P W t v) (hu:P.underlying t=some (.struct fs)) (ht:Tr P shp t s):∃ x:den s,cq (vA shp W) [] (.agg (cellsOf s x)) v:=by
 obtain ⟨base,hf⟩:=h.form
 obtain ⟨cs,rfl,_⟩:=okWide_struct hu hf
 obtain ⟨y,h1⟩:=h.rp ht
 exact ⟨y,cs.toList,by simp,dF (by simpa [Value.cells] using h1)⟩
theorem AU {f:Nat} {args:List TV1} {pre:List Prop} {e:BE} {vs:List Value} (h:Sat P shp f args [] ⟨pre,[.c (.bool e)],none,false⟩) (he:e.val=true) (hv:All2 (cq (vA shp W) []) args vs):gE P f vs.toArray W fun r W'=>r = .bool true/\Kp [] W W':=by
 refine (h.2 ⟨shp,W.heap.size,fun _=>False⟩ [] W vs rfl ⟨.nil,fun _ _ _ _ _ h=>by simp at h,fun _ _ _ h=>by simp at h,fun _ h=>h.elim,Nat.le_refl _⟩ hv).mono fun v w' ⟨us,h1,h2,h3⟩=>⟨?_,h2⟩
 cases h3 with | cons h4 h5=>
 cases h5
 have h4:Pd _ (.bool e) _:=h4
 cases h4
 rw [h1,he]; rfl
theorem BU {base:Nat} {ts:List TypeId} {args:Array Value} {ds:List (DataW H)} {p:List MemPlace} (hf:∀ (j:Nat) t v,ts[j]? = some t->args[j]? = some v->Value.okWide P W .any base t v)
  (h:DataW.TrodAll enc P W 0 (fun _=>true) true ts args.toList ds p) (hw:∀ n ∈ DataW.weightsEach P ts ds,n<=140737488351232) (hlt:∀ q ∈ p,q.block<W.heap.size) :
  args.size=ts.length/\∀ (j:Nat) t v,ts[j]? = some t->args[j]? = some v->Ar enc P W t v:=by
 have key:∀ (ts:List TypeId) (vs:List Value) (ds:List (DataW H)) (p:List MemPlace),DataW.TrodAll enc P W 0 (fun _=>true) true ts vs ds p->(∀ n ∈ DataW.weightsEach P ts ds,n<=140737488351232)->(∀ q ∈ p,q.block<W.heap.size) ->
   vs.length=ts.length/\∀ (j:Nat) t v,ts[j]? = some t->vs[j]? = some v->∃ d p fuel,DataW.trod enc P W 0 (fun _=>true) true fuel t v.cells.toList=some (d,p)/\(∀ n ∈ d.weights P t,n<=140737488351232)/\(∀ q ∈ p,q.block<W.heap.size):=by
  intro ts
  induction ts with
  | nil=>intro vs ds p h _ _; obtain ⟨rfl,_,_⟩:=trodAll_nil h; exact ⟨rfl,fun j t v h=>by simp at h⟩
  | cons t ts ih=>
   intro vs ds p h hw hlt
   obtain ⟨v,vs,d,ds,p1,p2,rfl,rfl,rfl,h1,h2⟩:=trodAll_cons h
   obtain ⟨k1,k2⟩:=ih vs ds p2 h2 (fun n hn=>hw n (by rw [DataW.weightsEach,List.mem_append]; exact .inr hn)) (fun q hq=>hlt q (List.mem_append_right _ hq))
   refine ⟨by simp [k1],fun j t' v' ht hv=>?_⟩
   cases j with
   | zero=>
    simp at ht hv
    subst ht; subst hv
    obtain ⟨fuel,hf⟩:=h1
    exact ⟨d,p1,fuel,hf,fun n hn=>hw n (by rw [DataW.weightsEach,List.mem_append]; exact .inl hn),fun q hq=>hlt q (List.mem_append_left _ hq)⟩
   | succ j=>exact k2 j t' v' (by simpa using ht) (by simpa using hv)
 obtain ⟨k1,k2⟩:=key ts args.toList ds p h hw hlt
 exact ⟨by simpa using k1,fun j t v ht hv=>⟨⟨base,hf j t v ht hv⟩,k2 j t v ht (by simpa using hv)⟩⟩
theorem vo (hl:laidOutB P=true) {W':World} (hb:Below W.heap.size W W'):∀ (ts:List TypeId) (vs:List Value) (ds:List (DataW H)) (p:List MemPlace),ts.all (fun t=>P.readableRec t && decide (t<P.types.size))=true->DataW.TrodAll enc P W 0 (fun _=>true) true ts vs ds p->(∀ q ∈ p,q.block<W.heap.size) ->
  DataW.TrodAll enc P W' 0 (fun b=>decide (b<W.heap.size)) true ts vs ds p:=by
 intro ts
 induction ts with
 | nil=>intro vs ds p _ h _; obtain ⟨rfl,rfl,rfl⟩:=trodAll_nil h; rfl
 | cons t ts ih=>
  intro vs ds p hr h hlt
  obtain ⟨v,vs,d,ds,p1,p2,rfl,rfl,rfl,h1,h2⟩:=trodAll_cons h
  rw [List.all_cons,Bool.and_eq_true,Bool.and_eq_true,decide_eq_true_eq] at hr
  exact ⟨p1,p2,Below.trod hl hr.1.1 hr.1.2 h1 hb fun q hq=>hlt q (List.mem_append_left _ hq),ih vs ds p2 hr.2 h2 fun q hq=>hlt q (List.mem_append_right _ hq),rfl⟩
theorem yt {fn:Func} {s:ChangeSpec} {tb:TypeId} {W':World} {args:Array Value} {ds:List (DataW H)} {p:List MemPlace} (hl:laidOutB P=true)
  (hrow:fn.params.toList.all (fun t=>P.readableRec t && decide (t<P.types.size))=true) (hr:fn.resultTypes = #[tb]) (hb:P.underlying tb=some .bool) (hv:s.vars=[])
  (hs:s.fn H (ds++[])={ results:=[.lit (.bool true)],args:=ds }) (hW:DataW.Whole enc P fn.params.toList s.vars false W args.toList ds [] p) (hA:DataW.TrodAll enc P W 0 (fun _=>true) true fn.params.toList args.toList ds p) (hlt:∀ q ∈ p,q.block<W.heap.size) (hk:Kp [] W W') :
  s.post enc P fn false true false false W args (.bool true) W':=by
 refine ⟨ds,[],p,[],p,[],hW,?_,?_,?_,hk.below.frame _,fun h=>by cases h⟩
 ·rw [hs,hr]
  exact trodAll_mk1 ⟨1,by simp [DataW.trod,Value.cells,hb]⟩
 ·rw [hs]
  exact vo hl hk.below _ _ _ _ hrow hA hlt
 ·rw [hs,hv]; rfl
theorem zZ {C:Checked} {os:Os} {f:FuncId} {fn:Func} {s:ChangeSpec} {conds:List PathCond} {tb:TypeId} (own:ownKnob C.prog.godebug=none) (started:os.Started) (noInit:C.prog.inits.idxOf? f=none) (hfn:C.prog.funcs[f]? = some fn)
  (witness:∃ (w:World) (tape:Tape) (i:Input),w.os=os/\(w.forCall tape i).Shaped C.prog/\i.vars=[]/\Input.okWide C.prog (w.forCall tape i) .any w.heap.size f i /\
   s.pre6 enc C.prog fn conds false (w.forCall tape i).memory i.args/\({}:Assume).holds C.prog (lone (Frame.enter C.prog f i.args .normal) [] (w.forCall tape i)))
  (hl:laidOutB C.prog=true) (hrow:fn.params.toList.all (fun t=>C.prog.readableRec t && decide (t<C.prog.types.size))=true) (hr:fn.resultTypes = #[tb]) (hb:C.prog.underlying tb=some .bool) (hv:s.vars=[])
  (hs:∀ ds:List (DataW H),ds.length=fn.params.size->s.fn H ds={ results:=[.lit (.bool true)],args:=ds })
  (law:∀ (W:World) (args:Array Value),args.size=fn.params.toList.length->(∀ (j:Nat) t v,fn.params.toList[j]? = some t->args[j]? = some v->Ar enc C.prog W t v)->gE C.prog f args W fun r W'=>r = .bool true/\Kp [] W W') :
  ReturnsInHanded {} C os f .any (s.pre6 enc C.prog fn conds false) (s.post enc C.prog fn false true false false):=by
 refine returnsInHanded_of_change_sized own started noInit hfn witness ?_
 intro W base args ds gs before hval hW _ hsz _
 have hW0:=hW
 obtain ⟨p,q,hA,hV,rfl,_,_⟩:=hW
 rw [hv] at hV
 obtain ⟨rfl,rfl⟩:=trodVars_none hV
 simp only [List.append_nil] at hW0 hsz
 have hlt:∀ x ∈ p,x.block<W.heap.size:=fun x hx=>by simpa using hW0.lt x hx
 have hwt:∀ n ∈ DataW.weightsEach C.prog fn.params.toList ds,n<=140737488351232:=fun n hn=>by
  have hmem:n ∈ DataW.weightsEach C.prog (fn.params.toList++s.plain.varTypes C.prog) ds:=by
   have:∀ (ts us:List TypeId) (ds:List (DataW H)),n ∈ DataW.weightsEach C.prog ts ds->n ∈ DataW.weightsEach C.prog (ts++us) ds:=by
    intro ts
    induction ts with
    | nil=>intro us ds h; simp [DataW.weightsEach] at h
    | cons t ts ih=>
     intro us ds h
     cases ds with
     | nil=>simp [DataW.weightsEach] at h
     | cons d ds=>
      rw [DataW.weightsEach,List.mem_append] at h
      rw [List.cons_append,DataW.weightsEach,List.mem_append]
      exact h.imp id (ih us ds)
   exact this _ _ _ hn
  exact of_decide_eq_true (List.all_eq_true.1 hsz n hmem)
 obtain ⟨hsize,har⟩:=BU (fun j t v ht hv=>hval j t v (by simpa using ht) hv) hA hwt hlt
 have hdl:ds.length=fn.params.size:=by
  have:∀ (ts:List TypeId) (vs:List Value) (ds:List (DataW H)) (p:List MemPlace),DataW.TrodAll enc C.prog W 0 (fun _=>true) true ts vs ds p->ds.length=ts.length:=by
   intro ts
   induction ts with
   | nil=>intro vs ds p h; obtain ⟨_,rfl,_⟩:=trodAll_nil h; rfl
   | cons t ts ih=>intro vs ds p h; obtain ⟨v,vs,d,ds,p1,p2,rfl,rfl,rfl,_,h2⟩:=trodAll_cons h; simp [ih vs ds p2 h2]
  simpa using this _ _ _ _ hA
 refine Calls.mono (law W args hsize har) fun e W' ⟨v,he,hv',hk⟩=>⟨v,he,?_⟩
 subst hv'
 exact yt hl hrow hr hb hv (by rw [List.append_nil]; exact hs ds hdl) hW0 hA hlt hk
end
end Go.Proofs.Ytmmbibcfkdabeaa
namespace Go.Proofs.Ytmmbibcfkdabeaa
open Go.RowKit Go.ChangeShapes Go.WideShapes
theorem xZ:ownKnob Try.prog.godebug=none:=by kernel_rfl
theorem wE:laidOutB Try.prog=true:=by kernel_rfl
theorem Gx:Tr Try.prog (av aL) 46 (.nm .snap):=Tr.struct (ss:=[.int,.int,(.lst .int),.bool,.str]) Try.underlying46 (by kernel_rfl) (fun cells h=>by
 obtain ⟨y0,l0,rfl,y1,l1,rfl,y2,l2,rfl,y3,l3,rfl,y4,l4,rfl,rfl⟩:=h
 exact ⟨⟨y0,y1,y2,y3,y4⟩,rfl⟩) (fa.cons (Tr.int Try.underlying3) rfl (by kernel_rfl) (fa.cons (Tr.int Try.underlying3) rfl (by kernel_rfl) (fa.cons (Tr.list Try.underlying27 (by kernel_rfl) (by kernel_rfl) (Tr.int Try.underlying3)) rfl (by kernel_rfl) (fa.cons (Tr.bool Try.underlying4) rfl (by kernel_rfl) (fa.cons (Tr.str Try.underlying9) rfl (by kernel_rfl) (fa.nil))))))
theorem Hc:Tr Try.prog (av aL) 51 (.nm .opn):=Tr.struct (ss:=[.int,.int]) Try.underlying51 (by kernel_rfl) (fun cells h=>by
 obtain ⟨y0,l0,rfl,y1,l1,rfl,rfl⟩:=h
 exact ⟨⟨y0,y1⟩,rfl⟩) (fa.cons (Tr.int Try.underlying3) rfl (by kernel_rfl) (fa.cons (Tr.int Try.underlying3) rfl (by kernel_rfl) (fa.nil)))
theorem GM:Tr Try.prog (av aL) 35 (.nm .reply):=Tr.struct (ss:=[.int,.int]) Try.underlying35 (by kernel_rfl) (fun cells h=>by
 obtain ⟨y0,l0,rfl,y1,l1,rfl,rfl⟩:=h
 exact ⟨⟨y0,y1⟩,rfl⟩) (fa.cons (Tr.int Try.underlying33) rfl (by kernel_rfl) (fa.cons (Tr.int Try.underlying3) rfl (by kernel_rfl) (fa.nil)))
theorem Hd:Tr Try.prog (av aL) 42 (.nm .sess):=Tr.struct (ss:=[.int,.int,(.nm .reply)]) Try.underlying42 (by kernel_rfl) (fun cells h=>by
 obtain ⟨y0,l0,rfl,y1,l1,rfl,y2,l2,rfl,rfl⟩:=h
 exact ⟨⟨y0,y1,y2⟩,rfl⟩) (fa.cons (Tr.int Try.underlying3) rfl (by kernel_rfl) (fa.cons (Tr.int Try.underlying3) rfl (by kernel_rfl) (fa.cons (GM) rfl (by kernel_rfl) (fa.nil))))
theorem GS:Tr Try.prog (av aL) 26 (.nm .state):=Tr.struct (ss:=[.int,.int,.int,.int,(.lst (.nm .sess)),(.lst (.nm .opn)),(.lst (.nm .snap))]) Try.underlying26 (by kernel_rfl) (fun cells h=>by
 obtain ⟨y0,l0,rfl,y1,l1,rfl,y2,l2,rfl,y3,l3,rfl,y4,l4,rfl,y5,l5,rfl,y6,l6,rfl,rfl⟩:=h
 exact ⟨⟨y0,y1,y2,y3,y4,y5,y6⟩,rfl⟩) (fa.cons (Tr.int Try.underlying3) rfl (by kernel_rfl) (fa.cons (Tr.int Try.underlying3) rfl (by kernel_rfl) (fa.cons (Tr.int Try.underlying3) rfl (by kernel_rfl) (fa.cons (Tr.int Try.underlying3) rfl (by kernel_rfl) (fa.cons (Tr.list Try.underlying22 (by kernel_rfl) (by kernel_rfl) (Hd)) rfl (by kernel_rfl) (fa.cons (Tr.list Try.underlying23 (by kernel_rfl) (by kernel_rfl) (Hc)) rfl (by kernel_rfl) (fa.cons (Tr.list Try.underlying24 (by kernel_rfl) (by kernel_rfl) (Gx)) rfl (by kernel_rfl) (fa.nil))))))))
theorem FJ:Tr Try.prog (av aL) 29 (.nm .command):=Tr.struct (ss:=[.int,.int,.int,.int,.int,.int,(.lst .int),.str]) Try.underlying29 (by kernel_rfl) (fun cells h=>by
 obtain ⟨y0,l0,rfl,y1,l1,rfl,y2,l2,rfl,y3,l3,rfl,y4,l4,rfl,y5,l5,rfl,y6,l6,rfl,y7,l7,rfl,rfl⟩:=h
 exact ⟨⟨y0,y1,y2,y3,y4,y5,y6,y7⟩,rfl⟩) (fa.cons (Tr.int Try.underlying3) rfl (by kernel_rfl) (fa.cons (Tr.int Try.underlying3) rfl (by kernel_rfl) (fa.cons (Tr.int Try.underlying3) rfl (by kernel_rfl) (fa.cons (Tr.int Try.underlying3) rfl (by kernel_rfl) (fa.cons (Tr.int Try.underlying3) rfl (by kernel_rfl) (fa.cons (Tr.int Try.underlying3) rfl (by kernel_rfl) (fa.cons (Tr.list Try.underlying27 (by kernel_rfl) (by kernel_rfl) (Tr.int Try.underlying3)) rfl (by kernel_rfl) (fa.cons (Tr.str Try.underlying9) rfl (by kernel_rfl) (fa.nil)))))))))
set_option maxRecDepth 100000 in
theorem kf (os:Os) (started:os.Started) (H:Type) (enc:TypeId × Value->H) :
  ReturnsInHanded {} Try.checked os 8 .any (Rows.applyApartSpec.pre6 enc Try.prog Try.f8 Rows.applyApartRow.domain false) (Rows.applyApartSpec.post enc Try.prog Try.f8 false true false false):=by
 refine zZ (C:=Try.checked) xZ started (by kernel_rfl) Try.func8 (ChangeSpec.witness6 (enc:=enc) (C:=Try.checked) false ⟨#[],#[.agg #[.int .i64 0,.int .i64 0,.int .i64 0,.int .i64 0,.slice none 0 0,.slice none 0 0,.slice none 0 0],.agg #[.int .i64 0,.int .i64 0,.int .i64 0,.int .i64 0,.int .i64 0,.int .i64 0,.slice none 0 0,.string ⟨#[]⟩],.agg #[.int .i64 0,.int .i64 0,.int .i64 0,.int .i64 0,.int .i64 0,.int .i64 0,.slice none 0 0,.string ⟨#[]⟩]],[]⟩ 8 (by kernel_rfl) (by kernel_rfl) (by kernel_rfl) (by kernel_rfl)) wE (by kernel_rfl) (by kernel_rfl) Try.underlying4 rfl (fun ds h=>?_) ?_
 ·match ds,h with
  | [d0,d1,d2],_=>rfl
 ·intro W args hs ha
  obtain ⟨l⟩:=args
  match l,hs with
  | [v0,v1,v2],_=>
   obtain ⟨x0,h0⟩:=Ar.struct (shp:=av aL) (ha 0 26 _ rfl rfl) Try.underlying26 GS
   obtain ⟨x1,h1⟩:=Ar.struct (shp:=av aL) (ha 1 29 _ rfl rfl) Try.underlying29 FJ
   obtain ⟨x2,h2⟩:=Ar.struct (shp:=av aL) (ha 2 29 _ rfl rfl) Try.underlying29 FJ
   exact AU (CY x0 x1 x2) rfl (.cons h0 (.cons h1 (.cons h2 .nil)))
theorem applyApart_holds:Rows.ApplyApartSaid:=
 OpenClaim.holds_of_wide 8 Try.f8 rfl rfl rfl rfl rfl rfl rfl ⟨rfl,rfl,rfl,rfl,rfl⟩ rfl rfl rfl rfl rfl (by kernel_rfl) Try.func8 (by kernel_rfl)
  (of_decide_eq_true (by kernel_rfl)) (by unfold Func.isWrapper; first | (rw [if_pos (by decide +kernel)]; kernel_rfl) | (rw [if_neg (by decide +kernel)]; exact ⟨rfl,rfl⟩))
  (fun os started H enc _=>kf os started H enc)
end Go.Proofs.Ytmmbibcfkdabeaa
