/- The law: for every input it returns true, and each argument reads behind the call as it read before; and what leads there. Conditions: each lemma's own. -/
import Derived.LaidLaws
import Derived.LaidMore
import Derived.Lay
import Derived.Lib.ItoaMem
import Derived.Lib.LaidTab
import Derived.MakeChecks
import Derived.OpenShut
import Derived.ProofKit
import Derived.SevenTiedAt
import Derived.Shelf.Vars
import Derived.SizedLaws
import Derived.Stop.Joined
import Derived.Stop.LaidErr
import Derived.Test.YtagpmhlokhoanaaDoorCards
import Derived.Test.YtagpmhlokhoanaaDoorChecked
import Derived.Test.YtagpmhlokhoanaaDoorRows
import Derived.Test.YtagpmhlokhoanaaDoorTie
import Derived.Test.YtagpmhlokhoanaaDoorKSLM4
set_option linter.unusedVariables false
set_option linter.unusedSimpArgs false
namespace Go.Proofs.YtagpmhlokhoanaaDoor
open Go.RowKit
def kv (w:Str):Nat->Int
 | 0=>0
 | k+1=>if aZ ((k:Int)+1)=w then (k:Int)+1 else kv w k
def dR (w:Str):Nat->List UInt8
 | 0=>[]
 | k+1=>dR w k++[qV (16*cV (w.b.getD (2*k) 0)+cV (w.b.getD (2*k+1) 0))]
abbrev gw (s:Str) (n:Nat):Str:=(bL s).getD n (ay .str)
abbrev pU (s:Str):Int:=kv (gw s 0) 9
def aR (s:Str):Int:=if 1<(bL s).length then aw (gw s 1) else 0
def bR (s:Str):Int:=if bf (pU s)=true/\2<(bL s).length then aw (gw s 2) else 0
def cR (s:Str):Command:=if pU s=6/\8<(bL s).length then ⟨aw (gw s 2),aw (gw s 3),aw (gw s 4),aw (gw s 5),aw (gw s 6),aw (gw s 7),((bL s).drop 9).map aw,⟨dR (gw s 8) ((gw s 8).b.length / 2)⟩⟩ else cK
def tB (s:Str):Event:=⟨pU s,aR s,bR s,cR s⟩
def zx (s:Str):Bool:=decide (ax (tB s)=0) && decide (ao (tB s)=s)
def dC (s:Str):Event:=if zx s=true then tB s else fW
def gq (s:Str):Int:=if zx s=true then 0 else 240
theorem qB (c:UInt8):-48<=cV c/\cV c<=255:=by
 have:=c.toNat_lt
 unfold cV; split <;> omega
theorem rB (w:Str):∀ k,(dR w k).length=k
 | 0=>rfl
 | k+1=>by rw [dR,List.length_append,rB w k]; rfl
theorem vq (s:Str) (n:Nat):(gw s n).b.length<=s.b.length:=by
 unfold gw bL bq
 rw [nq,List.getD_eq_getElem?_getD]
 cases hq:(aj ((Str.mk [32]).b.getD 0 0) s.b)[n]? with
 | none=>simp
 | some x=>exact eg _ s.b x (List.mem_of_getElem? hq)
theorem tR (s:Str):(bL s).length<=s.b.length+1:=by
 unfold bL bq
 rw [List.length_map]; exact (bH _ s.b).1
theorem Bd {s:Str}:(0:Int)<((bL s).length:Int):=by
 have:=lQ (s:=s) (sep:=⟨[32]⟩)
 cases h:bL s with
 | nil=>exact absurd h this
 | cons _ _=>simp only [List.length_cons]; omega
theorem ye (w:Str):I64 (aw w):=by
 have:=nr (l:=w.b) (k:=min w.b.length 9) (by omega)
 unfold aw; constructor <;> omega
section
variable {s:Str} {k:Nat} {x:Str} {a b m n:Int} {c:Command} {e:Event}
theorem DH (h:aZ ((k:Int)+1)=gw s 0):(k:Int)+1=kv (gw s 0) (k+1):=by rw [kv,if_pos h]
theorem EW (h:¬ aZ ((k:Int)+1)=gw s 0):kv (gw s 0) k=kv (gw s 0) (k+1):=by rw [kv,if_neg h]
theorem mS (h1:k<=9) (h2:9<(k:Int)+1):kv (gw s 0) k=pU s:=by rw [show k=9 by omega]
theorem EG (h1:k<=9) (h2:9<(k:Int)+1) (h:kv (gw s 0) k=6):pU s=6:=by rw [<- mS h1 h2,h]
theorem EO (h:(bL s)[8]? = some x):(((bL s).getD 8 (ay .str)).b.length:Int)=(x.b.length:Int):=by rw [List.getD_eq_getElem?_getD,h]; rfl
theorem CC (h:1<((bL s).length:Int)) (hx:(bL s)[1]? = some x):aw x=aR s:=by
 rw [aR,if_pos (by omega),gw,List.getD_eq_getElem?_getD,hx]; rfl
theorem Ce (h:((bL s).length:Int)<=1):0=aR s:=by rw [aR,if_neg (by omega)]
theorem Cf (h1:k<=9) (h2:9<(k:Int)+1) (h3:bf (kv (gw s 0) k)=true) (h:2<((bL s).length:Int)) (hx:(bL s)[2]? = some x):aw x=bR s:=by
 rw [mS h1 h2] at h3
 rw [bR,if_pos ⟨h3,by omega⟩,gw,List.getD_eq_getElem?_getD,hx]; rfl
theorem BX (h1:k<=9) (h2:9<(k:Int)+1) (h3:bf (kv (gw s 0) k)=false\/((bL s).length:Int)<=2):0=bR s:=by
 rw [mS h1 h2] at h3
 rw [bR,if_neg]
 rintro ⟨h4,h5⟩
 rcases h3 with h3 | h3
 ·rw [h4] at h3; cases h3
 ·omega
theorem Dq (h1:k<=9) (h2:9<(k:Int)+1) (h3:¬ kv (gw s 0) k=6\/((bL s).length:Int)<=8):Command.mk 0 0 0 0 0 0 [] ⟨[]⟩=cR s:=by
 rw [mS h1 h2] at h3
 rw [cR,if_neg (by rintro ⟨h4,h5⟩; omega),cK]
theorem oK (h1:m=pU s) (h2:a=aR s) (h3:b=bR s) (h4:c=cR s):Event.mk m a b c=tB s:=by rw [h1,h2,h3,h4,tB]
theorem D_ (h:(((bL s).length:Int):Int)<=(k:Int)+9):(((bL s).drop 9).take k).map aw=((bL s).drop 9).map aw:=by
 rw [List.take_of_length_le (by rw [List.length_drop]; omega)]
theorem yT (h6:pU s=6) (hl:k+9<=(bL s).length) (h:((bL s).length:Int)<=(k:Int)+9):Event.mk (pU s) (aR s) (bR s) (Command.mk (aw (gw s 2)) (aw (gw s 3)) (aw (gw s 4)) (aw (gw s 5)) (aw (gw s 6)) (aw (gw s 7)) ((((bL s).drop 9).take k).map aw) ⟨dR (gw s 8) ((gw s 8).b.length / 2)⟩)=tB s:=by
 rw [D_ h]
 refine oK rfl rfl rfl ?_
 rw [cR,if_pos ⟨h6,by omega⟩]
theorem Am (he:e=tB s) (h1:ax e=0) (h2:ao e=s):dC s=e/\gq s=0:=by
 subst he
 have h:zx s=true:=by rw [zx,decide_eq_true h1,decide_eq_true h2]; rfl
 rw [dC,gq,if_pos h,if_pos h]; exact ⟨rfl,rfl⟩
theorem Db (he:e=tB s) (h:¬ ax e=0\/¬ ao e=s):dC s=fW/\gq s=240:=by
 subst he
 have h:¬ zx s=true:=by
  rw [zx,Bool.and_eq_true,decide_eq_true_eq,decide_eq_true_eq]
  rintro ⟨h1,h2⟩
  rcases h with h | h
  ·exact h h1
  ·exact h h2
 rw [dC,gq,if_neg h,if_neg h]; exact ⟨rfl,rfl⟩
theorem EL:dR (gw s 8) 0=[]:=rfl
theorem E_:dR (gw s 8) k++[qV (16*cV ((gw s 8).b.getD (2*k) 0)+cV ((gw s 8).b.getD (((2*k:Nat):Int)+1).toNat 0))]=dR (gw s 8) (k+1):=by
 rw [show (((2*k:Nat):Int)+1).toNat=2*k+1 by omega]; rfl
theorem xK (h1:2*k<=(gw s 8).b.length) (h:(((bL s).getD 8 (ay .str)).b.length:Int)<=((2*k:Nat):Int)+1):dR (gw s 8) k=dR (gw s 8) ((gw s 8).b.length / 2):=by
 rw [show (gw s 8).b.length / 2=k by unfold gw at *; omega]
theorem Ca (h:s.b.length<=1000000) (h1:2*k<=(gw s 8).b.length):I64 (((2*k:Nat):Int)+1)/\I64 (((2*k:Nat):Int)+2):=by
 have:=vq s 8
 exact ⟨by constructor <;> omega,by constructor <;> omega⟩
theorem Fp (h:s.b.length<=1000000) (h1:k+9<=(bL s).length):I64 ((k:Int)+9+1):=by
 have:=tR s
 constructor <;> omega
theorem Dk (u v:UInt8):I64 (16*cV u)/\I64 (16*cV u+cV v):=by
 have:=qB u
 have:=qB v
 exact ⟨by constructor <;> omega,by constructor <;> omega⟩
theorem Dg {z:UInt8} (h:s.b.length<=1000000) (h1:2*k<=(gw s 8).b.length):((dR (gw s 8) k).length+[z].length)*1<=140737488355328:=by
 have:=vq s 8
 rw [rB,List.length_singleton]; omega
theorem CJ {z:Int} (h:s.b.length<=1000000):(((((bL s).drop 9).take k).map aw).length+[z].length)*8<=140737488355328:=by
 have:=tR s
 rw [List.length_map,List.length_take,List.length_drop,List.length_singleton]; omega
theorem EF:(((bL s).drop 9).take 0).map aw=[]:=rfl
theorem EM (h:(k:Int)+9<((bL s).length:Int)):(((bL s).drop 9).take k).map aw++[aw (gw s ((k:Int)+9).toNat)]=(((bL s).drop 9).take (k+1)).map aw:=by
 have h1:((bL s).drop 9)[k]? = some (gw s ((k:Int)+9).toNat):=by
  rw [List.getElem?_drop,show ((k:Int)+9).toNat=9+k by omega,gw]; exact bI (by omega)
 rw [qS h1,List.map_append]; rfl
end
def uH (s:Str):List (Nat × LI):=[(4,{ σ:=Nat,F:=fun k=>([(0,one (.str (s))),(2,one (.ptr 0 0)),(4,one (.fz .str (bL s))),(5,one (.ptr 1 0)),(6,one (.int ((k:Int)+1)))],[.box 26 ([.int ((0)),.int ((0)),.int ((0)),.int ((0)),.int ((0)),.int ((0)),.int ((0)),.int ((0)),.int ((0)),.em true,.str ((⟨[]⟩))]),.box 26 ([.int ((kv ((bL s).getD 0 (ay .str)) k)),.int ((0)),.int ((0)),.int ((0)),.int ((0)),.int ((0)),.int ((0)),.int ((0)),.int ((0)),.em true,.str ((⟨[]⟩))])]),J:=fun k=>k<=9,μ:=fun k=>9 - k }),(16,{ σ:=Nat,F:=fun k=>([(0,one (.str (s))),(2,one (.ptr 0 0)),(4,one (.fz .str (bL s))),(5,one (.ptr 1 0)),(7,one (.own 2)),(8,one (.int ((2*k:Nat):Int)))],[.box 26 ([.int ((0)),.int ((0)),.int ((0)),.int ((0)),.int ((0)),.int ((0)),.int ((0)),.int ((0)),.int ((0)),.em true,.str ((⟨[]⟩))]),.box 26 ([.int ((pU s)),.int ((aR s)),.int ((bR s)),.int ((aw ((bL s).getD 2 (ay .str)))),.int ((aw ((bL s).getD 3 (ay .str)))),.int ((aw ((bL s).getD 4 (ay .str)))),.int ((aw ((bL s).getD 5 (ay .str)))),.int ((aw ((bL s).getD 6 (ay .str)))),.int ((aw ((bL s).getD 7 (ay .str)))),.em true,.str ((⟨[]⟩))]),.row 5 .u8 ((dR ((bL s).getD 8 (ay .str)) k))]),J:=fun k=>2*k<=((bL s).getD 8 (ay .str)).b.length/\pU s=6/\8<(bL s).length,μ:=fun k=>((bL s).getD 8 (ay .str)).b.length - 2*k }),(21,{ σ:=Nat,F:=fun k=>([(0,one (.str (s))),(2,one (.ptr 0 0)),(4,one (.fz .str (bL s))),(5,one (.ptr 1 0)),(9,one (.int ((k:Int)+9)))],[.box 26 ([.int ((0)),.int ((0)),.int ((0)),.int ((0)),.int ((0)),.int ((0)),.int ((0)),.int ((0)),.int ((0)),.em true,.str ((⟨[]⟩))]),.box 26 ([.int ((pU s)),.int ((aR s)),.int ((bR s)),.int ((aw ((bL s).getD 2 (ay .str)))),.int ((aw ((bL s).getD 3 (ay .str)))),.int ((aw ((bL s).getD 4 (ay .str)))),.int ((aw ((bL s).getD 5 (ay .str)))),.int ((aw ((bL s).getD 6 (ay .str)))),.int ((aw ((bL s).getD 7 (ay .str)))),.own 3,.str ((⟨dR ((bL s).getD 8 (ay .str)) (((bL s).getD 8 (ay .str)).b.length / 2)⟩))]),.row 5 .u8 ((dR ((bL s).getD 8 (ay .str)) (((bL s).getD 8 (ay .str)).b.length / 2))),.row 3 .int (((((bL s).drop 9).take k).map aw))]),J:=fun k=>k+9<=(bL s).length/\pU s=6,μ:=fun k=>(bL s).length - k })]
set_option maxRecDepth 8000 in
theorem xT (s:Str) (r0:Event) (r1:Int):jq ba (Bk vN) (uH s) Tryd.f14 [.c (.str (s))] [] [.agg (cellsOf (.nm .event) r0),.c (.int (r1))]=((fun (q36:Int)=>(fun (q35:Int)=>(fun (q34:Int)=>(fun (q33:Int)=>(fun (q32:Int)=>(fun (q31:Int)=>(fun (q30:Int)=>(fun (q29:Prop)=>(fun (q28:Int)=>(fun (q27:Int)=>(fun (q26:Str)=>(fun (q25:Int)=>(fun (q24:Int)=>(fun (q23:Int)=>(fun (q22:Int)=>(fun (q21:Int)=>(fun (q20:Command)=>(fun (q19:Nat)=>(fun (q18:UInt8)=>(fun (q17:Prop)=>(fun (cQ:Int)=>(fun (q15:Nat)=>(fun (q14:Prop)=>(fun (q13:Prop)=>(fun (q12:Nat)=>(fun (q11:Nat)=>(fun (q10:Nat)=>(fun (q9:Nat)=>(fun (q8:Nat)=>(fun (q7:Int)=>(fun (q6:Nat)=>(fun (q5:Nat)=>(fun (q4:Nat)=>(fun (q3:List Str)=>(fun (q2:den Sh.str)=>(fun (q1:List UInt8)=>(fun (q0:Int)=>s.b.length<=q6->s.b.length<=(1000000:Nat)/\((bq s (Str.mk [(32:UInt8)])).length*(16:Nat)<=q6->∃ (s0:Nat),(fun (q67:Prop)=>(fun (q66:Int)=>(fun (q65:Prop)=>(fun (q64:Prop)=>(fun (q63:Prop)=>(fun (q62:Prop)=>(fun (q61:Prop)=>(fun (q60:den Sh.str)=>(fun (q59:den Sh.str)=>(fun (q58:den Sh.str)=>(fun (q57:Str)=>(fun (q56:den Sh.str)=>(fun (q55:den Sh.str)=>(fun (q54:den Sh.str)=>(fun (q53:Nat)=>(fun (q52:Prop)=>(fun (q51:List Str)=>(fun (q50:Prop)=>(fun (q49:Str)=>(fun (q48:Str)=>(fun (q47:Command)=>(fun (q46:Int)=>(fun (q45:Int)=>(fun (q44:Int)=>(fun (q43:Int)=>(fun (q42:Int)=>(fun (q41:Int)=>(fun (q40:Int)=>(fun (q39:Prop)=>(fun (q38:Prop)=>(fun (q37:List UInt8)=>(q29/\bq s (Str.mk [(32:UInt8)])=q3/\q7=(↑s0:Int)+q7/\q38/\q38/\q38/\q38/\q38/\q38/\q38/\q38/\q38/\q14/\q0=kv q48 s0/\q38/\q38/\q38/\q38/\q38/\q38/\q38/\q38/\q14)/\s0<=q15/\∀ (s_1:Nat),(fun (q99:Prop)=>(fun (q98:Prop)=>(fun (q97:Prop)=>(fun (q96:Prop)=>(fun (q95:Prop)=>(fun (q94:Int)=>(fun (q93:Int)=>(fun (q92:Int)=>(fun (q91:Int)=>(fun (q90:Int)=>(fun (q89:Int)=>(fun (q88:Prop)=>(fun (q87:Prop)=>(fun (q86:Prop)=>(fun (q85:Prop)=>(fun (q84:Prop)=>(fun (q83:Prop)=>(fun (q82:Prop)=>(fun (q81:Prop)=>(fun (q80:Prop)=>(fun (q79:Int)=>(fun (q78:Prop)=>(fun (q77:Prop)=>(fun (q76:Prop)=>(fun (q75:Prop)=>(fun (q74:Prop)=>(fun (q73:Prop)=>(fun (q72:Int)=>(fun (q71:Prop)=>(fun (q70:Nat)=>(fun (q69:Int)=>(fun (q68:Prop)=>s_1<=q15->(q72<=cQ->q0<=q0/\q0<q46/\((aZ q72).b.length<=q6->(q3.getD q19 q2).b.length<=q6->(aZ q72=q3.getD q19 q2->I64 (q72+q7)/\∃ (s':Nat),(q29/\q61/\q72+q7=(↑s':Int)+q7/\q38/\q38/\q38/\q38/\q38/\q38/\q38/\q38/\q38/\q14/\q72=kv q48 s' /\ q81)/\s' <= q15/\q15 - s' < q15 - s_1)/\(¬aZ q72=q3.getD q19 q2->I64 (q72+q7)/\∃ (s':Nat),(q29/\q61/\q72+q7=(↑s':Int)+q7/\q38/\q38/\q38/\q38/\q38/\q38/\q38/\q38/\q38/\q14/\q69=kv q48 s' /\ q81)/\s' <= q15/\q15 - s' < q15 - s_1)))/\(cQ<q72->(q7<q46->q0<=q7/\q7<q46/\∀ (x:Str),(fun (q101:Int)=>(fun (q100:Event)=>q3[(1:Nat)]? = some x->x.b.length<=q6->I64 q101->(bf q69=true/\q82->q67/\q82/\∀ (x:Str),(fun (q102:Event)=>q3[q4]? = some x->x.b.length<=q6->I64 (aw x)->(q69=q27/\q71->q67/\q82/\q0<=q31/\q31<q46/\q0<=q32/\q32<q46/\q0<=q33/\q33<q46/\q0<=q27/\q27<q46/\q0<=q34/\q34<q46/\(q83->I64 q89->q84->I64 q90->q85->I64 q91->q86->I64 q92->q87->I64 q93->q88->I64 q94->∃ (s0:Nat),(q29/\q61/\q0=(↑(q4*s0):Int)/\q38/\q38/\q38/\q38/\q38/\q38/\q38/\q38/\q38/\q14/\q69=q22/\q101=q24/\aw x=q25/\q89=q45/\q90=q44/\q91=q43/\q92=q42/\q93=q41/\q94=q40/\q14/\dR q49 s0=[])/\(q4*s0<=q70/\q52)/\∀ (s_2:Nat),(fun (q105:Nat)=>(fun (q104:Int)=>(fun (q103:Int)=>q105<=q70/\q52->I64 q103/\q65/\q71/\∀ (x:Str),(fun (q107:Int)=>(fun (q106:Int)=>q3[q5]? = some x->x.b.length<=q6->(q103<(↑x.b.length:Int)->(q65/\q71)/\(q68->q0<=(↑q105:Int)/\(↑q105:Int)<q79)/\(q68->I64 q104->I64 q107)/\(q65/\q71)/\I64 q103/\(q68->q0<=q103/\q103<q79)/\(q68->I64 q104->q68->I64 q106->I64 (q107+q106))/\(q68->I64 q104->q68->I64 q106->((dR q49 s_2).length+[qV (q107+q106)].length)*(1:Nat)<=q6)/\(q68->I64 q104->q68->I64 q106->I64 ((↑q105:Int)+q23)/\∃ (s':Nat),(q29/\q61/\(↑q105:Int)+q23=(↑(q4*s'):Int)/\q38/\q38/\q38/\q38/\q38/\q38/\q38/\q38/\q38/\q14/\q64/\q63/\q62/\q73/\q74/\q75/\q76/\q77/\q78/\q14/\dR q49 s_2++[qV (q107+q106)]=dR q49 s')/\(q4*s' <= q70/\q52)/\q70 - q4*s' < q70 - q105))/\((↑x.b.length:Int)<=q103->∃ (s0:Nat),(q29/\q61/\cQ=(↑s0:Int)+cQ/\q38/\q38/\q38/\q38/\q38/\q38/\q38/\q38/\q38/\q14/\q64/\q63/\q62/\q73/\q74/\q75/\q76/\q77/\q78/\Str.mk (dR q49 s_2)=q57/\dR q49 s_2=q1/\List.map aw (List.take s0 q51)=[])/\(s0+q15<=q53/\q17)/\∀ (s_3:Nat),(fun (q111:List (den Sh.int))=>(fun (q110:Int)=>(fun (q109:den Sh.str)=>(fun (q108:Event)=>s_3+q15<=q53/\q17->(q110<q46->(q0<=q110/\q110<q46)/\(q109.b.length<=q6->I64 (aw q109)->(q111.length+[aw q109].length)*q5<=q6)/\(q109.b.length<=q6->I64 (aw q109)->I64 (q110+q7)/\∃ (s':Nat),(q29/\q61/\q110+q7=(↑s':Int)+cQ/\q38/\q38/\q38/\q38/\q38/\q38/\q38/\q38/\q38/\q14/\q64/\q63/\q62/\q73/\q74/\q75/\q76/\q77/\q78/\q57=q57/\q1=q1/\q111++[aw q109]=List.map aw (List.take s' q51))/\(s' + q15<=q53/\q17)/\q53 - s' < q53 - s_3))/\(q46<=q110->(ao q108).b.length<=q6->I64 (ax q108)->(¬ax q108=q0\/¬ao q108=s->q39)/\(ax q108=q0/\ao q108=s->q22=q30/\q24=q35/\q25=q36/\q95/\q44=q66/\q96/\q97/\q98/\q99/\q111=q20.chunks/\q80))) (Event.mk q22 q24 q25 (Command.mk q45 q44 q43 q42 q41 q40 q111 q57))) (q3.getD q110.toNat q2)) ((↑s_3:Int)+cQ)) (List.map aw (List.take s_3 q51)))) (cV (q37.getD q103.toNat q18))) (q28*q104)) ((↑q105:Int)+q7)) (cV (q37.getD q105 q18))) (q4*s_2)))/\(¬q69=q27\/q46<=q21->(ao q102).b.length<=q6->I64 (ax q102)->(¬ax q102=q0\/¬ao q102=s->q39)/\(ax q102=q0/\ao q102=s->q69=q30/\q101=q35/\aw x=q36/\q50))) (Event.mk q69 q101 (aw x) q47))/\(bf q69=false\/q46<=q23->(q69=q27/\q71->q67/\q82/\q0<=q31/\q31<q46/\q0<=q32/\q32<q46/\q0<=q33/\q33<q46/\q0<=q27/\q27<q46/\q0<=q34/\q34<q46/\(q83->I64 q89->q84->I64 q90->q85->I64 q91->q86->I64 q92->q87->I64 q93->q88->I64 q94->∃ (s0:Nat),(q29/\q61/\q0=(↑(q4*s0):Int)/\q38/\q38/\q38/\q38/\q38/\q38/\q38/\q38/\q38/\q14/\q69=q22/\q101=q24/\q0=q25/\q89=q45/\q90=q44/\q91=q43/\q92=q42/\q93=q41/\q94=q40/\q14/\dR q49 s0=[])/\(q4*s0<=q70/\q52)/\∀ (s_2:Nat),(fun (q114:Nat)=>(fun (q113:Int)=>(fun (q112:Int)=>q114<=q70/\q52->I64 q112/\q65/\q71/\∀ (x:Str),(fun (q116:Int)=>(fun (q115:Int)=>q3[q5]? = some x->x.b.length<=q6->(q112<(↑x.b.length:Int)->(q65/\q71)/\(q68->q0<=(↑q114:Int)/\(↑q114:Int)<q79)/\(q68->I64 q113->I64 q116)/\(q65/\q71)/\I64 q112/\(q68->q0<=q112/\q112<q79)/\(q68->I64 q113->q68->I64 q115->I64 (q116+q115))/\(q68->I64 q113->q68->I64 q115->((dR q49 s_2).length+[qV (q116+q115)].length)*(1:Nat)<=q6)/\(q68->I64 q113->q68->I64 q115->I64 ((↑q114:Int)+q23)/\∃ (s':Nat),(q29/\q61/\(↑q114:Int)+q23=(↑(q4*s'):Int)/\q38/\q38/\q38/\q38/\q38/\q38/\q38/\q38/\q38/\q14/\q64/\q63/\q62/\q73/\q74/\q75/\q76/\q77/\q78/\q14/\dR q49 s_2++[qV (q116+q115)]=dR q49 s')/\(q4*s' <= q70/\q52)/\q70 - q4*s' < q70 - q114))/\((↑x.b.length:Int)<=q112->∃ (s0:Nat),(q29/\q61/\cQ=(↑s0:Int)+cQ/\q38/\q38/\q38/\q38/\q38/\q38/\q38/\q38/\q38/\q14/\q64/\q63/\q62/\q73/\q74/\q75/\q76/\q77/\q78/\Str.mk (dR q49 s_2)=q57/\dR q49 s_2=q1/\List.map aw (List.take s0 q51)=[])/\(s0+q15<=q53/\q17)/\∀ (s_3:Nat),(fun (q120:List (den Sh.int))=>(fun (q119:Int)=>(fun (q118:den Sh.str)=>(fun (q117:Event)=>s_3+q15<=q53/\q17->(q119<q46->(q0<=q119/\q119<q46)/\(q118.b.length<=q6->I64 (aw q118)->(q120.length+[aw q118].length)*q5<=q6)/\(q118.b.length<=q6->I64 (aw q118)->I64 (q119+q7)/\∃ (s':Nat),(q29/\q61/\q119+q7=(↑s':Int)+cQ/\q38/\q38/\q38/\q38/\q38/\q38/\q38/\q38/\q38/\q14/\q64/\q63/\q62/\q73/\q74/\q75/\q76/\q77/\q78/\q57=q57/\q1=q1/\q120++[aw q118]=List.map aw (List.take s' q51))/\(s' + q15<=q53/\q17)/\q53 - s' < q53 - s_3))/\(q46<=q119->(ao q117).b.length<=q6->I64 (ax q117)->(¬ax q117=q0\/¬ao q117=s->q39)/\(ax q117=q0/\ao q117=s->q22=q30/\q24=q35/\q25=q36/\q95/\q44=q66/\q96/\q97/\q98/\q99/\q120=q20.chunks/\q80))) (Event.mk q22 q24 q25 (Command.mk q45 q44 q43 q42 q41 q40 q120 q57))) (q3.getD q119.toNat q2)) ((↑s_3:Int)+cQ)) (List.map aw (List.take s_3 q51)))) (cV (q37.getD q112.toNat q18))) (q28*q113)) ((↑q114:Int)+q7)) (cV (q37.getD q114 q18))) (q4*s_2)))/\(¬q69=q27\/q46<=q21->(ao q100).b.length<=q6->I64 (ax q100)->(¬ax q100=q0\/¬ao q100=s->q39)/\(ax q100=q0/\ao q100=s->q69=q30/\q101=q35/\q0=q36/\q50)))) (Event.mk q69 q101 q0 q47)) (aw x))/\(q46<=q7->(bf q69=true/\q82->q67/\q82/\∀ (x:Str),(fun (q121:Event)=>q3[q4]? = some x->x.b.length<=q6->I64 (aw x)->(q69=q27/\q71->q67/\q82/\q0<=q31/\q31<q46/\q0<=q32/\q32<q46/\q0<=q33/\q33<q46/\q0<=q27/\q27<q46/\q0<=q34/\q34<q46/\(q83->I64 q89->q84->I64 q90->q85->I64 q91->q86->I64 q92->q87->I64 q93->q88->I64 q94->∃ (s0:Nat),(q29/\q61/\q0=(↑(q4*s0):Int)/\q38/\q38/\q38/\q38/\q38/\q38/\q38/\q38/\q38/\q14/\q69=q22/\q0=q24/\aw x=q25/\q89=q45/\q90=q44/\q91=q43/\q92=q42/\q93=q41/\q94=q40/\q14/\dR q49 s0=[])/\(q4*s0<=q70/\q52)/\∀ (s_2:Nat),(fun (q124:Nat)=>(fun (q123:Int)=>(fun (q122:Int)=>q124<=q70/\q52->I64 q122/\q65/\q71/\∀ (x:Str),(fun (q126:Int)=>(fun (q125:Int)=>q3[q5]? = some x->x.b.length<=q6->(q122<(↑x.b.length:Int)->(q65/\q71)/\(q68->q0<=(↑q124:Int)/\(↑q124:Int)<q79)/\(q68->I64 q123->I64 q126)/\(q65/\q71)/\I64 q122/\(q68->q0<=q122/\q122<q79)/\(q68->I64 q123->q68->I64 q125->I64 (q126+q125))/\(q68->I64 q123->q68->I64 q125->((dR q49 s_2).length+[qV (q126+q125)].length)*(1:Nat)<=q6)/\(q68->I64 q123->q68->I64 q125->I64 ((↑q124:Int)+q23)/\∃ (s':Nat),(q29/\q61/\(↑q124:Int)+q23=(↑(q4*s'):Int)/\q38/\q38/\q38/\q38/\q38/\q38/\q38/\q38/\q38/\q14/\q64/\q63/\q62/\q73/\q74/\q75/\q76/\q77/\q78/\q14/\dR q49 s_2++[qV (q126+q125)]=dR q49 s')/\(q4*s' <= q70/\q52)/\q70 - q4*s' < q70 - q124))/\((↑x.b.length:Int)<=q122->∃ (s0:Nat),(q29/\q61/\cQ=(↑s0:Int)+cQ/\q38/\q38/\q38/\q38/\q38/\q38/\q38/\q38/\q38/\q14/\q64/\q63/\q62/\q73/\q74/\q75/\q76/\q77/\q78/\Str.mk (dR q49 s_2)=q57/\dR q49 s_2=q1/\List.map aw (List.take s0 q51)=[])/\(s0+q15<=q53/\q17)/\∀ (s_3:Nat),(fun (q130:List (den Sh.int))=>(fun (q129:Int)=>(fun (q128:den Sh.str)=>(fun (q127:Event)=>s_3+q15<=q53/\q17->(q129<q46->(q0<=q129/\q129<q46)/\(q128.b.length<=q6->I64 (aw q128)->(q130.length+[aw q128].length)*q5<=q6)/\(q128.b.length<=q6->I64 (aw q128)->I64 (q129+q7)/\∃ (s':Nat),(q29/\q61/\q129+q7=(↑s':Int)+cQ/\q38/\q38/\q38/\q38/\q38/\q38/\q38/\q38/\q38/\q14/\q64/\q63/\q62/\q73/\q74/\q75/\q76/\q77/\q78/\q57=q57/\q1=q1/\q130++[aw q128]=List.map aw (List.take s' q51))/\(s' + q15<=q53/\q17)/\q53 - s' < q53 - s_3))/\(q46<=q129->(ao q127).b.length<=q6->I64 (ax q127)->(¬ax q127=q0\/¬ao q127=s->q39)/\(ax q127=q0/\ao q127=s->q22=q30/\q24=q35/\q25=q36/\q95/\q44=q66/\q96/\q97/\q98/\q99/\q130=q20.chunks/\q80))) (Event.mk q22 q24 q25 (Command.mk q45 q44 q43 q42 q41 q40 q130 q57))) (q3.getD q129.toNat q2)) ((↑s_3:Int)+cQ)) (List.map aw (List.take s_3 q51)))) (cV (q37.getD q122.toNat q18))) (q28*q123)) ((↑q124:Int)+q7)) (cV (q37.getD q124 q18))) (q4*s_2)))/\(¬q69=q27\/q46<=q21->(ao q121).b.length<=q6->I64 (ax q121)->(¬ax q121=q0\/¬ao q121=s->q39)/\(ax q121=q0/\ao q121=s->q69=q30/\q0=q35/\aw x=q36/\q50))) (Event.mk q69 q0 (aw x) q47))/\(bf q69=false\/q46<=q23->(q69=q27/\q71->q67/\q82/\q0<=q31/\q31<q46/\q0<=q32/\q32<q46/\q0<=q33/\q33<q46/\q0<=q27/\q27<q46/\q0<=q34/\q34<q46/\(q83->I64 q89->q84->I64 q90->q85->I64 q91->q86->I64 q92->q87->I64 q93->q88->I64 q94->∃ (s0:Nat),(q29/\q61/\q0=(↑(q4*s0):Int)/\q38/\q38/\q38/\q38/\q38/\q38/\q38/\q38/\q38/\q14/\q69=q22/\q0=q24/\q0=q25/\q89=q45/\q90=q44/\q91=q43/\q92=q42/\q93=q41/\q94=q40/\q14/\dR q49 s0=[])/\(q4*s0<=q70/\q52)/\∀ (s_2:Nat),(fun (q133:Nat)=>(fun (q132:Int)=>(fun (q131:Int)=>q133<=q70/\q52->I64 q131/\q65/\q71/\∀ (x:Str),(fun (q135:Int)=>(fun (q134:Int)=>q3[q5]? = some x->x.b.length<=q6->(q131<(↑x.b.length:Int)->(q65/\q71)/\(q68->q0<=(↑q133:Int)/\(↑q133:Int)<q79)/\(q68->I64 q132->I64 q135)/\(q65/\q71)/\I64 q131/\(q68->q0<=q131/\q131<q79)/\(q68->I64 q132->q68->I64 q134->I64 (q135+q134))/\(q68->I64 q132->q68->I64 q134->((dR q49 s_2).length+[qV (q135+q134)].length)*(1:Nat)<=q6)/\(q68->I64 q132->q68->I64 q134->I64 ((↑q133:Int)+q23)/\∃ (s':Nat),(q29/\q61/\(↑q133:Int)+q23=(↑(q4*s'):Int)/\q38/\q38/\q38/\q38/\q38/\q38/\q38/\q38/\q38/\q14/\q64/\q63/\q62/\q73/\q74/\q75/\q76/\q77/\q78/\q14/\dR q49 s_2++[qV (q135+q134)]=dR q49 s')/\(q4*s' <= q70/\q52)/\q70 - q4*s' < q70 - q133))/\((↑x.b.length:Int)<=q131->∃ (s0:Nat),(q29/\q61/\cQ=(↑s0:Int)+cQ/\q38/\q38/\q38/\q38/\q38/\q38/\q38/\q38/\q38/\q14/\q64/\q63/\q62/\q73/\q74/\q75/\q76/\q77/\q78/\Str.mk (dR q49 s_2)=q57/\dR q49 s_2=q1/\List.map aw (List.take s0 q51)=[])/\(s0+q15<=q53/\q17)/\∀ (s_3:Nat),(fun (q139:List (den Sh.int))=>(fun (q138:Int)=>(fun (q137:den Sh.str)=>(fun (q136:Event)=>s_3+q15<=q53/\q17->(q138<q46->(q0<=q138/\q138<q46)/\(q137.b.length<=q6->I64 (aw q137)->(q139.length+[aw q137].length)*q5<=q6)/\(q137.b.length<=q6->I64 (aw q137)->I64 (q138+q7)/\∃ (s':Nat),(q29/\q61/\q138+q7=(↑s':Int)+cQ/\q38/\q38/\q38/\q38/\q38/\q38/\q38/\q38/\q38/\q14/\q64/\q63/\q62/\q73/\q74/\q75/\q76/\q77/\q78/\q57=q57/\q1=q1/\q139++[aw q137]=List.map aw (List.take s' q51))/\(s' + q15<=q53/\q17)/\q53 - s' < q53 - s_3))/\(q46<=q138->(ao q136).b.length<=q6->I64 (ax q136)->(¬ax q136=q0\/¬ao q136=s->q39)/\(ax q136=q0/\ao q136=s->q22=q30/\q24=q35/\q25=q36/\q95/\q44=q66/\q96/\q97/\q98/\q99/\q139=q20.chunks/\q80))) (Event.mk q22 q24 q25 (Command.mk q45 q44 q43 q42 q41 q40 q139 q57))) (q3.getD q138.toNat q2)) ((↑s_3:Int)+cQ)) (List.map aw (List.take s_3 q51)))) (cV (q37.getD q131.toNat q18))) (q28*q132)) ((↑q133:Int)+q7)) (cV (q37.getD q133 q18))) (q4*s_2)))/\(¬q69=q27\/q46<=q21->(ao (Event.mk q69 q0 q0 q47)).b.length<=q6->I64 (ax (Event.mk q69 q0 q0 q47))->(¬ax (Event.mk q69 q0 q0 q47)=q0\/¬ao (Event.mk q69 q0 q0 q47)=s->q39)/\(ax (Event.mk q69 q0 q0 q47)=q0/\ao (Event.mk q69 q0 q0 q47)=s->q69=q30/\q0=q35/\q0=q36/\q50)))))) (q37.length<=q6)) (kv q48 s_1)) q49.b.length) (q21<q46)) ((↑s_1:Int)+q7)) (q45=q45)) (q44=q44)) (q43=q43)) (q42=q42)) (q41=q41)) (q40=q40)) (↑q37.length:Int)) (q57=q20.text/\q0=r1)) (q38/\q38/\q38/\q38/\q38/\q38/\q38/\q38/\q14)) (q23<q46)) (q60.b.length<=q6)) (q59.b.length<=q6)) (q58.b.length<=q6)) (q56.b.length<=q6)) (q55.b.length<=q6)) (q54.b.length<=q6)) (aw q60)) (aw q59)) (aw q58)) (aw q56)) (aw q55)) (aw q54)) (q45=q20.kind)) (q43=q20.seq)) (q42=q20.set)) (q41=q20.id)) (q40=q20.n)) (q3.getD q5 q2).b) (q0=q0)) (q0=q30/\q0=q35/\q0=q36/\q0=q20.kind/\q0=q66/\q0=q20.seq/\q0=q20.set/\q0=q20.id/\q0=q20.n/\q13)) (aw (q3.getD q12 q2))) (aw (q3.getD q11 q2))) (aw (q3.getD q10 q2))) (aw (q3.getD q9 q2))) (aw (q3.getD q8 q2))) (aw (q3.getD q4 q2))) (↑q3.length:Int)) (Command.mk q0 q0 q0 q0 q0 q0 [] q26)) (q3.getD q19 q2)) (q3.getD q5 q2)) (q0=q20.kind/\q0=q66/\q0=q20.seq/\q0=q20.set/\q0=q20.id/\q0=q20.n/\q20.chunks=[]/\q26=q20.text/\q0=r1)) (List.drop q15 q3)) (q17/\q5<q53)) q3.length) (q3.getD q12 q2)) (q3.getD q11 q2)) (q3.getD q10 q2)) (Str.mk q1)) (q3.getD q9 q2)) (q3.getD q8 q2)) (q3.getD q4 q2)) (q3=q3)) (q25=q25)) (q24=q24)) (q22=q22)) (q0<=q21)) q20.client) (q0<=q23))) (0:Int)) (dR (q3.getD q5 q2) ((q3.getD q5 q2).b.length / q4))) (ay Sh.str)) (bL s)) (2:Nat)) (8:Nat)) (140737488355328:Nat)) (1:Int)) (3:Nat)) (4:Nat)) (5:Nat)) (6:Nat)) (7:Nat)) (q20.chunks=[]/\q26=q20.text/\(240:Int)=r1)) (q26=q26)) (9:Nat)) (9:Int)) (q22=q27)) (0:UInt8)) (0:Nat)) r0.c) (8:Int)) (pU s)) (2:Int)) (aR s)) (bR s)) (Str.mk [])) (6:Int)) (16:Int)) (s=s)) r0.kind) (3:Int)) (4:Int)) (5:Int)) (7:Int)) r0.a) r0.b):=by kernel_rfl
set_option maxHeartbeats 2000000 in
set_option maxRecDepth 8000 in
theorem yd (s:Str) (h0:s.b.length<=1000000):Sat Tryd.prog (ak ba) 14 [.c (.str (s))] [] ⟨[s.b.length<=1000000],[.agg (cellsOf (.nm .event) (dC s)),.c (.int ((gq s)))],none,false⟩:=by
 refine cb (yZ nY) (uH s) Tryd.func14 (by decide) (by kernel_rfl) ?_
 rw [xT]
 (repeat' (first | with_reducible apply fE | with_reducible refine fD ?_ | intro))
 all_goals try (refine ⟨0,?_⟩; (repeat' (first | with_reducible apply fE | with_reducible refine fD ?_ | intro)))
 all_goals try (have hg:(‹Nat›:Int)+1<=9:=bV; clear hg; refine ⟨‹Nat› + 1,?_⟩; (repeat' (first | with_reducible apply fE | with_reducible refine fD ?_ | intro)))
 all_goals try (have hg:9<(‹Nat›:Int)+1:=bV; clear hg; refine ⟨0,?_⟩; (repeat' (first | with_reducible apply fE | with_reducible refine fD ?_ | intro)))
 all_goals try (have hg:((2 * ‹Nat›:Nat):Int)+1<((‹Str›.b.length:Nat):Int):=bV; clear hg; refine ⟨‹Nat› + 1,?_⟩; (repeat' (first | with_reducible apply fE | with_reducible refine fD ?_ | intro)))
 all_goals try (have hg:((‹Str›.b.length:Nat):Int)<=((2 * ‹Nat›:Nat):Int)+1:=bV; clear hg; refine ⟨0,?_⟩; (repeat' (first | with_reducible apply fE | with_reducible refine fD ?_ | intro)))
 all_goals try (refine ⟨‹Nat› + 1,?_⟩; (repeat' (first | with_reducible apply fE | with_reducible refine fD ?_ | intro)))
 all_goals (first | exact lg | exact h0 | exact Bd | exact rfl | exact (ye _) | exact (DH ai) | exact (EW ai) | exact (mS ai ai) | exact (CC ai ai) | exact (Ce ai) | exact (Cf ai ai ai ai ai) | exact (BX ai ai ai) | exact EL | exact E_ | exact (xK ai ai) | exact (congrArg Str.mk (xK ai ai)) | exact (Ca h0 ai).1 | exact (Ca h0 ai).2 | exact (Fp h0 ai) | (have hg:=EO ai; omega) | exact (EG ai ai ai) | (have hg:=EO ai; exact xK ai bV) | (have hg:=EO ai; exact congrArg Str.mk (xK ai bV)) | exact (Dk _ 0).1 | exact (Dk _ _).2 | with_reducible exact (Dg h0 ai) | with_reducible exact (CJ h0) | exact EF | exact (EM ai) | (rw [(Am (by first | exact oK (mS ai ai) (by first | exact CC ai ai | exact Ce ai) (by first | exact Cf ai ai ai ai ai | exact BX ai ai ai) (Dq ai ai ai) | exact yT ai ai ai) ai ai).1]; done) | (rw [(Am (by first | exact oK (mS ai ai) (by first | exact CC ai ai | exact Ce ai) (by first | exact Cf ai ai ai ai ai | exact BX ai ai ai) (Dq ai ai ai) | exact yT ai ai ai) ai ai).2]; done) | (rw [(Db (by first | exact oK (mS ai ai) (by first | exact CC ai ai | exact Ce ai) (by first | exact Cf ai ai ai ai ai | exact BX ai ai ai) (Dq ai ai ai) | exact yT ai ai ai) ai).1]; first | done | rfl) | (rw [(Db (by first | exact oK (mS ai ai) (by first | exact CC ai ai | exact Ce ai) (by first | exact Cf ai ai ai ai ai | exact BX ai ai ai) (Dq ai ai ai) | exact yT ai ai ai) ai).2]; done))
def zK:cO:=(eI 14 (d_ (aF (kC cS) bU) bT fun (s,_) (_)=>⟨[s.b.length<=1000000],[.agg (cellsOf (.nm .event) (dC s)),.c (.int ((gq s)))],none,false⟩) vN)
theorem uk:a_ Tryd.prog (ak ba) zK:=(aL (aM (ah (aU c_) az) aA fun (s,_) (_) hp=>yd s (tA hp)) nY)
theorem Bt:∀ (u:Nat) (r:List UInt8),u<1000000000->Lib.parseUint10 0 (Lib.decDigits u++r)=Lib.parseUint10 u r:=fun u=>by
 induction u using Nat.strongRecOn with
 | _ u ih=>
  intro r hu
  by_cases h:u<10
  ·have hd:=sa h
   rw [Lib.decDigits,dif_pos h,List.singleton_append,Lib.parseUint10,if_pos (by omega),if_neg (by omega),if_neg (by omega),hd]
   congr 1; omega
  ·have hd:=sa (show u % 10<10 by omega)
   rw [Lib.decDigits,dif_neg h,List.append_assoc,ih (u / 10) (by omega) _ (by omega),List.singleton_append,Lib.parseUint10,if_pos (by omega),if_neg (by omega),if_neg (by omega),hd]
   congr 1; omega
theorem tZ (u:Nat):Lib.decDigits u≠[]:=by
 rw [Lib.decDigits]; split <;> simp
theorem vO {u:Nat} (hu:u<1000000000):Lib.atoiAll (Lib.decDigits u) = .ok (u:Int):=by
 have hp:Lib.parseMag (Lib.decDigits u) = .ok u:=by
  have:=Bt u [] hu
  rw [List.append_nil] at this
  rw [Lib.parseMag,if_neg (tZ u),this]; rfl
 cases h:Lib.decDigits u with
 | nil=>exact absurd h (tZ u)
 | cons c r=>
  have hc:=rV u c (by rw [h]; simp)
  rw [Lib.atoiAll_plain c r (by omega) (by omega),<- h,hp,Lib.signless,if_neg (by omega)]
theorem zb {n:Int}:okN n=true↔0<=n/\n<=1048576:=by simp [okN]
theorem pf {n:Int} (h:okN n=true):∃ u:Nat,n=u/\u<1000000000/\ab n=⟨Lib.decDigits u⟩:=by
 have h:=zb.1 h
 refine ⟨n.toNat,by omega,by omega,?_⟩
 rw [ab,Lib.itoa,if_neg (by omega)]
theorem dc {n:Int} (h:okN n=true):aJ (ab n)=n/\bY (ab n)=true:=by
 obtain ⟨u,rfl,hu,e⟩:=pf h
 rw [e,aJ,bY]
 have:Lib.atoiAll (Str.mk (Lib.decDigits u)).b = .ok (u:Int):=vO hu
 rw [this]; exact ⟨rfl,rfl⟩
theorem tW:∀ (k u:Nat),u<10 ^ k->0<k->(Lib.decDigits u).length<=k
 | 0,_,_,h=>absurd h (by omega)
 | k+1,u,hu,_=>by
  by_cases h:u<10
  ·rw [Lib.decDigits,dif_pos h]; simp
  ·have hk:0<k:=by
    rcases Nat.eq_zero_or_pos k with rfl | hk
    ·simp at hu; omega
    ·exact hk
   have:=tW k (u / 10) (by rw [Nat.pow_succ] at hu; omega) hk
   rw [Lib.decDigits,dif_neg h,List.length_append,List.length_singleton]; omega
theorem oI (l r:List UInt8):∀ k,k<=l.length->cZ (l++r) k=cZ l k
 | 0,_=>rfl
 | k+1,h=>by
  rw [cZ,cZ,oI l r k (by omega),List.getD_eq_getElem?_getD,List.getElem?_append_left (by omega),List.getD_eq_getElem?_getD]
theorem xd:∀ u:Nat,cZ (Lib.decDigits u) (Lib.decDigits u).length=u:=fun u=>by
 induction u using Nat.strongRecOn with
 | _ u ih=>
  by_cases h:u<10
  ·have hd:=sa h
   rw [Lib.decDigits,dif_pos h]
   show 10*0+(((UInt8.ofNat (48+u)).toNat:Nat):Int) - 48=u
   rw [hd]; omega
  ·have hd:=sa (show u % 10<10 by omega)
   rw [Lib.decDigits,dif_neg h,List.length_append,List.length_singleton,cZ,oI _ _ _ (Nat.le_refl _),ih (u / 10) (by omega),List.getD_eq_getElem?_getD,List.getElem?_append_right (Nat.le_refl _),Nat.sub_self]
   show 10*((u / 10:Nat):Int)+(((UInt8.ofNat (48+u % 10)).toNat:Nat):Int) - 48=u
   rw [hd]; omega
theorem eu {n:Int} (h:okN n=true):aw (ab n)=n:=by
 obtain ⟨u,rfl,hu,e⟩:=pf h
 rw [e,aw,Nat.min_eq_left (tW 9 u (by omega) (by omega))]; exact xd u
theorem km:∀ {l:List Int},l.all okN=true->(l.map ab).map aJ=l/\(l.map ab).all bY=true/\(l.map ab).map aw=l
 | [],_=>⟨rfl,rfl,rfl⟩
 | a :: l,h=>by
  rw [List.all_cons,Bool.and_eq_true] at h
  obtain ⟨h1,h2,h3⟩:=km h.2
  obtain ⟨h4,h5⟩:=dc h.1
  rw [List.map_cons,List.map_cons,List.all_cons,List.map_cons,h1,h2,h3,h4,h5,eu h.1]; exact ⟨rfl,rfl,rfl⟩
theorem kK:∀ {r:List (List UInt8)} {x:List UInt8},(∀ z ∈ x :: r,okW z)->aj 32 (x++Lib.joinTail [32] r)=x :: r
 | [],x,h=>by
  show aj 32 (x++[])=[x]
  rw [List.append_nil]
  exact iA fun hc=>(h x (by simp) 32 hc).1 rfl
 | y :: r,x,h=>by
  rw [tail_cons,fZ fun hc=>(h x (by simp) 32 hc).1 rfl,kK fun z hz=>h z (List.mem_cons_of_mem _ hz)]
theorem ox:∀ l:List Str,(l.map (·.b)).map Str.mk=l
 | []=>rfl
 | ⟨a⟩ :: l=>by rw [List.map_cons,List.map_cons,ox l]
theorem nu {e:Event} (h:bg e=true):bL (ao e)=aB e:=by
 have hw:=wy h
 obtain ⟨x,r,hx⟩:=ow e
 have:aj 32 (jn ((aB e).map (·.b)))=(aB e).map (·.b):=by
  rw [hx] at hw ⊢
  rw [jn,Lib.join_cons]; exact kK hw
 rw [bL,bq,ao,if_pos h]
 show (aj 32 (jn ((aB e).map (·.b)))).map Str.mk=_
 rw [this,ox]
theorem vM:∀ j:Fin 16,¬ fR (eF j)<0:=by decide
theorem zW:∀ n:Fin 256,rY (eF (n.1 / 16)) (eF (n.1 % 16))=UInt8.ofNat n.1:=by decide +kernel
theorem El:∀ n:Fin 256,qV (16*cV (eF (n.1 / 16))+cV (eF (n.1 % 16)))=UInt8.ofNat n.1:=by decide +kernel
theorem oU:∀ l:List UInt8,unwL (l.flatMap bP)=some l
 | []=>rfl
 | c :: l=>by
  have hc:=c.toNat_lt
  have h1:=vM ⟨c.toNat / 16,by omega⟩
  have h2:=vM ⟨c.toNat % 16,by omega⟩
  have h3:=zW ⟨c.toNat,hc⟩
  rw [List.flatMap_cons,bP,List.cons_append,List.cons_append,List.nil_append,unwL,if_neg (fun h=>h.elim h1 h2),oU l,h3]
  simp
theorem sw {l:List UInt8}:Str.mk (aH l)=⟨[45]⟩↔l=[]:=by
 constructor
 ·intro h
  rw [Str.mk.injEq] at h
  exact sk (h.trans (show [45]=aH [] from rfl))
 ·rintro rfl; rfl
theorem wc (l:List UInt8):aO ⟨aH l⟩=⟨l⟩/\aW ⟨aH l⟩=true:=by
 by_cases h:l=[]
 ·subst h; exact ⟨rfl,rfl⟩
 ·have hd:=fun hh=>h (sw.1 hh)
  rw [aO,aW,if_neg hd,if_neg hd,aH,if_neg h,oU]; exact ⟨rfl,rfl⟩
theorem nT:∀ (l:List UInt8) (k:Nat),k<l.length->(l.flatMap bP).getD (2*k) 0=eF ((l.getD k 0).toNat / 16)/\(l.flatMap bP).getD (2*k+1) 0=eF ((l.getD k 0).toNat % 16)
 | [],k,h=>absurd h (by simp)
 | c :: l,0,_=>⟨rfl,rfl⟩
 | c :: l,k+1,h=>by
  have:=nT l k (by simpa using h)
  rw [List.flatMap_cons,bP,show 2*(k+1)=2*k+1+1 by omega]
  exact this
theorem oE (l:List UInt8):∀ k,k<=l.length->dR ⟨l.flatMap bP⟩ k=l.take k
 | 0,_=>rfl
 | k+1,h=>by
  have h1:=nT l k (by omega)
  have h2:=El ⟨(l.getD k 0).toNat,(l.getD k 0).toNat_lt⟩
  rw [dR,oE l k (by omega),h1.1,h1.2,qS (bI (d:=(0:UInt8)) (show k<l.length by omega)),h2]
  simp
theorem DD (l:List UInt8):dR ⟨aH l⟩ ((Str.mk (aH l)).b.length / 2)=l:=by
 by_cases h:l=[]
 ·subst h; rfl
 ·rw [aH,if_neg h]
  show dR _ ((l.flatMap bP).length / 2)=l
  rw [eC,show 2*l.length / 2=l.length by omega,oE l _ (Nat.le_refl _),List.take_length]
theorem Fe:∀ k:Fin 10,1<=k.1->kv (b_.getD k.1 ⟨[]⟩) 9=(k.1:Int)/\jg (b_.getD k.1 ⟨[]⟩)=some (k.1:Int):=by decide +kernel
theorem rf {k:Int} (h1:1<=k) (h2:k<10):kv (cz k) 9=k/\jg (cz k)=some k:=by
 have:=Fe ⟨k.toNat,by omega⟩ (by simp only; omega)
 have e:((k.toNat:Nat):Int)=k:=by omega
 simp only [e] at this
 exact this
section
variable {e:Event}
theorem qh (h:bg e=true):bl (aB e)=e/\bK (aB e)=true:=by
 obtain ⟨h1,h2,h3,h4,h5,h6,h7⟩:=bB.1 h
 have hp:pk (aB e)=e.kind:=by
  show (jg (cz e.kind)).getD 0=_
  rw [(rf h1 h2).2]; rfl
 have ha:=dc h3
 cases hs:bf e.kind
 ·have hb:=h5 hs
  by_cases hk:e.kind=6
  ·obtain ⟨k1,k2,k3,k4⟩:=h6 hk
   simp only [eX,List.all_cons,List.all_nil,Bool.and_eq_true,Bool.and_true] at k3
   obtain ⟨c1,c2,c3,c4,c5,c6⟩:=k3
   obtain ⟨m1,m2,_⟩:=km k4
   have hw:=wc e.c.text.b
   have c1:=dc c1; have c2:=dc c2; have c3:=dc c3; have c4:=dc c4; have c5:=dc c5; have c6:=dc c6
   have hws:aB e=cz e.kind :: ab e.a :: ab e.c.kind :: ab e.c.client :: ab e.c.seq :: ab e.c.set :: ab e.c.id :: ab e.c.n :: ⟨aH e.c.text.b⟩ :: e.c.chunks.map ab:=by
    rw [aB,hs,if_pos hk]; rfl
   have h8:¬ (((Str.mk (aH e.c.text.b) :: e.c.chunks.map ab).length:Int)=0\/17<((Str.mk (aH e.c.text.b) :: e.c.chunks.map ab).length:Int)):=by
    rw [List.length_cons,List.length_map]; omega
   have hs2:¬ bf (pk (aB e))=true:=by rw [hp,hs]; decide
   have hk2:¬ ¬ pk (aB e)=6:=fun hn=>hn (by rw [hp,hk])
   rw [bl,if_neg hs2,if_neg hk2,bK,if_neg hs2,if_neg hk2,hp,hws]
   simp only [List.drop_succ_cons,List.drop_zero,List.getD_cons_zero,tk,cr,jT,px]
   rw [if_neg h8,if_neg h8,ha.1,ha.2,c1.1,c1.2,c2.1,c2.2,c3.1,c3.2,c4.1,c4.2,c5.1,c5.2,c6.1,c6.2,m1,m2,hw.1,hw.2,<- hb]
   exact ⟨rfl,rfl⟩
  ·have hc:=empty_eq (h7 hk) (show cf cK=true by decide)
   have hws:aB e=[cz e.kind,ab e.a]:=by rw [aB,hs,if_neg hk]; rfl
   have hs2:¬ bf (pk (aB e))=true:=by rw [hp,hs]; decide
   have hk2:¬ pk (aB e)=6:=by rw [hp]; exact hk
   rw [bl,if_neg hs2,if_pos hk2,bK,if_neg hs2,if_pos hk2,hp,hws]
   simp only [List.drop_succ_cons,List.drop_zero,tk,cr]
   rw [ha.1,ha.2,<- hc,<- hb]
   exact ⟨rfl,rfl⟩
 ·have hk:¬ e.kind=6:=by intro hk; rw [hk] at hs; exact absurd hs (by decide)
  have hb:=dc (h4 hs)
  have hc:=empty_eq (h7 hk) (show cf cK=true by decide)
  have hws:aB e=[cz e.kind,ab e.a,ab e.b]:=by rw [aB,hs,if_neg hk]; rfl
  have hs2:bf (pk (aB e))=true:=by rw [hp,hs]
  rw [bl,if_pos hs2,bK,if_pos hs2,hp,hws]
  simp only [List.drop_succ_cons,List.drop_zero,tk,cr]
  rw [ha.1,ha.2,hb.1,hb.2,<- hc]
  exact ⟨rfl,rfl⟩
theorem uu (h:bg e=true) {s:Str} (hW:bL s=aB e):tB s=e:=by
 obtain ⟨h1,h2,h3,h4,h5,h6,h7⟩:=bB.1 h
 have hp:pU s=e.kind:=by
  rw [pU,gw,hW]
  exact (rf h1 h2).1
 have ha:=eu h3
 cases hs:bf e.kind
 ·have hb:=h5 hs
  by_cases hk:e.kind=6
  ·obtain ⟨k1,k2,k3,k4⟩:=h6 hk
   simp only [eX,List.all_cons,List.all_nil,Bool.and_eq_true,Bool.and_true] at k3
   obtain ⟨c1,c2,c3,c4,c5,c6⟩:=k3
   obtain ⟨_,_,m1⟩:=km k4
   have hws:aB e=cz e.kind :: ab e.a :: ab e.c.kind :: ab e.c.client :: ab e.c.seq :: ab e.c.set :: ab e.c.id :: ab e.c.n :: ⟨aH e.c.text.b⟩ :: e.c.chunks.map ab:=by
    rw [aB,hs,if_pos hk]; rfl
   have hl:8<(bL s).length:=by rw [hW,hws]; simp only [List.length_cons]; omega
   have e1:aR s=e.a:=by rw [aR,if_pos (by omega),gw,hW,hws]; exact ha
   have e2:bR s=e.b:=by rw [bR,if_neg (by rw [hp,hs]; simp),hb]
   have e3:cR s=e.c:=by
    rw [cR,if_pos ⟨by rw [hp,hk],hl⟩]
    simp only [gw,hW,hws,List.getD_cons_succ,List.getD_cons_zero,List.drop_succ_cons,List.drop_zero]
    rw [eu c1,eu c2,eu c3,eu c4,eu c5,eu c6,m1,DD]
   rw [tB,hp,e1,e2,e3]
  ·have hc:=empty_eq (h7 hk) (show cf cK=true by decide)
   have hws:aB e=[cz e.kind,ab e.a]:=by rw [aB,hs,if_neg hk]; rfl
   have hl:1<(bL s).length:=by rw [hW,hws]; simp
   have e1:aR s=e.a:=by rw [aR,if_pos hl,gw,hW,hws]; exact ha
   have e2:bR s=e.b:=by rw [bR,if_neg (by rw [hp,hs]; simp),hb]
   have e3:cR s=e.c:=by rw [cR,if_neg (by rw [hp]; exact fun h=>hk h.1),hc]
   rw [tB,hp,e1,e2,e3]
 ·have hk:¬ e.kind=6:=by intro hk; rw [hk] at hs; exact absurd hs (by decide)
  have hb:=eu (h4 hs)
  have hc:=empty_eq (h7 hk) (show cf cK=true by decide)
  have hws:aB e=[cz e.kind,ab e.a,ab e.b]:=by rw [aB,hs,if_neg hk]; rfl
  have hl:2<(bL s).length:=by rw [hW,hws]; simp
  have e1:aR s=e.a:=by rw [aR,if_pos (by omega),gw,hW,hws]; exact ha
  have e2:bR s=e.b:=by rw [bR,if_pos ⟨by rw [hp,hs],hl⟩,gw,hW,hws]; exact hb
  have e3:cR s=e.c:=by rw [cR,if_neg (by rw [hp]; exact fun h=>hk h.1),hc]
  rw [tB,hp,e1,e2,e3]
theorem fy:ax e=0↔bg e=true:=by
 rw [ax]; split <;> simp_all
theorem sr (h:bg e=true):bD (ao e)=e/\ct (ao e)=0:=by
 have hp:=qh h
 have hk:xt (ao e)=true:=by
  rw [xt,nu h,hp.1,hp.2,decide_eq_true (fy.2 h),decide_eq_true rfl]; rfl
 rw [bD,ct,if_pos hk,if_pos hk,nu h,hp.1]; exact ⟨rfl,rfl⟩
theorem yc (h:bg e=true):dC (ao e)=e/\gq (ao e)=0:=by
 have hp:=uu h (nu h)
 exact Am hp.symm (fy.2 h) rfl
theorem uf {s:Str} (h:ct s=0):bg (bD s)=true/\ao (bD s)=s:=by
 unfold ct at h; unfold bD
 split at h
 ·rename_i hk
  rw [if_pos hk]
  rw [xt,Bool.and_eq_true,Bool.and_eq_true,decide_eq_true_eq,decide_eq_true_eq] at hk
  exact ⟨fy.1 hk.1.2,hk.2⟩
 ·cases h
theorem tO (s:Str):ct s=0\/(ct s=240/\bD s=fW):=by
 unfold ct bD; split <;> simp
theorem rS (s:Str):bD s=dC s/\ct s=gq s:=by
 rcases tO s with h | ⟨h1,h2⟩
 ·obtain ⟨k1,k2⟩:=uf h
  have:=yc k1
  rw [k2] at this
  rw [h,this.1,this.2]; exact ⟨rfl,rfl⟩
 ·have hn:¬ zx s=true:=by
   intro hk
   have hk2:=hk
   rw [zx,Bool.and_eq_true,decide_eq_true_eq,decide_eq_true_eq] at hk2
   have:=sr (fy.1 hk2.1)
   rw [hk2.2,h1] at this
   cases this.2
  rw [h1,h2,dC,gq,if_neg hn,if_neg hn]; exact ⟨rfl,rfl⟩
end
def zy:cO:=zK
theorem uB:a_ Tryd.prog (ak ba) zy:=uk
theorem wL {s:Str}:(s.b.take 300).length<=1000000/\(s.b.take 300).length<4294967281:=by
 rw [List.length_take]; omega
theorem DG {e:Event} {s:Str}:(true && decide (ao e=ao e) && decide (ax e=ax e) && decide (bD s=dC s) && decide (ct s=gq s))=true:=by
 rw [(rS s).1,(rS s).2]; simp
theorem yL (e:Event) (s:Str) (r0:Bool):jq ba zy [] Tryd.f4 [.agg (cellsOf (.nm .event) e),.c (.str (s))] [] [.c (.bool (.atom (r0)))]=((fun (q6:Nat)=>(fun (q5:Nat)=>(fun (q4:Event)=>(fun (q3:Event)=>(fun (q2:Nat)=>(fun (q1:Event)=>(fun (q0:Str)=>I64 e.kind->I64 e.a->I64 e.b->I64 e.c.kind->I64 e.c.client->I64 e.c.seq->I64 e.c.set->I64 e.c.id->I64 e.c.n->e.c.chunks.length*q6<=q2->e.c.text.b.length<=q2->q5<=q2->I64 q1.kind->I64 q1.a->I64 q1.b->I64 q1.c.kind->I64 q1.c.client->I64 q1.c.seq->I64 q1.c.set->I64 q1.c.id->I64 q1.c.n->q1.c.chunks.length*q6<=q2->q1.c.text.b.length<=q2->((300:Int)<(↑q5:Int)->(0:Int)<=(300:Int)/\(300:Int)<=(↑q5:Int)/\((ao q1).b.length<=q2->I64 (ax q1)->(ao q1).b.length<=q2->I64 (ax q1)->(List.take (300:Nat) s.b).length<(4294967281:Nat)/\(I64 (bD q0).kind->I64 (bD q0).a->I64 (bD q0).b->I64 (bD q0).c.kind->I64 (bD q0).c.client->I64 (bD q0).c.seq->I64 (bD q0).c.set->I64 (bD q0).c.id->I64 (bD q0).c.n->(bD q0).c.chunks.length*q6<=q2->(bD q0).c.text.b.length<=q2->I64 (ct q0)->(List.take (300:Nat) s.b).length<=(1000000:Nat)/\(I64 (dC q0).kind->I64 (dC q0).a->I64 (dC q0).b->I64 (dC q0).c.kind->I64 (dC q0).c.client->I64 (dC q0).c.seq->I64 (dC q0).c.set->I64 (dC q0).c.id->I64 (dC q0).c.n->(dC q0).c.chunks.length*q6<=q2->(dC q0).c.text.b.length<=q2->I64 (gq q0)->(true && decide (ao q1=ao q1) && decide (ax q1=ax q1) && decide (bD q0=dC q0) && decide (ct q0=gq q0))=r0))))/\((↑q5:Int)<=(300:Int)->(ao q1).b.length<=q2->I64 (ax q1)->(ao q1).b.length<=q2->I64 (ax q1)->q5<(4294967281:Nat)/\(I64 q3.kind->I64 q3.a->I64 q3.b->I64 q3.c.kind->I64 q3.c.client->I64 q3.c.seq->I64 q3.c.set->I64 q3.c.id->I64 q3.c.n->q3.c.chunks.length*q6<=q2->q3.c.text.b.length<=q2->I64 (ct s)->q5<=(1000000:Nat)/\(I64 q4.kind->I64 q4.a->I64 q4.b->I64 q4.c.kind->I64 q4.c.client->I64 q4.c.seq->I64 q4.c.set->I64 q4.c.id->I64 q4.c.n->q4.c.chunks.length*q6<=q2->q4.c.text.b.length<=q2->I64 (gq s)->(true && decide (ao q1=ao q1) && decide (ax q1=ax q1) && decide (q3=q4) && decide (ct s=gq s))=r0)))) (Str.mk (List.take (300:Nat) s.b))) (p_ e)) (140737488355328:Nat)) (bD s)) (dC s)) s.b.length) (8:Nat)):=by kernel_rfl
theorem xo (e:Event) (s:Str):Sat Tryd.prog (ak ba) 4 [.agg (cellsOf (.nm .event) e),.c (.str (s))] [] ⟨[],[.c (.bool (.atom ((true))))],none,false⟩:=by
 refine cb uB [] Tryd.func4 (by decide) (by kernel_rfl) ?_
 rw [yL]
 (repeat' (first | with_reducible apply fE | with_reducible refine fD ?_ | intro))
 all_goals (first | exact lg | exact wL.1 | exact wL.2 | exact DG)
end Go.Proofs.YtagpmhlokhoanaaDoor
namespace Go.Proofs.YtagpmhlokhoanaaDoor
open Go.RowKit Go.ChangeShapes Go.WideShapes
def hP (shp:TypeId->Option Sh) (w:World):Cx:=cx ⟨shp,w.heap.size,fun _=>False⟩ [] w
theorem Ae {shp:TypeId->Option Sh} {w:World} {s:Sh} {b:Nat} (h:b<w.heap.size):(hP shp w).at s b:=⟨⟨h,fun ⟨_,_,h,_⟩=>by simp at h,fun h=>h⟩,.inl h⟩
def Tr (P:Program) (shp:TypeId->Option Sh) (t:TypeId) (s:Sh):Prop:=
 ∀ (H:Type) (enc:TypeId × Value->H) (w:World) (fuel:Nat) (cs:List Value) (x:DataW H × List MemPlace),
  DataW.trod enc P w 0 (fun _=>true) true fuel t cs=some x->(∀ n ∈ x.1.weights P t,n<=140737488351232)->(∀ q ∈ x.2,q.block<w.heap.size)->∃ y:den s,Pds (hP shp w) (cellsOf s y) cs
def AP:List Sh->List AV->Prop
 | [],asx=>asx=[]
 | s :: r,asx=>∃ (y:den s) (l:List AV),asx=cellsOf s y++l/\AP r l
def CR:List Sh->Nat
 | []=>0
 | s :: r=>s.size+CR r
def mg (P:Program) (shp:TypeId->Option Sh) (fs:List Go.Field) (o:Nat) (ss:List Sh):Prop:=
 ∀ (H:Type) (enc:TypeId × Value->H) (w:World) (fuel:Nat) (cs:List Value) (xs:List (DataW H × List MemPlace)),
  cs.length=o+CR ss->xs.length=fs.length->(∀ (i:Nat) (f:Go.Field),fs[i]? = some f->DataW.trod enc P w 0 (fun _=>true) true fuel f.type ((cs.drop f.offset).take (P.cellsOf f.type))=xs[i]?) ->
  (∀ n ∈ DataW.weightsEach P (fs.map (·.type)) (xs.map (·.1)),n<=140737488351232)->(∀ q ∈ xs.flatMap (·.2),q.block<w.heap.size)->∃ asx,AP ss asx/\Pds (hP shp w) asx (cs.drop o)
section
variable {P:Program} {shp:TypeId->Option Sh} {t:TypeId}
theorem Tr.int (h:P.underlying t=some (.int .i64)):Tr P shp t .int:=fun _ enc w fuel cs x hx _ _=>by
 obtain ⟨n,rfl,_,hw⟩:=DataW.trod_int h hx
 have h1:IntKind.i64.min = -9223372036854775808:=rfl
 have h2:IntKind.i64.max=9223372036854775807:=rfl
 simp only [Lit.wf,Bool.and_eq_true,decide_eq_true_eq] at hw
 exact ⟨n,.cons (.int ⟨by omega,by omega⟩) .nil⟩
theorem Tr.bool (h:P.underlying t=some .bool):Tr P shp t .bool:=fun _ enc w fuel cs x hx _ _=>by
 obtain ⟨n,rfl,_⟩:=DataW.trod_bool h hx
 exact ⟨n,.cons (Pd.bool (e:=.atom n)) .nil⟩
theorem Tr.u8 (h:P.underlying t=some (.int .u8)):Tr P shp t .u8:=fun _ enc w fuel cs x hx _ _=>by
 obtain ⟨n,rfl,_,hw⟩:=DataW.trod_int h hx
 have h1:IntKind.u8.min=0:=rfl
 have h2:IntKind.u8.max=255:=rfl
 simp only [Lit.wf,Bool.and_eq_true,decide_eq_true_eq] at hw
 refine ⟨UInt8.ofNat n.toNat,?_⟩
 have:n=((UInt8.ofNat n.toNat).toNat:Int):=by
  rw [UInt8.toNat_ofNat']; omega
 generalize hg:UInt8.ofNat n.toNat=b at this
 subst this
 exact .cons .u8 .nil
theorem Tr.u64 (h:P.underlying t=some (.int .u64)):Tr P shp t .u64:=fun _ enc w fuel cs x hx _ _=>by
 obtain ⟨n,rfl,_,hw⟩:=DataW.trod_int h hx
 have h1:IntKind.u64.min=0:=rfl
 have h2:IntKind.u64.max=18446744073709551615:=rfl
 simp only [Lit.wf,Bool.and_eq_true,decide_eq_true_eq] at hw
 refine ⟨⟨n.toNat⟩,?_⟩
 have:n=(n.toNat:Int):=by omega
 generalize hg:n.toNat=b at this
 subst this
 exact .cons (.u64 (by show b<_; omega)) .nil
theorem Tr.str (h:P.underlying t=some .string):Tr P shp t .str:=fun _ enc w fuel cs x hx hw _=>by
 obtain ⟨s,rfl,hx,_⟩:=DataW.trod_string h hx
 refine ⟨⟨s.data.toList⟩,?_⟩
 have:=hw s.data.toList.length (by rw [hx]; simp [DataW.weights])
 have e:=Pd.str (c:=hP shp w) (s:=⟨s.data.toList⟩) (by show s.data.toList.length<=_; omega)
 have e2:(⟨s.data.toList⟩:Str).val = .string s:=by simp [Str.val]
 rw [e2] at e
 exact .cons e .nil
theorem ff {H:Type} {e:TypeId}:∀ {ds:List (DataW H)} {d:DataW H},d ∈ ds->∀ n ∈ d.weights P e,n ∈ DataW.weightsAll P e ds
 | [],_,h,_,_=>by cases h
 | d0 :: ds,d,h,n,hn=>by
  rw [DataW.weightsAll,List.mem_append]
  rcases List.mem_cons.1 h with rfl | h
  ·exact .inl hn
  ·exact .inr (ff h n hn)
theorem sf {s:Sh} {xs:List (den s)} {y:den s}:(xs++[y]).flatMap (cellsOf s)=xs.flatMap (cellsOf s)++cellsOf s y:=by simp
theorem Tr.list {e:TypeId} {s:Sh} (ht:P.underlying t=some (.slice e)) (hC:P.cellsOf e=s.size) (hB:P.bytesOf e=s.bytes) (he:Tr P shp e s):Tr P shp t (.lst s):=fun H enc w fuel cs x hx hw hlt=>by
 have hp:=size_pos s
 rcases DataW.trod_slice ht hx with ⟨rfl,_⟩ | ⟨a,len,cap,elems,rest,n,rfl,rfl,rfl,_,hl,hc,hel,hget,hrest,_⟩
 ·exact ⟨([]:List (den s)),.cons (Pd.nv (.em (a:=none) (b:=true) rfl)) .nil⟩
 ·rw [hC] at *
  have step:∀ m,m<=len->∃ (cells:List Value) (xs:List (den s)),Pds (hP shp w) (xs.flatMap (cellsOf s)) cells/\xs.length=m/\CellsAt w a cells:=by
   intro m
   induction m with
   | zero=>intro _; exact ⟨[],[],.nil,rfl,CellsAt.nil⟩
   | succ m ih=>
    intro hm
    obtain ⟨cells,xs,h1,h2,h3⟩:=ih (by omega)
    have hg:=hget m (by omega)
    have hem:elems[m]? = some (elems[m]'(by omega)):=List.getElem?_eq_getElem (by omega)
    rw [hem,Option.bind_eq_some_iff] at hg
    obtain ⟨cs,hcs,htr⟩:=hg
    have hmem:elems[m]'(by omega) ∈ elems:=List.getElem_mem _
    obtain ⟨y,hy⟩:=he H enc w n cs _ htr
     (fun k hk=>hw k (by
      simp only [DataW.weights,ht,List.mem_cons,List.mem_append]
      exact .inr (.inl (ff (List.mem_map_of_mem hmem) k hk))))
     (fun q hq=>hlt q (by
      simp only [List.mem_append,List.mem_flatMap]
      exact .inr ⟨_,.inl hmem,hq⟩))
    obtain ⟨_,hcl,hat⟩:=World.cells?_some hcs
    refine ⟨cells++cs,xs++[y],by rw [sf]; exact h1.append hy,by simp [h2],fun j v hv=>?_⟩
    have hfl:cells.length=m*s.size:=by rw [<- h1.length,bj,h2]
    by_cases hj:j<m*s.size
    ·rw [List.getElem?_append_left (by omega)] at hv
     exact h3 j v hv
    ·rw [List.getElem?_append_right (by omega),hfl] at hv
     have hj2:=Ai hv
     have:=hat (j - m*s.size) (by omega)
     rw [hv,add_add,show m*s.size+(j - m*s.size)=j by omega] at this
     exact this
  obtain ⟨cells,xs,h1,h2,h3⟩:=step len (Nat.le_refl _)
  have hwt:(elems.length+rest.length)*P.bytesOf e<=140737488351232:=hw _ (by simp [DataW.weights,ht])
  refine ⟨xs,.cons ?_ .nil⟩
  subst h2
  refine .fz (by omega) hc ?_ h1 ?_
  ·rw [hB] at hwt
   have:xs.length*s.bytes<=(elems.length+rest.length)*s.bytes:=Nat.mul_le_mul_right _ (by omega)
   omega
  ·by_cases h0:xs.length=0
   ·left; exact List.eq_nil_of_length_eq_zero h0
   ·right
    refine ⟨a,rfl,Ae ?_,h3⟩
    have:MemPlace.cell a.block (a.off+0) ∈ MemPlace.row a ((elems.length+rest.length)*s.size):=MemPlace.mem_row.2 ⟨0,Nat.mul_pos (by omega) hp,rfl⟩
    exact hlt _ (List.mem_append_left _ this)
theorem mg.nil {o:Nat}:mg P shp [] o []:=fun H enc w fuel cs xs hl _ _ _ _=>⟨[],rfl,by rw [List.drop_eq_nil_of_le (by simp only [CR] at hl; omega)]; exact .nil⟩
theorem mg.cons {f:Go.Field} {fs:List Go.Field} {o:Nat} {s:Sh} {ss:List Sh} (h:Tr P shp f.type s) (ho:f.offset=o) (hC:P.cellsOf f.type=s.size) (hr:mg P shp fs (o+s.size) ss):mg P shp (f :: fs) o (s :: ss):=fun H enc w fuel cs xs hl hx hf hw hlt=>by
 match xs,hx with
 | x :: xs,hx=>
  have hl':cs.length=o+(s.size+CR ss):=hl
  have h1:=hf 0 f rfl
  rw [ho,hC] at h1
  obtain ⟨y,hy⟩:=h H enc w fuel _ x h1 (fun n hn=>hw n (by simp [DataW.weightsEach,hn])) (fun q hq=>hlt q (by simp [hq]))
  obtain ⟨z,hz1,hz2⟩:=hr H enc w fuel cs xs (by omega) (by simpa using hx) (fun i f' hi=>by simpa using hf (i+1) f' (by simpa using hi)) (fun n hn=>hw n (by simp only [List.map_cons,DataW.weightsEach,List.mem_append]; exact .inr hn)) (fun q hq=>hlt q (by simp only [List.flatMap_cons,List.mem_append]; exact .inr hq))
  refine ⟨cellsOf s y++z,⟨y,z,rfl,hz1⟩,?_⟩
  have:=hy.append hz2
  rwa [<- List.drop_drop,List.take_append_drop] at this
theorem Tr.struct {s:Sh} {ss:List Sh} {fs:Array Go.Field} (ht:P.underlying t=some (.struct fs)) (hC:P.cellsOf t=CR ss) (hs:∀ asx,AP ss asx->∃ y:den s,asx=cellsOf s y) (h:mg P shp fs.toList 0 ss):Tr P shp t s:=fun H enc w fuel cs x hx hw hlt=>by
 obtain ⟨xs,n,_,rfl,hl,hxl,hf⟩:=DataW.trod_struct ht hx
 obtain ⟨asx,h1,h2⟩:=h H enc w n cs xs (by omega) (by simpa using hxl) (fun i f hi=>hf i f (by simpa using hi)) (fun k hk=>hw k (by simpa [DataW.weights,ht] using hk)) hlt
 obtain ⟨y,rfl⟩:=hs asx h1
 exact ⟨y,by simpa using h2⟩
end
section
variable {H:Type} {enc:TypeId × Value->H} {P:Program} {shp:TypeId->Option Sh}
structure Ar (enc:TypeId × Value->H) (P:Program) (W:World) (t:TypeId) (v:Value):Prop where
 form:∃ base,Value.okWide P W .any base t v
 read:∃ d p fuel,DataW.trod enc P W 0 (fun _=>true) true fuel t v.cells.toList=some (d,p)/\(∀ n ∈ d.weights P t,n<=140737488351232)/\(∀ q ∈ p,q.block<W.heap.size)
variable {W:World} {t:TypeId} {v:Value}
theorem Ar.rp {s:Sh} (h:Ar enc P W t v) (ht:Tr P shp t s):∃ y:den s,Pds (hP shp W) (cellsOf s y) v.cells.toList:=by
 obtain ⟨d,p,fuel,h1,h2,h3⟩:=h.read
 exact ht H enc W fuel _ _ h1 h2 h3
theorem qn {a:AV} {u:Value} (h:Pds (hP shp W) [a] [u]):bw (hP shp W) [] (.c a) u:=by cases h with | cons h1 _=>exact fk h1
theorem Ar.int (h:Ar enc P W t v) (ht:P.underlying t=some (.int .i64)):∃ y:Int,bw (hP shp W) [] (.c (.int y)) v:=by
 obtain ⟨base,hf⟩:=h.form
 obtain ⟨n,rfl⟩:=okWide_int ht hf
 obtain ⟨y,h1⟩:=h.rp (shp:=shp) (Tr.int ht)
 exact ⟨y,qn (by simpa [Value.cells,cellsOf] using h1)⟩
theorem Ar.u8 (h:Ar enc P W t v) (ht:P.underlying t=some (.int .u8)):∃ y:UInt8,bw (hP shp W) [] (.c (.u8 y)) v:=by
 obtain ⟨base,hf⟩:=h.form
 obtain ⟨n,rfl⟩:=okWide_int ht hf
 obtain ⟨y,h1⟩:=h.rp (shp:=shp) (Tr.u8 ht)
 exact ⟨y,qn (by simpa [Value.cells,cellsOf] using h1)⟩
theorem Ar.bool (h:Ar enc P W t v) (ht:P.underlying t=some .bool):∃ y:Bool,bw (hP shp W) [] (.c (.bool (.atom y))) v:=by
 obtain ⟨base,hf⟩:=h.form
 obtain ⟨b,rfl⟩:=okWide_bool ht hf
 exact ⟨b,Pd.bool (e:=.atom b)⟩
theorem Ar.struct {s:Sh} {fs:Array Go.Field} (h:Ar enc P W t v) (hu:P.underlying t=some (.struct fs)) (ht:Tr P shp t s):∃ x:den s,bw (hP shp W) [] (.agg (cellsOf s x)) v:=by
 obtain ⟨base,hf⟩:=h.form
 obtain ⟨cs,rfl,_⟩:=okWide_struct hu hf
 obtain ⟨y,h1⟩:=h.rp ht
 exact ⟨y,cs.toList,by simp,dH (by simpa [Value.cells] using h1)⟩
theorem yS {f:Nat} {args:List TV1} {pre:List Prop} {e:BE} {vs:List Value} (h:Sat P shp f args [] ⟨pre,[.c (.bool e)],none,false⟩) (he:e.val=true) (hv:All2 (bw (hP shp W) []) args vs) (htb:TabsOK (hP shp W):=by refine ⟨?_,?_⟩ <;> intro e he <;> first | simp [pW] at he | simp [sY] at he):lK P f vs.toArray W fun r W'=>r = .bool true/\Kp [] W W':=by
 refine (h.2 ⟨shp,W.heap.size,fun _=>False⟩ [] W vs rfl ⟨.nil,fun _ _ _ _ _ h=>by simp at h,fun _ _ _ h=>by simp at h,fun _ h=>h.elim,Nat.le_refl _,htb⟩ hv).mono fun v w' ⟨us,h1,h2,h3⟩=>⟨?_,h2⟩
 cases h3 with | cons h4 h5=>
 cases h5
 have h4:Pd _ (.bool e) _:=h4
 cases h4
 rw [h1,he]; rfl
theorem rK {base:Nat} {ts:List TypeId} {args:Array Value} {ds:List (DataW H)} {p:List MemPlace} (hf:∀ (j:Nat) t v,ts[j]? = some t->args[j]? = some v->Value.okWide P W .any base t v)
  (h:DataW.TrodAll enc P W 0 (fun _=>true) true ts args.toList ds p) (hw:∀ n ∈ DataW.weightsEach P ts ds,n<=140737488351232) (hlt:∀ q ∈ p,q.block<W.heap.size) :
  args.size=ts.length/\∀ (j:Nat) t v,ts[j]? = some t->args[j]? = some v->Ar enc P W t v:=by
 have key:∀ (ts:List TypeId) (vs:List Value) (ds:List (DataW H)) (p:List MemPlace),DataW.TrodAll enc P W 0 (fun _=>true) true ts vs ds p->(∀ n ∈ DataW.weightsEach P ts ds,n<=140737488351232)->(∀ q ∈ p,q.block<W.heap.size) ->
   vs.length=ts.length/\∀ (j:Nat) t v,ts[j]? = some t->vs[j]? = some v->∃ d p fuel,DataW.trod enc P W 0 (fun _=>true) true fuel t v.cells.toList=some (d,p)/\(∀ n ∈ d.weights P t,n<=140737488351232)/\(∀ q ∈ p,q.block<W.heap.size):=by
  intro ts
  induction ts with
  | nil=>intro vs ds p h _ _; obtain ⟨rfl,_,_⟩:=trodAll_nil h; exact ⟨rfl,fun j t v h=>by simp at h⟩
  | cons t ts ih=>
   intro vs ds p h hw hlt
   obtain ⟨v,vs,d,ds,p1,p2,rfl,rfl,rfl,h1,h2⟩:=trodAll_cons h
   obtain ⟨k1,k2⟩:=ih vs ds p2 h2 (fun n hn=>hw n (by rw [DataW.weightsEach,List.mem_append]; exact .inr hn)) (fun q hq=>hlt q (List.mem_append_right _ hq))
   refine ⟨by simp [k1],fun j t' v' ht hv=>?_⟩
   cases j with
   | zero=>
    simp at ht hv
    subst ht; subst hv
    obtain ⟨fuel,hf⟩:=h1
    exact ⟨d,p1,fuel,hf,fun n hn=>hw n (by rw [DataW.weightsEach,List.mem_append]; exact .inl hn),fun q hq=>hlt q (List.mem_append_left _ hq)⟩
   | succ j=>exact k2 j t' v' (by simpa using ht) (by simpa using hv)
 obtain ⟨k1,k2⟩:=key ts args.toList ds p h hw hlt
 exact ⟨by simpa using k1,fun j t v ht hv=>⟨⟨base,hf j t v ht hv⟩,k2 j t v ht (by simpa using hv)⟩⟩
theorem se (hl:laidOutB P=true) {W':World} (hb:Below W.heap.size W W'):∀ (ts:List TypeId) (vs:List Value) (ds:List (DataW H)) (p:List MemPlace),ts.all (fun t=>P.readableRec t && decide (t<P.types.size))=true->DataW.TrodAll enc P W 0 (fun _=>true) true ts vs ds p->(∀ q ∈ p,q.block<W.heap.size) ->
  DataW.TrodAll enc P W' 0 (fun b=>decide (b<W.heap.size)) true ts vs ds p:=by
 intro ts
 induction ts with
 | nil=>intro vs ds p _ h _; obtain ⟨rfl,rfl,rfl⟩:=trodAll_nil h; rfl
 | cons t ts ih=>
  intro vs ds p hr h hlt
  obtain ⟨v,vs,d,ds,p1,p2,rfl,rfl,rfl,h1,h2⟩:=trodAll_cons h
  rw [List.all_cons,Bool.and_eq_true,Bool.and_eq_true,decide_eq_true_eq] at hr
  exact ⟨p1,p2,Below.trod hl hr.1.1 hr.1.2 h1 hb fun q hq=>hlt q (List.mem_append_left _ hq),ih vs ds p2 hr.2 h2 fun q hq=>hlt q (List.mem_append_right _ hq),rfl⟩
theorem ou {fn:Func} {s:ChangeSpec} {tb:TypeId} {W':World} {args:Array Value} {ds:List (DataW H)} {p:List MemPlace} (hl:laidOutB P=true)
  (hrow:fn.params.toList.all (fun t=>P.readableRec t && decide (t<P.types.size))=true) (hr:fn.resultTypes = #[tb]) (hb:P.underlying tb=some .bool) (hv:s.vars=[])
  (hs:s.fn H (ds++[])={ results:=[.lit (.bool true)],args:=ds }) (hW:DataW.Whole enc P fn.params.toList s.vars false W args.toList ds [] p) (hA:DataW.TrodAll enc P W 0 (fun _=>true) true fn.params.toList args.toList ds p) (hlt:∀ q ∈ p,q.block<W.heap.size) (hk:Kp [] W W') :
  s.post enc P fn false true false false W args (.bool true) W':=by
 refine ⟨ds,[],p,[],p,[],hW,?_,?_,?_,hk.below.frame _,fun h=>by cases h⟩
 ·rw [hs,hr]
  exact trodAll_mk1 ⟨1,by simp [DataW.trod,Value.cells,hb]⟩
 ·rw [hs]
  exact se hl hk.below _ _ _ _ hrow hA hlt
 ·rw [hs,hv]; rfl
end
end Go.Proofs.YtagpmhlokhoanaaDoor
namespace Go.Proofs.YtagpmhlokhoanaaDoor
open Go.RowKit Go.ChangeShapes Go.WideShapes
theorem nF {H:Type} {enc:TypeId × Value->H} {P:Program} {w:World} {base:Nat} {sp:Nat->Bool} {held:Bool} {fuel:Nat} {t e:TypeId} {n:Nat} {cs:List Value} {ls:List (List UInt8)} {p:List MemPlace}
  (ht:P.underlying t=some (.array n e)) (he:P.underlying e=some .string) (hce:P.cellsOf e=1) (hct:P.cellsOf t=n)
  (h:DataW.trod enc P w base sp held fuel t cs=some (.agg (ls.map fun b=>.lit (.string b)),p)):cs=ls.map fun b=>Value.string ⟨b.toArray⟩:=by
 obtain ⟨xs,m,rfl,hx,hl,hn,hel⟩:=DataW.trod_array ht h
 simp only [Prod.mk.injEq,DataW.agg.injEq] at hx
 have hxs:=hx.1
 have hzl:ls.length=n:=by
  have:=congrArg List.length hxs
  simp at this; omega
 rw [hct] at hl
 apply List.ext_getElem?
 intro i
 by_cases hi:i<n
 ·have h1:=hel i hi
  rw [hce,Nat.mul_one] at h1
  have hxi:xs[i]? = some (xs[i]'(by omega)):=List.getElem?_eq_getElem (by omega)
  rw [hxi] at h1
  obtain ⟨s,hc,hq,_⟩:=DataW.trod_string he h1
  have h2:cs[i]? = some (.string s):=by
   have:=congrArg (·[0]?) hc
   simpa [List.getElem?_take,List.getElem?_drop] using this
  have h3:=congrArg (·[i]?) hxs
  simp only [List.getElem?_map,hxi,Option.map_some,hq] at h3
  cases hq2:ls[i]? with
  | none=>rw [hq2] at h3; cases h3
  | some b=>
   rw [hq2] at h3
   simp only [Option.map_some,Option.some.injEq,DataW.lit.injEq,Lit.string.injEq] at h3
   rw [h2,List.getElem?_map,hq2,h3]
   simp
 ·rw [List.getElem?_eq_none (by omega),List.getElem?_eq_none (by simp; omega)]
theorem eM {P:Program} {w:World} {name:String} {g:Nat} {cs:List Value} (hg:P.globalNamed name=some g) (h:w.var? P name=some cs.toArray):∃ t fr,w.heap[g]? = some (.cells (List.toArray cs) t fr):=by
 unfold World.var? at h
 rw [hg] at h
 have h':(match w.heap[g]? with
  | some (.cells cs _ _)=>some cs
  | _=>none)=some cs.toArray:=h
 split at h'
 ·rename_i c t fr hq
  cases h'
  exact ⟨t,fr,hq⟩
 ·cases h'
theorem pt {c:Cx}:∀ {l:List Str},(∀ s ∈ l,s.b.length<=140737488355328)->Pds c (l.flatMap (cellsOf .str)) (l.map Str.val)
 | [],_=>.nil
 | s :: l,h=>.cons (.str (h s (by simp))) (pt fun x hx=>h x (by simp [hx]))
theorem pD {c:Cx}:∀ {l:List U64},(∀ s ∈ l,s.n<18446744073709551616)->Pds c (l.flatMap (cellsOf .u64)) (l.map fun x=>.int .u64 (x.n:Int))
 | [],_=>.nil
 | s :: l,h=>.cons (.u64 (h s (by simp))) (pD fun x hx=>h x (by simp [hx]))
section
variable {H:Type} {enc:TypeId × Value->H}
theorem xm {C:Checked} {os:Os} {f:FuncId} {fn:Func} {s:ChangeSpec} {conds:List PathCond} {tb:TypeId} {L:List (String × DataW Unit)} (own:ownKnob C.prog.godebug=none) (started:os.Started) (noInit:C.prog.inits.idxOf? f=none) (hfn:C.prog.funcs[f]? = some fn)
  (witness:∃ (w:World) (tape:Tape) (i:Input),w.os=os/\(w.forCall tape i).Shaped C.prog/\i.vars=[]/\Input.okWide C.prog (w.forCall tape i) .any w.heap.size f i /\
   ((s.pre enc C.prog fn conds false (w.forCall tape i).memory i.args/\laidMetH C.prog L (w.forCall tape i).memory)/\sizedMet enc C.prog fn (OpenSpec.ofChange s) false (w.forCall tape i).memory i.args)/\({}:Assume).holds C.prog (lone (Frame.enter C.prog f i.args .normal) [] (w.forCall tape i)))
  (hl:laidOutB C.prog=true) (hrow:fn.params.toList.all (fun t=>C.prog.readableRec t && decide (t<C.prog.types.size))=true) (hr:fn.resultTypes = #[tb]) (hb:C.prog.underlying tb=some .bool) (hv:s.vars=[])
  (hs:∀ ds:List (DataW H),ds.length=fn.params.size->s.fn H ds={ results:=[.lit (.bool true)],args:=ds })
  (law:∀ (W:World) (args:Array Value),laidMetH C.prog L W->args.size=fn.params.toList.length->(∀ (j:Nat) t v,fn.params.toList[j]? = some t->args[j]? = some v->Ar enc C.prog W t v)->lK C.prog f args W fun r W'=>r = .bool true/\Kp [] W W') :
  ReturnsInHanded {} C os f .any (fun w args=>(s.pre enc C.prog fn conds false w args/\laidMetH C.prog L w)/\sizedMet enc C.prog fn (OpenSpec.ofChange s) false w args) (s.post enc C.prog fn false true false false):=by
 refine returnsInHanded_of_change_and (X:=fun w _=>laidMetH C.prog L w) (fun _ _ _ hh h=>h.of_heap hh) own started noInit hfn witness ?_
 intro W base args ds gs before hval hW _ hsz hL _
 have hW0:=hW
 obtain ⟨p,q,hA,hV,rfl,_,_⟩:=hW
 rw [hv] at hV
 obtain ⟨rfl,rfl⟩:=trodVars_none hV
 simp only [List.append_nil] at hW0 hsz
 have hlt:∀ x ∈ p,x.block<W.heap.size:=fun x hx=>by simpa using hW0.lt x hx
 have hwt:∀ n ∈ DataW.weightsEach C.prog fn.params.toList ds,n<=140737488351232:=fun n hn=>by
  have hmem:n ∈ DataW.weightsEach C.prog (fn.params.toList++s.plain.varTypes C.prog) ds:=by
   have:∀ (ts us:List TypeId) (ds:List (DataW H)),n ∈ DataW.weightsEach C.prog ts ds->n ∈ DataW.weightsEach C.prog (ts++us) ds:=by
    intro ts
    induction ts with
    | nil=>intro us ds h; simp [DataW.weightsEach] at h
    | cons t ts ih=>
     intro us ds h
     cases ds with
     | nil=>simp [DataW.weightsEach] at h
     | cons d ds=>
      rw [DataW.weightsEach,List.mem_append] at h
      rw [List.cons_append,DataW.weightsEach,List.mem_append]
      exact h.imp id (ih us ds)
   exact this _ _ _ hn
  exact of_decide_eq_true (List.all_eq_true.1 hsz n hmem)
 obtain ⟨hsize,har⟩:=rK (fun j t v ht hv=>hval j t v (by simpa using ht) hv) hA hwt hlt
 have hdl:ds.length=fn.params.size:=by
  have:∀ (ts:List TypeId) (vs:List Value) (ds:List (DataW H)) (p:List MemPlace),DataW.TrodAll enc C.prog W 0 (fun _=>true) true ts vs ds p->ds.length=ts.length:=by
   intro ts
   induction ts with
   | nil=>intro vs ds p h; obtain ⟨_,rfl,_⟩:=trodAll_nil h; rfl
   | cons t ts ih=>intro vs ds p h; obtain ⟨v,vs,d,ds,p1,p2,rfl,rfl,rfl,_,h2⟩:=trodAll_cons h; simp [ih vs ds p2 h2]
  simpa using this _ _ _ _ hA
 refine Calls.mono (law W args hL hsize har) fun e W' ⟨v,he,hv',hk⟩=>⟨v,he,?_⟩
 subst hv'
 exact ou hl hrow hr hb hv (by rw [List.append_nil]; exact hs ds hdl) hW0 hA hlt hk
theorem jR {C:Checked} {os:Os} {f:FuncId} {fn:Func} {s:ChangeSpec} {conds:List PathCond} {tb:TypeId} {L:List (String × DataW Unit)} (own:ownKnob C.prog.godebug=none) (started:os.Started) (noInit:C.prog.inits.idxOf? f=none) (hfn:C.prog.funcs[f]? = some fn)
  (witness:∃ (w:World) (tape:Tape) (i:Input),w.os=os/\(w.forCall tape i).Shaped C.prog/\i.vars=[]/\Input.okWide C.prog (w.forCall tape i) .any w.heap.size f i /\
   ((s.pre enc C.prog fn conds false (w.forCall tape i).memory i.args/\laidMetH C.prog L (w.forCall tape i).memory)/\sizedMet enc C.prog fn (OpenSpec.ofChange s) false (w.forCall tape i).memory i.args)/\({}:Assume).holds C.prog (lone (Frame.enter C.prog f i.args .normal) [] (w.forCall tape i)))
  (hl:laidOutB C.prog=true) (hrow:fn.params.toList.all (fun t=>C.prog.readableRec t && decide (t<C.prog.types.size))=true) (hr:fn.resultTypes = #[tb]) (hb:C.prog.underlying tb=some .bool) (hv:s.vars=[])
  (hs:∀ ds:List (DataW H),ds.length=fn.params.size->s.fn H ds={ results:=[.lit (.bool true)],args:=ds })
  (law:∀ (W:World) (args:Array Value),laidMetH C.prog L W->W.ShapedOpen C.prog->args.size=fn.params.toList.length->(∀ (j:Nat) t v,fn.params.toList[j]? = some t->args[j]? = some v->Ar enc C.prog W t v)->lK C.prog f args W fun r W'=>r = .bool true/\Kp [] W W') :
  ReturnsInHanded {} C os f .any (fun w args=>(s.pre enc C.prog fn conds false w args/\laidMetH C.prog L w)/\sizedMet enc C.prog fn (OpenSpec.ofChange s) false w args) (s.post enc C.prog fn false true false false):=by
 refine returnsInHanded_of_calls own started noInit witness ?_
 intro w tape i _ hsh _ hok hpre _
 obtain ⟨_,_,_,fn',hfn',_,_,_,_,hval⟩:=hok
 have e:fn' = fn:=Option.some.inj (hfn'.symm.trans hfn)
 subst e
 obtain ⟨⟨⟨ds,gs,before,hw,hc⟩,hx⟩,hz⟩:=hpre
 have hw':=DataW.Whole.of_heap (w':=w.forCall tape i) (by rfl) hw
 suffices main:∀ (W:World) (base:Nat) (args:Array Value),(∀ (j:Nat) t v,fn'.params[j]? = some t->args[j]? = some v->Value.okWide C.prog W .any base t v)->DataW.Whole enc C.prog fn'.params.toList s.vars false W args.toList ds gs before ->
   (DataW.weightsEach C.prog (fn'.params.toList++s.plain.varTypes C.prog) (ds++gs)).all (· <= reachBytes)=true->laidMetH C.prog L W->W.ShapedOpen C.prog->Calls C.prog f args W fun e W'=>∃ v,e = .returned v/\s.post enc C.prog fn' false true false false W args v W' by
  refine (main (w.forCall tape i) w.heap.size i.args hval hw' (hz.weights hw) (laidMetH.of_heap (by rfl) hx) hsh).mono fun e W' ⟨v,he,hp⟩=>?_
  subst he
  exact ChangeSpec.post_blind hp
 clear hval hw hc hx hz hw' hsh
 intro W base args hval hW hsz hL hsh
 have hW0:=hW
 obtain ⟨p,q,hA,hV,rfl,_,_⟩:=hW
 rw [hv] at hV
 obtain ⟨rfl,rfl⟩:=trodVars_none hV
 simp only [List.append_nil] at hW0 hsz
 have hlt:∀ x ∈ p,x.block<W.heap.size:=fun x hx=>by simpa using hW0.lt x hx
 have hwt:∀ n ∈ DataW.weightsEach C.prog fn'.params.toList ds,n<=140737488351232:=fun n hn=>by
  have hmem:n ∈ DataW.weightsEach C.prog (fn'.params.toList++s.plain.varTypes C.prog) ds:=by
   have:∀ (ts us:List TypeId) (ds:List (DataW H)),n ∈ DataW.weightsEach C.prog ts ds->n ∈ DataW.weightsEach C.prog (ts++us) ds:=by
    intro ts
    induction ts with
    | nil=>intro us ds h; simp [DataW.weightsEach] at h
    | cons t ts ih=>
     intro us ds h
     cases ds with
     | nil=>simp [DataW.weightsEach] at h
     | cons d ds=>
      rw [DataW.weightsEach,List.mem_append] at h
      rw [List.cons_append,DataW.weightsEach,List.mem_append]
      exact h.imp id (ih us ds)
   exact this _ _ _ hn
  exact of_decide_eq_true (List.all_eq_true.1 hsz n hmem)
 obtain ⟨hsize,har⟩:=rK (fun j t v ht hv=>hval j t v (by simpa using ht) hv) hA hwt hlt
 have hdl:ds.length=fn'.params.size:=by
  have:∀ (ts:List TypeId) (vs:List Value) (ds:List (DataW H)) (p:List MemPlace),DataW.TrodAll enc C.prog W 0 (fun _=>true) true ts vs ds p->ds.length=ts.length:=by
   intro ts
   induction ts with
   | nil=>intro vs ds p h; obtain ⟨_,rfl,_⟩:=trodAll_nil h; rfl
   | cons t ts ih=>intro vs ds p h; obtain ⟨v,vs,d,ds,p1,p2,rfl,rfl,rfl,_,h2⟩:=trodAll_cons h; simp [ih vs ds p2 h2]
  simpa using this _ _ _ _ hA
 refine Calls.mono (law W args hL hsh hsize har) fun e W' ⟨v,he,hv',hk⟩=>⟨v,he,?_⟩
 subst hv'
 exact ou hl hrow hr hb hv (by rw [List.append_nil]; exact hs ds hdl) hW0 hA hlt hk
theorem Ar.str {P:Program} {W:World} {shp:TypeId->Option Sh} {t:TypeId} {v:Value} (h:Ar enc P W t v) (ht:P.underlying t=some .string):∃ y:Str,bw (hP shp W) [] (.c (.str y)) v:=by
 obtain ⟨base,hf⟩:=h.form
 obtain ⟨n,rfl⟩:=okWide_string ht hf
 obtain ⟨y,h1⟩:=h.rp (shp:=shp) (Tr.str ht)
 exact ⟨y,qn (by simpa [Value.cells,cellsOf] using h1)⟩
end
end Go.Proofs.YtagpmhlokhoanaaDoor
namespace Go.Proofs.YtagpmhlokhoanaaDoor
open Go.RowKit Go.ChangeShapes Go.WideShapes
theorem uK {c:Array Value} {l:List Value} (h:c.toList=l):c=l.toArray:=by rw [<- h]
theorem fL {W:World} {g:Nat} {o:Obj} (h:W.heap[g]? = some o):(hP (ak ba) W).S g/\g<(hP (ak ba) W).B0:=by
 have h1:=(Array.getElem?_eq_some_iff.1 h).1
 refine ⟨⟨h1,?_,fun h=>h⟩,h1⟩
 rintro ⟨i,r,h2,_⟩
 simp at h2
theorem yQ {W:World} {g:Nat} {xs:List Str} {t:TypeId} {fr:Nat × Nat} (h:W.heap[g]? = some (.cells (List.toArray (xs.map Str.val)) t fr)) (h1:xs.length<=1000) (h2:∀ s ∈ xs,s.b.length<=140737488355328):(hP (ak ba) W).S g/\g<(hP (ak ba) W).B0/\xs.length<=maxLen/\xs.length*Sh.bytes .str<=140737488355328/\∃ cells t fr,(hP (ak ba) W).w.heap[g]? = some (.cells (List.toArray cells) t fr)/\Pds (hP (ak ba) W) (xs.flatMap (cellsOf .str)) cells:=
 ⟨(fL h).1,(fL h).2,by simp only [maxLen]; omega,by simp only [Sh.bytes]; omega,_,t,fr,h,pt h2⟩
theorem xU {W:World} {g:Nat} {xs:List U64} {t:TypeId} {fr:Nat × Nat} (h:W.heap[g]? = some (.cells (List.toArray (xs.map fun x=>Value.int .u64 (x.n:Int))) t fr)) (h1:xs.length<=1000) (h2:∀ s ∈ xs,s.n<18446744073709551616):(hP (ak ba) W).S g/\g<(hP (ak ba) W).B0/\xs.length<=maxLen/\xs.length*Sh.bytes .u64<=140737488355328/\∃ cells t fr,(hP (ak ba) W).w.heap[g]? = some (.cells (List.toArray cells) t fr)/\Pds (hP (ak ba) W) (xs.flatMap (cellsOf .u64)) cells:=
 ⟨(fL h).1,(fL h).2,by simp only [maxLen]; omega,by simp only [Sh.bytes]; omega,_,t,fr,h,pD h2⟩
theorem zd {W:World} (h0:∃ t fr,W.heap[0]? = some (.cells (List.toArray (b_.map Str.val)) t fr)) (h1:∃ t fr,W.heap[1]? = some (.cells (List.toArray (qa.map fun x=>Value.int .u64 (x.n:Int))) t fr))
  (h2:∃ m t fr,W.heap[2]? = some (.cells #[.int .i64 m] t fr)) (h3:∃ tp p t fr,W.heap[3]? = some (.cells #[.iface tp p] t fr)) (h4:∃ tp p t fr,W.heap[4]? = some (.cells #[.iface tp p] t fr)):TabsOK (hP (ak ba) W):=by
 obtain ⟨t0,f0,h0⟩:=h0
 obtain ⟨t1,f1,h1⟩:=h1
 obtain ⟨m2,t2,f2,h2⟩:=h2
 obtain ⟨a3,b3,t3,f3,h3⟩:=h3
 obtain ⟨a4,b4,t4,f4,h4⟩:=h4
 refine ⟨fun q hq=>?_,fun e he=>?_⟩
 ·simp only [sY,List.mem_cons,List.not_mem_nil,or_false] at hq
  rcases hq with rfl | rfl | rfl
  ·exact ⟨(fL h2).1,_,_,_,h2,m2,rfl⟩
  ·exact ⟨(fL h3).1,_,_,_,h3,_,_,rfl⟩
  ·exact ⟨(fL h4).1,_,_,_,h4,_,_,rfl⟩
 ·simp only [pW,List.mem_cons,List.not_mem_nil,or_false] at he
  rcases he with rfl | rfl
  ·exact yQ h0 (by decide) (by decide)
  ·exact xU h1 (by decide) (by decide)
theorem star:"*" ++ "errors.errorString" = "*errors.errorString":=by decide
theorem DW (u:TypeId) (h:Tryd.prog.typeName? 3 u=some "*errors.errorString"):u=118:=
 typeName_ptr_named (nm:="errors.errorString") (by rw [star]; kernel_rfl) (by kernel_rfl) (by decide) u (by rw [star]; exact h)
theorem BM {W:World} (h:W.ShapedOpen Tryd.prog):∃ m t fr,W.heap[2]? = some (.cells #[.int .i64 m] t fr):=by
 have hlt:2<Tryd.prog.globals.size:=Nat.le_of_ble_eq_true (show Nat.ble 3 Tryd.prog.globals.size=true by kernel_rfl)
 have hb:((begin Tryd.prog (fun _ _=>0) default).world.heap[2]?).bind Obj.row? = some (#[.int .i64 0],3):=by kernel_rfl
 obtain ⟨m,hm⟩:=cell_of_shapedOpen_int h hlt hb rfl (by kernel_rfl) (by kernel_rfl) Tryd.underlying3
 obtain ⟨cs,hh,hs,_⟩:=h.1 2 _ _ hlt hb
 have hcs:cs = #[.int .i64 m]:=by
  obtain ⟨l⟩:=cs
  have hl:l.length=1:=hs
  match l,hl with
  | [x],_=>
   have:W.cell? ⟨2,0,none⟩=some x:=by simp [World.cell?,hh]
   rw [this] at hm
   cases hm; rfl
 rw [hcs] at hh
 exact ⟨m,_,_,hh⟩
theorem wF {W:World} {n:String} {g:Nat} {text:List UInt8} {r:List (String × DataW Unit)} (h:laidMet Tryd.prog ((n,.iface "*errors.errorString" (.ptr (.agg [.lit (.string text)]))) :: r) W)
  (hg:Tryd.prog.globalNamed n=some g) (ht:(Tryd.prog.globals[g]?).map (·.type)=some 64):∃ tp p t fr,W.heap[g]? = some (.cells #[.iface tp p] t fr):=by
 obtain ⟨a,s,hv,-,-,-⟩:=laid_sentinel h hg ht Tryd.underlying64 DW Tryd.underlying118 Tryd.underlying120 rfl rfl Tryd.underlying9 (by kernel_rfl) (by kernel_rfl)
 obtain ⟨t,fr,hw⟩:=eM (cs:=[.iface _ _]) hg hv
 exact ⟨_,_,t,fr,hw⟩
theorem sJ {W:World} (h:laidMetH Tryd.prog Rows.scriptLinesRow.laid W) (hsh:W.ShapedOpen Tryd.prog):TabsOK (hP (ak ba) W):=by
 rw [MakeChecks.laidMetH_plain _ _ _ (by kernel_rfl)] at h
 have h2:=h.tail.tail
 have h4:=h2.tail.tail
 have h5:=h4.tail
 have h6:=h5.tail
 obtain ⟨_,⟨g2,t2,c2,_,_,_,hg2,ht2,hv2,hd2,_,_⟩,_,_⟩:=h2
 obtain ⟨_,⟨g3,t3,c3,_,_,_,hg3,ht3,hv3,hd3,_,_⟩,_,_⟩:=h6
 obtain rfl:1=g2:=Option.some.inj ((show some 1=Tryd.prog.globalNamed _ by kernel_rfl).trans hg2)
 obtain rfl:0=g3:=Option.some.inj ((show some 0=Tryd.prog.globalNamed _ by kernel_rfl).trans hg3)
 obtain rfl:106=t2:=Option.some.inj ((show some 106=(Tryd.prog.globals[1]?).map (·.type) by kernel_rfl).trans ht2)
 obtain rfl:45=t3:=Option.some.inj ((show some 45=(Tryd.prog.globals[0]?).map (·.type) by kernel_rfl).trans ht3)
 have e2:=Lib.cells_of_tab (k:=.u64) (zs:=Lib.pow10Tab) Tryd.underlying106 Tryd.underlying90 (by kernel_rfl) (by kernel_rfl) hd2
 have e3:=nF (ls:=b_.map (·.b)) Tryd.underlying45 Tryd.underlying9 (by kernel_rfl) (by kernel_rfl) hd3
 exact zd (eM hg3 (hv3.trans (congrArg some (uK (e3.trans rfl))))) (eM hg2 (hv2.trans (congrArg some (uK (e2.trans rfl))))) (BM hsh) (wF h5 (by kernel_rfl) (by kernel_rfl)) (wF h4 (by kernel_rfl) (by kernel_rfl))
end Go.Proofs.YtagpmhlokhoanaaDoor
namespace Go.Proofs.YtagpmhlokhoanaaDoor
open Go.RowKit Go.ChangeShapes Go.WideShapes
theorem tP:ownKnob Tryd.prog.godebug=none:=by kernel_rfl
theorem wV:laidOutB Tryd.prog=true:=by kernel_rfl
theorem EP:Tr Tryd.prog (ak ba) 24 (.nm .command):=Tr.struct (ss:=[.int,.int,.int,.int,.int,.int,(.lst .int),.str]) Tryd.underlying24 (by kernel_rfl) (fun cells h=>by
 obtain ⟨y0,l0,rfl,y1,l1,rfl,y2,l2,rfl,y3,l3,rfl,y4,l4,rfl,y5,l5,rfl,y6,l6,rfl,y7,l7,rfl,rfl⟩:=h
 exact ⟨⟨y0,y1,y2,y3,y4,y5,y6,y7⟩,rfl⟩) (mg.cons (Tr.int Tryd.underlying3) rfl (by kernel_rfl) (mg.cons (Tr.int Tryd.underlying3) rfl (by kernel_rfl) (mg.cons (Tr.int Tryd.underlying3) rfl (by kernel_rfl) (mg.cons (Tr.int Tryd.underlying3) rfl (by kernel_rfl) (mg.cons (Tr.int Tryd.underlying3) rfl (by kernel_rfl) (mg.cons (Tr.int Tryd.underlying3) rfl (by kernel_rfl) (mg.cons (Tr.list Tryd.underlying22 (by kernel_rfl) (by kernel_rfl) (Tr.int Tryd.underlying3)) rfl (by kernel_rfl) (mg.cons (Tr.str Tryd.underlying9) rfl (by kernel_rfl) (mg.nil)))))))))
theorem Ft:Tr Tryd.prog (ak ba) 26 (.nm .event):=Tr.struct (ss:=[.int,.int,.int,(.nm .command)]) Tryd.underlying26 (by kernel_rfl) (fun cells h=>by
 obtain ⟨y0,l0,rfl,y1,l1,rfl,y2,l2,rfl,y3,l3,rfl,rfl⟩:=h
 exact ⟨⟨y0,y1,y2,y3⟩,rfl⟩) (mg.cons (Tr.int Tryd.underlying3) rfl (by kernel_rfl) (mg.cons (Tr.int Tryd.underlying3) rfl (by kernel_rfl) (mg.cons (Tr.int Tryd.underlying3) rfl (by kernel_rfl) (mg.cons (EP) rfl (by kernel_rfl) (mg.nil)))))
set_option maxRecDepth 100000 in
theorem im (os:Os) (started:os.Started) (H:Type) (enc:TypeId × Value->H) :
  ReturnsInHanded {} Tryd.checked os 4 .any (fun w args=>(Rows.scriptLinesSpec.pre enc Tryd.prog Tryd.f4 Rows.scriptLinesRow.domain false w args/\laidMetH Tryd.prog Rows.scriptLinesRow.laid w)/\sizedMet enc Tryd.prog Tryd.f4 (OpenSpec.ofChange Rows.scriptLinesSpec) false w args) (Rows.scriptLinesSpec.post enc Tryd.prog Tryd.f4 false true false false):=by
 refine jR (C:=Tryd.checked) (L:=Rows.scriptLinesRow.laid) tP started (by kernel_rfl) Tryd.func4
  (ChangeSpec.witness_shaped (enc:=enc) (C:=Tryd.checked) (os:=os) (X:=fun w _=>laidMetH Tryd.prog Rows.scriptLinesRow.laid w) false (World.laidAll Tryd.prog os Rows.scriptLinesRow.laid) #[.agg #[.int .i64 0,.int .i64 0,.int .i64 0,.int .i64 0,.int .i64 0,.int .i64 0,.int .i64 0,.int .i64 0,.int .i64 0,.slice none 0 0,.string ⟨#[]⟩],.string ⟨#[]⟩] 8 (World.laidAll_os _ _ _) (World.shaped_of_ZipB (by kernel_rfl) (by kernel_rfl)) (by kernel_rfl) (by kernel_rfl) (by kernel_rfl) (by rw [MakeChecks.laidMetH_plain _ _ _ (by kernel_rfl)]; exact laidMet_laidAll _ (by kernel_rfl) (by kernel_rfl))) wV (by kernel_rfl) (by kernel_rfl) Tryd.underlying4 rfl (fun ds h=>?_) ?_
 ·match ds,h with
  | [d0,d1],_=>rfl
 ·intro W args hL hsh hs ha
  obtain ⟨l⟩:=args
  match l,hs with
  | [v0,v1],_=>
   obtain ⟨x0,h0⟩:=Ar.struct (shp:=ak ba) (ha 0 26 _ rfl rfl) Tryd.underlying26 Ft
   obtain ⟨x1,h1⟩:=Ar.str (shp:=ak ba) (ha 1 9 _ rfl rfl) Tryd.underlying9
   exact yS (xo x0 x1) rfl (.cons h0 (.cons h1 .nil)) (sJ hL hsh)
theorem scriptLines_holds:Rows.ScriptLinesSaid:=
 OpenClaim.holds_of_wide 4 Tryd.f4 rfl rfl rfl rfl rfl rfl rfl ⟨rfl,rfl,rfl,rfl,rfl⟩ rfl rfl rfl rfl rfl (by kernel_rfl) Tryd.func4 (by kernel_rfl)
  (of_decide_eq_true (by kernel_rfl)) (by unfold Func.isWrapper; first | (rw [if_pos (by decide +kernel)]; kernel_rfl) | (rw [if_neg (by decide +kernel)]; exact ⟨rfl,rfl⟩))
  (fun os started H enc _=>im os started H enc)
theorem scriptLinesCard_holds:Rows.ScriptLinesCardSaid:=
 Claim7.holds_tied_plain_at .later [] Rows.scriptLinesCard.laidKinds true Rows.scriptLinesCard.stood.harness true
  scriptLines_holds (fun _ h=>by cases h) (by kernel_rfl) (fun _ h=>by cases h) scriptLines_row_tie rfl ⟨rfl,rfl⟩ (by kernel_rfl) rfl
  (fun f fn hf hfn=>by
   obtain rfl:4=f:=Option.some.inj ((show some 4=Tryd.prog.funcNamed Rows.scriptLinesRow.func by kernel_rfl).trans hf)
   obtain rfl:fn=Tryd.f4:=(Option.some.inj (Tryd.func4.symm.trans hfn)).symm
   exact ⟨by kernel_rfl,fun j t ht=>by
    rw [Tryd.params4] at ht
    have hm:t ∈ [26,9]:=by simpa using Array.mem_of_getElem? ht
    have hall:([26,9].all fun u=>!Tryd.prog.wantsStandIn u)=true:=by kernel_rfl
    exact (show Tryd.prog.wantsStandIn t=false by simpa using List.all_eq_true.1 hall t hm)⟩)
  (by kernel_rfl)
end Go.Proofs.YtagpmhlokhoanaaDoor
