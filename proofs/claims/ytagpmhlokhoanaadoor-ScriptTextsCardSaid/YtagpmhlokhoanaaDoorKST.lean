/- The law: for every input it returns true, and each argument reads behind the call as it read before; and what leads there. Conditions: each lemma's own. -/
import Derived.LaidLaws
import Derived.LaidMore
import Derived.Lay
import Derived.Lib.ItoaMem
import Derived.Lib.LaidTab
import Derived.MakeChecks
import Derived.OpenShut
import Derived.ProofKit
import Derived.SevenTiedAt
import Derived.Shelf.Vars
import Derived.SizedLaws
import Derived.Stop.Joined
import Derived.Stop.LaidErr
import Derived.Test.YtagpmhlokhoanaaDoorCards
import Derived.Test.YtagpmhlokhoanaaDoorChecked
import Derived.Test.YtagpmhlokhoanaaDoorRows
import Derived.Test.YtagpmhlokhoanaaDoorTie
import Derived.Test.YtagpmhlokhoanaaDoorKSTM4
set_option linter.unusedVariables false
set_option linter.unusedSimpArgs false
namespace Go.Proofs.YtagpmhlokhoanaaDoor
open Go.RowKit
def kv (w:Str):Nat->Int
 | 0=>0
 | k+1=>if bb ((k:Int)+1)=w then (k:Int)+1 else kv w k
def dT (w:Str):Nat->List UInt8
 | 0=>[]
 | k+1=>dT w k++[sU (16*cW (w.b.getD (2*k) 0)+cW (w.b.getD (2*k+1) 0))]
abbrev gw (s:Str) (n:Nat):Str:=(bS s).getD n (az .str)
abbrev ru (s:Str):Int:=kv (gw s 0) 9
def aR (s:Str):Int:=if 1<(bS s).length then aC (gw s 1) else 0
def bR (s:Str):Int:=if bl (ru s)=true/\2<(bS s).length then aC (gw s 2) else 0
def cR (s:Str):Command:=if ru s=6/\8<(bS s).length then ⟨aC (gw s 2),aC (gw s 3),aC (gw s 4),aC (gw s 5),aC (gw s 6),aC (gw s 7),((bS s).drop 9).map aC,⟨dT (gw s 8) ((gw s 8).b.length / 2)⟩⟩ else cD
def uD (s:Str):Event:=⟨ru s,aR s,bR s,cR s⟩
def AZ (s:Str):Bool:=decide (ax (uD s)=0) && decide (ao (uD s)=s)
def kR (s:Str):Event:=if AZ s=true then uD s else gq
def fT (s:Str):Int:=if AZ s=true then 0 else 240
theorem sW (c:UInt8):-48<=cW c/\cW c<=255:=by
 have:=c.toNat_lt
 unfold cW; split <;> omega
theorem sQ (w:Str):∀ k,(dT w k).length=k
 | 0=>rfl
 | k+1=>by rw [dT,List.length_append,sQ w k]; rfl
theorem vN (s:Str) (n:Nat):(gw s n).b.length<=s.b.length:=by
 unfold gw bS bd
 rw [nM,List.getD_eq_getElem?_getD]
 cases hq:(ak ((Str.mk [32]).b.getD 0 0) s.b)[n]? with
 | none=>simp
 | some x=>exact dI _ s.b x (List.mem_of_getElem? hq)
theorem vf (s:Str):(bS s).length<=s.b.length+1:=by
 unfold bS bd
 rw [List.length_map]; exact (bF _ s.b).1
theorem CI {s:Str}:(0:Int)<((bS s).length:Int):=by
 have:=mK (s:=s) (sep:=⟨[32]⟩)
 cases h:bS s with
 | nil=>exact absurd h this
 | cons _ _=>simp only [List.length_cons]; omega
theorem Az (w:Str):I64 (aC w):=by
 have:=n_ (l:=w.b) (k:=min w.b.length 9) (by omega)
 unfold aC; constructor <;> omega
section
variable {s:Str} {k:Nat} {x:Str} {a b m n:Int} {c:Command} {e:Event}
theorem Ge (h:bb ((k:Int)+1)=gw s 0):(k:Int)+1=kv (gw s 0) (k+1):=by rw [kv,if_pos h]
theorem Hn (h:¬ bb ((k:Int)+1)=gw s 0):kv (gw s 0) k=kv (gw s 0) (k+1):=by rw [kv,if_neg h]
theorem nN (h1:k<=9) (h2:9<(k:Int)+1):kv (gw s 0) k=ru s:=by rw [show k=9 by omega]
theorem HI (h1:k<=9) (h2:9<(k:Int)+1) (h:kv (gw s 0) k=6):ru s=6:=by rw [<- nN h1 h2,h]
theorem HJ (h:(bS s)[8]? = some x):(((bS s).getD 8 (az .str)).b.length:Int)=(x.b.length:Int):=by rw [List.getD_eq_getElem?_getD,h]; rfl
theorem Ff (h:1<((bS s).length:Int)) (hx:(bS s)[1]? = some x):aC x=aR s:=by
 rw [aR,if_pos (by omega),gw,List.getD_eq_getElem?_getD,hx]; rfl
theorem Fu (h:((bS s).length:Int)<=1):0=aR s:=by rw [aR,if_neg (by omega)]
theorem DZ (h1:k<=9) (h2:9<(k:Int)+1) (h3:bl (kv (gw s 0) k)=true) (h:2<((bS s).length:Int)) (hx:(bS s)[2]? = some x):aC x=bR s:=by
 rw [nN h1 h2] at h3
 rw [bR,if_pos ⟨h3,by omega⟩,gw,List.getD_eq_getElem?_getD,hx]; rfl
theorem E_ (h1:k<=9) (h2:9<(k:Int)+1) (h3:bl (kv (gw s 0) k)=false\/((bS s).length:Int)<=2):0=bR s:=by
 rw [nN h1 h2] at h3
 rw [bR,if_neg]
 rintro ⟨h4,h5⟩
 rcases h3 with h3 | h3
 ·rw [h4] at h3; cases h3
 ·omega
theorem FI (h1:k<=9) (h2:9<(k:Int)+1) (h3:¬ kv (gw s 0) k=6\/((bS s).length:Int)<=8):Command.mk 0 0 0 0 0 0 [] ⟨[]⟩=cR s:=by
 rw [nN h1 h2] at h3
 rw [cR,if_neg (by rintro ⟨h4,h5⟩; omega),cD]
theorem oN (h1:m=ru s) (h2:a=aR s) (h3:b=bR s) (h4:c=cR s):Event.mk m a b c=uD s:=by rw [h1,h2,h3,h4,uD]
theorem FV (h:(((bS s).length:Int):Int)<=(k:Int)+9):(((bS s).drop 9).take k).map aC=((bS s).drop 9).map aC:=by
 rw [List.take_of_length_le (by rw [List.length_drop]; omega)]
theorem Ay (h6:ru s=6) (hl:k+9<=(bS s).length) (h:((bS s).length:Int)<=(k:Int)+9):Event.mk (ru s) (aR s) (bR s) (Command.mk (aC (gw s 2)) (aC (gw s 3)) (aC (gw s 4)) (aC (gw s 5)) (aC (gw s 6)) (aC (gw s 7)) ((((bS s).drop 9).take k).map aC) ⟨dT (gw s 8) ((gw s 8).b.length / 2)⟩)=uD s:=by
 rw [FV h]
 refine oN rfl rfl rfl ?_
 rw [cR,if_pos ⟨h6,by omega⟩]
theorem Cn (he:e=uD s) (h1:ax e=0) (h2:ao e=s):kR s=e/\fT s=0:=by
 subst he
 have h:AZ s=true:=by rw [AZ,decide_eq_true h1,decide_eq_true h2]; rfl
 rw [kR,fT,if_pos h,if_pos h]; exact ⟨rfl,rfl⟩
theorem Ea (he:e=uD s) (h:¬ ax e=0\/¬ ao e=s):kR s=gq/\fT s=240:=by
 subst he
 have h:¬ AZ s=true:=by
  rw [AZ,Bool.and_eq_true,decide_eq_true_eq,decide_eq_true_eq]
  rintro ⟨h1,h2⟩
  rcases h with h | h
  ·exact h h1
  ·exact h h2
 rw [kR,fT,if_neg h,if_neg h]; exact ⟨rfl,rfl⟩
theorem GC:dT (gw s 8) 0=[]:=rfl
theorem He:dT (gw s 8) k++[sU (16*cW ((gw s 8).b.getD (2*k) 0)+cW ((gw s 8).b.getD (((2*k:Nat):Int)+1).toNat 0))]=dT (gw s 8) (k+1):=by
 rw [show (((2*k:Nat):Int)+1).toNat=2*k+1 by omega]; rfl
theorem zY (h1:2*k<=(gw s 8).b.length) (h:(((bS s).getD 8 (az .str)).b.length:Int)<=((2*k:Nat):Int)+1):dT (gw s 8) k=dT (gw s 8) ((gw s 8).b.length / 2):=by
 rw [show (gw s 8).b.length / 2=k by unfold gw at *; omega]
theorem Ft (h:s.b.length<=1000000) (h1:2*k<=(gw s 8).b.length):I64 (((2*k:Nat):Int)+1)/\I64 (((2*k:Nat):Int)+2):=by
 have:=vN s 8
 exact ⟨by constructor <;> omega,by constructor <;> omega⟩
theorem Ht (h:s.b.length<=1000000) (h1:k+9<=(bS s).length):I64 ((k:Int)+9+1):=by
 have:=vf s
 constructor <;> omega
theorem Fb (u v:UInt8):I64 (16*cW u)/\I64 (16*cW u+cW v):=by
 have:=sW u
 have:=sW v
 exact ⟨by constructor <;> omega,by constructor <;> omega⟩
theorem DK {z:UInt8} (h:s.b.length<=1000000) (h1:2*k<=(gw s 8).b.length):((dT (gw s 8) k).length+[z].length)*1<=140737488355328:=by
 have:=vN s 8
 rw [sQ,List.length_singleton]; omega
theorem DH {z:Int} (h:s.b.length<=1000000):(((((bS s).drop 9).take k).map aC).length+[z].length)*8<=140737488355328:=by
 have:=vf s
 rw [List.length_map,List.length_take,List.length_drop,List.length_singleton]; omega
theorem FY:(((bS s).drop 9).take 0).map aC=[]:=rfl
theorem Gh (h:(k:Int)+9<((bS s).length:Int)):(((bS s).drop 9).take k).map aC++[aC (gw s ((k:Int)+9).toNat)]=(((bS s).drop 9).take (k+1)).map aC:=by
 have h1:((bS s).drop 9)[k]? = some (gw s ((k:Int)+9).toNat):=by
  rw [List.getElem?_drop,show ((k:Int)+9).toNat=9+k by omega,gw]; exact bg (by omega)
 rw [lO h1,List.map_append]; rfl
end
def uN (s:Str):List (Nat × LI):=[(4,{ σ:=Nat,F:=fun k=>([(0,one (.str (s))),(2,one (.ptr 0 0)),(4,one (.fz .str (bS s))),(5,one (.ptr 1 0)),(6,one (.int ((k:Int)+1)))],[.box 26 ([.int ((0)),.int ((0)),.int ((0)),.int ((0)),.int ((0)),.int ((0)),.int ((0)),.int ((0)),.int ((0)),.em true,.str ((⟨[]⟩))]),.box 26 ([.int ((kv ((bS s).getD 0 (az .str)) k)),.int ((0)),.int ((0)),.int ((0)),.int ((0)),.int ((0)),.int ((0)),.int ((0)),.int ((0)),.em true,.str ((⟨[]⟩))])]),J:=fun k=>k<=9,μ:=fun k=>9 - k }),(16,{ σ:=Nat,F:=fun k=>([(0,one (.str (s))),(2,one (.ptr 0 0)),(4,one (.fz .str (bS s))),(5,one (.ptr 1 0)),(7,one (.own 2)),(8,one (.int ((2*k:Nat):Int)))],[.box 26 ([.int ((0)),.int ((0)),.int ((0)),.int ((0)),.int ((0)),.int ((0)),.int ((0)),.int ((0)),.int ((0)),.em true,.str ((⟨[]⟩))]),.box 26 ([.int ((ru s)),.int ((aR s)),.int ((bR s)),.int ((aC ((bS s).getD 2 (az .str)))),.int ((aC ((bS s).getD 3 (az .str)))),.int ((aC ((bS s).getD 4 (az .str)))),.int ((aC ((bS s).getD 5 (az .str)))),.int ((aC ((bS s).getD 6 (az .str)))),.int ((aC ((bS s).getD 7 (az .str)))),.em true,.str ((⟨[]⟩))]),.row 5 .u8 ((dT ((bS s).getD 8 (az .str)) k))]),J:=fun k=>2*k<=((bS s).getD 8 (az .str)).b.length/\ru s=6/\8<(bS s).length,μ:=fun k=>((bS s).getD 8 (az .str)).b.length - 2*k }),(21,{ σ:=Nat,F:=fun k=>([(0,one (.str (s))),(2,one (.ptr 0 0)),(4,one (.fz .str (bS s))),(5,one (.ptr 1 0)),(9,one (.int ((k:Int)+9)))],[.box 26 ([.int ((0)),.int ((0)),.int ((0)),.int ((0)),.int ((0)),.int ((0)),.int ((0)),.int ((0)),.int ((0)),.em true,.str ((⟨[]⟩))]),.box 26 ([.int ((ru s)),.int ((aR s)),.int ((bR s)),.int ((aC ((bS s).getD 2 (az .str)))),.int ((aC ((bS s).getD 3 (az .str)))),.int ((aC ((bS s).getD 4 (az .str)))),.int ((aC ((bS s).getD 5 (az .str)))),.int ((aC ((bS s).getD 6 (az .str)))),.int ((aC ((bS s).getD 7 (az .str)))),.own 3,.str ((⟨dT ((bS s).getD 8 (az .str)) (((bS s).getD 8 (az .str)).b.length / 2)⟩))]),.row 5 .u8 ((dT ((bS s).getD 8 (az .str)) (((bS s).getD 8 (az .str)).b.length / 2))),.row 3 .int (((((bS s).drop 9).take k).map aC))]),J:=fun k=>k+9<=(bS s).length/\ru s=6,μ:=fun k=>(bS s).length - k })]
set_option maxRecDepth 8000 in
theorem yC (s:Str) (r0:Event) (r1:Int):fW aP (Dh wZ) (uN s) Tryd.f14 [.c (.str (s))] [] [.agg (cellsOf (.nm .event) r0),.c (.int (r1))]=((fun (q36:Int)=>(fun (q35:Int)=>(fun (q34:Int)=>(fun (q33:Int)=>(fun (q32:Int)=>(fun (q31:Int)=>(fun (q30:Int)=>(fun (q29:Prop)=>(fun (q28:Int)=>(fun (q27:Int)=>(fun (q26:Str)=>(fun (q25:Int)=>(fun (q24:Int)=>(fun (q23:Int)=>(fun (q22:Int)=>(fun (q21:Int)=>(fun (q20:Command)=>(fun (q19:Nat)=>(fun (q18:UInt8)=>(fun (q17:Prop)=>(fun (db:Int)=>(fun (q15:Nat)=>(fun (q14:Prop)=>(fun (q13:Prop)=>(fun (q12:Nat)=>(fun (q11:Nat)=>(fun (q10:Nat)=>(fun (q9:Nat)=>(fun (q8:Nat)=>(fun (q7:Int)=>(fun (q6:Nat)=>(fun (q5:Nat)=>(fun (q4:Nat)=>(fun (q3:List Str)=>(fun (q2:den Sh.str)=>(fun (q1:List UInt8)=>(fun (q0:Int)=>s.b.length<=q6->s.b.length<=(1000000:Nat)/\((bd s (Str.mk [(32:UInt8)])).length*(16:Nat)<=q6->∃ (s0:Nat),(fun (q67:Prop)=>(fun (q66:Int)=>(fun (q65:Prop)=>(fun (q64:Prop)=>(fun (q63:Prop)=>(fun (q62:Prop)=>(fun (q61:Prop)=>(fun (q60:den Sh.str)=>(fun (q59:den Sh.str)=>(fun (q58:den Sh.str)=>(fun (q57:Str)=>(fun (q56:den Sh.str)=>(fun (q55:den Sh.str)=>(fun (q54:den Sh.str)=>(fun (q53:Nat)=>(fun (q52:Prop)=>(fun (q51:List Str)=>(fun (q50:Prop)=>(fun (q49:Str)=>(fun (q48:Str)=>(fun (q47:Command)=>(fun (q46:Int)=>(fun (q45:Int)=>(fun (q44:Int)=>(fun (q43:Int)=>(fun (q42:Int)=>(fun (q41:Int)=>(fun (q40:Int)=>(fun (q39:Prop)=>(fun (q38:Prop)=>(fun (q37:List UInt8)=>(q29/\bd s (Str.mk [(32:UInt8)])=q3/\q7=(↑s0:Int)+q7/\q38/\q38/\q38/\q38/\q38/\q38/\q38/\q38/\q38/\q14/\q0=kv q48 s0/\q38/\q38/\q38/\q38/\q38/\q38/\q38/\q38/\q14)/\s0<=q15/\∀ (s_1:Nat),(fun (q99:Prop)=>(fun (q98:Prop)=>(fun (q97:Prop)=>(fun (q96:Prop)=>(fun (q95:Prop)=>(fun (q94:Int)=>(fun (q93:Int)=>(fun (q92:Int)=>(fun (q91:Int)=>(fun (q90:Int)=>(fun (q89:Int)=>(fun (q88:Prop)=>(fun (q87:Prop)=>(fun (q86:Prop)=>(fun (q85:Prop)=>(fun (q84:Prop)=>(fun (q83:Prop)=>(fun (q82:Prop)=>(fun (q81:Prop)=>(fun (q80:Prop)=>(fun (q79:Int)=>(fun (q78:Prop)=>(fun (q77:Prop)=>(fun (q76:Prop)=>(fun (q75:Prop)=>(fun (q74:Prop)=>(fun (q73:Prop)=>(fun (q72:Int)=>(fun (q71:Prop)=>(fun (q70:Nat)=>(fun (q69:Int)=>(fun (q68:Prop)=>s_1<=q15->(q72<=db->q0<=q0/\q0<q46/\((bb q72).b.length<=q6->(q3.getD q19 q2).b.length<=q6->(bb q72=q3.getD q19 q2->I64 (q72+q7)/\∃ (s':Nat),(q29/\q61/\q72+q7=(↑s':Int)+q7/\q38/\q38/\q38/\q38/\q38/\q38/\q38/\q38/\q38/\q14/\q72=kv q48 s' /\ q81)/\s' <= q15/\q15 - s' < q15 - s_1)/\(¬bb q72=q3.getD q19 q2->I64 (q72+q7)/\∃ (s':Nat),(q29/\q61/\q72+q7=(↑s':Int)+q7/\q38/\q38/\q38/\q38/\q38/\q38/\q38/\q38/\q38/\q14/\q69=kv q48 s' /\ q81)/\s' <= q15/\q15 - s' < q15 - s_1)))/\(db<q72->(q7<q46->q0<=q7/\q7<q46/\∀ (x:Str),(fun (q101:Int)=>(fun (q100:Event)=>q3[(1:Nat)]? = some x->x.b.length<=q6->I64 q101->(bl q69=true/\q82->q67/\q82/\∀ (x:Str),(fun (q102:Event)=>q3[q4]? = some x->x.b.length<=q6->I64 (aC x)->(q69=q27/\q71->q67/\q82/\q0<=q31/\q31<q46/\q0<=q32/\q32<q46/\q0<=q33/\q33<q46/\q0<=q27/\q27<q46/\q0<=q34/\q34<q46/\(q83->I64 q89->q84->I64 q90->q85->I64 q91->q86->I64 q92->q87->I64 q93->q88->I64 q94->∃ (s0:Nat),(q29/\q61/\q0=(↑(q4*s0):Int)/\q38/\q38/\q38/\q38/\q38/\q38/\q38/\q38/\q38/\q14/\q69=q22/\q101=q24/\aC x=q25/\q89=q45/\q90=q44/\q91=q43/\q92=q42/\q93=q41/\q94=q40/\q14/\dT q49 s0=[])/\(q4*s0<=q70/\q52)/\∀ (s_2:Nat),(fun (q105:Nat)=>(fun (q104:Int)=>(fun (q103:Int)=>q105<=q70/\q52->I64 q103/\q65/\q71/\∀ (x:Str),(fun (q107:Int)=>(fun (q106:Int)=>q3[q5]? = some x->x.b.length<=q6->(q103<(↑x.b.length:Int)->(q65/\q71)/\(q68->q0<=(↑q105:Int)/\(↑q105:Int)<q79)/\(q68->I64 q104->I64 q107)/\(q65/\q71)/\I64 q103/\(q68->q0<=q103/\q103<q79)/\(q68->I64 q104->q68->I64 q106->I64 (q107+q106))/\(q68->I64 q104->q68->I64 q106->((dT q49 s_2).length+[sU (q107+q106)].length)*(1:Nat)<=q6)/\(q68->I64 q104->q68->I64 q106->I64 ((↑q105:Int)+q23)/\∃ (s':Nat),(q29/\q61/\(↑q105:Int)+q23=(↑(q4*s'):Int)/\q38/\q38/\q38/\q38/\q38/\q38/\q38/\q38/\q38/\q14/\q64/\q63/\q62/\q73/\q74/\q75/\q76/\q77/\q78/\q14/\dT q49 s_2++[sU (q107+q106)]=dT q49 s')/\(q4*s' <= q70/\q52)/\q70 - q4*s' < q70 - q105))/\((↑x.b.length:Int)<=q103->∃ (s0:Nat),(q29/\q61/\db=(↑s0:Int)+db/\q38/\q38/\q38/\q38/\q38/\q38/\q38/\q38/\q38/\q14/\q64/\q63/\q62/\q73/\q74/\q75/\q76/\q77/\q78/\Str.mk (dT q49 s_2)=q57/\dT q49 s_2=q1/\List.map aC (List.take s0 q51)=[])/\(s0+q15<=q53/\q17)/\∀ (s_3:Nat),(fun (q111:List (den Sh.int))=>(fun (q110:Int)=>(fun (q109:den Sh.str)=>(fun (q108:Event)=>s_3+q15<=q53/\q17->(q110<q46->(q0<=q110/\q110<q46)/\(q109.b.length<=q6->I64 (aC q109)->(q111.length+[aC q109].length)*q5<=q6)/\(q109.b.length<=q6->I64 (aC q109)->I64 (q110+q7)/\∃ (s':Nat),(q29/\q61/\q110+q7=(↑s':Int)+db/\q38/\q38/\q38/\q38/\q38/\q38/\q38/\q38/\q38/\q14/\q64/\q63/\q62/\q73/\q74/\q75/\q76/\q77/\q78/\q57=q57/\q1=q1/\q111++[aC q109]=List.map aC (List.take s' q51))/\(s' + q15<=q53/\q17)/\q53 - s' < q53 - s_3))/\(q46<=q110->(ao q108).b.length<=q6->I64 (ax q108)->(¬ax q108=q0\/¬ao q108=s->q39)/\(ax q108=q0/\ao q108=s->q22=q30/\q24=q35/\q25=q36/\q95/\q44=q66/\q96/\q97/\q98/\q99/\q111=q20.chunks/\q80))) (Event.mk q22 q24 q25 (Command.mk q45 q44 q43 q42 q41 q40 q111 q57))) (q3.getD q110.toNat q2)) ((↑s_3:Int)+db)) (List.map aC (List.take s_3 q51)))) (cW (q37.getD q103.toNat q18))) (q28*q104)) ((↑q105:Int)+q7)) (cW (q37.getD q105 q18))) (q4*s_2)))/\(¬q69=q27\/q46<=q21->(ao q102).b.length<=q6->I64 (ax q102)->(¬ax q102=q0\/¬ao q102=s->q39)/\(ax q102=q0/\ao q102=s->q69=q30/\q101=q35/\aC x=q36/\q50))) (Event.mk q69 q101 (aC x) q47))/\(bl q69=false\/q46<=q23->(q69=q27/\q71->q67/\q82/\q0<=q31/\q31<q46/\q0<=q32/\q32<q46/\q0<=q33/\q33<q46/\q0<=q27/\q27<q46/\q0<=q34/\q34<q46/\(q83->I64 q89->q84->I64 q90->q85->I64 q91->q86->I64 q92->q87->I64 q93->q88->I64 q94->∃ (s0:Nat),(q29/\q61/\q0=(↑(q4*s0):Int)/\q38/\q38/\q38/\q38/\q38/\q38/\q38/\q38/\q38/\q14/\q69=q22/\q101=q24/\q0=q25/\q89=q45/\q90=q44/\q91=q43/\q92=q42/\q93=q41/\q94=q40/\q14/\dT q49 s0=[])/\(q4*s0<=q70/\q52)/\∀ (s_2:Nat),(fun (q114:Nat)=>(fun (q113:Int)=>(fun (q112:Int)=>q114<=q70/\q52->I64 q112/\q65/\q71/\∀ (x:Str),(fun (q116:Int)=>(fun (q115:Int)=>q3[q5]? = some x->x.b.length<=q6->(q112<(↑x.b.length:Int)->(q65/\q71)/\(q68->q0<=(↑q114:Int)/\(↑q114:Int)<q79)/\(q68->I64 q113->I64 q116)/\(q65/\q71)/\I64 q112/\(q68->q0<=q112/\q112<q79)/\(q68->I64 q113->q68->I64 q115->I64 (q116+q115))/\(q68->I64 q113->q68->I64 q115->((dT q49 s_2).length+[sU (q116+q115)].length)*(1:Nat)<=q6)/\(q68->I64 q113->q68->I64 q115->I64 ((↑q114:Int)+q23)/\∃ (s':Nat),(q29/\q61/\(↑q114:Int)+q23=(↑(q4*s'):Int)/\q38/\q38/\q38/\q38/\q38/\q38/\q38/\q38/\q38/\q14/\q64/\q63/\q62/\q73/\q74/\q75/\q76/\q77/\q78/\q14/\dT q49 s_2++[sU (q116+q115)]=dT q49 s')/\(q4*s' <= q70/\q52)/\q70 - q4*s' < q70 - q114))/\((↑x.b.length:Int)<=q112->∃ (s0:Nat),(q29/\q61/\db=(↑s0:Int)+db/\q38/\q38/\q38/\q38/\q38/\q38/\q38/\q38/\q38/\q14/\q64/\q63/\q62/\q73/\q74/\q75/\q76/\q77/\q78/\Str.mk (dT q49 s_2)=q57/\dT q49 s_2=q1/\List.map aC (List.take s0 q51)=[])/\(s0+q15<=q53/\q17)/\∀ (s_3:Nat),(fun (q120:List (den Sh.int))=>(fun (q119:Int)=>(fun (q118:den Sh.str)=>(fun (q117:Event)=>s_3+q15<=q53/\q17->(q119<q46->(q0<=q119/\q119<q46)/\(q118.b.length<=q6->I64 (aC q118)->(q120.length+[aC q118].length)*q5<=q6)/\(q118.b.length<=q6->I64 (aC q118)->I64 (q119+q7)/\∃ (s':Nat),(q29/\q61/\q119+q7=(↑s':Int)+db/\q38/\q38/\q38/\q38/\q38/\q38/\q38/\q38/\q38/\q14/\q64/\q63/\q62/\q73/\q74/\q75/\q76/\q77/\q78/\q57=q57/\q1=q1/\q120++[aC q118]=List.map aC (List.take s' q51))/\(s' + q15<=q53/\q17)/\q53 - s' < q53 - s_3))/\(q46<=q119->(ao q117).b.length<=q6->I64 (ax q117)->(¬ax q117=q0\/¬ao q117=s->q39)/\(ax q117=q0/\ao q117=s->q22=q30/\q24=q35/\q25=q36/\q95/\q44=q66/\q96/\q97/\q98/\q99/\q120=q20.chunks/\q80))) (Event.mk q22 q24 q25 (Command.mk q45 q44 q43 q42 q41 q40 q120 q57))) (q3.getD q119.toNat q2)) ((↑s_3:Int)+db)) (List.map aC (List.take s_3 q51)))) (cW (q37.getD q112.toNat q18))) (q28*q113)) ((↑q114:Int)+q7)) (cW (q37.getD q114 q18))) (q4*s_2)))/\(¬q69=q27\/q46<=q21->(ao q100).b.length<=q6->I64 (ax q100)->(¬ax q100=q0\/¬ao q100=s->q39)/\(ax q100=q0/\ao q100=s->q69=q30/\q101=q35/\q0=q36/\q50)))) (Event.mk q69 q101 q0 q47)) (aC x))/\(q46<=q7->(bl q69=true/\q82->q67/\q82/\∀ (x:Str),(fun (q121:Event)=>q3[q4]? = some x->x.b.length<=q6->I64 (aC x)->(q69=q27/\q71->q67/\q82/\q0<=q31/\q31<q46/\q0<=q32/\q32<q46/\q0<=q33/\q33<q46/\q0<=q27/\q27<q46/\q0<=q34/\q34<q46/\(q83->I64 q89->q84->I64 q90->q85->I64 q91->q86->I64 q92->q87->I64 q93->q88->I64 q94->∃ (s0:Nat),(q29/\q61/\q0=(↑(q4*s0):Int)/\q38/\q38/\q38/\q38/\q38/\q38/\q38/\q38/\q38/\q14/\q69=q22/\q0=q24/\aC x=q25/\q89=q45/\q90=q44/\q91=q43/\q92=q42/\q93=q41/\q94=q40/\q14/\dT q49 s0=[])/\(q4*s0<=q70/\q52)/\∀ (s_2:Nat),(fun (q124:Nat)=>(fun (q123:Int)=>(fun (q122:Int)=>q124<=q70/\q52->I64 q122/\q65/\q71/\∀ (x:Str),(fun (q126:Int)=>(fun (q125:Int)=>q3[q5]? = some x->x.b.length<=q6->(q122<(↑x.b.length:Int)->(q65/\q71)/\(q68->q0<=(↑q124:Int)/\(↑q124:Int)<q79)/\(q68->I64 q123->I64 q126)/\(q65/\q71)/\I64 q122/\(q68->q0<=q122/\q122<q79)/\(q68->I64 q123->q68->I64 q125->I64 (q126+q125))/\(q68->I64 q123->q68->I64 q125->((dT q49 s_2).length+[sU (q126+q125)].length)*(1:Nat)<=q6)/\(q68->I64 q123->q68->I64 q125->I64 ((↑q124:Int)+q23)/\∃ (s':Nat),(q29/\q61/\(↑q124:Int)+q23=(↑(q4*s'):Int)/\q38/\q38/\q38/\q38/\q38/\q38/\q38/\q38/\q38/\q14/\q64/\q63/\q62/\q73/\q74/\q75/\q76/\q77/\q78/\q14/\dT q49 s_2++[sU (q126+q125)]=dT q49 s')/\(q4*s' <= q70/\q52)/\q70 - q4*s' < q70 - q124))/\((↑x.b.length:Int)<=q122->∃ (s0:Nat),(q29/\q61/\db=(↑s0:Int)+db/\q38/\q38/\q38/\q38/\q38/\q38/\q38/\q38/\q38/\q14/\q64/\q63/\q62/\q73/\q74/\q75/\q76/\q77/\q78/\Str.mk (dT q49 s_2)=q57/\dT q49 s_2=q1/\List.map aC (List.take s0 q51)=[])/\(s0+q15<=q53/\q17)/\∀ (s_3:Nat),(fun (q130:List (den Sh.int))=>(fun (q129:Int)=>(fun (q128:den Sh.str)=>(fun (q127:Event)=>s_3+q15<=q53/\q17->(q129<q46->(q0<=q129/\q129<q46)/\(q128.b.length<=q6->I64 (aC q128)->(q130.length+[aC q128].length)*q5<=q6)/\(q128.b.length<=q6->I64 (aC q128)->I64 (q129+q7)/\∃ (s':Nat),(q29/\q61/\q129+q7=(↑s':Int)+db/\q38/\q38/\q38/\q38/\q38/\q38/\q38/\q38/\q38/\q14/\q64/\q63/\q62/\q73/\q74/\q75/\q76/\q77/\q78/\q57=q57/\q1=q1/\q130++[aC q128]=List.map aC (List.take s' q51))/\(s' + q15<=q53/\q17)/\q53 - s' < q53 - s_3))/\(q46<=q129->(ao q127).b.length<=q6->I64 (ax q127)->(¬ax q127=q0\/¬ao q127=s->q39)/\(ax q127=q0/\ao q127=s->q22=q30/\q24=q35/\q25=q36/\q95/\q44=q66/\q96/\q97/\q98/\q99/\q130=q20.chunks/\q80))) (Event.mk q22 q24 q25 (Command.mk q45 q44 q43 q42 q41 q40 q130 q57))) (q3.getD q129.toNat q2)) ((↑s_3:Int)+db)) (List.map aC (List.take s_3 q51)))) (cW (q37.getD q122.toNat q18))) (q28*q123)) ((↑q124:Int)+q7)) (cW (q37.getD q124 q18))) (q4*s_2)))/\(¬q69=q27\/q46<=q21->(ao q121).b.length<=q6->I64 (ax q121)->(¬ax q121=q0\/¬ao q121=s->q39)/\(ax q121=q0/\ao q121=s->q69=q30/\q0=q35/\aC x=q36/\q50))) (Event.mk q69 q0 (aC x) q47))/\(bl q69=false\/q46<=q23->(q69=q27/\q71->q67/\q82/\q0<=q31/\q31<q46/\q0<=q32/\q32<q46/\q0<=q33/\q33<q46/\q0<=q27/\q27<q46/\q0<=q34/\q34<q46/\(q83->I64 q89->q84->I64 q90->q85->I64 q91->q86->I64 q92->q87->I64 q93->q88->I64 q94->∃ (s0:Nat),(q29/\q61/\q0=(↑(q4*s0):Int)/\q38/\q38/\q38/\q38/\q38/\q38/\q38/\q38/\q38/\q14/\q69=q22/\q0=q24/\q0=q25/\q89=q45/\q90=q44/\q91=q43/\q92=q42/\q93=q41/\q94=q40/\q14/\dT q49 s0=[])/\(q4*s0<=q70/\q52)/\∀ (s_2:Nat),(fun (q133:Nat)=>(fun (q132:Int)=>(fun (q131:Int)=>q133<=q70/\q52->I64 q131/\q65/\q71/\∀ (x:Str),(fun (q135:Int)=>(fun (q134:Int)=>q3[q5]? = some x->x.b.length<=q6->(q131<(↑x.b.length:Int)->(q65/\q71)/\(q68->q0<=(↑q133:Int)/\(↑q133:Int)<q79)/\(q68->I64 q132->I64 q135)/\(q65/\q71)/\I64 q131/\(q68->q0<=q131/\q131<q79)/\(q68->I64 q132->q68->I64 q134->I64 (q135+q134))/\(q68->I64 q132->q68->I64 q134->((dT q49 s_2).length+[sU (q135+q134)].length)*(1:Nat)<=q6)/\(q68->I64 q132->q68->I64 q134->I64 ((↑q133:Int)+q23)/\∃ (s':Nat),(q29/\q61/\(↑q133:Int)+q23=(↑(q4*s'):Int)/\q38/\q38/\q38/\q38/\q38/\q38/\q38/\q38/\q38/\q14/\q64/\q63/\q62/\q73/\q74/\q75/\q76/\q77/\q78/\q14/\dT q49 s_2++[sU (q135+q134)]=dT q49 s')/\(q4*s' <= q70/\q52)/\q70 - q4*s' < q70 - q133))/\((↑x.b.length:Int)<=q131->∃ (s0:Nat),(q29/\q61/\db=(↑s0:Int)+db/\q38/\q38/\q38/\q38/\q38/\q38/\q38/\q38/\q38/\q14/\q64/\q63/\q62/\q73/\q74/\q75/\q76/\q77/\q78/\Str.mk (dT q49 s_2)=q57/\dT q49 s_2=q1/\List.map aC (List.take s0 q51)=[])/\(s0+q15<=q53/\q17)/\∀ (s_3:Nat),(fun (q139:List (den Sh.int))=>(fun (q138:Int)=>(fun (q137:den Sh.str)=>(fun (q136:Event)=>s_3+q15<=q53/\q17->(q138<q46->(q0<=q138/\q138<q46)/\(q137.b.length<=q6->I64 (aC q137)->(q139.length+[aC q137].length)*q5<=q6)/\(q137.b.length<=q6->I64 (aC q137)->I64 (q138+q7)/\∃ (s':Nat),(q29/\q61/\q138+q7=(↑s':Int)+db/\q38/\q38/\q38/\q38/\q38/\q38/\q38/\q38/\q38/\q14/\q64/\q63/\q62/\q73/\q74/\q75/\q76/\q77/\q78/\q57=q57/\q1=q1/\q139++[aC q137]=List.map aC (List.take s' q51))/\(s' + q15<=q53/\q17)/\q53 - s' < q53 - s_3))/\(q46<=q138->(ao q136).b.length<=q6->I64 (ax q136)->(¬ax q136=q0\/¬ao q136=s->q39)/\(ax q136=q0/\ao q136=s->q22=q30/\q24=q35/\q25=q36/\q95/\q44=q66/\q96/\q97/\q98/\q99/\q139=q20.chunks/\q80))) (Event.mk q22 q24 q25 (Command.mk q45 q44 q43 q42 q41 q40 q139 q57))) (q3.getD q138.toNat q2)) ((↑s_3:Int)+db)) (List.map aC (List.take s_3 q51)))) (cW (q37.getD q131.toNat q18))) (q28*q132)) ((↑q133:Int)+q7)) (cW (q37.getD q133 q18))) (q4*s_2)))/\(¬q69=q27\/q46<=q21->(ao (Event.mk q69 q0 q0 q47)).b.length<=q6->I64 (ax (Event.mk q69 q0 q0 q47))->(¬ax (Event.mk q69 q0 q0 q47)=q0\/¬ao (Event.mk q69 q0 q0 q47)=s->q39)/\(ax (Event.mk q69 q0 q0 q47)=q0/\ao (Event.mk q69 q0 q0 q47)=s->q69=q30/\q0=q35/\q0=q36/\q50)))))) (q37.length<=q6)) (kv q48 s_1)) q49.b.length) (q21<q46)) ((↑s_1:Int)+q7)) (q45=q45)) (q44=q44)) (q43=q43)) (q42=q42)) (q41=q41)) (q40=q40)) (↑q37.length:Int)) (q57=q20.text/\q0=r1)) (q38/\q38/\q38/\q38/\q38/\q38/\q38/\q38/\q14)) (q23<q46)) (q60.b.length<=q6)) (q59.b.length<=q6)) (q58.b.length<=q6)) (q56.b.length<=q6)) (q55.b.length<=q6)) (q54.b.length<=q6)) (aC q60)) (aC q59)) (aC q58)) (aC q56)) (aC q55)) (aC q54)) (q45=q20.kind)) (q43=q20.seq)) (q42=q20.set)) (q41=q20.id)) (q40=q20.n)) (q3.getD q5 q2).b) (q0=q0)) (q0=q30/\q0=q35/\q0=q36/\q0=q20.kind/\q0=q66/\q0=q20.seq/\q0=q20.set/\q0=q20.id/\q0=q20.n/\q13)) (aC (q3.getD q12 q2))) (aC (q3.getD q11 q2))) (aC (q3.getD q10 q2))) (aC (q3.getD q9 q2))) (aC (q3.getD q8 q2))) (aC (q3.getD q4 q2))) (↑q3.length:Int)) (Command.mk q0 q0 q0 q0 q0 q0 [] q26)) (q3.getD q19 q2)) (q3.getD q5 q2)) (q0=q20.kind/\q0=q66/\q0=q20.seq/\q0=q20.set/\q0=q20.id/\q0=q20.n/\q20.chunks=[]/\q26=q20.text/\q0=r1)) (List.drop q15 q3)) (q17/\q5<q53)) q3.length) (q3.getD q12 q2)) (q3.getD q11 q2)) (q3.getD q10 q2)) (Str.mk q1)) (q3.getD q9 q2)) (q3.getD q8 q2)) (q3.getD q4 q2)) (q3=q3)) (q25=q25)) (q24=q24)) (q22=q22)) (q0<=q21)) q20.client) (q0<=q23))) (0:Int)) (dT (q3.getD q5 q2) ((q3.getD q5 q2).b.length / q4))) (az Sh.str)) (bS s)) (2:Nat)) (8:Nat)) (140737488355328:Nat)) (1:Int)) (3:Nat)) (4:Nat)) (5:Nat)) (6:Nat)) (7:Nat)) (q20.chunks=[]/\q26=q20.text/\(240:Int)=r1)) (q26=q26)) (9:Nat)) (9:Int)) (q22=q27)) (0:UInt8)) (0:Nat)) r0.c) (8:Int)) (ru s)) (2:Int)) (aR s)) (bR s)) (Str.mk [])) (6:Int)) (16:Int)) (s=s)) r0.kind) (3:Int)) (4:Int)) (5:Int)) (7:Int)) r0.a) r0.b):=by kernel_rfl
set_option maxHeartbeats 2000000 in
set_option maxRecDepth 8000 in
theorem An (s:Str) (h0:s.b.length<=1000000):Sat Tryd.prog (aj aP) 14 [.c (.str (s))] [] ⟨[s.b.length<=1000000],[.agg (cellsOf (.nm .event) (kR s)),.c (.int ((fT s)))],none,false⟩:=by
 refine bB (zI oK) (uN s) Tryd.func14 (by decide) (by kernel_rfl) ?_
 rw [yC]
 (repeat' (first | with_reducible apply dW | with_reducible refine dY ?_ | intro))
 all_goals try (refine ⟨0,?_⟩; (repeat' (first | with_reducible apply dW | with_reducible refine dY ?_ | intro)))
 all_goals try (have hg:(‹Nat›:Int)+1<=9:=bY; clear hg; refine ⟨‹Nat› + 1,?_⟩; (repeat' (first | with_reducible apply dW | with_reducible refine dY ?_ | intro)))
 all_goals try (have hg:9<(‹Nat›:Int)+1:=bY; clear hg; refine ⟨0,?_⟩; (repeat' (first | with_reducible apply dW | with_reducible refine dY ?_ | intro)))
 all_goals try (have hg:((2 * ‹Nat›:Nat):Int)+1<((‹Str›.b.length:Nat):Int):=bY; clear hg; refine ⟨‹Nat› + 1,?_⟩; (repeat' (first | with_reducible apply dW | with_reducible refine dY ?_ | intro)))
 all_goals try (have hg:((‹Str›.b.length:Nat):Int)<=((2 * ‹Nat›:Nat):Int)+1:=bY; clear hg; refine ⟨0,?_⟩; (repeat' (first | with_reducible apply dW | with_reducible refine dY ?_ | intro)))
 all_goals try (refine ⟨‹Nat› + 1,?_⟩; (repeat' (first | with_reducible apply dW | with_reducible refine dY ?_ | intro)))
 all_goals (first | exact ga | exact h0 | exact CI | exact rfl | exact (Az _) | exact (Ge ab) | exact (Hn ab) | exact (nN ab ab) | exact (Ff ab ab) | exact (Fu ab) | exact (DZ ab ab ab ab ab) | exact (E_ ab ab ab) | exact GC | exact He | exact (zY ab ab) | exact (congrArg Str.mk (zY ab ab)) | exact (Ft h0 ab).1 | exact (Ft h0 ab).2 | exact (Ht h0 ab) | (have hg:=HJ ab; omega) | exact (HI ab ab ab) | (have hg:=HJ ab; exact zY ab bY) | (have hg:=HJ ab; exact congrArg Str.mk (zY ab bY)) | exact (Fb _ 0).1 | exact (Fb _ _).2 | with_reducible exact (DK h0 ab) | with_reducible exact (DH h0) | exact FY | exact (Gh ab) | (rw [(Cn (by first | exact oN (nN ab ab) (by first | exact Ff ab ab | exact Fu ab) (by first | exact DZ ab ab ab ab ab | exact E_ ab ab ab) (FI ab ab ab) | exact Ay ab ab ab) ab ab).1]; done) | (rw [(Cn (by first | exact oN (nN ab ab) (by first | exact Ff ab ab | exact Fu ab) (by first | exact DZ ab ab ab ab ab | exact E_ ab ab ab) (FI ab ab ab) | exact Ay ab ab ab) ab ab).2]; done) | (rw [(Ea (by first | exact oN (nN ab ab) (by first | exact Ff ab ab | exact Fu ab) (by first | exact DZ ab ab ab ab ab | exact E_ ab ab ab) (FI ab ab ab) | exact Ay ab ab ab) ab).1]; first | done | rfl) | (rw [(Ea (by first | exact oN (nN ab ab) (by first | exact Ff ab ab | exact Fu ab) (by first | exact DZ ab ab ab ab ab | exact E_ ab ab ab) (FI ab ab ab) | exact Ay ab ab ab) ab).2]; done))
def AG:cG:=(dr 14 (cV (aA (kC cS) br) bt fun (s,_) (_)=>⟨[s.b.length<=1000000],[.agg (cellsOf (.nm .event) (kR s)),.c (.int ((fT s)))],none,false⟩) wZ)
theorem vo:aZ Tryd.prog (aj aP) AG:=(aD (aE (ae (aH cq) aq) au fun (s,_) (_) hp=>An s (ot hp)) oK)
theorem Cr:∀ (u:Nat) (r:List UInt8),u<1000000000->Lib.parseUint10 0 (Lib.decDigits u++r)=Lib.parseUint10 u r:=fun u=>by
 induction u using Nat.strongRecOn with
 | _ u ih=>
  intro r hu
  by_cases h:u<10
  ·have hd:=th h
   rw [Lib.decDigits,dif_pos h,List.singleton_append,Lib.parseUint10,if_pos (by omega),if_neg (by omega),if_neg (by omega),hd]
   congr 1; omega
  ·have hd:=th (show u % 10<10 by omega)
   rw [Lib.decDigits,dif_neg h,List.append_assoc,ih (u / 10) (by omega) _ (by omega),List.singleton_append,Lib.parseUint10,if_pos (by omega),if_neg (by omega),if_neg (by omega),hd]
   congr 1; omega
theorem uT (u:Nat):Lib.decDigits u≠[]:=by
 rw [Lib.decDigits]; split <;> simp
theorem xd {u:Nat} (hu:u<1000000000):Lib.atoiAll (Lib.decDigits u) = .ok (u:Int):=by
 have hp:Lib.parseMag (Lib.decDigits u) = .ok u:=by
  have:=Cr u [] hu
  rw [List.append_nil] at this
  rw [Lib.parseMag,if_neg (uT u),this]; rfl
 cases h:Lib.decDigits u with
 | nil=>exact absurd h (uT u)
 | cons c r=>
  have hc:=rI u c (by rw [h]; simp)
  rw [Lib.atoiAll_plain c r (by omega) (by omega),<- h,hp,Lib.signless,if_neg (by omega)]
theorem yQ {n:Int}:okN n=true↔0<=n/\n<=1048576:=by simp [okN]
theorem pC {n:Int} (h:okN n=true):∃ u:Nat,n=u/\u<1000000000/\ag n=⟨Lib.decDigits u⟩:=by
 have h:=yQ.1 h
 refine ⟨n.toNat,by omega,by omega,?_⟩
 rw [ag,Lib.itoa,if_neg (by omega)]
theorem dm {n:Int} (h:okN n=true):aN (ag n)=n/\bZ (ag n)=true:=by
 obtain ⟨u,rfl,hu,e⟩:=pC h
 rw [e,aN,bZ]
 have:Lib.atoiAll (Str.mk (Lib.decDigits u)).b = .ok (u:Int):=xd hu
 rw [this]; exact ⟨rfl,rfl⟩
theorem wO:∀ (k u:Nat),u<10 ^ k->0<k->(Lib.decDigits u).length<=k
 | 0,_,_,h=>absurd h (by omega)
 | k+1,u,hu,_=>by
  by_cases h:u<10
  ·rw [Lib.decDigits,dif_pos h]; simp
  ·have hk:0<k:=by
    rcases Nat.eq_zero_or_pos k with rfl | hk
    ·simp at hu; omega
    ·exact hk
   have:=wO k (u / 10) (by rw [Nat.pow_succ] at hu; omega) hk
   rw [Lib.decDigits,dif_neg h,List.length_append,List.length_singleton]; omega
theorem oz (l r:List UInt8):∀ k,k<=l.length->dc (l++r) k=dc l k
 | 0,_=>rfl
 | k+1,h=>by
  rw [dc,dc,oz l r k (by omega),List.getD_eq_getElem?_getD,List.getElem?_append_left (by omega),List.getD_eq_getElem?_getD]
theorem uQ:∀ u:Nat,dc (Lib.decDigits u) (Lib.decDigits u).length=u:=fun u=>by
 induction u using Nat.strongRecOn with
 | _ u ih=>
  by_cases h:u<10
  ·have hd:=th h
   rw [Lib.decDigits,dif_pos h]
   show 10*0+(((UInt8.ofNat (48+u)).toNat:Nat):Int) - 48=u
   rw [hd]; omega
  ·have hd:=th (show u % 10<10 by omega)
   rw [Lib.decDigits,dif_neg h,List.length_append,List.length_singleton,dc,oz _ _ _ (Nat.le_refl _),ih (u / 10) (by omega),List.getD_eq_getElem?_getD,List.getElem?_append_right (Nat.le_refl _),Nat.sub_self]
   show 10*((u / 10:Nat):Int)+(((UInt8.ofNat (48+u % 10)).toNat:Nat):Int) - 48=u
   rw [hd]; omega
theorem eN {n:Int} (h:okN n=true):aC (ag n)=n:=by
 obtain ⟨u,rfl,hu,e⟩:=pC h
 rw [e,aC,Nat.min_eq_left (wO 9 u (by omega) (by omega))]; exact uQ u
theorem ly:∀ {l:List Int},l.all okN=true->(l.map ag).map aN=l/\(l.map ag).all bZ=true/\(l.map ag).map aC=l
 | [],_=>⟨rfl,rfl,rfl⟩
 | a :: l,h=>by
  rw [List.all_cons,Bool.and_eq_true] at h
  obtain ⟨h1,h2,h3⟩:=ly h.2
  obtain ⟨h4,h5⟩:=dm h.1
  rw [List.map_cons,List.map_cons,List.all_cons,List.map_cons,h1,h2,h3,h4,h5,eN h.1]; exact ⟨rfl,rfl,rfl⟩
theorem kz:∀ {r:List (List UInt8)} {x:List UInt8},(∀ z ∈ x :: r,okW z)->ak 32 (x++Lib.joinTail [32] r)=x :: r
 | [],x,h=>by
  show ak 32 (x++[])=[x]
  rw [List.append_nil]
  exact iO fun hc=>(h x (by simp) 32 hc).1 rfl
 | y :: r,x,h=>by
  rw [tail_cons,gG fun hc=>(h x (by simp) 32 hc).1 rfl,kz fun z hz=>h z (List.mem_cons_of_mem _ hz)]
theorem lA:∀ l:List Str,(l.map (·.b)).map Str.mk=l
 | []=>rfl
 | ⟨a⟩ :: l=>by rw [List.map_cons,List.map_cons,lA l]
theorem mU {e:Event} (h:lineOk e=true):bS (ao e)=aF e:=by
 have hw:=qg h
 obtain ⟨x,r,hx⟩:=qe e
 have:ak 32 (jn ((aF e).map (·.b)))=(aF e).map (·.b):=by
  rw [hx] at hw ⊢
  rw [jn,Lib.join_cons]; exact kz hw
 rw [bS,bd,ao,if_pos h]
 show (ak 32 (jn ((aF e).map (·.b)))).map Str.mk=_
 rw [this,lA]
theorem yb:∀ j:Fin 16,¬ gg (eU j)<0:=by decide
theorem CK:∀ n:Fin 256,rR (eU (n.1 / 16)) (eU (n.1 % 16))=UInt8.ofNat n.1:=by decide +kernel
theorem GK:∀ n:Fin 256,sU (16*cW (eU (n.1 / 16))+cW (eU (n.1 % 16)))=UInt8.ofNat n.1:=by decide +kernel
theorem p_:∀ l:List UInt8,unwL (l.flatMap bW)=some l
 | []=>rfl
 | c :: l=>by
  have hc:=c.toNat_lt
  have h1:=yb ⟨c.toNat / 16,by omega⟩
  have h2:=yb ⟨c.toNat % 16,by omega⟩
  have h3:=CK ⟨c.toNat,hc⟩
  rw [List.flatMap_cons,bW,List.cons_append,List.cons_append,List.nil_append,unwL,if_neg (fun h=>h.elim h1 h2),p_ l,h3]
  simp
theorem uk {l:List UInt8}:Str.mk (aJ l)=⟨[45]⟩↔l=[]:=by
 constructor
 ·intro h
  rw [Str.mk.injEq] at h
  exact uj (h.trans (show [45]=aJ [] from rfl))
 ·rintro rfl; rfl
theorem xg (l:List UInt8):aS ⟨aJ l⟩=⟨l⟩/\aY ⟨aJ l⟩=true:=by
 by_cases h:l=[]
 ·subst h; exact ⟨rfl,rfl⟩
 ·have hd:=fun hh=>h (uk.1 hh)
  rw [aS,aY,if_neg hd,if_neg hd,aJ,if_neg h,p_]; exact ⟨rfl,rfl⟩
theorem pb:∀ (l:List UInt8) (k:Nat),k<l.length->(l.flatMap bW).getD (2*k) 0=eU ((l.getD k 0).toNat / 16)/\(l.flatMap bW).getD (2*k+1) 0=eU ((l.getD k 0).toNat % 16)
 | [],k,h=>absurd h (by simp)
 | c :: l,0,_=>⟨rfl,rfl⟩
 | c :: l,k+1,h=>by
  have:=pb l k (by simpa using h)
  rw [List.flatMap_cons,bW,show 2*(k+1)=2*k+1+1 by omega]
  exact this
theorem pO (l:List UInt8):∀ k,k<=l.length->dT ⟨l.flatMap bW⟩ k=l.take k
 | 0,_=>rfl
 | k+1,h=>by
  have h1:=pb l k (by omega)
  have h2:=GK ⟨(l.getD k 0).toNat,(l.getD k 0).toNat_lt⟩
  rw [dT,pO l k (by omega),h1.1,h1.2,lO (bg (d:=(0:UInt8)) (show k<l.length by omega)),h2]
  simp
theorem F_ (l:List UInt8):dT ⟨aJ l⟩ ((Str.mk (aJ l)).b.length / 2)=l:=by
 by_cases h:l=[]
 ·subst h; rfl
 ·rw [aJ,if_neg h]
  show dT _ ((l.flatMap bW).length / 2)=l
  rw [eO,show 2*l.length / 2=l.length by omega,pO l _ (Nat.le_refl _),List.take_length]
theorem HO:∀ k:Fin 10,1<=k.1->kv (cb.getD k.1 ⟨[]⟩) 9=(k.1:Int)/\jF (cb.getD k.1 ⟨[]⟩)=some (k.1:Int):=by decide +kernel
theorem tf {k:Int} (h1:1<=k) (h2:k<10):kv (cA k) 9=k/\jF (cA k)=some k:=by
 have:=HO ⟨k.toNat,by omega⟩ (by simp only; omega)
 have e:((k.toNat:Nat):Int)=k:=by omega
 simp only [e] at this
 exact this
section
variable {e:Event}
theorem rz (h:lineOk e=true):bz (aF e)=e/\bP (aF e)=true:=by
 obtain ⟨h1,h2,h3,h4,h5,h6,h7⟩:=bw.1 h
 have hp:pk (aF e)=e.kind:=by
  show (jF (cA e.kind)).getD 0=_
  rw [(tf h1 h2).2]; rfl
 have ha:=dm h3
 cases hs:bl e.kind
 ·have hb:=h5 hs
  by_cases hk:e.kind=6
  ·obtain ⟨k1,k2,k3,k4⟩:=h6 hk
   simp only [fb,List.all_cons,List.all_nil,Bool.and_eq_true,Bool.and_true] at k3
   obtain ⟨c1,c2,c3,c4,c5,c6⟩:=k3
   obtain ⟨m1,m2,_⟩:=ly k4
   have hw:=xg e.c.text.b
   have c1:=dm c1; have c2:=dm c2; have c3:=dm c3; have c4:=dm c4; have c5:=dm c5; have c6:=dm c6
   have hws:aF e=cA e.kind :: ag e.a :: ag e.c.kind :: ag e.c.client :: ag e.c.seq :: ag e.c.set :: ag e.c.id :: ag e.c.n :: ⟨aJ e.c.text.b⟩ :: e.c.chunks.map ag:=by
    rw [aF,hs,if_pos hk]; rfl
   have h8:¬ (((Str.mk (aJ e.c.text.b) :: e.c.chunks.map ag).length:Int)=0\/17<((Str.mk (aJ e.c.text.b) :: e.c.chunks.map ag).length:Int)):=by
    rw [List.length_cons,List.length_map]; omega
   have hs2:¬ bl (pk (aF e))=true:=by rw [hp,hs]; decide
   have hk2:¬ ¬ pk (aF e)=6:=fun hn=>hn (by rw [hp,hk])
   rw [bz,if_neg hs2,if_neg hk2,bP,if_neg hs2,if_neg hk2,hp,hws]
   simp only [List.drop_succ_cons,List.drop_zero,List.getD_cons_zero,tk,cw,lu,qI]
   rw [if_neg h8,if_neg h8,ha.1,ha.2,c1.1,c1.2,c2.1,c2.2,c3.1,c3.2,c4.1,c4.2,c5.1,c5.2,c6.1,c6.2,m1,m2,hw.1,hw.2,<- hb]
   exact ⟨rfl,rfl⟩
  ·have hc:=empty_eq (h7 hk) (show cj cD=true by decide)
   have hws:aF e=[cA e.kind,ag e.a]:=by rw [aF,hs,if_neg hk]; rfl
   have hs2:¬ bl (pk (aF e))=true:=by rw [hp,hs]; decide
   have hk2:¬ pk (aF e)=6:=by rw [hp]; exact hk
   rw [bz,if_neg hs2,if_pos hk2,bP,if_neg hs2,if_pos hk2,hp,hws]
   simp only [List.drop_succ_cons,List.drop_zero,tk,cw]
   rw [ha.1,ha.2,<- hc,<- hb]
   exact ⟨rfl,rfl⟩
 ·have hk:¬ e.kind=6:=by intro hk; rw [hk] at hs; exact absurd hs (by decide)
  have hb:=dm (h4 hs)
  have hc:=empty_eq (h7 hk) (show cj cD=true by decide)
  have hws:aF e=[cA e.kind,ag e.a,ag e.b]:=by rw [aF,hs,if_neg hk]; rfl
  have hs2:bl (pk (aF e))=true:=by rw [hp,hs]
  rw [bz,if_pos hs2,bP,if_pos hs2,hp,hws]
  simp only [List.drop_succ_cons,List.drop_zero,tk,cw]
  rw [ha.1,ha.2,hb.1,hb.2,<- hc]
  exact ⟨rfl,rfl⟩
theorem yj (h:lineOk e=true) {s:Str} (hW:bS s=aF e):uD s=e:=by
 obtain ⟨h1,h2,h3,h4,h5,h6,h7⟩:=bw.1 h
 have hp:ru s=e.kind:=by
  rw [ru,gw,hW]
  exact (tf h1 h2).1
 have ha:=eN h3
 cases hs:bl e.kind
 ·have hb:=h5 hs
  by_cases hk:e.kind=6
  ·obtain ⟨k1,k2,k3,k4⟩:=h6 hk
   simp only [fb,List.all_cons,List.all_nil,Bool.and_eq_true,Bool.and_true] at k3
   obtain ⟨c1,c2,c3,c4,c5,c6⟩:=k3
   obtain ⟨_,_,m1⟩:=ly k4
   have hws:aF e=cA e.kind :: ag e.a :: ag e.c.kind :: ag e.c.client :: ag e.c.seq :: ag e.c.set :: ag e.c.id :: ag e.c.n :: ⟨aJ e.c.text.b⟩ :: e.c.chunks.map ag:=by
    rw [aF,hs,if_pos hk]; rfl
   have hl:8<(bS s).length:=by rw [hW,hws]; simp only [List.length_cons]; omega
   have e1:aR s=e.a:=by rw [aR,if_pos (by omega),gw,hW,hws]; exact ha
   have e2:bR s=e.b:=by rw [bR,if_neg (by rw [hp,hs]; simp),hb]
   have e3:cR s=e.c:=by
    rw [cR,if_pos ⟨by rw [hp,hk],hl⟩]
    simp only [gw,hW,hws,List.getD_cons_succ,List.getD_cons_zero,List.drop_succ_cons,List.drop_zero]
    rw [eN c1,eN c2,eN c3,eN c4,eN c5,eN c6,m1,F_]
   rw [uD,hp,e1,e2,e3]
  ·have hc:=empty_eq (h7 hk) (show cj cD=true by decide)
   have hws:aF e=[cA e.kind,ag e.a]:=by rw [aF,hs,if_neg hk]; rfl
   have hl:1<(bS s).length:=by rw [hW,hws]; simp
   have e1:aR s=e.a:=by rw [aR,if_pos hl,gw,hW,hws]; exact ha
   have e2:bR s=e.b:=by rw [bR,if_neg (by rw [hp,hs]; simp),hb]
   have e3:cR s=e.c:=by rw [cR,if_neg (by rw [hp]; exact fun h=>hk h.1),hc]
   rw [uD,hp,e1,e2,e3]
 ·have hk:¬ e.kind=6:=by intro hk; rw [hk] at hs; exact absurd hs (by decide)
  have hb:=eN (h4 hs)
  have hc:=empty_eq (h7 hk) (show cj cD=true by decide)
  have hws:aF e=[cA e.kind,ag e.a,ag e.b]:=by rw [aF,hs,if_neg hk]; rfl
  have hl:2<(bS s).length:=by rw [hW,hws]; simp
  have e1:aR s=e.a:=by rw [aR,if_pos (by omega),gw,hW,hws]; exact ha
  have e2:bR s=e.b:=by rw [bR,if_pos ⟨by rw [hp,hs],hl⟩,gw,hW,hws]; exact hb
  have e3:cR s=e.c:=by rw [cR,if_neg (by rw [hp]; exact fun h=>hk h.1),hc]
  rw [uD,hp,e1,e2,e3]
theorem cM:ax e=0↔lineOk e=true:=by
 rw [ax]; split <;> simp_all
theorem uh (h:lineOk e=true):aV (ao e)=e/\bN (ao e)=0:=by
 have hp:=rz h
 have hk:yD (ao e)=true:=by
  rw [yD,mU h,hp.1,hp.2,decide_eq_true (cM.2 h),decide_eq_true rfl]; rfl
 rw [aV,bN,if_pos hk,if_pos hk,mU h,hp.1]; exact ⟨rfl,rfl⟩
theorem zw (h:lineOk e=true):kR (ao e)=e/\fT (ao e)=0:=by
 have hp:=yj h (mU h)
 exact Cn hp.symm (cM.2 h) rfl
theorem wU {s:Str} (h:bN s=0):lineOk (aV s)=true/\ao (aV s)=s:=by
 unfold bN at h; unfold aV
 split at h
 ·rename_i hk
  rw [if_pos hk]
  rw [yD,Bool.and_eq_true,Bool.and_eq_true,decide_eq_true_eq,decide_eq_true_eq] at hk
  exact ⟨cM.1 hk.1.2,hk.2⟩
 ·cases h
theorem oO (s:Str):bN s=0\/(bN s=240/\aV s=gq):=by
 unfold bN aV; split <;> simp
theorem nx (s:Str):aV s=kR s/\bN s=fT s:=by
 rcases oO s with h | ⟨h1,h2⟩
 ·obtain ⟨k1,k2⟩:=wU h
  have:=zw k1
  rw [k2] at this
  rw [h,this.1,this.2]; exact ⟨rfl,rfl⟩
 ·have hn:¬ AZ s=true:=by
   intro hk
   have hk2:=hk
   rw [AZ,Bool.and_eq_true,decide_eq_true_eq,decide_eq_true_eq] at hk2
   have:=uh (cM.1 hk2.1)
   rw [hk2.2,h1] at this
   cases this.2
  rw [h1,h2,kR,fT,if_neg hn,if_neg hn]; exact ⟨rfl,rfl⟩
end
def qa:cG:=AG
theorem gO:aZ Tryd.prog (aj aP) qa:=vo
end Go.Proofs.YtagpmhlokhoanaaDoor
namespace Go.Proofs.YtagpmhlokhoanaaDoor
open Go.RowKit Go.ChangeShapes Go.WideShapes
def iE (shp:TypeId->Option Sh) (w:World):Cx:=cx ⟨shp,w.heap.size,fun _=>False⟩ [] w
theorem CY {shp:TypeId->Option Sh} {w:World} {s:Sh} {b:Nat} (h:b<w.heap.size):(iE shp w).at s b:=⟨⟨h,fun ⟨_,_,h,_⟩=>by simp at h,fun h=>h⟩,.inl h⟩
def Tr (P:Program) (shp:TypeId->Option Sh) (t:TypeId) (s:Sh):Prop:=
 ∀ (H:Type) (enc:TypeId × Value->H) (w:World) (fuel:Nat) (cs:List Value) (x:DataW H × List MemPlace),
  DataW.trod enc P w 0 (fun _=>true) true fuel t cs=some x->(∀ n ∈ x.1.weights P t,n<=140737488351232)->(∀ q ∈ x.2,q.block<w.heap.size)->∃ y:den s,Pds (iE shp w) (cellsOf s y) cs
def Cs:List Sh->List AV->Prop
 | [],asx=>asx=[]
 | s :: r,asx=>∃ (y:den s) (l:List AV),asx=cellsOf s y++l/\Cs r l
def Ee:List Sh->Nat
 | []=>0
 | s :: r=>s.size+Ee r
def mm (P:Program) (shp:TypeId->Option Sh) (fs:List Go.Field) (o:Nat) (ss:List Sh):Prop:=
 ∀ (H:Type) (enc:TypeId × Value->H) (w:World) (fuel:Nat) (cs:List Value) (xs:List (DataW H × List MemPlace)),
  cs.length=o+Ee ss->xs.length=fs.length->(∀ (i:Nat) (f:Go.Field),fs[i]? = some f->DataW.trod enc P w 0 (fun _=>true) true fuel f.type ((cs.drop f.offset).take (P.cellsOf f.type))=xs[i]?) ->
  (∀ n ∈ DataW.weightsEach P (fs.map (·.type)) (xs.map (·.1)),n<=140737488351232)->(∀ q ∈ xs.flatMap (·.2),q.block<w.heap.size)->∃ asx,Cs ss asx/\Pds (iE shp w) asx (cs.drop o)
section
variable {P:Program} {shp:TypeId->Option Sh} {t:TypeId}
theorem Tr.int (h:P.underlying t=some (.int .i64)):Tr P shp t .int:=fun _ enc w fuel cs x hx _ _=>by
 obtain ⟨n,rfl,_,hw⟩:=DataW.trod_int h hx
 have h1:IntKind.i64.min = -9223372036854775808:=rfl
 have h2:IntKind.i64.max=9223372036854775807:=rfl
 simp only [Lit.wf,Bool.and_eq_true,decide_eq_true_eq] at hw
 exact ⟨n,.cons (.int ⟨by omega,by omega⟩) .nil⟩
theorem Tr.bool (h:P.underlying t=some .bool):Tr P shp t .bool:=fun _ enc w fuel cs x hx _ _=>by
 obtain ⟨n,rfl,_⟩:=DataW.trod_bool h hx
 exact ⟨n,.cons (Pd.bool (e:=.atom n)) .nil⟩
theorem Tr.u8 (h:P.underlying t=some (.int .u8)):Tr P shp t .u8:=fun _ enc w fuel cs x hx _ _=>by
 obtain ⟨n,rfl,_,hw⟩:=DataW.trod_int h hx
 have h1:IntKind.u8.min=0:=rfl
 have h2:IntKind.u8.max=255:=rfl
 simp only [Lit.wf,Bool.and_eq_true,decide_eq_true_eq] at hw
 refine ⟨UInt8.ofNat n.toNat,?_⟩
 have:n=((UInt8.ofNat n.toNat).toNat:Int):=by
  rw [UInt8.toNat_ofNat']; omega
 generalize hg:UInt8.ofNat n.toNat=b at this
 subst this
 exact .cons .u8 .nil
theorem Tr.u64 (h:P.underlying t=some (.int .u64)):Tr P shp t .u64:=fun _ enc w fuel cs x hx _ _=>by
 obtain ⟨n,rfl,_,hw⟩:=DataW.trod_int h hx
 have h1:IntKind.u64.min=0:=rfl
 have h2:IntKind.u64.max=18446744073709551615:=rfl
 simp only [Lit.wf,Bool.and_eq_true,decide_eq_true_eq] at hw
 refine ⟨⟨n.toNat⟩,?_⟩
 have:n=(n.toNat:Int):=by omega
 generalize hg:n.toNat=b at this
 subst this
 exact .cons (.u64 (by show b<_; omega)) .nil
theorem Tr.str (h:P.underlying t=some .string):Tr P shp t .str:=fun _ enc w fuel cs x hx hw _=>by
 obtain ⟨s,rfl,hx,_⟩:=DataW.trod_string h hx
 refine ⟨⟨s.data.toList⟩,?_⟩
 have:=hw s.data.toList.length (by rw [hx]; simp [DataW.weights])
 have e:=Pd.str (c:=iE shp w) (s:=⟨s.data.toList⟩) (by show s.data.toList.length<=_; omega)
 have e2:(⟨s.data.toList⟩:Str).val = .string s:=by simp [Str.val]
 rw [e2] at e
 exact .cons e .nil
theorem fq {H:Type} {e:TypeId}:∀ {ds:List (DataW H)} {d:DataW H},d ∈ ds->∀ n ∈ d.weights P e,n ∈ DataW.weightsAll P e ds
 | [],_,h,_,_=>by cases h
 | d0 :: ds,d,h,n,hn=>by
  rw [DataW.weightsAll,List.mem_append]
  rcases List.mem_cons.1 h with rfl | h
  ·exact .inl hn
  ·exact .inr (fq h n hn)
theorem ud {s:Sh} {xs:List (den s)} {y:den s}:(xs++[y]).flatMap (cellsOf s)=xs.flatMap (cellsOf s)++cellsOf s y:=by simp
theorem Tr.list {e:TypeId} {s:Sh} (ht:P.underlying t=some (.slice e)) (hC:P.cellsOf e=s.size) (hB:P.bytesOf e=s.bytes) (he:Tr P shp e s):Tr P shp t (.lst s):=fun H enc w fuel cs x hx hw hlt=>by
 have hp:=size_pos s
 rcases DataW.trod_slice ht hx with ⟨rfl,_⟩ | ⟨a,len,cap,elems,rest,n,rfl,rfl,rfl,_,hl,hc,hel,hget,hrest,_⟩
 ·exact ⟨([]:List (den s)),.cons (Pd.nT (.em (a:=none) (b:=true) rfl)) .nil⟩
 ·rw [hC] at *
  have step:∀ m,m<=len->∃ (cells:List Value) (xs:List (den s)),Pds (iE shp w) (xs.flatMap (cellsOf s)) cells/\xs.length=m/\CellsAt w a cells:=by
   intro m
   induction m with
   | zero=>intro _; exact ⟨[],[],.nil,rfl,CellsAt.nil⟩
   | succ m ih=>
    intro hm
    obtain ⟨cells,xs,h1,h2,h3⟩:=ih (by omega)
    have hg:=hget m (by omega)
    have hem:elems[m]? = some (elems[m]'(by omega)):=List.getElem?_eq_getElem (by omega)
    rw [hem,Option.bind_eq_some_iff] at hg
    obtain ⟨cs,hcs,htr⟩:=hg
    have hmem:elems[m]'(by omega) ∈ elems:=List.getElem_mem _
    obtain ⟨y,hy⟩:=he H enc w n cs _ htr
     (fun k hk=>hw k (by
      simp only [DataW.weights,ht,List.mem_cons,List.mem_append]
      exact .inr (.inl (fq (List.mem_map_of_mem hmem) k hk))))
     (fun q hq=>hlt q (by
      simp only [List.mem_append,List.mem_flatMap]
      exact .inr ⟨_,.inl hmem,hq⟩))
    obtain ⟨_,hcl,hat⟩:=World.cells?_some hcs
    refine ⟨cells++cs,xs++[y],by rw [ud]; exact h1.append hy,by simp [h2],fun j v hv=>?_⟩
    have hfl:cells.length=m*s.size:=by rw [<- h1.length,bq,h2]
    by_cases hj:j<m*s.size
    ·rw [List.getElem?_append_left (by omega)] at hv
     exact h3 j v hv
    ·rw [List.getElem?_append_right (by omega),hfl] at hv
     have hj2:=BR hv
     have:=hat (j - m*s.size) (by omega)
     rw [hv,add_add,show m*s.size+(j - m*s.size)=j by omega] at this
     exact this
  obtain ⟨cells,xs,h1,h2,h3⟩:=step len (Nat.le_refl _)
  have hwt:(elems.length+rest.length)*P.bytesOf e<=140737488351232:=hw _ (by simp [DataW.weights,ht])
  refine ⟨xs,.cons ?_ .nil⟩
  subst h2
  refine .fz (by omega) hc ?_ h1 ?_
  ·rw [hB] at hwt
   have:xs.length*s.bytes<=(elems.length+rest.length)*s.bytes:=Nat.mul_le_mul_right _ (by omega)
   omega
  ·by_cases h0:xs.length=0
   ·left; exact List.eq_nil_of_length_eq_zero h0
   ·right
    refine ⟨a,rfl,CY ?_,h3⟩
    have:MemPlace.cell a.block (a.off+0) ∈ MemPlace.row a ((elems.length+rest.length)*s.size):=MemPlace.mem_row.2 ⟨0,Nat.mul_pos (by omega) hp,rfl⟩
    exact hlt _ (List.mem_append_left _ this)
theorem mm.nil {o:Nat}:mm P shp [] o []:=fun H enc w fuel cs xs hl _ _ _ _=>⟨[],rfl,by rw [List.drop_eq_nil_of_le (by simp only [Ee] at hl; omega)]; exact .nil⟩
theorem mm.cons {f:Go.Field} {fs:List Go.Field} {o:Nat} {s:Sh} {ss:List Sh} (h:Tr P shp f.type s) (ho:f.offset=o) (hC:P.cellsOf f.type=s.size) (hr:mm P shp fs (o+s.size) ss):mm P shp (f :: fs) o (s :: ss):=fun H enc w fuel cs xs hl hx hf hw hlt=>by
 match xs,hx with
 | x :: xs,hx=>
  have hl':cs.length=o+(s.size+Ee ss):=hl
  have h1:=hf 0 f rfl
  rw [ho,hC] at h1
  obtain ⟨y,hy⟩:=h H enc w fuel _ x h1 (fun n hn=>hw n (by simp [DataW.weightsEach,hn])) (fun q hq=>hlt q (by simp [hq]))
  obtain ⟨z,hz1,hz2⟩:=hr H enc w fuel cs xs (by omega) (by simpa using hx) (fun i f' hi=>by simpa using hf (i+1) f' (by simpa using hi)) (fun n hn=>hw n (by simp only [List.map_cons,DataW.weightsEach,List.mem_append]; exact .inr hn)) (fun q hq=>hlt q (by simp only [List.flatMap_cons,List.mem_append]; exact .inr hq))
  refine ⟨cellsOf s y++z,⟨y,z,rfl,hz1⟩,?_⟩
  have:=hy.append hz2
  rwa [<- List.drop_drop,List.take_append_drop] at this
theorem Tr.struct {s:Sh} {ss:List Sh} {fs:Array Go.Field} (ht:P.underlying t=some (.struct fs)) (hC:P.cellsOf t=Ee ss) (hs:∀ asx,Cs ss asx->∃ y:den s,asx=cellsOf s y) (h:mm P shp fs.toList 0 ss):Tr P shp t s:=fun H enc w fuel cs x hx hw hlt=>by
 obtain ⟨xs,n,_,rfl,hl,hxl,hf⟩:=DataW.trod_struct ht hx
 obtain ⟨asx,h1,h2⟩:=h H enc w n cs xs (by omega) (by simpa using hxl) (fun i f hi=>hf i f (by simpa using hi)) (fun k hk=>hw k (by simpa [DataW.weights,ht] using hk)) hlt
 obtain ⟨y,rfl⟩:=hs asx h1
 exact ⟨y,by simpa using h2⟩
end
section
variable {H:Type} {enc:TypeId × Value->H} {P:Program} {shp:TypeId->Option Sh}
structure Ar (enc:TypeId × Value->H) (P:Program) (W:World) (t:TypeId) (v:Value):Prop where
 form:∃ base,Value.okWide P W .any base t v
 read:∃ d p fuel,DataW.trod enc P W 0 (fun _=>true) true fuel t v.cells.toList=some (d,p)/\(∀ n ∈ d.weights P t,n<=140737488351232)/\(∀ q ∈ p,q.block<W.heap.size)
variable {W:World} {t:TypeId} {v:Value}
theorem Ar.rp {s:Sh} (h:Ar enc P W t v) (ht:Tr P shp t s):∃ y:den s,Pds (iE shp W) (cellsOf s y) v.cells.toList:=by
 obtain ⟨d,p,fuel,h1,h2,h3⟩:=h.read
 exact ht H enc W fuel _ _ h1 h2 h3
theorem mV {a:AV} {u:Value} (h:Pds (iE shp W) [a] [u]):bE (iE shp W) [] (.c a) u:=by cases h with | cons h1 _=>exact fh h1
theorem Ar.int (h:Ar enc P W t v) (ht:P.underlying t=some (.int .i64)):∃ y:Int,bE (iE shp W) [] (.c (.int y)) v:=by
 obtain ⟨base,hf⟩:=h.form
 obtain ⟨n,rfl⟩:=okWide_int ht hf
 obtain ⟨y,h1⟩:=h.rp (shp:=shp) (Tr.int ht)
 exact ⟨y,mV (by simpa [Value.cells,cellsOf] using h1)⟩
theorem Ar.u8 (h:Ar enc P W t v) (ht:P.underlying t=some (.int .u8)):∃ y:UInt8,bE (iE shp W) [] (.c (.u8 y)) v:=by
 obtain ⟨base,hf⟩:=h.form
 obtain ⟨n,rfl⟩:=okWide_int ht hf
 obtain ⟨y,h1⟩:=h.rp (shp:=shp) (Tr.u8 ht)
 exact ⟨y,mV (by simpa [Value.cells,cellsOf] using h1)⟩
theorem Ar.bool (h:Ar enc P W t v) (ht:P.underlying t=some .bool):∃ y:Bool,bE (iE shp W) [] (.c (.bool (.atom y))) v:=by
 obtain ⟨base,hf⟩:=h.form
 obtain ⟨b,rfl⟩:=okWide_bool ht hf
 exact ⟨b,Pd.bool (e:=.atom b)⟩
theorem Ar.list {e:TypeId} {s:Sh} (h:Ar enc P W t v) (hu:P.underlying t=some (.slice e)) (ht:Tr P shp t (.lst s)):∃ xs:List (den s),bE (iE shp W) [] (.c (.fz s xs)) v:=by
 obtain ⟨base,hf⟩:=h.form
 obtain ⟨a,len,cap,rfl⟩:=okWide_slice hu hf
 obtain ⟨y,h1⟩:=h.rp ht
 exact ⟨y,mV (by simpa [Value.cells,cellsOf] using h1)⟩
theorem zV {f:Nat} {args:List TV1} {pre:List Prop} {e:BE} {vs:List Value} (h:Sat P shp f args [] ⟨pre,[.c (.bool e)],none,false⟩) (he:e.val=true) (hv:All2 (bE (iE shp W) []) args vs) (htb:TabsOK (iE shp W):=by refine ⟨?_,?_⟩ <;> intro e he <;> first | simp [qY] at he | simp [ur] at he):mj P f vs.toArray W fun r W'=>r = .bool true/\Kp [] W W':=by
 refine (h.2 ⟨shp,W.heap.size,fun _=>False⟩ [] W vs rfl ⟨.nil,fun _ _ _ _ _ h=>by simp at h,fun _ _ _ h=>by simp at h,fun _ h=>h.elim,Nat.le_refl _,htb⟩ hv).mono fun v w' ⟨us,h1,h2,h3⟩=>⟨?_,h2⟩
 cases h3 with | cons h4 h5=>
 cases h5
 have h4:Pd _ (.bool e) _:=h4
 cases h4
 rw [h1,he]; rfl
theorem sw {base:Nat} {ts:List TypeId} {args:Array Value} {ds:List (DataW H)} {p:List MemPlace} (hf:∀ (j:Nat) t v,ts[j]? = some t->args[j]? = some v->Value.okWide P W .any base t v)
  (h:DataW.TrodAll enc P W 0 (fun _=>true) true ts args.toList ds p) (hw:∀ n ∈ DataW.weightsEach P ts ds,n<=140737488351232) (hlt:∀ q ∈ p,q.block<W.heap.size) :
  args.size=ts.length/\∀ (j:Nat) t v,ts[j]? = some t->args[j]? = some v->Ar enc P W t v:=by
 have key:∀ (ts:List TypeId) (vs:List Value) (ds:List (DataW H)) (p:List MemPlace),DataW.TrodAll enc P W 0 (fun _=>true) true ts vs ds p->(∀ n ∈ DataW.weightsEach P ts ds,n<=140737488351232)->(∀ q ∈ p,q.block<W.heap.size) ->
   vs.length=ts.length/\∀ (j:Nat) t v,ts[j]? = some t->vs[j]? = some v->∃ d p fuel,DataW.trod enc P W 0 (fun _=>true) true fuel t v.cells.toList=some (d,p)/\(∀ n ∈ d.weights P t,n<=140737488351232)/\(∀ q ∈ p,q.block<W.heap.size):=by
  intro ts
  induction ts with
  | nil=>intro vs ds p h _ _; obtain ⟨rfl,_,_⟩:=trodAll_nil h; exact ⟨rfl,fun j t v h=>by simp at h⟩
  | cons t ts ih=>
   intro vs ds p h hw hlt
   obtain ⟨v,vs,d,ds,p1,p2,rfl,rfl,rfl,h1,h2⟩:=trodAll_cons h
   obtain ⟨k1,k2⟩:=ih vs ds p2 h2 (fun n hn=>hw n (by rw [DataW.weightsEach,List.mem_append]; exact .inr hn)) (fun q hq=>hlt q (List.mem_append_right _ hq))
   refine ⟨by simp [k1],fun j t' v' ht hv=>?_⟩
   cases j with
   | zero=>
    simp at ht hv
    subst ht; subst hv
    obtain ⟨fuel,hf⟩:=h1
    exact ⟨d,p1,fuel,hf,fun n hn=>hw n (by rw [DataW.weightsEach,List.mem_append]; exact .inl hn),fun q hq=>hlt q (List.mem_append_left _ hq)⟩
   | succ j=>exact k2 j t' v' (by simpa using ht) (by simpa using hv)
 obtain ⟨k1,k2⟩:=key ts args.toList ds p h hw hlt
 exact ⟨by simpa using k1,fun j t v ht hv=>⟨⟨base,hf j t v ht hv⟩,k2 j t v ht (by simpa using hv)⟩⟩
theorem tq (hl:laidOutB P=true) {W':World} (hb:Below W.heap.size W W'):∀ (ts:List TypeId) (vs:List Value) (ds:List (DataW H)) (p:List MemPlace),ts.all (fun t=>P.readableRec t && decide (t<P.types.size))=true->DataW.TrodAll enc P W 0 (fun _=>true) true ts vs ds p->(∀ q ∈ p,q.block<W.heap.size) ->
  DataW.TrodAll enc P W' 0 (fun b=>decide (b<W.heap.size)) true ts vs ds p:=by
 intro ts
 induction ts with
 | nil=>intro vs ds p _ h _; obtain ⟨rfl,rfl,rfl⟩:=trodAll_nil h; rfl
 | cons t ts ih=>
  intro vs ds p hr h hlt
  obtain ⟨v,vs,d,ds,p1,p2,rfl,rfl,rfl,h1,h2⟩:=trodAll_cons h
  rw [List.all_cons,Bool.and_eq_true,Bool.and_eq_true,decide_eq_true_eq] at hr
  exact ⟨p1,p2,Below.trod hl hr.1.1 hr.1.2 h1 hb fun q hq=>hlt q (List.mem_append_left _ hq),ih vs ds p2 hr.2 h2 fun q hq=>hlt q (List.mem_append_right _ hq),rfl⟩
theorem oH {fn:Func} {s:ChangeSpec} {tb:TypeId} {W':World} {args:Array Value} {ds:List (DataW H)} {p:List MemPlace} (hl:laidOutB P=true)
  (hrow:fn.params.toList.all (fun t=>P.readableRec t && decide (t<P.types.size))=true) (hr:fn.resultTypes = #[tb]) (hb:P.underlying tb=some .bool) (hv:s.vars=[])
  (hs:s.fn H (ds++[])={ results:=[.lit (.bool true)],args:=ds }) (hW:DataW.Whole enc P fn.params.toList s.vars false W args.toList ds [] p) (hA:DataW.TrodAll enc P W 0 (fun _=>true) true fn.params.toList args.toList ds p) (hlt:∀ q ∈ p,q.block<W.heap.size) (hk:Kp [] W W') :
  s.post enc P fn false true false false W args (.bool true) W':=by
 refine ⟨ds,[],p,[],p,[],hW,?_,?_,?_,hk.below.frame _,fun h=>by cases h⟩
 ·rw [hs,hr]
  exact trodAll_mk1 ⟨1,by simp [DataW.trod,Value.cells,hb]⟩
 ·rw [hs]
  exact tq hl hk.below _ _ _ _ hrow hA hlt
 ·rw [hs,hv]; rfl
end
end Go.Proofs.YtagpmhlokhoanaaDoor
namespace Go.Proofs.YtagpmhlokhoanaaDoor
open Go.RowKit Go.ChangeShapes Go.WideShapes
theorem oX {H:Type} {enc:TypeId × Value->H} {P:Program} {w:World} {base:Nat} {sp:Nat->Bool} {held:Bool} {fuel:Nat} {t e:TypeId} {n:Nat} {cs:List Value} {ls:List (List UInt8)} {p:List MemPlace}
  (ht:P.underlying t=some (.array n e)) (he:P.underlying e=some .string) (hce:P.cellsOf e=1) (hct:P.cellsOf t=n)
  (h:DataW.trod enc P w base sp held fuel t cs=some (.agg (ls.map fun b=>.lit (.string b)),p)):cs=ls.map fun b=>Value.string ⟨b.toArray⟩:=by
 obtain ⟨xs,m,rfl,hx,hl,hn,hel⟩:=DataW.trod_array ht h
 simp only [Prod.mk.injEq,DataW.agg.injEq] at hx
 have hxs:=hx.1
 have hzl:ls.length=n:=by
  have:=congrArg List.length hxs
  simp at this; omega
 rw [hct] at hl
 apply List.ext_getElem?
 intro i
 by_cases hi:i<n
 ·have h1:=hel i hi
  rw [hce,Nat.mul_one] at h1
  have hxi:xs[i]? = some (xs[i]'(by omega)):=List.getElem?_eq_getElem (by omega)
  rw [hxi] at h1
  obtain ⟨s,hc,hq,_⟩:=DataW.trod_string he h1
  have h2:cs[i]? = some (.string s):=by
   have:=congrArg (·[0]?) hc
   simpa [List.getElem?_take,List.getElem?_drop] using this
  have h3:=congrArg (·[i]?) hxs
  simp only [List.getElem?_map,hxi,Option.map_some,hq] at h3
  cases hq2:ls[i]? with
  | none=>rw [hq2] at h3; cases h3
  | some b=>
   rw [hq2] at h3
   simp only [Option.map_some,Option.some.injEq,DataW.lit.injEq,Lit.string.injEq] at h3
   rw [h2,List.getElem?_map,hq2,h3]
   simp
 ·rw [List.getElem?_eq_none (by omega),List.getElem?_eq_none (by simp; omega)]
theorem fi {P:Program} {w:World} {name:String} {g:Nat} {cs:List Value} (hg:P.globalNamed name=some g) (h:w.var? P name=some cs.toArray):∃ t fr,w.heap[g]? = some (.cells (List.toArray cs) t fr):=by
 unfold World.var? at h
 rw [hg] at h
 have h':(match w.heap[g]? with
  | some (.cells cs _ _)=>some cs
  | _=>none)=some cs.toArray:=h
 split at h'
 ·rename_i c t fr hq
  cases h'
  exact ⟨t,fr,hq⟩
 ·cases h'
theorem ph {c:Cx}:∀ {l:List Str},(∀ s ∈ l,s.b.length<=140737488355328)->Pds c (l.flatMap (cellsOf .str)) (l.map Str.val)
 | [],_=>.nil
 | s :: l,h=>.cons (.str (h s (by simp))) (ph fun x hx=>h x (by simp [hx]))
theorem pz {c:Cx}:∀ {l:List U64},(∀ s ∈ l,s.n<18446744073709551616)->Pds c (l.flatMap (cellsOf .u64)) (l.map fun x=>.int .u64 (x.n:Int))
 | [],_=>.nil
 | s :: l,h=>.cons (.u64 (h s (by simp))) (pz fun x hx=>h x (by simp [hx]))
section
variable {H:Type} {enc:TypeId × Value->H}
theorem yo {C:Checked} {os:Os} {f:FuncId} {fn:Func} {s:ChangeSpec} {conds:List PathCond} {tb:TypeId} {L:List (String × DataW Unit)} (own:ownKnob C.prog.godebug=none) (started:os.Started) (noInit:C.prog.inits.idxOf? f=none) (hfn:C.prog.funcs[f]? = some fn)
  (witness:∃ (w:World) (tape:Tape) (i:Input),w.os=os/\(w.forCall tape i).Shaped C.prog/\i.vars=[]/\Input.okWide C.prog (w.forCall tape i) .any w.heap.size f i /\
   ((s.pre enc C.prog fn conds false (w.forCall tape i).memory i.args/\laidMetH C.prog L (w.forCall tape i).memory)/\sizedMet enc C.prog fn (OpenSpec.ofChange s) false (w.forCall tape i).memory i.args)/\({}:Assume).holds C.prog (lone (Frame.enter C.prog f i.args .normal) [] (w.forCall tape i)))
  (hl:laidOutB C.prog=true) (hrow:fn.params.toList.all (fun t=>C.prog.readableRec t && decide (t<C.prog.types.size))=true) (hr:fn.resultTypes = #[tb]) (hb:C.prog.underlying tb=some .bool) (hv:s.vars=[])
  (hs:∀ ds:List (DataW H),ds.length=fn.params.size->s.fn H ds={ results:=[.lit (.bool true)],args:=ds })
  (law:∀ (W:World) (args:Array Value),laidMetH C.prog L W->args.size=fn.params.toList.length->(∀ (j:Nat) t v,fn.params.toList[j]? = some t->args[j]? = some v->Ar enc C.prog W t v)->mj C.prog f args W fun r W'=>r = .bool true/\Kp [] W W') :
  ReturnsInHanded {} C os f .any (fun w args=>(s.pre enc C.prog fn conds false w args/\laidMetH C.prog L w)/\sizedMet enc C.prog fn (OpenSpec.ofChange s) false w args) (s.post enc C.prog fn false true false false):=by
 refine returnsInHanded_of_change_and (X:=fun w _=>laidMetH C.prog L w) (fun _ _ _ hh h=>h.of_heap hh) own started noInit hfn witness ?_
 intro W base args ds gs before hval hW _ hsz hL _
 have hW0:=hW
 obtain ⟨p,q,hA,hV,rfl,_,_⟩:=hW
 rw [hv] at hV
 obtain ⟨rfl,rfl⟩:=trodVars_none hV
 simp only [List.append_nil] at hW0 hsz
 have hlt:∀ x ∈ p,x.block<W.heap.size:=fun x hx=>by simpa using hW0.lt x hx
 have hwt:∀ n ∈ DataW.weightsEach C.prog fn.params.toList ds,n<=140737488351232:=fun n hn=>by
  have hmem:n ∈ DataW.weightsEach C.prog (fn.params.toList++s.plain.varTypes C.prog) ds:=by
   have:∀ (ts us:List TypeId) (ds:List (DataW H)),n ∈ DataW.weightsEach C.prog ts ds->n ∈ DataW.weightsEach C.prog (ts++us) ds:=by
    intro ts
    induction ts with
    | nil=>intro us ds h; simp [DataW.weightsEach] at h
    | cons t ts ih=>
     intro us ds h
     cases ds with
     | nil=>simp [DataW.weightsEach] at h
     | cons d ds=>
      rw [DataW.weightsEach,List.mem_append] at h
      rw [List.cons_append,DataW.weightsEach,List.mem_append]
      exact h.imp id (ih us ds)
   exact this _ _ _ hn
  exact of_decide_eq_true (List.all_eq_true.1 hsz n hmem)
 obtain ⟨hsize,har⟩:=sw (fun j t v ht hv=>hval j t v (by simpa using ht) hv) hA hwt hlt
 have hdl:ds.length=fn.params.size:=by
  have:∀ (ts:List TypeId) (vs:List Value) (ds:List (DataW H)) (p:List MemPlace),DataW.TrodAll enc C.prog W 0 (fun _=>true) true ts vs ds p->ds.length=ts.length:=by
   intro ts
   induction ts with
   | nil=>intro vs ds p h; obtain ⟨_,rfl,_⟩:=trodAll_nil h; rfl
   | cons t ts ih=>intro vs ds p h; obtain ⟨v,vs,d,ds,p1,p2,rfl,rfl,rfl,_,h2⟩:=trodAll_cons h; simp [ih vs ds p2 h2]
  simpa using this _ _ _ _ hA
 refine Calls.mono (law W args hL hsize har) fun e W' ⟨v,he,hv',hk⟩=>⟨v,he,?_⟩
 subst hv'
 exact oH hl hrow hr hb hv (by rw [List.append_nil]; exact hs ds hdl) hW0 hA hlt hk
theorem lG {C:Checked} {os:Os} {f:FuncId} {fn:Func} {s:ChangeSpec} {conds:List PathCond} {tb:TypeId} {L:List (String × DataW Unit)} (own:ownKnob C.prog.godebug=none) (started:os.Started) (noInit:C.prog.inits.idxOf? f=none) (hfn:C.prog.funcs[f]? = some fn)
  (witness:∃ (w:World) (tape:Tape) (i:Input),w.os=os/\(w.forCall tape i).Shaped C.prog/\i.vars=[]/\Input.okWide C.prog (w.forCall tape i) .any w.heap.size f i /\
   ((s.pre enc C.prog fn conds false (w.forCall tape i).memory i.args/\laidMetH C.prog L (w.forCall tape i).memory)/\sizedMet enc C.prog fn (OpenSpec.ofChange s) false (w.forCall tape i).memory i.args)/\({}:Assume).holds C.prog (lone (Frame.enter C.prog f i.args .normal) [] (w.forCall tape i)))
  (hl:laidOutB C.prog=true) (hrow:fn.params.toList.all (fun t=>C.prog.readableRec t && decide (t<C.prog.types.size))=true) (hr:fn.resultTypes = #[tb]) (hb:C.prog.underlying tb=some .bool) (hv:s.vars=[])
  (hs:∀ ds:List (DataW H),ds.length=fn.params.size->s.fn H ds={ results:=[.lit (.bool true)],args:=ds })
  (law:∀ (W:World) (args:Array Value),laidMetH C.prog L W->W.ShapedOpen C.prog->args.size=fn.params.toList.length->(∀ (j:Nat) t v,fn.params.toList[j]? = some t->args[j]? = some v->Ar enc C.prog W t v)->mj C.prog f args W fun r W'=>r = .bool true/\Kp [] W W') :
  ReturnsInHanded {} C os f .any (fun w args=>(s.pre enc C.prog fn conds false w args/\laidMetH C.prog L w)/\sizedMet enc C.prog fn (OpenSpec.ofChange s) false w args) (s.post enc C.prog fn false true false false):=by
 refine returnsInHanded_of_calls own started noInit witness ?_
 intro w tape i _ hsh _ hok hpre _
 obtain ⟨_,_,_,fn',hfn',_,_,_,_,hval⟩:=hok
 have e:fn' = fn:=Option.some.inj (hfn'.symm.trans hfn)
 subst e
 obtain ⟨⟨⟨ds,gs,before,hw,hc⟩,hx⟩,hz⟩:=hpre
 have hw':=DataW.Whole.of_heap (w':=w.forCall tape i) (by rfl) hw
 suffices main:∀ (W:World) (base:Nat) (args:Array Value),(∀ (j:Nat) t v,fn'.params[j]? = some t->args[j]? = some v->Value.okWide C.prog W .any base t v)->DataW.Whole enc C.prog fn'.params.toList s.vars false W args.toList ds gs before ->
   (DataW.weightsEach C.prog (fn'.params.toList++s.plain.varTypes C.prog) (ds++gs)).all (· <= reachBytes)=true->laidMetH C.prog L W->W.ShapedOpen C.prog->Calls C.prog f args W fun e W'=>∃ v,e = .returned v/\s.post enc C.prog fn' false true false false W args v W' by
  refine (main (w.forCall tape i) w.heap.size i.args hval hw' (hz.weights hw) (laidMetH.of_heap (by rfl) hx) hsh).mono fun e W' ⟨v,he,hp⟩=>?_
  subst he
  exact ChangeSpec.post_blind hp
 clear hval hw hc hx hz hw' hsh
 intro W base args hval hW hsz hL hsh
 have hW0:=hW
 obtain ⟨p,q,hA,hV,rfl,_,_⟩:=hW
 rw [hv] at hV
 obtain ⟨rfl,rfl⟩:=trodVars_none hV
 simp only [List.append_nil] at hW0 hsz
 have hlt:∀ x ∈ p,x.block<W.heap.size:=fun x hx=>by simpa using hW0.lt x hx
 have hwt:∀ n ∈ DataW.weightsEach C.prog fn'.params.toList ds,n<=140737488351232:=fun n hn=>by
  have hmem:n ∈ DataW.weightsEach C.prog (fn'.params.toList++s.plain.varTypes C.prog) ds:=by
   have:∀ (ts us:List TypeId) (ds:List (DataW H)),n ∈ DataW.weightsEach C.prog ts ds->n ∈ DataW.weightsEach C.prog (ts++us) ds:=by
    intro ts
    induction ts with
    | nil=>intro us ds h; simp [DataW.weightsEach] at h
    | cons t ts ih=>
     intro us ds h
     cases ds with
     | nil=>simp [DataW.weightsEach] at h
     | cons d ds=>
      rw [DataW.weightsEach,List.mem_append] at h
      rw [List.cons_append,DataW.weightsEach,List.mem_append]
      exact h.imp id (ih us ds)
   exact this _ _ _ hn
  exact of_decide_eq_true (List.all_eq_true.1 hsz n hmem)
 obtain ⟨hsize,har⟩:=sw (fun j t v ht hv=>hval j t v (by simpa using ht) hv) hA hwt hlt
 have hdl:ds.length=fn'.params.size:=by
  have:∀ (ts:List TypeId) (vs:List Value) (ds:List (DataW H)) (p:List MemPlace),DataW.TrodAll enc C.prog W 0 (fun _=>true) true ts vs ds p->ds.length=ts.length:=by
   intro ts
   induction ts with
   | nil=>intro vs ds p h; obtain ⟨_,rfl,_⟩:=trodAll_nil h; rfl
   | cons t ts ih=>intro vs ds p h; obtain ⟨v,vs,d,ds,p1,p2,rfl,rfl,rfl,_,h2⟩:=trodAll_cons h; simp [ih vs ds p2 h2]
  simpa using this _ _ _ _ hA
 refine Calls.mono (law W args hL hsh hsize har) fun e W' ⟨v,he,hv',hk⟩=>⟨v,he,?_⟩
 subst hv'
 exact oH hl hrow hr hb hv (by rw [List.append_nil]; exact hs ds hdl) hW0 hA hlt hk
theorem Ar.str {P:Program} {W:World} {shp:TypeId->Option Sh} {t:TypeId} {v:Value} (h:Ar enc P W t v) (ht:P.underlying t=some .string):∃ y:Str,bE (iE shp W) [] (.c (.str y)) v:=by
 obtain ⟨base,hf⟩:=h.form
 obtain ⟨n,rfl⟩:=okWide_string ht hf
 obtain ⟨y,h1⟩:=h.rp (shp:=shp) (Tr.str ht)
 exact ⟨y,mV (by simpa [Value.cells,cellsOf] using h1)⟩
end
end Go.Proofs.YtagpmhlokhoanaaDoor
namespace Go.Proofs.YtagpmhlokhoanaaDoor
open Go.RowKit Go.ChangeShapes Go.WideShapes
theorem w_ {c:Array Value} {l:List Value} (h:c.toList=l):c=l.toArray:=by rw [<- h]
theorem gi {W:World} {g:Nat} {o:Obj} (h:W.heap[g]? = some o):(iE (aj aP) W).S g/\g<(iE (aj aP) W).B0:=by
 have h1:=(Array.getElem?_eq_some_iff.1 h).1
 refine ⟨⟨h1,?_,fun h=>h⟩,h1⟩
 rintro ⟨i,r,h2,_⟩
 simp at h2
theorem zP {W:World} {g:Nat} {xs:List Str} {t:TypeId} {fr:Nat × Nat} (h:W.heap[g]? = some (.cells (List.toArray (xs.map Str.val)) t fr)) (h1:xs.length<=1000) (h2:∀ s ∈ xs,s.b.length<=140737488355328):(iE (aj aP) W).S g/\g<(iE (aj aP) W).B0/\xs.length<=maxLen/\xs.length*Sh.bytes .str<=140737488355328/\∃ cells t fr,(iE (aj aP) W).w.heap[g]? = some (.cells (List.toArray cells) t fr)/\Pds (iE (aj aP) W) (xs.flatMap (cellsOf .str)) cells:=
 ⟨(gi h).1,(gi h).2,by simp only [maxLen]; omega,by simp only [Sh.bytes]; omega,_,t,fr,h,ph h2⟩
theorem As {W:World} {g:Nat} {xs:List U64} {t:TypeId} {fr:Nat × Nat} (h:W.heap[g]? = some (.cells (List.toArray (xs.map fun x=>Value.int .u64 (x.n:Int))) t fr)) (h1:xs.length<=1000) (h2:∀ s ∈ xs,s.n<18446744073709551616):(iE (aj aP) W).S g/\g<(iE (aj aP) W).B0/\xs.length<=maxLen/\xs.length*Sh.bytes .u64<=140737488355328/\∃ cells t fr,(iE (aj aP) W).w.heap[g]? = some (.cells (List.toArray cells) t fr)/\Pds (iE (aj aP) W) (xs.flatMap (cellsOf .u64)) cells:=
 ⟨(gi h).1,(gi h).2,by simp only [maxLen]; omega,by simp only [Sh.bytes]; omega,_,t,fr,h,pz h2⟩
theorem Al {W:World} (h0:∃ t fr,W.heap[0]? = some (.cells (List.toArray (cb.map Str.val)) t fr)) (h1:∃ t fr,W.heap[1]? = some (.cells (List.toArray (rh.map fun x=>Value.int .u64 (x.n:Int))) t fr))
  (h2:∃ m t fr,W.heap[2]? = some (.cells #[.int .i64 m] t fr)) (h3:∃ tp p t fr,W.heap[3]? = some (.cells #[.iface tp p] t fr)) (h4:∃ tp p t fr,W.heap[4]? = some (.cells #[.iface tp p] t fr)):TabsOK (iE (aj aP) W):=by
 obtain ⟨t0,f0,h0⟩:=h0
 obtain ⟨t1,f1,h1⟩:=h1
 obtain ⟨m2,t2,f2,h2⟩:=h2
 obtain ⟨a3,b3,t3,f3,h3⟩:=h3
 obtain ⟨a4,b4,t4,f4,h4⟩:=h4
 refine ⟨fun q hq=>?_,fun e he=>?_⟩
 ·simp only [ur,List.mem_cons,List.not_mem_nil,or_false] at hq
  rcases hq with rfl | rfl | rfl
  ·exact ⟨(gi h2).1,_,_,_,h2,m2,rfl⟩
  ·exact ⟨(gi h3).1,_,_,_,h3,_,_,rfl⟩
  ·exact ⟨(gi h4).1,_,_,_,h4,_,_,rfl⟩
 ·simp only [qY,List.mem_cons,List.not_mem_nil,or_false] at he
  rcases he with rfl | rfl
  ·exact zP h0 (by decide) (by decide)
  ·exact As h1 (by decide) (by decide)
theorem star:"*" ++ "errors.errorString" = "*errors.errorString":=by decide
theorem GX (u:TypeId) (h:Tryd.prog.typeName? 3 u=some "*errors.errorString"):u=118:=
 typeName_ptr_named (nm:="errors.errorString") (by rw [star]; kernel_rfl) (by kernel_rfl) (by decide) u (by rw [star]; exact h)
theorem CC {W:World} (h:W.ShapedOpen Tryd.prog):∃ m t fr,W.heap[2]? = some (.cells #[.int .i64 m] t fr):=by
 have hlt:2<Tryd.prog.globals.size:=Nat.le_of_ble_eq_true (show Nat.ble 3 Tryd.prog.globals.size=true by kernel_rfl)
 have hb:((begin Tryd.prog (fun _ _=>0) default).world.heap[2]?).bind Obj.row? = some (#[.int .i64 0],3):=by kernel_rfl
 obtain ⟨m,hm⟩:=cell_of_shapedOpen_int h hlt hb rfl (by kernel_rfl) (by kernel_rfl) Tryd.underlying3
 obtain ⟨cs,hh,hs,_⟩:=h.1 2 _ _ hlt hb
 have hcs:cs = #[.int .i64 m]:=by
  obtain ⟨l⟩:=cs
  have hl:l.length=1:=hs
  match l,hl with
  | [x],_=>
   have:W.cell? ⟨2,0,none⟩=some x:=by simp [World.cell?,hh]
   rw [this] at hm
   cases hm; rfl
 rw [hcs] at hh
 exact ⟨m,_,_,hh⟩
theorem wQ {W:World} {n:String} {g:Nat} {text:List UInt8} {r:List (String × DataW Unit)} (h:laidMet Tryd.prog ((n,.iface "*errors.errorString" (.ptr (.agg [.lit (.string text)]))) :: r) W)
  (hg:Tryd.prog.globalNamed n=some g) (ht:(Tryd.prog.globals[g]?).map (·.type)=some 64):∃ tp p t fr,W.heap[g]? = some (.cells #[.iface tp p] t fr):=by
 obtain ⟨a,s,hv,-,-,-⟩:=laid_sentinel h hg ht Tryd.underlying64 GX Tryd.underlying118 Tryd.underlying120 rfl rfl Tryd.underlying9 (by kernel_rfl) (by kernel_rfl)
 obtain ⟨t,fr,hw⟩:=fi (cs:=[.iface _ _]) hg hv
 exact ⟨_,_,t,fr,hw⟩
theorem tD {W:World} (h:laidMetH Tryd.prog Rows.scriptLinesRow.laid W) (hsh:W.ShapedOpen Tryd.prog):TabsOK (iE (aj aP) W):=by
 rw [MakeChecks.laidMetH_plain _ _ _ (by kernel_rfl)] at h
 have h2:=h.tail.tail
 have h4:=h2.tail.tail
 have h5:=h4.tail
 have h6:=h5.tail
 obtain ⟨_,⟨g2,t2,c2,_,_,_,hg2,ht2,hv2,hd2,_,_⟩,_,_⟩:=h2
 obtain ⟨_,⟨g3,t3,c3,_,_,_,hg3,ht3,hv3,hd3,_,_⟩,_,_⟩:=h6
 obtain rfl:1=g2:=Option.some.inj ((show some 1=Tryd.prog.globalNamed _ by kernel_rfl).trans hg2)
 obtain rfl:0=g3:=Option.some.inj ((show some 0=Tryd.prog.globalNamed _ by kernel_rfl).trans hg3)
 obtain rfl:106=t2:=Option.some.inj ((show some 106=(Tryd.prog.globals[1]?).map (·.type) by kernel_rfl).trans ht2)
 obtain rfl:45=t3:=Option.some.inj ((show some 45=(Tryd.prog.globals[0]?).map (·.type) by kernel_rfl).trans ht3)
 have e2:=Lib.cells_of_tab (k:=.u64) (zs:=Lib.pow10Tab) Tryd.underlying106 Tryd.underlying90 (by kernel_rfl) (by kernel_rfl) hd2
 have e3:=oX (ls:=cb.map (·.b)) Tryd.underlying45 Tryd.underlying9 (by kernel_rfl) (by kernel_rfl) hd3
 exact Al (fi hg3 (hv3.trans (congrArg some (w_ (e3.trans rfl))))) (fi hg2 (hv2.trans (congrArg some (w_ (e2.trans rfl))))) (CC hsh) (wQ h5 (by kernel_rfl) (by kernel_rfl)) (wQ h4 (by kernel_rfl) (by kernel_rfl))
end Go.Proofs.YtagpmhlokhoanaaDoor
namespace Go.Proofs.YtagpmhlokhoanaaDoor
open Go.RowKit Go.Proofs Go.Shelf
set_option maxHeartbeats 1000000 in
set_option maxRecDepth 100000 in
theorem oG (g:Nat) (p:Value) (w:World) (hb:w.heap[g]? = some (.cells #[p,.slice none 0 0] 62 (0,0))) :
  Calls Tryd.prog 39 #[.pointer (some ⟨g,0,none⟩)] w fun e w'=>e = .returned (.string .empty)/\w' = w.drew:=by
 have L:=mz
 have X:=dS
 have c1:w.drew.cell? ⟨g,1,none⟩=some (.slice none 0 0):=by
  have:w.drew.heap[g]? = some (.cells #[p,.slice none 0 0] 62 (0,0)):=hb
  rw [Lib.cell_of_heap this]; rfl
 have hSD:(Builtin.unsafeSliceData_ #[(av.t 37)] (av.t 127) #[.slice none 0 0]).run Tryd.prog w.drew = .ok (.pointer none) w.drew:=
  Lib.run_unsafeSliceData_nil _ _ _ _ _
 have hUS:(Builtin.unsafeString_ #[(av.t 127),(av.t 3)] (av.t 9) #[.pointer none,.int .i64 0]).run Tryd.prog w.drew = .ok (.string .empty) w.drew:=
  Lib.run_unsafeString_none _ _ _ _ _
 have mixed:=L.mixed
 have t72:=L.t72; have a72:=L.a72; have z72:=L.z72; have v72:=L.v72; have u72:=run_underlying L.t72
 have t70:=L.t70; have a70:=L.a70; have z70:=L.z70; have v70:=L.v70; have u70:=run_underlying L.t70
 have t37:=L.t37; have a37:=L.a37; have z37:=L.z37; have v37:=L.v37; have u37:=run_underlying L.t37
 have t127:=L.t127; have a127:=L.a127; have z127:=L.z127; have v127:=L.v127; have u127:=run_underlying L.t127
 have t3:=L.t3; have a3:=L.a3; have z3:=L.z3; have v3:=L.v3; have u3:=run_underlying L.t3
 have t9:=L.t9; have a9:=L.a9; have z9:=L.z9; have v9:=L.v9; have u9:=run_underlying L.t9
 have t5:=X.t5; have a5:=X.a5; have z5:=X.z5; have v5:=X.v5; have u5:=run_underlying X.t5
 show Calls Tryd.prog (av.f 169) _ _ _
 go_enter L.f169,Body.n169_ntmps av
 go_wp2
 go_region_o
 all_goals (go_wp2; go_ret; exact ⟨rfl,rfl⟩)
theorem oL:Sat Tryd.prog (aj aP) 39 [.c (.ptr 0 0)] [.box 62 [.np,.em true]] ⟨[],[.c (.str ⟨[]⟩)],some [.box 62 [.np,.em true]],true⟩:=by
 refine ⟨⟨_,Tryd.func39,by decide,by kernel_rfl⟩,fun G ρ w vs hG hR hvs=>?_⟩
 cases hvs with | cons h1 hvs=>?_
 cases hvs
 obtain ⟨g0,hg0,rfl⟩:=h1
 obtain ⟨r,hr,g,vs,rfl,h1,h2⟩:=hR.at_ (show ([.box 62 [.np,.em true]]:AH)[0]? = some _ from rfl)
 obtain rfl:g=g0:=by rw [hr] at hg0; cases hg0; rfl
 cases h2 with | cons h2 h3=>?_
 cases h3 with | cons h3 h4=>?_
 cases h4
 have h3:Rd (cx G ρ w) ρ (.em true) _:=h3
 cases h3 with | em h5=>?_
 rename_i a
 cases a with
 | some a=>cases h5
 | none=>?_
 refine (oG g _ w h1).mono fun e w' ⟨he,hw⟩=>?_
 have hk:Kp [] w w':=by subst hw; exact ⟨rfl,rfl,rfl,Nat.le_refl _,fun _ _ _=>rfl⟩
 exact ⟨_,he,[_],rfl,ρ,hR.kp hk,Ext.kp hk,fun _ _ h=>h,.cons (show bE (cx G ρ w') ρ (.c (.str ⟨[]⟩)) _ from (Pd.str (by simp):Pd (cx G ρ w') (.str ⟨[]⟩) (Str.val ⟨[]⟩))) .nil,fun _=>⟨hk,fun _ _ h=>h⟩⟩
end Go.Proofs.YtagpmhlokhoanaaDoor
namespace Go.Proofs.YtagpmhlokhoanaaDoor
open Go.RowKit
theorem ja (e:Event):(ao e).b.length<=2000:=by
 cases h:lineOk e
 ·rw [ao,if_neg (by rw [h]; decide)]; simp
 ·have hw:=qg h
  obtain ⟨h1,h2,h3,h4,h5,h6,h7⟩:=bw.1 h
  rw [lg h]
  have hn:(nmL e).all okN=true:=(nW.1 (fu.1 h).1).2
  have hl:=nR e
  have hv:=qU e.kind
  have it:∀ l:List Int,l.all okN=true->∀ w ∈ l.map Lib.itoa,w.length<=40:=fun l hl w hw=>by
   rw [List.mem_map] at hw
   obtain ⟨n,hn,rfl⟩:=hw
   exact gk (List.all_eq_true.1 hl n hn)
  by_cases hk:e.kind=6
  ·rw [if_pos hk]
   obtain ⟨k1,k2,k3,k4⟩:=h6 hk
   have:=gR (v:=(bb e.kind).b) (m:=40) (ws:=(nmL e).map Lib.itoa++([aJ e.c.text.b]++e.c.chunks.map Lib.itoa)) fun w hw=>by
    simp only [List.mem_append,List.mem_singleton] at hw
    rcases hw with hw | rfl | hw
    ·exact it _ hn w hw
    ·exact pX bY
    ·exact it _ k4 w hw
   simp only [List.length_append,List.length_map,List.length_singleton] at this
   show (uB _ _).length<=2000
   omega
  ·rw [if_neg hk]
   have:=gR (v:=(bb e.kind).b) (m:=40) (ws:=(nmL e).map Lib.itoa++[]) fun w hw=>by
    rw [List.append_nil] at hw
    exact it _ hn w hw
   simp only [List.length_append,List.length_map,List.length_nil] at this
   show (uB _ _).length<=2000
   omega
def cm (l:List Event):List UInt8:=l.flatMap fun e=>(ao e).b++[10]
def ec (l:List Event):Str:=if l.length<=1024/\l.all lineOk=true then ⟨cm l⟩ else ⟨[]⟩
def ee (l:List Event):Int:=if 1024<l.length then 4 else if l.all lineOk=true then 0 else 1
theorem py:∀ l:List Event,(cm l).length<=2001*l.length
 | []=>by simp [cm]
 | e :: l=>by
  have h1:=py l
  have h2:=ja e
  rw [cm,List.flatMap_cons,List.length_append,List.length_append,List.length_singleton]
  unfold cm at h1
  rw [List.length_cons]; omega
section
variable {α:Type} [DecidableEq α] {a b:List α} {k:Nat} {d:α}
theorem ER (h:a.take k=b.take k) (ha:(k:Int)<a.length) (hb:a.length=b.length) (e:decide (a.getD k d=b.getD k d)=true):a.take (k+1)=b.take (k+1):=by
 have h1:=bg (l:=a) (k:=k) (d:=d) (by omega)
 have h2:=bg (l:=b) (k:=k) (d:=d) (by omega)
 rw [lO h1,lO h2,h,of_decide_eq_true e]
theorem EK (e:decide (a.getD k d=b.getD k d)=false):false=decide (a=b):=by
 symm; rw [decide_eq_false_iff_not]; rintro rfl; exact of_decide_eq_false e rfl
theorem DO (h:a.take k=b.take k) (ha:(a.length:Int)<=k) (hb:a.length=b.length):true=decide (a=b):=by
 symm; rw [decide_eq_true_eq,<- List.take_of_length_le (show a.length<=k by omega),<- List.take_of_length_le (show b.length<=k by omega)]; exact h
theorem DS (h:¬ (a.length:Int)=b.length):false=decide (a=b):=by
 symm; rw [decide_eq_false_iff_not]; rintro rfl; exact h rfl
end
structure PutJ (l:List Event) (k:Nat):Prop where
 le:k<=l.length
 big:l.length<=1024
 ok:(l.take k).all lineOk=true
section
variable {l:List Event} {k:Nat} {e:Event}
theorem iK (h:1024<(l.length:Int)):(⟨[]⟩:Str)=ec l/\4=ee l:=by
 rw [ec,ee,if_neg (by omega),if_pos (by omega)]; exact ⟨rfl,rfl⟩
theorem DW (h:(l.length:Int)<=1024):PutJ l 0:=⟨by omega,by omega,rfl⟩
theorem Er:([]:List UInt8)=cm (l.take 0):=rfl
theorem EG (he:l[k]? = some e):cm (l.take k)++(ao e).b++[10]=cm (l.take (k+1)):=by
 rw [lO he,cm,cm,List.flatMap_append,List.append_assoc]; simp
theorem DY (hJ:PutJ l k) (hx:l[k]? = some e) (h:ax e=0):PutJ l (k+1):=by
 have:=(List.getElem?_eq_some_iff.1 hx).1
 refine ⟨by omega,hJ.big,?_⟩
 rw [lO hx,List.all_append,hJ.ok]; simp [cM.1 h]
theorem nY (hJ:PutJ l k) (hx:l[k]? = some e) (h:¬ ax e=0):(⟨[]⟩:Str)=ec l/\ax e=ee l:=by
 have h1:¬ l.all lineOk=true:=fun h2=>h (cM.2 (List.all_eq_true.1 h2 e (List.mem_of_getElem? hx)))
 have hb:=hJ.big
 have h3:¬ lineOk e=true:=fun h2=>h (cM.2 h2)
 rw [ec,if_neg (fun h=>h1 h.2),ee,if_neg (by omega),if_neg h1,ax,if_neg h3]; exact ⟨rfl,rfl⟩
theorem nA (hJ:PutJ l k) (h:(l.length:Int)<=k):Str.mk (cm (l.take k))=ec l/\0=ee l:=by
 have hk:=hJ.ok
 have hb:=hJ.big
 rw [List.take_of_length_le (by omega)] at hk ⊢
 rw [ec,if_pos ⟨hb,hk⟩,ee,if_neg (by omega),if_pos hk]; exact ⟨rfl,rfl⟩
theorem xB (hJ:PutJ l k):(cm (l.take k)).length<=3000000:=by
 have h1:=py (l.take k)
 have h2:=hJ.big
 rw [List.length_take] at h1
 omega
theorem Bc (hJ:PutJ l k):(cm (l.take k)).length+(ao e).b.length<=140737488355328:=by
 have:=xB hJ
 have:=ja e
 omega
theorem Bu (hJ:PutJ l k):(cm (l.take k)++(ao e).b).length+[(10:UInt8)].length<=140737488355328:=by
 have:=xB hJ
 have:=ja e
 rw [List.length_append,List.length_singleton]; omega
theorem DX (hJ:PutJ l k):I64 ((k:Int)+1):=by
 have h1:=hJ.le
 have h2:=hJ.big
 constructor <;> omega
theorem En (hJ:PutJ l k) (h:(l.length:Int)<=k) (h0:l≠[]):cm (l.take k)≠[]:=by
 rw [List.take_of_length_le (by omega)]
 cases l with
 | nil=>exact absurd rfl h0
 | cons e l=>simp [cm]
end
def Bj (l:List Event):List (Nat × LI):=[(5,{ σ:=Nat,F:=fun k=>([(0,one (.fz (.nm .event) (l))),(4,one (.str ⟨cm (l.take k)⟩)),(5,one (.int k))],[]),J:=fun k=>PutJ l k,μ:=fun k=>l.length - k })]
def qo (a:List Event) (b:List Event):List (Nat × LI):=[(4,{ σ:=Nat,F:=fun k=>([(0,one (.fz (.nm .event) (a))),(1,one (.fz (.nm .event) (b))),(5,one (.int k))],[]),J:=fun k=>k<=a.length/\a.length=b.length/\a.take k=b.take k,μ:=fun k=>a.length - k })]
theorem CU (l:List Event) (r0:Str) (r1:Int):fW aP qa (Bj l) Tryd.f18 [.c (.fz (.nm .event) (l))] [] [.c (.str (r0)),.c (.int (r1))]=((fun (q1:Nat)=>(fun (q0:Int)=>l.length*(112:Nat)<=q1->((1024:Int)<q0->Str.mk []=r0/\(4:Int)=r1)/\(q0<=(1024:Int)->∃ (s0:Nat),(l=l/\Str.mk []=Str.mk (cm (List.take s0 l))/\(0:Int)=(↑s0:Int))/\PutJ l s0/\∀ (s:Nat),PutJ l s->((↑s:Int)<q0->(0:Int)<=(↑s:Int)/\(↑s:Int)<q0/\∀ (x:Event),l[s]? = some x->I64 x.kind->I64 x.a->I64 x.b->I64 x.c.kind->I64 x.c.client->I64 x.c.seq->I64 x.c.set->I64 x.c.id->I64 x.c.n->x.c.chunks.length*(8:Nat)<=q1->x.c.text.b.length<=q1->(ao x).b.length<=q1->I64 (ax x)->(¬ax x=(0:Int)->Str.mk []=r0/\ax x=r1)/\(ax x=(0:Int)->(cm (List.take s l)).length+(ao x).b.length<=q1/\(cm (List.take s l)++(ao x).b).length+[(10:UInt8)].length<=q1/\I64 ((↑s:Int)+(1:Int))/\∃ (s':Nat),(l=l/\Str.mk (cm (List.take s l)++(ao x).b++[(10:UInt8)])=Str.mk (cm (List.take s' l))/\(↑s:Int)+(1:Int)=(↑s':Int))/\PutJ l s' /\ l.length - s' < l.length - s))/\(q0<=(↑s:Int)->Str.mk (cm (List.take s l))=r0/\(0:Int)=r1))) (↑l.length:Int)) (140737488355328:Nat)):=by kernel_rfl
theorem CV (l:List Event):Sat Tryd.prog (aj aP) 18 [.c (.fz (.nm .event) (l))] [] ⟨[],[.c (.str ((ec l))),.c (.int ((ee l)))],none,false⟩:=by
 refine bB gO (Bj l) Tryd.func18 (by decide) (by kernel_rfl) ?_
 rw [CU]
 iterate 3 ((all_goals (repeat' (first | with_reducible apply dW | with_reducible refine dY ?_ | intro))); (all_goals try (first | exact ga | exact rfl | exact (iK ab).1 | exact (iK ab).2 | exact (DW ab) | exact (nY ab ab ab).1 | exact (nY ab ab ab).2 | exact (nA ab ab).1 | exact (nA ab ab).2 | with_reducible exact (Bc ab) | with_reducible exact (Bu ab) | with_reducible exact (DX ab) | exact (congrArg Str.mk (EG ab)) | exact (DY ab ab ab) | (have:=(PutJ.le ab); omega))); all_goals try first | refine ⟨‹Nat› + 1,?_⟩ | refine ⟨0,?_⟩)
theorem yw (s:Str) (r0:Str):fW aP qa [] Tryd.f16 [.c (.str (s))] [] [.c (.str (r0))]=(s.b.length<=(140737488355328:Nat)->((6000:Int)<(↑s.b.length:Int)->(0:Int)<=(6000:Int)/\(6000:Int)<=(↑s.b.length:Int)/\Str.mk (List.take (6000:Nat) s.b)=r0)/\((↑s.b.length:Int)<=(6000:Int)->s=r0)):=by kernel_rfl
theorem zn (s:Str):Sat Tryd.prog (aj aP) 16 [.c (.str (s))] [] ⟨[],[.c (.str ((⟨s.b.take 6000⟩)))],none,false⟩:=by
 refine bB gO [] Tryd.func16 (by decide) (by kernel_rfl) ?_
 rw [yw]
 (repeat' (first | with_reducible apply dW | with_reducible refine dY ?_ | intro))
 all_goals (first | exact ga | exact rfl | exact (qW bY))
theorem ux (a:List Event) (b:List Event) (r0:Bool):fW aP qa (qo a b) Tryd.f21 [.c (.fz (.nm .event) (a)),.c (.fz (.nm .event) (b))] [] [.c (.bool (.atom (r0)))]=((fun (q3:Nat)=>(fun (q2:Nat)=>(fun (q1:Int)=>(fun (q0:den (Sh.nm NT.event))=>a.length*(112:Nat)<=q3->b.length*(112:Nat)<=q3->(¬q1=(↑b.length:Int)->false=r0)/\(q1=(↑b.length:Int)->∃ (s0:Nat),(a=a/\b=b/\(0:Int)=(↑s0:Int))/\(s0<=q2/\q2=b.length/\List.take s0 a=List.take s0 b)/\∀ (s:Nat),(fun (q5:den (Sh.nm NT.event))=>(fun (q4:den (Sh.nm NT.event))=>s<=q2/\q2=b.length/\List.take s a=List.take s b->((↑s:Int)<q1->(0:Int)<=(↑s:Int)/\(↑s:Int)<q1/\(0:Int)<=(↑s:Int)/\(↑s:Int)<(↑b.length:Int)/\(I64 q4.kind->I64 q4.a->I64 q4.b->I64 q4.c.kind->I64 q4.c.client->I64 q4.c.seq->I64 q4.c.set->I64 q4.c.id->I64 q4.c.n->q4.c.chunks.length*(8:Nat)<=q3->q4.c.text.b.length<=q3->I64 q5.kind->I64 q5.a->I64 q5.b->I64 q5.c.kind->I64 q5.c.client->I64 q5.c.seq->I64 q5.c.set->I64 q5.c.id->I64 q5.c.n->q5.c.chunks.length*(8:Nat)<=q3->q5.c.text.b.length<=q3->(decide (q4=q5)=false->false=r0)/\(decide (q4=q5)=true->I64 ((↑s:Int)+(1:Int))/\∃ (s':Nat),(a=a/\b=b/\(↑s:Int)+(1:Int)=(↑s':Int))/\(s' <= q2/\q2=b.length/\List.take s' a=List.take s' b)/\q2 - s' < q2 - s)))/\(q1<=(↑s:Int)->true=r0)) (a.getD s q0)) (b.getD s q0))) (az (Sh.nm NT.event))) (↑a.length:Int)) a.length) (140737488355328:Nat)):=by kernel_rfl
theorem ui (a:List Event) (b:List Event):Sat Tryd.prog (aj aP) 21 [.c (.fz (.nm .event) (a)),.c (.fz (.nm .event) (b))] [] ⟨[],[.c (.bool (.atom ((decide (a=b)))))],none,false⟩:=by
 refine bB gO (qo a b) Tryd.func21 (by decide) (by kernel_rfl) ?_
 rw [ux]
 iterate 3 ((all_goals (repeat' (first | with_reducible apply dW | with_reducible refine dY ?_ | intro))); (all_goals try (first | exact ga | exact rfl | exact (ER ab ab ab ab) | exact (EK ab) | exact (DO ab ab ab) | exact (DS ab))); all_goals try first | refine ⟨‹Nat› + 1,?_⟩ | refine ⟨0,?_⟩)
def sZ:cG:=(dr 21 (cV (aA (kC (cL (.nm .event))) (aA (kC (cL (.nm .event))) br)) bt fun (a,b,_) (_)=>⟨[],[.c (.bool (.atom ((decide (a=b)))))],none,false⟩) (dr 16 (cV (aA (kC cS) br) bt fun (s,_) (_)=>⟨[],[.c (.str ((⟨s.b.take 6000⟩)))],none,false⟩) (dr 18 (cV (aA (kC (cL (.nm .event))) br) bt fun (l,_) (_)=>⟨[],[.c (.str ((ec l))),.c (.int ((ee l)))],none,false⟩) qa)))
theorem kD:aZ Tryd.prog (aj aP) sZ:=(aD (aE (ae (aH dx) (ae (aH dx) aq)) au fun (a,b,_) (_) _=>ui a b ) (aD (aE (ae (aH cq) aq) au fun (s,_) (_) _=>zn s ) (aD (aE (ae (aH dx) aq) au fun (l,_) (_) _=>CV l ) gO)))
def Ci (i:Nat) (e:Event):Event:=if 40<=i then ⟨(dy e).kind,(dy e).a,(dy e).b,cD⟩ else dy e
def dZ (l:List Event):Nat->List Event
 | 0=>[]
 | k+1=>dZ l k++[Ci k (l.getD k (az (.nm .event)))]
def jd (l:List Event):List Event:=dZ l (min l.length 1100)
def eP (l:List UInt8):Nat->Nat
 | 0=>0
 | k+1=>if l.getD k 0=10 then k+1 else eP l k
def fU (l:List UInt8):Nat->List Str
 | 0=>[]
 | k+1=>if l.getD k 0=10 then fU l k++[⟨(l.drop (eP l k)).take (k - eP l k)⟩] else fU l k
def bc (s:Str):List Str:=if eP s.b s.b.length<s.b.length then fU s.b s.b.length++[⟨s.b.drop (eP s.b s.b.length)⟩] else fU s.b s.b.length
theorem oC (l:List Event):∀ k,(dZ l k).length=k
 | 0=>rfl
 | k+1=>by rw [dZ,List.length_append,oC l k]; rfl
theorem qN (l:List UInt8):∀ k,eP l k<=k
 | 0=>Nat.le_refl _
 | k+1=>by
  have:=qN l k
  unfold eP; split <;> omega
theorem sd (l:List UInt8):∀ k,(fU l k).length<=k
 | 0=>Nat.le_refl _
 | k+1=>by
  have:=sd l k
  unfold fU; split
  ·rw [List.length_append,List.length_singleton]; omega
  ·omega
section
variable {l:List Event} {k:Nat} {x:Event}
theorem Hk (h:40<=(k:Int)) (hx:l[k]? = some x):dZ l k++[Event.mk (dy x).kind (dy x).a (dy x).b (Command.mk 0 0 0 0 0 0 [] (Str.mk []))]=dZ l (k+1):=by
 rw [dZ,Ci,if_pos (by omega),List.getD_eq_getElem?_getD,hx]; rfl
theorem HF (h:(k:Int)<40) (hx:l[k]? = some x):dZ l k++[dy x]=dZ l (k+1):=by
 rw [dZ,Ci,if_neg (by omega),List.getD_eq_getElem?_getD,hx]; rfl
theorem BT (h1:k<=l.length) (h2:k<=1100) (h:(l.length:Int)<=k\/1100<=(k:Int)):dZ l k=jd l:=by
 rw [jd,show min l.length 1100=k by omega]
theorem BX {e:Event} (h2:k<=1100):((dZ l k).length+[e].length)*112<=140737488355328:=by
 rw [oC,List.length_singleton]; omega
theorem Gq (h2:k<=1100):I64 ((k:Int)+1):=by constructor <;> omega
end
section
variable {l:List UInt8} {k:Nat} {s:Str}
theorem El (h:(((l.getD k 0).toNat:Nat):Int)=(((UInt8.ofNat 10).toNat:Nat):Int)):l.getD k 0=10:=UInt8.toNat_inj.1 (show (l.getD k 0).toNat=(UInt8.ofNat 10).toNat by omega)
theorem Fe (h:¬ (((l.getD k 0).toNat:Nat):Int)=(((UInt8.ofNat 10).toNat:Nat):Int)):¬ l.getD k 0=10:=fun e=>h (by rw [e]; rfl)
theorem HY (h:(((l.getD k 0).toNat:Nat):Int)=(((UInt8.ofNat 10).toNat:Nat):Int)):(k:Int)+1=((eP l (k+1):Nat):Int):=by rw [eP,if_pos (El h)]; omega
theorem GB (h:(((l.getD k 0).toNat:Nat):Int)=(((UInt8.ofNat 10).toNat:Nat):Int)):fU l k++[⟨(l.drop (eP l k)).take (k - eP l k)⟩]=fU l (k+1):=by rw [fU,if_pos (El h)]
theorem DJ (h:¬ (((l.getD k 0).toNat:Nat):Int)=(((UInt8.ofNat 10).toNat:Nat):Int)):((eP l k:Nat):Int)=((eP l (k+1):Nat):Int):=by rw [eP,if_neg (Fe h)]
theorem Ez (h:¬ (((l.getD k 0).toNat:Nat):Int)=(((UInt8.ofNat 10).toNat:Nat):Int)):fU l k=fU l (k+1):=by rw [fU,if_neg (Fe h)]
theorem EX:((eP l k:Nat):Int)<=(k:Int):=by have:=qN l k; omega
theorem Dn {x:Str} (h0:l.length<=1000000) (h:k<=l.length):((fU l k).length+[x].length)*16<=140737488355328:=by
 have:=sd l k
 rw [List.length_singleton]; omega
theorem Ib (h0:l.length<=1000000) (h:k<=l.length):I64 ((k:Int)+1):=by constructor <;> omega
theorem Fk (hk:k<=s.b.length) (h:(s.b.length:Int)<=k) (hl:((eP s.b k:Nat):Int)<(s.b.length:Int)):fU s.b k++[⟨s.b.drop (eP s.b k)⟩]=bc s:=by
 obtain rfl:k=s.b.length:=by omega
 rw [bc,if_pos (by omega)]
theorem EM (hk:k<=s.b.length) (h:(s.b.length:Int)<=k) (hl:(s.b.length:Int)<=((eP s.b k:Nat):Int)):fU s.b k=bc s:=by
 obtain rfl:k=s.b.length:=by omega
 rw [bc,if_neg (by omega)]
end
def sn (l:List Event):List (Nat × LI):=[(3,{ σ:=Nat,F:=fun k=>([(0,one (.fz (.nm .event) (l))),(3,one (.own 0)),(4,one (.int k))],[.row 26 (.nm .event) ((dZ l k))]),J:=fun k=>k<=l.length/\k<=1100,μ:=fun k=>l.length - k })]
def rX (s:Str):List (Nat × LI):=[(4,{ σ:=Nat,F:=fun k=>([(0,one (.str (s))),(3,one (.own 0)),(4,one (.int (eP s.b k))),(5,one (.int k))],[.row 9 .str ((fU s.b k))]),J:=fun k=>k<=s.b.length,μ:=fun k=>s.b.length - k })]
theorem vg (l:List Event) (r0:List Event):fW aP sZ (sn l) Tryd.f15 [.c (.fz (.nm .event) (l))] [] [.c (.fz (.nm .event) (r0))]=((fun (q2:Nat)=>(fun (q1:Nat)=>(fun (q0:Int)=>l.length*(112:Nat)<=q2->∃ (s0:Nat),(l=l/\q0=(↑s0:Int)/\dZ l s0=[])/\(s0<=q1/\s0<=(1100:Nat))/\∀ (s:Nat),(fun (q4:Int)=>(fun (q3:Int)=>s<=q1/\s<=(1100:Nat)->(q4<(↑l.length:Int)/\q4<(1100:Int)->q0<=q4/\q4<(↑l.length:Int)/\∀ (x:Event),(fun (q5:Event)=>l[s]? = some x->I64 x.kind->I64 x.a->I64 x.b->I64 x.c.kind->I64 x.c.client->I64 x.c.seq->I64 x.c.set->I64 x.c.id->I64 x.c.n->x.c.chunks.length*(8:Nat)<=q2->x.c.text.b.length<=q2->I64 q5.kind->I64 q5.a->I64 q5.b->I64 q5.c.kind->I64 q5.c.client->I64 q5.c.seq->I64 q5.c.set->I64 q5.c.id->I64 q5.c.n->q5.c.chunks.length*(8:Nat)<=q2->q5.c.text.b.length<=q2->((40:Int)<=q4->((dZ l s).length+[Event.mk q5.kind q5.a q5.b (Command.mk q0 q0 q0 q0 q0 q0 [] (Str.mk []))].length)*(112:Nat)<=q2/\I64 q3/\∃ (s':Nat),(l=l/\q3=(↑s':Int)/\dZ l s++[Event.mk q5.kind q5.a q5.b (Command.mk q0 q0 q0 q0 q0 q0 [] (Str.mk []))]=dZ l s')/\(s' <= q1/\s' <= (1100:Nat))/\q1 - s' < q1 - s)/\(q4<(40:Int)->((dZ l s).length+[q5].length)*(112:Nat)<=q2/\I64 q3/\∃ (s':Nat),(l=l/\q3=(↑s':Int)/\dZ l s++[q5]=dZ l s')/\(s' <= q1/\s' <= (1100:Nat))/\q1 - s' < q1 - s)) (dy x))/\((↑l.length:Int)<=q4\/(1100:Int)<=q4->dZ l s=r0)) (q4+(1:Int))) (↑s:Int)) (0:Int)) l.length) (140737488355328:Nat)):=by kernel_rfl
theorem wy (l:List Event):Sat Tryd.prog (aj aP) 15 [.c (.fz (.nm .event) (l))] [] ⟨[],[.c (.fz (.nm .event) ((jd l)))],none,false⟩:=by
 refine bB kD (sn l) Tryd.func15 (by decide) (by kernel_rfl) ?_
 rw [vg]
 iterate 3 ((all_goals (repeat' (first | with_reducible apply dW | with_reducible refine dY ?_ | intro))); (all_goals try (first | exact ga | exact rfl | exact (Hk ab ab) | exact (HF ab ab) | exact (BT ab ab ab) | with_reducible exact (BX ab) | exact (Gq ab))); all_goals try first | refine ⟨‹Nat› + 1,?_⟩ | refine ⟨0,?_⟩)
theorem wb (s:Str) (r0:List Str):fW aP sZ (rX s) Tryd.f40 [.c (.str (s))] [] [.c (.fz .str (r0))]=((fun (q2:Int)=>(fun (q1:List UInt8)=>(fun (q0:Nat)=>q0<=(140737488355328:Nat)->∃ (s0:Nat),(fun (q3:Int)=>(s=s/\(0:Int)=(↑(eP q1 s0):Int)/\(0:Int)=(↑s0:Int)/\fU q1 s0=[])/\s0<=q0/\∀ (s_1:Nat),(fun (q6:Prop)=>(fun (q5:Int)=>(fun (q4:Nat)=>s_1<=q0->((↑s_1:Int)<q3->(0:Int)<=(↑s_1:Int)/\(↑s_1:Int)<q3/\(q6->(0:Int)<=(↑q4:Int)/\(↑q4:Int)<=(↑s_1:Int)/\(↑s_1:Int)<=q3/\((fU q1 s_1).length+[Str.mk (List.take (s_1 - q4) (List.drop q4 q1))].length)*(16:Nat)<=(140737488355328:Nat)/\I64 q5/\I64 q5/\∃ (s':Nat),(s=s/\q5=(↑(eP q1 s'):Int)/\q5=(↑s':Int)/\fU q1 s_1++[Str.mk (List.take (s_1 - q4) (List.drop q4 q1))]=fU q1 s')/\s' <= q0/\q0 - s' < q0 - s_1)/\(¬q6->I64 q5/\∃ (s':Nat),(s=s/\(↑q4:Int)=(↑(eP q1 s'):Int)/\q5=(↑s':Int)/\fU q1 s_1=fU q1 s')/\s' <= q0/\q0 - s' < q0 - s_1))/\(q3<=(↑s_1:Int)->((↑q4:Int)<q3->(0:Int)<=(↑q4:Int)/\(↑q4:Int)<=q3/\((fU q1 s_1).length+[Str.mk (List.drop q4 q1)].length)*(16:Nat)<=(140737488355328:Nat)/\fU q1 s_1++[Str.mk (List.drop q4 q1)]=r0)/\(q3<=(↑q4:Int)->fU q1 s_1=r0))) (eP q1 s_1)) ((↑s_1:Int)+q2)) ((↑(q1.getD s_1 (0:UInt8)).toNat:Int)=(↑(UInt8.ofNat (10:Nat)).toNat:Int))) (↑q0:Int)) q1.length) s.b) (1:Int)):=by kernel_rfl
theorem vD (s:Str) (h0:s.b.length<=1000000):Sat Tryd.prog (aj aP) 40 [.c (.str (s))] [] ⟨[s.b.length<=1000000],[.c (.fz .str ((bc s)))],none,false⟩:=by
 refine bB kD (rX s) Tryd.func40 (by decide) (by kernel_rfl) ?_
 rw [wb]
 iterate 3 ((all_goals (repeat' (first | with_reducible apply dW | with_reducible refine dY ?_ | intro))); (all_goals try (first | exact ga | exact rfl | exact h0 | exact (HY ab) | exact (GB ab) | exact (DJ ab) | exact (Ez ab) | exact EX | with_reducible exact (Dn h0 ab) | exact (Ib h0 ab) | exact (Fk ab ab ab) | exact (EM ab ab ab))); all_goals try first | refine ⟨‹Nat› + 1,?_⟩ | refine ⟨0,?_⟩)
theorem qS :Sat Tryd.prog (aj aP) 39 [.c (.ptr 0 0)] [.box 62 ([.np,.em true])] ⟨[],[.c (.str ((⟨[]⟩)))],some ([.box 62 ([.np,.em true])]),true⟩:=oL
def mR:cG:=(dr 39 (cV (aA (kC (fv 0 0)) br) (bM (dV 62 (aG HN (aG (DA true) ea))) bt) fun (_,_) ((_,_,_),_)=>⟨[],[.c (.str ((⟨[]⟩)))],some ([.box 62 ([.np,.em true])]),true⟩) (dr 40 (cV (aA (kC cS) br) bt fun (s,_) (_)=>⟨[s.b.length<=1000000],[.c (.fz .str ((bc s)))],none,false⟩) (dr 15 (cV (aA (kC (cL (.nm .event))) br) bt fun (l,_) (_)=>⟨[],[.c (.fz (.nm .event) ((jd l)))],none,false⟩) sZ)))
theorem fx:aZ Tryd.prog (aj aP) mR:=(aD (aE (ae (aH bQ) aq) (aM (bk (ah Cc (ah nX bm))) au) fun (_,_) ((_,_,_),_) _=>qS  ) (aD (aE (ae (aH cq) aq) au fun (s,_) (_) hp=>vD s (ot hp)) (aD (aE (ae (aH dx) aq) au fun (l,_) (_) _=>wy l ) kD)))
abbrev iy (s:Str):List Str:=bd s ⟨[10]⟩
def gH (s:Str):List Str:=if (iy s).getD ((iy s).length - 1) (az .str)=⟨[]⟩ then (iy s).take ((iy s).length - 1) else iy s
def rdOk (s:Str):Bool:=decide (bN s=0)
def pS (ls:List Str):List Event:=if ls.length<=1024/\ls.all rdOk=true then ls.map aV else []
def qp (ls:List Str):Int:=if 1024<ls.length\/ls.all rdOk=true then 0 else ((ls.findIdx fun s=>!rdOk s:Nat):Int)+1
def oJ (ls:List Str):Int:=if 1024<ls.length then 4 else if ls.all rdOk=true then 0 else 240
structure TkJ (ls:List Str) (k:Nat):Prop where
 le:k<=ls.length
 big:ls.length<=1024
 ok:(ls.take k).all rdOk=true
theorem mf {b:UInt8} {p:List UInt8}:∀ {xs:List (List UInt8)},ri b (xs++[p])=xs++[p++[b]]
 | []=>rfl
 | [x]=>rfl
 | x :: y :: r=>by
  have:=mf (b:=b) (p:=p) (xs:=y :: r)
  rw [List.cons_append,List.cons_append,ri]
  rw [List.cons_append] at this
  rw [this]; rfl
theorem xS (l:List UInt8):∀ k,k<=l.length->ak 10 (l.take k)=(fU l k).map (·.b)++[(l.drop (eP l k)).take (k - eP l k)]
 | 0,_=>rfl
 | k+1,h=>by
  have ih:=xS l k (by omega)
  have hf:=qN l k
  have hg:=bg (l:=l) (k:=k) (d:=(0:UInt8)) (by omega)
  rw [lO hg]
  by_cases hb:l.getD k 0=10
  ·rw [hb,dw,ih,fU,eP,if_pos hb,if_pos hb,List.map_append]; simp
  ·have h1:(l.drop (eP l k))[k - eP l k]? = some (l.getD k 0):=by
    rw [List.getElem?_drop,show eP l k+(k - eP l k)=k by omega,hg]
   rw [dE hb,ih,mf,fU,eP,if_neg hb,if_neg hb,show k+1 - eP l k=(k - eP l k)+1 by omega,lO h1]
theorem A_ (s:Str):iy s=fU s.b s.b.length++[⟨s.b.drop (eP s.b s.b.length)⟩]:=by
 have h:=xS s.b s.b.length (Nat.le_refl _)
 rw [List.take_length,List.take_of_length_le (by rw [List.length_drop]; omega)] at h
 show (ak 10 s.b).map Str.mk=_
 rw [h,List.map_append,lA]; rfl
theorem AI (s:Str):bc s=gH s:=by
 rw [bc,gH,A_]
 have e1:(fU s.b s.b.length++[Str.mk (s.b.drop (eP s.b s.b.length))]).length - 1=(fU s.b s.b.length).length:=by simp
 have e2:(fU s.b s.b.length++[Str.mk (s.b.drop (eP s.b s.b.length))]).getD (fU s.b s.b.length).length (az .str)=⟨s.b.drop (eP s.b s.b.length)⟩:=by
  rw [List.getD_eq_getElem?_getD,List.getElem?_append_right (Nat.le_refl _),Nat.sub_self]; rfl
 rw [e1,e2,List.take_left]
 by_cases h:eP s.b s.b.length<s.b.length
 ·rw [if_pos h,if_neg]
  intro h2
  have:=congrArg (fun x=>x.b.length) h2
  simp at this; omega
 ·rw [if_neg h,if_pos (by rw [List.drop_of_length_le (by omega)])]
theorem rv (s:Str):1<=(iy s).length:=by rw [A_,List.length_append]; simp
theorem Dc (s:Str):(iy s).length<=s.b.length+1:=by
 unfold iy bd
 rw [List.length_map]; exact (bF _ s.b).1
theorem Ec {s x:Str} (h:x ∈ gH s):x.b.length<=s.b.length:=by
 have h1:x ∈ iy s:=by
  unfold gH at h
  split at h
  ·exact List.mem_of_mem_take h
  ·exact h
 unfold iy bd at h1
 rw [List.mem_map] at h1
 obtain ⟨y,hy,rfl⟩:=h1
 exact dI _ s.b y hy
section
variable {s x:Str} {ls:List Str} {k:Nat}
theorem zM (h0:s.b.length<=1000000):I64 (((iy s).length:Int) - 1)/\0<=((iy s).length:Int) - 1:=by
 have h1:=rv s
 have h2:=Dc s
 exact ⟨by constructor <;> omega,by omega⟩
theorem EP (hx:(iy s)[(((iy s).length:Int) - 1).toNat]? = some x):(iy s).getD ((iy s).length - 1) (az .str)=x:=by
 have h1:=rv s
 rw [show (((iy s).length:Int) - 1).toNat=(iy s).length - 1 by omega] at hx
 rw [List.getD_eq_getElem?_getD,hx]; rfl
theorem jJ (hx:(iy s)[(((iy s).length:Int) - 1).toNat]? = some x) (h:x=⟨[]⟩):(iy s).take (((iy s).length:Int) - 1).toNat=gH s:=by
 have h1:=rv s
 rw [gH,if_pos ((EP hx).trans h),show (((iy s).length:Int) - 1).toNat=(iy s).length - 1 by omega]
theorem jM (hx:(iy s)[(((iy s).length:Int) - 1).toNat]? = some x) (h:¬ x=⟨[]⟩):iy s=gH s:=by
 rw [gH,if_neg (fun h2=>h ((EP hx).symm.trans h2))]
theorem iM {t:List Str} (e:t=ls) (h:1024<(t.length:Int)):pS ls=[]/\0=qp ls/\4=oJ ls:=by
 subst e
 rw [pS,qp,oJ,if_neg (by omega),if_pos (.inl (by omega)),if_pos (by omega)]; exact ⟨rfl,rfl,rfl⟩
theorem Ep {t:List Str} (e:t=ls) (h:(t.length:Int)<=1024):TkJ ls 0:=by
 subst e; exact ⟨by omega,by omega,rfl⟩
theorem AF {t:List Str} (e:t=ls):(t.length:Int)=(ls.length:Int):=by rw [e]
theorem Dy (h0:s.b.length<=1000000) (hx:(gH s)[k]? = some x):x.b.length<=1000000/\x.b.length<4294967281:=by
 have:=Ec (List.mem_of_getElem? hx)
 omega
theorem Bn (h0:s.b.length<=1000000) (hx:(bc s)[k]? = some x):x.b.length<=1000000:=by
 rw [AI] at hx; exact (Dy h0 hx).1
theorem Fl (hJ:TkJ ls k):I64 ((k:Int)+1):=by
 have:=hJ.le
 have:=hJ.big
 constructor <;> omega
theorem Dt (hJ:TkJ ls k) (hx:ls[k]? = some x) (h:bN x=0):TkJ ls (k+1):=by
 have:=(List.getElem?_eq_some_iff.1 hx).1
 refine ⟨by omega,hJ.big,?_⟩
 rw [lO hx,List.all_append,hJ.ok]; simp [rdOk,h]
theorem Bx (hJ:TkJ ls k) (hx:ls[k]? = some x) (h:fT x=0):TkJ ls (k+1):=Dt hJ hx ((nx x).2.trans h)
theorem Ch (hx:ls[k]? = some x):(ls.take k).map aV++[aV x]=(ls.take (k+1)).map aV:=by rw [lO hx,List.map_append]; rfl
theorem Bq (hx:ls[k]? = some x):(ls.take k).map aV++[kR x]=(ls.take (k+1)).map aV:=by rw [<- (nx x).1,Ch hx]
theorem gp (hJ:TkJ ls k) (hx:ls[k]? = some x) (h:¬ bN x=0):pS ls=[]/\(k:Int)+1=qp ls/\bN x=oJ ls:=by
 obtain ⟨hk,hx2⟩:=List.getElem?_eq_some_iff.1 hx
 have h1:¬ ls.all rdOk=true:=fun h2=>h (of_decide_eq_true (List.all_eq_true.1 h2 x (List.mem_of_getElem? hx)))
 have hb:=hJ.big
 have hi:ls.findIdx (fun s=>!rdOk s)=k:=by
  rw [List.findIdx_eq hk]
  refine ⟨by rw [hx2]; simp [rdOk,h],fun j hj=>?_⟩
  have:=List.all_eq_true.1 hJ.ok ls[j] (by rw [List.mem_take_iff_getElem]; exact ⟨j,by omega,rfl⟩)
  rw [this]; rfl
 have h3:bN x=240:=(oO x).elim (fun h2=>absurd h2 h) (·.1)
 rw [pS,if_neg (fun h2=>h1 h2.2),qp,if_neg (fun h2=>h2.elim (by omega) h1),oJ,if_neg (by omega),if_neg h1,hi,h3]; exact ⟨rfl,rfl,rfl⟩
theorem fH (hJ:TkJ ls k) (hx:ls[k]? = some x) (h:¬ fT x=0):pS ls=[]/\(k:Int)+1=qp ls/\fT x=oJ ls:=by
 rw [<- (nx x).2] at h ⊢; exact gp hJ hx h
theorem jb (hJ:TkJ ls k) (h:(ls.length:Int)<=k):(ls.take k).map aV=pS ls/\0=qp ls/\0=oJ ls:=by
 have hk:=hJ.ok
 have hb:=hJ.big
 rw [List.take_of_length_le (by omega)] at hk ⊢
 rw [pS,if_pos ⟨hb,hk⟩,qp,if_pos (.inr hk),oJ,if_neg (by omega),if_pos hk]; exact ⟨rfl,rfl,rfl⟩
theorem xF {e:Event} (hJ:TkJ ls k):(((ls.take k).map aV).length+[e].length)*112<=140737488355328:=by
 have h1:=hJ.le
 have h2:=hJ.big
 rw [List.length_map,List.length_take,List.length_singleton]; omega
theorem Bp:(ls.take 0).map aV=[]:=rfl
end
section
variable {l:List Event} {k:Nat} {e:Event}
theorem EO {p:Prop} (h0:l=[]) (h:0<(l.length:Int)):p:=by subst h0; simp at h
theorem FC (h0:l=[]):(⟨[]⟩:Str)=ec l/\0=ee l:=by subst h0; exact ⟨rfl,rfl⟩
theorem Fx (hJ:PutJ l k):((cm (l.take k)).length+(ao e).b.length)*1<=140737488355328:=by
 have:=Bc (e:=e) hJ
 omega
theorem EL (hJ:PutJ l k):((cm (l.take k)++(ao e).b).length+1)*1<=140737488355328:=by
 have:=Bu (e:=e) hJ
 rw [List.length_singleton] at this; omega
theorem Eu (he:l[k]? = some e):cm (l.take k)++(ao e).b++[UInt8.ofNat 10]=cm (l.take (k+1)):=EG he
end
def AJ (l:List Event):List (Nat × LI):=[(5,{ σ:=Nat,F:=fun k=>([],[]),J:=fun k=>True,μ:=fun k=>0,un:=some (1,[4,12,13,14]) })]
def Br (l:List Event):List (Nat × LI):=[(5,{ σ:=Nat,F:=fun k=>([(4,one (.ptr 0 0)),(12,one (.fz (.nm .event) (l))),(13,one (.int (l).length)),(14,one (.int k))],[.box 62 ([.xx .bp [(0,0)],.own 1]),.row 5 .u8 ((cm (l.take k)))]),J:=fun k=>PutJ l k,μ:=fun k=>l.length - k })]
def vR (s:Str):List (Nat × LI):=[(9,{ σ:=Nat,F:=fun k=>([(7,one (.own 0)),(28,one (.fz .str (gH s))),(29,one (.int (gH s).length)),(30,one (.int k))],[.row 26 (.nm .event) ((((gH s).take k).map aV))]),J:=fun k=>TkJ (gH s) k,μ:=fun k=>(gH s).length - k })]
def wN (s:Str):List (Nat × LI):=[(6,{ σ:=Nat,F:=fun k=>([(5,one (.fz .str (bc s))),(6,one (.own 0)),(7,one (.int k))],[.row 26 (.nm .event) ((((bc s).take k).map aV))]),J:=fun k=>TkJ (bc s) k,μ:=fun k=>(bc s).length - k })]
theorem BV (l:List Event) (r0:Str) (r1:Int):fW aP mR (AJ l) Tryd.f17 [.c (.fz (.nm .event) (l))] [] [.c (.str (r0)),.c (.int (r1))]=((fun (q1:Int)=>(fun (q0:Int)=>l.length*(112:Nat)<=(140737488355328:Nat)->((1024:Int)<q1->Str.mk []=r0/\(4:Int)=r1)/\(q1<=(1024:Int)->(q0<q1->q0<=q0/\q0<q1/\∀ (x:Event),l[(0:Nat)]? = some x->I64 x.kind->I64 x.a->I64 x.b->I64 x.c.kind->I64 x.c.client->I64 x.c.seq->I64 x.c.set->I64 x.c.id->I64 x.c.n->x.c.chunks.length*(8:Nat)<=(140737488355328:Nat)->x.c.text.b.length<=(140737488355328:Nat)->(ao x).b.length<=(140737488355328:Nat)->I64 (ax x)->(¬ax x=q0->Str.mk []=r0/\ax x=r1)/\(ax x=q0->False))/\(q1<=q0->(0:Nat)<=(140737488355328:Nat)->Str.mk []=r0/\q0=r1))) (0:Int)) (↑l.length:Int)):=by kernel_rfl
theorem uW (l:List Event) (h0:l=[]):Sat Tryd.prog (aj aP) 17 [.c (.fz (.nm .event) (l))] [] ⟨[l=[]],[.c (.str ((ec l))),.c (.int ((ee l)))],none,false⟩:=by
 refine bB fx (AJ l) Tryd.func17 (by decide) (by kernel_rfl) ?_
 rw [BV]
 iterate 3 ((all_goals (repeat' (first | with_reducible apply dW | with_reducible refine dY ?_ | intro))); (all_goals try (first | exact ga | exact rfl | exact (iK ab).1 | exact (iK ab).2 | exact (EO h0 ab) | exact (FC h0).1 | exact (FC h0).2)); all_goals try first | refine ⟨‹Nat› + 1,?_⟩ | refine ⟨0,?_⟩)
theorem Ct (l:List Event) (r0:Str) (r1:Int):fW aP mR (Br l) Tryd.f17 [.c (.fz (.nm .event) (l))] [] [.c (.str (r0)),.c (.int (r1))]=((fun (q2:Int)=>(fun (q1:Nat)=>(fun (q0:Int)=>l.length*(112:Nat)<=q1->((1024:Int)<q2->Str.mk []=r0/\(4:Int)=r1)/\(q2<=(1024:Int)->∃ (s0:Nat),(l=l/\q2=q0/\(0:Int)=(↑s0:Int)/\cm (List.take s0 l)=[])/\PutJ l s0/\∀ (s:Nat),(fun (q3:List UInt8)=>PutJ l s->((↑s:Int)<q0->(0:Int)<=(↑s:Int)/\(↑s:Int)<q2/\∀ (x:Event),l[s]? = some x->I64 x.kind->I64 x.a->I64 x.b->I64 x.c.kind->I64 x.c.client->I64 x.c.seq->I64 x.c.set->I64 x.c.id->I64 x.c.n->x.c.chunks.length*(8:Nat)<=q1->x.c.text.b.length<=q1->(ao x).b.length<=q1->I64 (ax x)->(¬ax x=(0:Int)->Str.mk []=r0/\ax x=r1)/\(ax x=(0:Int)->(q3.length+(ao x).b.length)*(1:Nat)<=q1/\(I64 (↑(ao x).b.length:Int)->((q3++(ao x).b).length+(1:Nat))*(1:Nat)<=q1/\I64 ((↑s:Int)+(1:Int))/\∃ (s':Nat),(l=l/\q0=q0/\(↑s:Int)+(1:Int)=(↑s':Int)/\q3++(ao x).b++[UInt8.ofNat (10:Nat)]=cm (List.take s' l))/\PutJ l s' /\ l.length - s' < l.length - s)))/\(q0<=(↑s:Int)->¬q3=[]/\(q3.length<=q1->Str.mk q3=r0/\(0:Int)=r1))) (cm (List.take s l)))) (↑l.length:Int)) (140737488355328:Nat)) (↑l.length:Int)):=by kernel_rfl
theorem vl (l:List Event) (h0:l≠[]):Sat Tryd.prog (aj aP) 17 [.c (.fz (.nm .event) (l))] [] ⟨[l≠[]],[.c (.str ((ec l))),.c (.int ((ee l)))],none,false⟩:=by
 refine bB fx (Br l) Tryd.func17 (by decide) (by kernel_rfl) ?_
 rw [Ct]
 iterate 3 ((all_goals (repeat' (first | with_reducible apply dW | with_reducible refine dY ?_ | intro))); (all_goals try (first | exact ga | exact rfl | exact (iK ab).1 | exact (iK ab).2 | exact (DW ab) | exact (nY ab ab ab).1 | exact (nY ab ab ab).2 | exact (nA ab ab).1 | exact (nA ab ab).2 | with_reducible exact (Fx ab) | with_reducible exact (EL ab) | with_reducible exact (DX ab) | exact (Eu ab) | exact (DY ab ab ab) | (have:=(PutJ.le ab); omega) | exact Er | exact (En ab ab h0 ab))); all_goals try first | refine ⟨‹Nat› + 1,?_⟩ | refine ⟨0,?_⟩)
theorem zS (s:Str) (r0:List Event) (r1:Int) (r2:Int):fW aP mR (vR s) Tryd.f19 [.c (.str (s))] [] [.c (.fz (.nm .event) (r0)),.c (.int (r1)),.c (.int (r2))]=((fun (q5:Nat)=>(fun (q4:List Str)=>(fun (q3:Int)=>(fun (q2:Int)=>(fun (q1:Int)=>(fun (q0:List Str)=>s.b.length<=q5->s.b.length<(4294967281:Nat)/\[(10:UInt8)].length=(1:Nat)/\(q0.length*(16:Nat)<=q5->I64 ((↑q0.length:Int) - q2)/\q3<=(↑q0.length:Int) - q2/\(↑q0.length:Int) - q2<(↑q0.length:Int)/\∀ (x:Str),(fun (q8:Prop)=>(fun (q7:Int)=>(fun (q6:Int)=>q0[q6.toNat]? = some x->x.b.length<=q5->(x=Str.mk []->q3<=q6/\q6<=q7/\((1024:Int)<(↑(List.take q6.toNat q0).length:Int)->q8)/\((↑(List.take q6.toNat q0).length:Int)<=(1024:Int)->∃ (s0:Nat),(List.take q6.toNat q0=q4/\(↑(List.take q6.toNat q0).length:Int)=q1/\q3=(↑s0:Int)/\List.map aV (List.take s0 q4)=[])/\TkJ q4 s0/\∀ (s:Nat),(fun (q9:Int)=>TkJ q4 s->((↑s:Int)<q1->q3<=(↑s:Int)/\(↑s:Int)<(↑q4.length:Int)/\∀ (x:Str),(fun (q10:Event)=>q4[s]? = some x->x.b.length<=q5->x.b.length<(4294967281:Nat)/\(I64 q10.kind->I64 q10.a->I64 q10.b->I64 q10.c.kind->I64 q10.c.client->I64 q10.c.seq->I64 q10.c.set->I64 q10.c.id->I64 q10.c.n->q10.c.chunks.length*(8:Nat)<=q5->q10.c.text.b.length<=q5->I64 (bN x)->(¬bN x=q3->I64 q9/\r0=[]/\q9=r1/\bN x=r2)/\(bN x=q3->((List.map aV (List.take s q4)).length+[q10].length)*(112:Nat)<=q5/\I64 q9/\∃ (s':Nat),(q4=q4/\q1=q1/\q9=(↑s':Int)/\List.map aV (List.take s q4)++[q10]=List.map aV (List.take s' q4))/\TkJ q4 s' /\ q4.length - s' < q4.length - s))) (aV x))/\(q1<=(↑s:Int)->List.map aV (List.take s q4)=r0/\q3=r1/\q3=r2)) ((↑s:Int)+q2)))/\(¬x=Str.mk []->((1024:Int)<q7->q8)/\(q7<=(1024:Int)->∃ (s0:Nat),(q0=q4/\q7=q1/\q3=(↑s0:Int)/\List.map aV (List.take s0 q4)=[])/\TkJ q4 s0/\∀ (s:Nat),(fun (q11:Int)=>TkJ q4 s->((↑s:Int)<q1->q3<=(↑s:Int)/\(↑s:Int)<(↑q4.length:Int)/\∀ (x:Str),(fun (q12:Event)=>q4[s]? = some x->x.b.length<=q5->x.b.length<(4294967281:Nat)/\(I64 q12.kind->I64 q12.a->I64 q12.b->I64 q12.c.kind->I64 q12.c.client->I64 q12.c.seq->I64 q12.c.set->I64 q12.c.id->I64 q12.c.n->q12.c.chunks.length*(8:Nat)<=q5->q12.c.text.b.length<=q5->I64 (bN x)->(¬bN x=q3->I64 q11/\r0=[]/\q11=r1/\bN x=r2)/\(bN x=q3->((List.map aV (List.take s q4)).length+[q12].length)*(112:Nat)<=q5/\I64 q11/\∃ (s':Nat),(q4=q4/\q1=q1/\q11=(↑s':Int)/\List.map aV (List.take s q4)++[q12]=List.map aV (List.take s' q4))/\TkJ q4 s' /\ q4.length - s' < q4.length - s))) (aV x))/\(q1<=(↑s:Int)->List.map aV (List.take s q4)=r0/\q3=r1/\q3=r2)) ((↑s:Int)+q2)))) (q7 - q2)) (↑q0.length:Int)) (r0=[]/\q3=r1/\(4:Int)=r2))) (bd s (Str.mk [(10:UInt8)]))) (↑q4.length:Int)) (1:Int)) (0:Int)) (gH s)) (140737488355328:Nat)):=by kernel_rfl
theorem zf (s:Str) (h0:s.b.length<=1000000):Sat Tryd.prog (aj aP) 19 [.c (.str (s))] [] ⟨[s.b.length<=1000000],[.c (.fz (.nm .event) ((pS (gH s)))),.c (.int ((qp (gH s)))),.c (.int ((oJ (gH s))))],none,false⟩:=by
 refine bB fx (vR s) Tryd.func19 (by decide) (by kernel_rfl) ?_
 rw [zS]
 iterate 3 ((all_goals (repeat' (first | with_reducible apply dW | with_reducible refine dY ?_ | intro))); (all_goals try (first | exact ga | exact rfl | exact h0 | exact (zM h0).1 | exact (zM h0).2 | exact (jJ ab ab) | exact (jM ab ab) | exact Bp | with_reducible exact (xF ab) | with_reducible exact (Fl ab) | exact (gp ab ab ab).1 | exact (gp ab ab ab).2.1 | exact (gp ab ab ab).2.2 | exact (fH ab ab ab).1 | exact (fH ab ab ab).2.1 | exact (fH ab ab ab).2.2 | exact (jb ab ab).1 | exact (jb ab ab).2.1 | exact (jb ab ab).2.2 | exact (Ch ab) | exact (Bq ab) | exact (Dt ab ab ab) | exact (Bx ab ab ab) | exact (Dy h0 ab).2 | exact (Bn h0 ab) | exact (iM (by first | exact jJ ab ab | exact jM ab ab | exact rfl) ab).1 | exact (iM (by first | exact jJ ab ab | exact jM ab ab | exact rfl) ab).2.1 | exact (iM (by first | exact jJ ab ab | exact jM ab ab | exact rfl) ab).2.2 | exact (Ep (by first | exact jJ ab ab | exact jM ab ab | exact rfl) ab) | exact (AF (by first | exact jJ ab ab | exact jM ab ab | exact rfl)) | (have:=(TkJ.le ab); omega))); all_goals try first | refine ⟨‹Nat› + 1,?_⟩ | refine ⟨0,?_⟩)
theorem zo (s:Str) (r0:List Event) (r1:Int) (r2:Int):fW aP mR (wN s) Tryd.f20 [.c (.str (s))] [] [.c (.fz (.nm .event) (r0)),.c (.int (r1)),.c (.int (r2))]=((fun (q2:Nat)=>(fun (q1:Int)=>(fun (q0:List Str)=>s.b.length<=q2->s.b.length<=(1000000:Nat)/\(q0.length*(16:Nat)<=q2->((1024:Int)<(↑q0.length:Int)->r0=[]/\q1=r1/\(4:Int)=r2)/\((↑q0.length:Int)<=(1024:Int)->∃ (s0:Nat),(q0=q0/\q1=(↑s0:Int)/\List.map aV (List.take s0 q0)=[])/\TkJ q0 s0/\∀ (s:Nat),(fun (q3:Int)=>TkJ q0 s->((↑s:Int)<(↑q0.length:Int)->q1<=(↑s:Int)/\(↑s:Int)<(↑q0.length:Int)/\∀ (x:Str),(fun (q4:Event)=>q0[s]? = some x->x.b.length<=q2->x.b.length<=(1000000:Nat)/\(I64 q4.kind->I64 q4.a->I64 q4.b->I64 q4.c.kind->I64 q4.c.client->I64 q4.c.seq->I64 q4.c.set->I64 q4.c.id->I64 q4.c.n->q4.c.chunks.length*(8:Nat)<=q2->q4.c.text.b.length<=q2->I64 (fT x)->(¬fT x=q1->I64 q3/\r0=[]/\q3=r1/\fT x=r2)/\(fT x=q1->((List.map aV (List.take s q0)).length+[q4].length)*(112:Nat)<=q2/\I64 q3/\∃ (s':Nat),(q0=q0/\q3=(↑s':Int)/\List.map aV (List.take s q0)++[q4]=List.map aV (List.take s' q0))/\TkJ q0 s' /\ q0.length - s' < q0.length - s))) (kR x))/\((↑q0.length:Int)<=(↑s:Int)->List.map aV (List.take s q0)=r0/\q1=r1/\q1=r2)) ((↑s:Int)+(1:Int))))) (bc s)) (0:Int)) (140737488355328:Nat)):=by kernel_rfl
theorem yF (s:Str) (h0:s.b.length<=1000000):Sat Tryd.prog (aj aP) 20 [.c (.str (s))] [] ⟨[s.b.length<=1000000],[.c (.fz (.nm .event) ((pS (bc s)))),.c (.int ((qp (bc s)))),.c (.int ((oJ (bc s))))],none,false⟩:=by
 refine bB fx (wN s) Tryd.func20 (by decide) (by kernel_rfl) ?_
 rw [zo]
 iterate 3 ((all_goals (repeat' (first | with_reducible apply dW | with_reducible refine dY ?_ | intro))); (all_goals try (first | exact ga | exact rfl | exact h0 | exact (zM h0).1 | exact (zM h0).2 | exact (jJ ab ab) | exact (jM ab ab) | exact Bp | with_reducible exact (xF ab) | with_reducible exact (Fl ab) | exact (gp ab ab ab).1 | exact (gp ab ab ab).2.1 | exact (gp ab ab ab).2.2 | exact (fH ab ab ab).1 | exact (fH ab ab ab).2.1 | exact (fH ab ab ab).2.2 | exact (jb ab ab).1 | exact (jb ab ab).2.1 | exact (jb ab ab).2.2 | exact (Ch ab) | exact (Bq ab) | exact (Dt ab ab ab) | exact (Bx ab ab ab) | exact (Dy h0 ab).2 | exact (Bn h0 ab) | exact (iM (by first | exact jJ ab ab | exact jM ab ab | exact rfl) ab).1 | exact (iM (by first | exact jJ ab ab | exact jM ab ab | exact rfl) ab).2.1 | exact (iM (by first | exact jJ ab ab | exact jM ab ab | exact rfl) ab).2.2 | exact (Ep (by first | exact jJ ab ab | exact jM ab ab | exact rfl) ab) | exact (AF (by first | exact jJ ab ab | exact jM ab ab | exact rfl)) | (have:=(TkJ.le ab); omega))); all_goals try first | refine ⟨‹Nat› + 1,?_⟩ | refine ⟨0,?_⟩)
def AE:cG:=(dr 20 (cV (aA (kC cS) br) bt fun (s,_) (_)=>⟨[s.b.length<=1000000],[.c (.fz (.nm .event) ((pS (bc s)))),.c (.int ((qp (bc s)))),.c (.int ((oJ (bc s))))],none,false⟩) (dr 19 (cV (aA (kC cS) br) bt fun (s,_) (_)=>⟨[s.b.length<=1000000],[.c (.fz (.nm .event) ((pS (gH s)))),.c (.int ((qp (gH s)))),.c (.int ((oJ (gH s))))],none,false⟩) (dr 17 (cV (aA (kC (cL (.nm .event))) br) bt fun (l,_) (_)=>⟨[l≠[]],[.c (.str ((ec l))),.c (.int ((ee l)))],none,false⟩) (dr 17 (cV (aA (kC (cL (.nm .event))) br) bt fun (l,_) (_)=>⟨[l=[]],[.c (.str ((ec l))),.c (.int ((ee l)))],none,false⟩) mR))))
theorem vy:aZ Tryd.prog (aj aP) AE:=(aD (aE (ae (aH cq) aq) au fun (s,_) (_) hp=>yF s (ot hp)) (aD (aE (ae (aH cq) aq) au fun (s,_) (_) hp=>zf s (ot hp)) (aD (aE (ae (aH dx) aq) au fun (l,_) (_) hp=>vl l (ot hp)) (aD (aE (ae (aH dx) aq) au fun (l,_) (_) hp=>uW l (ot hp)) fx))))
theorem zL {s:Str}:(s.b.take 6000).length<=1000000:=by rw [List.length_take]; omega
theorem Gi {l:List Event} {s:Str}:(true && decide (ec l=ec l) && decide (ee l=ee l) && decide (pS (gH s)=pS (bc s)) && decide (qp (gH s)=qp (bc s)) && decide (oJ (gH s)=oJ (bc s)))=true:=by
 rw [AI]; simp
theorem EY (l:List Event):Sat Tryd.prog (aj aP) 17 [.c (.fz (.nm .event) (l))] [] ⟨[],[.c (.str ((ec l))),.c (.int ((ee l)))],none,false⟩:=by
 by_cases h:l=[]
 ·exact uW l h
 ·exact vl l h
def Ba:cG:=(dr 17 (cV (aA (kC (cL (.nm .event))) br) bt fun (l,_) (_)=>⟨[],[.c (.str ((ec l))),.c (.int ((ee l)))],none,false⟩) AE)
theorem xZ:aZ Tryd.prog (aj aP) Ba:=(aD (aE (ae (aH dx) aq) au fun (l,_) (_) _=>EY l ) vy)
theorem zt (l:List Event) (s:Str) (r0:Bool):fW aP Ba [] Tryd.f5 [.c (.fz (.nm .event) (l)),.c (.str (s))] [] [.c (.bool (.atom (r0)))]=((fun (q1:Nat)=>(fun (q0:List UInt8)=>l.length*(112:Nat)<=q1->s.b.length<=q1->(jd l).length*(112:Nat)<=q1->q0.length<=q1->(ec (jd l)).b.length<=q1->I64 (ee (jd l))->(ec (jd l)).b.length<=q1->I64 (ee (jd l))->q0.length<=(1000000:Nat)/\((pS (gH (Str.mk q0))).length*(112:Nat)<=q1->I64 (qp (gH (Str.mk q0)))->I64 (oJ (gH (Str.mk q0)))->q0.length<=(1000000:Nat)/\((pS (bc (Str.mk q0))).length*(112:Nat)<=q1->I64 (qp (bc (Str.mk q0)))->I64 (oJ (bc (Str.mk q0)))->(true && decide (ec (jd l)=ec (jd l)) && decide (ee (jd l)=ee (jd l)) && decide (pS (gH (Str.mk q0))=pS (bc (Str.mk q0))) && decide (qp (gH (Str.mk q0))=qp (bc (Str.mk q0))) && decide (oJ (gH (Str.mk q0))=oJ (bc (Str.mk q0))))=r0))) (List.take (6000:Nat) s.b)) (140737488355328:Nat)):=by kernel_rfl
theorem yU (l:List Event) (s:Str):Sat Tryd.prog (aj aP) 5 [.c (.fz (.nm .event) (l)),.c (.str (s))] [] ⟨[],[.c (.bool (.atom ((true))))],none,false⟩:=by
 refine bB xZ [] Tryd.func5 (by decide) (by kernel_rfl) ?_
 rw [zt]
 (repeat' (first | with_reducible apply dW | with_reducible refine dY ?_ | intro))
 all_goals (first | exact ga | exact zL | exact Gi)
end Go.Proofs.YtagpmhlokhoanaaDoor
namespace Go.Proofs.YtagpmhlokhoanaaDoor
open Go.RowKit Go.ChangeShapes Go.WideShapes
theorem ya:ownKnob Tryd.prog.godebug=none:=by kernel_rfl
theorem vF:laidOutB Tryd.prog=true:=by kernel_rfl
theorem Hj:Tr Tryd.prog (aj aP) 24 (.nm .command):=Tr.struct (ss:=[.int,.int,.int,.int,.int,.int,(.lst .int),.str]) Tryd.underlying24 (by kernel_rfl) (fun cells h=>by
 obtain ⟨y0,l0,rfl,y1,l1,rfl,y2,l2,rfl,y3,l3,rfl,y4,l4,rfl,y5,l5,rfl,y6,l6,rfl,y7,l7,rfl,rfl⟩:=h
 exact ⟨⟨y0,y1,y2,y3,y4,y5,y6,y7⟩,rfl⟩) (mm.cons (Tr.int Tryd.underlying3) rfl (by kernel_rfl) (mm.cons (Tr.int Tryd.underlying3) rfl (by kernel_rfl) (mm.cons (Tr.int Tryd.underlying3) rfl (by kernel_rfl) (mm.cons (Tr.int Tryd.underlying3) rfl (by kernel_rfl) (mm.cons (Tr.int Tryd.underlying3) rfl (by kernel_rfl) (mm.cons (Tr.int Tryd.underlying3) rfl (by kernel_rfl) (mm.cons (Tr.list Tryd.underlying22 (by kernel_rfl) (by kernel_rfl) (Tr.int Tryd.underlying3)) rfl (by kernel_rfl) (mm.cons (Tr.str Tryd.underlying9) rfl (by kernel_rfl) (mm.nil)))))))))
theorem Hu:Tr Tryd.prog (aj aP) 26 (.nm .event):=Tr.struct (ss:=[.int,.int,.int,(.nm .command)]) Tryd.underlying26 (by kernel_rfl) (fun cells h=>by
 obtain ⟨y0,l0,rfl,y1,l1,rfl,y2,l2,rfl,y3,l3,rfl,rfl⟩:=h
 exact ⟨⟨y0,y1,y2,y3⟩,rfl⟩) (mm.cons (Tr.int Tryd.underlying3) rfl (by kernel_rfl) (mm.cons (Tr.int Tryd.underlying3) rfl (by kernel_rfl) (mm.cons (Tr.int Tryd.underlying3) rfl (by kernel_rfl) (mm.cons (Hj) rfl (by kernel_rfl) (mm.nil)))))
set_option maxRecDepth 100000 in
theorem jm (os:Os) (started:os.Started) (H:Type) (enc:TypeId × Value->H) :
  ReturnsInHanded {} Tryd.checked os 5 .any (fun w args=>(Rows.scriptTextsSpec.pre enc Tryd.prog Tryd.f5 Rows.scriptTextsRow.domain false w args/\laidMetH Tryd.prog Rows.scriptTextsRow.laid w)/\sizedMet enc Tryd.prog Tryd.f5 (OpenSpec.ofChange Rows.scriptTextsSpec) false w args) (Rows.scriptTextsSpec.post enc Tryd.prog Tryd.f5 false true false false):=by
 refine lG (C:=Tryd.checked) (L:=Rows.scriptTextsRow.laid) ya started (by kernel_rfl) Tryd.func5
  (ChangeSpec.witness_shaped (enc:=enc) (C:=Tryd.checked) (os:=os) (X:=fun w _=>laidMetH Tryd.prog Rows.scriptTextsRow.laid w) false (World.laidAll Tryd.prog os Rows.scriptTextsRow.laid) #[.slice none 0 0,.string ⟨#[]⟩] 8 (World.laidAll_os _ _ _) (World.shaped_of_ZipB (by kernel_rfl) (by kernel_rfl)) (by kernel_rfl) (by kernel_rfl) (by kernel_rfl) (by rw [MakeChecks.laidMetH_plain _ _ _ (by kernel_rfl)]; exact laidMet_laidAll _ (by kernel_rfl) (by kernel_rfl))) vF (by kernel_rfl) (by kernel_rfl) Tryd.underlying4 rfl (fun ds h=>?_) ?_
 ·match ds,h with
  | [d0,d1],_=>rfl
 ·intro W args hL hsh hs ha
  obtain ⟨l⟩:=args
  match l,hs with
  | [v0,v1],_=>
   obtain ⟨x0,h0⟩:=Ar.list (shp:=aj aP) (ha 0 36 _ rfl rfl) Tryd.underlying36 (Tr.list Tryd.underlying36 (by kernel_rfl) (by kernel_rfl) (Hu))
   obtain ⟨x1,h1⟩:=Ar.str (shp:=aj aP) (ha 1 9 _ rfl rfl) Tryd.underlying9
   exact zV (yU x0 x1) rfl (.cons h0 (.cons h1 .nil)) (tD hL hsh)
theorem scriptTexts_holds:Rows.ScriptTextsSaid:=
 OpenClaim.holds_of_wide 5 Tryd.f5 rfl rfl rfl rfl rfl rfl rfl ⟨rfl,rfl,rfl,rfl,rfl⟩ rfl rfl rfl rfl rfl (by kernel_rfl) Tryd.func5 (by kernel_rfl)
  (of_decide_eq_true (by kernel_rfl)) (by unfold Func.isWrapper; first | (rw [if_pos (by decide +kernel)]; kernel_rfl) | (rw [if_neg (by decide +kernel)]; exact ⟨rfl,rfl⟩))
  (fun os started H enc _=>jm os started H enc)
theorem scriptTextsCard_holds:Rows.ScriptTextsCardSaid:=
 Claim7.holds_tied_plain_at .later [] Rows.scriptTextsCard.laidKinds true Rows.scriptTextsCard.stood.harness true
  scriptTexts_holds (fun _ h=>by cases h) (by kernel_rfl) (fun _ h=>by cases h) scriptTexts_row_tie rfl ⟨rfl,rfl⟩ (by kernel_rfl) rfl
  (fun f fn hf hfn=>by
   obtain rfl:5=f:=Option.some.inj ((show some 5=Tryd.prog.funcNamed Rows.scriptTextsRow.func by kernel_rfl).trans hf)
   obtain rfl:fn=Tryd.f5:=(Option.some.inj (Tryd.func5.symm.trans hfn)).symm
   exact ⟨by kernel_rfl,fun j t ht=>by
    rw [Tryd.params5] at ht
    have hm:t ∈ [36,9]:=by simpa using Array.mem_of_getElem? ht
    have hall:([36,9].all fun u=>!Tryd.prog.wantsStandIn u)=true:=by kernel_rfl
    exact (show Tryd.prog.wantsStandIn t=false by simpa using List.all_eq_true.1 hall t hm)⟩)
  (by kernel_rfl)
end Go.Proofs.YtagpmhlokhoanaaDoor
