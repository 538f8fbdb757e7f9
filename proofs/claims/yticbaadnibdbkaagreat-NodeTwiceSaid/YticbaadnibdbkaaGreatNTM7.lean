/- What leads to the law, part 7. Conditions: each lemma's own. -/
import Derived.Test.YticbaadnibdbkaaGreatNTM6
set_option linter.unusedVariables false
set_option linter.unusedSimpArgs false
set_option maxHeartbeats 2000000
set_option linter.defProp false
noncomputable section
namespace Go.Proofs.YticbaadnibdbkaaGreat
open Go.RowKit
variable {k:Nat} {x:UInt8}
def vi {q:Nat × Nat} {l:List UInt8} (h:l[k]? = some x):ig q (l.take (k+1))=NH (ig q (l.take k)) x:=by
 rw [ai h,ig,List.foldl_append]; rfl
variable {b:List UInt8}
def abb {s:Nat} (h:b[k]? = some x):((ig (s % 65536 % 65521,s / 65536 % 65521) (b.take k)).1+x.toNat) % 4294967296 % 65521=(ig (s % 65536 % 65521,s / 65536 % 65521) (b.take (k+1))).1:=by
 have:=(qS (s:=s) (b.take k)).1;have:=x.toNat_lt;rw [vi h,NH];omega
def Ye {s:Nat} (h:b[k]? = some x):((ig (s % 65536 % 65521,s / 65536 % 65521) (b.take k)).2+((ig (s % 65536 % 65521,s / 65536 % 65521) (b.take k)).1+x.toNat) % 4294967296 % 65521) % 4294967296 % 65521=(ig (s % 65536 % 65521,s / 65536 % 65521) (b.take (k+1))).2:=by
 have:=(qS (s:=s) (b.take k));have:=x.toNat_lt;rw [vi h,NH];omega
def YC {s:Nat} (h:(b.length:Int)<=k):(65536*(ig (s % 65536 % 65521,s / 65536 % 65521) (b.take k)).2 % 4294967296+(ig (s % 65536 % 65521,s / 65536 % 65521) (b.take k)).1) % 4294967296=dU s b:=by
 have:=(qS (s:=s) b);rw [List.take_of_length_le aL,dU];omega
variable {x:Bool} {l:List Bool}
def agZ (h:l[k]? = some x) (a:x=true):(((l.take k).countP id:Nat):Int)+1=((l.take (k+1)).countP id:Nat):=by
 rw [ai h,List.countP_append,a]; simp
def aho (h:l[k]? = some x) (a:x=false):(((l.take k).countP id:Nat):Int)=((l.take (k+1)).countP id:Nat):=by
 rw [ai h,List.countP_append,a]; simp
def aib (h:(l.length:Int)<=k):decide ((l.length:Int).tdiv 2<((l.take k).countP id:Nat))=decide ((l.length:Int).tdiv 2<(l.countP id:Nat)):=by
 rw [List.take_of_length_le aL]
def ahf (h:l.length*1<=140737488355328):I64 (((l.take k).countP id:Nat)+1):=by
 have a:(l.take k).countP id<=(l.take k).length:=List.countP_le_length;rw [List.length_take] at a;exact bZ aL aL
variable {l:List Entry}
def TL (h:(l.length:Int)=0):(0:Int)=iH l:=by
 rw [ab_ (l:=l) aL]; rfl
def Se (h:¬ (l.length:Int)=0):(l.getD ((l.length:Int) - 1).toNat (ak (Sh.nm NT.entry))).term=iH l:=by
 rw [show ((l.length:Int) - 1).toNat=l.length - 1 by omega]; rfl
variable {k:Int}
def VK {x:Entry} (a:¬ k=0) (c:0<=k) (d:k<=(l.length:Int)) (h:l[(k - 1).toNat]? = some x):x.term=cf l k:=by
 rw [cf,if_neg a,if_neg aL,List.getD_eq_getElem?_getD,h]; rfl
def abc (s:Nat) (b:List UInt8):List (Nat × LI):=[(3,{ σ:=Nat,F:=fun k=>([(5,one (.ptr 0 0)),(15,one (.fz .u8 (b))),(16,one (.int (b).length)),(17,one (.int k))],[.box 286 ([.xx (.w (((ig (s % 65536 % 65521,s / 65536 % 65521) (b.take k)).1))) [],.xx (.w (((ig (s % 65536 % 65521,s / 65536 % 65521) (b.take k)).2))) []])]),J:=fun k=>k<=b.length,μ:=fun k=>(b).length - k })]
def Zv (l:List Bool):List (Nat × LI):=[(3,{ σ:=Nat,F:=fun k=>([(0,one (.fz .bool (l))),(3,one (.int ((l.take k).countP id))),(6,one (.fz .bool (l))),(7,one (.int (l).length)),(8,one (.int k))],[]),J:=fun k=>k<=l.length,μ:=fun k=>(l).length - k })]
def Az:Kn:=aN (ae (kC (aY 0 0)) aq) (aE (dF 147 (aA (fb 1) (aA cI (aA cB (aA cB (aA cI dy)))))) (aE (e_ 5 .u8) ax)) fun _ ((_,a,d,e,f,_),g,_)=>⟨[(Dsk.mk g a d e f).OK],[.c (.int (((Dsk.mk g a d e f).fH)))],some ([.box 147 ([.own 1,.int ((((Dsk.mk g a d e f).sync).synced)),.bool (.atom ((((Dsk.mk g a d e f).sync).down))),.bool (.atom ((((Dsk.mk g a d e f).sync).doomed))),.int ((((Dsk.mk g a d e f).sync).keep))]),.row 5 .u8 ((((Dsk.mk g a d e f).sync).b))]),false⟩
theorem Mi:CK 151 Az:=ah fun _ ((_,f,g,h,i,_),c,_) m=>by
 have n:=cd m;refine bt gq [] Tryz.func151 (?_:(fun d=>(fun e=>(fun a=>(fun j=>(g=true->30=d.fH/\f=a.synced/\j)/\(g=false->(h=true->(0<=f/\f<=(↑c.length:Int)/\c.length<=65536)/\30=d.fH/\e.synced=a.synced/\e.down=a.down/\e.doomed=a.doomed/\e.keep=a.keep/\e.b=a.b)/\(h=false->0=d.fH/\(↑c.length:Int)=a.synced/\j))) (g=a.down/\h=a.doomed/\i=a.keep/\c=a.b)) d.sync) (d.cF i)) (Dsk.mk c f g h i));obtain ⟨o,p,q⟩:=n;dsimp only at o p q;(repeat' with_reducible first|apply bh|refine bg ?_|intro) <;> first | (first | with_reducible rfl | with_reducible assumption | omega | (refine bZ ?_ ?_ <;> omega)) | grind [Dsk.sync,Dsk.fH]
def Kh :Sat Tryz.prog (al tyT) 38 [] [] ⟨[],[.c (.ptr 0 0)],some ([.box 147 ([.own 1,.int ((0)),.bool (.atom ((false))),.bool (.atom ((false))),.int ((0))]),.row 5 .u8 (([]))]),true⟩:=Sat.Mu 0 0 5 .u8 bK rfl rfl UC rfl
def yU:Kn:=aN aq ax fun _ _=>⟨[],[.c (.ptr 0 0)],some ([.box 147 ([.own 1,.int ((0)),.bool (.atom ((false))),.bool (.atom ((false))),.int ((0))]),.row 5 .u8 (([]))]),true⟩
def NM:CK 38 yU:=ah fun _ _ _=>Kh
def EE:Kn:=aN (ae (kC cW) (ae (kC (cL .u8)) aq)) ax fun (s,b,_) _=>⟨[],[.c (.xx (.w ((dU s b))) [])],none,false⟩
theorem TG:CK 252 EE:=ah fun (s,b,_) _ _=>by
 refine aw gq (abc s b) Tryz.func252 (?_:(fun (i:Nat)=>(fun (g:Nat)=>(fun (f:Int)=>(fun (d:Nat)=>(fun (e:Nat)=>(fun (h:Int)=>(fun (c:Int)=>(fun (j:Nat × Nat)=>b.length*(1:Nat)<=(140737488355328:Nat)->i<g/\i<e/\i<g/\i<e/\∃ (n:Nat),(b=b/\(↑b.length:Int)=(↑d:Int)/\c=(↑n:Int)/\s % g % e=(ig j (List.take n b)).fst/\s / g % e=(ig j (List.take n b)).snd)/\n<=d/\∀ (a:Nat),(fun (o:Nat × Nat)=>a<=d->((↑a:Int)<(↑d:Int)->c<=(↑a:Int)/\(↑a:Int)<(↑b.length:Int)/\∀ (x:UInt8),(fun (p:Nat)=>b[a]? = some x->c<=c/\c<h/\i<e/\c<=c/\c<h/\c<=f/\f<h/\c<=c/\c<h/\i<e/\c<=f/\f<h/\I64 ((↑a:Int)+f)/\∃ (m:Nat),(b=b/\(↑d:Int)=(↑d:Int)/\(↑a:Int)+f=(↑m:Int)/\p=(ig j (List.take m b)).fst/\(o.snd+p) % (4294967296:Nat) % e=(ig j (List.take m b)).snd)/\m <= d/\d - m < d - a) ((o.fst+x.toNat) % (4294967296:Nat) % e))/\((↑d:Int)<=(↑a:Int)->c<=f/\f<h/\c<=c/\c<h/\(g*o.snd % (4294967296:Nat)+o.fst) % (4294967296:Nat)=dU s b)) (ig j (List.take a b))) (s % g % e,s / g % e)) (0:Int)) (↑(2:Nat):Int)) (65521:Nat)) b.length) (1:Int)) (65536:Nat)) (0:Nat));(repeat' with_reducible first|apply bh|refine bg ?_|intro)
 all_goals try ( refine ⟨0,?_⟩; (repeat' with_reducible first|apply bh|refine bg ?_|intro))
 all_goals try ( refine ⟨‹Nat› + 1,?_⟩; (repeat' with_reducible first|apply bh|refine bg ?_|intro))
 all_goals (first | exact br | exact rfl | exact (abb ab) | exact (Ye ab) | exact (YC ab))
def pK:Kn:=aN (ae (kC (cL .u8)) aq) ax fun (l,_) _=>⟨[],[.c (.fz .u8 ((l)))],none,false⟩
theorem yY:CK 104 pK:=ah fun (l,_) _ _=>by
 refine aw gq [] Tryz.func104 (?_:(fun a=>a->∀ (b:Bool),(b=true->l=[])->(b=true->l=[])/\(b=false->a/\l=l)) (l.length*1<=140737488355328));grind
def EW:Kn:=aN (ae (kC (cL (.nm .entry))) aq) ax fun (l,_) _=>⟨[],[.c (.int (((l.length:Int)))),.c (.int ((iH l)))],none,false⟩
def UN:CK 49 EW:=ah fun (l,_) _ _=>by
 refine aw gq [] Tryz.func49 (?_:(fun a=>(fun c=>(fun d=>l.length*32<=140737488355328->(a=0->0=(↑l.length:Int)/\0=iH l)/\(¬a=0->I64 c/\(0<=c/\c<a)/\(I64 d.term->d.b.length*1<=140737488355328->a=(↑l.length:Int)/\d.term=iH l))) (l.getD c.toNat (ak (Sh.nm NT.entry)))) (a - 1)) (↑l.length:Int));(repeat' with_reducible first|apply bh|refine bg ?_|intro)
 all_goals (first | exact br | exact (TL ab) | exact (Se ab))
def Fj:Kn:=aN (ae (kC (cL (.nm .entry))) (ae (kC cI) aq)) ax fun (l,k,_) _=>⟨[],[.c (.int ((cf l k)))],none,false⟩
def Tp:CK 193 Fj:=ah fun (l,k,_) _ _=>by
 refine aw gq [] Tryz.func193 (?_:(fun a=>(fun c=>l.length*32<=140737488355328->I64 k->(k=a->a=cf l k)/\(¬k=a->(k<a\/(↑l.length:Int)<k -> -1=cf l k)/\(a<=k/\k<=(↑l.length:Int)->I64 c/\a<=c/\c<(↑l.length:Int)/\∀ (x:Entry),l[c.toNat]? = some x->I64 x.term->x.b.length*1<=140737488355328->x.term=cf l k))) (k - 1)) (0:Int));(repeat' with_reducible first|apply bh|refine bg ?_|intro)
 all_goals (first | exact br | exact (VK ab ab ab ab) | (rw [cf,if_pos ab]) | (rw [cf,if_neg ab,if_pos ab]))
def Fw:Kn:=aN (ae (kC cI) (ae (kT (.nm .letter)) aq)) ax fun (n,x,_) _=>⟨[0<=x.a/\x.a<=64],[.c (.int ((jo n x)))],none,false⟩
theorem TB:CK 172 Fw:=ah fun (n,x,_) _ e=>by
 have f:=cd e;refine aw gq [] Tryz.func172 (?_:(fun c=>(fun d=>I64 n->aK x ((x.ok=true->I64 d/\d=jo n x)/\(x.ok=false->(c<n->I64 (n - c)/\I64 d/\min (n - c) d=jo n x)/\(n<=c->c=jo n x)))) (x.a+c)) (1:Int));(repeat' with_reducible first|apply bh|refine bg ?_|intro)
 all_goals first | exact br | (simp only [jo]; grind) | (have q:=(by with_reducible assumption:I64 n); exact bZ (by have:=q.1; omega) (by have:=q.2; omega))
def FD:Kn:=aN (ae (kC cI) (ae (kC cI) aq)) ax fun (t,v,_) _=>⟨[],[.c (.own 0)],some ([.row 108 (.nm .record) (([⟨2,t,v,[]⟩]))]),true⟩
def VF:CK 88 FD:=ah fun (t,v,_) _ _=>by
 refine dw gq [] Tryz.func88 (?_:I64 t->I64 v->[Record.mk 2 t v []]=[Record.mk 2 t v []]);intros; rfl
def EM:Kn:=aN (ae (kC (cL .bool)) aq) ax fun (l,_) _=>⟨[],[.c (.bool (.atom ((mz l))))],none,false⟩
theorem UP:CK 101 EM:=ah fun (l,_) _ _=>by
 refine aw gq (Zv l) Tryz.func101 (?_:(fun e=>(fun h=>(fun a=>(fun d=>l.length*(1:Nat)<=(140737488355328:Nat)->∃ i,(l=l/\(0:Int)=(↑(List.countP id (List.take i l)):Int)/\l=l/\e=d/\(0:Int)=(↑i:Int))/\i<=a/\∀ (s:Nat),(fun f=>(fun g=>s<=a->((↑s:Int)<d->(0:Int)<=(↑s:Int)/\(↑s:Int)<e/\∀ (x:Bool),l[s]? = some x->(x=true->I64 (g+h)/\I64 f/\∃ c,(l=l/\g+h=(↑(List.countP id (List.take c l)):Int)/\l=l/\d=d/\f=(↑c:Int))/\c <= a/\a - c < a - s)/\(x=false->I64 f/\∃ c,(l=l/\g=(↑(List.countP id (List.take c l)):Int)/\l=l/\d=d/\f=(↑c:Int))/\c <= a/\a - c < a - s))/\(d<=(↑s:Int)->(0:Int)<=e/\(0:Int)<(2:Int)/\decide (e.tdiv (2:Int)<g)=mz l)) (↑(List.countP id (List.take s l)):Int)) ((↑s:Int)+h)) (↑a:Int)) l.length) (1:Int)) (↑l.length:Int));iterate 3 ((all_goals (repeat' with_reducible first|apply bh|refine bg ?_|intro)); (all_goals try (first | exact br | exact rfl | exact (agZ ab ab) | exact (aho ab ab) | exact (ahf ab) | exact (aib ab))); all_goals try first | refine ⟨‹Nat› + 1,?_⟩ | refine ⟨0,?_⟩)
def QE:Kn:=aN (ae (kC cI) (ae (kC cI) (ae (kC cI) aq))) ax fun (n,a,b,_) _=>⟨[],[.c (.bool (.atom ((cm n a b))))],none,false⟩
theorem aai:CK 165 QE:=ah fun (n,a,b,_) _ _=>by
 refine aw gq [] Tryz.func165 (?_:I64 n->I64 a->I64 b->(decide (a<=n) && decide (n<=b))=cm n a b);grind [cm]
def acJ:bM:=(aP 165 QE (aP 101 EM (aP 88 FD (aP 172 Fw (aP 193 Fj (aP 49 EW (aP 104 pK (aP 252 EE (aP 38 yU (aP 151 Az adP))))))))))
def jS:aB Tryz.prog (al tyT) acJ:=(ag aai (ag UP (ag VF (ag TB (ag Tp (ag UN (ag yY (ag TG (ag NM (ag Mi gq))))))))))
def Bw:Kn:=aN (ae (kC (cL .u8)) aq) ax fun (b,_) _=>⟨[],[.c (.xx (.w ((dU 1 b))) [])],none,false⟩
def Kz:CK 209 Bw:=ah fun (b,_) _ _=>by
 refine aw jS [] Tryz.func209 (?_:b.length*1<=140737488355328->dU 1 b=dU 1 b);intros; rfl
def Oy:Kn:=aN (ae (kC (cL .u8)) aq) ax fun (b,_) _=>⟨[],[.c (.fz .u8 ((b)))],none,false⟩
def ZK:CK 211 Oy:=ah fun (b,_) _ _=>by
 refine aw jS [] Tryz.func211 (?_:(fun a=>a->((↑b.length:Int)=0->b=[])/\(¬(↑b.length:Int)=0->a->b=b)) (b.length*1<=140737488355328));(repeat' with_reducible first|apply bh|refine bg ?_|intro)
 all_goals (first | exact br | exact (ab_ aL).symm | exact (ab_ aL))
def mA:Kn:=aN (ae (kC (cL (.nm .entry))) aq) ax fun (l,_) _=>⟨[],[.c (.own 0)],some ([.row 52 (.nm .entry) ((l))]),true⟩
def uo:CK 213 mA:=ah fun (l,_) _ _=>by
 refine dw jS [] Tryz.func213 (?_:(fun a=>a->∀ (b:Bool),(b=true->l=[])->(b=true->l=[])/\(b=false->a/\l=l)) (l.length*32<=140737488355328));exact fun h b c=>⟨c,fun _=>⟨h,rfl⟩⟩
def BN:Kn:=aN (ae (kC (cL (.nm .entry))) (ae (kC cI) (ae (kC cI) aq))) ax fun (l,k,m,_) _=>⟨[],[.c (.bool (.atom ((decide (cf l k=m)))))],none,false⟩
def J_:CK 166 BN:=ah fun (l,k,m,_) _ _=>by
 refine aw jS [] Tryz.func166 (?_:l.length*32<=140737488355328->I64 k->I64 m->I64 (cf l k)->decide (cf l k=m)=decide (cf l k=m));intros; rfl
def Al:Kn:=aN (ae (kC (cL (.nm .entry))) (ae (kC cI) (ae (kC cI) aq))) ax fun (l,k,m,_) _=>⟨[],[.c (.bool (.atom ((jf l k m))))],none,false⟩
def KY:CK 170 Al:=ah fun (l,k,m,_) _ _=>by
 refine aw jS [] Tryz.func170 (?_:l.length*32<=140737488355328->I64 k->I64 m->I64 (↑l.length:Int)->I64 (iH l)->(decide (iH l<m) || decide (m=iH l) && decide ((↑l.length:Int)<=k))=jf l k m);intros; rfl
def Cq:Kn:=aN (ae (kC cI) (ae (kC cI) (ae (kC cB) aq))) ax fun (n,m,a,_) _=>⟨[],[.c (.bool (.atom ((dJ n m a))))],none,false⟩
theorem JX:CK 164 Cq:=ah fun (n,m,a,_) _ _=>by
 refine aw jS [] Tryz.func164 (?_:I64 n->I64 m->(a=false->cm n 0 0=dJ n m a)/\(a=true->cm n 0 m=dJ n m a));(repeat' with_reducible first|apply bh|refine bg ?_|intro)
 all_goals first | exact br | (simp only [dJ]; grind)
def adE:bM:=(aP 164 Cq (aP 170 Al (aP 166 BN (aP 213 mA (aP 211 Oy (aP 209 Bw acJ))))))
def iV:aB Tryz.prog (al tyT) adE:=(ag JX (ag KY (ag J_ (ag uo (ag ZK (ag Kz jS))))))
theorem RU (n:Nat):Zc (n:Int)=UInt8.ofNat n:=by
 apply UInt8.toNat_inj.1;rw [Zc,ofNat_toNat,ofNat_toNat]; omega
variable {m:Int}
def Lk (h:(k<0\/(l.length:Int)<k)\/m<1):ek l k m=[]:=if_pos h
def Oj (a:0<=k) (c:k<=(l.length:Int)) (d:1<=m):(l.drop k.toNat).take (min m ((l.drop k.toNat).length:Int)).toNat=ek l k m:=by
 rw [ek,if_neg aL]
variable {m:List Entry}
def YG (h:k<0\/(l.length:Int)<k):a_ l k m=(0,[]):=if_pos h
variable {j:Nat}
def Wj (c:j<=ez (l.drop k.toNat) m) (d:0<=k) (f:k<=(l.length:Int)) (g:j<m.length) (i:(((l.drop k.toNat).length:Nat):Int)<=j):a_ l k m=(0,m.drop j):=by
 have:=lX (h:=l.drop k.toNat) (a:=m);have e:ez (l.drop k.toNat) m=j:=by omega
 rw [a_,if_neg aL,e,if_neg aL,if_pos aL]
theorem XC {y:Entry} (c:j<=ez (l.drop k.toNat) m) (f:0<=k) (g:k<=(l.length:Int)) (h:(j:Int)<((l.drop k.toNat).length:Nat)) (a:m[j]? = some y) (i:¬ ((l.drop k.toNat).getD j (ak (Sh.nm NT.entry))).term=y.term):a_ l k m=(k+j+1,m.drop j):=by
 have d:(l.drop k.toNat)[j]? = some ((l.drop k.toNat).getD j (ak (Sh.nm NT.entry))):=by
  grind
 have:=oM c d a;have n:=(abp.1 a).1;have e:ez (l.drop k.toNat) m=j:=by
  grind
 rw [a_,if_neg aL,e,if_neg aL,if_neg aL]
theorem adM {y:Entry} (a:j<=ez (l.drop k.toNat) m) (f:(j:Int)<((l.drop k.toNat).length:Nat)) (c:m[j]? = some y) (d:((l.drop k.toNat).getD j (ak (Sh.nm NT.entry))).term=y.term):j+1<=ez (l.drop k.toNat) m:=by
 have e:(l.drop k.toNat)[j]? = some ((l.drop k.toNat).getD j (ak (Sh.nm NT.entry))):=by
  grind
 exact (oM a e c).1 d
def aag (a:j<=ez (l.drop k.toNat) m) (c:0<=k) (d:k<=(l.length:Int)) (e:(m.length:Int)<=j):a_ l k m=(0,[]):=by
 rw [a_,if_neg aL,if_pos aL]
variable {x:Letter}
theorem aa4 (h:((((((((((((¬x.kind=1/\¬x.kind=2)/\¬x.kind=3)/\¬x.kind=4)\/cm x.frm 0 4=false)\/cm x.to 0 4=false)\/x.frm=x.to)\/cm x.term 1 1048576=false)\/cm x.bin 1 3=false)\/dJ x.a 64 (decide (x.kind=1) || decide (x.kind=3) || decide (x.kind=4))=false)\/dJ x.b 1048576 (decide (x.kind=1) || decide (x.kind=3))=false)\/dJ x.c 64 (decide (x.kind=3))=false)\/(x.ok=true/\¬x.kind=2)/\¬x.kind=4)\/dJ (x.l.length:Int) 4 (decide (x.kind=3))=false):mJ x=false:=by
 unfold mJ;grind
theorem aaA (e:((x.kind=1\/x.kind=2)\/x.kind=3)\/x.kind=4) (f:cm x.frm 0 4=true) (g:cm x.to 0 4=true) (h:¬x.frm=x.to) (i:cm x.term 1 1048576=true) (n:cm x.bin 1 3=true) (o:dJ x.a 64 (decide (x.kind=1) || decide (x.kind=3) || decide (x.kind=4))=true) (p:dJ x.b 1048576 (decide (x.kind=1) || decide (x.kind=3))=true) (q:dJ x.c 64 (decide (x.kind=3))=true) (r:(x.ok=false\/x.kind=2)\/x.kind=4) (d:dJ (x.l.length:Int) 4 (decide (x.kind=3))=true):mJ x=true:=by
 unfold mJ;grind
theorem Td {y:Entry} (h:cm y.term 1 1048576=false\/200<(y.b.length:Int)):dk y=false:=by
 unfold dk;grind
def SE {y:Entry} (h:cm y.term 1 1048576=true) (a:(y.b.length:Int)<=200):dk y=true:=by
 unfold dk; rw [h,decide_eq_true a]; rfl
variable {k:Nat}
def adm (h:mJ x=true) (c:(x.l.length:Int)<=k) (a:(x.l.take k).all dk=true):0=mayL x:=by
 rw [List.take_of_length_le aL] at a;rw [mayL,if_pos ⟨h,a⟩]
theorem abZ {y:Entry} (a:x.l[k]? = some y) (h:dk y=false):1=mayL x:=by
 rw [mayL,if_neg];grind
def ae2 {y:Entry} (a:x.l[k]? = some y) (h:dk y=true) (c:(x.l.take k).all dk=true):(x.l.take (k+1)).all dk=true:=by
 rw [ai a,List.all_append,c]; simp [h]
def aga:(x.l.take 0).all dk=true:=rfl
def aeO (h:mJ x=false):1=mayL x:=by
 rw [mayL,if_neg (by rintro ⟨a,_⟩; rw [h] at a; cases a)]
def YQ (x:Letter):List (Nat × LI):=[(7,{ σ:=Nat,F:=fun k=>([(112,one (.fz (.nm .entry) x.l)),(113,one (.int x.l.length)),(114,one (.int k))],[]),J:=fun k=>k<=x.l.length/\mJ x=true/\(x.l.take k).all dk=true,μ:=fun k=>x.l.length - k })]
def RD (l:List Entry) (k:Int) (m:List Entry):List (Nat × LI):=[(5,{ σ:=Nat,F:=fun j=>([(1,one (.int (k))),(2,one (.fz (.nm .entry) (m))),(8,one (.fz (.nm .entry) (l.drop k.toNat))),(22,one (.fz (.nm .entry) (m))),(23,one (.int (m).length)),(24,one (.int j))],[]),J:=fun j=>j<=m.length/\j<=ez (l.drop k.toNat) m,μ:=fun j=>(m).length - j })]
def Gv:Kn:=aN (ae (kC (cL .u8)) (ae (kC cW) aq)) ax fun (b,s,_) _=>⟨[],[.c (.bool (.atom ((decide (dU 1 b=s)))))],none,false⟩
theorem UH:CK 143 Gv:=ah fun (b,s,_) _ _=>by
 refine aw iV [] Tryz.func143 (?_:b.length*1<=140737488355328->decide ((↑(dU 1 b):Int)=(↑s:Int))=decide (dU 1 b=s));(repeat' with_reducible first|apply bh|refine bg ?_|intro) <;> first | (first | with_reducible rfl | with_reducible assumption | omega | (refine bZ ?_ ?_ <;> omega)) | (simp only [decide_eq_decide]; omega)
def O_:Kn:=aN (ae (kC (cL .u8)) aq) ax fun (x,_) _=>⟨[],[.c (.fz .u8 (((pf x).1))),.c (.int (((pf x).2)))],none,false⟩
theorem YP:CK 149 O_:=ah fun (x,_) _ _=>by
 refine aw (TM iV) [] Tryz.func149 (?_:(fun (g:Nat)=>(fun (a:Nat)=>(fun (c:Int)=>(fun (e:Int)=>(fun (f:List (den Sh.u8))=>(fun (d:List (den Sh.u8))=>(fun (h:List (den Sh.u8))=>x.length*a<=(140737488355328:Nat)->(c=(0:Int)\/(4096:Int)<c->(pf x).fst=[]/\(4:Int)=(pf x).snd)/\(¬c=(0:Int)/\c<=(4096:Int)->I64 ((2:Int)+c)/\I64 e/\(0:Int)<=e/\e*(↑a:Int)<=(140737488355328:Int)/\(0:Int)<=c/\(8:Nat)<(64:Nat)/\((0:Nat)+f.length)*a<=(140737488355328:Nat)/\(([]++f).length+x.length)*a<=(140737488355328:Nat)/\(24:Nat)<(32:Nat)/\(16:Nat)<(32:Nat)/\(8:Nat)<(32:Nat)/\(d.length+h.length)*a<=(140737488355328:Nat)/\d++h=(pf x).fst/\(0:Int)=(pf x).snd)) [UInt8.ofNat (dU a d / (2:Nat) ^ (24:Nat)),UInt8.ofNat (dU a d / (2:Nat) ^ (16:Nat)),UInt8.ofNat (dU a d / g),UInt8.ofNat (dU a d)]) ([]++f++x)) [Zc (↑(x.length / g):Int),Zc c]) ((2:Int)+c+(4:Int))) (↑x.length:Int)) (1:Nat)) ((2:Nat) ^ (8:Nat)));(repeat' with_reducible first|apply bh|refine bg ?_|intro)
 all_goals first | exact br | (simp only [pf,fi,jq,yj,RU,aiv] at *; grind)
def vY:Kn:=aN (ae (kC (cL (.nm .entry))) (ae (kC cI) (ae (kC cI) aq))) ax fun (l,k,m,_) _=>⟨[],[.c (.fz (.nm .entry) ((ek l k m)))],none,false⟩
def Hv:CK 194 vY:=ah fun (l,k,m,_) _ _=>by
 refine aw iV [] Tryz.func194 (?_:(fun a=>l.length*32<=140737488355328->I64 k->I64 m->((k<0\/(↑l.length:Int)<k)\/m<1->ek l k m=[])/\((0<=k/\k<=(↑l.length:Int))/\1<=m->0<=k/\k<=(↑l.length:Int)/\0<=min m a/\min m a<=a/\List.take (min m a).toNat (List.drop k.toNat l)=ek l k m)) (↑(List.drop k.toNat l).length:Int));(repeat' with_reducible first|apply bh|refine bg ?_|intro)
 all_goals (first | exact br | exact (Lk ab) | exact (Oj ab ab ab))
def ET:Kn:=aN (ae (kT (.nm .stable)) aq) ax fun (s,_) _=>⟨[],[.agg ([.int ((s.floor)),.int ((s.term)),.int ((s.vote)),.own 0])],some ([.row 52 (.nm .entry) ((s.log))]),true⟩
def RR:CK 147 ET:=ah fun (s,_) _ _=>by
 refine dw iV [] Tryz.func147 (?_:ck s (dV s s));(repeat' with_reducible first|apply bh|refine bg ?_|intro)
 all_goals (first | exact br | exact rfl)
def Bo:Kn:=aN (ae (kT (.nm .stable)) (ae (kC cI) aq)) ax fun (s,t,_) _=>⟨[],[.c (.own 0)],some ([.row 108 (.nm .record) ((az s t))]),true⟩
def NY:CK 100 Bo:=ah fun (s,t,_) _ _=>by
 refine dw iV [] Tryz.func100 (?_:ck s (I64 t->(t<=s.term->az s t=[])/\(s.term<t->[Record.mk 2 t 0 []]=az s t)));(repeat' with_reducible first|apply bh|refine bg ?_|intro)
 all_goals (first | exact br | (rw [az,if_pos ab]) | (rw [az,if_neg aL]) | (simp; done))
def EF:Kn:=aN (ae (kT (.nm .letter)) aq) ax fun (x,_) _=>⟨[],[.c (.int ((mayL x)))],none,false⟩
theorem Sz:CK 94 EF:=ah fun (x,_) _ _=>by
 refine aw iV (YQ x) Tryz.func94 (?_:(fun (n:Int)=>(fun (i:Int)=>(fun (p:Int)=>(fun (g:Int)=>(fun (h:Nat)=>(fun (f:Int)=>(fun (q:Prop)=>(fun (e:Int)=>(fun (t:Bool)=>(fun (q0:Bool)=>(fun (o:Bool)=>aK x (((((((((((((¬f=e/\¬q)/\¬f=3)/\¬f=g\/cm x.frm i g=false)\/cm x.to i g=false)\/x.frm=x.to)\/cm x.term e n=false)\/cm x.bin e 3=false)\/o=false)\/dJ x.b n (t || q0)=false)\/dJ x.c 64 q0=false)\/(x.ok=true/\¬q)/\¬f=g)\/dJ p g q0=false->e=mayL x)/\(((((((((((((f=e\/q)\/f=3)\/f=g)/\cm x.frm i g=true)/\cm x.to i g=true)/\¬x.frm=x.to)/\cm x.term e n=true)/\cm x.bin e 3=true)/\o=true)/\dJ x.b n (t || q0)=true)/\dJ x.c 64 q0=true)/\((x.ok=false\/q)\/f=g))/\dJ p g q0=true->∃ (u:Nat),(x.l=x.l/\p=(↑h:Int)/\i=(↑u:Int))/\(u<=h/\mJ x=true/\(List.take u x.l).all dk=true)/\∀ (s:Nat),s<=h/\mJ x=true/\(List.take s x.l).all dk=true->((↑s:Int)<(↑h:Int)->i<=(↑s:Int)/\(↑s:Int)<p/\∀ (d:Entry),x.l[s]? = some d->I64 d.term->d.b.length*1<=140737488355328->(cm d.term e n=false\/200<(↑d.b.length:Int)->e=mayL x)/\(cm d.term e n=true/\(↑d.b.length:Int)<=200->I64 ((↑s:Int)+e)/\∃ (r:Nat),(x.l=x.l/\(↑h:Int)=(↑h:Int)/\(↑s:Int)+e=(↑r:Int))/\(r <= h/\mJ x=true/\(List.take r x.l).all dk=true)/\h - r < h - s))/\((↑h:Int)<=(↑s:Int)->i=mayL x)))) (dJ x.a 64 (t || q0 || decide (f=g)))) (decide (f=3))) (decide (f=e))) 1) (f=2)) x.kind) x.l.length) 4) (↑x.l.length:Int)) 0) 1048576);iterate 3 ((all_goals (repeat' with_reducible first|apply bh|refine bg ?_|intro)); (all_goals try (first | exact br | exact aga | exact (adm ab ab ab) | exact (aeO (aa4 ab)) | exact (aaA ab ab ab ab ab ab ab ab ab ab ab) | exact (ae2 ab (SE ab ab) ab) | exact (abZ ab (Td ab)))); all_goals try first | refine ⟨‹Nat› + 1,?_⟩ | refine ⟨0,?_⟩)
def Bn:Kn:=aN (ae (kC (cL (.nm .entry))) (ae (kC cI) (ae (kC (cL (.nm .entry))) aq))) ax fun (l,k,m,_) _=>⟨[],[.c (.int (((a_ l k m).1))),.c (.fz (.nm .entry) (((a_ l k m).2)))],none,false⟩
theorem Qq:CK 167 Bn:=ah fun (l,k,m,_) _ _=>by
 refine aw iV (RD l k m) Tryz.func167 (?_:(fun (g:Int)=>(fun (n:Nat)=>(fun (d:Nat)=>(fun (e:Int × List Entry)=>(fun (c:Int)=>(fun (f:List (den (Sh.nm NT.entry)))=>l.length*32<=140737488355328->I64 k->m.length*32<=140737488355328->(k<c\/(↑l.length:Int)<k->c=e.fst/\e.snd=[])/\(c<=k/\k<=(↑l.length:Int)->c<=k/\k<=(↑l.length:Int)/\∃ (o:Nat),(k=k/\m=m/\f=f/\m=m/\g=(↑d:Int)/\c=(↑o:Int))/\(o<=d/\o<=n)/\∀ (s:Nat),(fun (h:den (Sh.nm NT.entry))=>(fun (a:Int)=>s<=d/\s<=n->(a<(↑d:Int)->c<=a/\a<g/\∀ (x:Entry),m[s]? = some x->I64 x.term->x.b.length*1<=140737488355328->((↑f.length:Int)<=a->c<=a/\a<=g/\c=e.fst/\List.drop s m=e.snd)/\(a<(↑f.length:Int)->c<=a/\a<(↑f.length:Int)/\(I64 h.term->h.b.length*1<=140737488355328->(¬h.term=x.term->I64 (k+a)/\I64 (k+a+1)/\c<=a/\a<=g/\k+a+1=e.fst/\List.drop s m=e.snd)/\(h.term=x.term->I64 (a+1)/\∃ (i:Nat),(k=k/\m=m/\f=f/\m=m/\(↑d:Int)=(↑d:Int)/\a+1=(↑i:Int))/\(i <= d/\i <= n)/\d - i < d - s))))/\((↑d:Int)<=a->c=e.fst/\e.snd=[])) (↑s:Int)) (f.getD s (ak (Sh.nm NT.entry))))) (List.drop k.toNat l)) 0) (a_ l k m)) m.length) (ez (List.drop k.toNat l) m)) (↑m.length:Int));iterate 3 ((all_goals (repeat' with_reducible first|apply bh|refine bg ?_|intro)); (all_goals try (first | exact br | exact (congrArg Prod.fst (YG ab)).symm | exact (congrArg Prod.fst (Wj ab ab ab aL ab)).symm | exact (congrArg Prod.fst (XC ab ab ab ab ab ab)).symm | exact (congrArg Prod.fst (aag ab ab ab ab)).symm | exact (congrArg Prod.snd (YG ab)).symm | exact (congrArg Prod.snd (Wj ab ab ab aL ab)).symm | exact (congrArg Prod.snd (XC ab ab ab ab ab ab)).symm | exact (congrArg Prod.snd (aag ab ab ab ab)).symm | exact (congrArg Prod.snd (YG ab)) | exact (congrArg Prod.snd (aag ab ab ab ab)) | exact (adM ab ab ab ab))); all_goals try first | refine ⟨‹Nat› + 1,?_⟩ | refine ⟨0,?_⟩)
def ae4:bM:=(aP 167 Bn (aP 94 EF (aP 100 Bo (aP 147 ET (aP 194 vY (aP 149 O_ (aP 143 Gv adE)))))))
def gS:aB Tryz.prog (al tyT) ae4:=(ag Qq (ag Sz (ag NY (ag RR (ag Hv (ag YP (ag UH iV)))))))
variable {r:Route}
def qA {s:Stable} (h:r.next<1\/(s.log.length:Int)+1<r.next):fT s r=(cH,1):=if_pos h
def qv {s:Stable} (a:1<=r.next) (c:r.next<=(s.log.length:Int)+1) (h:¬ mayL (Letter.mk 3 r.frm r.to s.term (r.next - 1) (cf s.log (r.next - 1)) r.commit r.bin false (ek s.log (r.next - 1) 4))=0):fT s r=(cH,mayL (mh s r)):=by
 rw [fT,if_neg aL,if_pos (show ¬ mayL (mh s r)=0 from h)]
def tJ {s:Stable} (a:1<=r.next) (c:r.next<=(s.log.length:Int)+1) (h:mayL (Letter.mk 3 r.frm r.to s.term (r.next - 1) (cf s.log (r.next - 1)) r.commit r.bin false (ek s.log (r.next - 1) 4))=0):fT s r=(mh s r,0):=by
 rw [fT,if_neg aL,if_neg (adJ.2 (show mayL (mh s r)=0 from h))]
def Up (h:(b.length:Int)<2):bj b=([],0,2):=if_pos aL
def Rw (h:2<=(b.length:Int)) (a:ey b=0\/4096<ey b):bj b=([],0,3):=by rw [bj,if_neg aL,if_pos a]
def Tl (h:2<=(b.length:Int)) (c:¬ ey b=0) (d:ey b<=4096) (a:(b.length:Int)<2+ey b+4):bj b=([],0,2):=by rw [bj,if_neg aL,if_neg aL,if_pos a]
variable {x:UInt8}
def ON {l:List UInt8} (h:l[k]? = some x):(Fe (l.take k)*2 ^ 8) % 4294967296 ||| x.toNat=Fe (l.take (k+1)):=by
 rw [ai h]; simp only [Fe,List.foldl_append]; rfl
variable {n:Int}
def ahO (a:0<=n):(b.drop (2+n).toNat).take ((2+n+4).toNat - (2+n).toNat)=(b.drop (2+n).toNat).take 4:=by
 congr 1; omega
def aiJ (a:0<=n) (h:2+n+4<=(b.length:Int)):(((b.drop (2+n).toNat).take ((2+n+4).toNat - (2+n).toNat)).length:Int)=4:=by
 rw [List.length_take,List.length_drop]; omega
def ajo (a:(k:Int)<4) (c:0<=n) (h:2+n+4<=(b.length:Int)):(k:Int)<(((b.drop (2+n).toNat).take 4).length:Nat):=by
 rw [List.length_take,List.length_drop]; omega
def Te (a:decide (dU 1 ((b.drop 0).take ((2+ey b).toNat - 0))=Fe (((b.drop (2+ey b).toNat).take 4).take k))=false) (c:(4:Int)<=k) (h:2<=(b.length:Int)) (d:¬ ey b=0) (e:ey b<=4096) (f:2+ey b+4<=(b.length:Int)):bj b=([],0,3):=by
 have a:=ahN a;rw [ajF,aj1,ajP,ajQ aL] at a;rw [bj,if_neg aL,if_neg aL,if_neg aL,if_neg a]
def Yh (a:decide (dU 1 ((b.drop 0).take ((2+ey b).toNat - 0))=Fe (((b.drop (2+ey b).toNat).take 4).take k))=true) (c:(4:Int)<=k) (h:2<=(b.length:Int)) (d:¬ ey b=0) (e:ey b<=4096) (f:2+ey b+4<=(b.length:Int)):bj b=((b.drop 2).take ((2+ey b).toNat - 2),2+ey b+4,0):=by
 have a:=acR a;rw [ajF,aj1,ajP,ajQ aL] at a;rw [bj,if_neg aL,if_neg aL,if_neg aL,if_pos a]
def aa8 (b:List UInt8):List (Nat × LI):=[(11,{ σ:=Nat,F:=fun k=>([(0,one (.fz .u8 (b))),(6,one (.int (2+ey b))),(7,one (.xx (.w (Fe (((b.drop (2+ey b).toNat).take 4).take k))) [])),(40,one (.fz .u8 ((b.drop (2+ey b).toNat).take 4))),(41,one (.int 4)),(42,one (.int k))],[]),J:=fun k=>k<=4,μ:=fun k=>4 - k })]
def Gh:Kn:=aN (ae (kC (cL .u8)) aq) ax fun (b,_) _=>⟨[],[.c (.fz .u8 (((bj b).1))),.c (.int (((bj b).2.1))),.c (.int (((bj b).2.2)))],none,false⟩
theorem Rj:CK 83 Gh:=ah fun (b,_) _ _=>by
 refine aw gS (aa8 b) Tryz.func83 (?_:(fun i=>(fun o=>(fun y=>(fun J=>(fun K=>(fun w=>(fun p=>(fun g=>(fun t=>(fun a=>(fun z=>(fun u=>(fun v=>(fun A=>(fun c=>(fun B=>(fun C=>(fun f=>(fun h=>(fun D=>(fun d=>(fun e=>(fun F=>b.length*1<=140737488355328->(p<u->A)/\(u<=p->a<=a/\a<p/\i<64/\I64 v/\a<=1/\1<p/\a<=v/\a<=y/\(D=a\/4096<D->z)/\(¬D=a/\D<=4096->I64 d/\I64 e/\(p<e->A)/\(e<=p->I64 e/\a<=d/\d<=e/\e<=p/\∃ I,(b=b/\d=c/\o=Fe (List.take I h)/\F=List.take g f/\(↑F.length:Int)=t/\a=(↑I:Int))/\I<=g/\∀ (s:Nat),s<=g->((↑s:Int)<t->a<=(↑s:Int)/\(↑s:Int)<(↑(List.take g f).length:Int)/\∀ (x:UInt8),(List.take g f)[s]? = some x->i<32/\I64 ((↑s:Int)+1)/\∃ G,(b=b/\c=c/\Fe (List.take s h)*2 ^ i % 4294967296 ||| x.toNat=Fe (List.take G h)/\List.take g f=List.take g f/\t=t/\(↑s:Int)+1=(↑G:Int))/\G <= g/\g - G < g - s)/\(t<=(↑s:Int)->a<=a/\a<=c/\c<=c/\c<=p/\(decide (C=Fe (List.take s h))=false->z)/\(decide (C=Fe (List.take s h))=true->a<=u/\u<=c/\c<=c/\c<=p/\(B.length*1<=140737488355328->I64 (c+t)/\B=(bj b).fst/\c+t=w.fst/\a=w.snd))))))) (List.take (e.toNat - d.toNat) (List.drop d.toNat b))) (d+t)) (u+D)) (Wc v y)) (List.take g f)) (List.drop c.toNat b)) (dU 1 (List.take (c.toNat - o) (List.drop o b)))) (List.take (c.toNat - 2) (List.drop 2 b))) (u+ey b)) (J/\a=w.fst/\u=w.snd)) (K*u ^ i)) (2:Int)) (J/\a=w.fst/\3=w.snd)) (0:Int)) (4:Int)) (4:Nat)) (↑b.length:Int)) (bj b).snd) (↑(UInt8.toNat (b.getD o (ak Sh.u8))):Int)) ((bj b).fst=[])) (↑(UInt8.toNat (b.getD 1 (ak Sh.u8))):Int)) (0:Nat)) (8:Nat));have H:=Rl b;have L:=(b.getD 0 (ak .u8):UInt8).toNat_lt;have N:=(b.getD 1 (ak .u8):UInt8).toNat_lt;dsimp only [ey] at H;iterate 3 ((all_goals (repeat' with_reducible first|apply bh|refine bg ?_|intro)); (all_goals try (first | exact br | exact (congrArg Prod.fst (Up ab)).symm | exact (congrArg (fun q=>q.2.1) (Up ab)).symm | exact (congrArg (fun q=>q.2.2) (Up ab)).symm | exact (congrArg Prod.fst (Rw ab ab)).symm | exact (congrArg (fun q=>q.2.1) (Rw ab ab)).symm | exact (congrArg (fun q=>q.2.2) (Rw ab ab)).symm | exact (congrArg Prod.fst (Tl ab ab ab ab)).symm | exact (congrArg (fun q=>q.2.1) (Tl ab ab ab ab)).symm | exact (congrArg (fun q=>q.2.2) (Tl ab ab ab ab)).symm | exact (congrArg Prod.fst (Te ab ab ab ab ab ab)).symm | exact (congrArg (fun q=>q.2.1) (Te ab ab ab ab ab ab)).symm | exact (congrArg (fun q=>q.2.2) (Te ab ab ab ab ab ab)).symm | exact (congrArg Prod.fst (Yh ab ab ab ab ab ab)).symm | exact (congrArg (fun q=>q.2.1) (Yh ab ab ab ab ab ab)).symm | exact (congrArg (fun q=>q.2.2) (Yh ab ab ab ab ab ab)).symm | exact (congrArg Prod.fst (Up ab)) | exact (congrArg Prod.fst (Rw ab ab)) | exact (congrArg Prod.fst (Tl ab ab ab ab)) | exact (congrArg Prod.fst (Te ab ab ab ab ab ab)) | exact rfl | exact (ahO H) | exact (aiJ H ab) | exact (ajo ab H ab) | exact (ON ab) | (dsimp only [ey]; omega) | (refine bZ ?_ ?_ <;> dsimp only [ey] <;> omega) | (rw [List.length_take,List.length_drop]; omega))); all_goals try first | refine ⟨‹Nat› + 1,?_⟩ | refine ⟨0,?_⟩)
def vU:Kn:=aN (ae (kC (aY 0 0)) (ae (kT (.nm .record)) aq)) (aE (dF 64 (aA cI (aA cI (aA cI (aA (fb 1) dy))))) (aE (e_ 52 (.nm .entry)) ax)) fun (_,r,_) ((a,d,e,_,_),f,_)=>⟨[],[.c (.bool (.atom (((dM (Stable.mk a d e f) r).isSome))))],some ([.box 64 ([.int ((((dM (Stable.mk a d e f) r).getD (Stable.mk a d e f)).floor)),.int ((((dM (Stable.mk a d e f) r).getD (Stable.mk a d e f)).term)),.int ((((dM (Stable.mk a d e f) r).getD (Stable.mk a d e f)).vote)),.own 1]),.row 52 (.nm .entry) ((((dM (Stable.mk a d e f) r).getD (Stable.mk a d e f)).log))]),false⟩
theorem HK:CK 214 vU:=ah fun (_,r,_) ((d,e,f,_,_),g,_) _=>by
 refine bt gS [] Tryz.func214 (?_:(fun c=>dW r ((r.a<d->false=(dM c r).isSome/\dV c ((dM c r).getD c))/\(d<=r.a->true=(dM c r).isSome/\dV (Stable.mk r.a e f g) ((dM c r).getD c)))) (Stable.mk d e f g));(repeat' with_reducible first|apply bh|refine bg ?_|intro)
 all_goals first | exact br | (simp only [dM]; grind) | (simp only [List.length_cons,List.length_nil]; omega)
def AS:Kn:=aN (ae (kC (aY 0 0)) (ae (kT (.nm .record)) aq)) (aE (dF 64 (aA cI (aA cI (aA cI (aA (fb 1) dy))))) (aE (e_ 52 (.nm .entry)) ax)) fun (_,r,_) ((a,d,e,_,_),f,_)=>⟨[],[.c (.bool (.atom (((fx (Stable.mk a d e f) r).isSome))))],some ([.box 64 ([.int ((((fx (Stable.mk a d e f) r).getD (Stable.mk a d e f)).floor)),.int ((((fx (Stable.mk a d e f) r).getD (Stable.mk a d e f)).term)),.int ((((fx (Stable.mk a d e f) r).getD (Stable.mk a d e f)).vote)),.own 1]),.row 52 (.nm .entry) ((((fx (Stable.mk a d e f) r).getD (Stable.mk a d e f)).log))]),false⟩
theorem Pt:CK 215 AS:=ah fun (_,r,_) ((f,d,e,_,_),g,_) _=>by
 refine bt gS [] Tryz.func215 (?_:(fun c=>dW r ((r.a<d\/(r.a=d/\¬e=0)/\¬e=r.b->false=(fx c r).isSome/\dV c ((fx c r).getD c))/\(d<=r.a/\((¬r.a=d\/e=0)\/e=r.b)->true=(fx c r).isSome/\dV (Stable.mk f r.a r.b g) ((fx c r).getD c)))) (Stable.mk f d e g));(repeat' with_reducible first|apply bh|refine bg ?_|intro)
 all_goals first | exact br | (simp only [fx]; grind) | (simp only [List.length_cons,List.length_nil]; omega)
def Hs:Kn:=aN (ae (kC (aY 0 0)) (ae (kT (.nm .record)) aq)) (aE (dF 64 (aA cI (aA cI (aA cI (aA (fb 1) dy))))) (aE (e_ 52 (.nm .entry)) ax)) fun (_,r,_) ((d,e,f,_,_),g,_)=>⟨[1<=r.a/\r.a<=64],[.c (.bool (.atom (((fO (Stable.mk d e f g) r).isSome))))],some ([.box 64 ([.int ((((fO (Stable.mk d e f g) r).getD (Stable.mk d e f g)).floor)),.int ((((fO (Stable.mk d e f g) r).getD (Stable.mk d e f g)).term)),.int ((((fO (Stable.mk d e f g) r).getD (Stable.mk d e f g)).vote)),.own 1]),.row 52 (.nm .entry) ((((fO (Stable.mk d e f g) r).getD (Stable.mk d e f g)).log))]),false⟩
theorem RI:CK 217 Hs:=ah fun (_,r,_) ((f,g,h,_,_),d,_) i=>by
 have o:=cd i;refine bt (yg gS) [] Tryz.func217 (?_:(fun e=>(fun c=>dW r (((↑d.length:Int)<r.a->false=(fO c r).isSome/\dV c ((fO c r).getD c))/\(r.a<=(↑d.length:Int)->I64 e/\(0<=e/\e<=(↑d.length:Int))/\true=(fO c r).isSome/\dV (Stable.mk f g h (List.take e.toNat d)) ((fO c r).getD c)))) (Stable.mk f g h d)) (r.a - 1));(repeat' with_reducible first|apply bh|refine bg ?_|intro)
 all_goals first | exact br | (simp only [fO]; grind) | (simp only [List.length_cons,List.length_nil]; omega)
def wh:Kn:=aN (ae (kC (aY 0 0)) (ae (kT (.nm .record)) aq)) (aE (dF 64 (aA cI (aA cI (aA cI (aA (fb 1) dy))))) (aE (e_ 52 (.nm .entry)) ax)) fun (_,r,_) ((d,e,f,_,_),a,_)=>⟨[a.length<=1000000,r.x.length<=200],[.c (.bool (.atom (((dz (Stable.mk d e f a) r).isSome))))],some ([.box 64 ([.int ((((dz (Stable.mk d e f a) r).getD (Stable.mk d e f a)).floor)),.int ((((dz (Stable.mk d e f a) r).getD (Stable.mk d e f a)).term)),.int ((((dz (Stable.mk d e f a) r).getD (Stable.mk d e f a)).vote)),.own 1]),.row 52 (.nm .entry) ((((dz (Stable.mk d e f a) r).getD (Stable.mk d e f a)).log))]),false⟩
theorem JJ:CK 216 wh:=ah fun (_,r,_) ((f,g,h,_,_),d,_) i=>by
 have p:=cd i;have q:=cd (eY i);refine bt gS [] Tryz.func216 (?_:(fun o=>(fun e=>(fun c=>dW r (I64 e/\(¬r.a=e->false=(dz c r).isSome/\dV c ((dz c r).getD c))/\(r.a=e->(o->(d.length+[Entry.mk r.b r.x].length)*32<=140737488355328)/\(o->true=(dz c r).isSome/\dV (Stable.mk f g h (d++[Entry.mk r.b r.x])) ((dz c r).getD c))))) (Stable.mk f g h d)) ((↑d.length:Int)+1)) (r.x.length*1<=140737488355328));(repeat' with_reducible first|apply bh|refine bg ?_|intro)
 all_goals first | exact br | (simp only [dz]; grind) | (simp only [List.length_cons,List.length_nil]; omega)
def Uc :Sat Tryz.prog (al tyT) 148 [] [] ⟨[],[.c (.xx (.km bO) [])],none,false⟩:=Jp
def GG:Kn:=aN aq ax fun _ _=>⟨[],[.c (.xx (.km bO) [])],none,false⟩
def Sb:CK 148 GG:=ah fun _ _ _=>Uc
def Fm:Kn:=aN (ae (kC (aY 0 0)) (ae (kC (aY 1 0)) (ae (kC (aY 2 0)) aq))) (aE (yv 40 (.nm .letter)) (aE (yv 64 (.nm .stable)) (aE (dF 3 (aA cI dy)) ax))) fun _ (x,s,(a,_),_)=>⟨[],[.c (.bool (.atom ((decide (s.term<x.term) || decide (s.vote=0) || decide (s.vote=a)))))],none,false⟩
def Us:CK 169 Fm:=ah fun _ (x,s,(a,_),_) _=>by
 refine aw gS [] Tryz.func169 (?_:(fun c=>c=c) (decide (s.term<x.term) || decide (s.vote=0) || decide (s.vote=a)));(repeat' with_reducible first|apply bh|refine bg ?_|intro)
 all_goals first | exact br | rfl
def Cd:Kn:=aN (ae (kT (.nm .stable)) (ae (kC cI) aq)) ax fun (s,t,_) _=>⟨[s.term<=1048576],[.c (.fz (.nm .record) (((aU s t).1))),.c (.int (((aU s t).2)))],none,false⟩
theorem OQ:CK 48 Cd:=ah fun (s,t,_) _ a=>by
 have c:=cd a;refine aw gS [] Tryz.func48 (?_:ck s (I64 t->(t<0\/5<=t->(aU s t).fst=[]/\1=(aU s t).snd)/\(0<=t/\t<5->(1048576<=s.term->(aU s t).fst=[]/\4=(aU s t).snd)/\(s.term<1048576->I64 (s.term+1)/\I64 (t+1)/\[Record.mk 2 (s.term+1) (t+1) []]=(aU s t).fst/\0=(aU s t).snd))));(repeat' with_reducible first|apply bh|refine bg ?_|intro)
 all_goals first | exact br | (simp only [aU]; grind) | (have q:=(by with_reducible assumption:I64 s.term); exact bZ (by have:=q.1; omega) (by have:=q.2; omega)) | (simp only [List.length_cons,List.length_nil]; omega)
def Hr:Kn:=aN (ae (kT (.nm .stable)) (ae (kT (.nm .route)) aq)) ax fun (s,r,_) _=>⟨[],[.agg (cellsOf (.nm .letter) ((fT s r).1)),.c (.int (((fT s r).2)))],none,false⟩
def SO:CK 120 Hr:=ah fun (s,r,_) _ _=>by
 refine aw gS [] Tryz.func120 (?_:(fun f=>(fun i=>(fun g=>(fun e=>(fun d=>(fun h=>ck s (RK r ((f<=r.next->I64 i)/\(r.next<f\/i<r.next->e=d.kind/\e=d.frm/\e=d.to/\e=d.term/\e=d.a/\e=d.b/\e=d.c/\e=d.bin/\false=d.ok/\d.l=[]/\f=(fT s r).snd)/\(f<=r.next/\r.next<=i->I64 g/\(I64 (cf s.log g)->(ek s.log g 4).length*32<=140737488355328->I64 (mayL h)->(¬mayL h=e->e=d.kind/\e=d.frm/\e=d.to/\e=d.term/\e=d.a/\e=d.b/\e=d.c/\e=d.bin/\false=d.ok/\d.l=[]/\mayL h=(fT s r).snd)/\(mayL h=e->fM h d (e=(fT s r).snd))))))) (Letter.mk 3 r.frm r.to s.term g (cf s.log g) r.commit r.bin false (ek s.log g 4))) (fT s r).fst) (0:Int)) (r.next - f)) ((↑s.log.length:Int)+f)) (1:Int));(repeat' with_reducible first|apply bh|refine bg ?_|intro)
 all_goals (first | exact br | exact (congrArg (fun q=>q.2) (qA ab)).symm | exact (congrArg (fun q=>q.1.kind) (qA ab)).symm | exact (congrArg (fun q=>q.1.frm) (qA ab)).symm | exact (congrArg (fun q=>q.1.to) (qA ab)).symm | exact (congrArg (fun q=>q.1.term) (qA ab)).symm | exact (congrArg (fun q=>q.1.a) (qA ab)).symm | exact (congrArg (fun q=>q.1.b) (qA ab)).symm | exact (congrArg (fun q=>q.1.c) (qA ab)).symm | exact (congrArg (fun q=>q.1.bin) (qA ab)).symm | exact (congrArg (fun q=>q.1.ok) (qA ab)).symm | exact (congrArg (fun q=>q.1.l) (qA ab)).symm | exact (congrArg (fun q=>q.2) (qv ab ab ab)).symm | exact (congrArg (fun q=>q.1.kind) (qv ab ab ab)).symm | exact (congrArg (fun q=>q.1.frm) (qv ab ab ab)).symm | exact (congrArg (fun q=>q.1.to) (qv ab ab ab)).symm | exact (congrArg (fun q=>q.1.term) (qv ab ab ab)).symm | exact (congrArg (fun q=>q.1.a) (qv ab ab ab)).symm | exact (congrArg (fun q=>q.1.b) (qv ab ab ab)).symm | exact (congrArg (fun q=>q.1.c) (qv ab ab ab)).symm | exact (congrArg (fun q=>q.1.bin) (qv ab ab ab)).symm | exact (congrArg (fun q=>q.1.ok) (qv ab ab ab)).symm | exact (congrArg (fun q=>q.1.l) (qv ab ab ab)).symm | exact (congrArg (fun q=>q.2) (tJ ab ab ab)).symm | exact (congrArg (fun q=>q.1.kind) (tJ ab ab ab)).symm | exact (congrArg (fun q=>q.1.frm) (tJ ab ab ab)).symm | exact (congrArg (fun q=>q.1.to) (tJ ab ab ab)).symm | exact (congrArg (fun q=>q.1.term) (tJ ab ab ab)).symm | exact (congrArg (fun q=>q.1.a) (tJ ab ab ab)).symm | exact (congrArg (fun q=>q.1.b) (tJ ab ab ab)).symm | exact (congrArg (fun q=>q.1.c) (tJ ab ab ab)).symm | exact (congrArg (fun q=>q.1.bin) (tJ ab ab ab)).symm | exact (congrArg (fun q=>q.1.ok) (tJ ab ab ab)).symm | exact (congrArg (fun q=>q.1.l) (tJ ab ab ab)).symm | exact (congrArg (fun q=>q.1.l) (qA ab)) | exact (congrArg (fun q=>q.1.l) (qv ab ab ab)))
def acX:bM:=(aP 120 Hr (aP 48 Cd (aP 169 Fm (aP 148 GG (aP 216 wh (aP 217 Hs (aP 215 AS (aP 214 vU (aP 83 Gh ae4)))))))))
def nU:aB Tryz.prog (al tyT) acX:=(ag SO (ag OQ (ag Us (ag Sb (ag JJ (ag RI (ag Pt (ag HK (ag Rj gS)))))))))
variable {r:Record}
theorem Sm (h:((((((dQ bO r.kind).isSome=false\/r.a<(((dQ bO r.kind).getD kz).getD 0 KC.nf).int)\/(((dQ bO r.kind).getD kz).getD 1 KC.nf).int<r.a)\/r.b<0)\/(((dQ bO r.kind).getD kz).getD 3 KC.nf).int<r.b)\/(((dQ bO r.kind).getD kz).getD 4 KC.nf).int<(r.x.length:Int))):aO r=([],1):=by
 rw [aO,if_neg];intro e;simp only [recOk,Bool.and_eq_true] at e;obtain ⟨⟨⟨⟨⟨i,c⟩,d⟩,o⟩,f⟩,g⟩:=e;unfold WA at c d f g;grind
def Ah (c:(dQ bO r.kind).isSome=true) (d:(((dQ bO r.kind).getD kz).getD 0 KC.nf).int<=r.a) (e:r.a<=(((dQ bO r.kind).getD kz).getD 1 KC.nf).int) (f:0<=r.b) (g:r.b<=(((dQ bO r.kind).getD kz).getD 3 KC.nf).int) (h:(r.x.length:Int)<=(((dQ bO r.kind).getD kz).getD 4 KC.nf).int):recOk r=true:=by
 simp only [recOk,Bool.and_eq_true,decide_eq_true_eq];exact ⟨⟨⟨⟨⟨c,d⟩,e⟩,f⟩,g⟩,h⟩
def jj (h:recOk r=true):1<=r.kind/\r.kind<=4/\0<=r.a/\r.a<=1048576/\0<=r.b/\r.b<=1048576/\r.x.length<=200/\(cY r.a.toNat).length<=10/\(cY r.b.toNat).length<=10:=by
 have c:=cV (n:=r.a.toNat) (by rcases bI.1 h with h | h | h | h <;> omega);have d:=cV (n:=r.b.toNat) (by rcases bI.1 h with h | h | h | h <;> omega);have e:r.x.length<=200:=by rcases bI.1 h with h | h | h | h <;> first | omega | simp [h]
 rcases bI.1 h with h | h | h | h <;> omega
def CM (h:recOk r=true):aO r=(dD r,0):=by rw [aO,if_pos h]
def ahJ (h:recOk r=true) (c:(((dQ bO r.kind).getD kz).getD 2 KC.nf).bool=true):[UInt8.ofNat r.kind.toNat]++cY r.a.toNat++cY r.b.toNat++r.x=(aO r).1:=by
 rw [CM h,dD,if_pos (show uG r.kind=true from c)]
def agJ (h:recOk r=true) (c:(((dQ bO r.kind).getD kz).getD 2 KC.nf).bool=false):[UInt8.ofNat r.kind.toNat]++cY r.a.toNat++r.x=(aO r).1:=by
 rw [CM h,dD,if_neg (by rw [show uG r.kind=false from c]; decide),afy]
def aeb (b:List UInt8):(((aj b).2.1:Nat):Int)<=(b.length:Nat):=by
 have:=(oo (l:=b) (k:=0) (n:=0) aL).2;show (((bT 0 0 b).2.1:Nat):Int)<=_;omega
def abI (a:b[0]? = some x):(b.getD 0 (ak .u8):UInt8)=x:=by
 rw [List.getD_eq_getElem?_getD,a]; rfl
def Ui (a:b[0]? = some x):¬ b.length=0:=by
 have:=(abp.1 a).1; omega
def uB (h:(b.length:Int)=0):bG b=(uE,false):=if_pos aL
def uy (a:b[0]? = some x) (c:¬ (aj (b.drop 1)).2.2=0):bG b=(uE,false):=by
 rw [bG,if_neg (Ui a),if_pos c]
def uD (a:b[0]? = some x) (c:(aj (b.drop 1)).2.2=0) (d:(((dQ bO (x.toNat:Int)).getD kz).getD 2 KC.nf).bool=true) (e:¬ (aj ((b.drop 1).drop (aj (b.drop 1)).2.1)).2.2=0):bG b=(uE,false):=by
 rw [bG,if_neg (Ui a),if_neg (adJ.2 c),abI a,if_pos (show uG (x.toNat:Int)=true from d),if_pos e]
def ur (a:b[0]? = some x) (c:(aj (b.drop 1)).2.2=0) (d:(((dQ bO (x.toNat:Int)).getD kz).getD 2 KC.nf).bool=true) (e:(aj ((b.drop 1).drop (aj (b.drop 1)).2.1)).2.2=0):bG b=(⟨(x.toNat:Int),fa (aj (b.drop 1)).1,fa (aj ((b.drop 1).drop (aj (b.drop 1)).2.1)).1,((b.drop 1).drop (aj (b.drop 1)).2.1).drop (aj ((b.drop 1).drop (aj (b.drop 1)).2.1)).2.1⟩,true):=by
 rw [bG,if_neg (Ui a),if_neg (adJ.2 c),abI a,if_pos (show uG (x.toNat:Int)=true from d),if_neg (adJ.2 e)]
def ux (a:b[0]? = some x) (c:(aj (b.drop 1)).2.2=0) (d:(((dQ bO (x.toNat:Int)).getD kz).getD 2 KC.nf).bool=false):bG b=(⟨(x.toNat:Int),fa (aj (b.drop 1)).1,0,(b.drop 1).drop (aj (b.drop 1)).2.1⟩,true):=by
 rw [bG,if_neg (Ui a),if_neg (adJ.2 c),abI a,if_neg (by rw [show uG (x.toNat:Int)=false from d]; decide)]
variable {x:Letter}
def Jt {s:Stable} (h:¬ mayL x=0\/¬ x.kind=1):aC s x=([],false,1):=if_pos h
def Jc {s:Stable} (c:mayL x=0) (d:x.kind=1) (h:(x.term<s.term\/(decide (s.term<x.term) || decide (s.vote=0) || decide (s.vote=x.frm+1))=false)\/jf s.log x.a x.b=false):aC s x=(az s x.term,false,0):=by
 rw [aC,if_neg aL]; exact if_pos h
theorem ad4 {s:Stable} (d:mayL x=0) (e:x.kind=1) (f:s.term<=x.term) (c:(decide (s.term<x.term) || decide (s.vote=0) || decide (s.vote=x.frm+1))=true) (g:jf s.log x.a x.b=true):aC s x=if x.term=s.term/\s.vote=x.frm+1 then ([],true,0) else ([⟨2,x.term,x.frm+1,[]⟩],true,0):=by
 rw [aC,if_neg aL,if_neg];rintro ((h | h) | h)
 ·omega
 ·rw [show tw s x=true from c] at h; cases h
 grind
def IM {s:Stable} (c:mayL x=0) (d:x.kind=1) (e:s.term<=x.term) (f:(decide (s.term<x.term) || decide (s.vote=0) || decide (s.vote=x.frm+1))=true) (g:jf s.log x.a x.b=true) (h:x.term=s.term) (i:s.vote=x.frm+1):aC s x=([],true,0):=by
 rw [ad4 c d e f g,if_pos ⟨h,i⟩]
def Ih {s:Stable} (c:mayL x=0) (d:x.kind=1) (e:s.term<=x.term) (f:(decide (s.term<x.term) || decide (s.vote=0) || decide (s.vote=x.frm+1))=true) (g:jf s.log x.a x.b=true) (h:¬ x.term=s.term\/¬ s.vote=x.frm+1):aC s x=([⟨2,x.term,x.frm+1,[]⟩],true,0):=by
 rw [ad4 c d e f g,if_neg aL]
def ej (s:Stable) (x:Letter) (k:Nat):List Record:=az s x.term++(if (a_ s.log x.a x.l).1=0 then [] else [⟨4,(a_ s.log x.a x.l).1,0,[]⟩])++eW (x.a+x.l.length - (a_ s.log x.a x.l).2.length+1) ((a_ s.log x.a x.l).2.take k)
theorem td:∀ {n:Int} {l:List Entry} {y:Entry},eW n (l++[y])=eW n l++[⟨3,n+l.length,y.term,y.b⟩]
 | n,[],y=>by simp [eW]
 | n,z :: l,y=>by
  rw [List.cons_append,eW,td,eW,List.cons_append,List.length_cons];simp; omega
theorem wB:∀ {n:Int} {l:List Entry},(eW n l).length=l.length
 | _,[]=>rfl
 | n,_ :: l=>by rw [eW,List.length_cons,List.length_cons,wB]
def aiz {s:Stable} (h:¬ (a_ s.log x.a x.l).1=0):az s x.term++[Record.mk 4 (a_ s.log x.a x.l).1 0 []]=ej s x 0:=by
 rw [ej,if_neg h,ajZ,eW,afy]
def aiN {s:Stable} (h:(a_ s.log x.a x.l).1=0):az s x.term=ej s x 0:=by
 rw [ej,if_pos h,ajZ,eW,afy,afy]
def aiq {s:Stable} {y:Entry} (h:(a_ s.log x.a x.l).2[k]? = some y):ej s x k++[Record.mk 3 (x.a+x.l.length - (a_ s.log x.a x.l).2.length+k+1) y.term y.b]=ej s x (k+1):=by
 have c:=(abp.1 h).1;rw [ej,ej,ai h,td,List.append_assoc,List.length_take,afJ aL];congr 4; omega
def Bq {s:Stable} (h:(¬ mayL x=0\/¬ x.kind=3)\/64<x.a+x.l.length):ay s x=([],false,0,1):=if_pos h
def Be {s:Stable} (d:mayL x=0) (e:x.kind=3) (f:x.a+x.l.length<=64) (c:x.term<s.term):ay s x=([],false,0,0):=by
 rw [ay,if_neg aL,if_pos c]
def yO {s:Stable} (d:mayL x=0) (e:x.kind=3) (f:x.a+x.l.length<=64) (g:s.term<=x.term) (c:decide (cf s.log x.a=x.b)=false):ay s x=(az s x.term,false,0,0):=by
 rw [ay,if_neg aL,if_neg aL,if_neg (ahN c)]
def zl {s:Stable} (d:mayL x=0) (e:x.kind=3) (f:x.a+x.l.length<=64) (g:s.term<=x.term) (c:decide (cf s.log x.a=x.b)=true) (h:((a_ s.log x.a x.l).2.length:Int)<=k):ay s x=(ej s x k,true,x.a+x.l.length,0):=by
 rw [ay,if_neg aL,if_neg aL,if_pos (acR c),ej,List.take_of_length_le aL]; rfl
theorem wH {k:Int}:(a_ l k m).2.length<=m.length/\0<=(a_ l k m).1/\(a_ l k m).1<=l.length+1:=by
 unfold a_;grind
theorem aas {s:Stable}:(ej s x k).length<=2+x.l.length:=by
 have:=(wH (l:=s.log) (m:=x.l) (k:=x.a)).1;simp only [ej,List.length_append,wB];have c:(az s x.term).length<=1:=by unfold az; split <;> simp
 grind
theorem aeD {s:Stable} (h:mayL x=0):((ej s x k).length+[r].length)*48<=140737488355328:=by
 have:=eu h;have:=aas (s:=s) (x:=x) (k:=k);grind
theorem adF {s:Stable}:((az s n).length+[r].length)*48<=140737488355328:=by
 have a:(az s n).length<=1:=by unfold az; split <;> simp
 grind
def Yl (s:Stable) (x:Letter):List (Nat × LI):=[(13,{ σ:=Nat,F:=fun k=>([(4,one (.own 0)),(6,one (.int (x.a+x.l.length))),(9,one (.fz (.nm .entry) (a_ s.log x.a x.l).2)),(70,one (.fz (.nm .entry) (a_ s.log x.a x.l).2)),(71,one (.int (a_ s.log x.a x.l).2.length)),(72,one (.int k))],[.row 108 (.nm .record) ((ej s x k))]),J:=fun k=>k<=(a_ s.log x.a x.l).2.length,μ:=fun k=>(a_ s.log x.a x.l).2.length - k })]
def Ew:Kn:=aN (ae (kT (.nm .record)) aq) ax fun (r,_) _=>⟨[],[.c (.fz .u8 (((aO r).1))),.c (.int (((aO r).2)))],none,false⟩
def Hp:CK 145 Ew:=ah fun (r,_) _ _=>by
 refine aw nU [] Tryz.func145 (?_:(fun e=>(fun c=>(fun f=>(fun d=>dW r (((((((dQ bO r.kind).isSome=false\/r.a<(d.getD 0 KC.nf).int)\/(d.getD e KC.nf).int<r.a)\/r.b<c)\/(d.getD 3 KC.nf).int<r.b)\/(d.getD 4 KC.nf).int<(↑r.x.length:Int)->(aO r).fst=[]/\1=(aO r).snd)/\((((((dQ bO r.kind).isSome=true/\(d.getD 0 KC.nf).int<=r.a)/\r.a<=(d.getD e KC.nf).int)/\c<=r.b)/\r.b<=(d.getD 3 KC.nf).int)/\(↑r.x.length:Int)<=(d.getD 4 KC.nf).int->c<=r.kind/\c<=r.a/\([UInt8.ofNat r.kind.toNat].length+(cY r.a.toNat).length)*e<=140737488355328/\((d.getD 2 KC.nf).bool=true->c<=r.b/\(f.length+(cY r.b.toNat).length)*e<=140737488355328/\((f++cY r.b.toNat).length+r.x.length)*e<=140737488355328/\f++cY r.b.toNat++r.x=(aO r).fst/\c=(aO r).snd)/\((d.getD 2 KC.nf).bool=false->(f.length+r.x.length)*e<=140737488355328/\f++r.x=(aO r).fst/\c=(aO r).snd)))) ((dQ bO r.kind).getD [KC.i c,KC.i c,KC.b false,KC.i c,KC.i c,KC.nf])) ([UInt8.ofNat r.kind.toNat]++cY r.a.toNat)) (0:Int)) (1:Nat));(repeat' with_reducible first|apply bh|refine bg ?_|intro)
 all_goals (first | exact br | exact (congrArg (fun q=>q.1) (Sm ab)) | exact (congrArg (fun q=>q.1) (Sm ab)).symm | exact (congrArg (fun q=>q.2) (Sm ab)) | exact (congrArg (fun q=>q.2) (Sm ab)).symm | exact (congrArg (fun q=>q.1) (CM (Ah ab ab ab ab ab ab))) | exact (congrArg (fun q=>q.1) (CM (Ah ab ab ab ab ab ab))).symm | exact (congrArg (fun q=>q.2) (CM (Ah ab ab ab ab ab ab))) | exact (congrArg (fun q=>q.2) (CM (Ah ab ab ab ab ab ab))).symm | exact (ahJ (Ah ab ab ab ab ab ab) ab) | exact (agJ (Ah ab ab ab ab ab ab) ab) | (have g:=jj (Ah ab ab ab ab ab ab); omega) | (have g:=jj (Ah ab ab ab ab ab ab); simp only [List.length_append,List.length_cons,List.length_nil]; omega))
def TN (r:Record):Sat Tryz.prog (al tyT) 145 [.agg (cellsOf (.nm .record) r)] [] ⟨[],[.c (.fz .u8 (((aO r).1))),.c (.int (((aO r).2)))],none,false⟩:=Hp _ _ _ rfl aa
def wE:Kn:=aN (ae (kC (cL .u8)) aq) ax fun (b,_) _=>⟨[],[.agg (cellsOf (.nm .record) ((bG b).1)),.c (.bool (.atom (((bG b).2))))],none,false⟩
def HD:CK 144 wE:=ah fun (b,_) _ _=>by
 refine aw nU [] Tryz.func144 (?_:(fun o=>(fun g=>(fun h=>(fun c=>(fun t=>(fun d=>(fun p=>(fun e=>(fun f=>b.length*g<=140737488355328->(o=c->p)/\(¬o=c->c<=c/\c<o/\∀ (x:UInt8),(fun s=>b[(0:Nat)]? = some x->c<=1/\1<=o/\(d.fst<18446744073709551616->I64 (↑d.snd.fst:Int)->I64 d.snd.snd->(¬d.snd.snd=c->p)/\(d.snd.snd=c->(c<=(↑d.snd.fst:Int)/\(↑d.snd.fst:Int)<=(↑(List.drop g b).length:Int))/\(s=true->(aj e).fst<18446744073709551616->I64 (↑f.fst:Int)->I64 f.snd->(¬f.snd=c->p)/\(f.snd=c->(c<=(↑f.fst:Int)/\(↑f.fst:Int)<=(↑e.length:Int))/\((List.drop f.fst e).length*g<=140737488355328->th (Record.mk (↑x.toNat:Int) (fa d.fst) (fa (aj e).fst) (List.drop f.fst e)) h (true=(bG b).snd))))/\(s=false->e.length*g<=140737488355328->th (Record.mk (↑x.toNat:Int) (fa d.fst) c e) h (true=(bG b).snd))))) (((dQ bO (↑x.toNat:Int)).getD t).getD 2 KC.nf).bool)) (aj e).snd) (List.drop d.snd.fst (List.drop g b))) (c=h.kind/\c=h.a/\c=h.b/\h.x=[]/\false=(bG b).snd)) (aj (List.drop g b))) [KC.i c,KC.i c,KC.b false,KC.i c,KC.i c,KC.nf]) (0:Int)) (bG b).fst) (1:Nat)) (↑b.length:Int));(repeat' with_reducible first|apply bh|refine bg ?_|intro)
 all_goals (first | exact br | exact (congrArg (fun q=>q.2) (uB ab)) | exact (congrArg (fun q=>q.2) (uB ab)).symm | exact (congrArg (fun q=>q.1.kind) (uB ab)) | exact (congrArg (fun q=>q.1.kind) (uB ab)).symm | exact (congrArg (fun q=>q.1.a) (uB ab)) | exact (congrArg (fun q=>q.1.a) (uB ab)).symm | exact (congrArg (fun q=>q.1.b) (uB ab)) | exact (congrArg (fun q=>q.1.b) (uB ab)).symm | exact (congrArg (fun q=>q.1.x) (uB ab)) | exact (congrArg (fun q=>q.1.x) (uB ab)).symm | exact (congrArg (fun q=>q.2) (uy ab ab)) | exact (congrArg (fun q=>q.2) (uy ab ab)).symm | exact (congrArg (fun q=>q.1.kind) (uy ab ab)) | exact (congrArg (fun q=>q.1.kind) (uy ab ab)).symm | exact (congrArg (fun q=>q.1.a) (uy ab ab)) | exact (congrArg (fun q=>q.1.a) (uy ab ab)).symm | exact (congrArg (fun q=>q.1.b) (uy ab ab)) | exact (congrArg (fun q=>q.1.b) (uy ab ab)).symm | exact (congrArg (fun q=>q.1.x) (uy ab ab)) | exact (congrArg (fun q=>q.1.x) (uy ab ab)).symm | exact (congrArg (fun q=>q.2) (uD ab ab ab ab)) | exact (congrArg (fun q=>q.2) (uD ab ab ab ab)).symm | exact (congrArg (fun q=>q.1.kind) (uD ab ab ab ab)) | exact (congrArg (fun q=>q.1.kind) (uD ab ab ab ab)).symm | exact (congrArg (fun q=>q.1.a) (uD ab ab ab ab)) | exact (congrArg (fun q=>q.1.a) (uD ab ab ab ab)).symm | exact (congrArg (fun q=>q.1.b) (uD ab ab ab ab)) | exact (congrArg (fun q=>q.1.b) (uD ab ab ab ab)).symm | exact (congrArg (fun q=>q.1.x) (uD ab ab ab ab)) | exact (congrArg (fun q=>q.1.x) (uD ab ab ab ab)).symm | exact (congrArg (fun q=>q.2) (ur ab ab ab ab)) | exact (congrArg (fun q=>q.2) (ur ab ab ab ab)).symm | exact (congrArg (fun q=>q.1.kind) (ur ab ab ab ab)) | exact (congrArg (fun q=>q.1.kind) (ur ab ab ab ab)).symm | exact (congrArg (fun q=>q.1.a) (ur ab ab ab ab)) | exact (congrArg (fun q=>q.1.a) (ur ab ab ab ab)).symm | exact (congrArg (fun q=>q.1.b) (ur ab ab ab ab)) | exact (congrArg (fun q=>q.1.b) (ur ab ab ab ab)).symm | exact (congrArg (fun q=>q.1.x) (ur ab ab ab ab)) | exact (congrArg (fun q=>q.1.x) (ur ab ab ab ab)).symm | exact (congrArg (fun q=>q.2) (ux ab ab ab)) | exact (congrArg (fun q=>q.2) (ux ab ab ab)).symm | exact (congrArg (fun q=>q.1.kind) (ux ab ab ab)) | exact (congrArg (fun q=>q.1.kind) (ux ab ab ab)).symm | exact (congrArg (fun q=>q.1.a) (ux ab ab ab)) | exact (congrArg (fun q=>q.1.a) (ux ab ab ab)).symm | exact (congrArg (fun q=>q.1.b) (ux ab ab ab)) | exact (congrArg (fun q=>q.1.b) (ux ab ab ab)).symm | exact (congrArg (fun q=>q.1.x) (ux ab ab ab)) | exact (congrArg (fun q=>q.1.x) (ux ab ab ab)).symm | exact (aeb _))
def vQ:Kn:=aN (ae (kT (.nm .stable)) (ae (kT (.nm .letter)) aq)) ax fun (s,x,_) _=>⟨[],[.c (.fz (.nm .record) (((aC s x).1))),.c (.bool (.atom (((aC s x).2.1)))),.c (.int (((aC s x).2.2)))],none,false⟩
def HO:CK 98 vQ:=ah fun (s,x,_) _ _=>by
 refine aw nU [] Tryz.func98 (?_:(fun f=>(fun d=>(fun e=>(fun c=>(fun g=>(fun h=>ck s (aK x (I64 (mayL x)->(¬mayL x=d\/¬x.kind=1->f=[]/\false=c.fst/\1=c.snd)/\(mayL x=d/\x.kind=1->I64 e/\((x.term<s.term\/h=false)\/jf s.log x.a x.b=false->az s x.term=f/\false=c.fst/\d=c.snd)/\((s.term<=x.term/\h=true)/\jf s.log x.a x.b=true->(x.term=s.term/\s.vote=e->f=[]/\g)/\(¬x.term=s.term\/¬s.vote=e->[Record.mk 2 x.term e []]=f/\g)))))) (decide (s.term<x.term) || decide (s.vote=d) || decide (s.vote=e))) (true=c.fst/\d=c.snd)) (aC s x).snd) (x.frm+1)) (0:Int)) (aC s x).fst);(repeat' with_reducible first|apply bh|refine bg ?_|intro)
 all_goals (first | exact br | exact (congrArg (fun q=>q.1) (Jt ab)) | exact (congrArg (fun q=>q.1) (Jt ab)).symm | exact (congrArg (fun q=>q.2.1) (Jt ab)) | exact (congrArg (fun q=>q.2.1) (Jt ab)).symm | exact (congrArg (fun q=>q.2.2) (Jt ab)) | exact (congrArg (fun q=>q.2.2) (Jt ab)).symm | exact (congrArg (fun q=>q.1) (Jc ab ab ab)) | exact (congrArg (fun q=>q.1) (Jc ab ab ab)).symm | exact (congrArg (fun q=>q.2.1) (Jc ab ab ab)) | exact (congrArg (fun q=>q.2.1) (Jc ab ab ab)).symm | exact (congrArg (fun q=>q.2.2) (Jc ab ab ab)) | exact (congrArg (fun q=>q.2.2) (Jc ab ab ab)).symm | exact (congrArg (fun q=>q.1) (IM ab ab ab ab ab ab ab)) | exact (congrArg (fun q=>q.1) (IM ab ab ab ab ab ab ab)).symm | exact (congrArg (fun q=>q.2.1) (IM ab ab ab ab ab ab ab)) | exact (congrArg (fun q=>q.2.1) (IM ab ab ab ab ab ab ab)).symm | exact (congrArg (fun q=>q.2.2) (IM ab ab ab ab ab ab ab)) | exact (congrArg (fun q=>q.2.2) (IM ab ab ab ab ab ab ab)).symm | exact (congrArg (fun q=>q.1) (Ih ab ab ab ab ab ab)) | exact (congrArg (fun q=>q.1) (Ih ab ab ab ab ab ab)).symm | exact (congrArg (fun q=>q.2.1) (Ih ab ab ab ab ab ab)) | exact (congrArg (fun q=>q.2.1) (Ih ab ab ab ab ab ab)).symm | exact (congrArg (fun q=>q.2.2) (Ih ab ab ab ab ab ab)) | exact (congrArg (fun q=>q.2.2) (Ih ab ab ab ab ab ab)).symm | (have:=eu ab; exact bZ aL aL))
def Eu:Kn:=aN (ae (kT (.nm .stable)) (ae (kT (.nm .letter)) aq)) ax fun (s,x,_) _=>⟨[],[.c (.fz (.nm .record) (((ay s x).1))),.c (.bool (.atom (((ay s x).2.1)))),.c (.int (((ay s x).2.2.1))),.c (.int (((ay s x).2.2.2)))],none,false⟩
set_option maxRecDepth 8000 in
theorem VL:CK 95 Eu:=ah fun (s,x,_) _ _=>by
 refine aw nU (Yl s x) Tryz.func95 (?_:(fun (t:List Record)=>(fun (F:Nat)=>(fun (H:List Record)=>(fun (y:Int)=>(fun (z:Int)=>(fun (I:Int)=>(fun (i:Int)=>(fun (G:Int)=>(fun (u:Bool × Int × Int)=>(fun (J:Prop)=>(fun (w:Int)=>(fun (K:Prop)=>(fun (A:List Entry)=>(fun (g:Prop)=>(fun (p:Int)=>(fun (e:Nat)=>(fun (f:Int)=>(fun (o:Int)=>ck s (aK x (I64 (mayL x)->(mayL x=i/\x.kind=y->I64 G)/\((¬mayL x=i\/¬x.kind=y)\/64<G->H=[]/\false=u.fst/\i=u.snd.fst/\z=u.snd.snd)/\((mayL x=i/\x.kind=y)/\G<=64->(x.term<s.term->H=[]/\J)/\(s.term<=x.term->(decide (cf s.log x.a=x.b)=false->t=H/\J)/\(decide (cf s.log x.a=x.b)=true->I64 G/\(I64 I->A.length*32<=F->(¬I=i->(t.length+[Record.mk 4 I i []].length)*48<=F/\∃ (B:Nat),(G=w/\g/\g/\p=f/\i=(↑B:Int)/\t++[Record.mk 4 I i []]=ej s x B)/\B<=e/\∀ (c:Nat),(fun (C:Int)=>c<=e->((↑c:Int)<f->i<=(↑c:Int)/\(↑c:Int)<p/\∀ (d:Entry),A[c]? = some d->I64 d.term->d.b.length*1<=F->I64 o/\I64 (o+(↑c:Int))/\I64 C/\((ej s x c).length+[Record.mk y C d.term d.b].length)*48<=F/\I64 ((↑c:Int)+z)/\∃ (v:Nat),(w=w/\g/\g/\f=f/\(↑c:Int)+z=(↑v:Int)/\ej s x c++[Record.mk y C d.term d.b]=ej s x v)/\v <= e/\e - v < e - c)/\(f<=(↑c:Int)->ej s x c=H/\K)) (o+(↑c:Int)+z))/\(I=i->∃ (B:Nat),(G=w/\g/\g/\p=f/\i=(↑B:Int)/\t=ej s x B)/\B<=e/\∀ (c:Nat),(fun (D:Int)=>c<=e->((↑c:Int)<f->i<=(↑c:Int)/\(↑c:Int)<p/\∀ (d:Entry),A[c]? = some d->I64 d.term->d.b.length*1<=F->I64 o/\I64 (o+(↑c:Int))/\I64 D/\((ej s x c).length+[Record.mk y D d.term d.b].length)*48<=F/\I64 ((↑c:Int)+z)/\∃ (v:Nat),(w=w/\g/\g/\f=f/\(↑c:Int)+z=(↑v:Int)/\ej s x c++[Record.mk y D d.term d.b]=ej s x v)/\v <= e/\e - v < e - c)/\(f<=(↑c:Int)->ej s x c=H/\K)) (o+(↑c:Int)+z))))))))) (w - p)) (↑e:Int)) A.length) (↑A.length:Int)) (A=A)) (a_ s.log x.a x.l).snd) (true=u.fst/\w=u.snd.fst/\i=u.snd.snd)) (x.a+(↑x.l.length:Int))) (false=u.fst/\i=u.snd.fst/\i=u.snd.snd)) (ay s x).snd) (x.a+(↑x.l.length:Int))) 0) (a_ s.log x.a x.l).fst) 1) 3) (ay s x).fst) 140737488355328) (az s x.term));iterate 3 ((all_goals (repeat' with_reducible first|apply bh|refine bg ?_|intro)); (all_goals try (first | exact br | (with_reducible exact aiz ab) | (with_reducible exact aiN ab) | (with_reducible exact aiq ab) | (with_reducible exact aeD ab) | (with_reducible exact adF) | (with_reducible exact (congrArg (fun q=>q.1) (Bq ab))) | (with_reducible exact (congrArg (fun q=>q.1) (Bq ab)).symm) | (with_reducible exact (congrArg (fun q=>q.2.1) (Bq ab))) | (with_reducible exact (congrArg (fun q=>q.2.1) (Bq ab)).symm) | (with_reducible exact (congrArg (fun q=>q.2.2.1) (Bq ab))) | (with_reducible exact (congrArg (fun q=>q.2.2.1) (Bq ab)).symm) | (with_reducible exact (congrArg (fun q=>q.2.2.2) (Bq ab))) | (with_reducible exact (congrArg (fun q=>q.2.2.2) (Bq ab)).symm) | (with_reducible exact (congrArg (fun q=>q.1) (Be ab ab ab ab))) | (with_reducible exact (congrArg (fun q=>q.1) (Be ab ab ab ab)).symm) | (with_reducible exact (congrArg (fun q=>q.2.1) (Be ab ab ab ab))) | (with_reducible exact (congrArg (fun q=>q.2.1) (Be ab ab ab ab)).symm) | (with_reducible exact (congrArg (fun q=>q.2.2.1) (Be ab ab ab ab))) | (with_reducible exact (congrArg (fun q=>q.2.2.1) (Be ab ab ab ab)).symm) | (with_reducible exact (congrArg (fun q=>q.2.2.2) (Be ab ab ab ab))) | (with_reducible exact (congrArg (fun q=>q.2.2.2) (Be ab ab ab ab)).symm) | (with_reducible exact (congrArg (fun q=>q.1) (yO ab ab ab ab ab))) | (with_reducible exact (congrArg (fun q=>q.1) (yO ab ab ab ab ab)).symm) | (with_reducible exact (congrArg (fun q=>q.2.1) (yO ab ab ab ab ab))) | (with_reducible exact (congrArg (fun q=>q.2.1) (yO ab ab ab ab ab)).symm) | (with_reducible exact (congrArg (fun q=>q.2.2.1) (yO ab ab ab ab ab))) | (with_reducible exact (congrArg (fun q=>q.2.2.1) (yO ab ab ab ab ab)).symm) | (with_reducible exact (congrArg (fun q=>q.2.2.2) (yO ab ab ab ab ab))) | (with_reducible exact (congrArg (fun q=>q.2.2.2) (yO ab ab ab ab ab)).symm) | (with_reducible exact (congrArg (fun q=>q.1) (zl ab ab ab ab ab ab))) | (with_reducible exact (congrArg (fun q=>q.1) (zl ab ab ab ab ab ab)).symm) | (with_reducible exact (congrArg (fun q=>q.2.1) (zl ab ab ab ab ab ab))) | (with_reducible exact (congrArg (fun q=>q.2.1) (zl ab ab ab ab ab ab)).symm) | (with_reducible exact (congrArg (fun q=>q.2.2.1) (zl ab ab ab ab ab ab))) | (with_reducible exact (congrArg (fun q=>q.2.2.1) (zl ab ab ab ab ab ab)).symm) | (with_reducible exact (congrArg (fun q=>q.2.2.2) (zl ab ab ab ab ab ab))) | (with_reducible exact (congrArg (fun q=>q.2.2.2) (zl ab ab ab ab ab ab)).symm) | (have h:=eu ab; have L:=wH (l:=s.log) (m:=x.l) (k:=x.a); refine bZ ?_ ?_ <;> omega))); all_goals try first | refine ⟨‹Nat› + 1,?_⟩ | refine ⟨0,?_⟩)
def CV:bM:=(aP 95 Eu (aP 98 vQ (aP 144 wE (aP 145 Ew acX))))
def jZ:aB Tryz.prog (al tyT) CV:=(ag VL (ag HO (ag HD (ag Hp nU))))
def KZ (r:Record) (a:recOk r=false):Sat Tryz.prog (al tyT) 145 [.agg (cellsOf (.nm .record) r)] [] ⟨[recOk r=false],[.c (.fz .u8 (([]))),.c (.int ((1)))],none,false⟩:=by
 have e:aO r=([],1):=by rw [aO,if_neg (by rw [a]; decide)]
 have h:=TN r;rw [e] at h; exact ⟨h.1,h.2⟩
def BO:Kn:=aN (ae (kT (.nm .record)) aq) ax fun (r,_) _=>⟨[recOk r=false],[.c (.fz .u8 (([]))),.c (.int ((1)))],none,false⟩
def Qc:CK 145 BO:=ah fun (r,_) _ a=>KZ r (cd a)
def Kt  (a:False):Sat Tryz.prog (al tyT) 148 [] [] ⟨[False],[.c (.xx (.km []) [])],none,false⟩:=a.elim
def yZ:Kn:=aN aq ax fun _ _=>⟨[False],[.c (.xx (.km []) [])],none,false⟩
def PY:CK 148 yZ:=ah fun _ _ a=>Kt  (cd a)
def Wg:bM:=(aP 148 yZ (aP 145 BO CV))
def LJ:aB Tryz.prog (al tyT) Wg:=(ag PY (ag Qc jZ))
def mu (h:(bG b).2=false):bW b=(uE,3):=if_pos h
theorem mm (h:(bG b).2=true) (a:¬ (aO (bG b).1).2=0\/decide ((aO (bG b).1).1=b)=false):bW b=(uE,3):=by
 rw [bW,if_neg (by rw [h]; decide),if_pos];grind
theorem mo (h:(bG b).2=true) (a:(aO (bG b).1).2=0) (c:decide ((aO (bG b).1).1=b)=true):bW b=((bG b).1,0):=by
 rw [bW,if_neg (by rw [h]; decide),if_neg];grind
theorem dA:(aO r).2=0↔recOk r=true:=by
 unfold aO;grind
theorem nI (h:¬ (aO r).2=0):(aO r).2=1/\recOk r=false:=by
 unfold aO at h ⊢;grind
def RH (s:Stable) (a b:Int) (x:List UInt8) (e:Stable) (f:Int):Xy tyT CV [] Tryz.f85 [.agg (cellsOf (.nm .stable) s),.agg [.int 1,.int a,.int b,.fz .u8 x]] [] [.agg (cellsOf (.nm .stable) e),.c (.int f)]=((fun d=>(fun g=>ck s (I64 1->I64 a->I64 b->x.length*1<=140737488355328->(aO d).fst.length*1<=140737488355328->I64 g->(¬g=0->I64 s.floor->I64 s.term->I64 s.vote->aG s e (g=f))/\(g=0->I64 s.floor->I64 s.term->I64 s.vote->((dM s d).isSome=false->I64 s.floor->I64 s.term->I64 s.vote->aG s e (5=f))/\((dM s d).isSome=true->aG ((dM s d).getD s) e (0=f))))) (aO d).snd) (Record.mk 1 a b x)):=bK
def RW (s:Stable) (a b:Int) (x:List UInt8) (e:Stable) (f:Int):Xy tyT CV [] Tryz.f85 [.agg (cellsOf (.nm .stable) s),.agg [.int 2,.int a,.int b,.fz .u8 x]] [] [.agg (cellsOf (.nm .stable) e),.c (.int f)]=((fun d=>(fun g=>ck s (I64 2->I64 a->I64 b->x.length*1<=140737488355328->(aO d).fst.length*1<=140737488355328->I64 g->(¬g=0->I64 s.floor->I64 s.term->I64 s.vote->aG s e (g=f))/\(g=0->I64 s.floor->I64 s.term->I64 s.vote->((fx s d).isSome=false->I64 s.floor->I64 s.term->I64 s.vote->aG s e (5=f))/\((fx s d).isSome=true->aG ((fx s d).getD s) e (0=f))))) (aO d).snd) (Record.mk 2 a b x)):=bK
def RA (s:Stable) (a b:Int) (x:List UInt8) (e:Stable) (f:Int):Xy tyT CV [] Tryz.f85 [.agg (cellsOf (.nm .stable) s),.agg [.int 3,.int a,.int b,.fz .u8 x]] [] [.agg (cellsOf (.nm .stable) e),.c (.int f)]=((fun d=>(fun g=>ck s (I64 3->I64 a->I64 b->x.length*1<=140737488355328->(aO d).fst.length*1<=140737488355328->I64 g->(¬g=0->I64 s.floor->I64 s.term->I64 s.vote->aG s e (g=f))/\(g=0->I64 s.floor->I64 s.term->I64 s.vote->s.log.length<=1000000/\x.length<=200/\((dz s d).isSome=false->I64 s.floor->I64 s.term->I64 s.vote->aG s e (5=f))/\((dz s d).isSome=true->aG ((dz s d).getD s) e (0=f))))) (aO d).snd) (Record.mk 3 a b x)):=bK
def SP (s:Stable) (a b:Int) (x:List UInt8) (e:Stable) (f:Int):Xy tyT CV [] Tryz.f85 [.agg (cellsOf (.nm .stable) s),.agg [.int 4,.int a,.int b,.fz .u8 x]] [] [.agg (cellsOf (.nm .stable) e),.c (.int f)]=((fun d=>(fun g=>ck s (I64 4->I64 a->I64 b->x.length*1<=140737488355328->(aO d).fst.length*1<=140737488355328->I64 g->(¬g=0->I64 s.floor->I64 s.term->I64 s.vote->aG s e (g=f))/\(g=0->I64 s.floor->I64 s.term->I64 s.vote->(1<=a/\a<=64)/\((fO s d).isSome=false->I64 s.floor->I64 s.term->I64 s.vote->aG s e (5=f))/\((fO s d).isSome=true->aG ((fO s d).getD s) e (0=f))))) (aO d).snd) (Record.mk 4 a b x)):=bK
def Vg (s:Stable) (r:Record) (a:Stable) (d:Int):Xy tyT Wg [] Tryz.f85 [.agg (cellsOf (.nm .stable) s),.agg (cellsOf (.nm .record) r)] [] [.agg (cellsOf (.nm .stable) a),.c (.int d)]=(ck s (dW r (recOk r=false/\((0:Nat)*(1:Nat)<=(140737488355328:Nat)->I64 (1:Int)->(¬(1:Int)=(0:Int)->I64 s.floor->I64 s.term->I64 s.vote->aG s a ((1:Int)=d))/\((1:Int)=(0:Int)->I64 s.floor->I64 s.term->I64 s.vote->False/\False))))):=bK
def BQ {s:Stable} (h:recOk r=false):aQ s r=(s,1):=if_pos h
def dH {s:Stable} (h:¬ (aO r).2=0):aQ s r=(s,(aO r).2):=by
 rw [BQ (nI h).2,(nI h).1]
variable {o:Option Stable}
theorem dG {s:Stable} (e:fE s r=o) (h:(aO r).2=0) (a:o.isSome=false):aQ s r=(s,5):=by
 rw [aQ,if_neg (by rw [dA.1 h]; decide),e];grind
theorem dI {s:Stable} (e:fE s r=o) (h:(aO r).2=0) (a:o.isSome=true):aQ s r=(o.getD s,0):=by
 rw [aQ,if_neg (by rw [dA.1 h]; decide),e];grind
set_option maxRecDepth 8000 in
def Yv (s:Stable) (a b:Int) (x:List UInt8) (e:s.log.length<=1000000):Sat Tryz.prog (al tyT) 85 [.agg (cellsOf (.nm .stable) s),.agg (cellsOf (.nm .record) (⟨1,a,b,x⟩:Record))] [] ⟨[s.log.length<=1000000],[.agg (cellsOf (.nm .stable) (aQ s (⟨1,a,b,x⟩:Record)).1),.c (.int (aQ s (⟨1,a,b,x⟩:Record)).2)],none,false⟩:=by
 have d:fE s (⟨1,a,b,x⟩:Record)=dM s (⟨1,a,b,x⟩:Record):=rfl;refine aw jZ [] Tryz.func85 ?_ (RH s a b x (aQ s (⟨1,a,b,x⟩:Record)).1 (aQ s (⟨1,a,b,x⟩:Record)).2).symm;(repeat' with_reducible first|apply bh|refine bg ?_|intro)
 all_goals (first | exact br | exact (congrArg (fun q=>q.2) (dH ab)) | exact (congrArg (fun q=>q.2) (dH ab)).symm | exact (congrArg (fun q=>q.1.floor) (dH ab)) | exact (congrArg (fun q=>q.1.floor) (dH ab)).symm | exact (congrArg (fun q=>q.1.term) (dH ab)) | exact (congrArg (fun q=>q.1.term) (dH ab)).symm | exact (congrArg (fun q=>q.1.vote) (dH ab)) | exact (congrArg (fun q=>q.1.vote) (dH ab)).symm | exact (congrArg (fun q=>q.1.log) (dH ab)) | exact (congrArg (fun q=>q.1.log) (dH ab)).symm | exact (congrArg (fun q=>q.2) (dG d ab ab)) | exact (congrArg (fun q=>q.2) (dG d ab ab)).symm | exact (congrArg (fun q=>q.1.floor) (dG d ab ab)) | exact (congrArg (fun q=>q.1.floor) (dG d ab ab)).symm | exact (congrArg (fun q=>q.1.term) (dG d ab ab)) | exact (congrArg (fun q=>q.1.term) (dG d ab ab)).symm | exact (congrArg (fun q=>q.1.vote) (dG d ab ab)) | exact (congrArg (fun q=>q.1.vote) (dG d ab ab)).symm | exact (congrArg (fun q=>q.1.log) (dG d ab ab)) | exact (congrArg (fun q=>q.1.log) (dG d ab ab)).symm | exact (congrArg (fun q=>q.2) (dI d ab ab)) | exact (congrArg (fun q=>q.2) (dI d ab ab)).symm | exact (congrArg (fun q=>q.1.floor) (dI d ab ab)) | exact (congrArg (fun q=>q.1.floor) (dI d ab ab)).symm | exact (congrArg (fun q=>q.1.term) (dI d ab ab)) | exact (congrArg (fun q=>q.1.term) (dI d ab ab)).symm | exact (congrArg (fun q=>q.1.vote) (dI d ab ab)) | exact (congrArg (fun q=>q.1.vote) (dI d ab ab)).symm | exact (congrArg (fun q=>q.1.log) (dI d ab ab)) | exact (congrArg (fun q=>q.1.log) (dI d ab ab)).symm | (have:=jj (dA.1 ab); dsimp only at this; omega) | (have h:=bI.1 (dA.1 ab); dsimp only at h; omega))
set_option maxRecDepth 8000 in
def aaq (s:Stable) (a b:Int) (x:List UInt8) (e:s.log.length<=1000000):Sat Tryz.prog (al tyT) 85 [.agg (cellsOf (.nm .stable) s),.agg (cellsOf (.nm .record) (⟨2,a,b,x⟩:Record))] [] ⟨[s.log.length<=1000000],[.agg (cellsOf (.nm .stable) (aQ s (⟨2,a,b,x⟩:Record)).1),.c (.int (aQ s (⟨2,a,b,x⟩:Record)).2)],none,false⟩:=by
 have d:fE s (⟨2,a,b,x⟩:Record)=fx s (⟨2,a,b,x⟩:Record):=rfl;refine aw jZ [] Tryz.func85 ?_ (RW s a b x (aQ s (⟨2,a,b,x⟩:Record)).1 (aQ s (⟨2,a,b,x⟩:Record)).2).symm;(repeat' with_reducible first|apply bh|refine bg ?_|intro)
 all_goals (first | exact br | exact (congrArg (fun q=>q.2) (dH ab)) | exact (congrArg (fun q=>q.2) (dH ab)).symm | exact (congrArg (fun q=>q.1.floor) (dH ab)) | exact (congrArg (fun q=>q.1.floor) (dH ab)).symm | exact (congrArg (fun q=>q.1.term) (dH ab)) | exact (congrArg (fun q=>q.1.term) (dH ab)).symm | exact (congrArg (fun q=>q.1.vote) (dH ab)) | exact (congrArg (fun q=>q.1.vote) (dH ab)).symm | exact (congrArg (fun q=>q.1.log) (dH ab)) | exact (congrArg (fun q=>q.1.log) (dH ab)).symm | exact (congrArg (fun q=>q.2) (dG d ab ab)) | exact (congrArg (fun q=>q.2) (dG d ab ab)).symm | exact (congrArg (fun q=>q.1.floor) (dG d ab ab)) | exact (congrArg (fun q=>q.1.floor) (dG d ab ab)).symm | exact (congrArg (fun q=>q.1.term) (dG d ab ab)) | exact (congrArg (fun q=>q.1.term) (dG d ab ab)).symm | exact (congrArg (fun q=>q.1.vote) (dG d ab ab)) | exact (congrArg (fun q=>q.1.vote) (dG d ab ab)).symm | exact (congrArg (fun q=>q.1.log) (dG d ab ab)) | exact (congrArg (fun q=>q.1.log) (dG d ab ab)).symm | exact (congrArg (fun q=>q.2) (dI d ab ab)) | exact (congrArg (fun q=>q.2) (dI d ab ab)).symm | exact (congrArg (fun q=>q.1.floor) (dI d ab ab)) | exact (congrArg (fun q=>q.1.floor) (dI d ab ab)).symm | exact (congrArg (fun q=>q.1.term) (dI d ab ab)) | exact (congrArg (fun q=>q.1.term) (dI d ab ab)).symm | exact (congrArg (fun q=>q.1.vote) (dI d ab ab)) | exact (congrArg (fun q=>q.1.vote) (dI d ab ab)).symm | exact (congrArg (fun q=>q.1.log) (dI d ab ab)) | exact (congrArg (fun q=>q.1.log) (dI d ab ab)).symm | (have:=jj (dA.1 ab); dsimp only at this; omega) | (have h:=bI.1 (dA.1 ab); dsimp only at h; omega))
set_option maxRecDepth 8000 in
def aa_ (s:Stable) (a b:Int) (x:List UInt8) (e:s.log.length<=1000000):Sat Tryz.prog (al tyT) 85 [.agg (cellsOf (.nm .stable) s),.agg (cellsOf (.nm .record) (⟨3,a,b,x⟩:Record))] [] ⟨[s.log.length<=1000000],[.agg (cellsOf (.nm .stable) (aQ s (⟨3,a,b,x⟩:Record)).1),.c (.int (aQ s (⟨3,a,b,x⟩:Record)).2)],none,false⟩:=by
 have d:fE s (⟨3,a,b,x⟩:Record)=dz s (⟨3,a,b,x⟩:Record):=rfl;refine aw jZ [] Tryz.func85 ?_ (RA s a b x (aQ s (⟨3,a,b,x⟩:Record)).1 (aQ s (⟨3,a,b,x⟩:Record)).2).symm;(repeat' with_reducible first|apply bh|refine bg ?_|intro)
 all_goals (first | exact br | exact (congrArg (fun q=>q.2) (dH ab)) | exact (congrArg (fun q=>q.2) (dH ab)).symm | exact (congrArg (fun q=>q.1.floor) (dH ab)) | exact (congrArg (fun q=>q.1.floor) (dH ab)).symm | exact (congrArg (fun q=>q.1.term) (dH ab)) | exact (congrArg (fun q=>q.1.term) (dH ab)).symm | exact (congrArg (fun q=>q.1.vote) (dH ab)) | exact (congrArg (fun q=>q.1.vote) (dH ab)).symm | exact (congrArg (fun q=>q.1.log) (dH ab)) | exact (congrArg (fun q=>q.1.log) (dH ab)).symm | exact (congrArg (fun q=>q.2) (dG d ab ab)) | exact (congrArg (fun q=>q.2) (dG d ab ab)).symm | exact (congrArg (fun q=>q.1.floor) (dG d ab ab)) | exact (congrArg (fun q=>q.1.floor) (dG d ab ab)).symm | exact (congrArg (fun q=>q.1.term) (dG d ab ab)) | exact (congrArg (fun q=>q.1.term) (dG d ab ab)).symm | exact (congrArg (fun q=>q.1.vote) (dG d ab ab)) | exact (congrArg (fun q=>q.1.vote) (dG d ab ab)).symm | exact (congrArg (fun q=>q.1.log) (dG d ab ab)) | exact (congrArg (fun q=>q.1.log) (dG d ab ab)).symm | exact (congrArg (fun q=>q.2) (dI d ab ab)) | exact (congrArg (fun q=>q.2) (dI d ab ab)).symm | exact (congrArg (fun q=>q.1.floor) (dI d ab ab)) | exact (congrArg (fun q=>q.1.floor) (dI d ab ab)).symm | exact (congrArg (fun q=>q.1.term) (dI d ab ab)) | exact (congrArg (fun q=>q.1.term) (dI d ab ab)).symm | exact (congrArg (fun q=>q.1.vote) (dI d ab ab)) | exact (congrArg (fun q=>q.1.vote) (dI d ab ab)).symm | exact (congrArg (fun q=>q.1.log) (dI d ab ab)) | exact (congrArg (fun q=>q.1.log) (dI d ab ab)).symm | (have:=jj (dA.1 ab); dsimp only at this; omega) | (have h:=bI.1 (dA.1 ab); dsimp only at h; omega))
set_option maxRecDepth 8000 in
def Zr (s:Stable) (a b:Int) (x:List UInt8) (e:s.log.length<=1000000):Sat Tryz.prog (al tyT) 85 [.agg (cellsOf (.nm .stable) s),.agg (cellsOf (.nm .record) (⟨4,a,b,x⟩:Record))] [] ⟨[s.log.length<=1000000],[.agg (cellsOf (.nm .stable) (aQ s (⟨4,a,b,x⟩:Record)).1),.c (.int (aQ s (⟨4,a,b,x⟩:Record)).2)],none,false⟩:=by
 have d:fE s (⟨4,a,b,x⟩:Record)=fO s (⟨4,a,b,x⟩:Record):=rfl;refine aw jZ [] Tryz.func85 ?_ (SP s a b x (aQ s (⟨4,a,b,x⟩:Record)).1 (aQ s (⟨4,a,b,x⟩:Record)).2).symm;(repeat' with_reducible first|apply bh|refine bg ?_|intro)
 all_goals (first | exact br | exact (congrArg (fun q=>q.2) (dH ab)) | exact (congrArg (fun q=>q.2) (dH ab)).symm | exact (congrArg (fun q=>q.1.floor) (dH ab)) | exact (congrArg (fun q=>q.1.floor) (dH ab)).symm | exact (congrArg (fun q=>q.1.term) (dH ab)) | exact (congrArg (fun q=>q.1.term) (dH ab)).symm | exact (congrArg (fun q=>q.1.vote) (dH ab)) | exact (congrArg (fun q=>q.1.vote) (dH ab)).symm | exact (congrArg (fun q=>q.1.log) (dH ab)) | exact (congrArg (fun q=>q.1.log) (dH ab)).symm | exact (congrArg (fun q=>q.2) (dG d ab ab)) | exact (congrArg (fun q=>q.2) (dG d ab ab)).symm | exact (congrArg (fun q=>q.1.floor) (dG d ab ab)) | exact (congrArg (fun q=>q.1.floor) (dG d ab ab)).symm | exact (congrArg (fun q=>q.1.term) (dG d ab ab)) | exact (congrArg (fun q=>q.1.term) (dG d ab ab)).symm | exact (congrArg (fun q=>q.1.vote) (dG d ab ab)) | exact (congrArg (fun q=>q.1.vote) (dG d ab ab)).symm | exact (congrArg (fun q=>q.1.log) (dG d ab ab)) | exact (congrArg (fun q=>q.1.log) (dG d ab ab)).symm | exact (congrArg (fun q=>q.2) (dI d ab ab)) | exact (congrArg (fun q=>q.2) (dI d ab ab)).symm | exact (congrArg (fun q=>q.1.floor) (dI d ab ab)) | exact (congrArg (fun q=>q.1.floor) (dI d ab ab)).symm | exact (congrArg (fun q=>q.1.term) (dI d ab ab)) | exact (congrArg (fun q=>q.1.term) (dI d ab ab)).symm | exact (congrArg (fun q=>q.1.vote) (dI d ab ab)) | exact (congrArg (fun q=>q.1.vote) (dI d ab ab)).symm | exact (congrArg (fun q=>q.1.log) (dI d ab ab)) | exact (congrArg (fun q=>q.1.log) (dI d ab ab)).symm | (have:=jj (dA.1 ab); dsimp only at this; omega) | (have h:=bI.1 (dA.1 ab); dsimp only at h; omega))
theorem OO (s:Stable) (r:Record) (d:s.log.length<=1000000):Sat Tryz.prog (al tyT) 85 [.agg (cellsOf (.nm .stable) s),.agg (cellsOf (.nm .record) r)] [] ⟨[s.log.length<=1000000],[.agg (cellsOf (.nm .stable) (aQ s r).1),.c (.int (aQ s r).2)],none,false⟩:=by
 cases e:recOk r
 ·refine aw LJ [] Tryz.func85 ?_ (Vg s r (aQ s r).1 (aQ s r).2).symm;rw [BQ e];grind
 obtain ⟨k,a,b,x⟩:=r;rcases bI.1 e with h | h | h | h <;> (have f:=h.1; dsimp only at f; subst f)
 ·exact Yv s a b x d
 ·exact aaq s a b x d
 ·exact aa_ s a b x d
 exact Zr s a b x d
def Bg:Kn:=aN (ae (kC (cL .u8)) aq) ax fun (b,_) _=>⟨[],[.agg (cellsOf (.nm .record) ((bW b).1)),.c (.int (((bW b).2)))],none,false⟩
def LH:CK 84 Bg:=ah fun (b,_) _ _=>by
 refine aw jZ [] Tryz.func84 (?_:(fun c=>(fun e=>(fun d=>(fun f=>b.length*1<=140737488355328->dW (bG b).fst (((bG b).snd=false->f)/\((bG b).snd=true->d.fst.length*1<=140737488355328->I64 d.snd->(¬d.snd=c\/decide (d.fst=b)=false->f)/\(d.snd=c/\decide (d.fst=b)=true->th (bG b).fst e (c=(bW b).snd))))) (c=e.kind/\c=e.a/\c=e.b/\e.x=[]/\3=(bW b).snd)) (aO (bG b).fst)) (bW b).fst) (0:Int));(repeat' with_reducible first|apply bh|refine bg ?_|intro)
 all_goals (first | exact br | exact (congrArg (fun q=>q.2) (mu ab)) | exact (congrArg (fun q=>q.2) (mu ab)).symm | exact (congrArg (fun q=>q.1.kind) (mu ab)) | exact (congrArg (fun q=>q.1.kind) (mu ab)).symm | exact (congrArg (fun q=>q.1.a) (mu ab)) | exact (congrArg (fun q=>q.1.a) (mu ab)).symm | exact (congrArg (fun q=>q.1.b) (mu ab)) | exact (congrArg (fun q=>q.1.b) (mu ab)).symm | exact (congrArg (fun q=>q.1.x) (mu ab)) | exact (congrArg (fun q=>q.1.x) (mu ab)).symm | exact (congrArg (fun q=>q.2) (mm ab ab)) | exact (congrArg (fun q=>q.2) (mm ab ab)).symm | exact (congrArg (fun q=>q.1.kind) (mm ab ab)) | exact (congrArg (fun q=>q.1.kind) (mm ab ab)).symm | exact (congrArg (fun q=>q.1.a) (mm ab ab)) | exact (congrArg (fun q=>q.1.a) (mm ab ab)).symm | exact (congrArg (fun q=>q.1.b) (mm ab ab)) | exact (congrArg (fun q=>q.1.b) (mm ab ab)).symm | exact (congrArg (fun q=>q.1.x) (mm ab ab)) | exact (congrArg (fun q=>q.1.x) (mm ab ab)).symm | exact (congrArg (fun q=>q.2) (mo ab ab ab)) | exact (congrArg (fun q=>q.2) (mo ab ab ab)).symm | exact (congrArg (fun q=>q.1.kind) (mo ab ab ab)) | exact (congrArg (fun q=>q.1.kind) (mo ab ab ab)).symm | exact (congrArg (fun q=>q.1.a) (mo ab ab ab)) | exact (congrArg (fun q=>q.1.a) (mo ab ab ab)).symm | exact (congrArg (fun q=>q.1.b) (mo ab ab ab)) | exact (congrArg (fun q=>q.1.b) (mo ab ab ab)).symm | exact (congrArg (fun q=>q.1.x) (mo ab ab ab)) | exact (congrArg (fun q=>q.1.x) (mo ab ab ab)).symm)
def PQ (s:Stable) (r:Record) (a:s.log.length<=1000000):Sat Tryz.prog (al tyT) 85 [.agg (cellsOf (.nm .stable) s),.agg (cellsOf (.nm .record) r)] [] ⟨[s.log.length<=1000000],[.agg (cellsOf (.nm .stable) ((aQ s r).1)),.c (.int (((aQ s r).2)))],none,false⟩:=OO s r a
def Cl:Kn:=aN (ae (kT (.nm .stable)) (ae (kT (.nm .record)) aq)) ax fun (s,r,_) _=>⟨[s.log.length<=1000000],[.agg (cellsOf (.nm .stable) ((aQ s r).1)),.c (.int (((aQ s r).2)))],none,false⟩
def Qe:CK 85 Cl:=ah fun (s,r,_) _ a=>PQ s r (cd a)
def aeC:bM:=(aP 85 Cl (aP 84 Bg CV))
def EP:aB Tryz.prog (al tyT) aeC:=(ag Qe (ag LH jZ))
structure RJ (b:List UInt8) (s:Stable) (u:Int):Prop where
 le:0<=u/\u<=b.length
 log:(s.log.length:Int)<=u
 eq:replayF b=((playB (b.length+1) s (b.drop u.toNat)).1,u+(playB (b.length+1) s (b.drop u.toNat)).2)
def af3:RJ b sta0 0:=⟨aL,aa,by simp [replayF]⟩
section
variable {b:List UInt8} {s:Stable} {u:Int}
def uw (h:RJ b s u) (a:¬ (bj (b.drop u.toNat)).2.2=0):replayF b=(s,u):=by
 rw [h.eq,mE a,Int.add_zero]
def uk (h:RJ b s u) (a:(bj (b.drop u.toNat)).2.2=0) (c:¬ (bW (bj (b.drop u.toNat)).1).2=0):replayF b=(s,u):=by
 rw [h.eq,playB,if_neg (adJ.2 a),if_pos c,Int.add_zero]
def uC (h:RJ b s u) (a:(bj (b.drop u.toNat)).2.2=0) (c:(bW (bj (b.drop u.toNat)).1).2=0) (d:¬ (aQ s (bW (bj (b.drop u.toNat)).1).1).2=0):replayF b=(s,u):=by
 rw [h.eq,playB,if_neg (adJ.2 a),if_neg (adJ.2 c),if_pos d,Int.add_zero]
theorem Is {s t:Stable} (h:fE s r=some t):t.log.length<=s.log.length+1:=by
 unfold fE dM fx dz fO at h;grind
def uJ {s:Stable}:(aQ s r).1.log.length<=s.log.length+1:=by
 unfold aQ;split
 ·simp
 split
 ·rename_i t h; exact Is h
 simp
theorem aiQ (h:RJ b s u) (a:(bj (b.drop u.toNat)).2.2=0) (c:(bW (bj (b.drop u.toNat)).1).2=0) (d:(aQ s (bW (bj (b.drop u.toNat)).1).1).2=0):RJ b (aQ s (bW (bj (b.drop u.toNat)).1).1).1 (u+(bj (b.drop u.toNat)).2.1):=by
 have e:=ic a;rw [List.length_drop] at e;have f:=uJ (s:=s) (r:=(bW (bj (b.drop u.toNat)).1).1);have g:=h.log;refine ⟨aL,aL,?_⟩;rw [h.eq,playB,if_neg (adJ.2 a),if_neg (adJ.2 c),if_neg (adJ.2 d),ahG,show u.toNat+(bj (b.drop u.toNat)).2.1.toNat=(u+(bj (b.drop u.toNat)).2.1).toNat by omega];rw [mW (n:=b.length) (m:=b.length+1) (by rw [List.length_drop]; omega) (by rw [List.length_drop]; omega)];grind
def ah3 (h:RJ b s u):0<=u:=h.le.1
def ai9 (h:RJ b s u):u<=(b.length:Int):=h.le.2
def agR (h:RJ b s u) (a:b.length<=1000000):s.log.length<=1000000:=by
 have:=h.log; have:=h.le; omega
def aij (h:RJ b s u) (a:(bj (b.drop u.toNat)).2.2=0) (c:b.length<=1000000):I64 (u+(bj (b.drop u.toNat)).2.1):=by
 have:=ic a; have:=h.le;rw [List.length_drop] at *;exact bZ aL aL
theorem aiD (h:RJ b s u) (a:(bj (b.drop u.toNat)).2.2=0):((b.length:Int) - (u+(bj (b.drop u.toNat)).2.1)).toNat<((b.length:Int) - u).toNat:=by
 have:=ic a; have:=h.le;grind
end
variable {l:List Record}
def BS {s:Stable} (h:(stepsF s (l.take k)).2=0) (a:l[k]? = some r):stepsF s (l.take (k+1))=stepsF (stepsF s (l.take k)).1 [r]:=by
 rw [ai a,dS h]
def uA {s:Stable} (h:(stepsF s (l.take k)).2=0) (a:l[k]? = some r) (c:(aQ (stepsF s (l.take k)).1 r).2=0):(stepsF s (l.take (k+1))).2=0/\(stepsF s (l.take (k+1))).1=(aQ (stepsF s (l.take k)).1 r).1:=by
 rw [BS h a,stepsF,if_pos c,stepsF]; exact ⟨rfl,rfl⟩
def ahX {s:Stable} (h:(stepsF s (l.take k)).2=0) (a:l[k]? = some r) (c:¬ (aQ (stepsF s (l.take k)).1 r).2=0):(stepsF s l).2=(aQ (stepsF s (l.take k)).1 r).2:=by
 have d:=(abp.1 a);have e:l=l.take k++r :: l.drop (k+1):=by
  rw [<- d.2,List.getElem_cons_drop,List.take_append_drop]
 rw [show stepsF s l=stepsF s (l.take k++r :: l.drop (k+1)) from congrArg (stepsF s) e,dS h,stepsF,if_neg c]
theorem s_:∀ {l:List Record} {s:Stable},(stepsF s l).1.log.length<=s.log.length+l.length
 | [],s=>Nat.le_refl _
 | r :: l,s=>by
  rw [stepsF];split
  ·have:=s_ (l:=l) (s:=(aQ s r).1);have:=uJ (s:=s) (r:=r);grind
  grind
def acA (h:(l.take k).all recOk=true) (a:l[k]? = some r) (c:recOk r=true):(l.take (k+1)).all recOk=true:=by
 rw [ai a,List.all_append,h]; simp [c]
theorem afc (a:l[k]? = some r) (c:recOk r=false):l.all recOk=false:=by grind
def abC (a:l[k]? = some r):encL (l.take k)++fi (dD r)=encL (l.take (k+1)):=by
 rw [ai a,sC]; simp [encL,jJ]
def Du {d:Dsk} {x:List UInt8} (h:d.OK):(d.app x).OK:=by
 obtain ⟨a,c,e⟩:=h;unfold Dsk.app;split
 ·exact ⟨a,c,e⟩
 refine ⟨a,?_,?_⟩ <;> dsimp only <;> rw [List.length_append] <;> omega
def JH (b:List UInt8):List (Nat × LI):=[(3,{ σ:=Stable × Int,F:=fun q=>([(0,one (.fz .u8 (b))),(2,one (.ptr 1 0)),(4,one (.ptr 0 0)),(5,one (.int q.2))],[.box 64 (cellsOf (.nm .stable) (q.1)),.box 64 (cellsOf (.nm .stable) (sta0))]),J:=fun q=>RJ b q.1 q.2,μ:=fun q=>(b.length - q.2).toNat })]
def rW:Kn:=aN (ae (kC (cL .u8)) aq) ax fun (b,_) _=>⟨[b.length<=1000000],[.agg (cellsOf (.nm .stable) ((replayF b).1)),.c (.int (((replayF b).2)))],none,false⟩
theorem DA:CK 41 rW:=ah fun (b,_) _ p=>by
 have i:=cd p;refine aw EP (JH b) Tryz.func41 (?_:(fun (a:Int)=>b.length*1<=140737488355328->∃ (d:Stable × Int),(b=b/\a=d.snd/\a=d.fst.floor/\a=d.fst.term/\a=d.fst.vote/\d.fst.log=[]/\a=sta0.floor/\a=sta0.term/\a=sta0.vote/\sta0.log=[])/\RJ b d.fst d.snd/\∀ (s:Stable × Int),(fun (h:Prop)=>(fun (c:List UInt8 × Int × Int)=>(fun (e:Record × Int)=>(fun (f:Stable × Int)=>RJ b s.fst s.snd->a<=s.snd/\s.snd<=(↑b.length:Int)/\(c.fst.length*1<=140737488355328->I64 c.snd.fst->I64 c.snd.snd->(¬c.snd.snd=a->h)/\(c.snd.snd=a->dW e.fst (I64 e.snd->(¬e.snd=a->h)/\(e.snd=a->s.fst.log.length<=1000000/\ck f.fst (I64 f.snd->(¬f.snd=a->h)/\(f.snd=a->I64 (s.snd+c.snd.fst)/\∃ (g:Stable × Int),(b=b/\s.snd+c.snd.fst=g.snd/\aG f.fst g.fst (dV sta0 sta0))/\RJ b g.fst g.snd/\((↑b.length:Int) - g.snd).toNat<((↑b.length:Int) - s.snd).toNat))))))) (aQ s.fst e.fst)) (bW c.fst)) (bj (List.drop s.snd.toNat b))) (aG s.fst (replayF b).fst (s.snd=(replayF b).snd))) 0);iterate 3 ((all_goals (repeat' with_reducible first|apply bh|refine bg ?_|intro)); (all_goals try (first | exact br | (with_reducible exact af3) | (with_reducible exact ah3 ab) | (with_reducible exact ai9 ab) | (with_reducible exact agR ab i) | (with_reducible exact aij ab ab i) | (with_reducible exact aiD ab ab) | (with_reducible exact aiQ ab ab ab ab) | exact (congrArg (fun q=>q.2) (uw ab ab)) | exact (congrArg (fun q=>q.2) (uw ab ab)).symm | exact (congrArg (fun q=>q.1.floor) (uw ab ab)) | exact (congrArg (fun q=>q.1.floor) (uw ab ab)).symm | exact (congrArg (fun q=>q.1.term) (uw ab ab)) | exact (congrArg (fun q=>q.1.term) (uw ab ab)).symm | exact (congrArg (fun q=>q.1.vote) (uw ab ab)) | exact (congrArg (fun q=>q.1.vote) (uw ab ab)).symm | exact (congrArg (fun q=>q.1.log) (uw ab ab)) | exact (congrArg (fun q=>q.1.log) (uw ab ab)).symm | exact (congrArg (fun q=>q.2) (uk ab ab ab)) | exact (congrArg (fun q=>q.2) (uk ab ab ab)).symm | exact (congrArg (fun q=>q.1.floor) (uk ab ab ab)) | exact (congrArg (fun q=>q.1.floor) (uk ab ab ab)).symm | exact (congrArg (fun q=>q.1.term) (uk ab ab ab)) | exact (congrArg (fun q=>q.1.term) (uk ab ab ab)).symm | exact (congrArg (fun q=>q.1.vote) (uk ab ab ab)) | exact (congrArg (fun q=>q.1.vote) (uk ab ab ab)).symm | exact (congrArg (fun q=>q.1.log) (uk ab ab ab)) | exact (congrArg (fun q=>q.1.log) (uk ab ab ab)).symm | exact (congrArg (fun q=>q.2) (uC ab ab ab ab)) | exact (congrArg (fun q=>q.2) (uC ab ab ab ab)).symm | exact (congrArg (fun q=>q.1.floor) (uC ab ab ab ab)) | exact (congrArg (fun q=>q.1.floor) (uC ab ab ab ab)).symm | exact (congrArg (fun q=>q.1.term) (uC ab ab ab ab)) | exact (congrArg (fun q=>q.1.term) (uC ab ab ab ab)).symm | exact (congrArg (fun q=>q.1.vote) (uC ab ab ab ab)) | exact (congrArg (fun q=>q.1.vote) (uC ab ab ab ab)).symm | exact (congrArg (fun q=>q.1.log) (uC ab ab ab ab)) | exact (congrArg (fun q=>q.1.log) (uC ab ab ab ab)).symm)); all_goals try first | refine ⟨((aQ (‹Stable × Int›).1 (bW (bj (b.drop (‹Stable × Int›).2.toNat)).1).1).1,(‹Stable × Int›).2+(bj (b.drop (‹Stable × Int›).2.toNat)).2.1),?_⟩ | refine ⟨(sta0,0),?_⟩)
def adr:bM:=(aP 41 rW aeC)
def FZ:aB Tryz.prog (al tyT) adr:=(ag DA EP)
section
variable {d:Dsk} {s:Stable} {l:List Record} {k:Nat} {r:Record}
def aff (a:l[k]? = some r) (h:¬ (aO r).2=0):saveF d s l=(d,s,(aO r).2):=by
 rw [saveF,if_pos (afc a (nI h).2),(nI h).1]
def Yf (h:(aO r).2=0):pf (aO r).1=(fi (dD r),0):=by
 have a:=dA.1 h;have:=ji a;rw [CM a,pf,if_neg (by dsimp only; omega)]
def aeh {p:Prop} (h:(aO r).2=0) (a:¬ (pf (aO r).1).2=0):p:=absurd (by rw [Yf h]) a
def ac7 (a:l[k]? = some r) (h:(aO r).2=0):encL (l.take k)++(pf (aO r).1).1=encL (l.take (k+1)):=by
 rw [Yf h]; exact abC a
def WR (h:l.length<=1000) (c:(l.take k).all recOk=true) (a:(aO r).2=0):((encL (l.take k)).length+(pf (aO r).1).1.length)*1<=140737488355328:=by
 have e:=ub c;have f:=ji (dA.1 a);have g:(l.take k).length<=l.length:=by rw [List.length_take]; omega
 rw [Yf a]; dsimp only; rw [mY]; omega
def afq (a:(l.length:Int)<=k) (h:(l.take k).all recOk=true):l.all recOk=true:=by rwa [List.take_of_length_le aL] at h
def aeu (a:(l.length:Int)<=k):encL (l.take k)=encL l:=by rw [List.take_of_length_le aL]
theorem ad9 (a:s.log.length<=10000) (c:l.length<=1000):(stepsF s (l.take k)).1.log.length<=1000000:=by
 have:=s_ (s:=s) (l:=l.take k);grind
def adW (c:l.all recOk=true) (h:(stepsF s (l.take k)).2=0) (f:l[k]? = some r) (a:¬ (aQ (stepsF s (l.take k)).1 r).2=0):saveF d s l=(d,s,(aQ (stepsF s (l.take k)).1 r).2):=by
 have e:=ahX h f a;rw [saveF,if_neg (by rw [c]; decide),if_pos (by rw [e]; exact a),e]
def afj (a:(l.length:Int)=0):saveF d s l=(d,(stepsF s (l.take k)).1,0):=by
 rw [ab_ (l:=l) aL,List.take_nil]; rfl
def ZZ (c:(l.length:Int)<=k) (a:l.all recOk=true) (h:(stepsF s (l.take k)).2=0) (e:¬ (l.length:Int)=0):saveF d s l=if d.jT (encL l)≠0 then (d,s,d.jT (encL l)) else if (d.app (encL l)).fH≠0 then ((d.app (encL l)).sync,s,(d.app (encL l)).fH) else ((d.app (encL l)).sync,(stepsF s (l.take k)).1,0):=by
 rw [List.take_of_length_le aL] at h ⊢;rw [saveF,if_neg (by rw [a]; decide),if_neg (by rw [h]; decide),if_neg aL]
theorem acf (a:(l.length:Int)<=k) (c:l.all recOk=true) (h:(stepsF s (l.take k)).2=0) (f:¬ (l.length:Int)=0) (g:¬ d.jT (encL l)=0):saveF d s l=(d.app (encL l),s,d.jT (encL l)):=by
 have e:d.app (encL l)=d:=by
  unfold Dsk.app Dsk.jT at *;grind
 rw [ZZ a c h f,if_pos g,e]
def aen (a:(l.length:Int)<=k) (c:l.all recOk=true) (h:(stepsF s (l.take k)).2=0) (e:¬ (l.length:Int)=0) (f:d.jT (encL l)=0) (g:¬ (d.app (encL l)).fH=0):saveF d s l=((d.app (encL l)).sync,s,(d.app (encL l)).fH):=by
 rw [ZZ a c h e,if_neg (adJ.2 f),if_pos g]
def ac3 (a:(l.length:Int)<=k) (c:l.all recOk=true) (h:(stepsF s (l.take k)).2=0) (e:¬ (l.length:Int)=0) (f:d.jT (encL l)=0) (g:(d.app (encL l)).fH=0):saveF d s l=((d.app (encL l)).sync,(stepsF s (l.take k)).1,0):=by
 rw [ZZ a c h e,if_neg (adJ.2 f),if_neg (adJ.2 g)]
variable {x:List UInt8}
def app_1 (h:d.OK):0<=(d.app x).synced:=(Du h).1
def VZ (h:d.OK):(d.app x).synced<=((d.app x).b.length:Int):=(Du h).2.1
def WS (h:d.OK):(d.app x).b.length<=65536:=(Du h).2.2
def MI (h:(l.take k).all recOk=true) (a:l[k]? = some r) (c:(aO r).2=0):(l.take (k+1)).all recOk=true:=acA h a (dA.1 c)
end
def Vw (s:Stable) (l:List Record) (a:Int) (c:Bool) (d:Bool) (e:Int) (f:List UInt8):List (Nat × LI):=[(3,{ σ:=Nat,F:=fun k=>([(0,one (.ptr 0 0)),(2,one (.fz (.nm .record) (l))),(4,one (.ptr 2 0)),(6,one (.ptr 3 0)),(8,one (.own 4)),(20,one (.fz (.nm .record) (l))),(21,one (.int (l).length)),(22,one (.int k))],[.box 147 ([.own 1,.int ((a)),.bool (.atom ((c))),.bool (.atom ((d))),.int ((e))]),.row 5 .u8 ((f)),.box 64 (cellsOf (.nm .stable) (s)),.box 64 (cellsOf (.nm .stable) (sta0)),.row 5 .u8 ((encL (l.take k)))]),J:=fun k=>k<=l.length/\(l.take k).all recOk=true,μ:=fun k=>(l).length - k }),(15,{ σ:=Nat,F:=fun k=>([(0,one (.ptr 0 0)),(2,one (.fz (.nm .record) (l))),(4,one (.ptr 2 0)),(6,one (.ptr 3 0)),(8,one (.own 4)),(14,one (.ptr 5 0)),(52,one (.fz (.nm .record) (l))),(53,one (.int (l).length)),(54,one (.int k))],[.box 147 ([.own 1,.int ((a)),.bool (.atom ((c))),.bool (.atom ((d))),.int ((e))]),.row 5 .u8 ((f)),.box 64 (cellsOf (.nm .stable) (s)),.box 64 (cellsOf (.nm .stable) (sta0)),.row 5 .u8 ((encL l)),.box 64 (cellsOf (.nm .stable) ((stepsF s (l.take k)).1))]),J:=fun k=>k<=l.length/\l.all recOk=true/\(stepsF s (l.take k)).2=0,μ:=fun k=>(l).length - k })]
def Ax:Kn:=aN (ae (kC (aY 0 0)) (ae (kT (.nm .stable)) (ae (kC (cL (.nm .record))) aq))) (aE (dF 147 (aA (fb 1) (aA cI (aA cB (aA cB (aA cI dy)))))) (aE (e_ 5 .u8) ax)) fun (_,s,l,_) ((_,a,d,e,f,_),g,_)=>⟨[(Dsk.mk g a d e f).OK,s.log.length<=10000,l.length<=1000],[.agg (cellsOf (.nm .stable) ((saveF (Dsk.mk g a d e f) s l).2.1)),.c (.int (((saveF (Dsk.mk g a d e f) s l).2.2)))],some ([.box 147 ([.own 1,.int (((saveF (Dsk.mk g a d e f) s l).1.synced)),.bool (.atom (((saveF (Dsk.mk g a d e f) s l).1.down))),.bool (.atom (((saveF (Dsk.mk g a d e f) s l).1.doomed))),.int (((saveF (Dsk.mk g a d e f) s l).1.keep))]),.row 5 .u8 (((saveF (Dsk.mk g a d e f) s l).1.b))]),false⟩
set_option maxRecDepth 8000 in
theorem QS:CK 87 Ax:=ah fun (_,s,l,_) ((_,f,h,i,p,_),g,_) U=>by
 have X:=cd U;have Y:=cd (eY U);have S:=cd (eY (eY U));refine bt FZ (Vw s l f h i p g) Tryz.func87 (?_:(fun (J:Dsk)=>(fun (u:Prop)=>(fun (V:Prop)=>(fun (K:Prop)=>(fun (L:Prop)=>(fun (N:Prop)=>(fun (O:Int)=>(fun (T:Int)=>(fun (B:Nat)=>(fun (t:Int)=>(fun (e:Int)=>(fun (z:Dsk)=>(fun (C:Dsk)=>(fun (W:Dsk × Stable × Int)=>(fun (v:Stable)=>(fun (w:Int)=>(fun (a:Dsk)=>(fun (Q:Prop)=>(fun (F:Prop)=>ck s (l.length*48<=140737488355328->∃ (G:Nat),(u/\u/\O=t/\e=(↑G:Int)/\f=f/\h=h/\i=i/\p=p/\g=g/\aG s s (e=sta0.floor/\e=sta0.term/\e=sta0.vote/\sta0.log=[]/\encL (List.take G l)=[]))/\(G<=B/\(List.take G l).all recOk=true)/\∀ (c:Nat),c<=B/\(List.take c l).all recOk=true->((↑c:Int)<t->e<=(↑c:Int)/\(↑c:Int)<O/\∀ (x:Record),(fun (H:Int)=>(fun (y:List UInt8 × Int)=>l[c]? = some x->dW x ((aO x).fst.length*1<=140737488355328->I64 H->(¬H=e->N->L->K->aG s v (H=w/\F))/\(H=e->y.fst.length*1<=140737488355328->I64 y.snd->(¬y.snd=e->N->L->K->aG s v (y.snd=w/\F))/\(y.snd=e->((encL (List.take c l)).length+y.fst.length)*1<=140737488355328/\I64 ((↑c:Int)+1)/\∃ (D:Nat),(u/\u/\t=t/\(↑c:Int)+1=(↑D:Int)/\f=f/\h=h/\i=i/\p=p/\g=g/\aG s s (aG sta0 sta0 (encL (List.take c l)++y.fst=encL (List.take D l))))/\(D <= B/\(List.take D l).all recOk=true)/\B - D < B - c)))) (pf (aO x).fst)) (aO x).snd)/\(t<=(↑c:Int)->N->L->K->∃ (G:Nat),(u/\u/\O=t/\e=(↑G:Int)/\f=f/\h=h/\i=i/\p=p/\g=g/\aG s s (aG sta0 sta0 (encL (List.take c l)=encL l/\dV s (stepsF s (List.take G l)).fst)))/\(G<=B/\V/\(stepsF s (List.take G l)).snd=e)/\∀ (q:Nat),(fun (A:Stable)=>q<=B/\V/\(stepsF s (List.take q l)).snd=e->((↑q:Int)<t->e<=(↑q:Int)/\(↑q:Int)<O/\∀ (x:Record),(fun (I:Int)=>l[q]? = some x->dW x (A.log.length<=1000000/\ck (aQ A x).fst (I64 I->(¬I=e->N->L->K->aG s v (I=w/\F))/\(I=e->I64 ((↑q:Int)+1)/\∃ (D:Nat),(u/\u/\t=t/\(↑q:Int)+1=(↑D:Int)/\f=f/\h=h/\i=i/\p=p/\g=g/\aG s s (aG sta0 sta0 (encL l=encL l/\dV (aQ A x).fst (stepsF s (List.take D l)).fst)))/\(D <= B/\V/\(stepsF s (List.take D l)).snd=e)/\B - D < B - q)))) (aQ A x).snd)/\(t<=(↑q:Int)->(O=e->aG A v (e=w/\F))/\(¬O=e->(e<=f/\f<=(↑g.length:Int)/\g.length<=65536)/\(I64 T->(¬T=e->N->L->K->aG s v (T=w/\z.synced=a.synced/\z.down=a.down/\z.doomed=a.doomed/\z.keep=a.keep/\z.b=a.b))/\(T=e->(e<=z.synced/\z.synced<=(↑z.b.length:Int)/\z.b.length<=65536)/\(I64 z.fH->(¬z.fH=e->N->L->K->aG s v (z.fH=w/\Q))/\(z.fH=e->aG A v (e=w/\Q)))))))) (stepsF s (List.take q l)).fst))) (f=a.synced/\h=a.down/\i=a.doomed/\p=a.keep/\g=a.b)) (C.synced=a.synced/\C.down=a.down/\C.doomed=a.doomed/\C.keep=a.keep/\C.b=a.b)) W.fst) W.snd.snd) W.snd.fst) (saveF J s l)) z.sync) (J.app (encL l))) 0) (↑B:Int)) l.length) (J.jT (encL l))) (↑l.length:Int)) (I64 s.floor)) (I64 s.term)) (I64 s.vote)) (l.all recOk=true)) (l=l)) (Dsk.mk g f h i p))
 have P:=X;obtain ⟨Z,j,m⟩:=X;dsimp only at Z j m;(repeat' with_reducible first|apply bh|refine bg ?_|intro)
 all_goals try (refine ⟨0,?_⟩; (repeat' with_reducible first|apply bh|refine bg ?_|intro))
 all_goals try (first | (refine ⟨‹Nat› + 1,?_⟩; (repeat' with_reducible first|apply bh|refine bg ?_|intro) <;> (first | exact br | (with_reducible exact ac7 ab ab) | (with_reducible exact MI ab ab ab) | (with_reducible exact WR S ab ab) | (with_reducible exact afq ab ab) | (with_reducible exact aeu ab) | (with_reducible exact ad9 Y S) | (with_reducible exact aeh ab ab) | (with_reducible exact (uA ab ab ab).1) | (with_reducible exact app_1 P) | (with_reducible exact VZ P) | (with_reducible exact WS P) | (with_reducible exact (congrArg Stable.floor (uA ab ab ab).2).symm) | (with_reducible exact (congrArg Stable.term (uA ab ab ab).2).symm) | (with_reducible exact (congrArg Stable.vote (uA ab ab ab).2).symm) | (with_reducible exact (congrArg Stable.log (uA ab ab ab).2).symm) | (rw [aff (d:=Dsk.mk g f h i p) ab ab] <;> rfl) | (rw [adW (d:=Dsk.mk g f h i p) ab ab ab ab] <;> rfl) | (rw [acf (d:=Dsk.mk g f h i p) ab ab ab ab ab] <;> rfl) | (rw [aen (d:=Dsk.mk g f h i p) ab ab ab ab ab ab] <;> rfl) | (rw [ac3 (d:=Dsk.mk g f h i p) ab ab ab ab ab ab] <;> rfl) | (rw [afj (d:=Dsk.mk g f h i p) (k:=‹Nat›) ab] <;> rfl) | exact rfl); done) | (refine ⟨0,?_⟩; (repeat' with_reducible first|apply bh|refine bg ?_|intro)))
 all_goals try (refine ⟨‹Nat› + 1,?_⟩; (repeat' with_reducible first|apply bh|refine bg ?_|intro))
 all_goals (first | exact br | (with_reducible exact ac7 ab ab) | (with_reducible exact MI ab ab ab) | (with_reducible exact WR S ab ab) | (with_reducible exact afq ab ab) | (with_reducible exact aeu ab) | (with_reducible exact ad9 Y S) | (with_reducible exact aeh ab ab) | (with_reducible exact (uA ab ab ab).1) | (with_reducible exact app_1 P) | (with_reducible exact VZ P) | (with_reducible exact WS P) | (with_reducible exact (congrArg Stable.floor (uA ab ab ab).2).symm) | (with_reducible exact (congrArg Stable.term (uA ab ab ab).2).symm) | (with_reducible exact (congrArg Stable.vote (uA ab ab ab).2).symm) | (with_reducible exact (congrArg Stable.log (uA ab ab ab).2).symm) | (rw [aff (d:=Dsk.mk g f h i p) ab ab] <;> rfl) | (rw [adW (d:=Dsk.mk g f h i p) ab ab ab ab] <;> rfl) | (rw [acf (d:=Dsk.mk g f h i p) ab ab ab ab ab] <;> rfl) | (rw [aen (d:=Dsk.mk g f h i p) ab ab ab ab ab ab] <;> rfl) | (rw [ac3 (d:=Dsk.mk g f h i p) ab ab ab ab ab ab] <;> rfl) | (rw [afj (d:=Dsk.mk g f h i p) (k:=‹Nat›) ab] <;> rfl) | exact rfl)
def afo:bM:=(aP 87 Ax adr)
def l_:aB Tryz.prog (al tyT) afo:=(ag QS FZ)
variable {l:List Entry}
def aeZ {x:Entry} (h:l[k]? = some x):l.take k++[x]=l.take (k+1):=(ai h).symm
def adj (h:(l.length:Int)<=k):l.take k=l:=List.take_of_length_le aL
def JG (l:List Entry):List (Nat × LI):=[(3,{ σ:=Nat,F:=fun k=>([(3,one (.own 0)),(6,one (.fz (.nm .entry) (l))),(7,one (.int (l).length)),(8,one (.int k))],[.row 52 (.nm .entry) ((l.take k))]),J:=fun k=>k<=l.length,μ:=fun k=>(l).length - k })]
def yw:Kn:=aN aq ax fun _ _=>⟨[],[.agg (cellsOf (.nm .state) (State.mk 1 1 0 0 [] [] []))],none,false⟩
def L_:CK 46 yw:=ah fun _ _ _=>by
 refine aw l_ [] Tryz.func46 (?_:(1:Int)=1/\(1:Int)=1/\(0:Int)=0/\(0:Int)=0 /\ @Eq (List (den (Sh.nm NT.sess))) [] [] /\ @Eq (List (den (Sh.nm NT.opn))) [] [] /\ @Eq (List (den (Sh.nm NT.snap))) [] []);exact ⟨rfl,rfl,rfl,rfl,rfl,rfl,rfl⟩
def vF:Kn:=aN (ae (kC (aY 0 0)) (ae (kC cI) (ae (kC cI) aq))) sU fun (_,kd,a,_) n=>⟨[],[.agg (cellsOf (.nm .letter) (nQ n.c kd a))],none,false⟩
def HM:CK 51 vF:=ah fun (_,kd,e,_) n _=>by
 refine aw l_ [] Tryz.func51 (?_:(fun d=>I64 kd->I64 e->kd=d.kind/\n.c.me=d.frm/\e=d.to/\n.c.st.term=d.term/\0=d.a/\0=d.b/\0=d.c/\n.c.bin=d.bin/\false=d.ok/\d.l=[]) (nQ n.c kd e));(repeat' with_reducible first|apply bh|refine bg ?_|intro)
 all_goals first | exact br | rfl
def rC:Kn:=aN (ae (kC (cL (.nm .entry))) aq) ax fun (l,_) _=>⟨[],[.c (.fz (.nm .entry) ((l)))],none,false⟩
theorem Dg:CK 60 rC:=ah fun (l,_) _ _=>by
 refine aw l_ (JG l) Tryz.func60 (?_:(fun (a:Nat)=>l.length*32<=140737488355328->∃ (d:Nat),(l=l/\(↑l.length:Int)=(↑a:Int)/\0=(↑d:Int)/\List.take d l=[])/\d<=a/\∀ (s:Nat),s<=a->((↑s:Int)<(↑a:Int)->0<=(↑s:Int)/\(↑s:Int)<(↑l.length:Int)/\∀ (x:Entry),(fun (e:Prop)=>l[s]? = some x->I64 x.term->e->(e->((List.take s l).length+[x].length)*32<=140737488355328)/\(e->I64 ((↑s:Int)+1)/\∃ (c:Nat),(l=l/\(↑a:Int)=(↑a:Int)/\(↑s:Int)+1=(↑c:Int)/\List.take s l++[x]=List.take c l)/\c <= a/\a - c < a - s)) (x.b.length*1<=140737488355328))/\((↑a:Int)<=(↑s:Int)->List.take s l=l)) l.length);iterate 3 ((all_goals (repeat' with_reducible first|apply bh|refine bg ?_|intro)); (all_goals try (first | exact br | exact rfl | exact (aeZ ab) | exact (adj ab) | (simp only [List.length_take,List.length_cons,List.length_nil]; omega))); all_goals try first | refine ⟨‹Nat› + 1,?_⟩ | refine ⟨0,?_⟩)
def EO:Kn:=aN (ae (kC (aY 0 0)) (ae (kC cI) aq)) sU fun (_,k,_) n=>⟨[],[],some ((mC ({ n with d:=⟨n.d.b,n.d.synced,n.d.down,true,k⟩ }))),false⟩
def Tc:CK 62 EO:=ah fun (_,k,_) n _=>by
 refine bt l_ [] Tryz.func62 (?_:I64 k->n.c.me=n.c.me/\n.c.many=n.c.many/\n.c.bin=n.c.bin/\aG n.c.st n.c.st (n.c.role=n.c.role/\n.c.commit=n.c.commit/\n.c.applied=n.c.applied/\bE n.c.s n.c.s (n.d.synced=n.d.synced/\n.d.down=n.d.down/\true=true/\k=k/\n.d.b=n.d.b/\n.rp=n.rp/\n.vs=n.vs/\n.bn=n.bn/\n.nx=n.nx/\n.mt=n.mt)));(repeat' with_reducible first|apply bh|refine bg ?_|intro)
 all_goals first | exact br | rfl
def BI:Kn:=aN (ae (kC (aY 0 0)) (ae (kC cI) aq)) sU fun (_,k,_) n=>⟨[n.d.OK],[],some ((mC ({ n with d:=n.d.cF k }))),false⟩
def Nf:CK 30 BI:=ah fun (_,k,_) n e=>by
 have f:=cd e;refine bt l_ [] Tryz.func30 (?_:(fun a=>I64 k->(0<=n.d.synced/\n.d.synced<=(↑n.d.b.length:Int)/\n.d.b.length<=65536)/\n.c.me=n.c.me/\n.c.many=n.c.many/\n.c.bin=n.c.bin/\aG n.c.st n.c.st (n.c.role=n.c.role/\n.c.commit=n.c.commit/\n.c.applied=n.c.applied/\bE n.c.s n.c.s (a.synced=a.synced/\a.down=a.down/\a.doomed=a.doomed/\a.keep=a.keep/\a.b=a.b/\n.rp=n.rp/\n.vs=n.vs/\n.bn=n.bn/\n.nx=n.nx/\n.mt=n.mt))) (n.d.cF k));obtain ⟨g,h,i⟩:=id f;(repeat' with_reducible first|apply bh|refine bg ?_|intro)
 all_goals first | exact br | rfl
def Xg:bM:=(aP 30 BI (aP 62 EO (aP 60 rC (aP 51 vF (aP 46 yw afo)))))
def n_:aB Tryz.prog (al tyT) Xg:=(ag Nf (ag Tc (ag Dg (ag HM (ag L_ l_)))))
variable {n:NdC}
def acP (h:¬ (k:Int)=n.me):jO n k++[(k:Int)]=jO n (k+1):=by
 simp [jO,List.range_succ,h]
def aet (h:(k:Int)=n.me):jO n k=jO n (k+1):=by
 simp [jO,List.range_succ,h]
def ae1 (a:k<=n.many.toNat) (h:n.many<=k):jO n k=cM n:=by
 unfold cM; congr 1; omega
def qV:(jO n k).length<=k:=by
 unfold jO;refine Nat.le_trans (List.length_filter_le _ _) ?_;simp
def Pv (n:Nd):List (Nat × LI):=[(3,{ σ:=Nat,F:=fun k=>([(0,one (.ptr 0 0)),(3,one (.own 8)),(8,one (.int n.c.many)),(9,one (.int k))],(mC (n)++[.row 3 .int ((jO n.c k))])),J:=fun k=>k<=n.c.many.toNat,μ:=fun k=>n.c.many.toNat - k })]
def vC:Kn:=aN (ae (kC (cL .int)) aq) ax fun (l,_) _=>⟨[],[.c (.own 0)],some ([.row 3 .int ((l))]),true⟩
def vV:CK 75 vC:=ah fun (l,_) _ _=>by
 refine dw n_ [] Tryz.func75 (?_:(fun a=>a->∀ (b:Bool),(b=true->l=[])->(b=true->l=[])/\(b=false->a/\l=l)) (l.length*8<=140737488355328));exact fun h b c=>⟨c,fun _=>⟨h,rfl⟩⟩
def Hw (l:List Int):Sat Tryz.prog (al tyT) 75 [.c (.fz .int (l))] [] ⟨[],[.c (.own 0)],some ([.row 3 .int ((l))]),true⟩:=vV _ _ _ rfl aa
def Pz:Kn:=aN (ae (kT (.nm .letter)) aq) ax fun (x,_) _=>⟨[],[.agg (cellsOf (.nm .letter) (x))],none,false⟩
def abM:CK 59 Pz:=ah fun (x,_) _ _=>by
 refine aw n_ [] Tryz.func59 (?_:aK x (x.l.length*32<=140737488355328->As x x));(repeat' with_reducible first|apply bh|refine bg ?_|intro)
 all_goals first | exact br | rfl
def vj:Kn:=aN (ae (kC (aY 0 0)) aq) sU fun _ n=>⟨[n.c.many<=5],[.c (.fz .int ((cM n.c)))],none,false⟩
theorem HS:CK 50 vj:=ah fun _ n h=>by
 have i:=cd h;refine aw n_ (Pv n) Tryz.func50 (?_:(fun (a:Int)=>(fun (e:Nat)=>∃ (g:Nat),(a=a/\0=(↑g:Int)/\Qu n n (jO n.c g=[]))/\g<=e/\∀ (s:Nat),(fun (f:Int)=>s<=e->((↑s:Int)<a->(¬(↑s:Int)=n.c.me->((jO n.c s).length+[(↑s:Int)].length)*8<=140737488355328/\I64 f/\∃ (d:Nat),(a=a/\f=(↑d:Int)/\Qu n n (jO n.c s++[(↑s:Int)]=jO n.c d))/\d <= e/\e - d < e - s)/\((↑s:Int)=n.c.me->I64 f/\∃ (d:Nat),(a=a/\f=(↑d:Int)/\Qu n n (jO n.c s=jO n.c d))/\d <= e/\e - d < e - s))/\(a<=(↑s:Int)->jO n.c s=cM n.c)) ((↑s:Int)+1)) a.toNat) n.c.many);iterate 3 ((all_goals (repeat' with_reducible first|apply bh|refine bg ?_|intro)); (all_goals try (first | exact br | exact rfl | exact (acP ab) | exact (aet ab) | exact (ae1 ab ab) | (have:=qV (n:=n.c) (k:=‹Nat›); simp only [List.length_cons,List.length_nil]; omega))); all_goals try first | refine ⟨‹Nat› + 1,?_⟩ | refine ⟨0,?_⟩)
def VY:bM:=(aP 50 vj (aP 59 Pz (aP 75 vC Xg)))
def NF:aB Tryz.prog (al tyT) VY:=(ag HS (ag abM (ag vV n_)))
end Go.Proofs.YticbaadnibdbkaaGreat
namespace Go.Proofs.YticbaadnibdbkaaGreat
open Go.RowKit Go.Proofs Go.Shelf Go.Sort
def xS (w a:World) (l:List Int) (g:Nat) (b:List Value):Prop:=Kp [] w a/\w.heap.size<=g/\a.heap[g]? = some (.cells (List.toArray (l.map (Value.int .i64)++b)) 3 (0,0))
variable {w:World} {l:List Int}
theorem CU {G:Gl} {f:List RE} {v:Value} (u:G.shp=al tyT) (q:Rep G f [] w) (x:Rd (cx G f w) f (.fz .int l) v) (H:l.length≠0) :
  jN Tryz.prog 75 #[v] w fun r s=>∃ g c k,r = .slice (some ⟨g,0,none⟩) l.length c/\xS w s l g k:=by
 have m:f=[]:=ab_ q.obj.length.symm;subst m;refine ((Hw l).2 G [] w [v] u q (.cons x .nil)).mono fun r s ⟨I,e,y,n,z,t,o,A⟩=>?_;have B:getO [AO.row 3 .int l] 0 = .row 3 .int l:=rfl;cases o with | cons a b=>?_
 cases b;rcases bA n B with ⟨_,j⟩ | ⟨g,c,p,k,j,C,D,J,K,F⟩
 ·grind
 rcases a with ⟨_,_,_,_,d,rfl⟩ | ⟨d,_⟩;case inr=>rw [j] at d; cases d
 rw [j] at d; cases d;obtain ⟨rfl,L⟩:=m_ D;refine ⟨g,c,k,e,(A rfl).1,?_,C⟩;rcases Nat.lt_or_ge g w.heap.size with h | h
 ·exact absurd ⟨0,_,j,rfl⟩ (z.old g h (fun ⟨i,r,h,_⟩=>by simp at h)).1
 exact h
variable {w1:World} {sp:List Value}
def Dz {g d:Nat} (h:xS w w1 l g sp) (j:l.length<=12) :
  Calls Tryz.prog 265 #[.slice (some ⟨g,0,none⟩) l.length d,.func (.func 266) #[] #[]] w1 fun e f=>e = .returned (.tuple #[])/\xS w f (ng l) g sp:=by
 obtain ⟨c,k,m⟩:=h;refine (ML j m).mono fun e f ⟨n,a,o⟩=>⟨n,⟨a.os.trans c.os,a.tape.trans c.tape,a.output.trans c.output,Nat.le_trans c.size a.size,fun b i p=>?_⟩,k,o⟩;exact (a.block b (aca i c.size) (by simp; omega)).trans (c.block b i p)
def De {g i:Nat} (h:xS w w1 l g sp) (a:i<l.length):w1.cell? ⟨g,i,none⟩=some (.int .i64 (l.getD i 0)):=by
 rw [Lib.cell_of_heap h.2.2,List.getElem?_toArray,List.getElem?_append_left (by simpa using a),List.getElem?_map,List.getElem?_eq_getElem a,List.getD_eq_getElem?_getD,List.getElem?_eq_getElem a]; rfl
def HP (l:List Int) (s:l.length<=12):Sat Tryz.prog (al tyT) 228 [.c (.fz .int l)] [] ⟨[l.length<=12],[.c (.int (gJ l))],none,false⟩:=by
 refine ⟨⟨_,Tryz.func228,am,by kernel_rfl⟩,fun G n w B t u d=>?_⟩;cases d with | cons j d=>?_
 cases d;have m:=CU (l:=l) t u j;replace j:Pd (cx G n w) (.fz .int l) _:=j;cases j with | fz C D F v H=>?_
 rename_i a k o;have x:=(m_ v).2;by_cases p:l.length=0
 ·clear m;go_enter Tryz.func228,Tryz.ntmps228
  have q:(l.length:Int)=0:=by omega
  go_wp2
  go_ret
  refine ⟨_,rfl,[_],rfl,?_,?_⟩
  ·exact Kp.refl w
  refine .cons ?_ .nil;have e:gJ l=0:=if_pos p;show Pd (cx G n w) (.int (gJ l)) (.int .i64 0);rw [e]; exact .int ⟨am,am⟩
 replace m:=m p;go_enter Tryz.func228,Tryz.ntmps228
 have q:¬ (l.length:Int)=0:=by omega
 have I:(l.length:Int).tdiv 2=((l.length / 2:Nat):Int):=by rw [Int.tdiv_eq_ediv_of_nonneg aL]; omega
 have J:0<=(l.length:Int).tdiv 2:=by omega
 have K:(l.length:Int).tdiv 2<(l.length:Int):=by omega
 have L:I64 ((l.length:Int).tdiv 2):=bZ aL aL;go_wp2_with (first | (go_at_call 75; refine aj7 m ?_; rintro e w1 ⟨_,rfl,g,y,sp,rfl,r⟩) | (go_at_call 265; refine aj7 (Dz r s) ?_; rintro e z ⟨rfl,f⟩; have A:=De (i:=l.length / 2) f (by rw [oZ]; omega)))
 go_ret
 refine ⟨_,rfl,[_],rfl,f.1,.cons ?_ .nil⟩;have e:gJ l=(ng l).getD (l.length / 2) 0:=if_neg p;show Pd (cx G n z) (.int (gJ l)) (.int .i64 ((ng l).getD (l.length / 2) 0));rw [e];refine .int (x _ ((List.mergeSort_perm l (fun a b=>decide (b<=a))).mem_iff.1 (show _ ∈ ng l from ?_)));have h:l.length / 2<(ng l).length:=by rw [oZ]; omega
 rw [List.getD_eq_getElem?_getD,List.getElem?_eq_getElem h];exact afK h
end Go.Proofs.YticbaadnibdbkaaGreat
namespace Go.Proofs.YticbaadnibdbkaaGreat
open Go.RowKit
def Le (l:List Int) (a:l.length<=12):Sat Tryz.prog (al tyT) 228 [.c (.fz .int (l))] [] ⟨[l.length<=12],[.c (.int ((gJ l)))],none,false⟩:=HP l a
def BG:Kn:=aN (ae (kC (cL .int)) aq) ax fun (l,_) _=>⟨[l.length<=12],[.c (.int ((gJ l)))],none,false⟩
def Rb:CK 228 BG:=ah fun (l,_) _ a=>Le l (cd a)
def XU:bM:=(aP 228 BG VY)
def rz:aB Tryz.prog (al tyT) XU:=(ag Rb NF)
def gy {d:Dsk} {s:Stable} {l:List Record} (h:¬ (saveF d s l).2.2=0):(saveF d s l).2.1=s:=by
 revert h;unfold saveF;repeat' split
 all_goals first | (intro _; rfl) | (intro h; exact absurd rfl h)
def vS:Kn:=aN (ae (kT (.nm .stable)) (ae (kC (cL .int)) (ae (kC cI) aq))) ax fun (s,l,k,_) _=>⟨[l.length<=12],[.c (.int ((iN s l k)))],none,false⟩
def Ik:CK 173 vS:=ah fun (s,l,k,_) _ b=>by
 have c:=cd b;refine aw rz [] Tryz.func173 (?_:(fun a=>ck s (l.length*8<=140737488355328->I64 k->l.length<=12/\(I64 (gJ l)->(k<a->I64 (cf s.log a))->(k<a/\cf s.log a=s.term->a=iN s l k)/\(a<=k\/¬cf s.log a=s.term->k=iN s l k)))) (min (gJ l) (↑s.log.length:Int)));(repeat' with_reducible first|apply bh|refine bg ?_|intro)
 all_goals (first | exact br | (rw [iN,if_pos ⟨ab,ab⟩]) | (rw [iN,if_neg aL]))
def EY:Kn:=aN (ae (kC (aY 0 0)) (ae (kC (cL (.nm .record))) aq)) sU fun (_,l,_) n=>⟨[n.d.OK,n.c.st.log.length<=10000,l.length<=1000],[.c (.int ((n.aJ l)))],some ((mC ((n.save l)))),false⟩
def RQ:CK 47 EY:=ah fun (_,l,_) n e=>by
 have f:=cd e;have g:=cd (eY e);have h:=cd (eY (eY e));refine bt rz [] Tryz.func47 (?_:(fun a=>l.length*48<=140737488355328->((0<=n.d.synced/\n.d.synced<=(↑n.d.b.length:Int)/\n.d.b.length<=65536)/\n.c.st.log.length<=10000/\l.length<=1000)/\ck a.snd.fst (I64 a.snd.snd->(¬a.snd.snd=0->a.snd.snd=n.aJ l/\bV (Nd.mk n.c a.fst n.rp n.vs n.bn n.nx n.mt) (n.save l))/\(a.snd.snd=0->0=n.aJ l/\bV (Nd.mk (NdC.mk n.c.me n.c.many n.c.bin a.snd.fst n.c.role n.c.commit n.c.applied n.c.s) a.fst n.rp n.vs n.bn n.nx n.mt) (n.save l)))) (saveF n.d n.c.st l));obtain ⟨i,j,k⟩:=id f;(repeat' with_reducible first|apply bh|refine bg ?_|intro)
 all_goals (first | exact br | exact rfl | exact (Eq.symm ab) | exact (congrArg Stable.floor (gy ab)).symm | exact (congrArg Stable.term (gy ab)).symm | exact (congrArg Stable.vote (gy ab)).symm | exact (congrArg Stable.log (gy ab)).symm)
def Wf:bM:=(aP 47 EY (aP 173 vS XU))
def lC:aB Tryz.prog (al tyT) Wf:=(ag RQ (ag Ik rz))
structure AJ (n q:Nd):Prop where
 eq:n.apply=q.apply
 le:0<=q.c.applied/\q.c.commit<=(q.c.st.log.length:Int)/\(q.rp.length:Int)<=q.c.applied/\q.c.st.log.length<=10000
def Nd.ap1 (q:Nd):Nd:={ q with c:={ q.c with s:=plS q.c.bin q.c.s ((q.c.st.log.drop q.c.applied.toNat).take ((q.c.applied+1).toNat - q.c.applied.toNat)),applied:=q.c.applied+1 },rp:=q.rp++plR q.c.bin q.c.s ((q.c.st.log.drop q.c.applied.toNat).take ((q.c.applied+1).toNat - q.c.applied.toNat)) }
section
variable {n q:Nd}
def ajI (h:(0<=n.c.applied/\n.c.commit<=(n.c.st.log.length:Int))/\(n.rp.length:Int)<=n.c.applied/\n.c.st.log.length<=10000):AJ n n:=⟨rfl,aL⟩
def TD (h:AJ n q):(q.c.applied+1).toNat - q.c.applied.toNat=1:=by have:=h.le; omega
def KU (h:AJ n q):(plR q.c.bin q.c.s ((q.c.st.log.drop q.c.applied.toNat).take ((q.c.applied+1).toNat - q.c.applied.toNat))).length<=1:=by
 rw [TD h,plR,DE,List.length_take,List.length_take]; omega
theorem aiO (h:AJ n q) (d:q.c.applied<q.c.commit) (a:pE q.c.bin ((q.c.st.log.drop q.c.applied.toNat).take ((q.c.applied+1).toNat - q.c.applied.toNat))=0):AJ n q.ap1:=by
 have b:=h.le;have e:=KU h;refine ⟨?_,?_,b.2.1,?_,b.2.2.2⟩
 ·rw [h.eq,Nd.apply,show (q.c.commit - q.c.applied).toNat=(q.c.commit - (q.c.applied+1)).toNat+1 by omega,Nd.bw,if_pos d];rw [TD h] at a;rw [if_pos a,Nd.apply,Nd.ap1,TD h]
 ·show 0<=q.c.applied+1;omega
 show (((q.rp++_).length:Nat):Int)<=q.c.applied+1;grind
def agM (a:q.c.applied<q.c.commit):(q.c.commit - (q.c.applied+1)).toNat<(q.c.commit - q.c.applied).toNat:=by omega
def ahg (h:AJ n q) (b:q.c.applied<q.c.commit) (a:¬ pE q.c.bin ((q.c.st.log.drop q.c.applied.toNat).take ((q.c.applied+1).toNat - q.c.applied.toNat))=0):n.apply=q:=by
 rw [TD h] at a;rw [h.eq,Nd.apply,show (q.c.commit - q.c.applied).toNat=(q.c.commit - (q.c.applied+1)).toNat+1 by omega,Nd.bw,if_pos b,if_neg a]
def afS (h:AJ n q) (a:q.c.commit<=q.c.applied):n.apply=q:=by
 rw [h.eq,Nd.apply,show (q.c.commit - q.c.applied).toNat=0 by omega,Nd.bw]
def ag3 (h:AJ n q):0<=q.c.applied:=h.le.1
def ah7 (h:AJ n q) (a:q.c.applied<q.c.commit):q.c.applied+1<=(q.c.st.log.length:Int):=by have:=h.le; omega
def ajm (h:AJ n q) (a:q.c.applied<q.c.commit):I64 (q.c.applied+1):=by have:=h.le; exact bZ aL aL
def aix (h:AJ n q) (a:q.c.applied<q.c.commit):(q.rp.length+(plR q.c.bin q.c.s ((q.c.st.log.drop q.c.applied.toNat).take ((q.c.applied+1).toNat - q.c.applied.toNat))).length)*16<=140737488355328:=by
 have:=h.le; have:=KU h; omega
end
def siteF (n:Nd):Site:=if n.d.down=true then ⟨false,0,0,0,0,0,0,0,[],⟨0,0,0,0,[],[],[]⟩⟩ else ⟨true,n.c.role,n.c.bin,n.c.st.floor,n.c.st.term,n.c.st.vote,n.c.commit,n.c.applied,n.c.st.log,n.c.s⟩
variable {n:Nd}
def aaZ (h:n.d.down=true):siteF n=⟨false,0,0,0,0,0,0,0,[],⟨0,0,0,0,[],[],[]⟩⟩:=if_pos h
def aa9 (h:n.d.down=false):siteF n=⟨true,n.c.role,n.c.bin,n.c.st.floor,n.c.st.term,n.c.st.vote,n.c.commit,n.c.applied,n.c.st.log,n.c.s⟩:=if_neg (by rw [h]; decide)
theorem kE {s:Stable} {r:Route} (h:¬ (fT s r).2=0):(fT s r).1=cH:=by
 revert h;unfold fT;grind
section
variable {n:Nd} {k t:Int}
end
def Vb (n:Nd):List (Nat × LI):=[(0,{ σ:=Nd,F:=fun q=>([(0,one (.ptr 0 0))],(mC (q))),J:=fun q=>AJ n q,μ:=fun q=>(q.c.commit - q.c.applied).toNat })]
def v_:Kn:=aN (ae (kC (aY 0 0)) (ae (kC cI) aq)) sU fun (_,k,_) n=>⟨[0<=k/\k<(n.nx.length:Int)],[.agg (cellsOf (.nm .letter) ((iW n k).1)),.c (.int (((iW n k).2)))],none,false⟩
def Ja:CK 71 v_:=ah fun (_,k,_) n g=>by
 have h:=cd g;refine aw lC [] Tryz.func71 (?_:(fun d=>(fun e=>(fun f=>I64 k->(d<=k/\k<(↑n.nx.length:Int))/\(I64 (n.nx.getD k.toNat (ak Sh.int))->aK f.fst (I64 f.snd->(¬f.snd=d->d=e.kind/\d=e.frm/\d=e.to/\d=e.term/\d=e.a/\d=e.b/\d=e.c/\d=e.bin/\false=e.ok/\e.l=[]/\f.snd=(iW n k).snd)/\(f.snd=d->aK f.fst (fM f.fst e (d=(iW n k).snd)))))) (fT n.c.st (Route.mk n.c.me k (n.nx.getD k.toNat (ak Sh.int)) n.c.commit n.c.bin))) (iW n k).fst) (0:Int));(repeat' with_reducible first|apply bh|refine bg ?_|intro)
 all_goals (first | exact br | exact rfl | exact (congrArg Letter.kind (kE ap)).symm | exact (congrArg Letter.frm (kE ap)).symm | exact (congrArg Letter.to (kE ap)).symm | exact (congrArg Letter.term (kE ap)).symm | exact (congrArg Letter.a (kE ap)).symm | exact (congrArg Letter.b (kE ap)).symm | exact (congrArg Letter.c (kE ap)).symm | exact (congrArg Letter.bin (kE ap)).symm | exact (congrArg Letter.ok (kE ap)).symm | exact (congrArg Letter.l (kE ap)).symm | exact (Eq.symm ap) | exact (congrArg Letter.l (kE ap)))
def Fa:Kn:=aN (ae (kC (aY 0 0)) aq) sU fun _ n=>⟨[],[.agg (cellsOf (.nm .site) (siteF n))],none,false⟩
def Ua:CK 17 Fa:=ah fun _ n _=>by
 refine aw lC [] Tryz.func17 (?_:(fun a=>(fun b=>(fun e=>(n.d.down=true->false=b.up/\a=b.role/\a=b.binary/\a=b.floor/\a=b.term/\a=b.vote/\a=b.commit/\a=b.applied/\b.log=[]/\a=e.version/\a=e.next/\a=e.keep/\a=e.quota/\e.sess=[]/\e.opens=[]/\e.snaps=[])/\(n.d.down=false->n.c.st.log.length*32<=140737488355328->I64 n.c.s.version->I64 n.c.s.next->I64 n.c.s.keep->I64 n.c.s.quota->aaz (Site.mk true n.c.role n.c.bin n.c.st.floor n.c.st.term n.c.st.vote n.c.commit n.c.applied n.c.st.log n.c.s) b)) b.state) (siteF n)) (0:Int));(repeat' with_reducible first|apply bh|refine bg ?_|intro)
 all_goals (first | exact br | (rw [aaZ (n:=n) ab] <;> rfl) | (rw [aa9 (n:=n) ab] <;> rfl))
def FF:Kn:=aN (ae (kC (aY 0 0)) aq) sU fun _ n=>⟨[n.d.OK],[.c (.fz .u8 ((n.d.b)))],none,false⟩
def Tg:CK 20 FF:=ah fun _ n a=>by
 have c:=cd a;refine aw lC [] Tryz.func20 (?_:(0<=n.d.synced/\n.d.synced<=(↑n.d.b.length:Int)/\n.d.b.length<=65536)/\n.d.b=n.d.b);obtain ⟨e,f,g⟩:=id c;(repeat' with_reducible first|apply bh|refine bg ?_|intro)
 all_goals (first | exact br | exact rfl)
def Ai:Kn:=aN (ae (kC (aY 0 0)) aq) sU fun _ n=>⟨[(0<=n.c.applied/\n.c.commit<=(n.c.st.log.length:Int))/\(n.rp.length:Int)<=n.c.applied/\n.c.st.log.length<=10000],[],some ((mC ((n.apply)))),false⟩
theorem Ko:CK 99 Ai:=ah fun _ n l=>by
 have j:=cd l;refine bt lC (Vb n) Tryz.func99 (?_:(fun m=>∃ k,bV n k/\AJ n k/\∀ (s:Nd),(fun a=>(fun e=>(fun b=>(fun f=>(fun g=>(fun h=>AJ n s->(b<a.commit->I64 f/\(0<=b/\b<=f/\f<=(↑a.st.log.length:Int))/\(I64 h.version->I64 h.next->I64 h.keep->I64 h.quota->I64 (pE e g)->(¬pE e g=0->bV s n.apply)/\(pE e g=0->(s.rp.length+(plR e a.s g).length)*16<=140737488355328/\I64 f/\∃ i,bV (Nd.mk (NdC.mk a.me a.many e a.st a.role a.commit f h) s.d (s.rp++plR e a.s g) s.vs s.bn s.nx s.mt) i /\ AJ n i /\ (i.c.commit - i.c.applied).toNat<(a.commit - b).toNat)))/\(a.commit<=b->bV s n.apply)) (plS e a.s g)) (List.take (f.toNat - b.toNat) (List.drop b.toNat a.st.log))) (b+m)) a.applied) a.bin) s.c) (1:Int));obtain ⟨o,p⟩:=id j;(repeat' with_reducible first|apply bh|refine bg ?_|intro)
 all_goals try ( refine ⟨n,?_⟩; (repeat' with_reducible first|apply bh|refine bg ?_|intro))
 all_goals try ( refine ⟨(‹Nd›).ap1,?_⟩; (repeat' with_reducible first|apply bh|refine bg ?_|intro))
 all_goals (first | exact br | exact rfl | exact (ajI (n:=n) j) | exact ag3 ab | exact (ah7 ab ab) | exact (ajm ab ab) | exact (aix ab ab) | exact (agM ab) | exact (aiO ab ab ab) | (rw [ahg ab ab ab] <;> rfl) | (rw [afS ab ab] <;> rfl))
def XN:bM:=(aP 99 Ai (aP 20 FF (aP 17 Fa (aP 71 v_ Wf))))
def oq:aB Tryz.prog (al tyT) XN:=(ag Ko (ag Tg (ag Ua (ag Ja lC))))
section
variable {n:Nd} {l:List Int} {x:Int} {k:Nat}
theorem Zn:∀ {l:List Int},(cc n l).2=0->cc n (l++[x])=if (iW n x).2=0 then ((cc n l).1++[(iW n x).1],0) else ([],(iW n x).2)
 | [],_=>by
  by_cases h:(iW n x).2=0
  ·rw [if_pos h]; simp [cc,h]
  rw [if_neg h]; simp [cc,h]
 | t :: l,h=>by
  unfold cc at h;split at h
  ·rename_i a;split at h
   ·rename_i b;rw [List.cons_append,cc,if_pos a,Zn b];by_cases c:(iW n x).2=0
    ·rw [if_pos c,if_pos c,if_pos rfl,cc,if_pos a,if_pos b]; rfl
    grind
   grind
  grind
theorem adU:∀ {l m:List Int},¬ (cc n l).2=0->cc n (l++m)=([],(cc n l).2)
 | t :: l,m,h=>by
  unfold cc at h ⊢;rw [List.cons_append];dsimp only;split at h
  ·rename_i b;split at h
   ·grind
   rename_i a;rw [if_neg a,adU a,if_neg a,if_pos b]
  grind
theorem QK:∀ {l:List Int},(cc n l).1.length<=l.length
 | []=>Nat.le_refl _
 | t :: l=>by
  have:=QK (l:=l);unfold cc;grind
def agf (h:n.d.down=true):bN n=([],30):=if_pos h
def aiY (h:n.d.down=false) (a:¬ n.c.role=2):bN n=([],33):=by
 rw [bN,if_neg (by rw [h]; decide),if_neg a]
def acL (h:n.d.down=false) (a:n.c.role=2):bN n=cc n (cM n.c):=by
 rw [bN,if_neg (by rw [h]; decide),if_pos a]
def ajb (h:n.d.down=false) (f:n.c.role=2) (g:(cc n ((cM n.c).take k)).2=0) (i:(cM n.c)[k]? = some x) (b:¬ (iW n x).2=0):bN n=([],(iW n x).2):=by
 have e:cM n.c=(cM n.c).take k++[x]++(cM n.c).drop (k+1):=by
  rw [<- ai i,List.take_append_drop]
 have a:=Zn (x:=x) g;rw [if_neg b] at a;rw [acL h f,e,adU (by rw [a]; exact b),a]
theorem ajN (h:n.d.down=false) (a:n.c.role=2) (b:(cc n ((cM n.c).take k)).2=0) (e:((cM n.c).length:Int)<=k):bN n=((cc n ((cM n.c).take k)).1,0):=by
 rw [acL h a,List.take_of_length_le aL] at *;grind
def aeP (a:(cc n ((cM n.c).take k)).2=0) (b:(cM n.c)[k]? = some x) (d:(iW n x).2=0):(cc n ((cM n.c).take k)).1++[(iW n x).1]=(cc n ((cM n.c).take (k+1))).1/\(cc n ((cM n.c).take (k+1))).2=0:=by
 rw [ai b,Zn a,if_pos d]; exact ⟨rfl,rfl⟩
theorem aif {y:Letter} (a:n.c.many<=5):((cc n ((cM n.c).take k)).1.length+[y].length)*96<=140737488355328:=by
 have b:=QK (n:=n) (l:=(cM n.c).take k);have d:(cM n.c).length<=n.c.many.toNat:=qV;grind
def XQ {n:NdC} (a:(cM n)[k]? = some x):x≠n.me/\0<=x/\x<n.many:=ya (List.mem_iff_getElem?.2 ⟨k,a⟩)
def ahh (h:n.c.role=0\/(n.nx.length:Int)=n.c.many) (b:n.c.role=2) (a:(cM n.c)[k]? = some x):x<(n.nx.length:Int):=by
 have:=XQ a; omega
end
section
variable {n:Nd} {c:Command}
def mb {b:Bool} (h:b=false):¬ b=true:=by rw [h]; decide
def aio (h:n.d.down=true):cS n c=⟨n,0,0,30⟩:=if_pos h
def aii (h:n.d.down=false) (a:¬ n.c.role=2):cS n c=⟨n,0,0,33⟩:=by rw [cS,if_neg (mb h),if_pos a]
def af7 (h:n.d.down=false) (b:n.c.role=2) (a:¬ bL c n.c.s.version=0):cS n c=⟨n,0,0,bL c n.c.s.version⟩:=by rw [cS,if_neg (mb h),if_neg aL,if_pos a]
variable (h:n.d.down=false) (h1:n.c.role=2) (h2:bL c n.c.s.version=0)
include h h1 h2
def agI (a:c.kind=8) (b:¬ c.n=n.c.s.version+1):cS n c=⟨n,0,0,1⟩:=by rw [cS,if_neg (mb h),if_neg aL,if_neg aL,if_pos ⟨a,b⟩]
def ahw (d:¬ c.kind=8\/c.n=n.c.s.version+1) (a:c.kind=8) (b:kU n.c.s.version n.bn=false):cS n c=⟨n,0,0,34⟩:=by rw [cS,if_neg (mb h),if_neg aL,if_neg aL,if_neg aL,if_pos ⟨a,b⟩]
variable (h3:¬ c.kind=8\/c.n=n.c.s.version+1) (h4:¬ c.kind=8\/kU n.c.s.version n.bn=true)
include h3 h4
theorem Vs:cS n c=if 64<(n.c.st.log.length:Int)+1 then ⟨n,0,0,20⟩ else if ¬ (eA c n.c.st.term n.c.s.version).2=0 then ⟨n,0,0,(eA c n.c.st.term n.c.s.version).2⟩
 else let l:=[⟨3,(n.c.st.log.length:Int)+1,(eA c n.c.st.term n.c.s.version).1.term,(eA c n.c.st.term n.c.s.version).1.b⟩]
  if n.aJ l=0 then ⟨n.save l,(n.c.st.log.length:Int)+1,n.c.st.term,0⟩ else ⟨n.save l,0,0,n.aJ l⟩:=by
 rw [cS,if_neg (mb h),if_neg aL,if_neg aL,if_neg aL,if_neg];grind
def aiK (a:64<(n.c.st.log.length:Int)+1):cS n c=⟨n,0,0,20⟩:=by rw [Vs h h1 h2 h3 h4,if_pos a]
variable (h5:(n.c.st.log.length:Int)+1<=64)
include h5
def agQ (a:¬ (eA c n.c.st.term n.c.s.version).2=0):cS n c=⟨n,0,0,(eA c n.c.st.term n.c.s.version).2⟩:=by rw [Vs h h1 h2 h3 h4,if_neg aL,if_pos a]
def af_ (d:(eA c n.c.st.term n.c.s.version).2=0) (a:¬ n.aJ [⟨3,(n.c.st.log.length:Int)+1,(eA c n.c.st.term n.c.s.version).1.term,(eA c n.c.st.term n.c.s.version).1.b⟩]=0):cS n c=⟨n.save [⟨3,(n.c.st.log.length:Int)+1,(eA c n.c.st.term n.c.s.version).1.term,(eA c n.c.st.term n.c.s.version).1.b⟩],0,0,n.aJ [⟨3,(n.c.st.log.length:Int)+1,(eA c n.c.st.term n.c.s.version).1.term,(eA c n.c.st.term n.c.s.version).1.b⟩]⟩:=by rw [Vs h h1 h2 h3 h4,if_neg aL,if_neg aL]; exact if_neg a
def aju (d:(eA c n.c.st.term n.c.s.version).2=0) (a:n.aJ [⟨3,(n.c.st.log.length:Int)+1,(eA c n.c.st.term n.c.s.version).1.term,(eA c n.c.st.term n.c.s.version).1.b⟩]=0):cS n c=⟨n.save [⟨3,(n.c.st.log.length:Int)+1,(eA c n.c.st.term n.c.s.version).1.term,(eA c n.c.st.term n.c.s.version).1.b⟩],(n.c.st.log.length:Int)+1,n.c.st.term,0⟩:=by rw [Vs h h1 h2 h3 h4,if_neg aL,if_neg aL]; exact if_pos a
end
section
variable {n:Nd} {x:Letter}
def aiZ (h:¬ (aC n.c.st x).2.2=0):ba n x=⟨n,[],(aC n.c.st x).2.2⟩:=if_pos h
def aeF (h:(aC n.c.st x).2.2=0) (a:¬ n.aJ (aC n.c.st x).1=0):ba n x=⟨n.save (aC n.c.st x).1,[],n.aJ (aC n.c.st x).1⟩:=by rw [ba,if_neg aL,if_pos a]
def ZJ (h:(aC n.c.st x).2.2=0) (a:n.aJ (aC n.c.st x).1=0):ba n x=⟨n.save (aC n.c.st x).1,[{ nQ (n.save (aC n.c.st x).1).c 2 x.frm with ok:=(aC n.c.st x).2.1 }],0⟩:=by rw [ba,if_neg aL,if_neg aL]
theorem Ud {s:Stable}:(aC s x).1.length<=1000:=by
 have h:=eO (s:=s) (t:=x.term);unfold aC;grind
end
def Yr (n:Nd):List (Nat × LI):=[(7,{ σ:=Nat,F:=fun k=>([(0,one (.ptr 0 0)),(4,one (.own 8)),(21,one (.fz .int (cM n.c))),(22,one (.int (cM n.c).length)),(23,one (.int k))],(mC (n)++[.row 40 (.nm .letter) (((cc n ((cM n.c).take k)).1))])),J:=fun k=>k<=(cM n.c).length/\(cc n ((cM n.c).take k)).2=0,μ:=fun k=>(cM n.c).length - k })]
def GB:Kn:=aN (ae (kC (aY 0 0)) aq) sU fun _ n=>⟨[n.c.many<=5,n.c.role=0\/(n.nx.length:Int)=n.c.many],[.c (.fz (.nm .letter) (((bN n).1))),.c (.int (((bN n).2)))],none,false⟩
theorem UK:CK 31 GB:=ah fun _ n k=>by
 have l:=cd k;have m:=cd (eY k);refine aw oq (Yr n) Tryz.func31 (?_:(fun (i:Prop)=>(fun (e:Int)=>(fun (a:List Int)=>(fun (b:Nat)=>(n.d.down=true->i/\30=(bN n).snd)/\(n.d.down=false->(¬n.c.role=2->i/\33=(bN n).snd)/\(n.c.role=2->n.c.many<=5/\(a.length*8<=140737488355328->∃ (g:Nat),(a=a/\(↑a.length:Int)=(↑b:Int)/\e=(↑g:Int)/\Qu n n ((cc n (List.take g a)).fst=[]))/\(g<=b/\(cc n (List.take g a)).snd=e)/\∀ (s:Nat),(fun (j:List Letter)=>s<=b/\(cc n (List.take s a)).snd=e->((↑s:Int)<(↑b:Int)->e<=(↑s:Int)/\(↑s:Int)<(↑a.length:Int)/\∀ (x:Int),(fun (h:Int)=>a[s]? = some x->I64 x->(e<=x/\x<(↑n.nx.length:Int))/\aK (iW n x).fst (I64 h->(¬h=e->i/\h=(bN n).snd)/\(h=e->(j.length+[(iW n x).fst].length)*96<=140737488355328/\I64 ((↑s:Int)+1)/\∃ (f:Nat),(a=a/\(↑b:Int)=(↑b:Int)/\(↑s:Int)+1=(↑f:Int)/\Qu n n (j++[(iW n x).fst]=(cc n (List.take f a)).fst))/\(f <= b/\(cc n (List.take f a)).snd=e)/\b - f < b - s))) (iW n x).snd)/\((↑b:Int)<=(↑s:Int)->j=(bN n).fst/\e=(bN n).snd)) (cc n (List.take s a)).fst)))) a.length) (cM n.c)) 0) ((bN n).fst=[]));iterate 3 ((all_goals (repeat' with_reducible first|apply bh|refine bg ?_|intro)); (all_goals try (first | exact br | exact rfl | exact (aeP ab ab ab).1 | exact (aeP ab ab ab).2 | exact (aif l) | exact (XQ ab).2.1 | exact (ahh m ab ab) | (rw [agf (n:=n) ab] <;> rfl) | (rw [aiY (n:=n) ab ab] <;> rfl) | (rw [ajb (n:=n) ab ab ab ab ab] <;> rfl) | (rw [ajN (n:=n) ab ab ab ab] <;> rfl))); all_goals try first | refine ⟨‹Nat› + 1,?_⟩ | refine ⟨0,?_⟩)
def GX:Kn:=aN (ae (kC (aY 0 0)) (ae (kT (.nm .command)) aq)) sU fun (_,c,_) n=>⟨[NdOK n],[.c (.int (((cS n c).a))),.c (.int (((cS n c).b))),.c (.int (((cS n c).e)))],some ((mC ((cS n c).n))),false⟩
theorem Tu:CK 15 GX:=ah fun (_,c,_) n t=>by
 have r:=cd t;refine bt oq [] Tryz.func15 (?_:(fun o=>(fun j=>(fun q=>(fun p=>(fun h=>(fun i=>(fun f=>(fun g=>(fun k=>(fun l=>(fun m=>bC c ((n.d.down=true->l/\k/\30=f.e/\g)/\(n.d.down=false->(¬n.c.role=2->l/\k/\33=f.e/\g)/\(n.c.role=2->I64 (bL c j)->(¬bL c j=h->l/\k/\bL c j=f.e/\g)/\(bL c j=h->(o->I64 q)/\(o/\¬c.n=q->l/\k/\1=f.e/\g)/\(¬o\/c.n=q->(o/\kU j n.bn=false->l/\k/\34=f.e/\g)/\(¬o\/kU j n.bn=true->I64 p/\(64<p->l/\k/\20=f.e/\g)/\(p<=64->I64 i.fst.term->i.fst.b.length*1<=140737488355328->I64 i.snd->(¬i.snd=h->l/\k/\i.snd=f.e/\g)/\(i.snd=h->(h<=n.d.synced/\n.d.synced<=(↑n.d.b.length:Int)/\n.d.b.length<=65536)/\n.c.st.log.length<=10000/\m.length<=1000/\(I64 (n.aJ m)->(¬n.aJ m=h->l/\k/\n.aJ m=f.e/\bV (n.save m) f.n)/\(n.aJ m=h->p=f.a/\n.c.st.term=f.b/\h=f.e/\bV (n.save m) f.n))))))))))) [Record.mk 3 p i.fst.term i.fst.b]) (h=f.a)) (h=f.b)) (bV n f.n)) (cS n c)) (eA c n.c.st.term j)) (0:Int)) ((↑n.c.st.log.length:Int)+1)) (j+1)) n.c.s.version) (c.kind=8));obtain ⟨u,v,w⟩:=id r.d;have x:=r.log;(repeat' with_reducible first|apply bh|refine bg ?_|intro)
 all_goals (first | exact br | (simp only [List.length_cons,List.length_nil]; omega) | (have i:=(Vz (by with_reducible assumption:bL c n.c.s.version=0)).1; exact bZ aL aL) | (rw [aio (n:=n) ab] <;> rfl) | (rw [aii (n:=n) ab ab] <;> rfl) | (rw [af7 (n:=n) ab ab ab] <;> rfl) | (rw [agI (n:=n) ab ab ab ab ab] <;> rfl) | (rw [ahw (n:=n) ab ab ab ab ab ab] <;> rfl) | (rw [aiK (n:=n) ab ab ab ab ab ab] <;> rfl) | (rw [agQ (n:=n) ab ab ab ab ab ab ab] <;> rfl) | (rw [af_ (n:=n) ab ab ab ab ab ab ab ab] <;> rfl) | (rw [aju (n:=n) ab ab ab ab ab ab ab ab] <;> rfl))
def Bv:Kn:=aN (ae (kC (aY 0 0)) (ae (kT (.nm .letter)) aq)) sU fun (_,x,_) n=>⟨[NdOK n],[.c (.fz (.nm .letter) (((ba n x).l))),.c (.int (((ba n x).e)))],some ((mC ((ba n x).n))),false⟩
def KR:CK 56 Bv:=ah fun (_,x,_) n m=>by
 have k:=cd m;refine bt oq [] Tryz.func56 (?_:(fun i=>(fun h=>(fun f=>(fun j=>(fun g=>aK x (f.fst.length*48<=140737488355328->I64 f.snd.snd->(¬f.snd.snd=i->h.l=[]/\f.snd.snd=h.e/\bV n h.n)/\(f.snd.snd=i->(i<=n.d.synced/\n.d.synced<=(↑n.d.b.length:Int)/\n.d.b.length<=65536)/\n.c.st.log.length<=10000/\f.fst.length<=1000/\(I64 j->(¬j=i->h.l=[]/\j=h.e/\bV (n.save f.fst) h.n)/\(j=i->aK g ([Letter.mk g.kind g.frm g.to g.term g.a g.b g.c g.bin f.snd.fst g.l]=h.l/\i=h.e/\bV (n.save f.fst) h.n)))))) (nQ (n.save f.fst).c 2 x.frm)) (n.aJ f.fst)) (aC n.c.st x)) (ba n x)) (0:Int));obtain ⟨o,p,q⟩:=id k.d;have r:=k.log;(repeat' with_reducible first|apply bh|refine bg ?_|intro)
 all_goals (first | exact br | exact Ud | (rw [aiZ (n:=n) ab] <;> rfl) | (rw [aeF (n:=n) ab ab] <;> rfl) | (rw [ZJ (n:=n) ab ab] <;> rfl))
def WY:bM:=(aP 56 Bv (aP 15 GX (aP 31 GB XN)))
def sP:aB Tryz.prog (al tyT) WY:=(ag KR (ag Tu (ag UK oq)))
section
variable {n:Nd} {k:Nat} {y:Int}
theorem IT {s:Stable} {m:Int}:(aU s m).1.length<=1000:=by
 unfold aU;grind
def ahm (h:n.d.down=true):bm n=⟨n,[],30⟩:=if_pos h
variable (h:n.d.down=false)
include h
def agE (a:n.c.role=2):bm n=⟨n,[],0⟩:=by rw [bm,if_neg (mb h),if_pos a]
variable (h1:¬ n.c.role=2)
include h1
def ai2 (a:¬ (aU n.c.st n.c.me).2=0):bm n=⟨n,[],(aU n.c.st n.c.me).2⟩:=by rw [bm,if_neg (mb h),if_neg h1,if_pos a]
variable (h2:(aU n.c.st n.c.me).2=0)
include h2
def ajG (a:¬ n.aJ (aU n.c.st n.c.me).1=0):bm n=⟨n.save (aU n.c.st n.c.me).1,[],n.aJ (aU n.c.st n.c.me).1⟩:=by rw [bm,if_neg (mb h),if_neg h1,if_neg aL,if_pos a]
variable (h3:n.aJ (aU n.c.st n.c.me).1=0)
include h3
def aep:bm n=⟨(n.save (aU n.c.st n.c.me).1).eD,gw (n.save (aU n.c.st n.c.me).1).eD.c,0⟩:=by rw [bm,if_neg (mb h),if_neg h1,if_neg aL,if_neg aL]
def agp (a:((cM (n.save (aU n.c.st n.c.me).1).eD.c).length:Int)<=k):(gw (n.save (aU n.c.st n.c.me).1).eD.c).take k=(bm n).l:=by
 rw [aep h h1 h2 h3];exact List.take_of_length_le (by unfold gw; rw [List.length_map]; omega)
end
section
variable {c:NdC} {k:Nat} {y:Int} {z:Letter}
theorem ajt (a:c.many<=5):(((gw c).take k).length+[z].length)*96<=140737488355328:=by
 have b:(cM c).length<=c.many.toNat:=qV;rw [List.length_take,gw,List.length_map];grind
def ais (a:(k:Int)<((cM c).length:Nat)) (b:c.many<=5):I64 ((k:Int)+1):=by
 have d:(cM c).length<=c.many.toNat:=qV;exact bZ aL aL
def ahk (d:(cM c)[k]? = some y):(gw c).take k++[Letter.mk (nQ c 1 y).kind (nQ c 1 y).frm (nQ c 1 y).to (nQ c 1 y).term c.st.log.length (iH c.st.log) (nQ c 1 y).c (nQ c 1 y).bin (nQ c 1 y).ok (nQ c 1 y).l]=(gw c).take (k+1):=by
 have:(gw c)[k]? = some { nQ c 1 y with a:=c.st.log.length,b:=iH c.st.log }:=by
  unfold gw; rw [List.getElem?_map,d]; rfl
 rw [ai this]
end
section
variable {n:Nd} {x:Letter}
def aiI (h:¬ (ay n.c.st x).2.2.2=0):aM n x=⟨n,[],(ay n.c.st x).2.2.2⟩:=if_pos h
variable (h:(ay n.c.st x).2.2.2=0)
include h
def agS (a:¬ n.aJ (ay n.c.st x).1=0):aM n x=⟨n.save (ay n.c.st x).1,[],n.aJ (ay n.c.st x).1⟩:=by rw [aM,if_neg aL,if_pos a]
variable (h1:n.aJ (ay n.c.st x).1=0)
include h1
def ahU (b:x.term=(n.save (ay n.c.st x).1).c.st.term) (d:(ay n.c.st x).2.1=true):aM n x=⟨({ (n.save (ay n.c.st x).1) with c:={ (n.save (ay n.c.st x).1).c with role:=0,commit:=max (n.save (ay n.c.st x).1).c.commit (min x.c (ay n.c.st x).2.2.1) } }:Nd).apply,[{ nQ { (n.save (ay n.c.st x).1).c with role:=0 } 4 x.frm with ok:=(ay n.c.st x).2.1,a:=(ay n.c.st x).2.2.1 }],0⟩:=by
 rw [aM,if_neg aL,if_neg aL,d];dsimp only;rw [if_pos b]; rfl
theorem ah1 (d:¬ x.term=(n.save (ay n.c.st x).1).c.st.term) (b:(ay n.c.st x).2.1=true):aM n x=⟨({ (n.save (ay n.c.st x).1) with c:={ (n.save (ay n.c.st x).1).c with commit:=max (n.save (ay n.c.st x).1).c.commit (min x.c (ay n.c.st x).2.2.1) } }:Nd).apply,[{ nQ (n.save (ay n.c.st x).1).c 4 x.frm with ok:=(ay n.c.st x).2.1,a:=(ay n.c.st x).2.2.1 }],0⟩:=by
 rw [aM,if_neg aL,if_neg aL,b];grind
def ait (b:x.term=(n.save (ay n.c.st x).1).c.st.term) (d:(ay n.c.st x).2.1=false):aM n x=⟨(n.save (ay n.c.st x).1).follow,[{ nQ { (n.save (ay n.c.st x).1).c with role:=0 } 4 x.frm with ok:=(ay n.c.st x).2.1,a:=min 64 ((n.save (ay n.c.st x).1).c.st.log.length:Int) }],0⟩:=by
 rw [aM,if_neg aL,if_neg aL,d];dsimp only;rw [if_pos b,if_neg am];split
 ·rfl
 rename_i q; exact absurd b q
theorem ai1 (b:¬ x.term=(n.save (ay n.c.st x).1).c.st.term) (a:(ay n.c.st x).2.1=false):aM n x=⟨n.save (ay n.c.st x).1,[{ nQ (n.save (ay n.c.st x).1).c 4 x.frm with ok:=(ay n.c.st x).2.1 }],0⟩:=by
 rw [aM,if_neg aL,if_neg aL,a];dsimp only;split
 ·grind
 rfl
end
theorem JB {s:Stable} {x:Letter}:(ay s x).1.length<=1000:=by
 by_cases h:(ay s x).2.2.2=0
 ·obtain ⟨⟨a,_⟩,b⟩:=cZ h;rcases b with ⟨_,e⟩ | ⟨_,_,e⟩ | ⟨_,_,e⟩ <;> rw [e]
  ·simp
  ·have:=pA (s:=s) a; dsimp only; omega
  have:=eO (s:=s) (t:=x.term); dsimp only; omega
 have e:ay s x=([],false,0,1):=by
  unfold ay at h ⊢;grind
 rw [e]; simp
def JK (n:Nd):List (Nat × LI):=[(17,{ σ:=Nat,F:=fun k=>([(0,one (.ptr 0 0)),(7,one (.int (n.save (aU n.c.st n.c.me).1).c.st.log.length)),(8,one (.int (iH (n.save (aU n.c.st n.c.me).1).c.st.log))),(9,one (.own 12)),(113,one (.fz .int (cM (n.save (aU n.c.st n.c.me).1).eD.c))),(114,one (.int (cM (n.save (aU n.c.st n.c.me).1).eD.c).length)),(115,one (.int k))],[.box 103 (Yj 0 (((n.save (aU n.c.st n.c.me).1).eD.c))++[.own 3,.own 8,.own 9,.own 10,.own 11]),.box 147 ([.own 2,.int (((n.save (aU n.c.st n.c.me).1).eD.d.synced)),.bool (.atom (((n.save (aU n.c.st n.c.me).1).eD.d.down))),.bool (.atom (((n.save (aU n.c.st n.c.me).1).eD.d.doomed))),.int (((n.save (aU n.c.st n.c.me).1).eD.d.keep))]),.row 5 .u8 (((n.save (aU n.c.st n.c.me).1).eD.d.b)),.row 78 (.nm .reply) ((n.rp)),.row 4 .bool ((n.vs)),.row 3 .int ((n.bn)),.row 3 .int ((n.nx)),.row 3 .int ((n.mt)),.row 4 .bool (((n.save (aU n.c.st n.c.me).1).eD.vs)),.row 3 .int (((n.save (aU n.c.st n.c.me).1).eD.bn)),.row 3 .int (((n.save (aU n.c.st n.c.me).1).eD.nx)),.row 3 .int (((n.save (aU n.c.st n.c.me).1).eD.mt)),.row 40 (.nm .letter) (((gw (n.save (aU n.c.st n.c.me).1).eD.c).take k))]),J:=fun k=>k<=(cM (n.save (aU n.c.st n.c.me).1).eD.c).length,μ:=fun k=>(cM (n.save (aU n.c.st n.c.me).1).eD.c).length - k })]
def sB:Kn:=aN (ae (kC (aY 0 0)) aq) sU fun _ n=>⟨[NdOK n],[.c (.fz (.nm .letter) (((bm n).l))),.c (.int (((bm n).e)))],some ((mC ((bm n).n))),false⟩
theorem CN:CK 14 sB:=ah fun _ n I=>by
 have w:=cd I;refine bt sP (JK n) Tryz.func14 (?_:(fun (p:Int)=>(fun (k:NdR)=>(fun (A:Int)=>(fun (v:List Record × Int)=>(fun (C:Int)=>(fun (q:Nd)=>(fun (m:NdC)=>(fun (h:Int)=>(fun (D:List Entry)=>(fun (r:Int)=>(fun (u:Int)=>(fun (o:Int)=>(fun (t:List (den Sh.int))=>(fun (y:List Int)=>(fun (z:Prop)=>(fun (j:Nd)=>(fun (f:Dsk)=>(fun (a:NdC)=>(fun (g:Nat)=>(n.d.down=true->k.l=[]/\(30:Int)=k.e/\bV n k.n)/\(n.d.down=false->(n.c.role=(2:Int)->k.l=[]/\p=k.e/\bV n k.n)/\(¬n.c.role=(2:Int)->n.c.st.term<=(1048576:Int)/\(v.fst.length*(48:Nat)<=(140737488355328:Nat)->I64 v.snd->(¬v.snd=p->k.l=[]/\v.snd=k.e/\bV n k.n)/\(v.snd=p->(p<=n.d.synced/\n.d.synced<=(↑n.d.b.length:Int)/\n.d.b.length<=(65536:Nat))/\n.c.st.log.length<=(10000:Nat)/\v.fst.length<=(1000:Nat)/\(I64 C->(¬C=p->k.l=[]/\C=k.e/\bV q k.n)/\(C=p->(p<=o/\o*(↑(1:Nat):Int)<=(140737488355328:Int)/\o=o)/\z/\z/\z/\p<=h/\h<(↑(List.replicate o.toNat (ak Sh.bool)).length:Int)/\p<=h/\h<(↑t.length:Int)/\(I64 (t.getD h.toNat (ak Sh.int))->I64 (↑D.length:Int)->I64 r->o<=(5:Int)/\(y.length*(8:Nat)<=(140737488355328:Nat)->∃ (G:Nat),((↑D.length:Int)=u/\r=r/\y=cM a/\(↑y.length:Int)=(↑g:Int)/\p=(↑G:Int)/\h=a.me/\o=a.many/\m.bin=a.bin/\aG m.st a.st (A=a.role/\m.commit=a.commit/\m.applied=a.applied/\bE m.s a.s (q.d.synced=f.synced/\q.d.down=f.down/\q.d.doomed=f.doomed/\q.d.keep=f.keep/\q.d.b=f.b/\q.rp=n.rp/\q.vs=n.vs/\q.bn=n.bn/\q.nx=n.nx/\q.mt=n.mt/\(List.replicate o.toNat (ak Sh.bool)).set h.toNat true=j.vs/\t.set h.toNat m.bin=j.bn/\t=j.nx/\t=j.mt/\List.take G (gw a)=[])))/\G<=g/\∀ (s:Nat),s<=g->((↑s:Int)<(↑g:Int)->p<=(↑s:Int)/\(↑s:Int)<(↑(cM a).length:Int)/\∀ (x:Int),(fun (i:Letter)=>(fun (B:Letter)=>(cM a)[s]? = some x->I64 x->aK i (((List.take s (gw a)).length+[B].length)*(96:Nat)<=(140737488355328:Nat)/\I64 ((↑s:Int)+A)/\∃ (F:Nat),(u=u/\r=r/\cM a=cM a/\(↑g:Int)=(↑g:Int)/\(↑s:Int)+A=(↑F:Int)/\a.me=a.me/\a.many=a.many/\a.bin=a.bin/\aG a.st a.st (a.role=a.role/\a.commit=a.commit/\a.applied=a.applied/\bE a.s a.s (f.synced=f.synced/\f.down=f.down/\f.doomed=f.doomed/\f.keep=f.keep/\f.b=f.b/\n.rp=n.rp/\n.vs=n.vs/\n.bn=n.bn/\n.nx=n.nx/\n.mt=n.mt/\j.vs=j.vs/\j.bn=j.bn/\j.nx=j.nx/\j.mt=j.mt/\List.take s (gw a)++[B]=List.take F (gw a))))/\F <= g/\g - F < g - s)) (Letter.mk i.kind i.frm i.to i.term u r i.c i.bin i.ok i.l)) (nQ a A x))/\((↑g:Int)<=(↑s:Int)->List.take s (gw a)=k.l/\p=k.e/\bV (Nd.mk a f n.rp j.vs j.bn j.nx j.mt) k.n)))))))))) (cM a).length) j.c) j.d) q.eD) (p<=o/\o*(↑(8:Nat):Int)<=(140737488355328:Int)/\o=o)) (cM (NdC.mk h o m.bin m.st A m.commit m.applied m.s))) (List.replicate o.toNat (ak Sh.int))) m.many) (↑D.length:Int)) (iH D)) m.st.log) m.me) q.c) (n.save v.fst)) (n.aJ v.fst)) (aU n.c.st n.c.me)) (1:Int)) (bm n)) (0:Int))
 obtain ⟨J,K,L⟩:=id w.d;have N:=w.log;have H:=w.many;have O:=w.me;have o7:=w.com;have P:=w.term;have Q:=w.rp;iterate 3 ((all_goals (repeat' with_reducible first|apply bh|refine bg ?_|intro)); (all_goals try (first | exact br | exact rfl | exact IT | exact (agp ab ab ab ab ab) | exact (ahk ab) | exact (ajt H.2) | exact (ais (c:=(n.save (aU n.c.st n.c.me).1).eD.c) ab H.2) | (dsimp only [Nd.save]; omega) | (rw [afF]; dsimp only [Nd.save]; omega) | (rw [ahm (n:=n) ab] <;> rfl) | (rw [agE (n:=n) ab ab] <;> rfl) | (rw [ai2 (n:=n) ab ab ab] <;> rfl) | (rw [ajG (n:=n) ab ab ab ab] <;> rfl) | (rw [aep (n:=n) ab ab ab ab] <;> rfl))); all_goals try first | refine ⟨‹Nat› + 1,?_⟩ | refine ⟨0,?_⟩)
def uY:Kn:=aN (ae (kC (aY 0 0)) (ae (kT (.nm .letter)) aq)) sU fun (_,x,_) n=>⟨[NdOK n,cq n.c x=true,x.kind=3],[.c (.fz (.nm .letter) (((aM n x).l))),.c (.int (((aM n x).e)))],some ((mC ((aM n x).n))),false⟩
def Iv:CK 57 uY:=ah fun (_,x,_) n D=>by
 have u:=cd D;have B:=cd (eY D);have C:=cd (eY (eY D));refine bt sP [] Tryz.func57 (?_:(fun r=>(fun F=>(fun j=>(fun p=>(fun v=>(fun q=>(fun o=>(fun H=>(fun G=>(fun i=>(fun h=>(fun t=>(fun m=>(fun w=>(fun k=>(fun y=>(fun z=>(fun A=>(fun f=>(fun g=>aK x (r.length*48<=140737488355328->I64 q.snd.fst->I64 q.snd.snd->(¬q.snd.snd=p->j.l=[]/\q.snd.snd=j.e/\bV n j.n)/\(q.snd.snd=p->(p<=n.d.synced/\n.d.synced<=(↑n.d.b.length:Int)/\n.d.b.length<=65536)/\n.c.st.log.length<=10000/\r.length<=1000/\(I64 (n.aJ r)->(¬n.aJ r=p->j.l=[]/\n.aJ r=j.e/\bV i j.n)/\(n.aJ r=p->(k->aK g ((o=true->y/\[Letter.mk g.kind g.frm g.to g.term q.snd.fst g.b g.c g.bin o g.l]=j.l/\v/\bV (Nd.mk (NdC.mk h.me h.many h.bin h.st p t m h.s) i.d i.rp i.vs i.bn i.nx i.mt).apply j.n)/\(o=false->(k->[Letter.mk g.kind g.frm g.to g.term w g.b g.c g.bin o g.l]=j.l/\A)/\(¬k->[Letter.mk g.kind g.frm g.to g.term g.a g.b g.c g.bin o g.l]=j.l/\A))))/\(¬k->aK f ((o=true->y/\[Letter.mk f.kind f.frm f.to f.term q.snd.fst f.b f.c f.bin o f.l]=j.l/\v/\bV (Nd.mk (NdC.mk h.me h.many h.bin h.st h.role t m h.s) i.d i.rp i.vs i.bn i.nx i.mt).apply j.n)/\(o=false->(k->[Letter.mk f.kind f.frm f.to f.term w f.b f.c f.bin o f.l]=j.l/\v/\bV i j.n)/\(¬k->[Letter.mk f.kind f.frm f.to f.term f.a f.b f.c f.bin o f.l]=j.l/\v/\bV i j.n))))))))) (nQ z G F)) (nQ h G F)) (v/\bV (Nd.mk z i.d i.rp i.vs i.bn i.nx i.mt) j.n)) (NdC.mk h.me h.many h.bin h.st p h.commit m h.s)) ((p<=m/\t<=(↑h.st.log.length:Int))/\(↑i.rp.length:Int)<=m/\h.st.log.length<=10000)) (x.term=h.st.term)) (min 64 (↑h.st.log.length:Int))) h.applied) (max h.commit H)) i.c) (n.save r)) (4:Int)) (min x.c q.snd.fst)) q.fst) (ay n.c.st x).snd) (p=j.e)) (0:Int)) (aM n x)) x.frm) (ay n.c.st x).fst);obtain ⟨I,J,K⟩:=id u.d;have L:=u.log;(repeat' with_reducible first|apply bh|refine bg ?_|intro)
 all_goals (first | exact br | exact JB | exact (Ef u B C ab ab).1.1 | exact (Ef u B C ab ab).1.2 | exact (Ef u B C ab ab).2.1 | exact (Ef u B C ab ab).2.2 | (rw [aiI (n:=n) ab] <;> rfl) | (rw [agS (n:=n) ab ab] <;> rfl) | (rw [ahU (n:=n) ab ab ab ab] <;> rfl) | (rw [ah1 (n:=n) ab ab ab ab] <;> rfl) | (rw [ait (n:=n) ab ab ab ab] <;> rfl) | (rw [ai1 (n:=n) ab ab ab ab] <;> rfl))
def XH:bM:=(aP 57 uY (aP 14 sB WY))
def sK:aB Tryz.prog (al tyT) XH:=(ag Iv (ag CN sP))
