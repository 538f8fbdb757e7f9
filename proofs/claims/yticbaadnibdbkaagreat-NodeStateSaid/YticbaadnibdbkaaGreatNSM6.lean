/- What leads to the law, part 6. Conditions: each lemma's own. -/
import Derived.Test.YticbaadnibdbkaaGreatNSM5
set_option linter.unusedVariables false
set_option linter.unusedSimpArgs false
set_option maxHeartbeats 2000000
set_option linter.defProp false
noncomputable section
open List (Mem drop drop_left drop_take filter foldl length_drop range replicate take take_append)
open UInt8 (ofNat toNat_mod)
namespace Go.Proofs.YticbaadnibdbkaaGreat
open Tryz
open Go.RowKit
variable {n k:Nat} {b:List UInt8}
def tvA (h:ak b=bW k n (b.drop k)) (a:(k:Int)<10) (c:(k:Int)=(b.length:Int)):ak b=(0,0,2):=h.trans (Oy az az)
def tvD (h:ak b=bW k n (b.drop k)) (a:10<=(k:Int)):ak b=(0,0,3):=h.trans (aeU az)
theorem tvB (h:ak b=bW k n (b.drop k)) (a:(k:Int)<10) (c:k<=b.length) (d:¬ (k:Int)=(b.length:Int)) (e:0<(k:Int)) (f:((b.getD k (c5 .u8)).toNat:Int)=((ofNat 0).toNat:Int)):ak b=(0,0,3):=by grind [zK]
theorem tvC (h:ak b=bW k n (b.drop k)) (a:(k:Int)<10) (c:k<=b.length) (d:¬ (k:Int)=(b.length:Int)) (e:(k:Int)=9) (f:((ofNat 1).toNat:Int)<((b.getD k (c5 .u8)).toNat:Int)):ak b=(0,0,3):=by grind [zK]
def S2 (n k:Nat) (x:UInt8):Nat:=n ||| (x &&& ofNat 127).toNat*2 ^ (7*(k:Int)).toNat % 18446744073709551616
variable {x:UInt8}
theorem tvN (a:n<2 ^ (7*k)) (c:k<=9) (d:k=9->x.toNat<=1):S2 n k x=n+(x &&& 127).toNat*2 ^ (7*k):=by
 unfold S2;rw [show (ofNat 127)=127 from rfl,show (7*(k:Int)).toNat=7*k by omega,FB (Gr c d)];exact FX a
theorem tvZ (a:b[k]? = some x) (c:(k:Int)<=0\/¬ ((b.getD k (c5 .u8)).toNat:Int)=((ofNat 0).toNat:Int)) (d:¬ (k:Int)=9\/((b.getD k (c5 .u8)).toNat:Int)<=((ofNat 1).toNat:Int)):(¬ (0<k/\x.toNat=0))/\¬ (k=9/\1<x.toNat):=by grind
theorem tvE {y:UInt8} (h:ak b=bW k n (b.drop k)) (a:n<2 ^ (7*k)) (c:(k:Int)<10) (d:b[k]? = some x) (e:b[k]? = some y) (f:(k:Int)<=0\/¬ ((b.getD k (c5 .u8)).toNat:Int)=((ofNat 0).toNat:Int)) (g:¬ (k:Int)=9\/((b.getD k (c5 .u8)).toNat:Int)<=((ofNat 1).toNat:Int)) (i:(y.toNat:Int)<((ofNat 128).toNat:Int)):ak b=(S2 n k x,k+1,0):=by grind [tvZ,tvN,Ka]
def tvF {y:UInt8} (h:ak b=bW k n (b.drop k)) (d:n<2 ^ (7*k)) (a:n<18446744073709551616) (m:(k:Int)<10) (c:b[k]? = some x) (f:b[k]? = some y) (i:(k:Int)<=0\/¬ ((b.getD k (c5 .u8)).toNat:Int)=((ofNat 0).toNat:Int)) (j:¬ (k:Int)=9\/((b.getD k (c5 .u8)).toNat:Int)<=((ofNat 1).toNat:Int)) (l:((ofNat 128).toNat:Int)<=(y.toNat:Int)):S2 n k x<2 ^ (7*(k+1))/\S2 n k x<18446744073709551616/\ak b=bW (k+1) (S2 n k x) (b.drop (k+1)):=by
 have g:=tvZ c i j;rw [show (ofNat 128).toNat=128 from rfl] at l;rw [c] at f; cases f;have e:=tvN d (show k<=9 by omega) (show k=9->x.toNat<=1 by omega);refine ⟨by rw [e]; exact zr d,?_,by rw [e]; exact HT h az c g.1 g.2 az⟩;exact M0 (n:=64) a (E5 _ am)
variable {x:Int}
theorem ajD {c:b5} {v:Int} (a:[c.a6,c.seq,c.set,c.id,c.n][k]? = some x) (h:x<0\/1048576<x):false=eK c v:=by
 refine YK ?_;grind
def akM {c:b5} (h:(k:Int)<5):[c.a6,c.seq,c.set,c.id,c.n][k]? = some ([c.a6,c.seq,c.set,c.id,c.n].getD k (c5 .int)):=by
 rw [ts,p6 (by simp; omega)]; rfl
def ag9 {n:Int} {p:Prop} (h:n<=0\/p):(¬ 0<n)\/p:=h.imp_left az
def ann {l:List Int} (h:((l.take k).all fun n=>aO n 0 1048576)=true) (a:l[k]? = some x) (c:0<=x) (d:x<=1048576):((l.take (k+1)).all fun n=>aO n 0 1048576)=true:=by
 rw [aj a,J7,h]; simp [aO]; omega
def agT {c:b5} (h:(([c.a6,c.seq,c.set,c.id,c.n].take k).all fun n=>aO n 0 1048576)=true) (a:5<=(k:Int)):¬ ((c.a6<0\/1048576<c.a6)\/(c.seq<0\/1048576<c.seq)\/(c.set<0\/1048576<c.set)\/(c.id<0\/1048576<c.id)\/(c.n<0\/1048576<c.n)):=by
 rw [r6 (by simp; omega)] at h;simp [aO] at h;omega
def afY (b:List UInt8):List (Nat × LI):=[(3,{ σ:=Nat × Nat,F:=fun s=>([(0,one (.fz .u8 (b))),(5,one (.u64 s.2)),(6,one (.int 0)),(7,one (.int 3)),(9,one (.int s.1))],[]),J:=fun s=>s.1<=10/\s.2<2 ^ (7*s.1)/\s.2<18446744073709551616/\ak b=bW s.1 s.2 (b.drop s.1)/\s.1<=b.length,μ:=fun s=>10 - s.1 })]
def MH (c:b5) (v:Int):List (Nat × LI):=[(5,{ σ:=Nat,F:=fun k=>([(1,one (.int (v))),(2,one (.ptr 0 0)),(38,.one (.agg [.int c.a6,.int c.seq,.int c.set,.int c.id,.int c.n])),(39,one (.int k))],[.box 35 (cellsOf (.nm .command) (c))]),J:=fun k=>k<=5/\([c.a6,c.seq,c.set,c.id,c.n].take k).all (fun n=>aO n 0 1048576)=true,μ:=fun k=>5 - k })]
def JW:Kn:=aH (ae (kC (cL .u8)) ao) au fun (b,_) _=>⟨[],[.c (.u64 ((y1.mk (ak b).1)).n),.c (.int ((((ak b).2.1:Nat)))),.c (.int (((ak b).2.2)))],none,false⟩
theorem WY:CK 210 JW:=ag fun (b,_) _ _=>by
 refine aq eh (afY b) func210 (?_:(fun (w:UInt8)=>(fun (f:Nat)=>(fun (g:Nat)=>(fun (h:Nat)=>(fun (F:Int)=>(fun (A:Nat)=>(fun (J:Int)=>(fun (I:Int)=>(fun (B:Int)=>(fun (u:Int)=>(fun (v:Int)=>(fun (G:Prop)=>(fun (C:Int)=>(fun (D:Int)=>(fun (c:Int)=>(fun (y:Prop)=>(fun (m:Prop)=>(fun (H:Prop)=>(fun (p:Prop)=>b.length*1<=140737488355328->∃ (l:Nat × Nat),(b=b/\0=l.snd/\m/\v=v/\c=(l.fst:Int))/\(l.fst<=g/\l.snd<h ^ (7*l.fst)/\l.snd<f/\ak b=bW l.fst l.snd (drop l.fst b)/\l.fst<=b.length)/\∀ (s:Nat × Nat),(fun (d:Nat)=>(fun (e:Int)=>(fun (q:Prop)=>(fun (a:Int)=>(fun (o:Int)=>(fun (i:Int)=>(fun (z:Prop)=>d<=g/\s.snd<h ^ (7*d)/\s.snd<f/\ak b=bW d s.snd (drop d b)/\d<=b.length->(a<10->(a=u->(¬2=c->G/\c=D/\2=C)/\(2=c->s.snd=A/\p))/\(¬a=u->(c<a->c<=a/\a<u)/\(c<a/\e=B->(c<a/\e=B->q)/\(a<=c\/¬e=B->z))/\(a<=c\/¬e=B->(a=9->c<=a/\a<u)/\(a=9/\(↑(ofNat 1).toNat:Int)<e->q)/\(¬a=9\/e<=(↑(ofNat 1).toNat:Int)->z))))/\(10<=a->q)) (c<=a/\a<u/\∀ (x:UInt8),b[d]? = some x->a7 i/\c<=i/\i<64/\c<=a/\a<u/\∀ (r:UInt8),b[d]? = some r->((r.toNat:Int)<I->a7 o/\(¬m->G/\p)/\(m->s.snd ||| (x &&& w).toNat*h ^ i.toNat % f=A/\o=D/\c=C))/\(I<=(r.toNat:Int)->a7 o/\∃ (j:Nat × Nat),(b=b/\s.snd ||| (x &&& w).toNat*h ^ i.toNat % f=j.snd/\m/\v=v/\o=(j.fst:Int))/\(j.fst<=g/\j.snd<h ^ (7*j.fst)/\j.snd<f/\ak b=bW j.fst j.snd (drop j.fst b)/\j.fst<=b.length)/\g - j.fst<g - d))) (J*a)) (a+F)) (d:Int)) ((¬y->H)/\(y->s.snd=A/\p))) (↑(UInt8.toNat (b.getD d (c5 Sh.u8))):Int)) s.fst) (c=D/\c=C)) (G/\c=D/\v=C)) (c=c)) (v=c)) 0) (↑(ak b).snd.fst:Int)) (ak b).snd.snd) (0=A)) 3) (b.length:Int)) (↑(ofNat 0).toNat:Int)) (↑(ofNat 128).toNat:Int)) 7) (ak b).fst) 1) 2) 10) 18446744073709551616) (ofNat 127));(repeat' with_reducible first|apply aT|refine aW ?_|intro)
 all_goals try (decide)
 all_goals (refine ⟨(0,0),⟨rfl,rfl,?_,?_,?_⟩,⟨az,am,am,rfl,az⟩,?_⟩)
 all_goals try (first | trivial | rfl)
 (repeat' with_reducible first|apply aT|refine aW ?_|intro)
 all_goals try (first | exact bR | (rw [tvA ab ab ab] <;> rfl) | (rw [tvD ab ab] <;> rfl) | (rw [tvB ab ab ab ab ab ab] <;> rfl) | (rw [tvC ab ab ab ab ab ab] <;> rfl) | exact (hC Prod.fst (tvE ab ab ab ab ab ab ab ab)).symm | exact (hC (fun t=>((t.2.1:Nat):Int)) (tvE ab ab ab ab ab ab ab ab)).symm | exact (hC (fun t=>t.2.2) (tvE ab ab ab ab ab ab ab ab)).symm)
 all_goals (refine ⟨(‹Nat × Nat›.1+1,_),⟨rfl,rfl,?_⟩,?_⟩; (repeat' with_reducible first|apply aT|refine aW ?_|intro))
 all_goals (first | exact bR | exact (tvF ab ab ab ab ab ab ab ab ab).1 | exact (tvF ab ab ab ab ab ab ab ab ab).2.1 | exact (tvF ab ab ab ab ab ab ab ab ab).2.2)
def En:Kn:=aH (ae (kT (.nm .field)) (ae (kT (.nm .field)) ao)) au fun (x,y,_) _=>⟨[],[.c (.bool (.atom ((du x y))))],none,false⟩
theorem Np:CK 256 En:=ag fun (x,y,_) _ _=>by
 refine aq eh [] func256 (?_:a7 x.num->a7 x.fl->x.n.n<18446744073709551616->x.b.length*1<=140737488355328->a7 y.num->a7 y.fl->y.n.n<18446744073709551616->y.b.length*1<=140737488355328->(y.num=x.num->(decide (y.fl=2) && decide (x.fl=2))=du x y)/\(¬y.num=x.num->decide (x.num<y.num)=du x y));grind [du]
def BD:Kn:=aH (ae (kT (.nm .field)) ao) au fun (x,_) _=>⟨[],[.c (.bool (.atom ((dp x))))],none,false⟩
theorem Sr:CK 255 BD:=ag fun (x,_) _ _=>by
 refine aq eh [] func255 (?_:a7 x.num->a7 x.fl->x.n.n<(18446744073709551616:Nat)->x.b.length*(1:Nat)<=(140737488355328:Nat)->(x.num<(1:Int)\/(1000:Int)<x.num->false=dp x)/\((1:Int)<=x.num/\x.num<=(1000:Int)->(x.fl=(0:Int)->decide ((x.b.length:Int)=(0:Int))=dp x)/\(¬x.fl=(0:Int)->(x.fl=(2:Int)->decide ((x.n.n:Int)=(↑(0:Nat):Int))=dp x)/\(¬x.fl=(2:Int)->false=dp x))));grind [dp,Ex,pA]
def Br:Kn:=aH (ae (kC (cL .u8)) (ae (kC (cL .u8)) ao)) au fun (x,y,_) _=>⟨[],[.c (.bool (.atom ((decide (x=y)))))],none,false⟩
theorem Qh:CK 146 Br:=ag fun (x,y,_) _ _=>by
 refine aq eh [] func146 (?_:x.length*1<=140737488355328->y.length*1<=140737488355328->decide (o3.mk x=o3.mk y)=decide (x=y));grind
def Ds:Kn:=aH (ae (kC (cL .u8)) ao) au fun (x,_) _=>⟨[],[.c (.fz .u8 ((x)))],none,false⟩
theorem Uk:CK 332 Ds:=ag fun (x,_) _ _=>by
 refine aq eh [] func332 (?_:(fun a=>a->∀ (b:Bool),(b=true->x=[])->(b=true->x=[])/\(b=false->a/\x=x)) (x.length*1<=140737488355328));grind
def abk:Kn:=aH (ae (kC cI) (ae (kC cI) ao)) au fun (k,l,_) _=>⟨[],[.agg (cellsOf (.nm .spec) (⟨k,0,l,false,false⟩))],none,false⟩
theorem aks:CK 271 abk:=ag fun (k,l,_) _ _=>by
 refine aq eh [] func271 (?_:a7 k->a7 l->k=k/\(0:Int)=0/\l=l/\false=false/\false=false);grind
def abu:Kn:=aH (ae (kC cI) (ae (kC cI) ao)) au fun (k,l,_) _=>⟨[],[.agg (cellsOf (.nm .spec) (⟨k,2,l,false,false⟩))],none,false⟩
theorem agK:CK 272 abu:=ag fun (k,l,_) _ _=>by
 refine aq eh [] func272 (?_:a7 k->a7 l->k=k/\(2:Int)=2/\l=l/\false=false/\false=false);grind
def aam:Kn:=aH (ae (kT (.nm .spec)) ao) au fun (x,_) _=>⟨[],[.agg (cellsOf (.nm .spec) ({ x with x3:=true }))],none,false⟩
theorem aky:CK 273 aam:=ag fun (x,_) _ _=>by
 refine aq eh [] func273 (?_:jB x (x.num=x.num/\x.fl=x.fl/\x.since=x.since/\true=true/\x.hY=x.hY));grind
def aag:Kn:=aH (ae (kT (.nm .spec)) ao) au fun (x,_) _=>⟨[],[.agg (cellsOf (.nm .spec) ({ x with hY:=true }))],none,false⟩
theorem aiQ:CK 274 aag:=ag fun (x,_) _ _=>by
 refine aq eh [] func274 (?_:jB x (x.num=x.num/\x.fl=x.fl/\x.since=x.since/\x.x3=x.x3/\true=true));grind
def Su:Kn:=aH (ae (kT (.nm .field)) (ae (kT (.nm .spec)) (ae (kC cI) ao))) au fun (x,s,n,_) _=>⟨[],[.c (.bool (.atom ((Ie x s n))))],none,false⟩
theorem af4:CK 331 Su:=ag fun (x,s,n,_) _ _=>by
 refine aq eh [] func331 (?_:a7 x.num->a7 x.fl->x.n.n<(18446744073709551616:Nat)->x.b.length*(1:Nat)<=(140737488355328:Nat)->jB s (a7 n->(¬x.fl=s.fl\/(1:Int)<n/\s.hY=false->false=Ie x s n)/\(x.fl=s.fl/\(n<=(1:Int)\/s.hY=true)->(x.fl=(0:Int)->(!decide ((x.n.n:Int)=(↑(0:Nat):Int)))=Ie x s n)/\(¬x.fl=(0:Int)->decide ((0:Int)<(x.b.length:Int))=Ie x s n))));grind [Ie]
def Un:Kn:=aH (ae (kC cI) (ae (kC cI) ao)) au fun (num,a,_) _=>⟨[],[.c (.own 0),.c (.int ((jQ num a)))],some ([.row 5 .u8 ((lr num a))]),true⟩
def adp:CK 257 Un:=ag fun (num,a,_) _ _=>by
 refine cr eh [] func257 (?_:(fun c=>a7 num->a7 a->((num<1\/1000<num)\/¬a=0/\¬a=2->1=jQ num a/\lr num a=[])/\((1<=num/\num<=1000)/\(a=0\/a=2)->a7 (8*num)/\a7 c/\0<=c/\0=jQ num a/\bF c.toNat=lr num a)) (8*num+a));(repeat' with_reducible first|apply aT|refine aW ?_|intro)
 all_goals (first | exact bR | exact (ou az) | exact (mn az) | exact (GI az).symm | exact (Ax az))
def vi:Kn:=aH (ae (kT (.nm .command)) (ae (kC cI) ao)) au fun (c,v,_) _=>⟨[],[.c (.bool (.atom ((eK c v))))],none,false⟩
theorem Fp:CK 160 vi:=ag fun (c,v,_) _ _=>by
 refine aq eh (MH c v) func160 (?_:(fun (h:Prop)=>(fun (d:Nat)=>(fun (e:Int)=>(fun (a:Int)=>(fun (i:List Int)=>(fun (l:List (l5 Sh.int))=>bc c (a7 v->a7 e->((c.kind<1\/99<c.kind)\/¬e=a/\e<=v->h)/\((1<=c.kind/\c.kind<=99)/\(e=a\/v<e)->∃ (j:Nat),(v=v/\c.a6=c.a6/\c.seq=c.seq/\c.set=c.set/\c.id=c.id/\c.n=c.n/\a=(j:Int)/\aG c c)/\(j<=d/\((take j i).all fun (n:Int)=>aO n a 1048576)=true)/\∀ (s:Nat),(fun (f:l5 Sh.int)=>s<=d/\((take s i).all fun (n:Int)=>aO n a 1048576)=true->((s:Int)<5->a<=(s:Int)/\(s:Int)<(d:Int)/\(a7 f->(f<a\/1048576<f->h)/\(a<=f/\f<=1048576->a7 ((s:Int)+1)/\∃ (g:Nat),(v=v/\c.a6=c.a6/\c.seq=c.seq/\c.set=c.set/\c.id=c.id/\c.n=c.n/\(s:Int)+1=(g:Int)/\aG c c)/\(g <= d/\((take g i).all fun (n:Int)=>aO n a 1048576)=true)/\d - g < d - s)))/\(5<=(s:Int)->(a<(c.b9.length:Int)/\bI c.b9=false->h)/\((c.b9.length:Int)<=a\/bI c.b9=true->(v<3->decide (c.text=o3.mk [])=eK c v)/\(3<=v->decide ((c.text.b.length:Int)<=16)=eK c v)))) (l.getD s (c5 Sh.int))))) [c.a6,c.seq,c.set,c.id,c.n]) [c.a6,c.seq,c.set,c.id,c.n]) 0) (bk c.kind)) 5) (false=eK c v));iterate 3 ((all_goals (repeat' with_reducible first|apply aT|refine aW ?_|intro)); (all_goals try (first | exact bR | exact (Tk az) | exact (ajD (akM az) ab) | exact (ann ab (akM az) ab ab) | exact (Wj (And.intro ab ab)) | exact (ado az (agT ab az) (ag9 ap) az) | exact (ac6 az (agT ab az) (ag9 ap) az))); all_goals try first | refine ⟨‹Nat› + 1,?_⟩ | refine ⟨0,?_⟩)
def ajb:ck:=(aI 160 vi (aI 257 Un (aI 331 Su (aI 274 aag (aI 273 aam (aI 272 abu (aI 271 abk (aI 332 Ds (aI 146 Br (aI 255 BD (aI 256 En (aI 210 JW aa4))))))))))))
def pL:ay prog (av l6) ajb:=(ah Fp (ah adp (ah af4 (ah aiQ (ah aky (ah agK (ah aks (ah Uk (ah Qh (ah Sr (ah Np (ah WY eh))))))))))))
variable {m:Nat}
theorem iA (h:m<9223372036854775808):de m=(m:Int):=by rw [de,eg h]
def Iw:(b.drop k).take (b.length - k)=b.drop k:=r6 (by rw [length_drop]; exact sh _)
theorem uk1 (c:(k:Int)<(b.length:Int)) (a:(ak (b.drop k)).2.2=0) (d:(((ak (b.drop k)).1:Nat):Int)<=((64:Nat):Int)):∃ x,b[k]? = some x/\ak (b.drop k)=(x.toNat,1,0)/\x.toNat<=64:=by
 have h:=tk1 (b:=b) (k:=k) az (by rw [Iw]; exact a) (by rw [Iw]; omega);rw [Iw] at h; exact h
theorem ukS (a:(k:Int)<(b.length:Int)) (c:(ak (b.drop k)).2.2=0) (d:(((ak (b.drop k)).1:Nat):Int)<=((64:Nat):Int)):(k:Int)+((ak (b.drop k)).2.1:Nat)=((k+1:Nat):Int)/\bG (b.take k)++[de (ak (b.drop k)).1]=bG (b.take (k+1)):=by grind [uk1,IF,iA]
def ukR (a:(k:Int)<(b.length:Int)) (h:(¬ (ak (b.drop k)).2.2=0)\/((64:Nat):Int)<(((ak (b.drop k)).1:Nat):Int)):bI (bG b)=false:=aec (k:=k) az (by rw [Iw]; exact h)
def Qu (h:k<=b.length) (a:b.length<=100000):((bG (b.take k)).length+1)*8<=140737488355328:=by
 unfold bG; rw [J4,s9]; omega
def akD (b:List UInt8):List (Nat × LI):=[(3,{ σ:=Nat,F:=fun k=>([(0,one (.fz .u8 (b))),(4,one (.own 0)),(5,one (.int k))],[.row 3 .int ((bG (b.take k)))]),J:=fun k=>k<=b.length,μ:=fun k=>b.length - k })]
def OP:Kn:=aH (ae (kC (cL .u8)) ao) au fun (b,_) _=>⟨[],[.c (.int (((aA b).num))),.c (.int (((aA b).fl))),.c (.int ((((aA b).k:Nat)))),.c (.int (((aA b).e)))],none,false⟩
def adi:CK 355 OP:=ag fun (b,_) _ _=>by
 refine aq pL [] func355 (?_:(fun (i:Int)=>(fun (g:Int)=>(fun (a:N7)=>(fun (c:Int)=>(fun (d:Prop)=>(fun (h:Nat)=>(fun (j:Prop)=>(fun (f:Int)=>(fun (o:Prop)=>b.length*(1:Nat)<=(140737488355328:Nat)->(ak b).fst<(18446744073709551616:Nat)->a7 (↑(ak b).snd.fst:Int)->a7 g->(¬g=c->c=a.num/\c=a.fl/\c=(a.k:Int)/\g=a.e)/\(g=c->d/\(i<=f->d)/\(o->d/\(¬j->d))/\((f<i\/(↑(1000:Nat):Int)<f)\/¬j/\¬(h:Int)=(↑(2:Nat):Int)->c=a.num/\c=a.fl/\c=(a.k:Int)/\(6:Int)=a.e)/\(o/\(j\/(h:Int)=(↑(2:Nat):Int))->d/\d/\de ((ak b).fst / (8:Nat))=a.num/\de h=a.fl/\(↑(ak b).snd.fst:Int)=(a.k:Int)/\c=a.e))) (i<=f/\f<=(↑(1000:Nat):Int))) (↑((ak b).fst / (8:Nat)):Int)) ((h:Int)=(↑(0:Nat):Int))) ((ak b).fst % (8:Nat))) ((0:Nat)<(8:Nat))) (0:Int)) (aA b)) (ak b).snd.snd) (↑(1:Nat):Int));(repeat' with_reducible first|apply aT|refine aW ?_|intro)
 all_goals (first | exact bR | (rw [yq ab] <;> rfl) | (rw [yC ab az] <;> rfl) | (rw [FV ab az] <;> exact iA az) | (have:=(mT (l:=b) (k:=0) (n:=0) az).1; change (ak b).2.1<=11 at this; omega))
def On:Kn:=aH (ae (kT (.nm .field)) ao) au fun (f,_) _=>⟨[f.b.length<=16384],[.c (.own 0)],some ([.row 5 .u8 ((bZ f))]),true⟩
def ac4:CK 222 On:=ag fun (f,_) _ d=>by
 have e:=b_ d;refine cr pL [] func222 (?_:(fun (a:Nat)=>(fun (c:List UInt8)=>a7 f.num->a7 f.fl->f.n.n<18446744073709551616->a*1<=140737488355328->a7 (jQ f.num f.fl)->(f.fl=0->(c.length+(bF f.n.n).length)*1<=140737488355328/\c++bF f.n.n=bZ f)/\(¬f.fl=0->0<=(a:Int)/\(c.length+(bF a).length)*1<=140737488355328/\((c++bF a).length+a)*1<=140737488355328/\c++bF a++f.b=bZ f)) (lr f.num f.fl)) f.b.length);(repeat' with_reducible first|apply aT|refine aW ?_|intro)
 all_goals (first | exact (Ja ab) | exact (Ht ab) | (have:=mF f.num f.fl; have:=cO (n:=f.n.n) ab; omega) | (have:=mF f.num f.fl; have:=cO (n:=f.b.length) az; (try simp only [r5]); omega))
def UQ:Kn:=aH (ae (kC cI) ao) au fun (q,_) _=>⟨[q=1],[.c (.fz (.nm .spec) ((aU)))],none,false⟩
def afC:CK 254 UQ:=ag fun (q,_) _ u=>by
 have v:=b_ u;refine aq pL [] func254 (?_:(fun s=>(fun p=>(fun j=>(fun i=>(fun r=>(fun l=>(fun g=>(fun d=>(fun f=>(fun c=>(fun e=>(fun t=>(fun o=>(fun h=>(fun a=>a7 q->a->c->a->a->c->a->d->c->a->l->c->a->a7 i->c->a->a7 j->c->a->a7 p->c->a->a7 s->d->a->a7 8->d->l->a->c->a->a->c->a->d->c->a->d->c->a->l->d->a->l->d->a->a7 i->c->d->a7 j->d->l->a->c->a->a->c->a->d->c->a->d->c->a->a->c->a->a->c->a->d->c->a->l->c->a->a7 i->c->a->a->c->a->a->c->a->d->c->a->d->c->a->l->c->a->a7 i->d->a->a7 i->d->a->a7 j->d->a->a7 j->d->a->a7 p->d->a->a7 p->d->a->a7 s->c->l->a->c->a->a->c->a->d->c->a->d->c->a->l->c->a->l->c->a->a7 i->c->a->a7 i->c->a->a7 j->c->a->a7 p->c->a->a7 s->c->a->a7 8->c->a->a7 9->c->a->a7 10->d->a->a7 10->d->a->a->c->a->a->c->a->d->d->a->(if q=s then some [h,k9.mk g g e false false] else if q=p then some [h,o,k9.mk r f e true false,k9.mk i f e true false,k9.mk j f e false false,k9.mk p f e false false,k9.mk s f e false false,k9.mk 8 f e false false,k9.mk 9 f e false false,k9.mk 10 g e false true] else if q=j then some [h,o,t,k9.mk i g e false true,k9.mk j g e false true,k9.mk p g e false true,k9.mk s f r false false] else if q=i then some [h,k9.mk g f e false false,t,k9.mk i f e false false] else if q=r then some [h,o] else if q=g then some [h,o,k9.mk r g e true false,k9.mk i f g false false,k9.mk j g r false false] else if q=e then some [h,k9.mk g f e false false,t,k9.mk i f e false false,k9.mk j f e false false,k9.mk p f e false false,k9.mk s g e false false,k9.mk 8 g r false false] else none).getD (c5 (Sh.nm NT.spec).G7)=aU) (a7 e)) (k9.mk e f e true false)) (k9.mk g f e true false)) (k9.mk r f e false false)) (1:Int)) (a7 f)) (0:Int)) (a7 g)) (2:Int)) (a7 r)) (3:Int)) (4:Int)) (5:Int)) (6:Int)) (7:Int));subst v; (repeat' with_reducible first|apply aT|refine aW ?_|intro);all_goals (exact rfl)
def OB:Kn:=aH (ae (kC (cL .u8)) ao) au fun (b,_) _=>⟨[b.length<=100000],[.c (.fz .int ((fN b))),.c (.int ((iU b)))],none,false⟩
theorem aeH:CK 333 OB:=ag fun (b,_) _ g=>by
 have h:=b_ g;refine aq pL (akD b) func333 (?_:(fun (f:Prop)=>b.length*(1:Nat)<=(140737488355328:Nat)->∃ (e:Nat),(b=b/\(0:Int)=(e:Int)/\bG (take e b)=[])/\e<=b.length/\∀ (s:Nat),(fun (c:List Int)=>(fun (a:Nat × Nat × Int)=>s<=b.length->((s:Int)<(b.length:Int)->(0:Int)<=(s:Int)/\(s:Int)<=(b.length:Int)/\(a.fst<(18446744073709551616:Nat)->a7 (a.snd.fst:Int)->a7 a.snd.snd->(¬a.snd.snd=(0:Int)\/(↑(64:Nat):Int)<(a.fst:Int)->f)/\(a.snd.snd=(0:Int)/\(a.fst:Int)<=(↑(64:Nat):Int)->(c.length+[de a.fst].length)*(8:Nat)<=(140737488355328:Nat)/\a7 ((s:Int)+(a.snd.fst:Int))/\∃ (d:Nat),(b=b/\(s:Int)+(a.snd.fst:Int)=(d:Int)/\c++[de a.fst]=bG (take d b))/\d <= b.length/\b.length - d < b.length - s)))/\((b.length:Int)<=(s:Int)->(bI c=false->f)/\(bI c=true->c=fN b/\(0:Int)=iU b))) (ak (drop s b))) (bG (take s b))) (fN b=[]/\(6:Int)=iU b));iterate 3 ((all_goals (repeat' with_reducible first|apply aT|refine aW ?_|intro)); (all_goals try (first | exact bR | exact (Ge (ukR ab ap)) | exact (FG (ukR ab ap)).symm | exact (FG (R_ (k:=‹Nat›) az ab)).symm | exact (Ge (R_ (k:=‹Nat›) az ab)) | exact (Jd az ab) | exact (Ku (k:=‹Nat›) az ab) | exact (ukS ab ab ab).1 | exact (ukS ab ab ab).2 | exact (Qu az az) | (have:=(ukS ab ab ab).1; refine cY ?_ ?_ <;> omega))); all_goals try first | refine ⟨‹Nat› + 1,?_⟩ | refine ⟨0,?_⟩)
def ajr:ck:=(aI 333 OB (aI 254 UQ (aI 222 On (aI 355 OP ajb))))
def kS:ay prog (av l6) ajr:=(ah aeH (ah afC (ah ac4 (ah adi pL))))
variable {l:List Field}
def ael (a:k<=l.length) (c:0<(k:Int)):l[k - 1]? = some (l.getD ((k:Int) - 1).toNat (c5 (.nm .field))):=by
 rw [show ((k:Int) - 1).toNat=k - 1 by omega,ts,p6 az]; rfl
variable {x:Field}
def Kg (h:(k:Int)<=0\/du (l.getD ((k:Int) - 1).toNat (c5 (.nm .field))) x=true) (a:k<=l.length):zJ l k x:=by
 by_cases c:0<(k:Int)
 ·exact .inr ⟨_,ael a c,h.resolve_left az⟩
 exact .inl az
def agW {v:Int}:(((aU.take k).filter (fun s=>decide (s.since<=v))).length+1)*32<=140737488355328:=by
 have:=BT (v:=v) (k:=k); omega
theorem abg {v:Int} (a:1<=v) (c:v<=3) (d:8<=(k:Int)):(aU.take k).filter (fun s=>decide (s.since<=v))=aC v:=Tn az (by show 8<=k; omega)
def akP {v:Int}:bL (l.take 0) v=[]:=rfl
def agV {v:Int}:c_ (l.take 0) v=[]:=rfl
def agZ {v:Int} (a:l[k]? = some x) (h:x.num<=v):bL (l.take k) v++[x]=bL (l.take (k+1)) v:=XV a h
def aih {v:Int} (a:l[k]? = some x) (h:¬ x.num<=v):bL (l.take k) v=bL (l.take (k+1)) v:=ab4 a h
def ajj {v:Int} (a:l[k]? = some x) (h:¬ x.num<=v):c_ (l.take k) v++[x]=c_ (l.take (k+1)) v:=Yt a h
def akZ {v:Int} (a:l[k]? = some x) (h:x.num<=v):c_ (l.take k) v=c_ (l.take (k+1)) v:=ae0 a h
def ak1 {v:Int} (a:l.length<=k):bL (l.take k) v=bL l v:=LN a
def ahA {v:Int} (a:l.length<=k):c_ (l.take k) v=c_ l v:=Sz a
attribute [local irreducible] bL c_
def afO (l:List Field):List (Nat × LI):=[(3,{ σ:=Nat,F:=fun k=>([(0,one (.fz (.nm .field) (l))),(3,one (.int (fx (l.take k):Nat))),(6,one (.fz (.nm .field) (l))),(7,one (.int (l).length)),(8,one (.int k))],[]),J:=fun k=>k<=l.length/\dC none l=dC (eL l k) (l.drop k)/\fx (l.take k)<=k*16404,μ:=fun k=>(l).length - k })]
def adE (q:Int) (v:Int):List (Nat × LI):=[(5,{ σ:=Nat,F:=fun k=>([(1,one (.int (v))),(5,one (.own 0)),(15,one (.fz (.nm .spec) aU)),(16,one (.int 8)),(17,one (.int k))],[.row 255 (.nm .spec) (((aU.take k).filter (fun (s:k9)=>decide (s.since<=v))))]),J:=fun k=>k<=8,μ:=fun k=>8 - k })]
def Xg (l:List Field) (v:Int):List (Nat × LI):=[(2,{ σ:=Nat,F:=fun k=>([(1,one (.int (v))),(4,one (.own 0)),(5,one (.own 1)),(8,one (.fz (.nm .field) (l))),(9,one (.int (l).length)),(10,one (.int k))],[.row 219 (.nm .field) ((bL (l.take k) v)),.row 219 (.nm .field) ((c_ (l.take k) v))]),J:=fun k=>k<=l.length,μ:=fun k=>(l).length - k })]
def acy (l:List Field):List (Nat × LI):=[(3,{ σ:=Nat,F:=fun k=>([(2,one (.ptr 0 0)),(3,one (.ptr 1 0)),(6,one (.fz (.nm .field) (l))),(7,one (.int (l).length)),(8,one (.int k))],[.box 35 (cellsOf (.nm .command) (bM)),.box 35 (cellsOf (.nm .command) ((cj (l.take k))))]),J:=fun k=>k<=l.length,μ:=fun k=>(l).length - k })]
def Is:Kn:=aH (ae (kC (bm 0 0)) (ae (kC (bm 1 0)) ao)) (aF (eu 50 (ax (cL .u8) dY)) (aF (eu 3 (ax cI dY)) au)) fun _ ((b,_),(s,_),_)=>⟨[0<=s,s<=(b.length:Int),b.length*1<=140737488355328],[.c (.u64 ((y1.mk (ak (b.drop s.toNat)).1)).n),.c (.int (((ak (b.drop s.toNat)).2.2)))],some ([.box 50 ([.fz .u8 ((b))]),.box 3 ([.int ((s+((ak (b.drop s.toNat)).2.1:Nat)))])]),false⟩
def XC:CK 356 Is:=ag fun _ ((b,_),(s,_),_) c=>by
 have d:=b_ c;have e:=b_ (dv c);have f:=b_ (dv (dv c));refine bP kS [] func356 (?_:(fun a=>0<=s/\s<=(b.length:Int)/\(a.fst<18446744073709551616->a7 (a.snd.fst:Int)->a7 a.snd.snd->a7 (s+(a.snd.fst:Int))/\a.fst=(ak (drop s.toNat b)).fst/\a.snd.snd=(ak (drop s.toNat b)).snd.snd/\b=b/\s+(a.snd.fst:Int)=s+(↑(ak (drop s.toNat b)).snd.fst:Int))) (ak (drop s.toNat b)));(repeat' with_reducible first|apply aT|refine aW ?_|intro)
 all_goals (first | exact bR | (have:=(jv b s.toNat).1; refine cY ?_ ?_ <;> omega))
def AI:Kn:=aH (ae (kC (cL .u8)) ao) au fun (b,_) _=>⟨[],[.agg (cellsOf (.nm .field) (f_ b))],none,false⟩
def Vj:CK 330 AI:=ag fun (b,_) _ _=>by
 refine aq kS [] func330 (?_:(fun a=>(fun c=>(fun d=>b.length*1<=140737488355328->a7 a.num->a7 a.fl->a7 (a.k:Int)->a7 a.e->0<=(a.k:Int)/\(a.k:Int)<=(b.length:Int)/\(c.fst<18446744073709551616->a7 (c.snd.fst:Int)->a7 c.snd.snd->(a.fl=0->a.num=(f_ b).num/\a.fl=(f_ b).fl/\c.fst=(f_ b).n.n/\(f_ b).b=[])/\(¬a.fl=0->a7 d/\0<=d/\d<=(b.length:Int)/\(drop d.toNat b).length*1<=140737488355328/\a.num=(f_ b).num/\a.fl=(f_ b).fl/\0=(f_ b).n.n/\drop d.toNat b=(f_ b).b))) ((a.k:Int)+(c.snd.fst:Int))) (ak (drop a.k b))) (aA b));(repeat' with_reducible first|apply aT|refine aW ?_|intro)
 all_goals (first | exact bR | exact (hC Field.num (HX ab)) | exact (hC Field.fl (HX ab)) | exact (hC (fun f=>f.n.n) (HX ab)) | exact (hC Field.b (HX ab)).symm | exact (hC Field.num (JB ab)) | exact (hC Field.fl (JB ab)) | exact (hC (fun f=>f.n.n) (JB ab)) | exact (hC Field.b (JB ab)) | (have g:=ll b; have h:=jv b (aA b).k; first | omega | (refine cY ?_ ?_ <;> omega) | (rw [length_drop]; omega)))
def IY:Kn:=aH (ae (kC (cL (.nm .field))) ao) au fun (l,_) _=>⟨[],[.c (.int ((bX l)))],none,false⟩
theorem ZC:CK 221 IY:=ag fun (l,_) _ _=>by
 refine aq kS (afO l) func221 (?_:(fun (o:l5 (Sh.nm NT.field))=>(fun (c:Nat)=>(fun (d:Int)=>(fun (g:Int)=>l.length*48<=140737488355328->∃ (h:Nat),(l=l/\d=(↑(fx (take h l)):Int)/\l=l/\(l.length:Int)=(c:Int)/\d=(h:Int))/\(h<=c/\dC none l=dC (eL l h) (drop h l)/\fx (take h l)<=h*16404)/\∀ (s:Nat),(fun (j:Int)=>(fun (a:Int)=>(fun (i:l5 (Sh.nm NT.field))=>s<=c/\dC none l=dC (eL l s) (drop s l)/\fx (take s l)<=s*16404->(a<(c:Int)->d<=a/\a<(l.length:Int)/\∀ (x:Field),l[s]? = some x->a7 x.num->a7 x.fl->x.n.n<18446744073709551616->x.b.length*1<=140737488355328->(dp x=false->g=bX l)/\(dp x=true->(d<a->a7 (a - g))/\(d<a->d<=a - g/\a - g<(l.length:Int))/\((d<a->a7 i.num/\a7 i.fl/\i.n.n<18446744073709551616/\i.b.length*1<=140737488355328)->(d<a/\du i x=false->5=bX l)/\(a<=d\/du i x=true->(16384<(x.b.length:Int)->4=bX l)/\((x.b.length:Int)<=16384->x.b.length<=16384/\a7 (j+(↑(bZ x).length:Int))/\a7 (a+g)/\∃ (e:Nat),(l=l/\j+(↑(bZ x).length:Int)=(↑(fx (take e l)):Int)/\l=l/\(c:Int)=(c:Int)/\a+g=(e:Int))/\(e <= c/\dC none l=dC (eL l e) (drop e l)/\fx (take e l)<=e * 16404)/\c - e < c - s)))))/\((c:Int)<=a->(16384<j->4=bX l)/\(j<=16384->d=bX l))) (l.getD (a - g).toNat o)) (s:Int)) (↑(fx (take s l)):Int)) 1) 0) l.length) (c5 (Sh.nm NT.field)));iterate 3 ((all_goals (repeat' with_reducible first|apply aT|refine aW ?_|intro)); (all_goals try (first | exact bR | exact rfl | exact (sh 0) | exact (Oc ab ab ab) | exact (To ab ab ab az (ael az ab) ab) | exact (PS ab ab ab (Kg ap az) ab) | exact (DY ab ab ab (Kg ap az) az) | exact (NV ab az ab) | exact (Pb ab az az) | (have p:=kM (f:=‹Field›) az ab; have q:=DM (show l[_]? = some ‹Field› by with_reducible assumption); first | omega | (refine cY ?_ ?_ <;> omega)))); all_goals try first | refine ⟨‹Nat› + 1,?_⟩ | refine ⟨0,?_⟩)
def Ic:Kn:=aH (ae (kC cI) (ae (kC cI) ao)) au fun (q,v,_) _=>⟨[q=1],[.c (.fz (.nm .spec) ((aC v)))],none,false⟩
theorem WH:CK 220 Ic:=ag fun (q,v,_) _ i=>by
 have j:=b_ i;refine aq kS (adE q v) func220 (?_:(fun (d:Int)=>(fun (e:Int)=>(fun (c:Nat)=>a7 q->a7 v->(v<e\/3<v->aC v=[])/\(e<=v/\v<=3->q=e/\(aU.length*32<=140737488355328->∃ (h:Nat),(v=v/\aU=aU/\(aU.length:Int)=d/\0=(h:Int)/\filter (fun (s:k9)=>decide (s.since<=v)) (take h aU)=[])/\h<=c/\∀ (s:Nat),(fun (f:Int)=>(fun (g:List (l5 (Sh.nm NT.spec)))=>s<=c->((s:Int)<d->0<=(s:Int)/\(s:Int)<(aU.length:Int)/\∀ (x:k9),aU[s]? = some x->jB x ((x.since<=v->(g.length+[x].length)*32<=140737488355328/\a7 f/\∃ (a:Nat),(v=v/\aU=aU/\d=d/\f=(a:Int)/\g++[x]=filter (fun (s:k9)=>decide (s.since<=v)) (take a aU))/\a <= c/\c - a < c - s)/\(v<x.since->a7 f/\∃ (a:Nat),(v=v/\aU=aU/\d=d/\f=(a:Int)/\g=filter (fun (s:k9)=>decide (s.since<=v)) (take a aU))/\a <= c/\c - a < c - s)))/\(d<=(s:Int)->g=aC v)) (filter (fun (s:k9)=>decide (s.since<=v)) (take s aU))) ((s:Int)+e)))) 8) 1) 8);iterate 3 ((all_goals (repeat' with_reducible first|apply aT|refine aW ?_|intro)); (all_goals try (first | exact bR | exact (Lt ab).symm | exact (Bt ab ab) | exact (Jx ab az) | exact agW | exact (abg az az az) | (have o:aU.length=8:=rfl; omega))); all_goals try first | refine ⟨‹Nat› + 1,?_⟩ | refine ⟨0,?_⟩)
def Dd:Kn:=aH (ae (kC (cL (.nm .field))) (ae (kC cI) ao)) au fun (l,v,_) _=>⟨[],[.c (.fz (.nm .field) ((bL l v))),.c (.fz (.nm .field) ((c_ l v)))],none,false⟩
theorem Nr:CK 288 Dd:=ag fun (l,v,_) _ _=>by
 refine aq kS (Xg l v) func288 (?_:(fun (c:Nat)=>(fun (e:Int)=>l.length*48<=140737488355328->a7 v->∃ (f:Nat),(v=v/\l=l/\(l.length:Int)=e/\0=(f:Int)/\bL (take f l) v=[]/\c_ (take f l) v=[])/\f<=c/\∀ (s:Nat),(fun (d:List Field)=>(fun (g:Int)=>s<=c->((s:Int)<e->0<=(s:Int)/\(s:Int)<(l.length:Int)/\∀ (x:Field),(fun (h:Prop)=>l[s]? = some x->a7 x.num->a7 x.fl->x.n.n<18446744073709551616->h->h->(x.num<=v->((bL d v).length+[x].length)*48<=140737488355328/\a7 g/\∃ (a:Nat),(v=v/\l=l/\e=e/\g=(a:Int)/\bL d v++[x]=bL (take a l) v/\c_ d v=c_ (take a l) v)/\a <= c/\c - a < c - s)/\(v<x.num->((c_ d v).length+[x].length)*48<=140737488355328/\a7 g/\∃ (a:Nat),(v=v/\l=l/\e=e/\g=(a:Int)/\bL d v=bL (take a l) v/\c_ d v++[x]=c_ (take a l) v)/\a <= c/\c - a < c - s)) (x.b.length*1<=140737488355328))/\(e<=(s:Int)->bL d v=bL l v/\c_ d v=c_ l v)) ((s:Int)+1)) (take s l)) (c:Int)) l.length);iterate 3 ((all_goals (repeat' with_reducible first|apply aT|refine aW ?_|intro)); (all_goals try (first | exact bR | exact akP | exact agV | exact (agZ ab ab) | exact (aih ab az) | exact (ajj ab az) | exact (akZ ab ab) | exact (ak1 az) | exact (ahA az) | (have i:=IX (l.take ‹Nat›) v; have j:=sL (l.take ‹Nat›) v; rw [s9] at i j; simp only [y4,C1]; omega))); all_goals try first | refine ⟨‹Nat› + 1,?_⟩ | refine ⟨0,?_⟩)
def ID:Kn:=aH (ae (kC (cL (.nm .field))) ao) au fun (l,_) _=>⟨[∀ f ∈ l,f.b.length<=16384],[.agg (cellsOf (.nm .command) (cj l))],none,false⟩
theorem YM:CK 289 ID:=ag fun (l,_) _ z=>by
 have A:=b_ z;refine aq kS (acy l) func289 (?_:(fun (p:Prop)=>(fun (j:Int)=>(fun (w:Int)=>(fun (e:Nat)=>(fun (r:Prop)=>l.length*48<=140737488355328->∃ (y:Nat),(fun (v:b5)=>(p/\(l.length:Int)=(e:Int)/\j=(y:Int)/\j=bM.kind/\j=bM.a6/\j=bM.seq/\j=bM.set/\j=bM.id/\j=bM.n/\bM.b9=[]/\o3.mk []=bM.text/\j=v.kind/\j=v.a6/\j=v.seq/\j=v.set/\j=v.id/\j=v.n/\v.b9=[]/\o3.mk []=v.text)/\y<=e/\∀ (s:Nat),(fun (t:Nat)=>(fun (q:Int)=>(fun (u:Prop)=>(fun (d:b5)=>(fun (f:o3)=>(fun (g:Int)=>(fun (h:List Int)=>(fun (i:Int)=>s<=e->((s:Int)<(e:Int)->j<=(s:Int)/\(s:Int)<(l.length:Int)/\∀ (x:Field),(fun (o:Int)=>(fun (c:Int)=>l[s]? = some x->a7 c->a7 x.fl->x.n.n<18446744073709551616->x.b.length*1<=140737488355328->(c=w->u/\∃ (a:Nat),(p/\r/\q=(a:Int)/\aX bM bM (aG (b5.mk o i d.seq d.set d.id d.n h f) (cj (take a l))))/\a <= e/\e - a < t)/\(¬c=w->(c=2->u/\∃ (a:Nat),(p/\r/\q=(a:Int)/\aX bM bM (aG (b5.mk g o d.seq d.set d.id d.n h f) (cj (take a l))))/\a <= e/\e - a < t)/\(¬c=2->(c=3->u/\∃ (a:Nat),(p/\r/\q=(a:Int)/\aX bM bM (aG (b5.mk g i o d.set d.id d.n h f) (cj (take a l))))/\a <= e/\e - a < t)/\(¬c=3->(c=4->u/\∃ (a:Nat),(p/\r/\q=(a:Int)/\aX bM bM (aG (b5.mk g i d.seq o d.id d.n h f) (cj (take a l))))/\a <= e/\e - a < t)/\(¬c=4->(c=5->u/\∃ (a:Nat),(p/\r/\q=(a:Int)/\aX bM bM (aG (b5.mk g i d.seq d.set o d.n h f) (cj (take a l))))/\a <= e/\e - a < t)/\(¬c=5->(c=6->u/\∃ (a:Nat),(p/\r/\q=(a:Int)/\aX bM bM (aG (b5.mk g i d.seq d.set d.id o h f) (cj (take a l))))/\a <= e/\e - a < t)/\(¬c=6->(c=7->x.b.length<=100000/\((fN x.b).length*8<=140737488355328->a7 (iU x.b)->u/\∃ (a:Nat),(p/\r/\q=(a:Int)/\aX bM bM (aG (b5.mk g i d.seq d.set d.id d.n (fN x.b) f) (cj (take a l))))/\a <= e/\e - a < t))/\(¬c=7->(c=8->u/\∃ (a:Nat),(p/\r/\q=(a:Int)/\aX bM bM (aG (b5.mk g i d.seq d.set d.id d.n h (o3.mk x.b)) (cj (take a l))))/\a <= e/\e - a < t)/\(¬c=8->u/\∃ (a:Nat),(p/\r/\q=(a:Int)/\aX bM bM (aG d (cj (take a l))))/\a <= e/\e - a < t))))))))) x.num) (de x.n.n))/\((e:Int)<=(s:Int)->aG d (cj l))) d.a6) d.b9) d.kind) d.text) (cj (take s l))) (a7 q)) ((s:Int)+w)) (e - s)) (cj (take y l))) ((e:Int)=(e:Int))) l.length) 1) 0) (l=l));iterate 3 ((all_goals (repeat' with_reducible first|apply aT|refine aW ?_|intro)); (all_goals try (first | exact bR | exact rfl | (have:=A _ (A9 ab); omega) | (rw [dS ab,<- ani ab] <;> exact (ef ab).symm) | (rw [dS ab,<- apB ab] <;> first | rfl | exact (ef ab).symm) | (rw [dS ab,<- aov ab] <;> exact (ef ab).symm) | (rw [dS ab,<- amY ab] <;> first | rfl | exact (ef ab).symm) | (rw [dS ab,<- am3 ab] <;> exact (ef ab).symm) | (rw [dS ab,<- anM ab] <;> first | rfl | exact (ef ab).symm) | (rw [dS ab,<- aoJ ab] <;> exact (ef ab).symm) | (rw [dS ab,<- anV ab] <;> first | rfl | exact (ef ab).symm) | (rw [dS ab,<- aoq az] <;> exact (ef ab).symm) | (rw [r6 az]))); all_goals try first | refine ⟨‹Nat› + 1,?_⟩ | refine ⟨0,?_⟩)
def akE:ck:=(aI 289 ID (aI 288 Dd (aI 220 Ic (aI 221 IY (aI 330 AI (aI 356 Is ajr))))))
def pB:ay prog (av l6) akE:=(ah YM (ah Nr (ah WH (ah ZC (ah Vj (ah XC kS))))))
def Kh:Kn:=aH (ae (kC cI) (ae (kC cI) (ae (kC (bm 0 0)) ao))) (aF (eu 177 (ax (O9 true) dY)) au) fun (k,n,_,_) ((_,_),_)=>⟨[0<=n],[],some ([.box 177 ([.own 1]),.row 219 (.nm .field) ((oc k n))]),false⟩
def YG:CK 223 Kh:=ag fun (k,n,_,_) ((_,_),_) a=>by
 have c:=b_ a;refine bP pB [] func223 (?_:a7 k->a7 n->(¬n=0->0<=n/\[Field.mk k 0 (y1.mk n.toNat) []].length*48<=140737488355328/\[Field.mk k 0 (y1.mk n.toNat) []]=oc k n)/\(n=0->oc k n=[]));(repeat' with_reducible first|apply aT|refine aW ?_|intro)
 all_goals (first | exact bR | exact (ajZ (xs:=[]) ab) | exact (ak6 (xs:=[]) ab).symm | (simp only [y4,C1]; omega))
def HB:Kn:=aH (ae (kC cI) (ae (kC cI) (ae (kC (bm 0 0)) ao))) (aF (eu 177 (ax (fE 1) dY)) (aF (fD 219 (.nm .field)) au)) fun (k,n,_,_) ((_,_),a,_)=>⟨[0<=n,a.length<=1000],[],some ([.box 177 ([.own 1]),.row 219 (.nm .field) ((a++oc k n))]),false⟩
def Y_:CK 223 HB:=ag fun (k,n,_,_) ((_,_),a,_) c=>by
 have d:=b_ c;have e:=b_ (dv c);refine bP pB [] func223 (?_:a7 k->a7 n->(¬n=0->0<=n/\(a.length+[Field.mk k 0 (y1.mk n.toNat) []].length)*48<=140737488355328/\a++[Field.mk k 0 (y1.mk n.toNat) []]=a++oc k n)/\(n=0->a=a++oc k n));(repeat' with_reducible first|apply aT|refine aW ?_|intro)
 all_goals (first | exact bR | exact (ajZ ab) | exact (ak6 ab) | (simp only [y4,C1]; omega))
def Kr:Kn:=aH (ae (kC cI) (ae (kC (cL .u8)) (ae (kC (bm 0 0)) ao))) (aF (eu 177 (ax (O9 true) dY)) au) fun (k,b,_,_) ((_,_),_)=>⟨[],[],some ([.box 177 ([.own 1]),.row 219 (.nm .field) ((sF k b))]),false⟩
def XE:CK 224 Kr:=ag fun (k,b,_,_) ((_,_),_) _=>by
 refine bP pB [] func224 (?_:a7 k->b.length*1<=140737488355328->(0<(b.length:Int)->[Field.mk k 2 (y1.mk 0) b].length*48<=140737488355328/\[Field.mk k 2 (y1.mk 0) b]=sF k b)/\((b.length:Int)<=0->sF k b=[]));(repeat' with_reducible first|apply aT|refine aW ?_|intro)
 all_goals (first | exact (aiJ (xs:=[]) ab) | exact (air (xs:=[]) az).symm | (simp only [y4,C1]; omega))
def HS:Kn:=aH (ae (kC cI) (ae (kC (cL .u8)) (ae (kC (bm 0 0)) ao))) (aF (eu 177 (ax (fE 1) dY)) (aF (fD 219 (.nm .field)) au)) fun (k,b,_,_) ((_,_),a,_)=>⟨[a.length<=1000],[],some ([.box 177 ([.own 1]),.row 219 (.nm .field) ((a++sF k b))]),false⟩
def Zt:CK 224 HS:=ag fun (k,b,_,_) ((_,_),a,_) c=>by
 have d:=b_ c;refine bP pB [] func224 (?_:a7 k->b.length*1<=140737488355328->(0<(b.length:Int)->(a.length+[Field.mk k 2 (y1.mk 0) b].length)*48<=140737488355328/\a++[Field.mk k 2 (y1.mk 0) b]=a++sF k b)/\((b.length:Int)<=0->a=a++sF k b));(repeat' with_reducible first|apply aT|refine aW ?_|intro)
 all_goals (first | exact (aiJ ab) | exact (air az) | (simp only [y4,C1]; omega))
def ZW:ck:=(aI 224 HS (aI 224 Kr (aI 223 HB (aI 223 Kh akE))))
def By:ay prog (av l6) ZW:=(ah Zt (ah XE (ah Y_ (ah YG pB))))
def xD:Kn:=aH (ae (kT (.nm .command)) (ae (kC cI) ao)) au fun (c,v,_) _=>⟨[0<=c.kind,0<=c.a6,0<=c.seq,0<=c.set,0<=c.id,0<=c.n],[.c (.own 0)],some ([.row 219 (.nm .field) ((bE c v))]),true⟩
def KF:CK 163 xD:=ag fun (c,v,_) _ d=>by
 have t:=b_ d;have o:=b_ (dv d);have p:=b_ (dv (dv d));have q:=b_ (dv (dv (dv d)));have r:=b_ (dv (dv (dv (dv d))));have s:=b_ (dv (dv (dv (dv (dv d)))));refine cr By [] func163 (?_:(fun e=>(fun j=>(fun a=>(fun g=>(fun h=>(fun i=>(fun f=>bc c (a7 v->e<=c.kind/\e<=c.a6/\(oc 1 c.kind).length<=a/\e<=c.seq/\j.length<=a/\e<=c.set/\i.length<=a/\e<=c.id/\(i++oc 4 c.set).length<=a/\e<=c.n/\f.length<=a/\((bK c.b9).length*1<=140737488355328->a7 (cu c.b9)->(f++g).length<=a/\(3<=v->(f++g++h).length<=a/\f++g++h++sF 8 c.text.b=bE c v)/\(v<3->f++g++h=bE c v)))) (i++oc 4 c.set++oc 5 c.id)) (j++oc 3 c.seq)) (sF 7 (bK c.b9))) (oc 6 c.n)) (1000:Nat)) (oc 1 c.kind++oc 2 c.a6)) (0:Int));(repeat' with_reducible first|apply aT|refine aW ?_|intro)
 all_goals (first | (rw [bE,eg az]; rfl) | (rw [bE,dc az]; rfl) | (have o:=gH 1 c.kind; have p:=gH 2 c.a6; have q:=gH 3 c.seq; have r:=gH 4 c.set; have s:=gH 5 c.id; have u:=gH 6 c.n; have w:=Gf 7 (bK c.b9); (try simp only [r5]); omega))
def abd:ck:=(aI 163 xD ZW)
def oR:ay prog (av l6) abd:=(ah KF By)
def acT (h:(aA b).e=0) (a:(ak (b.drop (aA b).k)).2.2=0) (c:¬ (aA b).fl=0) (f:(ak (b.drop (aA b).k)).1<=16384) (d:((b.length:Nat):Int) - (((aA b).k:Int)+((ak (b.drop (aA b).k)).2.1:Nat))<de (ak (b.drop (aA b).k)).1):(0:Int)=((aK b).1:Nat)/\2=(aK b).2:=by
 rw [iA az] at d;rw [akt h a c az az]; exact ⟨rfl,rfl⟩
def afX (h:(aA b).e=0) (a:(ak (b.drop (aA b).k)).2.2=0) (c:¬ (aA b).fl=0) (f:(ak (b.drop (aA b).k)).1<=16384) (d:de (ak (b.drop (aA b).k)).1<=((b.length:Nat):Int) - (((aA b).k:Int)+((ak (b.drop (aA b).k)).2.1:Nat))):((aA b).k:Int)+((ak (b.drop (aA b).k)).2.1:Nat)+de (ak (b.drop (aA b).k)).1=((aK b).1:Nat)/\0=(aK b).2:=by
 rw [iA az] at d ⊢;rw [ajk h a c az az]; exact ⟨rfl,rfl⟩
def ais (l:List Field):List (Nat × LI):=[(6,{ σ:=Nat,F:=fun k=>([(5,one (.own 0)),(13,one (.fz (.nm .field) (l))),(14,one (.int (l).length)),(15,one (.int k))],[.row 5 .u8 ((((l.take k).map bZ).flatten))]),J:=fun k=>k<=l.length,μ:=fun k=>l.length - k })]
def ahE (q:Int) (v:Int):List (Nat × LI):=[(3,{ σ:=Nat,F:=fun k=>([(5,one (.int (((aC v).take k).foldl (fun t s=>max t s.num) 0))),(10,one (.fz (.nm .spec) (aC v))),(11,one (.int (aC v).length)),(12,one (.int k))],[]),J:=fun k=>k<=(aC v).length,μ:=fun k=>(aC v).length - k })]
def Ke:Kn:=aH (ae (kC (cL .u8)) ao) au fun (b,_) _=>⟨[],[.c (.int ((((aK b).1:Nat)))),.c (.int (((aK b).2)))],none,false⟩
def YO:CK 329 Ke:=ag fun (b,_) _ _=>by
 refine aq oR [] func329 (?_:(fun h=>(fun o=>(fun c=>(fun f=>(fun d=>(fun i=>(fun j=>(fun a=>(fun g=>o->a7 c.num->a7 c.fl->a7 j->a7 c.e->(¬c.e=d->i/\c.e=f)/\(c.e=d->d<=j/\j<=h/\o/\(a.fst<(18446744073709551616:Nat)->a7 a.snd.snd->(¬a.snd.snd=d->i/\a.snd.snd=f)/\(a.snd.snd=d->(c.fl=d->g=(↑(aK b).fst:Int)/\d=f)/\(¬c.fl=d->((↑(16384:Nat):Int)<(a.fst:Int)->i/\(4:Int)=f)/\((a.fst:Int)<=(↑(16384:Nat):Int)->a7 (h - g)/\(h - g<de a.fst->i/\(2:Int)=f)/\(de a.fst<=h - g->a7 (g+de a.fst)/\g+de a.fst=(↑(aK b).fst:Int)/\d=f))))))) (j+(a.snd.fst:Int))) (ak (drop c.k b))) (c.k:Int)) (d=(↑(aK b).fst:Int))) (0:Int)) (aK b).snd) (aA b)) (b.length*(1:Nat)<=(140737488355328:Nat))) (b.length:Int));(repeat' with_reducible first|apply aT|refine aW ?_|intro)
 all_goals (first | exact bR | (rw [afK ab] <;> rfl) | (rw [adT ab ab] <;> rfl) | (rw [ae3 ab ab ab] <;> rfl) | (rw [aea ab ab ab az] <;> rfl) | exact (acT ab ab ab az ab).1 | exact (acT ab ab ab az ab).2 | exact (afX ab ab ab az ab).1 | exact (afX ab ab ab az ab).2 | (have p:=ll b; have q:=jv b (aA b).k; omega) | (have p:=ll b; have q:=jv b (aA b).k; have r:=iA (m:=(ak (b.drop (aA b).k)).1) az; first | omega | (refine cY ?_ ?_ <;> omega)))
def TF:Kn:=aH (ae (kC (cL (.nm .field))) ao) au fun (l,_) _=>⟨[],[.c (.own 0),.c (.int ((bX l)))],some ([.row 5 .u8 ((iS l))]),true⟩
theorem acR:CK 162 TF:=ag fun (l,_) _ _=>by
 refine cr oR (ais l) func162 (?_:(fun (a:Nat)=>l.length*48<=140737488355328->a7 (bX l)->(¬bX l=0->bX l=bX l/\iS l=[])/\(bX l=0->∃ (d:Nat),(l=l/\(l.length:Int)=(a:Int)/\0=(d:Int)/\(List.map bZ (take d l)).flatten=[])/\d<=a/\∀ (s:Nat),(fun (e:List UInt8)=>s<=a->((s:Int)<(a:Int)->0<=(s:Int)/\(s:Int)<(l.length:Int)/\∀ (x:Field),l[s]? = some x->a7 x.num->a7 x.fl->x.n.n<18446744073709551616->x.b.length*1<=140737488355328->x.b.length<=16384/\(e.length+(bZ x).length)*1<=140737488355328/\a7 ((s:Int)+1)/\∃ (c:Nat),(l=l/\(a:Int)=(a:Int)/\(s:Int)+1=(c:Int)/\e++bZ x=(List.map bZ (take c l)).flatten)/\c <= a/\a - c < a - s)/\((a:Int)<=(s:Int)->0=bX l/\e=iS l)) (List.map bZ (take s l)).flatten)) l.length);iterate 3 ((all_goals (repeat' with_reducible first|apply aT|refine aW ?_|intro)); (all_goals try (first | exact bR | exact (Pp ab).symm | exact (xf ab) | exact (oJ ab (A9 ab)) | exact (IL ab az) | (have g:=BZ (k:=‹Nat›) (show bX l=0 by with_reducible assumption); have h:=kM (f:=‹Field›) (oJ (show bX l=0 by with_reducible assumption) (A9 ab)) ab; omega))); all_goals try first | refine ⟨‹Nat› + 1,?_⟩ | refine ⟨0,?_⟩)
def TQ:Kn:=aH (ae (kC cI) (ae (kC cI) ao)) au fun (q,v,_) _=>⟨[q=1],[.c (.int ((bw v)))],none,false⟩
theorem ade:CK 161 TQ:=ag fun (q,v,_) _ h=>by
 have i:=b_ h;refine aq oR (ahE q v) func161 (?_:(fun (d:Int)=>(fun (a:List k9)=>(fun (c:Nat)=>a7 q->a7 v->q=1/\(a.length*32<=140737488355328->∃ (f:Nat),(d=foldl (fun (t:Int) (s:k9)=>max t s.num) d (take f a)/\a=a/\(a.length:Int)=(c:Int)/\d=(f:Int))/\f<=c/\∀ (s:Nat),(fun (g:Int)=>s<=c->((s:Int)<(c:Int)->d<=(s:Int)/\(s:Int)<(a.length:Int)/\∀ (x:k9),a[s]? = some x->jB x (a7 ((s:Int)+1)/\∃ (e:Nat),(max g x.num=foldl (fun (t:Int) (s:k9)=>max t s.num) d (take e a)/\a=a/\(c:Int)=(c:Int)/\(s:Int)+1=(e:Int))/\e <= c/\c - e < c - s))/\((c:Int)<=(s:Int)->g=bw v)) (foldl (fun (t:Int) (s:k9)=>max t s.num) d (take s a)))) a.length) (aC v)) 0);iterate 3 ((all_goals (repeat' with_reducible first|apply aT|refine aW ?_|intro)); (all_goals try (first | exact bR | exact (CE ab) | (rw [bw,r6 az]))); all_goals try first | refine ⟨‹Nat› + 1,?_⟩ | refine ⟨0,?_⟩)
def ahH:ck:=(aI 161 TQ (aI 162 TF (aI 329 Ke abd)))
def sE:ay prog (av l6) ahH:=(ah ade (ah acR (ah YO oR)))
structure Wq (p:Prop):Prop where
 h:p
def gf (l:List Field):Int->Option Int:=fun q=>if dV l q=0 then none else some ((dV l q:Nat):Int)
def nS (a:List Field) (v:Int) (k:Nat):Prop:=∀ j y,j<k->a[j]? = some y->¬ y.num<=bw v
variable {xs:List Field} {f:Field}
theorem OS (h:(xs.length:Int)=0):true=fb xs f:=by
 unfold fb; rw [K0 az]
theorem FW (h:¬ (xs.length:Int)=0):du (xs.getD ((xs.length:Int) - 1).toNat (c5 (.nm .field))) f=fb xs f:=by
 unfold fb;rw [show ((xs.length:Int) - 1).toNat=xs.length - 1 by omega,ts,p6 az]; rfl
theorem Mv (l:List Field) (q:Int):(gf l q).getD (c5 .int)=((dV l q:Nat):Int):=by
 unfold gf;by_cases h:dV l q=0
 ·rw [eg h,h]; rfl
 grind
def af6 (h:l.length<=k):gf (l.take k)=gf l:=by rw [r6 h]
def XY (c:l[k]? = some x):(fun j=>if j=x.num then some ((gf (l.take k) x.num).getD (c5 .int)+1) else gf (l.take k) j)=gf (l.take (k+1)):=by
 funext j;have h:=oT c j;by_cases a:j=x.num
 ·rw [eg a] at h ⊢;rw [Mv]; unfold gf; rw [h,dc az]; rfl
 rw [dc a] at h ⊢;unfold gf; rw [h]
def W3 (a:l[k]? = some x):x=l.getD k (c5 (.nm .field)):=by rw [ts,a]; rfl
def P3 (h:k<l.length):l[k]? = some (l.getD k (c5 (.nm .field))):=by
 rw [ts,p6 h]; rfl
variable {ss:List k9}
def apT {y:k9} (h:Wq (TG ss x ((dV l x.num:Nat):Int) m)) (c:ss[m]? = some y) (a:¬ y.num=x.num\/Ie x y ((gf l x.num).getD (c5 .int))=true):Wq (TG ss x ((dV l x.num:Nat):Int) (m+1)):=
 ⟨PE h.h c fun e=>by rw [Mv] at a; exact a.resolve_left (fun h=>h e)⟩
def apN (h:Wq (vS l ss k)) (a:k<l.length) (c:Wq (TG ss (l.getD k (c5 (.nm .field))) ((dV (l.take (k+1)) (l.getD k (c5 (.nm .field))).num:Nat):Int) m)) (d:(ss.length:Int)<=(m:Int)):Wq (vS l ss (k+1)):=
 ⟨Sn h.h (P3 a) c.h az rfl⟩
def apd (h:Wq (vS l ss k)) (a:l.length<=k):Wq (vS l ss l.length):=⟨fun j x c=>h.h j x az⟩
def aok {v:Int} {y:k9} (c:(aC v)[m]? = some y) (d:y.x3=true) (a:(gf l y.num).getD (c5 .int)=0):¬ s_ l v:=ZA c ⟨d,by rw [Mv] at a; exact a⟩ rfl
theorem aoh {y:k9} (h:Wq (Nb l ss m)) (a:ss[m]? = some y) (hn:y.x3=false\/¬ (gf l y.num).getD (c5 .int)=0):Wq (Nb l ss (m+1)):=
 ⟨Oa h.h a fun c=>by
  rw [Mv] at hn;rcases hn with hn | hn
  ·grind
  omega⟩
def apf {v:Int} (a:Wq (vS l (aC v) l.length)) (c:Wq (Nb l (aC v) k)) (d:(aC v).length<=k):s_ l v:=XB a.h (sh _) c.h d
variable {rest:List Field}
def ZV {v:Int}:nS rest v 0:=fun j y h=>by omega
def abc {v:Int} (h:Wq (nS rest v k)) (a:rest[k]? = some x) (c:¬ x.num<=bw v):Wq (nS rest v (k+1)):=⟨KB h.h a c⟩
def pb1 {c:b5} {v:Int} (h:dh v=false):dw c rest v=1:=alY (by show (!(dh v))=true; rw [h]; rfl)
def pb2 {c:b5} {v:Int} (h:dh v=true) (a:eK c v=false) (d:¬ aP c v=0):dw c rest v=aP c v:=anD (by show (!(dh v))=false; rw [h]; rfl) a d
def pb3 {c:b5} {v:Int} (h:dh v=true) (a:eK c v=true\/aP c v=0) (d:rest[k]? = some x) (e:x.num<=bw v):dw c rest v=6:=amU (by show (!(dh v))=false; rw [h]; rfl) a d e
def pb0 {c:b5} {v:Int} (h:dh v=true) (a:eK c v=true\/aP c v=0) (d:Wq (nS rest v k)) (e:rest.length<=k):dw c rest v=0:=anx (by show (!(dh v))=false; rw [h]; rfl) a d.h e
def Ye (q:Int) (v:Int) (l:List Field):List (Nat × LI):=[(9,{ σ:=Nat,F:=fun k=>([(7,one (.fz (.nm .spec) (aC v))),(9,one (.mq 0)),(28,one (.fz (.nm .field) (l))),(29,one (.int (l).length)),(30,one (.int k))],[.q7 .int (gf (l.take k))]),J:=fun k=>k<=l.length/\Wq (vS l (aC v) k),μ:=fun k=>(l).length - k }),(13,{ σ:=Nat × Nat,F:=fun q=>([(7,one (.fz (.nm .spec) (aC v))),(9,one (.mq 0)),(11,one (.ptr 1 0)),(28,one (.fz (.nm .field) (l))),(29,one (.int (l).length)),(30,one (.int q.1)),(39,one (.fz (.nm .spec) (aC v))),(40,one (.int (aC v).length)),(41,one (.int q.2))],[.q7 .int (gf (l.take (q.1+1))),.box 219 (cellsOf (.nm .field) ((l.getD q.1 (c5 (.nm .field)))))]),J:=fun q=>q.1<l.length/\q.2<=(aC v).length/\Wq (vS l (aC v) q.1)/\Wq (TG (aC v) (l.getD q.1 (c5 (.nm .field))) ((dV (l.take (q.1+1)) (l.getD q.1 (c5 (.nm .field))).num:Nat):Int) q.2),μ:=fun q=>(aC v).length - q.2,R:=some fun a q=>q.1=a.1 }),(20,{ σ:=Nat,F:=fun k=>([(9,one (.mq 0)),(62,one (.fz (.nm .spec) (aC v))),(63,one (.int (aC v).length)),(64,one (.int k))],[.q7 .int (gf l)]),J:=fun k=>k<=(aC v).length/\Wq (vS l (aC v) l.length)/\Wq (Nb l (aC v) k),μ:=fun k=>(aC v).length - k })]
def aiz (c:b5) (rest:List Field) (v:Int):List (Nat × LI):=[(9,{ σ:=Nat,F:=fun k=>([(1,one (.fz (.nm .field) (rest))),(2,one (.int (v))),(3,one (.ptr 0 0)),(9,one (.int (bw v))),(27,one (.fz (.nm .field) (rest))),(28,one (.int (rest).length)),(29,one (.int k))],[.box 35 (cellsOf (.nm .command) (c))]),J:=fun k=>k<=rest.length/\Wq (nS rest v k),μ:=fun k=>rest.length - k })]
def Io:Kn:=aH (ae (kT (.nm .field)) (ae (kC (bm 0 0)) ao)) (aF (eu 177 (ax (fE 1) dY)) (aF (fD 219 (.nm .field)) au)) fun (f,_,_) ((_,_),xs,_)=>⟨[xs.length<=20000],[.c (.bool (.atom ((fb xs f))))],none,false⟩
def XG:CK 328 Io:=ag fun (f,_,_) ((_,_),xs,_) e=>by
 have g:=b_ e;refine aq sE [] func328 (?_:(fun c=>(fun d=>(fun a=>a7 f.num->a7 f.fl->f.n.n<18446744073709551616->f.b.length*1<=140737488355328->(c=0->true=fb xs f)/\(¬c=0->a7 d/\(0<=d/\d<c)/\(a7 a.num->a7 a.fl->a.n.n<18446744073709551616->a.b.length*1<=140737488355328->du a f=fb xs f))) (xs.getD d.toNat (c5 (Sh.nm NT.field)))) (c - 1)) (xs.length:Int));(repeat' with_reducible first|apply aT|refine aW ?_|intro)
 all_goals (first | exact bR | exact (OS ab) | exact (FW ab))
def Bd:Kn:=aH (ae (kC cI) (ae (kC cI) (ae (kC (cL (.nm .field))) ao))) au fun (q,v,l,_) _=>⟨[q=1],[.c (.int ((eI l v)))],none,false⟩
theorem OM:CK 287 Bd:=ag fun (q,v,l,_) _ J=>by
 have K:=b_ J;refine aq sE (Ye q v l) func287 (?_:(fun (C:Nat)=>(fun (y:Int)=>(fun (t:Int)=>(fun (u:Nat)=>(fun (z:Int)=>(fun (I:l5 (Sh.nm NT.field))=>(fun (c:List k9)=>(fun (B:Prop)=>(fun (D:Int)=>(fun (w:Nat)=>(fun (e:Int)=>a7 q->a7 v->l.length*48<=140737488355328->q=y/\(c.length*32<=140737488355328->(D=t->y=eI l v)/\(¬D=t->a7 (bX l)->(¬bX l=t->bX l=eI l v)/\(bX l=t->∃ (i:Nat),(B/\l=l/\(l.length:Int)=z/\t=(i:Int)/\(fun (_:Int)=>none)=gf (take i l))/\(i<=u/\Wq (vS l c i))/\∀ (s:Nat),s<=u/\Wq (vS l c s)->((s:Int)<z->t<=(s:Int)/\(s:Int)<(l.length:Int)/\∀ (x:Field),(fun (F:Int)=>l[s]? = some x->a7 x.num->a7 x.fl->x.n.n<18446744073709551616->x.b.length*C<=140737488355328->a7 F/\∃ (i:Nat × Nat),(fun (g:Nat)=>(fun (o:Field)=>(B/\l=l/\z=z/\(s:Int)=(g:Int)/\B/\D=e/\t=(i.snd:Int)/\(fun (j:Int)=>if j=x.num then some F else gf (take s l) j)=gf (take (g+C) l)/\x.num=o.num/\x.fl=o.fl/\x.n.n=o.n.n/\x.b=o.b)/\(g<u/\i.snd<=w/\Wq (vS l c g)/\Wq (TG c o (↑(dV (take (g+C) l) o.num):Int) i.snd))/\g=g/\∀ (a:Nat × Nat),(fun (p:Int)=>(fun (A:List Field)=>(fun (h:Field)=>a.fst<u/\a.snd<=w/\Wq (vS l c a.fst)/\Wq (TG c h (↑(dV A h.num):Int) a.snd)->a.fst=g->(p<e->t<=p/\p<D/\∀ (x:k9),(fun (G:Bool)=>c[a.snd]? = some x->jB x ((x.num=h.num/\G=false->6=eI l v)/\(¬x.num=h.num\/G=true->a7 (p+y)/\∃ (d:Nat × Nat),(fun (r:Field)=>(B/\l=l/\z=z/\(a.fst:Int)=(d.fst:Int)/\B/\e=e/\p+y=(d.snd:Int)/\gf A=gf (take (d.fst+C) l)/\h.num=r.num/\h.fl=r.fl/\h.n.n=r.n.n/\h.b=r.b)/\(d.fst<u/\d.snd<=w/\Wq (vS l c d.fst)/\Wq (TG c r (↑(dV (take (d.fst+C) l) r.num):Int) d.snd))/\d.fst=g/\w - d.snd<w - a.snd) (l.getD d.fst I)))) (Ie h x ((gf A h.num).getD (c5 Sh.int))))/\(e<=p->a7 ((a.fst:Int)+y)/\∃ (d:Nat),(B/\l=l/\z=z/\(a.fst:Int)+y=(d:Int)/\gf A=gf (take d l))/\(d <= u/\Wq (vS l c d))/\u - d < u - s)) (l.getD a.fst I)) (take (a.fst+C) l)) (a.snd:Int)) (l.getD g I)) i.fst) ((gf (take s l) x.num).getD (c5 Sh.int)+y))/\(z<=(s:Int)->∃ (i:Nat),(B/\D=e/\t=(i:Int)/\gf (take s l)=gf l)/\(i<=w/\Wq (vS l c u)/\Wq (Nb l c i))/\∀ (s:Nat),s<=w/\Wq (vS l c u)/\Wq (Nb l c s)->((s:Int)<e->t<=(s:Int)/\(s:Int)<D/\∀ (x:k9),(fun (H:Prop)=>c[s]? = some x->jB x ((x.x3=true/\H->6=eI l v)/\(x.x3=false\/¬H->a7 ((s:Int)+y)/\∃ (d:Nat),(B/\e=e/\(s:Int)+y=(d:Int)/\gf l=gf l)/\(d <= w/\Wq (vS l c u)/\Wq (Nb l c d))/\w - d < w - s))) ((gf l x.num).getD (c5 Sh.int)=t))/\(e<=(s:Int)->t=eI l v)))))) (w:Int)) c.length) (c.length:Int)) (c=c)) (aC v)) (c5 (Sh.nm NT.field))) (u:Int)) l.length) 0) 1) 1);(repeat' with_reducible first|apply aT|refine aW ?_|intro)
 all_goals try (refine ⟨0,?_⟩; (repeat' with_reducible first|apply aT|refine aW ?_|intro))
 all_goals try (refine ⟨(‹Nat›,0),?_⟩; (repeat' with_reducible first|apply aT|refine aW ?_|intro))
 all_goals try (refine ⟨(‹Nat × Nat›.1,‹Nat × Nat›.2+1),?_⟩; (repeat' with_reducible first|apply aT|refine aW ?_|intro))
 all_goals try (refine ⟨‹Nat × Nat›.1+1,?_⟩; (repeat' with_reducible first|apply aT|refine aW ?_|intro))
 all_goals try (refine ⟨0,?_⟩; (repeat' with_reducible first|apply aT|refine aW ?_|intro))
 all_goals try (refine ⟨‹Nat› + 1,?_⟩; (repeat' with_reducible first|apply aT|refine aW ?_|intro))
 all_goals (first | exact bR | exact (ajQ az) | exact (aiY az ab) | exact ⟨akz⟩ | exact ⟨akg⟩ | exact ⟨akA⟩ | exact (XY ab) | exact (hC Field.num (W3 ab)) | exact (hC Field.fl (W3 ab)) | exact (hC (fun f=>f.n.n) (W3 ab)) | exact (hC Field.b (W3 ab)) | exact (Yq az ab (YH (P3 ab) ab (And.intro ab ab) (Mv _ _))) | exact (apT ab ab ap) | exact (apN ab ab ab ab) | exact (apd ab az) | exact (af6 az) | exact (Yq az ab (aok ab ab ab)) | exact (aoh ab ab ap) | exact (ak0 az ab (apf ab ab az)) | (have L:=HO (l:=l) (k:=‹Nat›) ‹Field›.num; have N:=Mv (l.take ‹Nat›) ‹Field›.num; refine cY ?_ ?_ <;> omega))
def Vc:Kn:=aH (ae (kT (.nm .command)) (ae (kC (cL (.nm .field))) (ae (kC cI) ao))) au fun (c,rest,v,_) _=>⟨[rest.length<=20000],[.c (.own 0),.c (.int ((dE c rest v)))],some ([.row 5 .u8 ((ew c rest v))]),true⟩
theorem afm:CK 93 Vc:=ag fun (c,rest,v,_) _ p=>by
 have q:=b_ p;refine cr sE (aiz c rest v) func93 (?_:(fun (e:Int)=>(fun (i:Prop)=>(fun (a:Int)=>(fun (d:Nat)=>(fun (o:Prop)=>bc c (rest.length*48<=140737488355328->a7 v->(dh v=false->1=e/\i)/\(dh v=true->(eK c v=false->a7 (aP c v)->(¬aP c v=a->aP c v=e/\i)/\(aP c v=a->o))/\(eK c v=true->o)))) ((1:Int)=1/\(a7 (bw v)->∃ (j:Nat),(rest=rest/\v=v/\bw v=bw v/\rest=rest/\(rest.length:Int)=(d:Int)/\a=(j:Int)/\aG c c)/\(j<=d/\Wq (nS rest v j))/\∀ (s:Nat),s<=d/\Wq (nS rest v s)->((s:Int)<(d:Int)->a<=(s:Int)/\(s:Int)<(rest.length:Int)/\∀ (x:Field),rest[s]? = some x->a7 x.num->a7 x.fl->x.n.n<18446744073709551616->x.b.length*1<=140737488355328->(x.num<=bw v->6=e/\i)/\(bw v<x.num->a7 ((s:Int)+1)/\∃ (g:Nat),(rest=rest/\v=v/\bw v=bw v/\rest=rest/\(d:Int)=(d:Int)/\(s:Int)+1=(g:Int)/\aG c c)/\(g <= d/\Wq (nS rest v g))/\d - g < d - s))/\((d:Int)<=(s:Int)->a<=c.kind/\a<=c.a6/\a<=c.seq/\a<=c.set/\a<=c.id/\a<=c.n/\((bE c v).length+rest.length)*48<=140737488355328/\(a7 (bX (bE c v++rest))->bX (bE c v++rest)=e/\iS (bE c v++rest)=ew c rest v))))) rest.length) 0) (ew c rest v=[])) (dE c rest v));iterate 3 ((all_goals (repeat' with_reducible first|apply aT|refine aW ?_|intro)); (all_goals try (first | exact bR | exact rfl | exact ⟨ZV⟩ | exact (abc ab ab az) | exact (qx (pb1 ab) am) | exact (qe (pb1 ab) am).symm | exact (qx (pb2 ab ab ab) ab) | exact (qe (pb2 ab ab ab) ab).symm | exact (qx (pb3 ab (by first | exact .inl ab | exact .inr ab) ab ab) am) | exact (qe (pb3 ab (by first | exact .inl ab | exact .inr ab) ab ab) am).symm | exact (abE (pb0 ab (by first | exact .inl ab | exact .inr ab) ab az)) | exact (aao (pb0 ab (by first | exact .inl ab | exact .inr ab) ab az)) | (have h:0<=c.kind/\0<=c.a6/\0<=c.seq/\0<=c.set/\0<=c.id/\0<=c.n:=(by first | exact QG ab | exact UJ ab); omega) | (have h:=u_ c v; omega))); all_goals try first | refine ⟨‹Nat› + 1,?_⟩ | refine ⟨0,?_⟩)
def ai7:ck:=(aI 93 Vc (aI 287 Bd (aI 328 Io ahH)))
def JQ:ay prog (av l6) ai7:=(ah afm (ah OM (ah XG sE)))
def Ki (b:List UInt8) (s:Nat × List Field):Nat × List Field:=(s.1+(aK (b.drop s.1)).1,s.2++[f_ ((b.drop s.1).take (((s.1:Int)+((aK (b.drop s.1)).1:Nat)).toNat - s.1))])
def NK {s:Nat × List Field}:(Ki b s).2=s.2++[f_ ((b.drop s.1).take (aK (b.drop s.1)).1)]:=by
 unfold Ki; rw [show ((s.1:Int)+((aK (b.drop s.1)).1:Nat)).toNat - s.1=(aK (b.drop s.1)).1 by omega]
def tlB (h:16384<(b.length:Int)):aM b=([],4):=aeV az
def tlS {s:Nat × List Field} (h:Wq (eZ b s.1 s.2)) (c:(s.1:Int)<(b.length:Int)) (a:¬ (aK (b.drop s.1)).2=0):aM b=([],(aK (b.drop s.1)).2):=Zo h.h az a
theorem tlL {s:Nat × List Field} (h:Wq (eZ b s.1 s.2)) (a:(s.1:Int)<(b.length:Int)) (c:(aK (b.drop s.1)).2=0) (d:fb s.2 (f_ ((b.drop s.1).take (((s.1:Int)+((aK (b.drop s.1)).1:Nat)).toNat - s.1)))=false):aM b=([],5):=by
 obtain ⟨f,_,e⟩:=RR h.h (show s.1<b.length by omega);grind
def tlN {s:Nat × List Field} (h:Wq (eZ b s.1 s.2)) (d:(s.1:Int)<(b.length:Int)) (a:(aK (b.drop s.1)).2=0) (c:fb s.2 (f_ ((b.drop s.1).take (((s.1:Int)+((aK (b.drop s.1)).1:Nat)).toNat - s.1)))=true):Wq (eZ b (Ki b s).1 (Ki b s).2):=by
 rw [show ((s.1:Int)+((aK (b.drop s.1)).1:Nat)).toNat - s.1=(aK (b.drop s.1)).1 by omega] at c;obtain ⟨f,g,e⟩:=RR h.h (show s.1<b.length by omega);have i:=pd a;rw [NK];refine ⟨f,by show b.length - (s.1+(aK (b.drop s.1)).1)<=f; omega,?_⟩;rw [e,eg a,c,eg rfl,I6]; rfl
def tlE {s:Nat × List Field} (h:Wq (eZ b s.1 s.2)) (a:(b.length:Int)<=(s.1:Int)):aM b=(s.2,0):=adq h.h az
def nx1 {s:Nat × List Field} (a:s.1<=b.length):(Ki b s).1<=b.length:=by
 have:=pH (b.drop s.1); rw [length_drop] at this; show s.1+_<=_; omega
def nx2 {s:Nat × List Field} (c:s.2.length<=s.1) (a:(aK (b.drop s.1)).2=0):(Ki b s).2.length<=(Ki b s).1:=by
 have d:=pd a;rw [NK,r5]; simp; show _<=s.1+_; omega
def nx3 {s:Nat × List Field} (c:(s.1:Int)<(b.length:Int)) (a:(aK (b.drop s.1)).2=0):b.length - (Ki b s).1<b.length - s.1:=by
 have d:=pd a; show b.length - (s.1+_)<_; omega
def ae2 (b:List UInt8):List (Nat × LI):=[(6,{ σ:=Nat × List Field,F:=fun s=>([(0,one (.fz .u8 (b))),(4,one (.ptr 0 0)),(5,one (.fn 328 [] [(0,0)])),(6,one (.int s.1))],[.box 177 ([.own 1]),.row 219 (.nm .field) ((s.2))]),J:=fun s=>Wq (eZ b s.1 s.2)/\s.1<=b.length/\s.2.length<=s.1,μ:=fun s=>b.length - s.1 })]
def Iq:Kn:=aH (ae (kC (cL .u8)) ao) au fun (b,_) _=>⟨[],[.c (.fz (.nm .field) (((aM b).1))),.c (.int (((aM b).2)))],none,false⟩
theorem WG:CK 286 Iq:=ag fun (b,_) _ _=>by
 refine aq JQ (ae2 b) func286 (?_:(fun (p:Prop)=>(fun (g:Int)=>(fun (i:Int)=>b.length*1<=140737488355328->(16384<i->p/\4=(aM b).snd)/\(i<=16384->∃ (d:Nat × List Field),(b=b/\g=(d.fst:Int)/\d.snd=[])/\(Wq (eZ b d.fst d.snd)/\d.fst<=b.length/\d.snd.length<=d.fst)/\∀ (s:Nat × List Field),(fun (e:Int)=>(fun (j:Nat × Int)=>(fun (o:Int)=>(fun (a:Field)=>Wq (eZ b s.fst s.snd)/\s.fst<=b.length/\s.snd.length<=s.fst->(e<i->g<=e/\e<=i/\(a7 (j.fst:Int)->a7 j.snd->(¬j.snd=g->p/\j.snd=(aM b).snd)/\(j.snd=g->a7 o/\g<=e/\e<=o/\o<=i/\(a7 a.num->a7 a.fl->a.n.n<18446744073709551616->a.b.length*1<=140737488355328->s.snd.length<=20000/\(fb s.snd a=false->p/\5=(aM b).snd)/\(fb s.snd a=true->(s.snd.length+[a].length)*48<=140737488355328/\a7 o/\∃ (c:Nat × List Field),(b=b/\o=(c.fst:Int)/\s.snd++[a]=c.snd)/\(Wq (eZ b c.fst c.snd)/\c.fst<=b.length/\c.snd.length<=c.fst)/\b.length - c.fst<b.length - s.fst)))))/\(i<=e->s.snd=(aM b).fst/\g=(aM b).snd)) (f_ (take (o.toNat - s.fst) (drop s.fst b)))) (e+(j.fst:Int))) (aK (drop s.fst b))) (s.fst:Int))) (b.length:Int)) 0) ((aM b).fst=[]));iterate 3 ((all_goals (repeat' with_reducible first|apply aT|refine aW ?_|intro)); (all_goals try (first | exact bR | exact rfl | exact ⟨Ej az⟩ | (rw [tlB ab] <;> rfl) | (rw [tlS ab ab ab] <;> rfl) | (rw [tlL ab ab ab ab] <;> rfl) | (rw [tlE ab ab] <;> rfl) | exact (tlN ab ab ab ab) | exact (nx1 ab) | exact (nx2 ab ab) | exact (nx3 ab ab) | (have h:=pH (b.drop ‹Nat × List Field›.1); rw [length_drop] at h; first | omega | (refine cY ?_ ?_ <;> omega)) | (simp only [y4,C1]; omega))); all_goals try first | refine ⟨Ki b ‹Nat × List Field›,?_⟩ | refine ⟨(0,[]),?_⟩)
def ag5:ck:=(aI 286 Iq ai7)
def Jy:ay prog (av l6) ag5:=(ah WG JQ)
def Y0 {v:Int} (h:dh v=true):1<=v/\v<=3:=by
 unfold dh at h; simpa using h
def P9 {v:Int} (a:(aM b).2=0) (c:eI (aM b).1 v=0):nO b v=0:=by rw [nO,eg a,c]
def tq1 {v:Int} (h:dh v=false):cE b v=⟨bM,[],1⟩:=an5 (fun a=>by unfold dh at h; simp only [a,decide_true,Bool.and_self] at h; cases h)
def tq2 {v:Int} (h:dh v=true) (a:(aM b).2=0) (c:¬ eI (aM b).1 v=0):cE b v=⟨bM,[],eI (aM b).1 v⟩:=by
 have e:nO b v=eI (aM b).1 v:=by rw [nO,eg a]
 rw [ak2 (Y0 h) (by rw [e]; exact c),e]
def tq3 {v:Int} (h:dh v=true) (a:¬ (aM b).2=0):cE b v=⟨bM,[],(aM b).2⟩:=by
 have e:nO b v=(aM b).2:=by rw [nO,dc a]
 rw [ak2 (Y0 h) (by rw [e]; exact a),e]
def tq4 {v:Int} (h:dh v=true) (a:(aM b).2=0) (c:eI (aM b).1 v=0) (d:¬ dE (cj (bL (aM b).1 (bw v))) (c_ (aM b).1 (bw v)) v=0\/decide (ew (cj (bL (aM b).1 (bw v))) (c_ (aM b).1 (bw v)) v=b)=false):cE b v=⟨bM,[],6⟩:=
 ahb (Y0 h) (P9 a c) (d.imp_right fun h=>by simpa using h)
def tq5 {v:Int} (h:dh v=true) (a:(aM b).2=0) (c:eI (aM b).1 v=0) (d:dE (cj (bL (aM b).1 (bw v))) (c_ (aM b).1 (bw v)) v=0) (e:decide (ew (cj (bL (aM b).1 (bw v))) (c_ (aM b).1 (bw v)) v=b)=true):cE b v=⟨cj (bL (aM b).1 (bw v)),c_ (aM b).1 (bw v),0⟩:=
 akr (Y0 h) (P9 a c) ⟨d,zc e⟩
def HQ:Kn:=aH (ae (kC (cL .u8)) (ae (kC cI) ao)) au fun (b,v,_) _=>⟨[],[.agg (cellsOf (.nm .command) ((cE b v).c)),.c (.fz (.nm .field) (((cE b v).r))),.c (.int (((cE b v).e)))],none,false⟩
def Yf:CK 275 HQ:=ag fun (b,v,_) _ _=>by
 refine aq Jy [] func275 (?_:(fun u=>(fun w=>(fun g=>(fun h=>(fun s=>(fun t=>(fun a=>(fun d=>(fun i=>(fun j=>(fun o=>(fun p=>(fun q=>(fun y=>(fun z=>b.length*1<=140737488355328->a7 v->(dh v=false->o/\p/\j/\i/\a=d.id/\a=d.n/\q/\y/\g.r=[]/\1=g.e)/\(dh v=true->h.length*48<=140737488355328->a7 u->(u=a->(1:Int)=1/\(a7 (eI h v)->(¬eI h v=a->o/\p/\j/\i/\a=d.id/\a=d.n/\q/\y/\g.r=[]/\eI h v=g.e)/\(eI h v=a->z)))/\(¬u=a->(¬u=a->o/\p/\j/\i/\a=d.id/\a=d.n/\q/\y/\g.r=[]/\u=g.e)/\(u=a->z)))) ((1:Int)=1/\(a7 w->(bL h w).length*48<=140737488355328->s.length*48<=140737488355328->(∀ (f:Field),Mem f (bL h w)->f.b.length<=16384)/\bc t (s.length<=20000/\(a7 (dE t s v)->(¬dE t s v=a\/decide (ew t s v=b)=false->o/\p/\j/\i/\a=d.id/\a=d.n/\q/\y/\g.r=[]/\6=g.e)/\(dE t s v=a/\decide (ew t s v=b)=true->aX t d (s=g.r/\a=g.e))))))) (o3.mk []=d.text)) (d.b9=[])) (a=d.a6)) (a=d.kind)) (a=d.seq)) (a=d.set)) g.c) (0:Int)) (cj (bL h w))) (c_ h w)) (aM b).fst) (cE b v)) (bw v)) (aM b).snd);(repeat' with_reducible first|apply aT|refine aW ?_|intro)
 all_goals (first | (rw [tq1 ab] <;> rfl) | (rw [tq2 ab ab ab] <;> rfl) | (rw [tq3 ab ab] <;> rfl) | (rw [tq4 ab ab ab ap] <;> rfl) | (rw [tq5 ab ab ab ab ab] <;> rfl) | exact (S_ (P9 ab ab) _ ap) | (have A:=sL (aM b).1 (bw v); have B:=GK b; omega))
def ahS:ck:=(aI 275 HQ ag5)
def pc:ay prog (av l6) ahS:=(ah Yf Jy)
variable {r:Nat}
def p1n {p:List UInt8} (h:p++bF r=bF n) (a:¬ r<128):(p++[ofNat ((r % 128+128) % 18446744073709551616)])++bF (r / 128)=bF n:=by
 rw [FB (show r % 128+128<18446744073709551616 by omega)]; exact Mi h a
variable {x:UInt8}
def p1l {p:List UInt8} (h:p++bF r=bF n) (a:n<18446744073709551616):(p.length+[x].length)*1<=140737488355328:=by
 have:=Ok h a; rw [Q5]; omega
def ag8 (n:y1):List (Nat × LI):=[(2,{ σ:=List UInt8 × Nat,F:=fun s=>([(0,one (.u64 s.2)),(3,one (.own 0))],[.row 5 .u8 ((s.1))]),J:=fun s=>s.1++bF s.2=bF n.n/\s.2<18446744073709551616/\n.n<18446744073709551616,μ:=fun s=>s.2 })]
def Ti:Kn:=aH (ae (kC cU) ao) au fun (n,_) _=>⟨[],[.c (.own 0)],some ([.row 5 .u8 ((bF n.n))]),true⟩
theorem aeb:CK 175 Ti:=ag fun (n,_) _ _=>by
 refine cr pc (ag8 n) func175 (?_:(fun (a:Nat)=>(fun (c:Nat)=>n.n<a->∃ (e:List UInt8 × Nat),(n.n=e.snd/\e.fst=[])/\(e.fst++bF e.snd=bF n.n/\e.snd<a/\n.n<a)/\∀ (s:List UInt8 × Nat),(fun (g:List (l5 Sh.u8))=>s.fst++bF s.snd=bF n.n/\s.snd<a/\n.n<a->((c:Int)<=(s.snd:Int)->0<c/\(s.fst.length+g.length)*1<=140737488355328/\0<c/\∃ (d:List UInt8 × Nat),(s.snd / c=d.snd/\s.fst++g=d.fst)/\(d.fst++bF d.snd=bF n.n/\d.snd<a/\n.n<a)/\d.snd<s.snd)/\((s.snd:Int)<(c:Int)->(s.fst.length+[ofNat s.snd].length)*1<=140737488355328/\s.fst++[ofNat s.snd]=bF n.n)) [ofNat ((s.snd % c+c) % a)]) 128) 18446744073709551616);iterate 3 ((all_goals (repeat' with_reducible first|apply aT|refine aW ?_|intro)); (all_goals try (first | exact bR | exact (p1n ab az) | exact (Vs ab az) | exact (p1l ab ab))); all_goals try first | refine ⟨(‹List UInt8 × Nat›.1++[ofNat ((‹List UInt8 × Nat›.2 % 128+128) % 18446744073709551616)],‹List UInt8 × Nat›.2 / 128),?_⟩ | refine ⟨([],n.n),?_⟩)
def Ee:Kn:=aH (ae (kT (.nm .field)) (ae (kT (.nm .field)) ao)) au fun (a,f,_) _=>⟨[],[.c (.bool (.atom ((!du a f))))],none,false⟩
theorem Ui:CK 232 Ee:=ag fun (a,f,_) _ _=>by
 refine aq pc [] func232 (?_:a7 a.num->a7 a.fl->a.n.n<18446744073709551616->a.b.length*1<=140737488355328->a7 f.num->a7 f.fl->f.n.n<18446744073709551616->f.b.length*1<=140737488355328->(decide (f.num<a.num) || decide (f.num=a.num) && (!decide (a.fl=2) || !decide (f.fl=2))) = !du a f);grind [du]
def SZ:Kn:=aH (ae (kC cI) (ae (kC cI) (ae (kC cB) ao))) au fun (a,b,n,_) _=>⟨[],[.agg (cellsOf (.nm .spec) (⟨a,0,b,n,false⟩))],none,false⟩
theorem adg:CK 284 SZ:=ag fun (a,b,n,_) _ _=>by
 refine aq pc [] func284 (?_:a7 a->a7 b->a=a/\(0:Int)=0/\b=b/\n=n/\false=false);grind
def Pc:Kn:=aH (ae (kC cI) (ae (kC cI) (ae (kC cB) (ae (kC cB) ao)))) au fun (a,b,n,m,_) _=>⟨[],[.agg (cellsOf (.nm .spec) (⟨a,2,b,n,m⟩))],none,false⟩
theorem aeq:CK 285 Pc:=ag fun (a,b,n,m,_) _ _=>by
 refine aq pc [] func285 (?_:a7 a->a7 b->a=a/\(2:Int)=2/\b=b/\n=n/\m=m);grind
def akS:ck:=(aI 285 Pc (aI 284 SZ (aI 232 Ee (aI 175 Ti ahS))))
def oA:ay prog (av l6) akS:=(ah aeq (ah adg (ah Ui (ah aeb pc))))
def qU (b:List UInt8):Nat->Nat
 | 0=>0
 | k+1=>(qU b k+(b.getD k 0).toNat % 128*2 ^ (7*k) % 18446744073709551616) % 18446744073709551616
def vN (b:List UInt8) (k:Nat) (x:UInt8):Nat:=(qU b k+(x % ofNat 128).toNat*2 ^ (7*(k:Int)).toNat % 18446744073709551616) % 18446744073709551616
theorem J0:∀ {l:List UInt8} {k n v e:Nat},bW k n l=(v,e,0)->∃ u j,v=n+u*2 ^ (7*k)/\e=k+j/\bF u=l.take j/\(0<k->u≠0)
 | [],k,n,v,e,h=>by rw [bW] at h; split at h <;> cases h
 | x :: r,k,n,v,e,h=>by
  rw [bW] at h;split at h
  ·cases h
  split at h
  ·cases h
  rename_i p d;split at h
  ·rename_i a;cases h;refine ⟨x.toNat,1,by rw [xk a],rfl,?_,fun g e=>d (.inl ⟨g,e⟩)⟩;rw [kE a]; simp
  rename_i a;obtain ⟨u,j,rfl,rfl,i,c⟩:=J0 h;refine ⟨x.toNat % 128+128*u,j+1,?_,az,?_,fun _ e=>by have:=c az; omega⟩
  ·grind [lH]
  have o:=c az;rw [uz az,Ha,show (x.toNat % 128+128*u) / 128=u by omega,i,K2];congr 1;apply UInt8.toNat_inj.1;have:=x.toNat_lt;rw [H6];omega
def Vy (b:List UInt8) (k:Nat):Prop:=(k<=9->ak b=bW k (qU b k) (b.drop k)/\qU b k<2 ^ (7*k))/\(k=10->ak b=(0,0,3))
def alU (b:List UInt8):Vy b 0:=⟨fun _=>⟨rfl,show (0:Nat)<2 ^ (7*0) by decide⟩,fun h=>by omega⟩
def ape (h:Wq (Vy b k)) (a:(k:Int)<10) (c:(b.length:Int)<=(k:Int)):ak b=(0,0,2):=(h.h.1 az).1.trans (Oy az az)
def amO (h:Wq (Vy b k)) (c:10<=(k:Int)) (a:k<=10):ak b=(0,0,3):=h.h.2 az
def abt (a:b[k]? = some x):vN b k x=qU b (k+1):=by
 unfold vN;rw [qU,ts,a,show (7*(k:Int)).toNat=7*k by omega,toNat_mod]; rfl
def QE (e:k<=9) (a:qU b k<2 ^ (7*k)) (g:k=9->x.toNat<=1):vN b k x=qU b k+(x &&& 127).toNat*2 ^ (7*k):=by
 have c:=Gr e g;have h:=FX (k:=k) (m:=(x &&& 127).toNat) a;have d:qU b k ||| (x &&& 127).toNat*2 ^ (7*k)<2 ^ 64:=M0 (w9 a (Nat.pow_le_pow_right am az)) c;rw [h] at d;unfold vN;rw [show (7*(k:Int)).toNat=7*k by omega,toNat_mod,show (ofNat 128).toNat=128 from rfl,<- lH,FB c,FB d]
def apO {y:UInt8} (h:Wq (Vy b k)) (o:(k:Int)<10) (a:b[k]? = some x) (c:b[k]? = some y) (i:((ofNat 128).toNat:Int)<=(y.toNat:Int)):Wq (Vy b (k+1)):=by
 rw [a] at c; cases c;rw [show (ofNat 128).toNat=128 from rfl] at i;obtain ⟨d,g⟩:=h.h.1 az;refine ⟨fun j=>?_,fun j=>zK d az a (.inr ⟨az,az⟩)⟩;have e:=QE (x:=x) az g az;rw [<- abt a,e];exact ⟨HT d az a az az az,zr g⟩
def acm (h:o3.mk (bF (vN b k x))=o3.mk (b.take ((k:Int)+1).toNat)) (a:b[k]? = some x):ak b=(vN b k x,k+1,0):=by
 have c:bF (vN b k x)=b.take (k+1):=by have:=hC o3.b h; rw [show ((k:Int)+1).toNat=k+1 by omega] at this; exact this
 have d:vN b k x<18446744073709551616:=E5 _ am;have e:=mO d (b.drop (k+1));rw [c,D5,s9,E3 (nB a)] at e;exact e
def amS {y:UInt8} (p:¬ o3.mk (bF (vN b k x))=o3.mk (b.take ((k:Int)+1).toNat)) (h:Wq (Vy b k)) (z:(k:Int)<10) (a:b[k]? = some x) (d:b[k]? = some y) (q:(y.toNat:Int)<((ofNat 128).toNat:Int)):ak b=(0,0,3):=by
 rw [a] at d; cases d;rw [show (ofNat 128).toNat=128 from rfl] at q;obtain ⟨g,s⟩:=h.h.1 az;by_cases c:(0<k/\x.toNat=0)\/(k=9/\1<x.toNat)
 ·exact zK g az a c
 exfalso;have i:=Ka g az a (fun h=>c (.inl h)) (fun h=>c (.inr h)) az;have e:=QE (b:=b) (x:=x) (show k<=9 by omega) s az;rw [<- e] at i;obtain ⟨u,j,t,A,o,_⟩:=J0 (k:=0) (n:=0) i;have v:u=vN b k x:=by simpa using t.symm
 have w:j=k+1:=by omega
 rw [v,w] at o;exact p (by rw [show ((k:Int)+1).toNat=k+1 by omega,o])
def Zg (b:List UInt8):List (Nat × LI):=[(3,{ σ:=Nat,F:=fun k=>([(0,one (.fz .u8 (b))),(5,one (.u64 (qU b k))),(6,one (.int k))],[]),J:=fun k=>k<=10/\k<=b.length/\Wq (Vy b k),μ:=fun k=>10 - k })]
def aiZ (l:List Int):List (Nat × LI):=[(5,{ σ:=Nat,F:=fun k=>([(0,one (.fz .int (l))),(4,one (.own 0)),(5,one (.int k))],[.row 5 .u8 ((fk (l.take k)))]),J:=fun k=>k<=l.length/\bI l=true,μ:=fun k=>l.length - k })]
def Ez:Kn:=aH (ae (kC (cL .u8)) ao) au fun (b,_) _=>⟨[],[.c (.u64 ((y1.mk (ak b).1)).n),.c (.int ((((ak b).2.1:Nat)))),.c (.int (((ak b).2.2)))],none,false⟩
theorem SN:CK 110 Ez:=ag fun (b,_) _ _=>by
 refine aq oA (Zg b) func110 (?_:(fun q=>(fun o=>(fun h=>(fun u=>(fun c=>(fun w=>(fun p=>(fun v=>b.length*1<=140737488355328->∃ i,(b=b/\0=qU b i/\c=(i:Int))/\(i<=10/\i<=b.length/\Wq (Vy b i))/\∀ (s:Nat),(fun a=>(fun y=>(fun d=>s<=10/\s<=b.length/\Wq (Vy b s)->(a<10->(h<=a->0=(ak b).fst/\c=q/\2=(ak b).snd.snd)/\(a<h->c<=a/\a<h/\∀ (x:UInt8),(fun e=>(fun j=>b[s]? = some x->0<p.toNat/\a7 (o*a)/\c<=o*a/\o*a<64/\c<=a/\a<h/\∀ (x:UInt8),b[s]? = some x->((x.toNat:Int)<(p.toNat:Int)->a7 d/\(c<=d/\d<=h)/\(¬j->v)/\(j->a7 d/\e=(ak b).fst/\d=q/\c=(ak b).snd.snd))/\((p.toNat:Int)<=(x.toNat:Int)->a7 d/\∃ g,(b=b/\e=qU b g /\ d=(g:Int))/\(g <= 10/\g <= b.length/\Wq (Vy b g))/\10 - g < 10 - s)) (o3.mk (bF e)=o3.mk (take d.toNat b))) ((qU b s+(x % p).toNat*y % u) % u)))/\(10<=a->v)) (a+w)) ((2:Nat) ^ (o*a).toNat)) (s:Int)) (0=(ak b).fst/\c=q/\3=(ak b).snd.snd)) (ofNat 128)) (1:Int)) (0:Int)) (18446744073709551616:Nat)) (b.length:Int)) (7:Int)) (↑(ak b).snd.fst:Int));iterate 3 ((all_goals (repeat' with_reducible first|apply aT|refine aW ?_|intro)); (all_goals try (first | exact bR | exact ⟨alU b⟩ | (rw [ape ab ab ab] <;> rfl) | (rw [amO ab ab ab] <;> rfl) | (rw [amS ap ab ab ab ab ab] <;> rfl) | exact (hC Prod.fst (acm ap ab)).symm | exact (hC (fun t=>((t.2.1:Nat):Int)) (acm ap ab)).symm | exact (hC (fun t=>t.2.2) (acm ap ab)).symm | exact (apO ab ab ab ab ab) | exact (abt ab) | decide)); all_goals try first | refine ⟨‹Nat› + 1,?_⟩ | refine ⟨0,?_⟩)
def Uw:Kn:=aH (ae (kC cI) (ae (kC cI) ao)) au fun (num,a,_) _=>⟨[],[.c (.own 0),.c (.int ((jQ num a)))],some ([.row 5 .u8 ((lr num a))]),true⟩
def acO:CK 268 Uw:=ag fun (num,a,_) _ _=>by
 refine cr oA [] func268 (?_:(fun c=>a7 num->a7 a->((num<1\/1000<num)\/¬a=0/\¬a=2->1=jQ num a/\lr num a=[])/\((1<=num/\num<=1000)/\(a=0\/a=2)->a7 (8*num)/\a7 c/\0<=c/\0=jQ num a/\bF c.toNat=lr num a)) (8*num+a));(repeat' with_reducible first|apply aT|refine aW ?_|intro)
 all_goals (first | exact bR | exact (ou az) | exact (mn az) | exact (GI az).symm | exact (Ax az))
def SV:Kn:=aH (ae (kC cI) ao) au fun (q,_) _=>⟨[q=1],[.c (.fz (.nm .spec) ((aU)))],none,false⟩
def ae4:CK 269 SV:=ag fun (q,_) _ w=>by
 have y:=b_ w;refine aq oA [] func269 (?_:(fun t=>(fun u=>(fun p=>(fun o=>(fun i=>(fun g=>(fun h=>(fun e=>(fun c=>(fun d=>(fun v=>(fun s=>(fun j=>(fun a=>a7 q->(q=d->a->c->a->h->c->a->a7 i->c->a->a7 o->c->a->a7 p->c->a->a7 u->c->a->a7 t->h->a->a7 8->h->a7 i->[j,k9.mk g e d false false,v,k9.mk o e d false false,k9.mk p e d false false,k9.mk u e d false false,k9.mk t g d false false,k9.mk 8 g i false false]=aU)/\(¬q=d->(q=g->a->c->a->h->c->a->a7 i->h->a->a7 o->c->h->a7 p->h->a7 i->[j,s,k9.mk i g d true false,k9.mk o e g false false,k9.mk p g i false false]=aU)/\(¬q=g->(q=i->a->c->a->h->c->a->[j,s]=aU)/\(¬q=i->(q=o->a->c->a->h->c->a->a7 i->c->a->a7 o->c->a->[j,k9.mk g e d false false,v,k9.mk o e d false false]=aU)/\(¬q=o->(q=p->a->c->a->h->c->a->a7 i->c->a->a7 o->h->a->a7 p->h->a->a7 u->h->a->a7 t->c->a7 i->[j,s,v,k9.mk o g d false true,k9.mk p g d false true,k9.mk u g d false true,k9.mk t e i false false]=aU)/\(¬q=p->(q=u->a->c->a->h->c->a->a7 i->c->a->a7 o->c->a->a7 p->c->a->a7 u->c->a->a7 t->c->a->a7 8->c->a->a7 9->c->a->a7 10->h->a->[j,s,k9.mk i e d true false,k9.mk o e d true false,k9.mk p e d false false,k9.mk u e d false false,k9.mk t e d false false,k9.mk 8 e d false false,k9.mk 9 e d false false,k9.mk 10 g d false true]=aU)/\(¬q=u->(q=t->a->c->a->h->h->a->[j,k9.mk g g d false false]=aU)/\(¬q=t->aU=[])))))))) (a7 d)) (k9.mk d e d true false)) (k9.mk g e d true false)) (k9.mk i e d false false)) (1:Int)) (a7 e)) (0:Int)) (a7 g)) (2:Int)) (3:Int)) (4:Int)) (5:Int)) (6:Int)) (7:Int));subst y; (repeat' with_reducible first|apply aT|refine aW ?_|intro);all_goals (exact bR)
def UX:Kn:=aH (ae (kC (cL .int)) ao) au fun (l,_) _=>⟨[],[.c (.own 0),.c (.int ((cu l)))],some ([.row 5 .u8 ((bK l))]),true⟩
theorem ae5:CK 235 UX:=ag fun (l,_) _ _=>by
 refine cr oA (aiZ l) func235 (?_:(fun (a:Prop)=>l.length*8<=140737488355328->(bI l=false->1=cu l/\bK l=[])/\(a->∃ (d:Nat),(l=l/\0=(d:Int)/\fk (take d l)=[])/\(d<=l.length/\a)/\∀ (s:Nat),s<=l.length/\a->((s:Int)<(l.length:Int)->0<=(s:Int)/\(s:Int)<(l.length:Int)/\∀ (x:Int),l[s]? = some x->a7 x->0<=x/\((fk (take s l)).length+(bF x.toNat).length)*1<=140737488355328/\a7 ((s:Int)+1)/\∃ (c:Nat),(l=l/\(s:Int)+1=(c:Int)/\fk (take s l)++bF x.toNat=fk (take c l))/\(c <= l.length/\a)/\l.length - c < l.length - s)/\((l.length:Int)<=(s:Int)->0=cu l/\fk (take s l)=bK l))) (bI l=true));iterate 3 ((all_goals (repeat' with_reducible first|apply aT|refine aW ?_|intro)); (all_goals try (first | exact bR | exact (xK ab).symm | exact (kY ab) | exact (lR ab) | exact (Cl ab az) | exact (wZ ab) | exact (aiI ab ab) | exact (Pt ab ab))); all_goals try first | refine ⟨‹Nat› + 1,?_⟩ | refine ⟨0,?_⟩)
def ah1:ck:=(aI 235 UX (aI 269 SV (aI 268 Uw (aI 110 Ez akS))))
def js:ay prog (av l6) ah1:=(ah ae5 (ah ae4 (ah acO (ah SN oA))))
def Ah (c:b5) (k:Nat):List Field:=((range k).map fun j=>oc (j+1:Nat) ([c.kind,c.a6,c.seq,c.set,c.id,c.n].getD j 0)).flatten
def oD {c:b5}:Ah c (k+1)=Ah c k++oc ((k:Int)+1) ([c.kind,c.a6,c.seq,c.set,c.id,c.n].getD k (c5 .int)):=by
 unfold Ah; rw [I7,I8,List.flatten_append]; simp; rfl
def aiR {c:b5} (h:¬ [c.kind,c.a6,c.seq,c.set,c.id,c.n].getD k (c5 .int)=0):Ah c k++[Field.mk ((k:Int)+1) 0 (y1.mk ([c.kind,c.a6,c.seq,c.set,c.id,c.n].getD k (c5 .int)).toNat) []]=Ah c (k+1):=by rw [oD,oc,dc h]
def aj3 {c:b5} (h:[c.kind,c.a6,c.seq,c.set,c.id,c.n].getD k (c5 .int)=0):Ah c k=Ah c (k+1):=by rw [oD,oc,eg h,A3]
theorem GL (c:b5):∀ k,(Ah c k).length<=k
 | 0=>sh _
 | k+1=>by
  have:=GL c k;have:=gH ((k:Int)+1) ([c.kind,c.a6,c.seq,c.set,c.id,c.n].getD k (c5 .int));rw [oD,r5]; omega
def ajB {c:b5} (a:0<=c.kind) (d:0<=c.a6) (e:0<=c.seq) (g:0<=c.set) (h:0<=c.id) (i:0<=c.n):0<=[c.kind,c.a6,c.seq,c.set,c.id,c.n].getD k (c5 .int):=by
 match k with
 | 0=>exact a
 | 1=>exact d
 | 2=>exact e
 | 3=>exact g
 | 4=>exact h
 | 5=>exact i
 | k+6=>exact B5 0
theorem DC {c:b5} (a:k<=6) (h:(([c.kind,c.a6,c.seq,c.set,c.id,c.n].length:Nat):Int)<=(k:Int)):Ah c k++sF 7 (bK c.b9)=sw c:=by
 have d:6<=k:=Int.ofNat_le.1 h;have e:k=6:=by omega
 subst e;rw [oD,oD,oD,oD,oD,oD]; rfl
def b7y {c:b5} (a:c.b9.length=0\/bI c.b9=true) (d:0<(c.b9.length:Int)):[Field.mk 7 2 (y1.mk 0) (bK c.b9)]=sF 7 (bK c.b9):=by
 have a:=a.resolve_left az;rw [sF,eg];rw [(qz a).1,J4]; exact d
theorem b7n {c:b5} (a:(c.b9.length:Int)<=0):sF 7 (bK c.b9)=[]:=by
 rw [B7 (l:=c.b9) az]; rfl
def ah2 {c:b5} {v:Int} (a:k<=6) (h:(([c.kind,c.a6,c.seq,c.set,c.id,c.n].length:Nat):Int)<=(k:Int)) (d:c.b9.length=0\/bI c.b9=true) (e:0<(c.b9.length:Int)) (g:0<(c.text.b.length:Int)) (i:3<=v):Ah c k++[Field.mk 7 2 (y1.mk 0) (bK c.b9)]++[Field.mk 8 2 (y1.mk 0) c.text.b]=bE c v:=by
 rw [b7y d e,DC a h,bE,eg i,sF,eg g]
def akX {c:b5} {v:Int} (a:k<=6) (h:(([c.kind,c.a6,c.seq,c.set,c.id,c.n].length:Nat):Int)<=(k:Int)) (d:c.b9.length=0\/bI c.b9=true) (e:0<(c.b9.length:Int)) (g:(c.text.b.length:Int)<=0\/v<3):Ah c k++[Field.mk 7 2 (y1.mk 0) (bK c.b9)]=bE c v:=by
 rw [b7y d e,DC a h,bE];split
 ·rw [sF,dc az,A3]
 rfl
def ajh {c:b5} {v:Int} (a:k<=6) (h:(([c.kind,c.a6,c.seq,c.set,c.id,c.n].length:Nat):Int)<=(k:Int)) (d:(c.b9.length:Int)<=0) (e:0<(c.text.b.length:Int)) (g:3<=v):Ah c k++[Field.mk 8 2 (y1.mk 0) c.text.b]=bE c v:=by
 rw [bE,eg g,sF,eg e,<- DC a h,b7n d,A3]
theorem ajY {c:b5} {v:Int} (a:k<=6) (h:(([c.kind,c.a6,c.seq,c.set,c.id,c.n].length:Nat):Int)<=(k:Int)) (d:(c.b9.length:Int)<=0) (e:(c.text.b.length:Int)<=0\/v<3):Ah c k=bE c v:=by
 rw [bE];split
 ·rw [sF,dc az,A3,<- DC a h,b7n d,A3]
 grind [DC,b7n]
theorem t2A (h:(ak b).2.2=0) (a:(ak b).1<8008) (c:¬ jQ (de ((ak b).1 / 8)) (de ((ak b).1 % 8))=0):aA b=⟨0,0,0,6⟩:=by grind [iA,yC,mn]
def t2B (h:(ak b).2.2=0) (a:8008<=(ak b).1):aA b=⟨0,0,0,6⟩:=yC h az
theorem X8 (h:(ak b).2.2=0) (a:(ak b).1<8008) (c:jQ (de ((ak b).1 / 8)) (de ((ak b).1 % 8))=0):de ((ak b).1 / 8)=(aA b).num/\de ((ak b).1 % 8)=(aA b).fl/\(((ak b).2.1:Nat):Int)=((aA b).k:Nat)/\0=(aA b).e:=by grind [iA,ou,FV]
variable {x:Field}
def alH {v:Int} {y:Field} (h:y.num<=v) (a:l[k]? = some y) (c:l[k]? = some x):bL (l.take k) v++[x]=bL (l.take (k+1)) v:=by rw [a] at c; cases c; exact agZ a h
def aoB {v:Int} {y:Field} (h:v<y.num) (a:l[k]? = some y):bL (l.take k) v=bL (l.take (k+1)) v:=aih a az
def anP {v:Int} {y:Field} (h:v<y.num) (a:l[k]? = some y) (c:l[k]? = some x):c_ (l.take k) v++[x]=c_ (l.take (k+1)) v:=by rw [a] at c; cases c; exact ajj a az
def amQ {v:Int} {y:Field} (h:y.num<=v) (a:l[k]? = some y):c_ (l.take k) v=c_ (l.take (k+1)) v:=akZ a h
def wH (v:Int) (k:Nat):List k9:=if 1<=v/\v<=3 then (aU.take k).filter (fun s=>decide (s.since<=v)) else []
def akG {v:Int}:wH v 0=[]:=by unfold wH; split <;> rfl
def aiC {v:Int} {x:k9} (a:1<=v) (c:v<=3) (h:(aU.getD k (c5 (.nm .spec))).since<=v) (d:aU[k]? = some x):wH v k++[x]=wH v (k+1):=by
 rw [ts,d] at h;unfold wH; rw [eg ⟨a,c⟩,eg ⟨a,c⟩]; exact Bt d h
theorem ah4 {v:Int} (h:(v<1\/3<v)\/v<(aU.getD k (c5 (.nm .spec))).since) (c:k<8):wH v k=wH v (k+1):=by
 unfold wH;have d:aU[k]? = some (aU.getD k (c5 (.nm .spec))):=by rw [ts,p6 (show k<aU.length from c)]; rfl
 by_cases a:1<=v/\v<=3
 ·grind [Jx]
 rw [dc a,dc a]
theorem ai4 {v:Int} {x:k9}:((wH v k).length+[x].length)*32<=140737488355328:=by
 unfold wH;split
 ·have:=BT (v:=v) (k:=k); rw [Q5]; omega
 grind
theorem ag1 {v:Int} (c:8<=(k:Int)):wH v k=aC v:=by
 unfold wH;by_cases a:1<=v/\v<=3
 ·grind [abg]
 rw [dc a,aC,eg az]
def VS (q:Int) (v:Int):List (Nat × LI):=[(4,{ σ:=Nat,F:=fun k=>([(1,one (.int (v))),(5,one (.own 0)),(6,one (.fz (.nm .spec) aU)),(7,one (.int k))],[.row 255 (.nm .spec) ((wH v k))]),J:=fun k=>k<=8,μ:=fun k=>8 - k })]
def acF (b:List UInt8):List (Nat × LI):=[(3,{ σ:=Nat,F:=fun k=>([(0,one (.fz .u8 (b))),(4,one (.own 0)),(5,one (.int k))],[.row 3 .int ((bG (b.take k)))]),J:=fun k=>k<=b.length,μ:=fun k=>b.length - k })]
def Xp (l:List Field) (v:Int):List (Nat × LI):=[(4,{ σ:=Nat,F:=fun k=>([(0,one (.fz (.nm .field) (l))),(1,one (.int (v))),(6,one (.own 0)),(7,one (.own 1)),(8,one (.int k))],[.row 219 (.nm .field) ((bL (l.take k) v)),.row 219 (.nm .field) ((c_ (l.take k) v))]),J:=fun k=>k<=l.length,μ:=fun k=>l.length - k })]
def T_ (c:b5) (v:Int):List (Nat × LI):=[(4,{ σ:=Nat,F:=fun k=>([(1,one (.int (v))),(2,one (.ptr 0 0)),(5,one (.own 2)),(6,one (.own 1)),(7,one (.int k))],[.box 35 (cellsOf (.nm .command) (c)),.row 3 .int (([c.kind,c.a6,c.seq,c.set,c.id,c.n])),.row 219 (.nm .field) (((Ah c k)))]),J:=fun k=>k<=6,μ:=fun k=>6 - k })]
def BU:Kn:=aH (ae (kC (cL .u8)) ao) au fun (b,_) _=>⟨[],[.c (.int (((aA b).num))),.c (.int (((aA b).fl))),.c (.int ((((aA b).k:Nat)))),.c (.int (((aA b).e)))],none,false⟩
def PY:CK 231 BU:=ag fun (b,_) _ _=>by
 refine aq js [] func231 (?_:(fun g=>(fun h=>(fun a=>(fun d=>(fun c=>(fun j=>(fun i=>b.length*(1:Nat)<=(140737488355328:Nat)->d<(18446744073709551616:Nat)->a7 (↑(ak b).snd.fst:Int)->a7 h->(¬h=c->c=a.num/\c=a.fl/\c=(a.k:Int)/\h=a.e)/\(h=c->((↑(8008:Nat):Int)<=(d:Int)->j)/\((d:Int)<(↑(8008:Nat):Int)->(0:Nat)<g/\(0:Nat)<g/\(a7 i->(¬i=c->j)/\(i=c->de (d / g)=a.num/\de (d % g)=a.fl/\(↑(ak b).snd.fst:Int)=(a.k:Int)/\c=a.e))))) (jQ (de (d / g)) (de (d % g)))) (c=a.num/\c=a.fl/\c=(a.k:Int)/\(6:Int)=a.e)) (0:Int)) (ak b).fst) (aA b)) (ak b).snd.snd) (8:Nat));(repeat' with_reducible first|apply aT|refine aW ?_|intro)
 all_goals (first | (rw [yq ab] <;> rfl) | (rw [t2A ab az ab] <;> rfl) | (rw [t2B ab az] <;> rfl) | exact (X8 ab az ab).1 | exact (X8 ab az ab).2.1 | exact (X8 ab az ab).2.2.1 | exact (X8 ab az ab).2.2.2 | decide)
def QD:Kn:=aH (ae (kT (.nm .field)) ao) au fun (f,_) _=>⟨[f.b.length<=16384],[.c (.own 0)],some ([.row 5 .u8 ((bZ f))]),true⟩
def ad3:CK 270 QD:=ag fun (f,_) _ d=>by
 have e:=b_ d;refine cr js [] func270 (?_:(fun (a:Nat)=>(fun (c:List UInt8)=>a7 f.num->a7 f.fl->f.n.n<18446744073709551616->a*1<=140737488355328->a7 (jQ f.num f.fl)->(f.fl=0->(c.length+(bF f.n.n).length)*1<=140737488355328/\c++bF f.n.n=bZ f)/\(¬f.fl=0->0<=(a:Int)/\(c.length+(bF a).length)*1<=140737488355328/\((c++bF a).length+a)*1<=140737488355328/\c++bF a++f.b=bZ f)) (lr f.num f.fl)) f.b.length);(repeat' with_reducible first|apply aT|refine aW ?_|intro)
 all_goals (first | exact (Ja ab) | exact (Ht ab) | (have:=mF f.num f.fl; have:=cO (n:=f.n.n) ab; omega) | (have:=mF f.num f.fl; have:=cO (n:=f.b.length) az; (try simp only [r5]); omega))
def Cw:Kn:=aH (ae (kC cI) (ae (kC cI) ao)) au fun (q,v,_) _=>⟨[q=1],[.c (.fz (.nm .spec) ((aC v)))],none,false⟩
theorem Po:CK 233 Cw:=ag fun (q,v,_) _ p=>by
 have u:=b_ p;refine aq js (VS q v) func233 (?_:(fun (t:l5 (Sh.nm NT.spec))=>(fun (e:Int)=>(fun (h:Int)=>(fun (d:Nat)=>(fun (i:Prop)=>a7 q->a7 v->q=e/\(aU.length*32<=140737488355328->∃ (j:Nat),(v=v/\aU=aU/\0=(j:Int)/\wH v j=[])/\j<=d/\∀ (s:Nat),(fun (a:Int)=>(fun (g:l5 (Sh.nm NT.spec))=>s<=d->(a<h->(i->0<=a/\a<h)/\((i->a7 g.num/\a7 g.fl/\a7 g.since)->(i/\g.since<=v->0<=a/\a<h/\∀ (x:k9),aU[s]? = some x->jB x (((wH v s).length+[x].length)*32<=140737488355328/\a7 (a+e)/\∃ (c:Nat),(v=v/\aU=aU/\a+e=(c:Int)/\wH v s++[x]=wH v c)/\c <= d/\d - c < d - s))/\((v<e\/3<v)\/v<g.since->a7 (a+e)/\∃ (c:Nat),(v=v/\aU=aU/\a+e=(c:Int)/\wH v s=wH v c)/\c <= d/\d - c < d - s)))/\(h<=a->wH v s=aC v)) (aU.getD s t)) (s:Int))) (e<=v/\v<=3)) 8) (aU.length:Int)) 1) (c5 (Sh.nm NT.spec)));iterate 3 ((all_goals (repeat' with_reducible first|apply aT|refine aW ?_|intro)); (all_goals try (first | exact bR | exact akG | exact (aiC ab ab ab ab) | exact (ah4 ap (by have o:aU.length=8:=rfl; omega)) | exact ai4 | exact (ag1 (by have o:aU.length=8:=rfl; omega)) | (have o:aU.length=8:=rfl; omega))); all_goals try first | refine ⟨‹Nat› + 1,?_⟩ | refine ⟨0,?_⟩)
def HG:Kn:=aH (ae (kC (cL .u8)) ao) au fun (b,_) _=>⟨[b.length<=100000],[.c (.fz .int ((fN b))),.c (.int ((iU b)))],none,false⟩
theorem Wz:CK 182 HG:=ag fun (b,_) _ e=>by
 have g:=b_ e;refine aq js (acF b) func182 (?_:b.length*1<=140737488355328->∃ (d:Nat),(b=b/\0=(d:Int)/\bG (take d b)=[])/\d<=b.length/\∀ (s:Nat),(fun (a:List Int)=>s<=b.length->((s:Int)<(b.length:Int)->0<=(s:Int)/\(s:Int)<(b.length:Int)/\∀ (x:UInt8),b[s]? = some x->(a.length+[(x.toNat:Int)].length)*8<=140737488355328/\a7 ((s:Int)+1)/\∃ (c:Nat),(b=b/\(s:Int)+1=(c:Int)/\a++[(x.toNat:Int)]=bG (take c b))/\c <= b.length/\b.length - c < b.length - s)/\((b.length:Int)<=(s:Int)->a7 (cu a)->(¬cu a=0\/¬o3.mk (bK a)=o3.mk b->fN b=[]/\6=iU b)/\(cu a=0/\o3.mk (bK a)=o3.mk b->a=fN b/\0=iU b))) (bG (take s b)));iterate 3 ((all_goals (repeat' with_reducible first|apply aT|refine aW ?_|intro)); (all_goals try (first | exact bR | exact (FG (Hh (k:=‹Nat›) az ap)).symm | exact (Ge (Hh (k:=‹Nat›) az ap)) | exact (Jd az (NO ab)) | exact (Ku (k:=‹Nat›) az (NO ab)) | exact (Ow ab) | exact (Qu az az))); all_goals try first | refine ⟨‹Nat› + 1,?_⟩ | refine ⟨0,?_⟩)
def UD:Kn:=aH (ae (kT (.nm .command)) (ae (kC cI) ao)) au fun (c,v,_) _=>⟨[],[.c (.bool (.atom ((eK c v))))],none,false⟩
def acV:CK 236 UD:=ag fun (c,v,_) _ _=>by
 refine aq js [] func236 (?_:(fun a=>bc c (a7 v->a7 (bk c.kind)->(aO c.kind 1 99 && (decide (bk c.kind=a) || decide (v<bk c.kind)) && (aO c.a6 a 1048576 && aO c.seq a 1048576 && aO c.set a 1048576 && aO c.id a 1048576 && aO c.n a 1048576) && (decide ((c.b9.length:Int)=a) || bI c.b9) && (decide ((c.text.b.length:Int)=a) || decide (3<=v) && decide ((c.text.b.length:Int)<=16)))=eK c v)) (0:Int));(repeat' with_reducible first|apply aT|refine aW ?_|intro)
 all_goals (first | (unfold eK rM; rfl))
def DI:Kn:=aH (ae (kC (cL (.nm .field))) (ae (kC cI) ao)) au fun (l,v,_) _=>⟨[],[.c (.fz (.nm .field) ((bL l v))),.c (.fz (.nm .field) ((c_ l v)))],none,false⟩
theorem OI:CK 180 DI:=ag fun (l,v,_) _ _=>by
 refine aq js (Xp l v) func180 (?_:(fun (e:Nat)=>(fun (c:Nat)=>(fun (o:Int)=>l.length*48<=e->a7 v->∃ (g:Nat),(l=l/\v=v/\0=(g:Int)/\bL (take g l) v=[]/\c_ (take g l) v=[])/\g<=c/\∀ (s:Nat),(fun (h:Prop)=>(fun (j:Prop)=>(fun (d:List Field)=>(fun (i:Int)=>s<=c->(h->j/\h/\∀ (x:Field),l[s]? = some x->a7 x.num->a7 x.fl->x.n.n<18446744073709551616->x.b.length*1<=e->(x.num<=v->j/\h/\∀ (x:Field),l[s]? = some x->a7 x.num->a7 x.fl->x.n.n<18446744073709551616->x.b.length*1<=e->((bL d v).length+[x].length)*48<=e/\a7 i/\∃ (a:Nat),(l=l/\v=v/\i=(a:Int)/\bL d v++[x]=bL (take a l) v/\c_ d v=c_ (take a l) v)/\a <= c/\c - a < c - s)/\(v<x.num->j/\h/\∀ (x:Field),l[s]? = some x->a7 x.num->a7 x.fl->x.n.n<18446744073709551616->x.b.length*1<=e->((c_ d v).length+[x].length)*48<=e/\a7 i/\∃ (a:Nat),(l=l/\v=v/\i=(a:Int)/\bL d v=bL (take a l) v/\c_ d v++[x]=c_ (take a l) v)/\a <= c/\c - a < c - s))/\(o<=(s:Int)->bL d v=bL l v/\c_ d v=c_ l v)) ((s:Int)+1)) (take s l)) (0<=(s:Int))) ((s:Int)<o)) (l.length:Int)) l.length) 140737488355328);iterate 3 ((all_goals (repeat' with_reducible first|apply aT|refine aW ?_|intro)); (all_goals try (first | exact bR | exact akP | exact agV | exact (alH ab ab ab) | exact (aoB ab ab) | exact (anP ab ab ab) | exact (amQ ab ab) | exact (ak1 az) | exact (ahA az) | (have p:=IX (l.take ‹Nat›) v; have q:=sL (l.take ‹Nat›) v; rw [s9] at p q; simp only [y4,C1]; omega))); all_goals try first | refine ⟨‹Nat› + 1,?_⟩ | refine ⟨0,?_⟩)
def yh:Kn:=aH (ae (kT (.nm .command)) (ae (kC cI) ao)) au fun (c,v,_) _=>⟨[0<=c.kind,0<=c.a6,0<=c.seq,0<=c.set,0<=c.id,0<=c.n,c.b9.length=0\/bI c.b9=true],[.c (.own 0)],some ([.row 219 (.nm .field) ((bE c v))]),true⟩
theorem MP:CK 238 yh:=ag fun (c,v,_) _ j=>by
 have B:=b_ j;have C:=b_ (dv j);have D:=b_ (dv (dv j));have F:=b_ (dv (dv (dv j)));have G:=b_ (dv (dv (dv (dv j))));have H:=b_ (dv (dv (dv (dv (dv j)))));have I:=b_ (dv (dv (dv (dv (dv (dv j))))));refine cr js (T_ c v) func238 (?_:(fun (y:l5 Sh.int)=>(fun (z:Int)=>(fun (h:Nat)=>(fun (p:Int)=>(fun (e:Int)=>(fun (q:List (l5 (Sh.nm NT.field)))=>(fun (t:List (l5 (Sh.nm NT.field)))=>(fun (i:List (l5 Sh.int))=>(fun (u:Int)=>bc c (a7 v->∃ (w:Nat),(v=v/\e=(w:Int)/\aX c c (i=i/\Ah c w=[]))/\w<=h/\∀ (s:Nat),(fun (a:List Field)=>(fun (d:l5 Sh.int)=>(fun (o:Int)=>s<=h->((s:Int)<u->e<=(s:Int)/\(s:Int)<u/\(a7 d->(¬d=e->a7 o/\e<=(s:Int)/\(s:Int)<u/\(a7 d->e<=d/\(a.length+[Field.mk o e (y1.mk (Int.toNat d)) []].length)*48<=140737488355328/\a7 o/\∃ (g:Nat),(v=v/\o=(g:Int)/\aX c c (i=i/\a++[Field.mk o e (y1.mk (Int.toNat d)) []]=Ah c g))/\g <= h/\h - g < h - s))/\(d=e->a7 o/\∃ (g:Nat),(v=v/\o=(g:Int)/\aX c c (i=i/\a=Ah c g))/\g <= h/\h - g < h - s)))/\(u<=(s:Int)->(e<(c.b9.length:Int)->a7 (cu c.b9)->(a.length+t.length)*48<=140737488355328/\(e<p/\3<=v->((a++t).length+q.length)*48<=140737488355328/\a++t++q=bE c v)/\(p<=e\/v<3->a++t=bE c v))/\((c.b9.length:Int)<=e->(e<p/\3<=v->(a.length+q.length)*48<=140737488355328/\a++q=bE c v)/\(p<=e\/v<3->a=bE c v)))) ((s:Int)+z)) (i.getD s y)) (Ah c s))) (i.length:Int)) [c.kind,c.a6,c.seq,c.set,c.id,c.n]) [Field.mk 7 2 (y1.mk 0) (bK c.b9)]) [Field.mk 8 2 (y1.mk 0) c.text.b]) 0) (c.text.b.length:Int)) 6) 1) (c5 Sh.int));iterate 3 ((all_goals (repeat' with_reducible first|apply aT|refine aW ?_|intro)); (all_goals try (first | exact bR | exact (aiR ab) | exact (aj3 ab) | exact (ajB ab ab ab ab ab ab) | exact (ah2 ab ab ab ab ab ab) | exact (akX ab ab ab ab ap) | exact (ajh ab ab ab ab ab) | exact (ajY ab ab ab ap) | (have A:((‹Nat›:Nat):Int)<(([c.kind,c.a6,c.seq,c.set,c.id,c.n].length:Nat):Int):=ab; simp only [y4,C1] at A; omega) | (have:=GL c ‹Nat›; (try simp only [r5]); simp only [y4,C1]; omega))); all_goals try first | refine ⟨‹Nat› + 1,?_⟩ | refine ⟨0,?_⟩)
def ago:ck:=(aI 238 yh (aI 180 DI (aI 236 UD (aI 182 HG (aI 233 Cw (aI 270 QD (aI 231 BU ah1)))))))
def si:ay prog (av l6) ago:=(ah MP (ah OI (ah acV (ah Wz (ah Po (ah ad3 (ah PY js)))))))
def oM (l:List Field) (k:Nat):Prop:=∀ j y,j<k->l[j]? = some y->y.b.length<=16384
def amF:oM l 0:=fun j y h=>by omega
theorem amn (h:Wq (oM l k)) (d:l[k]? = some x) (e:(x.b.length:Int)<=16384):Wq (oM l (k+1)):=⟨fun j y g a=>by
 by_cases c:j=k
 ·grind
 exact h.h j y az a⟩
def aqa (h:Wq (oM l k)) (a:l.length<=k):Wq (oM l l.length):=⟨fun j y c=>h.h j y az⟩
def ahJ (h:Wq (oM l l.length)) (a:l[k]? = some x):x.b.length<=16384:=h.h k x (nB a) a
def m3e (x:Field):((¬ jQ x.num x.fl=0\/x.fl=0/\0<((x.b.length:Nat):Int))\/x.fl=2/\¬ ((x.n.n:Nat):Int)=0)↔dp x=false:=by
 have e:=Tt (f:=x);rw [E2] at e;simpa only [F5,pe,S9,vo,O1] using e
def m3a (h:(¬ jQ x.num x.fl=0\/x.fl=0/\0<((x.b.length:Nat):Int))\/x.fl=2/\¬ ((x.n.n:Nat):Int)=((0:Nat):Int)):dp x=false:=(m3e x).1 h
def m3b (a:jQ x.num x.fl=0) (c:¬ x.fl=0\/((x.b.length:Nat):Int)<=0) (d:¬ x.fl=2\/((x.n.n:Nat):Int)=((0:Nat):Int)):dp x=true:=by
 rw [<- Bool.not_eq_false,<- m3e]; omega
def m3r {b:Bool} (h:(!b)=true):b=false:=by simpa using h
def m3p {n:Int} {b:Bool} (h:n<=0\/(!b)=false):n<=0\/b=true:=h.imp_right aa
def aoN (h:dC none l=0) (c:l.length<=k) (a:(16384:Int)<((fx (l.take k):Nat):Int)):4=bX l:=by
 rw [r6 c] at a; rw [bX,eg h,eg a]
def aml (h:dC none l=0) (c:l.length<=k) (a:¬ (16384:Int)<((fx (l.take k):Nat):Int)):0=bX l:=by
 rw [r6 c] at a; rw [bX,eg h,dc a]
def aje (h:(aA b).e=0) (a:(ak (b.drop (aA b).k)).2.2=0) (c:¬ (aA b).fl=0) (d:(ak (b.drop (aA b).k)).1<=16384) (g:((b.length:Nat):Int) - ((aA b).k:Int) - ((ak (b.drop (aA b).k)).2.1:Nat)<de (ak (b.drop (aA b).k)).1):(0:Int)=((aK b).1:Nat)/\2=(aK b).2:=acT h a c d az
def akq (h:(aA b).e=0) (a:(ak (b.drop (aA b).k)).2.2=0) (c:¬ (aA b).fl=0) (d:(ak (b.drop (aA b).k)).1<=16384) (g:de (ak (b.drop (aA b).k)).1<=((b.length:Nat):Int) - ((aA b).k:Int) - ((ak (b.drop (aA b).k)).2.1:Nat)):((aA b).k:Int)+((ak (b.drop (aA b).k)).2.1:Nat)+de (ak (b.drop (aA b).k)).1=((aK b).1:Nat)/\0=(aK b).2:=afX h a c d az
def ah7 (l:List Field):List (Nat × LI):=[(2,{ σ:=Nat,F:=fun k=>([(0,one (.fz (.nm .field) (l))),(3,one (.int k))],[]),J:=fun k=>k<=l.length/\dC none l=dC (eL l k) (l.drop k)/\Wq (oM l k),μ:=fun k=>l.length - k }),(14,{ σ:=Nat,F:=fun k=>([(0,one (.fz (.nm .field) (l))),(7,one (.int (fx (l.take k):Nat))),(8,one (.int k))],[]),J:=fun k=>k<=l.length/\dC none l=0/\fx (l.take k)<=k*16404/\Wq (oM l l.length),μ:=fun k=>l.length - k })]
def akL (q:Int) (v:Int):List (Nat × LI):=[(4,{ σ:=Nat,F:=fun k=>([(5,one (.int (((aC v).take k).foldl (fun t s=>max t s.num) 0))),(6,one (.fz (.nm .spec) (aC v))),(7,one (.int k))],[]),J:=fun k=>k<=(aC v).length,μ:=fun k=>(aC v).length - k })]
def Hg:Kn:=aH (ae (kC (cL .u8)) ao) au fun (b,_) _=>⟨[],[.c (.int ((((aK b).1:Nat)))),.c (.int (((aK b).2)))],none,false⟩
def WW:CK 230 Hg:=ag fun (b,_) _ _=>by
 refine aq si [] func230 (?_:(fun c=>(fun o=>(fun g=>(fun d=>(fun j=>(fun h=>(fun a=>(fun p=>(fun q=>(fun i=>b.length*(1:Nat)<=(140737488355328:Nat)->a7 c.num->a7 c.fl->a7 h->a7 c.e->(¬c.e=d->j/\c.e=g)/\(c.e=d->d<=h/\h<=o/\(a.fst<(18446744073709551616:Nat)->a7 p->a7 a.snd.snd->(¬a.snd.snd=d->j/\a.snd.snd=g)/\(a.snd.snd=d->(c.fl=d->a7 i/\i=(↑(aK b).fst:Int)/\d=g)/\(¬c.fl=d->((↑(16384:Nat):Int)<(a.fst:Int)->j/\(4:Int)=g)/\((a.fst:Int)<=(↑(16384:Nat):Int)->a7 (o - h)/\a7 q/\(q<de a.fst->j/\(2:Int)=g)/\(de a.fst<=q->a7 i/\a7 (i+de a.fst)/\i+de a.fst=(↑(aK b).fst:Int)/\d=g))))))) (h+p)) (o - h - p)) (a.snd.fst:Int)) (ak (drop c.k b))) (c.k:Int)) (d=(↑(aK b).fst:Int))) (0:Int)) (aK b).snd) (b.length:Int)) (aA b));(repeat' with_reducible first|apply aT|refine aW ?_|intro)
 all_goals (first | exact bR | (rw [afK ab] <;> rfl) | (rw [adT ab ab] <;> rfl) | (rw [ae3 ab ab ab] <;> rfl) | (rw [aea ab ab ab az] <;> rfl) | exact (aje ab ab ab az ab).1 | exact (aje ab ab ab az ab).2 | exact (akq ab ab ab az ab).1 | exact (akq ab ab ab az ab).2 | (have s:=ll b; have t:=jv b (aA b).k; first | omega | (refine cY ?_ ?_ <;> omega)) | (have s:=ll b; have t:=jv b (aA b).k; have u:=iA (m:=(ak (b.drop (aA b).k)).1) az; first | (refine cY ?_ ?_ <;> omega)))
def QM:Kn:=aH (ae (kC (cL (.nm .field))) ao) au fun (l,_) _=>⟨[],[.c (.int ((bX l)))],none,false⟩
theorem aeG:CK 234 QM:=ag fun (l,_) _ _=>by
 refine aq si (ah7 l) func234 (?_:(fun (u:l5 (Sh.nm NT.field))=>(fun (o:Int)=>(fun (j:Int)=>(fun (d:Nat)=>(fun (h:Int)=>(fun (a:Int)=>l.length*(48:Nat)<=(140737488355328:Nat)->∃ (g:Nat),(l=l/\a=(g:Int))/\(g<=d/\o=dC (eL l g) (drop g l)/\Wq (oM l g))/\∀ (s:Nat),(fun (c:Int)=>(fun (p:l5 (Sh.nm NT.field))=>s<=d/\o=dC (eL l s) (drop s l)/\Wq (oM l s)->(c<j->a<=c/\c<j/\∀ (x:Field),(fun (t:Int)=>(fun (q:Int)=>l[s]? = some x->a7 x.num->a7 x.fl->x.n.n<(18446744073709551616:Nat)->x.b.length*(1:Nat)<=(140737488355328:Nat)->a7 t->((¬t=a\/x.fl=a/\a<q)\/x.fl=(2:Int)/\¬(x.n.n:Int)=(↑(0:Nat):Int)->h=bX l)/\((t=a/\(¬x.fl=a\/q<=a))/\(¬x.fl=(2:Int)\/(x.n.n:Int)=(↑(0:Nat):Int))->(a<c->a7 (c - h))/\(a<c->a<=c - h/\c - h<j)/\((a<c->a7 p.num/\a7 p.fl/\p.n.n<(18446744073709551616:Nat)/\p.b.length*(1:Nat)<=(140737488355328:Nat))->(a<c/\(!du p x)=true->(5:Int)=bX l)/\(c<=a\/(!du p x)=false->((16384:Int)<q->(4:Int)=bX l)/\(q<=(16384:Int)->a7 (c+h)/\∃ (e:Nat),(l=l/\c+h=(e:Int))/\(e <= d/\o=dC (eL l e) (drop e l)/\Wq (oM l e))/\d - e < d - s))))) (x.b.length:Int)) (jQ x.num x.fl))/\(j<=c->∃ (g:Nat),(l=l/\a=(↑(fx (take g l)):Int)/\a=(g:Int))/\(g<=d/\o=a/\fx (take g l)<=g*(16404:Nat)/\Wq (oM l d))/\∀ (s:Nat),(fun (i:Int)=>s<=d/\o=a/\fx (take s l)<=s*(16404:Nat)/\Wq (oM l d)->((s:Int)<j->a<=(s:Int)/\(s:Int)<j/\∀ (x:Field),l[s]? = some x->a7 x.num->a7 x.fl->x.n.n<(18446744073709551616:Nat)->x.b.length*(1:Nat)<=(140737488355328:Nat)->x.b.length<=(16384:Nat)/\a7 (i+(↑(bZ x).length:Int))/\a7 ((s:Int)+h)/\∃ (e:Nat),(l=l/\i+(↑(bZ x).length:Int)=(↑(fx (take e l)):Int)/\(s:Int)+h=(e:Int))/\(e <= d/\o=a/\fx (take e l)<=e * (16404:Nat)/\Wq (oM l d))/\d - e < d - s)/\(j<=(s:Int)->((16384:Int)<i->(4:Int)=bX l)/\(i<=(16384:Int)->a=bX l))) (↑(fx (take s l)):Int))) (l.getD (c - h).toNat u)) (s:Int)) (0:Int)) (1:Int)) l.length) (l.length:Int)) (dC none l)) (c5 (Sh.nm NT.field)));(repeat' with_reducible first|apply aT|refine aW ?_|intro)
 all_goals try (refine ⟨0,?_⟩; (repeat' with_reducible first|apply aT|refine aW ?_|intro))
 all_goals try (have v:((‹Nat›:Nat):Int)<(l.length:Int):=az; clear v; refine ⟨‹Nat› + 1,?_⟩; (repeat' with_reducible first|apply aT|refine aW ?_|intro))
 all_goals try (refine ⟨0,?_⟩; (repeat' with_reducible first|apply aT|refine aW ?_|intro))
 all_goals try (refine ⟨‹Nat› + 1,?_⟩; (repeat' with_reducible first|apply aT|refine aW ?_|intro))
 all_goals (first | exact bR | exact rfl | exact (sh 0) | exact ⟨amF⟩ | exact (Oc ab ab (m3a ap)) | exact (To ab ab (m3b ab ap ap) az (ael az ab) (m3r ab)) | exact (PS ab ab (m3b ab ap ap) (Kg (m3p ap) az) ab) | exact (DY ab ab (m3b ab ap ap) (Kg (m3p ap) az) az) | exact (amn ab ab ab) | exact (aqa ab az) | exact (ahJ ab ab) | exact (yR ab az) | exact (aoN (k:=‹Nat›) ab az az) | exact (aml (k:=‹Nat›) ab az az) | (have w:=kM (f:=‹Field›) (ahJ ab ab) ab; have y:=DM (show l[_]? = some ‹Field› by with_reducible assumption); first | omega | (refine cY ?_ ?_ <;> omega)))
def Qj:Kn:=aH (ae (kC cI) (ae (kC cI) ao)) au fun (q,v,_) _=>⟨[q=1],[.c (.int ((bw v)))],none,false⟩
theorem acQ:CK 181 Qj:=ag fun (q,v,_) _ h=>by
 have i:=b_ h;refine aq si (akL q v) func181 (?_:(fun c=>(fun a=>a7 q->a7 v->q=1/\(a.length*32<=140737488355328->∃ e,(c=foldl (fun t s=>max t s.num) c (take e a)/\a=a/\c=(e:Int))/\e<=a.length/\∀ (s:Nat),(fun g=>s<=a.length->((s:Int)<(a.length:Int)->c<=(s:Int)/\(s:Int)<(a.length:Int)/\∀ (x:k9),a[s]? = some x->jB x (a7 ((s:Int)+1)/\∃ d,(max g x.num=foldl (fun t s=>max t s.num) c (take d a)/\a=a/\(s:Int)+1=(d:Int))/\d <= a.length/\a.length - d < a.length - s))/\((a.length:Int)<=(s:Int)->g=bw v)) (foldl (fun t s=>max t s.num) c (take s a)))) (aC v)) (0:Int));iterate 3 ((all_goals (repeat' with_reducible first|apply aT|refine aW ?_|intro)); (all_goals try (first | exact bR | exact (CE ab) | (rw [bw,r6 az]))); all_goals try first | refine ⟨‹Nat› + 1,?_⟩ | refine ⟨0,?_⟩)
def agO:ck:=(aI 181 Qj (aI 234 QM (aI 230 Hg ago)))
def sG:ay prog (av l6) agO:=(ah acQ (ah aeG (ah WW si)))
theorem qP (h:(ak b).2.2=0) (q:(ak b).2.1<=n):ak (b.take n)=ak b:=by
 have a:ak b=((ak b).1,(ak b).2.1,0):=by rw [<- h]
 have d:(ak b).1<18446744073709551616:=aaD (l:=b) (k:=0) (n:=0) am am am;obtain ⟨u,j,g,s,c,_⟩:=J0 (k:=0) (n:=0) a;have i:u=(ak b).1:=by simpa using g.symm
 have o:j=(ak b).2.1:=by omega
 rw [i,o] at c;have p:(ak b).2.1<=b.length:=by have:=(mT (l:=b) (k:=0) (n:=0) am).2; rw [x7] at this; exact this
 have e:b.take n=bF (ak b).1++(b.take n).drop (ak b).2.1:=by grind [List.take_append_drop]
 rw [e,mO d,c,s9,E3 p,<- a]
theorem afs (h:(aA b).e=0):(ak b).2.2=0/\(aA b).k=(ak b).2.1:=by
 by_cases a:(ak b).2.2=0
 ·refine ⟨a,?_⟩;unfold aA at h ⊢;rw [eg a] at h ⊢;split
  ·grind
  rfl
 grind [yq]
def Aj (h:(aA b).e=0) (c:(aA b).k<=n):aA (b.take n)=aA b:=by
 obtain ⟨a,d⟩:=afs h;unfold aA; rw [qP a az]
theorem QO (h:(aK b).2=0):(aA b).e=0/\(ak (b.drop (aA b).k)).2.2=0/\(aA b).k+(ak (b.drop (aA b).k)).2.1<=(aK b).1:=by
 by_cases a:(aA b).e=0
 ·by_cases c:(ak (b.drop (aA b).k)).2.2=0
  ·refine ⟨a,c,?_⟩;by_cases d:(aA b).fl=0
   ·simp_all [ae3]
   by_cases g:16384<(ak (b.drop (aA b).k)).1
   ·rw [aea a c d g] at h; cases h
   by_cases i:((b.length:Nat):Int) - (((aA b).k+(ak (b.drop (aA b).k)).2.1:Nat):Int)<(((ak (b.drop (aA b).k)).1:Nat):Int)
   ·grind [akt]
   simp_all [ajk]
  grind [adT]
 rw [afK a] at h; exact absurd h a
def Fk (a:(aK b).2=0) (c:(aA b).fl=0):Field.mk (aA b).num (aA b).fl (y1.mk (ak (b.drop (aA b).k)).1) []=f_ (b.take (aK b).1):=by
 obtain ⟨d,e,g⟩:=QO a;unfold f_;rw [Aj d az,eg c,drop_take,qP e az]
def FY (a:(aK b).2=0) (c:¬ (aA b).fl=0):Field.mk (aA b).num (aA b).fl (y1.mk 0) ((b.drop (((aA b).k:Int)+((ak (b.drop (aA b).k)).2.1:Nat)).toNat).take ((aK b).1 - (((aA b).k:Int)+((ak (b.drop (aA b).k)).2.1:Nat)).toNat))=f_ (b.take (aK b).1):=by
 obtain ⟨d,g,h⟩:=QO a;have e:ak ((b.take (aK b).1).drop (aA b).k)=ak (b.drop (aA b).k):=by rw [drop_take,qP g az]
 unfold f_;rw [Aj d az,dc c,e,drop_take,show (((aA b).k:Int)+((ak (b.drop (aA b).k)).2.1:Nat)).toNat=(aA b).k+(ak (b.drop (aA b).k)).2.1 by omega]
variable {i:Nat}
def Y1 (h:0<(((b.drop i).length:Nat):Int)):(i:Int)<(b.length:Int):=by rw [length_drop] at h; omega
def u5S {s:Nat × List Field} (h:Wq (eZ b s.1 s.2)) (a:0<(((b.drop s.1).length:Nat):Int)) (c:¬ (aK (b.drop s.1)).2=0):aM b=([],(aK (b.drop s.1)).2):=tlS h (Y1 a) c
def u5x:((i:Int)+((aK (b.drop i)).1:Nat)).toNat - i=(aK (b.drop i)).1:=by omega
def u5L {s:Nat × List Field} (h:Wq (eZ b s.1 s.2)) (a:0<(((b.drop s.1).length:Nat):Int)) (c:(aK (b.drop s.1)).2=0) (d:fb s.2 (f_ ((b.drop s.1).take (aK (b.drop s.1)).1))=false):aM b=([],5):=tlL h (Y1 a) c (by rw [u5x]; exact d)
def u5N {s:Nat × List Field} (h:Wq (eZ b s.1 s.2)) (a:0<(((b.drop s.1).length:Nat):Int)) (c:(aK (b.drop s.1)).2=0) (d:fb s.2 (f_ ((b.drop s.1).take (aK (b.drop s.1)).1))=true):Wq (eZ b (Ki b s).1 (Ki b s).2):=tlN h (Y1 a) c (by rw [u5x]; exact d)
def u5E {s:Nat × List Field} (h:Wq (eZ b s.1 s.2)) (a:(((b.drop s.1).length:Nat):Int)<=0):aM b=(s.2,0):=tlE h (by rw [length_drop] at a; omega)
def u5F {g:Field} (a:0<(xs.length:Int)) (h:(!du (xs.getD ((xs.length:Int) - 1).toNat (c5 (.nm .field))) f)=true) (e:f=g):fb xs g=false:=by
 rw [<- e,<- FW az]; simpa using h
theorem u5T {g:Field} (h:(xs.length:Int)<=0\/(!du (xs.getD ((xs.length:Int) - 1).toNat (c5 (.nm .field))) f)=false) (e:f=g):fb xs g=true:=by grind [OS,FW]
def u5A {s:Nat × List Field} (e:f=f_ ((b.drop s.1).take (aK (b.drop s.1)).1)):s.2++[f]=(Ki b s).2:=by rw [NK,e]
def u5D {s:Nat × List Field}:(b.drop s.1).drop (aK (b.drop s.1)).1=b.drop (Ki b s).1:=by rw [I6]; rfl
def FdG (x:Field) (y:k9):Prop:=x.num=y.num->x.fl=y.fl/\(¬ x.fl=0\/¬ ((x.n.n:Nat):Int)=((0:Nat):Int))/\(¬ x.fl=2\/¬ ((x.b.length:Nat):Int)=0)
def Vx (l:List Field) (y:k9) (k:Nat):Prop:=∀ j x,j<k->l[j]? = some x->FdG x y
def SpG (l:List Field) (y:k9):Prop:=Vx l y l.length/\(((dV l y.num:Nat):Int)<=1\/y.hY=true)/\(¬ ((dV l y.num:Nat):Int)=0\/y.x3=false)
def LX (l:List Field) (ss:List k9) (k:Nat):Prop:=∀ j y,j<k->ss[j]? = some y->SpG l y
def alO:LX l ss 0:=fun j y h=>by omega
def ap7 {y:k9}:Vx l y 0:=fun j y h=>by omega
def W2 (h:k<ss.length):ss[k]? = some (ss.getD k (c5 (.nm .spec))):=by
 rw [ts,p6 h]; rfl
def U0 {x:k9} (a:ss[k]? = some x):x=ss.getD k (c5 (.nm .spec)):=by rw [ts,a]; rfl
theorem fdN {y:k9} (h:Wq (Vx l y k)) (d:k<l.length) (e:FdG (l.getD k (c5 (.nm .field))) y):Wq (Vx l y (k+1)):=⟨fun j x g a=>by
 by_cases c:j=k
 ·grind
 exact h.h j x az a⟩
def fdn {y:k9} (a:k<l.length) (h:¬ (l.getD k (c5 (.nm .field))).num=y.num):dV (l.take (k+1)) y.num=dV (l.take k) y.num:=by
 rw [oT (P3 a),dc (fun e=>h e.symm)]
def fdy {y:k9} (a:k<l.length) (h:(l.getD k (c5 (.nm .field))).num=y.num):dV (l.take (k+1)) y.num=dV (l.take k) y.num+1:=by
 rw [oT (P3 a),eg h.symm,h]
def spN (h:Wq (LX l ss k)) (g:k<ss.length) (o:Wq (Vx l (ss.getD k (c5 (.nm .spec))) m)) (p:l.length<=m) (d:((dV (l.take m) (ss.getD k (c5 (.nm .spec))).num:Nat):Int)<=1\/(ss.getD k (c5 (.nm .spec))).hY=true) (e:¬ ((dV (l.take m) (ss.getD k (c5 (.nm .spec))).num:Nat):Int)=0\/(ss.getD k (c5 (.nm .spec))).x3=false):Wq (LX l ss (k+1)):=⟨fun j y q a=>by
 by_cases c:j=k
 ·subst c; rw [W2 g] at a; cases a;rw [r6 p] at d e;exact ⟨fun j x q=>o.h j x az,d,e⟩
 exact h.h j y az a⟩
theorem Xu (h:dp x=true):x.fl=0\/x.fl=2:=by
 unfold dp at h;by_cases a:x.fl=0
 ·exact .inl a
 grind
theorem An {l:List Field} {q:Int}:∀ {k:Nat},k<=l.length->1<=dV (l.take k) q->∃ j x,l[j]? = some x/\x.num=q/\dV (l.take (j+1)) q=dV (l.take k) q
 | 0,_,h=>by simp [dV] at h
 | k+1,d,h=>by
  have a:l[k]? = some l[k]:=p6 az;by_cases e:q=l[k].num
  ·exact ⟨k,_,a,e.symm,rfl⟩
  have c:=oT a q;rw [dc e] at c;rw [c] at h ⊢;exact An az h
theorem ab5 {v:Int} (h:(¬ (l.getD m (c5 (.nm .field))).fl=((aC v).getD k (c5 (.nm .spec))).fl\/(l.getD m (c5 (.nm .field))).fl=0/\(((l.getD m (c5 (.nm .field))).n.n:Nat):Int)=((0:Nat):Int))\/(l.getD m (c5 (.nm .field))).fl=2/\(((l.getD m (c5 (.nm .field))).b.length:Nat):Int)=0) (d:k<(aC v).length) (c:m<l.length) (e:(l.getD m (c5 (.nm .field))).num=((aC v).getD k (c5 (.nm .spec))).num):¬ s_ l v:=by
 intro g;have a:=g.1 m _ c (P3 c) _ (A9 (W2 d)) e.symm;unfold Ie at a;split at a
 ·cases a
 grind
def abZ {v:Int} (h:(1<((dV (l.take m) ((aC v).getD k (c5 (.nm .spec))).num:Nat):Int)/\((aC v).getD k (c5 (.nm .spec))).hY=false)\/(((dV (l.take m) ((aC v).getD k (c5 (.nm .spec))).num:Nat):Int)=0/\((aC v).getD k (c5 (.nm .spec))).x3=true)) (d:k<(aC v).length) (t:l.length<=m):¬ s_ l v:=by
 intro g;rw [r6 t] at h;rcases h with ⟨o,e⟩ | ⟨o,e⟩
 ·obtain ⟨j,x,p,s,a⟩:=An (l:=l) (q:=((aC v).getD k (c5 (.nm .spec))).num) (sh _) (by rw [I2]; omega);rw [I2] at a;have c:=g.1 j x (nB p) p _ (A9 (W2 d)) s.symm;rw [s,a] at c;unfold Ie at c;rw [eg (.inr ⟨o,e⟩)] at c; cases c
 exact g.2 k _ d (W2 d) e az
theorem ai9 {v:Int} (h:Wq (LX l (aC v) k)) (z:(aC v).length<=k) (g:bX l=0):s_ l v:=by
 have o:=qf (yH g);refine ⟨fun j x d e s p a=>?_,fun j y d t a=>?_⟩
 ·obtain ⟨i,u,rfl⟩:=List.getElem_of_mem p;obtain ⟨w,A,_⟩:=h.h i _ az (p6 u);obtain ⟨B,C,D⟩:=w j x d e a.symm;have F:=Xu (o x (A9 e));have G:=Zi (l:=l) (q:=x.num) (j+1);unfold Ie;rw [dc]
  ·grind
  grind
 obtain ⟨_,_,c⟩:=h.h j y az t;rw [a] at c; simp at c; exact c
def u5K:(((aK b).1:Nat):Int)<=((b.length:Nat):Int):=by have:=pH b; omega
def u5G (a:(aK b).2=0):((aA b).k:Int)+((ak (b.drop (aA b).k)).2.1:Nat)<=(((aK b).1:Nat):Int):=by have:=(QO a).2.2; omega
def ahN (l:List Field):List (Nat × LI):=[(6,{ σ:=Nat,F:=fun k=>([(0,one (.fz (.nm .field) (l))),(5,one (.own 0)),(6,one (.int k))],[.row 5 .u8 ((((l.take k).map bZ).flatten))]),J:=fun k=>k<=l.length,μ:=fun k=>l.length - k })]
def aft (b:List UInt8):List (Nat × LI):=[(4,{ σ:=Nat × List Field,F:=fun s=>([(0,one (.fz .u8 (b.drop s.1))),(4,one (.own 0))],[.row 219 (.nm .field) ((s.2))]),J:=fun s=>Wq (eZ b s.1 s.2)/\s.1<=b.length/\s.2.length<=s.1,μ:=fun s=>b.length - s.1 })]
def Xh (q:Int) (v:Int) (l:List Field):List (Nat × LI):=[(8,{ σ:=Nat,F:=fun k=>([(2,one (.fz (.nm .field) (l))),(7,one (.fz (.nm .spec) (aC v))),(9,one (.int k))],[]),J:=fun k=>k<=(aC v).length/\Wq (LX l (aC v) k),μ:=fun k=>(aC v).length - k }),(13,{ σ:=Nat × Nat,F:=fun q=>([(2,one (.fz (.nm .field) (l))),(7,one (.fz (.nm .spec) (aC v))),(9,one (.int q.1)),(10,one (.ptr 0 0)),(11,one (.int (dV (l.take q.2) ((aC v).getD q.1 (c5 (.nm .spec))).num:Nat))),(12,one (.int q.2))],[.box 255 (cellsOf (.nm .spec) (((aC v).getD q.1 (c5 (.nm .spec)))))]),J:=fun q=>q.1<(aC v).length/\q.2<=l.length/\Wq (LX l (aC v) q.1)/\Wq (Vx l ((aC v).getD q.1 (c5 (.nm .spec))) q.2),μ:=fun q=>l.length - q.2,R:=some fun a q=>q.1=a.1 })]
def Vg:Kn:=aH (ae (kC (cL (.nm .field))) ao) au fun (l,_) _=>⟨[],[.c (.own 0),.c (.int ((bX l)))],some ([.row 5 .u8 ((iS l))]),true⟩
theorem adB:CK 237 Vg:=ag fun (l,_) _ _=>by
 refine cr sG (ahN l) func237 (?_:l.length*48<=140737488355328->a7 (bX l)->(¬bX l=0->bX l=bX l/\iS l=[])/\(bX l=0->∃ (c:Nat),(l=l/\0=(c:Int)/\(List.map bZ (take c l)).flatten=[])/\c<=l.length/\∀ (s:Nat),(fun (d:List UInt8)=>s<=l.length->((s:Int)<(l.length:Int)->0<=(s:Int)/\(s:Int)<(l.length:Int)/\∀ (x:Field),l[s]? = some x->a7 x.num->a7 x.fl->x.n.n<18446744073709551616->x.b.length*1<=140737488355328->x.b.length<=16384/\(d.length+(bZ x).length)*1<=140737488355328/\a7 ((s:Int)+1)/\∃ (a:Nat),(l=l/\(s:Int)+1=(a:Int)/\d++bZ x=(List.map bZ (take a l)).flatten)/\a <= l.length/\l.length - a < l.length - s)/\((l.length:Int)<=(s:Int)->0=bX l/\d=iS l)) (List.map bZ (take s l)).flatten));iterate 3 ((all_goals (repeat' with_reducible first|apply aT|refine aW ?_|intro)); (all_goals try (first | exact bR | exact (Pp ab).symm | exact (xf ab) | exact (oJ ab (A9 ab)) | exact (IL ab az) | (have e:=BZ (k:=‹Nat›) (show bX l=0 by with_reducible assumption); have g:=kM (f:=‹Field›) (oJ (show bX l=0 by with_reducible assumption) (A9 ab)) ab; omega))); all_goals try first | refine ⟨‹Nat› + 1,?_⟩ | refine ⟨0,?_⟩)
def Kl:Kn:=aH (ae (kC (cL .u8)) ao) au fun (b,_) _=>⟨[],[.c (.fz (.nm .field) (((aM b).1))),.c (.int (((aM b).2)))],none,false⟩
theorem Xl:CK 178 Kl:=ag fun (b,_) _ _=>by
 refine aq sG (aft b) func178 (?_:(fun (L:y1)=>(fun (G:Int)=>(fun (H:Nat)=>(fun (B:Nat)=>(fun (K:Prop)=>(fun (N:l5 (Sh.nm NT.field))=>(fun (O:Int)=>(fun (g:Int)=>b.length*1<=H->(16384<(b.length:Int)->K/\4=G)/\((b.length:Int)<=16384->∃ (F:Nat × List Field),(b=drop F.fst b/\F.snd=[])/\(Wq (eZ b F.fst F.snd)/\F.fst<=B/\F.snd.length<=F.fst)/\∀ (s:Nat × List Field),(fun (p:Int)=>(fun (c:Prop)=>(fun (j:Int)=>(fun (C:l5 (Sh.nm NT.field))=>(fun (I:Prop)=>(fun (D:List (l5 Sh.u8))=>(fun (w:Int)=>(fun (q:Int)=>(fun (a:N7)=>(fun (t:Int)=>(fun (u:Nat × Nat × Int)=>(fun (y:Nat)=>(fun (o:Int)=>(fun (z:Field)=>(fun (v:Int)=>(fun (J:List (l5 Sh.u8))=>(fun (A:Field)=>Wq (eZ b s.fst s.snd)/\s.fst<=B/\s.snd.length<=s.fst->(g<q->a7 o->a7 w->(¬w=g->K/\w=G)/\(w=g->a7 a.num->a7 t->a7 (a.k:Int)->a7 a.e->g<=(a.k:Int)/\(a.k:Int)<=q/\(u.fst<18446744073709551616->a7 (u.snd.fst:Int)->a7 u.snd.snd->(t=g->(c->a7 j)/\(c->g<=j/\j<p)/\((c->I)->(c/\(!du C z)=true->K/\5=G)/\(p<=g\/(!du C z)=false->(s.snd.length+[z].length)*48<=H/\g<=o/\o<=q/\∃ (d:Nat × List Field),(drop y D=drop d.fst b/\s.snd++[z]=d.snd)/\(Wq (eZ b d.fst d.snd)/\d.fst<=B/\d.snd.length<=d.fst)/\B - d.fst<B - s.fst)))/\(¬t=g->a7 v/\g<=v/\v<=o/\o<=q/\J.length*1<=H/\(c->a7 j)/\(c->g<=j/\j<p)/\((c->I)->(c/\(!du C A)=true->K/\5=G)/\(p<=g\/(!du C A)=false->(s.snd.length+[A].length)*48<=H/\g<=o/\o<=q/\∃ (d:Nat × List Field),(drop y D=drop d.fst b/\s.snd++[A]=d.snd)/\(Wq (eZ b d.fst d.snd)/\d.fst<=B/\d.snd.length<=d.fst)/\B - d.fst<B - s.fst))))))/\(q<=g->s.snd=(aM b).fst/\g=G)) (Field.mk a.num t L J)) (take (y - v.toNat) (drop v.toNat D))) ((a.k:Int)+(u.snd.fst:Int))) (Field.mk a.num t (y1.mk u.fst) [])) (y:Int)) (aK D).fst) (ak (drop a.k D))) a.fl) (aA D)) (D.length:Int)) (aK D).snd) (drop s.fst b)) (a7 C.num/\a7 C.fl/\C.n.n<18446744073709551616/\C.b.length*1<=H)) (s.snd.getD j.toNat N)) (p - O)) (g<p)) (s.snd.length:Int))) 0) 1) (c5 (Sh.nm NT.field))) ((aM b).fst=[])) b.length) 140737488355328) (aM b).snd) (y1.mk 0));iterate 3 ((all_goals (repeat' with_reducible first|apply aT|refine aW ?_|intro)); (all_goals try (first | exact bR | exact rfl | exact ⟨Ej az⟩ | (rw [tlB ab] <;> rfl) | (rw [u5S ab ab ab] <;> rfl) | (rw [u5L ab ab ab (u5F ab ab (Fk ab ab))] <;> rfl) | (rw [u5L ab ab ab (u5F ab ab (FY ab ab))] <;> rfl) | (rw [u5E ab ab] <;> rfl) | exact (u5N ab ab ab (u5T ap (Fk ab ab))) | exact (u5N ab ab ab (u5T ap (FY ab ab))) | exact (u5A (Fk ab ab)) | exact (u5A (FY ab ab)) | exact u5D | exact (nx1 ab) | exact (nx2 ab ab) | exact (nx3 (Y1 ab) ab) | exact (u5K (b:=b.drop ‹Nat × List Field›.1)) | exact (u5G ab) | (have h:=pH (b.drop ‹Nat × List Field›.1); have P:=ll (b.drop ‹Nat × List Field›.1); have Q:=jv (b.drop ‹Nat × List Field›.1) (aA (b.drop ‹Nat × List Field›.1)).k; rw [length_drop] at *; first | omega | (refine cY ?_ ?_ <;> omega)) | (rw [s9,length_drop,length_drop]; omega) | (simp only [y4,C1]; omega))); all_goals try first | refine ⟨Ki b ‹Nat × List Field›,?_⟩ | refine ⟨(0,[]),?_⟩)
def AX:Kn:=aH (ae (kC cI) (ae (kC cI) (ae (kC (cL (.nm .field))) ao))) au fun (q,v,l,_) _=>⟨[q=1],[.c (.int ((eI l v)))],none,false⟩
theorem Pa:CK 179 AX:=ag fun (q,v,l,_) _ U=>by
 have X:=b_ U;refine aq sG (Xh q v l) func179 (?_:(fun (I:Nat)=>(fun (V:Nat)=>(fun (H:Nat)=>(fun (P:Nat)=>(fun (T:Int)=>(fun (z:Int)=>(fun (O:Int)=>(fun (p:Int)=>(fun (N:l5 (Sh.nm NT.spec))=>(fun (d:List k9)=>(fun (A:Int)=>(fun (t:Nat)=>(fun (W:l5 (Sh.nm NT.field))=>a7 q->a7 v->l.length*(48:Nat)<=P->q=z/\(d.length*(32:Nat)<=P->(A=p->z=eI l v)/\(¬A=p->a7 (bX l)->(¬bX l=p->bX l=eI l v)/\(bX l=p->∃ (C:Nat),(l=l/\d=d/\p=(C:Int))/\(C<=t/\Wq (LX l d C))/\∀ (s:Nat),s<=t/\Wq (LX l d s)->((s:Int)<A->p<=(s:Int)/\(s:Int)<A/\∀ (x:k9),d[s]? = some x->jB x (∃ (C:Nat × Nat),(fun (j:Nat)=>(l=l/\d=d/\(s:Int)=(j:Int)/\p=(↑(dV (take C.snd l) (d.getD j N).num):Int)/\p=(C.snd:Int)/\FF x (d.getD j N))/\(j<t/\C.snd<=H/\Wq (LX l d j)/\Wq (Vx l (d.getD j N) C.snd))/\j=j/\∀ (a:Nat × Nat),(fun (Q:List Field)=>(fun (g:Int)=>(fun (D:Prop)=>(fun (o:k9)=>(fun (S:Int)=>(fun (w:Int)=>(fun (c:l5 (Sh.nm NT.field))=>(fun (J:Prop)=>(fun (u:Int)=>(fun (y:Prop)=>(fun (F:Prop)=>(fun (G:Prop)=>(fun (B:Prop)=>a.fst<t/\a.snd<=H/\Wq (LX l d a.fst)/\Wq (Vx l o a.snd)->a.fst=j->(g<O->p<=g/\g<O/\(a7 c.num->a7 u->c.n.n<I->J->(¬c.num=o.num->a7 (g+z)/\∃ (e:Nat × Nat),(fun (K:k9)=>(l=l/\d=d/\(a.fst:Int)=(e.fst:Int)/\w=(↑(dV (take e.snd l) K.num):Int)/\g+z=(e.snd:Int)/\FF o K)/\(e.fst<t/\e.snd<=H/\Wq (LX l d e.fst)/\Wq (Vx l K e.snd))/\e.fst=j/\H - e.snd<H - a.snd) (d.getD e.fst N))/\(c.num=o.num->a7 (w+z)/\p<=g/\g<O/\(y->D)/\(y/\u=p->D)/\(B->D)/\(B/\F->D)/\(a7 c.num->a7 u->c.n.n<I->J->(y->G)->(y/\u=p->G)->(B->G)->(B/\F->G)->((¬y\/u=p/\(c.n.n:Int)=T)\/F/\(c.b.length:Int)=p->(6:Int)=eI l v)/\(B/\(¬F\/¬(c.b.length:Int)=p)->a7 (g+z)/\∃ (e:Nat × Nat),(fun (L:k9)=>(l=l/\d=d/\(a.fst:Int)=(e.fst:Int)/\w+z=(↑(dV (take e.snd l) L.num):Int)/\g+z=(e.snd:Int)/\FF o L)/\(e.fst<t/\e.snd<=H/\Wq (LX l d e.fst)/\Wq (Vx l L e.snd))/\e.fst=j/\H - e.snd<H - a.snd) (d.getD e.fst N))))))/\(O<=g->(z<w/\o.hY=false\/w=p/\o.x3=true->(6:Int)=eI l v)/\((w<=z\/o.hY=true)/\(¬w=p\/o.x3=false)->a7 ((a.fst:Int)+z)/\∃ (e:Nat),(l=l/\d=d/\(a.fst:Int)+z=(e:Int))/\(e <= t/\Wq (LX l d e))/\t - e < t - s))) (y/\(¬u=p\/¬(c.n.n:Int)=T))) (a7 c.num/\a7 u/\c.n.n<I/\J)) (u=(2:Int))) (u=S)) c.fl) (c.b.length*V<=P)) (l.getD a.snd W)) (↑(dV Q o.num):Int)) o.fl) (d.getD a.fst N)) (p<=g/\g<O)) (a.snd:Int)) (take a.snd l)) C.fst))/\(A<=(s:Int)->p=eI l v))))) (c5 (Sh.nm NT.field))) d.length) (d.length:Int)) (aC v)) (c5 (Sh.nm NT.spec))) (0:Int)) (l.length:Int)) (1:Int)) (↑(0:Nat):Int)) (140737488355328:Nat)) l.length) (1:Nat)) (18446744073709551616:Nat))
 (repeat' with_reducible first|apply aT|refine aW ?_|intro)
 all_goals try (refine ⟨0,?_⟩; (repeat' with_reducible first|apply aT|refine aW ?_|intro))
 all_goals try (refine ⟨(‹Nat›,0),?_⟩; (repeat' with_reducible first|apply aT|refine aW ?_|intro))
 all_goals try (refine ⟨(‹Nat × Nat›.1,‹Nat × Nat›.2+1),?_⟩; (repeat' with_reducible first|apply aT|refine aW ?_|intro))
 all_goals try (refine ⟨‹Nat × Nat›.1+1,?_⟩; (repeat' with_reducible first|apply aT|refine aW ?_|intro))
 all_goals (first | exact bR | exact (ajQ az) | exact (aiY az ab) | exact ⟨alO⟩ | exact ⟨ap7⟩ | exact (hC k9.num (U0 ab)) | exact (hC k9.fl (U0 ab)) | exact (hC k9.since (U0 ab)) | exact (hC k9.x3 (U0 ab)) | exact (hC k9.hY (U0 ab)) | exact (Yq az ab (ab5 ap ab az ab)) | exact (Yq az ab (abZ ap ab az)) | exact (ak0 az ab (ai9 ab az ab)) | exact (fdN ab az (fun h=>absurd h ab)) | exact (fdN ab az (fun _=>And.intro ab (And.intro ap ap))) | exact (spN ab ab ab az ap ap) | (rw [fdn az ab]) | (rw [fdy az ab]; rfl) | (have Y:=HO (l:=l) (k:=‹Nat × Nat›.2) ((aC v).getD ‹Nat × Nat›.1 (c5 (.nm .spec))).num; refine cY ?_ ?_ <;> omega))
def ajE:ck:=(aI 179 AX (aI 178 Kl (aI 237 Vg agO)))
def Ji:ay prog (av l6) ajE:=(ah Pa (ah Xl (ah adB sG)))
def pi1 {c:b5} {v:Int} (h:aO v 1 3=false):dw c rest v=1:=pb1 h
def pi2 {c:b5} {v:Int} (h:aO v 1 3=true) (a:eK c v=false) (d:¬ aP c v=0):dw c rest v=aP c v:=pb2 h a d
def pi3 {c:b5} {v:Int} (a:(rest.getD k (c5 (.nm .field))).num<=bw v) (h:aO v 1 3=true) (d:eK c v=true\/aP c v=0) (e:k<rest.length):dw c rest v=6:=pb3 h d (P3 e) a
def pi0 {c:b5} {v:Int} (h:aO v 1 3=true) (a:eK c v=true\/aP c v=0) (d:Wq (nS rest v k)) (e:rest.length<=k):dw c rest v=0:=pb0 h a d e
def agH {v:Int} (h:Wq (nS rest v k)) (c:bw v<(rest.getD k (c5 (.nm .field))).num) (a:k<rest.length):Wq (nS rest v (k+1)):=abc h (P3 a) az
def ab6 (c:b5) (rest:List Field) (v:Int):List (Nat × LI):=[(8,{ σ:=Nat,F:=fun k=>([(1,one (.fz (.nm .field) (rest))),(2,one (.int (v))),(3,one (.ptr 0 0)),(9,one (.int k))],[.box 35 (cellsOf (.nm .command) (c))]),J:=fun k=>k<=rest.length/\Wq (nS rest v k),μ:=fun k=>rest.length - k })]
def Hj:Kn:=aH (ae (kT (.nm .command)) (ae (kC (cL (.nm .field))) (ae (kC cI) ao))) au fun (c,rest,v,_) _=>⟨[rest.length<=20000],[.c (.own 0),.c (.int ((dE c rest v)))],some ([.row 5 .u8 ((ew c rest v))]),true⟩
theorem Zy:CK 183 Hj:=ag fun (c,rest,v,_) _ w=>by
 have y:=b_ w;refine cr Ji (ab6 c rest v) func183 (?_:(fun (g:Nat)=>(fun (j:Nat)=>(fun (o:Int)=>(fun (q:Prop)=>(fun (d:Int)=>(fun (e:l5 (Sh.nm NT.field))=>(fun (a:Int)=>(fun (u:Prop)=>bc c (g*48<=140737488355328->a7 v->(aO v d 3=false->d=o/\q)/\(aO v d 3=true->(eK c v=false->a7 (aP c v)->(¬aP c v=a->aP c v=o/\q)/\(aP c v=a->u))/\(eK c v=true->u)))) (∃ (t:Nat),(rest=rest/\v=v/\a=(t:Int)/\aG c c)/\(t<=j/\Wq (nS rest v t))/\∀ (s:Nat),s<=j/\Wq (nS rest v s)->((s:Int)<(g:Int)->a<=(s:Int)/\(s:Int)<(g:Int)/\d=d/\(a7 (rest.getD s e).num->a7 (rest.getD s e).fl->(rest.getD s e).n.n<18446744073709551616->(rest.getD s e).b.length*1<=140737488355328->a7 (bw v)->((rest.getD s e).num<=bw v->6=o/\q)/\(bw v<(rest.getD s e).num->a7 ((s:Int)+d)/\∃ (p:Nat),(rest=rest/\v=v/\(s:Int)+d=(p:Int)/\aG c c)/\(p <= j/\Wq (nS rest v p))/\j - p < j - s)))/\((g:Int)<=(s:Int)->a<=c.kind/\a<=c.a6/\a<=c.seq/\a<=c.set/\a<=c.id/\a<=c.n/\(c.b9.length=0\/bI c.b9=true)/\((bE c v).length+g)*48<=140737488355328/\(a7 (bX (bE c v++rest))->bX (bE c v++rest)=o/\iS (bE c v++rest)=ew c rest v)))) 0) (c5 (Sh.nm NT.field))) 1) (ew c rest v=[])) (dE c rest v)) rest.length) rest.length);iterate 3 ((all_goals (repeat' with_reducible first|apply aT|refine aW ?_|intro)); (all_goals try (first | exact bR | exact rfl | exact ⟨ZV⟩ | exact (agH ab ab az) | exact (qx (pi1 ab) am) | exact (qe (pi1 ab) am).symm | exact (qx (pi2 ab ab ab) ab) | exact (qe (pi2 ab ab ab) ab).symm | exact (qx (pi3 ab ab (by first | exact .inl ab | exact .inr ab) az) am) | exact (qe (pi3 ab ab (by first | exact .inl ab | exact .inr ab) az) am).symm | exact (abE (pi0 ab (by first | exact .inl ab | exact .inr ab) ab az)) | exact (aao (pi0 ab (by first | exact .inl ab | exact .inr ab) ab az)) | exact (acr ab) | exact (Ya ab) | (have h:0<=c.kind/\0<=c.a6/\0<=c.seq/\0<=c.set/\0<=c.id/\0<=c.n:=(by first | exact QG ab | exact UJ ab); omega) | (have h:=u_ c v; omega))); all_goals try first | refine ⟨‹Nat› + 1,?_⟩ | refine ⟨0,?_⟩)
def akV:ck:=(aI 183 Hj ajE)
def HK:ay prog (av l6) akV:=(ah Zy Ji)
def adl (f:Field):Int:=((min f.n.n 1048577:Nat):Int)
def aS (a:List Int) (f:Field):List Int:=if f.num<=6 then a.set f.num.toNat (adl f) else a
def aR (l:List Field):List Int:=l.foldl aS [0,0,0,0,0,0,0]
def P0 (c:b5) (f:Field):b5:=if f.num=7 then ⟨c.kind,c.a6,c.seq,c.set,c.id,c.n,fN f.b,c.text⟩ else if f.num=8 then ⟨c.kind,c.a6,c.seq,c.set,c.id,c.n,c.b9,⟨f.b⟩⟩ else c
def cR (l:List Field):b5:=l.foldl P0 bM
def NH (a:l[k]? = some x):aR (l.take (k+1))=aS (aR (l.take k)) x:=by
 unfold aR; rw [aj a,I5]; rfl
def Kx (a:l[k]? = some x):cR (l.take (k+1))=P0 (cR (l.take k)) x:=by
 unfold cR; rw [aj a,I5]; rfl
def aqm (a:l[k]? = some x) (h:x.num<=6):(aR (l.take k)).set x.num.toNat (de (min x.n.n 1048577))=aR (l.take (k+1)):=by
 rw [NH a,aS,eg h,adl,iA az]
def al4 (a:l[k]? = some x) (h:6<x.num):aR (l.take k)=aR (l.take (k+1)):=by
 rw [NH a,aS,dc az]
def apn (a:l[k]? = some x) (h:x.num=7):cR (l.take (k+1))=⟨(cR (l.take k)).kind,(cR (l.take k)).a6,(cR (l.take k)).seq,(cR (l.take k)).set,(cR (l.take k)).id,(cR (l.take k)).n,fN x.b,(cR (l.take k)).text⟩:=by
 rw [Kx a,P0,eg h]
def an7 (a:l[k]? = some x) (h:x.num=8):cR (l.take (k+1))=⟨(cR (l.take k)).kind,(cR (l.take k)).a6,(cR (l.take k)).seq,(cR (l.take k)).set,(cR (l.take k)).id,(cR (l.take k)).n,(cR (l.take k)).b9,⟨x.b⟩⟩:=by
 rw [Kx a,P0,dc az,eg h]
def aoj (a:l[k]? = some x) (h:¬ x.num=7) (c:¬ x.num=8):cR (l.take (k+1))=cR (l.take k):=by
 rw [Kx a,P0,dc h,dc c]
def E9 (x y:Int):Prop:=∃ n:Nat,n<18446744073709551616/\x=((min n 1048577:Nat):Int)/\y=de n
structure x0 (a:List Int) (c r:b5):Prop where
 len:a.length=7
 n1:E9 (a.getD 1 (c5 .int)) r.kind
 n2:E9 (a.getD 2 (c5 .int)) r.a6
 n3:E9 (a.getD 3 (c5 .int)) r.seq
 n4:E9 (a.getD 4 (c5 .int)) r.set
 n5:E9 (a.getD 5 (c5 .int)) r.id
 n6:E9 (a.getD 6 (c5 .int)) r.n
 ch:c.b9=r.b9
 tx:c.text=r.text
def amr:x0 [0,0,0,0,0,0,0] bM bM:=⟨rfl,⟨0,am,rfl,rfl⟩,⟨0,am,rfl,rfl⟩,⟨0,am,rfl,rfl⟩,⟨0,am,rfl,rfl⟩,⟨0,am,rfl,rfl⟩,⟨0,am,rfl,rfl⟩,rfl,rfl⟩
def aoT (h:f.n.n<18446744073709551616):E9 (adl f) (LQ f):=⟨f.n.n,h,rfl,ef h⟩
variable {r:b5} {a:List Int}
def ao3 {c:b5} (h:x0 a c r) (v:f.n.n<18446744073709551616) (y:1<=f.num):x0 (aS a f) (P0 c f) (fu r f):=by
 obtain ⟨w,d,g,j,o,p,q,s,t⟩:=h;have u:=aoT v;match a,w with
 | [z,A,B,C,D,F,G],_=>
  have:f.num=1\/f.num=2\/f.num=3\/f.num=4\/f.num=5\/f.num=6\/f.num=7\/f.num=8\/8<f.num:=by omega
  unfold aS P0 fu;rcases this with e | e | e | e | e | e | e | e | e
  ·simp [e]; exact ⟨rfl,u,g,j,o,p,q,s,t⟩
  ·simp [e]; exact ⟨rfl,d,u,j,o,p,q,s,t⟩
  ·simp [e]; exact ⟨rfl,d,g,u,o,p,q,s,t⟩
  ·simp [e]; exact ⟨rfl,d,g,j,u,p,q,s,t⟩
  ·simp [e]; exact ⟨rfl,d,g,j,o,u,q,s,t⟩
  ·simp [e]; exact ⟨rfl,d,g,j,o,p,u,s,t⟩
  ·simp [e]; exact ⟨rfl,d,g,j,o,p,q,rfl,t⟩
  ·simp [e]; exact ⟨rfl,d,g,j,o,p,q,s,rfl⟩
  rw [dc az,dc az,dc az,dc az,dc az,dc az,dc az,dc az,dc az,dc az,dc az];exact ⟨rfl,d,g,j,o,p,q,s,t⟩
def am9 (h:Wq (x0 (aR (l.take k)) (cR (l.take k)) (cj (l.take k)))) (c:l[k]? = some x) (d:x.n.n<18446744073709551616) (e:1<=x.num):Wq (x0 (aR (l.take (k+1))) (cR (l.take (k+1))) (cj (l.take (k+1)))):=by
 rw [NH c,Kx c,dS c]; exact ⟨ao3 h.h d e⟩
def aay {v u:Int} (e:(aM b).2=0) (g:eI (aM b).1 v=0) (h:(bL (aM b).1 u)[k]? = some x):1<=x.num/\x.b.length<=16384:=by
 have j:=Hq (P9 e g);have c:=A9 h;refine ⟨?_,S_ (P9 e g) x c⟩;have d:=qf (yH j.2) x (by unfold bL at c; exact (R3.1 c).1);unfold dp at d;simp at d;exact d.1.1
def M8 (a:List Int) (c:b5):b5:=⟨a.getD 1 (c5 .int),a.getD 2 (c5 .int),a.getD 3 (c5 .int),a.getD 4 (c5 .int),a.getD 5 (c5 .int),a.getD 6 (c5 .int),c.b9,c.text⟩
def T7 (c:b5):Prop:=(0<=c.kind/\c.kind<=1048576)/\(0<=c.a6/\c.a6<=1048576)/\(0<=c.seq/\c.seq<=1048576)/\(0<=c.set/\c.set<=1048576)/\(0<=c.id/\c.id<=1048576)/\(0<=c.n/\c.n<=1048576)
def Ik {n m:Int} {b:Bool} (h:kH n m b=true) (c:0<=m):0<=n/\n<=m:=by
 unfold kH at h; cases b <;> simp at h <;> omega
def adN {k:Int} (h:1<=k/\k<=12):(jO k).2<=64:=by
 have:k=1\/k=2\/k=3\/k=4\/k=5\/k=6\/k=7\/k=8\/k=9\/k=10\/k=11\/k=12:=by omega
 rcases this with rfl | rfl | rfl | rfl | rfl | rfl | rfl | rfl | rfl | rfl | rfl | rfl <;> decide
def Va {c:b5} {v:Int} (h:dE c rest v=0):T7 c:=by
 obtain ⟨⟨_,j,_⟩,_⟩:=KX h;rcases j with h | h
 ·unfold eK rM aO at h;simp at h;unfold T7; omega
 obtain ⟨_,d,u,e⟩:=uX h;have g:=sT d;have w:=Hl g;have o:=adN g;unfold fL at e;simp at e;obtain ⟨⟨⟨⟨⟨⟨⟨y,z⟩,A⟩,_⟩,p⟩,q⟩,s⟩,t⟩:=e;have B:=Ik p am;have C:=Ik q am;have D:=Ik s am;have F:=Ik t am;unfold T7; omega
def KD {x y:Int} (h:E9 x y) (c:(0<=x/\x<=1048576)\/(0<=y/\y<=1048576)):x=y:=by
 obtain ⟨n,d,rfl,rfl⟩:=h;unfold de at c ⊢;split at c <;> split <;> omega
def ahC {c:b5} (h:x0 a c r) (d:T7 (M8 a c)\/T7 r):M8 a c=r:=by
 have e:=KD h.n1 (d.imp (·.1) (·.1));have g:=KD h.n2 (d.imp (·.2.1) (·.2.1));have j:=KD h.n3 (d.imp (·.2.2.1) (·.2.2.1));have o:=KD h.n4 (d.imp (·.2.2.2.1) (·.2.2.2.1));have p:=KD h.n5 (d.imp (·.2.2.2.2.1) (·.2.2.2.2.1));have q:=KD h.n6 (d.imp (·.2.2.2.2.2) (·.2.2.2.2.2));unfold M8; rw [e,g,j,o,p,q,h.ch,h.tx]
def apw {v:Int} (h:aO v 1 3=true) (j:(aM b).2=0) (o:eI (aM b).1 v=0) (g:Wq (x0 (aR ((bL (aM b).1 (bw v)).take k)) (cR ((bL (aM b).1 (bw v)).take k)) (cj ((bL (aM b).1 (bw v)).take k)))) (p:(bL (aM b).1 (bw v)).length<=k) (c:¬ dE (M8 (aR ((bL (aM b).1 (bw v)).take k)) (cR ((bL (aM b).1 (bw v)).take k))) (c_ (aM b).1 (bw v)) v=0\/¬ o3.mk (ew (M8 (aR ((bL (aM b).1 (bw v)).take k)) (cR ((bL (aM b).1 (bw v)).take k))) (c_ (aM b).1 (bw v)) v)=o3.mk b):cE b v=⟨bM,[],6⟩:=by
 refine ahb (vU h) (P9 j o) ?_;rw [r6 p] at g c;by_cases d:dE (cj (bL (aM b).1 (bw v))) (c_ (aM b).1 (bw v)) v=0
 ·right;rw [ahC g.h (.inr (Va d))] at c;intro e;rw [d,e] at c; simp at c
 exact .inl d
def agp {v:Int} (h:aO v 1 3=true) (g:(aM b).2=0) (j:eI (aM b).1 v=0) (o:Wq (x0 (aR ((bL (aM b).1 (bw v)).take k)) (cR ((bL (aM b).1 (bw v)).take k)) (cj ((bL (aM b).1 (bw v)).take k)))) (p:(bL (aM b).1 (bw v)).length<=k) (c:dE (M8 (aR ((bL (aM b).1 (bw v)).take k)) (cR ((bL (aM b).1 (bw v)).take k))) (c_ (aM b).1 (bw v)) v=0) (d:o3.mk (ew (M8 (aR ((bL (aM b).1 (bw v)).take k)) (cR ((bL (aM b).1 (bw v)).take k))) (c_ (aM b).1 (bw v)) v)=o3.mk b):cE b v=⟨M8 (aR ((bL (aM b).1 (bw v)).take k)) (cR ((bL (aM b).1 (bw v)).take k)),c_ (aM b).1 (bw v),0⟩:=by
 have e:=ahC o.h (.inl (Va c));rw [e] at c d ⊢;rw [r6 p] at c d ⊢;exact akr (vU h) (P9 g j) ⟨c,hC o3.b d⟩
def aik {v:Int} (h:aO v 1 3=false):cE b v=⟨bM,[],1⟩:=tq1 h
def apz {v:Int} (h:aO v 1 3=true) (c:(aM b).2=0) (d:¬ eI (aM b).1 v=0):cE b v=⟨bM,[],eI (aM b).1 v⟩:=tq2 h c d
def amp {v:Int} (h:aO v 1 3=true) (c:¬ (aM b).2=0):cE b v=⟨bM,[],(aM b).2⟩:=tq3 h c
def aew (b:List UInt8) (v:Int):List (Nat × LI):=[(13,{ σ:=Nat,F:=fun k=>([(0,one (.fz .u8 (b))),(1,one (.int (v))),(4,one (.ptr 0 0)),(9,one (.fz (.nm .field) (bL (aM b).1 (bw v)))),(10,one (.fz (.nm .field) (c_ (aM b).1 (bw v)))),(11,one (.ptr 1 0)),(12,one (.ptr 2 0)),(13,one (.int k))],[.box 35 (cellsOf (.nm .command) (bM)),.y9 235 .int 7 ((aR ((bL (aM b).1 (bw v)).take k))),.box 35 (cellsOf (.nm .command) ((cR ((bL (aM b).1 (bw v)).take k))))]),J:=fun k=>k<=(bL (aM b).1 (bw v)).length/\Wq (x0 (aR ((bL (aM b).1 (bw v)).take k)) (cR ((bL (aM b).1 (bw v)).take k)) (cj ((bL (aM b).1 (bw v)).take k))),μ:=fun k=>(bL (aM b).1 (bw v)).length - k })]
def HW:Kn:=aH (ae (kC (cL .u8)) (ae (kC cI) ao)) au fun (b,v,_) _=>⟨[],[.agg (cellsOf (.nm .command) ((cE b v).c)),.c (.fz (.nm .field) (((cE b v).r))),.c (.int (((cE b v).e)))],none,false⟩
theorem Wg:CK 112 HW:=ag fun (b,v,_) _ _=>by
 refine aq HK (aew b v) func112 (?_:(fun (t:Prop)=>(fun (w:Prop)=>(fun (I:Nat)=>(fun (Z:Nat)=>(fun (a:Nat)=>(fun (f:Nat)=>(fun (i:Nat)=>(fun (l:Nat)=>(fun (q10:Int)=>(fun (q9:Int)=>(fun (q8:Nat)=>(fun (L:TkR)=>(fun (Y:Nat)=>(fun (G:Int)=>(fun (N:Int)=>(fun (K:l5 Sh.int)=>(fun (H:b5)=>(fun (P:Prop)=>(fun (Q:Prop)=>(fun (j:Int)=>(fun (S:Prop)=>(fun (T:Prop)=>(fun (U:Prop)=>(fun (V:Prop)=>(fun (O:List Field)=>(fun (y:Prop)=>(fun (g:List Field)=>(fun (z:Prop)=>(fun (p:Nat)=>b.length*q8<=I->a7 v->(aO v N 3=false->U/\V/\T/\S/\j=H.id/\j=H.n/\P/\Q/\L.r=[]/\N=L.e)/\(aO v N 3=true->(aM b).fst.length*48<=I->a7 (aM b).snd->(¬(aM b).snd=j->U/\V/\T/\S/\j=H.id/\j=H.n/\P/\Q/\L.r=[]/\(aM b).snd=L.e)/\((aM b).snd=j->N=N/\(a7 q9->(¬q9=j->U/\V/\T/\S/\j=H.id/\j=H.n/\P/\Q/\L.r=[]/\q9=L.e)/\(q9=j->N=N/\(a7 (bw v)->g.length*48<=I->O.length*48<=I->∃ (s0:Nat),(fun (A:b5)=>(t/\w/\z/\y/\j=(s0:Int)/\j=bM.kind/\j=bM.a6/\j=bM.seq/\j=bM.set/\j=bM.id/\j=bM.n/\bM.b9=[]/\o3.mk []=bM.text/\[j,j,j,j,j,j,j]=aR (take s0 g)/\j=A.kind/\j=A.a6/\j=A.seq/\j=A.set/\j=A.id/\j=A.n/\A.b9=[]/\o3.mk []=A.text)/\(s0<=p/\Wq (x0 (aR (take s0 g)) A (cj (take s0 g))))/\∀ (s:Nat),(fun (C:Nat)=>(fun (B:Int)=>(fun (D:Prop)=>(fun (m:List Field)=>(fun (q:List Int)=>(fun (o:b5)=>(fun (q37:Int)=>(fun (J:b5)=>s<=p/\Wq (x0 q o (cj m))->((s:Int)<(g.length:Int)->j<=(s:Int)/\(s:Int)<(g.length:Int)/\∀ (x:Field),(fun (q44:Prop)=>(fun (W:Prop)=>(fun (q42:b5)=>(fun (q41:b5)=>(fun (q40:b5)=>(fun (F:Prop)=>(fun (X:List (l5 Sh.int))=>g[s]? = some x->a7 x.num->a7 x.fl->x.n.n<18446744073709551616->x.b.length*q8<=I->(x.num<=6->j<=x.num/\x.num<G/\x.num.toNat<Y/\(W->x.b.length<=100000/\(q44->a7 (iU x.b)->(F->D/\∃ (d:Nat),(t/\w/\z/\y/\B=(d:Int)/\aX bM bM (X=aR (take d g)/\aG q42 (cR (take d g))))/\(d <= p/\Wq (x0 (aR (take d g)) (cR (take d g)) (cj (take d g))))/\p - d < C)/\(¬F->D/\∃ (d:Nat),(t/\w/\z/\y/\B=(d:Int)/\aX bM bM (X=aR (take d g)/\aG q40 (cR (take d g))))/\(d <= p/\Wq (x0 (aR (take d g)) (cR (take d g)) (cj (take d g))))/\p - d < C)))/\(¬W->(F->D/\∃ (d:Nat),(t/\w/\z/\y/\B=(d:Int)/\aX bM bM (X=aR (take d g)/\aG q41 (cR (take d g))))/\(d <= p/\Wq (x0 (aR (take d g)) (cR (take d g)) (cj (take d g))))/\p - d < C)/\(¬F->D/\∃ (d:Nat),(t/\w/\z/\y/\B=(d:Int)/\aX bM bM (X=aR (take d g)/\aG o (cR (take d g))))/\(d <= p/\Wq (x0 (aR (take d g)) (cR (take d g)) (cj (take d g))))/\p - d < C)))/\(6<x.num->(W->x.b.length<=100000/\(q44->a7 (iU x.b)->(F->D/\∃ (d:Nat),(t/\w/\z/\y/\B=(d:Int)/\aX bM bM (q=aR (take d g)/\aG q42 (cR (take d g))))/\(d <= p/\Wq (x0 (aR (take d g)) (cR (take d g)) (cj (take d g))))/\p - d < C)/\(¬F->D/\∃ (d:Nat),(t/\w/\z/\y/\B=(d:Int)/\aX bM bM (q=aR (take d g)/\aG q40 (cR (take d g))))/\(d <= p/\Wq (x0 (aR (take d g)) (cR (take d g)) (cj (take d g))))/\p - d < C)))/\(¬W->(F->D/\∃ (d:Nat),(t/\w/\z/\y/\B=(d:Int)/\aX bM bM (q=aR (take d g)/\aG q41 (cR (take d g))))/\(d <= p/\Wq (x0 (aR (take d g)) (cR (take d g)) (cj (take d g))))/\p - d < C)/\(¬F->D/\∃ (d:Nat),(t/\w/\z/\y/\B=(d:Int)/\aX bM bM (q=aR (take d g)/\aG o (cR (take d g))))/\(d <= p/\Wq (x0 (aR (take d g)) (cR (take d g)) (cj (take d g))))/\p - d < C)))) (q.set x.num.toNat (de (min x.n.n 1048577)))) (x.num=q10)) (b5.mk o.kind q37 o.seq o.set o.id o.n (fN x.b) o.text)) (b5.mk o.kind q37 o.seq o.set o.id o.n o.b9 (o3.mk x.b))) (b5.mk o.kind q37 o.seq o.set o.id o.n (fN x.b) (o3.mk x.b))) (x.num=7)) ((fN x.b).length*8<=I))/\((g.length:Int)<=(s:Int)->j<=N/\N<G/\q8<Y/\(a7 (q.getD q8 K)->j<=2/\2<G/\l<Y/\(a7 (q.getD l K)->j<=3/\3<G/\i<Y/\(a7 (q.getD i K)->j<=4/\4<G/\f<Y/\(a7 (q.getD f K)->j<=5/\5<G/\a<Y/\(a7 (q.getD a K)->j<=6/\6<G/\Z<Y/\(a7 (q.getD Z K)->O.length<=20000/\(a7 (dE J O v)->(¬dE J O v=j\/¬o3.mk (ew J O v)=o3.mk b->U/\V/\T/\S/\j=H.id/\j=H.n/\P/\Q/\L.r=[]/\6=L.e)/\(dE J O v=j/\o3.mk (ew J O v)=o3.mk b->aX J H (O=L.r/\j=L.e))))))))))) (b5.mk (q.getD q8 K) (q.getD l K) (q.getD i K) (q.getD f K) (q.getD a K) (q.getD Z K) o.b9 o.text)) o.a6) (cR m)) (aR m)) (take s g)) (a7 B)) ((s:Int)+N)) (p - s)) (cR (take s0 g)))))))) g.length) (g=g)) (bL (aM b).fst (bw v))) (O=O)) (c_ (aM b).fst (bw v))) (j=H.a6)) (j=H.kind)) (j=H.seq)) (j=H.set)) 0) (o3.mk []=H.text)) (H.b9=[])) L.c) (c5 Sh.int)) 1) (Y:Int)) 7) (cE b v)) 1) (eI (aM b).fst v)) 8) 2) 3) 4) 5) 6) 140737488355328) (v=v)) (b=b))
 iterate 3 ((all_goals (repeat' with_reducible first|apply aT|refine aW ?_|intro)); (all_goals try (first | exact bR | exact ⟨amr⟩ | (rw [aik ab] <;> rfl) | (rw [apz ab ab ab] <;> rfl) | (rw [amp ab ab] <;> rfl) | (rw [apw ab ab ab ab az ap] <;> rfl) | (rw [agp ab ab ab ab az ap ap] <;> rfl) | exact (am9 ab ab ab (aay ab ab ab).1) | exact (aqm ab ab) | exact (al4 ab ab) | (rw [apn ab ab] <;> rfl) | (rw [an7 ab ab] <;> rfl) | (rw [aoj ab az az] <;> rfl) | (have h:=aay (u:=bw v) (k:=‹Nat›) (show (aM b).2=0 by with_reducible assumption) (show eI (aM b).1 v=0 by with_reducible assumption) ab; omega) | (have h1:=sL (aM b).1 (bw v); have h2:=GK b; omega))); all_goals try first | refine ⟨‹Nat› + 1,?_⟩ | refine ⟨0,?_⟩)
def ahu:ck:=(aI 112 HW akV)
def sH:ay prog (av l6) ahu:=(ah Wg HK)
def eX (c:b5) (bo v:Int):ec × Int:=if aP c v=0 then (if dE c [] v=0 then (⟨bo,ew c [] v⟩,0) else (⟨0,[]⟩,dE c [] v)) else (⟨0,[]⟩,aP c v)
structure RdM where
 c:b5
 some:Bool
 e:Int
def aY (x:ec) (v:Int):RdM:=
 if x.b.length=0 then (if v<1\/3<v then ⟨bM,false,1⟩ else ⟨bM,false,0⟩)
 else if ¬ (cE x.b v).e=0 then ⟨bM,false,(cE x.b v).e⟩
 else if bk (cE x.b v).c.kind=0\/v<bk (cE x.b v).c.kind then ⟨bM,false,10⟩
 else ⟨(cE x.b v).c,true,0⟩
variable {bo:Int}
def en1 {c:b5} {v:Int} (h:¬ aP c v=0):eX c bo v=(⟨0,[]⟩,aP c v):=by unfold eX; rw [dc h]
def en2 {c:b5} {v:Int} (h:aP c v=0) (d:¬ dE c [] v=0):eX c bo v=(⟨0,[]⟩,dE c [] v):=by unfold eX; rw [eg h,dc d]
def en3 {c:b5} {v:Int} (h:aP c v=0) (d:dE c [] v=0):eX c bo v=(⟨bo,ew c [] v⟩,0):=by unfold eX; rw [eg h,eg d]
section
variable {x:ec} {v:Int}
def rdA (h:((x.b.length:Nat):Int)=0) (c:v<1\/3<v):aY x v=⟨bM,false,1⟩:=by unfold aY; rw [eg az,eg c]
def rdB (h:((x.b.length:Nat):Int)=0) (c:1<=v) (d:v<=3):aY x v=⟨bM,false,0⟩:=by unfold aY; rw [eg az,dc az]
def rdC (h:¬ ((x.b.length:Nat):Int)=0) (c:¬ (cE x.b v).e=0):aY x v=⟨bM,false,(cE x.b v).e⟩:=by unfold aY; rw [dc az,eg c]
def rdD (h:¬ ((x.b.length:Nat):Int)=0) (d:(cE x.b v).e=0) (g:bk (cE x.b v).c.kind=0\/v<bk (cE x.b v).c.kind):aY x v=⟨bM,false,10⟩:=by unfold aY; rw [dc az,dc (by rw [d]; simp),eg g]
def rdE (h:¬ ((x.b.length:Nat):Int)=0) (d:(cE x.b v).e=0) (g:¬ bk (cE x.b v).c.kind=0) (j:bk (cE x.b v).c.kind<=v):aY x v=⟨(cE x.b v).c,true,0⟩:=by unfold aY; rw [dc az,dc (by rw [d]; simp),dc az]
def rdF (h2:v<1\/3<v):aY x v=⟨bM,false,1⟩:=by
 by_cases h:((x.b.length:Nat):Int)=0
 ·exact rdA h h2
 have e:cE x.b v=⟨bM,[],1⟩:=aik (by unfold aO; rcases h2 with h2 | h2 <;> simp <;> omega);rw [rdC h (by rw [e]; decide),e]
end
def Ob:Kn:=aH (ae (kT (.nm .command)) (ae (kC cI) (ae (kC cI) ao))) au fun (c,bo,v,_) _=>⟨[],[.agg (cellsOf (.nm .entry) ((eX c bo v).1)),.c (.int (((eX c bo v).2)))],none,false⟩
def adJ:CK 54 Ob:=ag fun (c,bo,v,_) _ _=>by
 refine aq sH [] func54 (?_:(fun (g:Int)=>(fun (e:Int)=>(fun (d:ec × Int)=>bc c (a7 bo->a7 v->a7 (aP c v)->(¬aP c v=e->e=d.fst.bo/\d.fst.b=[]/\aP c v=d.snd)/\(aP c v=e->(0:Nat)<=(20000:Nat)/\(a7 g->(¬g=e->e=d.fst.bo/\d.fst.b=[]/\g=d.snd)/\(g=e->bo=d.fst.bo/\ew c [] v=d.fst.b/\e=d.snd))))) (eX c bo v)) (0:Int)) (dE c [] v));(repeat' with_reducible first|apply aT|refine aW ?_|intro)
 all_goals (first | exact bR | (rw [en1 ab] <;> rfl) | (rw [en2 ab ab] <;> rfl) | (rw [en3 ab ab] <;> rfl))
def Cj:Kn:=aH (ae (kT (.nm .entry)) (ae (kC cI) ao)) au fun (x,v,_) _=>⟨[],[.agg (cellsOf (.nm .command) ((aY x v).c)),.c (.bool (.atom (((aY x v).some)))),.c (.int (((aY x v).e)))],none,false⟩
def Rw:CK 259 Cj:=ag fun (x,v,_) _ _=>by
 refine aq sH [] func259 (?_:(fun o=>(fun s=>(fun p=>(fun q=>(fun d=>(fun g=>(fun h=>(fun j=>(fun t=>(fun u=>(fun w=>(fun y=>a7 x.bo->x.b.length*1<=140737488355328->a7 v->((x.b.length:Int)=d->(v<1\/3<v->t/\u/\j/\h/\d=g.id/\d=g.n/\w/\y/\s/\1=o.e)/\(1<=v/\v<=3->t/\u/\j/\h/\d=g.id/\d=g.n/\w/\y/\s/\d=o.e))/\(¬(x.b.length:Int)=d->bc p.c (p.r.length*48<=140737488355328->a7 p.e->(¬p.e=d->t/\u/\j/\h/\d=g.id/\d=g.n/\w/\y/\s/\p.e=o.e)/\(p.e=d->a7 q->(q=d\/v<q->t/\u/\j/\h/\d=g.id/\d=g.n/\w/\y/\s/\10=o.e)/\(¬q=d/\q<=v->aX p.c g (true=o.some/\d=o.e)))))) (o3.mk []=g.text)) (g.b9=[])) (d=g.a6)) (d=g.kind)) (d=g.seq)) (d=g.set)) o.c) (0:Int)) (bk p.c.kind)) (cE x.b v)) (false=o.some)) (aY x v));(repeat' with_reducible first|apply aT|refine aW ?_|intro)
 all_goals (first | (rw [rdF ap] <;> rfl) | (rw [rdB ab ab ab] <;> rfl) | (rw [rdC ab ab] <;> rfl) | (rw [rdD ab ab ap] <;> rfl) | (rw [rdE ab ab ab ab] <;> rfl))
def At:Kn:=aH (ae (kT (.nm .entry)) (ae (kC cI) ao)) au fun (x,v,_) _=>⟨[],[.agg (cellsOf (.nm .command) ((aY x v).c)),.c (.bool (.atom (((aY x v).some)))),.c (.int (((aY x v).e)))],none,false⟩
def Rf:CK 68 At:=ag fun (x,v,_) _ _=>by
 refine aq sH [] func68 (?_:(fun o=>(fun s=>(fun p=>(fun q=>(fun d=>(fun g=>(fun h=>(fun j=>(fun t=>(fun u=>(fun w=>(fun y=>a7 x.bo->x.b.length*1<=140737488355328->a7 v->(v<1\/3<v->t/\u/\j/\h/\d=g.id/\d=g.n/\w/\y/\s/\1=o.e)/\(1<=v/\v<=3->((x.b.length:Int)=d->t/\u/\j/\h/\d=g.id/\d=g.n/\w/\y/\s/\d=o.e)/\(¬(x.b.length:Int)=d->bc p.c (p.r.length*48<=140737488355328->a7 p.e->(¬p.e=d->t/\u/\j/\h/\d=g.id/\d=g.n/\w/\y/\s/\p.e=o.e)/\(p.e=d->a7 q->(q=d\/v<q->t/\u/\j/\h/\d=g.id/\d=g.n/\w/\y/\s/\10=o.e)/\(¬q=d/\q<=v->aX p.c g (true=o.some/\d=o.e))))))) (o3.mk []=g.text)) (g.b9=[])) (d=g.a6)) (d=g.kind)) (d=g.seq)) (d=g.set)) o.c) (0:Int)) (bk p.c.kind)) (cE x.b v)) (false=o.some)) (aY x v));(repeat' with_reducible first|apply aT|refine aW ?_|intro)
 all_goals (first | (rw [rdF ap] <;> rfl) | (rw [rdB ab ab ab] <;> rfl) | (rw [rdC ab ab] <;> rfl) | (rw [rdD ab ab ap] <;> rfl) | (rw [rdE ab ab ab ab] <;> rfl))
def agR:ck:=(aI 68 At (aI 259 Cj (aI 54 Ob ahu)))
def IU:ay prog (av l6) agR:=(ah Rf (ah Rw (ah adJ sH)))
def je (v:Int) (s:b7) (x:ec):b7:=if (aY x v).some=true then (jm s (aY x v).c).1 else s
def nU (v:Int) (s:b7) (x:ec):lg:=if (aY x v).some=true then (jm s (aY x v).c).2 else ⟨0,0⟩
def pS (v:Int) (s:b7) (l:List ec):b7:=l.foldl (je v) s
def pR (v:Int):b7->List ec->List lg
 | _,[]=>[]
 | s,x :: l=>nU v s x :: pR v (je v s x) l
def pN (v:Int):List ec->Nat
 | []=>0
 | x :: l=>if (aY x v).e=0 then pN v l+1 else 0
def pE (v:Int):List ec->Int
 | []=>0
 | x :: l=>if (aY x v).e=0 then pE v l else (aY x v).e
def u7 (v:Int) (s:b7) (l:List ec):b7:=pS v s (l.take (pN v l))
def y7 (v:Int) (s:b7) (l:List ec):List lg:=pR v s (l.take (pN v l))
section
variable {v:Int} {s:b7} {l:List ec} {x:ec} {k:Nat}
def HJ (c:l[k]? = some x):je v (pS v s (l.take k)) x=pS v s (l.take (k+1)):=by
 rw [aj c]; unfold pS; rw [I5]; rfl
theorem Jr:∀ {l:List ec} {s:b7},pR v s (l++[x])=pR v s l++[nU v (pS v s l) x]
 | [],_=>rfl
 | y :: l,s=>by
  show nU v s y :: pR v (je v s y) (l++[x])=nU v s y :: (pR v (je v s y) l++[nU v (pS v (je v s y) l) x]);rw [Jr]
def JG (c:l[k]? = some x):pR v s (l.take k)++[nU v (pS v s (l.take k)) x]=pR v s (l.take (k+1)):=by
 rw [aj c,Jr]
theorem zI:∀ {l:List ec} {s:b7},(pR v s l).length=l.length
 | [],_=>rfl
 | y :: l,s=>by
  show (pR v (je v s y) l).length+1=l.length+1;rw [zI]
def u4 (v:Int) (l:List ec):Prop:=∀ x ∈ l,(aY x v).e=0
theorem yO (h:u4 v (l.take k)) (c:l[k]? = some x) (d:(aY x v).e=0):u4 v (l.take (k+1)):=by
 rw [aj c];intro y hy;rcases y2.1 hy with hy | hy
 ·exact h y hy
 grind
theorem QF:∀ {l:List ec},u4 v l->pN v l=l.length/\pE v l=0
 | [],_=>⟨rfl,rfl⟩
 | y :: l,h=>by
  obtain ⟨d,e⟩:=QF (l:=l) fun z c=>h z (w8 _ c);have g:=h y z6;unfold pN pE;grind
theorem GQ:∀ {l:List ec} {k:Nat},u4 v (l.take k)->l[k]? = some x->¬ (aY x v).e=0->pN v l=k/\pE v l=(aY x v).e
 | [],k,_,c,_=>by simp at c
 | y :: l,0,_,c,d=>by
  simp at c; subst c;unfold pN pE;grind
 | y :: l,k+1,h,c,d=>by
  have g:=h y aa;obtain ⟨j,o⟩:=GQ (l:=l) (k:=k) (fun z p=>h z (by rw [K2]; exact w8 _ p)) (by simpa using c) d;unfold pN pE;rw [eg g,eg g,j,o]; exact ⟨rfl,rfl⟩
def sP (h:u4 v (l.take k)) (c:l[k]? = some x) (d:¬ (aY x v).e=0):pS v s (l.take k)=u7 v s l/\pR v s (l.take k)=y7 v s l/\(aY x v).e=pE v l:=by
 obtain ⟨g,j⟩:=GQ h c d;unfold u7 y7; rw [g,j]; exact ⟨rfl,rfl,rfl⟩
def uj (h:u4 v (l.take k)) (c:l.length<=k):pS v s (l.take k)=u7 v s l/\pR v s (l.take k)=y7 v s l/\0=pE v l:=by
 rw [r6 c] at h ⊢;obtain ⟨d,e⟩:=QF h;unfold u7 y7; rw [d,e,I2]; exact ⟨rfl,rfl,rfl⟩
end
def qQ:Code->Code
 | .seq x _=>x
 | c=>c
def gF:Code->Code
 | .seq _ y=>y
 | c=>c
def V6:Code->Code
 | .block _ c=>c
 | .loop c=>c
 | c=>c
def ana:Code->Code
 | .rangeFunc _ _ a _=>a
 | c=>c
def alB:Code->Code
 | .rangeFunc _ _ _ b=>b
 | c=>c
def lp:Code->List Oper
 | .region _ c _=>c.toList
 | _=>[]
def aaU (f:Func):Code:=f.body.getD .skip
def Ox:Kn:=aH (ae (kC (cL (.nm .entry))) (ae (kC cI) ao)) au fun (l,v,_) _=>⟨[],[.c (.fn 258 [] [(0,0),(1,0)])],some ([.box 38 ([.fz (.nm .entry) ((l))]),.box 3 ([.int ((v))])]),true⟩
theorem aef:CK 226 Ox:=ag fun (l,v,_) _ _=>by
 refine cr IU [] func226 (?_:l.length*32<=140737488355328->a7 v->l=l/\v=v);grind
def ga:ck:=(aI 226 Ox agR)
def sx:ay prog (av l6) ga:=(ah aef IU)
end Go.Proofs.YticbaadnibdbkaaGreat
namespace Go.Proofs.YticbaadnibdbkaaGreat
open Tryz
open Go.RowKit
open Go.MapKept (IsKey run_checkKey run_findKey run_setObj_map heap_set heap_alloc)
def Zh (k:Int):List (Int × Value)->Bool
 | []=>false
 | p :: r=>decide (k=p.1) || Zh k r
def adA (w:World) (g:Nat) (L:List (Int × Value)):Prop:=
 ∃ a,w.heap[g]? = some (.map a L.length)/\a.toList.map (fun e=>(e.key,e.val))=L.map (fun p=>(Value.int .i64 p.1,p.2))
theorem wC {k:Int}:∀ {l:List MapEntry} {L:List (Int × Value)} {i:Nat},l.map (fun e=>(e.key,e.val))=L.map (fun p=>(Value.int .i64 p.1,p.2))->Zh k L=false->Instr.findNow (.int .i64) (.int .i64 k) l i=some none
 | [],[],i,_,_=>rfl
 | e :: l,p :: L,i,h,a=>by
  simp at h;obtain ⟨⟨b,f⟩,c⟩:=h;simp [Zh] at a;have d:(k == p.1)=false:=by simpa using a.1
  simp [Instr.findNow,b,Instr.sameNow,d,wC (i:=i+1) c a.2]
section
variable {P:Program} {Q:Exit->Act->World->Prop} {n:Nat} {l rest:List Oper} {fr:Fr} {w:World} {x y z':Operand} {t ty kt et:TypeId} {pos:String} {af:Array Edge} {g:Nat} {L:List (Int × Value)} {k:Int}
def WO.insert {v:Value} (p:ev fr x=some (.map (some g))) (q:ev fr y=some (.int .i64 k)) (r:ev fr z' = some v) (h:adA w g L) (b:Zh k L=false) (u:P.underlying t=some (.map kt et)) (j:P.underlying kt=some (.int .i64))
  (z:∀ w',adA w' g (L++[(k,v)])->Kp [g] w w' -> WO P Q n l rest fr w') :
  WO P Q n l (⟨none,.insert t x y z',ty,pos,af,none⟩ :: rest) fr w:=by
 obtain ⟨a,c,m⟩:=h;have A:=wC (k:=k) (i:=0) m b;have d:IsKey (.int .i64) (.int .i64 k):=rfl;have o:=heap_set (o':=.map (a.push { key:=.int .i64 k,val:=v,born:=L.length }) (L.length+1)) c;refine WO.s (w':={ w with heap:=w.heap.setIfInBounds g (.map (a.push { key:=.int .i64 k,val:=v,born:=L.length }) (L.length+1)) }) (fun B _ _ _ _ f=>?_) (z _ ⟨_,by simpa using o.1,by simp [m]⟩ ⟨rfl,rfl,rfl,aa,fun i C b=>o.2 i (by simpa using b)⟩);have e:(Instr.mapUpdate t (.map (some g)) (.int .i64 k) v).run P w = .ok () { w with heap:=w.heap.setIfInBounds g (.map (a.push { key:=.int .i64 k,val:=v,born:=L.length }) (L.length+1)) }:=by
  unfold Instr.mapUpdate;simp [A5 u];simp [O2 c,run_checkKey j d,run_findKey j A,run_setObj_map _ c]
 simp [execOp,f.ev p,f.ev q,f.ev r,e]
end
def ct:List (Int × List KC):=[(1,[.i 1,.i 3,.b false,.i 0,.i 0,.f 214]),(2,[.i 0,.i 1048576,.b true,.i 5,.i 0,.f 215]),(3,[.i 1,.i 64,.b true,.i 1048576,.i 200,.f 216]),(4,[.i 1,.i 64,.b false,.i 0,.i 0,.f 217])]
def acG:List (Int × Value):=ct.map fun p=>(p.1,.agg (p.2.map KC.val).toArray)
theorem vp {k:Int}:∀ {a:List MapEntry} {l:List (Int × List KC)},a.map (fun e=>(e.key,e.val))=(l.map fun p=>(p.1,Value.agg (p.2.map KC.val).toArray)).map (fun p=>(Value.int .i64 p.1,p.2))->getM k a=(eB l k).map fun b=>.agg (b.map KC.val).toArray
 | [],[],_=>rfl
 | e :: l,p :: L,h=>by
  simp only [O7,List.cons.injEq,Prod.mk.injEq] at h;obtain ⟨⟨c,f⟩,d⟩:=h;simp [getM,eB,c,qg];by_cases h:k=p.1
  ·grind
  rw [dc (by simpa using fun e=>h e.symm),dc h]; exact vp d
set_option maxRecDepth 100000 in
def Mu {w:World}:kI prog 148 #[] w fun r e=>r = .map (some w.heap.size)/\Kp [] w e /\ adA e w.heap.size acG:=by
 refine kI.enter (args:=[]) func148 rfl ntmps148 rfl rfl ?_;refine WC.seq (WC.region (WO.v (R.assign rfl) rfl (WO.nil (WX.next ?_))));have c:=underlying202;have d:=underlying3;refine WC.seq (WC.region (WO.v R.tE rfl ?_));refine WO.v (R.qn (cells:=(((ct.getD 0 (0,[])).2).map KC.val).toArray) rfl cm) rfl (WO.insert (L:=[]) rfl rfl rfl ⟨#[],J6 w _,rfl⟩ rfl c d fun t j l=>?_);refine WO.v (R.qn (cells:=(((ct.getD 1 (0,[])).2).map KC.val).toArray) rfl cm) rfl (WO.insert rfl rfl rfl j rfl c d fun u m n=>?_);refine WO.v (R.qn (cells:=(((ct.getD 2 (0,[])).2).map KC.val).toArray) rfl cm) rfl (WO.insert rfl rfl rfl m rfl c d fun x o p=>?_);refine WO.v (R.qn (cells:=(((ct.getD 3 (0,[])).2).map KC.val).toArray) rfl cm) rfl (WO.insert rfl rfl rfl o rfl c d fun y q s=>?_);refine WO.v (R.move rfl) rfl (WO.v (R.assign rfl) rfl (WO.nil (WX.next ?_)));have a:∀ {f g:World},Kp [] w f->Kp [w.heap.size] f g->Kp [] w g:=fun h k=>⟨k.os.trans h.os,k.tape.trans h.tape,k.output.trans h.output,z7 h.size k.size,fun b i _=>(k.block b (w9 i h.size) (by simp; omega)).trans (h.block b i aa)⟩;exact WC.ret (WX.Dq results148 rfl ⟨rfl,a (a (a (a (Kp.alloc w _) l) n) p) s,q⟩)
theorem Mt:s6 prog (av l6) 148 [] [] ⟨[],[.c (.xx (.km ct) [])],none,false⟩:=by
 refine ⟨⟨_,func148,am,by kernel_rfl⟩,fun G q w s t f b=>?_⟩;cases b;refine Mu.mono fun r u ⟨h,j,a,g,l⟩=>⟨[r],rfl,j,.cons ?_ .nil⟩;subst h;have d:=(Q4.1 g).1;refine ⟨[],.nil,rfl,w.heap.size,a,_,rfl,⟨d,fun ⟨i,r,m,n⟩=>by have:=(f.sr i r _ m n).2.1; omega,fun o=>by have:=f.z _ o; omega⟩,g,fun e p=>?_,fun k=>vp l⟩;have:(e.key,e.val) ∈ a.toList.map (fun e=>(e.key,e.val)):=K4.2 ⟨e,p,rfl⟩;grind
end Go.Proofs.YticbaadnibdbkaaGreat
namespace Go.Proofs.YticbaadnibdbkaaGreat
open Tryz
open Go.RowKit
def SQ (q:Nat × Nat) (x:UInt8):Nat × Nat:=((q.1+x.toNat) % 65521,(q.2+(q.1+x.toNat) % 65521) % 65521)
def iK (q:Nat × Nat) (l:List UInt8):Nat × Nat:=l.foldl SQ q
def eP (s:Nat) (l:List UInt8):Nat:=65536*(iK (s % 65536 % 65521,s / 65536 % 65521) l).2+(iK (s % 65536 % 65521,s / 65536 % 65521) l).1
def VY {q:Nat × Nat} (a:q.1<65521) (b:q.2<65521):∀ l:List UInt8,(iK q l).1<65521/\(iK q l).2<65521:=fun l=>by
 induction l generalizing q with
 | nil=>exact ⟨a,b⟩
 | cons x l c=>exact c (q:=SQ q x) (E5 _ am) (E5 _ am)
def sA {s:Nat} (l:List UInt8):(iK (s % 65536 % 65521,s / 65536 % 65521) l).1<65521/\(iK (s % 65536 % 65521,s / 65536 % 65521) l).2<65521:=VY (E5 _ am) (E5 _ am) l
def TW {s:Nat} (l:List UInt8):eP s l<4294967296:=by
 have:=sA (s:=s) l;unfold eP; omega
def Kt (l:List UInt8):Nat:=l.foldl (fun w x=>(w*256) % 4294967296 ||| x.toNat) 0
abbrev eY (b:List UInt8):Int:=N0 (((b.getD 0 (c5 .u8):UInt8).toNat:Int)*2 ^ 8) ((b.getD 1 (c5 .u8):UInt8).toNat:Int)
def bD (b:List UInt8):List UInt8 × Int × Int:=
 if b.length<2 then ([],0,2) else if eY b=0\/4096<eY b then ([],0,3) else if (b.length:Int)<2+eY b+4 then ([],0,2)
 else if eP 1 (b.take (2+eY b).toNat)=Kt ((b.drop (2+eY b).toNat).take 4) then ((b.drop 2).take ((2+eY b).toNat - 2),2+eY b+4,0) else ([],0,3)
def jL (x:List UInt8):List UInt8:=[ofNat (x.length / 256),ofNat x.length]++x
def zS (s:Nat):List UInt8:=[ofNat (s / 2 ^ 24),ofNat (s / 2 ^ 16),ofNat (s / 2 ^ 8),ofNat s]
def fB (x:List UInt8):List UInt8:=jL x++zS (eP 1 (jL x))
def qu (x:List UInt8):List UInt8 × Int:=if x.length=0\/4096<x.length then ([],4) else (fB x,0)
theorem Bo {a b:Nat} (c:b<256):a*256 ||| b=a*256+b:=by
 have:=Nat.two_pow_add_eq_or_of_lt (i:=8) (b:=b) c a;grind
theorem ofNat_toNat (n:Nat):(ofNat n).toNat=n % 256:=H6
def ZN {s:Nat} (h:s<4294967296):Kt (zS s)=s:=by
 simp only [Kt,zS,List.foldl_cons,List.foldl_nil,ofNat_toNat];rw [show (0*256) % 4294967296=0*256 from rfl,Bo (a:=0) (E5 _ am),O6,x7];have b:s / 2 ^ 24 % 256=s / 16777216:=by omega
 rw [b,FB (a:=s / 16777216*256) az,Bo (E5 _ am),FB (a:=(s / 16777216*256+s / 2 ^ 16 % 256)*256) az,Bo (E5 _ am),FB (a:=((s / 16777216*256+s / 2 ^ 16 % 256)*256+s / 2 ^ 8 % 256)*256) az,Bo (E5 _ am)];omega
variable {r x:List UInt8}
def BJ (h:x.length<=4096):eY (fB x++r)=x.length:=by
 have e:fB x++r=ofNat (x.length / 256) :: ofNat x.length :: (x++(zS (eP 1 (jL x))++r)):=by simp [fB,jL]
 have a:((ofNat (x.length / 256)).toNat:Int)*2 ^ 8=((x.length / 256*256:Nat):Int):=by rw [ofNat_toNat]; omega
 rw [e,eY,List.getD_cons_zero,List.getD_cons_succ,List.getD_cons_zero,a,N0,G5,G5,ofNat_toNat,Bo (E5 _ am)];omega
def oa:(fB x).length=x.length+6:=by simp [fB,jL,zS]
def ML (a:x≠[]) (h:x.length<=4096):bD (fB x++r)=(x,(x.length:Int)+6,0):=by
 have d:0<x.length:=List.length_pos_iff.2 a;have e:(fB x++r).length=x.length+6+r.length:=by rw [r5,oa]
 have b:(2+(x.length:Int)).toNat=(jL x).length:=by simp [jL]; omega
 have c:fB x++r=jL x++(zS (eP 1 (jL x))++r):=by simp [fB]
 unfold bD;rw [BJ h,dc az,dc az,dc az,b,c,List.take_left,drop_left,show take 4 (zS (eP 1 (jL x))++r)=zS (eP 1 (jL x)) from List.take_left' rfl,ZN (TW _),eg rfl];refine Prod.ext ?_ (Prod.ext (by dsimp only; omega) rfl);simp [jL]
variable {k:Nat}
theorem Cv (h:x.length<=4096) (a:k<x.length+6):(bD ((fB x).take k)).2.2≠0:=by
 by_cases b:k<2
 ·unfold bD; rw [eg (by rw [s9]; omega)]; decide
 have e:eY ((fB x).take k)=x.length:=by
  have:=BJ (r:=[]) h;grind
 unfold bD;grind
def WA (b:List UInt8):0<=eY b:=I3 _
abbrev kz:List KC:=[.i 0,.i 0,.b false,.i 0,.i 0,.nf]
def M7 (k:Int):List KC:=(eB ct k).getD kz
def l9 (r:c9):Bool:=(eB ct r.kind).isSome && decide (((M7 r.kind).getD 0 .nf).int<=r.a) && decide (r.a<=((M7 r.kind).getD 1 .nf).int) && decide (0<=r.b) && decide (r.b<=((M7 r.kind).getD 3 .nf).int) && decide ((r.x.length:Int)<=((M7 r.kind).getD 4 .nf).int)
def wj (k:Int):Bool:=((M7 k).getD 2 .nf).bool
def ei (r:c9):List UInt8:=([ofNat r.kind.toNat]++bF r.a.toNat)++(if wj r.kind=true then bF r.b.toNat else [])++r.x
def a_ (r:c9):List UInt8 × Int:=if l9 r=true then (ei r,0) else ([],1)
abbrev wm:c9:=⟨0,0,0,[]⟩
def cn (b:List UInt8):c9 × Bool:=
 if b.length=0 then (wm,false) else if (ak (b.drop 1)).2.2≠0 then (wm,false)
 else if wj ((b.getD 0 (c5 .u8):UInt8).toNat:Int)=true then
  if (ak ((b.drop 1).drop (ak (b.drop 1)).2.1)).2.2≠0 then (wm,false)
  else (⟨((b.getD 0 (c5 .u8):UInt8).toNat:Int),de (ak (b.drop 1)).1,de (ak ((b.drop 1).drop (ak (b.drop 1)).2.1)).1,((b.drop 1).drop (ak (b.drop 1)).2.1).drop (ak ((b.drop 1).drop (ak (b.drop 1)).2.1)).2.1⟩,true)
 else (⟨((b.getD 0 (c5 .u8):UInt8).toNat:Int),de (ak (b.drop 1)).1,0,(b.drop 1).drop (ak (b.drop 1)).2.1⟩,true)
def cH (b:List UInt8):c9 × Int:=if (cn b).2=false then (wm,3) else if (a_ (cn b).1).2≠0\/(a_ (cn b).1).1≠b then (wm,3) else ((cn b).1,0)
def eV (s:c4) (r:c9):Option c4:=if r.a<s.floor then none else some { s with floor:=r.a }
def gj (s:c4) (r:c9):Option c4:=if r.a<s.bo\/(r.a=s.bo/\¬ s.jc=0)/\¬ s.jc=r.b then none else some { s with bo:=r.a,jc:=r.b }
def eH (s:c4) (r:c9):Option c4:=if ¬ r.a=(s.log.length:Int)+1 then none else some { s with log:=s.log++[⟨r.b,r.x⟩] }
def gw (s:c4) (r:c9):Option c4:=if (s.log.length:Int)<r.a then none else some { s with log:=s.log.take (r.a - 1).toNat }
def gl (s:c4) (r:c9):Option c4:=if r.kind=1 then eV s r else if r.kind=2 then gj s r else if r.kind=3 then eH s r else gw s r
def ba (s:c4) (r:c9):c4 × Int:=if l9 r=false then (s,1) else match gl s r with
 | some t=>(t,0)
 | none=>(s,5)
def r4:Nat->c4->List UInt8->c4 × Int
 | 0,s,_=>(s,0)
 | n+1,s,b=>if (bD b).2.2≠0 then (s,0) else if (cH (bD b).1).2≠0 then (s,0) else if (ba s (cH (bD b).1).1).2≠0 then (s,0)
  else ((r4 n (ba s (cH (bD b).1).1).1 (b.drop (bD b).2.1.toNat)).1,(bD b).2.1+(r4 n (ba s (cH (bD b).1).1).1 (b.drop (bD b).2.1.toNat)).2)
abbrev rl:c4:=⟨0,0,0,[]⟩
def ik (b:List UInt8):c4 × Int:=r4 (b.length+1) rl b
theorem abW {k:Int} (h:(eB ct k).isSome=true):k=1\/k=2\/k=3\/k=4:=by
 simp [ct,eB] at h;grind
variable {r:c9}
theorem cV:l9 r=true↔(r.kind=1/\1<=r.a/\r.a<=3/\r.b=0/\r.x=[])\/(r.kind=2/\0<=r.a/\r.a<=1048576/\0<=r.b/\r.b<=5/\r.x=[])\/(r.kind=3/\1<=r.a/\r.a<=64/\0<=r.b/\r.b<=1048576/\r.x.length<=200)\/(r.kind=4/\1<=r.a/\r.a<=64/\r.b=0/\r.x=[]):=by
 have e:∀ l:List UInt8,((l.length:Int)<=0)↔l=[]:=fun l=>by
  simp_all
 constructor
 ·intro h;simp [l9] at h;obtain ⟨⟨⟨⟨⟨i,c⟩,d⟩,j⟩,f⟩,g⟩:=h;rcases abW i with hk | hk | hk | hk <;> rw [hk] at c d f g <;> simp [M7,ct,eB,KC.int] at c d f g
  ·grind
  ·grind
  ·grind
  grind
 rintro (⟨hk,h⟩ | ⟨hk,h⟩ | ⟨hk,h⟩ | ⟨hk,h⟩) <;> simp [l9,M7,ct,eB] <;> simp [KC.int] <;> simp_all <;> omega
theorem jU (h:l9 r=true):1<=(ei r).length/\(ei r).length<=221:=by
 have c:=cO (n:=r.a.toNat) (by rcases cV.1 h with h | h | h | h <;> omega);have d:=cO (n:=r.b.toNat) (by rcases cV.1 h with h | h | h | h <;> omega);have e:r.x.length<=200:=by rcases cV.1 h with h | h | h | h <;> simp [h]
 simp [ei];grind
variable {n:Nat}
def vP (h:n<9223372036854775808):de n=n:=by
 rw [de,eg h]
theorem Mp (h:l9 r=true):cn (ei r)=(r,true):=by
 have d:=cV.1 h;have m:0<=r.a/\r.a<=1048576:=by rcases d with h | h | h | h <;> omega
 have o:0<=r.b/\r.b<=1048576:=by rcases d with h | h | h | h <;> omega
 have e:1<=r.kind/\r.kind<=4:=by rcases d with h | h | h | h <;> omega
 have f:ei r=ofNat r.kind.toNat :: (bF r.a.toNat++((if wj r.kind=true then bF r.b.toNat else [])++r.x)):=by simp [ei]
 have g:((ofNat r.kind.toNat).toNat:Int)=r.kind:=by rw [ofNat_toNat]; omega
 have i:=mO (n:=r.a.toNat) az ((if wj r.kind=true then bF r.b.toNat else [])++r.x);have j:de r.a.toNat=r.a:=by rw [vP az]; omega
 have l:de r.b.toNat=r.b:=by rw [vP az]; omega
 unfold cn;rw [f,dc aa,List.drop_one,List.tail_cons,i,List.getD_cons_zero,g];dsimp only;rw [dc am,j,drop_left];by_cases c:wj r.kind=true
 ·rw [eg c,eg c,mO az];dsimp only;rw [dc am,l,drop_left]
 rw [dc c,dc c,T0];have:r.b=0:=by
  rcases d with h | h | h | h
  ·grind
  ·exact absurd (by rw [h.1]; rfl) c
  ·exact absurd (by rw [h.1]; rfl) c
  exact h.2.2.2.1
 cases r; simp_all
theorem Ql (h:l9 r=true):cH (ei r)=(r,0):=by
 unfold cH;rw [Mp h];simp [a_,h]
def kO (r:c9):List UInt8:=fB (ei r)
def l3 (l:List c9):List UInt8:=l.flatMap kO
def ed:c4->List c9->c4 × Int
 | s,[]=>(s,0)
 | s,r :: l=>if (ba s r).2=0 then ed (ba s r).1 l else (s,(ba s r).2)
theorem vO {s:c4} (h:(ba s r).2=0):l9 r=true:=by
 unfold ba at h;grind
variable {b:List UInt8}
theorem iH (h:(bD b).2.2=0):7<=(bD b).2.1/\(bD b).2.1<=b.length:=by
 have a:0<=eY b:=I3 _;revert h;unfold bD;grind
theorem nQ:∀ {n m:Nat} {s:c4} {b:List UInt8},b.length<n->b.length<m->r4 n s b=r4 m s b
 | n+1,m+1,s,b,c,d=>by
  simp [r4];by_cases a:(bD b).2.2=0
  ·have e:=iH a;have f:(b.drop (bD b).2.1.toNat).length<b.length:=by rw [length_drop]; omega
   rw [nQ (n:=n) (m:=m) az az]
  grind
theorem lJ (r:c9):(kO r).length=(ei r).length+6:=oa
theorem ES {s:c4} {t:List UInt8} (h:(ba s r).2=0):r4 (n+1) s (kO r++t)=((r4 n (ba s r).1 t).1,(kO r).length+(r4 n (ba s r).1 t).2):=by
 have a:=vO h;have c:=jU a;have d:bD (kO r++t)=(ei r,((ei r).length:Int)+6,0):=ML (by intro e; rw [e] at c; simp at c) az;have f:(kO r++t).drop (((ei r).length:Int)+6).toNat=t:=by
  rw [show (((ei r).length:Int)+6).toNat=(kO r).length by rw [lJ]; omega];grind
 simp only [r4,d,Ql a,h,f,lJ];simp
def nK {s:c4} (h:(bD b).2.2≠0):r4 n s b=(s,0):=by
 cases n
 ·rfl
 rw [r4,eg h]
def MN:(bD []).2.2≠0:=by decide
theorem wN:∀ {l:List c9} {n k:Nat} {s:c4},(ed s l).2=0->(l3 l).length<n->∃ j,j<=l.length/\r4 n s ((l3 l).take k)=((ed s (l.take j)).1,((l3 (l.take j)).length:Int))/\(ed s (l.take j)).2=0/\(l3 (l.take j)).length<=k/\(∀ i,i<=l.length->(l3 (l.take i)).length<=k->i<=j)
 | [],n,k,s,_,_=>⟨0,sh _,by simp [l3,List.flatMap_nil,List.take_nil]; rw [nK MN]; rfl,rfl,by simp [l3],fun i d _=>d⟩
 | r :: l,0,_,_,_,e=>by omega
 | r :: l,n+1,k,s,h,e=>by
  have c:(ba s r).2=0:=by
   unfold ed at h;split at h
   ·assumption
   rename_i g; exact absurd h g
  have m:(ed (ba s r).1 l).2=0:=by
   unfold ed at h;rwa [eg c] at h
  have o:=vO c;have w:=jU o;have p:l3 (r :: l)=kO r++l3 l:=by simp [l3]
  rw [p] at e ⊢;rw [r5] at e;by_cases q:k<(kO r).length
  ·refine ⟨0,F8 _,?_,rfl,by simp [l3],fun i d a=>?_⟩
   ·have f:(kO r++l3 l).take k=(kO r).take k:=N8 az;rw [f,nK (b:=(kO r).take k) (Cv (x:=ei r) az (by rw [lJ] at q; omega))];rfl
   cases i with
   | zero=>exact sh _
   | succ i=>
    rw [K2] at a;simp [l3,H5,r5] at a;omega
  obtain ⟨j,g,t,u,y,v⟩:=wN (l:=l) (n:=n) (k:=k - (kO r).length) m (by have:=lJ r; omega);have f:(kO r++l3 l).take k=kO r++(l3 l).take (k - (kO r).length):=by
   rw [take_append,r6 az]
  refine ⟨j+1,by simp; omega,?_,?_,?_,fun i d a=>?_⟩
  ·rw [f,ES c,t,K2,ed,eg c];simp [l3]
  ·rw [K2,ed,eg c]; exact u
  ·rw [K2];simp only [l3,H5,r5];have:(l3 (l.take j)).length=(List.flatMap kO (l.take j)).length:=rfl;omega
  cases i with
  | zero=>omega
  | succ i=>
   rw [K2] at a;simp only [l3,H5,r5] at a;have:=v i (by simpa using d) (by simp only [l3]; omega);omega
theorem eF:∀ {l m:List c9} {s:c4},(ed s l).2=0->ed s (l++m)=ed (ed s l).1 m
 | [],_,_,_=>rfl
 | r :: l,m,s,h=>by
  rw [D0,ed];simp [ed] at h ⊢;split
  ·simp_all [eF]
  grind
theorem tY (l m:List c9):l3 (l++m)=l3 l++l3 m:=by simp [l3]
structure n9 where
 b:List UInt8
 ee:Int
 down:Bool
 jx:Bool
 dm:Int
deriving DecidableEq
def n9.OK (d:n9):Prop:=0<=d.ee/\d.ee<=d.b.length/\d.b.length<=65536
def n9.at_ (d:n9) (k:Int):Int:=d.ee+min (max k 0) (d.b.length - d.ee)
def n9.dr (d:n9) (k:Int):n9:=⟨d.b.take (d.at_ k).toNat,d.at_ k,true,false,0⟩
def n9.up (d:n9):n9:=⟨d.b,d.ee,false,false,0⟩
def n9.cut (d:n9) (n:Int):n9:=if d.down=true\/n<0\/(d.b.length:Int)<n then d else ⟨d.b.take n.toNat,n,d.down,d.jx,d.dm⟩
def n9.mH (d:n9) (n:Int):Int:=if d.down=true then 30 else if n<0\/(d.b.length:Int)<n then 1 else 0
def n9.p4 (d:n9) (x:List UInt8):n9:=if d.down=true\/65536 - (d.b.length:Int)<x.length then d else ⟨d.b++x,d.ee,d.down,d.jx,d.dm⟩
def n9.kD (d:n9) (x:List UInt8):Int:=if d.down=true then 30 else if 65536 - (d.b.length:Int)<x.length then 20 else 0
def n9.sync (d:n9):n9:=if d.down=true then d else if d.jx=true then d.dr d.dm else ⟨d.b,d.b.length,d.down,d.jx,d.dm⟩
def n9.fY (d:n9):Int:=if d.down=true\/d.jx=true then 30 else 0
def l7 (d:n9) (s:c4) (l:List c9):n9 × c4 × Int:=
 if l.all l9=false then (d,s,1) else if (ed s l).2≠0 then (d,s,(ed s l).2) else if l.length=0 then (d,s,0)
 else if d.kD (l3 l)≠0 then (d,s,d.kD (l3 l)) else if (d.p4 (l3 l)).fY≠0 then ((d.p4 (l3 l)).sync,s,(d.p4 (l3 l)).fY)
 else ((d.p4 (l3 l)).sync,(ed s l).1,0)
def jh (l:List ec):Int:=(l.getD (l.length - 1) ⟨0,[]⟩).bo
def dx (l:List ec) (k:Int):Int:=if k=0 then 0 else if k<0\/(l.length:Int)<k then -1 else (l.getD (k - 1).toNat ⟨0,[]⟩).bo
def lf (l:List ec) (n t:Int):Bool:=decide (jh l<t) || decide (t=jh l) && decide ((l.length:Int)<=n)
def iO:List ec->List ec->Nat
 | x :: h,y :: a=>if x.bo=y.bo then iO h a+1 else 0
 | _,_=>0
def bB (l:List ec) (k:Int) (m:List ec):Int × List ec:=
 if k<0\/(l.length:Int)<k then (0,[]) else if m.length<=iO (l.drop k.toNat) m then (0,[]) else if (l.drop k.toNat).length<=iO (l.drop k.toNat) m then (0,m.drop (iO (l.drop k.toNat) m)) else (k+iO (l.drop k.toNat) m+1,m.drop (iO (l.drop k.toNat) m))
def gh (l:List ec) (k m:Int):List ec:=if (k<0\/(l.length:Int)<k)\/m<1 then [] else (l.drop k.toNat).take (min m ((l.drop k.toNat).length:Int)).toNat
def il (l:List Int):Int:=if l.length=0 then 0 else (l.mergeSort (fun a b=>decide (b<=a))).getD (l.length / 2) 0
theorem px:∀ {h a:List ec},iO h a<=h.length/\iO h a<=a.length
 | [],_=>⟨sh _,F8 _⟩
 | _ :: _,[]=>⟨F8 _,sh _⟩
 | x :: h,y :: a=>by
  have:=px (h:=h) (a:=a);simp [iO];grind
theorem qI:∀ {h a:List ec} {j:Nat} {x y:ec},j<=iO h a->h[j]? = some x->a[j]? = some y->(x.bo=y.bo↔j+1<=iO h a)
 | u :: h,v :: a,0,x,y,_,c,d=>by
  simp at c d;simp [iO];grind
 | u :: h,v :: a,j+1,x,y,f,c,d=>by
  simp at c d;simp [iO] at f ⊢;split at f
  ·rename_i e;rw [eg e];rw [qI az c d]; omega
  omega
def eM (n m:Int) (b:Bool):Bool:=aO n 0 (if b=true then m else 0)
def oN (x:eR):Bool:=(decide (x.kind=1) || decide (x.kind=2) || decide (x.kind=3) || decide (x.kind=4)) && aO x.n7 0 4 && aO x.to 0 4 && !decide (x.n7=x.to) && aO x.bo 1 1048576 && aO x.bin 1 3 &&
 eM x.a 64 (decide (x.kind=1) || decide (x.kind=3) || decide (x.kind=4)) && eM x.b 1048576 (decide (x.kind=1) || decide (x.kind=3)) && eM x.c 64 (decide (x.kind=3)) && (!x.ok || decide (x.kind=2) || decide (x.kind=4)) && eM (x.l.length:Int) 4 (decide (x.kind=3))
def fH (y:ec):Bool:=aO y.bo 1 1048576 && decide ((y.b.length:Int)<=200)
def o5 (x:eR):Int:=if oN x=true/\x.l.all fH=true then 0 else 1
def aB (s:c4) (t:Int):List c9:=if t<=s.bo then [] else [⟨2,t,0,[]⟩]
def bh (s:c4) (me:Int):List c9 × Int:=if me<0\/5<=me then ([],1) else if 1048576<=s.bo then ([],4) else ([⟨2,s.bo+1,me+1,[]⟩],0)
def Jw (s:c4) (x:eR):Bool:=decide (s.bo<x.bo) || decide (s.jc=0) || decide (s.jc=x.n7+1)
def aZ (s:c4) (x:eR):List c9 × Bool × Int:=
 if ¬ o5 x=0\/¬ x.kind=1 then ([],false,1) else if (x.bo<s.bo\/Jw s x=false)\/lf s.log x.a x.b=false then (aB s x.bo,false,0)
 else if x.bo=s.bo/\s.jc=x.n7+1 then ([],true,0) else ([⟨2,x.bo,x.n7+1,[]⟩],true,0)
def rL (l:List Bool):Bool:=decide ((l.length:Int).tdiv 2<(l.countP id:Nat))
abbrev di:eR:=⟨0,0,0,0,0,0,0,0,false,[]⟩
def ru (s:c4) (r:v7):eR:=⟨3,r.n7,r.to,s.bo,r.next - 1,dx s.log (r.next - 1),r.c7,r.bin,false,gh s.log (r.next - 1) 4⟩
def h_ (s:c4) (r:v7):eR × Int:=if r.next<1\/(s.log.length:Int)+1<r.next then (di,1) else if ¬ o5 (ru s r)=0 then (di,o5 (ru s r)) else (ru s r,0)
def fF:Int->List ec->List c9
 | _,[]=>[]
 | n,y :: l=>⟨3,n,y.bo,y.b⟩ :: fF (n+1) l
def ke (s:c4) (x:eR):List c9:=
 aB s x.bo++(if (bB s.log x.a x.l).1=0 then [] else [⟨4,(bB s.log x.a x.l).1,0,[]⟩])++fF (x.a+x.l.length - (bB s.log x.a x.l).2.length+1) (bB s.log x.a x.l).2
def aD (s:c4) (x:eR):List c9 × Bool × Int × Int:=
 if (¬ o5 x=0\/¬ x.kind=3)\/64<x.a+x.l.length then ([],false,0,1) else if x.bo<s.bo then ([],false,0,0)
 else if dx s.log x.a=x.b then (ke s x,true,x.a+x.l.length,0) else (aB s x.bo,false,0,0)
def jZ (n:Int) (x:eR):Int:=if x.ok=true then x.a+1 else if 1<n then min (n - 1) (x.a+1) else 1
def nk (s:c4) (l:List Int) (k:Int):Int:=if k<min (il l) s.log.length/\dx s.log (min (il l) s.log.length)=s.bo then min (il l) s.log.length else k
variable {x:eR}
theorem gi (h:o5 x=0):0<=x.n7/\x.n7<=4/\0<=x.to/\x.to<=4/\1<=x.bo/\x.bo<=1048576/\1<=x.bin/\x.bin<=3/\0<=x.a/\x.a<=64/\0<=x.c/\x.c<=64/\x.l.length<=4/\1<=x.kind/\x.kind<=4:=by
 unfold o5 at h;split at h
 ·rename_i d;simp [oN,aO,eM] at d;grind
 cases h
theorem tV:∀ {l:List c9},l.all l9=true->(l3 l).length<=227*l.length
 | [],_=>sh _
 | r :: l,h=>by
  simp only [K3,pe] at h;have a:=jU h.1;have c:=tV h.2;have e:l3 (r :: l)=kO r++l3 l:=by simp [l3]
  rw [e,r5,lJ,y4]; omega
structure y8 where
 me:Int
 hY:Int
 bin:Int
 st:c4
 j0:Int
 c7:Int
 c3:Int
 s:b7
def P6 (k:Nat) (n:y8):List AV:=[.int n.me,.int n.hY,.ptr (k+1) 0,.int n.bin]++(cellsOf (.nm .stable) n.st++([.int n.j0,.int n.c7,.int n.c3]++cellsOf (.nm .eS) n.s))
def lNd {a:Type} (k:Nat) (R:PL a):PL (y8 × a):=PL.P4 (ax cI (ax cI (ax (bm (k+1) 0) (ax cI (lSt (.nm .stable) (ax cI (ax cI (ax cI (lSt (.nm .eS) R))))))))) (fun q=>(⟨q.1,q.2.1,q.2.2.2.1,q.2.2.2.2.1,q.2.2.2.2.2.1,q.2.2.2.2.2.2.1,q.2.2.2.2.2.2.2.1,q.2.2.2.2.2.2.2.2.1⟩,q.2.2.2.2.2.2.2.2.2)) (fun q=>(q.1.me,q.1.hY,(),q.1.bin,q.1.st,q.1.j0,q.1.c7,q.1.c3,q.1.s,q.2))
structure Nd where
 c:y8
 d:n9
 rp:List lg
 vs:List Bool
 bn:List Int
 nx:List Int
 mt:List Int
def ndO (k:Nat) (n:Nd):AH:=[.box 103 (P6 k n.c++[.own (k+3),.own (k+4),.own (k+5),.own (k+6),.own (k+7)]),.box 147 [.own (k+2),.int n.d.ee,.bool (.atom n.d.down),.bool (.atom n.d.jx),.int n.d.dm],.row 5 .u8 n.d.b,.row 78 (.nm .nd) n.rp,.row 4 .bool n.vs,.row 3 .int n.bn,.row 3 .int n.nx,.row 3 .int n.mt]
def ah_ {a:Type} (k:Nat) (R:PH a):PH (Nd × a):=PH.P4 (aF (eu 103 (lNd k (ax (fE (k+3)) (ax (fE (k+4)) (ax (fE (k+5)) (ax (fE (k+6)) (ax (fE (k+7)) dY))))))) (aF (eu 147 (ax (fE (k+2)) (ax cI (ax cB (ax cB (ax cI dY)))))) (aF (fD 5 .u8) (aF (fD 78 (.nm .nd)) (aF (fD 4 .bool) (aF (fD 3 .int) (aF (fD 3 .int) (aF (fD 3 .int) R))))))))
 (fun q=>(⟨q.1.1,⟨q.2.2.1,q.2.1.2.1,q.2.1.2.2.1,q.2.1.2.2.2.1,q.2.1.2.2.2.2.1⟩,q.2.2.2.1,q.2.2.2.2.1,q.2.2.2.2.2.1,q.2.2.2.2.2.2.1,q.2.2.2.2.2.2.2.1⟩,q.2.2.2.2.2.2.2.2))
 (fun q=>((q.1.c,(),(),(),(),(),()),((),q.1.d.ee,q.1.d.down,q.1.d.jx,q.1.d.dm,()),q.1.d.b,q.1.rp,q.1.vs,q.1.bn,q.1.nx,q.1.mt,q.2))
def mK (n:Nd):AH:=ndO 0 n
def tW:PH Nd:=PH.P4 (ah_ 0 au) (·.1) (fun n=>(n,()))
structure H8 where
 n:Nd
 l:List eR
 e:Int
abbrev Nd.ep (n:Nd) (l:List c9):Nd:={ n with d:=(l7 n.d n.c.st l).1,c:={ n.c with st:=(l7 n.d n.c.st l).2.1 } }
abbrev Nd.bd (n:Nd) (l:List c9):Int:=(l7 n.d n.c.st l).2.2
def kW (n:y8) (k:Nat):List Int:=((range k).map fun i:Nat=>(i:Int)).filter (fun i=>decide (i≠n.me))
def dq (n:y8):List Int:=kW n n.hY.toNat
def sN (n:y8) (kd a:Int):eR:=⟨kd,n.me,a,n.st.bo,0,0,0,n.bin,false,[]⟩
def jN (n:Nd) (a:Int):eR × Int:=h_ n.c.st ⟨n.c.me,a,n.nx.getD a.toNat 0,n.c.c7,n.c.bin⟩
def cZ (n:Nd):List Int->List eR × Int
 | []=>([],0)
 | to :: l=>if (jN n to).2=0 then (if (cZ n l).2=0 then ((jN n to).1 :: (cZ n l).1,0) else ([],(cZ n l).2)) else ([],(jN n to).2)
def cJ (n:Nd):List eR × Int:=if n.d.down=true then ([],30) else if n.c.j0=2 then cZ n (dq n.c) else ([],33)
def Nd.dO:Nat->Nd->Nd
 | 0,n=>n
 | k+1,n=>if n.c.c3<n.c.c7 then
   (if pE n.c.bin ((n.c.st.log.drop n.c.c3.toNat).take 1)=0 then Nd.dO k { n with c:={ n.c with s:=u7 n.c.bin n.c.s ((n.c.st.log.drop n.c.c3.toNat).take 1),c3:=n.c.c3+1 },rp:=n.rp++y7 n.c.bin n.c.s ((n.c.st.log.drop n.c.c3.toNat).take 1) } else n)
  else n
def Nd.apply (n:Nd):Nd:=n.dO (n.c.c7 - n.c.c3).toNat
def Nd.fj (n:Nd):Nd:={ n with c:={ n.c with j0:=1 },vs:=(replicate n.c.hY.toNat false).set n.c.me.toNat true,bn:=(replicate n.c.hY.toNat (0:Int)).set n.c.me.toNat n.c.bin,nx:=replicate n.c.hY.toNat 0,mt:=replicate n.c.hY.toNat 0 }
def gU (n:y8):List eR:=(dq n).map fun c=>{ sN n 1 c with a:=n.st.log.length,b:=jh n.st.log }
def bN (n:Nd):H8:=if n.d.down=true then ⟨n,[],30⟩ else if n.c.j0=2 then ⟨n,[],0⟩ else if ¬ (bh n.c.st n.c.me).2=0 then ⟨n,[],(bh n.c.st n.c.me).2⟩
 else if ¬ n.bd (bh n.c.st n.c.me).1=0 then ⟨n.ep (bh n.c.st n.c.me).1,[],n.bd (bh n.c.st n.c.me).1⟩ else ⟨(n.ep (bh n.c.st n.c.me).1).fj,gU (n.ep (bh n.c.st n.c.me).1).fj.c,0⟩
def dK (n:y8) (x:eR):Bool:=if (¬ o5 x=0\/¬ x.to=n.me)\/n.hY<=x.n7 then false else if ¬ x.kind=3 then true else if ¬ (aD n.st x).2.2.2=0 then false
 else !(aD n.st x).1.any (fun r=>decide (r.kind=4) && decide (r.a<=n.c7))
def dt (n:Nd) (x:eR):H8:=if ¬ (aZ n.c.st x).2.2=0 then ⟨n,[],(aZ n.c.st x).2.2⟩ else if ¬ n.bd (aZ n.c.st x).1=0 then ⟨n.ep (aZ n.c.st x).1,[],n.bd (aZ n.c.st x).1⟩
 else ⟨n.ep (aZ n.c.st x).1,[{ sN (n.ep (aZ n.c.st x).1).c 2 x.n7 with ok:=(aZ n.c.st x).2.1 }],0⟩
def Nd.follow (n:Nd):Nd:={ n with c:={ n.c with j0:=0 } }
def cF (n:Nd) (x:eR):H8:=if ¬ (aD n.c.st x).2.2.2=0 then ⟨n,[],(aD n.c.st x).2.2.2⟩ else if ¬ n.bd (aD n.c.st x).1=0 then ⟨n.ep (aD n.c.st x).1,[],n.bd (aD n.c.st x).1⟩
 else let m:=n.ep (aD n.c.st x).1
  let f:=if x.bo=m.c.st.bo then m.follow else m
  if (aD n.c.st x).2.1=true then (let g:=({ f with c:={ f.c with c7:=max f.c.c7 (min x.c (aD n.c.st x).2.2.1) } }:Nd).apply; ⟨g,[{ sN f.c 4 x.n7 with ok:=true,a:=(aD n.c.st x).2.2.1 }],0⟩)
  else ⟨f,[{ sN f.c 4 x.n7 with a:=if x.bo=f.c.st.bo then min 64 (f.c.st.log.length:Int) else 0 }],0⟩
def gu (n:Nd):H8:=
 let m:Nd:={ n with c:={ n.c with j0:=2 },nx:=replicate n.nx.length ((n.c.st.log.length:Int)+1),mt:=replicate n.mt.length 0 }
 if (n.c.st.log.length:Int)+1<=64 then (let l:=[⟨3,(n.c.st.log.length:Int)+1,n.c.st.bo,[]⟩]; if m.bd l=0 then ⟨m.ep l,(cJ (m.ep l)).1,(cJ (m.ep l)).2⟩ else ⟨m.ep l,[],m.bd l⟩)
 else ⟨m,(cJ m).1,(cJ m).2⟩
def Nd.Vu (n:Nd) (x:eR):Nd:=
 let e:Int:=n.c.st.log.length
 let nx:=n.nx.set x.n7.toNat (min (jZ (n.nx.getD x.n7.toNat 0) x) (e+1))
 let mt:=if x.ok=true then n.mt.set x.n7.toNat (max (n.mt.getD x.n7.toNat 0) (min x.a e)) else n.mt
 { n with nx:=nx,mt:=mt,c:={ n.c with c7:=nk n.c.st (mt.set n.c.me.toNat e) n.c.c7 } }
def hP (n:Nd) (x:eR):H8:=
 let m:=(n.Vu x).apply
 if (n.c.st.log.length:Int)<m.nx.getD x.n7.toNat 0 then ⟨m,[],0⟩ else if (jN m x.n7).2=0 then ⟨m,[(jN m x.n7).1],0⟩ else ⟨m,[],(jN m x.n7).2⟩
def bO (n:Nd) (x:eR):H8:=
 let l:=aB n.c.st x.bo
 if ¬ n.bd l=0 then ⟨n.ep l,[],n.bd l⟩ else
 let m:=n.ep l
 if ¬ x.bo=m.c.st.bo\/m.c.j0=0 then ⟨m,[],0⟩ else
 let a:Nd:={ m with bn:=m.bn.set x.n7.toNat x.bin }
 if (x.kind=2/\x.ok=true)/\m.c.j0=1 then (let d:Nd:={ a with vs:=a.vs.set x.n7.toNat true }; if rL d.vs=true then gu d else ⟨d,[],0⟩)
 else if x.kind=4/\m.c.j0=2 then hP a x else ⟨a,[],0⟩
def bH (n:Nd) (x:eR):H8:=if n.d.down=true then ⟨n,[],30⟩ else if dK n.c x=false then ⟨n,[],1⟩ else
 let m:=if n.c.st.bo<x.bo then n.follow else n
 if x.kind=1 then dt m x else if x.kind=3 then cF m x else bO m x
def Nd.fresh (n:Nd) (b:Int):Nd:={ c:=⟨n.c.me,n.c.hY,b,(ik n.d.b).1,0,0,0,b7.mk 1 1 0 0 [] [] []⟩,d:=n.d.up.cut (ik n.d.b).2,rp:=[],vs:=[],bn:=[],nx:=[],mt:=[] }
def bl (n:Nd) (b:Int):H8:=if n.d.down=false then ⟨n,[],31⟩ else if ¬ cN b (max (ik n.d.b).1.floor 1)=0 then ⟨n,[],cN b (max (ik n.d.b).1.floor 1)⟩
 else let m:=n.fresh b
  if m.c.st.floor<b then (let l:=[⟨1,b,0,[]⟩]; if m.bd l=0 then ⟨m.ep l,[],0⟩ else ⟨{ m.ep l with d:=(m.ep l).d.dr 0 },[],m.bd l⟩) else ⟨m,[],0⟩
structure Y6 where
 n:Nd
 a:Int
 b:Int
 e:Int
def dG (n:Nd) (c:b5):Y6:=if n.d.down=true then ⟨n,0,0,30⟩ else if ¬ n.c.j0=2 then ⟨n,0,0,33⟩ else if ¬ aP c n.c.s.a8=0 then ⟨n,0,0,aP c n.c.s.a8⟩
 else if c.kind=8/\¬ c.n=n.c.s.a8+1 then ⟨n,0,0,1⟩ else if c.kind=8/\lX n.c.s.a8 n.bn=false then ⟨n,0,0,34⟩
 else if 64<(n.c.st.log.length:Int)+1 then ⟨n,0,0,20⟩ else if ¬ (eX c n.c.st.bo n.c.s.a8).2=0 then ⟨n,0,0,(eX c n.c.st.bo n.c.s.a8).2⟩
 else let l:=[⟨3,(n.c.st.log.length:Int)+1,(eX c n.c.st.bo n.c.s.a8).1.bo,(eX c n.c.st.bo n.c.s.a8).1.b⟩]
  if n.bd l=0 then ⟨n.ep l,(n.c.st.log.length:Int)+1,n.c.st.bo,0⟩ else ⟨n.ep l,0,0,n.bd l⟩
def gE (n:Nd) (k t:Int):lg × Int:=if n.d.down=true then (⟨0,0⟩,30) else if (k<1\/n.c.c3<k)\/¬ (n.c.st.log.getD (k - 1).toNat ⟨0,[]⟩).bo=t then (⟨0,0⟩,15) else (n.rp.getD (k - 1).toNat ⟨0,0⟩,0)
abbrev cK (a b:Nd):Prop:=a.c.me=b.c.me/\a.c.hY=b.c.hY/\a.c.bin=b.c.bin/\a.c.st.floor=b.c.st.floor/\a.c.st.bo=b.c.st.bo/\a.c.st.jc=b.c.st.jc/\a.c.st.log=b.c.st.log/\a.c.j0=b.c.j0/\a.c.c7=b.c.c7/\a.c.c3=b.c.c3/\a.c.s.a8=b.c.s.a8/\a.c.s.next=b.c.s.next/\a.c.s.dm=b.c.s.dm/\a.c.s.ea=b.c.s.ea/\a.c.s.b8=b.c.s.b8/\a.c.s.c6=b.c.s.c6/\a.c.s.b6=b.c.s.b6/\a.d.ee=b.d.ee/\a.d.down=b.d.down/\a.d.jx=b.d.jx/\a.d.dm=b.d.dm/\a.d.b=b.d.b/\a.rp=b.rp/\a.vs=b.vs/\a.bn=b.bn/\a.nx=b.nx/\a.mt=b.mt
abbrev vX (a b:Nd) (p:Prop):Prop:=a.c.me=b.c.me/\a.c.hY=b.c.hY/\a.c.bin=b.c.bin/\a.c.st.floor=b.c.st.floor/\a.c.st.bo=b.c.st.bo/\a.c.st.jc=b.c.st.jc/\a.c.st.log=b.c.st.log/\a.c.j0=b.c.j0/\a.c.c7=b.c.c7/\a.c.c3=b.c.c3/\a.c.s.a8=b.c.s.a8/\a.c.s.next=b.c.s.next/\a.c.s.dm=b.c.s.dm/\a.c.s.ea=b.c.s.ea/\a.c.s.b8=b.c.s.b8/\a.c.s.c6=b.c.s.c6/\a.c.s.b6=b.c.s.b6/\a.d.ee=b.d.ee/\a.d.down=b.d.down/\a.d.jx=b.d.jx/\a.d.dm=b.d.dm/\a.d.b=b.d.b/\a.rp=b.rp/\a.vs=b.vs/\a.bn=b.bn/\a.nx=b.nx/\a.mt=b.mt/\p
structure D4 (d:n9) (L:List c9):Prop where
 st:(ed rl L).2=0
 C0:ik d.b=((ed rl L).1,((l3 L).length:Int))
 pre:∃ t,d.b=l3 L++t
 U6:d.ee=d.b.length
 up:d.down=false->d.b=l3 L
variable {L:List c9}
def rB (h:(ed rl L).2=0):∃ j,j<=L.length/\ik ((l3 L).take k)=((ed rl (L.take j)).1,((l3 (L.take j)).length:Int))/\(ed rl (L.take j)).2=0/\(l3 (L.take j)).length<=k/\∀ i,i<=L.length->(l3 (L.take i)).length<=k->i<=j:=by
 obtain ⟨j,a,c,d⟩:=wN (n:=(l3 L).length+1) (k:=k) h az;refine ⟨j,a,?_,d⟩;rw [ik,<- c];exact nQ az (by rw [s9]; omega)
theorem uC (h:(ed rl L).2=0):ik (l3 L)=((ed rl L).1,((l3 L).length:Int)):=by
 obtain ⟨j,c,d,e,f,a⟩:=rB (k:=(l3 L).length) h;have:=a L.length az (by rw [I2]; omega);grind
variable {l:List c9}
theorem D4.am7 {a:n9} (m:(ed rl (L++l)).2=0) (o:(l3 L).length<=k) (c:a.b=(l3 (L++l)).take k) (p:a.ee=a.b.length) (q:a.down=true):∃ i,i<=l.length/\D4 a (L++l.take i):=by
 obtain ⟨j,s,d,f,g,t⟩:=rB (k:=k) m;have v:=t L.length aa (by rw [List.take_left]; exact o);have e:(L++l).take j=L++l.take (j - L.length):=by rw [take_append,r6 az]
 rw [e] at d f g;rw [r5] at s;refine ⟨j - L.length,az,f,by rw [c]; exact d,?_,p,fun h=>by rw [q] at h; cases h⟩;refine ⟨(l3 (l.drop (j - L.length))).take (k - (l3 (L++l.take (j - L.length))).length),?_⟩;have u:l3 (L++l)=l3 (L++l.take (j - L.length))++l3 (l.drop (j - L.length)):=by grind [tY,List.take_append_drop]
 rw [c,u,take_append,r6 g]
def D4.enc {e:Bool} {c f:Int} (d:(ed rl L).2=0) (a:b=l3 L) (g:c=b.length) {h:Bool}:D4 ⟨b,c,h,e,f⟩ L:=
 ⟨d,by rw [a]; exact uC d,⟨[],by rw [A3]; exact a⟩,g,fun _=>a⟩
def Bz {i:Nat}:L <+: L++l.take i:=⟨_,rfl⟩
structure H9 (d:n9) (s:c4) (l L:List c9):Prop where
 ok:(l7 d s l).2.2=0->(l7 d s l).1.down=false/\D4 (l7 d s l).1 (L++l)/\(l7 d s l).2.1=(ed s l).1/\(ed s l).2=0/\l.all l9=true/\(l7 d s l).1.jx=d.jx/\(l7 d s l).1.dm=d.dm/\(l=[]->l7 d s l=(d,s,0))
 no:(l7 d s l).2.2≠0->(l7 d s l).2.1=s/\l≠[]/\(((l7 d s l).1=d/\(l7 d s l).2.2≠30)\/(d.jx=true/\(l7 d s l).2.2=30/\(l7 d s l).1.down=true/\(l7 d s l).1.jx=false/\∃ i,i<=l.length/\D4 (l7 d s l).1 (L++l.take i)))
 len:(l7 d s l).1.b.length<=d.b.length+(l3 l).length
 le:d.b.length<=65536->(l7 d s l).1.b.length<=65536
theorem uc:∀ {l:List c9} {s:c4},(ed s l).2=0\/(ed s l).2=1\/(ed s l).2=5
 | [],_=>.inl rfl
 | r :: l,s=>by
  rw [ed];split
  ·exact uc
  dsimp only;unfold ba;grind
variable {d:n9}
def Gs {s:c4} (h:D4 d L) (m:d.down=false) (A:s=(ed rl L).1):H9 d s l L:=by
 have w:=h.up m;have D:=h.U6;by_cases g:l.all l9=false
 ·have a:l≠[]:=by rintro rfl; cases g
  constructor <;> rw [l7,eg g]
  ·intro e; cases e
  ·exact fun _=>⟨rfl,a,.inl ⟨rfl,(by decide:(1:Int)≠30)⟩⟩
  ·dsimp only; omega
  exact id
 by_cases i:(ed s l).2≠0
 ·have a:l≠[]:=by rintro rfl; exact i rfl
  constructor <;> rw [l7,dc g,eg i]
  ·intro e; exact absurd e i
  ·exact fun _=>⟨rfl,a,.inl ⟨rfl,by rcases uc (l:=l) (s:=s) with e | e | e <;> rw [e] <;> decide⟩⟩
  ·dsimp only; omega
  exact id
 have p:(ed s l).2=0:=B4.1 i;have v:l.all l9=true:=by simpa using g
 by_cases o:l.length=0
 ·obtain rfl:=B7 o;constructor <;> rw [l7,dc g,dc i,eg o]
  ·exact fun _=>⟨m,by rw [A3]; exact h,rfl,rfl,rfl,rfl,rfl,fun _=>rfl⟩
  ·intro e; exact absurd rfl e
  ·dsimp only; omega
  exact id
 have a:l≠[]:=by rintro rfl; exact o rfl
 by_cases c:d.kD (l3 l)≠0
 ·have B:d.kD (l3 l)=20:=by
   unfold n9.kD at c ⊢;rw [m] at c ⊢;simp only [Bool.false_eq_true,if_false] at c ⊢;split at c
   ·rename_i q; rw [eg q]
   exact absurd rfl c
  constructor <;> rw [l7,dc g,dc i,dc o,eg c]
  ·intro e; exact absurd e c
  ·exact fun _=>⟨rfl,a,.inl ⟨rfl,by dsimp only; rw [B]; decide⟩⟩
  ·dsimp only; omega
  exact id
 have C:¬ 65536 - (d.b.length:Int)<(l3 l).length:=by
  intro q;unfold n9.kD at c;rw [m,dc am,eg q] at c;exact c am
 have j:d.p4 (l3 l)=⟨d.b++l3 l,d.ee,false,d.jx,d.dm⟩:=by
  rw [n9.p4,dc (by rw [m]; simpa using C),m]
 have y:d.b++l3 l=l3 (L++l):=by rw [w,tY]
 have z:(ed rl (L++l)).2=0:=by rw [eF h.st,<- A]; exact p
 by_cases t:d.jx=true
 ·have u:(d.p4 (l3 l)).fY=30:=by rw [j,n9.fY,eg (.inr t)]
  have f:(d.p4 (l3 l)).sync=(d.p4 (l3 l)).dr d.dm:=by rw [j,n9.sync,dc Bool.false_ne_true,eg t]
  constructor <;> rw [l7,dc g,dc i,dc o,dc c,eg (by rw [u]; decide)]
  ·intro e; rw [u] at e; cases e
  ·refine fun _=>⟨rfl,a,.inr ⟨t,u,by rw [f]; rfl,by rw [f]; rfl,?_⟩⟩;dsimp only;rw [f,j];refine D4.am7 (k:=((⟨d.b++l3 l,d.ee,false,d.jx,d.dm⟩:n9).at_ d.dm).toNat) z ?_ (by show take _ (d.b++l3 l)=_; rw [y]) ?_ rfl
   ·rw [<- w];simp [n9.at_,r5]; omega
   simp [n9.dr,n9.at_,s9,r5]; omega
  ·rw [f,j];simp [n9.dr,s9,r5]; omega
  intro _;rw [f,j];simp [n9.dr,s9,r5]; omega
 have u:(d.p4 (l3 l)).fY=0:=by rw [j,n9.fY,dc (by simpa using t)]
 have f:(d.p4 (l3 l)).sync=⟨d.b++l3 l,(d.b++l3 l).length,false,d.jx,d.dm⟩:=by rw [j,n9.sync,dc Bool.false_ne_true,dc t]
 constructor <;> rw [l7,dc g,dc i,dc o,dc c,dc (by rw [u]; decide)]
 ·refine fun _=>⟨by rw [f],?_,rfl,p,v,by rw [f],by rw [f],fun e=>absurd e a⟩;dsimp only;rw [f];exact D4.enc z y rfl
 ·intro e; exact absurd rfl e
 ·rw [f]; dsimp only; rw [r5]; omega
 intro _; rw [f]; dsimp only; rw [r5]; omega
def ans (h:r.kind=1/\1<=r.a/\r.a<=3/\r.b=0/\r.x=[]):l9 r=true:=cV.2 (.inl h)
theorem akj (h:r.kind=2/\0<=r.a/\r.a<=1048576/\0<=r.b/\r.b<=5/\r.x=[]):l9 r=true:=cV.2 (.inr (.inl h))
def aqg (h:r.kind=3/\1<=r.a/\r.a<=64/\0<=r.b/\r.b<=1048576/\r.x.length<=200):l9 r=true:=cV.2 (.inr (.inr (.inl h)))
def aot (h:r.kind=4/\1<=r.a/\r.a<=64/\r.b=0/\r.x=[]):l9 r=true:=cV.2 (.inr (.inr (.inr h)))
def pI {s t:c4} (h:l9 r=true) (e:gl s r=some t):ba s r=(t,0):=by
 rw [ba,dc (by rw [h]; decide),e]
theorem lh {s:c4} (h:(ba s r).2=0):ed s [r]=((ba s r).1,0):=by
 rw [ed,eg h,ed]
variable {t:Int}
theorem yE {s:c4} {v:Int} (a:0<=t) (c:t<=1048576) (f:0<=v) (g:v<=5) (h:s.bo<t\/(s.bo=t/\(s.jc=0\/s.jc=v))):ed s [⟨2,t,v,[]⟩]=({ s with bo:=t,jc:=v },0):=by
 have e:ba s ⟨2,t,v,[]⟩=({ s with bo:=t,jc:=v },0):=by
  refine pI (akj ⟨rfl,a,c,f,g,rfl⟩) ?_;rw [gl,dc (show ¬ (2:Int)=1 by decide),eg rfl,gj,dc];grind
 rw [lh (by rw [e]),e]
theorem ov {s:c4} (a:0<=t) (c:t<=1048576):ed s (aB s t)=({ s with bo:=max s.bo t,jc:=if s.bo<t then 0 else s.jc },0)/\(aB s t).all l9=true:=by
 unfold aB;split
 ·rename_i h;rw [show max s.bo t=s.bo by omega,dc az];exact ⟨rfl,rfl⟩
 grind [yE,akj]
def xW {y:ec}:fH y=true↔1<=y.bo/\y.bo<=1048576/\y.b.length<=200:=by
 simp [fH,aO]; omega
theorem yo:∀ {m:List ec} {s:c4},m.all fH=true->s.log.length+m.length<=64->ed s (fF ((s.log.length:Int)+1) m)=({ s with log:=s.log++m },0)/\(fF ((s.log.length:Int)+1) m).all l9=true
 | [],s,_,_=>⟨by rw [fF,ed,A3],rfl⟩
 | y :: m,s,h,g=>by
  rw [K3,pe,xW] at h;rw [y4] at g;have a:l9 ⟨3,(s.log.length:Int)+1,y.bo,y.b⟩=true:=aqg ⟨rfl,by dsimp only; omega,by dsimp only; omega,by dsimp only; omega,by dsimp only; omega,by dsimp only; omega⟩;have e:ba s ⟨3,(s.log.length:Int)+1,y.bo,y.b⟩=({ s with log:=s.log++[y] },0):=by
   refine pI a ?_;rw [gl,dc (show ¬ (3:Int)=1 by decide),dc (show ¬ (3:Int)=2 by decide),eg rfl,eH,dc (by dsimp only; omega)]
  obtain ⟨c,f⟩:=yo (m:=m) (s:={ s with log:=s.log++[y] }) h.2 (by dsimp only; rw [r5,Q5]; omega);have i:(((s.log++[y]).length:Nat):Int)+1=(s.log.length:Int)+1+1:=by rw [r5,Q5]; omega
  rw [i] at c f;refine ⟨?_,?_⟩
  ·rw [fF,ed,eg (by rw [e]),e,c]; simp
  rw [fF,K3,a,f]; rfl
theorem Dn (h:o5 x=0):x.l.all fH=true:=by
 unfold o5 at h;grind
theorem TA (h:o5 x=0):0<=x.b:=by
 unfold o5 at h;split at h
 ·rename_i a;simp [oN,aO,eM] at a;grind
 cases h
def fJ (s:c4) (x:eR):Nat:=iO (s.log.drop x.a.toNat) x.l
def eG (s:c4) (x:eR):List ec:=if x.l.length<=fJ s x then s.log else s.log.take (x.a.toNat+fJ s x)++x.l.drop (fJ s x)
theorem CT {l:List ec} {k:Int} (h:dx l k=t) (a:0<=t) (c:0<=k):k.toNat<=l.length:=by
 unfold dx at h;grind
theorem CO {s:c4} (c:x.a.toNat<=s.log.length):x.a.toNat+x.l.length<=(eG s x).length/\(eG s x).length<=max s.log.length (x.a.toNat+x.l.length):=by
 have h:=px (h:=s.log.drop x.a.toNat) (a:=x.l);unfold eG fJ;grind
def rh {m:List ec} (h:m.all fH=true):(m.drop k).all fH=true:=
 J5.2 fun y a=>J5.1 h y (V2 a)
theorem Xc {s:c4} (h:o5 x=0) (H:s.log.length<=64) (y:x.a+x.l.length<=64) (I:s.bo<=x.bo) (z:dx s.log x.a=x.b) (A:0<=x.a) (B:1<=x.bo) (o:x.bo<=1048576) :
  ed s (ke s x)=({ s with bo:=x.bo,jc:=if s.bo<x.bo then 0 else s.jc,log:=eG s x },0)/\(ke s x).all l9=true:=by
 have C:=TA h;have D:=CT z C A;have q:=Dn h;obtain ⟨j,u⟩:=ov (s:=s) (t:=x.bo) az o;have j:ed s (aB s x.bo)=({ s with bo:=x.bo,jc:=if s.bo<x.bo then 0 else s.jc },0):=by rw [j,show max s.bo x.bo=x.bo by omega]
 have F:=px (h:=s.log.drop x.a.toNat) (a:=x.l);rw [length_drop] at F;unfold ke;by_cases c:x.l.length<=fJ s x
 ·have e:bB s.log x.a x.l=(0,[]):=by rw [bB,dc az]; exact eg c
  rw [e,eg rfl,fF,A3,A3,eG,eg c];grind
 by_cases f:(s.log.drop x.a.toNat).length<=fJ s x
 ·have G:fJ s x=s.log.length - x.a.toNat:=by rw [length_drop] at f; unfold fJ at f ⊢; omega
  have e:bB s.log x.a x.l=(0,x.l.drop (fJ s x)):=by rw [bB,dc az]; exact (dc c).trans (eg f)
  have p:x.a+(x.l.length:Int) - ((x.l.drop (fJ s x)).length:Int)+1=(s.log.length:Int)+1:=by rw [length_drop]; omega
  rw [e,eg rfl,A3];dsimp only;rw [p];obtain ⟨g,i⟩:=yo (m:=x.l.drop (fJ s x)) (s:={ s with bo:=x.bo,jc:=if s.bo<x.bo then 0 else s.jc }) (rh q) (by dsimp only; rw [length_drop]; omega);dsimp only at g i;refine ⟨?_,by rw [J7,u,i]; rfl⟩;rw [eF (by rw [j]),j];dsimp only;rw [g,eG,dc c,r6 (l:=s.log) az]
 have G:x.a.toNat+fJ s x<s.log.length:=by rw [length_drop] at f; omega
 have e:bB s.log x.a x.l=(x.a+fJ s x+1,x.l.drop (fJ s x)):=by rw [bB,dc az]; exact (dc c).trans (dc f)
 have v:l9 ⟨4,x.a+fJ s x+1,0,[]⟩=true:=aot ⟨rfl,by dsimp only; omega,by dsimp only; omega,rfl,rfl⟩;have J:ba { s with bo:=x.bo,jc:=if s.bo<x.bo then 0 else s.jc } ⟨4,x.a+fJ s x+1,0,[]⟩=({ s with bo:=x.bo,jc:=if s.bo<x.bo then 0 else s.jc,log:=s.log.take (x.a.toNat+fJ s x) },0):=by
  refine pI v ?_;rw [gl,dc (show ¬ (4:Int)=1 by decide),dc (show ¬ (4:Int)=2 by decide),dc (show ¬ (4:Int)=3 by decide),gw,dc (by dsimp only; omega)];dsimp only;rw [show (x.a+(fJ s x:Int)+1 - 1).toNat=x.a.toNat+fJ s x by omega]
 have p:x.a+(x.l.length:Int) - ((x.l.drop (fJ s x)).length:Int)+1=(((s.log.take (x.a.toNat+fJ s x)).length:Nat):Int)+1:=by rw [length_drop,s9]; omega
 rw [e];dsimp only;rw [dc az,p];obtain ⟨g,i⟩:=yo (m:=x.l.drop (fJ s x)) (s:={ s with bo:=x.bo,jc:=if s.bo<x.bo then 0 else s.jc,log:=s.log.take (x.a.toNat+fJ s x) }) (rh q) (by dsimp only; rw [length_drop,s9]; omega);dsimp only at g i;refine ⟨?_,by rw [J7,J7,u,i]; simp [v]⟩;have w:ed s (aB s x.bo++[⟨4,x.a+fJ s x+1,0,[]⟩])=({ s with bo:=x.bo,jc:=if s.bo<x.bo then 0 else s.jc,log:=s.log.take (x.a.toNat+fJ s x) },0):=by grind [eF,lh]
 rw [eF (by rw [w]),w];dsimp only;rw [g,eG,dc c]
structure o8 (n:Nd):Prop where
 d:n.d.OK
 hY:3<=n.c.hY/\n.c.hY<=5
 me:0<=n.c.me/\n.c.me<n.c.hY
 log:n.c.st.log.length<=64
 bo:0<=n.c.st.bo/\n.c.st.bo<=1048576
 y3:0<=n.c.c3/\n.c.c3<=n.c.c7/\n.c.c7<=n.c.st.log.length
 len:n.c.j0=0\/((n.vs.length:Int)=n.c.hY/\(n.bn.length:Int)=n.c.hY/\(n.nx.length:Int)=n.c.hY/\(n.mt.length:Int)=n.c.hY)
 rp:(n.rp.length:Int)=n.c.c3
abbrev u6:b7:=b7.mk 1 1 0 0 [] [] []
structure UpI (n:Nd) (L:List c9):Prop where
 st:n.c.st=(ed rl L).1
 bin:1<=n.c.bin/\n.c.bin<=3/\n.c.st.floor=n.c.bin
 j0:0<=n.c.j0/\n.c.j0<=2
 jc:n.c.j0≠0->n.c.st.jc=n.c.me+1/\1<=n.c.st.bo
 nx:n.c.j0=2->∀ i:Nat,(i:Int)<n.c.hY->1<=n.nx.getD i 0/\n.nx.getD i 0<=n.c.st.log.length+1
 pl:u4 n.c.bin (n.c.st.log.take n.c.c3.toNat)/\n.c.s=pS n.c.bin u6 (n.c.st.log.take n.c.c3.toNat)/\n.rp=pR n.c.bin u6 (n.c.st.log.take n.c.c3.toNat)
structure r9 (n:Nd) (L:List c9):Prop where
 ok:o8 n
 d:D4 n.d L
 le:∀ r ∈ L,r.kind=3->1<=r.b
 up:n.d.down=false->UpI n L
structure G9 (n:Nd) (x:eR):Prop where
 up:n.d.down=false
 n7:x.n7=n.c.me
 to:x.to≠n.c.me/\0<=x.to/\x.to<n.c.hY
 bo:x.bo=n.c.st.bo
 bin:x.bin=n.c.bin
 ask:x.kind=1->n.c.st.jc=n.c.me+1
 jc:x.kind=2->x.ok=true->n.c.st.jc=x.to+1
 copy:x.kind=3->n.c.j0=2
structure o6 (n:Nd) (L:List c9) (n':Nd) (l:List eR) (L':List c9):Prop where
 inv:r9 n' L'
 pre:L <+: L'
 me:n'.c.me=n.c.me/\n'.c.hY=n.c.hY
 len:n'.d.b.length<=n.d.b.length+1400
 lets:∀ x ∈ l,G9 n' x
 mono:n.d.down=false->n'.d.down=false->n.c.c7<=n'.c.c7/\n'.c.st.log.take n.c.c7.toNat=n.c.st.log.take n.c.c7.toNat/\n'.c.bin=n.c.bin
variable {n:Nd}
def o6.refl (h:r9 n L):o6 n L n [] L:=
 ⟨h,List.prefix_refl _,⟨rfl,rfl⟩,az,fun _ a=>(by cases a),fun _ _=>⟨B5 _,rfl,rfl⟩⟩
theorem uD {s:c4} (h:H9 d s l L) (c:l.length<=6):(l7 d s l).1.b.length<=d.b.length+1400:=by
 cases a:l.all l9
 ·have e:l7 d s l=(d,s,1):=by rw [l7,eg a]
  grind
 have:=h.len;have:=tV a;omega
def Ur (n:Nd) (l:List c9):(n.ep l).c={ n.c with st:=(l7 n.d n.c.st l).2.1 }:=rfl
def QX (n:Nd) (l:List c9):(n.ep l).d=(l7 n.d n.c.st l).1:=rfl
theorem ry {s t:c4} (a:l9 r=true) (h:gl s r=some t) (c:s.log.length<=64) (e:0<=s.bo/\s.bo<=1048576):t.log.length<=64/\0<=t.bo/\t.bo<=1048576:=by
 have f:=cV.1 a;unfold gl at h;split at h
 ·unfold eV at h;grind
 split at h
 ·unfold gj at h;grind
 split at h
 ·unfold eH at h;grind
 unfold gw at h;grind
theorem qN {s:c4} (h:(ba s r).2=0):l9 r=true/\gl s r=some (ba s r).1:=by
 have a:=vO h;unfold ba at h ⊢;grind
theorem po:∀ {l:List c9} {s:c4},s.log.length<=64->0<=s.bo/\s.bo<=1048576->(ed s l).1.log.length<=64/\0<=(ed s l).1.bo/\(ed s l).1.bo<=1048576
 | [],_,a,c=>⟨a,c⟩
 | r :: l,s,a,c=>by
  rw [ed];split
  ·rename_i h;obtain ⟨e,f⟩:=qN h;obtain ⟨g,i⟩:=ry e f a c;exact po g i
  grind
theorem DH {s:c4} (h:H9 d s l L) (c:d.OK):(l7 d s l).1.OK:=by
 by_cases e:(l7 d s l).2.2=0
 ·have a:=(h.ok e).2.1.U6;exact ⟨az,az,h.le c.2.2⟩
 rcases (h.no e).2.2 with ⟨a,_⟩ | ⟨_,_,_,_,i,_,a⟩
 ·grind
 have f:=a.U6;exact ⟨az,az,h.le c.2.2⟩
theorem lZ (h:r9 n L) (q:n.d.down=false) (u:l.length<=6) (B:∀ r ∈ l,r.kind=3->1<=r.b) (v:n.bd l≠0):∃ w,o6 n L (n.ep l) [] w:=by
 have j:=h.up q;have m:=Gs (l:=l) h.d q j.st;have f:=uD m u;have g:=DH m h.ok.d;obtain ⟨s,C,o⟩:=m.no v;have a:(n.ep l).c=n.c:=by rw [Ur,s]
 have p:o8 (n.ep l):=⟨g,by rw [a]; exact h.ok.hY,by rw [a]; exact h.ok.me,by rw [a]; exact h.ok.log,by rw [a]; exact h.ok.bo,by rw [a]; exact h.ok.y3,by rw [a]; exact h.ok.len,by rw [a]; exact h.ok.rp⟩;rcases o with ⟨o,_⟩ | ⟨_,_,y,_,i,_,z⟩
 ·have e:n.ep l=n:=by
   unfold Nd.ep; rw [s,o]
  rw [e]; exact ⟨L,o6.refl h⟩
 refine ⟨L++l.take i,⟨p,z,fun r hr=>?_,fun g=>?_⟩,Bz,by rw [a]; exact ⟨rfl,rfl⟩,f,fun _ A=>(by cases A),fun _ g=>?_⟩
 ·rcases y2.1 hr with hr | hr
  ·exact h.le r hr
  grind
 ·grind
 rw [QX,y] at g; cases g
structure L1 (n:Nd) (L l:List c9):Prop where
 d:D4 (n.ep l).d (L++l)
 dn:(n.ep l).d.down=false
 st:(n.ep l).c.st=(ed n.c.st l).1
 sts:(n.ep l).c.st=(ed rl (L++l)).1
 le:∀ r ∈ L++l,r.kind=3->1<=r.b
 len:(n.ep l).d.b.length<=n.d.b.length+1400
 ok:(n.ep l).d.OK
 lt:(n.ep l).c.st.log.length<=64/\0<=(n.ep l).c.st.bo/\(n.ep l).c.st.bo<=1048576
 no:l=[]->n.ep l=n
theorem ot (h:r9 n L) (i:n.d.down=false) (j:l.length<=6) (u:∀ r ∈ l,r.kind=3->1<=r.b) (m:n.bd l=0):L1 n L l:=by
 have a:=h.up i;have f:=Gs (l:=l) h.d i a.st;obtain ⟨o,p,q,v,w,y,z,s⟩:=f.ok m;have g:(n.ep l).c.st=(ed n.c.st l).1:=q;refine ⟨p,o,g,?_,fun r hr=>?_,uD f j,DH f h.ok.d,?_,fun e=>?_⟩
 ·rw [g,eF h.d.st,a.st]
 ·rcases y2.1 hr with hr | hr
  ·exact h.le r hr
  grind
 ·rw [g]; exact po h.ok.log h.ok.bo
 unfold Nd.ep; rw [s e]
theorem Zq {c:Type} {a b:List c} {j:Nat} (h:a.take k=b.take k) (e:j<=k):a.take j=b.take j:=by
 have f:a.take j=(a.take k).take j:=by rw [Q6,E3 e]
 grind
theorem ni (h:r9 n L) (f:n.d.down=false) (y:L1 n L l) (g:n.c.j0≠0->(n.ep l).c.st.jc=n.c.me+1/\1<=(n.ep l).c.st.bo) (j:(n.ep l).c.st.floor=n.c.st.floor)
  (e:(n.ep l).c.st.log.take n.c.c7.toNat=n.c.st.log.take n.c.c7.toNat) (m:n.c.c7<=((n.ep l).c.st.log.length:Int)) (v:n.c.j0=2->n.c.st.log.length<=(n.ep l).c.st.log.length):o6 n L (n.ep l) [] (L++l):=by
 have a:=h.up f;have o:(n.ep l).c.st.log.take n.c.c3.toNat=n.c.st.log.take n.c.c3.toNat:=Zq e (by have:=h.ok.y3; omega);refine ⟨⟨⟨y.ok,h.ok.hY,h.ok.me,y.lt.1,y.lt.2,⟨h.ok.y3.1,h.ok.y3.2.1,m⟩,h.ok.len,h.ok.rp⟩,y.d,y.le,fun _=>⟨y.sts,⟨a.bin.1,a.bin.2.1,j.trans a.bin.2.2⟩,a.j0,g,fun p i q=>?_,?_⟩⟩,List.prefix_append _ _,⟨rfl,rfl⟩,y.len,fun _ u=>(by cases u),fun _ _=>⟨B5 _,e,rfl⟩⟩
 ·have w:=a.nx p i q;grind
 show u4 n.c.bin ((n.ep l).c.st.log.take n.c.c3.toNat)/\n.c.s=pS n.c.bin u6 ((n.ep l).c.st.log.take n.c.c3.toNat)/\n.rp=pR n.c.bin u6 ((n.ep l).c.st.log.take n.c.c3.toNat);rw [o]; exact a.pl
def r9.follow {n:Nd} {L:List c9} (h:r9 n L):r9 n.follow L:=
 ⟨⟨h.ok.d,h.ok.hY,h.ok.me,h.ok.log,h.ok.bo,h.ok.y3,.inl rfl,h.ok.rp⟩,h.d,h.le,fun e=>by
  have a:=h.up e;exact ⟨a.st,a.bin,⟨B5 0,(by decide:(0:Int)<=2)⟩,fun c=>absurd rfl c,fun c=>absurd (show (0:Int)=2 from c) am,a.pl⟩⟩
variable {l:List eR} {n':Nd} {L':List c9}
def o6.mW (h:o6 n.follow L n' l L'):o6 n L n' l L':=⟨h.inv,h.pre,h.me,h.len,h.lets,h.mono⟩
theorem zp {n:y8} {i:Int} (h:i ∈ dq n):i≠n.me/\0<=i/\i<n.hY:=by
 unfold dq kW at h;grind
variable {to:Int}
theorem adu (h:(jN n to).2=0):(jN n to).1=ru n.c.st ⟨n.c.me,to,n.nx.getD to.toNat 0,n.c.c7,n.c.bin⟩:=by
 unfold jN h_ at h ⊢;grind
theorem IP (a:n.d.down=false) (f:n.c.j0=2) (h:(jN n to).2=0) (g:to≠n.c.me/\0<=to/\to<n.c.hY):G9 n (jN n to).1:=by
 rw [adu h];exact ⟨a,rfl,g,rfl,rfl,fun e=>absurd (show (3:Int)=1 from e) am,fun e=>absurd (show (3:Int)=2 from e) am,fun _=>f⟩
theorem Bu {n:Nd}:∀ {l:List Int} {x:eR},x ∈ (cZ n l).1->∃ to ∈ l,(jN n to).2=0/\x=(jN n to).1
 | t :: l,x,h=>by
  unfold cZ at h;split at h
  ·rename_i a;split at h
   ·rcases u2.1 h with rfl | h
    ·grind
    obtain ⟨u,c,k⟩:=Bu h;grind
   cases h
  cases h
theorem qH (a:x ∈ (cJ n).1):G9 n x:=by
 unfold cJ at a;split at a
 ·cases a
 grind [Bu,IP,zp]
def o6.tell (h:o6 n L n' [] L') (a:∀ x ∈ l,G9 n' x):o6 n L n' l L':=⟨h.inv,h.pre,h.me,h.len,a,h.mono⟩
def Fb (a:n.d.down=false) (f:n.c.st.jc=n.c.me+1) (g:x ∈ gU n.c):G9 n x:=by
 obtain ⟨to,h,rfl⟩:=K4.1 g;exact ⟨a,rfl,zp h,rfl,rfl,fun _=>f,fun e=>absurd (show (1:Int)=2 from e) am,fun e=>absurd (show (1:Int)=3 from e) am⟩
theorem Vl {s:c4} {m:Int} (h:(bh s m).2=0) (a:0<=m) (c:0<=s.bo):bh s m=([⟨2,s.bo+1,m+1,[]⟩],0)/\ed s [⟨2,s.bo+1,m+1,[]⟩]=({ s with bo:=s.bo+1,jc:=m+1 },0):=by
 unfold bh at h ⊢;split at h
 ·cases h
 grind [yE]
variable {k:Int}
def apR {a b:Int} (c:k≠3):∀ r ∈ [c9.mk k a b []],r.kind=3->1<=r.b:=fun r f e=>by
 rw [A1.1 f] at e; exact absurd e c
theorem Mx (h:r9 n L):∃ L',o6 n L (bN n).n (bN n).l L':=by
 unfold bN;split
 ·exact ⟨L,.refl h⟩
 rename_i i;have f:n.d.down=false:=by simpa using i
 split
 ·exact ⟨L,.refl h⟩
 rename_i g;split
 ·exact ⟨L,.refl h⟩
 rename_i j;obtain ⟨m,o⟩:=Vl (B4.1 j) h.ok.me.1 h.ok.bo.1;rw [m];dsimp only;split
 ·simp_all [lZ]
 rename_i p;have y:=ot h f aa (apR am) (B4.1 p);have e:=h.up f;have a:=y.st;rw [o] at a;generalize v:[c9.mk 2 (n.c.st.bo+1) (n.c.me+1) []]=l at *;have w:=h.ok.me;have q:=h.ok.hY;refine ⟨L++l,⟨⟨⟨y.ok,h.ok.hY,h.ok.me,y.lt.1,y.lt.2,?_,?_,h.ok.rp⟩,y.d,y.le,fun _=>⟨y.sts,⟨e.bin.1,e.bin.2.1,?_⟩,⟨(by decide:(0:Int)<=1),(by decide:(1:Int)<=2)⟩,fun _=>?_,fun g=>absurd (show (1:Int)=2 from g) am,?_⟩⟩,List.prefix_append _ _,⟨rfl,rfl⟩,y.len,fun x u=>Fb y.dn ?_ u,fun _ _=>⟨B5 _,?_,rfl⟩⟩⟩
 ·show 0<=n.c.c3/\n.c.c3<=n.c.c7/\n.c.c7<=((n.ep l).c.st.log.length:Int);rw [a]; exact h.ok.y3
 ·refine .inr ⟨?_,?_,?_,?_⟩
  ·show ((((replicate n.c.hY.toNat false).set n.c.me.toNat true).length:Nat):Int)=n.c.hY;rw [B8,L6]; omega
  ·show ((((replicate n.c.hY.toNat (0:Int)).set n.c.me.toNat n.c.bin).length:Nat):Int)=n.c.hY;rw [B8,L6]; omega
  ·show (((replicate n.c.hY.toNat (0:Int)).length:Nat):Int)=n.c.hY;rw [L6]; omega
  show (((replicate n.c.hY.toNat (0:Int)).length:Nat):Int)=n.c.hY;rw [L6]; omega
 ·show (n.ep l).c.st.floor=n.c.bin;rw [a]; exact e.bin.2.2
 ·show (n.ep l).c.st.jc=n.c.me+1/\1<=(n.ep l).c.st.bo;rw [a]; exact ⟨rfl,by have:=h.ok.bo.1; dsimp only; omega⟩
 ·show u4 n.c.bin ((n.ep l).c.st.log.take n.c.c3.toNat)/\n.c.s=pS n.c.bin u6 ((n.ep l).c.st.log.take n.c.c3.toNat)/\n.rp=pR n.c.bin u6 ((n.ep l).c.st.log.take n.c.c3.toNat);rw [a]; exact e.pl
 ·show (n.ep l).c.st.jc=n.c.me+1;rw [a]
 show (n.ep l).c.st.log.take n.c.c7.toNat=_;rw [a]
theorem DS:∀ {k:Nat} {n:Nd} {L:List c9},r9 n L->n.d.down=false->r9 (n.dO k) L/\(n.dO k).d=n.d/\(n.dO k).c={ n.c with s:=(n.dO k).c.s,c3:=(n.dO k).c.c3 }/\(n.dO k).vs=n.vs/\(n.dO k).bn=n.bn/\(n.dO k).nx=n.nx/\(n.dO k).mt=n.mt
 | 0,n,L,h,_=>⟨h,rfl,rfl,rfl,rfl,rfl,rfl⟩
 | k+1,n,L,h,o=>by
  unfold Nd.dO;split
  ·rename_i J;split
   ·rename_i f;have a:=h.up o;have q:=h.ok.y3;obtain ⟨x,g⟩:∃ x,n.c.st.log[n.c.c3.toNat]? = some x:=⟨_,p6 az⟩;have e:(n.c.st.log.drop n.c.c3.toNat).take 1=[x]:=by
     obtain ⟨i,j⟩:=r3.1 g;rw [J2 i,j]; rfl
    rw [e] at f ⊢;have m:(aY x n.c.bin).e=0:=by
     unfold pE at f;split at f
     ·assumption
     exact f
    have u:u7 n.c.bin n.c.s [x]=je n.c.bin n.c.s x:=by
     unfold u7 pN pN;rw [eg m]; rfl
    have v:y7 n.c.bin n.c.s [x]=[nU n.c.bin n.c.s x]:=by
     unfold y7 pN pN;rw [eg m]; rfl
    have w:(n.c.c3+1).toNat=n.c.c3.toNat+1:=by omega
    obtain ⟨y,p,z⟩:=a.pl;rw [u,v];have A:r9 { n with c:={ n.c with s:=je n.c.bin n.c.s x,c3:=n.c.c3+1 },rp:=n.rp++[nU n.c.bin n.c.s x] } L:=by
     refine ⟨⟨h.ok.d,h.ok.hY,h.ok.me,h.ok.log,h.ok.bo,⟨by dsimp only; omega,by dsimp only; omega,q.2.2⟩,h.ok.len,?_⟩,h.d,h.le,fun _=>⟨a.st,a.bin,a.j0,a.jc,a.nx,?_⟩⟩
     ·dsimp only;rw [r5,Q5];have:=h.ok.rp; omega
     dsimp only;rw [w];refine ⟨yO y g m,?_,?_⟩
     ·rw [p]; exact HJ g
     rw [z,p]; exact JG g
    obtain ⟨B,C,D,F,G,H,I⟩:=DS (k:=k) A o;exact ⟨B,C,D,F,G,H,I⟩
   grind
  grind
theorem mG {s:c4}:∀ r ∈ aB s t,r.kind=3->1<=r.b:=fun r a e=>by
 unfold aB at a;grind
theorem gJ {s:c4}:(aB s t).length<=1:=by
 unfold aB;split <;> simp
theorem qb (h:o5 x=0):x.n7≠x.to:=by
 unfold o5 at h;split at h
 ·rename_i a;simp [oN] at a;grind
 cases h
structure G1 (n:Nd) (x:eR):Prop where
 may:o5 x=0
 to:x.to=n.c.me
 n7:x.n7<n.c.hY
theorem zD (h:dK n.c x=true):G1 n x/\(x.kind=3->(aD n.c.st x).2.2.2=0/\(aD n.c.st x).1.any (fun r=>decide (r.kind=4) && decide (r.a<=n.c.c7))=false):=by
 unfold dK at h;split at h
 ·cases h
 rename_i e;refine ⟨⟨az,az,az⟩,fun f=>?_⟩;grind
theorem aeW {s:c4} (h:(aZ s x).2.2=0) (f:o5 x=0):(aZ s x).1.length<=1/\(∀ r ∈ (aZ s x).1,r.kind=3->1<=r.b) /\
  (ed s (aZ s x).1)=({ s with bo:=max s.bo x.bo,jc:=if (aZ s x).2.1=true then x.n7+1 else if s.bo<x.bo then 0 else s.jc },0) /\
  ((aZ s x).2.1=true->s.bo<=x.bo/\(x.bo=s.bo->s.jc=0\/s.jc=x.n7+1))/\(x.bo<=s.bo->(aZ s x).2.1=false->(aZ s x).1=[])/\(x.bo<=s.bo->s.jc≠0->(aZ s x).1=[]):=by
 have o:=gi f;unfold aZ at h ⊢;split at h
 ·cases h
 rename_i g;rw [dc g];split at h
 ·rename_i a;rw [eg a];have:=(ov (s:=s) (t:=x.bo) az az).1;refine ⟨gJ,mG,?_,fun e=>(by cases e),fun e _=>(by unfold aB; rw [eg e]),fun e _=>(by unfold aB; rw [eg e])⟩;dsimp only;rw [this]; simp
 rename_i a;rw [dc a];have c:s.bo<=x.bo/\Jw s x=true:=by grind
 have i:x.bo=s.bo->s.jc=0\/s.jc=x.n7+1:=fun e=>by
  have:=c.2;simp [Jw] at this;omega
 split
 ·rename_i j;refine ⟨aa,fun _ m=>(by cases m),?_,fun _=>⟨c.1,i⟩,fun _ _=>rfl,fun _ _=>rfl⟩;dsimp only;rw [ed,eg rfl,show max s.bo x.bo=s.bo by omega,<- j.2]
 grind [yE]
theorem Ii (h:r9 n L) (i:n.d.down=false) (a:G1 n x) (o:n.c.j0≠0->x.bo<=n.c.st.bo):∃ L',o6 n L (dt n x).n (dt n x).l L':=by
 unfold dt;split
 ·exact ⟨L,.refl h⟩
 rename_i p;obtain ⟨B,m,q,C,D,s⟩:=aeW (B4.1 p) a.may;split
 ·rename_i j;exact lZ h i az m j
 rename_i j;have y:=ot h i az m (B4.1 j);have f:=y.st;rw [q] at f;have u:=h.up i;refine ⟨_,(ni h i y (fun g=>?_) (by rw [f]) (by rw [f]) (by rw [f]; exact h.ok.y3.2.2) (fun _=>by rw [f]; exact sh _)).tell fun z v=>?_⟩
 ·have F:=u.jc g;have e:=y.no (s (o g) (by have:=h.ok.me; omega));grind
 rw [A1.1 v];have w:=gi a.may;have A:=qb a.may;refine ⟨y.dn,rfl,⟨by have:=a.to; show x.n7≠n.c.me; omega,w.1,a.n7⟩,rfl,rfl,fun e=>absurd (show (2:Int)=1 from e) am,fun _ e=>?_,fun e=>absurd (show (2:Int)=3 from e) am⟩;have e:(aZ n.c.st x).2.1=true:=e;show (n.ep (aZ n.c.st x).1).c.st.jc=x.n7+1;grind
theorem GN:∀ {m:List ec} {k:Int},m.all fH=true->∀ r ∈ fF k m,r.kind=3->1<=r.b
 | y :: m,k,h,r,hr,e=>by
  rw [K3,pe,xW] at h;rcases u2.1 hr with rfl | hr
  ·exact h.1.1
  exact GN h.2 r hr e
theorem gM {s:c4} (h:(aD s x).2.2.2=0):(o5 x=0/\x.kind=3/\x.a+x.l.length<=64)/\((x.bo<s.bo/\aD s x=([],false,0,0))\/(s.bo<=x.bo/\dx s.log x.a=x.b/\aD s x=(ke s x,true,x.a+x.l.length,0))\/(s.bo<=x.bo/\¬ dx s.log x.a=x.b/\aD s x=(aB s x.bo,false,0,0))):=by
 unfold aD at h ⊢;split at h
 ·cases h
 grind
theorem wL {s:c4} (h:o5 x=0):(ke s x).length<=6:=by
 have e:=gi h;have f:=gJ (s:=s) (t:=x.bo);have g:∀ (m:List ec) (k:Int),(fF k m).length=m.length:=fun m=>by
  induction m with
  | nil=>intro _; rfl
  | cons y m c=>intro k; rw [fF,y4,y4,c]
 have i:(bB s.log x.a x.l).2.length<=x.l.length:=by
  unfold bB;grind
 unfold ke;grind
theorem WI {s:c4} (h:o5 x=0):∀ r ∈ ke s x,r.kind=3->1<=r.b:=fun r hr e=>by
 rcases y2.1 hr with hr | hr
 ·rcases y2.1 hr with hr | hr
  ·exact mG r hr e
  grind
 refine GN ?_ r hr e;have:=Dn h;unfold bB;grind
theorem yY {s:c4} (c:o5 x=0) (q:x.a.toNat<=s.log.length) (f:(ke s x).any (fun r=>decide (r.kind=4) && decide (r.a<=k))=false) (u:0<=k) (v:k<=s.log.length):(eG s x).take k.toNat=s.log.take k.toNat/\k<=((eG s x).length:Int):=by
 have w:=gi c;have g:=px (h:=s.log.drop x.a.toNat) (a:=x.l);rw [length_drop] at g;unfold eG;split
 ·grind
 rename_i i;have h2:k.toNat<=x.a.toNat+fJ s x\/s.log.length<=x.a.toNat+fJ s x:=by
  by_cases j:(s.log.drop x.a.toNat).length<=fJ s x
  ·grind
  left;have e:bB s.log x.a x.l=(x.a+fJ s x+1,x.l.drop (fJ s x)):=by rw [bB,dc az]; exact (dc i).trans (dc j)
  have m:c9.mk 4 (x.a+fJ s x+1) 0 [] ∈ ke s x:=by
   unfold ke;rw [e];dsimp only;rw [dc az];simp
  have o:=List.any_eq_false.1 f _ m;simp at o;omega
 have p:k.toNat<=(s.log.take (x.a.toNat+fJ s x)).length:=by rw [s9]; omega
 refine ⟨?_,by rw [r5]; omega⟩;rw [N8 p,Q6];rcases h2 with h2 | h2
 ·grind
 grind
