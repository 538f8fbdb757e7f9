/- What leads to the law, part 7. Conditions: each lemma's own. -/
import Derived.Shelf.Lay
import Derived.Shelf.SlSortCmp.Small
import Derived.Shelf.Small.Bits
import Derived.Sort.LotA
import Derived.Test.YticbaadnibdbkaaGreatNSM6
set_option linter.unusedVariables false
set_option linter.unusedSimpArgs false
set_option maxHeartbeats 2000000
set_option linter.defProp false
noncomputable section
open List (countP drop length_drop replicate take toArray)
open UInt8 (ofNat toNat)
namespace Go.Proofs.YticbaadnibdbkaaGreat
open Tryz
open Go.RowKit
def F6:=@Nat.le_of_eq
variable {l:List c9} {d:n9}
theorem yN {s:c4} (h:(l7 d s l).2.2=0):(l7 d s l).2.1=(ed s l).1/\(ed s l).2=0:=by
 unfold l7 at h ⊢;split at h
 ·cases h
 rename_i c;split at h
 ·grind
 rename_i a;have a:=B4.1 a;split at h
 ·rename_i b;obtain rfl:=B7 b;exact ⟨rfl,rfl⟩
 grind
variable {n:Nd} {x:eR}
def tk (h:o8 n) (p:dK n.c x=true) (q:x.kind=3) (g:(aD n.c.st x).2.1=true) :
  (aD n.c.st x)=(ke n.c.st x,true,x.a+x.l.length,0)/\n.c.st.bo<=x.bo/\(ed n.c.st (ke n.c.st x))=({ n.c.st with bo:=x.bo,jc:=if n.c.st.bo<x.bo then 0 else n.c.st.jc,log:=eG n.c.st x },0) /\
  (eG n.c.st x).take n.c.c7.toNat=n.c.st.log.take n.c.c7.toNat/\n.c.c7<=((eG n.c.st x).length:Int)/\x.a+x.l.length<=((eG n.c.st x).length:Int)/\o5 x=0/\dx n.c.st.log x.a=x.b:=by
 obtain ⟨f,r⟩:=zD p;obtain ⟨s,k⟩:=r q;have y:=gi f.may;obtain ⟨⟨_,_,i⟩,t⟩:=gM s;rcases t with ⟨_,e⟩ | ⟨m,j,e⟩ | ⟨_,_,e⟩
 ·rw [e] at g; cases g
 ·rw [e] at k;have u:=(Xc f.may h.log i m j az az az).1;have o:=CT j (TA f.may) az;obtain ⟨v,w⟩:=yY f.may o k (by have:=h.y3; omega) h.y3.2.2;have z:=CO (x:=x) o;exact ⟨e,m,u,v,w,az,f.may,j⟩
 rw [e] at g; cases g
def Jg (b:o8 n) (g:dK n.c x=true) (h:x.kind=3) (i:n.bd (aD n.c.st x).1=0) (j:(aD n.c.st x).2.1=true) :
  (0<=(n.ep (aD n.c.st x).1).c.c3/\max (n.ep (aD n.c.st x).1).c.c7 (min x.c (aD n.c.st x).2.2.1)<=((n.ep (aD n.c.st x).1).c.st.log.length:Int))/\((n.ep (aD n.c.st x).1).rp.length:Int)<=(n.ep (aD n.c.st x).1).c.c3/\(n.ep (aD n.c.st x).1).c.st.log.length<=10000:=by
 obtain ⟨e,r,k,s,t,u,_⟩:=tk b g h j;have f:(n.ep (aD n.c.st x).1).c.st=(ed n.c.st (aD n.c.st x).1).1:=(yN i).1;have m:=po (l:=(aD n.c.st x).1) b.log b.bo;rw [<- f] at m;have o:(n.ep (aD n.c.st x).1).c.st.log=eG n.c.st x:=by
  rw [f,e];dsimp only;rw [k]
 have p:=b.y3;have v:=b.rp;have q:(aD n.c.st x).2.2.1=x.a+x.l.length:=by rw [e]
 refine ⟨⟨p.1,?_⟩,?_,az⟩
 ·show max n.c.c7 (min x.c (aD n.c.st x).2.2.1)<=_;rw [o,q]; omega
 show ((n.rp.length:Nat):Int)<=n.c.c3;omega
theorem o6.c7 {n a:Nd} {L g:List c9} {c:Int} (h:o6 n L a [] g) (i:a.d.down=false) (j:a.c.c7<=c) (s:c<=(a.c.st.log.length:Int)):o6 n L ({ a with c:={ a.c with c7:=c } }:Nd).apply [] g /\
  (({ a with c:={ a.c with c7:=c } }:Nd).apply.d=a.d/\({ a with c:={ a.c with c7:=c } }:Nd).apply.c.me=a.c.me/\({ a with c:={ a.c with c7:=c } }:Nd).apply.c.hY=a.c.hY/\({ a with c:={ a.c with c7:=c } }:Nd).apply.c.st=a.c.st/\({ a with c:={ a.c with c7:=c } }:Nd).apply.c.bin=a.c.bin/\({ a with c:={ a.c with c7:=c } }:Nd).apply.c.j0=a.c.j0):=by
 have e:=h.inv.up i;have b:=h.inv.ok;have t:r9 ({ a with c:={ a.c with c7:=c } }:Nd) g:=⟨⟨b.d,b.hY,b.me,b.log,b.bo,⟨b.y3.1,M4 b.y3.2.1 j,s⟩,b.len,b.rp⟩,h.inv.d,h.inv.le,fun _=>⟨e.st,e.bin,e.j0,e.jc,e.nx,e.pl⟩⟩;obtain ⟨u,m,v,G,H,I,J⟩:=DS (k:=(c - a.c.c3).toNat) t i;have w:({ a with c:={ a.c with c7:=c } }:Nd).apply=({ a with c:={ a.c with c7:=c } }:Nd).dO (c - a.c.c3).toNat:=rfl;rw [w];generalize ({ a with c:={ a.c with c7:=c } }:Nd).dO (c - a.c.c3).toNat=q at *;have f:q.c.me=a.c.me/\q.c.hY=a.c.hY/\q.c.st=a.c.st/\q.c.bin=a.c.bin/\q.c.j0=a.c.j0/\q.c.c7=c:=by rw [v]; exact ⟨rfl,rfl,rfl,rfl,rfl,rfl⟩
 obtain ⟨f,o,p,r,y,z⟩:=f;refine ⟨⟨u,h.pre,by rw [f,o]; exact h.me,by rw [m]; exact h.len,fun _ A=>(by cases A),fun B K=>?_⟩,m,f,o,p,r,y⟩;obtain ⟨C,D,F⟩:=h.mono B i;rw [p,r,z];exact ⟨M4 C j,D,F⟩
theorem CM {L:List c9} (h:r9 n L) (F:n.d.down=false) (K:dK n.c x=true) (N:x.kind=3):∃ S,o6 n L (cF n x).n (cF n x).l S:=by
 obtain ⟨k,T⟩:=zD K;obtain ⟨G,h4⟩:=T N;have hb:=gi k.may;have U:=qb k.may;have hi:=h.up F;have H:x.n7≠n.c.me/\0<=x.n7/\x.n7<n.c.hY:=⟨by have:=k.to; omega,az,k.n7⟩;have f:(aD n.c.st x).1.length<=6:=by
  rcases (gM G).2 with ⟨_,e⟩ | ⟨_,_,e⟩ | ⟨_,_,e⟩ <;> rw [e]
  ·simp
  ·exact wL k.may
  have:=gJ (s:=n.c.st) (t:=x.bo); dsimp only; omega
 have p:∀ r ∈ (aD n.c.st x).1,r.kind=3->1<=r.b:=by
  rcases (gM G).2 with ⟨_,e⟩ | ⟨_,_,e⟩ | ⟨_,_,e⟩ <;> rw [e]
  ·intro r V; cases V
  ·exact WI k.may
  exact mG
 unfold cF;rw [dc az];split
 ·rename_i u;exact lZ h F f p u
 rename_i u;have u:=B4.1 u;have y:=ot h F f p u;generalize O:(aD n.c.st x).1=l at *;have I:((n.ep l).c.st.floor=n.c.st.floor)/\(n.ep l).c.st.bo=max n.c.st.bo x.bo/\(n.ep l).c.st.jc=(if n.c.st.bo<x.bo then 0 else n.c.st.jc)/\(n.ep l).c.st.log.take n.c.c7.toNat=n.c.st.log.take n.c.c7.toNat/\n.c.c7<=((n.ep l).c.st.log.length:Int)/\((aD n.c.st x).2.1=true->n.c.st.bo<=x.bo/\(aD n.c.st x).2.2.1<=((n.ep l).c.st.log.length:Int))/\((aD n.c.st x).2.1=false->(n.ep l).c.st.log=n.c.st.log):=by
  have a:=y.st;rw [<- O] at a ⊢;rcases (gM G).2 with ⟨o,e⟩ | ⟨e0,_,e⟩ | ⟨_,_,e⟩
  ·rw [e] at a ⊢;rw [a];exact ⟨rfl,by show n.c.st.bo=_; omega,by rw [dc az]; rfl,rfl,h.ok.y3.2.2,fun q=>(by cases q),fun _=>rfl⟩
  ·have v:(aD n.c.st x).2.1=true:=by rw [e]
   obtain ⟨_,o,g,w,A,B,_⟩:=tk h.ok K N v;rw [e] at a ⊢;dsimp only at a ⊢;rw [a,g];exact ⟨rfl,by dsimp only; omega,rfl,w,A,fun _=>⟨o,B⟩,fun q=>(by cases q)⟩
  have g:=(ov (s:=n.c.st) (t:=x.bo) az az).1;rw [e] at a ⊢;dsimp only at a ⊢;rw [a,g];exact ⟨rfl,rfl,rfl,rfl,h.ok.y3.2.2,fun q=>(by cases q),fun _=>rfl⟩
 obtain ⟨W,s2,s3,X,Y,Z,s7⟩:=I;dsimp only;have i:∀ {m:Nd} {z:eR},m.d=(n.ep l).d->m.c.me=n.c.me->m.c.hY=n.c.hY->m.c.st=(n.ep l).c.st->m.c.bin=n.c.bin->z.kind=4->z.n7=n.c.me->z.to=x.n7->z.bo=(n.ep l).c.st.bo->z.bin=n.c.bin->G9 m z:=fun {m z} o g w A B C J k3 k4 k5=>
  ⟨by rw [o]; exact y.dn,by rw [g,J],by rw [g,w,k3]; exact H,by rw [A,k4],by rw [B,k5],fun e=>absurd (C.symm.trans e) am,fun e=>absurd (C.symm.trans e) am,fun e=>absurd (C.symm.trans e) am⟩
 by_cases P:x.bo=(n.ep l).c.st.bo
 ·rw [eg P];have Q:o6 n L (n.ep l).follow [] (L++l):=(ni h.follow F ⟨y.d,y.dn,y.st,y.sts,y.le,y.len,y.ok,y.lt,fun e=>hC Nd.follow (y.no e)⟩ (fun j=>absurd rfl j) W X Y (fun j=>absurd (show (0:Int)=2 from j) am)).mW;by_cases v:(aD n.c.st x).2.1=true
  ·rw [eg v];have h6:=(Z v).2;obtain ⟨C,J⟩:=Q.c7 y.dn (c:=max n.c.c7 (min x.c (aD n.c.st x).2.2.1)) (by show n.c.c7<=_; omega) (by show _<=((n.ep l).c.st.log.length:Int); omega);obtain ⟨o,g,w,A,B,e6⟩:=J;refine ⟨L++l,C.tell fun z D=>?_⟩;rw [A1.1 D];exact i o g w A B rfl rfl rfl rfl rfl
  rw [dc v];refine ⟨L++l,Q.tell fun z D=>?_⟩;rw [A1.1 D];exact i rfl rfl rfl rfl rfl rfl rfl rfl rfl rfl
 rw [dc P];have h0:x.bo<n.c.st.bo:=by omega
 have e:aD n.c.st x=([],false,0,0):=by
  rcases (gM G).2 with ⟨_,e⟩ | ⟨_,_,_⟩ | ⟨_,_,_⟩
  ·exact e
  ·omega
  omega
 have el:l=[]:=by rw [<- O,e]
 rw [e];dsimp only;rw [dc am];have r:o6 n L (n.ep l) [] L:=by rw [y.no el]; exact o6.refl h
 refine ⟨L,r.tell fun z D=>?_⟩;rw [A1.1 D];exact i rfl rfl rfl rfl rfl rfl rfl rfl rfl rfl
theorem BR:∀ {n:Nat} {s:c4} {b:List UInt8},s.log.length<=64->0<=s.bo/\s.bo<=1048576->((r4 n s b).1.log.length<=64/\0<=(r4 n s b).1.bo/\(r4 n s b).1.bo<=1048576)/\0<=(r4 n s b).2/\(r4 n s b).2<=(b.length:Int)
 | 0,_,_,h,k=>⟨⟨h,k⟩,B5 _,I3 _⟩
 | n+1,s,b,h,k=>by
  unfold r4;split
  ·grind
  rename_i a;split
  ·grind
  split
  ·grind
  rename_i c;have j:=iH (B4.1 a);obtain ⟨e,f⟩:=qN (B4.1 c);obtain ⟨g,i⟩:=ry e f h k;obtain ⟨m,o,p⟩:=BR (n:=n) (b:=b.drop (bD b).2.1.toNat) g i;grind
def nY (b:List UInt8):((ik b).1.log.length<=64/\0<=(ik b).1.bo/\(ik b).1.bo<=1048576)/\0<=(ik b).2/\(ik b).2<=(b.length:Int):=
 BR aa ⟨am,am⟩
def aaJ (h:d.OK):d.up.OK:=h
variable {k:Int}
def afx (h:d.OK) (a:d.down=false) (c:0<=k) (g:k<=(d.b.length:Int)):(d.cut k).OK/\d.mH k=0/\d.cut k=⟨d.b.take k.toNat,k,false,d.jx,d.dm⟩:=by
 have f:¬ (d.down=true\/k<0\/(d.b.length:Int)<k):=by rw [a]; rintro (h | h | h) <;> first | cases h | omega
 have e:d.cut k=⟨d.b.take k.toNat,k,false,d.jx,d.dm⟩:=by rw [n9.cut,dc f,a]
 refine ⟨?_,?_,e⟩
 ·rw [e];refine ⟨c,?_,?_⟩ <;> dsimp only <;> rw [s9]
  ·omega
  have:=h.2.2; omega
 rw [n9.mH,dc (by rw [a]; decide),dc az]
theorem tQ (h:d.OK):(d.dr k).OK:=by
 obtain ⟨a,b,c⟩:=h;refine ⟨?_,?_,?_⟩ <;> simp only [n9.dr,n9.at_]
 ·omega
 ·grind
 rw [s9]; omega
def Xt (h:d.OK):d.sync.OK:=by
 unfold n9.sync;split
 ·exact h
 split
 ·exact tQ h
 exact ⟨I3 _,B5 _,h.2.2⟩
def ahv {x:List UInt8} (h:d.OK):(d.p4 x).OK:=by
 obtain ⟨a,b,c⟩:=h;unfold n9.p4;split
 ·exact ⟨a,b,c⟩
 refine ⟨a,?_,?_⟩ <;> dsimp only <;> rw [r5] <;> omega
def sm {s:c4} (h:d.OK):(l7 d s l).1.OK:=by
 unfold l7;repeat' split
 all_goals first | exact h | exact Xt (ahv h)
abbrev Nd.fr (n:Nd) (b:Int):Nd:=⟨⟨n.c.me,n.c.hY,b,(ik n.d.b).1,0,0,0,b7.mk 1 1 0 0 [] [] []⟩,(if n.d.down=true then n.d.up else n.d).cut (ik n.d.b).2,[],[],[],[],[]⟩
section
variable {n:Nd} {b:Int}
def agB (h:n.d.down=false):bl n b=⟨n,[],31⟩:=eg h
variable (h:n.d.down=true)
include h
def SP:n.fresh b=n.fr b:=by
 rw [Nd.fresh,Nd.fr,eg h]
def aiM (a:¬ cN b (max (ik n.d.b).1.floor 1)=0):bl n b=⟨n,[],cN b (max (ik n.d.b).1.floor 1)⟩:=by rw [bl,dc (by rw [h]; decide),eg a]
def zy (a:n.d.OK):((if n.d.down=true then n.d.up else n.d).cut (ik n.d.b).2).OK/\(if n.d.down=true then n.d.up else n.d).mH (ik n.d.b).2=0/\(if n.d.down=true then n.d.up else n.d).cut (ik n.d.b).2=⟨n.d.b.take (ik n.d.b).2.toNat,(ik n.d.b).2,false,false,0⟩:=by
 rw [eg h];have:=nY n.d.b;exact afx (d:=n.d.up) (aaJ a) rfl this.2.1 this.2.2
variable (h1:cN b (max (ik n.d.b).1.floor 1)=0)
include h1
theorem afi (a:(ik n.d.b).1.floor<b) (c:(n.fr b).bd [⟨1,b,0,[]⟩]=0):bl n b=⟨(n.fr b).ep [⟨1,b,0,[]⟩],[],0⟩:=by
 rw [bl,dc (by rw [h]; decide),dc az,SP h];grind
theorem aeS (a:(ik n.d.b).1.floor<b) (c:¬ (n.fr b).bd [⟨1,b,0,[]⟩]=0):bl n b=⟨{ (n.fr b).ep [⟨1,b,0,[]⟩] with d:=((n.fr b).ep [⟨1,b,0,[]⟩]).d.dr 0 },[],(n.fr b).bd [⟨1,b,0,[]⟩]⟩:=by
 rw [bl,dc (by rw [h]; decide),dc az,SP h];grind
theorem ach (a:b<=(ik n.d.b).1.floor):bl n b=⟨n.fr b,[],0⟩:=by
 rw [bl,dc (by rw [h]; decide),dc az,SP h];grind
theorem ams:(bl n b).n.rp=[]/\(bl n b).n.vs=[]/\(bl n b).n.bn=[]/\(bl n b).n.nx=[]/\(bl n b).n.mt=[]:=by grind [afi,aeS,ach]
end
end Go.Proofs.YticbaadnibdbkaaGreat
namespace Go.Proofs.YticbaadnibdbkaaGreat
open Tryz
open Go.Shelf Go.Proofs
def vY:Go.Shelf.Ren:=⟨fun | 125=>283 | 128=>326 | 129=>327 | n=>n,fun | 46=>192 | 3=>3 | 51=>193 | 53=>173 | 4=>4 | 5=>5 | 9=>9 | n=>n,fun | n=>n⟩
def MI:Lays.n125 prog vY:={
 mixed:=cm
 f125:=func283.trans (hC some cm)
 f128:=func326.trans (hC some cm)
 f129:=func327.trans (hC some cm)
 t3:=underlying3
 a3:=isAgg3
 z3:=sizeOf3
 v3:=zeroValue3
 t4:=underlying4
 a4:=isAgg4
 z4:=sizeOf4
 v4:=zeroValue4
 t5:=underlying5
 a5:=isAgg5
 z5:=sizeOf5
 v5:=zeroValue5
 t9:=underlying9
 a9:=isAgg9
 z9:=sizeOf9
 v9:=zeroValue9
 t46:=underlying192
 a46:=isAgg192
 z46:=sizeOf192
 v46:=zeroValue192
 t51:=underlying193
 a51:=isAgg193
 z51:=sizeOf193
 v51:=zeroValue193
 t53:=underlying173
 a53:=isAgg173
 z53:=sizeOf173
 v53:=zeroValue173 }
def iN:Go.Shelf.Ren:=⟨fun | 6=>265 | 15=>283 | 14=>282 | 28=>326 | 29=>327 | 20=>318 | 21=>319 | 22=>320 | 23=>321 | 24=>322 | 25=>323 | 26=>324 | 27=>325 | 46=>350 | 47=>351 | 48=>352 | 49=>353 | 50=>354 | 57=>364 | n=>n,fun | 22=>33 | 24=>3 | 25=>217 | 3=>3 | 39=>192 | 0=>0 | 53=>193 | 55=>173 | 4=>4 | 46=>318 | 45=>317 | 50=>322 | 5=>5 | 9=>9 | 66=>340 | 70=>344 | 76=>353 | 77=>112 | n=>n,fun | n=>n⟩
def uZ:Go.Proofs.SlLaysF.n6 prog iN:={
 mixed:=cm
 f6:=⟨f265.name,am,func265.trans (hC some cm)⟩
 f14:=⟨f282.name,am,func282.trans (hC some cm)⟩
 f15:=func283.trans (hC some cm)
 f20:=⟨f318.name,am,func318.trans (hC some cm)⟩
 f21:=⟨f319.name,am,func319.trans (hC some cm)⟩
 f22:=⟨f320.name,am,func320.trans (hC some cm)⟩
 f23:=⟨f321.name,am,func321.trans (hC some cm)⟩
 f24:=⟨f322.name,am,func322.trans (hC some cm)⟩
 f25:=⟨f323.name,am,func323.trans (hC some cm)⟩
 f26:=⟨f324.name,am,func324.trans (hC some cm)⟩
 f27:=⟨f325.name,am,func325.trans (hC some cm)⟩
 f28:=func326.trans (hC some cm)
 f29:=func327.trans (hC some cm)
 f46:=⟨f350.name,am,func350.trans (hC some cm)⟩
 f47:=func351.trans (hC some cm)
 f48:=func352.trans (hC some cm)
 f49:=⟨f353.name,am,func353.trans (hC some cm)⟩
 f50:=⟨f354.name,am,func354.trans (hC some cm)⟩
 f57:=⟨f364.name,am,func364.trans (hC some cm)⟩
 t0:=underlying0
 a0:=isAgg0
 z0:=sizeOf0
 v0:=zeroValue0
 t3:=underlying3
 a3:=isAgg3
 z3:=sizeOf3
 v3:=zeroValue3
 t4:=underlying4
 a4:=isAgg4
 z4:=sizeOf4
 v4:=zeroValue4
 t5:=underlying5
 a5:=isAgg5
 z5:=sizeOf5
 v5:=zeroValue5
 t9:=underlying9
 a9:=isAgg9
 z9:=sizeOf9
 v9:=zeroValue9
 t22:=underlying33
 a22:=isAgg33
 z22:=sizeOf33
 v22:=zeroValue33
 a24:=isAgg3
 z24:=sizeOf3
 t25:=underlying217
 a25:=isAgg217
 z25:=sizeOf217
 v25:=zeroValue217
 t39:=underlying192
 a39:=isAgg192
 z39:=sizeOf192
 v39:=zeroValue192
 t45:=underlying317
 a45:=isAgg317
 z45:=sizeOf317
 v45:=zeroValue317
 t46:=underlying318
 a46:=isAgg318
 z46:=sizeOf318
 v46:=zeroValue318
 t50:=underlying322
 a50:=isAgg322
 z50:=sizeOf322
 v50:=zeroValue322
 t53:=underlying193
 a53:=isAgg193
 z53:=sizeOf193
 v53:=zeroValue193
 t55:=underlying173
 a55:=isAgg173
 z55:=sizeOf173
 v55:=zeroValue173
 t66:=underlying340
 a66:=isAgg340
 z66:=sizeOf340
 v66:=zeroValue340
 t70:=underlying344
 a70:=isAgg344
 z70:=sizeOf344
 v70:=zeroValue344
 t76:=underlying353
 a76:=isAgg353
 z76:=sizeOf353
 v76:=zeroValue353
 t77:=underlying112
 a77:=isAgg112
 z77:=sizeOf112
 v77:=zeroValue112 }
end Go.Proofs.YticbaadnibdbkaaGreat
namespace Go.Proofs.YticbaadnibdbkaaGreat
open Tryz
open Go.RowKit Go.Proofs Go.Shelf Go.Sort
def nu (a b:Int):Int:=if b<a then -1 else if a<b then 1 else 0
theorem pJ (a b:Int):ltOf nu a b=decide (b<a):=by
 unfold ltOf nu;grind
def DR:SWO (ltOf nu):=⟨fun x=>by rw [pJ]; simp,fun x y z a b=>by rw [pJ] at *; simp at *; omega,fun x y z a b=>by rw [pJ] at *; simp at *; omega⟩
def pC (l:List Int):List Int:=l.mergeSort (fun a b=>decide (b<=a))
def qo (l:List Int):(pC l).length=l.length:=(List.mergeSort_perm l _).length_eq
theorem Dk {d a:Array Int} (h:PermIn 0 d.size d a) (b:SortedIn (ltOf nu) 0 d.size a):a.toList=pC d.toList:=by
 rw [sorted_unique_holds DR (fun x y c b=>by rw [pJ] at *; simp at *; omega) d a h b,pC];congr 1;funext x y;rw [pJ];grind
def TY (x y:Int) (W:World):Calls prog 266 #[.int .i64 x,.int .i64 y] W fun e c=>e = .returned (.int .i64 (nu x y))/\∃ q,c = W.drewN q:=by
 by_cases a:y<x
 ·have b:¬ x<y:=by omega
  go_wp2
  go_ret
  exact ⟨by simp [nu,a],0,rfl⟩
 by_cases b:x<y
 ·go_wp2
  go_ret
  exact ⟨by simp [nu,a,b],0,rfl⟩
 go_wp2
 go_ret
 refine ⟨?_,0,rfl⟩;rw [show nu x y=0 from by unfold nu; rw [dc az,dc az]]; rfl
theorem nF {c:Cx}:∀ {l:List Int} {a:List Value},p0 c (l.flatMap (cellsOf .int)) a->a=l.map (Value.int .i64)/\∀ n ∈ l,a7 n
 | [],_,h=>by cases h; exact ⟨rfl,aa⟩
 | x :: l,_,h=>by
  have b:p0 c (.int x :: l.flatMap (cellsOf .int)) _:=h;cases b with | cons d f=>?_
  cases d with | int g=>?_
  obtain ⟨e,k⟩:=nF f;grind
variable {sp:List Value}
theorem Ro {l a:List Int} (h:a.length=l.length):putCells (Value.int .i64) 0 a.toArray (toArray (l.map (Value.int .i64)++sp))=toArray (a.map (Value.int .i64)++sp):=by
 apply Array.ext_getElem?;unfold putCells;grind
theorem TM {w:World} {a:List Int} {g c:Nat} (s:a.length<=12) (o:w.heap[g]? = some (.cells (toArray (a.map (Value.int .i64)++sp)) 3 (0,0))) :
  Calls prog 265 #[.slice (some ⟨g,0,none⟩) a.length c,.func (.func 266) #[] #[]] w fun e d=>e = .returned (.tuple #[])/\Kp [g] w d /\ d.heap[g]? = some (.cells (toArray ((pC a).map (Value.int .i64)++sp)) 3 (0,0)):=by
 have t:∀ args w,(callFunc 266 args).run prog w = .ok (.enter 266 args) w:=enters_of func266 cm rfl;have h:∀ (n:Nat) (W:World),n<=12->Calls prog (iN.f 15) #[.int .u64 n] W fun e d=>(∃ l:Int,e = .returned (.int .i64 l))/\d = W:=fun n W u=>
  (Any.bits_Len MI n W az az).mono fun _ _ ⟨p,m⟩=>⟨⟨_,p⟩,m⟩
 have q:Holds (Value.int .i64) w g 0 a.toArray:=fun j C=>by
  rw [x7,Lib.frozen_of_heap o,Lib.cell_of_heap o];grind
 have v:=Any.slices_SortFunc_small_sorted uZ (Value.int .i64) (fun _=>rfl) nu DR 266 #[] g 0 c a.toArray w t (fun _ _ _ _ x y=>TY x y _) q (by simpa using s) h;refine v.mono fun e d ⟨p,i,n,z,A,m⟩=>?_;have k:=Dk z A;have r:i.toList.length=a.length:=by rw [k]; exact qo _
 refine ⟨p,?_,?_⟩
 ·rw [m];refine ⟨rfl,rfl,rfl,?_,fun b _ u=>?_⟩
  ·simp_all
  show (w.heap.modify g (onCells (putCells (Value.int .i64) 0 i)))[b]? = _;grind
 rw [m];show (w.heap.modify g (onCells (putCells (Value.int .i64) 0 i)))[g]? = _;rw [Array.getElem?_modify,eg rfl,o];simp [onCells];have B:i = i.toList.toArray:=rfl;rw [B,Ro r,k]
end Go.Proofs.YticbaadnibdbkaaGreat
namespace Go.Proofs.YticbaadnibdbkaaGreat
open Tryz
open Go.RowKit
abbrev R5:Code:=aaU f171
abbrev c60:Code:=aaU f258
abbrev W9:Code:=qQ R5
abbrev X0:Code:=qQ (gF R5)
abbrev X1:Code:=qQ (gF (gF R5))
abbrev X2:Code:=qQ (qQ (gF (gF (gF R5))))
abbrev pRf:Code:=V6 (gF (qQ (gF (gF (gF R5)))))
abbrev Xk:Code:=gF (gF (gF (gF R5)))
abbrev Si:Code:=ana pRf
abbrev Qy:Code:=alB pRf
abbrev iR0:Code:=qQ c60
abbrev iB:Code:=V6 (V6 (gF c60))
abbrev iR1:Code:=qQ iB
abbrev iCo:Code:=qQ (gF iB)
abbrev W4:Code:=V6 (qQ (gF (gF iB)))
abbrev iR2:Code:=qQ W4
abbrev iR3:Code:=qQ (gF W4)
abbrev GB:Code:=qQ (gF (gF W4))
abbrev Z0:Code:=gF (gF (gF W4))
abbrev iR5:Code:=gF (gF (gF iB))
def hK (s:b7) (r:List lg) (l:List ec) (v:Int):AH:=[.box 46 ([.int ((s.a8)),.int ((s.next)),.int ((s.dm)),.int ((s.ea)),.own 7,.own 8,.own 9]),.box 46 ([.int ((0)),.int ((0)),.int ((0)),.int ((0)),.em true,.em true,.em true]),.box 72 ([.em true]),.box 26 ([.int ((0))]),.box 72 ([.own 10]),.box 38 ([.fz (.nm .entry) ((l))]),.box 3 ([.int ((v))]),.row 137 (.nm .b8) ((s.b8)),.row 139 (.nm .opn) ((s.c6)),.row 172 (.nm .snap) ((s.b6)),.row 78 (.nm .nd) ((r))]
def hE (s:b7) (r:List lg):AH:=[.row 137 (.nm .b8) ((s.b8)),.row 139 (.nm .opn) ((s.c6)),.row 172 (.nm .snap) ((s.b6)),.row 78 (.nm .nd) ((r))]
def rE (s:b7) (e:Int):List n8:=[.agg [.int s.a8,.int s.next,.int s.dm,.int s.ea,.own 0,.own 1,.own 2],.c (.own 3),.c (.int e)]
def D7:j9:=[(3,one (.ptr 0 0)),(6,one (.ptr 1 0)),(7,one (.ptr 2 0)),(8,one (.ptr 3 0)),(9,one (.ptr 4 0)),(16,one (.fn 258 [] [(5,0),(6,0)]))]
def MS (L:Nat):Option TV->Prop
 | some (.one (.c (.yl a)))=>a=L
 | _=>False
def M5 (l:List ec) (k:Nat):j9:=[(1,one (.ptr 5 0)),(2,one (.ptr 6 0)),(9,one (.fz (.nm .entry) l)),(10,one (.int l.length)),(11,one (.int k))]
def Vo (c:b5) (b:Bool) (e:Int):n8:=.agg (cellsOf (.nm .command) ((c))++[.bool (.atom ((b))),.int ((e))])
def frY (l:List ec) (k:Nat) (c:b5) (b:Bool) (e:Int):j9:=(26,.one (Vo c b e)) :: M5 l k
def hT (c:b5) (b:Bool) (e:Int):AO:=.box 265 (cellsOf (.nm .command) ((c))++[.bool (.atom ((b))),.int ((e))])
def U2 (a:Nat) (q:j9 × AH):Exit->j9->AH->Prop
 | .normal,fr,K=>kj (Gp l6 a fr K q)
 | _,_,_=>False
def koY (L:Nat) (q:j9 × AH):Exit->j9->AH->Prop
 | .normal,fr,K=>MS L (l1 fr 0)/\kj (Gp l6 11 fr K q)
 | _,_,_=>False
def am6 (L:Nat) (s:b7) (r:List lg) (l:List ec) (v:Int) (k:Nat) (fr:j9) (K:AH):Prop:=
 ∃ x,l[k]? = some x/\MS L (l1 fr 0)/\MS L (l1 fr 22)/\kj (Gp l6 11 fr K (frY l k (aY x v).c (aY x v).some (aY x v).e,hK s r l v))
def amL (L:Nat) (s:b7) (r:List lg) (l:List ec) (v:Int) (k:Nat):Exit->j9->AH->Prop
 | .normal,fr,K=>wpOps l6 ga (iu 0) (lp GB) (am6 L s r l v k) 6 ((lp GB).take 5) fr K
 | _,_,_=>False
def amA (L:Nat) (s:b7) (r:List lg) (l:List ec) (v:Int) (k:Nat):Exit->j9->AH->Prop
 | .exit j,fr,K=>j=0/\l.length<=k/\MS L (l1 fr 0)/\kj (Gp l6 11 fr K (M5 l k,hK s r l v))
 | .normal,fr,K=>jH l6 ga (iu 0) 11 [] (.seq iR2 iR3) (amL L s r l v k) fr K
 | _,_,_=>False
def ahq (L:Nat) (s:b7) (r:List lg) (l:List ec) (v:Int) (k:Nat):Exit->j9->AH->Prop
 | .normal,fr,K=>jH l6 ga (iu 0) 11 [] iCo (amA L s r l v k) fr K
 | _,_,_=>False
def koD (L:Nat) (s:b7) (r:List lg) (l:List ec) (v:Int) (k:Nat) (fr:j9) (K:AH):Prop:=jH l6 ga (iu 0) 11 [] (.seq Z0 iR5) (koY L (M5 l (k+1),hK s r l v)) fr K
def koH (s:b7) (r:List lg) (l:List ec) (v:Int) (x:ec):Exit->j9->AH->Prop
 | .normal,_,K=>(aY x v).e=0/\kj (aiw l6 (hK s r l v) 11 (hK (je v s x) (r++[nU v s x]) l v) K)
 | .ret,_,K=>¬ (aY x v).e=0/\C2 l6 [] 0 f171 (rE s (aY x v).e) (hE s r) D7 K
 | _,_,_=>False
def koI (s:b7) (r:List lg):Exit->j9->AH->Prop
 | .ret,fr,K=>C2 l6 [] 0 f171 (rE s 0) (hE s r) fr K
 | _,_,_=>False
def am8 (s:b7) (l:List ec) (v:Int):lS (LH [.agg (cellsOf (.nm .eS) s),.c (.fz (.nm .entry) l),.c (.int v)]) (jH l6 ga (iu 0) 0 [] (.seq W9 (.seq X0 (.seq X1 X2))) (U2 0 (D7,hK s [] l v)) (vj 0 [.agg (cellsOf (.nm .eS) s),.c (.fz (.nm .entry) l),.c (.int v)]) [])=((fun a=>cw s (l.length*32<=140737488355328->a7 v->a7 s.a8->a7 s.next->a7 s.dm->a7 s.ea->s.a8=s.a8/\s.next=s.next/\s.dm=s.dm/\s.ea=s.ea/\a/\a/\a/\a/\a/\l=l/\v=v/\s.b8=s.b8/\s.c6=s.c6/\s.b6=s.b6 /\ @Eq (List (l5 (Sh.nm NT.nd))) [] [])) ((0:Int)=0)):=cm
def aql (L:Nat) (s:b7) (r:List lg) (l:List ec) (v:Int):jH l6 ga (iu 0) 11 [] iR0 (koY L (M5 l 0,hK s r l v)) [(0,one (.yl L)),(1,one (.ptr 5 0)),(2,one (.ptr 6 0))] (hK s r l v)=((fun a=>L=L/\l=l/\(l.length:Int)=(l.length:Int)/\(0:Int)=(↑(0:Nat):Int)/\s.a8=s.a8/\s.next=s.next/\s.dm=s.dm/\s.ea=s.ea/\a/\a/\a/\a/\a/\l=l/\v=v/\s.b8=s.b8/\s.c6=s.c6/\s.b6=s.b6/\r=r) ((0:Int)=(0:Int))):=cm
def apP (L:Nat) (s:b7) (r:List lg) (l:List ec) (v:Int) (k:Nat):jH l6 ga (iu 0) 11 [] iR1 (ahq L s r l v k) ((0,one (.yl L)) :: M5 l k) (hK s r l v)=((fun f=>(fun a=>(fun g=>((k:Int)<f->0<=(k:Int)/\(k:Int)<(l.length:Int)/\∀ (x:ec),(fun d=>l[k]? = some x->a7 x.bo->x.b.length*1<=140737488355328->bc d.c (a7 d.e->∃ x,l[k]? = some x/\L=L/\L=L/\aX d.c (aY x v).c (d.some=(aY x v).some/\d.e=(aY x v).e/\g))) (aY x v))/\(f<=(k:Int)->(0:Nat)=0/\l.length<=k/\L=L/\g)) (l=l/\f=f/\(k:Int)=(k:Int)/\s.a8=s.a8/\s.next=s.next/\s.dm=s.dm/\s.ea=s.ea/\a/\a/\a/\a/\a/\l=l/\v=v/\s.b8=s.b8/\s.c6=s.c6/\s.b6=s.b6/\r=r)) ((0:Int)=0)) (l.length:Int)):=cm
theorem al6 (L:Nat) (s:b7) (r:List lg) (l:List ec) (v:Int) (k:Nat) (c:b5) (b:Bool) (d:Int):wpOps l6 ga (iu 0) (lp GB) (koD L s r l v k) 2 ((lp GB).drop 6) ((27,one (.bool (.lit true))) :: (0,one (.yl L)) :: frY l k c b d) (hK s r l v)=((fun a=>a7 ((k:Int)+1)/\L=L/\l=l/\(l.length:Int)=(l.length:Int)/\(k:Int)+1=(↑(k+1):Int)/\s.a8=s.a8/\s.next=s.next/\s.dm=s.dm/\s.ea=s.ea/\a/\a/\a/\a/\a/\l=l/\v=v/\s.b8=s.b8/\s.c6=s.c6/\s.b6=s.b6/\r=r) ((0:Int)=0)):=cm
def aol (s:b7) (r:List lg) (l:List ec) (v:Int) (c:b5) (b:Bool) (d:Int):jH l6 ga (iu 0) 11 [] Si (U2 11 ((10,one (.ptr 11 0)) :: D7,hK s r l v++[hT c b d])) ((17,.one (Vo c b d)) :: D7) (hK s r l v)=((fun a=>s.a8=s.a8/\s.next=s.next/\s.dm=s.dm/\s.ea=s.ea/\a/\a/\a/\a/\a/\l=l/\v=v/\s.b8=s.b8/\s.c6=s.c6/\s.b6=s.b6/\r=r/\aX c c (b=b/\d=d)) ((0:Int)=0)):=cm
def apc (s:b7) (r:List lg) (l:List ec) (v:Int) (x:ec):jH l6 ga (iu 0) 12 [] Qy (koH s r l v x) ((10,one (.ptr 11 0)) :: D7) (hK s r l v++[hT (aY x v).c (aY x v).some (aY x v).e])=((fun g=>(fun a=>(fun f=>(fun h=>(fun d=>(fun i=>(fun b=>(¬h->¬h/\s.a8=s.a8/\s.next=s.next/\s.dm=s.dm/\s.ea=s.ea/\g.e=g.e/\s.b8=s.b8/\s.c6=s.c6/\s.b6=s.b6/\r=r)/\(h->(g.some=true->a7 b.a8->a7 b.next->a7 b.dm->a7 b.ea->a7 i.snd.code->a7 i.snd.n->(r.length+[i.snd].length)*16<=140737488355328/\h/\b.a8=a.a8/\b.next=a.next/\b.dm=a.dm/\b.ea=a.ea/\d/\d/\d/\d/\d/\l=l/\v=v/\b.b8=a.b8/\b.c6=a.c6/\b.b6=a.b6/\r++[i.snd]=r++[nU v s x])/\(g.some=false->(r.length+[lg.mk f f].length)*16<=140737488355328/\h/\s.a8=a.a8/\s.next=a.next/\s.dm=a.dm/\s.ea=a.ea/\d/\d/\d/\d/\d/\l=l/\v=v/\s.b8=a.b8/\s.c6=a.c6/\s.b6=a.b6/\r++[lg.mk f f]=r++[nU v s x]))) i.fst) (jm s g.c)) (f=f)) (g.e=f)) (0:Int)) (je v s x)) (aY x v)):=cm
def anO (s:b7) (r:List lg) (l:List ec) (v:Int):jH l6 ga (iu 0) 11 [] Xk (koI s r) D7 (hK s r l v)=(s.a8=s.a8/\s.next=s.next/\s.dm=s.dm/\s.ea=s.ea/\(0:Int)=0/\s.b8=s.b8/\s.c6=s.c6/\s.b6=s.b6/\r=r):=cm
def ai0:ck:=ga
def Ig:ay prog (av l6) ai0:=sx
variable {n k0:Nat} {K:Exit->j9->AH->Prop} {F:Fr} {w0 w:World} {H:AH} {Q:Exit->Act->World->Prop} {G:Gl} {ρ0:List RE}
def JM {c:Code} {fr:j9} (a:G.shp=av l6) (b:ρ0.length<=k0) (d:e_ n c=true) (h:jH l6 ga (iu 0) k0 [] c K fr H)
  (f:St G (iu 0) ρ0 w0 fr H F w) (hK:∀ e fr H F w,K e fr H->St G (iu 0) ρ0 w0 fr H F w->WX Q n e F w):WC prog Q n c F w:=
 zN (by rw [a]; exact ek) (by rw [a]; exact sx) (pw ek sx kN G n (iu 0) ρ0 w0 a (fun i h=>by simp [iu,Nat.ble] at h)) b c Q K fr H F w d h f hK
def akp {m:Nat} {l a:List Oper} {K:j9->AH->Prop} {fr:j9} (b:G.shp=av l6) (c:lz n a=true) (h:wpOps l6 ga (iu 0) l K m a fr H)
  (d:St G (iu 0) ρ0 w0 fr H F w) (hK:∀ fr H F w,K fr H->St G (iu 0) ρ0 w0 fr H F w->WX Q n .normal F w):WO prog Q n l a F w:=
 na (by rw [b]; exact ek) (by rw [b]; exact sx) hK m a fr H F w c h d
abbrev yV (L:Nat):Value:=.func (.yield L) #[] #[]
variable {t:Nat} {ρ:List RE}
theorem ng {c:Cx} {fr:j9} {L:Nat} (b:o9 c ρ fr F) (h:MS L (l1 fr t)):look F t=some (yV L):=by
 unfold MS at h;split at h
 ·rename_i a d;subst h;obtain ⟨v,e,f⟩:=fq b d;rw [e,f]
 grind
theorem zf {a:Fr} {v:Value} (h:look F t=some v) (k:∀ i u,look a i=some u->look F i=some u):∀ i u,look ((t,v) :: a) i=some u->look F i=some u:=fun i u b=>by
 rw [bg] at b;grind
def o9.DA {c:Cx} {fr:j9} {a:n8} {v:Value} (h:dJ c ρ a v) (k:o9 c ρ fr F):o9 c ρ ((t,.one a) :: fr) ((t,v) :: F):=.cons ⟨rfl,h⟩ k
variable {b:Nat}
def oh.kK (h:oh G ρ H w) (a:G.Z b):¬ live ρ b:=fun ⟨i,r,c,d⟩=>(h.sr i r b c d).2.2 a
def fM {o:Obj} (h:w.heap[b]? = some o):b<w.heap.size:=(Q4.1 h).1
structure PX where
 G:Gl
 D:Nat
 L:Nat
 fn:Nat
 tm:Array Value
 FP:Fr
 s:b7
 l:List ec
 v:Int
 hD:G.B0<=D
 hL:G.B0<=L
def PX.g (X:PX):Gl:=GZ X.G X.D X.L
def PX.rc (X:PX) (st:LoopState) (a:Option Code):Loop:={ state:=st,pending:=a,fn:=X.fn,tmps:=X.tm,params:=#[17],assign:=Si,body:=Qy,defers:=X.D }
def PX.hk (X:PX) (k:Nat):AH:=hK (pS X.v X.s (X.l.take k)) (pR X.v X.s (X.l.take k)) X.l X.v
abbrev PX.Z (X:PX):Nat->Prop:=fun b=>b=X.D\/b=X.L
def PX.hB (X:PX):∀ b,X.Z b->X.g.B0<=b:=fun b a=>by
 rcases a with rfl | rfl
 ·exact X.hD
 exact X.hL
structure J9 (X:PX) (k:Nat) (ρ:List RE) (W:World):Prop where
 C0:oh X.g ρ (X.hk k) W
 fr:o9 (cx X.g ρ W) ρ D7 X.FP
 ok:u4 X.v (X.l.take k)
 loop:W.heap[X.L]? = some (.loop (X.rc .ready none))
 P1:W.heap[X.D]? = some (.deferred (some []))
structure L2 (X:PX) (ρ:List RE) (W:World):Prop where
 C0:∃ H,oh X.g ρ H W/\C2 l6 [] 0 f171 (rE (u7 X.v X.s X.l) (pE X.v X.l)) (hE (u7 X.v X.s X.l) (y7 X.v X.s X.l)) D7 H
 fr:o9 (cx X.g ρ W) ρ D7 X.FP
 loop:W.heap[X.L]? = some (.loop (X.rc .done (some .ret)))
 P1:W.heap[X.D]? = some (.deferred (some []))
def Fx:JD D7=true:=by decide
section
variable {X:PX} {k:Nat} {ρ ρ':List RE} {W W':World}
def J9.step {e:Lv} (h:J9 X k ρ W) (a:s8 e ρ W ρ' W') (f:oh X.g ρ' (X.hk k) W'):J9 X k ρ' W' /\ A0 X.Z ρ W ρ' W':=by
 have d:A0 X.Z ρ W ρ' W':=.zQ a.ext a.bx;have c:=d.le (G:=X.g) (fun b i=>.inr i) h.C0.lo X.hB;exact ⟨⟨f,h.fr.fC Fx c a.bx,h.ok,(a.ext.x4 _ (fM h.loop) (h.C0.kK (.inr (.inr rfl)))).2.trans h.loop,(a.ext.x4 _ (fM h.P1) (h.C0.kK (.inr (.inl rfl)))).2.trans h.P1⟩,d⟩
section
variable {s:b7} {r:List lg} {l:List ec} {v:Int} {x:ec}
def ajf (h:(aY x v).some=true):je v s x=(jm s (aY x v).c).1:=by unfold je; rw [eg h]
def ahR (h:(aY x v).some=false):je v s x=s:=by unfold je; rw [dc (by rw [h]; decide)]
def ai5 (h:(aY x v).some=true):nU v s x=(jm s (aY x v).c).2:=by unfold nU; rw [eg h]
def aiu (h:(aY x v).some=false):nU v s x=⟨0,0⟩:=by unfold nU; rw [dc (by rw [h]; decide)]
theorem adn (a:(r.length+1)*16<=140737488355328):jH l6 ga (iu 0) 12 [] Qy (koH s r l v x) ((10,one (.ptr 11 0)) :: D7) (hK s r l v++[hT (aY x v).c (aY x v).some (aY x v).e]):=by
 rw [apc];repeat' (first | with_reducible apply aT | intro)
 all_goals first | with_reducible rfl | with_reducible assumption | contradiction | (simp; omega) | (rw [ajf ab]; done) | (rw [ahR ab]; done) | (rw [ai5 ab]; done) | (rw [aiu ab]; done)
theorem ab9 {c:b5} {b:Bool} {er:Int}:jH l6 ga (iu 0) 11 [] Si (U2 11 ((10,one (.ptr 11 0)) :: D7,hK s r l v++[hT c b er])) ((17,.one (Vo c b er)) :: D7) (hK s r l v):=by
 rw [aol];grind
end
variable {u:Value}
def La (hG:X.G.shp=av l6) (hsz:X.l.length*32<=140737488355328) (hM:M 40 X.FP { tmps:=X.tm,defers:=[] }) (S:X.D≠X.L) (h:J9 X k ρ W) {x:ec} (Y:X.l[k]? = some x) 
  (hu:dJ (cx X.g ρ W) ρ (Vo (aY x X.v).c (aY x X.v).some (aY x X.v).e) u) (ro:Option Nat) (m:Nat) :
  RoundIn (iz ro) m prog X.L X.fn (X.tm.setIfInBounds 17 u) Si Qy W fun e w'=>∃ b,e = .returned b/\((b = .bool true/\∃ ρ',J9 X (k+1) ρ' w' /\ A0 X.Z ρ W ρ' w')\/(b = .bool false/\∃ ρ',L2 X ρ' w' /\ A0 X.Z ρ W ρ' w')):=by
 refine Tq ?_;have A:X.g.shp=av l6:=hG;have hM1:M 40 ((17,u) :: X.FP) { tmps:=X.tm.setIfInBounds 17 u,defers:=[] }:=hM.put (d:=17) (v:=u) am;have q:ρ.length=11:=h.C0.obj.length.symm;have hkl:k<X.l.length:=(r3.1 Y).1;refine JM A (F6 q) (c:=Si) (n:=40) cm (ab9 (s:=pS X.v X.s (X.l.take k)) (r:=pR X.v X.s (X.l.take k)) (l:=X.l) (v:=X.v) (c:=(aY x X.v).c) (b:=(aY x X.v).some) (er:=(aY x X.v).e)) (⟨ρ,s8.refl _ _ _,h.C0,o9.DA hu h.fr⟩) (fun e fr H F N hK hs=>?_) _ hM1;cases e with
 | normal=>
  obtain ⟨F1,⟨f,B,t,hf1⟩,hlk⟩:=gV (P:=prog) (by rw [A]; exact ek) (F6 q) hs hK;intro a ha;have w:N.heap[X.L]? = some (.loop (X.rc .ready none)):=(B.ext.x4 _ (fM h.loop) (h.C0.kK (.inr (.inr rfl)))).2.trans h.loop;have hd1:N.heap[X.D]? = some (.deferred (some [])):=(B.ext.x4 _ (fM h.P1) (h.C0.kK (.inr (.inl rfl)))).2.trans h.P1;refine ⟨_,run_beginRound (P:=prog) w rfl,?_,ha.1⟩;have z:A0 X.Z ρ W f (N.putObj X.L (.loop { X.rc .ready none with state:=.busy })):=(A0.zQ B.ext B.bx).trans (.put _ (.inr rfl));have j:oh X.g f (X.hk k++[hT (aY x X.v).c (aY x X.v).some (aY x X.v).e]) (N.putObj X.L (.loop { X.rc .ready none with state:=.busy })):=t.Lm _ (.inr (.inr rfl)) X.hL;have C:(N.putObj X.L (.loop { X.rc .ready none with state:=.busy })).heap[X.L]? = some (.loop { X.rc .ready none with state:=.busy }):=World.putObj_heap_same (fM w);have I:(N.putObj X.L (.loop { X.rc .ready none with state:=.busy })).heap[X.D]? = some (.deferred (some [])):=(L4 S).trans hd1;have T:o9 (cx X.g f (N.putObj X.L (.loop { X.rc .ready none with state:=.busy }))) f ((10,one (.ptr 11 0)) :: D7) F1:=hf1.c8 ((A0.put (Z:=X.Z) _ (.inr rfl)).le (fun b O=>.inr O) t.lo X.hB) (lu.refl _);revert z j C I T;generalize N.putObj X.L (.loop { X.rc .ready none with state:=.busy })=w2;intro z j C I T;have U:f.length=12:=j.obj.length.symm;refine JM A (F6 U) (c:=Qy) (n:=40) cm (adn (s:=pS X.v X.s (X.l.take k)) (r:=pR X.v X.s (X.l.take k)) (l:=X.l) (v:=X.v) (x:=x) (by rw [zI,s9]; omega)) (⟨f,s8.refl _ _ _,j,T⟩) (fun e fr H F K hK hs=>?_) _ (ha.sub hlk);obtain ⟨Q,p,hr3,_⟩:=hs;have J:K.heap[X.L]? = _:=(p.ext.x4 _ (fM C) (j.kK (.inr (.inr rfl)))).2.trans C;have hd3:K.heap[X.D]? = _:=(p.ext.x4 _ (fM I) (j.kK (.inr (.inl rfl)))).2.trans I;cases e with
  | normal=>
   obtain ⟨he,o⟩:=hK;obtain ⟨ρ',hr',y,hb'⟩:=Tz (P:=prog) (ρ0:=f) (w0:=w2) (by rw [A]; exact ek) hr3 p.ext p.bx (fun i g hi hg=>by
    have hn:=abq (b:=false) j hg;have:i=0\/i=1\/i=2\/i=3\/i=4\/i=5\/i=6\/i=7\/i=8\/i=9\/i=10:=by omega
    rcases this with rfl | rfl | rfl | rfl | rfl | rfl | rfl | rfl | rfl | rfl | rfl <;> exact hn) o
   refine fun _ _=>⟨_,_,run_endRound (P:=prog) none J,_,rfl,.inl ⟨rfl,ρ',?_⟩⟩;have V:A0 X.Z ρ W ρ' (K.putObj X.L (.loop (X.rc .ready none))):=by
    have A2:A0 X.Z ρ W ρ' K:=⟨y.os.trans z.os,y.tape.trans z.tape,y.output.trans z.output,z7 z.size y.size,fun b O hl=>by
     obtain ⟨h1,h2⟩:=z.x4 b O hl;obtain ⟨h3,h4⟩:=y.x4 b (w9 O z.size) h1;exact ⟨h3,fun hz=>h4.trans (h2 hz)⟩,fun i g hg=>hb' i g (by rw [<- q]; exact (r3.1 hg).1) (z.bx i g hg)⟩
    exact A2.trans (.put _ (.inr rfl))
   refine ⟨⟨?_,h.fr.fC Fx (V.le (fun b O=>.inr O) h.C0.lo X.hB) V.bx,yO h.ok Y he,World.putObj_heap_same (fM J),(L4 S).trans hd3⟩,V⟩;have:=hr'.Lm (l:=X.L) (.loop (X.rc .ready none)) (.inr (.inr rfl)) X.hL;rw [HJ Y,JG Y] at this;exact this
  | ret=>
   obtain ⟨he,o⟩:=hK;refine fun _ _=>⟨_,_,run_endRound (P:=prog) (some .ret) J,_,rfl,.inr ⟨rfl,Q,?_⟩⟩;have V:A0 X.Z ρ W Q (K.putObj X.L (.loop (X.rc .done (some .ret)))):=(z.trans (.zQ p.ext p.bx)).trans (.put _ (.inr rfl));obtain ⟨p1,p2,p3⟩:=sP (s:=X.s) h.ok Y he;rw [p1,p2,p3] at o;exact ⟨⟨⟨_,hr3.Lm _ (.inr (.inr rfl)) X.hL,o⟩,h.fr.fC Fx (V.le (fun b O=>.inr O) h.C0.lo X.hB) V.bx,World.putObj_heap_same (fM J),(L4 S).trans hd3⟩,V⟩
  | _=>exact hK.elim
 | _=>exact hK.elim
def afV:f258.body=some (.seq iR0 (.block 0 (.loop (.seq iR1 (.seq iCo (.seq (.block 1 (.seq iR2 (.seq iR3 (.seq GB Z0)))) iR5)))))):=cm
def adP:GB = .region 4 (lp GB).toArray false:=cm
def Yb:Z0 = .cond (.tmp 28) .ret .skip:=cm
def M9 (k:Nat):Oper:=(lp GB).getD k ⟨none,.move (.tmp 0),0,"",#[],none⟩
def aqb:Array TypeId:=match (M9 5).op with
 | .call c=>c.argTypes
 | _=>#[]
def ty6:TypeId:=match (M9 6).op with
 | .unOp _ t _=>t
 | _=>0
def apH:lp GB=(lp GB).take 5++(⟨some 27,.call ⟨.value (.tmp 22),#[.tmp 26],aqb⟩,(M9 5).type,(M9 5).pos,(M9 5).after,none⟩ :: (lp GB).drop 6):=cm
def aoE:(lp GB).drop 6=[⟨some 28,.unOp .not ty6 (.tmp 27),(M9 6).type,(M9 6).pos,(M9 6).after,none⟩]:=cm
variable {P:Program}
def Gx {L:Nat} {c:Loop} {e:Array TypeId} {m:TypeId} (f:look F 22=some (yV L)) (h:look F 26=some u) (o:w.heap[L]? = some (.loop c)) (j:c.params = #[17]) (a:Act) (d:Option Tmp) (i:String) (p:Array Edge) (g:Option (Nat × Bool)) (l:M n F a) :
  (execOp a.eval ⟨d,.call ⟨.value (.tmp 22),#[.tmp 26],e⟩,m,i,p,g⟩).run P w = .ok (.round L c.fn (c.tmps.setIfInBounds 17 u) c.assign c.body) w:=by
 have q:a.eval (.tmp 22)=yV L:=l.ev (x:=.tmp 22) f;have r:a.eval (.tmp 26)=u:=l.ev (x:=.tmp 26) h;have s:=run_yield (P:=P) (args:=#[u]) o (by rw [j]; rfl);simp [execOp,resolve,q,r,Deferred.ofValue,invoke,s,j]
theorem Zu {a:Fr} {v:Value} (k:∀ i u,look a i=some u->look F i=some u):∀ i u,look ((t,v) :: a) i=some u->look ((t,v) :: F) i=some u:=fun i u c=>by
 rw [bg] at c ⊢;grind
section
variable {s:b7} {r:List lg} {l:List ec} {v:Int} {L:Nat}
theorem ae8:jH l6 ga (iu 0) 11 [] iR0 (koY L (M5 l 0,hK s r l v)) [(0,one (.yl L)),(1,one (.ptr 5 0)),(2,one (.ptr 6 0))] (hK s r l v):=by
 rw [aql];grind
theorem afo:jH l6 ga (iu 0) 11 [] iR1 (ahq L s r l v k) ((0,one (.yl L)) :: M5 l k) (hK s r l v):=by
 rw [apP];grind
theorem afu {c:b5} {b:Bool} {a:Int} (d:k<4611686018427387904):wpOps l6 ga (iu 0) (lp GB) (koD L s r l v k) 2 ((lp GB).drop 6) ((27,one (.bool (.lit true))) :: (0,one (.yl L)) :: frY l k c b a) (hK s r l v):=by grind [al6,cY]
end
def aeY (y:Code) (k0:Nat) (K:Exit->j9->AH->Prop):Exit->j9->AH->Prop
 | .normal,fr,H=>jH l6 ga (iu 0) k0 [] y K fr H
 | e,fr,H=>K e fr H
def oW {x y:Code} {fr:j9} (h:jH l6 ga (iu 0) k0 [] (.seq x y) K fr H):jH l6 ga (iu 0) k0 [] x (aeY y k0 K) fr H:=by
 have e:aeY y k0 K=fun e fr H=>(match e with | .normal=>jH l6 ga (iu 0) k0 [] y K fr H | e=>K e fr H):=by funext e fr H; cases e <;> rfl
 rw [e]; exact h
def PX.Out (X:PX) (ρ:List RE) (W:World) (_:Value) (a:World):Prop:=∃ ρ',A0 X.Z ρ W ρ' a /\ ((∃ k,X.l.length<=k/\J9 X k ρ' a)\/L2 X ρ' a)
def WO.of_eq {l r a:List Oper} (e:r=a) (h:WO P Q n l a F w):WO P Q n l r F w:=e ▸ h
def QR (hG:X.G.shp=av l6) (hsz:X.l.length*32<=140737488355328) (hM:M 40 X.FP { tmps:=X.tm,defers:=[] }) (hDL:X.D≠X.L) (h:J9 X 0 ρ W) {p8 p9:Value} (h8:eQ ρ (5,0) p8) (h9:eQ ρ (6,0) p9) :
  kI prog 258 #[yV X.L,p8,p9] W (X.Out ρ W):=by
 have o:X.g.shp=av l6:=hG;have S:ρ.length=11:=h.C0.obj.length.symm;refine kI.enter (args:=[yV X.L,p8,p9]) (n:=30) func258 afV rfl rfl rfl ?_;refine WC.seq (JM o (F6 S) cm ae8 (⟨ρ,s8.refl _ _ _,h.C0,o9.DA (a:=.c (.yl X.L)) rfl (o9.DA (a:=.c (.ptr 5 0)) h8 (o9.DA (a:=.c (.ptr 6 0)) h9 .nil))⟩) fun e fr H F w hK q=>?_);cases e with
 | normal=>
  obtain ⟨hy,T⟩:=hK;have y:look F 0=some (yV X.L):=by obtain ⟨_,_,_,U⟩:=q; exact ng U hy
  obtain ⟨F1,⟨ρ1,hs1,hr1,hf1⟩,hlk⟩:=gV (P:=prog) (by rw [o]; exact ek) (F6 S) q T;refine WX.next (WC.block fun a z=>?_)
  refine uB (fun a w k=>∃ ρ' F',M 30 F' a/\J9 X k ρ' w/\o9 (cx X.g ρ' w) ρ' ((0,one (.yl X.L)) :: M5 X.l k) F' /\ k<=X.l.length/\A0 X.Z ρ W ρ' w) (fun k=>X.l.length - k) 0 ⟨ρ1,(0,yV X.L) :: F1,z.sub (zf y hlk),(h.step hs1 hr1).1,o9.DA (a:=.c (.yl X.L)) rfl hf1,F8 _,(h.step hs1 hr1).2⟩ fun k a w hD=>?_;obtain ⟨ρ',F',hM',s,hfr,hk,A⟩:=hD;have p:ρ'.length=11:=s.C0.obj.length.symm;refine (WC.seq (JM o (F6 p) cm (afo (L:=X.L) (k:=k)) (⟨ρ',s8.refl _ _ _,s.C0,hfr⟩) fun e fr H F w2 hK q=>?_)) a hM';cases e with
  | normal=>
   refine WX.next (WC.seq (JM o (F6 p) cm hK q fun e fr H F w2 hK q=>?_))
   cases e with
   | exit j=>
    obtain ⟨rfl,hle,hy,T⟩:=hK;obtain ⟨F2,⟨ρ2,V,I,Y⟩,B⟩:=gV (P:=prog) (by rw [o]; exact ek) (F6 p) q T;obtain ⟨J,N⟩:=s.step V I;have K:X.Out ρ W (.tuple #[]) w2:=⟨ρ2,A.trans N,.inl ⟨k,hle,J⟩⟩;have hh:=WX.afZ (id:=0) (WX.afE (WX.aiV (n:=30) (fr:=F) (P:=prog) (fn:=f258) (φ:=X.Out ρ W) rfl K));exact fun a z=>hh a z
   | normal=>
    refine WX.next (WC.seq (WC.block (WC.seq (JM o (F6 p) cm (oW hK) q fun e fr H F w2 hK q=>?_))))
    cases e with
    | normal=>
     refine WX.next (WC.seq (JM o (F6 p) cm hK q fun e fr H F w2 hK q=>?_))
     cases e with
     | normal=>
      refine WX.next (WC.seq ?_)
      rw [adP];refine WC.region ?_;refine WO.of_eq apH (WO.p4 (akp o cm hK q fun fr H F w3 hK q=>?_));intro a z;obtain ⟨x,hx,hy,hy22,T⟩:=hK;have y:look F 0=some (yV X.L):=by obtain ⟨_,_,_,U⟩:=q; exact ng U hy
      have h22:look F 22=some (yV X.L):=by obtain ⟨_,_,_,U⟩:=q; exact ng U hy22
      obtain ⟨F2,⟨ρ2,V,I,Y⟩,B⟩:=gV (P:=prog) (by rw [o]; exact ek) (F6 p) q T;obtain ⟨J,N⟩:=s.step V I;obtain ⟨u,hu26,hu⟩:=fq (i:=26) (tv:=.one (Vo (aY x X.v).c (aY x X.v).some (aY x X.v).e)) Y rfl;have hkl:k<X.l.length:=(r3.1 hx).1;refine WO.yield (L:=X.L) (f:=X.fn) (tmps:=X.tm.setIfInBounds 17 u) (assign:=Si) (body:=Qy) (fun a d pos af g z=>Gx h22 (B _ _ hu26) J.loop rfl a d pos af g z) rfl (fun ro m=>La hG hsz hM hDL J hx hu ro m) (fun b w4 hb=>?_) a z;rcases hb with ⟨rfl,O,Q,C⟩ | ⟨rfl,O,hst4,C⟩
      ·intro a z;have hf4:=o9.DA (t:=0) (a:=.c (.yl X.L)) (v:=yV X.L) rfl (Y.fC rfl (C.le (fun b hb=>.inr hb) I.lo X.hB) C.bx);have r:O.length=11:=Q.C0.obj.length.symm;refine (akp o cm (afu (L:=X.L) (k:=k) az) (⟨O,s8.refl _ _ _,Q.C0,o9.DA (t:=27) (a:=.c (.bool (.lit true))) (Pd.bool (e:=.lit true)) hf4⟩) fun fr H F w5 hK q=>?_) a (z.sub (Zu (zf y B)));refine WX.next (JM o (F6 r) cm (oW hK) q fun e fr H F w6 hK q=>?_)
       cases e with
       | normal=>
        refine WX.KU (WX.next (JM o (F6 r) cm hK q fun e fr H F w7 hK q=>?_));cases e with
        | normal=>
         obtain ⟨hy,T⟩:=hK;have y:look F 0=some (yV X.L):=by obtain ⟨_,_,_,U⟩:=q; exact ng U hy
         obtain ⟨F7,⟨ρ7,hs7,hr7,hf7⟩,hlk7⟩:=gV (P:=prog) (by rw [o]; exact ek) (F6 r) q T;obtain ⟨hm7,ha7⟩:=Q.step hs7 hr7;exact fun a z=>⟨k+1,⟨ρ7,(0,yV X.L) :: F7,z.sub (zf y hlk7),hm7,o9.DA (a:=.c (.yl X.L)) rfl hf7,hkl,((A.trans N).trans C).trans ha7⟩,az⟩
        | _=>exact hK.elim
       | _=>exact hK.elim
      have K:X.Out ρ W (.tuple #[]) w4:=⟨O,(A.trans N).trans C,.inr hst4⟩;refine WO.of_eq aoE (WO.v (R.not (b:=false) rfl) rfl (WO.nil (WX.next ?_)));rw [Yb];exact WC.IG rfl (WC.ret (WX.aiV (P:=prog) (fn:=f258) (φ:=X.Out ρ W) rfl K))
     | _=>exact hK.elim
    | _=>exact hK.elim
   | _=>exact hK.elim
  | _=>exact hK.elim
 | _=>exact hK.elim
end
def afB:f171.body=some (.seq W9 (.seq X0 (.seq X1 (.seq (.seq X2 (.block 0 (.rangeFunc (.tmp 16) #[17] Si Qy))) Xk)))):=cm
def afA {args:List Value} (e:args.length<=n):M n (xL 0 args) { tmps:=args.toArray++Array.replicate (n - args.toArray.size) undef,defers:=[] }:=by
 refine ⟨rfl,?_,fun i v c=>?_⟩
 ·simp; omega
 rw [tn] at c;obtain ⟨_,a⟩:=tZ args 0 i v c;rw [O5] at a;have d:i<args.length:=(r3.1 a).1;have f:args[i]=v:=by rw [p6 d] at a; exact B1 a
 simp [Array.getD,d,f];omega
def JX (G:Gl) (w0:World) (s:b7) (l:List ec) (v:Int) (u:Value) (c:World):Prop:=
 ∃ d,u=BW d/\∃ a,oh G a (hE (u7 v s l) (y7 v s l)) c /\ u1 [] w0 a c /\ hQ (dJ (cx G a c) a) (rE (u7 v s l) (pE v l)) d/\Kp [] w0 c
section
variable {X:PX} {ρ1 ρ':List RE} {w0 W1 w4:World} {H:AH} {a:Act}
def Rn {fr:j9} (O:X.G.shp=av l6) (hz:∀ x,X.G.Z x->x<w0.heap.size) (Q:w0.heap.size<=X.D) (T:X.D<X.L) (S:oh X.g ρ' H w4) (U:o9 (cx X.g ρ' w4) ρ' fr F) (V:M 40 F a)
  (c:C2 l6 [] 0 f171 (rE (u7 X.v X.s X.l) (pE X.v X.l)) (hE (u7 X.v X.s X.l) (y7 X.v X.s X.l)) fr H) (W:w4.heap[X.D]? = some (.deferred (some []))) (hE:u1 [] w0 ρ1 W1) (j:A0 X.Z ρ1 W1 ρ' w4) :
  ∃ y,(Instr.takeDeferred X.D).run prog w4 = .ok [] y /\ ∃ u,(results f171 a.tmps).run prog y = .ok u y /\ JX X.G w0 X.s X.l X.v u y:=by
 refine ⟨_,run_takeDeferred (P:=prog) W,?_⟩;have z:=S.Lm (l:=X.D) (.deferred none) (.inr (.inl rfl)) X.hD;have k:(w4.putObj X.D (.deferred none)).heap.size=w4.heap.size:=by simp
 have m:w0.heap.size<=w4.heap.size:=z7 hE.size j.size;obtain ⟨e,A⟩:=z.U3 (fun x Y=>w9 (hz x Y) (by rw [k]; exact m));have o:(cx X.g ρ' w4).le (cx X.G ρ' (w4.putObj X.D (.deferred none))):=((A0.put (Z:=X.Z) (ρ:=ρ') (w:=w4) (.deferred none) (.inl rfl)).le (G:=X.g) (fun b f=>.inr f) S.lo X.hB).trans A;have B:=U.c8 o (lu.refl _);have d:u1 [] w0 ρ' (w4.putObj X.D (.deferred none)):=⟨j.os.trans hE.os,j.tape.trans hE.tape,j.output.trans hE.output,by rw [k]; exact m,fun b f C=>by
  obtain ⟨I,J⟩:=hE.x4 b f C;obtain ⟨n,t⟩:=j.x4 b (w9 f hE.size) I;have N:b≠X.D:=by omega
  exact ⟨n,(L4 N).trans ((t (fun hz=>by rcases hz with hz | hz <;> omega)).trans J)⟩⟩
 unfold C2 aex at c;split at c
 ·rename_i l C;obtain ⟨K,I,J⟩:=lU (by rw [O]; exact ek) e B V C;replace c:=fa.1 c;refine ⟨_,J,K,rfl,_,pn (P:=prog) (by rw [O]; exact ek) e rfl (cg.1 fun p q=>c p (B9 _ (B9 _ q))) fun p q=>c p (C6 _ q),om d,o_ e rfl I fun p q=>c p (B9 _ (C6 _ q)),?_⟩;exact ⟨d.os,d.tape,d.output,d.size,fun b f _=>(d.x4 b f (fun ⟨i,r,h,_⟩=>by simp at h)).2⟩
 exact (show False from c).elim
end
variable {l:List ec}
theorem acW {s:b7} {r:List lg} {v:Int}:jH l6 ga (iu 0) 11 [] Xk (koI s r) D7 (hK s r l v):=by
 rw [anO];grind
theorem Wq.go {l:List Prop} {R:Prop} (k:∀ p ∈ l,p) (h:Wq (lS l R)):Wq R:=⟨fi.1 h.h k⟩
def Wq.seq {x y:Code} {k0:Nat} {K:Exit->j9->AH->Prop} {fr:j9} {H:AH} (h:Wq (jH l6 ga (iu 0) k0 [] (.seq x y) K fr H)):Wq (jH l6 ga (iu 0) k0 [] x (aeY y k0 K) fr H):=⟨oW h.h⟩
def apI {c:Code} {fr:j9} (a:G.shp=av l6) (d:ρ0.length<=k0) (f:e_ n c=true) (h:Wq (jH l6 ga (iu 0) k0 [] c K fr H))
  (g:St G (iu 0) ρ0 w0 fr H F w) (hK:∀ e fr H F w,K e fr H->St G (iu 0) ρ0 w0 fr H F w->WX Q n e F w):WC prog Q n c F w:=JM a d f h.h g hK
theorem aeu {s:b7} {v:Int}:Wq (lS (LH [.agg (cellsOf (.nm .eS) s),.c (.fz (.nm .entry) l),.c (.int v)]) (jH l6 ga (iu 0) 0 [] (.seq W9 (.seq X0 (.seq X1 X2))) (U2 0 (D7,hK s [] l v)) (vj 0 [.agg (cellsOf (.nm .eS) s),.c (.fz (.nm .entry) l),.c (.int v)]) [])):=by
 refine ⟨?_⟩;rw [am8];grind
theorem adQ {s:b7} {v:Int} (h:∀ p ∈ LH [.agg (cellsOf (.nm .eS) s),.c (.fz (.nm .entry) l),.c (.int v)],p):Wq (jH l6 ga (iu 0) 0 [] (.seq W9 (.seq X0 (.seq X1 X2))) (U2 0 (D7,hK s [] l v)) (vj 0 [.agg (cellsOf (.nm .eS) s),.c (.fz (.nm .entry) l),.c (.int v)]) []):=by grind [aeu,Wq.go]
theorem NC {vs:List Value} {s:b7} {v:Int} (hG:G.shp=av l6) (hR:oh G ρ [] w) (V:hQ (dJ (cx G ρ w) ρ) [.agg (cellsOf (.nm .eS) s),.c (.fz (.nm .entry) l),.c (.int v)] vs) :
  kI prog 171 vs.toArray w (JX G w s l v):=by
 have hok:=Yh.qp V;have hsz:l.length*32<=140737488355328:=by
  have:l.length*Sh.bytes (.nm .entry)<=140737488355328:=hok _ (by simp [LH,n8.ok,AV.ok]);exact this
 have hρ:ρ=[]:=B7 hR.obj.length.symm;subst hρ;have hl3:vs.length=3:=V.length.symm;refine (callsIn_wide (n:=0)).1 (callsIn_of_wp_marks (F:=iz none) (n:=0) func171 afB trivial ?_);have hM0:=afA (n:=40) (args:=vs) az;have h0:([]:List RE).length<=0:=sh 0;refine wpIn_seq (lB.R9 rfl ((apI (n:=40) hG h0 cm (Wq.seq (adQ hok)) (⟨[],s8.refl _ _ _,hR,oQ V⟩) fun e fr H F d hK J=>?_) _ hM0));cases e with
 | normal=>
  intro a q;refine wpIn_seq (lB.R9 q.1 ((JM (n:=40) hG h0 cm (oW hK) J fun e fr H F d hK J=>?_) _ q));cases e with
  | normal=>
   intro a q;refine wpIn_seq (lB.R9 q.1 ((JM (n:=40) hG h0 cm (oW hK) J fun e fr H F d hK J=>?_) _ q));cases e with
   | normal=>
    intro a q;refine wpIn_seq (wpIn_seq (lB.R9 q.1 ((JM (n:=40) hG h0 cm hK J fun e fr H F d hK J=>?_) _ q)));cases e with
    | normal=>
     obtain ⟨F1,⟨o,hs1,W,hf1⟩,hlk⟩:=gV (P:=prog) (by rw [hG]; exact ek) h0 J hK;intro a ha0;have q:=ha0.sub hlk;refine wpIn_block (wpIn_rangeFunc fun fn hfn=>?_);have hae:a={ tmps:=a.tmps,defers:=[] }:=by rw [<- q.1]
     obtain ⟨vg,hg1,hg2⟩:=fq (i:=16) (tv:=one (.fn 258 [] [(5,0),(6,0)])) hf1 rfl;obtain ⟨bs,us,Y,t,rfl⟩:=hg2;cases Y;cases t with | cons h8 t=>
     cases t with | cons h9 t=>
     cases t;rename_i p8 p9;have hg:a.eval (.tmp 16) = .func (.func 258) #[] #[p8,p9]:=q.ev (x:=.tmp 16) hg1;obtain ⟨X,A⟩:∃ X:PX,X=⟨G,d.heap.size,d.heap.size+1,fn,a.tmps,F1,s,l,v,W.b0,Nat.le_succ_of_le W.b0⟩:=⟨_,rfl⟩;have p:X.D=d.heap.size:=by rw [A]
     have B:X.L=d.heap.size+1:=by rw [A]
     obtain ⟨hre,hle,hk⟩:=W.enter (.deferred (some [])) (.loop (X.rc .ready none));have hsz2:((d.alloc (.deferred (some []))).alloc (.loop (X.rc .ready none))).heap.size=d.heap.size+1+1:=by simp
     have hmid:J9 X 0 o ((d.alloc (.deferred (some []))).alloc (.loop (X.rc .ready none))):=by
      refine ⟨?_,?_,fun x hx=>by simp at hx,?_,?_⟩
      ·have:oh (GZ G d.heap.size (d.heap.size+1)) o (Go.Proofs.YticbaadnibdbkaaGreat.hK s [] l v) ((d.alloc (.deferred (some []))).alloc (.loop (X.rc .ready none))):=hre;rw [A] at this ⊢; exact this
      ·have:=hf1.c8 hle (lu.refl _);rw [A] at this ⊢; exact this
      ·grind [World.alloc_heap_new,World.size_alloc]
      rw [p];exact (Below.heap_alloc _ _ _ aa).trans (World.alloc_heap_new d _)
     have K:X.G.shp=av l6:=by rw [A]; exact hG
     have hGgX:X.g.shp=av l6:=K;have hlX:X.l=l:=by rw [A]
     have hMX:M 40 X.FP { tmps:=X.tm,defers:=[] }:=by rw [A]; rw [hae] at q; exact q
     have hMa:M 40 X.FP a:=by rw [A]; exact q
     have h8':eQ o (5,0) p8:=h8;have h9':eQ o (6,0) p9:=h9;have hit:=QR K (by rw [hlX]; exact hsz) hMX (by rw [p,B]; omega) hmid h8' h9';have hE1:u1 [] w o ((d.alloc (.deferred (some []))).alloc (.loop (X.rc .ready none))):=hs1.ext.trans (u1.kp hk);have T:∀ {N:List RE} {U:World} {H:AH} {b:Act} {fr:j9} {F:Fr},oh X.g N H U->o9 (cx X.g N U) N fr F->M 40 F b->C2 l6 [] 0 f171 (rE (u7 X.v X.s X.l) (pE X.v X.l)) (hE (u7 X.v X.s X.l) (y7 X.v X.s X.l)) fr H->U.heap[X.D]? = some (.deferred (some [])) ->
       A0 X.Z o ((d.alloc (.deferred (some []))).alloc (.loop (X.rc .ready none))) N U->bodyPostM (iz none) 0 prog f171 (fun e w'=>∃ u,e = .returned u/\JX G w s l v u w') .ret (jy b [{ target:=.collected X.D,args:=#[] }]) U:=fun hR4 hf4 hMb j hd4 hA4=>by
      obtain ⟨w',ht,u,t,ho⟩:=Rn (w0:=w) K (by rw [A]; exact hR.z) (by rw [p]; exact hs1.ext.size) (by rw [p,B]; omega) hR4 hf4 hMb j hd4 hE1 hA4;rw [A] at ho;exact ⟨aa,.inl ⟨_,w',rfl,ht,u,t,u,rfl,ho⟩⟩
     refine ⟨d.heap.size+1,[{ target:=.collected d.heap.size,args:=#[] }],(d.alloc (.deferred (some []))).alloc (.loop { state:=.ready,pending:=none,fn:=fn,tmps:=a.tmps,params:=#[17],assign:=Si,body:=Qy,defers:=d.heap.size }),{ target:=.fn (.func 258) #[p8,p9],args:=#[yV (d.heap.size+1)] },(d.alloc (.deferred (some []))).alloc (.loop { state:=.ready,pending:=none,fn:=fn,tmps:=a.tmps,params:=#[17],assign:=Si,body:=Qy,defers:=d.heap.size }),258,#[yV (d.heap.size+1)] ++ #[p8,p9],(d.alloc (.deferred (some []))).alloc (.loop { state:=.ready,pending:=none,fn:=fn,tmps:=a.tmps,params:=#[17],assign:=Si,body:=Qy,defers:=d.heap.size }),run_enterLoop_outer _ _ _ _ _,?_,fun _ _=>trivial,?_,fun h=>(by cases h),?_⟩
     ·simp [resolve,hg];simp [go_sem]
     ·simp [invoke,go_sem]
     have hrc:({ state:=.ready,pending:=none,fn:=fn,tmps:=a.tmps,params:=#[17],assign:=Si,body:=Qy,defers:=d.heap.size }:Loop)=X.rc .ready none:=by rw [A]; rfl
     rw [hrc,<- B];refine RF (M3 hit fun e O ⟨v0,he,f,hA2,hc⟩=>?_);subst he;rcases hc with ⟨k,hk,Q⟩ | hst
     ·refine ⟨none,_,run_endLoop (P:=prog) Q.loop (by simp [PX.rc]),?_⟩;obtain ⟨p1,p2,p3⟩:=uj (s:=X.s) Q.ok hk;have S:=Q.C0.Lm (l:=X.L) (.loop { X.rc .ready none with state:=.exhausted }) (.inr (.inr rfl)) X.hL;have A2:A0 X.Z o _ f (O.putObj X.L (.loop { X.rc .ready none with state:=.exhausted })):=hA2.trans (.put _ (.inr rfl));have C:o9 (cx X.g f (O.putObj X.L (.loop { X.rc .ready none with state:=.exhausted }))) f D7 X.FP:=Q.fr.c8 ((A0.put (Z:=X.Z) (ρ:=f) (w:=O) _ (.inr rfl)).le (G:=X.g) (fun b Y=>.inr Y) Q.C0.lo X.hB) (lu.refl _);have y:(O.putObj X.L (.loop { X.rc .ready none with state:=.exhausted })).heap[X.D]? = some (.deferred (some [])):=(L4 (by rw [p,B]; omega)).trans Q.P1;have hlen2:f.length=11:=Q.C0.obj.length.symm;revert S A2 C y;generalize O.putObj X.L (.loop { X.rc .ready none with state:=.exhausted })=U;intro S A2 C y;have hwc:WC prog (fun e b w5=>e = .ret/\bodyPostM (iz none) 0 prog f171 (fun e w'=>∃ u,e = .returned u/\JX G w s l v u w') .ret (jy b [{ target:=.collected X.D,args:=#[] }]) w5) 40 Xk X.FP U:=by
       refine JM hGgX (F6 hlen2) cm (acW (s:=pS X.v X.s (X.l.take k)) (r:=pR X.v X.s (X.l.take k)) (l:=X.l) (v:=X.v)) (⟨f,s8.refl _ _ _,S,C⟩) fun e fr H F w5 hK J=>?_;cases e with
       | ret=>
        obtain ⟨ρ5,hs5,hr5,hf5⟩:=J;have hd5:w5.heap[X.D]? = some (.deferred (some [])):=(hs5.ext.x4 _ (fM y) (S.kK (.inr (.inl rfl)))).2.trans y;have j:C2 l6 [] 0 f171 (rE (pS X.v X.s (X.l.take k)) 0) (hE (pS X.v X.s (X.l.take k)) (pR X.v X.s (X.l.take k))) fr H:=hK;rw [p1,p2,p3] at j;exact fun b Y=>⟨rfl,T hr5 hf5 Y j hd5 (A2.trans (.zQ hs5.ext hs5.bx))⟩
       | _=>exact hK.elim
      have hwi:=Nn (m:=0) (hwc a hMa none [{ target:=.collected X.D,args:=#[] }]);rw [p] at hwi;have I:({ a with defers:=[{ target:=.collected d.heap.size,args:=#[] }]++a.defers }:Act)=jy a [{ target:=.collected d.heap.size,args:=#[] }]:=by rw [q.1]; rfl
      show Exit.inBlock 0 _ .normal _ U;rw [I];refine wpIn_mono hwi fun e b w5 ⟨b0,hb0,hbe,hbr,hpost⟩=>?_;subst hbr; subst hbe;exact hpost
     refine ⟨some .ret,_,run_endLoop (P:=prog) hst.loop (by simp [PX.rc]),?_⟩;obtain ⟨H,hR,j⟩:=hst.C0;have A2:A0 X.Z o _ f (O.putObj X.L (.loop { X.rc .done (some .ret) with state:=.exhausted })):=hA2.trans (.put _ (.inr rfl));have C:o9 (cx X.g f (O.putObj X.L (.loop { X.rc .done (some .ret) with state:=.exhausted }))) f D7 X.FP:=hst.fr.c8 ((A0.put (Z:=X.Z) (ρ:=f) (w:=O) _ (.inr rfl)).le (G:=X.g) (fun b Y=>.inr Y) hR.lo X.hB) (lu.refl _);have y:(O.putObj X.L (.loop { X.rc .done (some .ret) with state:=.exhausted })).heap[X.D]? = some (.deferred (some [])):=(L4 (by rw [p,B]; omega)).trans hst.P1;have hp:=T (hR.Lm _ (.inr (.inr rfl)) X.hL) C hMa j y A2;have I:({ a with defers:=[{ target:=.collected d.heap.size,args:=#[] }]++a.defers }:Act)=jy a [{ target:=.collected d.heap.size,args:=#[] }]:=by rw [q.1]; rfl
     rw [p] at hp;show Code.ret.wpIn _ _ _ _ _ _;rw [I];exact wpIn_ret hp
    | _=>exact hK.elim
   | _=>exact hK.elim
  | _=>exact hK.elim
 | _=>exact hK.elim
def N_ (s:b7) (l:List ec) (v:Int):s6 prog (av l6) 171 [.agg (cellsOf (.nm .eS) s),.c (.fz (.nm .entry) l),.c (.int v)] [] ⟨[],rE (u7 v s l) (pE v l),some (hE (u7 v s l) (y7 v s l)),true⟩:=by
 refine ⟨⟨_,func171,am,by kernel_rfl⟩,fun G ρ w y k j a=>?_⟩;have d:ρ=[]:=B7 j.obj.length.symm;subst d;refine (NC k j a).mono fun u z ⟨m,e,f,o,p,q,x⟩=>⟨m,e,f,o,p,fun i g h=>by simp at h,q,fun _=>⟨x,fun i r h=>by simp at h⟩⟩
section
variable {v:Int} {s:b7} {l:List ec} {k:Nat} {x:ec}
def acg:Wq (u4 v (l.take 0)):=⟨fun x h=>by simp at h⟩
def adh (h:Wq (u4 v (l.take k))) (a:l[k]? = some x) (c:(aY x v).e=0):Wq (u4 v (l.take (k+1))):=⟨yO h.h a c⟩
def Gm (a:l[k]? = some x) (h:(aY x v).some=true):(jm (pS v s (l.take k)) (aY x v).c).1=pS v s (l.take (k+1)):=by rw [<- HJ a,ajf h]
def Gg (a:l[k]? = some x) (h:(aY x v).some=false):pS v s (l.take k)=pS v s (l.take (k+1)):=by rw [<- HJ a,ahR h]
def aoA (a:l[k]? = some x) (h:(aY x v).some=true):pR v s (l.take k)++[(jm (pS v s (l.take k)) (aY x v).c).2]=pR v s (l.take (k+1)):=by rw [<- JG a,ai5 h]
def al_ (a:l[k]? = some x) (h:(aY x v).some=false):pR v s (l.take k)++[lg.mk 0 0]=pR v s (l.take (k+1)):=by rw [<- JG a,aiu h]
def akJ {y:lg} (h:(k:Int)<l.length) (a:l.length*32<=140737488355328):((pR v s (l.take k)).length+[y].length)*16<=140737488355328:=by
 rw [zI,s9]; simp; omega
def uU (h:Wq (u4 v (l.take k))) (a:l[k]? = some x) (c:¬ (aY x v).e=0):pS v s (l.take k)=u7 v s l:=(sP h.h a c).1
def akh (h:Wq (u4 v (l.take k))) (a:l[k]? = some x) (c:¬ (aY x v).e=0):pR v s (l.take k)=y7 v s l:=(sP h.h a c).2.1
def ahB (h:Wq (u4 v (l.take k))) (a:l[k]? = some x) (c:¬ (aY x v).e=0):(aY x v).e=pE v l:=(sP (s:=b7.mk 1 1 0 0 [] [] []) h.h a c).2.2
def ur (h:Wq (u4 v (l.take k))) (a:(l.length:Int)<=k):pS v s (l.take k)=u7 v s l:=(uj h.h az).1
def aie (h:Wq (u4 v (l.take k))) (a:(l.length:Int)<=k):pR v s (l.take k)=y7 v s l:=(uj h.h az).2.1
def ahz (h:Wq (u4 v (l.take k))) (a:(l.length:Int)<=k):0=pE v l:=(uj (s:=b7.mk 1 1 0 0 [] [] []) h.h az).2.2
end
def XW (st:b7) (l:List ec) (v:Int):List (Nat × LI):=[(4,{ σ:=Nat,F:=fun k=>([(1,one (.fz (.nm .entry) (l))),(2,one (.int (v))),(3,one (.ptr 0 0)),(6,one (.ptr 1 0)),(9,one (.own 5)),(10,one (.int k))],[.box 46 ([.int ((((pS v st (l.take k))).a8)),.int ((((pS v st (l.take k))).next)),.int ((((pS v st (l.take k))).dm)),.int ((((pS v st (l.take k))).ea)),.own 2,.own 3,.own 4]),.box 46 ([.int ((0)),.int ((0)),.int ((0)),.int ((0)),.em true,.em true,.em true]),.row 137 (.nm .b8) (((pS v st (l.take k)).b8)),.row 139 (.nm .opn) (((pS v st (l.take k)).c6)),.row 172 (.nm .snap) (((pS v st (l.take k)).b6)),.row 78 (.nm .nd) ((pR v st (l.take k)))]),J:=fun k=>k<=l.length/\Wq (u4 v (l.take k)),μ:=fun k=>l.length - k })]
def XL (st:b7) (l:List ec) (v:Int):s6 prog (av l6) 171 [.agg (cellsOf (.nm .eS) st),.c (.fz (.nm .entry) (l)),.c (.int (v))] [] ⟨[],[.agg ([.int (((u7 v st l).a8)),.int (((u7 v st l).next)),.int (((u7 v st l).dm)),.int (((u7 v st l).ea)),.own 0,.own 1,.own 2]),.c (.own 3),.c (.int ((pE v l)))],some ([.row 137 (.nm .b8) (((u7 v st l).b8)),.row 139 (.nm .opn) (((u7 v st l).c6)),.row 172 (.nm .snap) (((u7 v st l).b6)),.row 78 (.nm .nd) ((y7 v st l))]),true⟩:=N_ st l v
def Ip:Kn:=aH (ae (kT (.nm .eS)) (ae (kC (cL (.nm .entry))) (ae (kC cI) ao))) au fun (st,l,v,_) _=>⟨[],[.agg ([.int (((u7 v st l).a8)),.int (((u7 v st l).next)),.int (((u7 v st l).dm)),.int (((u7 v st l).ea)),.own 0,.own 1,.own 2]),.c (.own 3),.c (.int ((pE v l)))],some ([.row 137 (.nm .b8) (((u7 v st l).b8)),.row 139 (.nm .opn) (((u7 v st l).c6)),.row 172 (.nm .snap) (((u7 v st l).b6)),.row 78 (.nm .nd) ((y7 v st l))]),true⟩
def Zk:CK 171 Ip:=ag fun (st,l,v,_) _ _=>XL st l v
def Av:Kn:=aH (ae (kT (.nm .eS)) (ae (kC (cL (.nm .entry))) (ae (kC cI) ao))) au fun (st,l,v,_) _=>⟨[],[.agg ([.int (((u7 v st l).a8)),.int (((u7 v st l).next)),.int (((u7 v st l).dm)),.int (((u7 v st l).ea)),.own 0,.own 1,.own 2]),.c (.own 3),.c (.int ((pE v l)))],some ([.row 137 (.nm .b8) (((u7 v st l).b8)),.row 139 (.nm .opn) (((u7 v st l).c6)),.row 172 (.nm .snap) (((u7 v st l).b6)),.row 78 (.nm .nd) ((y7 v st l))]),true⟩
theorem RH:CK 26 Av:=ag fun (st,l,v,_) _ _=>by
 refine cr Ig (XW st l v) func26 (?_:(fun (o:Nat)=>(fun (k:Int)=>(fun (m:b7)=>(fun (j:Prop)=>cw st (l.length*32<=140737488355328->a7 v->a7 st.a8->a7 st.next->a7 st.dm->a7 st.ea->∃ (q:Nat),(fun (p:b7)=>(l=l/\v=v/\k=(q:Int)/\st.a8=p.a8/\st.next=p.next/\st.dm=p.dm/\st.ea=p.ea/\j/\j/\j/\j/\st.b8=p.b8/\st.c6=p.c6/\st.b6=p.b6/\pR v st (take q l)=[])/\(q<=o/\Wq (u4 v (take q l)))/\∀ (s:Nat),(fun (y:Int)=>(fun (r:List lg)=>(fun (d:b7)=>(fun (z:Prop)=>s<=o/\Wq (u4 v (take s l))->((s:Int)<(l.length:Int)->k<=(s:Int)/\(s:Int)<(l.length:Int)/\∀ (x:ec),(fun (f:RdM)=>(fun (u:b7 × lg)=>(fun (a:b7)=>l[s]? = some x->a7 x.bo->x.b.length*1<=140737488355328->bc f.c (a7 f.e->(¬f.e=k->d.a8=m.a8/\d.next=m.next/\d.dm=m.dm/\d.ea=m.ea/\f.e=pE v l/\z)/\(f.e=k->(f.some=true->a7 a.a8->a7 a.next->a7 a.dm->a7 a.ea->a7 u.snd.code->a7 u.snd.n->(r.length+[u.snd].length)*16<=140737488355328/\a7 y/\∃ (i:Nat),(fun (g:b7)=>(l=l/\v=v/\y=(i:Int)/\a.a8=g.a8/\a.next=g.next/\a.dm=g.dm/\a.ea=g.ea/\j/\j/\j/\j/\a.b8=g.b8/\a.c6=g.c6/\a.b6=g.b6/\r++[u.snd]=pR v st (take i l))/\(i <= o/\Wq (u4 v (take i l)))/\o - i < o - s) (pS v st (take i l)))/\(f.some=false->(r.length+[lg.mk k k].length)*16<=140737488355328/\a7 y/\∃ (i:Nat),(fun (h:b7)=>(l=l/\v=v/\y=(i:Int)/\d.a8=h.a8/\d.next=h.next/\d.dm=h.dm/\d.ea=h.ea/\j/\j/\j/\j/\d.b8=h.b8/\d.c6=h.c6/\d.b6=h.b6/\r++[lg.mk k k]=pR v st (take i l))/\(i <= o/\Wq (u4 v (take i l)))/\o - i < o - s) (pS v st (take i l)))))) u.fst) (jm d f.c)) (aY x v))/\((l.length:Int)<=(s:Int)->d.a8=m.a8/\d.next=m.next/\d.dm=m.dm/\d.ea=m.ea/\k=pE v l/\z)) (d.b8=m.b8/\d.c6=m.c6/\d.b6=m.b6/\r=y7 v st l)) (pS v st (take s l))) (pR v st (take s l))) ((s:Int)+1)) (pS v st (take q l)))) (k=k)) (u7 v st l)) 0) l.length);iterate 3 ((all_goals (repeat' with_reducible first|apply aT|refine aW ?_|intro)); (all_goals try (first | exact bR | exact acg | exact (adh ab ab ab) | exact (aoA ab ab) | exact (al_ ab ab) | exact (akJ ab ab) | exact (ahB ab ab ab) | exact (akh ab ab ab) | exact (ahz ab ab) | exact (aie ab ab) | exact (hC b7.a8 (Gm ab ab)) | exact (hC b7.a8 (Gg ab ab)) | exact (hC b7.a8 (uU ab ab ab)) | exact (hC b7.a8 (ur ab ab)) | exact (hC b7.next (Gm ab ab)) | exact (hC b7.next (Gg ab ab)) | exact (hC b7.next (uU ab ab ab)) | exact (hC b7.next (ur ab ab)) | exact (hC b7.dm (Gm ab ab)) | exact (hC b7.dm (Gg ab ab)) | exact (hC b7.dm (uU ab ab ab)) | exact (hC b7.dm (ur ab ab)) | exact (hC b7.ea (Gm ab ab)) | exact (hC b7.ea (Gg ab ab)) | exact (hC b7.ea (uU ab ab ab)) | exact (hC b7.ea (ur ab ab)) | exact (hC b7.b8 (Gm ab ab)) | exact (hC b7.b8 (Gg ab ab)) | exact (hC b7.b8 (uU ab ab ab)) | exact (hC b7.b8 (ur ab ab)) | exact (hC b7.c6 (Gm ab ab)) | exact (hC b7.c6 (Gg ab ab)) | exact (hC b7.c6 (uU ab ab ab)) | exact (hC b7.c6 (ur ab ab)) | exact (hC b7.b6 (Gm ab ab)) | exact (hC b7.b6 (Gg ab ab)) | exact (hC b7.b6 (uU ab ab ab)) | exact (hC b7.b6 (ur ab ab)))); all_goals try first | refine ⟨‹Nat› + 1,?_⟩ | refine ⟨0,?_⟩)
def aij:ck:=(aI 26 Av (aI 171 Ip ai0))
def iw:ay prog (av l6) aij:=(ah RH (ah Zk Ig))
def ajm (O:ck):ck:=fun g a H=>bif Nat.beq g 1000000003 then some ⟨[False],[],none,false⟩ else O g a H
variable {P:Program} {shp:TypeId->Option Sh}
def yS {O:ck} (c:ay P shp O):ay P shp (ajm O):=fun g args H r h a=>by
 unfold ajm at h;cases d:Nat.beq g 1000000003 <;> rw [d] at h
 ·exact c g args H r h a
 cases h; exact (a False aa).elim
def cWp:AV->Option Nat
 | .xx (.w n) []=>some n
 | _=>none
def cW:PC Nat:=⟨cWp,fun n=>.xx (.w n) [],fun a y h c ρ v d=>by
 unfold cWp at h
 split at h
 ·cases h; exact d
 ·cases h⟩
theorem s6.SF {f:Nat} {args O:List n8} {p:AH} {pre:List Prop} {d b:Bool} (i k:Nat) (e:TypeId) (s:Sh) {t:TypeId} {x:List AV} {S:AH} (W:shp e=some s) (q:p[i]? = some (.box t x)) (B:x[k]? = some (.em b)) (h:s6 P shp f args H ⟨pre,O,some p,d⟩) (X:S=p.set i (.box t (x.set k (.own p.length)))++[.row e s []]):s6 P shp f args H ⟨pre,O,some S,d⟩:=by
 subst X;refine ⟨h.1,fun G ρ w Y j Z l=>(h.2 G ρ w Y j Z l).mono ?_⟩;rintro v C ⟨n,F,c,D,K,Q,k4,T⟩;have I:=(u1.p4 (ρ:=c) (r:=.emp) (Kp.refl C) fun g j=>by cases j).le D.lo;have y:=D.obj.length;have m:=D.p4 (r:=.emp) (o:=.row e s []) (Kp.refl C) (fun g j=>by cases j) ⟨by show G.shp e=some s; rw [j]; exact W,aa,.inl ⟨rfl,rfl⟩⟩;have A:=(r3.1 q).1;refine ⟨n,F,c ++ [.emp],⟨?_,m.inj,m.sr,m.z,m.b0,m.tb⟩,K.trans (u1.p4 (Kp.refl C) fun g j=>by cases j),fun i g q=>by
  rw [C9]
  ·grind
  ·exact (r3.1 (Q i g q)).1,k4.imp fun _ _ h=>h.c8 I (gO _ _),fun B=>⟨(T B).1,fun i rr q=>by
  rw [C9]
  ·grind
  exact (r3.1 ((T B).2 i rr q)).1⟩⟩
 obtain ⟨r,hr,g,J,rfl,h1,U⟩:=m.at_ (i:=i) (o:=.box t x) (by rw [C9 A]; exact q);have V:=m.obj.set i (a:=.box t (x.set k (.own p.length))) (b:=.blk g) ⟨g,J,rfl,h1,?_⟩
 ·rw [List.set_append_left _ _ A] at V;have:(c ++ [RE.emp]).set i (.blk g)=c ++ [RE.emp]:=by
   obtain ⟨hj,L⟩:=r3.1 hr;rw [<- L,V5]
  rwa [this] at V
 obtain ⟨u,hu,N⟩:=eE U k _ B;have k8:=U.set k (a:=.own p.length) (b:=u) (.inr ⟨by rw [y]; simp,?_⟩)
 ·have:J.set k u=J:=by
   obtain ⟨hj,L⟩:=r3.1 hu;rw [<- L,V5]
  rwa [this] at k8
 have N:Pd _ _ _:=N;cases N with | em _=>exact ⟨_,rfl⟩
def Bb:Kn:=aH (ae (kC (bm 0 0)) ao) (aF (eu 147 (ax (fE 1) (ax cI (ax cB (ax cB (ax cI dY)))))) (aF (fD 5 .u8) au)) fun _ ((_,d,a,e,f,_),g,_)=>⟨[],[.c (.bool (.atom ((a))))],none,false⟩
def Rx:CK 40 Bb:=ag fun _ ((_,c,a,d,e,_),f,_) _=>by
 refine aq iw [] func40 (?_:a=a);try rfl
def Dr:Kn:=aH (ae (kC (bm 0 0)) (ae (kC cI) ao)) (aF (eu 147 (ax (fE 1) (ax cI (ax cB (ax cB (ax cI dY)))))) (aF (fD 5 .u8) au)) fun (_,k,_) ((_,a,c,e,f,_),d,_)=>⟨[],[],some ([.box 147 ([.own 1,.int (((n9.mk d a c true k).ee)),.bool (.atom (((n9.mk d a c true k).down))),.bool (.atom (((n9.mk d a c true k).jx))),.int (((n9.mk d a c true k).dm))]),.row 5 .u8 (((n9.mk d a c true k).b))]),false⟩
def SD:CK 108 Dr:=ag fun (_,k,_) ((_,a,c,e,f,_),d,_) _=>by
 refine bP iw [] func108 (?_:a7 k->a=a/\c=c/\true=true/\k=k/\d=d);(repeat' with_reducible first|apply aT|refine aW ?_|intro) <;> (with_reducible rfl)
def OQ:Kn:=aH (ae (kC (bm 0 0)) ao) (aF (eu 147 (ax (fE 1) (ax cI (ax cB (ax cB (ax cI dY)))))) (aF (fD 5 .u8) au)) fun _ ((_,d,a,e,f,_),g,_)=>⟨[],[.c (.int ((if a=true then 0 else 31)))],some ([.box 147 ([.own 1,.int (((if a=true then (n9.mk g d a e f).up else (n9.mk g d a e f)).ee)),.bool (.atom (((if a=true then (n9.mk g d a e f).up else (n9.mk g d a e f)).down))),.bool (.atom (((if a=true then (n9.mk g d a e f).up else (n9.mk g d a e f)).jx))),.int (((if a=true then (n9.mk g d a e f).up else (n9.mk g d a e f)).dm))]),.row 5 .u8 (((if a=true then (n9.mk g d a e f).up else (n9.mk g d a e f)).b))]),false⟩
theorem aeA:CK 44 OQ:=ag fun _ ((_,d,c,f,g,_),e,_) _=>by
 refine bP iw [] func44 (?_:(fun h=>(fun a=>(c=false->31=h/\d=a.ee/\c=a.down/\f=a.jx/\g=a.dm/\e=a.b)/\(c=true->0=h/\d=a.ee/\false=a.down/\false=a.jx/\0=a.dm/\e=a.b)) (if c=true then (n9.mk e d c f g).up else n9.mk e d c f g)) (if c=true then (0:Int) else (31:Int)));(repeat' with_reducible first|apply aT|refine aW ?_|intro) <;> grind [n9.up]
def xJ:Kn:=aH (ae (kC (bm 0 0)) (ae (kC cI) ao)) (aF (eu 147 (ax (fE 1) (ax cI (ax cB (ax cB (ax cI dY)))))) (aF (fD 5 .u8) au)) fun (_,k,_) ((_,a,c,d,e,_),f,_)=>⟨[(n9.mk f a c d e).OK],[],some ([.box 147 ([.own 1,.int ((((n9.mk f a c d e).dr k).ee)),.bool (.atom ((((n9.mk f a c d e).dr k).down))),.bool (.atom ((((n9.mk f a c d e).dr k).jx))),.int ((((n9.mk f a c d e).dr k).dm))]),.row 5 .u8 ((((n9.mk f a c d e).dr k).b))]),false⟩
def LS:CK 39 xJ:=ag fun (_,k,_) ((_,e,f,g,h,_),a,_) i=>by
 have j:=b_ i;refine bP (yS iw) [] func39 (?_:(fun c=>(fun d=>a7 k->a7 ((a.length:Int) - e)/\a7 d/\(0<=d/\d<=(a.length:Int))/\(↑(take d.toNat a).length:Int)=c.ee/\true=c.down/\false=c.jx/\0=c.dm/\take d.toNat a=c.b) (e+min (max k 0) ((a.length:Int) - e))) ((n9.mk a e f g h).dr k));obtain ⟨m,o,p⟩:=j;dsimp only at m o p;(repeat' with_reducible first|apply aT|refine aW ?_|intro) <;> first | (first | omega | (refine cY ?_ ?_ <;> omega)) | (simp only [n9.dr,n9.at_]; first | done | (rw [s9]; omega))
def IK:Kn:=aH (ae (kC (bm 0 0)) (ae (kC cI) ao)) (aF (eu 147 (ax (fE 1) (ax cI (ax cB (ax cB (ax cI dY)))))) (aF (fD 5 .u8) au)) fun (_,k,_) ((_,a,d,e,f,_),g,_)=>⟨[(n9.mk g a d e f).OK],[.c (.int (((n9.mk g a d e f).mH k)))],some ([.box 147 ([.own 1,.int ((((n9.mk g a d e f).cut k).ee)),.bool (.atom ((((n9.mk g a d e f).cut k).down))),.bool (.atom ((((n9.mk g a d e f).cut k).jx))),.int ((((n9.mk g a d e f).cut k).dm))]),.row 5 .u8 ((((n9.mk g a d e f).cut k).b))]),false⟩
theorem Zp:CK 45 IK:=ag fun (_,k,_) ((_,h,d,f,g,_),c,_) j=>by
 have m:=b_ j;refine bP (yS iw) [] func45 (?_:(fun e=>(fun a=>(fun i=>a7 k->(d=true->30=e.mH k/\i)/\(d=false->(k<0\/(c.length:Int)<k->1=e.mH k/\i)/\(0<=k/\k<=(c.length:Int)->0<=k/\k<=(c.length:Int)/\0=e.mH k/\k=a.ee/\d=a.down/\f=a.jx/\g=a.dm/\take k.toNat c=a.b))) (h=a.ee/\d=a.down/\f=a.jx/\g=a.dm/\c=a.b)) (e.cut k)) (n9.mk c h d f g));obtain ⟨o,p,q⟩:=m;dsimp only at o p q;(repeat' with_reducible first|apply aT|refine aW ?_|intro) <;> grind [n9.cut,n9.mH]
def HN:Kn:=aH (ae (kC (bm 0 0)) (ae (kC (cL .u8)) ao)) (aF (eu 147 (ax (fE 1) (ax cI (ax cB (ax cB (ax cI dY)))))) (aF (fD 5 .u8) au)) fun (_,x,_) ((_,a,d,e,f,_),g,_)=>⟨[(n9.mk g a d e f).OK],[.c (.int (((n9.mk g a d e f).kD x)))],some ([.box 147 ([.own 1,.int ((((n9.mk g a d e f).p4 x).ee)),.bool (.atom ((((n9.mk g a d e f).p4 x).down))),.bool (.atom ((((n9.mk g a d e f).p4 x).jx))),.int ((((n9.mk g a d e f).p4 x).dm))]),.row 5 .u8 ((((n9.mk g a d e f).p4 x).b))]),false⟩
theorem ZS:CK 150 HN:=ag fun (_,x,_) ((_,f,c,g,h,_),d,_) k=>by
 have m:=b_ k;refine bP iw [] func150 (?_:(fun e=>(fun i=>(fun a=>(fun j=>x.length*1<=140737488355328->(c=true->30=e.kD x/\j)/\(c=false->a7 i/\(i<(x.length:Int)->20=e.kD x/\j)/\((x.length:Int)<=i->(d.length+x.length)*1<=140737488355328/\0=e.kD x/\f=a.ee/\c=a.down/\g=a.jx/\h=a.dm/\d++x=a.b))) (f=a.ee/\c=a.down/\g=a.jx/\h=a.dm/\d=a.b)) (e.p4 x)) (65536 - (d.length:Int))) (n9.mk d f c g h));obtain ⟨o,p,q⟩:=m;dsimp only at o p q;(repeat' with_reducible first|apply aT|refine aW ?_|intro) <;> first | (first | (refine cY ?_ ?_ <;> omega)) | grind [n9.p4,n9.kD]
def wR:Kn:=aH (ae (kC (bm 0 0)) ao) (aF (eu 147 (ax (fE 1) (ax cI (ax cB (ax cB (ax cI dY)))))) (aF (fD 5 .u8) au)) fun _ ((_,d,e,f,g,_),a,_)=>⟨[(n9.mk a d e f g).OK],[.c (.own 2)],some ([.box 147 ([.own 1,.int ((d)),.bool (.atom ((e))),.bool (.atom ((f))),.int ((g))]),.row 5 .u8 ((a)),.row 5 .u8 ((a))]),true⟩
def Mg:CK 42 wR:=ag fun _ ((_,d,e,f,g,_),c,_) h=>by
 have i:=b_ h;refine cr iw [] func42 (?_:(fun (a:Nat)=>(0:Int)<=(a:Int)/\(a:Int)*(↑(1:Nat):Int)<=(140737488355328:Int)/\(a:Int)=(a:Int)/\d=d/\e=e/\f=f/\g=g/\c=c/\take (replicate a (c5 Sh.u8)).length c++drop a (replicate a (c5 Sh.u8))=c) c.length);obtain ⟨j,k,m⟩:=i;dsimp only at j k m;(repeat' with_reducible first|apply aT|refine aW ?_|intro) <;> first | (omega) | simp
def Kb:Kn:=aH ao au fun _ _=>⟨[],[.c (.ptr 0 0)],some ([.box 147 ([.em true,.int ((0)),.bool (.atom ((false))),.bool (.atom ((false))),.int ((0))])]),true⟩
def Jt:CK 38 Kb:=ag fun _ _ _=>by
 refine cr iw [] func38 (?_:(0:Int)=0/\false=false/\false=false/\(0:Int)=0);(repeat' with_reducible first|apply aT|refine aW ?_|intro) <;> (with_reducible rfl)
def Zj :s6 prog (av l6) 38 [] [] ⟨[],[.c (.ptr 0 0)],some ([.box 147 ([.em true,.int ((0)),.bool (.atom ((false))),.bool (.atom ((false))),.int ((0))])]),true⟩:=Jt _ _ _ rfl aa
def ahp:ck:=(aI 38 Kb (aI 42 wR (aI 150 HN (aI 45 IK (aI 39 xJ (aI 44 OQ (aI 108 Dr (aI 40 Bb aij))))))))
def gQ:ay prog (av l6) ahp:=(ah Jt (ah Mg (ah ZS (ah Zp (ah LS (ah aeA (ah SD (ah Rx iw))))))))
variable {x:UInt8} {k:Nat}
def xE {q:Nat × Nat} {l:List UInt8} (h:l[k]? = some x):iK q (l.take (k+1))=SQ (iK q (l.take k)) x:=by
 rw [aj h,iK,I5]; rfl
variable {b:List UInt8}
def ae_ {s:Nat} (h:b[k]? = some x):((iK (s % 65536 % 65521,s / 65536 % 65521) (b.take k)).1+x.toNat) % 4294967296 % 65521=(iK (s % 65536 % 65521,s / 65536 % 65521) (b.take (k+1))).1:=by
 have:=(sA (s:=s) (b.take k)).1;have:=x.toNat_lt;rw [xE h,SQ];omega
def acN {s:Nat} (h:b[k]? = some x):((iK (s % 65536 % 65521,s / 65536 % 65521) (b.take k)).2+((iK (s % 65536 % 65521,s / 65536 % 65521) (b.take k)).1+x.toNat) % 4294967296 % 65521) % 4294967296 % 65521=(iK (s % 65536 % 65521,s / 65536 % 65521) (b.take (k+1))).2:=by
 have:=(sA (s:=s) (b.take k));have:=x.toNat_lt;rw [xE h,SQ];omega
def afe {s:Nat} (h:(b.length:Int)<=k):(65536*(iK (s % 65536 % 65521,s / 65536 % 65521) (b.take k)).2 % 4294967296+(iK (s % 65536 % 65521,s / 65536 % 65521) (b.take k)).1) % 4294967296=eP s b:=by
 have:=(sA (s:=s) b);rw [r6 az,eP];omega
variable {l:List Bool} {x:Bool}
def amz (h:l[k]? = some x) (a:x=true):(((l.take k).countP id:Nat):Int)+1=((l.take (k+1)).countP id:Nat):=by
 rw [aj h,T6,a]; simp
def an2 (h:l[k]? = some x) (a:x=false):(((l.take k).countP id:Nat):Int)=((l.take (k+1)).countP id:Nat):=by
 rw [aj h,T6,a]; simp
def ao_ (h:(l.length:Int)<=k):decide ((l.length:Int).tdiv 2<((l.take k).countP id:Nat))=decide ((l.length:Int).tdiv 2<(l.countP id:Nat)):=by
 rw [r6 az]
theorem apq (h:l.length*1<=140737488355328):a7 (((l.take k).countP id:Nat)+1):=by grind [List.length_take,cY]
variable {l:List ec}
def Yi (h:(l.length:Int)=0):(0:Int)=jh l:=by
 rw [B7 (l:=l) az]; rfl
def YJ (h:¬ (l.length:Int)=0):(l.getD ((l.length:Int) - 1).toNat (c5 (Sh.nm NT.entry))).bo=jh l:=by
 rw [show ((l.length:Int) - 1).toNat=l.length - 1 by omega]; rfl
variable {k:Int}
def WS {x:ec} (a:¬ k=0) (c:0<=k) (d:k<=(l.length:Int)) (h:l[(k - 1).toNat]? = some x):x.bo=dx l k:=by
 rw [dx,dc a,dc az,ts,h]; rfl
def acY (s:Nat) (b:List UInt8):List (Nat × LI):=[(3,{ σ:=Nat,F:=fun k=>([(5,one (.ptr 0 0)),(15,one (.fz .u8 (b))),(16,one (.int (b).length)),(17,one (.int k))],[.box 286 ([.xx (.w (((iK (s % 65536 % 65521,s / 65536 % 65521) (b.take k)).1))) [],.xx (.w (((iK (s % 65536 % 65521,s / 65536 % 65521) (b.take k)).2))) []])]),J:=fun k=>k<=b.length,μ:=fun k=>(b).length - k })]
def afz (l:List Bool):List (Nat × LI):=[(3,{ σ:=Nat,F:=fun k=>([(0,one (.fz .bool (l))),(3,one (.int ((l.take k).countP id))),(6,one (.fz .bool (l))),(7,one (.int (l).length)),(8,one (.int k))],[]),J:=fun k=>k<=l.length,μ:=fun k=>(l).length - k })]
def DG:Kn:=aH (ae (kC (bm 0 0)) ao) (aF (eu 147 (ax (fE 1) (ax cI (ax cB (ax cB (ax cI dY)))))) (aF (fD 5 .u8) au)) fun _ ((_,a,d,e,f,_),g,_)=>⟨[(n9.mk g a d e f).OK],[.c (.int (((n9.mk g a d e f).fY)))],some ([.box 147 ([.own 1,.int ((((n9.mk g a d e f).sync).ee)),.bool (.atom ((((n9.mk g a d e f).sync).down))),.bool (.atom ((((n9.mk g a d e f).sync).jx))),.int ((((n9.mk g a d e f).sync).dm))]),.row 5 .u8 ((((n9.mk g a d e f).sync).b))]),false⟩
theorem Sc:CK 151 DG:=ag fun _ ((_,f,g,h,i,_),c,_) m=>by
 have o:=b_ m;refine bP gQ [] func151 (?_:(fun d=>(fun e=>(fun a=>(fun j=>(g=true->30=d.fY/\f=a.ee/\j)/\(g=false->(h=true->(0<=f/\f<=(c.length:Int)/\c.length<=65536)/\30=d.fY/\e.ee=a.ee/\e.down=a.down/\e.jx=a.jx/\e.dm=a.dm/\e.b=a.b)/\(h=false->0=d.fY/\(c.length:Int)=a.ee/\j))) (g=a.down/\h=a.jx/\i=a.dm/\c=a.b)) d.sync) (d.dr i)) (n9.mk c f g h i));obtain ⟨p,q,r⟩:=o;dsimp only at p q r;(repeat' with_reducible first|apply aT|refine aW ?_|intro) <;> grind [n9.sync,n9.fY]
def OD :s6 prog (av l6) 38 [] [] ⟨[],[.c (.ptr 0 0)],some ([.box 147 ([.own 1,.int ((0)),.bool (.atom ((false))),.bool (.atom ((false))),.int ((0))]),.row 5 .u8 (([]))]),true⟩:=s6.SF 0 0 5 .u8 cm rfl rfl Zj rfl
def Cz:Kn:=aH ao au fun _ _=>⟨[],[.c (.ptr 0 0)],some ([.box 147 ([.own 1,.int ((0)),.bool (.atom ((false))),.bool (.atom ((false))),.int ((0))]),.row 5 .u8 (([]))]),true⟩
def Rc:CK 38 Cz:=ag fun _ _ _=>OD
def HF:Kn:=aH (ae (kC cW) (ae (kC (cL .u8)) ao)) au fun (s,b,_) _=>⟨[],[.c (.xx (.w ((eP s b))) [])],none,false⟩
theorem XH:CK 252 HF:=ag fun (s,b,_) _ _=>by
 refine aq gQ (acY s b) func252 (?_:(fun (i:Nat)=>(fun (g:Nat)=>(fun (f:Int)=>(fun (d:Nat)=>(fun (e:Nat)=>(fun (h:Int)=>(fun (c:Int)=>(fun (j:Nat × Nat)=>b.length*(1:Nat)<=(140737488355328:Nat)->i<g/\i<e/\i<g/\i<e/\∃ (o:Nat),(b=b/\(b.length:Int)=(d:Int)/\c=(o:Int)/\s % g % e=(iK j (take o b)).fst/\s / g % e=(iK j (take o b)).snd)/\o<=d/\∀ (a:Nat),(fun (p:Nat × Nat)=>a<=d->((a:Int)<(d:Int)->c<=(a:Int)/\(a:Int)<(b.length:Int)/\∀ (x:UInt8),(fun (q:Nat)=>b[a]? = some x->c<=c/\c<h/\i<e/\c<=c/\c<h/\c<=f/\f<h/\c<=c/\c<h/\i<e/\c<=f/\f<h/\a7 ((a:Int)+f)/\∃ (m:Nat),(b=b/\(d:Int)=(d:Int)/\(a:Int)+f=(m:Int)/\q=(iK j (take m b)).fst/\(p.snd+q) % (4294967296:Nat) % e=(iK j (take m b)).snd)/\m <= d/\d - m < d - a) ((p.fst+x.toNat) % (4294967296:Nat) % e))/\((d:Int)<=(a:Int)->c<=f/\f<h/\c<=c/\c<h/\(g*p.snd % (4294967296:Nat)+p.fst) % (4294967296:Nat)=eP s b)) (iK j (take a b))) (s % g % e,s / g % e)) (0:Int)) (↑(2:Nat):Int)) (65521:Nat)) b.length) (1:Int)) (65536:Nat)) (0:Nat));(repeat' with_reducible first|apply aT|refine aW ?_|intro)
 all_goals try ( refine ⟨0,?_⟩; (repeat' with_reducible first|apply aT|refine aW ?_|intro))
 all_goals try ( refine ⟨‹Nat› + 1,?_⟩; (repeat' with_reducible first|apply aT|refine aW ?_|intro))
 all_goals (first | exact bR | exact (ae_ ab) | exact (acN ab) | exact (afe ab))
def rC:Kn:=aH (ae (kC (cL .u8)) ao) au fun (l,_) _=>⟨[],[.c (.fz .u8 ((l)))],none,false⟩
theorem Cc:CK 104 rC:=ag fun (l,_) _ _=>by
 refine aq gQ [] func104 (?_:(fun a=>a->∀ (b:Bool),(b=true->l=[])->(b=true->l=[])/\(b=false->a/\l=l)) (l.length*1<=140737488355328));grind
def HM:Kn:=aH (ae (kC (cL (.nm .entry))) ao) au fun (l,_) _=>⟨[],[.c (.int (((l.length:Int)))),.c (.int ((jh l)))],none,false⟩
def VG:CK 49 HM:=ag fun (l,_) _ _=>by
 refine aq gQ [] func49 (?_:(fun a=>(fun c=>(fun d=>l.length*32<=140737488355328->(a=0->0=(l.length:Int)/\0=jh l)/\(¬a=0->a7 c/\(0<=c/\c<a)/\(a7 d.bo->d.b.length*1<=140737488355328->a=(l.length:Int)/\d.bo=jh l))) (l.getD c.toNat (c5 (Sh.nm NT.entry)))) (a - 1)) (l.length:Int));(repeat' with_reducible first|apply aT|refine aW ?_|intro)
 all_goals (first | exact bR | exact (Yi ab) | exact (YJ ab))
def Ks:Kn:=aH (ae (kC (cL (.nm .entry))) (ae (kC cI) ao)) au fun (l,k,_) _=>⟨[],[.c (.int ((dx l k)))],none,false⟩
def VD:CK 193 Ks:=ag fun (l,k,_) _ _=>by
 refine aq gQ [] func193 (?_:(fun a=>(fun c=>l.length*32<=140737488355328->a7 k->(k=a->a=dx l k)/\(¬k=a->(k<a\/(l.length:Int)<k -> -1=dx l k)/\(a<=k/\k<=(l.length:Int)->a7 c/\a<=c/\c<(l.length:Int)/\∀ (x:ec),l[c.toNat]? = some x->a7 x.bo->x.b.length*1<=140737488355328->x.bo=dx l k))) (k - 1)) (0:Int));(repeat' with_reducible first|apply aT|refine aW ?_|intro)
 all_goals (first | exact bR | exact (WS ab ab ab ab) | (rw [dx,eg ab]) | (rw [dx,dc ab,eg ab]))
def HZ:Kn:=aH (ae (kC cI) (ae (kT (.nm .letter)) ao)) au fun (n,x,_) _=>⟨[0<=x.a/\x.a<=64],[.c (.int ((jZ n x)))],none,false⟩
theorem YI:CK 172 HZ:=ag fun (n,x,_) _ e=>by
 have f:=b_ e;refine aq gQ [] func172 (?_:(fun c=>(fun d=>a7 n->bf x ((x.ok=true->a7 d/\d=jZ n x)/\(x.ok=false->(c<n->a7 (n - c)/\a7 d/\min (n - c) d=jZ n x)/\(n<=c->c=jZ n x)))) (x.a+c)) (1:Int));(repeat' with_reducible first|apply aT|refine aW ?_|intro)
 all_goals first | (simp only [jZ]; grind) | (have q:=(by with_reducible assumption:a7 n); exact cY (by have:=q.1; omega) (by have:=q.2; omega))
def Hp:Kn:=aH (ae (kC cI) (ae (kC cI) ao)) au fun (t,v,_) _=>⟨[],[.c (.own 0)],some ([.row 108 (.nm .record) (([⟨2,t,v,[]⟩]))]),true⟩
def YD:CK 88 Hp:=ag fun (t,v,_) _ _=>by
 refine cr gQ [] func88 (?_:a7 t->a7 v->[c9.mk 2 t v []]=[c9.mk 2 t v []]);intros; rfl
def IS:Kn:=aH (ae (kC (cL .bool)) ao) au fun (l,_) _=>⟨[],[.c (.bool (.atom ((rL l))))],none,false⟩
theorem YY:CK 101 IS:=ag fun (l,_) _ _=>by
 refine aq gQ (afz l) func101 (?_:(fun e=>(fun h=>(fun a=>(fun d=>l.length*(1:Nat)<=(140737488355328:Nat)->∃ i,(l=l/\(0:Int)=(↑(countP id (take i l)):Int)/\l=l/\e=d/\(0:Int)=(i:Int))/\i<=a/\∀ (s:Nat),(fun f=>(fun g=>s<=a->((s:Int)<d->(0:Int)<=(s:Int)/\(s:Int)<e/\∀ (x:Bool),l[s]? = some x->(x=true->a7 (g+h)/\a7 f/\∃ c,(l=l/\g+h=(↑(countP id (take c l)):Int)/\l=l/\d=d/\f=(c:Int))/\c <= a/\a - c < a - s)/\(x=false->a7 f/\∃ c,(l=l/\g=(↑(countP id (take c l)):Int)/\l=l/\d=d/\f=(c:Int))/\c <= a/\a - c < a - s))/\(d<=(s:Int)->(0:Int)<=e/\(0:Int)<(2:Int)/\decide (e.tdiv (2:Int)<g)=rL l)) (↑(countP id (take s l)):Int)) ((s:Int)+h)) (a:Int)) l.length) (1:Int)) (l.length:Int));iterate 3 ((all_goals (repeat' with_reducible first|apply aT|refine aW ?_|intro)); (all_goals try (first | exact bR | exact (amz ab ab) | exact (an2 ab ab) | exact (apq ab) | exact (ao_ ab))); all_goals try first | refine ⟨‹Nat› + 1,?_⟩ | refine ⟨0,?_⟩)
def Qx:Kn:=aH (ae (kC cI) (ae (kC cI) (ae (kC cI) ao))) au fun (n,a,b,_) _=>⟨[],[.c (.bool (.atom ((aO n a b))))],none,false⟩
theorem afa:CK 165 Qx:=ag fun (n,a,b,_) _ _=>by
 refine aq gQ [] func165 (?_:a7 n->a7 a->a7 b->(decide (a<=n) && decide (n<=b))=aO n a b);grind [aO]
def ajO:ck:=(aI 165 Qx (aI 101 IS (aI 88 Hp (aI 172 HZ (aI 193 Ks (aI 49 HM (aI 104 rC (aI 252 HF (aI 38 Cz (aI 151 DG ahp))))))))))
def kF:ay prog (av l6) ajO:=(ah afa (ah YY (ah YD (ah YI (ah VD (ah VG (ah Cc (ah XH (ah Rc (ah Sc gQ))))))))))
def BS:Kn:=aH (ae (kC (cL .u8)) ao) au fun (b,_) _=>⟨[],[.c (.xx (.w ((eP 1 b))) [])],none,false⟩
def Pl:CK 209 BS:=ag fun (b,_) _ _=>by
 refine aq kF [] func209 (?_:b.length*1<=140737488355328->eP 1 b=eP 1 b);intros; rfl
def QB:Kn:=aH (ae (kC (cL .u8)) ao) au fun (b,_) _=>⟨[],[.c (.fz .u8 ((b)))],none,false⟩
def aco:CK 211 QB:=ag fun (b,_) _ _=>by
 refine aq kF [] func211 (?_:(fun a=>a->((b.length:Int)=0->b=[])/\(¬(b.length:Int)=0->a->b=b)) (b.length*1<=140737488355328));(repeat' with_reducible first|apply aT|refine aW ?_|intro)
 all_goals (first | exact bR | exact (B7 az))
def nt:Kn:=aH (ae (kC (cL (.nm .entry))) ao) au fun (l,_) _=>⟨[],[.c (.own 0)],some ([.row 52 (.nm .entry) ((l))]),true⟩
def we:CK 213 nt:=ag fun (l,_) _ _=>by
 refine cr kF [] func213 (?_:(fun a=>a->∀ (b:Bool),(b=true->l=[])->(b=true->l=[])/\(b=false->a/\l=l)) (l.length*32<=140737488355328));exact fun h b c=>⟨c,fun _=>⟨h,rfl⟩⟩
def Da:Kn:=aH (ae (kC (cL (.nm .entry))) (ae (kC cI) (ae (kC cI) ao))) au fun (l,k,m,_) _=>⟨[],[.c (.bool (.atom ((decide (dx l k=m)))))],none,false⟩
def Nv:CK 166 Da:=ag fun (l,k,m,_) _ _=>by
 refine aq kF [] func166 (?_:l.length*32<=140737488355328->a7 k->a7 m->a7 (dx l k)->decide (dx l k=m)=decide (dx l k=m));intros; rfl
def DU:Kn:=aH (ae (kC (cL (.nm .entry))) (ae (kC cI) (ae (kC cI) ao))) au fun (l,k,m,_) _=>⟨[],[.c (.bool (.atom ((lf l k m))))],none,false⟩
def Vp:CK 170 DU:=ag fun (l,k,m,_) _ _=>by
 refine aq kF [] func170 (?_:l.length*32<=140737488355328->a7 k->a7 m->a7 (l.length:Int)->a7 (jh l)->(decide (jh l<m) || decide (m=jh l) && decide ((l.length:Int)<=k))=lf l k m);intros; rfl
def Df:Kn:=aH (ae (kC cI) (ae (kC cI) (ae (kC cB) ao))) au fun (n,m,a,_) _=>⟨[],[.c (.bool (.atom ((eM n m a))))],none,false⟩
theorem Uq:CK 164 Df:=ag fun (n,m,a,_) _ _=>by
 refine aq kF [] func164 (?_:a7 n->a7 m->(a=false->aO n 0 0=eM n m a)/\(a=true->aO n 0 m=eM n m a));(repeat' with_reducible first|apply aT|refine aW ?_|intro)
 all_goals first | (simp only [eM]; grind)
def akc:ck:=(aI 164 Df (aI 170 DU (aI 166 Da (aI 213 nt (aI 211 QB (aI 209 BS ajO))))))
def jr:ay prog (av l6) akc:=(ah Uq (ah Vp (ah Nv (ah we (ah aco (ah Pl kF))))))
theorem Zz (n:Nat):Q0 (n:Int)=ofNat n:=by
 apply UInt8.toNat_inj.1;rw [Q0,ofNat_toNat,ofNat_toNat]; omega
variable {m:Int}
def TN (h:(k<0\/(l.length:Int)<k)\/m<1):gh l k m=[]:=eg h
def OA (a:0<=k) (c:k<=(l.length:Int)) (d:1<=m):(l.drop k.toNat).take (min m ((l.drop k.toNat).length:Int)).toNat=gh l k m:=by
 rw [gh,dc az]
variable {m:List ec}
def ajc (h:k<0\/(l.length:Int)<k):bB l k m=(0,[]):=eg h
variable {j:Nat}
def aa2 (c:j<=iO (l.drop k.toNat) m) (d:0<=k) (f:k<=(l.length:Int)) (g:j<m.length) (i:(((l.drop k.toNat).length:Nat):Int)<=j):bB l k m=(0,m.drop j):=by
 have:=px (h:=l.drop k.toNat) (a:=m);have e:iO (l.drop k.toNat) m=j:=by omega
 rw [bB,dc az,e,dc az,eg az]
theorem aaz {y:ec} (c:j<=iO (l.drop k.toNat) m) (f:0<=k) (g:k<=(l.length:Int)) (h:(j:Int)<((l.drop k.toNat).length:Nat)) (a:m[j]? = some y) (i:¬ ((l.drop k.toNat).getD j (c5 (Sh.nm NT.entry))).bo=y.bo):bB l k m=(k+j+1,m.drop j):=by
 have d:(l.drop k.toNat)[j]? = some ((l.drop k.toNat).getD j (c5 (Sh.nm NT.entry))):=by grind
 have:=qI c d a;have o:=(r3.1 a).1;have e:iO (l.drop k.toNat) m=j:=by grind
 rw [bB,dc az,e,dc az,dc az]
theorem agA {y:ec} (a:j<=iO (l.drop k.toNat) m) (f:(j:Int)<((l.drop k.toNat).length:Nat)) (c:m[j]? = some y) (d:((l.drop k.toNat).getD j (c5 (Sh.nm NT.entry))).bo=y.bo):j+1<=iO (l.drop k.toNat) m:=by
 have e:(l.drop k.toNat)[j]? = some ((l.drop k.toNat).getD j (c5 (Sh.nm NT.entry))):=by grind
 exact (qI a e c).1 d
def ajx (a:j<=iO (l.drop k.toNat) m) (c:0<=k) (d:k<=(l.length:Int)) (e:(m.length:Int)<=j):bB l k m=(0,[]):=by
 rw [bB,dc az,eg az]
variable {x:eR}
theorem ab2 (h:((((((((((((¬x.kind=1/\¬x.kind=2)/\¬x.kind=3)/\¬x.kind=4)\/aO x.n7 0 4=false)\/aO x.to 0 4=false)\/x.n7=x.to)\/aO x.bo 1 1048576=false)\/aO x.bin 1 3=false)\/eM x.a 64 (decide (x.kind=1) || decide (x.kind=3) || decide (x.kind=4))=false)\/eM x.b 1048576 (decide (x.kind=1) || decide (x.kind=3))=false)\/eM x.c 64 (decide (x.kind=3))=false)\/(x.ok=true/\¬x.kind=2)/\¬x.kind=4)\/eM (x.l.length:Int) 4 (decide (x.kind=3))=false):oN x=false:=by
 unfold oN;grind
theorem ac1 (e:((x.kind=1\/x.kind=2)\/x.kind=3)\/x.kind=4) (f:aO x.n7 0 4=true) (g:aO x.to 0 4=true) (h:¬x.n7=x.to) (i:aO x.bo 1 1048576=true) (o:aO x.bin 1 3=true) (p:eM x.a 64 (decide (x.kind=1) || decide (x.kind=3) || decide (x.kind=4))=true) (q:eM x.b 1048576 (decide (x.kind=1) || decide (x.kind=3))=true) (r:eM x.c 64 (decide (x.kind=3))=true) (s:(x.ok=false\/x.kind=2)\/x.kind=4) (d:eM (x.l.length:Int) 4 (decide (x.kind=3))=true):oN x=true:=by
 unfold oN;grind
theorem ZO {y:ec} (h:aO y.bo 1 1048576=false\/200<(y.b.length:Int)):fH y=false:=by
 unfold fH;grind
def ZG {y:ec} (h:aO y.bo 1 1048576=true) (a:(y.b.length:Int)<=200):fH y=true:=by
 unfold fH; rw [h,F0 a]; rfl
variable {k:Nat}
def ai2 (h:oN x=true) (c:(x.l.length:Int)<=k) (a:(x.l.take k).all fH=true):0=o5 x:=by
 rw [r6 az] at a;rw [o5,eg ⟨h,a⟩]
theorem acU {y:ec} (a:x.l[k]? = some y) (h:fH y=false):1=o5 x:=by
 rw [o5,dc];grind
def aiB {y:ec} (a:x.l[k]? = some y) (h:fH y=true) (c:(x.l.take k).all fH=true):(x.l.take (k+1)).all fH=true:=by
 rw [aj a,J7,c]; simp [h]
def ajP (h:oN x=false):1=o5 x:=by
 rw [o5,dc (by rintro ⟨a,_⟩; rw [h] at a; cases a)]
def aek (x:eR):List (Nat × LI):=[(7,{ σ:=Nat,F:=fun k=>([(112,one (.fz (.nm .entry) x.l)),(113,one (.int x.l.length)),(114,one (.int k))],[]),J:=fun k=>k<=x.l.length/\oN x=true/\(x.l.take k).all fH=true,μ:=fun k=>x.l.length - k })]
def ZJ (l:List ec) (k:Int) (m:List ec):List (Nat × LI):=[(5,{ σ:=Nat,F:=fun j=>([(1,one (.int (k))),(2,one (.fz (.nm .entry) (m))),(8,one (.fz (.nm .entry) (l.drop k.toNat))),(22,one (.fz (.nm .entry) (m))),(23,one (.int (m).length)),(24,one (.int j))],[]),J:=fun j=>j<=m.length/\j<=iO (l.drop k.toNat) m,μ:=fun j=>(m).length - j })]
def JI:Kn:=aH (ae (kC (cL .u8)) (ae (kC cW) ao)) au fun (b,s,_) _=>⟨[],[.c (.bool (.atom ((decide (eP 1 b=s)))))],none,false⟩
def Wu:CK 143 JI:=ag fun (b,s,_) _ _=>by
 refine aq jr [] func143 (?_:b.length*1<=140737488355328->decide ((↑(eP 1 b):Int)=(s:Int))=decide (eP 1 b=s));(repeat' with_reducible first|apply aT|refine aW ?_|intro) <;> first | (simp only [decide_eq_decide]; omega)
def SL:Kn:=aH (ae (kC (cL .u8)) ao) au fun (x,_) _=>⟨[],[.c (.fz .u8 (((qu x).1))),.c (.int (((qu x).2)))],none,false⟩
theorem acv:CK 149 SL:=ag fun (x,_) _ _=>by
 refine aq (VN jr) [] func149 (?_:(fun (g:Nat)=>(fun (a:Nat)=>(fun (c:Int)=>(fun (e:Int)=>(fun (f:List (l5 Sh.u8))=>(fun (d:List (l5 Sh.u8))=>(fun (h:List (l5 Sh.u8))=>x.length*a<=(140737488355328:Nat)->(c=(0:Int)\/(4096:Int)<c->(qu x).fst=[]/\(4:Int)=(qu x).snd)/\(¬c=(0:Int)/\c<=(4096:Int)->a7 ((2:Int)+c)/\a7 e/\(0:Int)<=e/\e*(a:Int)<=(140737488355328:Int)/\(0:Int)<=c/\(8:Nat)<(64:Nat)/\((0:Nat)+f.length)*a<=(140737488355328:Nat)/\(([]++f).length+x.length)*a<=(140737488355328:Nat)/\(24:Nat)<(32:Nat)/\(16:Nat)<(32:Nat)/\(8:Nat)<(32:Nat)/\(d.length+h.length)*a<=(140737488355328:Nat)/\d++h=(qu x).fst/\(0:Int)=(qu x).snd)) [ofNat (eP a d / (2:Nat) ^ (24:Nat)),ofNat (eP a d / (2:Nat) ^ (16:Nat)),ofNat (eP a d / g),ofNat (eP a d)]) ([]++f++x)) [Q0 (↑(x.length / g):Int),Q0 c]) ((2:Int)+c+(4:Int))) (x.length:Int)) (1:Nat)) ((2:Nat) ^ (8:Nat)));(repeat' with_reducible first|apply aT|refine aW ?_|intro)
 all_goals first | exact bR | (simp only [qu,fB,jL,zS,Zz,T0] at *; grind)
def yf:Kn:=aH (ae (kC (cL (.nm .entry))) (ae (kC cI) (ae (kC cI) ao))) au fun (l,k,m,_) _=>⟨[],[.c (.fz (.nm .entry) ((gh l k m)))],none,false⟩
def M_:CK 194 yf:=ag fun (l,k,m,_) _ _=>by
 refine aq jr [] func194 (?_:(fun a=>l.length*32<=140737488355328->a7 k->a7 m->((k<0\/(l.length:Int)<k)\/m<1->gh l k m=[])/\((0<=k/\k<=(l.length:Int))/\1<=m->0<=k/\k<=(l.length:Int)/\0<=min m a/\min m a<=a/\take (min m a).toNat (drop k.toNat l)=gh l k m)) (↑(drop k.toNat l).length:Int));(repeat' with_reducible first|apply aT|refine aW ?_|intro)
 all_goals (first | exact bR | exact (TN ab) | exact (OA ab ab ab))
def IB:Kn:=aH (ae (kT (.nm .stable)) ao) au fun (s,_) _=>⟨[],[.agg ([.int ((s.floor)),.int ((s.bo)),.int ((s.jc)),.own 0])],some ([.row 52 (.nm .entry) ((s.log))]),true⟩
def XM:CK 147 IB:=ag fun (s,_) _ _=>by
 refine cr jr [] func147 (?_:cS s (eJ s s));(repeat' with_reducible first|apply aT|refine aW ?_|intro)
 all_goals (exact rfl)
def Dg:Kn:=aH (ae (kT (.nm .stable)) (ae (kC cI) ao)) au fun (s,t,_) _=>⟨[],[.c (.own 0)],some ([.row 108 (.nm .record) ((aB s t))]),true⟩
def QZ:CK 100 Dg:=ag fun (s,t,_) _ _=>by
 refine cr jr [] func100 (?_:cS s (a7 t->(t<=s.bo->aB s t=[])/\(s.bo<t->[c9.mk 2 t 0 []]=aB s t)));(repeat' with_reducible first|apply aT|refine aW ?_|intro)
 all_goals (first | (rw [aB,eg ab]) | (rw [aB,dc az]))
def JY:Kn:=aH (ae (kT (.nm .letter)) ao) au fun (x,_) _=>⟨[],[.c (.int ((o5 x)))],none,false⟩
theorem VF:CK 94 JY:=ag fun (x,_) _ _=>by
 refine aq jr (aek x) func94 (?_:(fun (o:Int)=>(fun (i:Int)=>(fun (q:Int)=>(fun (g:Int)=>(fun (h:Nat)=>(fun (f:Int)=>(fun (r:Prop)=>(fun (e:Int)=>(fun (v:Bool)=>(fun (q0:Bool)=>(fun (p:Bool)=>bf x (((((((((((((¬f=e/\¬r)/\¬f=3)/\¬f=g\/aO x.n7 i g=false)\/aO x.to i g=false)\/x.n7=x.to)\/aO x.bo e o=false)\/aO x.bin e 3=false)\/p=false)\/eM x.b o (v || q0)=false)\/eM x.c 64 q0=false)\/(x.ok=true/\¬r)/\¬f=g)\/eM q g q0=false->e=o5 x)/\(((((((((((((f=e\/r)\/f=3)\/f=g)/\aO x.n7 i g=true)/\aO x.to i g=true)/\¬x.n7=x.to)/\aO x.bo e o=true)/\aO x.bin e 3=true)/\p=true)/\eM x.b o (v || q0)=true)/\eM x.c 64 q0=true)/\((x.ok=false\/r)\/f=g))/\eM q g q0=true->∃ (y:Nat),(x.l=x.l/\q=(h:Int)/\i=(y:Int))/\(y<=h/\oN x=true/\(take y x.l).all fH=true)/\∀ (s:Nat),s<=h/\oN x=true/\(take s x.l).all fH=true->((s:Int)<(h:Int)->i<=(s:Int)/\(s:Int)<q/\∀ (d:ec),x.l[s]? = some d->a7 d.bo->d.b.length*1<=140737488355328->(aO d.bo e o=false\/200<(d.b.length:Int)->e=o5 x)/\(aO d.bo e o=true/\(d.b.length:Int)<=200->a7 ((s:Int)+e)/\∃ (u:Nat),(x.l=x.l/\(h:Int)=(h:Int)/\(s:Int)+e=(u:Int))/\(u <= h/\oN x=true/\(take u x.l).all fH=true)/\h - u < h - s))/\((h:Int)<=(s:Int)->i=o5 x)))) (eM x.a 64 (v || q0 || decide (f=g)))) (decide (f=3))) (decide (f=e))) 1) (f=2)) x.kind) x.l.length) 4) (x.l.length:Int)) 0) 1048576);iterate 3 ((all_goals (repeat' with_reducible first|apply aT|refine aW ?_|intro)); (all_goals try (first | exact bR | exact (ai2 ab ab ab) | exact (ajP (ab2 ab)) | exact (ac1 ab ab ab ab ab ab ab ab ab ab ab) | exact (aiB ab (ZG ab ab) ab) | exact (acU ab (ZO ab)))); all_goals try first | refine ⟨‹Nat› + 1,?_⟩ | refine ⟨0,?_⟩)
def AK:Kn:=aH (ae (kC (cL (.nm .entry))) (ae (kC cI) (ae (kC (cL (.nm .entry))) ao))) au fun (l,k,m,_) _=>⟨[],[.c (.int (((bB l k m).1))),.c (.fz (.nm .entry) (((bB l k m).2)))],none,false⟩
theorem Rz:CK 167 AK:=ag fun (l,k,m,_) _ _=>by
 refine aq jr (ZJ l k m) func167 (?_:(fun (g:Int)=>(fun (o:Nat)=>(fun (d:Nat)=>(fun (e:Int × List ec)=>(fun (c:Int)=>(fun (f:List (l5 (Sh.nm NT.entry)))=>l.length*32<=140737488355328->a7 k->m.length*32<=140737488355328->(k<c\/(l.length:Int)<k->c=e.fst/\e.snd=[])/\(c<=k/\k<=(l.length:Int)->c<=k/\k<=(l.length:Int)/\∃ (p:Nat),(k=k/\m=m/\f=f/\m=m/\g=(d:Int)/\c=(p:Int))/\(p<=d/\p<=o)/\∀ (s:Nat),(fun (h:l5 (Sh.nm NT.entry))=>(fun (a:Int)=>s<=d/\s<=o->(a<(d:Int)->c<=a/\a<g/\∀ (x:ec),m[s]? = some x->a7 x.bo->x.b.length*1<=140737488355328->((f.length:Int)<=a->c<=a/\a<=g/\c=e.fst/\drop s m=e.snd)/\(a<(f.length:Int)->c<=a/\a<(f.length:Int)/\(a7 h.bo->h.b.length*1<=140737488355328->(¬h.bo=x.bo->a7 (k+a)/\a7 (k+a+1)/\c<=a/\a<=g/\k+a+1=e.fst/\drop s m=e.snd)/\(h.bo=x.bo->a7 (a+1)/\∃ (i:Nat),(k=k/\m=m/\f=f/\m=m/\(d:Int)=(d:Int)/\a+1=(i:Int))/\(i <= d/\i <= o)/\d - i < d - s))))/\((d:Int)<=a->c=e.fst/\e.snd=[])) (s:Int)) (f.getD s (c5 (Sh.nm NT.entry))))) (drop k.toNat l)) 0) (bB l k m)) m.length) (iO (drop k.toNat l) m)) (m.length:Int));iterate 3 ((all_goals (repeat' with_reducible first|apply aT|refine aW ?_|intro)); (all_goals try (first | exact bR | exact (hC Prod.fst (ajc ab)).symm | exact (hC Prod.fst (aa2 ab ab ab az ab)).symm | exact (hC Prod.fst (aaz ab ab ab ab ab ab)).symm | exact (hC Prod.fst (ajx ab ab ab ab)).symm | exact (hC Prod.snd (aa2 ab ab ab az ab)).symm | exact (hC Prod.snd (aaz ab ab ab ab ab ab)).symm | exact (hC Prod.snd (ajc ab)) | exact (hC Prod.snd (ajx ab ab ab ab)) | exact (agA ab ab ab ab))); all_goals try first | refine ⟨‹Nat› + 1,?_⟩ | refine ⟨0,?_⟩)
def ajM:ck:=(aI 167 AK (aI 94 JY (aI 100 Dg (aI 147 IB (aI 194 yf (aI 149 SL (aI 143 JI akc)))))))
def im:ay prog (av l6) ajM:=(ah Rz (ah VF (ah QZ (ah XM (ah M_ (ah acv (ah Wu jr)))))))
variable {r:v7}
def rT {s:c4} (h:r.next<1\/(s.log.length:Int)+1<r.next):h_ s r=(di,1):=eg h
def rS {s:c4} (a:1<=r.next) (c:r.next<=(s.log.length:Int)+1) (h:¬ o5 (eR.mk 3 r.n7 r.to s.bo (r.next - 1) (dx s.log (r.next - 1)) r.c7 r.bin false (gh s.log (r.next - 1) 4))=0):h_ s r=(di,o5 (ru s r)):=by
 rw [h_,dc az,eg (show ¬ o5 (ru s r)=0 from h)]
def vB {s:c4} (a:1<=r.next) (c:r.next<=(s.log.length:Int)+1) (h:o5 (eR.mk 3 r.n7 r.to s.bo (r.next - 1) (dx s.log (r.next - 1)) r.c7 r.bin false (gh s.log (r.next - 1) 4))=0):h_ s r=(ru s r,0):=by
 rw [h_,dc az,dc (B4.2 (show o5 (ru s r)=0 from h))]
def Y9 (h:(b.length:Int)<2):bD b=([],0,2):=eg az
def Z1 (h:2<=(b.length:Int)) (a:eY b=0\/4096<eY b):bD b=([],0,3):=by rw [bD,dc az,eg a]
def Xw (h:2<=(b.length:Int)) (c:¬ eY b=0) (d:eY b<=4096) (a:(b.length:Int)<2+eY b+4):bD b=([],0,2):=by rw [bD,dc az,dc az,eg a]
variable {x:UInt8}
def SU {l:List UInt8} (h:l[k]? = some x):(Kt (l.take k)*2 ^ 8) % 4294967296 ||| x.toNat=Kt (l.take (k+1)):=by
 rw [aj h]; simp only [Kt,I5]; rfl
variable {n:Int}
def amD (a:0<=n):(b.drop (2+n).toNat).take ((2+n+4).toNat - (2+n).toNat)=(b.drop (2+n).toNat).take 4:=by
 congr 1; omega
def api (a:0<=n) (h:2+n+4<=(b.length:Int)):(((b.drop (2+n).toNat).take ((2+n+4).toNat - (2+n).toNat)).length:Int)=4:=by
 rw [s9,length_drop]; omega
def am0 (a:(k:Int)<4) (c:0<=n) (h:2+n+4<=(b.length:Int)):(k:Int)<(((b.drop (2+n).toNat).take 4).length:Nat):=by
 rw [s9,length_drop]; omega
def X_ (a:decide (eP 1 ((b.drop 0).take ((2+eY b).toNat - 0))=Kt (((b.drop (2+eY b).toNat).take 4).take k))=false) (c:(4:Int)<=k) (h:2<=(b.length:Int)) (d:¬ eY b=0) (e:eY b<=4096) (f:2+eY b+4<=(b.length:Int)):bD b=([],0,3):=by
 have a:=O3 a;rw [T1,O5,Q6,R1 az] at a;rw [bD,dc az,dc az,dc az,dc a]
def aeD (a:decide (eP 1 ((b.drop 0).take ((2+eY b).toNat - 0))=Kt (((b.drop (2+eY b).toNat).take 4).take k))=true) (c:(4:Int)<=k) (h:2<=(b.length:Int)) (d:¬ eY b=0) (e:eY b<=4096) (f:2+eY b+4<=(b.length:Int)):bD b=((b.drop 2).take ((2+eY b).toNat - 2),2+eY b+4,0):=by
 have a:=zc a;rw [T1,O5,Q6,R1 az] at a;rw [bD,dc az,dc az,dc az,eg a]
def aeR (b:List UInt8):List (Nat × LI):=[(11,{ σ:=Nat,F:=fun k=>([(0,one (.fz .u8 (b))),(6,one (.int (2+eY b))),(7,one (.xx (.w (Kt (((b.drop (2+eY b).toNat).take 4).take k))) [])),(40,one (.fz .u8 ((b.drop (2+eY b).toNat).take 4))),(41,one (.int 4)),(42,one (.int k))],[]),J:=fun k=>k<=4,μ:=fun k=>4 - k })]
def HR:Kn:=aH (ae (kC (cL .u8)) ao) au fun (b,_) _=>⟨[],[.c (.fz .u8 (((bD b).1))),.c (.int (((bD b).2.1))),.c (.int (((bD b).2.2)))],none,false⟩
theorem XJ:CK 83 HR:=ag fun (b,_) _ _=>by
 refine aq im (aeR b) func83 (?_:(fun i=>(fun o=>(fun A=>(fun T=>(fun U=>(fun z=>(fun p=>(fun g=>(fun u=>(fun a=>(fun B=>(fun v=>(fun y=>(fun C=>(fun c=>(fun D=>(fun I=>(fun f=>(fun h=>(fun J=>(fun d=>(fun e=>(fun L=>b.length*1<=140737488355328->(p<v->C)/\(v<=p->a<=a/\a<p/\i<64/\a7 y/\a<=1/\1<p/\a<=y/\a<=A/\(J=a\/4096<J->B)/\(¬J=a/\J<=4096->a7 d/\a7 e/\(p<e->C)/\(e<=p->a7 e/\a<=d/\d<=e/\e<=p/\∃ S,(b=b/\d=c/\o=Kt (take S h)/\L=take g f/\(L.length:Int)=u/\a=(S:Int))/\S<=g/\∀ (s:Nat),s<=g->((s:Int)<u->a<=(s:Int)/\(s:Int)<(↑(take g f).length:Int)/\∀ (x:UInt8),(take g f)[s]? = some x->i<32/\a7 ((s:Int)+1)/\∃ N,(b=b/\c=c/\Kt (take s h)*2 ^ i % 4294967296 ||| x.toNat=Kt (take N h)/\take g f=take g f/\u=u/\(s:Int)+1=(N:Int))/\N <= g/\g - N < g - s)/\(u<=(s:Int)->a<=a/\a<=c/\c<=c/\c<=p/\(decide (I=Kt (take s h))=false->B)/\(decide (I=Kt (take s h))=true->a<=v/\v<=c/\c<=c/\c<=p/\(D.length*1<=140737488355328->a7 (c+u)/\D=(bD b).fst/\c+u=z.fst/\a=z.snd))))))) (take (e.toNat - d.toNat) (drop d.toNat b))) (d+u)) (v+J)) (N0 y A)) (take g f)) (drop c.toNat b)) (eP 1 (take (c.toNat - o) (drop o b)))) (take (c.toNat - 2) (drop 2 b))) (v+eY b)) (T/\a=z.fst/\v=z.snd)) (U*v ^ i)) (2:Int)) (T/\a=z.fst/\3=z.snd)) (0:Int)) (4:Int)) (4:Nat)) (b.length:Int)) (bD b).snd) (↑(toNat (b.getD o (c5 Sh.u8))):Int)) ((bD b).fst=[])) (↑(toNat (b.getD 1 (c5 Sh.u8))):Int)) (0:Nat)) (8:Nat));have O:=WA b;have V:=(b.getD 0 (c5 .u8):UInt8).toNat_lt;have W:=(b.getD 1 (c5 .u8):UInt8).toNat_lt;dsimp only [eY] at O;iterate 3 ((all_goals (repeat' with_reducible first|apply aT|refine aW ?_|intro)); (all_goals try (first | exact bR | exact (hC (fun q=>q.2.1) (Y9 ab)).symm | exact (hC (fun q=>q.2.2) (Y9 ab)).symm | exact (hC (fun q=>q.2.1) (Z1 ab ab)).symm | exact (hC (fun q=>q.2.2) (Z1 ab ab)).symm | exact (hC Prod.fst (Xw ab ab ab ab)).symm | exact (hC (fun q=>q.2.1) (Xw ab ab ab ab)).symm | exact (hC (fun q=>q.2.2) (Xw ab ab ab ab)).symm | exact (hC Prod.fst (X_ ab ab ab ab ab ab)).symm | exact (hC (fun q=>q.2.1) (X_ ab ab ab ab ab ab)).symm | exact (hC (fun q=>q.2.2) (X_ ab ab ab ab ab ab)).symm | exact (hC Prod.fst (aeD ab ab ab ab ab ab)).symm | exact (hC (fun q=>q.2.1) (aeD ab ab ab ab ab ab)).symm | exact (hC (fun q=>q.2.2) (aeD ab ab ab ab ab ab)).symm | exact (hC Prod.fst (Y9 ab)) | exact (hC Prod.fst (Z1 ab ab)) | exact (hC Prod.fst (Xw ab ab ab ab)) | exact (hC Prod.fst (X_ ab ab ab ab ab ab)) | exact rfl | exact (amD O) | exact (api O ab) | exact (am0 ab O ab) | exact (SU ab) | (dsimp only [eY]; omega) | (refine cY ?_ ?_ <;> dsimp only [eY] <;> omega) | (rw [s9,length_drop]; omega))); all_goals try first | refine ⟨‹Nat› + 1,?_⟩ | refine ⟨0,?_⟩)
def xB:Kn:=aH (ae (kC (bm 0 0)) (ae (kT (.nm .record)) ao)) (aF (eu 64 (ax cI (ax cI (ax cI (ax (fE 1) dY))))) (aF (fD 52 (.nm .entry)) au)) fun (_,r,_) ((a,d,e,_,_),f,_)=>⟨[],[.c (.bool (.atom (((eV (c4.mk a d e f) r).isSome))))],some ([.box 64 ([.int ((((eV (c4.mk a d e f) r).getD (c4.mk a d e f)).floor)),.int ((((eV (c4.mk a d e f) r).getD (c4.mk a d e f)).bo)),.int ((((eV (c4.mk a d e f) r).getD (c4.mk a d e f)).jc)),.own 1]),.row 52 (.nm .entry) ((((eV (c4.mk a d e f) r).getD (c4.mk a d e f)).log))]),false⟩
theorem MC:CK 214 xB:=ag fun (_,r,_) ((d,e,f,_,_),g,_) _=>by
 refine bP im [] func214 (?_:(fun c=>eN r ((r.a<d->false=(eV c r).isSome/\eJ c ((eV c r).getD c))/\(d<=r.a->true=(eV c r).isSome/\eJ (c4.mk r.a e f g) ((eV c r).getD c)))) (c4.mk d e f g));(repeat' with_reducible first|apply aT|refine aW ?_|intro)
 all_goals first | (simp only [eV]; grind)
def Ea:Kn:=aH (ae (kC (bm 0 0)) (ae (kT (.nm .record)) ao)) (aF (eu 64 (ax cI (ax cI (ax cI (ax (fE 1) dY))))) (aF (fD 52 (.nm .entry)) au)) fun (_,r,_) ((a,d,e,_,_),f,_)=>⟨[],[.c (.bool (.atom (((gj (c4.mk a d e f) r).isSome))))],some ([.box 64 ([.int ((((gj (c4.mk a d e f) r).getD (c4.mk a d e f)).floor)),.int ((((gj (c4.mk a d e f) r).getD (c4.mk a d e f)).bo)),.int ((((gj (c4.mk a d e f) r).getD (c4.mk a d e f)).jc)),.own 1]),.row 52 (.nm .entry) ((((gj (c4.mk a d e f) r).getD (c4.mk a d e f)).log))]),false⟩
theorem Ol:CK 215 Ea:=ag fun (_,r,_) ((f,d,e,_,_),g,_) _=>by
 refine bP im [] func215 (?_:(fun c=>eN r ((r.a<d\/(r.a=d/\¬e=0)/\¬e=r.b->false=(gj c r).isSome/\eJ c ((gj c r).getD c))/\(d<=r.a/\((¬r.a=d\/e=0)\/e=r.b)->true=(gj c r).isSome/\eJ (c4.mk f r.a r.b g) ((gj c r).getD c)))) (c4.mk f d e g));(repeat' with_reducible first|apply aT|refine aW ?_|intro)
 all_goals first | (simp only [gj]; grind)
def JN:Kn:=aH (ae (kC (bm 0 0)) (ae (kT (.nm .record)) ao)) (aF (eu 64 (ax cI (ax cI (ax cI (ax (fE 1) dY))))) (aF (fD 52 (.nm .entry)) au)) fun (_,r,_) ((d,e,f,_,_),g,_)=>⟨[1<=r.a/\r.a<=64],[.c (.bool (.atom (((gw (c4.mk d e f g) r).isSome))))],some ([.box 64 ([.int ((((gw (c4.mk d e f g) r).getD (c4.mk d e f g)).floor)),.int ((((gw (c4.mk d e f g) r).getD (c4.mk d e f g)).bo)),.int ((((gw (c4.mk d e f g) r).getD (c4.mk d e f g)).jc)),.own 1]),.row 52 (.nm .entry) ((((gw (c4.mk d e f g) r).getD (c4.mk d e f g)).log))]),false⟩
theorem Ym:CK 217 JN:=ag fun (_,r,_) ((f,g,h,_,_),d,_) i=>by
 have o:=b_ i;refine bP (yS im) [] func217 (?_:(fun e=>(fun c=>eN r (((d.length:Int)<r.a->false=(gw c r).isSome/\eJ c ((gw c r).getD c))/\(r.a<=(d.length:Int)->a7 e/\(0<=e/\e<=(d.length:Int))/\true=(gw c r).isSome/\eJ (c4.mk f g h (take e.toNat d)) ((gw c r).getD c)))) (c4.mk f g h d)) (r.a - 1));(repeat' with_reducible first|apply aT|refine aW ?_|intro)
 all_goals first | exact bR | (simp only [gw]; grind)
def yi:Kn:=aH (ae (kC (bm 0 0)) (ae (kT (.nm .record)) ao)) (aF (eu 64 (ax cI (ax cI (ax cI (ax (fE 1) dY))))) (aF (fD 52 (.nm .entry)) au)) fun (_,r,_) ((d,e,f,_,_),a,_)=>⟨[a.length<=1000000,r.x.length<=200],[.c (.bool (.atom (((eH (c4.mk d e f a) r).isSome))))],some ([.box 64 ([.int ((((eH (c4.mk d e f a) r).getD (c4.mk d e f a)).floor)),.int ((((eH (c4.mk d e f a) r).getD (c4.mk d e f a)).bo)),.int ((((eH (c4.mk d e f a) r).getD (c4.mk d e f a)).jc)),.own 1]),.row 52 (.nm .entry) ((((eH (c4.mk d e f a) r).getD (c4.mk d e f a)).log))]),false⟩
theorem KZ:CK 216 yi:=ag fun (_,r,_) ((f,g,h,_,_),d,_) i=>by
 have p:=b_ i;have q:=b_ (dv i);refine bP im [] func216 (?_:(fun o=>(fun e=>(fun c=>eN r (a7 e/\(¬r.a=e->false=(eH c r).isSome/\eJ c ((eH c r).getD c))/\(r.a=e->(o->(d.length+[ec.mk r.b r.x].length)*32<=140737488355328)/\(o->true=(eH c r).isSome/\eJ (c4.mk f g h (d++[ec.mk r.b r.x])) ((eH c r).getD c))))) (c4.mk f g h d)) ((d.length:Int)+1)) (r.x.length*1<=140737488355328));(repeat' with_reducible first|apply aT|refine aW ?_|intro)
 all_goals first | exact bR | (simp only [eH]; grind) | (simp only [y4,C1]; omega)
def Za :s6 prog (av l6) 148 [] [] ⟨[],[.c (.xx (.km ct) [])],none,false⟩:=Mt
def Im:Kn:=aH ao au fun _ _=>⟨[],[.c (.xx (.km ct) [])],none,false⟩
def Xs:CK 148 Im:=ag fun _ _ _=>Za
def JA:Kn:=aH (ae (kC (bm 0 0)) (ae (kC (bm 1 0)) (ae (kC (bm 2 0)) ao))) (aF (Ag 40 (.nm .letter)) (aF (Ag 64 (.nm .stable)) (aF (eu 3 (ax cI dY)) au))) fun _ (x,s,(a,_),_)=>⟨[],[.c (.bool (.atom ((decide (s.bo<x.bo) || decide (s.jc=0) || decide (s.jc=a)))))],none,false⟩
def XD:CK 169 JA:=ag fun _ (x,s,(a,_),_) _=>by
 refine aq im [] func169 (?_:(fun c=>c=c) (decide (s.bo<x.bo) || decide (s.jc=0) || decide (s.jc=a)));(repeat' with_reducible first|apply aT|refine aW ?_|intro)
 all_goals rfl
def CJ:Kn:=aH (ae (kT (.nm .stable)) (ae (kC cI) ao)) au fun (s,t,_) _=>⟨[s.bo<=1048576],[.c (.fz (.nm .record) (((bh s t).1))),.c (.int (((bh s t).2)))],none,false⟩
theorem TH:CK 48 CJ:=ag fun (s,t,_) _ a=>by
 have c:=b_ a;refine aq im [] func48 (?_:cS s (a7 t->(t<0\/5<=t->(bh s t).fst=[]/\1=(bh s t).snd)/\(0<=t/\t<5->(1048576<=s.bo->(bh s t).fst=[]/\4=(bh s t).snd)/\(s.bo<1048576->a7 (s.bo+1)/\a7 (t+1)/\[c9.mk 2 (s.bo+1) (t+1) []]=(bh s t).fst/\0=(bh s t).snd))));(repeat' with_reducible first|apply aT|refine aW ?_|intro)
 all_goals first | (simp only [bh]; grind) | (have q:=(by with_reducible assumption:a7 s.bo); exact cY (by have:=q.1; omega) (by have:=q.2; omega))
def Hy:Kn:=aH (ae (kT (.nm .stable)) (ae (kT (.nm .route)) ao)) au fun (s,r,_) _=>⟨[],[.agg (cellsOf (.nm .letter) ((h_ s r).1)),.c (.int (((h_ s r).2)))],none,false⟩
def Wc:CK 120 Hy:=ag fun (s,r,_) _ _=>by
 refine aq im [] func120 (?_:(fun f=>(fun i=>(fun g=>(fun e=>(fun d=>(fun h=>cS s (We r ((f<=r.next->a7 i)/\(r.next<f\/i<r.next->e=d.kind/\e=d.n7/\e=d.to/\e=d.bo/\e=d.a/\e=d.b/\e=d.c/\e=d.bin/\false=d.ok/\d.l=[]/\f=(h_ s r).snd)/\(f<=r.next/\r.next<=i->a7 g/\(a7 (dx s.log g)->(gh s.log g 4).length*32<=140737488355328->a7 (o5 h)->(¬o5 h=e->e=d.kind/\e=d.n7/\e=d.to/\e=d.bo/\e=d.a/\e=d.b/\e=d.c/\e=d.bin/\false=d.ok/\d.l=[]/\o5 h=(h_ s r).snd)/\(o5 h=e->iG h d (e=(h_ s r).snd))))))) (eR.mk 3 r.n7 r.to s.bo g (dx s.log g) r.c7 r.bin false (gh s.log g 4))) (h_ s r).fst) (0:Int)) (r.next - f)) ((s.log.length:Int)+f)) (1:Int));(repeat' with_reducible first|apply aT|refine aW ?_|intro)
 all_goals (first | exact bR | exact (hC (fun q=>q.2) (rT ab)).symm | exact (hC (fun q=>q.1.kind) (rT ab)).symm | exact (hC (fun q=>q.1.n7) (rT ab)).symm | exact (hC (fun q=>q.1.to) (rT ab)).symm | exact (hC (fun q=>q.1.bo) (rT ab)).symm | exact (hC (fun q=>q.1.a) (rT ab)).symm | exact (hC (fun q=>q.1.b) (rT ab)).symm | exact (hC (fun q=>q.1.c) (rT ab)).symm | exact (hC (fun q=>q.1.bin) (rT ab)).symm | exact (hC (fun q=>q.1.ok) (rT ab)).symm | exact (hC (fun q=>q.1.l) (rT ab)).symm | exact (hC (fun q=>q.2) (rS ab ab ab)).symm | exact (hC (fun q=>q.1.kind) (rS ab ab ab)).symm | exact (hC (fun q=>q.1.n7) (rS ab ab ab)).symm | exact (hC (fun q=>q.1.to) (rS ab ab ab)).symm | exact (hC (fun q=>q.1.bo) (rS ab ab ab)).symm | exact (hC (fun q=>q.1.a) (rS ab ab ab)).symm | exact (hC (fun q=>q.1.b) (rS ab ab ab)).symm | exact (hC (fun q=>q.1.c) (rS ab ab ab)).symm | exact (hC (fun q=>q.1.bin) (rS ab ab ab)).symm | exact (hC (fun q=>q.1.ok) (rS ab ab ab)).symm | exact (hC (fun q=>q.1.l) (rS ab ab ab)).symm | exact (hC (fun q=>q.2) (vB ab ab ab)).symm | exact (hC (fun q=>q.1.kind) (vB ab ab ab)).symm | exact (hC (fun q=>q.1.n7) (vB ab ab ab)).symm | exact (hC (fun q=>q.1.to) (vB ab ab ab)).symm | exact (hC (fun q=>q.1.bo) (vB ab ab ab)).symm | exact (hC (fun q=>q.1.a) (vB ab ab ab)).symm | exact (hC (fun q=>q.1.b) (vB ab ab ab)).symm | exact (hC (fun q=>q.1.c) (vB ab ab ab)).symm | exact (hC (fun q=>q.1.bin) (vB ab ab ab)).symm | exact (hC (fun q=>q.1.ok) (vB ab ab ab)).symm | exact (hC (fun q=>q.1.l) (vB ab ab ab)).symm | exact (hC (fun q=>q.1.l) (rT ab)) | exact (hC (fun q=>q.1.l) (rS ab ab ab)))
def aim:ck:=(aI 120 Hy (aI 48 CJ (aI 169 JA (aI 148 Im (aI 216 yi (aI 217 JN (aI 215 Ea (aI 214 xB (aI 83 HR ajM)))))))))
def pD:ay prog (av l6) aim:=(ah Wc (ah TH (ah XD (ah Xs (ah KZ (ah Ym (ah Ol (ah MC (ah XJ im)))))))))
variable {r:c9}
theorem aiX (h:((((((eB ct r.kind).isSome=false\/r.a<(((eB ct r.kind).getD kz).getD 0 KC.nf).int)\/(((eB ct r.kind).getD kz).getD 1 KC.nf).int<r.a)\/r.b<0)\/(((eB ct r.kind).getD kz).getD 3 KC.nf).int<r.b)\/(((eB ct r.kind).getD kz).getD 4 KC.nf).int<(r.x.length:Int))):a_ r=([],1):=by
 rw [a_,dc];intro e;simp [l9] at e;obtain ⟨⟨⟨⟨⟨i,c⟩,d⟩,o⟩,f⟩,g⟩:=e;unfold M7 at c d f g;grind
def Vb (c:(eB ct r.kind).isSome=true) (d:(((eB ct r.kind).getD kz).getD 0 KC.nf).int<=r.a) (e:r.a<=(((eB ct r.kind).getD kz).getD 1 KC.nf).int) (f:0<=r.b) (g:r.b<=(((eB ct r.kind).getD kz).getD 3 KC.nf).int) (h:(r.x.length:Int)<=(((eB ct r.kind).getD kz).getD 4 KC.nf).int):l9 r=true:=by
 simp [l9];exact ⟨⟨⟨⟨⟨c,d⟩,e⟩,f⟩,g⟩,h⟩
def DP (h:l9 r=true):1<=r.kind/\r.kind<=4/\0<=r.a/\r.a<=1048576/\0<=r.b/\r.b<=1048576/\r.x.length<=200/\(bF r.a.toNat).length<=10/\(bF r.b.toNat).length<=10:=by
 have c:=cO (n:=r.a.toNat) (by rcases cV.1 h with h | h | h | h <;> omega);have d:=cO (n:=r.b.toNat) (by rcases cV.1 h with h | h | h | h <;> omega);have e:r.x.length<=200:=by rcases cV.1 h with h | h | h | h <;> simp [h]
 rcases cV.1 h with h | h | h | h <;> omega
def Wk (h:l9 r=true):a_ r=(ei r,0):=by rw [a_,eg h]
def ao0 (h:l9 r=true) (c:(((eB ct r.kind).getD kz).getD 2 KC.nf).bool=true):[ofNat r.kind.toNat]++bF r.a.toNat++bF r.b.toNat++r.x=(a_ r).1:=by
 rw [Wk h,ei,eg (show wj r.kind=true from c)]
def apJ (h:l9 r=true) (c:(((eB ct r.kind).getD kz).getD 2 KC.nf).bool=false):[ofNat r.kind.toNat]++bF r.a.toNat++r.x=(a_ r).1:=by
 rw [Wk h,ei,dc (by rw [show wj r.kind=false from c]; decide),A3]
def ahM (b:List UInt8):(((ak b).2.1:Nat):Int)<=(b.length:Nat):=by
 have:=(mT (l:=b) (k:=0) (n:=0) az).2;show (((bW 0 0 b).2.1:Nat):Int)<=_;omega
def acn (a:b[0]? = some x):(b.getD 0 (c5 .u8):UInt8)=x:=by
 rw [ts,a]; rfl
def WQ (a:b[0]? = some x):¬ b.length=0:=by
 have:=(r3.1 a).1; omega
def Mn (h:(b.length:Int)=0):cn b=(wm,false):=eg az
def wu (a:b[0]? = some x) (c:¬ (ak (b.drop 1)).2.2=0):cn b=(wm,false):=by
 rw [cn,dc (WQ a),eg c]
def wk (a:b[0]? = some x) (c:(ak (b.drop 1)).2.2=0) (d:(((eB ct (x.toNat:Int)).getD kz).getD 2 KC.nf).bool=true) (e:¬ (ak ((b.drop 1).drop (ak (b.drop 1)).2.1)).2.2=0):cn b=(wm,false):=by
 rw [cn,dc (WQ a),dc (B4.2 c),acn a,eg (show wj (x.toNat:Int)=true from d),eg e]
def vV (a:b[0]? = some x) (c:(ak (b.drop 1)).2.2=0) (d:(((eB ct (x.toNat:Int)).getD kz).getD 2 KC.nf).bool=true) (e:(ak ((b.drop 1).drop (ak (b.drop 1)).2.1)).2.2=0):cn b=(⟨(x.toNat:Int),de (ak (b.drop 1)).1,de (ak ((b.drop 1).drop (ak (b.drop 1)).2.1)).1,((b.drop 1).drop (ak (b.drop 1)).2.1).drop (ak ((b.drop 1).drop (ak (b.drop 1)).2.1)).2.1⟩,true):=by
 rw [cn,dc (WQ a),dc (B4.2 c),acn a,eg (show wj (x.toNat:Int)=true from d),dc (B4.2 e)]
def wg (a:b[0]? = some x) (c:(ak (b.drop 1)).2.2=0) (d:(((eB ct (x.toNat:Int)).getD kz).getD 2 KC.nf).bool=false):cn b=(⟨(x.toNat:Int),de (ak (b.drop 1)).1,0,(b.drop 1).drop (ak (b.drop 1)).2.1⟩,true):=by
 rw [cn,dc (WQ a),dc (B4.2 c),acn a,dc (by rw [show wj (x.toNat:Int)=false from d]; decide)]
variable {x:eR}
def afJ {s:c4} (h:¬ o5 x=0\/¬ x.kind=1):aZ s x=([],false,1):=eg h
def ae7 {s:c4} (c:o5 x=0) (d:x.kind=1) (h:(x.bo<s.bo\/(decide (s.bo<x.bo) || decide (s.jc=0) || decide (s.jc=x.n7+1))=false)\/lf s.log x.a x.b=false):aZ s x=(aB s x.bo,false,0):=by
 rw [aZ,dc az]; exact eg h
theorem aj8 {s:c4} (d:o5 x=0) (e:x.kind=1) (f:s.bo<=x.bo) (c:(decide (s.bo<x.bo) || decide (s.jc=0) || decide (s.jc=x.n7+1))=true) (g:lf s.log x.a x.b=true):aZ s x=if x.bo=s.bo/\s.jc=x.n7+1 then ([],true,0) else ([⟨2,x.bo,x.n7+1,[]⟩],true,0):=by
 rw [aZ,dc az,dc];rintro ((h | h) | h)
 ·omega
 ·rw [show Jw s x=true from c] at h; cases h
 grind
def Z2 {s:c4} (c:o5 x=0) (d:x.kind=1) (e:s.bo<=x.bo) (f:(decide (s.bo<x.bo) || decide (s.jc=0) || decide (s.jc=x.n7+1))=true) (g:lf s.log x.a x.b=true) (h:x.bo=s.bo) (i:s.jc=x.n7+1):aZ s x=([],true,0):=by
 rw [aj8 c d e f g,eg ⟨h,i⟩]
def afM {s:c4} (c:o5 x=0) (d:x.kind=1) (e:s.bo<=x.bo) (f:(decide (s.bo<x.bo) || decide (s.jc=0) || decide (s.jc=x.n7+1))=true) (g:lf s.log x.a x.b=true) (h:¬ x.bo=s.bo\/¬ s.jc=x.n7+1):aZ s x=([⟨2,x.bo,x.n7+1,[]⟩],true,0):=by
 rw [aj8 c d e f g,dc az]
def eW (s:c4) (x:eR) (k:Nat):List c9:=aB s x.bo++(if (bB s.log x.a x.l).1=0 then [] else [⟨4,(bB s.log x.a x.l).1,0,[]⟩])++fF (x.a+x.l.length - (bB s.log x.a x.l).2.length+1) ((bB s.log x.a x.l).2.take k)
theorem uk:∀ {n:Int} {l:List ec} {y:ec},fF n (l++[y])=fF n l++[⟨3,n+l.length,y.bo,y.b⟩]
 | n,[],y=>by simp [fF]
 | n,z :: l,y=>by
  rw [D0,fF,uk,fF,D0,y4];simp; omega
theorem xh:∀ {n:Int} {l:List ec},(fF n l).length=l.length
 | _,[]=>rfl
 | n,_ :: l=>by rw [fF,y4,y4,xh]
def amw {s:c4} (h:¬ (bB s.log x.a x.l).1=0):aB s x.bo++[c9.mk 4 (bB s.log x.a x.l).1 0 []]=eW s x 0:=by
 rw [eW,dc h,T2,fF,A3]
def apA {s:c4} (h:(bB s.log x.a x.l).1=0):aB s x.bo=eW s x 0:=by
 rw [eW,eg h,T2,fF,A3,A3]
def ap5 {s:c4} {y:ec} (h:(bB s.log x.a x.l).2[k]? = some y):eW s x k++[c9.mk 3 (x.a+x.l.length - (bB s.log x.a x.l).2.length+k+1) y.bo y.b]=eW s x (k+1):=by
 have c:=(r3.1 h).1;rw [eW,eW,aj h,uk,I4,s9,E3 az];congr 4; omega
def CN {s:c4} (h:(¬ o5 x=0\/¬ x.kind=3)\/64<x.a+x.l.length):aD s x=([],false,0,1):=eg h
def BI {s:c4} (d:o5 x=0) (e:x.kind=3) (f:x.a+x.l.length<=64) (c:x.bo<s.bo):aD s x=([],false,0,0):=by
 rw [aD,dc az,eg c]
def AU {s:c4} (d:o5 x=0) (e:x.kind=3) (f:x.a+x.l.length<=64) (g:s.bo<=x.bo) (c:decide (dx s.log x.a=x.b)=false):aD s x=(aB s x.bo,false,0,0):=by
 rw [aD,dc az,dc az,dc (O3 c)]
def Ek {s:c4} (d:o5 x=0) (e:x.kind=3) (f:x.a+x.l.length<=64) (g:s.bo<=x.bo) (c:decide (dx s.log x.a=x.b)=true) (h:((bB s.log x.a x.l).2.length:Int)<=k):aD s x=(eW s x k,true,x.a+x.l.length,0):=by
 rw [aD,dc az,dc az,eg (zc c),eW,r6 az]; rfl
theorem xG {k:Int}:(bB l k m).2.length<=m.length/\0<=(bB l k m).1/\(bB l k m).1<=l.length+1:=by
 unfold bB;grind
theorem aeX {s:c4}:(eW s x k).length<=2+x.l.length:=by
 have:=(xG (l:=s.log) (m:=x.l) (k:=x.a)).1;simp [eW,xh];have c:(aB s x.bo).length<=1:=by unfold aB; split <;> simp
 grind
theorem ajn {s:c4} (h:o5 x=0):((eW s x k).length+[r].length)*48<=140737488355328:=by
 have:=gi h;have:=aeX (s:=s) (x:=x) (k:=k);grind
theorem akB {s:c4}:((aB s n).length+[r].length)*48<=140737488355328:=by
 have a:(aB s n).length<=1:=by unfold aB; split <;> simp
 grind
def ads (s:c4) (x:eR):List (Nat × LI):=[(13,{ σ:=Nat,F:=fun k=>([(4,one (.own 0)),(6,one (.int (x.a+x.l.length))),(9,one (.fz (.nm .entry) (bB s.log x.a x.l).2)),(70,one (.fz (.nm .entry) (bB s.log x.a x.l).2)),(71,one (.int (bB s.log x.a x.l).2.length)),(72,one (.int k))],[.row 108 (.nm .record) ((eW s x k))]),J:=fun k=>k<=(bB s.log x.a x.l).2.length,μ:=fun k=>(bB s.log x.a x.l).2.length - k })]
def HL:Kn:=aH (ae (kT (.nm .record)) ao) au fun (r,_) _=>⟨[],[.c (.fz .u8 (((a_ r).1))),.c (.int (((a_ r).2)))],none,false⟩
def HU:CK 145 HL:=ag fun (r,_) _ _=>by
 refine aq pD [] func145 (?_:(fun e=>(fun c=>(fun f=>(fun d=>eN r (((((((eB ct r.kind).isSome=false\/r.a<(d.getD 0 KC.nf).int)\/(d.getD e KC.nf).int<r.a)\/r.b<c)\/(d.getD 3 KC.nf).int<r.b)\/(d.getD 4 KC.nf).int<(r.x.length:Int)->(a_ r).fst=[]/\1=(a_ r).snd)/\((((((eB ct r.kind).isSome=true/\(d.getD 0 KC.nf).int<=r.a)/\r.a<=(d.getD e KC.nf).int)/\c<=r.b)/\r.b<=(d.getD 3 KC.nf).int)/\(r.x.length:Int)<=(d.getD 4 KC.nf).int->c<=r.kind/\c<=r.a/\([ofNat r.kind.toNat].length+(bF r.a.toNat).length)*e<=140737488355328/\((d.getD 2 KC.nf).bool=true->c<=r.b/\(f.length+(bF r.b.toNat).length)*e<=140737488355328/\((f++bF r.b.toNat).length+r.x.length)*e<=140737488355328/\f++bF r.b.toNat++r.x=(a_ r).fst/\c=(a_ r).snd)/\((d.getD 2 KC.nf).bool=false->(f.length+r.x.length)*e<=140737488355328/\f++r.x=(a_ r).fst/\c=(a_ r).snd)))) ((eB ct r.kind).getD [KC.i c,KC.i c,KC.b false,KC.i c,KC.i c,KC.nf])) ([ofNat r.kind.toNat]++bF r.a.toNat)) (0:Int)) (1:Nat));(repeat' with_reducible first|apply aT|refine aW ?_|intro)
 all_goals (first | exact (hC (fun q=>q.1) (aiX ab)) | exact (hC (fun q=>q.2) (aiX ab)).symm | exact (hC (fun q=>q.2) (Wk (Vb ab ab ab ab ab ab))).symm | exact (ao0 (Vb ab ab ab ab ab ab) ab) | exact (apJ (Vb ab ab ab ab ab ab) ab) | (have g:=DP (Vb ab ab ab ab ab ab); omega) | (have g:=DP (Vb ab ab ab ab ab ab); simp only [r5,y4,C1]; omega))
def Yl (r:c9):s6 prog (av l6) 145 [.agg (cellsOf (.nm .record) r)] [] ⟨[],[.c (.fz .u8 (((a_ r).1))),.c (.int (((a_ r).2)))],none,false⟩:=HU _ _ _ rfl aa
def xy:Kn:=aH (ae (kC (cL .u8)) ao) au fun (b,_) _=>⟨[],[.agg (cellsOf (.nm .record) ((cn b).1)),.c (.bool (.atom (((cn b).2))))],none,false⟩
def Lq:CK 144 xy:=ag fun (b,_) _ _=>by
 refine aq pD [] func144 (?_:(fun o=>(fun g=>(fun h=>(fun c=>(fun u=>(fun d=>(fun p=>(fun e=>(fun f=>b.length*g<=140737488355328->(o=c->p)/\(¬o=c->c<=c/\c<o/\∀ (x:UInt8),(fun s=>b[(0:Nat)]? = some x->c<=1/\1<=o/\(d.fst<18446744073709551616->a7 (d.snd.fst:Int)->a7 d.snd.snd->(¬d.snd.snd=c->p)/\(d.snd.snd=c->(c<=(d.snd.fst:Int)/\(d.snd.fst:Int)<=(↑(drop g b).length:Int))/\(s=true->(ak e).fst<18446744073709551616->a7 (f.fst:Int)->a7 f.snd->(¬f.snd=c->p)/\(f.snd=c->(c<=(f.fst:Int)/\(f.fst:Int)<=(e.length:Int))/\((drop f.fst e).length*g<=140737488355328->tP (c9.mk (x.toNat:Int) (de d.fst) (de (ak e).fst) (drop f.fst e)) h (true=(cn b).snd))))/\(s=false->e.length*g<=140737488355328->tP (c9.mk (x.toNat:Int) (de d.fst) c e) h (true=(cn b).snd))))) (((eB ct (x.toNat:Int)).getD u).getD 2 KC.nf).bool)) (ak e).snd) (drop d.snd.fst (drop g b))) (c=h.kind/\c=h.a/\c=h.b/\h.x=[]/\false=(cn b).snd)) (ak (drop g b))) [KC.i c,KC.i c,KC.b false,KC.i c,KC.i c,KC.nf]) (0:Int)) (cn b).fst) (1:Nat)) (b.length:Int));(repeat' with_reducible first|apply aT|refine aW ?_|intro)
 all_goals (first | exact bR | exact (hC (fun q=>q.2) (Mn ab)).symm | exact (hC (fun q=>q.1.kind) (Mn ab)).symm | exact (hC (fun q=>q.1.a) (Mn ab)).symm | exact (hC (fun q=>q.1.b) (Mn ab)).symm | exact (hC (fun q=>q.1.x) (Mn ab)) | exact (hC (fun q=>q.1.x) (Mn ab)).symm | exact (hC (fun q=>q.2) (wu ab ab)) | exact (hC (fun q=>q.2) (wu ab ab)).symm | exact (hC (fun q=>q.1.kind) (wu ab ab)) | exact (hC (fun q=>q.1.kind) (wu ab ab)).symm | exact (hC (fun q=>q.1.a) (wu ab ab)) | exact (hC (fun q=>q.1.a) (wu ab ab)).symm | exact (hC (fun q=>q.1.b) (wu ab ab)) | exact (hC (fun q=>q.1.b) (wu ab ab)).symm | exact (hC (fun q=>q.1.x) (wu ab ab)) | exact (hC (fun q=>q.1.x) (wu ab ab)).symm | exact (hC (fun q=>q.2) (wk ab ab ab ab)) | exact (hC (fun q=>q.2) (wk ab ab ab ab)).symm | exact (hC (fun q=>q.1.kind) (wk ab ab ab ab)) | exact (hC (fun q=>q.1.kind) (wk ab ab ab ab)).symm | exact (hC (fun q=>q.1.a) (wk ab ab ab ab)) | exact (hC (fun q=>q.1.a) (wk ab ab ab ab)).symm | exact (hC (fun q=>q.1.b) (wk ab ab ab ab)) | exact (hC (fun q=>q.1.b) (wk ab ab ab ab)).symm | exact (hC (fun q=>q.1.x) (wk ab ab ab ab)) | exact (hC (fun q=>q.1.x) (wk ab ab ab ab)).symm | exact (hC (fun q=>q.2) (vV ab ab ab ab)) | exact (hC (fun q=>q.2) (vV ab ab ab ab)).symm | exact (hC (fun q=>q.1.kind) (vV ab ab ab ab)) | exact (hC (fun q=>q.1.kind) (vV ab ab ab ab)).symm | exact (hC (fun q=>q.1.a) (vV ab ab ab ab)) | exact (hC (fun q=>q.1.a) (vV ab ab ab ab)).symm | exact (hC (fun q=>q.1.b) (vV ab ab ab ab)) | exact (hC (fun q=>q.1.b) (vV ab ab ab ab)).symm | exact (hC (fun q=>q.1.x) (vV ab ab ab ab)) | exact (hC (fun q=>q.1.x) (vV ab ab ab ab)).symm | exact (hC (fun q=>q.2) (wg ab ab ab)) | exact (hC (fun q=>q.2) (wg ab ab ab)).symm | exact (hC (fun q=>q.1.kind) (wg ab ab ab)) | exact (hC (fun q=>q.1.kind) (wg ab ab ab)).symm | exact (hC (fun q=>q.1.a) (wg ab ab ab)) | exact (hC (fun q=>q.1.a) (wg ab ab ab)).symm | exact (hC (fun q=>q.1.b) (wg ab ab ab)) | exact (hC (fun q=>q.1.b) (wg ab ab ab)).symm | exact (hC (fun q=>q.1.x) (wg ab ab ab)) | exact (hC (fun q=>q.1.x) (wg ab ab ab)).symm | exact (ahM _))
def wD:Kn:=aH (ae (kT (.nm .stable)) (ae (kT (.nm .letter)) ao)) au fun (s,x,_) _=>⟨[],[.c (.fz (.nm .record) (((aZ s x).1))),.c (.bool (.atom (((aZ s x).2.1)))),.c (.int (((aZ s x).2.2)))],none,false⟩
def KI:CK 98 wD:=ag fun (s,x,_) _ _=>by
 refine aq pD [] func98 (?_:(fun f=>(fun d=>(fun e=>(fun c=>(fun g=>(fun h=>cS s (bf x (a7 (o5 x)->(¬o5 x=d\/¬x.kind=1->f=[]/\false=c.fst/\1=c.snd)/\(o5 x=d/\x.kind=1->a7 e/\((x.bo<s.bo\/h=false)\/lf s.log x.a x.b=false->aB s x.bo=f/\false=c.fst/\d=c.snd)/\((s.bo<=x.bo/\h=true)/\lf s.log x.a x.b=true->(x.bo=s.bo/\s.jc=e->f=[]/\g)/\(¬x.bo=s.bo\/¬s.jc=e->[c9.mk 2 x.bo e []]=f/\g)))))) (decide (s.bo<x.bo) || decide (s.jc=d) || decide (s.jc=e))) (true=c.fst/\d=c.snd)) (aZ s x).snd) (x.n7+1)) (0:Int)) (aZ s x).fst);(repeat' with_reducible first|apply aT|refine aW ?_|intro)
 all_goals (first | exact (hC (fun q=>q.1) (afJ ab)) | exact (hC (fun q=>q.2.1) (afJ ab)).symm | exact (hC (fun q=>q.2.2) (afJ ab)).symm | exact (hC (fun q=>q.1) (ae7 ab ab ab)).symm | exact (hC (fun q=>q.2.1) (ae7 ab ab ab)).symm | exact (hC (fun q=>q.2.2) (ae7 ab ab ab)).symm | exact (hC (fun q=>q.1) (Z2 ab ab ab ab ab ab ab)) | exact (hC (fun q=>q.2.1) (Z2 ab ab ab ab ab ab ab)).symm | exact (hC (fun q=>q.2.2) (Z2 ab ab ab ab ab ab ab)).symm | exact (hC (fun q=>q.1) (afM ab ab ab ab ab ab)).symm | exact (hC (fun q=>q.2.1) (afM ab ab ab ab ab ab)).symm | exact (hC (fun q=>q.2.2) (afM ab ab ab ab ab ab)).symm | (have:=gi ab; exact cY az az))
def Hd:Kn:=aH (ae (kT (.nm .stable)) (ae (kT (.nm .letter)) ao)) au fun (s,x,_) _=>⟨[],[.c (.fz (.nm .record) (((aD s x).1))),.c (.bool (.atom (((aD s x).2.1)))),.c (.int (((aD s x).2.2.1))),.c (.int (((aD s x).2.2.2)))],none,false⟩
set_option maxRecDepth 8000 in
theorem XI:CK 95 Hd:=ag fun (s,x,_) _ _=>by
 refine aq pD (ads s x) func95 (?_:(fun (u:List c9)=>(fun (L:Nat)=>(fun (O:List c9)=>(fun (A:Int)=>(fun (B:Int)=>(fun (S:Int)=>(fun (i:Int)=>(fun (N:Int)=>(fun (v:Bool × Int × Int)=>(fun (T:Prop)=>(fun (z:Int)=>(fun (U:Prop)=>(fun (C:List ec)=>(fun (g:Prop)=>(fun (p:Int)=>(fun (e:Nat)=>(fun (f:Int)=>(fun (o:Int)=>cS s (bf x (a7 (o5 x)->(o5 x=i/\x.kind=A->a7 N)/\((¬o5 x=i\/¬x.kind=A)\/64<N->O=[]/\false=v.fst/\i=v.snd.fst/\B=v.snd.snd)/\((o5 x=i/\x.kind=A)/\N<=64->(x.bo<s.bo->O=[]/\T)/\(s.bo<=x.bo->(decide (dx s.log x.a=x.b)=false->u=O/\T)/\(decide (dx s.log x.a=x.b)=true->a7 N/\(a7 S->C.length*32<=L->(¬S=i->(u.length+[c9.mk 4 S i []].length)*48<=L/\∃ (D:Nat),(N=z/\g/\g/\p=f/\i=(D:Int)/\u++[c9.mk 4 S i []]=eW s x D)/\D<=e/\∀ (c:Nat),(fun (I:Int)=>c<=e->((c:Int)<f->i<=(c:Int)/\(c:Int)<p/\∀ (d:ec),C[c]? = some d->a7 d.bo->d.b.length*1<=L->a7 o/\a7 (o+(c:Int))/\a7 I/\((eW s x c).length+[c9.mk A I d.bo d.b].length)*48<=L/\a7 ((c:Int)+B)/\∃ (y:Nat),(z=z/\g/\g/\f=f/\(c:Int)+B=(y:Int)/\eW s x c++[c9.mk A I d.bo d.b]=eW s x y)/\y <= e/\e - y < e - c)/\(f<=(c:Int)->eW s x c=O/\U)) (o+(c:Int)+B))/\(S=i->∃ (D:Nat),(N=z/\g/\g/\p=f/\i=(D:Int)/\u=eW s x D)/\D<=e/\∀ (c:Nat),(fun (J:Int)=>c<=e->((c:Int)<f->i<=(c:Int)/\(c:Int)<p/\∀ (d:ec),C[c]? = some d->a7 d.bo->d.b.length*1<=L->a7 o/\a7 (o+(c:Int))/\a7 J/\((eW s x c).length+[c9.mk A J d.bo d.b].length)*48<=L/\a7 ((c:Int)+B)/\∃ (y:Nat),(z=z/\g/\g/\f=f/\(c:Int)+B=(y:Int)/\eW s x c++[c9.mk A J d.bo d.b]=eW s x y)/\y <= e/\e - y < e - c)/\(f<=(c:Int)->eW s x c=O/\U)) (o+(c:Int)+B))))))))) (z - p)) (e:Int)) C.length) (C.length:Int)) (C=C)) (bB s.log x.a x.l).snd) (true=v.fst/\z=v.snd.fst/\i=v.snd.snd)) (x.a+(x.l.length:Int))) (false=v.fst/\i=v.snd.fst/\i=v.snd.snd)) (aD s x).snd) (x.a+(x.l.length:Int))) 0) (bB s.log x.a x.l).fst) 1) 3) (aD s x).fst) 140737488355328) (aB s x.bo));iterate 3 ((all_goals (repeat' with_reducible first|apply aT|refine aW ?_|intro)); (all_goals try (first | exact bR | (with_reducible exact amw ab) | (with_reducible exact apA ab) | (with_reducible exact ap5 ab) | (with_reducible exact ajn ab) | (with_reducible exact akB) | (with_reducible exact (hC (fun q=>q.1) (CN ab))) | (with_reducible exact (hC (fun q=>q.1) (CN ab)).symm) | (with_reducible exact (hC (fun q=>q.2.1) (CN ab))) | (with_reducible exact (hC (fun q=>q.2.1) (CN ab)).symm) | (with_reducible exact (hC (fun q=>q.2.2.1) (CN ab))) | (with_reducible exact (hC (fun q=>q.2.2.1) (CN ab)).symm) | (with_reducible exact (hC (fun q=>q.2.2.2) (CN ab))) | (with_reducible exact (hC (fun q=>q.2.2.2) (CN ab)).symm) | (with_reducible exact (hC (fun q=>q.1) (BI ab ab ab ab))) | (with_reducible exact (hC (fun q=>q.1) (BI ab ab ab ab)).symm) | (with_reducible exact (hC (fun q=>q.2.1) (BI ab ab ab ab))) | (with_reducible exact (hC (fun q=>q.2.1) (BI ab ab ab ab)).symm) | (with_reducible exact (hC (fun q=>q.2.2.1) (BI ab ab ab ab))) | (with_reducible exact (hC (fun q=>q.2.2.1) (BI ab ab ab ab)).symm) | (with_reducible exact (hC (fun q=>q.2.2.2) (BI ab ab ab ab))) | (with_reducible exact (hC (fun q=>q.2.2.2) (BI ab ab ab ab)).symm) | (with_reducible exact (hC (fun q=>q.1) (AU ab ab ab ab ab))) | (with_reducible exact (hC (fun q=>q.1) (AU ab ab ab ab ab)).symm) | (with_reducible exact (hC (fun q=>q.2.1) (AU ab ab ab ab ab))) | (with_reducible exact (hC (fun q=>q.2.1) (AU ab ab ab ab ab)).symm) | (with_reducible exact (hC (fun q=>q.2.2.1) (AU ab ab ab ab ab))) | (with_reducible exact (hC (fun q=>q.2.2.1) (AU ab ab ab ab ab)).symm) | (with_reducible exact (hC (fun q=>q.2.2.2) (AU ab ab ab ab ab))) | (with_reducible exact (hC (fun q=>q.2.2.2) (AU ab ab ab ab ab)).symm) | (with_reducible exact (hC (fun q=>q.1) (Ek ab ab ab ab ab ab))) | (with_reducible exact (hC (fun q=>q.1) (Ek ab ab ab ab ab ab)).symm) | (with_reducible exact (hC (fun q=>q.2.1) (Ek ab ab ab ab ab ab))) | (with_reducible exact (hC (fun q=>q.2.1) (Ek ab ab ab ab ab ab)).symm) | (with_reducible exact (hC (fun q=>q.2.2.1) (Ek ab ab ab ab ab ab))) | (with_reducible exact (hC (fun q=>q.2.2.1) (Ek ab ab ab ab ab ab)).symm) | (with_reducible exact (hC (fun q=>q.2.2.2) (Ek ab ab ab ab ab ab))) | (with_reducible exact (hC (fun q=>q.2.2.2) (Ek ab ab ab ab ab ab)).symm) | (have h:=gi ab; have V:=xG (l:=s.log) (m:=x.l) (k:=x.a); refine cY ?_ ?_ <;> omega))); all_goals try first | refine ⟨‹Nat› + 1,?_⟩ | refine ⟨0,?_⟩)
def FI:ck:=(aI 95 Hd (aI 98 wD (aI 144 xy (aI 145 HL aim))))
def kB:ay prog (av l6) FI:=(ah XI (ah KI (ah Lq (ah HU pD))))
def SO (r:c9) (a:l9 r=false):s6 prog (av l6) 145 [.agg (cellsOf (.nm .record) r)] [] ⟨[l9 r=false],[.c (.fz .u8 (([]))),.c (.int ((1)))],none,false⟩:=by
 have e:a_ r=([],1):=by rw [a_,dc (by rw [a]; decide)]
 have h:=Yl r;rw [e] at h; exact ⟨h.1,h.2⟩
def Ch:Kn:=aH (ae (kT (.nm .record)) ao) au fun (r,_) _=>⟨[l9 r=false],[.c (.fz .u8 (([]))),.c (.int ((1)))],none,false⟩
def Qn:CK 145 Ch:=ag fun (r,_) _ a=>SO r (b_ a)
def Ul  (a:False):s6 prog (av l6) 148 [] [] ⟨[False],[.c (.xx (.km []) [])],none,false⟩:=a.elim
def AB:Kn:=aH ao au fun _ _=>⟨[False],[.c (.xx (.km []) [])],none,false⟩
def Pm:CK 148 AB:=ag fun _ _ a=>Ul  (b_ a)
def ZY:ck:=(aI 148 AB (aI 145 Ch FI))
def TB:ay prog (av l6) ZY:=(ah Pm (ah Qn kB))
def Eo (h:(cn b).2=false):cH b=(wm,3):=eg h
theorem DB (h:(cn b).2=true) (a:¬ (a_ (cn b).1).2=0\/decide ((a_ (cn b).1).1=b)=false):cH b=(wm,3):=by
 rw [cH,dc (by rw [h]; decide),eg];grind
theorem Cf (h:(cn b).2=true) (a:(a_ (cn b).1).2=0) (c:decide ((a_ (cn b).1).1=b)=true):cH b=((cn b).1,0):=by
 rw [cH,dc (by rw [h]; decide),dc];grind
theorem jb:(a_ r).2=0↔l9 r=true:=by
 unfold a_;grind
theorem oG (h:¬ (a_ r).2=0):(a_ r).2=1/\l9 r=false:=by
 unfold a_ at h ⊢;grind
def Xi (s:c4) (a b:Int) (x:List UInt8) (e:c4) (f:Int):N4 l6 FI [] f85 [.agg (cellsOf (.nm .stable) s),.agg [.int 1,.int a,.int b,.fz .u8 x]] [] [.agg (cellsOf (.nm .stable) e),.c (.int f)]=((fun d=>(fun g=>cS s (a7 1->a7 a->a7 b->x.length*1<=140737488355328->(a_ d).fst.length*1<=140737488355328->a7 g->(¬g=0->a7 s.floor->a7 s.bo->a7 s.jc->aN s e (g=f))/\(g=0->a7 s.floor->a7 s.bo->a7 s.jc->((eV s d).isSome=false->a7 s.floor->a7 s.bo->a7 s.jc->aN s e (5=f))/\((eV s d).isSome=true->aN ((eV s d).getD s) e (0=f))))) (a_ d).snd) (c9.mk 1 a b x)):=cm
def VJ (s:c4) (a b:Int) (x:List UInt8) (e:c4) (f:Int):N4 l6 FI [] f85 [.agg (cellsOf (.nm .stable) s),.agg [.int 2,.int a,.int b,.fz .u8 x]] [] [.agg (cellsOf (.nm .stable) e),.c (.int f)]=((fun d=>(fun g=>cS s (a7 2->a7 a->a7 b->x.length*1<=140737488355328->(a_ d).fst.length*1<=140737488355328->a7 g->(¬g=0->a7 s.floor->a7 s.bo->a7 s.jc->aN s e (g=f))/\(g=0->a7 s.floor->a7 s.bo->a7 s.jc->((gj s d).isSome=false->a7 s.floor->a7 s.bo->a7 s.jc->aN s e (5=f))/\((gj s d).isSome=true->aN ((gj s d).getD s) e (0=f))))) (a_ d).snd) (c9.mk 2 a b x)):=cm
def YN (s:c4) (a b:Int) (x:List UInt8) (e:c4) (f:Int):N4 l6 FI [] f85 [.agg (cellsOf (.nm .stable) s),.agg [.int 3,.int a,.int b,.fz .u8 x]] [] [.agg (cellsOf (.nm .stable) e),.c (.int f)]=((fun d=>(fun g=>cS s (a7 3->a7 a->a7 b->x.length*1<=140737488355328->(a_ d).fst.length*1<=140737488355328->a7 g->(¬g=0->a7 s.floor->a7 s.bo->a7 s.jc->aN s e (g=f))/\(g=0->a7 s.floor->a7 s.bo->a7 s.jc->s.log.length<=1000000/\x.length<=200/\((eH s d).isSome=false->a7 s.floor->a7 s.bo->a7 s.jc->aN s e (5=f))/\((eH s d).isSome=true->aN ((eH s d).getD s) e (0=f))))) (a_ d).snd) (c9.mk 3 a b x)):=cm
def WR (s:c4) (a b:Int) (x:List UInt8) (e:c4) (f:Int):N4 l6 FI [] f85 [.agg (cellsOf (.nm .stable) s),.agg [.int 4,.int a,.int b,.fz .u8 x]] [] [.agg (cellsOf (.nm .stable) e),.c (.int f)]=((fun d=>(fun g=>cS s (a7 4->a7 a->a7 b->x.length*1<=140737488355328->(a_ d).fst.length*1<=140737488355328->a7 g->(¬g=0->a7 s.floor->a7 s.bo->a7 s.jc->aN s e (g=f))/\(g=0->a7 s.floor->a7 s.bo->a7 s.jc->(1<=a/\a<=64)/\((gw s d).isSome=false->a7 s.floor->a7 s.bo->a7 s.jc->aN s e (5=f))/\((gw s d).isSome=true->aN ((gw s d).getD s) e (0=f))))) (a_ d).snd) (c9.mk 4 a b x)):=cm
def XX (s:c4) (r:c9) (a:c4) (d:Int):N4 l6 ZY [] f85 [.agg (cellsOf (.nm .stable) s),.agg (cellsOf (.nm .record) r)] [] [.agg (cellsOf (.nm .stable) a),.c (.int d)]=(cS s (eN r (l9 r=false/\((0:Nat)*(1:Nat)<=(140737488355328:Nat)->a7 (1:Int)->(¬(1:Int)=(0:Int)->a7 s.floor->a7 s.bo->a7 s.jc->aN s a ((1:Int)=d))/\((1:Int)=(0:Int)->a7 s.floor->a7 s.bo->a7 s.jc->False/\False))))):=cm
def CW {s:c4} (h:l9 r=false):ba s r=(s,1):=eg h
def jX {s:c4} (h:¬ (a_ r).2=0):ba s r=(s,(a_ r).2):=by
 rw [CW (oG h).2,(oG h).1]
variable {o:Option c4}
theorem jT {s:c4} (e:gl s r=o) (h:(a_ r).2=0) (a:o.isSome=false):ba s r=(s,5):=by
 rw [ba,dc (by rw [jb.1 h]; decide),e];grind
theorem jI {s:c4} (e:gl s r=o) (h:(a_ r).2=0) (a:o.isSome=true):ba s r=(o.getD s,0):=by
 rw [ba,dc (by rw [jb.1 h]; decide),e];grind
set_option maxRecDepth 8000 in
def aeT (s:c4) (a b:Int) (x:List UInt8) (e:s.log.length<=1000000):s6 prog (av l6) 85 [.agg (cellsOf (.nm .stable) s),.agg (cellsOf (.nm .record) (⟨1,a,b,x⟩:c9))] [] ⟨[s.log.length<=1000000],[.agg (cellsOf (.nm .stable) (ba s (⟨1,a,b,x⟩:c9)).1),.c (.int (ba s (⟨1,a,b,x⟩:c9)).2)],none,false⟩:=by
 have d:gl s (⟨1,a,b,x⟩:c9)=eV s (⟨1,a,b,x⟩:c9):=rfl;refine aq kB [] func85 ?_ (Xi s a b x (ba s (⟨1,a,b,x⟩:c9)).1 (ba s (⟨1,a,b,x⟩:c9)).2).symm;(repeat' (first | with_reducible apply aT | intro))
 all_goals (first | exact (hC (fun q=>q.2) (jX ab)).symm | exact (hC (fun q=>q.1.floor) (jX ab)).symm | exact (hC (fun q=>q.1.bo) (jX ab)).symm | exact (hC (fun q=>q.1.jc) (jX ab)).symm | exact (hC (fun q=>q.1.log) (jX ab)).symm | exact (hC (fun q=>q.2) (jT d ab ab)).symm | exact (hC (fun q=>q.1.floor) (jT d ab ab)).symm | exact (hC (fun q=>q.1.bo) (jT d ab ab)).symm | exact (hC (fun q=>q.1.jc) (jT d ab ab)).symm | exact (hC (fun q=>q.1.log) (jT d ab ab)).symm | exact (hC (fun q=>q.2) (jI d ab ab)).symm | exact (hC (fun q=>q.1.floor) (jI d ab ab)).symm | exact (hC (fun q=>q.1.bo) (jI d ab ab)).symm | exact (hC (fun q=>q.1.jc) (jI d ab ab)).symm | exact (hC (fun q=>q.1.log) (jI d ab ab)).symm)
set_option maxRecDepth 8000 in
def af0 (s:c4) (a b:Int) (x:List UInt8) (e:s.log.length<=1000000):s6 prog (av l6) 85 [.agg (cellsOf (.nm .stable) s),.agg (cellsOf (.nm .record) (⟨2,a,b,x⟩:c9))] [] ⟨[s.log.length<=1000000],[.agg (cellsOf (.nm .stable) (ba s (⟨2,a,b,x⟩:c9)).1),.c (.int (ba s (⟨2,a,b,x⟩:c9)).2)],none,false⟩:=by
 have d:gl s (⟨2,a,b,x⟩:c9)=gj s (⟨2,a,b,x⟩:c9):=rfl;refine aq kB [] func85 ?_ (VJ s a b x (ba s (⟨2,a,b,x⟩:c9)).1 (ba s (⟨2,a,b,x⟩:c9)).2).symm;(repeat' (first | with_reducible apply aT | intro))
 all_goals (first | exact (hC (fun q=>q.2) (jX ab)).symm | exact (hC (fun q=>q.1.floor) (jX ab)).symm | exact (hC (fun q=>q.1.bo) (jX ab)).symm | exact (hC (fun q=>q.1.jc) (jX ab)).symm | exact (hC (fun q=>q.1.log) (jX ab)).symm | exact (hC (fun q=>q.2) (jT d ab ab)).symm | exact (hC (fun q=>q.1.floor) (jT d ab ab)).symm | exact (hC (fun q=>q.1.bo) (jT d ab ab)).symm | exact (hC (fun q=>q.1.jc) (jT d ab ab)).symm | exact (hC (fun q=>q.1.log) (jT d ab ab)).symm | exact (hC (fun q=>q.2) (jI d ab ab)).symm | exact (hC (fun q=>q.1.floor) (jI d ab ab)).symm | exact (hC (fun q=>q.1.bo) (jI d ab ab)).symm | exact (hC (fun q=>q.1.jc) (jI d ab ab)).symm | exact (hC (fun q=>q.1.log) (jI d ab ab)).symm)
set_option maxRecDepth 8000 in
def adU (s:c4) (a b:Int) (x:List UInt8) (e:s.log.length<=1000000):s6 prog (av l6) 85 [.agg (cellsOf (.nm .stable) s),.agg (cellsOf (.nm .record) (⟨3,a,b,x⟩:c9))] [] ⟨[s.log.length<=1000000],[.agg (cellsOf (.nm .stable) (ba s (⟨3,a,b,x⟩:c9)).1),.c (.int (ba s (⟨3,a,b,x⟩:c9)).2)],none,false⟩:=by
 have d:gl s (⟨3,a,b,x⟩:c9)=eH s (⟨3,a,b,x⟩:c9):=rfl;refine aq kB [] func85 ?_ (YN s a b x (ba s (⟨3,a,b,x⟩:c9)).1 (ba s (⟨3,a,b,x⟩:c9)).2).symm;(repeat' (first | with_reducible apply aT | intro))
 all_goals (first | exact (hC (fun q=>q.2) (jX ab)).symm | exact (hC (fun q=>q.1.floor) (jX ab)).symm | exact (hC (fun q=>q.1.bo) (jX ab)).symm | exact (hC (fun q=>q.1.jc) (jX ab)).symm | exact (hC (fun q=>q.1.log) (jX ab)).symm | exact (hC (fun q=>q.2) (jT d ab ab)).symm | exact (hC (fun q=>q.1.floor) (jT d ab ab)).symm | exact (hC (fun q=>q.1.bo) (jT d ab ab)).symm | exact (hC (fun q=>q.1.jc) (jT d ab ab)).symm | exact (hC (fun q=>q.1.log) (jT d ab ab)).symm | exact (hC (fun q=>q.2) (jI d ab ab)).symm | exact (hC (fun q=>q.1.floor) (jI d ab ab)).symm | exact (hC (fun q=>q.1.bo) (jI d ab ab)).symm | exact (hC (fun q=>q.1.jc) (jI d ab ab)).symm | exact (hC (fun q=>q.1.log) (jI d ab ab)).symm | (have h:=cV.1 (jb.1 ab); dsimp only at h; omega))
set_option maxRecDepth 8000 in
def adb (s:c4) (a b:Int) (x:List UInt8) (e:s.log.length<=1000000):s6 prog (av l6) 85 [.agg (cellsOf (.nm .stable) s),.agg (cellsOf (.nm .record) (⟨4,a,b,x⟩:c9))] [] ⟨[s.log.length<=1000000],[.agg (cellsOf (.nm .stable) (ba s (⟨4,a,b,x⟩:c9)).1),.c (.int (ba s (⟨4,a,b,x⟩:c9)).2)],none,false⟩:=by
 have d:gl s (⟨4,a,b,x⟩:c9)=gw s (⟨4,a,b,x⟩:c9):=rfl;refine aq kB [] func85 ?_ (WR s a b x (ba s (⟨4,a,b,x⟩:c9)).1 (ba s (⟨4,a,b,x⟩:c9)).2).symm;(repeat' (first | with_reducible apply aT | intro))
 all_goals (first | exact (hC (fun q=>q.2) (jX ab)).symm | exact (hC (fun q=>q.1.floor) (jX ab)).symm | exact (hC (fun q=>q.1.bo) (jX ab)).symm | exact (hC (fun q=>q.1.jc) (jX ab)).symm | exact (hC (fun q=>q.1.log) (jX ab)).symm | exact (hC (fun q=>q.2) (jT d ab ab)).symm | exact (hC (fun q=>q.1.floor) (jT d ab ab)).symm | exact (hC (fun q=>q.1.bo) (jT d ab ab)).symm | exact (hC (fun q=>q.1.jc) (jT d ab ab)).symm | exact (hC (fun q=>q.1.log) (jT d ab ab)).symm | exact (hC (fun q=>q.2) (jI d ab ab)).symm | exact (hC (fun q=>q.1.floor) (jI d ab ab)).symm | exact (hC (fun q=>q.1.bo) (jI d ab ab)).symm | exact (hC (fun q=>q.1.jc) (jI d ab ab)).symm | exact (hC (fun q=>q.1.log) (jI d ab ab)).symm | (have h:=cV.1 (jb.1 ab); dsimp only at h; omega))
theorem TT (s:c4) (r:c9) (d:s.log.length<=1000000):s6 prog (av l6) 85 [.agg (cellsOf (.nm .stable) s),.agg (cellsOf (.nm .record) r)] [] ⟨[s.log.length<=1000000],[.agg (cellsOf (.nm .stable) (ba s r).1),.c (.int (ba s r).2)],none,false⟩:=by
 cases e:l9 r
 ·refine aq TB [] func85 ?_ (XX s r (ba s r).1 (ba s r).2).symm;rw [CW e];grind
 obtain ⟨k,a,b,x⟩:=r;rcases cV.1 e with h | h | h | h <;> (have f:=h.1; dsimp only at f; subst f)
 ·exact aeT s a b x d
 ·exact af0 s a b x d
 ·exact adU s a b x d
 exact adb s a b x d
def Es:Kn:=aH (ae (kC (cL .u8)) ao) au fun (b,_) _=>⟨[],[.agg (cellsOf (.nm .record) ((cH b).1)),.c (.int (((cH b).2)))],none,false⟩
def NR:CK 84 Es:=ag fun (b,_) _ _=>by
 refine aq kB [] func84 (?_:(fun c=>(fun e=>(fun d=>(fun f=>b.length*1<=140737488355328->eN (cn b).fst (((cn b).snd=false->f)/\((cn b).snd=true->d.fst.length*1<=140737488355328->a7 d.snd->(¬d.snd=c\/decide (d.fst=b)=false->f)/\(d.snd=c/\decide (d.fst=b)=true->tP (cn b).fst e (c=(cH b).snd))))) (c=e.kind/\c=e.a/\c=e.b/\e.x=[]/\3=(cH b).snd)) (a_ (cn b).fst)) (cH b).fst) (0:Int));(repeat' with_reducible first|apply aT|refine aW ?_|intro)
 all_goals (first | exact (hC (fun q=>q.2) (Eo ab)).symm | exact (hC (fun q=>q.1.kind) (Eo ab)).symm | exact (hC (fun q=>q.1.a) (Eo ab)).symm | exact (hC (fun q=>q.1.b) (Eo ab)).symm | exact (hC (fun q=>q.1.x) (Eo ab)) | exact (hC (fun q=>q.2) (DB ab ab)).symm | exact (hC (fun q=>q.1.kind) (DB ab ab)).symm | exact (hC (fun q=>q.1.a) (DB ab ab)).symm | exact (hC (fun q=>q.1.b) (DB ab ab)).symm | exact (hC (fun q=>q.1.x) (DB ab ab)) | exact (hC (fun q=>q.2) (Cf ab ab ab)).symm | exact (hC (fun q=>q.1.kind) (Cf ab ab ab)).symm | exact (hC (fun q=>q.1.a) (Cf ab ab ab)).symm | exact (hC (fun q=>q.1.b) (Cf ab ab ab)).symm | exact (hC (fun q=>q.1.x) (Cf ab ab ab)).symm)
def Ru (s:c4) (r:c9) (a:s.log.length<=1000000):s6 prog (av l6) 85 [.agg (cellsOf (.nm .stable) s),.agg (cellsOf (.nm .record) r)] [] ⟨[s.log.length<=1000000],[.agg (cellsOf (.nm .stable) ((ba s r).1)),.c (.int (((ba s r).2)))],none,false⟩:=TT s r a
def Cm:Kn:=aH (ae (kT (.nm .stable)) (ae (kT (.nm .record)) ao)) au fun (s,r,_) _=>⟨[s.log.length<=1000000],[.agg (cellsOf (.nm .stable) ((ba s r).1)),.c (.int (((ba s r).2)))],none,false⟩
def Qv:CK 85 Cm:=ag fun (s,r,_) _ a=>Ru s r (b_ a)
def ahm:ck:=(aI 85 Cm (aI 84 Es FI))
def GO:ay prog (av l6) ahm:=(ah Qv (ah NR kB))
structure RJ (b:List UInt8) (s:c4) (u:Int):Prop where
 le:0<=u/\u<=b.length
 log:(s.log.length:Int)<=u
 eq:ik b=((r4 (b.length+1) s (b.drop u.toNat)).1,u+(r4 (b.length+1) s (b.drop u.toNat)).2)
def anu:RJ b rl 0:=⟨az,aa,by simp [ik]⟩
section
variable {b:List UInt8} {s:c4} {u:Int}
def EP (h:RJ b s u) (a:¬ (bD (b.drop u.toNat)).2.2=0):ik b=(s,u):=by
 rw [h.eq,nK a,Int.add_zero]
def v_ (h:RJ b s u) (a:(bD (b.drop u.toNat)).2.2=0) (c:¬ (cH (bD (b.drop u.toNat)).1).2=0):ik b=(s,u):=by
 rw [h.eq,r4,dc (B4.2 a),eg c,Int.add_zero]
def vW (h:RJ b s u) (a:(bD (b.drop u.toNat)).2.2=0) (c:(cH (bD (b.drop u.toNat)).1).2=0) (d:¬ (ba s (cH (bD (b.drop u.toNat)).1).1).2=0):ik b=(s,u):=by
 rw [h.eq,r4,dc (B4.2 a),dc (B4.2 c),eg d,Int.add_zero]
theorem MO {s t:c4} (h:gl s r=some t):t.log.length<=s.log.length+1:=by
 unfold gl eV gj eH gw at h;grind
def wX {s:c4}:(ba s r).1.log.length<=s.log.length+1:=by
 unfold ba;split
 ·simp
 split
 ·rename_i t h; exact MO h
 simp
theorem amc (h:RJ b s u) (a:(bD (b.drop u.toNat)).2.2=0) (c:(cH (bD (b.drop u.toNat)).1).2=0) (d:(ba s (cH (bD (b.drop u.toNat)).1).1).2=0):RJ b (ba s (cH (bD (b.drop u.toNat)).1).1).1 (u+(bD (b.drop u.toNat)).2.1):=by
 have e:=iH a;rw [length_drop] at e;have f:=wX (s:=s) (r:=(cH (bD (b.drop u.toNat)).1).1);have g:=h.log;refine ⟨az,az,?_⟩;rw [h.eq,r4,dc (B4.2 a),dc (B4.2 c),dc (B4.2 d),I6,show u.toNat+(bD (b.drop u.toNat)).2.1.toNat=(u+(bD (b.drop u.toNat)).2.1).toNat by omega];rw [nQ (n:=b.length) (m:=b.length+1) (by rw [length_drop]; omega) (by rw [length_drop]; omega)];grind
def aoy (h:RJ b s u):0<=u:=h.le.1
def al9 (h:RJ b s u):u<=(b.length:Int):=h.le.2
def amg (h:RJ b s u) (a:b.length<=1000000):s.log.length<=1000000:=by
 have:=h.log; have:=h.le; omega
def apK (h:RJ b s u) (a:(bD (b.drop u.toNat)).2.2=0) (c:b.length<=1000000):a7 (u+(bD (b.drop u.toNat)).2.1):=by
 have:=iH a; have:=h.le;rw [length_drop] at *;exact cY az az
theorem aon (h:RJ b s u) (a:(bD (b.drop u.toNat)).2.2=0):((b.length:Int) - (u+(bD (b.drop u.toNat)).2.1)).toNat<((b.length:Int) - u).toNat:=by
 have:=iH a; have:=h.le;grind
end
variable {l:List c9}
def BK {s:c4} (h:(ed s (l.take k)).2=0) (a:l[k]? = some r):ed s (l.take (k+1))=ed (ed s (l.take k)).1 [r]:=by
 rw [aj a,eF h]
def RO {s:c4} (h:(ed s (l.take k)).2=0) (a:l[k]? = some r) (c:(ba (ed s (l.take k)).1 r).2=0):(ed s (l.take (k+1))).2=0/\(ed s (l.take (k+1))).1=(ba (ed s (l.take k)).1 r).1:=by
 rw [BK h a,ed,eg c,ed]; exact ⟨rfl,rfl⟩
theorem am_ {s:c4} (h:(ed s (l.take k)).2=0) (a:l[k]? = some r) (c:¬ (ba (ed s (l.take k)).1 r).2=0):(ed s l).2=(ba (ed s (l.take k)).1 r).2:=by
 have d:=(r3.1 a);have e:l=l.take k++r :: l.drop (k+1):=by grind [List.getElem_cons_drop,List.take_append_drop]
 rw [show ed s l=ed s (l.take k++r :: l.drop (k+1)) from hC (ed s) e,eF h,ed,dc c]
theorem uY:∀ {l:List c9} {s:c4},(ed s l).1.log.length<=s.log.length+l.length
 | [],s=>sh _
 | r :: l,s=>by
  rw [ed];split
  ·have:=uY (l:=l) (s:=(ba s r).1);have:=wX (s:=s) (r:=r);grind
  grind
def ai6 (h:(l.take k).all l9=true) (a:l[k]? = some r) (c:l9 r=true):(l.take (k+1)).all l9=true:=by
 rw [aj a,J7,h]; simp [c]
theorem agC (a:l[k]? = some r) (c:l9 r=false):l.all l9=false:=by grind
def acu (a:l[k]? = some r):l3 (l.take k)++fB (ei r)=l3 (l.take (k+1)):=by
 rw [aj a,tY]; simp [l3,kO]
def Gq {d:n9} {x:List UInt8} (h:d.OK):(d.p4 x).OK:=by
 obtain ⟨a,c,e⟩:=h;unfold n9.p4;split
 ·exact ⟨a,c,e⟩
 refine ⟨a,?_,?_⟩ <;> dsimp only <;> rw [r5] <;> omega
def MY (b:List UInt8):List (Nat × LI):=[(3,{ σ:=c4 × Int,F:=fun q=>([(0,one (.fz .u8 (b))),(2,one (.ptr 1 0)),(4,one (.ptr 0 0)),(5,one (.int q.2))],[.box 64 (cellsOf (.nm .stable) (q.1)),.box 64 (cellsOf (.nm .stable) (rl))]),J:=fun q=>RJ b q.1 q.2,μ:=fun q=>(b.length - q.2).toNat })]
def uS:Kn:=aH (ae (kC (cL .u8)) ao) au fun (b,_) _=>⟨[b.length<=1000000],[.agg (cellsOf (.nm .stable) ((ik b).1)),.c (.int (((ik b).2)))],none,false⟩
theorem Ft:CK 41 uS:=ag fun (b,_) _ p=>by
 have i:=b_ p;refine aq GO (MY b) func41 (?_:(fun (a:Int)=>b.length*1<=140737488355328->∃ (d:c4 × Int),(b=b/\a=d.snd/\a=d.fst.floor/\a=d.fst.bo/\a=d.fst.jc/\d.fst.log=[]/\a=rl.floor/\a=rl.bo/\a=rl.jc/\rl.log=[])/\RJ b d.fst d.snd/\∀ (s:c4 × Int),(fun (h:Prop)=>(fun (c:List UInt8 × Int × Int)=>(fun (e:c9 × Int)=>(fun (f:c4 × Int)=>RJ b s.fst s.snd->a<=s.snd/\s.snd<=(b.length:Int)/\(c.fst.length*1<=140737488355328->a7 c.snd.fst->a7 c.snd.snd->(¬c.snd.snd=a->h)/\(c.snd.snd=a->eN e.fst (a7 e.snd->(¬e.snd=a->h)/\(e.snd=a->s.fst.log.length<=1000000/\cS f.fst (a7 f.snd->(¬f.snd=a->h)/\(f.snd=a->a7 (s.snd+c.snd.fst)/\∃ (g:c4 × Int),(b=b/\s.snd+c.snd.fst=g.snd/\aN f.fst g.fst (eJ rl rl))/\RJ b g.fst g.snd/\((b.length:Int) - g.snd).toNat<((b.length:Int) - s.snd).toNat))))))) (ba s.fst e.fst)) (cH c.fst)) (bD (drop s.snd.toNat b))) (aN s.fst (ik b).fst (s.snd=(ik b).snd))) 0);iterate 3 ((all_goals (repeat' with_reducible first|apply aT|refine aW ?_|intro)); (all_goals try (first | exact bR | (with_reducible exact anu) | (with_reducible exact aoy ab) | (with_reducible exact al9 ab) | (with_reducible exact amg ab i) | (with_reducible exact apK ab ab i) | (with_reducible exact aon ab ab) | (with_reducible exact amc ab ab ab ab) | exact (hC (fun q=>q.2) (EP ab ab)).symm | exact (hC (fun q=>q.1.floor) (EP ab ab)).symm | exact (hC (fun q=>q.1.bo) (EP ab ab)).symm | exact (hC (fun q=>q.1.jc) (EP ab ab)) | exact (hC (fun q=>q.1.jc) (EP ab ab)).symm | exact (hC (fun q=>q.1.log) (EP ab ab)) | exact (hC (fun q=>q.1.log) (EP ab ab)).symm | exact (hC (fun q=>q.2) (v_ ab ab ab)) | exact (hC (fun q=>q.2) (v_ ab ab ab)).symm | exact (hC (fun q=>q.1.floor) (v_ ab ab ab)) | exact (hC (fun q=>q.1.floor) (v_ ab ab ab)).symm | exact (hC (fun q=>q.1.bo) (v_ ab ab ab)) | exact (hC (fun q=>q.1.bo) (v_ ab ab ab)).symm | exact (hC (fun q=>q.1.jc) (v_ ab ab ab)) | exact (hC (fun q=>q.1.jc) (v_ ab ab ab)).symm | exact (hC (fun q=>q.1.log) (v_ ab ab ab)) | exact (hC (fun q=>q.1.log) (v_ ab ab ab)).symm | exact (hC (fun q=>q.2) (vW ab ab ab ab)) | exact (hC (fun q=>q.2) (vW ab ab ab ab)).symm | exact (hC (fun q=>q.1.floor) (vW ab ab ab ab)) | exact (hC (fun q=>q.1.floor) (vW ab ab ab ab)).symm | exact (hC (fun q=>q.1.bo) (vW ab ab ab ab)) | exact (hC (fun q=>q.1.bo) (vW ab ab ab ab)).symm | exact (hC (fun q=>q.1.jc) (vW ab ab ab ab)) | exact (hC (fun q=>q.1.jc) (vW ab ab ab ab)).symm | exact (hC (fun q=>q.1.log) (vW ab ab ab ab)) | exact (hC (fun q=>q.1.log) (vW ab ab ab ab)).symm)); all_goals try first | refine ⟨((ba (‹c4 × Int›).1 (cH (bD (b.drop (‹c4 × Int›).2.toNat)).1).1).1,(‹c4 × Int›).2+(bD (b.drop (‹c4 × Int›).2.toNat)).2.1),?_⟩ | refine ⟨(rl,0),?_⟩)
def ahO:ck:=(aI 41 uS ahm)
def Ho:ay prog (av l6) ahO:=(ah Ft GO)
section
variable {d:n9} {s:c4} {l:List c9} {k:Nat} {r:c9}
def apU (a:l[k]? = some r) (h:¬ (a_ r).2=0):l7 d s l=(d,s,(a_ r).2):=by
 rw [l7,eg (agC a (oG h).2),(oG h).1]
def Z6 (h:(a_ r).2=0):qu (a_ r).1=(fB (ei r),0):=by
 have a:=jb.1 h;have:=jU a;rw [Wk a,qu,dc (by dsimp only; omega)]
def anQ {p:Prop} (h:(a_ r).2=0) (a:¬ (qu (a_ r).1).2=0):p:=absurd (by rw [Z6 h]) a
def ags (a:l[k]? = some r) (h:(a_ r).2=0):l3 (l.take k)++(qu (a_ r).1).1=l3 (l.take (k+1)):=by
 rw [Z6 h]; exact acu a
def aa5 (h:l.length<=1000) (c:(l.take k).all l9=true) (a:(a_ r).2=0):((l3 (l.take k)).length+(qu (a_ r).1).1.length)*1<=140737488355328:=by
 have e:=tV c;have f:=jU (jb.1 a);have g:(l.take k).length<=l.length:=by rw [s9]; omega
 rw [Z6 a]; dsimp only; rw [oa]; omega
def agL (a:(l.length:Int)<=k) (h:(l.take k).all l9=true):l.all l9=true:=by rwa [r6 az] at h
def ap2 (a:(l.length:Int)<=k):l3 (l.take k)=l3 l:=by rw [r6 az]
theorem amW (a:s.log.length<=10000) (c:l.length<=1000):(ed s (l.take k)).1.log.length<=1000000:=by
 have:=uY (s:=s) (l:=l.take k);grind
def aox (c:l.all l9=true) (h:(ed s (l.take k)).2=0) (f:l[k]? = some r) (a:¬ (ba (ed s (l.take k)).1 r).2=0):l7 d s l=(d,s,(ba (ed s (l.take k)).1 r).2):=by
 have e:=am_ h f a;rw [l7,dc (by rw [c]; decide),eg (by rw [e]; exact a),e]
def aoQ (a:(l.length:Int)=0):l7 d s l=(d,(ed s (l.take k)).1,0):=by
 rw [B7 (l:=l) az,List.take_nil]; rfl
def ac_ (c:(l.length:Int)<=k) (a:l.all l9=true) (h:(ed s (l.take k)).2=0) (e:¬ (l.length:Int)=0):l7 d s l=if d.kD (l3 l)≠0 then (d,s,d.kD (l3 l)) else if (d.p4 (l3 l)).fY≠0 then ((d.p4 (l3 l)).sync,s,(d.p4 (l3 l)).fY) else ((d.p4 (l3 l)).sync,(ed s (l.take k)).1,0):=by
 rw [r6 az] at h ⊢;rw [l7,dc (by rw [a]; decide),dc (by rw [h]; decide),dc az]
theorem apx (a:(l.length:Int)<=k) (c:l.all l9=true) (h:(ed s (l.take k)).2=0) (f:¬ (l.length:Int)=0) (g:¬ d.kD (l3 l)=0):l7 d s l=(d.p4 (l3 l),s,d.kD (l3 l)):=by
 have e:d.p4 (l3 l)=d:=by
  unfold n9.p4 n9.kD at *;grind
 rw [ac_ a c h f,eg g,e]
def aow (a:(l.length:Int)<=k) (c:l.all l9=true) (h:(ed s (l.take k)).2=0) (e:¬ (l.length:Int)=0) (f:d.kD (l3 l)=0) (g:¬ (d.p4 (l3 l)).fY=0):l7 d s l=((d.p4 (l3 l)).sync,s,(d.p4 (l3 l)).fY):=by
 rw [ac_ a c h e,dc (B4.2 f),eg g]
def anR (a:(l.length:Int)<=k) (c:l.all l9=true) (h:(ed s (l.take k)).2=0) (e:¬ (l.length:Int)=0) (f:d.kD (l3 l)=0) (g:(d.p4 (l3 l)).fY=0):l7 d s l=((d.p4 (l3 l)).sync,(ed s (l.take k)).1,0):=by
 rw [ac_ a c h e,dc (B4.2 f),dc (B4.2 g)]
variable {x:List UInt8}
def S7 (h:d.OK):0<=(d.p4 x).ee:=(Gq h).1
def ahl (h:d.OK):(d.p4 x).ee<=((d.p4 x).b.length:Int):=(Gq h).2.1
def agy (h:d.OK):(d.p4 x).b.length<=65536:=(Gq h).2.2
def OO (h:(l.take k).all l9=true) (a:l[k]? = some r) (c:(a_ r).2=0):(l.take (k+1)).all l9=true:=ai6 h a (jb.1 c)
end
def YX (s:c4) (l:List c9) (a:Int) (c:Bool) (d:Bool) (e:Int) (f:List UInt8):List (Nat × LI):=[(3,{ σ:=Nat,F:=fun k=>([(0,one (.ptr 0 0)),(2,one (.fz (.nm .record) (l))),(4,one (.ptr 2 0)),(6,one (.ptr 3 0)),(8,one (.own 4)),(20,one (.fz (.nm .record) (l))),(21,one (.int (l).length)),(22,one (.int k))],[.box 147 ([.own 1,.int ((a)),.bool (.atom ((c))),.bool (.atom ((d))),.int ((e))]),.row 5 .u8 ((f)),.box 64 (cellsOf (.nm .stable) (s)),.box 64 (cellsOf (.nm .stable) (rl)),.row 5 .u8 ((l3 (l.take k)))]),J:=fun k=>k<=l.length/\(l.take k).all l9=true,μ:=fun k=>(l).length - k }),(15,{ σ:=Nat,F:=fun k=>([(0,one (.ptr 0 0)),(2,one (.fz (.nm .record) (l))),(4,one (.ptr 2 0)),(6,one (.ptr 3 0)),(8,one (.own 4)),(14,one (.ptr 5 0)),(52,one (.fz (.nm .record) (l))),(53,one (.int (l).length)),(54,one (.int k))],[.box 147 ([.own 1,.int ((a)),.bool (.atom ((c))),.bool (.atom ((d))),.int ((e))]),.row 5 .u8 ((f)),.box 64 (cellsOf (.nm .stable) (s)),.box 64 (cellsOf (.nm .stable) (rl)),.row 5 .u8 ((l3 l)),.box 64 (cellsOf (.nm .stable) ((ed s (l.take k)).1))]),J:=fun k=>k<=l.length/\l.all l9=true/\(ed s (l.take k)).2=0,μ:=fun k=>(l).length - k })]
def BG:Kn:=aH (ae (kC (bm 0 0)) (ae (kT (.nm .stable)) (ae (kC (cL (.nm .record))) ao))) (aF (eu 147 (ax (fE 1) (ax cI (ax cB (ax cB (ax cI dY)))))) (aF (fD 5 .u8) au)) fun (_,s,l,_) ((_,a,d,e,f,_),g,_)=>⟨[(n9.mk g a d e f).OK,s.log.length<=10000,l.length<=1000],[.agg (cellsOf (.nm .stable) ((l7 (n9.mk g a d e f) s l).2.1)),.c (.int (((l7 (n9.mk g a d e f) s l).2.2)))],some ([.box 147 ([.own 1,.int (((l7 (n9.mk g a d e f) s l).1.ee)),.bool (.atom (((l7 (n9.mk g a d e f) s l).1.down))),.bool (.atom (((l7 (n9.mk g a d e f) s l).1.jx))),.int (((l7 (n9.mk g a d e f) s l).1.dm))]),.row 5 .u8 (((l7 (n9.mk g a d e f) s l).1.b))]),false⟩
set_option maxRecDepth 8000 in
theorem PQ:CK 87 BG:=ag fun (_,s,l,_) ((_,h,p,q,u,_),i,_) j=>by
 have t:=b_ j;have w:=b_ (dv j);have m:=b_ (dv (dv j));refine bP Ho (YX s l h p q u i) func87 (?_:(fun (T:n9)=>(fun (v:Prop)=>(fun (n:Prop)=>(fun (U:Prop)=>(fun (V:Prop)=>(fun (W:Prop)=>(fun (X:Int)=>(fun (Z:Int)=>(fun (D:Nat)=>(fun (g:Int)=>(fun (e:Int)=>(fun (B:n9)=>(fun (I:n9)=>(fun (o:n9 × c4 × Int)=>(fun (y:c4)=>(fun (z:Int)=>(fun (a:n9)=>(fun (Y:Prop)=>(fun (L:Prop)=>cS s (l.length*48<=140737488355328->∃ (N:Nat),(v/\v/\X=g/\e=(N:Int)/\h=h/\p=p/\q=q/\u=u/\i=i/\aN s s (e=rl.floor/\e=rl.bo/\e=rl.jc/\rl.log=[]/\l3 (take N l)=[]))/\(N<=D/\(take N l).all l9=true)/\∀ (c:Nat),c<=D/\(take c l).all l9=true->((c:Int)<g->e<=(c:Int)/\(c:Int)<X/\∀ (x:c9),(fun (O:Int)=>(fun (A:List UInt8 × Int)=>l[c]? = some x->eN x ((a_ x).fst.length*1<=140737488355328->a7 O->(¬O=e->W->V->U->aN s y (O=z/\L))/\(O=e->A.fst.length*1<=140737488355328->a7 A.snd->(¬A.snd=e->W->V->U->aN s y (A.snd=z/\L))/\(A.snd=e->((l3 (take c l)).length+A.fst.length)*1<=140737488355328/\a7 ((c:Int)+1)/\∃ (J:Nat),(v/\v/\g=g/\(c:Int)+1=(J:Int)/\h=h/\p=p/\q=q/\u=u/\i=i/\aN s s (aN rl rl (l3 (take c l)++A.fst=l3 (take J l))))/\(J <= D/\(take J l).all l9=true)/\D - J < D - c)))) (qu (a_ x).fst)) (a_ x).snd)/\(g<=(c:Int)->W->V->U->∃ (N:Nat),(v/\v/\X=g/\e=(N:Int)/\h=h/\p=p/\q=q/\u=u/\i=i/\aN s s (aN rl rl (l3 (take c l)=l3 l/\eJ s (ed s (take N l)).fst)))/\(N<=D/\n/\(ed s (take N l)).snd=e)/\∀ (f:Nat),(fun (C:c4)=>f<=D/\n/\(ed s (take f l)).snd=e->((f:Int)<g->e<=(f:Int)/\(f:Int)<X/\∀ (x:c9),(fun (S:Int)=>l[f]? = some x->eN x (C.log.length<=1000000/\cS (ba C x).fst (a7 S->(¬S=e->W->V->U->aN s y (S=z/\L))/\(S=e->a7 ((f:Int)+1)/\∃ (J:Nat),(v/\v/\g=g/\(f:Int)+1=(J:Int)/\h=h/\p=p/\q=q/\u=u/\i=i/\aN s s (aN rl rl (l3 l=l3 l/\eJ (ba C x).fst (ed s (take J l)).fst)))/\(J <= D/\n/\(ed s (take J l)).snd=e)/\D - J < D - f)))) (ba C x).snd)/\(g<=(f:Int)->(X=e->aN C y (e=z/\L))/\(¬X=e->(e<=h/\h<=(i.length:Int)/\i.length<=65536)/\(a7 Z->(¬Z=e->W->V->U->aN s y (Z=z/\B.ee=a.ee/\B.down=a.down/\B.jx=a.jx/\B.dm=a.dm/\B.b=a.b))/\(Z=e->(e<=B.ee/\B.ee<=(B.b.length:Int)/\B.b.length<=65536)/\(a7 B.fY->(¬B.fY=e->W->V->U->aN s y (B.fY=z/\Y))/\(B.fY=e->aN C y (e=z/\Y)))))))) (ed s (take f l)).fst))) (h=a.ee/\p=a.down/\q=a.jx/\u=a.dm/\i=a.b)) (I.ee=a.ee/\I.down=a.down/\I.jx=a.jx/\I.dm=a.dm/\I.b=a.b)) o.fst) o.snd.snd) o.snd.fst) (l7 T s l)) B.sync) (T.p4 (l3 l))) 0) (D:Int)) l.length) (T.kD (l3 l))) (l.length:Int)) (a7 s.floor)) (a7 s.bo)) (a7 s.jc)) (l.all l9=true)) (l=l)) (n9.mk i h p q u))
 have r:=t;obtain ⟨F,G,H⟩:=t;dsimp only at F G H;(repeat' with_reducible first|apply aT|refine aW ?_|intro)
 all_goals try (refine ⟨0,?_⟩; (repeat' with_reducible first|apply aT|refine aW ?_|intro))
 all_goals try (first | (refine ⟨‹Nat› + 1,?_⟩; (repeat' with_reducible first|apply aT|refine aW ?_|intro) <;> (first | exact bR | (with_reducible exact ags ab ab) | (with_reducible exact OO ab ab ab) | (with_reducible exact aa5 m ab ab) | (with_reducible exact agL ab ab)); done) | (refine ⟨0,?_⟩; (repeat' with_reducible first|apply aT|refine aW ?_|intro)))
 all_goals try (refine ⟨‹Nat› + 1,?_⟩; (repeat' with_reducible first|apply aT|refine aW ?_|intro))
 all_goals (first | exact bR | (with_reducible exact ags ab ab) | (with_reducible exact OO ab ab ab) | (with_reducible exact aa5 m ab ab) | (with_reducible exact agL ab ab) | (with_reducible exact ap2 ab) | (with_reducible exact amW w m) | (with_reducible exact anQ ab ab) | (with_reducible exact (RO ab ab ab).1) | (with_reducible exact S7 r) | (with_reducible exact ahl r) | (with_reducible exact agy r) | (with_reducible exact (hC c4.floor (RO ab ab ab).2).symm) | (with_reducible exact (hC c4.bo (RO ab ab ab).2).symm) | (with_reducible exact (hC c4.jc (RO ab ab ab).2).symm) | (with_reducible exact (hC c4.log (RO ab ab ab).2).symm) | (rw [apU (d:=n9.mk i h p q u) ab ab] <;> rfl) | (rw [aox (d:=n9.mk i h p q u) ab ab ab ab] <;> rfl) | (rw [apx (d:=n9.mk i h p q u) ab ab ab ab ab] <;> rfl) | (rw [aow (d:=n9.mk i h p q u) ab ab ab ab ab ab] <;> rfl) | (rw [anR (d:=n9.mk i h p q u) ab ab ab ab ab ab] <;> rfl) | (rw [aoQ (d:=n9.mk i h p q u) (k:=‹Nat›) ab] <;> rfl) | exact rfl)
def aj2:ck:=(aI 87 BG ahO)
def mP:ay prog (av l6) aj2:=(ah PQ Ho)
variable {l:List ec}
def agD {x:ec} (h:l[k]? = some x):l.take k++[x]=l.take (k+1):=(aj h).symm
def akv (h:(l.length:Int)<=k):l.take k=l:=r6 az
def Lr (l:List ec):List (Nat × LI):=[(3,{ σ:=Nat,F:=fun k=>([(3,one (.own 0)),(6,one (.fz (.nm .entry) (l))),(7,one (.int (l).length)),(8,one (.int k))],[.row 52 (.nm .entry) ((l.take k))]),J:=fun k=>k<=l.length,μ:=fun k=>(l).length - k })]
def Be:Kn:=aH ao au fun _ _=>⟨[],[.agg (cellsOf (.nm .eS) (b7.mk 1 1 0 0 [] [] []))],none,false⟩
def RA:CK 46 Be:=ag fun _ _ _=>by
 refine aq mP [] func46 (?_:(1:Int)=1/\(1:Int)=1/\(0:Int)=0/\(0:Int)=0 /\ @Eq (List (l5 (Sh.nm NT.b8))) [] [] /\ @Eq (List (l5 (Sh.nm NT.opn))) [] [] /\ @Eq (List (l5 (Sh.nm NT.snap))) [] []);exact ⟨rfl,rfl,rfl,rfl,rfl,rfl,rfl⟩
def xR:Kn:=aH (ae (kC (bm 0 0)) (ae (kC cI) (ae (kC cI) ao))) tW fun (_,kd,a,_) n=>⟨[],[.agg (cellsOf (.nm .letter) (sN n.c kd a))],none,false⟩
def MG:CK 51 xR:=ag fun (_,kd,e,_) n _=>by
 refine aq mP [] func51 (?_:(fun d=>a7 kd->a7 e->kd=d.kind/\n.c.me=d.n7/\e=d.to/\n.c.st.bo=d.bo/\0=d.a/\0=d.b/\0=d.c/\n.c.bin=d.bin/\false=d.ok/\d.l=[]) (sN n.c kd e));(repeat' with_reducible first|apply aT|refine aW ?_|intro)
 all_goals rfl
def uQ:Kn:=aH (ae (kC (cL (.nm .entry))) ao) au fun (l,_) _=>⟨[],[.c (.fz (.nm .entry) ((l)))],none,false⟩
theorem EU:CK 60 uQ:=ag fun (l,_) _ _=>by
 refine aq mP (Lr l) func60 (?_:(fun (a:Nat)=>l.length*32<=140737488355328->∃ (d:Nat),(l=l/\(l.length:Int)=(a:Int)/\0=(d:Int)/\take d l=[])/\d<=a/\∀ (s:Nat),s<=a->((s:Int)<(a:Int)->0<=(s:Int)/\(s:Int)<(l.length:Int)/\∀ (x:ec),(fun (e:Prop)=>l[s]? = some x->a7 x.bo->e->(e->((take s l).length+[x].length)*32<=140737488355328)/\(e->a7 ((s:Int)+1)/\∃ (c:Nat),(l=l/\(a:Int)=(a:Int)/\(s:Int)+1=(c:Int)/\take s l++[x]=take c l)/\c <= a/\a - c < a - s)) (x.b.length*1<=140737488355328))/\((a:Int)<=(s:Int)->take s l=l)) l.length);iterate 3 ((all_goals (repeat' with_reducible first|apply aT|refine aW ?_|intro)); (all_goals try (first | exact bR | exact (agD ab) | exact (akv ab) | (simp only [s9,y4,C1]; omega))); all_goals try first | refine ⟨‹Nat› + 1,?_⟩ | refine ⟨0,?_⟩)
def H_:Kn:=aH (ae (kC (bm 0 0)) (ae (kC cI) ao)) tW fun (_,k,_) n=>⟨[],[],some ((mK ({ n with d:=⟨n.d.b,n.d.ee,n.d.down,true,k⟩ }))),false⟩
def Zm:CK 62 H_:=ag fun (_,k,_) n _=>by
 refine bP mP [] func62 (?_:a7 k->n.c.me=n.c.me/\n.c.hY=n.c.hY/\n.c.bin=n.c.bin/\aN n.c.st n.c.st (n.c.j0=n.c.j0/\n.c.c7=n.c.c7/\n.c.c3=n.c.c3/\bS n.c.s n.c.s (n.d.ee=n.d.ee/\n.d.down=n.d.down/\true=true/\k=k/\n.d.b=n.d.b/\n.rp=n.rp/\n.vs=n.vs/\n.bn=n.bn/\n.nx=n.nx/\n.mt=n.mt)));(repeat' with_reducible first|apply aT|refine aW ?_|intro)
 all_goals rfl
def CI:Kn:=aH (ae (kC (bm 0 0)) (ae (kC cI) ao)) tW fun (_,k,_) n=>⟨[n.d.OK],[],some ((mK ({ n with d:=n.d.dr k }))),false⟩
def Pg:CK 30 CI:=ag fun (_,k,_) n e=>by
 have f:=b_ e;refine bP mP [] func30 (?_:(fun a=>a7 k->(0<=n.d.ee/\n.d.ee<=(n.d.b.length:Int)/\n.d.b.length<=65536)/\n.c.me=n.c.me/\n.c.hY=n.c.hY/\n.c.bin=n.c.bin/\aN n.c.st n.c.st (n.c.j0=n.c.j0/\n.c.c7=n.c.c7/\n.c.c3=n.c.c3/\bS n.c.s n.c.s (a.ee=a.ee/\a.down=a.down/\a.jx=a.jx/\a.dm=a.dm/\a.b=a.b/\n.rp=n.rp/\n.vs=n.vs/\n.bn=n.bn/\n.nx=n.nx/\n.mt=n.mt))) (n.d.dr k));obtain ⟨g,h,i⟩:=id f;(repeat' with_reducible first|apply aT|refine aW ?_|intro)
 all_goals exact bR
def abp:ck:=(aI 30 CI (aI 62 H_ (aI 60 uQ (aI 51 xR (aI 46 Be aj2)))))
def oE:ay prog (av l6) abp:=(ah Pg (ah Zm (ah EU (ah MG (ah RA mP)))))
variable {n:y8}
def ajs (h:¬ (k:Int)=n.me):kW n k++[(k:Int)]=kW n (k+1):=by
 simp [kW,I7,h]
def aiO (h:(k:Int)=n.me):kW n k=kW n (k+1):=by
 simp [kW,I7,h]
def ajL (a:k<=n.hY.toNat) (h:n.hY<=k):kW n k=dq n:=by
 unfold dq; congr 1; omega
def sC:(kW n k).length<=k:=by
 unfold kW;refine z7 (L5 _ _) ?_;simp
def Sv (n:Nd):List (Nat × LI):=[(3,{ σ:=Nat,F:=fun k=>([(0,one (.ptr 0 0)),(3,one (.own 8)),(8,one (.int n.c.hY)),(9,one (.int k))],(mK (n)++[.row 3 .int ((kW n.c k))])),J:=fun k=>k<=n.c.hY.toNat,μ:=fun k=>n.c.hY.toNat - k })]
def xC:Kn:=aH (ae (kC (cL .int)) ao) au fun (l,_) _=>⟨[],[.c (.own 0)],some ([.row 3 .int ((l))]),true⟩
def wE:CK 75 xC:=ag fun (l,_) _ _=>by
 refine cr oE [] func75 (?_:(fun a=>a->∀ (b:Bool),(b=true->l=[])->(b=true->l=[])/\(b=false->a/\l=l)) (l.length*8<=140737488355328));exact fun h b c=>⟨c,fun _=>⟨h,rfl⟩⟩
def Mj (l:List Int):s6 prog (av l6) 75 [.c (.fz .int (l))] [] ⟨[],[.c (.own 0)],some ([.row 3 .int ((l))]),true⟩:=wE _ _ _ rfl aa
def OC:Kn:=aH (ae (kT (.nm .letter)) ao) au fun (x,_) _=>⟨[],[.agg (cellsOf (.nm .letter) (x))],none,false⟩
def ady:CK 59 OC:=ag fun (x,_) _ _=>by
 refine aq oE [] func59 (?_:bf x (x.l.length*32<=140737488355328->Ci x x));(repeat' with_reducible first|apply aT|refine aW ?_|intro)
 all_goals rfl
def xP:Kn:=aH (ae (kC (bm 0 0)) ao) tW fun _ n=>⟨[n.c.hY<=5],[.c (.fz .int ((dq n.c)))],none,false⟩
theorem KY:CK 50 xP:=ag fun _ n h=>by
 have i:=b_ h;refine aq oE (Sv n) func50 (?_:(fun (a:Int)=>(fun (e:Nat)=>∃ (g:Nat),(a=a/\0=(g:Int)/\vX n n (kW n.c g=[]))/\g<=e/\∀ (s:Nat),(fun (f:Int)=>s<=e->((s:Int)<a->(¬(s:Int)=n.c.me->((kW n.c s).length+[(s:Int)].length)*8<=140737488355328/\a7 f/\∃ (d:Nat),(a=a/\f=(d:Int)/\vX n n (kW n.c s++[(s:Int)]=kW n.c d))/\d <= e/\e - d < e - s)/\((s:Int)=n.c.me->a7 f/\∃ (d:Nat),(a=a/\f=(d:Int)/\vX n n (kW n.c s=kW n.c d))/\d <= e/\e - d < e - s))/\(a<=(s:Int)->kW n.c s=dq n.c)) ((s:Int)+1)) a.toNat) n.c.hY);iterate 3 ((all_goals (repeat' with_reducible first|apply aT|refine aW ?_|intro)); (all_goals try (first | exact bR | exact (ajs ab) | exact (aiO ab) | exact (ajL ab ab) | (have:=sC (n:=n.c) (k:=‹Nat›); simp only [y4,C1]; omega))); all_goals try first | refine ⟨‹Nat› + 1,?_⟩ | refine ⟨0,?_⟩)
def aai:ck:=(aI 50 xP (aI 59 OC (aI 75 xC abp)))
def Pe:ay prog (av l6) aai:=(ah KY (ah ady (ah wE oE)))
end Go.Proofs.YticbaadnibdbkaaGreat
namespace Go.Proofs.YticbaadnibdbkaaGreat
open Tryz
open Go.RowKit Go.Proofs Go.Shelf Go.Sort
def yv (w a:World) (l:List Int) (g:Nat) (b:List Value):Prop:=Kp [] w a/\w.heap.size<=g/\a.heap[g]? = some (.cells (toArray (l.map (Value.int .i64)++b)) 3 (0,0))
variable {l:List Int} {w:World}
theorem EZ {G:Gl} {f:List RE} {v:Value} (u:G.shp=av l6) (q:oh G f [] w) (x:Rd (cx G f w) f (.fz .int l) v) (H:l.length≠0) :
  kI prog 75 #[v] w fun r s=>∃ g c k,r = .slice (some ⟨g,0,none⟩) l.length c/\yv w s l g k:=by
 have m:f=[]:=B7 q.obj.length.symm;subst m;refine ((Mj l).2 G [] w [v] u q (.cons x .nil)).mono fun r s ⟨I,e,y,n,z,t,o,A⟩=>?_;have B:l4 [AO.row 3 .int l] 0 = .row 3 .int l:=rfl;cases o with | cons a b=>?_
 cases b;rcases cc n B with ⟨_,j⟩ | ⟨g,c,p,k,j,C,D,J,K,F⟩
 ·grind
 rcases a with ⟨_,_,_,_,d,rfl⟩ | ⟨d,_⟩;case inr=>rw [j] at d; cases d
 rw [j] at d; cases d;obtain ⟨rfl,L⟩:=nF D;refine ⟨g,c,k,e,(A rfl).1,?_,C⟩;rcases Nat.lt_or_ge g w.heap.size with h | h
 ·exact absurd ⟨0,_,j,rfl⟩ (z.x4 g h (fun ⟨i,r,h,_⟩=>by simp at h)).1
 exact h
variable {w1:World} {sp:List Value}
def Gi {g d:Nat} (h:yv w w1 l g sp) (j:l.length<=12) :
  Calls prog 265 #[.slice (some ⟨g,0,none⟩) l.length d,.func (.func 266) #[] #[]] w1 fun e f=>e = .returned (.tuple #[])/\yv w f (pC l) g sp:=by
 obtain ⟨c,k,m⟩:=h;refine (TM j m).mono fun e f ⟨n,a,o⟩=>⟨n,⟨a.os.trans c.os,a.tape.trans c.tape,a.output.trans c.output,z7 c.size a.size,fun b i p=>?_⟩,k,o⟩;exact (a.block b (w9 i c.size) (by simp; omega)).trans (c.block b i p)
def Gk {g i:Nat} (h:yv w w1 l g sp) (a:i<l.length):w1.cell? ⟨g,i,none⟩=some (.int .i64 (l.getD i 0)):=by
 rw [Lib.cell_of_heap h.2.2,List.getElem?_toArray,C9 (by simpa using a),List.getElem?_map,p6 a,ts,p6 a]; rfl
def LA (l:List Int) (s:l.length<=12):s6 prog (av l6) 228 [.c (.fz .int l)] [] ⟨[l.length<=12],[.c (.int (il l))],none,false⟩:=by
 refine ⟨⟨_,func228,am,by kernel_rfl⟩,fun G n w B t u d=>?_⟩;cases d with | cons j d=>?_
 cases d;have m:=EZ (l:=l) t u j;replace j:Pd (cx G n w) (.fz .int l) _:=j;cases j with | fz C D F v H=>?_
 rename_i a k o;have x:=(nF v).2;by_cases p:l.length=0
 ·clear m;go_enter func228,ntmps228
  have q:(l.length:Int)=0:=by omega
  go_wp2
  go_ret
  refine ⟨_,rfl,[_],rfl,?_,?_⟩
  ·exact Kp.refl w
  refine .cons ?_ .nil;have e:il l=0:=eg p;show Pd (cx G n w) (.int (il l)) (.int .i64 0);rw [e]; exact .int ⟨am,am⟩
 replace m:=m p;go_enter func228,ntmps228
 have q:¬ (l.length:Int)=0:=by omega
 have I:(l.length:Int).tdiv 2=((l.length / 2:Nat):Int):=by rw [Int.tdiv_eq_ediv_of_nonneg az]; omega
 have J:0<=(l.length:Int).tdiv 2:=by omega
 have K:(l.length:Int).tdiv 2<(l.length:Int):=by omega
 have L:a7 ((l.length:Int).tdiv 2):=cY az az;go_wp2_with (first | (go_at_call 75; refine M3 m ?_; rintro e w1 ⟨_,rfl,g,y,sp,rfl,r⟩) | (go_at_call 265; refine M3 (Gi r s) ?_; rintro e z ⟨rfl,f⟩; have A:=Gk (i:=l.length / 2) f (by rw [qo]; omega)))
 go_ret
 refine ⟨_,rfl,[_],rfl,f.1,.cons ?_ .nil⟩;have e:il l=(pC l).getD (l.length / 2) 0:=dc p;show Pd (cx G n z) (.int (il l)) (.int .i64 ((pC l).getD (l.length / 2) 0));rw [e];refine .int (x _ ((List.mergeSort_perm l (fun a b=>decide (b<=a))).mem_iff.1 (show _ ∈ pC l from ?_)));have h:l.length / 2<(pC l).length:=by rw [qo]; omega
 rw [ts,p6 h];exact I1 h
end Go.Proofs.YticbaadnibdbkaaGreat
namespace Go.Proofs.YticbaadnibdbkaaGreat
open Tryz
open Go.RowKit
def RK (l:List Int) (a:l.length<=12):s6 prog (av l6) 228 [.c (.fz .int (l))] [] ⟨[l.length<=12],[.c (.int ((il l)))],none,false⟩:=LA l a
def DL:Kn:=aH (ae (kC (cL .int)) ao) au fun (l,_) _=>⟨[l.length<=12],[.c (.int ((il l)))],none,false⟩
def PM:CK 228 DL:=ag fun (l,_) _ a=>RK l (b_ a)
def aaR:ck:=(aI 228 DL aai)
def sZ:ay prog (av l6) aaR:=(ah PM Pe)
def gZ {d:n9} {s:c4} {l:List c9} (h:¬ (l7 d s l).2.2=0):(l7 d s l).2.1=s:=by
 revert h;unfold l7;repeat' split
 all_goals first | (intro _; rfl) | (intro h; exact absurd rfl h)
def yj:Kn:=aH (ae (kT (.nm .stable)) (ae (kC (cL .int)) (ae (kC cI) ao))) au fun (s,l,k,_) _=>⟨[l.length<=12],[.c (.int ((nk s l k)))],none,false⟩
def Ma:CK 173 yj:=ag fun (s,l,k,_) _ b=>by
 have c:=b_ b;refine aq sZ [] func173 (?_:(fun a=>cS s (l.length*8<=140737488355328->a7 k->l.length<=12/\(a7 (il l)->(k<a->a7 (dx s.log a))->(k<a/\dx s.log a=s.bo->a=nk s l k)/\(a<=k\/¬dx s.log a=s.bo->k=nk s l k)))) (min (il l) (s.log.length:Int)));(repeat' with_reducible first|apply aT|refine aW ?_|intro)
 all_goals (first | exact bR | (rw [nk,eg ⟨ab,ab⟩]) | (rw [nk,dc az]))
def IZ:Kn:=aH (ae (kC (bm 0 0)) (ae (kC (cL (.nm .record))) ao)) tW fun (_,l,_) n=>⟨[n.d.OK,n.c.st.log.length<=10000,l.length<=1000],[.c (.int ((n.bd l)))],some ((mK ((n.ep l)))),false⟩
def V_:CK 47 IZ:=ag fun (_,l,_) n e=>by
 have f:=b_ e;have g:=b_ (dv e);have h:=b_ (dv (dv e));refine bP sZ [] func47 (?_:(fun a=>l.length*48<=140737488355328->((0<=n.d.ee/\n.d.ee<=(n.d.b.length:Int)/\n.d.b.length<=65536)/\n.c.st.log.length<=10000/\l.length<=1000)/\cS a.snd.fst (a7 a.snd.snd->(¬a.snd.snd=0->a.snd.snd=n.bd l/\cK (Nd.mk n.c a.fst n.rp n.vs n.bn n.nx n.mt) (n.ep l))/\(a.snd.snd=0->0=n.bd l/\cK (Nd.mk (y8.mk n.c.me n.c.hY n.c.bin a.snd.fst n.c.j0 n.c.c7 n.c.c3 n.c.s) a.fst n.rp n.vs n.bn n.nx n.mt) (n.ep l)))) (l7 n.d n.c.st l));obtain ⟨i,j,k⟩:=id f;(repeat' with_reducible first|apply aT|refine aW ?_|intro)
 all_goals (first | exact bR | exact (Eq.symm ab) | exact (hC c4.floor (gZ ab)).symm | exact (hC c4.bo (gZ ab)).symm | exact (hC c4.jc (gZ ab)).symm | exact (hC c4.log (gZ ab)).symm)
def abU:ck:=(aI 47 IZ (aI 173 yj aaR))
def mw:ay prog (av l6) abU:=(ah V_ (ah Ma sZ))
structure AJ (n q:Nd):Prop where
 eq:n.apply=q.apply
 le:0<=q.c.c3/\q.c.c7<=(q.c.st.log.length:Int)/\(q.rp.length:Int)<=q.c.c3/\q.c.st.log.length<=10000
def Nd.ap1 (q:Nd):Nd:={ q with c:={ q.c with s:=u7 q.c.bin q.c.s ((q.c.st.log.drop q.c.c3.toNat).take ((q.c.c3+1).toNat - q.c.c3.toNat)),c3:=q.c.c3+1 },rp:=q.rp++y7 q.c.bin q.c.s ((q.c.st.log.drop q.c.c3.toNat).take ((q.c.c3+1).toNat - q.c.c3.toNat)) }
section
variable {n q:Nd}
def ame (h:(0<=n.c.c3/\n.c.c7<=(n.c.st.log.length:Int))/\(n.rp.length:Int)<=n.c.c3/\n.c.st.log.length<=10000):AJ n n:=⟨rfl,az⟩
def VK (h:AJ n q):(q.c.c3+1).toNat - q.c.c3.toNat=1:=by have:=h.le; omega
def Og (h:AJ n q):(y7 q.c.bin q.c.s ((q.c.st.log.drop q.c.c3.toNat).take ((q.c.c3+1).toNat - q.c.c3.toNat))).length<=1:=by
 rw [VK h,y7,zI,s9,s9]; omega
theorem anI (h:AJ n q) (d:q.c.c3<q.c.c7) (a:pE q.c.bin ((q.c.st.log.drop q.c.c3.toNat).take ((q.c.c3+1).toNat - q.c.c3.toNat))=0):AJ n q.ap1:=by
 have b:=h.le;have e:=Og h;refine ⟨?_,?_,b.2.1,?_,b.2.2.2⟩
 ·rw [h.eq,Nd.apply,show (q.c.c7 - q.c.c3).toNat=(q.c.c7 - (q.c.c3+1)).toNat+1 by omega,Nd.dO,eg d];rw [VK h] at a;rw [eg a,Nd.apply,Nd.ap1,VK h]
 ·show 0<=q.c.c3+1;omega
 show (((q.rp++_).length:Nat):Int)<=q.c.c3+1;grind
def an8 (a:q.c.c3<q.c.c7):(q.c.c7 - (q.c.c3+1)).toNat<(q.c.c7 - q.c.c3).toNat:=by omega
def apy (h:AJ n q) (b:q.c.c3<q.c.c7) (a:¬ pE q.c.bin ((q.c.st.log.drop q.c.c3.toNat).take ((q.c.c3+1).toNat - q.c.c3.toNat))=0):n.apply=q:=by
 rw [VK h] at a;rw [h.eq,Nd.apply,show (q.c.c7 - q.c.c3).toNat=(q.c.c7 - (q.c.c3+1)).toNat+1 by omega,Nd.dO,eg b,dc a]
def amy (h:AJ n q) (a:q.c.c7<=q.c.c3):n.apply=q:=by
 rw [h.eq,Nd.apply,show (q.c.c7 - q.c.c3).toNat=0 by omega,Nd.dO]
def amv (h:AJ n q):0<=q.c.c3:=h.le.1
def aoH (h:AJ n q) (a:q.c.c3<q.c.c7):q.c.c3+1<=(q.c.st.log.length:Int):=by have:=h.le; omega
def amk (h:AJ n q) (a:q.c.c3<q.c.c7):a7 (q.c.c3+1):=by have:=h.le; exact cY az az
def an0 (h:AJ n q) (a:q.c.c3<q.c.c7):(q.rp.length+(y7 q.c.bin q.c.s ((q.c.st.log.drop q.c.c3.toNat).take ((q.c.c3+1).toNat - q.c.c3.toNat))).length)*16<=140737488355328:=by
 have:=h.le; have:=Og h; omega
end
def aE (n:Nd):Site:=if n.d.down=true then ⟨false,0,0,0,0,0,0,0,[],⟨0,0,0,0,[],[],[]⟩⟩ else ⟨true,n.c.j0,n.c.bin,n.c.st.floor,n.c.st.bo,n.c.st.jc,n.c.c7,n.c.c3,n.c.st.log,n.c.s⟩
variable {n:Nd}
theorem NX (h:n.d.down=true):aE n=⟨false,0,0,0,0,0,0,0,[],⟨0,0,0,0,[],[],[]⟩⟩:=eg h
def mi (h:n.d.down=false):aE n=⟨true,n.c.j0,n.c.bin,n.c.st.floor,n.c.st.bo,n.c.st.jc,n.c.c7,n.c.c3,n.c.st.log,n.c.s⟩:=dc (by rw [h]; decide)
theorem lQ {s:c4} {r:v7} (h:¬ (h_ s r).2=0):(h_ s r).1=di:=by
 revert h;unfold h_;grind
section
variable {n:Nd} {k t:Int}
def aqi (h:n.d.down=true):gE n k t=(⟨0,0⟩,30):=eg h
def aoK (h:n.d.down=false) (a:(k<1\/n.c.c3<k)\/¬ (n.c.st.log.getD (k - 1).toNat (c5 (Sh.nm NT.entry))).bo=t):gE n k t=(⟨0,0⟩,15):=by
 rw [gE,dc (by rw [h]; decide)]; exact eg a
def ajp (h:n.d.down=false) (b:1<=k) (e:k<=n.c.c3) (a:(n.c.st.log.getD (k - 1).toNat (c5 (Sh.nm NT.entry))).bo=t):gE n k t=(n.rp.getD (k - 1).toNat ⟨0,0⟩,0):=by
 rw [gE,dc (by rw [h]; decide)]; exact dc (by rintro ((h4 | h4) | h4) <;> first | omega | exact h4 a)
end
def Zw (n:Nd):List (Nat × LI):=[(0,{ σ:=Nd,F:=fun q=>([(0,one (.ptr 0 0))],(mK (q))),J:=fun q=>AJ n q,μ:=fun q=>(q.c.c7 - q.c.c3).toNat })]
def x_:Kn:=aH (ae (kC (bm 0 0)) (ae (kC cI) ao)) tW fun (_,k,_) n=>⟨[0<=k/\k<(n.nx.length:Int)],[.agg (cellsOf (.nm .letter) ((jN n k).1)),.c (.int (((jN n k).2)))],none,false⟩
def Lu:CK 71 x_:=ag fun (_,k,_) n g=>by
 have h:=b_ g;refine aq mw [] func71 (?_:(fun d=>(fun e=>(fun f=>a7 k->(d<=k/\k<(n.nx.length:Int))/\(a7 (n.nx.getD k.toNat (c5 Sh.int))->bf f.fst (a7 f.snd->(¬f.snd=d->d=e.kind/\d=e.n7/\d=e.to/\d=e.bo/\d=e.a/\d=e.b/\d=e.c/\d=e.bin/\false=e.ok/\e.l=[]/\f.snd=(jN n k).snd)/\(f.snd=d->bf f.fst (iG f.fst e (d=(jN n k).snd)))))) (h_ n.c.st (v7.mk n.c.me k (n.nx.getD k.toNat (c5 Sh.int)) n.c.c7 n.c.bin))) (jN n k).fst) (0:Int));(repeat' with_reducible first|apply aT|refine aW ?_|intro)
 all_goals (first | exact bR | exact (hC eR.kind (lQ ap)).symm | exact (hC eR.n7 (lQ ap)).symm | exact (hC eR.to (lQ ap)).symm | exact (hC eR.bo (lQ ap)).symm | exact (hC eR.a (lQ ap)).symm | exact (hC eR.b (lQ ap)).symm | exact (hC eR.c (lQ ap)).symm | exact (hC eR.bin (lQ ap)).symm | exact (hC eR.ok (lQ ap)).symm | exact (hC eR.l (lQ ap)).symm | exact (Eq.symm ap) | exact (hC eR.l (lQ ap)))
def Hk:Kn:=aH (ae (kC (bm 0 0)) ao) tW fun _ n=>⟨[],[.agg (cellsOf (.nm .site) (aE n))],none,false⟩
def Zf:CK 17 Hk:=ag fun _ n _=>by
 refine aq mw [] func17 (?_:(fun a=>(fun b=>(fun e=>(n.d.down=true->false=b.up/\a=b.j0/\a=b.binary/\a=b.floor/\a=b.bo/\a=b.jc/\a=b.c7/\a=b.c3/\b.log=[]/\a=e.a8/\a=e.next/\a=e.dm/\a=e.ea/\e.b8=[]/\e.c6=[]/\e.b6=[])/\(n.d.down=false->n.c.st.log.length*32<=140737488355328->a7 n.c.s.a8->a7 n.c.s.next->a7 n.c.s.dm->a7 n.c.s.ea->za (Site.mk true n.c.j0 n.c.bin n.c.st.floor n.c.st.bo n.c.st.jc n.c.c7 n.c.c3 n.c.st.log n.c.s) b)) b.eS) (aE n)) (0:Int));(repeat' with_reducible first|apply aT|refine aW ?_|intro)
 all_goals (first | (rw [NX (n:=n) ab] <;> rfl) | (rw [mi (n:=n) ab] <;> rfl))
def Al:Kn:=aH (ae (kC (bm 0 0)) (ae (kC cI) (ae (kC cI) ao))) tW fun (_,k,t,_) n=>⟨[n.c.c3<=n.c.st.log.length,n.c.c3<=n.rp.length],[.agg (cellsOf (.nm .nd) ((gE n k t).1)),.c (.int (((gE n k t).2)))],none,false⟩
theorem Up:CK 29 Al:=ag fun (_,k,t,_) n j=>by
 have m:=b_ j;have o:=b_ (dv j);refine aq mw [] func29 (?_:(fun l=>(fun f=>(fun i=>(fun a=>(fun e=>(fun g=>(fun h=>a7 k->a7 t->(n.d.down=true->f=a.fst.code/\f=a.fst.n/\30=a.snd)/\(n.d.down=false->(i->a7 e/\f<=e/\e<(l.length:Int))/\((i->a7 g.bo/\g.b.length*1<=140737488355328)->((k<1\/n.c.c3<k)\/¬g.bo=t->f=a.fst.code/\f=a.fst.n/\15=a.snd)/\(i/\g.bo=t->a7 e/\f<=e/\e<(n.rp.length:Int)/\(a7 h.code->a7 h.n->h.code=a.fst.code/\h.n=a.fst.n/\f=a.snd))))) (n.rp.getD e.toNat (c5 (Sh.nm NT.nd)))) (l.getD e.toNat (c5 (Sh.nm NT.entry)))) (k - 1)) (gE n k t)) (1<=k/\k<=n.c.c3)) (0:Int)) n.c.st.log);(repeat' with_reducible first|apply aT|refine aW ?_|intro)
 all_goals (first | exact bR | (exact cY az (by have q:=(by with_reducible assumption:a7 k).2; omega)) | (rw [aqi (n:=n) ab] <;> rfl) | (rw [aoK (n:=n) ab ab] <;> rfl) | (rw [ajp (n:=n) ab ab ab ab] <;> rfl))
def Ct:Kn:=aH (ae (kC (bm 0 0)) ao) tW fun _ n=>⟨[(0<=n.c.c3/\n.c.c7<=(n.c.st.log.length:Int))/\(n.rp.length:Int)<=n.c.c3/\n.c.st.log.length<=10000],[],some ((mK ((n.apply)))),false⟩
theorem TP:CK 99 Ct:=ag fun _ n l=>by
 have j:=b_ l;refine bP mw (Zw n) func99 (?_:(fun m=>∃ k,cK n k/\AJ n k/\∀ (s:Nd),(fun a=>(fun e=>(fun b=>(fun f=>(fun g=>(fun h=>AJ n s->(b<a.c7->a7 f/\(0<=b/\b<=f/\f<=(a.st.log.length:Int))/\(a7 h.a8->a7 h.next->a7 h.dm->a7 h.ea->a7 (pE e g)->(¬pE e g=0->cK s n.apply)/\(pE e g=0->(s.rp.length+(y7 e a.s g).length)*16<=140737488355328/\a7 f/\∃ i,cK (Nd.mk (y8.mk a.me a.hY e a.st a.j0 a.c7 f h) s.d (s.rp++y7 e a.s g) s.vs s.bn s.nx s.mt) i /\ AJ n i /\ (i.c.c7 - i.c.c3).toNat<(a.c7 - b).toNat)))/\(a.c7<=b->cK s n.apply)) (u7 e a.s g)) (take (f.toNat - b.toNat) (drop b.toNat a.st.log))) (b+m)) a.c3) a.bin) s.c) (1:Int));obtain ⟨o,p⟩:=id j;(repeat' with_reducible first|apply aT|refine aW ?_|intro)
 all_goals try ( refine ⟨n,?_⟩; (repeat' with_reducible first|apply aT|refine aW ?_|intro))
 all_goals try ( refine ⟨(‹Nd›).ap1,?_⟩; (repeat' with_reducible first|apply aT|refine aW ?_|intro))
 all_goals (first | exact bR | exact (ame (n:=n) j) | exact amv ab | exact (aoH ab ab) | exact (amk ab ab) | exact (an0 ab ab) | exact (an8 ab) | exact (anI ab ab ab) | (rw [apy ab ab ab] <;> rfl) | (rw [amy ab ab] <;> rfl))
def ZZ:ck:=(aI 99 Ct (aI 29 Al (aI 17 Hk (aI 71 x_ abU))))
def oY:ay prog (av l6) ZZ:=(ah TP (ah Up (ah Zf (ah Lu mw))))
section
variable {n:Nd} {l:List Int} {x:Int} {k:Nat}
theorem af8:∀ {l:List Int},(cZ n l).2=0->cZ n (l++[x])=if (jN n x).2=0 then ((cZ n l).1++[(jN n x).1],0) else ([],(jN n x).2)
 | [],_=>by
  by_cases h:(jN n x).2=0
  ·rw [eg h]; simp [cZ,h]
  rw [dc h]; simp [cZ,h]
 | t :: l,h=>by
  unfold cZ at h;split at h
  ·rename_i a;split at h
   ·rename_i b;rw [D0,cZ,eg a,af8 b];by_cases c:(jN n x).2=0
    ·rw [eg c,eg c,eg rfl,cZ,eg a,eg b]; rfl
    grind
   grind
  grind
theorem agJ:∀ {l m:List Int},¬ (cZ n l).2=0->cZ n (l++m)=([],(cZ n l).2)
 | t :: l,m,h=>by
  unfold cZ at h ⊢;rw [D0];dsimp only;split at h
  ·rename_i a;split at h
   ·grind
   simp_all [agJ]
  grind
theorem Oj:∀ {l:List Int},(cZ n l).1.length<=l.length
 | []=>sh _
 | t :: l=>by
  have:=Oj (l:=l);unfold cZ;grind
def aoR (h:n.d.down=true):cJ n=([],30):=eg h
def amM (h:n.d.down=false) (a:¬ n.c.j0=2):cJ n=([],33):=by
 rw [cJ,dc (by rw [h]; decide),dc a]
def aio (h:n.d.down=false) (a:n.c.j0=2):cJ n=cZ n (dq n.c):=by
 rw [cJ,dc (by rw [h]; decide),eg a]
def aoX (h:n.d.down=false) (f:n.c.j0=2) (g:(cZ n ((dq n.c).take k)).2=0) (i:(dq n.c)[k]? = some x) (b:¬ (jN n x).2=0):cJ n=([],(jN n x).2):=by
 have e:dq n.c=(dq n.c).take k++[x]++(dq n.c).drop (k+1):=by
  rw [<- aj i,D5]
 have a:=af8 (x:=x) g;rw [dc b] at a;rw [aio h f,e,agJ (by rw [a]; exact b),a]
theorem apk (h:n.d.down=false) (a:n.c.j0=2) (b:(cZ n ((dq n.c).take k)).2=0) (e:((dq n.c).length:Int)<=k):cJ n=((cZ n ((dq n.c).take k)).1,0):=by
 rw [aio h a,r6 az] at *;grind
def aiE (a:(cZ n ((dq n.c).take k)).2=0) (b:(dq n.c)[k]? = some x) (d:(jN n x).2=0):(cZ n ((dq n.c).take k)).1++[(jN n x).1]=(cZ n ((dq n.c).take (k+1))).1/\(cZ n ((dq n.c).take (k+1))).2=0:=by
 rw [aj b,af8 a,eg d]; exact ⟨rfl,rfl⟩
theorem ao2 {y:eR} (a:n.c.hY<=5):((cZ n ((dq n.c).take k)).1.length+[y].length)*96<=140737488355328:=by
 have b:=Oj (n:=n) (l:=(dq n.c).take k);have d:(dq n.c).length<=n.c.hY.toNat:=sC;grind
def aaa {n:y8} (a:(dq n)[k]? = some x):x≠n.me/\0<=x/\x<n.hY:=zp (List.mem_iff_getElem?.2 ⟨k,a⟩)
def al8 (h:n.c.j0=0\/(n.nx.length:Int)=n.c.hY) (b:n.c.j0=2) (a:(dq n.c)[k]? = some x):x<(n.nx.length:Int):=by
 have:=aaa a; omega
end
section
variable {n:Nd} {c:b5}
def nq {b:Bool} (h:b=false):¬ b=true:=by rw [h]; decide
def anz (h:n.d.down=true):dG n c=⟨n,0,0,30⟩:=eg h
def apv (h:n.d.down=false) (a:¬ n.c.j0=2):dG n c=⟨n,0,0,33⟩:=by rw [dG,dc (nq h),eg a]
def anF (h:n.d.down=false) (b:n.c.j0=2) (a:¬ aP c n.c.s.a8=0):dG n c=⟨n,0,0,aP c n.c.s.a8⟩:=by rw [dG,dc (nq h),dc az,eg a]
variable (h:n.d.down=false) (h1:n.c.j0=2) (h2:aP c n.c.s.a8=0)
include h h1 h2
def aob (a:c.kind=8) (b:¬ c.n=n.c.s.a8+1):dG n c=⟨n,0,0,1⟩:=by rw [dG,dc (nq h),dc az,dc az,eg ⟨a,b⟩]
def alM (d:¬ c.kind=8\/c.n=n.c.s.a8+1) (a:c.kind=8) (b:lX n.c.s.a8 n.bn=false):dG n c=⟨n,0,0,34⟩:=by rw [dG,dc (nq h),dc az,dc az,dc az,eg ⟨a,b⟩]
variable (h3:¬ c.kind=8\/c.n=n.c.s.a8+1) (h4:¬ c.kind=8\/lX n.c.s.a8 n.bn=true)
include h3 h4
theorem Xq:dG n c=if 64<(n.c.st.log.length:Int)+1 then ⟨n,0,0,20⟩ else if ¬ (eX c n.c.st.bo n.c.s.a8).2=0 then ⟨n,0,0,(eX c n.c.st.bo n.c.s.a8).2⟩
 else let l:=[⟨3,(n.c.st.log.length:Int)+1,(eX c n.c.st.bo n.c.s.a8).1.bo,(eX c n.c.st.bo n.c.s.a8).1.b⟩]
  if n.bd l=0 then ⟨n.ep l,(n.c.st.log.length:Int)+1,n.c.st.bo,0⟩ else ⟨n.ep l,0,0,n.bd l⟩:=by
 rw [dG,dc (nq h),dc az,dc az,dc az,dc];grind
def anB (a:64<(n.c.st.log.length:Int)+1):dG n c=⟨n,0,0,20⟩:=by rw [Xq h h1 h2 h3 h4,eg a]
variable (h5:(n.c.st.log.length:Int)+1<=64)
include h5
def alV (a:¬ (eX c n.c.st.bo n.c.s.a8).2=0):dG n c=⟨n,0,0,(eX c n.c.st.bo n.c.s.a8).2⟩:=by rw [Xq h h1 h2 h3 h4,dc az,eg a]
def anT (d:(eX c n.c.st.bo n.c.s.a8).2=0) (a:¬ n.bd [⟨3,(n.c.st.log.length:Int)+1,(eX c n.c.st.bo n.c.s.a8).1.bo,(eX c n.c.st.bo n.c.s.a8).1.b⟩]=0):dG n c=⟨n.ep [⟨3,(n.c.st.log.length:Int)+1,(eX c n.c.st.bo n.c.s.a8).1.bo,(eX c n.c.st.bo n.c.s.a8).1.b⟩],0,0,n.bd [⟨3,(n.c.st.log.length:Int)+1,(eX c n.c.st.bo n.c.s.a8).1.bo,(eX c n.c.st.bo n.c.s.a8).1.b⟩]⟩:=by rw [Xq h h1 h2 h3 h4,dc az,dc az]; exact dc a
def aoo (d:(eX c n.c.st.bo n.c.s.a8).2=0) (a:n.bd [⟨3,(n.c.st.log.length:Int)+1,(eX c n.c.st.bo n.c.s.a8).1.bo,(eX c n.c.st.bo n.c.s.a8).1.b⟩]=0):dG n c=⟨n.ep [⟨3,(n.c.st.log.length:Int)+1,(eX c n.c.st.bo n.c.s.a8).1.bo,(eX c n.c.st.bo n.c.s.a8).1.b⟩],(n.c.st.log.length:Int)+1,n.c.st.bo,0⟩:=by rw [Xq h h1 h2 h3 h4,dc az,dc az]; exact eg a
end
section
variable {n:Nd} {x:eR}
def am5 (h:¬ (aZ n.c.st x).2.2=0):dt n x=⟨n,[],(aZ n.c.st x).2.2⟩:=eg h
def ap0 (h:(aZ n.c.st x).2.2=0) (a:¬ n.bd (aZ n.c.st x).1=0):dt n x=⟨n.ep (aZ n.c.st x).1,[],n.bd (aZ n.c.st x).1⟩:=by rw [dt,dc az,eg a]
def amX (h:(aZ n.c.st x).2.2=0) (a:n.bd (aZ n.c.st x).1=0):dt n x=⟨n.ep (aZ n.c.st x).1,[{ sN (n.ep (aZ n.c.st x).1).c 2 x.n7 with ok:=(aZ n.c.st x).2.1 }],0⟩:=by rw [dt,dc az,dc az]
theorem WE {s:c4}:(aZ s x).1.length<=1000:=by
 have h:=gJ (s:=s) (t:=x.bo);unfold aZ;grind
end
def aep (n:Nd):List (Nat × LI):=[(7,{ σ:=Nat,F:=fun k=>([(0,one (.ptr 0 0)),(4,one (.own 8)),(21,one (.fz .int (dq n.c))),(22,one (.int (dq n.c).length)),(23,one (.int k))],(mK (n)++[.row 40 (.nm .letter) (((cZ n ((dq n.c).take k)).1))])),J:=fun k=>k<=(dq n.c).length/\(cZ n ((dq n.c).take k)).2=0,μ:=fun k=>(dq n.c).length - k })]
def Hv:Kn:=aH (ae (kC (bm 0 0)) ao) tW fun _ n=>⟨[n.c.hY<=5,n.c.j0=0\/(n.nx.length:Int)=n.c.hY],[.c (.fz (.nm .letter) (((cJ n).1))),.c (.int (((cJ n).2)))],none,false⟩
theorem WK:CK 31 Hv:=ag fun _ n k=>by
 have l:=b_ k;have m:=b_ (dv k);refine aq oY (aep n) func31 (?_:(fun (i:Prop)=>(fun (e:Int)=>(fun (a:List Int)=>(fun (b:Nat)=>(n.d.down=true->i/\30=(cJ n).snd)/\(n.d.down=false->(¬n.c.j0=2->i/\33=(cJ n).snd)/\(n.c.j0=2->n.c.hY<=5/\(a.length*8<=140737488355328->∃ (g:Nat),(a=a/\(a.length:Int)=(b:Int)/\e=(g:Int)/\vX n n ((cZ n (take g a)).fst=[]))/\(g<=b/\(cZ n (take g a)).snd=e)/\∀ (s:Nat),(fun (j:List eR)=>s<=b/\(cZ n (take s a)).snd=e->((s:Int)<(b:Int)->e<=(s:Int)/\(s:Int)<(a.length:Int)/\∀ (x:Int),(fun (h:Int)=>a[s]? = some x->a7 x->(e<=x/\x<(n.nx.length:Int))/\bf (jN n x).fst (a7 h->(¬h=e->i/\h=(cJ n).snd)/\(h=e->(j.length+[(jN n x).fst].length)*96<=140737488355328/\a7 ((s:Int)+1)/\∃ (f:Nat),(a=a/\(b:Int)=(b:Int)/\(s:Int)+1=(f:Int)/\vX n n (j++[(jN n x).fst]=(cZ n (take f a)).fst))/\(f <= b/\(cZ n (take f a)).snd=e)/\b - f < b - s))) (jN n x).snd)/\((b:Int)<=(s:Int)->j=(cJ n).fst/\e=(cJ n).snd)) (cZ n (take s a)).fst)))) a.length) (dq n.c)) 0) ((cJ n).fst=[]));iterate 3 ((all_goals (repeat' with_reducible first|apply aT|refine aW ?_|intro)); (all_goals try (first | exact bR | exact (aiE ab ab ab).1 | exact (aiE ab ab ab).2 | exact (ao2 l) | exact (aaa ab).2.1 | exact (al8 m ab ab) | (rw [aoR (n:=n) ab] <;> rfl) | (rw [amM (n:=n) ab ab] <;> rfl) | (rw [aoX (n:=n) ab ab ab ab ab] <;> rfl) | (rw [apk (n:=n) ab ab ab ab] <;> rfl))); all_goals try first | refine ⟨‹Nat› + 1,?_⟩ | refine ⟨0,?_⟩)
def Hn:Kn:=aH (ae (kC (bm 0 0)) (ae (kT (.nm .command)) ao)) tW fun (_,c,_) n=>⟨[o8 n],[.c (.int (((dG n c).a))),.c (.int (((dG n c).b))),.c (.int (((dG n c).e)))],some ((mK ((dG n c).n))),false⟩
theorem YC:CK 15 Hn:=ag fun (_,c,_) n t=>by
 have r:=b_ t;refine bP oY [] func15 (?_:(fun o=>(fun j=>(fun q=>(fun p=>(fun h=>(fun i=>(fun f=>(fun g=>(fun k=>(fun l=>(fun m=>bc c ((n.d.down=true->l/\k/\30=f.e/\g)/\(n.d.down=false->(¬n.c.j0=2->l/\k/\33=f.e/\g)/\(n.c.j0=2->a7 (aP c j)->(¬aP c j=h->l/\k/\aP c j=f.e/\g)/\(aP c j=h->(o->a7 q)/\(o/\¬c.n=q->l/\k/\1=f.e/\g)/\(¬o\/c.n=q->(o/\lX j n.bn=false->l/\k/\34=f.e/\g)/\(¬o\/lX j n.bn=true->a7 p/\(64<p->l/\k/\20=f.e/\g)/\(p<=64->a7 i.fst.bo->i.fst.b.length*1<=140737488355328->a7 i.snd->(¬i.snd=h->l/\k/\i.snd=f.e/\g)/\(i.snd=h->(h<=n.d.ee/\n.d.ee<=(n.d.b.length:Int)/\n.d.b.length<=65536)/\n.c.st.log.length<=10000/\m.length<=1000/\(a7 (n.bd m)->(¬n.bd m=h->l/\k/\n.bd m=f.e/\cK (n.ep m) f.n)/\(n.bd m=h->p=f.a/\n.c.st.bo=f.b/\h=f.e/\cK (n.ep m) f.n))))))))))) [c9.mk 3 p i.fst.bo i.fst.b]) (h=f.a)) (h=f.b)) (cK n f.n)) (dG n c)) (eX c n.c.st.bo j)) (0:Int)) ((n.c.st.log.length:Int)+1)) (j+1)) n.c.s.a8) (c.kind=8));obtain ⟨u,v,w⟩:=id r.d;have x:=r.log;(repeat' with_reducible first|apply aT|refine aW ?_|intro)
 all_goals (first | exact bR | (simp only [y4,C1]; omega) | (have i:=(zu (by with_reducible assumption:aP c n.c.s.a8=0)).1; exact cY az az) | (rw [anz (n:=n) ab] <;> rfl) | (rw [apv (n:=n) ab ab] <;> rfl) | (rw [anF (n:=n) ab ab ab] <;> rfl) | (rw [aob (n:=n) ab ab ab ab ab] <;> rfl) | (rw [alM (n:=n) ab ab ab ab ab ab] <;> rfl) | (rw [anB (n:=n) ab ab ab ab ab ab] <;> rfl) | (rw [alV (n:=n) ab ab ab ab ab ab ab] <;> rfl) | (rw [anT (n:=n) ab ab ab ab ab ab ab ab] <;> rfl) | (rw [aoo (n:=n) ab ab ab ab ab ab ab ab] <;> rfl))
def Co:Kn:=aH (ae (kC (bm 0 0)) (ae (kT (.nm .letter)) ao)) tW fun (_,x,_) n=>⟨[o8 n],[.c (.fz (.nm .letter) (((dt n x).l))),.c (.int (((dt n x).e)))],some ((mK ((dt n x).n))),false⟩
def Qb:CK 56 Co:=ag fun (_,x,_) n m=>by
 have k:=b_ m;refine bP oY [] func56 (?_:(fun i=>(fun h=>(fun f=>(fun j=>(fun g=>bf x (f.fst.length*48<=140737488355328->a7 f.snd.snd->(¬f.snd.snd=i->h.l=[]/\f.snd.snd=h.e/\cK n h.n)/\(f.snd.snd=i->(i<=n.d.ee/\n.d.ee<=(n.d.b.length:Int)/\n.d.b.length<=65536)/\n.c.st.log.length<=10000/\f.fst.length<=1000/\(a7 j->(¬j=i->h.l=[]/\j=h.e/\cK (n.ep f.fst) h.n)/\(j=i->bf g ([eR.mk g.kind g.n7 g.to g.bo g.a g.b g.c g.bin f.snd.fst g.l]=h.l/\i=h.e/\cK (n.ep f.fst) h.n)))))) (sN (n.ep f.fst).c 2 x.n7)) (n.bd f.fst)) (aZ n.c.st x)) (dt n x)) (0:Int));obtain ⟨o,p,q⟩:=id k.d;have r:=k.log;(repeat' with_reducible first|apply aT|refine aW ?_|intro)
 all_goals (first | exact bR | exact WE | (rw [am5 (n:=n) ab] <;> rfl) | (rw [ap0 (n:=n) ab ab] <;> rfl) | (rw [amX (n:=n) ab ab] <;> rfl))
def aah:ck:=(aI 56 Co (aI 15 Hn (aI 31 Hv ZZ)))
def tM:ay prog (av l6) aah:=(ah Qb (ah YC (ah WK oY)))
section
variable {n:Nd} {k:Nat} {y:Int}
theorem MT {s:c4} {m:Int}:(bh s m).1.length<=1000:=by
 unfold bh;grind
def al1 (h:n.d.down=true):bN n=⟨n,[],30⟩:=eg h
variable (h:n.d.down=false)
include h
def aoV (a:n.c.j0=2):bN n=⟨n,[],0⟩:=by rw [bN,dc (nq h),eg a]
variable (h1:¬ n.c.j0=2)
include h1
def amZ (a:¬ (bh n.c.st n.c.me).2=0):bN n=⟨n,[],(bh n.c.st n.c.me).2⟩:=by rw [bN,dc (nq h),dc h1,eg a]
variable (h2:(bh n.c.st n.c.me).2=0)
include h2
def aog (a:¬ n.bd (bh n.c.st n.c.me).1=0):bN n=⟨n.ep (bh n.c.st n.c.me).1,[],n.bd (bh n.c.st n.c.me).1⟩:=by rw [bN,dc (nq h),dc h1,dc az,eg a]
variable (h3:n.bd (bh n.c.st n.c.me).1=0)
include h3
def ahe:bN n=⟨(n.ep (bh n.c.st n.c.me).1).fj,gU (n.ep (bh n.c.st n.c.me).1).fj.c,0⟩:=by rw [bN,dc (nq h),dc h1,dc az,dc az]
def ao9 (a:((dq (n.ep (bh n.c.st n.c.me).1).fj.c).length:Int)<=k):(gU (n.ep (bh n.c.st n.c.me).1).fj.c).take k=(bN n).l:=by
 rw [ahe h h1 h2 h3];exact r6 (by unfold gU; rw [J4]; omega)
end
section
variable {c:y8} {k:Nat} {y:Int} {z:eR}
theorem aom (a:c.hY<=5):(((gU c).take k).length+[z].length)*96<=140737488355328:=by
 have b:(dq c).length<=c.hY.toNat:=sC;rw [s9,gU,J4];grind
def anq (a:(k:Int)<((dq c).length:Nat)) (b:c.hY<=5):a7 ((k:Int)+1):=by
 have d:(dq c).length<=c.hY.toNat:=sC;exact cY az az
def an3 (d:(dq c)[k]? = some y):(gU c).take k++[eR.mk (sN c 1 y).kind (sN c 1 y).n7 (sN c 1 y).to (sN c 1 y).bo c.st.log.length (jh c.st.log) (sN c 1 y).c (sN c 1 y).bin (sN c 1 y).ok (sN c 1 y).l]=(gU c).take (k+1):=by
 have:(gU c)[k]? = some { sN c 1 y with a:=c.st.log.length,b:=jh c.st.log }:=by
  unfold gU; rw [List.getElem?_map,d]; rfl
 rw [aj this]
end
section
variable {n:Nd} {x:eR}
def apb (h:¬ (aD n.c.st x).2.2.2=0):cF n x=⟨n,[],(aD n.c.st x).2.2.2⟩:=eg h
variable (h:(aD n.c.st x).2.2.2=0)
include h
def amt (a:¬ n.bd (aD n.c.st x).1=0):cF n x=⟨n.ep (aD n.c.st x).1,[],n.bd (aD n.c.st x).1⟩:=by rw [cF,dc az,eg a]
variable (h1:n.bd (aD n.c.st x).1=0)
include h1
def apW (b:x.bo=(n.ep (aD n.c.st x).1).c.st.bo) (d:(aD n.c.st x).2.1=true):cF n x=⟨({ (n.ep (aD n.c.st x).1) with c:={ (n.ep (aD n.c.st x).1).c with j0:=0,c7:=max (n.ep (aD n.c.st x).1).c.c7 (min x.c (aD n.c.st x).2.2.1) } }:Nd).apply,[{ sN { (n.ep (aD n.c.st x).1).c with j0:=0 } 4 x.n7 with ok:=(aD n.c.st x).2.1,a:=(aD n.c.st x).2.2.1 }],0⟩:=by
 rw [cF,dc az,dc az,d];dsimp only;rw [eg b]; rfl
theorem ama (d:¬ x.bo=(n.ep (aD n.c.st x).1).c.st.bo) (b:(aD n.c.st x).2.1=true):cF n x=⟨({ (n.ep (aD n.c.st x).1) with c:={ (n.ep (aD n.c.st x).1).c with c7:=max (n.ep (aD n.c.st x).1).c.c7 (min x.c (aD n.c.st x).2.2.1) } }:Nd).apply,[{ sN (n.ep (aD n.c.st x).1).c 4 x.n7 with ok:=(aD n.c.st x).2.1,a:=(aD n.c.st x).2.2.1 }],0⟩:=by
 rw [cF,dc az,dc az,b];grind
def apX (b:x.bo=(n.ep (aD n.c.st x).1).c.st.bo) (d:(aD n.c.st x).2.1=false):cF n x=⟨(n.ep (aD n.c.st x).1).follow,[{ sN { (n.ep (aD n.c.st x).1).c with j0:=0 } 4 x.n7 with ok:=(aD n.c.st x).2.1,a:=min 64 ((n.ep (aD n.c.st x).1).c.st.log.length:Int) }],0⟩:=by
 rw [cF,dc az,dc az,d];dsimp only;rw [eg b,dc am];split
 ·rfl
 rename_i q; exact absurd b q
theorem aoG (b:¬ x.bo=(n.ep (aD n.c.st x).1).c.st.bo) (a:(aD n.c.st x).2.1=false):cF n x=⟨n.ep (aD n.c.st x).1,[{ sN (n.ep (aD n.c.st x).1).c 4 x.n7 with ok:=(aD n.c.st x).2.1 }],0⟩:=by
 rw [cF,dc az,dc az,a];dsimp only;split
 ·grind
 rfl
end
theorem LM {s:c4} {x:eR}:(aD s x).1.length<=1000:=by
 by_cases h:(aD s x).2.2.2=0
 ·obtain ⟨⟨b,_⟩,a⟩:=gM h;rcases a with ⟨_,e⟩ | ⟨_,_,e⟩ | ⟨_,_,e⟩ <;> rw [e]
  ·simp
  ·grind [wL]
  grind [gJ]
 have e:aD s x=([],false,0,1):=by
  unfold aD at h ⊢;grind
 rw [e]; simp
def Lc (n:Nd):List (Nat × LI):=[(17,{ σ:=Nat,F:=fun k=>([(0,one (.ptr 0 0)),(7,one (.int (n.ep (bh n.c.st n.c.me).1).c.st.log.length)),(8,one (.int (jh (n.ep (bh n.c.st n.c.me).1).c.st.log))),(9,one (.own 12)),(113,one (.fz .int (dq (n.ep (bh n.c.st n.c.me).1).fj.c))),(114,one (.int (dq (n.ep (bh n.c.st n.c.me).1).fj.c).length)),(115,one (.int k))],[.box 103 (P6 0 (((n.ep (bh n.c.st n.c.me).1).fj.c))++[.own 3,.own 8,.own 9,.own 10,.own 11]),.box 147 ([.own 2,.int (((n.ep (bh n.c.st n.c.me).1).fj.d.ee)),.bool (.atom (((n.ep (bh n.c.st n.c.me).1).fj.d.down))),.bool (.atom (((n.ep (bh n.c.st n.c.me).1).fj.d.jx))),.int (((n.ep (bh n.c.st n.c.me).1).fj.d.dm))]),.row 5 .u8 (((n.ep (bh n.c.st n.c.me).1).fj.d.b)),.row 78 (.nm .nd) ((n.rp)),.row 4 .bool ((n.vs)),.row 3 .int ((n.bn)),.row 3 .int ((n.nx)),.row 3 .int ((n.mt)),.row 4 .bool (((n.ep (bh n.c.st n.c.me).1).fj.vs)),.row 3 .int (((n.ep (bh n.c.st n.c.me).1).fj.bn)),.row 3 .int (((n.ep (bh n.c.st n.c.me).1).fj.nx)),.row 3 .int (((n.ep (bh n.c.st n.c.me).1).fj.mt)),.row 40 (.nm .letter) (((gU (n.ep (bh n.c.st n.c.me).1).fj.c).take k))]),J:=fun k=>k<=(dq (n.ep (bh n.c.st n.c.me).1).fj.c).length,μ:=fun k=>(dq (n.ep (bh n.c.st n.c.me).1).fj.c).length - k })]
def sU:Kn:=aH (ae (kC (bm 0 0)) ao) tW fun _ n=>⟨[o8 n],[.c (.fz (.nm .letter) (((bN n).l))),.c (.int (((bN n).e)))],some ((mK ((bN n).n))),false⟩
theorem Ga:CK 14 sU:=ag fun _ n I=>by
 have w:=b_ I;refine bP tM (Lc n) func14 (?_:(fun (p:Int)=>(fun (k:H8)=>(fun (A:Int)=>(fun (v:List c9 × Int)=>(fun (C:Int)=>(fun (q:Nd)=>(fun (m:y8)=>(fun (h:Int)=>(fun (D:List ec)=>(fun (r:Int)=>(fun (u:Int)=>(fun (o:Int)=>(fun (t:List (l5 Sh.int))=>(fun (y:List Int)=>(fun (z:Prop)=>(fun (j:Nd)=>(fun (f:n9)=>(fun (a:y8)=>(fun (g:Nat)=>(n.d.down=true->k.l=[]/\(30:Int)=k.e/\cK n k.n)/\(n.d.down=false->(n.c.j0=(2:Int)->k.l=[]/\p=k.e/\cK n k.n)/\(¬n.c.j0=(2:Int)->n.c.st.bo<=(1048576:Int)/\(v.fst.length*(48:Nat)<=(140737488355328:Nat)->a7 v.snd->(¬v.snd=p->k.l=[]/\v.snd=k.e/\cK n k.n)/\(v.snd=p->(p<=n.d.ee/\n.d.ee<=(n.d.b.length:Int)/\n.d.b.length<=(65536:Nat))/\n.c.st.log.length<=(10000:Nat)/\v.fst.length<=(1000:Nat)/\(a7 C->(¬C=p->k.l=[]/\C=k.e/\cK q k.n)/\(C=p->(p<=o/\o*(↑(1:Nat):Int)<=(140737488355328:Int)/\o=o)/\z/\z/\z/\p<=h/\h<(↑(replicate o.toNat (c5 Sh.bool)).length:Int)/\p<=h/\h<(t.length:Int)/\(a7 (t.getD h.toNat (c5 Sh.int))->a7 (D.length:Int)->a7 r->o<=(5:Int)/\(y.length*(8:Nat)<=(140737488355328:Nat)->∃ (G:Nat),((D.length:Int)=u/\r=r/\y=dq a/\(y.length:Int)=(g:Int)/\p=(G:Int)/\h=a.me/\o=a.hY/\m.bin=a.bin/\aN m.st a.st (A=a.j0/\m.c7=a.c7/\m.c3=a.c3/\bS m.s a.s (q.d.ee=f.ee/\q.d.down=f.down/\q.d.jx=f.jx/\q.d.dm=f.dm/\q.d.b=f.b/\q.rp=n.rp/\q.vs=n.vs/\q.bn=n.bn/\q.nx=n.nx/\q.mt=n.mt/\(replicate o.toNat (c5 Sh.bool)).set h.toNat true=j.vs/\t.set h.toNat m.bin=j.bn/\t=j.nx/\t=j.mt/\take G (gU a)=[])))/\G<=g/\∀ (s:Nat),s<=g->((s:Int)<(g:Int)->p<=(s:Int)/\(s:Int)<(↑(dq a).length:Int)/\∀ (x:Int),(fun (i:eR)=>(fun (B:eR)=>(dq a)[s]? = some x->a7 x->bf i (((take s (gU a)).length+[B].length)*(96:Nat)<=(140737488355328:Nat)/\a7 ((s:Int)+A)/\∃ (F:Nat),(u=u/\r=r/\dq a=dq a/\(g:Int)=(g:Int)/\(s:Int)+A=(F:Int)/\a.me=a.me/\a.hY=a.hY/\a.bin=a.bin/\aN a.st a.st (a.j0=a.j0/\a.c7=a.c7/\a.c3=a.c3/\bS a.s a.s (f.ee=f.ee/\f.down=f.down/\f.jx=f.jx/\f.dm=f.dm/\f.b=f.b/\n.rp=n.rp/\n.vs=n.vs/\n.bn=n.bn/\n.nx=n.nx/\n.mt=n.mt/\j.vs=j.vs/\j.bn=j.bn/\j.nx=j.nx/\j.mt=j.mt/\take s (gU a)++[B]=take F (gU a))))/\F <= g/\g - F < g - s)) (eR.mk i.kind i.n7 i.to i.bo u r i.c i.bin i.ok i.l)) (sN a A x))/\((g:Int)<=(s:Int)->take s (gU a)=k.l/\p=k.e/\cK (Nd.mk a f n.rp j.vs j.bn j.nx j.mt) k.n)))))))))) (dq a).length) j.c) j.d) q.fj) (p<=o/\o*(↑(8:Nat):Int)<=(140737488355328:Int)/\o=o)) (dq (y8.mk h o m.bin m.st A m.c7 m.c3 m.s))) (replicate o.toNat (c5 Sh.int))) m.hY) (D.length:Int)) (jh D)) m.st.log) m.me) q.c) (n.ep v.fst)) (n.bd v.fst)) (bh n.c.st n.c.me)) (1:Int)) (bN n)) (0:Int))
 obtain ⟨J,K,L⟩:=id w.d;have N:=w.log;have H:=w.hY;have O:=w.me;have o7:=w.y3;have P:=w.bo;have Q:=w.rp;iterate 3 ((all_goals (repeat' with_reducible first|apply aT|refine aW ?_|intro)); (all_goals try (first | exact bR | exact rfl | exact MT | exact (ao9 ab ab ab ab ab) | exact (an3 ab) | exact (aom H.2) | exact (anq (c:=(n.ep (bh n.c.st n.c.me).1).fj.c) ab H.2) | (dsimp only [Nd.ep]; omega) | (rw [L6]; dsimp only [Nd.ep]; omega) | (rw [al1 (n:=n) ab] <;> rfl) | (rw [aoV (n:=n) ab ab] <;> rfl) | (rw [amZ (n:=n) ab ab ab] <;> rfl) | (rw [aog (n:=n) ab ab ab ab] <;> rfl) | (rw [ahe (n:=n) ab ab ab ab] <;> rfl))); all_goals try first | refine ⟨‹Nat› + 1,?_⟩ | refine ⟨0,?_⟩)
def wT:Kn:=aH (ae (kC (bm 0 0)) (ae (kT (.nm .letter)) ao)) tW fun (_,x,_) n=>⟨[o8 n,dK n.c x=true,x.kind=3],[.c (.fz (.nm .letter) (((cF n x).l))),.c (.int (((cF n x).e)))],some ((mK ((cF n x).n))),false⟩
def KO:CK 57 wT:=ag fun (_,x,_) n D=>by
 have u:=b_ D;have B:=b_ (dv D);have C:=b_ (dv (dv D));refine bP tM [] func57 (?_:(fun r=>(fun F=>(fun j=>(fun p=>(fun v=>(fun q=>(fun o=>(fun H=>(fun G=>(fun i=>(fun h=>(fun t=>(fun m=>(fun w=>(fun k=>(fun y=>(fun z=>(fun A=>(fun f=>(fun g=>bf x (r.length*48<=140737488355328->a7 q.snd.fst->a7 q.snd.snd->(¬q.snd.snd=p->j.l=[]/\q.snd.snd=j.e/\cK n j.n)/\(q.snd.snd=p->(p<=n.d.ee/\n.d.ee<=(n.d.b.length:Int)/\n.d.b.length<=65536)/\n.c.st.log.length<=10000/\r.length<=1000/\(a7 (n.bd r)->(¬n.bd r=p->j.l=[]/\n.bd r=j.e/\cK i j.n)/\(n.bd r=p->(k->bf g ((o=true->y/\[eR.mk g.kind g.n7 g.to g.bo q.snd.fst g.b g.c g.bin o g.l]=j.l/\v/\cK (Nd.mk (y8.mk h.me h.hY h.bin h.st p t m h.s) i.d i.rp i.vs i.bn i.nx i.mt).apply j.n)/\(o=false->(k->[eR.mk g.kind g.n7 g.to g.bo w g.b g.c g.bin o g.l]=j.l/\A)/\(¬k->[eR.mk g.kind g.n7 g.to g.bo g.a g.b g.c g.bin o g.l]=j.l/\A))))/\(¬k->bf f ((o=true->y/\[eR.mk f.kind f.n7 f.to f.bo q.snd.fst f.b f.c f.bin o f.l]=j.l/\v/\cK (Nd.mk (y8.mk h.me h.hY h.bin h.st h.j0 t m h.s) i.d i.rp i.vs i.bn i.nx i.mt).apply j.n)/\(o=false->(k->[eR.mk f.kind f.n7 f.to f.bo w f.b f.c f.bin o f.l]=j.l/\v/\cK i j.n)/\(¬k->[eR.mk f.kind f.n7 f.to f.bo f.a f.b f.c f.bin o f.l]=j.l/\v/\cK i j.n))))))))) (sN z G F)) (sN h G F)) (v/\cK (Nd.mk z i.d i.rp i.vs i.bn i.nx i.mt) j.n)) (y8.mk h.me h.hY h.bin h.st p h.c7 m h.s)) ((p<=m/\t<=(h.st.log.length:Int))/\(i.rp.length:Int)<=m/\h.st.log.length<=10000)) (x.bo=h.st.bo)) (min 64 (h.st.log.length:Int))) h.c3) (max h.c7 H)) i.c) (n.ep r)) (4:Int)) (min x.c q.snd.fst)) q.fst) (aD n.c.st x).snd) (p=j.e)) (0:Int)) (cF n x)) x.n7) (aD n.c.st x).fst);obtain ⟨I,J,K⟩:=id u.d;have L:=u.log;(repeat' with_reducible first|apply aT|refine aW ?_|intro)
 all_goals (first | exact bR | exact LM | exact (Jg u B C ab ab).1.1 | exact (Jg u B C ab ab).1.2 | exact (Jg u B C ab ab).2.1 | exact (Jg u B C ab ab).2.2 | (rw [apb (n:=n) ab] <;> rfl) | (rw [amt (n:=n) ab ab] <;> rfl) | (rw [apW (n:=n) ab ab ab ab] <;> rfl) | (rw [ama (n:=n) ab ab ab ab] <;> rfl) | (rw [apX (n:=n) ab ab ab ab] <;> rfl) | (rw [aoG (n:=n) ab ab ab ab] <;> rfl))
def aad:ck:=(aI 57 wT (aI 14 sU aah))
def vI:ay prog (av l6) aad:=(ah KO (ah Ga tM))
theorem s6.apo {P:Program} {shp:TypeId->Option Sh} {f:Nat} {args m:List n8} {q B:AH} {pre:List Prop} (J:iC q [0,1,2] [0,1,2]=true) (K:qB (posOf · [0,1,2]) (lY q [0,1,2])=B) (u:∀ (c L:Cx) (x a:List RE) o,hQ (dJ c x) m o->hQ (dJ L a) m o) (h:s6 P shp f args (mK n) ⟨pre,m,some q,false⟩):s6 P shp f args (mK n) ⟨pre,m,some B,false⟩:=by
 refine ⟨h.1,fun G x w N O y Q=>(h.2 G x w N O y Q).mono ?_⟩;rintro v Y ⟨o,S,a,A,k,T,U,k5⟩;obtain ⟨C,m2⟩:=A.sub (σ:=[0,1,2]) (Z':=G.Z) rfl J A.z (fun _ h _=>h) (fun b p=>by
  obtain ⟨i,r,d,D⟩:=hU p;exact (A.sr i r b d D).2.2)
 rw [K] at C;refine ⟨o,S,dL a [0,1,2],C,⟨k.os,k.tape,k.output,k.size,fun b F p=>⟨fun h=>(k.x4 b F p).1 (hU h),(k.x4 b F p).2⟩⟩,fun i g h=>?_,u _ _ _ _ _ U,fun h=>by cases h⟩;have l:∀ (j:Nat) (t:TypeId) (s:Sh) (H:List (l5 s)),(mK n)[j]? = some (.row t s H)->i≠j:=fun j t s H V e=>by
  subst e;obtain ⟨r,I,d⟩:=y.at_ V;rw [h] at I; cases I;obtain ⟨_,_,d | ⟨_,_,_,_,d,_⟩⟩:=d
  ·grind
  cases d
 have W:i<8:=by
  have d:=(r3.1 h).1;have D:(mK n).length=8:=rfl;have X:=y.obj.length;omega
 have X:=l 3 _ _ _ rfl;have h4:=l 4 _ _ _ rfl;have h5:=l 5 _ _ _ rfl;have h6:=l 6 _ _ _ rfl;have h7:=l 7 _ _ _ rfl;have hk:=T i g h;have:i=0\/i=1\/i=2:=by omega
 rcases this with rfl | rfl | rfl
 ·simp_all [pQ]
 ·simp_all [pQ]
 simp_all [pQ]
def acs {e:Int} (c b:Cx) (f a:List RE) (d:List Value) (h:hQ (dJ c f) [.c (.int e)] d):hQ (dJ b a) [.c (.int e)] d:=by
 cases h with | cons g i=>?_
 cases i;cases g with | int j=>exact .cons (show Pd b (.int e) _ from .int j) .nil
def ij (me a:Int):Nd:=⟨⟨me,a,0,rl,0,0,0,⟨0,0,0,0,[],[],[]⟩⟩,⟨[],0,true,false,0⟩,[],[],[],[],[]⟩
def Ko:Kn:=aH (ae (kC cI) (ae (kC cI) ao)) au fun (me,a,_) _=>⟨[3<=a/\a<=5/\0<=me/\me<a],[.c (.ptr 0 0),.c (.int ((0)))],some ([.box 103 (P6 0 (((ij me a).c))++[.em true,.em true,.em true,.em true,.em true]),.box 147 ([.own 2,.int (((ij me a).d.ee)),.bool (.atom (((ij me a).d.down))),.bool (.atom (((ij me a).d.jx))),.int (((ij me a).d.dm))]),.row 5 .u8 (((ij me a).d.b))]),true⟩
def GP:CK 12 Ko:=ag fun (me,a,_) _ i=>by
 have j:=b_ i;refine cr vI [] func12 (?_:(fun (e:Int)=>(fun (h:n9)=>(fun (g:Nd)=>(fun (f:y8)=>a7 me->a7 a->(((a<(3:Int)\/(5:Int)<a)\/me<e)\/a<=me->False/\(1:Int)=e/\False/\False/\g.d.b=[])/\((((3:Int)<=a/\a<=(5:Int))/\e<=me)/\me<a->(e<=e/\e<=(↑(0:Nat):Int)/\(0:Nat)<=(65536:Nat))/\e=e/\me=f.me/\a=f.hY/\e=f.bin/\e=f.st.floor/\e=f.st.bo/\e=f.st.jc/\f.st.log=[]/\e=f.j0/\e=f.c7/\e=f.c3/\e=f.s.a8/\e=f.s.next/\e=f.s.dm/\e=f.s.ea/\f.s.b8=[]/\f.s.c6=[]/\f.s.b6=[]/\h.ee=g.d.ee/\h.down=g.d.down/\h.jx=g.d.jx/\h.dm=g.d.dm/\h.b=g.d.b)) g.c) (ij me a)) ((n9.mk [] e false false e).dr e)) (0:Int));(repeat' with_reducible first|apply aT|refine aW ?_|intro)
 all_goals (exact bR)
def ZH (me:Int) (a:Int) (f:3<=a/\a<=5/\0<=me/\me<a):s6 prog (av l6) 12 [.c (.int (me)),.c (.int (a))] [] ⟨[3<=a/\a<=5/\0<=me/\me<a],[.c (.ptr 0 0),.c (.int ((0)))],some ([.box 103 (P6 0 (((ij me a).c))++[.em true,.em true,.em true,.em true,.em true]),.box 147 ([.own 2,.int (((ij me a).d.ee)),.bool (.atom (((ij me a).d.down))),.bool (.atom (((ij me a).d.jx))),.int (((ij me a).d.dm))]),.row 5 .u8 (((ij me a).d.b))]),true⟩:=GP _ _ _ rfl (by intro p e; simp only [u2,R2,or_false] at e; subst e; exact f)
def afg (me:Int) (a:Int) (b:3<=a/\a<=5/\0<=me/\me<a):s6 prog (av l6) 12 [.c (.int (me)),.c (.int (a))] [] ⟨[3<=a/\a<=5/\0<=me/\me<a],[.c (.ptr 0 0),.c (.int ((0)))],some ((mK ((ij me a)))),true⟩:=s6.SF 0 22 3 .int cm rfl rfl (s6.SF 0 21 3 .int cm rfl rfl (s6.SF 0 20 3 .int cm rfl rfl (s6.SF 0 19 4 .bool cm rfl rfl (s6.SF 0 18 78 (.nm .nd) cm rfl rfl (ZH me a b) rfl) rfl) rfl) rfl) rfl
def PN:Kn:=aH (ae (kC cI) (ae (kC cI) ao)) au fun (me,a,_) _=>⟨[3<=a/\a<=5/\0<=me/\me<a],[.c (.ptr 0 0),.c (.int ((0)))],some ((mK ((ij me a)))),true⟩
def afw:CK 12 PN:=ag fun (me,a,_) _ b=>afg me a (b_ b)
def Ey:Kn:=aH (ae (kC (bm 0 0)) (ae (kC (cL (.nm .record))) ao)) (aF (eu 103 (lNd 0 (ax (O9 true) (ax (O9 true) (ax (O9 true) (ax (O9 true) (ax (O9 true) dY))))))) (aF (eu 147 (ax (fE 2) (ax cI (ax cB (ax cB (ax cI dY)))))) (aF (fD 5 .u8) au))) fun (_,l,_) ((a,_,_,_,_,_,_),(_,e,f,g,h,_),i,_)=>⟨[(n9.mk i e f g h).OK,a.st.log.length<=10000,l.length<=1000],[.c (.int (((Nd.mk a ⟨i,e,f,g,h⟩ [] [] [] [] []).bd l)))],some ([.box 103 (P6 0 ((((Nd.mk a ⟨i,e,f,g,h⟩ [] [] [] [] []).ep l).c))++[.em true,.em true,.em true,.em true,.em true]),.box 147 ([.own 2,.int ((((Nd.mk a ⟨i,e,f,g,h⟩ [] [] [] [] []).ep l).d.ee)),.bool (.atom ((((Nd.mk a ⟨i,e,f,g,h⟩ [] [] [] [] []).ep l).d.down))),.bool (.atom ((((Nd.mk a ⟨i,e,f,g,h⟩ [] [] [] [] []).ep l).d.jx))),.int ((((Nd.mk a ⟨i,e,f,g,h⟩ [] [] [] [] []).ep l).d.dm))]),.row 5 .u8 ((((Nd.mk a ⟨i,e,f,g,h⟩ [] [] [] [] []).ep l).d.b))]),false⟩
def NP:CK 47 Ey:=ag fun (_,l,_) ((e,_,_,_,_,_,_),(_,h,m,o,p,_),i,_) j=>by
 have r:=b_ j;have t:=b_ (dv j);have u:=b_ (dv (dv j));refine bP vI [] func47 (?_:(fun k=>(fun f=>(fun g=>(fun a=>(fun q=>l.length*48<=140737488355328->((0<=h/\h<=(i.length:Int)/\i.length<=65536)/\e.st.log.length<=10000/\l.length<=1000)/\cS f.snd.fst (a7 f.snd.snd->(¬f.snd.snd=0->f.snd.snd=k.bd l/\e.me=a.c.me/\e.hY=a.c.hY/\e.bin=a.c.bin/\aN e.st a.c.st q)/\(f.snd.snd=0->0=k.bd l/\e.me=a.c.me/\e.hY=a.c.hY/\e.bin=a.c.bin/\aN f.snd.fst a.c.st q))) (e.j0=a.c.j0/\e.c7=a.c.c7/\e.c3=a.c.c3/\bS e.s a.c.s (g.ee=a.d.ee/\g.down=a.d.down/\g.jx=a.d.jx/\g.dm=a.d.dm/\g.b=a.d.b))) (k.ep l)) f.fst) (l7 (n9.mk i h m o p) e.st l)) (Nd.mk e (n9.mk i h m o p) [] [] [] [] []));obtain ⟨v,w,x⟩:=id r;(repeat' with_reducible first|apply aT|refine aW ?_|intro)
 all_goals (first | exact bR | exact (Eq.symm ab) | exact (hC c4.floor (gZ ab)).symm | exact (hC c4.bo (gZ ab)).symm | exact (hC c4.jc (gZ ab)).symm | exact (hC c4.log (gZ ab)).symm)
def aaT:ck:=(aI 47 Ey (aI 12 PN (aI 12 Ko aad)))
def tq:ay prog (av l6) aaT:=(ah NP (ah afw (ah GP vI)))
